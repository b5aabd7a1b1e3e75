/-
  The reference's greatest common divisor and lowest terms (dataenclaveref06), by the abstract machine.
-/
import Derived.Test.YtnkjhialkaomfaaDoorRef06b
namespace Go.Proofs.YtnkjhialkaomfaaDoor.P
open Go.Abs Go.Proofs
set_option maxRecDepth 10000

theorem rCommon (a b : Nat) (ha2 : (a : Int) < B127) (hb2 : (b : Int) < B127) : ACall Tryd.prog 68 [.d (W a), .d (W b)] (.d (W ((Nat.gcd a b : Nat) : Int))) := by
  refine acall Tryd.func68 (by kernel_rfl) ?_
  generalize hg : Nat.gcd a b = g
  conv => whnf
  refine loop {s : Nat × Nat // (s.1 : Int) < B127 ∧ (s.2 : Int) < B127 ∧ Nat.gcd s.1 s.2 = g} (fun s => mkS 19 [(2, .ptr 2 1 0), (3, .ptr 3 1 0), (4, .ptr 4 1 0)]
    [(2, .var [.d (.int .u64 (Hi s.1.1)), .d (.int .u64 (Lo s.1.1))], 1), (3, .var [.d (.int .u64 (Hi s.1.2)), .d (.int .u64 (Lo s.1.2))], 1), (4, .var [.d (.int .u64 0), .d (.int .u64 0)], 1)]) (fun s => s.1.2) ⟨(a, b), ha2, hb2, hg⟩ ?_ fun s => ?_
  · refine leF ?_
    conv => whnf
    repeat (first | exact trivial | refine And.intro (by first | with_reducible rfl | (rw [next (by first | omega | (simp only; omega))]) | rfl) ?_)
  obtain ⟨⟨x, y⟩, hx, hy, hxy⟩ := s
  simp only at hx hy hxy
  conv => whnf
  refine callA (rZero y hy) ?_
  by_cases h : y = 0
  · rw [decide_eq_true h]
    subst h
    rw [Nat.gcd_zero_right] at hxy
    subst hxy
    conv => whnf
    exact ⟨rfl⟩
  · rw [decide_eq_false h]
    have hlt := Nat.mod_lt x (show y > 0 by omega)
    conv => whnf
    refine callA (rOver x y (by omega) hx hy) ?_
    generalize x / y = q
    have hm : Nat.gcd y (x % y) = g := by rw [← hxy, Nat.gcd_comm y, ← Nat.gcd_rec, Nat.gcd_comm]
    generalize x % y = r at hlt hm
    conv => whnf
    refine ⟨⟨by decide +kernel, by kernel_rfl⟩, ?_⟩
    conv => whnf
    refine ⟨⟨(y, r), hy, by simp only; omega, hm⟩, ?_, hlt⟩
    refine leF ?_
    conv => whnf
    repeat (first | exact trivial | refine And.intro (by first | with_reducible rfl | (rw [next (by first | omega | (simp only; omega))]) | rfl) ?_)

set_option maxHeartbeats 1000000 in
theorem rReduce (num den : Int) (hd0 : den ≠ 0) (h1 : -B127 < num ∧ num < B127) (h2 : -B127 < den ∧ den < B127) :
    ACall Tryd.prog 43 [.d (W num), .d (W den)] (.tup [.d (frD (redF (nn num den) den.natAbs)), .d (.int .i64 (redE (nn num den) den.natAbs))]) := by
  have hB : B127 = 170141183460469231731687303715884105728 := rfl
  refine acall Tryd.func43 (by kernel_rfl) ?_
  conv => whnf
  refine callA (rNegative den (by omega) (by omega)) ?_
  by_cases hneg : den < 0
  · rw [decide_eq_true hneg, show nn num den = -num from if_pos hneg]
    conv => whnf
    refine ⟨⟨by decide +kernel, by kernel_rfl⟩, ?_⟩
    conv => whnf
    rw [W_mk (h := 0) (l := 0) (z := 0) (by decide) (by decide)]
    refine callA (rMinus 0 num) ?_
    conv => whnf
    rw [W_mk (h := 0) (l := 0) (z := 0) (by decide) (by decide)]
    refine callA (rMinus 0 den) ?_
    obtain ⟨d, hd⟩ : ∃ d : Nat, 0 - den = d := ⟨den.natAbs, by omega⟩
    rw [hd, show den.natAbs = d by omega, show 0 - num = -num by omega]
    unfold redF redE okR
    conv => whnf
    refine callA (rSize (-num) (by omega) (by omega)) ?_
    conv => whnf
    refine callA (rCommon d (-num).natAbs (by omega) (by omega)) ?_
    have hg0 : 0 < Nat.gcd d (-num).natAbs := Nat.gcd_pos_of_pos_left _ (by omega)
    have hgd : Nat.gcd d (-num).natAbs ≤ d := Nat.gcd_le_left _ (by omega)
    generalize Nat.gcd d (-num).natAbs = g at hg0 hgd ⊢
    have hna := Nat.div_le_self (-num).natAbs g
    have hda := Nat.div_le_self d g
    conv => whnf
    refine callA (rOver (-num).natAbs g hg0 (by omega) (by omega)) ?_
    conv => whnf
    refine callA (rOver d g hg0 (by omega) (by omega)) ?_
    generalize hn1 : (-num).natAbs / g = n1 at *
    generalize hd1 : d / g = d1 at *
    generalize (-num).natAbs % g = m1
    generalize d % g = m2
    conv => whnf
    rw [W_mk (h := 0) (l := 1152921504606846976) (z := ((1152921504606846976 : Nat) : Int)) (by decide) (by decide)]
    refine callA (rBelow 1152921504606846976 n1 (by omega) (by omega)) ?_
    by_cases c1 : ((n1 : Nat) : Int) ≤ 1152921504606846976
    · rw [decide_eq_true c1, decide_eq_false (show ¬ 1152921504606846976 < n1 by omega)]
      conv => whnf
      rw [W_mk (h := 0) (l := 1152921504606846976) (z := ((1152921504606846976 : Nat) : Int)) (by decide) (by decide)]
      refine callA (rBelow 1152921504606846976 d1 (by omega) (by omega)) ?_
      by_cases c2 : ((d1 : Nat) : Int) ≤ 1152921504606846976
      · rw [decide_eq_true c2, decide_eq_false (show ¬ 1152921504606846976 < d1 by omega)]
        have f1 : IntKind.i64.wrap (Lo n1) = (n1 : Int) := by rw [LoN, wrap_small (by omega) (by omega)]; omega
        have f2 : IntKind.i64.wrap (Lo d1) = (d1 : Int) := by rw [LoN, wrap_small (by omega) (by omega)]; omega
        conv => whnf
        rw [f1, f2]
        refine callA (rNegative (-num) (by omega) (by omega)) ?_
        by_cases hs : (-num) < 0
        · rw [decide_eq_true hs, Int.sign_eq_neg_one_of_neg hs]
          have f3 : IntKind.i64.wrap (0 - (n1 : Int)) = (n1 : Int) * -1 := by rw [wrap_small (by omega) (by omega)]; omega
          conv => whnf
          refine ⟨?_⟩
          rw [f3]; rfl
        · rw [decide_eq_false hs]
          have f3 : (n1 : Int) * (-num).sign = n1 := by
            rcases Int.lt_or_eq_of_le (show 0 ≤ (-num) by omega) with h | h
            · rw [Int.sign_eq_one_of_pos h, Int.mul_one]
            · have : n1 = 0 := by rw [← hn1, ← h]; simp
              rw [this]; simp
          rw [f3]
          conv => whnf
          exact ⟨rfl⟩
      · rw [decide_eq_false c2, decide_eq_true (show 1152921504606846976 < d1 by omega)]
        conv => whnf
        exact ⟨rfl⟩
    · rw [decide_eq_false c1, decide_eq_true (show 1152921504606846976 < n1 by omega)]
      conv => whnf
      exact ⟨rfl⟩
  · rw [decide_eq_false hneg, show nn num den = num from if_neg hneg]
    obtain ⟨d, rfl⟩ : ∃ d : Nat, den = d := ⟨den.natAbs, by omega⟩
    rw [Int.natAbs_natCast]
    unfold redF redE okR
    conv => whnf
    refine callA (rSize num (by omega) (by omega)) ?_
    conv => whnf
    refine callA (rCommon d (num).natAbs (by omega) (by omega)) ?_
    have hg0 : 0 < Nat.gcd d (num).natAbs := Nat.gcd_pos_of_pos_left _ (by omega)
    have hgd : Nat.gcd d (num).natAbs ≤ d := Nat.gcd_le_left _ (by omega)
    generalize Nat.gcd d (num).natAbs = g at hg0 hgd ⊢
    have hna := Nat.div_le_self (num).natAbs g
    have hda := Nat.div_le_self d g
    conv => whnf
    refine callA (rOver (num).natAbs g hg0 (by omega) (by omega)) ?_
    conv => whnf
    refine callA (rOver d g hg0 (by omega) (by omega)) ?_
    generalize hn1 : (num).natAbs / g = n1 at *
    generalize hd1 : d / g = d1 at *
    generalize (num).natAbs % g = m1
    generalize d % g = m2
    conv => whnf
    rw [W_mk (h := 0) (l := 1152921504606846976) (z := ((1152921504606846976 : Nat) : Int)) (by decide) (by decide)]
    refine callA (rBelow 1152921504606846976 n1 (by omega) (by omega)) ?_
    by_cases c1 : ((n1 : Nat) : Int) ≤ 1152921504606846976
    · rw [decide_eq_true c1, decide_eq_false (show ¬ 1152921504606846976 < n1 by omega)]
      conv => whnf
      rw [W_mk (h := 0) (l := 1152921504606846976) (z := ((1152921504606846976 : Nat) : Int)) (by decide) (by decide)]
      refine callA (rBelow 1152921504606846976 d1 (by omega) (by omega)) ?_
      by_cases c2 : ((d1 : Nat) : Int) ≤ 1152921504606846976
      · rw [decide_eq_true c2, decide_eq_false (show ¬ 1152921504606846976 < d1 by omega)]
        have f1 : IntKind.i64.wrap (Lo n1) = (n1 : Int) := by rw [LoN, wrap_small (by omega) (by omega)]; omega
        have f2 : IntKind.i64.wrap (Lo d1) = (d1 : Int) := by rw [LoN, wrap_small (by omega) (by omega)]; omega
        conv => whnf
        rw [f1, f2]
        refine callA (rNegative num (by omega) (by omega)) ?_
        by_cases hs : num < 0
        · rw [decide_eq_true hs, Int.sign_eq_neg_one_of_neg hs]
          have f3 : IntKind.i64.wrap (0 - (n1 : Int)) = (n1 : Int) * -1 := by rw [wrap_small (by omega) (by omega)]; omega
          conv => whnf
          refine ⟨?_⟩
          rw [f3]; rfl
        · rw [decide_eq_false hs]
          have f3 : (n1 : Int) * (num).sign = n1 := by
            rcases Int.lt_or_eq_of_le (show 0 ≤ num by omega) with h | h
            · rw [Int.sign_eq_one_of_pos h, Int.mul_one]
            · have : n1 = 0 := by rw [← hn1, ← h]; simp
              rw [this]; simp
          rw [f3]
          conv => whnf
          exact ⟨rfl⟩
      · rw [decide_eq_false c2, decide_eq_true (show 1152921504606846976 < d1 by omega)]
        conv => whnf
        exact ⟨rfl⟩
    · rw [decide_eq_false c1, decide_eq_true (show 1152921504606846976 < n1 by omega)]
      conv => whnf
      exact ⟨rfl⟩

theorem rOf (num den : Int) (hd0 : den ≠ 0) (h1 : -9223372036854775808 ≤ num ∧ num ≤ 9223372036854775807) (h2 : -9223372036854775808 ≤ den ∧ den ≤ 9223372036854775807) :
    ACall Tryd.prog 28 [.d (.int .i64 num), .d (.int .i64 den)] (.tup [.d (frD (redF (nn num den) den.natAbs)), .d (.int .i64 (redE (nn num den) den.natAbs))]) := by
  have hB : B127 = 170141183460469231731687303715884105728 := rfl
  refine acall Tryd.func28 (by kernel_rfl) ?_
  conv => whnf
  refine br (fun h => ?_) (fun h => ?_)
  · exact absurd (eq_of_beq h) hd0
  conv => whnf
  refine callA (rFrom num h1.1 h1.2) ?_
  conv => whnf
  refine callA (rFrom den h2.1 h2.2) ?_
  conv => whnf
  refine callA (rReduce num den hd0 (by omega) (by omega)) ?_
  generalize redF (nn num den) den.natAbs = p
  generalize redE (nn num den) den.natAbs = e
  obtain ⟨p1, p2⟩ := p
  conv => whnf
  exact ⟨rfl⟩
end Go.Proofs.YtnkjhialkaomfaaDoor.P
