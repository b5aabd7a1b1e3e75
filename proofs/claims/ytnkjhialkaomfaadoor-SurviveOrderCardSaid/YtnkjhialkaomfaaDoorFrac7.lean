/-
  fraction: lowest terms, products, by the abstract machine.
-/
import Derived.Test.YtnkjhialkaomfaaDoorFrac6
namespace Go.Proofs.YtnkjhialkaomfaaDoor.P
open Go.Abs Go.Proofs
set_option maxRecDepth 10000

def frD (p : Int × Int) : D := .agg [.int .i64 p.1, .int .i64 p.2]
/-- The numerator with the sign of the denominator. -/
def nn (num den : Int) : Int := if den < 0 then -num else num
/-- Does it fit, in lowest terms? -/
def okR (n : Int) (d : Nat) : Bool := decide (((n.natAbs / Nat.gcd d n.natAbs : Nat) : Int) ≤ 1152921504606846976) && decide (((d / Nat.gcd d n.natAbs : Nat) : Int) ≤ 1152921504606846976)
def redF (n : Int) (d : Nat) : Int × Int := bif okR n d then (((n.natAbs / Nat.gcd d n.natAbs : Nat) : Int) * n.sign, ((d / Nat.gcd d n.natAbs : Nat) : Int)) else (0, 0)
def redE (n : Int) (d : Nat) : Int := bif okR n d then 0 else 14

set_option maxHeartbeats 1000000 in
theorem reduced_ (num den : Int) (hd0 : den ≠ 0) (h1 : -B127 < num ∧ num < B127) (h2 : -B127 < den ∧ den < B127) :
    ACall Tryd.prog 25 [.d (W num), .d (W den)] (.tup [.d (frD (redF (nn num den) den.natAbs)), .d (.int .i64 (redE (nn num den) den.natAbs))]) := by
  have hB : B127 = 170141183460469231731687303715884105728 := rfl
  refine acall Tryd.func25 (by kernel_rfl) ?_
  conv => whnf
  refine callA (sign_ den (by omega) (by omega)) ?_
  by_cases hneg : den < 0
  · rw [Int.sign_eq_neg_one_of_neg hneg, show nn num den = -num from if_pos hneg]
    conv => whnf
    refine ⟨⟨by decide +kernel, by kernel_rfl⟩, ?_⟩
    conv => whnf
    refine callA (opposite_ num) ?_
    conv => whnf
    refine callA (opposite_ den) ?_
    obtain ⟨d, hd⟩ : ∃ d : Nat, -den = d := ⟨den.natAbs, by omega⟩
    rw [hd, show den.natAbs = d by omega]
    unfold redF redE okR
    conv => whnf
    refine ⟨⟨by decide +kernel, by kernel_rfl⟩, ?_⟩
    conv => whnf
    refine callA (size_ (-num) (by omega) (by omega)) ?_
    conv => whnf
    refine callA (common_ d ((-num)).natAbs (by omega) (by omega) (by omega)) ?_
    have hg0 : 0 < Nat.gcd d ((-num)).natAbs := Nat.gcd_pos_of_pos_left _ (by omega)
    have hgd : Nat.gcd d ((-num)).natAbs ≤ d := Nat.gcd_le_left _ (by omega)
    generalize Nat.gcd d ((-num)).natAbs = g at hg0 hgd ⊢
    conv => whnf
    refine ⟨⟨by decide +kernel, by kernel_rfl⟩, ?_⟩
    conv => whnf
    refine callA (size_ (-num) (by omega) (by omega)) ?_
    conv => whnf
    obtain ⟨v, hv, hov⟩ := over_ ((-num)).natAbs g hg0 (by omega) (by omega)
    refine callA hov ?_
    obtain ⟨v2, hv2, hov2⟩ := over_ d g hg0 (by omega) (by omega)
    by_cases c1 : (((((-num)).natAbs / g : Nat) : Int) ≤ 1152921504606846976)
    · rw [decide_eq_true c1]
      have hv := hv c1
      subst hv
      conv => whnf
      refine callA hov2 ?_
      by_cases c2 : (((d / g : Nat) : Int) ≤ 1152921504606846976)
      · rw [decide_eq_true c2]
        have hv2 := hv2 c2
        subst hv2
        conv => whnf
        refine callA (sign_ (-num) (by omega) (by omega)) ?_
        have hn1 : 0 ≤ ((((-num)).natAbs / g : Nat) : Int) := Int.natCast_nonneg _
        generalize ((((-num)).natAbs / g : Nat) : Int) = n1 at c1 hn1 ⊢
        generalize ((d / g : Nat) : Int) = d1 at c2 ⊢
        conv => whnf
        refine ⟨?_⟩
        have hs : -n1 ≤ n1 * ((-num)).sign ∧ n1 * ((-num)).sign ≤ n1 := by
          rcases Int.sign_trichotomy ((-num)) with h | h | h <;> rw [h] <;> omega
        rw [wrap_small (by omega) (by omega)]; rfl
      · rw [decide_eq_false c2]
        conv => whnf
        exact ⟨rfl⟩
    · rw [decide_eq_false c1]
      conv => whnf
      refine callA hov2 ?_
      conv => whnf
      exact ⟨rfl⟩
  · have hpos : 0 < den := by omega
    rw [Int.sign_eq_one_of_pos hpos, show nn num den = num from if_neg hneg]
    obtain ⟨d, rfl⟩ : ∃ d : Nat, den = d := ⟨den.natAbs, by omega⟩
    rw [Int.natAbs_natCast]
    unfold redF redE okR
    conv => whnf
    refine ⟨⟨by decide +kernel, by kernel_rfl⟩, ?_⟩
    conv => whnf
    refine callA (size_ num (by omega) (by omega)) ?_
    conv => whnf
    refine callA (common_ d (num).natAbs (by omega) (by omega) (by omega)) ?_
    have hg0 : 0 < Nat.gcd d (num).natAbs := Nat.gcd_pos_of_pos_left _ (by omega)
    have hgd : Nat.gcd d (num).natAbs ≤ d := Nat.gcd_le_left _ (by omega)
    generalize Nat.gcd d (num).natAbs = g at hg0 hgd ⊢
    conv => whnf
    refine ⟨⟨by decide +kernel, by kernel_rfl⟩, ?_⟩
    conv => whnf
    refine callA (size_ num (by omega) (by omega)) ?_
    conv => whnf
    obtain ⟨v, hv, hov⟩ := over_ (num).natAbs g hg0 (by omega) (by omega)
    refine callA hov ?_
    obtain ⟨v2, hv2, hov2⟩ := over_ d g hg0 (by omega) (by omega)
    by_cases c1 : ((((num).natAbs / g : Nat) : Int) ≤ 1152921504606846976)
    · rw [decide_eq_true c1]
      have hv := hv c1
      subst hv
      conv => whnf
      refine callA hov2 ?_
      by_cases c2 : (((d / g : Nat) : Int) ≤ 1152921504606846976)
      · rw [decide_eq_true c2]
        have hv2 := hv2 c2
        subst hv2
        conv => whnf
        refine callA (sign_ num (by omega) (by omega)) ?_
        have hn1 : 0 ≤ (((num).natAbs / g : Nat) : Int) := Int.natCast_nonneg _
        generalize (((num).natAbs / g : Nat) : Int) = n1 at c1 hn1 ⊢
        generalize ((d / g : Nat) : Int) = d1 at c2 ⊢
        conv => whnf
        refine ⟨?_⟩
        have hs : -n1 ≤ n1 * (num).sign ∧ n1 * (num).sign ≤ n1 := by
          rcases Int.sign_trichotomy (num) with h | h | h <;> rw [h] <;> omega
        rw [wrap_small (by omega) (by omega)]; rfl
      · rw [decide_eq_false c2]
        conv => whnf
        exact ⟨rfl⟩
    · rw [decide_eq_false c1]
      conv => whnf
      refine callA hov2 ?_
      conv => whnf
      exact ⟨rfl⟩

theorem of_ (num den : Int) (hd0 : den ≠ 0) (h1 : -9223372036854775808 ≤ num ∧ num ≤ 9223372036854775807) (h2 : -9223372036854775808 ≤ den ∧ den ≤ 9223372036854775807) :
    ACall Tryd.prog 12 [.d (.int .i64 num), .d (.int .i64 den)] (.tup [.d (frD (redF (nn num den) den.natAbs)), .d (.int .i64 (redE (nn num den) den.natAbs))]) := by
  have hB : B127 = 170141183460469231731687303715884105728 := rfl
  refine acall Tryd.func12 (by kernel_rfl) ?_
  conv => whnf
  refine br (fun h => ?_) (fun h => ?_)
  · exact absurd (eq_of_beq h) hd0
  conv => whnf
  refine callA (whole_ num h1.1 h1.2) ?_
  conv => whnf
  refine callA (whole_ den h2.1 h2.2) ?_
  conv => whnf
  refine callA (reduced_ num den hd0 (by omega) (by omega)) ?_
  generalize redF (nn num den) den.natAbs = p
  generalize redE (nn num den) den.natAbs = e
  obtain ⟨p1, p2⟩ := p
  conv => whnf
  exact ⟨rfl⟩

theorem gcd_ (a b : Int) (ha : -4611686018427387904 ≤ a ∧ a ≤ 4611686018427387904) (hb : -4611686018427387904 ≤ b ∧ b ≤ 4611686018427387904) :
    ACall Tryd.prog 47 [.d (.int .i64 a), .d (.int .i64 b)] (.d (.int .i64 (Nat.gcd a.natAbs b.natAbs : Nat))) := by
  refine acall Tryd.func47 (by kernel_rfl) ?_
  generalize hg : Nat.gcd a.natAbs b.natAbs = g
  conv => whnf
  refine loop {s : Int × Int // (-4611686018427387904 ≤ s.1 ∧ s.1 ≤ 4611686018427387904) ∧ (-4611686018427387904 ≤ s.2 ∧ s.2 ≤ 4611686018427387904) ∧ Nat.gcd s.1.natAbs s.2.natAbs = g} (fun s => mkS 15 [(0, .d (.int .i64 s.1.1)), (1, .d (.int .i64 s.1.2))] []) (fun s => s.1.2.natAbs) ⟨(a, b), ha, hb, hg⟩ ?_ fun s => ?_
  · refine leF ?_
    conv => whnf
    repeat (first | exact trivial | refine And.intro (by first | with_reducible rfl | (rw [next (by first | omega | (simp only; omega))]) | rfl) ?_)
  obtain ⟨⟨x, y⟩, hx, hy, hxy⟩ := s
  simp only at hx hy hxy
  conv => whnf
  refine br (fun h => ?_) (fun h => ?_)
  · have h : y ≠ 0 := by simpa using h
    have hlt : (x.tmod y).natAbs < y.natAbs := by rw [Int.natAbs_tmod]; exact Nat.mod_lt _ (by omega)
    conv => whnf
    refine ⟨⟨by decide +kernel, by kernel_rfl⟩, ?_⟩
    conv => whnf
    refine ⟨h, ?_⟩
    conv => whnf
    refine ⟨⟨(y, x.tmod y), hy, by simp only; omega, ?_⟩, ?_, hlt⟩
    · show Nat.gcd y.natAbs (x.tmod y).natAbs = g
      rw [Int.natAbs_tmod, ← hxy, Nat.gcd_comm y.natAbs, ← Nat.gcd_rec, Nat.gcd_comm]
    · refine leF ?_
      conv => whnf
      repeat (first | exact trivial | refine And.intro (by first | with_reducible rfl | (rw [next (by first | omega | (simp only; omega))]) | rfl) ?_)
  · have h : y = 0 := by simpa using h
    subst h
    simp only [Int.natAbs_zero, Nat.gcd_zero_right] at hxy
    conv => whnf
    refine ⟨?_⟩
    simp only [cAV]
    rw [wrap_small (by omega) (by omega)]
    congr 2
    split <;> omega
end Go.Proofs.YtnkjhialkaomfaaDoor.P
