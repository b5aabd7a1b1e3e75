/-
  The reference's division, greatest common divisor and lowest terms (dataenclaveref06), by the abstract machine.
-/
import Derived.Test.YtnkjhialkaomfaaDoorRef06
namespace Go.Proofs.YtnkjhialkaomfaaDoor.P
open Go.Abs Go.Proofs
set_option maxRecDepth 10000

theorem or_bit (n b : Nat) (hb : b ≤ 1) : (2 * n) ||| b = 2 * n + b := by
  have := orAdd 1 n b (by omega)
  rw [Nat.pow_one] at this
  exact this
theorem and1U (x : Int) (h0 : 0 ≤ x) (h1 : x < 18446744073709551616) : IntKind.u64.wrap ((BitVec.ofInt IntKind.u64.bits x &&& BitVec.ofInt IntKind.u64.bits 1).toNat : Int) = x % 2 := by
  rw [andU]
  have : ((x % 18446744073709551616).toNat &&& ((1 : Int) % 18446744073709551616).toNat) = (x % 18446744073709551616).toNat % 2 ^ 1 := Nat.and_two_pow_sub_one_eq_mod _ 1
  rw [this]; omega
theorem lo_or (n : Nat) (b : Int) (hb : b = 0 ∨ b = 1) : IntKind.u64.wrap ((BitVec.ofInt IntKind.u64.bits (Lo ((2 * n : Nat) : Int)) ||| BitVec.ofInt IntKind.u64.bits b).toNat : Int) = Lo (((2 * n : Nat) : Int) + b) ∧ Hi (((2 * n : Nat) : Int) + b) = Hi ((2 * n : Nat) : Int) := by
  rw [orU, LoN]
  have e : ((((2 * n % 18446744073709551616 : Nat) : Int) % 18446744073709551616).toNat ||| (b % 18446744073709551616).toNat) = 2 * (n % 9223372036854775808) + b.toNat := by
    rw [show (((2 * n % 18446744073709551616 : Nat) : Int) % 18446744073709551616).toNat = 2 * (n % 9223372036854775808) by omega, show (b % 18446744073709551616).toNat = b.toNat by omega]
    exact or_bit _ _ (by omega)
  rw [e]
  unfold Lo Hi
  omega

set_option maxHeartbeats 1000000 in
theorem rOver (a b : Nat) (hb0 : 0 < b) (ha2 : (a : Int) < B127) (hb2 : (b : Int) < B127) :
    ACall Tryd.prog 69 [.d (W a), .d (W b)] (.tup [.d (W ((a / b : Nat) : Int)), .d (W ((a % b : Nat) : Int))]) := by
  have hB : B127 = 170141183460469231731687303715884105728 := rfl
  refine acall Tryd.func69 (by kernel_rfl) ?_
  conv => whnf
  refine loop {s : Int × Nat × Nat // (-1 ≤ s.1 ∧ s.1 ≤ 127) ∧ s.2.1 = a / 2 ^ (s.1 + 1).toNat / b ∧ s.2.2 = a / 2 ^ (s.1 + 1).toNat % b} (fun s => mkS 51 [(2, .ptr 2 1 0), (3, .ptr 3 1 0), (4, .ptr 4 1 0), (5, .ptr 5 1 0), (6, .ptr 6 1 0), (7, .ptr 7 1 0), (8, .d (.int .i64 s.1.1))]
    [(2, .var [.d (.int .u64 (Hi a)), .d (.int .u64 (Lo a))], 1), (3, .var [.d (.int .u64 (Hi b)), .d (.int .u64 (Lo b))], 1), (4, .var [.d (.int .u64 0), .d (.int .u64 0)], 1), (5, .var [.d (.int .u64 0), .d (.int .u64 0)], 1),
     (6, .var [.d (.int .u64 (Hi s.1.2.1)), .d (.int .u64 (Lo s.1.2.1))], 1), (7, .var [.d (.int .u64 (Hi s.1.2.2)), .d (.int .u64 (Lo s.1.2.2))], 1)]) (fun s => (s.1.1 + 1).toNat) ⟨(127, 0, 0), by simp only; omega, ?_, ?_⟩ ?_ fun s => ?_
  · show 0 = a / 2 ^ 128 / b
    rw [Nat.div_eq_of_lt (show a < 2 ^ 128 by omega), Nat.zero_div]
  · show 0 = a / 2 ^ 128 % b
    rw [Nat.div_eq_of_lt (show a < 2 ^ 128 by omega), Nat.zero_mod]
  · have z1 : Hi ((0 : Nat) : Int) = 0 := by decide
    have z2 : Lo ((0 : Nat) : Int) = 0 := by decide
    refine leF ?_
    conv => whnf
    repeat (first | exact trivial | refine And.intro (by first | with_reducible rfl | (simp only [z1, z2]; done) | (rw [z1]) | (rw [z2]) | rfl) ?_)
  obtain ⟨⟨i, q, r⟩, ⟨hi0, hi1⟩, hq, hr⟩ := s
  simp only at hi0 hi1 hq hr
  conv => whnf
  refine br (fun h => ?_) (fun h => ?_)
  · have hk : i ≥ 0 := of_decide_eq_true h
    obtain ⟨j, rfl⟩ : ∃ j : Nat, i = j := ⟨i.toNat, by omega⟩
    rw [show ((j : Int) + 1).toNat = j + 1 by omega] at hq hr
    have e3 : IntKind.i64.wrap ((j : Int) - 1) = (j : Int) - 1 := wrap_small (by omega) (by omega)
    have hrb : r < b := by rw [hr]; exact Nat.mod_lt _ hb0
    have hA : a / 2 ^ j = 2 * (a / 2 ^ (j + 1)) + a / 2 ^ j % 2 := by rw [Nat.pow_succ, ← Nat.div_div_eq_div_mul]; omega
    have hAr : a / 2 ^ (j + 1) = b * q + r := by rw [hq, hr]; exact (Nat.div_add_mod _ _).symm
    have hbit : ∃ t : Nat, t = a / 2 ^ j % 2 ∧ t ≤ 1 := ⟨_, rfl, by omega⟩
    obtain ⟨t, ht, ht1⟩ := hbit
    rw [← ht] at hA
    have hqa : q ≤ a := by rw [hq]; exact Nat.le_trans (Nat.div_le_self _ _) (Nat.div_le_self _ _)
    conv => whnf
    refine callA (rTwice r) ?_
    have e4 : (j : Int).tmod 64 = ((j % 64 : Nat) : Int) := by rw [Int.tmod_eq_emod_of_nonneg (by omega)]; omega
    conv => whnf
    refine ⟨by omega, ?_⟩
    rw [e4]
    obtain ⟨d, hd⟩ : ∃ d : Nat, (j % 64 : Nat) = d ∧ d < 64 := ⟨j % 64, rfl, by omega⟩
    have w1 : IntKind.u64.wrap ((j % 64 : Nat) : Int) = ((j % 64 : Nat) : Int) := by rw [wrapU]; omega
    have w2 : IntKind.u64.wrap (j : Int) = (j : Int) := by rw [wrapU]; omega
    have hHi := HiN a
    have hLo := LoN a
    have hj1 : ((j : Int) - 1 + 1).toNat = j := by omega
    have hA2 : a / 2 ^ j = b * (2 * q) + (2 * r + t) := by rw [hA, hAr]; grind
    have hA3 : b ≤ 2 * r + t → a / 2 ^ j = b * (2 * q + 1) + (2 * r + t - b) := fun h => by rw [hA2, Nat.mul_add, Nat.mul_one]; omega
    have pj := Nat.two_pow_pos j
    have b1 : 64 ≤ j → ((a / 18446744073709551616 % 18446744073709551616 : Nat) : Int) / ((2 ^ (j % 64) : Nat) : Int) % 2 = (t : Int) := fun h => by
      rw [Nat.mod_eq_of_lt (show a / 18446744073709551616 < 18446744073709551616 by omega), ← Int.natCast_ediv, Nat.div_div_eq_div_mul, show 18446744073709551616 * 2 ^ (j % 64) = 2 ^ j from by rw [show (18446744073709551616 : Nat) = 2 ^ 64 from rfl, ← Nat.pow_add]; congr 1; omega]
      omega
    have b2 : j < 64 → ((a % 18446744073709551616 : Nat) : Int) / ((2 ^ j : Nat) : Int) % 2 = (t : Int) := fun h => by
      rw [← Int.natCast_ediv]
      have h1 := gen4 a (2 ^ j) (2 ^ (64 - j)) 18446744073709551616 (pow_split (by omega)) pj
      have h2 : 2 ^ (64 - j) = 2 * 2 ^ (63 - j) := by rw [show 64 - j = (63 - j) + 1 by omega, Nat.pow_succ, Nat.mul_comm]
      rw [h2, Nat.mul_assoc] at h1
      omega
    have hdl : ∀ n : Nat, Hi a / ((n : Nat) : Int) < 18446744073709551616 ∧ 0 ≤ Hi a / ((n : Nat) : Int) := fun n => by
      have := Nat.div_le_self (a / 18446744073709551616 % 18446744073709551616) n
      rw [hHi, ← Int.natCast_ediv]
      generalize a / 18446744073709551616 % 18446744073709551616 / n = w at *
      omega
    have hdl2 : ∀ n : Nat, Lo a / ((n : Nat) : Int) < 18446744073709551616 ∧ 0 ≤ Lo a / ((n : Nat) : Int) := fun n => by
      have := Nat.div_le_self (a % 18446744073709551616) n
      rw [hLo, ← Int.natCast_ediv]
      generalize a % 18446744073709551616 / n = w at *
      omega
    conv => whnf
    rw [w1]
    refine ⟨by omega, ?_⟩
    rw [shrN _ (j % 64) (by omega)]
    conv => whnf
    rw [and1U _ (hdl _).2 (hdl _).1]
    refine br (fun h => ?_) (fun h => ?_)
    · have hj64 : (j : Int) < 64 := of_decide_eq_true h
      conv => whnf
      rw [w2]
      refine ⟨by omega, ?_⟩
      rw [shrN _ j (by omega)]
      conv => whnf
      rw [and1U _ (hdl2 _).2 (hdl2 _).1, hLo, b2 (by omega), ← hLo]
      rw [(lo_or r t (by omega)).1, ← (lo_or r t (by omega)).2, show ((2 * r : Nat) : Int) + (t : Int) = ((2 * r + t : Nat) : Int) from by omega]
      refine callA (rTwice q) ?_
      conv => whnf
      refine callA (rBelow (2 * r + t) b (by omega) (by omega)) ?_
      by_cases hlt : 2 * r + t < b
      · rw [decide_eq_true hlt]
        conv => whnf
        refine ⟨⟨((j : Int) - 1, 2 * q, 2 * r + t), ⟨by simp only; omega, by simp only; omega⟩, ?_, ?_⟩, ?_, by simp only; omega⟩
        · simp only [hj1]
          rw [hA2, Nat.mul_add_div hb0, Nat.div_eq_of_lt hlt, Nat.add_zero]
        · simp only [hj1]
          rw [hA2, Nat.mul_add_mod, Nat.mod_eq_of_lt hlt]
        · refine leF ?_
          conv => whnf
          rw [e3]
          repeat (first | exact trivial | refine And.intro (by first | with_reducible rfl | (rw [next (by first | omega | (simp only; omega))]) | rfl) ?_)
      · rw [decide_eq_false hlt]
        conv => whnf
        refine callA (rMinus ((2 * r + t : Nat) : Int) b) ?_
        rw [show ((2 * r + t : Nat) : Int) - (b : Int) = ((2 * r + t - b : Nat) : Int) from by omega]
        conv => whnf
        rw [(lo_or q 1 (by omega)).1, ← (lo_or q 1 (by omega)).2, show ((2 * q : Nat) : Int) + 1 = ((2 * q + 1 : Nat) : Int) from by omega]
        refine ⟨⟨((j : Int) - 1, 2 * q + 1, 2 * r + t - b), ⟨by simp only; omega, by simp only; omega⟩, ?_, ?_⟩, ?_, by simp only; omega⟩
        · simp only [hj1]
          rw [hA3 (by omega), Nat.mul_add_div hb0, Nat.div_eq_of_lt (by omega), Nat.add_zero]
        · simp only [hj1]
          rw [hA3 (by omega), Nat.mul_add_mod, Nat.mod_eq_of_lt (by omega)]
        · refine leF ?_
          conv => whnf
          rw [e3]
          repeat (first | exact trivial | refine And.intro (by first | with_reducible rfl | (rw [next (by first | omega | (simp only; omega))]) | rfl) ?_)
    · have hj64 : ¬ (j : Int) < 64 := of_decide_eq_false h
      conv => whnf
      rw [hHi, b1 (by omega), ← hHi]
      rw [(lo_or r t (by omega)).1, ← (lo_or r t (by omega)).2, show ((2 * r : Nat) : Int) + (t : Int) = ((2 * r + t : Nat) : Int) from by omega]
      refine callA (rTwice q) ?_
      conv => whnf
      refine callA (rBelow (2 * r + t) b (by omega) (by omega)) ?_
      by_cases hlt : 2 * r + t < b
      · rw [decide_eq_true hlt]
        conv => whnf
        refine ⟨⟨((j : Int) - 1, 2 * q, 2 * r + t), ⟨by simp only; omega, by simp only; omega⟩, ?_, ?_⟩, ?_, by simp only; omega⟩
        · simp only [hj1]
          rw [hA2, Nat.mul_add_div hb0, Nat.div_eq_of_lt hlt, Nat.add_zero]
        · simp only [hj1]
          rw [hA2, Nat.mul_add_mod, Nat.mod_eq_of_lt hlt]
        · refine leF ?_
          conv => whnf
          rw [e3]
          repeat (first | exact trivial | refine And.intro (by first | with_reducible rfl | (rw [next (by first | omega | (simp only; omega))]) | rfl) ?_)
      · rw [decide_eq_false hlt]
        conv => whnf
        refine callA (rMinus ((2 * r + t : Nat) : Int) b) ?_
        rw [show ((2 * r + t : Nat) : Int) - (b : Int) = ((2 * r + t - b : Nat) : Int) from by omega]
        conv => whnf
        rw [(lo_or q 1 (by omega)).1, ← (lo_or q 1 (by omega)).2, show ((2 * q : Nat) : Int) + 1 = ((2 * q + 1 : Nat) : Int) from by omega]
        refine ⟨⟨((j : Int) - 1, 2 * q + 1, 2 * r + t - b), ⟨by simp only; omega, by simp only; omega⟩, ?_, ?_⟩, ?_, by simp only; omega⟩
        · simp only [hj1]
          rw [hA3 (by omega), Nat.mul_add_div hb0, Nat.div_eq_of_lt (by omega), Nat.add_zero]
        · simp only [hj1]
          rw [hA3 (by omega), Nat.mul_add_mod, Nat.mod_eq_of_lt (by omega)]
        · refine leF ?_
          conv => whnf
          rw [e3]
          repeat (first | exact trivial | refine And.intro (by first | with_reducible rfl | (rw [next (by first | omega | (simp only; omega))]) | rfl) ?_)
  · have hk : ¬ i ≥ 0 := of_decide_eq_false h
    obtain rfl : i = -1 := by omega
    have e0 : ((-1 : Int) + 1).toNat = 0 := rfl
    rw [e0, Nat.pow_zero, Nat.div_one] at hq hr
    subst hq; subst hr
    conv => whnf
    refine ⟨⟨by decide +kernel, by kernel_rfl⟩, ?_⟩
    conv => whnf
    exact ⟨rfl⟩
end Go.Proofs.YtnkjhialkaomfaaDoor.P
