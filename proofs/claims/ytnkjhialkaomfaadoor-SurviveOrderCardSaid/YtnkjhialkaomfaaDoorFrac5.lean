/-
  fraction: the greatest common divisor; division, by the abstract machine.
-/
import Derived.Test.YtnkjhialkaomfaaDoorFrac4
namespace Go.Proofs.YtnkjhialkaomfaaDoor.P
open Go.Abs Go.Proofs
set_option maxRecDepth 10000

theorem odd_gcd (A j B : Nat) (hA : A % 2 = 1) : Nat.gcd A (2 ^ j * B) = Nat.gcd A B := by
  have h2 : Nat.Coprime 2 A := by
    unfold Nat.Coprime
    have h1 := Nat.gcd_dvd_left 2 A
    have h3 := Nat.gcd_dvd_right 2 A
    have hle := Nat.le_of_dvd (by omega) h1
    have hpos := Nat.gcd_pos_of_pos_left A (show 0 < 2 by omega)
    rcases (show Nat.gcd 2 A = 1 ∨ Nat.gcd 2 A = 2 by omega) with h | h
    · exact h
    · rw [h] at h3; omega
  exact Nat.Coprime.gcd_mul_left_cancel_right B (Nat.Coprime.pow_left j h2)
theorem gcd_pow (i j A B : Nat) (hA : A % 2 = 1) (hB : B % 2 = 1) : Nat.gcd (2 ^ i * A) (2 ^ j * B) = Nat.gcd A B * 2 ^ min i j := by
  rcases Nat.le_total i j with h | h
  · obtain ⟨e, rfl⟩ := Nat.le.dest h
    rw [Nat.pow_add, Nat.mul_assoc, Nat.gcd_mul_left, odd_gcd A e B hA, Nat.min_eq_left h, Nat.mul_comm]
  · obtain ⟨e, rfl⟩ := Nat.le.dest h
    rw [Nat.pow_add, Nat.mul_assoc, Nat.gcd_mul_left, Nat.gcd_comm, odd_gcd B e A hB, Nat.gcd_comm, Nat.min_eq_right h, Nat.mul_comm]
theorem W_zero (x : Nat) (hx : (x : Int) < B127) : (Hi x = 0 ∧ Lo x = 0) ↔ x = 0 := by
  unfold B127 at hx
  unfold Hi Lo
  omega
theorem pow_lt127 {k m : Nat} (hx : ((2 ^ k * (2 * m + 1) : Nat) : Int) < B127) : k < 127 := by
  unfold B127 at hx
  rcases Nat.lt_or_ge k 127 with hk | hk
  · exact hk
  · have := Nat.pow_le_pow_right (n := 2) (by omega) hk
    have : 2 ^ k ≤ 2 ^ k * (2 * m + 1) := Nat.le_mul_of_pos_right _ (by omega)
    omega
theorem odd_div (k m : Nat) : 2 ^ k * (2 * m + 1) / 2 ^ k = 2 * m + 1 := Nat.mul_div_cancel_left _ (Nat.two_pow_pos k)

set_option maxHeartbeats 1000000 in
theorem common_ (a b : Nat) (ha : 0 < a) (ha2 : (a : Int) < B127) (hb2 : (b : Int) < B127) : ACall Tryd.prog 39 [.d (W a), .d (W b)] (.d (W ((Nat.gcd a b : Nat) : Int))) := by
  refine acall Tryd.func39 (by kernel_rfl) ?_
  conv => whnf
  refine ⟨⟨by kernel_rfl, by kernel_rfl⟩, ?_⟩
  conv => whnf
  refine ⟨by kernel_rfl, ?_⟩
  conv => whnf
  refine br (fun q => ?_) (fun q => ?_)
  · have q : Hi b = 0 ∧ Lo b = 0 := by simpa using q
    obtain rfl := (W_zero b hb2).1 q
    rw [Nat.gcd_zero_right]
    conv => whnf
    exact ⟨rfl⟩
  have q : ¬ (Hi b = 0 ∧ Lo b = 0) := by simpa using q
  have hb : 0 < b := Nat.pos_of_ne_zero fun e => q ((W_zero b hb2).2 e)
  clear q
  obtain ⟨i, A, rfl⟩ := odd_part a ha
  obtain ⟨j, B, rfl⟩ := odd_part b hb
  have hi := pow_lt127 ha2
  have hj := pow_lt127 hb2
  conv => whnf
  refine ⟨⟨by decide +kernel, by kernel_rfl⟩, ?_⟩
  conv => whnf
  refine callA (zeros_ i A ha2) ?_
  conv => whnf
  refine callA (zeros_ j B hb2) ?_
  conv => whnf
  refine ⟨⟨by decide +kernel, by kernel_rfl⟩, ?_⟩
  conv => whnf
  refine callA (zeros_ i A ha2) ?_
  conv => whnf
  refine callA (right_ _ i (by unfold B127 at ha2; omega) (by omega)) ?_
  rw [odd_div]
  have hA2 : ((2 * A + 1 : Nat) : Int) < B127 := by
    have : 2 * A + 1 ≤ 2 ^ i * (2 * A + 1) := Nat.le_mul_of_pos_left _ (Nat.two_pow_pos i)
    omega
  have hg0 : Nat.gcd (2 * A + 1) (2 ^ j * (2 * B + 1)) * 2 ^ min i j = Nat.gcd (2 ^ i * (2 * A + 1)) (2 ^ j * (2 * B + 1)) := by
    rw [gcd_pow i j _ _ (by omega) (by omega), odd_gcd _ _ _ (by omega)]
  generalize Nat.gcd (2 ^ i * (2 * A + 1)) (2 ^ j * (2 * B + 1)) = res at hg0
  generalize hy0 : 2 ^ j * (2 * B + 1) = y0 at *
  have htw : (if (j : Int) < i then (j : Int) else i) = ((min i j : Nat) : Int) := by split <;> omega
  conv => whnf
  refine loop {s : Nat × Nat // (s.1 % 2 = 1 ∧ (s.1 : Int) < B127) ∧ (s.2 : Int) < B127 ∧ Nat.gcd s.1 s.2 * 2 ^ min i j = res} (fun s => mkS 39 [(2, .ptr 2 1 0), (3, .ptr 3 1 0), (4, .ptr 4 1 0), (5, .d (.int .i64 ((min i j : Nat) : Int)))]
    [(2, .var [.d (.int .u64 (Hi s.1.1)), .d (.int .u64 (Lo s.1.1))], 1), (3, .var [.d (.int .u64 (Hi s.1.2)), .d (.int .u64 (Lo s.1.2))], 1), (4, .var [.d (.int .u64 0), .d (.int .u64 0)], 1)])
    (fun s => s.1.1 + s.1.2) ⟨(2 * A + 1, y0), ⟨by simp only; omega, hA2⟩, hb2, hg0⟩ ?_ fun s => ?_
  · refine leF ?_
    conv => whnf
    rw [htw]
    repeat (first | exact trivial | refine And.intro (by first | with_reducible rfl | (rw [next (by first | omega | (simp only; omega))]) | rfl) ?_)
  obtain ⟨⟨x, y⟩, ⟨hxo, hx⟩, hy, hg⟩ := s
  simp only at hxo hx hy hg
  have hB : B127 = 170141183460469231731687303715884105728 := rfl
  conv => whnf
  refine ⟨⟨by kernel_rfl, by kernel_rfl⟩, ?_⟩
  conv => whnf
  refine ⟨by kernel_rfl, ?_⟩
  conv => whnf
  refine br (fun q => ?_) (fun q => ?_)
  · have q : ¬ (Hi y = 0 ∧ Lo y = 0) := by
      rintro ⟨h1, h2⟩
      simp [h1, h2] at q
    have hy0 : 0 < y := Nat.pos_of_ne_zero fun e => q ((W_zero y hy).2 e)
    clear q
    obtain ⟨k, m, rfl⟩ := odd_part y hy0
    have hk := pow_lt127 hy
    have hle : 2 * m + 1 ≤ 2 ^ k * (2 * m + 1) := Nat.le_mul_of_pos_left _ (Nat.two_pow_pos k)
    rw [odd_gcd _ _ _ hxo] at hg
    conv => whnf
    refine ⟨⟨by decide +kernel, by kernel_rfl⟩, ?_⟩
    conv => whnf
    refine callA (zeros_ k m hy) ?_
    conv => whnf
    refine callA (right_ (2 ^ k * (2 * m + 1)) k (by omega) (by omega)) ?_
    rw [odd_div]
    generalize 2 ^ k * (2 * m + 1) = y at *
    generalize hz : 2 * m + 1 = z at *
    have hz1 : 0 < z := by omega
    have hzo : z % 2 = 1 := by omega
    conv => whnf
    refine callA (minus_ z x) ?_
    conv => whnf
    refine callA (sign_ ((z : Int) - x) (by omega) (by omega)) ?_
    by_cases hs : (z : Int) - x < 0
    · rw [Int.sign_eq_neg_one_of_neg hs]
      conv => whnf
      refine callA (minus_ x z) ?_
      rw [show ((x : Int) - z) = ((x - z : Nat) : Int) by omega]
      conv => whnf
      refine ⟨⟨(z, x - z), ⟨hzo, by omega⟩, by simp only; omega, ?_⟩, ?_, by simp only; omega⟩
      · show Nat.gcd z (x - z) * 2 ^ min i j = res
        rw [Nat.gcd_comm, Nat.gcd_sub_self_left (by omega)]
        exact hg
      · refine leF ?_
        conv => whnf
        repeat (first | exact trivial | refine And.intro (by first | with_reducible rfl | (rw [next (by first | omega | (simp only; omega))]) | rfl) ?_)
    · have hge : ¬ (((z : Int) - x).sign < 0) := by
        intro h
        have := Int.sign_neg_iff.1 h
        omega
      generalize Int.sign ((z : Int) - x) = sg at hge
      conv => whnf
      refine br (fun h => ?_) (fun _ => ?_)
      · exact absurd (of_decide_eq_true h) hge
      conv => whnf
      refine callA (minus_ z x) ?_
      rw [show ((z : Int) - x) = ((z - x : Nat) : Int) by omega]
      conv => whnf
      refine ⟨⟨(x, z - x), ⟨hxo, hx⟩, by simp only; omega, ?_⟩, ?_, by simp only; omega⟩
      · show Nat.gcd x (z - x) * 2 ^ min i j = res
        rw [Nat.gcd_sub_self_right (by omega)]
        exact hg
      · refine leF ?_
        conv => whnf
        repeat (first | exact trivial | refine And.intro (by first | with_reducible rfl | (rw [next (by first | omega | (simp only; omega))]) | rfl) ?_)
  · have q : Hi y = 0 ∧ Lo y = 0 := by simpa using q
    obtain rfl := (W_zero y hy).1 q
    rw [Nat.gcd_zero_right] at hg
    conv => whnf
    refine callA (left_ x (min i j) (by omega)) ?_
    rw [hg]
    conv => whnf
    exact ⟨rfl⟩
end Go.Proofs.YtnkjhialkaomfaaDoor.P
