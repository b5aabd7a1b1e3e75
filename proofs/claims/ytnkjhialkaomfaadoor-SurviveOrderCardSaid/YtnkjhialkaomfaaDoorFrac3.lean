/-
  fraction.Wide: sign, size, shifts, numbers of bits, by the abstract machine.
-/
import Derived.Test.YtnkjhialkaomfaaDoorFrac2
namespace Go.Proofs.YtnkjhialkaomfaaDoor.P
open Go.Abs Go.Proofs
set_option maxRecDepth 10000

def B127 : Int := 170141183460469231731687303715884105728
theorem sign_ (z : Int) (h0 : -B127 ≤ z) (h1 : z < B127) : ACall Tryd.prog 33 [.d (W z)] (.d (.int .i64 z.sign)) := by
  unfold B127 at h0 h1
  refine acall Tryd.func33 (by kernel_rfl) ?_
  have e : (Hi z).fdiv (2 ^ min (Int.toNat 63) IntKind.u64.bits) = Hi z / 9223372036854775808 := fdivP _ 63
  conv => whnf
  refine ⟨by omega, ?_⟩
  rw [e]
  conv => whnf
  refine br (fun h => ?_) (fun h => ?_)
  · have h : Hi z / 9223372036854775808 = 1 := by simpa using h
    have hz : z < 0 := by unfold Hi at h; omega
    conv => whnf
    exact ⟨by rw [Int.sign_eq_neg_one_of_neg hz]; rfl⟩
  have h : Hi z / 9223372036854775808 ≠ 1 := by simpa using h
  have hz : 0 ≤ z := by unfold Hi at h; omega
  conv => whnf
  refine ⟨⟨by kernel_rfl, by kernel_rfl⟩, ?_⟩
  conv => whnf
  refine ⟨by kernel_rfl, ?_⟩
  conv => whnf
  refine br (fun q => ?_) (fun q => ?_)
  · have q : Hi z = 0 ∧ Lo z = 0 := by simpa using q
    have : z = 0 := by unfold Hi Lo at q; omega
    subst this
    conv => whnf
    exact ⟨rfl⟩
  · have q : ¬ (Hi z = 0 ∧ Lo z = 0) := by simpa using q
    have : 0 < z := by
      rcases Int.lt_or_eq_of_le hz with h | h
      · exact h
      · subst h; exact absurd ⟨rfl, rfl⟩ q
    conv => whnf
    exact ⟨by rw [Int.sign_eq_one_of_pos this]; rfl⟩
theorem size_ (z : Int) (h0 : -B127 ≤ z) (h1 : z < B127) : ACall Tryd.prog 40 [.d (W z)] (.d (W (z.natAbs : Int))) := by
  refine acall Tryd.func40 (by kernel_rfl) ?_
  conv => whnf
  refine callA (sign_ z h0 h1) ?_
  rcases Int.lt_trichotomy z 0 with h | h | h
  · rw [Int.sign_eq_neg_one_of_neg h, show ((z.natAbs : Nat) : Int) = -z by omega]
    conv => whnf
    refine callA (opposite_ z) ?_
    conv => whnf
    exact ⟨rfl⟩
  · subst h
    conv => whnf
    exact ⟨rfl⟩
  · rw [Int.sign_eq_one_of_pos h, show ((z.natAbs : Nat) : Int) = z by omega]
    conv => whnf
    exact ⟨rfl⟩

theorem length_ (x n : Nat) (hx : (x : Int) < B127) (hn : IsLen x n) : ACall Tryd.prog 64 [.d (W x)] (.d (.int .i64 n)) := by
  unfold B127 at hx
  refine acall Tryd.func64 (by kernel_rfl) ?_
  conv => whnf
  have hH : Hi x = ((x / 18446744073709551616 : Nat) : Int) := by unfold Hi; omega
  have hL : Lo x = ((x % 18446744073709551616 : Nat) : Int) := by unfold Lo; omega
  refine br (fun h => ?_) (fun h => ?_)
  · have h : Hi x > 0 := of_decide_eq_true h
    rw [hH] at h
    obtain ⟨m, hm⟩ : ∃ m, IsLen (x / 18446744073709551616) m := ⟨(x / 18446744073709551616).log2 + 1, Nat.lt_log2_self, .inr (Nat.log2_self_le (by omega))⟩
    have e := hn.unique (hm.shift (s := 64) (by omega))
    have hm64 : m ≤ 64 := by
      rcases hm.2 with q | q
      · omega
      · rcases Nat.lt_or_ge 64 m with k | k
        · have := Nat.pow_le_pow_right (n := 2) (by omega) (show 64 ≤ m - 1 by omega)
          omega
        · exact k
    conv => whnf
    rw [hH]
    refine callA (len64_ _ m (by omega) hm) ?_
    conv => whnf
    refine ⟨?_⟩
    rw [wrap_small (by omega) (by omega), e]; rfl
  · have h : ¬ Hi x > 0 := of_decide_eq_false h
    rw [hH] at h
    conv => whnf
    rw [hL]
    refine callA (len64_ _ n (by omega) (by rw [Nat.mod_eq_of_lt (by omega)]; exact hn)) ?_
    conv => whnf
    exact ⟨rfl⟩

/-- A number is a power of two times an odd one. -/
theorem odd_part : ∀ (x : Nat), 0 < x → ∃ k m, x = 2 ^ k * (2 * m + 1) := by
  intro x
  induction x using Nat.strongRecOn with
  | _ x ih =>
    intro hx
    by_cases h : x % 2 = 1
    · exact ⟨0, x / 2, by rw [Nat.pow_zero]; omega⟩
    · obtain ⟨k, m, e⟩ := ih (x / 2) (by omega) (by omega)
      refine ⟨k + 1, m, ?_⟩
      have : x = 2 * (x / 2) := by omega
      rw [this, e, Nat.pow_succ, Nat.mul_comm (2 ^ k) 2, Nat.mul_assoc]
theorem zeros_ (k m : Nat) (hx : ((2 ^ k * (2 * m + 1) : Nat) : Int) < B127) : ACall Tryd.prog 61 [.d (W ((2 ^ k * (2 * m + 1) : Nat) : Int))] (.d (.int .i64 k)) := by
  unfold B127 at hx
  refine acall Tryd.func61 (by kernel_rfl) ?_
  have hk127 : k < 127 := by
    rcases Nat.lt_or_ge k 127 with hk | hk
    · exact hk
    · have := Nat.pow_le_pow_right (n := 2) (by omega) hk
      have : 2 ^ k ≤ 2 ^ k * (2 * m + 1) := Nat.le_mul_of_pos_right _ (by omega)
      omega
  have hH : Hi ((2 ^ k * (2 * m + 1) : Nat) : Int) = ((2 ^ k * (2 * m + 1) / 18446744073709551616 : Nat) : Int) := by unfold Hi; omega
  have hL : Lo ((2 ^ k * (2 * m + 1) : Nat) : Int) = ((2 ^ k * (2 * m + 1) % 18446744073709551616 : Nat) : Int) := by unfold Lo; omega
  by_cases hk : 64 ≤ k
  · obtain ⟨j, rfl⟩ : ∃ j, k = 64 + j := ⟨k - 64, by omega⟩
    have e : 2 ^ (64 + j) * (2 * m + 1) = 18446744073709551616 * (2 ^ j * (2 * m + 1)) := by rw [Nat.pow_add, Nat.mul_assoc]
    have hlo : Lo ((2 ^ (64 + j) * (2 * m + 1) : Nat) : Int) = 0 := by rw [hL, e, Nat.mul_mod_right]; rfl
    have hhi : Hi ((2 ^ (64 + j) * (2 * m + 1) : Nat) : Int) = ((2 ^ j * (2 * m + 1) : Nat) : Int) := by rw [hH, e, Nat.mul_div_cancel_left _ (by omega)]
    have hlt : 2 ^ j * (2 * m + 1) < 18446744073709551616 := by rw [e] at hx; omega
    generalize ((2 ^ (64 + j) * (2 * m + 1) : Nat) : Int) = z at hlo hhi
    conv => whnf
    rw [hlo]
    conv => whnf
    rw [hhi]
    refine callA (tz_ j m hlt) ?_
    conv => whnf
    refine ⟨?_⟩
    rw [wrap_small (by omega) (by omega)]; rfl
  · have h64 : 2 ^ 64 = 2 ^ k * 2 ^ (64 - k) := by rw [← Nat.pow_add]; congr 1; omega
    obtain ⟨j, hj⟩ : ∃ j, 64 - k = j + 1 := ⟨63 - k, by omega⟩
    have e : 2 ^ k * (2 * m + 1) % 18446744073709551616 = 2 ^ k * (2 * (m % 2 ^ j) + 1) := by
      rw [show (18446744073709551616 : Nat) = 2 ^ k * 2 ^ (64 - k) from h64, Nat.mul_mod_mul_left, hj, Nat.pow_succ]
      congr 1
      have h2 := Nat.two_pow_pos j
      have h1 : m = 2 ^ j * (m / 2 ^ j) + m % 2 ^ j := (Nat.div_add_mod m _).symm
      have h3 := Nat.mod_lt m h2
      generalize m % 2 ^ j = r at h1 h3
      generalize m / 2 ^ j = q at h1
      generalize 2 ^ j = t at *
      have e1 : 2 * m + 1 = (2 * r + 1) + (t * 2) * q := by rw [h1]; grind
      rw [e1, Nat.add_mul_mod_self_left, Nat.mod_eq_of_lt (by omega)]
    have hlo : Lo ((2 ^ k * (2 * m + 1) : Nat) : Int) = ((2 ^ k * (2 * (m % 2 ^ j) + 1) : Nat) : Int) := by rw [hL, e]
    have hlt : 2 ^ k * (2 * (m % 2 ^ j) + 1) < 18446744073709551616 := by rw [← e]; exact Nat.mod_lt _ (by omega)
    have hpos : 0 < 2 ^ k * (2 * (m % 2 ^ j) + 1) := Nat.mul_pos (Nat.two_pow_pos k) (by omega)
    generalize ((2 ^ k * (2 * m + 1) : Nat) : Int) = z at hlo
    conv => whnf
    rw [hlo]
    refine br (fun h => ?_) (fun h => ?_)
    · have h := eq_of_beq h
      omega
    conv => whnf
    refine callA (tz_ k (m % 2 ^ j) hlt) ?_
    conv => whnf
    exact ⟨rfl⟩
end Go.Proofs.YtnkjhialkaomfaaDoor.P
