/-
  Numbers of 128 bits (fraction.Wide) and math/bits, by the abstract machine.
-/
import Derived.Test.YtnkjhialkaomfaaDoorAbsLe
import Derived.Test.YtnkjhialkaomfaaDoorProg
import Derived.KernelRfl
import Derived.IntWalk
import Derived.Laws.Externs
import Derived.Shelf.Spec.BitsCarry
namespace Go.Proofs.YtnkjhialkaomfaaDoor.P
open Go.Abs Go.Proofs
set_option maxRecDepth 10000

theorem wrap_small {n : Int} (h0 : -9223372036854775808 ≤ n) (h1 : n ≤ 9223372036854775807) : IntKind.i64.wrap n = n := IntWalk.i64_in n ⟨h0, h1⟩
theorem next {k : Nat} (h : k < 1000000000000) : IntKind.i64.wrap ((k : Int) + 1) = ((k + 1 : Nat) : Int) := by rw [wrap_small (by omega) (by omega)]; rfl
theorem wrapU (n : Int) : IntKind.u64.wrap n = n % 18446744073709551616 := by
  have : IntKind.u64.wrap n = n % (2 ^ 64) := by simp [IntKind.wrap, IntKind.signed, IntKind.bits]
  rw [this]; rfl
theorem fdivP (a : Int) (k : Nat) : a.fdiv (2 ^ k) = a / 2 ^ k := Int.fdiv_eq_ediv_of_nonneg _ (Int.le_of_lt (Int.pow_pos (by omega)))
theorem andU (x y : Int) : IntKind.u64.wrap ((BitVec.ofInt IntKind.u64.bits x &&& BitVec.ofInt IntKind.u64.bits y).toNat : Int) = (((x % 18446744073709551616).toNat &&& (y % 18446744073709551616).toNat : Nat) : Int) := by
  have e : (BitVec.ofInt IntKind.u64.bits x &&& BitVec.ofInt IntKind.u64.bits y).toNat = ((x % 18446744073709551616).toNat &&& (y % 18446744073709551616).toNat : Nat) := by
    rw [BitVec.toNat_and, BitVec.toNat_ofInt, BitVec.toNat_ofInt]; rfl
  rw [e, wrapU]
  have h1 : ((x % 18446744073709551616).toNat &&& (y % 18446744073709551616).toNat) ≤ (x % 18446744073709551616).toNat := Nat.and_le_left
  omega
theorem orU (x y : Int) : IntKind.u64.wrap ((BitVec.ofInt IntKind.u64.bits x ||| BitVec.ofInt IntKind.u64.bits y).toNat : Int) = (((x % 18446744073709551616).toNat ||| (y % 18446744073709551616).toNat : Nat) : Int) := by
  have e : (BitVec.ofInt IntKind.u64.bits x ||| BitVec.ofInt IntKind.u64.bits y).toNat = ((x % 18446744073709551616).toNat ||| (y % 18446744073709551616).toNat : Nat) := by
    rw [BitVec.toNat_or, BitVec.toNat_ofInt, BitVec.toNat_ofInt]; rfl
  rw [e, wrapU]
  have h1 : ((x % 18446744073709551616).toNat ||| (y % 18446744073709551616).toNat) < 2 ^ 64 := Nat.or_lt_two_pow (by omega) (by omega)
  omega
theorem and32 (x : Int) : IntKind.u64.wrap ((BitVec.ofInt IntKind.u64.bits x &&& BitVec.ofInt IntKind.u64.bits 4294967295).toNat : Int) = x % 4294967296 := by
  rw [andU]
  have : ((x % 18446744073709551616).toNat &&& ((4294967295 : Int) % 18446744073709551616).toNat) = (x % 18446744073709551616).toNat % 2 ^ 32 := Nat.and_two_pow_sub_one_eq_mod _ 32
  rw [this]; omega
theorem shr32 (x : Int) : x.fdiv (2 ^ min (Int.toNat 32) IntKind.u64.bits) = x / 4294967296 := fdivP x 32

theorem mulHi (x y : Int) (hx : 0 ≤ x) (hx2 : x < 18446744073709551616) (hy : 0 ≤ y) (hy2 : y < 18446744073709551616) :
    ((x / 4294967296) * (y / 4294967296) + ((x / 4294967296) * (y % 4294967296) + (x % 4294967296) * (y % 4294967296) / 4294967296) / 4294967296 + (((x / 4294967296) * (y % 4294967296) + (x % 4294967296) * (y % 4294967296) / 4294967296) % 4294967296 + (x % 4294967296) * (y / 4294967296)) / 4294967296) = x * y / 18446744073709551616 := by
  have hx' : x = 4294967296 * (x / 4294967296) + x % 4294967296 := by omega
  have hy' : y = 4294967296 * (y / 4294967296) + y % 4294967296 := by omega
  have hxy : ∀ x1 x0 y1 y0 : Int, (4294967296 * x1 + x0) * (4294967296 * y1 + y0) = 18446744073709551616 * (x1 * y1) + 4294967296 * (x1 * y0) + 4294967296 * (x0 * y1) + x0 * y0 := by
    intro x1 x0 y1 y0; grind
  have hprod : x * y = (4294967296 * (x / 4294967296) + x % 4294967296) * (4294967296 * (y / 4294967296) + y % 4294967296) := by rw [← hx', ← hy']
  rw [hprod, hxy]
  generalize x / 4294967296 * (y / 4294967296) = p
  generalize x / 4294967296 * (y % 4294967296) = q
  generalize x % 4294967296 * (y / 4294967296) = r
  generalize x % 4294967296 * (y % 4294967296) = t
  omega
theorem halves (x y : Int) (hx : 0 ≤ x) (hx2 : x < 18446744073709551616) (hy : 0 ≤ y) (hy2 : y < 18446744073709551616) :
    (0 ≤ (x / 4294967296) * (y / 4294967296) ∧ (x / 4294967296) * (y / 4294967296) ≤ 18446744065119617025) ∧ (0 ≤ (x / 4294967296) * (y % 4294967296) ∧ (x / 4294967296) * (y % 4294967296) ≤ 18446744065119617025) ∧
    (0 ≤ (x % 4294967296) * (y / 4294967296) ∧ (x % 4294967296) * (y / 4294967296) ≤ 18446744065119617025) ∧ (0 ≤ (x % 4294967296) * (y % 4294967296) ∧ (x % 4294967296) * (y % 4294967296) ≤ 18446744065119617025) := by
  have hm : ∀ u v : Int, (0 ≤ u ∧ u ≤ 4294967295) → (0 ≤ v ∧ v ≤ 4294967295) → 0 ≤ u * v ∧ u * v ≤ 18446744065119617025 := by
    intro u v h1 h2
    refine ⟨Int.mul_nonneg h1.1 h2.1, ?_⟩
    have := Int.mul_le_mul h1.2 h2.2 h2.1 (by omega)
    omega
  exact ⟨hm _ _ (by omega) (by omega), hm _ _ (by omega) (by omega), hm _ _ (by omega) (by omega), hm _ _ (by omega) (by omega)⟩
theorem mul64_ (x y : Int) (hx : 0 ≤ x) (hx2 : x < 18446744073709551616) (hy : 0 ≤ y) (hy2 : y < 18446744073709551616) :
    ACall Tryd.prog 49 [.d (.int .u64 x), .d (.int .u64 y)] (.tup [.d (.int .u64 (x * y / 18446744073709551616)), .d (.int .u64 (x * y % 18446744073709551616))]) := by
  refine acall Tryd.func49 (by kernel_rfl) ?_
  conv => whnf
  refine ⟨by omega, ?_⟩
  conv => whnf
  refine ⟨by omega, ?_⟩
  conv => whnf
  refine ⟨by omega, ?_⟩
  conv => whnf
  refine ⟨by omega, ?_⟩
  conv => whnf
  refine ⟨by omega, ?_⟩
  conv => whnf
  refine ⟨?_⟩
  simp only [and32, shr32]
  simp only [wrapU]
  have hh := mulHi x y hx hx2 hy hy2
  obtain ⟨m1, m2, m3, m4⟩ := halves x y hx hx2 hy hy2
  rw [← hh]
  generalize x / 4294967296 * (y / 4294967296) = p at *
  generalize x / 4294967296 * (y % 4294967296) = q at *
  generalize x % 4294967296 * (y / 4294967296) = r at *
  generalize x % 4294967296 * (y % 4294967296) = t at *
  congr 4
  clear hh
  omega

/-! ### Trailing zeros -/
theorem low_bit (k m : Nat) (h : 2 ^ k * (2 * m + 1) < 2 ^ 64) : (2 ^ k * (2 * m + 1)) &&& (2 ^ 64 - 2 ^ k * (2 * m + 1)) = 2 ^ k := by
  have hk : 0 < 2 ^ k := Nat.two_pow_pos k
  have h1 : 2 ^ 64 - 2 ^ k * (2 * m + 1) = 2 ^ 64 - ((2 ^ k * (2 * m) + (2 ^ k - 1)) + 1) := by
    have : 2 ^ k * (2 * m + 1) = 2 ^ k * (2 * m) + 2 ^ k := by rw [Nat.mul_add, Nat.mul_one]
    omega
  apply Nat.eq_of_testBit_eq
  intro i
  rw [Nat.testBit_and, h1, Nat.testBit_two_pow_sub_succ (by
    have : 2 ^ k * (2 * m + 1) = 2 ^ k * (2 * m) + 2 ^ k := by rw [Nat.mul_add, Nat.mul_one]
    omega), Nat.testBit_two_pow_mul_add _ (by omega), Nat.testBit_two_pow_mul, Nat.testBit_two_pow]
  have hk64 : k < 64 := by
    rcases Nat.lt_or_ge k 64 with hk | hk
    · exact hk
    · have := Nat.pow_le_pow_right (n := 2) (by omega) hk
      have : 2 ^ k ≤ 2 ^ k * (2 * m + 1) := Nat.le_mul_of_pos_right _ (by omega)
      omega
  rcases Nat.lt_trichotomy i k with hi | hi | hi
  · simp [show ¬ k ≤ i by omega, show k ≠ i by omega]
  · subst hi
    simp [hk64, show 2 * m + 1 = 2 * m + 1 from rfl, Nat.testBit_zero]
  · have e : (2 * m + 1).testBit (i - k) = (2 * m).testBit (i - k) := by
      obtain ⟨j, hj⟩ : ∃ j, i - k = j + 1 := ⟨i - k - 1, by omega⟩
      rw [hj, Nat.testBit_succ, Nat.testBit_succ]
      congr 1; omega
    simp [show k ≤ i by omega, show ¬ i < k by omega, show k ≠ i by omega, e]
    intro h _; exact h
theorem tab_at : ∀ k : Nat, k < 64 → deBruijn[((2 ^ k * 285870213051353865) % 18446744073709551616 / 288230376151711744)]? = some (k : Int) := by decide +kernel

theorem tz_ (k m : Nat) (h : 2 ^ k * (2 * m + 1) < 18446744073709551616) :
    ACall Tryd.prog 79 [.d (.int .u64 ((2 ^ k * (2 * m + 1) : Nat) : Int))] (.d (.int .i64 k)) := by
  have hlow := low_bit k m h
  have hk64 : k < 64 := by
    rcases Nat.lt_or_ge k 64 with hk | hk
    · exact hk
    · have := Nat.pow_le_pow_right (n := 2) (by omega) hk
      have : 2 ^ k ≤ 2 ^ k * (2 * m + 1) := Nat.le_mul_of_pos_right _ (by omega)
      omega
  have hpos : 0 < 2 ^ k * (2 * m + 1) := Nat.mul_pos (Nat.two_pow_pos k) (by omega)
  have htab := tab_at k hk64
  generalize hx : 2 ^ k * (2 * m + 1) = x at *
  refine acall Tryd.func79 (by kernel_rfl) ?_
  conv => whnf
  refine br (fun h => ?_) (fun h => ?_)
  · simp at h; omega
  conv => whnf
  refine ⟨by omega, ?_⟩
  have e1 : IntKind.u64.wrap ((BitVec.ofInt IntKind.u64.bits (x : Int) &&& BitVec.ofInt IntKind.u64.bits (IntKind.u64.wrap (0 - (x : Int)))).toNat : Int) = ((2 ^ k : Nat) : Int) := by
    rw [andU, wrapU, ← hlow]
    congr 2 <;> omega
  have e2 : (IntKind.u64.wrap (((2 ^ k : Nat) : Int) * 285870213051353865)).fdiv (2 ^ min (Int.toNat 58) IntKind.u64.bits) = (((2 ^ k * 285870213051353865) % 18446744073709551616 / 288230376151711744 : Nat) : Int) := by
    have : (IntKind.u64.wrap (((2 ^ k : Nat) : Int) * 285870213051353865)).fdiv (2 ^ min (Int.toNat 58) IntKind.u64.bits) = (IntKind.u64.wrap (((2 ^ k : Nat) : Int) * 285870213051353865)) / 288230376151711744 := fdivP _ 58
    rw [this, wrapU]
    generalize 2 ^ k = q
    omega
  have hlt : (2 ^ k * 285870213051353865) % 18446744073709551616 / 288230376151711744 < 64 := by omega
  generalize hj : (2 ^ k * 285870213051353865) % 18446744073709551616 / 288230376151711744 = j at *
  rw [e1, e2]
  conv => whnf
  refine ⟨by omega, ?_⟩
  refine ⟨⟨by omega, .int .u8 k, ?_, ?_⟩⟩
  · rw [Int.toNat_natCast, List.getElem?_map, htab]; rfl
  conv => whnf
  refine ⟨?_⟩
  rw [wrap_small (by omega) (by omega)]; rfl

/-! ### The number of bits -/
def IsLen (x n : Nat) : Prop := x < 2 ^ n ∧ (n = 0 ∨ 2 ^ (n - 1) ≤ x)
theorem IsLen.unique {x n m : Nat} (h : IsLen x n) (k : IsLen x m) : n = m := by
  have key : ∀ {x n m : Nat}, IsLen x n → IsLen x m → ¬ n < m := by
    intro x n m h k hlt
    rcases k.2 with k0 | k0
    · omega
    · have := Nat.pow_le_pow_right (n := 2) (by omega) (show n ≤ m - 1 by omega)
      have := h.1
      omega
  have h1 := key h k
  have h2 := key k h
  omega
theorem IsLen.shift {x n s : Nat} (h : IsLen (x / 2 ^ s) n) (hn : 0 < x / 2 ^ s) : IsLen x (s + n) := by
  have hp := Nat.two_pow_pos s
  refine ⟨?_, .inr ?_⟩
  · have := (Nat.div_lt_iff_lt_mul hp).1 h.1
    rw [Nat.pow_add, Nat.mul_comm]; exact this
  · rcases h.2 with h0 | h0
    · subst h0
      have := h.1
      rw [Nat.pow_zero] at this
      omega
    · have := (Nat.le_div_iff_mul_le hp).1 h0
      have hn : n ≠ 0 := by
        intro e; subst e
        have := h.1
        simp at this; omega
      rw [show s + n - 1 = (n - 1) + s by omega, Nat.pow_add]; exact this
def lenTab : List Nat := (List.range 256).map fun x => if x = 0 then 0 else x.log2 + 1
theorem lenTab_is : ∀ x, x < 256 → IsLen x (lenTab.getD x 0) := by
  intro x hx
  have : lenTab.getD x 0 = if x = 0 then 0 else x.log2 + 1 := by
    simp [lenTab, List.getD, hx]
  rw [this]
  split
  · subst_vars; exact ⟨by decide, .inl rfl⟩
  · rename_i h0
    exact ⟨Nat.lt_log2_self, .inr (Nat.log2_self_le h0)⟩
theorem lenTab_le : ∀ x, lenTab.getD x 0 ≤ 8 := by
  intro x
  by_cases hx : x < 256
  · revert x; decide +kernel
  · simp [lenTab, List.getD, hx]
theorem shr16 (x : Int) : x.fdiv (2 ^ min (Int.toNat 16) IntKind.u64.bits) = x / 65536 := fdivP x 16
theorem shr8 (x : Int) : x.fdiv (2 ^ min (Int.toNat 8) IntKind.u64.bits) = x / 256 := fdivP x 8
theorem wrapB (n : Int) : IntKind.u8.wrap n = n % 256 := by
  have : IntKind.u8.wrap n = n % (2 ^ 8) := by simp [IntKind.wrap, IntKind.signed, IntKind.bits]
  rw [this]; rfl
theorem byteAt_tab (s : ByteArray) (hs : s.data.toList = lenTab.map UInt8.ofNat) (y : Nat) (hy : y < 256) : byteAt s (y : Int) = (lenTab.getD y 0 : Nat) := by
  unfold byteAt
  rw [hs, Int.toNat_natCast]
  revert y
  decide +kernel
theorem lenFin (x n S s y : Nat) (hS : S = 2 ^ s) (hn : IsLen x n) (hy : y = x / S) (hb : y < 256) (hp : 0 < y ∨ s = 0) : n = s + lenTab.getD y 0 := by
  subst hS
  have h1 := lenTab_is y hb
  rcases hp with hp | hp
  · subst hy
    exact hn.unique (h1.shift hp)
  · subst hp
    simp at hy
    subst hy
    rw [Nat.zero_add]; exact hn.unique h1

theorem len64_ (x n : Nat) (hx : x < 18446744073709551616) (hn : IsLen x n) : ACall Tryd.prog 60 [.d (.int .u64 x)] (.d (.int .i64 n)) := by
  refine acall Tryd.func60 (by kernel_rfl) ?_
  conv => whnf
  refine br (fun h32 => ?_) (fun h32 => ?_)
  · have h32 := of_decide_eq_true h32
    conv => whnf
    refine ⟨by omega, ?_⟩
    conv => whnf
    refine br (fun h16 => ?_) (fun h16 => ?_)
    · have h16 := of_decide_eq_true h16
      rw [shr32] at h16
      conv => whnf
      refine ⟨by omega, ?_⟩
      conv => whnf
      refine br (fun h8 => ?_) (fun h8 => ?_)
      · have h8 := of_decide_eq_true h8
        rw [shr16, shr32] at h8
        conv => whnf
        refine ⟨by omega, ?_⟩
        conv => whnf
        have e : IntKind.u8.wrap ((((x : Int).fdiv (2 ^ min (Int.toNat 32) IntKind.u64.bits)).fdiv (2 ^ min (Int.toNat 16) IntKind.u64.bits)).fdiv (2 ^ min (Int.toNat 8) IntKind.u64.bits)) = ((x / 72057594037927936 : Nat) : Int) := by
          rw [wrapB, shr8, shr16, shr32]
          omega
        have hf := lenFin x n 72057594037927936 56 (x / 72057594037927936) (by decide) hn rfl (by omega) (.inl (by omega))
        have hle := lenTab_le (x / 72057594037927936)
        refine ⟨⟨by rw [e]; omega, by rw [e, Int.toNat_natCast]; exact Nat.lt_of_lt_of_le (show x / 72057594037927936 < 256 by omega) (by decide +kernel)⟩, ?_⟩
        conv => whnf
        refine ⟨?_⟩
        rw [e, byteAt_tab _ (by decide +kernel) _ (by omega)]
        generalize lenTab.getD (x / 72057594037927936) 0 = q at *
        rw [wrap_small (n := (q : Int)) (by omega) (by omega)]
        rw [wrap_small (n := 32 + 16) (by omega) (by omega), wrap_small (n := 32 + 16 + 8) (by omega) (by omega), wrap_small (n := 32 + 16 + 8 + (q : Int)) (by omega) (by omega)]
        simp only [cAV]; congr 2; omega
      · have h8 := of_decide_eq_false h8
        rw [shr16, shr32] at h8
        conv => whnf
        have e : IntKind.u8.wrap (((x : Int).fdiv (2 ^ min (Int.toNat 32) IntKind.u64.bits)).fdiv (2 ^ min (Int.toNat 16) IntKind.u64.bits)) = ((x / 281474976710656 : Nat) : Int) := by
          rw [wrapB, shr16, shr32]
          omega
        have hf := lenFin x n 281474976710656 48 (x / 281474976710656) (by decide) hn rfl (by omega) (.inl (by omega))
        have hle := lenTab_le (x / 281474976710656)
        refine ⟨⟨by rw [e]; omega, by rw [e, Int.toNat_natCast]; exact Nat.lt_of_lt_of_le (show x / 281474976710656 < 256 by omega) (by decide +kernel)⟩, ?_⟩
        conv => whnf
        refine ⟨?_⟩
        rw [e, byteAt_tab _ (by decide +kernel) _ (by omega)]
        generalize lenTab.getD (x / 281474976710656) 0 = q at *
        rw [wrap_small (n := (q : Int)) (by omega) (by omega)]
        rw [wrap_small (n := 32 + 16) (by omega) (by omega), wrap_small (n := 32 + 16 + (q : Int)) (by omega) (by omega)]
        simp only [cAV]; congr 2; omega
    · have h16 := of_decide_eq_false h16
      rw [shr32] at h16
      conv => whnf
      refine br (fun h8 => ?_) (fun h8 => ?_)
      · have h8 := of_decide_eq_true h8
        rw [shr32] at h8
        conv => whnf
        refine ⟨by omega, ?_⟩
        conv => whnf
        have e : IntKind.u8.wrap (((x : Int).fdiv (2 ^ min (Int.toNat 32) IntKind.u64.bits)).fdiv (2 ^ min (Int.toNat 8) IntKind.u64.bits)) = ((x / 1099511627776 : Nat) : Int) := by
          rw [wrapB, shr8, shr32]
          omega
        have hf := lenFin x n 1099511627776 40 (x / 1099511627776) (by decide) hn rfl (by omega) (.inl (by omega))
        have hle := lenTab_le (x / 1099511627776)
        refine ⟨⟨by rw [e]; omega, by rw [e, Int.toNat_natCast]; exact Nat.lt_of_lt_of_le (show x / 1099511627776 < 256 by omega) (by decide +kernel)⟩, ?_⟩
        conv => whnf
        refine ⟨?_⟩
        rw [e, byteAt_tab _ (by decide +kernel) _ (by omega)]
        generalize lenTab.getD (x / 1099511627776) 0 = q at *
        rw [wrap_small (n := (q : Int)) (by omega) (by omega)]
        rw [wrap_small (n := 32 + 8) (by omega) (by omega), wrap_small (n := 32 + 8 + (q : Int)) (by omega) (by omega)]
        simp only [cAV]; congr 2; omega
      · have h8 := of_decide_eq_false h8
        rw [shr32] at h8
        conv => whnf
        have e : IntKind.u8.wrap ((x : Int).fdiv (2 ^ min (Int.toNat 32) IntKind.u64.bits)) = ((x / 4294967296 : Nat) : Int) := by
          rw [wrapB, shr32]
          omega
        have hf := lenFin x n 4294967296 32 (x / 4294967296) (by decide) hn rfl (by omega) (.inl (by omega))
        have hle := lenTab_le (x / 4294967296)
        refine ⟨⟨by rw [e]; omega, by rw [e, Int.toNat_natCast]; exact Nat.lt_of_lt_of_le (show x / 4294967296 < 256 by omega) (by decide +kernel)⟩, ?_⟩
        conv => whnf
        refine ⟨?_⟩
        rw [e, byteAt_tab _ (by decide +kernel) _ (by omega)]
        generalize lenTab.getD (x / 4294967296) 0 = q at *
        rw [wrap_small (n := (q : Int)) (by omega) (by omega)]
        rw [wrap_small (n := 32 + (q : Int)) (by omega) (by omega)]
        simp only [cAV]; congr 2; omega
  · have h32 := of_decide_eq_false h32
    conv => whnf
    refine br (fun h16 => ?_) (fun h16 => ?_)
    · have h16 := of_decide_eq_true h16
      conv => whnf
      refine ⟨by omega, ?_⟩
      conv => whnf
      refine br (fun h8 => ?_) (fun h8 => ?_)
      · have h8 := of_decide_eq_true h8
        rw [shr16] at h8
        conv => whnf
        refine ⟨by omega, ?_⟩
        conv => whnf
        have e : IntKind.u8.wrap (((x : Int).fdiv (2 ^ min (Int.toNat 16) IntKind.u64.bits)).fdiv (2 ^ min (Int.toNat 8) IntKind.u64.bits)) = ((x / 16777216 : Nat) : Int) := by
          rw [wrapB, shr8, shr16]
          omega
        have hf := lenFin x n 16777216 24 (x / 16777216) (by decide) hn rfl (by omega) (.inl (by omega))
        have hle := lenTab_le (x / 16777216)
        refine ⟨⟨by rw [e]; omega, by rw [e, Int.toNat_natCast]; exact Nat.lt_of_lt_of_le (show x / 16777216 < 256 by omega) (by decide +kernel)⟩, ?_⟩
        conv => whnf
        refine ⟨?_⟩
        rw [e, byteAt_tab _ (by decide +kernel) _ (by omega)]
        generalize lenTab.getD (x / 16777216) 0 = q at *
        rw [wrap_small (n := (q : Int)) (by omega) (by omega)]
        rw [wrap_small (n := 0 + 16) (by omega) (by omega), wrap_small (n := 0 + 16 + 8) (by omega) (by omega), wrap_small (n := 0 + 16 + 8 + (q : Int)) (by omega) (by omega)]
        simp only [cAV]; congr 2; omega
      · have h8 := of_decide_eq_false h8
        rw [shr16] at h8
        conv => whnf
        have e : IntKind.u8.wrap ((x : Int).fdiv (2 ^ min (Int.toNat 16) IntKind.u64.bits)) = ((x / 65536 : Nat) : Int) := by
          rw [wrapB, shr16]
          omega
        have hf := lenFin x n 65536 16 (x / 65536) (by decide) hn rfl (by omega) (.inl (by omega))
        have hle := lenTab_le (x / 65536)
        refine ⟨⟨by rw [e]; omega, by rw [e, Int.toNat_natCast]; exact Nat.lt_of_lt_of_le (show x / 65536 < 256 by omega) (by decide +kernel)⟩, ?_⟩
        conv => whnf
        refine ⟨?_⟩
        rw [e, byteAt_tab _ (by decide +kernel) _ (by omega)]
        generalize lenTab.getD (x / 65536) 0 = q at *
        rw [wrap_small (n := (q : Int)) (by omega) (by omega)]
        rw [wrap_small (n := 0 + 16) (by omega) (by omega), wrap_small (n := 0 + 16 + (q : Int)) (by omega) (by omega)]
        simp only [cAV]; congr 2; omega
    · have h16 := of_decide_eq_false h16
      conv => whnf
      refine br (fun h8 => ?_) (fun h8 => ?_)
      · have h8 := of_decide_eq_true h8
        conv => whnf
        refine ⟨by omega, ?_⟩
        conv => whnf
        have e : IntKind.u8.wrap ((x : Int).fdiv (2 ^ min (Int.toNat 8) IntKind.u64.bits)) = ((x / 256 : Nat) : Int) := by
          rw [wrapB, shr8]
          omega
        have hf := lenFin x n 256 8 (x / 256) (by decide) hn rfl (by omega) (.inl (by omega))
        have hle := lenTab_le (x / 256)
        refine ⟨⟨by rw [e]; omega, by rw [e, Int.toNat_natCast]; exact Nat.lt_of_lt_of_le (show x / 256 < 256 by omega) (by decide +kernel)⟩, ?_⟩
        conv => whnf
        refine ⟨?_⟩
        rw [e, byteAt_tab _ (by decide +kernel) _ (by omega)]
        generalize lenTab.getD (x / 256) 0 = q at *
        rw [wrap_small (n := (q : Int)) (by omega) (by omega)]
        rw [wrap_small (n := 0 + 8) (by omega) (by omega), wrap_small (n := 0 + 8 + (q : Int)) (by omega) (by omega)]
        simp only [cAV]; congr 2; omega
      · have h8 := of_decide_eq_false h8
        conv => whnf
        have e : IntKind.u8.wrap (x : Int) = ((x / 1 : Nat) : Int) := by
          rw [wrapB]
          omega
        have hf := lenFin x n 1 0 (x / 1) (by decide) hn rfl (by omega) (.inr rfl)
        have hle := lenTab_le (x / 1)
        refine ⟨⟨by rw [e]; omega, by rw [e, Int.toNat_natCast]; exact Nat.lt_of_lt_of_le (show x / 1 < 256 by omega) (by decide +kernel)⟩, ?_⟩
        conv => whnf
        refine ⟨?_⟩
        rw [e, byteAt_tab _ (by decide +kernel) _ (by omega)]
        generalize lenTab.getD (x / 1) 0 = q at *
        rw [wrap_small (n := (q : Int)) (by omega) (by omega)]
        rw [wrap_small (n := 0 + (q : Int)) (by omega) (by omega)]
        simp only [cAV]; congr 2; omega
end Go.Proofs.YtnkjhialkaomfaaDoor.P
