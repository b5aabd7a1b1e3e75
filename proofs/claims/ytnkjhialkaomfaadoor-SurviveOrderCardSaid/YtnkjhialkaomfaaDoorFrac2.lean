/-
  fraction.Wide: its operations, by the abstract machine.
-/
import Derived.Test.YtnkjhialkaomfaaDoorFrac1
namespace Go.Proofs.YtnkjhialkaomfaaDoor.P
open Go.Abs Go.Proofs
set_option maxRecDepth 10000

def Hi (z : Int) : Int := z / 18446744073709551616 % 18446744073709551616
def Lo (z : Int) : Int := z % 18446744073709551616
/-- A number modulo 2^128. -/
def W (z : Int) : D := .agg [.int .u64 (Hi z), .int .u64 (Lo z)]
theorem hi_lo (z : Int) : (0 ≤ Hi z ∧ Hi z < 18446744073709551616) ∧ 0 ≤ Lo z ∧ Lo z < 18446744073709551616 := by unfold Hi Lo; omega
theorem W_mk {h l z : Int} (h1 : h = Hi z) (h2 : l = Lo z) : D.agg [.int .u64 h, .int .u64 l] = W z := by subst h1; subst h2; rfl

theorem add64_ (x y c : Int) (hx : 0 ≤ x) (hy : 0 ≤ y) (hc : c = 0 ∨ c = 1) :
    XCall Tryd.prog 72 [.d (.int .u64 x), .d (.int .u64 y), .d (.int .u64 c)] (.tup [.d (.int .u64 ((x + y + c) % 18446744073709551616)), .d (.int .u64 ((x + y + c) / 18446744073709551616))]) := by
  intro O w vs hlen hargs
  obtain ⟨v0, v1, v2, rfl⟩ : ∃ v0 v1 v2, vs = #[v0, v1, v2] := by
    obtain ⟨l⟩ := vs
    match l, hlen with
    | [v0, v1, v2], _ => exact ⟨v0, v1, v2, rfl⟩
  have e0 := repD_int (hargs 0 v0 _ rfl rfl)
  have e1 := repD_int (hargs 1 v1 _ rfl rfl)
  have e2 := repD_int (hargs 2 v2 _ rfl rfl)
  subst e0; subst e1; subst e2
  obtain ⟨x', rfl⟩ : ∃ n : Nat, x = n := ⟨x.toNat, by omega⟩
  obtain ⟨y', rfl⟩ : ∃ n : Nat, y = n := ⟨y.toNat, by omega⟩
  obtain ⟨c', rfl⟩ : ∃ n : Nat, c = n := ⟨c.toNat, by omega⟩
  refine ⟨.tuple #[.int .u64 (((x' + y' + c') % 18446744073709551616 : Nat) : Int), .int .u64 (((x' + y' + c') / 18446744073709551616 : Nat) : Int)], ?_, ?_⟩
  · rw [run_callFunc_extern Tryd.func72 (by kernel_rfl) (by kernel_rfl) (by kernel_rfl) (e := add64Entry) (by kernel_rfl), run_add64 x' y' c' (by omega) (by omega) (by omega) (by omega)]
    simp only [Result.andThen]
    congr 5 <;> omega
  · refine ⟨_, rfl, rfl, fun i u x hu hx => ?_, fun i j u u' sz e ys sz' e' ys' b h1 h2 h3 => ?_⟩
    · match i, hu, hx with
      | 0, hu, hx => simp at hu hx; subst hu; subst hx; exact .int _ _
      | 1, hu, hx => simp at hu hx; subst hu; subst hx; exact .int _ _
      | i + 2, hu, hx => simp at hu
    · match i, h3 with
      | 0, h3 => simp at h3
      | 1, h3 => simp at h3
      | i + 2, h3 => simp at h3

theorem notU (n : Int) (h0 : 0 ≤ n) (h1 : n < 18446744073709551616) : IntKind.u64.wrap ((BitVec.ofInt IntKind.u64.bits (if IntKind.u64.signed = true then -1 else IntKind.u64.max) ^^^ BitVec.ofInt IntKind.u64.bits n).toNat : Int) = 18446744073709551615 - n := by
  have e : (BitVec.ofInt IntKind.u64.bits (if IntKind.u64.signed = true then -1 else IntKind.u64.max) ^^^ BitVec.ofInt IntKind.u64.bits n).toNat = 18446744073709551615 ^^^ n.toNat := by
    rw [BitVec.toNat_xor, BitVec.toNat_ofInt, BitVec.toNat_ofInt]
    have : (n % ((2 ^ IntKind.u64.bits : Nat) : Int)).toNat = n.toNat := by
      rw [Int.emod_eq_of_lt h0 (by simpa [IntKind.bits] using h1)]
    rw [this]; rfl
  have e2 : 18446744073709551615 ^^^ n.toNat = 18446744073709551615 - n.toNat := by
    have hlt : n.toNat < 2 ^ 64 := by omega
    have : (2 ^ 64 - 1) ^^^ n.toNat = 2 ^ 64 - (n.toNat + 1) := by
      apply Nat.eq_of_testBit_eq
      intro i
      rw [Nat.testBit_xor, Nat.testBit_two_pow_sub_one, Nat.testBit_two_pow_sub_succ hlt]
      by_cases hi : i < 64
      · simp [hi]
      · simp [hi, Nat.testBit_lt_two_pow (Nat.lt_of_lt_of_le hlt (Nat.pow_le_pow_right (by omega) (show 64 ≤ i by omega)))]
    have h3 : (18446744073709551615 : Nat) = 2 ^ 64 - 1 := by decide
    rw [h3, this]; omega
  rw [e, e2, wrapU]; omega

theorem whole_ (n : Int) (h0 : -9223372036854775808 ≤ n) (h1 : n ≤ 9223372036854775807) : ACall Tryd.prog 26 [.d (.int .i64 n)] (.d (W n)) := by
  refine acall Tryd.func26 (by kernel_rfl) ?_
  conv => whnf
  refine ⟨by omega, ?_⟩
  conv => whnf
  refine ⟨?_⟩
  have e : n.fdiv (2 ^ min (Int.toNat 63) IntKind.i64.bits) = n / 9223372036854775808 := fdivP n 63
  rw [e, wrapU, wrapU]
  exact congrArg AV.d (W_mk (by unfold Hi; omega) (by unfold Lo; omega))

theorem plus_ (a b : Int) : ACall Tryd.prog 48 [.d (W a), .d (W b)] (.d (W (a + b))) := by
  refine acall Tryd.func48 (by kernel_rfl) ?_
  have ha := hi_lo a
  have hb := hi_lo b
  conv => whnf
  refine callX (add64_ (Lo a) (Lo b) 0 (by omega) (by omega) (.inl rfl)) ?_
  conv => whnf
  refine callX (add64_ (Hi a) (Hi b) ((Lo a + Lo b + 0) / 18446744073709551616) (by omega) (by omega) (by omega)) ?_
  conv => whnf
  refine ⟨?_⟩
  exact congrArg AV.d (W_mk (by unfold Hi Lo; omega) (by unfold Lo; omega))
theorem opposite_ (a : Int) : ACall Tryd.prog 38 [.d (W a)] (.d (W (-a))) := by
  refine acall Tryd.func38 (by kernel_rfl) ?_
  have ha := hi_lo a
  conv => whnf
  rw [notU _ ha.1.1 ha.1.2, notU _ ha.2.1 ha.2.2, W_mk (h := 18446744073709551615 - Hi a) (l := 18446744073709551615 - Lo a) (z := -a - 1) (by unfold Hi; omega) (by unfold Lo; omega), W_mk (h := 0) (l := 1) (z := 1) (by decide) (by decide)]
  refine callA (plus_ (-a - 1) 1) ?_
  rw [show -a - 1 + 1 = -a by omega]
  conv => whnf
  exact ⟨rfl⟩
theorem minus_ (a b : Int) : ACall Tryd.prog 32 [.d (W a), .d (W b)] (.d (W (a - b))) := by
  refine acall Tryd.func32 (by kernel_rfl) ?_
  conv => whnf
  refine ⟨⟨by decide +kernel, by kernel_rfl⟩, ?_⟩
  conv => whnf
  refine callA (opposite_ b) ?_
  conv => whnf
  refine callA (plus_ a (-b)) ?_
  rw [show a + -b = a - b by omega]
  conv => whnf
  exact ⟨rfl⟩
theorem times_ (a b : Int) : ACall Tryd.prog 34 [.d (W a), .d (W b)] (.d (W (a * b))) := by
  refine acall Tryd.func34 (by kernel_rfl) ?_
  have ha := hi_lo a
  have hb := hi_lo b
  conv => whnf
  refine callA (mul64_ (Lo a) (Lo b) (by omega) (by omega) (by omega) (by omega)) ?_
  conv => whnf
  refine ⟨?_⟩
  have hab : a * b = 18446744073709551616 * (18446744073709551616 * ((a / 18446744073709551616) * (b / 18446744073709551616)) + (a / 18446744073709551616) * Lo b + Lo a * (b / 18446744073709551616)) + Lo a * Lo b := by
    have h1 : a = 18446744073709551616 * (a / 18446744073709551616) + Lo a := by unfold Lo; omega
    have h2 : b = 18446744073709551616 * (b / 18446744073709551616) + Lo b := by unfold Lo; omega
    have : ∀ A x B y : Int, (18446744073709551616 * A + x) * (18446744073709551616 * B + y) = 18446744073709551616 * (18446744073709551616 * (A * B) + A * y + x * B) + x * y := by intro A x B y; grind
    have h3 := this (a / 18446744073709551616) (Lo a) (b / 18446744073709551616) (Lo b)
    rw [← h1, ← h2] at h3
    exact h3
  refine congrArg AV.d (W_mk ?_ ?_)
  · rw [wrapU, wrapU, wrapU, wrapU]
    have e1 : Hi a * Lo b % 18446744073709551616 = (a / 18446744073709551616) * Lo b % 18446744073709551616 := by unfold Hi; rw [Int.mul_emod, Int.emod_emod, ← Int.mul_emod]
    have e2 : Lo a * Hi b % 18446744073709551616 = Lo a * (b / 18446744073709551616) % 18446744073709551616 := by unfold Hi; rw [Int.mul_emod, Int.emod_emod, ← Int.mul_emod]
    rw [e1, e2]
    have e3 : Hi (a * b) = (18446744073709551616 * ((a / 18446744073709551616) * (b / 18446744073709551616)) + (a / 18446744073709551616) * Lo b + Lo a * (b / 18446744073709551616) + Lo a * Lo b / 18446744073709551616) % 18446744073709551616 := by
      unfold Hi
      rw [hab]
      congr 1
      omega
    rw [e3]
    generalize (a / 18446744073709551616) * (b / 18446744073709551616) = p
    generalize (a / 18446744073709551616) * Lo b = q
    generalize Lo a * (b / 18446744073709551616) = r
    generalize Lo a * Lo b = t
    omega
  · unfold Lo
    rw [← Int.mul_emod]
end Go.Proofs.YtnkjhialkaomfaaDoor.P
