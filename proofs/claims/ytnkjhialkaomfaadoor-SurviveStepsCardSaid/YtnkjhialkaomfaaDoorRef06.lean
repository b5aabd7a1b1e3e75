/-
  The reference's numbers of 128 bits and fractions (dataenclaveref06), by the abstract machine.
-/
import Derived.Test.YtnkjhialkaomfaaDoorFrac8
namespace Go.Proofs.YtnkjhialkaomfaaDoor.P
open Go.Abs Go.Proofs
set_option maxRecDepth 10000

theorem sub64_ (x y c : Int) (hx : 0 ≤ x) (hy : 0 ≤ y) (hx2 : x < 18446744073709551616) (hy2 : y < 18446744073709551616) (hc : c = 0 ∨ c = 1) :
    XCall Tryd.prog 80 [.d (.int .u64 x), .d (.int .u64 y), .d (.int .u64 c)] (.tup [.d (.int .u64 ((x - y - c) % 18446744073709551616)), .d (.int .u64 (if x < y + c then 1 else 0))]) := by
  intro O w vs hlen hargs
  obtain ⟨v0, v1, v2, rfl⟩ : ∃ v0 v1 v2, vs = #[v0, v1, v2] := by
    obtain ⟨l⟩ := vs
    match l, hlen with
    | [v0, v1, v2], _ => exact ⟨v0, v1, v2, rfl⟩
  have e0 := repD_int (hargs 0 v0 _ rfl rfl)
  have e1 := repD_int (hargs 1 v1 _ rfl rfl)
  have e2 := repD_int (hargs 2 v2 _ rfl rfl)
  subst e0; subst e1; subst e2
  obtain ⟨x', rfl⟩ : ∃ n : Nat, x = n := ⟨x.toNat, by omega⟩
  obtain ⟨y', rfl⟩ : ∃ n : Nat, y = n := ⟨y.toNat, by omega⟩
  obtain ⟨c', rfl⟩ : ∃ n : Nat, c = n := ⟨c.toNat, by omega⟩
  refine ⟨.tuple #[.int .u64 (((x' + 18446744073709551616 - y' - c') % 18446744073709551616 : Nat) : Int), .int .u64 ((if x' < y' + c' then 1 else 0 : Nat) : Int)], ?_, ?_⟩
  · rw [run_callFunc_extern Tryd.func80 (by kernel_rfl) (by kernel_rfl) (by kernel_rfl) (e := sub64Entry) (by kernel_rfl), run_sub64 x' y' c' (by omega)]
    rfl
  · have f1 : (((x' + 18446744073709551616 - y' - c') % 18446744073709551616 : Nat) : Int) = ((x' : Int) - y' - c') % 18446744073709551616 := by omega
    have f2 : ((if x' < y' + c' then 1 else 0 : Nat) : Int) = if (x' : Int) < y' + c' then 1 else 0 := by split <;> split <;> omega
    rw [f1, f2]
    refine ⟨_, rfl, rfl, fun i u x hu hx => ?_, fun i j u u' sz e ys sz' e' ys' b h1 h2 h3 => ?_⟩
    · match i, hu, hx with
      | 0, hu, hx => simp at hu hx; subst hu; subst hx; exact .int _ _
      | 1, hu, hx => simp at hu hx; subst hu; subst hx; exact .int _ _
      | i + 2, hu, hx => simp at hu
    · match i, h3 with
      | 0, h3 => simp at h3
      | 1, h3 => simp at h3
      | i + 2, h3 => simp at h3

theorem rFrom (n : Int) (h0 : -9223372036854775808 ≤ n) (h1 : n ≤ 9223372036854775807) : ACall Tryd.prog 44 [.d (.int .i64 n)] (.d (W n)) := by
  refine acall Tryd.func44 (by kernel_rfl) ?_
  conv => whnf
  refine br (fun h => ?_) (fun h => ?_)
  · have h := of_decide_eq_true h
    conv => whnf
    exact ⟨congrArg AV.d (W_mk (by unfold Hi; omega) (by rw [wrapU]; rfl))⟩
  · have h := of_decide_eq_false h
    conv => whnf
    exact ⟨congrArg AV.d (W_mk (by unfold Hi; omega) (by rw [wrapU]; rfl))⟩
theorem rMinus (a b : Int) : ACall Tryd.prog 66 [.d (W a), .d (W b)] (.d (W (a - b))) := by
  refine acall Tryd.func66 (by kernel_rfl) ?_
  have ha := hi_lo a
  have hb := hi_lo b
  conv => whnf
  refine callX (sub64_ (Lo a) (Lo b) 0 (by omega) (by omega) (by omega) (by omega) (.inl rfl)) ?_
  conv => whnf
  refine callX (sub64_ (Hi a) (Hi b) (if Lo a < Lo b + 0 then 1 else 0) (by omega) (by omega) (by omega) (by omega) (by split <;> simp)) ?_
  conv => whnf
  refine ⟨?_⟩
  refine congrArg AV.d (W_mk ?_ ?_)
  · unfold Hi Lo; split <;> omega
  · unfold Lo; omega
theorem rTimes (a b : Int) : ACall Tryd.prog 46 [.d (W a), .d (W b)] (.d (W (a * b))) := by
  refine acall Tryd.func46 (by kernel_rfl) ?_
  have ha := hi_lo a
  have hb := hi_lo b
  conv => whnf
  refine callA (mul64_ (Lo a) (Lo b) (by omega) (by omega) (by omega) (by omega)) ?_
  conv => whnf
  refine ⟨?_⟩
  have hab : a * b = 18446744073709551616 * (18446744073709551616 * ((a / 18446744073709551616) * (b / 18446744073709551616)) + (a / 18446744073709551616) * Lo b + Lo a * (b / 18446744073709551616)) + Lo a * Lo b := by
    have h1 : a = 18446744073709551616 * (a / 18446744073709551616) + Lo a := by unfold Lo; omega
    have h2 : b = 18446744073709551616 * (b / 18446744073709551616) + Lo b := by unfold Lo; omega
    have : ∀ A x B y : Int, (18446744073709551616 * A + x) * (18446744073709551616 * B + y) = 18446744073709551616 * (18446744073709551616 * (A * B) + A * y + x * B) + x * y := by intro A x B y; grind
    have h3 := this (a / 18446744073709551616) (Lo a) (b / 18446744073709551616) (Lo b)
    rw [← h1, ← h2] at h3
    exact h3
  refine congrArg AV.d (W_mk ?_ ?_)
  · rw [wrapU, wrapU, wrapU, wrapU]
    have e1 : Hi a * Lo b % 18446744073709551616 = (a / 18446744073709551616) * Lo b % 18446744073709551616 := by unfold Hi; rw [Int.mul_emod, Int.emod_emod, ← Int.mul_emod]
    have e2 : Lo a * Hi b % 18446744073709551616 = Lo a * (b / 18446744073709551616) % 18446744073709551616 := by unfold Hi; rw [Int.mul_emod, Int.emod_emod, ← Int.mul_emod]
    rw [e1, e2]
    have e3 : Hi (a * b) = (18446744073709551616 * ((a / 18446744073709551616) * (b / 18446744073709551616)) + (a / 18446744073709551616) * Lo b + Lo a * (b / 18446744073709551616) + Lo a * Lo b / 18446744073709551616) % 18446744073709551616 := by
      unfold Hi
      rw [hab]
      congr 1
      omega
    rw [e3]
    generalize (a / 18446744073709551616) * (b / 18446744073709551616) = p
    generalize (a / 18446744073709551616) * Lo b = q
    generalize Lo a * (b / 18446744073709551616) = r
    generalize Lo a * Lo b = t
    omega
  · unfold Lo
    rw [← Int.mul_emod]
theorem rNegative (z : Int) (h0 : -B127 ≤ z) (h1 : z < B127) : ACall Tryd.prog 65 [.d (W z)] (.d (.bool (decide (z < 0)))) := by
  unfold B127 at h0 h1
  refine acall Tryd.func65 (by kernel_rfl) ?_
  have e : (Hi z).fdiv (2 ^ min (Int.toNat 63) IntKind.u64.bits) = Hi z / 9223372036854775808 := fdivP _ 63
  conv => whnf
  refine ⟨by omega, ?_⟩
  rw [e]
  conv => whnf
  refine ⟨?_⟩
  have : (Hi z / 9223372036854775808 == 1) = decide (z < 0) := by
    rw [Bool.eq_iff_iff, beq_iff_eq, decide_eq_true_iff]
    unfold Hi
    omega
  rw [this]; rfl
theorem rZero (x : Nat) (hx : (x : Int) < B127) : ACall Tryd.prog 81 [.d (W x)] (.d (.bool (decide (x = 0)))) := by
  refine acall Tryd.func81 (by kernel_rfl) ?_
  conv => whnf
  refine ⟨⟨by kernel_rfl, by kernel_rfl⟩, ?_⟩
  conv => whnf
  refine ⟨by kernel_rfl, ?_⟩
  conv => whnf
  refine ⟨?_⟩
  have : (Hi x == 0 && (Lo x == 0 && true)) = decide (x = 0) := by
    rw [Bool.eq_iff_iff, decide_eq_true_iff, ← W_zero x hx]
    simp
  rw [this]; rfl
theorem rSize (z : Int) (h0 : -B127 ≤ z) (h1 : z < B127) : ACall Tryd.prog 67 [.d (W z)] (.d (W (z.natAbs : Int))) := by
  refine acall Tryd.func67 (by kernel_rfl) ?_
  conv => whnf
  refine callA (rNegative z h0 h1) ?_
  by_cases h : z < 0
  · rw [decide_eq_true h, show ((z.natAbs : Nat) : Int) = 0 - z by omega]
    conv => whnf
    refine callA (rMinus 0 z) ?_
    conv => whnf
    exact ⟨rfl⟩
  · rw [decide_eq_false h, show ((z.natAbs : Nat) : Int) = z by omega]
    conv => whnf
    exact ⟨rfl⟩
theorem rBelow (x y : Nat) (hx : x < 340282366920938463463374607431768211456) (hy : y < 340282366920938463463374607431768211456) : ACall Tryd.prog 70 [.d (W x), .d (W y)] (.d (.bool (decide (x < y)))) := by
  refine acall Tryd.func70 (by kernel_rfl) ?_
  have hxx : (x : Int) = 18446744073709551616 * Hi x + Lo x := by unfold Hi Lo; omega
  have hyy : (y : Int) = 18446744073709551616 * Hi y + Lo y := by unfold Hi Lo; omega
  have hbx := hi_lo x
  have hby := hi_lo y
  conv => whnf
  refine ⟨?_⟩
  have : (bif decide (Hi x < Hi y) then true else bif Hi x == Hi y then decide (Lo x < Lo y) else false) = decide (x < y) := by
    rw [Bool.eq_iff_iff, decide_eq_true_iff]
    by_cases q : Hi x < Hi y
    · simp [q]; omega
    · by_cases q2 : Hi x = Hi y
      · simp [q2]; omega
      · simp [q, q2]; omega
  rw [← this]; rfl
theorem rTwice (x : Nat) : ACall Tryd.prog 82 [.d (W x)] (.d (W ((2 * x : Nat) : Int))) := by
  refine acall Tryd.func82 (by kernel_rfl) ?_
  conv => whnf
  refine ⟨by omega, ?_⟩
  conv => whnf
  refine ⟨by omega, ?_⟩
  conv => whnf
  refine ⟨by omega, ?_⟩
  have e1 : ∀ a : Int, IntKind.u64.wrap (a * 2 ^ (min (Int.toNat 1) IntKind.u64.bits)) = a * ((2 ^ 1 : Nat) : Int) % 18446744073709551616 := fun a => shlN a 1 (by omega)
  have e2 : ∀ a : Int, a.fdiv (2 ^ (min (Int.toNat 63) IntKind.u64.bits)) = a / ((2 ^ 63 : Nat) : Int) := fun a => shrN a 63 (by omega)
  rw [e1, e1, e2]
  conv => whnf
  refine ⟨?_⟩
  have hx2 : (2 * x : Nat) = x * 2 ^ 1 := by omega
  rw [hx2]
  refine congrArg AV.d (W_mk ?_ ?_)
  · rw [orU, HiN x, LoN x, HiN (x * 2 ^ 1), ← left_hi x 1 (by omega), castMul, castDiv _ _ (Nat.mod_lt _ (by omega))]
  · rw [LoN, LoN]; omega
end Go.Proofs.YtnkjhialkaomfaaDoor.P
