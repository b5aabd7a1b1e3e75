/-
  fraction.Wide: shifts; the greatest common divisor; division, by the abstract machine.
-/
import Derived.Test.YtnkjhialkaomfaaDoorFrac3
namespace Go.Proofs.YtnkjhialkaomfaaDoor.P
open Go.Abs Go.Proofs
set_option maxRecDepth 10000

theorem shlN (a : Int) (n : Nat) (hn : n ≤ 64) : IntKind.u64.wrap (a * 2 ^ (min ((n : Int)).toNat IntKind.u64.bits)) = a * ((2 ^ n : Nat) : Int) % 18446744073709551616 := by
  rw [wrapU, Int.toNat_natCast, show IntKind.u64.bits = 64 from rfl, Nat.min_eq_left hn]
  congr 2
theorem shrN (a : Int) (n : Nat) (hn : n ≤ 64) : a.fdiv (2 ^ (min ((n : Int)).toNat IntKind.u64.bits)) = a / ((2 ^ n : Nat) : Int) := by
  rw [Int.toNat_natCast, show IntKind.u64.bits = 64 from rfl, Nat.min_eq_left hn, fdivP]
  congr 1
theorem orAdd (i x y : Nat) (hy : y < 2 ^ i) : (2 ^ i * x) ||| y = 2 ^ i * x + y := (Nat.two_pow_add_eq_or_of_lt hy x).symm

theorem pow_split {n : Nat} (hn : n ≤ 64) : 18446744073709551616 = 2 ^ n * 2 ^ (64 - n) := by
  rw [← Nat.pow_add, show n + (64 - n) = 64 by omega]
theorem gen1 (A u v M : Nat) (hM : M = u * v) : (A % M) * u % M = u * (A % v) := by
  rw [Nat.mul_mod, Nat.mod_mod, ← Nat.mul_mod, Nat.mul_comm A u, hM, Nat.mul_mod_mul_left]
theorem gen2 (x u v M : Nat) (hM : M = u * v) (hu : 0 < u) (h0 : 0 < M) : x * u / M = u * (x / M) + x % M / v := by
  have h := Nat.div_add_mod x M
  generalize x / M = q at *
  generalize x % M = r at *
  subst h
  rw [Nat.add_mul, Nat.mul_assoc, Nat.mul_add_div h0, Nat.mul_comm q u, Nat.mul_comm r u, hM, Nat.mul_div_mul_left _ _ hu]
theorem gen3 (q l u v M : Nat) (hM : M = u * v) (hl : l < u) (hv : 0 < v) : (u * q + l) % M = u * (q % v) + l := by
  have h := Nat.div_add_mod q v
  have h2 := Nat.mod_lt q hv
  generalize q / v = a at *
  generalize q % v = r at *
  subst h
  rw [show u * (v * a + r) + l = (u * r + l) + M * a from by rw [hM]; grind, Nat.add_mul_mod_self_left, Nat.mod_eq_of_lt]
  have : u * (r + 1) ≤ u * v := Nat.mul_le_mul_left _ h2
  rw [Nat.mul_add, Nat.mul_one] at this
  omega
theorem gen4 (x u v M : Nat) (hM : M = u * v) (hu : 0 < u) : x / u = v * (x / M) + x % M / u := by
  have h := Nat.div_add_mod x M
  generalize x / M = q at *
  generalize x % M = r at *
  subst h
  rw [hM, Nat.mul_assoc, Nat.mul_add_div hu]
/-- High word of a shift to the left. -/
theorem left_hi (x n : Nat) (hn : n ≤ 64) : (((x / 18446744073709551616 % 18446744073709551616) * 2 ^ n % 18446744073709551616) ||| (x % 18446744073709551616 / 2 ^ (64 - n))) = x * 2 ^ n / 18446744073709551616 % 18446744073709551616 := by
  have hp := pow_split hn
  have h1 := Nat.two_pow_pos n
  have h2 := Nat.two_pow_pos (64 - n)
  have hl : x % 18446744073709551616 / 2 ^ (64 - n) < 2 ^ n := by
    rw [Nat.div_lt_iff_lt_mul h2]
    have := Nat.mod_lt x (show 18446744073709551616 > 0 by omega)
    rw [← hp]; exact this
  rw [gen1 _ _ _ _ hp, orAdd n _ _ hl, gen2 x _ _ _ hp h1 (by omega), gen3 _ _ _ _ _ hp hl h2]
/-- Low word of a shift to the right. -/
theorem right_lo (x n : Nat) (hn : n ≤ 64) : ((x % 18446744073709551616 / 2 ^ n) ||| ((x / 18446744073709551616 % 18446744073709551616) * 2 ^ (64 - n) % 18446744073709551616)) = x / 2 ^ n % 18446744073709551616 := by
  have hp := pow_split hn
  have hp' : 18446744073709551616 = 2 ^ (64 - n) * 2 ^ n := by rw [Nat.mul_comm]; exact hp
  have h1 := Nat.two_pow_pos n
  have h2 := Nat.two_pow_pos (64 - n)
  have hl : x % 18446744073709551616 / 2 ^ n < 2 ^ (64 - n) := by
    rw [Nat.div_lt_iff_lt_mul h1, ← hp']
    exact Nat.mod_lt x (by omega)
  rw [gen1 _ _ _ _ hp', Nat.or_comm, orAdd _ _ _ hl, gen4 x _ _ _ hp h1, gen3 _ _ _ _ _ hp' hl h1]
theorem castMul (a b : Nat) : (((a : Nat) : Int) * ((b : Nat) : Int) % 18446744073709551616 % 18446744073709551616).toNat = a * b % 18446744073709551616 := by rw [← Int.natCast_mul]; omega
theorem castDiv (a b : Nat) (h : a < 18446744073709551616) : (((a : Nat) : Int) / ((b : Nat) : Int) % 18446744073709551616).toNat = a / b := by
  rw [← Int.natCast_ediv]
  have := Nat.div_le_self a b
  generalize a / b = q at *
  omega
theorem HiN (x : Nat) : Hi (x : Int) = ((x / 18446744073709551616 % 18446744073709551616 : Nat) : Int) := by unfold Hi; omega
theorem LoN (x : Nat) : Lo (x : Int) = ((x % 18446744073709551616 : Nat) : Int) := by unfold Lo; omega

theorem left_ (x n : Nat) (hn : n < 128) : ACall Tryd.prog 63 [.d (W x), .d (.int .i64 n)] (.d (W ((x * 2 ^ n : Nat) : Int))) := by
  refine acall Tryd.func63 (by kernel_rfl) ?_
  conv => whnf
  refine br (fun h => ?_) (fun h => ?_)
  · have h := of_decide_eq_true h
    obtain ⟨j, rfl⟩ : ∃ j, n = 64 + j := ⟨n - 64, by omega⟩
    have e : IntKind.i64.wrap (((64 + j : Nat) : Int) - 64) = (j : Int) := by rw [wrap_small (by omega) (by omega)]; omega
    conv => whnf
    rw [e]
    refine ⟨by omega, ?_⟩
    rw [shlN _ j (by omega)]
    conv => whnf
    refine ⟨?_⟩
    refine congrArg AV.d (W_mk ?_ ?_)
    · rw [HiN, LoN, Nat.pow_add, show x * (2 ^ 64 * 2 ^ j) = 18446744073709551616 * (x * 2 ^ j) from by rw [Nat.mul_left_comm], Nat.mul_div_cancel_left _ (by omega)]
      rw [← Int.natCast_mul]
      have : x % 18446744073709551616 * 2 ^ j % 18446744073709551616 = x * 2 ^ j % 18446744073709551616 := by rw [Nat.mul_mod, Nat.mod_mod, ← Nat.mul_mod]
      rw [← this]; rfl
    · rw [LoN, Nat.pow_add, show x * (2 ^ 64 * 2 ^ j) = 18446744073709551616 * (x * 2 ^ j) from by rw [Nat.mul_left_comm], Nat.mul_mod_right]; rfl
  · have h := of_decide_eq_false h
    have hn64 : n ≤ 64 := by omega
    have e : IntKind.i64.wrap (64 - (n : Int)) = ((64 - n : Nat) : Int) := by rw [wrap_small (by omega) (by omega)]; omega
    conv => whnf
    refine ⟨⟨by decide +kernel, by kernel_rfl⟩, ?_⟩
    conv => whnf
    refine ⟨by omega, ?_⟩
    conv => whnf
    rw [e]
    refine ⟨by omega, ?_⟩
    conv => whnf
    refine ⟨by omega, ?_⟩
    rw [shlN _ n hn64, shlN _ n hn64, shrN _ (64 - n) (by omega)]
    conv => whnf
    refine ⟨?_⟩
    refine congrArg AV.d (W_mk ?_ ?_)
    · rw [orU, HiN x, LoN x, HiN (x * 2 ^ n), ← left_hi x n hn64, castMul, castDiv _ _ (Nat.mod_lt _ (by omega))]
    · rw [LoN, LoN, ← Int.natCast_mul]
      have : x % 18446744073709551616 * 2 ^ n % 18446744073709551616 = x * 2 ^ n % 18446744073709551616 := by rw [Nat.mul_mod, Nat.mod_mod, ← Nat.mul_mod]
      rw [← this]; rfl

theorem right_ (x n : Nat) (hx : x < 340282366920938463463374607431768211456) (hn : n < 128) : ACall Tryd.prog 62 [.d (W x), .d (.int .i64 n)] (.d (W ((x / 2 ^ n : Nat) : Int))) := by
  refine acall Tryd.func62 (by kernel_rfl) ?_
  conv => whnf
  refine br (fun h => ?_) (fun h => ?_)
  · have h := of_decide_eq_true h
    obtain ⟨j, rfl⟩ : ∃ j, n = 64 + j := ⟨n - 64, by omega⟩
    have e : IntKind.i64.wrap (((64 + j : Nat) : Int) - 64) = (j : Int) := by rw [wrap_small (by omega) (by omega)]; omega
    conv => whnf
    rw [e]
    refine ⟨by omega, ?_⟩
    rw [shrN _ j (by omega)]
    conv => whnf
    refine ⟨?_⟩
    have hq : x / 2 ^ (64 + j) = x / 18446744073709551616 / 2 ^ j := by rw [Nat.pow_add, ← Nat.div_div_eq_div_mul]
    have hle := Nat.div_le_self (x / 18446744073709551616) (2 ^ j)
    refine congrArg AV.d (W_mk ?_ ?_)
    · rw [HiN, hq]
      generalize x / 18446744073709551616 / 2 ^ j = q at *
      omega
    · rw [HiN, LoN, hq, Nat.mod_eq_of_lt (show x / 18446744073709551616 < 18446744073709551616 by omega), ← Int.natCast_ediv]
      generalize x / 18446744073709551616 / 2 ^ j = q at *
      omega
  · have h := of_decide_eq_false h
    have hn64 : n ≤ 64 := by omega
    have e : IntKind.i64.wrap (64 - (n : Int)) = ((64 - n : Nat) : Int) := by rw [wrap_small (by omega) (by omega)]; omega
    conv => whnf
    refine ⟨⟨by decide +kernel, by kernel_rfl⟩, ?_⟩
    conv => whnf
    refine ⟨by omega, ?_⟩
    conv => whnf
    refine ⟨by omega, ?_⟩
    conv => whnf
    rw [e]
    refine ⟨by omega, ?_⟩
    rw [shrN _ n hn64, shrN _ n hn64, shlN _ (64 - n) (by omega)]
    conv => whnf
    refine ⟨?_⟩
    refine congrArg AV.d (W_mk ?_ ?_)
    · rw [HiN, HiN, Nat.mod_eq_of_lt (show x / 18446744073709551616 < 18446744073709551616 by omega), ← Int.natCast_ediv, Nat.div_div_eq_div_mul x (2 ^ n), Nat.mul_comm (2 ^ n), ← Nat.div_div_eq_div_mul]
      have := Nat.div_le_self (x / 18446744073709551616) (2 ^ n)
      generalize x / 18446744073709551616 / 2 ^ n = q at *
      omega
    · rw [orU, HiN x, LoN x, LoN (x / 2 ^ n), ← right_lo x n hn64, castMul, castDiv _ _ (Nat.mod_lt _ (by omega))]
end Go.Proofs.YtnkjhialkaomfaaDoor.P
