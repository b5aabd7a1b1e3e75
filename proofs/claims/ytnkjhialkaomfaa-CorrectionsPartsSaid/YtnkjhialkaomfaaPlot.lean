/-
  The functions of the package plot, by the abstract machine.
-/
import Derived.Test.YtnkjhialkaomfaaAbsLaw
import Derived.Test.YtnkjhialkaomfaaProg
import Derived.KernelRfl
import Derived.IntWalk
namespace Go.Proofs.Ytnkjhialkaomfaa.P
open Go.Abs Go.Proofs
set_option maxRecDepth 10000

def ints (xs : List Int) : D := .list 1 (xs.map (D.int .i64))
theorem wrap_small {n : Int} (h0 : -9223372036854775808 ≤ n) (h1 : n ≤ 9223372036854775807) : IntKind.i64.wrap n = n := IntWalk.i64_in n ⟨h0, h1⟩
theorem take_snoc {α : Type} (xs : List α) (k : Nat) (h : k < xs.length) : xs.take (k + 1) = xs.take k ++ [xs[k]] := List.take_succ_eq_append_getElem h
theorem ints_get (xs : List Int) (k : Nat) (h : k < xs.length) : (xs.map (D.int .i64))[((k : Nat) : Int).toNat]? = some (D.int .i64 xs[k]) := by simp [h]
theorem next {k : Nat} (h : k < 1000000000000) : IntKind.i64.wrap ((k : Int) + 1) = ((k + 1 : Nat) : Int) := by rw [wrap_small (by omega) (by omega)]; rfl
theorem bytes_int : bytesT Try.prog 3 = 8 := by kernel_rfl
theorem bare_ints (xs : List Int) : ∀ x ∈ xs.map (D.int .i64), ∀ y ∈ x.cells, y.bare = true := by
  intro x hx y hy
  obtain ⟨n, _, rfl⟩ := List.mem_map.1 hx
  simp [D.cells] at hy
  subst hy; rfl

def lrg (v : Int) : Bool := bif decide (v < -1000000) then true else decide (v > 1000000)
theorem lrg_iff (v : Int) : lrg v = false ↔ -1000000 ≤ v ∧ v ≤ 1000000 := by
  unfold lrg
  by_cases h : v < -1000000 <;> simp [h] <;> omega

theorem large (v : Int) : ACall Try.prog 24 [.d (.int .i64 v)] (.d (.bool (lrg v))) := by
  refine acall Try.func24 (by kernel_rfl) ?_
  conv => whnf
  exact ⟨by rfl⟩

def firstI (p : Int → Bool) (xs : List Int) : Int := match xs.findIdx? p with | some i => i | none => -1
theorem firstI_ge (p : Int → Bool) (xs : List Int) : decide (firstI p xs ≥ 0) = xs.any p := by
  unfold firstI
  cases h : xs.findIdx? p with
  | none =>
    have := List.findIdx?_eq_none_iff.1 h
    simp only [ge_iff_le, Int.reduceNeg, Int.reduceLE, decide_false]
    symm
    rw [List.any_eq_false]
    intro x hx; simp [this x hx]
  | some i =>
    obtain ⟨hi, hp, _⟩ := List.findIdx?_eq_some_iff_getElem.1 h
    simp only [ge_iff_le, Int.natCast_nonneg, decide_true]
    symm
    rw [List.any_eq_true]
    exact ⟨_, List.getElem_mem hi, hp⟩
theorem firstI_at {p : Int → Bool} {xs : List Int} {k : Nat} (hk : k < xs.length) (h : ∀ j (hj : j < k), p (xs[j]'(by omega)) = false) (hp : p xs[k] = true) : firstI p xs = k := by
  unfold firstI
  rw [List.findIdx?_eq_some_iff_getElem.2 ⟨hk, hp, fun j hj => by simp [h j hj]⟩]
theorem firstI_none {p : Int → Bool} {xs : List Int} (h : ∀ j (hj : j < xs.length), p xs[j] = false) : firstI p xs = -1 := by
  unfold firstI
  rw [List.findIdx?_eq_none_iff.2 fun x hx => by obtain ⟨j, hj, rfl⟩ := List.getElem_of_mem hx; exact h j hj]

theorem index (f : FuncId) (p : Int → Bool) (xs : List Int) (hx : xs.length ≤ 1000000) (hf : ∀ x ∈ xs, ACall Try.prog f [.d (.int .i64 x)] (.d (.bool (p x)))) :
    ACall Try.prog 38 [.d (ints xs), .d (.fn f [])] (.d (.int .i64 (firstI p xs))) := by
  refine acall Try.func38 (by kernel_rfl) ?_
  conv => whnf
  refine loop {k : Nat // ∀ j (hj : j < xs.length), j < k → p xs[j] = false} (fun k => mkS 19 [(0, .d (ints xs)), (1, .d (.fn f [])), (7, .d (.int .i64 xs.length)), (8, .d (.int .i64 k.1))] []) (fun k => xs.length - k.1) ⟨0, by simp⟩ ?_ fun k => ?_
  · exact And.intro rfl (And.intro rfl (And.intro (by simp) (And.intro rfl trivial)))
  · obtain ⟨k, hk⟩ := k
    conv => whnf
    refine br (fun h => ?_) (fun h => ?_)
    · have hlt : k < xs.length := by simpa using h
      conv => whnf
      refine ⟨⟨by simp only; omega, _, ints_get xs k hlt, ?_⟩⟩
      conv => whnf
      refine callA (hf xs[k] (List.getElem_mem hlt)) ?_
      conv => whnf
      refine br (fun hp => ?_) (fun hp => ?_)
      · conv => whnf
        exact ⟨by rw [firstI_at hlt (fun j hj => hk j (by omega) hj) hp]; rfl⟩
      · conv => whnf
        refine ⟨⟨k + 1, fun j hj hjk => ?_⟩, ?_, by show xs.length - (k + 1) < xs.length - k; omega⟩
        · by_cases e : j = k
          · subst e; exact hp
          · exact hk j hj (by omega)
        · exact And.intro rfl (And.intro rfl (And.intro rfl (And.intro (by rw [next (by first | omega | (simp only; omega))]) trivial)))
    · have hge : xs.length ≤ k := by simpa using h
      conv => whnf
      exact ⟨by rw [firstI_none fun j hj => hk j hj (by omega)]; rfl⟩
theorem contains (f : FuncId) (p : Int → Bool) (xs : List Int) (hx : xs.length ≤ 1000000) (hf : ∀ x ∈ xs, ACall Try.prog f [.d (.int .i64 x)] (.d (.bool (p x)))) :
    ACall Try.prog 23 [.d (ints xs), .d (.fn f [])] (.d (.bool (xs.any p))) := by
  refine acall Try.func23 (by kernel_rfl) ?_
  conv => whnf
  refine callA (index f p xs hx hf) ?_
  conv => whnf
  exact ⟨by rw [firstI_ge]; rfl⟩

theorem clone (xs : List Int) (hx : xs.length ≤ 1000000) : ACall Try.prog 25 [.d (ints xs)] (.own 1 3 (xs.map (D.int .i64))) := by
  refine acall Try.func25 (by kernel_rfl) ?_
  conv => whnf
  refine ⟨fun b hb => ?_⟩
  cases b with
  | true =>
    have : xs = [] := by
      cases xs with
      | nil => rfl
      | cons x r => have := hb (by simp); simp at this
    subst this
    conv => whnf
    refine ⟨.inr ?_⟩
    conv => whnf
    refine ⟨fun x hx => by simp at hx, ?_⟩
    conv => whnf
    exact ⟨rfl⟩
  | false =>
    conv => whnf
    refine ⟨?_, ?_⟩
    · rw [bytes_int]
      simp only [List.length_map, List.length_nil]
      exact ⟨by unfold maxLen; omega, by omega, .inr (by trivial)⟩
    conv => whnf
    refine ⟨.inr ?_⟩
    conv => whnf
    refine ⟨by rw [List.nil_append]; exact bare_ints xs, ?_⟩
    conv => whnf
    exact ⟨rfl⟩

theorem tmod_bounds {x n : Int} (hn : 0 < n) : -n < x.tmod n ∧ x.tmod n < n := ⟨by have := Int.lt_tmod_of_pos x hn; omega, Int.tmod_lt_of_pos x hn⟩
/-- The greatest multiple of w that is at most v. -/
def low (w v : Int) : Int := v - v % w
theorem tmod_emod (v w : Int) (hw : 0 < w) : (v.tmod w < 0 → v % w = v.tmod w + w) ∧ (¬ v.tmod w < 0 → v % w = v.tmod w) := by
  have h := Int.emod_eq_tmod (a := v) (b := w)
  by_cases hv : 0 ≤ v
  · have e : v % w = v.tmod w := by rw [h]; simp [hv]
    have := Int.emod_nonneg v (show w ≠ 0 by omega)
    exact ⟨fun h' => by omega, fun _ => e⟩
  · by_cases hd : w ∣ v
    · have e : v % w = v.tmod w := by rw [h]; simp [hd]
      have := Int.emod_nonneg v (show w ≠ 0 by omega)
      exact ⟨fun h' => by omega, fun _ => e⟩
    · have e : v % w = v.tmod w + w := by rw [h]; simp [hv, hd]; omega
      have h2 : v.tmod w ≤ 0 := by
        have := Int.tmod_nonneg (a := -v) w (by omega)
        rw [Int.neg_tmod] at this; omega
      have h3 : v.tmod w ≠ 0 := fun h0 => hd (Int.dvd_of_tmod_eq_zero h0)
      exact ⟨fun _ => e, fun h' => by omega⟩
theorem down (v w : Int) (hw : 0 < w) (hw2 : w ≤ 1000000) (hv : -1000000 ≤ v) (hv2 : v ≤ 1000000) : ACall Try.prog 27 [.d (.int .i64 v), .d (.int .i64 w)] (.d (.int .i64 (low w v))) := by
  have hb := tmod_bounds (x := v) hw
  have he := tmod_emod v w hw
  refine acall Try.func27 (by kernel_rfl) ?_
  conv => whnf
  refine ⟨by omega, ?_⟩
  conv => whnf
  refine br (fun h => ?_) (fun h => ?_)
  · have h' : v.tmod w < 0 := of_decide_eq_true h
    conv => whnf
    exact ⟨by rw [wrap_small (n := v.tmod w + w) (by omega) (by omega), wrap_small (by omega) (by omega), low, he.1 h']; rfl⟩
  · have h' : ¬ v.tmod w < 0 := of_decide_eq_false h
    conv => whnf
    exact ⟨by rw [wrap_small (by omega) (by omega), low, he.2 h']; rfl⟩
end Go.Proofs.Ytnkjhialkaomfaa.P
