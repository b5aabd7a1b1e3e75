/-
  The choices (dataenclavedraw.Codes): New, Next, Range, by the abstract machine.
-/
import Derived.Test.YtnkjhialkaomfaaAbsLe
import Derived.Test.YtnkjhialkaomfaaPlotLaw
namespace Go.Proofs.Ytnkjhialkaomfaa.P
open Go.Abs Go.Proofs
set_option maxRecDepth 10000

/-- What Next(n) gives at place a of the codes, and the next place. -/
def nxV (l : List Int) (a : Nat) (n : Int) : Int :=
  if n < 1 ∨ l.length ≤ a then 0 else if n > 256 ∧ a + 1 < l.length then (l.getD a 0 * 256 + l.getD (a + 1) 0) % n else l.getD a 0 % n
def nxA (l : List Int) (a : Nat) (n : Int) : Nat :=
  if n < 1 ∨ l.length ≤ a then a else if n > 256 ∧ a + 1 < l.length then a + 2 else a + 1
def codes (l : List Int) (a : Nat) : List D := [bytesD l, .int .i64 a]

theorem next_ (l : List Int) (a : Nat) (n : Int) (hl : ∀ x ∈ l, 0 ≤ x ∧ x ≤ 255) (hn : l.length ≤ 400) (ha : a ≤ l.length) :
    MCall Try.prog 19 [.optr (codes l a), .d (.int .i64 n)] [.optr (codes l (nxA l a n)), .any] (.d (.int .i64 (nxV l a n))) := by
  refine mcall Try.func19 (by kernel_rfl) rfl ?_ ?_
  · intro i x y hx hy
    match i, hx, hy with
    | 0, hx, hy => simp at hx hy; subst hx; subst hy; exact ⟨_, rfl, rfl⟩
    | 1, hx, hy => simp at hy; subst hy; trivial
    | i + 2, hx, hy => simp at hx
  conv => whnf
  refine ⟨⟨by decide +kernel, by kernel_rfl⟩, ?_⟩
  conv => whnf
  refine br (fun h => ?_) (fun h => ?_)
  · have h := of_decide_eq_true h
    have e1 : nxA l a n = a := by unfold nxA; rw [if_pos (.inl h)]
    have e2 : nxV l a n = 0 := by unfold nxV; rw [if_pos (.inl h)]
    rw [e1, e2]
    conv => whnf
    refine ⟨rfl, ?_⟩
    conv => whnf
    exact ⟨rfl⟩
  have h := of_decide_eq_false h
  conv => whnf
  refine br (fun h2 => ?_) (fun h2 => ?_)
  · have h2 : l.length ≤ a := by simpa using h2
    have e1 : nxA l a n = a := by unfold nxA; rw [if_pos (.inr h2)]
    have e2 : nxV l a n = 0 := by unfold nxV; rw [if_pos (.inr h2)]
    rw [e1, e2]
    conv => whnf
    refine ⟨rfl, ?_⟩
    conv => whnf
    exact ⟨rfl⟩
  have h2 : a < l.length := by simpa using h2
  have hx := hl _ (List.getElem_mem h2)
  have ew : IntKind.i64.wrap ((a : Int) + 1) = ((a + 1 : Nat) : Int) := next (by omega)
  have ew2 : IntKind.i64.wrap (((a + 1 : Nat) : Int) - 1) = (a : Int) := by rw [wrap_small (by omega) (by omega)]; omega
  conv => whnf
  rw [ew]
  refine ⟨⟨by decide +kernel, by kernel_rfl⟩, ?_⟩
  conv => whnf
  rw [ew2]
  refine ⟨⟨by omega, .int .u8 l[a], by simp [h2], ?_⟩⟩
  have ew3 : IntKind.i64.wrap l[a] = l[a] := wrap_small (by omega) (by omega)
  conv => whnf
  rw [ew3]
  refine ⟨⟨by decide +kernel, by kernel_rfl⟩, ?_⟩
  conv => whnf
  have fin1 : ¬ (n > 256 ∧ a + 1 < l.length) → nxA l a n = a + 1 ∧ nxV l a n = l[a].tmod n := by
    intro h3
    unfold nxA nxV
    have h5 : ¬ (n < 1 ∨ l.length ≤ a) := by omega
    simp only [if_neg h5, if_neg h3]
    rw [Int.tmod_eq_emod_of_nonneg hx.1]
    exact ⟨by trivial, by simp [List.getD, h2]⟩
  refine br (fun h3 => ?_) (fun h3 => ?_)
  · have h3 := of_decide_eq_true h3
    conv => whnf
    refine br (fun h4 => ?_) (fun h4 => ?_)
    · have h4 : a + 1 < l.length := by simp at h4; omega
      have hy := hl _ (List.getElem_mem h4)
      have f1 : nxA l a n = a + 2 := by unfold nxA; rw [if_neg (by omega), if_pos ⟨h3, h4⟩]
      have f2 : nxV l a n = (l[a] * 256 + l[a + 1]).tmod n := by
        unfold nxV; rw [if_neg (by omega), if_pos ⟨h3, h4⟩, Int.tmod_eq_emod_of_nonneg (by omega)]
        simp [List.getD, h2, h4]
      rw [f1, f2]
      conv => whnf
      refine ⟨⟨by decide +kernel, by kernel_rfl⟩, ?_⟩
      conv => whnf
      refine ⟨⟨by omega, .int .u8 l[a + 1], by rw [show (((a + 1 : Nat) : Int)).toNat = a + 1 by omega]; simp [h4], ?_⟩⟩
      have w1 : IntKind.i64.wrap (l[a] * 256) = l[a] * 256 := wrap_small (by omega) (by omega)
      have w2 : IntKind.i64.wrap l[a + 1] = l[a + 1] := wrap_small (by omega) (by omega)
      have w3 : IntKind.i64.wrap (l[a] * 256 + l[a + 1]) = l[a] * 256 + l[a + 1] := wrap_small (by omega) (by omega)
      conv => whnf
      rw [w1, w2, w3]
      refine ⟨by omega, ?_⟩
      conv => whnf
      refine ⟨by rw [next (by omega)]; rfl, ?_⟩
      conv => whnf
      exact ⟨rfl⟩
    · have h4 : ¬ a + 1 < l.length := by simp at h4; omega
      obtain ⟨f1, f2⟩ := fin1 (fun h => h4 h.2)
      rw [f1, f2]
      conv => whnf
      refine ⟨by omega, ?_⟩
      conv => whnf
      refine ⟨rfl, ?_⟩
      conv => whnf
      exact ⟨rfl⟩
  · have h3 := of_decide_eq_false h3
    obtain ⟨f1, f2⟩ := fin1 (fun h => h3 h.1)
    rw [f1, f2]
    conv => whnf
    refine ⟨by omega, ?_⟩
    conv => whnf
    refine ⟨rfl, ?_⟩
    conv => whnf
    exact ⟨rfl⟩

theorem nx_bound (l : List Int) (a : Nat) (n : Int) (hl : ∀ x ∈ l, 0 ≤ x ∧ x ≤ 255) : 0 ≤ nxV l a n ∧ (1 ≤ n → nxV l a n < n) := by
  unfold nxV
  split
  · exact ⟨Int.le_refl 0, fun h => by omega⟩
  · rename_i h
    split
    · exact ⟨Int.emod_nonneg _ (by omega), fun _ => Int.emod_lt_of_pos _ (by omega)⟩
    · exact ⟨Int.emod_nonneg _ (by omega), fun _ => Int.emod_lt_of_pos _ (by omega)⟩
theorem nx_at (l : List Int) (a : Nat) (n : Int) (ha : a ≤ l.length) : a ≤ nxA l a n ∧ nxA l a n ≤ l.length := by
  unfold nxA
  split
  · omega
  · split <;> omega

theorem range_ (l : List Int) (a : Nat) (lo hi : Int) (hl : ∀ x ∈ l, 0 ≤ x ∧ x ≤ 255) (hn : l.length ≤ 400) (ha : a ≤ l.length) (h0 : -1000000 ≤ lo) (h1 : lo ≤ hi) (h2 : hi ≤ 1000000) :
    MCall Try.prog 20 [.optr (codes l a), .d (.int .i64 lo), .d (.int .i64 hi)] [.optr (codes l (nxA l a (hi - lo + 1))), .any, .any] (.d (.int .i64 (lo + nxV l a (hi - lo + 1)))) := by
  refine mcall Try.func20 (by kernel_rfl) rfl ?_ ?_
  · intro i x y hx hy
    match i, hx, hy with
    | 0, hx, hy => simp at hx hy; subst hx; subst hy; exact ⟨_, rfl, rfl⟩
    | 1, hx, hy => simp at hy; subst hy; trivial
    | 2, hx, hy => simp at hy; subst hy; trivial
    | i + 3, hx, hy => simp at hx
  have e : IntKind.i64.wrap (IntKind.i64.wrap (hi - lo) + 1) = hi - lo + 1 := by rw [wrap_small (n := hi - lo) (by omega) (by omega), wrap_small (by omega) (by omega)]
  have hb := nx_bound l a (hi - lo + 1) hl
  have hb2 := hb.2 (by omega)
  conv => whnf
  rw [e]
  refine callM (next_ l a (hi - lo + 1) hl hn ha) ?_
  generalize nxV l a (hi - lo + 1) = v at *
  generalize nxA l a (hi - lo + 1) = a' at *
  conv => whnf
  refine ⟨rfl, ?_⟩
  conv => whnf
  exact ⟨by rw [wrap_small (by omega) (by omega)]; rfl⟩

theorem new_ (l : List Int) : ACall Try.prog 18 [.d (bytesD l)] (.optr (codes (l.take 400) 0)) := by
  refine acall Try.func18 (by kernel_rfl) ?_
  conv => whnf
  refine ⟨⟨by omega, by split <;> omega, by split <;> omega⟩, ?_⟩
  have e : ((if 400 < (((l.map (D.int .u8)).length : Nat) : Int) then (400 : Int) else (((l.map (D.int .u8)).length : Nat) : Int))).toNat = min 400 l.length := by
    simp only [List.length_map]; split <;> omega
  conv => whnf
  refine ⟨?_⟩
  unfold codes bytesD cut
  rw [e]
  simp only [Int.toNat_zero, List.drop_zero, Nat.sub_zero, ← List.map_take]
  rw [show l.take (min 400 l.length) = l.take 400 from by rw [← List.take_take, List.take_length]]
  rfl
end Go.Proofs.Ytnkjhialkaomfaa.P
