/-
  Plain facts of sorted lists, for the laws of plot. No program in sight.
-/
import Derived.Test.YtnkjhialkaomfaaPlotLaw
namespace Go.Proofs.Ytnkjhialkaomfaa.P
open Go.Abs Go.Proofs

theorem sorted_sortI (xs : List Int) : (sortI xs).Pairwise (· ≤ ·) := by
  have := List.pairwise_mergeSort (le := fun x y : Int => decide (x ≤ y)) (fun a b c h1 h2 => by simp at *; omega) (fun a b => by simp; omega) xs
  exact this.imp (by simp)
theorem perm_sortI (xs : List Int) : (sortI xs).Perm xs := List.mergeSort_perm xs _
theorem qAt_get {s : List Int} {i : Nat} (h : i < s.length) : qAt s i = s[i] := by simp [qAt, h]
theorem qAt_mono {s : List Int} (hs : s.Pairwise (· ≤ ·)) {i j : Nat} (hij : i ≤ j) (hj : j < s.length) : qAt s i ≤ qAt s j := by
  rw [qAt_get hj, qAt_get (by omega)]
  rcases Nat.eq_or_lt_of_le hij with e | h
  · subst e; exact Int.le_refl _
  · exact List.pairwise_iff_getElem.1 hs i j (by omega) hj h
theorem cnt_lt {s : List Int} (hs : s.Pairwise (· ≤ ·)) {p : Nat} (hp : p < s.length) : s.countP (fun x => decide (x < qAt s p)) ≤ p := by
  have h0 : ∀ x ∈ s.drop p, ¬ (decide (x < qAt s p) = true) := by
    intro x hx
    obtain ⟨j, hj, rfl⟩ := List.getElem_of_mem hx
    have := qAt_mono hs (i := p) (j := p + j) (by omega) (by simp at hj; omega)
    rw [qAt_get (i := p + j) (by simp at hj; omega)] at this
    simp [List.getElem_drop]; omega
  have e : s.countP (fun x => decide (x < qAt s p)) = (s.take p).countP (fun x => decide (x < qAt s p)) + (s.drop p).countP (fun x => decide (x < qAt s p)) := by
    rw [← List.countP_append, List.take_append_drop]
  rw [e, List.countP_eq_zero.2 h0]
  exact Nat.le_trans List.countP_le_length (by simp; omega)
theorem cnt_le {s : List Int} (hs : s.Pairwise (· ≤ ·)) {p : Nat} (hp : p < s.length) : p < s.countP (fun x => decide (x ≤ qAt s p)) := by
  have h0 : ∀ x ∈ s.take (p + 1), decide (x ≤ qAt s p) = true := by
    intro x hx
    obtain ⟨j, hj, rfl⟩ := List.getElem_of_mem hx
    have hj' : j ≤ p := by simp at hj; omega
    have := qAt_mono hs (i := j) (j := p) hj' hp
    rw [qAt_get (i := j) (by omega)] at this
    simp [List.getElem_take]; omega
  have e : s.countP (fun x => decide (x ≤ qAt s p)) = (s.take (p + 1)).countP (fun x => decide (x ≤ qAt s p)) + (s.drop (p + 1)).countP (fun x => decide (x ≤ qAt s p)) := by
    rw [← List.countP_append, List.take_append_drop]
  rw [e, List.countP_eq_length.2 h0]
  simp; omega
theorem countP_snoc (p : Int → Bool) (xs : List Int) (k : Nat) (h : k < xs.length) : ((xs.take (k + 1)).countP p : Int) = (xs.take k).countP p + (if p xs[k] = true then 1 else 0) := by
  rw [take_snoc xs k h, List.countP_append]
  by_cases hp : p xs[k] = true <;> simp [hp]
theorem countP_bound (p : Int → Bool) (xs : List Int) (k : Nat) : (xs.take k).countP p ≤ k := Nat.le_trans List.countP_le_length (by simp; omega)
end Go.Proofs.Ytnkjhialkaomfaa.P
