/-
  CorrectionsParts: the plain law.
-/
import Derived.Test.YtnkjhialkaomfaaCorrLaw
namespace Go.Proofs.Ytnkjhialkaomfaa.P
open Go.Abs Go.Proofs

theorem Asc.lt {xs : List Int} (h : Asc xs) : ∀ (d i : Nat) (hd : i + d + 1 < xs.length), xs[i]'(by omega) < xs[i + d + 1] := by
  intro d
  induction d with
  | zero => intro i hd; exact h i hd
  | succ d ih =>
    intro i hd
    have h1 := ih i (by omega)
    have h2 := h (i + d + 1) (by omega)
    have e : i + (d + 1) + 1 = i + d + 1 + 1 := by omega
    simp only [e]
    omega
theorem Asc.pairwise {xs : List Int} (h : Asc xs) : xs.Pairwise (· < ·) := by
  rw [List.pairwise_iff_getElem]
  intro i j hi hj hij
  have := h.lt (j - i - 1) i (by omega)
  have e : i + (j - i - 1) + 1 = j := by omega
  simp only [e] at this
  exact this
theorem asc_pairwise {xs : List Int} (h : xs.Pairwise (· < ·)) : Asc xs := fun i hi => List.pairwise_iff_getElem.1 h i (i + 1) (by omega) hi (by omega)
theorem Asc.snoc {xs : List Int} {y : Int} (h : Asc xs) (hy : ∀ x ∈ xs, x < y) : Asc (xs ++ [y]) := by
  refine asc_pairwise (List.pairwise_append.2 ⟨h.pairwise, by simp, fun a ha b hb => ?_⟩)
  simp at hb; subst hb; exact hy a ha

theorem mem_bothF (a c : List Int) (ha : a.Pairwise (· < ·)) (hc : c.Pairwise (· < ·)) (k : Int) : k ∈ bothF a c ↔ k ∈ a ∧ k ∈ c := by
  fun_induction bothF a c with
  | case1 x a y b h ih =>
    rw [ih (List.pairwise_cons.1 ha).2 hc]
    have h2 := (List.pairwise_cons.1 hc).1
    constructor
    · rintro ⟨h3, h4⟩; exact ⟨.tail _ h3, h4⟩
    · rintro ⟨h3, h4⟩
      rcases List.mem_cons.1 h3 with rfl | h3
      · rcases List.mem_cons.1 h4 with rfl | h4
        · omega
        · have := h2 k h4; omega
      · exact ⟨h3, h4⟩
  | case2 x a y b h h2 ih =>
    rw [ih ha (List.pairwise_cons.1 hc).2]
    have h3 := (List.pairwise_cons.1 ha).1
    constructor
    · rintro ⟨h4, h5⟩; exact ⟨h4, .tail _ h5⟩
    · rintro ⟨h4, h5⟩
      rcases List.mem_cons.1 h5 with rfl | h5
      · rcases List.mem_cons.1 h4 with rfl | h4
        · omega
        · have := h3 k h4; omega
      · exact ⟨h4, h5⟩
  | case3 x a y b h h2 ih =>
    have e : x = y := by omega
    subst e
    have h3 := (List.pairwise_cons.1 ha).1
    have h4 := (List.pairwise_cons.1 hc).1
    rw [List.mem_cons, ih (List.pairwise_cons.1 ha).2 (List.pairwise_cons.1 hc).2, List.mem_cons, List.mem_cons]
    constructor
    · rintro (rfl | ⟨h5, h6⟩)
      · exact ⟨.inl rfl, .inl rfl⟩
      · exact ⟨.inr h5, .inr h6⟩
    · rintro ⟨h5, h6⟩
      rcases h5 with rfl | h5
      · exact .inl rfl
      · rcases h6 with rfl | h6
        · exact .inl rfl
        · exact .inr ⟨h5, h6⟩
  | case4 a c h =>
    constructor
    · intro h; cases h
    · rintro ⟨h1, h2⟩
      cases a with
      | nil => cases h1
      | cons x a =>
        cases c with
        | nil => cases h2
        | cons y c => exact absurd rfl (h x a y c rfl)

theorem compactUpTo_sorted (d : Array Int) (hd : ∀ i, i + 1 < d.size → d[i]! ≤ d[i + 1]!) : ∀ m, m ≤ d.size → (Go.Lib.compactUpTo d m).Pairwise (· < ·) ∧ (∀ x, x ∈ Go.Lib.compactUpTo d m ↔ ∃ j, j < m ∧ d[j]! = x) ∧ ∀ x ∈ Go.Lib.compactUpTo d m, x ≤ d[m - 1]! := by
  intro m
  induction m with
  | zero => intro _; simp [Go.Lib.compactUpTo]
  | succ m ih =>
    intro hm
    obtain ⟨h1, h2, h3⟩ := ih (by omega)
    rw [Go.Lib.compactUpTo_succ]
    by_cases hz : m = 0
    · subst hz
      have : Go.Lib.compactUpTo d 0 = [] := rfl
      rw [this]
      have hk : Go.Lib.keeps d 0 = true := Go.Lib.keeps_lt_one d 0 (by omega)
      rw [if_pos hk]
      refine ⟨by simp, fun x => ?_, by simp⟩
      constructor
      · intro h; simp at h; exact ⟨0, by omega, h.symm⟩
      · rintro ⟨j, hj, rfl⟩; have : j = 0 := by omega
        subst this; simp
    have hle := hd (m - 1) (by omega)
    rw [show m - 1 + 1 = m by omega] at hle
    by_cases he : d[m]! = d[m - 1]!
    · rw [Go.Lib.keeps_neg (by omega) he]
      simp only [Bool.false_eq_true, if_false, List.append_nil]
      refine ⟨h1, fun x => ?_, fun x hx => ?_⟩
      · rw [h2]
        constructor
        · rintro ⟨j, hj, rfl⟩; exact ⟨j, by omega, rfl⟩
        · rintro ⟨j, hj, rfl⟩
          by_cases e : j = m
          · subst e; exact ⟨j - 1, by omega, he.symm⟩
          · exact ⟨j, by omega, rfl⟩
      · have := h3 x hx
        rw [show m + 1 - 1 = m by omega, he]; exact this
    · rw [Go.Lib.keeps_pos he, if_pos rfl]
      refine ⟨List.pairwise_append.2 ⟨h1, by simp, fun a ha b hb => ?_⟩, fun x => ?_, fun x hx => ?_⟩
      · simp at hb; subst hb
        have := h3 a ha; omega
      · rw [List.mem_append, h2]
        constructor
        · rintro (⟨j, hj, rfl⟩ | h)
          · exact ⟨j, by omega, rfl⟩
          · simp at h; exact ⟨m, by omega, h.symm⟩
        · rintro ⟨j, hj, rfl⟩
          by_cases e : j = m
          · subst e; exact .inr (by simp)
          · exact .inl ⟨j, by omega, rfl⟩
      · rw [show m + 1 - 1 = m by omega]
        rcases List.mem_append.1 hx with hx | hx
        · have := h3 x hx; omega
        · simp at hx; omega
theorem sorted_sortI (xs : List Int) : (sortI xs).Pairwise (· ≤ ·) := by
  have := List.pairwise_mergeSort (le := fun x y : Int => decide (x ≤ y)) (fun a b c h1 h2 => by simp at *; omega) (fun a b => by simp; omega) xs
  exact this.imp (by simp)
theorem setI_spec (xs : List Int) : (setI xs).Pairwise (· < ·) ∧ ∀ x, x ∈ setI xs ↔ x ∈ xs := by
  have hs := sorted_sortI xs
  have hm : ∀ x, x ∈ sortI xs ↔ x ∈ xs := fun x => mem_sortI
  unfold setI
  generalize sortI xs = s at hs hm
  have hg : ∀ i (h : i < s.length), s.toArray[i]! = s[i] := fun i h => by simp [h]
  obtain ⟨h1, h2, _⟩ := compactUpTo_sorted s.toArray (fun i hi => by
    have hi : i + 1 < s.length := by simpa using hi
    rw [hg i (by omega), hg (i + 1) hi]
    exact List.pairwise_iff_getElem.1 hs i (i + 1) (by omega) hi (by omega)) s.length (by simp)
  refine ⟨h1, fun x => ?_⟩
  unfold Go.Lib.compact
  rw [h2, ← hm]
  constructor
  · rintro ⟨j, hj, rfl⟩; rw [hg j hj]; exact List.getElem_mem hj
  · intro h
    obtain ⟨j, hj, rfl⟩ := List.getElem_of_mem h
    exact ⟨j, hj, hg j hj⟩

theorem hasK_conF (keys : List Int) (l : List CN) (hl : ∀ p ∈ l, Asc p.2) (o k : Int) : HasK (conF (setI keys) l) o k ↔ ∃ p ∈ l, p.1 = o ∧ k ∈ p.2 ∧ k ∈ keys := by
  obtain ⟨hs, hm⟩ := setI_spec keys
  unfold HasK conF
  constructor
  · rintro ⟨p, hp, h1, h2⟩
    obtain ⟨q, hq, h3⟩ := List.mem_filterMap.1 hp
    unfold conS at h3
    split at h3
    · cases h3
    · cases h3
      have h4 := (mem_bothF q.2 (setI keys) (hl q hq).pairwise hs k).1 h2
      exact ⟨q, hq, h1, h4.1, (hm k).1 h4.2⟩
  · rintro ⟨q, hq, h1, h2, h3⟩
    have h4 := (mem_bothF q.2 (setI keys) (hl q hq).pairwise hs k).2 ⟨h2, (hm k).2 h3⟩
    refine ⟨(q.1, bothF q.2 (setI keys)), List.mem_filterMap.2 ⟨q, hq, ?_⟩, h1, h4⟩
    unfold conS
    rw [if_neg (fun e => by rw [e] at h4; cases h4)]
theorem conF_keys (c : List Int) (l : List CN) (n : Nat) (h : ∀ p ∈ l, p.2.length ≤ n) : ∀ p ∈ conF c l, p.2.length ≤ n := by
  intro p hp
  obtain ⟨q, hq, h3⟩ := List.mem_filterMap.1 hp
  unfold conS at h3
  split at h3
  · cases h3
  · cases h3
    exact Nat.le_trans (bothF_len _ _) (h q hq)
end Go.Proofs.Ytnkjhialkaomfaa.P
