/-
  The reference of plot, by the abstract machine.
-/
import Derived.Test.YtnkjhialkaomfaaPlotSpec
namespace Go.Proofs.Ytnkjhialkaomfaa.P
open Go.Abs Go.Proofs
set_option maxRecDepth 100000
set_option maxHeartbeats 4000000

theorem check (xs : List Int) (w : Int) (hx : xs.length ≤ 1000000) : ACall Try.prog 28 [.d (ints xs), .d (.int .i64 w)] (.d (.int .i64 (errB xs w))) := by
  refine acall Try.func28 (by kernel_rfl) ?_
  conv => whnf
  refine br (fun h => ?_) (fun h => ?_)
  · have hl : xs.length > 200 := by simp at h; omega
    conv => whnf
    exact ⟨by rw [show errB xs w = 1 from by simp [errB, hl]]; rfl⟩
  have hl : ¬ xs.length > 200 := by simp at h; omega
  conv => whnf
  refine br (fun hw => ?_) (fun hw => ?_)
  · have e : errB xs w = 2 := by
      have : w < 1 ∨ w > 1000000 := by
        by_cases h1 : w < 1
        · exact .inl h1
        · simp [h1] at hw; exact .inr hw
      unfold errB
      rw [if_neg hl, if_pos (by rcases this with h | h <;> simp [h])]
    conv => whnf
    exact ⟨by rw [e]; rfl⟩
  have hw1 : ¬ w < 1 ∧ ¬ w > 1000000 := by
    by_cases h1 : w < 1
    · simp [h1] at hw
    · simp [h1] at hw; exact ⟨h1, by omega⟩
  conv => whnf
  refine loop {k : Nat // ∀ j (hj : j < xs.length), j < k → lrg xs[j] = false} (fun k => mkS 33 [(0, .d (ints xs)), (5, .d (.int .i64 k.1))] []) (fun k => xs.length - k.1) ⟨0, by simp⟩ ?_ fun k => ?_
  · exact And.intro rfl (And.intro rfl trivial)
  obtain ⟨k, hk⟩ := k
  conv => whnf
  refine br (fun h => ?_) (fun h => ?_)
  · have hlt : k < xs.length := by simpa using h
    conv => whnf
    refine ⟨⟨by simp only; omega, _, ints_get xs k hlt, ?_⟩⟩
    conv => whnf
    have bad : lrg xs[k] = true → errB xs w = 2 := by
      intro hb
      unfold errB
      rw [if_neg hl, if_pos (.inr (.inr (List.any_eq_true.2 ⟨_, List.getElem_mem hlt, hb⟩)))]
    refine br (fun h1 => ?_) (fun h1 => ?_)
    · conv => whnf
      exact ⟨by rw [bad (by simp [lrg, h1])]; rfl⟩
    · conv => whnf
      refine ⟨⟨by simp only; omega, _, ints_get xs k hlt, ?_⟩⟩
      conv => whnf
      refine br (fun h2 => ?_) (fun h2 => ?_)
      · conv => whnf
        exact ⟨by rw [bad (by simp [lrg, h1]; simpa using h2)]; rfl⟩
      · conv => whnf
        refine ⟨⟨k + 1, fun j hj hjk => ?_⟩, ?_, by show xs.length - (k + 1) < xs.length - k; omega⟩
        · by_cases e : j = k
          · subst e; simp [lrg, h1]; simpa using h2
          · exact hk j hj (by omega)
        · exact And.intro rfl (And.intro (by rw [next (by first | omega | (simp only; omega))]) trivial)
  · have hge : xs.length ≤ k := by simpa using h
    have e : errB xs w = 0 := by
      unfold errB
      have : xs.any lrg = false := by
        rw [List.any_eq_false]
        intro x hx
        obtain ⟨j, hj, rfl⟩ := List.getElem_of_mem hx
        simp [hk j hj (by omega)]
      rw [if_neg hl, if_neg (by rw [this]; simp; omega)]
    conv => whnf
    exact ⟨by rw [e]; rfl⟩

theorem tdiv_low (v w : Int) (hw : 0 < w) : (v.tmod w < 0 → (v.tdiv w - 1) * w = low w v) ∧ (¬ v.tmod w < 0 → v.tdiv w * w = low w v) := by
  have h := tmod_emod v w hw
  have e : w * v.tdiv w + v.tmod w = v := Int.mul_tdiv_add_tmod v w
  have e' : v.tdiv w * w = w * v.tdiv w := Int.mul_comm _ _
  constructor
  · intro hn
    rw [low, h.1 hn, Int.sub_mul, Int.one_mul]; omega
  · intro hn
    rw [low, h.2 hn]; omega
theorem floor (v w : Int) (hw : 0 < w) (hw2 : w ≤ 1000000) (hv : -1000000 ≤ v) (hv2 : v ≤ 1000000) : ∃ q, ACall Try.prog 30 [.d (.int .i64 v), .d (.int .i64 w)] (.d (.int .i64 q)) ∧ q * w = low w v := by
  have hq : -1000000 ≤ v.tdiv w ∧ v.tdiv w ≤ 1000000 := by
    have h1 : (v.tdiv w).natAbs ≤ v.natAbs := by rw [Int.natAbs_tdiv]; exact Nat.div_le_self _ _
    omega
  have he := tdiv_low v w hw
  by_cases hn : v.tmod w < 0
  · refine ⟨v.tdiv w - 1, ?_, he.1 hn⟩
    refine acall Try.func30 (by kernel_rfl) ?_
    conv => whnf
    refine ⟨by omega, ?_⟩
    conv => whnf
    refine ⟨by omega, ?_⟩
    conv => whnf
    refine br (fun h => ?_) (fun h => ?_)
    · conv => whnf
      exact ⟨by rw [wrap_small (n := v.tdiv w) (by omega) (by omega), wrap_small (by omega) (by omega)]; rfl⟩
    · simp at h; omega
  · refine ⟨v.tdiv w, ?_, he.2 hn⟩
    refine acall Try.func30 (by kernel_rfl) ?_
    conv => whnf
    refine ⟨by omega, ?_⟩
    conv => whnf
    refine ⟨by omega, ?_⟩
    conv => whnf
    refine br (fun h => ?_) (fun h => ?_)
    · simp at h; omega
    · conv => whnf
      exact ⟨by rw [wrap_small (n := v.tdiv w) (by omega) (by omega)]; rfl⟩

/-- Insertion, each number once. -/
def stepP (n : Int) (q : List Int × Bool) (x : Int) : List Int × Bool := if x > n ∧ q.2 = false then (q.1 ++ [n] ++ [x], true) else (q.1 ++ [x], q.2)
def foldP (n : Int) (l : List Int) : List Int × Bool := l.foldl (stepP n) ([], false)
theorem foldP_snoc (n : Int) (l : List Int) (x : Int) : foldP n (l ++ [x]) = stepP n (foldP n l) x := by simp [foldP]
def endP (n : Int) (q : List Int × Bool) : List Int := if q.2 = true then q.1 else q.1 ++ [n]
def putI (l : List Int) (n : Int) : List Int := if n ∈ l then l else endP n (foldP n l)
theorem foldP_len (n : Int) (l : List Int) : (foldP n l).1.length ≤ l.length + 1 ∧ ((foldP n l).2 = false → (foldP n l).1.length ≤ l.length) := by
  have : ∀ k (l : List Int), l.length = k → (foldP n l).1.length ≤ l.length + 1 ∧ ((foldP n l).2 = false → (foldP n l).1.length ≤ l.length) := by
    intro k
    induction k with
    | zero => intro l h; have := List.eq_nil_of_length_eq_zero h; subst this; simp [foldP]
    | succ k ih =>
      intro s h
      have hne : s ≠ [] := by intro e; subst e; simp at h
      obtain ⟨ys, y, rfl⟩ : ∃ ys y, s = ys ++ [y] := ⟨s.dropLast, s.getLast hne, (List.dropLast_concat_getLast hne).symm⟩
      obtain ⟨h1, h2⟩ := ih ys (by simp at h; exact h)
      rw [foldP_snoc]
      unfold stepP
      by_cases hd : (foldP n ys).2 = false
      · have h3 := h2 hd
        split
        · simp; omega
        · simp; omega
      · simp only [hd, and_false, if_false]; simp; omega
  exact this _ l rfl
theorem foldP_spec (n : Int) : ∀ (k : Nat) (l : List Int), l.length = k → l.Pairwise (· < ·) → n ∉ l →
    (foldP n l).1.Pairwise (· < ·) ∧ ((foldP n l).2 = false → (foldP n l).1 = l ∧ ∀ x ∈ l, x < n) ∧ ((foldP n l).2 = true → (∃ x ∈ l, n < x) ∧ ∀ z, z ∈ (foldP n l).1 ↔ z ∈ l ∨ z = n) := by
  intro k
  induction k with
  | zero => intro l h _ _; have := List.eq_nil_of_length_eq_zero h; subst this; simp [foldP]
  | succ k ih =>
    intro s h ha hn
    have hne : s ≠ [] := by intro e; subst e; simp at h
    obtain ⟨ys, y, rfl⟩ : ∃ ys y, s = ys ++ [y] := ⟨s.dropLast, s.getLast hne, (List.dropLast_concat_getLast hne).symm⟩
    rw [List.pairwise_append] at ha
    obtain ⟨h1, h2, h3⟩ := ih ys (by simp at h; exact h) ha.1 (fun hm => hn (by simp [hm]))
    have hy : ∀ x ∈ ys, x < y := fun x hx => ha.2.2 x hx y (by simp)
    have hny : n ≠ y := fun e => hn (by simp [e])
    rw [foldP_snoc]
    unfold stepP
    cases hd : (foldP n ys).2 with
    | false =>
      obtain ⟨e1, e2⟩ := h2 hd
      by_cases hx : y > n
      · simp only [hx, and_self, if_true]
        refine ⟨?_, fun h => by simp at h, fun _ => ⟨⟨y, by simp, by omega⟩, fun z => ?_⟩⟩
        · rw [List.pairwise_append, List.pairwise_append]
          refine ⟨⟨h1, by simp, fun a ha' b hb => ?_⟩, by simp, fun a ha' b hb => ?_⟩
          · simp at hb; subst hb; rw [e1] at ha'; exact e2 a ha'
          · simp at hb; subst hb
            rw [List.mem_append, e1] at ha'
            rcases ha' with h | h
            · exact hy a h
            · simp at h; omega
        · rw [e1]; simp
          constructor
          · rintro (h | h | h) <;> simp [h]
          · rintro ((h | h) | h) <;> simp [h]
      · simp only [hx, false_and, if_false]
        refine ⟨?_, fun _ => ⟨by rw [e1], fun x hx' => ?_⟩, fun h => by simp at h⟩
        · rw [List.pairwise_append]
          exact ⟨h1, by simp, fun a ha' b hb => by simp at hb; subst hb; rw [e1] at ha'; exact hy a ha'⟩
        · rw [List.mem_append] at hx'
          rcases hx' with h | h
          · exact e2 x h
          · simp at h; omega
    | true =>
      obtain ⟨⟨z0, hz0, hz1⟩, e2⟩ := h3 hd
      simp only [Bool.true_eq_false, and_false, if_false]
      refine ⟨?_, fun h => by simp at h, fun _ => ⟨⟨z0, by simp [hz0], hz1⟩, fun z => ?_⟩⟩
      · rw [List.pairwise_append]
        refine ⟨h1, by simp, fun a ha' b hb => ?_⟩
        simp at hb; subst hb
        rcases (e2 a).1 ha' with h | h
        · exact hy a h
        · have := hy z0 hz0; omega
      · rw [List.mem_append, e2]; simp
        constructor
        · rintro ((h | h) | h) <;> simp [h]
        · rintro ((h | h) | h) <;> simp [h]
theorem putI_spec (l : List Int) (n : Int) (ha : l.Pairwise (· < ·)) : (putI l n).Pairwise (· < ·) ∧ (∀ z, z ∈ putI l n ↔ z ∈ l ∨ z = n) ∧ (putI l n).length ≤ l.length + 1 := by
  unfold putI
  by_cases hn : n ∈ l
  · rw [if_pos hn]
    exact ⟨ha, fun z => ⟨.inl, fun h => by rcases h with h | h; exact h; rw [h]; exact hn⟩, by omega⟩
  · rw [if_neg hn]
    obtain ⟨h1, h2, h3⟩ := foldP_spec n _ l rfl ha hn
    obtain ⟨l1, l2⟩ := foldP_len n l
    unfold endP
    cases hd : (foldP n l).2 with
    | true =>
      simp only [if_true]
      exact ⟨h1, (h3 hd).2, l1⟩
    | false =>
      obtain ⟨e1, e2⟩ := h2 hd
      simp only [Bool.false_eq_true, if_false]
      refine ⟨?_, fun z => by rw [e1]; simp, by have := l2 hd; simp; omega⟩
      rw [List.pairwise_append]
      exact ⟨h1, by simp, fun a ha' b hb => by simp at hb; subst hb; rw [e1] at ha'; exact e2 a ha'⟩

theorem put (l : List Int) (n : Int) (hl : l.length ≤ 1000) : ACall Try.prog 29 [.d (ints l), .d (.int .i64 n)] (.d (ints (putI l n))) := by
  refine acall Try.func29 (by kernel_rfl) ?_
  conv => whnf
  refine callA (has l n (by omega)) ?_
  conv => whnf
  refine br (fun h => ?_) (fun h => ?_)
  · have h' : n ∈ l := by simpa using h
    conv => whnf
    exact ⟨by rw [putI, if_pos h']; rfl⟩
  have h' : n ∉ l := by simpa using h
  conv => whnf
  refine loop Nat (fun k => mkS 46 [(0, .d (ints l)), (1, .d (.int .i64 n)), (5, .sl 5 1), (6, .d (.bool (foldP n (l.take k)).2)), (7, .d (.int .i64 k))] [(5, .row 1 3 ((foldP n (l.take k)).1.map (D.int .i64)), 1)]) (fun k => l.length - k) 0 ?_ fun k => ?_
  · exact And.intro rfl (And.intro rfl (And.intro rfl (And.intro rfl (And.intro rfl trivial))))
  have hq := foldP_len n (l.take k)
  have hq2 : (l.take k).length ≤ l.length := List.length_take_le' _ _
  have hnx : ∀ hlt : k < l.length, foldP n (l.take (k + 1)) = stepP n (foldP n (l.take k)) l[k] := fun hlt => by rw [take_snoc l k hlt, foldP_snoc]
  have hfin : l.length ≤ k → foldP n (l.take k) = foldP n l := fun hge => by rw [List.take_of_length_le hge]
  generalize foldP n (l.take k) = q at hq hnx hfin
  obtain ⟨o, d⟩ := q
  simp only at hq
  conv => whnf
  refine br (fun h => ?_) (fun h => ?_)
  · have hlt : k < l.length := by simpa using h
    have hnx := hnx hlt
    conv => whnf
    refine ⟨⟨by omega, _, ints_get l k hlt, ?_⟩⟩
    conv => whnf
    refine br (fun h1 => ?_) (fun h1 => ?_)
    · have h2 : l[k] > n ∧ d = false := by
        by_cases hx : l[k] > n
        · simp [hx] at h1; exact ⟨hx, h1⟩
        · simp [hx] at h1
      conv => whnf
      refine ⟨room_int o _ (by omega), ?_⟩
      rw [snoc_int]
      conv => whnf
      refine ⟨⟨by omega, _, ints_get l k hlt, ?_⟩⟩
      conv => whnf
      refine ⟨room_int _ _ (by simp; omega), ?_⟩
      rw [snoc_int]
      conv => whnf
      refine ⟨k + 1, ?_, by show l.length - (k + 1) < l.length - k; omega⟩
      rw [hnx, stepP, if_pos h2]
      exact And.intro rfl (And.intro rfl (And.intro rfl (And.intro rfl (And.intro (by rw [next (by omega)]) trivial))))
    · have h2 : ¬ (l[k] > n ∧ d = false) := by
        rintro ⟨hx, hd⟩
        subst hd
        simp [hx] at h1
      conv => whnf
      refine ⟨⟨by omega, _, ints_get l k hlt, ?_⟩⟩
      conv => whnf
      refine ⟨room_int o _ (by omega), ?_⟩
      rw [snoc_int]
      conv => whnf
      refine ⟨k + 1, ?_, by show l.length - (k + 1) < l.length - k; omega⟩
      rw [hnx, stepP, if_neg h2]
      exact And.intro rfl (And.intro rfl (And.intro rfl (And.intro rfl (And.intro (by rw [next (by omega)]) trivial))))
  · have hge : l.length ≤ k := by simpa using h
    have e := hfin hge
    conv => whnf
    refine br (fun h1 => ?_) (fun h1 => ?_)
    · have hd : d = false := by simpa using h1
      conv => whnf
      refine ⟨room_int o _ (by omega), ?_⟩
      rw [snoc_int]
      conv => whnf
      refine ⟨.inl ?_⟩
      conv => whnf
      exact ⟨by rw [putI, if_neg h', ← e, endP, if_neg (by simp [hd])]; rfl⟩
    · have hd : d = true := by simpa using h1
      conv => whnf
      refine ⟨.inl ?_⟩
      conv => whnf
      exact ⟨by rw [putI, if_neg h', ← e, endP, if_pos hd]; rfl⟩
end Go.Proofs.Ytnkjhialkaomfaa.P
