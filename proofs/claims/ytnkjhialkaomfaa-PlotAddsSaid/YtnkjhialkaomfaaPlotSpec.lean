/-
  What the bins of sorted numbers are. No program in sight.
-/
import Derived.Test.YtnkjhialkaomfaaPlotPlain
namespace Go.Proofs.Ytnkjhialkaomfaa.P
open Go.Abs Go.Proofs

theorem low_le (w x : Int) (hw : 0 < w) : low w x ≤ x ∧ x - w < low w x := by
  unfold low
  have := Int.emod_nonneg x (show w ≠ 0 by omega)
  have := Int.emod_lt_of_pos x hw
  omega
theorem low_dvd (w x : Int) : w ∣ low w x := by
  unfold low
  exact Int.dvd_self_sub_of_emod_eq rfl
theorem low_unique {w x m : Int} (hw : 0 < w) (hm : w ∣ m) : low w x = m ↔ m ≤ x ∧ x < m + w := by
  have h1 := low_le w x hw
  constructor
  · rintro rfl; omega
  · intro h
    obtain ⟨a, ha⟩ := low_dvd w x
    obtain ⟨b, hb⟩ := hm
    have h2 : w * (a - b) < w * 1 := by rw [Int.mul_sub]; omega
    have h3 : w * (-1) < w * (a - b) := by rw [Int.mul_sub]; omega
    have h4 := Int.lt_of_mul_lt_mul_left h2 (by omega)
    have h5 := Int.lt_of_mul_lt_mul_left h3 (by omega)
    have : a = b := by omega
    rw [ha, hb, this]
theorem low_mono {w x y : Int} (hw : 0 < w) (h : x ≤ y) : low w x ≤ low w y := by
  have h1 := low_le w x hw
  have h2 := low_le w y hw
  rcases Int.lt_or_le (low w y) (low w x) with h3 | h3
  · obtain ⟨a, ha⟩ := low_dvd w x
    obtain ⟨b, hb⟩ := low_dvd w y
    have h4 : w * (b - a) < w * 0 := by rw [Int.mul_sub]; omega
    have h5 : w * (-1) < w * (b - a) := by rw [Int.mul_sub]; omega
    have h6 := Int.lt_of_mul_lt_mul_left h4 (by omega)
    have h7 := Int.lt_of_mul_lt_mul_left h5 (by omega)
    omega
  · exact h3

/-- How many numbers lie in a bin. -/
def cntB (w m : Int) (xs : List Int) : Int := ((xs.countP fun x => decide (low w x = m) : Nat) : Int)
structure IsBins (w : Int) (xs : List Int) (B : BL) : Prop where
  asc : (B.map Prod.fst).Pairwise (· < ·)
  cnt : ∀ p ∈ B, p.2 = cntB w p.1 xs
  src : ∀ p ∈ B, ∃ x ∈ xs, low w x = p.1
  all : ∀ x ∈ xs, ∃ c, (low w x, c) ∈ B

theorem cntB_snoc (w m : Int) (xs : List Int) (y : Int) : cntB w m (xs ++ [y]) = cntB w m xs + if low w y = m then 1 else 0 := by
  unfold cntB
  rw [List.countP_append]
  by_cases h : low w y = m <;> simp [h]

theorem isBins_step {w : Int} {xs : List Int} {B : BL} {y : Int} (hB : IsBins w xs B) (hle : ∀ x ∈ xs, low w x ≤ low w y) : IsBins w (xs ++ [y]) (stepB w B y) := by
  by_cases hc : ∃ C c, B = C ++ [(low w y, c)]
  · obtain ⟨C, c, rfl⟩ := hc
    rw [stepB_same]
    have hlt : ∀ p ∈ C, p.1 < low w y := by
      intro p hp
      have := hB.asc
      rw [List.map_append, List.pairwise_append] at this
      exact this.2.2 p.1 (List.mem_map_of_mem hp) (low w y) (by simp)
    refine ⟨by simpa using hB.asc, fun p hp => ?_, fun p hp => ?_, fun x hx => ?_⟩
    · rw [List.mem_append] at hp
      rcases hp with hp | hp
      · rw [cntB_snoc, if_neg (by have := hlt p hp; omega), hB.cnt p (by simp [hp])]; omega
      · simp at hp; subst hp
        simp only
        rw [cntB_snoc, if_pos rfl]
        have := hB.cnt (low w y, c) (by simp)
        simp only at this; omega
    · rw [List.mem_append] at hp
      rcases hp with hp | hp
      · obtain ⟨x, hx, h⟩ := hB.src p (by simp [hp]); exact ⟨x, by simp [hx], h⟩
      · simp at hp; subst hp; exact ⟨y, by simp, rfl⟩
    · rw [List.mem_append] at hx
      rcases hx with hx | hx
      · obtain ⟨d, hd⟩ := hB.all x hx
        rw [List.mem_append] at hd
        rcases hd with hd | hd
        · exact ⟨d, by simp [hd]⟩
        · simp at hd; exact ⟨c + 1, by simp [hd.1]⟩
      · simp at hx; subst hx; exact ⟨c + 1, by simp⟩
  · have hc' : ∀ C c, B ≠ C ++ [(low w y, c)] := fun C c h => hc ⟨C, c, h⟩
    rw [stepB_new w B y hc']
    have hlt : ∀ p ∈ B, p.1 < low w y := by
      intro p hp
      obtain ⟨x, hx, h⟩ := hB.src p hp
      have h1 := hle x hx
      rw [h] at h1
      rcases Int.lt_or_eq_of_le h1 with h2 | h2
      · exact h2
      · exfalso
        have hne : B ≠ [] := by intro e; subst e; simp at hp
        obtain ⟨C, q, hCq⟩ : ∃ C q, B = C ++ [q] := ⟨B.dropLast, B.getLast hne, (List.dropLast_concat_getLast hne).symm⟩
        obtain ⟨l, c⟩ := q
        subst hCq
        have hl : l ≤ low w y := by
          obtain ⟨z, hz, hzl⟩ := hB.src (l, c) (by simp)
          have := hle z hz; simp only at hzl; omega
        rw [List.mem_append] at hp
        rcases hp with hp | hp
        · have := hB.asc
          rw [List.map_append, List.pairwise_append] at this
          have := this.2.2 p.1 (List.mem_map_of_mem hp) l (by simp)
          omega
        · simp at hp; subst hp
          exact hc' C c (by rw [show l = low w y from h2])
    refine ⟨?_, fun p hp => ?_, fun p hp => ?_, fun x hx => ?_⟩
    · rw [List.map_append, List.pairwise_append]
      refine ⟨hB.asc, by simp, fun a ha b hb => ?_⟩
      simp at hb; subst hb
      obtain ⟨p, hp, rfl⟩ := List.mem_map.1 ha
      exact hlt p hp
    · rw [List.mem_append] at hp
      rcases hp with hp | hp
      · rw [cntB_snoc, if_neg (by have := hlt p hp; omega), hB.cnt p hp]; omega
      · simp at hp; subst hp
        simp only
        rw [cntB_snoc, if_pos rfl]
        have : cntB w (low w y) xs = 0 := by
          unfold cntB
          rw [List.countP_eq_zero.2]
          · rfl
          · intro x hx
            simp only [decide_eq_true_eq]
            intro h
            obtain ⟨c, hc⟩ := hB.all x hx
            have := hlt _ hc; simp only at this; omega
        omega
    · rw [List.mem_append] at hp
      rcases hp with hp | hp
      · obtain ⟨x, hx, h⟩ := hB.src p hp; exact ⟨x, by simp [hx], h⟩
      · simp at hp; subst hp; exact ⟨y, by simp, rfl⟩
    · rw [List.mem_append] at hx
      rcases hx with hx | hx
      · obtain ⟨d, hd⟩ := hB.all x hx; exact ⟨d, by simp [hd]⟩
      · simp at hx; subst hx; exact ⟨1, by simp⟩

theorem isBins_sorted {w : Int} (hw : 0 < w) : ∀ (n : Nat) (s : List Int), s.length = n → s.Pairwise (· ≤ ·) → IsBins w s (binsF w s) := by
  intro n
  induction n with
  | zero => intro s h _; have := List.eq_nil_of_length_eq_zero h; subst this; exact ⟨by simp [binsF], by simp [binsF], by simp [binsF], by simp⟩
  | succ n ih =>
    intro s h hs
    have hne : s ≠ [] := by intro e; subst e; simp at h
    obtain ⟨ys, y, rfl⟩ : ∃ ys y, s = ys ++ [y] := ⟨s.dropLast, s.getLast hne, (List.dropLast_concat_getLast hne).symm⟩
    rw [List.pairwise_append] at hs
    rw [binsF_snoc]
    exact isBins_step (ih ys (by simp at h; exact h) hs.1) fun x hx => low_mono hw (hs.2.2 x hx y (by simp))

theorem IsBins.perm {w : Int} {xs ys : List Int} {B : BL} (h : IsBins w xs B) (hp : xs.Perm ys) : IsBins w ys B :=
  ⟨h.asc, fun p hm => by rw [h.cnt p hm]; unfold cntB; rw [hp.countP_eq], fun p hm => by obtain ⟨x, hx, e⟩ := h.src p hm; exact ⟨x, hp.mem_iff.1 hx, e⟩, fun x hx => h.all x (hp.mem_iff.2 hx)⟩

theorem isBins {w : Int} (hw : 0 < w) (xs : List Int) : IsBins w xs (binsF w (sortI xs)) :=
  (isBins_sorted hw _ _ rfl (sorted_sortI xs)).perm (perm_sortI xs)

theorem asc_ext : ∀ {l m : List Int}, l.Pairwise (· < ·) → m.Pairwise (· < ·) → (∀ x, x ∈ l ↔ x ∈ m) → l = m
  | [], [], _, _, _ => rfl
  | [], y :: m, _, _, h => by have := (h y).2 (by simp); simp at this
  | x :: l, [], _, _, h => by have := (h x).1 (by simp); simp at this
  | x :: l, y :: m, hl, hm, h => by
    rw [List.pairwise_cons] at hl hm
    have e : x = y := by
      rcases List.mem_cons.1 ((h x).1 (by simp)) with h1 | h1
      · exact h1
      · rcases List.mem_cons.1 ((h y).2 (by simp)) with h2 | h2
        · exact h2.symm
        · have := hl.1 y h2; have := hm.1 x h1; omega
    subst e
    rw [asc_ext hl.2 hm.2 fun z => ?_]
    have hz := h z
    simp only [List.mem_cons] at hz
    constructor
    · intro h1
      rcases hz.1 (.inr h1) with h2 | h2
      · have := hl.1 z h1; omega
      · exact h2
    · intro h1
      rcases hz.2 (.inr h1) with h2 | h2
      · have := hm.1 z h1; omega
      · exact h2
/-- Numbers have one list of bins. -/
theorem IsBins.unique {w : Int} {xs : List Int} {B C : BL} (hB : IsBins w xs B) (hC : IsBins w xs C) : B = C := by
  have e : B.map Prod.fst = C.map Prod.fst := asc_ext hB.asc hC.asc fun z => by
    constructor
    · intro h
      obtain ⟨p, hp, rfl⟩ := List.mem_map.1 h
      obtain ⟨x, hx, e⟩ := hB.src p hp
      obtain ⟨c, hc⟩ := hC.all x hx
      exact List.mem_map.2 ⟨_, hc, e⟩
    · intro h
      obtain ⟨p, hp, rfl⟩ := List.mem_map.1 h
      obtain ⟨x, hx, e⟩ := hC.src p hp
      obtain ⟨c, hc⟩ := hB.all x hx
      exact List.mem_map.2 ⟨_, hc, e⟩
  have f : ∀ {B : BL}, IsBins w xs B → B = (B.map Prod.fst).map fun m => (m, cntB w m xs) := by
    intro B h
    rw [List.map_map]
    conv => lhs; rw [← List.map_id B]
    refine List.map_congr_left fun p hp => ?_
    exact Prod.ext rfl (h.cnt p hp)
  rw [f hB, f hC, e]
end Go.Proofs.Ytnkjhialkaomfaa.P
