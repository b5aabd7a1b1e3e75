/-
  plot.Bins and plot.Quartiles, by the abstract machine; the sort's contract is taken as given.
-/
import Derived.Test.YtnkjhialkaomfaaPlot
namespace Go.Proofs.Ytnkjhialkaomfaa.P
open Go.Abs Go.Proofs
set_option maxRecDepth 10000

def sortI (xs : List Int) : List Int := xs.mergeSort fun x y => decide (x ≤ y)
def SortC : Prop := ∀ xs : List Int, xs.length < 4611686018427387904 → MCall Try.prog 26 [.own 1 3 (xs.map (D.int .i64))] [.own 1 3 ((sortI xs).map (D.int .i64))] (.tup [])
theorem length_sortI (xs : List Int) : (sortI xs).length = xs.length := by simp [sortI, List.length_mergeSort]
theorem mem_sortI {x : Int} {xs : List Int} : x ∈ sortI xs ↔ x ∈ xs := by simp [sortI, List.mem_mergeSort]

abbrev BL := List (Int × Int)
def encB (p : Int × Int) : D := .agg [.int .i64 p.1, .int .i64 p.2]
def bins (l : BL) : D := .list 2 (l.map encB)
def stepB (w : Int) (B : BL) (v : Int) : BL :=
  match B.getLast? with
  | some (l, c) => if l = low w v then B.dropLast ++ [(l, c + 1)] else B ++ [(low w v, 1)]
  | none => [(low w v, 1)]
def binsF (w : Int) (xs : List Int) : BL := xs.foldl (stepB w) []
theorem binsF_snoc (w : Int) (xs : List Int) (x : Int) : binsF w (xs ++ [x]) = stepB w (binsF w xs) x := by simp [binsF]
theorem stepB_same (w : Int) (C : BL) (c v : Int) : stepB w (C ++ [(low w v, c)]) v = C ++ [(low w v, c + 1)] := by simp [stepB]
theorem stepB_new (w : Int) (B : BL) (v : Int) (h : ∀ C c, B ≠ C ++ [(low w v, c)]) : stepB w B v = B ++ [(low w v, 1)] := by
  unfold stepB
  cases hl : B.getLast? with
  | none => simp at hl; subst hl; rfl
  | some p =>
    obtain ⟨l, c⟩ := p
    obtain ⟨C, rfl⟩ := List.getLast?_eq_some_iff.1 hl
    by_cases e : l = low w v
    · subst e; exact absurd rfl (h C c)
    · simp [e]
theorem stepB_len (w : Int) (B : BL) (v : Int) : (stepB w B v).length ≤ B.length + 1 ∧ ∀ n, (∀ p ∈ B, 0 ≤ p.2 ∧ p.2 ≤ n) → 0 ≤ n → ∀ p ∈ stepB w B v, 0 ≤ p.2 ∧ p.2 ≤ n + 1 := by
  unfold stepB
  cases hl : B.getLast? with
  | none => simp at hl; subst hl; simp; omega
  | some p =>
    obtain ⟨l, c⟩ := p
    obtain ⟨C, rfl⟩ := List.getLast?_eq_some_iff.1 hl
    simp only
    split
    · refine ⟨by simp, fun n h hn p hp => ?_⟩
      simp at hp
      rcases hp with hp | rfl
      · have := h p (by simp [hp]); omega
      · have := h (l, c) (by simp); simp only at this ⊢; omega
    · refine ⟨by simp, fun n h hn p hp => ?_⟩
      rw [List.mem_append] at hp
      rcases hp with hp | hp
      · have := h p hp; omega
      · simp at hp; subst hp; simp only; omega
theorem binsF_len (w : Int) (xs : List Int) : (binsF w xs).length ≤ xs.length ∧ ∀ p ∈ binsF w xs, 0 ≤ p.2 ∧ p.2 ≤ xs.length := by
  have : ∀ n (xs : List Int), xs.length = n → (binsF w xs).length ≤ xs.length ∧ ∀ p ∈ binsF w xs, 0 ≤ p.2 ∧ p.2 ≤ xs.length := by
    intro n
    induction n with
    | zero => intro xs h; have := List.eq_nil_of_length_eq_zero h; subst this; simp [binsF]
    | succ n ih =>
      intro xs h
      have hne : xs ≠ [] := by intro e; subst e; simp at h
      obtain ⟨ys, y, rfl⟩ : ∃ ys y, xs = ys ++ [y] := ⟨xs.dropLast, xs.getLast hne, (List.dropLast_concat_getLast hne).symm⟩
      have hl : ys.length = n := by simp at h; exact h
      obtain ⟨h1, h2⟩ := ih ys hl
      rw [binsF_snoc]
      obtain ⟨h3, h4⟩ := stepB_len w (binsF w ys) y
      refine ⟨by simp; omega, fun p hp => ?_⟩
      have := h4 ys.length h2 (by omega) p hp
      simp; omega
  exact this _ xs rfl

theorem bytes_bin : bytesT Try.prog 39 = 16 := by kernel_rfl
theorem tail_get (C : BL) (p : Int × Int) : ((C ++ [p]).map encB)[C.length]? = some (encB p) := by simp
theorem tail_ix (C : BL) (p : Int × Int) (h : C.length < 1000000) : IntKind.i64.wrap ((((C ++ [p]).map encB).length : Int) - 1) = (C.length : Int) := by
  have e : ((((C ++ [p]).map encB).length : Nat) : Int) - 1 = (C.length : Int) := by
    have : ((C ++ [p]).map encB).length = C.length + 1 := by simp
    omega
  rw [e]; exact wrap_small (by omega) (by omega)
theorem tail_set (C : BL) (p q : Int × Int) : ((C ++ [p]).map encB).set C.length (encB q) = (C ++ [q]).map encB := by
  rw [List.map_append, List.map_append, List.set_append]
  simp

theorem size_bin : sizeT Try.prog 39 = 2 := by kernel_rfl
theorem room_bin (B : BL) (y : D) (h : B.length ≤ 1000000) : (fun n : Nat => n + [y].length ≤ maxLen ∧ (n + [y].length) * bytesT Try.prog 39 ≤ 140737488355328 ∧ ([y] = [] ∨ 0 + 1 + 1 = sizeT Try.prog 39)) (B.map encB).length := by
  rw [bytes_bin, size_bin]
  simp only [List.length_map, List.length_cons, List.length_nil]
  exact ⟨by unfold maxLen; omega, by omega, .inr (by trivial)⟩
theorem snoc_enc (B : BL) (l : Int) : B.map encB ++ [D.agg [D.int .i64 l, D.int .i64 0]] = (B ++ [(l, 0)]).map encB := by simp [encB]

/-- What P21.1's first error is. -/
def errB (xs : List Int) (w : Int) : Int := if xs.length > 200 then 1 else if w < 1 ∨ w > 1000000 ∨ xs.any lrg = true then 2 else 0
def binsO (xs : List Int) (w : Int) : BL := if errB xs w = 0 then binsF w (sortI xs) else []

theorem plotBins (hS : SortC) (xs : List Int) (w : Int) (hx : xs.length ≤ 1000000) : ACall Try.prog 11 [.d (ints xs), .d (.int .i64 w)] (.tup [.d (bins (binsO xs w)), .d (.int .i64 (errB xs w))]) := by
  refine acall Try.func11 (by kernel_rfl) ?_
  conv => whnf
  refine br (fun h => ?_) (fun h => ?_)
  · have hl : xs.length > 200 := by simp at h; omega
    have e : errB xs w = 1 := by simp [errB, hl]
    conv => whnf
    refine ⟨.inl ?_⟩
    conv => whnf
    exact ⟨by simp [binsO, e]; rfl⟩
  have hl : ¬ xs.length > 200 := by simp at h; omega
  conv => whnf
  refine br (fun hw => ?_) (fun hw => ?_)
  · have e : errB xs w = 2 := by
      have : w < 1 ∨ w > 1000000 := by
        by_cases h1 : w < 1
        · exact .inl h1
        · simp [h1] at hw; exact .inr hw
      unfold errB
      rw [if_neg hl, if_pos (by rcases this with h | h <;> simp [h])]
    conv => whnf
    refine ⟨.inl ?_⟩
    conv => whnf
    exact ⟨by simp [binsO, e]; rfl⟩
  have hw1 : ¬ w < 1 ∧ ¬ w > 1000000 := by
    by_cases h1 : w < 1
    · simp [h1] at hw
    · simp [h1] at hw; exact ⟨h1, by omega⟩
  conv => whnf
  refine callA (contains _ lrg xs hx fun x _ => large x) ?_
  conv => whnf
  refine br (fun ha => ?_) (fun ha => ?_)
  · have ha' : xs.any lrg = true := ha
    have e : errB xs w = 2 := by
      unfold errB
      rw [if_neg hl, if_pos (.inr (.inr ha'))]
    conv => whnf
    refine ⟨.inl ?_⟩
    conv => whnf
    exact ⟨by simp [binsO, e]; rfl⟩
  have ha' : xs.any lrg = false := ha
  have e : errB xs w = 0 := by
    unfold errB
    rw [if_neg hl, if_neg (by rw [ha']; simp; omega)]
  have hb : ∀ x ∈ sortI xs, -1000000 ≤ x ∧ x ≤ 1000000 := by
    intro x hx
    rw [mem_sortI] at hx
    rw [List.any_eq_false] at ha'
    exact (lrg_iff x).1 (by simpa using ha' x hx)
  have hn : (sortI xs).length ≤ 200 := by rw [length_sortI]; omega
  rw [show binsO xs w = binsF w (sortI xs) from by simp [binsO, e], e]
  conv => whnf
  refine callA (clone xs hx) ?_
  conv => whnf
  refine callM (hS xs (by omega)) ?_
  generalize sortI xs = s at hb hn
  conv => whnf
  refine loop Nat (fun k => mkS 71 [(1, .d (.int .i64 w)), (7, .sl 7 1), (31, .sl 28 1), (32, .d (.int .i64 s.length)), (33, .d (.int .i64 k))] [(7, .row 2 39 ((binsF w (s.take k)).map encB), 1), (28, .row 1 3 (s.map (D.int .i64)), 1)]) (fun k => s.length - k) 0 ?_ fun k => ?_
  · exact And.intro rfl (And.intro rfl (And.intro rfl (And.intro (by simp) (And.intro rfl trivial))))
  · conv => whnf
    refine br (fun h => ?_) (fun h => ?_)
    · have hlt : k < s.length := by simpa using h
      conv => whnf
      refine ⟨⟨by omega, by simp; omega⟩, ?_⟩
      conv => whnf
      refine ⟨⟨by omega, .int .i64 s[k], by simp [hlt], ?_⟩⟩
      conv => whnf
      refine callA (down s[k] w (by omega) (by omega) (hb _ (List.getElem_mem hlt)).1 (hb _ (List.getElem_mem hlt)).2) ?_
      conv => whnf
      have hB := binsF_len w (s.take k)
      have ht : (s.take k).length = k := by simp; omega
      rw [ht] at hB
      have hnx : binsF w (s.take (k + 1)) = stepB w (binsF w (s.take k)) s[k] := by rw [take_snoc s k hlt, binsF_snoc]
      generalize binsF w (s.take k) = B at hB hnx
      -- the way behind the test
      refine br (fun h0 => ?_) (fun h0 => ?_)
      · have hB0 : B = [] := by
          have : B.length = 0 := by simpa using h0
          exact List.eq_nil_of_length_eq_zero this
        subst hB0
        conv => whnf
        refine ⟨room_bin [] _ (by simp), ?_⟩
        rw [snoc_enc [] (low w s[k])]
        conv => whnf
        rw [tail_ix ([] : BL) _ (by simp)]
        refine ⟨⟨by omega, by simp⟩, ?_⟩
        conv => whnf
        refine ⟨⟨by omega, D.agg [.int .i64 (low w s[k]), .int .i64 0], by simp [encB], ?_⟩⟩
        conv => whnf
        refine ⟨⟨by omega, by simp⟩, ?_⟩
        conv => whnf
        refine ⟨⟨by omega, D.agg [.int .i64 (low w s[k]), .int .i64 0], by simp [encB], ?_⟩⟩
        conv => whnf
        refine ⟨k + 1, ?_, by show s.length - (k + 1) < s.length - k; omega⟩
        refine And.intro rfl (And.intro ?_ (And.intro rfl (And.intro rfl (And.intro (by rw [next (by omega)]) trivial))))
        show Body.row _ _ _ = Body.row _ _ _
        rw [hnx, stepB_new w [] s[k] (fun C c => by simp), wrap_small (n := 0 + 1) (by omega) (by omega), ← tail_set ([] : BL) (low w s[k], 0) (low w s[k], 1)]
        rfl
      · have hne : B ≠ [] := by intro e; subst e; simp at h0
        obtain ⟨C, ⟨l, c⟩, rfl⟩ : ∃ C p, B = C ++ [p] := ⟨B.dropLast, B.getLast hne, (List.dropLast_concat_getLast hne).symm⟩
        have hC : C.length < 1000000 := by have := hB.1; simp at this; omega
        have hc := hB.2 (l, c) (by simp)
        simp only at hc
        conv => whnf
        rw [tail_ix C _ hC]
        refine ⟨⟨by omega, by simp⟩, ?_⟩
        conv => whnf
        refine ⟨⟨by omega, D.agg [.int .i64 l, .int .i64 c], by simp [encB], ?_⟩⟩
        conv => whnf
        refine br (fun h1 => ?_) (fun h1 => ?_)
        · have hl' : l ≠ low w s[k] := by simpa using h1
          conv => whnf
          refine ⟨room_bin (C ++ [(l, c)]) _ (by have := hB.1; omega), ?_⟩
          rw [snoc_enc (C ++ [(l, c)]) (low w s[k])]
          conv => whnf
          rw [tail_ix (C ++ [(l, c)]) _ (by have := hB.1; omega)]
          refine ⟨⟨by omega, by simp⟩, ?_⟩
          conv => whnf
          refine ⟨⟨by omega, D.agg [.int .i64 (low w s[k]), .int .i64 0], by simp [encB], ?_⟩⟩
          conv => whnf
          refine ⟨⟨by omega, by simp⟩, ?_⟩
          conv => whnf
          refine ⟨⟨by omega, D.agg [.int .i64 (low w s[k]), .int .i64 0], by simp [encB], ?_⟩⟩
          conv => whnf
          refine ⟨k + 1, ?_, by show s.length - (k + 1) < s.length - k; omega⟩
          refine And.intro rfl (And.intro ?_ (And.intro rfl (And.intro rfl (And.intro (by rw [next (by omega)]) trivial))))
          show Body.row _ _ _ = Body.row _ _ _
          rw [hnx, stepB_new w _ s[k] (fun C' c' e => hl' (by have := (List.append_inj' e rfl).2; simp at this; exact this.1)), wrap_small (n := 0 + 1) (by omega) (by omega), ← tail_set (C ++ [(l, c)]) (low w s[k], 0) (low w s[k], 1)]
          rfl
        · have hl' : l = low w s[k] := by simpa using h1
          subst hl'
          conv => whnf
          rw [tail_ix C _ hC]
          refine ⟨⟨by omega, by simp⟩, ?_⟩
          conv => whnf
          refine ⟨⟨by omega, D.agg [.int .i64 (low w s[k]), .int .i64 c], by simp [encB], ?_⟩⟩
          conv => whnf
          refine ⟨⟨by omega, by simp⟩, ?_⟩
          conv => whnf
          refine ⟨⟨by omega, D.agg [.int .i64 (low w s[k]), .int .i64 c], by simp [encB], ?_⟩⟩
          conv => whnf
          refine ⟨k + 1, ?_, by show s.length - (k + 1) < s.length - k; omega⟩
          refine And.intro rfl (And.intro ?_ (And.intro rfl (And.intro rfl (And.intro (by rw [next (by omega)]) trivial))))
          show Body.row _ _ _ = Body.row _ _ _
          rw [hnx, stepB_same, wrap_small (n := c + 1) (by omega) (by omega), ← tail_set C (low w s[k], c) (low w s[k], c + 1)]
          rfl
    · have hge : s.length ≤ k := by simpa using h
      conv => whnf
      refine ⟨.inl ?_⟩
      conv => whnf
      exact ⟨by rw [List.take_of_length_le hge]; rfl⟩
end Go.Proofs.Ytnkjhialkaomfaa.P
