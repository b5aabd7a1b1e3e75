/-
  The law PlotMoves, by the abstract machine.
-/
import Derived.Test.YtnkjhialkaomfaaPlotSpec
namespace Go.Proofs.Ytnkjhialkaomfaa.P
open Go.Abs Go.Proofs
set_option maxRecDepth 100000
set_option maxHeartbeats 4000000

/-! ### The plain law -/
def shiftB (by_ : Int) (B : BL) : BL := B.map fun p => (p.1 + by_, p.2)
theorem low_shift (w t x : Int) : low w (x + w * t) = low w x + w * t := by
  unfold low
  rw [Int.add_mul_emod_self_left]
  omega
theorem stepB_shift (w t : Int) (B : BL) (x : Int) : stepB w (shiftB (w * t) B) (x + w * t) = shiftB (w * t) (stepB w B x) := by
  unfold stepB
  rw [low_shift]
  cases hl : B.getLast? with
  | none => simp at hl; subst hl; rfl
  | some p =>
    obtain ⟨l, c⟩ := p
    obtain ⟨C, rfl⟩ := List.getLast?_eq_some_iff.1 hl
    by_cases e : l = low w x
    · subst e; simp [shiftB]
    · have e' : ¬ l + w * t = low w x + w * t := by omega
      simp [shiftB, e]
theorem binsF_shift (w t : Int) (xs : List Int) : binsF w (xs.map (· + w * t)) = shiftB (w * t) (binsF w xs) := by
  have : ∀ (xs : List Int) (B : BL), (xs.map (· + w * t)).foldl (stepB w) (shiftB (w * t) B) = shiftB (w * t) (xs.foldl (stepB w) B) := by
    intro xs
    induction xs with
    | nil => intro B; rfl
    | cons x r ih => intro B; simp only [List.map_cons, List.foldl_cons]; rw [stepB_shift, ih]
  exact this xs []
theorem sortI_moved (d : Int) (v : List Int) : sortI ((v.map (· + d)).reverse) = (sortI v).map (· + d) := by
  refine sortI_eq ?_ ?_
  · exact (List.reverse_perm _).trans ((perm_sortI v).symm.map _)
  · rw [List.pairwise_map]
    exact (sorted_sortI v).imp fun h => by omega
theorem qAt_map (d : Int) {s : List Int} {i : Nat} (h : i < s.length) : qAt (s.map (· + d)) i = qAt s i + d := by
  rw [qAt_get h, qAt_get (by simpa using h)]; simp

theorem movesLaw (hS : SortC) (l : List Int) (wd tm : Int) (hl : ∀ x ∈ l, 0 ≤ x ∧ x ≤ 255) (hw0 : 0 ≤ wd) (hw1 : wd ≤ 255) (ht0 : -128 ≤ tm) (ht1 : tm ≤ 127) :
    ACall Try.prog 6 [.d (bytesD l), .d (.int .u8 wd), .d (.int .i8 tm)] (.d (.bool true)) := by
  refine acall Try.func6 (by kernel_rfl) ?_
  conv => whnf
  refine callA (values l hl) ?_
  have hb := @vals_bounds l
  have hn := vals_len l
  generalize vals l = v at hb hn
  conv => whnf
  refine ⟨by omega, ?_⟩
  conv => whnf
  obtain ⟨w, hw, hwa, hwb⟩ : ∃ w, IntKind.i64.wrap (1 + (IntKind.i64.wrap wd).tmod 9) = w ∧ 1 ≤ w ∧ w ≤ 9 := by
    refine ⟨_, rfl, ?_⟩
    rw [wrap_small (n := wd) (by omega) (by omega), Int.tmod_eq_emod_of_nonneg hw0, wrap_small (by omega) (by omega)]
    omega
  obtain ⟨dd, hd, hdd⟩ : ∃ dd, IntKind.i64.wrap (w * IntKind.i64.wrap tm) = dd ∧ dd = w * tm := by
    have h1 : w * tm ≤ 9 * 127 := by
      rcases Int.le_total 0 tm with h | h
      · exact Int.le_trans (Int.mul_le_mul_of_nonneg_right hwb h) (by omega)
      · have := Int.mul_nonpos_of_nonneg_of_nonpos (show 0 ≤ w by omega) h; omega
    have h2 : -(9 * 128) ≤ w * tm := by
      rcases Int.le_total 0 tm with h | h
      · have := Int.mul_nonneg (show 0 ≤ w by omega) h; omega
      · have := Int.mul_le_mul_of_nonpos_right hwb h; omega
    exact ⟨w * tm, by rw [wrap_small (n := tm) (by omega) (by omega)]; exact wrap_small (by omega) (by omega), rfl⟩
  have hdb : -1152 ≤ dd ∧ dd ≤ 1152 := by
    have h1 : w * tm ≤ 9 * 127 := by
      rcases Int.le_total 0 tm with h | h
      · exact Int.le_trans (Int.mul_le_mul_of_nonneg_right hwb h) (by omega)
      · have := Int.mul_nonpos_of_nonneg_of_nonpos (show 0 ≤ w by omega) h; omega
    have h2 : -(9 * 128) ≤ w * tm := by
      rcases Int.le_total 0 tm with h | h
      · have := Int.mul_nonneg (show 0 ≤ w by omega) h; omega
      · have := Int.mul_le_mul_of_nonpos_right hwb h; omega
    omega
  refine loop {j : Nat // j ≤ v.length} (fun j => mkS 143 [(7, .d (ints v)), (8, .d (.int .i64 w)), (9, .d (.int .i64 dd)), (10, .sl 10 1), (11, .d (.int .i64 ((v.length : Int) - 1 - j.1)))] [(10, .row 1 3 ((((v.reverse).take j.1).map (· + dd)).map (D.int .i64)), 1)]) (fun j => v.length - j.1) ⟨0, by omega⟩ ?_ fun j => ?_
  · refine And.intro rfl (And.intro (by rw [hw]) (And.intro (by rw [hw, hd]) (And.intro rfl (And.intro ?_ trivial))))
    rw [wrap_small (by simp only [List.length_map]; omega) (by simp only [List.length_map]; omega)]
    simp
  clear hw hd
  obtain ⟨j, hj⟩ := j
  conv => whnf
  refine br (fun h => ?_) (fun h => ?_)
  · have hlt : j < v.length := by simp at h; omega
    conv => whnf
    have hg : v.length - 1 - j < v.length := by omega
    have hge : v[v.length - 1 - j] = (v.reverse)[j]'(by simpa using hlt) := by simp
    refine ⟨⟨by simp only; omega, .int .i64 (v[v.length - 1 - j]), by rw [show ((v.length : Int) - 1 - (j : Int)).toNat = v.length - 1 - j by omega]; simp [hg], ?_⟩⟩
    have hbv := hb _ (List.getElem_mem hg)
    have ew : IntKind.i64.wrap (v[v.length - 1 - j] + dd) = v[v.length - 1 - j] + dd := wrap_small (by omega) (by omega)
    conv => whnf
    rw [ew]
    refine ⟨room_int _ _ (by simp; omega), ?_⟩
    rw [snoc_int]
    conv => whnf
    refine ⟨⟨j + 1, by omega⟩, ?_, by show v.length - (j + 1) < v.length - j; omega⟩
    refine And.intro rfl (And.intro rfl (And.intro rfl (And.intro ?_ (And.intro ?_ trivial))))
    · show Body.row _ _ _ = Body.row _ _ _
      rw [show ((v.reverse).take (j + 1)).map (· + dd) = ((v.reverse).take j).map (· + dd) ++ [v[v.length - 1 - j] + dd] from by rw [take_snoc v.reverse j (by simpa using hlt), List.map_append, hge]; rfl]
    · rw [wrap_small (by simp only; omega) (by simp only; omega)]
      simp only [Int.natCast_add]
      congr 1
      omega
  have hge : j = v.length := by simp at h; omega
  subst hge
  have hany : ∀ u : List Int, (∀ x ∈ u, -2000 ≤ x ∧ x ≤ 2000) → u.any lrg = false := by
    intro u hu
    rw [List.any_eq_false]
    intro x hx
    have := hu x hx
    simp [(lrg_iff x).2 (by omega)]
  have hu : (v.reverse.take v.length).map (· + dd) = (v.map (· + dd)).reverse := by
    rw [List.take_of_length_le (by simp), List.map_reverse]
  have e0 : errB v w = 0 := by unfold errB; rw [if_neg (by omega), if_neg (by rw [hany v fun x hx => by have := hb x hx; omega]; simp; omega)]
  obtain ⟨u, hu', hul, hub, hus⟩ : ∃ u, u = (v.map (· + dd)).reverse ∧ u.length = v.length ∧ (∀ x ∈ u, -2000 ≤ x ∧ x ≤ 2000) ∧ sortI u = (sortI v).map (· + dd) := by
    refine ⟨_, rfl, by simp, fun x hx => ?_, sortI_moved dd v⟩
    simp at hx
    obtain ⟨y, hy, rfl⟩ := hx
    have := hb y hy; omega
  have e1 : errB u w = 0 := by unfold errB; rw [if_neg (by omega), if_neg (by rw [hany u hub]; simp; omega)]
  have ebu : binsO u w = shiftB dd (binsO v w) := by
    simp only [binsO, e0, e1, if_true, hus]
    rw [hdd]; exact binsF_shift w tm _
  simp only [hu, ← hu']
  conv => whnf
  refine callA (plotBins hS v w (by omega)) ?_
  rw [e0]
  have hA : (binsO v w).length ≤ 60 ∧ ∀ p ∈ binsO v w, -2000 ≤ p.1 ∧ p.1 ≤ 2000 := by
    rw [show binsO v w = binsF w (sortI v) from by simp [binsO, e0]]
    refine ⟨Nat.le_trans (binsF_len w _).1 (by rw [length_sortI]; omega), fun p hp => ?_⟩
    obtain ⟨x, hx, e⟩ := (isBins (show 0 < w by omega) v).src p hp
    have := low_le w x (by omega)
    have := hb x hx
    omega
  generalize binsO v w = A at ebu hA
  conv => whnf
  refine callA (plotBins hS u w (by omega)) ?_
  rw [e1, ebu]
  have hB : (shiftB dd A).length = A.length := by simp [shiftB]
  have hBk : ∀ k (h : k < A.length), (shiftB dd A)[k]? = some (A[k].1 + dd, A[k].2) := by intro k h; simp [shiftB, h]
  generalize shiftB dd A = B at hB hBk
  conv => whnf
  refine br (fun h => by simp [hB] at h) (fun _ => ?_)
  conv => whnf
  refine loop {k : Nat // k ≤ A.length} (fun k => mkS 143 [(7, .d (ints v)), (9, .d (.int .i64 dd)), (10, .sl 10 1), (12, .d (bins A)), (14, .d (bins B)), (73, .d (.int .i64 A.length)), (74, .d (.int .i64 k.1))] [(10, .frow 1 (u.map (D.int .i64)), 1)]) (fun k => A.length - k.1) ⟨0, by omega⟩ ?_ fun k => ?_
  · exact And.intro rfl (And.intro rfl (And.intro (.inl rfl) (And.intro rfl (And.intro rfl (And.intro (by simp) (And.intro rfl trivial))))))
  obtain ⟨k, hk⟩ := k
  conv => whnf
  refine br (fun h => ?_) (fun h => ?_)
  · have hlt : k < A.length := by simp at h; omega
    have hbk := hA.2 _ (List.getElem_mem hlt)
    conv => whnf
    refine ⟨⟨by decide +kernel, by kernel_rfl⟩, ?_⟩
    conv => whnf
    refine ⟨⟨by simp only; omega, .agg [.int .i64 (A[k].1 + dd), .int .i64 A[k].2], by simp [hBk k hlt, encB], ?_⟩⟩
    conv => whnf
    refine ⟨⟨by simp only; omega, .agg [.int .i64 A[k].1, .int .i64 A[k].2], by simp [hlt, encB], ?_⟩⟩
    conv => whnf
    refine ⟨⟨by simp only; omega, .agg [.int .i64 A[k].1, .int .i64 A[k].2], by simp [hlt, encB], ?_⟩⟩
    conv => whnf
    refine ⟨⟨by kernel_rfl, by kernel_rfl⟩, ?_⟩
    conv => whnf
    refine ⟨by kernel_rfl, ?_⟩
    conv => whnf
    refine br (fun h => ?_) (fun _ => ?_)
    · rw [wrap_small (by omega) (by omega)] at h
      simp at h
    conv => whnf
    refine ⟨⟨k + 1, by omega⟩, ?_, by show A.length - (k + 1) < A.length - k; omega⟩
    exact And.intro rfl (And.intro rfl (And.intro (.inl rfl) (And.intro rfl (And.intro rfl (And.intro rfl (And.intro (by rw [next (by first | omega | (simp only; omega))]) trivial))))))
  conv => whnf
  refine callA (plotQuartiles hS v (by omega)) ?_
  have qv : errQ v = (if v.length = 0 then 18 else 0) := by unfold errQ; rw [if_neg (by omega), if_neg (by rw [hany v fun x hx => by have := hb x hx; omega]; simp)]
  have qu : errQ u = (if v.length = 0 then 18 else 0) := by unfold errQ; rw [if_neg (by omega), if_neg (by rw [hany u hub]; simp), hul]
  by_cases h0 : v.length = 0
  · rw [if_pos h0] at qv qu
    rw [show boxO v = box6 0 0 0 0 0 0 from by simp [boxO, qv], qv]
    conv => whnf
    refine callA (plotQuartiles hS u (by omega)) ?_
    rw [show boxO u = box6 0 0 0 0 0 0 from by simp [boxO, qu], qu]
    conv => whnf
    refine callA (awake hS) ?_
    conv => whnf
    exact ⟨by rfl⟩
  · rw [if_neg h0] at qv qu
    have hsl := length_sortI v
    have qb : ∀ i, i < v.length → -10 ≤ qAt (sortI v) i ∧ qAt (sortI v) i ≤ 39 := by
      intro i hi
      rw [qAt_get (by omega)]
      exact hb _ (mem_sortI.1 (List.getElem_mem _))
    have b0 := qb 0 (by omega)
    have b1 := qb ((v.length - 1) / 4) (by omega)
    have b2 := qb ((v.length - 1) / 2) (by omega)
    have b3 := qb (3 * (v.length - 1) / 4) (by omega)
    have b4 := qb (v.length - 1) (by omega)
    have ebu' : boxO u = box6 v.length (qAt (sortI v) 0 + dd) (qAt (sortI v) ((v.length - 1) / 4) + dd) (qAt (sortI v) ((v.length - 1) / 2) + dd) (qAt (sortI v) (3 * (v.length - 1) / 4) + dd) (qAt (sortI v) (v.length - 1) + dd) := by
      rw [show boxO u = boxS ((sortI v).map (· + dd)) from by simp [boxO, qu, hus], boxS, List.length_map, hsl, qAt_map dd (by omega), qAt_map dd (by omega), qAt_map dd (by omega), qAt_map dd (by omega), qAt_map dd (by omega)]
    rw [show boxO v = boxS (sortI v) from by simp [boxO, qv], qv, boxS, hsl]
    generalize qAt (sortI v) 0 = q0 at *
    generalize qAt (sortI v) ((v.length - 1) / 4) = q1 at *
    generalize qAt (sortI v) ((v.length - 1) / 2) = q2 at *
    generalize qAt (sortI v) (3 * (v.length - 1) / 4) = q3 at *
    generalize qAt (sortI v) (v.length - 1) = q4 at *
    conv => whnf
    refine callA (plotQuartiles hS u (by omega)) ?_
    rw [ebu', qu]
    conv => whnf
    refine ⟨⟨by kernel_rfl, by kernel_rfl⟩, ?_⟩
    conv => whnf
    refine ⟨by kernel_rfl, ?_⟩
    conv => whnf
    refine br (fun _ => ?_) (fun h => ?_)
    · conv => whnf
      refine callA (awake hS) ?_
      conv => whnf
      exact ⟨by rfl⟩
    · exfalso
      rw [wrap_small (n := q0 + dd) (by omega) (by omega), wrap_small (n := q1 + dd) (by omega) (by omega), wrap_small (n := q2 + dd) (by omega) (by omega), wrap_small (n := q3 + dd) (by omega) (by omega), wrap_small (n := q4 + dd) (by omega) (by omega)] at h
      simp at h
end Go.Proofs.Ytnkjhialkaomfaa.P
