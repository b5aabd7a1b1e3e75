/-
  The reference's Bins, by the abstract machine.
-/
import Derived.Test.YtnkjhialkaomfaaPlotRef
namespace Go.Proofs.Ytnkjhialkaomfaa.P
open Go.Abs Go.Proofs
set_option maxRecDepth 100000
set_option maxHeartbeats 4000000

def lowsF (w : Int) (l : List Int) : List Int := l.foldl (fun a v => putI a (low w v)) []
theorem lowsF_snoc (w : Int) (l : List Int) (x : Int) : lowsF w (l ++ [x]) = putI (lowsF w l) (low w x) := by simp [lowsF]
theorem lowsF_spec (w : Int) : ∀ (k : Nat) (l : List Int), l.length = k → (lowsF w l).Pairwise (· < ·) ∧ (∀ z, z ∈ lowsF w l ↔ ∃ x ∈ l, low w x = z) ∧ (lowsF w l).length ≤ l.length := by
  intro k
  induction k with
  | zero => intro l h; have := List.eq_nil_of_length_eq_zero h; subst this; simp [lowsF]
  | succ k ih =>
    intro s h
    have hne : s ≠ [] := by intro e; subst e; simp at h
    obtain ⟨ys, y, rfl⟩ : ∃ ys y, s = ys ++ [y] := ⟨s.dropLast, s.getLast hne, (List.dropLast_concat_getLast hne).symm⟩
    obtain ⟨h1, h2, h3⟩ := ih ys (by simp at h; exact h)
    rw [lowsF_snoc]
    obtain ⟨p1, p2, p3⟩ := putI_spec (lowsF w ys) (low w y) h1
    refine ⟨p1, fun z => ?_, by simp; omega⟩
    rw [p2, h2]
    constructor
    · rintro (⟨x, hx, e⟩ | e)
      · exact ⟨x, by simp [hx], e⟩
      · exact ⟨y, by simp, e.symm⟩
    · rintro ⟨x, hx, e⟩
      rw [List.mem_append] at hx
      rcases hx with hx | hx
      · exact .inl ⟨x, hx, e⟩
      · simp at hx; subst hx; exact .inr e.symm
theorem isBins_lows {w : Int} (xs : List Int) : IsBins w xs ((lowsF w xs).map fun m => (m, cntB w m xs)) := by
  obtain ⟨h1, h2, _⟩ := lowsF_spec w _ xs rfl
  refine ⟨by rw [List.map_map, show (Prod.fst ∘ fun m => (m, cntB w m xs)) = id from rfl, List.map_id]; exact h1, fun p hp => ?_, fun p hp => ?_, fun x hx => ?_⟩
  · obtain ⟨m, _, rfl⟩ := List.mem_map.1 hp; rfl
  · obtain ⟨m, hm, rfl⟩ := List.mem_map.1 hp; exact (h2 m).1 hm
  · exact ⟨_, List.mem_map.2 ⟨low w x, (h2 _).2 ⟨x, hx, rfl⟩, rfl⟩⟩
theorem cntB_take (w m : Int) (xs : List Int) (k : Nat) (h : k < xs.length) : cntB w m (xs.take (k + 1)) = cntB w m (xs.take k) + if low w xs[k] = m then 1 else 0 := by
  rw [take_snoc xs k h, cntB_snoc]
theorem cntB_bound (w m : Int) (xs : List Int) (k : Nat) : 0 ≤ cntB w m (xs.take k) ∧ cntB w m (xs.take k) ≤ k := by
  unfold cntB
  have : (xs.take k).countP (fun x => decide (low w x = m)) ≤ k := Nat.le_trans List.countP_le_length (by simp; omega)
  omega

theorem refBins (xs : List Int) (w : Int) (hx : xs.length ≤ 1000000) : ACall Try.prog 12 [.d (ints xs), .d (.int .i64 w)] (.tup [.d (bins (binsO xs w)), .d (.int .i64 (errB xs w))]) := by
  refine acall Try.func12 (by kernel_rfl) ?_
  conv => whnf
  refine callA (check xs w hx) ?_
  by_cases e : errB xs w = 0
  case neg =>
    rw [show binsO xs w = [] from by simp [binsO, e]]
    generalize errB xs w = er at e
    conv => whnf
    refine br (fun h => ?_) (fun h => ?_)
    · conv => whnf
      refine ⟨.inl ?_⟩
      conv => whnf
      exact ⟨by rfl⟩
    · simp at h; exact absurd h e
  have hl : xs.length ≤ 200 := by
    unfold errB at e
    split at e
    · simp at e
    · omega
  have hw : 1 ≤ w ∧ w ≤ 1000000 ∧ ∀ x ∈ xs, -1000000 ≤ x ∧ x ≤ 1000000 := by
    unfold errB at e
    rw [if_neg (by omega)] at e
    split at e
    · simp at e
    · rename_i h
      simp only [not_or] at h
      refine ⟨by omega, by omega, fun x hx => ?_⟩
      have h3 : xs.any lrg = false := by simpa using h.2.2
      rw [List.any_eq_false] at h3
      exact (lrg_iff x).1 (by simpa using h3 x hx)
  have hfin : binsO xs w = (lowsF w xs).map fun m => (m, cntB w m xs) := by
    rw [show binsO xs w = binsF w (sortI xs) from by simp [binsO, e]]
    exact (isBins (by omega) xs).unique (isBins_lows xs)
  rw [hfin, e]
  conv => whnf
  refine loopD [7] Nat (fun k => mkS 79 [(0, .d (ints xs)), (1, .d (.int .i64 w)), (7, .d (ints (lowsF w (xs.take k)))), (8, .d (.int .i64 k))] []) (fun k => xs.length - k) 0 ?_ fun k => ?_
  · exact And.intro rfl (And.intro rfl (And.intro rfl (And.intro rfl trivial)))
  conv => whnf
  refine br (fun h => ?_) (fun h => ?_)
  · have hlt : k < xs.length := by simpa using h
    have hb := hw.2.2 _ (List.getElem_mem hlt)
    obtain ⟨q, hq, hqw⟩ := floor xs[k] w (by omega) hw.2.1 hb.1 hb.2
    have hlo := low_le w xs[k] (by omega)
    have hn : lowsF w (xs.take (k + 1)) = putI (lowsF w (xs.take k)) (low w xs[k]) := by rw [take_snoc xs k hlt, lowsF_snoc]
    have hll := (lowsF_spec w _ (xs.take k) rfl).2.2
    have ht : (xs.take k).length = k := by simp; omega
    generalize lowsF w (xs.take k) = L at hn hll
    conv => whnf
    refine ⟨⟨by omega, _, ints_get xs k hlt, ?_⟩⟩
    conv => whnf
    refine callA hq ?_
    conv => whnf
    rw [show IntKind.i64.wrap (q * w) = low w xs[k] from by rw [hqw]; exact wrap_small (by omega) (by omega)]
    refine callA (put L (low w xs[k]) (by omega)) ?_
    conv => whnf
    refine ⟨k + 1, ?_, by show xs.length - (k + 1) < xs.length - k; omega⟩
    exact And.intro rfl (And.intro rfl (And.intro (by rw [hn]) (And.intro (by rw [next (by omega)]) trivial)))
  have hge : xs.length ≤ k := by simpa using h
  rw [List.take_of_length_le hge]
  obtain ⟨_, hm, hLl⟩ := lowsF_spec w _ xs rfl
  generalize lowsF w xs = L at hm hLl
  conv => whnf
  refine loop Nat (fun k => mkS 79 [(0, .d (ints xs)), (1, .d (.int .i64 w)), (7, .d (ints L)), (9, .sl 9 1), (10, .d (.int .i64 k))] [(9, .row 2 39 (((L.take k).map fun m => (m, cntB w m xs)).map encB), 1)]) (fun k => L.length - k) 0 ?_ fun k => ?_
  · exact And.intro rfl (And.intro rfl (And.intro rfl (And.intro rfl (And.intro rfl trivial))))
  conv => whnf
  refine br (fun h => ?_) (fun h => ?_)
  · have hlt : k < L.length := by simpa using h
    obtain ⟨x0, hx0, e0⟩ := (hm L[k]).1 (List.getElem_mem hlt)
    have hdv : w ∣ L[k] := by rw [← e0]; exact low_dvd w x0
    have hlb := low_le w x0 (by omega)
    have hxb := hw.2.2 x0 hx0
    have htk : ((L.take (k + 1)).map fun m => (m, cntB w m xs)) = ((L.take k).map fun m => (m, cntB w m xs)) ++ [(L[k], cntB w L[k] xs)] := by rw [take_snoc L k hlt, List.map_append]; rfl
    have hml : ((L.take k).map fun m => (m, cntB w m xs)).length ≤ 1000000 := by simp; omega
    generalize ((L.take k).map fun m => (m, cntB w m xs)) = B at htk hml
    conv => whnf
    refine ⟨⟨by omega, _, ints_get L k hlt, ?_⟩⟩
    generalize L[k] = m at *
    conv => whnf
    refine loop {i : Nat // i ≤ xs.length} (fun i => mkS 79 [(0, .d (ints xs)), (1, .d (.int .i64 w)), (7, .d (ints L)), (9, .sl 9 1), (10, .d (.int .i64 k)), (11, .ptr 11 1 0), (12, .d (.int .i64 i.1))] [(9, .row 2 39 (B.map encB), 1), (11, .var [.d (.int .i64 m), .d (.int .i64 (cntB w m (xs.take i.1)))], 1)]) (fun i => xs.length - i.1) ⟨0, by omega⟩ ?_ fun i => ?_
    · exact And.intro rfl (And.intro rfl (And.intro rfl (And.intro rfl (And.intro rfl (And.intro rfl (And.intro rfl (And.intro rfl (And.intro rfl trivial))))))))
    obtain ⟨i, hi⟩ := i
    have hcb := cntB_bound w m xs i
    conv => whnf
    refine br (fun h => ?_) (fun h => ?_)
    · have hlt2 : i < xs.length := by simp at h; omega
      have hxi := hw.2.2 _ (List.getElem_mem hlt2)
      have hcn := cntB_take w m xs i hlt2
      have hu := low_unique (x := xs[i]) (show 0 < w by omega) hdv
      conv => whnf
      refine ⟨⟨by decide +kernel, by kernel_rfl⟩, ?_⟩
      conv => whnf
      refine ⟨⟨by simp only; omega, _, ints_get xs i hlt2, ?_⟩⟩
      conv => whnf
      refine br (fun h1 => ?_) (fun h1 => ?_)
      · have h1' : m ≤ xs[i] := by simpa using h1
        conv => whnf
        refine ⟨⟨by simp only; omega, _, ints_get xs i hlt2, ?_⟩⟩
        conv => whnf
        refine br (fun h2 => ?_) (fun h2 => ?_)
        · rw [wrap_small (by omega) (by omega)] at h2
          have h2' : xs[i] < m + w := by simpa using h2
          rw [if_pos (hu.2 ⟨h1', h2'⟩)] at hcn
          conv => whnf
          refine ⟨⟨i + 1, by omega⟩, ?_, by show xs.length - (i + 1) < xs.length - i; omega⟩
          exact And.intro rfl (And.intro rfl (And.intro rfl (And.intro rfl (And.intro rfl (And.intro rfl (And.intro rfl (And.intro (by rw [hcn, wrap_small (by simp only; omega) (by simp only; omega)]) (And.intro (by rw [next (by first | omega | (simp only; omega))]) trivial))))))))
        · rw [wrap_small (by omega) (by omega)] at h2
          have h2' : ¬ xs[i] < m + w := by simpa using h2
          rw [if_neg (fun h => h2' (hu.1 h).2), Int.add_zero] at hcn
          conv => whnf
          refine ⟨⟨i + 1, by omega⟩, ?_, by show xs.length - (i + 1) < xs.length - i; omega⟩
          exact And.intro rfl (And.intro rfl (And.intro rfl (And.intro rfl (And.intro rfl (And.intro rfl (And.intro rfl (And.intro (by rw [hcn]) (And.intro (by rw [next (by first | omega | (simp only; omega))]) trivial))))))))
      · have h1' : ¬ m ≤ xs[i] := by simpa using h1
        rw [if_neg (fun h => h1' (hu.1 h).1), Int.add_zero] at hcn
        conv => whnf
        refine ⟨⟨i + 1, by omega⟩, ?_, by show xs.length - (i + 1) < xs.length - i; omega⟩
        exact And.intro rfl (And.intro rfl (And.intro rfl (And.intro rfl (And.intro rfl (And.intro rfl (And.intro rfl (And.intro (by rw [hcn]) (And.intro (by rw [next (by first | omega | (simp only; omega))]) trivial))))))))
    · have hge2 : xs.length ≤ i := by simp at h; omega
      conv => whnf
      refine ⟨room_bin B _ (by omega), ?_⟩
      conv => whnf
      refine ⟨k + 1, ?_, by show L.length - (k + 1) < L.length - k; omega⟩
      refine And.intro rfl (And.intro rfl (And.intro rfl (And.intro ?_ (And.intro (by rw [next (by omega)]) trivial))))
      show Body.row _ _ _ = Body.row _ _ _
      rw [htk, List.map_append, List.take_of_length_le hge2]
      rfl
  · have hge2 : L.length ≤ k := by simpa using h
    conv => whnf
    refine ⟨.inl ?_⟩
    conv => whnf
    exact ⟨by rw [List.take_of_length_le hge2]; rfl⟩
end Go.Proofs.Ytnkjhialkaomfaa.P
