/-
  What the laws of plot share: small numbers, the sanity check, comparisons.
-/
import Derived.Test.YtnkjhialkaomfaaPlotQuart
namespace Go.Proofs.Ytnkjhialkaomfaa.P
open Go.Abs Go.Proofs
set_option maxRecDepth 10000

def bytesD (l : List Int) : D := .list 1 (l.map (D.int .u8))
def val (x : Int) : Int := x % 50 - 10
def vals (l : List Int) : List Int := (l.take 60).map val
theorem val_bounds (x : Int) : -10 ≤ val x ∧ val x ≤ 39 := by unfold val; omega
theorem vals_len (l : List Int) : (vals l).length ≤ 60 := by simp [vals]; omega
theorem vals_bounds {l : List Int} : ∀ x ∈ vals l, -10 ≤ x ∧ x ≤ 39 := by
  intro x hx
  obtain ⟨y, _, rfl⟩ := List.mem_map.1 hx
  exact val_bounds y
theorem room_int (B : List Int) (y : D) (h : B.length ≤ 1000000) : (fun n : Nat => n + [y].length ≤ maxLen ∧ (n + [y].length) * bytesT Try.prog 3 ≤ 140737488355328 ∧ ([y] = [] ∨ 0 + 1 = sizeT Try.prog 3)) (B.map (D.int .i64)).length := by
  rw [bytes_int]
  simp only [List.length_map, List.length_cons, List.length_nil]
  exact ⟨by unfold maxLen; omega, by omega, .inr (by kernel_rfl)⟩
theorem snoc_int (B : List Int) (x : Int) : B.map (D.int .i64) ++ [D.int .i64 x] = (B ++ [x]).map (D.int .i64) := by simp

theorem values (l : List Int) (hl : ∀ x ∈ l, 0 ≤ x ∧ x ≤ 255) : ACall Try.prog 9 [.d (bytesD l)] (.d (ints (vals l))) := by
  refine acall Try.func9 (by kernel_rfl) ?_
  conv => whnf
  refine loop {k : Nat // k ≤ 60} (fun k => mkS 26 [(0, .d (bytesD l)), (3, .sl 3 1), (4, .d (.int .i64 k.1))] [(3, .row 1 3 (((l.take k.1).map val).map (D.int .i64)), 1)]) (fun k => 60 - k.1) ⟨0, by omega⟩ ?_ fun k => ?_
  · exact And.intro rfl (And.intro rfl (And.intro rfl trivial))
  · obtain ⟨k, hk⟩ := k
    conv => whnf
    refine br (fun h => ?_) (fun h => ?_)
    · have hlt : k < l.length ∧ k < 60 := by
        have : k < l.length := by
          by_cases h1 : k < l.length
          · exact h1
          · simp [h1] at h
        refine ⟨this, ?_⟩
        simp [this] at h
        omega
      have hb := hl l[k] (List.getElem_mem hlt.1)
      conv => whnf
      refine ⟨⟨by simp only; omega, .int .u8 l[k], by simp [hlt.1], ?_⟩⟩
      conv => whnf
      refine ⟨by omega, ?_⟩
      have hv : IntKind.i64.wrap ((IntKind.i64.wrap l[k]).tmod 50 - 10) = val l[k] := by
        rw [wrap_small (n := l[k]) (by omega) (by omega), Int.tmod_eq_emod_of_nonneg hb.1, wrap_small (by omega) (by omega)]; rfl
      conv => whnf
      rw [hv]
      refine ⟨room_int _ _ (by simp; omega), ?_⟩
      rw [snoc_int]
      conv => whnf
      refine ⟨⟨k + 1, by omega⟩, ?_, by show 60 - (k + 1) < 60 - k; omega⟩
      refine And.intro rfl (And.intro ?_ (And.intro (by rw [next (by first | omega | (simp only; omega))]) trivial))
      show Body.row _ _ _ = Body.row _ _ _
      rw [show List.map val (l.take (k + 1)) = List.map val (l.take k) ++ [val l[k]] from by rw [take_snoc l k hlt.1, List.map_append]; rfl, List.map_append]
    · have hge : l.take k = l.take 60 := by
        by_cases h1 : k < l.length
        · have : 60 ≤ k := by simp [h1] at h; omega
          rw [show k = 60 by omega]
        · rw [List.take_of_length_le (by omega), List.take_of_length_le (by omega)]
      conv => whnf
      refine ⟨.inl ?_⟩
      conv => whnf
      exact ⟨by simp only [hge]; rfl⟩

theorem same (a b : BL) (ha : a.length ≤ 1000000) : ACall Try.prog 13 [.d (bins a), .d (bins b)] (.d (.bool (decide (a = b)))) := by
  refine acall Try.func13 (by kernel_rfl) ?_
  conv => whnf
  refine br (fun h => ?_) (fun h => ?_)
  · conv => whnf
    refine ⟨?_⟩
    have hl : ¬ a = b := by rintro rfl; simp at h
    simp [hl]; rfl
  · have hl : a.length = b.length := by simp at h; omega
    conv => whnf
    refine loop {k : Nat // a.take k = b.take k} (fun k => mkS 26 [(0, .d (bins a)), (1, .d (bins b)), (5, .d (.int .i64 k.1))] []) (fun k => a.length - k.1) ⟨0, by simp⟩ ?_ fun k => ?_
    · exact And.intro rfl (And.intro rfl (And.intro rfl trivial))
    · obtain ⟨k, hk⟩ := k
      conv => whnf
      refine br (fun h => ?_) (fun h => ?_)
      · have hlt : k < a.length := by have := of_decide_eq_true h; simp only [List.length_map] at this; omega
        have hlt2 : k < b.length := by omega
        conv => whnf
        refine ⟨⟨by decide +kernel, by kernel_rfl⟩, ?_⟩
        conv => whnf
        refine ⟨⟨by simp only; omega, .agg [.int .i64 a[k].1, .int .i64 a[k].2], by simp [hlt, encB], ?_⟩⟩
        conv => whnf
        refine ⟨⟨by simp only; omega, .agg [.int .i64 b[k].1, .int .i64 b[k].2], by simp [hlt2, encB], ?_⟩⟩
        conv => whnf
        refine ⟨⟨by kernel_rfl, by kernel_rfl⟩, ?_⟩
        conv => whnf
        refine ⟨by kernel_rfl, ?_⟩
        conv => whnf
        refine br (fun hb => ?_) (fun hb => ?_)
        · conv => whnf
          refine ⟨?_⟩
          have hne : ¬ a = b := by rintro rfl; simp at hb
          simp [hne]; rfl
        · conv => whnf
          have he : a[k] = b[k] := by simp at hb; exact Prod.ext hb.1 hb.2
          refine ⟨⟨k + 1, by rw [take_snoc a k hlt, take_snoc b k hlt2, hk, he]⟩, ?_, by show a.length - (k + 1) < a.length - k; omega⟩
          exact And.intro rfl (And.intro rfl (And.intro (by rw [next (by first | omega | (simp only; omega))]) trivial))
      · conv => whnf
        refine ⟨?_⟩
        have hge : a.length ≤ k := by have := of_decide_eq_false h; simp only [List.length_map] at this; omega
        rw [List.take_of_length_le hge, List.take_of_length_le (by omega)] at hk
        simp [hk]; rfl

theorem has (xs : List Int) (n : Int) (hx : xs.length ≤ 1000000) : ACall Try.prog 16 [.d (ints xs), .d (.int .i64 n)] (.d (.bool (decide (n ∈ xs)))) := by
  refine acall Try.func16 (by kernel_rfl) ?_
  conv => whnf
  refine loop {k : Nat // ∀ j (hj : j < xs.length), j < k → xs[j] ≠ n} (fun k => mkS 18 [(0, .d (ints xs)), (1, .d (.int .i64 n)), (5, .d (.int .i64 k.1))] []) (fun k => xs.length - k.1) ⟨0, by simp⟩ ?_ fun k => ?_
  · exact And.intro rfl (And.intro rfl (And.intro rfl trivial))
  · obtain ⟨k, hk⟩ := k
    conv => whnf
    refine br (fun h => ?_) (fun h => ?_)
    · have hlt : k < xs.length := by simpa using h
      conv => whnf
      refine ⟨⟨by simp only; omega, _, ints_get xs k hlt, ?_⟩⟩
      conv => whnf
      refine br (fun hp => ?_) (fun hp => ?_)
      · have hp' : xs[k] = n := by simpa using hp
        conv => whnf
        refine ⟨?_⟩
        have : n ∈ xs := by rw [← hp']; exact List.getElem_mem hlt
        simp [this]; rfl
      · have hp' : xs[k] ≠ n := by simpa using hp
        conv => whnf
        refine ⟨⟨k + 1, fun j hj hjk => ?_⟩, ?_, by show xs.length - (k + 1) < xs.length - k; omega⟩
        · by_cases e : j = k
          · subst e; exact hp'
          · exact hk j hj (by omega)
        · exact And.intro rfl (And.intro rfl (And.intro (by rw [next (by first | omega | (simp only; omega))]) trivial))
    · have hge : xs.length ≤ k := by simpa using h
      conv => whnf
      refine ⟨?_⟩
      have : n ∉ xs := by
        intro hm
        obtain ⟨j, hj, hjn⟩ := List.getElem_of_mem hm
        exact hk j hj (by omega) hjn
      simp [this]; rfl

theorem sortI_eq {xs ys : List Int} (hp : xs.Perm ys) (hs : ys.Pairwise (· ≤ ·)) : sortI xs = ys := by
  refine List.Perm.eq_of_pairwise (le := (· ≤ ·)) (fun a b _ _ h1 h2 => Int.le_antisymm h1 h2) ?_ hs ((List.mergeSort_perm xs _).trans hp)
  have := List.pairwise_mergeSort (le := fun x y : Int => decide (x ≤ y)) (fun a b c h1 h2 => by simp at *; omega) (fun a b => by simp; omega) xs
  exact this.imp (by simp)

theorem awake (hS : SortC) : ACall Try.prog 8 [] (.d (.bool true)) := by
  refine acall Try.func8 (by kernel_rfl) ?_
  conv => whnf
  refine callA (plotBins hS [1, 4, 5, -1] 5 (by simp)) ?_
  rw [show errB [1, 4, 5, -1] 5 = 0 from by decide +kernel, show binsO [1, 4, 5, -1] 5 = [(-5, 1), (0, 2), (5, 1)] from by
    rw [binsO, show errB [1, 4, 5, -1] 5 = 0 from by decide +kernel, if_pos rfl, sortI_eq (ys := [-1, 1, 4, 5]) (by decide +kernel) (by decide +kernel)]
    decide +kernel]
  conv => whnf
  refine callA (plotQuartiles hS [5, 1, 9, 3, 7] (by simp)) ?_
  rw [show errQ [5, 1, 9, 3, 7] = 0 from by decide +kernel, show boxO [5, 1, 9, 3, 7] = box6 5 1 3 5 7 9 from by
    rw [boxO, show errQ [5, 1, 9, 3, 7] = 0 from by decide +kernel, if_pos rfl, sortI_eq (ys := [1, 3, 5, 7, 9]) (by decide +kernel) (by decide +kernel)]
    rfl]
  conv => whnf
  refine callA (same [(-5, 1), (0, 2), (5, 1)] [(-5, 1), (0, 2), (5, 1)] (by simp)) ?_
  conv => whnf
  refine ⟨⟨by kernel_rfl, by kernel_rfl⟩, ?_⟩
  conv => whnf
  refine ⟨by kernel_rfl, ?_⟩
  conv => whnf
  exact ⟨by rfl⟩
end Go.Proofs.Ytnkjhialkaomfaa.P
