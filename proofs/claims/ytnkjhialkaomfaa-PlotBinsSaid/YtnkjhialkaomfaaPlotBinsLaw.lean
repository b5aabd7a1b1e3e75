/-
  The law PlotBins, by the abstract machine.
-/
import Derived.Test.YtnkjhialkaomfaaPlotRefBins
import Derived.Test.YtnkjhialkaomfaaPlotRefQuart
namespace Go.Proofs.Ytnkjhialkaomfaa.P
open Go.Abs Go.Proofs
set_option maxRecDepth 100000
set_option maxHeartbeats 4000000

theorem valuesOwn (l : List Int) (hl : ∀ x ∈ l, 0 ≤ x ∧ x ≤ 255) : ACall Try.prog 9 [.d (bytesD l)] (.own 1 3 ((vals l).map (D.int .i64))) := by
  refine acall Try.func9 (by kernel_rfl) ?_
  conv => whnf
  refine loop {k : Nat // k ≤ 60} (fun k => mkS 26 [(0, .d (bytesD l)), (3, .sl 3 1), (4, .d (.int .i64 k.1))] [(3, .row 1 3 (((l.take k.1).map val).map (D.int .i64)), 1)]) (fun k => 60 - k.1) ⟨0, by omega⟩ ?_ fun k => ?_
  · exact And.intro rfl (And.intro rfl (And.intro rfl trivial))
  · obtain ⟨k, hk⟩ := k
    conv => whnf
    refine br (fun h => ?_) (fun h => ?_)
    · have hlt : k < l.length ∧ k < 60 := by
        have : k < l.length := by
          by_cases h1 : k < l.length
          · exact h1
          · simp [h1] at h
        refine ⟨this, ?_⟩
        simp [this] at h
        omega
      have hb := hl l[k] (List.getElem_mem hlt.1)
      conv => whnf
      refine ⟨⟨by simp only; omega, .int .u8 l[k], by simp [hlt.1], ?_⟩⟩
      conv => whnf
      refine ⟨by omega, ?_⟩
      have hv : IntKind.i64.wrap ((IntKind.i64.wrap l[k]).tmod 50 - 10) = val l[k] := by
        rw [wrap_small (n := l[k]) (by omega) (by omega), Int.tmod_eq_emod_of_nonneg hb.1, wrap_small (by omega) (by omega)]; rfl
      conv => whnf
      rw [hv]
      refine ⟨room_int _ _ (by simp; omega), ?_⟩
      rw [snoc_int]
      conv => whnf
      refine ⟨⟨k + 1, by omega⟩, ?_, by show 60 - (k + 1) < 60 - k; omega⟩
      refine And.intro rfl (And.intro ?_ (And.intro (by rw [next (by first | omega | (simp only; omega))]) trivial))
      show Body.row _ _ _ = Body.row _ _ _
      rw [show List.map val (l.take (k + 1)) = List.map val (l.take k) ++ [val l[k]] from by rw [take_snoc l k hlt.1, List.map_append]; rfl, List.map_append]
    · have hge : l.take k = l.take 60 := by
        by_cases h1 : k < l.length
        · have : 60 ≤ k := by simp [h1] at h; omega
          rw [show k = 60 by omega]
        · rw [List.take_of_length_le (by omega), List.take_of_length_le (by omega)]
      conv => whnf
      refine ⟨.inr ?_⟩
      conv => whnf
      refine ⟨bare_ints _, ?_⟩
      conv => whnf
      exact ⟨by simp only [hge]; rfl⟩

theorem boxO_six (xs : List Int) : ∃ a b c d e f, boxO xs = box6 a b c d e f := by
  unfold boxO
  split
  · exact ⟨_, _, _, _, _, _, rfl⟩
  · exact ⟨_, _, _, _, _, _, rfl⟩
theorem binsO_len (xs : List Int) (w : Int) (h : xs.length ≤ 1000) : (binsO xs w).length ≤ 1000000 := by
  unfold binsO
  split
  · exact Nat.le_trans (binsF_len w _).1 (by rw [length_sortI]; omega)
  · simp

theorem binsLaw (hS : SortC) (l raw : List Int) (wd : Int) (hl : ∀ x ∈ l, 0 ≤ x ∧ x ≤ 255) :
    ACall Try.prog 3 [.d (bytesD l), .d (ints raw), .d (.int .i64 wd)] (.d (.bool true)) := by
  refine acall Try.func3 (by kernel_rfl) ?_
  conv => whnf
  refine br (fun h => ?_) (fun h => ?_)
  · conv => whnf
    refine callA (awake hS) ?_
    conv => whnf
    exact ⟨by rfl⟩
  have hr : raw.length ≤ 210 := by simp at h; omega
  conv => whnf
  refine callA (valuesOwn l hl) ?_
  have hn := vals_len l
  conv => whnf
  refine callA (valuesOwn l hl) ?_
  generalize vals l = v at hn
  conv => whnf
  refine ⟨room_any _ _ (by simp; omega), ?_⟩
  obtain ⟨X, hX, hXl, hXb⟩ : ∃ X : List (List Int), X = [v, raw, v ++ raw] ∧ X.length = 3 ∧ ∀ x ∈ X, x.length ≤ 1000 := by
    refine ⟨_, rfl, rfl, fun x hx => ?_⟩
    simp at hx
    rcases hx with rfl | rfl | rfl
    · omega
    · omega
    · simp; omega
  conv => whnf
  refine loop {k : Nat // k ≤ 3} (fun k => mkS 87 [(2, .d (.int .i64 wd)), (30, .sl 30 1), (31, .d (.int .i64 3)), (32, .d (.int .i64 k.1))] [(30, .row 1 23 (X.map ints), 1)]) (fun k => 3 - k.1) ⟨0, by omega⟩ ?_ fun k => ?_
  · subst hX
    exact And.intro rfl (And.intro (by simp [ints]) (And.intro rfl (And.intro rfl trivial)))
  obtain ⟨k, hk⟩ := k
  conv => whnf
  refine br (fun h => ?_) (fun h => ?_)
  · have hlt : k < 3 := by simp at h; omega
    have hkX : k < X.length := by omega
    conv => whnf
    refine ⟨⟨by simp only; omega, by simp [hXl]; omega⟩, ?_⟩
    conv => whnf
    refine ⟨⟨by omega, ints X[k], by simp [hkX], ?_⟩⟩
    have hxb := hXb _ (List.getElem_mem hkX)
    generalize X[k] = x at hxb
    conv => whnf
    refine callA (mod14 wd) ?_
    obtain ⟨Wl, hW, hWl⟩ : ∃ Wl : List Int, Wl = [wd, wd % 14, 1000000] ∧ Wl.length = 3 := ⟨_, rfl, rfl⟩
    generalize wd % 14 = wm at hW
    conv => whnf
    refine loop {j : Nat // j ≤ 3} (fun j => mkS 87 [(2, .d (.int .i64 wd)), (8, .d (ints x)), (30, .sl 30 1), (31, .d (.int .i64 3)), (32, .d (.int .i64 k)), (39, .sl 39 1), (40, .d (.int .i64 3)), (41, .d (.int .i64 j.1))] [(30, .row 1 23 (X.map ints), 1), (39, .row 1 3 (Wl.map (D.int .i64)), 1)]) (fun j => 3 - j.1) ⟨0, by omega⟩ ?_ fun j => ?_
    · subst hW
      exact And.intro rfl (And.intro rfl (And.intro rfl (And.intro rfl (And.intro rfl (And.intro rfl (And.intro rfl (And.intro rfl trivial)))))))
    obtain ⟨j, hj⟩ := j
    conv => whnf
    refine br (fun h => ?_) (fun h => ?_)
    · have hlj : j < 3 := by simp at h; omega
      have hjW : j < Wl.length := by omega
      conv => whnf
      refine ⟨⟨by simp only; omega, by simp [hWl]; omega⟩, ?_⟩
      conv => whnf
      refine ⟨⟨by omega, .int .i64 Wl[j], by simp [hjW], ?_⟩⟩
      generalize Wl[j] = w
      obtain ⟨A, er, hA, c1, c2⟩ : ∃ A er, A.length ≤ 1000000 ∧ ACall Try.prog 11 [.d (ints x), .d (.int .i64 w)] (.tup [.d (bins A), .d (.int .i64 er)]) ∧ ACall Try.prog 12 [.d (ints x), .d (.int .i64 w)] (.tup [.d (bins A), .d (.int .i64 er)]) :=
        ⟨_, _, binsO_len x w hxb, plotBins hS x w (by omega), refBins x w (by omega)⟩
      conv => whnf
      refine callA c1 ?_
      conv => whnf
      refine callA c2 ?_
      conv => whnf
      refine br (fun h => by simp at h) (fun _ => ?_)
      conv => whnf
      refine callA (same A A hA) ?_
      conv => whnf
      refine br (fun h => by simp at h) (fun _ => ?_)
      conv => whnf
      refine ⟨⟨j + 1, by omega⟩, ?_, by show 3 - (j + 1) < 3 - j; omega⟩
      exact And.intro rfl (And.intro rfl (And.intro rfl (And.intro rfl (And.intro rfl (And.intro rfl (And.intro rfl (And.intro (by rw [next (by first | omega | (simp only; omega))]) trivial)))))))
    · obtain ⟨a, b, c, d, e, f, hb6⟩ := boxO_six x
      obtain ⟨er, c1, c2⟩ : ∃ er, ACall Try.prog 14 [.d (ints x)] (.tup [.d (box6 a b c d e f), .d (.int .i64 er)]) ∧ ACall Try.prog 15 [.d (ints x)] (.tup [.d (box6 a b c d e f), .d (.int .i64 er)]) :=
        ⟨_, by rw [← hb6]; exact plotQuartiles hS x (by omega), by rw [← hb6]; exact refQuartiles x (by omega)⟩
      conv => whnf
      refine callA c1 ?_
      conv => whnf
      refine callA c2 ?_
      conv => whnf
      refine ⟨⟨by kernel_rfl, by kernel_rfl⟩, ?_⟩
      conv => whnf
      refine ⟨by kernel_rfl, ?_⟩
      conv => whnf
      refine br (fun h => by simp at h) (fun _ => ?_)
      conv => whnf
      refine ⟨⟨k + 1, by omega⟩, ?_, by show 3 - (k + 1) < 3 - k; omega⟩
      exact And.intro rfl (And.intro rfl (And.intro rfl (And.intro (by rw [next (by first | omega | (simp only; omega))]) trivial)))
  · conv => whnf
    refine callA (awake hS) ?_
    conv => whnf
    exact ⟨by rfl⟩
end Go.Proofs.Ytnkjhialkaomfaa.P
