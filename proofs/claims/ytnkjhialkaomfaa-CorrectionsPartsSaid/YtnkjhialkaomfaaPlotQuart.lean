/-
  plot.Quartiles, by the abstract machine; the sort's contract is taken as given.
-/
import Derived.Test.YtnkjhialkaomfaaPlotBins
namespace Go.Proofs.Ytnkjhialkaomfaa.P
open Go.Abs Go.Proofs
set_option maxRecDepth 10000

def box6 (a b c d e f : Int) : D := .agg [.int .i64 a, .int .i64 b, .int .i64 c, .int .i64 d, .int .i64 e, .int .i64 f]
def qAt (s : List Int) (i : Nat) : Int := s.getD i 0
def boxS (s : List Int) : D := box6 s.length (qAt s 0) (qAt s ((s.length - 1) / 4)) (qAt s ((s.length - 1) / 2)) (qAt s (3 * (s.length - 1) / 4)) (qAt s (s.length - 1))
def errQ (xs : List Int) : Int := if xs.length > 200 then 1 else if xs.any lrg = true then 2 else if xs.length = 0 then 18 else 0
def boxO (xs : List Int) : D := if errQ xs = 0 then boxS (sortI xs) else box6 0 0 0 0 0 0

theorem ix1 {n : Nat} (h : 0 < n) (h2 : n ≤ 1000000) : IntKind.i64.wrap ((n : Int) - 1) = ((n - 1 : Nat) : Int) := by
  rw [wrap_small (by omega) (by omega)]; omega
theorem ix4 {n : Nat} (h2 : n ≤ 1000000) : IntKind.i64.wrap (((n : Nat) : Int).tdiv 4) = ((n / 4 : Nat) : Int) := by
  rw [Int.tdiv_eq_ediv_of_nonneg (by omega), wrap_small (by omega) (by omega)]; rfl
theorem ix2 {n : Nat} (h2 : n ≤ 1000000) : IntKind.i64.wrap (((n : Nat) : Int).tdiv 2) = ((n / 2 : Nat) : Int) := by
  rw [Int.tdiv_eq_ediv_of_nonneg (by omega), wrap_small (by omega) (by omega)]; rfl
theorem ix34 {n : Nat} (h2 : n ≤ 1000000) : IntKind.i64.wrap ((IntKind.i64.wrap (3 * ((n : Nat) : Int))).tdiv 4) = ((3 * n / 4 : Nat) : Int) := by
  rw [wrap_small (n := 3 * (n : Int)) (by omega) (by omega), Int.tdiv_eq_ediv_of_nonneg (by omega), wrap_small (by omega) (by omega)]; omega
theorem row_get (s : List Int) (i : Nat) (h : i < s.length) : (s.map (D.int .i64))[(((((i : Nat) : Int)).toNat : Nat) : Int).toNat]? = some (D.int .i64 (qAt s i)) := by simp [h, qAt]

theorem plotQuartiles (hS : SortC) (xs : List Int) (hx : xs.length ≤ 1000000) : ACall Try.prog 14 [.d (ints xs)] (.tup [.d (boxO xs), .d (.int .i64 (errQ xs))]) := by
  refine acall Try.func14 (by kernel_rfl) ?_
  conv => whnf
  refine br (fun h => ?_) (fun h => ?_)
  · have hl : xs.length > 200 := by simp at h; omega
    have e : errQ xs = 1 := by simp [errQ, hl]
    conv => whnf
    exact ⟨by simp [boxO, e]; rfl⟩
  have hl : ¬ xs.length > 200 := by simp at h; omega
  conv => whnf
  refine callA (contains _ lrg xs hx fun x _ => large x) ?_
  conv => whnf
  refine br (fun ha => ?_) (fun ha => ?_)
  · have e : errQ xs = 2 := by simp [errQ, ha]; omega
    conv => whnf
    exact ⟨by simp [boxO, e]; rfl⟩
  conv => whnf
  refine br (fun h0 => ?_) (fun h0 => ?_)
  · have h0' : xs.length = 0 := by simpa using h0
    have e : errQ xs = 18 := by simp [errQ, ha, h0']
    conv => whnf
    exact ⟨by simp [boxO, e]; rfl⟩
  have h0' : 0 < xs.length := by
    rcases Nat.eq_zero_or_pos xs.length with h | h
    · simp [h] at h0
    · exact h
  have e : errQ xs = 0 := by unfold errQ; rw [if_neg hl, if_neg (by rw [ha]; simp), if_neg (by omega)]
  have hn : (sortI xs).length = xs.length := length_sortI xs
  rw [show boxO xs = boxS (sortI xs) from by simp [boxO, e], e]
  conv => whnf
  refine callA (clone xs hx) ?_
  conv => whnf
  refine callM (hS xs (by omega)) ?_
  generalize hm : (sortI xs) = s at hn
  conv => whnf
  refine ⟨⟨by decide +kernel, by kernel_rfl⟩, ?_⟩
  conv => whnf
  refine ⟨⟨by omega, by simp; omega⟩, ?_⟩
  conv => whnf
  refine ⟨⟨by omega, .int .i64 (qAt s 0), by simpa using row_get s 0 (by omega), ?_⟩⟩
  conv => whnf
  refine ⟨by omega, ?_⟩
  rw [show ((xs.map (D.int .i64)).length : Int) = (xs.length : Int) from by simp, ix1 h0' (by omega), ix4 (by omega)]
  conv => whnf
  refine ⟨⟨by omega, by simp; omega⟩, ?_⟩
  conv => whnf
  refine ⟨⟨by omega, _, row_get s _ (by omega), ?_⟩⟩
  conv => whnf
  refine ⟨by omega, ?_⟩
  rw [ix1 h0' (by omega), ix2 (by omega)]
  conv => whnf
  refine ⟨⟨by omega, by simp; omega⟩, ?_⟩
  conv => whnf
  refine ⟨⟨by omega, _, row_get s _ (by omega), ?_⟩⟩
  conv => whnf
  refine ⟨by omega, ?_⟩
  rw [ix1 h0' (by omega), ix34 (by omega)]
  conv => whnf
  refine ⟨⟨by omega, by simp; omega⟩, ?_⟩
  conv => whnf
  refine ⟨⟨by omega, _, row_get s _ (by omega), ?_⟩⟩
  conv => whnf
  rw [ix1 h0' (by omega)]
  refine ⟨⟨by omega, by simp; omega⟩, ?_⟩
  conv => whnf
  refine ⟨⟨by omega, _, row_get s _ (by omega), ?_⟩⟩
  conv => whnf
  exact ⟨by rw [boxS, hn]; rfl⟩
end Go.Proofs.Ytnkjhialkaomfaa.P
