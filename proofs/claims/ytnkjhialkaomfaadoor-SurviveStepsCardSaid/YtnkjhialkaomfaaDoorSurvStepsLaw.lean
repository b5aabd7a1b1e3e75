/-
  SurviveSteps: the law's walk.
-/
import Derived.Test.YtnkjhialkaomfaaDoorRef20b
namespace Go.Proofs.YtnkjhialkaomfaaDoor.P
open Go.Abs Go.Proofs
set_option maxRecDepth 10000

theorem stepsG_ex (ts : List Int) (evs : List Bool) : ∃ R, stepsG ts evs R ∧ R.1.length ≤ 1000000 := by
  by_cases c1 : ts.length = evs.length
  · by_cases c2 : ts.length ≤ 200
    · cases c3 : ts.any lrgT with
      | true => exact ⟨([], 2), ⟨fun h => absurd c1 h, fun _ h => by omega, fun _ _ _ => rfl, fun ps _ _ _ h => (by rw [c3] at h; cases h)⟩, by simp⟩
      | false =>
        obtain ⟨ps, rfl, rfl⟩ := zip_ex ts evs c1
        refine ⟨stepsF ps, ⟨fun h => absurd c1 h, fun _ h => by omega, fun _ _ h => (by rw [c3] at h; cases h), fun qs h1 h2 _ _ => ?_⟩, ?_⟩
        · have : qs = ps := by
            have e1 : ∀ qs ps : PS, tm qs = tm ps → es qs = es ps → qs = ps := by
              intro qs
              induction qs with
              | nil => intro ps h _; cases ps with | nil => rfl | cons p r => cases h
              | cons q r ih =>
                intro ps h h'
                cases ps with
                | nil => cases h
                | cons p l =>
                  obtain ⟨a, b⟩ := q
                  obtain ⟨c, d⟩ := p
                  simp only [tm, es, List.map_cons, List.cons.injEq] at h h'
                  rw [ih l h.2 h'.2, h.1, h'.1]
            exact e1 qs ps h1 h2
          rw [this]
        · have := (stepsF_bd ps).2
          have : ps.length ≤ 200 := by simpa [tm] using c2
          omega
    · exact ⟨([], 1), ⟨fun h => absurd c1 h, fun _ _ => rfl, fun _ h => absurd h c2, fun _ _ _ h => absurd h c2⟩, by simp⟩
  · refine ⟨([], 17), ⟨fun _ => rfl, fun h => absurd h c1, fun h => absurd h c1, fun ps h1 h2 => ?_⟩, by simp⟩
    subst h1; subst h2
    exact absurd (by simp [tm, es]) c1

def encL (l : List Int) : D := ints l
def encB (l : List Bool) : D := bl l

set_option maxHeartbeats 4000000 in
theorem stepsLaw (hS : SortC) (hC : CompactC) (codes raw : List Int) (evs : List Bool) (time : Int) (l : List St) (hc : ∀ x ∈ codes, 0 ≤ x ∧ x ≤ 255) :
    ACall Tryd.prog 6 [.d (bytesD codes), .d (ints raw), .d (bl evs), .d (.int .i64 time), .d (sts l)] (.d (.bool true)) := by
  refine acall Tryd.func6 (by kernel_rfl) ?_
  conv => whnf
  refine br (fun h => ?_) (fun h => ?_)
  · conv => whnf
    refine callA (awake20 hS hC) ?_
    conv => whnf
    exact ⟨rfl⟩
  have hlens : raw.length ≤ 210 ∧ evs.length ≤ 210 ∧ l.length ≤ 30 := by
    by_cases a : ((raw.length : Nat) : Int) > 210
    · simp [a] at h
    · by_cases b : ((evs.length : Nat) : Int) > 210
      · simp [a, b] at h
      · simp [a, b] at h; exact ⟨by omega, by omega, by omega⟩
  obtain ⟨hl1, hl2, hl3⟩ := hlens
  conv => whnf
  refine callA (timesL codes 40 hc (by omega)) ?_
  have hl4 := pers_len codes 40
  have ht : (tm (pers codes 40)).length ≤ 40 := by simpa [tm] using hl4
  have he : (es (pers codes 40)).length ≤ 40 := by simpa [es] using hl4
  generalize tm (pers codes 40) = ts at ht
  generalize es (pers codes 40) = ee at he
  conv => whnf
  refine ⟨⟨[(5, 1), (6, 1)], ?_⟩⟩
  conv => whnf
  refine ⟨by refine ⟨by omega, ?_, ?_⟩ <;> simp only [List.length_map] <;> split <;> omega, ?_⟩
  have hmore : cut (evs.map D.bool) 0 (if ((((raw.map (D.int .i64)).length : Nat) : Int)) < ((((evs.map D.bool).length : Nat)) : Int) then ((((raw.map (D.int .i64)).length : Nat)) : Int) else ((((evs.map D.bool).length : Nat)) : Int)) = (evs.take raw.length).map D.bool := by
    unfold cut
    simp only [List.length_map, Int.toNat_zero, List.drop_zero, Nat.sub_zero, ← List.map_take]
    congr 1
    split
    · simp
    · rw [Int.toNat_natCast, List.take_length, List.take_of_length_le (by omega)]
  rw [hmore]
  have hml : (evs.take raw.length).length ≤ raw.length := by simp; omega
  generalize evs.take raw.length = more at hml
  conv => whnf
  refine ⟨⟨by decide +kernel, by kernel_rfl⟩, ?_⟩
  have hmm := hml
  conv => whnf
  refine ⟨by refine ⟨by omega, ?_, ?_⟩ <;> simp only [List.length_map] <;> omega, ?_⟩
  rw [show cut (raw.map (D.int .i64)) 0 (((more.map D.bool).length : Nat) : Int) = (raw.take more.length).map (D.int .i64) from by simp [cut]]
  conv => whnf
  refine ⟨by simp only [List.length_map, List.length_append]; exact ⟨by unfold maxLen; omega, by rw [bytes_int]; omega, .inr (by kernel_rfl)⟩, ?_⟩
  conv => whnf
  refine ⟨by simp only [List.length_map, List.length_append]; exact ⟨by unfold maxLen; omega, by rw [bytes_int]; omega, .inr (by kernel_rfl)⟩, ?_⟩
  rw [show List.map (D.int .i64) ts ++ List.map (D.int .i64) raw = List.map (D.int .i64) (ts ++ raw) from by simp]
  obtain ⟨X, hX, hXl, hXb⟩ : ∃ X : List (List Int), X = [ts, raw, raw.take more.length, ts ++ raw] ∧ X.length = 4 ∧ ∀ x ∈ X, x.length ≤ 1000 := by
    refine ⟨_, rfl, rfl, fun x hx => ?_⟩
    simp at hx
    rcases hx with rfl | rfl | rfl | rfl
    · omega
    · omega
    · simp; omega
    · simp; omega
  obtain ⟨Y, hY, hYl⟩ : ∃ Y : List (List Bool), Y = [ee, evs, more] ∧ Y.length = 3 := ⟨_, rfl, rfl⟩
  conv => whnf
  refine loop {k : Nat // k ≤ 4} (fun k => mkS 136 [(1, .d (ints raw)), (2, .d (bl evs)), (3, .d (.int .i64 time)), (4, .d (sts l)), (11, .d (ints ts)), (12, .d (bl ee)), (13, .d (bl more)), (61, .sl 61 1), (62, .d (.int .i64 4)), (63, .d (.int .i64 k.1))] [(61, .row 1 23 (X.map ints), 1)]) (fun k => 4 - k.1) ⟨0, by omega⟩ ?_ fun k => ?_
  · subst hX
    refine leF ?_
    conv => whnf
    repeat (first | exact trivial | refine And.intro (by first | with_reducible rfl | (rw [next (by first | omega | (simp only; omega))]) | rfl) ?_)
  clear hX hY
  obtain ⟨k, hk⟩ := k
  conv => whnf
  refine br (fun h => ?_) (fun h => ?_)
  · have hlt : k < 4 := by simp at h; omega
    have hkX : k < X.length := by omega
    conv => whnf
    refine ⟨⟨by simp only; omega, by simp [hXl]; omega⟩, ?_⟩
    conv => whnf
    refine ⟨⟨by omega, ints X[k], by simp [hkX], ?_⟩⟩
    have hxb := hXb _ (List.getElem_mem hkX)
    generalize X[k] = x at hxb
    obtain ⟨Y, hY, hYl⟩ : ∃ Y : List (List Bool), Y = [ee, evs, more] ∧ Y.length = 3 := ⟨_, rfl, rfl⟩
    conv => whnf
    refine loop {j : Nat // j ≤ 3} (fun j => mkS 136 [(1, .d (ints raw)), (2, .d (bl evs)), (3, .d (.int .i64 time)), (4, .d (sts l)), (11, .d (ints ts)), (12, .d (bl ee)), (13, .d (bl more)), (15, .d (ints x)), (61, .sl 61 1), (62, .d (.int .i64 4)), (63, .d (.int .i64 k)), (70, .sl 70 1), (71, .d (.int .i64 3)), (72, .d (.int .i64 j.1))] [(61, .row 1 23 (X.map ints), 1), (70, .row 1 24 (Y.map bl), 1)]) (fun j => 3 - j.1) ⟨0, by omega⟩ ?_ fun j => ?_
    · subst hY
      refine leF ?_
      conv => whnf
      repeat (first | exact trivial | refine And.intro (by first | with_reducible rfl | (rw [next (by first | omega | (simp only; omega))]) | rfl) ?_)
    clear hY
    obtain ⟨j, hj⟩ := j
    conv => whnf
    refine br (fun h => ?_) (fun h => ?_)
    · have hlj : j < 3 := by simp at h; omega
      have hjY : j < Y.length := by omega
      conv => whnf
      refine ⟨⟨by simp only; omega, by simp [hYl]; omega⟩, ?_⟩
      conv => whnf
      refine ⟨⟨by omega, bl Y[j], by simp [hjY], ?_⟩⟩
      generalize Y[j] = y
      obtain ⟨R, hR, hRl⟩ := stepsG_ex x y
      have c1 := stepsAll hS hC x y R hR (by omega)
      have c2 := rStepsAll x y R hR (by omega)
      obtain ⟨a, e⟩ := R
      simp only at hRl c1 c2
      conv => whnf
      refine callA c1 ?_
      conv => whnf
      refine callA c2 ?_
      conv => whnf
      refine br (fun h => by simp at h) (fun _ => ?_)
      conv => whnf
      refine callA (same20 a a true (by simp) hRl) ?_
      conv => whnf
      refine ⟨⟨j + 1, by omega⟩, ?_, by show 3 - (j + 1) < 3 - j; omega⟩
      refine leF ?_
      conv => whnf
      repeat (first | exact trivial | refine And.intro (by first | with_reducible rfl | (rw [next (by first | omega | (simp only; omega))]) | rfl) ?_)
    · conv => whnf
      refine ⟨⟨k + 1, by omega⟩, ?_, by show 4 - (k + 1) < 4 - k; omega⟩
      refine leF ?_
      conv => whnf
      repeat (first | exact trivial | refine And.intro (by first | with_reducible rfl | (rw [next (by first | omega | (simp only; omega))]) | rfl) ?_)
  · obtain ⟨R, hR, hRl⟩ := stepsG_ex ts ee
    have c2 := rStepsAll ts ee R hR (by omega)
    obtain ⟨a, e⟩ := R
    simp only at hRl c2
    conv => whnf
    refine callA c2 ?_
    conv => whnf
    refine callA (mod_ time 20 (by omega) (by omega)) ?_
    generalize time % 20 = m
    conv => whnf
    refine callA (at_ a _ hRl) ?_
    conv => whnf
    refine callA (rAt a _ hRl) ?_
    generalize atF a (IntKind.i64.wrap (m - 2)) = p1
    obtain ⟨n1, d1⟩ := p1
    conv => whnf
    refine ⟨⟨by kernel_rfl, by kernel_rfl⟩, ?_⟩
    conv => whnf
    refine ⟨by kernel_rfl, ?_⟩
    conv => whnf
    refine br (fun q => ?_) (fun q => by exfalso; simp at q)
    conv => whnf
    refine callA (at_ a _ hRl) ?_
    conv => whnf
    refine callA (rAt a _ hRl) ?_
    generalize atF a time = p2
    obtain ⟨n2, d2⟩ := p2
    conv => whnf
    refine ⟨⟨by kernel_rfl, by kernel_rfl⟩, ?_⟩
    conv => whnf
    refine ⟨by kernel_rfl, ?_⟩
    conv => whnf
    refine br (fun q => ?_) (fun q => by exfalso; simp at q)
    conv => whnf
    refine callA (at_ l _ (by omega)) ?_
    conv => whnf
    refine callA (rAt l _ (by omega)) ?_
    generalize atF l time = p3
    obtain ⟨n3, d3⟩ := p3
    conv => whnf
    refine ⟨⟨by kernel_rfl, by kernel_rfl⟩, ?_⟩
    conv => whnf
    refine ⟨by kernel_rfl, ?_⟩
    conv => whnf
    refine br (fun q => ?_) (fun q => by exfalso; simp at q)
    conv => whnf
    refine callA (awake20 hS hC) ?_
    conv => whnf
    exact ⟨rfl⟩
end Go.Proofs.YtnkjhialkaomfaaDoor.P
