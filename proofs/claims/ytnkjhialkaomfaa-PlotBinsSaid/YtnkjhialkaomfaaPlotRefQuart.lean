/-
  The reference's sorted and Quartiles, by the abstract machine.
-/
import Derived.Test.YtnkjhialkaomfaaPlotRef
namespace Go.Proofs.Ytnkjhialkaomfaa.P
open Go.Abs Go.Proofs
set_option maxRecDepth 100000
set_option maxHeartbeats 4000000

theorem room_any (n : Nat) (ys : List D) (h : n + ys.length ≤ 1000000) : n + ys.length ≤ maxLen ∧ (n + ys.length) * bytesT Try.prog 3 ≤ 140737488355328 ∧ (ys = [] ∨ 0 + 1 = sizeT Try.prog 3) := by
  rw [bytes_int]
  exact ⟨by unfold maxLen; omega, by omega, .inr (by kernel_rfl)⟩
theorem list_get (s : List Int) (i : Nat) (h : i < s.length) : (s.map (D.int .i64))[((i : Nat) : Int).toNat]? = some (D.int .i64 (qAt s i)) := by simp [h, qAt]
theorem ins_sorted {o : List Int} {x : Int} {k : Nat} (ho : o.Pairwise (· ≤ ·)) (hk : k ≤ o.length) (h1 : ∀ j (hj : j < o.length), k ≤ j → o[j] > x) (h2 : ∀ j (hj : j < o.length), j < k → o[j] ≤ x) :
    (o.take k ++ x :: o.drop k).Pairwise (· ≤ ·) ∧ (o.take k ++ x :: o.drop k).Perm (o ++ [x]) := by
  constructor
  · rw [List.pairwise_append, List.pairwise_cons]
    have hs := ho
    rw [← List.take_append_drop k o, List.pairwise_append] at hs
    refine ⟨hs.1, ⟨fun a ha => ?_, hs.2.1⟩, fun a ha b hb => ?_⟩
    · obtain ⟨j, hj, rfl⟩ := List.getElem_of_mem ha
      simp only [List.getElem_drop]
      have := h1 (k + j) (by simp at hj; omega) (by omega); omega
    · rw [List.mem_cons] at hb
      rcases hb with rfl | hb
      · obtain ⟨j, hj, rfl⟩ := List.getElem_of_mem ha
        simp only [List.getElem_take]
        exact h2 j (by simp at hj; omega) (by simp at hj; omega)
      · exact hs.2.2 a ha b hb
  · have : (o.take k ++ x :: o.drop k).Perm (x :: (o.take k ++ o.drop k)) := List.perm_middle
    rw [List.take_append_drop] at this
    exact this.trans (List.perm_append_singleton x o).symm

theorem sorted (xs : List Int) (hx : xs.length ≤ 1000) : ACall Try.prog 31 [.d (ints xs)] (.d (ints (sortI xs))) := by
  refine acall Try.func31 (by kernel_rfl) ?_
  conv => whnf
  refine loop {p : Nat × List Int // p.1 ≤ xs.length ∧ p.2.Pairwise (· ≤ ·) ∧ p.2.Perm (xs.take p.1)} (fun p => mkS 45 [(0, .d (ints xs)), (3, .d (ints p.1.2)), (4, .d (.int .i64 p.1.1))] []) (fun p => xs.length - p.1.1) ⟨(0, []), by simp⟩ ?_ fun p => ?_
  · exact And.intro rfl (And.intro rfl (And.intro rfl trivial))
  obtain ⟨⟨i, o⟩, hi, ho, hp⟩ := p
  simp only at hi ho hp
  have hol : o.length = i := by rw [hp.length_eq]; simp; omega
  conv => whnf
  refine br (fun h => ?_) (fun h => ?_)
  · have hlt : i < xs.length := by simp at h; omega
    conv => whnf
    refine loop {k : Nat // k ≤ o.length ∧ ∀ j (hj : j < o.length), k ≤ j → o[j] > xs[i]} (fun k => mkS 45 [(0, .d (ints xs)), (3, .d (ints o)), (4, .d (.int .i64 i)), (5, .d (.int .i64 k.1))] []) (fun k => k.1) ⟨o.length, by omega, fun j hj h => by omega⟩ ?_ fun k => ?_
    · exact And.intro rfl (And.intro rfl (And.intro rfl (And.intro (by simp) trivial)))
    obtain ⟨k, hk, hkx⟩ := k
    have fin : (∀ j (hj : j < o.length), j < k → o[j] ≤ xs[i]) → ∃ o', o' = o.take k ++ xs[i] :: o.drop k ∧ (o'.Pairwise (· ≤ ·)) ∧ o'.Perm (xs.take (i + 1)) := by
      intro h2
      obtain ⟨s1, s2⟩ := ins_sorted ho hk hkx h2
      refine ⟨_, rfl, s1, s2.trans ?_⟩
      rw [take_snoc xs i hlt]
      exact hp.append_right _
    conv => whnf
    refine ⟨⟨by decide +kernel, by kernel_rfl⟩, ?_⟩
    conv => whnf
    refine br (fun h0 => ?_) (fun h0 => ?_)
    · have hk0 : 0 < k := by simp at h0; omega
      have hkm : k - 1 < o.length := by omega
      have hix : IntKind.i64.wrap ((k : Int) - 1) = ((k - 1 : Nat) : Int) := ix1 hk0 (by omega)
      conv => whnf
      rw [hix]
      refine ⟨⟨by omega, _, ints_get o (k - 1) hkm, ?_⟩⟩
      conv => whnf
      refine ⟨⟨by omega, _, ints_get xs i hlt, ?_⟩⟩
      conv => whnf
      refine br (fun h1 => ?_) (fun h1 => ?_)
      · have h1' : o[k - 1] > xs[i] := by simpa using h1
        conv => whnf
        refine ⟨⟨k - 1, by omega, fun j hj hjk => ?_⟩, ?_, by show k - 1 < k; omega⟩
        · by_cases e : j = k - 1
          · subst e; exact h1'
          · exact hkx j hj (by omega)
        · exact And.intro rfl (And.intro rfl (And.intro rfl (And.intro (by rw [hix]) trivial)))
      · have h1' : o[k - 1] ≤ xs[i] := by simp at h1; omega
        obtain ⟨o', eo, s1, s2⟩ := fin fun j hj hjk => by
          rcases Nat.lt_or_ge j (k - 1) with h | h
          · have := List.pairwise_iff_getElem.1 ho j (k - 1) hj hkm h; omega
          · have : j = k - 1 := by omega
            subst this; exact h1'
        conv => whnf
        refine ⟨⟨by decide +kernel, by kernel_rfl⟩, ?_⟩
        conv => whnf
        refine ⟨⟨by omega, by simp only; omega, by simp only [List.length_map]; omega, rfl⟩, ?_⟩
        conv => whnf
        refine ⟨⟨by omega, _, ints_get xs i hlt, ?_⟩⟩
        conv => whnf
        refine ⟨⟨by simp only; omega, by simp only [List.length_map]; omega, by omega⟩, ?_⟩
        conv => whnf
        refine ⟨room_any _ _ (by simp [cut]; omega), ?_⟩
        conv => whnf
        refine ⟨⟨room_any _ _ (by simp [cut]; omega), by simp⟩, ?_⟩
        conv => whnf
        refine ⟨⟨(i + 1, o'), by simp only; omega, s1, s2⟩, ?_, by show xs.length - (i + 1) < xs.length - i; omega⟩
        refine And.intro rfl (And.intro ?_ (And.intro (by rw [next (by first | omega | (simp only; omega))]) trivial))
        show D.list _ _ = D.list 1 (o'.map (D.int .i64))
        rw [eo]
        congr 1
        simp [cut, List.map_take, List.map_drop]
        exact List.take_of_length_le (by simp)
    · have hk0 : k = 0 := by simp at h0; omega
      obtain ⟨o', eo, s1, s2⟩ := fin fun j hj hjk => by omega
      conv => whnf
      refine ⟨⟨by decide +kernel, by kernel_rfl⟩, ?_⟩
      conv => whnf
      refine ⟨⟨by omega, by simp only; omega, by simp only [List.length_map]; omega, rfl⟩, ?_⟩
      conv => whnf
      refine ⟨⟨by omega, _, ints_get xs i hlt, ?_⟩⟩
      conv => whnf
      refine ⟨⟨by simp only; omega, by simp only [List.length_map]; omega, by omega⟩, ?_⟩
      conv => whnf
      refine ⟨room_any _ _ (by simp [cut]; omega), ?_⟩
      conv => whnf
      refine ⟨⟨room_any _ _ (by simp [cut]; omega), by simp⟩, ?_⟩
      conv => whnf
      refine ⟨⟨(i + 1, o'), by simp only; omega, s1, s2⟩, ?_, by show xs.length - (i + 1) < xs.length - i; omega⟩
      refine And.intro rfl (And.intro ?_ (And.intro (by rw [next (by first | omega | (simp only; omega))]) trivial))
      show D.list _ _ = D.list 1 (o'.map (D.int .i64))
      rw [eo]
      congr 1
      simp [cut, List.map_take, List.map_drop]
      exact List.take_of_length_le (by simp)
  · have hge : xs.length ≤ i := by simp at h; omega
    conv => whnf
    rw [List.take_of_length_le hge] at hp
    exact ⟨by rw [sortI_eq hp.symm ho]; rfl⟩

theorem errQ_eq (xs : List Int) : errQ xs = if errB xs 1 ≠ 0 then errB xs 1 else if xs.length = 0 then 18 else 0 := by
  unfold errQ errB
  by_cases h1 : xs.length > 200
  · simp [h1]
  · by_cases h2 : xs.any lrg = true
    · simp [h1, h2]
    · simp [h1, h2]
theorem refQuartiles (xs : List Int) (hx : xs.length ≤ 1000000) : ACall Try.prog 15 [.d (ints xs)] (.tup [.d (boxO xs), .d (.int .i64 (errQ xs))]) := by
  have eq := errQ_eq xs
  refine acall Try.func15 (by kernel_rfl) ?_
  conv => whnf
  refine callA (check xs 1 hx) ?_
  by_cases e1 : errB xs 1 = 0
  case neg =>
    rw [if_pos e1] at eq
    rw [show boxO xs = box6 0 0 0 0 0 0 from by simp [boxO, eq, e1], eq]
    generalize errB xs 1 = er at e1
    conv => whnf
    refine br (fun h => ?_) (fun h => ?_)
    · conv => whnf
      exact ⟨by rfl⟩
    · simp at h; exact absurd h e1
  have hl : xs.length ≤ 200 := by
    unfold errB at e1
    split at e1
    · simp at e1
    · omega
  rw [if_neg (by simp [e1])] at eq
  rw [e1]
  conv => whnf
  refine br (fun h0 => ?_) (fun h0 => ?_)
  · have h0' : xs.length = 0 := by simpa using h0
    rw [if_pos h0'] at eq
    rw [show boxO xs = box6 0 0 0 0 0 0 from by simp [boxO, eq], eq]
    conv => whnf
    exact ⟨by rfl⟩
  have h0' : 0 < xs.length := by
    rcases Nat.eq_zero_or_pos xs.length with h | h
    · simp [h] at h0
    · exact h
  rw [if_neg (by omega)] at eq
  have hn : (sortI xs).length = xs.length := length_sortI xs
  rw [show boxO xs = boxS (sortI xs) from by simp [boxO, eq], eq]
  conv => whnf
  refine callA (sorted xs (by omega)) ?_
  generalize sortI xs = s at hn
  conv => whnf
  refine ⟨⟨by decide +kernel, by kernel_rfl⟩, ?_⟩
  conv => whnf
  refine ⟨⟨by omega, .int .i64 (qAt s 0), by simpa using list_get s 0 (by omega), ?_⟩⟩
  conv => whnf
  refine ⟨by omega, ?_⟩
  rw [show ((xs.map (D.int .i64)).length : Int) = (xs.length : Int) from by simp, ix1 h0' (by omega), ix4 (by omega)]
  conv => whnf
  refine ⟨⟨by omega, .int .i64 (qAt s ((xs.length - 1) / 4)), list_get s _ (by omega), ?_⟩⟩
  conv => whnf
  refine ⟨by omega, ?_⟩
  rw [ix1 h0' (by omega), ix2 (by omega)]
  conv => whnf
  refine ⟨⟨by omega, .int .i64 (qAt s ((xs.length - 1) / 2)), list_get s _ (by omega), ?_⟩⟩
  conv => whnf
  refine ⟨by omega, ?_⟩
  rw [ix1 h0' (by omega), ix34 (by omega)]
  conv => whnf
  refine ⟨⟨by omega, .int .i64 (qAt s (3 * (xs.length - 1) / 4)), list_get s _ (by omega), ?_⟩⟩
  conv => whnf
  rw [ix1 h0' (by omega)]
  refine ⟨⟨by omega, .int .i64 (qAt s (xs.length - 1)), list_get s _ (by omega), ?_⟩⟩
  conv => whnf
  exact ⟨by rw [boxS, hn]; rfl⟩

def modI (k n : Int) : Int := k % n
theorem mod14 (k : Int) : ACall Try.prog 10 [.d (.int .i64 k), .d (.int .i64 14)] (.d (.int .i64 (k % 14))) := by
  have hb := tmod_bounds (x := k) (n := 14) (by omega)
  have he := tmod_emod k 14 (by omega)
  refine acall Try.func10 (by kernel_rfl) ?_
  conv => whnf
  refine ⟨by omega, ?_⟩
  conv => whnf
  refine br (fun h => ?_) (fun h => ?_)
  · have h' : k.tmod 14 < 0 := of_decide_eq_true h
    conv => whnf
    exact ⟨by rw [wrap_small (by omega) (by omega), he.1 h']; rfl⟩
  · have h' : ¬ k.tmod 14 < 0 := of_decide_eq_false h
    conv => whnf
    exact ⟨by rw [he.2 h']; rfl⟩
end Go.Proofs.Ytnkjhialkaomfaa.P
