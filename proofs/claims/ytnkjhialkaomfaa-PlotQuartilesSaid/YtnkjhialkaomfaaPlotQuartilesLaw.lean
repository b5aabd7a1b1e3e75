/-
  The law PlotQuartiles, by the abstract machine.
-/
import Derived.Test.YtnkjhialkaomfaaPlotPlain
namespace Go.Proofs.Ytnkjhialkaomfaa.P
open Go.Abs Go.Proofs
set_option maxRecDepth 10000
set_option maxHeartbeats 4000000

theorem quartQ {n k : Nat} (h : n ≤ 1000) (h0 : 0 < n) (hk : k < 5) : IntKind.i64.wrap ((IntKind.i64.wrap ((k : Int) * IntKind.i64.wrap ((n : Int) - 1))).tdiv 4) = ((k * (n - 1) / 4 : Nat) : Int) := by
  have e : (k : Int) * ((n - 1 : Nat) : Int) = ((k * (n - 1) : Nat) : Int) := by simp
  have hb : k * (n - 1) ≤ 4 * 1000 := Nat.mul_le_mul (by omega) (by omega)
  rw [ix1 h0 (by omega), e, wrap_small (n := ((k * (n - 1) : Nat) : Int)) (by omega) (by omega), Int.tdiv_eq_ediv_of_nonneg (by omega), wrap_small (by omega) (by omega)]
  rfl

theorem quartilesLaw (hS : SortC) (l : List Int) (hl : ∀ x ∈ l, 0 ≤ x ∧ x ≤ 255) : ACall Try.prog 5 [.d (bytesD l)] (.d (.bool true)) := by
  refine acall Try.func5 (by kernel_rfl) ?_
  conv => whnf
  refine callA (values l hl) ?_
  have hb := @vals_bounds l
  have hn := vals_len l
  generalize vals l = v at hb hn
  conv => whnf
  refine callA (plotQuartiles hS v (by omega)) ?_
  have hany : v.any lrg = false := by
    rw [List.any_eq_false]
    intro x hx
    have := hb x hx
    simp [(lrg_iff x).2 (by omega)]
  by_cases h0 : v.length = 0
  · have e : errQ v = 18 := by unfold errQ; rw [if_neg (by omega), if_neg (by rw [hany]; simp), if_pos h0]
    have hv : v = [] := List.eq_nil_of_length_eq_zero h0
    subst hv
    rw [show boxO [] = box6 0 0 0 0 0 0 from by simp [boxO, e], e]
    conv => whnf
    refine callA (awake hS) ?_
    conv => whnf
    exact ⟨by rfl⟩
  have e : errQ v = 0 := by unfold errQ; rw [if_neg (by omega), if_neg (by rw [hany]; simp), if_neg h0]
  rw [show boxO v = boxS (sortI v) from by simp [boxO, e], e]
  have hs := sorted_sortI v
  have hp := perm_sortI v
  have hsl := length_sortI v
  generalize sortI v = s at hs hp hsl
  have m1 := qAt_mono hs (i := 0) (j := (s.length - 1) / 4) (by omega) (by omega)
  have m2 := qAt_mono hs (i := (s.length - 1) / 4) (j := (s.length - 1) / 2) (by omega) (by omega)
  have m3 := qAt_mono hs (i := (s.length - 1) / 2) (j := 3 * (s.length - 1) / 4) (by omega) (by omega)
  have m4 := qAt_mono hs (i := 3 * (s.length - 1) / 4) (j := s.length - 1) (by omega) (by omega)
  obtain ⟨Q, hQ, hQl, hQk⟩ : ∃ Q : List Int, Q = [qAt s 0, qAt s ((s.length - 1) / 4), qAt s ((s.length - 1) / 2), qAt s (3 * (s.length - 1) / 4), qAt s (s.length - 1)] ∧ Q.length = 5 ∧ ∀ k (h : k < Q.length), Q[k] = qAt s (k * (s.length - 1) / 4) := by
    refine ⟨_, rfl, rfl, fun k h => ?_⟩
    simp at h
    match k, h with
    | 0, _ => simp
    | 1, _ => simp
    | 2, _ => simp only [List.getElem_cons_succ, List.getElem_cons_zero]; congr 1; omega
    | 3, _ => simp
    | 4, _ => simp only [List.getElem_cons_succ, List.getElem_cons_zero]; congr 1; omega
  rw [boxS]
  generalize hq0 : qAt s 0 = q0 at *
  generalize hq1 : qAt s ((s.length - 1) / 4) = q1 at *
  generalize hq2 : qAt s ((s.length - 1) / 2) = q2 at *
  generalize hq3 : qAt s (3 * (s.length - 1) / 4) = q3 at *
  generalize hq4 : qAt s (s.length - 1) = q4 at *
  rw [hsl]
  conv => whnf
  refine br (fun h => by simp [h0] at h) (fun _ => ?_)
  conv => whnf
  refine br (fun h => ?_) (fun _ => ?_)
  · exfalso
    simp at h
    omega
  conv => whnf
  refine loop {k : Nat // k ≤ 5} (fun k => mkS 121 [(3, .d (ints v)), (75, .sl 75 1), (76, .d (.int .i64 5)), (77, .d (.int .i64 k.1))] [(75, .row 1 3 (Q.map (D.int .i64)), 1)]) (fun k => 5 - k.1) ⟨0, by omega⟩ ?_ fun k => ?_
  · subst hQ
    exact And.intro rfl (And.intro rfl (And.intro rfl (And.intro rfl trivial)))
  · obtain ⟨k, hk⟩ := k
    conv => whnf
    refine br (fun h => ?_) (fun h => ?_)
    · have hlt : k < 5 := by simp at h; omega
      have hpk : k * (s.length - 1) / 4 < s.length := by
        have : k * (s.length - 1) ≤ 4 * (s.length - 1) := Nat.mul_le_mul (by omega) (Nat.le_refl _)
        omega
      have c1 := cnt_lt hs hpk
      have c2 := cnt_le hs hpk
      rw [← hQk k (by omega), hp.countP_eq] at c1 c2
      have hm : Q[k]'(by omega) ∈ v := by rw [hQk k (by omega), qAt_get hpk, ← hp.mem_iff]; exact List.getElem_mem _
      conv => whnf
      refine ⟨⟨by simp only; omega, by simp [hQl]; omega⟩, ?_⟩
      conv => whnf
      refine ⟨⟨by omega, .int .i64 (Q[k]'(by omega)), by simp [hQl, hlt], ?_⟩⟩
      generalize Q[k]'(by omega) = q at c1 c2 hm
      conv => whnf
      refine loop {j : Nat // j ≤ v.length} (fun j => mkS 121 [(3, .d (ints v)), (6, .d (.int .i64 k)), (7, .d (.int .i64 q)), (8, .d (.int .i64 ((v.take j.1).countP fun x => decide (x ≤ q)))), (9, .d (.int .i64 ((v.take j.1).countP fun x => decide (x < q)))), (75, .sl 75 1), (76, .d (.int .i64 5)), (77, .d (.int .i64 k)), (82, .d (ints v)), (83, .d (.int .i64 v.length)), (84, .d (.int .i64 j.1))] [(75, .row 1 3 (Q.map (D.int .i64)), 1)]) (fun j => v.length - j.1) ⟨0, by omega⟩ ?_ fun j => ?_
      · repeat (first | exact trivial | refine And.intro (by first | rfl | simp) ?_)
      · obtain ⟨j, hj⟩ := j
        have b1 := countP_bound (fun x => decide (x ≤ q)) v j
        have b2 := countP_bound (fun x => decide (x < q)) v j
        conv => whnf
        refine br (fun h => ?_) (fun h => ?_)
        · have hjl : j < v.length := by simp at h; omega
          have e1 := countP_snoc (fun x => decide (x ≤ q)) v j hjl
          have e2 := countP_snoc (fun x => decide (x < q)) v j hjl
          conv => whnf
          refine ⟨⟨by simp only; omega, _, ints_get v j hjl, ?_⟩⟩
          conv => whnf
          refine br (fun h1 => ?_) (fun h1 => ?_)
          · rw [if_pos h1] at e1
            conv => whnf
            refine br (fun h2 => ?_) (fun h2 => ?_)
            · rw [if_pos h2] at e2
              conv => whnf
              refine ⟨⟨j + 1, by omega⟩, ?_, by show v.length - (j + 1) < v.length - j; omega⟩
              refine And.intro rfl (And.intro rfl (And.intro rfl (And.intro (by rw [e1, wrap_small (by simp only; omega) (by simp only; omega)]) (And.intro (by rw [e2, wrap_small (by simp only; omega) (by simp only; omega)]) ?_))))
              refine And.intro rfl (And.intro rfl (And.intro rfl (And.intro rfl (And.intro rfl (And.intro (by rw [next (by first | omega | (simp only; omega))]) trivial)))))
            · rw [if_neg (by rw [h2]; simp), Int.add_zero] at e2
              conv => whnf
              refine ⟨⟨j + 1, by omega⟩, ?_, by show v.length - (j + 1) < v.length - j; omega⟩
              refine And.intro rfl (And.intro rfl (And.intro rfl (And.intro (by rw [e1, wrap_small (by simp only; omega) (by simp only; omega)]) (And.intro (by rw [e2]) ?_))))
              refine And.intro rfl (And.intro rfl (And.intro rfl (And.intro rfl (And.intro rfl (And.intro (by rw [next (by first | omega | (simp only; omega))]) trivial)))))
          · rw [if_neg (by rw [h1]; simp), Int.add_zero] at e1
            conv => whnf
            refine br (fun h2 => ?_) (fun h2 => ?_)
            · simp at h1 h2; omega
            · rw [if_neg (by rw [h2]; simp), Int.add_zero] at e2
              conv => whnf
              refine ⟨⟨j + 1, by omega⟩, ?_, by show v.length - (j + 1) < v.length - j; omega⟩
              refine And.intro rfl (And.intro rfl (And.intro rfl (And.intro (by rw [e1]) (And.intro (by rw [e2]) ?_))))
              refine And.intro rfl (And.intro rfl (And.intro rfl (And.intro rfl (And.intro rfl (And.intro (by rw [next (by first | omega | (simp only; omega))]) trivial)))))
        · have hge : v.length ≤ j := by simp at h; omega
          conv => whnf
          refine ⟨by omega, ?_⟩
          rw [show (((v.map (D.int .i64)).length : Nat) : Int) = (v.length : Int) from by simp, quartQ (by omega) (by omega) hlt]
          conv => whnf
          refine callA (has v q (by omega)) ?_
          conv => whnf
          refine br (fun hbad => ?_) (fun _ => ?_)
          · exfalso
            rw [hsl] at c1 c2
            simp [List.take_of_length_le hge, hm] at hbad
            omega
          · conv => whnf
            refine ⟨⟨k + 1, by omega⟩, ?_, by show 5 - (k + 1) < 5 - k; omega⟩
            exact And.intro rfl (And.intro rfl (And.intro rfl (And.intro (by rw [next (by first | omega | (simp only; omega))]) trivial)))
    · have hge : k = 5 := by simp at h; omega
      conv => whnf
      refine callA (awake hS) ?_
      conv => whnf
      exact ⟨by rfl⟩
end Go.Proofs.Ytnkjhialkaomfaa.P
