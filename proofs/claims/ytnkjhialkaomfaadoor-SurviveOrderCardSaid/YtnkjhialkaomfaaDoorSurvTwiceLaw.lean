/-
  SurviveTwice: the law's walk.
-/
import Derived.Test.YtnkjhialkaomfaaDoorSurvPlain
namespace Go.Proofs.YtnkjhialkaomfaaDoor.P
open Go.Abs Go.Proofs
set_option maxRecDepth 10000

theorem pers_bounds (codes : List Int) (n : Nat) : ∀ p ∈ pers codes n, 0 ≤ p.1 ∧ p.1 ≤ 15 := by
  intro p hp
  obtain ⟨c, _, rfl⟩ := List.mem_map.1 hp
  simp only
  omega
theorem pers_len (codes : List Int) (n : Nat) : (pers codes n).length ≤ n := by simp [pers]; omega
set_option maxHeartbeats 4000000 in
theorem twiceLaw (hS : SortC) (hC : CompactC) (codes : List Int) (hc : ∀ x ∈ codes, 0 ≤ x ∧ x ≤ 255) : ACall Tryd.prog 5 [.d (bytesD codes)] (.d (.bool true)) := by
  refine acall Tryd.func5 (by kernel_rfl) ?_
  conv => whnf
  refine callA (timesL codes 25 hc (by omega)) ?_
  have hb := pers_bounds codes 25
  have hl := pers_len codes 25
  generalize pers codes 25 = ps at hb hl
  conv => whnf
  refine ⟨⟨[(0, 1), (1, 1)], ?_⟩⟩
  conv => whnf
  refine callA (steps_ hS hC ps (by omega) fun p hp => by have := hb p hp; omega) ?_
  have hd := stepsF_dbl ps
  have hbd := stepsF_bd ps
  generalize stepsF ps = R at hd hbd
  obtain ⟨a, e⟩ := R
  conv => whnf
  simp only at hd hbd
  refine ⟨by rw [bytes_int]; simp only [List.length_map, List.length_nil, List.length_append, List.length_cons, tm, es]; exact ⟨by unfold maxLen; omega, by omega, .inr (by kernel_rfl)⟩, ?_⟩
  conv => whnf
  refine ⟨by rw [bytes_int]; simp only [List.length_map, List.length_nil, List.length_append, List.length_cons, tm, es]; exact ⟨by unfold maxLen; omega, by omega, .inr (by kernel_rfl)⟩, ?_⟩
  rw [show List.map (D.int .i64) (tm ps) ++ List.map (D.int .i64) (tm ps) = List.map (D.int .i64) (tm (ps ++ ps)) from by simp [tm]]
  conv => whnf
  refine ⟨by rw [bytes_bool]; simp only [List.length_map, List.length_nil, List.length_append, List.length_cons, tm, es]; exact ⟨by unfold maxLen; omega, by omega, .inr (by kernel_rfl)⟩, ?_⟩
  conv => whnf
  refine ⟨by rw [bytes_bool]; simp only [List.length_map, List.length_nil, List.length_append, List.length_cons, tm, es]; exact ⟨by unfold maxLen; omega, by omega, .inr (by kernel_rfl)⟩, ?_⟩
  rw [show List.map D.bool (es ps) ++ List.map D.bool (es ps) = List.map D.bool (es (ps ++ ps)) from by simp [es]]
  conv => whnf
  refine callA (steps_ hS hC (ps ++ ps) (by simp; omega) fun p hp => by have := hb p (by simpa using hp); omega) ?_
  rw [hd]
  conv => whnf
  refine br (fun h => ?_) (fun h => ?_)
  · simp at h
  have hal : a.length ≤ 25 := by have := hbd.2; omega
  conv => whnf
  refine loop {k : Nat // k ≤ a.length} (fun k => mkS 84 [(5, .d (sts a)), (7, .d (sts (a.map dbl))), (44, .d (.int .i64 a.length)), (45, .d (.int .i64 k.1))] []) (fun k => a.length - k.1) ⟨0, by omega⟩ ?_ fun k => ?_
  · refine leF ?_
    conv => whnf
    rw [show (List.map encS a).length = a.length from by simp]
    repeat (first | exact trivial | refine And.intro (by first | with_reducible rfl | (rw [next (by first | omega | (simp only; omega))]) | rfl) ?_)
  obtain ⟨k, hk⟩ := k
  conv => whnf
  refine br (fun h => ?_) (fun h => ?_)
  · have hlt : k < a.length := by simpa using h
    have hbk := hbd.1 a[k] (List.getElem_mem hlt)
    have ga : (a.map encS)[((k : Nat) : Int).toNat]? = some (encS a[k]) := by simp [hlt]
    have gb : ((a.map dbl).map encS)[((k : Nat) : Int).toNat]? = some (encS (dbl a[k])) := by simp [hlt]
    generalize a[k] = p at hbk ga gb
    obtain ⟨x1, x2, x3, x4, ⟨x5, x6⟩⟩ := p
    obtain ⟨b1, b2, b3⟩ := hbk
    simp only at b1 b2 b3
    have e1 : IntKind.i64.wrap (2 * x2) = 2 * x2 := wrap_small (by omega) (by omega)
    have e2 : IntKind.i64.wrap (2 * x3) = 2 * x3 := wrap_small (by omega) (by omega)
    have e3 : IntKind.i64.wrap (2 * x4) = 2 * x4 := wrap_small (by omega) (by omega)
    conv => whnf
    refine ⟨⟨by decide +kernel, by kernel_rfl⟩, ?_⟩
    conv => whnf
    refine ⟨⟨by first | omega | (simp only; omega), _, gb, ?_⟩⟩
    conv => whnf
    refine ⟨⟨by first | omega | (simp only; omega), _, ga, ?_⟩⟩
    conv => whnf
    refine ⟨⟨by first | omega | (simp only; omega), _, ga, ?_⟩⟩
    conv => whnf
    refine ⟨⟨by first | omega | (simp only; omega), _, ga, ?_⟩⟩
    conv => whnf
    refine ⟨⟨by first | omega | (simp only; omega), _, ga, ?_⟩⟩
    conv => whnf
    refine ⟨⟨by first | omega | (simp only; omega), _, ga, ?_⟩⟩
    conv => whnf
    refine ⟨⟨by kernel_rfl, by kernel_rfl⟩, ?_⟩
    conv => whnf
    refine ⟨by kernel_rfl, ?_⟩
    conv => whnf
    refine ⟨by kernel_rfl, ?_⟩
    conv => whnf
    refine br (fun q => ?_) (fun q => ?_)
    · exfalso
      simp [dbl, e1, e2, e3] at q
    conv => whnf
    refine ⟨⟨k + 1, hlt⟩, ?_, by show a.length - (k + 1) < a.length - k; omega⟩
    refine leF ?_
    conv => whnf
    repeat (first | exact trivial | refine And.intro (by first | with_reducible rfl | (rw [next (by first | omega | (simp only; omega))]) | rfl) ?_)
  · conv => whnf
    refine callA (awake20 hS hC) ?_
    conv => whnf
    exact ⟨rfl⟩
end Go.Proofs.YtnkjhialkaomfaaDoor.P
