/-
  SurviveSteps: for every input the law returns true, and its arguments read as they did. No conditions.
-/
import Derived.Test.YtnkjhialkaomfaaDoorSurvStepsLaw
import Derived.Test.YtnkjhialkaomfaaDoorSurvSort
import Derived.Test.YtnkjhialkaomfaaDoorAbsAny
import Derived.Test.YtnkjhialkaomfaaDoorAbsArg
import Derived.Test.YtnkjhialkaomfaaDoorSurvGlob
import Derived.Test.YtnkjhialkaomfaaDoorRows
import Derived.Test.YtnkjhialkaomfaaDoorCards
import Derived.Test.YtnkjhialkaomfaaDoorTie
import Derived.WalkKit
import Derived.ProofKit
import Derived.OpenShut
import Derived.Lib.SmallJoins
import Derived.LaidMore
import Derived.Stop.Joined
import Derived.SevenTiedAt
namespace Go.Proofs.YtnkjhialkaomfaaDoor.surviveSteps
open Go.ChangeShapes Go.WideShapes Go.ChangeAt Go.RowKit Go.Joins Go.Abs Go.Proofs.YtnkjhialkaomfaaDoor.P
set_option linter.unusedVariables false

theorem own : ownKnob Tryd.prog.godebug = none := by kernel_rfl
theorem laidOut : laidOutB Tryd.prog = true := by kernel_rfl

set_option maxRecDepth 100000 in
theorem fits_bool {m : Nat} {x : List D} (h : Fits Tryd.prog m 4 x) : ∃ a : Bool, mkD (isAggT Tryd.prog 4) x = D.bool a ∧ True := by
  cases m with
  | zero => exact h.elim
  | succ m =>
    unfold Fits at h
    rw [Tryd.underlying4] at h
    obtain ⟨b, rfl⟩ := h
    exact ⟨b, by rw [show isAggT Tryd.prog 4 = false from by kernel_rfl]; rfl, trivial⟩
set_option maxRecDepth 100000 in
theorem fits_int {m : Nat} {x : List D} (h : Fits Tryd.prog m 3 x) : ∃ a : Int, x = [.int .i64 a] := by
  cases m with
  | zero => exact h.elim
  | succ m =>
    unfold Fits at h
    rw [Tryd.underlying3] at h
    obtain ⟨b, h, _⟩ := h
    exact ⟨b, h⟩
set_option maxRecDepth 100000 in
theorem fits_frac {m : Nat} {x : List D} (h : Fits Tryd.prog m 34 x) : ∃ a b : Int, x = [.int .i64 a, .int .i64 b] := by
  cases m with
  | zero => exact h.elim
  | succ m =>
    unfold Fits at h
    rw [Tryd.underlying34, show Tryd.prog.cellsOf 34 = 2 from by kernel_rfl] at h
    obtain ⟨hl, hf⟩ := h
    match x, hl with
    | [a, b], _ =>
      simp only [List.mem_cons, List.not_mem_nil, or_false, forall_eq_or_imp, forall_eq, show Tryd.prog.cellsOf 3 = 1 from by kernel_rfl] at hf
      obtain ⟨p, hp⟩ := fits_int hf.1
      obtain ⟨q, hq⟩ := fits_int hf.2
      simp at hp hq
      exact ⟨p, q, by rw [hp, hq]⟩
set_option maxRecDepth 100000 in
theorem fits_st {m : Nat} {x : List D} (h : Fits Tryd.prog m 41 x) : ∃ a : Go.Proofs.YtnkjhialkaomfaaDoor.P.St, mkD (isAggT Tryd.prog 41) x = Go.Proofs.YtnkjhialkaomfaaDoor.P.encS a ∧ True := by
  cases m with
  | zero => exact h.elim
  | succ m =>
    unfold Fits at h
    rw [Tryd.underlying41, show Tryd.prog.cellsOf 41 = 6 from by kernel_rfl] at h
    obtain ⟨hl, hf⟩ := h
    match x, hl with
    | [a, b, c, d, e, f], _ =>
      simp only [List.mem_cons, List.not_mem_nil, or_false, forall_eq_or_imp, forall_eq, show Tryd.prog.cellsOf 3 = 1 from by kernel_rfl, show Tryd.prog.cellsOf 34 = 2 from by kernel_rfl] at hf
      obtain ⟨p1, h1⟩ := fits_int hf.1
      obtain ⟨p2, h2⟩ := fits_int hf.2.1
      obtain ⟨p3, h3⟩ := fits_int hf.2.2.1
      obtain ⟨p4, h4⟩ := fits_int hf.2.2.2.1
      obtain ⟨p5, p6, h5⟩ := fits_frac hf.2.2.2.2
      simp at h1 h2 h3 h4 h5
      exact ⟨⟨p1, p2, p3, p4, (p5, p6)⟩, by rw [show isAggT Tryd.prog 41 = true from by kernel_rfl, h1, h2, h3, h4, h5.1, h5.2]; rfl, trivial⟩

set_option maxRecDepth 100000 in
theorem lifted (os : Os) (started : os.Started) (H : Type) (enc : TypeId × Value → H) :
    ReturnsInHanded {} Tryd.checked os 6 .any (fun w args => (Rows.surviveStepsSpec.pre enc Tryd.prog Tryd.f6 [] false w args ∧ laidMetH Tryd.prog laid1 w) ∧ sizedMet enc Tryd.prog Tryd.f6 (OpenSpec.ofChange Rows.surviveStepsSpec) false w args)
      (Rows.surviveStepsSpec.post enc Tryd.prog Tryd.f6 false true false false) := by
  refine returnsInHanded_of_change_and (C := Tryd.checked) (X := fun w _ => laidMetH Tryd.prog laid1 w) (fun _ _ _ hh h => h.of_heap hh) own started (by kernel_rfl) Tryd.func6
    (ChangeSpec.witness_shaped (enc := enc) (C := Tryd.checked) (os := os) (X := fun w _ => laidMetH Tryd.prog laid1 w) false (World.doorLaid Tryd.prog 400 os) #[.slice none 0 0, .slice none 0 0, .slice none 0 0, .int .i64 0, .slice none 0 0] 8 rfl (World.shaped_of_RefB (by kernel_rfl) (by kernel_rfl)) (by kernel_rfl) (by kernel_rfl) (by kernel_rfl) (door_met os _)) ?_
  intro W base args ds gs before hval0 hW _ _ hL _
  have hval : ∀ (j : Nat) t v, Tryd.f6.params[j]? = some t → args[j]? = some v → Value.okWide Tryd.prog W .any base t v := hval0
  have hW' := hW
  obtain ⟨p, q, hA0, hV, rfl, hfz, hnd⟩ := hW
  have hA : DataW.TrodAll enc Tryd.prog W 0 (fun _ => true) true Tryd.f6.params.toList args.toList ds p := hA0
  rw [Tryd.params6] at hA hval
  obtain ⟨v0, vs0, d0, ds0, p0, q0, hargs, rfl, rfl, h0, r0⟩ := trodAll_cons hA
  obtain ⟨v1, vs1, d1, ds1, p1, q1, rfl, rfl, rfl, h1, r1⟩ := trodAll_cons r0
  obtain ⟨v2, vs2, d2, ds2, p2, q2, rfl, rfl, rfl, h2, r2⟩ := trodAll_cons r1
  obtain ⟨v3, vs3, d3, ds3, p3, q3, rfl, rfl, rfl, h3, r3⟩ := trodAll_cons r2
  obtain ⟨v4, vs4, d4, ds4, p4, q4, rfl, rfl, rfl, h4, r4⟩ := trodAll_cons r3
  obtain ⟨rfl, rfl, rfl⟩ := trodAll_nil r4
  obtain rfl : args = #[v0, v1, v2, v3, v4] := by cases args; simp_all
  obtain ⟨rfl, rfl⟩ := trodVars_none hV
  have k0 := h0
  have lt0 : ∀ x ∈ p0, x.block < W.heap.size := by obtain ⟨m, hm⟩ := k0; exact DataW.trod_lt m _ _ _ hm
  obtain ⟨x0, hx0, hl0, hw0⟩ := ints_arg Tryd.underlying22 Tryd.underlying5 (by kernel_rfl) (okWide_slice Tryd.underlying22 (hval 0 22 v0 rfl rfl)) h0
  have b0 : ∀ x ∈ x0, 0 ≤ x ∧ x ≤ 255 := fun x hx => by simpa [Lit.wf, IntKind.min, IntKind.max, IntKind.signed, IntKind.bits] using hw0 x hx
  have k1 := h1
  have lt1 : ∀ x ∈ p1, x.block < W.heap.size := by obtain ⟨m, hm⟩ := k1; exact DataW.trod_lt m _ _ _ hm
  obtain ⟨x1, hx1, hl1, hw1⟩ := ints_arg Tryd.underlying23 Tryd.underlying3 (by kernel_rfl) (okWide_slice Tryd.underlying23 (hval 1 23 v1 rfl rfl)) h1
  have b1 : ∀ x ∈ x1, -9223372036854775808 ≤ x ∧ x ≤ 9223372036854775807 := fun x hx => by simpa [Lit.wf, IntKind.min, IntKind.max, IntKind.signed, IntKind.bits] using hw1 x hx
  have k2 := h2
  have lt2 : ∀ x ∈ p2, x.block < W.heap.size := by obtain ⟨m, hm⟩ := k2; exact DataW.trod_lt m _ _ _ hm
  obtain ⟨n2, y2, f2, g2⟩ := any_arg (ts := [24, 4]) (by kernel_rfl) (by kernel_rfl) (fun h => by rw [show isAggT Tryd.prog 24 = false from by kernel_rfl] at h; cases h) (fun _ => by obtain ⟨a, n, c, rfl⟩ := okWide_slice Tryd.underlying24 (hval 2 24 v2 rfl rfl); rfl) h2
  obtain ⟨x2, rfl, hl2, -⟩ := fits_slice (p := fun _ => True) Tryd.underlying24 f2 fun m x h => fits_bool h
  have g2 : RepD (fun _ => False) W v2 (bl x2) := by rw [show isAggT Tryd.prog 24 = false from by kernel_rfl, show Tryd.prog.cellsOf 4 = 1 from by kernel_rfl] at g2; exact g2
  obtain ⟨x3, rfl, rfl, rfl, w3⟩ := open_int Tryd.underlying3 (hval 3 3 v3 rfl rfl) h3
  have b3 : -9223372036854775808 ≤ x3 ∧ x3 ≤ 9223372036854775807 := by simpa [Lit.wf, IntKind.min, IntKind.max, IntKind.signed, IntKind.bits] using w3
  have k4 := h4
  have lt4 : ∀ x ∈ p4, x.block < W.heap.size := by obtain ⟨m, hm⟩ := k4; exact DataW.trod_lt m _ _ _ hm
  obtain ⟨n4, y4, f4, g4⟩ := any_arg (ts := [27, 41, 34, 3]) (by kernel_rfl) (by kernel_rfl) (fun h => by rw [show isAggT Tryd.prog 27 = false from by kernel_rfl] at h; cases h) (fun _ => by obtain ⟨a, n, c, rfl⟩ := okWide_slice Tryd.underlying27 (hval 4 27 v4 rfl rfl); rfl) h4
  obtain ⟨x4, rfl, hl4, -⟩ := fits_slice (p := fun _ => True) Tryd.underlying27 f4 fun m x h => fits_st h
  have g4 : RepD (fun _ => False) W v4 (sts x4) := by rw [show isAggT Tryd.prog 27 = false from by kernel_rfl, show Tryd.prog.cellsOf 41 = 6 from by kernel_rfl] at g4; exact g4
  clear hA0 hval0
  refine ((stepsLaw sortC compactC x0 x1 x2 x3 x4 b0).2 (fun _ => False) W _ (fun _ h => h.elim) (glob_of_laid hL) rfl (fun i v x hv hx => ?_)).mono fun e W' ⟨v, he, bel, hr⟩ => ?_
  · match i, hv, hx with
    | 0, hv, hx => simp at hv hx; subst hv; subst hx; exact hx0
    | 1, hv, hx => simp at hv hx; subst hv; subst hx; exact hx1
    | 2, hv, hx => simp at hv hx; subst hv; subst hx; exact g2
    | 3, hv, hx => simp at hv hx; subst hv; subst hx; exact RepD.int _ _
    | 4, hv, hx => simp at hv hx; subst hv; subst hx; exact g4
    | i + 5, hv, hx => simp at hv
  · subst he
    obtain rfl : v = .bool true := repD_bool hr
    exact ⟨_, rfl, _, _, _, [], _, [], hW', trodAll_mk1 (shut_bool Tryd.underlying4 _), (trodAll_cons_mk (Below.trod laidOut (by kernel_rfl) (of_decide_eq_true (by kernel_rfl)) k0 bel lt0) (trodAll_cons_mk (Below.trod laidOut (by kernel_rfl) (of_decide_eq_true (by kernel_rfl)) k1 bel lt1) (trodAll_cons_mk (Below.trod laidOut (by kernel_rfl) (of_decide_eq_true (by kernel_rfl)) k2 bel lt2) (trodAll_cons_mk (shut_int Tryd.underlying3 w3) (trodAll_cons_mk (Below.trod laidOut (by kernel_rfl) (of_decide_eq_true (by kernel_rfl)) k4 bel lt4) trodAll_mk0))))), rfl, bel.frame _, fun h => by cases h⟩

theorem over : Rows.surviveStepsRow.holds Tryd.pinned (OpenSpec.ofChange Rows.surviveStepsSpec) :=
  OpenClaim.holds_of_wide 6 Tryd.f6 rfl rfl rfl rfl rfl rfl rfl ⟨rfl, rfl, rfl, rfl, rfl⟩ rfl rfl rfl rfl rfl (by kernel_rfl) Tryd.func6 (by kernel_rfl)
    (of_decide_eq_true (by kernel_rfl)) (by unfold Func.isWrapper; first | (rw [if_pos (by decide +kernel)]; kernel_rfl) | (rw [if_neg (by decide +kernel)]; exact ⟨rfl, rfl⟩))
    (fun os started H enc _ => lifted os started H enc)

theorem proved : Rows.SurviveStepsCardSaid :=
  Claim7.holds_tied_plain_at .later [] [.data] true (true, "eafee35450e4d3ab716a3b1802ee477993f445650c3096e53f7e8980000eedd3") false
    over (fun _ h => by cases h) (by kernel_rfl) (fun _ h => by cases h) surviveSteps_row_tie rfl ⟨rfl, rfl⟩ (by kernel_rfl) rfl
    (fun f fn hf hfn => by
      obtain rfl : f = 6 := Option.some.inj ((show Tryd.prog.funcNamed "dataenclave/dataenclavelaw20.SurviveSteps" = some 6 by kernel_rfl).symm.trans hf) |>.symm
      obtain rfl : fn = Tryd.f6 := (Option.some.inj (Tryd.func6.symm.trans hfn)).symm
      exact ⟨by kernel_rfl, fun j t ht => by
        rw [Tryd.params6] at ht
        have hm : t ∈ [22, 23, 24, 3, 27] := by simpa using Array.mem_of_getElem? ht
        have hall : ([22, 23, 24, 3, 27].all fun u => !Tryd.prog.wantsStandIn u) = true := by kernel_rfl
        exact (show Tryd.prog.wantsStandIn t = false by simpa using List.all_eq_true.1 hall t hm)⟩)
    (by kernel_rfl)
#print axioms proved
end Go.Proofs.YtnkjhialkaomfaaDoor.surviveSteps
