/-
  SampleDraws: for every sample, all numbers and every list of numbers the law returns true, and its arguments read as they did. No conditions.
-/
import Derived.Test.YtbhpfidifbbggaaSampleDraws
import Derived.Test.YtbhpfidifbbggaaAbsArg
import Derived.Test.YtbhpfidifbbggaaRows
import Derived.WalkKit
import Derived.ProofKit
import Derived.OpenShut
import Derived.Lib.SmallJoins
namespace Go.Proofs.Ytbhpfidifbbggaa.sampleDraws
open Go.ChangeShapes Go.WideShapes Go.ChangeAt Go.RowKit Go.Joins Go.Abs Go.Proofs.Ytbhpfidifbbggaa.S
set_option linter.unusedVariables false

theorem own : ownKnob Try.prog.godebug = none := by kernel_rfl
theorem laidOut : laidOutB Try.prog = true := by kernel_rfl
theorem cells : Try.prog.cellsOf 23 = 3 := by kernel_rfl

set_option maxRecDepth 100000 in
theorem lifted (os : Os) (started : os.Started) (H : Type) (enc : TypeId × Value → H) :
    ReturnsInHanded {} Try.checked os 3 .any (Rows.sampleDrawsSpec.pre6 enc Try.prog Try.f3 Rows.sampleDrawsRow.domain false) (Rows.sampleDrawsSpec.post enc Try.prog Try.f3 false true false false) := by
  refine returnsInHanded_of_change (C := Try.checked) own started (by kernel_rfl) Try.func3
    (ChangeSpec.witness6 (enc := enc) (C := Try.checked) false ⟨#[], #[.agg #[.int .i64 0, .int .i64 0, .int .i64 0], .int .u16 0, .int .i64 0, .slice none 0 0], []⟩ 8 (by kernel_rfl) (by kernel_rfl) (by kernel_rfl) (by kernel_rfl)) ?_
  intro W base args ds gs before hval0 hW hcnd _
  have hval : ∀ (j : Nat) t v, Try.f3.params[j]? = some t → args[j]? = some v → Value.okWide Try.prog W .any base t v := hval0
  have hW' := hW
  obtain ⟨p, q, hA0, hV, rfl, hfz, hnd⟩ := hW
  have hA : DataW.TrodAll enc Try.prog W 0 (fun _ => true) true Try.f3.params.toList args.toList ds p := hA0
  rw [Try.params3] at hA hval
  obtain ⟨v0, vs0, d0, ds0, p0, q0, hargs, rfl, rfl, h0, r0⟩ := trodAll_cons hA
  obtain ⟨v1, vs1, d1, ds1, p1, q1, rfl, rfl, rfl, h1, r1⟩ := trodAll_cons r0
  obtain ⟨v2, vs2, d2, ds2, p2, q2, rfl, rfl, rfl, h2, r2⟩ := trodAll_cons r1
  obtain ⟨v3, vs3, d3, ds3, p3, q3, rfl, rfl, rfl, h3, r3⟩ := trodAll_cons r2
  obtain ⟨rfl, rfl, rfl⟩ := trodAll_nil r3
  obtain rfl : args = #[v0, v1, v2, v3] := by cases args; simp_all
  obtain ⟨rfl, rfl⟩ := trodVars_none hV
  have k0 := h0
  have lt0 : ∀ x ∈ p0, x.block < W.heap.size := by obtain ⟨m, hm⟩ := k0; exact DataW.trod_lt m _ _ _ hm
  obtain ⟨c0, c1, c2, y0, y1, y2, m, rfl, hd0, hp0, hy0, hy1, hy2⟩ := open_agg3 Try.underlying23 (by kernel_rfl) cells (hval 0 23 v0 rfl rfl) h0
  obtain ⟨a, e0, ee0, wa⟩ := DataW.trod_int Try.underlying3 hy0
  obtain ⟨b, e1, ee1, wb⟩ := DataW.trod_int Try.underlying3 hy1
  obtain ⟨c, e2, ee2, wc⟩ := DataW.trod_int Try.underlying3 hy2
  simp at e0 e1 e2
  subst e0; subst e1; subst e2
  obtain ⟨a1, rfl, rfl, rfl, w1⟩ := open_int Try.underlying24 (hval 1 24 v1 rfl rfl) h1
  obtain ⟨a2, rfl, rfl, rfl, w2⟩ := open_int Try.underlying3 (hval 2 3 v2 rfl rfl) h2
  have k3 := h3
  have lt3 : ∀ x ∈ p3, x.block < W.heap.size := by obtain ⟨m, hm⟩ := k3; exact DataW.trod_lt m _ _ _ hm
  obtain ⟨xs, hxs, _, _⟩ := ints_arg Try.underlying25 Try.underlying3 (by kernel_rfl) (okWide_slice Try.underlying25 (hval 3 25 v3 rfl rfl)) h3
  have bc : -9223372036854775808 ≤ c ∧ c ≤ 9223372036854775807 := by simpa [Lit.wf, IntKind.min, IntKind.max, IntKind.signed, IntKind.bits] using wc
  have ba : 0 ≤ a1 ∧ a1 ≤ 65535 := by simpa [Lit.wf, IntKind.min, IntKind.max, IntKind.signed, IntKind.bits] using w1
  clear hA0 hval0
  refine ((draws3 a b c a1 a2 xs bc.1 bc.2 ba.1 ba.2).2 (fun _ => False) W _ (fun _ h => h.elim) rfl (fun i v x hv hx => ?_)).mono fun e W' ⟨v, he, bel, hr⟩ => ?_
  · match i, hv, hx with
    | 0, hv, hx =>
      simp at hv hx; subst hv; subst hx
      refine RepD.agg _ _ rfl (by intro x hx; simp at hx; rcases hx with rfl | rfl | rfl <;> rfl) (fun i v x hv hx => ?_)
      match i, hv, hx with
      | 0, hv, hx => simp at hv hx; subst hv; subst hx; exact .int _ _
      | 1, hv, hx => simp at hv hx; subst hv; subst hx; exact .int _ _
      | 2, hv, hx => simp at hv hx; subst hv; subst hx; exact .int _ _
      | i + 3, hv, hx => simp at hv
    | 1, hv, hx => simp at hv hx; subst hv; subst hx; exact RepD.int _ _
    | 2, hv, hx => simp at hv hx; subst hv; subst hx; exact RepD.int _ _
    | 3, hv, hx => simp at hv hx; subst hv; subst hx; exact hxs
    | i + 4, hv, hx => simp at hv
  · subst he
    obtain rfl : v = .bool true := repD_bool hr
    exact ⟨_, rfl, _, _, _, [], _, [], hW', trodAll_mk1 (shut_bool Try.underlying4 _), (trodAll_cons_mk (Below.trod laidOut (by kernel_rfl) (of_decide_eq_true (by kernel_rfl)) k0 bel lt0) (trodAll_cons_mk (shut_int Try.underlying24 w1) (trodAll_cons_mk (shut_int Try.underlying3 w2) (trodAll_cons_mk (Below.trod laidOut (by kernel_rfl) (of_decide_eq_true (by kernel_rfl)) k3 bel lt3) trodAll_mk0)))), rfl, bel.frame _, fun h => by cases h⟩

theorem over : Rows.sampleDrawsRow.holds Try.pinned (OpenSpec.ofChange Rows.sampleDrawsSpec) :=
  OpenClaim.holds_of_wide 3 Try.f3 rfl rfl rfl rfl rfl rfl rfl ⟨rfl, rfl, rfl, rfl, rfl⟩ rfl rfl rfl rfl rfl (by kernel_rfl) Try.func3 (by kernel_rfl)
    (of_decide_eq_true (by kernel_rfl)) (by unfold Func.isWrapper; first | (rw [if_pos (by decide +kernel)]; kernel_rfl) | (rw [if_neg (by decide +kernel)]; exact ⟨rfl, rfl⟩))
    (fun os started H enc _ => lifted os started H enc)

theorem proved : Rows.SampleDrawsSaid := over
#print axioms proved
end Go.Proofs.Ytbhpfidifbbggaa.sampleDraws
