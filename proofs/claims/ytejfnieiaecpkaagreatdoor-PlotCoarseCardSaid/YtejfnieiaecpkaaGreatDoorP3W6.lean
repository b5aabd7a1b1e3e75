/-
 Printed by wip/tools/mkw.py: walks: ref09_Needs ref09_Suffice ref10_Check ref05_join ref05_eval ref05_Eval ref11_Check ref11_Draw ref11_In ref13_Owners ref12_right ref12_Round ref12_Key ref13_Build draw_Codes_Secret draw_Codes_Whole draw_columns draw_Codes_Measured draw_Mod
-/
import Derived.Test.YtejfnieiaecpkaaGreatDoorChecked
import Derived.Test.YtejfnieiaecpkaaGreatDoorP3F
import Derived.Test.YtejfnieiaecpkaaGreatDoorP3A
import Derived.Test.YtejfnieiaecpkaaGreatDoorP3HW
import Derived.Test.YtejfnieiaecpkaaGreatDoorP3W1
import Derived.Test.YtejfnieiaecpkaaGreatDoorP3W2
import Derived.Test.YtejfnieiaecpkaaGreatDoorP3W3
import Derived.Test.YtejfnieiaecpkaaGreatDoorP3W4
import Derived.Test.YtejfnieiaecpkaaGreatDoorP3W5
set_option linter.unusedSimpArgs false
namespace Go.Proofs.YtejfnieiaecpkaaGreatDoor.P
open Go.Abs Go.Proofs
set_option maxRecDepth 100000
set_option maxHeartbeats 40000000
set_option linter.unusedVariables false

theorem ref09_Needs_w (d : Nat) (p0 : ASchema) (p1 : AQuestion) (R : (List APick))  (hF : ref09_Needs d p0 p1 = some R) : ACall Tryz.prog 102 [.d (encASchema p0), .d (encAQuestion p1)] (.d (lst 2 encAPick R)) := by
 refine acallJ [10] Tryz.func102 (by kernel_rfl) ?_
 unfold ref09_Needs at hF
 conv => whnf
 obtain ⟨x12, hx12, hF⟩ := bindF hF
 refine callA (ref08_Question_w _ _ _ _ hx12) ?_
 conv => whnf
 refine brF hF ebF (fun hF => ?_) (fun hF => ?_)
 ·conv => whnf
  obtain rfl := Option.some.inj hF
  refine ⟨.inl ?_⟩
  conv => whnf
  exact ⟨rtF⟩
 conv => whnf
 obtain ⟨x17, hx17, hF⟩ := bindF hF
 refine callA (ref05_Needs_w _ _ _ _ hx17) ?_
 conv => whnf
 refine join {p : (List APick) // ref09_Needs_j1 p1 p0 p = some R} (fun p => mkS 92 [(2, .ptr 2 1 0), (3, .ptr 3 1 0), (5, .d (lst 2 encAPick p.1))] [(2, .var [.d (lst 2 encACodeList p0.Lists), .d (lst 7 encAColumn p0.Columns)], 1), (3, .var [.d (.str p1.Name), .d (.int .i64 p1.Kind), .d (.int .i64 p1.Filter.Op), .d (.int .i64 p1.Filter.Column), .d (.int .i64 p1.Filter.Code), .d (.int .i64 p1.Filter.Low), .d (.int .i64 p1.Filter.High), .d (lst 6 encACond p1.Filter.Kids), .d (lst 2 encAPick p1.Dims), .d (.int .i64 p1.Measure), .d (lst 1 (D.int .i64) p1.Terms), .d (.int .i64 p1.Event.Op), .d (.int .i64 p1.Event.Column), .d (.int .i64 p1.Event.Code), .d (.int .i64 p1.Event.Low), .d (.int .i64 p1.Event.High), .d (lst 6 encACond p1.Event.Kids)], 1)]) ?_ fun p => ?_
 ·conv => whnf
  refine brF hF ebF (fun hF => ?_) (fun hF => ?_)
  ·conv => whnf
   obtain ⟨x24, hx24, hF⟩ := bindF hF
   refine callA (ref05_Needs_w _ _ _ _ hx24) ?_
   conv => whnf
   obtain ⟨Φ1, hΦ1, hF⟩ := iterF hF
   refine loop {p : Nat × ((List APick) × Int) // Φ1 p.1 p.2 = some R} (fun p => mkS 92 [(2, .ptr 2 1 0), (3, .ptr 3 1 0), (5, .d (lst 2 encAPick p.1.2.1)), (6, .d (lst 2 encAPick x24)), (7, .d (.int .i64 p.1.2.2))] [(2, .var [.d (lst 2 encACodeList p0.Lists), .d (lst 7 encAColumn p0.Columns)], 1), (3, .var [.d (.str p1.Name), .d (.int .i64 p1.Kind), .d (.int .i64 p1.Filter.Op), .d (.int .i64 p1.Filter.Column), .d (.int .i64 p1.Filter.Code), .d (.int .i64 p1.Filter.Low), .d (.int .i64 p1.Filter.High), .d (lst 6 encACond p1.Filter.Kids), .d (lst 2 encAPick p1.Dims), .d (.int .i64 p1.Measure), .d (lst 1 (D.int .i64) p1.Terms), .d (.int .i64 p1.Event.Op), .d (.int .i64 p1.Event.Column), .d (.int .i64 p1.Event.Code), .d (.int .i64 p1.Event.Low), .d (.int .i64 p1.Event.High), .d (lst 6 encACond p1.Event.Kids)], 1)]) (fun p => p.1.1) ⟨(_, (_, _)), hF⟩ ?_ fun p => ?_
   ·refine leF ?_
    conv => whnf
    exact lfF
   obtain ⟨⟨k1, ⟨v5_1, v7_1⟩⟩, hF⟩ := p
   obtain ⟨k1, rfl, hF⟩ := hΦ1 _ _ hF
   simp only [ref09_Needs_b1] at hF
   conv => whnf
   refine brF hF ebF (fun hF => ?_) (fun hF => ?_)
   ·conv => whnf
    refine ⟨⟨by decide +kernel, by kernel_rfl⟩, ?_⟩
    conv => whnf
    refine atF (f := encAPick) hF ebF fun x34 hx34 hF => ?_
    conv => whnf
    refine atF (f := encAPick) hF ebF fun x39 hx39 hF => ?_
    conv => whnf
    obtain ⟨x42, hx42, hF⟩ := bindF hF
    refine callA (ref05_Raise_w _ _ _ _ hx42) ?_
    conv => whnf
    refine ⟨⟨(_, (_, _)), hF⟩, ?_, Nat.lt_succ_self _⟩
    refine leF ?_
    conv => whnf
    exact lfF
   conv => whnf
   refine ⟨⟨_, hF⟩, ?_⟩
   refine leF ?_
   conv => whnf
   exact lfF
  conv => whnf
  refine ⟨⟨_, hF⟩, ?_⟩
  refine leF ?_
  conv => whnf
  exact lfF
 obtain ⟨j5_1, hF⟩ := p
 simp only [ref09_Needs_j1] at hF
 conv => whnf
 obtain ⟨Φ2, hΦ2, hF⟩ := iterF hF
 refine loop {p : Nat × ((List APick) × Int) // Φ2 p.1 p.2 = some R} (fun p => mkS 92 [(2, .ptr 2 1 0), (3, .ptr 3 1 0), (5, .d (lst 2 encAPick p.1.2.1)), (8, .d (.int .i64 p.1.2.2))] [(2, .var [.d (lst 2 encACodeList p0.Lists), .d (lst 7 encAColumn p0.Columns)], 1), (3, .var [.d (.str p1.Name), .d (.int .i64 p1.Kind), .d (.int .i64 p1.Filter.Op), .d (.int .i64 p1.Filter.Column), .d (.int .i64 p1.Filter.Code), .d (.int .i64 p1.Filter.Low), .d (.int .i64 p1.Filter.High), .d (lst 6 encACond p1.Filter.Kids), .d (lst 2 encAPick p1.Dims), .d (.int .i64 p1.Measure), .d (lst 1 (D.int .i64) p1.Terms), .d (.int .i64 p1.Event.Op), .d (.int .i64 p1.Event.Column), .d (.int .i64 p1.Event.Code), .d (.int .i64 p1.Event.Low), .d (.int .i64 p1.Event.High), .d (lst 6 encACond p1.Event.Kids)], 1)]) (fun p => p.1.1) ⟨(_, (_, _)), hF⟩ ?_ fun p => ?_
 ·refine leF ?_
  conv => whnf
  exact lfF
 obtain ⟨⟨k2, ⟨v5_2, v8_2⟩⟩, hF⟩ := p
 obtain ⟨k2, rfl, hF⟩ := hΦ2 _ _ hF
 simp only [ref09_Needs_b2] at hF
 conv => whnf
 refine brF hF ebF (fun hF => ?_) (fun hF => ?_)
 ·conv => whnf
  refine ⟨⟨by decide +kernel, by kernel_rfl⟩, ?_⟩
  conv => whnf
  refine atF (f := encAPick) hF ebF fun x54 hx54 hF => ?_
  conv => whnf
  refine atF (f := encAPick) hF ebF fun x61 hx61 hF => ?_
  conv => whnf
  refine atF (f := encAPick) hF ebF fun x67 hx67 hF => ?_
  conv => whnf
  obtain ⟨x70, hx70, hF⟩ := bindF hF
  refine callA (ref02_Least_w _ _ _ _ hx70) ?_
  conv => whnf
  obtain ⟨x71, hx71, hF⟩ := bindF hF
  refine callA (ref05_Raise_w _ _ _ _ hx71) ?_
  conv => whnf
  refine ⟨⟨(_, (_, _)), hF⟩, ?_, Nat.lt_succ_self _⟩
  refine leF ?_
  conv => whnf
  exact lfF
 conv => whnf
 obtain ⟨Φ3, hΦ3, hF⟩ := iterF hF
 refine loop {p : Nat × ((List APick) × Int) // Φ3 p.1 p.2 = some R} (fun p => mkS 92 [(2, .ptr 2 1 0), (3, .ptr 3 1 0), (5, .d (lst 2 encAPick p.1.2.1)), (9, .d (.int .i64 p.1.2.2))] [(2, .var [.d (lst 2 encACodeList p0.Lists), .d (lst 7 encAColumn p0.Columns)], 1), (3, .var [.d (.str p1.Name), .d (.int .i64 p1.Kind), .d (.int .i64 p1.Filter.Op), .d (.int .i64 p1.Filter.Column), .d (.int .i64 p1.Filter.Code), .d (.int .i64 p1.Filter.Low), .d (.int .i64 p1.Filter.High), .d (lst 6 encACond p1.Filter.Kids), .d (lst 2 encAPick p1.Dims), .d (.int .i64 p1.Measure), .d (lst 1 (D.int .i64) p1.Terms), .d (.int .i64 p1.Event.Op), .d (.int .i64 p1.Event.Column), .d (.int .i64 p1.Event.Code), .d (.int .i64 p1.Event.Low), .d (.int .i64 p1.Event.High), .d (lst 6 encACond p1.Event.Kids)], 1)]) (fun p => p.1.1) ⟨(_, (_, _)), hF⟩ ?_ fun p => ?_
 ·refine leF ?_
  conv => whnf
  exact lfF
 obtain ⟨⟨k3, ⟨v5_3, v9_3⟩⟩, hF⟩ := p
 obtain ⟨k3, rfl, hF⟩ := hΦ3 _ _ hF
 simp only [ref09_Needs_b3] at hF
 conv => whnf
 refine brF hF ebF (fun hF => ?_) (fun hF => ?_)
 ·conv => whnf
  obtain ⟨x81, hx81, hF⟩ := bindF hF
  refine callA (ref09_Uses_w _ _ _ hx81) ?_
  conv => whnf
  refine brF hF ebF (fun hF => ?_) (fun hF => ?_)
  ·conv => whnf
   refine ⟨⟨by decide +kernel, by kernel_rfl⟩, ?_⟩
   conv => whnf
   obtain ⟨x88, hx88, hF⟩ := bindF hF
   refine callA (ref02_Finest_w _ _ _ hx88) ?_
   conv => whnf
   obtain ⟨x89, hx89, hF⟩ := bindF hF
   refine callA (ref02_Least_w _ _ _ _ hx89) ?_
   conv => whnf
   obtain ⟨x90, hx90, hF⟩ := bindF hF
   refine callA (ref05_Raise_w _ _ _ _ hx90) ?_
   conv => whnf
   refine ⟨⟨(_, (_, _)), hF⟩, ?_, Nat.lt_succ_self _⟩
   refine leF ?_
   conv => whnf
   exact lfF
  conv => whnf
  refine ⟨⟨(_, (_, _)), hF⟩, ?_, Nat.lt_succ_self _⟩
  refine leF ?_
  conv => whnf
  exact lfF
 conv => whnf
 obtain rfl := Option.some.inj hF
 exact ⟨rtF⟩

theorem ref09_Suffice_w (d : Nat) (p0 : ASchema) (p1 : AQuestion) (p2 : (List APick)) (R : Bool)  (hF : ref09_Suffice d p0 p1 p2 = some R) : ACall Tryz.prog 133 [.d (encASchema p0), .d (encAQuestion p1), .d (lst 2 encAPick p2)] (.d (.bool R)) := by
 refine acall Tryz.func133 (by kernel_rfl) ?_
 unfold ref09_Suffice at hF
 conv => whnf
 obtain ⟨x9, hx9, hF⟩ := bindF hF
 refine callA (ref08_Question_w _ _ _ _ hx9) ?_
 conv => whnf
 refine brF hF ebF (fun hF => ?_) (fun hF => ?_)
 ·obtain ⟨x14, hx14, hF⟩ := bindF hF
  refine callA (ref02_Picks_w _ _ _ hx14) ?_
  conv => whnf
  refine brF hF ebF (fun hF => ?_) (fun hF => ?_)
  ·obtain ⟨x20, hx20, hF⟩ := bindF hF
   refine callA (ref09_Needs_w _ _ _ _ hx20) ?_
   conv => whnf
   obtain ⟨x22, hx22, hF⟩ := bindF hF
   refine callA (ref05_Covers_w _ _ _ hx22) ?_
   conv => whnf
   obtain rfl := Option.some.inj hF
   exact ⟨rtF⟩
  obtain rfl := Option.some.inj hF
  exact ⟨rtF⟩
 obtain rfl := Option.some.inj hF
 exact ⟨rtF⟩

theorem ref10_Check_w (d : Nat) (p0 : ASchema) (p1 : ADeclaration) (p2 : (List APick)) (R : Int)  (hF : ref10_Check d p0 p1 p2 = some R) : ACall Tryz.prog 71 [.d (encASchema p0), .d (encADeclaration p1), .d (lst 2 encAPick p2)] (.d (.int .i64 R)) := by
 refine acall Tryz.func71 (by kernel_rfl) ?_
 unfold ref10_Check at hF
 conv => whnf
 obtain ⟨x12, hx12, hF⟩ := bindF hF
 refine callA (ref08_Check_w _ _ _ _ hx12) ?_
 conv => whnf
 refine brF hF ebF (fun hF => ?_) (fun hF => ?_)
 ·conv => whnf
  obtain rfl := Option.some.inj hF
  exact ⟨rtF⟩
 conv => whnf
 obtain ⟨x18, hx18, hF⟩ := bindF hF
 refine callA (ref02_Picks_w _ _ _ hx18) ?_
 conv => whnf
 refine brF hF ebF (fun hF => ?_) (fun hF => ?_)
 ·conv => whnf
  obtain rfl := Option.some.inj hF
  exact ⟨rtF⟩
 conv => whnf
 obtain ⟨Φ1, hΦ1, hF⟩ := iterF hF
 refine loop {p : Nat × Int // Φ1 p.1 p.2 = some R} (fun p => mkS 38 [(2, .d (lst 2 encAPick p2)), (3, .ptr 3 1 0), (4, .ptr 4 1 0), (9, .d (.int .i64 p.1.2))] [(3, .var [.d (lst 2 encACodeList p0.Lists), .d (lst 7 encAColumn p0.Columns)], 1), (4, .var [.d (.str p1.Project), .d (.str p1.Source), .d (.int .i64 p1.Cohort.Op), .d (.int .i64 p1.Cohort.Column), .d (.int .i64 p1.Cohort.Code), .d (.int .i64 p1.Cohort.Low), .d (.int .i64 p1.Cohort.High), .d (lst 6 encACond p1.Cohort.Kids), .d (.int .i64 p1.Sample.Part), .d (.int .i64 p1.Sample.Of), .d (.int .i64 p1.Sample.Seed), .d (lst 17 encAQuestion p1.Questions)], 1)]) (fun p => p.1.1) ⟨(_, _), hF⟩ ?_ fun p => ?_
 ·refine leF ?_
  conv => whnf
  exact lfF
 obtain ⟨⟨k1, v9_1⟩, hF⟩ := p
 obtain ⟨k1, rfl, hF⟩ := hΦ1 _ _ hF
 simp only [ref10_Check_b1] at hF
 conv => whnf
 refine brF hF ebF (fun hF => ?_) (fun hF => ?_)
 ·conv => whnf
  refine ⟨⟨by decide +kernel, by kernel_rfl⟩, ?_⟩
  conv => whnf
  refine atF (f := encAQuestion) hF ebF fun x33 hx33 hF => ?_
  conv => whnf
  obtain ⟨x36, hx36, hF⟩ := bindF hF
  refine callA (ref09_Suffice_w _ _ _ _ _ hx36) ?_
  conv => whnf
  refine brF hF ebF (fun hF => ?_) (fun hF => ?_)
  ·conv => whnf
   obtain rfl := Option.some.inj hF
   exact ⟨rtF⟩
  conv => whnf
  refine ⟨⟨(_, _), hF⟩, ?_, Nat.lt_succ_self _⟩
  refine leF ?_
  conv => whnf
  exact lfF
 conv => whnf
 obtain rfl := Option.some.inj hF
 exact ⟨rtF⟩

theorem ref05_join_w (p0 : Int) (p1 : (List Int)) (R : Int)  (hF : ref05_join p0 p1 = some R) : ACall Tryz.prog 163 [.d (.int .i64 p0), .d (lst 1 (D.int .i64) p1)] (.d (.int .i64 R)) := by
 refine acall Tryz.func163 (by kernel_rfl) ?_
 unfold ref05_join at hF
 conv => whnf
 refine brF hF ebF (fun hF => ?_) (fun hF => ?_)
 ·conv => whnf
  refine atF (f := (D.int .i64)) hF ebF fun x9 hx9 hF => ?_
  conv => whnf
  obtain rfl := Option.some.inj hF
  exact ⟨rtF⟩
 conv => whnf
 refine brF hF ebF (fun hF => ?_) (fun hF => ?_)
 ·conv => whnf
  refine ⟨⟨by decide +kernel, by kernel_rfl⟩, ?_⟩
  conv => whnf
  refine atF (f := (D.int .i64)) hF ebF fun x15 hx15 hF => ?_
  conv => whnf
  refine atF (f := (D.int .i64)) hF ebF fun x18 hx18 hF => ?_
  conv => whnf
  obtain rfl := Option.some.inj hF
  exact ⟨rtF⟩
 conv => whnf
 refine brF hF ebF (fun hF => ?_) (fun hF => ?_)
 ·conv => whnf
  refine ⟨⟨by decide +kernel, by kernel_rfl⟩, ?_⟩
  conv => whnf
  refine atF (f := (D.int .i64)) hF ebF fun x24 hx24 hF => ?_
  conv => whnf
  refine atF (f := (D.int .i64)) hF ebF fun x27 hx27 hF => ?_
  conv => whnf
  obtain rfl := Option.some.inj hF
  exact ⟨rtF⟩
 conv => whnf
 obtain rfl := Option.some.inj hF
 exact ⟨rtF⟩

theorem ref05_eval_ws (d : Nat) (self_ref05_eval : (ASchema → ACond → (List Int) → Option Int)) (ih_ref05_eval : ∀ (p0 : ASchema) (p1 : ACond) (p2 : (List Int)) (R : Int) , self_ref05_eval p0 p1 p2 = some R → ACall Tryz.prog 199 [.d (encASchema p0), .d (opACond p1), .d (lst 1 (D.int .i64) p2)] (.d (.int .i64 R))) (p0 : ASchema) (p1 : ACond) (p2 : (List Int)) (R : Int)  (hF : ref05_eval_s d self_ref05_eval p0 p1 p2 = some R) : ACall Tryz.prog 199 [.d (encASchema p0), .d (opACond p1), .d (lst 1 (D.int .i64) p2)] (.d (.int .i64 R)) := by
 refine acall Tryz.func199 (by kernel_rfl) ?_
 unfold ref05_eval_s at hF
 conv => whnf
 refine brF hF ebF (fun hF => ?_) (fun hF => ?_)
 ·conv => whnf
  refine ⟨⟨by decide +kernel, by kernel_rfl⟩, ?_⟩
  conv => whnf
  refine atF (f := (D.int .i64)) hF ebF fun x27 hx27 hF => ?_
  conv => whnf
  obtain ⟨x29, hx29, hF⟩ := bindF hF
  refine callA (ref05_Atom_w _ _ _ _ hx29) ?_
  conv => whnf
  obtain rfl := Option.some.inj hF
  exact ⟨rg0⟩
 conv => whnf
 obtain ⟨Φ1, hΦ1, hF⟩ := iterF hF
 refine loop {p : Nat × (Int × (List Int)) // Φ1 p.1 p.2 = some R} (fun p => mkS 52 [(2, .d (lst 1 (D.int .i64) p2)), (3, .ptr 3 1 0), (4, .ptr 4 1 0), (7, .sl 7 1), (8, .d (.int .i64 p.1.2.1))] [(3, .var [.d (lst 2 encACodeList p0.Lists), .d (lst 7 encAColumn p0.Columns)], 1), (4, .var [.d (.int .i64 p1.Op), .d (.int .i64 p1.Column), .d (.int .i64 p1.Code), .d (.int .i64 p1.Low), .d (.int .i64 p1.High), .d (lst 6 encACond p1.Kids)], 1), (7, .row 1 3 (List.map (D.int .i64) p.1.2.2), 1)]) (fun p => p.1.1) ⟨(_, (_, _)), hF⟩ ?_ fun p => ?_
 ·refine leF ?_
  conv => whnf
  exact lg0
 obtain ⟨⟨k1, ⟨v8_1, b7_1⟩⟩, hF⟩ := p
 obtain ⟨k1, rfl, hF⟩ := hΦ1 _ _ hF
 simp only [ref05_eval_b1] at hF
 conv => whnf
 refine brF hF ebF (fun hF => ?_) (fun hF => ?_)
 ·conv => whnf
  refine ⟨⟨by decide +kernel, by kernel_rfl⟩, ?_⟩
  conv => whnf
  refine atF (f := encACond) hF ebF fun x42 hx42 hF => ?_
  rw [encACond_op x42]
  conv => whnf
  obtain ⟨x45, hx45, hF⟩ := bindF hF
  first | refine callA (ih_ref05_eval _ _ _ _ hx45) ?_ | (simp only [List.length_map]; refine callA (ih_ref05_eval _ _ _ _ hx45) ?_)
  conv => whnf
  obtain ⟨hr, hF⟩ := gdF hF
  refine ⟨by (simp only [List.length_map]; exact rm_fits hr (of_decide_eq_true (by kernel_rfl)) (.inr (by kernel_rfl))), ?_⟩
  try rw [snocI]
  conv => whnf
  refine ⟨⟨(_, (_, _)), hF⟩, ?_, Nat.lt_succ_self _⟩
  refine leF ?_
  conv => whnf
  exact lg0
 conv => whnf
 obtain ⟨x51, hx51, hF⟩ := bindF hF
 refine callA (ref05_join_w _ _ _ hx51) ?_
 conv => whnf
 obtain rfl := Option.some.inj hF
 exact ⟨rg0⟩

theorem ref05_eval_wr : ∀ d : Nat, (∀ (p0 : ASchema) (p1 : ACond) (p2 : (List Int)) (R : Int) , ref05_eval d p0 p1 p2 = some R → ACall Tryz.prog 199 [.d (encASchema p0), .d (opACond p1), .d (lst 1 (D.int .i64) p2)] (.d (.int .i64 R)))
  | 0 => by
   refine (by intros; rename_i h; cases h)
  | d + 1 => by
   have ih := ref05_eval_wr d
   exact ref05_eval_ws d _ ih

theorem ref05_eval_w (d : Nat) : ∀ (p0 : ASchema) (p1 : ACond) (p2 : (List Int)) (R : Int) , ref05_eval d p0 p1 p2 = some R → ACall Tryz.prog 199 [.d (encASchema p0), .d (opACond p1), .d (lst 1 (D.int .i64) p2)] (.d (.int .i64 R)) := ref05_eval_wr d

theorem ref05_Eval_w (d : Nat) (p0 : ASchema) (p1 : ACond) (p2 : (List Int)) (R : Int)  (hF : ref05_Eval d p0 p1 p2 = some R) : ACall Tryz.prog 134 [.d (encASchema p0), .d (opACond p1), .d (lst 1 (D.int .i64) p2)] (.d (.int .i64 R)) := by
 refine acall Tryz.func134 (by kernel_rfl) ?_
 unfold ref05_Eval at hF
 conv => whnf
 obtain ⟨x9, hx9, hF⟩ := bindF hF
 refine callA (ref05_Check_w _ _ _ _ hx9) ?_
 conv => whnf
 refine brF hF ebF (fun hF => ?_) (fun hF => ?_)
 ·obtain rfl := Option.some.inj hF
  exact ⟨rg0⟩
 obtain ⟨x14, hx14, hF⟩ := bindF hF
 refine callA (ref02_Row_w _ _ _ hx14) ?_
 conv => whnf
 refine brF hF ebF (fun hF => ?_) (fun hF => ?_)
 ·conv => whnf
  obtain rfl := Option.some.inj hF
  exact ⟨rg0⟩
 conv => whnf
 obtain ⟨x20, hx20, hF⟩ := bindF hF
 refine callA (ref05_eval_w _ _ _ _ _ hx20) ?_
 conv => whnf
 obtain rfl := Option.some.inj hF
 exact ⟨rg0⟩

theorem ref11_Check_w (p0 : ASample) (R : Int)  (hF : ref11_Check p0 = some R) : ACall Tryz.prog 200 [.d (encASample p0)] (.d (.int .i64 R)) := by
 refine acall Tryz.func200 (by kernel_rfl) ?_
 unfold ref11_Check at hF
 conv => whnf
 refine brF hF ebF (fun hF => ?_) (fun hF => ?_)
 ·conv => whnf
  obtain rfl := Option.some.inj hF
  exact ⟨rtF⟩
 conv => whnf
 obtain rfl := Option.some.inj hF
 exact ⟨rtF⟩

theorem ref11_Draw_w (p0 : Int) (p1 : Int) (R : Int)  (hF : ref11_Draw p0 p1 = some R) : ACall Tryz.prog 201 [.d (.int .i64 p0), .d (.int .i64 p1)] (.d (.int .i64 R)) := by
 refine acall Tryz.func201 (by kernel_rfl) ?_
 unfold ref11_Draw at hF
 conv => whnf
 obtain ⟨Φ1, hΦ1, hF⟩ := iterF hF
 refine loop {p : Nat × (Int × Int) // Φ1 p.1 p.2 = some R} (fun p => mkS 29 [(5, .d (.int .u64 p.1.2.1)), (6, .d (.int .i64 p.1.2.2))] []) (fun p => p.1.1) ⟨(_, (_, _)), hF⟩ ?_ fun p => ?_
 ·refine leF ?_
  conv => whnf
  exact lfF
 obtain ⟨⟨k1, ⟨v5_1, v6_1⟩⟩, hF⟩ := p
 obtain ⟨k1, rfl, hF⟩ := hΦ1 _ _ hF
 simp only [ref11_Draw_b1] at hF
 conv => whnf
 refine brF hF ebF (fun hF => ?_) (fun hF => ?_)
 ·conv => whnf
  refine ⟨by omega, ?_⟩
  conv => whnf
  refine ⟨⟨(_, (_, _)), hF⟩, ?_, Nat.lt_succ_self _⟩
  refine leF ?_
  conv => whnf
  exact lfF
 conv => whnf
 refine ⟨by omega, ?_⟩
 conv => whnf
 obtain rfl := Option.some.inj hF
 exact ⟨rtF⟩

theorem ref11_In_w (p0 : ASample) (p1 : Int) (R : Bool)  (hF : ref11_In p0 p1 = some R) : ACall Tryz.prog 135 [.d (encASample p0), .d (.int .i64 p1)] (.d (.bool R)) := by
 refine acall Tryz.func135 (by kernel_rfl) ?_
 unfold ref11_In at hF
 conv => whnf
 refine ⟨⟨by decide +kernel, by kernel_rfl⟩, ?_⟩
 conv => whnf
 obtain ⟨x6, hx6, hF⟩ := bindF hF
 refine callA (ref11_Check_w _ _ hx6) ?_
 conv => whnf
 refine brF hF ebF (fun hF => ?_) (fun hF => ?_)
 ·obtain ⟨x20, hx20, hF⟩ := bindF hF
  refine callA (ref11_Draw_w _ _ _ hx20) ?_
  conv => whnf
  obtain ⟨hr, hF⟩ := gdF hF
  refine ⟨of_decide_eq_true hr, ?_⟩
  conv => whnf
  obtain rfl := Option.some.inj hF
  exact ⟨rtF⟩
 obtain rfl := Option.some.inj hF
 exact ⟨rtF⟩

theorem ref13_Owners_w (d : Nat) (p0 : ASource) (p1 : ADeclaration) (R : (List Int))  (hF : ref13_Owners d p0 p1 = some R) : ACall Tryz.prog 72 [.d (encASource p0), .d (encADeclaration p1)] (.d (lst 1 (D.int .i64) R)) := by
 refine acallJ [3] Tryz.func72 (by kernel_rfl) ?_
 unfold ref13_Owners at hF
 conv => whnf
 refine join {p : Unit // ref13_Owners_j1 p0 d p1 = some R} (fun p => mkS 58 [(2, .ptr 2 1 0), (3, .ptr 3 1 0)] [(2, .var [.d (lst 2 encACodeList p0.Schema.Lists), .d (lst 7 encAColumn p0.Schema.Columns), .d (lst 1 (lst 1 (D.int .i64)) p0.Rows), .d (lst 1 (D.int .i64) p0.Gone), .d (.int .i64 p0.Version)], 1), (3, .var [.d (.str p1.Project), .d (.str p1.Source), .d (.int .i64 p1.Cohort.Op), .d (.int .i64 p1.Cohort.Column), .d (.int .i64 p1.Cohort.Code), .d (.int .i64 p1.Cohort.Low), .d (.int .i64 p1.Cohort.High), .d (lst 6 encACond p1.Cohort.Kids), .d (.int .i64 p1.Sample.Part), .d (.int .i64 p1.Sample.Of), .d (.int .i64 p1.Sample.Seed), .d (lst 17 encAQuestion p1.Questions)], 1)]) ?_ fun p => ?_
 ·conv => whnf
  obtain ⟨x8, hx8, hF⟩ := bindF hF
  refine callA (ref04_Valid_w _ _ hx8) ?_
  conv => whnf
  refine brF hF ebF (fun hF => ?_) (fun hF => ?_)
  ·obtain rfl := Option.some.inj hF
   refine ⟨.inl ?_⟩
   conv => whnf
   exact ⟨rtF⟩
  obtain ⟨x14, hx14, hF⟩ := bindF hF
  refine callA (ref08_Check_w _ _ _ _ hx14) ?_
  conv => whnf
  refine brF hF ebF (fun hF => ?_) (fun hF => ?_)
  ·conv => whnf
   obtain rfl := Option.some.inj hF
   refine ⟨.inl ?_⟩
   conv => whnf
   exact ⟨rtF⟩
  conv => whnf
  refine ⟨⟨(), hF⟩, ?_⟩
  refine leF ?_
  conv => whnf
  exact lfF
 obtain ⟨_, hF⟩ := p
 simp only [ref13_Owners_j1] at hF
 conv => whnf
 obtain ⟨Φ1, hΦ1, hF⟩ := iterF hF
 refine loop {p : Nat × (Int × (List Int)) // Φ1 p.1 p.2 = some R} (fun p => mkS 58 [(2, .ptr 2 1 0), (3, .ptr 3 1 0), (5, .sl 5 1), (6, .d (.int .i64 p.1.2.1))] [(2, .var [.d (lst 2 encACodeList p0.Schema.Lists), .d (lst 7 encAColumn p0.Schema.Columns), .d (lst 1 (lst 1 (D.int .i64)) p0.Rows), .d (lst 1 (D.int .i64) p0.Gone), .d (.int .i64 p0.Version)], 1), (3, .var [.d (.str p1.Project), .d (.str p1.Source), .d (.int .i64 p1.Cohort.Op), .d (.int .i64 p1.Cohort.Column), .d (.int .i64 p1.Cohort.Code), .d (.int .i64 p1.Cohort.Low), .d (.int .i64 p1.Cohort.High), .d (lst 6 encACond p1.Cohort.Kids), .d (.int .i64 p1.Sample.Part), .d (.int .i64 p1.Sample.Of), .d (.int .i64 p1.Sample.Seed), .d (lst 17 encAQuestion p1.Questions)], 1), (5, .row 1 3 (List.map (D.int .i64) p.1.2.2), 1)]) (fun p => p.1.1) ⟨(_, (_, _)), hF⟩ ?_ fun p => ?_
 ·refine leF ?_
  conv => whnf
  exact lfF
 obtain ⟨⟨k1, ⟨v6_1, b5_1⟩⟩, hF⟩ := p
 obtain ⟨k1, rfl, hF⟩ := hΦ1 _ _ hF
 simp only [ref13_Owners_b1] at hF
 conv => whnf
 refine brF hF ebF (fun hF => ?_) (fun hF => ?_)
 ·conv => whnf
  refine ⟨⟨by decide +kernel, by kernel_rfl⟩, ?_⟩
  conv => whnf
  refine atF (f := (lst 1 (D.int .i64))) hF ebF fun x31 hx31 hF => ?_
  conv => whnf
  obtain ⟨x33, hx33, hF⟩ := bindF hF
  refine callA (ref05_Eval_w _ _ _ _ _ hx33) ?_
  conv => whnf
  refine brF hF ebF (fun hF => ?_) (fun hF => ?_)
  ·refine atF (f := (lst 1 (D.int .i64))) hF ebF fun x41 hx41 hF => ?_
   conv => whnf
   refine atF (f := (D.int .i64)) hF ebF fun x43 hx43 hF => ?_
   conv => whnf
   obtain ⟨x45, hx45, hF⟩ := bindF hF
   refine callA (ref11_In_w _ _ _ hx45) ?_
   conv => whnf
   refine brF hF ebF (fun hF => ?_) (fun hF => ?_)
   ·conv => whnf
    refine atF (f := (lst 1 (D.int .i64))) hF ebF fun x51 hx51 hF => ?_
    conv => whnf
    refine atF (f := (D.int .i64)) hF ebF fun x53 hx53 hF => ?_
    conv => whnf
    obtain ⟨hr, hF⟩ := gdF hF
    refine ⟨by (simp only [List.length_map]; exact rm_fits hr (of_decide_eq_true (by kernel_rfl)) (.inr (by kernel_rfl))), ?_⟩
    try rw [snocI]
    conv => whnf
    refine ⟨⟨(_, (_, _)), hF⟩, ?_, Nat.lt_succ_self _⟩
    refine leF ?_
    conv => whnf
    exact lfF
   conv => whnf
   refine ⟨⟨(_, (_, _)), hF⟩, ?_, Nat.lt_succ_self _⟩
   refine leF ?_
   conv => whnf
   exact lfF
  refine ⟨⟨(_, (_, _)), hF⟩, ?_, Nat.lt_succ_self _⟩
  refine leF ?_
  conv => whnf
  exact lfF
 conv => whnf
 obtain rfl := Option.some.inj hF
 refine ⟨.inl ?_⟩
 conv => whnf
 exact ⟨rtF⟩

theorem ref12_right_w (p0 : Int) (p1 : Int) (R : Bool)  (hF : ref12_right p0 p1 = some R) : ACall Tryz.prog 136 [.d (.int .i64 p0), .d (.int .i64 p1)] (.d (.bool R)) := by
 refine acall Tryz.func136 (by kernel_rfl) ?_
 unfold ref12_right at hF
 conv => whnf
 obtain rfl := Option.some.inj hF
 exact ⟨rtF⟩

theorem ref12_Round_w (p0 : Int) (p1 : Int) (p2 : Int) (R : Int)  (hF : ref12_Round p0 p1 p2 = some R) : ACall Tryz.prog 137 [.d (.int .i64 p0), .d (.int .i64 p1), .d (.int .i64 p2)] (.d (.int .i64 R)) := by
 refine acall Tryz.func137 (by kernel_rfl) ?_
 unfold ref12_Round at hF
 conv => whnf
 refine brF hF ebF (fun hF => ?_) (fun hF => ?_)
 ·conv => whnf
  obtain rfl := Option.some.inj hF
  exact ⟨rtF⟩
 conv => whnf
 obtain ⟨Φ1, hΦ1, hF⟩ := iterF hF
 refine loop {p : Nat × (Int × Int) // Φ1 p.1 p.2 = some R} (fun p => mkS 54 [(7, .d (.int .u64 p.1.2.1)), (8, .d (.int .i64 p.1.2.2))] []) (fun p => p.1.1) ⟨(_, (_, _)), hF⟩ ?_ fun p => ?_
 ·refine leF ?_
  conv => whnf
  exact lfF
 obtain ⟨⟨k1, ⟨v7_1, v8_1⟩⟩, hF⟩ := p
 obtain ⟨k1, rfl, hF⟩ := hΦ1 _ _ hF
 simp only [ref12_Round_b1] at hF
 conv => whnf
 refine brF hF ebF (fun hF => ?_) (fun hF => ?_)
 ·conv => whnf
  refine ⟨by omega, ?_⟩
  conv => whnf
  refine ⟨⟨(_, (_, _)), hF⟩, ?_, Nat.lt_succ_self _⟩
  refine leF ?_
  conv => whnf
  exact lfF
 conv => whnf
 refine ⟨by omega, ?_⟩
 conv => whnf
 obtain rfl := Option.some.inj hF
 exact ⟨rtF⟩

theorem ref12_Key_w (p0 : Int) (p1 : Int) (R : Int)  (hF : ref12_Key p0 p1 = some R) : ACall Tryz.prog 74 [.d (.int .i64 p0), .d (.int .i64 p1)] (.d (.int .i64 R)) := by
 refine acall Tryz.func74 (by kernel_rfl) ?_
 unfold ref12_Key at hF
 conv => whnf
 obtain ⟨x10, hx10, hF⟩ := bindF hF
 refine callA (ref12_right_w _ _ _ hx10) ?_
 conv => whnf
 refine brF hF ebF (fun hF => ?_) (fun hF => ?_)
 ·conv => whnf
  obtain rfl := Option.some.inj hF
  exact ⟨rtF⟩
 conv => whnf
 refine ⟨by omega, ?_⟩
 conv => whnf
 refine ⟨by omega, ?_⟩
 conv => whnf
 obtain ⟨Φ1, hΦ1, hF⟩ := iterF hF
 refine loop {p : Nat × (Int × Int × Int) // Φ1 p.1 p.2 = some R} (fun p => mkS 31 [(0, .d (.int .i64 p0)), (5, .d (.int .i64 p.1.2.1)), (6, .d (.int .i64 p.1.2.2.1)), (7, .d (.int .i64 p.1.2.2.2))] []) (fun p => p.1.1) ⟨(_, (_, _, _)), hF⟩ ?_ fun p => ?_
 ·refine leF ?_
  conv => whnf
  exact lfF
 obtain ⟨⟨k1, ⟨v5_1, v6_1, v7_1⟩⟩, hF⟩ := p
 obtain ⟨k1, rfl, hF⟩ := hΦ1 _ _ hF
 simp only [ref12_Key_b1] at hF
 conv => whnf
 refine brF hF ebF (fun hF => ?_) (fun hF => ?_)
 ·conv => whnf
  obtain ⟨x25, hx25, hF⟩ := bindF hF
  refine callA (ref12_Round_w _ _ _ _ hx25) ?_
  conv => whnf
  refine ⟨⟨(_, (_, _, _)), hF⟩, ?_, Nat.lt_succ_self _⟩
  refine leF ?_
  conv => whnf
  exact lfF
 conv => whnf
 obtain rfl := Option.some.inj hF
 exact ⟨rtF⟩

theorem ref13_Build_w (d : Nat) (p0 : ASource) (p1 : ADeclaration) (p2 : (List APick)) (p3 : Int) (R : (AExtract × Int))  (hF : ref13_Build d p0 p1 p2 p3 = some R) : ACall Tryz.prog 28 [.d (encASource p0), .d (encADeclaration p1), .d (lst 2 encAPick p2), .d (.int .i64 p3)] (.tup [.d (encAExtract R.1), .d (.int .i64 R.2)]) := by
 refine acall Tryz.func28 (by kernel_rfl) ?_
 unfold ref13_Build at hF
 conv => whnf
 obtain ⟨x18, hx18, hF⟩ := bindF hF
 refine callA (ref04_Valid_w _ _ hx18) ?_
 conv => whnf
 refine brF hF ebF (fun hF => ?_) (fun hF => ?_)
 ·conv => whnf
  obtain rfl := Option.some.inj hF
  exact ⟨rtF⟩
 conv => whnf
 obtain ⟨x25, hx25, hF⟩ := bindF hF
 refine callA (ref10_Check_w _ _ _ _ _ hx25) ?_
 conv => whnf
 refine brF hF ebF (fun hF => ?_) (fun hF => ?_)
 ·conv => whnf
  obtain rfl := Option.some.inj hF
  exact ⟨rtF⟩
 conv => whnf
 refine brF hF ebF (fun hF => ?_) (fun hF => ?_)
 ·conv => whnf
  obtain rfl := Option.some.inj hF
  exact ⟨rtF⟩
 conv => whnf
 refine ⟨⟨by decide +kernel, by kernel_rfl⟩, ?_⟩
 conv => whnf
 obtain ⟨hr, hF⟩ := gdF hF
 refine ⟨by (simp only [List.length_map]; exact rm_fits hr (of_decide_eq_true (by kernel_rfl)) (.inr (by kernel_rfl))), ?_⟩
 conv => whnf
 refine ⟨.inr ?_⟩
 conv => whnf
 obtain ⟨x46, hx46, hF⟩ := bindF hF
 refine callA (ref13_Owners_w _ _ _ _ hx46) ?_
 conv => whnf
 obtain ⟨Φ1, hΦ1, hF⟩ := iterF hF
 refine loop {p : Nat × (Int × (List (List Int))) // Φ1 p.1 p.2 = some R} (fun p => mkS 106 [(2, .d (lst 2 encAPick p2)), (3, .d (.int .i64 p3)), (4, .ptr 4 1 0), (8, .ptr 8 1 0), (11, .ptr 11 1 0), (12, .d (lst 1 (D.int .i64) x46)), (13, .d (.int .i64 p.1.2.1))] [(4, .var [.d (lst 2 encACodeList p0.Schema.Lists), .d (lst 7 encAColumn p0.Schema.Columns), .d (lst 1 (lst 1 (D.int .i64)) p0.Rows), .d (lst 1 (D.int .i64) p0.Gone), .d (.int .i64 p0.Version)], 1), (8, .var [.d (.str ByteArray.empty), .d (.int .i64 0), .d (.nil 2), .d (.nil 1)], 1), (11, .var [.d (.str p1.Project), .d (.int .i64 p0.Version), .sl 42 1, .d (lst 1 (lst 1 (D.int .i64)) p.1.2.2)], 1), (42, .row 2 43 (List.map encAPick p2), 1)]) (fun p => p.1.1) ⟨(_, (_, _)), hF⟩ ?_ fun p => ?_
 ·refine leF ?_
  conv => whnf
  exact lfF
 obtain ⟨⟨k1, ⟨v13_1, c11_3_1⟩⟩, hF⟩ := p
 obtain ⟨k1, rfl, hF⟩ := hΦ1 _ _ hF
 simp only [ref13_Build_b1] at hF
 conv => whnf
 refine brF hF ebF (fun hF => ?_) (fun hF => ?_)
 ·conv => whnf
  refine ⟨⟨by decide +kernel, by kernel_rfl⟩, ?_⟩
  conv => whnf
  refine atF (f := (D.int .i64)) hF ebF fun x58 hx58 hF => ?_
  conv => whnf
  obtain ⟨x60, hx60, hF⟩ := bindF hF
  refine callA (ref04_Find_w _ _ _ hx60) ?_
  conv => whnf
  refine atF (f := (lst 1 (D.int .i64))) hF ebF fun x61 hx61 hF => ?_
  conv => whnf
  refine atF (f := (D.int .i64)) hF ebF fun x66 hx66 hF => ?_
  conv => whnf
  obtain ⟨x68, hx68, hF⟩ := bindF hF
  refine callA (ref12_Key_w _ _ _ hx68) ?_
  conv => whnf
  obtain ⟨Φ2, hΦ2, hF⟩ := iterF hF
  refine loop {p : Nat × (Int × (List Int)) // Φ2 p.1 p.2 = some R} (fun p => mkS 106 [(2, .d (lst 2 encAPick p2)), (3, .d (.int .i64 p3)), (4, .ptr 4 1 0), (8, .ptr 8 1 0), (11, .ptr 11 1 0), (12, .d (lst 1 (D.int .i64) x46)), (13, .d (.int .i64 v13_1)), (14, .d (lst 1 (D.int .i64) x61)), (15, .sl 69 1), (16, .d (.int .i64 p.1.2.1))] [(4, .var [.d (lst 2 encACodeList p0.Schema.Lists), .d (lst 7 encAColumn p0.Schema.Columns), .d (lst 1 (lst 1 (D.int .i64)) p0.Rows), .d (lst 1 (D.int .i64) p0.Gone), .d (.int .i64 p0.Version)], 1), (8, .var [.d (.str ByteArray.empty), .d (.int .i64 0), .d (.nil 2), .d (.nil 1)], 1), (11, .var [.d (.str p1.Project), .d (.int .i64 p0.Version), .sl 42 1, .d (lst 1 (lst 1 (D.int .i64)) c11_3_1)], 1), (42, .row 2 43 (List.map encAPick p2), 1), (69, .row 1 3 (List.map (D.int .i64) p.1.2.2), 1)]) (fun p => p.1.1) ⟨(_, (_, _)), hF⟩ ?_ fun p => ?_
  ·refine leF ?_
   conv => whnf
   exact lfF
  obtain ⟨⟨k2, ⟨v16_2, b69_2⟩⟩, hF⟩ := p
  obtain ⟨k2, rfl, hF⟩ := hΦ2 _ _ hF
  simp only [ref13_Build_b2] at hF
  conv => whnf
  refine brF hF ebF (fun hF => ?_) (fun hF => ?_)
  ·conv => whnf
   refine ⟨⟨by decide +kernel, by kernel_rfl⟩, ?_⟩
   conv => whnf
   refine atF (f := encAPick) hF ebF fun x81 hx81 hF => ?_
   conv => whnf
   refine atF (f := encAPick) hF ebF fun x86 hx86 hF => ?_
   conv => whnf
   refine atF (f := encAPick) hF ebF fun x92 hx92 hF => ?_
   conv => whnf
   refine atF (f := (D.int .i64)) hF ebF fun x95 hx95 hF => ?_
   conv => whnf
   obtain ⟨x97, hx97, hF⟩ := bindF hF
   refine callA (ref02_Coarse_w _ _ _ _ _ hx97) ?_
   conv => whnf
   obtain ⟨hr, hF⟩ := gdF hF
   refine ⟨by (simp only [List.length_map]; exact rm_fits hr (of_decide_eq_true (by kernel_rfl)) (.inr (by kernel_rfl))), ?_⟩
   try rw [snocI]
   conv => whnf
   refine ⟨⟨(_, (_, _)), hF⟩, ?_, Nat.lt_succ_self _⟩
   refine leF ?_
   conv => whnf
   exact lfF
  conv => whnf
  obtain ⟨x103, hx103, hF⟩ := bindF hF
  refine callA (ref04_Put_w _ _ _ hx103) ?_
  conv => whnf
  refine ⟨⟨(_, (_, _)), hF⟩, ?_, Nat.lt_succ_self _⟩
  refine leF ?_
  conv => whnf
  exact lfF
 conv => whnf
 obtain rfl := Option.some.inj hF
 exact ⟨rtF⟩

theorem draw_Codes_Secret_w (p0 : DrawCodes) (R : (Int × DrawCodes))  (hF : draw_Codes_Secret p0 = some R) : MCall Tryz.prog 29 [.optr [(lst 1 (D.int .u8) p0.f_l), (.int .i64 p0.f_at)]] [.optr [(lst 1 (D.int .u8) R.2.f_l), (.int .i64 R.2.f_at)]] (.d (.int .i64 R.1)) := by
 refine mcall Tryz.func29 (by kernel_rfl) rfl ?_ ?_
 ·intro i x y hx hy
  match i, hx, hy with
  | 0, hx, hy => simp at hx hy; subst hx; subst hy; exact ⟨_, rfl, rfl⟩
  | i + 1, hx, hy => simp at hx
 unfold draw_Codes_Secret at hF
 conv => whnf
 obtain ⟨x4, hx4, hF⟩ := bindF hF
 refine callM (draw_Codes_Next_w _ _ _ hx4) ?_
 conv => whnf
 obtain ⟨x6, hx6, hF⟩ := bindF hF
 refine callM (draw_Codes_Next_w _ _ _ hx6) ?_
 conv => whnf
 obtain ⟨x9, hx9, hF⟩ := bindF hF
 refine callM (draw_Codes_Next_w _ _ _ hx9) ?_
 conv => whnf
 obtain rfl := Option.some.inj hF
 refine ⟨by first | rfl | (simp only [List.length_map]; rfl), ?_⟩
 conv => whnf
 exact ⟨rtF⟩

theorem draw_Codes_Whole_w (d : Nat) (p0 : DrawCodes) (p1 : Int) (R : (ASource × AExtract × DrawCodes))  (hF : draw_Codes_Whole d p0 p1 = some R) : MCall Tryz.prog 7 [.optr [(lst 1 (D.int .u8) p0.f_l), (.int .i64 p0.f_at)], .d (.int .i64 p1)] [.optr [(lst 1 (D.int .u8) R.2.2.f_l), (.int .i64 R.2.2.f_at)], .any] (.tup [.d (encASource R.1), .d (encAExtract R.2.1)]) := by
 refine mcall Tryz.func7 (by kernel_rfl) rfl ?_ ?_
 ·intro i x y hx hy
  match i, hx, hy with
  | 0, hx, hy => simp at hx hy; subst hx; subst hy; exact ⟨_, rfl, rfl⟩
  | 1, hx, hy => simp at hx hy; subst hx; subst hy; trivial
  | i + 2, hx, hy => simp at hx
 unfold draw_Codes_Whole at hF
 conv => whnf
 obtain ⟨x13, hx13, hF⟩ := bindF hF
 refine callM (draw_Codes_Source_w _ _ _ hx13) ?_
 conv => whnf
 obtain ⟨x17, hx17, hF⟩ := bindF hF
 refine callA (draw_All_w _ _ hx17) ?_
 conv => whnf
 refine ⟨⟨by decide +kernel, by kernel_rfl⟩, ?_⟩
 conv => whnf
 obtain ⟨x25, hx25, hF⟩ := bindF hF
 refine callM (draw_Codes_Secret_w _ _ hx25) ?_
 conv => whnf
 obtain ⟨x26, hx26, hF⟩ := bindF hF
 refine callA (ref13_Build_w _ _ _ _ _ _ hx26) ?_
 conv => whnf
 refine ⟨⟨by decide +kernel, by kernel_rfl⟩, ?_⟩
 conv => whnf
 obtain rfl := Option.some.inj hF
 refine ⟨by first | rfl | (simp only [List.length_map]; rfl), ?_⟩
 conv => whnf
 exact ⟨rtF⟩

theorem draw_columns_w (p0 : ASchema) (p1 : Int) (R : (List Int))  (hF : draw_columns p0 p1 = some R) : ACall Tryz.prog 30 [.d (encASchema p0), .d (.int .i64 p1)] (.d (lst 1 (D.int .i64) R)) := by
 refine acall Tryz.func30 (by kernel_rfl) ?_
 unfold draw_columns at hF
 conv => whnf
 obtain ⟨Φ1, hΦ1, hF⟩ := iterF hF
 refine loop {p : Nat × (Int × (List Int)) // Φ1 p.1 p.2 = some R} (fun p => mkS 27 [(1, .d (.int .i64 p1)), (2, .ptr 2 1 0), (5, .sl 5 1), (9, .d (.int .i64 ((p0.Columns.length : Nat) : Int))), (10, .d (.int .i64 p.1.2.1))] [(2, .var [.d (lst 2 encACodeList p0.Lists), .d (lst 7 encAColumn p0.Columns)], 1), (5, .row 1 3 (List.map (D.int .i64) p.1.2.2), 1)]) (fun p => p.1.1) ⟨(_, (_, _)), hF⟩ ?_ fun p => ?_
 ·refine leF ?_
  conv => whnf
  exact lfF
 obtain ⟨⟨k1, ⟨v10_1, b5_1⟩⟩, hF⟩ := p
 obtain ⟨k1, rfl, hF⟩ := hΦ1 _ _ hF
 simp only [draw_columns_b1] at hF
 conv => whnf
 refine brF hF ebF (fun hF => ?_) (fun hF => ?_)
 ·conv => whnf
  refine atF (f := encAColumn) hF ebF fun x16 hx16 hF => ?_
  conv => whnf
  refine brF hF ebF (fun hF => ?_) (fun hF => ?_)
  ·conv => whnf
   obtain ⟨hr, hF⟩ := gdF hF
   refine ⟨by (simp only [List.length_map]; exact rm_fits hr (of_decide_eq_true (by kernel_rfl)) (.inr (by kernel_rfl))), ?_⟩
   try rw [snocI]
   conv => whnf
   refine ⟨⟨(_, (_, _)), hF⟩, ?_, Nat.lt_succ_self _⟩
   refine leF ?_
   conv => whnf
   exact lfF
  conv => whnf
  refine ⟨⟨(_, (_, _)), hF⟩, ?_, Nat.lt_succ_self _⟩
  refine leF ?_
  conv => whnf
  exact lfF
 conv => whnf
 obtain rfl := Option.some.inj hF
 refine ⟨.inl ?_⟩
 conv => whnf
 exact ⟨rtF⟩

theorem draw_Codes_Measured_w (p0 : DrawCodes) (p1 : ASchema) (R : (Int × DrawCodes))  (hF : draw_Codes_Measured p0 p1 = some R) : MCall Tryz.prog 8 [.optr [(lst 1 (D.int .u8) p0.f_l), (.int .i64 p0.f_at)], .d (encASchema p1)] [.optr [(lst 1 (D.int .u8) R.2.f_l), (.int .i64 R.2.f_at)], .any] (.d (.int .i64 R.1)) := by
 refine mcall Tryz.func8 (by kernel_rfl) rfl ?_ ?_
 ·intro i x y hx hy
  match i, hx, hy with
  | 0, hx, hy => simp at hx hy; subst hx; subst hy; exact ⟨_, rfl, rfl⟩
  | 1, hx, hy => simp at hx hy; subst hx; subst hy; trivial
  | i + 2, hx, hy => simp at hx
 unfold draw_Codes_Measured at hF
 conv => whnf
 obtain ⟨x7, hx7, hF⟩ := bindF hF
 refine callA (draw_columns_w _ _ _ hx7) ?_
 conv => whnf
 obtain ⟨x12, hx12, hF⟩ := bindF hF
 first | refine callM (draw_Codes_Next_w _ _ _ hx12) ?_ | (simp only [List.length_map]; refine callM (draw_Codes_Next_w _ _ _ hx12) ?_)
 conv => whnf
 refine atF (f := (D.int .i64)) hF ebF fun x13 hx13 hF => ?_
 conv => whnf
 obtain rfl := Option.some.inj hF
 refine ⟨by first | rfl | (simp only [List.length_map]; rfl), ?_⟩
 conv => whnf
 exact ⟨rtF⟩

theorem draw_Mod_w (p0 : Int) (p1 : Int) (R : Int)  (hF : draw_Mod p0 p1 = some R) : ACall Tryz.prog 9 [.d (.int .i64 p0), .d (.int .i64 p1)] (.d (.int .i64 R)) := by
 refine acall Tryz.func9 (by kernel_rfl) ?_
 unfold draw_Mod at hF
 conv => whnf
 refine brF hF ebF (fun hF => ?_) (fun hF => ?_)
 ·conv => whnf
  obtain rfl := Option.some.inj hF
  exact ⟨rtF⟩
 conv => whnf
 obtain ⟨hr, hF⟩ := gdF hF
 refine ⟨of_decide_eq_true hr, ?_⟩
 conv => whnf
 refine brF hF ebF (fun hF => ?_) (fun hF => ?_)
 ·conv => whnf
  obtain rfl := Option.some.inj hF
  exact ⟨rtF⟩
 conv => whnf
 obtain rfl := Option.some.inj hF
 exact ⟨rtF⟩
end Go.Proofs.YtejfnieiaecpkaaGreatDoor.P
