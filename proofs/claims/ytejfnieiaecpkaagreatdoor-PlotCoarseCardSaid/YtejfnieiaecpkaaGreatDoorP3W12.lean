/-
 Printed by wip/tools/mkw.py: walks: condition_tell condition_Holds_c1 condition_Holds condition_Told tabulate_Holding extract_Known_c1 schema_turnCode schema_turnMeasure schema_Turned extract_Known plot_large plot_down plot_Bins tabulate_Keys plot_Hist
-/
import Derived.Test.YtejfnieiaecpkaaGreatDoorChecked
import Derived.Test.YtejfnieiaecpkaaGreatDoorP3F
import Derived.Test.YtejfnieiaecpkaaGreatDoorP3A
import Derived.Test.YtejfnieiaecpkaaGreatDoorP3HW
import Derived.Test.YtejfnieiaecpkaaGreatDoorP3W1
import Derived.Test.YtejfnieiaecpkaaGreatDoorP3W7
import Derived.Test.YtejfnieiaecpkaaGreatDoorP3W8
import Derived.Test.YtejfnieiaecpkaaGreatDoorP3W9
import Derived.Test.YtejfnieiaecpkaaGreatDoorP3W10
import Derived.Test.YtejfnieiaecpkaaGreatDoorP3W11
set_option linter.unusedSimpArgs false
namespace Go.Proofs.YtejfnieiaecpkaaGreatDoor.P
open Go.Abs Go.Proofs
set_option maxRecDepth 100000
set_option maxHeartbeats 4000000
set_option linter.unusedVariables false

theorem condition_tell_ws (d : Nat) (self_condition_tell : (ACond → (ACond → Option Int) → Option Int)) (ih_condition_tell : ∀ (p0 : ACond) (p1 : (ACond → Option Int)) (f_p1 : FuncId) (c_p1 : List D) (R : Int) (h_p1 : ∀ (a0 : ACond) r, p1 a0 = some r → ACall Tryz.prog f_p1 ([.d (opACond a0)] ++ c_p1.map .d) (.d (.int .i64 r))), self_condition_tell p0 p1 = some R → ACall Tryz.prog 211 [.d (opACond p0), .d (.fn f_p1 c_p1)] (.d (.int .i64 R))) (p0 : ACond) (p1 : (ACond → Option Int)) (f_p1 : FuncId) (c_p1 : List D) (R : Int) (h_p1 : ∀ (a0 : ACond) r, p1 a0 = some r → ACall Tryz.prog f_p1 ([.d (opACond a0)] ++ c_p1.map .d) (.d (.int .i64 r))) (hF : condition_tell_s d self_condition_tell p0 p1 = some R) : ACall Tryz.prog 211 [.d (opACond p0), .d (.fn f_p1 c_p1)] (.d (.int .i64 R)) := by
 refine acall Tryz.func211 (by kernel_rfl) ?_
 unfold condition_tell_s at hF
 conv => whnf
 refine brF hF ebF (fun hF => ?_) (fun hF => ?_)
 ·conv => whnf
  obtain rfl := Option.some.inj hF
  exact ⟨rg0⟩
 conv => whnf
 refine brF hF ebF (fun hF => ?_) (fun hF => ?_)
 ·conv => whnf
  refine ⟨⟨by decide +kernel, by kernel_rfl⟩, ?_⟩
  conv => whnf
  refine atF (f := encACond) hF ebF fun x13 hx13 hF => ?_
  rw [encACond_op x13]
  conv => whnf
  obtain ⟨x16, hx16, hF⟩ := bindF hF
  first | refine callA (ih_condition_tell _ _ _ _ _ h_p1 hx16) ?_ | (simp only [List.length_map]; refine callA (ih_condition_tell _ _ _ _ _ h_p1 hx16) ?_)
  conv => whnf
  refine atF (f := encACond) hF ebF fun x19 hx19 hF => ?_
  rw [encACond_op x19]
  conv => whnf
  obtain ⟨x22, hx22, hF⟩ := bindF hF
  first | refine callA (ih_condition_tell _ _ _ _ _ h_p1 hx22) ?_ | (simp only [List.length_map]; refine callA (ih_condition_tell _ _ _ _ _ h_p1 hx22) ?_)
  conv => whnf
  obtain rfl := Option.some.inj hF
  exact ⟨rg0⟩
 conv => whnf
 refine brF hF ebF (fun hF => ?_) (fun hF => ?_)
 ·conv => whnf
  refine ⟨⟨by decide +kernel, by kernel_rfl⟩, ?_⟩
  conv => whnf
  refine atF (f := encACond) hF ebF fun x28 hx28 hF => ?_
  rw [encACond_op x28]
  conv => whnf
  obtain ⟨x31, hx31, hF⟩ := bindF hF
  first | refine callA (ih_condition_tell _ _ _ _ _ h_p1 hx31) ?_ | (simp only [List.length_map]; refine callA (ih_condition_tell _ _ _ _ _ h_p1 hx31) ?_)
  conv => whnf
  refine atF (f := encACond) hF ebF fun x34 hx34 hF => ?_
  rw [encACond_op x34]
  conv => whnf
  obtain ⟨x37, hx37, hF⟩ := bindF hF
  first | refine callA (ih_condition_tell _ _ _ _ _ h_p1 hx37) ?_ | (simp only [List.length_map]; refine callA (ih_condition_tell _ _ _ _ _ h_p1 hx37) ?_)
  conv => whnf
  obtain rfl := Option.some.inj hF
  exact ⟨rg0⟩
 conv => whnf
 refine brF hF ebF (fun hF => ?_) (fun hF => ?_)
 ·conv => whnf
  refine atF (f := encACond) hF ebF fun x43 hx43 hF => ?_
  rw [encACond_op x43]
  conv => whnf
  obtain ⟨x46, hx46, hF⟩ := bindF hF
  first | refine callA (ih_condition_tell _ _ _ _ _ h_p1 hx46) ?_ | (simp only [List.length_map]; refine callA (ih_condition_tell _ _ _ _ _ h_p1 hx46) ?_)
  conv => whnf
  obtain rfl := Option.some.inj hF
  exact ⟨rg0⟩
 conv => whnf
 rw [capsK_eq]
 conv => whnf
 obtain ⟨x50, hx50, hF⟩ := bindF hF
 refine callA (h_p1 _ _ hx50) ?_
 conv => whnf
 obtain rfl := Option.some.inj hF
 exact ⟨rg0⟩

theorem condition_tell_wr : ∀ d : Nat, (∀ (p0 : ACond) (p1 : (ACond → Option Int)) (f_p1 : FuncId) (c_p1 : List D) (R : Int) (h_p1 : ∀ (a0 : ACond) r, p1 a0 = some r → ACall Tryz.prog f_p1 ([.d (opACond a0)] ++ c_p1.map .d) (.d (.int .i64 r))), condition_tell d p0 p1 = some R → ACall Tryz.prog 211 [.d (opACond p0), .d (.fn f_p1 c_p1)] (.d (.int .i64 R)))
  | 0 => by
   refine (by intros; rename_i h; cases h)
  | d + 1 => by
   have ih := condition_tell_wr d
   exact condition_tell_ws d _ ih

theorem condition_tell_w (d : Nat) : ∀ (p0 : ACond) (p1 : (ACond → Option Int)) (f_p1 : FuncId) (c_p1 : List D) (R : Int) (h_p1 : ∀ (a0 : ACond) r, p1 a0 = some r → ACall Tryz.prog f_p1 ([.d (opACond a0)] ++ c_p1.map .d) (.d (.int .i64 r))), condition_tell d p0 p1 = some R → ACall Tryz.prog 211 [.d (opACond p0), .d (.fn f_p1 c_p1)] (.d (.int .i64 R)) := condition_tell_wr d

theorem condition_Holds_c1_w (p0 : ACond) (q0 : ASchema) (q1 : (List Int)) (R : Int)  (hF : condition_Holds_c1 p0 q0 q1 = some R) : ACall Tryz.prog 212 [.d (opACond p0), .d (.ptr [(lst 2 encACodeList q0.Lists), (lst 7 encAColumn q0.Columns)]), .d (.ptr [(lst 1 (D.int .i64) q1)])] (.d (.int .i64 R)) := by
 refine acall Tryz.func212 (by kernel_rfl) ?_
 unfold condition_Holds_c1 at hF
 conv => whnf
 refine ⟨⟨by decide +kernel, by kernel_rfl⟩, ?_⟩
 conv => whnf
 refine atF (f := (D.int .i64)) hF ebF fun x10 hx10 hF => ?_
 conv => whnf
 obtain ⟨x12, hx12, hF⟩ := bindF hF
 refine callA (condition_Atom_w _ _ _ _ hx12) ?_
 conv => whnf
 obtain rfl := Option.some.inj hF
 exact ⟨rg0⟩

theorem condition_Holds_w (d : Nat) (p0 : ASchema) (p1 : ACond) (p2 : (List Int)) (R : Int)  (hF : condition_Holds d p0 p1 p2 = some R) : ACall Tryz.prog 146 [.d (encASchema p0), .d (opACond p1), .d (lst 1 (D.int .i64) p2)] (.d (.int .i64 R)) := by
 refine acall Tryz.func146 (by kernel_rfl) ?_
 unfold condition_Holds at hF
 conv => whnf
 obtain ⟨x9, hx9, hF⟩ := bindF hF
 refine callA (condition_tell_w _ _ _ _ _ _ (fun a0 _ h => condition_Holds_c1_w a0 _ _ _ h) hx9) ?_
 conv => whnf
 obtain rfl := Option.some.inj hF
 exact ⟨rg0⟩

theorem condition_Told_w (d : Nat) (p0 : ASchema) (p1 : ACond) (p2 : (List APick)) (p3 : (List Int)) (R : Int)  (hF : condition_Told d p0 p1 p2 p3 = some R) : ACall Tryz.prog 82 [.d (encASchema p0), .d (opACond p1), .d (lst 2 encAPick p2), .d (lst 1 (D.int .i64) p3)] (.d (.int .i64 R)) := by
 refine acallJ [6] Tryz.func82 (by kernel_rfl) ?_
 unfold condition_Told at hF
 conv => whnf
 obtain ⟨hr, hF⟩ := gdF hF
 refine ⟨by first | exact mk_ok hr (of_decide_eq_true (by kernel_rfl)) | (simp only [List.length_map]; exact mk_ok hr (of_decide_eq_true (by kernel_rfl))), ?_⟩
 try rw [repM]
 conv => whnf
 refine join {p : (List Int) // condition_Told_j1 p2 p3 p0 d p1 p = some R} (fun p => mkS 66 [(2, .d (lst 2 encAPick p2)), (3, .d (lst 1 (D.int .i64) p3)), (4, .ptr 4 1 0), (5, .ptr 5 1 0), (9, .sl 18 1)] [(4, .var [.d (lst 2 encACodeList p0.Lists), .d (lst 7 encAColumn p0.Columns)], 1), (5, .var [.d (.int .i64 p1.Op), .d (.int .i64 p1.Column), .d (.int .i64 p1.Code), .d (.int .i64 p1.Low), .d (.int .i64 p1.High), .d (lst 6 encACond p1.Kids)], 1), (18, .row 1 3 (List.map (D.int .i64) p.1), 1)]) ?_ fun p => ?_
 ·conv => whnf
  obtain ⟨Φ1, hΦ1, hF⟩ := iterF hF
  refine loop {p : Nat × (Int × (List Int)) // Φ1 p.1 p.2 = some R} (fun p => mkS 66 [(2, .d (lst 2 encAPick p2)), (3, .d (lst 1 (D.int .i64) p3)), (4, .ptr 4 1 0), (5, .ptr 5 1 0), (9, .sl 18 1), (10, .d (.int .i64 p.1.2.1))] [(4, .var [.d (lst 2 encACodeList p0.Lists), .d (lst 7 encAColumn p0.Columns)], 1), (5, .var [.d (.int .i64 p1.Op), .d (.int .i64 p1.Column), .d (.int .i64 p1.Code), .d (.int .i64 p1.Low), .d (.int .i64 p1.High), .d (lst 6 encACond p1.Kids)], 1), (18, .row 1 3 (List.map (D.int .i64) p.1.2.2), 1)]) (fun p => p.1.1) ⟨(_, (_, _)), hF⟩ ?_ fun p => ?_
  ·refine leF ?_
   conv => whnf
   exact lg0
  obtain ⟨⟨k1, ⟨v10_1, b18_1⟩⟩, hF⟩ := p
  obtain ⟨k1, rfl, hF⟩ := hΦ1 _ _ hF
  simp only [condition_Told_b1] at hF
  conv => whnf
  refine brF hF ebF (fun hF => ?_) (fun hF => ?_)
  ·conv => whnf
   obtain ⟨x30, hx30, hF⟩ := bindF hF
   refine callA (schema_Some_w _ _ _ _ _ hx30) ?_
   conv => whnf
   refine rowF (f := (D.int .i64)) hF ebF fun x33 hx33 hF => ?_
   conv => whnf
   refine atR (f := (D.int .i64)) hx33 ebF ?_
   conv => whnf
   try rw [setM]
   refine ⟨⟨(_, (_, _)), hF⟩, ?_, Nat.lt_succ_self _⟩
   refine leF ?_
   conv => whnf
   exact lg0
  conv => whnf
  refine ⟨⟨_, hF⟩, ?_⟩
  refine leF ?_
  conv => whnf
  exact lg0
 obtain ⟨k18_1, hF⟩ := p
 simp only [condition_Told_j1] at hF
 conv => whnf
 obtain ⟨Φ2, hΦ2, hF⟩ := iterF hF
 refine loop {p : Nat × (Int × (List Int)) // Φ2 p.1 p.2 = some R} (fun p => mkS 66 [(3, .d (lst 1 (D.int .i64) p3)), (4, .ptr 4 1 0), (5, .ptr 5 1 0), (9, .sl 18 1), (34, .d (lst 2 encAPick p2)), (35, .d (.int .i64 ((p2.length : Nat) : Int))), (36, .d (.int .i64 p.1.2.1))] [(4, .var [.d (lst 2 encACodeList p0.Lists), .d (lst 7 encAColumn p0.Columns)], 1), (5, .var [.d (.int .i64 p1.Op), .d (.int .i64 p1.Column), .d (.int .i64 p1.Code), .d (.int .i64 p1.Low), .d (.int .i64 p1.High), .d (lst 6 encACond p1.Kids)], 1), (18, .row 1 3 (List.map (D.int .i64) p.1.2.2), 1)]) (fun p => p.1.1) ⟨(_, (_, _)), hF⟩ ?_ fun p => ?_
 ·refine leF ?_
  conv => whnf
  exact lg0
 obtain ⟨⟨k2, ⟨v36_2, b18_2⟩⟩, hF⟩ := p
 obtain ⟨k2, rfl, hF⟩ := hΦ2 _ _ hF
 simp only [condition_Told_b2] at hF
 conv => whnf
 refine brF hF ebF (fun hF => ?_) (fun hF => ?_)
 ·conv => whnf
  refine atF (f := encAPick) hF ebF fun x39 hx39 hF => ?_
  conv => whnf
  refine ⟨⟨by decide +kernel, by kernel_rfl⟩, ?_⟩
  conv => whnf
  refine atF (f := (D.int .i64)) hF ebF fun x49 hx49 hF => ?_
  conv => whnf
  obtain ⟨x51, hx51, hF⟩ := bindF hF
  refine callA (schema_Some_w _ _ _ _ _ hx51) ?_
  conv => whnf
  refine brF hF ebF (fun hF => ?_) (fun hF => ?_)
  ·conv => whnf
   obtain rfl := Option.some.inj hF
   exact ⟨rg0⟩
  conv => whnf
  refine rowF (f := (D.int .i64)) hF ebF fun x60 hx60 hF => ?_
  conv => whnf
  refine atR (f := (D.int .i64)) hx60 ebF ?_
  conv => whnf
  try rw [setM]
  refine ⟨⟨(_, (_, _)), hF⟩, ?_, Nat.lt_succ_self _⟩
  refine leF ?_
  conv => whnf
  exact lg0
 conv => whnf
 obtain ⟨x65, hx65, hF⟩ := bindF hF
 refine callA (condition_Holds_w _ _ _ _ _ hx65) ?_
 conv => whnf
 obtain rfl := Option.some.inj hF
 exact ⟨rg0⟩

theorem tabulate_Holding_w (d : Nat) (p0 : ASchema) (p1 : AExtract) (p2 : ACond) (R : (List Int))  (hF : tabulate_Holding d p0 p1 p2 = some R) : ACall Tryz.prog 39 [.d (encASchema p0), .d (encAExtract p1), .d (opACond p2)] (.d (lst 1 (D.int .i64) R)) := by
 refine acallJ [3] Tryz.func39 (by kernel_rfl) ?_
 unfold tabulate_Holding at hF
 conv => whnf
 refine join {p : Unit // tabulate_Holding_j1 p1 d p0 p2 = some R} (fun p => mkS 45 [(3, .ptr 3 1 0), (4, .ptr 4 1 0), (5, .ptr 5 1 0)] [(3, .var [.d (lst 2 encACodeList p0.Lists), .d (lst 7 encAColumn p0.Columns)], 1), (4, .var [.d (.str p1.Project), .d (.int .i64 p1.Version), .d (lst 2 encAPick p1.Picks), .d (lst 1 (lst 1 (D.int .i64)) p1.Rows)], 1), (5, .var [.d (.int .i64 p2.Op), .d (.int .i64 p2.Column), .d (.int .i64 p2.Code), .d (.int .i64 p2.Low), .d (.int .i64 p2.High), .d (lst 6 encACond p2.Kids)], 1)]) ?_ fun p => ?_
 ·conv => whnf
  refine ⟨⟨by decide +kernel, by kernel_rfl⟩, ?_⟩
  conv => whnf
  obtain ⟨x12, hx12, hF⟩ := bindF hF
  refine callA (condition_Check_w _ _ _ _ hx12) ?_
  conv => whnf
  refine brF hF ebF (fun hF => ?_) (fun hF => ?_)
  ·obtain rfl := Option.some.inj hF
   refine ⟨.inl ?_⟩
   conv => whnf
   exact ⟨rg0⟩
  obtain ⟨x19, hx19, hF⟩ := bindF hF
  refine callA (condition_Needs_w _ _ _ _ hx19) ?_
  conv => whnf
  obtain ⟨x20, hx20, hF⟩ := bindF hF
  refine callA (condition_Covers_w _ _ _ hx20) ?_
  conv => whnf
  refine brF hF ebF (fun hF => ?_) (fun hF => ?_)
  ·conv => whnf
   obtain rfl := Option.some.inj hF
   refine ⟨.inl ?_⟩
   conv => whnf
   exact ⟨rg0⟩
  conv => whnf
  refine ⟨⟨(), hF⟩, ?_⟩
  refine leF ?_
  conv => whnf
  exact lg0
 obtain ⟨_, hF⟩ := p
 simp only [tabulate_Holding_j1] at hF
 conv => whnf
 obtain ⟨Φ1, hΦ1, hF⟩ := iterF hF
 refine loop {p : Nat × (Int × (List Int)) // Φ1 p.1 p.2 = some R} (fun p => mkS 45 [(3, .ptr 3 1 0), (4, .ptr 4 1 0), (5, .ptr 5 1 0), (7, .sl 7 1), (24, .d (lst 1 (lst 1 (D.int .i64)) p1.Rows)), (25, .d (.int .i64 ((p1.Rows.length : Nat) : Int))), (26, .d (.int .i64 p.1.2.1))] [(3, .var [.d (lst 2 encACodeList p0.Lists), .d (lst 7 encAColumn p0.Columns)], 1), (4, .var [.d (.str p1.Project), .d (.int .i64 p1.Version), .d (lst 2 encAPick p1.Picks), .d (lst 1 (lst 1 (D.int .i64)) p1.Rows)], 1), (5, .var [.d (.int .i64 p2.Op), .d (.int .i64 p2.Column), .d (.int .i64 p2.Code), .d (.int .i64 p2.Low), .d (.int .i64 p2.High), .d (lst 6 encACond p2.Kids)], 1), (7, .row 1 3 (List.map (D.int .i64) p.1.2.2), 1)]) (fun p => p.1.1) ⟨(_, (_, _)), hF⟩ ?_ fun p => ?_
 ·refine leF ?_
  conv => whnf
  exact lg0
 obtain ⟨⟨k1, ⟨v26_1, b7_1⟩⟩, hF⟩ := p
 obtain ⟨k1, rfl, hF⟩ := hΦ1 _ _ hF
 simp only [tabulate_Holding_b1] at hF
 conv => whnf
 refine brF hF ebF (fun hF => ?_) (fun hF => ?_)
 ·conv => whnf
  refine atF (f := (lst 1 (D.int .i64))) hF ebF fun x29 hx29 hF => ?_
  conv => whnf
  refine ⟨⟨by decide +kernel, by kernel_rfl⟩, ?_⟩
  conv => whnf
  obtain ⟨hr, hF⟩ := gdF hF
  refine ⟨by first | exact of_decide_eq_true hr | (simp only [List.length_map]; exact of_decide_eq_true hr), ?_⟩
  try simp only [List.length_map]
  rw [cutM]
  conv => whnf
  obtain ⟨x37, hx37, hF⟩ := bindF hF
  first | refine callA (condition_Told_w _ _ _ _ _ _ hx37) ?_ | (simp only [List.length_map]; refine callA (condition_Told_w _ _ _ _ _ _ hx37) ?_)
  conv => whnf
  refine brF hF ebF (fun hF => ?_) (fun hF => ?_)
  ·conv => whnf
   obtain ⟨hr, hF⟩ := gdF hF
   refine ⟨by (simp only [List.length_map]; exact rm_fits hr (of_decide_eq_true (by kernel_rfl)) (.inr (by kernel_rfl))), ?_⟩
   try rw [snocI]
   conv => whnf
   refine ⟨⟨(_, (_, _)), hF⟩, ?_, Nat.lt_succ_self _⟩
   refine leF ?_
   conv => whnf
   exact lg0
  conv => whnf
  refine ⟨⟨(_, (_, _)), hF⟩, ?_, Nat.lt_succ_self _⟩
  refine leF ?_
  conv => whnf
  exact lg0
 conv => whnf
 obtain rfl := Option.some.inj hF
 refine ⟨.inl ?_⟩
 conv => whnf
 exact ⟨rg0⟩

theorem extract_Known_c1_w (p0 : APick) (q0 : Int) (R : Bool)  (hF : extract_Known_c1 p0 q0 = some R) : ACall Tryz.prog 84 [.d (encAPick p0), .d (.ptr [(.int .i64 q0)])] (.d (.bool R)) := by
 refine acall Tryz.func84 (by kernel_rfl) ?_
 unfold extract_Known_c1 at hF
 conv => whnf
 obtain rfl := Option.some.inj hF
 exact ⟨rtF⟩

theorem schema_turnCode_w (p0 : ACodeList) (p1 : Int) (p2 : Int) (p3 : Int) (R : (Int × Bool))  (hF : schema_turnCode p0 p1 p2 p3 = some R) : ACall Tryz.prog 148 [.d (encACodeList p0), .d (.int .i64 p1), .d (.int .i64 p2), .d (.int .i64 p3)] (.tup [.d (.int .i64 R.1), .d (.bool R.2)]) := by
 refine acall Tryz.func148 (by kernel_rfl) ?_
 unfold schema_turnCode at hF
 conv => whnf
 refine ⟨⟨by decide +kernel, by kernel_rfl⟩, ?_⟩
 conv => whnf
 obtain ⟨x17, hx17, hF⟩ := bindF hF
 refine callA (codes_Levels_w _ _ hx17) ?_
 conv => whnf
 obtain ⟨x19, hx19, hF⟩ := bindF hF
 refine callA (codes_At_w _ _ _ hx19) ?_
 conv => whnf
 obtain ⟨Φ1, hΦ1, hF⟩ := iterF hF
 refine loop {p : Nat × (Int × Bool × Int) // Φ1 p.1 p.2 = some R} (fun p => mkS 45 [(1, .d (.int .i64 p1)), (2, .d (.int .i64 p2)), (3, .d (.int .i64 p3)), (4, .ptr 4 1 0), (10, .d (.int .i64 p.1.2.1)), (11, .d (.bool p.1.2.2.1)), (19, .d (lst 1 (D.int .i64) x19)), (20, .d (.int .i64 ((x19.length : Nat) : Int))), (21, .d (.int .i64 p.1.2.2.2))] [(4, .var [.d (.str p0.Name), .d (lst 2 encACode p0.Codes)], 1)]) (fun p => p.1.1) ⟨(_, (_, _, _)), hF⟩ ?_ fun p => ?_
 ·refine leF ?_
  conv => whnf
  exact lfF
 obtain ⟨⟨k1, ⟨v10_1, v11_1, v21_1⟩⟩, hF⟩ := p
 obtain ⟨k1, rfl, hF⟩ := hΦ1 _ _ hF
 simp only [schema_turnCode_b1] at hF
 conv => whnf
 refine brF hF ebF (fun hF => ?_) (fun hF => ?_)
 ·conv => whnf
  refine atF (f := (D.int .i64)) hF ebF fun x23 hx23 hF => ?_
  conv => whnf
  obtain ⟨x28, hx28, hF⟩ := bindF hF
  refine callA (codes_Up_w _ _ _ _ hx28) ?_
  conv => whnf
  refine brF hF ebF (fun hF => ?_) (fun hF => ?_)
  ·conv => whnf
   refine ⟨⟨(_, (_, _, _)), hF⟩, ?_, Nat.lt_succ_self _⟩
   refine leF ?_
   conv => whnf
   exact lfF
  conv => whnf
  obtain ⟨x34, hx34, hF⟩ := bindF hF
  refine callA (codes_Up_w _ _ _ _ hx34) ?_
  conv => whnf
  refine brF hF ebF (fun hF => ?_) (fun hF => ?_)
  ·conv => whnf
   obtain rfl := Option.some.inj hF
   exact ⟨rtF⟩
  conv => whnf
  refine ⟨⟨(_, (_, _, _)), hF⟩, ?_, Nat.lt_succ_self _⟩
  refine leF ?_
  conv => whnf
  exact lfF
 conv => whnf
 obtain rfl := Option.some.inj hF
 exact ⟨rtF⟩

theorem schema_turnMeasure_w (p0 : AColumn) (p1 : Int) (p2 : Int) (p3 : Int) (R : (Int × Bool))  (hF : schema_turnMeasure p0 p1 p2 p3 = some R) : ACall Tryz.prog 149 [.d (encAColumn p0), .d (.int .i64 p1), .d (.int .i64 p2), .d (.int .i64 p3)] (.tup [.d (.int .i64 R.1), .d (.bool R.2)]) := by
 refine acall Tryz.func149 (by kernel_rfl) ?_
 unfold schema_turnMeasure at hF
 conv => whnf
 refine brF hF ebF (fun hF => ?_) (fun hF => ?_)
 ·conv => whnf
  refine brF hF ebF (fun hF => ?_) (fun hF => ?_)
  ·conv => whnf
   refine ⟨⟨by decide +kernel, by kernel_rfl⟩, ?_⟩
   conv => whnf
   obtain rfl := Option.some.inj hF
   exact ⟨rtF⟩
  conv => whnf
  refine ⟨⟨by decide +kernel, by kernel_rfl⟩, ?_⟩
  conv => whnf
  obtain rfl := Option.some.inj hF
  exact ⟨rtF⟩
 conv => whnf
 obtain ⟨x31, hx31, hF⟩ := bindF hF
 refine callA (schema_span_w _ _ _ _ hx31) ?_
 conv => whnf
 refine brF hF ebF (fun hF => ?_) (fun hF => ?_)
 ·conv => whnf
  obtain rfl := Option.some.inj hF
  exact ⟨rtF⟩
 conv => whnf
 refine brF hF ebF (fun hF => ?_) (fun hF => ?_)
 ·conv => whnf
  obtain rfl := Option.some.inj hF
  exact ⟨rtF⟩
 conv => whnf
 refine brF hF ebF (fun hF => ?_) (fun hF => ?_)
 ·conv => whnf
  obtain rfl := Option.some.inj hF
  exact ⟨rtF⟩
 conv => whnf
 obtain ⟨x50, hx50, hF⟩ := bindF hF
 refine callA (schema_width_w _ _ _ hx50) ?_
 conv => whnf
 obtain ⟨x53, hx53, hF⟩ := bindF hF
 refine callA (schema_down_w _ _ _ hx53) ?_
 conv => whnf
 obtain ⟨x56, hx56, hF⟩ := bindF hF
 refine callA (schema_down_w _ _ _ hx56) ?_
 conv => whnf
 obtain ⟨x59, hx59, hF⟩ := bindF hF
 refine callA (schema_down_w _ _ _ hx59) ?_
 conv => whnf
 obtain rfl := Option.some.inj hF
 exact ⟨rtF⟩

theorem schema_Turned_w (p0 : ASchema) (p1 : Int) (p2 : Int) (p3 : Int) (p4 : Int) (R : (Int × Bool))  (hF : schema_Turned p0 p1 p2 p3 p4 = some R) : ACall Tryz.prog 85 [.d (encASchema p0), .d (.int .i64 p1), .d (.int .i64 p2), .d (.int .i64 p3), .d (.int .i64 p4)] (.tup [.d (.int .i64 R.1), .d (.bool R.2)]) := by
 refine acall Tryz.func85 (by kernel_rfl) ?_
 unfold schema_Turned at hF
 conv => whnf
 obtain ⟨x18, hx18, hF⟩ := bindF hF
 refine callA (schema_finest_w _ _ _ hx18) ?_
 conv => whnf
 refine brF hF ebF (fun hF => ?_) (fun hF => ?_)
 ·conv => whnf
  obtain rfl := Option.some.inj hF
  exact ⟨rtF⟩
 conv => whnf
 refine atF (f := encAColumn) hF ebF fun x38 hx38 hF => ?_
 conv => whnf
 refine brF hF ebF (fun hF => ?_) (fun hF => ?_)
 ·conv => whnf
  refine atF (f := encACodeList) hF ebF fun x48 hx48 hF => ?_
  conv => whnf
  obtain ⟨x53, hx53, hF⟩ := bindF hF
  refine callA (schema_turnCode_w _ _ _ _ _ hx53) ?_
  conv => whnf
  refine brF hF ebF (fun hF => ?_) (fun hF => ?_)
  ·conv => whnf
   obtain rfl := Option.some.inj hF
   exact ⟨rtF⟩
  conv => whnf
  obtain rfl := Option.some.inj hF
  exact ⟨rtF⟩
 conv => whnf
 obtain ⟨x61, hx61, hF⟩ := bindF hF
 refine callA (schema_turnMeasure_w _ _ _ _ _ hx61) ?_
 conv => whnf
 refine brF hF ebF (fun hF => ?_) (fun hF => ?_)
 ·conv => whnf
  obtain rfl := Option.some.inj hF
  exact ⟨rtF⟩
 conv => whnf
 obtain rfl := Option.some.inj hF
 exact ⟨rtF⟩

theorem extract_Known_w (p0 : ASchema) (p1 : AExtract) (p2 : Int) (p3 : Int) (p4 : Int) (R : (Int × Bool))  (hF : extract_Known p0 p1 p2 p3 p4 = some R) : ACall Tryz.prog 40 [.d (encASchema p0), .d (encAExtract p1), .d (.int .i64 p2), .d (.int .i64 p3), .d (.int .i64 p4)] (.tup [.d (.int .i64 R.1), .d (.bool R.2)]) := by
 refine acall Tryz.func40 (by kernel_rfl) ?_
 unfold extract_Known at hF
 conv => whnf
 obtain ⟨x16, hx16, hF⟩ := bindF hF
 refine callA (slices_IndexFunc_Lapi_Pick_api_Pick_w _ _ _ _ _ (fun a0 _ h => extract_Known_c1_w a0 _ _ h) hx16) ?_
 conv => whnf
 refine brF hF ebF (fun hF => ?_) (fun hF => ?_)
 ·conv => whnf
  obtain ⟨x22, hx22, hF⟩ := bindF hF
  refine callA (schema_Turned_w _ _ _ _ _ _ hx22) ?_
  conv => whnf
  obtain rfl := Option.some.inj hF
  exact ⟨rtF⟩
 conv => whnf
 refine ⟨⟨by decide +kernel, by kernel_rfl⟩, ?_⟩
 conv => whnf
 refine atF (f := encAPick) hF ebF fun x30 hx30 hF => ?_
 conv => whnf
 refine atF (f := (lst 1 (D.int .i64))) hF ebF fun x36 hx36 hF => ?_
 conv => whnf
 refine atF (f := (D.int .i64)) hF ebF fun x40 hx40 hF => ?_
 conv => whnf
 obtain ⟨x43, hx43, hF⟩ := bindF hF
 refine callA (schema_Turned_w _ _ _ _ _ _ hx43) ?_
 conv => whnf
 obtain rfl := Option.some.inj hF
 exact ⟨rtF⟩

theorem plot_large_w (p0 : Int) (R : Bool)  (hF : plot_large p0 = some R) : ACall Tryz.prog 87 [.d (.int .i64 p0)] (.d (.bool R)) := by
 refine acall Tryz.func87 (by kernel_rfl) ?_
 unfold plot_large at hF
 conv => whnf
 obtain rfl := Option.some.inj hF
 exact ⟨rtF⟩

theorem plot_down_w (p0 : Int) (p1 : Int) (R : Int)  (hF : plot_down p0 p1 = some R) : ACall Tryz.prog 90 [.d (.int .i64 p0), .d (.int .i64 p1)] (.d (.int .i64 R)) := by
 refine acall Tryz.func90 (by kernel_rfl) ?_
 unfold plot_down at hF
 conv => whnf
 obtain ⟨hr, hF⟩ := gdF hF
 refine ⟨of_decide_eq_true hr, ?_⟩
 conv => whnf
 refine brF hF ebF (fun hF => ?_) (fun hF => ?_)
 ·conv => whnf
  obtain rfl := Option.some.inj hF
  exact ⟨rtF⟩
 conv => whnf
 obtain rfl := Option.some.inj hF
 exact ⟨rtF⟩

theorem plot_Bins_w (p0 : (List Int)) (p1 : Int) (R : ((List ABin) × Int))  (hF : plot_Bins p0 p1 = some R) : ACall Tryz.prog 42 [.d (lst 1 (D.int .i64) p0), .d (.int .i64 p1)] (.tup [.d (lst 2 encABin R.1), .d (.int .i64 R.2)]) := by
 refine acallJ [5] Tryz.func42 (by kernel_rfl) ?_
 unfold plot_Bins at hF
 conv => whnf
 refine join {p : Unit // plot_Bins_j1 p0 p1 = some R} (fun p => mkS 71 [(0, .d (lst 1 (D.int .i64) p0)), (1, .d (.int .i64 p1))] []) ?_ fun p => ?_
 ·conv => whnf
  refine brF hF ebF (fun hF => ?_) (fun hF => ?_)
  ·conv => whnf
   obtain rfl := Option.some.inj hF
   refine ⟨.inl ?_⟩
   conv => whnf
   exact ⟨rtF⟩
  conv => whnf
  refine brF hF ebF (fun hF => ?_) (fun hF => ?_)
  ·obtain rfl := Option.some.inj hF
   refine ⟨.inl ?_⟩
   conv => whnf
   exact ⟨rtF⟩
  obtain ⟨x25, hx25, hF⟩ := bindF hF
  refine callA (slices_ContainsFunc_Lint_int_w _ _ _ _ _ (fun a0 _ h => plot_large_w a0  _ h) hx25) ?_
  conv => whnf
  refine brF hF ebF (fun hF => ?_) (fun hF => ?_)
  ·conv => whnf
   obtain rfl := Option.some.inj hF
   refine ⟨.inl ?_⟩
   conv => whnf
   exact ⟨rtF⟩
  conv => whnf
  refine ⟨⟨(), hF⟩, ?_⟩
  refine leF ?_
  conv => whnf
  exact lfF
 obtain ⟨_, hF⟩ := p
 simp only [plot_Bins_j1] at hF
 conv => whnf
 obtain ⟨x28, hx28, hF⟩ := bindF hF
 refine callA (slices_Clone_Lint_int_w _ _ hx28) ?_
 conv => whnf
 obtain ⟨x30, hx30, hF⟩ := bindF hF
 refine callM (slices_Sort_Lint_int_w _ _ hx30) ?_
 conv => whnf
 obtain ⟨Φ1, hΦ1, hF⟩ := iterF hF
 refine loop {p : Nat × (Int × (List ABin)) // Φ1 p.1 p.2 = some R} (fun p => mkS 71 [(1, .d (.int .i64 p1)), (7, .sl 7 1), (31, .sl 28 1), (32, .d (.int .i64 ((x30.length : Nat) : Int))), (33, .d (.int .i64 p.1.2.1))] [(7, .row 2 106 (List.map encABin p.1.2.2), 1), (28, .row 1 3 (List.map (D.int .i64) x30), 1)]) (fun p => p.1.1) ⟨(_, (_, _)), hF⟩ ?_ fun p => ?_
 ·refine leF ?_
  conv => whnf
  exact lfF
 obtain ⟨⟨k1, ⟨v33_1, b7_1⟩⟩, hF⟩ := p
 obtain ⟨k1, rfl, hF⟩ := hΦ1 _ _ hF
 simp only [plot_Bins_b1] at hF
 conv => whnf
 refine brF hF ebF (fun hF => ?_) (fun hF => ?_)
 ·conv => whnf
  refine rowF (f := (D.int .i64)) hF ebF fun x35 hx35 hF => ?_
  conv => whnf
  refine atR (f := (D.int .i64)) hx35 ebF ?_
  conv => whnf
  obtain ⟨x39, hx39, hF⟩ := bindF hF
  refine callA (plot_down_w _ _ _ hx39) ?_
  conv => whnf
  refine brF hF ebF (fun hF => ?_) (fun hF => ?_)
  ·obtain ⟨hr, hF⟩ := gdF hF
   refine ⟨by (simp only [List.length_map]; exact rm_fits hr (of_decide_eq_true (by kernel_rfl)) (.inr (by kernel_rfl))), ?_⟩
   try rw [snoc_ABin]
   conv => whnf
   refine rowF (f := encABin) hF ebF fun x63 hx63 hF => ?_
   conv => whnf
   refine atR (f := encABin) hx63 ebF ?_
   conv => whnf
   refine rowF (f := encABin) hF ebF fun x67 hx67 hF => ?_
   conv => whnf
   refine atR (f := encABin) hx67 ebF ?_
   conv => whnf
   try rw [set_ABin]
   refine ⟨⟨(_, (_, _)), hF⟩, ?_, Nat.lt_succ_self _⟩
   refine leF ?_
   conv => whnf
   exact lfF
  refine rowF (f := encABin) hF ebF fun x48 hx48 hF => ?_
  conv => whnf
  refine atR (f := encABin) hx48 ebF ?_
  conv => whnf
  refine brF hF ebF (fun hF => ?_) (fun hF => ?_)
  ·conv => whnf
   obtain ⟨hr, hF⟩ := gdF hF
   refine ⟨by (simp only [List.length_map]; exact rm_fits hr (of_decide_eq_true (by kernel_rfl)) (.inr (by kernel_rfl))), ?_⟩
   try rw [snoc_ABin]
   conv => whnf
   refine rowF (f := encABin) hF ebF fun x63 hx63 hF => ?_
   conv => whnf
   refine atR (f := encABin) hx63 ebF ?_
   conv => whnf
   refine rowF (f := encABin) hF ebF fun x67 hx67 hF => ?_
   conv => whnf
   refine atR (f := encABin) hx67 ebF ?_
   conv => whnf
   try rw [set_ABin]
   refine ⟨⟨(_, (_, _)), hF⟩, ?_, Nat.lt_succ_self _⟩
   refine leF ?_
   conv => whnf
   exact lfF
  conv => whnf
  refine rowF (f := encABin) hF ebF fun x63 hx63 hF => ?_
  conv => whnf
  refine atR (f := encABin) hx63 ebF ?_
  conv => whnf
  refine rowF (f := encABin) hF ebF fun x67 hx67 hF => ?_
  conv => whnf
  refine atR (f := encABin) hx67 ebF ?_
  conv => whnf
  try rw [set_ABin]
  refine ⟨⟨(_, (_, _)), hF⟩, ?_, Nat.lt_succ_self _⟩
  refine leF ?_
  conv => whnf
  exact lfF
 conv => whnf
 obtain rfl := Option.some.inj hF
 refine ⟨.inl ?_⟩
 conv => whnf
 exact ⟨rtF⟩

theorem tabulate_Keys_w (p0 : AExtract) (p1 : (List Int)) (R : (List Int))  (hF : tabulate_Keys p0 p1 = some R) : ACall Tryz.prog 43 [.d (encAExtract p0), .d (lst 1 (D.int .i64) p1)] (.d (lst 1 (D.int .i64) R)) := by
 refine acall Tryz.func43 (by kernel_rfl) ?_
 unfold tabulate_Keys at hF
 conv => whnf
 obtain ⟨Φ1, hΦ1, hF⟩ := iterF hF
 refine loop {p : Nat × (Int × (List Int)) // Φ1 p.1 p.2 = some R} (fun p => mkS 26 [(2, .ptr 2 1 0), (5, .sl 5 1), (8, .d (lst 1 (D.int .i64) p1)), (9, .d (.int .i64 ((p1.length : Nat) : Int))), (10, .d (.int .i64 p.1.2.1))] [(2, .var [.d (.str p0.Project), .d (.int .i64 p0.Version), .d (lst 2 encAPick p0.Picks), .d (lst 1 (lst 1 (D.int .i64)) p0.Rows)], 1), (5, .row 1 3 (List.map (D.int .i64) p.1.2.2), 1)]) (fun p => p.1.1) ⟨(_, (_, _)), hF⟩ ?_ fun p => ?_
 ·refine leF ?_
  conv => whnf
  exact lfF
 obtain ⟨⟨k1, ⟨v10_1, b5_1⟩⟩, hF⟩ := p
 obtain ⟨k1, rfl, hF⟩ := hΦ1 _ _ hF
 simp only [tabulate_Keys_b1] at hF
 conv => whnf
 refine brF hF ebF (fun hF => ?_) (fun hF => ?_)
 ·conv => whnf
  refine atF (f := (D.int .i64)) hF ebF fun x12 hx12 hF => ?_
  conv => whnf
  refine atF (f := (lst 1 (D.int .i64))) hF ebF fun x18 hx18 hF => ?_
  conv => whnf
  refine atF (f := (D.int .i64)) hF ebF fun x20 hx20 hF => ?_
  conv => whnf
  obtain ⟨hr, hF⟩ := gdF hF
  refine ⟨by (simp only [List.length_map]; exact rm_fits hr (of_decide_eq_true (by kernel_rfl)) (.inr (by kernel_rfl))), ?_⟩
  try rw [snocI]
  conv => whnf
  refine ⟨⟨(_, (_, _)), hF⟩, ?_, Nat.lt_succ_self _⟩
  refine leF ?_
  conv => whnf
  exact lfF
 conv => whnf
 obtain rfl := Option.some.inj hF
 refine ⟨.inl ?_⟩
 conv => whnf
 exact ⟨rtF⟩

theorem plot_Hist_w (d : Nat) (p0 : ASchema) (p1 : AExtract) (p2 : Int) (p3 : Int) (p4 : ACond) (R : ((List ABin) × (List Int) × Int))  (hF : plot_Hist d p0 p1 p2 p3 p4 = some R) : ACall Tryz.prog 11 [.d (encASchema p0), .d (encAExtract p1), .d (.int .i64 p2), .d (.int .i64 p3), .d (opACond p4)] (.tup [.d (lst 2 encABin R.1), .d (lst 1 (D.int .i64) R.2.1), .d (.int .i64 R.2.2)]) := by
 refine acall Tryz.func11 (by kernel_rfl) ?_
 unfold plot_Hist at hF
 conv => whnf
 obtain ⟨x28, hx28, hF⟩ := bindF hF
 refine callA (plot_usable_w _ _ _ _ _ hx28) ?_
 conv => whnf
 refine brF hF ebF (fun hF => ?_) (fun hF => ?_)
 ·conv => whnf
  obtain rfl := Option.some.inj hF
  refine ⟨.inl ?_⟩
  conv => whnf
  refine ⟨.inl ?_⟩
  conv => whnf
  exact ⟨rg0⟩
 conv => whnf
 obtain ⟨x35, hx35, hF⟩ := bindF hF
 refine callA (tabulate_Holding_w _ _ _ _ _ hx35) ?_
 conv => whnf
 obtain ⟨Φ1, hΦ1, hF⟩ := iterF hF
 refine loop {p : Nat × (Int × (List Int) × (List Int)) // Φ1 p.1 p.2 = some R} (fun p => mkS 80 [(2, .d (.int .i64 p2)), (3, .d (.int .i64 p3)), (5, .ptr 5 1 0), (6, .ptr 6 1 0), (14, .sl 14 1), (15, .sl 15 1), (35, .d (lst 1 (D.int .i64) x35)), (36, .d (.int .i64 ((x35.length : Nat) : Int))), (37, .d (.int .i64 p.1.2.1))] [(5, .var [.d (lst 2 encACodeList p0.Lists), .d (lst 7 encAColumn p0.Columns)], 1), (6, .var [.d (.str p1.Project), .d (.int .i64 p1.Version), .d (lst 2 encAPick p1.Picks), .d (lst 1 (lst 1 (D.int .i64)) p1.Rows)], 1), (14, .row 1 3 (List.map (D.int .i64) p.1.2.2.1), 1), (15, .row 1 3 (List.map (D.int .i64) p.1.2.2.2), 1)]) (fun p => p.1.1) ⟨(_, (_, _, _)), hF⟩ ?_ fun p => ?_
 ·refine leF ?_
  conv => whnf
  exact lg0
 obtain ⟨⟨k1, ⟨v37_1, b14_1, b15_1⟩⟩, hF⟩ := p
 obtain ⟨k1, rfl, hF⟩ := hΦ1 _ _ hF
 simp only [plot_Hist_b1] at hF
 conv => whnf
 refine brF hF ebF (fun hF => ?_) (fun hF => ?_)
 ·conv => whnf
  refine atF (f := (D.int .i64)) hF ebF fun x39 hx39 hF => ?_
  conv => whnf
  refine ⟨⟨by decide +kernel, by kernel_rfl⟩, ?_⟩
  conv => whnf
  obtain ⟨x49, hx49, hF⟩ := bindF hF
  refine callA (types_LevelOf_w _ _ _ _ hx49) ?_
  conv => whnf
  obtain ⟨x50, hx50, hF⟩ := bindF hF
  refine callA (extract_Known_w _ _ _ _ _ _ hx50) ?_
  conv => whnf
  refine brF hF ebF (fun hF => ?_) (fun hF => ?_)
  ·conv => whnf
   obtain ⟨hr, hF⟩ := gdF hF
   refine ⟨by (simp only [List.length_map]; exact rm_fits hr (of_decide_eq_true (by kernel_rfl)) (.inr (by kernel_rfl))), ?_⟩
   try rw [snocI]
   conv => whnf
   obtain ⟨hr, hF⟩ := gdF hF
   refine ⟨by (simp only [List.length_map]; exact rm_fits hr (of_decide_eq_true (by kernel_rfl)) (.inr (by kernel_rfl))), ?_⟩
   try rw [snocI]
   conv => whnf
   refine ⟨⟨(_, (_, _, _)), hF⟩, ?_, Nat.lt_succ_self _⟩
   refine leF ?_
   conv => whnf
   exact lg0
  conv => whnf
  refine ⟨⟨(_, (_, _, _)), hF⟩, ?_, Nat.lt_succ_self _⟩
  refine leF ?_
  conv => whnf
  exact lg0
 conv => whnf
 try simp only [plot_Hist_k1] at hF
 obtain ⟨x70, hx70, hF⟩ := bindF hF
 refine callA (plot_Bins_w _ _ _ hx70) ?_
 conv => whnf
 refine brF hF ebF (fun hF => ?_) (fun hF => ?_)
 ·conv => whnf
  obtain rfl := Option.some.inj hF
  refine ⟨.inl ?_⟩
  conv => whnf
  refine ⟨.inl ?_⟩
  conv => whnf
  exact ⟨rg0⟩
 conv => whnf
 obtain ⟨x79, hx79, hF⟩ := bindF hF
 refine callA (tabulate_Keys_w _ _ _ hx79) ?_
 conv => whnf
 obtain rfl := Option.some.inj hF
 exact ⟨rg0⟩
end Go.Proofs.YtejfnieiaecpkaaGreatDoor.P
