/-
 Printed by wip/tools/mkw.py: walks: program_dims program_terms program_part program_Number program_right program_right_c1 program_Right condition_Covers_c1_c1 condition_Covers_c1 condition_Covers condition_Atoms condition_truth codes_Under
-/
import Derived.Test.YtejfnieiaecpkaaGreatDoorChecked
import Derived.Test.YtejfnieiaecpkaaGreatDoorP3F
import Derived.Test.YtejfnieiaecpkaaGreatDoorP3A
import Derived.Test.YtejfnieiaecpkaaGreatDoorP3HW
import Derived.Test.YtejfnieiaecpkaaGreatDoorP3W1
import Derived.Test.YtejfnieiaecpkaaGreatDoorP3W7
import Derived.Test.YtejfnieiaecpkaaGreatDoorP3W8
set_option linter.unusedSimpArgs false
namespace Go.Proofs.YtejfnieiaecpkaaGreatDoor.P
open Go.Abs Go.Proofs
set_option maxRecDepth 100000
set_option maxHeartbeats 4000000
set_option linter.unusedVariables false

theorem program_dims_w (p0 : ASchema) (p1 : (List APick)) (R : Bool)  (hF : program_dims p0 p1 = some R) : ACall Tryz.prog 249 [.d (encASchema p0), .d (lst 2 encAPick p1)] (.d (.bool R)) := by
 refine acall Tryz.func249 (by kernel_rfl) ?_
 unfold program_dims at hF
 conv => whnf
 obtain ⟨Φ1, hΦ1, hF⟩ := iterF hF
 refine loop {p : Nat × Int // Φ1 p.1 p.2 = some R} (fun p => mkS 42 [(1, .d (lst 2 encAPick p1)), (2, .ptr 2 1 0), (7, .d (lst 2 encAPick p1)), (8, .d (.int .i64 ((p1.length : Nat) : Int))), (9, .d (.int .i64 p.1.2))] [(2, .var [.d (lst 2 encACodeList p0.Lists), .d (lst 7 encAColumn p0.Columns)], 1)]) (fun p => p.1.1) ⟨(_, _), hF⟩ ?_ fun p => ?_
 ·refine leF ?_
  conv => whnf
  exact lfF
 obtain ⟨⟨k1, v9_1⟩, hF⟩ := p
 obtain ⟨k1, rfl, hF⟩ := hΦ1 _ _ hF
 simp only [program_dims_b1] at hF
 conv => whnf
 refine brF hF ebF (fun hF => ?_) (fun hF => ?_)
 ·conv => whnf
  refine atF (f := encAPick) hF ebF fun x12 hx12 hF => ?_
  conv => whnf
  obtain ⟨x16, hx16, hF⟩ := bindF hF
  refine callA (schema_Pick_w _ _ _ hx16) ?_
  conv => whnf
  refine brF hF ebF (fun hF => ?_) (fun hF => ?_)
  ·obtain rfl := Option.some.inj hF
   exact ⟨rtF⟩
  refine atF (f := encAColumn) hF ebF fun x23 hx23 hF => ?_
  conv => whnf
  refine brF hF ebF (fun hF => ?_) (fun hF => ?_)
  ·conv => whnf
   obtain rfl := Option.some.inj hF
   exact ⟨rtF⟩
  conv => whnf
  obtain ⟨hr, hF⟩ := gdF hF
  refine ⟨by first | exact of_decide_eq_true hr | (simp only [List.length_map]; exact of_decide_eq_true hr), ?_⟩
  try simp only [List.length_map]
  rw [cutM]
  conv => whnf
  obtain ⟨x32, hx32, hF⟩ := bindF hF
  refine callA (slices_ContainsFunc_Lapi_Pick_api_Pick_w _ _ _ _ _ (fun a0 _ h => program_dims_c1_w a0 _ _ h) hx32) ?_
  conv => whnf
  refine brF hF ebF (fun hF => ?_) (fun hF => ?_)
  ·conv => whnf
   obtain rfl := Option.some.inj hF
   exact ⟨rtF⟩
  conv => whnf
  refine ⟨⟨(_, _), hF⟩, ?_, Nat.lt_succ_self _⟩
  refine leF ?_
  conv => whnf
  exact lfF
 conv => whnf
 obtain rfl := Option.some.inj hF
 exact ⟨rtF⟩

theorem program_terms_w (p0 : ASchema) (p1 : Int) (p2 : (List Int)) (R : Bool)  (hF : program_terms p0 p1 p2 = some R) : ACall Tryz.prog 250 [.d (encASchema p0), .d (.int .i64 p1), .d (lst 1 (D.int .i64) p2)] (.d (.bool R)) := by
 refine acall Tryz.func250 (by kernel_rfl) ?_
 unfold program_terms at hF
 conv => whnf
 obtain ⟨Φ1, hΦ1, hF⟩ := iterF hF
 refine loop {p : Nat × Int // Φ1 p.1 p.2 = some R} (fun p => mkS 41 [(1, .d (.int .i64 p1)), (2, .d (lst 1 (D.int .i64) p2)), (3, .ptr 3 1 0), (9, .d (lst 1 (D.int .i64) p2)), (10, .d (.int .i64 ((p2.length : Nat) : Int))), (11, .d (.int .i64 p.1.2))] [(3, .var [.d (lst 2 encACodeList p0.Lists), .d (lst 7 encAColumn p0.Columns)], 1)]) (fun p => p.1.1) ⟨(_, _), hF⟩ ?_ fun p => ?_
 ·refine leF ?_
  conv => whnf
  exact lfF
 obtain ⟨⟨k1, v11_1⟩, hF⟩ := p
 obtain ⟨k1, rfl, hF⟩ := hΦ1 _ _ hF
 simp only [program_terms_b1] at hF
 conv => whnf
 refine brF hF ebF (fun hF => ?_) (fun hF => ?_)
 ·conv => whnf
  refine atF (f := (D.int .i64)) hF ebF fun x14 hx14 hF => ?_
  conv => whnf
  obtain ⟨x18, hx18, hF⟩ := bindF hF
  refine callA (program_measure_w _ _ _ hx18) ?_
  conv => whnf
  refine brF hF ebF (fun hF => ?_) (fun hF => ?_)
  ·obtain rfl := Option.some.inj hF
   exact ⟨rtF⟩
  obtain ⟨hr, hF⟩ := gdF hF
  refine ⟨by first | exact of_decide_eq_true hr | (simp only [List.length_map]; exact of_decide_eq_true hr), ?_⟩
  try simp only [List.length_map]
  rw [cutM]
  conv => whnf
  obtain ⟨x30, hx30, hF⟩ := bindF hF
  refine callA (slices_Contains_Lint_int_w _ _ _ hx30) ?_
  conv => whnf
  refine brF hF ebF (fun hF => ?_) (fun hF => ?_)
  ·conv => whnf
   obtain rfl := Option.some.inj hF
   exact ⟨rtF⟩
  conv => whnf
  refine ⟨⟨(_, _), hF⟩, ?_, Nat.lt_succ_self _⟩
  refine leF ?_
  conv => whnf
  exact lfF
 conv => whnf
 obtain rfl := Option.some.inj hF
 exact ⟨rtF⟩

theorem program_part_w (p0 : ASchema) (p1 : AExpr) (R : Bool)  (hF : program_part p0 p1 = some R) : ACall Tryz.prog 188 [.d (encASchema p0), .d (opAExpr p1)] (.d (.bool R)) := by
 refine acall Tryz.func188 (by kernel_rfl) ?_
 unfold program_part at hF
 conv => whnf
 refine brF hF ebF (fun hF => ?_) (fun hF => ?_)
 ·conv => whnf
  obtain rfl := Option.some.inj hF
  exact ⟨rg0⟩
 conv => whnf
 refine brF hF ebF (fun hF => ?_) (fun hF => ?_)
 ·conv => whnf
  obtain ⟨x21, hx21, hF⟩ := bindF hF
  refine callA (codes_Name_w _ _ hx21) ?_
  conv => whnf
  obtain rfl := Option.some.inj hF
  exact ⟨rg0⟩
 conv => whnf
 refine brF hF ebF (fun hF => ?_) (fun hF => ?_)
 ·conv => whnf
  refine brF hF ebF (fun hF => ?_) (fun hF => ?_)
  ·conv => whnf
   obtain ⟨x29, hx29, hF⟩ := bindF hF
   refine callA (program_measure_w _ _ _ hx29) ?_
   conv => whnf
   obtain rfl := Option.some.inj hF
   exact ⟨rg0⟩
  conv => whnf
  refine brF hF ebF (fun hF => ?_) (fun hF => ?_)
  ·conv => whnf
   obtain ⟨x35, hx35, hF⟩ := bindF hF
   refine callA (program_dims_w _ _ _ hx35) ?_
   conv => whnf
   refine brF hF ebF (fun hF => ?_) (fun hF => ?_)
   ·refine brF hF ebF (fun hF => ?_) (fun hF => ?_)
    ·obtain rfl := Option.some.inj hF
     exact ⟨rg0⟩
    obtain ⟨x44, hx44, hF⟩ := bindF hF
    refine callA (program_measure_w _ _ _ hx44) ?_
    conv => whnf
    obtain rfl := Option.some.inj hF
    exact ⟨rg0⟩
   obtain rfl := Option.some.inj hF
   exact ⟨rg0⟩
  conv => whnf
  refine brF hF ebF (fun hF => ?_) (fun hF => ?_)
  ·conv => whnf
   obtain ⟨x52, hx52, hF⟩ := bindF hF
   refine callA (program_measure_w _ _ _ hx52) ?_
   conv => whnf
   refine brF hF ebF (fun hF => ?_) (fun hF => ?_)
   ·obtain ⟨x59, hx59, hF⟩ := bindF hF
    refine callA (program_terms_w _ _ _ _ hx59) ?_
    conv => whnf
    obtain rfl := Option.some.inj hF
    exact ⟨rg0⟩
   obtain rfl := Option.some.inj hF
   exact ⟨rg0⟩
  conv => whnf
  refine brF hF ebF (fun hF => ?_) (fun hF => ?_)
  ·conv => whnf
   obtain ⟨x66, hx66, hF⟩ := bindF hF
   refine callA (program_measure_w _ _ _ hx66) ?_
   conv => whnf
   refine brF hF ebF (fun hF => ?_) (fun hF => ?_)
   ·refine atF (f := encAColumn) hF ebF fun x72 hx72 hF => ?_
    conv => whnf
    obtain rfl := Option.some.inj hF
    exact ⟨rg0⟩
   obtain rfl := Option.some.inj hF
   exact ⟨rg0⟩
  conv => whnf
  refine brF hF ebF (fun hF => ?_) (fun hF => ?_)
  ·conv => whnf
   refine ⟨⟨by decide +kernel, by kernel_rfl⟩, ?_⟩
   conv => whnf
   obtain ⟨x82, hx82, hF⟩ := bindF hF
   refine callA (program_measure_w _ _ _ hx82) ?_
   conv => whnf
   refine brF hF ebF (fun hF => ?_) (fun hF => ?_)
   ·refine atF (f := encAColumn) hF ebF fun x88 hx88 hF => ?_
    conv => whnf
    obtain ⟨x93, hx93, hF⟩ := bindF hF
    refine callA (slices_Contains_Lint_int_w _ _ _ hx93) ?_
    conv => whnf
    obtain rfl := Option.some.inj hF
    exact ⟨rg0⟩
   obtain rfl := Option.some.inj hF
   exact ⟨rg0⟩
  conv => whnf
  obtain rfl := Option.some.inj hF
  exact ⟨rg0⟩
 conv => whnf
 refine brF hF ebF (fun hF => ?_) (fun hF => ?_)
 ·conv => whnf
  refine brF hF ebF (fun hF => ?_) (fun hF => ?_)
  ·conv => whnf
   obtain ⟨x29, hx29, hF⟩ := bindF hF
   refine callA (program_measure_w _ _ _ hx29) ?_
   conv => whnf
   obtain rfl := Option.some.inj hF
   exact ⟨rg0⟩
  conv => whnf
  refine brF hF ebF (fun hF => ?_) (fun hF => ?_)
  ·conv => whnf
   obtain ⟨x35, hx35, hF⟩ := bindF hF
   refine callA (program_dims_w _ _ _ hx35) ?_
   conv => whnf
   refine brF hF ebF (fun hF => ?_) (fun hF => ?_)
   ·refine brF hF ebF (fun hF => ?_) (fun hF => ?_)
    ·obtain rfl := Option.some.inj hF
     exact ⟨rg0⟩
    obtain ⟨x44, hx44, hF⟩ := bindF hF
    refine callA (program_measure_w _ _ _ hx44) ?_
    conv => whnf
    obtain rfl := Option.some.inj hF
    exact ⟨rg0⟩
   obtain rfl := Option.some.inj hF
   exact ⟨rg0⟩
  conv => whnf
  refine brF hF ebF (fun hF => ?_) (fun hF => ?_)
  ·conv => whnf
   obtain ⟨x52, hx52, hF⟩ := bindF hF
   refine callA (program_measure_w _ _ _ hx52) ?_
   conv => whnf
   refine brF hF ebF (fun hF => ?_) (fun hF => ?_)
   ·obtain ⟨x59, hx59, hF⟩ := bindF hF
    refine callA (program_terms_w _ _ _ _ hx59) ?_
    conv => whnf
    obtain rfl := Option.some.inj hF
    exact ⟨rg0⟩
   obtain rfl := Option.some.inj hF
   exact ⟨rg0⟩
  conv => whnf
  refine brF hF ebF (fun hF => ?_) (fun hF => ?_)
  ·conv => whnf
   obtain ⟨x66, hx66, hF⟩ := bindF hF
   refine callA (program_measure_w _ _ _ hx66) ?_
   conv => whnf
   refine brF hF ebF (fun hF => ?_) (fun hF => ?_)
   ·refine atF (f := encAColumn) hF ebF fun x72 hx72 hF => ?_
    conv => whnf
    obtain rfl := Option.some.inj hF
    exact ⟨rg0⟩
   obtain rfl := Option.some.inj hF
   exact ⟨rg0⟩
  conv => whnf
  refine brF hF ebF (fun hF => ?_) (fun hF => ?_)
  ·conv => whnf
   refine ⟨⟨by decide +kernel, by kernel_rfl⟩, ?_⟩
   conv => whnf
   obtain ⟨x82, hx82, hF⟩ := bindF hF
   refine callA (program_measure_w _ _ _ hx82) ?_
   conv => whnf
   refine brF hF ebF (fun hF => ?_) (fun hF => ?_)
   ·refine atF (f := encAColumn) hF ebF fun x88 hx88 hF => ?_
    conv => whnf
    obtain ⟨x93, hx93, hF⟩ := bindF hF
    refine callA (slices_Contains_Lint_int_w _ _ _ hx93) ?_
    conv => whnf
    obtain rfl := Option.some.inj hF
    exact ⟨rg0⟩
   obtain rfl := Option.some.inj hF
   exact ⟨rg0⟩
  conv => whnf
  obtain rfl := Option.some.inj hF
  exact ⟨rg0⟩
 conv => whnf
 refine brF hF ebF (fun hF => ?_) (fun hF => ?_)
 ·conv => whnf
  obtain ⟨x29, hx29, hF⟩ := bindF hF
  refine callA (program_measure_w _ _ _ hx29) ?_
  conv => whnf
  obtain rfl := Option.some.inj hF
  exact ⟨rg0⟩
 conv => whnf
 refine brF hF ebF (fun hF => ?_) (fun hF => ?_)
 ·conv => whnf
  obtain ⟨x35, hx35, hF⟩ := bindF hF
  refine callA (program_dims_w _ _ _ hx35) ?_
  conv => whnf
  refine brF hF ebF (fun hF => ?_) (fun hF => ?_)
  ·refine brF hF ebF (fun hF => ?_) (fun hF => ?_)
   ·obtain rfl := Option.some.inj hF
    exact ⟨rg0⟩
   obtain ⟨x44, hx44, hF⟩ := bindF hF
   refine callA (program_measure_w _ _ _ hx44) ?_
   conv => whnf
   obtain rfl := Option.some.inj hF
   exact ⟨rg0⟩
  obtain rfl := Option.some.inj hF
  exact ⟨rg0⟩
 conv => whnf
 refine brF hF ebF (fun hF => ?_) (fun hF => ?_)
 ·conv => whnf
  obtain ⟨x52, hx52, hF⟩ := bindF hF
  refine callA (program_measure_w _ _ _ hx52) ?_
  conv => whnf
  refine brF hF ebF (fun hF => ?_) (fun hF => ?_)
  ·obtain ⟨x59, hx59, hF⟩ := bindF hF
   refine callA (program_terms_w _ _ _ _ hx59) ?_
   conv => whnf
   obtain rfl := Option.some.inj hF
   exact ⟨rg0⟩
  obtain rfl := Option.some.inj hF
  exact ⟨rg0⟩
 conv => whnf
 refine brF hF ebF (fun hF => ?_) (fun hF => ?_)
 ·conv => whnf
  obtain ⟨x66, hx66, hF⟩ := bindF hF
  refine callA (program_measure_w _ _ _ hx66) ?_
  conv => whnf
  refine brF hF ebF (fun hF => ?_) (fun hF => ?_)
  ·refine atF (f := encAColumn) hF ebF fun x72 hx72 hF => ?_
   conv => whnf
   obtain rfl := Option.some.inj hF
   exact ⟨rg0⟩
  obtain rfl := Option.some.inj hF
  exact ⟨rg0⟩
 conv => whnf
 refine brF hF ebF (fun hF => ?_) (fun hF => ?_)
 ·conv => whnf
  refine ⟨⟨by decide +kernel, by kernel_rfl⟩, ?_⟩
  conv => whnf
  obtain ⟨x82, hx82, hF⟩ := bindF hF
  refine callA (program_measure_w _ _ _ hx82) ?_
  conv => whnf
  refine brF hF ebF (fun hF => ?_) (fun hF => ?_)
  ·refine atF (f := encAColumn) hF ebF fun x88 hx88 hF => ?_
   conv => whnf
   obtain ⟨x93, hx93, hF⟩ := bindF hF
   refine callA (slices_Contains_Lint_int_w _ _ _ hx93) ?_
   conv => whnf
   obtain rfl := Option.some.inj hF
   exact ⟨rg0⟩
  obtain rfl := Option.some.inj hF
  exact ⟨rg0⟩
 conv => whnf
 obtain rfl := Option.some.inj hF
 exact ⟨rg0⟩

theorem program_Number_w (p0 : Int) (R : Bool)  (hF : program_Number p0 = some R) : ACall Tryz.prog 192 [.d (.int .i64 p0)] (.d (.bool R)) := by
 refine acall Tryz.func192 (by kernel_rfl) ?_
 unfold program_Number at hF
 conv => whnf
 obtain rfl := Option.some.inj hF
 exact ⟨rtF⟩

theorem program_right_ws (d : Nat) (self_program_right : (ASchema → AExpr → Option Bool)) (ih_program_right : ∀ (p0 : ASchema) (p1 : AExpr) (R : Bool) , self_program_right p0 p1 = some R → ACall Tryz.prog 121 [.d (encASchema p0), .d (opAExpr p1)] (.d (.bool R))) (self_program_right_c1 : (AExpr → ASchema → Option Bool)) (ih_program_right_c1 : ∀ (p0 : AExpr) (q0 : ASchema) (R : Bool) , self_program_right_c1 p0 q0 = some R → ACall Tryz.prog 191 [.d (opAExpr p0), .d (.ptr [(lst 2 encACodeList q0.Lists), (lst 7 encAColumn q0.Columns)])] (.d (.bool R))) (p0 : ASchema) (p1 : AExpr) (R : Bool)  (hF : program_right_s d self_program_right self_program_right_c1 p0 p1 = some R) : ACall Tryz.prog 121 [.d (encASchema p0), .d (opAExpr p1)] (.d (.bool R)) := by
 refine acallJ [4] Tryz.func121 (by kernel_rfl) ?_
 unfold program_right_s at hF
 conv => whnf
 obtain ⟨x10, hx10, hF⟩ := bindF hF
 refine callA (program_fields_w _ _ hx10) ?_
 conv => whnf
 refine join {p : Unit // program_right_j1 x10 d p0 p1 self_program_right_c1 = some R} (fun p => mkS 61 [(2, .ptr 2 1 0), (3, .ptr 3 1 0), (5, .ptr 5 1 0)] [(2, .var [.d (lst 2 encACodeList p0.Lists), .d (lst 7 encAColumn p0.Columns)], 1), (3, .var [.d (.int .i64 p1.Op), .d (.int .i64 p1.Num), .d (.str p1.Name), .d (.int .i64 p1.Column), .d (lst 1 (D.int .i64) p1.Columns), .d (lst 2 encAPick p1.Dims), .d (.int .i64 p1.Cond.Op), .d (.int .i64 p1.Cond.Column), .d (.int .i64 p1.Cond.Code), .d (.int .i64 p1.Cond.Low), .d (.int .i64 p1.Cond.High), .d (lst 6 encACond p1.Cond.Kids), .d (.int .i64 p1.Event.Op), .d (.int .i64 p1.Event.Column), .d (.int .i64 p1.Event.Code), .d (.int .i64 p1.Event.Low), .d (.int .i64 p1.Event.High), .d (lst 6 encACond p1.Event.Kids), .d (lst 19 encAExpr p1.Kids)], 1), (5, .var [.d (.bool x10.1.f_num), .d (.bool x10.1.f_name), .d (.bool x10.1.f_column), .d (.bool x10.1.f_columns), .d (.bool x10.1.f_dims), .d (.bool x10.1.f_cond), .d (.bool x10.1.f_event)], 1)]) ?_ fun p => ?_
 ·conv => whnf
  refine brF hF ebF (fun hF => ?_) (fun hF => ?_)
  ·obtain rfl := Option.some.inj hF
   exact ⟨rg0⟩
  obtain ⟨x18, hx18, hF⟩ := bindF hF
  refine callA (program_unused_w _ _ _ hx18) ?_
  conv => whnf
  refine brF hF ebF (fun hF => ?_) (fun hF => ?_)
  ·obtain rfl := Option.some.inj hF
   exact ⟨rg0⟩
  obtain ⟨x24, hx24, hF⟩ := bindF hF
  refine callA (program_part_w _ _ _ hx24) ?_
  conv => whnf
  refine brF hF ebF (fun hF => ?_) (fun hF => ?_)
  ·conv => whnf
   obtain rfl := Option.some.inj hF
   exact ⟨rg0⟩
  conv => whnf
  refine ⟨⟨(), hF⟩, ?_⟩
  refine leF ?_
  conv => whnf
  exact lg0
 obtain ⟨_, hF⟩ := p
 simp only [program_right_j1] at hF
 conv => whnf
 refine brF hF ebF (fun hF => ?_) (fun hF => ?_)
 ·obtain ⟨x33, hx33, hF⟩ := bindF hF
  refine callA (condition_Check_w _ _ _ _ hx33) ?_
  conv => whnf
  refine brF hF ebF (fun hF => ?_) (fun hF => ?_)
  ·obtain rfl := Option.some.inj hF
   exact ⟨rg0⟩
  refine brF hF ebF (fun hF => ?_) (fun hF => ?_)
  ·obtain ⟨x43, hx43, hF⟩ := bindF hF
   refine callA (condition_Check_w _ _ _ _ hx43) ?_
   conv => whnf
   refine brF hF ebF (fun hF => ?_) (fun hF => ?_)
   ·conv => whnf
    obtain rfl := Option.some.inj hF
    exact ⟨rg0⟩
   conv => whnf
   obtain ⟨x49, hx49, hF⟩ := bindF hF
   refine callA (program_Pair_w _ _ hx49) ?_
   conv => whnf
   refine brF hF ebF (fun hF => ?_) (fun hF => ?_)
   ·conv => whnf
    obtain rfl := Option.some.inj hF
    exact ⟨rg0⟩
   conv => whnf
   obtain ⟨x59, hx59, hF⟩ := bindF hF
   refine callA (slices_ContainsFunc_Lapi_Expr_api_Expr_w _ _ _ _ _ (fun a0 _ h => ih_program_right_c1 a0 _ _ h) hx59) ?_
   conv => whnf
   obtain rfl := Option.some.inj hF
   exact ⟨rg0⟩
  obtain ⟨x49, hx49, hF⟩ := bindF hF
  refine callA (program_Pair_w _ _ hx49) ?_
  conv => whnf
  refine brF hF ebF (fun hF => ?_) (fun hF => ?_)
  ·conv => whnf
   obtain rfl := Option.some.inj hF
   exact ⟨rg0⟩
  conv => whnf
  obtain ⟨x59, hx59, hF⟩ := bindF hF
  refine callA (slices_ContainsFunc_Lapi_Expr_api_Expr_w _ _ _ _ _ (fun a0 _ h => ih_program_right_c1 a0 _ _ h) hx59) ?_
  conv => whnf
  obtain rfl := Option.some.inj hF
  exact ⟨rg0⟩
 refine brF hF ebF (fun hF => ?_) (fun hF => ?_)
 ·obtain ⟨x43, hx43, hF⟩ := bindF hF
  refine callA (condition_Check_w _ _ _ _ hx43) ?_
  conv => whnf
  refine brF hF ebF (fun hF => ?_) (fun hF => ?_)
  ·conv => whnf
   obtain rfl := Option.some.inj hF
   exact ⟨rg0⟩
  conv => whnf
  obtain ⟨x49, hx49, hF⟩ := bindF hF
  refine callA (program_Pair_w _ _ hx49) ?_
  conv => whnf
  refine brF hF ebF (fun hF => ?_) (fun hF => ?_)
  ·conv => whnf
   obtain rfl := Option.some.inj hF
   exact ⟨rg0⟩
  conv => whnf
  obtain ⟨x59, hx59, hF⟩ := bindF hF
  refine callA (slices_ContainsFunc_Lapi_Expr_api_Expr_w _ _ _ _ _ (fun a0 _ h => ih_program_right_c1 a0 _ _ h) hx59) ?_
  conv => whnf
  obtain rfl := Option.some.inj hF
  exact ⟨rg0⟩
 obtain ⟨x49, hx49, hF⟩ := bindF hF
 refine callA (program_Pair_w _ _ hx49) ?_
 conv => whnf
 refine brF hF ebF (fun hF => ?_) (fun hF => ?_)
 ·conv => whnf
  obtain rfl := Option.some.inj hF
  exact ⟨rg0⟩
 conv => whnf
 obtain ⟨x59, hx59, hF⟩ := bindF hF
 refine callA (slices_ContainsFunc_Lapi_Expr_api_Expr_w _ _ _ _ _ (fun a0 _ h => ih_program_right_c1 a0 _ _ h) hx59) ?_
 conv => whnf
 obtain rfl := Option.some.inj hF
 exact ⟨rg0⟩

theorem program_right_c1_ws (d : Nat) (self_program_right : (ASchema → AExpr → Option Bool)) (ih_program_right : ∀ (p0 : ASchema) (p1 : AExpr) (R : Bool) , self_program_right p0 p1 = some R → ACall Tryz.prog 121 [.d (encASchema p0), .d (opAExpr p1)] (.d (.bool R))) (self_program_right_c1 : (AExpr → ASchema → Option Bool)) (ih_program_right_c1 : ∀ (p0 : AExpr) (q0 : ASchema) (R : Bool) , self_program_right_c1 p0 q0 = some R → ACall Tryz.prog 191 [.d (opAExpr p0), .d (.ptr [(lst 2 encACodeList q0.Lists), (lst 7 encAColumn q0.Columns)])] (.d (.bool R))) (p0 : AExpr) (q0 : ASchema) (R : Bool)  (hF : program_right_c1_s d self_program_right self_program_right_c1 p0 q0 = some R) : ACall Tryz.prog 191 [.d (opAExpr p0), .d (.ptr [(lst 2 encACodeList q0.Lists), (lst 7 encAColumn q0.Columns)])] (.d (.bool R)) := by
 refine acall Tryz.func191 (by kernel_rfl) ?_
 unfold program_right_c1_s at hF
 conv => whnf
 obtain ⟨x6, hx6, hF⟩ := bindF hF
 refine callA (program_Number_w _ _ hx6) ?_
 conv => whnf
 refine brF hF ebF (fun hF => ?_) (fun hF => ?_)
 ·obtain rfl := Option.some.inj hF
  exact ⟨rg0⟩
 obtain ⟨x11, hx11, hF⟩ := bindF hF
 first | refine callA (ih_program_right _ _ _ hx11) ?_ | (simp only [List.length_map]; refine callA (ih_program_right _ _ _ hx11) ?_)
 conv => whnf
 obtain rfl := Option.some.inj hF
 exact ⟨rg0⟩

theorem program_right_program_right_c1_wr : ∀ d : Nat, (∀ (p0 : ASchema) (p1 : AExpr) (R : Bool) , program_right d p0 p1 = some R → ACall Tryz.prog 121 [.d (encASchema p0), .d (opAExpr p1)] (.d (.bool R))) ∧ (∀ (p0 : AExpr) (q0 : ASchema) (R : Bool) , program_right_c1 d p0 q0 = some R → ACall Tryz.prog 191 [.d (opAExpr p0), .d (.ptr [(lst 2 encACodeList q0.Lists), (lst 7 encAColumn q0.Columns)])] (.d (.bool R)))
  | 0 => by
   refine ⟨?_, ?_⟩ <;> (intros; rename_i h; cases h)
  | d + 1 => by
   have ih := program_right_program_right_c1_wr d
   exact ⟨program_right_ws d _ (ih).1 _ (ih).2, program_right_c1_ws d _ (ih).1 _ (ih).2⟩

theorem program_right_w (d : Nat) : ∀ (p0 : ASchema) (p1 : AExpr) (R : Bool) , program_right d p0 p1 = some R → ACall Tryz.prog 121 [.d (encASchema p0), .d (opAExpr p1)] (.d (.bool R)) := (program_right_program_right_c1_wr d).1

theorem program_right_c1_w (d : Nat) : ∀ (p0 : AExpr) (q0 : ASchema) (R : Bool) , program_right_c1 d p0 q0 = some R → ACall Tryz.prog 191 [.d (opAExpr p0), .d (.ptr [(lst 2 encACodeList q0.Lists), (lst 7 encAColumn q0.Columns)])] (.d (.bool R)) := (program_right_program_right_c1_wr d).2

theorem program_Right_w (d : Nat) (p0 : ASchema) (p1 : AExpr) (R : Bool)  (hF : program_Right d p0 p1 = some R) : ACall Tryz.prog 62 [.d (encASchema p0), .d (opAExpr p1)] (.d (.bool R)) := by
 refine acall Tryz.func62 (by kernel_rfl) ?_
 unfold program_Right at hF
 conv => whnf
 obtain ⟨x6, hx6, hF⟩ := bindF hF
 refine callA (schema_Check_w _ _ hx6) ?_
 conv => whnf
 refine brF hF ebF (fun hF => ?_) (fun hF => ?_)
 ·obtain ⟨x11, hx11, hF⟩ := bindF hF
  refine callA (program_right_w _ _ _ _ hx11) ?_
  conv => whnf
  obtain rfl := Option.some.inj hF
  exact ⟨rg0⟩
 obtain rfl := Option.some.inj hF
 exact ⟨rg0⟩

theorem condition_Covers_c1_c1_w (p0 : APick) (q0 : APick) (R : Bool)  (hF : condition_Covers_c1_c1 p0 q0 = some R) : ACall Tryz.prog 124 [.d (encAPick p0), .d (.ptr [(.int .i64 q0.Column), (.int .i64 q0.Level)])] (.d (.bool R)) := by
 refine acall Tryz.func124 (by kernel_rfl) ?_
 unfold condition_Covers_c1_c1 at hF
 conv => whnf
 obtain rfl := Option.some.inj hF
 exact ⟨rtF⟩

theorem condition_Covers_c1_w (p0 : APick) (q0 : (List APick)) (R : Bool)  (hF : condition_Covers_c1 p0 q0 = some R) : ACall Tryz.prog 123 [.d (encAPick p0), .d (.ptr [(lst 2 encAPick q0)])] (.d (.bool R)) := by
 refine acall Tryz.func123 (by kernel_rfl) ?_
 unfold condition_Covers_c1 at hF
 conv => whnf
 obtain ⟨x6, hx6, hF⟩ := bindF hF
 refine callA (slices_ContainsFunc_Lapi_Pick_api_Pick_w _ _ _ _ _ (fun a0 _ h => condition_Covers_c1_c1_w a0 _ _ h) hx6) ?_
 conv => whnf
 obtain rfl := Option.some.inj hF
 exact ⟨rtF⟩

theorem condition_Covers_w (p0 : (List APick)) (p1 : (List APick)) (R : Bool)  (hF : condition_Covers p0 p1 = some R) : ACall Tryz.prog 63 [.d (lst 2 encAPick p0), .d (lst 2 encAPick p1)] (.d (.bool R)) := by
 refine acall Tryz.func63 (by kernel_rfl) ?_
 unfold condition_Covers at hF
 conv => whnf
 obtain ⟨x7, hx7, hF⟩ := bindF hF
 refine callA (slices_ContainsFunc_Lapi_Pick_api_Pick_w _ _ _ _ _ (fun a0 _ h => condition_Covers_c1_w a0 _ _ h) hx7) ?_
 conv => whnf
 obtain rfl := Option.some.inj hF
 exact ⟨rtF⟩

theorem condition_Atoms_ws (d : Nat) (self_condition_Atoms : (ACond → Option (List ACond))) (ih_condition_Atoms : ∀ (p0 : ACond) (R : (List ACond)) , self_condition_Atoms p0 = some R → ACall Tryz.prog 143 [.d (opACond p0)] (.d (lst 6 encACond R))) (p0 : ACond) (R : (List ACond))  (hF : condition_Atoms_s d self_condition_Atoms p0 = some R) : ACall Tryz.prog 143 [.d (opACond p0)] (.d (lst 6 encACond R)) := by
 refine acall Tryz.func143 (by kernel_rfl) ?_
 unfold condition_Atoms_s at hF
 conv => whnf
 refine brF hF ebF (fun hF => ?_) (fun hF => ?_)
 ·conv => whnf
  obtain rfl := Option.some.inj hF
  refine ⟨.inl ?_⟩
  conv => whnf
  exact ⟨rg0⟩
 conv => whnf
 obtain ⟨Φ1, hΦ1, hF⟩ := iterF hF
 refine loop {p : Nat × (Int × (List ACond)) // Φ1 p.1 p.2 = some R} (fun p => mkS 34 [(3, .sl 3 1), (22, .d (lst 6 encACond p0.Kids)), (23, .d (.int .i64 ((p0.Kids.length : Nat) : Int))), (24, .d (.int .i64 p.1.2.1))] [(3, .row 6 47 (List.map encACond p.1.2.2), 1)]) (fun p => p.1.1) ⟨(_, (_, _)), hF⟩ ?_ fun p => ?_
 ·refine leF ?_
  conv => whnf
  exact lg1
 obtain ⟨⟨k1, ⟨v24_1, b3_1⟩⟩, hF⟩ := p
 obtain ⟨k1, rfl, hF⟩ := hΦ1 _ _ hF
 simp only [condition_Atoms_b1] at hF
 conv => whnf
 refine brF hF ebF (fun hF => ?_) (fun hF => ?_)
 ·conv => whnf
  refine atF (f := encACond) hF ebF fun x26 hx26 hF => ?_
  rw [encACond_op x26]
  conv => whnf
  obtain ⟨x30, hx30, hF⟩ := bindF hF
  first | refine callA (ih_condition_Atoms _ _ hx30) ?_ | (simp only [List.length_map]; refine callA (ih_condition_Atoms _ _ hx30) ?_)
  conv => whnf
  obtain ⟨hr, hF⟩ := gdF hF
  refine ⟨by (simp only [List.length_map]; exact rm_fits hr (of_decide_eq_true (by kernel_rfl)) (.inr (by kernel_rfl))), ?_⟩
  try rw [appM]
  conv => whnf
  refine ⟨⟨(_, (_, _)), hF⟩, ?_, Nat.lt_succ_self _⟩
  refine leF ?_
  conv => whnf
  exact lg1
 conv => whnf
 obtain rfl := Option.some.inj hF
 refine ⟨.inl ?_⟩
 conv => whnf
 exact ⟨rg0⟩

theorem condition_Atoms_wr : ∀ d : Nat, (∀ (p0 : ACond) (R : (List ACond)) , condition_Atoms d p0 = some R → ACall Tryz.prog 143 [.d (opACond p0)] (.d (lst 6 encACond R)))
  | 0 => by
   refine (by intros; rename_i h; cases h)
  | d + 1 => by
   have ih := condition_Atoms_wr d
   exact condition_Atoms_ws d _ ih

theorem condition_Atoms_w (d : Nat) : ∀ (p0 : ACond) (R : (List ACond)) , condition_Atoms d p0 = some R → ACall Tryz.prog 143 [.d (opACond p0)] (.d (lst 6 encACond R)) := condition_Atoms_wr d

theorem condition_truth_w (p0 : Bool) (R : Int)  (hF : condition_truth p0 = some R) : ACall Tryz.prog 265 [.d (.bool p0)] (.d (.int .i64 R)) := by
 refine acall Tryz.func265 (by kernel_rfl) ?_
 unfold condition_truth at hF
 conv => whnf
 refine brF hF ebF (fun hF => ?_) (fun hF => ?_)
 ·conv => whnf
  obtain rfl := Option.some.inj hF
  exact ⟨rtF⟩
 conv => whnf
 obtain rfl := Option.some.inj hF
 exact ⟨rtF⟩

theorem codes_Under_w (p0 : ACodeList) (p1 : Int) (p2 : Int) (R : Bool)  (hF : codes_Under p0 p1 p2 = some R) : ACall Tryz.prog 266 [.d (encACodeList p0), .d (.int .i64 p1), .d (.int .i64 p2)] (.d (.bool R)) := by
 refine acall Tryz.func266 (by kernel_rfl) ?_
 unfold codes_Under at hF
 conv => whnf
 obtain ⟨x9, hx9, hF⟩ := bindF hF
 refine callA (codes_has_w _ _ _ hx9) ?_
 conv => whnf
 refine brF hF ebF (fun hF => ?_) (fun hF => ?_)
 ·obtain rfl := Option.some.inj hF
  exact ⟨rtF⟩
 obtain ⟨x14, hx14, hF⟩ := bindF hF
 refine callA (codes_has_w _ _ _ hx14) ?_
 conv => whnf
 refine brF hF ebF (fun hF => ?_) (fun hF => ?_)
 ·conv => whnf
  obtain rfl := Option.some.inj hF
  exact ⟨rtF⟩
 conv => whnf
 refine ⟨⟨by decide +kernel, by kernel_rfl⟩, ?_⟩
 conv => whnf
 obtain ⟨x20, hx20, hF⟩ := bindF hF
 refine callA (codes_depths_w _ _ hx20) ?_
 conv => whnf
 refine atF (f := (D.int .i64)) hF ebF fun x22 hx22 hF => ?_
 conv => whnf
 obtain ⟨x24, hx24, hF⟩ := bindF hF
 refine callA (codes_Up_w _ _ _ _ hx24) ?_
 conv => whnf
 obtain rfl := Option.some.inj hF
 exact ⟨rtF⟩
end Go.Proofs.YtejfnieiaecpkaaGreatDoor.P
