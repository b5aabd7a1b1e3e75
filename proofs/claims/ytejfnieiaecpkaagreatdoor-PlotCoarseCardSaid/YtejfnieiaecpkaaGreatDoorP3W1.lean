/-
 Printed by wip/tools/mkw.py: walks: slices_Index_Lint_int slices_Contains_Lint_int slices_IndexFunc_Lapi_Pick_api_Pick slices_IndexFunc_Lint_int slices_ContainsFunc_Lint_int slices_ContainsFunc_Lapi_Pick_api_Pick slices_IndexFunc_Lapi_CodeList_api_CodeList slices_ContainsFunc_Lapi_CodeList_api_CodeList slices_IndexFunc_Lapi_Expr_api_Expr slices_ContainsFunc_Lapi_Expr_api_Expr slices_IndexFunc_Lapi_Column_api_Column slices_ContainsFunc_Lapi_Column_api_Column slices_Max_Lint_int draw_New draw_Codes_Next draw_Codes_One draw_Codes_Range draw_Codes_List draw_Codes_Measure draw_Codes_Schema ref04_Put ref01_depth
-/
import Derived.Test.YtejfnieiaecpkaaGreatDoorChecked
import Derived.Test.YtejfnieiaecpkaaGreatDoorP3F
import Derived.Test.YtejfnieiaecpkaaGreatDoorP3A
import Derived.Test.YtejfnieiaecpkaaGreatDoorP3HW
set_option linter.unusedSimpArgs false
namespace Go.Proofs.YtejfnieiaecpkaaGreatDoor.P
open Go.Abs Go.Proofs
set_option maxRecDepth 100000
set_option maxHeartbeats 4000000
set_option linter.unusedVariables false

theorem slices_Index_Lint_int_w (p0 : (List Int)) (p1 : Int) (R : Int)  (hF : slices_Index_Lint_int p0 p1 = some R) : ACall Tryz.prog 126 [.d (lst 1 (D.int .i64) p0), .d (.int .i64 p1)] (.d (.int .i64 R)) := by
 refine acall Tryz.func126 (by kernel_rfl) ?_
 unfold slices_Index_Lint_int at hF
 conv => whnf
 obtain ⟨Φ1, hΦ1, hF⟩ := iterF hF
 refine loop {p : Nat × Int // Φ1 p.1 p.2 = some R} (fun p => mkS 19 [(0, .d (lst 1 (D.int .i64) p0)), (1, .d (.int .i64 p1)), (7, .d (.int .i64 ((p0.length : Nat) : Int))), (8, .d (.int .i64 p.1.2))] []) (fun p => p.1.1) ⟨(_, _), hF⟩ ?_ fun p => ?_
 ·refine leF ?_
  conv => whnf
  exact lfF
 obtain ⟨⟨k1, v8_1⟩, hF⟩ := p
 obtain ⟨k1, rfl, hF⟩ := hΦ1 _ _ hF
 simp only [slices_Index_Lint_int_b1] at hF
 conv => whnf
 refine brF hF ebF (fun hF => ?_) (fun hF => ?_)
 ·conv => whnf
  refine atF (f := (D.int .i64)) hF ebF fun x14 hx14 hF => ?_
  conv => whnf
  refine brF hF ebF (fun hF => ?_) (fun hF => ?_)
  ·conv => whnf
   obtain rfl := Option.some.inj hF
   exact ⟨rtF⟩
  conv => whnf
  refine ⟨⟨(_, _), hF⟩, ?_, Nat.lt_succ_self _⟩
  refine leF ?_
  conv => whnf
  exact lfF
 conv => whnf
 obtain rfl := Option.some.inj hF
 exact ⟨rtF⟩

theorem slices_Contains_Lint_int_w (p0 : (List Int)) (p1 : Int) (R : Bool)  (hF : slices_Contains_Lint_int p0 p1 = some R) : ACall Tryz.prog 65 [.d (lst 1 (D.int .i64) p0), .d (.int .i64 p1)] (.d (.bool R)) := by
 refine acall Tryz.func65 (by kernel_rfl) ?_
 unfold slices_Contains_Lint_int at hF
 conv => whnf
 obtain ⟨x7, hx7, hF⟩ := bindF hF
 refine callA (slices_Index_Lint_int_w _ _ _ hx7) ?_
 conv => whnf
 obtain rfl := Option.some.inj hF
 exact ⟨rtF⟩

theorem slices_IndexFunc_Lapi_Pick_api_Pick_w (p0 : (List APick)) (p1 : (APick → Option Bool)) (f_p1 : FuncId) (c_p1 : List D) (R : Int) (h_p1 : ∀ (a0 : APick) r, p1 a0 = some r → ACall Tryz.prog f_p1 ([.d (encAPick a0)] ++ c_p1.map .d) (.d (.bool r))) (hF : slices_IndexFunc_Lapi_Pick_api_Pick p0 p1 = some R) : ACall Tryz.prog 83 [.d (lst 2 encAPick p0), .d (.fn f_p1 c_p1)] (.d (.int .i64 R)) := by
 refine acall Tryz.func83 (by kernel_rfl) ?_
 unfold slices_IndexFunc_Lapi_Pick_api_Pick at hF
 conv => whnf
 obtain ⟨Φ1, hΦ1, hF⟩ := iterF hF
 refine loop {p : Nat × Int // Φ1 p.1 p.2 = some R} (fun p => mkS 19 [(0, .d (lst 2 encAPick p0)), (1, .d (.fn f_p1 c_p1)), (7, .d (.int .i64 ((p0.length : Nat) : Int))), (8, .d (.int .i64 p.1.2))] []) (fun p => p.1.1) ⟨(_, _), hF⟩ ?_ fun p => ?_
 ·refine leF ?_
  conv => whnf
  exact lfF
 obtain ⟨⟨k1, v8_1⟩, hF⟩ := p
 obtain ⟨k1, rfl, hF⟩ := hΦ1 _ _ hF
 simp only [slices_IndexFunc_Lapi_Pick_api_Pick_b1] at hF
 conv => whnf
 refine brF hF ebF (fun hF => ?_) (fun hF => ?_)
 ·conv => whnf
  refine atF (f := encAPick) hF ebF fun x14 hx14 hF => ?_
  conv => whnf
  rw [capsK_eq]
  conv => whnf
  obtain ⟨x16, hx16, hF⟩ := bindF hF
  refine callA (h_p1 _ _ hx16) ?_
  conv => whnf
  refine brF hF ebF (fun hF => ?_) (fun hF => ?_)
  ·conv => whnf
   obtain rfl := Option.some.inj hF
   exact ⟨rtF⟩
  conv => whnf
  refine ⟨⟨(_, _), hF⟩, ?_, Nat.lt_succ_self _⟩
  refine leF ?_
  conv => whnf
  exact lfF
 conv => whnf
 obtain rfl := Option.some.inj hF
 exact ⟨rtF⟩

theorem slices_IndexFunc_Lint_int_w (p0 : (List Int)) (p1 : (Int → Option Bool)) (f_p1 : FuncId) (c_p1 : List D) (R : Int) (h_p1 : ∀ (a0 : Int) r, p1 a0 = some r → ACall Tryz.prog f_p1 ([.d (.int .i64 a0)] ++ c_p1.map .d) (.d (.bool r))) (hF : slices_IndexFunc_Lint_int p0 p1 = some R) : ACall Tryz.prog 150 [.d (lst 1 (D.int .i64) p0), .d (.fn f_p1 c_p1)] (.d (.int .i64 R)) := by
 refine acall Tryz.func150 (by kernel_rfl) ?_
 unfold slices_IndexFunc_Lint_int at hF
 conv => whnf
 obtain ⟨Φ1, hΦ1, hF⟩ := iterF hF
 refine loop {p : Nat × Int // Φ1 p.1 p.2 = some R} (fun p => mkS 19 [(0, .d (lst 1 (D.int .i64) p0)), (1, .d (.fn f_p1 c_p1)), (7, .d (.int .i64 ((p0.length : Nat) : Int))), (8, .d (.int .i64 p.1.2))] []) (fun p => p.1.1) ⟨(_, _), hF⟩ ?_ fun p => ?_
 ·refine leF ?_
  conv => whnf
  exact lfF
 obtain ⟨⟨k1, v8_1⟩, hF⟩ := p
 obtain ⟨k1, rfl, hF⟩ := hΦ1 _ _ hF
 simp only [slices_IndexFunc_Lint_int_b1] at hF
 conv => whnf
 refine brF hF ebF (fun hF => ?_) (fun hF => ?_)
 ·conv => whnf
  refine atF (f := (D.int .i64)) hF ebF fun x14 hx14 hF => ?_
  conv => whnf
  rw [capsK_eq]
  conv => whnf
  obtain ⟨x16, hx16, hF⟩ := bindF hF
  refine callA (h_p1 _ _ hx16) ?_
  conv => whnf
  refine brF hF ebF (fun hF => ?_) (fun hF => ?_)
  ·conv => whnf
   obtain rfl := Option.some.inj hF
   exact ⟨rtF⟩
  conv => whnf
  refine ⟨⟨(_, _), hF⟩, ?_, Nat.lt_succ_self _⟩
  refine leF ?_
  conv => whnf
  exact lfF
 conv => whnf
 obtain rfl := Option.some.inj hF
 exact ⟨rtF⟩

theorem slices_ContainsFunc_Lint_int_w (p0 : (List Int)) (p1 : (Int → Option Bool)) (f_p1 : FuncId) (c_p1 : List D) (R : Bool) (h_p1 : ∀ (a0 : Int) r, p1 a0 = some r → ACall Tryz.prog f_p1 ([.d (.int .i64 a0)] ++ c_p1.map .d) (.d (.bool r))) (hF : slices_ContainsFunc_Lint_int p0 p1 = some R) : ACall Tryz.prog 86 [.d (lst 1 (D.int .i64) p0), .d (.fn f_p1 c_p1)] (.d (.bool R)) := by
 refine acall Tryz.func86 (by kernel_rfl) ?_
 unfold slices_ContainsFunc_Lint_int at hF
 conv => whnf
 obtain ⟨x7, hx7, hF⟩ := bindF hF
 refine callA (slices_IndexFunc_Lint_int_w _ _ _ _ _ h_p1 hx7) ?_
 conv => whnf
 obtain rfl := Option.some.inj hF
 exact ⟨rtF⟩

theorem slices_ContainsFunc_Lapi_Pick_api_Pick_w (p0 : (List APick)) (p1 : (APick → Option Bool)) (f_p1 : FuncId) (c_p1 : List D) (R : Bool) (h_p1 : ∀ (a0 : APick) r, p1 a0 = some r → ACall Tryz.prog f_p1 ([.d (encAPick a0)] ++ c_p1.map .d) (.d (.bool r))) (hF : slices_ContainsFunc_Lapi_Pick_api_Pick p0 p1 = some R) : ACall Tryz.prog 122 [.d (lst 2 encAPick p0), .d (.fn f_p1 c_p1)] (.d (.bool R)) := by
 refine acall Tryz.func122 (by kernel_rfl) ?_
 unfold slices_ContainsFunc_Lapi_Pick_api_Pick at hF
 conv => whnf
 obtain ⟨x7, hx7, hF⟩ := bindF hF
 refine callA (slices_IndexFunc_Lapi_Pick_api_Pick_w _ _ _ _ _ h_p1 hx7) ?_
 conv => whnf
 obtain rfl := Option.some.inj hF
 exact ⟨rtF⟩

theorem slices_IndexFunc_Lapi_CodeList_api_CodeList_w (p0 : (List ACodeList)) (p1 : (ACodeList → Option Bool)) (f_p1 : FuncId) (c_p1 : List D) (R : Int) (h_p1 : ∀ (a0 : ACodeList) r, p1 a0 = some r → ACall Tryz.prog f_p1 ([.d (encACodeList a0)] ++ c_p1.map .d) (.d (.bool r))) (hF : slices_IndexFunc_Lapi_CodeList_api_CodeList p0 p1 = some R) : ACall Tryz.prog 242 [.d (lst 2 encACodeList p0), .d (.fn f_p1 c_p1)] (.d (.int .i64 R)) := by
 refine acall Tryz.func242 (by kernel_rfl) ?_
 unfold slices_IndexFunc_Lapi_CodeList_api_CodeList at hF
 conv => whnf
 obtain ⟨Φ1, hΦ1, hF⟩ := iterF hF
 refine loop {p : Nat × Int // Φ1 p.1 p.2 = some R} (fun p => mkS 19 [(0, .d (lst 2 encACodeList p0)), (1, .d (.fn f_p1 c_p1)), (7, .d (.int .i64 ((p0.length : Nat) : Int))), (8, .d (.int .i64 p.1.2))] []) (fun p => p.1.1) ⟨(_, _), hF⟩ ?_ fun p => ?_
 ·refine leF ?_
  conv => whnf
  exact lfF
 obtain ⟨⟨k1, v8_1⟩, hF⟩ := p
 obtain ⟨k1, rfl, hF⟩ := hΦ1 _ _ hF
 simp only [slices_IndexFunc_Lapi_CodeList_api_CodeList_b1] at hF
 conv => whnf
 refine brF hF ebF (fun hF => ?_) (fun hF => ?_)
 ·conv => whnf
  refine atF (f := encACodeList) hF ebF fun x14 hx14 hF => ?_
  conv => whnf
  rw [capsK_eq]
  conv => whnf
  obtain ⟨x16, hx16, hF⟩ := bindF hF
  refine callA (h_p1 _ _ hx16) ?_
  conv => whnf
  refine brF hF ebF (fun hF => ?_) (fun hF => ?_)
  ·conv => whnf
   obtain rfl := Option.some.inj hF
   exact ⟨rtF⟩
  conv => whnf
  refine ⟨⟨(_, _), hF⟩, ?_, Nat.lt_succ_self _⟩
  refine leF ?_
  conv => whnf
  exact lfF
 conv => whnf
 obtain rfl := Option.some.inj hF
 exact ⟨rtF⟩

theorem slices_ContainsFunc_Lapi_CodeList_api_CodeList_w (p0 : (List ACodeList)) (p1 : (ACodeList → Option Bool)) (f_p1 : FuncId) (c_p1 : List D) (R : Bool) (h_p1 : ∀ (a0 : ACodeList) r, p1 a0 = some r → ACall Tryz.prog f_p1 ([.d (encACodeList a0)] ++ c_p1.map .d) (.d (.bool r))) (hF : slices_ContainsFunc_Lapi_CodeList_api_CodeList p0 p1 = some R) : ACall Tryz.prog 182 [.d (lst 2 encACodeList p0), .d (.fn f_p1 c_p1)] (.d (.bool R)) := by
 refine acall Tryz.func182 (by kernel_rfl) ?_
 unfold slices_ContainsFunc_Lapi_CodeList_api_CodeList at hF
 conv => whnf
 obtain ⟨x7, hx7, hF⟩ := bindF hF
 refine callA (slices_IndexFunc_Lapi_CodeList_api_CodeList_w _ _ _ _ _ h_p1 hx7) ?_
 conv => whnf
 obtain rfl := Option.some.inj hF
 exact ⟨rtF⟩

theorem slices_IndexFunc_Lapi_Expr_api_Expr_w (p0 : (List AExpr)) (p1 : (AExpr → Option Bool)) (f_p1 : FuncId) (c_p1 : List D) (R : Int) (h_p1 : ∀ (a0 : AExpr) r, p1 a0 = some r → ACall Tryz.prog f_p1 ([.d (opAExpr a0)] ++ c_p1.map .d) (.d (.bool r))) (hF : slices_IndexFunc_Lapi_Expr_api_Expr p0 p1 = some R) : ACall Tryz.prog 251 [.d (lst 19 encAExpr p0), .d (.fn f_p1 c_p1)] (.d (.int .i64 R)) := by
 refine acall Tryz.func251 (by kernel_rfl) ?_
 unfold slices_IndexFunc_Lapi_Expr_api_Expr at hF
 conv => whnf
 obtain ⟨Φ1, hΦ1, hF⟩ := iterF hF
 refine loop {p : Nat × Int // Φ1 p.1 p.2 = some R} (fun p => mkS 19 [(0, .d (lst 19 encAExpr p0)), (1, .d (.fn f_p1 c_p1)), (7, .d (.int .i64 ((p0.length : Nat) : Int))), (8, .d (.int .i64 p.1.2))] []) (fun p => p.1.1) ⟨(_, _), hF⟩ ?_ fun p => ?_
 ·refine leF ?_
  conv => whnf
  exact lg0
 obtain ⟨⟨k1, v8_1⟩, hF⟩ := p
 obtain ⟨k1, rfl, hF⟩ := hΦ1 _ _ hF
 simp only [slices_IndexFunc_Lapi_Expr_api_Expr_b1] at hF
 conv => whnf
 refine brF hF ebF (fun hF => ?_) (fun hF => ?_)
 ·conv => whnf
  refine atF (f := encAExpr) hF ebF fun x14 hx14 hF => ?_
  rw [encAExpr_op x14]
  conv => whnf
  rw [capsK_eq]
  conv => whnf
  obtain ⟨x16, hx16, hF⟩ := bindF hF
  refine callA (h_p1 _ _ hx16) ?_
  conv => whnf
  refine brF hF ebF (fun hF => ?_) (fun hF => ?_)
  ·conv => whnf
   obtain rfl := Option.some.inj hF
   exact ⟨rg0⟩
  conv => whnf
  refine ⟨⟨(_, _), hF⟩, ?_, Nat.lt_succ_self _⟩
  refine leF ?_
  conv => whnf
  exact lg0
 conv => whnf
 obtain rfl := Option.some.inj hF
 exact ⟨rg0⟩

theorem slices_ContainsFunc_Lapi_Expr_api_Expr_w (p0 : (List AExpr)) (p1 : (AExpr → Option Bool)) (f_p1 : FuncId) (c_p1 : List D) (R : Bool) (h_p1 : ∀ (a0 : AExpr) r, p1 a0 = some r → ACall Tryz.prog f_p1 ([.d (opAExpr a0)] ++ c_p1.map .d) (.d (.bool r))) (hF : slices_ContainsFunc_Lapi_Expr_api_Expr p0 p1 = some R) : ACall Tryz.prog 190 [.d (lst 19 encAExpr p0), .d (.fn f_p1 c_p1)] (.d (.bool R)) := by
 refine acall Tryz.func190 (by kernel_rfl) ?_
 unfold slices_ContainsFunc_Lapi_Expr_api_Expr at hF
 conv => whnf
 obtain ⟨x7, hx7, hF⟩ := bindF hF
 refine callA (slices_IndexFunc_Lapi_Expr_api_Expr_w _ _ _ _ _ h_p1 hx7) ?_
 conv => whnf
 obtain rfl := Option.some.inj hF
 exact ⟨rg0⟩

theorem slices_IndexFunc_Lapi_Column_api_Column_w (p0 : (List AColumn)) (p1 : (AColumn → Option Bool)) (f_p1 : FuncId) (c_p1 : List D) (R : Int) (h_p1 : ∀ (a0 : AColumn) r, p1 a0 = some r → ACall Tryz.prog f_p1 ([.d (encAColumn a0)] ++ c_p1.map .d) (.d (.bool r))) (hF : slices_IndexFunc_Lapi_Column_api_Column p0 p1 = some R) : ACall Tryz.prog 284 [.d (lst 7 encAColumn p0), .d (.fn f_p1 c_p1)] (.d (.int .i64 R)) := by
 refine acall Tryz.func284 (by kernel_rfl) ?_
 unfold slices_IndexFunc_Lapi_Column_api_Column at hF
 conv => whnf
 obtain ⟨Φ1, hΦ1, hF⟩ := iterF hF
 refine loop {p : Nat × Int // Φ1 p.1 p.2 = some R} (fun p => mkS 19 [(0, .d (lst 7 encAColumn p0)), (1, .d (.fn f_p1 c_p1)), (7, .d (.int .i64 ((p0.length : Nat) : Int))), (8, .d (.int .i64 p.1.2))] []) (fun p => p.1.1) ⟨(_, _), hF⟩ ?_ fun p => ?_
 ·refine leF ?_
  conv => whnf
  exact lfF
 obtain ⟨⟨k1, v8_1⟩, hF⟩ := p
 obtain ⟨k1, rfl, hF⟩ := hΦ1 _ _ hF
 simp only [slices_IndexFunc_Lapi_Column_api_Column_b1] at hF
 conv => whnf
 refine brF hF ebF (fun hF => ?_) (fun hF => ?_)
 ·conv => whnf
  refine atF (f := encAColumn) hF ebF fun x14 hx14 hF => ?_
  conv => whnf
  rw [capsK_eq]
  conv => whnf
  obtain ⟨x16, hx16, hF⟩ := bindF hF
  refine callA (h_p1 _ _ hx16) ?_
  conv => whnf
  refine brF hF ebF (fun hF => ?_) (fun hF => ?_)
  ·conv => whnf
   obtain rfl := Option.some.inj hF
   exact ⟨rtF⟩
  conv => whnf
  refine ⟨⟨(_, _), hF⟩, ?_, Nat.lt_succ_self _⟩
  refine leF ?_
  conv => whnf
  exact lfF
 conv => whnf
 obtain rfl := Option.some.inj hF
 exact ⟨rtF⟩

theorem slices_ContainsFunc_Lapi_Column_api_Column_w (p0 : (List AColumn)) (p1 : (AColumn → Option Bool)) (f_p1 : FuncId) (c_p1 : List D) (R : Bool) (h_p1 : ∀ (a0 : AColumn) r, p1 a0 = some r → ACall Tryz.prog f_p1 ([.d (encAColumn a0)] ++ c_p1.map .d) (.d (.bool r))) (hF : slices_ContainsFunc_Lapi_Column_api_Column p0 p1 = some R) : ACall Tryz.prog 243 [.d (lst 7 encAColumn p0), .d (.fn f_p1 c_p1)] (.d (.bool R)) := by
 refine acall Tryz.func243 (by kernel_rfl) ?_
 unfold slices_ContainsFunc_Lapi_Column_api_Column at hF
 conv => whnf
 obtain ⟨x7, hx7, hF⟩ := bindF hF
 refine callA (slices_IndexFunc_Lapi_Column_api_Column_w _ _ _ _ _ h_p1 hx7) ?_
 conv => whnf
 obtain rfl := Option.some.inj hF
 exact ⟨rtF⟩

theorem slices_Max_Lint_int_w (p0 : (List Int)) (R : Int)  (hF : slices_Max_Lint_int p0 = some R) : ACall Tryz.prog 263 [.d (lst 1 (D.int .i64) p0)] (.d (.int .i64 R)) := by
 refine acall Tryz.func263 (by kernel_rfl) ?_
 unfold slices_Max_Lint_int at hF
 conv => whnf
 refine brF hF ebF (fun hF => ?_) (fun hF => ?_)
 ·conv => whnf
  cases hF
 conv => whnf
 refine atF (f := (D.int .i64)) hF ebF fun x10 hx10 hF => ?_
 conv => whnf
 obtain ⟨Φ1, hΦ1, hF⟩ := iterF hF
 refine loop {p : Nat × (Int × Int) // Φ1 p.1 p.2 = some R} (fun p => mkS 25 [(0, .d (lst 1 (D.int .i64) p0)), (3, .d (.int .i64 p.1.2.1)), (4, .d (.int .i64 p.1.2.2))] []) (fun p => p.1.1) ⟨(_, (_, _)), hF⟩ ?_ fun p => ?_
 ·refine leF ?_
  conv => whnf
  exact lfF
 obtain ⟨⟨k1, ⟨v3_1, v4_1⟩⟩, hF⟩ := p
 obtain ⟨k1, rfl, hF⟩ := hΦ1 _ _ hF
 simp only [slices_Max_Lint_int_b1] at hF
 conv => whnf
 refine brF hF ebF (fun hF => ?_) (fun hF => ?_)
 ·conv => whnf
  refine atF (f := (D.int .i64)) hF ebF fun x21 hx21 hF => ?_
  conv => whnf
  refine ⟨⟨(_, (_, _)), hF⟩, ?_, Nat.lt_succ_self _⟩
  refine leF ?_
  conv => whnf
  exact lfF
 conv => whnf
 obtain rfl := Option.some.inj hF
 exact ⟨rtF⟩

theorem draw_New_w (p0 : (List Int)) (R : DrawCodes)  (hF : draw_New p0 = some R) : ACall Tryz.prog 6 [.d (lst 1 (D.int .u8) p0)] (.optr [(lst 1 (D.int .u8) R.f_l), (.int .i64 R.f_at)]) := by
 refine acall Tryz.func6 (by kernel_rfl) ?_
 unfold draw_New at hF
 conv => whnf
 obtain ⟨hr, hF⟩ := gdF hF
 refine ⟨by first | exact of_decide_eq_true hr | (simp only [List.length_map]; exact of_decide_eq_true hr), ?_⟩
 try simp only [List.length_map]
 rw [cutM]
 conv => whnf
 obtain rfl := Option.some.inj hF
 exact ⟨rtF⟩

theorem draw_Codes_Next_w (p0 : DrawCodes) (p1 : Int) (R : (Int × DrawCodes))  (hF : draw_Codes_Next p0 p1 = some R) : MCall Tryz.prog 31 [.optr [(lst 1 (D.int .u8) p0.f_l), (.int .i64 p0.f_at)], .d (.int .i64 p1)] [.optr [(lst 1 (D.int .u8) R.2.f_l), (.int .i64 R.2.f_at)], .any] (.d (.int .i64 R.1)) := by
 refine mcallJ [3] Tryz.func31 (by kernel_rfl) rfl ?_ ?_
 ·intro i x y hx hy
  match i, hx, hy with
  | 0, hx, hy => simp at hx hy; subst hx; subst hy; exact ⟨_, rfl, rfl⟩
  | 1, hx, hy => simp at hx hy; subst hx; subst hy; trivial
  | i + 2, hx, hy => simp at hx
 unfold draw_Codes_Next at hF
 conv => whnf
 refine join {p : Unit // draw_Codes_Next_j1 p0 p1 = some R} (fun p => mkS 77 [(0, .ptr 0 0 0), (1, .d (.int .i64 p1))] [(0, .var [.d (lst 1 (D.int .u8) p0.f_l), .d (.int .i64 p0.f_at)], 0)]) ?_ fun p => ?_
 ·conv => whnf
  refine ⟨⟨by decide +kernel, by kernel_rfl⟩, ?_⟩
  conv => whnf
  refine brF hF ebF (fun hF => ?_) (fun hF => ?_)
  ·obtain rfl := Option.some.inj hF
   refine ⟨by first | rfl | (simp only [List.length_map]; rfl), ?_⟩
   conv => whnf
   exact ⟨rtF⟩
  refine brF hF ebF (fun hF => ?_) (fun hF => ?_)
  ·conv => whnf
   obtain rfl := Option.some.inj hF
   refine ⟨by first | rfl | (simp only [List.length_map]; rfl), ?_⟩
   conv => whnf
   exact ⟨rtF⟩
  conv => whnf
  refine ⟨⟨(), hF⟩, ?_⟩
  refine leF ?_
  conv => whnf
  exact lfF
 obtain ⟨_, hF⟩ := p
 simp only [draw_Codes_Next_j1] at hF
 conv => whnf
 refine ⟨⟨by decide +kernel, by kernel_rfl⟩, ?_⟩
 conv => whnf
 refine atF (f := (D.int .u8)) hF ebF fun x36 hx36 hF => ?_
 conv => whnf
 refine ⟨⟨by decide +kernel, by kernel_rfl⟩, ?_⟩
 conv => whnf
 refine brF hF ebF (fun hF => ?_) (fun hF => ?_)
 ·refine brF hF ebF (fun hF => ?_) (fun hF => ?_)
  ·conv => whnf
   refine ⟨⟨by decide +kernel, by kernel_rfl⟩, ?_⟩
   conv => whnf
   refine atF (f := (D.int .u8)) hF ebF fun x63 hx63 hF => ?_
   conv => whnf
   obtain ⟨hr, hF⟩ := gdF hF
   refine ⟨of_decide_eq_true hr, ?_⟩
   conv => whnf
   obtain rfl := Option.some.inj hF
   refine ⟨by first | rfl | (simp only [List.length_map]; rfl), ?_⟩
   conv => whnf
   exact ⟨rtF⟩
  conv => whnf
  obtain ⟨hr, hF⟩ := gdF hF
  refine ⟨of_decide_eq_true hr, ?_⟩
  conv => whnf
  obtain rfl := Option.some.inj hF
  refine ⟨by first | rfl | (simp only [List.length_map]; rfl), ?_⟩
  conv => whnf
  exact ⟨rtF⟩
 obtain ⟨hr, hF⟩ := gdF hF
 refine ⟨of_decide_eq_true hr, ?_⟩
 conv => whnf
 obtain rfl := Option.some.inj hF
 refine ⟨by first | rfl | (simp only [List.length_map]; rfl), ?_⟩
 conv => whnf
 exact ⟨rtF⟩

theorem draw_Codes_One_w (p0 : DrawCodes) (p1 : Int) (R : (Bool × DrawCodes))  (hF : draw_Codes_One p0 p1 = some R) : MCall Tryz.prog 50 [.optr [(lst 1 (D.int .u8) p0.f_l), (.int .i64 p0.f_at)], .d (.int .i64 p1)] [.optr [(lst 1 (D.int .u8) R.2.f_l), (.int .i64 R.2.f_at)], .any] (.d (.bool R.1)) := by
 refine mcall Tryz.func50 (by kernel_rfl) rfl ?_ ?_
 ·intro i x y hx hy
  match i, hx, hy with
  | 0, hx, hy => simp at hx hy; subst hx; subst hy; exact ⟨_, rfl, rfl⟩
  | 1, hx, hy => simp at hx hy; subst hx; subst hy; trivial
  | i + 2, hx, hy => simp at hx
 unfold draw_Codes_One at hF
 conv => whnf
 obtain ⟨x7, hx7, hF⟩ := bindF hF
 refine callM (draw_Codes_Next_w _ _ _ hx7) ?_
 conv => whnf
 obtain rfl := Option.some.inj hF
 refine ⟨by first | rfl | (simp only [List.length_map]; rfl), ?_⟩
 conv => whnf
 exact ⟨rtF⟩

theorem draw_Codes_Range_w (p0 : DrawCodes) (p1 : Int) (p2 : Int) (R : (Int × DrawCodes))  (hF : draw_Codes_Range p0 p1 p2 = some R) : MCall Tryz.prog 52 [.optr [(lst 1 (D.int .u8) p0.f_l), (.int .i64 p0.f_at)], .d (.int .i64 p1), .d (.int .i64 p2)] [.optr [(lst 1 (D.int .u8) R.2.f_l), (.int .i64 R.2.f_at)], .any, .any] (.d (.int .i64 R.1)) := by
 refine mcall Tryz.func52 (by kernel_rfl) rfl ?_ ?_
 ·intro i x y hx hy
  match i, hx, hy with
  | 0, hx, hy => simp at hx hy; subst hx; subst hy; exact ⟨_, rfl, rfl⟩
  | 1, hx, hy => simp at hx hy; subst hx; subst hy; trivial
  | 2, hx, hy => simp at hx hy; subst hx; subst hy; trivial
  | i + 3, hx, hy => simp at hx
 unfold draw_Codes_Range at hF
 conv => whnf
 obtain ⟨x13, hx13, hF⟩ := bindF hF
 refine callM (draw_Codes_Next_w _ _ _ hx13) ?_
 conv => whnf
 obtain rfl := Option.some.inj hF
 refine ⟨by first | rfl | (simp only [List.length_map]; rfl), ?_⟩
 conv => whnf
 exact ⟨rtF⟩

theorem draw_Codes_List_w (p0 : DrawCodes) (p1 : ByteArray) (R : (ACodeList × DrawCodes))  (hF : draw_Codes_List p0 p1 = some R) : MCall Tryz.prog 129 [.optr [(lst 1 (D.int .u8) p0.f_l), (.int .i64 p0.f_at)], .d (.str p1)] [.optr [(lst 1 (D.int .u8) R.2.f_l), (.int .i64 R.2.f_at)], .any] (.d (encACodeList R.1)) := by
 refine mcallJ [7] Tryz.func129 (by kernel_rfl) rfl ?_ ?_
 ·intro i x y hx hy
  match i, hx, hy with
  | 0, hx, hy => simp at hx hy; subst hx; subst hy; exact ⟨_, rfl, rfl⟩
  | 1, hx, hy => simp at hx hy; subst hx; subst hy; trivial
  | i + 2, hx, hy => simp at hx
 unfold draw_Codes_List at hF
 conv => whnf
 refine ⟨.inr ?_⟩
 conv => whnf
 obtain ⟨x15, hx15, hF⟩ := bindF hF
 refine callM (draw_Codes_Range_w _ _ _ _ hx15) ?_
 conv => whnf
 refine join {p : (List ACode) // draw_Codes_List_j1 x15 p1 p = some R} (fun p => mkS 58 [(0, .ptr 0 0 0), (4, .ptr 4 1 0), (5, .ptr 5 1 0), (6, .d (.int .i64 x15.1))] [(0, .var [.d (lst 1 (D.int .u8) x15.2.f_l), .d (.int .i64 x15.2.f_at)], 0), (4, .var [.d (.str ByteArray.empty), .d (.nil 2)], 1), (5, .var [.d (.str p1), .sl 12 1], 1), (12, .row 2 142 (List.map encACode p.1), 1)]) ?_ fun p => ?_
 ·conv => whnf
  obtain ⟨Φ1, hΦ1, hF⟩ := iterF hF
  refine loop {p : Nat × (Int × (List ACode)) // Φ1 p.1 p.2 = some R} (fun p => mkS 58 [(0, .ptr 0 0 0), (4, .ptr 4 1 0), (5, .ptr 5 1 0), (6, .d (.int .i64 x15.1)), (7, .d (.int .i64 p.1.2.1))] [(0, .var [.d (lst 1 (D.int .u8) x15.2.f_l), .d (.int .i64 x15.2.f_at)], 0), (4, .var [.d (.str ByteArray.empty), .d (.nil 2)], 1), (5, .var [.d (.str p1), .sl 12 1], 1), (12, .row 2 142 (List.map encACode p.1.2.2), 1)]) (fun p => p.1.1) ⟨(_, (_, _)), hF⟩ ?_ fun p => ?_
  ·refine leF ?_
   conv => whnf
   exact lfF
  obtain ⟨⟨k1, ⟨v7_1, b12_1⟩⟩, hF⟩ := p
  obtain ⟨k1, rfl, hF⟩ := hΦ1 _ _ hF
  simp only [draw_Codes_List_b1] at hF
  conv => whnf
  refine brF hF ebF (fun hF => ?_) (fun hF => ?_)
  ·conv => whnf
   refine ⟨⟨by decide +kernel, by kernel_rfl⟩, ?_⟩
   conv => whnf
   obtain ⟨x24, hx24, hF⟩ := bindF hF
   refine callA (strconv_Itoa_w _ _ hx24) ?_
   conv => whnf
   obtain ⟨hr, hF⟩ := gdF hF
   refine ⟨of_decide_eq_true hr, ?_⟩
   conv => whnf
   obtain ⟨hr, hF⟩ := gdF hF
   refine ⟨by (simp only [List.length_map]; exact rm_fits hr (of_decide_eq_true (by kernel_rfl)) (.inr (by kernel_rfl))), ?_⟩
   try rw [snoc_ACode]
   conv => whnf
   refine ⟨⟨(_, (_, _)), hF⟩, ?_, Nat.lt_succ_self _⟩
   refine leF ?_
   conv => whnf
   exact lfF
  conv => whnf
  refine ⟨⟨_, hF⟩, ?_⟩
  refine leF ?_
  conv => whnf
  exact lfF
 obtain ⟨k12_1, hF⟩ := p
 simp only [draw_Codes_List_j1] at hF
 conv => whnf
 obtain ⟨x31, hx31, hF⟩ := bindF hF
 refine callM (draw_Codes_One_w _ _ _ hx31) ?_
 conv => whnf
 refine brF hF ebF (fun hF => ?_) (fun hF => ?_)
 ·conv => whnf
  obtain rfl := Option.some.inj hF
  refine ⟨by first | rfl | (simp only [List.length_map]; rfl), ?_⟩
  conv => whnf
  exact ⟨rtF⟩
 conv => whnf
 obtain ⟨Φ2, hΦ2, hF⟩ := iterF hF
 refine loop {p : Nat × (Int × DrawCodes × (List ACode)) // Φ2 p.1 p.2 = some R} (fun p => mkS 58 [(0, .ptr 0 0 0), (4, .ptr 4 1 0), (5, .ptr 5 1 0), (6, .d (.int .i64 x15.1)), (8, .d (.int .i64 p.1.2.1))] [(0, .var [.d (lst 1 (D.int .u8) p.1.2.2.1.f_l), .d (.int .i64 p.1.2.2.1.f_at)], 0), (4, .var [.d (.str ByteArray.empty), .d (.nil 2)], 1), (5, .var [.d (.str p1), .sl 12 1], 1), (12, .row 2 142 (List.map encACode p.1.2.2.2), 1)]) (fun p => p.1.1) ⟨(_, (_, _, _)), hF⟩ ?_ fun p => ?_
 ·refine leF ?_
  conv => whnf
  exact lfF
 obtain ⟨⟨k2, ⟨v8_2, w0_2, b12_2⟩⟩, hF⟩ := p
 obtain ⟨k2, rfl, hF⟩ := hΦ2 _ _ hF
 simp only [draw_Codes_List_b2] at hF
 conv => whnf
 refine brF hF ebF (fun hF => ?_) (fun hF => ?_)
 ·conv => whnf
  obtain ⟨x39, hx39, hF⟩ := bindF hF
  refine callM (draw_Codes_Range_w _ _ _ _ hx39) ?_
  conv => whnf
  obtain ⟨Φ3, hΦ3, hF⟩ := iterF hF
  refine loop {p : Nat × (Int × (List ACode)) // Φ3 p.1 p.2 = some R} (fun p => mkS 58 [(0, .ptr 0 0 0), (4, .ptr 4 1 0), (5, .ptr 5 1 0), (6, .d (.int .i64 x15.1)), (8, .d (.int .i64 v8_2)), (9, .d (.int .i64 p.1.2.1))] [(0, .var [.d (lst 1 (D.int .u8) x39.2.f_l), .d (.int .i64 x39.2.f_at)], 0), (4, .var [.d (.str ByteArray.empty), .d (.nil 2)], 1), (5, .var [.d (.str p1), .sl 12 1], 1), (12, .row 2 142 (List.map encACode p.1.2.2), 1)]) (fun p => p.1.1) ⟨(_, (_, _)), hF⟩ ?_ fun p => ?_
  ·refine leF ?_
   conv => whnf
   exact lfF
  obtain ⟨⟨k3, ⟨v9_3, b12_3⟩⟩, hF⟩ := p
  obtain ⟨k3, rfl, hF⟩ := hΦ3 _ _ hF
  simp only [draw_Codes_List_b3] at hF
  conv => whnf
  refine brF hF ebF (fun hF => ?_) (fun hF => ?_)
  ·conv => whnf
   refine ⟨⟨by decide +kernel, by kernel_rfl⟩, ?_⟩
   conv => whnf
   obtain ⟨x49, hx49, hF⟩ := bindF hF
   first | refine callA (strconv_Itoa_w _ _ hx49) ?_ | (simp only [List.length_map]; refine callA (strconv_Itoa_w _ _ hx49) ?_)
   conv => whnf
   obtain ⟨hr, hF⟩ := gdF hF
   refine ⟨of_decide_eq_true hr, ?_⟩
   conv => whnf
   obtain ⟨hr, hF⟩ := gdF hF
   refine ⟨by (simp only [List.length_map]; exact rm_fits hr (of_decide_eq_true (by kernel_rfl)) (.inr (by kernel_rfl))), ?_⟩
   try rw [snoc_ACode]
   conv => whnf
   refine ⟨⟨(_, (_, _)), hF⟩, ?_, Nat.lt_succ_self _⟩
   refine leF ?_
   conv => whnf
   exact lfF
  conv => whnf
  refine ⟨⟨(_, (_, _, _)), hF⟩, ?_, Nat.lt_succ_self _⟩
  refine leF ?_
  conv => whnf
  exact lfF
 conv => whnf
 obtain rfl := Option.some.inj hF
 refine ⟨by first | rfl | (simp only [List.length_map]; rfl), ?_⟩
 conv => whnf
 exact ⟨rtF⟩

theorem draw_Codes_Measure_w (p0 : DrawCodes) (p1 : ByteArray) (R : (AColumn × DrawCodes))  (hF : draw_Codes_Measure p0 p1 = some R) : MCall Tryz.prog 130 [.optr [(lst 1 (D.int .u8) p0.f_l), (.int .i64 p0.f_at)], .d (.str p1)] [.optr [(lst 1 (D.int .u8) R.2.f_l), (.int .i64 R.2.f_at)], .any] (.d (encAColumn R.1)) := by
 refine mcall Tryz.func130 (by kernel_rfl) rfl ?_ ?_
 ·intro i x y hx hy
  match i, hx, hy with
  | 0, hx, hy => simp at hx hy; subst hx; subst hy; exact ⟨_, rfl, rfl⟩
  | 1, hx, hy => simp at hx hy; subst hx; subst hy; trivial
  | i + 2, hx, hy => simp at hx
 unfold draw_Codes_Measure at hF
 conv => whnf
 refine ⟨⟨by decide +kernel, by kernel_rfl⟩, ?_⟩
 conv => whnf
 obtain ⟨x8, hx8, hF⟩ := bindF hF
 refine callM (draw_Codes_Range_w _ _ _ _ hx8) ?_
 conv => whnf
 obtain ⟨x15, hx15, hF⟩ := bindF hF
 refine callM (draw_Codes_Next_w _ _ _ hx15) ?_
 conv => whnf
 refine rowF (f := (lst 1 (D.int .i64))) hF ebF fun x16 hx16 hF => ?_
 conv => whnf
 refine atR (f := (lst 1 (D.int .i64))) hx16 ebF ?_
 conv => whnf
 obtain ⟨x19, hx19, hF⟩ := bindF hF
 refine callM (draw_Codes_One_w _ _ _ hx19) ?_
 conv => whnf
 refine ⟨⟨by decide +kernel, by kernel_rfl⟩, ?_⟩
 conv => whnf
 obtain ⟨x24, hx24, hF⟩ := bindF hF
 refine callM (draw_Codes_Next_w _ _ _ hx24) ?_
 conv => whnf
 obtain rfl := Option.some.inj hF
 refine ⟨by first | rfl | (simp only [List.length_map]; rfl), ?_⟩
 conv => whnf
 exact ⟨rtF⟩

theorem draw_Codes_Schema_w (p0 : DrawCodes) (R : (ASchema × DrawCodes))  (hF : draw_Codes_Schema p0 = some R) : MCall Tryz.prog 67 [.optr [(lst 1 (D.int .u8) p0.f_l), (.int .i64 p0.f_at)]] [.optr [(lst 1 (D.int .u8) R.2.f_l), (.int .i64 R.2.f_at)]] (.d (encASchema R.1)) := by
 refine mcall Tryz.func67 (by kernel_rfl) rfl ?_ ?_
 ·intro i x y hx hy
  match i, hx, hy with
  | 0, hx, hy => simp at hx hy; subst hx; subst hy; exact ⟨_, rfl, rfl⟩
  | i + 1, hx, hy => simp at hx
 unfold draw_Codes_Schema at hF
 conv => whnf
 obtain ⟨x6, hx6, hF⟩ := bindF hF
 refine callM (draw_Codes_List_w _ _ _ hx6) ?_
 conv => whnf
 obtain ⟨x8, hx8, hF⟩ := bindF hF
 refine callM (draw_Codes_List_w _ _ _ hx8) ?_
 conv => whnf
 refine ⟨.inr ?_⟩
 conv => whnf
 obtain ⟨x15, hx15, hF⟩ := bindF hF
 refine callM (draw_Codes_One_w _ _ _ hx15) ?_
 conv => whnf
 refine brF hF ebF (fun hF => ?_) (fun hF => ?_)
 ·conv => whnf
  obtain ⟨hr, hF⟩ := gdF hF
  refine ⟨by (simp only [List.length_map]; exact rm_fits hr (of_decide_eq_true (by kernel_rfl)) (.inr (by kernel_rfl))), ?_⟩
  try rw [snoc_AColumn]
  conv => whnf
  obtain ⟨x23, hx23, hF⟩ := bindF hF
  refine callM (draw_Codes_Range_w _ _ _ _ hx23) ?_
  conv => whnf
  obtain ⟨Φ1, hΦ1, hF⟩ := iterF hF
  refine loop {p : Nat × (Int × DrawCodes × (List AColumn)) // Φ1 p.1 p.2 = some R} (fun p => mkS 41 [(0, .ptr 0 0 0), (2, .ptr 2 1 0), (3, .ptr 3 1 0), (4, .d (.int .i64 p.1.2.1))] [(0, .var [.d (lst 1 (D.int .u8) p.1.2.2.1.f_l), .d (.int .i64 p.1.2.2.1.f_at)], 0), (2, .var [.d (.nil 2), .d (.nil 7)], 1), (3, .var [.sl 9 1, .sl 12 1], 1), (9, .row 2 93 (List.map encACodeList [x6.1, x8.1]), 1), (12, .row 7 40 (List.map encAColumn p.1.2.2.2), 1)]) (fun p => p.1.1) ⟨(_, (_, _, _)), hF⟩ ?_ fun p => ?_
  ·refine leF ?_
   conv => whnf
   exact lfF
  obtain ⟨⟨k1, ⟨v4_1, w0_1, b12_1⟩⟩, hF⟩ := p
  obtain ⟨k1, rfl, hF⟩ := hΦ1 _ _ hF
  simp only [draw_Codes_Schema_b1] at hF
  conv => whnf
  refine brF hF ebF (fun hF => ?_) (fun hF => ?_)
  ·conv => whnf
   refine ⟨⟨by decide +kernel, by kernel_rfl⟩, ?_⟩
   conv => whnf
   obtain ⟨x34, hx34, hF⟩ := bindF hF
   first | refine callA (strconv_Itoa_w _ _ hx34) ?_ | (simp only [List.length_map]; refine callA (strconv_Itoa_w _ _ hx34) ?_)
   conv => whnf
   obtain ⟨hr, hF⟩ := gdF hF
   refine ⟨of_decide_eq_true hr, ?_⟩
   conv => whnf
   obtain ⟨x36, hx36, hF⟩ := bindF hF
   refine callM (draw_Codes_Measure_w _ _ _ hx36) ?_
   conv => whnf
   obtain ⟨hr, hF⟩ := gdF hF
   refine ⟨by (simp only [List.length_map]; exact rm_fits hr (of_decide_eq_true (by kernel_rfl)) (.inr (by kernel_rfl))), ?_⟩
   try rw [snoc_AColumn]
   conv => whnf
   refine ⟨⟨(_, (_, _, _)), hF⟩, ?_, Nat.lt_succ_self _⟩
   refine leF ?_
   conv => whnf
   exact lfF
  conv => whnf
  obtain rfl := Option.some.inj hF
  refine ⟨by first | rfl | (simp only [List.length_map]; rfl), ?_⟩
  conv => whnf
  exact ⟨rtF⟩
 conv => whnf
 obtain ⟨x23, hx23, hF⟩ := bindF hF
 refine callM (draw_Codes_Range_w _ _ _ _ hx23) ?_
 conv => whnf
 obtain ⟨Φ2, hΦ2, hF⟩ := iterF hF
 refine loop {p : Nat × (Int × DrawCodes × (List AColumn)) // Φ2 p.1 p.2 = some R} (fun p => mkS 41 [(0, .ptr 0 0 0), (2, .ptr 2 1 0), (3, .ptr 3 1 0), (4, .d (.int .i64 p.1.2.1))] [(0, .var [.d (lst 1 (D.int .u8) p.1.2.2.1.f_l), .d (.int .i64 p.1.2.2.1.f_at)], 0), (2, .var [.d (.nil 2), .d (.nil 7)], 1), (3, .var [.sl 9 1, .sl 12 1], 1), (9, .row 2 93 (List.map encACodeList [x6.1, x8.1]), 1), (12, .row 7 40 (List.map encAColumn p.1.2.2.2), 1)]) (fun p => p.1.1) ⟨(_, (_, _, _)), hF⟩ ?_ fun p => ?_
 ·refine leF ?_
  conv => whnf
  exact lfF
 obtain ⟨⟨k2, ⟨v4_2, w0_2, b12_2⟩⟩, hF⟩ := p
 obtain ⟨k2, rfl, hF⟩ := hΦ2 _ _ hF
 simp only [draw_Codes_Schema_b2] at hF
 conv => whnf
 refine brF hF ebF (fun hF => ?_) (fun hF => ?_)
 ·conv => whnf
  refine ⟨⟨by decide +kernel, by kernel_rfl⟩, ?_⟩
  conv => whnf
  obtain ⟨x34, hx34, hF⟩ := bindF hF
  first | refine callA (strconv_Itoa_w _ _ hx34) ?_ | (simp only [List.length_map]; refine callA (strconv_Itoa_w _ _ hx34) ?_)
  conv => whnf
  obtain ⟨hr, hF⟩ := gdF hF
  refine ⟨of_decide_eq_true hr, ?_⟩
  conv => whnf
  obtain ⟨x36, hx36, hF⟩ := bindF hF
  refine callM (draw_Codes_Measure_w _ _ _ hx36) ?_
  conv => whnf
  obtain ⟨hr, hF⟩ := gdF hF
  refine ⟨by (simp only [List.length_map]; exact rm_fits hr (of_decide_eq_true (by kernel_rfl)) (.inr (by kernel_rfl))), ?_⟩
  try rw [snoc_AColumn]
  conv => whnf
  refine ⟨⟨(_, (_, _, _)), hF⟩, ?_, Nat.lt_succ_self _⟩
  refine leF ?_
  conv => whnf
  exact lfF
 conv => whnf
 obtain rfl := Option.some.inj hF
 refine ⟨by first | rfl | (simp only [List.length_map]; rfl), ?_⟩
 conv => whnf
 exact ⟨rtF⟩

theorem ref04_Put_w (p0 : (List (List Int))) (p1 : (List Int)) (R : (List (List Int)))  (hF : ref04_Put p0 p1 = some R) : ACall Tryz.prog 68 [.d (lst 1 (lst 1 (D.int .i64)) p0), .d (lst 1 (D.int .i64) p1)] (.d (lst 1 (lst 1 (D.int .i64)) R)) := by
 refine acall Tryz.func68 (by kernel_rfl) ?_
 unfold ref04_Put at hF
 conv => whnf
 obtain ⟨Φ1, hΦ1, hF⟩ := iterF hF
 refine loop {p : Nat × (Bool × Int × (List (List Int))) // Φ1 p.1 p.2 = some R} (fun p => mkS 56 [(0, .d (lst 1 (lst 1 (D.int .i64)) p0)), (1, .d (lst 1 (D.int .i64) p1)), (5, .sl 5 1), (6, .d (.bool p.1.2.1)), (7, .d (.int .i64 p.1.2.2.1))] [(5, .row 1 30 (List.map (lst 1 (D.int .i64)) p.1.2.2.2), 1)]) (fun p => p.1.1) ⟨(_, (_, _, _)), hF⟩ ?_ fun p => ?_
 ·refine leF ?_
  conv => whnf
  exact lfF
 obtain ⟨⟨k1, ⟨v6_1, v7_1, b5_1⟩⟩, hF⟩ := p
 obtain ⟨k1, rfl, hF⟩ := hΦ1 _ _ hF
 simp only [ref04_Put_b1] at hF
 conv => whnf
 refine brF hF ebF (fun hF => ?_) (fun hF => ?_)
 ·conv => whnf
  refine ⟨⟨by decide +kernel, by kernel_rfl⟩, ?_⟩
  conv => whnf
  refine atF (f := (lst 1 (D.int .i64))) hF ebF fun x16 hx16 hF => ?_
  conv => whnf
  refine atF (f := (D.int .i64)) hF ebF fun x18 hx18 hF => ?_
  conv => whnf
  refine atF (f := (D.int .i64)) hF ebF fun x21 hx21 hF => ?_
  conv => whnf
  refine brF hF ebF (fun hF => ?_) (fun hF => ?_)
  ·conv => whnf
   refine ⟨⟨(_, (_, _, _)), hF⟩, ?_, Nat.lt_succ_self _⟩
   refine leF ?_
   conv => whnf
   exact lfF
  conv => whnf
  refine ⟨⟨by decide +kernel, by kernel_rfl⟩, ?_⟩
  conv => whnf
  refine atF (f := (lst 1 (D.int .i64))) hF ebF fun x26 hx26 hF => ?_
  conv => whnf
  refine atF (f := (D.int .i64)) hF ebF fun x28 hx28 hF => ?_
  conv => whnf
  refine atF (f := (D.int .i64)) hF ebF fun x31 hx31 hF => ?_
  conv => whnf
  refine brF hF ebF (fun hF => ?_) (fun hF => ?_)
  ·conv => whnf
   obtain ⟨hr, hF⟩ := gdF hF
   refine ⟨by (simp only [List.length_map]; exact rm_fits hr (of_decide_eq_true (by kernel_rfl)) (.inr (by kernel_rfl))), ?_⟩
   try rw [snocL]
   conv => whnf
   refine atF (f := (lst 1 (D.int .i64))) hF ebF fun x45 hx45 hF => ?_
   conv => whnf
   obtain ⟨hr, hF⟩ := gdF hF
   refine ⟨by (simp only [List.length_map]; exact rm_fits hr (of_decide_eq_true (by kernel_rfl)) (.inr (by kernel_rfl))), ?_⟩
   try rw [snocL]
   conv => whnf
   refine ⟨⟨(_, (_, _, _)), hF⟩, ?_, Nat.lt_succ_self _⟩
   refine leF ?_
   conv => whnf
   exact lfF
  conv => whnf
  refine atF (f := (lst 1 (D.int .i64))) hF ebF fun x45 hx45 hF => ?_
  conv => whnf
  obtain ⟨hr, hF⟩ := gdF hF
  refine ⟨by (simp only [List.length_map]; exact rm_fits hr (of_decide_eq_true (by kernel_rfl)) (.inr (by kernel_rfl))), ?_⟩
  try rw [snocL]
  conv => whnf
  refine ⟨⟨(_, (_, _, _)), hF⟩, ?_, Nat.lt_succ_self _⟩
  refine leF ?_
  conv => whnf
  exact lfF
 conv => whnf
 refine brF hF ebF (fun hF => ?_) (fun hF => ?_)
 ·conv => whnf
  obtain ⟨hr, hF⟩ := gdF hF
  refine ⟨by (simp only [List.length_map]; exact rm_fits hr (of_decide_eq_true (by kernel_rfl)) (.inr (by kernel_rfl))), ?_⟩
  try rw [snocL]
  conv => whnf
  obtain rfl := Option.some.inj hF
  refine ⟨.inl ?_⟩
  conv => whnf
  exact ⟨rtF⟩
 conv => whnf
 obtain rfl := Option.some.inj hF
 refine ⟨.inl ?_⟩
 conv => whnf
 exact ⟨rtF⟩

theorem ref01_depth_w (p0 : ACodeList) (p1 : Int) (R : Int)  (hF : ref01_depth p0 p1 = some R) : ACall Tryz.prog 79 [.d (encACodeList p0), .d (.int .i64 p1)] (.d (.int .i64 R)) := by
 refine acall Tryz.func79 (by kernel_rfl) ?_
 unfold ref01_depth at hF
 conv => whnf
 obtain ⟨Φ1, hΦ1, hF⟩ := iterF hF
 refine loop {p : Nat × (Int × Int) // Φ1 p.1 p.2 = some R} (fun p => mkS 22 [(1, .d (.int .i64 p.1.2.1)), (2, .ptr 2 1 0), (5, .d (.int .i64 p.1.2.2))] [(2, .var [.d (.str p0.Name), .d (lst 2 encACode p0.Codes)], 1)]) (fun p => p.1.1) ⟨(_, (_, _)), hF⟩ ?_ fun p => ?_
 ·refine leF ?_
  conv => whnf
  exact lfF
 obtain ⟨⟨k1, ⟨v1_1, v5_1⟩⟩, hF⟩ := p
 obtain ⟨k1, rfl, hF⟩ := hΦ1 _ _ hF
 simp only [ref01_depth_b1] at hF
 conv => whnf
 refine atF (f := encACode) hF ebF fun x9 hx9 hF => ?_
 conv => whnf
 refine brF hF ebF (fun hF => ?_) (fun hF => ?_)
 ·conv => whnf
  refine atF (f := encACode) hF ebF fun x16 hx16 hF => ?_
  conv => whnf
  refine ⟨⟨(_, (_, _)), hF⟩, ?_, Nat.lt_succ_self _⟩
  refine leF ?_
  conv => whnf
  exact lfF
 conv => whnf
 obtain rfl := Option.some.inj hF
 exact ⟨rtF⟩
end Go.Proofs.YtejfnieiaecpkaaGreatDoor.P
