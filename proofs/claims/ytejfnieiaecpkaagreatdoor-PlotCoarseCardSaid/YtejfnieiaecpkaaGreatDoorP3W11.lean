/-
 Printed by wip/tools/mkw.py: walks: types_own questions_Merge types_needs types_Needs plot_usable
-/
import Derived.Test.YtejfnieiaecpkaaGreatDoorChecked
import Derived.Test.YtejfnieiaecpkaaGreatDoorP3F
import Derived.Test.YtejfnieiaecpkaaGreatDoorP3A
import Derived.Test.YtejfnieiaecpkaaGreatDoorP3HW
import Derived.Test.YtejfnieiaecpkaaGreatDoorP3W7
import Derived.Test.YtejfnieiaecpkaaGreatDoorP3W9
import Derived.Test.YtejfnieiaecpkaaGreatDoorP3W10
set_option linter.unusedSimpArgs false
namespace Go.Proofs.YtejfnieiaecpkaaGreatDoor.P
open Go.Abs Go.Proofs
set_option maxRecDepth 100000
set_option maxHeartbeats 4000000
set_option linter.unusedVariables false

theorem types_own_w (p0 : ASchema) (p1 : AExpr) (R : (List APick))  (hF : types_own p0 p1 = some R) : ACall Tryz.prog 193 [.d (encASchema p0), .d (opAExpr p1)] (.d (lst 2 encAPick R)) := by
 refine acallJ [8, 19] Tryz.func193 (by kernel_rfl) ?_
 unfold types_own at hF
 conv => whnf
 refine ⟨.inr ?_⟩
 conv => whnf
 refine join {p : (List APick) // types_own_j1 p1 p0 p = some R} (fun p => mkS 78 [(2, .ptr 2 1 0), (3, .ptr 3 1 0), (5, .ptr 5 1 0), (6, .cc (some 252) [.sl 5 1, .d (.ptr [(lst 2 encACodeList p0.Lists), (lst 7 encAColumn p0.Columns)])])] [(2, .fvar [(lst 2 encACodeList p0.Lists), (lst 7 encAColumn p0.Columns)], 1), (3, .var [.d (.int .i64 p1.Op), .d (.int .i64 p1.Num), .d (.str p1.Name), .d (.int .i64 p1.Column), .d (lst 1 (D.int .i64) p1.Columns), .d (lst 2 encAPick p1.Dims), .d (.int .i64 p1.Cond.Op), .d (.int .i64 p1.Cond.Column), .d (.int .i64 p1.Cond.Code), .d (.int .i64 p1.Cond.Low), .d (.int .i64 p1.Cond.High), .d (lst 6 encACond p1.Cond.Kids), .d (.int .i64 p1.Event.Op), .d (.int .i64 p1.Event.Column), .d (.int .i64 p1.Event.Code), .d (.int .i64 p1.Event.Low), .d (.int .i64 p1.Event.High), .d (lst 6 encACond p1.Event.Kids), .d (lst 19 encAExpr p1.Kids)], 1), (5, .var [.sl 30 1], 1), (30, .row 2 43 (List.map encAPick p.1), 1)]) ?_ fun p => ?_
 ·conv => whnf
  obtain ⟨Φ1, hΦ1, hF⟩ := iterF hF
  refine loopA [(5, 0, 30, 43)] {p : Nat × (Int × (List APick)) // Φ1 p.1 p.2 = some R} (fun p => mkS 78 [(2, .ptr 2 1 0), (3, .ptr 3 1 0), (5, .ptr 5 1 0), (6, .cc (some 252) [.sl 5 1, .d (.ptr [(lst 2 encACodeList p0.Lists), (lst 7 encAColumn p0.Columns)])]), (13, .d (lst 2 encAPick p1.Dims)), (14, .d (.int .i64 ((p1.Dims.length : Nat) : Int))), (15, .d (.int .i64 p.1.2.1))] [(2, .fvar [(lst 2 encACodeList p0.Lists), (lst 7 encAColumn p0.Columns)], 1), (3, .var [.d (.int .i64 p1.Op), .d (.int .i64 p1.Num), .d (.str p1.Name), .d (.int .i64 p1.Column), .d (lst 1 (D.int .i64) p1.Columns), .d (lst 2 encAPick p1.Dims), .d (.int .i64 p1.Cond.Op), .d (.int .i64 p1.Cond.Column), .d (.int .i64 p1.Cond.Code), .d (.int .i64 p1.Cond.Low), .d (.int .i64 p1.Cond.High), .d (lst 6 encACond p1.Cond.Kids), .d (.int .i64 p1.Event.Op), .d (.int .i64 p1.Event.Column), .d (.int .i64 p1.Event.Code), .d (.int .i64 p1.Event.Low), .d (.int .i64 p1.Event.High), .d (lst 6 encACond p1.Event.Kids), .d (lst 19 encAExpr p1.Kids)], 1), (5, .var [.sl 30 1], 1), (30, .row 2 43 (List.map encAPick p.1.2.2), 1)]) (fun p => p.1.1) ⟨(_, (_, _)), hF⟩ ?_ fun p => ?_
  ·conv => whnf
   exact lg0
  obtain ⟨⟨k1, ⟨v15_1, b30_1⟩⟩, hF⟩ := p
  obtain ⟨k1, rfl, hF⟩ := hΦ1 _ _ hF
  simp only [types_own_b1] at hF
  conv => whnf
  refine brF hF ebF (fun hF => ?_) (fun hF => ?_)
  ·conv => whnf
   refine atF (f := encAPick) hF ebF fun x17 hx17 hF => ?_
   conv => whnf
   refine ⟨⟨by decide +kernel, by kernel_rfl⟩, ?_⟩
   conv => whnf
   obtain ⟨x27, hx27, hF⟩ := bindF hF
   refine callA (schema_Least_w _ _ _ _ hx27) ?_
   conv => whnf
   obtain ⟨hr, hF⟩ := gdF hF
   refine ⟨by (simp only [List.length_map]; exact rm_fits hr (of_decide_eq_true (by kernel_rfl)) (.inr (by kernel_rfl))), ?_⟩
   try rw [snoc_APick]
   conv => whnf
   refine ⟨⟨(_, (_, _)), hF⟩, ?_, Nat.lt_succ_self _⟩
   refine leF ?_
   conv => whnf
   exact lg0
  conv => whnf
  refine ⟨⟨_, hF⟩, ?_⟩
  refine leF ?_
  conv => whnf
  exact lg0
 obtain ⟨k30_1, hF⟩ := p
 simp only [types_own_j1] at hF
 conv => whnf
 refine join {p : (List APick) // types_own_j2 p1 p0 p = some R} (fun p => mkS 78 [(3, .ptr 3 1 0), (5, .ptr 5 1 0), (6, .cc (some 252) [.sl 5 1, .d (.ptr [(lst 2 encACodeList p0.Lists), (lst 7 encAColumn p0.Columns)])])] [(3, .var [.d (.int .i64 p1.Op), .d (.int .i64 p1.Num), .d (.str p1.Name), .d (.int .i64 p1.Column), .d (lst 1 (D.int .i64) p1.Columns), .d (lst 2 encAPick p1.Dims), .d (.int .i64 p1.Cond.Op), .d (.int .i64 p1.Cond.Column), .d (.int .i64 p1.Cond.Code), .d (.int .i64 p1.Cond.Low), .d (.int .i64 p1.Cond.High), .d (lst 6 encACond p1.Cond.Kids), .d (.int .i64 p1.Event.Op), .d (.int .i64 p1.Event.Column), .d (.int .i64 p1.Event.Code), .d (.int .i64 p1.Event.Low), .d (.int .i64 p1.Event.High), .d (lst 6 encACond p1.Event.Kids), .d (lst 19 encAExpr p1.Kids)], 1), (5, .var [.sl 30 1], 1), (30, .row 2 43 (List.map encAPick p.1), 1)]) ?_ fun p => ?_
 ·conv => whnf
  refine brF hF ebF (fun hF => ?_) (fun hF => ?_)
  ·conv => whnf
   refine brF hF ebF (fun hF => ?_) (fun hF => ?_)
   ·conv => whnf
    refine brF hF ebF (fun hF => ?_) (fun hF => ?_)
    ·conv => whnf
     obtain ⟨x47, hx47, hF⟩ := bindF hF
     refine callW (types_own_c1_w _ _ _ _ hx47) ?_
     conv => whnf
     refine ⟨⟨_, hF⟩, ?_⟩
     refine leF ?_
     conv => whnf
     exact lg0
    conv => whnf
    refine ⟨⟨_, hF⟩, ?_⟩
    refine leF ?_
    conv => whnf
    exact lg0
   conv => whnf
   refine brF hF ebF (fun hF => ?_) (fun hF => ?_)
   ·conv => whnf
    refine ⟨⟨by decide +kernel, by kernel_rfl⟩, ?_⟩
    conv => whnf
    obtain ⟨x61, hx61, hF⟩ := bindF hF
    refine callA (types_LevelOf_w _ _ _ _ hx61) ?_
    conv => whnf
    obtain ⟨x62, hx62, hF⟩ := bindF hF
    refine callA (schema_Least_w _ _ _ _ hx62) ?_
    conv => whnf
    obtain ⟨hr, hF⟩ := gdF hF
    refine ⟨by (simp only [List.length_map]; exact rm_fits hr (of_decide_eq_true (by kernel_rfl)) (.inr (by kernel_rfl))), ?_⟩
    try rw [snoc_APick]
    conv => whnf
    refine ⟨⟨_, hF⟩, ?_⟩
    refine leF ?_
    conv => whnf
    exact lg0
   conv => whnf
   refine ⟨⟨_, hF⟩, ?_⟩
   refine leF ?_
   conv => whnf
   exact lg0
  conv => whnf
  refine brF hF ebF (fun hF => ?_) (fun hF => ?_)
  ·conv => whnf
   refine brF hF ebF (fun hF => ?_) (fun hF => ?_)
   ·conv => whnf
    refine brF hF ebF (fun hF => ?_) (fun hF => ?_)
    ·conv => whnf
     obtain ⟨x47, hx47, hF⟩ := bindF hF
     refine callW (types_own_c1_w _ _ _ _ hx47) ?_
     conv => whnf
     refine ⟨⟨_, hF⟩, ?_⟩
     refine leF ?_
     conv => whnf
     exact lg0
    conv => whnf
    refine ⟨⟨_, hF⟩, ?_⟩
    refine leF ?_
    conv => whnf
    exact lg0
   conv => whnf
   refine brF hF ebF (fun hF => ?_) (fun hF => ?_)
   ·conv => whnf
    refine ⟨⟨by decide +kernel, by kernel_rfl⟩, ?_⟩
    conv => whnf
    obtain ⟨x61, hx61, hF⟩ := bindF hF
    refine callA (types_LevelOf_w _ _ _ _ hx61) ?_
    conv => whnf
    obtain ⟨x62, hx62, hF⟩ := bindF hF
    refine callA (schema_Least_w _ _ _ _ hx62) ?_
    conv => whnf
    obtain ⟨hr, hF⟩ := gdF hF
    refine ⟨by (simp only [List.length_map]; exact rm_fits hr (of_decide_eq_true (by kernel_rfl)) (.inr (by kernel_rfl))), ?_⟩
    try rw [snoc_APick]
    conv => whnf
    refine ⟨⟨_, hF⟩, ?_⟩
    refine leF ?_
    conv => whnf
    exact lg0
   conv => whnf
   refine ⟨⟨_, hF⟩, ?_⟩
   refine leF ?_
   conv => whnf
   exact lg0
  conv => whnf
  refine brF hF ebF (fun hF => ?_) (fun hF => ?_)
  ·conv => whnf
   refine brF hF ebF (fun hF => ?_) (fun hF => ?_)
   ·conv => whnf
    refine brF hF ebF (fun hF => ?_) (fun hF => ?_)
    ·conv => whnf
     obtain ⟨x47, hx47, hF⟩ := bindF hF
     refine callW (types_own_c1_w _ _ _ _ hx47) ?_
     conv => whnf
     refine ⟨⟨_, hF⟩, ?_⟩
     refine leF ?_
     conv => whnf
     exact lg0
    conv => whnf
    refine ⟨⟨_, hF⟩, ?_⟩
    refine leF ?_
    conv => whnf
    exact lg0
   conv => whnf
   refine brF hF ebF (fun hF => ?_) (fun hF => ?_)
   ·conv => whnf
    refine ⟨⟨by decide +kernel, by kernel_rfl⟩, ?_⟩
    conv => whnf
    obtain ⟨x61, hx61, hF⟩ := bindF hF
    refine callA (types_LevelOf_w _ _ _ _ hx61) ?_
    conv => whnf
    obtain ⟨x62, hx62, hF⟩ := bindF hF
    refine callA (schema_Least_w _ _ _ _ hx62) ?_
    conv => whnf
    obtain ⟨hr, hF⟩ := gdF hF
    refine ⟨by (simp only [List.length_map]; exact rm_fits hr (of_decide_eq_true (by kernel_rfl)) (.inr (by kernel_rfl))), ?_⟩
    try rw [snoc_APick]
    conv => whnf
    refine ⟨⟨_, hF⟩, ?_⟩
    refine leF ?_
    conv => whnf
    exact lg0
   conv => whnf
   refine ⟨⟨_, hF⟩, ?_⟩
   refine leF ?_
   conv => whnf
   exact lg0
  conv => whnf
  refine brF hF ebF (fun hF => ?_) (fun hF => ?_)
  ·conv => whnf
   refine brF hF ebF (fun hF => ?_) (fun hF => ?_)
   ·conv => whnf
    refine brF hF ebF (fun hF => ?_) (fun hF => ?_)
    ·conv => whnf
     obtain ⟨x47, hx47, hF⟩ := bindF hF
     refine callW (types_own_c1_w _ _ _ _ hx47) ?_
     conv => whnf
     refine ⟨⟨_, hF⟩, ?_⟩
     refine leF ?_
     conv => whnf
     exact lg0
    conv => whnf
    refine ⟨⟨_, hF⟩, ?_⟩
    refine leF ?_
    conv => whnf
    exact lg0
   conv => whnf
   refine brF hF ebF (fun hF => ?_) (fun hF => ?_)
   ·conv => whnf
    refine ⟨⟨by decide +kernel, by kernel_rfl⟩, ?_⟩
    conv => whnf
    obtain ⟨x61, hx61, hF⟩ := bindF hF
    refine callA (types_LevelOf_w _ _ _ _ hx61) ?_
    conv => whnf
    obtain ⟨x62, hx62, hF⟩ := bindF hF
    refine callA (schema_Least_w _ _ _ _ hx62) ?_
    conv => whnf
    obtain ⟨hr, hF⟩ := gdF hF
    refine ⟨by (simp only [List.length_map]; exact rm_fits hr (of_decide_eq_true (by kernel_rfl)) (.inr (by kernel_rfl))), ?_⟩
    try rw [snoc_APick]
    conv => whnf
    refine ⟨⟨_, hF⟩, ?_⟩
    refine leF ?_
    conv => whnf
    exact lg0
   conv => whnf
   refine ⟨⟨_, hF⟩, ?_⟩
   refine leF ?_
   conv => whnf
   exact lg0
  conv => whnf
  refine brF hF ebF (fun hF => ?_) (fun hF => ?_)
  ·conv => whnf
   refine brF hF ebF (fun hF => ?_) (fun hF => ?_)
   ·conv => whnf
    refine brF hF ebF (fun hF => ?_) (fun hF => ?_)
    ·conv => whnf
     obtain ⟨x47, hx47, hF⟩ := bindF hF
     refine callW (types_own_c1_w _ _ _ _ hx47) ?_
     conv => whnf
     refine ⟨⟨_, hF⟩, ?_⟩
     refine leF ?_
     conv => whnf
     exact lg0
    conv => whnf
    refine ⟨⟨_, hF⟩, ?_⟩
    refine leF ?_
    conv => whnf
    exact lg0
   conv => whnf
   refine brF hF ebF (fun hF => ?_) (fun hF => ?_)
   ·conv => whnf
    refine ⟨⟨by decide +kernel, by kernel_rfl⟩, ?_⟩
    conv => whnf
    obtain ⟨x61, hx61, hF⟩ := bindF hF
    refine callA (types_LevelOf_w _ _ _ _ hx61) ?_
    conv => whnf
    obtain ⟨x62, hx62, hF⟩ := bindF hF
    refine callA (schema_Least_w _ _ _ _ hx62) ?_
    conv => whnf
    obtain ⟨hr, hF⟩ := gdF hF
    refine ⟨by (simp only [List.length_map]; exact rm_fits hr (of_decide_eq_true (by kernel_rfl)) (.inr (by kernel_rfl))), ?_⟩
    try rw [snoc_APick]
    conv => whnf
    refine ⟨⟨_, hF⟩, ?_⟩
    refine leF ?_
    conv => whnf
    exact lg0
   conv => whnf
   refine ⟨⟨_, hF⟩, ?_⟩
   refine leF ?_
   conv => whnf
   exact lg0
  conv => whnf
  refine brF hF ebF (fun hF => ?_) (fun hF => ?_)
  ·conv => whnf
   refine brF hF ebF (fun hF => ?_) (fun hF => ?_)
   ·conv => whnf
    obtain ⟨x47, hx47, hF⟩ := bindF hF
    refine callW (types_own_c1_w _ _ _ _ hx47) ?_
    conv => whnf
    refine ⟨⟨_, hF⟩, ?_⟩
    refine leF ?_
    conv => whnf
    exact lg0
   conv => whnf
   refine ⟨⟨_, hF⟩, ?_⟩
   refine leF ?_
   conv => whnf
   exact lg0
  conv => whnf
  refine brF hF ebF (fun hF => ?_) (fun hF => ?_)
  ·conv => whnf
   refine ⟨⟨by decide +kernel, by kernel_rfl⟩, ?_⟩
   conv => whnf
   obtain ⟨x61, hx61, hF⟩ := bindF hF
   refine callA (types_LevelOf_w _ _ _ _ hx61) ?_
   conv => whnf
   obtain ⟨x62, hx62, hF⟩ := bindF hF
   refine callA (schema_Least_w _ _ _ _ hx62) ?_
   conv => whnf
   obtain ⟨hr, hF⟩ := gdF hF
   refine ⟨by (simp only [List.length_map]; exact rm_fits hr (of_decide_eq_true (by kernel_rfl)) (.inr (by kernel_rfl))), ?_⟩
   try rw [snoc_APick]
   conv => whnf
   refine ⟨⟨_, hF⟩, ?_⟩
   refine leF ?_
   conv => whnf
   exact lg0
  conv => whnf
  refine ⟨⟨_, hF⟩, ?_⟩
  refine leF ?_
  conv => whnf
  exact lg0
 obtain ⟨k30_2, hF⟩ := p
 simp only [types_own_j2] at hF
 conv => whnf
 obtain ⟨Φ2, hΦ2, hF⟩ := iterF hF
 refine loop {p : Nat × (Int × (List APick)) // Φ2 p.1 p.2 = some R} (fun p => mkS 78 [(5, .ptr 5 1 0), (6, .cc (some 252) [.sl 5 1, .d (.ptr [(lst 2 encACodeList p0.Lists), (lst 7 encAColumn p0.Columns)])]), (67, .d (lst 1 (D.int .i64) p1.Columns)), (68, .d (.int .i64 ((p1.Columns.length : Nat) : Int))), (69, .d (.int .i64 p.1.2.1))] [(5, .var [.sl 30 1], 1), (30, .row 2 43 (List.map encAPick p.1.2.2), 1)]) (fun p => p.1.1) ⟨(_, (_, _)), hF⟩ ?_ fun p => ?_
 ·refine leF ?_
  conv => whnf
  exact lg0
 obtain ⟨⟨k2, ⟨v69_2, b30_2⟩⟩, hF⟩ := p
 obtain ⟨k2, rfl, hF⟩ := hΦ2 _ _ hF
 simp only [types_own_b2] at hF
 conv => whnf
 refine brF hF ebF (fun hF => ?_) (fun hF => ?_)
 ·conv => whnf
  refine atF (f := (D.int .i64)) hF ebF fun x71 hx71 hF => ?_
  conv => whnf
  obtain ⟨x75, hx75, hF⟩ := bindF hF
  refine callW (types_own_c1_w _ _ _ _ hx75) ?_
  conv => whnf
  refine ⟨⟨(_, (_, _)), hF⟩, ?_, Nat.lt_succ_self _⟩
  refine leF ?_
  conv => whnf
  exact lg0
 conv => whnf
 obtain rfl := Option.some.inj hF
 refine ⟨.inl ?_⟩
 conv => whnf
 exact ⟨rg0⟩

theorem questions_Merge_w (p0 : (List (List APick))) (R : (List APick))  (hF : questions_Merge p0 = some R) : ACall Tryz.prog 194 [.d (lst 1 (lst 2 encAPick) p0)] (.d (lst 2 encAPick R)) := by
 refine acall Tryz.func194 (by kernel_rfl) ?_
 unfold questions_Merge at hF
 conv => whnf
 obtain ⟨Φ1, hΦ1, hF⟩ := iterF hF
 refine loop {p : Nat × (Int × Int × (List (Int × Int))) // Φ1 p.1 p.2 = some R} (fun p => mkS 59 [(3, .sl 11 1), (4, .d (.int .i64 p.1.2.1)), (12, .d (lst 1 (lst 2 encAPick) p0)), (13, .d (.int .i64 ((p0.length : Nat) : Int))), (14, .d (.int .i64 p.1.2.2.1))] [(11, .map (mpI .i64 (D.int .i64) p.1.2.2.2), 1)]) (fun p => p.1.1) ⟨(_, (_, _, _)), hF⟩ ?_ fun p => ?_
 ·refine leF ?_
  conv => whnf
  exact lfF
 obtain ⟨⟨k1, ⟨v4_1, v14_1, b11_1⟩⟩, hF⟩ := p
 obtain ⟨k1, rfl, hF⟩ := hΦ1 _ _ hF
 simp only [questions_Merge_b1] at hF
 conv => whnf
 refine brF hF ebF (fun hF => ?_) (fun hF => ?_)
 ·conv => whnf
  refine atF (f := (lst 2 encAPick)) hF ebF fun x16 hx16 hF => ?_
  conv => whnf
  obtain ⟨Φ2, hΦ2, hF⟩ := iterF hF
  refine loop {p : Nat × (Int × Int × (List (Int × Int))) // Φ2 p.1 p.2 = some R} (fun p => mkS 59 [(3, .sl 11 1), (4, .d (.int .i64 p.1.2.1)), (12, .d (lst 1 (lst 2 encAPick) p0)), (13, .d (.int .i64 ((p0.length : Nat) : Int))), (14, .d (.int .i64 v14_1)), (18, .d (lst 2 encAPick x16)), (19, .d (.int .i64 ((x16.length : Nat) : Int))), (20, .d (.int .i64 p.1.2.2.1))] [(11, .map (mpI .i64 (D.int .i64) p.1.2.2.2), 1)]) (fun p => p.1.1) ⟨(_, (_, _, _)), hF⟩ ?_ fun p => ?_
  ·refine leF ?_
   conv => whnf
   exact lfF
  obtain ⟨⟨k2, ⟨v4_2, v20_2, b11_2⟩⟩, hF⟩ := p
  obtain ⟨k2, rfl, hF⟩ := hΦ2 _ _ hF
  simp only [questions_Merge_b2] at hF
  conv => whnf
  refine brF hF ebF (fun hF => ?_) (fun hF => ?_)
  ·conv => whnf
   refine atF (f := encAPick) hF ebF fun x22 hx22 hF => ?_
   conv => whnf
   refine ⟨⟨by decide +kernel, by kernel_rfl⟩, ?_⟩
   conv => whnf
   refine ⟨⟨by kernel_rfl, kind_mpI .i64 (D.int .i64) x22.Column b11_2⟩, ?_⟩
   conv => whnf
   refine look_mpI (f := (D.int .i64)) (es := b11_2) (z := 0) ?_
   conv => whnf
   refine ⟨⟨by rfl, by kernel_rfl, kind_mpI .i64 (D.int .i64) x22.Column b11_2⟩, ?_⟩
   conv => whnf
   try rw [upd_mpI .i64 (D.int .i64) x22.Column (if x22.Level > ((getI x22.Column b11_2).getD 0) then x22.Level else ((getI x22.Column b11_2).getD 0))]
   refine ⟨⟨(_, (_, _, _)), hF⟩, ?_, Nat.lt_succ_self _⟩
   refine leF ?_
   conv => whnf
   exact lfF
  conv => whnf
  refine ⟨⟨(_, (_, _, _)), hF⟩, ?_, Nat.lt_succ_self _⟩
  refine leF ?_
  conv => whnf
  exact lfF
 conv => whnf
 obtain ⟨Φ3, hΦ3, hF⟩ := iterF hF
 refine loop {p : Nat × (Int × (List APick)) // Φ3 p.1 p.2 = some R} (fun p => mkS 59 [(3, .sl 11 1), (9, .sl 9 1), (41, .d (.int .i64 (IntKind.i64.wrap (v4_1 + 1)))), (42, .d (.int .i64 p.1.2.1))] [(9, .row 2 43 (List.map encAPick p.1.2.2), 1), (11, .map (mpI .i64 (D.int .i64) b11_1), 1)]) (fun p => p.1.1) ⟨(_, (_, _)), hF⟩ ?_ fun p => ?_
 ·refine leF ?_
  conv => whnf
  exact lfF
 obtain ⟨⟨k3, ⟨v42_3, b9_3⟩⟩, hF⟩ := p
 obtain ⟨k3, rfl, hF⟩ := hΦ3 _ _ hF
 simp only [questions_Merge_b3] at hF
 conv => whnf
 refine brF hF ebF (fun hF => ?_) (fun hF => ?_)
 ·conv => whnf
  refine ⟨⟨by kernel_rfl, kind_mpI .i64 (D.int .i64) v42_3 b11_1⟩, ?_⟩
  conv => whnf
  refine look_mpI (f := (D.int .i64)) (es := b11_1) (z := 0) ?_
  conv => whnf
  refine brF hF ebF (fun hF => ?_) (fun hF => ?_)
  ·conv => whnf
   refine ⟨⟨by kernel_rfl, kind_mpI .i64 (D.int .i64) v42_3 b11_1⟩, ?_⟩
   conv => whnf
   refine look_mpI (f := (D.int .i64)) (es := b11_1) (z := 0) ?_
   conv => whnf
   obtain ⟨hr, hF⟩ := gdF hF
   refine ⟨by (simp only [List.length_map]; exact rm_fits hr (of_decide_eq_true (by kernel_rfl)) (.inr (by kernel_rfl))), ?_⟩
   try rw [snoc_APick]
   conv => whnf
   refine ⟨⟨(_, (_, _)), hF⟩, ?_, Nat.lt_succ_self _⟩
   refine leF ?_
   conv => whnf
   exact lfF
  conv => whnf
  refine ⟨⟨(_, (_, _)), hF⟩, ?_, Nat.lt_succ_self _⟩
  refine leF ?_
  conv => whnf
  exact lfF
 conv => whnf
 obtain rfl := Option.some.inj hF
 refine ⟨.inl ?_⟩
 conv => whnf
 exact ⟨rtF⟩

theorem types_needs_ws (d : Nat) (self_types_needs : (ASchema → AExpr → Option (List APick))) (ih_types_needs : ∀ (p0 : ASchema) (p1 : AExpr) (R : (List APick)) , self_types_needs p0 p1 = some R → ACall Tryz.prog 125 [.d (encASchema p0), .d (opAExpr p1)] (.d (lst 2 encAPick R))) (p0 : ASchema) (p1 : AExpr) (R : (List APick))  (hF : types_needs_s d self_types_needs p0 p1 = some R) : ACall Tryz.prog 125 [.d (encASchema p0), .d (opAExpr p1)] (.d (lst 2 encAPick R)) := by
 refine acall Tryz.func125 (by kernel_rfl) ?_
 unfold types_needs_s at hF
 conv => whnf
 refine ⟨⟨by decide +kernel, by kernel_rfl⟩, ?_⟩
 conv => whnf
 obtain ⟨x10, hx10, hF⟩ := bindF hF
 refine callA (types_own_w _ _ _ hx10) ?_
 conv => whnf
 obtain ⟨x14, hx14, hF⟩ := bindF hF
 refine callA (condition_Needs_w _ _ _ _ hx14) ?_
 conv => whnf
 obtain ⟨x18, hx18, hF⟩ := bindF hF
 refine callA (condition_Needs_w _ _ _ _ hx18) ?_
 conv => whnf
 obtain ⟨Φ1, hΦ1, hF⟩ := iterF hF
 refine loop {p : Nat × (Int × (List (List APick))) // Φ1 p.1 p.2 = some R} (fun p => mkS 36 [(2, .ptr 2 1 0), (5, .sl 19 1), (21, .d (lst 19 encAExpr p1.Kids)), (22, .d (.int .i64 ((p1.Kids.length : Nat) : Int))), (23, .d (.int .i64 p.1.2.1))] [(2, .var [.d (lst 2 encACodeList p0.Lists), .d (lst 7 encAColumn p0.Columns)], 1), (19, .row 1 33 (List.map (lst 2 encAPick) p.1.2.2), 1)]) (fun p => p.1.1) ⟨(_, (_, _)), hF⟩ ?_ fun p => ?_
 ·refine leF ?_
  conv => whnf
  exact lg0
 obtain ⟨⟨k1, ⟨v23_1, b19_1⟩⟩, hF⟩ := p
 obtain ⟨k1, rfl, hF⟩ := hΦ1 _ _ hF
 simp only [types_needs_b1] at hF
 conv => whnf
 refine brF hF ebF (fun hF => ?_) (fun hF => ?_)
 ·conv => whnf
  refine atF (f := encAExpr) hF ebF fun x25 hx25 hF => ?_
  rw [encAExpr_op x25]
  conv => whnf
  obtain ⟨x30, hx30, hF⟩ := bindF hF
  first | refine callA (ih_types_needs _ _ _ hx30) ?_ | (simp only [List.length_map]; refine callA (ih_types_needs _ _ _ hx30) ?_)
  conv => whnf
  obtain ⟨hr, hF⟩ := gdF hF
  refine ⟨by (simp only [List.length_map]; exact rm_fits hr (of_decide_eq_true (by kernel_rfl)) (.inr (by kernel_rfl))), ?_⟩
  try rw [snocL]
  conv => whnf
  refine ⟨⟨(_, (_, _)), hF⟩, ?_, Nat.lt_succ_self _⟩
  refine leF ?_
  conv => whnf
  exact lg0
 conv => whnf
 obtain ⟨x35, hx35, hF⟩ := bindF hF
 refine callA (questions_Merge_w _ _ hx35) ?_
 conv => whnf
 obtain rfl := Option.some.inj hF
 exact ⟨rg0⟩

theorem types_needs_wr : ∀ d : Nat, (∀ (p0 : ASchema) (p1 : AExpr) (R : (List APick)) , types_needs d p0 p1 = some R → ACall Tryz.prog 125 [.d (encASchema p0), .d (opAExpr p1)] (.d (lst 2 encAPick R)))
  | 0 => by
   refine (by intros; rename_i h; cases h)
  | d + 1 => by
   have ih := types_needs_wr d
   exact types_needs_ws d _ ih

theorem types_needs_w (d : Nat) : ∀ (p0 : ASchema) (p1 : AExpr) (R : (List APick)) , types_needs d p0 p1 = some R → ACall Tryz.prog 125 [.d (encASchema p0), .d (opAExpr p1)] (.d (lst 2 encAPick R)) := types_needs_wr d

theorem types_Needs_w (d : Nat) (p0 : ASchema) (p1 : AExpr) (R : (List APick))  (hF : types_Needs d p0 p1 = some R) : ACall Tryz.prog 64 [.d (encASchema p0), .d (opAExpr p1)] (.d (lst 2 encAPick R)) := by
 refine acall Tryz.func64 (by kernel_rfl) ?_
 unfold types_Needs at hF
 conv => whnf
 obtain ⟨x6, hx6, hF⟩ := bindF hF
 refine callA (schema_Check_w _ _ hx6) ?_
 conv => whnf
 refine brF hF ebF (fun hF => ?_) (fun hF => ?_)
 ·obtain rfl := Option.some.inj hF
  refine ⟨.inl ?_⟩
  conv => whnf
  exact ⟨rg0⟩
 obtain ⟨x11, hx11, hF⟩ := bindF hF
 refine callA (program_Right_w _ _ _ _ hx11) ?_
 conv => whnf
 refine brF hF ebF (fun hF => ?_) (fun hF => ?_)
 ·conv => whnf
  obtain rfl := Option.some.inj hF
  refine ⟨.inl ?_⟩
  conv => whnf
  exact ⟨rg0⟩
 conv => whnf
 obtain ⟨x16, hx16, hF⟩ := bindF hF
 refine callA (types_needs_w _ _ _ _ hx16) ?_
 conv => whnf
 obtain rfl := Option.some.inj hF
 exact ⟨rg0⟩

theorem plot_usable_w (d : Nat) (p0 : ASchema) (p1 : AExtract) (p2 : AExpr) (R : Int)  (hF : plot_usable d p0 p1 p2 = some R) : ACall Tryz.prog 38 [.d (encASchema p0), .d (encAExtract p1), .d (opAExpr p2)] (.d (.int .i64 R)) := by
 refine acall Tryz.func38 (by kernel_rfl) ?_
 unfold plot_usable at hF
 conv => whnf
 obtain ⟨x10, hx10, hF⟩ := bindF hF
 refine callA (extract_Check_w _ _ _ hx10) ?_
 conv => whnf
 refine brF hF ebF (fun hF => ?_) (fun hF => ?_)
 ·conv => whnf
  obtain rfl := Option.some.inj hF
  exact ⟨rg0⟩
 conv => whnf
 obtain ⟨x17, hx17, hF⟩ := bindF hF
 refine callA (program_Right_w _ _ _ _ hx17) ?_
 conv => whnf
 refine brF hF ebF (fun hF => ?_) (fun hF => ?_)
 ·conv => whnf
  obtain rfl := Option.some.inj hF
  exact ⟨rg0⟩
 conv => whnf
 refine ⟨⟨by decide +kernel, by kernel_rfl⟩, ?_⟩
 conv => whnf
 obtain ⟨x24, hx24, hF⟩ := bindF hF
 refine callA (types_Needs_w _ _ _ _ hx24) ?_
 conv => whnf
 obtain ⟨x25, hx25, hF⟩ := bindF hF
 refine callA (condition_Covers_w _ _ _ hx25) ?_
 conv => whnf
 refine brF hF ebF (fun hF => ?_) (fun hF => ?_)
 ·conv => whnf
  obtain rfl := Option.some.inj hF
  exact ⟨rg0⟩
 conv => whnf
 obtain rfl := Option.some.inj hF
 exact ⟨rg0⟩
end Go.Proofs.YtejfnieiaecpkaaGreatDoor.P
