/-
 Printed by wip/tools/mkw.py: walks: ref18_Counts plot_Quartiles law21_awake law21_PlotCoarse
-/
import Derived.Test.YtejfnieiaecpkaaGreatDoorChecked
import Derived.Test.YtejfnieiaecpkaaGreatDoorP3F
import Derived.Test.YtejfnieiaecpkaaGreatDoorP3A
import Derived.Test.YtejfnieiaecpkaaGreatDoorP3HW
import Derived.Test.YtejfnieiaecpkaaGreatDoorP3W1
import Derived.Test.YtejfnieiaecpkaaGreatDoorP3W2
import Derived.Test.YtejfnieiaecpkaaGreatDoorP3W3
import Derived.Test.YtejfnieiaecpkaaGreatDoorP3W6
import Derived.Test.YtejfnieiaecpkaaGreatDoorP3W12
import Derived.Test.YtejfnieiaecpkaaGreatDoorP3W13
set_option linter.unusedSimpArgs false
namespace Go.Proofs.YtejfnieiaecpkaaGreatDoor.P
open Go.Abs Go.Proofs
set_option maxRecDepth 100000
set_option maxHeartbeats 40000000
set_option linter.unusedVariables false

theorem ref18_Counts_w (d : Nat) (p0 : ASchema) (p1 : AExtract) (p2 : ACond) (p3 : (List Int)) (R : (List Int))  (hF : ref18_Counts d p0 p1 p2 p3 = some R) : ACall Tryz.prog 15 [.d (encASchema p0), .d (encAExtract p1), .d (opACond p2), .d (lst 1 (D.int .i64) p3)] (.d (lst 1 (D.int .i64) R)) := by
 refine acall Tryz.func15 (by kernel_rfl) ?_
 unfold ref18_Counts at hF
 conv => whnf
 obtain ⟨x17, hx17, hF⟩ := bindF hF
 refine callA (ref13_Check_w _ _ _ hx17) ?_
 conv => whnf
 refine brF hF ebF (fun hF => ?_) (fun hF => ?_)
 ·conv => whnf
  obtain rfl := Option.some.inj hF
  refine ⟨.inl ?_⟩
  conv => whnf
  exact ⟨rg0⟩
 conv => whnf
 obtain ⟨Φ1, hΦ1, hF⟩ := iterF hF
 refine loop {p : Nat × (Int × (List Int)) // Φ1 p.1 p.2 = some R} (fun p => mkS 75 [(3, .d (lst 1 (D.int .i64) p3)), (4, .ptr 4 1 0), (5, .ptr 5 1 0), (6, .ptr 6 1 0), (9, .sl 9 1), (10, .d (.int .i64 p.1.2.1))] [(4, .var [.d (lst 2 encACodeList p0.Lists), .d (lst 7 encAColumn p0.Columns)], 1), (5, .var [.d (.str p1.Project), .d (.int .i64 p1.Version), .d (lst 2 encAPick p1.Picks), .d (lst 1 (lst 1 (D.int .i64)) p1.Rows)], 1), (6, .var [.d (.int .i64 p2.Op), .d (.int .i64 p2.Column), .d (.int .i64 p2.Code), .d (.int .i64 p2.Low), .d (.int .i64 p2.High), .d (lst 6 encACond p2.Kids)], 1), (9, .row 1 3 (List.map (D.int .i64) p.1.2.2), 1)]) (fun p => p.1.1) ⟨(_, (_, _)), hF⟩ ?_ fun p => ?_
 ·refine leF ?_
  conv => whnf
  exact lg0
 obtain ⟨⟨k1, ⟨v10_1, b9_1⟩⟩, hF⟩ := p
 obtain ⟨k1, rfl, hF⟩ := hΦ1 _ _ hF
 simp only [ref18_Counts_b1] at hF
 conv => whnf
 refine brF hF ebF (fun hF => ?_) (fun hF => ?_)
 ·conv => whnf
  refine ⟨⟨by decide +kernel, by kernel_rfl⟩, ?_⟩
  conv => whnf
  refine atF (f := (lst 1 (D.int .i64))) hF ebF fun x33 hx33 hF => ?_
  conv => whnf
  obtain ⟨hr, hF⟩ := gdF hF
  refine ⟨by first | exact of_decide_eq_true hr | (simp only [List.length_map]; exact of_decide_eq_true hr), ?_⟩
  try simp only [List.length_map]
  rw [cutM]
  conv => whnf
  obtain ⟨x36, hx36, hF⟩ := bindF hF
  first | refine callA (ref05_Coarse_w _ _ _ _ _ _ hx36) ?_ | (simp only [List.length_map]; refine callA (ref05_Coarse_w _ _ _ _ _ _ hx36) ?_)
  conv => whnf
  obtain ⟨Φ2, hΦ2, hF⟩ := iterF hF
  refine loop {p : Nat × (Bool × Int) // Φ2 p.1 p.2 = some R} (fun p => mkS 75 [(3, .d (lst 1 (D.int .i64) p3)), (4, .ptr 4 1 0), (5, .ptr 5 1 0), (6, .ptr 6 1 0), (9, .sl 9 1), (10, .d (.int .i64 v10_1)), (11, .d (.bool p.1.2.1)), (12, .d (.int .i64 p.1.2.2))] [(4, .var [.d (lst 2 encACodeList p0.Lists), .d (lst 7 encAColumn p0.Columns)], 1), (5, .var [.d (.str p1.Project), .d (.int .i64 p1.Version), .d (lst 2 encAPick p1.Picks), .d (lst 1 (lst 1 (D.int .i64)) p1.Rows)], 1), (6, .var [.d (.int .i64 p2.Op), .d (.int .i64 p2.Column), .d (.int .i64 p2.Code), .d (.int .i64 p2.Low), .d (.int .i64 p2.High), .d (lst 6 encACond p2.Kids)], 1), (9, .row 1 3 (List.map (D.int .i64) b9_1), 1)]) (fun p => p.1.1) ⟨(_, (_, _)), hF⟩ ?_ fun p => ?_
  ·refine leF ?_
   conv => whnf
   exact lg0
  obtain ⟨⟨k2, ⟨v11_2, v12_2⟩⟩, hF⟩ := p
  obtain ⟨k2, rfl, hF⟩ := hΦ2 _ _ hF
  simp only [ref18_Counts_b2] at hF
  conv => whnf
  refine brF hF ebF (fun hF => ?_) (fun hF => ?_)
  ·conv => whnf
   refine ⟨⟨by decide +kernel, by kernel_rfl⟩, ?_⟩
   conv => whnf
   refine atF (f := (D.int .i64)) hF ebF fun x53 hx53 hF => ?_
   conv => whnf
   refine atF (f := (D.int .i64)) hF ebF fun x58 hx58 hF => ?_
   conv => whnf
   obtain ⟨x60, hx60, hF⟩ := bindF hF
   refine callA (ref02_Finest_w _ _ _ hx60) ?_
   conv => whnf
   obtain ⟨x61, hx61, hF⟩ := bindF hF
   refine callA (ref13_Inner_w _ _ _ _ _ _ hx61) ?_
   conv => whnf
   refine ⟨⟨(_, (_, _)), hF⟩, ?_, Nat.lt_succ_self _⟩
   refine leF ?_
   conv => whnf
   exact lg0
  conv => whnf
  try simp only [ref18_Counts_k1] at hF
  refine brF hF ebF (fun hF => ?_) (fun hF => ?_)
  ·conv => whnf
   obtain ⟨hr, hF⟩ := gdF hF
   refine ⟨by (simp only [List.length_map]; exact rm_fits hr (of_decide_eq_true (by kernel_rfl)) (.inr (by kernel_rfl))), ?_⟩
   try rw [snocI]
   conv => whnf
   refine ⟨⟨(_, (_, _)), hF⟩, ?_, Nat.lt_succ_self _⟩
   refine leF ?_
   conv => whnf
   exact lg0
  conv => whnf
  refine ⟨⟨(_, (_, _)), hF⟩, ?_, Nat.lt_succ_self _⟩
  refine leF ?_
  conv => whnf
  exact lg0
 conv => whnf
 try simp only [ref18_Counts_k1] at hF
 obtain rfl := Option.some.inj hF
 refine ⟨.inl ?_⟩
 conv => whnf
 exact ⟨rg0⟩

theorem plot_Quartiles_w (p0 : (List Int)) (R : (ABox × Int))  (hF : plot_Quartiles p0 = some R) : ACall Tryz.prog 47 [.d (lst 1 (D.int .i64) p0)] (.tup [.d (encABox R.1), .d (.int .i64 R.2)]) := by
 refine acall Tryz.func47 (by kernel_rfl) ?_
 unfold plot_Quartiles at hF
 conv => whnf
 refine brF hF ebF (fun hF => ?_) (fun hF => ?_)
 ·conv => whnf
  obtain rfl := Option.some.inj hF
  exact ⟨rtF⟩
 conv => whnf
 obtain ⟨x14, hx14, hF⟩ := bindF hF
 refine callA (slices_ContainsFunc_Lint_int_w _ _ _ _ _ (fun a0 _ h => plot_large_w a0  _ h) hx14) ?_
 conv => whnf
 refine brF hF ebF (fun hF => ?_) (fun hF => ?_)
 ·conv => whnf
  obtain rfl := Option.some.inj hF
  exact ⟨rtF⟩
 conv => whnf
 refine brF hF ebF (fun hF => ?_) (fun hF => ?_)
 ·conv => whnf
  obtain rfl := Option.some.inj hF
  exact ⟨rtF⟩
 conv => whnf
 obtain ⟨x21, hx21, hF⟩ := bindF hF
 refine callA (slices_Clone_Lint_int_w _ _ hx21) ?_
 conv => whnf
 obtain ⟨x23, hx23, hF⟩ := bindF hF
 refine callM (slices_Sort_Lint_int_w _ _ hx23) ?_
 conv => whnf
 refine ⟨⟨by decide +kernel, by kernel_rfl⟩, ?_⟩
 conv => whnf
 refine rowF (f := (D.int .i64)) hF ebF fun x26 hx26 hF => ?_
 conv => whnf
 refine atR (f := (D.int .i64)) hx26 ebF ?_
 conv => whnf
 refine ⟨by omega, ?_⟩
 conv => whnf
 refine rowF (f := (D.int .i64)) hF ebF fun x32 hx32 hF => ?_
 conv => whnf
 refine atR (f := (D.int .i64)) hx32 ebF ?_
 conv => whnf
 refine ⟨by omega, ?_⟩
 conv => whnf
 refine rowF (f := (D.int .i64)) hF ebF fun x38 hx38 hF => ?_
 conv => whnf
 refine atR (f := (D.int .i64)) hx38 ebF ?_
 conv => whnf
 refine ⟨by omega, ?_⟩
 conv => whnf
 refine rowF (f := (D.int .i64)) hF ebF fun x45 hx45 hF => ?_
 conv => whnf
 refine atR (f := (D.int .i64)) hx45 ebF ?_
 conv => whnf
 refine rowF (f := (D.int .i64)) hF ebF fun x50 hx50 hF => ?_
 conv => whnf
 refine atR (f := (D.int .i64)) hx50 ebF ?_
 conv => whnf
 obtain rfl := Option.some.inj hF
 exact ⟨rtF⟩

theorem law21_awake_w  (R : Bool)  (hF : law21_awake  = some R) : ACall Tryz.prog 16 [] (.d (.bool R)) := by
 refine acall Tryz.func16 (by kernel_rfl) ?_
 unfold law21_awake at hF
 conv => whnf
 obtain ⟨x7, hx7, hF⟩ := bindF hF
 refine callA (plot_Bins_w _ _ _ hx7) ?_
 conv => whnf
 obtain ⟨x12, hx12, hF⟩ := bindF hF
 refine callA (plot_Quartiles_w _ _ hx12) ?_
 conv => whnf
 refine brF hF ebF (fun hF => ?_) (fun hF => ?_)
 ·obtain ⟨x23, hx23, hF⟩ := bindF hF
  refine callA (ref21_Same_w _ _ _ hx23) ?_
  conv => whnf
  refine brF hF ebF (fun hF => ?_) (fun hF => ?_)
  ·refine ⟨⟨by kernel_rfl, by kernel_rfl⟩, ?_⟩
   conv => whnf
   refine ⟨by kernel_rfl, ?_⟩
   conv => whnf
   obtain rfl := Option.some.inj hF
   exact ⟨rtF⟩
  obtain rfl := Option.some.inj hF
  exact ⟨rtF⟩
 obtain rfl := Option.some.inj hF
 exact ⟨rtF⟩

theorem law21_PlotCoarse_w (d : Nat) (p0 : (List Int)) (p1 : Int) (R : Bool)  (hF : law21_PlotCoarse d p0 p1 = some R) : ACall Tryz.prog 3 [.d (lst 1 (D.int .u8) p0), .d (.int .i64 p1)] (.d (.bool R)) := by
 refine acallJ [14] Tryz.func3 (by kernel_rfl) ?_
 unfold law21_PlotCoarse at hF
 conv => whnf
 obtain ⟨x24, hx24, hF⟩ := bindF hF
 refine callA (draw_New_w _ _ hx24) ?_
 conv => whnf
 obtain ⟨x27, hx27, hF⟩ := bindF hF
 refine callM (draw_Codes_Whole_w _ _ _ _ hx27) ?_
 conv => whnf
 obtain ⟨x34, hx34, hF⟩ := bindF hF
 refine callM (draw_Codes_Measured_w _ _ _ hx34) ?_
 conv => whnf
 refine atF (f := encAColumn) hF ebF fun x38 hx38 hF => ?_
 conv => whnf
 obtain ⟨x44, hx44, hF⟩ := bindF hF
 first | refine callA (draw_Mod_w _ _ _ hx44) ?_ | (simp only [List.length_map]; refine callA (draw_Mod_w _ _ _ hx44) ?_)
 conv => whnf
 refine ⟨.inr ?_⟩
 conv => whnf
 refine join {p : (List (List Int)) // law21_PlotCoarse_j1 x38 x44 d x27 x34 p = some R} (fun p => mkS 141 [(7, .ptr 7 1 0), (8, .ptr 8 1 0), (9, .d (.int .i64 x34.1)), (10, .d (lst 1 (D.int .i64) x38.Widths)), (11, .d (.int .i64 x44)), (13, .ptr 13 1 0)] [(7, .var [.d (.str x27.2.1.Project), .d (.int .i64 x27.2.1.Version), .d (lst 2 encAPick x27.2.1.Picks), .d (lst 1 (lst 1 (D.int .i64)) x27.2.1.Rows)], 1), (8, .var [.d (lst 2 encACodeList x27.1.Schema.Lists), .d (lst 7 encAColumn x27.1.Schema.Columns)], 1), (13, .var [.d (.str x27.2.1.Project), .d (.int .i64 x27.2.1.Version), .sl 56 1, .sl 80 1], 1), (56, .row 2 43 (List.map encAPick [({ Column := x34.1, Level := (IntKind.i64.wrap (((x38.Widths.length : Nat) : Int) - x44)) } : APick)]), 1), (80, .row 1 30 (List.map (lst 1 (D.int .i64)) p.1), 1)]) ?_ fun p => ?_
 ·conv => whnf
  obtain ⟨Φ1, hΦ1, hF⟩ := iterF hF
  refine loopA [(13, 3, 80, 30)] {p : Nat × (Int × (List (List Int))) // Φ1 p.1 p.2 = some R} (fun p => mkS 141 [(7, .ptr 7 1 0), (8, .ptr 8 1 0), (9, .d (.int .i64 x34.1)), (10, .d (lst 1 (D.int .i64) x38.Widths)), (11, .d (.int .i64 x44)), (12, .d (.int .i64 (IntKind.i64.wrap (((x38.Widths.length : Nat) : Int) - x44)))), (13, .ptr 13 1 0), (59, .d (lst 1 (lst 1 (D.int .i64)) x27.2.1.Rows)), (60, .d (.int .i64 ((x27.2.1.Rows.length : Nat) : Int))), (61, .d (.int .i64 p.1.2.1))] [(7, .var [.d (.str x27.2.1.Project), .d (.int .i64 x27.2.1.Version), .d (lst 2 encAPick x27.2.1.Picks), .d (lst 1 (lst 1 (D.int .i64)) x27.2.1.Rows)], 1), (8, .var [.d (lst 2 encACodeList x27.1.Schema.Lists), .d (lst 7 encAColumn x27.1.Schema.Columns)], 1), (13, .var [.d (.str x27.2.1.Project), .d (.int .i64 x27.2.1.Version), .sl 56 1, .sl 80 1], 1), (56, .row 2 43 (List.map encAPick [({ Column := x34.1, Level := (IntKind.i64.wrap (((x38.Widths.length : Nat) : Int) - x44)) } : APick)]), 1), (80, .row 1 30 (List.map (lst 1 (D.int .i64)) p.1.2.2), 1)]) (fun p => p.1.1) ⟨(_, (_, _)), hF⟩ ?_ fun p => ?_
  ·conv => whnf
   exact lfF
  obtain ⟨⟨k1, ⟨v61_1, b80_1⟩⟩, hF⟩ := p
  obtain ⟨k1, rfl, hF⟩ := hΦ1 _ _ hF
  simp only [law21_PlotCoarse_b1] at hF
  conv => whnf
  refine brF hF ebF (fun hF => ?_) (fun hF => ?_)
  ·conv => whnf
   refine atF (f := (lst 1 (D.int .i64))) hF ebF fun x63 hx63 hF => ?_
   conv => whnf
   refine ⟨⟨by decide +kernel, by kernel_rfl⟩, ?_⟩
   conv => whnf
   refine atF (f := (D.int .i64)) hF ebF fun x68 hx68 hF => ?_
   conv => whnf
   refine atF (f := (D.int .i64)) hF ebF fun x75 hx75 hF => ?_
   conv => whnf
   obtain ⟨x77, hx77, hF⟩ := bindF hF
   first | refine callA (ref02_Coarse_w _ _ _ _ _ hx77) ?_ | (simp only [List.length_map]; refine callA (ref02_Coarse_w _ _ _ _ _ hx77) ?_)
   conv => whnf
   obtain ⟨hr, hF⟩ := gdF hF
   refine ⟨by (simp only [List.length_map]; exact rm_fits hr (of_decide_eq_true (by kernel_rfl)) (.inr (by kernel_rfl))), ?_⟩
   try rw [snocL]
   conv => whnf
   refine ⟨⟨(_, (_, _)), hF⟩, ?_, Nat.lt_succ_self _⟩
   refine leF ?_
   conv => whnf
   exact lfF
  conv => whnf
  refine ⟨⟨_, hF⟩, ?_⟩
  refine leF ?_
  conv => whnf
  exact lfF
 obtain ⟨k80_1, hF⟩ := p
 simp only [law21_PlotCoarse_j1] at hF
 conv => whnf
 refine ⟨⟨by decide +kernel, by kernel_rfl⟩, ?_⟩
 conv => whnf
 refine atF (f := (D.int .i64)) hF ebF fun x90 hx90 hF => ?_
 conv => whnf
 obtain ⟨x93, hx93, hF⟩ := bindF hF
 refine callA (plot_Hist_w _ _ _ _ _ _ _ hx93) ?_
 conv => whnf
 refine ⟨⟨by decide +kernel, by kernel_rfl⟩, ?_⟩
 conv => whnf
 refine atF (f := (D.int .i64)) hF ebF fun x103 hx103 hF => ?_
 conv => whnf
 obtain ⟨x106, hx106, hF⟩ := bindF hF
 first | refine callA (plot_Hist_w _ _ _ _ _ _ _ hx106) ?_ | (simp only [List.length_map]; refine callA (plot_Hist_w _ _ _ _ _ _ _ hx106) ?_)
 conv => whnf
 refine ⟨⟨by decide +kernel, by kernel_rfl⟩, ?_⟩
 conv => whnf
 refine brF hF ebF (fun hF => ?_) (fun hF => ?_)
 ·obtain ⟨x119, hx119, hF⟩ := bindF hF
  refine callA (ref21_Same_w _ _ _ hx119) ?_
  conv => whnf
  refine brF hF ebF (fun hF => ?_) (fun hF => ?_)
  ·obtain ⟨x124, hx124, hF⟩ := bindF hF
   refine callA (ref01_Ints_w _ _ _ hx124) ?_
   conv => whnf
   refine brF hF ebF (fun hF => ?_) (fun hF => ?_)
   ·obtain ⟨x134, hx134, hF⟩ := bindF hF
    refine callA (ref18_Counts_w _ _ _ _ _ _ hx134) ?_
    conv => whnf
    obtain ⟨x135, hx135, hF⟩ := bindF hF
    refine callA (ref19_Keys_w _ _ _ hx135) ?_
    conv => whnf
    obtain ⟨x136, hx136, hF⟩ := bindF hF
    refine callA (ref01_Ints_w _ _ _ hx136) ?_
    conv => whnf
    refine brF hF ebF (fun hF => ?_) (fun hF => ?_)
    ·obtain ⟨x139, hx139, hF⟩ := bindF hF
     refine callA (law21_awake_w  _ hx139) ?_
     conv => whnf
     obtain rfl := Option.some.inj hF
     exact ⟨rtF⟩
    obtain rfl := Option.some.inj hF
    exact ⟨rtF⟩
   obtain rfl := Option.some.inj hF
   exact ⟨rtF⟩
  obtain rfl := Option.some.inj hF
  exact ⟨rtF⟩
 obtain rfl := Option.some.inj hF
 exact ⟨rtF⟩
end Go.Proofs.YtejfnieiaecpkaaGreatDoor.P
