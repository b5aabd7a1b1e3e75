/-
 Printed by wip/tools/mkw.py: walks: ref02_Holds ref01_Up ref02_Width ref02_Floor ref02_Coarse ref04_Find ref02_Row ref04_Valid ref02_Pick ref02_Picks ref05_count ref05_depth ref05_is
-/
import Derived.Test.YtejfnieiaecpkaaGreatDoorChecked
import Derived.Test.YtejfnieiaecpkaaGreatDoorP3F
import Derived.Test.YtejfnieiaecpkaaGreatDoorP3A
import Derived.Test.YtejfnieiaecpkaaGreatDoorP3HW
import Derived.Test.YtejfnieiaecpkaaGreatDoorP3W1
import Derived.Test.YtejfnieiaecpkaaGreatDoorP3W2
set_option linter.unusedSimpArgs false
namespace Go.Proofs.YtejfnieiaecpkaaGreatDoor.P
open Go.Abs Go.Proofs
set_option maxRecDepth 100000
set_option maxHeartbeats 40000000
set_option linter.unusedVariables false

theorem ref02_Holds_w (p0 : ASchema) (p1 : Int) (p2 : Int) (R : Bool)  (hF : ref02_Holds p0 p1 p2 = some R) : ACall Tryz.prog 34 [.d (encASchema p0), .d (.int .i64 p1), .d (.int .i64 p2)] (.d (.bool R)) := by
 refine acall Tryz.func34 (by kernel_rfl) ?_
 unfold ref02_Holds at hF
 conv => whnf
 refine atF (f := encAColumn) hF ebF fun x12 hx12 hF => ?_
 conv => whnf
 refine brF hF ebF (fun hF => ?_) (fun hF => ?_)
 ·conv => whnf
  obtain ⟨x19, hx19, hF⟩ := bindF hF
  refine callA (ref02_in_w _ _ _ _ hx19) ?_
  conv => whnf
  obtain rfl := Option.some.inj hF
  exact ⟨rtF⟩
 conv => whnf
 refine brF hF ebF (fun hF => ?_) (fun hF => ?_)
 ·conv => whnf
  refine atF (f := encACodeList) hF ebF fun x26 hx26 hF => ?_
  conv => whnf
  refine ⟨⟨by decide +kernel, by kernel_rfl⟩, ?_⟩
  conv => whnf
  obtain ⟨x33, hx33, hF⟩ := bindF hF
  first | refine callA (ref02_in_w _ _ _ _ hx33) ?_ | (simp only [List.length_map]; refine callA (ref02_in_w _ _ _ _ hx33) ?_)
  conv => whnf
  refine brF hF ebF (fun hF => ?_) (fun hF => ?_)
  ·obtain ⟨x37, hx37, hF⟩ := bindF hF
   refine callA (ref01_Level_w _ _ _ hx37) ?_
   conv => whnf
   obtain ⟨x39, hx39, hF⟩ := bindF hF
   refine callA (ref01_Levels_w _ _ hx39) ?_
   conv => whnf
   obtain rfl := Option.some.inj hF
   exact ⟨rtF⟩
  obtain rfl := Option.some.inj hF
  exact ⟨rtF⟩
 conv => whnf
 refine brF hF ebF (fun hF => ?_) (fun hF => ?_)
 ·obtain rfl := Option.some.inj hF
  exact ⟨rtF⟩
 obtain ⟨x55, hx55, hF⟩ := bindF hF
 refine callA (ref02_in_w _ _ _ _ hx55) ?_
 conv => whnf
 obtain rfl := Option.some.inj hF
 exact ⟨rtF⟩

theorem ref01_Up_w (p0 : ACodeList) (p1 : Int) (p2 : Int) (R : Int)  (hF : ref01_Up p0 p1 p2 = some R) : ACall Tryz.prog 35 [.d (encACodeList p0), .d (.int .i64 p1), .d (.int .i64 p2)] (.d (.int .i64 R)) := by
 refine acall Tryz.func35 (by kernel_rfl) ?_
 unfold ref01_Up at hF
 conv => whnf
 obtain ⟨x8, hx8, hF⟩ := bindF hF
 refine callA (ref01_Check_w _ _ hx8) ?_
 conv => whnf
 refine brF hF ebF (fun hF => ?_) (fun hF => ?_)
 ·obtain rfl := Option.some.inj hF
  exact ⟨rtF⟩
 obtain ⟨x29, hx29, hF⟩ := bindF hF
 refine callA (ref01_depth_w _ _ _ hx29) ?_
 conv => whnf
 refine brF hF ebF (fun hF => ?_) (fun hF => ?_)
 ·conv => whnf
  obtain rfl := Option.some.inj hF
  exact ⟨rtF⟩
 conv => whnf
 obtain ⟨Φ1, hΦ1, hF⟩ := iterF hF
 refine loop {p : Nat × Int // Φ1 p.1 p.2 = some R} (fun p => mkS 44 [(1, .d (.int .i64 p.1.2)), (2, .d (.int .i64 p2)), (3, .ptr 3 1 0)] [(3, .var [.d (.str p0.Name), .d (lst 2 encACode p0.Codes)], 1)]) (fun p => p.1.1) ⟨(_, _), hF⟩ ?_ fun p => ?_
 ·refine leF ?_
  conv => whnf
  exact lfF
 obtain ⟨⟨k1, v1_1⟩, hF⟩ := p
 obtain ⟨k1, rfl, hF⟩ := hΦ1 _ _ hF
 simp only [ref01_Up_b1] at hF
 conv => whnf
 obtain ⟨x34, hx34, hF⟩ := bindF hF
 refine callA (ref01_depth_w _ _ _ hx34) ?_
 conv => whnf
 refine brF hF ebF (fun hF => ?_) (fun hF => ?_)
 ·conv => whnf
  refine atF (f := encACode) hF ebF fun x40 hx40 hF => ?_
  conv => whnf
  refine ⟨⟨(_, _), hF⟩, ?_, Nat.lt_succ_self _⟩
  refine leF ?_
  conv => whnf
  exact lfF
 conv => whnf
 obtain rfl := Option.some.inj hF
 exact ⟨rtF⟩

theorem ref02_Width_w (p0 : AColumn) (p1 : Int) (R : Int)  (hF : ref02_Width p0 p1 = some R) : ACall Tryz.prog 36 [.d (encAColumn p0), .d (.int .i64 p1)] (.d (.int .i64 R)) := by
 refine acall Tryz.func36 (by kernel_rfl) ?_
 unfold ref02_Width at hF
 conv => whnf
 refine atF (f := (D.int .i64)) hF ebF fun x12 hx12 hF => ?_
 conv => whnf
 obtain rfl := Option.some.inj hF
 exact ⟨rtF⟩

theorem ref02_Floor_w (p0 : Int) (p1 : Int) (R : Int)  (hF : ref02_Floor p0 p1 = some R) : ACall Tryz.prog 37 [.d (.int .i64 p0), .d (.int .i64 p1)] (.d (.int .i64 R)) := by
 refine acall Tryz.func37 (by kernel_rfl) ?_
 unfold ref02_Floor at hF
 conv => whnf
 obtain ⟨hr, hF⟩ := gdF hF
 refine ⟨of_decide_eq_true hr, ?_⟩
 conv => whnf
 obtain ⟨hr, hF⟩ := gdF hF
 refine ⟨of_decide_eq_true hr, ?_⟩
 conv => whnf
 refine brF hF ebF (fun hF => ?_) (fun hF => ?_)
 ·conv => whnf
  obtain rfl := Option.some.inj hF
  exact ⟨rtF⟩
 conv => whnf
 obtain rfl := Option.some.inj hF
 exact ⟨rtF⟩

theorem ref02_Coarse_w (p0 : ASchema) (p1 : Int) (p2 : Int) (p3 : Int) (R : Int)  (hF : ref02_Coarse p0 p1 p2 p3 = some R) : ACall Tryz.prog 10 [.d (encASchema p0), .d (.int .i64 p1), .d (.int .i64 p2), .d (.int .i64 p3)] (.d (.int .i64 R)) := by
 refine acall Tryz.func10 (by kernel_rfl) ?_
 unfold ref02_Coarse at hF
 conv => whnf
 obtain ⟨x14, hx14, hF⟩ := bindF hF
 refine callA (ref02_Finest_w _ _ _ hx14) ?_
 conv => whnf
 obtain ⟨x15, hx15, hF⟩ := bindF hF
 refine callA (ref02_in_w _ _ _ _ hx15) ?_
 conv => whnf
 refine brF hF ebF (fun hF => ?_) (fun hF => ?_)
 ·conv => whnf
  obtain rfl := Option.some.inj hF
  exact ⟨rtF⟩
 conv => whnf
 refine atF (f := encAColumn) hF ebF fun x20 hx20 hF => ?_
 conv => whnf
 refine brF hF ebF (fun hF => ?_) (fun hF => ?_)
 ·conv => whnf
  obtain ⟨x28, hx28, hF⟩ := bindF hF
  refine callA (ref02_Holds_w _ _ _ _ hx28) ?_
  conv => whnf
  refine brF hF ebF (fun hF => ?_) (fun hF => ?_)
  ·conv => whnf
   obtain rfl := Option.some.inj hF
   exact ⟨rtF⟩
  conv => whnf
  refine atF (f := encACodeList) hF ebF fun x34 hx34 hF => ?_
  conv => whnf
  obtain ⟨x38, hx38, hF⟩ := bindF hF
  refine callA (ref01_Up_w _ _ _ _ hx38) ?_
  conv => whnf
  obtain rfl := Option.some.inj hF
  exact ⟨rtF⟩
 conv => whnf
 refine brF hF ebF (fun hF => ?_) (fun hF => ?_)
 ·obtain ⟨x43, hx43, hF⟩ := bindF hF
  refine callA (ref02_in_w _ _ _ _ hx43) ?_
  conv => whnf
  refine brF hF ebF (fun hF => ?_) (fun hF => ?_)
  ·conv => whnf
   obtain rfl := Option.some.inj hF
   exact ⟨rtF⟩
  conv => whnf
  refine brF hF ebF (fun hF => ?_) (fun hF => ?_)
  ·conv => whnf
   obtain rfl := Option.some.inj hF
   exact ⟨rtF⟩
  conv => whnf
  refine brF hF ebF (fun hF => ?_) (fun hF => ?_)
  ·conv => whnf
   obtain rfl := Option.some.inj hF
   exact ⟨rtF⟩
  conv => whnf
  obtain ⟨x53, hx53, hF⟩ := bindF hF
  refine callA (ref02_Width_w _ _ _ hx53) ?_
  conv => whnf
  obtain ⟨x56, hx56, hF⟩ := bindF hF
  refine callA (ref02_Floor_w _ _ _ hx56) ?_
  conv => whnf
  obtain rfl := Option.some.inj hF
  exact ⟨rtF⟩
 refine brF hF ebF (fun hF => ?_) (fun hF => ?_)
 ·conv => whnf
  obtain rfl := Option.some.inj hF
  exact ⟨rtF⟩
 conv => whnf
 refine brF hF ebF (fun hF => ?_) (fun hF => ?_)
 ·conv => whnf
  obtain rfl := Option.some.inj hF
  exact ⟨rtF⟩
 conv => whnf
 obtain ⟨x53, hx53, hF⟩ := bindF hF
 refine callA (ref02_Width_w _ _ _ hx53) ?_
 conv => whnf
 obtain ⟨x56, hx56, hF⟩ := bindF hF
 refine callA (ref02_Floor_w _ _ _ hx56) ?_
 conv => whnf
 obtain rfl := Option.some.inj hF
 exact ⟨rtF⟩

theorem ref04_Find_w (p0 : ASource) (p1 : Int) (R : Int)  (hF : ref04_Find p0 p1 = some R) : ACall Tryz.prog 73 [.d (encASource p0), .d (.int .i64 p1)] (.d (.int .i64 R)) := by
 refine acall Tryz.func73 (by kernel_rfl) ?_
 unfold ref04_Find at hF
 conv => whnf
 obtain ⟨Φ1, hΦ1, hF⟩ := iterF hF
 refine loop {p : Nat × Int // Φ1 p.1 p.2 = some R} (fun p => mkS 32 [(1, .d (.int .i64 p1)), (2, .ptr 2 1 0), (5, .d (.int .i64 p.1.2))] [(2, .var [.d (lst 2 encACodeList p0.Schema.Lists), .d (lst 7 encAColumn p0.Schema.Columns), .d (lst 1 (lst 1 (D.int .i64)) p0.Rows), .d (lst 1 (D.int .i64) p0.Gone), .d (.int .i64 p0.Version)], 1)]) (fun p => p.1.1) ⟨(_, _), hF⟩ ?_ fun p => ?_
 ·refine leF ?_
  conv => whnf
  exact lfF
 obtain ⟨⟨k1, v5_1⟩, hF⟩ := p
 obtain ⟨k1, rfl, hF⟩ := hΦ1 _ _ hF
 simp only [ref04_Find_b1] at hF
 conv => whnf
 refine brF hF ebF (fun hF => ?_) (fun hF => ?_)
 ·conv => whnf
  refine atF (f := (lst 1 (D.int .i64))) hF ebF fun x16 hx16 hF => ?_
  conv => whnf
  refine brF hF ebF (fun hF => ?_) (fun hF => ?_)
  ·refine atF (f := (lst 1 (D.int .i64))) hF ebF fun x24 hx24 hF => ?_
   conv => whnf
   refine atF (f := (D.int .i64)) hF ebF fun x26 hx26 hF => ?_
   conv => whnf
   refine brF hF ebF (fun hF => ?_) (fun hF => ?_)
   ·conv => whnf
    obtain rfl := Option.some.inj hF
    exact ⟨rtF⟩
   conv => whnf
   refine ⟨⟨(_, _), hF⟩, ?_, Nat.lt_succ_self _⟩
   refine leF ?_
   conv => whnf
   exact lfF
  refine ⟨⟨(_, _), hF⟩, ?_, Nat.lt_succ_self _⟩
  refine leF ?_
  conv => whnf
  exact lfF
 conv => whnf
 obtain rfl := Option.some.inj hF
 exact ⟨rtF⟩

theorem ref02_Row_w (p0 : ASchema) (p1 : (List Int)) (R : Int)  (hF : ref02_Row p0 p1 = some R) : ACall Tryz.prog 132 [.d (encASchema p0), .d (lst 1 (D.int .i64) p1)] (.d (.int .i64 R)) := by
 refine acall Tryz.func132 (by kernel_rfl) ?_
 unfold ref02_Row at hF
 conv => whnf
 obtain ⟨x8, hx8, hF⟩ := bindF hF
 refine callA (ref02_Check_w _ _ hx8) ?_
 conv => whnf
 refine brF hF ebF (fun hF => ?_) (fun hF => ?_)
 ·conv => whnf
  obtain rfl := Option.some.inj hF
  exact ⟨rtF⟩
 conv => whnf
 refine brF hF ebF (fun hF => ?_) (fun hF => ?_)
 ·conv => whnf
  obtain rfl := Option.some.inj hF
  exact ⟨rtF⟩
 conv => whnf
 obtain ⟨Φ1, hΦ1, hF⟩ := iterF hF
 refine loop {p : Nat × Int // Φ1 p.1 p.2 = some R} (fun p => mkS 32 [(1, .d (lst 1 (D.int .i64) p1)), (2, .ptr 2 1 0), (6, .d (.int .i64 p.1.2))] [(2, .var [.d (lst 2 encACodeList p0.Lists), .d (lst 7 encAColumn p0.Columns)], 1)]) (fun p => p.1.1) ⟨(_, _), hF⟩ ?_ fun p => ?_
 ·refine leF ?_
  conv => whnf
  exact lfF
 obtain ⟨⟨k1, v6_1⟩, hF⟩ := p
 obtain ⟨k1, rfl, hF⟩ := hΦ1 _ _ hF
 simp only [ref02_Row_b1] at hF
 conv => whnf
 refine brF hF ebF (fun hF => ?_) (fun hF => ?_)
 ·conv => whnf
  refine ⟨⟨by decide +kernel, by kernel_rfl⟩, ?_⟩
  conv => whnf
  refine atF (f := (D.int .i64)) hF ebF fun x28 hx28 hF => ?_
  conv => whnf
  obtain ⟨x30, hx30, hF⟩ := bindF hF
  refine callA (ref02_Holds_w _ _ _ _ hx30) ?_
  conv => whnf
  refine brF hF ebF (fun hF => ?_) (fun hF => ?_)
  ·conv => whnf
   obtain rfl := Option.some.inj hF
   exact ⟨rtF⟩
  conv => whnf
  refine ⟨⟨(_, _), hF⟩, ?_, Nat.lt_succ_self _⟩
  refine leF ?_
  conv => whnf
  exact lfF
 conv => whnf
 obtain rfl := Option.some.inj hF
 exact ⟨rtF⟩

theorem ref04_Valid_w (p0 : ASource) (R : Bool)  (hF : ref04_Valid p0 = some R) : ACall Tryz.prog 70 [.d (encASource p0)] (.d (.bool R)) := by
 refine acallJ [8] Tryz.func70 (by kernel_rfl) ?_
 unfold ref04_Valid at hF
 conv => whnf
 obtain ⟨x7, hx7, hF⟩ := bindF hF
 refine callA (ref02_Check_w _ _ hx7) ?_
 conv => whnf
 refine brF hF ebF (fun hF => ?_) (fun hF => ?_)
 ·conv => whnf
  obtain rfl := Option.some.inj hF
  exact ⟨rtF⟩
 conv => whnf
 refine join {p : Unit // ref04_Valid_j1 p0 = some R} (fun p => mkS 118 [(1, .ptr 1 1 0)] [(1, .var [.d (lst 2 encACodeList p0.Schema.Lists), .d (lst 7 encAColumn p0.Schema.Columns), .d (lst 1 (lst 1 (D.int .i64)) p0.Rows), .d (lst 1 (D.int .i64) p0.Gone), .d (.int .i64 p0.Version)], 1)]) ?_ fun p => ?_
 ·conv => whnf
  obtain ⟨Φ1, hΦ1, hF⟩ := iterF hF
  refine loop {p : Nat × Int // Φ1 p.1 p.2 = some R} (fun p => mkS 118 [(1, .ptr 1 1 0), (3, .d (.int .i64 p.1.2))] [(1, .var [.d (lst 2 encACodeList p0.Schema.Lists), .d (lst 7 encAColumn p0.Schema.Columns), .d (lst 1 (lst 1 (D.int .i64)) p0.Rows), .d (lst 1 (D.int .i64) p0.Gone), .d (.int .i64 p0.Version)], 1)]) (fun p => p.1.1) ⟨(_, _), hF⟩ ?_ fun p => ?_
  ·refine leF ?_
   conv => whnf
   exact lfF
  obtain ⟨⟨k1, v3_1⟩, hF⟩ := p
  obtain ⟨k1, rfl, hF⟩ := hΦ1 _ _ hF
  simp only [ref04_Valid_b1] at hF
  conv => whnf
  refine brF hF ebF (fun hF => ?_) (fun hF => ?_)
  ·conv => whnf
   refine ⟨⟨by decide +kernel, by kernel_rfl⟩, ?_⟩
   conv => whnf
   refine atF (f := (lst 1 (D.int .i64))) hF ebF fun x43 hx43 hF => ?_
   conv => whnf
   obtain ⟨x45, hx45, hF⟩ := bindF hF
   refine callA (ref02_Row_w _ _ _ hx45) ?_
   conv => whnf
   refine brF hF ebF (fun hF => ?_) (fun hF => ?_)
   ·obtain rfl := Option.some.inj hF
    exact ⟨rtF⟩
   refine brF hF ebF (fun hF => ?_) (fun hF => ?_)
   ·refine atF (f := (lst 1 (D.int .i64))) hF ebF fun x54 hx54 hF => ?_
    conv => whnf
    refine atF (f := (D.int .i64)) hF ebF fun x56 hx56 hF => ?_
    conv => whnf
    refine atF (f := (lst 1 (D.int .i64))) hF ebF fun x62 hx62 hF => ?_
    conv => whnf
    refine atF (f := (D.int .i64)) hF ebF fun x64 hx64 hF => ?_
    conv => whnf
    refine brF hF ebF (fun hF => ?_) (fun hF => ?_)
    ·conv => whnf
     obtain rfl := Option.some.inj hF
     exact ⟨rtF⟩
    conv => whnf
    refine ⟨⟨(_, _), hF⟩, ?_, Nat.lt_succ_self _⟩
    refine leF ?_
    conv => whnf
    exact lfF
   refine ⟨⟨(_, _), hF⟩, ?_, Nat.lt_succ_self _⟩
   refine leF ?_
   conv => whnf
   exact lfF
  conv => whnf
  refine ⟨⟨(), hF⟩, ?_⟩
  refine leF ?_
  conv => whnf
  exact lfF
 obtain ⟨_, hF⟩ := p
 simp only [ref04_Valid_j1] at hF
 conv => whnf
 obtain ⟨Φ2, hΦ2, hF⟩ := iterF hF
 refine loop {p : Nat × Int // Φ2 p.1 p.2 = some R} (fun p => mkS 118 [(1, .ptr 1 1 0), (4, .d (.int .i64 p.1.2))] [(1, .var [.d (lst 2 encACodeList p0.Schema.Lists), .d (lst 7 encAColumn p0.Schema.Columns), .d (lst 1 (lst 1 (D.int .i64)) p0.Rows), .d (lst 1 (D.int .i64) p0.Gone), .d (.int .i64 p0.Version)], 1)]) (fun p => p.1.1) ⟨(_, _), hF⟩ ?_ fun p => ?_
 ·refine leF ?_
  conv => whnf
  exact lfF
 obtain ⟨⟨k2, v4_2⟩, hF⟩ := p
 obtain ⟨k2, rfl, hF⟩ := hΦ2 _ _ hF
 simp only [ref04_Valid_b2] at hF
 conv => whnf
 refine brF hF ebF (fun hF => ?_) (fun hF => ?_)
 ·conv => whnf
  refine ⟨⟨by decide +kernel, by kernel_rfl⟩, ?_⟩
  conv => whnf
  refine atF (f := (D.int .i64)) hF ebF fun x79 hx79 hF => ?_
  conv => whnf
  refine brF hF ebF (fun hF => ?_) (fun hF => ?_)
  ·obtain rfl := Option.some.inj hF
   exact ⟨rtF⟩
  refine atF (f := (D.int .i64)) hF ebF fun x86 hx86 hF => ?_
  conv => whnf
  refine brF hF ebF (fun hF => ?_) (fun hF => ?_)
  ·obtain rfl := Option.some.inj hF
   exact ⟨rtF⟩
  refine brF hF ebF (fun hF => ?_) (fun hF => ?_)
  ·refine atF (f := (D.int .i64)) hF ebF fun x97 hx97 hF => ?_
   conv => whnf
   refine atF (f := (D.int .i64)) hF ebF fun x103 hx103 hF => ?_
   conv => whnf
   refine brF hF ebF (fun hF => ?_) (fun hF => ?_)
   ·obtain rfl := Option.some.inj hF
    exact ⟨rtF⟩
   refine atF (f := (D.int .i64)) hF ebF fun x113 hx113 hF => ?_
   conv => whnf
   obtain ⟨x115, hx115, hF⟩ := bindF hF
   refine callA (ref04_Find_w _ _ _ hx115) ?_
   conv => whnf
   refine brF hF ebF (fun hF => ?_) (fun hF => ?_)
   ·conv => whnf
    obtain rfl := Option.some.inj hF
    exact ⟨rtF⟩
   conv => whnf
   refine ⟨⟨(_, _), hF⟩, ?_, Nat.lt_succ_self _⟩
   refine leF ?_
   conv => whnf
   exact lfF
  refine atF (f := (D.int .i64)) hF ebF fun x113 hx113 hF => ?_
  conv => whnf
  obtain ⟨x115, hx115, hF⟩ := bindF hF
  refine callA (ref04_Find_w _ _ _ hx115) ?_
  conv => whnf
  refine brF hF ebF (fun hF => ?_) (fun hF => ?_)
  ·conv => whnf
   obtain rfl := Option.some.inj hF
   exact ⟨rtF⟩
  conv => whnf
  refine ⟨⟨(_, _), hF⟩, ?_, Nat.lt_succ_self _⟩
  refine leF ?_
  conv => whnf
  exact lfF
 conv => whnf
 obtain rfl := Option.some.inj hF
 exact ⟨rtF⟩

theorem ref02_Pick_w (p0 : ASchema) (p1 : APick) (R : Int)  (hF : ref02_Pick p0 p1 = some R) : ACall Tryz.prog 153 [.d (encASchema p0), .d (encAPick p1)] (.d (.int .i64 R)) := by
 refine acall Tryz.func153 (by kernel_rfl) ?_
 unfold ref02_Pick at hF
 conv => whnf
 obtain ⟨x7, hx7, hF⟩ := bindF hF
 refine callA (ref02_Check_w _ _ hx7) ?_
 conv => whnf
 refine brF hF ebF (fun hF => ?_) (fun hF => ?_)
 ·conv => whnf
  obtain rfl := Option.some.inj hF
  exact ⟨rtF⟩
 conv => whnf
 refine brF hF ebF (fun hF => ?_) (fun hF => ?_)
 ·conv => whnf
  obtain rfl := Option.some.inj hF
  exact ⟨rtF⟩
 conv => whnf
 refine ⟨⟨by decide +kernel, by kernel_rfl⟩, ?_⟩
 conv => whnf
 obtain ⟨x27, hx27, hF⟩ := bindF hF
 refine callA (ref02_Finest_w _ _ _ hx27) ?_
 conv => whnf
 obtain ⟨x28, hx28, hF⟩ := bindF hF
 refine callA (ref02_in_w _ _ _ _ hx28) ?_
 conv => whnf
 refine brF hF ebF (fun hF => ?_) (fun hF => ?_)
 ·conv => whnf
  obtain rfl := Option.some.inj hF
  exact ⟨rtF⟩
 conv => whnf
 obtain rfl := Option.some.inj hF
 exact ⟨rtF⟩

theorem ref02_Picks_w (p0 : ASchema) (p1 : (List APick)) (R : Int)  (hF : ref02_Picks p0 p1 = some R) : ACall Tryz.prog 92 [.d (encASchema p0), .d (lst 2 encAPick p1)] (.d (.int .i64 R)) := by
 refine acall Tryz.func92 (by kernel_rfl) ?_
 unfold ref02_Picks at hF
 conv => whnf
 obtain ⟨x9, hx9, hF⟩ := bindF hF
 refine callA (ref02_Check_w _ _ hx9) ?_
 conv => whnf
 refine brF hF ebF (fun hF => ?_) (fun hF => ?_)
 ·conv => whnf
  obtain rfl := Option.some.inj hF
  exact ⟨rtF⟩
 conv => whnf
 obtain ⟨Φ1, hΦ1, hF⟩ := iterF hF
 refine loop {p : Nat × Int // Φ1 p.1 p.2 = some R} (fun p => mkS 44 [(1, .d (lst 2 encAPick p1)), (2, .ptr 2 1 0), (6, .d (.int .i64 p.1.2))] [(2, .var [.d (lst 2 encACodeList p0.Lists), .d (lst 7 encAColumn p0.Columns)], 1)]) (fun p => p.1.1) ⟨(_, _), hF⟩ ?_ fun p => ?_
 ·refine leF ?_
  conv => whnf
  exact lfF
 obtain ⟨⟨k1, v6_1⟩, hF⟩ := p
 obtain ⟨k1, rfl, hF⟩ := hΦ1 _ _ hF
 simp only [ref02_Picks_b1] at hF
 conv => whnf
 refine brF hF ebF (fun hF => ?_) (fun hF => ?_)
 ·conv => whnf
  refine ⟨⟨by decide +kernel, by kernel_rfl⟩, ?_⟩
  conv => whnf
  refine atF (f := encAPick) hF ebF fun x22 hx22 hF => ?_
  conv => whnf
  obtain ⟨x24, hx24, hF⟩ := bindF hF
  refine callA (ref02_Pick_w _ _ _ hx24) ?_
  conv => whnf
  refine brF hF ebF (fun hF => ?_) (fun hF => ?_)
  ·conv => whnf
   obtain rfl := Option.some.inj hF
   exact ⟨rtF⟩
  conv => whnf
  refine ⟨⟨by decide +kernel, by kernel_rfl⟩, ?_⟩
  conv => whnf
  refine brF hF ebF (fun hF => ?_) (fun hF => ?_)
  ·refine atF (f := encAPick) hF ebF fun x33 hx33 hF => ?_
   conv => whnf
   refine atF (f := encAPick) hF ebF fun x39 hx39 hF => ?_
   conv => whnf
   refine brF hF ebF (fun hF => ?_) (fun hF => ?_)
   ·conv => whnf
    obtain rfl := Option.some.inj hF
    exact ⟨rtF⟩
   conv => whnf
   refine ⟨⟨(_, _), hF⟩, ?_, Nat.lt_succ_self _⟩
   refine leF ?_
   conv => whnf
   exact lfF
  refine ⟨⟨(_, _), hF⟩, ?_, Nat.lt_succ_self _⟩
  refine leF ?_
  conv => whnf
  exact lfF
 conv => whnf
 obtain rfl := Option.some.inj hF
 exact ⟨rtF⟩

theorem ref05_count_ws (d : Nat) (self_ref05_count : (ACond → Int → Option Int)) (ih_ref05_count : ∀ (p0 : ACond) (p1 : Int) (R : Int) , self_ref05_count p0 p1 = some R → ACall Tryz.prog 156 [.d (opACond p0), .d (.int .i64 p1)] (.d (.int .i64 R))) (p0 : ACond) (p1 : Int) (R : Int)  (hF : ref05_count_s d self_ref05_count p0 p1 = some R) : ACall Tryz.prog 156 [.d (opACond p0), .d (.int .i64 p1)] (.d (.int .i64 R)) := by
 refine acall Tryz.func156 (by kernel_rfl) ?_
 unfold ref05_count_s at hF
 conv => whnf
 obtain ⟨Φ1, hΦ1, hF⟩ := iterF hF
 refine loop {p : Nat × (Int × Int) // Φ1 p.1 p.2 = some R} (fun p => mkS 31 [(1, .d (.int .i64 p1)), (2, .ptr 2 1 0), (5, .d (.int .i64 p.1.2.1)), (6, .d (.int .i64 p.1.2.2))] [(2, .var [.d (.int .i64 p0.Op), .d (.int .i64 p0.Column), .d (.int .i64 p0.Code), .d (.int .i64 p0.Low), .d (.int .i64 p0.High), .d (lst 6 encACond p0.Kids)], 1)]) (fun p => p.1.1) ⟨(_, (_, _)), hF⟩ ?_ fun p => ?_
 ·refine leF ?_
  conv => whnf
  exact lg0
 obtain ⟨⟨k1, ⟨v5_1, v6_1⟩⟩, hF⟩ := p
 obtain ⟨k1, rfl, hF⟩ := hΦ1 _ _ hF
 simp only [ref05_count_b1] at hF
 conv => whnf
 refine brF hF ebF (fun hF => ?_) (fun hF => ?_)
 ·conv => whnf
  refine atF (f := encACond) hF ebF fun x23 hx23 hF => ?_
  rw [encACond_op x23]
  conv => whnf
  obtain ⟨x28, hx28, hF⟩ := bindF hF
  first | refine callA (ih_ref05_count _ _ _ hx28) ?_ | (simp only [List.length_map]; refine callA (ih_ref05_count _ _ _ hx28) ?_)
  conv => whnf
  refine ⟨⟨(_, (_, _)), hF⟩, ?_, Nat.lt_succ_self _⟩
  refine leF ?_
  conv => whnf
  exact lg0
 conv => whnf
 obtain rfl := Option.some.inj hF
 exact ⟨rg0⟩

theorem ref05_count_wr : ∀ d : Nat, (∀ (p0 : ACond) (p1 : Int) (R : Int) , ref05_count d p0 p1 = some R → ACall Tryz.prog 156 [.d (opACond p0), .d (.int .i64 p1)] (.d (.int .i64 R)))
  | 0 => by
   refine (by intros; rename_i h; cases h)
  | d + 1 => by
   have ih := ref05_count_wr d
   exact ref05_count_ws d _ ih

theorem ref05_count_w (d : Nat) : ∀ (p0 : ACond) (p1 : Int) (R : Int) , ref05_count d p0 p1 = some R → ACall Tryz.prog 156 [.d (opACond p0), .d (.int .i64 p1)] (.d (.int .i64 R)) := ref05_count_wr d

theorem ref05_depth_ws (d : Nat) (self_ref05_depth : (ACond → Option Int)) (ih_ref05_depth : ∀ (p0 : ACond) (R : Int) , self_ref05_depth p0 = some R → ACall Tryz.prog 157 [.d (opACond p0)] (.d (.int .i64 R))) (p0 : ACond) (R : Int)  (hF : ref05_depth_s d self_ref05_depth p0 = some R) : ACall Tryz.prog 157 [.d (opACond p0)] (.d (.int .i64 R)) := by
 refine acall Tryz.func157 (by kernel_rfl) ?_
 unfold ref05_depth_s at hF
 conv => whnf
 obtain ⟨Φ1, hΦ1, hF⟩ := iterF hF
 refine loop {p : Nat × (Int × Int) // Φ1 p.1 p.2 = some R} (fun p => mkS 22 [(1, .ptr 1 1 0), (3, .d (.int .i64 p.1.2.1)), (4, .d (.int .i64 p.1.2.2))] [(1, .var [.d (.int .i64 p0.Op), .d (.int .i64 p0.Column), .d (.int .i64 p0.Code), .d (.int .i64 p0.Low), .d (.int .i64 p0.High), .d (lst 6 encACond p0.Kids)], 1)]) (fun p => p.1.1) ⟨(_, (_, _)), hF⟩ ?_ fun p => ?_
 ·refine leF ?_
  conv => whnf
  exact lg0
 obtain ⟨⟨k1, ⟨v3_1, v4_1⟩⟩, hF⟩ := p
 obtain ⟨k1, rfl, hF⟩ := hΦ1 _ _ hF
 simp only [ref05_depth_b1] at hF
 conv => whnf
 refine brF hF ebF (fun hF => ?_) (fun hF => ?_)
 ·conv => whnf
  refine atF (f := encACond) hF ebF fun x16 hx16 hF => ?_
  rw [encACond_op x16]
  conv => whnf
  obtain ⟨x18, hx18, hF⟩ := bindF hF
  first | refine callA (ih_ref05_depth _ _ hx18) ?_ | (simp only [List.length_map]; refine callA (ih_ref05_depth _ _ hx18) ?_)
  conv => whnf
  refine ⟨⟨(_, (_, _)), hF⟩, ?_, Nat.lt_succ_self _⟩
  refine leF ?_
  conv => whnf
  exact lg0
 conv => whnf
 obtain rfl := Option.some.inj hF
 exact ⟨rg0⟩

theorem ref05_depth_wr : ∀ d : Nat, (∀ (p0 : ACond) (R : Int) , ref05_depth d p0 = some R → ACall Tryz.prog 157 [.d (opACond p0)] (.d (.int .i64 R)))
  | 0 => by
   refine (by intros; rename_i h; cases h)
  | d + 1 => by
   have ih := ref05_depth_wr d
   exact ref05_depth_ws d _ ih

theorem ref05_depth_w (d : Nat) : ∀ (p0 : ACond) (R : Int) , ref05_depth d p0 = some R → ACall Tryz.prog 157 [.d (opACond p0)] (.d (.int .i64 R)) := ref05_depth_wr d

theorem ref05_is_w (p0 : ASchema) (p1 : Int) (p2 : Int) (R : Bool)  (hF : ref05_is p0 p1 p2 = some R) : ACall Tryz.prog 227 [.d (encASchema p0), .d (.int .i64 p1), .d (.int .i64 p2)] (.d (.bool R)) := by
 refine acall Tryz.func227 (by kernel_rfl) ?_
 unfold ref05_is at hF
 conv => whnf
 refine brF hF ebF (fun hF => ?_) (fun hF => ?_)
 ·refine atF (f := encAColumn) hF ebF fun x20 hx20 hF => ?_
  conv => whnf
  obtain rfl := Option.some.inj hF
  exact ⟨rtF⟩
 obtain rfl := Option.some.inj hF
 exact ⟨rtF⟩
end Go.Proofs.YtejfnieiaecpkaaGreatDoor.P
