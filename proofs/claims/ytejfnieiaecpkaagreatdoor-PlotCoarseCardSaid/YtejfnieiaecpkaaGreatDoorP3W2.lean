/-
 Printed by wip/tools/mkw.py: walks: ref01_Name ref01_leaf ref01_Check ref01_Levels ref01_At ref02_Leaves draw_Codes_Value draw_Codes_Row draw_Codes_Source ref02_in ref02_measure ref02_column ref02_Check ref02_Finest draw_All ref01_Level
-/
import Derived.Test.YtejfnieiaecpkaaGreatDoorChecked
import Derived.Test.YtejfnieiaecpkaaGreatDoorP3F
import Derived.Test.YtejfnieiaecpkaaGreatDoorP3A
import Derived.Test.YtejfnieiaecpkaaGreatDoorP3HW
import Derived.Test.YtejfnieiaecpkaaGreatDoorP3W1
set_option linter.unusedSimpArgs false
namespace Go.Proofs.YtejfnieiaecpkaaGreatDoor.P
open Go.Abs Go.Proofs
set_option maxRecDepth 100000
set_option maxHeartbeats 4000000
set_option linter.unusedVariables false

theorem ref01_Name_w (p0 : ByteArray) (R : Bool)  (hF : ref01_Name p0 = some R) : ACall Tryz.prog 91 [.d (.str p0)] (.d (.bool R)) := by
 refine acallJ [3, 8] Tryz.func91 (by kernel_rfl) ?_
 unfold ref01_Name at hF
 conv => whnf
 refine join {p : Unit // ref01_Name_j1 p0 = some R} (fun p => mkS 70 [(0, .d (.str p0))] []) ?_ fun p => ?_
 ·conv => whnf
  refine brF hF ebF (fun hF => ?_) (fun hF => ?_)
  ·obtain rfl := Option.some.inj hF
   exact ⟨rtF⟩
  obtain ⟨hr, hF⟩ := gdF hF
  refine ⟨of_decide_eq_true hr, ?_⟩
  conv => whnf
  refine brF hF ebF (fun hF => ?_) (fun hF => ?_)
  ·obtain rfl := Option.some.inj hF
   exact ⟨rtF⟩
  obtain ⟨hr, hF⟩ := gdF hF
  refine ⟨of_decide_eq_true hr, ?_⟩
  conv => whnf
  refine brF hF ebF (fun hF => ?_) (fun hF => ?_)
  ·conv => whnf
   obtain rfl := Option.some.inj hF
   exact ⟨rtF⟩
  conv => whnf
  refine ⟨⟨(), hF⟩, ?_⟩
  refine leF ?_
  conv => whnf
  exact lfF
 obtain ⟨_, hF⟩ := p
 simp only [ref01_Name_j1] at hF
 conv => whnf
 refine join {p : Unit // ref01_Name_j2 p0 = some R} (fun p => mkS 70 [(0, .d (.str p0))] []) ?_ fun p => ?_
 ·conv => whnf
  obtain ⟨Φ1, hΦ1, hF⟩ := iterF hF
  refine loop {p : Nat × Int // Φ1 p.1 p.2 = some R} (fun p => mkS 70 [(0, .d (.str p0)), (3, .d (.int .i64 p.1.2))] []) (fun p => p.1.1) ⟨(_, _), hF⟩ ?_ fun p => ?_
  ·refine leF ?_
   conv => whnf
   exact lfF
  obtain ⟨⟨k1, v3_1⟩, hF⟩ := p
  obtain ⟨k1, rfl, hF⟩ := hΦ1 _ _ hF
  simp only [ref01_Name_b1] at hF
  conv => whnf
  refine brF hF ebF (fun hF => ?_) (fun hF => ?_)
  ·conv => whnf
   obtain ⟨hr, hF⟩ := gdF hF
   refine ⟨of_decide_eq_true hr, ?_⟩
   conv => whnf
   refine brF hF ebF (fun hF => ?_) (fun hF => ?_)
   ·obtain ⟨hr, hF⟩ := gdF hF
    refine ⟨of_decide_eq_true hr, ?_⟩
    conv => whnf
    refine brF hF ebF (fun hF => ?_) (fun hF => ?_)
    ·refine ⟨⟨(_, _), hF⟩, ?_, Nat.lt_succ_self _⟩
     refine leF ?_
     conv => whnf
     exact lfF
    obtain ⟨hr, hF⟩ := gdF hF
    refine ⟨of_decide_eq_true hr, ?_⟩
    conv => whnf
    refine brF hF ebF (fun hF => ?_) (fun hF => ?_)
    ·obtain ⟨hr, hF⟩ := gdF hF
     refine ⟨of_decide_eq_true hr, ?_⟩
     conv => whnf
     refine brF hF ebF (fun hF => ?_) (fun hF => ?_)
     ·refine ⟨⟨(_, _), hF⟩, ?_, Nat.lt_succ_self _⟩
      refine leF ?_
      conv => whnf
      exact lfF
     obtain ⟨hr, hF⟩ := gdF hF
     refine ⟨of_decide_eq_true hr, ?_⟩
     conv => whnf
     refine brF hF ebF (fun hF => ?_) (fun hF => ?_)
     ·conv => whnf
      obtain rfl := Option.some.inj hF
      exact ⟨rtF⟩
     conv => whnf
     refine ⟨⟨(_, _), hF⟩, ?_, Nat.lt_succ_self _⟩
     refine leF ?_
     conv => whnf
     exact lfF
    obtain ⟨hr, hF⟩ := gdF hF
    refine ⟨of_decide_eq_true hr, ?_⟩
    conv => whnf
    refine brF hF ebF (fun hF => ?_) (fun hF => ?_)
    ·conv => whnf
     obtain rfl := Option.some.inj hF
     exact ⟨rtF⟩
    conv => whnf
    refine ⟨⟨(_, _), hF⟩, ?_, Nat.lt_succ_self _⟩
    refine leF ?_
    conv => whnf
    exact lfF
   obtain ⟨hr, hF⟩ := gdF hF
   refine ⟨of_decide_eq_true hr, ?_⟩
   conv => whnf
   refine brF hF ebF (fun hF => ?_) (fun hF => ?_)
   ·obtain ⟨hr, hF⟩ := gdF hF
    refine ⟨of_decide_eq_true hr, ?_⟩
    conv => whnf
    refine brF hF ebF (fun hF => ?_) (fun hF => ?_)
    ·refine ⟨⟨(_, _), hF⟩, ?_, Nat.lt_succ_self _⟩
     refine leF ?_
     conv => whnf
     exact lfF
    obtain ⟨hr, hF⟩ := gdF hF
    refine ⟨of_decide_eq_true hr, ?_⟩
    conv => whnf
    refine brF hF ebF (fun hF => ?_) (fun hF => ?_)
    ·conv => whnf
     obtain rfl := Option.some.inj hF
     exact ⟨rtF⟩
    conv => whnf
    refine ⟨⟨(_, _), hF⟩, ?_, Nat.lt_succ_self _⟩
    refine leF ?_
    conv => whnf
    exact lfF
   obtain ⟨hr, hF⟩ := gdF hF
   refine ⟨of_decide_eq_true hr, ?_⟩
   conv => whnf
   refine brF hF ebF (fun hF => ?_) (fun hF => ?_)
   ·conv => whnf
    obtain rfl := Option.some.inj hF
    exact ⟨rtF⟩
   conv => whnf
   refine ⟨⟨(_, _), hF⟩, ?_, Nat.lt_succ_self _⟩
   refine leF ?_
   conv => whnf
   exact lfF
  conv => whnf
  refine ⟨⟨(), hF⟩, ?_⟩
  refine leF ?_
  conv => whnf
  exact lfF
 obtain ⟨_, hF⟩ := p
 simp only [ref01_Name_j2] at hF
 conv => whnf
 refine brF hF ebF (fun hF => ?_) (fun hF => ?_)
 ·conv => whnf
  refine brF hF ebF (fun hF => ?_) (fun hF => ?_)
  ·conv => whnf
   obtain rfl := Option.some.inj hF
   exact ⟨rtF⟩
  conv => whnf
  obtain rfl := Option.some.inj hF
  exact ⟨rtF⟩
 conv => whnf
 refine brF hF ebF (fun hF => ?_) (fun hF => ?_)
 ·conv => whnf
  refine brF hF ebF (fun hF => ?_) (fun hF => ?_)
  ·conv => whnf
   obtain rfl := Option.some.inj hF
   exact ⟨rtF⟩
  conv => whnf
  obtain rfl := Option.some.inj hF
  exact ⟨rtF⟩
 conv => whnf
 refine brF hF ebF (fun hF => ?_) (fun hF => ?_)
 ·conv => whnf
  refine brF hF ebF (fun hF => ?_) (fun hF => ?_)
  ·conv => whnf
   obtain rfl := Option.some.inj hF
   exact ⟨rtF⟩
  conv => whnf
  obtain rfl := Option.some.inj hF
  exact ⟨rtF⟩
 conv => whnf
 refine brF hF ebF (fun hF => ?_) (fun hF => ?_)
 ·conv => whnf
  refine brF hF ebF (fun hF => ?_) (fun hF => ?_)
  ·conv => whnf
   obtain rfl := Option.some.inj hF
   exact ⟨rtF⟩
  conv => whnf
  obtain rfl := Option.some.inj hF
  exact ⟨rtF⟩
 conv => whnf
 refine brF hF ebF (fun hF => ?_) (fun hF => ?_)
 ·conv => whnf
  refine brF hF ebF (fun hF => ?_) (fun hF => ?_)
  ·conv => whnf
   obtain rfl := Option.some.inj hF
   exact ⟨rtF⟩
  conv => whnf
  obtain rfl := Option.some.inj hF
  exact ⟨rtF⟩
 conv => whnf
 refine brF hF ebF (fun hF => ?_) (fun hF => ?_)
 ·conv => whnf
  refine brF hF ebF (fun hF => ?_) (fun hF => ?_)
  ·conv => whnf
   obtain rfl := Option.some.inj hF
   exact ⟨rtF⟩
  conv => whnf
  obtain rfl := Option.some.inj hF
  exact ⟨rtF⟩
 conv => whnf
 refine brF hF ebF (fun hF => ?_) (fun hF => ?_)
 ·conv => whnf
  refine brF hF ebF (fun hF => ?_) (fun hF => ?_)
  ·conv => whnf
   obtain rfl := Option.some.inj hF
   exact ⟨rtF⟩
  conv => whnf
  obtain rfl := Option.some.inj hF
  exact ⟨rtF⟩
 conv => whnf
 refine brF hF ebF (fun hF => ?_) (fun hF => ?_)
 ·conv => whnf
  refine brF hF ebF (fun hF => ?_) (fun hF => ?_)
  ·conv => whnf
   obtain rfl := Option.some.inj hF
   exact ⟨rtF⟩
  conv => whnf
  obtain rfl := Option.some.inj hF
  exact ⟨rtF⟩
 conv => whnf
 refine brF hF ebF (fun hF => ?_) (fun hF => ?_)
 ·conv => whnf
  refine brF hF ebF (fun hF => ?_) (fun hF => ?_)
  ·conv => whnf
   obtain rfl := Option.some.inj hF
   exact ⟨rtF⟩
  conv => whnf
  obtain rfl := Option.some.inj hF
  exact ⟨rtF⟩
 conv => whnf
 refine brF hF ebF (fun hF => ?_) (fun hF => ?_)
 ·conv => whnf
  refine brF hF ebF (fun hF => ?_) (fun hF => ?_)
  ·conv => whnf
   obtain rfl := Option.some.inj hF
   exact ⟨rtF⟩
  conv => whnf
  obtain rfl := Option.some.inj hF
  exact ⟨rtF⟩
 conv => whnf
 refine brF hF ebF (fun hF => ?_) (fun hF => ?_)
 ·conv => whnf
  obtain rfl := Option.some.inj hF
  exact ⟨rtF⟩
 conv => whnf
 obtain rfl := Option.some.inj hF
 exact ⟨rtF⟩

theorem ref01_leaf_w (p0 : ACodeList) (p1 : Int) (R : Bool)  (hF : ref01_leaf p0 p1 = some R) : ACall Tryz.prog 139 [.d (encACodeList p0), .d (.int .i64 p1)] (.d (.bool R)) := by
 refine acall Tryz.func139 (by kernel_rfl) ?_
 unfold ref01_leaf at hF
 conv => whnf
 obtain ⟨Φ1, hΦ1, hF⟩ := iterF hF
 refine loop {p : Nat × Int // Φ1 p.1 p.2 = some R} (fun p => mkS 21 [(1, .d (.int .i64 p1)), (2, .ptr 2 1 0), (5, .d (.int .i64 p.1.2))] [(2, .var [.d (.str p0.Name), .d (lst 2 encACode p0.Codes)], 1)]) (fun p => p.1.1) ⟨(_, _), hF⟩ ?_ fun p => ?_
 ·refine leF ?_
  conv => whnf
  exact lfF
 obtain ⟨⟨k1, v5_1⟩, hF⟩ := p
 obtain ⟨k1, rfl, hF⟩ := hΦ1 _ _ hF
 simp only [ref01_leaf_b1] at hF
 conv => whnf
 refine brF hF ebF (fun hF => ?_) (fun hF => ?_)
 ·conv => whnf
  refine atF (f := encACode) hF ebF fun x16 hx16 hF => ?_
  conv => whnf
  refine brF hF ebF (fun hF => ?_) (fun hF => ?_)
  ·conv => whnf
   obtain rfl := Option.some.inj hF
   exact ⟨rtF⟩
  conv => whnf
  refine ⟨⟨(_, _), hF⟩, ?_, Nat.lt_succ_self _⟩
  refine leF ?_
  conv => whnf
  exact lfF
 conv => whnf
 obtain rfl := Option.some.inj hF
 exact ⟨rtF⟩

theorem ref01_Check_w (p0 : ACodeList) (R : Int)  (hF : ref01_Check p0 = some R) : ACall Tryz.prog 78 [.d (encACodeList p0)] (.d (.int .i64 R)) := by
 refine acallJ [20] Tryz.func78 (by kernel_rfl) ?_
 unfold ref01_Check at hF
 conv => whnf
 obtain ⟨x10, hx10, hF⟩ := bindF hF
 refine callA (ref01_Name_w _ _ hx10) ?_
 conv => whnf
 refine brF hF ebF (fun hF => ?_) (fun hF => ?_)
 ·conv => whnf
  obtain rfl := Option.some.inj hF
  exact ⟨rtF⟩
 conv => whnf
 refine brF hF ebF (fun hF => ?_) (fun hF => ?_)
 ·conv => whnf
  obtain rfl := Option.some.inj hF
  exact ⟨rtF⟩
 conv => whnf
 refine brF hF ebF (fun hF => ?_) (fun hF => ?_)
 ·conv => whnf
  obtain rfl := Option.some.inj hF
  exact ⟨rtF⟩
 conv => whnf
 refine join {p : Unit // ref01_Check_j1 p0 = some R} (fun p => mkS 100 [(1, .ptr 1 1 0)] [(1, .var [.d (.str p0.Name), .d (lst 2 encACode p0.Codes)], 1)]) ?_ fun p => ?_
 ·conv => whnf
  obtain ⟨Φ1, hΦ1, hF⟩ := iterF hF
  refine loop {p : Nat × Int // Φ1 p.1 p.2 = some R} (fun p => mkS 100 [(1, .ptr 1 1 0), (3, .d (.int .i64 p.1.2))] [(1, .var [.d (.str p0.Name), .d (lst 2 encACode p0.Codes)], 1)]) (fun p => p.1.1) ⟨(_, _), hF⟩ ?_ fun p => ?_
  ·refine leF ?_
   conv => whnf
   exact lfF
  obtain ⟨⟨k1, v3_1⟩, hF⟩ := p
  obtain ⟨k1, rfl, hF⟩ := hΦ1 _ _ hF
  simp only [ref01_Check_b1] at hF
  conv => whnf
  refine brF hF ebF (fun hF => ?_) (fun hF => ?_)
  ·conv => whnf
   refine atF (f := encACode) hF ebF fun x30 hx30 hF => ?_
   conv => whnf
   obtain ⟨x33, hx33, hF⟩ := bindF hF
   refine callA (ref01_Name_w _ _ hx33) ?_
   conv => whnf
   refine brF hF ebF (fun hF => ?_) (fun hF => ?_)
   ·conv => whnf
    obtain rfl := Option.some.inj hF
    exact ⟨rtF⟩
   conv => whnf
   obtain ⟨Φ2, hΦ2, hF⟩ := iterF hF
   refine loop {p : Nat × Int // Φ2 p.1 p.2 = some R} (fun p => mkS 100 [(1, .ptr 1 1 0), (3, .d (.int .i64 v3_1)), (4, .d (.int .i64 p.1.2))] [(1, .var [.d (.str p0.Name), .d (lst 2 encACode p0.Codes)], 1)]) (fun p => p.1.1) ⟨(_, _), hF⟩ ?_ fun p => ?_
   ·refine leF ?_
    conv => whnf
    exact lfF
   obtain ⟨⟨k2, v4_2⟩, hF⟩ := p
   obtain ⟨k2, rfl, hF⟩ := hΦ2 _ _ hF
   simp only [ref01_Check_b2] at hF
   conv => whnf
   refine brF hF ebF (fun hF => ?_) (fun hF => ?_)
   ·conv => whnf
    refine ⟨⟨by decide +kernel, by kernel_rfl⟩, ?_⟩
    conv => whnf
    refine atF (f := encACode) hF ebF fun x43 hx43 hF => ?_
    conv => whnf
    refine atF (f := encACode) hF ebF fun x49 hx49 hF => ?_
    conv => whnf
    refine brF hF ebF (fun hF => ?_) (fun hF => ?_)
    ·conv => whnf
     obtain rfl := Option.some.inj hF
     exact ⟨rtF⟩
    conv => whnf
    refine ⟨⟨(_, _), hF⟩, ?_, Nat.lt_succ_self _⟩
    refine leF ?_
    conv => whnf
    exact lfF
   conv => whnf
   try simp only [ref01_Check_k1] at hF
   refine atF (f := encACode) hF ebF fun x56 hx56 hF => ?_
   conv => whnf
   refine brF hF ebF (fun hF => ?_) (fun hF => ?_)
   ·conv => whnf
    obtain rfl := Option.some.inj hF
    exact ⟨rtF⟩
   conv => whnf
   refine ⟨⟨(_, _), hF⟩, ?_, Nat.lt_succ_self _⟩
   refine leF ?_
   conv => whnf
   exact lfF
  conv => whnf
  try simp only [ref01_Check_k1] at hF
  refine ⟨⟨(), hF⟩, ?_⟩
  refine leF ?_
  conv => whnf
  exact lfF
 obtain ⟨_, hF⟩ := p
 simp only [ref01_Check_j1] at hF
 conv => whnf
 obtain ⟨Φ3, hΦ3, hF⟩ := iterF hF
 refine loop {p : Nat × (Int × Int) // Φ3 p.1 p.2 = some R} (fun p => mkS 100 [(1, .ptr 1 1 0), (6, .d (.int .i64 p.1.2.1)), (7, .d (.int .i64 p.1.2.2))] [(1, .var [.d (.str p0.Name), .d (lst 2 encACode p0.Codes)], 1)]) (fun p => p.1.1) ⟨(_, (_, _)), hF⟩ ?_ fun p => ?_
 ·refine leF ?_
  conv => whnf
  exact lfF
 obtain ⟨⟨k3, ⟨v6_3, v7_3⟩⟩, hF⟩ := p
 obtain ⟨k3, rfl, hF⟩ := hΦ3 _ _ hF
 simp only [ref01_Check_b3] at hF
 conv => whnf
 refine brF hF ebF (fun hF => ?_) (fun hF => ?_)
 ·conv => whnf
  obtain ⟨x87, hx87, hF⟩ := bindF hF
  refine callA (ref01_leaf_w _ _ _ hx87) ?_
  conv => whnf
  refine brF hF ebF (fun hF => ?_) (fun hF => ?_)
  ·conv => whnf
   refine brF hF ebF (fun hF => ?_) (fun hF => ?_)
   ·obtain ⟨x93, hx93, hF⟩ := bindF hF
    refine callA (ref01_depth_w _ _ _ hx93) ?_
    conv => whnf
    refine brF hF ebF (fun hF => ?_) (fun hF => ?_)
    ·conv => whnf
     obtain rfl := Option.some.inj hF
     exact ⟨rtF⟩
    conv => whnf
    obtain ⟨x99, hx99, hF⟩ := bindF hF
    refine callA (ref01_depth_w _ _ _ hx99) ?_
    conv => whnf
    refine ⟨⟨(_, (_, _)), hF⟩, ?_, Nat.lt_succ_self _⟩
    refine leF ?_
    conv => whnf
    exact lfF
   obtain ⟨x99, hx99, hF⟩ := bindF hF
   refine callA (ref01_depth_w _ _ _ hx99) ?_
   conv => whnf
   refine ⟨⟨(_, (_, _)), hF⟩, ?_, Nat.lt_succ_self _⟩
   refine leF ?_
   conv => whnf
   exact lfF
  conv => whnf
  refine ⟨⟨(_, (_, _)), hF⟩, ?_, Nat.lt_succ_self _⟩
  refine leF ?_
  conv => whnf
  exact lfF
 conv => whnf
 try simp only [ref01_Check_k1] at hF
 obtain rfl := Option.some.inj hF
 exact ⟨rtF⟩

theorem ref01_Levels_w (p0 : ACodeList) (R : Int)  (hF : ref01_Levels p0 = some R) : ACall Tryz.prog 76 [.d (encACodeList p0)] (.d (.int .i64 R)) := by
 refine acall Tryz.func76 (by kernel_rfl) ?_
 unfold ref01_Levels at hF
 conv => whnf
 obtain ⟨x4, hx4, hF⟩ := bindF hF
 refine callA (ref01_Check_w _ _ hx4) ?_
 conv => whnf
 refine brF hF ebF (fun hF => ?_) (fun hF => ?_)
 ·conv => whnf
  obtain rfl := Option.some.inj hF
  exact ⟨rtF⟩
 conv => whnf
 obtain ⟨x11, hx11, hF⟩ := bindF hF
 first | refine callA (ref01_depth_w _ _ _ hx11) ?_ | (simp only [List.length_map]; refine callA (ref01_depth_w _ _ _ hx11) ?_)
 conv => whnf
 obtain rfl := Option.some.inj hF
 exact ⟨rtF⟩

theorem ref01_At_w (p0 : ACodeList) (p1 : Int) (R : (List Int))  (hF : ref01_At p0 p1 = some R) : ACall Tryz.prog 226 [.d (encACodeList p0), .d (.int .i64 p1)] (.d (lst 1 (D.int .i64) R)) := by
 refine acall Tryz.func226 (by kernel_rfl) ?_
 unfold ref01_At at hF
 conv => whnf
 obtain ⟨x8, hx8, hF⟩ := bindF hF
 refine callA (ref01_Check_w _ _ hx8) ?_
 conv => whnf
 refine brF hF ebF (fun hF => ?_) (fun hF => ?_)
 ·conv => whnf
  obtain rfl := Option.some.inj hF
  refine ⟨.inl ?_⟩
  conv => whnf
  exact ⟨rtF⟩
 conv => whnf
 obtain ⟨Φ1, hΦ1, hF⟩ := iterF hF
 refine loop {p : Nat × (Int × (List Int)) // Φ1 p.1 p.2 = some R} (fun p => mkS 27 [(1, .d (.int .i64 p1)), (2, .ptr 2 1 0), (5, .sl 5 1), (6, .d (.int .i64 p.1.2.1))] [(2, .var [.d (.str p0.Name), .d (lst 2 encACode p0.Codes)], 1), (5, .row 1 3 (List.map (D.int .i64) p.1.2.2), 1)]) (fun p => p.1.1) ⟨(_, (_, _)), hF⟩ ?_ fun p => ?_
 ·refine leF ?_
  conv => whnf
  exact lfF
 obtain ⟨⟨k1, ⟨v6_1, b5_1⟩⟩, hF⟩ := p
 obtain ⟨k1, rfl, hF⟩ := hΦ1 _ _ hF
 simp only [ref01_At_b1] at hF
 conv => whnf
 refine brF hF ebF (fun hF => ?_) (fun hF => ?_)
 ·conv => whnf
  obtain ⟨x19, hx19, hF⟩ := bindF hF
  refine callA (ref01_depth_w _ _ _ hx19) ?_
  conv => whnf
  refine brF hF ebF (fun hF => ?_) (fun hF => ?_)
  ·conv => whnf
   obtain ⟨hr, hF⟩ := gdF hF
   refine ⟨by (simp only [List.length_map]; exact rm_fits hr (of_decide_eq_true (by kernel_rfl)) (.inr (by kernel_rfl))), ?_⟩
   try rw [snocI]
   conv => whnf
   refine ⟨⟨(_, (_, _)), hF⟩, ?_, Nat.lt_succ_self _⟩
   refine leF ?_
   conv => whnf
   exact lfF
  conv => whnf
  refine ⟨⟨(_, (_, _)), hF⟩, ?_, Nat.lt_succ_self _⟩
  refine leF ?_
  conv => whnf
  exact lfF
 conv => whnf
 obtain rfl := Option.some.inj hF
 refine ⟨.inl ?_⟩
 conv => whnf
 exact ⟨rtF⟩

theorem ref02_Leaves_w (p0 : ASchema) (p1 : Int) (R : (List Int))  (hF : ref02_Leaves p0 p1 = some R) : ACall Tryz.prog 154 [.d (encASchema p0), .d (.int .i64 p1)] (.d (lst 1 (D.int .i64) R)) := by
 refine acall Tryz.func154 (by kernel_rfl) ?_
 unfold ref02_Leaves at hF
 conv => whnf
 refine ⟨⟨by decide +kernel, by kernel_rfl⟩, ?_⟩
 conv => whnf
 refine atF (f := encAColumn) hF ebF fun x11 hx11 hF => ?_
 conv => whnf
 refine atF (f := encACodeList) hF ebF fun x14 hx14 hF => ?_
 conv => whnf
 refine ⟨⟨by decide +kernel, by kernel_rfl⟩, ?_⟩
 conv => whnf
 obtain ⟨x18, hx18, hF⟩ := bindF hF
 refine callA (ref01_Levels_w _ _ hx18) ?_
 conv => whnf
 obtain ⟨x20, hx20, hF⟩ := bindF hF
 refine callA (ref01_At_w _ _ _ hx20) ?_
 conv => whnf
 obtain rfl := Option.some.inj hF
 exact ⟨rtF⟩

theorem draw_Codes_Value_w (p0 : DrawCodes) (p1 : ASchema) (p2 : Int) (R : (Int × DrawCodes))  (hF : draw_Codes_Value p0 p1 p2 = some R) : MCall Tryz.prog 131 [.optr [(lst 1 (D.int .u8) p0.f_l), (.int .i64 p0.f_at)], .d (encASchema p1), .d (.int .i64 p2)] [.optr [(lst 1 (D.int .u8) R.2.f_l), (.int .i64 R.2.f_at)], .any, .any] (.d (.int .i64 R.1)) := by
 refine mcall Tryz.func131 (by kernel_rfl) rfl ?_ ?_
 ·intro i x y hx hy
  match i, hx, hy with
  | 0, hx, hy => simp at hx hy; subst hx; subst hy; exact ⟨_, rfl, rfl⟩
  | 1, hx, hy => simp at hx hy; subst hx; subst hy; trivial
  | 2, hx, hy => simp at hx hy; subst hx; subst hy; trivial
  | i + 3, hx, hy => simp at hx
 unfold draw_Codes_Value at hF
 conv => whnf
 refine atF (f := encAColumn) hF ebF fun x12 hx12 hF => ?_
 conv => whnf
 refine brF hF ebF (fun hF => ?_) (fun hF => ?_)
 ·conv => whnf
  obtain ⟨x19, hx19, hF⟩ := bindF hF
  refine callM (draw_Codes_Range_w _ _ _ _ hx19) ?_
  conv => whnf
  obtain rfl := Option.some.inj hF
  refine ⟨by first | rfl | (simp only [List.length_map]; rfl), ?_⟩
  conv => whnf
  exact ⟨rtF⟩
 conv => whnf
 refine brF hF ebF (fun hF => ?_) (fun hF => ?_)
 ·conv => whnf
  obtain ⟨x24, hx24, hF⟩ := bindF hF
  refine callA (ref02_Leaves_w _ _ _ hx24) ?_
  conv => whnf
  obtain ⟨x29, hx29, hF⟩ := bindF hF
  first | refine callM (draw_Codes_Next_w _ _ _ hx29) ?_ | (simp only [List.length_map]; refine callM (draw_Codes_Next_w _ _ _ hx29) ?_)
  conv => whnf
  refine atF (f := (D.int .i64)) hF ebF fun x30 hx30 hF => ?_
  conv => whnf
  obtain rfl := Option.some.inj hF
  refine ⟨by first | rfl | (simp only [List.length_map]; rfl), ?_⟩
  conv => whnf
  exact ⟨rtF⟩
 conv => whnf
 refine brF hF ebF (fun hF => ?_) (fun hF => ?_)
 ·obtain ⟨x36, hx36, hF⟩ := bindF hF
  refine callM (draw_Codes_One_w _ _ _ hx36) ?_
  conv => whnf
  refine brF hF ebF (fun hF => ?_) (fun hF => ?_)
  ·conv => whnf
   obtain rfl := Option.some.inj hF
   refine ⟨by first | rfl | (simp only [List.length_map]; rfl), ?_⟩
   conv => whnf
   exact ⟨rtF⟩
  conv => whnf
  obtain ⟨x43, hx43, hF⟩ := bindF hF
  refine callM (draw_Codes_Range_w _ _ _ _ hx43) ?_
  conv => whnf
  obtain rfl := Option.some.inj hF
  refine ⟨by first | rfl | (simp only [List.length_map]; rfl), ?_⟩
  conv => whnf
  exact ⟨rtF⟩
 obtain ⟨x43, hx43, hF⟩ := bindF hF
 refine callM (draw_Codes_Range_w _ _ _ _ hx43) ?_
 conv => whnf
 obtain rfl := Option.some.inj hF
 refine ⟨by first | rfl | (simp only [List.length_map]; rfl), ?_⟩
 conv => whnf
 exact ⟨rtF⟩

theorem draw_Codes_Row_w (p0 : DrawCodes) (p1 : ASchema) (R : ((List Int) × DrawCodes))  (hF : draw_Codes_Row p0 p1 = some R) : MCall Tryz.prog 69 [.optr [(lst 1 (D.int .u8) p0.f_l), (.int .i64 p0.f_at)], .d (encASchema p1)] [.optr [(lst 1 (D.int .u8) R.2.f_l), (.int .i64 R.2.f_at)], .any] (.d (lst 1 (D.int .i64) R.1)) := by
 refine mcall Tryz.func69 (by kernel_rfl) rfl ?_ ?_
 ·intro i x y hx hy
  match i, hx, hy with
  | 0, hx, hy => simp at hx hy; subst hx; subst hy; exact ⟨_, rfl, rfl⟩
  | 1, hx, hy => simp at hx hy; subst hx; subst hy; trivial
  | i + 2, hx, hy => simp at hx
 unfold draw_Codes_Row at hF
 conv => whnf
 obtain ⟨Φ1, hΦ1, hF⟩ := iterF hF
 refine loop {p : Nat × (Int × DrawCodes × (List Int)) // Φ1 p.1 p.2 = some R} (fun p => mkS 22 [(0, .ptr 0 0 0), (3, .ptr 3 1 0), (5, .sl 5 1), (9, .d (.int .i64 ((p1.Columns.length : Nat) : Int))), (10, .d (.int .i64 p.1.2.1))] [(0, .var [.d (lst 1 (D.int .u8) p.1.2.2.1.f_l), .d (.int .i64 p.1.2.2.1.f_at)], 0), (3, .var [.d (lst 2 encACodeList p1.Lists), .d (lst 7 encAColumn p1.Columns)], 1), (5, .row 1 3 (List.map (D.int .i64) p.1.2.2.2), 1)]) (fun p => p.1.1) ⟨(_, (_, _, _)), hF⟩ ?_ fun p => ?_
 ·refine leF ?_
  conv => whnf
  exact lfF
 obtain ⟨⟨k1, ⟨v10_1, w0_1, b5_1⟩⟩, hF⟩ := p
 obtain ⟨k1, rfl, hF⟩ := hΦ1 _ _ hF
 simp only [draw_Codes_Row_b1] at hF
 conv => whnf
 refine brF hF ebF (fun hF => ?_) (fun hF => ?_)
 ·conv => whnf
  obtain ⟨x17, hx17, hF⟩ := bindF hF
  refine callM (draw_Codes_Value_w _ _ _ _ hx17) ?_
  conv => whnf
  obtain ⟨hr, hF⟩ := gdF hF
  refine ⟨by (simp only [List.length_map]; exact rm_fits hr (of_decide_eq_true (by kernel_rfl)) (.inr (by kernel_rfl))), ?_⟩
  try rw [snocI]
  conv => whnf
  refine ⟨⟨(_, (_, _, _)), hF⟩, ?_, Nat.lt_succ_self _⟩
  refine leF ?_
  conv => whnf
  exact lfF
 conv => whnf
 obtain rfl := Option.some.inj hF
 refine ⟨by first | rfl | (simp only [List.length_map]; rfl), ?_⟩
 conv => whnf
 refine ⟨.inl ?_⟩
 conv => whnf
 exact ⟨rtF⟩

theorem draw_Codes_Source_w (p0 : DrawCodes) (p1 : Int) (R : (ASource × DrawCodes))  (hF : draw_Codes_Source p0 p1 = some R) : MCall Tryz.prog 26 [.optr [(lst 1 (D.int .u8) p0.f_l), (.int .i64 p0.f_at)], .d (.int .i64 p1)] [.optr [(lst 1 (D.int .u8) R.2.f_l), (.int .i64 R.2.f_at)], .any] (.d (encASource R.1)) := by
 refine mcall Tryz.func26 (by kernel_rfl) rfl ?_ ?_
 ·intro i x y hx hy
  match i, hx, hy with
  | 0, hx, hy => simp at hx hy; subst hx; subst hy; exact ⟨_, rfl, rfl⟩
  | 1, hx, hy => simp at hx hy; subst hx; subst hy; trivial
  | i + 2, hx, hy => simp at hx
 unfold draw_Codes_Source at hF
 conv => whnf
 obtain ⟨x9, hx9, hF⟩ := bindF hF
 refine callM (draw_Codes_Schema_w _ _ hx9) ?_
 conv => whnf
 obtain ⟨x15, hx15, hF⟩ := bindF hF
 refine callM (draw_Codes_Next_w _ _ _ hx15) ?_
 conv => whnf
 obtain ⟨Φ1, hΦ1, hF⟩ := iterF hF
 refine loop {p : Nat × (Int × DrawCodes × (List (List Int))) // Φ1 p.1 p.2 = some R} (fun p => mkS 28 [(0, .ptr 0 0 0), (4, .ptr 4 1 0), (5, .ptr 5 1 0), (6, .ptr 6 1 0), (7, .d (.int .i64 p.1.2.1))] [(0, .var [.d (lst 1 (D.int .u8) p.1.2.2.1.f_l), .d (.int .i64 p.1.2.2.1.f_at)], 0), (4, .var [.d (.nil 2), .d (.nil 7), .d (.nil 1), .d (.nil 1), .d (.int .i64 0)], 1), (5, .var [.d (lst 2 encACodeList x9.1.Lists), .d (lst 7 encAColumn x9.1.Columns)], 1), (6, .var [.d (lst 2 encACodeList x9.1.Lists), .d (lst 7 encAColumn x9.1.Columns), .d (lst 1 (lst 1 (D.int .i64)) p.1.2.2.2), .d (.nil 1), .d (.int .i64 0)], 1)]) (fun p => p.1.1) ⟨(_, (_, _, _)), hF⟩ ?_ fun p => ?_
 ·refine leF ?_
  conv => whnf
  exact lfF
 obtain ⟨⟨k1, ⟨v7_1, w0_1, c6_2_1⟩⟩, hF⟩ := p
 obtain ⟨k1, rfl, hF⟩ := hΦ1 _ _ hF
 simp only [draw_Codes_Source_b1] at hF
 conv => whnf
 refine brF hF ebF (fun hF => ?_) (fun hF => ?_)
 ·conv => whnf
  refine ⟨⟨by decide +kernel, by kernel_rfl⟩, ?_⟩
  conv => whnf
  obtain ⟨x24, hx24, hF⟩ := bindF hF
  refine callM (draw_Codes_Row_w _ _ _ hx24) ?_
  conv => whnf
  obtain ⟨x25, hx25, hF⟩ := bindF hF
  refine callA (ref04_Put_w _ _ _ hx25) ?_
  conv => whnf
  refine ⟨⟨(_, (_, _, _)), hF⟩, ?_, Nat.lt_succ_self _⟩
  refine leF ?_
  conv => whnf
  exact lfF
 conv => whnf
 obtain rfl := Option.some.inj hF
 refine ⟨by first | rfl | (simp only [List.length_map]; rfl), ?_⟩
 conv => whnf
 exact ⟨rtF⟩

theorem ref02_in_w (p0 : Int) (p1 : Int) (p2 : Int) (R : Bool)  (hF : ref02_in p0 p1 p2 = some R) : ACall Tryz.prog 32 [.d (.int .i64 p0), .d (.int .i64 p1), .d (.int .i64 p2)] (.d (.bool R)) := by
 refine acall Tryz.func32 (by kernel_rfl) ?_
 unfold ref02_in at hF
 conv => whnf
 obtain rfl := Option.some.inj hF
 exact ⟨rtF⟩

theorem ref02_measure_w (p0 : AColumn) (R : Int)  (hF : ref02_measure p0 = some R) : ACall Tryz.prog 202 [.d (encAColumn p0)] (.d (.int .i64 R)) := by
 refine acallJ [3] Tryz.func202 (by kernel_rfl) ?_
 unfold ref02_measure at hF
 conv => whnf
 refine join {p : Unit // ref02_measure_j1 p0 = some R} (fun p => mkS 79 [(1, .ptr 1 1 0)] [(1, .var [.d (.str p0.Name), .d (.int .i64 p0.Kind), .d (.int .i64 p0.List_), .d (.int .i64 p0.Low), .d (.int .i64 p0.High), .d (lst 1 (D.int .i64) p0.Widths), .d (.bool p0.Optional)], 1)]) ?_ fun p => ?_
 ·conv => whnf
  obtain ⟨x7, hx7, hF⟩ := bindF hF
  refine callA (ref02_in_w _ _ _ _ hx7) ?_
  conv => whnf
  refine brF hF ebF (fun hF => ?_) (fun hF => ?_)
  ·obtain rfl := Option.some.inj hF
   exact ⟨rtF⟩
  obtain ⟨x12, hx12, hF⟩ := bindF hF
  refine callA (ref02_in_w _ _ _ _ hx12) ?_
  conv => whnf
  refine brF hF ebF (fun hF => ?_) (fun hF => ?_)
  ·conv => whnf
   obtain rfl := Option.some.inj hF
   exact ⟨rtF⟩
  conv => whnf
  refine ⟨⟨(), hF⟩, ?_⟩
  refine leF ?_
  conv => whnf
  exact lfF
 obtain ⟨_, hF⟩ := p
 simp only [ref02_measure_j1] at hF
 conv => whnf
 refine brF hF ebF (fun hF => ?_) (fun hF => ?_)
 ·conv => whnf
  obtain rfl := Option.some.inj hF
  exact ⟨rtF⟩
 conv => whnf
 obtain ⟨Φ1, hΦ1, hF⟩ := iterF hF
 refine loop {p : Nat × Int // Φ1 p.1 p.2 = some R} (fun p => mkS 79 [(1, .ptr 1 1 0), (3, .d (.int .i64 p.1.2))] [(1, .var [.d (.str p0.Name), .d (.int .i64 p0.Kind), .d (.int .i64 p0.List_), .d (.int .i64 p0.Low), .d (.int .i64 p0.High), .d (lst 1 (D.int .i64) p0.Widths), .d (.bool p0.Optional)], 1)]) (fun p => p.1.1) ⟨(_, _), hF⟩ ?_ fun p => ?_
 ·refine leF ?_
  conv => whnf
  exact lfF
 obtain ⟨⟨k1, v3_1⟩, hF⟩ := p
 obtain ⟨k1, rfl, hF⟩ := hΦ1 _ _ hF
 simp only [ref02_measure_b1] at hF
 conv => whnf
 refine brF hF ebF (fun hF => ?_) (fun hF => ?_)
 ·conv => whnf
  refine atF (f := (D.int .i64)) hF ebF fun x42 hx42 hF => ?_
  conv => whnf
  refine brF hF ebF (fun hF => ?_) (fun hF => ?_)
  ·obtain rfl := Option.some.inj hF
   exact ⟨rtF⟩
  refine brF hF ebF (fun hF => ?_) (fun hF => ?_)
  ·refine atF (f := (D.int .i64)) hF ebF fun x59 hx59 hF => ?_
   conv => whnf
   refine brF hF ebF (fun hF => ?_) (fun hF => ?_)
   ·obtain rfl := Option.some.inj hF
    exact ⟨rtF⟩
   refine atF (f := (D.int .i64)) hF ebF fun x72 hx72 hF => ?_
   conv => whnf
   obtain ⟨hr, hF⟩ := gdF hF
   refine ⟨of_decide_eq_true hr, ?_⟩
   conv => whnf
   refine brF hF ebF (fun hF => ?_) (fun hF => ?_)
   ·conv => whnf
    obtain rfl := Option.some.inj hF
    exact ⟨rtF⟩
   conv => whnf
   refine ⟨⟨(_, _), hF⟩, ?_, Nat.lt_succ_self _⟩
   refine leF ?_
   conv => whnf
   exact lfF
  refine ⟨⟨(_, _), hF⟩, ?_, Nat.lt_succ_self _⟩
  refine leF ?_
  conv => whnf
  exact lfF
 conv => whnf
 obtain rfl := Option.some.inj hF
 exact ⟨rtF⟩

theorem ref02_column_w (p0 : ASchema) (p1 : Int) (R : Int)  (hF : ref02_column p0 p1 = some R) : ACall Tryz.prog 138 [.d (encASchema p0), .d (.int .i64 p1)] (.d (.int .i64 R)) := by
 refine acallJ [9, 13] Tryz.func138 (by kernel_rfl) ?_
 unfold ref02_column at hF
 conv => whnf
 refine atF (f := encAColumn) hF ebF fun x11 hx11 hF => ?_
 conv => whnf
 obtain ⟨x15, hx15, hF⟩ := bindF hF
 refine callA (ref01_Name_w _ _ hx15) ?_
 conv => whnf
 refine brF hF ebF (fun hF => ?_) (fun hF => ?_)
 ·conv => whnf
  obtain rfl := Option.some.inj hF
  exact ⟨rtF⟩
 conv => whnf
 refine join {p : Unit // ref02_column_j1 x11 p1 p0 = some R} (fun p => mkS 98 [(1, .d (.int .i64 p1)), (2, .ptr 2 1 0), (5, .ptr 5 1 0)] [(2, .var [.d (lst 2 encACodeList p0.Lists), .d (lst 7 encAColumn p0.Columns)], 1), (5, .var [.d (.str x11.Name), .d (.int .i64 x11.Kind), .d (.int .i64 x11.List_), .d (.int .i64 x11.Low), .d (.int .i64 x11.High), .d (lst 1 (D.int .i64) x11.Widths), .d (.bool x11.Optional)], 1)]) ?_ fun p => ?_
 ·conv => whnf
  obtain ⟨Φ1, hΦ1, hF⟩ := iterF hF
  refine loop {p : Nat × Int // Φ1 p.1 p.2 = some R} (fun p => mkS 98 [(1, .d (.int .i64 p1)), (2, .ptr 2 1 0), (5, .ptr 5 1 0), (6, .d (.int .i64 p.1.2))] [(2, .var [.d (lst 2 encACodeList p0.Lists), .d (lst 7 encAColumn p0.Columns)], 1), (5, .var [.d (.str x11.Name), .d (.int .i64 x11.Kind), .d (.int .i64 x11.List_), .d (.int .i64 x11.Low), .d (.int .i64 x11.High), .d (lst 1 (D.int .i64) x11.Widths), .d (.bool x11.Optional)], 1)]) (fun p => p.1.1) ⟨(_, _), hF⟩ ?_ fun p => ?_
  ·refine leF ?_
   conv => whnf
   exact lfF
  obtain ⟨⟨k1, v6_1⟩, hF⟩ := p
  obtain ⟨k1, rfl, hF⟩ := hΦ1 _ _ hF
  simp only [ref02_column_b1] at hF
  conv => whnf
  refine brF hF ebF (fun hF => ?_) (fun hF => ?_)
  ·conv => whnf
   refine ⟨⟨by decide +kernel, by kernel_rfl⟩, ?_⟩
   conv => whnf
   refine atF (f := encAColumn) hF ebF fun x25 hx25 hF => ?_
   conv => whnf
   refine brF hF ebF (fun hF => ?_) (fun hF => ?_)
   ·conv => whnf
    obtain rfl := Option.some.inj hF
    exact ⟨rtF⟩
   conv => whnf
   refine ⟨⟨(_, _), hF⟩, ?_, Nat.lt_succ_self _⟩
   refine leF ?_
   conv => whnf
   exact lfF
  conv => whnf
  refine ⟨⟨(), hF⟩, ?_⟩
  refine leF ?_
  conv => whnf
  exact lfF
 obtain ⟨_, hF⟩ := p
 simp only [ref02_column_j1] at hF
 conv => whnf
 obtain ⟨x33, hx33, hF⟩ := bindF hF
 refine callA (ref02_in_w _ _ _ _ hx33) ?_
 conv => whnf
 refine brF hF ebF (fun hF => ?_) (fun hF => ?_)
 ·conv => whnf
  obtain rfl := Option.some.inj hF
  exact ⟨rtF⟩
 conv => whnf
 refine join {p : Unit // ref02_column_j2 x11 = some R} (fun p => mkS 98 [(5, .ptr 5 1 0)] [(5, .var [.d (.str x11.Name), .d (.int .i64 x11.Kind), .d (.int .i64 x11.List_), .d (.int .i64 x11.Low), .d (.int .i64 x11.High), .d (lst 1 (D.int .i64) x11.Widths), .d (.bool x11.Optional)], 1)]) ?_ fun p => ?_
 ·conv => whnf
  refine brF hF ebF (fun hF => ?_) (fun hF => ?_)
  ·obtain ⟨x54, hx54, hF⟩ := bindF hF
   first | refine callA (ref02_in_w _ _ _ _ hx54) ?_ | (simp only [List.length_map]; refine callA (ref02_in_w _ _ _ _ hx54) ?_)
   conv => whnf
   refine brF hF ebF (fun hF => ?_) (fun hF => ?_)
   ·conv => whnf
    obtain rfl := Option.some.inj hF
    exact ⟨rtF⟩
   conv => whnf
   refine ⟨⟨(), hF⟩, ?_⟩
   refine leF ?_
   conv => whnf
   exact lfF
  refine ⟨⟨(), hF⟩, ?_⟩
  refine leF ?_
  conv => whnf
  exact lfF
 obtain ⟨_, hF⟩ := p
 simp only [ref02_column_j2] at hF
 conv => whnf
 refine brF hF ebF (fun hF => ?_) (fun hF => ?_)
 ·conv => whnf
  obtain ⟨x61, hx61, hF⟩ := bindF hF
  refine callA (ref02_measure_w _ _ hx61) ?_
  conv => whnf
  refine brF hF ebF (fun hF => ?_) (fun hF => ?_)
  ·conv => whnf
   obtain rfl := Option.some.inj hF
   exact ⟨rtF⟩
  conv => whnf
  refine brF hF ebF (fun hF => ?_) (fun hF => ?_)
  ·conv => whnf
   obtain rfl := Option.some.inj hF
   exact ⟨rtF⟩
  conv => whnf
  obtain rfl := Option.some.inj hF
  exact ⟨rtF⟩
 conv => whnf
 refine brF hF ebF (fun hF => ?_) (fun hF => ?_)
 ·conv => whnf
  obtain rfl := Option.some.inj hF
  exact ⟨rtF⟩
 conv => whnf
 obtain rfl := Option.some.inj hF
 exact ⟨rtF⟩

theorem ref02_Check_w (p0 : ASchema) (R : Int)  (hF : ref02_Check p0 = some R) : ACall Tryz.prog 75 [.d (encASchema p0)] (.d (.int .i64 R)) := by
 refine acallJ [14] Tryz.func75 (by kernel_rfl) ?_
 unfold ref02_Check at hF
 conv => whnf
 refine brF hF ebF (fun hF => ?_) (fun hF => ?_)
 ·conv => whnf
  obtain rfl := Option.some.inj hF
  exact ⟨rtF⟩
 conv => whnf
 refine join {p : Unit // ref02_Check_j1 p0 = some R} (fun p => mkS 77 [(1, .ptr 1 1 0)] [(1, .var [.d (lst 2 encACodeList p0.Lists), .d (lst 7 encAColumn p0.Columns)], 1)]) ?_ fun p => ?_
 ·conv => whnf
  obtain ⟨Φ1, hΦ1, hF⟩ := iterF hF
  refine loop {p : Nat × Int // Φ1 p.1 p.2 = some R} (fun p => mkS 77 [(1, .ptr 1 1 0), (3, .d (.int .i64 p.1.2))] [(1, .var [.d (lst 2 encACodeList p0.Lists), .d (lst 7 encAColumn p0.Columns)], 1)]) (fun p => p.1.1) ⟨(_, _), hF⟩ ?_ fun p => ?_
  ·refine leF ?_
   conv => whnf
   exact lfF
  obtain ⟨⟨k1, v3_1⟩, hF⟩ := p
  obtain ⟨k1, rfl, hF⟩ := hΦ1 _ _ hF
  simp only [ref02_Check_b1] at hF
  conv => whnf
  refine brF hF ebF (fun hF => ?_) (fun hF => ?_)
  ·conv => whnf
   refine atF (f := encACodeList) hF ebF fun x28 hx28 hF => ?_
   conv => whnf
   obtain ⟨x30, hx30, hF⟩ := bindF hF
   refine callA (ref01_Check_w _ _ hx30) ?_
   conv => whnf
   refine brF hF ebF (fun hF => ?_) (fun hF => ?_)
   ·conv => whnf
    obtain rfl := Option.some.inj hF
    exact ⟨rtF⟩
   conv => whnf
   obtain ⟨Φ2, hΦ2, hF⟩ := iterF hF
   refine loop {p : Nat × Int // Φ2 p.1 p.2 = some R} (fun p => mkS 77 [(1, .ptr 1 1 0), (3, .d (.int .i64 v3_1)), (5, .d (.int .i64 p.1.2))] [(1, .var [.d (lst 2 encACodeList p0.Lists), .d (lst 7 encAColumn p0.Columns)], 1)]) (fun p => p.1.1) ⟨(_, _), hF⟩ ?_ fun p => ?_
   ·refine leF ?_
    conv => whnf
    exact lfF
   obtain ⟨⟨k2, v5_2⟩, hF⟩ := p
   obtain ⟨k2, rfl, hF⟩ := hΦ2 _ _ hF
   simp only [ref02_Check_b2] at hF
   conv => whnf
   refine brF hF ebF (fun hF => ?_) (fun hF => ?_)
   ·conv => whnf
    refine ⟨⟨by decide +kernel, by kernel_rfl⟩, ?_⟩
    conv => whnf
    refine atF (f := encACodeList) hF ebF fun x42 hx42 hF => ?_
    conv => whnf
    refine atF (f := encACodeList) hF ebF fun x48 hx48 hF => ?_
    conv => whnf
    refine brF hF ebF (fun hF => ?_) (fun hF => ?_)
    ·conv => whnf
     obtain rfl := Option.some.inj hF
     exact ⟨rtF⟩
    conv => whnf
    refine ⟨⟨(_, _), hF⟩, ?_, Nat.lt_succ_self _⟩
    refine leF ?_
    conv => whnf
    exact lfF
   conv => whnf
   try simp only [ref02_Check_k1] at hF
   refine ⟨⟨(_, _), hF⟩, ?_, Nat.lt_succ_self _⟩
   refine leF ?_
   conv => whnf
   exact lfF
  conv => whnf
  try simp only [ref02_Check_k1] at hF
  refine ⟨⟨(), hF⟩, ?_⟩
  refine leF ?_
  conv => whnf
  exact lfF
 obtain ⟨_, hF⟩ := p
 simp only [ref02_Check_j1] at hF
 conv => whnf
 refine brF hF ebF (fun hF => ?_) (fun hF => ?_)
 ·obtain rfl := Option.some.inj hF
  exact ⟨rtF⟩
 refine atF (f := encAColumn) hF ebF fun x59 hx59 hF => ?_
 conv => whnf
 refine brF hF ebF (fun hF => ?_) (fun hF => ?_)
 ·conv => whnf
  obtain rfl := Option.some.inj hF
  exact ⟨rtF⟩
 conv => whnf
 obtain ⟨Φ3, hΦ3, hF⟩ := iterF hF
 refine loop {p : Nat × Int // Φ3 p.1 p.2 = some R} (fun p => mkS 77 [(1, .ptr 1 1 0), (6, .d (.int .i64 p.1.2))] [(1, .var [.d (lst 2 encACodeList p0.Lists), .d (lst 7 encAColumn p0.Columns)], 1)]) (fun p => p.1.1) ⟨(_, _), hF⟩ ?_ fun p => ?_
 ·refine leF ?_
  conv => whnf
  exact lfF
 obtain ⟨⟨k3, v6_3⟩, hF⟩ := p
 obtain ⟨k3, rfl, hF⟩ := hΦ3 _ _ hF
 simp only [ref02_Check_b3] at hF
 conv => whnf
 refine brF hF ebF (fun hF => ?_) (fun hF => ?_)
 ·conv => whnf
  obtain ⟨x73, hx73, hF⟩ := bindF hF
  refine callA (ref02_column_w _ _ _ hx73) ?_
  conv => whnf
  refine brF hF ebF (fun hF => ?_) (fun hF => ?_)
  ·conv => whnf
   obtain rfl := Option.some.inj hF
   exact ⟨rtF⟩
  conv => whnf
  refine ⟨⟨(_, _), hF⟩, ?_, Nat.lt_succ_self _⟩
  refine leF ?_
  conv => whnf
  exact lfF
 conv => whnf
 try simp only [ref02_Check_k1] at hF
 obtain rfl := Option.some.inj hF
 exact ⟨rtF⟩

theorem ref02_Finest_w (p0 : ASchema) (p1 : Int) (R : Int)  (hF : ref02_Finest p0 p1 = some R) : ACall Tryz.prog 33 [.d (encASchema p0), .d (.int .i64 p1)] (.d (.int .i64 R)) := by
 refine acall Tryz.func33 (by kernel_rfl) ?_
 unfold ref02_Finest at hF
 conv => whnf
 obtain ⟨x7, hx7, hF⟩ := bindF hF
 refine callA (ref02_Check_w _ _ hx7) ?_
 conv => whnf
 refine brF hF ebF (fun hF => ?_) (fun hF => ?_)
 ·conv => whnf
  obtain rfl := Option.some.inj hF
  exact ⟨rtF⟩
 conv => whnf
 refine atF (f := encAColumn) hF ebF fun x23 hx23 hF => ?_
 conv => whnf
 refine brF hF ebF (fun hF => ?_) (fun hF => ?_)
 ·conv => whnf
  refine atF (f := encACodeList) hF ebF fun x32 hx32 hF => ?_
  conv => whnf
  obtain ⟨x34, hx34, hF⟩ := bindF hF
  refine callA (ref01_Levels_w _ _ hx34) ?_
  conv => whnf
  obtain rfl := Option.some.inj hF
  exact ⟨rtF⟩
 conv => whnf
 obtain rfl := Option.some.inj hF
 exact ⟨rtF⟩

theorem draw_All_w (p0 : ASchema) (R : (ADeclaration × (List APick)))  (hF : draw_All p0 = some R) : ACall Tryz.prog 27 [.d (encASchema p0)] (.tup [.d (encADeclaration R.1), .d (lst 2 encAPick R.2)]) := by
 refine acall Tryz.func27 (by kernel_rfl) ?_
 unfold draw_All at hF
 conv => whnf
 obtain ⟨Φ1, hΦ1, hF⟩ := iterF hF
 refine loop {p : Nat × (Int × (List APick)) // Φ1 p.1 p.2 = some R} (fun p => mkS 33 [(1, .ptr 1 1 0), (2, .ptr 2 1 0), (4, .ptr 4 1 0), (5, .sl 5 1), (6, .d (.int .i64 p.1.2.1))] [(1, .var [.d (lst 2 encACodeList p0.Lists), .d (lst 7 encAColumn p0.Columns)], 1), (2, .var [.d (.str ByteArray.empty), .d (.str ByteArray.empty), .d (.int .i64 0), .d (.int .i64 0), .d (.int .i64 0), .d (.int .i64 0), .d (.int .i64 0), .d (.nil 6), .d (.int .i64 0), .d (.int .i64 0), .d (.int .i64 0), .d (.nil 17)], 1), (4, .var [.d (.str ({ data := #[97, 108, 108, 95, 114, 111, 119, 115] } : ByteArray)), .d (.str ({ data := #[115, 114, 99] } : ByteArray)), .d (.int .i64 1), .d (.int .i64 0), .d (.int .i64 0), .d (.int .i64 0), .d (.int .i64 0), .d (.nil 6), .d (.int .i64 1), .d (.int .i64 1), .d (.int .i64 0), .d (.nil 17)], 1), (5, .row 2 43 (List.map encAPick p.1.2.2), 1)]) (fun p => p.1.1) ⟨(_, (_, _)), hF⟩ ?_ fun p => ?_
 ·refine leF ?_
  conv => whnf
  exact lfF
 obtain ⟨⟨k1, ⟨v6_1, b5_1⟩⟩, hF⟩ := p
 obtain ⟨k1, rfl, hF⟩ := hΦ1 _ _ hF
 simp only [draw_All_b1] at hF
 conv => whnf
 refine brF hF ebF (fun hF => ?_) (fun hF => ?_)
 ·conv => whnf
  obtain ⟨x21, hx21, hF⟩ := bindF hF
  refine callA (ref02_Finest_w _ _ _ hx21) ?_
  conv => whnf
  obtain ⟨hr, hF⟩ := gdF hF
  refine ⟨by (simp only [List.length_map]; exact rm_fits hr (of_decide_eq_true (by kernel_rfl)) (.inr (by kernel_rfl))), ?_⟩
  try rw [snoc_APick]
  conv => whnf
  refine ⟨⟨(_, (_, _)), hF⟩, ?_, Nat.lt_succ_self _⟩
  refine leF ?_
  conv => whnf
  exact lfF
 conv => whnf
 try simp only [draw_All_k1] at hF
 refine ⟨.inl ?_⟩
 conv => whnf
 obtain rfl := Option.some.inj hF
 refine ⟨.inl ?_⟩
 conv => whnf
 exact ⟨rtF⟩

theorem ref01_Level_w (p0 : ACodeList) (p1 : Int) (R : Int)  (hF : ref01_Level p0 p1 = some R) : ACall Tryz.prog 77 [.d (encACodeList p0), .d (.int .i64 p1)] (.d (.int .i64 R)) := by
 refine acall Tryz.func77 (by kernel_rfl) ?_
 unfold ref01_Level at hF
 conv => whnf
 obtain ⟨x6, hx6, hF⟩ := bindF hF
 refine callA (ref01_Check_w _ _ hx6) ?_
 conv => whnf
 refine brF hF ebF (fun hF => ?_) (fun hF => ?_)
 ·conv => whnf
  obtain rfl := Option.some.inj hF
  exact ⟨rtF⟩
 conv => whnf
 obtain ⟨x21, hx21, hF⟩ := bindF hF
 refine callA (ref01_depth_w _ _ _ hx21) ?_
 conv => whnf
 obtain rfl := Option.some.inj hF
 exact ⟨rtF⟩
end Go.Proofs.YtejfnieiaecpkaaGreatDoor.P
