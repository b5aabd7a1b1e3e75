/-
 Printed by wip/tools/mkw.py: walks: ref05_node ref05_Check ref08_Is ref08_Dims ref01_Has ref08_Terms ref08_parts ref05_Same ref08_zero ref08_Question
-/
import Derived.Test.YtejfnieiaecpkaaGreatDoorChecked
import Derived.Test.YtejfnieiaecpkaaGreatDoorP3F
import Derived.Test.YtejfnieiaecpkaaGreatDoorP3A
import Derived.Test.YtejfnieiaecpkaaGreatDoorP3HW
import Derived.Test.YtejfnieiaecpkaaGreatDoorP3W2
import Derived.Test.YtejfnieiaecpkaaGreatDoorP3W3
set_option linter.unusedSimpArgs false
namespace Go.Proofs.YtejfnieiaecpkaaGreatDoor.P
open Go.Abs Go.Proofs
set_option maxRecDepth 100000
set_option maxHeartbeats 40000000
set_option linter.unusedVariables false

theorem ref05_node_ws (d : Nat) (self_ref05_node : (ASchema → ACond → Option Int)) (ih_ref05_node : ∀ (p0 : ASchema) (p1 : ACond) (R : Int) , self_ref05_node p0 p1 = some R → ACall Tryz.prog 158 [.d (encASchema p0), .d (opACond p1)] (.d (.int .i64 R))) (p0 : ASchema) (p1 : ACond) (R : Int)  (hF : ref05_node_s d self_ref05_node p0 p1 = some R) : ACall Tryz.prog 158 [.d (encASchema p0), .d (opACond p1)] (.d (.int .i64 R)) := by
 refine acallJ [16, 20, 22] Tryz.func158 (by kernel_rfl) ?_
 unfold ref05_node_s at hF
 conv => whnf
 refine ⟨⟨by decide +kernel, by kernel_rfl⟩, ?_⟩
 conv => whnf
 refine join {p : (Int × Int × Int × Int × Int) // ref05_node_j1 p1 p0 self_ref05_node p.1 p.2.1 p.2.2.1 p.2.2.2.1 p.2.2.2.2 = some R} (fun p => mkS 185 [(2, .ptr 2 1 0), (3, .ptr 3 1 0), (5, .d (.int .i64 p.1.1)), (6, .ptr 6 1 0)] [(2, .var [.d (lst 2 encACodeList p0.Lists), .d (lst 7 encAColumn p0.Columns)], 1), (3, .var [.d (.int .i64 p1.Op), .d (.int .i64 p1.Column), .d (.int .i64 p1.Code), .d (.int .i64 p1.Low), .d (.int .i64 p1.High), .d (lst 6 encACond p1.Kids)], 1), (6, .var [.d (.int .i64 p1.Op), .d (.int .i64 p.1.2.1), .d (.int .i64 p.1.2.2.1), .d (.int .i64 p.1.2.2.2.1), .d (.int .i64 p.1.2.2.2.2), .d (.nil 6)], 1)]) ?_ fun p => ?_
 ·conv => whnf
  refine brF hF ebF (fun hF => ?_) (fun hF => ?_)
  ·conv => whnf
   refine ⟨⟨(_, _, _, _, _), hF⟩, ?_⟩
   refine leF ?_
   conv => whnf
   exact lg0
  conv => whnf
  refine brF hF ebF (fun hF => ?_) (fun hF => ?_)
  ·conv => whnf
   refine ⟨⟨by decide +kernel, by kernel_rfl⟩, ?_⟩
   conv => whnf
   refine ⟨⟨(_, _, _, _, _), hF⟩, ?_⟩
   refine leF ?_
   conv => whnf
   exact lg0
  conv => whnf
  refine brF hF ebF (fun hF => ?_) (fun hF => ?_)
  ·conv => whnf
   refine ⟨⟨by decide +kernel, by kernel_rfl⟩, ?_⟩
   conv => whnf
   refine ⟨⟨(_, _, _, _, _), hF⟩, ?_⟩
   refine leF ?_
   conv => whnf
   exact lg0
  conv => whnf
  refine brF hF ebF (fun hF => ?_) (fun hF => ?_)
  ·conv => whnf
   refine ⟨⟨(_, _, _, _, _), hF⟩, ?_⟩
   refine leF ?_
   conv => whnf
   exact lg0
  conv => whnf
  refine brF hF ebF (fun hF => ?_) (fun hF => ?_)
  ·conv => whnf
   refine brF hF ebF (fun hF => ?_) (fun hF => ?_)
   ·conv => whnf
    refine ⟨⟨(_, _, _, _, _), hF⟩, ?_⟩
    refine leF ?_
    conv => whnf
    exact lg0
   conv => whnf
   refine brF hF ebF (fun hF => ?_) (fun hF => ?_)
   ·conv => whnf
    refine ⟨⟨(_, _, _, _, _), hF⟩, ?_⟩
    refine leF ?_
    conv => whnf
    exact lg0
   conv => whnf
   obtain rfl := Option.some.inj hF
   exact ⟨rg0⟩
  conv => whnf
  refine brF hF ebF (fun hF => ?_) (fun hF => ?_)
  ·conv => whnf
   refine ⟨⟨(_, _, _, _, _), hF⟩, ?_⟩
   refine leF ?_
   conv => whnf
   exact lg0
  conv => whnf
  refine brF hF ebF (fun hF => ?_) (fun hF => ?_)
  ·conv => whnf
   refine ⟨⟨(_, _, _, _, _), hF⟩, ?_⟩
   refine leF ?_
   conv => whnf
   exact lg0
  conv => whnf
  obtain rfl := Option.some.inj hF
  exact ⟨rg0⟩
 obtain ⟨⟨j5_1, k6_1_1, k6_2_1, k6_3_1, k6_4_1⟩, hF⟩ := p
 simp only [ref05_node_j1] at hF
 conv => whnf
 refine brF hF ebF (fun hF => ?_) (fun hF => ?_)
 ·conv => whnf
  obtain rfl := Option.some.inj hF
  exact ⟨rg0⟩
 conv => whnf
 refine join {p : Unit // ref05_node_j2 p1 p0 self_ref05_node = some R} (fun p => mkS 185 [(2, .ptr 2 1 0), (3, .ptr 3 1 0)] [(2, .var [.d (lst 2 encACodeList p0.Lists), .d (lst 7 encAColumn p0.Columns)], 1), (3, .var [.d (.int .i64 p1.Op), .d (.int .i64 p1.Column), .d (.int .i64 p1.Code), .d (.int .i64 p1.Low), .d (.int .i64 p1.High), .d (lst 6 encACond p1.Kids)], 1)]) ?_ fun p => ?_
 ·conv => whnf
  refine brF hF ebF (fun hF => ?_) (fun hF => ?_)
  ·obtain ⟨x85, hx85, hF⟩ := bindF hF
   refine callA (ref05_is_w _ _ _ _ hx85) ?_
   conv => whnf
   refine brF hF ebF (fun hF => ?_) (fun hF => ?_)
   ·obtain rfl := Option.some.inj hF
    exact ⟨rg0⟩
   refine brF hF ebF (fun hF => ?_) (fun hF => ?_)
   ·obtain ⟨x96, hx96, hF⟩ := bindF hF
    refine callA (ref05_is_w _ _ _ _ hx96) ?_
    conv => whnf
    refine brF hF ebF (fun hF => ?_) (fun hF => ?_)
    ·obtain rfl := Option.some.inj hF
     exact ⟨rg0⟩
    refine brF hF ebF (fun hF => ?_) (fun hF => ?_)
    ·obtain ⟨x108, hx108, hF⟩ := bindF hF
     refine callA (ref05_is_w _ _ _ _ hx108) ?_
     conv => whnf
     refine brF hF ebF (fun hF => ?_) (fun hF => ?_)
     ·obtain rfl := Option.some.inj hF
      exact ⟨rg0⟩
     refine atF (f := encAColumn) hF ebF fun x115 hx115 hF => ?_
     conv => whnf
     refine brF hF ebF (fun hF => ?_) (fun hF => ?_)
     ·conv => whnf
      obtain rfl := Option.some.inj hF
      exact ⟨rg0⟩
     conv => whnf
     refine ⟨⟨(), hF⟩, ?_⟩
     refine leF ?_
     conv => whnf
     exact lg0
    refine ⟨⟨(), hF⟩, ?_⟩
    refine leF ?_
    conv => whnf
    exact lg0
   refine brF hF ebF (fun hF => ?_) (fun hF => ?_)
   ·obtain ⟨x108, hx108, hF⟩ := bindF hF
    refine callA (ref05_is_w _ _ _ _ hx108) ?_
    conv => whnf
    refine brF hF ebF (fun hF => ?_) (fun hF => ?_)
    ·obtain rfl := Option.some.inj hF
     exact ⟨rg0⟩
    refine atF (f := encAColumn) hF ebF fun x115 hx115 hF => ?_
    conv => whnf
    refine brF hF ebF (fun hF => ?_) (fun hF => ?_)
    ·conv => whnf
     obtain rfl := Option.some.inj hF
     exact ⟨rg0⟩
    conv => whnf
    refine ⟨⟨(), hF⟩, ?_⟩
    refine leF ?_
    conv => whnf
    exact lg0
   refine ⟨⟨(), hF⟩, ?_⟩
   refine leF ?_
   conv => whnf
   exact lg0
  refine brF hF ebF (fun hF => ?_) (fun hF => ?_)
  ·obtain ⟨x96, hx96, hF⟩ := bindF hF
   refine callA (ref05_is_w _ _ _ _ hx96) ?_
   conv => whnf
   refine brF hF ebF (fun hF => ?_) (fun hF => ?_)
   ·obtain rfl := Option.some.inj hF
    exact ⟨rg0⟩
   refine brF hF ebF (fun hF => ?_) (fun hF => ?_)
   ·obtain ⟨x108, hx108, hF⟩ := bindF hF
    refine callA (ref05_is_w _ _ _ _ hx108) ?_
    conv => whnf
    refine brF hF ebF (fun hF => ?_) (fun hF => ?_)
    ·obtain rfl := Option.some.inj hF
     exact ⟨rg0⟩
    refine atF (f := encAColumn) hF ebF fun x115 hx115 hF => ?_
    conv => whnf
    refine brF hF ebF (fun hF => ?_) (fun hF => ?_)
    ·conv => whnf
     obtain rfl := Option.some.inj hF
     exact ⟨rg0⟩
    conv => whnf
    refine ⟨⟨(), hF⟩, ?_⟩
    refine leF ?_
    conv => whnf
    exact lg0
   refine ⟨⟨(), hF⟩, ?_⟩
   refine leF ?_
   conv => whnf
   exact lg0
  refine brF hF ebF (fun hF => ?_) (fun hF => ?_)
  ·obtain ⟨x108, hx108, hF⟩ := bindF hF
   refine callA (ref05_is_w _ _ _ _ hx108) ?_
   conv => whnf
   refine brF hF ebF (fun hF => ?_) (fun hF => ?_)
   ·obtain rfl := Option.some.inj hF
    exact ⟨rg0⟩
   refine atF (f := encAColumn) hF ebF fun x115 hx115 hF => ?_
   conv => whnf
   refine brF hF ebF (fun hF => ?_) (fun hF => ?_)
   ·conv => whnf
    obtain rfl := Option.some.inj hF
    exact ⟨rg0⟩
   conv => whnf
   refine ⟨⟨(), hF⟩, ?_⟩
   refine leF ?_
   conv => whnf
   exact lg0
  refine ⟨⟨(), hF⟩, ?_⟩
  refine leF ?_
  conv => whnf
  exact lg0
 obtain ⟨_, hF⟩ := p
 simp only [ref05_node_j2] at hF
 conv => whnf
 refine join {p : Unit // ref05_node_j3 p1 self_ref05_node p0 = some R} (fun p => mkS 185 [(2, .ptr 2 1 0), (3, .ptr 3 1 0)] [(2, .var [.d (lst 2 encACodeList p0.Lists), .d (lst 7 encAColumn p0.Columns)], 1), (3, .var [.d (.int .i64 p1.Op), .d (.int .i64 p1.Column), .d (.int .i64 p1.Code), .d (.int .i64 p1.Low), .d (.int .i64 p1.High), .d (lst 6 encACond p1.Kids)], 1)]) ?_ fun p => ?_
 ·conv => whnf
  refine ⟨⟨by decide +kernel, by kernel_rfl⟩, ?_⟩
  conv => whnf
  refine brF hF ebF (fun hF => ?_) (fun hF => ?_)
  ·refine brF hF ebF (fun hF => ?_) (fun hF => ?_)
   ·obtain rfl := Option.some.inj hF
    exact ⟨rg0⟩
   refine atF (f := encAColumn) hF ebF fun x138 hx138 hF => ?_
   conv => whnf
   refine atF (f := encACodeList) hF ebF fun x141 hx141 hF => ?_
   conv => whnf
   refine brF hF ebF (fun hF => ?_) (fun hF => ?_)
   ·conv => whnf
    obtain rfl := Option.some.inj hF
    exact ⟨rg0⟩
   conv => whnf
   refine ⟨⟨(), hF⟩, ?_⟩
   refine leF ?_
   conv => whnf
   exact lg0
  refine ⟨⟨(), hF⟩, ?_⟩
  refine leF ?_
  conv => whnf
  exact lg0
 obtain ⟨_, hF⟩ := p
 simp only [ref05_node_j3] at hF
 conv => whnf
 refine brF hF ebF (fun hF => ?_) (fun hF => ?_)
 ·conv => whnf
  obtain rfl := Option.some.inj hF
  exact ⟨rg0⟩
 conv => whnf
 obtain ⟨Φ1, hΦ1, hF⟩ := iterF hF
 refine loop {p : Nat × Int // Φ1 p.1 p.2 = some R} (fun p => mkS 185 [(2, .ptr 2 1 0), (3, .ptr 3 1 0), (7, .d (.int .i64 p.1.2))] [(2, .var [.d (lst 2 encACodeList p0.Lists), .d (lst 7 encAColumn p0.Columns)], 1), (3, .var [.d (.int .i64 p1.Op), .d (.int .i64 p1.Column), .d (.int .i64 p1.Code), .d (.int .i64 p1.Low), .d (.int .i64 p1.High), .d (lst 6 encACond p1.Kids)], 1)]) (fun p => p.1.1) ⟨(_, _), hF⟩ ?_ fun p => ?_
 ·refine leF ?_
  conv => whnf
  exact lg0
 obtain ⟨⟨k1, v7_1⟩, hF⟩ := p
 obtain ⟨k1, rfl, hF⟩ := hΦ1 _ _ hF
 simp only [ref05_node_b1] at hF
 conv => whnf
 refine brF hF ebF (fun hF => ?_) (fun hF => ?_)
 ·conv => whnf
  refine ⟨⟨by decide +kernel, by kernel_rfl⟩, ?_⟩
  conv => whnf
  refine atF (f := encACond) hF ebF fun x179 hx179 hF => ?_
  rw [encACond_op x179]
  conv => whnf
  obtain ⟨x181, hx181, hF⟩ := bindF hF
  first | refine callA (ih_ref05_node _ _ _ hx181) ?_ | (simp only [List.length_map]; refine callA (ih_ref05_node _ _ _ hx181) ?_)
  conv => whnf
  refine brF hF ebF (fun hF => ?_) (fun hF => ?_)
  ·conv => whnf
   obtain rfl := Option.some.inj hF
   exact ⟨rg0⟩
  conv => whnf
  refine ⟨⟨(_, _), hF⟩, ?_, Nat.lt_succ_self _⟩
  refine leF ?_
  conv => whnf
  exact lg0
 conv => whnf
 obtain rfl := Option.some.inj hF
 exact ⟨rg0⟩

theorem ref05_node_wr : ∀ d : Nat, (∀ (p0 : ASchema) (p1 : ACond) (R : Int) , ref05_node d p0 p1 = some R → ACall Tryz.prog 158 [.d (encASchema p0), .d (opACond p1)] (.d (.int .i64 R)))
  | 0 => by
   refine (by intros; rename_i h; cases h)
  | d + 1 => by
   have ih := ref05_node_wr d
   exact ref05_node_ws d _ ih

theorem ref05_node_w (d : Nat) : ∀ (p0 : ASchema) (p1 : ACond) (R : Int) , ref05_node d p0 p1 = some R → ACall Tryz.prog 158 [.d (encASchema p0), .d (opACond p1)] (.d (.int .i64 R)) := ref05_node_wr d

theorem ref05_Check_w (d : Nat) (p0 : ASchema) (p1 : ACond) (R : Int)  (hF : ref05_Check d p0 p1 = some R) : ACall Tryz.prog 94 [.d (encASchema p0), .d (opACond p1)] (.d (.int .i64 R)) := by
 refine acall Tryz.func94 (by kernel_rfl) ?_
 unfold ref05_Check at hF
 conv => whnf
 obtain ⟨x7, hx7, hF⟩ := bindF hF
 refine callA (ref02_Check_w _ _ hx7) ?_
 conv => whnf
 refine brF hF ebF (fun hF => ?_) (fun hF => ?_)
 ·conv => whnf
  obtain rfl := Option.some.inj hF
  exact ⟨rg0⟩
 conv => whnf
 obtain ⟨x12, hx12, hF⟩ := bindF hF
 refine callA (ref05_count_w _ _ _ _ hx12) ?_
 conv => whnf
 refine brF hF ebF (fun hF => ?_) (fun hF => ?_)
 ·conv => whnf
  obtain rfl := Option.some.inj hF
  exact ⟨rg0⟩
 conv => whnf
 obtain ⟨x15, hx15, hF⟩ := bindF hF
 refine callA (ref05_depth_w _ _ _ hx15) ?_
 conv => whnf
 refine brF hF ebF (fun hF => ?_) (fun hF => ?_)
 ·conv => whnf
  obtain rfl := Option.some.inj hF
  exact ⟨rg0⟩
 conv => whnf
 obtain ⟨x19, hx19, hF⟩ := bindF hF
 refine callA (ref05_node_w _ _ _ _ hx19) ?_
 conv => whnf
 obtain rfl := Option.some.inj hF
 exact ⟨rg0⟩

theorem ref08_Is_w (p0 : ASchema) (p1 : Int) (p2 : Int) (R : Bool)  (hF : ref08_Is p0 p1 p2 = some R) : ACall Tryz.prog 171 [.d (encASchema p0), .d (.int .i64 p1), .d (.int .i64 p2)] (.d (.bool R)) := by
 refine acall Tryz.func171 (by kernel_rfl) ?_
 unfold ref08_Is at hF
 conv => whnf
 refine brF hF ebF (fun hF => ?_) (fun hF => ?_)
 ·refine atF (f := encAColumn) hF ebF fun x20 hx20 hF => ?_
  conv => whnf
  obtain rfl := Option.some.inj hF
  exact ⟨rtF⟩
 obtain rfl := Option.some.inj hF
 exact ⟨rtF⟩

theorem ref08_Dims_w (p0 : ASchema) (p1 : (List APick)) (R : Int)  (hF : ref08_Dims p0 p1 = some R) : ACall Tryz.prog 172 [.d (encASchema p0), .d (lst 2 encAPick p1)] (.d (.int .i64 R)) := by
 refine acall Tryz.func172 (by kernel_rfl) ?_
 unfold ref08_Dims at hF
 conv => whnf
 refine brF hF ebF (fun hF => ?_) (fun hF => ?_)
 ·conv => whnf
  obtain rfl := Option.some.inj hF
  exact ⟨rtF⟩
 conv => whnf
 obtain ⟨Φ1, hΦ1, hF⟩ := iterF hF
 refine loop {p : Nat × Int // Φ1 p.1 p.2 = some R} (fun p => mkS 55 [(1, .d (lst 2 encAPick p1)), (2, .ptr 2 1 0), (5, .d (.int .i64 p.1.2))] [(2, .var [.d (lst 2 encACodeList p0.Lists), .d (lst 7 encAColumn p0.Columns)], 1)]) (fun p => p.1.1) ⟨(_, _), hF⟩ ?_ fun p => ?_
 ·refine leF ?_
  conv => whnf
  exact lfF
 obtain ⟨⟨k1, v5_1⟩, hF⟩ := p
 obtain ⟨k1, rfl, hF⟩ := hΦ1 _ _ hF
 simp only [ref08_Dims_b1] at hF
 conv => whnf
 refine brF hF ebF (fun hF => ?_) (fun hF => ?_)
 ·conv => whnf
  refine ⟨⟨by decide +kernel, by kernel_rfl⟩, ?_⟩
  conv => whnf
  refine atF (f := encAPick) hF ebF fun x25 hx25 hF => ?_
  conv => whnf
  obtain ⟨x27, hx27, hF⟩ := bindF hF
  refine callA (ref02_Pick_w _ _ _ hx27) ?_
  conv => whnf
  refine brF hF ebF (fun hF => ?_) (fun hF => ?_)
  ·conv => whnf
   obtain rfl := Option.some.inj hF
   exact ⟨rtF⟩
  conv => whnf
  refine ⟨⟨by decide +kernel, by kernel_rfl⟩, ?_⟩
  conv => whnf
  refine atF (f := encAPick) hF ebF fun x34 hx34 hF => ?_
  conv => whnf
  obtain ⟨x37, hx37, hF⟩ := bindF hF
  refine callA (ref08_Is_w _ _ _ _ hx37) ?_
  conv => whnf
  refine brF hF ebF (fun hF => ?_) (fun hF => ?_)
  ·conv => whnf
   obtain rfl := Option.some.inj hF
   exact ⟨rtF⟩
  conv => whnf
  obtain ⟨Φ2, hΦ2, hF⟩ := iterF hF
  refine loop {p : Nat × Int // Φ2 p.1 p.2 = some R} (fun p => mkS 55 [(1, .d (lst 2 encAPick p1)), (2, .ptr 2 1 0), (5, .d (.int .i64 v5_1)), (7, .d (.int .i64 p.1.2))] [(2, .var [.d (lst 2 encACodeList p0.Lists), .d (lst 7 encAColumn p0.Columns)], 1)]) (fun p => p.1.1) ⟨(_, _), hF⟩ ?_ fun p => ?_
  ·refine leF ?_
   conv => whnf
   exact lfF
  obtain ⟨⟨k2, v7_2⟩, hF⟩ := p
  obtain ⟨k2, rfl, hF⟩ := hΦ2 _ _ hF
  simp only [ref08_Dims_b2] at hF
  conv => whnf
  refine brF hF ebF (fun hF => ?_) (fun hF => ?_)
  ·conv => whnf
   refine ⟨⟨by decide +kernel, by kernel_rfl⟩, ?_⟩
   conv => whnf
   refine atF (f := encAPick) hF ebF fun x46 hx46 hF => ?_
   conv => whnf
   refine atF (f := encAPick) hF ebF fun x51 hx51 hF => ?_
   conv => whnf
   refine brF hF ebF (fun hF => ?_) (fun hF => ?_)
   ·conv => whnf
    obtain rfl := Option.some.inj hF
    exact ⟨rtF⟩
   conv => whnf
   refine ⟨⟨(_, _), hF⟩, ?_, Nat.lt_succ_self _⟩
   refine leF ?_
   conv => whnf
   exact lfF
  conv => whnf
  try simp only [ref08_Dims_k1] at hF
  refine ⟨⟨(_, _), hF⟩, ?_, Nat.lt_succ_self _⟩
  refine leF ?_
  conv => whnf
  exact lfF
 conv => whnf
 try simp only [ref08_Dims_k1] at hF
 obtain rfl := Option.some.inj hF
 exact ⟨rtF⟩

theorem ref01_Has_w (p0 : (List Int)) (p1 : Int) (R : Bool)  (hF : ref01_Has p0 p1 = some R) : ACall Tryz.prog 174 [.d (lst 1 (D.int .i64) p0), .d (.int .i64 p1)] (.d (.bool R)) := by
 refine acall Tryz.func174 (by kernel_rfl) ?_
 unfold ref01_Has at hF
 conv => whnf
 obtain ⟨Φ1, hΦ1, hF⟩ := iterF hF
 refine loop {p : Nat × Int // Φ1 p.1 p.2 = some R} (fun p => mkS 18 [(0, .d (lst 1 (D.int .i64) p0)), (1, .d (.int .i64 p1)), (5, .d (.int .i64 p.1.2))] []) (fun p => p.1.1) ⟨(_, _), hF⟩ ?_ fun p => ?_
 ·refine leF ?_
  conv => whnf
  exact lfF
 obtain ⟨⟨k1, v5_1⟩, hF⟩ := p
 obtain ⟨k1, rfl, hF⟩ := hΦ1 _ _ hF
 simp only [ref01_Has_b1] at hF
 conv => whnf
 refine brF hF ebF (fun hF => ?_) (fun hF => ?_)
 ·conv => whnf
  refine atF (f := (D.int .i64)) hF ebF fun x14 hx14 hF => ?_
  conv => whnf
  refine brF hF ebF (fun hF => ?_) (fun hF => ?_)
  ·conv => whnf
   obtain rfl := Option.some.inj hF
   exact ⟨rtF⟩
  conv => whnf
  refine ⟨⟨(_, _), hF⟩, ?_, Nat.lt_succ_self _⟩
  refine leF ?_
  conv => whnf
  exact lfF
 conv => whnf
 obtain rfl := Option.some.inj hF
 exact ⟨rtF⟩

theorem ref08_Terms_w (p0 : ASchema) (p1 : Int) (p2 : (List Int)) (R : Int)  (hF : ref08_Terms p0 p1 p2 = some R) : ACall Tryz.prog 173 [.d (encASchema p0), .d (.int .i64 p1), .d (lst 1 (D.int .i64) p2)] (.d (.int .i64 R)) := by
 refine acall Tryz.func173 (by kernel_rfl) ?_
 unfold ref08_Terms at hF
 conv => whnf
 refine brF hF ebF (fun hF => ?_) (fun hF => ?_)
 ·conv => whnf
  obtain rfl := Option.some.inj hF
  exact ⟨rtF⟩
 conv => whnf
 obtain ⟨Φ1, hΦ1, hF⟩ := iterF hF
 refine loop {p : Nat × Int // Φ1 p.1 p.2 = some R} (fun p => mkS 45 [(1, .d (.int .i64 p1)), (2, .d (lst 1 (D.int .i64) p2)), (3, .ptr 3 1 0), (7, .d (.int .i64 p.1.2))] [(3, .var [.d (lst 2 encACodeList p0.Lists), .d (lst 7 encAColumn p0.Columns)], 1)]) (fun p => p.1.1) ⟨(_, _), hF⟩ ?_ fun p => ?_
 ·refine leF ?_
  conv => whnf
  exact lfF
 obtain ⟨⟨k1, v7_1⟩, hF⟩ := p
 obtain ⟨k1, rfl, hF⟩ := hΦ1 _ _ hF
 simp only [ref08_Terms_b1] at hF
 conv => whnf
 refine brF hF ebF (fun hF => ?_) (fun hF => ?_)
 ·conv => whnf
  refine ⟨⟨by decide +kernel, by kernel_rfl⟩, ?_⟩
  conv => whnf
  refine atF (f := (D.int .i64)) hF ebF fun x25 hx25 hF => ?_
  conv => whnf
  obtain ⟨x27, hx27, hF⟩ := bindF hF
  refine callA (ref08_Is_w _ _ _ _ hx27) ?_
  conv => whnf
  refine brF hF ebF (fun hF => ?_) (fun hF => ?_)
  ·conv => whnf
   obtain rfl := Option.some.inj hF
   exact ⟨rtF⟩
  conv => whnf
  refine ⟨⟨by decide +kernel, by kernel_rfl⟩, ?_⟩
  conv => whnf
  refine atF (f := (D.int .i64)) hF ebF fun x31 hx31 hF => ?_
  conv => whnf
  refine brF hF ebF (fun hF => ?_) (fun hF => ?_)
  ·obtain rfl := Option.some.inj hF
   exact ⟨rtF⟩
  obtain ⟨hr, hF⟩ := gdF hF
  refine ⟨by first | exact of_decide_eq_true hr | (simp only [List.length_map]; exact of_decide_eq_true hr), ?_⟩
  try simp only [List.length_map]
  rw [cutM]
  conv => whnf
  refine atF (f := (D.int .i64)) hF ebF fun x41 hx41 hF => ?_
  conv => whnf
  obtain ⟨x43, hx43, hF⟩ := bindF hF
  refine callA (ref01_Has_w _ _ _ hx43) ?_
  conv => whnf
  refine brF hF ebF (fun hF => ?_) (fun hF => ?_)
  ·conv => whnf
   obtain rfl := Option.some.inj hF
   exact ⟨rtF⟩
  conv => whnf
  refine ⟨⟨(_, _), hF⟩, ?_, Nat.lt_succ_self _⟩
  refine leF ?_
  conv => whnf
  exact lfF
 conv => whnf
 obtain rfl := Option.some.inj hF
 exact ⟨rtF⟩

theorem ref08_parts_w (d : Nat) (p0 : ASchema) (p1 : AQuestion) (R : Int)  (hF : ref08_parts d p0 p1 = some R) : ACall Tryz.prog 230 [.d (encASchema p0), .d (encAQuestion p1)] (.d (.int .i64 R)) := by
 refine acall Tryz.func230 (by kernel_rfl) ?_
 unfold ref08_parts at hF
 conv => whnf
 obtain ⟨x10, hx10, hF⟩ := bindF hF
 refine callA (ref08_Is_w _ _ _ _ hx10) ?_
 conv => whnf
 refine brF hF ebF (fun hF => ?_) (fun hF => ?_)
 ·conv => whnf
  obtain ⟨x32, hx32, hF⟩ := bindF hF
  refine callA (ref08_Dims_w _ _ _ hx32) ?_
  conv => whnf
  refine brF hF ebF (fun hF => ?_) (fun hF => ?_)
  ·conv => whnf
   obtain rfl := Option.some.inj hF
   exact ⟨rtF⟩
  conv => whnf
  refine brF hF ebF (fun hF => ?_) (fun hF => ?_)
  ·conv => whnf
   obtain rfl := Option.some.inj hF
   exact ⟨rtF⟩
  conv => whnf
  obtain rfl := Option.some.inj hF
  exact ⟨rtF⟩
 conv => whnf
 refine brF hF ebF (fun hF => ?_) (fun hF => ?_)
 ·conv => whnf
  refine brF hF ebF (fun hF => ?_) (fun hF => ?_)
  ·conv => whnf
   obtain rfl := Option.some.inj hF
   exact ⟨rtF⟩
  conv => whnf
  obtain ⟨x52, hx52, hF⟩ := bindF hF
  refine callA (ref08_Terms_w _ _ _ _ hx52) ?_
  conv => whnf
  obtain rfl := Option.some.inj hF
  exact ⟨rtF⟩
 conv => whnf
 refine brF hF ebF (fun hF => ?_) (fun hF => ?_)
 ·conv => whnf
  obtain rfl := Option.some.inj hF
  exact ⟨rtF⟩
 conv => whnf
 refine atF (f := encAColumn) hF ebF fun x19 hx19 hF => ?_
 conv => whnf
 refine brF hF ebF (fun hF => ?_) (fun hF => ?_)
 ·conv => whnf
  obtain rfl := Option.some.inj hF
  exact ⟨rtF⟩
 conv => whnf
 obtain ⟨x26, hx26, hF⟩ := bindF hF
 refine callA (ref05_Check_w _ _ _ _ hx26) ?_
 conv => whnf
 obtain rfl := Option.some.inj hF
 exact ⟨rtF⟩

theorem ref05_Same_ws (d : Nat) (self_ref05_Same : (ACond → ACond → Option Bool)) (ih_ref05_Same : ∀ (p0 : ACond) (p1 : ACond) (R : Bool) , self_ref05_Same p0 p1 = some R → ACall Tryz.prog 277 [.d (opACond p0), .d (opACond p1)] (.d (.bool R))) (p0 : ACond) (p1 : ACond) (R : Bool)  (hF : ref05_Same_s d self_ref05_Same p0 p1 = some R) : ACall Tryz.prog 277 [.d (opACond p0), .d (opACond p1)] (.d (.bool R)) := by
 refine acall Tryz.func277 (by kernel_rfl) ?_
 unfold ref05_Same_s at hF
 conv => whnf
 refine brF hF ebF (fun hF => ?_) (fun hF => ?_)
 ·conv => whnf
  obtain rfl := Option.some.inj hF
  exact ⟨rg0⟩
 conv => whnf
 obtain ⟨Φ1, hΦ1, hF⟩ := iterF hF
 refine loop {p : Nat × Int // Φ1 p.1 p.2 = some R} (fun p => mkS 67 [(2, .ptr 2 1 0), (3, .ptr 3 1 0), (5, .d (.int .i64 p.1.2))] [(2, .var [.d (.int .i64 p0.Op), .d (.int .i64 p0.Column), .d (.int .i64 p0.Code), .d (.int .i64 p0.Low), .d (.int .i64 p0.High), .d (lst 6 encACond p0.Kids)], 1), (3, .var [.d (.int .i64 p1.Op), .d (.int .i64 p1.Column), .d (.int .i64 p1.Code), .d (.int .i64 p1.Low), .d (.int .i64 p1.High), .d (lst 6 encACond p1.Kids)], 1)]) (fun p => p.1.1) ⟨(_, _), hF⟩ ?_ fun p => ?_
 ·refine leF ?_
  conv => whnf
  exact lg0
 obtain ⟨⟨k1, v5_1⟩, hF⟩ := p
 obtain ⟨k1, rfl, hF⟩ := hΦ1 _ _ hF
 simp only [ref05_Same_b1] at hF
 conv => whnf
 refine brF hF ebF (fun hF => ?_) (fun hF => ?_)
 ·conv => whnf
  refine ⟨⟨by decide +kernel, by kernel_rfl⟩, ?_⟩
  conv => whnf
  refine atF (f := encACond) hF ebF fun x58 hx58 hF => ?_
  rw [encACond_op x58]
  conv => whnf
  refine atF (f := encACond) hF ebF fun x63 hx63 hF => ?_
  rw [encACond_op x63]
  conv => whnf
  obtain ⟨x65, hx65, hF⟩ := bindF hF
  first | refine callA (ih_ref05_Same _ _ _ hx65) ?_ | (simp only [List.length_map]; refine callA (ih_ref05_Same _ _ _ hx65) ?_)
  conv => whnf
  refine brF hF ebF (fun hF => ?_) (fun hF => ?_)
  ·conv => whnf
   obtain rfl := Option.some.inj hF
   exact ⟨rg0⟩
  conv => whnf
  refine ⟨⟨(_, _), hF⟩, ?_, Nat.lt_succ_self _⟩
  refine leF ?_
  conv => whnf
  exact lg0
 conv => whnf
 obtain rfl := Option.some.inj hF
 exact ⟨rg0⟩

theorem ref05_Same_wr : ∀ d : Nat, (∀ (p0 : ACond) (p1 : ACond) (R : Bool) , ref05_Same d p0 p1 = some R → ACall Tryz.prog 277 [.d (opACond p0), .d (opACond p1)] (.d (.bool R)))
  | 0 => by
   refine (by intros; rename_i h; cases h)
  | d + 1 => by
   have ih := ref05_Same_wr d
   exact ref05_Same_ws d _ ih

theorem ref05_Same_w (d : Nat) : ∀ (p0 : ACond) (p1 : ACond) (R : Bool) , ref05_Same d p0 p1 = some R → ACall Tryz.prog 277 [.d (opACond p0), .d (opACond p1)] (.d (.bool R)) := ref05_Same_wr d

theorem ref08_zero_w (d : Nat) (p0 : ACond) (R : Bool)  (hF : ref08_zero d p0 = some R) : ACall Tryz.prog 231 [.d (opACond p0)] (.d (.bool R)) := by
 refine acall Tryz.func231 (by kernel_rfl) ?_
 unfold ref08_zero at hF
 conv => whnf
 obtain ⟨x5, hx5, hF⟩ := bindF hF
 refine callA (ref05_Same_w _ _ _ _ hx5) ?_
 conv => whnf
 obtain rfl := Option.some.inj hF
 exact ⟨rg0⟩

theorem ref08_Question_w (d : Nat) (p0 : ASchema) (p1 : AQuestion) (R : Int)  (hF : ref08_Question d p0 p1 = some R) : ACall Tryz.prog 167 [.d (encASchema p0), .d (encAQuestion p1)] (.d (.int .i64 R)) := by
 refine acall Tryz.func167 (by kernel_rfl) ?_
 unfold ref08_Question at hF
 conv => whnf
 obtain ⟨x9, hx9, hF⟩ := bindF hF
 refine callA (ref02_Check_w _ _ hx9) ?_
 conv => whnf
 refine brF hF ebF (fun hF => ?_) (fun hF => ?_)
 ·conv => whnf
  obtain rfl := Option.some.inj hF
  exact ⟨rtF⟩
 conv => whnf
 obtain ⟨x15, hx15, hF⟩ := bindF hF
 refine callA (ref01_Name_w _ _ hx15) ?_
 conv => whnf
 refine brF hF ebF (fun hF => ?_) (fun hF => ?_)
 ·conv => whnf
  obtain rfl := Option.some.inj hF
  exact ⟨rtF⟩
 conv => whnf
 refine brF hF ebF (fun hF => ?_) (fun hF => ?_)
 ·conv => whnf
  obtain rfl := Option.some.inj hF
  exact ⟨rtF⟩
 conv => whnf
 obtain ⟨x28, hx28, hF⟩ := bindF hF
 refine callA (ref05_Check_w _ _ _ _ hx28) ?_
 conv => whnf
 refine brF hF ebF (fun hF => ?_) (fun hF => ?_)
 ·conv => whnf
  obtain rfl := Option.some.inj hF
  exact ⟨rtF⟩
 conv => whnf
 obtain ⟨x34, hx34, hF⟩ := bindF hF
 refine callA (ref08_parts_w _ _ _ _ hx34) ?_
 conv => whnf
 refine brF hF ebF (fun hF => ?_) (fun hF => ?_)
 ·conv => whnf
  obtain rfl := Option.some.inj hF
  exact ⟨rtF⟩
 conv => whnf
 refine brF hF ebF (fun hF => ?_) (fun hF => ?_)
 ·obtain rfl := Option.some.inj hF
  exact ⟨rtF⟩
 refine brF hF ebF (fun hF => ?_) (fun hF => ?_)
 ·obtain ⟨x65, hx65, hF⟩ := bindF hF
  refine callA (ref08_zero_w _ _ _ hx65) ?_
  conv => whnf
  refine brF hF ebF (fun hF => ?_) (fun hF => ?_)
  ·conv => whnf
   obtain rfl := Option.some.inj hF
   exact ⟨rtF⟩
  conv => whnf
  obtain rfl := Option.some.inj hF
  exact ⟨rtF⟩
 obtain rfl := Option.some.inj hF
 exact ⟨rtF⟩
end Go.Proofs.YtejfnieiaecpkaaGreatDoor.P
