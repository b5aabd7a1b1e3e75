/-
 Printed by wip/tools/mkw.py: walks: condition_count condition_deep condition_kids condition_unused condition_checkOne condition_checkAll condition_Check program_fields program_Pair program_empty program_unused program_measure schema_Pick program_dims_c1
-/
import Derived.Test.YtejfnieiaecpkaaGreatDoorChecked
import Derived.Test.YtejfnieiaecpkaaGreatDoorP3F
import Derived.Test.YtejfnieiaecpkaaGreatDoorP3A
import Derived.Test.YtejfnieiaecpkaaGreatDoorP3HW
import Derived.Test.YtejfnieiaecpkaaGreatDoorP3W7
set_option linter.unusedSimpArgs false
namespace Go.Proofs.YtejfnieiaecpkaaGreatDoor.P
open Go.Abs Go.Proofs
set_option maxRecDepth 100000
set_option maxHeartbeats 4000000
set_option linter.unusedVariables false

theorem condition_count_ws (d : Nat) (self_condition_count : (ACond → Int → Option Int)) (ih_condition_count : ∀ (p0 : ACond) (p1 : Int) (R : Int) , self_condition_count p0 p1 = some R → ACall Tryz.prog 140 [.d (opACond p0), .d (.int .i64 p1)] (.d (.int .i64 R))) (p0 : ACond) (p1 : Int) (R : Int)  (hF : condition_count_s d self_condition_count p0 p1 = some R) : ACall Tryz.prog 140 [.d (opACond p0), .d (.int .i64 p1)] (.d (.int .i64 R)) := by
 refine acall Tryz.func140 (by kernel_rfl) ?_
 unfold condition_count_s at hF
 conv => whnf
 obtain ⟨Φ1, hΦ1, hF⟩ := iterF hF
 refine loop {p : Nat × (Int × Int) // Φ1 p.1 p.2 = some R} (fun p => mkS 27 [(1, .d (.int .i64 p1)), (5, .d (.int .i64 p.1.2.1)), (9, .d (lst 6 encACond p0.Kids)), (10, .d (.int .i64 ((p0.Kids.length : Nat) : Int))), (11, .d (.int .i64 p.1.2.2))] []) (fun p => p.1.1) ⟨(_, (_, _)), hF⟩ ?_ fun p => ?_
 ·refine leF ?_
  conv => whnf
  exact lg0
 obtain ⟨⟨k1, ⟨v5_1, v11_1⟩⟩, hF⟩ := p
 obtain ⟨k1, rfl, hF⟩ := hΦ1 _ _ hF
 simp only [condition_count_b1] at hF
 conv => whnf
 refine brF hF ebF (fun hF => ?_) (fun hF => ?_)
 ·conv => whnf
  refine atF (f := encACond) hF ebF fun x13 hx13 hF => ?_
  rw [encACond_op x13]
  conv => whnf
  refine brF hF ebF (fun hF => ?_) (fun hF => ?_)
  ·conv => whnf
   obtain rfl := Option.some.inj hF
   exact ⟨rg0⟩
  conv => whnf
  obtain ⟨x23, hx23, hF⟩ := bindF hF
  first | refine callA (ih_condition_count _ _ _ hx23) ?_ | (simp only [List.length_map]; refine callA (ih_condition_count _ _ _ hx23) ?_)
  conv => whnf
  refine ⟨⟨(_, (_, _)), hF⟩, ?_, Nat.lt_succ_self _⟩
  refine leF ?_
  conv => whnf
  exact lg0
 conv => whnf
 obtain rfl := Option.some.inj hF
 exact ⟨rg0⟩

theorem condition_count_wr : ∀ d : Nat, (∀ (p0 : ACond) (p1 : Int) (R : Int) , condition_count d p0 p1 = some R → ACall Tryz.prog 140 [.d (opACond p0), .d (.int .i64 p1)] (.d (.int .i64 R)))
  | 0 => by
   refine (by intros; rename_i h; cases h)
  | d + 1 => by
   have ih := condition_count_wr d
   exact condition_count_ws d _ ih

theorem condition_count_w (d : Nat) : ∀ (p0 : ACond) (p1 : Int) (R : Int) , condition_count d p0 p1 = some R → ACall Tryz.prog 140 [.d (opACond p0), .d (.int .i64 p1)] (.d (.int .i64 R)) := condition_count_wr d

theorem condition_deep_ws (d : Nat) (self_condition_deep : (ACond → Option Int)) (ih_condition_deep : ∀ (p0 : ACond) (R : Int) , self_condition_deep p0 = some R → ACall Tryz.prog 141 [.d (opACond p0)] (.d (.int .i64 R))) (p0 : ACond) (R : Int)  (hF : condition_deep_s d self_condition_deep p0 = some R) : ACall Tryz.prog 141 [.d (opACond p0)] (.d (.int .i64 R)) := by
 refine acall Tryz.func141 (by kernel_rfl) ?_
 unfold condition_deep_s at hF
 conv => whnf
 obtain ⟨Φ1, hΦ1, hF⟩ := iterF hF
 refine loop {p : Nat × (Int × Int) // Φ1 p.1 p.2 = some R} (fun p => mkS 20 [(3, .d (.int .i64 p.1.2.1)), (7, .d (lst 6 encACond p0.Kids)), (8, .d (.int .i64 ((p0.Kids.length : Nat) : Int))), (9, .d (.int .i64 p.1.2.2))] []) (fun p => p.1.1) ⟨(_, (_, _)), hF⟩ ?_ fun p => ?_
 ·refine leF ?_
  conv => whnf
  exact lg0
 obtain ⟨⟨k1, ⟨v3_1, v9_1⟩⟩, hF⟩ := p
 obtain ⟨k1, rfl, hF⟩ := hΦ1 _ _ hF
 simp only [condition_deep_b1] at hF
 conv => whnf
 refine brF hF ebF (fun hF => ?_) (fun hF => ?_)
 ·conv => whnf
  refine atF (f := encACond) hF ebF fun x11 hx11 hF => ?_
  rw [encACond_op x11]
  conv => whnf
  obtain ⟨x15, hx15, hF⟩ := bindF hF
  first | refine callA (ih_condition_deep _ _ hx15) ?_ | (simp only [List.length_map]; refine callA (ih_condition_deep _ _ hx15) ?_)
  conv => whnf
  refine ⟨⟨(_, (_, _)), hF⟩, ?_, Nat.lt_succ_self _⟩
  refine leF ?_
  conv => whnf
  exact lg0
 conv => whnf
 obtain rfl := Option.some.inj hF
 exact ⟨rg0⟩

theorem condition_deep_wr : ∀ d : Nat, (∀ (p0 : ACond) (R : Int) , condition_deep d p0 = some R → ACall Tryz.prog 141 [.d (opACond p0)] (.d (.int .i64 R)))
  | 0 => by
   refine (by intros; rename_i h; cases h)
  | d + 1 => by
   have ih := condition_deep_wr d
   exact condition_deep_ws d _ ih

theorem condition_deep_w (d : Nat) : ∀ (p0 : ACond) (R : Int) , condition_deep d p0 = some R → ACall Tryz.prog 141 [.d (opACond p0)] (.d (.int .i64 R)) := condition_deep_wr d

theorem condition_kids_w (p0 : Int) (R : Int)  (hF : condition_kids p0 = some R) : ACall Tryz.prog 261 [.d (.int .i64 p0)] (.d (.int .i64 R)) := by
 refine acall Tryz.func261 (by kernel_rfl) ?_
 unfold condition_kids at hF
 conv => whnf
 refine brF hF ebF (fun hF => ?_) (fun hF => ?_)
 ·conv => whnf
  refine brF hF ebF (fun hF => ?_) (fun hF => ?_)
  ·conv => whnf
   obtain rfl := Option.some.inj hF
   exact ⟨rtF⟩
  conv => whnf
  refine brF hF ebF (fun hF => ?_) (fun hF => ?_)
  ·conv => whnf
   obtain rfl := Option.some.inj hF
   exact ⟨rtF⟩
  conv => whnf
  obtain rfl := Option.some.inj hF
  exact ⟨rtF⟩
 conv => whnf
 refine brF hF ebF (fun hF => ?_) (fun hF => ?_)
 ·conv => whnf
  obtain rfl := Option.some.inj hF
  exact ⟨rtF⟩
 conv => whnf
 refine brF hF ebF (fun hF => ?_) (fun hF => ?_)
 ·conv => whnf
  obtain rfl := Option.some.inj hF
  exact ⟨rtF⟩
 conv => whnf
 obtain rfl := Option.some.inj hF
 exact ⟨rtF⟩

theorem condition_unused_w (p0 : ACond) (R : Bool)  (hF : condition_unused p0 = some R) : ACall Tryz.prog 262 [.d (opACond p0)] (.d (.bool R)) := by
 refine acall Tryz.func262 (by kernel_rfl) ?_
 unfold condition_unused at hF
 conv => whnf
 refine brF hF ebF (fun hF => ?_) (fun hF => ?_)
 ·conv => whnf
  refine brF hF ebF (fun hF => ?_) (fun hF => ?_)
  ·conv => whnf
   obtain rfl := Option.some.inj hF
   exact ⟨rg0⟩
  conv => whnf
  obtain rfl := Option.some.inj hF
  exact ⟨rg0⟩
 conv => whnf
 refine brF hF ebF (fun hF => ?_) (fun hF => ?_)
 ·conv => whnf
  obtain rfl := Option.some.inj hF
  exact ⟨rg0⟩
 conv => whnf
 obtain rfl := Option.some.inj hF
 exact ⟨rg0⟩

theorem condition_checkOne_w (p0 : ASchema) (p1 : ACond) (R : Int)  (hF : condition_checkOne p0 p1 = some R) : ACall Tryz.prog 203 [.d (encASchema p0), .d (opACond p1)] (.d (.int .i64 R)) := by
 refine acallJ [9] Tryz.func203 (by kernel_rfl) ?_
 unfold condition_checkOne at hF
 conv => whnf
 refine join {p : Unit // condition_checkOne_j1 p0 p1 = some R} (fun p => mkS 113 [(2, .ptr 2 1 0), (3, .ptr 3 1 0)] [(2, .var [.d (lst 2 encACodeList p0.Lists), .d (lst 7 encAColumn p0.Columns)], 1), (3, .var [.d (.int .i64 p1.Op), .d (.int .i64 p1.Column), .d (.int .i64 p1.Code), .d (.int .i64 p1.Low), .d (.int .i64 p1.High), .d (lst 6 encACond p1.Kids)], 1)]) ?_ fun p => ?_
 ·conv => whnf
  refine brF hF ebF (fun hF => ?_) (fun hF => ?_)
  ·conv => whnf
   obtain rfl := Option.some.inj hF
   exact ⟨rg0⟩
  conv => whnf
  refine ⟨⟨by decide +kernel, by kernel_rfl⟩, ?_⟩
  conv => whnf
  obtain ⟨x21, hx21, hF⟩ := bindF hF
  refine callA (condition_kids_w _ _ hx21) ?_
  conv => whnf
  refine brF hF ebF (fun hF => ?_) (fun hF => ?_)
  ·obtain rfl := Option.some.inj hF
   exact ⟨rg0⟩
  obtain ⟨x25, hx25, hF⟩ := bindF hF
  refine callA (condition_unused_w _ _ hx25) ?_
  conv => whnf
  refine brF hF ebF (fun hF => ?_) (fun hF => ?_)
  ·conv => whnf
   obtain rfl := Option.some.inj hF
   exact ⟨rg0⟩
  conv => whnf
  refine brF hF ebF (fun hF => ?_) (fun hF => ?_)
  ·conv => whnf
   obtain rfl := Option.some.inj hF
   exact ⟨rg0⟩
  conv => whnf
  refine brF hF ebF (fun hF => ?_) (fun hF => ?_)
  ·conv => whnf
   obtain rfl := Option.some.inj hF
   exact ⟨rg0⟩
  conv => whnf
  refine ⟨⟨(), hF⟩, ?_⟩
  refine leF ?_
  conv => whnf
  exact lg0
 obtain ⟨_, hF⟩ := p
 simp only [condition_checkOne_j1] at hF
 conv => whnf
 refine atF (f := encAColumn) hF ebF fun x58 hx58 hF => ?_
 conv => whnf
 refine brF hF ebF (fun hF => ?_) (fun hF => ?_)
 ·conv => whnf
  refine brF hF ebF (fun hF => ?_) (fun hF => ?_)
  ·conv => whnf
   obtain rfl := Option.some.inj hF
   exact ⟨rg0⟩
  conv => whnf
  refine ⟨⟨by decide +kernel, by kernel_rfl⟩, ?_⟩
  conv => whnf
  refine brF hF ebF (fun hF => ?_) (fun hF => ?_)
  ·obtain rfl := Option.some.inj hF
   exact ⟨rg0⟩
  refine atF (f := encACodeList) hF ebF fun x77 hx77 hF => ?_
  conv => whnf
  refine brF hF ebF (fun hF => ?_) (fun hF => ?_)
  ·conv => whnf
   obtain rfl := Option.some.inj hF
   exact ⟨rg0⟩
  conv => whnf
  obtain rfl := Option.some.inj hF
  exact ⟨rg0⟩
 conv => whnf
 refine brF hF ebF (fun hF => ?_) (fun hF => ?_)
 ·conv => whnf
  refine brF hF ebF (fun hF => ?_) (fun hF => ?_)
  ·conv => whnf
   obtain rfl := Option.some.inj hF
   exact ⟨rg0⟩
  conv => whnf
  refine brF hF ebF (fun hF => ?_) (fun hF => ?_)
  ·conv => whnf
   obtain rfl := Option.some.inj hF
   exact ⟨rg0⟩
  conv => whnf
  obtain rfl := Option.some.inj hF
  exact ⟨rg0⟩
 conv => whnf
 refine brF hF ebF (fun hF => ?_) (fun hF => ?_)
 ·conv => whnf
  refine brF hF ebF (fun hF => ?_) (fun hF => ?_)
  ·conv => whnf
   obtain rfl := Option.some.inj hF
   exact ⟨rg0⟩
  conv => whnf
  obtain rfl := Option.some.inj hF
  exact ⟨rg0⟩
 conv => whnf
 obtain rfl := Option.some.inj hF
 exact ⟨rg0⟩

theorem condition_checkAll_ws (d : Nat) (self_condition_checkAll : (ASchema → ACond → Option Int)) (ih_condition_checkAll : ∀ (p0 : ASchema) (p1 : ACond) (R : Int) , self_condition_checkAll p0 p1 = some R → ACall Tryz.prog 142 [.d (encASchema p0), .d (opACond p1)] (.d (.int .i64 R))) (p0 : ASchema) (p1 : ACond) (R : Int)  (hF : condition_checkAll_s d self_condition_checkAll p0 p1 = some R) : ACall Tryz.prog 142 [.d (encASchema p0), .d (opACond p1)] (.d (.int .i64 R)) := by
 refine acall Tryz.func142 (by kernel_rfl) ?_
 unfold condition_checkAll_s at hF
 conv => whnf
 obtain ⟨x11, hx11, hF⟩ := bindF hF
 refine callA (condition_checkOne_w _ _ _ hx11) ?_
 conv => whnf
 refine brF hF ebF (fun hF => ?_) (fun hF => ?_)
 ·conv => whnf
  obtain rfl := Option.some.inj hF
  exact ⟨rg0⟩
 conv => whnf
 obtain ⟨Φ1, hΦ1, hF⟩ := iterF hF
 refine loop {p : Nat × Int // Φ1 p.1 p.2 = some R} (fun p => mkS 29 [(2, .ptr 2 1 0), (16, .d (lst 6 encACond p1.Kids)), (17, .d (.int .i64 ((p1.Kids.length : Nat) : Int))), (18, .d (.int .i64 p.1.2))] [(2, .var [.d (lst 2 encACodeList p0.Lists), .d (lst 7 encAColumn p0.Columns)], 1)]) (fun p => p.1.1) ⟨(_, _), hF⟩ ?_ fun p => ?_
 ·refine leF ?_
  conv => whnf
  exact lg0
 obtain ⟨⟨k1, v18_1⟩, hF⟩ := p
 obtain ⟨k1, rfl, hF⟩ := hΦ1 _ _ hF
 simp only [condition_checkAll_b1] at hF
 conv => whnf
 refine brF hF ebF (fun hF => ?_) (fun hF => ?_)
 ·conv => whnf
  refine atF (f := encACond) hF ebF fun x20 hx20 hF => ?_
  rw [encACond_op x20]
  conv => whnf
  obtain ⟨x24, hx24, hF⟩ := bindF hF
  first | refine callA (ih_condition_checkAll _ _ _ hx24) ?_ | (simp only [List.length_map]; refine callA (ih_condition_checkAll _ _ _ hx24) ?_)
  conv => whnf
  refine brF hF ebF (fun hF => ?_) (fun hF => ?_)
  ·conv => whnf
   obtain rfl := Option.some.inj hF
   exact ⟨rg0⟩
  conv => whnf
  refine ⟨⟨(_, _), hF⟩, ?_, Nat.lt_succ_self _⟩
  refine leF ?_
  conv => whnf
  exact lg0
 conv => whnf
 obtain rfl := Option.some.inj hF
 exact ⟨rg0⟩

theorem condition_checkAll_wr : ∀ d : Nat, (∀ (p0 : ASchema) (p1 : ACond) (R : Int) , condition_checkAll d p0 p1 = some R → ACall Tryz.prog 142 [.d (encASchema p0), .d (opACond p1)] (.d (.int .i64 R)))
  | 0 => by
   refine (by intros; rename_i h; cases h)
  | d + 1 => by
   have ih := condition_checkAll_wr d
   exact condition_checkAll_ws d _ ih

theorem condition_checkAll_w (d : Nat) : ∀ (p0 : ASchema) (p1 : ACond) (R : Int) , condition_checkAll d p0 p1 = some R → ACall Tryz.prog 142 [.d (encASchema p0), .d (opACond p1)] (.d (.int .i64 R)) := condition_checkAll_wr d

theorem condition_Check_w (d : Nat) (p0 : ASchema) (p1 : ACond) (R : Int)  (hF : condition_Check d p0 p1 = some R) : ACall Tryz.prog 80 [.d (encASchema p0), .d (opACond p1)] (.d (.int .i64 R)) := by
 refine acall Tryz.func80 (by kernel_rfl) ?_
 unfold condition_Check at hF
 conv => whnf
 obtain ⟨x7, hx7, hF⟩ := bindF hF
 refine callA (schema_Check_w _ _ hx7) ?_
 conv => whnf
 refine brF hF ebF (fun hF => ?_) (fun hF => ?_)
 ·conv => whnf
  obtain rfl := Option.some.inj hF
  exact ⟨rg0⟩
 conv => whnf
 obtain ⟨x14, hx14, hF⟩ := bindF hF
 refine callA (condition_count_w _ _ _ _ hx14) ?_
 conv => whnf
 refine brF hF ebF (fun hF => ?_) (fun hF => ?_)
 ·conv => whnf
  obtain rfl := Option.some.inj hF
  exact ⟨rg0⟩
 conv => whnf
 obtain ⟨x18, hx18, hF⟩ := bindF hF
 refine callA (condition_deep_w _ _ _ hx18) ?_
 conv => whnf
 refine brF hF ebF (fun hF => ?_) (fun hF => ?_)
 ·conv => whnf
  obtain rfl := Option.some.inj hF
  exact ⟨rg0⟩
 conv => whnf
 obtain ⟨x22, hx22, hF⟩ := bindF hF
 refine callA (condition_checkAll_w _ _ _ _ hx22) ?_
 conv => whnf
 obtain rfl := Option.some.inj hF
 exact ⟨rg0⟩

theorem program_fields_w (p0 : Int) (R : (Programuses × Bool))  (hF : program_fields p0 = some R) : ACall Tryz.prog 186 [.d (.int .i64 p0)] (.tup [.d (encProgramuses R.1), .d (.bool R.2)]) := by
 refine acallJ [25] Tryz.func186 (by kernel_rfl) ?_
 unfold program_fields at hF
 conv => whnf
 refine join {p : Unit // program_fields_j1 = some R} (fun p => mkS 38 [(2, .ptr 2 1 0)] [(2, .var [.d (.bool false), .d (.bool false), .d (.bool false), .d (.bool false), .d (.bool false), .d (.bool false), .d (.bool false)], 1)]) ?_ fun p => ?_
 ·conv => whnf
  refine brF hF ebF (fun hF => ?_) (fun hF => ?_)
  ·conv => whnf
   obtain rfl := Option.some.inj hF
   exact ⟨rtF⟩
  conv => whnf
  refine brF hF ebF (fun hF => ?_) (fun hF => ?_)
  ·conv => whnf
   obtain rfl := Option.some.inj hF
   exact ⟨rtF⟩
  conv => whnf
  refine brF hF ebF (fun hF => ?_) (fun hF => ?_)
  ·conv => whnf
   obtain rfl := Option.some.inj hF
   exact ⟨rtF⟩
  conv => whnf
  refine brF hF ebF (fun hF => ?_) (fun hF => ?_)
  ·conv => whnf
   refine brF hF ebF (fun hF => ?_) (fun hF => ?_)
   ·conv => whnf
    obtain rfl := Option.some.inj hF
    exact ⟨rtF⟩
   conv => whnf
   refine brF hF ebF (fun hF => ?_) (fun hF => ?_)
   ·conv => whnf
    refine brF hF ebF (fun hF => ?_) (fun hF => ?_)
    ·conv => whnf
     obtain rfl := Option.some.inj hF
     exact ⟨rtF⟩
    conv => whnf
    refine brF hF ebF (fun hF => ?_) (fun hF => ?_)
    ·conv => whnf
     obtain rfl := Option.some.inj hF
     exact ⟨rtF⟩
    conv => whnf
    refine brF hF ebF (fun hF => ?_) (fun hF => ?_)
    ·conv => whnf
     obtain rfl := Option.some.inj hF
     exact ⟨rtF⟩
    conv => whnf
    refine brF hF ebF (fun hF => ?_) (fun hF => ?_)
    ·conv => whnf
     obtain rfl := Option.some.inj hF
     exact ⟨rtF⟩
    conv => whnf
    refine brF hF ebF (fun hF => ?_) (fun hF => ?_)
    ·conv => whnf
     obtain rfl := Option.some.inj hF
     exact ⟨rtF⟩
    conv => whnf
    refine ⟨⟨(), hF⟩, ?_⟩
    refine leF ?_
    conv => whnf
    exact lfF
   conv => whnf
   refine brF hF ebF (fun hF => ?_) (fun hF => ?_)
   ·conv => whnf
    refine brF hF ebF (fun hF => ?_) (fun hF => ?_)
    ·conv => whnf
     obtain rfl := Option.some.inj hF
     exact ⟨rtF⟩
    conv => whnf
    refine brF hF ebF (fun hF => ?_) (fun hF => ?_)
    ·conv => whnf
     obtain rfl := Option.some.inj hF
     exact ⟨rtF⟩
    conv => whnf
    refine brF hF ebF (fun hF => ?_) (fun hF => ?_)
    ·conv => whnf
     obtain rfl := Option.some.inj hF
     exact ⟨rtF⟩
    conv => whnf
    refine brF hF ebF (fun hF => ?_) (fun hF => ?_)
    ·conv => whnf
     obtain rfl := Option.some.inj hF
     exact ⟨rtF⟩
    conv => whnf
    refine brF hF ebF (fun hF => ?_) (fun hF => ?_)
    ·conv => whnf
     obtain rfl := Option.some.inj hF
     exact ⟨rtF⟩
    conv => whnf
    refine ⟨⟨(), hF⟩, ?_⟩
    refine leF ?_
    conv => whnf
    exact lfF
   conv => whnf
   refine brF hF ebF (fun hF => ?_) (fun hF => ?_)
   ·conv => whnf
    refine brF hF ebF (fun hF => ?_) (fun hF => ?_)
    ·conv => whnf
     obtain rfl := Option.some.inj hF
     exact ⟨rtF⟩
    conv => whnf
    refine brF hF ebF (fun hF => ?_) (fun hF => ?_)
    ·conv => whnf
     obtain rfl := Option.some.inj hF
     exact ⟨rtF⟩
    conv => whnf
    refine brF hF ebF (fun hF => ?_) (fun hF => ?_)
    ·conv => whnf
     obtain rfl := Option.some.inj hF
     exact ⟨rtF⟩
    conv => whnf
    refine brF hF ebF (fun hF => ?_) (fun hF => ?_)
    ·conv => whnf
     obtain rfl := Option.some.inj hF
     exact ⟨rtF⟩
    conv => whnf
    refine brF hF ebF (fun hF => ?_) (fun hF => ?_)
    ·conv => whnf
     obtain rfl := Option.some.inj hF
     exact ⟨rtF⟩
    conv => whnf
    refine ⟨⟨(), hF⟩, ?_⟩
    refine leF ?_
    conv => whnf
    exact lfF
   conv => whnf
   refine brF hF ebF (fun hF => ?_) (fun hF => ?_)
   ·conv => whnf
    obtain rfl := Option.some.inj hF
    exact ⟨rtF⟩
   conv => whnf
   refine brF hF ebF (fun hF => ?_) (fun hF => ?_)
   ·conv => whnf
    obtain rfl := Option.some.inj hF
    exact ⟨rtF⟩
   conv => whnf
   refine brF hF ebF (fun hF => ?_) (fun hF => ?_)
   ·conv => whnf
    obtain rfl := Option.some.inj hF
    exact ⟨rtF⟩
   conv => whnf
   refine brF hF ebF (fun hF => ?_) (fun hF => ?_)
   ·conv => whnf
    obtain rfl := Option.some.inj hF
    exact ⟨rtF⟩
   conv => whnf
   refine brF hF ebF (fun hF => ?_) (fun hF => ?_)
   ·conv => whnf
    obtain rfl := Option.some.inj hF
    exact ⟨rtF⟩
   conv => whnf
   refine ⟨⟨(), hF⟩, ?_⟩
   refine leF ?_
   conv => whnf
   exact lfF
  conv => whnf
  refine brF hF ebF (fun hF => ?_) (fun hF => ?_)
  ·conv => whnf
   refine brF hF ebF (fun hF => ?_) (fun hF => ?_)
   ·conv => whnf
    obtain rfl := Option.some.inj hF
    exact ⟨rtF⟩
   conv => whnf
   refine brF hF ebF (fun hF => ?_) (fun hF => ?_)
   ·conv => whnf
    refine brF hF ebF (fun hF => ?_) (fun hF => ?_)
    ·conv => whnf
     obtain rfl := Option.some.inj hF
     exact ⟨rtF⟩
    conv => whnf
    refine brF hF ebF (fun hF => ?_) (fun hF => ?_)
    ·conv => whnf
     obtain rfl := Option.some.inj hF
     exact ⟨rtF⟩
    conv => whnf
    refine brF hF ebF (fun hF => ?_) (fun hF => ?_)
    ·conv => whnf
     obtain rfl := Option.some.inj hF
     exact ⟨rtF⟩
    conv => whnf
    refine brF hF ebF (fun hF => ?_) (fun hF => ?_)
    ·conv => whnf
     obtain rfl := Option.some.inj hF
     exact ⟨rtF⟩
    conv => whnf
    refine brF hF ebF (fun hF => ?_) (fun hF => ?_)
    ·conv => whnf
     obtain rfl := Option.some.inj hF
     exact ⟨rtF⟩
    conv => whnf
    refine ⟨⟨(), hF⟩, ?_⟩
    refine leF ?_
    conv => whnf
    exact lfF
   conv => whnf
   refine brF hF ebF (fun hF => ?_) (fun hF => ?_)
   ·conv => whnf
    refine brF hF ebF (fun hF => ?_) (fun hF => ?_)
    ·conv => whnf
     obtain rfl := Option.some.inj hF
     exact ⟨rtF⟩
    conv => whnf
    refine brF hF ebF (fun hF => ?_) (fun hF => ?_)
    ·conv => whnf
     obtain rfl := Option.some.inj hF
     exact ⟨rtF⟩
    conv => whnf
    refine brF hF ebF (fun hF => ?_) (fun hF => ?_)
    ·conv => whnf
     obtain rfl := Option.some.inj hF
     exact ⟨rtF⟩
    conv => whnf
    refine brF hF ebF (fun hF => ?_) (fun hF => ?_)
    ·conv => whnf
     obtain rfl := Option.some.inj hF
     exact ⟨rtF⟩
    conv => whnf
    refine brF hF ebF (fun hF => ?_) (fun hF => ?_)
    ·conv => whnf
     obtain rfl := Option.some.inj hF
     exact ⟨rtF⟩
    conv => whnf
    refine ⟨⟨(), hF⟩, ?_⟩
    refine leF ?_
    conv => whnf
    exact lfF
   conv => whnf
   refine brF hF ebF (fun hF => ?_) (fun hF => ?_)
   ·conv => whnf
    refine brF hF ebF (fun hF => ?_) (fun hF => ?_)
    ·conv => whnf
     obtain rfl := Option.some.inj hF
     exact ⟨rtF⟩
    conv => whnf
    refine brF hF ebF (fun hF => ?_) (fun hF => ?_)
    ·conv => whnf
     obtain rfl := Option.some.inj hF
     exact ⟨rtF⟩
    conv => whnf
    refine brF hF ebF (fun hF => ?_) (fun hF => ?_)
    ·conv => whnf
     obtain rfl := Option.some.inj hF
     exact ⟨rtF⟩
    conv => whnf
    refine brF hF ebF (fun hF => ?_) (fun hF => ?_)
    ·conv => whnf
     obtain rfl := Option.some.inj hF
     exact ⟨rtF⟩
    conv => whnf
    refine brF hF ebF (fun hF => ?_) (fun hF => ?_)
    ·conv => whnf
     obtain rfl := Option.some.inj hF
     exact ⟨rtF⟩
    conv => whnf
    refine ⟨⟨(), hF⟩, ?_⟩
    refine leF ?_
    conv => whnf
    exact lfF
   conv => whnf
   refine brF hF ebF (fun hF => ?_) (fun hF => ?_)
   ·conv => whnf
    obtain rfl := Option.some.inj hF
    exact ⟨rtF⟩
   conv => whnf
   refine brF hF ebF (fun hF => ?_) (fun hF => ?_)
   ·conv => whnf
    obtain rfl := Option.some.inj hF
    exact ⟨rtF⟩
   conv => whnf
   refine brF hF ebF (fun hF => ?_) (fun hF => ?_)
   ·conv => whnf
    obtain rfl := Option.some.inj hF
    exact ⟨rtF⟩
   conv => whnf
   refine brF hF ebF (fun hF => ?_) (fun hF => ?_)
   ·conv => whnf
    obtain rfl := Option.some.inj hF
    exact ⟨rtF⟩
   conv => whnf
   refine brF hF ebF (fun hF => ?_) (fun hF => ?_)
   ·conv => whnf
    obtain rfl := Option.some.inj hF
    exact ⟨rtF⟩
   conv => whnf
   refine ⟨⟨(), hF⟩, ?_⟩
   refine leF ?_
   conv => whnf
   exact lfF
  conv => whnf
  refine brF hF ebF (fun hF => ?_) (fun hF => ?_)
  ·conv => whnf
   obtain rfl := Option.some.inj hF
   exact ⟨rtF⟩
  conv => whnf
  refine brF hF ebF (fun hF => ?_) (fun hF => ?_)
  ·conv => whnf
   refine brF hF ebF (fun hF => ?_) (fun hF => ?_)
   ·conv => whnf
    obtain rfl := Option.some.inj hF
    exact ⟨rtF⟩
   conv => whnf
   refine brF hF ebF (fun hF => ?_) (fun hF => ?_)
   ·conv => whnf
    obtain rfl := Option.some.inj hF
    exact ⟨rtF⟩
   conv => whnf
   refine brF hF ebF (fun hF => ?_) (fun hF => ?_)
   ·conv => whnf
    obtain rfl := Option.some.inj hF
    exact ⟨rtF⟩
   conv => whnf
   refine brF hF ebF (fun hF => ?_) (fun hF => ?_)
   ·conv => whnf
    obtain rfl := Option.some.inj hF
    exact ⟨rtF⟩
   conv => whnf
   refine brF hF ebF (fun hF => ?_) (fun hF => ?_)
   ·conv => whnf
    obtain rfl := Option.some.inj hF
    exact ⟨rtF⟩
   conv => whnf
   refine ⟨⟨(), hF⟩, ?_⟩
   refine leF ?_
   conv => whnf
   exact lfF
  conv => whnf
  refine brF hF ebF (fun hF => ?_) (fun hF => ?_)
  ·conv => whnf
   refine brF hF ebF (fun hF => ?_) (fun hF => ?_)
   ·conv => whnf
    obtain rfl := Option.some.inj hF
    exact ⟨rtF⟩
   conv => whnf
   refine brF hF ebF (fun hF => ?_) (fun hF => ?_)
   ·conv => whnf
    obtain rfl := Option.some.inj hF
    exact ⟨rtF⟩
   conv => whnf
   refine brF hF ebF (fun hF => ?_) (fun hF => ?_)
   ·conv => whnf
    obtain rfl := Option.some.inj hF
    exact ⟨rtF⟩
   conv => whnf
   refine brF hF ebF (fun hF => ?_) (fun hF => ?_)
   ·conv => whnf
    obtain rfl := Option.some.inj hF
    exact ⟨rtF⟩
   conv => whnf
   refine brF hF ebF (fun hF => ?_) (fun hF => ?_)
   ·conv => whnf
    obtain rfl := Option.some.inj hF
    exact ⟨rtF⟩
   conv => whnf
   refine ⟨⟨(), hF⟩, ?_⟩
   refine leF ?_
   conv => whnf
   exact lfF
  conv => whnf
  refine brF hF ebF (fun hF => ?_) (fun hF => ?_)
  ·conv => whnf
   refine brF hF ebF (fun hF => ?_) (fun hF => ?_)
   ·conv => whnf
    obtain rfl := Option.some.inj hF
    exact ⟨rtF⟩
   conv => whnf
   refine brF hF ebF (fun hF => ?_) (fun hF => ?_)
   ·conv => whnf
    obtain rfl := Option.some.inj hF
    exact ⟨rtF⟩
   conv => whnf
   refine brF hF ebF (fun hF => ?_) (fun hF => ?_)
   ·conv => whnf
    obtain rfl := Option.some.inj hF
    exact ⟨rtF⟩
   conv => whnf
   refine brF hF ebF (fun hF => ?_) (fun hF => ?_)
   ·conv => whnf
    obtain rfl := Option.some.inj hF
    exact ⟨rtF⟩
   conv => whnf
   refine brF hF ebF (fun hF => ?_) (fun hF => ?_)
   ·conv => whnf
    obtain rfl := Option.some.inj hF
    exact ⟨rtF⟩
   conv => whnf
   refine ⟨⟨(), hF⟩, ?_⟩
   refine leF ?_
   conv => whnf
   exact lfF
  conv => whnf
  refine brF hF ebF (fun hF => ?_) (fun hF => ?_)
  ·conv => whnf
   obtain rfl := Option.some.inj hF
   exact ⟨rtF⟩
  conv => whnf
  refine brF hF ebF (fun hF => ?_) (fun hF => ?_)
  ·conv => whnf
   obtain rfl := Option.some.inj hF
   exact ⟨rtF⟩
  conv => whnf
  refine brF hF ebF (fun hF => ?_) (fun hF => ?_)
  ·conv => whnf
   obtain rfl := Option.some.inj hF
   exact ⟨rtF⟩
  conv => whnf
  refine brF hF ebF (fun hF => ?_) (fun hF => ?_)
  ·conv => whnf
   obtain rfl := Option.some.inj hF
   exact ⟨rtF⟩
  conv => whnf
  refine brF hF ebF (fun hF => ?_) (fun hF => ?_)
  ·conv => whnf
   obtain rfl := Option.some.inj hF
   exact ⟨rtF⟩
  conv => whnf
  refine ⟨⟨(), hF⟩, ?_⟩
  refine leF ?_
  conv => whnf
  exact lfF
 obtain ⟨_, hF⟩ := p
 simp only [program_fields_j1] at hF
 conv => whnf
 obtain rfl := Option.some.inj hF
 exact ⟨rtF⟩

theorem program_Pair_w (p0 : Int) (R : Bool)  (hF : program_Pair p0 = some R) : ACall Tryz.prog 189 [.d (.int .i64 p0)] (.d (.bool R)) := by
 refine acall Tryz.func189 (by kernel_rfl) ?_
 unfold program_Pair at hF
 conv => whnf
 obtain rfl := Option.some.inj hF
 exact ⟨rtF⟩

theorem program_empty_w (p0 : ACond) (R : Bool)  (hF : program_empty p0 = some R) : ACall Tryz.prog 247 [.d (opACond p0)] (.d (.bool R)) := by
 refine acall Tryz.func247 (by kernel_rfl) ?_
 unfold program_empty at hF
 conv => whnf
 obtain rfl := Option.some.inj hF
 exact ⟨rg0⟩

theorem program_unused_w (p0 : AExpr) (p1 : Programuses) (R : Bool)  (hF : program_unused p0 p1 = some R) : ACall Tryz.prog 187 [.d (opAExpr p0), .d (encProgramuses p1)] (.d (.bool R)) := by
 refine acall Tryz.func187 (by kernel_rfl) ?_
 unfold program_unused at hF
 conv => whnf
 refine brF hF ebF (fun hF => ?_) (fun hF => ?_)
 ·refine brF hF ebF (fun hF => ?_) (fun hF => ?_)
  ·refine brF hF ebF (fun hF => ?_) (fun hF => ?_)
   ·obtain ⟨x71, hx71, hF⟩ := bindF hF
    refine callA (program_Pair_w _ _ hx71) ?_
    conv => whnf
    obtain rfl := Option.some.inj hF
    exact ⟨rg0⟩
   obtain ⟨x65, hx65, hF⟩ := bindF hF
   refine callA (program_empty_w _ _ hx65) ?_
   conv => whnf
   refine brF hF ebF (fun hF => ?_) (fun hF => ?_)
   ·obtain ⟨x71, hx71, hF⟩ := bindF hF
    refine callA (program_Pair_w _ _ hx71) ?_
    conv => whnf
    obtain rfl := Option.some.inj hF
    exact ⟨rg0⟩
   obtain rfl := Option.some.inj hF
   exact ⟨rg0⟩
  obtain ⟨x56, hx56, hF⟩ := bindF hF
  refine callA (program_empty_w _ _ hx56) ?_
  conv => whnf
  refine brF hF ebF (fun hF => ?_) (fun hF => ?_)
  ·refine brF hF ebF (fun hF => ?_) (fun hF => ?_)
   ·obtain ⟨x71, hx71, hF⟩ := bindF hF
    refine callA (program_Pair_w _ _ hx71) ?_
    conv => whnf
    obtain rfl := Option.some.inj hF
    exact ⟨rg0⟩
   obtain ⟨x65, hx65, hF⟩ := bindF hF
   refine callA (program_empty_w _ _ hx65) ?_
   conv => whnf
   refine brF hF ebF (fun hF => ?_) (fun hF => ?_)
   ·obtain ⟨x71, hx71, hF⟩ := bindF hF
    refine callA (program_Pair_w _ _ hx71) ?_
    conv => whnf
    obtain rfl := Option.some.inj hF
    exact ⟨rg0⟩
   obtain rfl := Option.some.inj hF
   exact ⟨rg0⟩
  obtain rfl := Option.some.inj hF
  exact ⟨rg0⟩
 obtain rfl := Option.some.inj hF
 exact ⟨rg0⟩

theorem program_measure_w (p0 : ASchema) (p1 : Int) (R : Bool)  (hF : program_measure p0 p1 = some R) : ACall Tryz.prog 248 [.d (encASchema p0), .d (.int .i64 p1)] (.d (.bool R)) := by
 refine acall Tryz.func248 (by kernel_rfl) ?_
 unfold program_measure at hF
 conv => whnf
 refine brF hF ebF (fun hF => ?_) (fun hF => ?_)
 ·refine atF (f := encAColumn) hF ebF fun x18 hx18 hF => ?_
  conv => whnf
  obtain rfl := Option.some.inj hF
  exact ⟨rtF⟩
 obtain rfl := Option.some.inj hF
 exact ⟨rtF⟩

theorem schema_Pick_w (p0 : ASchema) (p1 : APick) (R : Int)  (hF : schema_Pick p0 p1 = some R) : ACall Tryz.prog 285 [.d (encASchema p0), .d (encAPick p1)] (.d (.int .i64 R)) := by
 refine acall Tryz.func285 (by kernel_rfl) ?_
 unfold schema_Pick at hF
 conv => whnf
 obtain ⟨x7, hx7, hF⟩ := bindF hF
 refine callA (schema_Check_w _ _ hx7) ?_
 conv => whnf
 refine brF hF ebF (fun hF => ?_) (fun hF => ?_)
 ·conv => whnf
  obtain rfl := Option.some.inj hF
  exact ⟨rtF⟩
 conv => whnf
 obtain ⟨x13, hx13, hF⟩ := bindF hF
 refine callA (schema_pick_w _ _ _ hx13) ?_
 conv => whnf
 obtain rfl := Option.some.inj hF
 exact ⟨rtF⟩

theorem program_dims_c1_w (p0 : APick) (q0 : APick) (R : Bool)  (hF : program_dims_c1 p0 q0 = some R) : ACall Tryz.prog 286 [.d (encAPick p0), .d (.ptr [(.int .i64 q0.Column), (.int .i64 q0.Level)])] (.d (.bool R)) := by
 refine acall Tryz.func286 (by kernel_rfl) ?_
 unfold program_dims_c1 at hF
 conv => whnf
 obtain rfl := Option.some.inj hF
 exact ⟨rtF⟩
end Go.Proofs.YtejfnieiaecpkaaGreatDoor.P
