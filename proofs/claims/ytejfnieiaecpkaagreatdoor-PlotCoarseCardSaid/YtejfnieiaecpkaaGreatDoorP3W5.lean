/-
 Printed by wip/tools/mkw.py: walks: ref08_Check ref05_Covers ref05_Raise ref05_Atoms ref01_Under ref05_Atom ref05_decides ref05_Needs ref02_divides ref02_Least ref09_Uses
-/
import Derived.Test.YtejfnieiaecpkaaGreatDoorChecked
import Derived.Test.YtejfnieiaecpkaaGreatDoorP3F
import Derived.Test.YtejfnieiaecpkaaGreatDoorP3A
import Derived.Test.YtejfnieiaecpkaaGreatDoorP3HW
import Derived.Test.YtejfnieiaecpkaaGreatDoorP3W2
import Derived.Test.YtejfnieiaecpkaaGreatDoorP3W3
import Derived.Test.YtejfnieiaecpkaaGreatDoorP3W4
set_option linter.unusedSimpArgs false
namespace Go.Proofs.YtejfnieiaecpkaaGreatDoor.P
open Go.Abs Go.Proofs
set_option maxRecDepth 100000
set_option maxHeartbeats 40000000
set_option linter.unusedVariables false

theorem ref08_Check_w (d : Nat) (p0 : ASchema) (p1 : ADeclaration) (R : Int)  (hF : ref08_Check d p0 p1 = some R) : ACall Tryz.prog 101 [.d (encASchema p0), .d (encADeclaration p1)] (.d (.int .i64 R)) := by
 refine acallJ [6] Tryz.func101 (by kernel_rfl) ?_
 unfold ref08_Check at hF
 conv => whnf
 obtain ⟨x12, hx12, hF⟩ := bindF hF
 refine callA (ref02_Check_w _ _ hx12) ?_
 conv => whnf
 refine brF hF ebF (fun hF => ?_) (fun hF => ?_)
 ·conv => whnf
  obtain rfl := Option.some.inj hF
  exact ⟨rtF⟩
 conv => whnf
 refine join {p : Unit // ref08_Check_j1 d p0 p1 = some R} (fun p => mkS 110 [(2, .ptr 2 1 0), (3, .ptr 3 1 0)] [(2, .var [.d (lst 2 encACodeList p0.Lists), .d (lst 7 encAColumn p0.Columns)], 1), (3, .var [.d (.str p1.Project), .d (.str p1.Source), .d (.int .i64 p1.Cohort.Op), .d (.int .i64 p1.Cohort.Column), .d (.int .i64 p1.Cohort.Code), .d (.int .i64 p1.Cohort.Low), .d (.int .i64 p1.Cohort.High), .d (lst 6 encACond p1.Cohort.Kids), .d (.int .i64 p1.Sample.Part), .d (.int .i64 p1.Sample.Of), .d (.int .i64 p1.Sample.Seed), .d (lst 17 encAQuestion p1.Questions)], 1)]) ?_ fun p => ?_
 ·conv => whnf
  obtain ⟨x18, hx18, hF⟩ := bindF hF
  refine callA (ref01_Name_w _ _ hx18) ?_
  conv => whnf
  refine brF hF ebF (fun hF => ?_) (fun hF => ?_)
  ·obtain rfl := Option.some.inj hF
   exact ⟨rtF⟩
  obtain ⟨x23, hx23, hF⟩ := bindF hF
  refine callA (ref01_Name_w _ _ hx23) ?_
  conv => whnf
  refine brF hF ebF (fun hF => ?_) (fun hF => ?_)
  ·conv => whnf
   obtain rfl := Option.some.inj hF
   exact ⟨rtF⟩
  conv => whnf
  refine ⟨⟨(), hF⟩, ?_⟩
  refine leF ?_
  conv => whnf
  exact lfF
 obtain ⟨_, hF⟩ := p
 simp only [ref08_Check_j1] at hF
 conv => whnf
 obtain ⟨x29, hx29, hF⟩ := bindF hF
 refine callA (ref05_Check_w _ _ _ _ hx29) ?_
 conv => whnf
 refine brF hF ebF (fun hF => ?_) (fun hF => ?_)
 ·conv => whnf
  obtain rfl := Option.some.inj hF
  exact ⟨rtF⟩
 conv => whnf
 refine brF hF ebF (fun hF => ?_) (fun hF => ?_)
 ·conv => whnf
  obtain rfl := Option.some.inj hF
  exact ⟨rtF⟩
 conv => whnf
 refine brF hF ebF (fun hF => ?_) (fun hF => ?_)
 ·conv => whnf
  obtain rfl := Option.some.inj hF
  exact ⟨rtF⟩
 conv => whnf
 obtain ⟨Φ1, hΦ1, hF⟩ := iterF hF
 refine loop {p : Nat × Int // Φ1 p.1 p.2 = some R} (fun p => mkS 110 [(2, .ptr 2 1 0), (3, .ptr 3 1 0), (8, .d (.int .i64 p.1.2))] [(2, .var [.d (lst 2 encACodeList p0.Lists), .d (lst 7 encAColumn p0.Columns)], 1), (3, .var [.d (.str p1.Project), .d (.str p1.Source), .d (.int .i64 p1.Cohort.Op), .d (.int .i64 p1.Cohort.Column), .d (.int .i64 p1.Cohort.Code), .d (.int .i64 p1.Cohort.Low), .d (.int .i64 p1.Cohort.High), .d (lst 6 encACond p1.Cohort.Kids), .d (.int .i64 p1.Sample.Part), .d (.int .i64 p1.Sample.Of), .d (.int .i64 p1.Sample.Seed), .d (lst 17 encAQuestion p1.Questions)], 1)]) (fun p => p.1.1) ⟨(_, _), hF⟩ ?_ fun p => ?_
 ·refine leF ?_
  conv => whnf
  exact lfF
 obtain ⟨⟨k1, v8_1⟩, hF⟩ := p
 obtain ⟨k1, rfl, hF⟩ := hΦ1 _ _ hF
 simp only [ref08_Check_b1] at hF
 conv => whnf
 refine brF hF ebF (fun hF => ?_) (fun hF => ?_)
 ·conv => whnf
  refine ⟨⟨by decide +kernel, by kernel_rfl⟩, ?_⟩
  conv => whnf
  refine atF (f := encAQuestion) hF ebF fun x86 hx86 hF => ?_
  conv => whnf
  obtain ⟨x88, hx88, hF⟩ := bindF hF
  refine callA (ref08_Question_w _ _ _ _ hx88) ?_
  conv => whnf
  refine brF hF ebF (fun hF => ?_) (fun hF => ?_)
  ·conv => whnf
   obtain rfl := Option.some.inj hF
   exact ⟨rtF⟩
  conv => whnf
  obtain ⟨Φ2, hΦ2, hF⟩ := iterF hF
  refine loop {p : Nat × Int // Φ2 p.1 p.2 = some R} (fun p => mkS 110 [(2, .ptr 2 1 0), (3, .ptr 3 1 0), (8, .d (.int .i64 v8_1)), (10, .d (.int .i64 p.1.2))] [(2, .var [.d (lst 2 encACodeList p0.Lists), .d (lst 7 encAColumn p0.Columns)], 1), (3, .var [.d (.str p1.Project), .d (.str p1.Source), .d (.int .i64 p1.Cohort.Op), .d (.int .i64 p1.Cohort.Column), .d (.int .i64 p1.Cohort.Code), .d (.int .i64 p1.Cohort.Low), .d (.int .i64 p1.Cohort.High), .d (lst 6 encACond p1.Cohort.Kids), .d (.int .i64 p1.Sample.Part), .d (.int .i64 p1.Sample.Of), .d (.int .i64 p1.Sample.Seed), .d (lst 17 encAQuestion p1.Questions)], 1)]) (fun p => p.1.1) ⟨(_, _), hF⟩ ?_ fun p => ?_
  ·refine leF ?_
   conv => whnf
   exact lfF
  obtain ⟨⟨k2, v10_2⟩, hF⟩ := p
  obtain ⟨k2, rfl, hF⟩ := hΦ2 _ _ hF
  simp only [ref08_Check_b2] at hF
  conv => whnf
  refine brF hF ebF (fun hF => ?_) (fun hF => ?_)
  ·conv => whnf
   refine ⟨⟨by decide +kernel, by kernel_rfl⟩, ?_⟩
   conv => whnf
   refine atF (f := encAQuestion) hF ebF fun x100 hx100 hF => ?_
   conv => whnf
   refine atF (f := encAQuestion) hF ebF fun x106 hx106 hF => ?_
   conv => whnf
   refine brF hF ebF (fun hF => ?_) (fun hF => ?_)
   ·conv => whnf
    obtain rfl := Option.some.inj hF
    exact ⟨rtF⟩
   conv => whnf
   refine ⟨⟨(_, _), hF⟩, ?_, Nat.lt_succ_self _⟩
   refine leF ?_
   conv => whnf
   exact lfF
  conv => whnf
  try simp only [ref08_Check_k1] at hF
  refine ⟨⟨(_, _), hF⟩, ?_, Nat.lt_succ_self _⟩
  refine leF ?_
  conv => whnf
  exact lfF
 conv => whnf
 try simp only [ref08_Check_k1] at hF
 obtain rfl := Option.some.inj hF
 exact ⟨rtF⟩

theorem ref05_Covers_w (p0 : (List APick)) (p1 : (List APick)) (R : Bool)  (hF : ref05_Covers p0 p1 = some R) : ACall Tryz.prog 95 [.d (lst 2 encAPick p0), .d (lst 2 encAPick p1)] (.d (.bool R)) := by
 refine acall Tryz.func95 (by kernel_rfl) ?_
 unfold ref05_Covers at hF
 conv => whnf
 obtain ⟨Φ1, hΦ1, hF⟩ := iterF hF
 refine loop {p : Nat × Int // Φ1 p.1 p.2 = some R} (fun p => mkS 49 [(0, .d (lst 2 encAPick p0)), (1, .d (lst 2 encAPick p1)), (5, .d (.int .i64 p.1.2))] []) (fun p => p.1.1) ⟨(_, _), hF⟩ ?_ fun p => ?_
 ·refine leF ?_
  conv => whnf
  exact lfF
 obtain ⟨⟨k1, v5_1⟩, hF⟩ := p
 obtain ⟨k1, rfl, hF⟩ := hΦ1 _ _ hF
 simp only [ref05_Covers_b1] at hF
 conv => whnf
 refine brF hF ebF (fun hF => ?_) (fun hF => ?_)
 ·conv => whnf
  obtain ⟨Φ2, hΦ2, hF⟩ := iterF hF
  refine loop {p : Nat × (Bool × Int) // Φ2 p.1 p.2 = some R} (fun p => mkS 49 [(0, .d (lst 2 encAPick p0)), (1, .d (lst 2 encAPick p1)), (5, .d (.int .i64 v5_1)), (6, .d (.bool p.1.2.1)), (7, .d (.int .i64 p.1.2.2))] []) (fun p => p.1.1) ⟨(_, (_, _)), hF⟩ ?_ fun p => ?_
  ·refine leF ?_
   conv => whnf
   exact lfF
  obtain ⟨⟨k2, ⟨v6_2, v7_2⟩⟩, hF⟩ := p
  obtain ⟨k2, rfl, hF⟩ := hΦ2 _ _ hF
  simp only [ref05_Covers_b2] at hF
  conv => whnf
  refine brF hF ebF (fun hF => ?_) (fun hF => ?_)
  ·conv => whnf
   refine ⟨⟨by decide +kernel, by kernel_rfl⟩, ?_⟩
   conv => whnf
   refine brF hF ebF (fun hF => ?_) (fun hF => ?_)
   ·refine ⟨⟨(_, (_, _)), hF⟩, ?_, Nat.lt_succ_self _⟩
    refine leF ?_
    conv => whnf
    exact lfF
   refine atF (f := encAPick) hF ebF fun x24 hx24 hF => ?_
   conv => whnf
   refine atF (f := encAPick) hF ebF fun x29 hx29 hF => ?_
   conv => whnf
   refine brF hF ebF (fun hF => ?_) (fun hF => ?_)
   ·refine atF (f := encAPick) hF ebF fun x36 hx36 hF => ?_
    conv => whnf
    refine atF (f := encAPick) hF ebF fun x41 hx41 hF => ?_
    conv => whnf
    refine ⟨⟨(_, (_, _)), hF⟩, ?_, Nat.lt_succ_self _⟩
    refine leF ?_
    conv => whnf
    exact lfF
   refine ⟨⟨(_, (_, _)), hF⟩, ?_, Nat.lt_succ_self _⟩
   refine leF ?_
   conv => whnf
   exact lfF
  conv => whnf
  refine brF hF ebF (fun hF => ?_) (fun hF => ?_)
  ·conv => whnf
   obtain rfl := Option.some.inj hF
   exact ⟨rtF⟩
  conv => whnf
  refine ⟨⟨(_, _), hF⟩, ?_, Nat.lt_succ_self _⟩
  refine leF ?_
  conv => whnf
  exact lfF
 conv => whnf
 obtain rfl := Option.some.inj hF
 exact ⟨rtF⟩

theorem ref05_Raise_w (p0 : (List APick)) (p1 : Int) (p2 : Int) (R : (List APick))  (hF : ref05_Raise p0 p1 p2 = some R) : ACall Tryz.prog 103 [.d (lst 2 encAPick p0), .d (.int .i64 p1), .d (.int .i64 p2)] (.d (lst 2 encAPick R)) := by
 refine acall Tryz.func103 (by kernel_rfl) ?_
 unfold ref05_Raise at hF
 conv => whnf
 obtain ⟨Φ1, hΦ1, hF⟩ := iterF hF
 refine loop {p : Nat × (Bool × Int × (List APick)) // Φ1 p.1 p.2 = some R} (fun p => mkS 59 [(0, .d (lst 2 encAPick p0)), (1, .d (.int .i64 p1)), (2, .d (.int .i64 p2)), (7, .sl 7 1), (8, .d (.bool p.1.2.1)), (9, .d (.int .i64 p.1.2.2.1))] [(7, .row 2 43 (List.map encAPick p.1.2.2.2), 1)]) (fun p => p.1.1) ⟨(_, (_, _, _)), hF⟩ ?_ fun p => ?_
 ·refine leF ?_
  conv => whnf
  exact lfF
 obtain ⟨⟨k1, ⟨v8_1, v9_1, b7_1⟩⟩, hF⟩ := p
 obtain ⟨k1, rfl, hF⟩ := hΦ1 _ _ hF
 simp only [ref05_Raise_b1] at hF
 conv => whnf
 refine brF hF ebF (fun hF => ?_) (fun hF => ?_)
 ·conv => whnf
  refine atF (f := encAPick) hF ebF fun x21 hx21 hF => ?_
  conv => whnf
  refine brF hF ebF (fun hF => ?_) (fun hF => ?_)
  ·conv => whnf
   obtain ⟨hr, hF⟩ := gdF hF
   refine ⟨by (simp only [List.length_map]; exact rm_fits hr (of_decide_eq_true (by kernel_rfl)) (.inr (by kernel_rfl))), ?_⟩
   try rw [snoc_APick]
   conv => whnf
   refine brF hF ebF (fun hF => ?_) (fun hF => ?_)
   ·conv => whnf
    obtain ⟨hr, hF⟩ := gdF hF
    refine ⟨by (simp only [List.length_map]; exact rm_fits hr (of_decide_eq_true (by kernel_rfl)) (.inr (by kernel_rfl))), ?_⟩
    try rw [snoc_APick]
    conv => whnf
    refine ⟨⟨(_, (_, _, _)), hF⟩, ?_, Nat.lt_succ_self _⟩
    refine leF ?_
    conv => whnf
    exact lfF
   conv => whnf
   obtain ⟨hr, hF⟩ := gdF hF
   refine ⟨by (simp only [List.length_map]; exact rm_fits hr (of_decide_eq_true (by kernel_rfl)) (.inr (by kernel_rfl))), ?_⟩
   try rw [snoc_APick]
   conv => whnf
   refine ⟨⟨(_, (_, _, _)), hF⟩, ?_, Nat.lt_succ_self _⟩
   refine leF ?_
   conv => whnf
   exact lfF
  conv => whnf
  refine brF hF ebF (fun hF => ?_) (fun hF => ?_)
  ·conv => whnf
   obtain ⟨hr, hF⟩ := gdF hF
   refine ⟨by (simp only [List.length_map]; exact rm_fits hr (of_decide_eq_true (by kernel_rfl)) (.inr (by kernel_rfl))), ?_⟩
   try rw [snoc_APick]
   conv => whnf
   refine ⟨⟨(_, (_, _, _)), hF⟩, ?_, Nat.lt_succ_self _⟩
   refine leF ?_
   conv => whnf
   exact lfF
  conv => whnf
  obtain ⟨hr, hF⟩ := gdF hF
  refine ⟨by (simp only [List.length_map]; exact rm_fits hr (of_decide_eq_true (by kernel_rfl)) (.inr (by kernel_rfl))), ?_⟩
  try rw [snoc_APick]
  conv => whnf
  refine ⟨⟨(_, (_, _, _)), hF⟩, ?_, Nat.lt_succ_self _⟩
  refine leF ?_
  conv => whnf
  exact lfF
 conv => whnf
 try simp only [ref05_Raise_k1] at hF
 refine brF hF ebF (fun hF => ?_) (fun hF => ?_)
 ·conv => whnf
  obtain ⟨hr, hF⟩ := gdF hF
  refine ⟨by (simp only [List.length_map]; exact rm_fits hr (of_decide_eq_true (by kernel_rfl)) (.inr (by kernel_rfl))), ?_⟩
  try rw [snoc_APick]
  conv => whnf
  obtain rfl := Option.some.inj hF
  refine ⟨.inl ?_⟩
  conv => whnf
  exact ⟨rtF⟩
 conv => whnf
 obtain rfl := Option.some.inj hF
 refine ⟨.inl ?_⟩
 conv => whnf
 exact ⟨rtF⟩

theorem ref05_Atoms_ws (d : Nat) (self_ref05_Atoms : (ACond → Option (List ACond))) (ih_ref05_Atoms : ∀ (p0 : ACond) (R : (List ACond)) , self_ref05_Atoms p0 = some R → ACall Tryz.prog 159 [.d (opACond p0)] (.d (lst 6 encACond R))) (p0 : ACond) (R : (List ACond))  (hF : ref05_Atoms_s d self_ref05_Atoms p0 = some R) : ACall Tryz.prog 159 [.d (opACond p0)] (.d (lst 6 encACond R)) := by
 refine acall Tryz.func159 (by kernel_rfl) ?_
 unfold ref05_Atoms_s at hF
 conv => whnf
 refine brF hF ebF (fun hF => ?_) (fun hF => ?_)
 ·conv => whnf
  obtain rfl := Option.some.inj hF
  refine ⟨.inl ?_⟩
  conv => whnf
  exact ⟨rg0⟩
 conv => whnf
 obtain ⟨Φ1, hΦ1, hF⟩ := iterF hF
 refine loop {p : Nat × (Int × (List ACond)) // Φ1 p.1 p.2 = some R} (fun p => mkS 36 [(1, .ptr 1 1 0), (3, .sl 3 1), (4, .d (.int .i64 p.1.2.1))] [(1, .var [.d (.int .i64 p0.Op), .d (.int .i64 p0.Column), .d (.int .i64 p0.Code), .d (.int .i64 p0.Low), .d (.int .i64 p0.High), .d (lst 6 encACond p0.Kids)], 1), (3, .row 6 47 (List.map encACond p.1.2.2), 1)]) (fun p => p.1.1) ⟨(_, (_, _)), hF⟩ ?_ fun p => ?_
 ·refine leF ?_
  conv => whnf
  exact lg1
 obtain ⟨⟨k1, ⟨v4_1, b3_1⟩⟩, hF⟩ := p
 obtain ⟨k1, rfl, hF⟩ := hΦ1 _ _ hF
 simp only [ref05_Atoms_b1] at hF
 conv => whnf
 refine brF hF ebF (fun hF => ?_) (fun hF => ?_)
 ·conv => whnf
  refine atF (f := encACond) hF ebF fun x31 hx31 hF => ?_
  rw [encACond_op x31]
  conv => whnf
  obtain ⟨x33, hx33, hF⟩ := bindF hF
  first | refine callA (ih_ref05_Atoms _ _ hx33) ?_ | (simp only [List.length_map]; refine callA (ih_ref05_Atoms _ _ hx33) ?_)
  conv => whnf
  obtain ⟨hr, hF⟩ := gdF hF
  refine ⟨by (simp only [List.length_map]; exact rm_fits hr (of_decide_eq_true (by kernel_rfl)) (.inr (by kernel_rfl))), ?_⟩
  try rw [appM]
  conv => whnf
  refine ⟨⟨(_, (_, _)), hF⟩, ?_, Nat.lt_succ_self _⟩
  refine leF ?_
  conv => whnf
  exact lg1
 conv => whnf
 obtain rfl := Option.some.inj hF
 refine ⟨.inl ?_⟩
 conv => whnf
 exact ⟨rg0⟩

theorem ref05_Atoms_wr : ∀ d : Nat, (∀ (p0 : ACond) (R : (List ACond)) , ref05_Atoms d p0 = some R → ACall Tryz.prog 159 [.d (opACond p0)] (.d (lst 6 encACond R)))
  | 0 => by
   refine (by intros; rename_i h; cases h)
  | d + 1 => by
   have ih := ref05_Atoms_wr d
   exact ref05_Atoms_ws d _ ih

theorem ref05_Atoms_w (d : Nat) : ∀ (p0 : ACond) (R : (List ACond)) , ref05_Atoms d p0 = some R → ACall Tryz.prog 159 [.d (opACond p0)] (.d (lst 6 encACond R)) := ref05_Atoms_wr d

theorem ref01_Under_w (p0 : ACodeList) (p1 : Int) (p2 : Int) (R : Bool)  (hF : ref01_Under p0 p1 p2 = some R) : ACall Tryz.prog 228 [.d (encACodeList p0), .d (.int .i64 p1), .d (.int .i64 p2)] (.d (.bool R)) := by
 refine acall Tryz.func228 (by kernel_rfl) ?_
 unfold ref01_Under at hF
 conv => whnf
 obtain ⟨x10, hx10, hF⟩ := bindF hF
 refine callA (ref01_Level_w _ _ _ hx10) ?_
 conv => whnf
 refine brF hF ebF (fun hF => ?_) (fun hF => ?_)
 ·obtain ⟨x16, hx16, hF⟩ := bindF hF
  refine callA (ref01_Level_w _ _ _ hx16) ?_
  conv => whnf
  refine brF hF ebF (fun hF => ?_) (fun hF => ?_)
  ·obtain ⟨x24, hx24, hF⟩ := bindF hF
   refine callA (ref01_Up_w _ _ _ _ hx24) ?_
   conv => whnf
   obtain rfl := Option.some.inj hF
   exact ⟨rtF⟩
  obtain rfl := Option.some.inj hF
  exact ⟨rtF⟩
 obtain rfl := Option.some.inj hF
 exact ⟨rtF⟩

theorem ref05_Atom_w (p0 : ASchema) (p1 : ACond) (p2 : Int) (R : Int)  (hF : ref05_Atom p0 p1 p2 = some R) : ACall Tryz.prog 161 [.d (encASchema p0), .d (opACond p1), .d (.int .i64 p2)] (.d (.int .i64 R)) := by
 refine acall Tryz.func161 (by kernel_rfl) ?_
 unfold ref05_Atom at hF
 conv => whnf
 refine brF hF ebF (fun hF => ?_) (fun hF => ?_)
 ·conv => whnf
  refine ⟨⟨by decide +kernel, by kernel_rfl⟩, ?_⟩
  conv => whnf
  refine atF (f := encAColumn) hF ebF fun x18 hx18 hF => ?_
  conv => whnf
  refine atF (f := encACodeList) hF ebF fun x21 hx21 hF => ?_
  conv => whnf
  obtain ⟨x26, hx26, hF⟩ := bindF hF
  refine callA (ref01_Under_w _ _ _ _ hx26) ?_
  conv => whnf
  refine brF hF ebF (fun hF => ?_) (fun hF => ?_)
  ·conv => whnf
   obtain rfl := Option.some.inj hF
   exact ⟨rg0⟩
  conv => whnf
  obtain rfl := Option.some.inj hF
  exact ⟨rg0⟩
 conv => whnf
 refine brF hF ebF (fun hF => ?_) (fun hF => ?_)
 ·conv => whnf
  refine brF hF ebF (fun hF => ?_) (fun hF => ?_)
  ·conv => whnf
   obtain rfl := Option.some.inj hF
   exact ⟨rg0⟩
  conv => whnf
  refine brF hF ebF (fun hF => ?_) (fun hF => ?_)
  ·conv => whnf
   obtain rfl := Option.some.inj hF
   exact ⟨rg0⟩
  conv => whnf
  obtain rfl := Option.some.inj hF
  exact ⟨rg0⟩
 conv => whnf
 refine brF hF ebF (fun hF => ?_) (fun hF => ?_)
 ·conv => whnf
  refine brF hF ebF (fun hF => ?_) (fun hF => ?_)
  ·conv => whnf
   obtain rfl := Option.some.inj hF
   exact ⟨rg0⟩
  conv => whnf
  obtain rfl := Option.some.inj hF
  exact ⟨rg0⟩
 conv => whnf
 obtain rfl := Option.some.inj hF
 exact ⟨rg0⟩

theorem ref05_decides_w (p0 : ASchema) (p1 : ACond) (p2 : Int) (R : Bool)  (hF : ref05_decides p0 p1 p2 = some R) : ACall Tryz.prog 160 [.d (encASchema p0), .d (opACond p1), .d (.int .i64 p2)] (.d (.bool R)) := by
 refine acall Tryz.func160 (by kernel_rfl) ?_
 unfold ref05_decides at hF
 conv => whnf
 refine atF (f := encAColumn) hF ebF fun x18 hx18 hF => ?_
 conv => whnf
 refine brF hF ebF (fun hF => ?_) (fun hF => ?_)
 ·conv => whnf
  obtain ⟨x26, hx26, hF⟩ := bindF hF
  refine callA (ref02_Leaves_w _ _ _ hx26) ?_
  conv => whnf
  obtain ⟨Φ1, hΦ1, hF⟩ := iterF hF
  refine loop {p : Nat × Int // Φ1 p.1 p.2 = some R} (fun p => mkS 140 [(2, .d (.int .i64 p2)), (3, .ptr 3 1 0), (4, .ptr 4 1 0), (8, .d (lst 1 (D.int .i64) x26)), (9, .d (.int .i64 p.1.2))] [(3, .var [.d (lst 2 encACodeList p0.Lists), .d (lst 7 encAColumn p0.Columns)], 1), (4, .var [.d (.int .i64 p1.Op), .d (.int .i64 p1.Column), .d (.int .i64 p1.Code), .d (.int .i64 p1.Low), .d (.int .i64 p1.High), .d (lst 6 encACond p1.Kids)], 1)]) (fun p => p.1.1) ⟨(_, _), hF⟩ ?_ fun p => ?_
  ·refine leF ?_
   conv => whnf
   exact lg0
  obtain ⟨⟨k1, v9_1⟩, hF⟩ := p
  obtain ⟨k1, rfl, hF⟩ := hΦ1 _ _ hF
  simp only [ref05_decides_b1] at hF
  conv => whnf
  refine brF hF ebF (fun hF => ?_) (fun hF => ?_)
  ·conv => whnf
   obtain ⟨Φ2, hΦ2, hF⟩ := iterF hF
   refine loop {p : Nat × Int // Φ2 p.1 p.2 = some R} (fun p => mkS 140 [(2, .d (.int .i64 p2)), (3, .ptr 3 1 0), (4, .ptr 4 1 0), (8, .d (lst 1 (D.int .i64) x26)), (9, .d (.int .i64 v9_1)), (10, .d (.int .i64 p.1.2))] [(3, .var [.d (lst 2 encACodeList p0.Lists), .d (lst 7 encAColumn p0.Columns)], 1), (4, .var [.d (.int .i64 p1.Op), .d (.int .i64 p1.Column), .d (.int .i64 p1.Code), .d (.int .i64 p1.Low), .d (.int .i64 p1.High), .d (lst 6 encACond p1.Kids)], 1)]) (fun p => p.1.1) ⟨(_, _), hF⟩ ?_ fun p => ?_
   ·refine leF ?_
    conv => whnf
    exact lg0
   obtain ⟨⟨k2, v10_2⟩, hF⟩ := p
   obtain ⟨k2, rfl, hF⟩ := hΦ2 _ _ hF
   simp only [ref05_decides_b2] at hF
   conv => whnf
   refine brF hF ebF (fun hF => ?_) (fun hF => ?_)
   ·conv => whnf
    refine ⟨⟨by decide +kernel, by kernel_rfl⟩, ?_⟩
    conv => whnf
    refine atF (f := (D.int .i64)) hF ebF fun x44 hx44 hF => ?_
    conv => whnf
    obtain ⟨x46, hx46, hF⟩ := bindF hF
    refine callA (ref02_Coarse_w _ _ _ _ _ hx46) ?_
    conv => whnf
    refine atF (f := (D.int .i64)) hF ebF fun x53 hx53 hF => ?_
    conv => whnf
    obtain ⟨x55, hx55, hF⟩ := bindF hF
    refine callA (ref02_Coarse_w _ _ _ _ _ hx55) ?_
    conv => whnf
    refine brF hF ebF (fun hF => ?_) (fun hF => ?_)
    ·refine atF (f := (D.int .i64)) hF ebF fun x62 hx62 hF => ?_
     conv => whnf
     obtain ⟨x64, hx64, hF⟩ := bindF hF
     refine callA (ref05_Atom_w _ _ _ _ hx64) ?_
     conv => whnf
     refine atF (f := (D.int .i64)) hF ebF fun x69 hx69 hF => ?_
     conv => whnf
     obtain ⟨x71, hx71, hF⟩ := bindF hF
     refine callA (ref05_Atom_w _ _ _ _ hx71) ?_
     conv => whnf
     refine brF hF ebF (fun hF => ?_) (fun hF => ?_)
     ·conv => whnf
      obtain rfl := Option.some.inj hF
      exact ⟨rg0⟩
     conv => whnf
     refine ⟨⟨(_, _), hF⟩, ?_, Nat.lt_succ_self _⟩
     refine leF ?_
     conv => whnf
     exact lg0
    refine ⟨⟨(_, _), hF⟩, ?_, Nat.lt_succ_self _⟩
    refine leF ?_
    conv => whnf
    exact lg0
   conv => whnf
   try simp only [ref05_decides_k1] at hF
   refine ⟨⟨(_, _), hF⟩, ?_, Nat.lt_succ_self _⟩
   refine leF ?_
   conv => whnf
   exact lg0
  conv => whnf
  try simp only [ref05_decides_k1] at hF
  obtain rfl := Option.some.inj hF
  exact ⟨rg0⟩
 conv => whnf
 refine brF hF ebF (fun hF => ?_) (fun hF => ?_)
 ·conv => whnf
  obtain rfl := Option.some.inj hF
  exact ⟨rg0⟩
 conv => whnf
 refine ⟨⟨by decide +kernel, by kernel_rfl⟩, ?_⟩
 conv => whnf
 refine brF hF ebF (fun hF => ?_) (fun hF => ?_)
 ·conv => whnf
  obtain rfl := Option.some.inj hF
  exact ⟨rg0⟩
 conv => whnf
 obtain ⟨x118, hx118, hF⟩ := bindF hF
 refine callA (ref02_Width_w _ _ _ hx118) ?_
 conv => whnf
 refine brF hF ebF (fun hF => ?_) (fun hF => ?_)
 ·refine brF hF ebF (fun hF => ?_) (fun hF => ?_)
  ·obtain rfl := Option.some.inj hF
   exact ⟨rg0⟩
  obtain ⟨hr, hF⟩ := gdF hF
  refine ⟨of_decide_eq_true hr, ?_⟩
  conv => whnf
  obtain rfl := Option.some.inj hF
  exact ⟨rg0⟩
 obtain ⟨hr, hF⟩ := gdF hF
 refine ⟨of_decide_eq_true hr, ?_⟩
 conv => whnf
 refine brF hF ebF (fun hF => ?_) (fun hF => ?_)
 ·refine brF hF ebF (fun hF => ?_) (fun hF => ?_)
  ·obtain rfl := Option.some.inj hF
   exact ⟨rg0⟩
  obtain ⟨hr, hF⟩ := gdF hF
  refine ⟨of_decide_eq_true hr, ?_⟩
  conv => whnf
  obtain rfl := Option.some.inj hF
  exact ⟨rg0⟩
 obtain rfl := Option.some.inj hF
 exact ⟨rg0⟩

theorem ref05_Needs_w (d : Nat) (p0 : ASchema) (p1 : ACond) (R : (List APick))  (hF : ref05_Needs d p0 p1 = some R) : ACall Tryz.prog 96 [.d (encASchema p0), .d (opACond p1)] (.d (lst 2 encAPick R)) := by
 refine acall Tryz.func96 (by kernel_rfl) ?_
 unfold ref05_Needs at hF
 conv => whnf
 obtain ⟨x11, hx11, hF⟩ := bindF hF
 refine callA (ref05_Check_w _ _ _ _ hx11) ?_
 conv => whnf
 refine brF hF ebF (fun hF => ?_) (fun hF => ?_)
 ·conv => whnf
  obtain rfl := Option.some.inj hF
  refine ⟨.inl ?_⟩
  conv => whnf
  exact ⟨rg0⟩
 conv => whnf
 obtain ⟨x14, hx14, hF⟩ := bindF hF
 refine callA (ref05_Atoms_w _ _ _ hx14) ?_
 conv => whnf
 obtain ⟨Φ1, hΦ1, hF⟩ := iterF hF
 refine loop {p : Nat × ((List APick) × Int) // Φ1 p.1 p.2 = some R} (fun p => mkS 40 [(2, .ptr 2 1 0), (5, .d (lst 2 encAPick p.1.2.1)), (6, .d (lst 6 encACond x14)), (7, .d (.int .i64 p.1.2.2))] [(2, .var [.d (lst 2 encACodeList p0.Lists), .d (lst 7 encAColumn p0.Columns)], 1)]) (fun p => p.1.1) ⟨(_, (_, _)), hF⟩ ?_ fun p => ?_
 ·refine leF ?_
  conv => whnf
  exact lg0
 obtain ⟨⟨k1, ⟨v5_1, v7_1⟩⟩, hF⟩ := p
 obtain ⟨k1, rfl, hF⟩ := hΦ1 _ _ hF
 simp only [ref05_Needs_b1] at hF
 conv => whnf
 refine brF hF ebF (fun hF => ?_) (fun hF => ?_)
 ·conv => whnf
  obtain ⟨Φ2, hΦ2, hF⟩ := iterF hF
  refine loop {p : Nat × Int // Φ2 p.1 p.2 = some R} (fun p => mkS 40 [(2, .ptr 2 1 0), (5, .d (lst 2 encAPick v5_1)), (6, .d (lst 6 encACond x14)), (7, .d (.int .i64 v7_1)), (8, .d (.int .i64 p.1.2))] [(2, .var [.d (lst 2 encACodeList p0.Lists), .d (lst 7 encAColumn p0.Columns)], 1)]) (fun p => p.1.1) ⟨(_, _), hF⟩ ?_ fun p => ?_
  ·refine leF ?_
   conv => whnf
   exact lg0
  obtain ⟨⟨k2, v8_2⟩, hF⟩ := p
  obtain ⟨k2, rfl, hF⟩ := hΦ2 _ _ hF
  simp only [ref05_Needs_b2] at hF
  conv => whnf
  refine ⟨⟨by decide +kernel, by kernel_rfl⟩, ?_⟩
  conv => whnf
  refine atF (f := encACond) hF ebF fun x24 hx24 hF => ?_
  rw [encACond_op x24]
  conv => whnf
  obtain ⟨x27, hx27, hF⟩ := bindF hF
  refine callA (ref05_decides_w _ _ _ _ hx27) ?_
  conv => whnf
  refine brF hF ebF (fun hF => ?_) (fun hF => ?_)
  ·conv => whnf
   refine ⟨⟨(_, _), hF⟩, ?_, Nat.lt_succ_self _⟩
   refine leF ?_
   conv => whnf
   exact lg0
  conv => whnf
  try simp only [ref05_Needs_k1] at hF
  refine atF (f := encACond) hF ebF fun x34 hx34 hF => ?_
  rw [encACond_op x34]
  conv => whnf
  obtain ⟨x38, hx38, hF⟩ := bindF hF
  refine callA (ref05_Raise_w _ _ _ _ hx38) ?_
  conv => whnf
  refine ⟨⟨(_, (_, _)), hF⟩, ?_, Nat.lt_succ_self _⟩
  refine leF ?_
  conv => whnf
  exact lg0
 conv => whnf
 try simp only [ref05_Needs_k1] at hF
 obtain rfl := Option.some.inj hF
 exact ⟨rg0⟩

theorem ref02_divides_w (p0 : ASchema) (p1 : Int) (p2 : Int) (p3 : Int) (R : Bool)  (hF : ref02_divides p0 p1 p2 p3 = some R) : ACall Tryz.prog 232 [.d (encASchema p0), .d (.int .i64 p1), .d (.int .i64 p2), .d (.int .i64 p3)] (.d (.bool R)) := by
 refine acall Tryz.func232 (by kernel_rfl) ?_
 unfold ref02_divides at hF
 conv => whnf
 refine atF (f := encAColumn) hF ebF fun x19 hx19 hF => ?_
 conv => whnf
 refine brF hF ebF (fun hF => ?_) (fun hF => ?_)
 ·conv => whnf
  obtain rfl := Option.some.inj hF
  exact ⟨rtF⟩
 conv => whnf
 refine brF hF ebF (fun hF => ?_) (fun hF => ?_)
 ·conv => whnf
  obtain ⟨x33, hx33, hF⟩ := bindF hF
  refine callA (ref02_Leaves_w _ _ _ hx33) ?_
  conv => whnf
  obtain ⟨Φ1, hΦ1, hF⟩ := iterF hF
  refine loop {p : Nat × Int // Φ1 p.1 p.2 = some R} (fun p => mkS 121 [(1, .d (.int .i64 p1)), (2, .d (.int .i64 p2)), (3, .d (.int .i64 p3)), (4, .ptr 4 1 0), (10, .d (lst 1 (D.int .i64) x33)), (11, .d (.int .i64 p.1.2))] [(4, .var [.d (lst 2 encACodeList p0.Lists), .d (lst 7 encAColumn p0.Columns)], 1)]) (fun p => p.1.1) ⟨(_, _), hF⟩ ?_ fun p => ?_
  ·refine leF ?_
   conv => whnf
   exact lfF
  obtain ⟨⟨k1, v11_1⟩, hF⟩ := p
  obtain ⟨k1, rfl, hF⟩ := hΦ1 _ _ hF
  simp only [ref02_divides_b1] at hF
  conv => whnf
  refine brF hF ebF (fun hF => ?_) (fun hF => ?_)
  ·conv => whnf
   obtain ⟨Φ2, hΦ2, hF⟩ := iterF hF
   refine loop {p : Nat × Int // Φ2 p.1 p.2 = some R} (fun p => mkS 121 [(1, .d (.int .i64 p1)), (2, .d (.int .i64 p2)), (3, .d (.int .i64 p3)), (4, .ptr 4 1 0), (10, .d (lst 1 (D.int .i64) x33)), (11, .d (.int .i64 v11_1)), (12, .d (.int .i64 p.1.2))] [(4, .var [.d (lst 2 encACodeList p0.Lists), .d (lst 7 encAColumn p0.Columns)], 1)]) (fun p => p.1.1) ⟨(_, _), hF⟩ ?_ fun p => ?_
   ·refine leF ?_
    conv => whnf
    exact lfF
   obtain ⟨⟨k2, v12_2⟩, hF⟩ := p
   obtain ⟨k2, rfl, hF⟩ := hΦ2 _ _ hF
   simp only [ref02_divides_b2] at hF
   conv => whnf
   refine brF hF ebF (fun hF => ?_) (fun hF => ?_)
   ·conv => whnf
    refine ⟨⟨by decide +kernel, by kernel_rfl⟩, ?_⟩
    conv => whnf
    refine atF (f := (D.int .i64)) hF ebF fun x50 hx50 hF => ?_
    conv => whnf
    obtain ⟨x52, hx52, hF⟩ := bindF hF
    refine callA (ref02_Coarse_w _ _ _ _ _ hx52) ?_
    conv => whnf
    refine atF (f := (D.int .i64)) hF ebF fun x58 hx58 hF => ?_
    conv => whnf
    obtain ⟨x60, hx60, hF⟩ := bindF hF
    refine callA (ref02_Coarse_w _ _ _ _ _ hx60) ?_
    conv => whnf
    refine brF hF ebF (fun hF => ?_) (fun hF => ?_)
    ·refine atF (f := (D.int .i64)) hF ebF fun x68 hx68 hF => ?_
     conv => whnf
     obtain ⟨x70, hx70, hF⟩ := bindF hF
     refine callA (ref02_Coarse_w _ _ _ _ _ hx70) ?_
     conv => whnf
     refine atF (f := (D.int .i64)) hF ebF fun x76 hx76 hF => ?_
     conv => whnf
     obtain ⟨x78, hx78, hF⟩ := bindF hF
     refine callA (ref02_Coarse_w _ _ _ _ _ hx78) ?_
     conv => whnf
     refine brF hF ebF (fun hF => ?_) (fun hF => ?_)
     ·conv => whnf
      obtain rfl := Option.some.inj hF
      exact ⟨rtF⟩
     conv => whnf
     refine ⟨⟨(_, _), hF⟩, ?_, Nat.lt_succ_self _⟩
     refine leF ?_
     conv => whnf
     exact lfF
    refine ⟨⟨(_, _), hF⟩, ?_, Nat.lt_succ_self _⟩
    refine leF ?_
    conv => whnf
    exact lfF
   conv => whnf
   try simp only [ref02_divides_k1] at hF
   refine ⟨⟨(_, _), hF⟩, ?_, Nat.lt_succ_self _⟩
   refine leF ?_
   conv => whnf
   exact lfF
  conv => whnf
  try simp only [ref02_divides_k1] at hF
  obtain rfl := Option.some.inj hF
  exact ⟨rtF⟩
 conv => whnf
 obtain ⟨x83, hx83, hF⟩ := bindF hF
 refine callA (ref02_Width_w _ _ _ hx83) ?_
 conv => whnf
 obtain ⟨x87, hx87, hF⟩ := bindF hF
 refine callA (ref02_Floor_w _ _ _ hx87) ?_
 conv => whnf
 refine brF hF ebF (fun hF => ?_) (fun hF => ?_)
 ·conv => whnf
  obtain rfl := Option.some.inj hF
  exact ⟨rtF⟩
 conv => whnf
 obtain ⟨Φ3, hΦ3, hF⟩ := iterF hF
 refine loop {p : Nat × (Int × Int) // Φ3 p.1 p.2 = some R} (fun p => mkS 121 [(2, .d (.int .i64 p2)), (9, .ptr 9 1 0), (13, .d (.int .i64 x83)), (14, .d (.int .i64 p.1.2.1)), (15, .d (.int .i64 p.1.2.2))] [(9, .var [.d (.str x19.Name), .d (.int .i64 x19.Kind), .d (.int .i64 x19.List_), .d (.int .i64 x19.Low), .d (.int .i64 x19.High), .d (lst 1 (D.int .i64) x19.Widths), .d (.bool x19.Optional)], 1)]) (fun p => p.1.1) ⟨(_, (_, _)), hF⟩ ?_ fun p => ?_
 ·refine leF ?_
  conv => whnf
  exact lfF
 obtain ⟨⟨k3, ⟨v14_3, v15_3⟩⟩, hF⟩ := p
 obtain ⟨k3, rfl, hF⟩ := hΦ3 _ _ hF
 simp only [ref02_divides_b3] at hF
 conv => whnf
 refine brF hF ebF (fun hF => ?_) (fun hF => ?_)
 ·conv => whnf
  obtain ⟨x115, hx115, hF⟩ := bindF hF
  refine callA (ref02_Width_w _ _ _ hx115) ?_
  conv => whnf
  obtain ⟨hr, hF⟩ := gdF hF
  refine ⟨of_decide_eq_true hr, ?_⟩
  conv => whnf
  refine brF hF ebF (fun hF => ?_) (fun hF => ?_)
  ·conv => whnf
   obtain rfl := Option.some.inj hF
   exact ⟨rtF⟩
  conv => whnf
  refine ⟨⟨(_, (_, _)), hF⟩, ?_, Nat.lt_succ_self _⟩
  refine leF ?_
  conv => whnf
  exact lfF
 conv => whnf
 try simp only [ref02_divides_k1] at hF
 obtain rfl := Option.some.inj hF
 exact ⟨rtF⟩

theorem ref02_Least_w (p0 : ASchema) (p1 : Int) (p2 : Int) (R : Int)  (hF : ref02_Least p0 p1 p2 = some R) : ACall Tryz.prog 168 [.d (encASchema p0), .d (.int .i64 p1), .d (.int .i64 p2)] (.d (.int .i64 R)) := by
 refine acall Tryz.func168 (by kernel_rfl) ?_
 unfold ref02_Least at hF
 conv => whnf
 obtain ⟨x11, hx11, hF⟩ := bindF hF
 refine callA (ref02_Finest_w _ _ _ hx11) ?_
 conv => whnf
 obtain ⟨x12, hx12, hF⟩ := bindF hF
 refine callA (ref02_in_w _ _ _ _ hx12) ?_
 conv => whnf
 refine brF hF ebF (fun hF => ?_) (fun hF => ?_)
 ·conv => whnf
  obtain rfl := Option.some.inj hF
  exact ⟨rtF⟩
 conv => whnf
 obtain ⟨Φ1, hΦ1, hF⟩ := iterF hF
 refine loop {p : Nat × Int // Φ1 p.1 p.2 = some R} (fun p => mkS 23 [(1, .d (.int .i64 p1)), (2, .d (.int .i64 p2)), (3, .ptr 3 1 0), (7, .d (.int .i64 p.1.2))] [(3, .var [.d (lst 2 encACodeList p0.Lists), .d (lst 7 encAColumn p0.Columns)], 1)]) (fun p => p.1.1) ⟨(_, _), hF⟩ ?_ fun p => ?_
 ·refine leF ?_
  conv => whnf
  exact lfF
 obtain ⟨⟨k1, v7_1⟩, hF⟩ := p
 obtain ⟨k1, rfl, hF⟩ := hΦ1 _ _ hF
 simp only [ref02_Least_b1] at hF
 conv => whnf
 obtain ⟨x18, hx18, hF⟩ := bindF hF
 refine callA (ref02_divides_w _ _ _ _ _ hx18) ?_
 conv => whnf
 refine brF hF ebF (fun hF => ?_) (fun hF => ?_)
 ·conv => whnf
  refine ⟨⟨(_, _), hF⟩, ?_, Nat.lt_succ_self _⟩
  refine leF ?_
  conv => whnf
  exact lfF
 conv => whnf
 obtain rfl := Option.some.inj hF
 exact ⟨rtF⟩

theorem ref09_Uses_w (p0 : AQuestion) (p1 : Int) (R : Bool)  (hF : ref09_Uses p0 p1 = some R) : ACall Tryz.prog 169 [.d (encAQuestion p0), .d (.int .i64 p1)] (.d (.bool R)) := by
 refine acall Tryz.func169 (by kernel_rfl) ?_
 unfold ref09_Uses at hF
 conv => whnf
 refine brF hF ebF (fun hF => ?_) (fun hF => ?_)
 ·obtain rfl := Option.some.inj hF
  exact ⟨rtF⟩
 obtain ⟨x13, hx13, hF⟩ := bindF hF
 refine callA (ref01_Has_w _ _ _ hx13) ?_
 conv => whnf
 obtain rfl := Option.some.inj hF
 exact ⟨rtF⟩
end Go.Proofs.YtejfnieiaecpkaaGreatDoor.P
