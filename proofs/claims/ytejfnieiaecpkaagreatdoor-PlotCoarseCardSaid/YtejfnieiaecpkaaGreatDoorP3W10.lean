/-
 Printed by wip/tools/mkw.py: walks: condition_Atom condition_width condition_down condition_suffices condition_Needs types_LevelOf schema_Finest schema_blocks schema_Least types_own_c1
-/
import Derived.Test.YtejfnieiaecpkaaGreatDoorChecked
import Derived.Test.YtejfnieiaecpkaaGreatDoorP3F
import Derived.Test.YtejfnieiaecpkaaGreatDoorP3A
import Derived.Test.YtejfnieiaecpkaaGreatDoorP3HW
import Derived.Test.YtejfnieiaecpkaaGreatDoorP3W7
import Derived.Test.YtejfnieiaecpkaaGreatDoorP3W8
import Derived.Test.YtejfnieiaecpkaaGreatDoorP3W9
set_option linter.unusedSimpArgs false
namespace Go.Proofs.YtejfnieiaecpkaaGreatDoor.P
open Go.Abs Go.Proofs
set_option maxRecDepth 100000
set_option maxHeartbeats 4000000
set_option linter.unusedVariables false

theorem condition_Atom_w (p0 : ASchema) (p1 : ACond) (p2 : Int) (R : Int)  (hF : condition_Atom p0 p1 p2 = some R) : ACall Tryz.prog 207 [.d (encASchema p0), .d (opACond p1), .d (.int .i64 p2)] (.d (.int .i64 R)) := by
 refine acall Tryz.func207 (by kernel_rfl) ?_
 unfold condition_Atom at hF
 conv => whnf
 refine brF hF ebF (fun hF => ?_) (fun hF => ?_)
 ·conv => whnf
  refine ⟨⟨by decide +kernel, by kernel_rfl⟩, ?_⟩
  conv => whnf
  refine atF (f := encAColumn) hF ebF fun x17 hx17 hF => ?_
  conv => whnf
  refine atF (f := encACodeList) hF ebF fun x20 hx20 hF => ?_
  conv => whnf
  obtain ⟨x25, hx25, hF⟩ := bindF hF
  refine callA (codes_Under_w _ _ _ _ hx25) ?_
  conv => whnf
  obtain ⟨x26, hx26, hF⟩ := bindF hF
  refine callA (condition_truth_w _ _ hx26) ?_
  conv => whnf
  obtain rfl := Option.some.inj hF
  exact ⟨rg0⟩
 conv => whnf
 refine brF hF ebF (fun hF => ?_) (fun hF => ?_)
 ·conv => whnf
  obtain ⟨x33, hx33, hF⟩ := bindF hF
  refine callA (condition_truth_w _ _ hx33) ?_
  conv => whnf
  obtain rfl := Option.some.inj hF
  exact ⟨rg0⟩
 conv => whnf
 refine brF hF ebF (fun hF => ?_) (fun hF => ?_)
 ·conv => whnf
  obtain rfl := Option.some.inj hF
  exact ⟨rg0⟩
 conv => whnf
 obtain ⟨x47, hx47, hF⟩ := bindF hF
 refine callA (condition_truth_w _ _ hx47) ?_
 conv => whnf
 obtain rfl := Option.some.inj hF
 exact ⟨rg0⟩

theorem condition_width_w (p0 : AColumn) (p1 : Int) (R : Int)  (hF : condition_width p0 p1 = some R) : ACall Tryz.prog 208 [.d (encAColumn p0), .d (.int .i64 p1)] (.d (.int .i64 R)) := by
 refine acall Tryz.func208 (by kernel_rfl) ?_
 unfold condition_width at hF
 conv => whnf
 refine atF (f := (D.int .i64)) hF ebF fun x12 hx12 hF => ?_
 conv => whnf
 obtain rfl := Option.some.inj hF
 exact ⟨rtF⟩

theorem condition_down_w (p0 : Int) (p1 : Int) (R : Int)  (hF : condition_down p0 p1 = some R) : ACall Tryz.prog 209 [.d (.int .i64 p0), .d (.int .i64 p1)] (.d (.int .i64 R)) := by
 refine acall Tryz.func209 (by kernel_rfl) ?_
 unfold condition_down at hF
 conv => whnf
 obtain ⟨hr, hF⟩ := gdF hF
 refine ⟨of_decide_eq_true hr, ?_⟩
 conv => whnf
 refine brF hF ebF (fun hF => ?_) (fun hF => ?_)
 ·conv => whnf
  obtain rfl := Option.some.inj hF
  exact ⟨rtF⟩
 conv => whnf
 obtain rfl := Option.some.inj hF
 exact ⟨rtF⟩

theorem condition_suffices_w (p0 : ASchema) (p1 : ACond) (p2 : Int) (R : Bool)  (hF : condition_suffices p0 p1 p2 = some R) : ACall Tryz.prog 144 [.d (encASchema p0), .d (opACond p1), .d (.int .i64 p2)] (.d (.bool R)) := by
 refine acall Tryz.func144 (by kernel_rfl) ?_
 unfold condition_suffices at hF
 conv => whnf
 refine atF (f := encAColumn) hF ebF fun x23 hx23 hF => ?_
 conv => whnf
 refine brF hF ebF (fun hF => ?_) (fun hF => ?_)
 ·conv => whnf
  refine atF (f := encACodeList) hF ebF fun x32 hx32 hF => ?_
  conv => whnf
  refine ⟨⟨by decide +kernel, by kernel_rfl⟩, ?_⟩
  conv => whnf
  obtain ⟨x37, hx37, hF⟩ := bindF hF
  refine callA (codes_Levels_w _ _ hx37) ?_
  conv => whnf
  obtain ⟨x39, hx39, hF⟩ := bindF hF
  refine callA (codes_At_w _ _ _ hx39) ?_
  conv => whnf
  obtain ⟨Φ1, hΦ1, hF⟩ := iterF hF
  refine loop {p : Nat × (Int × (List (Int × Int))) // Φ1 p.1 p.2 = some R} (fun p => mkS 134 [(2, .d (.int .i64 p2)), (3, .ptr 3 1 0), (4, .ptr 4 1 0), (8, .ptr 8 1 0), (9, .sl 34 1), (39, .d (lst 1 (D.int .i64) x39)), (40, .d (.int .i64 ((x39.length : Nat) : Int))), (41, .d (.int .i64 p.1.2.1))] [(3, .var [.d (lst 2 encACodeList p0.Lists), .d (lst 7 encAColumn p0.Columns)], 1), (4, .var [.d (.int .i64 p1.Op), .d (.int .i64 p1.Column), .d (.int .i64 p1.Code), .d (.int .i64 p1.Low), .d (.int .i64 p1.High), .d (lst 6 encACond p1.Kids)], 1), (8, .var [.d (.str x32.Name), .d (lst 2 encACode x32.Codes)], 1), (34, .map (mpI .i64 (D.int .i64) p.1.2.2), 1)]) (fun p => p.1.1) ⟨(_, (_, _)), hF⟩ ?_ fun p => ?_
  ·refine leF ?_
   conv => whnf
   exact lg0
  obtain ⟨⟨k1, ⟨v41_1, b34_1⟩⟩, hF⟩ := p
  obtain ⟨k1, rfl, hF⟩ := hΦ1 _ _ hF
  simp only [condition_suffices_b1] at hF
  conv => whnf
  refine brF hF ebF (fun hF => ?_) (fun hF => ?_)
  ·conv => whnf
   refine atF (f := (D.int .i64)) hF ebF fun x43 hx43 hF => ?_
   conv => whnf
   refine ⟨⟨by decide +kernel, by kernel_rfl⟩, ?_⟩
   conv => whnf
   obtain ⟨x48, hx48, hF⟩ := bindF hF
   refine callA (codes_Up_w _ _ _ _ hx48) ?_
   conv => whnf
   obtain ⟨x52, hx52, hF⟩ := bindF hF
   refine callA (condition_Atom_w _ _ _ _ hx52) ?_
   conv => whnf
   refine ⟨⟨by kernel_rfl, kind_mpI .i64 (D.int .i64) x48 b34_1⟩, ?_⟩
   conv => whnf
   refine look_mpI (f := (D.int .i64)) (es := b34_1) (z := 0) ?_
   conv => whnf
   refine brF hF ebF (fun hF => ?_) (fun hF => ?_)
   ·conv => whnf
    obtain rfl := Option.some.inj hF
    exact ⟨rg0⟩
   conv => whnf
   refine ⟨⟨by rfl, by kernel_rfl, kind_mpI .i64 (D.int .i64) x48 b34_1⟩, ?_⟩
   conv => whnf
   try rw [upd_mpI .i64 (D.int .i64) x48 x52]
   refine ⟨⟨(_, (_, _)), hF⟩, ?_, Nat.lt_succ_self _⟩
   refine leF ?_
   conv => whnf
   exact lg0
  conv => whnf
  obtain rfl := Option.some.inj hF
  exact ⟨rg0⟩
 conv => whnf
 refine brF hF ebF (fun hF => ?_) (fun hF => ?_)
 ·conv => whnf
  obtain rfl := Option.some.inj hF
  exact ⟨rg0⟩
 conv => whnf
 refine brF hF ebF (fun hF => ?_) (fun hF => ?_)
 ·conv => whnf
  obtain rfl := Option.some.inj hF
  exact ⟨rg0⟩
 conv => whnf
 refine ⟨⟨by decide +kernel, by kernel_rfl⟩, ?_⟩
 conv => whnf
 refine brF hF ebF (fun hF => ?_) (fun hF => ?_)
 ·conv => whnf
  obtain rfl := Option.some.inj hF
  exact ⟨rg0⟩
 conv => whnf
 refine brF hF ebF (fun hF => ?_) (fun hF => ?_)
 ·conv => whnf
  obtain rfl := Option.some.inj hF
  exact ⟨rg0⟩
 conv => whnf
 obtain ⟨x107, hx107, hF⟩ := bindF hF
 refine callA (condition_width_w _ _ _ hx107) ?_
 conv => whnf
 refine brF hF ebF (fun hF => ?_) (fun hF => ?_)
 ·refine brF hF ebF (fun hF => ?_) (fun hF => ?_)
  ·obtain rfl := Option.some.inj hF
   exact ⟨rg0⟩
  obtain ⟨x128, hx128, hF⟩ := bindF hF
  refine callA (condition_down_w _ _ _ hx128) ?_
  conv => whnf
  obtain rfl := Option.some.inj hF
  exact ⟨rg0⟩
 obtain ⟨x115, hx115, hF⟩ := bindF hF
 refine callA (condition_down_w _ _ _ hx115) ?_
 conv => whnf
 refine brF hF ebF (fun hF => ?_) (fun hF => ?_)
 ·refine brF hF ebF (fun hF => ?_) (fun hF => ?_)
  ·obtain rfl := Option.some.inj hF
   exact ⟨rg0⟩
  obtain ⟨x128, hx128, hF⟩ := bindF hF
  refine callA (condition_down_w _ _ _ hx128) ?_
  conv => whnf
  obtain rfl := Option.some.inj hF
  exact ⟨rg0⟩
 obtain rfl := Option.some.inj hF
 exact ⟨rg0⟩

theorem condition_Needs_w (d : Nat) (p0 : ASchema) (p1 : ACond) (R : (List APick))  (hF : condition_Needs d p0 p1 = some R) : ACall Tryz.prog 81 [.d (encASchema p0), .d (opACond p1)] (.d (lst 2 encAPick R)) := by
 refine acall Tryz.func81 (by kernel_rfl) ?_
 unfold condition_Needs at hF
 conv => whnf
 obtain ⟨x14, hx14, hF⟩ := bindF hF
 refine callA (condition_Check_w _ _ _ _ hx14) ?_
 conv => whnf
 refine brF hF ebF (fun hF => ?_) (fun hF => ?_)
 ·conv => whnf
  obtain rfl := Option.some.inj hF
  refine ⟨.inl ?_⟩
  conv => whnf
  exact ⟨rg0⟩
 conv => whnf
 obtain ⟨hr, hF⟩ := gdF hF
 refine ⟨by first | exact mk_ok hr (of_decide_eq_true (by kernel_rfl)) | (simp only [List.length_map]; exact mk_ok hr (of_decide_eq_true (by kernel_rfl))), ?_⟩
 try rw [repM]
 conv => whnf
 obtain ⟨x21, hx21, hF⟩ := bindF hF
 refine callA (condition_Atoms_w _ _ _ hx21) ?_
 conv => whnf
 obtain ⟨Φ1, hΦ1, hF⟩ := iterF hF
 refine loop {p : Nat × (Int × (List Int)) // Φ1 p.1 p.2 = some R} (fun p => mkS 63 [(2, .ptr 2 1 0), (5, .sl 19 1), (21, .d (lst 6 encACond x21)), (22, .d (.int .i64 ((x21.length : Nat) : Int))), (23, .d (.int .i64 p.1.2.1))] [(2, .var [.d (lst 2 encACodeList p0.Lists), .d (lst 7 encAColumn p0.Columns)], 1), (19, .row 1 3 (List.map (D.int .i64) p.1.2.2), 1)]) (fun p => p.1.1) ⟨(_, (_, _)), hF⟩ ?_ fun p => ?_
 ·refine leF ?_
  conv => whnf
  exact lg0
 obtain ⟨⟨k1, ⟨v23_1, b19_1⟩⟩, hF⟩ := p
 obtain ⟨k1, rfl, hF⟩ := hΦ1 _ _ hF
 simp only [condition_Needs_b1] at hF
 conv => whnf
 refine brF hF ebF (fun hF => ?_) (fun hF => ?_)
 ·conv => whnf
  refine atF (f := encACond) hF ebF fun x25 hx25 hF => ?_
  rw [encACond_op x25]
  conv => whnf
  obtain ⟨Φ2, hΦ2, hF⟩ := iterF hF
  refine loop {p : Nat × Int // Φ2 p.1 p.2 = some R} (fun p => mkS 63 [(2, .ptr 2 1 0), (5, .sl 19 1), (7, .ptr 7 1 0), (8, .d (.int .i64 p.1.2)), (21, .d (lst 6 encACond x21)), (22, .d (.int .i64 ((x21.length : Nat) : Int))), (23, .d (.int .i64 v23_1))] [(2, .var [.d (lst 2 encACodeList p0.Lists), .d (lst 7 encAColumn p0.Columns)], 1), (7, .var [.d (.int .i64 x25.Op), .d (.int .i64 x25.Column), .d (.int .i64 x25.Code), .d (.int .i64 x25.Low), .d (.int .i64 x25.High), .d (lst 6 encACond x25.Kids)], 1), (19, .row 1 3 (List.map (D.int .i64) b19_1), 1)]) (fun p => p.1.1) ⟨(_, _), hF⟩ ?_ fun p => ?_
  ·refine leF ?_
   conv => whnf
   exact lg0
  obtain ⟨⟨k2, v8_2⟩, hF⟩ := p
  obtain ⟨k2, rfl, hF⟩ := hΦ2 _ _ hF
  simp only [condition_Needs_b2] at hF
  conv => whnf
  obtain ⟨x30, hx30, hF⟩ := bindF hF
  refine callA (condition_suffices_w _ _ _ _ hx30) ?_
  conv => whnf
  refine brF hF ebF (fun hF => ?_) (fun hF => ?_)
  ·conv => whnf
   refine ⟨⟨(_, _), hF⟩, ?_, Nat.lt_succ_self _⟩
   refine leF ?_
   conv => whnf
   exact lg0
  conv => whnf
  try simp only [condition_Needs_k1] at hF
  refine ⟨⟨by decide +kernel, by kernel_rfl⟩, ?_⟩
  conv => whnf
  refine rowF (f := (D.int .i64)) hF ebF fun x40 hx40 hF => ?_
  conv => whnf
  refine atR (f := (D.int .i64)) hx40 ebF ?_
  conv => whnf
  refine rowF (f := (D.int .i64)) hF ebF fun x44 hx44 hF => ?_
  conv => whnf
  refine atR (f := (D.int .i64)) hx44 ebF ?_
  conv => whnf
  try rw [setM]
  refine ⟨⟨(_, (_, _)), hF⟩, ?_, Nat.lt_succ_self _⟩
  refine leF ?_
  conv => whnf
  exact lg0
 conv => whnf
 try simp only [condition_Needs_k1] at hF
 obtain ⟨Φ3, hΦ3, hF⟩ := iterF hF
 refine loop {p : Nat × (Int × (List APick)) // Φ3 p.1 p.2 = some R} (fun p => mkS 63 [(9, .sl 9 1), (46, .sl 19 1), (47, .d (.int .i64 ((b19_1.length : Nat) : Int))), (48, .d (.int .i64 p.1.2.1))] [(9, .row 2 43 (List.map encAPick p.1.2.2), 1), (19, .row 1 3 (List.map (D.int .i64) b19_1), 1)]) (fun p => p.1.1) ⟨(_, (_, _)), hF⟩ ?_ fun p => ?_
 ·refine leF ?_
  conv => whnf
  exact lg0
 obtain ⟨⟨k3, ⟨v48_3, b9_3⟩⟩, hF⟩ := p
 obtain ⟨k3, rfl, hF⟩ := hΦ3 _ _ hF
 simp only [condition_Needs_b3] at hF
 conv => whnf
 refine brF hF ebF (fun hF => ?_) (fun hF => ?_)
 ·conv => whnf
  refine rowF (f := (D.int .i64)) hF ebF fun x51 hx51 hF => ?_
  conv => whnf
  refine atR (f := (D.int .i64)) hx51 ebF ?_
  conv => whnf
  refine brF hF ebF (fun hF => ?_) (fun hF => ?_)
  ·conv => whnf
   obtain ⟨hr, hF⟩ := gdF hF
   refine ⟨by (simp only [List.length_map]; exact rm_fits hr (of_decide_eq_true (by kernel_rfl)) (.inr (by kernel_rfl))), ?_⟩
   try rw [snoc_APick]
   conv => whnf
   refine ⟨⟨(_, (_, _)), hF⟩, ?_, Nat.lt_succ_self _⟩
   refine leF ?_
   conv => whnf
   exact lg0
  conv => whnf
  refine ⟨⟨(_, (_, _)), hF⟩, ?_, Nat.lt_succ_self _⟩
  refine leF ?_
  conv => whnf
  exact lg0
 conv => whnf
 try simp only [condition_Needs_k1] at hF
 obtain rfl := Option.some.inj hF
 refine ⟨.inl ?_⟩
 conv => whnf
 exact ⟨rg0⟩

theorem types_LevelOf_w (p0 : ASchema) (p1 : Int) (p2 : Int) (R : Int)  (hF : types_LevelOf p0 p1 p2 = some R) : ACall Tryz.prog 41 [.d (encASchema p0), .d (.int .i64 p1), .d (.int .i64 p2)] (.d (.int .i64 R)) := by
 refine acall Tryz.func41 (by kernel_rfl) ?_
 unfold types_LevelOf at hF
 conv => whnf
 refine atF (f := encAColumn) hF ebF fun x13 hx13 hF => ?_
 conv => whnf
 obtain ⟨Φ1, hΦ1, hF⟩ := iterF hF
 refine loop {p : Nat × Int // Φ1 p.1 p.2 = some R} (fun p => mkS 31 [(2, .d (.int .i64 p2)), (7, .d (lst 1 (D.int .i64) x13.Widths)), (16, .d (lst 1 (D.int .i64) x13.Widths)), (17, .d (.int .i64 ((x13.Widths.length : Nat) : Int))), (18, .d (.int .i64 p.1.2))] []) (fun p => p.1.1) ⟨(_, _), hF⟩ ?_ fun p => ?_
 ·refine leF ?_
  conv => whnf
  exact lfF
 obtain ⟨⟨k1, v18_1⟩, hF⟩ := p
 obtain ⟨k1, rfl, hF⟩ := hΦ1 _ _ hF
 simp only [types_LevelOf_b1] at hF
 conv => whnf
 refine brF hF ebF (fun hF => ?_) (fun hF => ?_)
 ·conv => whnf
  refine atF (f := (D.int .i64)) hF ebF fun x21 hx21 hF => ?_
  conv => whnf
  refine brF hF ebF (fun hF => ?_) (fun hF => ?_)
  ·conv => whnf
   obtain rfl := Option.some.inj hF
   exact ⟨rtF⟩
  conv => whnf
  refine ⟨⟨(_, _), hF⟩, ?_, Nat.lt_succ_self _⟩
  refine leF ?_
  conv => whnf
  exact lfF
 conv => whnf
 obtain rfl := Option.some.inj hF
 exact ⟨rtF⟩

theorem schema_Finest_w (p0 : ASchema) (p1 : Int) (R : Int)  (hF : schema_Finest p0 p1 = some R) : ACall Tryz.prog 111 [.d (encASchema p0), .d (.int .i64 p1)] (.d (.int .i64 R)) := by
 refine acall Tryz.func111 (by kernel_rfl) ?_
 unfold schema_Finest at hF
 conv => whnf
 obtain ⟨x6, hx6, hF⟩ := bindF hF
 refine callA (schema_Check_w _ _ hx6) ?_
 conv => whnf
 refine brF hF ebF (fun hF => ?_) (fun hF => ?_)
 ·conv => whnf
  obtain rfl := Option.some.inj hF
  exact ⟨rtF⟩
 conv => whnf
 obtain ⟨x10, hx10, hF⟩ := bindF hF
 refine callA (schema_finest_w _ _ _ hx10) ?_
 conv => whnf
 obtain rfl := Option.some.inj hF
 exact ⟨rtF⟩

theorem schema_blocks_w (p0 : ASchema) (p1 : Int) (p2 : Int) (R : Int)  (hF : schema_blocks p0 p1 p2 = some R) : ACall Tryz.prog 287 [.d (encASchema p0), .d (.int .i64 p1), .d (.int .i64 p2)] (.d (.int .i64 R)) := by
 refine acall Tryz.func287 (by kernel_rfl) ?_
 unfold schema_blocks at hF
 conv => whnf
 refine atF (f := encAColumn) hF ebF fun x13 hx13 hF => ?_
 conv => whnf
 refine brF hF ebF (fun hF => ?_) (fun hF => ?_)
 ·conv => whnf
  refine atF (f := encACodeList) hF ebF fun x22 hx22 hF => ?_
  conv => whnf
  obtain ⟨x25, hx25, hF⟩ := bindF hF
  refine callA (codes_At_w _ _ _ hx25) ?_
  conv => whnf
  obtain rfl := Option.some.inj hF
  exact ⟨rtF⟩
 conv => whnf
 refine brF hF ebF (fun hF => ?_) (fun hF => ?_)
 ·conv => whnf
  obtain rfl := Option.some.inj hF
  exact ⟨rtF⟩
 conv => whnf
 obtain ⟨x31, hx31, hF⟩ := bindF hF
 refine callA (schema_width_w _ _ _ hx31) ?_
 conv => whnf
 refine ⟨⟨by decide +kernel, by kernel_rfl⟩, ?_⟩
 conv => whnf
 obtain ⟨x35, hx35, hF⟩ := bindF hF
 refine callA (schema_down_w _ _ _ hx35) ?_
 conv => whnf
 obtain ⟨x39, hx39, hF⟩ := bindF hF
 refine callA (schema_down_w _ _ _ hx39) ?_
 conv => whnf
 obtain ⟨hr, hF⟩ := gdF hF
 refine ⟨of_decide_eq_true hr, ?_⟩
 conv => whnf
 refine brF hF ebF (fun hF => ?_) (fun hF => ?_)
 ·conv => whnf
  obtain rfl := Option.some.inj hF
  exact ⟨rtF⟩
 conv => whnf
 obtain rfl := Option.some.inj hF
 exact ⟨rtF⟩

theorem schema_Least_w (p0 : ASchema) (p1 : Int) (p2 : Int) (R : Int)  (hF : schema_Least p0 p1 p2 = some R) : ACall Tryz.prog 253 [.d (encASchema p0), .d (.int .i64 p1), .d (.int .i64 p2)] (.d (.int .i64 R)) := by
 refine acall Tryz.func253 (by kernel_rfl) ?_
 unfold schema_Least at hF
 conv => whnf
 obtain ⟨x10, hx10, hF⟩ := bindF hF
 refine callA (schema_Finest_w _ _ _ hx10) ?_
 conv => whnf
 refine brF hF ebF (fun hF => ?_) (fun hF => ?_)
 ·conv => whnf
  obtain rfl := Option.some.inj hF
  exact ⟨rtF⟩
 conv => whnf
 obtain ⟨Φ1, hΦ1, hF⟩ := iterF hF
 refine loop {p : Nat × Int // Φ1 p.1 p.2 = some R} (fun p => mkS 35 [(1, .d (.int .i64 p1)), (2, .d (.int .i64 p.1.2)), (3, .ptr 3 1 0)] [(3, .var [.d (lst 2 encACodeList p0.Lists), .d (lst 7 encAColumn p0.Columns)], 1)]) (fun p => p.1.1) ⟨(_, _), hF⟩ ?_ fun p => ?_
 ·refine leF ?_
  conv => whnf
  exact lfF
 obtain ⟨⟨k1, v2_1⟩, hF⟩ := p
 obtain ⟨k1, rfl, hF⟩ := hΦ1 _ _ hF
 simp only [schema_Least_b1] at hF
 conv => whnf
 refine ⟨⟨by decide +kernel, by kernel_rfl⟩, ?_⟩
 conv => whnf
 refine brF hF ebF (fun hF => ?_) (fun hF => ?_)
 ·obtain ⟨x25, hx25, hF⟩ := bindF hF
  refine callA (schema_blocks_w _ _ _ _ hx25) ?_
  conv => whnf
  obtain ⟨x29, hx29, hF⟩ := bindF hF
  refine callA (schema_blocks_w _ _ _ _ hx29) ?_
  conv => whnf
  refine brF hF ebF (fun hF => ?_) (fun hF => ?_)
  ·conv => whnf
   refine ⟨⟨(_, _), hF⟩, ?_, Nat.lt_succ_self _⟩
   refine leF ?_
   conv => whnf
   exact lfF
  conv => whnf
  obtain rfl := Option.some.inj hF
  exact ⟨rtF⟩
 obtain rfl := Option.some.inj hF
 exact ⟨rtF⟩

theorem types_own_c1_w (p0 : Int) (q0 : (List APick)) (q1 : ASchema) (R : (List APick))  (hF : types_own_c1 p0 q0 q1 = some R) : WCall Tryz.prog 252 [.d (.int .i64 p0), .any, .d (.ptr [(lst 2 encACodeList q1.Lists), (lst 7 encAColumn q1.Columns)])] 1 2 43 (List.map encAPick q0) (List.map encAPick R) := by
 refine wcall [] 0 Tryz.func252 (by kernel_rfl) rfl rfl (by simp) (by decide) rfl ?_
 unfold types_own_c1 at hF
 conv => whnf
 refine ⟨⟨by decide +kernel, by kernel_rfl⟩, ?_⟩
 conv => whnf
 obtain ⟨x10, hx10, hF⟩ := bindF hF
 refine callA (schema_Finest_w _ _ _ hx10) ?_
 conv => whnf
 obtain ⟨x11, hx11, hF⟩ := bindF hF
 refine callA (schema_Least_w _ _ _ _ hx11) ?_
 conv => whnf
 obtain ⟨hr, hF⟩ := gdF hF
 refine ⟨by (simp only [List.length_map]; exact rm_fits hr (of_decide_eq_true (by kernel_rfl)) (.inr (by kernel_rfl))), ?_⟩
 try rw [snoc_APick]
 conv => whnf
 obtain rfl := Option.some.inj hF
 exact ⟨rfl, rfl, rfl, rfl, by first | rfl | (simp only [List.length_map]; rfl)⟩
end Go.Proofs.YtejfnieiaecpkaaGreatDoor.P
