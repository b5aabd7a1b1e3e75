/-
 Printed by wip/tools/mkw.py: walks: codes_Name codes_depths codes_Check schema_Check_c1 schema_checkColumn_c1 schema_checkMeasure schema_unused schema_checkColumn schema_Check codes_Levels schema_finest schema_pick schema_Picks codes_At codes_has codes_Up schema_width schema_down schema_span schema_Some extract_fits extract_Check
-/
import Derived.Test.YtejfnieiaecpkaaGreatDoorChecked
import Derived.Test.YtejfnieiaecpkaaGreatDoorP3F
import Derived.Test.YtejfnieiaecpkaaGreatDoorP3A
import Derived.Test.YtejfnieiaecpkaaGreatDoorP3HW
import Derived.Test.YtejfnieiaecpkaaGreatDoorP3W1
set_option linter.unusedSimpArgs false
namespace Go.Proofs.YtejfnieiaecpkaaGreatDoor.P
open Go.Abs Go.Proofs
set_option maxRecDepth 100000
set_option maxHeartbeats 4000000
set_option linter.unusedVariables false

theorem codes_Name_w (p0 : ByteArray) (R : Bool)  (hF : codes_Name p0 = some R) : ACall Tryz.prog 118 [.d (.str p0)] (.d (.bool R)) := by
 refine acallJ [3, 9] Tryz.func118 (by kernel_rfl) ?_
 unfold codes_Name at hF
 conv => whnf
 refine join {p : Unit // codes_Name_j1 p0 = some R} (fun p => mkS 62 [(0, .d (.str p0))] []) ?_ fun p => ?_
 ·conv => whnf
  refine brF hF ebF (fun hF => ?_) (fun hF => ?_)
  ·obtain rfl := Option.some.inj hF
   exact ⟨rtF⟩
  obtain ⟨hr, hF⟩ := gdF hF
  refine ⟨of_decide_eq_true hr, ?_⟩
  conv => whnf
  refine brF hF ebF (fun hF => ?_) (fun hF => ?_)
  ·obtain rfl := Option.some.inj hF
   exact ⟨rtF⟩
  obtain ⟨hr, hF⟩ := gdF hF
  refine ⟨of_decide_eq_true hr, ?_⟩
  conv => whnf
  refine brF hF ebF (fun hF => ?_) (fun hF => ?_)
  ·conv => whnf
   obtain rfl := Option.some.inj hF
   exact ⟨rtF⟩
  conv => whnf
  refine ⟨⟨(), hF⟩, ?_⟩
  refine leF ?_
  conv => whnf
  exact lfF
 obtain ⟨_, hF⟩ := p
 simp only [codes_Name_j1] at hF
 conv => whnf
 refine join {p : Unit // codes_Name_j2 p0 = some R} (fun p => mkS 62 [(0, .d (.str p0))] []) ?_ fun p => ?_
 ·conv => whnf
  obtain ⟨Φ1, hΦ1, hF⟩ := iterF hF
  refine loop {p : Nat × Int // Φ1 p.1 p.2 = some R} (fun p => mkS 62 [(0, .d (.str p0)), (24, .d (lst 1 (D.int .u8) (bytesOf p0))), (25, .d (.int .i64 (((bytesOf p0).length : Nat) : Int))), (26, .d (.int .i64 p.1.2))] []) (fun p => p.1.1) ⟨(_, _), hF⟩ ?_ fun p => ?_
  ·refine leF ?_
   conv => whnf
   exact lfF
  obtain ⟨⟨k1, v26_1⟩, hF⟩ := p
  obtain ⟨k1, rfl, hF⟩ := hΦ1 _ _ hF
  simp only [codes_Name_b1] at hF
  conv => whnf
  refine brF hF ebF (fun hF => ?_) (fun hF => ?_)
  ·conv => whnf
   refine atF (f := (D.int .u8)) hF ebF fun x28 hx28 hF => ?_
   conv => whnf
   refine brF hF ebF (fun hF => ?_) (fun hF => ?_)
   ·conv => whnf
    obtain rfl := Option.some.inj hF
    exact ⟨rtF⟩
   conv => whnf
   refine ⟨⟨(_, _), hF⟩, ?_, Nat.lt_succ_self _⟩
   refine leF ?_
   conv => whnf
   exact lfF
  conv => whnf
  refine ⟨⟨(), hF⟩, ?_⟩
  refine leF ?_
  conv => whnf
  exact lfF
 obtain ⟨_, hF⟩ := p
 simp only [codes_Name_j2] at hF
 conv => whnf
 refine brF hF ebF (fun hF => ?_) (fun hF => ?_)
 ·conv => whnf
  refine brF hF ebF (fun hF => ?_) (fun hF => ?_)
  ·conv => whnf
   obtain rfl := Option.some.inj hF
   exact ⟨rtF⟩
  conv => whnf
  obtain rfl := Option.some.inj hF
  exact ⟨rtF⟩
 conv => whnf
 refine brF hF ebF (fun hF => ?_) (fun hF => ?_)
 ·conv => whnf
  refine brF hF ebF (fun hF => ?_) (fun hF => ?_)
  ·conv => whnf
   obtain rfl := Option.some.inj hF
   exact ⟨rtF⟩
  conv => whnf
  obtain rfl := Option.some.inj hF
  exact ⟨rtF⟩
 conv => whnf
 refine brF hF ebF (fun hF => ?_) (fun hF => ?_)
 ·conv => whnf
  refine brF hF ebF (fun hF => ?_) (fun hF => ?_)
  ·conv => whnf
   obtain rfl := Option.some.inj hF
   exact ⟨rtF⟩
  conv => whnf
  obtain rfl := Option.some.inj hF
  exact ⟨rtF⟩
 conv => whnf
 refine brF hF ebF (fun hF => ?_) (fun hF => ?_)
 ·conv => whnf
  refine brF hF ebF (fun hF => ?_) (fun hF => ?_)
  ·conv => whnf
   obtain rfl := Option.some.inj hF
   exact ⟨rtF⟩
  conv => whnf
  obtain rfl := Option.some.inj hF
  exact ⟨rtF⟩
 conv => whnf
 refine brF hF ebF (fun hF => ?_) (fun hF => ?_)
 ·conv => whnf
  refine brF hF ebF (fun hF => ?_) (fun hF => ?_)
  ·conv => whnf
   obtain rfl := Option.some.inj hF
   exact ⟨rtF⟩
  conv => whnf
  obtain rfl := Option.some.inj hF
  exact ⟨rtF⟩
 conv => whnf
 refine brF hF ebF (fun hF => ?_) (fun hF => ?_)
 ·conv => whnf
  refine brF hF ebF (fun hF => ?_) (fun hF => ?_)
  ·conv => whnf
   obtain rfl := Option.some.inj hF
   exact ⟨rtF⟩
  conv => whnf
  obtain rfl := Option.some.inj hF
  exact ⟨rtF⟩
 conv => whnf
 refine brF hF ebF (fun hF => ?_) (fun hF => ?_)
 ·conv => whnf
  refine brF hF ebF (fun hF => ?_) (fun hF => ?_)
  ·conv => whnf
   obtain rfl := Option.some.inj hF
   exact ⟨rtF⟩
  conv => whnf
  obtain rfl := Option.some.inj hF
  exact ⟨rtF⟩
 conv => whnf
 refine brF hF ebF (fun hF => ?_) (fun hF => ?_)
 ·conv => whnf
  refine brF hF ebF (fun hF => ?_) (fun hF => ?_)
  ·conv => whnf
   obtain rfl := Option.some.inj hF
   exact ⟨rtF⟩
  conv => whnf
  obtain rfl := Option.some.inj hF
  exact ⟨rtF⟩
 conv => whnf
 refine brF hF ebF (fun hF => ?_) (fun hF => ?_)
 ·conv => whnf
  refine brF hF ebF (fun hF => ?_) (fun hF => ?_)
  ·conv => whnf
   obtain rfl := Option.some.inj hF
   exact ⟨rtF⟩
  conv => whnf
  obtain rfl := Option.some.inj hF
  exact ⟨rtF⟩
 conv => whnf
 refine brF hF ebF (fun hF => ?_) (fun hF => ?_)
 ·conv => whnf
  refine brF hF ebF (fun hF => ?_) (fun hF => ?_)
  ·conv => whnf
   obtain rfl := Option.some.inj hF
   exact ⟨rtF⟩
  conv => whnf
  obtain rfl := Option.some.inj hF
  exact ⟨rtF⟩
 conv => whnf
 refine brF hF ebF (fun hF => ?_) (fun hF => ?_)
 ·conv => whnf
  obtain rfl := Option.some.inj hF
  exact ⟨rtF⟩
 conv => whnf
 obtain rfl := Option.some.inj hF
 exact ⟨rtF⟩

theorem codes_depths_w (p0 : ACodeList) (R : (List Int))  (hF : codes_depths p0 = some R) : ACall Tryz.prog 241 [.d (encACodeList p0)] (.d (lst 1 (D.int .i64) R)) := by
 refine acall Tryz.func241 (by kernel_rfl) ?_
 unfold codes_depths at hF
 conv => whnf
 obtain ⟨hr, hF⟩ := gdF hF
 refine ⟨by first | exact mk_ok hr (of_decide_eq_true (by kernel_rfl)) | (simp only [List.length_map]; exact mk_ok hr (of_decide_eq_true (by kernel_rfl))), ?_⟩
 try rw [repM]
 conv => whnf
 obtain ⟨Φ1, hΦ1, hF⟩ := iterF hF
 refine loop {p : Nat × (Int × (List Int)) // Φ1 p.1 p.2 = some R} (fun p => mkS 31 [(3, .sl 9 1), (11, .d (lst 2 encACode p0.Codes)), (12, .d (.int .i64 ((p0.Codes.length : Nat) : Int))), (13, .d (.int .i64 p.1.2.1))] [(9, .row 1 3 (List.map (D.int .i64) p.1.2.2), 1)]) (fun p => p.1.1) ⟨(_, (_, _)), hF⟩ ?_ fun p => ?_
 ·refine leF ?_
  conv => whnf
  exact lfF
 obtain ⟨⟨k1, ⟨v13_1, b9_1⟩⟩, hF⟩ := p
 obtain ⟨k1, rfl, hF⟩ := hΦ1 _ _ hF
 simp only [codes_depths_b1] at hF
 conv => whnf
 refine brF hF ebF (fun hF => ?_) (fun hF => ?_)
 ·conv => whnf
  refine atF (f := encACode) hF ebF fun x16 hx16 hF => ?_
  conv => whnf
  refine brF hF ebF (fun hF => ?_) (fun hF => ?_)
  ·conv => whnf
   refine rowF (f := (D.int .i64)) hF ebF fun x25 hx25 hF => ?_
   conv => whnf
   refine atR (f := (D.int .i64)) hx25 ebF ?_
   conv => whnf
   refine rowF (f := (D.int .i64)) hF ebF fun x28 hx28 hF => ?_
   conv => whnf
   refine atR (f := (D.int .i64)) hx28 ebF ?_
   conv => whnf
   try rw [setM]
   refine ⟨⟨(_, (_, _)), hF⟩, ?_, Nat.lt_succ_self _⟩
   refine leF ?_
   conv => whnf
   exact lfF
  conv => whnf
  refine ⟨⟨(_, (_, _)), hF⟩, ?_, Nat.lt_succ_self _⟩
  refine leF ?_
  conv => whnf
  exact lfF
 conv => whnf
 obtain rfl := Option.some.inj hF
 refine ⟨.inl ?_⟩
 conv => whnf
 exact ⟨rtF⟩

theorem codes_Check_w (p0 : ACodeList) (R : Int)  (hF : codes_Check p0 = some R) : ACall Tryz.prog 181 [.d (encACodeList p0)] (.d (.int .i64 R)) := by
 refine acallJ [21] Tryz.func181 (by kernel_rfl) ?_
 unfold codes_Check at hF
 conv => whnf
 obtain ⟨x13, hx13, hF⟩ := bindF hF
 refine callA (codes_Name_w _ _ hx13) ?_
 conv => whnf
 refine brF hF ebF (fun hF => ?_) (fun hF => ?_)
 ·conv => whnf
  obtain rfl := Option.some.inj hF
  exact ⟨rtF⟩
 conv => whnf
 refine brF hF ebF (fun hF => ?_) (fun hF => ?_)
 ·conv => whnf
  obtain rfl := Option.some.inj hF
  exact ⟨rtF⟩
 conv => whnf
 refine brF hF ebF (fun hF => ?_) (fun hF => ?_)
 ·conv => whnf
  obtain rfl := Option.some.inj hF
  exact ⟨rtF⟩
 conv => whnf
 refine ⟨⟨by decide +kernel, by kernel_rfl⟩, ?_⟩
 conv => whnf
 obtain ⟨hr, hF⟩ := gdF hF
 refine ⟨by first | exact mk_ok hr (of_decide_eq_true (by kernel_rfl)) | (simp only [List.length_map]; exact mk_ok hr (of_decide_eq_true (by kernel_rfl))), ?_⟩
 try rw [repM]
 conv => whnf
 refine join {p : (List Bool) // codes_Check_j1 p0 p = some R} (fun p => mkS 102 [(1, .ptr 1 1 0), (4, .sl 29 1)] [(1, .var [.d (.str p0.Name), .d (lst 2 encACode p0.Codes)], 1), (29, .row 1 4 (List.map D.bool p.1), 1)]) ?_ fun p => ?_
 ·conv => whnf
  obtain ⟨Φ1, hΦ1, hF⟩ := iterF hF
  refine loop {p : Nat × (Int × (List (ByteArray × Bool)) × (List Bool)) // Φ1 p.1 p.2 = some R} (fun p => mkS 102 [(1, .ptr 1 1 0), (3, .sl 25 1), (4, .sl 29 1), (31, .d (lst 2 encACode p0.Codes)), (32, .d (.int .i64 ((p0.Codes.length : Nat) : Int))), (33, .d (.int .i64 p.1.2.1))] [(1, .var [.d (.str p0.Name), .d (lst 2 encACode p0.Codes)], 1), (25, .map (mpS D.bool p.1.2.2.1), 1), (29, .row 1 4 (List.map D.bool p.1.2.2.2), 1)]) (fun p => p.1.1) ⟨(_, (_, _, _)), hF⟩ ?_ fun p => ?_
  ·refine leF ?_
   conv => whnf
   exact lfF
  obtain ⟨⟨k1, ⟨v33_1, b25_1, b29_1⟩⟩, hF⟩ := p
  obtain ⟨k1, rfl, hF⟩ := hΦ1 _ _ hF
  simp only [codes_Check_b1] at hF
  conv => whnf
  refine brF hF ebF (fun hF => ?_) (fun hF => ?_)
  ·conv => whnf
   refine atF (f := encACode) hF ebF fun x36 hx36 hF => ?_
   conv => whnf
   obtain ⟨x41, hx41, hF⟩ := bindF hF
   refine callA (codes_Name_w _ _ hx41) ?_
   conv => whnf
   refine brF hF ebF (fun hF => ?_) (fun hF => ?_)
   ·conv => whnf
    obtain rfl := Option.some.inj hF
    exact ⟨rtF⟩
   conv => whnf
   refine ⟨⟨by kernel_rfl, kind_mpS D.bool x36.Name b25_1⟩, ?_⟩
   conv => whnf
   refine look_mpS (f := D.bool) (es := b25_1) (z := false) ?_
   conv => whnf
   refine brF hF ebF (fun hF => ?_) (fun hF => ?_)
   ·conv => whnf
    obtain rfl := Option.some.inj hF
    exact ⟨rtF⟩
   conv => whnf
   refine brF hF ebF (fun hF => ?_) (fun hF => ?_)
   ·conv => whnf
    obtain rfl := Option.some.inj hF
    exact ⟨rtF⟩
   conv => whnf
   refine ⟨⟨by rfl, by kernel_rfl, kind_mpS D.bool x36.Name b25_1⟩, ?_⟩
   conv => whnf
   try rw [upd_mpS D.bool x36.Name true]
   refine brF hF ebF (fun hF => ?_) (fun hF => ?_)
   ·conv => whnf
    refine rowF (f := D.bool) hF ebF fun x79 hx79 hF => ?_
    conv => whnf
    refine atR (f := D.bool) hx79 ebF ?_
    conv => whnf
    try rw [setM]
    refine ⟨⟨(_, (_, _, _)), hF⟩, ?_, Nat.lt_succ_self _⟩
    refine leF ?_
    conv => whnf
    exact lfF
   conv => whnf
   refine ⟨⟨(_, (_, _, _)), hF⟩, ?_, Nat.lt_succ_self _⟩
   refine leF ?_
   conv => whnf
   exact lfF
  conv => whnf
  refine ⟨⟨_, hF⟩, ?_⟩
  refine leF ?_
  conv => whnf
  exact lfF
 obtain ⟨k29_1, hF⟩ := p
 simp only [codes_Check_j1] at hF
 conv => whnf
 obtain ⟨x82, hx82, hF⟩ := bindF hF
 refine callA (codes_depths_w _ _ hx82) ?_
 conv => whnf
 obtain ⟨Φ2, hΦ2, hF⟩ := iterF hF
 refine loop {p : Nat × (Int × Int) // Φ2 p.1 p.2 = some R} (fun p => mkS 102 [(4, .sl 29 1), (7, .d (.int .i64 p.1.2.1)), (82, .d (lst 1 (D.int .i64) x82)), (83, .d (.int .i64 ((x82.length : Nat) : Int))), (84, .d (.int .i64 p.1.2.2))] [(29, .row 1 4 (List.map D.bool k29_1), 1)]) (fun p => p.1.1) ⟨(_, (_, _)), hF⟩ ?_ fun p => ?_
 ·refine leF ?_
  conv => whnf
  exact lfF
 obtain ⟨⟨k2, ⟨v7_2, v84_2⟩⟩, hF⟩ := p
 obtain ⟨k2, rfl, hF⟩ := hΦ2 _ _ hF
 simp only [codes_Check_b2] at hF
 conv => whnf
 refine brF hF ebF (fun hF => ?_) (fun hF => ?_)
 ·conv => whnf
  refine atF (f := (D.int .i64)) hF ebF fun x87 hx87 hF => ?_
  conv => whnf
  refine rowF (f := D.bool) hF ebF fun x91 hx91 hF => ?_
  conv => whnf
  refine atR (f := D.bool) hx91 ebF ?_
  conv => whnf
  refine brF hF ebF (fun hF => ?_) (fun hF => ?_)
  ·conv => whnf
   refine ⟨⟨(_, (_, _)), hF⟩, ?_, Nat.lt_succ_self _⟩
   refine leF ?_
   conv => whnf
   exact lfF
  conv => whnf
  refine brF hF ebF (fun hF => ?_) (fun hF => ?_)
  ·conv => whnf
   obtain rfl := Option.some.inj hF
   exact ⟨rtF⟩
  conv => whnf
  refine ⟨⟨(_, (_, _)), hF⟩, ?_, Nat.lt_succ_self _⟩
  refine leF ?_
  conv => whnf
  exact lfF
 conv => whnf
 obtain rfl := Option.some.inj hF
 exact ⟨rtF⟩

theorem schema_Check_c1_w (p0 : ACodeList) (q0 : ACodeList) (R : Bool)  (hF : schema_Check_c1 p0 q0 = some R) : ACall Tryz.prog 183 [.d (encACodeList p0), .d (.ptr [(.str q0.Name), (lst 2 encACode q0.Codes)])] (.d (.bool R)) := by
 refine acall Tryz.func183 (by kernel_rfl) ?_
 unfold schema_Check_c1 at hF
 conv => whnf
 obtain rfl := Option.some.inj hF
 exact ⟨rtF⟩

theorem schema_checkColumn_c1_w (p0 : AColumn) (q0 : AColumn) (R : Bool)  (hF : schema_checkColumn_c1 p0 q0 = some R) : ACall Tryz.prog 244 [.d (encAColumn p0), .d (.ptr [(.str q0.Name), (.int .i64 q0.Kind), (.int .i64 q0.List_), (.int .i64 q0.Low), (.int .i64 q0.High), (lst 1 (D.int .i64) q0.Widths), (.bool q0.Optional)])] (.d (.bool R)) := by
 refine acall Tryz.func244 (by kernel_rfl) ?_
 unfold schema_checkColumn_c1 at hF
 conv => whnf
 obtain rfl := Option.some.inj hF
 exact ⟨rtF⟩

theorem schema_checkMeasure_w (p0 : AColumn) (R : Int)  (hF : schema_checkMeasure p0 = some R) : ACall Tryz.prog 245 [.d (encAColumn p0)] (.d (.int .i64 R)) := by
 refine acall Tryz.func245 (by kernel_rfl) ?_
 unfold schema_checkMeasure at hF
 conv => whnf
 refine brF hF ebF (fun hF => ?_) (fun hF => ?_)
 ·conv => whnf
  obtain rfl := Option.some.inj hF
  exact ⟨rtF⟩
 conv => whnf
 refine brF hF ebF (fun hF => ?_) (fun hF => ?_)
 ·conv => whnf
  obtain rfl := Option.some.inj hF
  exact ⟨rtF⟩
 conv => whnf
 obtain ⟨Φ1, hΦ1, hF⟩ := iterF hF
 refine loop {p : Nat × (Int × Int) // Φ1 p.1 p.2 = some R} (fun p => mkS 68 [(3, .d (.int .i64 p.1.2.1)), (34, .d (lst 1 (D.int .i64) p0.Widths)), (35, .d (.int .i64 ((p0.Widths.length : Nat) : Int))), (36, .d (.int .i64 p.1.2.2))] []) (fun p => p.1.1) ⟨(_, (_, _)), hF⟩ ?_ fun p => ?_
 ·refine leF ?_
  conv => whnf
  exact lfF
 obtain ⟨⟨k1, ⟨v3_1, v36_1⟩⟩, hF⟩ := p
 obtain ⟨k1, rfl, hF⟩ := hΦ1 _ _ hF
 simp only [schema_checkMeasure_b1] at hF
 conv => whnf
 refine brF hF ebF (fun hF => ?_) (fun hF => ?_)
 ·conv => whnf
  refine atF (f := (D.int .i64)) hF ebF fun x39 hx39 hF => ?_
  conv => whnf
  refine brF hF ebF (fun hF => ?_) (fun hF => ?_)
  ·obtain rfl := Option.some.inj hF
   exact ⟨rtF⟩
  refine brF hF ebF (fun hF => ?_) (fun hF => ?_)
  ·refine brF hF ebF (fun hF => ?_) (fun hF => ?_)
   ·obtain rfl := Option.some.inj hF
    exact ⟨rtF⟩
   obtain ⟨hr, hF⟩ := gdF hF
   refine ⟨of_decide_eq_true hr, ?_⟩
   conv => whnf
   refine brF hF ebF (fun hF => ?_) (fun hF => ?_)
   ·conv => whnf
    obtain rfl := Option.some.inj hF
    exact ⟨rtF⟩
   conv => whnf
   refine ⟨⟨(_, (_, _)), hF⟩, ?_, Nat.lt_succ_self _⟩
   refine leF ?_
   conv => whnf
   exact lfF
  refine ⟨⟨(_, (_, _)), hF⟩, ?_, Nat.lt_succ_self _⟩
  refine leF ?_
  conv => whnf
  exact lfF
 conv => whnf
 obtain rfl := Option.some.inj hF
 exact ⟨rtF⟩

theorem schema_unused_w (p0 : AColumn) (R : Bool)  (hF : schema_unused p0 = some R) : ACall Tryz.prog 246 [.d (encAColumn p0)] (.d (.bool R)) := by
 refine acall Tryz.func246 (by kernel_rfl) ?_
 unfold schema_unused at hF
 conv => whnf
 refine brF hF ebF (fun hF => ?_) (fun hF => ?_)
 ·conv => whnf
  obtain rfl := Option.some.inj hF
  exact ⟨rtF⟩
 conv => whnf
 obtain rfl := Option.some.inj hF
 exact ⟨rtF⟩

theorem schema_checkColumn_w (p0 : ASchema) (p1 : Int) (R : Int)  (hF : schema_checkColumn p0 p1 = some R) : ACall Tryz.prog 184 [.d (encASchema p0), .d (.int .i64 p1)] (.d (.int .i64 R)) := by
 refine acall Tryz.func184 (by kernel_rfl) ?_
 unfold schema_checkColumn at hF
 conv => whnf
 refine atF (f := encAColumn) hF ebF fun x10 hx10 hF => ?_
 conv => whnf
 obtain ⟨x14, hx14, hF⟩ := bindF hF
 refine callA (codes_Name_w _ _ hx14) ?_
 conv => whnf
 refine brF hF ebF (fun hF => ?_) (fun hF => ?_)
 ·conv => whnf
  obtain rfl := Option.some.inj hF
  exact ⟨rtF⟩
 conv => whnf
 obtain ⟨hr, hF⟩ := gdF hF
 refine ⟨by first | exact of_decide_eq_true hr | (simp only [List.length_map]; exact of_decide_eq_true hr), ?_⟩
 try simp only [List.length_map]
 rw [cutM]
 conv => whnf
 obtain ⟨x21, hx21, hF⟩ := bindF hF
 refine callA (slices_ContainsFunc_Lapi_Column_api_Column_w _ _ _ _ _ (fun a0 _ h => schema_checkColumn_c1_w a0 _ _ h) hx21) ?_
 conv => whnf
 refine brF hF ebF (fun hF => ?_) (fun hF => ?_)
 ·conv => whnf
  obtain rfl := Option.some.inj hF
  exact ⟨rtF⟩
 conv => whnf
 refine brF hF ebF (fun hF => ?_) (fun hF => ?_)
 ·conv => whnf
  refine brF hF ebF (fun hF => ?_) (fun hF => ?_)
  ·conv => whnf
   obtain rfl := Option.some.inj hF
   exact ⟨rtF⟩
  conv => whnf
  obtain ⟨x49, hx49, hF⟩ := bindF hF
  refine callA (schema_unused_w _ _ hx49) ?_
  conv => whnf
  refine brF hF ebF (fun hF => ?_) (fun hF => ?_)
  ·conv => whnf
   obtain rfl := Option.some.inj hF
   exact ⟨rtF⟩
  conv => whnf
  obtain rfl := Option.some.inj hF
  exact ⟨rtF⟩
 conv => whnf
 refine brF hF ebF (fun hF => ?_) (fun hF => ?_)
 ·conv => whnf
  refine brF hF ebF (fun hF => ?_) (fun hF => ?_)
  ·conv => whnf
   obtain rfl := Option.some.inj hF
   exact ⟨rtF⟩
  conv => whnf
  obtain ⟨x49, hx49, hF⟩ := bindF hF
  refine callA (schema_unused_w _ _ hx49) ?_
  conv => whnf
  refine brF hF ebF (fun hF => ?_) (fun hF => ?_)
  ·conv => whnf
   obtain rfl := Option.some.inj hF
   exact ⟨rtF⟩
  conv => whnf
  obtain rfl := Option.some.inj hF
  exact ⟨rtF⟩
 conv => whnf
 refine brF hF ebF (fun hF => ?_) (fun hF => ?_)
 ·conv => whnf
  obtain ⟨x44, hx44, hF⟩ := bindF hF
  refine callA (schema_checkMeasure_w _ _ hx44) ?_
  conv => whnf
  refine brF hF ebF (fun hF => ?_) (fun hF => ?_)
  ·conv => whnf
   obtain rfl := Option.some.inj hF
   exact ⟨rtF⟩
  conv => whnf
  obtain ⟨x49, hx49, hF⟩ := bindF hF
  refine callA (schema_unused_w _ _ hx49) ?_
  conv => whnf
  refine brF hF ebF (fun hF => ?_) (fun hF => ?_)
  ·conv => whnf
   obtain rfl := Option.some.inj hF
   exact ⟨rtF⟩
  conv => whnf
  obtain rfl := Option.some.inj hF
  exact ⟨rtF⟩
 conv => whnf
 obtain rfl := Option.some.inj hF
 exact ⟨rtF⟩

theorem schema_Check_w (p0 : ASchema) (R : Int)  (hF : schema_Check p0 = some R) : ACall Tryz.prog 117 [.d (encASchema p0)] (.d (.int .i64 R)) := by
 refine acallJ [12] Tryz.func117 (by kernel_rfl) ?_
 unfold schema_Check at hF
 conv => whnf
 refine brF hF ebF (fun hF => ?_) (fun hF => ?_)
 ·conv => whnf
  obtain rfl := Option.some.inj hF
  exact ⟨rtF⟩
 conv => whnf
 refine join {p : Unit // schema_Check_j1 p0 = some R} (fun p => mkS 63 [(1, .ptr 1 1 0)] [(1, .var [.d (lst 2 encACodeList p0.Lists), .d (lst 7 encAColumn p0.Columns)], 1)]) ?_ fun p => ?_
 ·conv => whnf
  obtain ⟨Φ1, hΦ1, hF⟩ := iterF hF
  refine loop {p : Nat × Int // Φ1 p.1 p.2 = some R} (fun p => mkS 63 [(1, .ptr 1 1 0), (19, .d (lst 2 encACodeList p0.Lists)), (20, .d (.int .i64 ((p0.Lists.length : Nat) : Int))), (21, .d (.int .i64 p.1.2))] [(1, .var [.d (lst 2 encACodeList p0.Lists), .d (lst 7 encAColumn p0.Columns)], 1)]) (fun p => p.1.1) ⟨(_, _), hF⟩ ?_ fun p => ?_
  ·refine leF ?_
   conv => whnf
   exact lfF
  obtain ⟨⟨k1, v21_1⟩, hF⟩ := p
  obtain ⟨k1, rfl, hF⟩ := hΦ1 _ _ hF
  simp only [schema_Check_b1] at hF
  conv => whnf
  refine brF hF ebF (fun hF => ?_) (fun hF => ?_)
  ·conv => whnf
   refine atF (f := encACodeList) hF ebF fun x24 hx24 hF => ?_
   conv => whnf
   obtain ⟨x27, hx27, hF⟩ := bindF hF
   refine callA (codes_Check_w _ _ hx27) ?_
   conv => whnf
   refine brF hF ebF (fun hF => ?_) (fun hF => ?_)
   ·conv => whnf
    obtain rfl := Option.some.inj hF
    exact ⟨rtF⟩
   conv => whnf
   obtain ⟨hr, hF⟩ := gdF hF
   refine ⟨by first | exact of_decide_eq_true hr | (simp only [List.length_map]; exact of_decide_eq_true hr), ?_⟩
   try simp only [List.length_map]
   rw [cutM]
   conv => whnf
   obtain ⟨x36, hx36, hF⟩ := bindF hF
   refine callA (slices_ContainsFunc_Lapi_CodeList_api_CodeList_w _ _ _ _ _ (fun a0 _ h => schema_Check_c1_w a0 _ _ h) hx36) ?_
   conv => whnf
   refine brF hF ebF (fun hF => ?_) (fun hF => ?_)
   ·conv => whnf
    obtain rfl := Option.some.inj hF
    exact ⟨rtF⟩
   conv => whnf
   refine ⟨⟨(_, _), hF⟩, ?_, Nat.lt_succ_self _⟩
   refine leF ?_
   conv => whnf
   exact lfF
  conv => whnf
  refine ⟨⟨(), hF⟩, ?_⟩
  refine leF ?_
  conv => whnf
  exact lfF
 obtain ⟨_, hF⟩ := p
 simp only [schema_Check_j1] at hF
 conv => whnf
 refine brF hF ebF (fun hF => ?_) (fun hF => ?_)
 ·obtain rfl := Option.some.inj hF
  exact ⟨rtF⟩
 refine atF (f := encAColumn) hF ebF fun x45 hx45 hF => ?_
 conv => whnf
 refine brF hF ebF (fun hF => ?_) (fun hF => ?_)
 ·conv => whnf
  obtain rfl := Option.some.inj hF
  exact ⟨rtF⟩
 conv => whnf
 obtain ⟨Φ2, hΦ2, hF⟩ := iterF hF
 refine loop {p : Nat × Int // Φ2 p.1 p.2 = some R} (fun p => mkS 63 [(1, .ptr 1 1 0), (52, .d (.int .i64 ((p0.Columns.length : Nat) : Int))), (53, .d (.int .i64 p.1.2))] [(1, .var [.d (lst 2 encACodeList p0.Lists), .d (lst 7 encAColumn p0.Columns)], 1)]) (fun p => p.1.1) ⟨(_, _), hF⟩ ?_ fun p => ?_
 ·refine leF ?_
  conv => whnf
  exact lfF
 obtain ⟨⟨k2, v53_2⟩, hF⟩ := p
 obtain ⟨k2, rfl, hF⟩ := hΦ2 _ _ hF
 simp only [schema_Check_b2] at hF
 conv => whnf
 refine brF hF ebF (fun hF => ?_) (fun hF => ?_)
 ·conv => whnf
  obtain ⟨x58, hx58, hF⟩ := bindF hF
  refine callA (schema_checkColumn_w _ _ _ hx58) ?_
  conv => whnf
  refine brF hF ebF (fun hF => ?_) (fun hF => ?_)
  ·conv => whnf
   obtain rfl := Option.some.inj hF
   exact ⟨rtF⟩
  conv => whnf
  refine ⟨⟨(_, _), hF⟩, ?_, Nat.lt_succ_self _⟩
  refine leF ?_
  conv => whnf
  exact lfF
 conv => whnf
 obtain rfl := Option.some.inj hF
 exact ⟨rtF⟩

theorem codes_Levels_w (p0 : ACodeList) (R : Int)  (hF : codes_Levels p0 = some R) : ACall Tryz.prog 205 [.d (encACodeList p0)] (.d (.int .i64 R)) := by
 refine acall Tryz.func205 (by kernel_rfl) ?_
 unfold codes_Levels at hF
 conv => whnf
 obtain ⟨x4, hx4, hF⟩ := bindF hF
 refine callA (codes_Check_w _ _ hx4) ?_
 conv => whnf
 refine brF hF ebF (fun hF => ?_) (fun hF => ?_)
 ·conv => whnf
  obtain rfl := Option.some.inj hF
  exact ⟨rtF⟩
 conv => whnf
 obtain ⟨x7, hx7, hF⟩ := bindF hF
 refine callA (codes_depths_w _ _ hx7) ?_
 conv => whnf
 obtain ⟨x8, hx8, hF⟩ := bindF hF
 refine callA (slices_Max_Lint_int_w _ _ hx8) ?_
 conv => whnf
 obtain rfl := Option.some.inj hF
 exact ⟨rtF⟩

theorem schema_finest_w (p0 : ASchema) (p1 : Int) (R : Int)  (hF : schema_finest p0 p1 = some R) : ACall Tryz.prog 147 [.d (encASchema p0), .d (.int .i64 p1)] (.d (.int .i64 R)) := by
 refine acall Tryz.func147 (by kernel_rfl) ?_
 unfold schema_finest at hF
 conv => whnf
 refine brF hF ebF (fun hF => ?_) (fun hF => ?_)
 ·conv => whnf
  obtain rfl := Option.some.inj hF
  exact ⟨rtF⟩
 conv => whnf
 refine atF (f := encAColumn) hF ebF fun x18 hx18 hF => ?_
 conv => whnf
 refine brF hF ebF (fun hF => ?_) (fun hF => ?_)
 ·conv => whnf
  refine atF (f := encACodeList) hF ebF fun x27 hx27 hF => ?_
  conv => whnf
  obtain ⟨x29, hx29, hF⟩ := bindF hF
  refine callA (codes_Levels_w _ _ hx29) ?_
  conv => whnf
  obtain rfl := Option.some.inj hF
  exact ⟨rtF⟩
 conv => whnf
 obtain rfl := Option.some.inj hF
 exact ⟨rtF⟩

theorem schema_pick_w (p0 : ASchema) (p1 : APick) (R : Int)  (hF : schema_pick p0 p1 = some R) : ACall Tryz.prog 185 [.d (encASchema p0), .d (encAPick p1)] (.d (.int .i64 R)) := by
 refine acall Tryz.func185 (by kernel_rfl) ?_
 unfold schema_pick at hF
 conv => whnf
 obtain ⟨x9, hx9, hF⟩ := bindF hF
 refine callA (schema_finest_w _ _ _ hx9) ?_
 conv => whnf
 refine brF hF ebF (fun hF => ?_) (fun hF => ?_)
 ·conv => whnf
  obtain rfl := Option.some.inj hF
  exact ⟨rtF⟩
 conv => whnf
 refine brF hF ebF (fun hF => ?_) (fun hF => ?_)
 ·conv => whnf
  obtain rfl := Option.some.inj hF
  exact ⟨rtF⟩
 conv => whnf
 obtain rfl := Option.some.inj hF
 exact ⟨rtF⟩

theorem schema_Picks_w (p0 : ASchema) (p1 : (List APick)) (R : Int)  (hF : schema_Picks p0 p1 = some R) : ACall Tryz.prog 119 [.d (encASchema p0), .d (lst 2 encAPick p1)] (.d (.int .i64 R)) := by
 refine acall Tryz.func119 (by kernel_rfl) ?_
 unfold schema_Picks at hF
 conv => whnf
 obtain ⟨x10, hx10, hF⟩ := bindF hF
 refine callA (schema_Check_w _ _ hx10) ?_
 conv => whnf
 refine brF hF ebF (fun hF => ?_) (fun hF => ?_)
 ·conv => whnf
  obtain rfl := Option.some.inj hF
  exact ⟨rtF⟩
 conv => whnf
 obtain ⟨Φ1, hΦ1, hF⟩ := iterF hF
 refine loop {p : Nat × Int // Φ1 p.1 p.2 = some R} (fun p => mkS 41 [(1, .d (lst 2 encAPick p1)), (2, .ptr 2 1 0), (14, .d (lst 2 encAPick p1)), (15, .d (.int .i64 ((p1.length : Nat) : Int))), (16, .d (.int .i64 p.1.2))] [(2, .var [.d (lst 2 encACodeList p0.Lists), .d (lst 7 encAColumn p0.Columns)], 1)]) (fun p => p.1.1) ⟨(_, _), hF⟩ ?_ fun p => ?_
 ·refine leF ?_
  conv => whnf
  exact lfF
 obtain ⟨⟨k1, v16_1⟩, hF⟩ := p
 obtain ⟨k1, rfl, hF⟩ := hΦ1 _ _ hF
 simp only [schema_Picks_b1] at hF
 conv => whnf
 refine brF hF ebF (fun hF => ?_) (fun hF => ?_)
 ·conv => whnf
  refine atF (f := encAPick) hF ebF fun x19 hx19 hF => ?_
  conv => whnf
  obtain ⟨x23, hx23, hF⟩ := bindF hF
  refine callA (schema_pick_w _ _ _ hx23) ?_
  conv => whnf
  refine brF hF ebF (fun hF => ?_) (fun hF => ?_)
  ·conv => whnf
   obtain rfl := Option.some.inj hF
   exact ⟨rtF⟩
  conv => whnf
  refine ⟨⟨by decide +kernel, by kernel_rfl⟩, ?_⟩
  conv => whnf
  refine brF hF ebF (fun hF => ?_) (fun hF => ?_)
  ·refine atF (f := encAPick) hF ebF fun x35 hx35 hF => ?_
   conv => whnf
   refine brF hF ebF (fun hF => ?_) (fun hF => ?_)
   ·conv => whnf
    obtain rfl := Option.some.inj hF
    exact ⟨rtF⟩
   conv => whnf
   refine ⟨⟨(_, _), hF⟩, ?_, Nat.lt_succ_self _⟩
   refine leF ?_
   conv => whnf
   exact lfF
  refine ⟨⟨(_, _), hF⟩, ?_, Nat.lt_succ_self _⟩
  refine leF ?_
  conv => whnf
  exact lfF
 conv => whnf
 obtain rfl := Option.some.inj hF
 exact ⟨rtF⟩

theorem codes_At_w (p0 : ACodeList) (p1 : Int) (R : (List Int))  (hF : codes_At p0 p1 = some R) : ACall Tryz.prog 204 [.d (encACodeList p0), .d (.int .i64 p1)] (.d (lst 1 (D.int .i64) R)) := by
 refine acall Tryz.func204 (by kernel_rfl) ?_
 unfold codes_At at hF
 conv => whnf
 obtain ⟨x9, hx9, hF⟩ := bindF hF
 refine callA (codes_Check_w _ _ hx9) ?_
 conv => whnf
 refine brF hF ebF (fun hF => ?_) (fun hF => ?_)
 ·conv => whnf
  obtain rfl := Option.some.inj hF
  refine ⟨.inl ?_⟩
  conv => whnf
  exact ⟨rtF⟩
 conv => whnf
 obtain ⟨x12, hx12, hF⟩ := bindF hF
 refine callA (codes_depths_w _ _ hx12) ?_
 conv => whnf
 obtain ⟨Φ1, hΦ1, hF⟩ := iterF hF
 refine loop {p : Nat × (Int × (List Int)) // Φ1 p.1 p.2 = some R} (fun p => mkS 28 [(1, .d (.int .i64 p1)), (5, .sl 5 1), (12, .d (lst 1 (D.int .i64) x12)), (13, .d (.int .i64 ((x12.length : Nat) : Int))), (14, .d (.int .i64 p.1.2.1))] [(5, .row 1 3 (List.map (D.int .i64) p.1.2.2), 1)]) (fun p => p.1.1) ⟨(_, (_, _)), hF⟩ ?_ fun p => ?_
 ·refine leF ?_
  conv => whnf
  exact lfF
 obtain ⟨⟨k1, ⟨v14_1, b5_1⟩⟩, hF⟩ := p
 obtain ⟨k1, rfl, hF⟩ := hΦ1 _ _ hF
 simp only [codes_At_b1] at hF
 conv => whnf
 refine brF hF ebF (fun hF => ?_) (fun hF => ?_)
 ·conv => whnf
  refine atF (f := (D.int .i64)) hF ebF fun x17 hx17 hF => ?_
  conv => whnf
  refine brF hF ebF (fun hF => ?_) (fun hF => ?_)
  ·conv => whnf
   obtain ⟨hr, hF⟩ := gdF hF
   refine ⟨by (simp only [List.length_map]; exact rm_fits hr (of_decide_eq_true (by kernel_rfl)) (.inr (by kernel_rfl))), ?_⟩
   try rw [snocI]
   conv => whnf
   refine ⟨⟨(_, (_, _)), hF⟩, ?_, Nat.lt_succ_self _⟩
   refine leF ?_
   conv => whnf
   exact lfF
  conv => whnf
  refine ⟨⟨(_, (_, _)), hF⟩, ?_, Nat.lt_succ_self _⟩
  refine leF ?_
  conv => whnf
  exact lfF
 conv => whnf
 obtain rfl := Option.some.inj hF
 refine ⟨.inl ?_⟩
 conv => whnf
 exact ⟨rtF⟩

theorem codes_has_w (p0 : ACodeList) (p1 : Int) (R : Bool)  (hF : codes_has p0 p1 = some R) : ACall Tryz.prog 264 [.d (encACodeList p0), .d (.int .i64 p1)] (.d (.bool R)) := by
 refine acall Tryz.func264 (by kernel_rfl) ?_
 unfold codes_has at hF
 conv => whnf
 refine brF hF ebF (fun hF => ?_) (fun hF => ?_)
 ·obtain ⟨x16, hx16, hF⟩ := bindF hF
  refine callA (codes_Check_w _ _ hx16) ?_
  conv => whnf
  obtain rfl := Option.some.inj hF
  exact ⟨rtF⟩
 obtain rfl := Option.some.inj hF
 exact ⟨rtF⟩

theorem codes_Up_w (p0 : ACodeList) (p1 : Int) (p2 : Int) (R : Int)  (hF : codes_Up p0 p1 p2 = some R) : ACall Tryz.prog 206 [.d (encACodeList p0), .d (.int .i64 p1), .d (.int .i64 p2)] (.d (.int .i64 R)) := by
 refine acall Tryz.func206 (by kernel_rfl) ?_
 unfold codes_Up at hF
 conv => whnf
 obtain ⟨x10, hx10, hF⟩ := bindF hF
 refine callA (codes_has_w _ _ _ hx10) ?_
 conv => whnf
 refine brF hF ebF (fun hF => ?_) (fun hF => ?_)
 ·conv => whnf
  obtain rfl := Option.some.inj hF
  exact ⟨rtF⟩
 conv => whnf
 obtain ⟨x17, hx17, hF⟩ := bindF hF
 refine callA (codes_depths_w _ _ hx17) ?_
 conv => whnf
 refine atF (f := (D.int .i64)) hF ebF fun x19 hx19 hF => ?_
 conv => whnf
 obtain ⟨Φ1, hΦ1, hF⟩ := iterF hF
 refine loop {p : Nat × (Int × Int) // Φ1 p.1 p.2 = some R} (fun p => mkS 36 [(1, .d (.int .i64 p.1.2.1)), (2, .d (.int .i64 p2)), (3, .ptr 3 1 0), (7, .d (.int .i64 p.1.2.2))] [(3, .var [.d (.str p0.Name), .d (lst 2 encACode p0.Codes)], 1)]) (fun p => p.1.1) ⟨(_, (_, _)), hF⟩ ?_ fun p => ?_
 ·refine leF ?_
  conv => whnf
  exact lfF
 obtain ⟨⟨k1, ⟨v1_1, v7_1⟩⟩, hF⟩ := p
 obtain ⟨k1, rfl, hF⟩ := hΦ1 _ _ hF
 simp only [codes_Up_b1] at hF
 conv => whnf
 refine brF hF ebF (fun hF => ?_) (fun hF => ?_)
 ·conv => whnf
  refine brF hF ebF (fun hF => ?_) (fun hF => ?_)
  ·conv => whnf
   obtain rfl := Option.some.inj hF
   exact ⟨rtF⟩
  conv => whnf
  refine atF (f := encACode) hF ebF fun x33 hx33 hF => ?_
  conv => whnf
  refine ⟨⟨(_, (_, _)), hF⟩, ?_, Nat.lt_succ_self _⟩
  refine leF ?_
  conv => whnf
  exact lfF
 conv => whnf
 obtain rfl := Option.some.inj hF
 exact ⟨rtF⟩

theorem schema_width_w (p0 : AColumn) (p1 : Int) (R : Int)  (hF : schema_width p0 p1 = some R) : ACall Tryz.prog 213 [.d (encAColumn p0), .d (.int .i64 p1)] (.d (.int .i64 R)) := by
 refine acall Tryz.func213 (by kernel_rfl) ?_
 unfold schema_width at hF
 conv => whnf
 refine atF (f := (D.int .i64)) hF ebF fun x12 hx12 hF => ?_
 conv => whnf
 obtain rfl := Option.some.inj hF
 exact ⟨rtF⟩

theorem schema_down_w (p0 : Int) (p1 : Int) (R : Int)  (hF : schema_down p0 p1 = some R) : ACall Tryz.prog 214 [.d (.int .i64 p0), .d (.int .i64 p1)] (.d (.int .i64 R)) := by
 refine acall Tryz.func214 (by kernel_rfl) ?_
 unfold schema_down at hF
 conv => whnf
 obtain ⟨hr, hF⟩ := gdF hF
 refine ⟨of_decide_eq_true hr, ?_⟩
 conv => whnf
 refine brF hF ebF (fun hF => ?_) (fun hF => ?_)
 ·conv => whnf
  obtain rfl := Option.some.inj hF
  exact ⟨rtF⟩
 conv => whnf
 obtain rfl := Option.some.inj hF
 exact ⟨rtF⟩

theorem schema_span_w (p0 : AColumn) (p1 : Int) (p2 : Int) (R : (Int × Int × Bool))  (hF : schema_span p0 p1 p2 = some R) : ACall Tryz.prog 210 [.d (encAColumn p0), .d (.int .i64 p1), .d (.int .i64 p2)] (.tup [.d (.int .i64 R.1), .d (.int .i64 R.2.1), .d (.bool R.2.2)]) := by
 refine acall Tryz.func210 (by kernel_rfl) ?_
 unfold schema_span at hF
 conv => whnf
 refine brF hF ebF (fun hF => ?_) (fun hF => ?_)
 ·conv => whnf
  refine ⟨⟨by decide +kernel, by kernel_rfl⟩, ?_⟩
  conv => whnf
  obtain rfl := Option.some.inj hF
  exact ⟨rtF⟩
 conv => whnf
 refine brF hF ebF (fun hF => ?_) (fun hF => ?_)
 ·conv => whnf
  obtain rfl := Option.some.inj hF
  exact ⟨rtF⟩
 conv => whnf
 obtain ⟨x30, hx30, hF⟩ := bindF hF
 refine callA (schema_width_w _ _ _ hx30) ?_
 conv => whnf
 refine ⟨⟨by decide +kernel, by kernel_rfl⟩, ?_⟩
 conv => whnf
 obtain ⟨x46, hx46, hF⟩ := bindF hF
 refine callA (schema_down_w _ _ _ hx46) ?_
 conv => whnf
 obtain rfl := Option.some.inj hF
 exact ⟨rtF⟩

theorem schema_Some_w (p0 : ASchema) (p1 : Int) (p2 : Int) (p3 : Int) (R : (Int × Bool))  (hF : schema_Some p0 p1 p2 p3 = some R) : ACall Tryz.prog 145 [.d (encASchema p0), .d (.int .i64 p1), .d (.int .i64 p2), .d (.int .i64 p3)] (.tup [.d (.int .i64 R.1), .d (.bool R.2)]) := by
 refine acall Tryz.func145 (by kernel_rfl) ?_
 unfold schema_Some at hF
 conv => whnf
 refine atF (f := encAColumn) hF ebF fun x20 hx20 hF => ?_
 conv => whnf
 refine brF hF ebF (fun hF => ?_) (fun hF => ?_)
 ·conv => whnf
  refine brF hF ebF (fun hF => ?_) (fun hF => ?_)
  ·conv => whnf
   refine ⟨⟨by decide +kernel, by kernel_rfl⟩, ?_⟩
   conv => whnf
   obtain rfl := Option.some.inj hF
   exact ⟨rtF⟩
  conv => whnf
  obtain ⟨x38, hx38, hF⟩ := bindF hF
  refine callA (schema_span_w _ _ _ _ hx38) ?_
  conv => whnf
  obtain rfl := Option.some.inj hF
  exact ⟨rtF⟩
 conv => whnf
 refine atF (f := encACodeList) hF ebF fun x48 hx48 hF => ?_
 conv => whnf
 refine ⟨⟨by decide +kernel, by kernel_rfl⟩, ?_⟩
 conv => whnf
 obtain ⟨x52, hx52, hF⟩ := bindF hF
 refine callA (codes_Levels_w _ _ hx52) ?_
 conv => whnf
 obtain ⟨x54, hx54, hF⟩ := bindF hF
 refine callA (codes_At_w _ _ _ hx54) ?_
 conv => whnf
 obtain ⟨Φ1, hΦ1, hF⟩ := iterF hF
 refine loop {p : Nat × Int // Φ1 p.1 p.2 = some R} (fun p => mkS 68 [(2, .d (.int .i64 p2)), (3, .d (.int .i64 p3)), (14, .ptr 14 1 0), (54, .d (lst 1 (D.int .i64) x54)), (55, .d (.int .i64 ((x54.length : Nat) : Int))), (56, .d (.int .i64 p.1.2))] [(14, .var [.d (.str x48.Name), .d (lst 2 encACode x48.Codes)], 1)]) (fun p => p.1.1) ⟨(_, _), hF⟩ ?_ fun p => ?_
 ·refine leF ?_
  conv => whnf
  exact lfF
 obtain ⟨⟨k1, v56_1⟩, hF⟩ := p
 obtain ⟨k1, rfl, hF⟩ := hΦ1 _ _ hF
 simp only [schema_Some_b1] at hF
 conv => whnf
 refine brF hF ebF (fun hF => ?_) (fun hF => ?_)
 ·conv => whnf
  refine atF (f := (D.int .i64)) hF ebF fun x58 hx58 hF => ?_
  conv => whnf
  obtain ⟨x63, hx63, hF⟩ := bindF hF
  refine callA (codes_Up_w _ _ _ _ hx63) ?_
  conv => whnf
  refine brF hF ebF (fun hF => ?_) (fun hF => ?_)
  ·conv => whnf
   obtain rfl := Option.some.inj hF
   exact ⟨rtF⟩
  conv => whnf
  refine ⟨⟨(_, _), hF⟩, ?_, Nat.lt_succ_self _⟩
  refine leF ?_
  conv => whnf
  exact lfF
 conv => whnf
 obtain rfl := Option.some.inj hF
 exact ⟨rtF⟩

theorem extract_fits_w (p0 : ASchema) (p1 : (List APick)) (p2 : (List Int)) (R : Bool)  (hF : extract_fits p0 p1 p2 = some R) : ACall Tryz.prog 120 [.d (encASchema p0), .d (lst 2 encAPick p1), .d (lst 1 (D.int .i64) p2)] (.d (.bool R)) := by
 refine acallJ [3] Tryz.func120 (by kernel_rfl) ?_
 unfold extract_fits at hF
 conv => whnf
 refine join {p : Unit // extract_fits_j1 p1 p2 p0 = some R} (fun p => mkS 53 [(1, .d (lst 2 encAPick p1)), (2, .d (lst 1 (D.int .i64) p2)), (3, .ptr 3 1 0)] [(3, .var [.d (lst 2 encACodeList p0.Lists), .d (lst 7 encAColumn p0.Columns)], 1)]) ?_ fun p => ?_
 ·conv => whnf
  refine brF hF ebF (fun hF => ?_) (fun hF => ?_)
  ·obtain rfl := Option.some.inj hF
   exact ⟨rtF⟩
  refine atF (f := (D.int .i64)) hF ebF fun x19 hx19 hF => ?_
  conv => whnf
  refine brF hF ebF (fun hF => ?_) (fun hF => ?_)
  ·obtain rfl := Option.some.inj hF
   exact ⟨rtF⟩
  refine atF (f := (D.int .i64)) hF ebF fun x25 hx25 hF => ?_
  conv => whnf
  refine brF hF ebF (fun hF => ?_) (fun hF => ?_)
  ·conv => whnf
   obtain rfl := Option.some.inj hF
   exact ⟨rtF⟩
  conv => whnf
  refine ⟨⟨(), hF⟩, ?_⟩
  refine leF ?_
  conv => whnf
  exact lfF
 obtain ⟨_, hF⟩ := p
 simp only [extract_fits_j1] at hF
 conv => whnf
 obtain ⟨Φ1, hΦ1, hF⟩ := iterF hF
 refine loop {p : Nat × Int // Φ1 p.1 p.2 = some R} (fun p => mkS 53 [(2, .d (lst 1 (D.int .i64) p2)), (3, .ptr 3 1 0), (29, .d (lst 2 encAPick p1)), (30, .d (.int .i64 ((p1.length : Nat) : Int))), (31, .d (.int .i64 p.1.2))] [(3, .var [.d (lst 2 encACodeList p0.Lists), .d (lst 7 encAColumn p0.Columns)], 1)]) (fun p => p.1.1) ⟨(_, _), hF⟩ ?_ fun p => ?_
 ·refine leF ?_
  conv => whnf
  exact lfF
 obtain ⟨⟨k1, v31_1⟩, hF⟩ := p
 obtain ⟨k1, rfl, hF⟩ := hΦ1 _ _ hF
 simp only [extract_fits_b1] at hF
 conv => whnf
 refine brF hF ebF (fun hF => ?_) (fun hF => ?_)
 ·conv => whnf
  refine atF (f := encAPick) hF ebF fun x34 hx34 hF => ?_
  conv => whnf
  refine ⟨⟨by decide +kernel, by kernel_rfl⟩, ?_⟩
  conv => whnf
  refine atF (f := (D.int .i64)) hF ebF fun x45 hx45 hF => ?_
  conv => whnf
  obtain ⟨x47, hx47, hF⟩ := bindF hF
  refine callA (schema_Some_w _ _ _ _ _ hx47) ?_
  conv => whnf
  refine brF hF ebF (fun hF => ?_) (fun hF => ?_)
  ·conv => whnf
   obtain rfl := Option.some.inj hF
   exact ⟨rtF⟩
  conv => whnf
  refine ⟨⟨(_, _), hF⟩, ?_, Nat.lt_succ_self _⟩
  refine leF ?_
  conv => whnf
  exact lfF
 conv => whnf
 obtain rfl := Option.some.inj hF
 exact ⟨rtF⟩

theorem extract_Check_w (p0 : ASchema) (p1 : AExtract) (R : Int)  (hF : extract_Check p0 p1 = some R) : ACall Tryz.prog 61 [.d (encASchema p0), .d (encAExtract p1)] (.d (.int .i64 R)) := by
 refine acall Tryz.func61 (by kernel_rfl) ?_
 unfold extract_Check at hF
 conv => whnf
 obtain ⟨x10, hx10, hF⟩ := bindF hF
 refine callA (schema_Check_w _ _ hx10) ?_
 conv => whnf
 refine brF hF ebF (fun hF => ?_) (fun hF => ?_)
 ·conv => whnf
  obtain rfl := Option.some.inj hF
  exact ⟨rtF⟩
 conv => whnf
 obtain ⟨x17, hx17, hF⟩ := bindF hF
 refine callA (codes_Name_w _ _ hx17) ?_
 conv => whnf
 refine brF hF ebF (fun hF => ?_) (fun hF => ?_)
 ·conv => whnf
  obtain rfl := Option.some.inj hF
  exact ⟨rtF⟩
 conv => whnf
 refine brF hF ebF (fun hF => ?_) (fun hF => ?_)
 ·conv => whnf
  obtain rfl := Option.some.inj hF
  exact ⟨rtF⟩
 conv => whnf
 obtain ⟨x31, hx31, hF⟩ := bindF hF
 refine callA (schema_Picks_w _ _ _ hx31) ?_
 conv => whnf
 refine brF hF ebF (fun hF => ?_) (fun hF => ?_)
 ·conv => whnf
  obtain rfl := Option.some.inj hF
  exact ⟨rtF⟩
 conv => whnf
 refine brF hF ebF (fun hF => ?_) (fun hF => ?_)
 ·conv => whnf
  obtain rfl := Option.some.inj hF
  exact ⟨rtF⟩
 conv => whnf
 obtain ⟨Φ1, hΦ1, hF⟩ := iterF hF
 refine loop {p : Nat × Int // Φ1 p.1 p.2 = some R} (fun p => mkS 70 [(2, .ptr 2 1 0), (3, .ptr 3 1 0), (40, .d (lst 1 (lst 1 (D.int .i64)) p1.Rows)), (41, .d (.int .i64 ((p1.Rows.length : Nat) : Int))), (42, .d (.int .i64 p.1.2))] [(2, .var [.d (lst 2 encACodeList p0.Lists), .d (lst 7 encAColumn p0.Columns)], 1), (3, .var [.d (.str p1.Project), .d (.int .i64 p1.Version), .d (lst 2 encAPick p1.Picks), .d (lst 1 (lst 1 (D.int .i64)) p1.Rows)], 1)]) (fun p => p.1.1) ⟨(_, _), hF⟩ ?_ fun p => ?_
 ·refine leF ?_
  conv => whnf
  exact lfF
 obtain ⟨⟨k1, v42_1⟩, hF⟩ := p
 obtain ⟨k1, rfl, hF⟩ := hΦ1 _ _ hF
 simp only [extract_Check_b1] at hF
 conv => whnf
 refine brF hF ebF (fun hF => ?_) (fun hF => ?_)
 ·conv => whnf
  refine atF (f := (lst 1 (D.int .i64))) hF ebF fun x45 hx45 hF => ?_
  conv => whnf
  obtain ⟨x51, hx51, hF⟩ := bindF hF
  refine callA (extract_fits_w _ _ _ _ hx51) ?_
  conv => whnf
  refine brF hF ebF (fun hF => ?_) (fun hF => ?_)
  ·conv => whnf
   obtain rfl := Option.some.inj hF
   exact ⟨rtF⟩
  conv => whnf
  refine ⟨⟨by decide +kernel, by kernel_rfl⟩, ?_⟩
  conv => whnf
  refine brF hF ebF (fun hF => ?_) (fun hF => ?_)
  ·refine atF (f := (D.int .i64)) hF ebF fun x57 hx57 hF => ?_
   conv => whnf
   refine atF (f := (lst 1 (D.int .i64))) hF ebF fun x63 hx63 hF => ?_
   conv => whnf
   refine atF (f := (D.int .i64)) hF ebF fun x65 hx65 hF => ?_
   conv => whnf
   refine brF hF ebF (fun hF => ?_) (fun hF => ?_)
   ·conv => whnf
    obtain rfl := Option.some.inj hF
    exact ⟨rtF⟩
   conv => whnf
   refine ⟨⟨(_, _), hF⟩, ?_, Nat.lt_succ_self _⟩
   refine leF ?_
   conv => whnf
   exact lfF
  refine ⟨⟨(_, _), hF⟩, ?_, Nat.lt_succ_self _⟩
  refine leF ?_
  conv => whnf
  exact lfF
 conv => whnf
 obtain rfl := Option.some.inj hF
 exact ⟨rtF⟩
end Go.Proofs.YtejfnieiaecpkaaGreatDoor.P
