/-
 Printed by wip/tools/mkw.py: walks: ref21_Same ref01_Ints ref19_Keys ref02_Block ref02_Can ref13_Check ref05_some ref05_coarse ref05_Coarse ref02_Turn ref13_Inner
-/
import Derived.Test.YtejfnieiaecpkaaGreatDoorChecked
import Derived.Test.YtejfnieiaecpkaaGreatDoorP3F
import Derived.Test.YtejfnieiaecpkaaGreatDoorP3A
import Derived.Test.YtejfnieiaecpkaaGreatDoorP3HW
import Derived.Test.YtejfnieiaecpkaaGreatDoorP3W2
import Derived.Test.YtejfnieiaecpkaaGreatDoorP3W3
import Derived.Test.YtejfnieiaecpkaaGreatDoorP3W4
import Derived.Test.YtejfnieiaecpkaaGreatDoorP3W5
import Derived.Test.YtejfnieiaecpkaaGreatDoorP3W6
set_option linter.unusedSimpArgs false
namespace Go.Proofs.YtejfnieiaecpkaaGreatDoor.P
open Go.Abs Go.Proofs
set_option maxRecDepth 100000
set_option maxHeartbeats 40000000
set_option linter.unusedVariables false

theorem ref21_Same_w (p0 : (List ABin)) (p1 : (List ABin)) (R : Bool)  (hF : ref21_Same p0 p1 = some R) : ACall Tryz.prog 12 [.d (lst 2 encABin p0), .d (lst 2 encABin p1)] (.d (.bool R)) := by
 refine acall Tryz.func12 (by kernel_rfl) ?_
 unfold ref21_Same at hF
 conv => whnf
 refine brF hF ebF (fun hF => ?_) (fun hF => ?_)
 ·conv => whnf
  obtain rfl := Option.some.inj hF
  exact ⟨rtF⟩
 conv => whnf
 obtain ⟨Φ1, hΦ1, hF⟩ := iterF hF
 refine loop {p : Nat × Int // Φ1 p.1 p.2 = some R} (fun p => mkS 26 [(0, .d (lst 2 encABin p0)), (1, .d (lst 2 encABin p1)), (5, .d (.int .i64 p.1.2))] []) (fun p => p.1.1) ⟨(_, _), hF⟩ ?_ fun p => ?_
 ·refine leF ?_
  conv => whnf
  exact lfF
 obtain ⟨⟨k1, v5_1⟩, hF⟩ := p
 obtain ⟨k1, rfl, hF⟩ := hΦ1 _ _ hF
 simp only [ref21_Same_b1] at hF
 conv => whnf
 refine brF hF ebF (fun hF => ?_) (fun hF => ?_)
 ·conv => whnf
  refine ⟨⟨by decide +kernel, by kernel_rfl⟩, ?_⟩
  conv => whnf
  refine atF (f := encABin) hF ebF fun x19 hx19 hF => ?_
  conv => whnf
  refine atF (f := encABin) hF ebF fun x23 hx23 hF => ?_
  conv => whnf
  refine ⟨⟨by kernel_rfl, by kernel_rfl⟩, ?_⟩
  conv => whnf
  refine ⟨by kernel_rfl, ?_⟩
  conv => whnf
  refine brF hF ebF (fun hF => ?_) (fun hF => ?_)
  ·conv => whnf
   obtain rfl := Option.some.inj hF
   exact ⟨rtF⟩
  conv => whnf
  refine ⟨⟨(_, _), hF⟩, ?_, Nat.lt_succ_self _⟩
  refine leF ?_
  conv => whnf
  exact lfF
 conv => whnf
 obtain rfl := Option.some.inj hF
 exact ⟨rtF⟩

theorem ref01_Ints_w (p0 : (List Int)) (p1 : (List Int)) (R : Bool)  (hF : ref01_Ints p0 p1 = some R) : ACall Tryz.prog 13 [.d (lst 1 (D.int .i64) p0), .d (lst 1 (D.int .i64) p1)] (.d (.bool R)) := by
 refine acall Tryz.func13 (by kernel_rfl) ?_
 unfold ref01_Ints at hF
 conv => whnf
 refine brF hF ebF (fun hF => ?_) (fun hF => ?_)
 ·conv => whnf
  obtain rfl := Option.some.inj hF
  exact ⟨rtF⟩
 conv => whnf
 obtain ⟨Φ1, hΦ1, hF⟩ := iterF hF
 refine loop {p : Nat × Int // Φ1 p.1 p.2 = some R} (fun p => mkS 26 [(0, .d (lst 1 (D.int .i64) p0)), (1, .d (lst 1 (D.int .i64) p1)), (5, .d (.int .i64 p.1.2))] []) (fun p => p.1.1) ⟨(_, _), hF⟩ ?_ fun p => ?_
 ·refine leF ?_
  conv => whnf
  exact lfF
 obtain ⟨⟨k1, v5_1⟩, hF⟩ := p
 obtain ⟨k1, rfl, hF⟩ := hΦ1 _ _ hF
 simp only [ref01_Ints_b1] at hF
 conv => whnf
 refine brF hF ebF (fun hF => ?_) (fun hF => ?_)
 ·conv => whnf
  refine ⟨⟨by decide +kernel, by kernel_rfl⟩, ?_⟩
  conv => whnf
  refine atF (f := (D.int .i64)) hF ebF fun x19 hx19 hF => ?_
  conv => whnf
  refine atF (f := (D.int .i64)) hF ebF fun x23 hx23 hF => ?_
  conv => whnf
  refine brF hF ebF (fun hF => ?_) (fun hF => ?_)
  ·conv => whnf
   obtain rfl := Option.some.inj hF
   exact ⟨rtF⟩
  conv => whnf
  refine ⟨⟨(_, _), hF⟩, ?_, Nat.lt_succ_self _⟩
  refine leF ?_
  conv => whnf
  exact lfF
 conv => whnf
 obtain rfl := Option.some.inj hF
 exact ⟨rtF⟩

theorem ref19_Keys_w (p0 : AExtract) (p1 : (List Int)) (R : (List Int))  (hF : ref19_Keys p0 p1 = some R) : ACall Tryz.prog 14 [.d (encAExtract p0), .d (lst 1 (D.int .i64) p1)] (.d (lst 1 (D.int .i64) R)) := by
 refine acall Tryz.func14 (by kernel_rfl) ?_
 unfold ref19_Keys at hF
 conv => whnf
 obtain ⟨Φ1, hΦ1, hF⟩ := iterF hF
 refine loop {p : Nat × (Int × (List Int)) // Φ1 p.1 p.2 = some R} (fun p => mkS 27 [(1, .d (lst 1 (D.int .i64) p1)), (2, .ptr 2 1 0), (5, .sl 5 1), (6, .d (.int .i64 p.1.2.1))] [(2, .var [.d (.str p0.Project), .d (.int .i64 p0.Version), .d (lst 2 encAPick p0.Picks), .d (lst 1 (lst 1 (D.int .i64)) p0.Rows)], 1), (5, .row 1 3 (List.map (D.int .i64) p.1.2.2), 1)]) (fun p => p.1.1) ⟨(_, (_, _)), hF⟩ ?_ fun p => ?_
 ·refine leF ?_
  conv => whnf
  exact lfF
 obtain ⟨⟨k1, ⟨v6_1, b5_1⟩⟩, hF⟩ := p
 obtain ⟨k1, rfl, hF⟩ := hΦ1 _ _ hF
 simp only [ref19_Keys_b1] at hF
 conv => whnf
 refine brF hF ebF (fun hF => ?_) (fun hF => ?_)
 ·conv => whnf
  refine ⟨⟨by decide +kernel, by kernel_rfl⟩, ?_⟩
  conv => whnf
  refine atF (f := (D.int .i64)) hF ebF fun x18 hx18 hF => ?_
  conv => whnf
  refine atF (f := (lst 1 (D.int .i64))) hF ebF fun x20 hx20 hF => ?_
  conv => whnf
  refine atF (f := (D.int .i64)) hF ebF fun x22 hx22 hF => ?_
  conv => whnf
  obtain ⟨hr, hF⟩ := gdF hF
  refine ⟨by (simp only [List.length_map]; exact rm_fits hr (of_decide_eq_true (by kernel_rfl)) (.inr (by kernel_rfl))), ?_⟩
  try rw [snocI]
  conv => whnf
  refine ⟨⟨(_, (_, _)), hF⟩, ?_, Nat.lt_succ_self _⟩
  refine leF ?_
  conv => whnf
  exact lfF
 conv => whnf
 obtain rfl := Option.some.inj hF
 refine ⟨.inl ?_⟩
 conv => whnf
 exact ⟨rtF⟩

theorem ref02_Block_w (p0 : AColumn) (p1 : Int) (p2 : Int) (R : (Int × Int × Bool))  (hF : ref02_Block p0 p1 p2 = some R) : ACall Tryz.prog 155 [.d (encAColumn p0), .d (.int .i64 p1), .d (.int .i64 p2)] (.tup [.d (.int .i64 R.1), .d (.int .i64 R.2.1), .d (.bool R.2.2)]) := by
 refine acallJ [6] Tryz.func155 (by kernel_rfl) ?_
 unfold ref02_Block at hF
 conv => whnf
 refine brF hF ebF (fun hF => ?_) (fun hF => ?_)
 ·conv => whnf
  refine ⟨⟨by decide +kernel, by kernel_rfl⟩, ?_⟩
  conv => whnf
  obtain rfl := Option.some.inj hF
  exact ⟨rtF⟩
 conv => whnf
 obtain ⟨x22, hx22, hF⟩ := bindF hF
 refine callA (ref02_Width_w _ _ _ hx22) ?_
 conv => whnf
 refine join {p : Unit // ref02_Block_j1 p2 p0 x22 = some R} (fun p => mkS 52 [(2, .d (.int .i64 p2)), (3, .ptr 3 1 0), (9, .d (.int .i64 x22))] [(3, .var [.d (.str p0.Name), .d (.int .i64 p0.Kind), .d (.int .i64 p0.List_), .d (.int .i64 p0.Low), .d (.int .i64 p0.High), .d (lst 1 (D.int .i64) p0.Widths), .d (.bool p0.Optional)], 1)]) ?_ fun p => ?_
 ·conv => whnf
  refine brF hF ebF (fun hF => ?_) (fun hF => ?_)
  ·obtain rfl := Option.some.inj hF
   exact ⟨rtF⟩
  obtain ⟨x27, hx27, hF⟩ := bindF hF
  refine callA (ref02_in_w _ _ _ _ hx27) ?_
  conv => whnf
  refine brF hF ebF (fun hF => ?_) (fun hF => ?_)
  ·obtain rfl := Option.some.inj hF
   exact ⟨rtF⟩
  obtain ⟨hr, hF⟩ := gdF hF
  refine ⟨of_decide_eq_true hr, ?_⟩
  conv => whnf
  refine brF hF ebF (fun hF => ?_) (fun hF => ?_)
  ·conv => whnf
   obtain rfl := Option.some.inj hF
   exact ⟨rtF⟩
  conv => whnf
  refine ⟨⟨(), hF⟩, ?_⟩
  refine leF ?_
  conv => whnf
  exact lfF
 obtain ⟨_, hF⟩ := p
 simp only [ref02_Block_j1] at hF
 conv => whnf
 refine ⟨⟨by decide +kernel, by kernel_rfl⟩, ?_⟩
 conv => whnf
 obtain rfl := Option.some.inj hF
 exact ⟨rtF⟩

theorem ref02_Can_w (p0 : ASchema) (p1 : Int) (p2 : Int) (p3 : Int) (R : Bool)  (hF : ref02_Can p0 p1 p2 p3 = some R) : ACall Tryz.prog 93 [.d (encASchema p0), .d (.int .i64 p1), .d (.int .i64 p2), .d (.int .i64 p3)] (.d (.bool R)) := by
 refine acall Tryz.func93 (by kernel_rfl) ?_
 unfold ref02_Can at hF
 conv => whnf
 obtain ⟨x18, hx18, hF⟩ := bindF hF
 refine callA (ref02_Finest_w _ _ _ hx18) ?_
 conv => whnf
 obtain ⟨x19, hx19, hF⟩ := bindF hF
 refine callA (ref02_in_w _ _ _ _ hx19) ?_
 conv => whnf
 refine brF hF ebF (fun hF => ?_) (fun hF => ?_)
 ·conv => whnf
  obtain rfl := Option.some.inj hF
  exact ⟨rtF⟩
 conv => whnf
 refine atF (f := encAColumn) hF ebF fun x24 hx24 hF => ?_
 conv => whnf
 refine brF hF ebF (fun hF => ?_) (fun hF => ?_)
 ·conv => whnf
  obtain ⟨x31, hx31, hF⟩ := bindF hF
  refine callA (ref02_Leaves_w _ _ _ hx31) ?_
  conv => whnf
  obtain ⟨Φ1, hΦ1, hF⟩ := iterF hF
  refine loop {p : Nat × Int // Φ1 p.1 p.2 = some R} (fun p => mkS 65 [(1, .d (.int .i64 p1)), (2, .d (.int .i64 p2)), (3, .d (.int .i64 p3)), (4, .ptr 4 1 0), (10, .d (lst 1 (D.int .i64) x31)), (11, .d (.int .i64 p.1.2))] [(4, .var [.d (lst 2 encACodeList p0.Lists), .d (lst 7 encAColumn p0.Columns)], 1)]) (fun p => p.1.1) ⟨(_, _), hF⟩ ?_ fun p => ?_
  ·refine leF ?_
   conv => whnf
   exact lfF
  obtain ⟨⟨k1, v11_1⟩, hF⟩ := p
  obtain ⟨k1, rfl, hF⟩ := hΦ1 _ _ hF
  simp only [ref02_Can_b1] at hF
  conv => whnf
  refine brF hF ebF (fun hF => ?_) (fun hF => ?_)
  ·conv => whnf
   refine ⟨⟨by decide +kernel, by kernel_rfl⟩, ?_⟩
   conv => whnf
   refine atF (f := (D.int .i64)) hF ebF fun x43 hx43 hF => ?_
   conv => whnf
   obtain ⟨x45, hx45, hF⟩ := bindF hF
   refine callA (ref02_Coarse_w _ _ _ _ _ hx45) ?_
   conv => whnf
   refine brF hF ebF (fun hF => ?_) (fun hF => ?_)
   ·conv => whnf
    obtain rfl := Option.some.inj hF
    exact ⟨rtF⟩
   conv => whnf
   refine ⟨⟨(_, _), hF⟩, ?_, Nat.lt_succ_self _⟩
   refine leF ?_
   conv => whnf
   exact lfF
  conv => whnf
  obtain rfl := Option.some.inj hF
  exact ⟨rtF⟩
 conv => whnf
 refine brF hF ebF (fun hF => ?_) (fun hF => ?_)
 ·conv => whnf
  obtain rfl := Option.some.inj hF
  exact ⟨rtF⟩
 conv => whnf
 obtain ⟨x60, hx60, hF⟩ := bindF hF
 refine callA (ref02_Block_w _ _ _ _ hx60) ?_
 conv => whnf
 obtain rfl := Option.some.inj hF
 exact ⟨rtF⟩

theorem ref13_Check_w (p0 : ASchema) (p1 : AExtract) (R : Int)  (hF : ref13_Check p0 p1 = some R) : ACall Tryz.prog 44 [.d (encASchema p0), .d (encAExtract p1)] (.d (.int .i64 R)) := by
 refine acallJ [19] Tryz.func44 (by kernel_rfl) ?_
 unfold ref13_Check at hF
 conv => whnf
 obtain ⟨x11, hx11, hF⟩ := bindF hF
 refine callA (ref02_Check_w _ _ hx11) ?_
 conv => whnf
 refine brF hF ebF (fun hF => ?_) (fun hF => ?_)
 ·conv => whnf
  obtain rfl := Option.some.inj hF
  exact ⟨rtF⟩
 conv => whnf
 obtain ⟨x17, hx17, hF⟩ := bindF hF
 refine callA (ref01_Name_w _ _ hx17) ?_
 conv => whnf
 refine brF hF ebF (fun hF => ?_) (fun hF => ?_)
 ·conv => whnf
  obtain rfl := Option.some.inj hF
  exact ⟨rtF⟩
 conv => whnf
 refine brF hF ebF (fun hF => ?_) (fun hF => ?_)
 ·conv => whnf
  obtain rfl := Option.some.inj hF
  exact ⟨rtF⟩
 conv => whnf
 obtain ⟨x30, hx30, hF⟩ := bindF hF
 refine callA (ref02_Picks_w _ _ _ hx30) ?_
 conv => whnf
 refine brF hF ebF (fun hF => ?_) (fun hF => ?_)
 ·conv => whnf
  obtain rfl := Option.some.inj hF
  exact ⟨rtF⟩
 conv => whnf
 refine brF hF ebF (fun hF => ?_) (fun hF => ?_)
 ·conv => whnf
  obtain rfl := Option.some.inj hF
  exact ⟨rtF⟩
 conv => whnf
 obtain ⟨Φ1, hΦ1, hF⟩ := iterF hF
 refine loop {p : Nat × Int // Φ1 p.1 p.2 = some R} (fun p => mkS 112 [(2, .ptr 2 1 0), (3, .ptr 3 1 0), (7, .d (.int .i64 p.1.2))] [(2, .var [.d (lst 2 encACodeList p0.Lists), .d (lst 7 encAColumn p0.Columns)], 1), (3, .var [.d (.str p1.Project), .d (.int .i64 p1.Version), .d (lst 2 encAPick p1.Picks), .d (lst 1 (lst 1 (D.int .i64)) p1.Rows)], 1)]) (fun p => p.1.1) ⟨(_, _), hF⟩ ?_ fun p => ?_
 ·refine leF ?_
  conv => whnf
  exact lfF
 obtain ⟨⟨k1, v7_1⟩, hF⟩ := p
 obtain ⟨k1, rfl, hF⟩ := hΦ1 _ _ hF
 simp only [ref13_Check_b1] at hF
 conv => whnf
 refine brF hF ebF (fun hF => ?_) (fun hF => ?_)
 ·conv => whnf
  refine atF (f := (lst 1 (D.int .i64))) hF ebF fun x48 hx48 hF => ?_
  conv => whnf
  refine join {p : Unit // ref13_Check_j1 p1 x48 p0 v7_1 (Φ1 k1) = some R} (fun p => mkS 112 [(2, .ptr 2 1 0), (3, .ptr 3 1 0), (7, .d (.int .i64 v7_1)), (8, .d (lst 1 (D.int .i64) x48))] [(2, .var [.d (lst 2 encACodeList p0.Lists), .d (lst 7 encAColumn p0.Columns)], 1), (3, .var [.d (.str p1.Project), .d (.int .i64 p1.Version), .d (lst 2 encAPick p1.Picks), .d (lst 1 (lst 1 (D.int .i64)) p1.Rows)], 1)]) ?_ fun p => ?_
  ·conv => whnf
   refine brF hF ebF (fun hF => ?_) (fun hF => ?_)
   ·obtain rfl := Option.some.inj hF
    exact ⟨rtF⟩
   refine atF (f := (D.int .i64)) hF ebF fun x59 hx59 hF => ?_
   conv => whnf
   refine brF hF ebF (fun hF => ?_) (fun hF => ?_)
   ·obtain rfl := Option.some.inj hF
    exact ⟨rtF⟩
   refine atF (f := (D.int .i64)) hF ebF fun x65 hx65 hF => ?_
   conv => whnf
   refine brF hF ebF (fun hF => ?_) (fun hF => ?_)
   ·conv => whnf
    obtain rfl := Option.some.inj hF
    exact ⟨rtF⟩
   conv => whnf
   refine ⟨⟨(), hF⟩, ?_⟩
   refine leF ?_
   conv => whnf
   exact lfF
  obtain ⟨_, hF⟩ := p
  simp only [ref13_Check_j1] at hF
  conv => whnf
  obtain ⟨Φ2, hΦ2, hF⟩ := iterF hF
  refine loop {p : Nat × Int // Φ2 p.1 p.2 = some R} (fun p => mkS 112 [(2, .ptr 2 1 0), (3, .ptr 3 1 0), (7, .d (.int .i64 v7_1)), (8, .d (lst 1 (D.int .i64) x48)), (9, .d (.int .i64 p.1.2))] [(2, .var [.d (lst 2 encACodeList p0.Lists), .d (lst 7 encAColumn p0.Columns)], 1), (3, .var [.d (.str p1.Project), .d (.int .i64 p1.Version), .d (lst 2 encAPick p1.Picks), .d (lst 1 (lst 1 (D.int .i64)) p1.Rows)], 1)]) (fun p => p.1.1) ⟨(_, _), hF⟩ ?_ fun p => ?_
  ·refine leF ?_
   conv => whnf
   exact lfF
  obtain ⟨⟨k2, v9_2⟩, hF⟩ := p
  obtain ⟨k2, rfl, hF⟩ := hΦ2 _ _ hF
  simp only [ref13_Check_b2] at hF
  conv => whnf
  refine brF hF ebF (fun hF => ?_) (fun hF => ?_)
  ·conv => whnf
   refine ⟨⟨by decide +kernel, by kernel_rfl⟩, ?_⟩
   conv => whnf
   refine atF (f := encAPick) hF ebF fun x80 hx80 hF => ?_
   conv => whnf
   refine atF (f := encAPick) hF ebF fun x86 hx86 hF => ?_
   conv => whnf
   refine atF (f := (D.int .i64)) hF ebF fun x92 hx92 hF => ?_
   conv => whnf
   obtain ⟨x94, hx94, hF⟩ := bindF hF
   refine callA (ref02_Can_w _ _ _ _ _ hx94) ?_
   conv => whnf
   refine brF hF ebF (fun hF => ?_) (fun hF => ?_)
   ·conv => whnf
    obtain rfl := Option.some.inj hF
    exact ⟨rtF⟩
   conv => whnf
   refine ⟨⟨(_, _), hF⟩, ?_, Nat.lt_succ_self _⟩
   refine leF ?_
   conv => whnf
   exact lfF
  conv => whnf
  try simp only [ref13_Check_k1] at hF
  refine ⟨⟨by decide +kernel, by kernel_rfl⟩, ?_⟩
  conv => whnf
  refine brF hF ebF (fun hF => ?_) (fun hF => ?_)
  ·refine atF (f := (D.int .i64)) hF ebF fun x100 hx100 hF => ?_
   conv => whnf
   refine atF (f := (lst 1 (D.int .i64))) hF ebF fun x106 hx106 hF => ?_
   conv => whnf
   refine atF (f := (D.int .i64)) hF ebF fun x108 hx108 hF => ?_
   conv => whnf
   refine brF hF ebF (fun hF => ?_) (fun hF => ?_)
   ·conv => whnf
    obtain rfl := Option.some.inj hF
    exact ⟨rtF⟩
   conv => whnf
   refine ⟨⟨(_, _), hF⟩, ?_, Nat.lt_succ_self _⟩
   refine leF ?_
   conv => whnf
   exact lfF
  refine ⟨⟨(_, _), hF⟩, ?_, Nat.lt_succ_self _⟩
  refine leF ?_
  conv => whnf
  exact lfF
 conv => whnf
 try simp only [ref13_Check_k1] at hF
 obtain rfl := Option.some.inj hF
 exact ⟨rtF⟩

theorem ref05_some_w (p0 : ASchema) (p1 : Int) (p2 : Int) (p3 : Int) (R : Int)  (hF : ref05_some p0 p1 p2 p3 = some R) : ACall Tryz.prog 162 [.d (encASchema p0), .d (.int .i64 p1), .d (.int .i64 p2), .d (.int .i64 p3)] (.d (.int .i64 R)) := by
 refine acall Tryz.func162 (by kernel_rfl) ?_
 unfold ref05_some at hF
 conv => whnf
 refine atF (f := encAColumn) hF ebF fun x18 hx18 hF => ?_
 conv => whnf
 refine brF hF ebF (fun hF => ?_) (fun hF => ?_)
 ·conv => whnf
  obtain ⟨x25, hx25, hF⟩ := bindF hF
  refine callA (ref02_Leaves_w _ _ _ hx25) ?_
  conv => whnf
  obtain ⟨Φ1, hΦ1, hF⟩ := iterF hF
  refine loop {p : Nat × Int // Φ1 p.1 p.2 = some R} (fun p => mkS 62 [(1, .d (.int .i64 p1)), (2, .d (.int .i64 p2)), (3, .d (.int .i64 p3)), (4, .ptr 4 1 0), (10, .d (lst 1 (D.int .i64) x25)), (11, .d (.int .i64 p.1.2))] [(4, .var [.d (lst 2 encACodeList p0.Lists), .d (lst 7 encAColumn p0.Columns)], 1)]) (fun p => p.1.1) ⟨(_, _), hF⟩ ?_ fun p => ?_
  ·refine leF ?_
   conv => whnf
   exact lfF
  obtain ⟨⟨k1, v11_1⟩, hF⟩ := p
  obtain ⟨k1, rfl, hF⟩ := hΦ1 _ _ hF
  simp only [ref05_some_b1] at hF
  conv => whnf
  refine brF hF ebF (fun hF => ?_) (fun hF => ?_)
  ·conv => whnf
   refine ⟨⟨by decide +kernel, by kernel_rfl⟩, ?_⟩
   conv => whnf
   refine atF (f := (D.int .i64)) hF ebF fun x37 hx37 hF => ?_
   conv => whnf
   obtain ⟨x39, hx39, hF⟩ := bindF hF
   refine callA (ref02_Coarse_w _ _ _ _ _ hx39) ?_
   conv => whnf
   refine brF hF ebF (fun hF => ?_) (fun hF => ?_)
   ·conv => whnf
    refine atF (f := (D.int .i64)) hF ebF fun x44 hx44 hF => ?_
    conv => whnf
    obtain rfl := Option.some.inj hF
    exact ⟨rtF⟩
   conv => whnf
   refine ⟨⟨(_, _), hF⟩, ?_, Nat.lt_succ_self _⟩
   refine leF ?_
   conv => whnf
   exact lfF
  conv => whnf
  obtain rfl := Option.some.inj hF
  exact ⟨rtF⟩
 conv => whnf
 refine brF hF ebF (fun hF => ?_) (fun hF => ?_)
 ·conv => whnf
  obtain rfl := Option.some.inj hF
  exact ⟨rtF⟩
 conv => whnf
 obtain ⟨x57, hx57, hF⟩ := bindF hF
 refine callA (ref02_Block_w _ _ _ _ hx57) ?_
 conv => whnf
 obtain rfl := Option.some.inj hF
 exact ⟨rtF⟩

theorem ref05_coarse_ws (d : Nat) (self_ref05_coarse : (ASchema → ACond → (List APick) → (List Int) → Option Int)) (ih_ref05_coarse : ∀ (p0 : ASchema) (p1 : ACond) (p2 : (List APick)) (p3 : (List Int)) (R : Int) , self_ref05_coarse p0 p1 p2 p3 = some R → ACall Tryz.prog 97 [.d (encASchema p0), .d (opACond p1), .d (lst 2 encAPick p2), .d (lst 1 (D.int .i64) p3)] (.d (.int .i64 R))) (p0 : ASchema) (p1 : ACond) (p2 : (List APick)) (p3 : (List Int)) (R : Int)  (hF : ref05_coarse_s d self_ref05_coarse p0 p1 p2 p3 = some R) : ACall Tryz.prog 97 [.d (encASchema p0), .d (opACond p1), .d (lst 2 encAPick p2), .d (lst 1 (D.int .i64) p3)] (.d (.int .i64 R)) := by
 refine acall Tryz.func97 (by kernel_rfl) ?_
 unfold ref05_coarse_s at hF
 conv => whnf
 refine brF hF ebF (fun hF => ?_) (fun hF => ?_)
 ·conv => whnf
  obtain ⟨Φ1, hΦ1, hF⟩ := iterF hF
  refine loop {p : Nat × (Int × Int × Int) // Φ1 p.1 p.2 = some R} (fun p => mkS 82 [(2, .d (lst 2 encAPick p2)), (3, .d (lst 1 (D.int .i64) p3)), (4, .ptr 4 1 0), (5, .ptr 5 1 0), (9, .d (.int .i64 p.1.2.1)), (10, .d (.int .i64 p.1.2.2.1)), (11, .d (.int .i64 p.1.2.2.2))] [(4, .var [.d (lst 2 encACodeList p0.Lists), .d (lst 7 encAColumn p0.Columns)], 1), (5, .var [.d (.int .i64 p1.Op), .d (.int .i64 p1.Column), .d (.int .i64 p1.Code), .d (.int .i64 p1.Low), .d (.int .i64 p1.High), .d (lst 6 encACond p1.Kids)], 1)]) (fun p => p.1.1) ⟨(_, (_, _, _)), hF⟩ ?_ fun p => ?_
  ·refine leF ?_
   conv => whnf
   exact lg0
  obtain ⟨⟨k1, ⟨v9_1, v10_1, v11_1⟩⟩, hF⟩ := p
  obtain ⟨k1, rfl, hF⟩ := hΦ1 _ _ hF
  simp only [ref05_coarse_b1] at hF
  conv => whnf
  refine brF hF ebF (fun hF => ?_) (fun hF => ?_)
  ·conv => whnf
   refine ⟨⟨by decide +kernel, by kernel_rfl⟩, ?_⟩
   conv => whnf
   refine atF (f := encAPick) hF ebF fun x35 hx35 hF => ?_
   conv => whnf
   refine brF hF ebF (fun hF => ?_) (fun hF => ?_)
   ·conv => whnf
    refine ⟨⟨by decide +kernel, by kernel_rfl⟩, ?_⟩
    conv => whnf
    refine atF (f := encAPick) hF ebF fun x43 hx43 hF => ?_
    conv => whnf
    refine atF (f := (D.int .i64)) hF ebF fun x48 hx48 hF => ?_
    conv => whnf
    refine ⟨⟨(_, (_, _, _)), hF⟩, ?_, Nat.lt_succ_self _⟩
    refine leF ?_
    conv => whnf
    exact lg0
   conv => whnf
   refine ⟨⟨(_, (_, _, _)), hF⟩, ?_, Nat.lt_succ_self _⟩
   refine leF ?_
   conv => whnf
   exact lg0
  conv => whnf
  refine ⟨⟨by decide +kernel, by kernel_rfl⟩, ?_⟩
  conv => whnf
  obtain ⟨x57, hx57, hF⟩ := bindF hF
  refine callA (ref05_some_w _ _ _ _ _ hx57) ?_
  conv => whnf
  obtain ⟨x58, hx58, hF⟩ := bindF hF
  refine callA (ref05_Atom_w _ _ _ _ hx58) ?_
  conv => whnf
  obtain rfl := Option.some.inj hF
  exact ⟨rg0⟩
 conv => whnf
 obtain ⟨Φ2, hΦ2, hF⟩ := iterF hF
 refine loop {p : Nat × (Int × (List Int)) // Φ2 p.1 p.2 = some R} (fun p => mkS 82 [(2, .d (lst 2 encAPick p2)), (3, .d (lst 1 (D.int .i64) p3)), (4, .ptr 4 1 0), (5, .ptr 5 1 0), (12, .sl 12 1), (13, .d (.int .i64 p.1.2.1))] [(4, .var [.d (lst 2 encACodeList p0.Lists), .d (lst 7 encAColumn p0.Columns)], 1), (5, .var [.d (.int .i64 p1.Op), .d (.int .i64 p1.Column), .d (.int .i64 p1.Code), .d (.int .i64 p1.Low), .d (.int .i64 p1.High), .d (lst 6 encACond p1.Kids)], 1), (12, .row 1 3 (List.map (D.int .i64) p.1.2.2), 1)]) (fun p => p.1.1) ⟨(_, (_, _)), hF⟩ ?_ fun p => ?_
 ·refine leF ?_
  conv => whnf
  exact lg0
 obtain ⟨⟨k2, ⟨v13_2, b12_2⟩⟩, hF⟩ := p
 obtain ⟨k2, rfl, hF⟩ := hΦ2 _ _ hF
 simp only [ref05_coarse_b2] at hF
 conv => whnf
 refine brF hF ebF (fun hF => ?_) (fun hF => ?_)
 ·conv => whnf
  refine ⟨⟨by decide +kernel, by kernel_rfl⟩, ?_⟩
  conv => whnf
  refine atF (f := encACond) hF ebF fun x71 hx71 hF => ?_
  rw [encACond_op x71]
  conv => whnf
  obtain ⟨x75, hx75, hF⟩ := bindF hF
  first | refine callA (ih_ref05_coarse _ _ _ _ _ hx75) ?_ | (simp only [List.length_map]; refine callA (ih_ref05_coarse _ _ _ _ _ hx75) ?_)
  conv => whnf
  obtain ⟨hr, hF⟩ := gdF hF
  refine ⟨by (simp only [List.length_map]; exact rm_fits hr (of_decide_eq_true (by kernel_rfl)) (.inr (by kernel_rfl))), ?_⟩
  try rw [snocI]
  conv => whnf
  refine ⟨⟨(_, (_, _)), hF⟩, ?_, Nat.lt_succ_self _⟩
  refine leF ?_
  conv => whnf
  exact lg0
 conv => whnf
 obtain ⟨x81, hx81, hF⟩ := bindF hF
 refine callA (ref05_join_w _ _ _ hx81) ?_
 conv => whnf
 obtain rfl := Option.some.inj hF
 exact ⟨rg0⟩

theorem ref05_coarse_wr : ∀ d : Nat, (∀ (p0 : ASchema) (p1 : ACond) (p2 : (List APick)) (p3 : (List Int)) (R : Int) , ref05_coarse d p0 p1 p2 p3 = some R → ACall Tryz.prog 97 [.d (encASchema p0), .d (opACond p1), .d (lst 2 encAPick p2), .d (lst 1 (D.int .i64) p3)] (.d (.int .i64 R)))
  | 0 => by
   refine (by intros; rename_i h; cases h)
  | d + 1 => by
   have ih := ref05_coarse_wr d
   exact ref05_coarse_ws d _ ih

theorem ref05_coarse_w (d : Nat) : ∀ (p0 : ASchema) (p1 : ACond) (p2 : (List APick)) (p3 : (List Int)) (R : Int) , ref05_coarse d p0 p1 p2 p3 = some R → ACall Tryz.prog 97 [.d (encASchema p0), .d (opACond p1), .d (lst 2 encAPick p2), .d (lst 1 (D.int .i64) p3)] (.d (.int .i64 R)) := ref05_coarse_wr d

theorem ref05_Coarse_w (d : Nat) (p0 : ASchema) (p1 : ACond) (p2 : (List APick)) (p3 : (List Int)) (R : Int)  (hF : ref05_Coarse d p0 p1 p2 p3 = some R) : ACall Tryz.prog 45 [.d (encASchema p0), .d (opACond p1), .d (lst 2 encAPick p2), .d (lst 1 (D.int .i64) p3)] (.d (.int .i64 R)) := by
 refine acallJ [3] Tryz.func45 (by kernel_rfl) ?_
 unfold ref05_Coarse at hF
 conv => whnf
 refine join {p : Unit // ref05_Coarse_j1 p2 p3 p0 d p1 = some R} (fun p => mkS 63 [(2, .d (lst 2 encAPick p2)), (3, .d (lst 1 (D.int .i64) p3)), (4, .ptr 4 1 0), (5, .ptr 5 1 0)] [(4, .var [.d (lst 2 encACodeList p0.Lists), .d (lst 7 encAColumn p0.Columns)], 1), (5, .var [.d (.int .i64 p1.Op), .d (.int .i64 p1.Column), .d (.int .i64 p1.Code), .d (.int .i64 p1.Low), .d (.int .i64 p1.High), .d (lst 6 encACond p1.Kids)], 1)]) ?_ fun p => ?_
 ·conv => whnf
  obtain ⟨x12, hx12, hF⟩ := bindF hF
  refine callA (ref05_Check_w _ _ _ _ hx12) ?_
  conv => whnf
  refine brF hF ebF (fun hF => ?_) (fun hF => ?_)
  ·obtain rfl := Option.some.inj hF
   exact ⟨rg0⟩
  obtain ⟨x17, hx17, hF⟩ := bindF hF
  refine callA (ref02_Picks_w _ _ _ hx17) ?_
  conv => whnf
  refine brF hF ebF (fun hF => ?_) (fun hF => ?_)
  ·obtain rfl := Option.some.inj hF
   exact ⟨rg0⟩
  obtain ⟨x30, hx30, hF⟩ := bindF hF
  refine callA (ref05_Needs_w _ _ _ _ hx30) ?_
  conv => whnf
  obtain ⟨x32, hx32, hF⟩ := bindF hF
  refine callA (ref05_Covers_w _ _ _ hx32) ?_
  conv => whnf
  refine brF hF ebF (fun hF => ?_) (fun hF => ?_)
  ·conv => whnf
   obtain rfl := Option.some.inj hF
   exact ⟨rg0⟩
  conv => whnf
  refine ⟨⟨(), hF⟩, ?_⟩
  refine leF ?_
  conv => whnf
  exact lg0
 obtain ⟨_, hF⟩ := p
 simp only [ref05_Coarse_j1] at hF
 conv => whnf
 obtain ⟨Φ1, hΦ1, hF⟩ := iterF hF
 refine loop {p : Nat × Int // Φ1 p.1 p.2 = some R} (fun p => mkS 63 [(2, .d (lst 2 encAPick p2)), (3, .d (lst 1 (D.int .i64) p3)), (4, .ptr 4 1 0), (5, .ptr 5 1 0), (9, .d (.int .i64 p.1.2))] [(4, .var [.d (lst 2 encACodeList p0.Lists), .d (lst 7 encAColumn p0.Columns)], 1), (5, .var [.d (.int .i64 p1.Op), .d (.int .i64 p1.Column), .d (.int .i64 p1.Code), .d (.int .i64 p1.Low), .d (.int .i64 p1.High), .d (lst 6 encACond p1.Kids)], 1)]) (fun p => p.1.1) ⟨(_, _), hF⟩ ?_ fun p => ?_
 ·refine leF ?_
  conv => whnf
  exact lg0
 obtain ⟨⟨k1, v9_1⟩, hF⟩ := p
 obtain ⟨k1, rfl, hF⟩ := hΦ1 _ _ hF
 simp only [ref05_Coarse_b1] at hF
 conv => whnf
 refine brF hF ebF (fun hF => ?_) (fun hF => ?_)
 ·conv => whnf
  refine ⟨⟨by decide +kernel, by kernel_rfl⟩, ?_⟩
  conv => whnf
  refine atF (f := encAPick) hF ebF fun x44 hx44 hF => ?_
  conv => whnf
  refine atF (f := encAPick) hF ebF fun x49 hx49 hF => ?_
  conv => whnf
  refine atF (f := (D.int .i64)) hF ebF fun x54 hx54 hF => ?_
  conv => whnf
  obtain ⟨x56, hx56, hF⟩ := bindF hF
  refine callA (ref02_Can_w _ _ _ _ _ hx56) ?_
  conv => whnf
  refine brF hF ebF (fun hF => ?_) (fun hF => ?_)
  ·conv => whnf
   obtain rfl := Option.some.inj hF
   exact ⟨rg0⟩
  conv => whnf
  refine ⟨⟨(_, _), hF⟩, ?_, Nat.lt_succ_self _⟩
  refine leF ?_
  conv => whnf
  exact lg0
 conv => whnf
 obtain ⟨x62, hx62, hF⟩ := bindF hF
 refine callA (ref05_coarse_w _ _ _ _ _ _ hx62) ?_
 conv => whnf
 obtain rfl := Option.some.inj hF
 exact ⟨rg0⟩

theorem ref02_Turn_w (p0 : ASchema) (p1 : Int) (p2 : Int) (p3 : Int) (p4 : Int) (R : (Int × Bool))  (hF : ref02_Turn p0 p1 p2 p3 p4 = some R) : ACall Tryz.prog 98 [.d (encASchema p0), .d (.int .i64 p1), .d (.int .i64 p2), .d (.int .i64 p3), .d (.int .i64 p4)] (.tup [.d (.int .i64 R.1), .d (.bool R.2)]) := by
 refine acallJ [3] Tryz.func98 (by kernel_rfl) ?_
 unfold ref02_Turn at hF
 conv => whnf
 refine join {p : Unit // ref02_Turn_j1 p0 p1 p2 p3 p4 = some R} (fun p => mkS 116 [(1, .d (.int .i64 p1)), (2, .d (.int .i64 p2)), (3, .d (.int .i64 p3)), (4, .d (.int .i64 p4)), (5, .ptr 5 1 0)] [(5, .var [.d (lst 2 encACodeList p0.Lists), .d (lst 7 encAColumn p0.Columns)], 1)]) ?_ fun p => ?_
 ·conv => whnf
  obtain ⟨x26, hx26, hF⟩ := bindF hF
  refine callA (ref02_Can_w _ _ _ _ _ hx26) ?_
  conv => whnf
  refine brF hF ebF (fun hF => ?_) (fun hF => ?_)
  ·obtain rfl := Option.some.inj hF
   exact ⟨rtF⟩
  obtain ⟨x32, hx32, hF⟩ := bindF hF
  refine callA (ref02_Finest_w _ _ _ hx32) ?_
  conv => whnf
  obtain ⟨x33, hx33, hF⟩ := bindF hF
  refine callA (ref02_in_w _ _ _ _ hx33) ?_
  conv => whnf
  refine brF hF ebF (fun hF => ?_) (fun hF => ?_)
  ·conv => whnf
   obtain rfl := Option.some.inj hF
   exact ⟨rtF⟩
  conv => whnf
  refine ⟨⟨(), hF⟩, ?_⟩
  refine leF ?_
  conv => whnf
  exact lfF
 obtain ⟨_, hF⟩ := p
 simp only [ref02_Turn_j1] at hF
 conv => whnf
 refine atF (f := encAColumn) hF ebF fun x39 hx39 hF => ?_
 conv => whnf
 refine brF hF ebF (fun hF => ?_) (fun hF => ?_)
 ·conv => whnf
  obtain ⟨x46, hx46, hF⟩ := bindF hF
  refine callA (ref02_Leaves_w _ _ _ hx46) ?_
  conv => whnf
  obtain ⟨Φ1, hΦ1, hF⟩ := iterF hF
  refine loop {p : Nat × (Int × Int) // Φ1 p.1 p.2 = some R} (fun p => mkS 116 [(1, .d (.int .i64 p1)), (2, .d (.int .i64 p2)), (3, .d (.int .i64 p3)), (4, .d (.int .i64 p4)), (5, .ptr 5 1 0), (13, .d (lst 1 (D.int .i64) x46)), (14, .d (.int .i64 p.1.2.1)), (15, .d (.int .i64 p.1.2.2))] [(5, .var [.d (lst 2 encACodeList p0.Lists), .d (lst 7 encAColumn p0.Columns)], 1)]) (fun p => p.1.1) ⟨(_, (_, _)), hF⟩ ?_ fun p => ?_
  ·refine leF ?_
   conv => whnf
   exact lfF
  obtain ⟨⟨k1, ⟨v14_1, v15_1⟩⟩, hF⟩ := p
  obtain ⟨k1, rfl, hF⟩ := hΦ1 _ _ hF
  simp only [ref02_Turn_b1] at hF
  conv => whnf
  refine brF hF ebF (fun hF => ?_) (fun hF => ?_)
  ·conv => whnf
   refine ⟨⟨by decide +kernel, by kernel_rfl⟩, ?_⟩
   conv => whnf
   refine atF (f := (D.int .i64)) hF ebF fun x58 hx58 hF => ?_
   conv => whnf
   obtain ⟨x60, hx60, hF⟩ := bindF hF
   refine callA (ref02_Coarse_w _ _ _ _ _ hx60) ?_
   conv => whnf
   refine brF hF ebF (fun hF => ?_) (fun hF => ?_)
   ·conv => whnf
    refine ⟨⟨(_, (_, _)), hF⟩, ?_, Nat.lt_succ_self _⟩
    refine leF ?_
    conv => whnf
    exact lfF
   conv => whnf
   refine ⟨⟨by decide +kernel, by kernel_rfl⟩, ?_⟩
   conv => whnf
   refine atF (f := (D.int .i64)) hF ebF fun x68 hx68 hF => ?_
   conv => whnf
   obtain ⟨x70, hx70, hF⟩ := bindF hF
   refine callA (ref02_Coarse_w _ _ _ _ _ hx70) ?_
   conv => whnf
   refine brF hF ebF (fun hF => ?_) (fun hF => ?_)
   ·conv => whnf
    obtain rfl := Option.some.inj hF
    exact ⟨rtF⟩
   conv => whnf
   refine ⟨⟨(_, (_, _)), hF⟩, ?_, Nat.lt_succ_self _⟩
   refine leF ?_
   conv => whnf
   exact lfF
  conv => whnf
  obtain rfl := Option.some.inj hF
  exact ⟨rtF⟩
 conv => whnf
 refine brF hF ebF (fun hF => ?_) (fun hF => ?_)
 ·conv => whnf
  obtain rfl := Option.some.inj hF
  exact ⟨rtF⟩
 conv => whnf
 refine brF hF ebF (fun hF => ?_) (fun hF => ?_)
 ·conv => whnf
  obtain rfl := Option.some.inj hF
  exact ⟨rtF⟩
 conv => whnf
 refine brF hF ebF (fun hF => ?_) (fun hF => ?_)
 ·conv => whnf
  obtain rfl := Option.some.inj hF
  exact ⟨rtF⟩
 conv => whnf
 obtain ⟨x98, hx98, hF⟩ := bindF hF
 refine callA (ref02_Block_w _ _ _ _ hx98) ?_
 conv => whnf
 refine ⟨⟨by decide +kernel, by kernel_rfl⟩, ?_⟩
 conv => whnf
 obtain ⟨x106, hx106, hF⟩ := bindF hF
 refine callA (ref02_Coarse_w _ _ _ _ _ hx106) ?_
 conv => whnf
 obtain ⟨x111, hx111, hF⟩ := bindF hF
 refine callA (ref02_Coarse_w _ _ _ _ _ hx111) ?_
 conv => whnf
 refine brF hF ebF (fun hF => ?_) (fun hF => ?_)
 ·conv => whnf
  obtain rfl := Option.some.inj hF
  exact ⟨rtF⟩
 conv => whnf
 obtain rfl := Option.some.inj hF
 exact ⟨rtF⟩

theorem ref13_Inner_w (p0 : ASchema) (p1 : AExtract) (p2 : Int) (p3 : Int) (p4 : Int) (R : (Int × Bool))  (hF : ref13_Inner p0 p1 p2 p3 p4 = some R) : ACall Tryz.prog 46 [.d (encASchema p0), .d (encAExtract p1), .d (.int .i64 p2), .d (.int .i64 p3), .d (.int .i64 p4)] (.tup [.d (.int .i64 R.1), .d (.bool R.2)]) := by
 refine acall Tryz.func46 (by kernel_rfl) ?_
 unfold ref13_Inner at hF
 conv => whnf
 refine brF hF ebF (fun hF => ?_) (fun hF => ?_)
 ·conv => whnf
  obtain rfl := Option.some.inj hF
  exact ⟨rtF⟩
 conv => whnf
 obtain ⟨Φ1, hΦ1, hF⟩ := iterF hF
 refine loop {p : Nat × Int // Φ1 p.1 p.2 = some R} (fun p => mkS 75 [(2, .d (.int .i64 p2)), (3, .d (.int .i64 p3)), (4, .d (.int .i64 p4)), (5, .ptr 5 1 0), (6, .ptr 6 1 0), (12, .d (.int .i64 p.1.2))] [(5, .var [.d (lst 2 encACodeList p0.Lists), .d (lst 7 encAColumn p0.Columns)], 1), (6, .var [.d (.str p1.Project), .d (.int .i64 p1.Version), .d (lst 2 encAPick p1.Picks), .d (lst 1 (lst 1 (D.int .i64)) p1.Rows)], 1)]) (fun p => p.1.1) ⟨(_, _), hF⟩ ?_ fun p => ?_
 ·refine leF ?_
  conv => whnf
  exact lfF
 obtain ⟨⟨k1, v12_1⟩, hF⟩ := p
 obtain ⟨k1, rfl, hF⟩ := hΦ1 _ _ hF
 simp only [ref13_Inner_b1] at hF
 conv => whnf
 refine brF hF ebF (fun hF => ?_) (fun hF => ?_)
 ·conv => whnf
  refine atF (f := encAPick) hF ebF fun x43 hx43 hF => ?_
  conv => whnf
  refine brF hF ebF (fun hF => ?_) (fun hF => ?_)
  ·conv => whnf
   refine ⟨⟨by decide +kernel, by kernel_rfl⟩, ?_⟩
   conv => whnf
   refine atF (f := encAPick) hF ebF fun x53 hx53 hF => ?_
   conv => whnf
   refine atF (f := (lst 1 (D.int .i64))) hF ebF fun x59 hx59 hF => ?_
   conv => whnf
   refine atF (f := (D.int .i64)) hF ebF fun x63 hx63 hF => ?_
   conv => whnf
   obtain ⟨x66, hx66, hF⟩ := bindF hF
   refine callA (ref02_Turn_w _ _ _ _ _ _ hx66) ?_
   conv => whnf
   obtain rfl := Option.some.inj hF
   exact ⟨rtF⟩
  conv => whnf
  refine ⟨⟨(_, _), hF⟩, ?_, Nat.lt_succ_self _⟩
  refine leF ?_
  conv => whnf
  exact lfF
 conv => whnf
 obtain ⟨x72, hx72, hF⟩ := bindF hF
 refine callA (ref02_Turn_w _ _ _ _ _ _ hx72) ?_
 conv => whnf
 obtain rfl := Option.some.inj hF
 exact ⟨rtF⟩
end Go.Proofs.YtejfnieiaecpkaaGreatDoor.P
