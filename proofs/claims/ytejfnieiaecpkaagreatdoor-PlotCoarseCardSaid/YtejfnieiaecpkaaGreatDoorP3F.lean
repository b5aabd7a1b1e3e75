/-
 Printed by wip/tools/mkw.py: plain forms.
-/
import Derived.Test.YtejfnieiaecpkaaGreatDoorWalk
import Derived.Test.YtejfnieiaecpkaaGreatDoorP3T
import Derived.Test.YtejfnieiaecpkaaGreatDoorWalkMap
import Derived.Test.YtejfnieiaecpkaaGreatDoorP3H
set_option linter.unusedSimpArgs false
namespace Go.Proofs.YtejfnieiaecpkaaGreatDoor.P
open Go.Abs Go.Proofs
set_option linter.unusedVariables false

def slices_Index_Lint_int_b1 (p0 : (List Int)) (p1 : Int) (kont1_0 : (Int → Option Int)) (rec1 : (Int → Option Int)) (v8_1 : Int) : Option Int :=
 bif (decide (v8_1 < ((p0.length : Nat) : Int))) then
  (idx p0 v8_1).bind fun x14 =>
  bif (p1 == x14) then
   some v8_1
  else
   rec1 (IntKind.i64.wrap (v8_1 + 1))
 else
  kont1_0 v8_1

def slices_Index_Lint_int (p0 : (List Int)) (p1 : Int) : Option Int :=
 iter (fun rec1 s => slices_Index_Lint_int_b1 p0 p1 (fun v8_1 => some (-1)) rec1 s) FUEL 0

def slices_Contains_Lint_int (p0 : (List Int)) (p1 : Int) : Option Bool :=
 (slices_Index_Lint_int p0 p1).bind fun x7 =>
 some (decide (x7 ≥ 0))

def slices_IndexFunc_Lapi_Pick_api_Pick_b1 (p0 : (List APick)) (p1 : (APick → Option Bool)) (kont1_0 : (Int → Option Int)) (rec1 : (Int → Option Int)) (v8_1 : Int) : Option Int :=
 bif (decide (v8_1 < ((p0.length : Nat) : Int))) then
  (idx p0 v8_1).bind fun x14 =>
  (p1 x14).bind fun x16 =>
  bif x16 then
   some v8_1
  else
   rec1 (IntKind.i64.wrap (v8_1 + 1))
 else
  kont1_0 v8_1

def slices_IndexFunc_Lapi_Pick_api_Pick (p0 : (List APick)) (p1 : (APick → Option Bool)) : Option Int :=
 iter (fun rec1 s => slices_IndexFunc_Lapi_Pick_api_Pick_b1 p0 p1 (fun v8_1 => some (-1)) rec1 s) FUEL 0

def slices_IndexFunc_Lint_int_b1 (p0 : (List Int)) (p1 : (Int → Option Bool)) (kont1_0 : (Int → Option Int)) (rec1 : (Int → Option Int)) (v8_1 : Int) : Option Int :=
 bif (decide (v8_1 < ((p0.length : Nat) : Int))) then
  (idx p0 v8_1).bind fun x14 =>
  (p1 x14).bind fun x16 =>
  bif x16 then
   some v8_1
  else
   rec1 (IntKind.i64.wrap (v8_1 + 1))
 else
  kont1_0 v8_1

def slices_IndexFunc_Lint_int (p0 : (List Int)) (p1 : (Int → Option Bool)) : Option Int :=
 iter (fun rec1 s => slices_IndexFunc_Lint_int_b1 p0 p1 (fun v8_1 => some (-1)) rec1 s) FUEL 0

def slices_ContainsFunc_Lint_int (p0 : (List Int)) (p1 : (Int → Option Bool)) : Option Bool :=
 (slices_IndexFunc_Lint_int p0 p1).bind fun x7 =>
 some (decide (x7 ≥ 0))

def slices_ContainsFunc_Lapi_Pick_api_Pick (p0 : (List APick)) (p1 : (APick → Option Bool)) : Option Bool :=
 (slices_IndexFunc_Lapi_Pick_api_Pick p0 p1).bind fun x7 =>
 some (decide (x7 ≥ 0))

def slices_IndexFunc_Lapi_CodeList_api_CodeList_b1 (p0 : (List ACodeList)) (p1 : (ACodeList → Option Bool)) (kont1_0 : (Int → Option Int)) (rec1 : (Int → Option Int)) (v8_1 : Int) : Option Int :=
 bif (decide (v8_1 < ((p0.length : Nat) : Int))) then
  (idx p0 v8_1).bind fun x14 =>
  (p1 x14).bind fun x16 =>
  bif x16 then
   some v8_1
  else
   rec1 (IntKind.i64.wrap (v8_1 + 1))
 else
  kont1_0 v8_1

def slices_IndexFunc_Lapi_CodeList_api_CodeList (p0 : (List ACodeList)) (p1 : (ACodeList → Option Bool)) : Option Int :=
 iter (fun rec1 s => slices_IndexFunc_Lapi_CodeList_api_CodeList_b1 p0 p1 (fun v8_1 => some (-1)) rec1 s) FUEL 0

def slices_ContainsFunc_Lapi_CodeList_api_CodeList (p0 : (List ACodeList)) (p1 : (ACodeList → Option Bool)) : Option Bool :=
 (slices_IndexFunc_Lapi_CodeList_api_CodeList p0 p1).bind fun x7 =>
 some (decide (x7 ≥ 0))

def slices_IndexFunc_Lapi_Expr_api_Expr_b1 (p0 : (List AExpr)) (p1 : (AExpr → Option Bool)) (kont1_0 : (Int → Option Int)) (rec1 : (Int → Option Int)) (v8_1 : Int) : Option Int :=
 bif (decide (v8_1 < ((p0.length : Nat) : Int))) then
  (idx p0 v8_1).bind fun x14 =>
  (p1 x14).bind fun x16 =>
  bif x16 then
   some v8_1
  else
   rec1 (IntKind.i64.wrap (v8_1 + 1))
 else
  kont1_0 v8_1

def slices_IndexFunc_Lapi_Expr_api_Expr (p0 : (List AExpr)) (p1 : (AExpr → Option Bool)) : Option Int :=
 iter (fun rec1 s => slices_IndexFunc_Lapi_Expr_api_Expr_b1 p0 p1 (fun v8_1 => some (-1)) rec1 s) FUEL 0

def slices_ContainsFunc_Lapi_Expr_api_Expr (p0 : (List AExpr)) (p1 : (AExpr → Option Bool)) : Option Bool :=
 (slices_IndexFunc_Lapi_Expr_api_Expr p0 p1).bind fun x7 =>
 some (decide (x7 ≥ 0))

def slices_IndexFunc_Lapi_Column_api_Column_b1 (p0 : (List AColumn)) (p1 : (AColumn → Option Bool)) (kont1_0 : (Int → Option Int)) (rec1 : (Int → Option Int)) (v8_1 : Int) : Option Int :=
 bif (decide (v8_1 < ((p0.length : Nat) : Int))) then
  (idx p0 v8_1).bind fun x14 =>
  (p1 x14).bind fun x16 =>
  bif x16 then
   some v8_1
  else
   rec1 (IntKind.i64.wrap (v8_1 + 1))
 else
  kont1_0 v8_1

def slices_IndexFunc_Lapi_Column_api_Column (p0 : (List AColumn)) (p1 : (AColumn → Option Bool)) : Option Int :=
 iter (fun rec1 s => slices_IndexFunc_Lapi_Column_api_Column_b1 p0 p1 (fun v8_1 => some (-1)) rec1 s) FUEL 0

def slices_ContainsFunc_Lapi_Column_api_Column (p0 : (List AColumn)) (p1 : (AColumn → Option Bool)) : Option Bool :=
 (slices_IndexFunc_Lapi_Column_api_Column p0 p1).bind fun x7 =>
 some (decide (x7 ≥ 0))

def slices_Max_Lint_int_b1 (p0 : (List Int)) (kont1_0 : (Int → Int → Option Int)) (rec1 : ((Int × Int) → Option Int)) (v3_1 : Int) (v4_1 : Int) : Option Int :=
 bif (decide (v4_1 < ((p0.length : Nat) : Int))) then
  (idx p0 v4_1).bind fun x21 =>
  rec1 ((if x21 > v3_1 then x21 else v3_1), (IntKind.i64.wrap (v4_1 + 1)))
 else
  kont1_0 v3_1 v4_1

def slices_Max_Lint_int (p0 : (List Int)) : Option Int :=
 bif (decide (((p0.length : Nat) : Int) < 1)) then
  none
 else
  (idx p0 0).bind fun x10 =>
  iter (fun rec1 s => slices_Max_Lint_int_b1 p0 (fun v3_1 v4_1 => some v3_1) rec1 s.1 s.2) FUEL (x10, 1)

def draw_New (p0 : (List Int)) : Option DrawCodes :=
 bif (decide (0 ≤ (0 : Int) ∧ 0 ≤ (if 400 < ((p0.length : Nat) : Int) then 400 else ((p0.length : Nat) : Int)) ∧ (if 400 < ((p0.length : Nat) : Int) then 400 else ((p0.length : Nat) : Int)) ≤ ((p0.length : Nat) : Int))) then
  some ({ f_l := (cut p0 0 (if 400 < ((p0.length : Nat) : Int) then 400 else ((p0.length : Nat) : Int))), f_at := 0 } : DrawCodes)
 else none

def draw_Codes_Next_j1 (p0 : DrawCodes) (p1 : Int) : Option (Int × DrawCodes) :=
 (idx p0.f_l (IntKind.i64.wrap ((IntKind.i64.wrap (p0.f_at + 1)) - 1))).bind fun x36 =>
 bif (decide (p1 > 256)) then
  bif (decide ((IntKind.i64.wrap (p0.f_at + 1)) < ((p0.f_l.length : Nat) : Int))) then
   (idx p0.f_l (IntKind.i64.wrap (p0.f_at + 1))).bind fun x63 =>
   bif (decide (p1 ≠ 0)) then
    some ((Int.tmod (IntKind.i64.wrap ((IntKind.i64.wrap ((IntKind.i64.wrap x36) * 256)) + (IntKind.i64.wrap x63))) p1), ({ f_l := p0.f_l, f_at := (IntKind.i64.wrap ((IntKind.i64.wrap (p0.f_at + 1)) + 1)) } : DrawCodes))
   else none
  else
   bif (decide (p1 ≠ 0)) then
    some ((Int.tmod (IntKind.i64.wrap x36) p1), ({ f_l := p0.f_l, f_at := (IntKind.i64.wrap (p0.f_at + 1)) } : DrawCodes))
   else none
 else
  bif (decide (p1 ≠ 0)) then
   some ((Int.tmod (IntKind.i64.wrap x36) p1), ({ f_l := p0.f_l, f_at := (IntKind.i64.wrap (p0.f_at + 1)) } : DrawCodes))
  else none

def draw_Codes_Next (p0 : DrawCodes) (p1 : Int) : Option (Int × DrawCodes) :=
 bif (decide (p1 < 1)) then
  some (0, p0)
 else
  bif (decide (p0.f_at ≥ ((p0.f_l.length : Nat) : Int))) then
   some (0, p0)
  else
   draw_Codes_Next_j1 p0 p1

def draw_Codes_One (p0 : DrawCodes) (p1 : Int) : Option (Bool × DrawCodes) :=
 (draw_Codes_Next p0 p1).bind fun x7 =>
 some ((x7.1 == (IntKind.i64.wrap (p1 - 1))), x7.2)

def draw_Codes_Range (p0 : DrawCodes) (p1 : Int) (p2 : Int) : Option (Int × DrawCodes) :=
 (draw_Codes_Next p0 (IntKind.i64.wrap ((IntKind.i64.wrap (p2 - p1)) + 1))).bind fun x13 =>
 some ((IntKind.i64.wrap (p1 + x13.1)), x13.2)

def draw_Codes_List_b3 (v8_2 : Int) (kont3_4 : (Int → (List ACode) → Option (ACodeList × DrawCodes))) (rec3 : ((Int × (List ACode)) → Option (ACodeList × DrawCodes))) (v9_3 : Int) (b12_3 : (List ACode)) : Option (ACodeList × DrawCodes) :=
 bif (decide (v9_3 > 0)) then
  (strconv_Itoa ((b12_3.length : Nat) : Int)).bind fun x49 =>
  bif (decide (({ data := #[108] } : ByteArray).size + x49.size ≤ 9223372036854775807)) then
   bif rm b12_3.length ([({ Name := (({ data := #[108] } : ByteArray) ++ x49), Parent := (IntKind.i64.wrap (1 + v8_2)) } : ACode)]).length then
    rec3 ((IntKind.i64.wrap (v9_3 - 1)), (b12_3 ++ [({ Name := (({ data := #[108] } : ByteArray) ++ x49), Parent := (IntKind.i64.wrap (1 + v8_2)) } : ACode)]))
   else none
  else none
 else
  kont3_4 v9_3 b12_3

def draw_Codes_List_b2 (x15 : (Int × DrawCodes)) (kont2_2 : (Int → DrawCodes → (List ACode) → Option (ACodeList × DrawCodes))) (rec2 : ((Int × DrawCodes × (List ACode)) → Option (ACodeList × DrawCodes))) (v8_2 : Int) (w0_2 : DrawCodes) (b12_2 : (List ACode)) : Option (ACodeList × DrawCodes) :=
 bif (decide (v8_2 < x15.1)) then
  (draw_Codes_Range w0_2 1 2).bind fun x39 =>
  iter (fun rec3 s => draw_Codes_List_b3 v8_2 (fun v9_3 b12_3 => rec2 ((IntKind.i64.wrap (v8_2 + 1)), x39.2, b12_3)) rec3 s.1 s.2) FUEL (x39.1, b12_2)
 else
  kont2_2 v8_2 w0_2 b12_2

def draw_Codes_List_j1 (x15 : (Int × DrawCodes)) (p1 : ByteArray) (k12_1 : (List ACode)) : Option (ACodeList × DrawCodes) :=
 (draw_Codes_One x15.2 2).bind fun x31 =>
 bif x31.1 then
  some (({ Name := p1, Codes := k12_1 } : ACodeList), x31.2)
 else
  iter (fun rec2 s => draw_Codes_List_b2 x15 (fun v8_2 w0_2 b12_2 => some (({ Name := p1, Codes := b12_2 } : ACodeList), w0_2)) rec2 s.1 s.2.1 s.2.2) FUEL (0, x31.2, k12_1)

def draw_Codes_List_b1 (x15 : (Int × DrawCodes)) (kont1_0 : (Int → (List ACode) → Option (ACodeList × DrawCodes))) (rec1 : ((Int × (List ACode)) → Option (ACodeList × DrawCodes))) (v7_1 : Int) (b12_1 : (List ACode)) : Option (ACodeList × DrawCodes) :=
 bif (decide (v7_1 < x15.1)) then
  (strconv_Itoa v7_1).bind fun x24 =>
  bif (decide (({ data := #[107] } : ByteArray).size + x24.size ≤ 9223372036854775807)) then
   bif rm b12_1.length ([({ Name := (({ data := #[107] } : ByteArray) ++ x24), Parent := 0 } : ACode)]).length then
    rec1 ((IntKind.i64.wrap (v7_1 + 1)), (b12_1 ++ [({ Name := (({ data := #[107] } : ByteArray) ++ x24), Parent := 0 } : ACode)]))
   else none
  else none
 else
  kont1_0 v7_1 b12_1

def draw_Codes_List (p0 : DrawCodes) (p1 : ByteArray) : Option (ACodeList × DrawCodes) :=
 (draw_Codes_Range p0 1 3).bind fun x15 =>
 iter (fun rec1 s => draw_Codes_List_b1 x15 (fun v7_1 b12_1 => draw_Codes_List_j1 x15 p1 b12_1) rec1 s.1 s.2) FUEL (0, [({ Name := ({ data := #[116, 111, 112] } : ByteArray), Parent := (-1) } : ACode)])

def draw_Codes_Measure (p0 : DrawCodes) (p1 : ByteArray) : Option (AColumn × DrawCodes) :=
 (draw_Codes_Range p0 (-4) 2).bind fun x8 =>
 (draw_Codes_Next x8.2 4).bind fun x15 =>
 (idx ([[1], [1, 5], [1, 5, 20], [1, 2, 4, 12]]) x15.1).bind fun x16 =>
 (draw_Codes_One x15.2 3).bind fun x19 =>
 (draw_Codes_Next x19.2 45).bind fun x24 =>
 some (({ Name := p1, Kind := 3, List_ := 0, Low := x8.1, High := (IntKind.i64.wrap (x8.1 + x24.1)), Widths := x16, Optional := x19.1 } : AColumn), x24.2)

def draw_Codes_Schema_b1 (kont1_0 : (Int → DrawCodes → (List AColumn) → Option (ASchema × DrawCodes))) (rec1 : ((Int × DrawCodes × (List AColumn)) → Option (ASchema × DrawCodes))) (v4_1 : Int) (w0_1 : DrawCodes) (b12_1 : (List AColumn)) : Option (ASchema × DrawCodes) :=
 bif (decide (v4_1 > 0)) then
  (strconv_Itoa ((b12_1.length : Nat) : Int)).bind fun x34 =>
  bif (decide (({ data := #[109] } : ByteArray).size + x34.size ≤ 9223372036854775807)) then
   (draw_Codes_Measure w0_1 (({ data := #[109] } : ByteArray) ++ x34)).bind fun x36 =>
   bif rm b12_1.length [x36.1].length then
    rec1 ((IntKind.i64.wrap (v4_1 - 1)), x36.2, (b12_1 ++ [x36.1]))
   else none
  else none
 else
  kont1_0 v4_1 w0_1 b12_1

def draw_Codes_Schema_b2 (kont2_0 : (Int → DrawCodes → (List AColumn) → Option (ASchema × DrawCodes))) (rec2 : ((Int × DrawCodes × (List AColumn)) → Option (ASchema × DrawCodes))) (v4_2 : Int) (w0_2 : DrawCodes) (b12_2 : (List AColumn)) : Option (ASchema × DrawCodes) :=
 bif (decide (v4_2 > 0)) then
  (strconv_Itoa ((b12_2.length : Nat) : Int)).bind fun x34 =>
  bif (decide (({ data := #[109] } : ByteArray).size + x34.size ≤ 9223372036854775807)) then
   (draw_Codes_Measure w0_2 (({ data := #[109] } : ByteArray) ++ x34)).bind fun x36 =>
   bif rm b12_2.length [x36.1].length then
    rec2 ((IntKind.i64.wrap (v4_2 - 1)), x36.2, (b12_2 ++ [x36.1]))
   else none
  else none
 else
  kont2_0 v4_2 w0_2 b12_2

def draw_Codes_Schema (p0 : DrawCodes) : Option (ASchema × DrawCodes) :=
 (draw_Codes_List p0 ({ data := #[111, 110, 101] } : ByteArray)).bind fun x6 =>
 (draw_Codes_List x6.2 ({ data := #[116, 119, 111] } : ByteArray)).bind fun x8 =>
 (draw_Codes_One x8.2 2).bind fun x15 =>
 bif x15.1 then
  bif rm ([({ Name := ({ data := #[119, 104, 111] } : ByteArray), Kind := 1, List_ := 0, Low := 0, High := 0, Widths := [], Optional := false } : AColumn), ({ Name := ({ data := #[115, 101, 120] } : ByteArray), Kind := 2, List_ := 0, Low := 0, High := 0, Widths := [], Optional := false } : AColumn)]).length ([({ Name := ({ data := #[106, 111, 98] } : ByteArray), Kind := 2, List_ := 1, Low := 0, High := 0, Widths := [], Optional := false } : AColumn)]).length then
   (draw_Codes_Range x15.2 1 3).bind fun x23 =>
   iter (fun rec1 s => draw_Codes_Schema_b1 (fun v4_1 w0_1 b12_1 => some (({ Lists := [x6.1, x8.1], Columns := b12_1 } : ASchema), w0_1)) rec1 s.1 s.2.1 s.2.2) FUEL (x23.1, x23.2, ([({ Name := ({ data := #[119, 104, 111] } : ByteArray), Kind := 1, List_ := 0, Low := 0, High := 0, Widths := [], Optional := false } : AColumn), ({ Name := ({ data := #[115, 101, 120] } : ByteArray), Kind := 2, List_ := 0, Low := 0, High := 0, Widths := [], Optional := false } : AColumn)] ++ [({ Name := ({ data := #[106, 111, 98] } : ByteArray), Kind := 2, List_ := 1, Low := 0, High := 0, Widths := [], Optional := false } : AColumn)]))
  else none
 else
  (draw_Codes_Range x15.2 1 3).bind fun x23 =>
  iter (fun rec2 s => draw_Codes_Schema_b2 (fun v4_2 w0_2 b12_2 => some (({ Lists := [x6.1, x8.1], Columns := b12_2 } : ASchema), w0_2)) rec2 s.1 s.2.1 s.2.2) FUEL (x23.1, x23.2, [({ Name := ({ data := #[119, 104, 111] } : ByteArray), Kind := 1, List_ := 0, Low := 0, High := 0, Widths := [], Optional := false } : AColumn), ({ Name := ({ data := #[115, 101, 120] } : ByteArray), Kind := 2, List_ := 0, Low := 0, High := 0, Widths := [], Optional := false } : AColumn)])

def ref04_Put_b1 (p0 : (List (List Int))) (p1 : (List Int)) (kont1_0 : (Bool → Int → (List (List Int)) → Option (List (List Int)))) (rec1 : ((Bool × Int × (List (List Int))) → Option (List (List Int)))) (v6_1 : Bool) (v7_1 : Int) (b5_1 : (List (List Int))) : Option (List (List Int)) :=
 bif (decide (v7_1 < ((p0.length : Nat) : Int))) then
  (idx p0 v7_1).bind fun x16 =>
  (idx x16 0).bind fun x18 =>
  (idx p1 0).bind fun x21 =>
  bif (x18 == x21) then
   rec1 (v6_1, (IntKind.i64.wrap (v7_1 + 1)), b5_1)
  else
   (idx p0 v7_1).bind fun x26 =>
   (idx x26 0).bind fun x28 =>
   (idx p1 0).bind fun x31 =>
   bif (bif (decide (x28 > x31)) then (!v6_1) else false) then
    bif rm b5_1.length [p1].length then
     (idx p0 v7_1).bind fun x45 =>
     bif rm (b5_1 ++ [p1]).length [x45].length then
      rec1 (true, (IntKind.i64.wrap (v7_1 + 1)), ((b5_1 ++ [p1]) ++ [x45]))
     else none
    else none
   else
    (idx p0 v7_1).bind fun x45 =>
    bif rm b5_1.length [x45].length then
     rec1 (v6_1, (IntKind.i64.wrap (v7_1 + 1)), (b5_1 ++ [x45]))
    else none
 else
  kont1_0 v6_1 v7_1 b5_1

def ref04_Put (p0 : (List (List Int))) (p1 : (List Int)) : Option (List (List Int)) :=
 iter (fun rec1 s => ref04_Put_b1 p0 p1 (fun v6_1 v7_1 b5_1 => bif (!v6_1) then   bif rm b5_1.length [p1].length then     some (b5_1 ++ [p1])   else none else   some b5_1) rec1 s.1 s.2.1 s.2.2) FUEL (false, 0, [])

def ref01_depth_b1 (p0 : ACodeList) (kont1_0 : (Int → Int → Option Int)) (rec1 : ((Int × Int) → Option Int)) (v1_1 : Int) (v5_1 : Int) : Option Int :=
 (idx p0.Codes v1_1).bind fun x9 =>
 bif (decide (x9.Parent ≥ 0)) then
  (idx p0.Codes v1_1).bind fun x16 =>
  rec1 (x16.Parent, (IntKind.i64.wrap (v5_1 + 1)))
 else
  kont1_0 v1_1 v5_1

def ref01_depth (p0 : ACodeList) (p1 : Int) : Option Int :=
 iter (fun rec1 s => ref01_depth_b1 p0 (fun v1_1 v5_1 => some v5_1) rec1 s.1 s.2) FUEL (p1, 0)

def ref01_Name_j2 (p0 : ByteArray) : Option Bool :=
 bif (p0.toList == ({ data := #[97, 108, 108] } : ByteArray).toList) then
  bif (p0.toList == ({ data := #[97, 108, 108] } : ByteArray).toList) then
   some false
  else
   some true
 else
  bif (p0.toList == ({ data := #[97, 110, 100] } : ByteArray).toList) then
   bif (p0.toList == ({ data := #[97, 110, 100] } : ByteArray).toList) then
    some false
   else
    some true
  else
   bif (p0.toList == ({ data := #[101, 118, 101, 110, 116] } : ByteArray).toList) then
    bif (p0.toList == ({ data := #[101, 118, 101, 110, 116] } : ByteArray).toList) then
     some false
    else
     some true
   else
    bif (p0.toList == ({ data := #[102, 114, 111, 109] } : ByteArray).toList) then
     bif (p0.toList == ({ data := #[102, 114, 111, 109] } : ByteArray).toList) then
      some false
     else
      some true
    else
     bif (p0.toList == ({ data := #[109, 105, 115, 115, 105, 110, 103] } : ByteArray).toList) then
      bif (p0.toList == ({ data := #[109, 105, 115, 115, 105, 110, 103] } : ByteArray).toList) then
       some false
      else
       some true
     else
      bif (p0.toList == ({ data := #[110, 111, 116] } : ByteArray).toList) then
       bif (p0.toList == ({ data := #[110, 111, 116] } : ByteArray).toList) then
        some false
       else
        some true
      else
       bif (p0.toList == ({ data := #[111, 110] } : ByteArray).toList) then
        bif (p0.toList == ({ data := #[111, 110] } : ByteArray).toList) then
         some false
        else
         some true
       else
        bif (p0.toList == ({ data := #[111, 114] } : ByteArray).toList) then
         bif (p0.toList == ({ data := #[111, 114] } : ByteArray).toList) then
          some false
         else
          some true
        else
         bif (p0.toList == ({ data := #[116, 111] } : ByteArray).toList) then
          bif (p0.toList == ({ data := #[116, 111] } : ByteArray).toList) then
           some false
          else
           some true
         else
          bif (p0.toList == ({ data := #[117, 110, 100, 101, 114] } : ByteArray).toList) then
           bif (p0.toList == ({ data := #[117, 110, 100, 101, 114] } : ByteArray).toList) then
            some false
           else
            some true
          else
           bif (p0.toList == ({ data := #[119, 104, 101, 114, 101] } : ByteArray).toList) then
            some false
           else
            some true

def ref01_Name_b1 (p0 : ByteArray) (kont1_0 : (Int → Option Bool)) (rec1 : (Int → Option Bool)) (v3_1 : Int) : Option Bool :=
 bif (decide (v3_1 < ((p0.size : Nat) : Int))) then
  bif (decide (0 ≤ (v3_1 : Int) ∧ (v3_1 : Int).toNat < p0.size)) then
   bif (decide ((byteAt p0 v3_1) ≥ 97)) then
    bif (decide (0 ≤ (v3_1 : Int) ∧ (v3_1 : Int).toNat < p0.size)) then
     bif (decide ((byteAt p0 v3_1) ≤ 122)) then
      rec1 (IntKind.i64.wrap (v3_1 + 1))
     else
      bif (decide (0 ≤ (v3_1 : Int) ∧ (v3_1 : Int).toNat < p0.size)) then
       bif (decide ((byteAt p0 v3_1) ≥ 48)) then
        bif (decide (0 ≤ (v3_1 : Int) ∧ (v3_1 : Int).toNat < p0.size)) then
         bif (decide ((byteAt p0 v3_1) ≤ 57)) then
          rec1 (IntKind.i64.wrap (v3_1 + 1))
         else
          bif (decide (0 ≤ (v3_1 : Int) ∧ (v3_1 : Int).toNat < p0.size)) then
           bif (!((byteAt p0 v3_1) == 95)) then
            some false
           else
            rec1 (IntKind.i64.wrap (v3_1 + 1))
          else none
        else none
       else
        bif (decide (0 ≤ (v3_1 : Int) ∧ (v3_1 : Int).toNat < p0.size)) then
         bif (!((byteAt p0 v3_1) == 95)) then
          some false
         else
          rec1 (IntKind.i64.wrap (v3_1 + 1))
        else none
      else none
    else none
   else
    bif (decide (0 ≤ (v3_1 : Int) ∧ (v3_1 : Int).toNat < p0.size)) then
     bif (decide ((byteAt p0 v3_1) ≥ 48)) then
      bif (decide (0 ≤ (v3_1 : Int) ∧ (v3_1 : Int).toNat < p0.size)) then
       bif (decide ((byteAt p0 v3_1) ≤ 57)) then
        rec1 (IntKind.i64.wrap (v3_1 + 1))
       else
        bif (decide (0 ≤ (v3_1 : Int) ∧ (v3_1 : Int).toNat < p0.size)) then
         bif (!((byteAt p0 v3_1) == 95)) then
          some false
         else
          rec1 (IntKind.i64.wrap (v3_1 + 1))
        else none
      else none
     else
      bif (decide (0 ≤ (v3_1 : Int) ∧ (v3_1 : Int).toNat < p0.size)) then
       bif (!((byteAt p0 v3_1) == 95)) then
        some false
       else
        rec1 (IntKind.i64.wrap (v3_1 + 1))
      else none
    else none
  else none
 else
  kont1_0 v3_1

def ref01_Name_j1 (p0 : ByteArray) : Option Bool :=
 iter (fun rec1 s => ref01_Name_b1 p0 (fun v3_1 => ref01_Name_j2 p0) rec1 s) FUEL 0

def ref01_Name (p0 : ByteArray) : Option Bool :=
 bif (bif (decide (((p0.size : Nat) : Int) < 1)) then true else (decide (((p0.size : Nat) : Int) > 16))) then
  some false
 else
  bif (decide (0 ≤ (0 : Int) ∧ (0 : Int).toNat < p0.size)) then
   bif (decide ((byteAt p0 0) < 97)) then
    some false
   else
    bif (decide (0 ≤ (0 : Int) ∧ (0 : Int).toNat < p0.size)) then
     bif (decide ((byteAt p0 0) > 122)) then
      some false
     else
      ref01_Name_j1 p0
    else none
  else none

def ref01_leaf_b1 (p0 : ACodeList) (p1 : Int) (kont1_0 : (Int → Option Bool)) (rec1 : (Int → Option Bool)) (v5_1 : Int) : Option Bool :=
 bif (decide (v5_1 < ((p0.Codes.length : Nat) : Int))) then
  (idx p0.Codes v5_1).bind fun x16 =>
  bif (x16.Parent == p1) then
   some false
  else
   rec1 (IntKind.i64.wrap (v5_1 + 1))
 else
  kont1_0 v5_1

def ref01_leaf (p0 : ACodeList) (p1 : Int) : Option Bool :=
 iter (fun rec1 s => ref01_leaf_b1 p0 p1 (fun v5_1 => some true) rec1 s) FUEL 0

def ref01_Check_b3 (p0 : ACodeList) (kont3_4 : (Int → Int → Option Int)) (rec3 : ((Int × Int) → Option Int)) (v6_3 : Int) (v7_3 : Int) : Option Int :=
 bif (decide (v7_3 < ((p0.Codes.length : Nat) : Int))) then
  (ref01_leaf p0 v7_3).bind fun x87 =>
  bif x87 then
   bif (decide (v6_3 ≥ 0)) then
    (ref01_depth p0 v7_3).bind fun x93 =>
    bif (x93 != v6_3) then
     some 5
    else
     (ref01_depth p0 v7_3).bind fun x99 =>
     rec3 (x99, (IntKind.i64.wrap (v7_3 + 1)))
   else
    (ref01_depth p0 v7_3).bind fun x99 =>
    rec3 (x99, (IntKind.i64.wrap (v7_3 + 1)))
  else
   rec3 (v6_3, (IntKind.i64.wrap (v7_3 + 1)))
 else
  kont3_4 v6_3 v7_3

def ref01_Check_j1 (p0 : ACodeList) : Option Int :=
 iter (fun rec3 s => ref01_Check_b3 p0 (fun v6_3 v7_3 => some 0) rec3 s.1 s.2) FUEL ((-1), 0)

def ref01_Check_k1 (p0 : ACodeList) (v3_1 : Int) (rec1 : (Int → Option Int)) (v4_2 : Int) : Option Int :=
 (idx p0.Codes v3_1).bind fun x56 =>
 bif (bif (bif (v3_1 == 0) then (x56.Parent != (-1)) else false) then true else (bif (decide (v3_1 > 0)) then (bif (decide (x56.Parent < 0)) then true else (decide (x56.Parent ≥ v3_1))) else false)) then
  some 6
 else
  rec1 (IntKind.i64.wrap (v3_1 + 1))

def ref01_Check_b2 (v3_1 : Int) (p0 : ACodeList) (kont2_2 : (Int → Option Int)) (rec2 : (Int → Option Int)) (v4_2 : Int) : Option Int :=
 bif (decide (v4_2 < v3_1)) then
  (idx p0.Codes v4_2).bind fun x43 =>
  (idx p0.Codes v3_1).bind fun x49 =>
  bif (x43.Name.toList == x49.Name.toList) then
   some 10
  else
   rec2 (IntKind.i64.wrap (v4_2 + 1))
 else
  kont2_2 v4_2

def ref01_Check_b1 (p0 : ACodeList) (kont1_0 : (Int → Option Int)) (rec1 : (Int → Option Int)) (v3_1 : Int) : Option Int :=
 bif (decide (v3_1 < ((p0.Codes.length : Nat) : Int))) then
  (idx p0.Codes v3_1).bind fun x30 =>
  (ref01_Name x30.Name).bind fun x33 =>
  bif (!x33) then
   some 3
  else
   iter (fun rec2 s => ref01_Check_b2 v3_1 p0 (ref01_Check_k1 p0 v3_1 rec1) rec2 s) FUEL 0
 else
  kont1_0 v3_1

def ref01_Check (p0 : ACodeList) : Option Int :=
 (ref01_Name p0.Name).bind fun x10 =>
 bif (!x10) then
  some 3
 else
  bif (((p0.Codes.length : Nat) : Int) == 0) then
   some 5
  else
   bif (decide (((p0.Codes.length : Nat) : Int) > 60)) then
    some 1
   else
    iter (fun rec1 s => ref01_Check_b1 p0 (fun v3_1 => ref01_Check_j1 p0) rec1 s) FUEL 0

def ref01_Levels (p0 : ACodeList) : Option Int :=
 (ref01_Check p0).bind fun x4 =>
 bif (x4 != 0) then
  some (-1)
 else
  (ref01_depth p0 (IntKind.i64.wrap (((p0.Codes.length : Nat) : Int) - 1))).bind fun x11 =>
  some (IntKind.i64.wrap (x11 + 1))

def ref01_At_b1 (p0 : ACodeList) (p1 : Int) (kont1_0 : (Int → (List Int) → Option (List Int))) (rec1 : ((Int × (List Int)) → Option (List Int))) (v6_1 : Int) (b5_1 : (List Int)) : Option (List Int) :=
 bif (decide (v6_1 < ((p0.Codes.length : Nat) : Int))) then
  (ref01_depth p0 v6_1).bind fun x19 =>
  bif (x19 == p1) then
   bif rm b5_1.length [v6_1].length then
    rec1 ((IntKind.i64.wrap (v6_1 + 1)), (b5_1 ++ [v6_1]))
   else none
  else
   rec1 ((IntKind.i64.wrap (v6_1 + 1)), b5_1)
 else
  kont1_0 v6_1 b5_1

def ref01_At (p0 : ACodeList) (p1 : Int) : Option (List Int) :=
 (ref01_Check p0).bind fun x8 =>
 bif (x8 != 0) then
  some []
 else
  iter (fun rec1 s => ref01_At_b1 p0 p1 (fun v6_1 b5_1 => some b5_1) rec1 s.1 s.2) FUEL (0, [])

def ref02_Leaves (p0 : ASchema) (p1 : Int) : Option (List Int) :=
 (idx p0.Columns p1).bind fun x11 =>
 (idx p0.Lists x11.List_).bind fun x14 =>
 (ref01_Levels x14).bind fun x18 =>
 (ref01_At x14 (IntKind.i64.wrap (x18 - 1))).bind fun x20 =>
 some x20

def draw_Codes_Value (p0 : DrawCodes) (p1 : ASchema) (p2 : Int) : Option (Int × DrawCodes) :=
 (idx p1.Columns p2).bind fun x12 =>
 bif (x12.Kind == 1) then
  (draw_Codes_Range p0 1 60).bind fun x19 =>
  some (x19.1, x19.2)
 else
  bif (x12.Kind == 2) then
   (ref02_Leaves p1 p2).bind fun x24 =>
   (draw_Codes_Next p0 ((x24.length : Nat) : Int)).bind fun x29 =>
   (idx x24 x29.1).bind fun x30 =>
   some (x30, x29.2)
  else
   bif x12.Optional then
    (draw_Codes_One p0 4).bind fun x36 =>
    bif x36.1 then
     some ((-1099511627776), x36.2)
    else
     (draw_Codes_Range x36.2 x12.Low x12.High).bind fun x43 =>
     some (x43.1, x43.2)
   else
    (draw_Codes_Range p0 x12.Low x12.High).bind fun x43 =>
    some (x43.1, x43.2)

def draw_Codes_Row_b1 (p1 : ASchema) (kont1_0 : (Int → DrawCodes → (List Int) → Option ((List Int) × DrawCodes))) (rec1 : ((Int × DrawCodes × (List Int)) → Option ((List Int) × DrawCodes))) (v10_1 : Int) (w0_1 : DrawCodes) (b5_1 : (List Int)) : Option ((List Int) × DrawCodes) :=
 bif (decide (v10_1 < ((p1.Columns.length : Nat) : Int))) then
  (draw_Codes_Value w0_1 p1 v10_1).bind fun x17 =>
  bif rm b5_1.length [x17.1].length then
   rec1 ((IntKind.i64.wrap (v10_1 + 1)), x17.2, (b5_1 ++ [x17.1]))
  else none
 else
  kont1_0 v10_1 w0_1 b5_1

def draw_Codes_Row (p0 : DrawCodes) (p1 : ASchema) : Option ((List Int) × DrawCodes) :=
 iter (fun rec1 s => draw_Codes_Row_b1 p1 (fun v10_1 w0_1 b5_1 => some (b5_1, w0_1)) rec1 s.1 s.2.1 s.2.2) FUEL (0, p0, [])

def draw_Codes_Source_b1 (x9 : (ASchema × DrawCodes)) (kont1_0 : (Int → DrawCodes → (List (List Int)) → Option (ASource × DrawCodes))) (rec1 : ((Int × DrawCodes × (List (List Int))) → Option (ASource × DrawCodes))) (v7_1 : Int) (w0_1 : DrawCodes) (c6_2_1 : (List (List Int))) : Option (ASource × DrawCodes) :=
 bif (decide (v7_1 > 0)) then
  (draw_Codes_Row w0_1 x9.1).bind fun x24 =>
  (ref04_Put c6_2_1 x24.1).bind fun x25 =>
  rec1 ((IntKind.i64.wrap (v7_1 - 1)), x24.2, x25)
 else
  kont1_0 v7_1 w0_1 c6_2_1

def draw_Codes_Source (p0 : DrawCodes) (p1 : Int) : Option (ASource × DrawCodes) :=
 (draw_Codes_Schema p0).bind fun x9 =>
 (draw_Codes_Next x9.2 (IntKind.i64.wrap (p1 + 1))).bind fun x15 =>
 iter (fun rec1 s => draw_Codes_Source_b1 x9 (fun v7_1 w0_1 c6_2_1 => some (({ Schema := x9.1, Rows := c6_2_1, Gone := [], Version := 0 } : ASource), w0_1)) rec1 s.1 s.2.1 s.2.2) FUEL (x15.1, x15.2, [])

def ref02_in (p0 : Int) (p1 : Int) (p2 : Int) : Option Bool :=
 some (bif (decide (p1 ≤ p0)) then (decide (p0 ≤ p2)) else false)

def ref02_measure_b1 (p0 : AColumn) (kont1_0 : (Int → Option Int)) (rec1 : (Int → Option Int)) (v3_1 : Int) : Option Int :=
 bif (decide (v3_1 < ((p0.Widths.length : Nat) : Int))) then
  (idx p0.Widths v3_1).bind fun x42 =>
  bif (bif (v3_1 == 0) then (x42 != 1) else false) then
   some 2
  else
   bif (decide (v3_1 > 0)) then
    (idx p0.Widths (IntKind.i64.wrap (v3_1 - 1))).bind fun x59 =>
    bif (bif (decide (x42 ≤ x59)) then true else (decide (x42 > 1000000))) then
     some 2
    else
     (idx p0.Widths (IntKind.i64.wrap (v3_1 - 1))).bind fun x72 =>
     bif (decide (x72 ≠ 0)) then
      bif ((Int.tmod x42 x72) != 0) then
       some 2
      else
       rec1 (IntKind.i64.wrap (v3_1 + 1))
     else none
   else
    rec1 (IntKind.i64.wrap (v3_1 + 1))
 else
  kont1_0 v3_1

def ref02_measure_j1 (p0 : AColumn) : Option Int :=
 bif (bif (decide (((p0.Widths.length : Nat) : Int) < 1)) then true else (decide (((p0.Widths.length : Nat) : Int) > 4))) then
  some 1
 else
  iter (fun rec1 s => ref02_measure_b1 p0 (fun v3_1 => some 0) rec1 s) FUEL 0

def ref02_measure (p0 : AColumn) : Option Int :=
 (ref02_in p0.Low (-1000000) 1000000).bind fun x7 =>
 bif (!x7) then
  some 2
 else
  (ref02_in p0.High (-1000000) 1000000).bind fun x12 =>
  bif (bif (!x12) then true else (decide (p0.Low > p0.High))) then
   some 2
  else
   ref02_measure_j1 p0

def ref02_column_j2 (x11 : AColumn) : Option Int :=
 bif (x11.Kind == 3) then
  (ref02_measure x11).bind fun x61 =>
  bif (x61 != 0) then
   some x61
  else
   bif (bif (bif (x11.Kind != 2) then (x11.List_ != 0) else false) then true else (bif (x11.Kind != 3) then (bif (bif (bif (x11.Low != 0) then true else (x11.High != 0)) then true else (decide (((x11.Widths.length : Nat) : Int) > 0))) then true else x11.Optional) else false)) then
    some 11
   else
    some 0
 else
  bif (bif (bif (x11.Kind != 2) then (x11.List_ != 0) else false) then true else (bif (x11.Kind != 3) then (bif (bif (bif (x11.Low != 0) then true else (x11.High != 0)) then true else (decide (((x11.Widths.length : Nat) : Int) > 0))) then true else x11.Optional) else false)) then
   some 11
  else
   some 0

def ref02_column_j1 (x11 : AColumn) (p1 : Int) (p0 : ASchema) : Option Int :=
 (ref02_in x11.Kind 1 3).bind fun x33 =>
 bif (bif (!x33) then true else (bif (decide (p1 > 0)) then (x11.Kind == 1) else false)) then
  some 4
 else
  bif (x11.Kind == 2) then
   (ref02_in x11.List_ 0 (IntKind.i64.wrap (((p0.Lists.length : Nat) : Int) - 1))).bind fun x54 =>
   bif (!x54) then
    some 5
   else
    ref02_column_j2 x11
  else
   ref02_column_j2 x11

def ref02_column_b1 (p1 : Int) (p0 : ASchema) (x11 : AColumn) (kont1_0 : (Int → Option Int)) (rec1 : (Int → Option Int)) (v6_1 : Int) : Option Int :=
 bif (decide (v6_1 < p1)) then
  (idx p0.Columns v6_1).bind fun x25 =>
  bif (x25.Name.toList == x11.Name.toList) then
   some 10
  else
   rec1 (IntKind.i64.wrap (v6_1 + 1))
 else
  kont1_0 v6_1

def ref02_column (p0 : ASchema) (p1 : Int) : Option Int :=
 (idx p0.Columns p1).bind fun x11 =>
 (ref01_Name x11.Name).bind fun x15 =>
 bif (!x15) then
  some 3
 else
  iter (fun rec1 s => ref02_column_b1 p1 p0 x11 (fun v6_1 => ref02_column_j1 x11 p1 p0) rec1 s) FUEL 0

def ref02_Check_b3 (p0 : ASchema) (kont3_4 : (Int → Option Int)) (rec3 : (Int → Option Int)) (v6_3 : Int) : Option Int :=
 bif (decide (v6_3 < ((p0.Columns.length : Nat) : Int))) then
  (ref02_column p0 v6_3).bind fun x73 =>
  bif (x73 != 0) then
   some x73
  else
   rec3 (IntKind.i64.wrap (v6_3 + 1))
 else
  kont3_4 v6_3

def ref02_Check_j1 (p0 : ASchema) : Option Int :=
 bif (((p0.Columns.length : Nat) : Int) == 0) then
  some 7
 else
  (idx p0.Columns 0).bind fun x59 =>
  bif (x59.Kind != 1) then
   some 7
  else
   iter (fun rec3 s => ref02_Check_b3 p0 (fun v6_3 => some 0) rec3 s) FUEL 0

def ref02_Check_b2 (v3_1 : Int) (p0 : ASchema) (kont2_2 : (Int → Option Int)) (rec2 : (Int → Option Int)) (v5_2 : Int) : Option Int :=
 bif (decide (v5_2 < v3_1)) then
  (idx p0.Lists v5_2).bind fun x42 =>
  (idx p0.Lists v3_1).bind fun x48 =>
  bif (x42.Name.toList == x48.Name.toList) then
   some 10
  else
   rec2 (IntKind.i64.wrap (v5_2 + 1))
 else
  kont2_2 v5_2

def ref02_Check_b1 (p0 : ASchema) (kont1_0 : (Int → Option Int)) (rec1 : (Int → Option Int)) (v3_1 : Int) : Option Int :=
 bif (decide (v3_1 < ((p0.Lists.length : Nat) : Int))) then
  (idx p0.Lists v3_1).bind fun x28 =>
  (ref01_Check x28).bind fun x30 =>
  bif (x30 != 0) then
   some x30
  else
   iter (fun rec2 s => ref02_Check_b2 v3_1 p0 (fun v5_2 => rec1 (IntKind.i64.wrap (v3_1 + 1))) rec2 s) FUEL 0
 else
  kont1_0 v3_1

def ref02_Check (p0 : ASchema) : Option Int :=
 bif (bif (decide (((p0.Lists.length : Nat) : Int) > 6)) then true else (decide (((p0.Columns.length : Nat) : Int) > 8))) then
  some 1
 else
  iter (fun rec1 s => ref02_Check_b1 p0 (fun v3_1 => ref02_Check_j1 p0) rec1 s) FUEL 0

def ref02_Finest (p0 : ASchema) (p1 : Int) : Option Int :=
 (ref02_Check p0).bind fun x7 =>
 bif (bif (bif (x7 != 0) then true else (decide (p1 < 1))) then true else (decide (p1 ≥ ((p0.Columns.length : Nat) : Int)))) then
  some (-1)
 else
  (idx p0.Columns p1).bind fun x23 =>
  bif (x23.Kind == 2) then
   (idx p0.Lists x23.List_).bind fun x32 =>
   (ref01_Levels x32).bind fun x34 =>
   some (IntKind.i64.wrap (x34 - 1))
  else
   some ((x23.Widths.length : Nat) : Int)

def draw_All_k1 (v6_1 : Int) (b5_1 : (List APick)) : Option (ADeclaration × (List APick)) :=
 some (({ Project := ({ data := #[97, 108, 108, 95, 114, 111, 119, 115] } : ByteArray), Source := ({ data := #[115, 114, 99] } : ByteArray), Cohort := ({ Op := 1, Column := 0, Code := 0, Low := 0, High := 0, Kids := [] } : ACond), Sample := ({ Part := 1, Of := 1, Seed := 0 } : ASample), Questions := [({ Name := ({ data := #[113] } : ByteArray), Kind := 1, Filter := ({ Op := 1, Column := 0, Code := 0, Low := 0, High := 0, Kids := [] } : ACond), Dims := [({ Column := 1, Level := 0 } : APick)], Measure := (-1), Terms := [], Event := ({ Op := 0, Column := 0, Code := 0, Low := 0, High := 0, Kids := [] } : ACond) } : AQuestion)] } : ADeclaration), b5_1)

def draw_All_b1 (p0 : ASchema) (kont1_0 : (Int → (List APick) → Option (ADeclaration × (List APick)))) (rec1 : ((Int × (List APick)) → Option (ADeclaration × (List APick)))) (v6_1 : Int) (b5_1 : (List APick)) : Option (ADeclaration × (List APick)) :=
 bif (decide (v6_1 < ((p0.Columns.length : Nat) : Int))) then
  (ref02_Finest p0 v6_1).bind fun x21 =>
  bif rm b5_1.length [({ Column := v6_1, Level := x21 } : APick)].length then
   rec1 ((IntKind.i64.wrap (v6_1 + 1)), (b5_1 ++ [({ Column := v6_1, Level := x21 } : APick)]))
  else none
 else
  kont1_0 v6_1 b5_1

def draw_All (p0 : ASchema) : Option (ADeclaration × (List APick)) :=
 iter (fun rec1 s => draw_All_b1 p0 draw_All_k1 rec1 s.1 s.2) FUEL (1, [])

def ref01_Level (p0 : ACodeList) (p1 : Int) : Option Int :=
 (ref01_Check p0).bind fun x6 =>
 bif (bif (bif (x6 != 0) then true else (decide (p1 < 0))) then true else (decide (p1 ≥ ((p0.Codes.length : Nat) : Int)))) then
  some (-1)
 else
  (ref01_depth p0 p1).bind fun x21 =>
  some x21

def ref02_Holds (p0 : ASchema) (p1 : Int) (p2 : Int) : Option Bool :=
 (idx p0.Columns p1).bind fun x12 =>
 bif (x12.Kind == 1) then
  (ref02_in p2 1 1048575).bind fun x19 =>
  some x19
 else
  bif (x12.Kind == 2) then
   (idx p0.Lists x12.List_).bind fun x26 =>
   (ref02_in p2 0 (IntKind.i64.wrap (((x26.Codes.length : Nat) : Int) - 1))).bind fun x33 =>
   bif x33 then
    (ref01_Level x26 p2).bind fun x37 =>
    (ref01_Levels x26).bind fun x39 =>
    some (x37 == (IntKind.i64.wrap (x39 - 1)))
   else
    some false
  else
   bif (bif x12.Optional then (p2 == (-1099511627776)) else false) then
    some true
   else
    (ref02_in p2 x12.Low x12.High).bind fun x55 =>
    some x55

def ref01_Up_b1 (p0 : ACodeList) (p2 : Int) (kont1_0 : (Int → Option Int)) (rec1 : (Int → Option Int)) (v1_1 : Int) : Option Int :=
 (ref01_depth p0 v1_1).bind fun x34 =>
 bif (decide (x34 > p2)) then
  (idx p0.Codes v1_1).bind fun x40 =>
  rec1 x40.Parent
 else
  kont1_0 v1_1

def ref01_Up (p0 : ACodeList) (p1 : Int) (p2 : Int) : Option Int :=
 (ref01_Check p0).bind fun x8 =>
 bif (bif (bif (bif (x8 != 0) then true else (decide (p1 < 0))) then true else (decide (p1 ≥ ((p0.Codes.length : Nat) : Int)))) then true else (decide (p2 < 0))) then
  some (-1)
 else
  (ref01_depth p0 p1).bind fun x29 =>
  bif (decide (p2 > x29)) then
   some (-1)
  else
   iter (fun rec1 s => ref01_Up_b1 p0 p2 (fun v1_1 => some v1_1) rec1 s) FUEL p1

def ref02_Width (p0 : AColumn) (p1 : Int) : Option Int :=
 (idx p0.Widths (IntKind.i64.wrap (((p0.Widths.length : Nat) : Int) - p1))).bind fun x12 =>
 some x12

def ref02_Floor (p0 : Int) (p1 : Int) : Option Int :=
 bif (decide (p1 ≠ 0)) then
  bif (decide (p1 ≠ 0)) then
   bif (decide ((Int.tmod p0 p1) < 0)) then
    some (IntKind.i64.wrap ((IntKind.i64.wrap (Int.tdiv p0 p1)) - 1))
   else
    some (IntKind.i64.wrap (Int.tdiv p0 p1))
  else none
 else none

def ref02_Coarse (p0 : ASchema) (p1 : Int) (p2 : Int) (p3 : Int) : Option Int :=
 (ref02_Finest p0 p1).bind fun x14 =>
 (ref02_in p2 0 x14).bind fun x15 =>
 bif (!x15) then
  some (-1)
 else
  (idx p0.Columns p1).bind fun x20 =>
  bif (x20.Kind == 2) then
   (ref02_Holds p0 p1 p3).bind fun x28 =>
   bif (!x28) then
    some (-1)
   else
    (idx p0.Lists x20.List_).bind fun x34 =>
    (ref01_Up x34 p3 p2).bind fun x38 =>
    some x38
  else
   bif (p3 != (-1099511627776)) then
    (ref02_in p3 (-1000000) 1000000).bind fun x43 =>
    bif (!x43) then
     some (-1)
    else
     bif (p2 == 0) then
      some 0
     else
      bif (p3 == (-1099511627776)) then
       some p3
      else
       (ref02_Width x20 p2).bind fun x53 =>
       (ref02_Floor p3 x53).bind fun x56 =>
       some (IntKind.i64.wrap (x56 * x53))
   else
    bif (p2 == 0) then
     some 0
    else
     bif (p3 == (-1099511627776)) then
      some p3
     else
      (ref02_Width x20 p2).bind fun x53 =>
      (ref02_Floor p3 x53).bind fun x56 =>
      some (IntKind.i64.wrap (x56 * x53))

def ref04_Find_b1 (p0 : ASource) (p1 : Int) (kont1_0 : (Int → Option Int)) (rec1 : (Int → Option Int)) (v5_1 : Int) : Option Int :=
 bif (decide (v5_1 < ((p0.Rows.length : Nat) : Int))) then
  (idx p0.Rows v5_1).bind fun x16 =>
  bif (decide (((x16.length : Nat) : Int) > 0)) then
   (idx p0.Rows v5_1).bind fun x24 =>
   (idx x24 0).bind fun x26 =>
   bif (x26 == p1) then
    some v5_1
   else
    rec1 (IntKind.i64.wrap (v5_1 + 1))
  else
   rec1 (IntKind.i64.wrap (v5_1 + 1))
 else
  kont1_0 v5_1

def ref04_Find (p0 : ASource) (p1 : Int) : Option Int :=
 iter (fun rec1 s => ref04_Find_b1 p0 p1 (fun v5_1 => some (-1)) rec1 s) FUEL 0

def ref02_Row_b1 (p1 : (List Int)) (p0 : ASchema) (kont1_0 : (Int → Option Int)) (rec1 : (Int → Option Int)) (v6_1 : Int) : Option Int :=
 bif (decide (v6_1 < ((p1.length : Nat) : Int))) then
  (idx p1 v6_1).bind fun x28 =>
  (ref02_Holds p0 v6_1 x28).bind fun x30 =>
  bif (!x30) then
   some 9
  else
   rec1 (IntKind.i64.wrap (v6_1 + 1))
 else
  kont1_0 v6_1

def ref02_Row (p0 : ASchema) (p1 : (List Int)) : Option Int :=
 (ref02_Check p0).bind fun x8 =>
 bif (x8 != 0) then
  some x8
 else
  bif (((p1.length : Nat) : Int) != ((p0.Columns.length : Nat) : Int)) then
   some 9
  else
   iter (fun rec1 s => ref02_Row_b1 p1 p0 (fun v6_1 => some 0) rec1 s) FUEL 0

def ref04_Valid_b2 (p0 : ASource) (kont2_2 : (Int → Option Bool)) (rec2 : (Int → Option Bool)) (v4_2 : Int) : Option Bool :=
 bif (decide (v4_2 < ((p0.Gone.length : Nat) : Int))) then
  (idx p0.Gone v4_2).bind fun x79 =>
  bif (decide (x79 < 1)) then
   some false
  else
   (idx p0.Gone v4_2).bind fun x86 =>
   bif (decide (x86 > 1048575)) then
    some false
   else
    bif (decide (v4_2 > 0)) then
     (idx p0.Gone v4_2).bind fun x97 =>
     (idx p0.Gone (IntKind.i64.wrap (v4_2 - 1))).bind fun x103 =>
     bif (decide (x97 ≤ x103)) then
      some false
     else
      (idx p0.Gone v4_2).bind fun x113 =>
      (ref04_Find p0 x113).bind fun x115 =>
      bif (decide (x115 ≥ 0)) then
       some false
      else
       rec2 (IntKind.i64.wrap (v4_2 + 1))
    else
     (idx p0.Gone v4_2).bind fun x113 =>
     (ref04_Find p0 x113).bind fun x115 =>
     bif (decide (x115 ≥ 0)) then
      some false
     else
      rec2 (IntKind.i64.wrap (v4_2 + 1))
 else
  kont2_2 v4_2

def ref04_Valid_j1 (p0 : ASource) : Option Bool :=
 iter (fun rec2 s => ref04_Valid_b2 p0 (fun v4_2 => some true) rec2 s) FUEL 0

def ref04_Valid_b1 (p0 : ASource) (kont1_0 : (Int → Option Bool)) (rec1 : (Int → Option Bool)) (v3_1 : Int) : Option Bool :=
 bif (decide (v3_1 < ((p0.Rows.length : Nat) : Int))) then
  (idx p0.Rows v3_1).bind fun x43 =>
  (ref02_Row p0.Schema x43).bind fun x45 =>
  bif (x45 != 0) then
   some false
  else
   bif (decide (v3_1 > 0)) then
    (idx p0.Rows v3_1).bind fun x54 =>
    (idx x54 0).bind fun x56 =>
    (idx p0.Rows (IntKind.i64.wrap (v3_1 - 1))).bind fun x62 =>
    (idx x62 0).bind fun x64 =>
    bif (decide (x56 ≤ x64)) then
     some false
    else
     rec1 (IntKind.i64.wrap (v3_1 + 1))
   else
    rec1 (IntKind.i64.wrap (v3_1 + 1))
 else
  kont1_0 v3_1

def ref04_Valid (p0 : ASource) : Option Bool :=
 (ref02_Check p0.Schema).bind fun x7 =>
 bif (bif (bif (bif (bif (x7 != 0) then true else (decide (((p0.Rows.length : Nat) : Int) > 200))) then true else (decide (((p0.Gone.length : Nat) : Int) > 300))) then true else (decide (p0.Version < 0))) then true else (decide (p0.Version > 300))) then
  some false
 else
  iter (fun rec1 s => ref04_Valid_b1 p0 (fun v3_1 => ref04_Valid_j1 p0) rec1 s) FUEL 0

def ref02_Pick (p0 : ASchema) (p1 : APick) : Option Int :=
 (ref02_Check p0).bind fun x7 =>
 bif (x7 != 0) then
  some x7
 else
  bif (bif (decide (p1.Column < 1)) then true else (decide (p1.Column ≥ ((p0.Columns.length : Nat) : Int)))) then
   some 7
  else
   (ref02_Finest p0 p1.Column).bind fun x27 =>
   (ref02_in p1.Level 0 x27).bind fun x28 =>
   bif (!x28) then
    some 8
   else
    some 0

def ref02_Picks_b1 (p1 : (List APick)) (p0 : ASchema) (kont1_0 : (Int → Option Int)) (rec1 : (Int → Option Int)) (v6_1 : Int) : Option Int :=
 bif (decide (v6_1 < ((p1.length : Nat) : Int))) then
  (idx p1 v6_1).bind fun x22 =>
  (ref02_Pick p0 x22).bind fun x24 =>
  bif (x24 != 0) then
   some x24
  else
   bif (decide (v6_1 > 0)) then
    (idx p1 v6_1).bind fun x33 =>
    (idx p1 (IntKind.i64.wrap (v6_1 - 1))).bind fun x39 =>
    bif (decide (x33.Column ≤ x39.Column)) then
     some 10
    else
     rec1 (IntKind.i64.wrap (v6_1 + 1))
   else
    rec1 (IntKind.i64.wrap (v6_1 + 1))
 else
  kont1_0 v6_1

def ref02_Picks (p0 : ASchema) (p1 : (List APick)) : Option Int :=
 (ref02_Check p0).bind fun x9 =>
 bif (x9 != 0) then
  some x9
 else
  iter (fun rec1 s => ref02_Picks_b1 p1 p0 (fun v6_1 => some 0) rec1 s) FUEL 0

def ref05_count_b1 (p0 : ACond) (p1 : Int) (self_ref05_count : (ACond → Int → Option Int)) (kont1_0 : (Int → Int → Option Int)) (rec1 : ((Int × Int) → Option Int)) (v5_1 : Int) (v6_1 : Int) : Option Int :=
 bif (bif (decide (v6_1 < ((p0.Kids.length : Nat) : Int))) then (decide (v5_1 < p1)) else false) then
  (idx p0.Kids v6_1).bind fun x23 =>
  (self_ref05_count x23 (IntKind.i64.wrap (p1 - v5_1))).bind fun x28 =>
  rec1 ((IntKind.i64.wrap (v5_1 + x28)), (IntKind.i64.wrap (v6_1 + 1)))
 else
  kont1_0 v5_1 v6_1

def ref05_count_s (d : Nat) (self_ref05_count : (ACond → Int → Option Int)) (p0 : ACond) (p1 : Int) : Option Int :=
 iter (fun rec1 s => ref05_count_b1 p0 p1 self_ref05_count (fun v5_1 v6_1 => some v5_1) rec1 s.1 s.2) FUEL (1, 0)

def ref05_count : Nat → ACond → Int → Option Int
 | 0, _, _ => none
 | d + 1, p0, p1 => ref05_count_s d (ref05_count d) p0 p1

def ref05_depth_b1 (p0 : ACond) (self_ref05_depth : (ACond → Option Int)) (kont1_0 : (Int → Int → Option Int)) (rec1 : ((Int × Int) → Option Int)) (v3_1 : Int) (v4_1 : Int) : Option Int :=
 bif (decide (v4_1 < ((p0.Kids.length : Nat) : Int))) then
  (idx p0.Kids v4_1).bind fun x16 =>
  (self_ref05_depth x16).bind fun x18 =>
  rec1 ((if x18 > v3_1 then x18 else v3_1), (IntKind.i64.wrap (v4_1 + 1)))
 else
  kont1_0 v3_1 v4_1

def ref05_depth_s (d : Nat) (self_ref05_depth : (ACond → Option Int)) (p0 : ACond) : Option Int :=
 iter (fun rec1 s => ref05_depth_b1 p0 self_ref05_depth (fun v3_1 v4_1 => some (IntKind.i64.wrap (v3_1 + 1))) rec1 s.1 s.2) FUEL (0, 0)

def ref05_depth : Nat → ACond → Option Int
 | 0, _ => none
 | d + 1, p0 => ref05_depth_s d (ref05_depth d) p0

def ref05_is (p0 : ASchema) (p1 : Int) (p2 : Int) : Option Bool :=
 bif (bif (decide (p1 ≥ 0)) then (decide (p1 < ((p0.Columns.length : Nat) : Int))) else false) then
  (idx p0.Columns p1).bind fun x20 =>
  some (x20.Kind == p2)
 else
  some false

def ref05_node_b1 (p1 : ACond) (self_ref05_node : (ASchema → ACond → Option Int)) (p0 : ASchema) (kont1_1 : (Int → Option Int)) (rec1 : (Int → Option Int)) (v7_1 : Int) : Option Int :=
 bif (decide (v7_1 < ((p1.Kids.length : Nat) : Int))) then
  (idx p1.Kids v7_1).bind fun x179 =>
  (self_ref05_node p0 x179).bind fun x181 =>
  bif (x181 != 0) then
   some x181
  else
   rec1 (IntKind.i64.wrap (v7_1 + 1))
 else
  kont1_1 v7_1

def ref05_node_j3 (p1 : ACond) (self_ref05_node : (ASchema → ACond → Option Int)) (p0 : ASchema) : Option Int :=
 bif (bif (p1.Op == 3) then (bif (bif (decide (p1.Low < (-1000000))) then true else (decide (p1.High > 1000000))) then true else (decide (p1.Low > p1.High))) else false) then
  some 2
 else
  iter (fun rec1 s => ref05_node_b1 p1 self_ref05_node p0 (fun v7_1 => some 0) rec1 s) FUEL 0

def ref05_node_j2 (p1 : ACond) (p0 : ASchema) (self_ref05_node : (ASchema → ACond → Option Int)) : Option Int :=
 bif (p1.Op == 2) then
  bif (decide (p1.Code < 0)) then
   some 6
  else
   (idx p0.Columns p1.Column).bind fun x138 =>
   (idx p0.Lists x138.List_).bind fun x141 =>
   bif (decide (p1.Code ≥ ((x141.Codes.length : Nat) : Int))) then
    some 6
   else
    ref05_node_j3 p1 self_ref05_node p0
 else
  ref05_node_j3 p1 self_ref05_node p0

def ref05_node_j1 (p1 : ACond) (p0 : ASchema) (self_ref05_node : (ASchema → ACond → Option Int)) (j5_1 : Int) (k6_1_1 : Int) (k6_2_1 : Int) (k6_3_1 : Int) (k6_4_1 : Int) : Option Int :=
 bif (bif (bif (bif (bif (((p1.Kids.length : Nat) : Int) != j5_1) then true else (k6_1_1 != p1.Column)) then true else (k6_2_1 != p1.Code)) then true else (k6_3_1 != p1.Low)) then true else (k6_4_1 != p1.High)) then
  some 11
 else
  bif (p1.Op == 2) then
   (ref05_is p0 p1.Column 2).bind fun x85 =>
   bif (!x85) then
    some 7
   else
    bif (p1.Op == 3) then
     (ref05_is p0 p1.Column 3).bind fun x96 =>
     bif (!x96) then
      some 7
     else
      bif (p1.Op == 4) then
       (ref05_is p0 p1.Column 3).bind fun x108 =>
       bif (!x108) then
        some 7
       else
        (idx p0.Columns p1.Column).bind fun x115 =>
        bif (!x115.Optional) then
         some 7
        else
         ref05_node_j2 p1 p0 self_ref05_node
      else
       ref05_node_j2 p1 p0 self_ref05_node
    else
     bif (p1.Op == 4) then
      (ref05_is p0 p1.Column 3).bind fun x108 =>
      bif (!x108) then
       some 7
      else
       (idx p0.Columns p1.Column).bind fun x115 =>
       bif (!x115.Optional) then
        some 7
       else
        ref05_node_j2 p1 p0 self_ref05_node
     else
      ref05_node_j2 p1 p0 self_ref05_node
  else
   bif (p1.Op == 3) then
    (ref05_is p0 p1.Column 3).bind fun x96 =>
    bif (!x96) then
     some 7
    else
     bif (p1.Op == 4) then
      (ref05_is p0 p1.Column 3).bind fun x108 =>
      bif (!x108) then
       some 7
      else
       (idx p0.Columns p1.Column).bind fun x115 =>
       bif (!x115.Optional) then
        some 7
       else
        ref05_node_j2 p1 p0 self_ref05_node
     else
      ref05_node_j2 p1 p0 self_ref05_node
   else
    bif (p1.Op == 4) then
     (ref05_is p0 p1.Column 3).bind fun x108 =>
     bif (!x108) then
      some 7
     else
      (idx p0.Columns p1.Column).bind fun x115 =>
      bif (!x115.Optional) then
       some 7
      else
       ref05_node_j2 p1 p0 self_ref05_node
    else
     ref05_node_j2 p1 p0 self_ref05_node

def ref05_node_s (d : Nat) (self_ref05_node : (ASchema → ACond → Option Int)) (p0 : ASchema) (p1 : ACond) : Option Int :=
 bif (p1.Op == 1) then
  ref05_node_j1 p1 p0 self_ref05_node 0 0 0 0 0
 else
  bif (p1.Op == 2) then
   ref05_node_j1 p1 p0 self_ref05_node 0 p1.Column p1.Code 0 0
  else
   bif (p1.Op == 3) then
    ref05_node_j1 p1 p0 self_ref05_node 0 p1.Column 0 p1.Low p1.High
   else
    bif (p1.Op == 4) then
     ref05_node_j1 p1 p0 self_ref05_node 0 p1.Column 0 0 0
    else
     bif (p1.Op == 5) then
      bif (p1.Op == 5) then
       ref05_node_j1 p1 p0 self_ref05_node 2 0 0 0 0
      else
       bif (p1.Op == 7) then
        ref05_node_j1 p1 p0 self_ref05_node 1 0 0 0 0
       else
        some 4
     else
      bif (p1.Op == 6) then
       ref05_node_j1 p1 p0 self_ref05_node 2 0 0 0 0
      else
       bif (p1.Op == 7) then
        ref05_node_j1 p1 p0 self_ref05_node 1 0 0 0 0
       else
        some 4

def ref05_node : Nat → ASchema → ACond → Option Int
 | 0, _, _ => none
 | d + 1, p0, p1 => ref05_node_s d (ref05_node d) p0 p1

def ref05_Check (d : Nat) (p0 : ASchema) (p1 : ACond) : Option Int :=
 (ref02_Check p0).bind fun x7 =>
 bif (x7 != 0) then
  some x7
 else
  (ref05_count d p1 41).bind fun x12 =>
  bif (decide (x12 > 40)) then
   some 1
  else
   (ref05_depth d p1).bind fun x15 =>
   bif (decide (x15 > 10)) then
    some 22
   else
    (ref05_node d p0 p1).bind fun x19 =>
    some x19

def ref08_Is (p0 : ASchema) (p1 : Int) (p2 : Int) : Option Bool :=
 bif (bif (decide (p1 ≥ 0)) then (decide (p1 < ((p0.Columns.length : Nat) : Int))) else false) then
  (idx p0.Columns p1).bind fun x20 =>
  some (x20.Kind == p2)
 else
  some false

def ref08_Dims_b2 (v5_1 : Int) (p1 : (List APick)) (kont2_2 : (Int → Option Int)) (rec2 : (Int → Option Int)) (v7_2 : Int) : Option Int :=
 bif (decide (v7_2 < v5_1)) then
  (idx p1 v7_2).bind fun x46 =>
  (idx p1 v5_1).bind fun x51 =>
  bif (x46.Column == x51.Column) then
   some 10
  else
   rec2 (IntKind.i64.wrap (v7_2 + 1))
 else
  kont2_2 v7_2

def ref08_Dims_b1 (p1 : (List APick)) (p0 : ASchema) (kont1_0 : (Int → Option Int)) (rec1 : (Int → Option Int)) (v5_1 : Int) : Option Int :=
 bif (decide (v5_1 < ((p1.length : Nat) : Int))) then
  (idx p1 v5_1).bind fun x25 =>
  (ref02_Pick p0 x25).bind fun x27 =>
  bif (x27 != 0) then
   some x27
  else
   (idx p1 v5_1).bind fun x34 =>
   (ref08_Is p0 x34.Column 2).bind fun x37 =>
   bif (!x37) then
    some 7
   else
    iter (fun rec2 s => ref08_Dims_b2 v5_1 p1 (fun v7_2 => rec1 (IntKind.i64.wrap (v5_1 + 1))) rec2 s) FUEL 0
 else
  kont1_0 v5_1

def ref08_Dims (p0 : ASchema) (p1 : (List APick)) : Option Int :=
 bif (bif (decide (((p1.length : Nat) : Int) < 1)) then true else (decide (((p1.length : Nat) : Int) > 3))) then
  some 1
 else
  iter (fun rec1 s => ref08_Dims_b1 p1 p0 (fun v5_1 => some 0) rec1 s) FUEL 0

def ref01_Has_b1 (p0 : (List Int)) (p1 : Int) (kont1_0 : (Int → Option Bool)) (rec1 : (Int → Option Bool)) (v5_1 : Int) : Option Bool :=
 bif (decide (v5_1 < ((p0.length : Nat) : Int))) then
  (idx p0 v5_1).bind fun x14 =>
  bif (x14 == p1) then
   some true
  else
   rec1 (IntKind.i64.wrap (v5_1 + 1))
 else
  kont1_0 v5_1

def ref01_Has (p0 : (List Int)) (p1 : Int) : Option Bool :=
 iter (fun rec1 s => ref01_Has_b1 p0 p1 (fun v5_1 => some false) rec1 s) FUEL 0

def ref08_Terms_b1 (p2 : (List Int)) (p0 : ASchema) (p1 : Int) (kont1_0 : (Int → Option Int)) (rec1 : (Int → Option Int)) (v7_1 : Int) : Option Int :=
 bif (decide (v7_1 < ((p2.length : Nat) : Int))) then
  (idx p2 v7_1).bind fun x25 =>
  (ref08_Is p0 x25 3).bind fun x27 =>
  bif (!x27) then
   some 7
  else
   (idx p2 v7_1).bind fun x31 =>
   bif (x31 == p1) then
    some 10
   else
    bif (decide (0 ≤ (0 : Int) ∧ 0 ≤ v7_1 ∧ v7_1 ≤ ((p2.length : Nat) : Int))) then
     (idx p2 v7_1).bind fun x41 =>
     (ref01_Has (cut p2 0 v7_1) x41).bind fun x43 =>
     bif x43 then
      some 10
     else
      rec1 (IntKind.i64.wrap (v7_1 + 1))
    else none
 else
  kont1_0 v7_1

def ref08_Terms (p0 : ASchema) (p1 : Int) (p2 : (List Int)) : Option Int :=
 bif (bif (decide (((p2.length : Nat) : Int) < 1)) then true else (decide (((p2.length : Nat) : Int) > 3))) then
  some 1
 else
  iter (fun rec1 s => ref08_Terms_b1 p2 p0 p1 (fun v7_1 => some 0) rec1 s) FUEL 0

def ref08_parts (d : Nat) (p0 : ASchema) (p1 : AQuestion) : Option Int :=
 (ref08_Is p0 p1.Measure 3).bind fun x10 =>
 bif (p1.Kind == 1) then
  (ref08_Dims p0 p1.Dims).bind fun x32 =>
  bif (x32 != 0) then
   some x32
  else
   bif (bif (p1.Measure != (-1)) then (!x10) else false) then
    some 7
   else
    some 0
 else
  bif (p1.Kind == 2) then
   bif (!x10) then
    some 7
   else
    (ref08_Terms p0 p1.Measure p1.Terms).bind fun x52 =>
    some x52
  else
   bif (!x10) then
    some 7
   else
    (idx p0.Columns p1.Measure).bind fun x19 =>
    bif (decide (x19.Low < 0)) then
     some 2
    else
     (ref05_Check d p0 p1.Event).bind fun x26 =>
     some x26

def ref05_Same_b1 (p0 : ACond) (p1 : ACond) (self_ref05_Same : (ACond → ACond → Option Bool)) (kont1_0 : (Int → Option Bool)) (rec1 : (Int → Option Bool)) (v5_1 : Int) : Option Bool :=
 bif (decide (v5_1 < ((p0.Kids.length : Nat) : Int))) then
  (idx p0.Kids v5_1).bind fun x58 =>
  (idx p1.Kids v5_1).bind fun x63 =>
  (self_ref05_Same x58 x63).bind fun x65 =>
  bif (!x65) then
   some false
  else
   rec1 (IntKind.i64.wrap (v5_1 + 1))
 else
  kont1_0 v5_1

def ref05_Same_s (d : Nat) (self_ref05_Same : (ACond → ACond → Option Bool)) (p0 : ACond) (p1 : ACond) : Option Bool :=
 bif (bif (bif (bif (bif (bif (p0.Op != p1.Op) then true else (p0.Column != p1.Column)) then true else (p0.Code != p1.Code)) then true else (p0.Low != p1.Low)) then true else (p0.High != p1.High)) then true else (((p0.Kids.length : Nat) : Int) != ((p1.Kids.length : Nat) : Int))) then
  some false
 else
  iter (fun rec1 s => ref05_Same_b1 p0 p1 self_ref05_Same (fun v5_1 => some true) rec1 s) FUEL 0

def ref05_Same : Nat → ACond → ACond → Option Bool
 | 0, _, _ => none
 | d + 1, p0, p1 => ref05_Same_s d (ref05_Same d) p0 p1

def ref08_zero (d : Nat) (p0 : ACond) : Option Bool :=
 (ref05_Same d p0 ({ Op := 0, Column := 0, Code := 0, Low := 0, High := 0, Kids := [] } : ACond)).bind fun x5 =>
 some x5

def ref08_Question (d : Nat) (p0 : ASchema) (p1 : AQuestion) : Option Int :=
 (ref02_Check p0).bind fun x9 =>
 bif (x9 != 0) then
  some x9
 else
  (ref01_Name p1.Name).bind fun x15 =>
  bif (!x15) then
   some 3
  else
   bif (bif (decide (p1.Kind < 1)) then true else (decide (p1.Kind > 3))) then
    some 4
   else
    (ref05_Check d p0 p1.Filter).bind fun x28 =>
    bif (x28 != 0) then
     some x28
    else
     (ref08_parts d p0 p1).bind fun x34 =>
     bif (x34 != 0) then
      some x34
     else
      bif (bif (bif (p1.Kind != 1) then (decide (((p1.Dims.length : Nat) : Int) > 0)) else false) then true else (bif (p1.Kind != 2) then (decide (((p1.Terms.length : Nat) : Int) > 0)) else false)) then
       some 11
      else
       bif (p1.Kind != 3) then
        (ref08_zero d p1.Event).bind fun x65 =>
        bif (!x65) then
         some 11
        else
         some 0
       else
        some 0

def ref08_Check_b2 (v8_1 : Int) (p1 : ADeclaration) (kont2_2 : (Int → Option Int)) (rec2 : (Int → Option Int)) (v10_2 : Int) : Option Int :=
 bif (decide (v10_2 < v8_1)) then
  (idx p1.Questions v10_2).bind fun x100 =>
  (idx p1.Questions v8_1).bind fun x106 =>
  bif (x100.Name.toList == x106.Name.toList) then
   some 10
  else
   rec2 (IntKind.i64.wrap (v10_2 + 1))
 else
  kont2_2 v10_2

def ref08_Check_b1 (p1 : ADeclaration) (d : Nat) (p0 : ASchema) (kont1_0 : (Int → Option Int)) (rec1 : (Int → Option Int)) (v8_1 : Int) : Option Int :=
 bif (decide (v8_1 < ((p1.Questions.length : Nat) : Int))) then
  (idx p1.Questions v8_1).bind fun x86 =>
  (ref08_Question d p0 x86).bind fun x88 =>
  bif (x88 != 0) then
   some x88
  else
   iter (fun rec2 s => ref08_Check_b2 v8_1 p1 (fun v10_2 => rec1 (IntKind.i64.wrap (v8_1 + 1))) rec2 s) FUEL 0
 else
  kont1_0 v8_1

def ref08_Check_j1 (d : Nat) (p0 : ASchema) (p1 : ADeclaration) : Option Int :=
 (ref05_Check d p0 p1.Cohort).bind fun x29 =>
 bif (x29 != 0) then
  some x29
 else
  bif (bif (bif (bif (bif (bif (decide (p1.Sample.Of < 1)) then true else (decide (p1.Sample.Of > 1000))) then true else (decide (p1.Sample.Part < 1))) then true else (decide (p1.Sample.Part > p1.Sample.Of))) then true else (decide (p1.Sample.Seed < 0))) then true else (decide (p1.Sample.Seed > 1099511627776))) then
   some 2
  else
   bif (bif (decide (((p1.Questions.length : Nat) : Int) < 1)) then true else (decide (((p1.Questions.length : Nat) : Int) > 8))) then
    some 1
   else
    iter (fun rec1 s => ref08_Check_b1 p1 d p0 (fun v8_1 => some 0) rec1 s) FUEL 0

def ref08_Check (d : Nat) (p0 : ASchema) (p1 : ADeclaration) : Option Int :=
 (ref02_Check p0).bind fun x12 =>
 bif (x12 != 0) then
  some x12
 else
  (ref01_Name p1.Project).bind fun x18 =>
  bif (!x18) then
   some 3
  else
   (ref01_Name p1.Source).bind fun x23 =>
   bif (!x23) then
    some 3
   else
    ref08_Check_j1 d p0 p1

def ref05_Covers_b2 (p1 : (List APick)) (p0 : (List APick)) (v5_1 : Int) (kont2_2 : (Bool → Int → Option Bool)) (rec2 : ((Bool × Int) → Option Bool)) (v6_2 : Bool) (v7_2 : Int) : Option Bool :=
 bif (decide (v7_2 < ((p1.length : Nat) : Int))) then
  bif v6_2 then
   rec2 (true, (IntKind.i64.wrap (v7_2 + 1)))
  else
   (idx p1 v7_2).bind fun x24 =>
   (idx p0 v5_1).bind fun x29 =>
   bif (x24.Column == x29.Column) then
    (idx p1 v7_2).bind fun x36 =>
    (idx p0 v5_1).bind fun x41 =>
    rec2 ((decide (x36.Level ≥ x41.Level)), (IntKind.i64.wrap (v7_2 + 1)))
   else
    rec2 (false, (IntKind.i64.wrap (v7_2 + 1)))
 else
  kont2_2 v6_2 v7_2

def ref05_Covers_b1 (p0 : (List APick)) (p1 : (List APick)) (kont1_0 : (Int → Option Bool)) (rec1 : (Int → Option Bool)) (v5_1 : Int) : Option Bool :=
 bif (decide (v5_1 < ((p0.length : Nat) : Int))) then
  iter (fun rec2 s => ref05_Covers_b2 p1 p0 v5_1 (fun v6_2 v7_2 => bif (!v6_2) then   some false else   rec1 (IntKind.i64.wrap (v5_1 + 1))) rec2 s.1 s.2) FUEL (false, 0)
 else
  kont1_0 v5_1

def ref05_Covers (p0 : (List APick)) (p1 : (List APick)) : Option Bool :=
 iter (fun rec1 s => ref05_Covers_b1 p0 p1 (fun v5_1 => some true) rec1 s) FUEL 0

def ref05_Raise_k1 (p1 : Int) (p2 : Int) (v8_1 : Bool) (v9_1 : Int) (b7_1 : (List APick)) : Option (List APick) :=
 bif (!v8_1) then
  bif rm b7_1.length [({ Column := p1, Level := p2 } : APick)].length then
   some (b7_1 ++ [({ Column := p1, Level := p2 } : APick)])
  else none
 else
  some b7_1

def ref05_Raise_b1 (p0 : (List APick)) (p1 : Int) (p2 : Int) (kont1_0 : (Bool → Int → (List APick) → Option (List APick))) (rec1 : ((Bool × Int × (List APick)) → Option (List APick))) (v8_1 : Bool) (v9_1 : Int) (b7_1 : (List APick)) : Option (List APick) :=
 bif (decide (v9_1 < ((p0.length : Nat) : Int))) then
  (idx p0 v9_1).bind fun x21 =>
  bif (bif (decide (x21.Column > p1)) then (!v8_1) else false) then
   bif rm b7_1.length [({ Column := p1, Level := p2 } : APick)].length then
    bif (x21.Column == p1) then
     bif rm (b7_1 ++ [({ Column := p1, Level := p2 } : APick)]).length [({ Column := x21.Column, Level := (if p2 > x21.Level then p2 else x21.Level) } : APick)].length then
      rec1 (true, (IntKind.i64.wrap (v9_1 + 1)), ((b7_1 ++ [({ Column := p1, Level := p2 } : APick)]) ++ [({ Column := x21.Column, Level := (if p2 > x21.Level then p2 else x21.Level) } : APick)]))
     else none
    else
     bif rm (b7_1 ++ [({ Column := p1, Level := p2 } : APick)]).length [x21].length then
      rec1 (true, (IntKind.i64.wrap (v9_1 + 1)), ((b7_1 ++ [({ Column := p1, Level := p2 } : APick)]) ++ [x21]))
     else none
   else none
  else
   bif (x21.Column == p1) then
    bif rm b7_1.length [({ Column := x21.Column, Level := (if p2 > x21.Level then p2 else x21.Level) } : APick)].length then
     rec1 (true, (IntKind.i64.wrap (v9_1 + 1)), (b7_1 ++ [({ Column := x21.Column, Level := (if p2 > x21.Level then p2 else x21.Level) } : APick)]))
    else none
   else
    bif rm b7_1.length [x21].length then
     rec1 (v8_1, (IntKind.i64.wrap (v9_1 + 1)), (b7_1 ++ [x21]))
    else none
 else
  kont1_0 v8_1 v9_1 b7_1

def ref05_Raise (p0 : (List APick)) (p1 : Int) (p2 : Int) : Option (List APick) :=
 iter (fun rec1 s => ref05_Raise_b1 p0 p1 p2 (ref05_Raise_k1 p1 p2) rec1 s.1 s.2.1 s.2.2) FUEL ((decide (p2 ≤ 0)), 0, [])

def ref05_Atoms_b1 (p0 : ACond) (self_ref05_Atoms : (ACond → Option (List ACond))) (kont1_0 : (Int → (List ACond) → Option (List ACond))) (rec1 : ((Int × (List ACond)) → Option (List ACond))) (v4_1 : Int) (b3_1 : (List ACond)) : Option (List ACond) :=
 bif (decide (v4_1 < ((p0.Kids.length : Nat) : Int))) then
  (idx p0.Kids v4_1).bind fun x31 =>
  (self_ref05_Atoms x31).bind fun x33 =>
  bif rm b3_1.length x33.length then
   rec1 ((IntKind.i64.wrap (v4_1 + 1)), (b3_1 ++ x33))
  else none
 else
  kont1_0 v4_1 b3_1

def ref05_Atoms_s (d : Nat) (self_ref05_Atoms : (ACond → Option (List ACond))) (p0 : ACond) : Option (List ACond) :=
 bif (bif (bif (p0.Op == 2) then true else (p0.Op == 3)) then true else (p0.Op == 4)) then
  some [p0]
 else
  iter (fun rec1 s => ref05_Atoms_b1 p0 self_ref05_Atoms (fun v4_1 b3_1 => some b3_1) rec1 s.1 s.2) FUEL (0, [])

def ref05_Atoms : Nat → ACond → Option (List ACond)
 | 0, _ => none
 | d + 1, p0 => ref05_Atoms_s d (ref05_Atoms d) p0

def ref01_Under (p0 : ACodeList) (p1 : Int) (p2 : Int) : Option Bool :=
 (ref01_Level p0 p2).bind fun x10 =>
 bif (decide (x10 ≥ 0)) then
  (ref01_Level p0 p1).bind fun x16 =>
  bif (decide (x16 ≥ x10)) then
   (ref01_Up p0 p1 x10).bind fun x24 =>
   some (x24 == p2)
  else
   some false
 else
  some false

def ref05_Atom (p0 : ASchema) (p1 : ACond) (p2 : Int) : Option Int :=
 bif (p1.Op == 2) then
  (idx p0.Columns p1.Column).bind fun x18 =>
  (idx p0.Lists x18.List_).bind fun x21 =>
  (ref01_Under x21 p2 p1.Code).bind fun x26 =>
  bif x26 then
   some 1
  else
   some (-1)
 else
  bif (p1.Op == 3) then
   bif (p2 == (-1099511627776)) then
    some 0
   else
    bif (bif (decide (p1.Low ≤ p2)) then (decide (p2 ≤ p1.High)) else false) then
     some 1
    else
     some (-1)
  else
   bif (p1.Op == 4) then
    bif (p2 == (-1099511627776)) then
     some 1
    else
     some (-1)
   else
    some (-1)

def ref05_decides_b2 (v9_1 : Int) (x26 : (List Int)) (p0 : ASchema) (p1 : ACond) (p2 : Int) (kont2_2 : (Int → Option Bool)) (rec2 : (Int → Option Bool)) (v10_2 : Int) : Option Bool :=
 bif (decide (v10_2 < v9_1)) then
  (idx x26 v9_1).bind fun x44 =>
  (ref02_Coarse p0 p1.Column p2 x44).bind fun x46 =>
  (idx x26 v10_2).bind fun x53 =>
  (ref02_Coarse p0 p1.Column p2 x53).bind fun x55 =>
  bif (x46 == x55) then
   (idx x26 v9_1).bind fun x62 =>
   (ref05_Atom p0 p1 x62).bind fun x64 =>
   (idx x26 v10_2).bind fun x69 =>
   (ref05_Atom p0 p1 x69).bind fun x71 =>
   bif (x64 != x71) then
    some false
   else
    rec2 (IntKind.i64.wrap (v10_2 + 1))
  else
   rec2 (IntKind.i64.wrap (v10_2 + 1))
 else
  kont2_2 v10_2

def ref05_decides_b1 (x26 : (List Int)) (p0 : ASchema) (p1 : ACond) (p2 : Int) (kont1_0 : (Int → Option Bool)) (rec1 : (Int → Option Bool)) (v9_1 : Int) : Option Bool :=
 bif (decide (v9_1 < ((x26.length : Nat) : Int))) then
  iter (fun rec2 s => ref05_decides_b2 v9_1 x26 p0 p1 p2 (fun v10_2 => rec1 (IntKind.i64.wrap (v9_1 + 1))) rec2 s) FUEL 0
 else
  kont1_0 v9_1

def ref05_decides (p0 : ASchema) (p1 : ACond) (p2 : Int) : Option Bool :=
 (idx p0.Columns p1.Column).bind fun x18 =>
 bif (p1.Op == 2) then
  (ref02_Leaves p0 p1.Column).bind fun x26 =>
  iter (fun rec1 s => ref05_decides_b1 x26 p0 p1 p2 (fun v9_1 => some true) rec1 s) FUEL 0
 else
  bif (p1.Op == 4) then
   some (decide (p2 > 0))
  else
   bif (p2 == 0) then
    some (bif (bif (!x18.Optional) then (!(bif (decide (p1.Low > x18.Low)) then (decide (p1.Low ≤ x18.High)) else false)) else false) then (!(bif (decide (p1.High ≥ x18.Low)) then (decide (p1.High < x18.High)) else false)) else false)
   else
    (ref02_Width x18 p2).bind fun x118 =>
    bif (!(bif (decide (p1.Low > x18.Low)) then (decide (p1.Low ≤ x18.High)) else false)) then
     bif (!(bif (decide (p1.High ≥ x18.Low)) then (decide (p1.High < x18.High)) else false)) then
      some true
     else
      bif (decide (x118 ≠ 0)) then
       some ((Int.tmod (IntKind.i64.wrap (p1.High + 1)) x118) == 0)
      else none
    else
     bif (decide (x118 ≠ 0)) then
      bif ((Int.tmod p1.Low x118) == 0) then
       bif (!(bif (decide (p1.High ≥ x18.Low)) then (decide (p1.High < x18.High)) else false)) then
        some true
       else
        bif (decide (x118 ≠ 0)) then
         some ((Int.tmod (IntKind.i64.wrap (p1.High + 1)) x118) == 0)
        else none
      else
       some false
     else none

def ref05_Needs_k1 (x14 : (List ACond)) (v7_1 : Int) (v5_1 : (List APick)) (rec1 : (((List APick) × Int) → Option (List APick))) (v8_2 : Int) : Option (List APick) :=
 (idx x14 v7_1).bind fun x34 =>
 (ref05_Raise v5_1 x34.Column v8_2).bind fun x38 =>
 rec1 (x38, (IntKind.i64.wrap (v7_1 + 1)))

def ref05_Needs_b2 (x14 : (List ACond)) (v7_1 : Int) (p0 : ASchema) (kont2_2 : (Int → Option (List APick))) (rec2 : (Int → Option (List APick))) (v8_2 : Int) : Option (List APick) :=
 (idx x14 v7_1).bind fun x24 =>
 (ref05_decides p0 x24 v8_2).bind fun x27 =>
 bif (!x27) then
  rec2 (IntKind.i64.wrap (v8_2 + 1))
 else
  kont2_2 v8_2

def ref05_Needs_b1 (x14 : (List ACond)) (p0 : ASchema) (kont1_0 : ((List APick) → Int → Option (List APick))) (rec1 : (((List APick) × Int) → Option (List APick))) (v5_1 : (List APick)) (v7_1 : Int) : Option (List APick) :=
 bif (decide (v7_1 < ((x14.length : Nat) : Int))) then
  iter (fun rec2 s => ref05_Needs_b2 x14 v7_1 p0 (ref05_Needs_k1 x14 v7_1 v5_1 rec1) rec2 s) FUEL 0
 else
  kont1_0 v5_1 v7_1

def ref05_Needs (d : Nat) (p0 : ASchema) (p1 : ACond) : Option (List APick) :=
 (ref05_Check d p0 p1).bind fun x11 =>
 bif (x11 != 0) then
  some []
 else
  (ref05_Atoms d p1).bind fun x14 =>
  iter (fun rec1 s => ref05_Needs_b1 x14 p0 (fun v5_1 v7_1 => some v5_1) rec1 s.1 s.2) FUEL ([], 0)

def ref02_divides_b2 (v11_1 : Int) (x33 : (List Int)) (p0 : ASchema) (p1 : Int) (p3 : Int) (p2 : Int) (kont2_2 : (Int → Option Bool)) (rec2 : (Int → Option Bool)) (v12_2 : Int) : Option Bool :=
 bif (decide (v12_2 < v11_1)) then
  (idx x33 v11_1).bind fun x50 =>
  (ref02_Coarse p0 p1 p3 x50).bind fun x52 =>
  (idx x33 v12_2).bind fun x58 =>
  (ref02_Coarse p0 p1 p3 x58).bind fun x60 =>
  bif (x52 != x60) then
   (idx x33 v11_1).bind fun x68 =>
   (ref02_Coarse p0 p1 p2 x68).bind fun x70 =>
   (idx x33 v12_2).bind fun x76 =>
   (ref02_Coarse p0 p1 p2 x76).bind fun x78 =>
   bif (x70 == x78) then
    some false
   else
    rec2 (IntKind.i64.wrap (v12_2 + 1))
  else
   rec2 (IntKind.i64.wrap (v12_2 + 1))
 else
  kont2_2 v12_2

def ref02_divides_b1 (x33 : (List Int)) (p0 : ASchema) (p1 : Int) (p3 : Int) (p2 : Int) (kont1_0 : (Int → Option Bool)) (rec1 : (Int → Option Bool)) (v11_1 : Int) : Option Bool :=
 bif (decide (v11_1 < ((x33.length : Nat) : Int))) then
  iter (fun rec2 s => ref02_divides_b2 v11_1 x33 p0 p1 p3 p2 (fun v12_2 => rec1 (IntKind.i64.wrap (v11_1 + 1))) rec2 s) FUEL 0
 else
  kont1_0 v11_1

def ref02_divides_b3 (x19 : AColumn) (p2 : Int) (x83 : Int) (kont3_4 : (Int → Int → Option Bool)) (rec3 : ((Int × Int) → Option Bool)) (v14_3 : Int) (v15_3 : Int) : Option Bool :=
 bif (bif (decide (v15_3 < 2)) then (decide (v14_3 ≤ x19.High)) else false) then
  (ref02_Width x19 p2).bind fun x115 =>
  bif (decide (x115 ≠ 0)) then
   bif ((Int.tmod v14_3 x115) != 0) then
    some false
   else
    rec3 ((IntKind.i64.wrap (v14_3 + x83)), (IntKind.i64.wrap (v15_3 + 1)))
  else none
 else
  kont3_4 v14_3 v15_3

def ref02_divides (p0 : ASchema) (p1 : Int) (p2 : Int) (p3 : Int) : Option Bool :=
 (idx p0.Columns p1).bind fun x19 =>
 bif (bif (p3 == 0) then true else (decide (p2 ≥ p3))) then
  some true
 else
  bif (x19.Kind == 2) then
   (ref02_Leaves p0 p1).bind fun x33 =>
   iter (fun rec1 s => ref02_divides_b1 x33 p0 p1 p3 p2 (fun v11_1 => some true) rec1 s) FUEL 0
  else
   (ref02_Width x19 p3).bind fun x83 =>
   (ref02_Floor x19.Low x83).bind fun x87 =>
   bif (p2 == 0) then
    some (bif (!x19.Optional) then (decide ((IntKind.i64.wrap ((IntKind.i64.wrap (x87 + 1)) * x83)) > x19.High)) else false)
   else
    iter (fun rec3 s => ref02_divides_b3 x19 p2 x83 (fun v14_3 v15_3 => some true) rec3 s.1 s.2) FUEL ((IntKind.i64.wrap ((IntKind.i64.wrap (x87 + 1)) * x83)), 0)

def ref02_Least_b1 (p0 : ASchema) (p1 : Int) (p2 : Int) (kont1_0 : (Int → Option Int)) (rec1 : (Int → Option Int)) (v7_1 : Int) : Option Int :=
 (ref02_divides p0 p1 v7_1 p2).bind fun x18 =>
 bif (!x18) then
  rec1 (IntKind.i64.wrap (v7_1 + 1))
 else
  kont1_0 v7_1

def ref02_Least (p0 : ASchema) (p1 : Int) (p2 : Int) : Option Int :=
 (ref02_Finest p0 p1).bind fun x11 =>
 (ref02_in p2 0 x11).bind fun x12 =>
 bif (!x12) then
  some (-1)
 else
  iter (fun rec1 s => ref02_Least_b1 p0 p1 p2 (fun v7_1 => some v7_1) rec1 s) FUEL 0

def ref09_Uses (p0 : AQuestion) (p1 : Int) : Option Bool :=
 bif (p0.Measure == p1) then
  some true
 else
  (ref01_Has p0.Terms p1).bind fun x13 =>
  some x13

def ref09_Needs_b3 (p0 : ASchema) (p1 : AQuestion) (kont3_4 : ((List APick) → Int → Option (List APick))) (rec3 : (((List APick) × Int) → Option (List APick))) (v5_3 : (List APick)) (v9_3 : Int) : Option (List APick) :=
 bif (decide (v9_3 < ((p0.Columns.length : Nat) : Int))) then
  (ref09_Uses p1 v9_3).bind fun x81 =>
  bif x81 then
   (ref02_Finest p0 v9_3).bind fun x88 =>
   (ref02_Least p0 v9_3 x88).bind fun x89 =>
   (ref05_Raise v5_3 v9_3 x89).bind fun x90 =>
   rec3 (x90, (IntKind.i64.wrap (v9_3 + 1)))
  else
   rec3 (v5_3, (IntKind.i64.wrap (v9_3 + 1)))
 else
  kont3_4 v5_3 v9_3

def ref09_Needs_b2 (p1 : AQuestion) (p0 : ASchema) (kont2_2 : ((List APick) → Int → Option (List APick))) (rec2 : (((List APick) × Int) → Option (List APick))) (v5_2 : (List APick)) (v8_2 : Int) : Option (List APick) :=
 bif (decide (v8_2 < ((p1.Dims.length : Nat) : Int))) then
  (idx p1.Dims v8_2).bind fun x54 =>
  (idx p1.Dims v8_2).bind fun x61 =>
  (idx p1.Dims v8_2).bind fun x67 =>
  (ref02_Least p0 x61.Column x67.Level).bind fun x70 =>
  (ref05_Raise v5_2 x54.Column x70).bind fun x71 =>
  rec2 (x71, (IntKind.i64.wrap (v8_2 + 1)))
 else
  kont2_2 v5_2 v8_2

def ref09_Needs_j1 (p1 : AQuestion) (p0 : ASchema) (j5_1 : (List APick)) : Option (List APick) :=
 iter (fun rec2 s => ref09_Needs_b2 p1 p0 (fun v5_2 v8_2 => iter (fun rec3 s => ref09_Needs_b3 p0 p1 (fun v5_3 v9_3 => some v5_3) rec3 s.1 s.2) FUEL (v5_2, 1)) rec2 s.1 s.2) FUEL (j5_1, 0)

def ref09_Needs_b1 (x24 : (List APick)) (kont1_0 : ((List APick) → Int → Option (List APick))) (rec1 : (((List APick) × Int) → Option (List APick))) (v5_1 : (List APick)) (v7_1 : Int) : Option (List APick) :=
 bif (decide (v7_1 < ((x24.length : Nat) : Int))) then
  (idx x24 v7_1).bind fun x34 =>
  (idx x24 v7_1).bind fun x39 =>
  (ref05_Raise v5_1 x34.Column x39.Level).bind fun x42 =>
  rec1 (x42, (IntKind.i64.wrap (v7_1 + 1)))
 else
  kont1_0 v5_1 v7_1

def ref09_Needs (d : Nat) (p0 : ASchema) (p1 : AQuestion) : Option (List APick) :=
 (ref08_Question d p0 p1).bind fun x12 =>
 bif (x12 != 0) then
  some []
 else
  (ref05_Needs d p0 p1.Filter).bind fun x17 =>
  bif (p1.Kind == 3) then
   (ref05_Needs d p0 p1.Event).bind fun x24 =>
   iter (fun rec1 s => ref09_Needs_b1 x24 (fun v5_1 v7_1 => ref09_Needs_j1 p1 p0 v5_1) rec1 s.1 s.2) FUEL (x17, 0)
  else
   ref09_Needs_j1 p1 p0 x17

def ref09_Suffice (d : Nat) (p0 : ASchema) (p1 : AQuestion) (p2 : (List APick)) : Option Bool :=
 (ref08_Question d p0 p1).bind fun x9 =>
 bif (x9 == 0) then
  (ref02_Picks p0 p2).bind fun x14 =>
  bif (x14 == 0) then
   (ref09_Needs d p0 p1).bind fun x20 =>
   (ref05_Covers x20 p2).bind fun x22 =>
   some x22
  else
   some false
 else
  some false

def ref10_Check_b1 (p1 : ADeclaration) (d : Nat) (p0 : ASchema) (p2 : (List APick)) (kont1_0 : (Int → Option Int)) (rec1 : (Int → Option Int)) (v9_1 : Int) : Option Int :=
 bif (decide (v9_1 < ((p1.Questions.length : Nat) : Int))) then
  (idx p1.Questions v9_1).bind fun x33 =>
  (ref09_Suffice d p0 x33 p2).bind fun x36 =>
  bif (!x36) then
   some 23
  else
   rec1 (IntKind.i64.wrap (v9_1 + 1))
 else
  kont1_0 v9_1

def ref10_Check (d : Nat) (p0 : ASchema) (p1 : ADeclaration) (p2 : (List APick)) : Option Int :=
 (ref08_Check d p0 p1).bind fun x12 =>
 bif (x12 != 0) then
  some x12
 else
  (ref02_Picks p0 p2).bind fun x18 =>
  bif (x18 != 0) then
   some x18
  else
   iter (fun rec1 s => ref10_Check_b1 p1 d p0 p2 (fun v9_1 => some 0) rec1 s) FUEL 0

def ref05_join (p0 : Int) (p1 : (List Int)) : Option Int :=
 bif (p0 == 7) then
  (idx p1 0).bind fun x9 =>
  some (IntKind.i64.wrap (0 - x9))
 else
  bif (p0 == 5) then
   (idx p1 0).bind fun x15 =>
   (idx p1 1).bind fun x18 =>
   some (if x18 < x15 then x18 else x15)
  else
   bif (p0 == 6) then
    (idx p1 0).bind fun x24 =>
    (idx p1 1).bind fun x27 =>
    some (if x27 > x24 then x27 else x24)
   else
    some 1

def ref05_eval_b1 (p1 : ACond) (self_ref05_eval : (ASchema → ACond → (List Int) → Option Int)) (p0 : ASchema) (p2 : (List Int)) (kont1_0 : (Int → (List Int) → Option Int)) (rec1 : ((Int × (List Int)) → Option Int)) (v8_1 : Int) (b7_1 : (List Int)) : Option Int :=
 bif (decide (v8_1 < ((p1.Kids.length : Nat) : Int))) then
  (idx p1.Kids v8_1).bind fun x42 =>
  (self_ref05_eval p0 x42 p2).bind fun x45 =>
  bif rm b7_1.length [x45].length then
   rec1 ((IntKind.i64.wrap (v8_1 + 1)), (b7_1 ++ [x45]))
  else none
 else
  kont1_0 v8_1 b7_1

def ref05_eval_s (d : Nat) (self_ref05_eval : (ASchema → ACond → (List Int) → Option Int)) (p0 : ASchema) (p1 : ACond) (p2 : (List Int)) : Option Int :=
 bif (bif (bif (p1.Op == 2) then true else (p1.Op == 3)) then true else (p1.Op == 4)) then
  (idx p2 p1.Column).bind fun x27 =>
  (ref05_Atom p0 p1 x27).bind fun x29 =>
  some x29
 else
  iter (fun rec1 s => ref05_eval_b1 p1 self_ref05_eval p0 p2 (fun v8_1 b7_1 => (ref05_join p1.Op b7_1).bind fun x51 => some x51) rec1 s.1 s.2) FUEL (0, [])

def ref05_eval : Nat → ASchema → ACond → (List Int) → Option Int
 | 0, _, _, _ => none
 | d + 1, p0, p1, p2 => ref05_eval_s d (ref05_eval d) p0 p1 p2

def ref05_Eval (d : Nat) (p0 : ASchema) (p1 : ACond) (p2 : (List Int)) : Option Int :=
 (ref05_Check d p0 p1).bind fun x9 =>
 bif (x9 != 0) then
  some 0
 else
  (ref02_Row p0 p2).bind fun x14 =>
  bif (x14 != 0) then
   some 0
  else
   (ref05_eval d p0 p1 p2).bind fun x20 =>
   some x20

def ref11_Check (p0 : ASample) : Option Int :=
 bif (bif (bif (bif (bif (bif (decide (p0.Of < 1)) then true else (decide (p0.Of > 1000))) then true else (decide (p0.Part < 1))) then true else (decide (p0.Part > p0.Of))) then true else (decide (p0.Seed < 0))) then true else (decide (p0.Seed > 1099511627776))) then
  some 2
 else
  some 0

def ref11_Draw_b1 (kont1_0 : (Int → Int → Option Int)) (rec1 : ((Int × Int) → Option Int)) (v5_1 : Int) (v6_1 : Int) : Option Int :=
 bif (decide (v6_1 < 3)) then
  rec1 ((IntKind.u64.wrap (((BitVec.ofInt IntKind.u64.bits (IntKind.u64.wrap ((IntKind.u64.wrap (v5_1 * 6364136223846793005)) + 1442695040888963407)) ^^^ BitVec.ofInt IntKind.u64.bits (Int.fdiv (IntKind.u64.wrap ((IntKind.u64.wrap (v5_1 * 6364136223846793005)) + 1442695040888963407)) (2 ^ (min (29 : Int).toNat IntKind.u64.bits)))).toNat : Nat) : Int)), (IntKind.i64.wrap (v6_1 + 1)))
 else
  kont1_0 v5_1 v6_1

def ref11_Draw (p0 : Int) (p1 : Int) : Option Int :=
 iter (fun rec1 s => ref11_Draw_b1 (fun v5_1 v6_1 => some (IntKind.i64.wrap (Int.fdiv v5_1 (2 ^ (min (32 : Int).toNat IntKind.u64.bits))))) rec1 s.1 s.2) FUEL ((IntKind.u64.wrap ((IntKind.u64.wrap ((IntKind.u64.wrap ((IntKind.u64.wrap p0) * 2654435761)) + (IntKind.u64.wrap ((IntKind.u64.wrap p1) * 40503)))) + 97)), 0)

def ref11_In (p0 : ASample) (p1 : Int) : Option Bool :=
 (ref11_Check p0).bind fun x6 =>
 bif (bif (bif (x6 == 0) then (decide (p1 ≥ 1)) else false) then (decide (p1 ≤ 1048575)) else false) then
  (ref11_Draw p0.Seed p1).bind fun x20 =>
  bif (decide (p0.Of ≠ 0)) then
   some (decide ((Int.tmod x20 p0.Of) < p0.Part))
  else none
 else
  some false

def ref13_Owners_b1 (p0 : ASource) (d : Nat) (p1 : ADeclaration) (kont1_0 : (Int → (List Int) → Option (List Int))) (rec1 : ((Int × (List Int)) → Option (List Int))) (v6_1 : Int) (b5_1 : (List Int)) : Option (List Int) :=
 bif (decide (v6_1 < ((p0.Rows.length : Nat) : Int))) then
  (idx p0.Rows v6_1).bind fun x31 =>
  (ref05_Eval d p0.Schema p1.Cohort x31).bind fun x33 =>
  bif (x33 == 1) then
   (idx p0.Rows v6_1).bind fun x41 =>
   (idx x41 0).bind fun x43 =>
   (ref11_In p1.Sample x43).bind fun x45 =>
   bif x45 then
    (idx p0.Rows v6_1).bind fun x51 =>
    (idx x51 0).bind fun x53 =>
    bif rm b5_1.length [x53].length then
     rec1 ((IntKind.i64.wrap (v6_1 + 1)), (b5_1 ++ [x53]))
    else none
   else
    rec1 ((IntKind.i64.wrap (v6_1 + 1)), b5_1)
  else
   rec1 ((IntKind.i64.wrap (v6_1 + 1)), b5_1)
 else
  kont1_0 v6_1 b5_1

def ref13_Owners_j1 (p0 : ASource) (d : Nat) (p1 : ADeclaration) : Option (List Int) :=
 iter (fun rec1 s => ref13_Owners_b1 p0 d p1 (fun v6_1 b5_1 => some b5_1) rec1 s.1 s.2) FUEL (0, [])

def ref13_Owners (d : Nat) (p0 : ASource) (p1 : ADeclaration) : Option (List Int) :=
 (ref04_Valid p0).bind fun x8 =>
 bif (!x8) then
  some []
 else
  (ref08_Check d p0.Schema p1).bind fun x14 =>
  bif (x14 != 0) then
   some []
  else
   ref13_Owners_j1 p0 d p1

def ref12_right (p0 : Int) (p1 : Int) : Option Bool :=
 some (bif (bif (bif (decide (p0 ≥ 0)) then (decide (p0 < 1152921504606846976)) else false) then (decide (p1 ≥ 0)) else false) then (decide (p1 < 1048576)) else false)

def ref12_Round_b1 (kont1_0 : (Int → Int → Option Int)) (rec1 : ((Int × Int) → Option Int)) (v7_1 : Int) (v8_1 : Int) : Option Int :=
 bif (decide (v8_1 < 3)) then
  rec1 ((IntKind.u64.wrap ((IntKind.u64.wrap (((BitVec.ofInt IntKind.u64.bits v7_1 ^^^ BitVec.ofInt IntKind.u64.bits (Int.fdiv v7_1 (2 ^ (min (31 : Int).toNat IntKind.u64.bits)))).toNat : Nat) : Int)) * 13787848793156543929)), (IntKind.i64.wrap (v8_1 + 1)))
 else
  kont1_0 v7_1 v8_1

def ref12_Round (p0 : Int) (p1 : Int) (p2 : Int) : Option Int :=
 bif (bif (bif (bif (bif (bif (decide (p0 < 0)) then true else (decide (p0 ≥ 1152921504606846976))) then true else (decide (p1 < 0))) then true else (decide (p1 > 7))) then true else (decide (p2 < 0))) then true else (decide (p2 > 1023))) then
  some 0
 else
  iter (fun rec1 s => ref12_Round_b1 (fun v7_1 v8_1 => some (IntKind.i64.wrap (Int.fdiv v7_1 (2 ^ (min (54 : Int).toNat IntKind.u64.bits))))) rec1 s.1 s.2) FUEL ((IntKind.u64.wrap ((IntKind.u64.wrap ((IntKind.u64.wrap p0) + (IntKind.u64.wrap ((IntKind.u64.wrap p1) * 11400714819323198485)))) + (IntKind.u64.wrap ((IntKind.u64.wrap p2) * 14029467366897019727)))), 0)

def ref12_Key_b1 (p0 : Int) (kont1_0 : (Int → Int → Int → Option Int)) (rec1 : ((Int × Int × Int) → Option Int)) (v5_1 : Int) (v6_1 : Int) (v7_1 : Int) : Option Int :=
 bif (decide (v7_1 ≤ 7)) then
  (ref12_Round p0 v7_1 v6_1).bind fun x25 =>
  rec1 (v6_1, (IntKind.i64.wrap (((BitVec.ofInt IntKind.i64.bits v5_1 ^^^ BitVec.ofInt IntKind.i64.bits x25).toNat : Nat) : Int)), (IntKind.i64.wrap (v7_1 + 1)))
 else
  kont1_0 v5_1 v6_1 v7_1

def ref12_Key (p0 : Int) (p1 : Int) : Option Int :=
 (ref12_right p0 p1).bind fun x10 =>
 bif (!x10) then
  some (-1)
 else
  iter (fun rec1 s => ref12_Key_b1 p0 (fun v5_1 v6_1 v7_1 => some (IntKind.i64.wrap ((IntKind.i64.wrap (v5_1 * 1024)) + v6_1))) rec1 s.1 s.2.1 s.2.2) FUEL ((IntKind.i64.wrap (Int.tdiv p1 1024)), (Int.tmod p1 1024), 0)

def ref13_Build_b2 (p2 : (List APick)) (x61 : (List Int)) (p0 : ASource) (kont2_2 : (Int → (List Int) → Option (AExtract × Int))) (rec2 : ((Int × (List Int)) → Option (AExtract × Int))) (v16_2 : Int) (b69_2 : (List Int)) : Option (AExtract × Int) :=
 bif (decide (v16_2 < ((p2.length : Nat) : Int))) then
  (idx p2 v16_2).bind fun x81 =>
  (idx p2 v16_2).bind fun x86 =>
  (idx p2 v16_2).bind fun x92 =>
  (idx x61 x92.Column).bind fun x95 =>
  (ref02_Coarse p0.Schema x81.Column x86.Level x95).bind fun x97 =>
  bif rm b69_2.length [x97].length then
   rec2 ((IntKind.i64.wrap (v16_2 + 1)), (b69_2 ++ [x97]))
  else none
 else
  kont2_2 v16_2 b69_2

def ref13_Build_b1 (x46 : (List Int)) (p0 : ASource) (p3 : Int) (p2 : (List APick)) (kont1_0 : (Int → (List (List Int)) → Option (AExtract × Int))) (rec1 : ((Int × (List (List Int))) → Option (AExtract × Int))) (v13_1 : Int) (c11_3_1 : (List (List Int))) : Option (AExtract × Int) :=
 bif (decide (v13_1 < ((x46.length : Nat) : Int))) then
  (idx x46 v13_1).bind fun x58 =>
  (ref04_Find p0 x58).bind fun x60 =>
  (idx p0.Rows x60).bind fun x61 =>
  (idx x46 v13_1).bind fun x66 =>
  (ref12_Key p3 x66).bind fun x68 =>
  iter (fun rec2 s => ref13_Build_b2 p2 x61 p0 (fun v16_2 b69_2 => (ref04_Put c11_3_1 b69_2).bind fun x103 => rec1 ((IntKind.i64.wrap (v13_1 + 1)), x103)) rec2 s.1 s.2) FUEL (0, [x68])
 else
  kont1_0 v13_1 c11_3_1

def ref13_Build (d : Nat) (p0 : ASource) (p1 : ADeclaration) (p2 : (List APick)) (p3 : Int) : Option (AExtract × Int) :=
 (ref04_Valid p0).bind fun x18 =>
 bif (!x18) then
  some (({ Project := ByteArray.empty, Version := 0, Picks := [], Rows := [] } : AExtract), 13)
 else
  (ref10_Check d p0.Schema p1 p2).bind fun x25 =>
  bif (x25 != 0) then
   some (({ Project := ByteArray.empty, Version := 0, Picks := [], Rows := [] } : AExtract), x25)
  else
   bif (bif (decide (p3 < 0)) then true else (decide (p3 ≥ 1152921504606846976))) then
    some (({ Project := ByteArray.empty, Version := 0, Picks := [], Rows := [] } : AExtract), 2)
   else
    bif rm 0 p2.length then
     (ref13_Owners d p0 p1).bind fun x46 =>
     iter (fun rec1 s => ref13_Build_b1 x46 p0 p3 p2 (fun v13_1 c11_3_1 => some (({ Project := p1.Project, Version := p0.Version, Picks := p2, Rows := c11_3_1 } : AExtract), 0)) rec1 s.1 s.2) FUEL (0, [])
    else none

def draw_Codes_Secret (p0 : DrawCodes) : Option (Int × DrawCodes) :=
 (draw_Codes_Next p0 60000).bind fun x4 =>
 (draw_Codes_Next x4.2 60000).bind fun x6 =>
 (draw_Codes_Next x6.2 7).bind fun x9 =>
 some ((IntKind.i64.wrap ((IntKind.i64.wrap (x4.1 * x6.1)) + x9.1)), x9.2)

def draw_Codes_Whole (d : Nat) (p0 : DrawCodes) (p1 : Int) : Option (ASource × AExtract × DrawCodes) :=
 (draw_Codes_Source p0 p1).bind fun x13 =>
 (draw_All x13.1.Schema).bind fun x17 =>
 (draw_Codes_Secret x13.2).bind fun x25 =>
 (ref13_Build d x13.1 x17.1 x17.2 x25.1).bind fun x26 =>
 some (x13.1, x26.1, x25.2)

def draw_columns_b1 (p0 : ASchema) (p1 : Int) (kont1_0 : (Int → (List Int) → Option (List Int))) (rec1 : ((Int × (List Int)) → Option (List Int))) (v10_1 : Int) (b5_1 : (List Int)) : Option (List Int) :=
 bif (decide (v10_1 < ((p0.Columns.length : Nat) : Int))) then
  (idx p0.Columns v10_1).bind fun x16 =>
  bif (x16.Kind == p1) then
   bif rm b5_1.length [v10_1].length then
    rec1 ((IntKind.i64.wrap (v10_1 + 1)), (b5_1 ++ [v10_1]))
   else none
  else
   rec1 ((IntKind.i64.wrap (v10_1 + 1)), b5_1)
 else
  kont1_0 v10_1 b5_1

def draw_columns (p0 : ASchema) (p1 : Int) : Option (List Int) :=
 iter (fun rec1 s => draw_columns_b1 p0 p1 (fun v10_1 b5_1 => some b5_1) rec1 s.1 s.2) FUEL (0, [])

def draw_Codes_Measured (p0 : DrawCodes) (p1 : ASchema) : Option (Int × DrawCodes) :=
 (draw_columns p1 3).bind fun x7 =>
 (draw_Codes_Next p0 ((x7.length : Nat) : Int)).bind fun x12 =>
 (idx x7 x12.1).bind fun x13 =>
 some (x13, x12.2)

def draw_Mod (p0 : Int) (p1 : Int) : Option Int :=
 bif (decide (p1 < 1)) then
  some 0
 else
  bif (decide (p1 ≠ 0)) then
   bif (decide ((Int.tmod p0 p1) < 0)) then
    some (IntKind.i64.wrap ((Int.tmod p0 p1) + p1))
   else
    some (Int.tmod p0 p1)
  else none

def codes_Name_j2 (p0 : ByteArray) : Option Bool :=
 bif (p0.toList == ({ data := #[97, 108, 108] } : ByteArray).toList) then
  bif (p0.toList == ({ data := #[97, 108, 108] } : ByteArray).toList) then
   some false
  else
   some true
 else
  bif (p0.toList == ({ data := #[97, 110, 100] } : ByteArray).toList) then
   bif (p0.toList == ({ data := #[97, 110, 100] } : ByteArray).toList) then
    some false
   else
    some true
  else
   bif (p0.toList == ({ data := #[101, 118, 101, 110, 116] } : ByteArray).toList) then
    bif (p0.toList == ({ data := #[101, 118, 101, 110, 116] } : ByteArray).toList) then
     some false
    else
     some true
   else
    bif (p0.toList == ({ data := #[102, 114, 111, 109] } : ByteArray).toList) then
     bif (p0.toList == ({ data := #[102, 114, 111, 109] } : ByteArray).toList) then
      some false
     else
      some true
    else
     bif (p0.toList == ({ data := #[109, 105, 115, 115, 105, 110, 103] } : ByteArray).toList) then
      bif (p0.toList == ({ data := #[109, 105, 115, 115, 105, 110, 103] } : ByteArray).toList) then
       some false
      else
       some true
     else
      bif (p0.toList == ({ data := #[110, 111, 116] } : ByteArray).toList) then
       bif (p0.toList == ({ data := #[110, 111, 116] } : ByteArray).toList) then
        some false
       else
        some true
      else
       bif (p0.toList == ({ data := #[111, 110] } : ByteArray).toList) then
        bif (p0.toList == ({ data := #[111, 110] } : ByteArray).toList) then
         some false
        else
         some true
       else
        bif (p0.toList == ({ data := #[111, 114] } : ByteArray).toList) then
         bif (p0.toList == ({ data := #[111, 114] } : ByteArray).toList) then
          some false
         else
          some true
        else
         bif (p0.toList == ({ data := #[116, 111] } : ByteArray).toList) then
          bif (p0.toList == ({ data := #[116, 111] } : ByteArray).toList) then
           some false
          else
           some true
         else
          bif (p0.toList == ({ data := #[117, 110, 100, 101, 114] } : ByteArray).toList) then
           bif (p0.toList == ({ data := #[117, 110, 100, 101, 114] } : ByteArray).toList) then
            some false
           else
            some true
          else
           bif (p0.toList == ({ data := #[119, 104, 101, 114, 101] } : ByteArray).toList) then
            some false
           else
            some true

def codes_Name_b1 (p0 : ByteArray) (kont1_0 : (Int → Option Bool)) (rec1 : (Int → Option Bool)) (v26_1 : Int) : Option Bool :=
 bif (decide (v26_1 < (((bytesOf p0).length : Nat) : Int))) then
  (idx (bytesOf p0) v26_1).bind fun x28 =>
  bif (bif (bif (bif (decide (x28 < 97)) then true else (decide (x28 > 122))) then (bif (decide (x28 < 48)) then true else (decide (x28 > 57))) else false) then (x28 != 95) else false) then
   some false
  else
   rec1 (IntKind.i64.wrap (v26_1 + 1))
 else
  kont1_0 v26_1

def codes_Name_j1 (p0 : ByteArray) : Option Bool :=
 iter (fun rec1 s => codes_Name_b1 p0 (fun v26_1 => codes_Name_j2 p0) rec1 s) FUEL 0

def codes_Name (p0 : ByteArray) : Option Bool :=
 bif (bif (decide (((p0.size : Nat) : Int) < 1)) then true else (decide (((p0.size : Nat) : Int) > 16))) then
  some false
 else
  bif (decide (0 ≤ (0 : Int) ∧ (0 : Int).toNat < p0.size)) then
   bif (decide ((byteAt p0 0) < 97)) then
    some false
   else
    bif (decide (0 ≤ (0 : Int) ∧ (0 : Int).toNat < p0.size)) then
     bif (decide ((byteAt p0 0) > 122)) then
      some false
     else
      codes_Name_j1 p0
    else none
  else none

def codes_depths_b1 (p0 : ACodeList) (kont1_0 : (Int → (List Int) → Option (List Int))) (rec1 : ((Int × (List Int)) → Option (List Int))) (v13_1 : Int) (b9_1 : (List Int)) : Option (List Int) :=
 bif (decide (v13_1 < ((p0.Codes.length : Nat) : Int))) then
  (idx p0.Codes v13_1).bind fun x16 =>
  bif (decide (v13_1 > 0)) then
   (idx b9_1 x16.Parent).bind fun x25 =>
   (idx b9_1 v13_1).bind fun x28 =>
   rec1 ((IntKind.i64.wrap (v13_1 + 1)), (b9_1.set (v13_1 : Int).toNat (IntKind.i64.wrap (x25 + 1))))
  else
   rec1 ((IntKind.i64.wrap (v13_1 + 1)), b9_1)
 else
  kont1_0 v13_1 b9_1

def codes_depths (p0 : ACodeList) : Option (List Int) :=
 bif (decide (0 ≤ ((p0.Codes.length : Nat) : Int)) && rm (((p0.Codes.length : Nat) : Int) : Int).toNat 0) then
  iter (fun rec1 s => codes_depths_b1 p0 (fun v13_1 b9_1 => some b9_1) rec1 s.1 s.2) FUEL (0, (List.replicate (((p0.Codes.length : Nat) : Int) : Int).toNat 0))
 else none

def codes_Check_b2 (x82 : (List Int)) (k29_1 : (List Bool)) (kont2_4 : (Int → Int → Option Int)) (rec2 : ((Int × Int) → Option Int)) (v7_2 : Int) (v84_2 : Int) : Option Int :=
 bif (decide (v84_2 < ((x82.length : Nat) : Int))) then
  (idx x82 v84_2).bind fun x87 =>
  (idx k29_1 v84_2).bind fun x91 =>
  bif x91 then
   rec2 (v7_2, (IntKind.i64.wrap (v84_2 + 1)))
  else
   bif (bif (decide (v7_2 ≥ 0)) then (x87 != v7_2) else false) then
    some 5
   else
    rec2 (x87, (IntKind.i64.wrap (v84_2 + 1)))
 else
  kont2_4 v7_2 v84_2

def codes_Check_j1 (p0 : ACodeList) (k29_1 : (List Bool)) : Option Int :=
 (codes_depths p0).bind fun x82 =>
 iter (fun rec2 s => codes_Check_b2 x82 k29_1 (fun v7_2 v84_2 => some 0) rec2 s.1 s.2) FUEL ((-1), 0)

def codes_Check_b1 (p0 : ACodeList) (kont1_1 : (Int → (List (ByteArray × Bool)) → (List Bool) → Option Int)) (rec1 : ((Int × (List (ByteArray × Bool)) × (List Bool)) → Option Int)) (v33_1 : Int) (b25_1 : (List (ByteArray × Bool))) (b29_1 : (List Bool)) : Option Int :=
 bif (decide (v33_1 < ((p0.Codes.length : Nat) : Int))) then
  (idx p0.Codes v33_1).bind fun x36 =>
  (codes_Name x36.Name).bind fun x41 =>
  bif (!x41) then
   some 3
  else
   bif ((getS x36.Name b25_1).getD false) then
    some 10
   else
    bif (bif (bif (v33_1 == 0) then (x36.Parent != (-1)) else false) then true else (bif (decide (v33_1 > 0)) then (bif (decide (x36.Parent < 0)) then true else (decide (x36.Parent ≥ v33_1))) else false)) then
     some 6
    else
     bif (decide (v33_1 > 0)) then
      (idx b29_1 x36.Parent).bind fun x79 =>
      rec1 ((IntKind.i64.wrap (v33_1 + 1)), (updS x36.Name true b25_1), (b29_1.set (x36.Parent : Int).toNat true))
     else
      rec1 ((IntKind.i64.wrap (v33_1 + 1)), (updS x36.Name true b25_1), b29_1)
 else
  kont1_1 v33_1 b25_1 b29_1

def codes_Check (p0 : ACodeList) : Option Int :=
 (codes_Name p0.Name).bind fun x13 =>
 bif (!x13) then
  some 3
 else
  bif (((p0.Codes.length : Nat) : Int) == 0) then
   some 5
  else
   bif (decide (((p0.Codes.length : Nat) : Int) > 60)) then
    some 1
   else
    bif (decide (0 ≤ ((p0.Codes.length : Nat) : Int)) && rm (((p0.Codes.length : Nat) : Int) : Int).toNat 0) then
     iter (fun rec1 s => codes_Check_b1 p0 (fun v33_1 b25_1 b29_1 => codes_Check_j1 p0 b29_1) rec1 s.1 s.2.1 s.2.2) FUEL (0, [], (List.replicate (((p0.Codes.length : Nat) : Int) : Int).toNat false))
    else none

def schema_Check_c1 (p0 : ACodeList) (q0 : ACodeList) : Option Bool :=
 some (p0.Name.toList == q0.Name.toList)

def schema_checkColumn_c1 (p0 : AColumn) (q0 : AColumn) : Option Bool :=
 some (p0.Name.toList == q0.Name.toList)

def schema_checkMeasure_b1 (p0 : AColumn) (kont1_1 : (Int → Int → Option Int)) (rec1 : ((Int × Int) → Option Int)) (v3_1 : Int) (v36_1 : Int) : Option Int :=
 bif (decide (v36_1 < ((p0.Widths.length : Nat) : Int))) then
  (idx p0.Widths v36_1).bind fun x39 =>
  bif (bif (v36_1 == 0) then (x39 != 1) else false) then
   some 2
  else
   bif (decide (v36_1 > 0)) then
    bif (decide (x39 ≤ v3_1)) then
     some 2
    else
     bif (decide (v3_1 ≠ 0)) then
      bif (bif ((Int.tmod x39 v3_1) != 0) then true else (decide (x39 > 1000000))) then
       some 2
      else
       rec1 (x39, (IntKind.i64.wrap (v36_1 + 1)))
     else none
   else
    rec1 (x39, (IntKind.i64.wrap (v36_1 + 1)))
 else
  kont1_1 v3_1 v36_1

def schema_checkMeasure (p0 : AColumn) : Option Int :=
 bif (bif (bif (decide (p0.Low < (-1000000))) then true else (decide (p0.High > 1000000))) then true else (decide (p0.Low > p0.High))) then
  some 2
 else
  bif (bif (((p0.Widths.length : Nat) : Int) == 0) then true else (decide (((p0.Widths.length : Nat) : Int) > 4))) then
   some 1
  else
   iter (fun rec1 s => schema_checkMeasure_b1 p0 (fun v3_1 v36_1 => some 0) rec1 s.1 s.2) FUEL (1, 0)

def schema_unused (p0 : AColumn) : Option Bool :=
 bif (bif (p0.Kind != 2) then (p0.List_ != 0) else false) then
  some false
 else
  some (bif (p0.Kind == 3) then true else (bif (bif (bif (p0.Low == 0) then (p0.High == 0) else false) then (((p0.Widths.length : Nat) : Int) == 0) else false) then (!p0.Optional) else false))

def schema_checkColumn (p0 : ASchema) (p1 : Int) : Option Int :=
 (idx p0.Columns p1).bind fun x10 =>
 (codes_Name x10.Name).bind fun x14 =>
 bif (!x14) then
  some 3
 else
  bif (decide (0 ≤ (0 : Int) ∧ 0 ≤ p1 ∧ p1 ≤ ((p0.Columns.length : Nat) : Int))) then
   (slices_ContainsFunc_Lapi_Column_api_Column (cut p0.Columns 0 p1) (fun a0 => schema_checkColumn_c1 a0 x10)).bind fun x21 =>
   bif x21 then
    some 10
   else
    bif (x10.Kind == 1) then
     bif (decide (p1 > 0)) then
      some 4
     else
      (schema_unused x10).bind fun x49 =>
      bif (!x49) then
       some 11
      else
       some 0
    else
     bif (x10.Kind == 2) then
      bif (bif (decide (x10.List_ < 0)) then true else (decide (x10.List_ ≥ ((p0.Lists.length : Nat) : Int)))) then
       some 5
      else
       (schema_unused x10).bind fun x49 =>
       bif (!x49) then
        some 11
       else
        some 0
     else
      bif (x10.Kind == 3) then
       (schema_checkMeasure x10).bind fun x44 =>
       bif (x44 != 0) then
        some x44
       else
        (schema_unused x10).bind fun x49 =>
        bif (!x49) then
         some 11
        else
         some 0
      else
       some 4
  else none

def schema_Check_b2 (p0 : ASchema) (kont2_2 : (Int → Option Int)) (rec2 : (Int → Option Int)) (v53_2 : Int) : Option Int :=
 bif (decide (v53_2 < ((p0.Columns.length : Nat) : Int))) then
  (schema_checkColumn p0 v53_2).bind fun x58 =>
  bif (x58 != 0) then
   some x58
  else
   rec2 (IntKind.i64.wrap (v53_2 + 1))
 else
  kont2_2 v53_2

def schema_Check_j1 (p0 : ASchema) : Option Int :=
 bif (((p0.Columns.length : Nat) : Int) == 0) then
  some 7
 else
  (idx p0.Columns 0).bind fun x45 =>
  bif (x45.Kind != 1) then
   some 7
  else
   iter (fun rec2 s => schema_Check_b2 p0 (fun v53_2 => some 0) rec2 s) FUEL 0

def schema_Check_b1 (p0 : ASchema) (kont1_0 : (Int → Option Int)) (rec1 : (Int → Option Int)) (v21_1 : Int) : Option Int :=
 bif (decide (v21_1 < ((p0.Lists.length : Nat) : Int))) then
  (idx p0.Lists v21_1).bind fun x24 =>
  (codes_Check x24).bind fun x27 =>
  bif (x27 != 0) then
   some x27
  else
   bif (decide (0 ≤ (0 : Int) ∧ 0 ≤ v21_1 ∧ v21_1 ≤ ((p0.Lists.length : Nat) : Int))) then
    (slices_ContainsFunc_Lapi_CodeList_api_CodeList (cut p0.Lists 0 v21_1) (fun a0 => schema_Check_c1 a0 x24)).bind fun x36 =>
    bif x36 then
     some 10
    else
     rec1 (IntKind.i64.wrap (v21_1 + 1))
   else none
 else
  kont1_0 v21_1

def schema_Check (p0 : ASchema) : Option Int :=
 bif (bif (decide (((p0.Lists.length : Nat) : Int) > 6)) then true else (decide (((p0.Columns.length : Nat) : Int) > 8))) then
  some 1
 else
  iter (fun rec1 s => schema_Check_b1 p0 (fun v21_1 => schema_Check_j1 p0) rec1 s) FUEL 0

def codes_Levels (p0 : ACodeList) : Option Int :=
 (codes_Check p0).bind fun x4 =>
 bif (x4 != 0) then
  some (-1)
 else
  (codes_depths p0).bind fun x7 =>
  (slices_Max_Lint_int x7).bind fun x8 =>
  some (IntKind.i64.wrap (x8 + 1))

def schema_finest (p0 : ASchema) (p1 : Int) : Option Int :=
 bif (bif (decide (p1 < 1)) then true else (decide (p1 ≥ ((p0.Columns.length : Nat) : Int)))) then
  some (-1)
 else
  (idx p0.Columns p1).bind fun x18 =>
  bif (x18.Kind == 2) then
   (idx p0.Lists x18.List_).bind fun x27 =>
   (codes_Levels x27).bind fun x29 =>
   some (IntKind.i64.wrap (x29 - 1))
  else
   some ((x18.Widths.length : Nat) : Int)

def schema_pick (p0 : ASchema) (p1 : APick) : Option Int :=
 (schema_finest p0 p1.Column).bind fun x9 =>
 bif (decide (x9 < 0)) then
  some 7
 else
  bif (bif (decide (p1.Level < 0)) then true else (decide (p1.Level > x9))) then
   some 8
  else
   some 0

def schema_Picks_b1 (p1 : (List APick)) (p0 : ASchema) (kont1_0 : (Int → Option Int)) (rec1 : (Int → Option Int)) (v16_1 : Int) : Option Int :=
 bif (decide (v16_1 < ((p1.length : Nat) : Int))) then
  (idx p1 v16_1).bind fun x19 =>
  (schema_pick p0 x19).bind fun x23 =>
  bif (x23 != 0) then
   some x23
  else
   bif (decide (v16_1 > 0)) then
    (idx p1 (IntKind.i64.wrap (v16_1 - 1))).bind fun x35 =>
    bif (decide (x19.Column ≤ x35.Column)) then
     some 10
    else
     rec1 (IntKind.i64.wrap (v16_1 + 1))
   else
    rec1 (IntKind.i64.wrap (v16_1 + 1))
 else
  kont1_0 v16_1

def schema_Picks (p0 : ASchema) (p1 : (List APick)) : Option Int :=
 (schema_Check p0).bind fun x10 =>
 bif (x10 != 0) then
  some x10
 else
  iter (fun rec1 s => schema_Picks_b1 p1 p0 (fun v16_1 => some 0) rec1 s) FUEL 0

def codes_At_b1 (x12 : (List Int)) (p1 : Int) (kont1_0 : (Int → (List Int) → Option (List Int))) (rec1 : ((Int × (List Int)) → Option (List Int))) (v14_1 : Int) (b5_1 : (List Int)) : Option (List Int) :=
 bif (decide (v14_1 < ((x12.length : Nat) : Int))) then
  (idx x12 v14_1).bind fun x17 =>
  bif (x17 == p1) then
   bif rm b5_1.length [v14_1].length then
    rec1 ((IntKind.i64.wrap (v14_1 + 1)), (b5_1 ++ [v14_1]))
   else none
  else
   rec1 ((IntKind.i64.wrap (v14_1 + 1)), b5_1)
 else
  kont1_0 v14_1 b5_1

def codes_At (p0 : ACodeList) (p1 : Int) : Option (List Int) :=
 (codes_Check p0).bind fun x9 =>
 bif (x9 != 0) then
  some []
 else
  (codes_depths p0).bind fun x12 =>
  iter (fun rec1 s => codes_At_b1 x12 p1 (fun v14_1 b5_1 => some b5_1) rec1 s.1 s.2) FUEL (0, [])

def codes_has (p0 : ACodeList) (p1 : Int) : Option Bool :=
 bif (bif (decide (p1 ≥ 0)) then (decide (p1 < ((p0.Codes.length : Nat) : Int))) else false) then
  (codes_Check p0).bind fun x16 =>
  some (x16 == 0)
 else
  some false

def codes_Up_b1 (p2 : Int) (p0 : ACodeList) (kont1_0 : (Int → Int → Option Int)) (rec1 : ((Int × Int) → Option Int)) (v1_1 : Int) (v7_1 : Int) : Option Int :=
 bif (decide (v7_1 ≥ p2)) then
  bif (v7_1 == p2) then
   some v1_1
  else
   (idx p0.Codes v1_1).bind fun x33 =>
   rec1 (x33.Parent, (IntKind.i64.wrap (v7_1 - 1)))
 else
  kont1_0 v1_1 v7_1

def codes_Up (p0 : ACodeList) (p1 : Int) (p2 : Int) : Option Int :=
 (codes_has p0 p1).bind fun x10 =>
 bif (bif (!x10) then true else (decide (p2 < 0))) then
  some (-1)
 else
  (codes_depths p0).bind fun x17 =>
  (idx x17 p1).bind fun x19 =>
  iter (fun rec1 s => codes_Up_b1 p2 p0 (fun v1_1 v7_1 => some (-1)) rec1 s.1 s.2) FUEL (p1, x19)

def schema_width (p0 : AColumn) (p1 : Int) : Option Int :=
 (idx p0.Widths (IntKind.i64.wrap (((p0.Widths.length : Nat) : Int) - p1))).bind fun x12 =>
 some x12

def schema_down (p0 : Int) (p1 : Int) : Option Int :=
 bif (decide (p1 ≠ 0)) then
  bif (decide ((Int.tmod p0 p1) < 0)) then
   some (IntKind.i64.wrap (p0 - (IntKind.i64.wrap ((Int.tmod p0 p1) + p1))))
  else
   some (IntKind.i64.wrap (p0 - (Int.tmod p0 p1)))
 else none

def schema_span (p0 : AColumn) (p1 : Int) (p2 : Int) : Option (Int × Int × Bool) :=
 bif (p1 == 0) then
  some (p0.Low, p0.High, (p2 == 0))
 else
  bif (bif (decide (p2 < (-2000000))) then true else (decide (p2 > 1000000))) then
   some (0, 0, false)
  else
   (schema_width p0 p1).bind fun x30 =>
   (schema_down p2 x30).bind fun x46 =>
   some ((if p0.Low > p2 then p0.Low else p2), (if p0.High < (IntKind.i64.wrap ((IntKind.i64.wrap (p2 + x30)) - 1)) then p0.High else (IntKind.i64.wrap ((IntKind.i64.wrap (p2 + x30)) - 1))), (bif (x46 == p2) then (decide ((if p0.Low > p2 then p0.Low else p2) ≤ (if p0.High < (IntKind.i64.wrap ((IntKind.i64.wrap (p2 + x30)) - 1)) then p0.High else (IntKind.i64.wrap ((IntKind.i64.wrap (p2 + x30)) - 1))))) else false))

def schema_Some_b1 (x54 : (List Int)) (x48 : ACodeList) (p2 : Int) (p3 : Int) (kont1_0 : (Int → Option (Int × Bool))) (rec1 : (Int → Option (Int × Bool))) (v56_1 : Int) : Option (Int × Bool) :=
 bif (decide (v56_1 < ((x54.length : Nat) : Int))) then
  (idx x54 v56_1).bind fun x58 =>
  (codes_Up x48 x58 p2).bind fun x63 =>
  bif (x63 == p3) then
   some (x58, true)
  else
   rec1 (IntKind.i64.wrap (v56_1 + 1))
 else
  kont1_0 v56_1

def schema_Some (p0 : ASchema) (p1 : Int) (p2 : Int) (p3 : Int) : Option (Int × Bool) :=
 (idx p0.Columns p1).bind fun x20 =>
 bif (x20.Kind == 3) then
  bif (bif (decide (p2 > 0)) then (p3 == (-1099511627776)) else false) then
   some (p3, x20.Optional)
  else
   (schema_span x20 p2 p3).bind fun x38 =>
   some (x38.1, x38.2.2)
 else
  (idx p0.Lists x20.List_).bind fun x48 =>
  (codes_Levels x48).bind fun x52 =>
  (codes_At x48 (IntKind.i64.wrap (x52 - 1))).bind fun x54 =>
  iter (fun rec1 s => schema_Some_b1 x54 x48 p2 p3 (fun v56_1 => some (0, false)) rec1 s) FUEL 0

def extract_fits_b1 (p1 : (List APick)) (p2 : (List Int)) (p0 : ASchema) (kont1_0 : (Int → Option Bool)) (rec1 : (Int → Option Bool)) (v31_1 : Int) : Option Bool :=
 bif (decide (v31_1 < ((p1.length : Nat) : Int))) then
  (idx p1 v31_1).bind fun x34 =>
  (idx p2 (IntKind.i64.wrap (v31_1 + 1))).bind fun x45 =>
  (schema_Some p0 x34.Column x34.Level x45).bind fun x47 =>
  bif (!x47.2) then
   some false
  else
   rec1 (IntKind.i64.wrap (v31_1 + 1))
 else
  kont1_0 v31_1

def extract_fits_j1 (p1 : (List APick)) (p2 : (List Int)) (p0 : ASchema) : Option Bool :=
 iter (fun rec1 s => extract_fits_b1 p1 p2 p0 (fun v31_1 => some true) rec1 s) FUEL 0

def extract_fits (p0 : ASchema) (p1 : (List APick)) (p2 : (List Int)) : Option Bool :=
 bif (((p2.length : Nat) : Int) != (IntKind.i64.wrap (((p1.length : Nat) : Int) + 1))) then
  some false
 else
  (idx p2 0).bind fun x19 =>
  bif (decide (x19 < 0)) then
   some false
  else
   (idx p2 0).bind fun x25 =>
   bif (decide (x25 > 1048575)) then
    some false
   else
    extract_fits_j1 p1 p2 p0

def extract_Check_b1 (p1 : AExtract) (p0 : ASchema) (kont1_1 : (Int → Option Int)) (rec1 : (Int → Option Int)) (v42_1 : Int) : Option Int :=
 bif (decide (v42_1 < ((p1.Rows.length : Nat) : Int))) then
  (idx p1.Rows v42_1).bind fun x45 =>
  (extract_fits p0 p1.Picks x45).bind fun x51 =>
  bif (!x51) then
   some 9
  else
   bif (decide (v42_1 > 0)) then
    (idx x45 0).bind fun x57 =>
    (idx p1.Rows (IntKind.i64.wrap (v42_1 - 1))).bind fun x63 =>
    (idx x63 0).bind fun x65 =>
    bif (decide (x57 ≤ x65)) then
     some 10
    else
     rec1 (IntKind.i64.wrap (v42_1 + 1))
   else
    rec1 (IntKind.i64.wrap (v42_1 + 1))
 else
  kont1_1 v42_1

def extract_Check (p0 : ASchema) (p1 : AExtract) : Option Int :=
 (schema_Check p0).bind fun x10 =>
 bif (x10 != 0) then
  some x10
 else
  (codes_Name p1.Project).bind fun x17 =>
  bif (!x17) then
   some 3
  else
   bif (bif (decide (p1.Version < 0)) then true else (decide (p1.Version > 300))) then
    some 13
   else
    (schema_Picks p0 p1.Picks).bind fun x31 =>
    bif (x31 != 0) then
     some x31
    else
     bif (decide (((p1.Rows.length : Nat) : Int) > 200)) then
      some 1
     else
      iter (fun rec1 s => extract_Check_b1 p1 p0 (fun v42_1 => some 0) rec1 s) FUEL 0

def condition_count_b1 (p0 : ACond) (p1 : Int) (self_condition_count : (ACond → Int → Option Int)) (kont1_0 : (Int → Int → Option Int)) (rec1 : ((Int × Int) → Option Int)) (v5_1 : Int) (v11_1 : Int) : Option Int :=
 bif (decide (v11_1 < ((p0.Kids.length : Nat) : Int))) then
  (idx p0.Kids v11_1).bind fun x13 =>
  bif (decide (v5_1 > p1)) then
   kont1_0 v5_1 v11_1
  else
   (self_condition_count x13 (IntKind.i64.wrap (p1 - v5_1))).bind fun x23 =>
   rec1 ((IntKind.i64.wrap (v5_1 + x23)), (IntKind.i64.wrap (v11_1 + 1)))
 else
  kont1_0 v5_1 v11_1

def condition_count_s (d : Nat) (self_condition_count : (ACond → Int → Option Int)) (p0 : ACond) (p1 : Int) : Option Int :=
 iter (fun rec1 s => condition_count_b1 p0 p1 self_condition_count (fun v5_1 v11_1 => some v5_1) rec1 s.1 s.2) FUEL (1, 0)

def condition_count : Nat → ACond → Int → Option Int
 | 0, _, _ => none
 | d + 1, p0, p1 => condition_count_s d (condition_count d) p0 p1

def condition_deep_b1 (p0 : ACond) (self_condition_deep : (ACond → Option Int)) (kont1_0 : (Int → Int → Option Int)) (rec1 : ((Int × Int) → Option Int)) (v3_1 : Int) (v9_1 : Int) : Option Int :=
 bif (decide (v9_1 < ((p0.Kids.length : Nat) : Int))) then
  (idx p0.Kids v9_1).bind fun x11 =>
  (self_condition_deep x11).bind fun x15 =>
  rec1 ((if x15 > v3_1 then x15 else v3_1), (IntKind.i64.wrap (v9_1 + 1)))
 else
  kont1_0 v3_1 v9_1

def condition_deep_s (d : Nat) (self_condition_deep : (ACond → Option Int)) (p0 : ACond) : Option Int :=
 iter (fun rec1 s => condition_deep_b1 p0 self_condition_deep (fun v3_1 v9_1 => some (IntKind.i64.wrap (v3_1 + 1))) rec1 s.1 s.2) FUEL (0, 0)

def condition_deep : Nat → ACond → Option Int
 | 0, _ => none
 | d + 1, p0 => condition_deep_s d (condition_deep d) p0

def condition_kids (p0 : Int) : Option Int :=
 bif (p0 == 5) then
  bif (p0 == 5) then
   some 2
  else
   bif (p0 == 7) then
    some 1
   else
    some 0
 else
  bif (p0 == 6) then
   some 2
  else
   bif (p0 == 7) then
    some 1
   else
    some 0

def condition_unused (p0 : ACond) : Option Bool :=
 bif (bif (!(bif (bif (p0.Op == 2) then true else (p0.Op == 3)) then true else (p0.Op == 4))) then (p0.Column != 0) else false) then
  bif (bif (!(bif (bif (p0.Op == 2) then true else (p0.Op == 3)) then true else (p0.Op == 4))) then (p0.Column != 0) else false) then
   some false
  else
   some (bif (p0.Op == 3) then true else (bif (p0.Low == 0) then (p0.High == 0) else false))
 else
  bif (bif (p0.Op != 2) then (p0.Code != 0) else false) then
   some false
  else
   some (bif (p0.Op == 3) then true else (bif (p0.Low == 0) then (p0.High == 0) else false))

def condition_checkOne_j1 (p0 : ASchema) (p1 : ACond) : Option Int :=
 (idx p0.Columns p1.Column).bind fun x58 =>
 bif (p1.Op == 2) then
  bif (x58.Kind != 2) then
   some 7
  else
   bif (decide (p1.Code < 0)) then
    some 6
   else
    (idx p0.Lists x58.List_).bind fun x77 =>
    bif (decide (p1.Code ≥ ((x77.Codes.length : Nat) : Int))) then
     some 6
    else
     some 0
 else
  bif (p1.Op == 3) then
   bif (x58.Kind != 3) then
    some 7
   else
    bif (bif (bif (decide (p1.Low > p1.High)) then true else (decide (p1.Low < (-1000000)))) then true else (decide (p1.High > 1000000))) then
     some 2
    else
     some 0
  else
   bif (p1.Op == 4) then
    bif (bif (x58.Kind != 3) then true else (!x58.Optional)) then
     some 7
    else
     some 0
   else
    some 0

def condition_checkOne (p0 : ASchema) (p1 : ACond) : Option Int :=
 bif (bif (decide (p1.Op < 1)) then true else (decide (p1.Op > 7))) then
  some 4
 else
  (condition_kids p1.Op).bind fun x21 =>
  bif (((p1.Kids.length : Nat) : Int) != x21) then
   some 11
  else
   (condition_unused p1).bind fun x25 =>
   bif (!x25) then
    some 11
   else
    bif (bif (bif (p1.Op != 2) then (p1.Op != 3) else false) then (p1.Op != 4) else false) then
     some 0
    else
     bif (bif (decide (p1.Column < 0)) then true else (decide (p1.Column ≥ ((p0.Columns.length : Nat) : Int)))) then
      some 7
     else
      condition_checkOne_j1 p0 p1

def condition_checkAll_b1 (p1 : ACond) (self_condition_checkAll : (ASchema → ACond → Option Int)) (p0 : ASchema) (kont1_0 : (Int → Option Int)) (rec1 : (Int → Option Int)) (v18_1 : Int) : Option Int :=
 bif (decide (v18_1 < ((p1.Kids.length : Nat) : Int))) then
  (idx p1.Kids v18_1).bind fun x20 =>
  (self_condition_checkAll p0 x20).bind fun x24 =>
  bif (x24 != 0) then
   some x24
  else
   rec1 (IntKind.i64.wrap (v18_1 + 1))
 else
  kont1_0 v18_1

def condition_checkAll_s (d : Nat) (self_condition_checkAll : (ASchema → ACond → Option Int)) (p0 : ASchema) (p1 : ACond) : Option Int :=
 (condition_checkOne p0 p1).bind fun x11 =>
 bif (x11 != 0) then
  some x11
 else
  iter (fun rec1 s => condition_checkAll_b1 p1 self_condition_checkAll p0 (fun v18_1 => some 0) rec1 s) FUEL 0

def condition_checkAll : Nat → ASchema → ACond → Option Int
 | 0, _, _ => none
 | d + 1, p0, p1 => condition_checkAll_s d (condition_checkAll d) p0 p1

def condition_Check (d : Nat) (p0 : ASchema) (p1 : ACond) : Option Int :=
 (schema_Check p0).bind fun x7 =>
 bif (x7 != 0) then
  some x7
 else
  (condition_count d p1 40).bind fun x14 =>
  bif (decide (x14 > 40)) then
   some 1
  else
   (condition_deep d p1).bind fun x18 =>
   bif (decide (x18 > 10)) then
    some 22
   else
    (condition_checkAll d p0 p1).bind fun x22 =>
    some x22

def program_fields_j1  : Option (Programuses × Bool) :=
 some (({ f_num := false, f_name := false, f_column := false, f_columns := false, f_dims := false, f_cond := false, f_event := false } : Programuses), false)

def program_fields (p0 : Int) : Option (Programuses × Bool) :=
 bif (p0 == 1) then
  some (({ f_num := true, f_name := false, f_column := false, f_columns := false, f_dims := false, f_cond := false, f_event := false } : Programuses), true)
 else
  bif (p0 == 2) then
   some (({ f_num := false, f_name := true, f_column := false, f_columns := false, f_dims := false, f_cond := false, f_event := false } : Programuses), true)
  else
   bif (p0 == 3) then
    some (({ f_num := false, f_name := false, f_column := false, f_columns := false, f_dims := false, f_cond := true, f_event := false } : Programuses), true)
   else
    bif (p0 == 4) then
     bif (p0 == 4) then
      some (({ f_num := false, f_name := false, f_column := true, f_columns := false, f_dims := false, f_cond := true, f_event := false } : Programuses), true)
     else
      bif (p0 == 6) then
       bif (p0 == 6) then
        some (({ f_num := false, f_name := false, f_column := false, f_columns := false, f_dims := false, f_cond := false, f_event := false } : Programuses), true)
       else
        bif (p0 == 10) then
         some (({ f_num := false, f_name := false, f_column := true, f_columns := false, f_dims := true, f_cond := true, f_event := false } : Programuses), true)
        else
         bif (p0 == 11) then
          some (({ f_num := false, f_name := false, f_column := true, f_columns := true, f_dims := false, f_cond := true, f_event := false } : Programuses), true)
         else
          bif (p0 == 12) then
           some (({ f_num := false, f_name := false, f_column := true, f_columns := false, f_dims := false, f_cond := true, f_event := true } : Programuses), true)
          else
           bif (p0 == 13) then
            some (({ f_num := true, f_name := false, f_column := true, f_columns := false, f_dims := false, f_cond := true, f_event := false } : Programuses), true)
           else
            program_fields_j1
      else
       bif (p0 == 7) then
        bif (p0 == 7) then
         some (({ f_num := false, f_name := false, f_column := false, f_columns := false, f_dims := false, f_cond := false, f_event := false } : Programuses), true)
        else
         bif (p0 == 10) then
          some (({ f_num := false, f_name := false, f_column := true, f_columns := false, f_dims := true, f_cond := true, f_event := false } : Programuses), true)
         else
          bif (p0 == 11) then
           some (({ f_num := false, f_name := false, f_column := true, f_columns := true, f_dims := false, f_cond := true, f_event := false } : Programuses), true)
          else
           bif (p0 == 12) then
            some (({ f_num := false, f_name := false, f_column := true, f_columns := false, f_dims := false, f_cond := true, f_event := true } : Programuses), true)
           else
            bif (p0 == 13) then
             some (({ f_num := true, f_name := false, f_column := true, f_columns := false, f_dims := false, f_cond := true, f_event := false } : Programuses), true)
            else
             program_fields_j1
       else
        bif (p0 == 8) then
         bif (p0 == 8) then
          some (({ f_num := false, f_name := false, f_column := false, f_columns := false, f_dims := false, f_cond := false, f_event := false } : Programuses), true)
         else
          bif (p0 == 10) then
           some (({ f_num := false, f_name := false, f_column := true, f_columns := false, f_dims := true, f_cond := true, f_event := false } : Programuses), true)
          else
           bif (p0 == 11) then
            some (({ f_num := false, f_name := false, f_column := true, f_columns := true, f_dims := false, f_cond := true, f_event := false } : Programuses), true)
           else
            bif (p0 == 12) then
             some (({ f_num := false, f_name := false, f_column := true, f_columns := false, f_dims := false, f_cond := true, f_event := true } : Programuses), true)
            else
             bif (p0 == 13) then
              some (({ f_num := true, f_name := false, f_column := true, f_columns := false, f_dims := false, f_cond := true, f_event := false } : Programuses), true)
             else
              program_fields_j1
        else
         bif (p0 == 9) then
          some (({ f_num := false, f_name := false, f_column := false, f_columns := false, f_dims := false, f_cond := false, f_event := false } : Programuses), true)
         else
          bif (p0 == 10) then
           some (({ f_num := false, f_name := false, f_column := true, f_columns := false, f_dims := true, f_cond := true, f_event := false } : Programuses), true)
          else
           bif (p0 == 11) then
            some (({ f_num := false, f_name := false, f_column := true, f_columns := true, f_dims := false, f_cond := true, f_event := false } : Programuses), true)
           else
            bif (p0 == 12) then
             some (({ f_num := false, f_name := false, f_column := true, f_columns := false, f_dims := false, f_cond := true, f_event := true } : Programuses), true)
            else
             bif (p0 == 13) then
              some (({ f_num := true, f_name := false, f_column := true, f_columns := false, f_dims := false, f_cond := true, f_event := false } : Programuses), true)
             else
              program_fields_j1
    else
     bif (p0 == 5) then
      bif (p0 == 5) then
       some (({ f_num := false, f_name := false, f_column := true, f_columns := false, f_dims := false, f_cond := true, f_event := false } : Programuses), true)
      else
       bif (p0 == 6) then
        bif (p0 == 6) then
         some (({ f_num := false, f_name := false, f_column := false, f_columns := false, f_dims := false, f_cond := false, f_event := false } : Programuses), true)
        else
         bif (p0 == 10) then
          some (({ f_num := false, f_name := false, f_column := true, f_columns := false, f_dims := true, f_cond := true, f_event := false } : Programuses), true)
         else
          bif (p0 == 11) then
           some (({ f_num := false, f_name := false, f_column := true, f_columns := true, f_dims := false, f_cond := true, f_event := false } : Programuses), true)
          else
           bif (p0 == 12) then
            some (({ f_num := false, f_name := false, f_column := true, f_columns := false, f_dims := false, f_cond := true, f_event := true } : Programuses), true)
           else
            bif (p0 == 13) then
             some (({ f_num := true, f_name := false, f_column := true, f_columns := false, f_dims := false, f_cond := true, f_event := false } : Programuses), true)
            else
             program_fields_j1
       else
        bif (p0 == 7) then
         bif (p0 == 7) then
          some (({ f_num := false, f_name := false, f_column := false, f_columns := false, f_dims := false, f_cond := false, f_event := false } : Programuses), true)
         else
          bif (p0 == 10) then
           some (({ f_num := false, f_name := false, f_column := true, f_columns := false, f_dims := true, f_cond := true, f_event := false } : Programuses), true)
          else
           bif (p0 == 11) then
            some (({ f_num := false, f_name := false, f_column := true, f_columns := true, f_dims := false, f_cond := true, f_event := false } : Programuses), true)
           else
            bif (p0 == 12) then
             some (({ f_num := false, f_name := false, f_column := true, f_columns := false, f_dims := false, f_cond := true, f_event := true } : Programuses), true)
            else
             bif (p0 == 13) then
              some (({ f_num := true, f_name := false, f_column := true, f_columns := false, f_dims := false, f_cond := true, f_event := false } : Programuses), true)
             else
              program_fields_j1
        else
         bif (p0 == 8) then
          bif (p0 == 8) then
           some (({ f_num := false, f_name := false, f_column := false, f_columns := false, f_dims := false, f_cond := false, f_event := false } : Programuses), true)
          else
           bif (p0 == 10) then
            some (({ f_num := false, f_name := false, f_column := true, f_columns := false, f_dims := true, f_cond := true, f_event := false } : Programuses), true)
           else
            bif (p0 == 11) then
             some (({ f_num := false, f_name := false, f_column := true, f_columns := true, f_dims := false, f_cond := true, f_event := false } : Programuses), true)
            else
             bif (p0 == 12) then
              some (({ f_num := false, f_name := false, f_column := true, f_columns := false, f_dims := false, f_cond := true, f_event := true } : Programuses), true)
             else
              bif (p0 == 13) then
               some (({ f_num := true, f_name := false, f_column := true, f_columns := false, f_dims := false, f_cond := true, f_event := false } : Programuses), true)
              else
               program_fields_j1
         else
          bif (p0 == 9) then
           some (({ f_num := false, f_name := false, f_column := false, f_columns := false, f_dims := false, f_cond := false, f_event := false } : Programuses), true)
          else
           bif (p0 == 10) then
            some (({ f_num := false, f_name := false, f_column := true, f_columns := false, f_dims := true, f_cond := true, f_event := false } : Programuses), true)
           else
            bif (p0 == 11) then
             some (({ f_num := false, f_name := false, f_column := true, f_columns := true, f_dims := false, f_cond := true, f_event := false } : Programuses), true)
            else
             bif (p0 == 12) then
              some (({ f_num := false, f_name := false, f_column := true, f_columns := false, f_dims := false, f_cond := true, f_event := true } : Programuses), true)
             else
              bif (p0 == 13) then
               some (({ f_num := true, f_name := false, f_column := true, f_columns := false, f_dims := false, f_cond := true, f_event := false } : Programuses), true)
              else
               program_fields_j1
     else
      bif (p0 == 14) then
       some (({ f_num := false, f_name := false, f_column := true, f_columns := false, f_dims := false, f_cond := true, f_event := false } : Programuses), true)
      else
       bif (p0 == 6) then
        bif (p0 == 6) then
         some (({ f_num := false, f_name := false, f_column := false, f_columns := false, f_dims := false, f_cond := false, f_event := false } : Programuses), true)
        else
         bif (p0 == 10) then
          some (({ f_num := false, f_name := false, f_column := true, f_columns := false, f_dims := true, f_cond := true, f_event := false } : Programuses), true)
         else
          bif (p0 == 11) then
           some (({ f_num := false, f_name := false, f_column := true, f_columns := true, f_dims := false, f_cond := true, f_event := false } : Programuses), true)
          else
           bif (p0 == 12) then
            some (({ f_num := false, f_name := false, f_column := true, f_columns := false, f_dims := false, f_cond := true, f_event := true } : Programuses), true)
           else
            bif (p0 == 13) then
             some (({ f_num := true, f_name := false, f_column := true, f_columns := false, f_dims := false, f_cond := true, f_event := false } : Programuses), true)
            else
             program_fields_j1
       else
        bif (p0 == 7) then
         bif (p0 == 7) then
          some (({ f_num := false, f_name := false, f_column := false, f_columns := false, f_dims := false, f_cond := false, f_event := false } : Programuses), true)
         else
          bif (p0 == 10) then
           some (({ f_num := false, f_name := false, f_column := true, f_columns := false, f_dims := true, f_cond := true, f_event := false } : Programuses), true)
          else
           bif (p0 == 11) then
            some (({ f_num := false, f_name := false, f_column := true, f_columns := true, f_dims := false, f_cond := true, f_event := false } : Programuses), true)
           else
            bif (p0 == 12) then
             some (({ f_num := false, f_name := false, f_column := true, f_columns := false, f_dims := false, f_cond := true, f_event := true } : Programuses), true)
            else
             bif (p0 == 13) then
              some (({ f_num := true, f_name := false, f_column := true, f_columns := false, f_dims := false, f_cond := true, f_event := false } : Programuses), true)
             else
              program_fields_j1
        else
         bif (p0 == 8) then
          bif (p0 == 8) then
           some (({ f_num := false, f_name := false, f_column := false, f_columns := false, f_dims := false, f_cond := false, f_event := false } : Programuses), true)
          else
           bif (p0 == 10) then
            some (({ f_num := false, f_name := false, f_column := true, f_columns := false, f_dims := true, f_cond := true, f_event := false } : Programuses), true)
           else
            bif (p0 == 11) then
             some (({ f_num := false, f_name := false, f_column := true, f_columns := true, f_dims := false, f_cond := true, f_event := false } : Programuses), true)
            else
             bif (p0 == 12) then
              some (({ f_num := false, f_name := false, f_column := true, f_columns := false, f_dims := false, f_cond := true, f_event := true } : Programuses), true)
             else
              bif (p0 == 13) then
               some (({ f_num := true, f_name := false, f_column := true, f_columns := false, f_dims := false, f_cond := true, f_event := false } : Programuses), true)
              else
               program_fields_j1
         else
          bif (p0 == 9) then
           some (({ f_num := false, f_name := false, f_column := false, f_columns := false, f_dims := false, f_cond := false, f_event := false } : Programuses), true)
          else
           bif (p0 == 10) then
            some (({ f_num := false, f_name := false, f_column := true, f_columns := false, f_dims := true, f_cond := true, f_event := false } : Programuses), true)
           else
            bif (p0 == 11) then
             some (({ f_num := false, f_name := false, f_column := true, f_columns := true, f_dims := false, f_cond := true, f_event := false } : Programuses), true)
            else
             bif (p0 == 12) then
              some (({ f_num := false, f_name := false, f_column := true, f_columns := false, f_dims := false, f_cond := true, f_event := true } : Programuses), true)
             else
              bif (p0 == 13) then
               some (({ f_num := true, f_name := false, f_column := true, f_columns := false, f_dims := false, f_cond := true, f_event := false } : Programuses), true)
              else
               program_fields_j1

def program_Pair (p0 : Int) : Option Bool :=
 some (bif (decide (p0 ≥ 6)) then (decide (p0 ≤ 9)) else false)

def program_empty (p0 : ACond) : Option Bool :=
 some (bif (bif (bif (bif (bif (p0.Op == 0) then (p0.Column == 0) else false) then (p0.Code == 0) else false) then (p0.Low == 0) else false) then (p0.High == 0) else false) then (((p0.Kids.length : Nat) : Int) == 0) else false)

def program_unused (p0 : AExpr) (p1 : Programuses) : Option Bool :=
 bif (bif (bif (bif (bif (bif p1.f_num then true else (p0.Num == 0)) then (bif p1.f_name then true else (p0.Name.toList == ({ data := #[] } : ByteArray).toList)) else false) then (bif p1.f_column then true else (p0.Column == 0)) else false) then (bif p1.f_columns then true else (((p0.Columns.length : Nat) : Int) == 0)) else false) then (bif p1.f_dims then true else (((p0.Dims.length : Nat) : Int) == 0)) else false) then
  bif p1.f_cond then
   bif p1.f_event then
    (program_Pair p0.Op).bind fun x71 =>
    some (bif x71 then true else (((p0.Kids.length : Nat) : Int) == 0))
   else
    (program_empty p0.Event).bind fun x65 =>
    bif x65 then
     (program_Pair p0.Op).bind fun x71 =>
     some (bif x71 then true else (((p0.Kids.length : Nat) : Int) == 0))
    else
     some false
  else
   (program_empty p0.Cond).bind fun x56 =>
   bif x56 then
    bif p1.f_event then
     (program_Pair p0.Op).bind fun x71 =>
     some (bif x71 then true else (((p0.Kids.length : Nat) : Int) == 0))
    else
     (program_empty p0.Event).bind fun x65 =>
     bif x65 then
      (program_Pair p0.Op).bind fun x71 =>
      some (bif x71 then true else (((p0.Kids.length : Nat) : Int) == 0))
     else
      some false
   else
    some false
 else
  some false

def program_measure (p0 : ASchema) (p1 : Int) : Option Bool :=
 bif (bif (decide (p1 ≥ 0)) then (decide (p1 < ((p0.Columns.length : Nat) : Int))) else false) then
  (idx p0.Columns p1).bind fun x18 =>
  some (x18.Kind == 3)
 else
  some false

def schema_Pick (p0 : ASchema) (p1 : APick) : Option Int :=
 (schema_Check p0).bind fun x7 =>
 bif (x7 != 0) then
  some x7
 else
  (schema_pick p0 p1).bind fun x13 =>
  some x13

def program_dims_c1 (p0 : APick) (q0 : APick) : Option Bool :=
 some (p0.Column == q0.Column)

def program_dims_b1 (p1 : (List APick)) (p0 : ASchema) (kont1_0 : (Int → Option Bool)) (rec1 : (Int → Option Bool)) (v9_1 : Int) : Option Bool :=
 bif (decide (v9_1 < ((p1.length : Nat) : Int))) then
  (idx p1 v9_1).bind fun x12 =>
  (schema_Pick p0 x12).bind fun x16 =>
  bif (x16 != 0) then
   some false
  else
   (idx p0.Columns x12.Column).bind fun x23 =>
   bif (x23.Kind != 2) then
    some false
   else
    bif (decide (0 ≤ (0 : Int) ∧ 0 ≤ v9_1 ∧ v9_1 ≤ ((p1.length : Nat) : Int))) then
     (slices_ContainsFunc_Lapi_Pick_api_Pick (cut p1 0 v9_1) (fun a0 => program_dims_c1 a0 x12)).bind fun x32 =>
     bif x32 then
      some false
     else
      rec1 (IntKind.i64.wrap (v9_1 + 1))
    else none
 else
  kont1_0 v9_1

def program_dims (p0 : ASchema) (p1 : (List APick)) : Option Bool :=
 iter (fun rec1 s => program_dims_b1 p1 p0 (fun v9_1 => some (bif (decide (((p1.length : Nat) : Int) ≥ 1)) then (decide (((p1.length : Nat) : Int) ≤ 3)) else false)) rec1 s) FUEL 0

def program_terms_b1 (p2 : (List Int)) (p0 : ASchema) (p1 : Int) (kont1_0 : (Int → Option Bool)) (rec1 : (Int → Option Bool)) (v11_1 : Int) : Option Bool :=
 bif (decide (v11_1 < ((p2.length : Nat) : Int))) then
  (idx p2 v11_1).bind fun x14 =>
  (program_measure p0 x14).bind fun x18 =>
  bif (bif (!x18) then true else (x14 == p1)) then
   some false
  else
   bif (decide (0 ≤ (0 : Int) ∧ 0 ≤ v11_1 ∧ v11_1 ≤ ((p2.length : Nat) : Int))) then
    (slices_Contains_Lint_int (cut p2 0 v11_1) x14).bind fun x30 =>
    bif x30 then
     some false
    else
     rec1 (IntKind.i64.wrap (v11_1 + 1))
   else none
 else
  kont1_0 v11_1

def program_terms (p0 : ASchema) (p1 : Int) (p2 : (List Int)) : Option Bool :=
 iter (fun rec1 s => program_terms_b1 p2 p0 p1 (fun v11_1 => some (bif (decide (((p2.length : Nat) : Int) ≥ 1)) then (decide (((p2.length : Nat) : Int) ≤ 3)) else false)) rec1 s) FUEL 0

def program_part (p0 : ASchema) (p1 : AExpr) : Option Bool :=
 bif (p1.Op == 1) then
  some (bif (decide (p1.Num ≥ (-1099511627776))) then (decide (p1.Num ≤ 1099511627776)) else false)
 else
  bif (p1.Op == 2) then
   (codes_Name p1.Name).bind fun x21 =>
   some x21
  else
   bif (p1.Op == 4) then
    bif (p1.Op == 4) then
     (program_measure p0 p1.Column).bind fun x29 =>
     some x29
    else
     bif (p1.Op == 10) then
      (program_dims p0 p1.Dims).bind fun x35 =>
      bif x35 then
       bif (p1.Column == (-1)) then
        some true
       else
        (program_measure p0 p1.Column).bind fun x44 =>
        some x44
      else
       some false
     else
      bif (p1.Op == 11) then
       (program_measure p0 p1.Column).bind fun x52 =>
       bif x52 then
        (program_terms p0 p1.Column p1.Columns).bind fun x59 =>
        some x59
       else
        some false
      else
       bif (p1.Op == 12) then
        (program_measure p0 p1.Column).bind fun x66 =>
        bif x66 then
         (idx p0.Columns p1.Column).bind fun x72 =>
         some (decide (x72.Low ≥ 0))
        else
         some false
       else
        bif (p1.Op == 13) then
         (program_measure p0 p1.Column).bind fun x82 =>
         bif x82 then
          (idx p0.Columns p1.Column).bind fun x88 =>
          (slices_Contains_Lint_int x88.Widths p1.Num).bind fun x93 =>
          some x93
         else
          some false
        else
         some true
   else
    bif (p1.Op == 5) then
     bif (p1.Op == 5) then
      (program_measure p0 p1.Column).bind fun x29 =>
      some x29
     else
      bif (p1.Op == 10) then
       (program_dims p0 p1.Dims).bind fun x35 =>
       bif x35 then
        bif (p1.Column == (-1)) then
         some true
        else
         (program_measure p0 p1.Column).bind fun x44 =>
         some x44
       else
        some false
      else
       bif (p1.Op == 11) then
        (program_measure p0 p1.Column).bind fun x52 =>
        bif x52 then
         (program_terms p0 p1.Column p1.Columns).bind fun x59 =>
         some x59
        else
         some false
       else
        bif (p1.Op == 12) then
         (program_measure p0 p1.Column).bind fun x66 =>
         bif x66 then
          (idx p0.Columns p1.Column).bind fun x72 =>
          some (decide (x72.Low ≥ 0))
         else
          some false
        else
         bif (p1.Op == 13) then
          (program_measure p0 p1.Column).bind fun x82 =>
          bif x82 then
           (idx p0.Columns p1.Column).bind fun x88 =>
           (slices_Contains_Lint_int x88.Widths p1.Num).bind fun x93 =>
           some x93
          else
           some false
         else
          some true
    else
     bif (p1.Op == 14) then
      (program_measure p0 p1.Column).bind fun x29 =>
      some x29
     else
      bif (p1.Op == 10) then
       (program_dims p0 p1.Dims).bind fun x35 =>
       bif x35 then
        bif (p1.Column == (-1)) then
         some true
        else
         (program_measure p0 p1.Column).bind fun x44 =>
         some x44
       else
        some false
      else
       bif (p1.Op == 11) then
        (program_measure p0 p1.Column).bind fun x52 =>
        bif x52 then
         (program_terms p0 p1.Column p1.Columns).bind fun x59 =>
         some x59
        else
         some false
       else
        bif (p1.Op == 12) then
         (program_measure p0 p1.Column).bind fun x66 =>
         bif x66 then
          (idx p0.Columns p1.Column).bind fun x72 =>
          some (decide (x72.Low ≥ 0))
         else
          some false
        else
         bif (p1.Op == 13) then
          (program_measure p0 p1.Column).bind fun x82 =>
          bif x82 then
           (idx p0.Columns p1.Column).bind fun x88 =>
           (slices_Contains_Lint_int x88.Widths p1.Num).bind fun x93 =>
           some x93
          else
           some false
         else
          some true

def program_Number (p0 : Int) : Option Bool :=
 some (bif (decide (p0 ≥ 1)) then (decide (p0 ≤ 9)) else false)

def program_right_j1 (x10 : (Programuses × Bool)) (d : Nat) (p0 : ASchema) (p1 : AExpr) (self_program_right_c1 : (AExpr → ASchema → Option Bool)) : Option Bool :=
 bif x10.1.f_cond then
  (condition_Check d p0 p1.Cond).bind fun x33 =>
  bif (x33 != 0) then
   some false
  else
   bif x10.1.f_event then
    (condition_Check d p0 p1.Event).bind fun x43 =>
    bif (x43 != 0) then
     some false
    else
     (program_Pair p1.Op).bind fun x49 =>
     bif (bif x49 then (((p1.Kids.length : Nat) : Int) != 2) else false) then
      some false
     else
      (slices_ContainsFunc_Lapi_Expr_api_Expr p1.Kids (fun a0 => self_program_right_c1 a0 p0)).bind fun x59 =>
      some (!x59)
   else
    (program_Pair p1.Op).bind fun x49 =>
    bif (bif x49 then (((p1.Kids.length : Nat) : Int) != 2) else false) then
     some false
    else
     (slices_ContainsFunc_Lapi_Expr_api_Expr p1.Kids (fun a0 => self_program_right_c1 a0 p0)).bind fun x59 =>
     some (!x59)
 else
  bif x10.1.f_event then
   (condition_Check d p0 p1.Event).bind fun x43 =>
   bif (x43 != 0) then
    some false
   else
    (program_Pair p1.Op).bind fun x49 =>
    bif (bif x49 then (((p1.Kids.length : Nat) : Int) != 2) else false) then
     some false
    else
     (slices_ContainsFunc_Lapi_Expr_api_Expr p1.Kids (fun a0 => self_program_right_c1 a0 p0)).bind fun x59 =>
     some (!x59)
  else
   (program_Pair p1.Op).bind fun x49 =>
   bif (bif x49 then (((p1.Kids.length : Nat) : Int) != 2) else false) then
    some false
   else
    (slices_ContainsFunc_Lapi_Expr_api_Expr p1.Kids (fun a0 => self_program_right_c1 a0 p0)).bind fun x59 =>
    some (!x59)

def program_right_s (d : Nat) (self_program_right : (ASchema → AExpr → Option Bool)) (self_program_right_c1 : (AExpr → ASchema → Option Bool)) (p0 : ASchema) (p1 : AExpr) : Option Bool :=
 (program_fields p1.Op).bind fun x10 =>
 bif (!x10.2) then
  some false
 else
  (program_unused p1 x10.1).bind fun x18 =>
  bif (!x18) then
   some false
  else
   (program_part p0 p1).bind fun x24 =>
   bif (!x24) then
    some false
   else
    program_right_j1 x10 d p0 p1 self_program_right_c1

def program_right_c1_s (d : Nat) (self_program_right : (ASchema → AExpr → Option Bool)) (self_program_right_c1 : (AExpr → ASchema → Option Bool)) (p0 : AExpr) (q0 : ASchema) : Option Bool :=
 (program_Number p0.Op).bind fun x6 =>
 bif (!x6) then
  some true
 else
  (self_program_right q0 p0).bind fun x11 =>
  some (!x11)

mutual
def program_right : Nat → ASchema → AExpr → Option Bool
 | 0, _, _ => none
 | d + 1, p0, p1 => program_right_s d (program_right d) (program_right_c1 d) p0 p1
def program_right_c1 : Nat → AExpr → ASchema → Option Bool
 | 0, _, _ => none
 | d + 1, p0, q0 => program_right_c1_s d (program_right d) (program_right_c1 d) p0 q0
end

def program_Right (d : Nat) (p0 : ASchema) (p1 : AExpr) : Option Bool :=
 (schema_Check p0).bind fun x6 =>
 bif (x6 == 0) then
  (program_right d p0 p1).bind fun x11 =>
  some x11
 else
  some false

def condition_Covers_c1_c1 (p0 : APick) (q0 : APick) : Option Bool :=
 some (bif (p0.Column == q0.Column) then (decide (p0.Level ≥ q0.Level)) else false)

def condition_Covers_c1 (p0 : APick) (q0 : (List APick)) : Option Bool :=
 (slices_ContainsFunc_Lapi_Pick_api_Pick q0 (fun a0 => condition_Covers_c1_c1 a0 p0)).bind fun x6 =>
 some (!x6)

def condition_Covers (p0 : (List APick)) (p1 : (List APick)) : Option Bool :=
 (slices_ContainsFunc_Lapi_Pick_api_Pick p1 (fun a0 => condition_Covers_c1 a0 p0)).bind fun x7 =>
 some (!x7)

def condition_Atoms_b1 (p0 : ACond) (self_condition_Atoms : (ACond → Option (List ACond))) (kont1_0 : (Int → (List ACond) → Option (List ACond))) (rec1 : ((Int × (List ACond)) → Option (List ACond))) (v24_1 : Int) (b3_1 : (List ACond)) : Option (List ACond) :=
 bif (decide (v24_1 < ((p0.Kids.length : Nat) : Int))) then
  (idx p0.Kids v24_1).bind fun x26 =>
  (self_condition_Atoms x26).bind fun x30 =>
  bif rm b3_1.length x30.length then
   rec1 ((IntKind.i64.wrap (v24_1 + 1)), (b3_1 ++ x30))
  else none
 else
  kont1_0 v24_1 b3_1

def condition_Atoms_s (d : Nat) (self_condition_Atoms : (ACond → Option (List ACond))) (p0 : ACond) : Option (List ACond) :=
 bif (bif (bif (p0.Op == 2) then true else (p0.Op == 3)) then true else (p0.Op == 4)) then
  some [p0]
 else
  iter (fun rec1 s => condition_Atoms_b1 p0 self_condition_Atoms (fun v24_1 b3_1 => some b3_1) rec1 s.1 s.2) FUEL (0, [])

def condition_Atoms : Nat → ACond → Option (List ACond)
 | 0, _ => none
 | d + 1, p0 => condition_Atoms_s d (condition_Atoms d) p0

def condition_truth (p0 : Bool) : Option Int :=
 bif p0 then
  some 1
 else
  some (-1)

def codes_Under (p0 : ACodeList) (p1 : Int) (p2 : Int) : Option Bool :=
 (codes_has p0 p1).bind fun x9 =>
 bif (!x9) then
  some false
 else
  (codes_has p0 p2).bind fun x14 =>
  bif (!x14) then
   some false
  else
   (codes_depths p0).bind fun x20 =>
   (idx x20 p2).bind fun x22 =>
   (codes_Up p0 p1 x22).bind fun x24 =>
   some (x24 == p2)

def condition_Atom (p0 : ASchema) (p1 : ACond) (p2 : Int) : Option Int :=
 bif (p1.Op == 2) then
  (idx p0.Columns p1.Column).bind fun x17 =>
  (idx p0.Lists x17.List_).bind fun x20 =>
  (codes_Under x20 p2 p1.Code).bind fun x25 =>
  (condition_truth x25).bind fun x26 =>
  some x26
 else
  bif (p1.Op == 4) then
   (condition_truth (p2 == (-1099511627776))).bind fun x33 =>
   some x33
  else
   bif (p2 == (-1099511627776)) then
    some 0
   else
    (condition_truth (bif (decide (p2 ≥ p1.Low)) then (decide (p2 ≤ p1.High)) else false)).bind fun x47 =>
    some x47

def condition_width (p0 : AColumn) (p1 : Int) : Option Int :=
 (idx p0.Widths (IntKind.i64.wrap (((p0.Widths.length : Nat) : Int) - p1))).bind fun x12 =>
 some x12

def condition_down (p0 : Int) (p1 : Int) : Option Int :=
 bif (decide (p1 ≠ 0)) then
  bif (decide ((Int.tmod p0 p1) < 0)) then
   some (IntKind.i64.wrap (p0 - (IntKind.i64.wrap ((Int.tmod p0 p1) + p1))))
  else
   some (IntKind.i64.wrap (p0 - (Int.tmod p0 p1)))
 else none

def condition_suffices_b1 (x39 : (List Int)) (x32 : ACodeList) (p2 : Int) (p0 : ASchema) (p1 : ACond) (kont1_0 : (Int → (List (Int × Int)) → Option Bool)) (rec1 : ((Int × (List (Int × Int))) → Option Bool)) (v41_1 : Int) (b34_1 : (List (Int × Int))) : Option Bool :=
 bif (decide (v41_1 < ((x39.length : Nat) : Int))) then
  (idx x39 v41_1).bind fun x43 =>
  (codes_Up x32 x43 p2).bind fun x48 =>
  (condition_Atom p0 p1 x43).bind fun x52 =>
  bif (bif ((getI x48 b34_1).isSome) then (((getI x48 b34_1).getD 0) != x52) else false) then
   some false
  else
   rec1 ((IntKind.i64.wrap (v41_1 + 1)), (updI x48 x52 b34_1))
 else
  kont1_0 v41_1 b34_1

def condition_suffices (p0 : ASchema) (p1 : ACond) (p2 : Int) : Option Bool :=
 (idx p0.Columns p1.Column).bind fun x23 =>
 bif (p1.Op == 2) then
  (idx p0.Lists x23.List_).bind fun x32 =>
  (codes_Levels x32).bind fun x37 =>
  (codes_At x32 (IntKind.i64.wrap (x37 - 1))).bind fun x39 =>
  iter (fun rec1 s => condition_suffices_b1 x39 x32 p2 p0 p1 (fun v41_1 b34_1 => some true) rec1 s.1 s.2) FUEL (0, [])
 else
  bif (bif (p2 == 0) then x23.Optional else false) then
   some false
  else
   bif (p1.Op == 4) then
    some true
   else
    bif (decide ((if x23.Low > p1.Low then x23.Low else p1.Low) > (if x23.High < p1.High then x23.High else p1.High))) then
     some true
    else
     bif (p2 == 0) then
      some (bif ((if x23.Low > p1.Low then x23.Low else p1.Low) == x23.Low) then ((if x23.High < p1.High then x23.High else p1.High) == x23.High) else false)
     else
      (condition_width x23 p2).bind fun x107 =>
      bif ((if x23.Low > p1.Low then x23.Low else p1.Low) == x23.Low) then
       bif ((if x23.High < p1.High then x23.High else p1.High) == x23.High) then
        some true
       else
        (condition_down (IntKind.i64.wrap ((if x23.High < p1.High then x23.High else p1.High) + 1)) x107).bind fun x128 =>
        some (x128 == (IntKind.i64.wrap ((if x23.High < p1.High then x23.High else p1.High) + 1)))
      else
       (condition_down (if x23.Low > p1.Low then x23.Low else p1.Low) x107).bind fun x115 =>
       bif (x115 == (if x23.Low > p1.Low then x23.Low else p1.Low)) then
        bif ((if x23.High < p1.High then x23.High else p1.High) == x23.High) then
         some true
        else
         (condition_down (IntKind.i64.wrap ((if x23.High < p1.High then x23.High else p1.High) + 1)) x107).bind fun x128 =>
         some (x128 == (IntKind.i64.wrap ((if x23.High < p1.High then x23.High else p1.High) + 1)))
       else
        some false

def condition_Needs_k1 (b19_1 : (List Int)) (x25 : ACond) (rec1 : ((Int × (List Int)) → Option (List APick))) (v23_1 : Int) (v8_2 : Int) : Option (List APick) :=
 (idx b19_1 x25.Column).bind fun x40 =>
 (idx b19_1 x25.Column).bind fun x44 =>
 rec1 ((IntKind.i64.wrap (v23_1 + 1)), (b19_1.set (x25.Column : Int).toNat (if v8_2 > x40 then v8_2 else x40)))

def condition_Needs_b2 (p0 : ASchema) (x25 : ACond) (kont2_2 : (Int → Option (List APick))) (rec2 : (Int → Option (List APick))) (v8_2 : Int) : Option (List APick) :=
 (condition_suffices p0 x25 v8_2).bind fun x30 =>
 bif (!x30) then
  rec2 (IntKind.i64.wrap (v8_2 + 1))
 else
  kont2_2 v8_2

def condition_Needs_b3 (b19_1 : (List Int)) (kont3_4 : (Int → (List APick) → Option (List APick))) (rec3 : ((Int × (List APick)) → Option (List APick))) (v48_3 : Int) (b9_3 : (List APick)) : Option (List APick) :=
 bif (decide (v48_3 < ((b19_1.length : Nat) : Int))) then
  (idx b19_1 v48_3).bind fun x51 =>
  bif (decide (x51 > 0)) then
   bif rm b9_3.length [({ Column := v48_3, Level := x51 } : APick)].length then
    rec3 ((IntKind.i64.wrap (v48_3 + 1)), (b9_3 ++ [({ Column := v48_3, Level := x51 } : APick)]))
   else none
  else
   rec3 ((IntKind.i64.wrap (v48_3 + 1)), b9_3)
 else
  kont3_4 v48_3 b9_3

def condition_Needs_b1 (x21 : (List ACond)) (p0 : ASchema) (kont1_0 : (Int → (List Int) → Option (List APick))) (rec1 : ((Int × (List Int)) → Option (List APick))) (v23_1 : Int) (b19_1 : (List Int)) : Option (List APick) :=
 bif (decide (v23_1 < ((x21.length : Nat) : Int))) then
  (idx x21 v23_1).bind fun x25 =>
  iter (fun rec2 s => condition_Needs_b2 p0 x25 (condition_Needs_k1 b19_1 x25 rec1 v23_1) rec2 s) FUEL 0
 else
  kont1_0 v23_1 b19_1

def condition_Needs (d : Nat) (p0 : ASchema) (p1 : ACond) : Option (List APick) :=
 (condition_Check d p0 p1).bind fun x14 =>
 bif (x14 != 0) then
  some []
 else
  bif (decide (0 ≤ ((p0.Columns.length : Nat) : Int)) && rm (((p0.Columns.length : Nat) : Int) : Int).toNat 0) then
   (condition_Atoms d p1).bind fun x21 =>
   iter (fun rec1 s => condition_Needs_b1 x21 p0 (fun v23_1 b19_1 => iter (fun rec3 s => condition_Needs_b3 b19_1 (fun v48_3 b9_3 => some b9_3) rec3 s.1 s.2) FUEL (0, [])) rec1 s.1 s.2) FUEL (0, (List.replicate (((p0.Columns.length : Nat) : Int) : Int).toNat 0))
  else none

def types_LevelOf_b1 (x13 : AColumn) (p2 : Int) (kont1_0 : (Int → Option Int)) (rec1 : (Int → Option Int)) (v18_1 : Int) : Option Int :=
 bif (decide (v18_1 < ((x13.Widths.length : Nat) : Int))) then
  (idx x13.Widths v18_1).bind fun x21 =>
  bif (x21 == p2) then
   some (IntKind.i64.wrap (((x13.Widths.length : Nat) : Int) - v18_1))
  else
   rec1 (IntKind.i64.wrap (v18_1 + 1))
 else
  kont1_0 v18_1

def types_LevelOf (p0 : ASchema) (p1 : Int) (p2 : Int) : Option Int :=
 (idx p0.Columns p1).bind fun x13 =>
 iter (fun rec1 s => types_LevelOf_b1 x13 p2 (fun v18_1 => some 0) rec1 s) FUEL 0

def schema_Finest (p0 : ASchema) (p1 : Int) : Option Int :=
 (schema_Check p0).bind fun x6 =>
 bif (x6 != 0) then
  some (-1)
 else
  (schema_finest p0 p1).bind fun x10 =>
  some x10

def schema_blocks (p0 : ASchema) (p1 : Int) (p2 : Int) : Option Int :=
 (idx p0.Columns p1).bind fun x13 =>
 bif (x13.Kind == 2) then
  (idx p0.Lists x13.List_).bind fun x22 =>
  (codes_At x22 p2).bind fun x25 =>
  some ((x25.length : Nat) : Int)
 else
  bif (p2 == 0) then
   some 1
  else
   (schema_width x13 p2).bind fun x31 =>
   (schema_down x13.High x31).bind fun x35 =>
   (schema_down x13.Low x31).bind fun x39 =>
   bif (decide (x31 ≠ 0)) then
    bif x13.Optional then
     some (IntKind.i64.wrap ((IntKind.i64.wrap ((IntKind.i64.wrap (Int.tdiv (IntKind.i64.wrap (x35 - x39)) x31)) + 1)) + 1))
    else
     some (IntKind.i64.wrap ((IntKind.i64.wrap (Int.tdiv (IntKind.i64.wrap (x35 - x39)) x31)) + 1))
   else none

def schema_Least_b1 (p0 : ASchema) (p1 : Int) (kont1_0 : (Int → Option Int)) (rec1 : (Int → Option Int)) (v2_1 : Int) : Option Int :=
 bif (decide (v2_1 > 0)) then
  (schema_blocks p0 p1 (IntKind.i64.wrap (v2_1 - 1))).bind fun x25 =>
  (schema_blocks p0 p1 v2_1).bind fun x29 =>
  bif (x25 == x29) then
   rec1 (IntKind.i64.wrap (v2_1 - 1))
  else
   kont1_0 v2_1
 else
  kont1_0 v2_1

def schema_Least (p0 : ASchema) (p1 : Int) (p2 : Int) : Option Int :=
 (schema_Finest p0 p1).bind fun x10 =>
 bif (bif (decide (p2 < 0)) then true else (decide (p2 > x10))) then
  some (-1)
 else
  iter (fun rec1 s => schema_Least_b1 p0 p1 (fun v2_1 => some v2_1) rec1 s) FUEL p2

def types_own_c1 (p0 : Int) (q0 : (List APick)) (q1 : ASchema) : Option (List APick) :=
 (schema_Finest q1 p0).bind fun x10 =>
 (schema_Least q1 p0 x10).bind fun x11 =>
 bif rm q0.length [({ Column := p0, Level := x11 } : APick)].length then
  some (q0 ++ [({ Column := p0, Level := x11 } : APick)])
 else none

def types_own_b2 (p1 : AExpr) (p0 : ASchema) (kont2_3 : (Int → (List APick) → Option (List APick))) (rec2 : ((Int × (List APick)) → Option (List APick))) (v69_2 : Int) (b30_2 : (List APick)) : Option (List APick) :=
 bif (decide (v69_2 < ((p1.Columns.length : Nat) : Int))) then
  (idx p1.Columns v69_2).bind fun x71 =>
  (types_own_c1 x71 b30_2 p0).bind fun x75 =>
  rec2 ((IntKind.i64.wrap (v69_2 + 1)), x75)
 else
  kont2_3 v69_2 b30_2

def types_own_j2 (p1 : AExpr) (p0 : ASchema) (k30_2 : (List APick)) : Option (List APick) :=
 iter (fun rec2 s => types_own_b2 p1 p0 (fun v69_2 b30_2 => some b30_2) rec2 s.1 s.2) FUEL (0, k30_2)

def types_own_j1 (p1 : AExpr) (p0 : ASchema) (k30_1 : (List APick)) : Option (List APick) :=
 bif (p1.Op == 4) then
  bif (p1.Op == 4) then
   bif (decide (p1.Column > 0)) then
    (types_own_c1 p1.Column k30_1 p0).bind fun x47 =>
    types_own_j2 p1 p0 x47
   else
    types_own_j2 p1 p0 k30_1
  else
   bif (p1.Op == 13) then
    (types_LevelOf p0 p1.Column p1.Num).bind fun x61 =>
    (schema_Least p0 p1.Column x61).bind fun x62 =>
    bif rm k30_1.length [({ Column := p1.Column, Level := x62 } : APick)].length then
     types_own_j2 p1 p0 (k30_1 ++ [({ Column := p1.Column, Level := x62 } : APick)])
    else none
   else
    types_own_j2 p1 p0 k30_1
 else
  bif (p1.Op == 5) then
   bif (p1.Op == 5) then
    bif (decide (p1.Column > 0)) then
     (types_own_c1 p1.Column k30_1 p0).bind fun x47 =>
     types_own_j2 p1 p0 x47
    else
     types_own_j2 p1 p0 k30_1
   else
    bif (p1.Op == 13) then
     (types_LevelOf p0 p1.Column p1.Num).bind fun x61 =>
     (schema_Least p0 p1.Column x61).bind fun x62 =>
     bif rm k30_1.length [({ Column := p1.Column, Level := x62 } : APick)].length then
      types_own_j2 p1 p0 (k30_1 ++ [({ Column := p1.Column, Level := x62 } : APick)])
     else none
    else
     types_own_j2 p1 p0 k30_1
  else
   bif (p1.Op == 10) then
    bif (p1.Op == 10) then
     bif (decide (p1.Column > 0)) then
      (types_own_c1 p1.Column k30_1 p0).bind fun x47 =>
      types_own_j2 p1 p0 x47
     else
      types_own_j2 p1 p0 k30_1
    else
     bif (p1.Op == 13) then
      (types_LevelOf p0 p1.Column p1.Num).bind fun x61 =>
      (schema_Least p0 p1.Column x61).bind fun x62 =>
      bif rm k30_1.length [({ Column := p1.Column, Level := x62 } : APick)].length then
       types_own_j2 p1 p0 (k30_1 ++ [({ Column := p1.Column, Level := x62 } : APick)])
      else none
     else
      types_own_j2 p1 p0 k30_1
   else
    bif (p1.Op == 11) then
     bif (p1.Op == 11) then
      bif (decide (p1.Column > 0)) then
       (types_own_c1 p1.Column k30_1 p0).bind fun x47 =>
       types_own_j2 p1 p0 x47
      else
       types_own_j2 p1 p0 k30_1
     else
      bif (p1.Op == 13) then
       (types_LevelOf p0 p1.Column p1.Num).bind fun x61 =>
       (schema_Least p0 p1.Column x61).bind fun x62 =>
       bif rm k30_1.length [({ Column := p1.Column, Level := x62 } : APick)].length then
        types_own_j2 p1 p0 (k30_1 ++ [({ Column := p1.Column, Level := x62 } : APick)])
       else none
      else
       types_own_j2 p1 p0 k30_1
    else
     bif (p1.Op == 12) then
      bif (p1.Op == 12) then
       bif (decide (p1.Column > 0)) then
        (types_own_c1 p1.Column k30_1 p0).bind fun x47 =>
        types_own_j2 p1 p0 x47
       else
        types_own_j2 p1 p0 k30_1
      else
       bif (p1.Op == 13) then
        (types_LevelOf p0 p1.Column p1.Num).bind fun x61 =>
        (schema_Least p0 p1.Column x61).bind fun x62 =>
        bif rm k30_1.length [({ Column := p1.Column, Level := x62 } : APick)].length then
         types_own_j2 p1 p0 (k30_1 ++ [({ Column := p1.Column, Level := x62 } : APick)])
        else none
       else
        types_own_j2 p1 p0 k30_1
     else
      bif (p1.Op == 14) then
       bif (decide (p1.Column > 0)) then
        (types_own_c1 p1.Column k30_1 p0).bind fun x47 =>
        types_own_j2 p1 p0 x47
       else
        types_own_j2 p1 p0 k30_1
      else
       bif (p1.Op == 13) then
        (types_LevelOf p0 p1.Column p1.Num).bind fun x61 =>
        (schema_Least p0 p1.Column x61).bind fun x62 =>
        bif rm k30_1.length [({ Column := p1.Column, Level := x62 } : APick)].length then
         types_own_j2 p1 p0 (k30_1 ++ [({ Column := p1.Column, Level := x62 } : APick)])
        else none
       else
        types_own_j2 p1 p0 k30_1

def types_own_b1 (p1 : AExpr) (p0 : ASchema) (kont1_0 : (Int → (List APick) → Option (List APick))) (rec1 : ((Int × (List APick)) → Option (List APick))) (v15_1 : Int) (b30_1 : (List APick)) : Option (List APick) :=
 bif (decide (v15_1 < ((p1.Dims.length : Nat) : Int))) then
  (idx p1.Dims v15_1).bind fun x17 =>
  (schema_Least p0 x17.Column x17.Level).bind fun x27 =>
  bif rm b30_1.length [({ Column := x17.Column, Level := x27 } : APick)].length then
   rec1 ((IntKind.i64.wrap (v15_1 + 1)), (b30_1 ++ [({ Column := x17.Column, Level := x27 } : APick)]))
  else none
 else
  kont1_0 v15_1 b30_1

def types_own (p0 : ASchema) (p1 : AExpr) : Option (List APick) :=
 iter (fun rec1 s => types_own_b1 p1 p0 (fun v15_1 b30_1 => types_own_j1 p1 p0 b30_1) rec1 s.1 s.2) FUEL (0, [])

def questions_Merge_b2 (x16 : (List APick)) (kont2_2 : (Int → Int → (List (Int × Int)) → Option (List APick))) (rec2 : ((Int × Int × (List (Int × Int))) → Option (List APick))) (v4_2 : Int) (v20_2 : Int) (b11_2 : (List (Int × Int))) : Option (List APick) :=
 bif (decide (v20_2 < ((x16.length : Nat) : Int))) then
  (idx x16 v20_2).bind fun x22 =>
  rec2 ((if x22.Column > v4_2 then x22.Column else v4_2), (IntKind.i64.wrap (v20_2 + 1)), (updI x22.Column (if x22.Level > ((getI x22.Column b11_2).getD 0) then x22.Level else ((getI x22.Column b11_2).getD 0)) b11_2))
 else
  kont2_2 v4_2 v20_2 b11_2

def questions_Merge_b3 (v4_1 : Int) (b11_1 : (List (Int × Int))) (kont3_4 : (Int → (List APick) → Option (List APick))) (rec3 : ((Int × (List APick)) → Option (List APick))) (v42_3 : Int) (b9_3 : (List APick)) : Option (List APick) :=
 bif (decide (v42_3 < (IntKind.i64.wrap (v4_1 + 1)))) then
  bif (decide (((getI v42_3 b11_1).getD 0) > 0)) then
   bif rm b9_3.length [({ Column := v42_3, Level := ((getI v42_3 b11_1).getD 0) } : APick)].length then
    rec3 ((IntKind.i64.wrap (v42_3 + 1)), (b9_3 ++ [({ Column := v42_3, Level := ((getI v42_3 b11_1).getD 0) } : APick)]))
   else none
  else
   rec3 ((IntKind.i64.wrap (v42_3 + 1)), b9_3)
 else
  kont3_4 v42_3 b9_3

def questions_Merge_b1 (p0 : (List (List APick))) (kont1_0 : (Int → Int → (List (Int × Int)) → Option (List APick))) (rec1 : ((Int × Int × (List (Int × Int))) → Option (List APick))) (v4_1 : Int) (v14_1 : Int) (b11_1 : (List (Int × Int))) : Option (List APick) :=
 bif (decide (v14_1 < ((p0.length : Nat) : Int))) then
  (idx p0 v14_1).bind fun x16 =>
  iter (fun rec2 s => questions_Merge_b2 x16 (fun v4_2 v20_2 b11_2 => rec1 (v4_2, (IntKind.i64.wrap (v14_1 + 1)), b11_2)) rec2 s.1 s.2.1 s.2.2) FUEL (v4_1, 0, b11_1)
 else
  kont1_0 v4_1 v14_1 b11_1

def questions_Merge (p0 : (List (List APick))) : Option (List APick) :=
 iter (fun rec1 s => questions_Merge_b1 p0 (fun v4_1 v14_1 b11_1 => iter (fun rec3 s => questions_Merge_b3 v4_1 b11_1 (fun v42_3 b9_3 => some b9_3) rec3 s.1 s.2) FUEL (0, [])) rec1 s.1 s.2.1 s.2.2) FUEL (0, 0, [])

def types_needs_b1 (p1 : AExpr) (self_types_needs : (ASchema → AExpr → Option (List APick))) (p0 : ASchema) (kont1_0 : (Int → (List (List APick)) → Option (List APick))) (rec1 : ((Int × (List (List APick))) → Option (List APick))) (v23_1 : Int) (b19_1 : (List (List APick))) : Option (List APick) :=
 bif (decide (v23_1 < ((p1.Kids.length : Nat) : Int))) then
  (idx p1.Kids v23_1).bind fun x25 =>
  (self_types_needs p0 x25).bind fun x30 =>
  bif rm b19_1.length [x30].length then
   rec1 ((IntKind.i64.wrap (v23_1 + 1)), (b19_1 ++ [x30]))
  else none
 else
  kont1_0 v23_1 b19_1

def types_needs_s (d : Nat) (self_types_needs : (ASchema → AExpr → Option (List APick))) (p0 : ASchema) (p1 : AExpr) : Option (List APick) :=
 (types_own p0 p1).bind fun x10 =>
 (condition_Needs d p0 p1.Cond).bind fun x14 =>
 (condition_Needs d p0 p1.Event).bind fun x18 =>
 iter (fun rec1 s => types_needs_b1 p1 self_types_needs p0 (fun v23_1 b19_1 => (questions_Merge b19_1).bind fun x35 => some x35) rec1 s.1 s.2) FUEL (0, [x10, x14, x18])

def types_needs : Nat → ASchema → AExpr → Option (List APick)
 | 0, _, _ => none
 | d + 1, p0, p1 => types_needs_s d (types_needs d) p0 p1

def types_Needs (d : Nat) (p0 : ASchema) (p1 : AExpr) : Option (List APick) :=
 (schema_Check p0).bind fun x6 =>
 bif (x6 != 0) then
  some []
 else
  (program_Right d p0 p1).bind fun x11 =>
  bif (!x11) then
   some []
  else
   (types_needs d p0 p1).bind fun x16 =>
   some x16

def plot_usable (d : Nat) (p0 : ASchema) (p1 : AExtract) (p2 : AExpr) : Option Int :=
 (extract_Check p0 p1).bind fun x10 =>
 bif (x10 != 0) then
  some x10
 else
  (program_Right d p0 p2).bind fun x17 =>
  bif (!x17) then
   some 11
  else
   (types_Needs d p0 p2).bind fun x24 =>
   (condition_Covers p1.Picks x24).bind fun x25 =>
   bif (!x25) then
    some 23
   else
    some 0

def condition_tell_s (d : Nat) (self_condition_tell : (ACond → (ACond → Option Int) → Option Int)) (p0 : ACond) (p1 : (ACond → Option Int)) : Option Int :=
 bif (p0.Op == 1) then
  some 1
 else
  bif (p0.Op == 5) then
   (idx p0.Kids 0).bind fun x13 =>
   (self_condition_tell x13 p1).bind fun x16 =>
   (idx p0.Kids 1).bind fun x19 =>
   (self_condition_tell x19 p1).bind fun x22 =>
   some (if x22 < x16 then x22 else x16)
  else
   bif (p0.Op == 6) then
    (idx p0.Kids 0).bind fun x28 =>
    (self_condition_tell x28 p1).bind fun x31 =>
    (idx p0.Kids 1).bind fun x34 =>
    (self_condition_tell x34 p1).bind fun x37 =>
    some (if x37 > x31 then x37 else x31)
   else
    bif (p0.Op == 7) then
     (idx p0.Kids 0).bind fun x43 =>
     (self_condition_tell x43 p1).bind fun x46 =>
     some (IntKind.i64.wrap (0 - x46))
    else
     (p1 p0).bind fun x50 =>
     some x50

def condition_tell : Nat → ACond → (ACond → Option Int) → Option Int
 | 0, _, _ => none
 | d + 1, p0, p1 => condition_tell_s d (condition_tell d) p0 p1

def condition_Holds_c1 (p0 : ACond) (q0 : ASchema) (q1 : (List Int)) : Option Int :=
 (idx q1 p0.Column).bind fun x10 =>
 (condition_Atom q0 p0 x10).bind fun x12 =>
 some x12

def condition_Holds (d : Nat) (p0 : ASchema) (p1 : ACond) (p2 : (List Int)) : Option Int :=
 (condition_tell d p1 (fun a0 => condition_Holds_c1 a0 p0 p2)).bind fun x9 =>
 some x9

def condition_Told_b2 (p2 : (List APick)) (p3 : (List Int)) (p0 : ASchema) (kont2_2 : (Int → (List Int) → Option Int)) (rec2 : ((Int × (List Int)) → Option Int)) (v36_2 : Int) (b18_2 : (List Int)) : Option Int :=
 bif (decide (v36_2 < ((p2.length : Nat) : Int))) then
  (idx p2 v36_2).bind fun x39 =>
  (idx p3 v36_2).bind fun x49 =>
  (schema_Some p0 x39.Column x39.Level x49).bind fun x51 =>
  bif (!x51.2) then
   some 0
  else
   (idx b18_2 x39.Column).bind fun x60 =>
   rec2 ((IntKind.i64.wrap (v36_2 + 1)), (b18_2.set (x39.Column : Int).toNat x51.1))
 else
  kont2_2 v36_2 b18_2

def condition_Told_j1 (p2 : (List APick)) (p3 : (List Int)) (p0 : ASchema) (d : Nat) (p1 : ACond) (k18_1 : (List Int)) : Option Int :=
 iter (fun rec2 s => condition_Told_b2 p2 p3 p0 (fun v36_2 b18_2 => (condition_Holds d p0 p1 b18_2).bind fun x65 => some x65) rec2 s.1 s.2) FUEL (0, k18_1)

def condition_Told_b1 (p0 : ASchema) (kont1_0 : (Int → (List Int) → Option Int)) (rec1 : ((Int × (List Int)) → Option Int)) (v10_1 : Int) (b18_1 : (List Int)) : Option Int :=
 bif (decide (v10_1 < ((b18_1.length : Nat) : Int))) then
  (schema_Some p0 v10_1 0 0).bind fun x30 =>
  (idx b18_1 v10_1).bind fun x33 =>
  rec1 ((IntKind.i64.wrap (v10_1 + 1)), (b18_1.set (v10_1 : Int).toNat x30.1))
 else
  kont1_0 v10_1 b18_1

def condition_Told (d : Nat) (p0 : ASchema) (p1 : ACond) (p2 : (List APick)) (p3 : (List Int)) : Option Int :=
 bif (decide (0 ≤ ((p0.Columns.length : Nat) : Int)) && rm (((p0.Columns.length : Nat) : Int) : Int).toNat 0) then
  iter (fun rec1 s => condition_Told_b1 p0 (fun v10_1 b18_1 => condition_Told_j1 p2 p3 p0 d p1 b18_1) rec1 s.1 s.2) FUEL (1, (List.replicate (((p0.Columns.length : Nat) : Int) : Int).toNat 0))
 else none

def tabulate_Holding_b1 (p1 : AExtract) (d : Nat) (p0 : ASchema) (p2 : ACond) (kont1_0 : (Int → (List Int) → Option (List Int))) (rec1 : ((Int × (List Int)) → Option (List Int))) (v26_1 : Int) (b7_1 : (List Int)) : Option (List Int) :=
 bif (decide (v26_1 < ((p1.Rows.length : Nat) : Int))) then
  (idx p1.Rows v26_1).bind fun x29 =>
  bif (decide (0 ≤ (1 : Int) ∧ 1 ≤ ((x29.length : Nat) : Int) ∧ ((x29.length : Nat) : Int) ≤ ((x29.length : Nat) : Int))) then
   (condition_Told d p0 p2 p1.Picks (cut x29 1 ((x29.length : Nat) : Int))).bind fun x37 =>
   bif (x37 == 1) then
    bif rm b7_1.length [v26_1].length then
     rec1 ((IntKind.i64.wrap (v26_1 + 1)), (b7_1 ++ [v26_1]))
    else none
   else
    rec1 ((IntKind.i64.wrap (v26_1 + 1)), b7_1)
  else none
 else
  kont1_0 v26_1 b7_1

def tabulate_Holding_j1 (p1 : AExtract) (d : Nat) (p0 : ASchema) (p2 : ACond) : Option (List Int) :=
 iter (fun rec1 s => tabulate_Holding_b1 p1 d p0 p2 (fun v26_1 b7_1 => some b7_1) rec1 s.1 s.2) FUEL (0, [])

def tabulate_Holding (d : Nat) (p0 : ASchema) (p1 : AExtract) (p2 : ACond) : Option (List Int) :=
 (condition_Check d p0 p2).bind fun x12 =>
 bif (x12 != 0) then
  some []
 else
  (condition_Needs d p0 p2).bind fun x19 =>
  (condition_Covers p1.Picks x19).bind fun x20 =>
  bif (!x20) then
   some []
  else
   tabulate_Holding_j1 p1 d p0 p2

def extract_Known_c1 (p0 : APick) (q0 : Int) : Option Bool :=
 some (p0.Column == q0)

def schema_turnCode_b1 (x19 : (List Int)) (p0 : ACodeList) (p1 : Int) (p2 : Int) (p3 : Int) (kont1_0 : (Int → Bool → Int → Option (Int × Bool))) (rec1 : ((Int × Bool × Int) → Option (Int × Bool))) (v10_1 : Int) (v11_1 : Bool) (v21_1 : Int) : Option (Int × Bool) :=
 bif (decide (v21_1 < ((x19.length : Nat) : Int))) then
  (idx x19 v21_1).bind fun x23 =>
  (codes_Up p0 x23 p1).bind fun x28 =>
  bif (x28 != p2) then
   rec1 (v10_1, v11_1, (IntKind.i64.wrap (v21_1 + 1)))
  else
   (codes_Up p0 x23 p3).bind fun x34 =>
   bif (bif v11_1 then (x34 != v10_1) else false) then
    some (0, false)
   else
    rec1 (x34, true, (IntKind.i64.wrap (v21_1 + 1)))
 else
  kont1_0 v10_1 v11_1 v21_1

def schema_turnCode (p0 : ACodeList) (p1 : Int) (p2 : Int) (p3 : Int) : Option (Int × Bool) :=
 (codes_Levels p0).bind fun x17 =>
 (codes_At p0 (IntKind.i64.wrap (x17 - 1))).bind fun x19 =>
 iter (fun rec1 s => schema_turnCode_b1 x19 p0 p1 p2 p3 (fun v10_1 v11_1 v21_1 => some (v10_1, v11_1)) rec1 s.1 s.2.1 s.2.2) FUEL (0, false, 0)

def schema_turnMeasure (p0 : AColumn) (p1 : Int) (p2 : Int) (p3 : Int) : Option (Int × Bool) :=
 bif (bif (decide (p1 > 0)) then (p2 == (-1099511627776)) else false) then
  bif (p3 == 0) then
   some (0, p0.Optional)
  else
   some (p2, p0.Optional)
 else
  (schema_span p0 p1 p2).bind fun x31 =>
  bif (!x31.2.2) then
   some (0, false)
  else
   bif (p3 == 0) then
    some (0, true)
   else
    bif (bif (p1 == 0) then p0.Optional else false) then
     some (0, false)
    else
     (schema_width p0 p3).bind fun x50 =>
     (schema_down x31.1 x50).bind fun x53 =>
     (schema_down x31.1 x50).bind fun x56 =>
     (schema_down x31.2.1 x50).bind fun x59 =>
     some (x53, (x56 == x59))

def schema_Turned (p0 : ASchema) (p1 : Int) (p2 : Int) (p3 : Int) (p4 : Int) : Option (Int × Bool) :=
 (schema_finest p0 p1).bind fun x18 =>
 bif (bif (bif (bif (decide (p2 < 0)) then true else (decide (p2 > x18))) then true else (decide (p4 < 0))) then true else (decide (p4 > x18))) then
  some (0, false)
 else
  (idx p0.Columns p1).bind fun x38 =>
  bif (x38.Kind == 2) then
   (idx p0.Lists x38.List_).bind fun x48 =>
   (schema_turnCode x48 p2 p3 p4).bind fun x53 =>
   bif (!x53.2) then
    some (0, false)
   else
    some (x53.1, true)
  else
   (schema_turnMeasure x38 p2 p3 p4).bind fun x61 =>
   bif (!x61.2) then
    some (0, false)
   else
    some (x61.1, true)

def extract_Known (p0 : ASchema) (p1 : AExtract) (p2 : Int) (p3 : Int) (p4 : Int) : Option (Int × Bool) :=
 (slices_IndexFunc_Lapi_Pick_api_Pick p1.Picks (fun a0 => extract_Known_c1 a0 p3)).bind fun x16 =>
 bif (decide (x16 < 0)) then
  (schema_Turned p0 p3 0 0 p4).bind fun x22 =>
  some (x22.1, x22.2)
 else
  (idx p1.Picks x16).bind fun x30 =>
  (idx p1.Rows p2).bind fun x36 =>
  (idx x36 (IntKind.i64.wrap (x16 + 1))).bind fun x40 =>
  (schema_Turned p0 p3 x30.Level x40 p4).bind fun x43 =>
  some (x43.1, x43.2)

def plot_large (p0 : Int) : Option Bool :=
 some (bif (decide (p0 < (-1000000))) then true else (decide (p0 > 1000000)))

def plot_down (p0 : Int) (p1 : Int) : Option Int :=
 bif (decide (p1 ≠ 0)) then
  bif (decide ((Int.tmod p0 p1) < 0)) then
   some (IntKind.i64.wrap (p0 - (IntKind.i64.wrap ((Int.tmod p0 p1) + p1))))
  else
   some (IntKind.i64.wrap (p0 - (Int.tmod p0 p1)))
 else none

def plot_Bins_b1 (x30 : (List Int)) (p1 : Int) (kont1_1 : (Int → (List ABin) → Option ((List ABin) × Int))) (rec1 : ((Int × (List ABin)) → Option ((List ABin) × Int))) (v33_1 : Int) (b7_1 : (List ABin)) : Option ((List ABin) × Int) :=
 bif (decide (v33_1 < ((x30.length : Nat) : Int))) then
  (idx x30 v33_1).bind fun x35 =>
  (plot_down x35 p1).bind fun x39 =>
  bif (((b7_1.length : Nat) : Int) == 0) then
   bif rm b7_1.length [({ Low := x39, Count := 0 } : ABin)].length then
    (idx (b7_1 ++ [({ Low := x39, Count := 0 } : ABin)]) (IntKind.i64.wrap ((((b7_1 ++ [({ Low := x39, Count := 0 } : ABin)]).length : Nat) : Int) - 1))).bind fun x63 =>
    (idx (b7_1 ++ [({ Low := x39, Count := 0 } : ABin)]) (IntKind.i64.wrap ((((b7_1 ++ [({ Low := x39, Count := 0 } : ABin)]).length : Nat) : Int) - 1))).bind fun x67 =>
    rec1 ((IntKind.i64.wrap (v33_1 + 1)), ((b7_1 ++ [({ Low := x39, Count := 0 } : ABin)]).set ((IntKind.i64.wrap ((((b7_1 ++ [({ Low := x39, Count := 0 } : ABin)]).length : Nat) : Int) - 1)) : Int).toNat ({ Low := x67.Low, Count := (IntKind.i64.wrap (x63.Count + 1)) } : ABin)))
   else none
  else
   (idx b7_1 (IntKind.i64.wrap (((b7_1.length : Nat) : Int) - 1))).bind fun x48 =>
   bif (x48.Low != x39) then
    bif rm b7_1.length [({ Low := x39, Count := 0 } : ABin)].length then
     (idx (b7_1 ++ [({ Low := x39, Count := 0 } : ABin)]) (IntKind.i64.wrap ((((b7_1 ++ [({ Low := x39, Count := 0 } : ABin)]).length : Nat) : Int) - 1))).bind fun x63 =>
     (idx (b7_1 ++ [({ Low := x39, Count := 0 } : ABin)]) (IntKind.i64.wrap ((((b7_1 ++ [({ Low := x39, Count := 0 } : ABin)]).length : Nat) : Int) - 1))).bind fun x67 =>
     rec1 ((IntKind.i64.wrap (v33_1 + 1)), ((b7_1 ++ [({ Low := x39, Count := 0 } : ABin)]).set ((IntKind.i64.wrap ((((b7_1 ++ [({ Low := x39, Count := 0 } : ABin)]).length : Nat) : Int) - 1)) : Int).toNat ({ Low := x67.Low, Count := (IntKind.i64.wrap (x63.Count + 1)) } : ABin)))
    else none
   else
    (idx b7_1 (IntKind.i64.wrap (((b7_1.length : Nat) : Int) - 1))).bind fun x63 =>
    (idx b7_1 (IntKind.i64.wrap (((b7_1.length : Nat) : Int) - 1))).bind fun x67 =>
    rec1 ((IntKind.i64.wrap (v33_1 + 1)), (b7_1.set ((IntKind.i64.wrap (((b7_1.length : Nat) : Int) - 1)) : Int).toNat ({ Low := x67.Low, Count := (IntKind.i64.wrap (x63.Count + 1)) } : ABin)))
 else
  kont1_1 v33_1 b7_1

def plot_Bins_j1 (p0 : (List Int)) (p1 : Int) : Option ((List ABin) × Int) :=
 (slices_Clone_Lint_int p0).bind fun x28 =>
 (slices_Sort_Lint_int x28).bind fun x30 =>
 iter (fun rec1 s => plot_Bins_b1 x30 p1 (fun v33_1 b7_1 => some (b7_1, 0)) rec1 s.1 s.2) FUEL (0, [])

def plot_Bins (p0 : (List Int)) (p1 : Int) : Option ((List ABin) × Int) :=
 bif (decide (((p0.length : Nat) : Int) > 200)) then
  some ([], 1)
 else
  bif (bif (decide (p1 < 1)) then true else (decide (p1 > 1000000))) then
   some ([], 2)
  else
   (slices_ContainsFunc_Lint_int p0 plot_large).bind fun x25 =>
   bif x25 then
    some ([], 2)
   else
    plot_Bins_j1 p0 p1

def tabulate_Keys_b1 (p1 : (List Int)) (p0 : AExtract) (kont1_0 : (Int → (List Int) → Option (List Int))) (rec1 : ((Int × (List Int)) → Option (List Int))) (v10_1 : Int) (b5_1 : (List Int)) : Option (List Int) :=
 bif (decide (v10_1 < ((p1.length : Nat) : Int))) then
  (idx p1 v10_1).bind fun x12 =>
  (idx p0.Rows x12).bind fun x18 =>
  (idx x18 0).bind fun x20 =>
  bif rm b5_1.length [x20].length then
   rec1 ((IntKind.i64.wrap (v10_1 + 1)), (b5_1 ++ [x20]))
  else none
 else
  kont1_0 v10_1 b5_1

def tabulate_Keys (p0 : AExtract) (p1 : (List Int)) : Option (List Int) :=
 iter (fun rec1 s => tabulate_Keys_b1 p1 p0 (fun v10_1 b5_1 => some b5_1) rec1 s.1 s.2) FUEL (0, [])

def plot_Hist_k1 (p3 : Int) (p1 : AExtract) (v37_1 : Int) (b14_1 : (List Int)) (b15_1 : (List Int)) : Option ((List ABin) × (List Int) × Int) :=
 (plot_Bins b15_1 p3).bind fun x70 =>
 bif (x70.2 != 0) then
  some ([], [], x70.2)
 else
  (tabulate_Keys p1 b14_1).bind fun x79 =>
  some (x70.1, x79, 0)

def plot_Hist_b1 (x35 : (List Int)) (p0 : ASchema) (p2 : Int) (p3 : Int) (p1 : AExtract) (kont1_0 : (Int → (List Int) → (List Int) → Option ((List ABin) × (List Int) × Int))) (rec1 : ((Int × (List Int) × (List Int)) → Option ((List ABin) × (List Int) × Int))) (v37_1 : Int) (b14_1 : (List Int)) (b15_1 : (List Int)) : Option ((List ABin) × (List Int) × Int) :=
 bif (decide (v37_1 < ((x35.length : Nat) : Int))) then
  (idx x35 v37_1).bind fun x39 =>
  (types_LevelOf p0 p2 p3).bind fun x49 =>
  (extract_Known p0 p1 x39 p2 x49).bind fun x50 =>
  bif (bif x50.2 then (x50.1 != (-1099511627776)) else false) then
   bif rm b14_1.length [x39].length then
    bif rm b15_1.length [x50.1].length then
     rec1 ((IntKind.i64.wrap (v37_1 + 1)), (b14_1 ++ [x39]), (b15_1 ++ [x50.1]))
    else none
   else none
  else
   rec1 ((IntKind.i64.wrap (v37_1 + 1)), b14_1, b15_1)
 else
  kont1_0 v37_1 b14_1 b15_1

def plot_Hist (d : Nat) (p0 : ASchema) (p1 : AExtract) (p2 : Int) (p3 : Int) (p4 : ACond) : Option ((List ABin) × (List Int) × Int) :=
 (plot_usable d p0 p1 ({ Op := 13, Num := p3, Name := ByteArray.empty, Column := p2, Columns := [], Dims := [], Cond := p4, Event := ({ Op := 0, Column := 0, Code := 0, Low := 0, High := 0, Kids := [] } : ACond), Kids := [] } : AExpr)).bind fun x28 =>
 bif (x28 != 0) then
  some ([], [], x28)
 else
  (tabulate_Holding d p0 p1 p4).bind fun x35 =>
  iter (fun rec1 s => plot_Hist_b1 x35 p0 p2 p3 p1 (plot_Hist_k1 p3 p1) rec1 s.1 s.2.1 s.2.2) FUEL (0, [], [])

def ref21_Same_b1 (p0 : (List ABin)) (p1 : (List ABin)) (kont1_0 : (Int → Option Bool)) (rec1 : (Int → Option Bool)) (v5_1 : Int) : Option Bool :=
 bif (decide (v5_1 < ((p0.length : Nat) : Int))) then
  (idx p0 v5_1).bind fun x19 =>
  (idx p1 v5_1).bind fun x23 =>
  bif (!((x19.Low == x23.Low) && ((x19.Count == x23.Count) && true))) then
   some false
  else
   rec1 (IntKind.i64.wrap (v5_1 + 1))
 else
  kont1_0 v5_1

def ref21_Same (p0 : (List ABin)) (p1 : (List ABin)) : Option Bool :=
 bif (((p0.length : Nat) : Int) != ((p1.length : Nat) : Int)) then
  some false
 else
  iter (fun rec1 s => ref21_Same_b1 p0 p1 (fun v5_1 => some true) rec1 s) FUEL 0

def ref01_Ints_b1 (p0 : (List Int)) (p1 : (List Int)) (kont1_0 : (Int → Option Bool)) (rec1 : (Int → Option Bool)) (v5_1 : Int) : Option Bool :=
 bif (decide (v5_1 < ((p0.length : Nat) : Int))) then
  (idx p0 v5_1).bind fun x19 =>
  (idx p1 v5_1).bind fun x23 =>
  bif (x19 != x23) then
   some false
  else
   rec1 (IntKind.i64.wrap (v5_1 + 1))
 else
  kont1_0 v5_1

def ref01_Ints (p0 : (List Int)) (p1 : (List Int)) : Option Bool :=
 bif (((p0.length : Nat) : Int) != ((p1.length : Nat) : Int)) then
  some false
 else
  iter (fun rec1 s => ref01_Ints_b1 p0 p1 (fun v5_1 => some true) rec1 s) FUEL 0

def ref19_Keys_b1 (p1 : (List Int)) (p0 : AExtract) (kont1_0 : (Int → (List Int) → Option (List Int))) (rec1 : ((Int × (List Int)) → Option (List Int))) (v6_1 : Int) (b5_1 : (List Int)) : Option (List Int) :=
 bif (decide (v6_1 < ((p1.length : Nat) : Int))) then
  (idx p1 v6_1).bind fun x18 =>
  (idx p0.Rows x18).bind fun x20 =>
  (idx x20 0).bind fun x22 =>
  bif rm b5_1.length [x22].length then
   rec1 ((IntKind.i64.wrap (v6_1 + 1)), (b5_1 ++ [x22]))
  else none
 else
  kont1_0 v6_1 b5_1

def ref19_Keys (p0 : AExtract) (p1 : (List Int)) : Option (List Int) :=
 iter (fun rec1 s => ref19_Keys_b1 p1 p0 (fun v6_1 b5_1 => some b5_1) rec1 s.1 s.2) FUEL (0, [])

def ref02_Block_j1 (p2 : Int) (p0 : AColumn) (x22 : Int) : Option (Int × Int × Bool) :=
 some ((if p2 > p0.Low then p2 else p0.Low), (if (IntKind.i64.wrap ((IntKind.i64.wrap (p2 + x22)) - 1)) < p0.High then (IntKind.i64.wrap ((IntKind.i64.wrap (p2 + x22)) - 1)) else p0.High), (decide ((if p2 > p0.Low then p2 else p0.Low) ≤ (if (IntKind.i64.wrap ((IntKind.i64.wrap (p2 + x22)) - 1)) < p0.High then (IntKind.i64.wrap ((IntKind.i64.wrap (p2 + x22)) - 1)) else p0.High))))

def ref02_Block (p0 : AColumn) (p1 : Int) (p2 : Int) : Option (Int × Int × Bool) :=
 bif (p1 == 0) then
  some (p0.Low, p0.High, (p2 == 0))
 else
  (ref02_Width p0 p1).bind fun x22 =>
  bif (p2 == (-1099511627776)) then
   some (0, 0, false)
  else
   (ref02_in p2 (-2000000) 2000000).bind fun x27 =>
   bif (!x27) then
    some (0, 0, false)
   else
    bif (decide (x22 ≠ 0)) then
     bif ((Int.tmod p2 x22) != 0) then
      some (0, 0, false)
     else
      ref02_Block_j1 p2 p0 x22
    else none

def ref02_Can_b1 (x31 : (List Int)) (p0 : ASchema) (p1 : Int) (p2 : Int) (p3 : Int) (kont1_0 : (Int → Option Bool)) (rec1 : (Int → Option Bool)) (v11_1 : Int) : Option Bool :=
 bif (decide (v11_1 < ((x31.length : Nat) : Int))) then
  (idx x31 v11_1).bind fun x43 =>
  (ref02_Coarse p0 p1 p2 x43).bind fun x45 =>
  bif (x45 == p3) then
   some true
  else
   rec1 (IntKind.i64.wrap (v11_1 + 1))
 else
  kont1_0 v11_1

def ref02_Can (p0 : ASchema) (p1 : Int) (p2 : Int) (p3 : Int) : Option Bool :=
 (ref02_Finest p0 p1).bind fun x18 =>
 (ref02_in p2 0 x18).bind fun x19 =>
 bif (!x19) then
  some false
 else
  (idx p0.Columns p1).bind fun x24 =>
  bif (x24.Kind == 2) then
   (ref02_Leaves p0 p1).bind fun x31 =>
   iter (fun rec1 s => ref02_Can_b1 x31 p0 p1 p2 p3 (fun v11_1 => some false) rec1 s) FUEL 0
  else
   bif (bif (decide (p2 > 0)) then (p3 == (-1099511627776)) else false) then
    some x24.Optional
   else
    (ref02_Block x24 p2 p3).bind fun x60 =>
    some x60.2.2

def ref13_Check_k1 (v7_1 : Int) (x48 : (List Int)) (p1 : AExtract) (rec1 : (Int → Option Int)) (v9_2 : Int) : Option Int :=
 bif (decide (v7_1 > 0)) then
  (idx x48 0).bind fun x100 =>
  (idx p1.Rows (IntKind.i64.wrap (v7_1 - 1))).bind fun x106 =>
  (idx x106 0).bind fun x108 =>
  bif (decide (x100 ≤ x108)) then
   some 10
  else
   rec1 (IntKind.i64.wrap (v7_1 + 1))
 else
  rec1 (IntKind.i64.wrap (v7_1 + 1))

def ref13_Check_b2 (p1 : AExtract) (x48 : (List Int)) (p0 : ASchema) (kont2_2 : (Int → Option Int)) (rec2 : (Int → Option Int)) (v9_2 : Int) : Option Int :=
 bif (decide (v9_2 < ((p1.Picks.length : Nat) : Int))) then
  (idx p1.Picks v9_2).bind fun x80 =>
  (idx p1.Picks v9_2).bind fun x86 =>
  (idx x48 (IntKind.i64.wrap (v9_2 + 1))).bind fun x92 =>
  (ref02_Can p0 x80.Column x86.Level x92).bind fun x94 =>
  bif (!x94) then
   some 9
  else
   rec2 (IntKind.i64.wrap (v9_2 + 1))
 else
  kont2_2 v9_2

def ref13_Check_j1 (p1 : AExtract) (x48 : (List Int)) (p0 : ASchema) (v7_1 : Int) (rec1 : (Int → Option Int)) : Option Int :=
 iter (fun rec2 s => ref13_Check_b2 p1 x48 p0 (ref13_Check_k1 v7_1 x48 p1 rec1) rec2 s) FUEL 0

def ref13_Check_b1 (p1 : AExtract) (p0 : ASchema) (kont1_0 : (Int → Option Int)) (rec1 : (Int → Option Int)) (v7_1 : Int) : Option Int :=
 bif (decide (v7_1 < ((p1.Rows.length : Nat) : Int))) then
  (idx p1.Rows v7_1).bind fun x48 =>
  bif (((x48.length : Nat) : Int) != (IntKind.i64.wrap (((p1.Picks.length : Nat) : Int) + 1))) then
   some 9
  else
   (idx x48 0).bind fun x59 =>
   bif (decide (x59 < 0)) then
    some 9
   else
    (idx x48 0).bind fun x65 =>
    bif (decide (x65 > 1048575)) then
     some 9
    else
     ref13_Check_j1 p1 x48 p0 v7_1 rec1
 else
  kont1_0 v7_1

def ref13_Check (p0 : ASchema) (p1 : AExtract) : Option Int :=
 (ref02_Check p0).bind fun x11 =>
 bif (x11 != 0) then
  some x11
 else
  (ref01_Name p1.Project).bind fun x17 =>
  bif (!x17) then
   some 3
  else
   bif (bif (decide (p1.Version < 0)) then true else (decide (p1.Version > 300))) then
    some 13
   else
    (ref02_Picks p0 p1.Picks).bind fun x30 =>
    bif (x30 != 0) then
     some x30
    else
     bif (decide (((p1.Rows.length : Nat) : Int) > 200)) then
      some 1
     else
      iter (fun rec1 s => ref13_Check_b1 p1 p0 (fun v7_1 => some 0) rec1 s) FUEL 0

def ref05_some_b1 (x25 : (List Int)) (p0 : ASchema) (p1 : Int) (p2 : Int) (p3 : Int) (kont1_0 : (Int → Option Int)) (rec1 : (Int → Option Int)) (v11_1 : Int) : Option Int :=
 bif (decide (v11_1 < ((x25.length : Nat) : Int))) then
  (idx x25 v11_1).bind fun x37 =>
  (ref02_Coarse p0 p1 p2 x37).bind fun x39 =>
  bif (x39 == p3) then
   (idx x25 v11_1).bind fun x44 =>
   some x44
  else
   rec1 (IntKind.i64.wrap (v11_1 + 1))
 else
  kont1_0 v11_1

def ref05_some (p0 : ASchema) (p1 : Int) (p2 : Int) (p3 : Int) : Option Int :=
 (idx p0.Columns p1).bind fun x18 =>
 bif (x18.Kind == 2) then
  (ref02_Leaves p0 p1).bind fun x25 =>
  iter (fun rec1 s => ref05_some_b1 x25 p0 p1 p2 p3 (fun v11_1 => some (-1)) rec1 s) FUEL 0
 else
  bif (bif (decide (p2 > 0)) then (p3 == (-1099511627776)) else false) then
   some p3
  else
   (ref02_Block x18 p2 p3).bind fun x57 =>
   some x57.1

def ref05_coarse_b1 (p2 : (List APick)) (p1 : ACond) (p3 : (List Int)) (kont1_0 : (Int → Int → Int → Option Int)) (rec1 : ((Int × Int × Int) → Option Int)) (v9_1 : Int) (v10_1 : Int) (v11_1 : Int) : Option Int :=
 bif (decide (v11_1 < ((p2.length : Nat) : Int))) then
  (idx p2 v11_1).bind fun x35 =>
  bif (x35.Column == p1.Column) then
   (idx p2 v11_1).bind fun x43 =>
   (idx p3 v11_1).bind fun x48 =>
   rec1 (x43.Level, x48, (IntKind.i64.wrap (v11_1 + 1)))
  else
   rec1 (v9_1, v10_1, (IntKind.i64.wrap (v11_1 + 1)))
 else
  kont1_0 v9_1 v10_1 v11_1

def ref05_coarse_b2 (p1 : ACond) (self_ref05_coarse : (ASchema → ACond → (List APick) → (List Int) → Option Int)) (p0 : ASchema) (p2 : (List APick)) (p3 : (List Int)) (kont2_2 : (Int → (List Int) → Option Int)) (rec2 : ((Int × (List Int)) → Option Int)) (v13_2 : Int) (b12_2 : (List Int)) : Option Int :=
 bif (decide (v13_2 < ((p1.Kids.length : Nat) : Int))) then
  (idx p1.Kids v13_2).bind fun x71 =>
  (self_ref05_coarse p0 x71 p2 p3).bind fun x75 =>
  bif rm b12_2.length [x75].length then
   rec2 ((IntKind.i64.wrap (v13_2 + 1)), (b12_2 ++ [x75]))
  else none
 else
  kont2_2 v13_2 b12_2

def ref05_coarse_s (d : Nat) (self_ref05_coarse : (ASchema → ACond → (List APick) → (List Int) → Option Int)) (p0 : ASchema) (p1 : ACond) (p2 : (List APick)) (p3 : (List Int)) : Option Int :=
 bif (bif (bif (p1.Op == 2) then true else (p1.Op == 3)) then true else (p1.Op == 4)) then
  iter (fun rec1 s => ref05_coarse_b1 p2 p1 p3 (fun v9_1 v10_1 v11_1 => (ref05_some p0 p1.Column v9_1 v10_1).bind fun x57 => (ref05_Atom p0 p1 x57).bind fun x58 => some x58) rec1 s.1 s.2.1 s.2.2) FUEL (0, 0, 0)
 else
  iter (fun rec2 s => ref05_coarse_b2 p1 self_ref05_coarse p0 p2 p3 (fun v13_2 b12_2 => (ref05_join p1.Op b12_2).bind fun x81 => some x81) rec2 s.1 s.2) FUEL (0, [])

def ref05_coarse : Nat → ASchema → ACond → (List APick) → (List Int) → Option Int
 | 0, _, _, _, _ => none
 | d + 1, p0, p1, p2, p3 => ref05_coarse_s d (ref05_coarse d) p0 p1 p2 p3

def ref05_Coarse_b1 (p2 : (List APick)) (p3 : (List Int)) (p0 : ASchema) (kont1_0 : (Int → Option Int)) (rec1 : (Int → Option Int)) (v9_1 : Int) : Option Int :=
 bif (decide (v9_1 < ((p2.length : Nat) : Int))) then
  (idx p2 v9_1).bind fun x44 =>
  (idx p2 v9_1).bind fun x49 =>
  (idx p3 v9_1).bind fun x54 =>
  (ref02_Can p0 x44.Column x49.Level x54).bind fun x56 =>
  bif (!x56) then
   some 0
  else
   rec1 (IntKind.i64.wrap (v9_1 + 1))
 else
  kont1_0 v9_1

def ref05_Coarse_j1 (p2 : (List APick)) (p3 : (List Int)) (p0 : ASchema) (d : Nat) (p1 : ACond) : Option Int :=
 iter (fun rec1 s => ref05_Coarse_b1 p2 p3 p0 (fun v9_1 => (ref05_coarse d p0 p1 p2 p3).bind fun x62 => some x62) rec1 s) FUEL 0

def ref05_Coarse (d : Nat) (p0 : ASchema) (p1 : ACond) (p2 : (List APick)) (p3 : (List Int)) : Option Int :=
 (ref05_Check d p0 p1).bind fun x12 =>
 bif (x12 != 0) then
  some 0
 else
  (ref02_Picks p0 p2).bind fun x17 =>
  bif (bif (x17 != 0) then true else (((p3.length : Nat) : Int) != ((p2.length : Nat) : Int))) then
   some 0
  else
   (ref05_Needs d p0 p1).bind fun x30 =>
   (ref05_Covers x30 p2).bind fun x32 =>
   bif (!x32) then
    some 0
   else
    ref05_Coarse_j1 p2 p3 p0 d p1

def ref02_Turn_b1 (x46 : (List Int)) (p0 : ASchema) (p1 : Int) (p2 : Int) (p3 : Int) (p4 : Int) (kont1_0 : (Int → Int → Option (Int × Bool))) (rec1 : ((Int × Int) → Option (Int × Bool))) (v14_1 : Int) (v15_1 : Int) : Option (Int × Bool) :=
 bif (decide (v15_1 < ((x46.length : Nat) : Int))) then
  (idx x46 v15_1).bind fun x58 =>
  (ref02_Coarse p0 p1 p2 x58).bind fun x60 =>
  bif (x60 != p3) then
   rec1 (v14_1, (IntKind.i64.wrap (v15_1 + 1)))
  else
   (idx x46 v15_1).bind fun x68 =>
   (ref02_Coarse p0 p1 p4 x68).bind fun x70 =>
   bif (bif (decide (v14_1 ≥ 0)) then (x70 != v14_1) else false) then
    some (0, false)
   else
    rec1 (x70, (IntKind.i64.wrap (v15_1 + 1)))
 else
  kont1_0 v14_1 v15_1

def ref02_Turn_j1 (p0 : ASchema) (p1 : Int) (p2 : Int) (p3 : Int) (p4 : Int) : Option (Int × Bool) :=
 (idx p0.Columns p1).bind fun x39 =>
 bif (x39.Kind == 2) then
  (ref02_Leaves p0 p1).bind fun x46 =>
  iter (fun rec1 s => ref02_Turn_b1 x46 p0 p1 p2 p3 p4 (fun v14_1 v15_1 => some (v14_1, true)) rec1 s.1 s.2) FUEL ((-1), 0)
 else
  bif (p4 == 0) then
   some (0, true)
  else
   bif (bif (decide (p2 > 0)) then (p3 == (-1099511627776)) else false) then
    some ((-1099511627776), true)
   else
    bif (bif (p2 == 0) then x39.Optional else false) then
     some (0, false)
    else
     (ref02_Block x39 p2 p3).bind fun x98 =>
     (ref02_Coarse p0 p1 p4 x98.1).bind fun x106 =>
     (ref02_Coarse p0 p1 p4 x98.2.1).bind fun x111 =>
     bif (x106 != x111) then
      some (0, false)
     else
      some (x106, true)

def ref02_Turn (p0 : ASchema) (p1 : Int) (p2 : Int) (p3 : Int) (p4 : Int) : Option (Int × Bool) :=
 (ref02_Can p0 p1 p2 p3).bind fun x26 =>
 bif (!x26) then
  some (0, false)
 else
  (ref02_Finest p0 p1).bind fun x32 =>
  (ref02_in p4 0 x32).bind fun x33 =>
  bif (!x33) then
   some (0, false)
  else
   ref02_Turn_j1 p0 p1 p2 p3 p4

def ref13_Inner_b1 (p1 : AExtract) (p3 : Int) (p2 : Int) (p0 : ASchema) (p4 : Int) (kont1_0 : (Int → Option (Int × Bool))) (rec1 : (Int → Option (Int × Bool))) (v12_1 : Int) : Option (Int × Bool) :=
 bif (decide (v12_1 < ((p1.Picks.length : Nat) : Int))) then
  (idx p1.Picks v12_1).bind fun x43 =>
  bif (x43.Column == p3) then
   (idx p1.Picks v12_1).bind fun x53 =>
   (idx p1.Rows p2).bind fun x59 =>
   (idx x59 (IntKind.i64.wrap (v12_1 + 1))).bind fun x63 =>
   (ref02_Turn p0 p3 x53.Level x63 p4).bind fun x66 =>
   some (x66.1, x66.2)
  else
   rec1 (IntKind.i64.wrap (v12_1 + 1))
 else
  kont1_0 v12_1

def ref13_Inner (p0 : ASchema) (p1 : AExtract) (p2 : Int) (p3 : Int) (p4 : Int) : Option (Int × Bool) :=
 bif (bif (bif (bif (decide (p2 < 0)) then true else (decide (p2 ≥ ((p1.Rows.length : Nat) : Int)))) then true else (decide (p3 < 1))) then true else (decide (p3 ≥ ((p0.Columns.length : Nat) : Int)))) then
  some (0, false)
 else
  iter (fun rec1 s => ref13_Inner_b1 p1 p3 p2 p0 p4 (fun v12_1 => (ref02_Turn p0 p3 0 0 p4).bind fun x72 => some (x72.1, x72.2)) rec1 s) FUEL 0

def ref18_Counts_k1 (b9_1 : (List Int)) (v10_1 : Int) (rec1 : ((Int × (List Int)) → Option (List Int))) (v11_2 : Bool) (v12_2 : Int) : Option (List Int) :=
 bif v11_2 then
  bif rm b9_1.length [v10_1].length then
   rec1 ((IntKind.i64.wrap (v10_1 + 1)), (b9_1 ++ [v10_1]))
  else none
 else
  rec1 ((IntKind.i64.wrap (v10_1 + 1)), b9_1)

def ref18_Counts_b2 (p3 : (List Int)) (p0 : ASchema) (p1 : AExtract) (v10_1 : Int) (kont2_2 : (Bool → Int → Option (List Int))) (rec2 : ((Bool × Int) → Option (List Int))) (v11_2 : Bool) (v12_2 : Int) : Option (List Int) :=
 bif (bif (decide (v12_2 < ((p3.length : Nat) : Int))) then v11_2 else false) then
  (idx p3 v12_2).bind fun x53 =>
  (idx p3 v12_2).bind fun x58 =>
  (ref02_Finest p0 x58).bind fun x60 =>
  (ref13_Inner p0 p1 v10_1 x53 x60).bind fun x61 =>
  rec2 ((bif x61.2 then (x61.1 != (-1099511627776)) else false), (IntKind.i64.wrap (v12_2 + 1)))
 else
  kont2_2 v11_2 v12_2

def ref18_Counts_b1 (p1 : AExtract) (d : Nat) (p0 : ASchema) (p2 : ACond) (p3 : (List Int)) (kont1_0 : (Int → (List Int) → Option (List Int))) (rec1 : ((Int × (List Int)) → Option (List Int))) (v10_1 : Int) (b9_1 : (List Int)) : Option (List Int) :=
 bif (decide (v10_1 < ((p1.Rows.length : Nat) : Int))) then
  (idx p1.Rows v10_1).bind fun x33 =>
  bif (decide (0 ≤ (1 : Int) ∧ 1 ≤ ((x33.length : Nat) : Int) ∧ ((x33.length : Nat) : Int) ≤ ((x33.length : Nat) : Int))) then
   (ref05_Coarse d p0 p2 p1.Picks (cut x33 1 ((x33.length : Nat) : Int))).bind fun x36 =>
   iter (fun rec2 s => ref18_Counts_b2 p3 p0 p1 v10_1 (ref18_Counts_k1 b9_1 v10_1 rec1) rec2 s.1 s.2) FUEL ((x36 == 1), 0)
  else none
 else
  kont1_0 v10_1 b9_1

def ref18_Counts (d : Nat) (p0 : ASchema) (p1 : AExtract) (p2 : ACond) (p3 : (List Int)) : Option (List Int) :=
 (ref13_Check p0 p1).bind fun x17 =>
 bif (x17 != 0) then
  some []
 else
  iter (fun rec1 s => ref18_Counts_b1 p1 d p0 p2 p3 (fun v10_1 b9_1 => some b9_1) rec1 s.1 s.2) FUEL (0, [])

def plot_Quartiles (p0 : (List Int)) : Option (ABox × Int) :=
 bif (decide (((p0.length : Nat) : Int) > 200)) then
  some (({ Count := 0, Least := 0, Lower := 0, Middle := 0, Upper := 0, Greatest := 0 } : ABox), 1)
 else
  (slices_ContainsFunc_Lint_int p0 plot_large).bind fun x14 =>
  bif x14 then
   some (({ Count := 0, Least := 0, Lower := 0, Middle := 0, Upper := 0, Greatest := 0 } : ABox), 2)
  else
   bif (((p0.length : Nat) : Int) == 0) then
    some (({ Count := 0, Least := 0, Lower := 0, Middle := 0, Upper := 0, Greatest := 0 } : ABox), 18)
   else
    (slices_Clone_Lint_int p0).bind fun x21 =>
    (slices_Sort_Lint_int x21).bind fun x23 =>
    (idx x23 0).bind fun x26 =>
    (idx x23 (IntKind.i64.wrap (Int.tdiv (IntKind.i64.wrap (((p0.length : Nat) : Int) - 1)) 4))).bind fun x32 =>
    (idx x23 (IntKind.i64.wrap (Int.tdiv (IntKind.i64.wrap (((p0.length : Nat) : Int) - 1)) 2))).bind fun x38 =>
    (idx x23 (IntKind.i64.wrap (Int.tdiv (IntKind.i64.wrap (3 * (IntKind.i64.wrap (((p0.length : Nat) : Int) - 1)))) 4))).bind fun x45 =>
    (idx x23 (IntKind.i64.wrap (((p0.length : Nat) : Int) - 1))).bind fun x50 =>
    some (({ Count := ((p0.length : Nat) : Int), Least := x26, Lower := x32, Middle := x38, Upper := x45, Greatest := x50 } : ABox), 0)

def law21_awake  : Option Bool :=
 (plot_Bins [1, 4, 5, (-1)] 5).bind fun x7 =>
 (plot_Quartiles [5, 1, 9, 3, 7]).bind fun x12 =>
 bif (x7.2 == 0) then
  (ref21_Same x7.1 [({ Low := (-5), Count := 1 } : ABin), ({ Low := 0, Count := 2 } : ABin), ({ Low := 5, Count := 1 } : ABin)]).bind fun x23 =>
  bif (bif x23 then (x12.2 == 0) else false) then
   some ((x12.1.Count == 5) && ((x12.1.Least == 1) && ((x12.1.Lower == 3) && ((x12.1.Middle == 5) && ((x12.1.Upper == 7) && ((x12.1.Greatest == 9) && true))))))
  else
   some false
 else
  some false

def law21_PlotCoarse_j1 (x38 : AColumn) (x44 : Int) (d : Nat) (x27 : (ASource × AExtract × DrawCodes)) (x34 : (Int × DrawCodes)) (k80_1 : (List (List Int))) : Option Bool :=
 (idx x38.Widths x44).bind fun x90 =>
 (plot_Hist d x27.1.Schema x27.2.1 x34.1 x90 ({ Op := 1, Column := 0, Code := 0, Low := 0, High := 0, Kids := [] } : ACond)).bind fun x93 =>
 (idx x38.Widths x44).bind fun x103 =>
 (plot_Hist d x27.1.Schema ({ Project := x27.2.1.Project, Version := x27.2.1.Version, Picks := [({ Column := x34.1, Level := (IntKind.i64.wrap (((x38.Widths.length : Nat) : Int) - x44)) } : APick)], Rows := k80_1 } : AExtract) x34.1 x103 ({ Op := 1, Column := 0, Code := 0, Low := 0, High := 0, Kids := [] } : ACond)).bind fun x106 =>
 bif (bif (x93.2.2 == 0) then (x106.2.2 == 0) else false) then
  (ref21_Same x93.1 x106.1).bind fun x119 =>
  bif x119 then
   (ref01_Ints x93.2.1 x106.2.1).bind fun x124 =>
   bif x124 then
    (ref18_Counts d x27.1.Schema x27.2.1 ({ Op := 1, Column := 0, Code := 0, Low := 0, High := 0, Kids := [] } : ACond) [x34.1]).bind fun x134 =>
    (ref19_Keys x27.2.1 x134).bind fun x135 =>
    (ref01_Ints x93.2.1 x135).bind fun x136 =>
    bif x136 then
     (law21_awake).bind fun x139 =>
     some x139
    else
     some false
   else
    some false
  else
   some false
 else
  some false

def law21_PlotCoarse_b1 (x27 : (ASource × AExtract × DrawCodes)) (x34 : (Int × DrawCodes)) (x38 : AColumn) (x44 : Int) (kont1_0 : (Int → (List (List Int)) → Option Bool)) (rec1 : ((Int × (List (List Int))) → Option Bool)) (v61_1 : Int) (b80_1 : (List (List Int))) : Option Bool :=
 bif (decide (v61_1 < ((x27.2.1.Rows.length : Nat) : Int))) then
  (idx x27.2.1.Rows v61_1).bind fun x63 =>
  (idx x63 0).bind fun x68 =>
  (idx x63 x34.1).bind fun x75 =>
  (ref02_Coarse x27.1.Schema x34.1 (IntKind.i64.wrap (((x38.Widths.length : Nat) : Int) - x44)) x75).bind fun x77 =>
  bif rm b80_1.length ([[x68, x77]]).length then
   rec1 ((IntKind.i64.wrap (v61_1 + 1)), (b80_1 ++ [[x68, x77]]))
  else none
 else
  kont1_0 v61_1 b80_1

def law21_PlotCoarse (d : Nat) (p0 : (List Int)) (p1 : Int) : Option Bool :=
 (draw_New p0).bind fun x24 =>
 (draw_Codes_Whole d x24 10).bind fun x27 =>
 (draw_Codes_Measured x27.2.2 x27.1.Schema).bind fun x34 =>
 (idx x27.1.Schema.Columns x34.1).bind fun x38 =>
 (draw_Mod p1 ((x38.Widths.length : Nat) : Int)).bind fun x44 =>
 iter (fun rec1 s => law21_PlotCoarse_b1 x27 x34 x38 x44 (fun v61_1 b80_1 => law21_PlotCoarse_j1 x38 x44 d x27 x34 b80_1) rec1 s.1 s.2) FUEL (0, [])
end Go.Proofs.YtejfnieiaecpkaaGreatDoor.P
