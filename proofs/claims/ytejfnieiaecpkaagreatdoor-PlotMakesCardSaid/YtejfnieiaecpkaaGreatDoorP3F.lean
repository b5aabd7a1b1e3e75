/- Printed by wip/tools/mkw.py: plain forms. -/
import Derived.Test.YtejfnieiaecpkaaGreatDoorWalk
import Derived.Test.YtejfnieiaecpkaaGreatDoorP3T
import Derived.Test.YtejfnieiaecpkaaGreatDoorWalkMap
import Derived.Test.YtejfnieiaecpkaaGreatDoorP3H
set_option linter.unusedSimpArgs false
namespace Go.Proofs.YtejfnieiaecpkaaGreatDoor.P
open Go.Abs Go.Proofs
set_option linter.unusedVariables false
def Hz (p0:(List Int)) (p1:Int) (kont1_0:(Int→Option Int)) (rec1:(Int→Option Int)) (v8_1:Int):Option Int :=
 bif (decide (v8_1 < ((p0.length:Nat):Int))) then
  (idx p0 v8_1).bind fun x14 =>
  bif (p1==x14) then
   some v8_1
  else
   rec1 (IntKind.i64.wrap (v8_1 + 1))
 else
  kont1_0 v8_1
def En (p0:(List Int)) (p1:Int):Option Int :=
 iter (fun rec1 s=>Hz p0 p1 (fun v8_1=>some (-1)) rec1 s) A6 0
def BZ (p0:(List Int)) (p1:Int):Option Bool :=
 (En p0 p1).bind fun x7 =>
 some (decide (x7 ≥ 0))
def D2 (p0:(List Ae)) (p1:(Ae→Option Bool)) (kont1_0:(Int→Option Int)) (rec1:(Int→Option Int)) (v8_1:Int):Option Int :=
 bif (decide (v8_1 < ((p0.length:Nat):Int))) then
  (idx p0 v8_1).bind fun x14 =>
  (p1 x14).bind fun x16 =>
  bif x16 then
   some v8_1
  else
   rec1 (IntKind.i64.wrap (v8_1 + 1))
 else
  kont1_0 v8_1
def Bj (p0:(List Ae)) (p1:(Ae→Option Bool)):Option Int :=
 iter (fun rec1 s=>D2 p0 p1 (fun v8_1=>some (-1)) rec1 s) A6 0
def Gw (p0:(List Int)) (p1:(Int→Option Bool)) (kont1_0:(Int→Option Int)) (rec1:(Int→Option Int)) (v8_1:Int):Option Int :=
 bif (decide (v8_1 < ((p0.length:Nat):Int))) then
  (idx p0 v8_1).bind fun x14 =>
  (p1 x14).bind fun x16 =>
  bif x16 then
   some v8_1
  else
   rec1 (IntKind.i64.wrap (v8_1 + 1))
 else
  kont1_0 v8_1
def Cw (p0:(List Int)) (p1:(Int→Option Bool)):Option Int :=
 iter (fun rec1 s=>Gw p0 p1 (fun v8_1=>some (-1)) rec1 s) A6 0
def Bu (p0:(List Int)) (p1:(Int→Option Bool)):Option Bool :=
 (Cw p0 p1).bind fun x7 =>
 some (decide (x7 ≥ 0))
def AM (p0:(List Ae)) (p1:(Ae→Option Bool)):Option Bool :=
 (Bj p0 p1).bind fun x7 =>
 some (decide (x7 ≥ 0))
def CA (p0:(List Am)) (p1:(Am→Option Bool)) (kont1_0:(Int→Option Int)) (rec1:(Int→Option Int)) (v8_1:Int):Option Int :=
 bif (decide (v8_1 < ((p0.length:Nat):Int))) then
  (idx p0 v8_1).bind fun x14 =>
  (p1 x14).bind fun x16 =>
  bif x16 then
   some v8_1
  else
   rec1 (IntKind.i64.wrap (v8_1 + 1))
 else
  kont1_0 v8_1
def Bw (p0:(List Am)) (p1:(Am→Option Bool)):Option Int :=
 iter (fun rec1 s=>CA p0 p1 (fun v8_1=>some (-1)) rec1 s) A6 0
def AU (p0:(List Am)) (p1:(Am→Option Bool)):Option Bool :=
 (Bw p0 p1).bind fun x7 =>
 some (decide (x7 ≥ 0))
def D3 (p0:(List AA)) (p1:(AA→Option Bool)) (kont1_0:(Int→Option Int)) (rec1:(Int→Option Int)) (v8_1:Int):Option Int :=
 bif (decide (v8_1 < ((p0.length:Nat):Int))) then
  (idx p0 v8_1).bind fun x14 =>
  (p1 x14).bind fun x16 =>
  bif x16 then
   some v8_1
  else
   rec1 (IntKind.i64.wrap (v8_1 + 1))
 else
  kont1_0 v8_1
def CE (p0:(List AA)) (p1:(AA→Option Bool)):Option Int :=
 iter (fun rec1 s=>D3 p0 p1 (fun v8_1=>some (-1)) rec1 s) A6 0
def AZ (p0:(List AA)) (p1:(AA→Option Bool)):Option Bool :=
 (CE p0 p1).bind fun x7 =>
 some (decide (x7 ≥ 0))
def Da (p0:(List Av)) (p1:(Av→Option Bool)) (kont1_0:(Int→Option Int)) (rec1:(Int→Option Int)) (v8_1:Int):Option Int :=
 bif (decide (v8_1 < ((p0.length:Nat):Int))) then
  (idx p0 v8_1).bind fun x14 =>
  (p1 x14).bind fun x16 =>
  bif x16 then
   some v8_1
  else
   rec1 (IntKind.i64.wrap (v8_1 + 1))
 else
  kont1_0 v8_1
def BD (p0:(List Av)) (p1:(Av→Option Bool)):Option Int :=
 iter (fun rec1 s=>Da p0 p1 (fun v8_1=>some (-1)) rec1 s) A6 0
def Bc (p0:(List Av)) (p1:(Av→Option Bool)):Option Bool :=
 (BD p0 p1).bind fun x7 =>
 some (decide (x7 ≥ 0))
def Jw (p0:(List Int)) (kont1_0:(Int→Int→Option Int)) (rec1:((Int × Int)→Option Int)) (v3_1:Int) (v4_1:Int):Option Int :=
 bif (decide (v4_1 < ((p0.length:Nat):Int))) then
  (idx p0 v4_1).bind fun x21 =>
  rec1 ((if x21 > v3_1 then x21 else v3_1),(IntKind.i64.wrap (v4_1 + 1)))
 else
  kont1_0 v3_1 v4_1
def Ht (p0:(List Int)):Option Int :=
 bif (decide (((p0.length:Nat):Int) < 1)) then
  none
 else
  (idx p0 0).bind fun x10 =>
  iter (fun rec1 s=>Jw p0 (fun v3_1 v4_1=>some v3_1) rec1 s.1 s.2) A6 (x10,1)
def MP (p0:ByteArray):Option Bool :=
 bif (p0.toList==({ data:=#[97,108,108] }:ByteArray).toList) then
  some false
 else
  bif (p0.toList==({ data:=#[97,110,100] }:ByteArray).toList) then
   some false
  else
   bif (p0.toList==({ data:=#[101,118,101,110,116] }:ByteArray).toList) then
    some false
   else
    bif (p0.toList==({ data:=#[102,114,111,109] }:ByteArray).toList) then
     some false
    else
     bif (p0.toList==({ data:=#[109,105,115,115,105,110,103] }:ByteArray).toList) then
      some false
     else
      bif (p0.toList==({ data:=#[110,111,116] }:ByteArray).toList) then
       some false
      else
       bif (p0.toList==({ data:=#[111,110] }:ByteArray).toList) then
        some false
       else
        bif (p0.toList==({ data:=#[111,114] }:ByteArray).toList) then
         some false
        else
         bif (p0.toList==({ data:=#[116,111] }:ByteArray).toList) then
          some false
         else
          bif (p0.toList==({ data:=#[117,110,100,101,114] }:ByteArray).toList) then
           some false
          else
           bif (p0.toList==({ data:=#[119,104,101,114,101] }:ByteArray).toList) then
            some false
           else
            some true
def PT (p0:ByteArray) (kont1_0:(Int→Option Bool)) (rec1:(Int→Option Bool)) (v26_1:Int):Option Bool :=
 bif (decide (v26_1 < (((Ko p0).length:Nat):Int))) then
  (idx (Ko p0) v26_1).bind fun x28 =>
  bif (bif (bif (bif (decide (x28 < 97)) then true else (decide (x28 > 122))) then (bif (decide (x28 < 48)) then true else (decide (x28 > 57))) else false) then (x28 != 95) else false) then
   some false
  else
   rec1 (IntKind.i64.wrap (v26_1 + 1))
 else
  kont1_0 v26_1
def ME (p0:ByteArray):Option Bool :=
 iter (fun rec1 s=>PT p0 (fun v26_1=>MP p0) rec1 s) A6 0
def DE (p0:ByteArray):Option Bool :=
 bif (bif (decide (((p0.size:Nat):Int) < 1)) then true else (decide (((p0.size:Nat):Int) > 16))) then
  some false
 else
  bif (decide (0≤(0:Int)∧(0:Int).toNat < p0.size)) then
   bif (decide ((FW p0 0) < 97)) then
    some false
   else
    bif (decide (0≤(0:Int)∧(0:Int).toNat < p0.size)) then
     bif (decide ((FW p0 0) > 122)) then
      some false
     else
      ME p0
    else none
  else none
def Ol (p0:Am) (kont1_0:(Int→(List Int)→Option (List Int))) (rec1:((Int × (List Int))→Option (List Int))) (v13_1:Int) (b9_1:(List Int)):Option (List Int) :=
 bif (decide (v13_1 < ((p0.Codes.length:Nat):Int))) then
  (idx p0.Codes v13_1).bind fun x16 =>
  bif (decide (v13_1 > 0)) then
   (idx b9_1 x16.Parent).bind fun x25 =>
   (idx b9_1 v13_1).bind fun x28 =>
   rec1 ((IntKind.i64.wrap (v13_1 + 1)),(b9_1.set (v13_1:Int).toNat (IntKind.i64.wrap (x25 + 1))))
  else
   rec1 ((IntKind.i64.wrap (v13_1 + 1)),b9_1)
 else
  kont1_0 v13_1 b9_1
def FP (p0:Am):Option (List Int) :=
 bif (decide (0≤((p0.Codes.length:Nat):Int)) && rm (((p0.Codes.length:Nat):Int):Int).toNat 0) then
  iter (fun rec1 s=>Ol p0 (fun v13_1 b9_1=>some b9_1) rec1 s.1 s.2) A6 (0,(List.replicate (((p0.Codes.length:Nat):Int):Int).toNat 0))
 else none
def Pq (x82:(List Int)) (k29_1:(List Bool)) (kont2_4:(Int→Int→Option Int)) (rec2:((Int × Int)→Option Int)) (v7_2:Int) (v84_2:Int):Option Int :=
 bif (decide (v84_2 < ((x82.length:Nat):Int))) then
  (idx x82 v84_2).bind fun x87 =>
  (idx k29_1 v84_2).bind fun x91 =>
  bif x91 then
   rec2 (v7_2,(IntKind.i64.wrap (v84_2 + 1)))
  else
   bif (bif (decide (v7_2 ≥ 0)) then (x87 != v7_2) else false) then
    some 5
   else
    rec2 (x87,(IntKind.i64.wrap (v84_2 + 1)))
 else
  kont2_4 v7_2 v84_2
def Lz (p0:Am) (k29_1:(List Bool)):Option Int :=
 (FP p0).bind fun x82 =>
 iter (fun rec2 s=>Pq x82 k29_1 (fun v7_2 v84_2=>some 0) rec2 s.1 s.2) A6 ((-1),0)
def Pb (p0:Am) (kont1_1:(Int→(List (ByteArray × Bool))→(List Bool)→Option Int)) (rec1:((Int × (List (ByteArray × Bool)) × (List Bool))→Option Int)) (v33_1:Int) (b25_1:(List (ByteArray × Bool))) (b29_1:(List Bool)):Option Int :=
 bif (decide (v33_1 < ((p0.Codes.length:Nat):Int))) then
  (idx p0.Codes v33_1).bind fun x36 =>
  (DE x36.Name).bind fun x41 =>
  bif (!x41) then
   some 3
  else
   bif ((WD x36.Name b25_1).getD false) then
    some 10
   else
    bif (bif (bif (v33_1==0) then (x36.Parent != (-1)) else false) then true else (bif (decide (v33_1 > 0)) then (bif (decide (x36.Parent < 0)) then true else (decide (x36.Parent ≥ v33_1))) else false)) then
     some 6
    else
     bif (decide (v33_1 > 0)) then
      (idx b29_1 x36.Parent).bind fun x79 =>
      rec1 ((IntKind.i64.wrap (v33_1 + 1)),(bh x36.Name true b25_1),(b29_1.set (x36.Parent:Int).toNat true))
     else
      rec1 ((IntKind.i64.wrap (v33_1 + 1)),(bh x36.Name true b25_1),b29_1)
 else
  kont1_1 v33_1 b25_1 b29_1
def F6 (p0:Am):Option Int :=
 (DE p0.Name).bind fun x13 =>
 bif (!x13) then
  some 3
 else
  bif (((p0.Codes.length:Nat):Int)==0) then
   some 5
  else
   bif (decide (((p0.Codes.length:Nat):Int) > 60)) then
    some 1
   else
    bif (decide (0≤((p0.Codes.length:Nat):Int)) && rm (((p0.Codes.length:Nat):Int):Int).toNat 0) then
     iter (fun rec1 s=>Pb p0 (fun v33_1 b25_1 b29_1=>Lz p0 b29_1) rec1 s.1 s.2.1 s.2.2) A6 (0,[],(List.replicate (((p0.Codes.length:Nat):Int):Int).toNat false))
    else none
def KG (p0:Am) (q0:Am):Option Bool :=
 some (p0.Name.toList==q0.Name.toList)
def G5 (p0:Av) (q0:Av):Option Bool :=
 some (p0.Name.toList==q0.Name.toList)
def FI (p0:Av) (kont1_1:(Int→Int→Option Int)) (rec1:((Int × Int)→Option Int)) (v3_1:Int) (v36_1:Int):Option Int :=
 bif (decide (v36_1 < ((p0.Widths.length:Nat):Int))) then
  (idx p0.Widths v36_1).bind fun x39 =>
  bif (bif (v36_1==0) then (x39 != 1) else false) then
   some 2
  else
   bif (decide (v36_1 > 0)) then
    bif (decide (x39≤v3_1)) then
     some 2
    else
     bif (decide (v3_1≠0)) then
      bif (bif ((Int.tmod x39 v3_1) != 0) then true else (decide (x39 > 1000000))) then
       some 2
      else
       rec1 (x39,(IntKind.i64.wrap (v36_1 + 1)))
     else none
   else
    rec1 (x39,(IntKind.i64.wrap (v36_1 + 1)))
 else
  kont1_1 v3_1 v36_1
def DH (p0:Av):Option Int :=
 bif (bif (bif (decide (p0.Low < (-1000000))) then true else (decide (p0.High > 1000000))) then true else (decide (p0.Low > p0.High))) then
  some 2
 else
  bif (bif (((p0.Widths.length:Nat):Int)==0) then true else (decide (((p0.Widths.length:Nat):Int) > 4))) then
   some 1
  else
   iter (fun rec1 s=>FI p0 (fun v3_1 v36_1=>some 0) rec1 s.1 s.2) A6 (1,0)
def DV (p0:Av):Option Bool :=
 bif (bif (p0.Kind != 2) then (p0.List_ != 0) else false) then
  some false
 else
  some (bif (p0.Kind==3) then true else (bif (bif (bif (p0.Low==0) then (p0.High==0) else false) then (((p0.Widths.length:Nat):Int)==0) else false) then (!p0.Optional) else false))
def Ek (p0:Aa) (p1:Int):Option Int :=
 (idx p0.Columns p1).bind fun x10 =>
 (DE x10.Name).bind fun x14 =>
 bif (!x14) then
  some 3
 else
  bif (decide (0≤(0:Int)∧0≤p1∧p1≤((p0.Columns.length:Nat):Int))) then
   (Bc (Mw p0.Columns 0 p1) (fun a0=>G5 a0 x10)).bind fun x21 =>
   bif x21 then
    some 10
   else
    bif (x10.Kind==1) then
     bif (decide (p1 > 0)) then
      some 4
     else
      (DV x10).bind fun x49 =>
      bif (!x49) then
       some 11
      else
       some 0
    else
     bif (x10.Kind==2) then
      bif (bif (decide (x10.List_ < 0)) then true else (decide (x10.List_ ≥ ((p0.Lists.length:Nat):Int)))) then
       some 5
      else
       (DV x10).bind fun x49 =>
       bif (!x49) then
        some 11
       else
        some 0
     else
      bif (x10.Kind==3) then
       (DH x10).bind fun x44 =>
       bif (x44 != 0) then
        some x44
       else
        (DV x10).bind fun x49 =>
        bif (!x49) then
         some 11
        else
         some 0
      else
       some 4
  else none
def HZ (p0:Aa) (kont2_2:(Int→Option Int)) (rec2:(Int→Option Int)) (v53_2:Int):Option Int :=
 bif (decide (v53_2 < ((p0.Columns.length:Nat):Int))) then
  (Ek p0 v53_2).bind fun x58 =>
  bif (x58 != 0) then
   some x58
  else
   rec2 (IntKind.i64.wrap (v53_2 + 1))
 else
  kont2_2 v53_2
def HQ (p0:Aa):Option Int :=
 bif (((p0.Columns.length:Nat):Int)==0) then
  some 7
 else
  (idx p0.Columns 0).bind fun x45 =>
  bif (x45.Kind != 1) then
   some 7
  else
   iter (fun rec2 s=>HZ p0 (fun v53_2=>some 0) rec2 s) A6 0
def HX (p0:Aa) (kont1_0:(Int→Option Int)) (rec1:(Int→Option Int)) (v21_1:Int):Option Int :=
 bif (decide (v21_1 < ((p0.Lists.length:Nat):Int))) then
  (idx p0.Lists v21_1).bind fun x24 =>
  (F6 x24).bind fun x27 =>
  bif (x27 != 0) then
   some x27
  else
   bif (decide (0≤(0:Int)∧0≤v21_1∧v21_1≤((p0.Lists.length:Nat):Int))) then
    (AU (Mw p0.Lists 0 v21_1) (fun a0=>KG a0 x24)).bind fun x36 =>
    bif x36 then
     some 10
    else
     rec1 (IntKind.i64.wrap (v21_1 + 1))
   else none
 else
  kont1_0 v21_1
def Dc (p0:Aa):Option Int :=
 bif (bif (decide (((p0.Lists.length:Nat):Int) > 6)) then true else (decide (((p0.Columns.length:Nat):Int) > 8))) then
  some 1
 else
  iter (fun rec1 s=>HX p0 (fun v21_1=>HQ p0) rec1 s) A6 0
def EA (p0:Am):Option Int :=
 (F6 p0).bind fun x4 =>
 bif (x4 != 0) then
  some (-1)
 else
  (FP p0).bind fun x7 =>
  (Ht x7).bind fun x8 =>
  some (IntKind.i64.wrap (x8 + 1))
def ER (p0:Aa) (p1:Int):Option Int :=
 bif (bif (decide (p1 < 1)) then true else (decide (p1 ≥ ((p0.Columns.length:Nat):Int)))) then
  some (-1)
 else
  (idx p0.Columns p1).bind fun x18 =>
  bif (x18.Kind==2) then
   (idx p0.Lists x18.List_).bind fun x27 =>
   (EA x27).bind fun x29 =>
   some (IntKind.i64.wrap (x29 - 1))
  else
   some ((x18.Widths.length:Nat):Int)
def Iq (p0:Aa) (p1:Ae):Option Int :=
 (ER p0 p1.Column).bind fun x9 =>
 bif (decide (x9 < 0)) then
  some 7
 else
  bif (bif (decide (p1.Level < 0)) then true else (decide (p1.Level > x9))) then
   some 8
  else
   some 0
def HP (p1:(List Ae)) (p0:Aa) (kont1_0:(Int→Option Int)) (rec1:(Int→Option Int)) (v16_1:Int):Option Int :=
 bif (decide (v16_1 < ((p1.length:Nat):Int))) then
  (idx p1 v16_1).bind fun x19 =>
  (Iq p0 x19).bind fun x23 =>
  bif (x23 != 0) then
   some x23
  else
   bif (decide (v16_1 > 0)) then
    (idx p1 (IntKind.i64.wrap (v16_1 - 1))).bind fun x35 =>
    bif (decide (x19.Column≤x35.Column)) then
     some 10
    else
     rec1 (IntKind.i64.wrap (v16_1 + 1))
   else
    rec1 (IntKind.i64.wrap (v16_1 + 1))
 else
  kont1_0 v16_1
def Jc (p0:Aa) (p1:(List Ae)):Option Int :=
 (Dc p0).bind fun x10 =>
 bif (x10 != 0) then
  some x10
 else
  iter (fun rec1 s=>HP p1 p0 (fun v16_1=>some 0) rec1 s) A6 0
def Tb (x12:(List Int)) (p1:Int) (kont1_0:(Int→(List Int)→Option (List Int))) (rec1:((Int × (List Int))→Option (List Int))) (v14_1:Int) (b5_1:(List Int)):Option (List Int) :=
 bif (decide (v14_1 < ((x12.length:Nat):Int))) then
  (idx x12 v14_1).bind fun x17 =>
  bif (x17==p1) then
   bif rm b5_1.length [v14_1].length then
    rec1 ((IntKind.i64.wrap (v14_1 + 1)),(b5_1++[v14_1]))
   else none
  else
   rec1 ((IntKind.i64.wrap (v14_1 + 1)),b5_1)
 else
  kont1_0 v14_1 b5_1
def K0 (p0:Am) (p1:Int):Option (List Int) :=
 (F6 p0).bind fun x9 =>
 bif (x9 != 0) then
  some []
 else
  (FP p0).bind fun x12 =>
  iter (fun rec1 s=>Tb x12 p1 (fun v14_1 b5_1=>some b5_1) rec1 s.1 s.2) A6 (0,[])
def MX (p0:Am) (p1:Int):Option Bool :=
 bif (bif (decide (p1 ≥ 0)) then (decide (p1 < ((p0.Codes.length:Nat):Int))) else false) then
  (F6 p0).bind fun x16 =>
  some (x16==0)
 else
  some false
def SJ (p2:Int) (p0:Am) (kont1_0:(Int→Int→Option Int)) (rec1:((Int × Int)→Option Int)) (v1_1:Int) (v7_1:Int):Option Int :=
 bif (decide (v7_1 ≥ p2)) then
  bif (v7_1==p2) then
   some v1_1
  else
   (idx p0.Codes v1_1).bind fun x33 =>
   rec1 (x33.Parent,(IntKind.i64.wrap (v7_1 - 1)))
 else
  kont1_0 v1_1 v7_1
def Gh (p0:Am) (p1:Int) (p2:Int):Option Int :=
 (MX p0 p1).bind fun x10 =>
 bif (bif (!x10) then true else (decide (p2 < 0))) then
  some (-1)
 else
  (FP p0).bind fun x17 =>
  (idx x17 p1).bind fun x19 =>
  iter (fun rec1 s=>SJ p2 p0 (fun v1_1 v7_1=>some (-1)) rec1 s.1 s.2) A6 (p1,x19)
def FX (p0:Av) (p1:Int):Option Int :=
 (idx p0.Widths (IntKind.i64.wrap (((p0.Widths.length:Nat):Int) - p1))).bind fun x12 =>
 some x12
def DQ (p0:Int) (p1:Int):Option Int :=
 bif (decide (p1≠0)) then
  bif (decide ((Int.tmod p0 p1) < 0)) then
   some (IntKind.i64.wrap (p0 - (IntKind.i64.wrap ((Int.tmod p0 p1) + p1))))
  else
   some (IntKind.i64.wrap (p0 - (Int.tmod p0 p1)))
 else none
def Ir (p0:Av) (p1:Int) (p2:Int):Option (Int × Int × Bool) :=
 bif (p1==0) then
  some (p0.Low,p0.High,(p2==0))
 else
  bif (bif (decide (p2 < (-2000000))) then true else (decide (p2 > 1000000))) then
   some (0,0,false)
  else
   (FX p0 p1).bind fun x30 =>
   (DQ p2 x30).bind fun x46 =>
   some ((if p0.Low > p2 then p0.Low else p2),(if p0.High < (IntKind.i64.wrap ((IntKind.i64.wrap (p2 + x30)) - 1)) then p0.High else (IntKind.i64.wrap ((IntKind.i64.wrap (p2 + x30)) - 1))),(bif (x46==p2) then (decide ((if p0.Low > p2 then p0.Low else p2)≤(if p0.High < (IntKind.i64.wrap ((IntKind.i64.wrap (p2 + x30)) - 1)) then p0.High else (IntKind.i64.wrap ((IntKind.i64.wrap (p2 + x30)) - 1))))) else false))
def LA (x54:(List Int)) (x48:Am) (p2:Int) (p3:Int) (kont1_0:(Int→Option (Int × Bool))) (rec1:(Int→Option (Int × Bool))) (v56_1:Int):Option (Int × Bool) :=
 bif (decide (v56_1 < ((x54.length:Nat):Int))) then
  (idx x54 v56_1).bind fun x58 =>
  (Gh x48 x58 p2).bind fun x63 =>
  bif (x63==p3) then
   some (x58,true)
  else
   rec1 (IntKind.i64.wrap (v56_1 + 1))
 else
  kont1_0 v56_1
def Bb (p0:Aa) (p1:Int) (p2:Int) (p3:Int):Option (Int × Bool) :=
 (idx p0.Columns p1).bind fun x20 =>
 bif (x20.Kind==3) then
  bif (bif (decide (p2 > 0)) then (p3==(-1099511627776)) else false) then
   some (p3,x20.Optional)
  else
   (Ir x20 p2 p3).bind fun x38 =>
   some (x38.1,x38.2.2)
 else
  (idx p0.Lists x20.List_).bind fun x48 =>
  (EA x48).bind fun x52 =>
  (K0 x48 (IntKind.i64.wrap (x52 - 1))).bind fun x54 =>
  iter (fun rec1 s=>LA x54 x48 p2 p3 (fun v56_1=>some (0,false)) rec1 s) A6 0
def HL (p1:(List Ae)) (p2:(List Int)) (p0:Aa) (kont1_0:(Int→Option Bool)) (rec1:(Int→Option Bool)) (v31_1:Int):Option Bool :=
 bif (decide (v31_1 < ((p1.length:Nat):Int))) then
  (idx p1 v31_1).bind fun x34 =>
  (idx p2 (IntKind.i64.wrap (v31_1 + 1))).bind fun x45 =>
  (Bb p0 x34.Column x34.Level x45).bind fun x47 =>
  bif (!x47.2) then
   some false
  else
   rec1 (IntKind.i64.wrap (v31_1 + 1))
 else
  kont1_0 v31_1
def HU (p1:(List Ae)) (p2:(List Int)) (p0:Aa):Option Bool :=
 iter (fun rec1 s=>HL p1 p2 p0 (fun v31_1=>some true) rec1 s) A6 0
def IH (p0:Aa) (p1:(List Ae)) (p2:(List Int)):Option Bool :=
 bif (((p2.length:Nat):Int) != (IntKind.i64.wrap (((p1.length:Nat):Int) + 1))) then
  some false
 else
  (idx p2 0).bind fun x19 =>
  bif (decide (x19 < 0)) then
   some false
  else
   (idx p2 0).bind fun x25 =>
   bif (decide (x25 > 1048575)) then
    some false
   else
    HU p1 p2 p0
def Hm (p1:Au) (p0:Aa) (kont1_1:(Int→Option Int)) (rec1:(Int→Option Int)) (v42_1:Int):Option Int :=
 bif (decide (v42_1 < ((p1.Rows.length:Nat):Int))) then
  (idx p1.Rows v42_1).bind fun x45 =>
  (IH p0 p1.Picks x45).bind fun x51 =>
  bif (!x51) then
   some 9
  else
   bif (decide (v42_1 > 0)) then
    (idx x45 0).bind fun x57 =>
    (idx p1.Rows (IntKind.i64.wrap (v42_1 - 1))).bind fun x63 =>
    (idx x63 0).bind fun x65 =>
    bif (decide (x57≤x65)) then
     some 10
    else
     rec1 (IntKind.i64.wrap (v42_1 + 1))
   else
    rec1 (IntKind.i64.wrap (v42_1 + 1))
 else
  kont1_1 v42_1
def DR (p0:Aa) (p1:Au):Option Int :=
 (Dc p0).bind fun x10 =>
 bif (x10 != 0) then
  some x10
 else
  (DE p1.Project).bind fun x17 =>
  bif (!x17) then
   some 3
  else
   bif (bif (decide (p1.Version < 0)) then true else (decide (p1.Version > 300))) then
    some 13
   else
    (Jc p0 p1.Picks).bind fun x31 =>
    bif (x31 != 0) then
     some x31
    else
     bif (decide (((p1.Rows.length:Nat):Int) > 200)) then
      some 1
     else
      iter (fun rec1 s=>Hm p1 p0 (fun v42_1=>some 0) rec1 s) A6 0
def Ed (p0:Ag) (p1:Int) (self_condition_count:(Ag→Int→Option Int)) (kont1_0:(Int→Int→Option Int)) (rec1:((Int × Int)→Option Int)) (v5_1:Int) (v11_1:Int):Option Int :=
 bif (decide (v11_1 < ((p0.Kids.length:Nat):Int))) then
  (idx p0.Kids v11_1).bind fun x13 =>
  bif (decide (v5_1 > p1)) then
   kont1_0 v5_1 v11_1
  else
   (self_condition_count x13 (IntKind.i64.wrap (p1 - v5_1))).bind fun x23 =>
   rec1 ((IntKind.i64.wrap (v5_1 + x23)),(IntKind.i64.wrap (v11_1 + 1)))
 else
  kont1_0 v5_1 v11_1
def EE (d:Nat) (self_condition_count:(Ag→Int→Option Int)) (p0:Ag) (p1:Int):Option Int :=
 iter (fun rec1 s=>Ed p0 p1 self_condition_count (fun v5_1 v11_1=>some v5_1) rec1 s.1 s.2) A6 (1,0)
def E8:Nat→Ag→Int→Option Int
 | 0,_,_=>none
 | d + 1,p0,p1=>EE d (E8 d) p0 p1
def GB (p0:Ag) (self_condition_deep:(Ag→Option Int)) (kont1_0:(Int→Int→Option Int)) (rec1:((Int × Int)→Option Int)) (v3_1:Int) (v9_1:Int):Option Int :=
 bif (decide (v9_1 < ((p0.Kids.length:Nat):Int))) then
  (idx p0.Kids v9_1).bind fun x11 =>
  (self_condition_deep x11).bind fun x15 =>
  rec1 ((if x15 > v3_1 then x15 else v3_1),(IntKind.i64.wrap (v9_1 + 1)))
 else
  kont1_0 v3_1 v9_1
def Fl (d:Nat) (self_condition_deep:(Ag→Option Int)) (p0:Ag):Option Int :=
 iter (fun rec1 s=>GB p0 self_condition_deep (fun v3_1 v9_1=>some (IntKind.i64.wrap (v3_1 + 1))) rec1 s.1 s.2) A6 (0,0)
def Fm:Nat→Ag→Option Int
 | 0,_=>none
 | d + 1,p0=>Fl d (Fm d) p0
def Mb (p0:Int):Option Int :=
 bif (p0==5) then
  some 2
 else
  bif (p0==6) then
   some 2
  else
   bif (p0==7) then
    some 1
   else
    some 0
def JB (p0:Ag):Option Bool :=
 bif (bif (!(bif (bif (p0.Op==2) then true else (p0.Op==3)) then true else (p0.Op==4))) then (p0.Column != 0) else false) then
  some false
 else
  bif (bif (p0.Op != 2) then (p0.Code != 0) else false) then
   some false
  else
   some (bif (p0.Op==3) then true else (bif (p0.Low==0) then (p0.High==0) else false))
def C8 (p0:Aa) (p1:Ag):Option Int :=
 (idx p0.Columns p1.Column).bind fun x58 =>
 bif (p1.Op==2) then
  bif (x58.Kind != 2) then
   some 7
  else
   bif (decide (p1.Code < 0)) then
    some 6
   else
    (idx p0.Lists x58.List_).bind fun x77 =>
    bif (decide (p1.Code ≥ ((x77.Codes.length:Nat):Int))) then
     some 6
    else
     some 0
 else
  bif (p1.Op==3) then
   bif (x58.Kind != 3) then
    some 7
   else
    bif (bif (bif (decide (p1.Low > p1.High)) then true else (decide (p1.Low < (-1000000)))) then true else (decide (p1.High > 1000000))) then
     some 2
    else
     some 0
  else
   bif (p1.Op==4) then
    bif (bif (x58.Kind != 3) then true else (!x58.Optional)) then
     some 7
    else
     some 0
   else
    some 0
def Ee (p0:Aa) (p1:Ag):Option Int :=
 bif (bif (decide (p1.Op < 1)) then true else (decide (p1.Op > 7))) then
  some 4
 else
  (Mb p1.Op).bind fun x21 =>
  bif (((p1.Kids.length:Nat):Int) != x21) then
   some 11
  else
   (JB p1).bind fun x25 =>
   bif (!x25) then
    some 11
   else
    bif (bif (bif (p1.Op != 2) then (p1.Op != 3) else false) then (p1.Op != 4) else false) then
     some 0
    else
     bif (bif (decide (p1.Column < 0)) then true else (decide (p1.Column ≥ ((p0.Columns.length:Nat):Int)))) then
      some 7
     else
      C8 p0 p1
def Eo (p1:Ag) (self_condition_checkAll:(Aa→Ag→Option Int)) (p0:Aa) (kont1_0:(Int→Option Int)) (rec1:(Int→Option Int)) (v18_1:Int):Option Int :=
 bif (decide (v18_1 < ((p1.Kids.length:Nat):Int))) then
  (idx p1.Kids v18_1).bind fun x20 =>
  (self_condition_checkAll p0 x20).bind fun x24 =>
  bif (x24 != 0) then
   some x24
  else
   rec1 (IntKind.i64.wrap (v18_1 + 1))
 else
  kont1_0 v18_1
def D6 (d:Nat) (self_condition_checkAll:(Aa→Ag→Option Int)) (p0:Aa) (p1:Ag):Option Int :=
 (Ee p0 p1).bind fun x11 =>
 bif (x11 != 0) then
  some x11
 else
  iter (fun rec1 s=>Eo p1 self_condition_checkAll p0 (fun v18_1=>some 0) rec1 s) A6 0
def Do:Nat→Aa→Ag→Option Int
 | 0,_,_=>none
 | d + 1,p0,p1=>D6 d (Do d) p0 p1
def BW (d:Nat) (p0:Aa) (p1:Ag):Option Int :=
 (Dc p0).bind fun x7 =>
 bif (x7 != 0) then
  some x7
 else
  (E8 d p1 40).bind fun x14 =>
  bif (decide (x14 > 40)) then
   some 1
  else
   (Fm d p1).bind fun x18 =>
   bif (decide (x18 > 10)) then
    some 22
   else
    (Do d p0 p1).bind fun x22 =>
    some x22
def IE :Option (Bn × Bool) :=
 some (({ f_num:=false,f_name:=false,f_column:=false,f_columns:=false,f_dims:=false,f_cond:=false,f_event:=false }:Bn),false)
def Ma (p0:Int):Option (Bn × Bool) :=
 bif (p0==1) then
  some (({ f_num:=true,f_name:=false,f_column:=false,f_columns:=false,f_dims:=false,f_cond:=false,f_event:=false }:Bn),true)
 else
  bif (p0==2) then
   some (({ f_num:=false,f_name:=true,f_column:=false,f_columns:=false,f_dims:=false,f_cond:=false,f_event:=false }:Bn),true)
  else
   bif (p0==3) then
    some (({ f_num:=false,f_name:=false,f_column:=false,f_columns:=false,f_dims:=false,f_cond:=true,f_event:=false }:Bn),true)
   else
    bif (p0==4) then
     some (({ f_num:=false,f_name:=false,f_column:=true,f_columns:=false,f_dims:=false,f_cond:=true,f_event:=false }:Bn),true)
    else
     bif (p0==5) then
      some (({ f_num:=false,f_name:=false,f_column:=true,f_columns:=false,f_dims:=false,f_cond:=true,f_event:=false }:Bn),true)
     else
      bif (p0==14) then
       some (({ f_num:=false,f_name:=false,f_column:=true,f_columns:=false,f_dims:=false,f_cond:=true,f_event:=false }:Bn),true)
      else
       bif (p0==6) then
        some (({ f_num:=false,f_name:=false,f_column:=false,f_columns:=false,f_dims:=false,f_cond:=false,f_event:=false }:Bn),true)
       else
        bif (p0==7) then
         some (({ f_num:=false,f_name:=false,f_column:=false,f_columns:=false,f_dims:=false,f_cond:=false,f_event:=false }:Bn),true)
        else
         bif (p0==8) then
          some (({ f_num:=false,f_name:=false,f_column:=false,f_columns:=false,f_dims:=false,f_cond:=false,f_event:=false }:Bn),true)
         else
          bif (p0==9) then
           some (({ f_num:=false,f_name:=false,f_column:=false,f_columns:=false,f_dims:=false,f_cond:=false,f_event:=false }:Bn),true)
          else
           bif (p0==10) then
            some (({ f_num:=false,f_name:=false,f_column:=true,f_columns:=false,f_dims:=true,f_cond:=true,f_event:=false }:Bn),true)
           else
            bif (p0==11) then
             some (({ f_num:=false,f_name:=false,f_column:=true,f_columns:=true,f_dims:=false,f_cond:=true,f_event:=false }:Bn),true)
            else
             bif (p0==12) then
              some (({ f_num:=false,f_name:=false,f_column:=true,f_columns:=false,f_dims:=false,f_cond:=true,f_event:=true }:Bn),true)
             else
              bif (p0==13) then
               some (({ f_num:=true,f_name:=false,f_column:=true,f_columns:=false,f_dims:=false,f_cond:=true,f_event:=false }:Bn),true)
              else
               IE
def Du (p0:Int):Option Bool :=
 some (bif (decide (p0 ≥ 6)) then (decide (p0≤9)) else false)
def Hv (p0:Ag):Option Bool :=
 some (bif (bif (bif (bif (bif (p0.Op==0) then (p0.Column==0) else false) then (p0.Code==0) else false) then (p0.Low==0) else false) then (p0.High==0) else false) then (((p0.Kids.length:Nat):Int)==0) else false)
def GT (p0:AA) (p1:Bn):Option Bool :=
 bif (bif (bif (bif (bif (bif p1.f_num then true else (p0.Num==0)) then (bif p1.f_name then true else (p0.Name.toList==({ data:=#[] }:ByteArray).toList)) else false) then (bif p1.f_column then true else (p0.Column==0)) else false) then (bif p1.f_columns then true else (((p0.Columns.length:Nat):Int)==0)) else false) then (bif p1.f_dims then true else (((p0.Dims.length:Nat):Int)==0)) else false) then
  bif p1.f_cond then
   bif p1.f_event then
    (Du p0.Op).bind fun x71 =>
    some (bif x71 then true else (((p0.Kids.length:Nat):Int)==0))
   else
    (Hv p0.Event).bind fun x65 =>
    bif x65 then
     (Du p0.Op).bind fun x71 =>
     some (bif x71 then true else (((p0.Kids.length:Nat):Int)==0))
    else
     some false
  else
   (Hv p0.Cond).bind fun x56 =>
   bif x56 then
    bif p1.f_event then
     (Du p0.Op).bind fun x71 =>
     some (bif x71 then true else (((p0.Kids.length:Nat):Int)==0))
    else
     (Hv p0.Event).bind fun x65 =>
     bif x65 then
      (Du p0.Op).bind fun x71 =>
      some (bif x71 then true else (((p0.Kids.length:Nat):Int)==0))
     else
      some false
   else
    some false
 else
  some false
def Bi (p0:Aa) (p1:Int):Option Bool :=
 bif (bif (decide (p1 ≥ 0)) then (decide (p1 < ((p0.Columns.length:Nat):Int))) else false) then
  (idx p0.Columns p1).bind fun x18 =>
  some (x18.Kind==3)
 else
  some false
def OO (p0:Aa) (p1:Ae):Option Int :=
 (Dc p0).bind fun x7 =>
 bif (x7 != 0) then
  some x7
 else
  (Iq p0 p1).bind fun x13 =>
  some x13
def KJ (p0:Ae) (q0:Ae):Option Bool :=
 some (p0.Column==q0.Column)
def Oo (p1:(List Ae)) (p0:Aa) (kont1_0:(Int→Option Bool)) (rec1:(Int→Option Bool)) (v9_1:Int):Option Bool :=
 bif (decide (v9_1 < ((p1.length:Nat):Int))) then
  (idx p1 v9_1).bind fun x12 =>
  (OO p0 x12).bind fun x16 =>
  bif (x16 != 0) then
   some false
  else
   (idx p0.Columns x12.Column).bind fun x23 =>
   bif (x23.Kind != 2) then
    some false
   else
    bif (decide (0≤(0:Int)∧0≤v9_1∧v9_1≤((p1.length:Nat):Int))) then
     (AM (Mw p1 0 v9_1) (fun a0=>KJ a0 x12)).bind fun x32 =>
     bif x32 then
      some false
     else
      rec1 (IntKind.i64.wrap (v9_1 + 1))
    else none
 else
  kont1_0 v9_1
def NL (p0:Aa) (p1:(List Ae)):Option Bool :=
 iter (fun rec1 s=>Oo p1 p0 (fun v9_1=>some (bif (decide (((p1.length:Nat):Int) ≥ 1)) then (decide (((p1.length:Nat):Int)≤3)) else false)) rec1 s) A6 0
def Ns (p2:(List Int)) (p0:Aa) (p1:Int) (kont1_0:(Int→Option Bool)) (rec1:(Int→Option Bool)) (v11_1:Int):Option Bool :=
 bif (decide (v11_1 < ((p2.length:Nat):Int))) then
  (idx p2 v11_1).bind fun x14 =>
  (Bi p0 x14).bind fun x18 =>
  bif (bif (!x18) then true else (x14==p1)) then
   some false
  else
   bif (decide (0≤(0:Int)∧0≤v11_1∧v11_1≤((p2.length:Nat):Int))) then
    (BZ (Mw p2 0 v11_1) x14).bind fun x30 =>
    bif x30 then
     some false
    else
     rec1 (IntKind.i64.wrap (v11_1 + 1))
   else none
 else
  kont1_0 v11_1
def ML (p0:Aa) (p1:Int) (p2:(List Int)):Option Bool :=
 iter (fun rec1 s=>Ns p2 p0 p1 (fun v11_1=>some (bif (decide (((p2.length:Nat):Int) ≥ 1)) then (decide (((p2.length:Nat):Int)≤3)) else false)) rec1 s) A6 0
def IZ (p0:Aa) (p1:AA):Option Bool :=
 bif (p1.Op==1) then
  some (bif (decide (p1.Num ≥ (-1099511627776))) then (decide (p1.Num≤1099511627776)) else false)
 else
  bif (p1.Op==2) then
   (DE p1.Name).bind fun x21 =>
   some x21
  else
   bif (p1.Op==4) then
    (Bi p0 p1.Column).bind fun x29 =>
    some x29
   else
    bif (p1.Op==5) then
     (Bi p0 p1.Column).bind fun x29 =>
     some x29
    else
     bif (p1.Op==14) then
      (Bi p0 p1.Column).bind fun x29 =>
      some x29
     else
      bif (p1.Op==10) then
       (NL p0 p1.Dims).bind fun x35 =>
       bif x35 then
        bif (p1.Column==(-1)) then
         some true
        else
         (Bi p0 p1.Column).bind fun x44 =>
         some x44
       else
        some false
      else
       bif (p1.Op==11) then
        (Bi p0 p1.Column).bind fun x52 =>
        bif x52 then
         (ML p0 p1.Column p1.Columns).bind fun x59 =>
         some x59
        else
         some false
       else
        bif (p1.Op==12) then
         (Bi p0 p1.Column).bind fun x66 =>
         bif x66 then
          (idx p0.Columns p1.Column).bind fun x72 =>
          some (decide (x72.Low ≥ 0))
         else
          some false
        else
         bif (p1.Op==13) then
          (Bi p0 p1.Column).bind fun x82 =>
          bif x82 then
           (idx p0.Columns p1.Column).bind fun x88 =>
           (BZ x88.Widths p1.Num).bind fun x93 =>
           some x93
          else
           some false
         else
          some true
def LU (p0:Int):Option Bool :=
 some (bif (decide (p0 ≥ 1)) then (decide (p0≤9)) else false)
def F2 (x10:(Bn × Bool)) (d:Nat) (p0:Aa) (p1:AA) (self_program_right_c1:(AA→Aa→Option Bool)):Option Bool :=
 bif x10.1.f_cond then
  (BW d p0 p1.Cond).bind fun x33 =>
  bif (x33 != 0) then
   some false
  else
   bif x10.1.f_event then
    (BW d p0 p1.Event).bind fun x43 =>
    bif (x43 != 0) then
     some false
    else
     (Du p1.Op).bind fun x49 =>
     bif (bif x49 then (((p1.Kids.length:Nat):Int) != 2) else false) then
      some false
     else
      (AZ p1.Kids (fun a0=>self_program_right_c1 a0 p0)).bind fun x59 =>
      some (!x59)
   else
    (Du p1.Op).bind fun x49 =>
    bif (bif x49 then (((p1.Kids.length:Nat):Int) != 2) else false) then
     some false
    else
     (AZ p1.Kids (fun a0=>self_program_right_c1 a0 p0)).bind fun x59 =>
     some (!x59)
 else
  bif x10.1.f_event then
   (BW d p0 p1.Event).bind fun x43 =>
   bif (x43 != 0) then
    some false
   else
    (Du p1.Op).bind fun x49 =>
    bif (bif x49 then (((p1.Kids.length:Nat):Int) != 2) else false) then
     some false
    else
     (AZ p1.Kids (fun a0=>self_program_right_c1 a0 p0)).bind fun x59 =>
     some (!x59)
  else
   (Du p1.Op).bind fun x49 =>
   bif (bif x49 then (((p1.Kids.length:Nat):Int) != 2) else false) then
    some false
   else
    (AZ p1.Kids (fun a0=>self_program_right_c1 a0 p0)).bind fun x59 =>
    some (!x59)
def DC (d:Nat) (self_program_right:(Aa→AA→Option Bool)) (self_program_right_c1:(AA→Aa→Option Bool)) (p0:Aa) (p1:AA):Option Bool :=
 (Ma p1.Op).bind fun x10 =>
 bif (!x10.2) then
  some false
 else
  (GT p1 x10.1).bind fun x18 =>
  bif (!x18) then
   some false
  else
   (IZ p0 p1).bind fun x24 =>
   bif (!x24) then
    some false
   else
    F2 x10 d p0 p1 self_program_right_c1
def Ic (d:Nat) (self_program_right:(Aa→AA→Option Bool)) (self_program_right_c1:(AA→Aa→Option Bool)) (p0:AA) (q0:Aa):Option Bool :=
 (LU p0.Op).bind fun x6 =>
 bif (!x6) then
  some true
 else
  (self_program_right q0 p0).bind fun x11 =>
  some (!x11)
mutual
def EY:Nat→Aa→AA→Option Bool
 | 0,_,_=>none
 | d + 1,p0,p1=>DC d (EY d) (Fy d) p0 p1
def Fy:Nat→AA→Aa→Option Bool
 | 0,_,_=>none
 | d + 1,p0,q0=>Ic d (EY d) (Fy d) p0 q0
end
def DT (d:Nat) (p0:Aa) (p1:AA):Option Bool :=
 (Dc p0).bind fun x6 =>
 bif (x6==0) then
  (EY d p0 p1).bind fun x11 =>
  some x11
 else
  some false
def DK (p0:Ae) (q0:Ae):Option Bool :=
 some (bif (p0.Column==q0.Column) then (decide (p0.Level ≥ q0.Level)) else false)
def Fb (p0:Ae) (q0:(List Ae)):Option Bool :=
 (AM q0 (fun a0=>DK a0 p0)).bind fun x6 =>
 some (!x6)
def DY (p0:(List Ae)) (p1:(List Ae)):Option Bool :=
 (AM p1 (fun a0=>Fb a0 p0)).bind fun x7 =>
 some (!x7)
def FE (p0:Ag) (self_condition_Atoms:(Ag→Option (List Ag))) (kont1_0:(Int→(List Ag)→Option (List Ag))) (rec1:((Int × (List Ag))→Option (List Ag))) (v24_1:Int) (b3_1:(List Ag)):Option (List Ag) :=
 bif (decide (v24_1 < ((p0.Kids.length:Nat):Int))) then
  (idx p0.Kids v24_1).bind fun x26 =>
  (self_condition_Atoms x26).bind fun x30 =>
  bif rm b3_1.length x30.length then
   rec1 ((IntKind.i64.wrap (v24_1 + 1)),(b3_1++x30))
  else none
 else
  kont1_0 v24_1 b3_1
def EK (d:Nat) (self_condition_Atoms:(Ag→Option (List Ag))) (p0:Ag):Option (List Ag) :=
 bif (bif (bif (p0.Op==2) then true else (p0.Op==3)) then true else (p0.Op==4)) then
  some [p0]
 else
  iter (fun rec1 s=>FE p0 self_condition_Atoms (fun v24_1 b3_1=>some b3_1) rec1 s.1 s.2) A6 (0,[])
def E3:Nat→Ag→Option (List Ag)
 | 0,_=>none
 | d + 1,p0=>EK d (E3 d) p0
def Dg (p0:Bool):Option Int :=
 bif p0 then
  some 1
 else
  some (-1)
def K3 (p0:Am) (p1:Int) (p2:Int):Option Bool :=
 (MX p0 p1).bind fun x9 =>
 bif (!x9) then
  some false
 else
  (MX p0 p2).bind fun x14 =>
  bif (!x14) then
   some false
  else
   (FP p0).bind fun x20 =>
   (idx x20 p2).bind fun x22 =>
   (Gh p0 p1 x22).bind fun x24 =>
   some (x24==p2)
def By (p0:Aa) (p1:Ag) (p2:Int):Option Int :=
 bif (p1.Op==2) then
  (idx p0.Columns p1.Column).bind fun x17 =>
  (idx p0.Lists x17.List_).bind fun x20 =>
  (K3 x20 p2 p1.Code).bind fun x25 =>
  (Dg x25).bind fun x26 =>
  some x26
 else
  bif (p1.Op==4) then
   (Dg (p2==(-1099511627776))).bind fun x33 =>
   some x33
  else
   bif (p2==(-1099511627776)) then
    some 0
   else
    (Dg (bif (decide (p2 ≥ p1.Low)) then (decide (p2≤p1.High)) else false)).bind fun x47 =>
    some x47
def Gt (p0:Av) (p1:Int):Option Int :=
 (idx p0.Widths (IntKind.i64.wrap (((p0.Widths.length:Nat):Int) - p1))).bind fun x12 =>
 some x12
def D5 (p0:Int) (p1:Int):Option Int :=
 bif (decide (p1≠0)) then
  bif (decide ((Int.tmod p0 p1) < 0)) then
   some (IntKind.i64.wrap (p0 - (IntKind.i64.wrap ((Int.tmod p0 p1) + p1))))
  else
   some (IntKind.i64.wrap (p0 - (Int.tmod p0 p1)))
 else none
def G6 (x39:(List Int)) (x32:Am) (p2:Int) (p0:Aa) (p1:Ag) (kont1_0:(Int→(List (Int × Int))→Option Bool)) (rec1:((Int × (List (Int × Int)))→Option Bool)) (v41_1:Int) (b34_1:(List (Int × Int))):Option Bool :=
 bif (decide (v41_1 < ((x39.length:Nat):Int))) then
  (idx x39 v41_1).bind fun x43 =>
  (Gh x32 x43 p2).bind fun x48 =>
  (By p0 p1 x43).bind fun x52 =>
  bif (bif ((IS x48 b34_1).isSome) then (((IS x48 b34_1).getD 0) != x52) else false) then
   some false
  else
   rec1 ((IntKind.i64.wrap (v41_1 + 1)),(Ug x48 x52 b34_1))
 else
  kont1_0 v41_1 b34_1
def Bd (p0:Aa) (p1:Ag) (p2:Int):Option Bool :=
 (idx p0.Columns p1.Column).bind fun x23 =>
 bif (p1.Op==2) then
  (idx p0.Lists x23.List_).bind fun x32 =>
  (EA x32).bind fun x37 =>
  (K0 x32 (IntKind.i64.wrap (x37 - 1))).bind fun x39 =>
  iter (fun rec1 s=>G6 x39 x32 p2 p0 p1 (fun v41_1 b34_1=>some true) rec1 s.1 s.2) A6 (0,[])
 else
  bif (bif (p2==0) then x23.Optional else false) then
   some false
  else
   bif (p1.Op==4) then
    some true
   else
    bif (decide ((if x23.Low > p1.Low then x23.Low else p1.Low) > (if x23.High < p1.High then x23.High else p1.High))) then
     some true
    else
     bif (p2==0) then
      some (bif ((if x23.Low > p1.Low then x23.Low else p1.Low)==x23.Low) then ((if x23.High < p1.High then x23.High else p1.High)==x23.High) else false)
     else
      (Gt x23 p2).bind fun x107 =>
      bif ((if x23.Low > p1.Low then x23.Low else p1.Low)==x23.Low) then
       bif ((if x23.High < p1.High then x23.High else p1.High)==x23.High) then
        some true
       else
        (D5 (IntKind.i64.wrap ((if x23.High < p1.High then x23.High else p1.High) + 1)) x107).bind fun x128 =>
        some (x128==(IntKind.i64.wrap ((if x23.High < p1.High then x23.High else p1.High) + 1)))
      else
       (D5 (if x23.Low > p1.Low then x23.Low else p1.Low) x107).bind fun x115 =>
       bif (x115==(if x23.Low > p1.Low then x23.Low else p1.Low)) then
        bif ((if x23.High < p1.High then x23.High else p1.High)==x23.High) then
         some true
        else
         (D5 (IntKind.i64.wrap ((if x23.High < p1.High then x23.High else p1.High) + 1)) x107).bind fun x128 =>
         some (x128==(IntKind.i64.wrap ((if x23.High < p1.High then x23.High else p1.High) + 1)))
       else
        some false
def Eg (b19_1:(List Int)) (x25:Ag) (rec1:((Int × (List Int))→Option (List Ae))) (v23_1:Int) (v8_2:Int):Option (List Ae) :=
 (idx b19_1 x25.Column).bind fun x40 =>
 (idx b19_1 x25.Column).bind fun x44 =>
 rec1 ((IntKind.i64.wrap (v23_1 + 1)),(b19_1.set (x25.Column:Int).toNat (if v8_2 > x40 then v8_2 else x40)))
def Ih (p0:Aa) (x25:Ag) (kont2_2:(Int→Option (List Ae))) (rec2:(Int→Option (List Ae))) (v8_2:Int):Option (List Ae) :=
 (Bd p0 x25 v8_2).bind fun x30 =>
 bif (!x30) then
  rec2 (IntKind.i64.wrap (v8_2 + 1))
 else
  kont2_2 v8_2
def Gb (b19_1:(List Int)) (kont3_4:(Int→(List Ae)→Option (List Ae))) (rec3:((Int × (List Ae))→Option (List Ae))) (v48_3:Int) (b9_3:(List Ae)):Option (List Ae) :=
 bif (decide (v48_3 < ((b19_1.length:Nat):Int))) then
  (idx b19_1 v48_3).bind fun x51 =>
  bif (decide (x51 > 0)) then
   bif rm b9_3.length [({ Column:=v48_3,Level:=x51 }:Ae)].length then
    rec3 ((IntKind.i64.wrap (v48_3 + 1)),(b9_3++[({ Column:=v48_3,Level:=x51 }:Ae)]))
   else none
  else
   rec3 ((IntKind.i64.wrap (v48_3 + 1)),b9_3)
 else
  kont3_4 v48_3 b9_3
def Gg (x21:(List Ag)) (p0:Aa) (kont1_0:(Int→(List Int)→Option (List Ae))) (rec1:((Int × (List Int))→Option (List Ae))) (v23_1:Int) (b19_1:(List Int)):Option (List Ae) :=
 bif (decide (v23_1 < ((x21.length:Nat):Int))) then
  (idx x21 v23_1).bind fun x25 =>
  iter (fun rec2 s=>Ih p0 x25 (Eg b19_1 x25 rec1 v23_1) rec2 s) A6 0
 else
  kont1_0 v23_1 b19_1
def CI (d:Nat) (p0:Aa) (p1:Ag):Option (List Ae) :=
 (BW d p0 p1).bind fun x14 =>
 bif (x14 != 0) then
  some []
 else
  bif (decide (0≤((p0.Columns.length:Nat):Int)) && rm (((p0.Columns.length:Nat):Int):Int).toNat 0) then
   (E3 d p1).bind fun x21 =>
   iter (fun rec1 s=>Gg x21 p0 (fun v23_1 b19_1=>iter (fun rec3 s=>Gb b19_1 (fun v48_3 b9_3=>some b9_3) rec3 s.1 s.2) A6 (0,[])) rec1 s.1 s.2) A6 (0,(List.replicate (((p0.Columns.length:Nat):Int):Int).toNat 0))
  else none
def JW (x13:Av) (p2:Int) (kont1_0:(Int→Option Int)) (rec1:(Int→Option Int)) (v18_1:Int):Option Int :=
 bif (decide (v18_1 < ((x13.Widths.length:Nat):Int))) then
  (idx x13.Widths v18_1).bind fun x21 =>
  bif (x21==p2) then
   some (IntKind.i64.wrap (((x13.Widths.length:Nat):Int) - v18_1))
  else
   rec1 (IntKind.i64.wrap (v18_1 + 1))
 else
  kont1_0 v18_1
def G0 (p0:Aa) (p1:Int) (p2:Int):Option Int :=
 (idx p0.Columns p1).bind fun x13 =>
 iter (fun rec1 s=>JW x13 p2 (fun v18_1=>some 0) rec1 s) A6 0
def DO (p0:Aa) (p1:Int):Option Int :=
 (Dc p0).bind fun x6 =>
 bif (x6 != 0) then
  some (-1)
 else
  (ER p0 p1).bind fun x10 =>
  some x10
def ET (p0:Aa) (p1:Int) (p2:Int):Option Int :=
 (idx p0.Columns p1).bind fun x13 =>
 bif (x13.Kind==2) then
  (idx p0.Lists x13.List_).bind fun x22 =>
  (K0 x22 p2).bind fun x25 =>
  some ((x25.length:Nat):Int)
 else
  bif (p2==0) then
   some 1
  else
   (FX x13 p2).bind fun x31 =>
   (DQ x13.High x31).bind fun x35 =>
   (DQ x13.Low x31).bind fun x39 =>
   bif (decide (x31≠0)) then
    bif x13.Optional then
     some (IntKind.i64.wrap ((IntKind.i64.wrap ((IntKind.i64.wrap (Int.tdiv (IntKind.i64.wrap (x35 - x39)) x31)) + 1)) + 1))
    else
     some (IntKind.i64.wrap ((IntKind.i64.wrap (Int.tdiv (IntKind.i64.wrap (x35 - x39)) x31)) + 1))
   else none
def HW (p0:Aa) (p1:Int) (kont1_0:(Int→Option Int)) (rec1:(Int→Option Int)) (v2_1:Int):Option Int :=
 bif (decide (v2_1 > 0)) then
  (ET p0 p1 (IntKind.i64.wrap (v2_1 - 1))).bind fun x25 =>
  (ET p0 p1 v2_1).bind fun x29 =>
  bif (x25==x29) then
   rec1 (IntKind.i64.wrap (v2_1 - 1))
  else
   kont1_0 v2_1
 else
  kont1_0 v2_1
def Dx (p0:Aa) (p1:Int) (p2:Int):Option Int :=
 (DO p0 p1).bind fun x10 =>
 bif (bif (decide (p2 < 0)) then true else (decide (p2 > x10))) then
  some (-1)
 else
  iter (fun rec1 s=>HW p0 p1 (fun v2_1=>some v2_1) rec1 s) A6 p2
def D0 (p0:Int) (q0:(List Ae)) (q1:Aa):Option (List Ae) :=
 (DO q1 p0).bind fun x10 =>
 (Dx q1 p0 x10).bind fun x11 =>
 bif rm q0.length [({ Column:=p0,Level:=x11 }:Ae)].length then
  some (q0++[({ Column:=p0,Level:=x11 }:Ae)])
 else none
def KX (p1:AA) (p0:Aa) (kont2_3:(Int→(List Ae)→Option (List Ae))) (rec2:((Int × (List Ae))→Option (List Ae))) (v69_2:Int) (b30_2:(List Ae)):Option (List Ae) :=
 bif (decide (v69_2 < ((p1.Columns.length:Nat):Int))) then
  (idx p1.Columns v69_2).bind fun x71 =>
  (D0 x71 b30_2 p0).bind fun x75 =>
  rec2 ((IntKind.i64.wrap (v69_2 + 1)),x75)
 else
  kont2_3 v69_2 b30_2
def BA (p1:AA) (p0:Aa) (k30_2:(List Ae)):Option (List Ae) :=
 iter (fun rec2 s=>KX p1 p0 (fun v69_2 b30_2=>some b30_2) rec2 s.1 s.2) A6 (0,k30_2)
def Jt (p1:AA) (p0:Aa) (k30_1:(List Ae)):Option (List Ae) :=
 bif (p1.Op==4) then
  bif (decide (p1.Column > 0)) then
   (D0 p1.Column k30_1 p0).bind fun x47 =>
   BA p1 p0 x47
  else
   BA p1 p0 k30_1
 else
  bif (p1.Op==5) then
   bif (decide (p1.Column > 0)) then
    (D0 p1.Column k30_1 p0).bind fun x47 =>
    BA p1 p0 x47
   else
    BA p1 p0 k30_1
  else
   bif (p1.Op==10) then
    bif (decide (p1.Column > 0)) then
     (D0 p1.Column k30_1 p0).bind fun x47 =>
     BA p1 p0 x47
    else
     BA p1 p0 k30_1
   else
    bif (p1.Op==11) then
     bif (decide (p1.Column > 0)) then
      (D0 p1.Column k30_1 p0).bind fun x47 =>
      BA p1 p0 x47
     else
      BA p1 p0 k30_1
    else
     bif (p1.Op==12) then
      bif (decide (p1.Column > 0)) then
       (D0 p1.Column k30_1 p0).bind fun x47 =>
       BA p1 p0 x47
      else
       BA p1 p0 k30_1
     else
      bif (p1.Op==14) then
       bif (decide (p1.Column > 0)) then
        (D0 p1.Column k30_1 p0).bind fun x47 =>
        BA p1 p0 x47
       else
        BA p1 p0 k30_1
      else
       bif (p1.Op==13) then
        (G0 p0 p1.Column p1.Num).bind fun x61 =>
        (Dx p0 p1.Column x61).bind fun x62 =>
        bif rm k30_1.length [({ Column:=p1.Column,Level:=x62 }:Ae)].length then
         BA p1 p0 (k30_1++[({ Column:=p1.Column,Level:=x62 }:Ae)])
        else none
       else
        BA p1 p0 k30_1
def KU (p1:AA) (p0:Aa) (kont1_0:(Int→(List Ae)→Option (List Ae))) (rec1:((Int × (List Ae))→Option (List Ae))) (v15_1:Int) (b30_1:(List Ae)):Option (List Ae) :=
 bif (decide (v15_1 < ((p1.Dims.length:Nat):Int))) then
  (idx p1.Dims v15_1).bind fun x17 =>
  (Dx p0 x17.Column x17.Level).bind fun x27 =>
  bif rm b30_1.length [({ Column:=x17.Column,Level:=x27 }:Ae)].length then
   rec1 ((IntKind.i64.wrap (v15_1 + 1)),(b30_1++[({ Column:=x17.Column,Level:=x27 }:Ae)]))
  else none
 else
  kont1_0 v15_1 b30_1
def I9 (p0:Aa) (p1:AA):Option (List Ae) :=
 iter (fun rec1 s=>KU p1 p0 (fun v15_1 b30_1=>Jt p1 p0 b30_1) rec1 s.1 s.2) A6 (0,[])
def FY (x16:(List Ae)) (kont2_2:(Int→Int→(List (Int × Int))→Option (List Ae))) (rec2:((Int × Int × (List (Int × Int)))→Option (List Ae))) (v4_2:Int) (v20_2:Int) (b11_2:(List (Int × Int))):Option (List Ae) :=
 bif (decide (v20_2 < ((x16.length:Nat):Int))) then
  (idx x16 v20_2).bind fun x22 =>
  rec2 ((if x22.Column > v4_2 then x22.Column else v4_2),(IntKind.i64.wrap (v20_2 + 1)),(Ug x22.Column (if x22.Level > ((IS x22.Column b11_2).getD 0) then x22.Level else ((IS x22.Column b11_2).getD 0)) b11_2))
 else
  kont2_2 v4_2 v20_2 b11_2
def FF (v4_1:Int) (b11_1:(List (Int × Int))) (kont3_4:(Int→(List Ae)→Option (List Ae))) (rec3:((Int × (List Ae))→Option (List Ae))) (v42_3:Int) (b9_3:(List Ae)):Option (List Ae) :=
 bif (decide (v42_3 < (IntKind.i64.wrap (v4_1 + 1)))) then
  bif (decide (((IS v42_3 b11_1).getD 0) > 0)) then
   bif rm b9_3.length [({ Column:=v42_3,Level:=((IS v42_3 b11_1).getD 0) }:Ae)].length then
    rec3 ((IntKind.i64.wrap (v42_3 + 1)),(b9_3++[({ Column:=v42_3,Level:=((IS v42_3 b11_1).getD 0) }:Ae)]))
   else none
  else
   rec3 ((IntKind.i64.wrap (v42_3 + 1)),b9_3)
 else
  kont3_4 v42_3 b9_3
def FV (p0:(List (List Ae))) (kont1_0:(Int→Int→(List (Int × Int))→Option (List Ae))) (rec1:((Int × Int × (List (Int × Int)))→Option (List Ae))) (v4_1:Int) (v14_1:Int) (b11_1:(List (Int × Int))):Option (List Ae) :=
 bif (decide (v14_1 < ((p0.length:Nat):Int))) then
  (idx p0 v14_1).bind fun x16 =>
  iter (fun rec2 s=>FY x16 (fun v4_2 v20_2 b11_2=>rec1 (v4_2,(IntKind.i64.wrap (v14_1 + 1)),b11_2)) rec2 s.1 s.2.1 s.2.2) A6 (v4_1,0,b11_1)
 else
  kont1_0 v4_1 v14_1 b11_1
def Gs (p0:(List (List Ae))):Option (List Ae) :=
 iter (fun rec1 s=>FV p0 (fun v4_1 v14_1 b11_1=>iter (fun rec3 s=>FF v4_1 b11_1 (fun v42_3 b9_3=>some b9_3) rec3 s.1 s.2) A6 (0,[])) rec1 s.1 s.2.1 s.2.2) A6 (0,0,[])
def LJ (p1:AA) (self_types_needs:(Aa→AA→Option (List Ae))) (p0:Aa) (kont1_0:(Int→(List (List Ae))→Option (List Ae))) (rec1:((Int × (List (List Ae)))→Option (List Ae))) (v23_1:Int) (b19_1:(List (List Ae))):Option (List Ae) :=
 bif (decide (v23_1 < ((p1.Kids.length:Nat):Int))) then
  (idx p1.Kids v23_1).bind fun x25 =>
  (self_types_needs p0 x25).bind fun x30 =>
  bif rm b19_1.length [x30].length then
   rec1 ((IntKind.i64.wrap (v23_1 + 1)),(b19_1++[x30]))
  else none
 else
  kont1_0 v23_1 b19_1
def H6 (d:Nat) (self_types_needs:(Aa→AA→Option (List Ae))) (p0:Aa) (p1:AA):Option (List Ae) :=
 (I9 p0 p1).bind fun x10 =>
 (CI d p0 p1.Cond).bind fun x14 =>
 (CI d p0 p1.Event).bind fun x18 =>
 iter (fun rec1 s=>LJ p1 self_types_needs p0 (fun v23_1 b19_1=>(Gs b19_1).bind fun x35=>some x35) rec1 s.1 s.2) A6 (0,[x10,x14,x18])
def Io:Nat→Aa→AA→Option (List Ae)
 | 0,_,_=>none
 | d + 1,p0,p1=>H6 d (Io d) p0 p1
def GY (d:Nat) (p0:Aa) (p1:AA):Option (List Ae) :=
 (Dc p0).bind fun x6 =>
 bif (x6 != 0) then
  some []
 else
  (DT d p0 p1).bind fun x11 =>
  bif (!x11) then
   some []
  else
   (Io d p0 p1).bind fun x16 =>
   some x16
def Cc (d:Nat) (p0:Aa) (p1:Au) (p2:AA):Option Int :=
 (DR p0 p1).bind fun x10 =>
 bif (x10 != 0) then
  some x10
 else
  (DT d p0 p2).bind fun x17 =>
  bif (!x17) then
   some 11
  else
   (GY d p0 p2).bind fun x24 =>
   (DY p1.Picks x24).bind fun x25 =>
   bif (!x25) then
    some 23
   else
    some 0
def B3 (d:Nat) (self_condition_tell:(Ag→(Ag→Option Int)→Option Int)) (p0:Ag) (p1:(Ag→Option Int)):Option Int :=
 bif (p0.Op==1) then
  some 1
 else
  bif (p0.Op==5) then
   (idx p0.Kids 0).bind fun x13 =>
   (self_condition_tell x13 p1).bind fun x16 =>
   (idx p0.Kids 1).bind fun x19 =>
   (self_condition_tell x19 p1).bind fun x22 =>
   some (if x22 < x16 then x22 else x16)
  else
   bif (p0.Op==6) then
    (idx p0.Kids 0).bind fun x28 =>
    (self_condition_tell x28 p1).bind fun x31 =>
    (idx p0.Kids 1).bind fun x34 =>
    (self_condition_tell x34 p1).bind fun x37 =>
    some (if x37 > x31 then x37 else x31)
   else
    bif (p0.Op==7) then
     (idx p0.Kids 0).bind fun x43 =>
     (self_condition_tell x43 p1).bind fun x46 =>
     some (IntKind.i64.wrap (0 - x46))
    else
     (p1 p0).bind fun x50 =>
     some x50
def Bf:Nat→Ag→(Ag→Option Int)→Option Int
 | 0,_,_=>none
 | d + 1,p0,p1=>B3 d (Bf d) p0 p1
def BT (p0:Ag) (q0:Aa) (q1:(List Int)):Option Int :=
 (idx q1 p0.Column).bind fun x10 =>
 (By q0 p0 x10).bind fun x12 =>
 some x12
def Gn (d:Nat) (p0:Aa) (p1:Ag) (p2:(List Int)):Option Int :=
 (Bf d p1 (fun a0=>BT a0 p0 p2)).bind fun x9 =>
 some x9
def EI (p2:(List Ae)) (p3:(List Int)) (p0:Aa) (kont2_2:(Int→(List Int)→Option Int)) (rec2:((Int × (List Int))→Option Int)) (v36_2:Int) (b18_2:(List Int)):Option Int :=
 bif (decide (v36_2 < ((p2.length:Nat):Int))) then
  (idx p2 v36_2).bind fun x39 =>
  (idx p3 v36_2).bind fun x49 =>
  (Bb p0 x39.Column x39.Level x49).bind fun x51 =>
  bif (!x51.2) then
   some 0
  else
   (idx b18_2 x39.Column).bind fun x60 =>
   rec2 ((IntKind.i64.wrap (v36_2 + 1)),(b18_2.set (x39.Column:Int).toNat x51.1))
 else
  kont2_2 v36_2 b18_2
def EC (p2:(List Ae)) (p3:(List Int)) (p0:Aa) (d:Nat) (p1:Ag) (k18_1:(List Int)):Option Int :=
 iter (fun rec2 s=>EI p2 p3 p0 (fun v36_2 b18_2=>(Gn d p0 p1 b18_2).bind fun x65=>some x65) rec2 s.1 s.2) A6 (0,k18_1)
def ED (p0:Aa) (kont1_0:(Int→(List Int)→Option Int)) (rec1:((Int × (List Int))→Option Int)) (v10_1:Int) (b18_1:(List Int)):Option Int :=
 bif (decide (v10_1 < ((b18_1.length:Nat):Int))) then
  (Bb p0 v10_1 0 0).bind fun x30 =>
  (idx b18_1 v10_1).bind fun x33 =>
  rec1 ((IntKind.i64.wrap (v10_1 + 1)),(b18_1.set (v10_1:Int).toNat x30.1))
 else
  kont1_0 v10_1 b18_1
def El (d:Nat) (p0:Aa) (p1:Ag) (p2:(List Ae)) (p3:(List Int)):Option Int :=
 bif (decide (0≤((p0.Columns.length:Nat):Int)) && rm (((p0.Columns.length:Nat):Int):Int).toNat 0) then
  iter (fun rec1 s=>ED p0 (fun v10_1 b18_1=>EC p2 p3 p0 d p1 b18_1) rec1 s.1 s.2) A6 (1,(List.replicate (((p0.Columns.length:Nat):Int):Int).toNat 0))
 else none
def Fa (p1:Au) (d:Nat) (p0:Aa) (p2:Ag) (kont1_0:(Int→(List Int)→Option (List Int))) (rec1:((Int × (List Int))→Option (List Int))) (v26_1:Int) (b7_1:(List Int)):Option (List Int) :=
 bif (decide (v26_1 < ((p1.Rows.length:Nat):Int))) then
  (idx p1.Rows v26_1).bind fun x29 =>
  bif (decide (0≤(1:Int)∧1≤((x29.length:Nat):Int)∧((x29.length:Nat):Int)≤((x29.length:Nat):Int))) then
   (El d p0 p2 p1.Picks (Mw x29 1 ((x29.length:Nat):Int))).bind fun x37 =>
   bif (x37==1) then
    bif rm b7_1.length [v26_1].length then
     rec1 ((IntKind.i64.wrap (v26_1 + 1)),(b7_1++[v26_1]))
    else none
   else
    rec1 ((IntKind.i64.wrap (v26_1 + 1)),b7_1)
  else none
 else
  kont1_0 v26_1 b7_1
def Fd (p1:Au) (d:Nat) (p0:Aa) (p2:Ag):Option (List Int) :=
 iter (fun rec1 s=>Fa p1 d p0 p2 (fun v26_1 b7_1=>some b7_1) rec1 s.1 s.2) A6 (0,[])
def DZ (d:Nat) (p0:Aa) (p1:Au) (p2:Ag):Option (List Int) :=
 (BW d p0 p2).bind fun x12 =>
 bif (x12 != 0) then
  some []
 else
  (CI d p0 p2).bind fun x19 =>
  (DY p1.Picks x19).bind fun x20 =>
  bif (!x20) then
   some []
  else
   Fd p1 d p0 p2
def Hr (p0:Ae) (q0:Int):Option Bool :=
 some (p0.Column==q0)
def LE (x19:(List Int)) (p0:Am) (p1:Int) (p2:Int) (p3:Int) (kont1_0:(Int→Bool→Int→Option (Int × Bool))) (rec1:((Int × Bool × Int)→Option (Int × Bool))) (v10_1:Int) (v11_1:Bool) (v21_1:Int):Option (Int × Bool) :=
 bif (decide (v21_1 < ((x19.length:Nat):Int))) then
  (idx x19 v21_1).bind fun x23 =>
  (Gh p0 x23 p1).bind fun x28 =>
  bif (x28 != p2) then
   rec1 (v10_1,v11_1,(IntKind.i64.wrap (v21_1 + 1)))
  else
   (Gh p0 x23 p3).bind fun x34 =>
   bif (bif v11_1 then (x34 != v10_1) else false) then
    some (0,false)
   else
    rec1 (x34,true,(IntKind.i64.wrap (v21_1 + 1)))
 else
  kont1_0 v10_1 v11_1 v21_1
def KE (p0:Am) (p1:Int) (p2:Int) (p3:Int):Option (Int × Bool) :=
 (EA p0).bind fun x17 =>
 (K0 p0 (IntKind.i64.wrap (x17 - 1))).bind fun x19 =>
 iter (fun rec1 s=>LE x19 p0 p1 p2 p3 (fun v10_1 v11_1 v21_1=>some (v10_1,v11_1)) rec1 s.1 s.2.1 s.2.2) A6 (0,false,0)
def Cm (p0:Av) (p1:Int) (p2:Int) (p3:Int):Option (Int × Bool) :=
 bif (bif (decide (p1 > 0)) then (p2==(-1099511627776)) else false) then
  bif (p3==0) then
   some (0,p0.Optional)
  else
   some (p2,p0.Optional)
 else
  (Ir p0 p1 p2).bind fun x31 =>
  bif (!x31.2.2) then
   some (0,false)
  else
   bif (p3==0) then
    some (0,true)
   else
    bif (bif (p1==0) then p0.Optional else false) then
     some (0,false)
    else
     (FX p0 p3).bind fun x50 =>
     (DQ x31.1 x50).bind fun x53 =>
     (DQ x31.1 x50).bind fun x56 =>
     (DQ x31.2.1 x50).bind fun x59 =>
     some (x53,(x56==x59))
def EV (p0:Aa) (p1:Int) (p2:Int) (p3:Int) (p4:Int):Option (Int × Bool) :=
 (ER p0 p1).bind fun x18 =>
 bif (bif (bif (bif (decide (p2 < 0)) then true else (decide (p2 > x18))) then true else (decide (p4 < 0))) then true else (decide (p4 > x18))) then
  some (0,false)
 else
  (idx p0.Columns p1).bind fun x38 =>
  bif (x38.Kind==2) then
   (idx p0.Lists x38.List_).bind fun x48 =>
   (KE x48 p2 p3 p4).bind fun x53 =>
   bif (!x53.2) then
    some (0,false)
   else
    some (x53.1,true)
  else
   (Cm x38 p2 p3 p4).bind fun x61 =>
   bif (!x61.2) then
    some (0,false)
   else
    some (x61.1,true)
def CP (p0:Aa) (p1:Au) (p2:Int) (p3:Int) (p4:Int):Option (Int × Bool) :=
 (Bj p1.Picks (fun a0=>Hr a0 p3)).bind fun x16 =>
 bif (decide (x16 < 0)) then
  (EV p0 p3 0 0 p4).bind fun x22 =>
  some (x22.1,x22.2)
 else
  (idx p1.Picks x16).bind fun x30 =>
  (idx p1.Rows p2).bind fun x36 =>
  (idx x36 (IntKind.i64.wrap (x16 + 1))).bind fun x40 =>
  (EV p0 p3 x30.Level x40 p4).bind fun x43 =>
  some (x43.1,x43.2)
def Ii (p0:Int):Option Bool :=
 some (bif (decide (p0 < (-1000000))) then true else (decide (p0 > 1000000)))
def P9 (p0:Int) (p1:Int):Option Int :=
 bif (decide (p1≠0)) then
  bif (decide ((Int.tmod p0 p1) < 0)) then
   some (IntKind.i64.wrap (p0 - (IntKind.i64.wrap ((Int.tmod p0 p1) + p1))))
  else
   some (IntKind.i64.wrap (p0 - (Int.tmod p0 p1)))
 else none
def Lb (x30:(List Int)) (p1:Int) (kont1_1:(Int→(List B4)→Option ((List B4) × Int))) (rec1:((Int × (List B4))→Option ((List B4) × Int))) (v33_1:Int) (b7_1:(List B4)):Option ((List B4) × Int) :=
 bif (decide (v33_1 < ((x30.length:Nat):Int))) then
  (idx x30 v33_1).bind fun x35 =>
  (P9 x35 p1).bind fun x39 =>
  bif (((b7_1.length:Nat):Int)==0) then
   bif rm b7_1.length [({ Low:=x39,Count:=0 }:B4)].length then
    (idx (b7_1++[({ Low:=x39,Count:=0 }:B4)]) (IntKind.i64.wrap ((((b7_1++[({ Low:=x39,Count:=0 }:B4)]).length:Nat):Int) - 1))).bind fun x63 =>
    (idx (b7_1++[({ Low:=x39,Count:=0 }:B4)]) (IntKind.i64.wrap ((((b7_1++[({ Low:=x39,Count:=0 }:B4)]).length:Nat):Int) - 1))).bind fun x67 =>
    rec1 ((IntKind.i64.wrap (v33_1 + 1)),((b7_1++[({ Low:=x39,Count:=0 }:B4)]).set ((IntKind.i64.wrap ((((b7_1++[({ Low:=x39,Count:=0 }:B4)]).length:Nat):Int) - 1)):Int).toNat ({ Low:=x67.Low,Count:=(IntKind.i64.wrap (x63.Count + 1)) }:B4)))
   else none
  else
   (idx b7_1 (IntKind.i64.wrap (((b7_1.length:Nat):Int) - 1))).bind fun x48 =>
   bif (x48.Low != x39) then
    bif rm b7_1.length [({ Low:=x39,Count:=0 }:B4)].length then
     (idx (b7_1++[({ Low:=x39,Count:=0 }:B4)]) (IntKind.i64.wrap ((((b7_1++[({ Low:=x39,Count:=0 }:B4)]).length:Nat):Int) - 1))).bind fun x63 =>
     (idx (b7_1++[({ Low:=x39,Count:=0 }:B4)]) (IntKind.i64.wrap ((((b7_1++[({ Low:=x39,Count:=0 }:B4)]).length:Nat):Int) - 1))).bind fun x67 =>
     rec1 ((IntKind.i64.wrap (v33_1 + 1)),((b7_1++[({ Low:=x39,Count:=0 }:B4)]).set ((IntKind.i64.wrap ((((b7_1++[({ Low:=x39,Count:=0 }:B4)]).length:Nat):Int) - 1)):Int).toNat ({ Low:=x67.Low,Count:=(IntKind.i64.wrap (x63.Count + 1)) }:B4)))
    else none
   else
    (idx b7_1 (IntKind.i64.wrap (((b7_1.length:Nat):Int) - 1))).bind fun x63 =>
    (idx b7_1 (IntKind.i64.wrap (((b7_1.length:Nat):Int) - 1))).bind fun x67 =>
    rec1 ((IntKind.i64.wrap (v33_1 + 1)),(b7_1.set ((IntKind.i64.wrap (((b7_1.length:Nat):Int) - 1)):Int).toNat ({ Low:=x67.Low,Count:=(IntKind.i64.wrap (x63.Count + 1)) }:B4)))
 else
  kont1_1 v33_1 b7_1
def II (p0:(List Int)) (p1:Int):Option ((List B4) × Int) :=
 (Bl p0).bind fun x28 =>
 (Bs x28).bind fun x30 =>
 iter (fun rec1 s=>Lb x30 p1 (fun v33_1 b7_1=>some (b7_1,0)) rec1 s.1 s.2) A6 (0,[])
def Fk (p0:(List Int)) (p1:Int):Option ((List B4) × Int) :=
 bif (decide (((p0.length:Nat):Int) > 200)) then
  some ([],1)
 else
  bif (bif (decide (p1 < 1)) then true else (decide (p1 > 1000000))) then
   some ([],2)
  else
   (Bu p0 Ii).bind fun x25 =>
   bif x25 then
    some ([],2)
   else
    II p0 p1
def Hf (p1:(List Int)) (p0:Au) (kont1_0:(Int→(List Int)→Option (List Int))) (rec1:((Int × (List Int))→Option (List Int))) (v10_1:Int) (b5_1:(List Int)):Option (List Int) :=
 bif (decide (v10_1 < ((p1.length:Nat):Int))) then
  (idx p1 v10_1).bind fun x12 =>
  (idx p0.Rows x12).bind fun x18 =>
  (idx x18 0).bind fun x20 =>
  bif rm b5_1.length [x20].length then
   rec1 ((IntKind.i64.wrap (v10_1 + 1)),(b5_1++[x20]))
  else none
 else
  kont1_0 v10_1 b5_1
def G4 (p0:Au) (p1:(List Int)):Option (List Int) :=
 iter (fun rec1 s=>Hf p1 p0 (fun v10_1 b5_1=>some b5_1) rec1 s.1 s.2) A6 (0,[])
def Lp (p3:Int) (p1:Au) (v37_1:Int) (b14_1:(List Int)) (b15_1:(List Int)):Option ((List B4) × (List Int) × Int) :=
 (Fk b15_1 p3).bind fun x70 =>
 bif (x70.2 != 0) then
  some ([],[],x70.2)
 else
  (G4 p1 b14_1).bind fun x79 =>
  some (x70.1,x79,0)
def Ji (x35:(List Int)) (p0:Aa) (p2:Int) (p3:Int) (p1:Au) (kont1_0:(Int→(List Int)→(List Int)→Option ((List B4) × (List Int) × Int))) (rec1:((Int × (List Int) × (List Int))→Option ((List B4) × (List Int) × Int))) (v37_1:Int) (b14_1:(List Int)) (b15_1:(List Int)):Option ((List B4) × (List Int) × Int) :=
 bif (decide (v37_1 < ((x35.length:Nat):Int))) then
  (idx x35 v37_1).bind fun x39 =>
  (G0 p0 p2 p3).bind fun x49 =>
  (CP p0 p1 x39 p2 x49).bind fun x50 =>
  bif (bif x50.2 then (x50.1 != (-1099511627776)) else false) then
   bif rm b14_1.length [x39].length then
    bif rm b15_1.length [x50.1].length then
     rec1 ((IntKind.i64.wrap (v37_1 + 1)),(b14_1++[x39]),(b15_1++[x50.1]))
    else none
   else none
  else
   rec1 ((IntKind.i64.wrap (v37_1 + 1)),b14_1,b15_1)
 else
  kont1_0 v37_1 b14_1 b15_1
def Hj (d:Nat) (p0:Aa) (p1:Au) (p2:Int) (p3:Int) (p4:Ag):Option ((List B4) × (List Int) × Int) :=
 (Cc d p0 p1 ({ Op:=13,Num:=p3,Name:=ByteArray.empty,Column:=p2,Columns:=[],Dims:=[],Cond:=p4,Event:=({ Op:=0,Column:=0,Code:=0,Low:=0,High:=0,Kids:=[] }:Ag),Kids:=[] }:AA)).bind fun x28 =>
 bif (x28 != 0) then
  some ([],[],x28)
 else
  (DZ d p0 p1 p4).bind fun x35 =>
  iter (fun rec1 s=>Ji x35 p0 p2 p3 p1 (Lp p3 p1) rec1 s.1 s.2.1 s.2.2) A6 (0,[],[])
def Cn (p0:(List Int)):Option (He × Int) :=
 bif (decide (((p0.length:Nat):Int) > 200)) then
  some (({ Count:=0,Least:=0,Lower:=0,Middle:=0,Upper:=0,Greatest:=0 }:He),1)
 else
  (Bu p0 Ii).bind fun x14 =>
  bif x14 then
   some (({ Count:=0,Least:=0,Lower:=0,Middle:=0,Upper:=0,Greatest:=0 }:He),2)
  else
   bif (((p0.length:Nat):Int)==0) then
    some (({ Count:=0,Least:=0,Lower:=0,Middle:=0,Upper:=0,Greatest:=0 }:He),18)
   else
    (Bl p0).bind fun x21 =>
    (Bs x21).bind fun x23 =>
    (idx x23 0).bind fun x26 =>
    (idx x23 (IntKind.i64.wrap (Int.tdiv (IntKind.i64.wrap (((p0.length:Nat):Int) - 1)) 4))).bind fun x32 =>
    (idx x23 (IntKind.i64.wrap (Int.tdiv (IntKind.i64.wrap (((p0.length:Nat):Int) - 1)) 2))).bind fun x38 =>
    (idx x23 (IntKind.i64.wrap (Int.tdiv (IntKind.i64.wrap (3 * (IntKind.i64.wrap (((p0.length:Nat):Int) - 1)))) 4))).bind fun x45 =>
    (idx x23 (IntKind.i64.wrap (((p0.length:Nat):Int) - 1))).bind fun x50 =>
    some (({ Count:=((p0.length:Nat):Int),Least:=x26,Lower:=x32,Middle:=x38,Upper:=x45,Greatest:=x50 }:He),0)
def Dl (p0:Int) (q0:Aa) (q1:Au) (q2:Int):Option Bool :=
 (DO q0 p0).bind fun x15 =>
 (CP q0 q1 q2 p0 x15).bind fun x16 =>
 some (bif (!x16.2) then true else (x16.1==(-1099511627776)))
def FK (p0:Int) (q0:(List Int)) (q1:Aa) (q2:Au):Option Bool :=
 (Bu q0 (fun a0=>Dl a0 q1 q2 p0)).bind fun x8 =>
 some x8
def Gv (d:Nat) (p0:Aa) (p1:Au) (p2:Ag) (p3:(List Int)):Option (List Int) :=
 (DR p0 p1).bind fun x11 =>
 bif (x11 != 0) then
  some []
 else
  (DZ d p0 p1 p2).bind fun x16 =>
  (CU x16 (fun a0=>FK a0 p3 p0 p1)).bind fun x18 =>
  some x18
def FR (p2:(List Int)) (p0:Aa) (p3:Int) (p1:Au) (kont1_0:(Int→(List Int)→Option (List Int))) (rec1:((Int × (List Int))→Option (List Int))) (v16_1:Int) (b9_1:(List Int)):Option (List Int) :=
 bif (decide (v16_1 < ((p2.length:Nat):Int))) then
  (idx p2 v16_1).bind fun x18 =>
  (DO p0 p3).bind fun x27 =>
  (CP p0 p1 x18 p3 x27).bind fun x28 =>
  bif rm b9_1.length [x28.1].length then
   rec1 ((IntKind.i64.wrap (v16_1 + 1)),(b9_1++[x28.1]))
  else none
 else
  kont1_0 v16_1 b9_1
def Gq (p0:Aa) (p1:Au) (p2:(List Int)) (p3:Int):Option (List Int) :=
 iter (fun rec1 s=>FR p2 p0 p3 p1 (fun v16_1 b9_1=>some b9_1) rec1 s.1 s.2) A6 (0,[])
def H3 (d:Nat) (p0:Aa) (p1:Au) (p2:Int) (p3:Ag):Option (He × (List Int) × Int) :=
 (Cc d p0 p1 ({ Op:=14,Num:=0,Name:=ByteArray.empty,Column:=p2,Columns:=[],Dims:=[],Cond:=p3,Event:=({ Op:=0,Column:=0,Code:=0,Low:=0,High:=0,Kids:=[] }:Ag),Kids:=[] }:AA)).bind fun x20 =>
 bif (x20 != 0) then
  some (({ Count:=0,Least:=0,Lower:=0,Middle:=0,Upper:=0,Greatest:=0 }:He),[],x20)
 else
  (Gv d p0 p1 p3 [p2]).bind fun x30 =>
  (Gq p0 p1 x30 p2).bind fun x36 =>
  (Cn x36).bind fun x37 =>
  bif (x37.2 != 0) then
   some (({ Count:=0,Least:=0,Lower:=0,Middle:=0,Upper:=0,Greatest:=0 }:He),[],x37.2)
  else
   (G4 p1 x30).bind fun x47 =>
   some (x37.1,x47,0)
def La (p0:(List (List Int))) (p1:(List Int)) (kont1_0:(Bool→Int→(List (List Int))→Option (List (List Int)))) (rec1:((Bool × Int × (List (List Int)))→Option (List (List Int)))) (v6_1:Bool) (v7_1:Int) (b5_1:(List (List Int))):Option (List (List Int)) :=
 bif (decide (v7_1 < ((p0.length:Nat):Int))) then
  (idx p0 v7_1).bind fun x16 =>
  (idx x16 0).bind fun x18 =>
  (idx p1 0).bind fun x21 =>
  bif (x18==x21) then
   rec1 (v6_1,(IntKind.i64.wrap (v7_1 + 1)),b5_1)
  else
   (idx p0 v7_1).bind fun x26 =>
   (idx x26 0).bind fun x28 =>
   (idx p1 0).bind fun x31 =>
   bif (bif (decide (x28 > x31)) then (!v6_1) else false) then
    bif rm b5_1.length [p1].length then
     (idx p0 v7_1).bind fun x45 =>
     bif rm (b5_1++[p1]).length [x45].length then
      rec1 (true,(IntKind.i64.wrap (v7_1 + 1)),((b5_1++[p1])++[x45]))
     else none
    else none
   else
    (idx p0 v7_1).bind fun x45 =>
    bif rm b5_1.length [x45].length then
     rec1 (v6_1,(IntKind.i64.wrap (v7_1 + 1)),(b5_1++[x45]))
    else none
 else
  kont1_0 v6_1 v7_1 b5_1
def Lv (p0:(List (List Int))) (p1:(List Int)):Option (List (List Int)) :=
 iter (fun rec1 s=>La p0 p1 (fun v6_1 v7_1 b5_1=>bif (!v6_1) then   bif rm b5_1.length [p1].length then     some (b5_1++[p1])   else none else   some b5_1) rec1 s.1 s.2.1 s.2.2) A6 (false,0,[])
def OY (p0:Am) (kont1_0:(Int→Int→Option Int)) (rec1:((Int × Int)→Option Int)) (v1_1:Int) (v5_1:Int):Option Int :=
 (idx p0.Codes v1_1).bind fun x9 =>
 bif (decide (x9.Parent ≥ 0)) then
  (idx p0.Codes v1_1).bind fun x16 =>
  rec1 (x16.Parent,(IntKind.i64.wrap (v5_1 + 1)))
 else
  kont1_0 v1_1 v5_1
def DU (p0:Am) (p1:Int):Option Int :=
 iter (fun rec1 s=>OY p0 (fun v1_1 v5_1=>some v5_1) rec1 s.1 s.2) A6 (p1,0)
def MK (p0:ByteArray):Option Bool :=
 bif (p0.toList==({ data:=#[97,108,108] }:ByteArray).toList) then
  some false
 else
  bif (p0.toList==({ data:=#[97,110,100] }:ByteArray).toList) then
   some false
  else
   bif (p0.toList==({ data:=#[101,118,101,110,116] }:ByteArray).toList) then
    some false
   else
    bif (p0.toList==({ data:=#[102,114,111,109] }:ByteArray).toList) then
     some false
    else
     bif (p0.toList==({ data:=#[109,105,115,115,105,110,103] }:ByteArray).toList) then
      some false
     else
      bif (p0.toList==({ data:=#[110,111,116] }:ByteArray).toList) then
       some false
      else
       bif (p0.toList==({ data:=#[111,110] }:ByteArray).toList) then
        some false
       else
        bif (p0.toList==({ data:=#[111,114] }:ByteArray).toList) then
         some false
        else
         bif (p0.toList==({ data:=#[116,111] }:ByteArray).toList) then
          some false
         else
          bif (p0.toList==({ data:=#[117,110,100,101,114] }:ByteArray).toList) then
           some false
          else
           bif (p0.toList==({ data:=#[119,104,101,114,101] }:ByteArray).toList) then
            some false
           else
            some true
def Qg (p0:ByteArray) (kont1_0:(Int→Option Bool)) (rec1:(Int→Option Bool)) (v3_1:Int):Option Bool :=
 bif (decide (v3_1 < ((p0.size:Nat):Int))) then
  bif (decide (0≤(v3_1:Int)∧(v3_1:Int).toNat < p0.size)) then
   bif (decide ((FW p0 v3_1) ≥ 97)) then
    bif (decide (0≤(v3_1:Int)∧(v3_1:Int).toNat < p0.size)) then
     bif (decide ((FW p0 v3_1)≤122)) then
      rec1 (IntKind.i64.wrap (v3_1 + 1))
     else
      bif (decide (0≤(v3_1:Int)∧(v3_1:Int).toNat < p0.size)) then
       bif (decide ((FW p0 v3_1) ≥ 48)) then
        bif (decide (0≤(v3_1:Int)∧(v3_1:Int).toNat < p0.size)) then
         bif (decide ((FW p0 v3_1)≤57)) then
          rec1 (IntKind.i64.wrap (v3_1 + 1))
         else
          bif (decide (0≤(v3_1:Int)∧(v3_1:Int).toNat < p0.size)) then
           bif (!((FW p0 v3_1)==95)) then
            some false
           else
            rec1 (IntKind.i64.wrap (v3_1 + 1))
          else none
        else none
       else
        bif (decide (0≤(v3_1:Int)∧(v3_1:Int).toNat < p0.size)) then
         bif (!((FW p0 v3_1)==95)) then
          some false
         else
          rec1 (IntKind.i64.wrap (v3_1 + 1))
        else none
      else none
    else none
   else
    bif (decide (0≤(v3_1:Int)∧(v3_1:Int).toNat < p0.size)) then
     bif (decide ((FW p0 v3_1) ≥ 48)) then
      bif (decide (0≤(v3_1:Int)∧(v3_1:Int).toNat < p0.size)) then
       bif (decide ((FW p0 v3_1)≤57)) then
        rec1 (IntKind.i64.wrap (v3_1 + 1))
       else
        bif (decide (0≤(v3_1:Int)∧(v3_1:Int).toNat < p0.size)) then
         bif (!((FW p0 v3_1)==95)) then
          some false
         else
          rec1 (IntKind.i64.wrap (v3_1 + 1))
        else none
      else none
     else
      bif (decide (0≤(v3_1:Int)∧(v3_1:Int).toNat < p0.size)) then
       bif (!((FW p0 v3_1)==95)) then
        some false
       else
        rec1 (IntKind.i64.wrap (v3_1 + 1))
      else none
    else none
  else none
 else
  kont1_0 v3_1
def MB (p0:ByteArray):Option Bool :=
 iter (fun rec1 s=>Qg p0 (fun v3_1=>MK p0) rec1 s) A6 0
def BK (p0:ByteArray):Option Bool :=
 bif (bif (decide (((p0.size:Nat):Int) < 1)) then true else (decide (((p0.size:Nat):Int) > 16))) then
  some false
 else
  bif (decide (0≤(0:Int)∧(0:Int).toNat < p0.size)) then
   bif (decide ((FW p0 0) < 97)) then
    some false
   else
    bif (decide (0≤(0:Int)∧(0:Int).toNat < p0.size)) then
     bif (decide ((FW p0 0) > 122)) then
      some false
     else
      MB p0
    else none
  else none
def Qi (p0:Am) (p1:Int) (kont1_0:(Int→Option Bool)) (rec1:(Int→Option Bool)) (v5_1:Int):Option Bool :=
 bif (decide (v5_1 < ((p0.Codes.length:Nat):Int))) then
  (idx p0.Codes v5_1).bind fun x16 =>
  bif (x16.Parent==p1) then
   some false
  else
   rec1 (IntKind.i64.wrap (v5_1 + 1))
 else
  kont1_0 v5_1
def QE (p0:Am) (p1:Int):Option Bool :=
 iter (fun rec1 s=>Qi p0 p1 (fun v5_1=>some true) rec1 s) A6 0
def OZ (p0:Am) (kont3_4:(Int→Int→Option Int)) (rec3:((Int × Int)→Option Int)) (v6_3:Int) (v7_3:Int):Option Int :=
 bif (decide (v7_3 < ((p0.Codes.length:Nat):Int))) then
  (QE p0 v7_3).bind fun x87 =>
  bif x87 then
   bif (decide (v6_3 ≥ 0)) then
    (DU p0 v7_3).bind fun x93 =>
    bif (x93 != v6_3) then
     some 5
    else
     (DU p0 v7_3).bind fun x99 =>
     rec3 (x99,(IntKind.i64.wrap (v7_3 + 1)))
   else
    (DU p0 v7_3).bind fun x99 =>
    rec3 (x99,(IntKind.i64.wrap (v7_3 + 1)))
  else
   rec3 (v6_3,(IntKind.i64.wrap (v7_3 + 1)))
 else
  kont3_4 v6_3 v7_3
def LQ (p0:Am):Option Int :=
 iter (fun rec3 s=>OZ p0 (fun v6_3 v7_3=>some 0) rec3 s.1 s.2) A6 ((-1),0)
def Jx (p0:Am) (v3_1:Int) (rec1:(Int→Option Int)) (v4_2:Int):Option Int :=
 (idx p0.Codes v3_1).bind fun x56 =>
 bif (bif (bif (v3_1==0) then (x56.Parent != (-1)) else false) then true else (bif (decide (v3_1 > 0)) then (bif (decide (x56.Parent < 0)) then true else (decide (x56.Parent ≥ v3_1))) else false)) then
  some 6
 else
  rec1 (IntKind.i64.wrap (v3_1 + 1))
def Pm (v3_1:Int) (p0:Am) (kont2_2:(Int→Option Int)) (rec2:(Int→Option Int)) (v4_2:Int):Option Int :=
 bif (decide (v4_2 < v3_1)) then
  (idx p0.Codes v4_2).bind fun x43 =>
  (idx p0.Codes v3_1).bind fun x49 =>
  bif (x43.Name.toList==x49.Name.toList) then
   some 10
  else
   rec2 (IntKind.i64.wrap (v4_2 + 1))
 else
  kont2_2 v4_2
def Pv (p0:Am) (kont1_0:(Int→Option Int)) (rec1:(Int→Option Int)) (v3_1:Int):Option Int :=
 bif (decide (v3_1 < ((p0.Codes.length:Nat):Int))) then
  (idx p0.Codes v3_1).bind fun x30 =>
  (BK x30.Name).bind fun x33 =>
  bif (!x33) then
   some 3
  else
   iter (fun rec2 s=>Pm v3_1 p0 (Jx p0 v3_1 rec1) rec2 s) A6 0
 else
  kont1_0 v3_1
def EQ (p0:Am):Option Int :=
 (BK p0.Name).bind fun x10 =>
 bif (!x10) then
  some 3
 else
  bif (((p0.Codes.length:Nat):Int)==0) then
   some 5
  else
   bif (decide (((p0.Codes.length:Nat):Int) > 60)) then
    some 1
   else
    iter (fun rec1 s=>Pv p0 (fun v3_1=>LQ p0) rec1 s) A6 0
def EN (p0:Am):Option Int :=
 (EQ p0).bind fun x4 =>
 bif (x4 != 0) then
  some (-1)
 else
  (DU p0 (IntKind.i64.wrap (((p0.Codes.length:Nat):Int) - 1))).bind fun x11 =>
  some (IntKind.i64.wrap (x11 + 1))
def ST (p0:Am) (p1:Int) (kont1_0:(Int→(List Int)→Option (List Int))) (rec1:((Int × (List Int))→Option (List Int))) (v6_1:Int) (b5_1:(List Int)):Option (List Int) :=
 bif (decide (v6_1 < ((p0.Codes.length:Nat):Int))) then
  (DU p0 v6_1).bind fun x19 =>
  bif (x19==p1) then
   bif rm b5_1.length [v6_1].length then
    rec1 ((IntKind.i64.wrap (v6_1 + 1)),(b5_1++[v6_1]))
   else none
  else
   rec1 ((IntKind.i64.wrap (v6_1 + 1)),b5_1)
 else
  kont1_0 v6_1 b5_1
def Nu (p0:Am) (p1:Int):Option (List Int) :=
 (EQ p0).bind fun x8 =>
 bif (x8 != 0) then
  some []
 else
  iter (fun rec1 s=>ST p0 p1 (fun v6_1 b5_1=>some b5_1) rec1 s.1 s.2) A6 (0,[])
def Cg (p0:Aa) (p1:Int):Option (List Int) :=
 (idx p0.Columns p1).bind fun x11 =>
 (idx p0.Lists x11.List_).bind fun x14 =>
 (EN x14).bind fun x18 =>
 (Nu x14 (IntKind.i64.wrap (x18 - 1))).bind fun x20 =>
 some x20
def Dm (p0:Int) (p1:Int) (p2:Int):Option Bool :=
 some (bif (decide (p1≤p0)) then (decide (p0≤p2)) else false)
def Nv (p0:Av) (kont1_0:(Int→Option Int)) (rec1:(Int→Option Int)) (v3_1:Int):Option Int :=
 bif (decide (v3_1 < ((p0.Widths.length:Nat):Int))) then
  (idx p0.Widths v3_1).bind fun x42 =>
  bif (bif (v3_1==0) then (x42 != 1) else false) then
   some 2
  else
   bif (decide (v3_1 > 0)) then
    (idx p0.Widths (IntKind.i64.wrap (v3_1 - 1))).bind fun x59 =>
    bif (bif (decide (x42≤x59)) then true else (decide (x42 > 1000000))) then
     some 2
    else
     (idx p0.Widths (IntKind.i64.wrap (v3_1 - 1))).bind fun x72 =>
     bif (decide (x72≠0)) then
      bif ((Int.tmod x42 x72) != 0) then
       some 2
      else
       rec1 (IntKind.i64.wrap (v3_1 + 1))
     else none
   else
    rec1 (IntKind.i64.wrap (v3_1 + 1))
 else
  kont1_0 v3_1
def Hi (p0:Av):Option Int :=
 bif (bif (decide (((p0.Widths.length:Nat):Int) < 1)) then true else (decide (((p0.Widths.length:Nat):Int) > 4))) then
  some 1
 else
  iter (fun rec1 s=>Nv p0 (fun v3_1=>some 0) rec1 s) A6 0
def Hw (p0:Av):Option Int :=
 (Dm p0.Low (-1000000) 1000000).bind fun x7 =>
 bif (!x7) then
  some 2
 else
  (Dm p0.High (-1000000) 1000000).bind fun x12 =>
  bif (bif (!x12) then true else (decide (p0.Low > p0.High))) then
   some 2
  else
   Hi p0
def E1 (x11:Av):Option Int :=
 bif (x11.Kind==3) then
  (Hw x11).bind fun x61 =>
  bif (x61 != 0) then
   some x61
  else
   bif (bif (bif (x11.Kind != 2) then (x11.List_ != 0) else false) then true else (bif (x11.Kind != 3) then (bif (bif (bif (x11.Low != 0) then true else (x11.High != 0)) then true else (decide (((x11.Widths.length:Nat):Int) > 0))) then true else x11.Optional) else false)) then
    some 11
   else
    some 0
 else
  bif (bif (bif (x11.Kind != 2) then (x11.List_ != 0) else false) then true else (bif (x11.Kind != 3) then (bif (bif (bif (x11.Low != 0) then true else (x11.High != 0)) then true else (decide (((x11.Widths.length:Nat):Int) > 0))) then true else x11.Optional) else false)) then
   some 11
  else
   some 0
def HT (x11:Av) (p1:Int) (p0:Aa):Option Int :=
 (Dm x11.Kind 1 3).bind fun x33 =>
 bif (bif (!x33) then true else (bif (decide (p1 > 0)) then (x11.Kind==1) else false)) then
  some 4
 else
  bif (x11.Kind==2) then
   (Dm x11.List_ 0 (IntKind.i64.wrap (((p0.Lists.length:Nat):Int) - 1))).bind fun x54 =>
   bif (!x54) then
    some 5
   else
    E1 x11
  else
   E1 x11
def HE (p1:Int) (p0:Aa) (x11:Av) (kont1_0:(Int→Option Int)) (rec1:(Int→Option Int)) (v6_1:Int):Option Int :=
 bif (decide (v6_1 < p1)) then
  (idx p0.Columns v6_1).bind fun x25 =>
  bif (x25.Name.toList==x11.Name.toList) then
   some 10
  else
   rec1 (IntKind.i64.wrap (v6_1 + 1))
 else
  kont1_0 v6_1
def Jz (p0:Aa) (p1:Int):Option Int :=
 (idx p0.Columns p1).bind fun x11 =>
 (BK x11.Name).bind fun x15 =>
 bif (!x15) then
  some 3
 else
  iter (fun rec1 s=>HE p1 p0 x11 (fun v6_1=>HT x11 p1 p0) rec1 s) A6 0
def Jp (p0:Aa) (kont3_4:(Int→Option Int)) (rec3:(Int→Option Int)) (v6_3:Int):Option Int :=
 bif (decide (v6_3 < ((p0.Columns.length:Nat):Int))) then
  (Jz p0 v6_3).bind fun x73 =>
  bif (x73 != 0) then
   some x73
  else
   rec3 (IntKind.i64.wrap (v6_3 + 1))
 else
  kont3_4 v6_3
def J2 (p0:Aa):Option Int :=
 bif (((p0.Columns.length:Nat):Int)==0) then
  some 7
 else
  (idx p0.Columns 0).bind fun x59 =>
  bif (x59.Kind != 1) then
   some 7
  else
   iter (fun rec3 s=>Jp p0 (fun v6_3=>some 0) rec3 s) A6 0
def J4 (v3_1:Int) (p0:Aa) (kont2_2:(Int→Option Int)) (rec2:(Int→Option Int)) (v5_2:Int):Option Int :=
 bif (decide (v5_2 < v3_1)) then
  (idx p0.Lists v5_2).bind fun x42 =>
  (idx p0.Lists v3_1).bind fun x48 =>
  bif (x42.Name.toList==x48.Name.toList) then
   some 10
  else
   rec2 (IntKind.i64.wrap (v5_2 + 1))
 else
  kont2_2 v5_2
def IR (p0:Aa) (kont1_0:(Int→Option Int)) (rec1:(Int→Option Int)) (v3_1:Int):Option Int :=
 bif (decide (v3_1 < ((p0.Lists.length:Nat):Int))) then
  (idx p0.Lists v3_1).bind fun x28 =>
  (EQ x28).bind fun x30 =>
  bif (x30 != 0) then
   some x30
  else
   iter (fun rec2 s=>J4 v3_1 p0 (fun v5_2=>rec1 (IntKind.i64.wrap (v3_1 + 1))) rec2 s) A6 0
 else
  kont1_0 v3_1
def C3 (p0:Aa):Option Int :=
 bif (bif (decide (((p0.Lists.length:Nat):Int) > 6)) then true else (decide (((p0.Columns.length:Nat):Int) > 8))) then
  some 1
 else
  iter (fun rec1 s=>IR p0 (fun v3_1=>J2 p0) rec1 s) A6 0
def B7 (p0:Aa) (p1:Int):Option Int :=
 (C3 p0).bind fun x7 =>
 bif (bif (bif (x7 != 0) then true else (decide (p1 < 1))) then true else (decide (p1 ≥ ((p0.Columns.length:Nat):Int)))) then
  some (-1)
 else
  (idx p0.Columns p1).bind fun x23 =>
  bif (x23.Kind==2) then
   (idx p0.Lists x23.List_).bind fun x32 =>
   (EN x32).bind fun x34 =>
   some (IntKind.i64.wrap (x34 - 1))
  else
   some ((x23.Widths.length:Nat):Int)
def GR (p0:Am) (p1:Int):Option Int :=
 (EQ p0).bind fun x6 =>
 bif (bif (bif (x6 != 0) then true else (decide (p1 < 0))) then true else (decide (p1 ≥ ((p0.Codes.length:Nat):Int)))) then
  some (-1)
 else
  (DU p0 p1).bind fun x21 =>
  some x21
def Iz (p0:Aa) (p1:Int) (p2:Int):Option Bool :=
 (idx p0.Columns p1).bind fun x12 =>
 bif (x12.Kind==1) then
  (Dm p2 1 1048575).bind fun x19 =>
  some x19
 else
  bif (x12.Kind==2) then
   (idx p0.Lists x12.List_).bind fun x26 =>
   (Dm p2 0 (IntKind.i64.wrap (((x26.Codes.length:Nat):Int) - 1))).bind fun x33 =>
   bif x33 then
    (GR x26 p2).bind fun x37 =>
    (EN x26).bind fun x39 =>
    some (x37==(IntKind.i64.wrap (x39 - 1)))
   else
    some false
  else
   bif (bif x12.Optional then (p2==(-1099511627776)) else false) then
    some true
   else
    (Dm p2 x12.Low x12.High).bind fun x55 =>
    some x55
def Tw (p0:Am) (p2:Int) (kont1_0:(Int→Option Int)) (rec1:(Int→Option Int)) (v1_1:Int):Option Int :=
 (DU p0 v1_1).bind fun x34 =>
 bif (decide (x34 > p2)) then
  (idx p0.Codes v1_1).bind fun x40 =>
  rec1 x40.Parent
 else
  kont1_0 v1_1
def Jg (p0:Am) (p1:Int) (p2:Int):Option Int :=
 (EQ p0).bind fun x8 =>
 bif (bif (bif (bif (x8 != 0) then true else (decide (p1 < 0))) then true else (decide (p1 ≥ ((p0.Codes.length:Nat):Int)))) then true else (decide (p2 < 0))) then
  some (-1)
 else
  (DU p0 p1).bind fun x29 =>
  bif (decide (p2 > x29)) then
   some (-1)
  else
   iter (fun rec1 s=>Tw p0 p2 (fun v1_1=>some v1_1) rec1 s) A6 p1
def C6 (p0:Av) (p1:Int):Option Int :=
 (idx p0.Widths (IntKind.i64.wrap (((p0.Widths.length:Nat):Int) - p1))).bind fun x12 =>
 some x12
def DX (p0:Int) (p1:Int):Option Int :=
 bif (decide (p1≠0)) then
  bif (decide (p1≠0)) then
   bif (decide ((Int.tmod p0 p1) < 0)) then
    some (IntKind.i64.wrap ((IntKind.i64.wrap (Int.tdiv p0 p1)) - 1))
   else
    some (IntKind.i64.wrap (Int.tdiv p0 p1))
  else none
 else none
def AP (p0:Aa) (p1:Int) (p2:Int) (p3:Int):Option Int :=
 (B7 p0 p1).bind fun x14 =>
 (Dm p2 0 x14).bind fun x15 =>
 bif (!x15) then
  some (-1)
 else
  (idx p0.Columns p1).bind fun x20 =>
  bif (x20.Kind==2) then
   (Iz p0 p1 p3).bind fun x28 =>
   bif (!x28) then
    some (-1)
   else
    (idx p0.Lists x20.List_).bind fun x34 =>
    (Jg x34 p3 p2).bind fun x38 =>
    some x38
  else
   bif (p3 != (-1099511627776)) then
    (Dm p3 (-1000000) 1000000).bind fun x43 =>
    bif (!x43) then
     some (-1)
    else
     bif (p2==0) then
      some 0
     else
      bif (p3==(-1099511627776)) then
       some p3
      else
       (C6 x20 p2).bind fun x53 =>
       (DX p3 x53).bind fun x56 =>
       some (IntKind.i64.wrap (x56 * x53))
   else
    bif (p2==0) then
     some 0
    else
     bif (p3==(-1099511627776)) then
      some p3
     else
      (C6 x20 p2).bind fun x53 =>
      (DX p3 x53).bind fun x56 =>
      some (IntKind.i64.wrap (x56 * x53))
def M7 (p0:B2) (p1:Int) (kont1_0:(Int→Option Int)) (rec1:(Int→Option Int)) (v5_1:Int):Option Int :=
 bif (decide (v5_1 < ((p0.Rows.length:Nat):Int))) then
  (idx p0.Rows v5_1).bind fun x16 =>
  bif (decide (((x16.length:Nat):Int) > 0)) then
   (idx p0.Rows v5_1).bind fun x24 =>
   (idx x24 0).bind fun x26 =>
   bif (x26==p1) then
    some v5_1
   else
    rec1 (IntKind.i64.wrap (v5_1 + 1))
  else
   rec1 (IntKind.i64.wrap (v5_1 + 1))
 else
  kont1_0 v5_1
def Ig (p0:B2) (p1:Int):Option Int :=
 iter (fun rec1 s=>M7 p0 p1 (fun v5_1=>some (-1)) rec1 s) A6 0
def Lo (p1:(List Int)) (p0:Aa) (kont1_0:(Int→Option Int)) (rec1:(Int→Option Int)) (v6_1:Int):Option Int :=
 bif (decide (v6_1 < ((p1.length:Nat):Int))) then
  (idx p1 v6_1).bind fun x28 =>
  (Iz p0 v6_1 x28).bind fun x30 =>
  bif (!x30) then
   some 9
  else
   rec1 (IntKind.i64.wrap (v6_1 + 1))
 else
  kont1_0 v6_1
def JE (p0:Aa) (p1:(List Int)):Option Int :=
 (C3 p0).bind fun x8 =>
 bif (x8 != 0) then
  some x8
 else
  bif (((p1.length:Nat):Int) != ((p0.Columns.length:Nat):Int)) then
   some 9
  else
   iter (fun rec1 s=>Lo p1 p0 (fun v6_1=>some 0) rec1 s) A6 0
def LM (p0:B2) (kont2_2:(Int→Option Bool)) (rec2:(Int→Option Bool)) (v4_2:Int):Option Bool :=
 bif (decide (v4_2 < ((p0.Gone.length:Nat):Int))) then
  (idx p0.Gone v4_2).bind fun x79 =>
  bif (decide (x79 < 1)) then
   some false
  else
   (idx p0.Gone v4_2).bind fun x86 =>
   bif (decide (x86 > 1048575)) then
    some false
   else
    bif (decide (v4_2 > 0)) then
     (idx p0.Gone v4_2).bind fun x97 =>
     (idx p0.Gone (IntKind.i64.wrap (v4_2 - 1))).bind fun x103 =>
     bif (decide (x97≤x103)) then
      some false
     else
      (idx p0.Gone v4_2).bind fun x113 =>
      (Ig p0 x113).bind fun x115 =>
      bif (decide (x115 ≥ 0)) then
       some false
      else
       rec2 (IntKind.i64.wrap (v4_2 + 1))
    else
     (idx p0.Gone v4_2).bind fun x113 =>
     (Ig p0 x113).bind fun x115 =>
     bif (decide (x115 ≥ 0)) then
      some false
     else
      rec2 (IntKind.i64.wrap (v4_2 + 1))
 else
  kont2_2 v4_2
def Jl (p0:B2):Option Bool :=
 iter (fun rec2 s=>LM p0 (fun v4_2=>some true) rec2 s) A6 0
def IM (p0:B2) (kont1_0:(Int→Option Bool)) (rec1:(Int→Option Bool)) (v3_1:Int):Option Bool :=
 bif (decide (v3_1 < ((p0.Rows.length:Nat):Int))) then
  (idx p0.Rows v3_1).bind fun x43 =>
  (JE p0.Schema x43).bind fun x45 =>
  bif (x45 != 0) then
   some false
  else
   bif (decide (v3_1 > 0)) then
    (idx p0.Rows v3_1).bind fun x54 =>
    (idx x54 0).bind fun x56 =>
    (idx p0.Rows (IntKind.i64.wrap (v3_1 - 1))).bind fun x62 =>
    (idx x62 0).bind fun x64 =>
    bif (decide (x56≤x64)) then
     some false
    else
     rec1 (IntKind.i64.wrap (v3_1 + 1))
   else
    rec1 (IntKind.i64.wrap (v3_1 + 1))
 else
  kont1_0 v3_1
def Iw (p0:B2):Option Bool :=
 (C3 p0.Schema).bind fun x7 =>
 bif (bif (bif (bif (bif (x7 != 0) then true else (decide (((p0.Rows.length:Nat):Int) > 200))) then true else (decide (((p0.Gone.length:Nat):Int) > 300))) then true else (decide (p0.Version < 0))) then true else (decide (p0.Version > 300))) then
  some false
 else
  iter (fun rec1 s=>IM p0 (fun v3_1=>Jl p0) rec1 s) A6 0
def FL (p0:Aa) (p1:Ae):Option Int :=
 (C3 p0).bind fun x7 =>
 bif (x7 != 0) then
  some x7
 else
  bif (bif (decide (p1.Column < 1)) then true else (decide (p1.Column ≥ ((p0.Columns.length:Nat):Int)))) then
   some 7
  else
   (B7 p0 p1.Column).bind fun x27 =>
   (Dm p1.Level 0 x27).bind fun x28 =>
   bif (!x28) then
    some 8
   else
    some 0
def D4 (p1:(List Ae)) (p0:Aa) (kont1_0:(Int→Option Int)) (rec1:(Int→Option Int)) (v6_1:Int):Option Int :=
 bif (decide (v6_1 < ((p1.length:Nat):Int))) then
  (idx p1 v6_1).bind fun x22 =>
  (FL p0 x22).bind fun x24 =>
  bif (x24 != 0) then
   some x24
  else
   bif (decide (v6_1 > 0)) then
    (idx p1 v6_1).bind fun x33 =>
    (idx p1 (IntKind.i64.wrap (v6_1 - 1))).bind fun x39 =>
    bif (decide (x33.Column≤x39.Column)) then
     some 10
    else
     rec1 (IntKind.i64.wrap (v6_1 + 1))
   else
    rec1 (IntKind.i64.wrap (v6_1 + 1))
 else
  kont1_0 v6_1
def Df (p0:Aa) (p1:(List Ae)):Option Int :=
 (C3 p0).bind fun x9 =>
 bif (x9 != 0) then
  some x9
 else
  iter (fun rec1 s=>D4 p1 p0 (fun v6_1=>some 0) rec1 s) A6 0
def GO (p0:Ag) (p1:Int) (self_ref05_count:(Ag→Int→Option Int)) (kont1_0:(Int→Int→Option Int)) (rec1:((Int × Int)→Option Int)) (v5_1:Int) (v6_1:Int):Option Int :=
 bif (bif (decide (v6_1 < ((p0.Kids.length:Nat):Int))) then (decide (v5_1 < p1)) else false) then
  (idx p0.Kids v6_1).bind fun x23 =>
  (self_ref05_count x23 (IntKind.i64.wrap (p1 - v5_1))).bind fun x28 =>
  rec1 ((IntKind.i64.wrap (v5_1 + x28)),(IntKind.i64.wrap (v6_1 + 1)))
 else
  kont1_0 v5_1 v6_1
def H8 (d:Nat) (self_ref05_count:(Ag→Int→Option Int)) (p0:Ag) (p1:Int):Option Int :=
 iter (fun rec1 s=>GO p0 p1 self_ref05_count (fun v5_1 v6_1=>some v5_1) rec1 s.1 s.2) A6 (1,0)
def I3:Nat→Ag→Int→Option Int
 | 0,_,_=>none
 | d + 1,p0,p1=>H8 d (I3 d) p0 p1
def Jd (p0:Ag) (self_ref05_depth:(Ag→Option Int)) (kont1_0:(Int→Int→Option Int)) (rec1:((Int × Int)→Option Int)) (v3_1:Int) (v4_1:Int):Option Int :=
 bif (decide (v4_1 < ((p0.Kids.length:Nat):Int))) then
  (idx p0.Kids v4_1).bind fun x16 =>
  (self_ref05_depth x16).bind fun x18 =>
  rec1 ((if x18 > v3_1 then x18 else v3_1),(IntKind.i64.wrap (v4_1 + 1)))
 else
  kont1_0 v3_1 v4_1
def Hx (d:Nat) (self_ref05_depth:(Ag→Option Int)) (p0:Ag):Option Int :=
 iter (fun rec1 s=>Jd p0 self_ref05_depth (fun v3_1 v4_1=>some (IntKind.i64.wrap (v3_1 + 1))) rec1 s.1 s.2) A6 (0,0)
def Iy:Nat→Ag→Option Int
 | 0,_=>none
 | d + 1,p0=>Hx d (Iy d) p0
def L5 (p0:Aa) (p1:Int) (p2:Int):Option Bool :=
 bif (bif (decide (p1 ≥ 0)) then (decide (p1 < ((p0.Columns.length:Nat):Int))) else false) then
  (idx p0.Columns p1).bind fun x20 =>
  some (x20.Kind==p2)
 else
  some false
def HD (p1:Ag) (self_ref05_node:(Aa→Ag→Option Int)) (p0:Aa) (kont1_1:(Int→Option Int)) (rec1:(Int→Option Int)) (v7_1:Int):Option Int :=
 bif (decide (v7_1 < ((p1.Kids.length:Nat):Int))) then
  (idx p1.Kids v7_1).bind fun x179 =>
  (self_ref05_node p0 x179).bind fun x181 =>
  bif (x181 != 0) then
   some x181
  else
   rec1 (IntKind.i64.wrap (v7_1 + 1))
 else
  kont1_1 v7_1
def CC (p1:Ag) (self_ref05_node:(Aa→Ag→Option Int)) (p0:Aa):Option Int :=
 bif (bif (p1.Op==3) then (bif (bif (decide (p1.Low < (-1000000))) then true else (decide (p1.High > 1000000))) then true else (decide (p1.Low > p1.High))) else false) then
  some 2
 else
  iter (fun rec1 s=>HD p1 self_ref05_node p0 (fun v7_1=>some 0) rec1 s) A6 0
def Ca (p1:Ag) (p0:Aa) (self_ref05_node:(Aa→Ag→Option Int)):Option Int :=
 bif (p1.Op==2) then
  bif (decide (p1.Code < 0)) then
   some 6
  else
   (idx p0.Columns p1.Column).bind fun x138 =>
   (idx p0.Lists x138.List_).bind fun x141 =>
   bif (decide (p1.Code ≥ ((x141.Codes.length:Nat):Int))) then
    some 6
   else
    CC p1 self_ref05_node p0
 else
  CC p1 self_ref05_node p0
def BB (p1:Ag) (p0:Aa) (self_ref05_node:(Aa→Ag→Option Int)) (j5_1:Int) (k6_1_1:Int) (k6_2_1:Int) (k6_3_1:Int) (k6_4_1:Int):Option Int :=
 bif (bif (bif (bif (bif (((p1.Kids.length:Nat):Int) != j5_1) then true else (k6_1_1 != p1.Column)) then true else (k6_2_1 != p1.Code)) then true else (k6_3_1 != p1.Low)) then true else (k6_4_1 != p1.High)) then
  some 11
 else
  bif (p1.Op==2) then
   (L5 p0 p1.Column 2).bind fun x85 =>
   bif (!x85) then
    some 7
   else
    Ca p1 p0 self_ref05_node
  else
   bif (p1.Op==3) then
    (L5 p0 p1.Column 3).bind fun x96 =>
    bif (!x96) then
     some 7
    else
     Ca p1 p0 self_ref05_node
   else
    bif (p1.Op==4) then
     (L5 p0 p1.Column 3).bind fun x108 =>
     bif (!x108) then
      some 7
     else
      (idx p0.Columns p1.Column).bind fun x115 =>
      bif (!x115.Optional) then
       some 7
      else
       Ca p1 p0 self_ref05_node
    else
     Ca p1 p0 self_ref05_node
def Ja (d:Nat) (self_ref05_node:(Aa→Ag→Option Int)) (p0:Aa) (p1:Ag):Option Int :=
 bif (p1.Op==1) then
  BB p1 p0 self_ref05_node 0 0 0 0 0
 else
  bif (p1.Op==2) then
   BB p1 p0 self_ref05_node 0 p1.Column p1.Code 0 0
  else
   bif (p1.Op==3) then
    BB p1 p0 self_ref05_node 0 p1.Column 0 p1.Low p1.High
   else
    bif (p1.Op==4) then
     BB p1 p0 self_ref05_node 0 p1.Column 0 0 0
    else
     bif (p1.Op==5) then
      BB p1 p0 self_ref05_node 2 0 0 0 0
     else
      bif (p1.Op==6) then
       BB p1 p0 self_ref05_node 2 0 0 0 0
      else
       bif (p1.Op==7) then
        BB p1 p0 self_ref05_node 1 0 0 0 0
       else
        some 4
def GZ:Nat→Aa→Ag→Option Int
 | 0,_,_=>none
 | d + 1,p0,p1=>Ja d (GZ d) p0 p1
def Ce (d:Nat) (p0:Aa) (p1:Ag):Option Int :=
 (C3 p0).bind fun x7 =>
 bif (x7 != 0) then
  some x7
 else
  (I3 d p1 41).bind fun x12 =>
  bif (decide (x12 > 40)) then
   some 1
  else
   (Iy d p1).bind fun x15 =>
   bif (decide (x15 > 10)) then
    some 22
   else
    (GZ d p0 p1).bind fun x19 =>
    some x19
def Fq (p0:Aa) (p1:Int) (p2:Int):Option Bool :=
 bif (bif (decide (p1 ≥ 0)) then (decide (p1 < ((p0.Columns.length:Nat):Int))) else false) then
  (idx p0.Columns p1).bind fun x20 =>
  some (x20.Kind==p2)
 else
  some false
def H2 (v5_1:Int) (p1:(List Ae)) (kont2_2:(Int→Option Int)) (rec2:(Int→Option Int)) (v7_2:Int):Option Int :=
 bif (decide (v7_2 < v5_1)) then
  (idx p1 v7_2).bind fun x46 =>
  (idx p1 v5_1).bind fun x51 =>
  bif (x46.Column==x51.Column) then
   some 10
  else
   rec2 (IntKind.i64.wrap (v7_2 + 1))
 else
  kont2_2 v7_2
def Gz (p1:(List Ae)) (p0:Aa) (kont1_0:(Int→Option Int)) (rec1:(Int→Option Int)) (v5_1:Int):Option Int :=
 bif (decide (v5_1 < ((p1.length:Nat):Int))) then
  (idx p1 v5_1).bind fun x25 =>
  (FL p0 x25).bind fun x27 =>
  bif (x27 != 0) then
   some x27
  else
   (idx p1 v5_1).bind fun x34 =>
   (Fq p0 x34.Column 2).bind fun x37 =>
   bif (!x37) then
    some 7
   else
    iter (fun rec2 s=>H2 v5_1 p1 (fun v7_2=>rec1 (IntKind.i64.wrap (v5_1 + 1))) rec2 s) A6 0
 else
  kont1_0 v5_1
def GV (p0:Aa) (p1:(List Ae)):Option Int :=
 bif (bif (decide (((p1.length:Nat):Int) < 1)) then true else (decide (((p1.length:Nat):Int) > 3))) then
  some 1
 else
  iter (fun rec1 s=>Gz p1 p0 (fun v5_1=>some 0) rec1 s) A6 0
def KY (p0:(List Int)) (p1:Int) (kont1_0:(Int→Option Bool)) (rec1:(Int→Option Bool)) (v5_1:Int):Option Bool :=
 bif (decide (v5_1 < ((p0.length:Nat):Int))) then
  (idx p0 v5_1).bind fun x14 =>
  bif (x14==p1) then
   some true
  else
   rec1 (IntKind.i64.wrap (v5_1 + 1))
 else
  kont1_0 v5_1
def I6 (p0:(List Int)) (p1:Int):Option Bool :=
 iter (fun rec1 s=>KY p0 p1 (fun v5_1=>some false) rec1 s) A6 0
def IN (p2:(List Int)) (p0:Aa) (p1:Int) (kont1_0:(Int→Option Int)) (rec1:(Int→Option Int)) (v7_1:Int):Option Int :=
 bif (decide (v7_1 < ((p2.length:Nat):Int))) then
  (idx p2 v7_1).bind fun x25 =>
  (Fq p0 x25 3).bind fun x27 =>
  bif (!x27) then
   some 7
  else
   (idx p2 v7_1).bind fun x31 =>
   bif (x31==p1) then
    some 10
   else
    bif (decide (0≤(0:Int)∧0≤v7_1∧v7_1≤((p2.length:Nat):Int))) then
     (idx p2 v7_1).bind fun x41 =>
     (I6 (Mw p2 0 v7_1) x41).bind fun x43 =>
     bif x43 then
      some 10
     else
      rec1 (IntKind.i64.wrap (v7_1 + 1))
    else none
 else
  kont1_0 v7_1
def I0 (p0:Aa) (p1:Int) (p2:(List Int)):Option Int :=
 bif (bif (decide (((p2.length:Nat):Int) < 1)) then true else (decide (((p2.length:Nat):Int) > 3))) then
  some 1
 else
  iter (fun rec1 s=>IN p2 p0 p1 (fun v7_1=>some 0) rec1 s) A6 0
def K9 (d:Nat) (p0:Aa) (p1:AG):Option Int :=
 (Fq p0 p1.Measure 3).bind fun x10 =>
 bif (p1.Kind==1) then
  (GV p0 p1.Dims).bind fun x32 =>
  bif (x32 != 0) then
   some x32
  else
   bif (bif (p1.Measure != (-1)) then (!x10) else false) then
    some 7
   else
    some 0
 else
  bif (p1.Kind==2) then
   bif (!x10) then
    some 7
   else
    (I0 p0 p1.Measure p1.Terms).bind fun x52 =>
    some x52
  else
   bif (!x10) then
    some 7
   else
    (idx p0.Columns p1.Measure).bind fun x19 =>
    bif (decide (x19.Low < 0)) then
     some 2
    else
     (Ce d p0 p1.Event).bind fun x26 =>
     some x26
def PS (p0:Ag) (p1:Ag) (self_ref05_Same:(Ag→Ag→Option Bool)) (kont1_0:(Int→Option Bool)) (rec1:(Int→Option Bool)) (v5_1:Int):Option Bool :=
 bif (decide (v5_1 < ((p0.Kids.length:Nat):Int))) then
  (idx p0.Kids v5_1).bind fun x58 =>
  (idx p1.Kids v5_1).bind fun x63 =>
  (self_ref05_Same x58 x63).bind fun x65 =>
  bif (!x65) then
   some false
  else
   rec1 (IntKind.i64.wrap (v5_1 + 1))
 else
  kont1_0 v5_1
def IY (d:Nat) (self_ref05_Same:(Ag→Ag→Option Bool)) (p0:Ag) (p1:Ag):Option Bool :=
 bif (bif (bif (bif (bif (bif (p0.Op != p1.Op) then true else (p0.Column != p1.Column)) then true else (p0.Code != p1.Code)) then true else (p0.Low != p1.Low)) then true else (p0.High != p1.High)) then true else (((p0.Kids.length:Nat):Int) != ((p1.Kids.length:Nat):Int))) then
  some false
 else
  iter (fun rec1 s=>PS p0 p1 self_ref05_Same (fun v5_1=>some true) rec1 s) A6 0
def JK:Nat→Ag→Ag→Option Bool
 | 0,_,_=>none
 | d + 1,p0,p1=>IY d (JK d) p0 p1
def LN (d:Nat) (p0:Ag):Option Bool :=
 (JK d p0 ({ Op:=0,Column:=0,Code:=0,Low:=0,High:=0,Kids:=[] }:Ag)).bind fun x5 =>
 some x5
def CX (d:Nat) (p0:Aa) (p1:AG):Option Int :=
 (C3 p0).bind fun x9 =>
 bif (x9 != 0) then
  some x9
 else
  (BK p1.Name).bind fun x15 =>
  bif (!x15) then
   some 3
  else
   bif (bif (decide (p1.Kind < 1)) then true else (decide (p1.Kind > 3))) then
    some 4
   else
    (Ce d p0 p1.Filter).bind fun x28 =>
    bif (x28 != 0) then
     some x28
    else
     (K9 d p0 p1).bind fun x34 =>
     bif (x34 != 0) then
      some x34
     else
      bif (bif (bif (p1.Kind != 1) then (decide (((p1.Dims.length:Nat):Int) > 0)) else false) then true else (bif (p1.Kind != 2) then (decide (((p1.Terms.length:Nat):Int) > 0)) else false)) then
       some 11
      else
       bif (p1.Kind != 3) then
        (LN d p1.Event).bind fun x65 =>
        bif (!x65) then
         some 11
        else
         some 0
       else
        some 0
def GN (v8_1:Int) (p1:Ay) (kont2_2:(Int→Option Int)) (rec2:(Int→Option Int)) (v10_2:Int):Option Int :=
 bif (decide (v10_2 < v8_1)) then
  (idx p1.Questions v10_2).bind fun x100 =>
  (idx p1.Questions v8_1).bind fun x106 =>
  bif (x100.Name.toList==x106.Name.toList) then
   some 10
  else
   rec2 (IntKind.i64.wrap (v10_2 + 1))
 else
  kont2_2 v10_2
def Fw (p1:Ay) (d:Nat) (p0:Aa) (kont1_0:(Int→Option Int)) (rec1:(Int→Option Int)) (v8_1:Int):Option Int :=
 bif (decide (v8_1 < ((p1.Questions.length:Nat):Int))) then
  (idx p1.Questions v8_1).bind fun x86 =>
  (CX d p0 x86).bind fun x88 =>
  bif (x88 != 0) then
   some x88
  else
   iter (fun rec2 s=>GN v8_1 p1 (fun v10_2=>rec1 (IntKind.i64.wrap (v8_1 + 1))) rec2 s) A6 0
 else
  kont1_0 v8_1
def GL (d:Nat) (p0:Aa) (p1:Ay):Option Int :=
 (Ce d p0 p1.Cohort).bind fun x29 =>
 bif (x29 != 0) then
  some x29
 else
  bif (bif (bif (bif (bif (bif (decide (p1.Sample.Of < 1)) then true else (decide (p1.Sample.Of > 1000))) then true else (decide (p1.Sample.Part < 1))) then true else (decide (p1.Sample.Part > p1.Sample.Of))) then true else (decide (p1.Sample.Seed < 0))) then true else (decide (p1.Sample.Seed > 1099511627776))) then
   some 2
  else
   bif (bif (decide (((p1.Questions.length:Nat):Int) < 1)) then true else (decide (((p1.Questions.length:Nat):Int) > 8))) then
    some 1
   else
    iter (fun rec1 s=>Fw p1 d p0 (fun v8_1=>some 0) rec1 s) A6 0
def E9 (d:Nat) (p0:Aa) (p1:Ay):Option Int :=
 (C3 p0).bind fun x12 =>
 bif (x12 != 0) then
  some x12
 else
  (BK p1.Project).bind fun x18 =>
  bif (!x18) then
   some 3
  else
   (BK p1.Source).bind fun x23 =>
   bif (!x23) then
    some 3
   else
    GL d p0 p1
def HG (p1:(List Ae)) (p0:(List Ae)) (v5_1:Int) (kont2_2:(Bool→Int→Option Bool)) (rec2:((Bool × Int)→Option Bool)) (v6_2:Bool) (v7_2:Int):Option Bool :=
 bif (decide (v7_2 < ((p1.length:Nat):Int))) then
  bif v6_2 then
   rec2 (true,(IntKind.i64.wrap (v7_2 + 1)))
  else
   (idx p1 v7_2).bind fun x24 =>
   (idx p0 v5_1).bind fun x29 =>
   bif (x24.Column==x29.Column) then
    (idx p1 v7_2).bind fun x36 =>
    (idx p0 v5_1).bind fun x41 =>
    rec2 ((decide (x36.Level ≥ x41.Level)),(IntKind.i64.wrap (v7_2 + 1)))
   else
    rec2 (false,(IntKind.i64.wrap (v7_2 + 1)))
 else
  kont2_2 v6_2 v7_2
def Ia (p0:(List Ae)) (p1:(List Ae)) (kont1_0:(Int→Option Bool)) (rec1:(Int→Option Bool)) (v5_1:Int):Option Bool :=
 bif (decide (v5_1 < ((p0.length:Nat):Int))) then
  iter (fun rec2 s=>HG p1 p0 v5_1 (fun v6_2 v7_2=>bif (!v6_2) then   some false else   rec1 (IntKind.i64.wrap (v5_1 + 1))) rec2 s.1 s.2) A6 (false,0)
 else
  kont1_0 v5_1
def FM (p0:(List Ae)) (p1:(List Ae)):Option Bool :=
 iter (fun rec1 s=>Ia p0 p1 (fun v5_1=>some true) rec1 s) A6 0
def LD (p1:Int) (p2:Int) (v8_1:Bool) (v9_1:Int) (b7_1:(List Ae)):Option (List Ae) :=
 bif (!v8_1) then
  bif rm b7_1.length [({ Column:=p1,Level:=p2 }:Ae)].length then
   some (b7_1++[({ Column:=p1,Level:=p2 }:Ae)])
  else none
 else
  some b7_1
def Jf (p0:(List Ae)) (p1:Int) (p2:Int) (kont1_0:(Bool→Int→(List Ae)→Option (List Ae))) (rec1:((Bool × Int × (List Ae))→Option (List Ae))) (v8_1:Bool) (v9_1:Int) (b7_1:(List Ae)):Option (List Ae) :=
 bif (decide (v9_1 < ((p0.length:Nat):Int))) then
  (idx p0 v9_1).bind fun x21 =>
  bif (bif (decide (x21.Column > p1)) then (!v8_1) else false) then
   bif rm b7_1.length [({ Column:=p1,Level:=p2 }:Ae)].length then
    bif (x21.Column==p1) then
     bif rm (b7_1++[({ Column:=p1,Level:=p2 }:Ae)]).length [({ Column:=x21.Column,Level:=(if p2 > x21.Level then p2 else x21.Level) }:Ae)].length then
      rec1 (true,(IntKind.i64.wrap (v9_1 + 1)),((b7_1++[({ Column:=p1,Level:=p2 }:Ae)])++[({ Column:=x21.Column,Level:=(if p2 > x21.Level then p2 else x21.Level) }:Ae)]))
     else none
    else
     bif rm (b7_1++[({ Column:=p1,Level:=p2 }:Ae)]).length [x21].length then
      rec1 (true,(IntKind.i64.wrap (v9_1 + 1)),((b7_1++[({ Column:=p1,Level:=p2 }:Ae)])++[x21]))
     else none
   else none
  else
   bif (x21.Column==p1) then
    bif rm b7_1.length [({ Column:=x21.Column,Level:=(if p2 > x21.Level then p2 else x21.Level) }:Ae)].length then
     rec1 (true,(IntKind.i64.wrap (v9_1 + 1)),(b7_1++[({ Column:=x21.Column,Level:=(if p2 > x21.Level then p2 else x21.Level) }:Ae)]))
    else none
   else
    bif rm b7_1.length [x21].length then
     rec1 (v8_1,(IntKind.i64.wrap (v9_1 + 1)),(b7_1++[x21]))
    else none
 else
  kont1_0 v8_1 v9_1 b7_1
def Cq (p0:(List Ae)) (p1:Int) (p2:Int):Option (List Ae) :=
 iter (fun rec1 s=>Jf p0 p1 p2 (LD p1 p2) rec1 s.1 s.2.1 s.2.2) A6 ((decide (p2≤0)),0,[])
def Jr (p0:Ag) (self_ref05_Atoms:(Ag→Option (List Ag))) (kont1_0:(Int→(List Ag)→Option (List Ag))) (rec1:((Int × (List Ag))→Option (List Ag))) (v4_1:Int) (b3_1:(List Ag)):Option (List Ag) :=
 bif (decide (v4_1 < ((p0.Kids.length:Nat):Int))) then
  (idx p0.Kids v4_1).bind fun x31 =>
  (self_ref05_Atoms x31).bind fun x33 =>
  bif rm b3_1.length x33.length then
   rec1 ((IntKind.i64.wrap (v4_1 + 1)),(b3_1++x33))
  else none
 else
  kont1_0 v4_1 b3_1
def H9 (d:Nat) (self_ref05_Atoms:(Ag→Option (List Ag))) (p0:Ag):Option (List Ag) :=
 bif (bif (bif (p0.Op==2) then true else (p0.Op==3)) then true else (p0.Op==4)) then
  some [p0]
 else
  iter (fun rec1 s=>Jr p0 self_ref05_Atoms (fun v4_1 b3_1=>some b3_1) rec1 s.1 s.2) A6 (0,[])
def I5:Nat→Ag→Option (List Ag)
 | 0,_=>none
 | d + 1,p0=>H9 d (I5 d) p0
def Ky (p0:Am) (p1:Int) (p2:Int):Option Bool :=
 (GR p0 p2).bind fun x10 =>
 bif (decide (x10 ≥ 0)) then
  (GR p0 p1).bind fun x16 =>
  bif (decide (x16 ≥ x10)) then
   (Jg p0 p1 x10).bind fun x24 =>
   some (x24==p2)
  else
   some false
 else
  some false
def Bt (p0:Aa) (p1:Ag) (p2:Int):Option Int :=
 bif (p1.Op==2) then
  (idx p0.Columns p1.Column).bind fun x18 =>
  (idx p0.Lists x18.List_).bind fun x21 =>
  (Ky x21 p2 p1.Code).bind fun x26 =>
  bif x26 then
   some 1
  else
   some (-1)
 else
  bif (p1.Op==3) then
   bif (p2==(-1099511627776)) then
    some 0
   else
    bif (bif (decide (p1.Low≤p2)) then (decide (p2≤p1.High)) else false) then
     some 1
    else
     some (-1)
  else
   bif (p1.Op==4) then
    bif (p2==(-1099511627776)) then
     some 1
    else
     some (-1)
   else
    some (-1)
def JD (v9_1:Int) (x26:(List Int)) (p0:Aa) (p1:Ag) (p2:Int) (kont2_2:(Int→Option Bool)) (rec2:(Int→Option Bool)) (v10_2:Int):Option Bool :=
 bif (decide (v10_2 < v9_1)) then
  (idx x26 v9_1).bind fun x44 =>
  (AP p0 p1.Column p2 x44).bind fun x46 =>
  (idx x26 v10_2).bind fun x53 =>
  (AP p0 p1.Column p2 x53).bind fun x55 =>
  bif (x46==x55) then
   (idx x26 v9_1).bind fun x62 =>
   (Bt p0 p1 x62).bind fun x64 =>
   (idx x26 v10_2).bind fun x69 =>
   (Bt p0 p1 x69).bind fun x71 =>
   bif (x64 != x71) then
    some false
   else
    rec2 (IntKind.i64.wrap (v10_2 + 1))
  else
   rec2 (IntKind.i64.wrap (v10_2 + 1))
 else
  kont2_2 v10_2
def JY (x26:(List Int)) (p0:Aa) (p1:Ag) (p2:Int) (kont1_0:(Int→Option Bool)) (rec1:(Int→Option Bool)) (v9_1:Int):Option Bool :=
 bif (decide (v9_1 < ((x26.length:Nat):Int))) then
  iter (fun rec2 s=>JD v9_1 x26 p0 p1 p2 (fun v10_2=>rec1 (IntKind.i64.wrap (v9_1 + 1))) rec2 s) A6 0
 else
  kont1_0 v9_1
def CG (p0:Aa) (p1:Ag) (p2:Int):Option Bool :=
 (idx p0.Columns p1.Column).bind fun x18 =>
 bif (p1.Op==2) then
  (Cg p0 p1.Column).bind fun x26 =>
  iter (fun rec1 s=>JY x26 p0 p1 p2 (fun v9_1=>some true) rec1 s) A6 0
 else
  bif (p1.Op==4) then
   some (decide (p2 > 0))
  else
   bif (p2==0) then
    some (bif (bif (!x18.Optional) then (!(bif (decide (p1.Low > x18.Low)) then (decide (p1.Low≤x18.High)) else false)) else false) then (!(bif (decide (p1.High ≥ x18.Low)) then (decide (p1.High < x18.High)) else false)) else false)
   else
    (C6 x18 p2).bind fun x118 =>
    bif (!(bif (decide (p1.Low > x18.Low)) then (decide (p1.Low≤x18.High)) else false)) then
     bif (!(bif (decide (p1.High ≥ x18.Low)) then (decide (p1.High < x18.High)) else false)) then
      some true
     else
      bif (decide (x118≠0)) then
       some ((Int.tmod (IntKind.i64.wrap (p1.High + 1)) x118)==0)
      else none
    else
     bif (decide (x118≠0)) then
      bif ((Int.tmod p1.Low x118)==0) then
       bif (!(bif (decide (p1.High ≥ x18.Low)) then (decide (p1.High < x18.High)) else false)) then
        some true
       else
        bif (decide (x118≠0)) then
         some ((Int.tmod (IntKind.i64.wrap (p1.High + 1)) x118)==0)
        else none
      else
       some false
     else none
def IU (x14:(List Ag)) (v7_1:Int) (v5_1:(List Ae)) (rec1:(((List Ae) × Int)→Option (List Ae))) (v8_2:Int):Option (List Ae) :=
 (idx x14 v7_1).bind fun x34 =>
 (Cq v5_1 x34.Column v8_2).bind fun x38 =>
 rec1 (x38,(IntKind.i64.wrap (v7_1 + 1)))
def L7 (x14:(List Ag)) (v7_1:Int) (p0:Aa) (kont2_2:(Int→Option (List Ae))) (rec2:(Int→Option (List Ae))) (v8_2:Int):Option (List Ae) :=
 (idx x14 v7_1).bind fun x24 =>
 (CG p0 x24 v8_2).bind fun x27 =>
 bif (!x27) then
  rec2 (IntKind.i64.wrap (v8_2 + 1))
 else
  kont2_2 v8_2
def Jv (x14:(List Ag)) (p0:Aa) (kont1_0:((List Ae)→Int→Option (List Ae))) (rec1:(((List Ae) × Int)→Option (List Ae))) (v5_1:(List Ae)) (v7_1:Int):Option (List Ae) :=
 bif (decide (v7_1 < ((x14.length:Nat):Int))) then
  iter (fun rec2 s=>L7 x14 v7_1 p0 (IU x14 v7_1 v5_1 rec1) rec2 s) A6 0
 else
  kont1_0 v5_1 v7_1
def CN (d:Nat) (p0:Aa) (p1:Ag):Option (List Ae) :=
 (Ce d p0 p1).bind fun x11 =>
 bif (x11 != 0) then
  some []
 else
  (I5 d p1).bind fun x14 =>
  iter (fun rec1 s=>Jv x14 p0 (fun v5_1 v7_1=>some v5_1) rec1 s.1 s.2) A6 ([],0)
def Hh (v11_1:Int) (x33:(List Int)) (p0:Aa) (p1:Int) (p3:Int) (p2:Int) (kont2_2:(Int→Option Bool)) (rec2:(Int→Option Bool)) (v12_2:Int):Option Bool :=
 bif (decide (v12_2 < v11_1)) then
  (idx x33 v11_1).bind fun x50 =>
  (AP p0 p1 p3 x50).bind fun x52 =>
  (idx x33 v12_2).bind fun x58 =>
  (AP p0 p1 p3 x58).bind fun x60 =>
  bif (x52 != x60) then
   (idx x33 v11_1).bind fun x68 =>
   (AP p0 p1 p2 x68).bind fun x70 =>
   (idx x33 v12_2).bind fun x76 =>
   (AP p0 p1 p2 x76).bind fun x78 =>
   bif (x70==x78) then
    some false
   else
    rec2 (IntKind.i64.wrap (v12_2 + 1))
  else
   rec2 (IntKind.i64.wrap (v12_2 + 1))
 else
  kont2_2 v12_2
def Hl (x33:(List Int)) (p0:Aa) (p1:Int) (p3:Int) (p2:Int) (kont1_0:(Int→Option Bool)) (rec1:(Int→Option Bool)) (v11_1:Int):Option Bool :=
 bif (decide (v11_1 < ((x33.length:Nat):Int))) then
  iter (fun rec2 s=>Hh v11_1 x33 p0 p1 p3 p2 (fun v12_2=>rec1 (IntKind.i64.wrap (v11_1 + 1))) rec2 s) A6 0
 else
  kont1_0 v11_1
def JC (x19:Av) (p2:Int) (x83:Int) (kont3_4:(Int→Int→Option Bool)) (rec3:((Int × Int)→Option Bool)) (v14_3:Int) (v15_3:Int):Option Bool :=
 bif (bif (decide (v15_3 < 2)) then (decide (v14_3≤x19.High)) else false) then
  (C6 x19 p2).bind fun x115 =>
  bif (decide (x115≠0)) then
   bif ((Int.tmod v14_3 x115) != 0) then
    some false
   else
    rec3 ((IntKind.i64.wrap (v14_3 + x83)),(IntKind.i64.wrap (v15_3 + 1)))
  else none
 else
  kont3_4 v14_3 v15_3
def Dz (p0:Aa) (p1:Int) (p2:Int) (p3:Int):Option Bool :=
 (idx p0.Columns p1).bind fun x19 =>
 bif (bif (p3==0) then true else (decide (p2 ≥ p3))) then
  some true
 else
  bif (x19.Kind==2) then
   (Cg p0 p1).bind fun x33 =>
   iter (fun rec1 s=>Hl x33 p0 p1 p3 p2 (fun v11_1=>some true) rec1 s) A6 0
  else
   (C6 x19 p3).bind fun x83 =>
   (DX x19.Low x83).bind fun x87 =>
   bif (p2==0) then
    some (bif (!x19.Optional) then (decide ((IntKind.i64.wrap ((IntKind.i64.wrap (x87 + 1)) * x83)) > x19.High)) else false)
   else
    iter (fun rec3 s=>JC x19 p2 x83 (fun v14_3 v15_3=>some true) rec3 s.1 s.2) A6 ((IntKind.i64.wrap ((IntKind.i64.wrap (x87 + 1)) * x83)),0)
def F0 (p0:Aa) (p1:Int) (p2:Int) (kont1_0:(Int→Option Int)) (rec1:(Int→Option Int)) (v7_1:Int):Option Int :=
 (Dz p0 p1 v7_1 p2).bind fun x18 =>
 bif (!x18) then
  rec1 (IntKind.i64.wrap (v7_1 + 1))
 else
  kont1_0 v7_1
def Cd (p0:Aa) (p1:Int) (p2:Int):Option Int :=
 (B7 p0 p1).bind fun x11 =>
 (Dm p2 0 x11).bind fun x12 =>
 bif (!x12) then
  some (-1)
 else
  iter (fun rec1 s=>F0 p0 p1 p2 (fun v7_1=>some v7_1) rec1 s) A6 0
def LB (p0:AG) (p1:Int):Option Bool :=
 bif (p0.Measure==p1) then
  some true
 else
  (I6 p0.Terms p1).bind fun x13 =>
  some x13
def Fp (p0:Aa) (p1:AG) (kont3_4:((List Ae)→Int→Option (List Ae))) (rec3:(((List Ae) × Int)→Option (List Ae))) (v5_3:(List Ae)) (v9_3:Int):Option (List Ae) :=
 bif (decide (v9_3 < ((p0.Columns.length:Nat):Int))) then
  (LB p1 v9_3).bind fun x81 =>
  bif x81 then
   (B7 p0 v9_3).bind fun x88 =>
   (Cd p0 v9_3 x88).bind fun x89 =>
   (Cq v5_3 v9_3 x89).bind fun x90 =>
   rec3 (x90,(IntKind.i64.wrap (v9_3 + 1)))
  else
   rec3 (v5_3,(IntKind.i64.wrap (v9_3 + 1)))
 else
  kont3_4 v5_3 v9_3
def Fz (p1:AG) (p0:Aa) (kont2_2:((List Ae)→Int→Option (List Ae))) (rec2:(((List Ae) × Int)→Option (List Ae))) (v5_2:(List Ae)) (v8_2:Int):Option (List Ae) :=
 bif (decide (v8_2 < ((p1.Dims.length:Nat):Int))) then
  (idx p1.Dims v8_2).bind fun x54 =>
  (idx p1.Dims v8_2).bind fun x61 =>
  (idx p1.Dims v8_2).bind fun x67 =>
  (Cd p0 x61.Column x67.Level).bind fun x70 =>
  (Cq v5_2 x54.Column x70).bind fun x71 =>
  rec2 (x71,(IntKind.i64.wrap (v8_2 + 1)))
 else
  kont2_2 v5_2 v8_2
def Ef (p1:AG) (p0:Aa) (j5_1:(List Ae)):Option (List Ae) :=
 iter (fun rec2 s=>Fz p1 p0 (fun v5_2 v8_2=>iter (fun rec3 s=>Fp p0 p1 (fun v5_3 v9_3=>some v5_3) rec3 s.1 s.2) A6 (v5_2,1)) rec2 s.1 s.2) A6 (j5_1,0)
def Jj (x24:(List Ae)) (kont1_0:((List Ae)→Int→Option (List Ae))) (rec1:(((List Ae) × Int)→Option (List Ae))) (v5_1:(List Ae)) (v7_1:Int):Option (List Ae) :=
 bif (decide (v7_1 < ((x24.length:Nat):Int))) then
  (idx x24 v7_1).bind fun x34 =>
  (idx x24 v7_1).bind fun x39 =>
  (Cq v5_1 x34.Column x39.Level).bind fun x42 =>
  rec1 (x42,(IntKind.i64.wrap (v7_1 + 1)))
 else
  kont1_0 v5_1 v7_1
def F7 (d:Nat) (p0:Aa) (p1:AG):Option (List Ae) :=
 (CX d p0 p1).bind fun x12 =>
 bif (x12 != 0) then
  some []
 else
  (CN d p0 p1.Filter).bind fun x17 =>
  bif (p1.Kind==3) then
   (CN d p0 p1.Event).bind fun x24 =>
   iter (fun rec1 s=>Jj x24 (fun v5_1 v7_1=>Ef p1 p0 v5_1) rec1 s.1 s.2) A6 (x17,0)
  else
   Ef p1 p0 x17
def H7 (d:Nat) (p0:Aa) (p1:AG) (p2:(List Ae)):Option Bool :=
 (CX d p0 p1).bind fun x9 =>
 bif (x9==0) then
  (Df p0 p2).bind fun x14 =>
  bif (x14==0) then
   (F7 d p0 p1).bind fun x20 =>
   (FM x20 p2).bind fun x22 =>
   some x22
  else
   some false
 else
  some false
def Fi (p1:Ay) (d:Nat) (p0:Aa) (p2:(List Ae)) (kont1_0:(Int→Option Int)) (rec1:(Int→Option Int)) (v9_1:Int):Option Int :=
 bif (decide (v9_1 < ((p1.Questions.length:Nat):Int))) then
  (idx p1.Questions v9_1).bind fun x33 =>
  (H7 d p0 x33 p2).bind fun x36 =>
  bif (!x36) then
   some 23
  else
   rec1 (IntKind.i64.wrap (v9_1 + 1))
 else
  kont1_0 v9_1
def Ha (d:Nat) (p0:Aa) (p1:Ay) (p2:(List Ae)):Option Int :=
 (E9 d p0 p1).bind fun x12 =>
 bif (x12 != 0) then
  some x12
 else
  (Df p0 p2).bind fun x18 =>
  bif (x18 != 0) then
   some x18
  else
   iter (fun rec1 s=>Fi p1 d p0 p2 (fun v9_1=>some 0) rec1 s) A6 0
def Gc (p0:Int) (p1:(List Int)):Option Int :=
 bif (p0==7) then
  (idx p1 0).bind fun x9 =>
  some (IntKind.i64.wrap (0 - x9))
 else
  bif (p0==5) then
   (idx p1 0).bind fun x15 =>
   (idx p1 1).bind fun x18 =>
   some (if x18 < x15 then x18 else x15)
  else
   bif (p0==6) then
    (idx p1 0).bind fun x24 =>
    (idx p1 1).bind fun x27 =>
    some (if x27 > x24 then x27 else x24)
   else
    some 1
def Ki (p1:Ag) (self_ref05_eval:(Aa→Ag→(List Int)→Option Int)) (p0:Aa) (p2:(List Int)) (kont1_0:(Int→(List Int)→Option Int)) (rec1:((Int × (List Int))→Option Int)) (v8_1:Int) (b7_1:(List Int)):Option Int :=
 bif (decide (v8_1 < ((p1.Kids.length:Nat):Int))) then
  (idx p1.Kids v8_1).bind fun x42 =>
  (self_ref05_eval p0 x42 p2).bind fun x45 =>
  bif rm b7_1.length [x45].length then
   rec1 ((IntKind.i64.wrap (v8_1 + 1)),(b7_1++[x45]))
  else none
 else
  kont1_0 v8_1 b7_1
def IT (d:Nat) (self_ref05_eval:(Aa→Ag→(List Int)→Option Int)) (p0:Aa) (p1:Ag) (p2:(List Int)):Option Int :=
 bif (bif (bif (p1.Op==2) then true else (p1.Op==3)) then true else (p1.Op==4)) then
  (idx p2 p1.Column).bind fun x27 =>
  (Bt p0 p1 x27).bind fun x29 =>
  some x29
 else
  iter (fun rec1 s=>Ki p1 self_ref05_eval p0 p2 (fun v8_1 b7_1=>(Gc p1.Op b7_1).bind fun x51=>some x51) rec1 s.1 s.2) A6 (0,[])
def JV:Nat→Aa→Ag→(List Int)→Option Int
 | 0,_,_,_=>none
 | d + 1,p0,p1,p2=>IT d (JV d) p0 p1 p2
def If (d:Nat) (p0:Aa) (p1:Ag) (p2:(List Int)):Option Int :=
 (Ce d p0 p1).bind fun x9 =>
 bif (x9 != 0) then
  some 0
 else
  (JE p0 p2).bind fun x14 =>
  bif (x14 != 0) then
   some 0
  else
   (JV d p0 p1 p2).bind fun x20 =>
   some x20
def K4 (p0:Hn):Option Int :=
 bif (bif (bif (bif (bif (bif (decide (p0.Of < 1)) then true else (decide (p0.Of > 1000))) then true else (decide (p0.Part < 1))) then true else (decide (p0.Part > p0.Of))) then true else (decide (p0.Seed < 0))) then true else (decide (p0.Seed > 1099511627776))) then
  some 2
 else
  some 0
def Qc (kont1_0:(Int→Int→Option Int)) (rec1:((Int × Int)→Option Int)) (v5_1:Int) (v6_1:Int):Option Int :=
 bif (decide (v6_1 < 3)) then
  rec1 ((IntKind.u64.wrap (((BitVec.ofInt IntKind.u64.bits (IntKind.u64.wrap ((IntKind.u64.wrap (v5_1 * 6364136223846793005)) + 1442695040888963407)) ^^^ BitVec.ofInt IntKind.u64.bits (Int.fdiv (IntKind.u64.wrap ((IntKind.u64.wrap (v5_1 * 6364136223846793005)) + 1442695040888963407)) (2 ^ (min (29:Int).toNat IntKind.u64.bits)))).toNat:Nat):Int)),(IntKind.i64.wrap (v6_1 + 1)))
 else
  kont1_0 v5_1 v6_1
def L3 (p0:Int) (p1:Int):Option Int :=
 iter (fun rec1 s=>Qc (fun v5_1 v6_1=>some (IntKind.i64.wrap (Int.fdiv v5_1 (2 ^ (min (32:Int).toNat IntKind.u64.bits))))) rec1 s.1 s.2) A6 ((IntKind.u64.wrap ((IntKind.u64.wrap ((IntKind.u64.wrap ((IntKind.u64.wrap p0) * 2654435761)) + (IntKind.u64.wrap ((IntKind.u64.wrap p1) * 40503)))) + 97)),0)
def LH (p0:Hn) (p1:Int):Option Bool :=
 (K4 p0).bind fun x6 =>
 bif (bif (bif (x6==0) then (decide (p1 ≥ 1)) else false) then (decide (p1≤1048575)) else false) then
  (L3 p0.Seed p1).bind fun x20 =>
  bif (decide (p0.Of≠0)) then
   some (decide ((Int.tmod x20 p0.Of) < p0.Part))
  else none
 else
  some false
def Ez (p0:B2) (d:Nat) (p1:Ay) (kont1_0:(Int→(List Int)→Option (List Int))) (rec1:((Int × (List Int))→Option (List Int))) (v6_1:Int) (b5_1:(List Int)):Option (List Int) :=
 bif (decide (v6_1 < ((p0.Rows.length:Nat):Int))) then
  (idx p0.Rows v6_1).bind fun x31 =>
  (If d p0.Schema p1.Cohort x31).bind fun x33 =>
  bif (x33==1) then
   (idx p0.Rows v6_1).bind fun x41 =>
   (idx x41 0).bind fun x43 =>
   (LH p1.Sample x43).bind fun x45 =>
   bif x45 then
    (idx p0.Rows v6_1).bind fun x51 =>
    (idx x51 0).bind fun x53 =>
    bif rm b5_1.length [x53].length then
     rec1 ((IntKind.i64.wrap (v6_1 + 1)),(b5_1++[x53]))
    else none
   else
    rec1 ((IntKind.i64.wrap (v6_1 + 1)),b5_1)
  else
   rec1 ((IntKind.i64.wrap (v6_1 + 1)),b5_1)
 else
  kont1_0 v6_1 b5_1
def Gj (p0:B2) (d:Nat) (p1:Ay):Option (List Int) :=
 iter (fun rec1 s=>Ez p0 d p1 (fun v6_1 b5_1=>some b5_1) rec1 s.1 s.2) A6 (0,[])
def Gd (d:Nat) (p0:B2) (p1:Ay):Option (List Int) :=
 (Iw p0).bind fun x8 =>
 bif (!x8) then
  some []
 else
  (E9 d p0.Schema p1).bind fun x14 =>
  bif (x14 != 0) then
   some []
  else
   Gj p0 d p1
def Mp (p0:Int) (p1:Int):Option Bool :=
 some (bif (bif (bif (decide (p0 ≥ 0)) then (decide (p0 < 1152921504606846976)) else false) then (decide (p1 ≥ 0)) else false) then (decide (p1 < 1048576)) else false)
def IF (kont1_0:(Int→Int→Option Int)) (rec1:((Int × Int)→Option Int)) (v7_1:Int) (v8_1:Int):Option Int :=
 bif (decide (v8_1 < 3)) then
  rec1 ((IntKind.u64.wrap ((IntKind.u64.wrap (((BitVec.ofInt IntKind.u64.bits v7_1 ^^^ BitVec.ofInt IntKind.u64.bits (Int.fdiv v7_1 (2 ^ (min (31:Int).toNat IntKind.u64.bits)))).toNat:Nat):Int)) * 13787848793156543929)),(IntKind.i64.wrap (v8_1 + 1)))
 else
  kont1_0 v7_1 v8_1
def Kx (p0:Int) (p1:Int) (p2:Int):Option Int :=
 bif (bif (bif (bif (bif (bif (decide (p0 < 0)) then true else (decide (p0 ≥ 1152921504606846976))) then true else (decide (p1 < 0))) then true else (decide (p1 > 7))) then true else (decide (p2 < 0))) then true else (decide (p2 > 1023))) then
  some 0
 else
  iter (fun rec1 s=>IF (fun v7_1 v8_1=>some (IntKind.i64.wrap (Int.fdiv v7_1 (2 ^ (min (54:Int).toNat IntKind.u64.bits))))) rec1 s.1 s.2) A6 ((IntKind.u64.wrap ((IntKind.u64.wrap ((IntKind.u64.wrap p0) + (IntKind.u64.wrap ((IntKind.u64.wrap p1) * 11400714819323198485)))) + (IntKind.u64.wrap ((IntKind.u64.wrap p2) * 14029467366897019727)))),0)
def Ll (p0:Int) (kont1_0:(Int→Int→Int→Option Int)) (rec1:((Int × Int × Int)→Option Int)) (v5_1:Int) (v6_1:Int) (v7_1:Int):Option Int :=
 bif (decide (v7_1≤7)) then
  (Kx p0 v7_1 v6_1).bind fun x25 =>
  rec1 (v6_1,(IntKind.i64.wrap (((BitVec.ofInt IntKind.i64.bits v5_1 ^^^ BitVec.ofInt IntKind.i64.bits x25).toNat:Nat):Int)),(IntKind.i64.wrap (v7_1 + 1)))
 else
  kont1_0 v5_1 v6_1 v7_1
def Np (p0:Int) (p1:Int):Option Int :=
 (Mp p0 p1).bind fun x10 =>
 bif (!x10) then
  some (-1)
 else
  iter (fun rec1 s=>Ll p0 (fun v5_1 v6_1 v7_1=>some (IntKind.i64.wrap ((IntKind.i64.wrap (v5_1 * 1024)) + v6_1))) rec1 s.1 s.2.1 s.2.2) A6 ((IntKind.i64.wrap (Int.tdiv p1 1024)),(Int.tmod p1 1024),0)
def Fe (p2:(List Ae)) (x61:(List Int)) (p0:B2) (kont2_2:(Int→(List Int)→Option (Au × Int))) (rec2:((Int × (List Int))→Option (Au × Int))) (v16_2:Int) (b69_2:(List Int)):Option (Au × Int) :=
 bif (decide (v16_2 < ((p2.length:Nat):Int))) then
  (idx p2 v16_2).bind fun x81 =>
  (idx p2 v16_2).bind fun x86 =>
  (idx p2 v16_2).bind fun x92 =>
  (idx x61 x92.Column).bind fun x95 =>
  (AP p0.Schema x81.Column x86.Level x95).bind fun x97 =>
  bif rm b69_2.length [x97].length then
   rec2 ((IntKind.i64.wrap (v16_2 + 1)),(b69_2++[x97]))
  else none
 else
  kont2_2 v16_2 b69_2
def Fn (x46:(List Int)) (p0:B2) (p3:Int) (p2:(List Ae)) (kont1_0:(Int→(List (List Int))→Option (Au × Int))) (rec1:((Int × (List (List Int)))→Option (Au × Int))) (v13_1:Int) (c11_3_1:(List (List Int))):Option (Au × Int) :=
 bif (decide (v13_1 < ((x46.length:Nat):Int))) then
  (idx x46 v13_1).bind fun x58 =>
  (Ig p0 x58).bind fun x60 =>
  (idx p0.Rows x60).bind fun x61 =>
  (idx x46 v13_1).bind fun x66 =>
  (Np p3 x66).bind fun x68 =>
  iter (fun rec2 s=>Fe p2 x61 p0 (fun v16_2 b69_2=>(Lv c11_3_1 b69_2).bind fun x103=>rec1 ((IntKind.i64.wrap (v13_1 + 1)),x103)) rec2 s.1 s.2) A6 (0,[x68])
 else
  kont1_0 v13_1 c11_3_1
def EG (d:Nat) (p0:B2) (p1:Ay) (p2:(List Ae)) (p3:Int):Option (Au × Int) :=
 (Iw p0).bind fun x18 =>
 bif (!x18) then
  some (({ Project:=ByteArray.empty,Version:=0,Picks:=[],Rows:=[] }:Au),13)
 else
  (Ha d p0.Schema p1 p2).bind fun x25 =>
  bif (x25 != 0) then
   some (({ Project:=ByteArray.empty,Version:=0,Picks:=[],Rows:=[] }:Au),x25)
  else
   bif (bif (decide (p3 < 0)) then true else (decide (p3 ≥ 1152921504606846976))) then
    some (({ Project:=ByteArray.empty,Version:=0,Picks:=[],Rows:=[] }:Au),2)
   else
    bif rm 0 p2.length then
     (Gd d p0 p1).bind fun x46 =>
     iter (fun rec1 s=>Fn x46 p0 p3 p2 (fun v13_1 c11_3_1=>some (({ Project:=p1.Project,Version:=p0.Version,Picks:=p2,Rows:=c11_3_1 }:Au),0)) rec1 s.1 s.2) A6 (0,[])
    else none
def Kj (p0:(List B4)) (p1:(List B4)) (kont1_0:(Int→Option Bool)) (rec1:(Int→Option Bool)) (v5_1:Int):Option Bool :=
 bif (decide (v5_1 < ((p0.length:Nat):Int))) then
  (idx p0 v5_1).bind fun x19 =>
  (idx p1 v5_1).bind fun x23 =>
  bif (!((x19.Low==x23.Low) && ((x19.Count==x23.Count) && true))) then
   some false
  else
   rec1 (IntKind.i64.wrap (v5_1 + 1))
 else
  kont1_0 v5_1
def JA (p0:(List B4)) (p1:(List B4)):Option Bool :=
 bif (((p0.length:Nat):Int) != ((p1.length:Nat):Int)) then
  some false
 else
  iter (fun rec1 s=>Kj p0 p1 (fun v5_1=>some true) rec1 s) A6 0
def Kf (p0:(List Int)) (p1:(List Int)) (kont1_0:(Int→Option Bool)) (rec1:(Int→Option Bool)) (v5_1:Int):Option Bool :=
 bif (decide (v5_1 < ((p0.length:Nat):Int))) then
  (idx p0 v5_1).bind fun x19 =>
  (idx p1 v5_1).bind fun x23 =>
  bif (x19 != x23) then
   some false
  else
   rec1 (IntKind.i64.wrap (v5_1 + 1))
 else
  kont1_0 v5_1
def JS (p0:(List Int)) (p1:(List Int)):Option Bool :=
 bif (((p0.length:Nat):Int) != ((p1.length:Nat):Int)) then
  some false
 else
  iter (fun rec1 s=>Kf p0 p1 (fun v5_1=>some true) rec1 s) A6 0
def PZ (p1:(List Int)) (p0:Au) (kont1_0:(Int→(List Int)→Option (List Int))) (rec1:((Int × (List Int))→Option (List Int))) (v6_1:Int) (b5_1:(List Int)):Option (List Int) :=
 bif (decide (v6_1 < ((p1.length:Nat):Int))) then
  (idx p1 v6_1).bind fun x18 =>
  (idx p0.Rows x18).bind fun x20 =>
  (idx x20 0).bind fun x22 =>
  bif rm b5_1.length [x22].length then
   rec1 ((IntKind.i64.wrap (v6_1 + 1)),(b5_1++[x22]))
  else none
 else
  kont1_0 v6_1 b5_1
def LF (p0:Au) (p1:(List Int)):Option (List Int) :=
 iter (fun rec1 s=>PZ p1 p0 (fun v6_1 b5_1=>some b5_1) rec1 s.1 s.2) A6 (0,[])
def GK (p2:Int) (p0:Av) (x22:Int):Option (Int × Int × Bool) :=
 some ((if p2 > p0.Low then p2 else p0.Low),(if (IntKind.i64.wrap ((IntKind.i64.wrap (p2 + x22)) - 1)) < p0.High then (IntKind.i64.wrap ((IntKind.i64.wrap (p2 + x22)) - 1)) else p0.High),(decide ((if p2 > p0.Low then p2 else p0.Low)≤(if (IntKind.i64.wrap ((IntKind.i64.wrap (p2 + x22)) - 1)) < p0.High then (IntKind.i64.wrap ((IntKind.i64.wrap (p2 + x22)) - 1)) else p0.High))))
def F4 (p0:Av) (p1:Int) (p2:Int):Option (Int × Int × Bool) :=
 bif (p1==0) then
  some (p0.Low,p0.High,(p2==0))
 else
  (C6 p0 p1).bind fun x22 =>
  bif (p2==(-1099511627776)) then
   some (0,0,false)
  else
   (Dm p2 (-2000000) 2000000).bind fun x27 =>
   bif (!x27) then
    some (0,0,false)
   else
    bif (decide (x22≠0)) then
     bif ((Int.tmod p2 x22) != 0) then
      some (0,0,false)
     else
      GK p2 p0 x22
    else none
def NV (x31:(List Int)) (p0:Aa) (p1:Int) (p2:Int) (p3:Int) (kont1_0:(Int→Option Bool)) (rec1:(Int→Option Bool)) (v11_1:Int):Option Bool :=
 bif (decide (v11_1 < ((x31.length:Nat):Int))) then
  (idx x31 v11_1).bind fun x43 =>
  (AP p0 p1 p2 x43).bind fun x45 =>
  bif (x45==p3) then
   some true
  else
   rec1 (IntKind.i64.wrap (v11_1 + 1))
 else
  kont1_0 v11_1
def Fg (p0:Aa) (p1:Int) (p2:Int) (p3:Int):Option Bool :=
 (B7 p0 p1).bind fun x18 =>
 (Dm p2 0 x18).bind fun x19 =>
 bif (!x19) then
  some false
 else
  (idx p0.Columns p1).bind fun x24 =>
  bif (x24.Kind==2) then
   (Cg p0 p1).bind fun x31 =>
   iter (fun rec1 s=>NV x31 p0 p1 p2 p3 (fun v11_1=>some false) rec1 s) A6 0
  else
   bif (bif (decide (p2 > 0)) then (p3==(-1099511627776)) else false) then
    some x24.Optional
   else
    (F4 x24 p2 p3).bind fun x60 =>
    some x60.2.2
def Jk (v7_1:Int) (x48:(List Int)) (p1:Au) (rec1:(Int→Option Int)) (v9_2:Int):Option Int :=
 bif (decide (v7_1 > 0)) then
  (idx x48 0).bind fun x100 =>
  (idx p1.Rows (IntKind.i64.wrap (v7_1 - 1))).bind fun x106 =>
  (idx x106 0).bind fun x108 =>
  bif (decide (x100≤x108)) then
   some 10
  else
   rec1 (IntKind.i64.wrap (v7_1 + 1))
 else
  rec1 (IntKind.i64.wrap (v7_1 + 1))
def IG (p1:Au) (x48:(List Int)) (p0:Aa) (kont2_2:(Int→Option Int)) (rec2:(Int→Option Int)) (v9_2:Int):Option Int :=
 bif (decide (v9_2 < ((p1.Picks.length:Nat):Int))) then
  (idx p1.Picks v9_2).bind fun x80 =>
  (idx p1.Picks v9_2).bind fun x86 =>
  (idx x48 (IntKind.i64.wrap (v9_2 + 1))).bind fun x92 =>
  (Fg p0 x80.Column x86.Level x92).bind fun x94 =>
  bif (!x94) then
   some 9
  else
   rec2 (IntKind.i64.wrap (v9_2 + 1))
 else
  kont2_2 v9_2
def IC (p1:Au) (x48:(List Int)) (p0:Aa) (v7_1:Int) (rec1:(Int→Option Int)):Option Int :=
 iter (fun rec2 s=>IG p1 x48 p0 (Jk v7_1 x48 p1 rec1) rec2 s) A6 0
def IX (p1:Au) (p0:Aa) (kont1_0:(Int→Option Int)) (rec1:(Int→Option Int)) (v7_1:Int):Option Int :=
 bif (decide (v7_1 < ((p1.Rows.length:Nat):Int))) then
  (idx p1.Rows v7_1).bind fun x48 =>
  bif (((x48.length:Nat):Int) != (IntKind.i64.wrap (((p1.Picks.length:Nat):Int) + 1))) then
   some 9
  else
   (idx x48 0).bind fun x59 =>
   bif (decide (x59 < 0)) then
    some 9
   else
    (idx x48 0).bind fun x65 =>
    bif (decide (x65 > 1048575)) then
     some 9
    else
     IC p1 x48 p0 v7_1 rec1
 else
  kont1_0 v7_1
def F8 (p0:Aa) (p1:Au):Option Int :=
 (C3 p0).bind fun x11 =>
 bif (x11 != 0) then
  some x11
 else
  (BK p1.Project).bind fun x17 =>
  bif (!x17) then
   some 3
  else
   bif (bif (decide (p1.Version < 0)) then true else (decide (p1.Version > 300))) then
    some 13
   else
    (Df p0 p1.Picks).bind fun x30 =>
    bif (x30 != 0) then
     some x30
    else
     bif (decide (((p1.Rows.length:Nat):Int) > 200)) then
      some 1
     else
      iter (fun rec1 s=>IX p1 p0 (fun v7_1=>some 0) rec1 s) A6 0
def MU (x25:(List Int)) (p0:Aa) (p1:Int) (p2:Int) (p3:Int) (kont1_0:(Int→Option Int)) (rec1:(Int→Option Int)) (v11_1:Int):Option Int :=
 bif (decide (v11_1 < ((x25.length:Nat):Int))) then
  (idx x25 v11_1).bind fun x37 =>
  (AP p0 p1 p2 x37).bind fun x39 =>
  bif (x39==p3) then
   (idx x25 v11_1).bind fun x44 =>
   some x44
  else
   rec1 (IntKind.i64.wrap (v11_1 + 1))
 else
  kont1_0 v11_1
def CM (p0:Aa) (p1:Int) (p2:Int) (p3:Int):Option Int :=
 (idx p0.Columns p1).bind fun x18 =>
 bif (x18.Kind==2) then
  (Cg p0 p1).bind fun x25 =>
  iter (fun rec1 s=>MU x25 p0 p1 p2 p3 (fun v11_1=>some (-1)) rec1 s) A6 0
 else
  bif (bif (decide (p2 > 0)) then (p3==(-1099511627776)) else false) then
   some p3
  else
   (F4 x18 p2 p3).bind fun x57 =>
   some x57.1
def Gl (p2:(List Ae)) (p1:Ag) (p3:(List Int)) (kont1_0:(Int→Int→Int→Option Int)) (rec1:((Int × Int × Int)→Option Int)) (v9_1:Int) (v10_1:Int) (v11_1:Int):Option Int :=
 bif (decide (v11_1 < ((p2.length:Nat):Int))) then
  (idx p2 v11_1).bind fun x35 =>
  bif (x35.Column==p1.Column) then
   (idx p2 v11_1).bind fun x43 =>
   (idx p3 v11_1).bind fun x48 =>
   rec1 (x43.Level,x48,(IntKind.i64.wrap (v11_1 + 1)))
  else
   rec1 (v9_1,v10_1,(IntKind.i64.wrap (v11_1 + 1)))
 else
  kont1_0 v9_1 v10_1 v11_1
def Gx (p1:Ag) (self_ref05_coarse:(Aa→Ag→(List Ae)→(List Int)→Option Int)) (p0:Aa) (p2:(List Ae)) (p3:(List Int)) (kont2_2:(Int→(List Int)→Option Int)) (rec2:((Int × (List Int))→Option Int)) (v13_2:Int) (b12_2:(List Int)):Option Int :=
 bif (decide (v13_2 < ((p1.Kids.length:Nat):Int))) then
  (idx p1.Kids v13_2).bind fun x71 =>
  (self_ref05_coarse p0 x71 p2 p3).bind fun x75 =>
  bif rm b12_2.length [x75].length then
   rec2 ((IntKind.i64.wrap (v13_2 + 1)),(b12_2++[x75]))
  else none
 else
  kont2_2 v13_2 b12_2
def Cp (d:Nat) (self_ref05_coarse:(Aa→Ag→(List Ae)→(List Int)→Option Int)) (p0:Aa) (p1:Ag) (p2:(List Ae)) (p3:(List Int)):Option Int :=
 bif (bif (bif (p1.Op==2) then true else (p1.Op==3)) then true else (p1.Op==4)) then
  iter (fun rec1 s=>Gl p2 p1 p3 (fun v9_1 v10_1 v11_1=>(CM p0 p1.Column v9_1 v10_1).bind fun x57=>(Bt p0 p1 x57).bind fun x58=>some x58) rec1 s.1 s.2.1 s.2.2) A6 (0,0,0)
 else
  iter (fun rec2 s=>Gx p1 self_ref05_coarse p0 p2 p3 (fun v13_2 b12_2=>(Gc p1.Op b12_2).bind fun x81=>some x81) rec2 s.1 s.2) A6 (0,[])
def BJ:Nat→Aa→Ag→(List Ae)→(List Int)→Option Int
 | 0,_,_,_,_=>none
 | d + 1,p0,p1,p2,p3=>Cp d (BJ d) p0 p1 p2 p3
def HH (p2:(List Ae)) (p3:(List Int)) (p0:Aa) (kont1_0:(Int→Option Int)) (rec1:(Int→Option Int)) (v9_1:Int):Option Int :=
 bif (decide (v9_1 < ((p2.length:Nat):Int))) then
  (idx p2 v9_1).bind fun x44 =>
  (idx p2 v9_1).bind fun x49 =>
  (idx p3 v9_1).bind fun x54 =>
  (Fg p0 x44.Column x49.Level x54).bind fun x56 =>
  bif (!x56) then
   some 0
  else
   rec1 (IntKind.i64.wrap (v9_1 + 1))
 else
  kont1_0 v9_1
def HV (p2:(List Ae)) (p3:(List Int)) (p0:Aa) (d:Nat) (p1:Ag):Option Int :=
 iter (fun rec1 s=>HH p2 p3 p0 (fun v9_1=>(BJ d p0 p1 p2 p3).bind fun x62=>some x62) rec1 s) A6 0
def Jy (d:Nat) (p0:Aa) (p1:Ag) (p2:(List Ae)) (p3:(List Int)):Option Int :=
 (Ce d p0 p1).bind fun x12 =>
 bif (x12 != 0) then
  some 0
 else
  (Df p0 p2).bind fun x17 =>
  bif (bif (x17 != 0) then true else (((p3.length:Nat):Int) != ((p2.length:Nat):Int))) then
   some 0
  else
   (CN d p0 p1).bind fun x30 =>
   (FM x30 p2).bind fun x32 =>
   bif (!x32) then
    some 0
   else
    HV p2 p3 p0 d p1
def Qe (x46:(List Int)) (p0:Aa) (p1:Int) (p2:Int) (p3:Int) (p4:Int) (kont1_0:(Int→Int→Option (Int × Bool))) (rec1:((Int × Int)→Option (Int × Bool))) (v14_1:Int) (v15_1:Int):Option (Int × Bool) :=
 bif (decide (v15_1 < ((x46.length:Nat):Int))) then
  (idx x46 v15_1).bind fun x58 =>
  (AP p0 p1 p2 x58).bind fun x60 =>
  bif (x60 != p3) then
   rec1 (v14_1,(IntKind.i64.wrap (v15_1 + 1)))
  else
   (idx x46 v15_1).bind fun x68 =>
   (AP p0 p1 p4 x68).bind fun x70 =>
   bif (bif (decide (v14_1 ≥ 0)) then (x70 != v14_1) else false) then
    some (0,false)
   else
    rec1 (x70,(IntKind.i64.wrap (v15_1 + 1)))
 else
  kont1_0 v14_1 v15_1
def Ka (p0:Aa) (p1:Int) (p2:Int) (p3:Int) (p4:Int):Option (Int × Bool) :=
 (idx p0.Columns p1).bind fun x39 =>
 bif (x39.Kind==2) then
  (Cg p0 p1).bind fun x46 =>
  iter (fun rec1 s=>Qe x46 p0 p1 p2 p3 p4 (fun v14_1 v15_1=>some (v14_1,true)) rec1 s.1 s.2) A6 ((-1),0)
 else
  bif (p4==0) then
   some (0,true)
  else
   bif (bif (decide (p2 > 0)) then (p3==(-1099511627776)) else false) then
    some ((-1099511627776),true)
   else
    bif (bif (p2==0) then x39.Optional else false) then
     some (0,false)
    else
     (F4 x39 p2 p3).bind fun x98 =>
     (AP p0 p1 p4 x98.1).bind fun x106 =>
     (AP p0 p1 p4 x98.2.1).bind fun x111 =>
     bif (x106 != x111) then
      some (0,false)
     else
      some (x106,true)
def JF (p0:Aa) (p1:Int) (p2:Int) (p3:Int) (p4:Int):Option (Int × Bool) :=
 (Fg p0 p1 p2 p3).bind fun x26 =>
 bif (!x26) then
  some (0,false)
 else
  (B7 p0 p1).bind fun x32 =>
  (Dm p4 0 x32).bind fun x33 =>
  bif (!x33) then
   some (0,false)
  else
   Ka p0 p1 p2 p3 p4
def GM (p1:Au) (p3:Int) (p2:Int) (p0:Aa) (p4:Int) (kont1_0:(Int→Option (Int × Bool))) (rec1:(Int→Option (Int × Bool))) (v12_1:Int):Option (Int × Bool) :=
 bif (decide (v12_1 < ((p1.Picks.length:Nat):Int))) then
  (idx p1.Picks v12_1).bind fun x43 =>
  bif (x43.Column==p3) then
   (idx p1.Picks v12_1).bind fun x53 =>
   (idx p1.Rows p2).bind fun x59 =>
   (idx x59 (IntKind.i64.wrap (v12_1 + 1))).bind fun x63 =>
   (JF p0 p3 x53.Level x63 p4).bind fun x66 =>
   some (x66.1,x66.2)
  else
   rec1 (IntKind.i64.wrap (v12_1 + 1))
 else
  kont1_0 v12_1
def EM (p0:Aa) (p1:Au) (p2:Int) (p3:Int) (p4:Int):Option (Int × Bool) :=
 bif (bif (bif (bif (decide (p2 < 0)) then true else (decide (p2 ≥ ((p1.Rows.length:Nat):Int)))) then true else (decide (p3 < 1))) then true else (decide (p3 ≥ ((p0.Columns.length:Nat):Int)))) then
  some (0,false)
 else
  iter (fun rec1 s=>GM p1 p3 p2 p0 p4 (fun v12_1=>(JF p0 p3 0 0 p4).bind fun x72=>some (x72.1,x72.2)) rec1 s) A6 0
def E5 (b9_1:(List Int)) (v10_1:Int) (rec1:((Int × (List Int))→Option (List Int))) (v11_2:Bool) (v12_2:Int):Option (List Int) :=
 bif v11_2 then
  bif rm b9_1.length [v10_1].length then
   rec1 ((IntKind.i64.wrap (v10_1 + 1)),(b9_1++[v10_1]))
  else none
 else
  rec1 ((IntKind.i64.wrap (v10_1 + 1)),b9_1)
def Gm (p3:(List Int)) (p0:Aa) (p1:Au) (v10_1:Int) (kont2_2:(Bool→Int→Option (List Int))) (rec2:((Bool × Int)→Option (List Int))) (v11_2:Bool) (v12_2:Int):Option (List Int) :=
 bif (bif (decide (v12_2 < ((p3.length:Nat):Int))) then v11_2 else false) then
  (idx p3 v12_2).bind fun x53 =>
  (idx p3 v12_2).bind fun x58 =>
  (B7 p0 x58).bind fun x60 =>
  (EM p0 p1 v10_1 x53 x60).bind fun x61 =>
  rec2 ((bif x61.2 then (x61.1 != (-1099511627776)) else false),(IntKind.i64.wrap (v12_2 + 1)))
 else
  kont2_2 v11_2 v12_2
def E0 (p1:Au) (d:Nat) (p0:Aa) (p2:Ag) (p3:(List Int)) (kont1_0:(Int→(List Int)→Option (List Int))) (rec1:((Int × (List Int))→Option (List Int))) (v10_1:Int) (b9_1:(List Int)):Option (List Int) :=
 bif (decide (v10_1 < ((p1.Rows.length:Nat):Int))) then
  (idx p1.Rows v10_1).bind fun x33 =>
  bif (decide (0≤(1:Int)∧1≤((x33.length:Nat):Int)∧((x33.length:Nat):Int)≤((x33.length:Nat):Int))) then
   (Jy d p0 p2 p1.Picks (Mw x33 1 ((x33.length:Nat):Int))).bind fun x36 =>
   iter (fun rec2 s=>Gm p3 p0 p1 v10_1 (E5 b9_1 v10_1 rec1) rec2 s.1 s.2) A6 ((x36==1),0)
  else none
 else
  kont1_0 v10_1 b9_1
def EH (d:Nat) (p0:Aa) (p1:Au) (p2:Ag) (p3:(List Int)):Option (List Int) :=
 (F8 p0 p1).bind fun x17 =>
 bif (x17 != 0) then
  some []
 else
  iter (fun rec1 s=>E0 p1 d p0 p2 p3 (fun v10_1 b9_1=>some b9_1) rec1 s.1 s.2) A6 (0,[])
def Kk (x30:(List Ae)) (kont2_2:((List Ae)→Int→Option ((List Ae) × Int))) (rec2:(((List Ae) × Int)→Option ((List Ae) × Int))) (v7_2:(List Ae)) (v10_2:Int):Option ((List Ae) × Int) :=
 bif (decide (v10_2 < ((x30.length:Nat):Int))) then
  (idx x30 v10_2).bind fun x40 =>
  (idx x30 v10_2).bind fun x45 =>
  (Cq v7_2 x40.Column x45.Level).bind fun x48 =>
  rec2 (x48,(IntKind.i64.wrap (v10_2 + 1)))
 else
  kont2_2 v7_2 v10_2
def Km (p1:Ay) (d:Nat) (p0:Aa) (kont1_0:((List Ae)→Int→Option ((List Ae) × Int))) (rec1:(((List Ae) × Int)→Option ((List Ae) × Int))) (v7_1:(List Ae)) (v8_1:Int):Option ((List Ae) × Int) :=
 bif (decide (v8_1 < ((p1.Questions.length:Nat):Int))) then
  (idx p1.Questions v8_1).bind fun x28 =>
  (F7 d p0 x28).bind fun x30 =>
  iter (fun rec2 s=>Kk x30 (fun v7_2 v10_2=>rec1 (v7_2,(IntKind.i64.wrap (v8_1 + 1)))) rec2 s.1 s.2) A6 (v7_1,0)
 else
  kont1_0 v7_1 v8_1
def LR (d:Nat) (p0:Aa) (p1:Ay):Option ((List Ae) × Int) :=
 (E9 d p0 p1).bind fun x13 =>
 bif (x13 != 0) then
  some ([],x13)
 else
  iter (fun rec1 s=>Km p1 d p0 (fun v7_1 v8_1=>some (v7_1,0)) rec1 s.1 s.2) A6 ([],0)
def LO (d:Nat) (p0:Ag):Option Bool :=
 (JK d p0 ({ Op:=0,Column:=0,Code:=0,Low:=0,High:=0,Kids:=[] }:Ag)).bind fun x5 =>
 some x5
def B8 (p0:AA) (d:Nat) (j4_1:Bool) (j5_1:Bool) (k3_1_1:Int) (k3_2_1:ByteArray) (k3_3_1:Int) (k3_4_1:(List Int)) (k3_5_1:(List Ae)):Option Bool :=
 bif (bif (bif (bif (bif (k3_1_1==p0.Num) then (k3_2_1.toList==p0.Name.toList) else false) then (k3_3_1==p0.Column) else false) then (((k3_4_1.length:Nat):Int)==((p0.Columns.length:Nat):Int)) else false) then (((k3_5_1.length:Nat):Int)==((p0.Dims.length:Nat):Int)) else false) then
  bif j4_1 then
   bif j5_1 then
    some true
   else
    (LO d p0.Event).bind fun x114 =>
    some x114
  else
   (LO d p0.Cond).bind fun x106 =>
   bif x106 then
    bif j5_1 then
     some true
    else
     (LO d p0.Event).bind fun x114 =>
     some x114
   else
    some false
 else
  some false
def JT (d:Nat) (p0:AA):Option Bool :=
 bif (p0.Op==1) then
  B8 p0 d false false p0.Num ByteArray.empty 0 [] []
 else
  bif (p0.Op==2) then
   B8 p0 d false false 0 p0.Name 0 [] []
  else
   bif (p0.Op==3) then
    B8 p0 d true false 0 ByteArray.empty 0 [] []
   else
    bif (p0.Op==4) then
     B8 p0 d true false 0 ByteArray.empty p0.Column [] []
    else
     bif (p0.Op==5) then
      B8 p0 d true false 0 ByteArray.empty p0.Column [] []
     else
      bif (p0.Op==14) then
       B8 p0 d true false 0 ByteArray.empty p0.Column [] []
      else
       bif (p0.Op==6) then
        B8 p0 d false false 0 ByteArray.empty 0 [] []
       else
        bif (p0.Op==7) then
         B8 p0 d false false 0 ByteArray.empty 0 [] []
        else
         bif (p0.Op==8) then
          B8 p0 d false false 0 ByteArray.empty 0 [] []
         else
          bif (p0.Op==9) then
           B8 p0 d false false 0 ByteArray.empty 0 [] []
          else
           bif (p0.Op==10) then
            B8 p0 d true false 0 ByteArray.empty p0.Column [] p0.Dims
           else
            bif (p0.Op==11) then
             B8 p0 d true false 0 ByteArray.empty p0.Column p0.Columns []
            else
             bif (p0.Op==12) then
              B8 p0 d true true 0 ByteArray.empty p0.Column [] []
             else
              bif (p0.Op==13) then
               B8 p0 d true false p0.Num ByteArray.empty p0.Column [] []
              else
               some false
def BF (j5_2:Int) (d:Nat) (p0:Aa) (p1:AA) (j7_4:Bool):Option Bool :=
 bif j7_4 then
  bif (decide (j5_2 > 0)) then
   some true
  else
   (Ce d p0 p1.Cond).bind fun x148 =>
   some (x148==0)
 else
  some false
def Hd (p0:Aa) (p1:AA) (j5_2:Int) (d:Nat):Option Bool :=
 (Fq p0 p1.Column 3).bind fun x56 =>
 bif (p1.Op==1) then
  some (bif (decide (p1.Num ≥ (-1099511627776))) then (decide (p1.Num≤1099511627776)) else false)
 else
  bif (p1.Op==2) then
   (BK p1.Name).bind fun x73 =>
   some x73
  else
   bif (p1.Op==3) then
    BF j5_2 d p0 p1 true
   else
    bif (p1.Op==6) then
     BF j5_2 d p0 p1 true
    else
     bif (p1.Op==7) then
      BF j5_2 d p0 p1 true
     else
      bif (p1.Op==8) then
       BF j5_2 d p0 p1 true
      else
       bif (p1.Op==9) then
        BF j5_2 d p0 p1 true
       else
        bif (p1.Op==10) then
         (GV p0 p1.Dims).bind fun x85 =>
         bif (x85 != 0) then
          some false
         else
          BF j5_2 d p0 p1 (bif x56 then true else (p1.Column==(-1)))
        else
         bif (p1.Op==11) then
          (I0 p0 p1.Column p1.Columns).bind fun x100 =>
          bif (x100 != 0) then
           some false
          else
           BF j5_2 d p0 p1 x56
         else
          bif (p1.Op==12) then
           bif (!x56) then
            some false
           else
            (idx p0.Columns p1.Column).bind fun x111 =>
            bif (decide (x111.Low < 0)) then
             some false
            else
             (Ce d p0 p1.Event).bind fun x120 =>
             bif (x120 != 0) then
              some false
             else
              BF j5_2 d p0 p1 x56
          else
           bif (p1.Op==13) then
            bif (!x56) then
             some false
            else
             (idx p0.Columns p1.Column).bind fun x132 =>
             (I6 x132.Widths p1.Num).bind fun x137 =>
             bif (!x137) then
              some false
             else
              BF j5_2 d p0 p1 x56
           else
            BF j5_2 d p0 p1 x56
def Jh (p1:AA) (self_ref16_Right:(Aa→AA→Option Bool)) (p0:Aa) (kont1_0:(Int→Option Bool)) (rec1:(Int→Option Bool)) (v6_1:Int):Option Bool :=
 bif (decide (v6_1 < ((p1.Kids.length:Nat):Int))) then
  (idx p1.Kids v6_1).bind fun x39 =>
  bif (decide (x39.Op ≥ 10)) then
   some false
  else
   (idx p1.Kids v6_1).bind fun x48 =>
   (self_ref16_Right p0 x48).bind fun x50 =>
   bif (!x50) then
    some false
   else
    rec1 (IntKind.i64.wrap (v6_1 + 1))
 else
  kont1_0 v6_1
def Fx (p1:AA) (self_ref16_Right:(Aa→AA→Option Bool)) (p0:Aa) (d:Nat) (j5_2:Int):Option Bool :=
 bif (((p1.Kids.length:Nat):Int) != j5_2) then
  some false
 else
  iter (fun rec1 s=>Jh p1 self_ref16_Right p0 (fun v6_1=>Hd p0 p1 j5_2 d) rec1 s) A6 0
def GF (p1:AA) (self_ref16_Right:(Aa→AA→Option Bool)) (p0:Aa) (d:Nat):Option Bool :=
 bif (bif (decide (p1.Op ≥ 6)) then (decide (p1.Op≤9)) else false) then
  Fx p1 self_ref16_Right p0 d 2
 else
  Fx p1 self_ref16_Right p0 d 0
def ES (d:Nat) (self_ref16_Right:(Aa→AA→Option Bool)) (p0:Aa) (p1:AA):Option Bool :=
 (C3 p0).bind fun x9 =>
 bif (x9 != 0) then
  some false
 else
  (JT d p1).bind fun x13 =>
  bif (!x13) then
   some false
  else
   GF p1 self_ref16_Right p0 d
def EL:Nat→Aa→AA→Option Bool
 | 0,_,_=>none
 | d + 1,p0,p1=>ES d (EL d) p0 p1
def Mg (x12:Av) (p2:Int) (kont1_0:(Int→Option Int)) (rec1:(Int→Option Int)) (v8_1:Int):Option Int :=
 bif (decide (v8_1 < ((x12.Widths.length:Nat):Int))) then
  (idx x12.Widths v8_1).bind fun x24 =>
  bif (x24==p2) then
   some (IntKind.i64.wrap (((x12.Widths.length:Nat):Int) - v8_1))
  else
   rec1 (IntKind.i64.wrap (v8_1 + 1))
 else
  kont1_0 v8_1
def I4 (p0:Aa) (p1:Int) (p2:Int):Option Int :=
 (idx p0.Columns p1).bind fun x12 =>
 iter (fun rec1 s=>Mg x12 p2 (fun v8_1=>some (-1)) rec1 s) A6 0
def Jq (x11:(List Ae)) (kont1_0:((List Ae)→Int→Option (List Ae))) (rec1:(((List Ae) × Int)→Option (List Ae))) (v1_1:(List Ae)) (v8_1:Int):Option (List Ae) :=
 bif (decide (v8_1 < ((x11.length:Nat):Int))) then
  (idx x11 v8_1).bind fun x21 =>
  (idx x11 v8_1).bind fun x26 =>
  (Cq v1_1 x21.Column x26.Level).bind fun x29 =>
  rec1 (x29,(IntKind.i64.wrap (v8_1 + 1)))
 else
  kont1_0 v1_1 v8_1
def I8 (d:Nat) (p0:Aa) (p1:(List Ae)) (p2:Ag):Option (List Ae) :=
 (CN d p0 p2).bind fun x11 =>
 iter (fun rec1 s=>Jq x11 (fun v1_1 v8_1=>some v1_1) rec1 s.1 s.2) A6 (p1,0)
def DP (p0:Aa) (p1:(List Ae)) (p2:Int):Option (List Ae) :=
 (B7 p0 p2).bind fun x13 =>
 (Cd p0 p2 x13).bind fun x14 =>
 (Cq p1 p2 x14).bind fun x15 =>
 some x15
def OT (x119:(List Ae)) (kont4_7:((List Ae)→Int→Option (List Ae))) (rec4:(((List Ae) × Int)→Option (List Ae))) (v5_4:(List Ae)) (v10_4:Int):Option (List Ae) :=
 bif (decide (v10_4 < ((x119.length:Nat):Int))) then
  (idx x119 v10_4).bind fun x129 =>
  (idx x119 v10_4).bind fun x134 =>
  (Cq v5_4 x129.Column x134.Level).bind fun x137 =>
  rec4 (x137,(IntKind.i64.wrap (v10_4 + 1)))
 else
  kont4_7 v5_4 v10_4
def LZ (p1:AA) (self_ref17_Needs:(Aa→AA→Option (List Ae))) (p0:Aa) (kont3_5:((List Ae)→Int→Option (List Ae))) (rec3:(((List Ae) × Int)→Option (List Ae))) (v5_3:(List Ae)) (v8_3:Int):Option (List Ae) :=
 bif (decide (v8_3 < ((p1.Kids.length:Nat):Int))) then
  (idx p1.Kids v8_3).bind fun x117 =>
  (self_ref17_Needs p0 x117).bind fun x119 =>
  iter (fun rec4 s=>OT x119 (fun v5_4 v10_4=>rec3 (v5_4,(IntKind.i64.wrap (v8_3 + 1)))) rec4 s.1 s.2) A6 (v5_3,0)
 else
  kont3_5 v5_3 v8_3
def J5 (p1:AA) (self_ref17_Needs:(Aa→AA→Option (List Ae))) (p0:Aa) (j5_3:(List Ae)):Option (List Ae) :=
 iter (fun rec3 s=>LZ p1 self_ref17_Needs p0 (fun v5_3 v8_3=>some v5_3) rec3 s.1 s.2) A6 (j5_3,0)
def LS (p1:AA) (p0:Aa) (kont2_3:((List Ae)→Int→Option (List Ae))) (rec2:(((List Ae) × Int)→Option (List Ae))) (v5_2:(List Ae)) (v7_2:Int):Option (List Ae) :=
 bif (decide (v7_2 < ((p1.Columns.length:Nat):Int))) then
  (idx p1.Columns v7_2).bind fun x103 =>
  (DP p0 v5_2 x103).bind fun x105 =>
  rec2 (x105,(IntKind.i64.wrap (v7_2 + 1)))
 else
  kont2_3 v5_2 v7_2
def BM (p1:AA) (p0:Aa) (self_ref17_Needs:(Aa→AA→Option (List Ae))) (j5_2:(List Ae)):Option (List Ae) :=
 iter (fun rec2 s=>LS p1 p0 (fun v5_2 v7_2=>J5 p1 self_ref17_Needs p0 v5_2) rec2 s.1 s.2) A6 (j5_2,0)
def Hb (p1:AA) (p0:Aa) (self_ref17_Needs:(Aa→AA→Option (List Ae))) (j5_1:(List Ae)):Option (List Ae) :=
 bif (p1.Op==4) then
  (DP p0 j5_1 p1.Column).bind fun x64 =>
  BM p1 p0 self_ref17_Needs x64
 else
  bif (p1.Op==5) then
   (DP p0 j5_1 p1.Column).bind fun x64 =>
   BM p1 p0 self_ref17_Needs x64
  else
   bif (p1.Op==11) then
    (DP p0 j5_1 p1.Column).bind fun x64 =>
    BM p1 p0 self_ref17_Needs x64
   else
    bif (p1.Op==12) then
     (DP p0 j5_1 p1.Column).bind fun x64 =>
     BM p1 p0 self_ref17_Needs x64
    else
     bif (p1.Op==14) then
      (DP p0 j5_1 p1.Column).bind fun x64 =>
      BM p1 p0 self_ref17_Needs x64
     else
      bif (p1.Op==10) then
       bif (decide (p1.Column ≥ 0)) then
        (DP p0 j5_1 p1.Column).bind fun x74 =>
        BM p1 p0 self_ref17_Needs x74
       else
        BM p1 p0 self_ref17_Needs j5_1
      else
       bif (p1.Op==13) then
        (I4 p0 p1.Column p1.Num).bind fun x88 =>
        (Cd p0 p1.Column x88).bind fun x89 =>
        (Cq j5_1 p1.Column x89).bind fun x90 =>
        BM p1 p0 self_ref17_Needs x90
       else
        BM p1 p0 self_ref17_Needs j5_1
def Js (p1:AA) (p0:Aa) (kont1_0:((List Ae)→Int→Option (List Ae))) (rec1:(((List Ae) × Int)→Option (List Ae))) (v5_1:(List Ae)) (v6_1:Int):Option (List Ae) :=
 bif (decide (v6_1 < ((p1.Dims.length:Nat):Int))) then
  (idx p1.Dims v6_1).bind fun x34 =>
  (idx p1.Dims v6_1).bind fun x41 =>
  (idx p1.Dims v6_1).bind fun x47 =>
  (Cd p0 x41.Column x47.Level).bind fun x50 =>
  (Cq v5_1 x34.Column x50).bind fun x51 =>
  rec1 (x51,(IntKind.i64.wrap (v6_1 + 1)))
 else
  kont1_0 v5_1 v6_1
def EU (d:Nat) (self_ref17_Needs:(Aa→AA→Option (List Ae))) (p0:Aa) (p1:AA):Option (List Ae) :=
 (EL d p0 p1).bind fun x13 =>
 bif (!x13) then
  some []
 else
  (I8 d p0 [] p1.Cond).bind fun x19 =>
  (I8 d p0 x19 p1.Event).bind fun x22 =>
  iter (fun rec1 s=>Js p1 p0 (fun v5_1 v6_1=>Hb p1 p0 self_ref17_Needs v5_1) rec1 s.1 s.2) A6 (x22,0)
def F5:Nat→Aa→AA→Option (List Ae)
 | 0,_,_=>none
 | d + 1,p0,p1=>EU d (F5 d) p0 p1
def Cz (d:Nat) (p0:Aa) (p1:Au) (p2:AA):Option Int :=
 (F8 p0 p1).bind fun x10 =>
 bif (x10 != 0) then
  some x10
 else
  (EL d p0 p2).bind fun x16 =>
  bif (!x16) then
   some 11
  else
   (F5 d p0 p2).bind fun x20 =>
   (FM x20 p1.Picks).bind fun x23 =>
   bif (!x23) then
    some 23
   else
    some 0
def Jm (p0:(List Int)) (kont1_0:(Int→Option Int)) (rec1:(Int→Option Int)) (v5_1:Int):Option Int :=
 bif (decide (v5_1 < ((p0.length:Nat):Int))) then
  (idx p0 v5_1).bind fun x23 =>
  bif (decide (x23 < (-1000000))) then
   some 2
  else
   (idx p0 v5_1).bind fun x29 =>
   bif (decide (x29 > 1000000)) then
    some 2
   else
    rec1 (IntKind.i64.wrap (v5_1 + 1))
 else
  kont1_0 v5_1
def Iu (p0:(List Int)) (p1:Int):Option Int :=
 bif (decide (((p0.length:Nat):Int) > 200)) then
  some 1
 else
  bif (bif (decide (p1 < 1)) then true else (decide (p1 > 1000000))) then
   some 2
  else
   iter (fun rec1 s=>Jm p0 (fun v5_1=>some 0) rec1 s) A6 0
def Lq (p0:(List Int)) (p1:Int) (kont1_0:(Bool→Int→(List Int)→Option (List Int))) (rec1:((Bool × Int × (List Int))→Option (List Int))) (v6_1:Bool) (v7_1:Int) (b5_1:(List Int)):Option (List Int) :=
 bif (decide (v7_1 < ((p0.length:Nat):Int))) then
  (idx p0 v7_1).bind fun x20 =>
  bif (bif (decide (x20 > p1)) then (!v6_1) else false) then
   bif rm b5_1.length [p1].length then
    (idx p0 v7_1).bind fun x35 =>
    bif rm (b5_1++[p1]).length [x35].length then
     rec1 (true,(IntKind.i64.wrap (v7_1 + 1)),((b5_1++[p1])++[x35]))
    else none
   else none
  else
   (idx p0 v7_1).bind fun x35 =>
   bif rm b5_1.length [x35].length then
    rec1 (v6_1,(IntKind.i64.wrap (v7_1 + 1)),(b5_1++[x35]))
   else none
 else
  kont1_0 v6_1 v7_1 b5_1
def Na (p0:(List Int)) (p1:Int):Option (List Int) :=
 (I6 p0 p1).bind fun x10 =>
 bif x10 then
  some p0
 else
  iter (fun rec1 s=>Lq p0 p1 (fun v6_1 v7_1 b5_1=>bif (!v6_1) then   bif rm b5_1.length [p1].length then     some (b5_1++[p1])   else none else   some b5_1) rec1 s.1 s.2.1 s.2.2) A6 (false,0,[])
def Kq (p0:(List Int)) (p1:Int) (kont3_4:(Int→B4→Option ((List B4) × Int))) (rec3:((Int × B4)→Option ((List B4) × Int))) (v12_3:Int) (w11_3:B4):Option ((List B4) × Int) :=
 bif (decide (v12_3 < ((p0.length:Nat):Int))) then
  (idx p0 v12_3).bind fun x54 =>
  bif (decide (x54 ≥ w11_3.Low)) then
   (idx p0 v12_3).bind fun x62 =>
   bif (decide (x62 < (IntKind.i64.wrap (w11_3.Low + p1)))) then
    rec3 ((IntKind.i64.wrap (v12_3 + 1)),({ Low:=w11_3.Low,Count:=(IntKind.i64.wrap (w11_3.Count + 1)) }:B4))
   else
    rec3 ((IntKind.i64.wrap (v12_3 + 1)),w11_3)
  else
   rec3 ((IntKind.i64.wrap (v12_3 + 1)),w11_3)
 else
  kont3_4 v12_3 w11_3
def Ku (j7_1:(List Int)) (p0:(List Int)) (p1:Int) (kont2_2:(Int→(List B4)→Option ((List B4) × Int))) (rec2:((Int × (List B4))→Option ((List B4) × Int))) (v10_2:Int) (b9_2:(List B4)):Option ((List B4) × Int) :=
 bif (decide (v10_2 < ((j7_1.length:Nat):Int))) then
  (idx j7_1 v10_2).bind fun x43 =>
  iter (fun rec3 s=>Kq p0 p1 (fun v12_3 w11_3=>bif rm b9_2.length [w11_3].length then   rec2 ((IntKind.i64.wrap (v10_2 + 1)),(b9_2++[w11_3])) else none) rec3 s.1 s.2) A6 (0,({ Low:=x43,Count:=0 }:B4))
 else
  kont2_2 v10_2 b9_2
def Kd (p0:(List Int)) (p1:Int) (j7_1:(List Int)):Option ((List B4) × Int) :=
 iter (fun rec2 s=>Ku j7_1 p0 p1 (fun v10_2 b9_2=>some (b9_2,0)) rec2 s.1 s.2) A6 (0,[])
def Kh (p0:(List Int)) (p1:Int) (kont1_0:((List Int)→Int→Option ((List B4) × Int))) (rec1:(((List Int) × Int)→Option ((List B4) × Int))) (v7_1:(List Int)) (v8_1:Int):Option ((List B4) × Int) :=
 bif (decide (v8_1 < ((p0.length:Nat):Int))) then
  (idx p0 v8_1).bind fun x28 =>
  (DX x28 p1).bind fun x31 =>
  (Na v7_1 (IntKind.i64.wrap (x31 * p1))).bind fun x34 =>
  rec1 (x34,(IntKind.i64.wrap (v8_1 + 1)))
 else
  kont1_0 v7_1 v8_1
def GU (p0:(List Int)) (p1:Int):Option ((List B4) × Int) :=
 (Iu p0 p1).bind fun x15 =>
 bif (x15 != 0) then
  some ([],x15)
 else
  iter (fun rec1 s=>Kh p0 p1 (fun v7_1 v8_1=>Kd p0 p1 v7_1) rec1 s.1 s.2) A6 ([],0)
def Kg (p3:Int) (p1:Au) (v17_1:Int) (b15_1:(List Int)) (b16_1:(List Int)):Option ((List B4) × (List Int) × Int) :=
 (GU b16_1 p3).bind fun x76 =>
 bif (x76.2 != 0) then
  some ([],[],x76.2)
 else
  (LF p1 b15_1).bind fun x85 =>
  some (x76.1,x85,0)
def H5 (x35:(List Int)) (p0:Aa) (p2:Int) (p3:Int) (p1:Au) (kont1_0:(Int→(List Int)→(List Int)→Option ((List B4) × (List Int) × Int))) (rec1:((Int × (List Int) × (List Int))→Option ((List B4) × (List Int) × Int))) (v17_1:Int) (b15_1:(List Int)) (b16_1:(List Int)):Option ((List B4) × (List Int) × Int) :=
 bif (decide (v17_1 < ((x35.length:Nat):Int))) then
  (idx x35 v17_1).bind fun x47 =>
  (I4 p0 p2 p3).bind fun x53 =>
  (EM p0 p1 x47 p2 x53).bind fun x54 =>
  bif (bif x54.2 then (x54.1 != (-1099511627776)) else false) then
   (idx x35 v17_1).bind fun x65 =>
   bif rm b15_1.length [x65].length then
    bif rm b16_1.length [x54.1].length then
     rec1 ((IntKind.i64.wrap (v17_1 + 1)),(b15_1++[x65]),(b16_1++[x54.1]))
    else none
   else none
  else
   rec1 ((IntKind.i64.wrap (v17_1 + 1)),b15_1,b16_1)
 else
  kont1_0 v17_1 b15_1 b16_1
def FU (d:Nat) (p0:Aa) (p1:Au) (p2:Int) (p3:Int) (p4:Ag):Option ((List B4) × (List Int) × Int) :=
 (Cz d p0 p1 ({ Op:=13,Num:=p3,Name:=ByteArray.empty,Column:=p2,Columns:=[],Dims:=[],Cond:=p4,Event:=({ Op:=0,Column:=0,Code:=0,Low:=0,High:=0,Kids:=[] }:Ag),Kids:=[] }:AA)).bind fun x28 =>
 bif (x28 != 0) then
  some ([],[],x28)
 else
  (EH d p0 p1 p4 []).bind fun x35 =>
  iter (fun rec1 s=>H5 x35 p0 p2 p3 p1 (Kg p3 p1) rec1 s.1 s.2.1 s.2.2) A6 (0,[],[])
def Ex (v3_1:(List Int)) (p0:(List Int)) (v4_1:Int) (rec1:(((List Int) × Int)→Option (List Int))) (v5_2:Int):Option (List Int) :=
 bif (decide (0≤(0:Int)∧0≤v5_2∧v5_2≤((v3_1.length:Nat):Int)∧v5_2 = v5_2)) then
  (idx p0 v4_1).bind fun x36 =>
  bif (decide (0≤(v5_2:Int)∧v5_2≤((v3_1.length:Nat):Int)∧((v3_1.length:Nat):Int)≤((v3_1.length:Nat):Int))) then
   bif rm [x36].length (Mw v3_1 v5_2 ((v3_1.length:Nat):Int)).length then
    bif (rm (Mw v3_1 0 v5_2).length ([x36]++(Mw v3_1 v5_2 ((v3_1.length:Nat):Int))).length && !([x36]++(Mw v3_1 v5_2 ((v3_1.length:Nat):Int))).isEmpty) then
     rec1 (((Mw v3_1 0 v5_2)++([x36]++(Mw v3_1 v5_2 ((v3_1.length:Nat):Int)))),(IntKind.i64.wrap (v4_1 + 1)))
    else none
   else none
  else none
 else none
def KN (v3_1:(List Int)) (p0:(List Int)) (v4_1:Int) (kont2_2:(Int→Option (List Int))) (rec2:(Int→Option (List Int))) (v5_2:Int):Option (List Int) :=
 bif (decide (v5_2 > 0)) then
  (idx v3_1 (IntKind.i64.wrap (v5_2 - 1))).bind fun x20 =>
  (idx p0 v4_1).bind fun x24 =>
  bif (decide (x20 > x24)) then
   rec2 (IntKind.i64.wrap (v5_2 - 1))
  else
   kont2_2 v5_2
 else
  kont2_2 v5_2
def HJ (p0:(List Int)) (kont1_0:((List Int)→Int→Option (List Int))) (rec1:(((List Int) × Int)→Option (List Int))) (v3_1:(List Int)) (v4_1:Int):Option (List Int) :=
 bif (decide (v4_1 < ((p0.length:Nat):Int))) then
  iter (fun rec2 s=>KN v3_1 p0 v4_1 (Ex v3_1 p0 v4_1 rec1) rec2 s) A6 ((v3_1.length:Nat):Int)
 else
  kont1_0 v3_1 v4_1
def Jo (p0:(List Int)):Option (List Int) :=
 iter (fun rec1 s=>HJ p0 (fun v3_1 v4_1=>some v3_1) rec1 s.1 s.2) A6 ([],0)
def DG (p0:(List Int)):Option (He × Int) :=
 (Iu p0 1).bind fun x8 =>
 bif (x8 != 0) then
  some (({ Count:=0,Least:=0,Lower:=0,Middle:=0,Upper:=0,Greatest:=0 }:He),x8)
 else
  bif (((p0.length:Nat):Int)==0) then
   some (({ Count:=0,Least:=0,Lower:=0,Middle:=0,Upper:=0,Greatest:=0 }:He),18)
  else
   (Jo p0).bind fun x19 =>
   (idx x19 0).bind fun x22 =>
   (idx x19 (IntKind.i64.wrap (Int.tdiv (IntKind.i64.wrap (((p0.length:Nat):Int) - 1)) 4))).bind fun x28 =>
   (idx x19 (IntKind.i64.wrap (Int.tdiv (IntKind.i64.wrap (((p0.length:Nat):Int) - 1)) 2))).bind fun x34 =>
   (idx x19 (IntKind.i64.wrap (Int.tdiv (IntKind.i64.wrap (3 * (IntKind.i64.wrap (((p0.length:Nat):Int) - 1)))) 4))).bind fun x41 =>
   (idx x19 (IntKind.i64.wrap (((p0.length:Nat):Int) - 1))).bind fun x46 =>
   some (({ Count:=((p0.length:Nat):Int),Least:=x22,Lower:=x28,Middle:=x34,Upper:=x41,Greatest:=x46 }:He),0)
def IB (p1:Au) (x34:(List Int)) (v14_1:Int) (b13_1:(List Int)):Option (He × (List Int) × Int) :=
 (DG b13_1).bind fun x61 =>
 bif (x61.2 != 0) then
  some (({ Count:=0,Least:=0,Lower:=0,Middle:=0,Upper:=0,Greatest:=0 }:He),[],x61.2)
 else
  (LF p1 x34).bind fun x71 =>
  some (x61.1,x71,0)
def Hq (x34:(List Int)) (p0:Aa) (p2:Int) (p1:Au) (kont1_0:(Int→(List Int)→Option (He × (List Int) × Int))) (rec1:((Int × (List Int))→Option (He × (List Int) × Int))) (v14_1:Int) (b13_1:(List Int)):Option (He × (List Int) × Int) :=
 bif (decide (v14_1 < ((x34.length:Nat):Int))) then
  (idx x34 v14_1).bind fun x46 =>
  (B7 p0 p2).bind fun x51 =>
  (EM p0 p1 x46 p2 x51).bind fun x52 =>
  bif rm b13_1.length [x52.1].length then
   rec1 ((IntKind.i64.wrap (v14_1 + 1)),(b13_1++[x52.1]))
  else none
 else
  kont1_0 v14_1 b13_1
def G2 (d:Nat) (p0:Aa) (p1:Au) (p2:Int) (p3:Ag):Option (He × (List Int) × Int) :=
 (Cz d p0 p1 ({ Op:=14,Num:=0,Name:=ByteArray.empty,Column:=p2,Columns:=[],Dims:=[],Cond:=p3,Event:=({ Op:=0,Column:=0,Code:=0,Low:=0,High:=0,Kids:=[] }:Ag),Kids:=[] }:AA)).bind fun x24 =>
 bif (x24 != 0) then
  some (({ Count:=0,Least:=0,Lower:=0,Middle:=0,Upper:=0,Greatest:=0 }:He),[],x24)
 else
  (EH d p0 p1 p3 [p2]).bind fun x34 =>
  iter (fun rec1 s=>Hq x34 p0 p2 p1 (IB p1 x34) rec1 s.1 s.2) A6 (0,[])
def N9 (p0:(List Int)):Option Ab :=
 bif (decide (0≤(0:Int)∧0≤(if 400 < ((p0.length:Nat):Int) then 400 else ((p0.length:Nat):Int))∧(if 400 < ((p0.length:Nat):Int) then 400 else ((p0.length:Nat):Int))≤((p0.length:Nat):Int))) then
  some ({ f_l:=(Mw p0 0 (if 400 < ((p0.length:Nat):Int) then 400 else ((p0.length:Nat):Int))),f_at:=0 }:Ab)
 else none
def FQ (p0:Ab) (p1:Int):Option (Int × Ab) :=
 (idx p0.f_l (IntKind.i64.wrap ((IntKind.i64.wrap (p0.f_at + 1)) - 1))).bind fun x36 =>
 bif (decide (p1 > 256)) then
  bif (decide ((IntKind.i64.wrap (p0.f_at + 1)) < ((p0.f_l.length:Nat):Int))) then
   (idx p0.f_l (IntKind.i64.wrap (p0.f_at + 1))).bind fun x63 =>
   bif (decide (p1≠0)) then
    some ((Int.tmod (IntKind.i64.wrap ((IntKind.i64.wrap ((IntKind.i64.wrap x36) * 256)) + (IntKind.i64.wrap x63))) p1),({ f_l:=p0.f_l,f_at:=(IntKind.i64.wrap ((IntKind.i64.wrap (p0.f_at + 1)) + 1)) }:Ab))
   else none
  else
   bif (decide (p1≠0)) then
    some ((Int.tmod (IntKind.i64.wrap x36) p1),({ f_l:=p0.f_l,f_at:=(IntKind.i64.wrap (p0.f_at + 1)) }:Ab))
   else none
 else
  bif (decide (p1≠0)) then
   some ((Int.tmod (IntKind.i64.wrap x36) p1),({ f_l:=p0.f_l,f_at:=(IntKind.i64.wrap (p0.f_at + 1)) }:Ab))
  else none
def A5 (p0:Ab) (p1:Int):Option (Int × Ab) :=
 bif (decide (p1 < 1)) then
  some (0,p0)
 else
  bif (decide (p0.f_at ≥ ((p0.f_l.length:Nat):Int))) then
   some (0,p0)
  else
   FQ p0 p1
def BV (p0:Ab) (p1:Int):Option (Bool × Ab) :=
 (A5 p0 p1).bind fun x7 =>
 some ((x7.1==(IntKind.i64.wrap (p1 - 1))),x7.2)
def AJ (p0:Ab) (p1:Int) (p2:Int):Option (Int × Ab) :=
 (A5 p0 (IntKind.i64.wrap ((IntKind.i64.wrap (p2 - p1)) + 1))).bind fun x13 =>
 some ((IntKind.i64.wrap (p1 + x13.1)),x13.2)
def Ij (v8_2:Int) (kont3_4:(Int→(List DA)→Option (Am × Ab))) (rec3:((Int × (List DA))→Option (Am × Ab))) (v9_3:Int) (b12_3:(List DA)):Option (Am × Ab) :=
 bif (decide (v9_3 > 0)) then
  (CJ ((b12_3.length:Nat):Int)).bind fun x49 =>
  bif (decide (({ data:=#[108] }:ByteArray).size + x49.size≤9223372036854775807)) then
   bif rm b12_3.length ([({ Name:=(({ data:=#[108] }:ByteArray)++x49),Parent:=(IntKind.i64.wrap (1 + v8_2)) }:DA)]).length then
    rec3 ((IntKind.i64.wrap (v9_3 - 1)),(b12_3++[({ Name:=(({ data:=#[108] }:ByteArray)++x49),Parent:=(IntKind.i64.wrap (1 + v8_2)) }:DA)]))
   else none
  else none
 else
  kont3_4 v9_3 b12_3
def FB (x15:(Int × Ab)) (kont2_2:(Int→Ab→(List DA)→Option (Am × Ab))) (rec2:((Int × Ab × (List DA))→Option (Am × Ab))) (v8_2:Int) (w0_2:Ab) (b12_2:(List DA)):Option (Am × Ab) :=
 bif (decide (v8_2 < x15.1)) then
  (AJ w0_2 1 2).bind fun x39 =>
  iter (fun rec3 s=>Ij v8_2 (fun v9_3 b12_3=>rec2 ((IntKind.i64.wrap (v8_2 + 1)),x39.2,b12_3)) rec3 s.1 s.2) A6 (x39.1,b12_2)
 else
  kont2_2 v8_2 w0_2 b12_2
def FG (x15:(Int × Ab)) (p1:ByteArray) (k12_1:(List DA)):Option (Am × Ab) :=
 (BV x15.2 2).bind fun x31 =>
 bif x31.1 then
  some (({ Name:=p1,Codes:=k12_1 }:Am),x31.2)
 else
  iter (fun rec2 s=>FB x15 (fun v8_2 w0_2 b12_2=>some (({ Name:=p1,Codes:=b12_2 }:Am),w0_2)) rec2 s.1 s.2.1 s.2.2) A6 (0,x31.2,k12_1)
def FT (x15:(Int × Ab)) (kont1_0:(Int→(List DA)→Option (Am × Ab))) (rec1:((Int × (List DA))→Option (Am × Ab))) (v7_1:Int) (b12_1:(List DA)):Option (Am × Ab) :=
 bif (decide (v7_1 < x15.1)) then
  (CJ v7_1).bind fun x24 =>
  bif (decide (({ data:=#[107] }:ByteArray).size + x24.size≤9223372036854775807)) then
   bif rm b12_1.length ([({ Name:=(({ data:=#[107] }:ByteArray)++x24),Parent:=0 }:DA)]).length then
    rec1 ((IntKind.i64.wrap (v7_1 + 1)),(b12_1++[({ Name:=(({ data:=#[107] }:ByteArray)++x24),Parent:=0 }:DA)]))
   else none
  else none
 else
  kont1_0 v7_1 b12_1
def E7 (p0:Ab) (p1:ByteArray):Option (Am × Ab) :=
 (AJ p0 1 3).bind fun x15 =>
 iter (fun rec1 s=>FT x15 (fun v7_1 b12_1=>FG x15 p1 b12_1) rec1 s.1 s.2) A6 (0,[({ Name:=({ data:=#[116,111,112] }:ByteArray),Parent:=(-1) }:DA)])
def Dr (p0:Ab) (p1:ByteArray):Option (Av × Ab) :=
 (AJ p0 (-4) 2).bind fun x8 =>
 (A5 x8.2 4).bind fun x15 =>
 (idx ([[1],[1,5],[1,5,20],[1,2,4,12]]) x15.1).bind fun x16 =>
 (BV x15.2 3).bind fun x19 =>
 (A5 x19.2 45).bind fun x24 =>
 some (({ Name:=p1,Kind:=3,List_:=0,Low:=x8.1,High:=(IntKind.i64.wrap (x8.1 + x24.1)),Widths:=x16,Optional:=x19.1 }:Av),x24.2)
def EP (kont1_0:(Int→Ab→(List Av)→Option (Aa × Ab))) (rec1:((Int × Ab × (List Av))→Option (Aa × Ab))) (v4_1:Int) (w0_1:Ab) (b12_1:(List Av)):Option (Aa × Ab) :=
 bif (decide (v4_1 > 0)) then
  (CJ ((b12_1.length:Nat):Int)).bind fun x34 =>
  bif (decide (({ data:=#[109] }:ByteArray).size + x34.size≤9223372036854775807)) then
   (Dr w0_1 (({ data:=#[109] }:ByteArray)++x34)).bind fun x36 =>
   bif rm b12_1.length [x36.1].length then
    rec1 ((IntKind.i64.wrap (v4_1 - 1)),x36.2,(b12_1++[x36.1]))
   else none
  else none
 else
  kont1_0 v4_1 w0_1 b12_1
def Kw (kont2_0:(Int→Ab→(List Av)→Option (Aa × Ab))) (rec2:((Int × Ab × (List Av))→Option (Aa × Ab))) (v4_2:Int) (w0_2:Ab) (b12_2:(List Av)):Option (Aa × Ab) :=
 bif (decide (v4_2 > 0)) then
  (CJ ((b12_2.length:Nat):Int)).bind fun x34 =>
  bif (decide (({ data:=#[109] }:ByteArray).size + x34.size≤9223372036854775807)) then
   (Dr w0_2 (({ data:=#[109] }:ByteArray)++x34)).bind fun x36 =>
   bif rm b12_2.length [x36.1].length then
    rec2 ((IntKind.i64.wrap (v4_2 - 1)),x36.2,(b12_2++[x36.1]))
   else none
  else none
 else
  kont2_0 v4_2 w0_2 b12_2
def C2 (p0:Ab):Option (Aa × Ab) :=
 (E7 p0 ({ data:=#[111,110,101] }:ByteArray)).bind fun x6 =>
 (E7 x6.2 ({ data:=#[116,119,111] }:ByteArray)).bind fun x8 =>
 (BV x8.2 2).bind fun x15 =>
 bif x15.1 then
  bif rm ([({ Name:=({ data:=#[119,104,111] }:ByteArray),Kind:=1,List_:=0,Low:=0,High:=0,Widths:=[],Optional:=false }:Av),({ Name:=({ data:=#[115,101,120] }:ByteArray),Kind:=2,List_:=0,Low:=0,High:=0,Widths:=[],Optional:=false }:Av)]).length ([({ Name:=({ data:=#[106,111,98] }:ByteArray),Kind:=2,List_:=1,Low:=0,High:=0,Widths:=[],Optional:=false }:Av)]).length then
   (AJ x15.2 1 3).bind fun x23 =>
   iter (fun rec1 s=>EP (fun v4_1 w0_1 b12_1=>some (({ Lists:=[x6.1,x8.1],Columns:=b12_1 }:Aa),w0_1)) rec1 s.1 s.2.1 s.2.2) A6 (x23.1,x23.2,([({ Name:=({ data:=#[119,104,111] }:ByteArray),Kind:=1,List_:=0,Low:=0,High:=0,Widths:=[],Optional:=false }:Av),({ Name:=({ data:=#[115,101,120] }:ByteArray),Kind:=2,List_:=0,Low:=0,High:=0,Widths:=[],Optional:=false }:Av)]++[({ Name:=({ data:=#[106,111,98] }:ByteArray),Kind:=2,List_:=1,Low:=0,High:=0,Widths:=[],Optional:=false }:Av)]))
  else none
 else
  (AJ x15.2 1 3).bind fun x23 =>
  iter (fun rec2 s=>Kw (fun v4_2 w0_2 b12_2=>some (({ Lists:=[x6.1,x8.1],Columns:=b12_2 }:Aa),w0_2)) rec2 s.1 s.2.1 s.2.2) A6 (x23.1,x23.2,[({ Name:=({ data:=#[119,104,111] }:ByteArray),Kind:=1,List_:=0,Low:=0,High:=0,Widths:=[],Optional:=false }:Av),({ Name:=({ data:=#[115,101,120] }:ByteArray),Kind:=2,List_:=0,Low:=0,High:=0,Widths:=[],Optional:=false }:Av)])
def Fj (p0:Ab) (p1:Aa) (p2:Int):Option (Int × Ab) :=
 (idx p1.Columns p2).bind fun x12 =>
 bif (x12.Kind==1) then
  (AJ p0 1 60).bind fun x19 =>
  some (x19.1,x19.2)
 else
  bif (x12.Kind==2) then
   (Cg p1 p2).bind fun x24 =>
   (A5 p0 ((x24.length:Nat):Int)).bind fun x29 =>
   (idx x24 x29.1).bind fun x30 =>
   some (x30,x29.2)
  else
   bif x12.Optional then
    (BV p0 4).bind fun x36 =>
    bif x36.1 then
     some ((-1099511627776),x36.2)
    else
     (AJ x36.2 x12.Low x12.High).bind fun x43 =>
     some (x43.1,x43.2)
   else
    (AJ p0 x12.Low x12.High).bind fun x43 =>
    some (x43.1,x43.2)
def G7 (p1:Aa) (kont1_0:(Int→Ab→(List Int)→Option ((List Int) × Ab))) (rec1:((Int × Ab × (List Int))→Option ((List Int) × Ab))) (v10_1:Int) (w0_1:Ab) (b5_1:(List Int)):Option ((List Int) × Ab) :=
 bif (decide (v10_1 < ((p1.Columns.length:Nat):Int))) then
  (Fj w0_1 p1 v10_1).bind fun x17 =>
  bif rm b5_1.length [x17.1].length then
   rec1 ((IntKind.i64.wrap (v10_1 + 1)),x17.2,(b5_1++[x17.1]))
  else none
 else
  kont1_0 v10_1 w0_1 b5_1
def GP (p0:Ab) (p1:Aa):Option ((List Int) × Ab) :=
 iter (fun rec1 s=>G7 p1 (fun v10_1 w0_1 b5_1=>some (b5_1,w0_1)) rec1 s.1 s.2.1 s.2.2) A6 (0,p0,[])
def EJ (x9:(Aa × Ab)) (kont1_0:(Int→Ab→(List (List Int))→Option (B2 × Ab))) (rec1:((Int × Ab × (List (List Int)))→Option (B2 × Ab))) (v7_1:Int) (w0_1:Ab) (c6_2_1:(List (List Int))):Option (B2 × Ab) :=
 bif (decide (v7_1 > 0)) then
  (GP w0_1 x9.1).bind fun x24 =>
  (Lv c6_2_1 x24.1).bind fun x25 =>
  rec1 ((IntKind.i64.wrap (v7_1 - 1)),x24.2,x25)
 else
  kont1_0 v7_1 w0_1 c6_2_1
def Cj (p0:Ab) (p1:Int):Option (B2 × Ab) :=
 (C2 p0).bind fun x9 =>
 (A5 x9.2 (IntKind.i64.wrap (p1 + 1))).bind fun x15 =>
 iter (fun rec1 s=>EJ x9 (fun v7_1 w0_1 c6_2_1=>some (({ Schema:=x9.1,Rows:=c6_2_1,Gone:=[],Version:=0 }:B2),w0_1)) rec1 s.1 s.2.1 s.2.2) A6 (x15.1,x15.2,[])
def SG (v6_1:Int) (b5_1:(List Ae)):Option (Ay × (List Ae)) :=
 some (({ Project:=({ data:=#[97,108,108,95,114,111,119,115] }:ByteArray),Source:=({ data:=#[115,114,99] }:ByteArray),Cohort:=({ Op:=1,Column:=0,Code:=0,Low:=0,High:=0,Kids:=[] }:Ag),Sample:=({ Part:=1,Of:=1,Seed:=0 }:Hn),Questions:=[({ Name:=({ data:=#[113] }:ByteArray),Kind:=1,Filter:=({ Op:=1,Column:=0,Code:=0,Low:=0,High:=0,Kids:=[] }:Ag),Dims:=[({ Column:=1,Level:=0 }:Ae)],Measure:=(-1),Terms:=[],Event:=({ Op:=0,Column:=0,Code:=0,Low:=0,High:=0,Kids:=[] }:Ag) }:AG)] }:Ay),b5_1)
def M2 (p0:Aa) (kont1_0:(Int→(List Ae)→Option (Ay × (List Ae)))) (rec1:((Int × (List Ae))→Option (Ay × (List Ae)))) (v6_1:Int) (b5_1:(List Ae)):Option (Ay × (List Ae)) :=
 bif (decide (v6_1 < ((p0.Columns.length:Nat):Int))) then
  (B7 p0 v6_1).bind fun x21 =>
  bif rm b5_1.length [({ Column:=v6_1,Level:=x21 }:Ae)].length then
   rec1 ((IntKind.i64.wrap (v6_1 + 1)),(b5_1++[({ Column:=v6_1,Level:=x21 }:Ae)]))
  else none
 else
  kont1_0 v6_1 b5_1
def Nj (p0:Aa):Option (Ay × (List Ae)) :=
 iter (fun rec1 s=>M2 p0 SG rec1 s.1 s.2) A6 (1,[])
def Db (p0:Ab):Option (Int × Ab) :=
 (A5 p0 60000).bind fun x4 =>
 (A5 x4.2 60000).bind fun x6 =>
 (A5 x6.2 7).bind fun x9 =>
 some ((IntKind.i64.wrap ((IntKind.i64.wrap (x4.1 * x6.1)) + x9.1)),x9.2)
def F3 (d:Nat) (p0:Ab) (p1:Int):Option (B2 × Au × Ab) :=
 (Cj p0 p1).bind fun x13 =>
 (Nj x13.1.Schema).bind fun x17 =>
 (Db x13.2).bind fun x25 =>
 (EG d x13.1 x17.1 x17.2 x25.1).bind fun x26 =>
 some (x13.1,x26.1,x25.2)
def E6 (p0:Aa) (p1:Int) (kont1_0:(Int→(List Int)→Option (List Int))) (rec1:((Int × (List Int))→Option (List Int))) (v10_1:Int) (b5_1:(List Int)):Option (List Int) :=
 bif (decide (v10_1 < ((p0.Columns.length:Nat):Int))) then
  (idx p0.Columns v10_1).bind fun x16 =>
  bif (x16.Kind==p1) then
   bif rm b5_1.length [v10_1].length then
    rec1 ((IntKind.i64.wrap (v10_1 + 1)),(b5_1++[v10_1]))
   else none
  else
   rec1 ((IntKind.i64.wrap (v10_1 + 1)),b5_1)
 else
  kont1_0 v10_1 b5_1
def Dt (p0:Aa) (p1:Int):Option (List Int) :=
 iter (fun rec1 s=>E6 p0 p1 (fun v10_1 b5_1=>some b5_1) rec1 s.1 s.2) A6 (0,[])
def B0 (p0:Ab) (p1:Aa):Option (Int × Ab) :=
 (Dt p1 3).bind fun x7 =>
 (A5 p0 ((x7.length:Nat):Int)).bind fun x12 =>
 (idx x7 x12.1).bind fun x13 =>
 some (x13,x12.2)
def Nd (p0:Int) (p1:Int):Option Int :=
 bif (decide (p1 < 1)) then
  some 0
 else
  bif (decide (p1≠0)) then
   bif (decide ((Int.tmod p0 p1) < 0)) then
    some (IntKind.i64.wrap ((Int.tmod p0 p1) + p1))
   else
    some (Int.tmod p0 p1)
  else none
def Fv (p0:Ab) (p1:Aa):Option (Int × Ab) :=
 (Dt p1 2).bind fun x7 =>
 (A5 p0 ((x7.length:Nat):Int)).bind fun x12 =>
 (idx x7 x12.1).bind fun x13 =>
 some (x13,x12.2)
def Dq (p1:Aa) (k0_1:Ab):Option (Ag × Ab) :=
 (A5 k0_1 5).bind fun x53 =>
 bif (x53.1==1) then
  (Fv x53.2 p1).bind fun x58 =>
  (idx p1.Columns x58.1).bind fun x66 =>
  (idx p1.Lists x66.List_).bind fun x69 =>
  (A5 x58.2 ((x69.Codes.length:Nat):Int)).bind fun x73 =>
  some (({ Op:=2,Column:=x58.1,Code:=x73.1,Low:=0,High:=0,Kids:=[] }:Ag),x73.2)
 else
  bif (x53.1==2) then
   (B0 x53.2 p1).bind fun x80 =>
   (idx p1.Columns x80.1).bind fun x84 =>
   (AJ x80.2 (-3) 40).bind fun x88 =>
   (A5 x88.2 30).bind fun x94 =>
   some (({ Op:=3,Column:=x80.1,Code:=0,Low:=(IntKind.i64.wrap (x84.Low + x88.1)),High:=(IntKind.i64.wrap ((IntKind.i64.wrap (x84.Low + x88.1)) + x94.1)),Kids:=[] }:Ag),x94.2)
  else
   bif (x53.1==3) then
    (B0 x53.2 p1).bind fun x80 =>
    (idx p1.Columns x80.1).bind fun x84 =>
    (AJ x80.2 (-3) 40).bind fun x88 =>
    (A5 x88.2 30).bind fun x94 =>
    some (({ Op:=3,Column:=x80.1,Code:=0,Low:=(IntKind.i64.wrap (x84.Low + x88.1)),High:=(IntKind.i64.wrap ((IntKind.i64.wrap (x84.Low + x88.1)) + x94.1)),Kids:=[] }:Ag),x94.2)
   else
    bif (x53.1==4) then
     (B0 x53.2 p1).bind fun x101 =>
     (idx p1.Columns x101.1).bind fun x105 =>
     bif x105.Optional then
      some (({ Op:=4,Column:=x101.1,Code:=0,Low:=0,High:=0,Kids:=[] }:Ag),x101.2)
     else
      some (({ Op:=1,Column:=0,Code:=0,Low:=0,High:=0,Kids:=[] }:Ag),x101.2)
    else
     some (({ Op:=1,Column:=0,Code:=0,Low:=0,High:=0,Kids:=[] }:Ag),x53.2)
def CW (d:Nat) (self_draw_Codes_Cond:(Ab→Aa→Int→Option (Ag × Ab))) (p0:Ab) (p1:Aa) (p2:Int):Option (Ag × Ab) :=
 bif (decide (p2 > 0)) then
  (A5 p0 5).bind fun x14 =>
  bif (x14.1==2) then
   (self_draw_Codes_Cond x14.2 p1 (IntKind.i64.wrap (p2 - 1))).bind fun x21 =>
   some (({ Op:=7,Column:=0,Code:=0,Low:=0,High:=0,Kids:=[x21.1] }:Ag),x21.2)
  else
   bif (x14.1==3) then
    (self_draw_Codes_Cond x14.2 p1 (IntKind.i64.wrap (p2 - 1))).bind fun x30 =>
    (self_draw_Codes_Cond x30.2 p1 (IntKind.i64.wrap (p2 - 1))).bind fun x35 =>
    some (({ Op:=5,Column:=0,Code:=0,Low:=0,High:=0,Kids:=[x30.1,x35.1] }:Ag),x35.2)
   else
    bif (x14.1==4) then
     (self_draw_Codes_Cond x14.2 p1 (IntKind.i64.wrap (p2 - 1))).bind fun x44 =>
     (self_draw_Codes_Cond x44.2 p1 (IntKind.i64.wrap (p2 - 1))).bind fun x49 =>
     some (({ Op:=6,Column:=0,Code:=0,Low:=0,High:=0,Kids:=[x44.1,x49.1] }:Ag),x49.2)
    else
     Dq p1 x14.2
 else
  Dq p1 p0
def Cs:Nat→Ab→Aa→Int→Option (Ag × Ab)
 | 0,_,_,_=>none
 | d + 1,p0,p1,p2=>CW d (Cs d) p0 p1 p2
def Fc (x11:(List Int)) (p2:Int) (kont1_0:(Int→Ab→(List Int)→Option ((List Int) × Ab))) (rec1:((Int × Ab × (List Int))→Option ((List Int) × Ab))) (v14_1:Int) (w0_1:Ab) (b7_1:(List Int)):Option ((List Int) × Ab) :=
 bif (decide (v14_1 < ((x11.length:Nat):Int))) then
  (idx x11 v14_1).bind fun x19 =>
  bif (x19 != p2) then
   bif (((b7_1.length:Nat):Int)==0) then
    (idx x11 v14_1).bind fun x35 =>
    bif rm b7_1.length [x35].length then
     rec1 ((IntKind.i64.wrap (v14_1 + 1)),w0_1,(b7_1++[x35]))
    else none
   else
    (BV w0_1 2).bind fun x29 =>
    bif x29.1 then
     (idx x11 v14_1).bind fun x35 =>
     bif rm b7_1.length [x35].length then
      rec1 ((IntKind.i64.wrap (v14_1 + 1)),x29.2,(b7_1++[x35]))
     else none
    else
     rec1 ((IntKind.i64.wrap (v14_1 + 1)),x29.2,b7_1)
  else
   rec1 ((IntKind.i64.wrap (v14_1 + 1)),w0_1,b7_1)
 else
  kont1_0 v14_1 w0_1 b7_1
def Fo (p0:Ab) (p1:Aa) (p2:Int):Option ((List Int) × Ab) :=
 (Dt p1 3).bind fun x11 =>
 iter (fun rec1 s=>Fc x11 p2 (fun v14_1 w0_1 b7_1=>some (b7_1,w0_1)) rec1 s.1 s.2.1 s.2.2) A6 (0,p0,[])
def FJ (x9:(List Int)) (x16:(Int × Ab)) (p1:Aa) (kont1_0:(Int→Ab→(List Ae)→Option ((List Ae) × Ab))) (rec1:((Int × Ab × (List Ae))→Option ((List Ae) × Ab))) (v20_1:Int) (w0_1:Ab) (b5_1:(List Ae)):Option ((List Ae) × Ab) :=
 bif (decide (v20_1 < (((Mw x9 x16.1 ((x9.length:Nat):Int)).length:Nat):Int))) then
  (idx (Mw x9 x16.1 ((x9.length:Nat):Int)) v20_1).bind fun x26 =>
  (idx (Mw x9 x16.1 ((x9.length:Nat):Int)) v20_1).bind fun x32 =>
  (B7 p1 x32).bind fun x34 =>
  (A5 w0_1 (IntKind.i64.wrap (x34 + 1))).bind fun x36 =>
  bif rm b5_1.length [({ Column:=x26,Level:=x36.1 }:Ae)].length then
   rec1 ((IntKind.i64.wrap (v20_1 + 1)),x36.2,(b5_1++[({ Column:=x26,Level:=x36.1 }:Ae)]))
  else none
 else
  kont1_0 v20_1 w0_1 b5_1
def z6 (x9:(List Int)) (p1:Aa) (kont2_0:(Int→Ab→(List Ae)→Option ((List Ae) × Ab))) (rec2:((Int × Ab × (List Ae))→Option ((List Ae) × Ab))) (v20_2:Int) (w0_2:Ab) (b5_2:(List Ae)):Option ((List Ae) × Ab) :=
 bif (decide (v20_2 < ((x9.length:Nat):Int))) then
  (idx x9 v20_2).bind fun x26 =>
  (idx x9 v20_2).bind fun x32 =>
  (B7 p1 x32).bind fun x34 =>
  (A5 w0_2 (IntKind.i64.wrap (x34 + 1))).bind fun x36 =>
  bif rm b5_2.length [({ Column:=x26,Level:=x36.1 }:Ae)].length then
   rec2 ((IntKind.i64.wrap (v20_2 + 1)),x36.2,(b5_2++[({ Column:=x26,Level:=x36.1 }:Ae)]))
  else none
 else
  kont2_0 v20_2 w0_2 b5_2
def CK (p0:Ab) (p1:Aa):Option ((List Ae) × Ab) :=
 (Dt p1 2).bind fun x9 =>
 (BV p0 2).bind fun x11 =>
 bif x11.1 then
  (A5 x11.2 ((x9.length:Nat):Int)).bind fun x16 =>
  bif (decide (0≤(x16.1:Int)∧x16.1≤((x9.length:Nat):Int)∧((x9.length:Nat):Int)≤((x9.length:Nat):Int))) then
   iter (fun rec1 s=>FJ x9 x16 p1 (fun v20_1 w0_1 b5_1=>some (b5_1,w0_1)) rec1 s.1 s.2.1 s.2.2) A6 (0,x16.2,[])
  else none
 else
  iter (fun rec2 s=>z6 x9 p1 (fun v20_2 w0_2 b5_2=>some (b5_2,w0_2)) rec2 s.1 s.2.1 s.2.2) A6 (0,x11.2,[])
def Dd (d:Nat) (p0:Ab) (p1:Aa) (p2:ByteArray):Option (AG × Ab) :=
 (A5 p0 3).bind fun x14 =>
 (Cs d x14.2 p1 x14.1).bind fun x15 =>
 (B0 x15.2 p1).bind fun x19 =>
 (A5 x19.2 4).bind fun x21 =>
 bif (x21.1==1) then
  (CK x21.2 p1).bind fun x60 =>
  some (({ Name:=p2,Kind:=1,Filter:=x15.1,Dims:=x60.1,Measure:=x19.1,Terms:=[],Event:=({ Op:=0,Column:=0,Code:=0,Low:=0,High:=0,Kids:=[] }:Ag) }:AG),x60.2)
 else
  bif (x21.1==2) then
   (Fo x21.2 p1 x19.1).bind fun x31 =>
   bif (decide (((x31.1.length:Nat):Int) > 0)) then
    some (({ Name:=p2,Kind:=2,Filter:=x15.1,Dims:=[],Measure:=x19.1,Terms:=x31.1,Event:=({ Op:=0,Column:=0,Code:=0,Low:=0,High:=0,Kids:=[] }:Ag) }:AG),x31.2)
   else
    (CK x31.2 p1).bind fun x60 =>
    some (({ Name:=p2,Kind:=1,Filter:=x15.1,Dims:=x60.1,Measure:=(-1),Terms:=[],Event:=({ Op:=0,Column:=0,Code:=0,Low:=0,High:=0,Kids:=[] }:Ag) }:AG),x60.2)
  else
   bif (x21.1==3) then
    (idx p1.Columns x19.1).bind fun x46 =>
    bif (decide (x46.Low ≥ 0)) then
     (Cs d x21.2 p1 1).bind fun x53 =>
     some (({ Name:=p2,Kind:=3,Filter:=x15.1,Dims:=[],Measure:=x19.1,Terms:=[],Event:=x53.1 }:AG),x53.2)
    else
     (CK x21.2 p1).bind fun x60 =>
     some (({ Name:=p2,Kind:=1,Filter:=x15.1,Dims:=x60.1,Measure:=(-1),Terms:=[],Event:=({ Op:=0,Column:=0,Code:=0,Low:=0,High:=0,Kids:=[] }:Ag) }:AG),x60.2)
   else
    (CK x21.2 p1).bind fun x60 =>
    some (({ Name:=p2,Kind:=1,Filter:=x15.1,Dims:=x60.1,Measure:=(-1),Terms:=[],Event:=({ Op:=0,Column:=0,Code:=0,Low:=0,High:=0,Kids:=[] }:Ag) }:AG),x60.2)
def Di (x9:ByteArray) (k5_2_1:Int) (k5_3_1:Int) (k5_4_1:Int) (k5_5_1:Int) (k5_6_1:Int) (k5_7_1:(List Ag)) (x32:(Int × Ab)) (x25:(Int × Ab)) (x15:(Int × Ab)) (v6_1:Int) (w0_1:Ab) (b50_1:(List AG)):Option (Ay × Ab) :=
 some (({ Project:=(({ data:=#[112] }:ByteArray)++x9),Source:=({ data:=#[115,114,99] }:ByteArray),Cohort:=({ Op:=k5_2_1,Column:=k5_3_1,Code:=k5_4_1,Low:=k5_5_1,High:=k5_6_1,Kids:=k5_7_1 }:Ag),Sample:=({ Part:=x32.1,Of:=x25.1,Seed:=x15.1 }:Hn),Questions:=b50_1 }:Ay),w0_1)
def Eu (d:Nat) (p1:Aa) (kont1_0:(Int→Ab→(List AG)→Option (Ay × Ab))) (rec1:((Int × Ab × (List AG))→Option (Ay × Ab))) (v6_1:Int) (w0_1:Ab) (b50_1:(List AG)):Option (Ay × Ab) :=
 bif (decide (v6_1 > 0)) then
  (CJ v6_1).bind fun x46 =>
  bif (decide (({ data:=#[113] }:ByteArray).size + x46.size≤9223372036854775807)) then
   (Dd d w0_1 p1 (({ data:=#[113] }:ByteArray)++x46)).bind fun x48 =>
   bif rm b50_1.length [x48.1].length then
    rec1 ((IntKind.i64.wrap (v6_1 - 1)),x48.2,(b50_1++[x48.1]))
   else none
  else none
 else
  kont1_0 v6_1 w0_1 b50_1
def Dj (x9:ByteArray) (k5_2_1:Int) (k5_3_1:Int) (k5_4_1:Int) (k5_5_1:Int) (k5_6_1:Int) (k5_7_1:(List Ag)) (x15:(Int × Ab)) (v6_2:Int) (w0_2:Ab) (b50_2:(List AG)):Option (Ay × Ab) :=
 some (({ Project:=(({ data:=#[112] }:ByteArray)++x9),Source:=({ data:=#[115,114,99] }:ByteArray),Cohort:=({ Op:=k5_2_1,Column:=k5_3_1,Code:=k5_4_1,Low:=k5_5_1,High:=k5_6_1,Kids:=k5_7_1 }:Ag),Sample:=({ Part:=1,Of:=1,Seed:=x15.1 }:Hn),Questions:=b50_2 }:Ay),w0_2)
def Es (d:Nat) (p1:Aa) (kont2_0:(Int→Ab→(List AG)→Option (Ay × Ab))) (rec2:((Int × Ab × (List AG))→Option (Ay × Ab))) (v6_2:Int) (w0_2:Ab) (b50_2:(List AG)):Option (Ay × Ab) :=
 bif (decide (v6_2 > 0)) then
  (CJ v6_2).bind fun x46 =>
  bif (decide (({ data:=#[113] }:ByteArray).size + x46.size≤9223372036854775807)) then
   (Dd d w0_2 p1 (({ data:=#[113] }:ByteArray)++x46)).bind fun x48 =>
   bif rm b50_2.length [x48.1].length then
    rec2 ((IntKind.i64.wrap (v6_2 - 1)),x48.2,(b50_2++[x48.1]))
   else none
  else none
 else
  kont2_0 v6_2 w0_2 b50_2
def BS (d:Nat) (p1:Aa) (x9:ByteArray) (x15:(Int × Ab)) (k0_1:Ab) (k5_2_1:Int) (k5_3_1:Int) (k5_4_1:Int) (k5_5_1:Int) (k5_6_1:Int) (k5_7_1:(List Ag)):Option (Ay × Ab) :=
 (BV k0_1 3).bind fun x23 =>
 bif x23.1 then
  (AJ x23.2 2 5).bind fun x25 =>
  (AJ x25.2 1 x25.1).bind fun x32 =>
  (AJ x32.2 1 3).bind fun x36 =>
  iter (fun rec1 s=>Eu d p1 (Di x9 k5_2_1 k5_3_1 k5_4_1 k5_5_1 k5_6_1 k5_7_1 x32 x25 x15) rec1 s.1 s.2.1 s.2.2) A6 (x36.1,x36.2,[])
 else
  (AJ x23.2 1 3).bind fun x36 =>
  iter (fun rec2 s=>Es d p1 (Dj x9 k5_2_1 k5_3_1 k5_4_1 k5_5_1 k5_6_1 k5_7_1 x15) rec2 s.1 s.2.1 s.2.2) A6 (x36.1,x36.2,[])
def CY (d:Nat) (p0:Ab) (p1:Aa):Option (Ay × Ab) :=
 (A5 p0 3).bind fun x8 =>
 (CJ x8.1).bind fun x9 =>
 bif (decide (({ data:=#[112] }:ByteArray).size + x9.size≤9223372036854775807)) then
  (Cs d x8.2 p1 1).bind fun x13 =>
  (A5 x13.2 999).bind fun x15 =>
  (BV x15.2 3).bind fun x19 =>
  bif x19.1 then
   BS d p1 x9 x15 x19.2 1 0 0 0 0 []
  else
   BS d p1 x9 x15 x19.2 x13.1.Op x13.1.Column x13.1.Code x13.1.Low x13.1.High x13.1.Kids
 else none
def Ej (d:Nat) (p0:Ab) (p1:Int):Option (B2 × Ay × Au × Ab) :=
 (Cj p0 p1).bind fun x15 =>
 (CY d x15.2 x15.1.Schema).bind fun x19 =>
 (LR d x15.1.Schema x19.1).bind fun x24 =>
 (BV x19.2 3).bind fun x28 =>
 bif x28.1 then
  (Nj x15.1.Schema).bind fun x32 =>
  (Db x28.2).bind fun x40 =>
  (EG d x15.1 x19.1 x32.2 x40.1).bind fun x41 =>
  some (x15.1,x19.1,x41.1,x40.2)
 else
  (Db x28.2).bind fun x40 =>
  (EG d x15.1 x19.1 x24.1 x40.1).bind fun x41 =>
  some (x15.1,x19.1,x41.1,x40.2)
def Kz :Option Bool :=
 (Fk [1,4,5,(-1)] 5).bind fun x7 =>
 (Cn [5,1,9,3,7]).bind fun x12 =>
 bif (x7.2==0) then
  (JA x7.1 [({ Low:=(-5),Count:=1 }:B4),({ Low:=0,Count:=2 }:B4),({ Low:=5,Count:=1 }:B4)]).bind fun x23 =>
  bif (bif x23 then (x12.2==0) else false) then
   some ((x12.1.Count==5) && ((x12.1.Least==1) && ((x12.1.Lower==3) && ((x12.1.Middle==5) && ((x12.1.Upper==7) && ((x12.1.Greatest==9) && true))))))
  else
   some false
 else
  some false
def FN (d:Nat) (x39:(B2 × Au × Ab)) (x69:Au) (x79:Int) (x56:(Ag × Ab)) (rec2:(Int→Option Bool)) (v77_2:Int):Option Bool :=
 (H3 d x39.1.Schema x69 x79 x56.1).bind fun x136 =>
 (G2 d x39.1.Schema x69 x79 x56.1).bind fun x145 =>
 bif (bif (!((x136.1.Count==x145.1.Count) && ((x136.1.Least==x145.1.Least) && ((x136.1.Lower==x145.1.Lower) && ((x136.1.Middle==x145.1.Middle) && ((x136.1.Upper==x145.1.Upper) && ((x136.1.Greatest==x145.1.Greatest) && true))))))) then true else (x136.2.2 != x145.2.2)) then
  some false
 else
  (JS x136.2.1 x145.2.1).bind fun x160 =>
  bif (!x160) then
   some false
  else
   rec2 (IntKind.i64.wrap (v77_2 + 1))
def Ge (x86:Int) (p2:Int) (d:Nat) (x39:(B2 × Au × Ab)) (x69:Au) (x79:Int) (x56:(Ag × Ab)) (kont3_4:(Int→Option Bool)) (rec3:(Int→Option Bool)) (v91_3:Int):Option Bool :=
 bif (decide (v91_3 < (([x86,p2].length:Nat):Int))) then
  (idx [x86,p2] v91_3).bind fun x93 =>
  (Hj d x39.1.Schema x69 x79 x93 x56.1).bind fun x101 =>
  (FU d x39.1.Schema x69 x79 x93 x56.1).bind fun x111 =>
  bif (x101.2.2 != x111.2.2) then
   some false
  else
   (JA x101.1 x111.1).bind fun x121 =>
   bif (!x121) then
    some false
   else
    (JS x101.2.1 x111.2.1).bind fun x127 =>
    bif (!x127) then
     some false
    else
     rec3 (IntKind.i64.wrap (v91_3 + 1))
 else
  kont3_4 v91_3
def Ga (x53:(Int × Ab)) (x73:Int) (p2:Int) (x60:Av) (d:Nat) (x39:(B2 × Au × Ab)) (x69:Au) (x56:(Ag × Ab)) (kont2_2:(Int→Option Bool)) (rec2:(Int→Option Bool)) (v77_2:Int):Option Bool :=
 bif (decide (v77_2 < (([x53.1,(IntKind.i64.wrap (x73 - 1))].length:Nat):Int))) then
  (idx [x53.1,(IntKind.i64.wrap (x73 - 1))] v77_2).bind fun x79 =>
  (Nd p2 ((x60.Widths.length:Nat):Int)).bind fun x85 =>
  (idx x60.Widths x85).bind fun x86 =>
  iter (fun rec3 s=>Ge x86 p2 d x39 x69 x79 x56 (fun v91_3=>FN d x39 x69 x79 x56 rec2 v77_2) rec3 s) A6 0
 else
  kont2_2 v77_2
def FC (x39:(B2 × Au × Ab)) (x45:(B2 × Ay × Au × Ab)) (p1:Int) (x53:(Int × Ab)) (p2:Int) (x60:Av) (d:Nat) (x56:(Ag × Ab)) (kont1_0:(Int→Option Bool)) (rec1:(Int→Option Bool)) (v67_1:Int):Option Bool :=
 bif (decide (v67_1 < (([x39.2.1,x45.2.2.1].length:Nat):Int))) then
  (idx [x39.2.1,x45.2.2.1] v67_1).bind fun x69 =>
  (Nd p1 8).bind fun x73 =>
  iter (fun rec2 s=>Ga x53 x73 p2 x60 d x39 x69 x56 (fun v77_2=>rec1 (IntKind.i64.wrap (v67_1 + 1))) rec2 s) A6 0
 else
  kont1_0 v67_1
def HI (d:Nat) (p0:(List Int)) (p1:Int) (p2:Int):Option Bool :=
 (N9 p0).bind fun x36 =>
 (F3 d x36 12).bind fun x39 =>
 (N9 p0).bind fun x44 =>
 (Ej d x44 8).bind fun x45 =>
 (B0 x39.2.2 x39.1.Schema).bind fun x53 =>
 (Cs d x53.2 x39.1.Schema 1).bind fun x56 =>
 (idx x39.1.Schema.Columns x53.1).bind fun x60 =>
 iter (fun rec1 s=>FC x39 x45 p1 x53 p2 x60 d x56 (fun v67_1=>(Kz).bind fun x165=>some x165) rec1 s) A6 0
end Go.Proofs.YtejfnieiaecpkaaGreatDoor.P
