/- M4 -/
import Derived.Test.YtlpkhgkoihlghaaGreatDoorM3
import Derived.Lib.ItoaNum
set_option linter.unusedVariables false
set_option linter.unusedSimpArgs false
namespace Go.Proofs.YtlpkhgkoihlghaaGreatDoor.P
open Go.Abs Go.Proofs
structure Ae where
 f_l:(List Int)
 f_at:Int
structure BD where
 Name:ByteArray
 Parent:Int
structure Ax where
 Name:ByteArray
 Codes:(List BD)
structure A3 where
 Name:ByteArray
 Kind:Int
 List_:Int
 Low:Int
 High:Int
 Widths:(List Int)
 Optional:Bool
structure Af where
 Lists:(List Ax)
 Columns:(List A3)
structure Aq where
 Schema:Af
 Rows:(List (List Int))
 Gone:(List Int)
 Version:Int
structure B1 where
 Kind:Int
 Row:(List Int)
 Id:Int
structure As where
 Op:Int
 Column:Int
 Code:Int
 Low:Int
 High:Int
 Kids:(List As)
structure G2 where
 Part:Int
 Of:Int
 Seed:Int
structure Ap where
 Column:Int
 Level:Int
structure A9 where
 Name:ByteArray
 Kind:Int
 Filter:As
 Dims:(List Ap)
 Measure:Int
 Terms:(List Int)
 Event:As
structure A6 where
 Project:ByteArray
 Source:ByteArray
 Cohort:As
 Sample:G2
 Questions:(List A9)
structure C6 where
 Op:Int
 Num:Int
 Name:ByteArray
 Column:Int
 Columns:(List Int)
 Dims:(List Ap)
 Cond:As
 Event:As
 Kids:(List C6)
structure BU where
 Name:ByteArray
 Out:Bool
 Expr:C6
structure A0 where
 Project:ByteArray
 Version:Int
 Picks:(List Ap)
 Rows:(List (List Int))
structure Bd where
 Version:Int
 Gone:(List Int)
 Rows:(List (List Int))
structure AL where
 Output:Int
 Keys:(List Int)
def AW (x:BD):D:=.agg [(.str x.Name),(.int .i64 x.Parent)]
theorem V4 (xs:List BD) (a0:ByteArray) (a1:Int):xs.map AW++[D.agg [(.str a0),(.int .i64 a1)]] = (xs++[({ Name:=a0,Parent:=a1 }:BD)]).map AW:=by simp [AW,Aj]
def Ah (x:Ax):D:=.agg [(.str x.Name),(Aj 2 AW x.Codes)]
theorem V5 (xs:List Ax) (a0:ByteArray) (a1:(List BD)):xs.map Ah++[D.agg [(.str a0),(D.list 2 (List.map AW a1))]] = (xs++[({ Name:=a0,Codes:=a1 }:Ax)]).map Ah:=by simp [Ah,Aj]
def Al (x:A3):D:=.agg [(.str x.Name),(.int .i64 x.Kind),(.int .i64 x.List_),(.int .i64 x.Low),(.int .i64 x.High),(Aj 1 (D.int .i64) x.Widths),(.bool x.Optional)]
theorem KN (xs:List A3) (a0:ByteArray) (a1:Int) (a2:Int) (a3:Int) (a4:Int) (a5:(List Int)) (a6:Bool):xs.map Al++[D.agg [(.str a0),(.int .i64 a1),(.int .i64 a2),(.int .i64 a3),(.int .i64 a4),(D.list 1 (List.map (D.int .i64) a5)),(.bool a6)]] = (xs++[({ Name:=a0,Kind:=a1,List_:=a2,Low:=a3,High:=a4,Widths:=a5,Optional:=a6 }:A3)]).map Al:=by simp [Al,Aj]
def Ay (x:Af):D:=.agg [(Aj 2 Ah x.Lists),(Aj 7 Al x.Columns)]
def B8 (x:Aq):D:=.agg [(Aj 2 Ah x.Schema.Lists),(Aj 7 Al x.Schema.Columns),(Aj 1 (Aj 1 (D.int .i64)) x.Rows),(Aj 1 (D.int .i64) x.Gone),(.int .i64 x.Version)]
def Cc (x:B1):D:=.agg [(.int .i64 x.Kind),(Aj 1 (D.int .i64) x.Row),(.int .i64 x.Id)]
theorem ZW (xs:List B1) (a0:Int) (a1:(List Int)) (a2:Int):xs.map Cc++[D.agg [(.int .i64 a0),(D.list 1 (List.map (D.int .i64) a1)),(.int .i64 a2)]] = (xs++[({ Kind:=a0,Row:=a1,Id:=a2 }:B1)]).map Cc:=by simp [Cc,Aj]
mutual
def Az:As→D
 | ⟨Op,Column,Code,Low,High,Kids⟩=>.agg [(.int .i64 Op),(.int .i64 Column),(.int .i64 Code),(.int .i64 Low),(.int .i64 High),(.list 6 (Na Kids))]
def Na:List As→List D
 | []=>[]
 | x :: r=>Az x :: Na r
end
theorem Sa:∀ l:List As,Na l = l.map Az
 | []=>by simp [Na]
 | x :: r=>by simp [Na,Sa r]
def Ac (x:As):D:=.agg [(.int .i64 x.Op),(.int .i64 x.Column),(.int .i64 x.Code),(.int .i64 x.Low),(.int .i64 x.High),(Aj 6 Az x.Kids)]
theorem W6 (x:As):As.mk x.Op x.Column x.Code x.Low x.High x.Kids = x:=by cases x; rfl
theorem Aa (x:As):Az x = Ac x:=by
 obtain ⟨Op,Column,Code,Low,High,Kids⟩:=x
 simp only [Az,Sa]
 rfl
def ND (x:G2):D:=.agg [(.int .i64 x.Part),(.int .i64 x.Of),(.int .i64 x.Seed)]
def An (x:Ap):D:=.agg [(.int .i64 x.Column),(.int .i64 x.Level)]
theorem CY (xs:List Ap) (a0:Int) (a1:Int):xs.map An++[D.agg [(.int .i64 a0),(.int .i64 a1)]] = (xs++[({ Column:=a0,Level:=a1 }:Ap)]).map An:=by simp [An,Aj]
def AA (x:A9):D:=.agg [(.str x.Name),(.int .i64 x.Kind),(.int .i64 x.Filter.Op),(.int .i64 x.Filter.Column),(.int .i64 x.Filter.Code),(.int .i64 x.Filter.Low),(.int .i64 x.Filter.High),(Aj 6 Az x.Filter.Kids),(Aj 2 An x.Dims),(.int .i64 x.Measure),(Aj 1 (D.int .i64) x.Terms),(.int .i64 x.Event.Op),(.int .i64 x.Event.Column),(.int .i64 x.Event.Code),(.int .i64 x.Event.Low),(.int .i64 x.Event.High),(Aj 6 Az x.Event.Kids)]
def BF (x:A6):D:=.agg [(.str x.Project),(.str x.Source),(.int .i64 x.Cohort.Op),(.int .i64 x.Cohort.Column),(.int .i64 x.Cohort.Code),(.int .i64 x.Cohort.Low),(.int .i64 x.Cohort.High),(Aj 6 Az x.Cohort.Kids),(.int .i64 x.Sample.Part),(.int .i64 x.Sample.Of),(.int .i64 x.Sample.Seed),(Aj 17 AA x.Questions)]
mutual
def Lq:C6→D
 | ⟨Op,Num,Name,Column,Columns,Dims,Cond,Event,Kids⟩=>.agg [(.int .i64 Op),(.int .i64 Num),(.str Name),(.int .i64 Column),(Aj 1 (D.int .i64) Columns),(Aj 2 An Dims),(.int .i64 Cond.Op),(.int .i64 Cond.Column),(.int .i64 Cond.Code),(.int .i64 Cond.Low),(.int .i64 Cond.High),(Aj 6 Az Cond.Kids),(.int .i64 Event.Op),(.int .i64 Event.Column),(.int .i64 Event.Code),(.int .i64 Event.Low),(.int .i64 Event.High),(Aj 6 Az Event.Kids),(.list 19 (Nb Kids))]
def Nb:List C6→List D
 | []=>[]
 | x :: r=>Lq x :: Nb r
end
theorem Sb:∀ l:List C6,Nb l = l.map Lq
 | []=>by simp [Nb]
 | x :: r=>by simp [Nb,Sb r]
def Ad (x:C6):D:=.agg [(.int .i64 x.Op),(.int .i64 x.Num),(.str x.Name),(.int .i64 x.Column),(Aj 1 (D.int .i64) x.Columns),(Aj 2 An x.Dims),(.int .i64 x.Cond.Op),(.int .i64 x.Cond.Column),(.int .i64 x.Cond.Code),(.int .i64 x.Cond.Low),(.int .i64 x.Cond.High),(Aj 6 Az x.Cond.Kids),(.int .i64 x.Event.Op),(.int .i64 x.Event.Column),(.int .i64 x.Event.Code),(.int .i64 x.Event.Low),(.int .i64 x.Event.High),(Aj 6 Az x.Event.Kids),(Aj 19 Lq x.Kids)]
theorem ba (x:C6):C6.mk x.Op x.Num x.Name x.Column x.Columns x.Dims x.Cond x.Event x.Kids = x:=by cases x; rfl
theorem Ab (x:C6):Lq x = Ad x:=by
 obtain ⟨Op,Num,Name,Column,Columns,Dims,Cond,Event,Kids⟩:=x
 simp only [Lq,Sb]
 rfl
def FI (x:BU):D:=.agg [(.str x.Name),(.bool x.Out),(.int .i64 x.Expr.Op),(.int .i64 x.Expr.Num),(.str x.Expr.Name),(.int .i64 x.Expr.Column),(Aj 1 (D.int .i64) x.Expr.Columns),(Aj 2 An x.Expr.Dims),(.int .i64 x.Expr.Cond.Op),(.int .i64 x.Expr.Cond.Column),(.int .i64 x.Expr.Cond.Code),(.int .i64 x.Expr.Cond.Low),(.int .i64 x.Expr.Cond.High),(Aj 6 Az x.Expr.Cond.Kids),(.int .i64 x.Expr.Event.Op),(.int .i64 x.Expr.Event.Column),(.int .i64 x.Expr.Event.Code),(.int .i64 x.Expr.Event.Low),(.int .i64 x.Expr.Event.High),(Aj 6 Az x.Expr.Event.Kids),(Aj 19 Lq x.Expr.Kids)]
theorem Oo (xs:List BU) (a0:ByteArray) (a1:Bool) (a2:Int) (a3:Int) (a4:ByteArray) (a5:Int) (a6:(List Int)) (a7:(List Ap)) (a8:Int) (a9:Int) (a10:Int) (a11:Int) (a12:Int) (a13:(List As)) (a14:Int) (a15:Int) (a16:Int) (a17:Int) (a18:Int) (a19:(List As)) (a20:(List C6)):xs.map FI++[D.agg [(.str a0),(.bool a1),(.int .i64 a2),(.int .i64 a3),(.str a4),(.int .i64 a5),(D.list 1 (List.map (D.int .i64) a6)),(D.list 2 (List.map An a7)),(.int .i64 a8),(.int .i64 a9),(.int .i64 a10),(.int .i64 a11),(.int .i64 a12),(D.list 6 (List.map Az a13)),(.int .i64 a14),(.int .i64 a15),(.int .i64 a16),(.int .i64 a17),(.int .i64 a18),(D.list 6 (List.map Az a19)),(D.list 19 (List.map Lq a20))]] = (xs++[({ Name:=a0,Out:=a1,Expr:=({ Op:=a2,Num:=a3,Name:=a4,Column:=a5,Columns:=a6,Dims:=a7,Cond:=({ Op:=a8,Column:=a9,Code:=a10,Low:=a11,High:=a12,Kids:=a13 }:As),Event:=({ Op:=a14,Column:=a15,Code:=a16,Low:=a17,High:=a18,Kids:=a19 }:As),Kids:=a20 }:C6) }:BU)]).map FI:=by simp [FI,Aj]
def HS (x:A0):D:=.agg [(.str x.Project),(.int .i64 x.Version),(Aj 2 An x.Picks),(Aj 1 (Aj 1 (D.int .i64)) x.Rows)]
def NC (x:Bd):D:=.agg [(.int .i64 x.Version),(Aj 1 (D.int .i64) x.Gone),(Aj 1 (Aj 1 (D.int .i64)) x.Rows)]
def AX (x:AL):D:=.agg [(.int .i64 x.Output),(Aj 1 (D.int .i64) x.Keys)]
theorem Wn (xs:List AL) (a0:Int) (a1:(List Int)):xs.map AX++[D.agg [(.int .i64 a0),(D.list 1 (List.map (D.int .i64) a1))]] = (xs++[({ Output:=a0,Keys:=a1 }:AL)]).map AX:=by simp [AX,Aj]
end Go.Proofs.YtlpkhgkoihlghaaGreatDoor.P
set_option linter.unusedVariables false
set_option linter.unusedSimpArgs false
namespace Go.Proofs.YtlpkhgkoihlghaaGreatDoor.P
def AY (p0:List Int):Option (List Int):=bif rm 0 p0.length then some p0 else none
def V6 (xs:List Int):List Int:=xs.mergeSort fun x y=>decide (x≤y)
def Ce (p0:List Int):Option (List Int):=bif rm 0 p0.length then some (V6 p0) else none
def Dh (p0:Int):Option ByteArray:=bif decide (0≤p0∧p0 < 100) then some ⟨(Go.Lib.decDigits p0.toNat).toArray⟩ else none
end Go.Proofs.YtlpkhgkoihlghaaGreatDoor.P
set_option linter.unusedVariables false
set_option linter.unusedSimpArgs false
namespace Go.Proofs.YtlpkhgkoihlghaaGreatDoor.P
open Go Go.Proofs
def K6 (r:List Int):Int:=r.headD 0
def Dv (p0:List Int) (p1:Int) (p2:List Int):Option (List Int) :=
 bif decide (0≤p1∧p1.toNat≤p0.length∧p2.length = 1∧p0.length≤1000000) then some (p0.take p1.toNat++p2++p0.drop p1.toNat) else none
def Dg (p0:List (List Int)) (p1:Int) (p2:List (List Int)):Option (List (List Int)) :=
 bif decide (0≤p1∧p1.toNat≤p0.length∧p2.length = 1∧p0.length≤1000000) then some (p0.take p1.toNat++p2++p0.drop p1.toNat) else none
def Cn (p0:List (List Int)) (p1:Int) (p2:Int):Option (List (List Int)) :=
 bif decide (0≤p1∧p1 < p2∧p2.toNat≤p0.length) then some (p0.take p1.toNat++p0.drop p2.toNat) else none
def C2 (p0:List (List Int)) (p1:List Int→List Int→Option Int):Option (List (List Int)) :=
 bif decide (p0.length≤1000000∧(p0.map K6).Nodup) && p0.all (fun a=>p0.all fun b=>p1 a b==some (K6 a - K6 b)) then some (p0.mergeSort fun x y=>decide (K6 x≤K6 y)) else none
def BZ (p0:List Int):Option (List Int):=bif decide (p0.length≤1000000) then some (Lib.compact p0) else none
end Go.Proofs.YtlpkhgkoihlghaaGreatDoor.P
set_option linter.unusedSimpArgs false
namespace Go.Proofs.YtlpkhgkoihlghaaGreatDoor.P
open Go.Abs Go.Proofs
set_option linter.unusedVariables false
def CF (p0:(List BD)):Option (List BD):=bif rm 0 p0.length then some p0 else none
def DT (p0:Af) (kont2_2:(Int→(List A3)→Option Af)) (rec2:((Int × (List A3))→Option Af)) (v29_2:Int) (b41_2:(List A3)):Option Af :=
 bif (decide (v29_2 < ((p0.Columns.length:Nat):Int))) then
  (idx p0.Columns v29_2).bind fun x31 =>
  (AY x31.Widths).bind fun x35 =>
  bif rm b41_2.length [({ Name:=x31.Name,Kind:=x31.Kind,List_:=x31.List_,Low:=x31.Low,High:=x31.High,Widths:=x35,Optional:=x31.Optional }:A3)].length then
   rec2 ((IntKind.i64.wrap (v29_2 + 1)),(b41_2++[({ Name:=x31.Name,Kind:=x31.Kind,List_:=x31.List_,Low:=x31.Low,High:=x31.High,Widths:=x35,Optional:=x31.Optional }:A3)]))
  else none
 else
  kont2_2 v29_2 b41_2
def DU (p0:Af) (v11_1:Int) (b23_1:(List Ax)):Option Af :=
 iter (fun rec2 s=>DT p0 (fun v29_2 b41_2=>some ({ Lists:=b23_1,Columns:=b41_2 }:Af)) rec2 s.1 s.2) AI (0,[])
def DR (p0:Af) (kont1_0:(Int→(List Ax)→Option Af)) (rec1:((Int × (List Ax))→Option Af)) (v11_1:Int) (b23_1:(List Ax)):Option Af :=
 bif (decide (v11_1 < ((p0.Lists.length:Nat):Int))) then
  (idx p0.Lists v11_1).bind fun x13 =>
  (CF x13.Codes).bind fun x17 =>
  bif rm b23_1.length [({ Name:=x13.Name,Codes:=x17 }:Ax)].length then
   rec1 ((IntKind.i64.wrap (v11_1 + 1)),(b23_1++[({ Name:=x13.Name,Codes:=x17 }:Ax)]))
  else none
 else
  kont1_0 v11_1 b23_1
def CZ (p0:Af):Option Af :=
 iter (fun rec1 s=>DR p0 (DU p0) rec1 s.1 s.2) AI (0,[])
def GY (p0:(List (List Int))) (kont1_0:(Int→(List (List Int))→Option (List (List Int)))) (rec1:((Int × (List (List Int)))→Option (List (List Int)))) (v8_1:Int) (b3_1:(List (List Int))):Option (List (List Int)) :=
 bif (decide (v8_1 < ((p0.length:Nat):Int))) then
  (idx p0 v8_1).bind fun x10 =>
  (AY x10).bind fun x14 =>
  bif rm b3_1.length [x14].length then
   rec1 ((IntKind.i64.wrap (v8_1 + 1)),(b3_1++[x14]))
  else none
 else
  kont1_0 v8_1 b3_1
def FO (p0:(List (List Int))):Option (List (List Int)) :=
 iter (fun rec1 s=>GY p0 (fun v8_1 b3_1=>some b3_1) rec1 s.1 s.2) AI (0,[])
def M0 (p0:ByteArray):Option Bool :=
 bif (p0.toList==({ data:=#[97,108,108] }:ByteArray).toList) then
  some false
 else
  bif (p0.toList==({ data:=#[97,110,100] }:ByteArray).toList) then
   some false
  else
   bif (p0.toList==({ data:=#[101,118,101,110,116] }:ByteArray).toList) then
    some false
   else
    bif (p0.toList==({ data:=#[102,114,111,109] }:ByteArray).toList) then
     some false
    else
     bif (p0.toList==({ data:=#[109,105,115,115,105,110,103] }:ByteArray).toList) then
      some false
     else
      bif (p0.toList==({ data:=#[110,111,116] }:ByteArray).toList) then
       some false
      else
       bif (p0.toList==({ data:=#[111,110] }:ByteArray).toList) then
        some false
       else
        bif (p0.toList==({ data:=#[111,114] }:ByteArray).toList) then
         some false
        else
         bif (p0.toList==({ data:=#[116,111] }:ByteArray).toList) then
          some false
         else
          bif (p0.toList==({ data:=#[117,110,100,101,114] }:ByteArray).toList) then
           some false
          else
           bif (p0.toList==({ data:=#[119,104,101,114,101] }:ByteArray).toList) then
            some false
           else
            some true
def Qv (p0:ByteArray) (kont1_0:(Int→Option Bool)) (rec1:(Int→Option Bool)) (v26_1:Int):Option Bool :=
 bif (decide (v26_1 < (((J4 p0).length:Nat):Int))) then
  (idx (J4 p0) v26_1).bind fun x28 =>
  bif (bif (bif (bif (decide (x28 < 97)) then true else (decide (x28 > 122))) then (bif (decide (x28 < 48)) then true else (decide (x28 > 57))) else false) then (x28 != 95) else false) then
   some false
  else
   rec1 (IntKind.i64.wrap (v26_1 + 1))
 else
  kont1_0 v26_1
def Mz (p0:ByteArray):Option Bool :=
 iter (fun rec1 s=>Qv p0 (fun v26_1=>M0 p0) rec1 s) AI 0
def D4 (p0:ByteArray):Option Bool :=
 bif (bif (decide (((p0.size:Nat):Int) < 1)) then true else (decide (((p0.size:Nat):Int) > 16))) then
  some false
 else
  bif (decide (0≤(0:Int)∧(0:Int).toNat < p0.size)) then
   bif (decide ((EY p0 0) < 97)) then
    some false
   else
    bif (decide (0≤(0:Int)∧(0:Int).toNat < p0.size)) then
     bif (decide ((EY p0 0) > 122)) then
      some false
     else
      Mz p0
    else none
  else none
def Oc (p0:Ax) (kont1_0:(Int→(List Int)→Option (List Int))) (rec1:((Int × (List Int))→Option (List Int))) (v13_1:Int) (b9_1:(List Int)):Option (List Int) :=
 bif (decide (v13_1 < ((p0.Codes.length:Nat):Int))) then
  (idx p0.Codes v13_1).bind fun x16 =>
  bif (decide (v13_1 > 0)) then
   (idx b9_1 x16.Parent).bind fun x25 =>
   (idx b9_1 v13_1).bind fun x28 =>
   rec1 ((IntKind.i64.wrap (v13_1 + 1)),(b9_1.set (v13_1:Int).toNat (IntKind.i64.wrap (x25 + 1))))
  else
   rec1 ((IntKind.i64.wrap (v13_1 + 1)),b9_1)
 else
  kont1_0 v13_1 b9_1
def EZ (p0:Ax):Option (List Int) :=
 bif (decide (0≤((p0.Codes.length:Nat):Int)) && rm (((p0.Codes.length:Nat):Int):Int).toNat 0) then
  iter (fun rec1 s=>Oc p0 (fun v13_1 b9_1=>some b9_1) rec1 s.1 s.2) AI (0,(List.replicate (((p0.Codes.length:Nat):Int):Int).toNat 0))
 else none
def O6 (x82:(List Int)) (k29_1:(List Bool)) (kont2_4:(Int→Int→Option Int)) (rec2:((Int × Int)→Option Int)) (v7_2:Int) (v84_2:Int):Option Int :=
 bif (decide (v84_2 < ((x82.length:Nat):Int))) then
  (idx x82 v84_2).bind fun x87 =>
  (idx k29_1 v84_2).bind fun x91 =>
  bif x91 then
   rec2 (v7_2,(IntKind.i64.wrap (v84_2 + 1)))
  else
   bif (bif (decide (v7_2 ≥ 0)) then (x87 != v7_2) else false) then
    some 5
   else
    rec2 (x87,(IntKind.i64.wrap (v84_2 + 1)))
 else
  kont2_4 v7_2 v84_2
def Lg (p0:Ax) (k29_1:(List Bool)):Option Int :=
 (EZ p0).bind fun x82 =>
 iter (fun rec2 s=>O6 x82 k29_1 (fun v7_2 v84_2=>some 0) rec2 s.1 s.2) AI ((-1),0)
def O5 (p0:Ax) (kont1_1:(Int→(List (ByteArray × Bool))→(List Bool)→Option Int)) (rec1:((Int × (List (ByteArray × Bool)) × (List Bool))→Option Int)) (v33_1:Int) (b25_1:(List (ByteArray × Bool))) (b29_1:(List Bool)):Option Int :=
 bif (decide (v33_1 < ((p0.Codes.length:Nat):Int))) then
  (idx p0.Codes v33_1).bind fun x36 =>
  (D4 x36.Name).bind fun x41 =>
  bif (!x41) then
   some 3
  else
   bif ((X0 x36.Name b25_1).getD false) then
    some 10
   else
    bif (bif (bif (v33_1==0) then (x36.Parent != (-1)) else false) then true else (bif (decide (v33_1 > 0)) then (bif (decide (x36.Parent < 0)) then true else (decide (x36.Parent ≥ v33_1))) else false)) then
     some 6
    else
     bif (decide (v33_1 > 0)) then
      (idx b29_1 x36.Parent).bind fun x79 =>
      rec1 ((IntKind.i64.wrap (v33_1 + 1)),(cX x36.Name true b25_1),(b29_1.set (x36.Parent:Int).toNat true))
     else
      rec1 ((IntKind.i64.wrap (v33_1 + 1)),(cX x36.Name true b25_1),b29_1)
 else
  kont1_1 v33_1 b25_1 b29_1
def EV (p0:Ax):Option Int :=
 (D4 p0.Name).bind fun x13 =>
 bif (!x13) then
  some 3
 else
  bif (((p0.Codes.length:Nat):Int)==0) then
   some 5
  else
   bif (decide (((p0.Codes.length:Nat):Int) > 60)) then
    some 1
   else
    bif (decide (0≤((p0.Codes.length:Nat):Int)) && rm (((p0.Codes.length:Nat):Int):Int).toNat 0) then
     iter (fun rec1 s=>O5 p0 (fun v33_1 b25_1 b29_1=>Lg p0 b29_1) rec1 s.1 s.2.1 s.2.2) AI (0,[],(List.replicate (((p0.Codes.length:Nat):Int):Int).toNat false))
    else none
def Co (p0:(List Ax)) (p1:(Ax→Option Bool)) (kont1_0:(Int→Option Int)) (rec1:(Int→Option Int)) (v8_1:Int):Option Int :=
 bif (decide (v8_1 < ((p0.length:Nat):Int))) then
  (idx p0 v8_1).bind fun x14 =>
  (p1 x14).bind fun x16 =>
  bif x16 then
   some v8_1
  else
   rec1 (IntKind.i64.wrap (v8_1 + 1))
 else
  kont1_0 v8_1
def Bt (p0:(List Ax)) (p1:(Ax→Option Bool)):Option Int :=
 iter (fun rec1 s=>Co p0 p1 (fun v8_1=>some (-1)) rec1 s) AI 0
def Ba (p0:(List Ax)) (p1:(Ax→Option Bool)):Option Bool :=
 (Bt p0 p1).bind fun x7 =>
 some (decide (x7 ≥ 0))
def Ks (p0:Ax) (q0:Ax):Option Bool :=
 some (p0.Name.toList==q0.Name.toList)
def C1 (p0:(List A3)) (p1:(A3→Option Bool)) (kont1_0:(Int→Option Int)) (rec1:(Int→Option Int)) (v8_1:Int):Option Int :=
 bif (decide (v8_1 < ((p0.length:Nat):Int))) then
  (idx p0 v8_1).bind fun x14 =>
  (p1 x14).bind fun x16 =>
  bif x16 then
   some v8_1
  else
   rec1 (IntKind.i64.wrap (v8_1 + 1))
 else
  kont1_0 v8_1
def B3 (p0:(List A3)) (p1:(A3→Option Bool)):Option Int :=
 iter (fun rec1 s=>C1 p0 p1 (fun v8_1=>some (-1)) rec1 s) AI 0
def Bi (p0:(List A3)) (p1:(A3→Option Bool)):Option Bool :=
 (B3 p0 p1).bind fun x7 =>
 some (decide (x7 ≥ 0))
def FT (p0:A3) (q0:A3):Option Bool :=
 some (p0.Name.toList==q0.Name.toList)
def F0 (p0:A3) (kont1_1:(Int→Int→Option Int)) (rec1:((Int × Int)→Option Int)) (v3_1:Int) (v36_1:Int):Option Int :=
 bif (decide (v36_1 < ((p0.Widths.length:Nat):Int))) then
  (idx p0.Widths v36_1).bind fun x39 =>
  bif (bif (v36_1==0) then (x39 != 1) else false) then
   some 2
  else
   bif (decide (v36_1 > 0)) then
    bif (decide (x39≤v3_1)) then
     some 2
    else
     bif (decide (v3_1≠0)) then
      bif (bif ((Int.tmod x39 v3_1) != 0) then true else (decide (x39 > 1000000))) then
       some 2
      else
       rec1 (x39,(IntKind.i64.wrap (v36_1 + 1)))
     else none
   else
    rec1 (x39,(IntKind.i64.wrap (v36_1 + 1)))
 else
  kont1_1 v3_1 v36_1
def Dt (p0:A3):Option Int :=
 bif (bif (bif (decide (p0.Low < (-1000000))) then true else (decide (p0.High > 1000000))) then true else (decide (p0.Low > p0.High))) then
  some 2
 else
  bif (bif (((p0.Widths.length:Nat):Int)==0) then true else (decide (((p0.Widths.length:Nat):Int) > 4))) then
   some 1
  else
   iter (fun rec1 s=>F0 p0 (fun v3_1 v36_1=>some 0) rec1 s.1 s.2) AI (1,0)
def D2 (p0:A3):Option Bool :=
 bif (bif (p0.Kind != 2) then (p0.List_ != 0) else false) then
  some false
 else
  some (bif (p0.Kind==3) then true else (bif (bif (bif (p0.Low==0) then (p0.High==0) else false) then (((p0.Widths.length:Nat):Int)==0) else false) then (!p0.Optional) else false))
def DJ (p0:Af) (p1:Int):Option Int :=
 (idx p0.Columns p1).bind fun x10 =>
 (D4 x10.Name).bind fun x14 =>
 bif (!x14) then
  some 3
 else
  bif (decide (0≤(0:Int)∧0≤p1∧p1≤((p0.Columns.length:Nat):Int))) then
   (Bi (HR p0.Columns 0 p1) (fun a0=>FT a0 x10)).bind fun x21 =>
   bif x21 then
    some 10
   else
    bif (x10.Kind==1) then
     bif (decide (p1 > 0)) then
      some 4
     else
      (D2 x10).bind fun x49 =>
      bif (!x49) then
       some 11
      else
       some 0
    else
     bif (x10.Kind==2) then
      bif (bif (decide (x10.List_ < 0)) then true else (decide (x10.List_ ≥ ((p0.Lists.length:Nat):Int)))) then
       some 5
      else
       (D2 x10).bind fun x49 =>
       bif (!x49) then
        some 11
       else
        some 0
     else
      bif (x10.Kind==3) then
       (Dt x10).bind fun x44 =>
       bif (x44 != 0) then
        some x44
       else
        (D2 x10).bind fun x49 =>
        bif (!x49) then
         some 11
        else
         some 0
      else
       some 4
  else none
def H7 (p0:Af) (kont2_2:(Int→Option Int)) (rec2:(Int→Option Int)) (v53_2:Int):Option Int :=
 bif (decide (v53_2 < ((p0.Columns.length:Nat):Int))) then
  (DJ p0 v53_2).bind fun x58 =>
  bif (x58 != 0) then
   some x58
  else
   rec2 (IntKind.i64.wrap (v53_2 + 1))
 else
  kont2_2 v53_2
def H8 (p0:Af):Option Int :=
 bif (((p0.Columns.length:Nat):Int)==0) then
  some 7
 else
  (idx p0.Columns 0).bind fun x45 =>
  bif (x45.Kind != 1) then
   some 7
  else
   iter (fun rec2 s=>H7 p0 (fun v53_2=>some 0) rec2 s) AI 0
def H6 (p0:Af) (kont1_0:(Int→Option Int)) (rec1:(Int→Option Int)) (v21_1:Int):Option Int :=
 bif (decide (v21_1 < ((p0.Lists.length:Nat):Int))) then
  (idx p0.Lists v21_1).bind fun x24 =>
  (EV x24).bind fun x27 =>
  bif (x27 != 0) then
   some x27
  else
   bif (decide (0≤(0:Int)∧0≤v21_1∧v21_1≤((p0.Lists.length:Nat):Int))) then
    (Ba (HR p0.Lists 0 v21_1) (fun a0=>Ks a0 x24)).bind fun x36 =>
    bif x36 then
     some 10
    else
     rec1 (IntKind.i64.wrap (v21_1 + 1))
   else none
 else
  kont1_0 v21_1
def C0 (p0:Af):Option Int :=
 bif (bif (decide (((p0.Lists.length:Nat):Int) > 6)) then true else (decide (((p0.Columns.length:Nat):Int) > 8))) then
  some 1
 else
  iter (fun rec1 s=>H6 p0 (fun v21_1=>H8 p0) rec1 s) AI 0
def Dk (p0:(List BD)) (p1:(BD→Option Bool)) (kont1_0:(Int→Option Int)) (rec1:(Int→Option Int)) (v8_1:Int):Option Int :=
 bif (decide (v8_1 < ((p0.length:Nat):Int))) then
  (idx p0 v8_1).bind fun x14 =>
  (p1 x14).bind fun x16 =>
  bif x16 then
   some v8_1
  else
   rec1 (IntKind.i64.wrap (v8_1 + 1))
 else
  kont1_0 v8_1
def BM (p0:(List BD)) (p1:(BD→Option Bool)):Option Int :=
 iter (fun rec1 s=>Dk p0 p1 (fun v8_1=>some (-1)) rec1 s) AI 0
def Bm (p0:(List BD)) (p1:(BD→Option Bool)):Option Bool :=
 (BM p0 p1).bind fun x7 =>
 some (decide (x7 ≥ 0))
def LO (p0:BD) (q0:Int):Option Bool :=
 some (p0.Parent==q0)
def Ic (p0:Af) (p1:A3) (p2:Int):Option Bool :=
 bif (p1.Kind==1) then
  some (bif (decide (p2 ≥ 1)) then (decide (p2≤1048575)) else false)
 else
  bif (p1.Kind==2) then
   (idx p0.Lists p1.List_).bind fun x24 =>
   bif (bif (decide (p2 ≥ 0)) then (decide (p2 < ((x24.Codes.length:Nat):Int))) else false) then
    (Bm x24.Codes (fun a0=>LO a0 p2)).bind fun x38 =>
    some (!x38)
   else
    some false
  else
   some (bif (bif (decide (p2 ≥ p1.Low)) then (decide (p2≤p1.High)) else false) then true else (bif p1.Optional then (p2==(-1099511627776)) else false))
def IV (p0:Af) (p1:(List Int)) (kont1_0:(Int→Option Bool)) (rec1:(Int→Option Bool)) (v16_1:Int):Option Bool :=
 bif (decide (v16_1 < ((p0.Columns.length:Nat):Int))) then
  (idx p0.Columns v16_1).bind fun x19 =>
  (idx p1 v16_1).bind fun x25 =>
  (Ic p0 x19 x25).bind fun x27 =>
  bif (!x27) then
   some false
  else
   rec1 (IntKind.i64.wrap (v16_1 + 1))
 else
  kont1_0 v16_1
def Ib (p0:Af) (p1:(List Int)):Option Bool :=
 bif (((p1.length:Nat):Int) != ((p0.Columns.length:Nat):Int)) then
  some false
 else
  iter (fun rec1 s=>IV p0 p1 (fun v16_1=>some true) rec1 s) AI 0
def FH (p0:Int):Option Bool :=
 some (p0 != p0)
def K3 (p0:Int) (p1:Int):Option Bool :=
 (FH p0).bind fun x6 =>
 bif x6 then
  (FH p1).bind fun x9 =>
  some (bif (!x9) then true else (decide (p0 < p1)))
 else
  some (decide (p0 < p1))
def EP (p0:Int):Option Bool :=
 some (p0 != p0)
def CE (p0:(List Int)) (p1:Int) (v7_1:Int) (v8_1:Int):Option (Int × Bool) :=
 bif (decide (v7_1 < ((p0.length:Nat):Int))) then
  (idx p0 v7_1).bind fun x38 =>
  bif (x38==p1) then
   some (v7_1,true)
  else
   (idx p0 v7_1).bind fun x45 =>
   (EP x45).bind fun x47 =>
   bif x47 then
    (EP p1).bind fun x50 =>
    some (v7_1,x50)
   else
    some (v7_1,false)
 else
  some (v7_1,false)
def EA (p0:(List Int)) (p1:Int) (kont1_0:(Int→Int→Option (Int × Bool))) (rec1:((Int × Int)→Option (Int × Bool))) (v7_1:Int) (v8_1:Int):Option (Int × Bool) :=
 bif (decide (v7_1 < v8_1)) then
  (idx p0 (IntKind.i64.wrap (Int.fdiv (IntKind.u64.wrap (IntKind.i64.wrap (v7_1 + v8_1))) (2 ^ (min (1:Int).toNat IntKind.u64.bits))))).bind fun x24 =>
  (K3 x24 p1).bind fun x27 =>
  bif x27 then
   rec1 ((IntKind.i64.wrap ((IntKind.i64.wrap (Int.fdiv (IntKind.u64.wrap (IntKind.i64.wrap (v7_1 + v8_1))) (2 ^ (min (1:Int).toNat IntKind.u64.bits)))) + 1)),v8_1)
  else
   rec1 (v7_1,(IntKind.i64.wrap (Int.fdiv (IntKind.u64.wrap (IntKind.i64.wrap (v7_1 + v8_1))) (2 ^ (min (1:Int).toNat IntKind.u64.bits)))))
 else
  kont1_0 v7_1 v8_1
def Bc (p0:(List Int)) (p1:Int):Option (Int × Bool) :=
 iter (fun rec1 s=>EA p0 p1 (CE p0 p1) rec1 s.1 s.2) AI (0,((p0.length:Nat):Int))
def HC (p0:Aq) (kont2_2:(Int→Option Bool)) (rec2:(Int→Option Bool)) (v67_2:Int):Option Bool :=
 bif (decide (v67_2 < ((p0.Rows.length:Nat):Int))) then
  (idx p0.Rows v67_2).bind fun x70 =>
  (Ib p0.Schema x70).bind fun x75 =>
  bif (!x75) then
   some false
  else
   bif (decide (v67_2 > 0)) then
    (idx x70 0).bind fun x82 =>
    (idx p0.Rows (IntKind.i64.wrap (v67_2 - 1))).bind fun x88 =>
    (idx x88 0).bind fun x90 =>
    bif (decide (x82≤x90)) then
     some false
    else
     (idx x70 0).bind fun x99 =>
     (Bc p0.Gone x99).bind fun x101 =>
     bif x101.2 then
      some false
     else
      rec2 (IntKind.i64.wrap (v67_2 + 1))
   else
    (idx x70 0).bind fun x99 =>
    (Bc p0.Gone x99).bind fun x101 =>
    bif x101.2 then
     some false
    else
     rec2 (IntKind.i64.wrap (v67_2 + 1))
 else
  kont2_2 v67_2
def HD (p0:Aq):Option Bool :=
 iter (fun rec2 s=>HC p0 (fun v67_2=>some true) rec2 s) AI 0
def HB (p0:Aq) (kont1_0:(Int→Option Bool)) (rec1:(Int→Option Bool)) (v38_1:Int):Option Bool :=
 bif (decide (v38_1 < ((p0.Gone.length:Nat):Int))) then
  (idx p0.Gone v38_1).bind fun x41 =>
  bif (bif (decide (x41 < 1)) then true else (decide (x41 > 1048575))) then
   some false
  else
   bif (decide (v38_1 > 0)) then
    (idx p0.Gone (IntKind.i64.wrap (v38_1 - 1))).bind fun x58 =>
    bif (decide (x41≤x58)) then
     some false
    else
     rec1 (IntKind.i64.wrap (v38_1 + 1))
   else
    rec1 (IntKind.i64.wrap (v38_1 + 1))
 else
  kont1_0 v38_1
def GV (p0:Aq):Option Bool :=
 (C0 p0.Schema).bind fun x11 =>
 bif (bif (bif (bif (bif (x11 != 0) then true else (decide (((p0.Rows.length:Nat):Int) > 200))) then true else (decide (((p0.Gone.length:Nat):Int) > 300))) then true else (decide (p0.Version < 0))) then true else (decide (p0.Version > 300))) then
  some false
 else
  iter (fun rec1 s=>HB p0 (fun v38_1=>HD p0) rec1 s) AI 0
def Bw (p0:(List (List Int))) (p2:((List Int)→Int→Option Int)) (p1:Int) (v9_1:Int) (v10_1:Int):Option (Int × Bool) :=
 bif (decide (v9_1 < ((p0.length:Nat):Int))) then
  (idx p0 v9_1).bind fun x43 =>
  (p2 x43 p1).bind fun x46 =>
  some (v9_1,(x46==0))
 else
  some (v9_1,false)
def Bv (p0:(List (List Int))) (p2:((List Int)→Int→Option Int)) (p1:Int) (kont1_0:(Int→Int→Option (Int × Bool))) (rec1:((Int × Int)→Option (Int × Bool))) (v9_1:Int) (v10_1:Int):Option (Int × Bool) :=
 bif (decide (v9_1 < v10_1)) then
  (idx p0 (IntKind.i64.wrap (Int.fdiv (IntKind.u64.wrap (IntKind.i64.wrap (v9_1 + v10_1))) (2 ^ (min (1:Int).toNat IntKind.u64.bits))))).bind fun x27 =>
  (p2 x27 p1).bind fun x30 =>
  bif (decide (x30 < 0)) then
   rec1 ((IntKind.i64.wrap ((IntKind.i64.wrap (Int.fdiv (IntKind.u64.wrap (IntKind.i64.wrap (v9_1 + v10_1))) (2 ^ (min (1:Int).toNat IntKind.u64.bits)))) + 1)),v10_1)
  else
   rec1 (v9_1,(IntKind.i64.wrap (Int.fdiv (IntKind.u64.wrap (IntKind.i64.wrap (v9_1 + v10_1))) (2 ^ (min (1:Int).toNat IntKind.u64.bits)))))
 else
  kont1_0 v9_1 v10_1
def AO (p0:(List (List Int))) (p1:Int) (p2:((List Int)→Int→Option Int)):Option (Int × Bool) :=
 iter (fun rec1 s=>Bv p0 p2 p1 (Bw p0 p2 p1) rec1 s.1 s.2) AI (0,((p0.length:Nat):Int))
def El (p0:(List Int)) (p1:Int):Option Int :=
 (idx p0 0).bind fun x6 =>
 some (IntKind.i64.wrap (x6 - p1))
def GW (p0:Aq) (p1:Int):Option (Int × Bool) :=
 (AO p0.Rows p1 El).bind fun x9 =>
 some (x9.1,x9.2)
def Ho (p0:(List Int)) (p1:Int) (kont1_0:(Int→Option Int)) (rec1:(Int→Option Int)) (v8_1:Int):Option Int :=
 bif (decide (v8_1 < ((p0.length:Nat):Int))) then
  (idx p0 v8_1).bind fun x14 =>
  bif (p1==x14) then
   some v8_1
  else
   rec1 (IntKind.i64.wrap (v8_1 + 1))
 else
  kont1_0 v8_1
def DO (p0:(List Int)) (p1:Int):Option Int :=
 iter (fun rec1 s=>Ho p0 p1 (fun v8_1=>some (-1)) rec1 s) AI 0
def B9 (p0:(List Int)) (p1:Int):Option Bool :=
 (DO p0 p1).bind fun x7 =>
 some (decide (x7 ≥ 0))
def J0 (p0:Aq) (p1:(List Int)) (p2:Bool):Option (Int × Aq) :=
 (Ib p0.Schema p1).bind fun x14 =>
 bif (!x14) then
  some (9,p0)
 else
  (idx p1 0).bind fun x21 =>
  (B9 p0.Gone x21).bind fun x23 =>
  bif x23 then
   some (20,p0)
  else
   (idx p1 0).bind fun x29 =>
   (GW p0 x29).bind fun x31 =>
   bif (bif p2 then (!x31.2) else false) then
    some (19,p0)
   else
    bif p2 then
     (AY p1).bind fun x60 =>
     (idx p0.Rows x31.1).bind fun x61 =>
     some (0,({ Schema:=p0.Schema,Rows:=(p0.Rows.set (x31.1:Int).toNat x60),Gone:=p0.Gone,Version:=p0.Version }:Aq))
    else
     bif x31.2 then
      some (10,p0)
     else
      bif (((p0.Rows.length:Nat):Int)==200) then
       some (1,p0)
      else
       (AY p1).bind fun x41 =>
       (Dg p0.Rows x31.1 [x41]).bind fun x43 =>
       some (0,({ Schema:=p0.Schema,Rows:=x43,Gone:=p0.Gone,Version:=p0.Version }:Aq))
def E9 (p0:Aq) (p1:B1):Option (Int × Aq) :=
 (GW p0 p1.Id).bind fun x15 =>
 bif (p1.Kind==1) then
  (J0 p0 p1.Row (p1.Kind==2)).bind fun x29 =>
  some (x29.1,x29.2)
 else
  bif (p1.Kind==2) then
   (J0 p0 p1.Row (p1.Kind==2)).bind fun x29 =>
   some (x29.1,x29.2)
  else
   bif (p1.Kind==3) then
    bif (!x15.2) then
     some (19,p0)
    else
     bif x15.2 then
      (Cn p0.Rows x15.1 (IntKind.i64.wrap (x15.1 + 1))).bind fun x76 =>
      some (0,({ Schema:=p0.Schema,Rows:=x76,Gone:=p0.Gone,Version:=p0.Version }:Aq))
     else
      some (0,p0)
   else
    bif (p1.Kind==4) then
     bif (bif (decide (p1.Id < 1)) then true else (decide (p1.Id > 1048575))) then
      some (2,p0)
     else
      (Bc p0.Gone p1.Id).bind fun x51 =>
      bif x51.2 then
       some (20,p0)
      else
       (Dv p0.Gone x51.1 [p1.Id]).bind fun x64 =>
       bif x15.2 then
        (Cn p0.Rows x15.1 (IntKind.i64.wrap (x15.1 + 1))).bind fun x76 =>
        some (0,({ Schema:=p0.Schema,Rows:=x76,Gone:=x64,Version:=p0.Version }:Aq))
       else
        some (0,({ Schema:=p0.Schema,Rows:=p0.Rows,Gone:=x64,Version:=p0.Version }:Aq))
    else
     some (4,p0)
def F2 (p0:Aq) (p1:B1):Option (Aq × Int) :=
 (GV p0).bind fun x9 =>
 bif (bif (!x9) then true else (p0.Version==300)) then
  some (({ Schema:=({ Lists:=[],Columns:=[] }:Af),Rows:=[],Gone:=[],Version:=0 }:Aq),13)
 else
  (CZ p0.Schema).bind fun x19 =>
  (FO p0.Rows).bind fun x22 =>
  (AY p0.Gone).bind fun x25 =>
  (E9 ({ Schema:=x19,Rows:=x22,Gone:=x25,Version:=(IntKind.i64.wrap (p0.Version + 1)) }:Aq) p1).bind fun x31 =>
  bif (x31.1 != 0) then
   some (({ Schema:=({ Lists:=[],Columns:=[] }:Af),Rows:=[],Gone:=[],Version:=0 }:Aq),x31.1)
  else
   some (x31.2,0)
def KO (p1:(List B1)) (p2:Int) (kont1_0:(Int→Aq→Option (Aq × Int))) (rec1:((Int × Aq)→Option (Aq × Int))) (v38_1:Int) (w8_1:Aq):Option (Aq × Int) :=
 bif (decide (v38_1 < (((HR p1 0 p2).length:Nat):Int))) then
  (idx (HR p1 0 p2) v38_1).bind fun x40 =>
  (F2 w8_1 x40).bind fun x45 =>
  bif (x45.2 != 0) then
   some (({ Schema:=({ Lists:=[],Columns:=[] }:Af),Rows:=[],Gone:=[],Version:=0 }:Aq),x45.2)
  else
   rec1 ((IntKind.i64.wrap (v38_1 + 1)),x45.1)
 else
  kont1_0 v38_1 w8_1
def KW (p0:Aq) (p1:(List B1)) (p2:Int):Option (Aq × Int) :=
 bif (bif (decide (p2 < 0)) then true else (decide (p2 > ((p1.length:Nat):Int)))) then
  some (({ Schema:=({ Lists:=[],Columns:=[] }:Af),Rows:=[],Gone:=[],Version:=0 }:Aq),13)
 else
  (CZ p0.Schema).bind fun x24 =>
  (FO p0.Rows).bind fun x27 =>
  (AY p0.Gone).bind fun x30 =>
  bif (decide (0≤(0:Int)∧0≤p2∧p2≤((p1.length:Nat):Int))) then
   iter (fun rec1 s=>KO p1 p2 (fun v38_1 w8_1=>some (w8_1,0)) rec1 s.1 s.2) AI (0,({ Schema:=x24,Rows:=x27,Gone:=x30,Version:=p0.Version }:Aq))
  else none
def Ll (p0:As) (p1:Int) (self_condition_count:(As→Int→Option Int)) (kont1_0:(Int→Int→Option Int)) (rec1:((Int × Int)→Option Int)) (v5_1:Int) (v11_1:Int):Option Int :=
 bif (decide (v11_1 < ((p0.Kids.length:Nat):Int))) then
  (idx p0.Kids v11_1).bind fun x13 =>
  bif (decide (v5_1 > p1)) then
   kont1_0 v5_1 v11_1
  else
   (self_condition_count x13 (IntKind.i64.wrap (p1 - v5_1))).bind fun x23 =>
   rec1 ((IntKind.i64.wrap (v5_1 + x23)),(IntKind.i64.wrap (v11_1 + 1)))
 else
  kont1_0 v5_1 v11_1
def Iq (d:Nat) (self_condition_count:(As→Int→Option Int)) (p0:As) (p1:Int):Option Int :=
 iter (fun rec1 s=>Ll p0 p1 self_condition_count (fun v5_1 v11_1=>some v5_1) rec1 s.1 s.2) AI (1,0)
def Hs:Nat→As→Int→Option Int
 | 0,_,_=>none
 | d + 1,p0,p1=>Iq d (Hs d) p0 p1
def LU (p0:As) (self_condition_deep:(As→Option Int)) (kont1_0:(Int→Int→Option Int)) (rec1:((Int × Int)→Option Int)) (v3_1:Int) (v9_1:Int):Option Int :=
 bif (decide (v9_1 < ((p0.Kids.length:Nat):Int))) then
  (idx p0.Kids v9_1).bind fun x11 =>
  (self_condition_deep x11).bind fun x15 =>
  rec1 ((if x15 > v3_1 then x15 else v3_1),(IntKind.i64.wrap (v9_1 + 1)))
 else
  kont1_0 v3_1 v9_1
def Jj (d:Nat) (self_condition_deep:(As→Option Int)) (p0:As):Option Int :=
 iter (fun rec1 s=>LU p0 self_condition_deep (fun v3_1 v9_1=>some (IntKind.i64.wrap (v3_1 + 1))) rec1 s.1 s.2) AI (0,0)
def Ir:Nat→As→Option Int
 | 0,_=>none
 | d + 1,p0=>Jj d (Ir d) p0
def Ln (p0:Int):Option Int :=
 bif (p0==5) then
  some 2
 else
  bif (p0==6) then
   some 2
  else
   bif (p0==7) then
    some 1
   else
    some 0
def Jm (p0:As):Option Bool :=
 bif (bif (!(bif (bif (p0.Op==2) then true else (p0.Op==3)) then true else (p0.Op==4))) then (p0.Column != 0) else false) then
  some false
 else
  bif (bif (p0.Op != 2) then (p0.Code != 0) else false) then
   some false
  else
   some (bif (p0.Op==3) then true else (bif (p0.Low==0) then (p0.High==0) else false))
def FP (p0:Af) (p1:As):Option Int :=
 (idx p0.Columns p1.Column).bind fun x58 =>
 bif (p1.Op==2) then
  bif (x58.Kind != 2) then
   some 7
  else
   bif (decide (p1.Code < 0)) then
    some 6
   else
    (idx p0.Lists x58.List_).bind fun x77 =>
    bif (decide (p1.Code ≥ ((x77.Codes.length:Nat):Int))) then
     some 6
    else
     some 0
 else
  bif (p1.Op==3) then
   bif (x58.Kind != 3) then
    some 7
   else
    bif (bif (bif (decide (p1.Low > p1.High)) then true else (decide (p1.Low < (-1000000)))) then true else (decide (p1.High > 1000000))) then
     some 2
    else
     some 0
  else
   bif (p1.Op==4) then
    bif (bif (x58.Kind != 3) then true else (!x58.Optional)) then
     some 7
    else
     some 0
   else
    some 0
def HI (p0:Af) (p1:As):Option Int :=
 bif (bif (decide (p1.Op < 1)) then true else (decide (p1.Op > 7))) then
  some 4
 else
  (Ln p1.Op).bind fun x21 =>
  bif (((p1.Kids.length:Nat):Int) != x21) then
   some 11
  else
   (Jm p1).bind fun x25 =>
   bif (!x25) then
    some 11
   else
    bif (bif (bif (p1.Op != 2) then (p1.Op != 3) else false) then (p1.Op != 4) else false) then
     some 0
    else
     bif (bif (decide (p1.Column < 0)) then true else (decide (p1.Column ≥ ((p0.Columns.length:Nat):Int)))) then
      some 7
     else
      FP p0 p1
def Jd (p1:As) (self_condition_checkAll:(Af→As→Option Int)) (p0:Af) (kont1_0:(Int→Option Int)) (rec1:(Int→Option Int)) (v18_1:Int):Option Int :=
 bif (decide (v18_1 < ((p1.Kids.length:Nat):Int))) then
  (idx p1.Kids v18_1).bind fun x20 =>
  (self_condition_checkAll p0 x20).bind fun x24 =>
  bif (x24 != 0) then
   some x24
  else
   rec1 (IntKind.i64.wrap (v18_1 + 1))
 else
  kont1_0 v18_1
def Gc (d:Nat) (self_condition_checkAll:(Af→As→Option Int)) (p0:Af) (p1:As):Option Int :=
 (HI p0 p1).bind fun x11 =>
 bif (x11 != 0) then
  some x11
 else
  iter (fun rec1 s=>Jd p1 self_condition_checkAll p0 (fun v18_1=>some 0) rec1 s) AI 0
def Fe:Nat→Af→As→Option Int
 | 0,_,_=>none
 | d + 1,p0,p1=>Gc d (Fe d) p0 p1
def C7 (d:Nat) (p0:Af) (p1:As):Option Int :=
 (C0 p0).bind fun x7 =>
 bif (x7 != 0) then
  some x7
 else
  (Hs d p1 40).bind fun x14 =>
  bif (decide (x14 > 40)) then
   some 1
  else
   (Ir d p1).bind fun x18 =>
   bif (decide (x18 > 10)) then
    some 22
   else
    (Fe d p0 p1).bind fun x22 =>
    some x22
def Dl (p0:(List Ap)) (p1:(Ap→Option Bool)) (kont1_0:(Int→Option Int)) (rec1:(Int→Option Int)) (v8_1:Int):Option Int :=
 bif (decide (v8_1 < ((p0.length:Nat):Int))) then
  (idx p0 v8_1).bind fun x14 =>
  (p1 x14).bind fun x16 =>
  bif x16 then
   some v8_1
  else
   rec1 (IntKind.i64.wrap (v8_1 + 1))
 else
  kont1_0 v8_1
def BN (p0:(List Ap)) (p1:(Ap→Option Bool)):Option Int :=
 iter (fun rec1 s=>Dl p0 p1 (fun v8_1=>some (-1)) rec1 s) AI 0
def AP (p0:(List Ap)) (p1:(Ap→Option Bool)):Option Bool :=
 (BN p0 p1).bind fun x7 =>
 some (decide (x7 ≥ 0))
def IX (p0:(List Int)) (kont1_0:(Int→Int→Option Int)) (rec1:((Int × Int)→Option Int)) (v3_1:Int) (v4_1:Int):Option Int :=
 bif (decide (v4_1 < ((p0.length:Nat):Int))) then
  (idx p0 v4_1).bind fun x21 =>
  rec1 ((if x21 > v3_1 then x21 else v3_1),(IntKind.i64.wrap (v4_1 + 1)))
 else
  kont1_0 v3_1 v4_1
def He (p0:(List Int)):Option Int :=
 bif (decide (((p0.length:Nat):Int) < 1)) then
  none
 else
  (idx p0 0).bind fun x10 =>
  iter (fun rec1 s=>IX p0 (fun v3_1 v4_1=>some v3_1) rec1 s.1 s.2) AI (x10,1)
def G4 (p0:Ax):Option Int :=
 (EV p0).bind fun x4 =>
 bif (x4 != 0) then
  some (-1)
 else
  (EZ p0).bind fun x7 =>
  (He x7).bind fun x8 =>
  some (IntKind.i64.wrap (x8 + 1))
def FN (p0:Af) (p1:Int):Option Int :=
 bif (bif (decide (p1 < 1)) then true else (decide (p1 ≥ ((p0.Columns.length:Nat):Int)))) then
  some (-1)
 else
  (idx p0.Columns p1).bind fun x18 =>
  bif (x18.Kind==2) then
   (idx p0.Lists x18.List_).bind fun x27 =>
   (G4 x27).bind fun x29 =>
   some (IntKind.i64.wrap (x29 - 1))
  else
   some ((x18.Widths.length:Nat):Int)
def Gx (p0:Af) (p1:Ap):Option Int :=
 (FN p0 p1.Column).bind fun x9 =>
 bif (decide (x9 < 0)) then
  some 7
 else
  bif (bif (decide (p1.Level < 0)) then true else (decide (p1.Level > x9))) then
   some 8
  else
   some 0
def Kl (p0:Af) (p1:Ap):Option Int :=
 (C0 p0).bind fun x7 =>
 bif (x7 != 0) then
  some x7
 else
  (Gx p0 p1).bind fun x13 =>
  some x13
def Cb (p0:Af) (p1:Int):Option Int :=
 bif (bif (decide (p1 < 0)) then true else (decide (p1 ≥ ((p0.Columns.length:Nat):Int)))) then
  some 0
 else
  (idx p0.Columns p1).bind fun x17 =>
  some x17.Kind
def Gg (p0:Ap) (q0:Ap):Option Bool :=
 some (p0.Column==q0.Column)
def Es (p0:As):Option Bool :=
 some (bif (bif (bif (bif (bif (p0.Op==0) then (p0.Column==0) else false) then (p0.Code==0) else false) then (p0.Low==0) else false) then (p0.High==0) else false) then (((p0.Kids.length:Nat):Int)==0) else false)
def Gh (p1:A9) (p0:Af):Option Int :=
 bif (p1.Measure != (-1)) then
  (Cb p0 p1.Measure).bind fun x51 =>
  bif (x51 != 3) then
   some 7
  else
   bif (decide (((p1.Terms.length:Nat):Int) > 0)) then
    some 11
   else
    (Es p1.Event).bind fun x61 =>
    bif (!x61) then
     some 11
    else
     some 0
 else
  bif (decide (((p1.Terms.length:Nat):Int) > 0)) then
   some 11
  else
   (Es p1.Event).bind fun x61 =>
   bif (!x61) then
    some 11
   else
    some 0
def Et (p1:A9) (p0:Af) (kont1_0:(Int→Option Int)) (rec1:(Int→Option Int)) (v21_1:Int):Option Int :=
 bif (decide (v21_1 < ((p1.Dims.length:Nat):Int))) then
  (idx p1.Dims v21_1).bind fun x24 =>
  (Kl p0 x24).bind fun x28 =>
  bif (x28 != 0) then
   some x28
  else
   (Cb p0 x24.Column).bind fun x35 =>
   bif (x35 != 2) then
    some 7
   else
    bif (decide (0≤(0:Int)∧0≤v21_1∧v21_1≤((p1.Dims.length:Nat):Int))) then
     (AP (HR p1.Dims 0 v21_1) (fun a0=>Gg a0 x24)).bind fun x42 =>
     bif x42 then
      some 10
     else
      rec1 (IntKind.i64.wrap (v21_1 + 1))
    else none
 else
  kont1_0 v21_1
def FW (p0:Af) (p1:A9):Option Int :=
 bif (bif (decide (((p1.Dims.length:Nat):Int) < 1)) then true else (decide (((p1.Dims.length:Nat):Int) > 3))) then
  some 1
 else
  iter (fun rec1 s=>Et p1 p0 (fun v21_1=>Gh p1 p0) rec1 s) AI 0
def JQ (p1:A9) (v27_1:Int):Option Int :=
 bif (decide (((p1.Dims.length:Nat):Int) > 0)) then
  some 11
 else
  (Es p1.Event).bind fun x56 =>
  bif (!x56) then
   some 11
  else
   some 0
def JP (p1:A9) (p0:Af) (kont1_1:(Int→Option Int)) (rec1:(Int→Option Int)) (v27_1:Int):Option Int :=
 bif (decide (v27_1 < ((p1.Terms.length:Nat):Int))) then
  (idx p1.Terms v27_1).bind fun x30 =>
  (Cb p0 x30).bind fun x34 =>
  bif (x34 != 3) then
   some 7
  else
   bif (x30==p1.Measure) then
    some 10
   else
    bif (decide (0≤(0:Int)∧0≤v27_1∧v27_1≤((p1.Terms.length:Nat):Int))) then
     (B9 (HR p1.Terms 0 v27_1) x30).bind fun x46 =>
     bif x46 then
      some 10
     else
      rec1 (IntKind.i64.wrap (v27_1 + 1))
    else none
 else
  kont1_1 v27_1
def Iw (p0:Af) (p1:A9):Option Int :=
 (Cb p0 p1.Measure).bind fun x11 =>
 bif (x11 != 3) then
  some 7
 else
  bif (bif (decide (((p1.Terms.length:Nat):Int) < 1)) then true else (decide (((p1.Terms.length:Nat):Int) > 3))) then
   some 1
  else
   iter (fun rec1 s=>JP p1 p0 (JQ p1) rec1 s) AI 0
def Iv (d:Nat) (p0:Af) (p1:A9):Option Int :=
 (Cb p0 p1.Measure).bind fun x10 =>
 bif (x10 != 3) then
  some 7
 else
  (idx p0.Columns p1.Measure).bind fun x17 =>
  bif (decide (x17.Low < 0)) then
   some 2
  else
   (C7 d p0 p1.Event).bind fun x24 =>
   bif (x24 != 0) then
    some x24
   else
    bif (bif (decide (((p1.Dims.length:Nat):Int) > 0)) then true else (decide (((p1.Terms.length:Nat):Int) > 0))) then
     some 11
    else
     some 0
def Cs (d:Nat) (p0:Af) (p1:A9):Option Int :=
 (C0 p0).bind fun x8 =>
 bif (x8 != 0) then
  some x8
 else
  (D4 p1.Name).bind fun x16 =>
  bif (!x16) then
   some 3
  else
   bif (bif (decide (p1.Kind < 1)) then true else (decide (p1.Kind > 3))) then
    some 4
   else
    (C7 d p0 p1.Filter).bind fun x30 =>
    bif (x30 != 0) then
     some x30
    else
     bif (p1.Kind==1) then
      (FW p0 p1).bind fun x40 =>
      some x40
     else
      bif (p1.Kind==2) then
       (Iw p0 p1).bind fun x45 =>
       some x45
      else
       (Iv d p0 p1).bind fun x48 =>
       some x48
def Cp (p0:(List A9)) (p1:(A9→Option Bool)) (kont1_0:(Int→Option Int)) (rec1:(Int→Option Int)) (v8_1:Int):Option Int :=
 bif (decide (v8_1 < ((p0.length:Nat):Int))) then
  (idx p0 v8_1).bind fun x14 =>
  (p1 x14).bind fun x16 =>
  bif x16 then
   some v8_1
  else
   rec1 (IntKind.i64.wrap (v8_1 + 1))
 else
  kont1_0 v8_1
def Bu (p0:(List A9)) (p1:(A9→Option Bool)):Option Int :=
 iter (fun rec1 s=>Cp p0 p1 (fun v8_1=>some (-1)) rec1 s) AI 0
def Bb (p0:(List A9)) (p1:(A9→Option Bool)):Option Bool :=
 (Bu p0 p1).bind fun x7 =>
 some (decide (x7 ≥ 0))
def Ge (p0:A9) (q0:A9):Option Bool :=
 some (p0.Name.toList==q0.Name.toList)
def Ep (p1:A6) (d:Nat) (p0:Af) (kont1_1:(Int→Option Int)) (rec1:(Int→Option Int)) (v80_1:Int):Option Int :=
 bif (decide (v80_1 < ((p1.Questions.length:Nat):Int))) then
  (idx p1.Questions v80_1).bind fun x83 =>
  (Cs d p0 x83).bind fun x87 =>
  bif (x87 != 0) then
   some x87
  else
   bif (decide (0≤(0:Int)∧0≤v80_1∧v80_1≤((p1.Questions.length:Nat):Int))) then
    (Bb (HR p1.Questions 0 v80_1) (fun a0=>Ge a0 x83)).bind fun x96 =>
    bif x96 then
     some 10
    else
     rec1 (IntKind.i64.wrap (v80_1 + 1))
   else none
 else
  kont1_1 v80_1
def Er (d:Nat) (p0:Af) (p1:A6):Option Int :=
 (C7 d p0 p1.Cohort).bind fun x29 =>
 bif (x29 != 0) then
  some x29
 else
  bif (bif (bif (bif (bif (bif (decide (p1.Sample.Of < 1)) then true else (decide (p1.Sample.Of > 1000))) then true else (decide (p1.Sample.Part < 1))) then true else (decide (p1.Sample.Part > p1.Sample.Of))) then true else (decide (p1.Sample.Seed < 0))) then true else (decide (p1.Sample.Seed > 1099511627776))) then
   some 2
  else
   bif (bif (((p1.Questions.length:Nat):Int)==0) then true else (decide (((p1.Questions.length:Nat):Int) > 8))) then
    some 1
   else
    iter (fun rec1 s=>Ep p1 d p0 (fun v80_1=>some 0) rec1 s) AI 0
def Eo (d:Nat) (p0:Af) (p1:A6):Option Int :=
 (C0 p0).bind fun x12 =>
 bif (x12 != 0) then
  some x12
 else
  (D4 p1.Project).bind fun x18 =>
  bif (!x18) then
   some 3
  else
   (D4 p1.Source).bind fun x23 =>
   bif (!x23) then
    some 3
   else
    Er d p0 p1
def H9 (p1:(List Ap)) (p0:Af) (kont1_0:(Int→Option Int)) (rec1:(Int→Option Int)) (v16_1:Int):Option Int :=
 bif (decide (v16_1 < ((p1.length:Nat):Int))) then
  (idx p1 v16_1).bind fun x19 =>
  (Gx p0 x19).bind fun x23 =>
  bif (x23 != 0) then
   some x23
  else
   bif (decide (v16_1 > 0)) then
    (idx p1 (IntKind.i64.wrap (v16_1 - 1))).bind fun x35 =>
    bif (decide (x19.Column≤x35.Column)) then
     some 10
    else
     rec1 (IntKind.i64.wrap (v16_1 + 1))
   else
    rec1 (IntKind.i64.wrap (v16_1 + 1))
 else
  kont1_0 v16_1
def IW (p0:Af) (p1:(List Ap)):Option Int :=
 (C0 p0).bind fun x10 =>
 bif (x10 != 0) then
  some x10
 else
  iter (fun rec1 s=>H9 p1 p0 (fun v16_1=>some 0) rec1 s) AI 0
def Fa (p0:Ap) (q0:Ap):Option Bool :=
 some (bif (p0.Column==q0.Column) then (decide (p0.Level ≥ q0.Level)) else false)
def GZ (p0:Ap) (q0:(List Ap)):Option Bool :=
 (AP q0 (fun a0=>Fa a0 p0)).bind fun x6 =>
 some (!x6)
def G6 (p0:(List Ap)) (p1:(List Ap)):Option Bool :=
 (AP p1 (fun a0=>GZ a0 p0)).bind fun x7 =>
 some (!x7)
def Hu (p0:(List Ap)) (p1:(List Ap)):Option Bool :=
 (G6 p1 p0).bind fun x7 =>
 some x7
def E7 (p0:Af) (p1:Int):Option Int :=
 (C0 p0).bind fun x6 =>
 bif (x6 != 0) then
  some (-1)
 else
  (FN p0 p1).bind fun x10 =>
  some x10
def L8 (x16:(List Ap)) (kont2_2:(Int→Int→(List (Int × Int))→Option (List Ap))) (rec2:((Int × Int × (List (Int × Int)))→Option (List Ap))) (v4_2:Int) (v20_2:Int) (b11_2:(List (Int × Int))):Option (List Ap) :=
 bif (decide (v20_2 < ((x16.length:Nat):Int))) then
  (idx x16 v20_2).bind fun x22 =>
  rec2 ((if x22.Column > v4_2 then x22.Column else v4_2),(IntKind.i64.wrap (v20_2 + 1)),(cW x22.Column (if x22.Level > ((OO x22.Column b11_2).getD 0) then x22.Level else ((OO x22.Column b11_2).getD 0)) b11_2))
 else
  kont2_2 v4_2 v20_2 b11_2
def L9 (v4_1:Int) (b11_1:(List (Int × Int))) (kont3_4:(Int→(List Ap)→Option (List Ap))) (rec3:((Int × (List Ap))→Option (List Ap))) (v42_3:Int) (b9_3:(List Ap)):Option (List Ap) :=
 bif (decide (v42_3 < (IntKind.i64.wrap (v4_1 + 1)))) then
  bif (decide (((OO v42_3 b11_1).getD 0) > 0)) then
   bif rm b9_3.length [({ Column:=v42_3,Level:=((OO v42_3 b11_1).getD 0) }:Ap)].length then
    rec3 ((IntKind.i64.wrap (v42_3 + 1)),(b9_3++[({ Column:=v42_3,Level:=((OO v42_3 b11_1).getD 0) }:Ap)]))
   else none
  else
   rec3 ((IntKind.i64.wrap (v42_3 + 1)),b9_3)
 else
  kont3_4 v42_3 b9_3
def L6 (p0:(List (List Ap))) (kont1_0:(Int→Int→(List (Int × Int))→Option (List Ap))) (rec1:((Int × Int × (List (Int × Int)))→Option (List Ap))) (v4_1:Int) (v14_1:Int) (b11_1:(List (Int × Int))):Option (List Ap) :=
 bif (decide (v14_1 < ((p0.length:Nat):Int))) then
  (idx p0 v14_1).bind fun x16 =>
  iter (fun rec2 s=>L8 x16 (fun v4_2 v20_2 b11_2=>rec1 (v4_2,(IntKind.i64.wrap (v14_1 + 1)),b11_2)) rec2 s.1 s.2.1 s.2.2) AI (v4_1,0,b11_1)
 else
  kont1_0 v4_1 v14_1 b11_1
def Hw (p0:(List (List Ap))):Option (List Ap) :=
 iter (fun rec1 s=>L6 p0 (fun v4_1 v14_1 b11_1=>iter (fun rec3 s=>L9 v4_1 b11_1 (fun v42_3 b9_3=>some b9_3) rec3 s.1 s.2) AI (0,[])) rec1 s.1 s.2.1 s.2.2) AI (0,0,[])
def Gw (p0:Int) (p1:Int):Option Int :=
 bif (decide (p1≠0)) then
  bif (decide ((Int.tmod p0 p1) < 0)) then
   some (IntKind.i64.wrap (p0 - (IntKind.i64.wrap ((Int.tmod p0 p1) + p1))))
  else
   some (IntKind.i64.wrap (p0 - (Int.tmod p0 p1)))
 else none
def GQ (p0:A3) (p1:Int):Option Int :=
 (idx p0.Widths (IntKind.i64.wrap (((p0.Widths.length:Nat):Int) - p1))).bind fun x12 =>
 some x12
def T4 (x12:(List Int)) (p1:Int) (kont1_0:(Int→(List Int)→Option (List Int))) (rec1:((Int × (List Int))→Option (List Int))) (v14_1:Int) (b5_1:(List Int)):Option (List Int) :=
 bif (decide (v14_1 < ((x12.length:Nat):Int))) then
  (idx x12 v14_1).bind fun x17 =>
  bif (x17==p1) then
   bif rm b5_1.length [v14_1].length then
    rec1 ((IntKind.i64.wrap (v14_1 + 1)),(b5_1++[v14_1]))
   else none
  else
   rec1 ((IntKind.i64.wrap (v14_1 + 1)),b5_1)
 else
  kont1_0 v14_1 b5_1
def MS (p0:Ax) (p1:Int):Option (List Int) :=
 (EV p0).bind fun x9 =>
 bif (x9 != 0) then
  some []
 else
  (EZ p0).bind fun x12 =>
  iter (fun rec1 s=>T4 x12 p1 (fun v14_1 b5_1=>some b5_1) rec1 s.1 s.2) AI (0,[])
def JK (p0:Af) (p1:Int) (p2:Int):Option Int :=
 (idx p0.Columns p1).bind fun x13 =>
 bif (x13.Kind==2) then
  (idx p0.Lists x13.List_).bind fun x22 =>
  (MS x22 p2).bind fun x25 =>
  some ((x25.length:Nat):Int)
 else
  bif (p2==0) then
   some 1
  else
   (GQ x13 p2).bind fun x31 =>
   (Gw x13.High x31).bind fun x35 =>
   (Gw x13.Low x31).bind fun x39 =>
   bif (decide (x31≠0)) then
    bif x13.Optional then
     some (IntKind.i64.wrap ((IntKind.i64.wrap ((IntKind.i64.wrap (Int.tdiv (IntKind.i64.wrap (x35 - x39)) x31)) + 1)) + 1))
    else
     some (IntKind.i64.wrap ((IntKind.i64.wrap (Int.tdiv (IntKind.i64.wrap (x35 - x39)) x31)) + 1))
   else none
def Ku (p0:Af) (p1:Int) (kont1_0:(Int→Option Int)) (rec1:(Int→Option Int)) (v2_1:Int):Option Int :=
 bif (decide (v2_1 > 0)) then
  (JK p0 p1 (IntKind.i64.wrap (v2_1 - 1))).bind fun x25 =>
  (JK p0 p1 v2_1).bind fun x29 =>
  bif (x25==x29) then
   rec1 (IntKind.i64.wrap (v2_1 - 1))
  else
   kont1_0 v2_1
 else
  kont1_0 v2_1
def GP (p0:Af) (p1:Int) (p2:Int):Option Int :=
 (E7 p0 p1).bind fun x10 =>
 bif (bif (decide (p2 < 0)) then true else (decide (p2 > x10))) then
  some (-1)
 else
  iter (fun rec1 s=>Ku p0 p1 (fun v2_1=>some v2_1) rec1 s) AI p2
def I1 (p0:A9) (p1:Int):Option Bool :=
 bif (decide (p1 > 0)) then
  bif (p0.Measure==p1) then
   some true
  else
   (B9 p0.Terms p1).bind fun x16 =>
   some x16
 else
  some false
def Kr (p0:A9):Option (List As) :=
 bif (p0.Kind==3) then
  some [p0.Filter,p0.Event]
 else
  some [p0.Filter]
def Li (p0:As) (self_condition_Atoms:(As→Option (List As))) (kont1_0:(Int→(List As)→Option (List As))) (rec1:((Int × (List As))→Option (List As))) (v24_1:Int) (b3_1:(List As)):Option (List As) :=
 bif (decide (v24_1 < ((p0.Kids.length:Nat):Int))) then
  (idx p0.Kids v24_1).bind fun x26 =>
  (self_condition_Atoms x26).bind fun x30 =>
  bif rm b3_1.length x30.length then
   rec1 ((IntKind.i64.wrap (v24_1 + 1)),(b3_1++x30))
  else none
 else
  kont1_0 v24_1 b3_1
def Ip (d:Nat) (self_condition_Atoms:(As→Option (List As))) (p0:As):Option (List As) :=
 bif (bif (bif (p0.Op==2) then true else (p0.Op==3)) then true else (p0.Op==4)) then
  some [p0]
 else
  iter (fun rec1 s=>Li p0 self_condition_Atoms (fun v24_1 b3_1=>some b3_1) rec1 s.1 s.2) AI (0,[])
def Hr:Nat→As→Option (List As)
 | 0,_=>none
 | d + 1,p0=>Ip d (Hr d) p0
def MU (p0:Ax) (p1:Int):Option Bool :=
 bif (bif (decide (p1 ≥ 0)) then (decide (p1 < ((p0.Codes.length:Nat):Int))) else false) then
  (EV p0).bind fun x16 =>
  some (x16==0)
 else
  some false
def T5 (p2:Int) (p0:Ax) (kont1_0:(Int→Int→Option Int)) (rec1:((Int × Int)→Option Int)) (v1_1:Int) (v7_1:Int):Option Int :=
 bif (decide (v7_1 ≥ p2)) then
  bif (v7_1==p2) then
   some v1_1
  else
   (idx p0.Codes v1_1).bind fun x33 =>
   rec1 (x33.Parent,(IntKind.i64.wrap (v7_1 - 1)))
 else
  kont1_0 v1_1 v7_1
def Lh (p0:Ax) (p1:Int) (p2:Int):Option Int :=
 (MU p0 p1).bind fun x10 =>
 bif (bif (!x10) then true else (decide (p2 < 0))) then
  some (-1)
 else
  (EZ p0).bind fun x17 =>
  (idx x17 p1).bind fun x19 =>
  iter (fun rec1 s=>T5 p2 p0 (fun v1_1 v7_1=>some (-1)) rec1 s.1 s.2) AI (p1,x19)
def F7 (p0:Bool):Option Int :=
 bif p0 then
  some 1
 else
  some (-1)
def O8 (p0:Ax) (p1:Int) (p2:Int):Option Bool :=
 (MU p0 p1).bind fun x9 =>
 bif (!x9) then
  some false
 else
  (MU p0 p2).bind fun x14 =>
  bif (!x14) then
   some false
  else
   (EZ p0).bind fun x20 =>
   (idx x20 p2).bind fun x22 =>
   (Lh p0 p1 x22).bind fun x24 =>
   some (x24==p2)
def Io (p0:Af) (p1:As) (p2:Int):Option Int :=
 bif (p1.Op==2) then
  (idx p0.Columns p1.Column).bind fun x17 =>
  (idx p0.Lists x17.List_).bind fun x20 =>
  (O8 x20 p2 p1.Code).bind fun x25 =>
  (F7 x25).bind fun x26 =>
  some x26
 else
  bif (p1.Op==4) then
   (F7 (p2==(-1099511627776))).bind fun x33 =>
   some x33
  else
   bif (p2==(-1099511627776)) then
    some 0
   else
    (F7 (bif (decide (p2 ≥ p1.Low)) then (decide (p2≤p1.High)) else false)).bind fun x47 =>
    some x47
def Ko (p0:A3) (p1:Int):Option Int :=
 (idx p0.Widths (IntKind.i64.wrap (((p0.Widths.length:Nat):Int) - p1))).bind fun x12 =>
 some x12
def Gd (p0:Int) (p1:Int):Option Int :=
 bif (decide (p1≠0)) then
  bif (decide ((Int.tmod p0 p1) < 0)) then
   some (IntKind.i64.wrap (p0 - (IntKind.i64.wrap ((Int.tmod p0 p1) + p1))))
  else
   some (IntKind.i64.wrap (p0 - (Int.tmod p0 p1)))
 else none
def Jf (x39:(List Int)) (x32:Ax) (p2:Int) (p0:Af) (p1:As) (kont1_0:(Int→(List (Int × Int))→Option Bool)) (rec1:((Int × (List (Int × Int)))→Option Bool)) (v41_1:Int) (b34_1:(List (Int × Int))):Option Bool :=
 bif (decide (v41_1 < ((x39.length:Nat):Int))) then
  (idx x39 v41_1).bind fun x43 =>
  (Lh x32 x43 p2).bind fun x48 =>
  (Io p0 p1 x43).bind fun x52 =>
  bif (bif ((OO x48 b34_1).isSome) then (((OO x48 b34_1).getD 0) != x52) else false) then
   some false
  else
   rec1 ((IntKind.i64.wrap (v41_1 + 1)),(cW x48 x52 b34_1))
 else
  kont1_0 v41_1 b34_1
def HJ (p0:Af) (p1:As) (p2:Int):Option Bool :=
 (idx p0.Columns p1.Column).bind fun x23 =>
 bif (p1.Op==2) then
  (idx p0.Lists x23.List_).bind fun x32 =>
  (G4 x32).bind fun x37 =>
  (MS x32 (IntKind.i64.wrap (x37 - 1))).bind fun x39 =>
  iter (fun rec1 s=>Jf x39 x32 p2 p0 p1 (fun v41_1 b34_1=>some true) rec1 s.1 s.2) AI (0,[])
 else
  bif (bif (p2==0) then x23.Optional else false) then
   some false
  else
   bif (p1.Op==4) then
    some true
   else
    bif (decide ((if x23.Low > p1.Low then x23.Low else p1.Low) > (if x23.High < p1.High then x23.High else p1.High))) then
     some true
    else
     bif (p2==0) then
      some (bif ((if x23.Low > p1.Low then x23.Low else p1.Low)==x23.Low) then ((if x23.High < p1.High then x23.High else p1.High)==x23.High) else false)
     else
      (Ko x23 p2).bind fun x107 =>
      bif ((if x23.Low > p1.Low then x23.Low else p1.Low)==x23.Low) then
       bif ((if x23.High < p1.High then x23.High else p1.High)==x23.High) then
        some true
       else
        (Gd (IntKind.i64.wrap ((if x23.High < p1.High then x23.High else p1.High) + 1)) x107).bind fun x128 =>
        some (x128==(IntKind.i64.wrap ((if x23.High < p1.High then x23.High else p1.High) + 1)))
      else
       (Gd (if x23.Low > p1.Low then x23.Low else p1.Low) x107).bind fun x115 =>
       bif (x115==(if x23.Low > p1.Low then x23.Low else p1.Low)) then
        bif ((if x23.High < p1.High then x23.High else p1.High)==x23.High) then
         some true
        else
         (Gd (IntKind.i64.wrap ((if x23.High < p1.High then x23.High else p1.High) + 1)) x107).bind fun x128 =>
         some (x128==(IntKind.i64.wrap ((if x23.High < p1.High then x23.High else p1.High) + 1)))
       else
        some false
def Fc (b19_1:(List Int)) (x25:As) (rec1:((Int × (List Int))→Option (List Ap))) (v23_1:Int) (v8_2:Int):Option (List Ap) :=
 (idx b19_1 x25.Column).bind fun x40 =>
 (idx b19_1 x25.Column).bind fun x44 =>
 rec1 ((IntKind.i64.wrap (v23_1 + 1)),(b19_1.set (x25.Column:Int).toNat (if v8_2 > x40 then v8_2 else x40)))
def Lk (p0:Af) (x25:As) (kont2_2:(Int→Option (List Ap))) (rec2:(Int→Option (List Ap))) (v8_2:Int):Option (List Ap) :=
 (HJ p0 x25 v8_2).bind fun x30 =>
 bif (!x30) then
  rec2 (IntKind.i64.wrap (v8_2 + 1))
 else
  kont2_2 v8_2
def Fb (b19_1:(List Int)) (kont3_4:(Int→(List Ap)→Option (List Ap))) (rec3:((Int × (List Ap))→Option (List Ap))) (v48_3:Int) (b9_3:(List Ap)):Option (List Ap) :=
 bif (decide (v48_3 < ((b19_1.length:Nat):Int))) then
  (idx b19_1 v48_3).bind fun x51 =>
  bif (decide (x51 > 0)) then
   bif rm b9_3.length [({ Column:=v48_3,Level:=x51 }:Ap)].length then
    rec3 ((IntKind.i64.wrap (v48_3 + 1)),(b9_3++[({ Column:=v48_3,Level:=x51 }:Ap)]))
   else none
  else
   rec3 ((IntKind.i64.wrap (v48_3 + 1)),b9_3)
 else
  kont3_4 v48_3 b9_3
def HH (x21:(List As)) (p0:Af) (kont1_0:(Int→(List Int)→Option (List Ap))) (rec1:((Int × (List Int))→Option (List Ap))) (v23_1:Int) (b19_1:(List Int)):Option (List Ap) :=
 bif (decide (v23_1 < ((x21.length:Nat):Int))) then
  (idx x21 v23_1).bind fun x25 =>
  iter (fun rec2 s=>Lk p0 x25 (Fc b19_1 x25 rec1 v23_1) rec2 s) AI 0
 else
  kont1_0 v23_1 b19_1
def F6 (d:Nat) (p0:Af) (p1:As):Option (List Ap) :=
 (C7 d p0 p1).bind fun x14 =>
 bif (x14 != 0) then
  some []
 else
  bif (decide (0≤((p0.Columns.length:Nat):Int)) && rm (((p0.Columns.length:Nat):Int):Int).toNat 0) then
   (Hr d p1).bind fun x21 =>
   iter (fun rec1 s=>HH x21 p0 (fun v23_1 b19_1=>iter (fun rec3 s=>Fb b19_1 (fun v48_3 b9_3=>some b9_3) rec3 s.1 s.2) AI (0,[])) rec1 s.1 s.2) AI (0,(List.replicate (((p0.Columns.length:Nat):Int):Int).toNat 0))
  else none
def Fu (x60:(List As)) (d:Nat) (p0:Af) (kont3_4:(Int→(List (List Ap))→Option (List Ap))) (rec3:((Int × (List (List Ap)))→Option (List Ap))) (v62_3:Int) (b58_3:(List (List Ap))):Option (List Ap) :=
 bif (decide (v62_3 < ((x60.length:Nat):Int))) then
  (idx x60 v62_3).bind fun x64 =>
  (F6 d p0 x64).bind fun x69 =>
  bif rm b58_3.length [x69].length then
   rec3 ((IntKind.i64.wrap (v62_3 + 1)),(b58_3++[x69]))
  else none
 else
  kont3_4 v62_3 b58_3
def D7 (p1:A9) (d:Nat) (p0:Af) (v39_2:Int) (b5_2:(List Ap)):Option (List Ap) :=
 (Kr p1).bind fun x60 =>
 iter (fun rec3 s=>Fu x60 d p0 (fun v62_3 b58_3=>(Hw b58_3).bind fun x74=>some x74) rec3 s.1 s.2) AI (0,[b5_2])
def Ft (p0:Af) (p1:A9) (kont2_2:(Int→(List Ap)→Option (List Ap))) (rec2:((Int × (List Ap))→Option (List Ap))) (v39_2:Int) (b5_2:(List Ap)):Option (List Ap) :=
 bif (decide (v39_2 < ((p0.Columns.length:Nat):Int))) then
  (I1 p1 v39_2).bind fun x44 =>
  bif x44 then
   (E7 p0 v39_2).bind fun x51 =>
   (GP p0 v39_2 x51).bind fun x52 =>
   bif rm b5_2.length [({ Column:=v39_2,Level:=x52 }:Ap)].length then
    rec2 ((IntKind.i64.wrap (v39_2 + 1)),(b5_2++[({ Column:=v39_2,Level:=x52 }:Ap)]))
   else none
  else
   rec2 ((IntKind.i64.wrap (v39_2 + 1)),b5_2)
 else
  kont2_2 v39_2 b5_2
def Fv (p0:Af) (p1:A9) (d:Nat) (k5_1:(List Ap)):Option (List Ap) :=
 iter (fun rec2 s=>Ft p0 p1 (D7 p1 d p0) rec2 s.1 s.2) AI (0,k5_1)
def Fs (p1:A9) (p0:Af) (kont1_0:(Int→(List Ap)→Option (List Ap))) (rec1:((Int × (List Ap))→Option (List Ap))) (v19_1:Int) (b5_1:(List Ap)):Option (List Ap) :=
 bif (decide (v19_1 < ((p1.Dims.length:Nat):Int))) then
  (idx p1.Dims v19_1).bind fun x21 =>
  (GP p0 x21.Column x21.Level).bind fun x31 =>
  bif rm b5_1.length [({ Column:=x21.Column,Level:=x31 }:Ap)].length then
   rec1 ((IntKind.i64.wrap (v19_1 + 1)),(b5_1++[({ Column:=x21.Column,Level:=x31 }:Ap)]))
  else none
 else
  kont1_0 v19_1 b5_1
def FB (d:Nat) (p0:Af) (p1:A9):Option (List Ap) :=
 (Cs d p0 p1).bind fun x14 =>
 bif (x14 != 0) then
  some []
 else
  iter (fun rec1 s=>Fs p1 p0 (fun v19_1 b5_1=>Fv p0 p1 d b5_1) rec1 s.1 s.2) AI (0,[])
def GH (p1:A6) (d:Nat) (p0:Af) (kont1_0:(Int→(List (List Ap))→Option (List Ap))) (rec1:((Int × (List (List Ap)))→Option (List Ap))) (v11_1:Int) (b5_1:(List (List Ap))):Option (List Ap) :=
 bif (decide (v11_1 < ((p1.Questions.length:Nat):Int))) then
  (idx p1.Questions v11_1).bind fun x13 =>
  (FB d p0 x13).bind fun x18 =>
  bif rm b5_1.length [x18].length then
   rec1 ((IntKind.i64.wrap (v11_1 + 1)),(b5_1++[x18]))
  else none
 else
  kont1_0 v11_1 b5_1
def Hh (d:Nat) (p0:Af) (p1:A6):Option (List Ap) :=
 iter (fun rec1 s=>GH p1 d p0 (fun v11_1 b5_1=>(Hw b5_1).bind fun x23=>some x23) rec1 s.1 s.2) AI (0,[])
def Gm (d:Nat) (p0:Af) (p1:A6) (p2:(List Ap)):Option Int :=
 (Eo d p0 p1).bind fun x11 =>
 bif (x11 != 0) then
  some x11
 else
  (IW p0 p2).bind fun x17 =>
  bif (x17 != 0) then
   some x17
  else
   (Hh d p0 p1).bind fun x23 =>
   (Hu x23 p2).bind fun x25 =>
   bif (!x25) then
    some 23
   else
    some 0
def Hv (p0:Int) (p1:Int):Option Bool :=
 some (bif (bif (bif (decide (p0 ≥ 0)) then (decide (p0 < 1152921504606846976)) else false) then (decide (p1 ≥ 0)) else false) then (decide (p1 < 1048576)) else false)
def EN (kont1_0:(Int→Int→Option Int)) (rec1:((Int × Int)→Option Int)) (v7_1:Int) (v18_1:Int):Option Int :=
 bif (decide (v18_1 < 3)) then
  rec1 ((IntKind.u64.wrap ((IntKind.u64.wrap (((BitVec.ofInt IntKind.u64.bits v7_1 ^^^ BitVec.ofInt IntKind.u64.bits (Int.fdiv v7_1 (2 ^ (min (31:Int).toNat IntKind.u64.bits)))).toNat:Nat):Int)) * 13787848793156543929)),(IntKind.i64.wrap (v18_1 + 1)))
 else
  kont1_0 v7_1 v18_1
def Dy (p0:Int) (p1:Int) (p2:Int):Option Int :=
 iter (fun rec1 s=>EN (fun v7_1 v18_1=>some (IntKind.i64.wrap (Int.fdiv v7_1 (2 ^ (min (54:Int).toNat IntKind.u64.bits))))) rec1 s.1 s.2) AI ((IntKind.u64.wrap ((IntKind.u64.wrap ((IntKind.u64.wrap p0) + (IntKind.u64.wrap ((IntKind.u64.wrap p1) * 11400714819323198485)))) + (IntKind.u64.wrap ((IntKind.u64.wrap p2) * 14029467366897019727)))),0)
def GI (p0:Int) (kont1_0:(Int→Int→Int→Option Int)) (rec1:((Int × Int × Int)→Option Int)) (v5_1:Int) (v6_1:Int) (v16_1:Int):Option Int :=
 bif (decide (v16_1 < 8)) then
  (Dy p0 v16_1 v6_1).bind fun x24 =>
  rec1 (v6_1,(IntKind.i64.wrap (((BitVec.ofInt IntKind.i64.bits v5_1 ^^^ BitVec.ofInt IntKind.i64.bits x24).toNat:Nat):Int)),(IntKind.i64.wrap (v16_1 + 1)))
 else
  kont1_0 v5_1 v6_1 v16_1
def E6 (p0:Int) (p1:Int):Option Int :=
 (Hv p0 p1).bind fun x10 =>
 bif (!x10) then
  some (-1)
 else
  iter (fun rec1 s=>GI p0 (fun v5_1 v6_1 v16_1=>some (IntKind.i64.wrap ((IntKind.i64.wrap (v5_1 * 1024)) + v6_1))) rec1 s.1 s.2.1 s.2.2) AI ((IntKind.i64.wrap (Int.tdiv p1 1024)),(Int.tmod p1 1024),0)
def CG (p0:(List Ap)):Option (List Ap):=bif rm 0 p0.length then some p0 else none
def NW (p0:G2):Option Int :=
 bif (bif (bif (bif (bif (bif (decide (p0.Of < 1)) then true else (decide (p0.Of > 1000))) then true else (decide (p0.Part < 1))) then true else (decide (p0.Part > p0.Of))) then true else (decide (p0.Seed < 0))) then true else (decide (p0.Seed > 1099511627776))) then
  some 2
 else
  some 0
def P9 (kont1_0:(Int→Int→Option Int)) (rec1:((Int × Int)→Option Int)) (v5_1:Int) (v14_1:Int):Option Int :=
 bif (decide (v14_1 < 3)) then
  rec1 ((IntKind.u64.wrap (((BitVec.ofInt IntKind.u64.bits (IntKind.u64.wrap ((IntKind.u64.wrap (v5_1 * 6364136223846793005)) + 1442695040888963407)) ^^^ BitVec.ofInt IntKind.u64.bits (Int.fdiv (IntKind.u64.wrap ((IntKind.u64.wrap (v5_1 * 6364136223846793005)) + 1442695040888963407)) (2 ^ (min (29:Int).toNat IntKind.u64.bits)))).toNat:Nat):Int)),(IntKind.i64.wrap (v14_1 + 1)))
 else
  kont1_0 v5_1 v14_1
def Mu (p0:Int) (p1:Int):Option Int :=
 iter (fun rec1 s=>P9 (fun v5_1 v14_1=>some (IntKind.i64.wrap (Int.fdiv v5_1 (2 ^ (min (32:Int).toNat IntKind.u64.bits))))) rec1 s.1 s.2) AI ((IntKind.u64.wrap ((IntKind.u64.wrap ((IntKind.u64.wrap ((IntKind.u64.wrap p0) * 2654435761)) + (IntKind.u64.wrap ((IntKind.u64.wrap p1) * 40503)))) + 97)),0)
def Nz (p0:G2) (p1:Int):Option Bool :=
 (NW p0).bind fun x6 =>
 bif (bif (bif (x6==0) then (decide (p1 ≥ 1)) else false) then (decide (p1≤1048575)) else false) then
  (Mu p0.Seed p1).bind fun x20 =>
  bif (decide (p0.Of≠0)) then
   some (decide ((Int.tmod x20 p0.Of) < p0.Part))
  else none
 else
  some false
def Jl (d:Nat) (self_condition_tell:(As→(As→Option Int)→Option Int)) (p0:As) (p1:(As→Option Int)):Option Int :=
 bif (p0.Op==1) then
  some 1
 else
  bif (p0.Op==5) then
   (idx p0.Kids 0).bind fun x13 =>
   (self_condition_tell x13 p1).bind fun x16 =>
   (idx p0.Kids 1).bind fun x19 =>
   (self_condition_tell x19 p1).bind fun x22 =>
   some (if x22 < x16 then x22 else x16)
  else
   bif (p0.Op==6) then
    (idx p0.Kids 0).bind fun x28 =>
    (self_condition_tell x28 p1).bind fun x31 =>
    (idx p0.Kids 1).bind fun x34 =>
    (self_condition_tell x34 p1).bind fun x37 =>
    some (if x37 > x31 then x37 else x31)
   else
    bif (p0.Op==7) then
     (idx p0.Kids 0).bind fun x43 =>
     (self_condition_tell x43 p1).bind fun x46 =>
     some (IntKind.i64.wrap (0 - x46))
    else
     (p1 p0).bind fun x50 =>
     some x50
def Is:Nat→As→(As→Option Int)→Option Int
 | 0,_,_=>none
 | d + 1,p0,p1=>Jl d (Is d) p0 p1
def HG (p0:As) (q0:Af) (q1:(List Int)):Option Int :=
 (idx q1 p0.Column).bind fun x10 =>
 (Io q0 p0 x10).bind fun x12 =>
 some x12
def Kn (d:Nat) (p0:Af) (p1:As) (p2:(List Int)):Option Int :=
 (Is d p1 (fun a0=>HG a0 p0 p2)).bind fun x9 =>
 some x9
def GA (p0:Aq) (p1:A6) (d:Nat) (kont1_0:(Int→(List (List Int))→Option (List (List Int)))) (rec1:((Int × (List (List Int)))→Option (List (List Int)))) (v11_1:Int) (b5_1:(List (List Int))):Option (List (List Int)) :=
 bif (decide (v11_1 < ((p0.Rows.length:Nat):Int))) then
  (idx p0.Rows v11_1).bind fun x13 =>
  (idx x13 0).bind fun x18 =>
  (Nz p1.Sample x18).bind fun x20 =>
  bif x20 then
   (Kn d p0.Schema p1.Cohort x13).bind fun x27 =>
   bif (x27==1) then
    bif rm b5_1.length [x13].length then
     rec1 ((IntKind.i64.wrap (v11_1 + 1)),(b5_1++[x13]))
    else none
   else
    rec1 ((IntKind.i64.wrap (v11_1 + 1)),b5_1)
  else
   rec1 ((IntKind.i64.wrap (v11_1 + 1)),b5_1)
 else
  kont1_0 v11_1 b5_1
def Hg (d:Nat) (p0:Aq) (p1:A6):Option (List (List Int)) :=
 iter (fun rec1 s=>GA p0 p1 d (fun v11_1 b5_1=>some b5_1) rec1 s.1 s.2) AI (0,[])
def Hn (p0:Af) (p1:Int) (p2:Int) (p3:Int):Option Int :=
 (E7 p0 p1).bind fun x13 =>
 bif (bif (decide (p2 < 0)) then true else (decide (p2 > x13))) then
  some (-1)
 else
  (idx p0.Columns p1).bind fun x24 =>
  bif (x24.Kind==2) then
   (Ic p0 x24 p3).bind fun x34 =>
   bif (!x34) then
    some (-1)
   else
    (idx p0.Lists x24.List_).bind fun x45 =>
    (Lh x45 p3 p2).bind fun x49 =>
    some x49
  else
   bif (bif (p3 != (-1099511627776)) then (bif (decide (p3 < (-1000000))) then true else (decide (p3 > 1000000))) else false) then
    some (-1)
   else
    bif (p2==0) then
     some 0
    else
     bif (p3==(-1099511627776)) then
      some (-1099511627776)
     else
      (GQ x24 p2).bind fun x70 =>
      (Gw p3 x70).bind fun x71 =>
      some x71
def Cf (p0:(List Int)) (p1:(List Int)):Option Int :=
 (idx p0 0).bind fun x6 =>
 (idx p1 0).bind fun x9 =>
 some (IntKind.i64.wrap (x6 - x9))
def G8 (p2:(List Ap)) (x47:(List Int)) (p0:Aq) (kont2_2:(Int→(List Int)→Option (A0 × Int))) (rec2:((Int × (List Int))→Option (A0 × Int))) (v57_2:Int) (b54_2:(List Int)):Option (A0 × Int) :=
 bif (decide (v57_2 < ((p2.length:Nat):Int))) then
  (idx p2 v57_2).bind fun x59 =>
  (idx x47 x59.Column).bind fun x71 =>
  (Hn p0.Schema x59.Column x59.Level x71).bind fun x73 =>
  bif rm b54_2.length [x73].length then
   rec2 ((IntKind.i64.wrap (v57_2 + 1)),(b54_2++[x73]))
  else none
 else
  kont2_2 v57_2 b54_2
def G9 (p1:A6) (p0:Aq) (x39:(List Ap)) (v45_1:Int) (b81_1:(List (List Int))):Option (A0 × Int) :=
 (C2 b81_1 Cf).bind fun x86 =>
 some (({ Project:=p1.Project,Version:=p0.Version,Picks:=x39,Rows:=x86 }:A0),0)
def G7 (x43:(List (List Int))) (p3:Int) (p2:(List Ap)) (p0:Aq) (kont1_0:(Int→(List (List Int))→Option (A0 × Int))) (rec1:((Int × (List (List Int)))→Option (A0 × Int))) (v45_1:Int) (b81_1:(List (List Int))):Option (A0 × Int) :=
 bif (decide (v45_1 < ((x43.length:Nat):Int))) then
  (idx x43 v45_1).bind fun x47 =>
  (idx x47 0).bind fun x51 =>
  (E6 p3 x51).bind fun x53 =>
  iter (fun rec2 s=>G8 p2 x47 p0 (fun v57_2 b54_2=>bif rm b81_1.length [b54_2].length then   rec1 ((IntKind.i64.wrap (v45_1 + 1)),(b81_1++[b54_2])) else none) rec2 s.1 s.2) AI (0,[x53])
 else
  kont1_0 v45_1 b81_1
def Dc (d:Nat) (p0:Aq) (p1:A6) (p2:(List Ap)) (p3:Int):Option (A0 × Int) :=
 (GV p0).bind fun x18 =>
 bif (!x18) then
  some (({ Project:=ByteArray.empty,Version:=0,Picks:=[],Rows:=[] }:A0),13)
 else
  (Gm d p0.Schema p1 p2).bind fun x25 =>
  bif (x25 != 0) then
   some (({ Project:=ByteArray.empty,Version:=0,Picks:=[],Rows:=[] }:A0),x25)
  else
   (E6 p3 0).bind fun x31 =>
   bif (decide (x31 < 0)) then
    some (({ Project:=ByteArray.empty,Version:=0,Picks:=[],Rows:=[] }:A0),2)
   else
    (CG p2).bind fun x39 =>
    (Hg d p0 p1).bind fun x43 =>
    iter (fun rec1 s=>G7 x43 p3 p2 p0 (G9 p1 p0 x39) rec1 s.1 s.2) AI (0,[])
def Fy (p0:(List (List Int))) (kont1_0:(Int→Option Bool)) (rec1:(Int→Option Bool)) (v7_1:Int):Option Bool :=
 bif (decide (v7_1 < ((p0.length:Nat):Int))) then
  (idx p0 v7_1).bind fun x10 =>
  bif (((x10.length:Nat):Int)==0) then
   some false
  else
   bif (decide (v7_1 > 0)) then
    (idx x10 0).bind fun x20 =>
    (idx p0 (IntKind.i64.wrap (v7_1 - 1))).bind fun x25 =>
    (idx x25 0).bind fun x27 =>
    bif (decide (x20≤x27)) then
     some false
    else
     rec1 (IntKind.i64.wrap (v7_1 + 1))
   else
    rec1 (IntKind.i64.wrap (v7_1 + 1))
 else
  kont1_0 v7_1
def Ej (p0:(List (List Int))):Option Bool :=
 iter (fun rec1 s=>Fy p0 (fun v7_1=>some true) rec1 s) AI 0
def BQ (p0:(List Ap)) (p1:(List Ap)) (kont1_0:(Int→Option Bool)) (rec1:(Int→Option Bool)) (v13_1:Int):Option Bool :=
 bif (decide (v13_1 < ((p0.length:Nat):Int))) then
  (idx p0 v13_1).bind fun x18 =>
  (idx p1 v13_1).bind fun x22 =>
  bif (!((x18.Column==x22.Column) && ((x18.Level==x22.Level) && true))) then
   some false
  else
   rec1 (IntKind.i64.wrap (v13_1 + 1))
 else
  kont1_0 v13_1
def BC (p0:(List Ap)) (p1:(List Ap)):Option Bool :=
 bif (((p0.length:Nat):Int) != ((p1.length:Nat):Int)) then
  some false
 else
  iter (fun rec1 s=>BQ p0 p1 (fun v13_1=>some true) rec1 s) AI 0
def Ei (p0:(List Int)) (p1:Int):Option Int :=
 (idx p0 0).bind fun x7 =>
 bif (decide (x7 < p1)) then
  some (-1)
 else
  (idx p0 0).bind fun x13 =>
  bif (decide (x13 > p1)) then
   some 1
  else
   some 0
def GO (p0:(List (List Int))) (p1:Int):Option (Int × Bool) :=
 (AO p0 p1 Ei).bind fun x8 =>
 some (x8.1,x8.2)
def Df (p0:(List Int)) (p1:(List Int)) (kont1_0:(Int→Option Bool)) (rec1:(Int→Option Bool)) (v13_1:Int):Option Bool :=
 bif (decide (v13_1 < ((p0.length:Nat):Int))) then
  (idx p0 v13_1).bind fun x18 =>
  (idx p1 v13_1).bind fun x22 =>
  bif (x18 != x22) then
   some false
  else
   rec1 (IntKind.i64.wrap (v13_1 + 1))
 else
  kont1_0 v13_1
def CP (p0:(List Int)) (p1:(List Int)):Option Bool :=
 bif (((p0.length:Nat):Int) != ((p1.length:Nat):Int)) then
  some false
 else
  iter (fun rec1 s=>Df p0 p1 (fun v13_1=>some true) rec1 s) AI 0
def H2 (p1:A0) (p0:A0) (kont2_3:(Int→(List (List Int))→Option (Bd × Int))) (rec2:((Int × (List (List Int)))→Option (Bd × Int))) (v75_2:Int) (b105_2:(List (List Int))):Option (Bd × Int) :=
 bif (decide (v75_2 < ((p1.Rows.length:Nat):Int))) then
  (idx p1.Rows v75_2).bind fun x77 =>
  (idx x77 0).bind fun x83 =>
  (GO p0.Rows x83).bind fun x85 =>
  bif (!x85.2) then
   (AY x77).bind fun x103 =>
   bif rm b105_2.length [x103].length then
    rec2 ((IntKind.i64.wrap (v75_2 + 1)),(b105_2++[x103]))
   else none
  else
   (idx p0.Rows x85.1).bind fun x94 =>
   (CP x94 x77).bind fun x97 =>
   bif (!x97) then
    (AY x77).bind fun x103 =>
    bif rm b105_2.length [x103].length then
     rec2 ((IntKind.i64.wrap (v75_2 + 1)),(b105_2++[x103]))
    else none
   else
    rec2 ((IntKind.i64.wrap (v75_2 + 1)),b105_2)
 else
  kont2_3 v75_2 b105_2
def H4 (p1:A0) (p0:A0) (k69_2:(List Int)):Option (Bd × Int) :=
 iter (fun rec2 s=>H2 p1 p0 (fun v75_2 b105_2=>some (({ Version:=p1.Version,Gone:=k69_2,Rows:=b105_2 }:Bd),0)) rec2 s.1 s.2) AI (0,[])
def H1 (p0:A0) (p1:A0) (kont1_1:(Int→(List Int)→Option (Bd × Int))) (rec1:((Int × (List Int))→Option (Bd × Int))) (v48_1:Int) (b69_1:(List Int)):Option (Bd × Int) :=
 bif (decide (v48_1 < ((p0.Rows.length:Nat):Int))) then
  (idx p0.Rows v48_1).bind fun x50 =>
  (idx x50 0).bind fun x56 =>
  (GO p1.Rows x56).bind fun x58 =>
  bif (!x58.2) then
   (idx x50 0).bind fun x66 =>
   bif rm b69_1.length [x66].length then
    rec1 ((IntKind.i64.wrap (v48_1 + 1)),(b69_1++[x66]))
   else none
  else
   rec1 ((IntKind.i64.wrap (v48_1 + 1)),b69_1)
 else
  kont1_1 v48_1 b69_1
def H3 (p0:A0) (p1:A0):Option (Bd × Int) :=
 iter (fun rec1 s=>H1 p0 p1 (fun v48_1 b69_1=>H4 p1 p0 b69_1) rec1 s.1 s.2) AI (0,[])
def GN (p0:A0) (p1:A0):Option (Bd × Int) :=
 (Ej p0.Rows).bind fun x18 =>
 bif (!x18) then
  some (({ Version:=0,Gone:=[],Rows:=[] }:Bd),11)
 else
  (Ej p1.Rows).bind fun x23 =>
  bif (!x23) then
   some (({ Version:=0,Gone:=[],Rows:=[] }:Bd),11)
  else
   bif (!(p0.Project.toList==p1.Project.toList)) then
    some (({ Version:=0,Gone:=[],Rows:=[] }:Bd),23)
   else
    (BC p0.Picks p1.Picks).bind fun x38 =>
    bif (!x38) then
     some (({ Version:=0,Gone:=[],Rows:=[] }:Bd),23)
    else
     H3 p0 p1
def DN (d:Nat) (p4:A6) (p5:(List Ap)) (p6:Int) (y:Aq) (c:A0):Option (Bd × Int) :=
 (Dc d y p4 p5 p6).bind fun v =>
 bif (v.2 != 0) then
  some (({ Version:=0,Gone:=[],Rows:=[] }:Bd),v.2)
 else
  GN c v.1
def CM (d:Nat) (p4:A6) (p5:(List Ap)) (p6:Int) (x y:Aq):Option (Bd × Int) :=
 (Dc d x p4 p5 p6).bind fun v =>
 bif (v.2 != 0) then
  some (({ Version:=0,Gone:=[],Rows:=[] }:Bd),v.2)
 else
  DN d p4 p5 p6 y v.1
def DL (d:Nat) (p0:Aq) (p1:(List B1)) (p3:Int) (p4:A6) (p5:(List Ap)) (p6:Int) (x:Aq):Option (Bd × Int) :=
 (KW p0 p1 p3).bind fun v =>
 bif (v.2 != 0) then
  some (({ Version:=0,Gone:=[],Rows:=[] }:Bd),v.2)
 else
  CM d p4 p5 p6 x v.1
def CQ (d:Nat) (p0:Aq) (p1:(List B1)) (p2:Int) (p3:Int) (p4:A6) (p5:(List Ap)) (p6:Int):Option (Bd × Int) :=
 (KW p0 p1 p2).bind fun v =>
 bif (v.2 != 0) then
  some (({ Version:=0,Gone:=[],Rows:=[] }:Bd),v.2)
 else
  DL d p0 p1 p3 p4 p5 p6 v.1
def FY (p0:(List B1)) (p1:Int) (p2:Int) (kont1_0:(Int→(List Int)→Option (List Int))) (rec1:((Int × (List Int))→Option (List Int))) (v28_1:Int) (b7_1:(List Int)):Option (List Int) :=
 bif (decide (v28_1 < (((HR p0 p1 p2).length:Nat):Int))) then
  (idx (HR p0 p1 p2) v28_1).bind fun x30 =>
  bif (x30.Kind==1) then
   bif (decide (((x30.Row.length:Nat):Int) > 0)) then
    (idx x30.Row 0).bind fun x44 =>
    bif rm b7_1.length [x44].length then
     rec1 ((IntKind.i64.wrap (v28_1 + 1)),(b7_1++[x44]))
    else none
   else
    rec1 ((IntKind.i64.wrap (v28_1 + 1)),b7_1)
  else
   bif (x30.Kind==2) then
    bif (decide (((x30.Row.length:Nat):Int) > 0)) then
     (idx x30.Row 0).bind fun x44 =>
     bif rm b7_1.length [x44].length then
      rec1 ((IntKind.i64.wrap (v28_1 + 1)),(b7_1++[x44]))
     else none
    else
     rec1 ((IntKind.i64.wrap (v28_1 + 1)),b7_1)
   else
    bif (x30.Kind==3) then
     bif rm b7_1.length [x30.Id].length then
      rec1 ((IntKind.i64.wrap (v28_1 + 1)),(b7_1++[x30.Id]))
     else none
    else
     bif (x30.Kind==4) then
      bif rm b7_1.length [x30.Id].length then
       rec1 ((IntKind.i64.wrap (v28_1 + 1)),(b7_1++[x30.Id]))
      else none
     else
      rec1 ((IntKind.i64.wrap (v28_1 + 1)),b7_1)
 else
  kont1_0 v28_1 b7_1
def G1 (p0:(List B1)) (p1:Int) (p2:Int):Option (List Int) :=
 bif (bif (bif (decide (p1 < 0)) then true else (decide (p1 > p2))) then true else (decide (p2 > ((p0.length:Nat):Int)))) then
  some []
 else
  bif (decide (0≤(p1:Int)∧p1≤p2∧p2≤((p0.length:Nat):Int))) then
   iter (fun rec1 s=>FY p0 p1 p2 (fun v28_1 b7_1=>(Ce b7_1).bind fun x58=>(BZ x58).bind fun x60=>some x60) rec1 s.1 s.2) AI (0,[])
  else none
def Kk (p0:(List Int)):Option (List Int) :=
 (Ce p0).bind fun x4 =>
 (BZ x4).bind fun x6 =>
 some x6
def Fx (x16:(List Int)) (p3:Int) (kont1_0:(Int→(List Int)→Option (List Int))) (rec1:((Int × (List Int))→Option (List Int))) (v18_1:Int) (b9_1:(List Int)):Option (List Int) :=
 bif (decide (v18_1 < ((x16.length:Nat):Int))) then
  (idx x16 v18_1).bind fun x20 =>
  (E6 p3 x20).bind fun x24 =>
  bif (decide (x24 ≥ 0)) then
   bif rm b9_1.length [x24].length then
    rec1 ((IntKind.i64.wrap (v18_1 + 1)),(b9_1++[x24]))
   else none
  else
   rec1 ((IntKind.i64.wrap (v18_1 + 1)),b9_1)
 else
  kont1_0 v18_1 b9_1
def H5 (p0:(List B1)) (p1:Int) (p2:Int) (p3:Int):Option (List Int) :=
 (G1 p0 p1 p2).bind fun x16 =>
 iter (fun rec1 s=>Fx x16 p3 (fun v18_1 b9_1=>(Kk b9_1).bind fun x33=>some x33) rec1 s.1 s.2) AI (0,[])
def Dq (p0:(List B1)) (p1:Int) (p2:Int) (p3:Int):Option ((List Int) × Int) :=
 bif (bif (bif (decide (p1 < 0)) then true else (decide (p1 > p2))) then true else (decide (p2 > ((p0.length:Nat):Int)))) then
  some ([],13)
 else
  bif (bif (decide (p3 < 0)) then true else (decide (p3 > 1152921504606846975))) then
   some ([],2)
  else
   (H5 p0 p1 p2 p3).bind fun x33 =>
   some (x33,0)
def Cu (p0:(List AL)) (p1:(AL→Option Bool)) (kont1_0:(Int→Option Int)) (rec1:(Int→Option Int)) (v8_1:Int):Option Int :=
 bif (decide (v8_1 < ((p0.length:Nat):Int))) then
  (idx p0 v8_1).bind fun x14 =>
  (p1 x14).bind fun x16 =>
  bif x16 then
   some v8_1
  else
   rec1 (IntKind.i64.wrap (v8_1 + 1))
 else
  kont1_0 v8_1
def BS (p0:(List AL)) (p1:(AL→Option Bool)):Option Int :=
 iter (fun rec1 s=>Cu p0 p1 (fun v8_1=>some (-1)) rec1 s) AI 0
def BI (p0:(List AL)) (p1:(AL→Option Bool)):Option Bool :=
 (BS p0 p1).bind fun x7 =>
 some (decide (x7 ≥ 0))
def Nn (p0:(List Int)) (kont1_0:(Int→Option Bool)) (rec1:(Int→Option Bool)) (v3_1:Int):Option Bool :=
 bif (decide (v3_1 < ((p0.length:Nat):Int))) then
  (idx p0 v3_1).bind fun x12 =>
  (idx p0 (IntKind.i64.wrap (v3_1 - 1))).bind fun x17 =>
  bif (decide (x12≤x17)) then
   some false
  else
   rec1 (IntKind.i64.wrap (v3_1 + 1))
 else
  kont1_0 v3_1
def M7 (p0:(List Int)):Option Bool :=
 iter (fun rec1 s=>Nn p0 (fun v3_1=>some true) rec1 s) AI 1
def FF (p0:(List Int)) (p1:(Int→Option Bool)) (kont1_0:(Int→Option Int)) (rec1:(Int→Option Int)) (v8_1:Int):Option Int :=
 bif (decide (v8_1 < ((p0.length:Nat):Int))) then
  (idx p0 v8_1).bind fun x14 =>
  (p1 x14).bind fun x16 =>
  bif x16 then
   some v8_1
  else
   rec1 (IntKind.i64.wrap (v8_1 + 1))
 else
  kont1_0 v8_1
def Ec (p0:(List Int)) (p1:(Int→Option Bool)):Option Int :=
 iter (fun rec1 s=>FF p0 p1 (fun v8_1=>some (-1)) rec1 s) AI 0
def Dp (p0:(List Int)) (p1:(Int→Option Bool)):Option Bool :=
 (Ec p0 p1).bind fun x7 =>
 some (decide (x7 ≥ 0))
def FQ (p0:Int):Option Bool :=
 some (bif (decide (p0 < 0)) then true else (decide (p0 > 1048575)))
def HK (p0:AL):Option Bool :=
 (M7 p0.Keys).bind fun x5 =>
 bif x5 then
  (Dp p0.Keys FQ).bind fun x9 =>
  some (!x9)
 else
  some false
def E5 (p0:AL):Option Bool :=
 (HK p0).bind fun x4 =>
 some (!x4)
def Ht (p0:(List Int)):Option (List Int) :=
 (AY p0).bind fun x5 =>
 (Ce x5).bind fun x7 =>
 (BZ x7).bind fun x9 =>
 some x9
def Lx (p0:(List Int)):Option (List Int) :=
 (Ht p0).bind fun x4 =>
 some x4
def Ky (p0:(List Int)) (p1:(List Int)) (kont1_0:(Int→Int→(List Int)→Option (List Int))) (rec1:((Int × Int × (List Int))→Option (List Int))) (v6_1:Int) (v7_1:Int) (b5_1:(List Int)):Option (List Int) :=
 bif (bif (decide (v6_1 < ((p0.length:Nat):Int))) then (decide (v7_1 < ((p1.length:Nat):Int))) else false) then
  (idx p0 v6_1).bind fun x32 =>
  (idx p1 v7_1).bind fun x36 =>
  bif (decide (x32 < x36)) then
   rec1 ((IntKind.i64.wrap (v6_1 + 1)),v7_1,b5_1)
  else
   (idx p0 v6_1).bind fun x44 =>
   (idx p1 v7_1).bind fun x48 =>
   bif (decide (x44 > x48)) then
    rec1 (v6_1,(IntKind.i64.wrap (v7_1 + 1)),b5_1)
   else
    (idx p0 v6_1).bind fun x21 =>
    bif rm b5_1.length [x21].length then
     rec1 ((IntKind.i64.wrap (v6_1 + 1)),(IntKind.i64.wrap (v7_1 + 1)),(b5_1++[x21]))
    else none
 else
  kont1_0 v6_1 v7_1 b5_1
def Jn (p0:(List Int)) (p1:(List Int)):Option (List Int) :=
 iter (fun rec1 s=>Ky p0 p1 (fun v6_1 v7_1 b5_1=>some b5_1) rec1 s.1 s.2.1 s.2.2) AI (0,0,[])
def Hf (p0:(List AL)) (x17:(List Int)) (kont1_0:(Int→(List AL)→Option ((List AL) × Int))) (rec1:((Int × (List AL))→Option ((List AL) × Int))) (v20_1:Int) (b7_1:(List AL)):Option ((List AL) × Int) :=
 bif (decide (v20_1 < ((p0.length:Nat):Int))) then
  (idx p0 v20_1).bind fun x22 =>
  (Jn x22.Keys x17).bind fun x27 =>
  bif (decide (((x27.length:Nat):Int) > 0)) then
   bif rm b7_1.length [({ Output:=x22.Output,Keys:=x27 }:AL)].length then
    rec1 ((IntKind.i64.wrap (v20_1 + 1)),(b7_1++[({ Output:=x22.Output,Keys:=x27 }:AL)]))
   else none
  else
   rec1 ((IntKind.i64.wrap (v20_1 + 1)),b7_1)
 else
  kont1_0 v20_1 b7_1
def CN (p0:(List AL)) (p1:(List Int)):Option ((List AL) × Int) :=
 bif (decide (((p0.length:Nat):Int) > 40)) then
  some ([],1)
 else
  (BI p0 E5).bind fun x15 =>
  bif x15 then
   some ([],11)
  else
   (Lx p1).bind fun x17 =>
   iter (fun rec1 s=>Hf p0 x17 (fun v20_1 b7_1=>some (b7_1,0)) rec1 s.1 s.2) AI (0,[])
def KF (p0:(List (List Int))) (p1:(List Int)) (kont1_0:(Bool→Int→(List (List Int))→Option (List (List Int)))) (rec1:((Bool × Int × (List (List Int)))→Option (List (List Int)))) (v6_1:Bool) (v7_1:Int) (b5_1:(List (List Int))):Option (List (List Int)) :=
 bif (decide (v7_1 < ((p0.length:Nat):Int))) then
  (idx p0 v7_1).bind fun x16 =>
  (idx x16 0).bind fun x18 =>
  (idx p1 0).bind fun x21 =>
  bif (x18==x21) then
   rec1 (v6_1,(IntKind.i64.wrap (v7_1 + 1)),b5_1)
  else
   (idx p0 v7_1).bind fun x26 =>
   (idx x26 0).bind fun x28 =>
   (idx p1 0).bind fun x31 =>
   bif (bif (decide (x28 > x31)) then (!v6_1) else false) then
    bif rm b5_1.length [p1].length then
     (idx p0 v7_1).bind fun x45 =>
     bif rm (b5_1++[p1]).length [x45].length then
      rec1 (true,(IntKind.i64.wrap (v7_1 + 1)),((b5_1++[p1])++[x45]))
     else none
    else none
   else
    (idx p0 v7_1).bind fun x45 =>
    bif rm b5_1.length [x45].length then
     rec1 (v6_1,(IntKind.i64.wrap (v7_1 + 1)),(b5_1++[x45]))
    else none
 else
  kont1_0 v6_1 v7_1 b5_1
def FK (p0:(List (List Int))) (p1:(List Int)):Option (List (List Int)) :=
 iter (fun rec1 s=>KF p0 p1 (fun v6_1 v7_1 b5_1=>bif (!v6_1) then   bif rm b5_1.length [p1].length then     some (b5_1++[p1])   else none else   some b5_1) rec1 s.1 s.2.1 s.2.2) AI (false,0,[])
def MC (p0:ByteArray):Option Bool :=
 bif (p0.toList==({ data:=#[97,108,108] }:ByteArray).toList) then
  some false
 else
  bif (p0.toList==({ data:=#[97,110,100] }:ByteArray).toList) then
   some false
  else
   bif (p0.toList==({ data:=#[101,118,101,110,116] }:ByteArray).toList) then
    some false
   else
    bif (p0.toList==({ data:=#[102,114,111,109] }:ByteArray).toList) then
     some false
    else
     bif (p0.toList==({ data:=#[109,105,115,115,105,110,103] }:ByteArray).toList) then
      some false
     else
      bif (p0.toList==({ data:=#[110,111,116] }:ByteArray).toList) then
       some false
      else
       bif (p0.toList==({ data:=#[111,110] }:ByteArray).toList) then
        some false
       else
        bif (p0.toList==({ data:=#[111,114] }:ByteArray).toList) then
         some false
        else
         bif (p0.toList==({ data:=#[116,111] }:ByteArray).toList) then
          some false
         else
          bif (p0.toList==({ data:=#[117,110,100,101,114] }:ByteArray).toList) then
           some false
          else
           bif (p0.toList==({ data:=#[119,104,101,114,101] }:ByteArray).toList) then
            some false
           else
            some true
def Q3 (p0:ByteArray) (kont1_0:(Int→Option Bool)) (rec1:(Int→Option Bool)) (v3_1:Int):Option Bool :=
 bif (decide (v3_1 < ((p0.size:Nat):Int))) then
  bif (decide (0≤(v3_1:Int)∧(v3_1:Int).toNat < p0.size)) then
   bif (decide ((EY p0 v3_1) ≥ 97)) then
    bif (decide (0≤(v3_1:Int)∧(v3_1:Int).toNat < p0.size)) then
     bif (decide ((EY p0 v3_1)≤122)) then
      rec1 (IntKind.i64.wrap (v3_1 + 1))
     else
      bif (decide (0≤(v3_1:Int)∧(v3_1:Int).toNat < p0.size)) then
       bif (decide ((EY p0 v3_1) ≥ 48)) then
        bif (decide (0≤(v3_1:Int)∧(v3_1:Int).toNat < p0.size)) then
         bif (decide ((EY p0 v3_1)≤57)) then
          rec1 (IntKind.i64.wrap (v3_1 + 1))
         else
          bif (decide (0≤(v3_1:Int)∧(v3_1:Int).toNat < p0.size)) then
           bif (!((EY p0 v3_1)==95)) then
            some false
           else
            rec1 (IntKind.i64.wrap (v3_1 + 1))
          else none
        else none
       else
        bif (decide (0≤(v3_1:Int)∧(v3_1:Int).toNat < p0.size)) then
         bif (!((EY p0 v3_1)==95)) then
          some false
         else
          rec1 (IntKind.i64.wrap (v3_1 + 1))
        else none
      else none
    else none
   else
    bif (decide (0≤(v3_1:Int)∧(v3_1:Int).toNat < p0.size)) then
     bif (decide ((EY p0 v3_1) ≥ 48)) then
      bif (decide (0≤(v3_1:Int)∧(v3_1:Int).toNat < p0.size)) then
       bif (decide ((EY p0 v3_1)≤57)) then
        rec1 (IntKind.i64.wrap (v3_1 + 1))
       else
        bif (decide (0≤(v3_1:Int)∧(v3_1:Int).toNat < p0.size)) then
         bif (!((EY p0 v3_1)==95)) then
          some false
         else
          rec1 (IntKind.i64.wrap (v3_1 + 1))
        else none
      else none
     else
      bif (decide (0≤(v3_1:Int)∧(v3_1:Int).toNat < p0.size)) then
       bif (!((EY p0 v3_1)==95)) then
        some false
       else
        rec1 (IntKind.i64.wrap (v3_1 + 1))
      else none
    else none
  else none
 else
  kont1_0 v3_1
def MB (p0:ByteArray):Option Bool :=
 iter (fun rec1 s=>Q3 p0 (fun v3_1=>MC p0) rec1 s) AI 0
def D8 (p0:ByteArray):Option Bool :=
 bif (bif (decide (((p0.size:Nat):Int) < 1)) then true else (decide (((p0.size:Nat):Int) > 16))) then
  some false
 else
  bif (decide (0≤(0:Int)∧(0:Int).toNat < p0.size)) then
   bif (decide ((EY p0 0) < 97)) then
    some false
   else
    bif (decide (0≤(0:Int)∧(0:Int).toNat < p0.size)) then
     bif (decide ((EY p0 0) > 122)) then
      some false
     else
      MB p0
    else none
  else none
def Pj (p0:Ax) (kont1_0:(Int→Int→Option Int)) (rec1:((Int × Int)→Option Int)) (v1_1:Int) (v5_1:Int):Option Int :=
 (idx p0.Codes v1_1).bind fun x9 =>
 bif (decide (x9.Parent ≥ 0)) then
  (idx p0.Codes v1_1).bind fun x16 =>
  rec1 (x16.Parent,(IntKind.i64.wrap (v5_1 + 1)))
 else
  kont1_0 v1_1 v5_1
def Dz (p0:Ax) (p1:Int):Option Int :=
 iter (fun rec1 s=>Pj p0 (fun v1_1 v5_1=>some v5_1) rec1 s.1 s.2) AI (p1,0)
def Q4 (p0:Ax) (p1:Int) (kont1_0:(Int→Option Bool)) (rec1:(Int→Option Bool)) (v5_1:Int):Option Bool :=
 bif (decide (v5_1 < ((p0.Codes.length:Nat):Int))) then
  (idx p0.Codes v5_1).bind fun x16 =>
  bif (x16.Parent==p1) then
   some false
  else
   rec1 (IntKind.i64.wrap (v5_1 + 1))
 else
  kont1_0 v5_1
def Rt (p0:Ax) (p1:Int):Option Bool :=
 iter (fun rec1 s=>Q4 p0 p1 (fun v5_1=>some true) rec1 s) AI 0
def Pg (p0:Ax) (kont3_4:(Int→Int→Option Int)) (rec3:((Int × Int)→Option Int)) (v6_3:Int) (v7_3:Int):Option Int :=
 bif (decide (v7_3 < ((p0.Codes.length:Nat):Int))) then
  (Rt p0 v7_3).bind fun x87 =>
  bif x87 then
   bif (decide (v6_3 ≥ 0)) then
    (Dz p0 v7_3).bind fun x93 =>
    bif (x93 != v6_3) then
     some 5
    else
     (Dz p0 v7_3).bind fun x99 =>
     rec3 (x99,(IntKind.i64.wrap (v7_3 + 1)))
   else
    (Dz p0 v7_3).bind fun x99 =>
    rec3 (x99,(IntKind.i64.wrap (v7_3 + 1)))
  else
   rec3 (v6_3,(IntKind.i64.wrap (v7_3 + 1)))
 else
  kont3_4 v6_3 v7_3
def LA (p0:Ax):Option Int :=
 iter (fun rec3 s=>Pg p0 (fun v6_3 v7_3=>some 0) rec3 s.1 s.2) AI ((-1),0)
def I2 (p0:Ax) (v3_1:Int) (rec1:(Int→Option Int)) (v4_2:Int):Option Int :=
 (idx p0.Codes v3_1).bind fun x56 =>
 bif (bif (bif (v3_1==0) then (x56.Parent != (-1)) else false) then true else (bif (decide (v3_1 > 0)) then (bif (decide (x56.Parent < 0)) then true else (decide (x56.Parent ≥ v3_1))) else false)) then
  some 6
 else
  rec1 (IntKind.i64.wrap (v3_1 + 1))
def Pf (v3_1:Int) (p0:Ax) (kont2_2:(Int→Option Int)) (rec2:(Int→Option Int)) (v4_2:Int):Option Int :=
 bif (decide (v4_2 < v3_1)) then
  (idx p0.Codes v4_2).bind fun x43 =>
  (idx p0.Codes v3_1).bind fun x49 =>
  bif (x43.Name.toList==x49.Name.toList) then
   some 10
  else
   rec2 (IntKind.i64.wrap (v4_2 + 1))
 else
  kont2_2 v4_2
def Pe (p0:Ax) (kont1_0:(Int→Option Int)) (rec1:(Int→Option Int)) (v3_1:Int):Option Int :=
 bif (decide (v3_1 < ((p0.Codes.length:Nat):Int))) then
  (idx p0.Codes v3_1).bind fun x30 =>
  (D8 x30.Name).bind fun x33 =>
  bif (!x33) then
   some 3
  else
   iter (fun rec2 s=>Pf v3_1 p0 (I2 p0 v3_1 rec1) rec2 s) AI 0
 else
  kont1_0 v3_1
def Ez (p0:Ax):Option Int :=
 (D8 p0.Name).bind fun x10 =>
 bif (!x10) then
  some 3
 else
  bif (((p0.Codes.length:Nat):Int)==0) then
   some 5
  else
   bif (decide (((p0.Codes.length:Nat):Int) > 60)) then
    some 1
   else
    iter (fun rec1 s=>Pe p0 (fun v3_1=>LA p0) rec1 s) AI 0
def E0 (p0:Ax):Option Int :=
 (Ez p0).bind fun x4 =>
 bif (x4 != 0) then
  some (-1)
 else
  (Dz p0 (IntKind.i64.wrap (((p0.Codes.length:Nat):Int) - 1))).bind fun x11 =>
  some (IntKind.i64.wrap (x11 + 1))
def TO (p0:Ax) (p1:Int) (kont1_0:(Int→(List Int)→Option (List Int))) (rec1:((Int × (List Int))→Option (List Int))) (v6_1:Int) (b5_1:(List Int)):Option (List Int) :=
 bif (decide (v6_1 < ((p0.Codes.length:Nat):Int))) then
  (Dz p0 v6_1).bind fun x19 =>
  bif (x19==p1) then
   bif rm b5_1.length [v6_1].length then
    rec1 ((IntKind.i64.wrap (v6_1 + 1)),(b5_1++[v6_1]))
   else none
  else
   rec1 ((IntKind.i64.wrap (v6_1 + 1)),b5_1)
 else
  kont1_0 v6_1 b5_1
def Np (p0:Ax) (p1:Int):Option (List Int) :=
 (Ez p0).bind fun x8 =>
 bif (x8 != 0) then
  some []
 else
  iter (fun rec1 s=>TO p0 p1 (fun v6_1 b5_1=>some b5_1) rec1 s.1 s.2) AI (0,[])
def Fw (p0:Af) (p1:Int):Option (List Int) :=
 (idx p0.Columns p1).bind fun x11 =>
 (idx p0.Lists x11.List_).bind fun x14 =>
 (E0 x14).bind fun x18 =>
 (Np x14 (IntKind.i64.wrap (x18 - 1))).bind fun x20 =>
 some x20
def Hl (p0:Aq) (p1:Int) (kont1_0:(Int→Option Int)) (rec1:(Int→Option Int)) (v5_1:Int):Option Int :=
 bif (decide (v5_1 < ((p0.Rows.length:Nat):Int))) then
  (idx p0.Rows v5_1).bind fun x16 =>
  bif (decide (((x16.length:Nat):Int) > 0)) then
   (idx p0.Rows v5_1).bind fun x24 =>
   (idx x24 0).bind fun x26 =>
   bif (x26==p1) then
    some v5_1
   else
    rec1 (IntKind.i64.wrap (v5_1 + 1))
  else
   rec1 (IntKind.i64.wrap (v5_1 + 1))
 else
  kont1_0 v5_1
def Cr (p0:Aq) (p1:Int):Option Int :=
 iter (fun rec1 s=>Hl p0 p1 (fun v5_1=>some (-1)) rec1 s) AI 0
def DF (p0:Int) (p1:Int) (p2:Int):Option Bool :=
 some (bif (decide (p1≤p0)) then (decide (p0≤p2)) else false)
def Nt (p0:A3) (kont1_0:(Int→Option Int)) (rec1:(Int→Option Int)) (v3_1:Int):Option Int :=
 bif (decide (v3_1 < ((p0.Widths.length:Nat):Int))) then
  (idx p0.Widths v3_1).bind fun x42 =>
  bif (bif (v3_1==0) then (x42 != 1) else false) then
   some 2
  else
   bif (decide (v3_1 > 0)) then
    (idx p0.Widths (IntKind.i64.wrap (v3_1 - 1))).bind fun x59 =>
    bif (bif (decide (x42≤x59)) then true else (decide (x42 > 1000000))) then
     some 2
    else
     (idx p0.Widths (IntKind.i64.wrap (v3_1 - 1))).bind fun x72 =>
     bif (decide (x72≠0)) then
      bif ((Int.tmod x42 x72) != 0) then
       some 2
      else
       rec1 (IntKind.i64.wrap (v3_1 + 1))
     else none
   else
    rec1 (IntKind.i64.wrap (v3_1 + 1))
 else
  kont1_0 v3_1
def GK (p0:A3):Option Int :=
 bif (bif (decide (((p0.Widths.length:Nat):Int) < 1)) then true else (decide (((p0.Widths.length:Nat):Int) > 4))) then
  some 1
 else
  iter (fun rec1 s=>Nt p0 (fun v3_1=>some 0) rec1 s) AI 0
def Hk (p0:A3):Option Int :=
 (DF p0.Low (-1000000) 1000000).bind fun x7 =>
 bif (!x7) then
  some 2
 else
  (DF p0.High (-1000000) 1000000).bind fun x12 =>
  bif (bif (!x12) then true else (decide (p0.Low > p0.High))) then
   some 2
  else
   GK p0
def Eh (x11:A3):Option Int :=
 bif (x11.Kind==3) then
  (Hk x11).bind fun x61 =>
  bif (x61 != 0) then
   some x61
  else
   bif (bif (bif (x11.Kind != 2) then (x11.List_ != 0) else false) then true else (bif (x11.Kind != 3) then (bif (bif (bif (x11.Low != 0) then true else (x11.High != 0)) then true else (decide (((x11.Widths.length:Nat):Int) > 0))) then true else x11.Optional) else false)) then
    some 11
   else
    some 0
 else
  bif (bif (bif (x11.Kind != 2) then (x11.List_ != 0) else false) then true else (bif (x11.Kind != 3) then (bif (bif (bif (x11.Low != 0) then true else (x11.High != 0)) then true else (decide (((x11.Widths.length:Nat):Int) > 0))) then true else x11.Optional) else false)) then
   some 11
  else
   some 0
def Hy (x11:A3) (p1:Int) (p0:Af):Option Int :=
 (DF x11.Kind 1 3).bind fun x33 =>
 bif (bif (!x33) then true else (bif (decide (p1 > 0)) then (x11.Kind==1) else false)) then
  some 4
 else
  bif (x11.Kind==2) then
   (DF x11.List_ 0 (IntKind.i64.wrap (((p0.Lists.length:Nat):Int) - 1))).bind fun x54 =>
   bif (!x54) then
    some 5
   else
    Eh x11
  else
   Eh x11
def Hx (p1:Int) (p0:Af) (x11:A3) (kont1_0:(Int→Option Int)) (rec1:(Int→Option Int)) (v6_1:Int):Option Int :=
 bif (decide (v6_1 < p1)) then
  (idx p0.Columns v6_1).bind fun x25 =>
  bif (x25.Name.toList==x11.Name.toList) then
   some 10
  else
   rec1 (IntKind.i64.wrap (v6_1 + 1))
 else
  kont1_0 v6_1
def I8 (p0:Af) (p1:Int):Option Int :=
 (idx p0.Columns p1).bind fun x11 =>
 (D8 x11.Name).bind fun x15 =>
 bif (!x15) then
  some 3
 else
  iter (fun rec1 s=>Hx p1 p0 x11 (fun v6_1=>Hy x11 p1 p0) rec1 s) AI 0
def I5 (p0:Af) (kont3_4:(Int→Option Int)) (rec3:(Int→Option Int)) (v6_3:Int):Option Int :=
 bif (decide (v6_3 < ((p0.Columns.length:Nat):Int))) then
  (I8 p0 v6_3).bind fun x73 =>
  bif (x73 != 0) then
   some x73
  else
   rec3 (IntKind.i64.wrap (v6_3 + 1))
 else
  kont3_4 v6_3
def I6 (p0:Af):Option Int :=
 bif (((p0.Columns.length:Nat):Int)==0) then
  some 7
 else
  (idx p0.Columns 0).bind fun x59 =>
  bif (x59.Kind != 1) then
   some 7
  else
   iter (fun rec3 s=>I5 p0 (fun v6_3=>some 0) rec3 s) AI 0
def I4 (v3_1:Int) (p0:Af) (kont2_2:(Int→Option Int)) (rec2:(Int→Option Int)) (v5_2:Int):Option Int :=
 bif (decide (v5_2 < v3_1)) then
  (idx p0.Lists v5_2).bind fun x42 =>
  (idx p0.Lists v3_1).bind fun x48 =>
  bif (x42.Name.toList==x48.Name.toList) then
   some 10
  else
   rec2 (IntKind.i64.wrap (v5_2 + 1))
 else
  kont2_2 v5_2
def I3 (p0:Af) (kont1_0:(Int→Option Int)) (rec1:(Int→Option Int)) (v3_1:Int):Option Int :=
 bif (decide (v3_1 < ((p0.Lists.length:Nat):Int))) then
  (idx p0.Lists v3_1).bind fun x28 =>
  (Ez x28).bind fun x30 =>
  bif (x30 != 0) then
   some x30
  else
   iter (fun rec2 s=>I4 v3_1 p0 (fun v5_2=>rec1 (IntKind.i64.wrap (v3_1 + 1))) rec2 s) AI 0
 else
  kont1_0 v3_1
def C8 (p0:Af):Option Int :=
 bif (bif (decide (((p0.Lists.length:Nat):Int) > 6)) then true else (decide (((p0.Columns.length:Nat):Int) > 8))) then
  some 1
 else
  iter (fun rec1 s=>I3 p0 (fun v3_1=>I6 p0) rec1 s) AI 0
def Gp (p0:Ax) (p1:Int):Option Int :=
 (Ez p0).bind fun x6 =>
 bif (bif (bif (x6 != 0) then true else (decide (p1 < 0))) then true else (decide (p1 ≥ ((p0.Codes.length:Nat):Int)))) then
  some (-1)
 else
  (Dz p0 p1).bind fun x21 =>
  some x21
def HV (p0:Af) (p1:Int) (p2:Int):Option Bool :=
 (idx p0.Columns p1).bind fun x12 =>
 bif (x12.Kind==1) then
  (DF p2 1 1048575).bind fun x19 =>
  some x19
 else
  bif (x12.Kind==2) then
   (idx p0.Lists x12.List_).bind fun x26 =>
   (DF p2 0 (IntKind.i64.wrap (((x26.Codes.length:Nat):Int) - 1))).bind fun x33 =>
   bif x33 then
    (Gp x26 p2).bind fun x37 =>
    (E0 x26).bind fun x39 =>
    some (x37==(IntKind.i64.wrap (x39 - 1)))
   else
    some false
  else
   bif (bif x12.Optional then (p2==(-1099511627776)) else false) then
    some true
   else
    (DF p2 x12.Low x12.High).bind fun x55 =>
    some x55
def KE (p1:(List Int)) (p0:Af) (kont1_0:(Int→Option Int)) (rec1:(Int→Option Int)) (v6_1:Int):Option Int :=
 bif (decide (v6_1 < ((p1.length:Nat):Int))) then
  (idx p1 v6_1).bind fun x28 =>
  (HV p0 v6_1 x28).bind fun x30 =>
  bif (!x30) then
   some 9
  else
   rec1 (IntKind.i64.wrap (v6_1 + 1))
 else
  kont1_0 v6_1
def FJ (p0:Af) (p1:(List Int)):Option Int :=
 (C8 p0).bind fun x8 =>
 bif (x8 != 0) then
  some x8
 else
  bif (((p1.length:Nat):Int) != ((p0.Columns.length:Nat):Int)) then
   some 9
  else
   iter (fun rec1 s=>KE p1 p0 (fun v6_1=>some 0) rec1 s) AI 0
def IA (p0:Aq) (kont2_2:(Int→Option Bool)) (rec2:(Int→Option Bool)) (v4_2:Int):Option Bool :=
 bif (decide (v4_2 < ((p0.Gone.length:Nat):Int))) then
  (idx p0.Gone v4_2).bind fun x79 =>
  bif (decide (x79 < 1)) then
   some false
  else
   (idx p0.Gone v4_2).bind fun x86 =>
   bif (decide (x86 > 1048575)) then
    some false
   else
    bif (decide (v4_2 > 0)) then
     (idx p0.Gone v4_2).bind fun x97 =>
     (idx p0.Gone (IntKind.i64.wrap (v4_2 - 1))).bind fun x103 =>
     bif (decide (x97≤x103)) then
      some false
     else
      (idx p0.Gone v4_2).bind fun x113 =>
      (Cr p0 x113).bind fun x115 =>
      bif (decide (x115 ≥ 0)) then
       some false
      else
       rec2 (IntKind.i64.wrap (v4_2 + 1))
    else
     (idx p0.Gone v4_2).bind fun x113 =>
     (Cr p0 x113).bind fun x115 =>
     bif (decide (x115 ≥ 0)) then
      some false
     else
      rec2 (IntKind.i64.wrap (v4_2 + 1))
 else
  kont2_2 v4_2
def IB (p0:Aq):Option Bool :=
 iter (fun rec2 s=>IA p0 (fun v4_2=>some true) rec2 s) AI 0
def I9 (p0:Aq) (kont1_0:(Int→Option Bool)) (rec1:(Int→Option Bool)) (v3_1:Int):Option Bool :=
 bif (decide (v3_1 < ((p0.Rows.length:Nat):Int))) then
  (idx p0.Rows v3_1).bind fun x43 =>
  (FJ p0.Schema x43).bind fun x45 =>
  bif (x45 != 0) then
   some false
  else
   bif (decide (v3_1 > 0)) then
    (idx p0.Rows v3_1).bind fun x54 =>
    (idx x54 0).bind fun x56 =>
    (idx p0.Rows (IntKind.i64.wrap (v3_1 - 1))).bind fun x62 =>
    (idx x62 0).bind fun x64 =>
    bif (decide (x56≤x64)) then
     some false
    else
     rec1 (IntKind.i64.wrap (v3_1 + 1))
   else
    rec1 (IntKind.i64.wrap (v3_1 + 1))
 else
  kont1_0 v3_1
def Gr (p0:Aq):Option Bool :=
 (C8 p0.Schema).bind fun x7 =>
 bif (bif (bif (bif (bif (x7 != 0) then true else (decide (((p0.Rows.length:Nat):Int) > 200))) then true else (decide (((p0.Gone.length:Nat):Int) > 300))) then true else (decide (p0.Version < 0))) then true else (decide (p0.Version > 300))) then
  some false
 else
  iter (fun rec1 s=>I9 p0 (fun v3_1=>IB p0) rec1 s) AI 0
def KC (p0:(List Int)) (p1:Int) (kont1_0:(Int→Option Bool)) (rec1:(Int→Option Bool)) (v5_1:Int):Option Bool :=
 bif (decide (v5_1 < ((p0.length:Nat):Int))) then
  (idx p0 v5_1).bind fun x14 =>
  bif (x14==p1) then
   some true
  else
   rec1 (IntKind.i64.wrap (v5_1 + 1))
 else
  kont1_0 v5_1
def Eg (p0:(List Int)) (p1:Int):Option Bool :=
 iter (fun rec1 s=>KC p0 p1 (fun v5_1=>some false) rec1 s) AI 0
def KD (p0:(List Int)) (p1:Int) (kont1_0:(Bool→Int→(List Int)→Option (List Int))) (rec1:((Bool × Int × (List Int))→Option (List Int))) (v6_1:Bool) (v7_1:Int) (b5_1:(List Int)):Option (List Int) :=
 bif (decide (v7_1 < ((p0.length:Nat):Int))) then
  (idx p0 v7_1).bind fun x20 =>
  bif (bif (decide (x20 > p1)) then (!v6_1) else false) then
   bif rm b5_1.length [p1].length then
    (idx p0 v7_1).bind fun x35 =>
    bif rm (b5_1++[p1]).length [x35].length then
     rec1 (true,(IntKind.i64.wrap (v7_1 + 1)),((b5_1++[p1])++[x35]))
    else none
   else none
  else
   (idx p0 v7_1).bind fun x35 =>
   bif rm b5_1.length [x35].length then
    rec1 (v6_1,(IntKind.i64.wrap (v7_1 + 1)),(b5_1++[x35]))
   else none
 else
  kont1_0 v6_1 v7_1 b5_1
def Jt (p0:(List Int)) (p1:Int):Option (List Int) :=
 (Eg p0 p1).bind fun x10 =>
 bif x10 then
  some p0
 else
  iter (fun rec1 s=>KD p0 p1 (fun v6_1 v7_1 b5_1=>bif (!v6_1) then   bif rm b5_1.length [p1].length then     some (b5_1++[p1])   else none else   some b5_1) rec1 s.1 s.2.1 s.2.2) AI (false,0,[])
def JB (p0:(List (List Int))) (p1:Int) (kont1_0:(Int→(List (List Int))→Option (List (List Int)))) (rec1:((Int × (List (List Int)))→Option (List (List Int)))) (v6_1:Int) (b5_1:(List (List Int))):Option (List (List Int)) :=
 bif (decide (v6_1 < ((p0.length:Nat):Int))) then
  (idx p0 v6_1).bind fun x15 =>
  (idx x15 0).bind fun x17 =>
  bif (x17 != p1) then
   (idx p0 v6_1).bind fun x24 =>
   bif rm b5_1.length [x24].length then
    rec1 ((IntKind.i64.wrap (v6_1 + 1)),(b5_1++[x24]))
   else none
  else
   rec1 ((IntKind.i64.wrap (v6_1 + 1)),b5_1)
 else
  kont1_0 v6_1 b5_1
def Jv (p0:(List (List Int))) (p1:Int):Option (List (List Int)) :=
 iter (fun rec1 s=>JB p0 p1 (fun v6_1 b5_1=>some b5_1) rec1 s.1 s.2) AI (0,[])
def EW (p0:Aq) (p1:B1):Option (Aq × Int) :=
 (Gr p0).bind fun x10 =>
 bif (bif (!x10) then true else (p0.Version==300)) then
  some (({ Schema:=({ Lists:=[],Columns:=[] }:Af),Rows:=[],Gone:=[],Version:=0 }:Aq),13)
 else
  bif (p1.Kind==1) then
   (FJ p0.Schema p1.Row).bind fun x38 =>
   bif (x38 != 0) then
    some (({ Schema:=({ Lists:=[],Columns:=[] }:Af),Rows:=[],Gone:=[],Version:=0 }:Aq),x38)
   else
    (idx p1.Row 0).bind fun x47 =>
    (Eg p0.Gone x47).bind fun x49 =>
    bif x49 then
     some (({ Schema:=({ Lists:=[],Columns:=[] }:Af),Rows:=[],Gone:=[],Version:=0 }:Aq),20)
    else
     (idx p1.Row 0).bind fun x54 =>
     (Cr p0 x54).bind fun x56 =>
     bif (bif (p1.Kind==1) then (decide (x56 ≥ 0)) else false) then
      some (({ Schema:=({ Lists:=[],Columns:=[] }:Af),Rows:=[],Gone:=[],Version:=0 }:Aq),10)
     else
      bif (bif (p1.Kind==1) then (((p0.Rows.length:Nat):Int)==200) else false) then
       some (({ Schema:=({ Lists:=[],Columns:=[] }:Af),Rows:=[],Gone:=[],Version:=0 }:Aq),1)
      else
       bif (bif (p1.Kind==2) then (!(decide (x56 ≥ 0))) else false) then
        some (({ Schema:=({ Lists:=[],Columns:=[] }:Af),Rows:=[],Gone:=[],Version:=0 }:Aq),19)
       else
        bif rm 0 p1.Row.length then
         (FK p0.Rows p1.Row).bind fun x88 =>
         some (({ Schema:=p0.Schema,Rows:=x88,Gone:=p0.Gone,Version:=(IntKind.i64.wrap (p0.Version + 1)) }:Aq),0)
        else none
  else
   bif (p1.Kind==2) then
    (FJ p0.Schema p1.Row).bind fun x38 =>
    bif (x38 != 0) then
     some (({ Schema:=({ Lists:=[],Columns:=[] }:Af),Rows:=[],Gone:=[],Version:=0 }:Aq),x38)
    else
     (idx p1.Row 0).bind fun x47 =>
     (Eg p0.Gone x47).bind fun x49 =>
     bif x49 then
      some (({ Schema:=({ Lists:=[],Columns:=[] }:Af),Rows:=[],Gone:=[],Version:=0 }:Aq),20)
     else
      (idx p1.Row 0).bind fun x54 =>
      (Cr p0 x54).bind fun x56 =>
      bif (bif (p1.Kind==1) then (decide (x56 ≥ 0)) else false) then
       some (({ Schema:=({ Lists:=[],Columns:=[] }:Af),Rows:=[],Gone:=[],Version:=0 }:Aq),10)
      else
       bif (bif (p1.Kind==1) then (((p0.Rows.length:Nat):Int)==200) else false) then
        some (({ Schema:=({ Lists:=[],Columns:=[] }:Af),Rows:=[],Gone:=[],Version:=0 }:Aq),1)
       else
        bif (bif (p1.Kind==2) then (!(decide (x56 ≥ 0))) else false) then
         some (({ Schema:=({ Lists:=[],Columns:=[] }:Af),Rows:=[],Gone:=[],Version:=0 }:Aq),19)
        else
         bif rm 0 p1.Row.length then
          (FK p0.Rows p1.Row).bind fun x88 =>
          some (({ Schema:=p0.Schema,Rows:=x88,Gone:=p0.Gone,Version:=(IntKind.i64.wrap (p0.Version + 1)) }:Aq),0)
         else none
   else
    bif (p1.Kind==3) then
     (Cr p0 p1.Id).bind fun x95 =>
     bif (decide (x95 < 0)) then
      some (({ Schema:=({ Lists:=[],Columns:=[] }:Af),Rows:=[],Gone:=[],Version:=0 }:Aq),19)
     else
      (Jv p0.Rows p1.Id).bind fun x102 =>
      some (({ Schema:=p0.Schema,Rows:=x102,Gone:=p0.Gone,Version:=(IntKind.i64.wrap (p0.Version + 1)) }:Aq),0)
    else
     bif (p1.Kind==4) then
      bif (bif (decide (p1.Id < 1)) then true else (decide (p1.Id > 1048575))) then
       some (({ Schema:=({ Lists:=[],Columns:=[] }:Af),Rows:=[],Gone:=[],Version:=0 }:Aq),2)
      else
       (Eg p0.Gone p1.Id).bind fun x119 =>
       bif x119 then
        some (({ Schema:=({ Lists:=[],Columns:=[] }:Af),Rows:=[],Gone:=[],Version:=0 }:Aq),20)
       else
        (Jv p0.Rows p1.Id).bind fun x125 =>
        (Jt p0.Gone p1.Id).bind fun x131 =>
        some (({ Schema:=p0.Schema,Rows:=x125,Gone:=x131,Version:=(IntKind.i64.wrap (p0.Version + 1)) }:Aq),0)
     else
      some (({ Schema:=({ Lists:=[],Columns:=[] }:Af),Rows:=[],Gone:=[],Version:=0 }:Aq),4)
def Cg (p0:Af) (p1:Int):Option Int :=
 (C8 p0).bind fun x7 =>
 bif (bif (bif (x7 != 0) then true else (decide (p1 < 1))) then true else (decide (p1 ≥ ((p0.Columns.length:Nat):Int)))) then
  some (-1)
 else
  (idx p0.Columns p1).bind fun x23 =>
  bif (x23.Kind==2) then
   (idx p0.Lists x23.List_).bind fun x32 =>
   (E0 x32).bind fun x34 =>
   some (IntKind.i64.wrap (x34 - 1))
  else
   some ((x23.Widths.length:Nat):Int)
def Mj (p2:Int) (p1:(List B1)) (kont1_0:(Int→Aq→Option (Aq × Int))) (rec1:((Int × Aq)→Option (Aq × Int))) (v8_1:Int) (w3_1:Aq):Option (Aq × Int) :=
 bif (decide (v8_1 < p2)) then
  (idx p1 v8_1).bind fun x29 =>
  (EW w3_1 x29).bind fun x31 =>
  bif (x31.2 != 0) then
   some (({ Schema:=({ Lists:=[],Columns:=[] }:Af),Rows:=[],Gone:=[],Version:=0 }:Aq),x31.2)
  else
   rec1 ((IntKind.i64.wrap (v8_1 + 1)),x31.1)
 else
  kont1_0 v8_1 w3_1
def Nu (p0:Aq) (p1:(List B1)) (p2:Int):Option (Aq × Int) :=
 bif (bif (decide (p2 < 0)) then true else (decide (p2 > ((p1.length:Nat):Int)))) then
  some (({ Schema:=({ Lists:=[],Columns:=[] }:Af),Rows:=[],Gone:=[],Version:=0 }:Aq),13)
 else
  iter (fun rec1 s=>Mj p2 p1 (fun v8_1 w3_1=>some (w3_1,0)) rec1 s.1 s.2) AI (0,p0)
def Pq (p0:As) (p1:Int) (self_ref05_count:(As→Int→Option Int)) (kont1_0:(Int→Int→Option Int)) (rec1:((Int × Int)→Option Int)) (v5_1:Int) (v6_1:Int):Option Int :=
 bif (bif (decide (v6_1 < ((p0.Kids.length:Nat):Int))) then (decide (v5_1 < p1)) else false) then
  (idx p0.Kids v6_1).bind fun x23 =>
  (self_ref05_count x23 (IntKind.i64.wrap (p1 - v5_1))).bind fun x28 =>
  rec1 ((IntKind.i64.wrap (v5_1 + x28)),(IntKind.i64.wrap (v6_1 + 1)))
 else
  kont1_0 v5_1 v6_1
def MG (d:Nat) (self_ref05_count:(As→Int→Option Int)) (p0:As) (p1:Int):Option Int :=
 iter (fun rec1 s=>Pq p0 p1 self_ref05_count (fun v5_1 v6_1=>some v5_1) rec1 s.1 s.2) AI (1,0)
def Ml:Nat→As→Int→Option Int
 | 0,_,_=>none
 | d + 1,p0,p1=>MG d (Ml d) p0 p1
def Ps (p0:As) (self_ref05_depth:(As→Option Int)) (kont1_0:(Int→Int→Option Int)) (rec1:((Int × Int)→Option Int)) (v3_1:Int) (v4_1:Int):Option Int :=
 bif (decide (v4_1 < ((p0.Kids.length:Nat):Int))) then
  (idx p0.Kids v4_1).bind fun x16 =>
  (self_ref05_depth x16).bind fun x18 =>
  rec1 ((if x18 > v3_1 then x18 else v3_1),(IntKind.i64.wrap (v4_1 + 1)))
 else
  kont1_0 v3_1 v4_1
def MI (d:Nat) (self_ref05_depth:(As→Option Int)) (p0:As):Option Int :=
 iter (fun rec1 s=>Ps p0 self_ref05_depth (fun v3_1 v4_1=>some (IntKind.i64.wrap (v3_1 + 1))) rec1 s.1 s.2) AI (0,0)
def Mm:Nat→As→Option Int
 | 0,_=>none
 | d + 1,p0=>MI d (Mm d) p0
def Pu (p0:Af) (p1:Int) (p2:Int):Option Bool :=
 bif (bif (decide (p1 ≥ 0)) then (decide (p1 < ((p0.Columns.length:Nat):Int))) else false) then
  (idx p0.Columns p1).bind fun x20 =>
  some (x20.Kind==p2)
 else
  some false
def QE (p1:As) (self_ref05_node:(Af→As→Option Int)) (p0:Af) (kont1_1:(Int→Option Int)) (rec1:(Int→Option Int)) (v7_1:Int):Option Int :=
 bif (decide (v7_1 < ((p1.Kids.length:Nat):Int))) then
  (idx p1.Kids v7_1).bind fun x179 =>
  (self_ref05_node p0 x179).bind fun x181 =>
  bif (x181 != 0) then
   some x181
  else
   rec1 (IntKind.i64.wrap (v7_1 + 1))
 else
  kont1_1 v7_1
def JD (p1:As) (self_ref05_node:(Af→As→Option Int)) (p0:Af):Option Int :=
 bif (bif (p1.Op==3) then (bif (bif (decide (p1.Low < (-1000000))) then true else (decide (p1.High > 1000000))) then true else (decide (p1.Low > p1.High))) else false) then
  some 2
 else
  iter (fun rec1 s=>QE p1 self_ref05_node p0 (fun v7_1=>some 0) rec1 s) AI 0
def FL (p1:As) (p0:Af) (self_ref05_node:(Af→As→Option Int)):Option Int :=
 bif (p1.Op==2) then
  bif (decide (p1.Code < 0)) then
   some 6
  else
   (idx p0.Columns p1.Column).bind fun x138 =>
   (idx p0.Lists x138.List_).bind fun x141 =>
   bif (decide (p1.Code ≥ ((x141.Codes.length:Nat):Int))) then
    some 6
   else
    JD p1 self_ref05_node p0
 else
  JD p1 self_ref05_node p0
def De (p1:As) (p0:Af) (self_ref05_node:(Af→As→Option Int)) (j5_1:Int) (k6_1_1:Int) (k6_2_1:Int) (k6_3_1:Int) (k6_4_1:Int):Option Int :=
 bif (bif (bif (bif (bif (((p1.Kids.length:Nat):Int) != j5_1) then true else (k6_1_1 != p1.Column)) then true else (k6_2_1 != p1.Code)) then true else (k6_3_1 != p1.Low)) then true else (k6_4_1 != p1.High)) then
  some 11
 else
  bif (p1.Op==2) then
   (Pu p0 p1.Column 2).bind fun x85 =>
   bif (!x85) then
    some 7
   else
    FL p1 p0 self_ref05_node
  else
   bif (p1.Op==3) then
    (Pu p0 p1.Column 3).bind fun x96 =>
    bif (!x96) then
     some 7
    else
     FL p1 p0 self_ref05_node
   else
    bif (p1.Op==4) then
     (Pu p0 p1.Column 3).bind fun x108 =>
     bif (!x108) then
      some 7
     else
      (idx p0.Columns p1.Column).bind fun x115 =>
      bif (!x115.Optional) then
       some 7
      else
       FL p1 p0 self_ref05_node
    else
     FL p1 p0 self_ref05_node
def NR (d:Nat) (self_ref05_node:(Af→As→Option Int)) (p0:Af) (p1:As):Option Int :=
 bif (p1.Op==1) then
  De p1 p0 self_ref05_node 0 0 0 0 0
 else
  bif (p1.Op==2) then
   De p1 p0 self_ref05_node 0 p1.Column p1.Code 0 0
  else
   bif (p1.Op==3) then
    De p1 p0 self_ref05_node 0 p1.Column 0 p1.Low p1.High
   else
    bif (p1.Op==4) then
     De p1 p0 self_ref05_node 0 p1.Column 0 0 0
    else
     bif (p1.Op==5) then
      De p1 p0 self_ref05_node 2 0 0 0 0
     else
      bif (p1.Op==6) then
       De p1 p0 self_ref05_node 2 0 0 0 0
      else
       bif (p1.Op==7) then
        De p1 p0 self_ref05_node 1 0 0 0 0
       else
        some 4
def NQ:Nat→Af→As→Option Int
 | 0,_,_=>none
 | d + 1,p0,p1=>NR d (NQ d) p0 p1
def E2 (d:Nat) (p0:Af) (p1:As):Option Int :=
 (C8 p0).bind fun x7 =>
 bif (x7 != 0) then
  some x7
 else
  (Ml d p1 41).bind fun x12 =>
  bif (decide (x12 > 40)) then
   some 1
  else
   (Mm d p1).bind fun x15 =>
   bif (decide (x15 > 10)) then
    some 22
   else
    (NQ d p0 p1).bind fun x19 =>
    some x19
def LK (p0:Af) (p1:Int) (p2:Int):Option Bool :=
 bif (bif (decide (p1 ≥ 0)) then (decide (p1 < ((p0.Columns.length:Nat):Int))) else false) then
  (idx p0.Columns p1).bind fun x20 =>
  some (x20.Kind==p2)
 else
  some false
def Ju (p0:Af) (p1:Ap):Option Int :=
 (C8 p0).bind fun x7 =>
 bif (x7 != 0) then
  some x7
 else
  bif (bif (decide (p1.Column < 1)) then true else (decide (p1.Column ≥ ((p0.Columns.length:Nat):Int)))) then
   some 7
  else
   (Cg p0 p1.Column).bind fun x27 =>
   (DF p1.Level 0 x27).bind fun x28 =>
   bif (!x28) then
    some 8
   else
    some 0
def MJ (v5_1:Int) (p1:(List Ap)) (kont2_2:(Int→Option Int)) (rec2:(Int→Option Int)) (v7_2:Int):Option Int :=
 bif (decide (v7_2 < v5_1)) then
  (idx p1 v7_2).bind fun x46 =>
  (idx p1 v5_1).bind fun x51 =>
  bif (x46.Column==x51.Column) then
   some 10
  else
   rec2 (IntKind.i64.wrap (v7_2 + 1))
 else
  kont2_2 v7_2
def JE (p1:(List Ap)) (p0:Af) (kont1_0:(Int→Option Int)) (rec1:(Int→Option Int)) (v5_1:Int):Option Int :=
 bif (decide (v5_1 < ((p1.length:Nat):Int))) then
  (idx p1 v5_1).bind fun x25 =>
  (Ju p0 x25).bind fun x27 =>
  bif (x27 != 0) then
   some x27
  else
   (idx p1 v5_1).bind fun x34 =>
   (LK p0 x34.Column 2).bind fun x37 =>
   bif (!x37) then
    some 7
   else
    iter (fun rec2 s=>MJ v5_1 p1 (fun v7_2=>rec1 (IntKind.i64.wrap (v5_1 + 1))) rec2 s) AI 0
 else
  kont1_0 v5_1
def LJ (p0:Af) (p1:(List Ap)):Option Int :=
 bif (bif (decide (((p1.length:Nat):Int) < 1)) then true else (decide (((p1.length:Nat):Int) > 3))) then
  some 1
 else
  iter (fun rec1 s=>JE p1 p0 (fun v5_1=>some 0) rec1 s) AI 0
def Pw (p2:(List Int)) (p0:Af) (p1:Int) (kont1_0:(Int→Option Int)) (rec1:(Int→Option Int)) (v7_1:Int):Option Int :=
 bif (decide (v7_1 < ((p2.length:Nat):Int))) then
  (idx p2 v7_1).bind fun x25 =>
  (LK p0 x25 3).bind fun x27 =>
  bif (!x27) then
   some 7
  else
   (idx p2 v7_1).bind fun x31 =>
   bif (x31==p1) then
    some 10
   else
    bif (decide (0≤(0:Int)∧0≤v7_1∧v7_1≤((p2.length:Nat):Int))) then
     (idx p2 v7_1).bind fun x41 =>
     (Eg (HR p2 0 v7_1) x41).bind fun x43 =>
     bif x43 then
      some 10
     else
      rec1 (IntKind.i64.wrap (v7_1 + 1))
    else none
 else
  kont1_0 v7_1
def Pv (p0:Af) (p1:Int) (p2:(List Int)):Option Int :=
 bif (bif (decide (((p2.length:Nat):Int) < 1)) then true else (decide (((p2.length:Nat):Int) > 3))) then
  some 1
 else
  iter (fun rec1 s=>Pw p2 p0 p1 (fun v7_1=>some 0) rec1 s) AI 0
def Mn (d:Nat) (p0:Af) (p1:A9):Option Int :=
 (LK p0 p1.Measure 3).bind fun x10 =>
 bif (p1.Kind==1) then
  (LJ p0 p1.Dims).bind fun x32 =>
  bif (x32 != 0) then
   some x32
  else
   bif (bif (p1.Measure != (-1)) then (!x10) else false) then
    some 7
   else
    some 0
 else
  bif (p1.Kind==2) then
   bif (!x10) then
    some 7
   else
    (Pv p0 p1.Measure p1.Terms).bind fun x52 =>
    some x52
  else
   bif (!x10) then
    some 7
   else
    (idx p0.Columns p1.Measure).bind fun x19 =>
    bif (decide (x19.Low < 0)) then
     some 2
    else
     (E2 d p0 p1.Event).bind fun x26 =>
     some x26
def QA (p0:As) (p1:As) (self_ref05_Same:(As→As→Option Bool)) (kont1_0:(Int→Option Bool)) (rec1:(Int→Option Bool)) (v5_1:Int):Option Bool :=
 bif (decide (v5_1 < ((p0.Kids.length:Nat):Int))) then
  (idx p0.Kids v5_1).bind fun x58 =>
  (idx p1.Kids v5_1).bind fun x63 =>
  (self_ref05_Same x58 x63).bind fun x65 =>
  bif (!x65) then
   some false
  else
   rec1 (IntKind.i64.wrap (v5_1 + 1))
 else
  kont1_0 v5_1
def NN (d:Nat) (self_ref05_Same:(As→As→Option Bool)) (p0:As) (p1:As):Option Bool :=
 bif (bif (bif (bif (bif (bif (p0.Op != p1.Op) then true else (p0.Column != p1.Column)) then true else (p0.Code != p1.Code)) then true else (p0.Low != p1.Low)) then true else (p0.High != p1.High)) then true else (((p0.Kids.length:Nat):Int) != ((p1.Kids.length:Nat):Int))) then
  some false
 else
  iter (fun rec1 s=>QA p0 p1 self_ref05_Same (fun v5_1=>some true) rec1 s) AI 0
def NM:Nat→As→As→Option Bool
 | 0,_,_=>none
 | d + 1,p0,p1=>NN d (NM d) p0 p1
def Rx (d:Nat) (p0:As):Option Bool :=
 (NM d p0 ({ Op:=0,Column:=0,Code:=0,Low:=0,High:=0,Kids:=[] }:As)).bind fun x5 =>
 some x5
def DG (d:Nat) (p0:Af) (p1:A9):Option Int :=
 (C8 p0).bind fun x9 =>
 bif (x9 != 0) then
  some x9
 else
  (D8 p1.Name).bind fun x15 =>
  bif (!x15) then
   some 3
  else
   bif (bif (decide (p1.Kind < 1)) then true else (decide (p1.Kind > 3))) then
    some 4
   else
    (E2 d p0 p1.Filter).bind fun x28 =>
    bif (x28 != 0) then
     some x28
    else
     (Mn d p0 p1).bind fun x34 =>
     bif (x34 != 0) then
      some x34
     else
      bif (bif (bif (p1.Kind != 1) then (decide (((p1.Dims.length:Nat):Int) > 0)) else false) then true else (bif (p1.Kind != 2) then (decide (((p1.Terms.length:Nat):Int) > 0)) else false)) then
       some 11
      else
       bif (p1.Kind != 3) then
        (Rx d p1.Event).bind fun x65 =>
        bif (!x65) then
         some 11
        else
         some 0
       else
        some 0
def LI (v8_1:Int) (p1:A6) (kont2_2:(Int→Option Int)) (rec2:(Int→Option Int)) (v10_2:Int):Option Int :=
 bif (decide (v10_2 < v8_1)) then
  (idx p1.Questions v10_2).bind fun x100 =>
  (idx p1.Questions v8_1).bind fun x106 =>
  bif (x100.Name.toList==x106.Name.toList) then
   some 10
  else
   rec2 (IntKind.i64.wrap (v10_2 + 1))
 else
  kont2_2 v10_2
def IC (p1:A6) (d:Nat) (p0:Af) (kont1_0:(Int→Option Int)) (rec1:(Int→Option Int)) (v8_1:Int):Option Int :=
 bif (decide (v8_1 < ((p1.Questions.length:Nat):Int))) then
  (idx p1.Questions v8_1).bind fun x86 =>
  (DG d p0 x86).bind fun x88 =>
  bif (x88 != 0) then
   some x88
  else
   iter (fun rec2 s=>LI v8_1 p1 (fun v10_2=>rec1 (IntKind.i64.wrap (v8_1 + 1))) rec2 s) AI 0
 else
  kont1_0 v8_1
def ID (d:Nat) (p0:Af) (p1:A6):Option Int :=
 (E2 d p0 p1.Cohort).bind fun x29 =>
 bif (x29 != 0) then
  some x29
 else
  bif (bif (bif (bif (bif (bif (decide (p1.Sample.Of < 1)) then true else (decide (p1.Sample.Of > 1000))) then true else (decide (p1.Sample.Part < 1))) then true else (decide (p1.Sample.Part > p1.Sample.Of))) then true else (decide (p1.Sample.Seed < 0))) then true else (decide (p1.Sample.Seed > 1099511627776))) then
   some 2
  else
   bif (bif (decide (((p1.Questions.length:Nat):Int) < 1)) then true else (decide (((p1.Questions.length:Nat):Int) > 8))) then
    some 1
   else
    iter (fun rec1 s=>IC p1 d p0 (fun v8_1=>some 0) rec1 s) AI 0
def Ia (d:Nat) (p0:Af) (p1:A6):Option Int :=
 (C8 p0).bind fun x12 =>
 bif (x12 != 0) then
  some x12
 else
  (D8 p1.Project).bind fun x18 =>
  bif (!x18) then
   some 3
  else
   (D8 p1.Source).bind fun x23 =>
   bif (!x23) then
    some 3
   else
    ID d p0 p1
def I7 (p1:(List Ap)) (p0:Af) (kont1_0:(Int→Option Int)) (rec1:(Int→Option Int)) (v6_1:Int):Option Int :=
 bif (decide (v6_1 < ((p1.length:Nat):Int))) then
  (idx p1 v6_1).bind fun x22 =>
  (Ju p0 x22).bind fun x24 =>
  bif (x24 != 0) then
   some x24
  else
   bif (decide (v6_1 > 0)) then
    (idx p1 v6_1).bind fun x33 =>
    (idx p1 (IntKind.i64.wrap (v6_1 - 1))).bind fun x39 =>
    bif (decide (x33.Column≤x39.Column)) then
     some 10
    else
     rec1 (IntKind.i64.wrap (v6_1 + 1))
   else
    rec1 (IntKind.i64.wrap (v6_1 + 1))
 else
  kont1_0 v6_1
def HX (p0:Af) (p1:(List Ap)):Option Int :=
 (C8 p0).bind fun x9 =>
 bif (x9 != 0) then
  some x9
 else
  iter (fun rec1 s=>I7 p1 p0 (fun v6_1=>some 0) rec1 s) AI 0
def Oi (p1:(List Ap)) (p0:(List Ap)) (v5_1:Int) (kont2_2:(Bool→Int→Option Bool)) (rec2:((Bool × Int)→Option Bool)) (v6_2:Bool) (v7_2:Int):Option Bool :=
 bif (decide (v7_2 < ((p1.length:Nat):Int))) then
  bif v6_2 then
   rec2 (true,(IntKind.i64.wrap (v7_2 + 1)))
  else
   (idx p1 v7_2).bind fun x24 =>
   (idx p0 v5_1).bind fun x29 =>
   bif (x24.Column==x29.Column) then
    (idx p1 v7_2).bind fun x36 =>
    (idx p0 v5_1).bind fun x41 =>
    rec2 ((decide (x36.Level ≥ x41.Level)),(IntKind.i64.wrap (v7_2 + 1)))
   else
    rec2 (false,(IntKind.i64.wrap (v7_2 + 1)))
 else
  kont2_2 v6_2 v7_2
def Oh (p0:(List Ap)) (p1:(List Ap)) (kont1_0:(Int→Option Bool)) (rec1:(Int→Option Bool)) (v5_1:Int):Option Bool :=
 bif (decide (v5_1 < ((p0.length:Nat):Int))) then
  iter (fun rec2 s=>Oi p1 p0 v5_1 (fun v6_2 v7_2=>bif (!v6_2) then   some false else   rec1 (IntKind.i64.wrap (v5_1 + 1))) rec2 s.1 s.2) AI (false,0)
 else
  kont1_0 v5_1
def NL (p0:(List Ap)) (p1:(List Ap)):Option Bool :=
 iter (fun rec1 s=>Oh p0 p1 (fun v5_1=>some true) rec1 s) AI 0
def Pp (p1:Int) (p2:Int) (v8_1:Bool) (v9_1:Int) (b7_1:(List Ap)):Option (List Ap) :=
 bif (!v8_1) then
  bif rm b7_1.length [({ Column:=p1,Level:=p2 }:Ap)].length then
   some (b7_1++[({ Column:=p1,Level:=p2 }:Ap)])
  else none
 else
  some b7_1
def Po (p0:(List Ap)) (p1:Int) (p2:Int) (kont1_0:(Bool→Int→(List Ap)→Option (List Ap))) (rec1:((Bool × Int × (List Ap))→Option (List Ap))) (v8_1:Bool) (v9_1:Int) (b7_1:(List Ap)):Option (List Ap) :=
 bif (decide (v9_1 < ((p0.length:Nat):Int))) then
  (idx p0 v9_1).bind fun x21 =>
  bif (bif (decide (x21.Column > p1)) then (!v8_1) else false) then
   bif rm b7_1.length [({ Column:=p1,Level:=p2 }:Ap)].length then
    bif (x21.Column==p1) then
     bif rm (b7_1++[({ Column:=p1,Level:=p2 }:Ap)]).length [({ Column:=x21.Column,Level:=(if p2 > x21.Level then p2 else x21.Level) }:Ap)].length then
      rec1 (true,(IntKind.i64.wrap (v9_1 + 1)),((b7_1++[({ Column:=p1,Level:=p2 }:Ap)])++[({ Column:=x21.Column,Level:=(if p2 > x21.Level then p2 else x21.Level) }:Ap)]))
     else none
    else
     bif rm (b7_1++[({ Column:=p1,Level:=p2 }:Ap)]).length [x21].length then
      rec1 (true,(IntKind.i64.wrap (v9_1 + 1)),((b7_1++[({ Column:=p1,Level:=p2 }:Ap)])++[x21]))
     else none
   else none
  else
   bif (x21.Column==p1) then
    bif rm b7_1.length [({ Column:=x21.Column,Level:=(if p2 > x21.Level then p2 else x21.Level) }:Ap)].length then
     rec1 (true,(IntKind.i64.wrap (v9_1 + 1)),(b7_1++[({ Column:=x21.Column,Level:=(if p2 > x21.Level then p2 else x21.Level) }:Ap)]))
    else none
   else
    bif rm b7_1.length [x21].length then
     rec1 (v8_1,(IntKind.i64.wrap (v9_1 + 1)),(b7_1++[x21]))
    else none
 else
  kont1_0 v8_1 v9_1 b7_1
def HZ (p0:(List Ap)) (p1:Int) (p2:Int):Option (List Ap) :=
 iter (fun rec1 s=>Po p0 p1 p2 (Pp p1 p2) rec1 s.1 s.2.1 s.2.2) AI ((decide (p2≤0)),0,[])
def Pk (p0:As) (self_ref05_Atoms:(As→Option (List As))) (kont1_0:(Int→(List As)→Option (List As))) (rec1:((Int × (List As))→Option (List As))) (v4_1:Int) (b3_1:(List As)):Option (List As) :=
 bif (decide (v4_1 < ((p0.Kids.length:Nat):Int))) then
  (idx p0.Kids v4_1).bind fun x31 =>
  (self_ref05_Atoms x31).bind fun x33 =>
  bif rm b3_1.length x33.length then
   rec1 ((IntKind.i64.wrap (v4_1 + 1)),(b3_1++x33))
  else none
 else
  kont1_0 v4_1 b3_1
def MF (d:Nat) (self_ref05_Atoms:(As→Option (List As))) (p0:As):Option (List As) :=
 bif (bif (bif (p0.Op==2) then true else (p0.Op==3)) then true else (p0.Op==4)) then
  some [p0]
 else
  iter (fun rec1 s=>Pk p0 self_ref05_Atoms (fun v4_1 b3_1=>some b3_1) rec1 s.1 s.2) AI (0,[])
def Mk:Nat→As→Option (List As)
 | 0,_=>none
 | d + 1,p0=>MF d (Mk d) p0
def TP (p0:Ax) (p2:Int) (kont1_0:(Int→Option Int)) (rec1:(Int→Option Int)) (v1_1:Int):Option Int :=
 (Dz p0 v1_1).bind fun x34 =>
 bif (decide (x34 > p2)) then
  (idx p0.Codes v1_1).bind fun x40 =>
  rec1 x40.Parent
 else
  kont1_0 v1_1
def LC (p0:Ax) (p1:Int) (p2:Int):Option Int :=
 (Ez p0).bind fun x8 =>
 bif (bif (bif (bif (x8 != 0) then true else (decide (p1 < 0))) then true else (decide (p1 ≥ ((p0.Codes.length:Nat):Int)))) then true else (decide (p2 < 0))) then
  some (-1)
 else
  (Dz p0 p1).bind fun x29 =>
  bif (decide (p2 > x29)) then
   some (-1)
  else
   iter (fun rec1 s=>TP p0 p2 (fun v1_1=>some v1_1) rec1 s) AI p1
def E1 (p0:A3) (p1:Int):Option Int :=
 (idx p0.Widths (IntKind.i64.wrap (((p0.Widths.length:Nat):Int) - p1))).bind fun x12 =>
 some x12
def Gq (p0:Int) (p1:Int):Option Int :=
 bif (decide (p1≠0)) then
  bif (decide (p1≠0)) then
   bif (decide ((Int.tmod p0 p1) < 0)) then
    some (IntKind.i64.wrap ((IntKind.i64.wrap (Int.tdiv p0 p1)) - 1))
   else
    some (IntKind.i64.wrap (Int.tdiv p0 p1))
  else none
 else none
def Cz (p0:Af) (p1:Int) (p2:Int) (p3:Int):Option Int :=
 (Cg p0 p1).bind fun x14 =>
 (DF p2 0 x14).bind fun x15 =>
 bif (!x15) then
  some (-1)
 else
  (idx p0.Columns p1).bind fun x20 =>
  bif (x20.Kind==2) then
   (HV p0 p1 p3).bind fun x28 =>
   bif (!x28) then
    some (-1)
   else
    (idx p0.Lists x20.List_).bind fun x34 =>
    (LC x34 p3 p2).bind fun x38 =>
    some x38
  else
   bif (p3 != (-1099511627776)) then
    (DF p3 (-1000000) 1000000).bind fun x43 =>
    bif (!x43) then
     some (-1)
    else
     bif (p2==0) then
      some 0
     else
      bif (p3==(-1099511627776)) then
       some p3
      else
       (E1 x20 p2).bind fun x53 =>
       (Gq p3 x53).bind fun x56 =>
       some (IntKind.i64.wrap (x56 * x53))
   else
    bif (p2==0) then
     some 0
    else
     bif (p3==(-1099511627776)) then
      some p3
     else
      (E1 x20 p2).bind fun x53 =>
      (Gq p3 x53).bind fun x56 =>
      some (IntKind.i64.wrap (x56 * x53))
def Pi (p0:Ax) (p1:Int) (p2:Int):Option Bool :=
 (Gp p0 p2).bind fun x10 =>
 bif (decide (x10 ≥ 0)) then
  (Gp p0 p1).bind fun x16 =>
  bif (decide (x16 ≥ x10)) then
   (LC p0 p1 x10).bind fun x24 =>
   some (x24==p2)
  else
   some false
 else
  some false
def LF (p0:Af) (p1:As) (p2:Int):Option Int :=
 bif (p1.Op==2) then
  (idx p0.Columns p1.Column).bind fun x18 =>
  (idx p0.Lists x18.List_).bind fun x21 =>
  (Pi x21 p2 p1.Code).bind fun x26 =>
  bif x26 then
   some 1
  else
   some (-1)
 else
  bif (p1.Op==3) then
   bif (p2==(-1099511627776)) then
    some 0
   else
    bif (bif (decide (p1.Low≤p2)) then (decide (p2≤p1.High)) else false) then
     some 1
    else
     some (-1)
  else
   bif (p1.Op==4) then
    bif (p2==(-1099511627776)) then
     some 1
    else
     some (-1)
   else
    some (-1)
def Nw (v9_1:Int) (x26:(List Int)) (p0:Af) (p1:As) (p2:Int) (kont2_2:(Int→Option Bool)) (rec2:(Int→Option Bool)) (v10_2:Int):Option Bool :=
 bif (decide (v10_2 < v9_1)) then
  (idx x26 v9_1).bind fun x44 =>
  (Cz p0 p1.Column p2 x44).bind fun x46 =>
  (idx x26 v10_2).bind fun x53 =>
  (Cz p0 p1.Column p2 x53).bind fun x55 =>
  bif (x46==x55) then
   (idx x26 v9_1).bind fun x62 =>
   (LF p0 p1 x62).bind fun x64 =>
   (idx x26 v10_2).bind fun x69 =>
   (LF p0 p1 x69).bind fun x71 =>
   bif (x64 != x71) then
    some false
   else
    rec2 (IntKind.i64.wrap (v10_2 + 1))
  else
   rec2 (IntKind.i64.wrap (v10_2 + 1))
 else
  kont2_2 v10_2
def Nv (x26:(List Int)) (p0:Af) (p1:As) (p2:Int) (kont1_0:(Int→Option Bool)) (rec1:(Int→Option Bool)) (v9_1:Int):Option Bool :=
 bif (decide (v9_1 < ((x26.length:Nat):Int))) then
  iter (fun rec2 s=>Nw v9_1 x26 p0 p1 p2 (fun v10_2=>rec1 (IntKind.i64.wrap (v9_1 + 1))) rec2 s) AI 0
 else
  kont1_0 v9_1
def MH (p0:Af) (p1:As) (p2:Int):Option Bool :=
 (idx p0.Columns p1.Column).bind fun x18 =>
 bif (p1.Op==2) then
  (Fw p0 p1.Column).bind fun x26 =>
  iter (fun rec1 s=>Nv x26 p0 p1 p2 (fun v9_1=>some true) rec1 s) AI 0
 else
  bif (p1.Op==4) then
   some (decide (p2 > 0))
  else
   bif (p2==0) then
    some (bif (bif (!x18.Optional) then (!(bif (decide (p1.Low > x18.Low)) then (decide (p1.Low≤x18.High)) else false)) else false) then (!(bif (decide (p1.High ≥ x18.Low)) then (decide (p1.High < x18.High)) else false)) else false)
   else
    (E1 x18 p2).bind fun x118 =>
    bif (!(bif (decide (p1.Low > x18.Low)) then (decide (p1.Low≤x18.High)) else false)) then
     bif (!(bif (decide (p1.High ≥ x18.Low)) then (decide (p1.High < x18.High)) else false)) then
      some true
     else
      bif (decide (x118≠0)) then
       some ((Int.tmod (IntKind.i64.wrap (p1.High + 1)) x118)==0)
      else none
    else
     bif (decide (x118≠0)) then
      bif ((Int.tmod p1.Low x118)==0) then
       bif (!(bif (decide (p1.High ≥ x18.Low)) then (decide (p1.High < x18.High)) else false)) then
        some true
       else
        bif (decide (x118≠0)) then
         some ((Int.tmod (IntKind.i64.wrap (p1.High + 1)) x118)==0)
        else none
      else
       some false
     else none
def LH (x14:(List As)) (v7_1:Int) (v5_1:(List Ap)) (rec1:(((List Ap) × Int)→Option (List Ap))) (v8_2:Int):Option (List Ap) :=
 (idx x14 v7_1).bind fun x34 =>
 (HZ v5_1 x34.Column v8_2).bind fun x38 =>
 rec1 (x38,(IntKind.i64.wrap (v7_1 + 1)))
def Pn (x14:(List As)) (v7_1:Int) (p0:Af) (kont2_2:(Int→Option (List Ap))) (rec2:(Int→Option (List Ap))) (v8_2:Int):Option (List Ap) :=
 (idx x14 v7_1).bind fun x24 =>
 (MH p0 x24 v8_2).bind fun x27 =>
 bif (!x27) then
  rec2 (IntKind.i64.wrap (v8_2 + 1))
 else
  kont2_2 v8_2
def Pm (x14:(List As)) (p0:Af) (kont1_0:((List Ap)→Int→Option (List Ap))) (rec1:(((List Ap) × Int)→Option (List Ap))) (v5_1:(List Ap)) (v7_1:Int):Option (List Ap) :=
 bif (decide (v7_1 < ((x14.length:Nat):Int))) then
  iter (fun rec2 s=>Pn x14 v7_1 p0 (LH x14 v7_1 v5_1 rec1) rec2 s) AI 0
 else
  kont1_0 v5_1 v7_1
def HY (d:Nat) (p0:Af) (p1:As):Option (List Ap) :=
 (E2 d p0 p1).bind fun x11 =>
 bif (x11 != 0) then
  some []
 else
  (Mk d p1).bind fun x14 =>
  iter (fun rec1 s=>Pm x14 p0 (fun v5_1 v7_1=>some v5_1) rec1 s.1 s.2) AI ([],0)
def Nr (v11_1:Int) (x33:(List Int)) (p0:Af) (p1:Int) (p3:Int) (p2:Int) (kont2_2:(Int→Option Bool)) (rec2:(Int→Option Bool)) (v12_2:Int):Option Bool :=
 bif (decide (v12_2 < v11_1)) then
  (idx x33 v11_1).bind fun x50 =>
  (Cz p0 p1 p3 x50).bind fun x52 =>
  (idx x33 v12_2).bind fun x58 =>
  (Cz p0 p1 p3 x58).bind fun x60 =>
  bif (x52 != x60) then
   (idx x33 v11_1).bind fun x68 =>
   (Cz p0 p1 p2 x68).bind fun x70 =>
   (idx x33 v12_2).bind fun x76 =>
   (Cz p0 p1 p2 x76).bind fun x78 =>
   bif (x70==x78) then
    some false
   else
    rec2 (IntKind.i64.wrap (v12_2 + 1))
  else
   rec2 (IntKind.i64.wrap (v12_2 + 1))
 else
  kont2_2 v12_2
def Nq (x33:(List Int)) (p0:Af) (p1:Int) (p3:Int) (p2:Int) (kont1_0:(Int→Option Bool)) (rec1:(Int→Option Bool)) (v11_1:Int):Option Bool :=
 bif (decide (v11_1 < ((x33.length:Nat):Int))) then
  iter (fun rec2 s=>Nr v11_1 x33 p0 p1 p3 p2 (fun v12_2=>rec1 (IntKind.i64.wrap (v11_1 + 1))) rec2 s) AI 0
 else
  kont1_0 v11_1
def Ns (x19:A3) (p2:Int) (x83:Int) (kont3_4:(Int→Int→Option Bool)) (rec3:((Int × Int)→Option Bool)) (v14_3:Int) (v15_3:Int):Option Bool :=
 bif (bif (decide (v15_3 < 2)) then (decide (v14_3≤x19.High)) else false) then
  (E1 x19 p2).bind fun x115 =>
  bif (decide (x115≠0)) then
   bif ((Int.tmod v14_3 x115) != 0) then
    some false
   else
    rec3 ((IntKind.i64.wrap (v14_3 + x83)),(IntKind.i64.wrap (v15_3 + 1)))
  else none
 else
  kont3_4 v14_3 v15_3
def JA (p0:Af) (p1:Int) (p2:Int) (p3:Int):Option Bool :=
 (idx p0.Columns p1).bind fun x19 =>
 bif (bif (p3==0) then true else (decide (p2 ≥ p3))) then
  some true
 else
  bif (x19.Kind==2) then
   (Fw p0 p1).bind fun x33 =>
   iter (fun rec1 s=>Nq x33 p0 p1 p3 p2 (fun v11_1=>some true) rec1 s) AI 0
  else
   (E1 x19 p3).bind fun x83 =>
   (Gq x19.Low x83).bind fun x87 =>
   bif (p2==0) then
    some (bif (!x19.Optional) then (decide ((IntKind.i64.wrap ((IntKind.i64.wrap (x87 + 1)) * x83)) > x19.High)) else false)
   else
    iter (fun rec3 s=>Ns x19 p2 x83 (fun v14_3 v15_3=>some true) rec3 s.1 s.2) AI ((IntKind.i64.wrap ((IntKind.i64.wrap (x87 + 1)) * x83)),0)
def LD (p0:Af) (p1:Int) (p2:Int) (kont1_0:(Int→Option Int)) (rec1:(Int→Option Int)) (v7_1:Int):Option Int :=
 (JA p0 p1 v7_1 p2).bind fun x18 =>
 bif (!x18) then
  rec1 (IntKind.i64.wrap (v7_1 + 1))
 else
  kont1_0 v7_1
def HW (p0:Af) (p1:Int) (p2:Int):Option Int :=
 (Cg p0 p1).bind fun x11 =>
 (DF p2 0 x11).bind fun x12 =>
 bif (!x12) then
  some (-1)
 else
  iter (fun rec1 s=>LD p0 p1 p2 (fun v7_1=>some v7_1) rec1 s) AI 0
def NS (p0:A9) (p1:Int):Option Bool :=
 bif (p0.Measure==p1) then
  some true
 else
  (Eg p0.Terms p1).bind fun x13 =>
  some x13
def IF (p0:Af) (p1:A9) (kont3_4:((List Ap)→Int→Option (List Ap))) (rec3:(((List Ap) × Int)→Option (List Ap))) (v5_3:(List Ap)) (v9_3:Int):Option (List Ap) :=
 bif (decide (v9_3 < ((p0.Columns.length:Nat):Int))) then
  (NS p1 v9_3).bind fun x81 =>
  bif x81 then
   (Cg p0 v9_3).bind fun x88 =>
   (HW p0 v9_3 x88).bind fun x89 =>
   (HZ v5_3 v9_3 x89).bind fun x90 =>
   rec3 (x90,(IntKind.i64.wrap (v9_3 + 1)))
  else
   rec3 (v5_3,(IntKind.i64.wrap (v9_3 + 1)))
 else
  kont3_4 v5_3 v9_3
def IE (p1:A9) (p0:Af) (kont2_2:((List Ap)→Int→Option (List Ap))) (rec2:(((List Ap) × Int)→Option (List Ap))) (v5_2:(List Ap)) (v8_2:Int):Option (List Ap) :=
 bif (decide (v8_2 < ((p1.Dims.length:Nat):Int))) then
  (idx p1.Dims v8_2).bind fun x54 =>
  (idx p1.Dims v8_2).bind fun x61 =>
  (idx p1.Dims v8_2).bind fun x67 =>
  (HW p0 x61.Column x67.Level).bind fun x70 =>
  (HZ v5_2 x54.Column x70).bind fun x71 =>
  rec2 (x71,(IntKind.i64.wrap (v8_2 + 1)))
 else
  kont2_2 v5_2 v8_2
def Gs (p1:A9) (p0:Af) (j5_1:(List Ap)):Option (List Ap) :=
 iter (fun rec2 s=>IE p1 p0 (fun v5_2 v8_2=>iter (fun rec3 s=>IF p0 p1 (fun v5_3 v9_3=>some v5_3) rec3 s.1 s.2) AI (v5_2,1)) rec2 s.1 s.2) AI (j5_1,0)
def Px (x24:(List Ap)) (kont1_0:((List Ap)→Int→Option (List Ap))) (rec1:(((List Ap) × Int)→Option (List Ap))) (v5_1:(List Ap)) (v7_1:Int):Option (List Ap) :=
 bif (decide (v7_1 < ((x24.length:Nat):Int))) then
  (idx x24 v7_1).bind fun x34 =>
  (idx x24 v7_1).bind fun x39 =>
  (HZ v5_1 x34.Column x39.Level).bind fun x42 =>
  rec1 (x42,(IntKind.i64.wrap (v7_1 + 1)))
 else
  kont1_0 v5_1 v7_1
def Kg (d:Nat) (p0:Af) (p1:A9):Option (List Ap) :=
 (DG d p0 p1).bind fun x12 =>
 bif (x12 != 0) then
  some []
 else
  (HY d p0 p1.Filter).bind fun x17 =>
  bif (p1.Kind==3) then
   (HY d p0 p1.Event).bind fun x24 =>
   iter (fun rec1 s=>Px x24 (fun v5_1 v7_1=>Gs p1 p0 v5_1) rec1 s.1 s.2) AI (x17,0)
  else
   Gs p1 p0 x17
def JF (d:Nat) (p0:Af) (p1:A9) (p2:(List Ap)):Option Bool :=
 (DG d p0 p1).bind fun x9 =>
 bif (x9==0) then
  (HX p0 p2).bind fun x14 =>
  bif (x14==0) then
   (Kg d p0 p1).bind fun x20 =>
   (NL x20 p2).bind fun x22 =>
   some x22
  else
   some false
 else
  some false
def IG (p1:A6) (d:Nat) (p0:Af) (p2:(List Ap)) (kont1_0:(Int→Option Int)) (rec1:(Int→Option Int)) (v9_1:Int):Option Int :=
 bif (decide (v9_1 < ((p1.Questions.length:Nat):Int))) then
  (idx p1.Questions v9_1).bind fun x33 =>
  (JF d p0 x33 p2).bind fun x36 =>
  bif (!x36) then
   some 23
  else
   rec1 (IntKind.i64.wrap (v9_1 + 1))
 else
  kont1_0 v9_1
def Kh (d:Nat) (p0:Af) (p1:A6) (p2:(List Ap)):Option Int :=
 (Ia d p0 p1).bind fun x12 =>
 bif (x12 != 0) then
  some x12
 else
  (HX p0 p2).bind fun x18 =>
  bif (x18 != 0) then
   some x18
  else
   iter (fun rec1 s=>IG p1 d p0 p2 (fun v9_1=>some 0) rec1 s) AI 0
def Rv (p0:Int) (p1:(List Int)):Option Int :=
 bif (p0==7) then
  (idx p1 0).bind fun x9 =>
  some (IntKind.i64.wrap (0 - x9))
 else
  bif (p0==5) then
   (idx p1 0).bind fun x15 =>
   (idx p1 1).bind fun x18 =>
   some (if x18 < x15 then x18 else x15)
  else
   bif (p0==6) then
    (idx p1 0).bind fun x24 =>
    (idx p1 1).bind fun x27 =>
    some (if x27 > x24 then x27 else x24)
   else
    some 1
def QC (p1:As) (self_ref05_eval:(Af→As→(List Int)→Option Int)) (p0:Af) (p2:(List Int)) (kont1_0:(Int→(List Int)→Option Int)) (rec1:((Int × (List Int))→Option Int)) (v8_1:Int) (b7_1:(List Int)):Option Int :=
 bif (decide (v8_1 < ((p1.Kids.length:Nat):Int))) then
  (idx p1.Kids v8_1).bind fun x42 =>
  (self_ref05_eval p0 x42 p2).bind fun x45 =>
  bif rm b7_1.length [x45].length then
   rec1 ((IntKind.i64.wrap (v8_1 + 1)),(b7_1++[x45]))
  else none
 else
  kont1_0 v8_1 b7_1
def NP (d:Nat) (self_ref05_eval:(Af→As→(List Int)→Option Int)) (p0:Af) (p1:As) (p2:(List Int)):Option Int :=
 bif (bif (bif (p1.Op==2) then true else (p1.Op==3)) then true else (p1.Op==4)) then
  (idx p2 p1.Column).bind fun x27 =>
  (LF p0 p1 x27).bind fun x29 =>
  some x29
 else
  iter (fun rec1 s=>QC p1 self_ref05_eval p0 p2 (fun v8_1 b7_1=>(Rv p1.Op b7_1).bind fun x51=>some x51) rec1 s.1 s.2) AI (0,[])
def NO:Nat→Af→As→(List Int)→Option Int
 | 0,_,_,_=>none
 | d + 1,p0,p1,p2=>NP d (NO d) p0 p1 p2
def LG (d:Nat) (p0:Af) (p1:As) (p2:(List Int)):Option Int :=
 (E2 d p0 p1).bind fun x9 =>
 bif (x9 != 0) then
  some 0
 else
  (FJ p0 p2).bind fun x14 =>
  bif (x14 != 0) then
   some 0
  else
   (NO d p0 p1 p2).bind fun x20 =>
   some x20
def Py (p0:G2):Option Int :=
 bif (bif (bif (bif (bif (bif (decide (p0.Of < 1)) then true else (decide (p0.Of > 1000))) then true else (decide (p0.Part < 1))) then true else (decide (p0.Part > p0.Of))) then true else (decide (p0.Seed < 0))) then true else (decide (p0.Seed > 1099511627776))) then
  some 2
 else
  some 0
def QH (kont1_0:(Int→Int→Option Int)) (rec1:((Int × Int)→Option Int)) (v5_1:Int) (v6_1:Int):Option Int :=
 bif (decide (v6_1 < 3)) then
  rec1 ((IntKind.u64.wrap (((BitVec.ofInt IntKind.u64.bits (IntKind.u64.wrap ((IntKind.u64.wrap (v5_1 * 6364136223846793005)) + 1442695040888963407)) ^^^ BitVec.ofInt IntKind.u64.bits (Int.fdiv (IntKind.u64.wrap ((IntKind.u64.wrap (v5_1 * 6364136223846793005)) + 1442695040888963407)) (2 ^ (min (29:Int).toNat IntKind.u64.bits)))).toNat:Nat):Int)),(IntKind.i64.wrap (v6_1 + 1)))
 else
  kont1_0 v5_1 v6_1
def NT (p0:Int) (p1:Int):Option Int :=
 iter (fun rec1 s=>QH (fun v5_1 v6_1=>some (IntKind.i64.wrap (Int.fdiv v5_1 (2 ^ (min (32:Int).toNat IntKind.u64.bits))))) rec1 s.1 s.2) AI ((IntKind.u64.wrap ((IntKind.u64.wrap ((IntKind.u64.wrap ((IntKind.u64.wrap p0) * 2654435761)) + (IntKind.u64.wrap ((IntKind.u64.wrap p1) * 40503)))) + 97)),0)
def Pz (p0:G2) (p1:Int):Option Bool :=
 (Py p0).bind fun x6 =>
 bif (bif (bif (x6==0) then (decide (p1 ≥ 1)) else false) then (decide (p1≤1048575)) else false) then
  (NT p0.Seed p1).bind fun x20 =>
  bif (decide (p0.Of≠0)) then
   some (decide ((Int.tmod x20 p0.Of) < p0.Part))
  else none
 else
  some false
def Hz (p0:Aq) (d:Nat) (p1:A6) (kont1_0:(Int→(List Int)→Option (List Int))) (rec1:((Int × (List Int))→Option (List Int))) (v6_1:Int) (b5_1:(List Int)):Option (List Int) :=
 bif (decide (v6_1 < ((p0.Rows.length:Nat):Int))) then
  (idx p0.Rows v6_1).bind fun x31 =>
  (LG d p0.Schema p1.Cohort x31).bind fun x33 =>
  bif (x33==1) then
   (idx p0.Rows v6_1).bind fun x41 =>
   (idx x41 0).bind fun x43 =>
   (Pz p1.Sample x43).bind fun x45 =>
   bif x45 then
    (idx p0.Rows v6_1).bind fun x51 =>
    (idx x51 0).bind fun x53 =>
    bif rm b5_1.length [x53].length then
     rec1 ((IntKind.i64.wrap (v6_1 + 1)),(b5_1++[x53]))
    else none
   else
    rec1 ((IntKind.i64.wrap (v6_1 + 1)),b5_1)
  else
   rec1 ((IntKind.i64.wrap (v6_1 + 1)),b5_1)
 else
  kont1_0 v6_1 b5_1
def H0 (p0:Aq) (d:Nat) (p1:A6):Option (List Int) :=
 iter (fun rec1 s=>Hz p0 d p1 (fun v6_1 b5_1=>some b5_1) rec1 s.1 s.2) AI (0,[])
def IJ (d:Nat) (p0:Aq) (p1:A6):Option (List Int) :=
 (Gr p0).bind fun x8 =>
 bif (!x8) then
  some []
 else
  (Ia d p0.Schema p1).bind fun x14 =>
  bif (x14 != 0) then
   some []
  else
   H0 p0 d p1
def Mo (p0:Int) (p1:Int):Option Bool :=
 some (bif (bif (bif (decide (p0 ≥ 0)) then (decide (p0 < 1152921504606846976)) else false) then (decide (p1 ≥ 0)) else false) then (decide (p1 < 1048576)) else false)
def LL (kont1_0:(Int→Int→Option Int)) (rec1:((Int × Int)→Option Int)) (v7_1:Int) (v8_1:Int):Option Int :=
 bif (decide (v8_1 < 3)) then
  rec1 ((IntKind.u64.wrap ((IntKind.u64.wrap (((BitVec.ofInt IntKind.u64.bits v7_1 ^^^ BitVec.ofInt IntKind.u64.bits (Int.fdiv v7_1 (2 ^ (min (31:Int).toNat IntKind.u64.bits)))).toNat:Nat):Int)) * 13787848793156543929)),(IntKind.i64.wrap (v8_1 + 1)))
 else
  kont1_0 v7_1 v8_1
def Ki (p0:Int) (p1:Int) (p2:Int):Option Int :=
 bif (bif (bif (bif (bif (bif (decide (p0 < 0)) then true else (decide (p0 ≥ 1152921504606846976))) then true else (decide (p1 < 0))) then true else (decide (p1 > 7))) then true else (decide (p2 < 0))) then true else (decide (p2 > 1023))) then
  some 0
 else
  iter (fun rec1 s=>LL (fun v7_1 v8_1=>some (IntKind.i64.wrap (Int.fdiv v7_1 (2 ^ (min (54:Int).toNat IntKind.u64.bits))))) rec1 s.1 s.2) AI ((IntKind.u64.wrap ((IntKind.u64.wrap ((IntKind.u64.wrap p0) + (IntKind.u64.wrap ((IntKind.u64.wrap p1) * 11400714819323198485)))) + (IntKind.u64.wrap ((IntKind.u64.wrap p2) * 14029467366897019727)))),0)
def KG (p0:Int) (kont1_0:(Int→Int→Int→Option Int)) (rec1:((Int × Int × Int)→Option Int)) (v5_1:Int) (v6_1:Int) (v7_1:Int):Option Int :=
 bif (decide (v7_1≤7)) then
  (Ki p0 v7_1 v6_1).bind fun x25 =>
  rec1 (v6_1,(IntKind.i64.wrap (((BitVec.ofInt IntKind.i64.bits v5_1 ^^^ BitVec.ofInt IntKind.i64.bits x25).toNat:Nat):Int)),(IntKind.i64.wrap (v7_1 + 1)))
 else
  kont1_0 v5_1 v6_1 v7_1
def Nx (p0:Int) (p1:Int):Option Int :=
 (Mo p0 p1).bind fun x10 =>
 bif (!x10) then
  some (-1)
 else
  iter (fun rec1 s=>KG p0 (fun v5_1 v6_1 v7_1=>some (IntKind.i64.wrap ((IntKind.i64.wrap (v5_1 * 1024)) + v6_1))) rec1 s.1 s.2.1 s.2.2) AI ((IntKind.i64.wrap (Int.tdiv p1 1024)),(Int.tmod p1 1024),0)
def II (p2:(List Ap)) (x61:(List Int)) (p0:Aq) (kont2_2:(Int→(List Int)→Option (A0 × Int))) (rec2:((Int × (List Int))→Option (A0 × Int))) (v16_2:Int) (b69_2:(List Int)):Option (A0 × Int) :=
 bif (decide (v16_2 < ((p2.length:Nat):Int))) then
  (idx p2 v16_2).bind fun x81 =>
  (idx p2 v16_2).bind fun x86 =>
  (idx p2 v16_2).bind fun x92 =>
  (idx x61 x92.Column).bind fun x95 =>
  (Cz p0.Schema x81.Column x86.Level x95).bind fun x97 =>
  bif rm b69_2.length [x97].length then
   rec2 ((IntKind.i64.wrap (v16_2 + 1)),(b69_2++[x97]))
  else none
 else
  kont2_2 v16_2 b69_2
def IH (x46:(List Int)) (p0:Aq) (p3:Int) (p2:(List Ap)) (kont1_0:(Int→(List (List Int))→Option (A0 × Int))) (rec1:((Int × (List (List Int)))→Option (A0 × Int))) (v13_1:Int) (c11_3_1:(List (List Int))):Option (A0 × Int) :=
 bif (decide (v13_1 < ((x46.length:Nat):Int))) then
  (idx x46 v13_1).bind fun x58 =>
  (Cr p0 x58).bind fun x60 =>
  (idx p0.Rows x60).bind fun x61 =>
  (idx x46 v13_1).bind fun x66 =>
  (Nx p3 x66).bind fun x68 =>
  iter (fun rec2 s=>II p2 x61 p0 (fun v16_2 b69_2=>(FK c11_3_1 b69_2).bind fun x103=>rec1 ((IntKind.i64.wrap (v13_1 + 1)),x103)) rec2 s.1 s.2) AI (0,[x68])
 else
  kont1_0 v13_1 c11_3_1
def Gt (d:Nat) (p0:Aq) (p1:A6) (p2:(List Ap)) (p3:Int):Option (A0 × Int) :=
 (Gr p0).bind fun x18 =>
 bif (!x18) then
  some (({ Project:=ByteArray.empty,Version:=0,Picks:=[],Rows:=[] }:A0),13)
 else
  (Kh d p0.Schema p1 p2).bind fun x25 =>
  bif (x25 != 0) then
   some (({ Project:=ByteArray.empty,Version:=0,Picks:=[],Rows:=[] }:A0),x25)
  else
   bif (bif (decide (p3 < 0)) then true else (decide (p3 ≥ 1152921504606846976))) then
    some (({ Project:=ByteArray.empty,Version:=0,Picks:=[],Rows:=[] }:A0),2)
   else
    bif rm 0 p2.length then
     (IJ d p0 p1).bind fun x46 =>
     iter (fun rec1 s=>IH x46 p0 p3 p2 (fun v13_1 c11_3_1=>some (({ Project:=p1.Project,Version:=p0.Version,Picks:=p2,Rows:=c11_3_1 }:A0),0)) rec1 s.1 s.2) AI (0,[])
    else none
def JH (p0:Bd) (kont2_2:((List Int)→Int→Option (List Int))) (rec2:(((List Int) × Int)→Option (List Int))) (v3_2:(List Int)) (v5_2:Int):Option (List Int) :=
 bif (decide (v5_2 < ((p0.Rows.length:Nat):Int))) then
  (idx p0.Rows v5_2).bind fun x30 =>
  bif (decide (((x30.length:Nat):Int) > 0)) then
   (idx p0.Rows v5_2).bind fun x38 =>
   (idx x38 0).bind fun x40 =>
   (Jt v3_2 x40).bind fun x42 =>
   rec2 (x42,(IntKind.i64.wrap (v5_2 + 1)))
  else
   rec2 (v3_2,(IntKind.i64.wrap (v5_2 + 1)))
 else
  kont2_2 v3_2 v5_2
def JI (p0:Bd) (j3_1:(List Int)):Option (List Int) :=
 iter (fun rec2 s=>JH p0 (fun v3_2 v5_2=>some v3_2) rec2 s.1 s.2) AI (j3_1,0)
def JG (p0:Bd) (kont1_0:((List Int)→Int→Option (List Int))) (rec1:(((List Int) × Int)→Option (List Int))) (v3_1:(List Int)) (v4_1:Int):Option (List Int) :=
 bif (decide (v4_1 < ((p0.Gone.length:Nat):Int))) then
  (idx p0.Gone v4_1).bind fun x17 =>
  (Jt v3_1 x17).bind fun x19 =>
  rec1 (x19,(IntKind.i64.wrap (v4_1 + 1)))
 else
  kont1_0 v3_1 v4_1
def LM (p0:Bd):Option (List Int) :=
 iter (fun rec1 s=>JG p0 (fun v3_1 v4_1=>JI p0 v3_1) rec1 s.1 s.2) AI ([],0)
def GM (p0:(List (List Int))) (kont1_0:(Int→Option Bool)) (rec1:(Int→Option Bool)) (v3_1:Int):Option Bool :=
 bif (decide (v3_1 < ((p0.length:Nat):Int))) then
  (idx p0 v3_1).bind fun x12 =>
  bif (((x12.length:Nat):Int)==0) then
   some false
  else
   bif (decide (v3_1 > 0)) then
    (idx p0 v3_1).bind fun x22 =>
    (idx x22 0).bind fun x24 =>
    (idx p0 (IntKind.i64.wrap (v3_1 - 1))).bind fun x29 =>
    (idx x29 0).bind fun x31 =>
    bif (decide (x24≤x31)) then
     some false
    else
     rec1 (IntKind.i64.wrap (v3_1 + 1))
   else
    rec1 (IntKind.i64.wrap (v3_1 + 1))
 else
  kont1_0 v3_1
def FM (p0:(List (List Int))):Option Bool :=
 iter (fun rec1 s=>GM p0 (fun v3_1=>some true) rec1 s) AI 0
def JJ (p0:(List (List Int))) (p1:Int) (kont1_0:(Int→Option Int)) (rec1:(Int→Option Int)) (v5_1:Int):Option Int :=
 bif (decide (v5_1 < ((p0.length:Nat):Int))) then
  (idx p0 v5_1).bind fun x14 =>
  (idx x14 0).bind fun x16 =>
  bif (x16==p1) then
   some v5_1
  else
   rec1 (IntKind.i64.wrap (v5_1 + 1))
 else
  kont1_0 v5_1
def HN (p0:(List (List Int))) (p1:Int):Option Int :=
 iter (fun rec1 s=>JJ p0 p1 (fun v5_1=>some (-1)) rec1 s) AI 0
def IP (p1:Bd) (kont6_10:(Int→(List (List Int))→Option (A0 × Int))) (rec6:((Int × (List (List Int)))→Option (A0 × Int))) (v12_6:Int) (c10_3_6:(List (List Int))):Option (A0 × Int) :=
 bif (decide (v12_6 < ((p1.Rows.length:Nat):Int))) then
  (idx p1.Rows v12_6).bind fun x144 =>
  (FK c10_3_6 x144).bind fun x146 =>
  rec6 ((IntKind.i64.wrap (v12_6 + 1)),x146)
 else
  kont6_10 v12_6 c10_3_6
def Dj (p1:Bd) (p0:A0) (v11_5:Int) (b130_5:(List (List Int))):Option (A0 × Int) :=
 iter (fun rec6 s=>IP p1 (fun v12_6 c10_3_6=>some (({ Project:=p0.Project,Version:=p1.Version,Picks:=p0.Picks,Rows:=c10_3_6 }:A0),0)) rec6 s.1 s.2) AI (0,b130_5)
def IN (p0:A0) (p1:Bd) (kont5_8:(Int→(List (List Int))→Option (A0 × Int))) (rec5:((Int × (List (List Int)))→Option (A0 × Int))) (v11_5:Int) (b130_5:(List (List Int))):Option (A0 × Int) :=
 bif (decide (v11_5 < ((p0.Rows.length:Nat):Int))) then
  (idx p0.Rows v11_5).bind fun x116 =>
  (idx x116 0).bind fun x118 =>
  (Eg p1.Gone x118).bind fun x120 =>
  bif (!x120) then
   (idx p0.Rows v11_5).bind fun x127 =>
   bif rm b130_5.length [x127].length then
    rec5 ((IntKind.i64.wrap (v11_5 + 1)),(b130_5++[x127]))
   else none
  else
   rec5 ((IntKind.i64.wrap (v11_5 + 1)),b130_5)
 else
  kont5_8 v11_5 b130_5
def IT (p0:A0) (p1:Bd):Option (A0 × Int) :=
 iter (fun rec5 s=>IN p0 p1 (Dj p1 p0) rec5 s.1 s.2) AI (0,[])
def IM (p1:Bd) (kont4_6:(Int→Option (A0 × Int))) (rec4:(Int→Option (A0 × Int))) (v9_4:Int):Option (A0 × Int) :=
 bif (decide (v9_4 < ((p1.Gone.length:Nat):Int))) then
  (idx p1.Gone v9_4).bind fun x92 =>
  (HN p1.Rows x92).bind fun x94 =>
  bif (decide (x94 ≥ 0)) then
   some (({ Project:=ByteArray.empty,Version:=0,Picks:=[],Rows:=[] }:A0),10)
  else
   rec4 (IntKind.i64.wrap (v9_4 + 1))
 else
  kont4_6 v9_4
def IS (p1:Bd) (p0:A0):Option (A0 × Int) :=
 iter (fun rec4 s=>IM p1 (fun v9_4=>IT p0 p1) rec4 s) AI 0
def IL (p1:Bd) (p0:A0) (kont3_4:(Int→Option (A0 × Int))) (rec3:(Int→Option (A0 × Int))) (v8_3:Int):Option (A0 × Int) :=
 bif (decide (v8_3 < ((p1.Gone.length:Nat):Int))) then
  (idx p1.Gone v8_3).bind fun x75 =>
  (HN p0.Rows x75).bind fun x77 =>
  bif (decide (x77 < 0)) then
   some (({ Project:=ByteArray.empty,Version:=0,Picks:=[],Rows:=[] }:A0),21)
  else
   rec3 (IntKind.i64.wrap (v8_3 + 1))
 else
  kont3_4 v8_3
def IR (p1:Bd) (p0:A0):Option (A0 × Int) :=
 iter (fun rec3 s=>IL p1 p0 (fun v8_3=>IS p1 p0) rec3 s) AI 0
def IK (p1:Bd) (p0:A0) (kont2_2:(Int→Option (A0 × Int))) (rec2:(Int→Option (A0 × Int))) (v7_2:Int):Option (A0 × Int) :=
 bif (decide (v7_2 < ((p1.Rows.length:Nat):Int))) then
  (idx p1.Rows v7_2).bind fun x54 =>
  bif (((x54.length:Nat):Int) != (IntKind.i64.wrap (((p0.Picks.length:Nat):Int) + 1))) then
   some (({ Project:=ByteArray.empty,Version:=0,Picks:=[],Rows:=[] }:A0),11)
  else
   rec2 (IntKind.i64.wrap (v7_2 + 1))
 else
  kont2_2 v7_2
def Gv (p1:Bd) (p0:A0):Option (A0 × Int) :=
 iter (fun rec2 s=>IK p1 p0 (fun v7_2=>IR p1 p0) rec2 s) AI 0
def Gu (p1:Bd) (kont1_0:(Int→Option (A0 × Int))) (rec1:(Int→Option (A0 × Int))) (v6_1:Int):Option (A0 × Int) :=
 bif (decide (v6_1 < ((p1.Gone.length:Nat):Int))) then
  (idx p1.Gone v6_1).bind fun x34 =>
  (idx p1.Gone (IntKind.i64.wrap (v6_1 - 1))).bind fun x40 =>
  bif (decide (x34≤x40)) then
   some (({ Project:=ByteArray.empty,Version:=0,Picks:=[],Rows:=[] }:A0),11)
  else
   rec1 (IntKind.i64.wrap (v6_1 + 1))
 else
  kont1_0 v6_1
def IQ (p1:Bd) (p0:A0):Option (A0 × Int) :=
 iter (fun rec1 s=>Gu p1 (fun v6_1=>Gv p1 p0) rec1 s) AI 1
def Kj (p0:A0) (p1:Bd):Option (A0 × Int) :=
 (FM p0.Rows).bind fun x15 =>
 bif (!x15) then
  some (({ Project:=ByteArray.empty,Version:=0,Picks:=[],Rows:=[] }:A0),11)
 else
  (FM p1.Rows).bind fun x20 =>
  bif (!x20) then
   some (({ Project:=ByteArray.empty,Version:=0,Picks:=[],Rows:=[] }:A0),11)
  else
   IQ p1 p0
def QK (x45:AL) (p0:(List AL)) (v14_1:Int) (p1:(List AL)) (kont2_2:(Int→Option Bool)) (rec2:(Int→Option Bool)) (v49_2:Int):Option Bool :=
 bif (decide (v49_2 < ((x45.Keys.length:Nat):Int))) then
  (idx p0 v14_1).bind fun x54 =>
  (idx x54.Keys v49_2).bind fun x58 =>
  (idx p1 v14_1).bind fun x62 =>
  (idx x62.Keys v49_2).bind fun x66 =>
  bif (x58 != x66) then
   some false
  else
   rec2 (IntKind.i64.wrap (v49_2 + 1))
 else
  kont2_2 v49_2
def QJ (p0:(List AL)) (p1:(List AL)) (kont1_0:(Int→Option Bool)) (rec1:(Int→Option Bool)) (v14_1:Int):Option Bool :=
 bif (decide (v14_1 < ((p0.length:Nat):Int))) then
  (idx p0 v14_1).bind fun x19 =>
  (idx p1 v14_1).bind fun x24 =>
  bif (x19.Output != x24.Output) then
   some false
  else
   (idx p0 v14_1).bind fun x31 =>
   (idx p1 v14_1).bind fun x37 =>
   bif (((x31.Keys.length:Nat):Int) != ((x37.Keys.length:Nat):Int)) then
    some false
   else
    (idx p0 v14_1).bind fun x45 =>
    iter (fun rec2 s=>QK x45 p0 v14_1 p1 (fun v49_2=>rec1 (IntKind.i64.wrap (v14_1 + 1))) rec2 s) AI 0
 else
  kont1_0 v14_1
def Ry (p0:(List AL)) (p1:(List AL)):Option Bool :=
 bif (((p0.length:Nat):Int) != ((p1.length:Nat):Int)) then
  some false
 else
  iter (fun rec1 s=>QJ p0 p1 (fun v14_1=>some true) rec1 s) AI 0
def OI (p0:(List Int)):Option Ae :=
 bif (decide (0≤(0:Int)∧0≤(if 400 < ((p0.length:Nat):Int) then 400 else ((p0.length:Nat):Int))∧(if 400 < ((p0.length:Nat):Int) then 400 else ((p0.length:Nat):Int))≤((p0.length:Nat):Int))) then
  some ({ f_l:=(HR p0 0 (if 400 < ((p0.length:Nat):Int) then 400 else ((p0.length:Nat):Int))),f_at:=0 }:Ae)
 else none
def Fl (p0:Ae) (p1:Int):Option (Int × Ae) :=
 (idx p0.f_l (IntKind.i64.wrap ((IntKind.i64.wrap (p0.f_at + 1)) - 1))).bind fun x36 =>
 bif (decide (p1 > 256)) then
  bif (decide ((IntKind.i64.wrap (p0.f_at + 1)) < ((p0.f_l.length:Nat):Int))) then
   (idx p0.f_l (IntKind.i64.wrap (p0.f_at + 1))).bind fun x63 =>
   bif (decide (p1≠0)) then
    some ((Int.tmod (IntKind.i64.wrap ((IntKind.i64.wrap ((IntKind.i64.wrap x36) * 256)) + (IntKind.i64.wrap x63))) p1),({ f_l:=p0.f_l,f_at:=(IntKind.i64.wrap ((IntKind.i64.wrap (p0.f_at + 1)) + 1)) }:Ae))
   else none
  else
   bif (decide (p1≠0)) then
    some ((Int.tmod (IntKind.i64.wrap x36) p1),({ f_l:=p0.f_l,f_at:=(IntKind.i64.wrap (p0.f_at + 1)) }:Ae))
   else none
 else
  bif (decide (p1≠0)) then
   some ((Int.tmod (IntKind.i64.wrap x36) p1),({ f_l:=p0.f_l,f_at:=(IntKind.i64.wrap (p0.f_at + 1)) }:Ae))
  else none
def A8 (p0:Ae) (p1:Int):Option (Int × Ae) :=
 bif (decide (p1 < 1)) then
  some (0,p0)
 else
  bif (decide (p0.f_at ≥ ((p0.f_l.length:Nat):Int))) then
   some (0,p0)
  else
   Fl p0 p1
def B7 (p0:Ae) (p1:Int):Option (Bool × Ae) :=
 (A8 p0 p1).bind fun x7 =>
 some ((x7.1==(IntKind.i64.wrap (p1 - 1))),x7.2)
def AN (p0:Ae) (p1:Int) (p2:Int):Option (Int × Ae) :=
 (A8 p0 (IntKind.i64.wrap ((IntKind.i64.wrap (p2 - p1)) + 1))).bind fun x13 =>
 some ((IntKind.i64.wrap (p1 + x13.1)),x13.2)
def HL (v8_2:Int) (kont3_4:(Int→(List BD)→Option (Ax × Ae))) (rec3:((Int × (List BD))→Option (Ax × Ae))) (v9_3:Int) (b12_3:(List BD)):Option (Ax × Ae) :=
 bif (decide (v9_3 > 0)) then
  (Dh ((b12_3.length:Nat):Int)).bind fun x49 =>
  bif (decide (({ data:=#[108] }:ByteArray).size + x49.size≤9223372036854775807)) then
   bif rm b12_3.length ([({ Name:=(({ data:=#[108] }:ByteArray)++x49),Parent:=(IntKind.i64.wrap (1 + v8_2)) }:BD)]).length then
    rec3 ((IntKind.i64.wrap (v9_3 - 1)),(b12_3++[({ Name:=(({ data:=#[108] }:ByteArray)++x49),Parent:=(IntKind.i64.wrap (1 + v8_2)) }:BD)]))
   else none
  else none
 else
  kont3_4 v9_3 b12_3
def Fi (x15:(Int × Ae)) (kont2_2:(Int→Ae→(List BD)→Option (Ax × Ae))) (rec2:((Int × Ae × (List BD))→Option (Ax × Ae))) (v8_2:Int) (w0_2:Ae) (b12_2:(List BD)):Option (Ax × Ae) :=
 bif (decide (v8_2 < x15.1)) then
  (AN w0_2 1 2).bind fun x39 =>
  iter (fun rec3 s=>HL v8_2 (fun v9_3 b12_3=>rec2 ((IntKind.i64.wrap (v8_2 + 1)),x39.2,b12_3)) rec3 s.1 s.2) AI (x39.1,b12_2)
 else
  kont2_2 v8_2 w0_2 b12_2
def Fj (x15:(Int × Ae)) (p1:ByteArray) (k12_1:(List BD)):Option (Ax × Ae) :=
 (B7 x15.2 2).bind fun x31 =>
 bif x31.1 then
  some (({ Name:=p1,Codes:=k12_1 }:Ax),x31.2)
 else
  iter (fun rec2 s=>Fi x15 (fun v8_2 w0_2 b12_2=>some (({ Name:=p1,Codes:=b12_2 }:Ax),w0_2)) rec2 s.1 s.2.1 s.2.2) AI (0,x31.2,k12_1)
def Fh (x15:(Int × Ae)) (kont1_0:(Int→(List BD)→Option (Ax × Ae))) (rec1:((Int × (List BD))→Option (Ax × Ae))) (v7_1:Int) (b12_1:(List BD)):Option (Ax × Ae) :=
 bif (decide (v7_1 < x15.1)) then
  (Dh v7_1).bind fun x24 =>
  bif (decide (({ data:=#[107] }:ByteArray).size + x24.size≤9223372036854775807)) then
   bif rm b12_1.length ([({ Name:=(({ data:=#[107] }:ByteArray)++x24),Parent:=0 }:BD)]).length then
    rec1 ((IntKind.i64.wrap (v7_1 + 1)),(b12_1++[({ Name:=(({ data:=#[107] }:ByteArray)++x24),Parent:=0 }:BD)]))
   else none
  else none
 else
  kont1_0 v7_1 b12_1
def Ee (p0:Ae) (p1:ByteArray):Option (Ax × Ae) :=
 (AN p0 1 3).bind fun x15 =>
 iter (fun rec1 s=>Fh x15 (fun v7_1 b12_1=>Fj x15 p1 b12_1) rec1 s.1 s.2) AI (0,[({ Name:=({ data:=#[116,111,112] }:ByteArray),Parent:=(-1) }:BD)])
def CS (p0:Ae) (p1:ByteArray):Option (A3 × Ae) :=
 (AN p0 (-4) 2).bind fun x8 =>
 (A8 x8.2 4).bind fun x15 =>
 (idx ([[1],[1,5],[1,5,20],[1,2,4,12]]) x15.1).bind fun x16 =>
 (B7 x15.2 3).bind fun x19 =>
 (A8 x19.2 45).bind fun x24 =>
 some (({ Name:=p1,Kind:=3,List_:=0,Low:=x8.1,High:=(IntKind.i64.wrap (x8.1 + x24.1)),Widths:=x16,Optional:=x19.1 }:A3),x24.2)
def Ev (kont1_0:(Int→Ae→(List A3)→Option (Af × Ae))) (rec1:((Int × Ae × (List A3))→Option (Af × Ae))) (v4_1:Int) (w0_1:Ae) (b12_1:(List A3)):Option (Af × Ae) :=
 bif (decide (v4_1 > 0)) then
  (Dh ((b12_1.length:Nat):Int)).bind fun x34 =>
  bif (decide (({ data:=#[109] }:ByteArray).size + x34.size≤9223372036854775807)) then
   (CS w0_1 (({ data:=#[109] }:ByteArray)++x34)).bind fun x36 =>
   bif rm b12_1.length [x36.1].length then
    rec1 ((IntKind.i64.wrap (v4_1 - 1)),x36.2,(b12_1++[x36.1]))
   else none
  else none
 else
  kont1_0 v4_1 w0_1 b12_1
def JU (kont2_0:(Int→Ae→(List A3)→Option (Af × Ae))) (rec2:((Int × Ae × (List A3))→Option (Af × Ae))) (v4_2:Int) (w0_2:Ae) (b12_2:(List A3)):Option (Af × Ae) :=
 bif (decide (v4_2 > 0)) then
  (Dh ((b12_2.length:Nat):Int)).bind fun x34 =>
  bif (decide (({ data:=#[109] }:ByteArray).size + x34.size≤9223372036854775807)) then
   (CS w0_2 (({ data:=#[109] }:ByteArray)++x34)).bind fun x36 =>
   bif rm b12_2.length [x36.1].length then
    rec2 ((IntKind.i64.wrap (v4_2 - 1)),x36.2,(b12_2++[x36.1]))
   else none
  else none
 else
  kont2_0 v4_2 w0_2 b12_2
def Eu (p0:Ae):Option (Af × Ae) :=
 (Ee p0 ({ data:=#[111,110,101] }:ByteArray)).bind fun x6 =>
 (Ee x6.2 ({ data:=#[116,119,111] }:ByteArray)).bind fun x8 =>
 (B7 x8.2 2).bind fun x15 =>
 bif x15.1 then
  bif rm ([({ Name:=({ data:=#[119,104,111] }:ByteArray),Kind:=1,List_:=0,Low:=0,High:=0,Widths:=[],Optional:=false }:A3),({ Name:=({ data:=#[115,101,120] }:ByteArray),Kind:=2,List_:=0,Low:=0,High:=0,Widths:=[],Optional:=false }:A3)]).length ([({ Name:=({ data:=#[106,111,98] }:ByteArray),Kind:=2,List_:=1,Low:=0,High:=0,Widths:=[],Optional:=false }:A3)]).length then
   (AN x15.2 1 3).bind fun x23 =>
   iter (fun rec1 s=>Ev (fun v4_1 w0_1 b12_1=>some (({ Lists:=[x6.1,x8.1],Columns:=b12_1 }:Af),w0_1)) rec1 s.1 s.2.1 s.2.2) AI (x23.1,x23.2,([({ Name:=({ data:=#[119,104,111] }:ByteArray),Kind:=1,List_:=0,Low:=0,High:=0,Widths:=[],Optional:=false }:A3),({ Name:=({ data:=#[115,101,120] }:ByteArray),Kind:=2,List_:=0,Low:=0,High:=0,Widths:=[],Optional:=false }:A3)]++[({ Name:=({ data:=#[106,111,98] }:ByteArray),Kind:=2,List_:=1,Low:=0,High:=0,Widths:=[],Optional:=false }:A3)]))
  else none
 else
  (AN x15.2 1 3).bind fun x23 =>
  iter (fun rec2 s=>JU (fun v4_2 w0_2 b12_2=>some (({ Lists:=[x6.1,x8.1],Columns:=b12_2 }:Af),w0_2)) rec2 s.1 s.2.1 s.2.2) AI (x23.1,x23.2,[({ Name:=({ data:=#[119,104,111] }:ByteArray),Kind:=1,List_:=0,Low:=0,High:=0,Widths:=[],Optional:=false }:A3),({ Name:=({ data:=#[115,101,120] }:ByteArray),Kind:=2,List_:=0,Low:=0,High:=0,Widths:=[],Optional:=false }:A3)])
def EM (p0:Ae) (p1:Af) (p2:Int):Option (Int × Ae) :=
 (idx p1.Columns p2).bind fun x12 =>
 bif (x12.Kind==1) then
  (AN p0 1 60).bind fun x19 =>
  some (x19.1,x19.2)
 else
  bif (x12.Kind==2) then
   (Fw p1 p2).bind fun x24 =>
   (A8 p0 ((x24.length:Nat):Int)).bind fun x29 =>
   (idx x24 x29.1).bind fun x30 =>
   some (x30,x29.2)
  else
   bif x12.Optional then
    (B7 p0 4).bind fun x36 =>
    bif x36.1 then
     some ((-1099511627776),x36.2)
    else
     (AN x36.2 x12.Low x12.High).bind fun x43 =>
     some (x43.1,x43.2)
   else
    (AN p0 x12.Low x12.High).bind fun x43 =>
    some (x43.1,x43.2)
def FX (p1:Af) (kont1_0:(Int→Ae→(List Int)→Option ((List Int) × Ae))) (rec1:((Int × Ae × (List Int))→Option ((List Int) × Ae))) (v10_1:Int) (w0_1:Ae) (b5_1:(List Int)):Option ((List Int) × Ae) :=
 bif (decide (v10_1 < ((p1.Columns.length:Nat):Int))) then
  (EM w0_1 p1 v10_1).bind fun x17 =>
  bif rm b5_1.length [x17.1].length then
   rec1 ((IntKind.i64.wrap (v10_1 + 1)),x17.2,(b5_1++[x17.1]))
  else none
 else
  kont1_0 v10_1 w0_1 b5_1
def EK (p0:Ae) (p1:Af):Option ((List Int) × Ae) :=
 iter (fun rec1 s=>FX p1 (fun v10_1 w0_1 b5_1=>some (b5_1,w0_1)) rec1 s.1 s.2.1 s.2.2) AI (0,p0,[])
def Gi (x9:(Af × Ae)) (kont1_0:(Int→Ae→(List (List Int))→Option (Aq × Ae))) (rec1:((Int × Ae × (List (List Int)))→Option (Aq × Ae))) (v7_1:Int) (w0_1:Ae) (c6_2_1:(List (List Int))):Option (Aq × Ae) :=
 bif (decide (v7_1 > 0)) then
  (EK w0_1 x9.1).bind fun x24 =>
  (FK c6_2_1 x24.1).bind fun x25 =>
  rec1 ((IntKind.i64.wrap (v7_1 - 1)),x24.2,x25)
 else
  kont1_0 v7_1 w0_1 c6_2_1
def Ex (p0:Ae) (p1:Int):Option (Aq × Ae) :=
 (Eu p0).bind fun x9 =>
 (A8 x9.2 (IntKind.i64.wrap (p1 + 1))).bind fun x15 =>
 iter (fun rec1 s=>Gi x9 (fun v7_1 w0_1 c6_2_1=>some (({ Schema:=x9.1,Rows:=c6_2_1,Gone:=[],Version:=0 }:Aq),w0_1)) rec1 s.1 s.2.1 s.2.2) AI (x15.1,x15.2,[])
def Cq (x7:(Int × Ae)) (p1:Aq) (k0_1:Ae) (k5_2_1:Int):Option (B1 × Ae) :=
 bif (decide (x7.1≤2)) then
  (EK k0_1 p1.Schema).bind fun x37 =>
  bif (x7.1==2) then
   (idx x37.1 0).bind fun x46 =>
   some (({ Kind:=x7.1,Row:=(x37.1.set (0:Int).toNat k5_2_1),Id:=0 }:B1),x37.2)
  else
   some (({ Kind:=x7.1,Row:=x37.1,Id:=0 }:B1),x37.2)
 else
  some (({ Kind:=x7.1,Row:=[],Id:=k5_2_1 }:B1),k0_1)
def F8 (p0:Ae) (p1:Aq):Option (B1 × Ae) :=
 (AN p0 1 4).bind fun x7 =>
 (AN x7.2 1 60).bind fun x9 =>
 bif (decide (((p1.Rows.length:Nat):Int) > 0)) then
  (B7 x9.2 2).bind fun x17 =>
  bif x17.1 then
   (A8 x17.2 ((p1.Rows.length:Nat):Int)).bind fun x25 =>
   (idx p1.Rows x25.1).bind fun x26 =>
   (idx x26 0).bind fun x28 =>
   Cq x7 p1 x25.2 x28
  else
   Cq x7 p1 x17.2 x9.1
 else
  Cq x7 p1 x9.2 x9.1
def Hb (kont1_0:(Int→Ae→Aq→(List B1)→Option ((List B1) × Ae))) (rec1:((Int × Ae × Aq × (List B1))→Option ((List B1) × Ae))) (v8_1:Int) (w0_1:Ae) (w4_1:Aq) (b7_1:(List B1)):Option ((List B1) × Ae) :=
 bif (decide (v8_1 > 0)) then
  (F8 w0_1 w4_1).bind fun x22 =>
  (EW w4_1 x22.1).bind fun x26 =>
  bif (x26.2==0) then
   bif rm b7_1.length [x22.1].length then
    rec1 ((IntKind.i64.wrap (v8_1 - 1)),x22.2,x26.1,(b7_1++[x22.1]))
   else none
  else
   rec1 ((IntKind.i64.wrap (v8_1 - 1)),x22.2,w4_1,b7_1)
 else
  kont1_0 v8_1 w0_1 w4_1 b7_1
def EJ (p0:Ae) (p1:Aq) (p2:Int):Option ((List B1) × Ae) :=
 (A8 p0 (IntKind.i64.wrap (p2 + 1))).bind fun x15 =>
 iter (fun rec1 s=>Hb (fun v8_1 w0_1 w4_1 b7_1=>some (b7_1,w0_1)) rec1 s.1 s.2.1 s.2.2.1 s.2.2.2) AI (x15.1,x15.2,p1,[])
def T7 (v6_1:Int) (b5_1:(List Ap)):Option (A6 × (List Ap)) :=
 some (({ Project:=({ data:=#[97,108,108,95,114,111,119,115] }:ByteArray),Source:=({ data:=#[115,114,99] }:ByteArray),Cohort:=({ Op:=1,Column:=0,Code:=0,Low:=0,High:=0,Kids:=[] }:As),Sample:=({ Part:=1,Of:=1,Seed:=0 }:G2),Questions:=[({ Name:=({ data:=#[113] }:ByteArray),Kind:=1,Filter:=({ Op:=1,Column:=0,Code:=0,Low:=0,High:=0,Kids:=[] }:As),Dims:=[({ Column:=1,Level:=0 }:Ap)],Measure:=(-1),Terms:=[],Event:=({ Op:=0,Column:=0,Code:=0,Low:=0,High:=0,Kids:=[] }:As) }:A9)] }:A6),b5_1)
def LX (p0:Af) (kont1_0:(Int→(List Ap)→Option (A6 × (List Ap)))) (rec1:((Int × (List Ap))→Option (A6 × (List Ap)))) (v6_1:Int) (b5_1:(List Ap)):Option (A6 × (List Ap)) :=
 bif (decide (v6_1 < ((p0.Columns.length:Nat):Int))) then
  (Cg p0 v6_1).bind fun x21 =>
  bif rm b5_1.length [({ Column:=v6_1,Level:=x21 }:Ap)].length then
   rec1 ((IntKind.i64.wrap (v6_1 + 1)),(b5_1++[({ Column:=v6_1,Level:=x21 }:Ap)]))
  else none
 else
  kont1_0 v6_1 b5_1
def OF (p0:Af):Option (A6 × (List Ap)) :=
 iter (fun rec1 s=>LX p0 T7 rec1 s.1 s.2) AI (1,[])
def Ew (p0:Ae):Option (Int × Ae) :=
 (A8 p0 60000).bind fun x4 =>
 (A8 x4.2 60000).bind fun x6 =>
 (A8 x6.2 7).bind fun x9 =>
 some ((IntKind.i64.wrap ((IntKind.i64.wrap (x4.1 * x6.1)) + x9.1)),x9.2)
def Ef (p0:Af) (p1:Int) (kont1_0:(Int→(List Int)→Option (List Int))) (rec1:((Int × (List Int))→Option (List Int))) (v10_1:Int) (b5_1:(List Int)):Option (List Int) :=
 bif (decide (v10_1 < ((p0.Columns.length:Nat):Int))) then
  (idx p0.Columns v10_1).bind fun x16 =>
  bif (x16.Kind==p1) then
   bif rm b5_1.length [v10_1].length then
    rec1 ((IntKind.i64.wrap (v10_1 + 1)),(b5_1++[v10_1]))
   else none
  else
   rec1 ((IntKind.i64.wrap (v10_1 + 1)),b5_1)
 else
  kont1_0 v10_1 b5_1
def Da (p0:Af) (p1:Int):Option (List Int) :=
 iter (fun rec1 s=>Ef p0 p1 (fun v10_1 b5_1=>some b5_1) rec1 s.1 s.2) AI (0,[])
def Bl (p0:Ae) (p1:Af):Option (Int × Ae) :=
 (Da p1 3).bind fun x7 =>
 (A8 p0 ((x7.length:Nat):Int)).bind fun x12 =>
 (idx x7 x12.1).bind fun x13 =>
 some (x13,x12.2)
def Ff (x9:(List Int)) (x16:(Int × Ae)) (p1:Af) (kont1_0:(Int→Ae→(List Ap)→Option ((List Ap) × Ae))) (rec1:((Int × Ae × (List Ap))→Option ((List Ap) × Ae))) (v20_1:Int) (w0_1:Ae) (b5_1:(List Ap)):Option ((List Ap) × Ae) :=
 bif (decide (v20_1 < (((HR x9 x16.1 ((x9.length:Nat):Int)).length:Nat):Int))) then
  (idx (HR x9 x16.1 ((x9.length:Nat):Int)) v20_1).bind fun x26 =>
  (idx (HR x9 x16.1 ((x9.length:Nat):Int)) v20_1).bind fun x32 =>
  (Cg p1 x32).bind fun x34 =>
  (A8 w0_1 (IntKind.i64.wrap (x34 + 1))).bind fun x36 =>
  bif rm b5_1.length [({ Column:=x26,Level:=x36.1 }:Ap)].length then
   rec1 ((IntKind.i64.wrap (v20_1 + 1)),x36.2,(b5_1++[({ Column:=x26,Level:=x36.1 }:Ap)]))
  else none
 else
  kont1_0 v20_1 w0_1 b5_1
def Fg (x9:(List Int)) (p1:Af) (kont2_0:(Int→Ae→(List Ap)→Option ((List Ap) × Ae))) (rec2:((Int × Ae × (List Ap))→Option ((List Ap) × Ae))) (v20_2:Int) (w0_2:Ae) (b5_2:(List Ap)):Option ((List Ap) × Ae) :=
 bif (decide (v20_2 < ((x9.length:Nat):Int))) then
  (idx x9 v20_2).bind fun x26 =>
  (idx x9 v20_2).bind fun x32 =>
  (Cg p1 x32).bind fun x34 =>
  (A8 w0_2 (IntKind.i64.wrap (x34 + 1))).bind fun x36 =>
  bif rm b5_2.length [({ Column:=x26,Level:=x36.1 }:Ap)].length then
   rec2 ((IntKind.i64.wrap (v20_2 + 1)),x36.2,(b5_2++[({ Column:=x26,Level:=x36.1 }:Ap)]))
  else none
 else
  kont2_0 v20_2 w0_2 b5_2
def Ed (p0:Ae) (p1:Af):Option ((List Ap) × Ae) :=
 (Da p1 2).bind fun x9 =>
 (B7 p0 2).bind fun x11 =>
 bif x11.1 then
  (A8 x11.2 ((x9.length:Nat):Int)).bind fun x16 =>
  bif (decide (0≤(x16.1:Int)∧x16.1≤((x9.length:Nat):Int)∧((x9.length:Nat):Int)≤((x9.length:Nat):Int))) then
   iter (fun rec1 s=>Ff x9 x16 p1 (fun v20_1 w0_1 b5_1=>some (b5_1,w0_1)) rec1 s.1 s.2.1 s.2.2) AI (0,x16.2,[])
  else none
 else
  iter (fun rec2 s=>Fg x9 p1 (fun v20_2 w0_2 b5_2=>some (b5_2,w0_2)) rec2 s.1 s.2.1 s.2.2) AI (0,x11.2,[])
def EI (p0:Ae) (p1:Af):Option (Int × Ae) :=
 (Da p1 2).bind fun x7 =>
 (A8 p0 ((x7.length:Nat):Int)).bind fun x12 =>
 (idx x7 x12.1).bind fun x13 =>
 some (x13,x12.2)
def CR (p1:Af) (k0_1:Ae):Option (As × Ae) :=
 (A8 k0_1 5).bind fun x53 =>
 bif (x53.1==1) then
  (EI x53.2 p1).bind fun x58 =>
  (idx p1.Columns x58.1).bind fun x66 =>
  (idx p1.Lists x66.List_).bind fun x69 =>
  (A8 x58.2 ((x69.Codes.length:Nat):Int)).bind fun x73 =>
  some (({ Op:=2,Column:=x58.1,Code:=x73.1,Low:=0,High:=0,Kids:=[] }:As),x73.2)
 else
  bif (x53.1==2) then
   (Bl x53.2 p1).bind fun x80 =>
   (idx p1.Columns x80.1).bind fun x84 =>
   (AN x80.2 (-3) 40).bind fun x88 =>
   (A8 x88.2 30).bind fun x94 =>
   some (({ Op:=3,Column:=x80.1,Code:=0,Low:=(IntKind.i64.wrap (x84.Low + x88.1)),High:=(IntKind.i64.wrap ((IntKind.i64.wrap (x84.Low + x88.1)) + x94.1)),Kids:=[] }:As),x94.2)
  else
   bif (x53.1==3) then
    (Bl x53.2 p1).bind fun x80 =>
    (idx p1.Columns x80.1).bind fun x84 =>
    (AN x80.2 (-3) 40).bind fun x88 =>
    (A8 x88.2 30).bind fun x94 =>
    some (({ Op:=3,Column:=x80.1,Code:=0,Low:=(IntKind.i64.wrap (x84.Low + x88.1)),High:=(IntKind.i64.wrap ((IntKind.i64.wrap (x84.Low + x88.1)) + x94.1)),Kids:=[] }:As),x94.2)
   else
    bif (x53.1==4) then
     (Bl x53.2 p1).bind fun x101 =>
     (idx p1.Columns x101.1).bind fun x105 =>
     bif x105.Optional then
      some (({ Op:=4,Column:=x101.1,Code:=0,Low:=0,High:=0,Kids:=[] }:As),x101.2)
     else
      some (({ Op:=1,Column:=0,Code:=0,Low:=0,High:=0,Kids:=[] }:As),x101.2)
    else
     some (({ Op:=1,Column:=0,Code:=0,Low:=0,High:=0,Kids:=[] }:As),x53.2)
def Cy (d:Nat) (self_draw_Codes_Cond:(Ae→Af→Int→Option (As × Ae))) (p0:Ae) (p1:Af) (p2:Int):Option (As × Ae) :=
 bif (decide (p2 > 0)) then
  (A8 p0 5).bind fun x14 =>
  bif (x14.1==2) then
   (self_draw_Codes_Cond x14.2 p1 (IntKind.i64.wrap (p2 - 1))).bind fun x21 =>
   some (({ Op:=7,Column:=0,Code:=0,Low:=0,High:=0,Kids:=[x21.1] }:As),x21.2)
  else
   bif (x14.1==3) then
    (self_draw_Codes_Cond x14.2 p1 (IntKind.i64.wrap (p2 - 1))).bind fun x30 =>
    (self_draw_Codes_Cond x30.2 p1 (IntKind.i64.wrap (p2 - 1))).bind fun x35 =>
    some (({ Op:=5,Column:=0,Code:=0,Low:=0,High:=0,Kids:=[x30.1,x35.1] }:As),x35.2)
   else
    bif (x14.1==4) then
     (self_draw_Codes_Cond x14.2 p1 (IntKind.i64.wrap (p2 - 1))).bind fun x44 =>
     (self_draw_Codes_Cond x44.2 p1 (IntKind.i64.wrap (p2 - 1))).bind fun x49 =>
     some (({ Op:=6,Column:=0,Code:=0,Low:=0,High:=0,Kids:=[x44.1,x49.1] }:As),x49.2)
    else
     CR p1 x14.2
 else
  CR p1 p0
def AR:Nat→Ae→Af→Int→Option (As × Ae)
 | 0,_,_,_=>none
 | d + 1,p0,p1,p2=>Cy d (AR d) p0 p1 p2
def ED (x11:(List Int)) (p2:Int) (kont1_0:(Int→Ae→(List Int)→Option ((List Int) × Ae))) (rec1:((Int × Ae × (List Int))→Option ((List Int) × Ae))) (v14_1:Int) (w0_1:Ae) (b7_1:(List Int)):Option ((List Int) × Ae) :=
 bif (decide (v14_1 < ((x11.length:Nat):Int))) then
  (idx x11 v14_1).bind fun x19 =>
  bif (x19 != p2) then
   bif (((b7_1.length:Nat):Int)==0) then
    (idx x11 v14_1).bind fun x35 =>
    bif rm b7_1.length [x35].length then
     rec1 ((IntKind.i64.wrap (v14_1 + 1)),w0_1,(b7_1++[x35]))
    else none
   else
    (B7 w0_1 2).bind fun x29 =>
    bif x29.1 then
     (idx x11 v14_1).bind fun x35 =>
     bif rm b7_1.length [x35].length then
      rec1 ((IntKind.i64.wrap (v14_1 + 1)),x29.2,(b7_1++[x35]))
     else none
    else
     rec1 ((IntKind.i64.wrap (v14_1 + 1)),x29.2,b7_1)
  else
   rec1 ((IntKind.i64.wrap (v14_1 + 1)),w0_1,b7_1)
 else
  kont1_0 v14_1 w0_1 b7_1
def EL (p0:Ae) (p1:Af) (p2:Int):Option ((List Int) × Ae) :=
 (Da p1 3).bind fun x11 =>
 iter (fun rec1 s=>ED x11 p2 (fun v14_1 w0_1 b7_1=>some (b7_1,w0_1)) rec1 s.1 s.2.1 s.2.2) AI (0,p0,[])
def Ct (p2:(List ByteArray)) (d:Nat) (p1:Af) (k0_1:Ae):Option (C6 × Ae) :=
 (A8 k0_1 6).bind fun x32 =>
 bif (x32.1==1) then
  (AN x32.2 (-9) 30).bind fun x36 =>
  some (({ Op:=1,Num:=x36.1,Name:=ByteArray.empty,Column:=0,Columns:=[],Dims:=[],Cond:=({ Op:=0,Column:=0,Code:=0,Low:=0,High:=0,Kids:=[] }:As),Event:=({ Op:=0,Column:=0,Code:=0,Low:=0,High:=0,Kids:=[] }:As),Kids:=[] }:C6),x36.2)
 else
  bif (x32.1==2) then
   bif (decide (((p2.length:Nat):Int) > 0)) then
    (A8 x32.2 ((p2.length:Nat):Int)).bind fun x47 =>
    (idx p2 x47.1).bind fun x48 =>
    some (({ Op:=2,Num:=0,Name:=x48,Column:=0,Columns:=[],Dims:=[],Cond:=({ Op:=0,Column:=0,Code:=0,Low:=0,High:=0,Kids:=[] }:As),Event:=({ Op:=0,Column:=0,Code:=0,Low:=0,High:=0,Kids:=[] }:As),Kids:=[] }:C6),x47.2)
   else
    (AR d x32.2 p1 2).bind fun x71 =>
    some (({ Op:=3,Num:=0,Name:=ByteArray.empty,Column:=0,Columns:=[],Dims:=[],Cond:=x71.1,Event:=({ Op:=0,Column:=0,Code:=0,Low:=0,High:=0,Kids:=[] }:As),Kids:=[] }:C6),x71.2)
  else
   bif (x32.1==3) then
    (Bl x32.2 p1).bind fun x55 =>
    (AR d x55.2 p1 1).bind fun x58 =>
    some (({ Op:=4,Num:=0,Name:=ByteArray.empty,Column:=x55.1,Columns:=[],Dims:=[],Cond:=x58.1,Event:=({ Op:=0,Column:=0,Code:=0,Low:=0,High:=0,Kids:=[] }:As),Kids:=[] }:C6),x58.2)
   else
    bif (x32.1==4) then
     (Bl x32.2 p1).bind fun x64 =>
     (AR d x64.2 p1 0).bind fun x67 =>
     some (({ Op:=5,Num:=0,Name:=ByteArray.empty,Column:=x64.1,Columns:=[],Dims:=[],Cond:=x67.1,Event:=({ Op:=0,Column:=0,Code:=0,Low:=0,High:=0,Kids:=[] }:As),Kids:=[] }:C6),x67.2)
    else
     (AR d x32.2 p1 2).bind fun x71 =>
     some (({ Op:=3,Num:=0,Name:=ByteArray.empty,Column:=0,Columns:=[],Dims:=[],Cond:=x71.1,Event:=({ Op:=0,Column:=0,Code:=0,Low:=0,High:=0,Kids:=[] }:As),Kids:=[] }:C6),x71.2)
def Dr (d:Nat) (self_draw_Codes_Number:(Ae→Af→(List ByteArray)→Int→Option (C6 × Ae))) (p0:Ae) (p1:Af) (p2:(List ByteArray)) (p3:Int):Option (C6 × Ae) :=
 bif (decide (p3 > 0)) then
  (B7 p0 2).bind fun x13 =>
  bif x13.1 then
   (AN x13.2 6 9).bind fun x16 =>
   (self_draw_Codes_Number x16.2 p1 p2 (IntKind.i64.wrap (p3 - 1))).bind fun x22 =>
   (self_draw_Codes_Number x22.2 p1 p2 (IntKind.i64.wrap (p3 - 1))).bind fun x28 =>
   some (({ Op:=x16.1,Num:=0,Name:=ByteArray.empty,Column:=0,Columns:=[],Dims:=[],Cond:=({ Op:=0,Column:=0,Code:=0,Low:=0,High:=0,Kids:=[] }:As),Event:=({ Op:=0,Column:=0,Code:=0,Low:=0,High:=0,Kids:=[] }:As),Kids:=[x22.1,x28.1] }:C6),x28.2)
  else
   Ct p2 d p1 x13.2
 else
  Ct p2 d p1 p0
def BL:Nat→Ae→Af→(List ByteArray)→Int→Option (C6 × Ae)
 | 0,_,_,_,_=>none
 | d + 1,p0,p1,p2,p3=>Dr d (BL d) p0 p1 p2 p3
def F9 (d:Nat) (p0:Ae) (p1:Af) (p2:(List ByteArray)):Option (C6 × Ae) :=
 (Bl p0 p1).bind fun x13 =>
 (A8 x13.2 8).bind fun x15 =>
 bif (x15.1==1) then
  (Ed x15.2 p1).bind fun x21 =>
  (AR d x21.2 p1 1).bind fun x24 =>
  (B7 x24.2 2).bind fun x27 =>
  bif x27.1 then
   some (({ Op:=10,Num:=0,Name:=ByteArray.empty,Column:=x13.1,Columns:=[],Dims:=x21.1,Cond:=x24.1,Event:=({ Op:=0,Column:=0,Code:=0,Low:=0,High:=0,Kids:=[] }:As),Kids:=[] }:C6),x27.2)
  else
   some (({ Op:=10,Num:=0,Name:=ByteArray.empty,Column:=(-1),Columns:=[],Dims:=x21.1,Cond:=x24.1,Event:=({ Op:=0,Column:=0,Code:=0,Low:=0,High:=0,Kids:=[] }:As),Kids:=[] }:C6),x27.2)
 else
  bif (x15.1==2) then
   (Ed x15.2 p1).bind fun x21 =>
   (AR d x21.2 p1 1).bind fun x24 =>
   (B7 x24.2 2).bind fun x27 =>
   bif x27.1 then
    some (({ Op:=10,Num:=0,Name:=ByteArray.empty,Column:=x13.1,Columns:=[],Dims:=x21.1,Cond:=x24.1,Event:=({ Op:=0,Column:=0,Code:=0,Low:=0,High:=0,Kids:=[] }:As),Kids:=[] }:C6),x27.2)
   else
    some (({ Op:=10,Num:=0,Name:=ByteArray.empty,Column:=(-1),Columns:=[],Dims:=x21.1,Cond:=x24.1,Event:=({ Op:=0,Column:=0,Code:=0,Low:=0,High:=0,Kids:=[] }:As),Kids:=[] }:C6),x27.2)
  else
   bif (x15.1==3) then
    (EL x15.2 p1 x13.1).bind fun x36 =>
    bif (decide (((x36.1.length:Nat):Int) > 0)) then
     (AR d x36.2 p1 1).bind fun x44 =>
     some (({ Op:=11,Num:=0,Name:=ByteArray.empty,Column:=x13.1,Columns:=x36.1,Dims:=[],Cond:=x44.1,Event:=({ Op:=0,Column:=0,Code:=0,Low:=0,High:=0,Kids:=[] }:As),Kids:=[] }:C6),x44.2)
    else
     (BL d x36.2 p1 p2 2).bind fun x93 =>
     some (x93.1,x93.2)
   else
    bif (x15.1==4) then
     (idx p1.Columns x13.1).bind fun x51 =>
     bif (decide (x51.Low ≥ 0)) then
      (AR d x15.2 p1 0).bind fun x58 =>
      (AR d x58.2 p1 0).bind fun x61 =>
      some (({ Op:=12,Num:=0,Name:=ByteArray.empty,Column:=x13.1,Columns:=[],Dims:=[],Cond:=x61.1,Event:=x58.1,Kids:=[] }:C6),x61.2)
     else
      (BL d x15.2 p1 p2 2).bind fun x93 =>
      some (x93.1,x93.2)
    else
     bif (x15.1==5) then
      (idx p1.Columns x13.1).bind fun x68 =>
      (A8 x15.2 ((x68.Widths.length:Nat):Int)).bind fun x76 =>
      (idx x68.Widths x76.1).bind fun x77 =>
      (AR d x76.2 p1 1).bind fun x81 =>
      some (({ Op:=13,Num:=x77,Name:=ByteArray.empty,Column:=x13.1,Columns:=[],Dims:=[],Cond:=x81.1,Event:=({ Op:=0,Column:=0,Code:=0,Low:=0,High:=0,Kids:=[] }:As),Kids:=[] }:C6),x81.2)
     else
      bif (x15.1==6) then
       (AR d x15.2 p1 0).bind fun x88 =>
       some (({ Op:=14,Num:=0,Name:=ByteArray.empty,Column:=x13.1,Columns:=[],Dims:=[],Cond:=x88.1,Event:=({ Op:=0,Column:=0,Code:=0,Low:=0,High:=0,Kids:=[] }:As),Kids:=[] }:C6),x88.2)
      else
       (BL d x15.2 p1 p2 2).bind fun x93 =>
       some (x93.1,x93.2)
def FR (d:Nat) (p1:Af) (kont1_0:(Int→Ae→(List BU)→(List ByteArray)→Option ((List BU) × Ae))) (rec1:((Int × Ae × (List BU) × (List ByteArray))→Option ((List BU) × Ae))) (v9_1:Int) (w0_1:Ae) (b7_1:(List BU)) (b8_1:(List ByteArray)):Option ((List BU) × Ae) :=
 bif (decide (v9_1 > 0)) then
  (Dh ((b7_1.length:Nat):Int)).bind fun x21 =>
  bif (decide (({ data:=#[118] }:ByteArray).size + x21.size≤9223372036854775807)) then
   (B7 w0_1 2).bind fun x24 =>
   (F9 d x24.2 p1 b8_1).bind fun x28 =>
   bif (decide (x28.1.Op < 10)) then
    bif rm b8_1.length ([(({ data:=#[118] }:ByteArray)++x21)]).length then
     bif rm b7_1.length ([({ Name:=(({ data:=#[118] }:ByteArray)++x21),Out:=x24.1,Expr:=x28.1 }:BU)]).length then
      rec1 ((IntKind.i64.wrap (v9_1 - 1)),x28.2,(b7_1++[({ Name:=(({ data:=#[118] }:ByteArray)++x21),Out:=x24.1,Expr:=x28.1 }:BU)]),(b8_1++[(({ data:=#[118] }:ByteArray)++x21)]))
     else none
    else none
   else
    bif rm b7_1.length ([({ Name:=(({ data:=#[118] }:ByteArray)++x21),Out:=x24.1,Expr:=x28.1 }:BU)]).length then
     rec1 ((IntKind.i64.wrap (v9_1 - 1)),x28.2,(b7_1++[({ Name:=(({ data:=#[118] }:ByteArray)++x21),Out:=x24.1,Expr:=x28.1 }:BU)]),b8_1)
    else none
  else none
 else
  kont1_0 v9_1 w0_1 b7_1 b8_1
def D5 (d:Nat) (p0:Ae) (p1:Af) (p2:Int):Option ((List BU) × Ae) :=
 (A8 p0 (IntKind.i64.wrap (p2 + 1))).bind fun x14 =>
 iter (fun rec1 s=>FR d p1 (fun v9_1 w0_1 b7_1 b8_1=>some (b7_1,w0_1)) rec1 s.1 s.2.1 s.2.2.1 s.2.2.2) AI (x14.1,x14.2,[],[])
def Kb (d:Nat) (p0:Ae):Option (Aq × (List B1) × A6 × (List Ap) × Int × (List BU) × Ae) :=
 (Ex p0 8).bind fun x13 =>
 (EJ x13.2 x13.1 5).bind fun x16 =>
 (OF x13.1.Schema).bind fun x20 =>
 (Ew x16.2).bind fun x28 =>
 (D5 d x28.2 x13.1.Schema 3).bind fun x32 =>
 some (x13.1,x16.1,x20.1,x20.2,x28.1,x32.1,x32.2)
def Ka :Option Bool :=
 (CN ([({ Output:=1,Keys:=[3,5] }:AL),({ Output:=2,Keys:=[4] }:AL)]) [5,6]).bind fun x10 =>
 bif (x10.2==0) then
  (Ry x10.1 ([({ Output:=1,Keys:=[5] }:AL)])).bind fun x20 =>
  some x20
 else
  some false
def CK (x202:(List Int)) (x159:(A0 × Int)) (v183_3:Int) (x116:(A0 × Int)) (kont4_6:(Int→Option Bool)) (rec4:(Int→Option Bool)) (v205_4:Int):Option Bool :=
 bif (decide (v205_4 < ((x202.length:Nat):Int))) then
  (idx x159.1.Rows v183_3).bind fun x211 =>
  (idx x211 v205_4).bind fun x214 =>
  (idx x116.1.Rows v183_3).bind fun x219 =>
  (idx x219 v205_4).bind fun x222 =>
  bif (x214 != x222) then
   some false
  else
   rec4 (IntKind.i64.wrap (v205_4 + 1))
 else
  kont4_6 v205_4
def CJ (x159:(A0 × Int)) (x116:(A0 × Int)) (kont3_4:(Int→Option Bool)) (rec3:(Int→Option Bool)) (v183_3:Int):Option Bool :=
 bif (decide (v183_3 < ((x159.1.Rows.length:Nat):Int))) then
  (idx x159.1.Rows v183_3).bind fun x189 =>
  (idx x116.1.Rows v183_3).bind fun x195 =>
  bif (((x189.length:Nat):Int) != ((x195.length:Nat):Int)) then
   some false
  else
   (idx x159.1.Rows v183_3).bind fun x202 =>
   iter (fun rec4 s=>CK x202 x159 v183_3 x116 (fun v205_4=>rec3 (IntKind.i64.wrap (v183_3 + 1))) rec4 s) AI 0
 else
  kont3_4 v183_3
def Ch (x108:(A0 × Int)) (x78:(Bd × Int)) (x116:(A0 × Int)):Option Bool :=
 (Kj x108.1 x78.1).bind fun x159 =>
 bif (bif (bif (x159.2 != 0) then true else (x159.1.Version != x116.1.Version)) then true else (((x159.1.Rows.length:Nat):Int) != ((x116.1.Rows.length:Nat):Int))) then
  some false
 else
  iter (fun rec3 s=>CJ x159 x116 (fun v183_3=>(Ka).bind fun x227=>some x227) rec3 s) AI 0
def CI (x86:((List Int) × Int)) (x138:Int) (kont2_2:(Bool→Int→Option Bool)) (rec2:((Bool × Int)→Option Bool)) (v31_2:Bool) (v142_2:Int):Option Bool :=
 bif (decide (v142_2 < ((x86.1.length:Nat):Int))) then
  (idx x86.1 v142_2).bind fun x144 =>
  rec2 ((bif v31_2 then true else (x144==x138)),(IntKind.i64.wrap (v142_2 + 1)))
 else
  kont2_2 v31_2 v142_2
def CH (x134:(List Int)) (x86:((List Int) × Int)) (kont1_0:(Int→Option Bool)) (rec1:(Int→Option Bool)) (v136_1:Int):Option Bool :=
 bif (decide (v136_1 < ((x134.length:Nat):Int))) then
  (idx x134 v136_1).bind fun x138 =>
  iter (fun rec2 s=>CI x86 x138 (fun v31_2 v142_2=>bif (!v31_2) then   some false else   rec1 (IntKind.i64.wrap (v136_1 + 1))) rec2 s.1 s.2) AI (false,0)
 else
  kont1_0 v136_1
def Du (d:Nat) (p0:(List Int)) (p1:Int) (p2:Int):Option Bool :=
 (OI p0).bind fun x39 =>
 (Kb d x39).bind fun x42 =>
 bif (decide ((IntKind.i64.wrap (((x42.2.1.length:Nat):Int) + 1))≠0)) then
  bif (decide ((IntKind.i64.wrap (((x42.2.1.length:Nat):Int) + 1))≠0)) then
   bif (decide ((IntKind.i64.wrap (((x42.2.1.length:Nat):Int) + 1))≠0)) then
    bif (decide ((IntKind.i64.wrap (((x42.2.1.length:Nat):Int) + 1))≠0)) then
     (CQ d x42.1 x42.2.1 (if (Int.tmod (IntKind.i64.wrap p2) (IntKind.i64.wrap (((x42.2.1.length:Nat):Int) + 1))) < (Int.tmod (IntKind.i64.wrap p1) (IntKind.i64.wrap (((x42.2.1.length:Nat):Int) + 1))) then (Int.tmod (IntKind.i64.wrap p2) (IntKind.i64.wrap (((x42.2.1.length:Nat):Int) + 1))) else (Int.tmod (IntKind.i64.wrap p1) (IntKind.i64.wrap (((x42.2.1.length:Nat):Int) + 1)))) (if (Int.tmod (IntKind.i64.wrap p2) (IntKind.i64.wrap (((x42.2.1.length:Nat):Int) + 1))) > (Int.tmod (IntKind.i64.wrap p1) (IntKind.i64.wrap (((x42.2.1.length:Nat):Int) + 1))) then (Int.tmod (IntKind.i64.wrap p2) (IntKind.i64.wrap (((x42.2.1.length:Nat):Int) + 1))) else (Int.tmod (IntKind.i64.wrap p1) (IntKind.i64.wrap (((x42.2.1.length:Nat):Int) + 1)))) x42.2.2.1 x42.2.2.2.1 x42.2.2.2.2.1).bind fun x78 =>
     (Dq x42.2.1 (if (Int.tmod (IntKind.i64.wrap p2) (IntKind.i64.wrap (((x42.2.1.length:Nat):Int) + 1))) < (Int.tmod (IntKind.i64.wrap p1) (IntKind.i64.wrap (((x42.2.1.length:Nat):Int) + 1))) then (Int.tmod (IntKind.i64.wrap p2) (IntKind.i64.wrap (((x42.2.1.length:Nat):Int) + 1))) else (Int.tmod (IntKind.i64.wrap p1) (IntKind.i64.wrap (((x42.2.1.length:Nat):Int) + 1)))) (if (Int.tmod (IntKind.i64.wrap p2) (IntKind.i64.wrap (((x42.2.1.length:Nat):Int) + 1))) > (Int.tmod (IntKind.i64.wrap p1) (IntKind.i64.wrap (((x42.2.1.length:Nat):Int) + 1))) then (Int.tmod (IntKind.i64.wrap p2) (IntKind.i64.wrap (((x42.2.1.length:Nat):Int) + 1))) else (Int.tmod (IntKind.i64.wrap p1) (IntKind.i64.wrap (((x42.2.1.length:Nat):Int) + 1)))) x42.2.2.2.2.1).bind fun x86 =>
     (Nu x42.1 x42.2.1 (if (Int.tmod (IntKind.i64.wrap p2) (IntKind.i64.wrap (((x42.2.1.length:Nat):Int) + 1))) < (Int.tmod (IntKind.i64.wrap p1) (IntKind.i64.wrap (((x42.2.1.length:Nat):Int) + 1))) then (Int.tmod (IntKind.i64.wrap p2) (IntKind.i64.wrap (((x42.2.1.length:Nat):Int) + 1))) else (Int.tmod (IntKind.i64.wrap p1) (IntKind.i64.wrap (((x42.2.1.length:Nat):Int) + 1))))).bind fun x93 =>
     (Nu x42.1 x42.2.1 (if (Int.tmod (IntKind.i64.wrap p2) (IntKind.i64.wrap (((x42.2.1.length:Nat):Int) + 1))) > (Int.tmod (IntKind.i64.wrap p1) (IntKind.i64.wrap (((x42.2.1.length:Nat):Int) + 1))) then (Int.tmod (IntKind.i64.wrap p2) (IntKind.i64.wrap (((x42.2.1.length:Nat):Int) + 1))) else (Int.tmod (IntKind.i64.wrap p1) (IntKind.i64.wrap (((x42.2.1.length:Nat):Int) + 1))))).bind fun x100 =>
     (Gt d x93.1 x42.2.2.1 x42.2.2.2.1 x42.2.2.2.2.1).bind fun x108 =>
     (Gt d x100.1 x42.2.2.1 x42.2.2.2.1 x42.2.2.2.2.1).bind fun x116 =>
     bif (bif (bif (bif (x78.2 != 0) then true else (x86.2 != 0)) then true else (x108.2 != 0)) then true else (x116.2 != 0)) then
      some false
     else
      (LM x78.1).bind fun x134 =>
      iter (fun rec1 s=>CH x134 x86 (fun v136_1=>Ch x108 x78 x116) rec1 s) AI 0
    else none
   else none
  else none
 else none
end Go.Proofs.YtlpkhgkoihlghaaGreatDoor.P
set_option linter.unusedSimpArgs false
namespace Go.Proofs.YtlpkhgkoihlghaaGreatDoor.P
open Go.Abs Go.Proofs
set_option linter.unusedVariables false
theorem E4 {p:Prop} (h:p:=by first | rfl | simp only [List.length_map,cond_true,cond_false]):p:=h
theorem ET {p:Prop} (h:p:=by first | rfl | (simp only [List.length_map]; done) | (simp only [List.length_map]; rfl)):p:=h
theorem eW {p:Prop} (h:p:=by repeat (first | exact trivial | refine And.intro (by first | with_reducible rfl | rfl | exact .inl rfl | exact .inr rfl | (simp only [List.length_map]; done) | (simp only [List.length_map]; rfl) | (simp only [List.map_append,List.map_cons,List.map_nil]; rfl)) ?_)):p:=h
theorem AH {ρ:Type} {b b':Bool} {x y:Prop} {X Y:Option ρ} {R:ρ} (h:(bif b' then X else Y) = some R) (h1:X = some R→x) (h2:Y = some R→y) (e:b = b':=by first | rfl | simp only [List.length_map,cond_true,cond_false]):Bool.rec y x b:=f8 h e h1 h2
theorem AJ {α ρ:Type} {xs:List α} {i j:Int} {f:α→D} {K:D→Prop} {G:α→Option ρ} {R:ρ} (h:(idx xs i).bind G = some R) (k:∀ x,idx xs i = some x→G x = some R→K (f x)) (e:j = i:=by first | rfl | simp only [List.length_map,cond_true,cond_false]):At (xs.map f) j K:=fU h e k
theorem Bn {ι:Type} {Inv:ι→AS} {μ:ι→Nat} {S:AS} {m:Nat} (j:ι) (h:Le S (Inv j)) (k:μ j < m:=by exact Nat.lt_succ_self _):∃ j,Le S (Inv j)∧μ j < m:=⟨j,h,k⟩
theorem BA {P:Program} {f:FuncId} {fn:Func} {args:List AV} {r:AV} (hf:P.funcs[f]? = some fn) (hr:fb P fn args r) (hname:(fn.name == "runtime.NumGoroutine") = false:=by kernel_rfl):Aw P f args r:=dO hf hname hr
theorem Dm {ρ:Type} {b b':Bool} {x y:Prop} {E F R:ρ} (h:(bif b' then some E else some F) = some R) (h1:some E = some R→x:=by intro h; cases h; (conv=>whnf); exact ⟨by first | rfl | (simp only [List.length_map]; done) | (simp only [List.length_map]; rfl)⟩) (h2:some F = some R→y:=by intro h; cases h; (conv=>whnf); exact ⟨by first | rfl | (simp only [List.length_map]; done) | (simp only [List.length_map]; rfl)⟩) (e:b = b':=by first | rfl | simp only [List.length_map,cond_true,cond_false]):Bool.rec y x b:=f8 h e h1 h2
theorem AQ {ρ:Type} {b b':Bool} {x y:Prop} {E R:ρ} {Y:Option ρ} (h:(bif b' then Y else some E) = some R) (h2:Y = some R→x) (h1:some E = some R→y:=by intro h; cases h; (conv=>whnf); exact ⟨by first | rfl | (simp only [List.length_map]; done) | (simp only [List.length_map]; rfl)⟩) (e:b = b':=by first | rfl | simp only [List.length_map,cond_true,cond_false]):Bool.rec y x b:=f8 h e h2 h1
theorem Am {ρ:Type} {b b':Bool} {x y:Prop} {E R:ρ} {Y:Option ρ} (h:(bif b' then some E else Y) = some R) (h2:Y = some R→y) (h1:some E = some R→x:=by intro h; cases h; (conv=>whnf); exact ⟨by first | rfl | (simp only [List.length_map]; done) | (simp only [List.length_map]; rfl)⟩) (e:b = b':=by first | rfl | simp only [List.length_map,cond_true,cond_false]):Bool.rec y x b:=f8 h e h1 h2
theorem Ai {S S':AS} (h:EE S' (fun S'=>Le S S'):=by (conv=>whnf); repeat (first | exact trivial | refine And.intro (by first | with_reducible rfl | rfl | exact .inl rfl | exact .inr rfl | (simp only [List.length_map]; done) | (simp only [List.length_map]; rfl) | (simp only [List.map_append,List.map_cons,List.map_nil]; rfl)) ?_)):Le S S':=fB h
theorem AZ {S S':AS} (h:EE S' (fun S'=>Le S S'):=by (conv=>whnf); repeat (first | exact trivial | refine And.intro (by first | with_reducible rfl | rfl | exact .inl rfl | exact .inr rfl | (simp only [List.length_map]; done) | (simp only [List.length_map]; rfl) | (simp only [Ac,Aa,Ad,Ab,Aj,List.map_cons,List.map_nil,List.length_map]; done) | (simp only [Ac,Aa,Ad,Ab,Aj,List.map_cons,List.map_nil,List.length_map]; rfl) | (simp only [List.map_append,List.map_cons,List.map_nil]; rfl)) ?_)):Le S S':=fB h
theorem Ut {S S':AS} (h:EE S' (fun S'=>Le S S'):=by (conv=>whnf); repeat (first | exact trivial | refine And.intro (by first | with_reducible rfl | rfl | exact .inl rfl | exact .inr rfl | (simp only [List.length_map]; done) | (simp only [List.length_map]; rfl) | (simp only [W6]; rfl) | (simp only [List.map_append,List.map_cons,List.map_nil]; rfl)) ?_)):Le S S':=fB h
theorem Ya {S S':AS} (h:EE S' (fun S'=>Le S S'):=by (conv=>whnf); repeat (first | exact trivial | refine And.intro (by first | with_reducible rfl | rfl | exact .inl rfl | exact .inr rfl | (simp only [List.length_map]; done) | (simp only [List.length_map]; rfl) | (simp only [W6,ba]; rfl) | (simp only [List.map_append,List.map_cons,List.map_nil]; rfl)) ?_)):Le S S':=fB h
theorem A4 {ρ:Type} {E R:ρ} {x:Prop} (h:some E = some R) (k:some E = some R→x:=by intro h; cases h; (conv=>whnf); exact ⟨by first | rfl | (simp only [List.length_map]; done) | (simp only [List.length_map]; rfl)⟩):x:=k h
theorem z5 {σ ρ:Type} {body:(σ→Option ρ)→σ→Option ρ} {n:Nat} {s0:σ} {R:ρ} {S:AS} {W:((Exit→AS→Prop)→AS→Prop)} {Q:Exit→AS→Prop} (h:iter body n s0 = some R) (I:σ→AS) (hl:Le S (I s0)) (k:∀ (Φ:Nat→σ→Option ρ) (n:Nat) (s:σ),body (Φ n) s = some R→EE (I s) (W (fun e S=>match e with | .normal=>∃ j:{p:Nat × σ // Φ p.1 p.2 = some R},Le S (I j.1.2)∧j.1.1 < n + 1 | e=>Q e S))):R3 S W Q:=by
 obtain ⟨Φ,i,h⟩:=fp h
 exact loop {p:Nat × σ // Φ p.1 p.2 = some R} (fun p=>I p.1.2) (fun p=>p.1.1) ⟨(n,s0),h⟩ hl fun ⟨⟨a,b⟩,h⟩=>by
  obtain ⟨a,rfl,h⟩:=i _ _ h
  exact k Φ a b h
theorem z6 {A B:Prop} (b:B) (a:A:=by (simp only [List.length_map]; exact AG hr (of_decide_eq_true (by kernel_rfl)) (.inr (by kernel_rfl)))):Ij A B:=⟨a,b⟩
theorem z7 {A B:Prop} (b:B) (a:A:=by first | exact WJ hr (of_decide_eq_true (by kernel_rfl)) | (simp only [List.length_map]; exact WJ hr (of_decide_eq_true (by kernel_rfl)))):Ij A B:=⟨a,b⟩
theorem z8 {A B:Prop} (b:B) (a:A:=by first | exact of_decide_eq_true hr | (simp only [List.length_map]; exact of_decide_eq_true hr)):Ij A B:=⟨a,b⟩
theorem z9 {A B:Prop} (b:B) (a:A:=by first | rfl | (simp only [List.length_map]; done) | (simp only [List.length_map]; rfl)):A∧B:=⟨a,b⟩
theorem z10 {A B:Prop} (b:B) (a:A:=by first | rfl | (simp only [List.length_map]; done) | (simp only [List.length_map]; rfl) | (simp only [Ac,Aa,Ad,Ab,Aj,List.map_cons,List.map_nil,List.length_map]; done) | (simp only [Ac,Aa,Ad,Ab,Aj,List.map_cons,List.map_nil,List.length_map]; rfl)):A∧B:=⟨a,b⟩
theorem z11 {A B:Prop} (b:B) (a:A:=by omega):Ij A B:=⟨a,b⟩
theorem z12 {A B:Prop} (b:B) (a:A:=by exact of_decide_eq_true hr):Ij A B:=⟨a,b⟩
theorem z13 {A B:Prop} (b:B) (a:A:=by exact ⟨by decide +kernel,by kernel_rfl⟩):Ij A B:=⟨a,b⟩
theorem z14 {A B:Prop} (b:B) (a:A:=by exact ⟨rfl,rfl,by first | rfl | (simp only [List.length_map]; done) | (simp only [List.length_map]; rfl) | (simp only [Ac,Aa,Ad,Ab,Aj,List.map_cons,List.map_nil,List.length_map]; done) | (simp only [Ac,Aa,Ad,Ab,Aj,List.map_cons,List.map_nil,List.length_map]; rfl)⟩):A∧B:=⟨a,b⟩
theorem z15 {A B:Prop} (b:B) (a:A:=by exact ⟨rfl,rfl,rfl,by first | rfl | (simp only [List.length_map]; done) | (simp only [List.length_map]; rfl)⟩):A∧B:=⟨a,b⟩
theorem z16 {p:Prop} (h:p:=by exact ⟨by first | rfl | (simp only [List.length_map]; done) | (simp only [List.length_map]; rfl) | (simp only [Ac,Aa,Ad,Ab,Aj,List.map_cons,List.map_nil,List.length_map]; done) | (simp only [Ac,Aa,Ad,Ab,Aj,List.map_cons,List.map_nil,List.length_map]; rfl)⟩):p:=h
theorem z17 {p:Prop} (h:p:=by (conv=>whnf); obtain rfl:=Option.some.inj h; exact z16):p:=h
theorem z18 {p:Prop} (h:p:=by refine Am h fun h=>?_; (conv=>whnf); exact Bn ⟨(_,_),h⟩ Ai):p:=h
theorem z19 {p:Prop} (h:p:=by (conv=>whnf); exact Bn ⟨(_,(_,_)),h⟩ Ai):p:=h
theorem z20 {p:Prop} (h:p:=by obtain rfl:=Option.some.inj h; refine ⟨.inl ?_⟩; (conv=>whnf); exact ⟨ET⟩):p:=h
theorem z21 {p:Prop} (h:p:=by obtain rfl:=Option.some.inj h; refine z9 ?_; (conv=>whnf); exact ⟨ET⟩):p:=h
theorem z22 {p:Prop} (h:p:=by (conv=>whnf); exact Bn ⟨(_,(_,_,_)),h⟩ Ai):p:=h
theorem z23 {p:Prop} (h:p:=by (conv=>whnf); refine z14 ?_; (conv=>whnf); exact z16):p:=h
theorem z24 {p:Prop} (h:p:=by (conv=>whnf); obtain rfl:=Option.some.inj h; refine z10 ?_; exact z23):p:=h
theorem z25 {p:Prop} (h:p:=by (conv=>whnf); refine z9 ?_; (conv=>whnf); exact ⟨ET⟩):p:=h
theorem z26 {p:Prop} (h:p:=by refine z15 ?_; (conv=>whnf); refine z15 ?_; exact z25):p:=h
theorem z27 {p:Prop} (h:p:=by (conv=>whnf); refine z9 ?_; (conv=>whnf); exact z26):p:=h
theorem z28 {p:Prop} (h:p:=by (conv=>whnf); obtain rfl:=Option.some.inj h; refine z9 ?_; exact z27):p:=h
theorem z29 {p:Prop} (h:p:=by refine C4 h fun hr h=>?_; refine z6 ?_; (try rw [Hp]); exact z19):p:=h
theorem z30 {p:Prop} (h:p:=by obtain rfl:=Option.some.inj h; refine ⟨.inl ?_⟩; (conv=>whnf); exact z16):p:=h
theorem z31 {p:Prop} (h:p:=by obtain rfl:=Option.some.inj h; refine z10 ?_; (conv=>whnf); exact z16):p:=h
theorem z32 {p:Prop} (h:p:=by (conv=>whnf); refine Ag h fun x16 hx16 h=>?_; refine Ak (h_p1 _ _ hx16) ?_; exact z18):p:=h
theorem z33 {p:Prop} (h:p:=by refine C4 h fun hr h=>?_; refine z6 ?_; (try rw [N3]); exact z19):p:=h
theorem z34 {p:Prop} (h:p:=by obtain rfl:=Option.some.inj h; exact z16):p:=h
theorem z35 {p:Prop} (h:p:=by (conv=>whnf); exact z20):p:=h
theorem z36 {p:Prop} (h:p:=by (conv=>whnf); exact ⟨⟨(),h⟩,Ai⟩):p:=h
theorem z37 {p:Prop} (h:p:=by refine (by intros; rename_i h; cases h)):p:=h
theorem z38 {p:Prop} (h:p:=by (conv=>whnf); exact z21):p:=h
theorem z39 {p:Prop} (h:p:=by refine C4 h fun hr h=>?_; refine z6 ?_; (try rw [Hp]); exact z22):p:=h
theorem z40 {p:Prop} (h:p:=by refine C4 h fun hr h=>?_; refine z6 ?_; (try rw [CY]); exact z22):p:=h
theorem z41 {p:Prop} (h:p:=by (conv=>whnf); exact Bn ⟨(_,(_,_)),h⟩ AZ):p:=h
theorem z42 {p:Prop} (h:p:=by exact Bn ⟨(_,_),h⟩ Ai):p:=h
theorem z43 {p:Prop} (h:p:=by refine AJ (f:=(D.int .i64)) h fun x35 hx35 h=>?_; (conv=>whnf); exact z39):p:=h
theorem z44 {p:Prop} (h:p:=by (conv=>whnf); refine ⟨.inl ?_⟩; (conv=>whnf); exact ⟨ET⟩):p:=h
theorem z45 {p:Prop} (h:p:=by (conv=>whnf); obtain rfl:=Option.some.inj h; refine z9 ?_; exact z44):p:=h
theorem z46 {p:Prop} (h:p:=by (conv=>whnf); exact ⟨⟨(_,_,_,_,_),h⟩,AZ⟩):p:=h
theorem z47 {p:Prop} (h:p:=by (conv=>whnf); refine ⟨by first | (intro x hx y hy; obtain ⟨n,_,rfl⟩:=List.mem_map.1 hx; simp [D.cells] at hy; subst hy; rfl) | exact fun x hx=>absurd hx (by simp),?_⟩; (conv=>whnf); exact ⟨ET⟩):p:=h
theorem z48 {p:Prop} (h:p:=by refine Ag h fun x12 hx12 h=>?_; (first | refine AC (A2 _ _ _ hx12) ?_ | (simp only [List.length_map]; refine AC (A2 _ _ _ hx12) ?_)); refine AJ (f:=(D.int .i64)) h fun x13 _ h=>?_; exact z38):p:=h
theorem z49 {p:Prop} (h:p:=by (conv=>whnf); refine C4 h fun hr h=>?_; refine z12 ?_; exact Dm h):p:=h
theorem z50 {p:Prop} (h:p:=by refine C4 h fun hr h=>?_; refine z12 ?_; exact z18):p:=h
theorem z51 {p:Prop} (h:p:=by refine C4 h fun hr h=>?_; refine z6 ?_; (try rw [CY]); exact z19):p:=h
theorem z52 {p:Prop} (h:p:=by refine Am h fun h=>?_; exact z36):p:=h
theorem z53 {p:Prop} (h:p:=by (conv=>whnf); refine Ag h fun x93 hx93 h=>?_; refine AC (Hc _ _ _ _ _ _ hx93) ?_; exact z24):p:=h
theorem z54 {p:Prop} (h:p:=by (conv=>whnf); refine Ag h fun x49 hx49 h=>?_; refine Ak (Kv _ _ hx49) ?_; exact Dm h):p:=h
theorem z55 {p:Prop} (h:p:=by (conv=>whnf); exact z29):p:=h
theorem z56 {p:Prop} (h:p:=by (conv=>whnf); rw [F5]; exact z32):p:=h
theorem z57 {p:Prop} (h:p:=by (conv=>whnf); (try simp only [Dj] at h); exact ⟨⟨(),h⟩,Ai⟩):p:=h
theorem z58 {p:Prop} (h:p:=by (conv=>whnf); refine ⟨.inl ?_⟩; exact z38):p:=h
theorem z59 {p:Prop} (h:p:=by (conv=>whnf); exact Bn ⟨(_,_),h⟩ AZ):p:=h
theorem z60 {p:Prop} (h:p:=by exact A4 h):p:=h
end Go.Proofs.YtlpkhgkoihlghaaGreatDoor.P
