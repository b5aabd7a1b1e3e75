/- M4 -/
import Derived.Test.YtjgeigjjfcnojaaGreatDoorM3
import Derived.Lib.ItoaNum
import Derived.Lib.SlicesCompact
set_option linter.unusedVariables false
set_option linter.unusedSimpArgs false
namespace Go.Proofs.YtjgeigjjfcnojaaGreatDoor.P
open Go.Abs Go.Proofs
structure Am where
 f_l:(List Int)
 f_at:Int
structure CY where
 Name:ByteArray
 Parent:Int
structure Aw where
 Name:ByteArray
 Codes:(List CY)
structure Az where
 Name:ByteArray
 Kind:Int
 List_:Int
 Low:Int
 High:Int
 Widths:(List Int)
 Optional:Bool
structure Af where
 Lists:(List Aw)
 Columns:(List Az)
structure B2 where
 Schema:Af
 Rows:(List (List Int))
 Gone:(List Int)
 Version:Int
structure Ar where
 Op:Int
 Column:Int
 Code:Int
 Low:Int
 High:Int
 Kids:(List Ar)
structure J8 where
 Part:Int
 Of:Int
 Seed:Int
structure An where
 Column:Int
 Level:Int
structure Cn where
 Name:ByteArray
 Kind:Int
 Filter:Ar
 Dims:(List An)
 Measure:Int
 Terms:(List Int)
 Event:Ar
structure AZ where
 Project:ByteArray
 Source:ByteArray
 Cohort:Ar
 Sample:J8
 Questions:(List Cn)
structure A1 where
 Project:ByteArray
 Version:Int
 Picks:(List An)
 Rows:(List (List Int))
structure Be where
 f_num:Bool
 f_name:Bool
 f_column:Bool
 f_columns:Bool
 f_dims:Bool
 f_cond:Bool
 f_event:Bool
structure A2 where
 Op:Int
 Num:Int
 Name:ByteArray
 Column:Int
 Columns:(List Int)
 Dims:(List An)
 Cond:Ar
 Event:Ar
 Kids:(List A2)
structure AI where
 Num:Int
 Den:Int
structure EM where
 Codes:(List Int)
 Count:Int
 Sum:Int
 Amount:Int
 First:Int
 Second:Int
 Rows:(List Int)
structure Dd where
 Dims:(List An)
 Measure:Int
 Cells:(List EM)
structure Dc where
 Measure:Int
 Terms:(List Int)
 Coefs:(List AI)
 Residual:AI
 Total:AI
 Count:Int
 Free:Int
structure GM where
 Time:Int
 AtRisk:Int
 Events:Int
 Left:Int
 Survive:AI
structure X9 where
 Low:Int
 Count:Int
structure J7 where
 Count:Int
 Least:Int
 Lower:Int
 Middle:Int
 Upper:Int
 Greatest:Int
structure AA where
 Kind:Int
 Number:AI
 Table:Dd
 Model:Dc
 Curve:(List GM)
 Hist:(List X9)
 Box:J7
 Lineage:(List Int)
structure AC where
 Name:ByteArray
 Out:Bool
 Value:AA
structure Lm where
 f_s:Af
 f_x:A1
structure A3 where
 f_plan:Lm
 f_before:(List AC)
structure AR where
 Name:ByteArray
 Out:Bool
 Expr:A2
def Bh (x:CY):D:=.agg [(.str x.Name),(.int .i64 x.Parent)]
theorem Us (xs:List CY) (a0:ByteArray) (a1:Int):xs.map Bh++[D.agg [(.str a0),(.int .i64 a1)]] = (xs++[({ Name:=a0,Parent:=a1 }:CY)]).map Bh:=by simp [Bh,Ah]
def Ae (x:Aw):D:=.agg [(.str x.Name),(Ah 2 Bh x.Codes)]
def Ag (x:Az):D:=.agg [(.str x.Name),(.int .i64 x.Kind),(.int .i64 x.List_),(.int .i64 x.Low),(.int .i64 x.High),(Ah 1 (D.int .i64) x.Widths),(.bool x.Optional)]
theorem Nj (xs:List Az) (a0:ByteArray) (a1:Int) (a2:Int) (a3:Int) (a4:Int) (a5:(List Int)) (a6:Bool):xs.map Ag++[D.agg [(.str a0),(.int .i64 a1),(.int .i64 a2),(.int .i64 a3),(.int .i64 a4),(D.list 1 (List.map (D.int .i64) a5)),(.bool a6)]] = (xs++[({ Name:=a0,Kind:=a1,List_:=a2,Low:=a3,High:=a4,Widths:=a5,Optional:=a6 }:Az)]).map Ag:=by simp [Ag,Ah]
def Au (x:Af):D:=.agg [(Ah 2 Ae x.Lists),(Ah 7 Ag x.Columns)]
def I0 (x:B2):D:=.agg [(Ah 2 Ae x.Schema.Lists),(Ah 7 Ag x.Schema.Columns),(Ah 1 (Ah 1 (D.int .i64)) x.Rows),(Ah 1 (D.int .i64) x.Gone),(.int .i64 x.Version)]
mutual
def Ax:Ar→D
 | ⟨Op,Column,Code,Low,High,Kids⟩=>.agg [(.int .i64 Op),(.int .i64 Column),(.int .i64 Code),(.int .i64 Low),(.int .i64 High),(.list 6 (LR Kids))]
def LR:List Ar→List D
 | []=>[]
 | x :: r=>Ax x :: LR r
end
theorem QD:∀ l:List Ar,LR l = l.map Ax
 | []=>by simp [LR]
 | x :: r=>by simp [LR,QD r]
def Ac (x:Ar):D:=.agg [(.int .i64 x.Op),(.int .i64 x.Column),(.int .i64 x.Code),(.int .i64 x.Low),(.int .i64 x.High),(Ah 6 Ax x.Kids)]
theorem Zy (x:Ar):({ Op:=x.Op,Column:=x.Column,Code:=x.Code,Low:=x.Low,High:=x.High,Kids:=x.Kids }:Ar) = x:=by cases x; rfl
theorem Aa (x:Ar):Ax x = Ac x:=by
 obtain ⟨Op,Column,Code,Low,High,Kids⟩:=x
 simp only [Ax,QD]
 rfl
def T9 (x:J8):D:=.agg [(.int .i64 x.Part),(.int .i64 x.Of),(.int .i64 x.Seed)]
def Ai (x:An):D:=.agg [(.int .i64 x.Column),(.int .i64 x.Level)]
theorem Df (xs:List An) (a0:Int) (a1:Int):xs.map Ai++[D.agg [(.int .i64 a0),(.int .i64 a1)]] = (xs++[({ Column:=a0,Level:=a1 }:An)]).map Ai:=by simp [Ai,Ah]
def B3 (x:Cn):D:=.agg [(.str x.Name),(.int .i64 x.Kind),(.int .i64 x.Filter.Op),(.int .i64 x.Filter.Column),(.int .i64 x.Filter.Code),(.int .i64 x.Filter.Low),(.int .i64 x.Filter.High),(Ah 6 Ax x.Filter.Kids),(Ah 2 Ai x.Dims),(.int .i64 x.Measure),(Ah 1 (D.int .i64) x.Terms),(.int .i64 x.Event.Op),(.int .i64 x.Event.Column),(.int .i64 x.Event.Code),(.int .i64 x.Event.Low),(.int .i64 x.Event.High),(Ah 6 Ax x.Event.Kids)]
def Fu (x:AZ):D:=.agg [(.str x.Project),(.str x.Source),(.int .i64 x.Cohort.Op),(.int .i64 x.Cohort.Column),(.int .i64 x.Cohort.Code),(.int .i64 x.Cohort.Low),(.int .i64 x.Cohort.High),(Ah 6 Ax x.Cohort.Kids),(.int .i64 x.Sample.Part),(.int .i64 x.Sample.Of),(.int .i64 x.Sample.Seed),(Ah 17 B3 x.Questions)]
def CM (x:A1):D:=.agg [(.str x.Project),(.int .i64 x.Version),(Ah 2 Ai x.Picks),(Ah 1 (Ah 1 (D.int .i64)) x.Rows)]
def NR (x:Be):D:=.agg [(.bool x.f_num),(.bool x.f_name),(.bool x.f_column),(.bool x.f_columns),(.bool x.f_dims),(.bool x.f_cond),(.bool x.f_event)]
mutual
def Bn:A2→D
 | ⟨Op,Num,Name,Column,Columns,Dims,Cond,Event,Kids⟩=>.agg [(.int .i64 Op),(.int .i64 Num),(.str Name),(.int .i64 Column),(Ah 1 (D.int .i64) Columns),(Ah 2 Ai Dims),(.int .i64 Cond.Op),(.int .i64 Cond.Column),(.int .i64 Cond.Code),(.int .i64 Cond.Low),(.int .i64 Cond.High),(Ah 6 Ax Cond.Kids),(.int .i64 Event.Op),(.int .i64 Event.Column),(.int .i64 Event.Code),(.int .i64 Event.Low),(.int .i64 Event.High),(Ah 6 Ax Event.Kids),(.list 19 (LS Kids))]
def LS:List A2→List D
 | []=>[]
 | x :: r=>Bn x :: LS r
end
theorem QE:∀ l:List A2,LS l = l.map Bn
 | []=>by simp [LS]
 | x :: r=>by simp [LS,QE r]
def Ad (x:A2):D:=.agg [(.int .i64 x.Op),(.int .i64 x.Num),(.str x.Name),(.int .i64 x.Column),(Ah 1 (D.int .i64) x.Columns),(Ah 2 Ai x.Dims),(.int .i64 x.Cond.Op),(.int .i64 x.Cond.Column),(.int .i64 x.Cond.Code),(.int .i64 x.Cond.Low),(.int .i64 x.Cond.High),(Ah 6 Ax x.Cond.Kids),(.int .i64 x.Event.Op),(.int .i64 x.Event.Column),(.int .i64 x.Event.Code),(.int .i64 x.Event.Low),(.int .i64 x.Event.High),(Ah 6 Ax x.Event.Kids),(Ah 19 Bn x.Kids)]
theorem Ab (x:A2):Bn x = Ad x:=by
 obtain ⟨Op,Num,Name,Column,Columns,Dims,Cond,Event,Kids⟩:=x
 simp only [Bn,QE]
 rfl
def Cf (x:AI):D:=.agg [(.int .i64 x.Num),(.int .i64 x.Den)]
def Cr (x:EM):D:=.agg [(Ah 1 (D.int .i64) x.Codes),(.int .i64 x.Count),(.int .i64 x.Sum),(.int .i64 x.Amount),(.int .i64 x.First),(.int .i64 x.Second),(Ah 1 (D.int .i64) x.Rows)]
def En (x:GM):D:=.agg [(.int .i64 x.Time),(.int .i64 x.AtRisk),(.int .i64 x.Events),(.int .i64 x.Left),(.int .i64 x.Survive.Num),(.int .i64 x.Survive.Den)]
def MG (x:X9):D:=.agg [(.int .i64 x.Low),(.int .i64 x.Count)]
def Bv (x:AA):D:=.agg [(.int .i64 x.Kind),(.int .i64 x.Number.Num),(.int .i64 x.Number.Den),(Ah 2 Ai x.Table.Dims),(.int .i64 x.Table.Measure),(Ah 7 Cr x.Table.Cells),(.int .i64 x.Model.Measure),(Ah 1 (D.int .i64) x.Model.Terms),(Ah 2 Cf x.Model.Coefs),(.int .i64 x.Model.Residual.Num),(.int .i64 x.Model.Residual.Den),(.int .i64 x.Model.Total.Num),(.int .i64 x.Model.Total.Den),(.int .i64 x.Model.Count),(.int .i64 x.Model.Free),(Ah 6 En x.Curve),(Ah 2 MG x.Hist),(.int .i64 x.Box.Count),(.int .i64 x.Box.Least),(.int .i64 x.Box.Lower),(.int .i64 x.Box.Middle),(.int .i64 x.Box.Upper),(.int .i64 x.Box.Greatest),(Ah 1 (D.int .i64) x.Lineage)]
def A0 (x:AC):D:=.agg [(.str x.Name),(.bool x.Out),(.int .i64 x.Value.Kind),(.int .i64 x.Value.Number.Num),(.int .i64 x.Value.Number.Den),(Ah 2 Ai x.Value.Table.Dims),(.int .i64 x.Value.Table.Measure),(Ah 7 Cr x.Value.Table.Cells),(.int .i64 x.Value.Model.Measure),(Ah 1 (D.int .i64) x.Value.Model.Terms),(Ah 2 Cf x.Value.Model.Coefs),(.int .i64 x.Value.Model.Residual.Num),(.int .i64 x.Value.Model.Residual.Den),(.int .i64 x.Value.Model.Total.Num),(.int .i64 x.Value.Model.Total.Den),(.int .i64 x.Value.Model.Count),(.int .i64 x.Value.Model.Free),(Ah 6 En x.Value.Curve),(Ah 2 MG x.Value.Hist),(.int .i64 x.Value.Box.Count),(.int .i64 x.Value.Box.Least),(.int .i64 x.Value.Box.Lower),(.int .i64 x.Value.Box.Middle),(.int .i64 x.Value.Box.Upper),(.int .i64 x.Value.Box.Greatest),(Ah 1 (D.int .i64) x.Value.Lineage)]
theorem LF (xs:List AC) (a0:ByteArray) (a1:Bool) (a2:Int) (a3:Int) (a4:Int) (a5:(List An)) (a6:Int) (a7:(List EM)) (a8:Int) (a9:(List Int)) (a10:(List AI)) (a11:Int) (a12:Int) (a13:Int) (a14:Int) (a15:Int) (a16:Int) (a17:(List GM)) (a18:(List X9)) (a19:Int) (a20:Int) (a21:Int) (a22:Int) (a23:Int) (a24:Int) (a25:(List Int)):xs.map A0++[D.agg [(.str a0),(.bool a1),(.int .i64 a2),(.int .i64 a3),(.int .i64 a4),(D.list 2 (List.map Ai a5)),(.int .i64 a6),(D.list 7 (List.map Cr a7)),(.int .i64 a8),(D.list 1 (List.map (D.int .i64) a9)),(D.list 2 (List.map Cf a10)),(.int .i64 a11),(.int .i64 a12),(.int .i64 a13),(.int .i64 a14),(.int .i64 a15),(.int .i64 a16),(D.list 6 (List.map En a17)),(D.list 2 (List.map MG a18)),(.int .i64 a19),(.int .i64 a20),(.int .i64 a21),(.int .i64 a22),(.int .i64 a23),(.int .i64 a24),(D.list 1 (List.map (D.int .i64) a25))]] = (xs++[({ Name:=a0,Out:=a1,Value:=({ Kind:=a2,Number:=({ Num:=a3,Den:=a4 }:AI),Table:=({ Dims:=a5,Measure:=a6,Cells:=a7 }:Dd),Model:=({ Measure:=a8,Terms:=a9,Coefs:=a10,Residual:=({ Num:=a11,Den:=a12 }:AI),Total:=({ Num:=a13,Den:=a14 }:AI),Count:=a15,Free:=a16 }:Dc),Curve:=a17,Hist:=a18,Box:=({ Count:=a19,Least:=a20,Lower:=a21,Middle:=a22,Upper:=a23,Greatest:=a24 }:J7),Lineage:=a25 }:AA) }:AC)]).map A0:=by simp [A0,Ah]
def B6 (x:A3):D:=.agg [(Ah 2 Ae x.f_plan.f_s.Lists),(Ah 7 Ag x.f_plan.f_s.Columns),(.str x.f_plan.f_x.Project),(.int .i64 x.f_plan.f_x.Version),(Ah 2 Ai x.f_plan.f_x.Picks),(Ah 1 (Ah 1 (D.int .i64)) x.f_plan.f_x.Rows),(Ah 26 A0 x.f_before)]
def AX (x:AR):D:=.agg [(.str x.Name),(.bool x.Out),(.int .i64 x.Expr.Op),(.int .i64 x.Expr.Num),(.str x.Expr.Name),(.int .i64 x.Expr.Column),(Ah 1 (D.int .i64) x.Expr.Columns),(Ah 2 Ai x.Expr.Dims),(.int .i64 x.Expr.Cond.Op),(.int .i64 x.Expr.Cond.Column),(.int .i64 x.Expr.Cond.Code),(.int .i64 x.Expr.Cond.Low),(.int .i64 x.Expr.Cond.High),(Ah 6 Ax x.Expr.Cond.Kids),(.int .i64 x.Expr.Event.Op),(.int .i64 x.Expr.Event.Column),(.int .i64 x.Expr.Event.Code),(.int .i64 x.Expr.Event.Low),(.int .i64 x.Expr.Event.High),(Ah 6 Ax x.Expr.Event.Kids),(Ah 19 Bn x.Expr.Kids)]
end Go.Proofs.YtjgeigjjfcnojaaGreatDoor.P
set_option linter.unusedVariables false
set_option linter.unusedSimpArgs false
namespace Go.Proofs.YtjgeigjjfcnojaaGreatDoor.P
def C5 (p0:List Int):Option (List Int):=bif rm 0 p0.length then some p0 else none
def Fl (p0:Int):Option ByteArray:=bif decide (0≤p0∧p0 < 100) then some ⟨(Go.Lib.decDigits p0.toNat).toArray⟩ else none
def Ct (p0:List Int) (p1:Int→Option Bool):Option (List Int):=bif (rm 0 p0.length && p0.all fun x=>(p1 x).isSome) then some (p0.filter fun x=>p1 x==some false) else none
end Go.Proofs.YtjgeigjjfcnojaaGreatDoor.P
set_option linter.unusedVariables false
set_option linter.unusedSimpArgs false
namespace Go.Proofs.YtjgeigjjfcnojaaGreatDoor.P.F
def nn (num den:Int):Int:=if den < 0 then -num else num
def okR (n:Int) (d:Nat):Bool:=decide (((n.natAbs / Nat.gcd d n.natAbs:Nat):Int)≤1152921504606846976) && decide (((d / Nat.gcd d n.natAbs:Nat):Int)≤1152921504606846976)
def redF (n:Int) (d:Nat):Int × Int:=bif okR n d then (((n.natAbs / Nat.gcd d n.natAbs:Nat):Int) * n.sign,((d / Nat.gcd d n.natAbs:Nat):Int)) else (0,0)
def redE (n:Int) (d:Nat):Int:=bif okR n d then 0 else 14
def Ex (xs:List Int):List Int:=xs.mergeSort fun x y=>decide (x≤y)
def setI (xs:List Int):List Int:=Go.Lib.compact (Ex xs)
def Yd (x:Int):List Int→List Int
 | []=>[x]
 | y :: r=>bif decide (x < y) then x :: y :: r else bif x==y then y :: r else y :: Yd x r
def setU (xs:List Int):List Int:=xs.foldr Yd []
structure St where
 time:Int
 risk:Int
 ev:Int
 lf:Int
 fr:Int × Int
abbrev PS:=List (Int × Bool)
def tm (ps:PS):List Int:=ps.map fun p=>p.1
def es (ps:PS):List Bool:=ps.map fun p=>p.2
end Go.Proofs.YtjgeigjjfcnojaaGreatDoor.P.F
namespace Go.Proofs.YtjgeigjjfcnojaaGreatDoor.P
end Go.Proofs.YtjgeigjjfcnojaaGreatDoor.P
set_option linter.unusedVariables false
set_option linter.unusedSimpArgs false
namespace Go.Proofs.YtjgeigjjfcnojaaGreatDoor.P
def d3 (p:AI):Bool:=decide ((1≤p.Den∧p.Den≤1152921504606846976)∧(-1152921504606846976≤p.Num∧p.Num≤1152921504606846976)∧Nat.gcd p.Num.natAbs p.Den.natAbs = 1)
def Xq (n:Int) (d:Nat):AI × Int:=({ Num:=(F.redF n d).1,Den:=(F.redF n d).2 },F.redE n d)
def cU (n:Int):Bool:=decide (-9223372036854775808≤n∧n≤9223372036854775807)
def Ca (p0:Int) (p1:Int):Option (AI × Int) :=
 bif cU p0 && cU p1 then (bif p1==0 then some ({ Num:=0,Den:=0 },18) else some (Xq (F.nn p0 p1) p1.natAbs)) else none
def Ri (p0:Int) (p1:Int):Option (AI × Int):=Ca p0 p1
def JC (p0:AI) (p1:AI):Option (AI × Int):=bif d3 p0 && d3 p1 then some (Xq (p0.Num * p1.Den - p1.Num * p0.Den) (p0.Den * p1.Den).toNat) else none
def QI (p0:AI) (p1:AI):Option (AI × Int):=bif d3 p0 && d3 p1 then some (Xq (p0.Num * p1.Num) (p0.Den * p1.Den).toNat) else none
def QG (p0:AI) (p1:AI):Option (AI × Int):=none
def QH (p0:AI) (p1:AI):Option (AI × Int):=none
def Es (p0:List Int) (p1:List Int):Option (List Int):=bif decide (p0.length≤100000∧p1.length≤100000) then some (F.setU (p0++p1)) else none
end Go.Proofs.YtjgeigjjfcnojaaGreatDoor.P
set_option linter.unusedSimpArgs false
namespace Go.Proofs.YtjgeigjjfcnojaaGreatDoor.P
open Go.Abs Go.Proofs
set_option linter.unusedVariables false
def Lq (p0:ByteArray):Option Bool :=
 bif (p0.toList==({ data:=#[97,108,108] }:ByteArray).toList) then
  some false
 else
  bif (p0.toList==({ data:=#[97,110,100] }:ByteArray).toList) then
   some false
  else
   bif (p0.toList==({ data:=#[101,118,101,110,116] }:ByteArray).toList) then
    some false
   else
    bif (p0.toList==({ data:=#[102,114,111,109] }:ByteArray).toList) then
     some false
    else
     bif (p0.toList==({ data:=#[109,105,115,115,105,110,103] }:ByteArray).toList) then
      some false
     else
      bif (p0.toList==({ data:=#[110,111,116] }:ByteArray).toList) then
       some false
      else
       bif (p0.toList==({ data:=#[111,110] }:ByteArray).toList) then
        some false
       else
        bif (p0.toList==({ data:=#[111,114] }:ByteArray).toList) then
         some false
        else
         bif (p0.toList==({ data:=#[116,111] }:ByteArray).toList) then
          some false
         else
          bif (p0.toList==({ data:=#[117,110,100,101,114] }:ByteArray).toList) then
           some false
          else
           bif (p0.toList==({ data:=#[119,104,101,114,101] }:ByteArray).toList) then
            some false
           else
            some true
def Po (p0:ByteArray) (kont1_0:(Int→Option Bool)) (rec1:(Int→Option Bool)) (v26_1:Int):Option Bool :=
 bif (decide (v26_1 < (((IH p0).length:Nat):Int))) then
  (idx (IH p0) v26_1).bind fun x28 =>
  bif (bif (bif (bif (decide (x28 < 97)) then true else (decide (x28 > 122))) then (bif (decide (x28 < 48)) then true else (decide (x28 > 57))) else false) then (x28 != 95) else false) then
   some false
  else
   rec1 (IntKind.i64.wrap (v26_1 + 1))
 else
  kont1_0 v26_1
def Lp (p0:ByteArray):Option Bool :=
 iter (fun rec1 s=>Po p0 (fun v26_1=>Lq p0) rec1 s) AM 0
def D1 (p0:ByteArray):Option Bool :=
 bif (bif (decide (((p0.size:Nat):Int) < 1)) then true else (decide (((p0.size:Nat):Int) > 16))) then
  some false
 else
  bif (decide (0≤(0:Int)∧(0:Int).toNat < p0.size)) then
   bif (decide ((Em p0 0) < 97)) then
    some false
   else
    bif (decide (0≤(0:Int)∧(0:Int).toNat < p0.size)) then
     bif (decide ((Em p0 0) > 122)) then
      some false
     else
      Lp p0
    else none
  else none
def No (p0:Aw) (kont1_0:(Int→(List Int)→Option (List Int))) (rec1:((Int × (List Int))→Option (List Int))) (v13_1:Int) (b9_1:(List Int)):Option (List Int) :=
 bif (decide (v13_1 < ((p0.Codes.length:Nat):Int))) then
  (idx p0.Codes v13_1).bind fun x16 =>
  bif (decide (v13_1 > 0)) then
   (idx b9_1 x16.Parent).bind fun x25 =>
   (idx b9_1 v13_1).bind fun x28 =>
   rec1 ((IntKind.i64.wrap (v13_1 + 1)),(b9_1.set (v13_1:Int).toNat (IntKind.i64.wrap (x25 + 1))))
  else
   rec1 ((IntKind.i64.wrap (v13_1 + 1)),b9_1)
 else
  kont1_0 v13_1 b9_1
def EN (p0:Aw):Option (List Int) :=
 bif (decide (0≤((p0.Codes.length:Nat):Int)) && rm (((p0.Codes.length:Nat):Int):Int).toNat 0) then
  iter (fun rec1 s=>No p0 (fun v13_1 b9_1=>some b9_1) rec1 s.1 s.2) AM (0,(List.replicate (((p0.Codes.length:Nat):Int):Int).toNat 0))
 else none
def NH (x82:(List Int)) (k29_1:(List Bool)) (kont2_4:(Int→Int→Option Int)) (rec2:((Int × Int)→Option Int)) (v7_2:Int) (v84_2:Int):Option Int :=
 bif (decide (v84_2 < ((x82.length:Nat):Int))) then
  (idx x82 v84_2).bind fun x87 =>
  (idx k29_1 v84_2).bind fun x91 =>
  bif x91 then
   rec2 (v7_2,(IntKind.i64.wrap (v84_2 + 1)))
  else
   bif (bif (decide (v7_2 ≥ 0)) then (x87 != v7_2) else false) then
    some 5
   else
    rec2 (x87,(IntKind.i64.wrap (v84_2 + 1)))
 else
  kont2_4 v7_2 v84_2
def Kg (p0:Aw) (k29_1:(List Bool)):Option Int :=
 (EN p0).bind fun x82 =>
 iter (fun rec2 s=>NH x82 k29_1 (fun v7_2 v84_2=>some 0) rec2 s.1 s.2) AM ((-1),0)
def NG (p0:Aw) (kont1_1:(Int→(List (ByteArray × Bool))→(List Bool)→Option Int)) (rec1:((Int × (List (ByteArray × Bool)) × (List Bool))→Option Int)) (v33_1:Int) (b25_1:(List (ByteArray × Bool))) (b29_1:(List Bool)):Option Int :=
 bif (decide (v33_1 < ((p0.Codes.length:Nat):Int))) then
  (idx p0.Codes v33_1).bind fun x36 =>
  (D1 x36.Name).bind fun x41 =>
  bif (!x41) then
   some 3
  else
   bif ((VT x36.Name b25_1).getD false) then
    some 10
   else
    bif (bif (bif (v33_1==0) then (x36.Parent != (-1)) else false) then true else (bif (decide (v33_1 > 0)) then (bif (decide (x36.Parent < 0)) then true else (decide (x36.Parent ≥ v33_1))) else false)) then
     some 6
    else
     bif (decide (v33_1 > 0)) then
      (idx b29_1 x36.Parent).bind fun x79 =>
      rec1 ((IntKind.i64.wrap (v33_1 + 1)),(b6 x36.Name true b25_1),(b29_1.set (x36.Parent:Int).toNat true))
     else
      rec1 ((IntKind.i64.wrap (v33_1 + 1)),(b6 x36.Name true b25_1),b29_1)
 else
  kont1_1 v33_1 b25_1 b29_1
def EI (p0:Aw):Option Int :=
 (D1 p0.Name).bind fun x13 =>
 bif (!x13) then
  some 3
 else
  bif (((p0.Codes.length:Nat):Int)==0) then
   some 5
  else
   bif (decide (((p0.Codes.length:Nat):Int) > 60)) then
    some 1
   else
    bif (decide (0≤((p0.Codes.length:Nat):Int)) && rm (((p0.Codes.length:Nat):Int):Int).toNat 0) then
     iter (fun rec1 s=>NG p0 (fun v33_1 b25_1 b29_1=>Kg p0 b29_1) rec1 s.1 s.2.1 s.2.2) AM (0,[],(List.replicate (((p0.Codes.length:Nat):Int):Int).toNat false))
    else none
def Ci (p0:(List Aw)) (p1:(Aw→Option Bool)) (kont1_0:(Int→Option Int)) (rec1:(Int→Option Int)) (v8_1:Int):Option Int :=
 bif (decide (v8_1 < ((p0.length:Nat):Int))) then
  (idx p0 v8_1).bind fun x14 =>
  (p1 x14).bind fun x16 =>
  bif x16 then
   some v8_1
  else
   rec1 (IntKind.i64.wrap (v8_1 + 1))
 else
  kont1_0 v8_1
def Bm (p0:(List Aw)) (p1:(Aw→Option Bool)):Option Int :=
 iter (fun rec1 s=>Ci p0 p1 (fun v8_1=>some (-1)) rec1 s) AM 0
def AT (p0:(List Aw)) (p1:(Aw→Option Bool)):Option Bool :=
 (Bm p0 p1).bind fun x7 =>
 some (decide (x7 ≥ 0))
def Jy (p0:Aw) (q0:Aw):Option Bool :=
 some (p0.Name.toList==q0.Name.toList)
def Cu (p0:(List Az)) (p1:(Az→Option Bool)) (kont1_0:(Int→Option Int)) (rec1:(Int→Option Int)) (v8_1:Int):Option Int :=
 bif (decide (v8_1 < ((p0.length:Nat):Int))) then
  (idx p0 v8_1).bind fun x14 =>
  (p1 x14).bind fun x16 =>
  bif x16 then
   some v8_1
  else
   rec1 (IntKind.i64.wrap (v8_1 + 1))
 else
  kont1_0 v8_1
def Bt (p0:(List Az)) (p1:(Az→Option Bool)):Option Int :=
 iter (fun rec1 s=>Cu p0 p1 (fun v8_1=>some (-1)) rec1 s) AM 0
def Bc (p0:(List Az)) (p1:(Az→Option Bool)):Option Bool :=
 (Bt p0 p1).bind fun x7 =>
 some (decide (x7 ≥ 0))
def FA (p0:Az) (q0:Az):Option Bool :=
 some (p0.Name.toList==q0.Name.toList)
def Fh (p0:Az) (kont1_1:(Int→Int→Option Int)) (rec1:((Int × Int)→Option Int)) (v3_1:Int) (v36_1:Int):Option Int :=
 bif (decide (v36_1 < ((p0.Widths.length:Nat):Int))) then
  (idx p0.Widths v36_1).bind fun x39 =>
  bif (bif (v36_1==0) then (x39 != 1) else false) then
   some 2
  else
   bif (decide (v36_1 > 0)) then
    bif (decide (x39≤v3_1)) then
     some 2
    else
     bif (decide (v3_1≠0)) then
      bif (bif ((Int.tmod x39 v3_1) != 0) then true else (decide (x39 > 1000000))) then
       some 2
      else
       rec1 (x39,(IntKind.i64.wrap (v36_1 + 1)))
     else none
   else
    rec1 (x39,(IntKind.i64.wrap (v36_1 + 1)))
 else
  kont1_1 v3_1 v36_1
def Dj (p0:Az):Option Int :=
 bif (bif (bif (decide (p0.Low < (-1000000))) then true else (decide (p0.High > 1000000))) then true else (decide (p0.Low > p0.High))) then
  some 2
 else
  bif (bif (((p0.Widths.length:Nat):Int)==0) then true else (decide (((p0.Widths.length:Nat):Int) > 4))) then
   some 1
  else
   iter (fun rec1 s=>Fh p0 (fun v3_1 v36_1=>some 0) rec1 s.1 s.2) AM (1,0)
def Du (p0:Az):Option Bool :=
 bif (bif (p0.Kind != 2) then (p0.List_ != 0) else false) then
  some false
 else
  some (bif (p0.Kind==3) then true else (bif (bif (bif (p0.Low==0) then (p0.High==0) else false) then (((p0.Widths.length:Nat):Int)==0) else false) then (!p0.Optional) else false))
def D9 (p0:Af) (p1:Int):Option Int :=
 (idx p0.Columns p1).bind fun x10 =>
 (D1 x10.Name).bind fun x14 =>
 bif (!x14) then
  some 3
 else
  bif (decide (0≤(0:Int)∧0≤p1∧p1≤((p0.Columns.length:Nat):Int))) then
   (Bc (Sm p0.Columns 0 p1) (fun a0=>FA a0 x10)).bind fun x21 =>
   bif x21 then
    some 10
   else
    bif (x10.Kind==1) then
     bif (decide (p1 > 0)) then
      some 4
     else
      (Du x10).bind fun x49 =>
      bif (!x49) then
       some 11
      else
       some 0
    else
     bif (x10.Kind==2) then
      bif (bif (decide (x10.List_ < 0)) then true else (decide (x10.List_ ≥ ((p0.Lists.length:Nat):Int)))) then
       some 5
      else
       (Du x10).bind fun x49 =>
       bif (!x49) then
        some 11
       else
        some 0
     else
      bif (x10.Kind==3) then
       (Dj x10).bind fun x44 =>
       bif (x44 != 0) then
        some x44
       else
        (Du x10).bind fun x49 =>
        bif (!x49) then
         some 11
        else
         some 0
      else
       some 4
  else none
def GH (p0:Af) (kont2_2:(Int→Option Int)) (rec2:(Int→Option Int)) (v53_2:Int):Option Int :=
 bif (decide (v53_2 < ((p0.Columns.length:Nat):Int))) then
  (D9 p0 v53_2).bind fun x58 =>
  bif (x58 != 0) then
   some x58
  else
   rec2 (IntKind.i64.wrap (v53_2 + 1))
 else
  kont2_2 v53_2
def GI (p0:Af):Option Int :=
 bif (((p0.Columns.length:Nat):Int)==0) then
  some 7
 else
  (idx p0.Columns 0).bind fun x45 =>
  bif (x45.Kind != 1) then
   some 7
  else
   iter (fun rec2 s=>GH p0 (fun v53_2=>some 0) rec2 s) AM 0
def GG (p0:Af) (kont1_0:(Int→Option Int)) (rec1:(Int→Option Int)) (v21_1:Int):Option Int :=
 bif (decide (v21_1 < ((p0.Lists.length:Nat):Int))) then
  (idx p0.Lists v21_1).bind fun x24 =>
  (EI x24).bind fun x27 =>
  bif (x27 != 0) then
   some x27
  else
   bif (decide (0≤(0:Int)∧0≤v21_1∧v21_1≤((p0.Lists.length:Nat):Int))) then
    (AT (Sm p0.Lists 0 v21_1) (fun a0=>Jy a0 x24)).bind fun x36 =>
    bif x36 then
     some 10
    else
     rec1 (IntKind.i64.wrap (v21_1 + 1))
   else none
 else
  kont1_0 v21_1
def Cs (p0:Af):Option Int :=
 bif (bif (decide (((p0.Lists.length:Nat):Int) > 6)) then true else (decide (((p0.Columns.length:Nat):Int) > 8))) then
  some 1
 else
  iter (fun rec1 s=>GG p0 (fun v21_1=>GI p0) rec1 s) AM 0
def Ij (p0:(List Int)) (kont1_0:(Int→Int→Option Int)) (rec1:((Int × Int)→Option Int)) (v3_1:Int) (v4_1:Int):Option Int :=
 bif (decide (v4_1 < ((p0.length:Nat):Int))) then
  (idx p0 v4_1).bind fun x21 =>
  rec1 ((if x21 > v3_1 then x21 else v3_1),(IntKind.i64.wrap (v4_1 + 1)))
 else
  kont1_0 v3_1 v4_1
def Gw (p0:(List Int)):Option Int :=
 bif (decide (((p0.length:Nat):Int) < 1)) then
  none
 else
  (idx p0 0).bind fun x10 =>
  iter (fun rec1 s=>Ij p0 (fun v3_1 v4_1=>some v3_1) rec1 s.1 s.2) AM (x10,1)
def DZ (p0:Aw):Option Int :=
 (EI p0).bind fun x4 =>
 bif (x4 != 0) then
  some (-1)
 else
  (EN p0).bind fun x7 =>
  (Gw x7).bind fun x8 =>
  some (IntKind.i64.wrap (x8 + 1))
def Eu (p0:Af) (p1:Int):Option Int :=
 bif (bif (decide (p1 < 1)) then true else (decide (p1 ≥ ((p0.Columns.length:Nat):Int)))) then
  some (-1)
 else
  (idx p0.Columns p1).bind fun x18 =>
  bif (x18.Kind==2) then
   (idx p0.Lists x18.List_).bind fun x27 =>
   (DZ x27).bind fun x29 =>
   some (IntKind.i64.wrap (x29 - 1))
  else
   some ((x18.Widths.length:Nat):Int)
def Hp (p0:Af) (p1:An):Option Int :=
 (Eu p0 p1.Column).bind fun x9 =>
 bif (decide (x9 < 0)) then
  some 7
 else
  bif (bif (decide (p1.Level < 0)) then true else (decide (p1.Level > x9))) then
   some 8
  else
   some 0
def GK (p1:(List An)) (p0:Af) (kont1_0:(Int→Option Int)) (rec1:(Int→Option Int)) (v16_1:Int):Option Int :=
 bif (decide (v16_1 < ((p1.length:Nat):Int))) then
  (idx p1 v16_1).bind fun x19 =>
  (Hp p0 x19).bind fun x23 =>
  bif (x23 != 0) then
   some x23
  else
   bif (decide (v16_1 > 0)) then
    (idx p1 (IntKind.i64.wrap (v16_1 - 1))).bind fun x35 =>
    bif (decide (x19.Column≤x35.Column)) then
     some 10
    else
     rec1 (IntKind.i64.wrap (v16_1 + 1))
   else
    rec1 (IntKind.i64.wrap (v16_1 + 1))
 else
  kont1_0 v16_1
def Gq (p0:Af) (p1:(List An)):Option Int :=
 (Cs p0).bind fun x10 =>
 bif (x10 != 0) then
  some x10
 else
  iter (fun rec1 s=>GK p1 p0 (fun v16_1=>some 0) rec1 s) AM 0
def Fj (p0:Az) (p1:Int):Option Int :=
 (idx p0.Widths (IntKind.i64.wrap (((p0.Widths.length:Nat):Int) - p1))).bind fun x12 =>
 some x12
def Dt (p0:Int) (p1:Int):Option Int :=
 bif (decide (p1≠0)) then
  bif (decide ((Int.tmod p0 p1) < 0)) then
   some (IntKind.i64.wrap (p0 - (IntKind.i64.wrap ((Int.tmod p0 p1) + p1))))
  else
   some (IntKind.i64.wrap (p0 - (Int.tmod p0 p1)))
 else none
def Hq (p0:Az) (p1:Int) (p2:Int):Option (Int × Int × Bool) :=
 bif (p1==0) then
  some (p0.Low,p0.High,(p2==0))
 else
  bif (bif (decide (p2 < (-2000000))) then true else (decide (p2 > 1000000))) then
   some (0,0,false)
  else
   (Fj p0 p1).bind fun x30 =>
   (Dt p2 x30).bind fun x46 =>
   some ((if p0.Low > p2 then p0.Low else p2),(if p0.High < (IntKind.i64.wrap ((IntKind.i64.wrap (p2 + x30)) - 1)) then p0.High else (IntKind.i64.wrap ((IntKind.i64.wrap (p2 + x30)) - 1))),(bif (x46==p2) then (decide ((if p0.Low > p2 then p0.Low else p2)≤(if p0.High < (IntKind.i64.wrap ((IntKind.i64.wrap (p2 + x30)) - 1)) then p0.High else (IntKind.i64.wrap ((IntKind.i64.wrap (p2 + x30)) - 1))))) else false))
def Sj (x12:(List Int)) (p1:Int) (kont1_0:(Int→(List Int)→Option (List Int))) (rec1:((Int × (List Int))→Option (List Int))) (v14_1:Int) (b5_1:(List Int)):Option (List Int) :=
 bif (decide (v14_1 < ((x12.length:Nat):Int))) then
  (idx x12 v14_1).bind fun x17 =>
  bif (x17==p1) then
   bif rm b5_1.length [v14_1].length then
    rec1 ((IntKind.i64.wrap (v14_1 + 1)),(b5_1++[v14_1]))
   else none
  else
   rec1 ((IntKind.i64.wrap (v14_1 + 1)),b5_1)
 else
  kont1_0 v14_1 b5_1
def IZ (p0:Aw) (p1:Int):Option (List Int) :=
 (EI p0).bind fun x9 =>
 bif (x9 != 0) then
  some []
 else
  (EN p0).bind fun x12 =>
  iter (fun rec1 s=>Sj x12 p1 (fun v14_1 b5_1=>some b5_1) rec1 s.1 s.2) AM (0,[])
def LN (p0:Aw) (p1:Int):Option Bool :=
 bif (bif (decide (p1 ≥ 0)) then (decide (p1 < ((p0.Codes.length:Nat):Int))) else false) then
  (EI p0).bind fun x16 =>
  some (x16==0)
 else
  some false
def Sk (p2:Int) (p0:Aw) (kont1_0:(Int→Int→Option Int)) (rec1:((Int × Int)→Option Int)) (v1_1:Int) (v7_1:Int):Option Int :=
 bif (decide (v7_1 ≥ p2)) then
  bif (v7_1==p2) then
   some v1_1
  else
   (idx p0.Codes v1_1).bind fun x33 =>
   rec1 (x33.Parent,(IntKind.i64.wrap (v7_1 - 1)))
 else
  kont1_0 v1_1 v7_1
def FN (p0:Aw) (p1:Int) (p2:Int):Option Int :=
 (LN p0 p1).bind fun x10 =>
 bif (bif (!x10) then true else (decide (p2 < 0))) then
  some (-1)
 else
  (EN p0).bind fun x17 =>
  (idx x17 p1).bind fun x19 =>
  iter (fun rec1 s=>Sk p2 p0 (fun v1_1 v7_1=>some (-1)) rec1 s.1 s.2) AM (p1,x19)
def KE (x54:(List Int)) (x48:Aw) (p2:Int) (p3:Int) (kont1_0:(Int→Option (Int × Bool))) (rec1:(Int→Option (Int × Bool))) (v56_1:Int):Option (Int × Bool) :=
 bif (decide (v56_1 < ((x54.length:Nat):Int))) then
  (idx x54 v56_1).bind fun x58 =>
  (FN x48 x58 p2).bind fun x63 =>
  bif (x63==p3) then
   some (x58,true)
  else
   rec1 (IntKind.i64.wrap (v56_1 + 1))
 else
  kont1_0 v56_1
def BE (p0:Af) (p1:Int) (p2:Int) (p3:Int):Option (Int × Bool) :=
 (idx p0.Columns p1).bind fun x20 =>
 bif (x20.Kind==3) then
  bif (bif (decide (p2 > 0)) then (p3==(-1099511627776)) else false) then
   some (p3,x20.Optional)
  else
   (Hq x20 p2 p3).bind fun x38 =>
   some (x38.1,x38.2.2)
 else
  (idx p0.Lists x20.List_).bind fun x48 =>
  (DZ x48).bind fun x52 =>
  (IZ x48 (IntKind.i64.wrap (x52 - 1))).bind fun x54 =>
  iter (fun rec1 s=>KE x54 x48 p2 p3 (fun v56_1=>some (0,false)) rec1 s) AM 0
def G8 (p1:(List An)) (p2:(List Int)) (p0:Af) (kont1_0:(Int→Option Bool)) (rec1:(Int→Option Bool)) (v31_1:Int):Option Bool :=
 bif (decide (v31_1 < ((p1.length:Nat):Int))) then
  (idx p1 v31_1).bind fun x34 =>
  (idx p2 (IntKind.i64.wrap (v31_1 + 1))).bind fun x45 =>
  (BE p0 x34.Column x34.Level x45).bind fun x47 =>
  bif (!x47.2) then
   some false
  else
   rec1 (IntKind.i64.wrap (v31_1 + 1))
 else
  kont1_0 v31_1
def G9 (p1:(List An)) (p2:(List Int)) (p0:Af):Option Bool :=
 iter (fun rec1 s=>G8 p1 p2 p0 (fun v31_1=>some true) rec1 s) AM 0
def H9 (p0:Af) (p1:(List An)) (p2:(List Int)):Option Bool :=
 bif (((p2.length:Nat):Int) != (IntKind.i64.wrap (((p1.length:Nat):Int) + 1))) then
  some false
 else
  (idx p2 0).bind fun x19 =>
  bif (decide (x19 < 0)) then
   some false
  else
   (idx p2 0).bind fun x25 =>
   bif (decide (x25 > 1048575)) then
    some false
   else
    G9 p1 p2 p0
def Gi (p1:A1) (p0:Af) (kont1_1:(Int→Option Int)) (rec1:(Int→Option Int)) (v42_1:Int):Option Int :=
 bif (decide (v42_1 < ((p1.Rows.length:Nat):Int))) then
  (idx p1.Rows v42_1).bind fun x45 =>
  (H9 p0 p1.Picks x45).bind fun x51 =>
  bif (!x51) then
   some 9
  else
   bif (decide (v42_1 > 0)) then
    (idx x45 0).bind fun x57 =>
    (idx p1.Rows (IntKind.i64.wrap (v42_1 - 1))).bind fun x63 =>
    (idx x63 0).bind fun x65 =>
    bif (decide (x57≤x65)) then
     some 10
    else
     rec1 (IntKind.i64.wrap (v42_1 + 1))
   else
    rec1 (IntKind.i64.wrap (v42_1 + 1))
 else
  kont1_1 v42_1
def Eo (p0:Af) (p1:A1):Option Int :=
 (Cs p0).bind fun x10 =>
 bif (x10 != 0) then
  some x10
 else
  (D1 p1.Project).bind fun x17 =>
  bif (!x17) then
   some 3
  else
   bif (bif (decide (p1.Version < 0)) then true else (decide (p1.Version > 300))) then
    some 13
   else
    (Gq p0 p1.Picks).bind fun x31 =>
    bif (x31 != 0) then
     some x31
    else
     bif (decide (((p1.Rows.length:Nat):Int) > 200)) then
      some 1
     else
      iter (fun rec1 s=>Gi p1 p0 (fun v42_1=>some 0) rec1 s) AM 0
def Km (p0:Ar) (p1:Int) (self_condition_count:(Ar→Int→Option Int)) (kont1_0:(Int→Int→Option Int)) (rec1:((Int × Int)→Option Int)) (v5_1:Int) (v11_1:Int):Option Int :=
 bif (decide (v11_1 < ((p0.Kids.length:Nat):Int))) then
  (idx p0.Kids v11_1).bind fun x13 =>
  bif (decide (v5_1 > p1)) then
   kont1_0 v5_1 v11_1
  else
   (self_condition_count x13 (IntKind.i64.wrap (p1 - v5_1))).bind fun x23 =>
   rec1 ((IntKind.i64.wrap (v5_1 + x23)),(IntKind.i64.wrap (v11_1 + 1)))
 else
  kont1_0 v5_1 v11_1
def H4 (d:Nat) (self_condition_count:(Ar→Int→Option Int)) (p0:Ar) (p1:Int):Option Int :=
 iter (fun rec1 s=>Km p0 p1 self_condition_count (fun v5_1 v11_1=>some v5_1) rec1 s.1 s.2) AM (1,0)
def G6:Nat→Ar→Int→Option Int
 | 0,_,_=>none
 | d + 1,p0,p1=>H4 d (G6 d) p0 p1
def KO (p0:Ar) (self_condition_deep:(Ar→Option Int)) (kont1_0:(Int→Int→Option Int)) (rec1:((Int × Int)→Option Int)) (v3_1:Int) (v9_1:Int):Option Int :=
 bif (decide (v9_1 < ((p0.Kids.length:Nat):Int))) then
  (idx p0.Kids v9_1).bind fun x11 =>
  (self_condition_deep x11).bind fun x15 =>
  rec1 ((if x15 > v3_1 then x15 else v3_1),(IntKind.i64.wrap (v9_1 + 1)))
 else
  kont1_0 v3_1 v9_1
def Iw (d:Nat) (self_condition_deep:(Ar→Option Int)) (p0:Ar):Option Int :=
 iter (fun rec1 s=>KO p0 self_condition_deep (fun v3_1 v9_1=>some (IntKind.i64.wrap (v3_1 + 1))) rec1 s.1 s.2) AM (0,0)
def H5:Nat→Ar→Option Int
 | 0,_=>none
 | d + 1,p0=>Iw d (H5 d) p0
def Ko (p0:Int):Option Int :=
 bif (p0==5) then
  some 2
 else
  bif (p0==6) then
   some 2
  else
   bif (p0==7) then
    some 1
   else
    some 0
def Iz (p0:Ar):Option Bool :=
 bif (bif (!(bif (bif (p0.Op==2) then true else (p0.Op==3)) then true else (p0.Op==4))) then (p0.Column != 0) else false) then
  some false
 else
  bif (bif (p0.Op != 2) then (p0.Code != 0) else false) then
   some false
  else
   some (bif (p0.Op==3) then true else (bif (p0.Low==0) then (p0.High==0) else false))
def F9 (p0:Af) (p1:Ar):Option Int :=
 (idx p0.Columns p1.Column).bind fun x58 =>
 bif (p1.Op==2) then
  bif (x58.Kind != 2) then
   some 7
  else
   bif (decide (p1.Code < 0)) then
    some 6
   else
    (idx p0.Lists x58.List_).bind fun x77 =>
    bif (decide (p1.Code ≥ ((x77.Codes.length:Nat):Int))) then
     some 6
    else
     some 0
 else
  bif (p1.Op==3) then
   bif (x58.Kind != 3) then
    some 7
   else
    bif (bif (bif (decide (p1.Low > p1.High)) then true else (decide (p1.Low < (-1000000)))) then true else (decide (p1.High > 1000000))) then
     some 2
    else
     some 0
  else
   bif (p1.Op==4) then
    bif (bif (x58.Kind != 3) then true else (!x58.Optional)) then
     some 7
    else
     some 0
   else
    some 0
def GR (p0:Af) (p1:Ar):Option Int :=
 bif (bif (decide (p1.Op < 1)) then true else (decide (p1.Op > 7))) then
  some 4
 else
  (Ko p1.Op).bind fun x21 =>
  bif (((p1.Kids.length:Nat):Int) != x21) then
   some 11
  else
   (Iz p1).bind fun x25 =>
   bif (!x25) then
    some 11
   else
    bif (bif (bif (p1.Op != 2) then (p1.Op != 3) else false) then (p1.Op != 4) else false) then
     some 0
    else
     bif (bif (decide (p1.Column < 0)) then true else (decide (p1.Column ≥ ((p0.Columns.length:Nat):Int)))) then
      some 7
     else
      F9 p0 p1
def Ip (p1:Ar) (self_condition_checkAll:(Af→Ar→Option Int)) (p0:Af) (kont1_0:(Int→Option Int)) (rec1:(Int→Option Int)) (v18_1:Int):Option Int :=
 bif (decide (v18_1 < ((p1.Kids.length:Nat):Int))) then
  (idx p1.Kids v18_1).bind fun x20 =>
  (self_condition_checkAll p0 x20).bind fun x24 =>
  bif (x24 != 0) then
   some x24
  else
   rec1 (IntKind.i64.wrap (v18_1 + 1))
 else
  kont1_0 v18_1
def FQ (d:Nat) (self_condition_checkAll:(Af→Ar→Option Int)) (p0:Af) (p1:Ar):Option Int :=
 (GR p0 p1).bind fun x11 =>
 bif (x11 != 0) then
  some x11
 else
  iter (fun rec1 s=>Ip p1 self_condition_checkAll p0 (fun v18_1=>some 0) rec1 s) AM 0
def EQ:Nat→Af→Ar→Option Int
 | 0,_,_=>none
 | d + 1,p0,p1=>FQ d (EQ d) p0 p1
def BJ (d:Nat) (p0:Af) (p1:Ar):Option Int :=
 (Cs p0).bind fun x7 =>
 bif (x7 != 0) then
  some x7
 else
  (G6 d p1 40).bind fun x14 =>
  bif (decide (x14 > 40)) then
   some 1
  else
   (H5 d p1).bind fun x18 =>
   bif (decide (x18 > 10)) then
    some 22
   else
    (EQ d p0 p1).bind fun x22 =>
    some x22
def HL :Option (Be × Bool) :=
 some (({ f_num:=false,f_name:=false,f_column:=false,f_columns:=false,f_dims:=false,f_cond:=false,f_event:=false }:Be),false)
def Kz (p0:Int):Option (Be × Bool) :=
 bif (p0==1) then
  some (({ f_num:=true,f_name:=false,f_column:=false,f_columns:=false,f_dims:=false,f_cond:=false,f_event:=false }:Be),true)
 else
  bif (p0==2) then
   some (({ f_num:=false,f_name:=true,f_column:=false,f_columns:=false,f_dims:=false,f_cond:=false,f_event:=false }:Be),true)
  else
   bif (p0==3) then
    some (({ f_num:=false,f_name:=false,f_column:=false,f_columns:=false,f_dims:=false,f_cond:=true,f_event:=false }:Be),true)
   else
    bif (p0==4) then
     some (({ f_num:=false,f_name:=false,f_column:=true,f_columns:=false,f_dims:=false,f_cond:=true,f_event:=false }:Be),true)
    else
     bif (p0==5) then
      some (({ f_num:=false,f_name:=false,f_column:=true,f_columns:=false,f_dims:=false,f_cond:=true,f_event:=false }:Be),true)
     else
      bif (p0==14) then
       some (({ f_num:=false,f_name:=false,f_column:=true,f_columns:=false,f_dims:=false,f_cond:=true,f_event:=false }:Be),true)
      else
       bif (p0==6) then
        some (({ f_num:=false,f_name:=false,f_column:=false,f_columns:=false,f_dims:=false,f_cond:=false,f_event:=false }:Be),true)
       else
        bif (p0==7) then
         some (({ f_num:=false,f_name:=false,f_column:=false,f_columns:=false,f_dims:=false,f_cond:=false,f_event:=false }:Be),true)
        else
         bif (p0==8) then
          some (({ f_num:=false,f_name:=false,f_column:=false,f_columns:=false,f_dims:=false,f_cond:=false,f_event:=false }:Be),true)
         else
          bif (p0==9) then
           some (({ f_num:=false,f_name:=false,f_column:=false,f_columns:=false,f_dims:=false,f_cond:=false,f_event:=false }:Be),true)
          else
           bif (p0==10) then
            some (({ f_num:=false,f_name:=false,f_column:=true,f_columns:=false,f_dims:=true,f_cond:=true,f_event:=false }:Be),true)
           else
            bif (p0==11) then
             some (({ f_num:=false,f_name:=false,f_column:=true,f_columns:=true,f_dims:=false,f_cond:=true,f_event:=false }:Be),true)
            else
             bif (p0==12) then
              some (({ f_num:=false,f_name:=false,f_column:=true,f_columns:=false,f_dims:=false,f_cond:=true,f_event:=true }:Be),true)
             else
              bif (p0==13) then
               some (({ f_num:=true,f_name:=false,f_column:=true,f_columns:=false,f_dims:=false,f_cond:=true,f_event:=false }:Be),true)
              else
               HL
def CE (p0:Int):Option Bool :=
 some (bif (decide (p0 ≥ 6)) then (decide (p0≤9)) else false)
def Gy (p0:Ar):Option Bool :=
 some (bif (bif (bif (bif (bif (p0.Op==0) then (p0.Column==0) else false) then (p0.Code==0) else false) then (p0.Low==0) else false) then (p0.High==0) else false) then (((p0.Kids.length:Nat):Int)==0) else false)
def EC (p0:A2) (p1:Be):Option Bool :=
 bif (bif (bif (bif (bif (bif p1.f_num then true else (p0.Num==0)) then (bif p1.f_name then true else (p0.Name.toList==({ data:=#[] }:ByteArray).toList)) else false) then (bif p1.f_column then true else (p0.Column==0)) else false) then (bif p1.f_columns then true else (((p0.Columns.length:Nat):Int)==0)) else false) then (bif p1.f_dims then true else (((p0.Dims.length:Nat):Int)==0)) else false) then
  bif p1.f_cond then
   bif p1.f_event then
    (CE p0.Op).bind fun x71 =>
    some (bif x71 then true else (((p0.Kids.length:Nat):Int)==0))
   else
    (Gy p0.Event).bind fun x65 =>
    bif x65 then
     (CE p0.Op).bind fun x71 =>
     some (bif x71 then true else (((p0.Kids.length:Nat):Int)==0))
    else
     some false
  else
   (Gy p0.Cond).bind fun x56 =>
   bif x56 then
    bif p1.f_event then
     (CE p0.Op).bind fun x71 =>
     some (bif x71 then true else (((p0.Kids.length:Nat):Int)==0))
    else
     (Gy p0.Event).bind fun x65 =>
     bif x65 then
      (CE p0.Op).bind fun x71 =>
      some (bif x71 then true else (((p0.Kids.length:Nat):Int)==0))
     else
      some false
   else
    some false
 else
  some false
def G4 (p0:(List Int)) (p1:Int) (kont1_0:(Int→Option Int)) (rec1:(Int→Option Int)) (v8_1:Int):Option Int :=
 bif (decide (v8_1 < ((p0.length:Nat):Int))) then
  (idx p0 v8_1).bind fun x14 =>
  bif (p1==x14) then
   some v8_1
  else
   rec1 (IntKind.i64.wrap (v8_1 + 1))
 else
  kont1_0 v8_1
def FB (p0:(List Int)) (p1:Int):Option Int :=
 iter (fun rec1 s=>G4 p0 p1 (fun v8_1=>some (-1)) rec1 s) AM 0
def CI (p0:(List Int)) (p1:Int):Option Bool :=
 (FB p0 p1).bind fun x7 =>
 some (decide (x7 ≥ 0))
def B5 (p0:Af) (p1:Int):Option Bool :=
 bif (bif (decide (p1 ≥ 0)) then (decide (p1 < ((p0.Columns.length:Nat):Int))) else false) then
  (idx p0.Columns p1).bind fun x18 =>
  some (x18.Kind==3)
 else
  some false
def CW (p0:(List An)) (p1:(An→Option Bool)) (kont1_0:(Int→Option Int)) (rec1:(Int→Option Int)) (v8_1:Int):Option Int :=
 bif (decide (v8_1 < ((p0.length:Nat):Int))) then
  (idx p0 v8_1).bind fun x14 =>
  (p1 x14).bind fun x16 =>
  bif x16 then
   some v8_1
  else
   rec1 (IntKind.i64.wrap (v8_1 + 1))
 else
  kont1_0 v8_1
def AU (p0:(List An)) (p1:(An→Option Bool)):Option Int :=
 iter (fun rec1 s=>CW p0 p1 (fun v8_1=>some (-1)) rec1 s) AM 0
def AK (p0:(List An)) (p1:(An→Option Bool)):Option Bool :=
 (AU p0 p1).bind fun x7 =>
 some (decide (x7 ≥ 0))
def OC (p0:Af) (p1:An):Option Int :=
 (Cs p0).bind fun x7 =>
 bif (x7 != 0) then
  some x7
 else
  (Hp p0 p1).bind fun x13 =>
  some x13
def Jv (p0:An) (q0:An):Option Bool :=
 some (p0.Column==q0.Column)
def Ny (p1:(List An)) (p0:Af) (kont1_0:(Int→Option Bool)) (rec1:(Int→Option Bool)) (v9_1:Int):Option Bool :=
 bif (decide (v9_1 < ((p1.length:Nat):Int))) then
  (idx p1 v9_1).bind fun x12 =>
  (OC p0 x12).bind fun x16 =>
  bif (x16 != 0) then
   some false
  else
   (idx p0.Columns x12.Column).bind fun x23 =>
   bif (x23.Kind != 2) then
    some false
   else
    bif (decide (0≤(0:Int)∧0≤v9_1∧v9_1≤((p1.length:Nat):Int))) then
     (AK (Sm p1 0 v9_1) (fun a0=>Jv a0 x12)).bind fun x32 =>
     bif x32 then
      some false
     else
      rec1 (IntKind.i64.wrap (v9_1 + 1))
    else none
 else
  kont1_0 v9_1
def MR (p0:Af) (p1:(List An)):Option Bool :=
 iter (fun rec1 s=>Ny p1 p0 (fun v9_1=>some (bif (decide (((p1.length:Nat):Int) ≥ 1)) then (decide (((p1.length:Nat):Int)≤3)) else false)) rec1 s) AM 0
def Mn (p2:(List Int)) (p0:Af) (p1:Int) (kont1_0:(Int→Option Bool)) (rec1:(Int→Option Bool)) (v11_1:Int):Option Bool :=
 bif (decide (v11_1 < ((p2.length:Nat):Int))) then
  (idx p2 v11_1).bind fun x14 =>
  (B5 p0 x14).bind fun x18 =>
  bif (bif (!x18) then true else (x14==p1)) then
   some false
  else
   bif (decide (0≤(0:Int)∧0≤v11_1∧v11_1≤((p2.length:Nat):Int))) then
    (CI (Sm p2 0 v11_1) x14).bind fun x30 =>
    bif x30 then
     some false
    else
     rec1 (IntKind.i64.wrap (v11_1 + 1))
   else none
 else
  kont1_0 v11_1
def L0 (p0:Af) (p1:Int) (p2:(List Int)):Option Bool :=
 iter (fun rec1 s=>Mn p2 p0 p1 (fun v11_1=>some (bif (decide (((p2.length:Nat):Int) ≥ 1)) then (decide (((p2.length:Nat):Int)≤3)) else false)) rec1 s) AM 0
def JJ (p0:Af) (p1:A2):Option Bool :=
 bif (p1.Op==1) then
  some (bif (decide (p1.Num ≥ (-1099511627776))) then (decide (p1.Num≤1099511627776)) else false)
 else
  bif (p1.Op==2) then
   (D1 p1.Name).bind fun x21 =>
   some x21
  else
   bif (p1.Op==4) then
    (B5 p0 p1.Column).bind fun x29 =>
    some x29
   else
    bif (p1.Op==5) then
     (B5 p0 p1.Column).bind fun x29 =>
     some x29
    else
     bif (p1.Op==14) then
      (B5 p0 p1.Column).bind fun x29 =>
      some x29
     else
      bif (p1.Op==10) then
       (MR p0 p1.Dims).bind fun x35 =>
       bif x35 then
        bif (p1.Column==(-1)) then
         some true
        else
         (B5 p0 p1.Column).bind fun x44 =>
         some x44
       else
        some false
      else
       bif (p1.Op==11) then
        (B5 p0 p1.Column).bind fun x52 =>
        bif x52 then
         (L0 p0 p1.Column p1.Columns).bind fun x59 =>
         some x59
        else
         some false
       else
        bif (p1.Op==12) then
         (B5 p0 p1.Column).bind fun x66 =>
         bif x66 then
          (idx p0.Columns p1.Column).bind fun x72 =>
          some (decide (x72.Low ≥ 0))
         else
          some false
        else
         bif (p1.Op==13) then
          (B5 p0 p1.Column).bind fun x82 =>
          bif x82 then
           (idx p0.Columns p1.Column).bind fun x88 =>
           (CI x88.Widths p1.Num).bind fun x93 =>
           some x93
          else
           some false
         else
          some true
def CU (p0:(List A2)) (p1:(A2→Option Bool)) (kont1_0:(Int→Option Int)) (rec1:(Int→Option Int)) (v8_1:Int):Option Int :=
 bif (decide (v8_1 < ((p0.length:Nat):Int))) then
  (idx p0 v8_1).bind fun x14 =>
  (p1 x14).bind fun x16 =>
  bif x16 then
   some v8_1
  else
   rec1 (IntKind.i64.wrap (v8_1 + 1))
 else
  kont1_0 v8_1
def BA (p0:(List A2)) (p1:(A2→Option Bool)):Option Int :=
 iter (fun rec1 s=>CU p0 p1 (fun v8_1=>some (-1)) rec1 s) AM 0
def A7 (p0:(List A2)) (p1:(A2→Option Bool)):Option Bool :=
 (BA p0 p1).bind fun x7 =>
 some (decide (x7 ≥ 0))
def HJ (p0:Int):Option Bool :=
 some (bif (decide (p0 ≥ 1)) then (decide (p0≤9)) else false)
def Dy (x10:(Be × Bool)) (d:Nat) (p0:Af) (p1:A2) (self_program_right_c1:(A2→Af→Option Bool)):Option Bool :=
 bif x10.1.f_cond then
  (BJ d p0 p1.Cond).bind fun x33 =>
  bif (x33 != 0) then
   some false
  else
   bif x10.1.f_event then
    (BJ d p0 p1.Event).bind fun x43 =>
    bif (x43 != 0) then
     some false
    else
     (CE p1.Op).bind fun x49 =>
     bif (bif x49 then (((p1.Kids.length:Nat):Int) != 2) else false) then
      some false
     else
      (A7 p1.Kids (fun a0=>self_program_right_c1 a0 p0)).bind fun x59 =>
      some (!x59)
   else
    (CE p1.Op).bind fun x49 =>
    bif (bif x49 then (((p1.Kids.length:Nat):Int) != 2) else false) then
     some false
    else
     (A7 p1.Kids (fun a0=>self_program_right_c1 a0 p0)).bind fun x59 =>
     some (!x59)
 else
  bif x10.1.f_event then
   (BJ d p0 p1.Event).bind fun x43 =>
   bif (x43 != 0) then
    some false
   else
    (CE p1.Op).bind fun x49 =>
    bif (bif x49 then (((p1.Kids.length:Nat):Int) != 2) else false) then
     some false
    else
     (A7 p1.Kids (fun a0=>self_program_right_c1 a0 p0)).bind fun x59 =>
     some (!x59)
  else
   (CE p1.Op).bind fun x49 =>
   bif (bif x49 then (((p1.Kids.length:Nat):Int) != 2) else false) then
    some false
   else
    (A7 p1.Kids (fun a0=>self_program_right_c1 a0 p0)).bind fun x59 =>
    some (!x59)
def Cm (d:Nat) (self_program_right:(Af→A2→Option Bool)) (self_program_right_c1:(A2→Af→Option Bool)) (p0:Af) (p1:A2):Option Bool :=
 (Kz p1.Op).bind fun x10 =>
 bif (!x10.2) then
  some false
 else
  (EC p1 x10.1).bind fun x18 =>
  bif (!x18) then
   some false
  else
   (JJ p0 p1).bind fun x24 =>
   bif (!x24) then
    some false
   else
    Dy x10 d p0 p1 self_program_right_c1
def D3 (d:Nat) (self_program_right:(Af→A2→Option Bool)) (self_program_right_c1:(A2→Af→Option Bool)) (p0:A2) (q0:Af):Option Bool :=
 (HJ p0.Op).bind fun x6 =>
 bif (!x6) then
  some true
 else
  (self_program_right q0 p0).bind fun x11 =>
  some (!x11)
mutual
def B9:Nat→Af→A2→Option Bool
 | 0,_,_=>none
 | d + 1,p0,p1=>Cm d (B9 d) (C9 d) p0 p1
def C9:Nat→A2→Af→Option Bool
 | 0,_,_=>none
 | d + 1,p0,q0=>D3 d (B9 d) (C9 d) p0 q0
end
def F4 (d:Nat) (p0:Af) (p1:A2):Option Bool :=
 (Cs p0).bind fun x6 =>
 bif (x6==0) then
  (B9 d p0 p1).bind fun x11 =>
  some x11
 else
  some false
def Dl (p0:An) (q0:An):Option Bool :=
 some (bif (p0.Column==q0.Column) then (decide (p0.Level ≥ q0.Level)) else false)
def Ez (p0:An) (q0:(List An)):Option Bool :=
 (AK q0 (fun a0=>Dl a0 p0)).bind fun x6 =>
 some (!x6)
def Dx (p0:(List An)) (p1:(List An)):Option Bool :=
 (AK p1 (fun a0=>Ez a0 p0)).bind fun x7 =>
 some (!x7)
def M4 (x13:Az) (p2:Int) (kont1_0:(Int→Option Int)) (rec1:(Int→Option Int)) (v18_1:Int):Option Int :=
 bif (decide (v18_1 < ((x13.Widths.length:Nat):Int))) then
  (idx x13.Widths v18_1).bind fun x21 =>
  bif (x21==p2) then
   some (IntKind.i64.wrap (((x13.Widths.length:Nat):Int) - v18_1))
  else
   rec1 (IntKind.i64.wrap (v18_1 + 1))
 else
  kont1_0 v18_1
def LG (p0:Af) (p1:Int) (p2:Int):Option Int :=
 (idx p0.Columns p1).bind fun x13 =>
 iter (fun rec1 s=>M4 x13 p2 (fun v18_1=>some 0) rec1 s) AM 0
def Ds (p0:Af) (p1:Int):Option Int :=
 (Cs p0).bind fun x6 =>
 bif (x6 != 0) then
  some (-1)
 else
  (Eu p0 p1).bind fun x10 =>
  some x10
def F7 (p0:Af) (p1:Int) (p2:Int):Option Int :=
 (idx p0.Columns p1).bind fun x13 =>
 bif (x13.Kind==2) then
  (idx p0.Lists x13.List_).bind fun x22 =>
  (IZ x22 p2).bind fun x25 =>
  some ((x25.length:Nat):Int)
 else
  bif (p2==0) then
   some 1
  else
   (Fj x13 p2).bind fun x31 =>
   (Dt x13.High x31).bind fun x35 =>
   (Dt x13.Low x31).bind fun x39 =>
   bif (decide (x31≠0)) then
    bif x13.Optional then
     some (IntKind.i64.wrap ((IntKind.i64.wrap ((IntKind.i64.wrap (Int.tdiv (IntKind.i64.wrap (x35 - x39)) x31)) + 1)) + 1))
    else
     some (IntKind.i64.wrap ((IntKind.i64.wrap (Int.tdiv (IntKind.i64.wrap (x35 - x39)) x31)) + 1))
   else none
def Jz (p0:Af) (p1:Int) (kont1_0:(Int→Option Int)) (rec1:(Int→Option Int)) (v2_1:Int):Option Int :=
 bif (decide (v2_1 > 0)) then
  (F7 p0 p1 (IntKind.i64.wrap (v2_1 - 1))).bind fun x25 =>
  (F7 p0 p1 v2_1).bind fun x29 =>
  bif (x25==x29) then
   rec1 (IntKind.i64.wrap (v2_1 - 1))
  else
   kont1_0 v2_1
 else
  kont1_0 v2_1
def Fg (p0:Af) (p1:Int) (p2:Int):Option Int :=
 (Ds p0 p1).bind fun x10 =>
 bif (bif (decide (p2 < 0)) then true else (decide (p2 > x10))) then
  some (-1)
 else
  iter (fun rec1 s=>Jz p0 p1 (fun v2_1=>some v2_1) rec1 s) AM p2
def Cv (p0:Int) (q0:(List An)) (q1:Af):Option (List An) :=
 (Ds q1 p0).bind fun x10 =>
 (Fg q1 p0 x10).bind fun x11 =>
 bif rm q0.length [({ Column:=p0,Level:=x11 }:An)].length then
  some (q0++[({ Column:=p0,Level:=x11 }:An)])
 else none
def JR (p1:A2) (p0:Af) (kont2_3:(Int→(List An)→Option (List An))) (rec2:((Int × (List An))→Option (List An))) (v69_2:Int) (b30_2:(List An)):Option (List An) :=
 bif (decide (v69_2 < ((p1.Columns.length:Nat):Int))) then
  (idx p1.Columns v69_2).bind fun x71 =>
  (Cv x71 b30_2 p0).bind fun x75 =>
  rec2 ((IntKind.i64.wrap (v69_2 + 1)),x75)
 else
  kont2_3 v69_2 b30_2
def Bj (p1:A2) (p0:Af) (k30_2:(List An)):Option (List An) :=
 iter (fun rec2 s=>JR p1 p0 (fun v69_2 b30_2=>some b30_2) rec2 s.1 s.2) AM (0,k30_2)
def Ik (p1:A2) (p0:Af) (k30_1:(List An)):Option (List An) :=
 bif (p1.Op==4) then
  bif (decide (p1.Column > 0)) then
   (Cv p1.Column k30_1 p0).bind fun x47 =>
   Bj p1 p0 x47
  else
   Bj p1 p0 k30_1
 else
  bif (p1.Op==5) then
   bif (decide (p1.Column > 0)) then
    (Cv p1.Column k30_1 p0).bind fun x47 =>
    Bj p1 p0 x47
   else
    Bj p1 p0 k30_1
  else
   bif (p1.Op==10) then
    bif (decide (p1.Column > 0)) then
     (Cv p1.Column k30_1 p0).bind fun x47 =>
     Bj p1 p0 x47
    else
     Bj p1 p0 k30_1
   else
    bif (p1.Op==11) then
     bif (decide (p1.Column > 0)) then
      (Cv p1.Column k30_1 p0).bind fun x47 =>
      Bj p1 p0 x47
     else
      Bj p1 p0 k30_1
    else
     bif (p1.Op==12) then
      bif (decide (p1.Column > 0)) then
       (Cv p1.Column k30_1 p0).bind fun x47 =>
       Bj p1 p0 x47
      else
       Bj p1 p0 k30_1
     else
      bif (p1.Op==14) then
       bif (decide (p1.Column > 0)) then
        (Cv p1.Column k30_1 p0).bind fun x47 =>
        Bj p1 p0 x47
       else
        Bj p1 p0 k30_1
      else
       bif (p1.Op==13) then
        (LG p0 p1.Column p1.Num).bind fun x61 =>
        (Fg p0 p1.Column x61).bind fun x62 =>
        bif rm k30_1.length [({ Column:=p1.Column,Level:=x62 }:An)].length then
         Bj p1 p0 (k30_1++[({ Column:=p1.Column,Level:=x62 }:An)])
        else none
       else
        Bj p1 p0 k30_1
def JQ (p1:A2) (p0:Af) (kont1_0:(Int→(List An)→Option (List An))) (rec1:((Int × (List An))→Option (List An))) (v15_1:Int) (b30_1:(List An)):Option (List An) :=
 bif (decide (v15_1 < ((p1.Dims.length:Nat):Int))) then
  (idx p1.Dims v15_1).bind fun x17 =>
  (Fg p0 x17.Column x17.Level).bind fun x27 =>
  bif rm b30_1.length [({ Column:=x17.Column,Level:=x27 }:An)].length then
   rec1 ((IntKind.i64.wrap (v15_1 + 1)),(b30_1++[({ Column:=x17.Column,Level:=x27 }:An)]))
  else none
 else
  kont1_0 v15_1 b30_1
def IE (p0:Af) (p1:A2):Option (List An) :=
 iter (fun rec1 s=>JQ p1 p0 (fun v15_1 b30_1=>Ik p1 p0 b30_1) rec1 s.1 s.2) AM (0,[])
def Ki (p0:Ar) (self_condition_Atoms:(Ar→Option (List Ar))) (kont1_0:(Int→(List Ar)→Option (List Ar))) (rec1:((Int × (List Ar))→Option (List Ar))) (v24_1:Int) (b3_1:(List Ar)):Option (List Ar) :=
 bif (decide (v24_1 < ((p0.Kids.length:Nat):Int))) then
  (idx p0.Kids v24_1).bind fun x26 =>
  (self_condition_Atoms x26).bind fun x30 =>
  bif rm b3_1.length x30.length then
   rec1 ((IntKind.i64.wrap (v24_1 + 1)),(b3_1++x30))
  else none
 else
  kont1_0 v24_1 b3_1
def H2 (d:Nat) (self_condition_Atoms:(Ar→Option (List Ar))) (p0:Ar):Option (List Ar) :=
 bif (bif (bif (p0.Op==2) then true else (p0.Op==3)) then true else (p0.Op==4)) then
  some [p0]
 else
  iter (fun rec1 s=>Ki p0 self_condition_Atoms (fun v24_1 b3_1=>some b3_1) rec1 s.1 s.2) AM (0,[])
def G5:Nat→Ar→Option (List Ar)
 | 0,_=>none
 | d + 1,p0=>H2 d (G5 d) p0
def Ft (p0:Bool):Option Int :=
 bif p0 then
  some 1
 else
  some (-1)
def NJ (p0:Aw) (p1:Int) (p2:Int):Option Bool :=
 (LN p0 p1).bind fun x9 =>
 bif (!x9) then
  some false
 else
  (LN p0 p2).bind fun x14 =>
  bif (!x14) then
   some false
  else
   (EN p0).bind fun x20 =>
   (idx x20 p2).bind fun x22 =>
   (FN p0 p1 x22).bind fun x24 =>
   some (x24==p2)
def H1 (p0:Af) (p1:Ar) (p2:Int):Option Int :=
 bif (p1.Op==2) then
  (idx p0.Columns p1.Column).bind fun x17 =>
  (idx p0.Lists x17.List_).bind fun x20 =>
  (NJ x20 p2 p1.Code).bind fun x25 =>
  (Ft x25).bind fun x26 =>
  some x26
 else
  bif (p1.Op==4) then
   (Ft (p2==(-1099511627776))).bind fun x33 =>
   some x33
  else
   bif (p2==(-1099511627776)) then
    some 0
   else
    (Ft (bif (decide (p2 ≥ p1.Low)) then (decide (p2≤p1.High)) else false)).bind fun x47 =>
    some x47
def Jq (p0:Az) (p1:Int):Option Int :=
 (idx p0.Widths (IntKind.i64.wrap (((p0.Widths.length:Nat):Int) - p1))).bind fun x12 =>
 some x12
def FR (p0:Int) (p1:Int):Option Int :=
 bif (decide (p1≠0)) then
  bif (decide ((Int.tmod p0 p1) < 0)) then
   some (IntKind.i64.wrap (p0 - (IntKind.i64.wrap ((Int.tmod p0 p1) + p1))))
  else
   some (IntKind.i64.wrap (p0 - (Int.tmod p0 p1)))
 else none
def Ir (x39:(List Int)) (x32:Aw) (p2:Int) (p0:Af) (p1:Ar) (kont1_0:(Int→(List (Int × Int))→Option Bool)) (rec1:((Int × (List (Int × Int)))→Option Bool)) (v41_1:Int) (b34_1:(List (Int × Int))):Option Bool :=
 bif (decide (v41_1 < ((x39.length:Nat):Int))) then
  (idx x39 v41_1).bind fun x43 =>
  (FN x32 x43 p2).bind fun x48 =>
  (H1 p0 p1 x43).bind fun x52 =>
  bif (bif ((JD x48 b34_1).isSome) then (((JD x48 b34_1).getD 0) != x52) else false) then
   some false
  else
   rec1 ((IntKind.i64.wrap (v41_1 + 1)),(Y1 x48 x52 b34_1))
 else
  kont1_0 v41_1 b34_1
def GT (p0:Af) (p1:Ar) (p2:Int):Option Bool :=
 (idx p0.Columns p1.Column).bind fun x23 =>
 bif (p1.Op==2) then
  (idx p0.Lists x23.List_).bind fun x32 =>
  (DZ x32).bind fun x37 =>
  (IZ x32 (IntKind.i64.wrap (x37 - 1))).bind fun x39 =>
  iter (fun rec1 s=>Ir x39 x32 p2 p0 p1 (fun v41_1 b34_1=>some true) rec1 s.1 s.2) AM (0,[])
 else
  bif (bif (p2==0) then x23.Optional else false) then
   some false
  else
   bif (p1.Op==4) then
    some true
   else
    bif (decide ((if x23.Low > p1.Low then x23.Low else p1.Low) > (if x23.High < p1.High then x23.High else p1.High))) then
     some true
    else
     bif (p2==0) then
      some (bif ((if x23.Low > p1.Low then x23.Low else p1.Low)==x23.Low) then ((if x23.High < p1.High then x23.High else p1.High)==x23.High) else false)
     else
      (Jq x23 p2).bind fun x107 =>
      bif ((if x23.Low > p1.Low then x23.Low else p1.Low)==x23.Low) then
       bif ((if x23.High < p1.High then x23.High else p1.High)==x23.High) then
        some true
       else
        (FR (IntKind.i64.wrap ((if x23.High < p1.High then x23.High else p1.High) + 1)) x107).bind fun x128 =>
        some (x128==(IntKind.i64.wrap ((if x23.High < p1.High then x23.High else p1.High) + 1)))
      else
       (FR (if x23.Low > p1.Low then x23.Low else p1.Low) x107).bind fun x115 =>
       bif (x115==(if x23.Low > p1.Low then x23.Low else p1.Low)) then
        bif ((if x23.High < p1.High then x23.High else p1.High)==x23.High) then
         some true
        else
         (FR (IntKind.i64.wrap ((if x23.High < p1.High then x23.High else p1.High) + 1)) x107).bind fun x128 =>
         some (x128==(IntKind.i64.wrap ((if x23.High < p1.High then x23.High else p1.High) + 1)))
       else
        some false
def EP (b19_1:(List Int)) (x25:Ar) (rec1:((Int × (List Int))→Option (List An))) (v23_1:Int) (v8_2:Int):Option (List An) :=
 (idx b19_1 x25.Column).bind fun x40 =>
 (idx b19_1 x25.Column).bind fun x44 =>
 rec1 ((IntKind.i64.wrap (v23_1 + 1)),(b19_1.set (x25.Column:Int).toNat (if v8_2 > x40 then v8_2 else x40)))
def Kl (p0:Af) (x25:Ar) (kont2_2:(Int→Option (List An))) (rec2:(Int→Option (List An))) (v8_2:Int):Option (List An) :=
 (GT p0 x25 v8_2).bind fun x30 =>
 bif (!x30) then
  rec2 (IntKind.i64.wrap (v8_2 + 1))
 else
  kont2_2 v8_2
def EO (b19_1:(List Int)) (kont3_4:(Int→(List An)→Option (List An))) (rec3:((Int × (List An))→Option (List An))) (v48_3:Int) (b9_3:(List An)):Option (List An) :=
 bif (decide (v48_3 < ((b19_1.length:Nat):Int))) then
  (idx b19_1 v48_3).bind fun x51 =>
  bif (decide (x51 > 0)) then
   bif rm b9_3.length [({ Column:=v48_3,Level:=x51 }:An)].length then
    rec3 ((IntKind.i64.wrap (v48_3 + 1)),(b9_3++[({ Column:=v48_3,Level:=x51 }:An)]))
   else none
  else
   rec3 ((IntKind.i64.wrap (v48_3 + 1)),b9_3)
 else
  kont3_4 v48_3 b9_3
def GQ (x21:(List Ar)) (p0:Af) (kont1_0:(Int→(List Int)→Option (List An))) (rec1:((Int × (List Int))→Option (List An))) (v23_1:Int) (b19_1:(List Int)):Option (List An) :=
 bif (decide (v23_1 < ((x21.length:Nat):Int))) then
  (idx x21 v23_1).bind fun x25 =>
  iter (fun rec2 s=>Kl p0 x25 (EP b19_1 x25 rec1 v23_1) rec2 s) AM 0
 else
  kont1_0 v23_1 b19_1
def Cl (d:Nat) (p0:Af) (p1:Ar):Option (List An) :=
 (BJ d p0 p1).bind fun x14 =>
 bif (x14 != 0) then
  some []
 else
  bif (decide (0≤((p0.Columns.length:Nat):Int)) && rm (((p0.Columns.length:Nat):Int):Int).toNat 0) then
   (G5 d p1).bind fun x21 =>
   iter (fun rec1 s=>GQ x21 p0 (fun v23_1 b19_1=>iter (fun rec3 s=>EO b19_1 (fun v48_3 b9_3=>some b9_3) rec3 s.1 s.2) AM (0,[])) rec1 s.1 s.2) AM (0,(List.replicate (((p0.Columns.length:Nat):Int):Int).toNat 0))
  else none
def Fb (x16:(List An)) (kont2_2:(Int→Int→(List (Int × Int))→Option (List An))) (rec2:((Int × Int × (List (Int × Int)))→Option (List An))) (v4_2:Int) (v20_2:Int) (b11_2:(List (Int × Int))):Option (List An) :=
 bif (decide (v20_2 < ((x16.length:Nat):Int))) then
  (idx x16 v20_2).bind fun x22 =>
  rec2 ((if x22.Column > v4_2 then x22.Column else v4_2),(IntKind.i64.wrap (v20_2 + 1)),(Y1 x22.Column (if x22.Level > ((JD x22.Column b11_2).getD 0) then x22.Level else ((JD x22.Column b11_2).getD 0)) b11_2))
 else
  kont2_2 v4_2 v20_2 b11_2
def Fc (v4_1:Int) (b11_1:(List (Int × Int))) (kont3_4:(Int→(List An)→Option (List An))) (rec3:((Int × (List An))→Option (List An))) (v42_3:Int) (b9_3:(List An)):Option (List An) :=
 bif (decide (v42_3 < (IntKind.i64.wrap (v4_1 + 1)))) then
  bif (decide (((JD v42_3 b11_1).getD 0) > 0)) then
   bif rm b9_3.length [({ Column:=v42_3,Level:=((JD v42_3 b11_1).getD 0) }:An)].length then
    rec3 ((IntKind.i64.wrap (v42_3 + 1)),(b9_3++[({ Column:=v42_3,Level:=((JD v42_3 b11_1).getD 0) }:An)]))
   else none
  else
   rec3 ((IntKind.i64.wrap (v42_3 + 1)),b9_3)
 else
  kont3_4 v42_3 b9_3
def Fa (p0:(List (List An))) (kont1_0:(Int→Int→(List (Int × Int))→Option (List An))) (rec1:((Int × Int × (List (Int × Int)))→Option (List An))) (v4_1:Int) (v14_1:Int) (b11_1:(List (Int × Int))):Option (List An) :=
 bif (decide (v14_1 < ((p0.length:Nat):Int))) then
  (idx p0 v14_1).bind fun x16 =>
  iter (fun rec2 s=>Fb x16 (fun v4_2 v20_2 b11_2=>rec1 (v4_2,(IntKind.i64.wrap (v14_1 + 1)),b11_2)) rec2 s.1 s.2.1 s.2.2) AM (v4_1,0,b11_1)
 else
  kont1_0 v4_1 v14_1 b11_1
def Fv (p0:(List (List An))):Option (List An) :=
 iter (fun rec1 s=>Fa p0 (fun v4_1 v14_1 b11_1=>iter (fun rec3 s=>Fc v4_1 b11_1 (fun v42_3 b9_3=>some b9_3) rec3 s.1 s.2) AM (0,[])) rec1 s.1 s.2.1 s.2.2) AM (0,0,[])
def EE (p1:A2) (self_types_needs:(Af→A2→Option (List An))) (p0:Af) (kont1_0:(Int→(List (List An))→Option (List An))) (rec1:((Int × (List (List An)))→Option (List An))) (v23_1:Int) (b19_1:(List (List An))):Option (List An) :=
 bif (decide (v23_1 < ((p1.Kids.length:Nat):Int))) then
  (idx p1.Kids v23_1).bind fun x25 =>
  (self_types_needs p0 x25).bind fun x30 =>
  bif rm b19_1.length [x30].length then
   rec1 ((IntKind.i64.wrap (v23_1 + 1)),(b19_1++[x30]))
  else none
 else
  kont1_0 v23_1 b19_1
def CJ (d:Nat) (self_types_needs:(Af→A2→Option (List An))) (p0:Af) (p1:A2):Option (List An) :=
 (IE p0 p1).bind fun x10 =>
 (Cl d p0 p1.Cond).bind fun x14 =>
 (Cl d p0 p1.Event).bind fun x18 =>
 iter (fun rec1 s=>EE p1 self_types_needs p0 (fun v23_1 b19_1=>(Fv b19_1).bind fun x35=>some x35) rec1 s.1 s.2) AM (0,[x10,x14,x18])
def CX:Nat→Af→A2→Option (List An)
 | 0,_,_=>none
 | d + 1,p0,p1=>CJ d (CX d) p0 p1
def PN (p0:(List AC)) (p1:A2) (kont2_3:(Int→Option (Int × Int))) (rec2:(Int→Option (Int × Int))) (v11_2:Int):Option (Int × Int) :=
 bif (decide (v11_2 ≥ 0)) then
  (idx p0 v11_2).bind fun x47 =>
  bif (x47.Name.toList==p1.Name.toList) then
   (idx p0 v11_2).bind fun x55 =>
   some (x55.Value.Kind,0)
  else
   rec2 (IntKind.i64.wrap (v11_2 - 1))
 else
  kont2_3 v11_2
def LI (p1:A2) (p0:(List AC)) (j6_1:Bool):Option (Int × Int) :=
 bif (p1.Op==2) then
  iter (fun rec2 s=>PN p0 p1 (fun v11_2=>some (0,24)) rec2 s) AM (IntKind.i64.wrap (((p0.length:Nat):Int) - 1))
 else
  bif (!j6_1) then
   some (0,16)
  else
   (HJ p1.Op).bind fun x65 =>
   bif x65 then
    some (1,0)
   else
    some ((IntKind.i64.wrap ((IntKind.i64.wrap (p1.Op - 10)) + 2)),0)
def PM (p1:A2) (self_types_kind:((List AC)→A2→Option (Int × Int))) (p0:(List AC)) (kont1_0:(Bool→Int→Option (Int × Int))) (rec1:((Bool × Int)→Option (Int × Int))) (v6_1:Bool) (v15_1:Int):Option (Int × Int) :=
 bif (decide (v15_1 < ((p1.Kids.length:Nat):Int))) then
  (idx p1.Kids v15_1).bind fun x17 =>
  (self_types_kind p0 x17).bind fun x22 =>
  bif (x22.2 != 0) then
   some (0,x22.2)
  else
   rec1 ((bif v6_1 then (x22.1==1) else false),(IntKind.i64.wrap (v15_1 + 1)))
 else
  kont1_0 v6_1 v15_1
def Nk (d:Nat) (self_types_kind:((List AC)→A2→Option (Int × Int))) (p0:(List AC)) (p1:A2):Option (Int × Int) :=
 iter (fun rec1 s=>PM p1 self_types_kind p0 (fun v6_1 v15_1=>LI p1 p0 v6_1) rec1 s.1 s.2) AM (true,0)
def Ge:Nat→(List AC)→A2→Option (Int × Int)
 | 0,_,_=>none
 | d + 1,p0,p1=>Nk d (Ge d) p0 p1
def Hb (d:Nat) (p0:Af) (p1:(List An)) (p2:(List AC)) (p3:A2):Option (Int × Int) :=
 (F4 d p0 p3).bind fun x12 =>
 bif (!x12) then
  some (0,11)
 else
  (Gq p0 p1).bind fun x16 =>
  bif (x16 != 0) then
   some (0,23)
  else
   (CX d p0 p3).bind fun x22 =>
   (Dx p1 x22).bind fun x23 =>
   bif (!x23) then
    some (0,23)
   else
    (Ge d p2 p3).bind fun x28 =>
    some (x28.1,x28.2)
def Ew (p0:(List An)):Option (List An):=bif rm 0 p0.length then some p0 else none
def C1 (p0:(List EM)):Option (List EM):=bif rm 0 p0.length then some p0 else none
def Ev (p0:(List AI)):Option (List AI):=bif rm 0 p0.length then some p0 else none
def C0 (p0:(List GM)):Option (List GM):=bif rm 0 p0.length then some p0 else none
def EL (p0:(List X9)):Option (List X9):=bif rm 0 p0.length then some p0 else none
def Ks (p0:AA) (x8:(List An)) (x14:(List EM)):Option AA :=
 (C5 p0.Model.Terms).bind fun x48 =>
 (Ev p0.Model.Coefs).bind fun x52 =>
 (C0 p0.Curve).bind fun x59 =>
 (EL p0.Hist).bind fun x62 =>
 (C5 p0.Lineage).bind fun x65 =>
 some ({ Kind:=p0.Kind,Number:=p0.Number,Table:=({ Dims:=x8,Measure:=p0.Table.Measure,Cells:=x14 }:Dd),Model:=({ Measure:=p0.Model.Measure,Terms:=x48,Coefs:=x52,Residual:=p0.Model.Residual,Total:=p0.Model.Total,Count:=p0.Model.Count,Free:=p0.Model.Free }:Dc),Curve:=x59,Hist:=x62,Box:=p0.Box,Lineage:=x65 }:AA)
def Kr (x14:(List EM)) (kont1_0:(Option AA)) (rec1:(Unit→Option AA)) :Option AA :=
 bif (decide (0 < ((x14.length:Nat):Int))) then
  (idx x14 0).bind fun x24 =>
  (C5 x24.Codes).bind fun x36 =>
  (C5 x24.Rows).bind fun x39 =>
  (idx x14 0).bind fun x40 =>
  none
 else
  kont1_0
def GA (p0:AA):Option AA :=
 (Ew p0.Table.Dims).bind fun x8 =>
 (C1 p0.Table.Cells).bind fun x14 =>
 iter (fun rec1 s=>Kr x14 (Ks p0 x8 x14) rec1) AM ()
def EB (v5_1:Int):Option AA :=
 some ({ Kind:=0,Number:=({ Num:=0,Den:=0 }:AI),Table:=({ Dims:=[],Measure:=0,Cells:=[] }:Dd),Model:=({ Measure:=0,Terms:=[],Coefs:=[],Residual:=({ Num:=0,Den:=0 }:AI),Total:=({ Num:=0,Den:=0 }:AI),Count:=0,Free:=0 }:Dc),Curve:=[],Hist:=[],Box:=({ Count:=0,Least:=0,Lower:=0,Middle:=0,Upper:=0,Greatest:=0 }:J7),Lineage:=[] }:AA)
def EA (p0:A3) (p1:ByteArray) (kont1_0:(Int→Option AA)) (rec1:(Int→Option AA)) (v5_1:Int):Option AA :=
 bif (decide (v5_1 ≥ 0)) then
  (idx p0.f_before v5_1).bind fun x17 =>
  bif (x17.Name.toList==p1.toList) then
   (idx p0.f_before v5_1).bind fun x25 =>
   (GA x25.Value).bind fun x28 =>
   some x28
  else
   rec1 (IntKind.i64.wrap (v5_1 - 1))
 else
  kont1_0 v5_1
def CP (p0:A3) (p1:ByteArray):Option AA :=
 iter (fun rec1 s=>EA p0 p1 EB rec1 s) AM (IntKind.i64.wrap (((p0.f_before.length:Nat):Int) - 1))
def Iy (d:Nat) (self_condition_tell:(Ar→(Ar→Option Int)→Option Int)) (p0:Ar) (p1:(Ar→Option Int)):Option Int :=
 bif (p0.Op==1) then
  some 1
 else
  bif (p0.Op==5) then
   (idx p0.Kids 0).bind fun x13 =>
   (self_condition_tell x13 p1).bind fun x16 =>
   (idx p0.Kids 1).bind fun x19 =>
   (self_condition_tell x19 p1).bind fun x22 =>
   some (if x22 < x16 then x22 else x16)
  else
   bif (p0.Op==6) then
    (idx p0.Kids 0).bind fun x28 =>
    (self_condition_tell x28 p1).bind fun x31 =>
    (idx p0.Kids 1).bind fun x34 =>
    (self_condition_tell x34 p1).bind fun x37 =>
    some (if x37 > x31 then x37 else x31)
   else
    bif (p0.Op==7) then
     (idx p0.Kids 0).bind fun x43 =>
     (self_condition_tell x43 p1).bind fun x46 =>
     some (IntKind.i64.wrap (0 - x46))
    else
     (p1 p0).bind fun x50 =>
     some x50
def H6:Nat→Ar→(Ar→Option Int)→Option Int
 | 0,_,_=>none
 | d + 1,p0,p1=>Iy d (H6 d) p0 p1
def GP (p0:Ar) (q0:Af) (q1:(List Int)):Option Int :=
 (idx q1 p0.Column).bind fun x10 =>
 (H1 q0 p0 x10).bind fun x12 =>
 some x12
def Jp (d:Nat) (p0:Af) (p1:Ar) (p2:(List Int)):Option Int :=
 (H6 d p1 (fun a0=>GP a0 p0 p2)).bind fun x9 =>
 some x9
def FE (p2:(List An)) (p3:(List Int)) (p0:Af) (kont2_2:(Int→(List Int)→Option Int)) (rec2:((Int × (List Int))→Option Int)) (v36_2:Int) (b18_2:(List Int)):Option Int :=
 bif (decide (v36_2 < ((p2.length:Nat):Int))) then
  (idx p2 v36_2).bind fun x39 =>
  (idx p3 v36_2).bind fun x49 =>
  (BE p0 x39.Column x39.Level x49).bind fun x51 =>
  bif (!x51.2) then
   some 0
  else
   (idx b18_2 x39.Column).bind fun x60 =>
   rec2 ((IntKind.i64.wrap (v36_2 + 1)),(b18_2.set (x39.Column:Int).toNat x51.1))
 else
  kont2_2 v36_2 b18_2
def FF (p2:(List An)) (p3:(List Int)) (p0:Af) (d:Nat) (p1:Ar) (k18_1:(List Int)):Option Int :=
 iter (fun rec2 s=>FE p2 p3 p0 (fun v36_2 b18_2=>(Jp d p0 p1 b18_2).bind fun x65=>some x65) rec2 s.1 s.2) AM (0,k18_1)
def FD (p0:Af) (kont1_0:(Int→(List Int)→Option Int)) (rec1:((Int × (List Int))→Option Int)) (v10_1:Int) (b18_1:(List Int)):Option Int :=
 bif (decide (v10_1 < ((b18_1.length:Nat):Int))) then
  (BE p0 v10_1 0 0).bind fun x30 =>
  (idx b18_1 v10_1).bind fun x33 =>
  rec1 ((IntKind.i64.wrap (v10_1 + 1)),(b18_1.set (v10_1:Int).toNat x30.1))
 else
  kont1_0 v10_1 b18_1
def FP (d:Nat) (p0:Af) (p1:Ar) (p2:(List An)) (p3:(List Int)):Option Int :=
 bif (decide (0≤((p0.Columns.length:Nat):Int)) && rm (((p0.Columns.length:Nat):Int):Int).toNat 0) then
  iter (fun rec1 s=>FD p0 (fun v10_1 b18_1=>FF p2 p3 p0 d p1 b18_1) rec1 s.1 s.2) AM (1,(List.replicate (((p0.Columns.length:Nat):Int):Int).toNat 0))
 else none
def E1 (p1:A1) (d:Nat) (p0:Af) (p2:Ar) (kont1_0:(Int→(List Int)→Option (List Int))) (rec1:((Int × (List Int))→Option (List Int))) (v26_1:Int) (b7_1:(List Int)):Option (List Int) :=
 bif (decide (v26_1 < ((p1.Rows.length:Nat):Int))) then
  (idx p1.Rows v26_1).bind fun x29 =>
  bif (decide (0≤(1:Int)∧1≤((x29.length:Nat):Int)∧((x29.length:Nat):Int)≤((x29.length:Nat):Int))) then
   (FP d p0 p2 p1.Picks (Sm x29 1 ((x29.length:Nat):Int))).bind fun x37 =>
   bif (x37==1) then
    bif rm b7_1.length [v26_1].length then
     rec1 ((IntKind.i64.wrap (v26_1 + 1)),(b7_1++[v26_1]))
    else none
   else
    rec1 ((IntKind.i64.wrap (v26_1 + 1)),b7_1)
  else none
 else
  kont1_0 v26_1 b7_1
def E2 (p1:A1) (d:Nat) (p0:Af) (p2:Ar):Option (List Int) :=
 iter (fun rec1 s=>E1 p1 d p0 p2 (fun v26_1 b7_1=>some b7_1) rec1 s.1 s.2) AM (0,[])
def Dz (d:Nat) (p0:Af) (p1:A1) (p2:Ar):Option (List Int) :=
 (BJ d p0 p2).bind fun x12 =>
 bif (x12 != 0) then
  some []
 else
  (Cl d p0 p2).bind fun x19 =>
  (Dx p1.Picks x19).bind fun x20 =>
  bif (!x20) then
   some []
  else
   E2 p1 d p0 p2
def Gs (p1:(List Int)) (p0:A1) (kont1_0:(Int→(List Int)→Option (List Int))) (rec1:((Int × (List Int))→Option (List Int))) (v10_1:Int) (b5_1:(List Int)):Option (List Int) :=
 bif (decide (v10_1 < ((p1.length:Nat):Int))) then
  (idx p1 v10_1).bind fun x12 =>
  (idx p0.Rows x12).bind fun x18 =>
  (idx x18 0).bind fun x20 =>
  bif rm b5_1.length [x20].length then
   rec1 ((IntKind.i64.wrap (v10_1 + 1)),(b5_1++[x20]))
  else none
 else
  kont1_0 v10_1 b5_1
def Dv (p0:A1) (p1:(List Int)):Option (List Int) :=
 iter (fun rec1 s=>Gs p1 p0 (fun v10_1 b5_1=>some b5_1) rec1 s.1 s.2) AM (0,[])
def Fy (p0:(List Int)) (p1:(Int→Option Bool)) (kont1_0:(Int→Option Int)) (rec1:(Int→Option Int)) (v8_1:Int):Option Int :=
 bif (decide (v8_1 < ((p0.length:Nat):Int))) then
  (idx p0 v8_1).bind fun x14 =>
  (p1 x14).bind fun x16 =>
  bif x16 then
   some v8_1
  else
   rec1 (IntKind.i64.wrap (v8_1 + 1))
 else
  kont1_0 v8_1
def BX (p0:(List Int)) (p1:(Int→Option Bool)):Option Int :=
 iter (fun rec1 s=>Fy p0 p1 (fun v8_1=>some (-1)) rec1 s) AM 0
def BK (p0:(List Int)) (p1:(Int→Option Bool)):Option Bool :=
 (BX p0 p1).bind fun x7 =>
 some (decide (x7 ≥ 0))
def E9 (p0:An) (q0:Int):Option Bool :=
 some (p0.Column==q0)
def KF (x19:(List Int)) (p0:Aw) (p1:Int) (p2:Int) (p3:Int) (kont1_0:(Int→Bool→Int→Option (Int × Bool))) (rec1:((Int × Bool × Int)→Option (Int × Bool))) (v10_1:Int) (v11_1:Bool) (v21_1:Int):Option (Int × Bool) :=
 bif (decide (v21_1 < ((x19.length:Nat):Int))) then
  (idx x19 v21_1).bind fun x23 =>
  (FN p0 x23 p1).bind fun x28 =>
  bif (x28 != p2) then
   rec1 (v10_1,v11_1,(IntKind.i64.wrap (v21_1 + 1)))
  else
   (FN p0 x23 p3).bind fun x34 =>
   bif (bif v11_1 then (x34 != v10_1) else false) then
    some (0,false)
   else
    rec1 (x34,true,(IntKind.i64.wrap (v21_1 + 1)))
 else
  kont1_0 v10_1 v11_1 v21_1
def J1 (p0:Aw) (p1:Int) (p2:Int) (p3:Int):Option (Int × Bool) :=
 (DZ p0).bind fun x17 =>
 (IZ p0 (IntKind.i64.wrap (x17 - 1))).bind fun x19 =>
 iter (fun rec1 s=>KF x19 p0 p1 p2 p3 (fun v10_1 v11_1 v21_1=>some (v10_1,v11_1)) rec1 s.1 s.2.1 s.2.2) AM (0,false,0)
def Fi (p0:Az) (p1:Int) (p2:Int) (p3:Int):Option (Int × Bool) :=
 bif (bif (decide (p1 > 0)) then (p2==(-1099511627776)) else false) then
  bif (p3==0) then
   some (0,p0.Optional)
  else
   some (p2,p0.Optional)
 else
  (Hq p0 p1 p2).bind fun x31 =>
  bif (!x31.2.2) then
   some (0,false)
  else
   bif (p3==0) then
    some (0,true)
   else
    bif (bif (p1==0) then p0.Optional else false) then
     some (0,false)
    else
     (Fj p0 p3).bind fun x50 =>
     (Dt x31.1 x50).bind fun x53 =>
     (Dt x31.1 x50).bind fun x56 =>
     (Dt x31.2.1 x50).bind fun x59 =>
     some (x53,(x56==x59))
def F6 (p0:Af) (p1:Int) (p2:Int) (p3:Int) (p4:Int):Option (Int × Bool) :=
 (Eu p0 p1).bind fun x18 =>
 bif (bif (bif (bif (decide (p2 < 0)) then true else (decide (p2 > x18))) then true else (decide (p4 < 0))) then true else (decide (p4 > x18))) then
  some (0,false)
 else
  (idx p0.Columns p1).bind fun x38 =>
  bif (x38.Kind==2) then
   (idx p0.Lists x38.List_).bind fun x48 =>
   (J1 x48 p2 p3 p4).bind fun x53 =>
   bif (!x53.2) then
    some (0,false)
   else
    some (x53.1,true)
  else
   (Fi x38 p2 p3 p4).bind fun x61 =>
   bif (!x61.2) then
    some (0,false)
   else
    some (x61.1,true)
def Ep (p0:Af) (p1:A1) (p2:Int) (p3:Int) (p4:Int):Option (Int × Bool) :=
 (AU p1.Picks (fun a0=>E9 a0 p3)).bind fun x16 =>
 bif (decide (x16 < 0)) then
  (F6 p0 p3 0 0 p4).bind fun x22 =>
  some (x22.1,x22.2)
 else
  (idx p1.Picks x16).bind fun x30 =>
  (idx p1.Rows p2).bind fun x36 =>
  (idx x36 (IntKind.i64.wrap (x16 + 1))).bind fun x40 =>
  (F6 p0 p3 x30.Level x40 p4).bind fun x43 =>
  some (x43.1,x43.2)
def C6 (p0:Int) (q0:Af) (q1:A1) (q2:Int):Option Bool :=
 (Ds q0 p0).bind fun x15 =>
 (Ep q0 q1 q2 p0 x15).bind fun x16 =>
 some (bif (!x16.2) then true else (x16.1==(-1099511627776)))
def Fo (p0:Int) (q0:(List Int)) (q1:Af) (q2:A1):Option Bool :=
 (BK q0 (fun a0=>C6 a0 q1 q2 p0)).bind fun x8 =>
 some x8
def Fz (d:Nat) (p0:Af) (p1:A1) (p2:Ar) (p3:(List Int)):Option (List Int) :=
 (Eo p0 p1).bind fun x11 =>
 bif (x11 != 0) then
  some []
 else
  (Dz d p0 p1 p2).bind fun x16 =>
  (Ct x16 (fun a0=>Fo a0 p3 p0 p1)).bind fun x18 =>
  some x18
def Fp (p2:(List Int)) (p0:Af) (p3:Int) (p1:A1) (kont1_0:(Int→(List Int)→Option (List Int))) (rec1:((Int × (List Int))→Option (List Int))) (v16_1:Int) (b9_1:(List Int)):Option (List Int) :=
 bif (decide (v16_1 < ((p2.length:Nat):Int))) then
  (idx p2 v16_1).bind fun x18 =>
  (Ds p0 p3).bind fun x27 =>
  (Ep p0 p1 x18 p3 x27).bind fun x28 =>
  bif rm b9_1.length [x28.1].length then
   rec1 ((IntKind.i64.wrap (v16_1 + 1)),(b9_1++[x28.1]))
  else none
 else
  kont1_0 v16_1 b9_1
def F0 (p0:Af) (p1:A1) (p2:(List Int)) (p3:Int):Option (List Int) :=
 iter (fun rec1 s=>Fp p2 p0 p3 p1 (fun v16_1 b9_1=>some b9_1) rec1 s.1 s.2) AM (0,[])
def Bs (p1:A2) (x24:(List Int)) (p0:A3) (j7_1:Int):Option (AA × Int) :=
 bif (p1.Op==5) then
  (Ca j7_1 ((x24.length:Nat):Int)).bind fun x52 =>
  bif (x52.2 != 0) then
   some (({ Kind:=0,Number:=({ Num:=0,Den:=0 }:AI),Table:=({ Dims:=[],Measure:=0,Cells:=[] }:Dd),Model:=({ Measure:=0,Terms:=[],Coefs:=[],Residual:=({ Num:=0,Den:=0 }:AI),Total:=({ Num:=0,Den:=0 }:AI),Count:=0,Free:=0 }:Dc),Curve:=[],Hist:=[],Box:=({ Count:=0,Least:=0,Lower:=0,Middle:=0,Upper:=0,Greatest:=0 }:J7),Lineage:=[] }:AA),x52.2)
  else
   (Dv p0.f_plan.f_x x24).bind fun x64 =>
   some (({ Kind:=1,Number:=x52.1,Table:=({ Dims:=[],Measure:=0,Cells:=[] }:Dd),Model:=({ Measure:=0,Terms:=[],Coefs:=[],Residual:=({ Num:=0,Den:=0 }:AI),Total:=({ Num:=0,Den:=0 }:AI),Count:=0,Free:=0 }:Dc),Curve:=[],Hist:=[],Box:=({ Count:=0,Least:=0,Lower:=0,Middle:=0,Upper:=0,Greatest:=0 }:J7),Lineage:=x64 }:AA),0)
 else
  (Ca j7_1 1).bind fun x52 =>
  bif (x52.2 != 0) then
   some (({ Kind:=0,Number:=({ Num:=0,Den:=0 }:AI),Table:=({ Dims:=[],Measure:=0,Cells:=[] }:Dd),Model:=({ Measure:=0,Terms:=[],Coefs:=[],Residual:=({ Num:=0,Den:=0 }:AI),Total:=({ Num:=0,Den:=0 }:AI),Count:=0,Free:=0 }:Dc),Curve:=[],Hist:=[],Box:=({ Count:=0,Least:=0,Lower:=0,Middle:=0,Upper:=0,Greatest:=0 }:J7),Lineage:=[] }:AA),x52.2)
  else
   (Dv p0.f_plan.f_x x24).bind fun x64 =>
   some (({ Kind:=1,Number:=x52.1,Table:=({ Dims:=[],Measure:=0,Cells:=[] }:Dd),Model:=({ Measure:=0,Terms:=[],Coefs:=[],Residual:=({ Num:=0,Den:=0 }:AI),Total:=({ Num:=0,Den:=0 }:AI),Count:=0,Free:=0 }:Dc),Curve:=[],Hist:=[],Box:=({ Count:=0,Least:=0,Lower:=0,Middle:=0,Upper:=0,Greatest:=0 }:J7),Lineage:=x64 }:AA),0)
def Ce (x34:(List Int)) (kont1_0:(Int→Int→Option (AA × Int))) (rec1:((Int × Int)→Option (AA × Int))) (v7_1:Int) (v36_1:Int):Option (AA × Int) :=
 bif (decide (v36_1 < ((x34.length:Nat):Int))) then
  (idx x34 v36_1).bind fun x38 =>
  rec1 ((IntKind.i64.wrap (v7_1 + x38)),(IntKind.i64.wrap (v36_1 + 1)))
 else
  kont1_0 v7_1 v36_1
def Ba (d:Nat) (p0:A3) (p1:A2):Option (AA × Int) :=
 (Fz d p0.f_plan.f_s p0.f_plan.f_x p1.Cond [p1.Column]).bind fun x24 =>
 (F0 p0.f_plan.f_s p0.f_plan.f_x x24 p1.Column).bind fun x34 =>
 iter (fun rec1 s=>Ce x34 (fun v7_1 v36_1=>Bs p1 x24 p0 v7_1) rec1 s.1 s.2) AM (0,0)
def AW (d:Nat) (self_interpret_room_value:(A3→A2→Option (AA × Int))) (self_interpret_room_pair:(A3→A2→Option (AA × Int))) (p0:A3) (p1:A2):Option (AA × Int) :=
 bif (p1.Op==1) then
  some (({ Kind:=1,Number:=({ Num:=p1.Num,Den:=1 }:AI),Table:=({ Dims:=[],Measure:=0,Cells:=[] }:Dd),Model:=({ Measure:=0,Terms:=[],Coefs:=[],Residual:=({ Num:=0,Den:=0 }:AI),Total:=({ Num:=0,Den:=0 }:AI),Count:=0,Free:=0 }:Dc),Curve:=[],Hist:=[],Box:=({ Count:=0,Least:=0,Lower:=0,Middle:=0,Upper:=0,Greatest:=0 }:J7),Lineage:=[] }:AA),0)
 else
  bif (p1.Op==2) then
   (CP p0 p1.Name).bind fun x27 =>
   some (x27,0)
  else
   bif (p1.Op==3) then
    (Dz d p0.f_plan.f_s p0.f_plan.f_x p1.Cond).bind fun x38 =>
    (Dv p0.f_plan.f_x x38).bind fun x46 =>
    some (({ Kind:=1,Number:=({ Num:=((x38.length:Nat):Int),Den:=1 }:AI),Table:=({ Dims:=[],Measure:=0,Cells:=[] }:Dd),Model:=({ Measure:=0,Terms:=[],Coefs:=[],Residual:=({ Num:=0,Den:=0 }:AI),Total:=({ Num:=0,Den:=0 }:AI),Count:=0,Free:=0 }:Dc),Curve:=[],Hist:=[],Box:=({ Count:=0,Least:=0,Lower:=0,Middle:=0,Upper:=0,Greatest:=0 }:J7),Lineage:=x46 }:AA),0)
   else
    bif (p1.Op==4) then
     (Ba d p0 p1).bind fun x53 =>
     some (x53.1,x53.2)
    else
     bif (p1.Op==5) then
      (Ba d p0 p1).bind fun x53 =>
      some (x53.1,x53.2)
     else
      bif (p1.Op==10) then
       none
      else
       bif (p1.Op==11) then
        none
       else
        bif (p1.Op==12) then
         none
        else
         bif (p1.Op==13) then
          none
         else
          bif (p1.Op==14) then
           none
          else
           (self_interpret_room_pair p0 p1).bind fun x13 =>
           some (x13.1,x13.2)
def BM (d:Nat) (self_interpret_room_value:(A3→A2→Option (AA × Int))) (self_interpret_room_pair:(A3→A2→Option (AA × Int))) (p0:A3) (p1:A2):Option (AA × Int) :=
 (idx p1.Kids 0).bind fun x15 =>
 (self_interpret_room_value p0 x15).bind fun x17 =>
 bif (x17.2 != 0) then
  some (({ Kind:=0,Number:=({ Num:=0,Den:=0 }:AI),Table:=({ Dims:=[],Measure:=0,Cells:=[] }:Dd),Model:=({ Measure:=0,Terms:=[],Coefs:=[],Residual:=({ Num:=0,Den:=0 }:AI),Total:=({ Num:=0,Den:=0 }:AI),Count:=0,Free:=0 }:Dc),Curve:=[],Hist:=[],Box:=({ Count:=0,Least:=0,Lower:=0,Middle:=0,Upper:=0,Greatest:=0 }:J7),Lineage:=[] }:AA),x17.2)
 else
  (idx p1.Kids 1).bind fun x28 =>
  (self_interpret_room_value p0 x28).bind fun x30 =>
  bif (x30.2 != 0) then
   some (({ Kind:=0,Number:=({ Num:=0,Den:=0 }:AI),Table:=({ Dims:=[],Measure:=0,Cells:=[] }:Dd),Model:=({ Measure:=0,Terms:=[],Coefs:=[],Residual:=({ Num:=0,Den:=0 }:AI),Total:=({ Num:=0,Den:=0 }:AI),Count:=0,Free:=0 }:Dc),Curve:=[],Hist:=[],Box:=({ Count:=0,Least:=0,Lower:=0,Middle:=0,Upper:=0,Greatest:=0 }:J7),Lineage:=[] }:AA),x30.2)
  else
   bif (p1.Op==7) then
    (JC x17.1.Number x30.1.Number).bind fun x51 =>
    bif (x51.2 != 0) then
     some (({ Kind:=0,Number:=({ Num:=0,Den:=0 }:AI),Table:=({ Dims:=[],Measure:=0,Cells:=[] }:Dd),Model:=({ Measure:=0,Terms:=[],Coefs:=[],Residual:=({ Num:=0,Den:=0 }:AI),Total:=({ Num:=0,Den:=0 }:AI),Count:=0,Free:=0 }:Dc),Curve:=[],Hist:=[],Box:=({ Count:=0,Least:=0,Lower:=0,Middle:=0,Upper:=0,Greatest:=0 }:J7),Lineage:=[] }:AA),x51.2)
    else
     (Es x17.1.Lineage x30.1.Lineage).bind fun x63 =>
     some (({ Kind:=1,Number:=x51.1,Table:=({ Dims:=[],Measure:=0,Cells:=[] }:Dd),Model:=({ Measure:=0,Terms:=[],Coefs:=[],Residual:=({ Num:=0,Den:=0 }:AI),Total:=({ Num:=0,Den:=0 }:AI),Count:=0,Free:=0 }:Dc),Curve:=[],Hist:=[],Box:=({ Count:=0,Least:=0,Lower:=0,Middle:=0,Upper:=0,Greatest:=0 }:J7),Lineage:=x63 }:AA),0)
   else
    bif (p1.Op==8) then
     (QI x17.1.Number x30.1.Number).bind fun x51 =>
     bif (x51.2 != 0) then
      some (({ Kind:=0,Number:=({ Num:=0,Den:=0 }:AI),Table:=({ Dims:=[],Measure:=0,Cells:=[] }:Dd),Model:=({ Measure:=0,Terms:=[],Coefs:=[],Residual:=({ Num:=0,Den:=0 }:AI),Total:=({ Num:=0,Den:=0 }:AI),Count:=0,Free:=0 }:Dc),Curve:=[],Hist:=[],Box:=({ Count:=0,Least:=0,Lower:=0,Middle:=0,Upper:=0,Greatest:=0 }:J7),Lineage:=[] }:AA),x51.2)
     else
      (Es x17.1.Lineage x30.1.Lineage).bind fun x63 =>
      some (({ Kind:=1,Number:=x51.1,Table:=({ Dims:=[],Measure:=0,Cells:=[] }:Dd),Model:=({ Measure:=0,Terms:=[],Coefs:=[],Residual:=({ Num:=0,Den:=0 }:AI),Total:=({ Num:=0,Den:=0 }:AI),Count:=0,Free:=0 }:Dc),Curve:=[],Hist:=[],Box:=({ Count:=0,Least:=0,Lower:=0,Middle:=0,Upper:=0,Greatest:=0 }:J7),Lineage:=x63 }:AA),0)
    else
     bif (p1.Op==9) then
      (QH x17.1.Number x30.1.Number).bind fun x51 =>
      bif (x51.2 != 0) then
       some (({ Kind:=0,Number:=({ Num:=0,Den:=0 }:AI),Table:=({ Dims:=[],Measure:=0,Cells:=[] }:Dd),Model:=({ Measure:=0,Terms:=[],Coefs:=[],Residual:=({ Num:=0,Den:=0 }:AI),Total:=({ Num:=0,Den:=0 }:AI),Count:=0,Free:=0 }:Dc),Curve:=[],Hist:=[],Box:=({ Count:=0,Least:=0,Lower:=0,Middle:=0,Upper:=0,Greatest:=0 }:J7),Lineage:=[] }:AA),x51.2)
      else
       (Es x17.1.Lineage x30.1.Lineage).bind fun x63 =>
       some (({ Kind:=1,Number:=x51.1,Table:=({ Dims:=[],Measure:=0,Cells:=[] }:Dd),Model:=({ Measure:=0,Terms:=[],Coefs:=[],Residual:=({ Num:=0,Den:=0 }:AI),Total:=({ Num:=0,Den:=0 }:AI),Count:=0,Free:=0 }:Dc),Curve:=[],Hist:=[],Box:=({ Count:=0,Least:=0,Lower:=0,Middle:=0,Upper:=0,Greatest:=0 }:J7),Lineage:=x63 }:AA),0)
     else
      (QG x17.1.Number x30.1.Number).bind fun x51 =>
      bif (x51.2 != 0) then
       some (({ Kind:=0,Number:=({ Num:=0,Den:=0 }:AI),Table:=({ Dims:=[],Measure:=0,Cells:=[] }:Dd),Model:=({ Measure:=0,Terms:=[],Coefs:=[],Residual:=({ Num:=0,Den:=0 }:AI),Total:=({ Num:=0,Den:=0 }:AI),Count:=0,Free:=0 }:Dc),Curve:=[],Hist:=[],Box:=({ Count:=0,Least:=0,Lower:=0,Middle:=0,Upper:=0,Greatest:=0 }:J7),Lineage:=[] }:AA),x51.2)
      else
       (Es x17.1.Lineage x30.1.Lineage).bind fun x63 =>
       some (({ Kind:=1,Number:=x51.1,Table:=({ Dims:=[],Measure:=0,Cells:=[] }:Dd),Model:=({ Measure:=0,Terms:=[],Coefs:=[],Residual:=({ Num:=0,Den:=0 }:AI),Total:=({ Num:=0,Den:=0 }:AI),Count:=0,Free:=0 }:Dc),Curve:=[],Hist:=[],Box:=({ Count:=0,Least:=0,Lower:=0,Middle:=0,Upper:=0,Greatest:=0 }:J7),Lineage:=x63 }:AA),0)
mutual
def AD:Nat→A3→A2→Option (AA × Int)
 | 0,_,_=>none
 | d + 1,p0,p1=>AW d (AD d) (B4 d) p0 p1
def B4:Nat→A3→A2→Option (AA × Int)
 | 0,_,_=>none
 | d + 1,p0,p1=>BM d (AD d) (B4 d) p0 p1
end
def CO (d:Nat) (p0:Af) (p1:A1) (p2:(List AC)) (p3:A2):Option (AA × Int) :=
 (Eo p0 p1).bind fun x15 =>
 bif (x15 != 0) then
  some (({ Kind:=0,Number:=({ Num:=0,Den:=0 }:AI),Table:=({ Dims:=[],Measure:=0,Cells:=[] }:Dd),Model:=({ Measure:=0,Terms:=[],Coefs:=[],Residual:=({ Num:=0,Den:=0 }:AI),Total:=({ Num:=0,Den:=0 }:AI),Count:=0,Free:=0 }:Dc),Curve:=[],Hist:=[],Box:=({ Count:=0,Least:=0,Lower:=0,Middle:=0,Upper:=0,Greatest:=0 }:J7),Lineage:=[] }:AA),x15)
 else
  (Hb d p0 p1.Picks p2 p3).bind fun x26 =>
  bif (x26.2 != 0) then
   some (({ Kind:=0,Number:=({ Num:=0,Den:=0 }:AI),Table:=({ Dims:=[],Measure:=0,Cells:=[] }:Dd),Model:=({ Measure:=0,Terms:=[],Coefs:=[],Residual:=({ Num:=0,Den:=0 }:AI),Total:=({ Num:=0,Den:=0 }:AI),Count:=0,Free:=0 }:Dc),Curve:=[],Hist:=[],Box:=({ Count:=0,Least:=0,Lower:=0,Middle:=0,Upper:=0,Greatest:=0 }:J7),Lineage:=[] }:AA),x26.2)
  else
   (AD d ({ f_plan:=({ f_s:=p0,f_x:=p1 }:Lm),f_before:=p2 }:A3) p3).bind fun x39 =>
   some (x39.1,x39.2)
def BW (p0:(List AR)) (p1:(AR→Option Bool)) (kont1_0:(Int→Option Int)) (rec1:(Int→Option Int)) (v8_1:Int):Option Int :=
 bif (decide (v8_1 < ((p0.length:Nat):Int))) then
  (idx p0 v8_1).bind fun x14 =>
  (p1 x14).bind fun x16 =>
  bif x16 then
   some v8_1
  else
   rec1 (IntKind.i64.wrap (v8_1 + 1))
 else
  kont1_0 v8_1
def Bz (p0:(List AR)) (p1:(AR→Option Bool)):Option Int :=
 iter (fun rec1 s=>BW p0 p1 (fun v8_1=>some (-1)) rec1 s) AM 0
def Bu (p0:(List AR)) (p1:(AR→Option Bool)):Option Bool :=
 (Bz p0 p1).bind fun x7 =>
 some (decide (x7 ≥ 0))
def EZ (p0:AR) (q0:ByteArray):Option Bool :=
 some (p0.Name.toList==q0.toList)
def E0 (p0:ByteArray) (q0:(List AR)):Option Bool :=
 (Bu q0 (fun a0=>EZ a0 p0)).bind fun x6 =>
 some x6
def Ml (p0:A2) (p1:Int) (self_program_count:(A2→Int→Option Int)) (kont1_0:(Int→Int→Option Int)) (rec1:((Int × Int)→Option Int)) (v5_1:Int) (v11_1:Int):Option Int :=
 bif (decide (v11_1 < ((p0.Kids.length:Nat):Int))) then
  (idx p0.Kids v11_1).bind fun x13 =>
  bif (decide (v5_1 > p1)) then
   kont1_0 v5_1 v11_1
  else
   (self_program_count x13 (IntKind.i64.wrap (p1 - v5_1))).bind fun x23 =>
   rec1 ((IntKind.i64.wrap (v5_1 + x23)),(IntKind.i64.wrap (v11_1 + 1)))
 else
  kont1_0 v5_1 v11_1
def Ju (d:Nat) (self_program_count:(A2→Int→Option Int)) (p0:A2) (p1:Int):Option Int :=
 iter (fun rec1 s=>Ml p0 p1 self_program_count (fun v5_1 v11_1=>some v5_1) rec1 s.1 s.2) AM (1,0)
def IP:Nat→A2→Int→Option Int
 | 0,_,_=>none
 | d + 1,p0,p1=>Ju d (IP d) p0 p1
def Nw (p0:A2) (self_program_deep:(A2→Option Int)) (kont1_0:(Int→Int→Option Int)) (rec1:((Int × Int)→Option Int)) (v3_1:Int) (v9_1:Int):Option Int :=
 bif (decide (v9_1 < ((p0.Kids.length:Nat):Int))) then
  (idx p0.Kids v9_1).bind fun x11 =>
  (self_program_deep x11).bind fun x15 =>
  rec1 ((if x15 > v3_1 then x15 else v3_1),(IntKind.i64.wrap (v9_1 + 1)))
 else
  kont1_0 v3_1 v9_1
def Ky (d:Nat) (self_program_deep:(A2→Option Int)) (p0:A2):Option Int :=
 iter (fun rec1 s=>Nw p0 self_program_deep (fun v3_1 v9_1=>some (IntKind.i64.wrap (v3_1 + 1))) rec1 s.1 s.2) AM (0,0)
def JI:Nat→A2→Option Int
 | 0,_=>none
 | d + 1,p0=>Ky d (JI d) p0
def Jx (d:Nat) (self_program_named:(A2→(ByteArray→Option Bool)→Option Bool)) (self_program_named_c1:(A2→(ByteArray→Option Bool)→Option Bool)) (p0:A2) (p1:(ByteArray→Option Bool)):Option Bool :=
 bif (p0.Op==2) then
  (p1 p0.Name).bind fun x12 =>
  bif (!x12) then
   some false
  else
   (A7 p0.Kids (fun a0=>self_program_named_c1 a0 p1)).bind fun x18 =>
   some (!x18)
 else
  (A7 p0.Kids (fun a0=>self_program_named_c1 a0 p1)).bind fun x18 =>
  some (!x18)
def GY (d:Nat) (self_program_named:(A2→(ByteArray→Option Bool)→Option Bool)) (self_program_named_c1:(A2→(ByteArray→Option Bool)→Option Bool)) (p0:A2) (q0:(ByteArray→Option Bool)):Option Bool :=
 (self_program_named p0 q0).bind fun x6 =>
 some (!x6)
mutual
def Gz:Nat→A2→(ByteArray→Option Bool)→Option Bool
 | 0,_,_=>none
 | d + 1,p0,p1=>Jx d (Gz d) (I8 d) p0 p1
def I8:Nat→A2→(ByteArray→Option Bool)→Option Bool
 | 0,_,_=>none
 | d + 1,p0,q0=>GY d (Gz d) (I8 d) p0 q0
end
def I7 (d:Nat) (p0:Af) (p1:(List AR)) (p2:AR):Option Int :=
 (D1 p2.Name).bind fun x12 =>
 bif (!x12) then
  some 3
 else
  (E0 p2.Name p1).bind fun x18 =>
  bif x18 then
   some 10
  else
   (IP d p2.Expr 60).bind fun x22 =>
   bif (decide (x22 > 60)) then
    some 1
   else
    (JI d p2.Expr).bind fun x27 =>
    bif (decide (x27 > 10)) then
     some 22
    else
     (F4 d p0 p2.Expr).bind fun x33 =>
     bif (!x33) then
      some 11
     else
      (Gz d p2.Expr (fun a0=>E0 a0 p1)).bind fun x39 =>
      bif (!x39) then
       some 24
      else
       some 0
def Mj (p1:(List AR)) (d:Nat) (p0:Af) (kont1_0:(Int→Option (Int × Int))) (rec1:(Int→Option (Int × Int))) (v20_1:Int):Option (Int × Int) :=
 bif (decide (v20_1 < ((p1.length:Nat):Int))) then
  (idx p1 v20_1).bind fun x23 =>
  bif (decide (0≤(0:Int)∧0≤v20_1∧v20_1≤((p1.length:Nat):Int))) then
   (I7 d p0 (Sm p1 0 v20_1) x23).bind fun x30 =>
   bif (x30 != 0) then
    some (v20_1,x30)
   else
    rec1 (IntKind.i64.wrap (v20_1 + 1))
  else none
 else
  kont1_0 v20_1
def IN (d:Nat) (p0:Af) (p1:(List AR)):Option (Int × Int) :=
 (Cs p0).bind fun x11 =>
 bif (x11 != 0) then
  some ((-1),x11)
 else
  bif (decide (((p1.length:Nat):Int) > 30)) then
   some ((-1),1)
  else
   iter (fun rec1 s=>Mj p1 d p0 (fun v20_1=>some (((p1.length:Nat):Int),0)) rec1 s) AM 0
def M5 (p2:(List AR)) (d:Nat) (p0:Af) (p1:(List An)) (kont1_0:(Int→(List Int)→(List AC)→Option ((List Int) × Int × Int))) (rec1:((Int × (List Int) × (List AC))→Option ((List Int) × Int × Int))) (v29_1:Int) (b11_1:(List Int)) (b12_1:(List AC)):Option ((List Int) × Int × Int) :=
 bif (decide (v29_1 < ((p2.length:Nat):Int))) then
  (idx p2 v29_1).bind fun x32 =>
  (Hb d p0 p1 b12_1 x32.Expr).bind fun x40 =>
  bif (x40.2 != 0) then
   some ([],v29_1,x40.2)
  else
   bif rm b11_1.length [x40.1].length then
    bif rm b12_1.length ([({ Name:=x32.Name,Out:=false,Value:=({ Kind:=x40.1,Number:=({ Num:=0,Den:=0 }:AI),Table:=({ Dims:=[],Measure:=0,Cells:=[] }:Dd),Model:=({ Measure:=0,Terms:=[],Coefs:=[],Residual:=({ Num:=0,Den:=0 }:AI),Total:=({ Num:=0,Den:=0 }:AI),Count:=0,Free:=0 }:Dc),Curve:=[],Hist:=[],Box:=({ Count:=0,Least:=0,Lower:=0,Middle:=0,Upper:=0,Greatest:=0 }:J7),Lineage:=[] }:AA) }:AC)]).length then
     rec1 ((IntKind.i64.wrap (v29_1 + 1)),(b11_1++[x40.1]),(b12_1++[({ Name:=x32.Name,Out:=false,Value:=({ Kind:=x40.1,Number:=({ Num:=0,Den:=0 }:AI),Table:=({ Dims:=[],Measure:=0,Cells:=[] }:Dd),Model:=({ Measure:=0,Terms:=[],Coefs:=[],Residual:=({ Num:=0,Den:=0 }:AI),Total:=({ Num:=0,Den:=0 }:AI),Count:=0,Free:=0 }:Dc),Curve:=[],Hist:=[],Box:=({ Count:=0,Least:=0,Lower:=0,Middle:=0,Upper:=0,Greatest:=0 }:J7),Lineage:=[] }:AA) }:AC)]))
    else none
   else none
 else
  kont1_0 v29_1 b11_1 b12_1
def LH (d:Nat) (p0:Af) (p1:(List An)) (p2:(List AR)):Option ((List Int) × Int × Int) :=
 (IN d p0 p2).bind fun x20 =>
 bif (x20.2 != 0) then
  some ([],x20.1,x20.2)
 else
  iter (fun rec1 s=>M5 p2 d p0 p1 (fun v29_1 b11_1 b12_1=>some (b11_1,((p2.length:Nat):Int),0)) rec1 s.1 s.2.1 s.2.2) AM (0,[],[])
def Ma (p2:(List AR)) (d:Nat) (p0:Af) (p1:A1) (kont1_0:(Int→(List AC)→Option ((List AC) × Int × Int))) (rec1:((Int × (List AC))→Option ((List AC) × Int × Int))) (v51_1:Int) (b15_1:(List AC)):Option ((List AC) × Int × Int) :=
 bif (decide (v51_1 < ((p2.length:Nat):Int))) then
  (idx p2 v51_1).bind fun x54 =>
  (AD d ({ f_plan:=({ f_s:=p0,f_x:=p1 }:Lm),f_before:=b15_1 }:A3) x54.Expr).bind fun x64 =>
  bif (x64.2 != 0) then
   some ([],v51_1,x64.2)
  else
   bif rm b15_1.length [({ Name:=x54.Name,Out:=x54.Out,Value:=x64.1 }:AC)].length then
    rec1 ((IntKind.i64.wrap (v51_1 + 1)),(b15_1++[({ Name:=x54.Name,Out:=x54.Out,Value:=x64.1 }:AC)]))
   else none
 else
  kont1_0 v51_1 b15_1
def Lt (d:Nat) (p0:Af) (p1:A1) (p2:(List AR)):Option ((List AC) × Int × Int) :=
 (Eo p0 p1).bind fun x22 =>
 bif (x22 != 0) then
  some ([],(-1),x22)
 else
  (IN d p0 p2).bind fun x29 =>
  bif (x29.2 != 0) then
   some ([],x29.1,x29.2)
  else
   (LH d p0 p1.Picks p2).bind fun x41 =>
   bif (x41.2.2 != 0) then
    some ([],x41.2.1,x41.2.2)
   else
    iter (fun rec1 s=>Ma p2 d p0 p1 (fun v51_1 b15_1=>some (b15_1,((p2.length:Nat):Int),0)) rec1 s.1 s.2) AM (0,[])
def KY (p0:(List AC)) (kont1_0:(Int→(List AC)→Option (List AC))) (rec1:((Int × (List AC))→Option (List AC))) (v8_1:Int) (b3_1:(List AC)):Option (List AC) :=
 bif (decide (v8_1 < ((p0.length:Nat):Int))) then
  (idx p0 v8_1).bind fun x10 =>
  bif x10.Out then
   (GA x10.Value).bind fun x16 =>
   bif rm b3_1.length [({ Name:=x10.Name,Out:=x10.Out,Value:=x16 }:AC)].length then
    rec1 ((IntKind.i64.wrap (v8_1 + 1)),(b3_1++[({ Name:=x10.Name,Out:=x10.Out,Value:=x16 }:AC)]))
   else none
  else
   rec1 ((IntKind.i64.wrap (v8_1 + 1)),b3_1)
 else
  kont1_0 v8_1 b3_1
def HD (p0:(List AC)):Option (List AC) :=
 iter (fun rec1 s=>KY p0 (fun v8_1 b3_1=>some b3_1) rec1 s.1 s.2) AM (0,[])
def JM (p0:(List (List Int))) (p1:(List Int)) (kont1_0:(Bool→Int→(List (List Int))→Option (List (List Int)))) (rec1:((Bool × Int × (List (List Int)))→Option (List (List Int)))) (v6_1:Bool) (v7_1:Int) (b5_1:(List (List Int))):Option (List (List Int)) :=
 bif (decide (v7_1 < ((p0.length:Nat):Int))) then
  (idx p0 v7_1).bind fun x16 =>
  (idx x16 0).bind fun x18 =>
  (idx p1 0).bind fun x21 =>
  bif (x18==x21) then
   rec1 (v6_1,(IntKind.i64.wrap (v7_1 + 1)),b5_1)
  else
   (idx p0 v7_1).bind fun x26 =>
   (idx x26 0).bind fun x28 =>
   (idx p1 0).bind fun x31 =>
   bif (bif (decide (x28 > x31)) then (!v6_1) else false) then
    bif rm b5_1.length [p1].length then
     (idx p0 v7_1).bind fun x45 =>
     bif rm (b5_1++[p1]).length [x45].length then
      rec1 (true,(IntKind.i64.wrap (v7_1 + 1)),((b5_1++[p1])++[x45]))
     else none
    else none
   else
    (idx p0 v7_1).bind fun x45 =>
    bif rm b5_1.length [x45].length then
     rec1 (v6_1,(IntKind.i64.wrap (v7_1 + 1)),(b5_1++[x45]))
    else none
 else
  kont1_0 v6_1 v7_1 b5_1
def JW (p0:(List (List Int))) (p1:(List Int)):Option (List (List Int)) :=
 iter (fun rec1 s=>JM p0 p1 (fun v6_1 v7_1 b5_1=>bif (!v6_1) then   bif rm b5_1.length [p1].length then     some (b5_1++[p1])   else none else   some b5_1) rec1 s.1 s.2.1 s.2.2) AM (false,0,[])
def Oq (p0:Aw) (kont1_0:(Int→Int→Option Int)) (rec1:((Int × Int)→Option Int)) (v1_1:Int) (v5_1:Int):Option Int :=
 (idx p0.Codes v1_1).bind fun x9 =>
 bif (decide (x9.Parent ≥ 0)) then
  (idx p0.Codes v1_1).bind fun x16 =>
  rec1 (x16.Parent,(IntKind.i64.wrap (v5_1 + 1)))
 else
  kont1_0 v1_1 v5_1
def Dq (p0:Aw) (p1:Int):Option Int :=
 iter (fun rec1 s=>Oq p0 (fun v1_1 v5_1=>some v5_1) rec1 s.1 s.2) AM (p1,0)
def L3 (p0:ByteArray):Option Bool :=
 bif (p0.toList==({ data:=#[97,108,108] }:ByteArray).toList) then
  some false
 else
  bif (p0.toList==({ data:=#[97,110,100] }:ByteArray).toList) then
   some false
  else
   bif (p0.toList==({ data:=#[101,118,101,110,116] }:ByteArray).toList) then
    some false
   else
    bif (p0.toList==({ data:=#[102,114,111,109] }:ByteArray).toList) then
     some false
    else
     bif (p0.toList==({ data:=#[109,105,115,115,105,110,103] }:ByteArray).toList) then
      some false
     else
      bif (p0.toList==({ data:=#[110,111,116] }:ByteArray).toList) then
       some false
      else
       bif (p0.toList==({ data:=#[111,110] }:ByteArray).toList) then
        some false
       else
        bif (p0.toList==({ data:=#[111,114] }:ByteArray).toList) then
         some false
        else
         bif (p0.toList==({ data:=#[116,111] }:ByteArray).toList) then
          some false
         else
          bif (p0.toList==({ data:=#[117,110,100,101,114] }:ByteArray).toList) then
           some false
          else
           bif (p0.toList==({ data:=#[119,104,101,114,101] }:ByteArray).toList) then
            some false
           else
            some true
def Py (p0:ByteArray) (kont1_0:(Int→Option Bool)) (rec1:(Int→Option Bool)) (v3_1:Int):Option Bool :=
 bif (decide (v3_1 < ((p0.size:Nat):Int))) then
  bif (decide (0≤(v3_1:Int)∧(v3_1:Int).toNat < p0.size)) then
   bif (decide ((Em p0 v3_1) ≥ 97)) then
    bif (decide (0≤(v3_1:Int)∧(v3_1:Int).toNat < p0.size)) then
     bif (decide ((Em p0 v3_1)≤122)) then
      rec1 (IntKind.i64.wrap (v3_1 + 1))
     else
      bif (decide (0≤(v3_1:Int)∧(v3_1:Int).toNat < p0.size)) then
       bif (decide ((Em p0 v3_1) ≥ 48)) then
        bif (decide (0≤(v3_1:Int)∧(v3_1:Int).toNat < p0.size)) then
         bif (decide ((Em p0 v3_1)≤57)) then
          rec1 (IntKind.i64.wrap (v3_1 + 1))
         else
          bif (decide (0≤(v3_1:Int)∧(v3_1:Int).toNat < p0.size)) then
           bif (!((Em p0 v3_1)==95)) then
            some false
           else
            rec1 (IntKind.i64.wrap (v3_1 + 1))
          else none
        else none
       else
        bif (decide (0≤(v3_1:Int)∧(v3_1:Int).toNat < p0.size)) then
         bif (!((Em p0 v3_1)==95)) then
          some false
         else
          rec1 (IntKind.i64.wrap (v3_1 + 1))
        else none
      else none
    else none
   else
    bif (decide (0≤(v3_1:Int)∧(v3_1:Int).toNat < p0.size)) then
     bif (decide ((Em p0 v3_1) ≥ 48)) then
      bif (decide (0≤(v3_1:Int)∧(v3_1:Int).toNat < p0.size)) then
       bif (decide ((Em p0 v3_1)≤57)) then
        rec1 (IntKind.i64.wrap (v3_1 + 1))
       else
        bif (decide (0≤(v3_1:Int)∧(v3_1:Int).toNat < p0.size)) then
         bif (!((Em p0 v3_1)==95)) then
          some false
         else
          rec1 (IntKind.i64.wrap (v3_1 + 1))
        else none
      else none
     else
      bif (decide (0≤(v3_1:Int)∧(v3_1:Int).toNat < p0.size)) then
       bif (!((Em p0 v3_1)==95)) then
        some false
       else
        rec1 (IntKind.i64.wrap (v3_1 + 1))
      else none
    else none
  else none
 else
  kont1_0 v3_1
def L2 (p0:ByteArray):Option Bool :=
 iter (fun rec1 s=>Py p0 (fun v3_1=>L3 p0) rec1 s) AM 0
def D4 (p0:ByteArray):Option Bool :=
 bif (bif (decide (((p0.size:Nat):Int) < 1)) then true else (decide (((p0.size:Nat):Int) > 16))) then
  some false
 else
  bif (decide (0≤(0:Int)∧(0:Int).toNat < p0.size)) then
   bif (decide ((Em p0 0) < 97)) then
    some false
   else
    bif (decide (0≤(0:Int)∧(0:Int).toNat < p0.size)) then
     bif (decide ((Em p0 0) > 122)) then
      some false
     else
      L2 p0
    else none
  else none
def Pz (p0:Aw) (p1:Int) (kont1_0:(Int→Option Bool)) (rec1:(Int→Option Bool)) (v5_1:Int):Option Bool :=
 bif (decide (v5_1 < ((p0.Codes.length:Nat):Int))) then
  (idx p0.Codes v5_1).bind fun x16 =>
  bif (x16.Parent==p1) then
   some false
  else
   rec1 (IntKind.i64.wrap (v5_1 + 1))
 else
  kont1_0 v5_1
def Qj (p0:Aw) (p1:Int):Option Bool :=
 iter (fun rec1 s=>Pz p0 p1 (fun v5_1=>some true) rec1 s) AM 0
def On (p0:Aw) (kont3_4:(Int→Int→Option Int)) (rec3:((Int × Int)→Option Int)) (v6_3:Int) (v7_3:Int):Option Int :=
 bif (decide (v7_3 < ((p0.Codes.length:Nat):Int))) then
  (Qj p0 v7_3).bind fun x87 =>
  bif x87 then
   bif (decide (v6_3 ≥ 0)) then
    (Dq p0 v7_3).bind fun x93 =>
    bif (x93 != v6_3) then
     some 5
    else
     (Dq p0 v7_3).bind fun x99 =>
     rec3 (x99,(IntKind.i64.wrap (v7_3 + 1)))
   else
    (Dq p0 v7_3).bind fun x99 =>
    rec3 (x99,(IntKind.i64.wrap (v7_3 + 1)))
  else
   rec3 (v6_3,(IntKind.i64.wrap (v7_3 + 1)))
 else
  kont3_4 v6_3 v7_3
def K1 (p0:Aw):Option Int :=
 iter (fun rec3 s=>On p0 (fun v6_3 v7_3=>some 0) rec3 s.1 s.2) AM ((-1),0)
def HM (p0:Aw) (v3_1:Int) (rec1:(Int→Option Int)) (v4_2:Int):Option Int :=
 (idx p0.Codes v3_1).bind fun x56 =>
 bif (bif (bif (v3_1==0) then (x56.Parent != (-1)) else false) then true else (bif (decide (v3_1 > 0)) then (bif (decide (x56.Parent < 0)) then true else (decide (x56.Parent ≥ v3_1))) else false)) then
  some 6
 else
  rec1 (IntKind.i64.wrap (v3_1 + 1))
def Om (v3_1:Int) (p0:Aw) (kont2_2:(Int→Option Int)) (rec2:(Int→Option Int)) (v4_2:Int):Option Int :=
 bif (decide (v4_2 < v3_1)) then
  (idx p0.Codes v4_2).bind fun x43 =>
  (idx p0.Codes v3_1).bind fun x49 =>
  bif (x43.Name.toList==x49.Name.toList) then
   some 10
  else
   rec2 (IntKind.i64.wrap (v4_2 + 1))
 else
  kont2_2 v4_2
def Ol (p0:Aw) (kont1_0:(Int→Option Int)) (rec1:(Int→Option Int)) (v3_1:Int):Option Int :=
 bif (decide (v3_1 < ((p0.Codes.length:Nat):Int))) then
  (idx p0.Codes v3_1).bind fun x30 =>
  (D4 x30.Name).bind fun x33 =>
  bif (!x33) then
   some 3
  else
   iter (fun rec2 s=>Om v3_1 p0 (HM p0 v3_1 rec1) rec2 s) AM 0
 else
  kont1_0 v3_1
def Eg (p0:Aw):Option Int :=
 (D4 p0.Name).bind fun x10 =>
 bif (!x10) then
  some 3
 else
  bif (((p0.Codes.length:Nat):Int)==0) then
   some 5
  else
   bif (decide (((p0.Codes.length:Nat):Int) > 60)) then
    some 1
   else
    iter (fun rec1 s=>Ol p0 (fun v3_1=>K1 p0) rec1 s) AM 0
def Eh (p0:Aw):Option Int :=
 (Eg p0).bind fun x4 =>
 bif (x4 != 0) then
  some (-1)
 else
  (Dq p0 (IntKind.i64.wrap (((p0.Codes.length:Nat):Int) - 1))).bind fun x11 =>
  some (IntKind.i64.wrap (x11 + 1))
def SA (p0:Aw) (p1:Int) (kont1_0:(Int→(List Int)→Option (List Int))) (rec1:((Int × (List Int))→Option (List Int))) (v6_1:Int) (b5_1:(List Int)):Option (List Int) :=
 bif (decide (v6_1 < ((p0.Codes.length:Nat):Int))) then
  (Dq p0 v6_1).bind fun x19 =>
  bif (x19==p1) then
   bif rm b5_1.length [v6_1].length then
    rec1 ((IntKind.i64.wrap (v6_1 + 1)),(b5_1++[v6_1]))
   else none
  else
   rec1 ((IntKind.i64.wrap (v6_1 + 1)),b5_1)
 else
  kont1_0 v6_1 b5_1
def Mo (p0:Aw) (p1:Int):Option (List Int) :=
 (Eg p0).bind fun x8 =>
 bif (x8 != 0) then
  some []
 else
  iter (fun rec1 s=>SA p0 p1 (fun v6_1 b5_1=>some b5_1) rec1 s.1 s.2) AM (0,[])
def Fe (p0:Af) (p1:Int):Option (List Int) :=
 (idx p0.Columns p1).bind fun x11 =>
 (idx p0.Lists x11.List_).bind fun x14 =>
 (Eh x14).bind fun x18 =>
 (Mo x14 (IntKind.i64.wrap (x18 - 1))).bind fun x20 =>
 some x20
def D6 (p0:Int) (p1:Int) (p2:Int):Option Bool :=
 some (bif (decide (p1≤p0)) then (decide (p0≤p2)) else false)
def Mt (p0:Az) (kont1_0:(Int→Option Int)) (rec1:(Int→Option Int)) (v3_1:Int):Option Int :=
 bif (decide (v3_1 < ((p0.Widths.length:Nat):Int))) then
  (idx p0.Widths v3_1).bind fun x42 =>
  bif (bif (v3_1==0) then (x42 != 1) else false) then
   some 2
  else
   bif (decide (v3_1 > 0)) then
    (idx p0.Widths (IntKind.i64.wrap (v3_1 - 1))).bind fun x59 =>
    bif (bif (decide (x42≤x59)) then true else (decide (x42 > 1000000))) then
     some 2
    else
     (idx p0.Widths (IntKind.i64.wrap (v3_1 - 1))).bind fun x72 =>
     bif (decide (x72≠0)) then
      bif ((Int.tmod x42 x72) != 0) then
       some 2
      else
       rec1 (IntKind.i64.wrap (v3_1 + 1))
     else none
   else
    rec1 (IntKind.i64.wrap (v3_1 + 1))
 else
  kont1_0 v3_1
def Gp (p0:Az):Option Int :=
 bif (bif (decide (((p0.Widths.length:Nat):Int) < 1)) then true else (decide (((p0.Widths.length:Nat):Int) > 4))) then
  some 1
 else
  iter (fun rec1 s=>Mt p0 (fun v3_1=>some 0) rec1 s) AM 0
def G2 (p0:Az):Option Int :=
 (D6 p0.Low (-1000000) 1000000).bind fun x7 =>
 bif (!x7) then
  some 2
 else
  (D6 p0.High (-1000000) 1000000).bind fun x12 =>
  bif (bif (!x12) then true else (decide (p0.Low > p0.High))) then
   some 2
  else
   Gp p0
def DT (x11:Az):Option Int :=
 bif (x11.Kind==3) then
  (G2 x11).bind fun x61 =>
  bif (x61 != 0) then
   some x61
  else
   bif (bif (bif (x11.Kind != 2) then (x11.List_ != 0) else false) then true else (bif (x11.Kind != 3) then (bif (bif (bif (x11.Low != 0) then true else (x11.High != 0)) then true else (decide (((x11.Widths.length:Nat):Int) > 0))) then true else x11.Optional) else false)) then
    some 11
   else
    some 0
 else
  bif (bif (bif (x11.Kind != 2) then (x11.List_ != 0) else false) then true else (bif (x11.Kind != 3) then (bif (bif (bif (x11.Low != 0) then true else (x11.High != 0)) then true else (decide (((x11.Widths.length:Nat):Int) > 0))) then true else x11.Optional) else false)) then
   some 11
  else
   some 0
def GD (x11:Az) (p1:Int) (p0:Af):Option Int :=
 (D6 x11.Kind 1 3).bind fun x33 =>
 bif (bif (!x33) then true else (bif (decide (p1 > 0)) then (x11.Kind==1) else false)) then
  some 4
 else
  bif (x11.Kind==2) then
   (D6 x11.List_ 0 (IntKind.i64.wrap (((p0.Lists.length:Nat):Int) - 1))).bind fun x54 =>
   bif (!x54) then
    some 5
   else
    DT x11
  else
   DT x11
def GC (p1:Int) (p0:Af) (x11:Az) (kont1_0:(Int→Option Int)) (rec1:(Int→Option Int)) (v6_1:Int):Option Int :=
 bif (decide (v6_1 < p1)) then
  (idx p0.Columns v6_1).bind fun x25 =>
  bif (x25.Name.toList==x11.Name.toList) then
   some 10
  else
   rec1 (IntKind.i64.wrap (v6_1 + 1))
 else
  kont1_0 v6_1
def HU (p0:Af) (p1:Int):Option Int :=
 (idx p0.Columns p1).bind fun x11 =>
 (D4 x11.Name).bind fun x15 =>
 bif (!x15) then
  some 3
 else
  iter (fun rec1 s=>GC p1 p0 x11 (fun v6_1=>GD x11 p1 p0) rec1 s) AM 0
def HR (p0:Af) (kont3_4:(Int→Option Int)) (rec3:(Int→Option Int)) (v6_3:Int):Option Int :=
 bif (decide (v6_3 < ((p0.Columns.length:Nat):Int))) then
  (HU p0 v6_3).bind fun x73 =>
  bif (x73 != 0) then
   some x73
  else
   rec3 (IntKind.i64.wrap (v6_3 + 1))
 else
  kont3_4 v6_3
def HS (p0:Af):Option Int :=
 bif (((p0.Columns.length:Nat):Int)==0) then
  some 7
 else
  (idx p0.Columns 0).bind fun x59 =>
  bif (x59.Kind != 1) then
   some 7
  else
   iter (fun rec3 s=>HR p0 (fun v6_3=>some 0) rec3 s) AM 0
def HQ (v3_1:Int) (p0:Af) (kont2_2:(Int→Option Int)) (rec2:(Int→Option Int)) (v5_2:Int):Option Int :=
 bif (decide (v5_2 < v3_1)) then
  (idx p0.Lists v5_2).bind fun x42 =>
  (idx p0.Lists v3_1).bind fun x48 =>
  bif (x42.Name.toList==x48.Name.toList) then
   some 10
  else
   rec2 (IntKind.i64.wrap (v5_2 + 1))
 else
  kont2_2 v5_2
def HP (p0:Af) (kont1_0:(Int→Option Int)) (rec1:(Int→Option Int)) (v3_1:Int):Option Int :=
 bif (decide (v3_1 < ((p0.Lists.length:Nat):Int))) then
  (idx p0.Lists v3_1).bind fun x28 =>
  (Eg x28).bind fun x30 =>
  bif (x30 != 0) then
   some x30
  else
   iter (fun rec2 s=>HQ v3_1 p0 (fun v5_2=>rec1 (IntKind.i64.wrap (v3_1 + 1))) rec2 s) AM 0
 else
  kont1_0 v3_1
def Cz (p0:Af):Option Int :=
 bif (bif (decide (((p0.Lists.length:Nat):Int) > 6)) then true else (decide (((p0.Columns.length:Nat):Int) > 8))) then
  some 1
 else
  iter (fun rec1 s=>HP p0 (fun v3_1=>HS p0) rec1 s) AM 0
def CG (p0:Af) (p1:Int):Option Int :=
 (Cz p0).bind fun x7 =>
 bif (bif (bif (x7 != 0) then true else (decide (p1 < 1))) then true else (decide (p1 ≥ ((p0.Columns.length:Nat):Int)))) then
  some (-1)
 else
  (idx p0.Columns p1).bind fun x23 =>
  bif (x23.Kind==2) then
   (idx p0.Lists x23.List_).bind fun x32 =>
   (Eh x32).bind fun x34 =>
   some (IntKind.i64.wrap (x34 - 1))
  else
   some ((x23.Widths.length:Nat):Int)
def L5 (p0:B2) (p1:Int) (kont1_0:(Int→Option Int)) (rec1:(Int→Option Int)) (v5_1:Int):Option Int :=
 bif (decide (v5_1 < ((p0.Rows.length:Nat):Int))) then
  (idx p0.Rows v5_1).bind fun x16 =>
  bif (decide (((x16.length:Nat):Int) > 0)) then
   (idx p0.Rows v5_1).bind fun x24 =>
   (idx x24 0).bind fun x26 =>
   bif (x26==p1) then
    some v5_1
   else
    rec1 (IntKind.i64.wrap (v5_1 + 1))
  else
   rec1 (IntKind.i64.wrap (v5_1 + 1))
 else
  kont1_0 v5_1
def GZ (p0:B2) (p1:Int):Option Int :=
 iter (fun rec1 s=>L5 p0 p1 (fun v5_1=>some (-1)) rec1 s) AM 0
def FY (p0:Aw) (p1:Int):Option Int :=
 (Eg p0).bind fun x6 =>
 bif (bif (bif (x6 != 0) then true else (decide (p1 < 0))) then true else (decide (p1 ≥ ((p0.Codes.length:Nat):Int)))) then
  some (-1)
 else
  (Dq p0 p1).bind fun x21 =>
  some x21
def Hh (p0:Af) (p1:Int) (p2:Int):Option Bool :=
 (idx p0.Columns p1).bind fun x12 =>
 bif (x12.Kind==1) then
  (D6 p2 1 1048575).bind fun x19 =>
  some x19
 else
  bif (x12.Kind==2) then
   (idx p0.Lists x12.List_).bind fun x26 =>
   (D6 p2 0 (IntKind.i64.wrap (((x26.Codes.length:Nat):Int) - 1))).bind fun x33 =>
   bif x33 then
    (FY x26 p2).bind fun x37 =>
    (Eh x26).bind fun x39 =>
    some (x37==(IntKind.i64.wrap (x39 - 1)))
   else
    some false
  else
   bif (bif x12.Optional then (p2==(-1099511627776)) else false) then
    some true
   else
    (D6 p2 x12.Low x12.High).bind fun x55 =>
    some x55
def JL (p1:(List Int)) (p0:Af) (kont1_0:(Int→Option Int)) (rec1:(Int→Option Int)) (v6_1:Int):Option Int :=
 bif (decide (v6_1 < ((p1.length:Nat):Int))) then
  (idx p1 v6_1).bind fun x28 =>
  (Hh p0 v6_1 x28).bind fun x30 =>
  bif (!x30) then
   some 9
  else
   rec1 (IntKind.i64.wrap (v6_1 + 1))
 else
  kont1_0 v6_1
def IA (p0:Af) (p1:(List Int)):Option Int :=
 (Cz p0).bind fun x8 =>
 bif (x8 != 0) then
  some x8
 else
  bif (((p1.length:Nat):Int) != ((p0.Columns.length:Nat):Int)) then
   some 9
  else
   iter (fun rec1 s=>JL p1 p0 (fun v6_1=>some 0) rec1 s) AM 0
def K5 (p0:B2) (kont2_2:(Int→Option Bool)) (rec2:(Int→Option Bool)) (v4_2:Int):Option Bool :=
 bif (decide (v4_2 < ((p0.Gone.length:Nat):Int))) then
  (idx p0.Gone v4_2).bind fun x79 =>
  bif (decide (x79 < 1)) then
   some false
  else
   (idx p0.Gone v4_2).bind fun x86 =>
   bif (decide (x86 > 1048575)) then
    some false
   else
    bif (decide (v4_2 > 0)) then
     (idx p0.Gone v4_2).bind fun x97 =>
     (idx p0.Gone (IntKind.i64.wrap (v4_2 - 1))).bind fun x103 =>
     bif (decide (x97≤x103)) then
      some false
     else
      (idx p0.Gone v4_2).bind fun x113 =>
      (GZ p0 x113).bind fun x115 =>
      bif (decide (x115 ≥ 0)) then
       some false
      else
       rec2 (IntKind.i64.wrap (v4_2 + 1))
    else
     (idx p0.Gone v4_2).bind fun x113 =>
     (GZ p0 x113).bind fun x115 =>
     bif (decide (x115 ≥ 0)) then
      some false
     else
      rec2 (IntKind.i64.wrap (v4_2 + 1))
 else
  kont2_2 v4_2
def HW (p0:B2):Option Bool :=
 iter (fun rec2 s=>K5 p0 (fun v4_2=>some true) rec2 s) AM 0
def HV (p0:B2) (kont1_0:(Int→Option Bool)) (rec1:(Int→Option Bool)) (v3_1:Int):Option Bool :=
 bif (decide (v3_1 < ((p0.Rows.length:Nat):Int))) then
  (idx p0.Rows v3_1).bind fun x43 =>
  (IA p0.Schema x43).bind fun x45 =>
  bif (x45 != 0) then
   some false
  else
   bif (decide (v3_1 > 0)) then
    (idx p0.Rows v3_1).bind fun x54 =>
    (idx x54 0).bind fun x56 =>
    (idx p0.Rows (IntKind.i64.wrap (v3_1 - 1))).bind fun x62 =>
    (idx x62 0).bind fun x64 =>
    bif (decide (x56≤x64)) then
     some false
    else
     rec1 (IntKind.i64.wrap (v3_1 + 1))
   else
    rec1 (IntKind.i64.wrap (v3_1 + 1))
 else
  kont1_0 v3_1
def Hl (p0:B2):Option Bool :=
 (Cz p0.Schema).bind fun x7 =>
 bif (bif (bif (bif (bif (x7 != 0) then true else (decide (((p0.Rows.length:Nat):Int) > 200))) then true else (decide (((p0.Gone.length:Nat):Int) > 300))) then true else (decide (p0.Version < 0))) then true else (decide (p0.Version > 300))) then
  some false
 else
  iter (fun rec1 s=>HV p0 (fun v3_1=>HW p0) rec1 s) AM 0
def Oz (p0:Ar) (p1:Int) (self_ref05_count:(Ar→Int→Option Int)) (kont1_0:(Int→Int→Option Int)) (rec1:((Int × Int)→Option Int)) (v5_1:Int) (v6_1:Int):Option Int :=
 bif (bif (decide (v6_1 < ((p0.Kids.length:Nat):Int))) then (decide (v5_1 < p1)) else false) then
  (idx p0.Kids v6_1).bind fun x23 =>
  (self_ref05_count x23 (IntKind.i64.wrap (p1 - v5_1))).bind fun x28 =>
  rec1 ((IntKind.i64.wrap (v5_1 + x28)),(IntKind.i64.wrap (v6_1 + 1)))
 else
  kont1_0 v5_1 v6_1
def L8 (d:Nat) (self_ref05_count:(Ar→Int→Option Int)) (p0:Ar) (p1:Int):Option Int :=
 iter (fun rec1 s=>Oz p0 p1 self_ref05_count (fun v5_1 v6_1=>some v5_1) rec1 s.1 s.2) AM (1,0)
def Lc:Nat→Ar→Int→Option Int
 | 0,_,_=>none
 | d + 1,p0,p1=>L8 d (Lc d) p0 p1
def O1 (p0:Ar) (self_ref05_depth:(Ar→Option Int)) (kont1_0:(Int→Int→Option Int)) (rec1:((Int × Int)→Option Int)) (v3_1:Int) (v4_1:Int):Option Int :=
 bif (decide (v4_1 < ((p0.Kids.length:Nat):Int))) then
  (idx p0.Kids v4_1).bind fun x16 =>
  (self_ref05_depth x16).bind fun x18 =>
  rec1 ((if x18 > v3_1 then x18 else v3_1),(IntKind.i64.wrap (v4_1 + 1)))
 else
  kont1_0 v3_1 v4_1
def LA (d:Nat) (self_ref05_depth:(Ar→Option Int)) (p0:Ar):Option Int :=
 iter (fun rec1 s=>O1 p0 self_ref05_depth (fun v3_1 v4_1=>some (IntKind.i64.wrap (v3_1 + 1))) rec1 s.1 s.2) AM (0,0)
def Ld:Nat→Ar→Option Int
 | 0,_=>none
 | d + 1,p0=>LA d (Ld d) p0
def O3 (p0:Af) (p1:Int) (p2:Int):Option Bool :=
 bif (bif (decide (p1 ≥ 0)) then (decide (p1 < ((p0.Columns.length:Nat):Int))) else false) then
  (idx p0.Columns p1).bind fun x20 =>
  some (x20.Kind==p2)
 else
  some false
def PE (p1:Ar) (self_ref05_node:(Af→Ar→Option Int)) (p0:Af) (kont1_1:(Int→Option Int)) (rec1:(Int→Option Int)) (v7_1:Int):Option Int :=
 bif (decide (v7_1 < ((p1.Kids.length:Nat):Int))) then
  (idx p1.Kids v7_1).bind fun x179 =>
  (self_ref05_node p0 x179).bind fun x181 =>
  bif (x181 != 0) then
   some x181
  else
   rec1 (IntKind.i64.wrap (v7_1 + 1))
 else
  kont1_1 v7_1
def IU (p1:Ar) (self_ref05_node:(Af→Ar→Option Int)) (p0:Af):Option Int :=
 bif (bif (p1.Op==3) then (bif (bif (decide (p1.Low < (-1000000))) then true else (decide (p1.High > 1000000))) then true else (decide (p1.Low > p1.High))) else false) then
  some 2
 else
  iter (fun rec1 s=>PE p1 self_ref05_node p0 (fun v7_1=>some 0) rec1 s) AM 0
def F5 (p1:Ar) (p0:Af) (self_ref05_node:(Af→Ar→Option Int)):Option Int :=
 bif (p1.Op==2) then
  bif (decide (p1.Code < 0)) then
   some 6
  else
   (idx p0.Columns p1.Column).bind fun x138 =>
   (idx p0.Lists x138.List_).bind fun x141 =>
   bif (decide (p1.Code ≥ ((x141.Codes.length:Nat):Int))) then
    some 6
   else
    IU p1 self_ref05_node p0
 else
  IU p1 self_ref05_node p0
def CH (p1:Ar) (p0:Af) (self_ref05_node:(Af→Ar→Option Int)) (j5_1:Int) (k6_1_1:Int) (k6_2_1:Int) (k6_3_1:Int) (k6_4_1:Int):Option Int :=
 bif (bif (bif (bif (bif (((p1.Kids.length:Nat):Int) != j5_1) then true else (k6_1_1 != p1.Column)) then true else (k6_2_1 != p1.Code)) then true else (k6_3_1 != p1.Low)) then true else (k6_4_1 != p1.High)) then
  some 11
 else
  bif (p1.Op==2) then
   (O3 p0 p1.Column 2).bind fun x85 =>
   bif (!x85) then
    some 7
   else
    F5 p1 p0 self_ref05_node
  else
   bif (p1.Op==3) then
    (O3 p0 p1.Column 3).bind fun x96 =>
    bif (!x96) then
     some 7
    else
     F5 p1 p0 self_ref05_node
   else
    bif (p1.Op==4) then
     (O3 p0 p1.Column 3).bind fun x108 =>
     bif (!x108) then
      some 7
     else
      (idx p0.Columns p1.Column).bind fun x115 =>
      bif (!x115.Optional) then
       some 7
      else
       F5 p1 p0 self_ref05_node
    else
     F5 p1 p0 self_ref05_node
def Nc (d:Nat) (self_ref05_node:(Af→Ar→Option Int)) (p0:Af) (p1:Ar):Option Int :=
 bif (p1.Op==1) then
  CH p1 p0 self_ref05_node 0 0 0 0 0
 else
  bif (p1.Op==2) then
   CH p1 p0 self_ref05_node 0 p1.Column p1.Code 0 0
  else
   bif (p1.Op==3) then
    CH p1 p0 self_ref05_node 0 p1.Column 0 p1.Low p1.High
   else
    bif (p1.Op==4) then
     CH p1 p0 self_ref05_node 0 p1.Column 0 0 0
    else
     bif (p1.Op==5) then
      CH p1 p0 self_ref05_node 2 0 0 0 0
     else
      bif (p1.Op==6) then
       CH p1 p0 self_ref05_node 2 0 0 0 0
      else
       bif (p1.Op==7) then
        CH p1 p0 self_ref05_node 1 0 0 0 0
       else
        some 4
def Nb:Nat→Af→Ar→Option Int
 | 0,_,_=>none
 | d + 1,p0,p1=>Nc d (Nb d) p0 p1
def Ej (d:Nat) (p0:Af) (p1:Ar):Option Int :=
 (Cz p0).bind fun x7 =>
 bif (x7 != 0) then
  some x7
 else
  (Lc d p1 41).bind fun x12 =>
  bif (decide (x12 > 40)) then
   some 1
  else
   (Ld d p1).bind fun x15 =>
   bif (decide (x15 > 10)) then
    some 22
   else
    (Nb d p0 p1).bind fun x19 =>
    some x19
def KB (p0:Af) (p1:Int) (p2:Int):Option Bool :=
 bif (bif (decide (p1 ≥ 0)) then (decide (p1 < ((p0.Columns.length:Nat):Int))) else false) then
  (idx p0.Columns p1).bind fun x20 =>
  some (x20.Kind==p2)
 else
  some false
def I9 (p0:Af) (p1:An):Option Int :=
 (Cz p0).bind fun x7 =>
 bif (x7 != 0) then
  some x7
 else
  bif (bif (decide (p1.Column < 1)) then true else (decide (p1.Column ≥ ((p0.Columns.length:Nat):Int)))) then
   some 7
  else
   (CG p0 p1.Column).bind fun x27 =>
   (D6 p1.Level 0 x27).bind fun x28 =>
   bif (!x28) then
    some 8
   else
    some 0
def LB (v5_1:Int) (p1:(List An)) (kont2_2:(Int→Option Int)) (rec2:(Int→Option Int)) (v7_2:Int):Option Int :=
 bif (decide (v7_2 < v5_1)) then
  (idx p1 v7_2).bind fun x46 =>
  (idx p1 v5_1).bind fun x51 =>
  bif (x46.Column==x51.Column) then
   some 10
  else
   rec2 (IntKind.i64.wrap (v7_2 + 1))
 else
  kont2_2 v7_2
def IV (p1:(List An)) (p0:Af) (kont1_0:(Int→Option Int)) (rec1:(Int→Option Int)) (v5_1:Int):Option Int :=
 bif (decide (v5_1 < ((p1.length:Nat):Int))) then
  (idx p1 v5_1).bind fun x25 =>
  (I9 p0 x25).bind fun x27 =>
  bif (x27 != 0) then
   some x27
  else
   (idx p1 v5_1).bind fun x34 =>
   (KB p0 x34.Column 2).bind fun x37 =>
   bif (!x37) then
    some 7
   else
    iter (fun rec2 s=>LB v5_1 p1 (fun v7_2=>rec1 (IntKind.i64.wrap (v5_1 + 1))) rec2 s) AM 0
 else
  kont1_0 v5_1
def KA (p0:Af) (p1:(List An)):Option Int :=
 bif (bif (decide (((p1.length:Nat):Int) < 1)) then true else (decide (((p1.length:Nat):Int) > 3))) then
  some 1
 else
  iter (fun rec1 s=>IV p1 p0 (fun v5_1=>some 0) rec1 s) AM 0
def Rf (p0:(List Int)) (p1:Int) (kont1_0:(Int→Option Bool)) (rec1:(Int→Option Bool)) (v5_1:Int):Option Bool :=
 bif (decide (v5_1 < ((p0.length:Nat):Int))) then
  (idx p0 v5_1).bind fun x14 =>
  bif (x14==p1) then
   some true
  else
   rec1 (IntKind.i64.wrap (v5_1 + 1))
 else
  kont1_0 v5_1
def OY (p0:(List Int)) (p1:Int):Option Bool :=
 iter (fun rec1 s=>Rf p0 p1 (fun v5_1=>some false) rec1 s) AM 0
def O5 (p2:(List Int)) (p0:Af) (p1:Int) (kont1_0:(Int→Option Int)) (rec1:(Int→Option Int)) (v7_1:Int):Option Int :=
 bif (decide (v7_1 < ((p2.length:Nat):Int))) then
  (idx p2 v7_1).bind fun x25 =>
  (KB p0 x25 3).bind fun x27 =>
  bif (!x27) then
   some 7
  else
   (idx p2 v7_1).bind fun x31 =>
   bif (x31==p1) then
    some 10
   else
    bif (decide (0≤(0:Int)∧0≤v7_1∧v7_1≤((p2.length:Nat):Int))) then
     (idx p2 v7_1).bind fun x41 =>
     (OY (Sm p2 0 v7_1) x41).bind fun x43 =>
     bif x43 then
      some 10
     else
      rec1 (IntKind.i64.wrap (v7_1 + 1))
    else none
 else
  kont1_0 v7_1
def O4 (p0:Af) (p1:Int) (p2:(List Int)):Option Int :=
 bif (bif (decide (((p2.length:Nat):Int) < 1)) then true else (decide (((p2.length:Nat):Int) > 3))) then
  some 1
 else
  iter (fun rec1 s=>O5 p2 p0 p1 (fun v7_1=>some 0) rec1 s) AM 0
def Lf (d:Nat) (p0:Af) (p1:Cn):Option Int :=
 (KB p0 p1.Measure 3).bind fun x10 =>
 bif (p1.Kind==1) then
  (KA p0 p1.Dims).bind fun x32 =>
  bif (x32 != 0) then
   some x32
  else
   bif (bif (p1.Measure != (-1)) then (!x10) else false) then
    some 7
   else
    some 0
 else
  bif (p1.Kind==2) then
   bif (!x10) then
    some 7
   else
    (O4 p0 p1.Measure p1.Terms).bind fun x52 =>
    some x52
  else
   bif (!x10) then
    some 7
   else
    (idx p0.Columns p1.Measure).bind fun x19 =>
    bif (decide (x19.Low < 0)) then
     some 2
    else
     (Ej d p0 p1.Event).bind fun x26 =>
     some x26
def P8 (p0:Ar) (p1:Ar) (self_ref05_Same:(Ar→Ar→Option Bool)) (kont1_0:(Int→Option Bool)) (rec1:(Int→Option Bool)) (v5_1:Int):Option Bool :=
 bif (decide (v5_1 < ((p0.Kids.length:Nat):Int))) then
  (idx p0.Kids v5_1).bind fun x58 =>
  (idx p1.Kids v5_1).bind fun x63 =>
  (self_ref05_Same x58 x63).bind fun x65 =>
  bif (!x65) then
   some false
  else
   rec1 (IntKind.i64.wrap (v5_1 + 1))
 else
  kont1_0 v5_1
def MY (d:Nat) (self_ref05_Same:(Ar→Ar→Option Bool)) (p0:Ar) (p1:Ar):Option Bool :=
 bif (bif (bif (bif (bif (bif (p0.Op != p1.Op) then true else (p0.Column != p1.Column)) then true else (p0.Code != p1.Code)) then true else (p0.Low != p1.Low)) then true else (p0.High != p1.High)) then true else (((p0.Kids.length:Nat):Int) != ((p1.Kids.length:Nat):Int))) then
  some false
 else
  iter (fun rec1 s=>P8 p0 p1 self_ref05_Same (fun v5_1=>some true) rec1 s) AM 0
def MX:Nat→Ar→Ar→Option Bool
 | 0,_,_=>none
 | d + 1,p0,p1=>MY d (MX d) p0 p1
def Qn (d:Nat) (p0:Ar):Option Bool :=
 (MX d p0 ({ Op:=0,Column:=0,Code:=0,Low:=0,High:=0,Kids:=[] }:Ar)).bind fun x5 =>
 some x5
def D7 (d:Nat) (p0:Af) (p1:Cn):Option Int :=
 (Cz p0).bind fun x9 =>
 bif (x9 != 0) then
  some x9
 else
  (D4 p1.Name).bind fun x15 =>
  bif (!x15) then
   some 3
  else
   bif (bif (decide (p1.Kind < 1)) then true else (decide (p1.Kind > 3))) then
    some 4
   else
    (Ej d p0 p1.Filter).bind fun x28 =>
    bif (x28 != 0) then
     some x28
    else
     (Lf d p0 p1).bind fun x34 =>
     bif (x34 != 0) then
      some x34
     else
      bif (bif (bif (p1.Kind != 1) then (decide (((p1.Dims.length:Nat):Int) > 0)) else false) then true else (bif (p1.Kind != 2) then (decide (((p1.Terms.length:Nat):Int) > 0)) else false)) then
       some 11
      else
       bif (p1.Kind != 3) then
        (Qn d p1.Event).bind fun x65 =>
        bif (!x65) then
         some 11
        else
         some 0
       else
        some 0
def K9 (v8_1:Int) (p1:AZ) (kont2_2:(Int→Option Int)) (rec2:(Int→Option Int)) (v10_2:Int):Option Int :=
 bif (decide (v10_2 < v8_1)) then
  (idx p1.Questions v10_2).bind fun x100 =>
  (idx p1.Questions v8_1).bind fun x106 =>
  bif (x100.Name.toList==x106.Name.toList) then
   some 10
  else
   rec2 (IntKind.i64.wrap (v10_2 + 1))
 else
  kont2_2 v10_2
def HX (p1:AZ) (d:Nat) (p0:Af) (kont1_0:(Int→Option Int)) (rec1:(Int→Option Int)) (v8_1:Int):Option Int :=
 bif (decide (v8_1 < ((p1.Questions.length:Nat):Int))) then
  (idx p1.Questions v8_1).bind fun x86 =>
  (D7 d p0 x86).bind fun x88 =>
  bif (x88 != 0) then
   some x88
  else
   iter (fun rec2 s=>K9 v8_1 p1 (fun v10_2=>rec1 (IntKind.i64.wrap (v8_1 + 1))) rec2 s) AM 0
 else
  kont1_0 v8_1
def HY (d:Nat) (p0:Af) (p1:AZ):Option Int :=
 (Ej d p0 p1.Cohort).bind fun x29 =>
 bif (x29 != 0) then
  some x29
 else
  bif (bif (bif (bif (bif (bif (decide (p1.Sample.Of < 1)) then true else (decide (p1.Sample.Of > 1000))) then true else (decide (p1.Sample.Part < 1))) then true else (decide (p1.Sample.Part > p1.Sample.Of))) then true else (decide (p1.Sample.Seed < 0))) then true else (decide (p1.Sample.Seed > 1099511627776))) then
   some 2
  else
   bif (bif (decide (((p1.Questions.length:Nat):Int) < 1)) then true else (decide (((p1.Questions.length:Nat):Int) > 8))) then
    some 1
   else
    iter (fun rec1 s=>HX p1 d p0 (fun v8_1=>some 0) rec1 s) AM 0
def Ho (d:Nat) (p0:Af) (p1:AZ):Option Int :=
 (Cz p0).bind fun x12 =>
 bif (x12 != 0) then
  some x12
 else
  (D4 p1.Project).bind fun x18 =>
  bif (!x18) then
   some 3
  else
   (D4 p1.Source).bind fun x23 =>
   bif (!x23) then
    some 3
   else
    HY d p0 p1
def HT (p1:(List An)) (p0:Af) (kont1_0:(Int→Option Int)) (rec1:(Int→Option Int)) (v6_1:Int):Option Int :=
 bif (decide (v6_1 < ((p1.length:Nat):Int))) then
  (idx p1 v6_1).bind fun x22 =>
  (I9 p0 x22).bind fun x24 =>
  bif (x24 != 0) then
   some x24
  else
   bif (decide (v6_1 > 0)) then
    (idx p1 v6_1).bind fun x33 =>
    (idx p1 (IntKind.i64.wrap (v6_1 - 1))).bind fun x39 =>
    bif (decide (x33.Column≤x39.Column)) then
     some 10
    else
     rec1 (IntKind.i64.wrap (v6_1 + 1))
   else
    rec1 (IntKind.i64.wrap (v6_1 + 1))
 else
  kont1_0 v6_1
def Hk (p0:Af) (p1:(List An)):Option Int :=
 (Cz p0).bind fun x9 =>
 bif (x9 != 0) then
  some x9
 else
  iter (fun rec1 s=>HT p1 p0 (fun v6_1=>some 0) rec1 s) AM 0
def N0 (p1:(List An)) (p0:(List An)) (v5_1:Int) (kont2_2:(Bool→Int→Option Bool)) (rec2:((Bool × Int)→Option Bool)) (v6_2:Bool) (v7_2:Int):Option Bool :=
 bif (decide (v7_2 < ((p1.length:Nat):Int))) then
  bif v6_2 then
   rec2 (true,(IntKind.i64.wrap (v7_2 + 1)))
  else
   (idx p1 v7_2).bind fun x24 =>
   (idx p0 v5_1).bind fun x29 =>
   bif (x24.Column==x29.Column) then
    (idx p1 v7_2).bind fun x36 =>
    (idx p0 v5_1).bind fun x41 =>
    rec2 ((decide (x36.Level ≥ x41.Level)),(IntKind.i64.wrap (v7_2 + 1)))
   else
    rec2 (false,(IntKind.i64.wrap (v7_2 + 1)))
 else
  kont2_2 v6_2 v7_2
def Nz (p0:(List An)) (p1:(List An)) (kont1_0:(Int→Option Bool)) (rec1:(Int→Option Bool)) (v5_1:Int):Option Bool :=
 bif (decide (v5_1 < ((p0.length:Nat):Int))) then
  iter (fun rec2 s=>N0 p1 p0 v5_1 (fun v6_2 v7_2=>bif (!v6_2) then   some false else   rec1 (IntKind.i64.wrap (v5_1 + 1))) rec2 s.1 s.2) AM (false,0)
 else
  kont1_0 v5_1
def MW (p0:(List An)) (p1:(List An)):Option Bool :=
 iter (fun rec1 s=>Nz p0 p1 (fun v5_1=>some true) rec1 s) AM 0
def Oy (p1:Int) (p2:Int) (v8_1:Bool) (v9_1:Int) (b7_1:(List An)):Option (List An) :=
 bif (!v8_1) then
  bif rm b7_1.length [({ Column:=p1,Level:=p2 }:An)].length then
   some (b7_1++[({ Column:=p1,Level:=p2 }:An)])
  else none
 else
  some b7_1
def Ox (p0:(List An)) (p1:Int) (p2:Int) (kont1_0:(Bool→Int→(List An)→Option (List An))) (rec1:((Bool × Int × (List An))→Option (List An))) (v8_1:Bool) (v9_1:Int) (b7_1:(List An)):Option (List An) :=
 bif (decide (v9_1 < ((p0.length:Nat):Int))) then
  (idx p0 v9_1).bind fun x21 =>
  bif (bif (decide (x21.Column > p1)) then (!v8_1) else false) then
   bif rm b7_1.length [({ Column:=p1,Level:=p2 }:An)].length then
    bif (x21.Column==p1) then
     bif rm (b7_1++[({ Column:=p1,Level:=p2 }:An)]).length [({ Column:=x21.Column,Level:=(if p2 > x21.Level then p2 else x21.Level) }:An)].length then
      rec1 (true,(IntKind.i64.wrap (v9_1 + 1)),((b7_1++[({ Column:=p1,Level:=p2 }:An)])++[({ Column:=x21.Column,Level:=(if p2 > x21.Level then p2 else x21.Level) }:An)]))
     else none
    else
     bif rm (b7_1++[({ Column:=p1,Level:=p2 }:An)]).length [x21].length then
      rec1 (true,(IntKind.i64.wrap (v9_1 + 1)),((b7_1++[({ Column:=p1,Level:=p2 }:An)])++[x21]))
     else none
   else none
  else
   bif (x21.Column==p1) then
    bif rm b7_1.length [({ Column:=x21.Column,Level:=(if p2 > x21.Level then p2 else x21.Level) }:An)].length then
     rec1 (true,(IntKind.i64.wrap (v9_1 + 1)),(b7_1++[({ Column:=x21.Column,Level:=(if p2 > x21.Level then p2 else x21.Level) }:An)]))
    else none
   else
    bif rm b7_1.length [x21].length then
     rec1 (v8_1,(IntKind.i64.wrap (v9_1 + 1)),(b7_1++[x21]))
    else none
 else
  kont1_0 v8_1 v9_1 b7_1
def Hn (p0:(List An)) (p1:Int) (p2:Int):Option (List An) :=
 iter (fun rec1 s=>Ox p0 p1 p2 (Oy p1 p2) rec1 s.1 s.2.1 s.2.2) AM ((decide (p2≤0)),0,[])
def Ot (p0:Ar) (self_ref05_Atoms:(Ar→Option (List Ar))) (kont1_0:(Int→(List Ar)→Option (List Ar))) (rec1:((Int × (List Ar))→Option (List Ar))) (v4_1:Int) (b3_1:(List Ar)):Option (List Ar) :=
 bif (decide (v4_1 < ((p0.Kids.length:Nat):Int))) then
  (idx p0.Kids v4_1).bind fun x31 =>
  (self_ref05_Atoms x31).bind fun x33 =>
  bif rm b3_1.length x33.length then
   rec1 ((IntKind.i64.wrap (v4_1 + 1)),(b3_1++x33))
  else none
 else
  kont1_0 v4_1 b3_1
def L6 (d:Nat) (self_ref05_Atoms:(Ar→Option (List Ar))) (p0:Ar):Option (List Ar) :=
 bif (bif (bif (p0.Op==2) then true else (p0.Op==3)) then true else (p0.Op==4)) then
  some [p0]
 else
  iter (fun rec1 s=>Ot p0 self_ref05_Atoms (fun v4_1 b3_1=>some b3_1) rec1 s.1 s.2) AM (0,[])
def Lb:Nat→Ar→Option (List Ar)
 | 0,_=>none
 | d + 1,p0=>L6 d (Lb d) p0
def SC (p0:Aw) (p2:Int) (kont1_0:(Int→Option Int)) (rec1:(Int→Option Int)) (v1_1:Int):Option Int :=
 (Dq p0 v1_1).bind fun x34 =>
 bif (decide (x34 > p2)) then
  (idx p0.Codes v1_1).bind fun x40 =>
  rec1 x40.Parent
 else
  kont1_0 v1_1
def HO (p0:Aw) (p1:Int) (p2:Int):Option Int :=
 (Eg p0).bind fun x8 =>
 bif (bif (bif (bif (x8 != 0) then true else (decide (p1 < 0))) then true else (decide (p1 ≥ ((p0.Codes.length:Nat):Int)))) then true else (decide (p2 < 0))) then
  some (-1)
 else
  (Dq p0 p1).bind fun x29 =>
  bif (decide (p2 > x29)) then
   some (-1)
  else
   iter (fun rec1 s=>SC p0 p2 (fun v1_1=>some v1_1) rec1 s) AM p1
def CR (p0:Az) (p1:Int):Option Int :=
 (idx p0.Widths (IntKind.i64.wrap (((p0.Widths.length:Nat):Int) - p1))).bind fun x12 =>
 some x12
def Ei (p0:Int) (p1:Int):Option Int :=
 bif (decide (p1≠0)) then
  bif (decide (p1≠0)) then
   bif (decide ((Int.tmod p0 p1) < 0)) then
    some (IntKind.i64.wrap ((IntKind.i64.wrap (Int.tdiv p0 p1)) - 1))
   else
    some (IntKind.i64.wrap (Int.tdiv p0 p1))
  else none
 else none
def BH (p0:Af) (p1:Int) (p2:Int) (p3:Int):Option Int :=
 (CG p0 p1).bind fun x14 =>
 (D6 p2 0 x14).bind fun x15 =>
 bif (!x15) then
  some (-1)
 else
  (idx p0.Columns p1).bind fun x20 =>
  bif (x20.Kind==2) then
   (Hh p0 p1 p3).bind fun x28 =>
   bif (!x28) then
    some (-1)
   else
    (idx p0.Lists x20.List_).bind fun x34 =>
    (HO x34 p3 p2).bind fun x38 =>
    some x38
  else
   bif (p3 != (-1099511627776)) then
    (D6 p3 (-1000000) 1000000).bind fun x43 =>
    bif (!x43) then
     some (-1)
    else
     bif (p2==0) then
      some 0
     else
      bif (p3==(-1099511627776)) then
       some p3
      else
       (CR x20 p2).bind fun x53 =>
       (Ei p3 x53).bind fun x56 =>
       some (IntKind.i64.wrap (x56 * x53))
   else
    bif (p2==0) then
     some 0
    else
     bif (p3==(-1099511627776)) then
      some p3
     else
      (CR x20 p2).bind fun x53 =>
      (Ei p3 x53).bind fun x56 =>
      some (IntKind.i64.wrap (x56 * x53))
def Oo (p0:Aw) (p1:Int) (p2:Int):Option Bool :=
 (FY p0 p2).bind fun x10 =>
 bif (decide (x10 ≥ 0)) then
  (FY p0 p1).bind fun x16 =>
  bif (decide (x16 ≥ x10)) then
   (HO p0 p1 x10).bind fun x24 =>
   some (x24==p2)
  else
   some false
 else
  some false
def K6 (p0:Af) (p1:Ar) (p2:Int):Option Int :=
 bif (p1.Op==2) then
  (idx p0.Columns p1.Column).bind fun x18 =>
  (idx p0.Lists x18.List_).bind fun x21 =>
  (Oo x21 p2 p1.Code).bind fun x26 =>
  bif x26 then
   some 1
  else
   some (-1)
 else
  bif (p1.Op==3) then
   bif (p2==(-1099511627776)) then
    some 0
   else
    bif (bif (decide (p1.Low≤p2)) then (decide (p2≤p1.High)) else false) then
     some 1
    else
     some (-1)
  else
   bif (p1.Op==4) then
    bif (p2==(-1099511627776)) then
     some 1
    else
     some (-1)
   else
    some (-1)
def Mv (v9_1:Int) (x26:(List Int)) (p0:Af) (p1:Ar) (p2:Int) (kont2_2:(Int→Option Bool)) (rec2:(Int→Option Bool)) (v10_2:Int):Option Bool :=
 bif (decide (v10_2 < v9_1)) then
  (idx x26 v9_1).bind fun x44 =>
  (BH p0 p1.Column p2 x44).bind fun x46 =>
  (idx x26 v10_2).bind fun x53 =>
  (BH p0 p1.Column p2 x53).bind fun x55 =>
  bif (x46==x55) then
   (idx x26 v9_1).bind fun x62 =>
   (K6 p0 p1 x62).bind fun x64 =>
   (idx x26 v10_2).bind fun x69 =>
   (K6 p0 p1 x69).bind fun x71 =>
   bif (x64 != x71) then
    some false
   else
    rec2 (IntKind.i64.wrap (v10_2 + 1))
  else
   rec2 (IntKind.i64.wrap (v10_2 + 1))
 else
  kont2_2 v10_2
def Mu (x26:(List Int)) (p0:Af) (p1:Ar) (p2:Int) (kont1_0:(Int→Option Bool)) (rec1:(Int→Option Bool)) (v9_1:Int):Option Bool :=
 bif (decide (v9_1 < ((x26.length:Nat):Int))) then
  iter (fun rec2 s=>Mv v9_1 x26 p0 p1 p2 (fun v10_2=>rec1 (IntKind.i64.wrap (v9_1 + 1))) rec2 s) AM 0
 else
  kont1_0 v9_1
def L9 (p0:Af) (p1:Ar) (p2:Int):Option Bool :=
 (idx p0.Columns p1.Column).bind fun x18 =>
 bif (p1.Op==2) then
  (Fe p0 p1.Column).bind fun x26 =>
  iter (fun rec1 s=>Mu x26 p0 p1 p2 (fun v9_1=>some true) rec1 s) AM 0
 else
  bif (p1.Op==4) then
   some (decide (p2 > 0))
  else
   bif (p2==0) then
    some (bif (bif (!x18.Optional) then (!(bif (decide (p1.Low > x18.Low)) then (decide (p1.Low≤x18.High)) else false)) else false) then (!(bif (decide (p1.High ≥ x18.Low)) then (decide (p1.High < x18.High)) else false)) else false)
   else
    (CR x18 p2).bind fun x118 =>
    bif (!(bif (decide (p1.Low > x18.Low)) then (decide (p1.Low≤x18.High)) else false)) then
     bif (!(bif (decide (p1.High ≥ x18.Low)) then (decide (p1.High < x18.High)) else false)) then
      some true
     else
      bif (decide (x118≠0)) then
       some ((Int.tmod (IntKind.i64.wrap (p1.High + 1)) x118)==0)
      else none
    else
     bif (decide (x118≠0)) then
      bif ((Int.tmod p1.Low x118)==0) then
       bif (!(bif (decide (p1.High ≥ x18.Low)) then (decide (p1.High < x18.High)) else false)) then
        some true
       else
        bif (decide (x118≠0)) then
         some ((Int.tmod (IntKind.i64.wrap (p1.High + 1)) x118)==0)
        else none
      else
       some false
     else none
def K8 (x14:(List Ar)) (v7_1:Int) (v5_1:(List An)) (rec1:(((List An) × Int)→Option (List An))) (v8_2:Int):Option (List An) :=
 (idx x14 v7_1).bind fun x34 =>
 (Hn v5_1 x34.Column v8_2).bind fun x38 =>
 rec1 (x38,(IntKind.i64.wrap (v7_1 + 1)))
def Ow (x14:(List Ar)) (v7_1:Int) (p0:Af) (kont2_2:(Int→Option (List An))) (rec2:(Int→Option (List An))) (v8_2:Int):Option (List An) :=
 (idx x14 v7_1).bind fun x24 =>
 (L9 p0 x24 v8_2).bind fun x27 =>
 bif (!x27) then
  rec2 (IntKind.i64.wrap (v8_2 + 1))
 else
  kont2_2 v8_2
def Ov (x14:(List Ar)) (p0:Af) (kont1_0:((List An)→Int→Option (List An))) (rec1:(((List An) × Int)→Option (List An))) (v5_1:(List An)) (v7_1:Int):Option (List An) :=
 bif (decide (v7_1 < ((x14.length:Nat):Int))) then
  iter (fun rec2 s=>Ow x14 v7_1 p0 (K8 x14 v7_1 v5_1 rec1) rec2 s) AM 0
 else
  kont1_0 v5_1 v7_1
def Hm (d:Nat) (p0:Af) (p1:Ar):Option (List An) :=
 (Ej d p0 p1).bind fun x11 =>
 bif (x11 != 0) then
  some []
 else
  (Lb d p1).bind fun x14 =>
  iter (fun rec1 s=>Ov x14 p0 (fun v5_1 v7_1=>some v5_1) rec1 s.1 s.2) AM ([],0)
def Mq (v11_1:Int) (x33:(List Int)) (p0:Af) (p1:Int) (p3:Int) (p2:Int) (kont2_2:(Int→Option Bool)) (rec2:(Int→Option Bool)) (v12_2:Int):Option Bool :=
 bif (decide (v12_2 < v11_1)) then
  (idx x33 v11_1).bind fun x50 =>
  (BH p0 p1 p3 x50).bind fun x52 =>
  (idx x33 v12_2).bind fun x58 =>
  (BH p0 p1 p3 x58).bind fun x60 =>
  bif (x52 != x60) then
   (idx x33 v11_1).bind fun x68 =>
   (BH p0 p1 p2 x68).bind fun x70 =>
   (idx x33 v12_2).bind fun x76 =>
   (BH p0 p1 p2 x76).bind fun x78 =>
   bif (x70==x78) then
    some false
   else
    rec2 (IntKind.i64.wrap (v12_2 + 1))
  else
   rec2 (IntKind.i64.wrap (v12_2 + 1))
 else
  kont2_2 v12_2
def Mp (x33:(List Int)) (p0:Af) (p1:Int) (p3:Int) (p2:Int) (kont1_0:(Int→Option Bool)) (rec1:(Int→Option Bool)) (v11_1:Int):Option Bool :=
 bif (decide (v11_1 < ((x33.length:Nat):Int))) then
  iter (fun rec2 s=>Mq v11_1 x33 p0 p1 p3 p2 (fun v12_2=>rec1 (IntKind.i64.wrap (v11_1 + 1))) rec2 s) AM 0
 else
  kont1_0 v11_1
def Mr (x19:Az) (p2:Int) (x83:Int) (kont3_4:(Int→Int→Option Bool)) (rec3:((Int × Int)→Option Bool)) (v14_3:Int) (v15_3:Int):Option Bool :=
 bif (bif (decide (v15_3 < 2)) then (decide (v14_3≤x19.High)) else false) then
  (CR x19 p2).bind fun x115 =>
  bif (decide (x115≠0)) then
   bif ((Int.tmod v14_3 x115) != 0) then
    some false
   else
    rec3 ((IntKind.i64.wrap (v14_3 + x83)),(IntKind.i64.wrap (v15_3 + 1)))
  else none
 else
  kont3_4 v14_3 v15_3
def IS (p0:Af) (p1:Int) (p2:Int) (p3:Int):Option Bool :=
 (idx p0.Columns p1).bind fun x19 =>
 bif (bif (p3==0) then true else (decide (p2 ≥ p3))) then
  some true
 else
  bif (x19.Kind==2) then
   (Fe p0 p1).bind fun x33 =>
   iter (fun rec1 s=>Mp x33 p0 p1 p3 p2 (fun v11_1=>some true) rec1 s) AM 0
  else
   (CR x19 p3).bind fun x83 =>
   (Ei x19.Low x83).bind fun x87 =>
   bif (p2==0) then
    some (bif (!x19.Optional) then (decide ((IntKind.i64.wrap ((IntKind.i64.wrap (x87 + 1)) * x83)) > x19.High)) else false)
   else
    iter (fun rec3 s=>Mr x19 p2 x83 (fun v14_3 v15_3=>some true) rec3 s.1 s.2) AM ((IntKind.i64.wrap ((IntKind.i64.wrap (x87 + 1)) * x83)),0)
def K3 (p0:Af) (p1:Int) (p2:Int) (kont1_0:(Int→Option Int)) (rec1:(Int→Option Int)) (v7_1:Int):Option Int :=
 (IS p0 p1 v7_1 p2).bind fun x18 =>
 bif (!x18) then
  rec1 (IntKind.i64.wrap (v7_1 + 1))
 else
  kont1_0 v7_1
def Hj (p0:Af) (p1:Int) (p2:Int):Option Int :=
 (CG p0 p1).bind fun x11 =>
 (D6 p2 0 x11).bind fun x12 =>
 bif (!x12) then
  some (-1)
 else
  iter (fun rec1 s=>K3 p0 p1 p2 (fun v7_1=>some v7_1) rec1 s) AM 0
def Nf (p0:Cn) (p1:Int):Option Bool :=
 bif (p0.Measure==p1) then
  some true
 else
  (OY p0.Terms p1).bind fun x13 =>
  some x13
def Ia (p0:Af) (p1:Cn) (kont3_4:((List An)→Int→Option (List An))) (rec3:(((List An) × Int)→Option (List An))) (v5_3:(List An)) (v9_3:Int):Option (List An) :=
 bif (decide (v9_3 < ((p0.Columns.length:Nat):Int))) then
  (Nf p1 v9_3).bind fun x81 =>
  bif x81 then
   (CG p0 v9_3).bind fun x88 =>
   (Hj p0 v9_3 x88).bind fun x89 =>
   (Hn v5_3 v9_3 x89).bind fun x90 =>
   rec3 (x90,(IntKind.i64.wrap (v9_3 + 1)))
  else
   rec3 (v5_3,(IntKind.i64.wrap (v9_3 + 1)))
 else
  kont3_4 v5_3 v9_3
def HZ (p1:Cn) (p0:Af) (kont2_2:((List An)→Int→Option (List An))) (rec2:(((List An) × Int)→Option (List An))) (v5_2:(List An)) (v8_2:Int):Option (List An) :=
 bif (decide (v8_2 < ((p1.Dims.length:Nat):Int))) then
  (idx p1.Dims v8_2).bind fun x54 =>
  (idx p1.Dims v8_2).bind fun x61 =>
  (idx p1.Dims v8_2).bind fun x67 =>
  (Hj p0 x61.Column x67.Level).bind fun x70 =>
  (Hn v5_2 x54.Column x70).bind fun x71 =>
  rec2 (x71,(IntKind.i64.wrap (v8_2 + 1)))
 else
  kont2_2 v5_2 v8_2
def Gb (p1:Cn) (p0:Af) (j5_1:(List An)):Option (List An) :=
 iter (fun rec2 s=>HZ p1 p0 (fun v5_2 v8_2=>iter (fun rec3 s=>Ia p0 p1 (fun v5_3 v9_3=>some v5_3) rec3 s.1 s.2) AM (v5_2,1)) rec2 s.1 s.2) AM (j5_1,0)
def O6 (x24:(List An)) (kont1_0:((List An)→Int→Option (List An))) (rec1:(((List An) × Int)→Option (List An))) (v5_1:(List An)) (v7_1:Int):Option (List An) :=
 bif (decide (v7_1 < ((x24.length:Nat):Int))) then
  (idx x24 v7_1).bind fun x34 =>
  (idx x24 v7_1).bind fun x39 =>
  (Hn v5_1 x34.Column x39.Level).bind fun x42 =>
  rec1 (x42,(IntKind.i64.wrap (v7_1 + 1)))
 else
  kont1_0 v5_1 v7_1
def Jj (d:Nat) (p0:Af) (p1:Cn):Option (List An) :=
 (D7 d p0 p1).bind fun x12 =>
 bif (x12 != 0) then
  some []
 else
  (Hm d p0 p1.Filter).bind fun x17 =>
  bif (p1.Kind==3) then
   (Hm d p0 p1.Event).bind fun x24 =>
   iter (fun rec1 s=>O6 x24 (fun v5_1 v7_1=>Gb p1 p0 v5_1) rec1 s.1 s.2) AM (x17,0)
  else
   Gb p1 p0 x17
def IW (d:Nat) (p0:Af) (p1:Cn) (p2:(List An)):Option Bool :=
 (D7 d p0 p1).bind fun x9 =>
 bif (x9==0) then
  (Hk p0 p2).bind fun x14 =>
  bif (x14==0) then
   (Jj d p0 p1).bind fun x20 =>
   (MW x20 p2).bind fun x22 =>
   some x22
  else
   some false
 else
  some false
def Ib (p1:AZ) (d:Nat) (p0:Af) (p2:(List An)) (kont1_0:(Int→Option Int)) (rec1:(Int→Option Int)) (v9_1:Int):Option Int :=
 bif (decide (v9_1 < ((p1.Questions.length:Nat):Int))) then
  (idx p1.Questions v9_1).bind fun x33 =>
  (IW d p0 x33 p2).bind fun x36 =>
  bif (!x36) then
   some 23
  else
   rec1 (IntKind.i64.wrap (v9_1 + 1))
 else
  kont1_0 v9_1
def Jk (d:Nat) (p0:Af) (p1:AZ) (p2:(List An)):Option Int :=
 (Ho d p0 p1).bind fun x12 =>
 bif (x12 != 0) then
  some x12
 else
  (Hk p0 p2).bind fun x18 =>
  bif (x18 != 0) then
   some x18
  else
   iter (fun rec1 s=>Ib p1 d p0 p2 (fun v9_1=>some 0) rec1 s) AM 0
def Ql (p0:Int) (p1:(List Int)):Option Int :=
 bif (p0==7) then
  (idx p1 0).bind fun x9 =>
  some (IntKind.i64.wrap (0 - x9))
 else
  bif (p0==5) then
   (idx p1 0).bind fun x15 =>
   (idx p1 1).bind fun x18 =>
   some (if x18 < x15 then x18 else x15)
  else
   bif (p0==6) then
    (idx p1 0).bind fun x24 =>
    (idx p1 1).bind fun x27 =>
    some (if x27 > x24 then x27 else x24)
   else
    some 1
def PC (p1:Ar) (self_ref05_eval:(Af→Ar→(List Int)→Option Int)) (p0:Af) (p2:(List Int)) (kont1_0:(Int→(List Int)→Option Int)) (rec1:((Int × (List Int))→Option Int)) (v8_1:Int) (b7_1:(List Int)):Option Int :=
 bif (decide (v8_1 < ((p1.Kids.length:Nat):Int))) then
  (idx p1.Kids v8_1).bind fun x42 =>
  (self_ref05_eval p0 x42 p2).bind fun x45 =>
  bif rm b7_1.length [x45].length then
   rec1 ((IntKind.i64.wrap (v8_1 + 1)),(b7_1++[x45]))
  else none
 else
  kont1_0 v8_1 b7_1
def Na (d:Nat) (self_ref05_eval:(Af→Ar→(List Int)→Option Int)) (p0:Af) (p1:Ar) (p2:(List Int)):Option Int :=
 bif (bif (bif (p1.Op==2) then true else (p1.Op==3)) then true else (p1.Op==4)) then
  (idx p2 p1.Column).bind fun x27 =>
  (K6 p0 p1 x27).bind fun x29 =>
  some x29
 else
  iter (fun rec1 s=>PC p1 self_ref05_eval p0 p2 (fun v8_1 b7_1=>(Ql p1.Op b7_1).bind fun x51=>some x51) rec1 s.1 s.2) AM (0,[])
def MZ:Nat→Af→Ar→(List Int)→Option Int
 | 0,_,_,_=>none
 | d + 1,p0,p1,p2=>Na d (MZ d) p0 p1 p2
def K7 (d:Nat) (p0:Af) (p1:Ar) (p2:(List Int)):Option Int :=
 (Ej d p0 p1).bind fun x9 =>
 bif (x9 != 0) then
  some 0
 else
  (IA p0 p2).bind fun x14 =>
  bif (x14 != 0) then
   some 0
  else
   (MZ d p0 p1 p2).bind fun x20 =>
   some x20
def O7 (p0:J8):Option Int :=
 bif (bif (bif (bif (bif (bif (decide (p0.Of < 1)) then true else (decide (p0.Of > 1000))) then true else (decide (p0.Part < 1))) then true else (decide (p0.Part > p0.Of))) then true else (decide (p0.Seed < 0))) then true else (decide (p0.Seed > 1099511627776))) then
  some 2
 else
  some 0
def PH (kont1_0:(Int→Int→Option Int)) (rec1:((Int × Int)→Option Int)) (v5_1:Int) (v6_1:Int):Option Int :=
 bif (decide (v6_1 < 3)) then
  rec1 ((IntKind.u64.wrap (((BitVec.ofInt IntKind.u64.bits (IntKind.u64.wrap ((IntKind.u64.wrap (v5_1 * 6364136223846793005)) + 1442695040888963407)) ^^^ BitVec.ofInt IntKind.u64.bits (Int.fdiv (IntKind.u64.wrap ((IntKind.u64.wrap (v5_1 * 6364136223846793005)) + 1442695040888963407)) (2 ^ (min (29:Int).toNat IntKind.u64.bits)))).toNat:Nat):Int)),(IntKind.i64.wrap (v6_1 + 1)))
 else
  kont1_0 v5_1 v6_1
def Ng (p0:Int) (p1:Int):Option Int :=
 iter (fun rec1 s=>PH (fun v5_1 v6_1=>some (IntKind.i64.wrap (Int.fdiv v5_1 (2 ^ (min (32:Int).toNat IntKind.u64.bits))))) rec1 s.1 s.2) AM ((IntKind.u64.wrap ((IntKind.u64.wrap ((IntKind.u64.wrap ((IntKind.u64.wrap p0) * 2654435761)) + (IntKind.u64.wrap ((IntKind.u64.wrap p1) * 40503)))) + 97)),0)
def O8 (p0:J8) (p1:Int):Option Bool :=
 (O7 p0).bind fun x6 =>
 bif (bif (bif (x6==0) then (decide (p1 ≥ 1)) else false) then (decide (p1≤1048575)) else false) then
  (Ng p0.Seed p1).bind fun x20 =>
  bif (decide (p0.Of≠0)) then
   some (decide ((Int.tmod x20 p0.Of) < p0.Part))
  else none
 else
  some false
def GE (p0:B2) (d:Nat) (p1:AZ) (kont1_0:(Int→(List Int)→Option (List Int))) (rec1:((Int × (List Int))→Option (List Int))) (v6_1:Int) (b5_1:(List Int)):Option (List Int) :=
 bif (decide (v6_1 < ((p0.Rows.length:Nat):Int))) then
  (idx p0.Rows v6_1).bind fun x31 =>
  (K7 d p0.Schema p1.Cohort x31).bind fun x33 =>
  bif (x33==1) then
   (idx p0.Rows v6_1).bind fun x41 =>
   (idx x41 0).bind fun x43 =>
   (O8 p1.Sample x43).bind fun x45 =>
   bif x45 then
    (idx p0.Rows v6_1).bind fun x51 =>
    (idx x51 0).bind fun x53 =>
    bif rm b5_1.length [x53].length then
     rec1 ((IntKind.i64.wrap (v6_1 + 1)),(b5_1++[x53]))
    else none
   else
    rec1 ((IntKind.i64.wrap (v6_1 + 1)),b5_1)
  else
   rec1 ((IntKind.i64.wrap (v6_1 + 1)),b5_1)
 else
  kont1_0 v6_1 b5_1
def GF (p0:B2) (d:Nat) (p1:AZ):Option (List Int) :=
 iter (fun rec1 s=>GE p0 d p1 (fun v6_1 b5_1=>some b5_1) rec1 s.1 s.2) AM (0,[])
def Ig (d:Nat) (p0:B2) (p1:AZ):Option (List Int) :=
 (Hl p0).bind fun x8 =>
 bif (!x8) then
  some []
 else
  (Ho d p0.Schema p1).bind fun x14 =>
  bif (x14 != 0) then
   some []
  else
   GF p0 d p1
def Lg (p0:Int) (p1:Int):Option Bool :=
 some (bif (bif (bif (decide (p0 ≥ 0)) then (decide (p0 < 1152921504606846976)) else false) then (decide (p1 ≥ 0)) else false) then (decide (p1 < 1048576)) else false)
def Ic (kont1_0:(Int→Int→Option Int)) (rec1:((Int × Int)→Option Int)) (v7_1:Int) (v8_1:Int):Option Int :=
 bif (decide (v8_1 < 3)) then
  rec1 ((IntKind.u64.wrap ((IntKind.u64.wrap (((BitVec.ofInt IntKind.u64.bits v7_1 ^^^ BitVec.ofInt IntKind.u64.bits (Int.fdiv v7_1 (2 ^ (min (31:Int).toNat IntKind.u64.bits)))).toNat:Nat):Int)) * 13787848793156543929)),(IntKind.i64.wrap (v8_1 + 1)))
 else
  kont1_0 v7_1 v8_1
def Jl (p0:Int) (p1:Int) (p2:Int):Option Int :=
 bif (bif (bif (bif (bif (bif (decide (p0 < 0)) then true else (decide (p0 ≥ 1152921504606846976))) then true else (decide (p1 < 0))) then true else (decide (p1 > 7))) then true else (decide (p2 < 0))) then true else (decide (p2 > 1023))) then
  some 0
 else
  iter (fun rec1 s=>Ic (fun v7_1 v8_1=>some (IntKind.i64.wrap (Int.fdiv v7_1 (2 ^ (min (54:Int).toNat IntKind.u64.bits))))) rec1 s.1 s.2) AM ((IntKind.u64.wrap ((IntKind.u64.wrap ((IntKind.u64.wrap p0) + (IntKind.u64.wrap ((IntKind.u64.wrap p1) * 11400714819323198485)))) + (IntKind.u64.wrap ((IntKind.u64.wrap p2) * 14029467366897019727)))),0)
def JN (p0:Int) (kont1_0:(Int→Int→Int→Option Int)) (rec1:((Int × Int × Int)→Option Int)) (v5_1:Int) (v6_1:Int) (v7_1:Int):Option Int :=
 bif (decide (v7_1≤7)) then
  (Jl p0 v7_1 v6_1).bind fun x25 =>
  rec1 (v6_1,(IntKind.i64.wrap (((BitVec.ofInt IntKind.i64.bits v5_1 ^^^ BitVec.ofInt IntKind.i64.bits x25).toNat:Nat):Int)),(IntKind.i64.wrap (v7_1 + 1)))
 else
  kont1_0 v5_1 v6_1 v7_1
def Mw (p0:Int) (p1:Int):Option Int :=
 (Lg p0 p1).bind fun x10 =>
 bif (!x10) then
  some (-1)
 else
  iter (fun rec1 s=>JN p0 (fun v5_1 v6_1 v7_1=>some (IntKind.i64.wrap ((IntKind.i64.wrap (v5_1 * 1024)) + v6_1))) rec1 s.1 s.2.1 s.2.2) AM ((IntKind.i64.wrap (Int.tdiv p1 1024)),(Int.tmod p1 1024),0)
def If (p2:(List An)) (x61:(List Int)) (p0:B2) (kont2_2:(Int→(List Int)→Option (A1 × Int))) (rec2:((Int × (List Int))→Option (A1 × Int))) (v16_2:Int) (b69_2:(List Int)):Option (A1 × Int) :=
 bif (decide (v16_2 < ((p2.length:Nat):Int))) then
  (idx p2 v16_2).bind fun x81 =>
  (idx p2 v16_2).bind fun x86 =>
  (idx p2 v16_2).bind fun x92 =>
  (idx x61 x92.Column).bind fun x95 =>
  (BH p0.Schema x81.Column x86.Level x95).bind fun x97 =>
  bif rm b69_2.length [x97].length then
   rec2 ((IntKind.i64.wrap (v16_2 + 1)),(b69_2++[x97]))
  else none
 else
  kont2_2 v16_2 b69_2
def Ie (x46:(List Int)) (p0:B2) (p3:Int) (p2:(List An)) (kont1_0:(Int→(List (List Int))→Option (A1 × Int))) (rec1:((Int × (List (List Int)))→Option (A1 × Int))) (v13_1:Int) (c11_3_1:(List (List Int))):Option (A1 × Int) :=
 bif (decide (v13_1 < ((x46.length:Nat):Int))) then
  (idx x46 v13_1).bind fun x58 =>
  (GZ p0 x58).bind fun x60 =>
  (idx p0.Rows x60).bind fun x61 =>
  (idx x46 v13_1).bind fun x66 =>
  (Mw p3 x66).bind fun x68 =>
  iter (fun rec2 s=>If p2 x61 p0 (fun v16_2 b69_2=>(JW c11_3_1 b69_2).bind fun x103=>rec1 ((IntKind.i64.wrap (v13_1 + 1)),x103)) rec2 s.1 s.2) AM (0,[x68])
 else
  kont1_0 v13_1 c11_3_1
def Jm (d:Nat) (p0:B2) (p1:AZ) (p2:(List An)) (p3:Int):Option (A1 × Int) :=
 (Hl p0).bind fun x18 =>
 bif (!x18) then
  some (({ Project:=ByteArray.empty,Version:=0,Picks:=[],Rows:=[] }:A1),13)
 else
  (Jk d p0.Schema p1 p2).bind fun x25 =>
  bif (x25 != 0) then
   some (({ Project:=ByteArray.empty,Version:=0,Picks:=[],Rows:=[] }:A1),x25)
  else
   bif (bif (decide (p3 < 0)) then true else (decide (p3 ≥ 1152921504606846976))) then
    some (({ Project:=ByteArray.empty,Version:=0,Picks:=[],Rows:=[] }:A1),2)
   else
    bif rm 0 p2.length then
     (Ig d p0 p1).bind fun x46 =>
     iter (fun rec1 s=>Ie x46 p0 p3 p2 (fun v13_1 c11_3_1=>some (({ Project:=p1.Project,Version:=p0.Version,Picks:=p2,Rows:=c11_3_1 }:A1),0)) rec1 s.1 s.2) AM (0,[])
    else none
def IR (p0:(List Int)) (p1:(List Int)) (kont1_0:(Int→Option Bool)) (rec1:(Int→Option Bool)) (v5_1:Int):Option Bool :=
 bif (decide (v5_1 < ((p0.length:Nat):Int))) then
  (idx p0 v5_1).bind fun x19 =>
  (idx p1 v5_1).bind fun x23 =>
  bif (x19 != x23) then
   some false
  else
   rec1 (IntKind.i64.wrap (v5_1 + 1))
 else
  kont1_0 v5_1
def FX (p0:(List Int)) (p1:(List Int)):Option Bool :=
 bif (((p0.length:Nat):Int) != ((p1.length:Nat):Int)) then
  some false
 else
  iter (fun rec1 s=>IR p0 p1 (fun v5_1=>some true) rec1 s) AM 0
def NQ (p0:(List Int)):Option Am :=
 bif (decide (0≤(0:Int)∧0≤(if 400 < ((p0.length:Nat):Int) then 400 else ((p0.length:Nat):Int))∧(if 400 < ((p0.length:Nat):Int) then 400 else ((p0.length:Nat):Int))≤((p0.length:Nat):Int))) then
  some ({ f_l:=(Sm p0 0 (if 400 < ((p0.length:Nat):Int) then 400 else ((p0.length:Nat):Int))),f_at:=0 }:Am)
 else none
def EU (p0:Am) (p1:Int):Option (Int × Am) :=
 (idx p0.f_l (IntKind.i64.wrap ((IntKind.i64.wrap (p0.f_at + 1)) - 1))).bind fun x36 =>
 bif (decide (p1 > 256)) then
  bif (decide ((IntKind.i64.wrap (p0.f_at + 1)) < ((p0.f_l.length:Nat):Int))) then
   (idx p0.f_l (IntKind.i64.wrap (p0.f_at + 1))).bind fun x63 =>
   bif (decide (p1≠0)) then
    some ((Int.tmod (IntKind.i64.wrap ((IntKind.i64.wrap ((IntKind.i64.wrap x36) * 256)) + (IntKind.i64.wrap x63))) p1),({ f_l:=p0.f_l,f_at:=(IntKind.i64.wrap ((IntKind.i64.wrap (p0.f_at + 1)) + 1)) }:Am))
   else none
  else
   bif (decide (p1≠0)) then
    some ((Int.tmod (IntKind.i64.wrap x36) p1),({ f_l:=p0.f_l,f_at:=(IntKind.i64.wrap (p0.f_at + 1)) }:Am))
   else none
 else
  bif (decide (p1≠0)) then
   some ((Int.tmod (IntKind.i64.wrap x36) p1),({ f_l:=p0.f_l,f_at:=(IntKind.i64.wrap (p0.f_at + 1)) }:Am))
  else none
def Bq (p0:Am) (p1:Int):Option (Int × Am) :=
 bif (decide (p1 < 1)) then
  some (0,p0)
 else
  bif (decide (p0.f_at ≥ ((p0.f_l.length:Nat):Int))) then
   some (0,p0)
  else
   EU p0 p1
def D2 (p0:Am) (p1:Int):Option (Bool × Am) :=
 (Bq p0 p1).bind fun x7 =>
 some ((x7.1==(IntKind.i64.wrap (p1 - 1))),x7.2)
def Bp (p0:Am) (p1:Int) (p2:Int):Option (Int × Am) :=
 (Bq p0 (IntKind.i64.wrap ((IntKind.i64.wrap (p2 - p1)) + 1))).bind fun x13 =>
 some ((IntKind.i64.wrap (p1 + x13.1)),x13.2)
def GU (v8_2:Int) (kont3_4:(Int→(List CY)→Option (Aw × Am))) (rec3:((Int × (List CY))→Option (Aw × Am))) (v9_3:Int) (b12_3:(List CY)):Option (Aw × Am) :=
 bif (decide (v9_3 > 0)) then
  (Fl ((b12_3.length:Nat):Int)).bind fun x49 =>
  bif (decide (({ data:=#[108] }:ByteArray).size + x49.size≤9223372036854775807)) then
   bif rm b12_3.length ([({ Name:=(({ data:=#[108] }:ByteArray)++x49),Parent:=(IntKind.i64.wrap (1 + v8_2)) }:CY)]).length then
    rec3 ((IntKind.i64.wrap (v9_3 - 1)),(b12_3++[({ Name:=(({ data:=#[108] }:ByteArray)++x49),Parent:=(IntKind.i64.wrap (1 + v8_2)) }:CY)]))
   else none
  else none
 else
  kont3_4 v9_3 b12_3
def ES (x15:(Int × Am)) (kont2_2:(Int→Am→(List CY)→Option (Aw × Am))) (rec2:((Int × Am × (List CY))→Option (Aw × Am))) (v8_2:Int) (w0_2:Am) (b12_2:(List CY)):Option (Aw × Am) :=
 bif (decide (v8_2 < x15.1)) then
  (Bp w0_2 1 2).bind fun x39 =>
  iter (fun rec3 s=>GU v8_2 (fun v9_3 b12_3=>rec2 ((IntKind.i64.wrap (v8_2 + 1)),x39.2,b12_3)) rec3 s.1 s.2) AM (x39.1,b12_2)
 else
  kont2_2 v8_2 w0_2 b12_2
def ET (x15:(Int × Am)) (p1:ByteArray) (k12_1:(List CY)):Option (Aw × Am) :=
 (D2 x15.2 2).bind fun x31 =>
 bif x31.1 then
  some (({ Name:=p1,Codes:=k12_1 }:Aw),x31.2)
 else
  iter (fun rec2 s=>ES x15 (fun v8_2 w0_2 b12_2=>some (({ Name:=p1,Codes:=b12_2 }:Aw),w0_2)) rec2 s.1 s.2.1 s.2.2) AM (0,x31.2,k12_1)
def ER (x15:(Int × Am)) (kont1_0:(Int→(List CY)→Option (Aw × Am))) (rec1:((Int × (List CY))→Option (Aw × Am))) (v7_1:Int) (b12_1:(List CY)):Option (Aw × Am) :=
 bif (decide (v7_1 < x15.1)) then
  (Fl v7_1).bind fun x24 =>
  bif (decide (({ data:=#[107] }:ByteArray).size + x24.size≤9223372036854775807)) then
   bif rm b12_1.length ([({ Name:=(({ data:=#[107] }:ByteArray)++x24),Parent:=0 }:CY)]).length then
    rec1 ((IntKind.i64.wrap (v7_1 + 1)),(b12_1++[({ Name:=(({ data:=#[107] }:ByteArray)++x24),Parent:=0 }:CY)]))
   else none
  else none
 else
  kont1_0 v7_1 b12_1
def DR (p0:Am) (p1:ByteArray):Option (Aw × Am) :=
 (Bp p0 1 3).bind fun x15 =>
 iter (fun rec1 s=>ER x15 (fun v7_1 b12_1=>ET x15 p1 b12_1) rec1 s.1 s.2) AM (0,[({ Name:=({ data:=#[116,111,112] }:ByteArray),Parent:=(-1) }:CY)])
def C8 (p0:Am) (p1:ByteArray):Option (Az × Am) :=
 (Bp p0 (-4) 2).bind fun x8 =>
 (Bq x8.2 4).bind fun x15 =>
 (idx ([[1],[1,5],[1,5,20],[1,2,4,12]]) x15.1).bind fun x16 =>
 (D2 x15.2 3).bind fun x19 =>
 (Bq x19.2 45).bind fun x24 =>
 some (({ Name:=p1,Kind:=3,List_:=0,Low:=x8.1,High:=(IntKind.i64.wrap (x8.1 + x24.1)),Widths:=x16,Optional:=x19.1 }:Az),x24.2)
def Ec (kont1_0:(Int→Am→(List Az)→Option (Af × Am))) (rec1:((Int × Am × (List Az))→Option (Af × Am))) (v4_1:Int) (w0_1:Am) (b12_1:(List Az)):Option (Af × Am) :=
 bif (decide (v4_1 > 0)) then
  (Fl ((b12_1.length:Nat):Int)).bind fun x34 =>
  bif (decide (({ data:=#[109] }:ByteArray).size + x34.size≤9223372036854775807)) then
   (C8 w0_1 (({ data:=#[109] }:ByteArray)++x34)).bind fun x36 =>
   bif rm b12_1.length [x36.1].length then
    rec1 ((IntKind.i64.wrap (v4_1 - 1)),x36.2,(b12_1++[x36.1]))
   else none
  else none
 else
  kont1_0 v4_1 w0_1 b12_1
def Jc (kont2_0:(Int→Am→(List Az)→Option (Af × Am))) (rec2:((Int × Am × (List Az))→Option (Af × Am))) (v4_2:Int) (w0_2:Am) (b12_2:(List Az)):Option (Af × Am) :=
 bif (decide (v4_2 > 0)) then
  (Fl ((b12_2.length:Nat):Int)).bind fun x34 =>
  bif (decide (({ data:=#[109] }:ByteArray).size + x34.size≤9223372036854775807)) then
   (C8 w0_2 (({ data:=#[109] }:ByteArray)++x34)).bind fun x36 =>
   bif rm b12_2.length [x36.1].length then
    rec2 ((IntKind.i64.wrap (v4_2 - 1)),x36.2,(b12_2++[x36.1]))
   else none
  else none
 else
  kont2_0 v4_2 w0_2 b12_2
def Eb (p0:Am):Option (Af × Am) :=
 (DR p0 ({ data:=#[111,110,101] }:ByteArray)).bind fun x6 =>
 (DR x6.2 ({ data:=#[116,119,111] }:ByteArray)).bind fun x8 =>
 (D2 x8.2 2).bind fun x15 =>
 bif x15.1 then
  bif rm ([({ Name:=({ data:=#[119,104,111] }:ByteArray),Kind:=1,List_:=0,Low:=0,High:=0,Widths:=[],Optional:=false }:Az),({ Name:=({ data:=#[115,101,120] }:ByteArray),Kind:=2,List_:=0,Low:=0,High:=0,Widths:=[],Optional:=false }:Az)]).length ([({ Name:=({ data:=#[106,111,98] }:ByteArray),Kind:=2,List_:=1,Low:=0,High:=0,Widths:=[],Optional:=false }:Az)]).length then
   (Bp x15.2 1 3).bind fun x23 =>
   iter (fun rec1 s=>Ec (fun v4_1 w0_1 b12_1=>some (({ Lists:=[x6.1,x8.1],Columns:=b12_1 }:Af),w0_1)) rec1 s.1 s.2.1 s.2.2) AM (x23.1,x23.2,([({ Name:=({ data:=#[119,104,111] }:ByteArray),Kind:=1,List_:=0,Low:=0,High:=0,Widths:=[],Optional:=false }:Az),({ Name:=({ data:=#[115,101,120] }:ByteArray),Kind:=2,List_:=0,Low:=0,High:=0,Widths:=[],Optional:=false }:Az)]++[({ Name:=({ data:=#[106,111,98] }:ByteArray),Kind:=2,List_:=1,Low:=0,High:=0,Widths:=[],Optional:=false }:Az)]))
  else none
 else
  (Bp x15.2 1 3).bind fun x23 =>
  iter (fun rec2 s=>Jc (fun v4_2 w0_2 b12_2=>some (({ Lists:=[x6.1,x8.1],Columns:=b12_2 }:Af),w0_2)) rec2 s.1 s.2.1 s.2.2) AM (x23.1,x23.2,[({ Name:=({ data:=#[119,104,111] }:ByteArray),Kind:=1,List_:=0,Low:=0,High:=0,Widths:=[],Optional:=false }:Az),({ Name:=({ data:=#[115,101,120] }:ByteArray),Kind:=2,List_:=0,Low:=0,High:=0,Widths:=[],Optional:=false }:Az)])
def E7 (p0:Am) (p1:Af) (p2:Int):Option (Int × Am) :=
 (idx p1.Columns p2).bind fun x12 =>
 bif (x12.Kind==1) then
  (Bp p0 1 60).bind fun x19 =>
  some (x19.1,x19.2)
 else
  bif (x12.Kind==2) then
   (Fe p1 p2).bind fun x24 =>
   (Bq p0 ((x24.length:Nat):Int)).bind fun x29 =>
   (idx x24 x29.1).bind fun x30 =>
   some (x30,x29.2)
  else
   bif x12.Optional then
    (D2 p0 4).bind fun x36 =>
    bif x36.1 then
     some ((-1099511627776),x36.2)
    else
     (Bp x36.2 x12.Low x12.High).bind fun x43 =>
     some (x43.1,x43.2)
   else
    (Bp p0 x12.Low x12.High).bind fun x43 =>
    some (x43.1,x43.2)
def FG (p1:Af) (kont1_0:(Int→Am→(List Int)→Option ((List Int) × Am))) (rec1:((Int × Am × (List Int))→Option ((List Int) × Am))) (v10_1:Int) (w0_1:Am) (b5_1:(List Int)):Option ((List Int) × Am) :=
 bif (decide (v10_1 < ((p1.Columns.length:Nat):Int))) then
  (E7 w0_1 p1 v10_1).bind fun x17 =>
  bif rm b5_1.length [x17.1].length then
   rec1 ((IntKind.i64.wrap (v10_1 + 1)),x17.2,(b5_1++[x17.1]))
  else none
 else
  kont1_0 v10_1 w0_1 b5_1
def FT (p0:Am) (p1:Af):Option ((List Int) × Am) :=
 iter (fun rec1 s=>FG p1 (fun v10_1 w0_1 b5_1=>some (b5_1,w0_1)) rec1 s.1 s.2.1 s.2.2) AM (0,p0,[])
def FU (x9:(Af × Am)) (kont1_0:(Int→Am→(List (List Int))→Option (B2 × Am))) (rec1:((Int × Am × (List (List Int)))→Option (B2 × Am))) (v7_1:Int) (w0_1:Am) (c6_2_1:(List (List Int))):Option (B2 × Am) :=
 bif (decide (v7_1 > 0)) then
  (FT w0_1 x9.1).bind fun x24 =>
  (JW c6_2_1 x24.1).bind fun x25 =>
  rec1 ((IntKind.i64.wrap (v7_1 - 1)),x24.2,x25)
 else
  kont1_0 v7_1 w0_1 c6_2_1
def Ee (p0:Am) (p1:Int):Option (B2 × Am) :=
 (Eb p0).bind fun x9 =>
 (Bq x9.2 (IntKind.i64.wrap (p1 + 1))).bind fun x15 =>
 iter (fun rec1 s=>FU x9 (fun v7_1 w0_1 c6_2_1=>some (({ Schema:=x9.1,Rows:=c6_2_1,Gone:=[],Version:=0 }:B2),w0_1)) rec1 s.1 s.2.1 s.2.2) AM (x15.1,x15.2,[])
def Sp (v6_1:Int) (b5_1:(List An)):Option (AZ × (List An)) :=
 some (({ Project:=({ data:=#[97,108,108,95,114,111,119,115] }:ByteArray),Source:=({ data:=#[115,114,99] }:ByteArray),Cohort:=({ Op:=1,Column:=0,Code:=0,Low:=0,High:=0,Kids:=[] }:Ar),Sample:=({ Part:=1,Of:=1,Seed:=0 }:J8),Questions:=[({ Name:=({ data:=#[113] }:ByteArray),Kind:=1,Filter:=({ Op:=1,Column:=0,Code:=0,Low:=0,High:=0,Kids:=[] }:Ar),Dims:=[({ Column:=1,Level:=0 }:An)],Measure:=(-1),Terms:=[],Event:=({ Op:=0,Column:=0,Code:=0,Low:=0,High:=0,Kids:=[] }:Ar) }:Cn)] }:AZ),b5_1)
def KR (p0:Af) (kont1_0:(Int→(List An)→Option (AZ × (List An)))) (rec1:((Int × (List An))→Option (AZ × (List An)))) (v6_1:Int) (b5_1:(List An)):Option (AZ × (List An)) :=
 bif (decide (v6_1 < ((p0.Columns.length:Nat):Int))) then
  (CG p0 v6_1).bind fun x21 =>
  bif rm b5_1.length [({ Column:=v6_1,Level:=x21 }:An)].length then
   rec1 ((IntKind.i64.wrap (v6_1 + 1)),(b5_1++[({ Column:=v6_1,Level:=x21 }:An)]))
  else none
 else
  kont1_0 v6_1 b5_1
def NP (p0:Af):Option (AZ × (List An)) :=
 iter (fun rec1 s=>KR p0 Sp rec1 s.1 s.2) AM (1,[])
def Ed (p0:Am):Option (Int × Am) :=
 (Bq p0 60000).bind fun x4 =>
 (Bq x4.2 60000).bind fun x6 =>
 (Bq x6.2 7).bind fun x9 =>
 some ((IntKind.i64.wrap ((IntKind.i64.wrap (x4.1 * x6.1)) + x9.1)),x9.2)
def E8 (d:Nat) (p0:Am) (p1:Int):Option (B2 × A1 × Am) :=
 (Ee p0 p1).bind fun x13 =>
 (NP x13.1.Schema).bind fun x17 =>
 (Ed x13.2).bind fun x25 =>
 (Jm d x13.1 x17.1 x17.2 x25.1).bind fun x26 =>
 some (x13.1,x26.1,x25.2)
def G7 (p0:Af) (p1:Int) (kont1_0:(Int→(List Int)→Option (List Int))) (rec1:((Int × (List Int))→Option (List Int))) (v10_1:Int) (b5_1:(List Int)):Option (List Int) :=
 bif (decide (v10_1 < ((p0.Columns.length:Nat):Int))) then
  (idx p0.Columns v10_1).bind fun x16 =>
  bif (x16.Kind==p1) then
   bif rm b5_1.length [v10_1].length then
    rec1 ((IntKind.i64.wrap (v10_1 + 1)),(b5_1++[v10_1]))
   else none
  else
   rec1 ((IntKind.i64.wrap (v10_1 + 1)),b5_1)
 else
  kont1_0 v10_1 b5_1
def H8 (p0:Af) (p1:Int):Option (List Int) :=
 iter (fun rec1 s=>G7 p0 p1 (fun v10_1 b5_1=>some b5_1) rec1 s.1 s.2) AM (0,[])
def Dh (p0:Am) (p1:Af):Option (Int × Am) :=
 (H8 p1 3).bind fun x7 =>
 (Bq p0 ((x7.length:Nat):Int)).bind fun x12 =>
 (idx x7 x12.1).bind fun x13 =>
 some (x13,x12.2)
def GB (p0:A1) (kont1_0:(Int→(List Int)→Option (List Int))) (rec1:((Int × (List Int))→Option (List Int))) (v9_1:Int) (b3_1:(List Int)):Option (List Int) :=
 bif (decide (v9_1 < ((p0.Rows.length:Nat):Int))) then
  (idx p0.Rows v9_1).bind fun x11 =>
  (idx x11 0).bind fun x15 =>
  bif rm b3_1.length [x15].length then
   rec1 ((IntKind.i64.wrap (v9_1 + 1)),(b3_1++[x15]))
  else none
 else
  kont1_0 v9_1 b3_1
def HI (p0:A1):Option (List Int) :=
 iter (fun rec1 s=>GB p0 (fun v9_1 b3_1=>some b3_1) rec1 s.1 s.2) AM (0,[])
def EK (d:Nat) :Option Bool :=
 (Lt d ({ Lists:=[],Columns:=[({ Name:=({ data:=#[119,104,111] }:ByteArray),Kind:=1,List_:=0,Low:=0,High:=0,Widths:=[],Optional:=false }:Az)] }:Af) ({ Project:=({ data:=#[112] }:ByteArray),Version:=0,Picks:=[],Rows:=[[2],[5],[9]] }:A1) ([({ Name:=({ data:=#[97] }:ByteArray),Out:=false,Expr:=({ Op:=3,Num:=0,Name:=ByteArray.empty,Column:=0,Columns:=[],Dims:=[],Cond:=({ Op:=1,Column:=0,Code:=0,Low:=0,High:=0,Kids:=[] }:Ar),Event:=({ Op:=0,Column:=0,Code:=0,Low:=0,High:=0,Kids:=[] }:Ar),Kids:=[] }:A2) }:AR),({ Name:=({ data:=#[98] }:ByteArray),Out:=true,Expr:=({ Op:=8,Num:=0,Name:=ByteArray.empty,Column:=0,Columns:=[],Dims:=[],Cond:=({ Op:=0,Column:=0,Code:=0,Low:=0,High:=0,Kids:=[] }:Ar),Event:=({ Op:=0,Column:=0,Code:=0,Low:=0,High:=0,Kids:=[] }:Ar),Kids:=[({ Op:=2,Num:=0,Name:=({ data:=#[97] }:ByteArray),Column:=0,Columns:=[],Dims:=[],Cond:=({ Op:=0,Column:=0,Code:=0,Low:=0,High:=0,Kids:=[] }:Ar),Event:=({ Op:=0,Column:=0,Code:=0,Low:=0,High:=0,Kids:=[] }:Ar),Kids:=[] }:A2),({ Op:=1,Num:=2,Name:=ByteArray.empty,Column:=0,Columns:=[],Dims:=[],Cond:=({ Op:=0,Column:=0,Code:=0,Low:=0,High:=0,Kids:=[] }:Ar),Event:=({ Op:=0,Column:=0,Code:=0,Low:=0,High:=0,Kids:=[] }:Ar),Kids:=[] }:A2)] }:A2) }:AR)])).bind fun x28 =>
 bif (bif (bif (x28.2.2==0) then (x28.2.1==2) else false) then (((x28.1.length:Nat):Int)==2) else false) then
  (idx x28.1 0).bind fun x45 =>
  bif ((x45.Value.Number.Num==3) && ((x45.Value.Number.Den==1) && true)) then
   (idx x28.1 1).bind fun x54 =>
   bif ((x54.Value.Number.Num==6) && ((x54.Value.Number.Den==1) && true)) then
    (idx x28.1 1).bind fun x63 =>
    (FX x63.Value.Lineage [2,5,9]).bind fun x68 =>
    bif x68 then
     (HD x28.1).bind fun x72 =>
     bif (((x72.length:Nat):Int)==1) then
      (HD x28.1).bind fun x78 =>
      (idx x78 0).bind fun x79 =>
      some (x79.Name.toList==({ data:=#[98] }:ByteArray).toList)
     else
      some false
    else
     some false
   else
    some false
  else
   some false
 else
  some false
def BV (j9_1:Int) (x79:(AA × Int)) (d:Nat) (j10_1:Int) (k11_1:(List Int)):Option Bool :=
 bif (j9_1==0) then
  bif (x79.2==18) then
   (EK d).bind fun x137 =>
   some x137
  else
   some false
 else
  (Ri j10_1 j9_1).bind fun x142 =>
  bif (bif (x79.2==0) then ((x79.1.Number.Num==x142.1.Num) && ((x79.1.Number.Den==x142.1.Den) && true)) else false) then
   (FX x79.1.Lineage k11_1).bind fun x157 =>
   bif x157 then
    (EK d).bind fun x160 =>
    some x160
   else
    some false
  else
   some false
def BU (d:Nat) (x27:(B2 × A1 × Am)) (x34:(Int × Am)) (j9_1:Int) (j10_1:Int) (k11_1:(List Int)):Option Bool :=
 (CO d x27.1.Schema x27.2.1 [] ({ Op:=4,Num:=0,Name:=ByteArray.empty,Column:=x34.1,Columns:=[],Dims:=[],Cond:=({ Op:=1,Column:=0,Code:=0,Low:=0,High:=0,Kids:=[] }:Ar),Event:=({ Op:=0,Column:=0,Code:=0,Low:=0,High:=0,Kids:=[] }:Ar),Kids:=[] }:A2)).bind fun x70 =>
 (CO d x27.1.Schema x27.2.1 [] ({ Op:=5,Num:=0,Name:=ByteArray.empty,Column:=x34.1,Columns:=[],Dims:=[],Cond:=({ Op:=1,Column:=0,Code:=0,Low:=0,High:=0,Kids:=[] }:Ar),Event:=({ Op:=0,Column:=0,Code:=0,Low:=0,High:=0,Kids:=[] }:Ar),Kids:=[] }:A2)).bind fun x79 =>
 (CO d x27.1.Schema x27.2.1 [] ({ Op:=7,Num:=0,Name:=ByteArray.empty,Column:=0,Columns:=[],Dims:=[],Cond:=({ Op:=0,Column:=0,Code:=0,Low:=0,High:=0,Kids:=[] }:Ar),Event:=({ Op:=0,Column:=0,Code:=0,Low:=0,High:=0,Kids:=[] }:Ar),Kids:=[({ Op:=4,Num:=0,Name:=ByteArray.empty,Column:=x34.1,Columns:=[],Dims:=[],Cond:=({ Op:=1,Column:=0,Code:=0,Low:=0,High:=0,Kids:=[] }:Ar),Event:=({ Op:=0,Column:=0,Code:=0,Low:=0,High:=0,Kids:=[] }:Ar),Kids:=[] }:A2),({ Op:=3,Num:=0,Name:=ByteArray.empty,Column:=0,Columns:=[],Dims:=[],Cond:=({ Op:=1,Column:=0,Code:=0,Low:=0,High:=0,Kids:=[] }:Ar),Event:=({ Op:=0,Column:=0,Code:=0,Low:=0,High:=0,Kids:=[] }:Ar),Kids:=[] }:A2)] }:A2)).bind fun x90 =>
 bif (bif (x70.2 != 0) then true else (x90.2 != 0)) then
  some false
 else
  bif (!((x70.1.Number.Num==j10_1) && ((x70.1.Number.Den==1) && true))) then
   some false
  else
   (FX x70.1.Lineage k11_1).bind fun x110 =>
   bif (!x110) then
    some false
   else
    bif (!((x90.1.Number.Num==(IntKind.i64.wrap (j10_1 - ((x27.2.1.Rows.length:Nat):Int)))) && ((x90.1.Number.Den==1) && true))) then
     some false
    else
     (HI x27.2.1).bind fun x128 =>
     (FX x90.1.Lineage x128).bind fun x129 =>
     bif (!x129) then
      some false
     else
      BV j9_1 x79 d j10_1 k11_1
def C4 (x27:(B2 × A1 × Am)) (x34:(Int × Am)) (kont1_0:(Int→Int→Int→(List Int)→Option Bool)) (rec1:((Int × Int × Int × (List Int))→Option Bool)) (v9_1:Int) (v10_1:Int) (v39_1:Int) (b11_1:(List Int)):Option Bool :=
 bif (decide (v39_1 < ((x27.2.1.Rows.length:Nat):Int))) then
  (idx x27.2.1.Rows v39_1).bind fun x41 =>
  (idx x41 x34.1).bind fun x45 =>
  bif (x45 != (-1099511627776)) then
   (idx x41 x34.1).bind fun x53 =>
   (idx x41 0).bind fun x58 =>
   bif rm b11_1.length [x58].length then
    rec1 ((IntKind.i64.wrap (v9_1 + 1)),(IntKind.i64.wrap (v10_1 + x53)),(IntKind.i64.wrap (v39_1 + 1)),(b11_1++[x58]))
   else none
  else
   rec1 (v9_1,v10_1,(IntKind.i64.wrap (v39_1 + 1)),b11_1)
 else
  kont1_0 v9_1 v10_1 v39_1 b11_1
def Dn (d:Nat) (p0:(List Int)):Option Bool :=
 (NQ p0).bind fun x24 =>
 (E8 d x24 10).bind fun x27 =>
 (Dh x27.2.2 x27.1.Schema).bind fun x34 =>
 iter (fun rec1 s=>C4 x27 x34 (fun v9_1 v10_1 v39_1 b11_1=>BU d x27 x34 v9_1 v10_1 b11_1) rec1 s.1 s.2.1 s.2.2.1 s.2.2.2) AM (0,0,0,[])
end Go.Proofs.YtjgeigjjfcnojaaGreatDoor.P
set_option linter.unusedSimpArgs false
namespace Go.Proofs.YtjgeigjjfcnojaaGreatDoor.P
open Go.Abs Go.Proofs
set_option linter.unusedVariables false
theorem Cj {p:Prop} (h:p:=by first | rfl | simp only [List.length_map,cond_true,cond_false]):p:=h
theorem Jo {p:Prop} (h:p:=by first | rfl | (simp only [List.length_map]; done) | (simp only [List.length_map]; rfl)):p:=h
theorem eN {p:Prop} (h:p:=by repeat (first | exact trivial | refine And.intro (by first | with_reducible rfl | rfl | exact .inl rfl | exact .inr rfl | (simp only [List.length_map]; done) | (simp only [List.length_map]; rfl) | (simp only [List.map_append,List.map_cons,List.map_nil]; rfl)) ?_)):p:=h
theorem ep {p:Prop} (h:p:=by repeat (first | exact trivial | refine And.intro (by first | with_reducible rfl | rfl | exact .inl rfl | exact .inr rfl | (simp only [List.length_map]; done) | (simp only [List.length_map]; rfl) | (simp only [Ac,Aa,Ad,Ab,Ah,List.map_cons,List.map_nil,List.length_map]; done) | (simp only [Ac,Aa,Ad,Ab,Ah,List.map_cons,List.map_nil,List.length_map]; rfl) | (simp only [List.map_append,List.map_cons,List.map_nil]; rfl)) ?_)):p:=h
theorem AE {ρ:Type} {b b':Bool} {x y:Prop} {X Y:Option ρ} {R:ρ} (h:(bif b' then X else Y) = some R) (h1:X = some R→x) (h2:Y = some R→y) (e:b = b':=by first | rfl | simp only [List.length_map,cond_true,cond_false]):Bool.rec y x b:=Rq h e h1 h2
theorem AF {α ρ:Type} {m:Option α} {G:α→Option ρ} {R:ρ} {P:Program} {f:FuncId} {nils:List Nat} {args margs:List AV} {K:AV→Prop} {KM:List AV→AV→Prop} {r:α→AV} (h:m.bind G = some R) (c:∀ x,m = some x→Aj P f args (r x)) (k:∀ x,G x = some R→K (r x)):Hu P f nils args K margs KM:=by
 obtain ⟨x,hx,h⟩:=A8 h
 exact Av (c x hx) (k x h)
theorem SK {α ρ:Type} {m:Option α} {G:α→Option ρ} {R:ρ} {P:Program} {f:FuncId} {nils:List Nat} {args margs:List AV} {K:AV→Prop} {KM:List AV→AV→Prop} {outs:α→List AV} {r:α→AV} (h:m.bind G = some R) (c:∀ x,m = some x→CZ P f margs (outs x) (r x)) (k:∀ x,G x = some R→KM (outs x) (r x)):Hu P f nils args K margs KM:=by
 obtain ⟨x,hx,h⟩:=A8 h
 exact E5 (c x hx) (k x h)
theorem Bd {α ρ:Type} {xs:List α} {i j:Int} {f:α→D} {K:D→Prop} {G:α→Option ρ} {R:ρ} (h:(idx xs i).bind G = some R) (k:∀ x,idx xs i = some x→G x = some R→K (f x)) (e:j = i:=by first | rfl | simp only [List.length_map,cond_true,cond_false]):At (xs.map f) j K:=eo h e k
theorem BI {ι:Type} {Inv:ι→AS} {μ:ι→Nat} {S:AS} {m:Nat} (j:ι) (h:Le S (Inv j)) (k:μ j < m:=by exact Nat.lt_succ_self _):∃ j,Le S (Inv j)∧μ j < m:=⟨j,h,k⟩
theorem BF {P:Program} {f:FuncId} {fn:Func} {args:List AV} {r:AV} (hf:P.funcs[f]? = some fn) (hr:d7 P fn args r) (hname:(fn.name == "runtime.NumGoroutine") = false:=by kernel_rfl):Aj P f args r:=BS hf hname hr
theorem DO {ρ:Type} {b b':Bool} {x y:Prop} {E F R:ρ} (h:(bif b' then some E else some F) = some R) (h1:some E = some R→x:=by intro h; cases h; (conv=>whnf); exact ⟨by first | rfl | (simp only [List.length_map]; done) | (simp only [List.length_map]; rfl)⟩) (h2:some F = some R→y:=by intro h; cases h; (conv=>whnf); exact ⟨by first | rfl | (simp only [List.length_map]; done) | (simp only [List.length_map]; rfl)⟩) (e:b = b':=by first | rfl | simp only [List.length_map,cond_true,cond_false]):Bool.rec y x b:=Rq h e h1 h2
theorem AY {ρ:Type} {b b':Bool} {x y:Prop} {E R:ρ} {Y:Option ρ} (h:(bif b' then Y else some E) = some R) (h2:Y = some R→x) (h1:some E = some R→y:=by intro h; cases h; (conv=>whnf); exact ⟨by first | rfl | (simp only [List.length_map]; done) | (simp only [List.length_map]; rfl)⟩) (e:b = b':=by first | rfl | simp only [List.length_map,cond_true,cond_false]):Bool.rec y x b:=Rq h e h2 h1
theorem Ap {ρ:Type} {b b':Bool} {x y:Prop} {E R:ρ} {Y:Option ρ} (h:(bif b' then some E else Y) = some R) (h2:Y = some R→y) (h1:some E = some R→x:=by intro h; cases h; (conv=>whnf); exact ⟨by first | rfl | (simp only [List.length_map]; done) | (simp only [List.length_map]; rfl)⟩) (e:b = b':=by first | rfl | simp only [List.length_map,cond_true,cond_false]):Bool.rec y x b:=Rq h e h1 h2
theorem Ak {S S':AS} (h:EV S' (fun S'=>Le S S'):=by (conv=>whnf); repeat (first | exact trivial | refine And.intro (by first | with_reducible rfl | rfl | exact .inl rfl | exact .inr rfl | (simp only [List.length_map]; done) | (simp only [List.length_map]; rfl) | (simp only [List.map_append,List.map_cons,List.map_nil]; rfl)) ?_)):Le S S':=QM h
theorem A4 {S S':AS} (h:EV S' (fun S'=>Le S S'):=by (conv=>whnf); repeat (first | exact trivial | refine And.intro (by first | with_reducible rfl | rfl | exact .inl rfl | exact .inr rfl | (simp only [List.length_map]; done) | (simp only [List.length_map]; rfl) | (simp only [Ac,Aa,Ad,Ab,Ah,List.map_cons,List.map_nil,List.length_map]; done) | (simp only [Ac,Aa,Ad,Ab,Ah,List.map_cons,List.map_nil,List.length_map]; rfl) | (simp only [List.map_append,List.map_cons,List.map_nil]; rfl)) ?_)):Le S S':=QM h
theorem Tl {S S':AS} (h:EV S' (fun S'=>Le S S'):=by (conv=>whnf); repeat (first | exact trivial | refine And.intro (by first | with_reducible rfl | rfl | exact .inl rfl | exact .inr rfl | (simp only [List.length_map]; done) | (simp only [List.length_map]; rfl) | (simp only [Zy]; rfl) | (simp only [List.map_append,List.map_cons,List.map_nil]; rfl)) ?_)):Le S S':=QM h
theorem A5 {ρ:Type} {E R:ρ} {x:Prop} (h:some E = some R) (k:some E = some R→x:=by intro h; cases h; (conv=>whnf); exact ⟨by first | rfl | (simp only [List.length_map]; done) | (simp only [List.length_map]; rfl)⟩):x:=k h
theorem z5 {σ ρ:Type} {body:(σ→Option ρ)→σ→Option ρ} {n:Nat} {s0:σ} {R:ρ} {S:AS} {W:((Exit→AS→Prop)→AS→Prop)} {Q:Exit→AS→Prop} (h:iter body n s0 = some R) (I:σ→AS) (hl:Le S (I s0)) (k:∀ (Φ:Nat→σ→Option ρ) (n:Nat) (s:σ),body (Φ n) s = some R→EV (I s) (W (fun e S=>match e with | .normal=>∃ j:{p:Nat × σ // Φ p.1 p.2 = some R},Le S (I j.1.2)∧j.1.1 < n + 1 | e=>Q e S))):Qt S W Q:=by
 obtain ⟨Φ,i,h⟩:=A9 h
 exact loop {p:Nat × σ // Φ p.1 p.2 = some R} (fun p=>I p.1.2) (fun p=>p.1.1) ⟨(n,s0),h⟩ hl fun ⟨⟨a,b⟩,h⟩=>by
  obtain ⟨a,rfl,h⟩:=i _ _ h
  exact k Φ a b h
theorem z6 {A B:Prop} (b:B) (a:A:=by (simp only [List.length_map]; exact Bb hr (of_decide_eq_true (by kernel_rfl)) (.inr (by kernel_rfl)))):Iv A B:=⟨a,b⟩
theorem z7 {A B:Prop} (b:B) (a:A:=by first | (intro x hx y hy; obtain ⟨n,_,rfl⟩:=List.mem_map.1 hx; simp [D.cells] at hy; subst hy; rfl) | exact fun x hx=>absurd hx (by simp)):Iv A B:=⟨a,b⟩
theorem z8 {A B:Prop} (b:B) (a:A:=by first | exact S5 hr (of_decide_eq_true (by kernel_rfl)) | (simp only [List.length_map]; exact S5 hr (of_decide_eq_true (by kernel_rfl)))):Iv A B:=⟨a,b⟩
theorem z9 {A B:Prop} (b:B) (a:A:=by first | exact of_decide_eq_true hr | (simp only [List.length_map]; exact of_decide_eq_true hr)):Iv A B:=⟨a,b⟩
theorem z10 {A B:Prop} (b:B) (a:A:=by first | rfl | (simp only [List.length_map]; done) | (simp only [List.length_map]; rfl)):A∧B:=⟨a,b⟩
theorem z11 {A B:Prop} (b:B) (a:A:=by exact of_decide_eq_true hr):Iv A B:=⟨a,b⟩
theorem z12 {A B:Prop} (b:B) (a:A:=by exact ⟨by decide +kernel,by kernel_rfl⟩):Iv A B:=⟨a,b⟩
theorem z13 {A B:Prop} (b:B) (a:A:=by exact ⟨by kernel_rfl,by kernel_rfl⟩):Iv A B:=⟨a,b⟩
theorem z14 {A B:Prop} (b:B) (a:A:=by exact ⟨rfl,rfl,by first | rfl | (simp only [List.length_map]; done) | (simp only [List.length_map]; rfl) | (simp only [Ac,Aa,Ad,Ab,Ah,List.map_cons,List.map_nil,List.length_map]; done) | (simp only [Ac,Aa,Ad,Ab,Ah,List.map_cons,List.map_nil,List.length_map]; rfl)⟩):Iv A B:=⟨a,b⟩
theorem z15 {p:Prop} (h:p:=by exact ⟨by first | rfl | (simp only [List.length_map]; done) | (simp only [List.length_map]; rfl) | (simp only [Ac,Aa,Ad,Ab,Ah,List.map_cons,List.map_nil,List.length_map]; done) | (simp only [Ac,Aa,Ad,Ab,Ah,List.map_cons,List.map_nil,List.length_map]; rfl)⟩):p:=h
theorem z16 {p:Prop} (h:p:=by (conv=>whnf); obtain rfl:=Option.some.inj h; exact z15):p:=h
theorem z17 {p:Prop} (h:p:=by refine Ap h fun h=>?_; (conv=>whnf); exact BI ⟨(_,_),h⟩ Ak):p:=h
theorem z18 {p:Prop} (h:p:=by obtain rfl:=Option.some.inj h; refine ⟨.inl ?_⟩; (conv=>whnf); exact ⟨Jo⟩):p:=h
theorem z19 {p:Prop} (h:p:=by obtain rfl:=Option.some.inj h; refine z10 ?_; (conv=>whnf); exact ⟨Jo⟩):p:=h
theorem z20 {p:Prop} (h:p:=by obtain rfl:=Option.some.inj h; refine z14 ?_; (conv=>whnf); exact z15):p:=h
theorem z21 {p:Prop} (h:p:=by (conv=>whnf); exact BI ⟨(_,(_,_)),h⟩ Ak):p:=h
theorem z22 {p:Prop} (h:p:=by obtain rfl:=Option.some.inj h; exact z15):p:=h
theorem z23 {p:Prop} (h:p:=by obtain rfl:=Option.some.inj h; refine ⟨.inl ?_⟩; (conv=>whnf); exact z15):p:=h
theorem z24 {p:Prop} (h:p:=by (conv=>whnf); exact BI ⟨(_,(_,_,_)),h⟩ Ak):p:=h
theorem z25 {p:Prop} (h:p:=by (conv=>whnf); exact BI ⟨(_,(_,_)),h⟩ A4):p:=h
theorem z26 {p:Prop} (h:p:=by refine (by intros; rename_i h; cases h)):p:=h
theorem z27 {p:Prop} (h:p:=by obtain ⟨x47,hx47,h⟩:=A8 h; refine Tx (DI _ _ _ _ hx47) ?_; (conv=>whnf); exact ⟨⟨_,h⟩,A4⟩):p:=h
theorem z28 {p:Prop} (h:p:=by obtain ⟨hr,h⟩:=Dm h; refine z6 ?_; (try rw [M1]); exact z21):p:=h
theorem z29 {p:Prop} (h:p:=by (conv=>whnf); obtain ⟨x59,hx59,h⟩:=A8 h; refine Av (AQ _ _ _ _ _ (fun a0 _ h=>ih_program_right_c1 a0 _ _ h) hx59) ?_; exact z16):p:=h
theorem z30 {p:Prop} (h:p:=by (conv=>whnf); exact z18):p:=h
theorem z31 {p:Prop} (h:p:=by refine Ap h fun h=>?_; (conv=>whnf); exact ⟨⟨(),h⟩,Ak⟩):p:=h
theorem z32 {p:Prop} (h:p:=by refine ⟨.inl ?_⟩; (conv=>whnf); exact ⟨rfl⟩):p:=h
theorem z33 {p:Prop} (h:p:=by (conv=>whnf); rw [Gx]; refine AF h (fun _=>h_p1 _ _) fun x16 h=>?_; exact z17):p:=h
theorem z34 {p:Prop} (h:p:=by (conv=>whnf); exact z20):p:=h
theorem z35 {p:Prop} (h:p:=by (conv=>whnf); exact z19):p:=h
theorem z36 {p:Prop} (h:p:=by (conv=>whnf); exact ⟨⟨_,h⟩,A4⟩):p:=h
theorem z37 {p:Prop} (h:p:=by (conv=>whnf); obtain ⟨x63,hx63,h⟩:=A8 h; refine Av (Cy _ _ _ hx63) ?_; exact z16):p:=h
theorem z38 {p:Prop} (h:p:=by (conv=>whnf); obtain ⟨x63,hx63,h⟩:=A8 h; refine Av (Cy _ _ _ hx63) ?_; exact z34):p:=h
theorem z39 {p:Prop} (h:p:=by (conv=>whnf); exact ⟨⟨(_,_,_,_,_),h⟩,A4⟩):p:=h
theorem z40 {p:Prop} (h:p:=by (conv=>whnf); exact BI ⟨(_,_),h⟩ A4):p:=h
theorem z41 {p:Prop} (h:p:=by obtain ⟨x71,hx71,h⟩:=A8 h; refine Av (CQ _ _ hx71) ?_; exact z16):p:=h
theorem z42 {p:Prop} (h:p:=by (conv=>whnf); refine z6 ?_; (conv=>whnf); exact z32):p:=h
theorem z43 {p:Prop} (h:p:=by exact BI ⟨(_,_),h⟩ Ak):p:=h
theorem z44 {p:Prop} (h:p:=by (conv=>whnf); obtain ⟨hr,h⟩:=Dm h; refine z11 ?_; exact DO h):p:=h
theorem z45 {p:Prop} (h:p:=by obtain rfl:=Option.some.inj h; refine ⟨⟨rfl,rfl,by first | rfl | (simp only [List.length_map]; done) | (simp only [List.length_map]; rfl)⟩,?_⟩; (conv=>whnf); exact ⟨Jo⟩):p:=h
theorem z46 {p:Prop} (h:p:=by obtain ⟨hr,h⟩:=Dm h; refine z6 ?_; (try rw [Df]); exact z24):p:=h
theorem z47 {p:Prop} (h:p:=by obtain ⟨hr,h⟩:=Dm h; refine z11 ?_; exact z17):p:=h
theorem z48 {p:Prop} (h:p:=by (conv=>whnf); obtain ⟨x29,hx29,h⟩:=A8 h; refine Av (Cc _ _ _ hx29) ?_; exact z16):p:=h
theorem z49 {p:Prop} (h:p:=by (conv=>whnf); obtain ⟨x53,hx53,h⟩:=A8 h; (first | refine E5 (Ef _ _ _ _ hx53) ?_ | (simp only [List.length_map]; refine E5 (Ef _ _ _ _ hx53) ?_)); exact z34):p:=h
theorem z50 {p:Prop} (h:p:=by (conv=>whnf); obtain ⟨x49,hx49,h⟩:=A8 h; refine Av (J2 _ _ hx49) ?_; exact DO h):p:=h
theorem z51 {p:Prop} (h:p:=by (conv=>whnf); exact ⟨⟨(),h⟩,Ak⟩):p:=h
theorem z52 {p:Prop} (h:p:=by (conv=>whnf); (cases h)):p:=h
theorem z53 {p:Prop} (h:p:=by obtain ⟨x18,hx18,h⟩:=A8 h; refine Av (AQ _ _ _ _ _ (fun a0 _ h=>ih_program_named_c1 a0 _ _ _ _ h_p1 h) hx18) ?_; exact z16):p:=h
end Go.Proofs.YtjgeigjjfcnojaaGreatDoor.P
