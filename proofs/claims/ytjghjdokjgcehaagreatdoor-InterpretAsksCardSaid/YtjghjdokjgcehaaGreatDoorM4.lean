/- M4 -/
import Derived.Test.YtjghjdokjgcehaaGreatDoorM3
import Derived.Lib.ItoaNum
import Derived.Lib.SlicesCompact
set_option linter.unusedVariables false
set_option linter.unusedSimpArgs false
namespace Go.Proofs.YtjghjdokjgcehaaGreatDoor.P
open Go.Abs Go.Proofs
structure DG where
 Name:ByteArray
 Parent:Int
structure Ay where
 Name:ByteArray
 Codes:(List DG)
structure A4 where
 Name:ByteArray
 Kind:Int
 List_:Int
 Low:Int
 High:Int
 Widths:(List Int)
 Optional:Bool
structure Ae where
 Lists:(List Ay)
 Columns:(List A4)
structure Aw where
 Column:Int
 Level:Int
structure Bn where
 Project:ByteArray
 Version:Int
 Picks:(List Aw)
 Rows:(List (List Int))
structure Aj where
 Op:Int
 Column:Int
 Code:Int
 Low:Int
 High:Int
 Kids:(List Aj)
structure Av where
 Op:Int
 Num:Int
 Name:ByteArray
 Column:Int
 Columns:(List Int)
 Dims:(List Aw)
 Cond:Aj
 Event:Aj
 Kids:(List Av)
structure Ax where
 Name:ByteArray
 Out:Bool
 Expr:Av
structure Bu where
 f_num:Bool
 f_name:Bool
 f_column:Bool
 f_columns:Bool
 f_dims:Bool
 f_cond:Bool
 f_event:Bool
structure AX where
 Num:Int
 Den:Int
structure F7 where
 Codes:(List Int)
 Count:Int
 Sum:Int
 Amount:Int
 First:Int
 Second:Int
 Rows:(List Int)
structure E5 where
 Dims:(List Aw)
 Measure:Int
 Cells:(List F7)
structure E4 where
 Measure:Int
 Terms:(List Int)
 Coefs:(List AX)
 Residual:AX
 Total:AX
 Count:Int
 Free:Int
structure HD where
 Time:Int
 AtRisk:Int
 Events:Int
 Left:Int
 Survive:AX
structure XS where
 Low:Int
 Count:Int
structure LK where
 Count:Int
 Least:Int
 Lower:Int
 Middle:Int
 Upper:Int
 Greatest:Int
structure Bd where
 Kind:Int
 Number:AX
 Table:E5
 Model:E4
 Curve:(List HD)
 Hist:(List XS)
 Box:LK
 Lineage:(List Int)
structure AR where
 Name:ByteArray
 Out:Bool
 Value:Bd
structure Pm where
 f_s:Ae
 f_x:Bn
structure AK where
 f_plan:Pm
 f_before:(List AR)
structure Ag where
 f_l:(List Int)
 f_at:Int
structure Az where
 Name:ByteArray
 Kind:Int
 Filter:Aj
 Dims:(List Aw)
 Measure:Int
 Terms:(List Int)
 Event:Aj
structure OJ where
 Part:Int
 Of:Int
 Seed:Int
structure A3 where
 Project:ByteArray
 Source:ByteArray
 Cohort:Aj
 Sample:OJ
 Questions:(List Az)
def By (x:DG):D:=.agg [(.str x.Name),(.int .i64 x.Parent)]
theorem Uz (xs:List DG) (a0:ByteArray) (a1:Int):xs.map By++[D.agg [(.str a0),(.int .i64 a1)]] = (xs++[({ Name:=a0,Parent:=a1 }:DG)]).map By:=by simp [By,Ah]
def Af (x:Ay):D:=.agg [(.str x.Name),(Ah 2 By x.Codes)]
def Ai (x:A4):D:=.agg [(.str x.Name),(.int .i64 x.Kind),(.int .i64 x.List_),(.int .i64 x.Low),(.int .i64 x.High),(Ah 1 (D.int .i64) x.Widths),(.bool x.Optional)]
theorem No (xs:List A4) (a0:ByteArray) (a1:Int) (a2:Int) (a3:Int) (a4:Int) (a5:(List Int)) (a6:Bool):xs.map Ai++[D.agg [(.str a0),(.int .i64 a1),(.int .i64 a2),(.int .i64 a3),(.int .i64 a4),(D.list 1 (List.map (D.int .i64) a5)),(.bool a6)]] = (xs++[({ Name:=a0,Kind:=a1,List_:=a2,Low:=a3,High:=a4,Widths:=a5,Optional:=a6 }:A4)]).map Ai:=by simp [Ai,Ah]
def Au (x:Ae):D:=.agg [(Ah 2 Af x.Lists),(Ah 7 Ai x.Columns)]
def Ak (x:Aw):D:=.agg [(.int .i64 x.Column),(.int .i64 x.Level)]
theorem HT (xs:List Aw) (a0:Int) (a1:Int):xs.map Ak++[D.agg [(.int .i64 a0),(.int .i64 a1)]] = (xs++[({ Column:=a0,Level:=a1 }:Aw)]).map Ak:=by simp [Ak,Ah]
def G8 (x:Bn):D:=.agg [(.str x.Project),(.int .i64 x.Version),(Ah 2 Ak x.Picks),(Ah 1 (Ah 1 (D.int .i64)) x.Rows)]
mutual
def Ap:Aj→D
 | ⟨Op,Column,Code,Low,High,Kids⟩=>.agg [(.int .i64 Op),(.int .i64 Column),(.int .i64 Code),(.int .i64 Low),(.int .i64 High),(.list 6 (Mo Kids))]
def Mo:List Aj→List D
 | []=>[]
 | x :: r=>Ap x :: Mo r
end
theorem QC:∀ l:List Aj,Mo l = l.map Ap
 | []=>by simp [Mo]
 | x :: r=>by simp [Mo,QC r]
def Ad (x:Aj):D:=.agg [(.int .i64 x.Op),(.int .i64 x.Column),(.int .i64 x.Code),(.int .i64 x.Low),(.int .i64 x.High),(Ah 6 Ap x.Kids)]
theorem R6 (x:Aj):({ Op:=x.Op,Column:=x.Column,Code:=x.Code,Low:=x.Low,High:=x.High,Kids:=x.Kids }:Aj) = x:=by cases x; rfl
theorem Aa (x:Aj):Ap x = Ad x:=by
 obtain ⟨Op,Column,Code,Low,High,Kids⟩:=x
 simp only [Ap,QC]
 rfl
theorem YG (xs:List Aj) (a0:Int) (a1:Int) (a2:Int) (a3:Int) (a4:Int) (a5:(List Aj)):xs.map Ap++[D.agg [(.int .i64 a0),(.int .i64 a1),(.int .i64 a2),(.int .i64 a3),(.int .i64 a4),(D.list 6 (List.map Ap a5))]] = (xs++[({ Op:=a0,Column:=a1,Code:=a2,Low:=a3,High:=a4,Kids:=a5 }:Aj)]).map Ap:=by simp [Aa,Ad,Ah]
mutual
def AP:Av→D
 | ⟨Op,Num,Name,Column,Columns,Dims,Cond,Event,Kids⟩=>.agg [(.int .i64 Op),(.int .i64 Num),(.str Name),(.int .i64 Column),(Ah 1 (D.int .i64) Columns),(Ah 2 Ak Dims),(.int .i64 Cond.Op),(.int .i64 Cond.Column),(.int .i64 Cond.Code),(.int .i64 Cond.Low),(.int .i64 Cond.High),(Ah 6 Ap Cond.Kids),(.int .i64 Event.Op),(.int .i64 Event.Column),(.int .i64 Event.Code),(.int .i64 Event.Low),(.int .i64 Event.High),(Ah 6 Ap Event.Kids),(.list 19 (Mp Kids))]
def Mp:List Av→List D
 | []=>[]
 | x :: r=>AP x :: Mp r
end
theorem QD:∀ l:List Av,Mp l = l.map AP
 | []=>by simp [Mp]
 | x :: r=>by simp [Mp,QD r]
def Ac (x:Av):D:=.agg [(.int .i64 x.Op),(.int .i64 x.Num),(.str x.Name),(.int .i64 x.Column),(Ah 1 (D.int .i64) x.Columns),(Ah 2 Ak x.Dims),(.int .i64 x.Cond.Op),(.int .i64 x.Cond.Column),(.int .i64 x.Cond.Code),(.int .i64 x.Cond.Low),(.int .i64 x.Cond.High),(Ah 6 Ap x.Cond.Kids),(.int .i64 x.Event.Op),(.int .i64 x.Event.Column),(.int .i64 x.Event.Code),(.int .i64 x.Event.Low),(.int .i64 x.Event.High),(Ah 6 Ap x.Event.Kids),(Ah 19 AP x.Kids)]
theorem ZM (x:Av):({ Op:=x.Op,Num:=x.Num,Name:=x.Name,Column:=x.Column,Columns:=x.Columns,Dims:=x.Dims,Cond:=x.Cond,Event:=x.Event,Kids:=x.Kids }:Av) = x:=by cases x; rfl
theorem Ab (x:Av):AP x = Ac x:=by
 obtain ⟨Op,Num,Name,Column,Columns,Dims,Cond,Event,Kids⟩:=x
 simp only [AP,QD]
 rfl
def A5 (x:Ax):D:=.agg [(.str x.Name),(.bool x.Out),(.int .i64 x.Expr.Op),(.int .i64 x.Expr.Num),(.str x.Expr.Name),(.int .i64 x.Expr.Column),(Ah 1 (D.int .i64) x.Expr.Columns),(Ah 2 Ak x.Expr.Dims),(.int .i64 x.Expr.Cond.Op),(.int .i64 x.Expr.Cond.Column),(.int .i64 x.Expr.Cond.Code),(.int .i64 x.Expr.Cond.Low),(.int .i64 x.Expr.Cond.High),(Ah 6 Ap x.Expr.Cond.Kids),(.int .i64 x.Expr.Event.Op),(.int .i64 x.Expr.Event.Column),(.int .i64 x.Expr.Event.Code),(.int .i64 x.Expr.Event.Low),(.int .i64 x.Expr.Event.High),(Ah 6 Ap x.Expr.Event.Kids),(Ah 19 AP x.Expr.Kids)]
theorem EB (xs:List Ax) (a0:ByteArray) (a1:Bool) (a2:Int) (a3:Int) (a4:ByteArray) (a5:Int) (a6:(List Int)) (a7:(List Aw)) (a8:Int) (a9:Int) (a10:Int) (a11:Int) (a12:Int) (a13:(List Aj)) (a14:Int) (a15:Int) (a16:Int) (a17:Int) (a18:Int) (a19:(List Aj)) (a20:(List Av)):xs.map A5++[D.agg [(.str a0),(.bool a1),(.int .i64 a2),(.int .i64 a3),(.str a4),(.int .i64 a5),(D.list 1 (List.map (D.int .i64) a6)),(D.list 2 (List.map Ak a7)),(.int .i64 a8),(.int .i64 a9),(.int .i64 a10),(.int .i64 a11),(.int .i64 a12),(D.list 6 (List.map Ap a13)),(.int .i64 a14),(.int .i64 a15),(.int .i64 a16),(.int .i64 a17),(.int .i64 a18),(D.list 6 (List.map Ap a19)),(D.list 19 (List.map AP a20))]] = (xs++[({ Name:=a0,Out:=a1,Expr:=({ Op:=a2,Num:=a3,Name:=a4,Column:=a5,Columns:=a6,Dims:=a7,Cond:=({ Op:=a8,Column:=a9,Code:=a10,Low:=a11,High:=a12,Kids:=a13 }:Aj),Event:=({ Op:=a14,Column:=a15,Code:=a16,Low:=a17,High:=a18,Kids:=a19 }:Aj),Kids:=a20 }:Av) }:Ax)]).map A5:=by simp [A5,Ah]
def NV (x:Bu):D:=.agg [(.bool x.f_num),(.bool x.f_name),(.bool x.f_column),(.bool x.f_columns),(.bool x.f_dims),(.bool x.f_cond),(.bool x.f_event)]
def CQ (x:AX):D:=.agg [(.int .i64 x.Num),(.int .i64 x.Den)]
def Du (x:F7):D:=.agg [(Ah 1 (D.int .i64) x.Codes),(.int .i64 x.Count),(.int .i64 x.Sum),(.int .i64 x.Amount),(.int .i64 x.First),(.int .i64 x.Second),(Ah 1 (D.int .i64) x.Rows)]
def Gk (x:HD):D:=.agg [(.int .i64 x.Time),(.int .i64 x.AtRisk),(.int .i64 x.Events),(.int .i64 x.Left),(.int .i64 x.Survive.Num),(.int .i64 x.Survive.Den)]
def ON (x:XS):D:=.agg [(.int .i64 x.Low),(.int .i64 x.Count)]
def Ej (x:Bd):D:=.agg [(.int .i64 x.Kind),(.int .i64 x.Number.Num),(.int .i64 x.Number.Den),(Ah 2 Ak x.Table.Dims),(.int .i64 x.Table.Measure),(Ah 7 Du x.Table.Cells),(.int .i64 x.Model.Measure),(Ah 1 (D.int .i64) x.Model.Terms),(Ah 2 CQ x.Model.Coefs),(.int .i64 x.Model.Residual.Num),(.int .i64 x.Model.Residual.Den),(.int .i64 x.Model.Total.Num),(.int .i64 x.Model.Total.Den),(.int .i64 x.Model.Count),(.int .i64 x.Model.Free),(Ah 6 Gk x.Curve),(Ah 2 ON x.Hist),(.int .i64 x.Box.Count),(.int .i64 x.Box.Least),(.int .i64 x.Box.Lower),(.int .i64 x.Box.Middle),(.int .i64 x.Box.Upper),(.int .i64 x.Box.Greatest),(Ah 1 (D.int .i64) x.Lineage)]
def A7 (x:AR):D:=.agg [(.str x.Name),(.bool x.Out),(.int .i64 x.Value.Kind),(.int .i64 x.Value.Number.Num),(.int .i64 x.Value.Number.Den),(Ah 2 Ak x.Value.Table.Dims),(.int .i64 x.Value.Table.Measure),(Ah 7 Du x.Value.Table.Cells),(.int .i64 x.Value.Model.Measure),(Ah 1 (D.int .i64) x.Value.Model.Terms),(Ah 2 CQ x.Value.Model.Coefs),(.int .i64 x.Value.Model.Residual.Num),(.int .i64 x.Value.Model.Residual.Den),(.int .i64 x.Value.Model.Total.Num),(.int .i64 x.Value.Model.Total.Den),(.int .i64 x.Value.Model.Count),(.int .i64 x.Value.Model.Free),(Ah 6 Gk x.Value.Curve),(Ah 2 ON x.Value.Hist),(.int .i64 x.Value.Box.Count),(.int .i64 x.Value.Box.Least),(.int .i64 x.Value.Box.Lower),(.int .i64 x.Value.Box.Middle),(.int .i64 x.Value.Box.Upper),(.int .i64 x.Value.Box.Greatest),(Ah 1 (D.int .i64) x.Value.Lineage)]
theorem Ma (xs:List AR) (a0:ByteArray) (a1:Bool) (a2:Int) (a3:Int) (a4:Int) (a5:(List Aw)) (a6:Int) (a7:(List F7)) (a8:Int) (a9:(List Int)) (a10:(List AX)) (a11:Int) (a12:Int) (a13:Int) (a14:Int) (a15:Int) (a16:Int) (a17:(List HD)) (a18:(List XS)) (a19:Int) (a20:Int) (a21:Int) (a22:Int) (a23:Int) (a24:Int) (a25:(List Int)):xs.map A7++[D.agg [(.str a0),(.bool a1),(.int .i64 a2),(.int .i64 a3),(.int .i64 a4),(D.list 2 (List.map Ak a5)),(.int .i64 a6),(D.list 7 (List.map Du a7)),(.int .i64 a8),(D.list 1 (List.map (D.int .i64) a9)),(D.list 2 (List.map CQ a10)),(.int .i64 a11),(.int .i64 a12),(.int .i64 a13),(.int .i64 a14),(.int .i64 a15),(.int .i64 a16),(D.list 6 (List.map Gk a17)),(D.list 2 (List.map ON a18)),(.int .i64 a19),(.int .i64 a20),(.int .i64 a21),(.int .i64 a22),(.int .i64 a23),(.int .i64 a24),(D.list 1 (List.map (D.int .i64) a25))]] = (xs++[({ Name:=a0,Out:=a1,Value:=({ Kind:=a2,Number:=({ Num:=a3,Den:=a4 }:AX),Table:=({ Dims:=a5,Measure:=a6,Cells:=a7 }:E5),Model:=({ Measure:=a8,Terms:=a9,Coefs:=a10,Residual:=({ Num:=a11,Den:=a12 }:AX),Total:=({ Num:=a13,Den:=a14 }:AX),Count:=a15,Free:=a16 }:E4),Curve:=a17,Hist:=a18,Box:=({ Count:=a19,Least:=a20,Lower:=a21,Middle:=a22,Upper:=a23,Greatest:=a24 }:LK),Lineage:=a25 }:Bd) }:AR)]).map A7:=by simp [A7,Ah]
def AA (x:Az):D:=.agg [(.str x.Name),(.int .i64 x.Kind),(.int .i64 x.Filter.Op),(.int .i64 x.Filter.Column),(.int .i64 x.Filter.Code),(.int .i64 x.Filter.Low),(.int .i64 x.Filter.High),(Ah 6 Ap x.Filter.Kids),(Ah 2 Ak x.Dims),(.int .i64 x.Measure),(Ah 1 (D.int .i64) x.Terms),(.int .i64 x.Event.Op),(.int .i64 x.Event.Column),(.int .i64 x.Event.Code),(.int .i64 x.Event.Low),(.int .i64 x.Event.High),(Ah 6 Ap x.Event.Kids)]
theorem OD (xs:List Az) (a0:ByteArray) (a1:Int) (a2:Int) (a3:Int) (a4:Int) (a5:Int) (a6:Int) (a7:(List Aj)) (a8:(List Aw)) (a9:Int) (a10:(List Int)) (a11:Int) (a12:Int) (a13:Int) (a14:Int) (a15:Int) (a16:(List Aj)):xs.map AA++[D.agg [(.str a0),(.int .i64 a1),(.int .i64 a2),(.int .i64 a3),(.int .i64 a4),(.int .i64 a5),(.int .i64 a6),(D.list 6 (List.map Ap a7)),(D.list 2 (List.map Ak a8)),(.int .i64 a9),(D.list 1 (List.map (D.int .i64) a10)),(.int .i64 a11),(.int .i64 a12),(.int .i64 a13),(.int .i64 a14),(.int .i64 a15),(D.list 6 (List.map Ap a16))]] = (xs++[({ Name:=a0,Kind:=a1,Filter:=({ Op:=a2,Column:=a3,Code:=a4,Low:=a5,High:=a6,Kids:=a7 }:Aj),Dims:=a8,Measure:=a9,Terms:=a10,Event:=({ Op:=a11,Column:=a12,Code:=a13,Low:=a14,High:=a15,Kids:=a16 }:Aj) }:Az)]).map AA:=by simp [AA,Ah]
def BZ (x:A3):D:=.agg [(.str x.Project),(.str x.Source),(.int .i64 x.Cohort.Op),(.int .i64 x.Cohort.Column),(.int .i64 x.Cohort.Code),(.int .i64 x.Cohort.Low),(.int .i64 x.Cohort.High),(Ah 6 Ap x.Cohort.Kids),(.int .i64 x.Sample.Part),(.int .i64 x.Sample.Of),(.int .i64 x.Sample.Seed),(Ah 17 AA x.Questions)]
end Go.Proofs.YtjghjdokjgcehaaGreatDoor.P
set_option linter.unusedVariables false
set_option linter.unusedSimpArgs false
namespace Go.Proofs.YtjghjdokjgcehaaGreatDoor.P
def Cb (p0:List Int):Option (List Int):=bif rm 0 p0.length then some p0 else none
def CE (p0:Int):Option ByteArray:=bif decide (0≤p0∧p0 < 100) then some ⟨(Go.Lib.decDigits p0.toNat).toArray⟩ else none
def GF (p0:List Int) (p1:Int→Option Bool):Option (List Int):=bif (rm 0 p0.length && p0.all fun x=>(p1 x).isSome) then some (p0.filter fun x=>p1 x==some false) else none
end Go.Proofs.YtjghjdokjgcehaaGreatDoor.P
set_option linter.unusedVariables false
set_option linter.unusedSimpArgs false
namespace Go.Proofs.YtjghjdokjgcehaaGreatDoor.P.F
def nn (num den:Int):Int:=if den < 0 then -num else num
def eV (n:Int) (d:Nat):Bool:=decide (((n.natAbs / Nat.gcd d n.natAbs:Nat):Int)≤1152921504606846976) && decide (((d / Nat.gcd d n.natAbs:Nat):Int)≤1152921504606846976)
def redF (n:Int) (d:Nat):Int × Int:=bif eV n d then (((n.natAbs / Nat.gcd d n.natAbs:Nat):Int) * n.sign,((d / Nat.gcd d n.natAbs:Nat):Int)) else (0,0)
def redE (n:Int) (d:Nat):Int:=bif eV n d then 0 else 14
def Fb (xs:List Int):List Int:=xs.mergeSort fun x y=>decide (x≤y)
def setI (xs:List Int):List Int:=Go.Lib.compact (Fb xs)
def Yy (x:Int):List Int→List Int
 | []=>[x]
 | y :: r=>bif decide (x < y) then x :: y :: r else bif x==y then y :: r else y :: Yy x r
def setU (xs:List Int):List Int:=xs.foldr Yy []
structure St where
 time:Int
 risk:Int
 ev:Int
 lf:Int
 fr:Int × Int
abbrev PS:=List (Int × Bool)
def tm (ps:PS):List Int:=ps.map fun p=>p.1
def es (ps:PS):List Bool:=ps.map fun p=>p.2
end Go.Proofs.YtjghjdokjgcehaaGreatDoor.P.F
namespace Go.Proofs.YtjghjdokjgcehaaGreatDoor.P
end Go.Proofs.YtjghjdokjgcehaaGreatDoor.P
set_option linter.unusedVariables false
set_option linter.unusedSimpArgs false
namespace Go.Proofs.YtjghjdokjgcehaaGreatDoor.P
def eO (p:AX):Bool:=decide ((1≤p.Den∧p.Den≤1152921504606846976)∧(-1152921504606846976≤p.Num∧p.Num≤1152921504606846976)∧Nat.gcd p.Num.natAbs p.Den.natAbs = 1)
def cC (n:Int) (d:Nat):AX × Int:=({ Num:=(F.redF n d).1,Den:=(F.redF n d).2 },F.redE n d)
def eo (n:Int):Bool:=decide (-9223372036854775808≤n∧n≤9223372036854775807)
def L4 (p0:Int) (p1:Int):Option (AX × Int) :=
 bif eo p0 && eo p1 then (bif p1==0 then some ({ Num:=0,Den:=0 },18) else some (cC (F.nn p0 p1) p1.natAbs)) else none
def QJ (p0:AX) (p1:AX):Option (AX × Int):=bif eO p0 && eO p1 then some (cC (p0.Num * p1.Den - p1.Num * p0.Den) (p0.Den * p1.Den).toNat) else none
def QI (p0:AX) (p1:AX):Option (AX × Int):=bif eO p0 && eO p1 then some (cC (p0.Num * p1.Num) (p0.Den * p1.Den).toNat) else none
def QG (p0:AX) (p1:AX):Option (AX × Int):=none
def QH (p0:AX) (p1:AX):Option (AX × Int):=none
def Hg (p0:List Int) (p1:List Int):Option (List Int):=bif decide (p0.length≤100000∧p1.length≤100000) then some (F.setU (p0++p1)) else none
end Go.Proofs.YtjghjdokjgcehaaGreatDoor.P
set_option linter.unusedSimpArgs false
namespace Go.Proofs.YtjghjdokjgcehaaGreatDoor.P
open Go.Abs Go.Proofs
set_option linter.unusedVariables false
def J1 (p0:ByteArray):Option Bool :=
 bif (p0.toList==({ data:=#[97,108,108] }:ByteArray).toList) then
  some false
 else
  bif (p0.toList==({ data:=#[97,110,100] }:ByteArray).toList) then
   some false
  else
   bif (p0.toList==({ data:=#[101,118,101,110,116] }:ByteArray).toList) then
    some false
   else
    bif (p0.toList==({ data:=#[102,114,111,109] }:ByteArray).toList) then
     some false
    else
     bif (p0.toList==({ data:=#[109,105,115,115,105,110,103] }:ByteArray).toList) then
      some false
     else
      bif (p0.toList==({ data:=#[110,111,116] }:ByteArray).toList) then
       some false
      else
       bif (p0.toList==({ data:=#[111,110] }:ByteArray).toList) then
        some false
       else
        bif (p0.toList==({ data:=#[111,114] }:ByteArray).toList) then
         some false
        else
         bif (p0.toList==({ data:=#[116,111] }:ByteArray).toList) then
          some false
         else
          bif (p0.toList==({ data:=#[117,110,100,101,114] }:ByteArray).toList) then
           some false
          else
           bif (p0.toList==({ data:=#[119,104,101,114,101] }:ByteArray).toList) then
            some false
           else
            some true
def ES (p0:ByteArray) (kont1_0:(Int→Option Bool)) (rec1:(Int→Option Bool)) (v26_1:Int):Option Bool :=
 bif (decide (v26_1 < (((F8 p0).length:Nat):Int))) then
  (idx (F8 p0) v26_1).bind fun x28 =>
  bif (bif (bif (bif (decide (x28 < 97)) then true else (decide (x28 > 122))) then (bif (decide (x28 < 48)) then true else (decide (x28 > 57))) else false) then (x28 != 95) else false) then
   some false
  else
   rec1 (IntKind.i64.wrap (v26_1 + 1))
 else
  kont1_0 v26_1
def Gj (p0:ByteArray):Option Bool :=
 iter (fun rec1 s=>ES p0 (fun v26_1=>J1 p0) rec1 s) AO 0
def BO (p0:ByteArray):Option Bool :=
 bif (bif (decide (((p0.size:Nat):Int) < 1)) then true else (decide (((p0.size:Nat):Int) > 16))) then
  some false
 else
  bif (decide (0≤(0:Int)∧(0:Int).toNat < p0.size)) then
   bif (decide ((DX p0 0) < 97)) then
    some false
   else
    bif (decide (0≤(0:Int)∧(0:Int).toNat < p0.size)) then
     bif (decide ((DX p0 0) > 122)) then
      some false
     else
      Gj p0
    else none
  else none
def Nu (p0:Ay) (kont1_0:(Int→(List Int)→Option (List Int))) (rec1:((Int × (List Int))→Option (List Int))) (v13_1:Int) (b9_1:(List Int)):Option (List Int) :=
 bif (decide (v13_1 < ((p0.Codes.length:Nat):Int))) then
  (idx p0.Codes v13_1).bind fun x16 =>
  bif (decide (v13_1 > 0)) then
   (idx b9_1 x16.Parent).bind fun x25 =>
   (idx b9_1 v13_1).bind fun x28 =>
   rec1 ((IntKind.i64.wrap (v13_1 + 1)),(b9_1.set (v13_1:Int).toNat (IntKind.i64.wrap (x25 + 1))))
  else
   rec1 ((IntKind.i64.wrap (v13_1 + 1)),b9_1)
 else
  kont1_0 v13_1 b9_1
def F9 (p0:Ay):Option (List Int) :=
 bif (decide (0≤((p0.Codes.length:Nat):Int)) && rm (((p0.Codes.length:Nat):Int):Int).toNat 0) then
  iter (fun rec1 s=>Nu p0 (fun v13_1 b9_1=>some b9_1) rec1 s.1 s.2) AO (0,(List.replicate (((p0.Codes.length:Nat):Int):Int).toNat 0))
 else none
def NL (x82:(List Int)) (k29_1:(List Bool)) (kont2_4:(Int→Int→Option Int)) (rec2:((Int × Int)→Option Int)) (v7_2:Int) (v84_2:Int):Option Int :=
 bif (decide (v84_2 < ((x82.length:Nat):Int))) then
  (idx x82 v84_2).bind fun x87 =>
  (idx k29_1 v84_2).bind fun x91 =>
  bif x91 then
   rec2 (v7_2,(IntKind.i64.wrap (v84_2 + 1)))
  else
   bif (bif (decide (v7_2 ≥ 0)) then (x87 != v7_2) else false) then
    some 5
   else
    rec2 (x87,(IntKind.i64.wrap (v84_2 + 1)))
 else
  kont2_4 v7_2 v84_2
def KA (p0:Ay) (k29_1:(List Bool)):Option Int :=
 (F9 p0).bind fun x82 =>
 iter (fun rec2 s=>NL x82 k29_1 (fun v7_2 v84_2=>some 0) rec2 s.1 s.2) AO ((-1),0)
def NK (p0:Ay) (kont1_1:(Int→(List (ByteArray × Bool))→(List Bool)→Option Int)) (rec1:((Int × (List (ByteArray × Bool)) × (List Bool))→Option Int)) (v33_1:Int) (b25_1:(List (ByteArray × Bool))) (b29_1:(List Bool)):Option Int :=
 bif (decide (v33_1 < ((p0.Codes.length:Nat):Int))) then
  (idx p0.Codes v33_1).bind fun x36 =>
  (BO x36.Name).bind fun x41 =>
  bif (!x41) then
   some 3
  else
   bif ((Wi x36.Name b25_1).getD false) then
    some 10
   else
    bif (bif (bif (v33_1==0) then (x36.Parent != (-1)) else false) then true else (bif (decide (v33_1 > 0)) then (bif (decide (x36.Parent < 0)) then true else (decide (x36.Parent ≥ v33_1))) else false)) then
     some 6
    else
     bif (decide (v33_1 > 0)) then
      (idx b29_1 x36.Parent).bind fun x79 =>
      rec1 ((IntKind.i64.wrap (v33_1 + 1)),(bU x36.Name true b25_1),(b29_1.set (x36.Parent:Int).toNat true))
     else
      rec1 ((IntKind.i64.wrap (v33_1 + 1)),(bU x36.Name true b25_1),b29_1)
 else
  kont1_1 v33_1 b25_1 b29_1
def F3 (p0:Ay):Option Int :=
 (BO p0.Name).bind fun x13 =>
 bif (!x13) then
  some 3
 else
  bif (((p0.Codes.length:Nat):Int)==0) then
   some 5
  else
   bif (decide (((p0.Codes.length:Nat):Int) > 60)) then
    some 1
   else
    bif (decide (0≤((p0.Codes.length:Nat):Int)) && rm (((p0.Codes.length:Nat):Int):Int).toNat 0) then
     iter (fun rec1 s=>NK p0 (fun v33_1 b25_1 b29_1=>KA p0 b29_1) rec1 s.1 s.2.1 s.2.2) AO (0,[],(List.replicate (((p0.Codes.length:Nat):Int):Int).toNat false))
    else none
def C5 (p0:(List Ay)) (p1:(Ay→Option Bool)) (kont1_0:(Int→Option Int)) (rec1:(Int→Option Int)) (v8_1:Int):Option Int :=
 bif (decide (v8_1 < ((p0.length:Nat):Int))) then
  (idx p0 v8_1).bind fun x14 =>
  (p1 x14).bind fun x16 =>
  bif x16 then
   some v8_1
  else
   rec1 (IntKind.i64.wrap (v8_1 + 1))
 else
  kont1_0 v8_1
def Bv (p0:(List Ay)) (p1:(Ay→Option Bool)):Option Int :=
 iter (fun rec1 s=>C5 p0 p1 (fun v8_1=>some (-1)) rec1 s) AO 0
def Bf (p0:(List Ay)) (p1:(Ay→Option Bool)):Option Bool :=
 (Bv p0 p1).bind fun x7 =>
 some (decide (x7 ≥ 0))
def Ka (p0:Ay) (q0:Ay):Option Bool :=
 some (p0.Name.toList==q0.Name.toList)
def CU (p0:(List A4)) (p1:(A4→Option Bool)) (kont1_0:(Int→Option Int)) (rec1:(Int→Option Int)) (v8_1:Int):Option Int :=
 bif (decide (v8_1 < ((p0.length:Nat):Int))) then
  (idx p0 v8_1).bind fun x14 =>
  (p1 x14).bind fun x16 =>
  bif x16 then
   some v8_1
  else
   rec1 (IntKind.i64.wrap (v8_1 + 1))
 else
  kont1_0 v8_1
def B8 (p0:(List A4)) (p1:(A4→Option Bool)):Option Int :=
 iter (fun rec1 s=>CU p0 p1 (fun v8_1=>some (-1)) rec1 s) AO 0
def Bg (p0:(List A4)) (p1:(A4→Option Bool)):Option Bool :=
 (B8 p0 p1).bind fun x7 =>
 some (decide (x7 ≥ 0))
def Gs (p0:A4) (q0:A4):Option Bool :=
 some (p0.Name.toList==q0.Name.toList)
def FU (p0:A4) (kont1_1:(Int→Int→Option Int)) (rec1:((Int × Int)→Option Int)) (v3_1:Int) (v36_1:Int):Option Int :=
 bif (decide (v36_1 < ((p0.Widths.length:Nat):Int))) then
  (idx p0.Widths v36_1).bind fun x39 =>
  bif (bif (v36_1==0) then (x39 != 1) else false) then
   some 2
  else
   bif (decide (v36_1 > 0)) then
    bif (decide (x39≤v3_1)) then
     some 2
    else
     bif (decide (v3_1≠0)) then
      bif (bif ((Int.tmod x39 v3_1) != 0) then true else (decide (x39 > 1000000))) then
       some 2
      else
       rec1 (x39,(IntKind.i64.wrap (v36_1 + 1)))
     else none
   else
    rec1 (x39,(IntKind.i64.wrap (v36_1 + 1)))
 else
  kont1_1 v3_1 v36_1
def DV (p0:A4):Option Int :=
 bif (bif (bif (decide (p0.Low < (-1000000))) then true else (decide (p0.High > 1000000))) then true else (decide (p0.Low > p0.High))) then
  some 2
 else
  bif (bif (((p0.Widths.length:Nat):Int)==0) then true else (decide (((p0.Widths.length:Nat):Int) > 4))) then
   some 1
  else
   iter (fun rec1 s=>FU p0 (fun v3_1 v36_1=>some 0) rec1 s.1 s.2) AO (1,0)
def Ei (p0:A4):Option Bool :=
 bif (bif (p0.Kind != 2) then (p0.List_ != 0) else false) then
  some false
 else
  some (bif (p0.Kind==3) then true else (bif (bif (bif (p0.Low==0) then (p0.High==0) else false) then (((p0.Widths.length:Nat):Int)==0) else false) then (!p0.Optional) else false))
def Es (p0:Ae) (p1:Int):Option Int :=
 (idx p0.Columns p1).bind fun x10 =>
 (BO x10.Name).bind fun x14 =>
 bif (!x14) then
  some 3
 else
  bif (decide (0≤(0:Int)∧0≤p1∧p1≤((p0.Columns.length:Nat):Int))) then
   (Bg (Im p0.Columns 0 p1) (fun a0=>Gs a0 x10)).bind fun x21 =>
   bif x21 then
    some 10
   else
    bif (x10.Kind==1) then
     bif (decide (p1 > 0)) then
      some 4
     else
      (Ei x10).bind fun x49 =>
      bif (!x49) then
       some 11
      else
       some 0
    else
     bif (x10.Kind==2) then
      bif (bif (decide (x10.List_ < 0)) then true else (decide (x10.List_ ≥ ((p0.Lists.length:Nat):Int)))) then
       some 5
      else
       (Ei x10).bind fun x49 =>
       bif (!x49) then
        some 11
       else
        some 0
     else
      bif (x10.Kind==3) then
       (DV x10).bind fun x44 =>
       bif (x44 != 0) then
        some x44
       else
        (Ei x10).bind fun x49 =>
        bif (!x49) then
         some 11
        else
         some 0
      else
       some 4
  else none
def H7 (p0:Ae) (kont2_2:(Int→Option Int)) (rec2:(Int→Option Int)) (v53_2:Int):Option Int :=
 bif (decide (v53_2 < ((p0.Columns.length:Nat):Int))) then
  (Es p0 v53_2).bind fun x58 =>
  bif (x58 != 0) then
   some x58
  else
   rec2 (IntKind.i64.wrap (v53_2 + 1))
 else
  kont2_2 v53_2
def H8 (p0:Ae):Option Int :=
 bif (((p0.Columns.length:Nat):Int)==0) then
  some 7
 else
  (idx p0.Columns 0).bind fun x45 =>
  bif (x45.Kind != 1) then
   some 7
  else
   iter (fun rec2 s=>H7 p0 (fun v53_2=>some 0) rec2 s) AO 0
def H6 (p0:Ae) (kont1_0:(Int→Option Int)) (rec1:(Int→Option Int)) (v21_1:Int):Option Int :=
 bif (decide (v21_1 < ((p0.Lists.length:Nat):Int))) then
  (idx p0.Lists v21_1).bind fun x24 =>
  (F3 x24).bind fun x27 =>
  bif (x27 != 0) then
   some x27
  else
   bif (decide (0≤(0:Int)∧0≤v21_1∧v21_1≤((p0.Lists.length:Nat):Int))) then
    (Bf (Im p0.Lists 0 v21_1) (fun a0=>Ka a0 x24)).bind fun x36 =>
    bif x36 then
     some 10
    else
     rec1 (IntKind.i64.wrap (v21_1 + 1))
   else none
 else
  kont1_0 v21_1
def Cp (p0:Ae):Option Int :=
 bif (bif (decide (((p0.Lists.length:Nat):Int) > 6)) then true else (decide (((p0.Columns.length:Nat):Int) > 8))) then
  some 1
 else
  iter (fun rec1 s=>H6 p0 (fun v21_1=>H8 p0) rec1 s) AO 0
def IT (p0:(List Int)) (kont1_0:(Int→Int→Option Int)) (rec1:((Int × Int)→Option Int)) (v3_1:Int) (v4_1:Int):Option Int :=
 bif (decide (v4_1 < ((p0.length:Nat):Int))) then
  (idx p0 v4_1).bind fun x21 =>
  rec1 ((if x21 > v3_1 then x21 else v3_1),(IntKind.i64.wrap (v4_1 + 1)))
 else
  kont1_0 v3_1 v4_1
def Hd (p0:(List Int)):Option Int :=
 bif (decide (((p0.length:Nat):Int) < 1)) then
  none
 else
  (idx p0 0).bind fun x10 =>
  iter (fun rec1 s=>IT p0 (fun v3_1 v4_1=>some v3_1) rec1 s.1 s.2) AO (x10,1)
def EE (p0:Ay):Option Int :=
 (F3 p0).bind fun x4 =>
 bif (x4 != 0) then
  some (-1)
 else
  (F9 p0).bind fun x7 =>
  (Hd x7).bind fun x8 =>
  some (IntKind.i64.wrap (x8 + 1))
def Eg (p0:Ae) (p1:Int):Option Int :=
 bif (bif (decide (p1 < 1)) then true else (decide (p1 ≥ ((p0.Columns.length:Nat):Int)))) then
  some (-1)
 else
  (idx p0.Columns p1).bind fun x18 =>
  bif (x18.Kind==2) then
   (idx p0.Lists x18.List_).bind fun x27 =>
   (EE x27).bind fun x29 =>
   some (IntKind.i64.wrap (x29 - 1))
  else
   some ((x18.Widths.length:Nat):Int)
def Eh (p0:Ae) (p1:Aw):Option Int :=
 (Eg p0 p1.Column).bind fun x9 =>
 bif (decide (x9 < 0)) then
  some 7
 else
  bif (bif (decide (p1.Level < 0)) then true else (decide (p1.Level > x9))) then
   some 8
  else
   some 0
def HA (p1:(List Aw)) (p0:Ae) (kont1_0:(Int→Option Int)) (rec1:(Int→Option Int)) (v16_1:Int):Option Int :=
 bif (decide (v16_1 < ((p1.length:Nat):Int))) then
  (idx p1 v16_1).bind fun x19 =>
  (Eh p0 x19).bind fun x23 =>
  bif (x23 != 0) then
   some x23
  else
   bif (decide (v16_1 > 0)) then
    (idx p1 (IntKind.i64.wrap (v16_1 - 1))).bind fun x35 =>
    bif (decide (x19.Column≤x35.Column)) then
     some 10
    else
     rec1 (IntKind.i64.wrap (v16_1 + 1))
   else
    rec1 (IntKind.i64.wrap (v16_1 + 1))
 else
  kont1_0 v16_1
def GR (p0:Ae) (p1:(List Aw)):Option Int :=
 (Cp p0).bind fun x10 =>
 bif (x10 != 0) then
  some x10
 else
  iter (fun rec1 s=>HA p1 p0 (fun v16_1=>some 0) rec1 s) AO 0
def FV (p0:A4) (p1:Int):Option Int :=
 (idx p0.Widths (IntKind.i64.wrap (((p0.Widths.length:Nat):Int) - p1))).bind fun x12 =>
 some x12
def Ef (p0:Int) (p1:Int):Option Int :=
 bif (decide (p1≠0)) then
  bif (decide ((Int.tmod p0 p1) < 0)) then
   some (IntKind.i64.wrap (p0 - (IntKind.i64.wrap ((Int.tmod p0 p1) + p1))))
  else
   some (IntKind.i64.wrap (p0 - (Int.tmod p0 p1)))
 else none
def Ij (p0:A4) (p1:Int) (p2:Int):Option (Int × Int × Bool) :=
 bif (p1==0) then
  some (p0.Low,p0.High,(p2==0))
 else
  bif (bif (decide (p2 < (-2000000))) then true else (decide (p2 > 1000000))) then
   some (0,0,false)
  else
   (FV p0 p1).bind fun x30 =>
   (Ef p2 x30).bind fun x46 =>
   some ((if p0.Low > p2 then p0.Low else p2),(if p0.High < (IntKind.i64.wrap ((IntKind.i64.wrap (p2 + x30)) - 1)) then p0.High else (IntKind.i64.wrap ((IntKind.i64.wrap (p2 + x30)) - 1))),(bif (x46==p2) then (decide ((if p0.Low > p2 then p0.Low else p2)≤(if p0.High < (IntKind.i64.wrap ((IntKind.i64.wrap (p2 + x30)) - 1)) then p0.High else (IntKind.i64.wrap ((IntKind.i64.wrap (p2 + x30)) - 1))))) else false))
def Ss (x12:(List Int)) (p1:Int) (kont1_0:(Int→(List Int)→Option (List Int))) (rec1:((Int × (List Int))→Option (List Int))) (v14_1:Int) (b5_1:(List Int)):Option (List Int) :=
 bif (decide (v14_1 < ((x12.length:Nat):Int))) then
  (idx x12 v14_1).bind fun x17 =>
  bif (x17==p1) then
   bif rm b5_1.length [v14_1].length then
    rec1 ((IntKind.i64.wrap (v14_1 + 1)),(b5_1++[v14_1]))
   else none
  else
   rec1 ((IntKind.i64.wrap (v14_1 + 1)),b5_1)
 else
  kont1_0 v14_1 b5_1
def JH (p0:Ay) (p1:Int):Option (List Int) :=
 (F3 p0).bind fun x9 =>
 bif (x9 != 0) then
  some []
 else
  (F9 p0).bind fun x12 =>
  iter (fun rec1 s=>Ss x12 p1 (fun v14_1 b5_1=>some b5_1) rec1 s.1 s.2) AO (0,[])
def Mk (p0:Ay) (p1:Int):Option Bool :=
 bif (bif (decide (p1 ≥ 0)) then (decide (p1 < ((p0.Codes.length:Nat):Int))) else false) then
  (F3 p0).bind fun x16 =>
  some (x16==0)
 else
  some false
def Su (p2:Int) (p0:Ay) (kont1_0:(Int→Int→Option Int)) (rec1:((Int × Int)→Option Int)) (v1_1:Int) (v7_1:Int):Option Int :=
 bif (decide (v7_1 ≥ p2)) then
  bif (v7_1==p2) then
   some v1_1
  else
   (idx p0.Codes v1_1).bind fun x33 =>
   rec1 (x33.Parent,(IntKind.i64.wrap (v7_1 - 1)))
 else
  kont1_0 v1_1 v7_1
def G4 (p0:Ay) (p1:Int) (p2:Int):Option Int :=
 (Mk p0 p1).bind fun x10 =>
 bif (bif (!x10) then true else (decide (p2 < 0))) then
  some (-1)
 else
  (F9 p0).bind fun x17 =>
  (idx x17 p1).bind fun x19 =>
  iter (fun rec1 s=>Su p2 p0 (fun v1_1 v7_1=>some (-1)) rec1 s.1 s.2) AO (p1,x19)
def Ln (x54:(List Int)) (x48:Ay) (p2:Int) (p3:Int) (kont1_0:(Int→Option (Int × Bool))) (rec1:(Int→Option (Int × Bool))) (v56_1:Int):Option (Int × Bool) :=
 bif (decide (v56_1 < ((x54.length:Nat):Int))) then
  (idx x54 v56_1).bind fun x58 =>
  (G4 x48 x58 p2).bind fun x63 =>
  bif (x63==p3) then
   some (x58,true)
  else
   rec1 (IntKind.i64.wrap (v56_1 + 1))
 else
  kont1_0 v56_1
def Dd (p0:Ae) (p1:Int) (p2:Int) (p3:Int):Option (Int × Bool) :=
 (idx p0.Columns p1).bind fun x20 =>
 bif (x20.Kind==3) then
  bif (bif (decide (p2 > 0)) then (p3==(-1099511627776)) else false) then
   some (p3,x20.Optional)
  else
   (Ij x20 p2 p3).bind fun x38 =>
   some (x38.1,x38.2.2)
 else
  (idx p0.Lists x20.List_).bind fun x48 =>
  (EE x48).bind fun x52 =>
  (JH x48 (IntKind.i64.wrap (x52 - 1))).bind fun x54 =>
  iter (fun rec1 s=>Ln x54 x48 p2 p3 (fun v56_1=>some (0,false)) rec1 s) AO 0
def Hx (p1:(List Aw)) (p2:(List Int)) (p0:Ae) (kont1_0:(Int→Option Bool)) (rec1:(Int→Option Bool)) (v31_1:Int):Option Bool :=
 bif (decide (v31_1 < ((p1.length:Nat):Int))) then
  (idx p1 v31_1).bind fun x34 =>
  (idx p2 (IntKind.i64.wrap (v31_1 + 1))).bind fun x45 =>
  (Dd p0 x34.Column x34.Level x45).bind fun x47 =>
  bif (!x47.2) then
   some false
  else
   rec1 (IntKind.i64.wrap (v31_1 + 1))
 else
  kont1_0 v31_1
def Hy (p1:(List Aw)) (p2:(List Int)) (p0:Ae):Option Bool :=
 iter (fun rec1 s=>Hx p1 p2 p0 (fun v31_1=>some true) rec1 s) AO 0
def I7 (p0:Ae) (p1:(List Aw)) (p2:(List Int)):Option Bool :=
 bif (((p2.length:Nat):Int) != (IntKind.i64.wrap (((p1.length:Nat):Int) + 1))) then
  some false
 else
  (idx p2 0).bind fun x19 =>
  bif (decide (x19 < 0)) then
   some false
  else
   (idx p2 0).bind fun x25 =>
   bif (decide (x25 > 1048575)) then
    some false
   else
    Hy p1 p2 p0
def GI (p1:Bn) (p0:Ae) (kont1_1:(Int→Option Int)) (rec1:(Int→Option Int)) (v42_1:Int):Option Int :=
 bif (decide (v42_1 < ((p1.Rows.length:Nat):Int))) then
  (idx p1.Rows v42_1).bind fun x45 =>
  (I7 p0 p1.Picks x45).bind fun x51 =>
  bif (!x51) then
   some 9
  else
   bif (decide (v42_1 > 0)) then
    (idx x45 0).bind fun x57 =>
    (idx p1.Rows (IntKind.i64.wrap (v42_1 - 1))).bind fun x63 =>
    (idx x63 0).bind fun x65 =>
    bif (decide (x57≤x65)) then
     some 10
    else
     rec1 (IntKind.i64.wrap (v42_1 + 1))
   else
    rec1 (IntKind.i64.wrap (v42_1 + 1))
 else
  kont1_1 v42_1
def Gl (p0:Ae) (p1:Bn):Option Int :=
 (Cp p0).bind fun x10 =>
 bif (x10 != 0) then
  some x10
 else
  (BO p1.Project).bind fun x17 =>
  bif (!x17) then
   some 3
  else
   bif (bif (decide (p1.Version < 0)) then true else (decide (p1.Version > 300))) then
    some 13
   else
    (GR p0 p1.Picks).bind fun x31 =>
    bif (x31 != 0) then
     some x31
    else
     bif (decide (((p1.Rows.length:Nat):Int) > 200)) then
      some 1
     else
      iter (fun rec1 s=>GI p1 p0 (fun v42_1=>some 0) rec1 s) AO 0
def Cq (p0:(List Ax)) (p1:(Ax→Option Bool)) (kont1_0:(Int→Option Int)) (rec1:(Int→Option Int)) (v8_1:Int):Option Int :=
 bif (decide (v8_1 < ((p0.length:Nat):Int))) then
  (idx p0 v8_1).bind fun x14 =>
  (p1 x14).bind fun x16 =>
  bif x16 then
   some v8_1
  else
   rec1 (IntKind.i64.wrap (v8_1 + 1))
 else
  kont1_0 v8_1
def BH (p0:(List Ax)) (p1:(Ax→Option Bool)):Option Int :=
 iter (fun rec1 s=>Cq p0 p1 (fun v8_1=>some (-1)) rec1 s) AO 0
def B9 (p0:(List Ax)) (p1:(Ax→Option Bool)):Option Bool :=
 (BH p0 p1).bind fun x7 =>
 some (decide (x7 ≥ 0))
def FQ (p0:Ax) (q0:ByteArray):Option Bool :=
 some (p0.Name.toList==q0.toList)
def Fj (p0:ByteArray) (q0:(List Ax)):Option Bool :=
 (B9 q0 (fun a0=>FQ a0 p0)).bind fun x6 =>
 some x6
def M7 (p0:Av) (p1:Int) (self_program_count:(Av→Int→Option Int)) (kont1_0:(Int→Int→Option Int)) (rec1:((Int × Int)→Option Int)) (v5_1:Int) (v11_1:Int):Option Int :=
 bif (decide (v11_1 < ((p0.Kids.length:Nat):Int))) then
  (idx p0.Kids v11_1).bind fun x13 =>
  bif (decide (v5_1 > p1)) then
   kont1_0 v5_1 v11_1
  else
   (self_program_count x13 (IntKind.i64.wrap (p1 - v5_1))).bind fun x23 =>
   rec1 ((IntKind.i64.wrap (v5_1 + x23)),(IntKind.i64.wrap (v11_1 + 1)))
 else
  kont1_0 v5_1 v11_1
def JU (d:Nat) (self_program_count:(Av→Int→Option Int)) (p0:Av) (p1:Int):Option Int :=
 iter (fun rec1 s=>M7 p0 p1 self_program_count (fun v5_1 v11_1=>some v5_1) rec1 s.1 s.2) AO (1,0)
def J8:Nat→Av→Int→Option Int
 | 0,_,_=>none
 | d + 1,p0,p1=>JU d (J8 d) p0 p1
def N2 (p0:Av) (self_program_deep:(Av→Option Int)) (kont1_0:(Int→Int→Option Int)) (rec1:((Int × Int)→Option Int)) (v3_1:Int) (v9_1:Int):Option Int :=
 bif (decide (v9_1 < ((p0.Kids.length:Nat):Int))) then
  (idx p0.Kids v9_1).bind fun x11 =>
  (self_program_deep x11).bind fun x15 =>
  rec1 ((if x15 > v3_1 then x15 else v3_1),(IntKind.i64.wrap (v9_1 + 1)))
 else
  kont1_0 v3_1 v9_1
def KX (d:Nat) (self_program_deep:(Av→Option Int)) (p0:Av):Option Int :=
 iter (fun rec1 s=>N2 p0 self_program_deep (fun v3_1 v9_1=>some (IntKind.i64.wrap (v3_1 + 1))) rec1 s.1 s.2) AO (0,0)
def Kw:Nat→Av→Option Int
 | 0,_=>none
 | d + 1,p0=>KX d (Kw d) p0
def El (p0:Aj) (p1:Int) (self_condition_count:(Aj→Int→Option Int)) (kont1_0:(Int→Int→Option Int)) (rec1:((Int × Int)→Option Int)) (v5_1:Int) (v11_1:Int):Option Int :=
 bif (decide (v11_1 < ((p0.Kids.length:Nat):Int))) then
  (idx p0.Kids v11_1).bind fun x13 =>
  bif (decide (v5_1 > p1)) then
   kont1_0 v5_1 v11_1
  else
   (self_condition_count x13 (IntKind.i64.wrap (p1 - v5_1))).bind fun x23 =>
   rec1 ((IntKind.i64.wrap (v5_1 + x23)),(IntKind.i64.wrap (v11_1 + 1)))
 else
  kont1_0 v5_1 v11_1
def CN (d:Nat) (self_condition_count:(Aj→Int→Option Int)) (p0:Aj) (p1:Int):Option Int :=
 iter (fun rec1 s=>El p0 p1 self_condition_count (fun v5_1 v11_1=>some v5_1) rec1 s.1 s.2) AO (1,0)
def CZ:Nat→Aj→Int→Option Int
 | 0,_,_=>none
 | d + 1,p0,p1=>CN d (CZ d) p0 p1
def DI (p0:Aj) (self_condition_deep:(Aj→Option Int)) (kont1_0:(Int→Int→Option Int)) (rec1:((Int × Int)→Option Int)) (v3_1:Int) (v9_1:Int):Option Int :=
 bif (decide (v9_1 < ((p0.Kids.length:Nat):Int))) then
  (idx p0.Kids v9_1).bind fun x11 =>
  (self_condition_deep x11).bind fun x15 =>
  rec1 ((if x15 > v3_1 then x15 else v3_1),(IntKind.i64.wrap (v9_1 + 1)))
 else
  kont1_0 v3_1 v9_1
def CF (d:Nat) (self_condition_deep:(Aj→Option Int)) (p0:Aj):Option Int :=
 iter (fun rec1 s=>DI p0 self_condition_deep (fun v3_1 v9_1=>some (IntKind.i64.wrap (v3_1 + 1))) rec1 s.1 s.2) AO (0,0)
def Ch:Nat→Aj→Option Int
 | 0,_=>none
 | d + 1,p0=>CF d (Ch d) p0
def I1 (p0:Int):Option Int :=
 bif (p0==5) then
  some 2
 else
  bif (p0==6) then
   some 2
  else
   bif (p0==7) then
    some 1
   else
    some 0
def Co (p0:Aj):Option Bool :=
 bif (bif (!(bif (bif (p0.Op==2) then true else (p0.Op==3)) then true else (p0.Op==4))) then (p0.Column != 0) else false) then
  some false
 else
  bif (bif (p0.Op != 2) then (p0.Code != 0) else false) then
   some false
  else
   some (bif (p0.Op==3) then true else (bif (p0.Low==0) then (p0.High==0) else false))
def AQ (p0:Ae) (p1:Aj):Option Int :=
 (idx p0.Columns p1.Column).bind fun x58 =>
 bif (p1.Op==2) then
  bif (x58.Kind != 2) then
   some 7
  else
   bif (decide (p1.Code < 0)) then
    some 6
   else
    (idx p0.Lists x58.List_).bind fun x77 =>
    bif (decide (p1.Code ≥ ((x77.Codes.length:Nat):Int))) then
     some 6
    else
     some 0
 else
  bif (p1.Op==3) then
   bif (x58.Kind != 3) then
    some 7
   else
    bif (bif (bif (decide (p1.Low > p1.High)) then true else (decide (p1.Low < (-1000000)))) then true else (decide (p1.High > 1000000))) then
     some 2
    else
     some 0
  else
   bif (p1.Op==4) then
    bif (bif (x58.Kind != 3) then true else (!x58.Optional)) then
     some 7
    else
     some 0
   else
    some 0
def AZ (p0:Ae) (p1:Aj):Option Int :=
 bif (bif (decide (p1.Op < 1)) then true else (decide (p1.Op > 7))) then
  some 4
 else
  (I1 p1.Op).bind fun x21 =>
  bif (((p1.Kids.length:Nat):Int) != x21) then
   some 11
  else
   (Co p1).bind fun x25 =>
   bif (!x25) then
    some 11
   else
    bif (bif (bif (p1.Op != 2) then (p1.Op != 3) else false) then (p1.Op != 4) else false) then
     some 0
    else
     bif (bif (decide (p1.Column < 0)) then true else (decide (p1.Column ≥ ((p0.Columns.length:Nat):Int)))) then
      some 7
     else
      AQ p0 p1
def Br (p1:Aj) (self_condition_checkAll:(Ae→Aj→Option Int)) (p0:Ae) (kont1_0:(Int→Option Int)) (rec1:(Int→Option Int)) (v18_1:Int):Option Int :=
 bif (decide (v18_1 < ((p1.Kids.length:Nat):Int))) then
  (idx p1.Kids v18_1).bind fun x20 =>
  (self_condition_checkAll p0 x20).bind fun x24 =>
  bif (x24 != 0) then
   some x24
  else
   rec1 (IntKind.i64.wrap (v18_1 + 1))
 else
  kont1_0 v18_1
def BA (d:Nat) (self_condition_checkAll:(Ae→Aj→Option Int)) (p0:Ae) (p1:Aj):Option Int :=
 (AZ p0 p1).bind fun x11 =>
 bif (x11 != 0) then
  some x11
 else
  iter (fun rec1 s=>Br p1 self_condition_checkAll p0 (fun v18_1=>some 0) rec1 s) AO 0
def BC:Nat→Ae→Aj→Option Int
 | 0,_,_=>none
 | d + 1,p0,p1=>BA d (BC d) p0 p1
def Bi (d:Nat) (p0:Ae) (p1:Aj):Option Int :=
 (Cp p0).bind fun x7 =>
 bif (x7 != 0) then
  some x7
 else
  (CZ d p1 40).bind fun x14 =>
  bif (decide (x14 > 40)) then
   some 1
  else
   (Ch d p1).bind fun x18 =>
   bif (decide (x18 > 10)) then
    some 22
   else
    (BC d p0 p1).bind fun x22 =>
    some x22
def DC (p0:(List Av)) (p1:(Av→Option Bool)) (kont1_0:(Int→Option Int)) (rec1:(Int→Option Int)) (v8_1:Int):Option Int :=
 bif (decide (v8_1 < ((p0.length:Nat):Int))) then
  (idx p0 v8_1).bind fun x14 =>
  (p1 x14).bind fun x16 =>
  bif x16 then
   some v8_1
  else
   rec1 (IntKind.i64.wrap (v8_1 + 1))
 else
  kont1_0 v8_1
def C6 (p0:(List Av)) (p1:(Av→Option Bool)):Option Int :=
 iter (fun rec1 s=>DC p0 p1 (fun v8_1=>some (-1)) rec1 s) AO 0
def AJ (p0:(List Av)) (p1:(Av→Option Bool)):Option Bool :=
 (C6 p0 p1).bind fun x7 =>
 some (decide (x7 ≥ 0))
def IE :Option (Bu × Bool) :=
 some (({ f_num:=false,f_name:=false,f_column:=false,f_columns:=false,f_dims:=false,f_cond:=false,f_event:=false }:Bu),false)
def KY (p0:Int):Option (Bu × Bool) :=
 bif (p0==1) then
  some (({ f_num:=true,f_name:=false,f_column:=false,f_columns:=false,f_dims:=false,f_cond:=false,f_event:=false }:Bu),true)
 else
  bif (p0==2) then
   some (({ f_num:=false,f_name:=true,f_column:=false,f_columns:=false,f_dims:=false,f_cond:=false,f_event:=false }:Bu),true)
  else
   bif (p0==3) then
    some (({ f_num:=false,f_name:=false,f_column:=false,f_columns:=false,f_dims:=false,f_cond:=true,f_event:=false }:Bu),true)
   else
    bif (p0==4) then
     some (({ f_num:=false,f_name:=false,f_column:=true,f_columns:=false,f_dims:=false,f_cond:=true,f_event:=false }:Bu),true)
    else
     bif (p0==5) then
      some (({ f_num:=false,f_name:=false,f_column:=true,f_columns:=false,f_dims:=false,f_cond:=true,f_event:=false }:Bu),true)
     else
      bif (p0==14) then
       some (({ f_num:=false,f_name:=false,f_column:=true,f_columns:=false,f_dims:=false,f_cond:=true,f_event:=false }:Bu),true)
      else
       bif (p0==6) then
        some (({ f_num:=false,f_name:=false,f_column:=false,f_columns:=false,f_dims:=false,f_cond:=false,f_event:=false }:Bu),true)
       else
        bif (p0==7) then
         some (({ f_num:=false,f_name:=false,f_column:=false,f_columns:=false,f_dims:=false,f_cond:=false,f_event:=false }:Bu),true)
        else
         bif (p0==8) then
          some (({ f_num:=false,f_name:=false,f_column:=false,f_columns:=false,f_dims:=false,f_cond:=false,f_event:=false }:Bu),true)
         else
          bif (p0==9) then
           some (({ f_num:=false,f_name:=false,f_column:=false,f_columns:=false,f_dims:=false,f_cond:=false,f_event:=false }:Bu),true)
          else
           bif (p0==10) then
            some (({ f_num:=false,f_name:=false,f_column:=true,f_columns:=false,f_dims:=true,f_cond:=true,f_event:=false }:Bu),true)
           else
            bif (p0==11) then
             some (({ f_num:=false,f_name:=false,f_column:=true,f_columns:=true,f_dims:=false,f_cond:=true,f_event:=false }:Bu),true)
            else
             bif (p0==12) then
              some (({ f_num:=false,f_name:=false,f_column:=true,f_columns:=false,f_dims:=false,f_cond:=true,f_event:=true }:Bu),true)
             else
              bif (p0==13) then
               some (({ f_num:=true,f_name:=false,f_column:=true,f_columns:=false,f_dims:=false,f_cond:=true,f_event:=false }:Bu),true)
              else
               IE
def Dv (p0:Int):Option Bool :=
 some (bif (decide (p0 ≥ 6)) then (decide (p0≤9)) else false)
def Hh (p0:Aj):Option Bool :=
 some (bif (bif (bif (bif (bif (p0.Op==0) then (p0.Column==0) else false) then (p0.Code==0) else false) then (p0.Low==0) else false) then (p0.High==0) else false) then (((p0.Kids.length:Nat):Int)==0) else false)
def KZ (p0:Av) (p1:Bu):Option Bool :=
 bif (bif (bif (bif (bif (bif p1.f_num then true else (p0.Num==0)) then (bif p1.f_name then true else (p0.Name.toList==({ data:=#[] }:ByteArray).toList)) else false) then (bif p1.f_column then true else (p0.Column==0)) else false) then (bif p1.f_columns then true else (((p0.Columns.length:Nat):Int)==0)) else false) then (bif p1.f_dims then true else (((p0.Dims.length:Nat):Int)==0)) else false) then
  bif p1.f_cond then
   bif p1.f_event then
    (Dv p0.Op).bind fun x71 =>
    some (bif x71 then true else (((p0.Kids.length:Nat):Int)==0))
   else
    (Hh p0.Event).bind fun x65 =>
    bif x65 then
     (Dv p0.Op).bind fun x71 =>
     some (bif x71 then true else (((p0.Kids.length:Nat):Int)==0))
    else
     some false
  else
   (Hh p0.Cond).bind fun x56 =>
   bif x56 then
    bif p1.f_event then
     (Dv p0.Op).bind fun x71 =>
     some (bif x71 then true else (((p0.Kids.length:Nat):Int)==0))
    else
     (Hh p0.Event).bind fun x65 =>
     bif x65 then
      (Dv p0.Op).bind fun x71 =>
      some (bif x71 then true else (((p0.Kids.length:Nat):Int)==0))
     else
      some false
   else
    some false
 else
  some false
def Hu (p0:(List Int)) (p1:Int) (kont1_0:(Int→Option Int)) (rec1:(Int→Option Int)) (v8_1:Int):Option Int :=
 bif (decide (v8_1 < ((p0.length:Nat):Int))) then
  (idx p0 v8_1).bind fun x14 =>
  bif (p1==x14) then
   some v8_1
  else
   rec1 (IntKind.i64.wrap (v8_1 + 1))
 else
  kont1_0 v8_1
def Ey (p0:(List Int)) (p1:Int):Option Int :=
 iter (fun rec1 s=>Hu p0 p1 (fun v8_1=>some (-1)) rec1 s) AO 0
def BF (p0:(List Int)) (p1:Int):Option Bool :=
 (Ey p0 p1).bind fun x7 =>
 some (decide (x7 ≥ 0))
def Bj (p0:Ae) (p1:Int):Option Bool :=
 bif (bif (decide (p1 ≥ 0)) then (decide (p1 < ((p0.Columns.length:Nat):Int))) else false) then
  (idx p0.Columns p1).bind fun x18 =>
  some (x18.Kind==3)
 else
  some false
def Ii (p0:Ae) (p1:Aw):Option Int :=
 (Cp p0).bind fun x7 =>
 bif (x7 != 0) then
  some x7
 else
  (Eh p0 p1).bind fun x13 =>
  some x13
def DF (p0:(List Aw)) (p1:(Aw→Option Bool)) (kont1_0:(Int→Option Int)) (rec1:(Int→Option Int)) (v8_1:Int):Option Int :=
 bif (decide (v8_1 < ((p0.length:Nat):Int))) then
  (idx p0 v8_1).bind fun x14 =>
  (p1 x14).bind fun x16 =>
  bif x16 then
   some v8_1
  else
   rec1 (IntKind.i64.wrap (v8_1 + 1))
 else
  kont1_0 v8_1
def B1 (p0:(List Aw)) (p1:(Aw→Option Bool)):Option Int :=
 iter (fun rec1 s=>DF p0 p1 (fun v8_1=>some (-1)) rec1 s) AO 0
def AC (p0:(List Aw)) (p1:(Aw→Option Bool)):Option Bool :=
 (B1 p0 p1).bind fun x7 =>
 some (decide (x7 ≥ 0))
def JV (p0:Aw) (q0:Aw):Option Bool :=
 some (p0.Column==q0.Column)
def N4 (p1:(List Aw)) (p0:Ae) (kont1_0:(Int→Option Bool)) (rec1:(Int→Option Bool)) (v9_1:Int):Option Bool :=
 bif (decide (v9_1 < ((p1.length:Nat):Int))) then
  (idx p1 v9_1).bind fun x12 =>
  (Ii p0 x12).bind fun x16 =>
  bif (x16 != 0) then
   some false
  else
   (idx p0.Columns x12.Column).bind fun x23 =>
   bif (x23.Kind != 2) then
    some false
   else
    bif (decide (0≤(0:Int)∧0≤v9_1∧v9_1≤((p1.length:Nat):Int))) then
     (AC (Im p1 0 v9_1) (fun a0=>JV a0 x12)).bind fun x32 =>
     bif x32 then
      some false
     else
      rec1 (IntKind.i64.wrap (v9_1 + 1))
    else none
 else
  kont1_0 v9_1
def Ni (p0:Ae) (p1:(List Aw)):Option Bool :=
 iter (fun rec1 s=>N4 p1 p0 (fun v9_1=>some (bif (decide (((p1.length:Nat):Int) ≥ 1)) then (decide (((p1.length:Nat):Int)≤3)) else false)) rec1 s) AO 0
def M9 (p2:(List Int)) (p0:Ae) (p1:Int) (kont1_0:(Int→Option Bool)) (rec1:(Int→Option Bool)) (v11_1:Int):Option Bool :=
 bif (decide (v11_1 < ((p2.length:Nat):Int))) then
  (idx p2 v11_1).bind fun x14 =>
  (Bj p0 x14).bind fun x18 =>
  bif (bif (!x18) then true else (x14==p1)) then
   some false
  else
   bif (decide (0≤(0:Int)∧0≤v11_1∧v11_1≤((p2.length:Nat):Int))) then
    (BF (Im p2 0 v11_1) x14).bind fun x30 =>
    bif x30 then
     some false
    else
     rec1 (IntKind.i64.wrap (v11_1 + 1))
   else none
 else
  kont1_0 v11_1
def LV (p0:Ae) (p1:Int) (p2:(List Int)):Option Bool :=
 iter (fun rec1 s=>M9 p2 p0 p1 (fun v11_1=>some (bif (decide (((p2.length:Nat):Int) ≥ 1)) then (decide (((p2.length:Nat):Int)≤3)) else false)) rec1 s) AO 0
def Nj (p0:Ae) (p1:Av):Option Bool :=
 bif (p1.Op==1) then
  some (bif (decide (p1.Num ≥ (-1099511627776))) then (decide (p1.Num≤1099511627776)) else false)
 else
  bif (p1.Op==2) then
   (BO p1.Name).bind fun x21 =>
   some x21
  else
   bif (p1.Op==4) then
    (Bj p0 p1.Column).bind fun x29 =>
    some x29
   else
    bif (p1.Op==5) then
     (Bj p0 p1.Column).bind fun x29 =>
     some x29
    else
     bif (p1.Op==14) then
      (Bj p0 p1.Column).bind fun x29 =>
      some x29
     else
      bif (p1.Op==10) then
       (Ni p0 p1.Dims).bind fun x35 =>
       bif x35 then
        bif (p1.Column==(-1)) then
         some true
        else
         (Bj p0 p1.Column).bind fun x44 =>
         some x44
       else
        some false
      else
       bif (p1.Op==11) then
        (Bj p0 p1.Column).bind fun x52 =>
        bif x52 then
         (LV p0 p1.Column p1.Columns).bind fun x59 =>
         some x59
        else
         some false
       else
        bif (p1.Op==12) then
         (Bj p0 p1.Column).bind fun x66 =>
         bif x66 then
          (idx p0.Columns p1.Column).bind fun x72 =>
          some (decide (x72.Low ≥ 0))
         else
          some false
        else
         bif (p1.Op==13) then
          (Bj p0 p1.Column).bind fun x82 =>
          bif x82 then
           (idx p0.Columns p1.Column).bind fun x88 =>
           (BF x88.Widths p1.Num).bind fun x93 =>
           some x93
          else
           some false
         else
          some true
def ID (p0:Int):Option Bool :=
 some (bif (decide (p0 ≥ 1)) then (decide (p0≤9)) else false)
def Jr (x10:(Bu × Bool)) (d:Nat) (p0:Ae) (p1:Av) (self_program_right_c1:(Av→Ae→Option Bool)):Option Bool :=
 bif x10.1.f_cond then
  (Bi d p0 p1.Cond).bind fun x33 =>
  bif (x33 != 0) then
   some false
  else
   bif x10.1.f_event then
    (Bi d p0 p1.Event).bind fun x43 =>
    bif (x43 != 0) then
     some false
    else
     (Dv p1.Op).bind fun x49 =>
     bif (bif x49 then (((p1.Kids.length:Nat):Int) != 2) else false) then
      some false
     else
      (AJ p1.Kids (fun a0=>self_program_right_c1 a0 p0)).bind fun x59 =>
      some (!x59)
   else
    (Dv p1.Op).bind fun x49 =>
    bif (bif x49 then (((p1.Kids.length:Nat):Int) != 2) else false) then
     some false
    else
     (AJ p1.Kids (fun a0=>self_program_right_c1 a0 p0)).bind fun x59 =>
     some (!x59)
 else
  bif x10.1.f_event then
   (Bi d p0 p1.Event).bind fun x43 =>
   bif (x43 != 0) then
    some false
   else
    (Dv p1.Op).bind fun x49 =>
    bif (bif x49 then (((p1.Kids.length:Nat):Int) != 2) else false) then
     some false
    else
     (AJ p1.Kids (fun a0=>self_program_right_c1 a0 p0)).bind fun x59 =>
     some (!x59)
  else
   (Dv p1.Op).bind fun x49 =>
   bif (bif x49 then (((p1.Kids.length:Nat):Int) != 2) else false) then
    some false
   else
    (AJ p1.Kids (fun a0=>self_program_right_c1 a0 p0)).bind fun x59 =>
    some (!x59)
def JY (d:Nat) (self_program_right:(Ae→Av→Option Bool)) (self_program_right_c1:(Av→Ae→Option Bool)) (p0:Ae) (p1:Av):Option Bool :=
 (KY p1.Op).bind fun x10 =>
 bif (!x10.2) then
  some false
 else
  (KZ p1 x10.1).bind fun x18 =>
  bif (!x18) then
   some false
  else
   (Nj p0 p1).bind fun x24 =>
   bif (!x24) then
    some false
   else
    Jr x10 d p0 p1 self_program_right_c1
def HO (d:Nat) (self_program_right:(Ae→Av→Option Bool)) (self_program_right_c1:(Av→Ae→Option Bool)) (p0:Av) (q0:Ae):Option Bool :=
 (ID p0.Op).bind fun x6 =>
 bif (!x6) then
  some true
 else
  (self_program_right q0 p0).bind fun x11 =>
  some (!x11)
mutual
def Hk:Nat→Ae→Av→Option Bool
 | 0,_,_=>none
 | d + 1,p0,p1=>JY d (Hk d) (Jq d) p0 p1
def Jq:Nat→Av→Ae→Option Bool
 | 0,_,_=>none
 | d + 1,p0,q0=>HO d (Hk d) (Jq d) p0 q0
end
def J7 (d:Nat) (p0:Ae) (p1:Av):Option Bool :=
 (Cp p0).bind fun x6 =>
 bif (x6==0) then
  (Hk d p0 p1).bind fun x11 =>
  some x11
 else
  some false
def JX (d:Nat) (self_program_named:(Av→(ByteArray→Option Bool)→Option Bool)) (self_program_named_c1:(Av→(ByteArray→Option Bool)→Option Bool)) (p0:Av) (p1:(ByteArray→Option Bool)):Option Bool :=
 bif (p0.Op==2) then
  (p1 p0.Name).bind fun x12 =>
  bif (!x12) then
   some false
  else
   (AJ p0.Kids (fun a0=>self_program_named_c1 a0 p1)).bind fun x18 =>
   some (!x18)
 else
  (AJ p0.Kids (fun a0=>self_program_named_c1 a0 p1)).bind fun x18 =>
  some (!x18)
def HM (d:Nat) (self_program_named:(Av→(ByteArray→Option Bool)→Option Bool)) (self_program_named_c1:(Av→(ByteArray→Option Bool)→Option Bool)) (p0:Av) (q0:(ByteArray→Option Bool)):Option Bool :=
 (self_program_named p0 q0).bind fun x6 =>
 some (!x6)
mutual
def Hj:Nat→Av→(ByteArray→Option Bool)→Option Bool
 | 0,_,_=>none
 | d + 1,p0,p1=>JX d (Hj d) (Jp d) p0 p1
def Jp:Nat→Av→(ByteArray→Option Bool)→Option Bool
 | 0,_,_=>none
 | d + 1,p0,q0=>HM d (Hj d) (Jp d) p0 q0
end
def Jo (d:Nat) (p0:Ae) (p1:(List Ax)) (p2:Ax):Option Int :=
 (BO p2.Name).bind fun x12 =>
 bif (!x12) then
  some 3
 else
  (Fj p2.Name p1).bind fun x18 =>
  bif x18 then
   some 10
  else
   (J8 d p2.Expr 60).bind fun x22 =>
   bif (decide (x22 > 60)) then
    some 1
   else
    (Kw d p2.Expr).bind fun x27 =>
    bif (decide (x27 > 10)) then
     some 22
    else
     (J7 d p0 p2.Expr).bind fun x33 =>
     bif (!x33) then
      some 11
     else
      (Hj d p2.Expr (fun a0=>Fj a0 p1)).bind fun x39 =>
      bif (!x39) then
       some 24
      else
       some 0
def M5 (p1:(List Ax)) (d:Nat) (p0:Ae) (kont1_0:(Int→Option (Int × Int))) (rec1:(Int→Option (Int × Int))) (v20_1:Int):Option (Int × Int) :=
 bif (decide (v20_1 < ((p1.length:Nat):Int))) then
  (idx p1 v20_1).bind fun x23 =>
  bif (decide (0≤(0:Int)∧0≤v20_1∧v20_1≤((p1.length:Nat):Int))) then
   (Jo d p0 (Im p1 0 v20_1) x23).bind fun x30 =>
   bif (x30 != 0) then
    some (v20_1,x30)
   else
    rec1 (IntKind.i64.wrap (v20_1 + 1))
  else none
 else
  kont1_0 v20_1
def J6 (d:Nat) (p0:Ae) (p1:(List Ax)):Option (Int × Int) :=
 (Cp p0).bind fun x11 =>
 bif (x11 != 0) then
  some ((-1),x11)
 else
  bif (decide (((p1.length:Nat):Int) > 30)) then
   some ((-1),1)
  else
   iter (fun rec1 s=>M5 p1 d p0 (fun v20_1=>some (((p1.length:Nat):Int),0)) rec1 s) AO 0
def FA (p0:Aw) (q0:Aw):Option Bool :=
 some (bif (p0.Column==q0.Column) then (decide (p0.Level ≥ q0.Level)) else false)
def GZ (p0:Aw) (q0:(List Aw)):Option Bool :=
 (AC q0 (fun a0=>FA a0 p0)).bind fun x6 =>
 some (!x6)
def GH (p0:(List Aw)) (p1:(List Aw)):Option Bool :=
 (AC p1 (fun a0=>GZ a0 p0)).bind fun x7 =>
 some (!x7)
def KC (p0:Aj) (self_condition_Atoms:(Aj→Option (List Aj))) (kont1_0:(Int→(List Aj)→Option (List Aj))) (rec1:((Int × (List Aj))→Option (List Aj))) (v24_1:Int) (b3_1:(List Aj)):Option (List Aj) :=
 bif (decide (v24_1 < ((p0.Kids.length:Nat):Int))) then
  (idx p0.Kids v24_1).bind fun x26 =>
  (self_condition_Atoms x26).bind fun x30 =>
  bif rm b3_1.length x30.length then
   rec1 ((IntKind.i64.wrap (v24_1 + 1)),(b3_1++x30))
  else none
 else
  kont1_0 v24_1 b3_1
def Iy (d:Nat) (self_condition_Atoms:(Aj→Option (List Aj))) (p0:Aj):Option (List Aj) :=
 bif (bif (bif (p0.Op==2) then true else (p0.Op==3)) then true else (p0.Op==4)) then
  some [p0]
 else
  iter (fun rec1 s=>KC p0 self_condition_Atoms (fun v24_1 b3_1=>some b3_1) rec1 s.1 s.2) AO (0,[])
def Hw:Nat→Aj→Option (List Aj)
 | 0,_=>none
 | d + 1,p0=>Iy d (Hw d) p0
def FY (p0:Bool):Option Int :=
 bif p0 then
  some 1
 else
  some (-1)
def NM (p0:Ay) (p1:Int) (p2:Int):Option Bool :=
 (Mk p0 p1).bind fun x9 =>
 bif (!x9) then
  some false
 else
  (Mk p0 p2).bind fun x14 =>
  bif (!x14) then
   some false
  else
   (F9 p0).bind fun x20 =>
   (idx x20 p2).bind fun x22 =>
   (G4 p0 p1 x22).bind fun x24 =>
   some (x24==p2)
def Ix (p0:Ae) (p1:Aj) (p2:Int):Option Int :=
 bif (p1.Op==2) then
  (idx p0.Columns p1.Column).bind fun x17 =>
  (idx p0.Lists x17.List_).bind fun x20 =>
  (NM x20 p2 p1.Code).bind fun x25 =>
  (FY x25).bind fun x26 =>
  some x26
 else
  bif (p1.Op==4) then
   (FY (p2==(-1099511627776))).bind fun x33 =>
   some x33
  else
   bif (p2==(-1099511627776)) then
    some 0
   else
    (FY (bif (decide (p2 ≥ p1.Low)) then (decide (p2≤p1.High)) else false)).bind fun x47 =>
    some x47
def JR (p0:A4) (p1:Int):Option Int :=
 (idx p0.Widths (IntKind.i64.wrap (((p0.Widths.length:Nat):Int) - p1))).bind fun x12 =>
 some x12
def G6 (p0:Int) (p1:Int):Option Int :=
 bif (decide (p1≠0)) then
  bif (decide ((Int.tmod p0 p1) < 0)) then
   some (IntKind.i64.wrap (p0 - (IntKind.i64.wrap ((Int.tmod p0 p1) + p1))))
  else
   some (IntKind.i64.wrap (p0 - (Int.tmod p0 p1)))
 else none
def IZ (x39:(List Int)) (x32:Ay) (p2:Int) (p0:Ae) (p1:Aj) (kont1_0:(Int→(List (Int × Int))→Option Bool)) (rec1:((Int × (List (Int × Int)))→Option Bool)) (v41_1:Int) (b34_1:(List (Int × Int))):Option Bool :=
 bif (decide (v41_1 < ((x39.length:Nat):Int))) then
  (idx x39 v41_1).bind fun x43 =>
  (G4 x32 x43 p2).bind fun x48 =>
  (Ix p0 p1 x43).bind fun x52 =>
  bif (bif ((Jm x48 b34_1).isSome) then (((Jm x48 b34_1).getD 0) != x52) else false) then
   some false
  else
   rec1 ((IntKind.i64.wrap (v41_1 + 1)),(Va x48 x52 b34_1))
 else
  kont1_0 v41_1 b34_1
def FC (p0:Ae) (p1:Aj) (p2:Int):Option Bool :=
 (idx p0.Columns p1.Column).bind fun x23 =>
 bif (p1.Op==2) then
  (idx p0.Lists x23.List_).bind fun x32 =>
  (EE x32).bind fun x37 =>
  (JH x32 (IntKind.i64.wrap (x37 - 1))).bind fun x39 =>
  iter (fun rec1 s=>IZ x39 x32 p2 p0 p1 (fun v41_1 b34_1=>some true) rec1 s.1 s.2) AO (0,[])
 else
  bif (bif (p2==0) then x23.Optional else false) then
   some false
  else
   bif (p1.Op==4) then
    some true
   else
    bif (decide ((if x23.Low > p1.Low then x23.Low else p1.Low) > (if x23.High < p1.High then x23.High else p1.High))) then
     some true
    else
     bif (p2==0) then
      some (bif ((if x23.Low > p1.Low then x23.Low else p1.Low)==x23.Low) then ((if x23.High < p1.High then x23.High else p1.High)==x23.High) else false)
     else
      (JR x23 p2).bind fun x107 =>
      bif ((if x23.Low > p1.Low then x23.Low else p1.Low)==x23.Low) then
       bif ((if x23.High < p1.High then x23.High else p1.High)==x23.High) then
        some true
       else
        (G6 (IntKind.i64.wrap ((if x23.High < p1.High then x23.High else p1.High) + 1)) x107).bind fun x128 =>
        some (x128==(IntKind.i64.wrap ((if x23.High < p1.High then x23.High else p1.High) + 1)))
      else
       (G6 (if x23.Low > p1.Low then x23.Low else p1.Low) x107).bind fun x115 =>
       bif (x115==(if x23.Low > p1.Low then x23.Low else p1.Low)) then
        bif ((if x23.High < p1.High then x23.High else p1.High)==x23.High) then
         some true
        else
         (G6 (IntKind.i64.wrap ((if x23.High < p1.High then x23.High else p1.High) + 1)) x107).bind fun x128 =>
         some (x128==(IntKind.i64.wrap ((if x23.High < p1.High then x23.High else p1.High) + 1)))
       else
        some false
def FB (b19_1:(List Int)) (x25:Aj) (rec1:((Int × (List Int))→Option (List Aw))) (v23_1:Int) (v8_2:Int):Option (List Aw) :=
 (idx b19_1 x25.Column).bind fun x40 =>
 (idx b19_1 x25.Column).bind fun x44 =>
 rec1 ((IntKind.i64.wrap (v23_1 + 1)),(b19_1.set (x25.Column:Int).toNat (if v8_2 > x40 then v8_2 else x40)))
def KG (p0:Ae) (x25:Aj) (kont2_2:(Int→Option (List Aw))) (rec2:(Int→Option (List Aw))) (v8_2:Int):Option (List Aw) :=
 (FC p0 x25 v8_2).bind fun x30 =>
 bif (!x30) then
  rec2 (IntKind.i64.wrap (v8_2 + 1))
 else
  kont2_2 v8_2
def KH (b19_1:(List Int)) (kont3_4:(Int→(List Aw)→Option (List Aw))) (rec3:((Int × (List Aw))→Option (List Aw))) (v48_3:Int) (b9_3:(List Aw)):Option (List Aw) :=
 bif (decide (v48_3 < ((b19_1.length:Nat):Int))) then
  (idx b19_1 v48_3).bind fun x51 =>
  bif (decide (x51 > 0)) then
   bif rm b9_3.length [({ Column:=v48_3,Level:=x51 }:Aw)].length then
    rec3 ((IntKind.i64.wrap (v48_3 + 1)),(b9_3++[({ Column:=v48_3,Level:=x51 }:Aw)]))
   else none
  else
   rec3 ((IntKind.i64.wrap (v48_3 + 1)),b9_3)
 else
  kont3_4 v48_3 b9_3
def KF (x21:(List Aj)) (p0:Ae) (kont1_0:(Int→(List Int)→Option (List Aw))) (rec1:((Int × (List Int))→Option (List Aw))) (v23_1:Int) (b19_1:(List Int)):Option (List Aw) :=
 bif (decide (v23_1 < ((x21.length:Nat):Int))) then
  (idx x21 v23_1).bind fun x25 =>
  iter (fun rec2 s=>KG p0 x25 (FB b19_1 x25 rec1 v23_1) rec2 s) AO 0
 else
  kont1_0 v23_1 b19_1
def FX (d:Nat) (p0:Ae) (p1:Aj):Option (List Aw) :=
 (Bi d p0 p1).bind fun x14 =>
 bif (x14 != 0) then
  some []
 else
  bif (decide (0≤((p0.Columns.length:Nat):Int)) && rm (((p0.Columns.length:Nat):Int):Int).toNat 0) then
   (Hw d p1).bind fun x21 =>
   iter (fun rec1 s=>KF x21 p0 (fun v23_1 b19_1=>iter (fun rec3 s=>KH b19_1 (fun v48_3 b9_3=>some b9_3) rec3 s.1 s.2) AO (0,[])) rec1 s.1 s.2) AO (0,(List.replicate (((p0.Columns.length:Nat):Int):Int).toNat 0))
  else none
def MH (x13:A4) (p2:Int) (kont1_0:(Int→Option Int)) (rec1:(Int→Option Int)) (v18_1:Int):Option Int :=
 bif (decide (v18_1 < ((x13.Widths.length:Nat):Int))) then
  (idx x13.Widths v18_1).bind fun x21 =>
  bif (x21==p2) then
   some (IntKind.i64.wrap (((x13.Widths.length:Nat):Int) - v18_1))
  else
   rec1 (IntKind.i64.wrap (v18_1 + 1))
 else
  kont1_0 v18_1
def Mb (p0:Ae) (p1:Int) (p2:Int):Option Int :=
 (idx p0.Columns p1).bind fun x13 =>
 iter (fun rec1 s=>MH x13 p2 (fun v18_1=>some 0) rec1 s) AO 0
def Gm (p0:Ae) (p1:Int):Option Int :=
 (Cp p0).bind fun x6 =>
 bif (x6 != 0) then
  some (-1)
 else
  (Eg p0 p1).bind fun x10 =>
  some x10
def JF (p0:Ae) (p1:Int) (p2:Int):Option Int :=
 (idx p0.Columns p1).bind fun x13 =>
 bif (x13.Kind==2) then
  (idx p0.Lists x13.List_).bind fun x22 =>
  (JH x22 p2).bind fun x25 =>
  some ((x25.length:Nat):Int)
 else
  bif (p2==0) then
   some 1
  else
   (FV x13 p2).bind fun x31 =>
   (Ef x13.High x31).bind fun x35 =>
   (Ef x13.Low x31).bind fun x39 =>
   bif (decide (x31≠0)) then
    bif x13.Optional then
     some (IntKind.i64.wrap ((IntKind.i64.wrap ((IntKind.i64.wrap (Int.tdiv (IntKind.i64.wrap (x35 - x39)) x31)) + 1)) + 1))
    else
     some (IntKind.i64.wrap ((IntKind.i64.wrap (Int.tdiv (IntKind.i64.wrap (x35 - x39)) x31)) + 1))
   else none
def N7 (p0:Ae) (p1:Int) (kont1_0:(Int→Option Int)) (rec1:(Int→Option Int)) (v2_1:Int):Option Int :=
 bif (decide (v2_1 > 0)) then
  (JF p0 p1 (IntKind.i64.wrap (v2_1 - 1))).bind fun x25 =>
  (JF p0 p1 v2_1).bind fun x29 =>
  bif (x25==x29) then
   rec1 (IntKind.i64.wrap (v2_1 - 1))
  else
   kont1_0 v2_1
 else
  kont1_0 v2_1
def IS (p0:Ae) (p1:Int) (p2:Int):Option Int :=
 (Gm p0 p1).bind fun x10 =>
 bif (bif (decide (p2 < 0)) then true else (decide (p2 > x10))) then
  some (-1)
 else
  iter (fun rec1 s=>N7 p0 p1 (fun v2_1=>some v2_1) rec1 s) AO p2
def Ea (p0:Int) (q0:(List Aw)) (q1:Ae):Option (List Aw) :=
 (Gm q1 p0).bind fun x10 =>
 (IS q1 p0 x10).bind fun x11 =>
 bif rm q0.length [({ Column:=p0,Level:=x11 }:Aw)].length then
  some (q0++[({ Column:=p0,Level:=x11 }:Aw)])
 else none
def Ru (p1:Av) (p0:Ae) (kont2_3:(Int→(List Aw)→Option (List Aw))) (rec2:((Int × (List Aw))→Option (List Aw))) (v69_2:Int) (b30_2:(List Aw)):Option (List Aw) :=
 bif (decide (v69_2 < ((p1.Columns.length:Nat):Int))) then
  (idx p1.Columns v69_2).bind fun x71 =>
  (Ea x71 b30_2 p0).bind fun x75 =>
  rec2 ((IntKind.i64.wrap (v69_2 + 1)),x75)
 else
  kont2_3 v69_2 b30_2
def BM (p1:Av) (p0:Ae) (k30_2:(List Aw)):Option (List Aw) :=
 iter (fun rec2 s=>Ru p1 p0 (fun v69_2 b30_2=>some b30_2) rec2 s.1 s.2) AO (0,k30_2)
def Nr (p1:Av) (p0:Ae) (k30_1:(List Aw)):Option (List Aw) :=
 bif (p1.Op==4) then
  bif (decide (p1.Column > 0)) then
   (Ea p1.Column k30_1 p0).bind fun x47 =>
   BM p1 p0 x47
  else
   BM p1 p0 k30_1
 else
  bif (p1.Op==5) then
   bif (decide (p1.Column > 0)) then
    (Ea p1.Column k30_1 p0).bind fun x47 =>
    BM p1 p0 x47
   else
    BM p1 p0 k30_1
  else
   bif (p1.Op==10) then
    bif (decide (p1.Column > 0)) then
     (Ea p1.Column k30_1 p0).bind fun x47 =>
     BM p1 p0 x47
    else
     BM p1 p0 k30_1
   else
    bif (p1.Op==11) then
     bif (decide (p1.Column > 0)) then
      (Ea p1.Column k30_1 p0).bind fun x47 =>
      BM p1 p0 x47
     else
      BM p1 p0 k30_1
    else
     bif (p1.Op==12) then
      bif (decide (p1.Column > 0)) then
       (Ea p1.Column k30_1 p0).bind fun x47 =>
       BM p1 p0 x47
      else
       BM p1 p0 k30_1
     else
      bif (p1.Op==14) then
       bif (decide (p1.Column > 0)) then
        (Ea p1.Column k30_1 p0).bind fun x47 =>
        BM p1 p0 x47
       else
        BM p1 p0 k30_1
      else
       bif (p1.Op==13) then
        (Mb p0 p1.Column p1.Num).bind fun x61 =>
        (IS p0 p1.Column x61).bind fun x62 =>
        bif rm k30_1.length [({ Column:=p1.Column,Level:=x62 }:Aw)].length then
         BM p1 p0 (k30_1++[({ Column:=p1.Column,Level:=x62 }:Aw)])
        else none
       else
        BM p1 p0 k30_1
def Rt (p1:Av) (p0:Ae) (kont1_0:(Int→(List Aw)→Option (List Aw))) (rec1:((Int × (List Aw))→Option (List Aw))) (v15_1:Int) (b30_1:(List Aw)):Option (List Aw) :=
 bif (decide (v15_1 < ((p1.Dims.length:Nat):Int))) then
  (idx p1.Dims v15_1).bind fun x17 =>
  (IS p0 x17.Column x17.Level).bind fun x27 =>
  bif rm b30_1.length [({ Column:=x17.Column,Level:=x27 }:Aw)].length then
   rec1 ((IntKind.i64.wrap (v15_1 + 1)),(b30_1++[({ Column:=x17.Column,Level:=x27 }:Aw)]))
  else none
 else
  kont1_0 v15_1 b30_1
def Sc (p0:Ae) (p1:Av):Option (List Aw) :=
 iter (fun rec1 s=>Rt p1 p0 (fun v15_1 b30_1=>Nr p1 p0 b30_1) rec1 s.1 s.2) AO (0,[])
def Lb (x16:(List Aw)) (kont2_2:(Int→Int→(List (Int × Int))→Option (List Aw))) (rec2:((Int × Int × (List (Int × Int)))→Option (List Aw))) (v4_2:Int) (v20_2:Int) (b11_2:(List (Int × Int))):Option (List Aw) :=
 bif (decide (v20_2 < ((x16.length:Nat):Int))) then
  (idx x16 v20_2).bind fun x22 =>
  rec2 ((if x22.Column > v4_2 then x22.Column else v4_2),(IntKind.i64.wrap (v20_2 + 1)),(Va x22.Column (if x22.Level > ((Jm x22.Column b11_2).getD 0) then x22.Level else ((Jm x22.Column b11_2).getD 0)) b11_2))
 else
  kont2_2 v4_2 v20_2 b11_2
def Lc (v4_1:Int) (b11_1:(List (Int × Int))) (kont3_4:(Int→(List Aw)→Option (List Aw))) (rec3:((Int × (List Aw))→Option (List Aw))) (v42_3:Int) (b9_3:(List Aw)):Option (List Aw) :=
 bif (decide (v42_3 < (IntKind.i64.wrap (v4_1 + 1)))) then
  bif (decide (((Jm v42_3 b11_1).getD 0) > 0)) then
   bif rm b9_3.length [({ Column:=v42_3,Level:=((Jm v42_3 b11_1).getD 0) }:Aw)].length then
    rec3 ((IntKind.i64.wrap (v42_3 + 1)),(b9_3++[({ Column:=v42_3,Level:=((Jm v42_3 b11_1).getD 0) }:Aw)]))
   else none
  else
   rec3 ((IntKind.i64.wrap (v42_3 + 1)),b9_3)
 else
  kont3_4 v42_3 b9_3
def La (p0:(List (List Aw))) (kont1_0:(Int→Int→(List (Int × Int))→Option (List Aw))) (rec1:((Int × Int × (List (Int × Int)))→Option (List Aw))) (v4_1:Int) (v14_1:Int) (b11_1:(List (Int × Int))):Option (List Aw) :=
 bif (decide (v14_1 < ((p0.length:Nat):Int))) then
  (idx p0 v14_1).bind fun x16 =>
  iter (fun rec2 s=>Lb x16 (fun v4_2 v20_2 b11_2=>rec1 (v4_2,(IntKind.i64.wrap (v14_1 + 1)),b11_2)) rec2 s.1 s.2.1 s.2.2) AO (v4_1,0,b11_1)
 else
  kont1_0 v4_1 v14_1 b11_1
def JZ (p0:(List (List Aw))):Option (List Aw) :=
 iter (fun rec1 s=>La p0 (fun v4_1 v14_1 b11_1=>iter (fun rec3 s=>Lc v4_1 b11_1 (fun v42_3 b9_3=>some b9_3) rec3 s.1 s.2) AO (0,[])) rec1 s.1 s.2.1 s.2.2) AO (0,0,[])
def OG (p1:Av) (self_types_needs:(Ae→Av→Option (List Aw))) (p0:Ae) (kont1_0:(Int→(List (List Aw))→Option (List Aw))) (rec1:((Int × (List (List Aw)))→Option (List Aw))) (v23_1:Int) (b19_1:(List (List Aw))):Option (List Aw) :=
 bif (decide (v23_1 < ((p1.Kids.length:Nat):Int))) then
  (idx p1.Kids v23_1).bind fun x25 =>
  (self_types_needs p0 x25).bind fun x30 =>
  bif rm b19_1.length [x30].length then
   rec1 ((IntKind.i64.wrap (v23_1 + 1)),(b19_1++[x30]))
  else none
 else
  kont1_0 v23_1 b19_1
def Me (d:Nat) (self_types_needs:(Ae→Av→Option (List Aw))) (p0:Ae) (p1:Av):Option (List Aw) :=
 (Sc p0 p1).bind fun x10 =>
 (FX d p0 p1.Cond).bind fun x14 =>
 (FX d p0 p1.Event).bind fun x18 =>
 iter (fun rec1 s=>OG p1 self_types_needs p0 (fun v23_1 b19_1=>(JZ b19_1).bind fun x35=>some x35) rec1 s.1 s.2) AO (0,[x10,x14,x18])
def LH:Nat→Ae→Av→Option (List Aw)
 | 0,_,_=>none
 | d + 1,p0,p1=>Me d (LH d) p0 p1
def PI (p0:(List AR)) (p1:Av) (kont2_3:(Int→Option (Int × Int))) (rec2:(Int→Option (Int × Int))) (v11_2:Int):Option (Int × Int) :=
 bif (decide (v11_2 ≥ 0)) then
  (idx p0 v11_2).bind fun x47 =>
  bif (x47.Name.toList==p1.Name.toList) then
   (idx p0 v11_2).bind fun x55 =>
   some (x55.Value.Kind,0)
  else
   rec2 (IntKind.i64.wrap (v11_2 - 1))
 else
  kont2_3 v11_2
def Md (p1:Av) (p0:(List AR)) (j6_1:Bool):Option (Int × Int) :=
 bif (p1.Op==2) then
  iter (fun rec2 s=>PI p0 p1 (fun v11_2=>some (0,24)) rec2 s) AO (IntKind.i64.wrap (((p0.length:Nat):Int) - 1))
 else
  bif (!j6_1) then
   some (0,16)
  else
   (ID p1.Op).bind fun x65 =>
   bif x65 then
    some (1,0)
   else
    some ((IntKind.i64.wrap ((IntKind.i64.wrap (p1.Op - 10)) + 2)),0)
def PH (p1:Av) (self_types_kind:((List AR)→Av→Option (Int × Int))) (p0:(List AR)) (kont1_0:(Bool→Int→Option (Int × Int))) (rec1:((Bool × Int)→Option (Int × Int))) (v6_1:Bool) (v15_1:Int):Option (Int × Int) :=
 bif (decide (v15_1 < ((p1.Kids.length:Nat):Int))) then
  (idx p1.Kids v15_1).bind fun x17 =>
  (self_types_kind p0 x17).bind fun x22 =>
  bif (x22.2 != 0) then
   some (0,x22.2)
  else
   rec1 ((bif v6_1 then (x22.1==1) else false),(IntKind.i64.wrap (v15_1 + 1)))
 else
  kont1_0 v6_1 v15_1
def Nq (d:Nat) (self_types_kind:((List AR)→Av→Option (Int × Int))) (p0:(List AR)) (p1:Av):Option (Int × Int) :=
 iter (fun rec1 s=>PH p1 self_types_kind p0 (fun v6_1 v15_1=>Md p1 p0 v6_1) rec1 s.1 s.2) AO (true,0)
def Np:Nat→(List AR)→Av→Option (Int × Int)
 | 0,_,_=>none
 | d + 1,p0,p1=>Nq d (Np d) p0 p1
def Qq (d:Nat) (p0:Ae) (p1:(List Aw)) (p2:(List AR)) (p3:Av):Option (Int × Int) :=
 (J7 d p0 p3).bind fun x12 =>
 bif (!x12) then
  some (0,11)
 else
  (GR p0 p1).bind fun x16 =>
  bif (x16 != 0) then
   some (0,23)
  else
   (LH d p0 p3).bind fun x22 =>
   (GH p1 x22).bind fun x23 =>
   bif (!x23) then
    some (0,23)
   else
    (Np d p2 p3).bind fun x28 =>
    some (x28.1,x28.2)
def MJ (p2:(List Ax)) (d:Nat) (p0:Ae) (p1:(List Aw)) (kont1_0:(Int→(List Int)→(List AR)→Option ((List Int) × Int × Int))) (rec1:((Int × (List Int) × (List AR))→Option ((List Int) × Int × Int))) (v29_1:Int) (b11_1:(List Int)) (b12_1:(List AR)):Option ((List Int) × Int × Int) :=
 bif (decide (v29_1 < ((p2.length:Nat):Int))) then
  (idx p2 v29_1).bind fun x32 =>
  (Qq d p0 p1 b12_1 x32.Expr).bind fun x40 =>
  bif (x40.2 != 0) then
   some ([],v29_1,x40.2)
  else
   bif rm b11_1.length [x40.1].length then
    bif rm b12_1.length ([({ Name:=x32.Name,Out:=false,Value:=({ Kind:=x40.1,Number:=({ Num:=0,Den:=0 }:AX),Table:=({ Dims:=[],Measure:=0,Cells:=[] }:E5),Model:=({ Measure:=0,Terms:=[],Coefs:=[],Residual:=({ Num:=0,Den:=0 }:AX),Total:=({ Num:=0,Den:=0 }:AX),Count:=0,Free:=0 }:E4),Curve:=[],Hist:=[],Box:=({ Count:=0,Least:=0,Lower:=0,Middle:=0,Upper:=0,Greatest:=0 }:LK),Lineage:=[] }:Bd) }:AR)]).length then
     rec1 ((IntKind.i64.wrap (v29_1 + 1)),(b11_1++[x40.1]),(b12_1++[({ Name:=x32.Name,Out:=false,Value:=({ Kind:=x40.1,Number:=({ Num:=0,Den:=0 }:AX),Table:=({ Dims:=[],Measure:=0,Cells:=[] }:E5),Model:=({ Measure:=0,Terms:=[],Coefs:=[],Residual:=({ Num:=0,Den:=0 }:AX),Total:=({ Num:=0,Den:=0 }:AX),Count:=0,Free:=0 }:E4),Curve:=[],Hist:=[],Box:=({ Count:=0,Least:=0,Lower:=0,Middle:=0,Upper:=0,Greatest:=0 }:LK),Lineage:=[] }:Bd) }:AR)]))
    else none
   else none
 else
  kont1_0 v29_1 b11_1 b12_1
def Mc (d:Nat) (p0:Ae) (p1:(List Aw)) (p2:(List Ax)):Option ((List Int) × Int × Int) :=
 (J6 d p0 p2).bind fun x20 =>
 bif (x20.2 != 0) then
  some ([],x20.1,x20.2)
 else
  iter (fun rec1 s=>MJ p2 d p0 p1 (fun v29_1 b11_1 b12_1=>some (b11_1,((p2.length:Nat):Int),0)) rec1 s.1 s.2.1 s.2.2) AO (0,[],[])
def Cf (p0:(List Aw)):Option (List Aw):=bif rm 0 p0.length then some p0 else none
def Df (p0:(List F7)):Option (List F7):=bif rm 0 p0.length then some p0 else none
def Fa (p0:(List AX)):Option (List AX):=bif rm 0 p0.length then some p0 else none
def De (p0:(List HD)):Option (List HD):=bif rm 0 p0.length then some p0 else none
def F6 (p0:(List XS)):Option (List XS):=bif rm 0 p0.length then some p0 else none
def KQ (p0:Bd) (x8:(List Aw)) (x14:(List F7)):Option Bd :=
 (Cb p0.Model.Terms).bind fun x48 =>
 (Fa p0.Model.Coefs).bind fun x52 =>
 (De p0.Curve).bind fun x59 =>
 (F6 p0.Hist).bind fun x62 =>
 (Cb p0.Lineage).bind fun x65 =>
 some ({ Kind:=p0.Kind,Number:=p0.Number,Table:=({ Dims:=x8,Measure:=p0.Table.Measure,Cells:=x14 }:E5),Model:=({ Measure:=p0.Model.Measure,Terms:=x48,Coefs:=x52,Residual:=p0.Model.Residual,Total:=p0.Model.Total,Count:=p0.Model.Count,Free:=p0.Model.Free }:E4),Curve:=x59,Hist:=x62,Box:=p0.Box,Lineage:=x65 }:Bd)
def KP (x14:(List F7)) (kont1_0:(Option Bd)) (rec1:(Unit→Option Bd)) :Option Bd :=
 bif (decide (0 < ((x14.length:Nat):Int))) then
  (idx x14 0).bind fun x24 =>
  (Cb x24.Codes).bind fun x36 =>
  (Cb x24.Rows).bind fun x39 =>
  (idx x14 0).bind fun x40 =>
  none
 else
  kont1_0
def Hz (p0:Bd):Option Bd :=
 (Cf p0.Table.Dims).bind fun x8 =>
 (Df p0.Table.Cells).bind fun x14 =>
 iter (fun rec1 s=>KP x14 (KQ p0 x8 x14) rec1) AO ()
def HY (v5_1:Int):Option Bd :=
 some ({ Kind:=0,Number:=({ Num:=0,Den:=0 }:AX),Table:=({ Dims:=[],Measure:=0,Cells:=[] }:E5),Model:=({ Measure:=0,Terms:=[],Coefs:=[],Residual:=({ Num:=0,Den:=0 }:AX),Total:=({ Num:=0,Den:=0 }:AX),Count:=0,Free:=0 }:E4),Curve:=[],Hist:=[],Box:=({ Count:=0,Least:=0,Lower:=0,Middle:=0,Upper:=0,Greatest:=0 }:LK),Lineage:=[] }:Bd)
def HX (p0:AK) (p1:ByteArray) (kont1_0:(Int→Option Bd)) (rec1:(Int→Option Bd)) (v5_1:Int):Option Bd :=
 bif (decide (v5_1 ≥ 0)) then
  (idx p0.f_before v5_1).bind fun x17 =>
  bif (x17.Name.toList==p1.toList) then
   (idx p0.f_before v5_1).bind fun x25 =>
   (Hz x25.Value).bind fun x28 =>
   some x28
  else
   rec1 (IntKind.i64.wrap (v5_1 - 1))
 else
  kont1_0 v5_1
def GA (p0:AK) (p1:ByteArray):Option Bd :=
 iter (fun rec1 s=>HX p0 p1 HY rec1 s) AO (IntKind.i64.wrap (((p0.f_before.length:Nat):Int) - 1))
def Ji (d:Nat) (self_condition_tell:(Aj→(Aj→Option Int)→Option Int)) (p0:Aj) (p1:(Aj→Option Int)):Option Int :=
 bif (p0.Op==1) then
  some 1
 else
  bif (p0.Op==5) then
   (idx p0.Kids 0).bind fun x13 =>
   (self_condition_tell x13 p1).bind fun x16 =>
   (idx p0.Kids 1).bind fun x19 =>
   (self_condition_tell x19 p1).bind fun x22 =>
   some (if x22 < x16 then x22 else x16)
  else
   bif (p0.Op==6) then
    (idx p0.Kids 0).bind fun x28 =>
    (self_condition_tell x28 p1).bind fun x31 =>
    (idx p0.Kids 1).bind fun x34 =>
    (self_condition_tell x34 p1).bind fun x37 =>
    some (if x37 > x31 then x37 else x31)
   else
    bif (p0.Op==7) then
     (idx p0.Kids 0).bind fun x43 =>
     (self_condition_tell x43 p1).bind fun x46 =>
     some (IntKind.i64.wrap (0 - x46))
    else
     (p1 p0).bind fun x50 =>
     some x50
def I3:Nat→Aj→(Aj→Option Int)→Option Int
 | 0,_,_=>none
 | d + 1,p0,p1=>Ji d (I3 d) p0 p1
def HH (p0:Aj) (q0:Ae) (q1:(List Int)):Option Int :=
 (idx q1 p0.Column).bind fun x10 =>
 (Ix q0 p0 x10).bind fun x12 =>
 some x12
def JQ (d:Nat) (p0:Ae) (p1:Aj) (p2:(List Int)):Option Int :=
 (I3 d p1 (fun a0=>HH a0 p0 p2)).bind fun x9 =>
 some x9
def Lz (p2:(List Aw)) (p3:(List Int)) (p0:Ae) (kont2_2:(Int→(List Int)→Option Int)) (rec2:((Int × (List Int))→Option Int)) (v36_2:Int) (b18_2:(List Int)):Option Int :=
 bif (decide (v36_2 < ((p2.length:Nat):Int))) then
  (idx p2 v36_2).bind fun x39 =>
  (idx p3 v36_2).bind fun x49 =>
  (Dd p0 x39.Column x39.Level x49).bind fun x51 =>
  bif (!x51.2) then
   some 0
  else
   (idx b18_2 x39.Column).bind fun x60 =>
   rec2 ((IntKind.i64.wrap (v36_2 + 1)),(b18_2.set (x39.Column:Int).toNat x51.1))
 else
  kont2_2 v36_2 b18_2
def I0 (p2:(List Aw)) (p3:(List Int)) (p0:Ae) (d:Nat) (p1:Aj) (k18_1:(List Int)):Option Int :=
 iter (fun rec2 s=>Lz p2 p3 p0 (fun v36_2 b18_2=>(JQ d p0 p1 b18_2).bind fun x65=>some x65) rec2 s.1 s.2) AO (0,k18_1)
def Lx (p0:Ae) (kont1_0:(Int→(List Int)→Option Int)) (rec1:((Int × (List Int))→Option Int)) (v10_1:Int) (b18_1:(List Int)):Option Int :=
 bif (decide (v10_1 < ((b18_1.length:Nat):Int))) then
  (Dd p0 v10_1 0 0).bind fun x30 =>
  (idx b18_1 v10_1).bind fun x33 =>
  rec1 ((IntKind.i64.wrap (v10_1 + 1)),(b18_1.set (v10_1:Int).toNat x30.1))
 else
  kont1_0 v10_1 b18_1
def KI (d:Nat) (p0:Ae) (p1:Aj) (p2:(List Aw)) (p3:(List Int)):Option Int :=
 bif (decide (0≤((p0.Columns.length:Nat):Int)) && rm (((p0.Columns.length:Nat):Int):Int).toNat 0) then
  iter (fun rec1 s=>Lx p0 (fun v10_1 b18_1=>I0 p2 p3 p0 d p1 b18_1) rec1 s.1 s.2) AO (1,(List.replicate (((p0.Columns.length:Nat):Int):Int).toNat 0))
 else none
def Km (p1:Bn) (d:Nat) (p0:Ae) (p2:Aj) (kont1_0:(Int→(List Int)→Option (List Int))) (rec1:((Int × (List Int))→Option (List Int))) (v26_1:Int) (b7_1:(List Int)):Option (List Int) :=
 bif (decide (v26_1 < ((p1.Rows.length:Nat):Int))) then
  (idx p1.Rows v26_1).bind fun x29 =>
  bif (decide (0≤(1:Int)∧1≤((x29.length:Nat):Int)∧((x29.length:Nat):Int)≤((x29.length:Nat):Int))) then
   (KI d p0 p2 p1.Picks (Im x29 1 ((x29.length:Nat):Int))).bind fun x37 =>
   bif (x37==1) then
    bif rm b7_1.length [v26_1].length then
     rec1 ((IntKind.i64.wrap (v26_1 + 1)),(b7_1++[v26_1]))
    else none
   else
    rec1 ((IntKind.i64.wrap (v26_1 + 1)),b7_1)
  else none
 else
  kont1_0 v26_1 b7_1
def He (p1:Bn) (d:Nat) (p0:Ae) (p2:Aj):Option (List Int) :=
 iter (fun rec1 s=>Km p1 d p0 p2 (fun v26_1 b7_1=>some b7_1) rec1 s.1 s.2) AO (0,[])
def GU (d:Nat) (p0:Ae) (p1:Bn) (p2:Aj):Option (List Int) :=
 (Bi d p0 p2).bind fun x12 =>
 bif (x12 != 0) then
  some []
 else
  (FX d p0 p2).bind fun x19 =>
  (GH p1.Picks x19).bind fun x20 =>
  bif (!x20) then
   some []
  else
   He p1 d p0 p2
def MG (p1:(List Int)) (p0:Bn) (kont1_0:(Int→(List Int)→Option (List Int))) (rec1:((Int × (List Int))→Option (List Int))) (v10_1:Int) (b5_1:(List Int)):Option (List Int) :=
 bif (decide (v10_1 < ((p1.length:Nat):Int))) then
  (idx p1 v10_1).bind fun x12 =>
  (idx p0.Rows x12).bind fun x18 =>
  (idx x18 0).bind fun x20 =>
  bif rm b5_1.length [x20].length then
   rec1 ((IntKind.i64.wrap (v10_1 + 1)),(b5_1++[x20]))
  else none
 else
  kont1_0 v10_1 b5_1
def Hv (p0:Bn) (p1:(List Int)):Option (List Int) :=
 iter (fun rec1 s=>MG p1 p0 (fun v10_1 b5_1=>some b5_1) rec1 s.1 s.2) AO (0,[])
def Gg (p0:(List Int)) (p1:(Int→Option Bool)) (kont1_0:(Int→Option Int)) (rec1:(Int→Option Int)) (v8_1:Int):Option Int :=
 bif (decide (v8_1 < ((p0.length:Nat):Int))) then
  (idx p0 v8_1).bind fun x14 =>
  (p1 x14).bind fun x16 =>
  bif x16 then
   some v8_1
  else
   rec1 (IntKind.i64.wrap (v8_1 + 1))
 else
  kont1_0 v8_1
def Dl (p0:(List Int)) (p1:(Int→Option Bool)):Option Int :=
 iter (fun rec1 s=>Gg p0 p1 (fun v8_1=>some (-1)) rec1 s) AO 0
def DN (p0:(List Int)) (p1:(Int→Option Bool)):Option Bool :=
 (Dl p0 p1).bind fun x7 =>
 some (decide (x7 ≥ 0))
def Jj (p0:Aw) (q0:Int):Option Bool :=
 some (p0.Column==q0)
def Lp (x19:(List Int)) (p0:Ay) (p1:Int) (p2:Int) (p3:Int) (kont1_0:(Int→Bool→Int→Option (Int × Bool))) (rec1:((Int × Bool × Int)→Option (Int × Bool))) (v10_1:Int) (v11_1:Bool) (v21_1:Int):Option (Int × Bool) :=
 bif (decide (v21_1 < ((x19.length:Nat):Int))) then
  (idx x19 v21_1).bind fun x23 =>
  (G4 p0 x23 p1).bind fun x28 =>
  bif (x28 != p2) then
   rec1 (v10_1,v11_1,(IntKind.i64.wrap (v21_1 + 1)))
  else
   (G4 p0 x23 p3).bind fun x34 =>
   bif (bif v11_1 then (x34 != v10_1) else false) then
    some (0,false)
   else
    rec1 (x34,true,(IntKind.i64.wrap (v21_1 + 1)))
 else
  kont1_0 v10_1 v11_1 v21_1
def Kc (p0:Ay) (p1:Int) (p2:Int) (p3:Int):Option (Int × Bool) :=
 (EE p0).bind fun x17 =>
 (JH p0 (IntKind.i64.wrap (x17 - 1))).bind fun x19 =>
 iter (fun rec1 s=>Lp x19 p0 p1 p2 p3 (fun v10_1 v11_1 v21_1=>some (v10_1,v11_1)) rec1 s.1 s.2.1 s.2.2) AO (0,false,0)
def HS (p0:A4) (p1:Int) (p2:Int) (p3:Int):Option (Int × Bool) :=
 bif (bif (decide (p1 > 0)) then (p2==(-1099511627776)) else false) then
  bif (p3==0) then
   some (0,p0.Optional)
  else
   some (p2,p0.Optional)
 else
  (Ij p0 p1 p2).bind fun x31 =>
  bif (!x31.2.2) then
   some (0,false)
  else
   bif (p3==0) then
    some (0,true)
   else
    bif (bif (p1==0) then p0.Optional else false) then
     some (0,false)
    else
     (FV p0 p3).bind fun x50 =>
     (Ef x31.1 x50).bind fun x53 =>
     (Ef x31.1 x50).bind fun x56 =>
     (Ef x31.2.1 x50).bind fun x59 =>
     some (x53,(x56==x59))
def JE (p0:Ae) (p1:Int) (p2:Int) (p3:Int) (p4:Int):Option (Int × Bool) :=
 (Eg p0 p1).bind fun x18 =>
 bif (bif (bif (bif (decide (p2 < 0)) then true else (decide (p2 > x18))) then true else (decide (p4 < 0))) then true else (decide (p4 > x18))) then
  some (0,false)
 else
  (idx p0.Columns p1).bind fun x38 =>
  bif (x38.Kind==2) then
   (idx p0.Lists x38.List_).bind fun x48 =>
   (Kc x48 p2 p3 p4).bind fun x53 =>
   bif (!x53.2) then
    some (0,false)
   else
    some (x53.1,true)
  else
   (HS x38 p2 p3 p4).bind fun x61 =>
   bif (!x61.2) then
    some (0,false)
   else
    some (x61.1,true)
def Hf (p0:Ae) (p1:Bn) (p2:Int) (p3:Int) (p4:Int):Option (Int × Bool) :=
 (B1 p1.Picks (fun a0=>Jj a0 p3)).bind fun x16 =>
 bif (decide (x16 < 0)) then
  (JE p0 p3 0 0 p4).bind fun x22 =>
  some (x22.1,x22.2)
 else
  (idx p1.Picks x16).bind fun x30 =>
  (idx p1.Rows p2).bind fun x36 =>
  (idx x36 (IntKind.i64.wrap (x16 + 1))).bind fun x40 =>
  (JE p0 p3 x30.Level x40 p4).bind fun x43 =>
  some (x43.1,x43.2)
def Gt (p0:Int) (q0:Ae) (q1:Bn) (q2:Int):Option Bool :=
 (Gm q0 p0).bind fun x15 =>
 (Hf q0 q1 q2 p0 x15).bind fun x16 =>
 some (bif (!x16.2) then true else (x16.1==(-1099511627776)))
def HU (p0:Int) (q0:(List Int)) (q1:Ae) (q2:Bn):Option Bool :=
 (DN q0 (fun a0=>Gt a0 q1 q2 p0)).bind fun x8 =>
 some x8
def Kg (d:Nat) (p0:Ae) (p1:Bn) (p2:Aj) (p3:(List Int)):Option (List Int) :=
 (Gl p0 p1).bind fun x11 =>
 bif (x11 != 0) then
  some []
 else
  (GU d p0 p1 p2).bind fun x16 =>
  (GF x16 (fun a0=>HU a0 p3 p0 p1)).bind fun x18 =>
  some x18
def Ls (p2:(List Int)) (p0:Ae) (p3:Int) (p1:Bn) (kont1_0:(Int→(List Int)→Option (List Int))) (rec1:((Int × (List Int))→Option (List Int))) (v16_1:Int) (b9_1:(List Int)):Option (List Int) :=
 bif (decide (v16_1 < ((p2.length:Nat):Int))) then
  (idx p2 v16_1).bind fun x18 =>
  (Gm p0 p3).bind fun x27 =>
  (Hf p0 p1 x18 p3 x27).bind fun x28 =>
  bif rm b9_1.length [x28.1].length then
   rec1 ((IntKind.i64.wrap (v16_1 + 1)),(b9_1++[x28.1]))
  else none
 else
  kont1_0 v16_1 b9_1
def Ki (p0:Ae) (p1:Bn) (p2:(List Int)) (p3:Int):Option (List Int) :=
 iter (fun rec1 s=>Ls p2 p0 p3 p1 (fun v16_1 b9_1=>some b9_1) rec1 s.1 s.2) AO (0,[])
def Gr (p1:Av) (x24:(List Int)) (p0:AK) (j7_1:Int):Option (Bd × Int) :=
 bif (p1.Op==5) then
  (L4 j7_1 ((x24.length:Nat):Int)).bind fun x52 =>
  bif (x52.2 != 0) then
   some (({ Kind:=0,Number:=({ Num:=0,Den:=0 }:AX),Table:=({ Dims:=[],Measure:=0,Cells:=[] }:E5),Model:=({ Measure:=0,Terms:=[],Coefs:=[],Residual:=({ Num:=0,Den:=0 }:AX),Total:=({ Num:=0,Den:=0 }:AX),Count:=0,Free:=0 }:E4),Curve:=[],Hist:=[],Box:=({ Count:=0,Least:=0,Lower:=0,Middle:=0,Upper:=0,Greatest:=0 }:LK),Lineage:=[] }:Bd),x52.2)
  else
   (Hv p0.f_plan.f_x x24).bind fun x64 =>
   some (({ Kind:=1,Number:=x52.1,Table:=({ Dims:=[],Measure:=0,Cells:=[] }:E5),Model:=({ Measure:=0,Terms:=[],Coefs:=[],Residual:=({ Num:=0,Den:=0 }:AX),Total:=({ Num:=0,Den:=0 }:AX),Count:=0,Free:=0 }:E4),Curve:=[],Hist:=[],Box:=({ Count:=0,Least:=0,Lower:=0,Middle:=0,Upper:=0,Greatest:=0 }:LK),Lineage:=x64 }:Bd),0)
 else
  (L4 j7_1 1).bind fun x52 =>
  bif (x52.2 != 0) then
   some (({ Kind:=0,Number:=({ Num:=0,Den:=0 }:AX),Table:=({ Dims:=[],Measure:=0,Cells:=[] }:E5),Model:=({ Measure:=0,Terms:=[],Coefs:=[],Residual:=({ Num:=0,Den:=0 }:AX),Total:=({ Num:=0,Den:=0 }:AX),Count:=0,Free:=0 }:E4),Curve:=[],Hist:=[],Box:=({ Count:=0,Least:=0,Lower:=0,Middle:=0,Upper:=0,Greatest:=0 }:LK),Lineage:=[] }:Bd),x52.2)
  else
   (Hv p0.f_plan.f_x x24).bind fun x64 =>
   some (({ Kind:=1,Number:=x52.1,Table:=({ Dims:=[],Measure:=0,Cells:=[] }:E5),Model:=({ Measure:=0,Terms:=[],Coefs:=[],Residual:=({ Num:=0,Den:=0 }:AX),Total:=({ Num:=0,Den:=0 }:AX),Count:=0,Free:=0 }:E4),Curve:=[],Hist:=[],Box:=({ Count:=0,Least:=0,Lower:=0,Middle:=0,Upper:=0,Greatest:=0 }:LK),Lineage:=x64 }:Bd),0)
def Jc (x34:(List Int)) (kont1_0:(Int→Int→Option (Bd × Int))) (rec1:((Int × Int)→Option (Bd × Int))) (v7_1:Int) (v36_1:Int):Option (Bd × Int) :=
 bif (decide (v36_1 < ((x34.length:Nat):Int))) then
  (idx x34 v36_1).bind fun x38 =>
  rec1 ((IntKind.i64.wrap (v7_1 + x38)),(IntKind.i64.wrap (v36_1 + 1)))
 else
  kont1_0 v7_1 v36_1
def FL (d:Nat) (p0:AK) (p1:Av):Option (Bd × Int) :=
 (Kg d p0.f_plan.f_s p0.f_plan.f_x p1.Cond [p1.Column]).bind fun x24 =>
 (Ki p0.f_plan.f_s p0.f_plan.f_x x24 p1.Column).bind fun x34 =>
 iter (fun rec1 s=>Jc x34 (fun v7_1 v36_1=>Gr p1 x24 p0 v7_1) rec1 s.1 s.2) AO (0,0)
def FM (d:Nat) (self_interpret_room_value:(AK→Av→Option (Bd × Int))) (self_interpret_room_pair:(AK→Av→Option (Bd × Int))) (p0:AK) (p1:Av):Option (Bd × Int) :=
 bif (p1.Op==1) then
  some (({ Kind:=1,Number:=({ Num:=p1.Num,Den:=1 }:AX),Table:=({ Dims:=[],Measure:=0,Cells:=[] }:E5),Model:=({ Measure:=0,Terms:=[],Coefs:=[],Residual:=({ Num:=0,Den:=0 }:AX),Total:=({ Num:=0,Den:=0 }:AX),Count:=0,Free:=0 }:E4),Curve:=[],Hist:=[],Box:=({ Count:=0,Least:=0,Lower:=0,Middle:=0,Upper:=0,Greatest:=0 }:LK),Lineage:=[] }:Bd),0)
 else
  bif (p1.Op==2) then
   (GA p0 p1.Name).bind fun x27 =>
   some (x27,0)
  else
   bif (p1.Op==3) then
    (GU d p0.f_plan.f_s p0.f_plan.f_x p1.Cond).bind fun x38 =>
    (Hv p0.f_plan.f_x x38).bind fun x46 =>
    some (({ Kind:=1,Number:=({ Num:=((x38.length:Nat):Int),Den:=1 }:AX),Table:=({ Dims:=[],Measure:=0,Cells:=[] }:E5),Model:=({ Measure:=0,Terms:=[],Coefs:=[],Residual:=({ Num:=0,Den:=0 }:AX),Total:=({ Num:=0,Den:=0 }:AX),Count:=0,Free:=0 }:E4),Curve:=[],Hist:=[],Box:=({ Count:=0,Least:=0,Lower:=0,Middle:=0,Upper:=0,Greatest:=0 }:LK),Lineage:=x46 }:Bd),0)
   else
    bif (p1.Op==4) then
     (FL d p0 p1).bind fun x53 =>
     some (x53.1,x53.2)
    else
     bif (p1.Op==5) then
      (FL d p0 p1).bind fun x53 =>
      some (x53.1,x53.2)
     else
      bif (p1.Op==10) then
       none
      else
       bif (p1.Op==11) then
        none
       else
        bif (p1.Op==12) then
         none
        else
         bif (p1.Op==13) then
          none
         else
          bif (p1.Op==14) then
           none
          else
           (self_interpret_room_pair p0 p1).bind fun x13 =>
           some (x13.1,x13.2)
def Gq (d:Nat) (self_interpret_room_value:(AK→Av→Option (Bd × Int))) (self_interpret_room_pair:(AK→Av→Option (Bd × Int))) (p0:AK) (p1:Av):Option (Bd × Int) :=
 (idx p1.Kids 0).bind fun x15 =>
 (self_interpret_room_value p0 x15).bind fun x17 =>
 bif (x17.2 != 0) then
  some (({ Kind:=0,Number:=({ Num:=0,Den:=0 }:AX),Table:=({ Dims:=[],Measure:=0,Cells:=[] }:E5),Model:=({ Measure:=0,Terms:=[],Coefs:=[],Residual:=({ Num:=0,Den:=0 }:AX),Total:=({ Num:=0,Den:=0 }:AX),Count:=0,Free:=0 }:E4),Curve:=[],Hist:=[],Box:=({ Count:=0,Least:=0,Lower:=0,Middle:=0,Upper:=0,Greatest:=0 }:LK),Lineage:=[] }:Bd),x17.2)
 else
  (idx p1.Kids 1).bind fun x28 =>
  (self_interpret_room_value p0 x28).bind fun x30 =>
  bif (x30.2 != 0) then
   some (({ Kind:=0,Number:=({ Num:=0,Den:=0 }:AX),Table:=({ Dims:=[],Measure:=0,Cells:=[] }:E5),Model:=({ Measure:=0,Terms:=[],Coefs:=[],Residual:=({ Num:=0,Den:=0 }:AX),Total:=({ Num:=0,Den:=0 }:AX),Count:=0,Free:=0 }:E4),Curve:=[],Hist:=[],Box:=({ Count:=0,Least:=0,Lower:=0,Middle:=0,Upper:=0,Greatest:=0 }:LK),Lineage:=[] }:Bd),x30.2)
  else
   bif (p1.Op==7) then
    (QJ x17.1.Number x30.1.Number).bind fun x51 =>
    bif (x51.2 != 0) then
     some (({ Kind:=0,Number:=({ Num:=0,Den:=0 }:AX),Table:=({ Dims:=[],Measure:=0,Cells:=[] }:E5),Model:=({ Measure:=0,Terms:=[],Coefs:=[],Residual:=({ Num:=0,Den:=0 }:AX),Total:=({ Num:=0,Den:=0 }:AX),Count:=0,Free:=0 }:E4),Curve:=[],Hist:=[],Box:=({ Count:=0,Least:=0,Lower:=0,Middle:=0,Upper:=0,Greatest:=0 }:LK),Lineage:=[] }:Bd),x51.2)
    else
     (Hg x17.1.Lineage x30.1.Lineage).bind fun x63 =>
     some (({ Kind:=1,Number:=x51.1,Table:=({ Dims:=[],Measure:=0,Cells:=[] }:E5),Model:=({ Measure:=0,Terms:=[],Coefs:=[],Residual:=({ Num:=0,Den:=0 }:AX),Total:=({ Num:=0,Den:=0 }:AX),Count:=0,Free:=0 }:E4),Curve:=[],Hist:=[],Box:=({ Count:=0,Least:=0,Lower:=0,Middle:=0,Upper:=0,Greatest:=0 }:LK),Lineage:=x63 }:Bd),0)
   else
    bif (p1.Op==8) then
     (QI x17.1.Number x30.1.Number).bind fun x51 =>
     bif (x51.2 != 0) then
      some (({ Kind:=0,Number:=({ Num:=0,Den:=0 }:AX),Table:=({ Dims:=[],Measure:=0,Cells:=[] }:E5),Model:=({ Measure:=0,Terms:=[],Coefs:=[],Residual:=({ Num:=0,Den:=0 }:AX),Total:=({ Num:=0,Den:=0 }:AX),Count:=0,Free:=0 }:E4),Curve:=[],Hist:=[],Box:=({ Count:=0,Least:=0,Lower:=0,Middle:=0,Upper:=0,Greatest:=0 }:LK),Lineage:=[] }:Bd),x51.2)
     else
      (Hg x17.1.Lineage x30.1.Lineage).bind fun x63 =>
      some (({ Kind:=1,Number:=x51.1,Table:=({ Dims:=[],Measure:=0,Cells:=[] }:E5),Model:=({ Measure:=0,Terms:=[],Coefs:=[],Residual:=({ Num:=0,Den:=0 }:AX),Total:=({ Num:=0,Den:=0 }:AX),Count:=0,Free:=0 }:E4),Curve:=[],Hist:=[],Box:=({ Count:=0,Least:=0,Lower:=0,Middle:=0,Upper:=0,Greatest:=0 }:LK),Lineage:=x63 }:Bd),0)
    else
     bif (p1.Op==9) then
      (QH x17.1.Number x30.1.Number).bind fun x51 =>
      bif (x51.2 != 0) then
       some (({ Kind:=0,Number:=({ Num:=0,Den:=0 }:AX),Table:=({ Dims:=[],Measure:=0,Cells:=[] }:E5),Model:=({ Measure:=0,Terms:=[],Coefs:=[],Residual:=({ Num:=0,Den:=0 }:AX),Total:=({ Num:=0,Den:=0 }:AX),Count:=0,Free:=0 }:E4),Curve:=[],Hist:=[],Box:=({ Count:=0,Least:=0,Lower:=0,Middle:=0,Upper:=0,Greatest:=0 }:LK),Lineage:=[] }:Bd),x51.2)
      else
       (Hg x17.1.Lineage x30.1.Lineage).bind fun x63 =>
       some (({ Kind:=1,Number:=x51.1,Table:=({ Dims:=[],Measure:=0,Cells:=[] }:E5),Model:=({ Measure:=0,Terms:=[],Coefs:=[],Residual:=({ Num:=0,Den:=0 }:AX),Total:=({ Num:=0,Den:=0 }:AX),Count:=0,Free:=0 }:E4),Curve:=[],Hist:=[],Box:=({ Count:=0,Least:=0,Lower:=0,Middle:=0,Upper:=0,Greatest:=0 }:LK),Lineage:=x63 }:Bd),0)
     else
      (QG x17.1.Number x30.1.Number).bind fun x51 =>
      bif (x51.2 != 0) then
       some (({ Kind:=0,Number:=({ Num:=0,Den:=0 }:AX),Table:=({ Dims:=[],Measure:=0,Cells:=[] }:E5),Model:=({ Measure:=0,Terms:=[],Coefs:=[],Residual:=({ Num:=0,Den:=0 }:AX),Total:=({ Num:=0,Den:=0 }:AX),Count:=0,Free:=0 }:E4),Curve:=[],Hist:=[],Box:=({ Count:=0,Least:=0,Lower:=0,Middle:=0,Upper:=0,Greatest:=0 }:LK),Lineage:=[] }:Bd),x51.2)
      else
       (Hg x17.1.Lineage x30.1.Lineage).bind fun x63 =>
       some (({ Kind:=1,Number:=x51.1,Table:=({ Dims:=[],Measure:=0,Cells:=[] }:E5),Model:=({ Measure:=0,Terms:=[],Coefs:=[],Residual:=({ Num:=0,Den:=0 }:AX),Total:=({ Num:=0,Den:=0 }:AX),Count:=0,Free:=0 }:E4),Curve:=[],Hist:=[],Box:=({ Count:=0,Least:=0,Lower:=0,Middle:=0,Upper:=0,Greatest:=0 }:LK),Lineage:=x63 }:Bd),0)
mutual
def D3:Nat→AK→Av→Option (Bd × Int)
 | 0,_,_=>none
 | d + 1,p0,p1=>FM d (D3 d) (Hb d) p0 p1
def Hb:Nat→AK→Av→Option (Bd × Int)
 | 0,_,_=>none
 | d + 1,p0,p1=>Gq d (D3 d) (Hb d) p0 p1
end
def My (p2:(List Ax)) (d:Nat) (p0:Ae) (p1:Bn) (kont1_0:(Int→(List AR)→Option ((List AR) × Int × Int))) (rec1:((Int × (List AR))→Option ((List AR) × Int × Int))) (v51_1:Int) (b15_1:(List AR)):Option ((List AR) × Int × Int) :=
 bif (decide (v51_1 < ((p2.length:Nat):Int))) then
  (idx p2 v51_1).bind fun x54 =>
  (D3 d ({ f_plan:=({ f_s:=p0,f_x:=p1 }:Pm),f_before:=b15_1 }:AK) x54.Expr).bind fun x64 =>
  bif (x64.2 != 0) then
   some ([],v51_1,x64.2)
  else
   bif rm b15_1.length [({ Name:=x54.Name,Out:=x54.Out,Value:=x64.1 }:AR)].length then
    rec1 ((IntKind.i64.wrap (v51_1 + 1)),(b15_1++[({ Name:=x54.Name,Out:=x54.Out,Value:=x64.1 }:AR)]))
   else none
 else
  kont1_0 v51_1 b15_1
def LP (d:Nat) (p0:Ae) (p1:Bn) (p2:(List Ax)):Option ((List AR) × Int × Int) :=
 (Gl p0 p1).bind fun x22 =>
 bif (x22 != 0) then
  some ([],(-1),x22)
 else
  (J6 d p0 p2).bind fun x29 =>
  bif (x29.2 != 0) then
   some ([],x29.1,x29.2)
  else
   (Mc d p0 p1.Picks p2).bind fun x41 =>
   bif (x41.2.2 != 0) then
    some ([],x41.2.1,x41.2.2)
   else
    iter (fun rec1 s=>My p2 d p0 p1 (fun v51_1 b15_1=>some (b15_1,((p2.length:Nat):Int),0)) rec1 s.1 s.2) AO (0,[])
def L9 (p0:(List AR)) (kont1_0:(Int→(List AR)→Option (List AR))) (rec1:((Int × (List AR))→Option (List AR))) (v8_1:Int) (b3_1:(List AR)):Option (List AR) :=
 bif (decide (v8_1 < ((p0.length:Nat):Int))) then
  (idx p0 v8_1).bind fun x10 =>
  bif x10.Out then
   (Hz x10.Value).bind fun x16 =>
   bif rm b3_1.length [({ Name:=x10.Name,Out:=x10.Out,Value:=x16 }:AR)].length then
    rec1 ((IntKind.i64.wrap (v8_1 + 1)),(b3_1++[({ Name:=x10.Name,Out:=x10.Out,Value:=x16 }:AR)]))
   else none
  else
   rec1 ((IntKind.i64.wrap (v8_1 + 1)),b3_1)
 else
  kont1_0 v8_1 b3_1
def I9 (p0:(List AR)):Option (List AR) :=
 iter (fun rec1 s=>L9 p0 (fun v8_1 b3_1=>some b3_1) rec1 s.1 s.2) AO (0,[])
def BD (p0:Ae) (p1:Int):Option Int :=
 bif (bif (decide (p1 < 0)) then true else (decide (p1 ≥ ((p0.Columns.length:Nat):Int)))) then
  some 0
 else
  (idx p0.Columns p1).bind fun x17 =>
  some x17.Kind
def EK (p0:Aw) (q0:Aw):Option Bool :=
 some (p0.Column==q0.Column)
def DJ (p0:Aj):Option Bool :=
 some (bif (bif (bif (bif (bif (p0.Op==0) then (p0.Column==0) else false) then (p0.Code==0) else false) then (p0.Low==0) else false) then (p0.High==0) else false) then (((p0.Kids.length:Nat):Int)==0) else false)
def BU (p1:Az) (p0:Ae):Option Int :=
 bif (p1.Measure != (-1)) then
  (BD p0 p1.Measure).bind fun x51 =>
  bif (x51 != 3) then
   some 7
  else
   bif (decide (((p1.Terms.length:Nat):Int) > 0)) then
    some 11
   else
    (DJ p1.Event).bind fun x61 =>
    bif (!x61) then
     some 11
    else
     some 0
 else
  bif (decide (((p1.Terms.length:Nat):Int) > 0)) then
   some 11
  else
   (DJ p1.Event).bind fun x61 =>
   bif (!x61) then
    some 11
   else
    some 0
def CI (p1:Az) (p0:Ae) (kont1_0:(Int→Option Int)) (rec1:(Int→Option Int)) (v21_1:Int):Option Int :=
 bif (decide (v21_1 < ((p1.Dims.length:Nat):Int))) then
  (idx p1.Dims v21_1).bind fun x24 =>
  (Ii p0 x24).bind fun x28 =>
  bif (x28 != 0) then
   some x28
  else
   (BD p0 x24.Column).bind fun x35 =>
   bif (x35 != 2) then
    some 7
   else
    bif (decide (0≤(0:Int)∧0≤v21_1∧v21_1≤((p1.Dims.length:Nat):Int))) then
     (AC (Im p1.Dims 0 v21_1) (fun a0=>EK a0 x24)).bind fun x42 =>
     bif x42 then
      some 10
     else
      rec1 (IntKind.i64.wrap (v21_1 + 1))
    else none
 else
  kont1_0 v21_1
def EJ (p0:Ae) (p1:Az):Option Int :=
 bif (bif (decide (((p1.Dims.length:Nat):Int) < 1)) then true else (decide (((p1.Dims.length:Nat):Int) > 3))) then
  some 1
 else
  iter (fun rec1 s=>CI p1 p0 (fun v21_1=>BU p1 p0) rec1 s) AO 0
def Ci (p1:Az) (v27_1:Int):Option Int :=
 bif (decide (((p1.Dims.length:Nat):Int) > 0)) then
  some 11
 else
  (DJ p1.Event).bind fun x56 =>
  bif (!x56) then
   some 11
  else
   some 0
def CH (p1:Az) (p0:Ae) (kont1_1:(Int→Option Int)) (rec1:(Int→Option Int)) (v27_1:Int):Option Int :=
 bif (decide (v27_1 < ((p1.Terms.length:Nat):Int))) then
  (idx p1.Terms v27_1).bind fun x30 =>
  (BD p0 x30).bind fun x34 =>
  bif (x34 != 3) then
   some 7
  else
   bif (x30==p1.Measure) then
    some 10
   else
    bif (decide (0≤(0:Int)∧0≤v27_1∧v27_1≤((p1.Terms.length:Nat):Int))) then
     (BF (Im p1.Terms 0 v27_1) x30).bind fun x46 =>
     bif x46 then
      some 10
     else
      rec1 (IntKind.i64.wrap (v27_1 + 1))
    else none
 else
  kont1_1 v27_1
def EI (p0:Ae) (p1:Az):Option Int :=
 (BD p0 p1.Measure).bind fun x11 =>
 bif (x11 != 3) then
  some 7
 else
  bif (bif (decide (((p1.Terms.length:Nat):Int) < 1)) then true else (decide (((p1.Terms.length:Nat):Int) > 3))) then
   some 1
  else
   iter (fun rec1 s=>CH p1 p0 (Ci p1) rec1 s) AO 0
def EH (d:Nat) (p0:Ae) (p1:Az):Option Int :=
 (BD p0 p1.Measure).bind fun x10 =>
 bif (x10 != 3) then
  some 7
 else
  (idx p0.Columns p1.Measure).bind fun x17 =>
  bif (decide (x17.Low < 0)) then
   some 2
  else
   (Bi d p0 p1.Event).bind fun x24 =>
   bif (x24 != 0) then
    some x24
   else
    bif (bif (decide (((p1.Dims.length:Nat):Int) > 0)) then true else (decide (((p1.Terms.length:Nat):Int) > 0))) then
     some 11
    else
     some 0
def Dz (d:Nat) (p0:Ae) (p1:Az):Option Int :=
 (Cp p0).bind fun x8 =>
 bif (x8 != 0) then
  some x8
 else
  (BO p1.Name).bind fun x16 =>
  bif (!x16) then
   some 3
  else
   bif (bif (decide (p1.Kind < 1)) then true else (decide (p1.Kind > 3))) then
    some 4
   else
    (Bi d p0 p1.Filter).bind fun x30 =>
    bif (x30 != 0) then
     some x30
    else
     bif (p1.Kind==1) then
      (EJ p0 p1).bind fun x40 =>
      some x40
     else
      bif (p1.Kind==2) then
       (EI p0 p1).bind fun x45 =>
       some x45
      else
       (EH d p0 p1).bind fun x48 =>
       some x48
def C7 (p0:(List Az)) (p1:(Az→Option Bool)) (kont1_0:(Int→Option Int)) (rec1:(Int→Option Int)) (v8_1:Int):Option Int :=
 bif (decide (v8_1 < ((p0.length:Nat):Int))) then
  (idx p0 v8_1).bind fun x14 =>
  (p1 x14).bind fun x16 =>
  bif x16 then
   some v8_1
  else
   rec1 (IntKind.i64.wrap (v8_1 + 1))
 else
  kont1_0 v8_1
def Bw (p0:(List Az)) (p1:(Az→Option Bool)):Option Int :=
 iter (fun rec1 s=>C7 p0 p1 (fun v8_1=>some (-1)) rec1 s) AO 0
def AN (p0:(List Az)) (p1:(Az→Option Bool)):Option Bool :=
 (Bw p0 p1).bind fun x7 =>
 some (decide (x7 ≥ 0))
def EG (p0:Az) (q0:Az):Option Bool :=
 some (p0.Name.toList==q0.Name.toList)
def CG (p1:A3) (d:Nat) (p0:Ae) (kont1_1:(Int→Option Int)) (rec1:(Int→Option Int)) (v80_1:Int):Option Int :=
 bif (decide (v80_1 < ((p1.Questions.length:Nat):Int))) then
  (idx p1.Questions v80_1).bind fun x83 =>
  (Dz d p0 x83).bind fun x87 =>
  bif (x87 != 0) then
   some x87
  else
   bif (decide (0≤(0:Int)∧0≤v80_1∧v80_1≤((p1.Questions.length:Nat):Int))) then
    (AN (Im p1.Questions 0 v80_1) (fun a0=>EG a0 x83)).bind fun x96 =>
    bif x96 then
     some 10
    else
     rec1 (IntKind.i64.wrap (v80_1 + 1))
   else none
 else
  kont1_1 v80_1
def Dy (d:Nat) (p0:Ae) (p1:A3):Option Int :=
 (Bi d p0 p1.Cohort).bind fun x29 =>
 bif (x29 != 0) then
  some x29
 else
  bif (bif (bif (bif (bif (bif (decide (p1.Sample.Of < 1)) then true else (decide (p1.Sample.Of > 1000))) then true else (decide (p1.Sample.Part < 1))) then true else (decide (p1.Sample.Part > p1.Sample.Of))) then true else (decide (p1.Sample.Seed < 0))) then true else (decide (p1.Sample.Seed > 1099511627776))) then
   some 2
  else
   bif (bif (((p1.Questions.length:Nat):Int)==0) then true else (decide (((p1.Questions.length:Nat):Int) > 8))) then
    some 1
   else
    iter (fun rec1 s=>CG p1 d p0 (fun v80_1=>some 0) rec1 s) AO 0
def EF (d:Nat) (p0:Ae) (p1:A3):Option Int :=
 (Cp p0).bind fun x12 =>
 bif (x12 != 0) then
  some x12
 else
  (BO p1.Project).bind fun x18 =>
  bif (!x18) then
   some 3
  else
   (BO p1.Source).bind fun x23 =>
   bif (!x23) then
    some 3
   else
    Dy d p0 p1
def Gw (p0:Aj) (self_interpret_cond:(Aj→Option Aj)) (kont1_0:(Int→(List Aj)→Option Aj)) (rec1:((Int × (List Aj))→Option Aj)) (v11_1:Int) (b20_1:(List Aj)):Option Aj :=
 bif (decide (v11_1 < ((p0.Kids.length:Nat):Int))) then
  (idx p0.Kids v11_1).bind fun x13 =>
  (self_interpret_cond x13).bind fun x18 =>
  bif rm b20_1.length [x18].length then
   rec1 ((IntKind.i64.wrap (v11_1 + 1)),(b20_1++[x18]))
  else none
 else
  kont1_0 v11_1 b20_1
def Fu (d:Nat) (self_interpret_cond:(Aj→Option Aj)) (p0:Aj):Option Aj :=
 iter (fun rec1 s=>Gw p0 self_interpret_cond (fun v11_1 b20_1=>some ({ Op:=p0.Op,Column:=p0.Column,Code:=p0.Code,Low:=p0.Low,High:=p0.High,Kids:=b20_1 }:Aj)) rec1 s.1 s.2) AO (0,[])
def C0:Nat→Aj→Option Aj
 | 0,_=>none
 | d + 1,p0=>Fu d (C0 d) p0
def CR (p1:A3) (d:Nat) (kont1_0:(Int→(List Ax)→Option ((List Ax) × Int))) (rec1:((Int × (List Ax))→Option ((List Ax) × Int))) (v20_1:Int) (b7_1:(List Ax)):Option ((List Ax) × Int) :=
 bif (decide (v20_1 < ((p1.Questions.length:Nat):Int))) then
  (idx p1.Questions v20_1).bind fun x22 =>
  (C0 d x22.Event).bind fun x28 =>
  (C0 d x22.Filter).bind fun x31 =>
  bif (x22.Kind==1) then
   (Cf x22.Dims).bind fun x39 =>
   bif rm b7_1.length ([({ Name:=x22.Name,Out:=true,Expr:=({ Op:=10,Num:=0,Name:=ByteArray.empty,Column:=x22.Measure,Columns:=[],Dims:=x39,Cond:=x31,Event:=x28,Kids:=[] }:Av) }:Ax)]).length then
    rec1 ((IntKind.i64.wrap (v20_1 + 1)),(b7_1++[({ Name:=x22.Name,Out:=true,Expr:=({ Op:=10,Num:=0,Name:=ByteArray.empty,Column:=x22.Measure,Columns:=[],Dims:=x39,Cond:=x31,Event:=x28,Kids:=[] }:Av) }:Ax)]))
   else none
  else
   bif (x22.Kind==2) then
    (Cb x22.Terms).bind fun x46 =>
    bif rm b7_1.length ([({ Name:=x22.Name,Out:=true,Expr:=({ Op:=11,Num:=0,Name:=ByteArray.empty,Column:=x22.Measure,Columns:=x46,Dims:=[],Cond:=x31,Event:=x28,Kids:=[] }:Av) }:Ax)]).length then
     rec1 ((IntKind.i64.wrap (v20_1 + 1)),(b7_1++[({ Name:=x22.Name,Out:=true,Expr:=({ Op:=11,Num:=0,Name:=ByteArray.empty,Column:=x22.Measure,Columns:=x46,Dims:=[],Cond:=x31,Event:=x28,Kids:=[] }:Av) }:Ax)]))
    else none
   else
    bif rm b7_1.length ([({ Name:=x22.Name,Out:=true,Expr:=({ Op:=12,Num:=0,Name:=ByteArray.empty,Column:=x22.Measure,Columns:=[],Dims:=[],Cond:=x31,Event:=x28,Kids:=[] }:Av) }:Ax)]).length then
     rec1 ((IntKind.i64.wrap (v20_1 + 1)),(b7_1++[({ Name:=x22.Name,Out:=true,Expr:=({ Op:=12,Num:=0,Name:=ByteArray.empty,Column:=x22.Measure,Columns:=[],Dims:=[],Cond:=x31,Event:=x28,Kids:=[] }:Av) }:Ax)]))
    else none
 else
  kont1_0 v20_1 b7_1
def BL (d:Nat) (p0:Ae) (p1:A3):Option ((List Ax) × Int) :=
 (EF d p0 p1).bind fun x13 =>
 bif (x13 != 0) then
  some ([],x13)
 else
  iter (fun rec1 s=>CR p1 d (fun v20_1 b7_1=>some (b7_1,0)) rec1 s.1 s.2) AO (0,[])
def JA (p0:(List Int)) (p1:(List Int)) (kont1_0:(Int→Option Bool)) (rec1:(Int→Option Bool)) (v5_1:Int):Option Bool :=
 bif (decide (v5_1 < ((p0.length:Nat):Int))) then
  (idx p0 v5_1).bind fun x19 =>
  (idx p1 v5_1).bind fun x23 =>
  bif (x19 != x23) then
   some false
  else
   rec1 (IntKind.i64.wrap (v5_1 + 1))
 else
  kont1_0 v5_1
def Jt (p0:(List Int)) (p1:(List Int)):Option Bool :=
 bif (((p0.length:Nat):Int) != ((p1.length:Nat):Int)) then
  some false
 else
  iter (fun rec1 s=>JA p0 p1 (fun v5_1=>some true) rec1 s) AO 0
def LW (p0:ByteArray):Option Bool :=
 bif (p0.toList==({ data:=#[97,108,108] }:ByteArray).toList) then
  some false
 else
  bif (p0.toList==({ data:=#[97,110,100] }:ByteArray).toList) then
   some false
  else
   bif (p0.toList==({ data:=#[101,118,101,110,116] }:ByteArray).toList) then
    some false
   else
    bif (p0.toList==({ data:=#[102,114,111,109] }:ByteArray).toList) then
     some false
    else
     bif (p0.toList==({ data:=#[109,105,115,115,105,110,103] }:ByteArray).toList) then
      some false
     else
      bif (p0.toList==({ data:=#[110,111,116] }:ByteArray).toList) then
       some false
      else
       bif (p0.toList==({ data:=#[111,110] }:ByteArray).toList) then
        some false
       else
        bif (p0.toList==({ data:=#[111,114] }:ByteArray).toList) then
         some false
        else
         bif (p0.toList==({ data:=#[116,111] }:ByteArray).toList) then
          some false
         else
          bif (p0.toList==({ data:=#[117,110,100,101,114] }:ByteArray).toList) then
           some false
          else
           bif (p0.toList==({ data:=#[119,104,101,114,101] }:ByteArray).toList) then
            some false
           else
            some true
def Hm (p0:ByteArray) (kont1_0:(Int→Option Bool)) (rec1:(Int→Option Bool)) (v3_1:Int):Option Bool :=
 bif (decide (v3_1 < ((p0.size:Nat):Int))) then
  bif (decide (0≤(v3_1:Int)∧(v3_1:Int).toNat < p0.size)) then
   bif (decide ((DX p0 v3_1) ≥ 97)) then
    bif (decide (0≤(v3_1:Int)∧(v3_1:Int).toNat < p0.size)) then
     bif (decide ((DX p0 v3_1)≤122)) then
      rec1 (IntKind.i64.wrap (v3_1 + 1))
     else
      bif (decide (0≤(v3_1:Int)∧(v3_1:Int).toNat < p0.size)) then
       bif (decide ((DX p0 v3_1) ≥ 48)) then
        bif (decide (0≤(v3_1:Int)∧(v3_1:Int).toNat < p0.size)) then
         bif (decide ((DX p0 v3_1)≤57)) then
          rec1 (IntKind.i64.wrap (v3_1 + 1))
         else
          bif (decide (0≤(v3_1:Int)∧(v3_1:Int).toNat < p0.size)) then
           bif (!((DX p0 v3_1)==95)) then
            some false
           else
            rec1 (IntKind.i64.wrap (v3_1 + 1))
          else none
        else none
       else
        bif (decide (0≤(v3_1:Int)∧(v3_1:Int).toNat < p0.size)) then
         bif (!((DX p0 v3_1)==95)) then
          some false
         else
          rec1 (IntKind.i64.wrap (v3_1 + 1))
        else none
      else none
    else none
   else
    bif (decide (0≤(v3_1:Int)∧(v3_1:Int).toNat < p0.size)) then
     bif (decide ((DX p0 v3_1) ≥ 48)) then
      bif (decide (0≤(v3_1:Int)∧(v3_1:Int).toNat < p0.size)) then
       bif (decide ((DX p0 v3_1)≤57)) then
        rec1 (IntKind.i64.wrap (v3_1 + 1))
       else
        bif (decide (0≤(v3_1:Int)∧(v3_1:Int).toNat < p0.size)) then
         bif (!((DX p0 v3_1)==95)) then
          some false
         else
          rec1 (IntKind.i64.wrap (v3_1 + 1))
        else none
      else none
     else
      bif (decide (0≤(v3_1:Int)∧(v3_1:Int).toNat < p0.size)) then
       bif (!((DX p0 v3_1)==95)) then
        some false
       else
        rec1 (IntKind.i64.wrap (v3_1 + 1))
      else none
    else none
  else none
 else
  kont1_0 v3_1
def Hn (p0:ByteArray):Option Bool :=
 iter (fun rec1 s=>Hm p0 (fun v3_1=>LW p0) rec1 s) AO 0
def Be (p0:ByteArray):Option Bool :=
 bif (bif (decide (((p0.size:Nat):Int) < 1)) then true else (decide (((p0.size:Nat):Int) > 16))) then
  some false
 else
  bif (decide (0≤(0:Int)∧(0:Int).toNat < p0.size)) then
   bif (decide ((DX p0 0) < 97)) then
    some false
   else
    bif (decide (0≤(0:Int)∧(0:Int).toNat < p0.size)) then
     bif (decide ((DX p0 0) > 122)) then
      some false
     else
      Hn p0
    else none
  else none
def P7 (p0:Ay) (p1:Int) (kont1_0:(Int→Option Bool)) (rec1:(Int→Option Bool)) (v5_1:Int):Option Bool :=
 bif (decide (v5_1 < ((p0.Codes.length:Nat):Int))) then
  (idx p0.Codes v5_1).bind fun x16 =>
  bif (x16.Parent==p1) then
   some false
  else
   rec1 (IntKind.i64.wrap (v5_1 + 1))
 else
  kont1_0 v5_1
def Qk (p0:Ay) (p1:Int):Option Bool :=
 iter (fun rec1 s=>P7 p0 p1 (fun v5_1=>some true) rec1 s) AO 0
def Ou (p0:Ay) (kont1_0:(Int→Int→Option Int)) (rec1:((Int × Int)→Option Int)) (v1_1:Int) (v5_1:Int):Option Int :=
 (idx p0.Codes v1_1).bind fun x9 =>
 bif (decide (x9.Parent ≥ 0)) then
  (idx p0.Codes v1_1).bind fun x16 =>
  rec1 (x16.Parent,(IntKind.i64.wrap (v5_1 + 1)))
 else
  kont1_0 v1_1 v5_1
def Ed (p0:Ay) (p1:Int):Option Int :=
 iter (fun rec1 s=>Ou p0 (fun v1_1 v5_1=>some v5_1) rec1 s.1 s.2) AO (p1,0)
def Oq (p0:Ay) (kont3_4:(Int→Int→Option Int)) (rec3:((Int × Int)→Option Int)) (v6_3:Int) (v7_3:Int):Option Int :=
 bif (decide (v7_3 < ((p0.Codes.length:Nat):Int))) then
  (Qk p0 v7_3).bind fun x87 =>
  bif x87 then
   bif (decide (v6_3 ≥ 0)) then
    (Ed p0 v7_3).bind fun x93 =>
    bif (x93 != v6_3) then
     some 5
    else
     (Ed p0 v7_3).bind fun x99 =>
     rec3 (x99,(IntKind.i64.wrap (v7_3 + 1)))
   else
    (Ed p0 v7_3).bind fun x99 =>
    rec3 (x99,(IntKind.i64.wrap (v7_3 + 1)))
  else
   rec3 (v6_3,(IntKind.i64.wrap (v7_3 + 1)))
 else
  kont3_4 v6_3 v7_3
def Ld (p0:Ay):Option Int :=
 iter (fun rec3 s=>Oq p0 (fun v6_3 v7_3=>some 0) rec3 s.1 s.2) AO ((-1),0)
def IF (p0:Ay) (v3_1:Int) (rec1:(Int→Option Int)) (v4_2:Int):Option Int :=
 (idx p0.Codes v3_1).bind fun x56 =>
 bif (bif (bif (v3_1==0) then (x56.Parent != (-1)) else false) then true else (bif (decide (v3_1 > 0)) then (bif (decide (x56.Parent < 0)) then true else (decide (x56.Parent ≥ v3_1))) else false)) then
  some 6
 else
  rec1 (IntKind.i64.wrap (v3_1 + 1))
def Oo (v3_1:Int) (p0:Ay) (kont2_2:(Int→Option Int)) (rec2:(Int→Option Int)) (v4_2:Int):Option Int :=
 bif (decide (v4_2 < v3_1)) then
  (idx p0.Codes v4_2).bind fun x43 =>
  (idx p0.Codes v3_1).bind fun x49 =>
  bif (x43.Name.toList==x49.Name.toList) then
   some 10
  else
   rec2 (IntKind.i64.wrap (v4_2 + 1))
 else
  kont2_2 v4_2
def On (p0:Ay) (kont1_0:(Int→Option Int)) (rec1:(Int→Option Int)) (v3_1:Int):Option Int :=
 bif (decide (v3_1 < ((p0.Codes.length:Nat):Int))) then
  (idx p0.Codes v3_1).bind fun x30 =>
  (Be x30.Name).bind fun x33 =>
  bif (!x33) then
   some 3
  else
   iter (fun rec2 s=>Oo v3_1 p0 (IF p0 v3_1 rec1) rec2 s) AO 0
 else
  kont1_0 v3_1
def EO (p0:Ay):Option Int :=
 (Be p0.Name).bind fun x10 =>
 bif (!x10) then
  some 3
 else
  bif (((p0.Codes.length:Nat):Int)==0) then
   some 5
  else
   bif (decide (((p0.Codes.length:Nat):Int) > 60)) then
    some 1
   else
    iter (fun rec1 s=>On p0 (fun v3_1=>Ld p0) rec1 s) AO 0
def IL (p0:Int) (p1:Int) (p2:Int):Option Bool :=
 some (bif (decide (p1≤p0)) then (decide (p0≤p2)) else false)
def MA (p0:A4) (kont1_0:(Int→Option Int)) (rec1:(Int→Option Int)) (v3_1:Int):Option Int :=
 bif (decide (v3_1 < ((p0.Widths.length:Nat):Int))) then
  (idx p0.Widths v3_1).bind fun x42 =>
  bif (bif (v3_1==0) then (x42 != 1) else false) then
   some 2
  else
   bif (decide (v3_1 > 0)) then
    (idx p0.Widths (IntKind.i64.wrap (v3_1 - 1))).bind fun x59 =>
    bif (bif (decide (x42≤x59)) then true else (decide (x42 > 1000000))) then
     some 2
    else
     (idx p0.Widths (IntKind.i64.wrap (v3_1 - 1))).bind fun x72 =>
     bif (decide (x72≠0)) then
      bif ((Int.tmod x42 x72) != 0) then
       some 2
      else
       rec1 (IntKind.i64.wrap (v3_1 + 1))
     else none
   else
    rec1 (IntKind.i64.wrap (v3_1 + 1))
 else
  kont1_0 v3_1
def GO (p0:A4):Option Int :=
 bif (bif (decide (((p0.Widths.length:Nat):Int) < 1)) then true else (decide (((p0.Widths.length:Nat):Int) > 4))) then
  some 1
 else
  iter (fun rec1 s=>MA p0 (fun v3_1=>some 0) rec1 s) AO 0
def Hp (p0:A4):Option Int :=
 (IL p0.Low (-1000000) 1000000).bind fun x7 =>
 bif (!x7) then
  some 2
 else
  (IL p0.High (-1000000) 1000000).bind fun x12 =>
  bif (bif (!x12) then true else (decide (p0.Low > p0.High))) then
   some 2
  else
   GO p0
def E9 (x11:A4):Option Int :=
 bif (x11.Kind==3) then
  (Hp x11).bind fun x61 =>
  bif (x61 != 0) then
   some x61
  else
   bif (bif (bif (x11.Kind != 2) then (x11.List_ != 0) else false) then true else (bif (x11.Kind != 3) then (bif (bif (bif (x11.Low != 0) then true else (x11.High != 0)) then true else (decide (((x11.Widths.length:Nat):Int) > 0))) then true else x11.Optional) else false)) then
    some 11
   else
    some 0
 else
  bif (bif (bif (x11.Kind != 2) then (x11.List_ != 0) else false) then true else (bif (x11.Kind != 3) then (bif (bif (bif (x11.Low != 0) then true else (x11.High != 0)) then true else (decide (((x11.Widths.length:Nat):Int) > 0))) then true else x11.Optional) else false)) then
   some 11
  else
   some 0
def H4 (x11:A4) (p1:Int) (p0:Ae):Option Int :=
 (IL x11.Kind 1 3).bind fun x33 =>
 bif (bif (!x33) then true else (bif (decide (p1 > 0)) then (x11.Kind==1) else false)) then
  some 4
 else
  bif (x11.Kind==2) then
   (IL x11.List_ 0 (IntKind.i64.wrap (((p0.Lists.length:Nat):Int) - 1))).bind fun x54 =>
   bif (!x54) then
    some 5
   else
    E9 x11
  else
   E9 x11
def H3 (p1:Int) (p0:Ae) (x11:A4) (kont1_0:(Int→Option Int)) (rec1:(Int→Option Int)) (v6_1:Int):Option Int :=
 bif (decide (v6_1 < p1)) then
  (idx p0.Columns v6_1).bind fun x25 =>
  bif (x25.Name.toList==x11.Name.toList) then
   some 10
  else
   rec1 (IntKind.i64.wrap (v6_1 + 1))
 else
  kont1_0 v6_1
def IK (p0:Ae) (p1:Int):Option Int :=
 (idx p0.Columns p1).bind fun x11 =>
 (Be x11.Name).bind fun x15 =>
 bif (!x15) then
  some 3
 else
  iter (fun rec1 s=>H3 p1 p0 x11 (fun v6_1=>H4 x11 p1 p0) rec1 s) AO 0
def II (p0:Ae) (kont3_4:(Int→Option Int)) (rec3:(Int→Option Int)) (v6_3:Int):Option Int :=
 bif (decide (v6_3 < ((p0.Columns.length:Nat):Int))) then
  (IK p0 v6_3).bind fun x73 =>
  bif (x73 != 0) then
   some x73
  else
   rec3 (IntKind.i64.wrap (v6_3 + 1))
 else
  kont3_4 v6_3
def IJ (p0:Ae):Option Int :=
 bif (((p0.Columns.length:Nat):Int)==0) then
  some 7
 else
  (idx p0.Columns 0).bind fun x59 =>
  bif (x59.Kind != 1) then
   some 7
  else
   iter (fun rec3 s=>II p0 (fun v6_3=>some 0) rec3 s) AO 0
def IH (v3_1:Int) (p0:Ae) (kont2_2:(Int→Option Int)) (rec2:(Int→Option Int)) (v5_2:Int):Option Int :=
 bif (decide (v5_2 < v3_1)) then
  (idx p0.Lists v5_2).bind fun x42 =>
  (idx p0.Lists v3_1).bind fun x48 =>
  bif (x42.Name.toList==x48.Name.toList) then
   some 10
  else
   rec2 (IntKind.i64.wrap (v5_2 + 1))
 else
  kont2_2 v5_2
def IG (p0:Ae) (kont1_0:(Int→Option Int)) (rec1:(Int→Option Int)) (v3_1:Int):Option Int :=
 bif (decide (v3_1 < ((p0.Lists.length:Nat):Int))) then
  (idx p0.Lists v3_1).bind fun x28 =>
  (EO x28).bind fun x30 =>
  bif (x30 != 0) then
   some x30
  else
   iter (fun rec2 s=>IH v3_1 p0 (fun v5_2=>rec1 (IntKind.i64.wrap (v3_1 + 1))) rec2 s) AO 0
 else
  kont1_0 v3_1
def Cv (p0:Ae):Option Int :=
 bif (bif (decide (((p0.Lists.length:Nat):Int) > 6)) then true else (decide (((p0.Columns.length:Nat):Int) > 8))) then
  some 1
 else
  iter (fun rec1 s=>IG p0 (fun v3_1=>IJ p0) rec1 s) AO 0
def GN (p0:Ay):Option Int :=
 (EO p0).bind fun x4 =>
 bif (x4 != 0) then
  some (-1)
 else
  (Ed p0 (IntKind.i64.wrap (((p0.Codes.length:Nat):Int) - 1))).bind fun x11 =>
  some (IntKind.i64.wrap (x11 + 1))
def EQ (p0:Ae) (p1:Int):Option Int :=
 (Cv p0).bind fun x7 =>
 bif (bif (bif (x7 != 0) then true else (decide (p1 < 1))) then true else (decide (p1 ≥ ((p0.Columns.length:Nat):Int)))) then
  some (-1)
 else
  (idx p0.Columns p1).bind fun x23 =>
  bif (x23.Kind==2) then
   (idx p0.Lists x23.List_).bind fun x32 =>
   (GN x32).bind fun x34 =>
   some (IntKind.i64.wrap (x34 - 1))
  else
   some ((x23.Widths.length:Nat):Int)
def GB (p0:Aj) (p1:Int) (self_ref05_count:(Aj→Int→Option Int)) (kont1_0:(Int→Int→Option Int)) (rec1:((Int × Int)→Option Int)) (v5_1:Int) (v6_1:Int):Option Int :=
 bif (bif (decide (v6_1 < ((p0.Kids.length:Nat):Int))) then (decide (v5_1 < p1)) else false) then
  (idx p0.Kids v6_1).bind fun x23 =>
  (self_ref05_count x23 (IntKind.i64.wrap (p1 - v5_1))).bind fun x28 =>
  rec1 ((IntKind.i64.wrap (v5_1 + x28)),(IntKind.i64.wrap (v6_1 + 1)))
 else
  kont1_0 v5_1 v6_1
def EX (d:Nat) (self_ref05_count:(Aj→Int→Option Int)) (p0:Aj) (p1:Int):Option Int :=
 iter (fun rec1 s=>GB p0 p1 self_ref05_count (fun v5_1 v6_1=>some v5_1) rec1 s.1 s.2) AO (1,0)
def F4:Nat→Aj→Int→Option Int
 | 0,_,_=>none
 | d + 1,p0,p1=>EX d (F4 d) p0 p1
def Ow (p0:Aj) (self_ref05_depth:(Aj→Option Int)) (kont1_0:(Int→Int→Option Int)) (rec1:((Int × Int)→Option Int)) (v3_1:Int) (v4_1:Int):Option Int :=
 bif (decide (v4_1 < ((p0.Kids.length:Nat):Int))) then
  (idx p0.Kids v4_1).bind fun x16 =>
  (self_ref05_depth x16).bind fun x18 =>
  rec1 ((if x18 > v3_1 then x18 else v3_1),(IntKind.i64.wrap (v4_1 + 1)))
 else
  kont1_0 v3_1 v4_1
def JC (d:Nat) (self_ref05_depth:(Aj→Option Int)) (p0:Aj):Option Int :=
 iter (fun rec1 s=>Ow p0 self_ref05_depth (fun v3_1 v4_1=>some (IntKind.i64.wrap (v3_1 + 1))) rec1 s.1 s.2) AO (0,0)
def F5:Nat→Aj→Option Int
 | 0,_=>none
 | d + 1,p0=>JC d (F5 d) p0
def Fv (p0:Ae) (p1:Int) (p2:Int):Option Bool :=
 bif (bif (decide (p1 ≥ 0)) then (decide (p1 < ((p0.Columns.length:Nat):Int))) else false) then
  (idx p0.Columns p1).bind fun x20 =>
  some (x20.Kind==p2)
 else
  some false
def EY (p1:Aj) (self_ref05_node:(Ae→Aj→Option Int)) (p0:Ae) (kont1_1:(Int→Option Int)) (rec1:(Int→Option Int)) (v7_1:Int):Option Int :=
 bif (decide (v7_1 < ((p1.Kids.length:Nat):Int))) then
  (idx p1.Kids v7_1).bind fun x179 =>
  (self_ref05_node p0 x179).bind fun x181 =>
  bif (x181 != 0) then
   some x181
  else
   rec1 (IntKind.i64.wrap (v7_1 + 1))
 else
  kont1_1 v7_1
def BE (p1:Aj) (self_ref05_node:(Ae→Aj→Option Int)) (p0:Ae):Option Int :=
 bif (bif (p1.Op==3) then (bif (bif (decide (p1.Low < (-1000000))) then true else (decide (p1.High > 1000000))) then true else (decide (p1.Low > p1.High))) else false) then
  some 2
 else
  iter (fun rec1 s=>EY p1 self_ref05_node p0 (fun v7_1=>some 0) rec1 s) AO 0
def Bs (p1:Aj) (p0:Ae) (self_ref05_node:(Ae→Aj→Option Int)):Option Int :=
 bif (p1.Op==2) then
  bif (decide (p1.Code < 0)) then
   some 6
  else
   (idx p0.Columns p1.Column).bind fun x138 =>
   (idx p0.Lists x138.List_).bind fun x141 =>
   bif (decide (p1.Code ≥ ((x141.Codes.length:Nat):Int))) then
    some 6
   else
    BE p1 self_ref05_node p0
 else
  BE p1 self_ref05_node p0
def AE (p1:Aj) (p0:Ae) (self_ref05_node:(Ae→Aj→Option Int)) (j5_1:Int) (k6_1_1:Int) (k6_2_1:Int) (k6_3_1:Int) (k6_4_1:Int):Option Int :=
 bif (bif (bif (bif (bif (((p1.Kids.length:Nat):Int) != j5_1) then true else (k6_1_1 != p1.Column)) then true else (k6_2_1 != p1.Code)) then true else (k6_3_1 != p1.Low)) then true else (k6_4_1 != p1.High)) then
  some 11
 else
  bif (p1.Op==2) then
   (Fv p0 p1.Column 2).bind fun x85 =>
   bif (!x85) then
    some 7
   else
    Bs p1 p0 self_ref05_node
  else
   bif (p1.Op==3) then
    (Fv p0 p1.Column 3).bind fun x96 =>
    bif (!x96) then
     some 7
    else
     Bs p1 p0 self_ref05_node
   else
    bif (p1.Op==4) then
     (Fv p0 p1.Column 3).bind fun x108 =>
     bif (!x108) then
      some 7
     else
      (idx p0.Columns p1.Column).bind fun x115 =>
      bif (!x115.Optional) then
       some 7
      else
       Bs p1 p0 self_ref05_node
    else
     Bs p1 p0 self_ref05_node
def CC (d:Nat) (self_ref05_node:(Ae→Aj→Option Int)) (p0:Ae) (p1:Aj):Option Int :=
 bif (p1.Op==1) then
  AE p1 p0 self_ref05_node 0 0 0 0 0
 else
  bif (p1.Op==2) then
   AE p1 p0 self_ref05_node 0 p1.Column p1.Code 0 0
  else
   bif (p1.Op==3) then
    AE p1 p0 self_ref05_node 0 p1.Column 0 p1.Low p1.High
   else
    bif (p1.Op==4) then
     AE p1 p0 self_ref05_node 0 p1.Column 0 0 0
    else
     bif (p1.Op==5) then
      AE p1 p0 self_ref05_node 2 0 0 0 0
     else
      bif (p1.Op==6) then
       AE p1 p0 self_ref05_node 2 0 0 0 0
      else
       bif (p1.Op==7) then
        AE p1 p0 self_ref05_node 1 0 0 0 0
       else
        some 4
def Ds:Nat→Ae→Aj→Option Int
 | 0,_,_=>none
 | d + 1,p0,p1=>CC d (Ds d) p0 p1
def BW (d:Nat) (p0:Ae) (p1:Aj):Option Int :=
 (Cv p0).bind fun x7 =>
 bif (x7 != 0) then
  some x7
 else
  (F4 d p1 41).bind fun x12 =>
  bif (decide (x12 > 40)) then
   some 1
  else
   (F5 d p1).bind fun x15 =>
   bif (decide (x15 > 10)) then
    some 22
   else
    (Ds d p0 p1).bind fun x19 =>
    some x19
def Dm (p0:Ae) (p1:Int) (p2:Int):Option Bool :=
 bif (bif (decide (p1 ≥ 0)) then (decide (p1 < ((p0.Columns.length:Nat):Int))) else false) then
  (idx p0.Columns p1).bind fun x20 =>
  some (x20.Kind==p2)
 else
  some false
def EW (p0:Ae) (p1:Aw):Option Int :=
 (Cv p0).bind fun x7 =>
 bif (x7 != 0) then
  some x7
 else
  bif (bif (decide (p1.Column < 1)) then true else (decide (p1.Column ≥ ((p0.Columns.length:Nat):Int)))) then
   some 7
  else
   (EQ p0 p1.Column).bind fun x27 =>
   (IL p1.Level 0 x27).bind fun x28 =>
   bif (!x28) then
    some 8
   else
    some 0
def EZ (v5_1:Int) (p1:(List Aw)) (kont2_2:(Int→Option Int)) (rec2:(Int→Option Int)) (v7_2:Int):Option Int :=
 bif (decide (v7_2 < v5_1)) then
  (idx p1 v7_2).bind fun x46 =>
  (idx p1 v5_1).bind fun x51 =>
  bif (x46.Column==x51.Column) then
   some 10
  else
   rec2 (IntKind.i64.wrap (v7_2 + 1))
 else
  kont2_2 v7_2
def C3 (p1:(List Aw)) (p0:Ae) (kont1_0:(Int→Option Int)) (rec1:(Int→Option Int)) (v5_1:Int):Option Int :=
 bif (decide (v5_1 < ((p1.length:Nat):Int))) then
  (idx p1 v5_1).bind fun x25 =>
  (EW p0 x25).bind fun x27 =>
  bif (x27 != 0) then
   some x27
  else
   (idx p1 v5_1).bind fun x34 =>
   (Dm p0 x34.Column 2).bind fun x37 =>
   bif (!x37) then
    some 7
   else
    iter (fun rec2 s=>EZ v5_1 p1 (fun v7_2=>rec1 (IntKind.i64.wrap (v5_1 + 1))) rec2 s) AO 0
 else
  kont1_0 v5_1
def Eo (p0:Ae) (p1:(List Aw)):Option Int :=
 bif (bif (decide (((p1.length:Nat):Int) < 1)) then true else (decide (((p1.length:Nat):Int) > 3))) then
  some 1
 else
  iter (fun rec1 s=>C3 p1 p0 (fun v5_1=>some 0) rec1 s) AO 0
def Kx (p0:(List Int)) (p1:Int) (kont1_0:(Int→Option Bool)) (rec1:(Int→Option Bool)) (v5_1:Int):Option Bool :=
 bif (decide (v5_1 < ((p0.length:Nat):Int))) then
  (idx p0 v5_1).bind fun x14 =>
  bif (x14==p1) then
   some true
  else
   rec1 (IntKind.i64.wrap (v5_1 + 1))
 else
  kont1_0 v5_1
def Js (p0:(List Int)) (p1:Int):Option Bool :=
 iter (fun rec1 s=>Kx p0 p1 (fun v5_1=>some false) rec1 s) AO 0
def Cl (p2:(List Int)) (p0:Ae) (p1:Int) (kont1_0:(Int→Option Int)) (rec1:(Int→Option Int)) (v7_1:Int):Option Int :=
 bif (decide (v7_1 < ((p2.length:Nat):Int))) then
  (idx p2 v7_1).bind fun x25 =>
  (Dm p0 x25 3).bind fun x27 =>
  bif (!x27) then
   some 7
  else
   (idx p2 v7_1).bind fun x31 =>
   bif (x31==p1) then
    some 10
   else
    bif (decide (0≤(0:Int)∧0≤v7_1∧v7_1≤((p2.length:Nat):Int))) then
     (idx p2 v7_1).bind fun x41 =>
     (Js (Im p2 0 v7_1) x41).bind fun x43 =>
     bif x43 then
      some 10
     else
      rec1 (IntKind.i64.wrap (v7_1 + 1))
    else none
 else
  kont1_0 v7_1
def D6 (p0:Ae) (p1:Int) (p2:(List Int)):Option Int :=
 bif (bif (decide (((p2.length:Nat):Int) < 1)) then true else (decide (((p2.length:Nat):Int) > 3))) then
  some 1
 else
  iter (fun rec1 s=>Cl p2 p0 p1 (fun v7_1=>some 0) rec1 s) AO 0
def Ee (d:Nat) (p0:Ae) (p1:Az):Option Int :=
 (Dm p0 p1.Measure 3).bind fun x10 =>
 bif (p1.Kind==1) then
  (Eo p0 p1.Dims).bind fun x32 =>
  bif (x32 != 0) then
   some x32
  else
   bif (bif (p1.Measure != (-1)) then (!x10) else false) then
    some 7
   else
    some 0
 else
  bif (p1.Kind==2) then
   bif (!x10) then
    some 7
   else
    (D6 p0 p1.Measure p1.Terms).bind fun x52 =>
    some x52
  else
   bif (!x10) then
    some 7
   else
    (idx p0.Columns p1.Measure).bind fun x19 =>
    bif (decide (x19.Low < 0)) then
     some 2
    else
     (BW d p0 p1.Event).bind fun x26 =>
     some x26
def JB (p0:Aj) (p1:Aj) (self_ref05_Same:(Aj→Aj→Option Bool)) (kont1_0:(Int→Option Bool)) (rec1:(Int→Option Bool)) (v5_1:Int):Option Bool :=
 bif (decide (v5_1 < ((p0.Kids.length:Nat):Int))) then
  (idx p0.Kids v5_1).bind fun x58 =>
  (idx p1.Kids v5_1).bind fun x63 =>
  (self_ref05_Same x58 x63).bind fun x65 =>
  bif (!x65) then
   some false
  else
   rec1 (IntKind.i64.wrap (v5_1 + 1))
 else
  kont1_0 v5_1
def FS (d:Nat) (self_ref05_Same:(Aj→Aj→Option Bool)) (p0:Aj) (p1:Aj):Option Bool :=
 bif (bif (bif (bif (bif (bif (p0.Op != p1.Op) then true else (p0.Column != p1.Column)) then true else (p0.Code != p1.Code)) then true else (p0.Low != p1.Low)) then true else (p0.High != p1.High)) then true else (((p0.Kids.length:Nat):Int) != ((p1.Kids.length:Nat):Int))) then
  some false
 else
  iter (fun rec1 s=>JB p0 p1 self_ref05_Same (fun v5_1=>some true) rec1 s) AO 0
def Dr:Nat→Aj→Aj→Option Bool
 | 0,_,_=>none
 | d + 1,p0,p1=>FS d (Dr d) p0 p1
def HP (d:Nat) (p0:Aj):Option Bool :=
 (Dr d p0 ({ Op:=0,Column:=0,Code:=0,Low:=0,High:=0,Kids:=[] }:Aj)).bind fun x5 =>
 some x5
def Ck (d:Nat) (p0:Ae) (p1:Az):Option Int :=
 (Cv p0).bind fun x9 =>
 bif (x9 != 0) then
  some x9
 else
  (Be p1.Name).bind fun x15 =>
  bif (!x15) then
   some 3
  else
   bif (bif (decide (p1.Kind < 1)) then true else (decide (p1.Kind > 3))) then
    some 4
   else
    (BW d p0 p1.Filter).bind fun x28 =>
    bif (x28 != 0) then
     some x28
    else
     (Ee d p0 p1).bind fun x34 =>
     bif (x34 != 0) then
      some x34
     else
      bif (bif (bif (p1.Kind != 1) then (decide (((p1.Dims.length:Nat):Int) > 0)) else false) then true else (bif (p1.Kind != 2) then (decide (((p1.Terms.length:Nat):Int) > 0)) else false)) then
       some 11
      else
       bif (p1.Kind != 3) then
        (HP d p1.Event).bind fun x65 =>
        bif (!x65) then
         some 11
        else
         some 0
       else
        some 0
def En (v8_1:Int) (p1:A3) (kont2_2:(Int→Option Int)) (rec2:(Int→Option Int)) (v10_2:Int):Option Int :=
 bif (decide (v10_2 < v8_1)) then
  (idx p1.Questions v10_2).bind fun x100 =>
  (idx p1.Questions v8_1).bind fun x106 =>
  bif (x100.Name.toList==x106.Name.toList) then
   some 10
  else
   rec2 (IntKind.i64.wrap (v10_2 + 1))
 else
  kont2_2 v10_2
def B3 (p1:A3) (d:Nat) (p0:Ae) (kont1_0:(Int→Option Int)) (rec1:(Int→Option Int)) (v8_1:Int):Option Int :=
 bif (decide (v8_1 < ((p1.Questions.length:Nat):Int))) then
  (idx p1.Questions v8_1).bind fun x86 =>
  (Ck d p0 x86).bind fun x88 =>
  bif (x88 != 0) then
   some x88
  else
   iter (fun rec2 s=>En v8_1 p1 (fun v10_2=>rec1 (IntKind.i64.wrap (v8_1 + 1))) rec2 s) AO 0
 else
  kont1_0 v8_1
def D5 (d:Nat) (p0:Ae) (p1:A3):Option Int :=
 (BW d p0 p1.Cohort).bind fun x29 =>
 bif (x29 != 0) then
  some x29
 else
  bif (bif (bif (bif (bif (bif (decide (p1.Sample.Of < 1)) then true else (decide (p1.Sample.Of > 1000))) then true else (decide (p1.Sample.Part < 1))) then true else (decide (p1.Sample.Part > p1.Sample.Of))) then true else (decide (p1.Sample.Seed < 0))) then true else (decide (p1.Sample.Seed > 1099511627776))) then
   some 2
  else
   bif (bif (decide (((p1.Questions.length:Nat):Int) < 1)) then true else (decide (((p1.Questions.length:Nat):Int) > 8))) then
    some 1
   else
    iter (fun rec1 s=>B3 p1 d p0 (fun v8_1=>some 0) rec1 s) AO 0
def Db (d:Nat) (p0:Ae) (p1:A3):Option Int :=
 (Cv p0).bind fun x12 =>
 bif (x12 != 0) then
  some x12
 else
  (Be p1.Project).bind fun x18 =>
  bif (!x18) then
   some 3
  else
   (Be p1.Source).bind fun x23 =>
   bif (!x23) then
    some 3
   else
    D5 d p0 p1
def Er (p1:A3) (kont1_0:(Int→(List Ax)→Option ((List Ax) × Int))) (rec1:((Int × (List Ax))→Option ((List Ax) × Int))) (v8_1:Int) (b7_1:(List Ax)):Option ((List Ax) × Int) :=
 bif (decide (v8_1 < ((p1.Questions.length:Nat):Int))) then
  (idx p1.Questions v8_1).bind fun x27 =>
  bif (x27.Kind==1) then
   bif rm b7_1.length ([({ Name:=x27.Name,Out:=true,Expr:=({ Op:=10,Num:=0,Name:=ByteArray.empty,Column:=x27.Measure,Columns:=[],Dims:=x27.Dims,Cond:=x27.Filter,Event:=({ Op:=0,Column:=0,Code:=0,Low:=0,High:=0,Kids:=[] }:Aj),Kids:=[] }:Av) }:Ax)]).length then
    rec1 ((IntKind.i64.wrap (v8_1 + 1)),(b7_1++[({ Name:=x27.Name,Out:=true,Expr:=({ Op:=10,Num:=0,Name:=ByteArray.empty,Column:=x27.Measure,Columns:=[],Dims:=x27.Dims,Cond:=x27.Filter,Event:=({ Op:=0,Column:=0,Code:=0,Low:=0,High:=0,Kids:=[] }:Aj),Kids:=[] }:Av) }:Ax)]))
   else none
  else
   bif (x27.Kind==2) then
    bif rm b7_1.length ([({ Name:=x27.Name,Out:=true,Expr:=({ Op:=11,Num:=0,Name:=ByteArray.empty,Column:=x27.Measure,Columns:=x27.Terms,Dims:=[],Cond:=x27.Filter,Event:=({ Op:=0,Column:=0,Code:=0,Low:=0,High:=0,Kids:=[] }:Aj),Kids:=[] }:Av) }:Ax)]).length then
     rec1 ((IntKind.i64.wrap (v8_1 + 1)),(b7_1++[({ Name:=x27.Name,Out:=true,Expr:=({ Op:=11,Num:=0,Name:=ByteArray.empty,Column:=x27.Measure,Columns:=x27.Terms,Dims:=[],Cond:=x27.Filter,Event:=({ Op:=0,Column:=0,Code:=0,Low:=0,High:=0,Kids:=[] }:Aj),Kids:=[] }:Av) }:Ax)]))
    else none
   else
    bif rm b7_1.length ([({ Name:=x27.Name,Out:=true,Expr:=({ Op:=12,Num:=0,Name:=ByteArray.empty,Column:=x27.Measure,Columns:=[],Dims:=[],Cond:=x27.Filter,Event:=x27.Event,Kids:=[] }:Av) }:Ax)]).length then
     rec1 ((IntKind.i64.wrap (v8_1 + 1)),(b7_1++[({ Name:=x27.Name,Out:=true,Expr:=({ Op:=12,Num:=0,Name:=ByteArray.empty,Column:=x27.Measure,Columns:=[],Dims:=[],Cond:=x27.Filter,Event:=x27.Event,Kids:=[] }:Av) }:Ax)]))
    else none
 else
  kont1_0 v8_1 b7_1
def Dc (d:Nat) (p0:Ae) (p1:A3):Option ((List Ax) × Int) :=
 (Db d p0 p1).bind fun x13 =>
 bif (x13 != 0) then
  some ([],x13)
 else
  iter (fun rec1 s=>Er p1 (fun v8_1 b7_1=>some (b7_1,0)) rec1 s.1 s.2) AO (0,[])
def FR (p0:(List Aw)) (p1:(List Aw)) (kont1_0:(Int→Option Bool)) (rec1:(Int→Option Bool)) (v5_1:Int):Option Bool :=
 bif (decide (v5_1 < ((p0.length:Nat):Int))) then
  (idx p0 v5_1).bind fun x19 =>
  (idx p1 v5_1).bind fun x23 =>
  bif (!((x19.Column==x23.Column) && ((x19.Level==x23.Level) && true))) then
   some false
  else
   rec1 (IntKind.i64.wrap (v5_1 + 1))
 else
  kont1_0 v5_1
def Gb (p0:(List Aw)) (p1:(List Aw)):Option Bool :=
 bif (((p0.length:Nat):Int) != ((p1.length:Nat):Int)) then
  some false
 else
  iter (fun rec1 s=>FR p0 p1 (fun v5_1=>some true) rec1 s) AO 0
def IP (p0:Av) (p1:Av) (self_ref16_SameExpr:(Av→Av→Option Bool)) (kont1_0:(Int→Option Bool)) (rec1:(Int→Option Bool)) (v5_1:Int):Option Bool :=
 bif (decide (v5_1 < ((p0.Kids.length:Nat):Int))) then
  (idx p0.Kids v5_1).bind fun x83 =>
  (idx p1.Kids v5_1).bind fun x88 =>
  (self_ref16_SameExpr x83 x88).bind fun x90 =>
  bif (!x90) then
   some false
  else
   rec1 (IntKind.i64.wrap (v5_1 + 1))
 else
  kont1_0 v5_1
def Gx (p0:Av) (p1:Av) (self_ref16_SameExpr:(Av→Av→Option Bool)):Option Bool :=
 iter (fun rec1 s=>IP p0 p1 self_ref16_SameExpr (fun v5_1=>some true) rec1 s) AO 0
def Fy (d:Nat) (self_ref16_SameExpr:(Av→Av→Option Bool)) (p0:Av) (p1:Av):Option Bool :=
 bif (bif (bif (bif (p0.Op != p1.Op) then true else (p0.Num != p1.Num)) then true else (!(p0.Name.toList==p1.Name.toList))) then true else (p0.Column != p1.Column)) then
  some false
 else
  (Jt p0.Columns p1.Columns).bind fun x37 =>
  bif (!x37) then
   some false
  else
   (Gb p0.Dims p1.Dims).bind fun x45 =>
   bif (!x45) then
    some false
   else
    (Dr d p0.Cond p1.Cond).bind fun x53 =>
    bif (!x53) then
     some false
    else
     (Dr d p0.Event p1.Event).bind fun x61 =>
     bif (bif (!x61) then true else (((p0.Kids.length:Nat):Int) != ((p1.Kids.length:Nat):Int))) then
      some false
     else
      Gx p0 p1 self_ref16_SameExpr
def D8:Nat→Av→Av→Option Bool
 | 0,_,_=>none
 | d + 1,p0,p1=>Fy d (D8 d) p0 p1
def JD (p0:(List Ax)) (p1:(List Ax)) (d:Nat) (kont1_0:(Int→Option Bool)) (rec1:(Int→Option Bool)) (v5_1:Int):Option Bool :=
 bif (decide (v5_1 < ((p0.length:Nat):Int))) then
  (idx p0 v5_1).bind fun x19 =>
  (idx p1 v5_1).bind fun x24 =>
  bif (!(x19.Name.toList==x24.Name.toList)) then
   some false
  else
   (idx p0 v5_1).bind fun x31 =>
   (idx p1 v5_1).bind fun x36 =>
   bif (!(x31.Out==x36.Out)) then
    some false
   else
    (idx p0 v5_1).bind fun x44 =>
    (idx p1 v5_1).bind fun x49 =>
    (D8 d x44.Expr x49.Expr).bind fun x52 =>
    bif (!x52) then
     some false
    else
     rec1 (IntKind.i64.wrap (v5_1 + 1))
 else
  kont1_0 v5_1
def HQ (d:Nat) (p0:(List Ax)) (p1:(List Ax)):Option Bool :=
 bif (((p0.length:Nat):Int) != ((p1.length:Nat):Int)) then
  some false
 else
  iter (fun rec1 s=>JD p0 p1 d (fun v5_1=>some true) rec1 s) AO 0
def H5 (p1:Int) (p0:(List Ax)) (p2:ByteArray) (kont1_0:(Int→Option Bool)) (rec1:(Int→Option Bool)) (v7_1:Int):Option Bool :=
 bif (decide (v7_1 < p1)) then
  (idx p0 v7_1).bind fun x15 =>
  bif (x15.Name.toList==p2.toList) then
   some true
  else
   rec1 (IntKind.i64.wrap (v7_1 + 1))
 else
  kont1_0 v7_1
def GP (p0:(List Ax)) (p1:Int) (p2:ByteArray):Option Bool :=
 iter (fun rec1 s=>H5 p1 p0 p2 (fun v7_1=>some false) rec1 s) AO 0
def Lh (p0:Av) (p1:Int) (self_ref16_count:(Av→Int→Option Int)) (kont1_0:(Int→Int→Option Int)) (rec1:((Int × Int)→Option Int)) (v5_1:Int) (v6_1:Int):Option Int :=
 bif (bif (decide (v6_1 < ((p0.Kids.length:Nat):Int))) then (decide (v5_1 < p1)) else false) then
  (idx p0.Kids v6_1).bind fun x23 =>
  (self_ref16_count x23 (IntKind.i64.wrap (p1 - v5_1))).bind fun x28 =>
  rec1 ((IntKind.i64.wrap (v5_1 + x28)),(IntKind.i64.wrap (v6_1 + 1)))
 else
  kont1_0 v5_1 v6_1
def Hs (d:Nat) (self_ref16_count:(Av→Int→Option Int)) (p0:Av) (p1:Int):Option Int :=
 iter (fun rec1 s=>Lh p0 p1 self_ref16_count (fun v5_1 v6_1=>some v5_1) rec1 s.1 s.2) AO (1,0)
def Ig:Nat→Av→Int→Option Int
 | 0,_,_=>none
 | d + 1,p0,p1=>Hs d (Ig d) p0 p1
def Li (p0:Av) (self_ref16_depth:(Av→Option Int)) (kont1_0:(Int→Int→Option Int)) (rec1:((Int × Int)→Option Int)) (v3_1:Int) (v4_1:Int):Option Int :=
 bif (decide (v4_1 < ((p0.Kids.length:Nat):Int))) then
  (idx p0.Kids v4_1).bind fun x16 =>
  (self_ref16_depth x16).bind fun x18 =>
  rec1 ((if x18 > v3_1 then x18 else v3_1),(IntKind.i64.wrap (v4_1 + 1)))
 else
  kont1_0 v3_1 v4_1
def Ht (d:Nat) (self_ref16_depth:(Av→Option Int)) (p0:Av):Option Int :=
 iter (fun rec1 s=>Li p0 self_ref16_depth (fun v3_1 v4_1=>some (IntKind.i64.wrap (v3_1 + 1))) rec1 s.1 s.2) AO (0,0)
def Ih:Nat→Av→Option Int
 | 0,_=>none
 | d + 1,p0=>Ht d (Ih d) p0
def Lj (d:Nat) (p0:Aj):Option Bool :=
 (Dr d p0 ({ Op:=0,Column:=0,Code:=0,Low:=0,High:=0,Kids:=[] }:Aj)).bind fun x5 =>
 some x5
def Bz (p0:Av) (d:Nat) (j4_1:Bool) (j5_1:Bool) (k3_1_1:Int) (k3_2_1:ByteArray) (k3_3_1:Int) (k3_4_1:(List Int)) (k3_5_1:(List Aw)):Option Bool :=
 bif (bif (bif (bif (bif (k3_1_1==p0.Num) then (k3_2_1.toList==p0.Name.toList) else false) then (k3_3_1==p0.Column) else false) then (((k3_4_1.length:Nat):Int)==((p0.Columns.length:Nat):Int)) else false) then (((k3_5_1.length:Nat):Int)==((p0.Dims.length:Nat):Int)) else false) then
  bif j4_1 then
   bif j5_1 then
    some true
   else
    (Lj d p0.Event).bind fun x114 =>
    some x114
  else
   (Lj d p0.Cond).bind fun x106 =>
   bif x106 then
    bif j5_1 then
     some true
    else
     (Lj d p0.Event).bind fun x114 =>
     some x114
   else
    some false
 else
  some false
def GQ (d:Nat) (p0:Av):Option Bool :=
 bif (p0.Op==1) then
  Bz p0 d false false p0.Num ByteArray.empty 0 [] []
 else
  bif (p0.Op==2) then
   Bz p0 d false false 0 p0.Name 0 [] []
  else
   bif (p0.Op==3) then
    Bz p0 d true false 0 ByteArray.empty 0 [] []
   else
    bif (p0.Op==4) then
     Bz p0 d true false 0 ByteArray.empty p0.Column [] []
    else
     bif (p0.Op==5) then
      Bz p0 d true false 0 ByteArray.empty p0.Column [] []
     else
      bif (p0.Op==14) then
       Bz p0 d true false 0 ByteArray.empty p0.Column [] []
      else
       bif (p0.Op==6) then
        Bz p0 d false false 0 ByteArray.empty 0 [] []
       else
        bif (p0.Op==7) then
         Bz p0 d false false 0 ByteArray.empty 0 [] []
        else
         bif (p0.Op==8) then
          Bz p0 d false false 0 ByteArray.empty 0 [] []
         else
          bif (p0.Op==9) then
           Bz p0 d false false 0 ByteArray.empty 0 [] []
          else
           bif (p0.Op==10) then
            Bz p0 d true false 0 ByteArray.empty p0.Column [] p0.Dims
           else
            bif (p0.Op==11) then
             Bz p0 d true false 0 ByteArray.empty p0.Column p0.Columns []
            else
             bif (p0.Op==12) then
              Bz p0 d true true 0 ByteArray.empty p0.Column [] []
             else
              bif (p0.Op==13) then
               Bz p0 d true false p0.Num ByteArray.empty p0.Column [] []
              else
               some false
def B4 (j5_2:Int) (d:Nat) (p0:Ae) (p1:Av) (j7_4:Bool):Option Bool :=
 bif j7_4 then
  bif (decide (j5_2 > 0)) then
   some true
  else
   (BW d p0 p1.Cond).bind fun x148 =>
   some (x148==0)
 else
  some false
def Fx (p0:Ae) (p1:Av) (j5_2:Int) (d:Nat):Option Bool :=
 (Dm p0 p1.Column 3).bind fun x56 =>
 bif (p1.Op==1) then
  some (bif (decide (p1.Num ≥ (-1099511627776))) then (decide (p1.Num≤1099511627776)) else false)
 else
  bif (p1.Op==2) then
   (Be p1.Name).bind fun x73 =>
   some x73
  else
   bif (p1.Op==3) then
    B4 j5_2 d p0 p1 true
   else
    bif (p1.Op==6) then
     B4 j5_2 d p0 p1 true
    else
     bif (p1.Op==7) then
      B4 j5_2 d p0 p1 true
     else
      bif (p1.Op==8) then
       B4 j5_2 d p0 p1 true
      else
       bif (p1.Op==9) then
        B4 j5_2 d p0 p1 true
       else
        bif (p1.Op==10) then
         (Eo p0 p1.Dims).bind fun x85 =>
         bif (x85 != 0) then
          some false
         else
          B4 j5_2 d p0 p1 (bif x56 then true else (p1.Column==(-1)))
        else
         bif (p1.Op==11) then
          (D6 p0 p1.Column p1.Columns).bind fun x100 =>
          bif (x100 != 0) then
           some false
          else
           B4 j5_2 d p0 p1 x56
         else
          bif (p1.Op==12) then
           bif (!x56) then
            some false
           else
            (idx p0.Columns p1.Column).bind fun x111 =>
            bif (decide (x111.Low < 0)) then
             some false
            else
             (BW d p0 p1.Event).bind fun x120 =>
             bif (x120 != 0) then
              some false
             else
              B4 j5_2 d p0 p1 x56
          else
           bif (p1.Op==13) then
            bif (!x56) then
             some false
            else
             (idx p0.Columns p1.Column).bind fun x132 =>
             (Js x132.Widths p1.Num).bind fun x137 =>
             bif (!x137) then
              some false
             else
              B4 j5_2 d p0 p1 x56
           else
            B4 j5_2 d p0 p1 x56
def GD (p1:Av) (self_ref16_Right:(Ae→Av→Option Bool)) (p0:Ae) (kont1_0:(Int→Option Bool)) (rec1:(Int→Option Bool)) (v6_1:Int):Option Bool :=
 bif (decide (v6_1 < ((p1.Kids.length:Nat):Int))) then
  (idx p1.Kids v6_1).bind fun x39 =>
  bif (decide (x39.Op ≥ 10)) then
   some false
  else
   (idx p1.Kids v6_1).bind fun x48 =>
   (self_ref16_Right p0 x48).bind fun x50 =>
   bif (!x50) then
    some false
   else
    rec1 (IntKind.i64.wrap (v6_1 + 1))
 else
  kont1_0 v6_1
def Ep (p1:Av) (self_ref16_Right:(Ae→Av→Option Bool)) (p0:Ae) (d:Nat) (j5_2:Int):Option Bool :=
 bif (((p1.Kids.length:Nat):Int) != j5_2) then
  some false
 else
  iter (fun rec1 s=>GD p1 self_ref16_Right p0 (fun v6_1=>Fx p0 p1 j5_2 d) rec1 s) AO 0
def Fw (p1:Av) (self_ref16_Right:(Ae→Av→Option Bool)) (p0:Ae) (d:Nat):Option Bool :=
 bif (bif (decide (p1.Op ≥ 6)) then (decide (p1.Op≤9)) else false) then
  Ep p1 self_ref16_Right p0 d 2
 else
  Ep p1 self_ref16_Right p0 d 0
def Dw (d:Nat) (self_ref16_Right:(Ae→Av→Option Bool)) (p0:Ae) (p1:Av):Option Bool :=
 (Cv p0).bind fun x9 =>
 bif (x9 != 0) then
  some false
 else
  (GQ d p1).bind fun x13 =>
  bif (!x13) then
   some false
  else
   Fw p1 self_ref16_Right p0 d
def D7:Nat→Ae→Av→Option Bool
 | 0,_,_=>none
 | d + 1,p0,p1=>Dw d (D7 d) p0 p1
def Lg (p0:Av) (self_ref16_Names:(Av→Option (List ByteArray))) (kont1_0:(Int→(List ByteArray)→Option (List ByteArray))) (rec1:((Int × (List ByteArray))→Option (List ByteArray))) (v4_1:Int) (b3_1:(List ByteArray)):Option (List ByteArray) :=
 bif (decide (v4_1 < ((p0.Kids.length:Nat):Int))) then
  (idx p0.Kids v4_1).bind fun x22 =>
  (self_ref16_Names x22).bind fun x24 =>
  bif rm b3_1.length x24.length then
   rec1 ((IntKind.i64.wrap (v4_1 + 1)),(b3_1++x24))
  else none
 else
  kont1_0 v4_1 b3_1
def Hr (d:Nat) (self_ref16_Names:(Av→Option (List ByteArray))) (p0:Av):Option (List ByteArray) :=
 bif (p0.Op==2) then
  some [p0.Name]
 else
  iter (fun rec1 s=>Lg p0 self_ref16_Names (fun v4_1 b3_1=>some b3_1) rec1 s.1 s.2) AO (0,[])
def If:Nat→Av→Option (List ByteArray)
 | 0,_=>none
 | d + 1,p0=>Hr d (If d) p0
def HR (x38:(List ByteArray)) (p1:(List Ax)) (p2:Int) (kont1_0:(Int→Option Int)) (rec1:(Int→Option Int)) (v9_1:Int):Option Int :=
 bif (decide (v9_1 < ((x38.length:Nat):Int))) then
  (idx x38 v9_1).bind fun x49 =>
  (GP p1 p2 x49).bind fun x51 =>
  bif (!x51) then
   some 24
  else
   rec1 (IntKind.i64.wrap (v9_1 + 1))
 else
  kont1_0 v9_1
def Gc (d:Nat) (p0:Ae) (p1:(List Ax)) (p2:Int):Option Int :=
 (idx p1 p2).bind fun x12 =>
 (Be x12.Name).bind fun x16 =>
 bif (!x16) then
  some 3
 else
  (GP p1 p2 x12.Name).bind fun x22 =>
  bif x22 then
   some 10
  else
   (Ig d x12.Expr 61).bind fun x25 =>
   bif (decide (x25 > 60)) then
    some 1
   else
    (Ih d x12.Expr).bind fun x29 =>
    bif (decide (x29 > 10)) then
     some 22
    else
     (D7 d p0 x12.Expr).bind fun x34 =>
     bif (!x34) then
      some 11
     else
      (If d x12.Expr).bind fun x38 =>
      iter (fun rec1 s=>HR x38 p1 p2 (fun v9_1=>some 0) rec1 s) AO 0
def IN (p1:(List Ax)) (d:Nat) (p0:Ae) (kont1_0:(Int→Option (Int × Int))) (rec1:(Int→Option (Int × Int))) (v7_1:Int):Option (Int × Int) :=
 bif (decide (v7_1 < ((p1.length:Nat):Int))) then
  (Gc d p0 p1 v7_1).bind fun x26 =>
  bif (x26 != 0) then
   some (v7_1,x26)
  else
   rec1 (IntKind.i64.wrap (v7_1 + 1))
 else
  kont1_0 v7_1
def JP (d:Nat) (p0:Ae) (p1:(List Ax)):Option (Int × Int) :=
 (Cv p0).bind fun x10 =>
 bif (x10 != 0) then
  some ((-1),x10)
 else
  bif (decide (((p1.length:Nat):Int) > 30)) then
   some ((-1),1)
  else
   iter (fun rec1 s=>IN p1 d p0 (fun v7_1=>some (((p1.length:Nat):Int),0)) rec1 s) AO 0
def NU (p0:(List Int)):Option Ag :=
 bif (decide (0≤(0:Int)∧0≤(if 400 < ((p0.length:Nat):Int) then 400 else ((p0.length:Nat):Int))∧(if 400 < ((p0.length:Nat):Int) then 400 else ((p0.length:Nat):Int))≤((p0.length:Nat):Int))) then
  some ({ f_l:=(Im p0 0 (if 400 < ((p0.length:Nat):Int) then 400 else ((p0.length:Nat):Int))),f_at:=0 }:Ag)
 else none
def FI (p0:Ag) (p1:Int):Option (Int × Ag) :=
 (idx p0.f_l (IntKind.i64.wrap ((IntKind.i64.wrap (p0.f_at + 1)) - 1))).bind fun x36 =>
 bif (decide (p1 > 256)) then
  bif (decide ((IntKind.i64.wrap (p0.f_at + 1)) < ((p0.f_l.length:Nat):Int))) then
   (idx p0.f_l (IntKind.i64.wrap (p0.f_at + 1))).bind fun x63 =>
   bif (decide (p1≠0)) then
    some ((Int.tmod (IntKind.i64.wrap ((IntKind.i64.wrap ((IntKind.i64.wrap x36) * 256)) + (IntKind.i64.wrap x63))) p1),({ f_l:=p0.f_l,f_at:=(IntKind.i64.wrap ((IntKind.i64.wrap (p0.f_at + 1)) + 1)) }:Ag))
   else none
  else
   bif (decide (p1≠0)) then
    some ((Int.tmod (IntKind.i64.wrap x36) p1),({ f_l:=p0.f_l,f_at:=(IntKind.i64.wrap (p0.f_at + 1)) }:Ag))
   else none
 else
  bif (decide (p1≠0)) then
   some ((Int.tmod (IntKind.i64.wrap x36) p1),({ f_l:=p0.f_l,f_at:=(IntKind.i64.wrap (p0.f_at + 1)) }:Ag))
  else none
def AH (p0:Ag) (p1:Int):Option (Int × Ag) :=
 bif (decide (p1 < 1)) then
  some (0,p0)
 else
  bif (decide (p0.f_at ≥ ((p0.f_l.length:Nat):Int))) then
   some (0,p0)
  else
   FI p0 p1
def Cz (p0:Ag) (p1:Int):Option (Bool × Ag) :=
 (AH p0 p1).bind fun x7 =>
 some ((x7.1==(IntKind.i64.wrap (p1 - 1))),x7.2)
def Bh (p0:Ag) (p1:Int) (p2:Int):Option (Int × Ag) :=
 (AH p0 (IntKind.i64.wrap ((IntKind.i64.wrap (p2 - p1)) + 1))).bind fun x13 =>
 some ((IntKind.i64.wrap (p1 + x13.1)),x13.2)
def HI (v8_2:Int) (kont3_4:(Int→(List DG)→Option (Ay × Ag))) (rec3:((Int × (List DG))→Option (Ay × Ag))) (v9_3:Int) (b12_3:(List DG)):Option (Ay × Ag) :=
 bif (decide (v9_3 > 0)) then
  (CE ((b12_3.length:Nat):Int)).bind fun x49 =>
  bif (decide (({ data:=#[108] }:ByteArray).size + x49.size≤9223372036854775807)) then
   bif rm b12_3.length ([({ Name:=(({ data:=#[108] }:ByteArray)++x49),Parent:=(IntKind.i64.wrap (1 + v8_2)) }:DG)]).length then
    rec3 ((IntKind.i64.wrap (v9_3 - 1)),(b12_3++[({ Name:=(({ data:=#[108] }:ByteArray)++x49),Parent:=(IntKind.i64.wrap (1 + v8_2)) }:DG)]))
   else none
  else none
 else
  kont3_4 v9_3 b12_3
def FG (x15:(Int × Ag)) (kont2_2:(Int→Ag→(List DG)→Option (Ay × Ag))) (rec2:((Int × Ag × (List DG))→Option (Ay × Ag))) (v8_2:Int) (w0_2:Ag) (b12_2:(List DG)):Option (Ay × Ag) :=
 bif (decide (v8_2 < x15.1)) then
  (Bh w0_2 1 2).bind fun x39 =>
  iter (fun rec3 s=>HI v8_2 (fun v9_3 b12_3=>rec2 ((IntKind.i64.wrap (v8_2 + 1)),x39.2,b12_3)) rec3 s.1 s.2) AO (x39.1,b12_2)
 else
  kont2_2 v8_2 w0_2 b12_2
def FH (x15:(Int × Ag)) (p1:ByteArray) (k12_1:(List DG)):Option (Ay × Ag) :=
 (Cz x15.2 2).bind fun x31 =>
 bif x31.1 then
  some (({ Name:=p1,Codes:=k12_1 }:Ay),x31.2)
 else
  iter (fun rec2 s=>FG x15 (fun v8_2 w0_2 b12_2=>some (({ Name:=p1,Codes:=b12_2 }:Ay),w0_2)) rec2 s.1 s.2.1 s.2.2) AO (0,x31.2,k12_1)
def FF (x15:(Int × Ag)) (kont1_0:(Int→(List DG)→Option (Ay × Ag))) (rec1:((Int × (List DG))→Option (Ay × Ag))) (v7_1:Int) (b12_1:(List DG)):Option (Ay × Ag) :=
 bif (decide (v7_1 < x15.1)) then
  (CE v7_1).bind fun x24 =>
  bif (decide (({ data:=#[107] }:ByteArray).size + x24.size≤9223372036854775807)) then
   bif rm b12_1.length ([({ Name:=(({ data:=#[107] }:ByteArray)++x24),Parent:=0 }:DG)]).length then
    rec1 ((IntKind.i64.wrap (v7_1 + 1)),(b12_1++[({ Name:=(({ data:=#[107] }:ByteArray)++x24),Parent:=0 }:DG)]))
   else none
  else none
 else
  kont1_0 v7_1 b12_1
def E8 (p0:Ag) (p1:ByteArray):Option (Ay × Ag) :=
 (Bh p0 1 3).bind fun x15 =>
 iter (fun rec1 s=>FF x15 (fun v7_1 b12_1=>FH x15 p1 b12_1) rec1 s.1 s.2) AO (0,[({ Name:=({ data:=#[116,111,112] }:ByteArray),Parent:=(-1) }:DG)])
def Dp (p0:Ag) (p1:ByteArray):Option (A4 × Ag) :=
 (Bh p0 (-4) 2).bind fun x8 =>
 (AH x8.2 4).bind fun x15 =>
 (idx ([[1],[1,5],[1,5,20],[1,2,4,12]]) x15.1).bind fun x16 =>
 (Cz x15.2 3).bind fun x19 =>
 (AH x19.2 45).bind fun x24 =>
 some (({ Name:=p1,Kind:=3,List_:=0,Low:=x8.1,High:=(IntKind.i64.wrap (x8.1 + x24.1)),Widths:=x16,Optional:=x19.1 }:A4),x24.2)
def EM (kont1_0:(Int→Ag→(List A4)→Option (Ae × Ag))) (rec1:((Int × Ag × (List A4))→Option (Ae × Ag))) (v4_1:Int) (w0_1:Ag) (b12_1:(List A4)):Option (Ae × Ag) :=
 bif (decide (v4_1 > 0)) then
  (CE ((b12_1.length:Nat):Int)).bind fun x34 =>
  bif (decide (({ data:=#[109] }:ByteArray).size + x34.size≤9223372036854775807)) then
   (Dp w0_1 (({ data:=#[109] }:ByteArray)++x34)).bind fun x36 =>
   bif rm b12_1.length [x36.1].length then
    rec1 ((IntKind.i64.wrap (v4_1 - 1)),x36.2,(b12_1++[x36.1]))
   else none
  else none
 else
  kont1_0 v4_1 w0_1 b12_1
def JJ (kont2_0:(Int→Ag→(List A4)→Option (Ae × Ag))) (rec2:((Int × Ag × (List A4))→Option (Ae × Ag))) (v4_2:Int) (w0_2:Ag) (b12_2:(List A4)):Option (Ae × Ag) :=
 bif (decide (v4_2 > 0)) then
  (CE ((b12_2.length:Nat):Int)).bind fun x34 =>
  bif (decide (({ data:=#[109] }:ByteArray).size + x34.size≤9223372036854775807)) then
   (Dp w0_2 (({ data:=#[109] }:ByteArray)++x34)).bind fun x36 =>
   bif rm b12_2.length [x36.1].length then
    rec2 ((IntKind.i64.wrap (v4_2 - 1)),x36.2,(b12_2++[x36.1]))
   else none
  else none
 else
  kont2_0 v4_2 w0_2 b12_2
def EL (p0:Ag):Option (Ae × Ag) :=
 (E8 p0 ({ data:=#[111,110,101] }:ByteArray)).bind fun x6 =>
 (E8 x6.2 ({ data:=#[116,119,111] }:ByteArray)).bind fun x8 =>
 (Cz x8.2 2).bind fun x15 =>
 bif x15.1 then
  bif rm ([({ Name:=({ data:=#[119,104,111] }:ByteArray),Kind:=1,List_:=0,Low:=0,High:=0,Widths:=[],Optional:=false }:A4),({ Name:=({ data:=#[115,101,120] }:ByteArray),Kind:=2,List_:=0,Low:=0,High:=0,Widths:=[],Optional:=false }:A4)]).length ([({ Name:=({ data:=#[106,111,98] }:ByteArray),Kind:=2,List_:=1,Low:=0,High:=0,Widths:=[],Optional:=false }:A4)]).length then
   (Bh x15.2 1 3).bind fun x23 =>
   iter (fun rec1 s=>EM (fun v4_1 w0_1 b12_1=>some (({ Lists:=[x6.1,x8.1],Columns:=b12_1 }:Ae),w0_1)) rec1 s.1 s.2.1 s.2.2) AO (x23.1,x23.2,([({ Name:=({ data:=#[119,104,111] }:ByteArray),Kind:=1,List_:=0,Low:=0,High:=0,Widths:=[],Optional:=false }:A4),({ Name:=({ data:=#[115,101,120] }:ByteArray),Kind:=2,List_:=0,Low:=0,High:=0,Widths:=[],Optional:=false }:A4)]++[({ Name:=({ data:=#[106,111,98] }:ByteArray),Kind:=2,List_:=1,Low:=0,High:=0,Widths:=[],Optional:=false }:A4)]))
  else none
 else
  (Bh x15.2 1 3).bind fun x23 =>
  iter (fun rec2 s=>JJ (fun v4_2 w0_2 b12_2=>some (({ Lists:=[x6.1,x8.1],Columns:=b12_2 }:Ae),w0_2)) rec2 s.1 s.2.1 s.2.2) AO (x23.1,x23.2,[({ Name:=({ data:=#[119,104,111] }:ByteArray),Kind:=1,List_:=0,Low:=0,High:=0,Widths:=[],Optional:=false }:A4),({ Name:=({ data:=#[115,101,120] }:ByteArray),Kind:=2,List_:=0,Low:=0,High:=0,Widths:=[],Optional:=false }:A4)])
def Da (p0:Ae) (p1:Int) (kont1_0:(Int→(List Int)→Option (List Int))) (rec1:((Int × (List Int))→Option (List Int))) (v10_1:Int) (b5_1:(List Int)):Option (List Int) :=
 bif (decide (v10_1 < ((p0.Columns.length:Nat):Int))) then
  (idx p0.Columns v10_1).bind fun x16 =>
  bif (x16.Kind==p1) then
   bif rm b5_1.length [v10_1].length then
    rec1 ((IntKind.i64.wrap (v10_1 + 1)),(b5_1++[v10_1]))
   else none
  else
   rec1 ((IntKind.i64.wrap (v10_1 + 1)),b5_1)
 else
  kont1_0 v10_1 b5_1
def Ce (p0:Ae) (p1:Int):Option (List Int) :=
 iter (fun rec1 s=>Da p0 p1 (fun v10_1 b5_1=>some b5_1) rec1 s.1 s.2) AO (0,[])
def Fq (p0:Ag) (p1:Ae):Option (Int × Ag) :=
 (Ce p1 2).bind fun x7 =>
 (AH p0 ((x7.length:Nat):Int)).bind fun x12 =>
 (idx x7 x12.1).bind fun x13 =>
 some (x13,x12.2)
def B7 (p0:Ag) (p1:Ae):Option (Int × Ag) :=
 (Ce p1 3).bind fun x7 =>
 (AH p0 ((x7.length:Nat):Int)).bind fun x12 =>
 (idx x7 x12.1).bind fun x13 =>
 some (x13,x12.2)
def Do (p1:Ae) (k0_1:Ag):Option (Aj × Ag) :=
 (AH k0_1 5).bind fun x53 =>
 bif (x53.1==1) then
  (Fq x53.2 p1).bind fun x58 =>
  (idx p1.Columns x58.1).bind fun x66 =>
  (idx p1.Lists x66.List_).bind fun x69 =>
  (AH x58.2 ((x69.Codes.length:Nat):Int)).bind fun x73 =>
  some (({ Op:=2,Column:=x58.1,Code:=x73.1,Low:=0,High:=0,Kids:=[] }:Aj),x73.2)
 else
  bif (x53.1==2) then
   (B7 x53.2 p1).bind fun x80 =>
   (idx p1.Columns x80.1).bind fun x84 =>
   (Bh x80.2 (-3) 40).bind fun x88 =>
   (AH x88.2 30).bind fun x94 =>
   some (({ Op:=3,Column:=x80.1,Code:=0,Low:=(IntKind.i64.wrap (x84.Low + x88.1)),High:=(IntKind.i64.wrap ((IntKind.i64.wrap (x84.Low + x88.1)) + x94.1)),Kids:=[] }:Aj),x94.2)
  else
   bif (x53.1==3) then
    (B7 x53.2 p1).bind fun x80 =>
    (idx p1.Columns x80.1).bind fun x84 =>
    (Bh x80.2 (-3) 40).bind fun x88 =>
    (AH x88.2 30).bind fun x94 =>
    some (({ Op:=3,Column:=x80.1,Code:=0,Low:=(IntKind.i64.wrap (x84.Low + x88.1)),High:=(IntKind.i64.wrap ((IntKind.i64.wrap (x84.Low + x88.1)) + x94.1)),Kids:=[] }:Aj),x94.2)
   else
    bif (x53.1==4) then
     (B7 x53.2 p1).bind fun x101 =>
     (idx p1.Columns x101.1).bind fun x105 =>
     bif x105.Optional then
      some (({ Op:=4,Column:=x101.1,Code:=0,Low:=0,High:=0,Kids:=[] }:Aj),x101.2)
     else
      some (({ Op:=1,Column:=0,Code:=0,Low:=0,High:=0,Kids:=[] }:Aj),x101.2)
    else
     some (({ Op:=1,Column:=0,Code:=0,Low:=0,High:=0,Kids:=[] }:Aj),x53.2)
def CO (d:Nat) (self_draw_Codes_Cond:(Ag→Ae→Int→Option (Aj × Ag))) (p0:Ag) (p1:Ae) (p2:Int):Option (Aj × Ag) :=
 bif (decide (p2 > 0)) then
  (AH p0 5).bind fun x14 =>
  bif (x14.1==2) then
   (self_draw_Codes_Cond x14.2 p1 (IntKind.i64.wrap (p2 - 1))).bind fun x21 =>
   some (({ Op:=7,Column:=0,Code:=0,Low:=0,High:=0,Kids:=[x21.1] }:Aj),x21.2)
  else
   bif (x14.1==3) then
    (self_draw_Codes_Cond x14.2 p1 (IntKind.i64.wrap (p2 - 1))).bind fun x30 =>
    (self_draw_Codes_Cond x30.2 p1 (IntKind.i64.wrap (p2 - 1))).bind fun x35 =>
    some (({ Op:=5,Column:=0,Code:=0,Low:=0,High:=0,Kids:=[x30.1,x35.1] }:Aj),x35.2)
   else
    bif (x14.1==4) then
     (self_draw_Codes_Cond x14.2 p1 (IntKind.i64.wrap (p2 - 1))).bind fun x44 =>
     (self_draw_Codes_Cond x44.2 p1 (IntKind.i64.wrap (p2 - 1))).bind fun x49 =>
     some (({ Op:=6,Column:=0,Code:=0,Low:=0,High:=0,Kids:=[x44.1,x49.1] }:Aj),x49.2)
    else
     Do p1 x14.2
 else
  Do p1 p0
def C9:Nat→Ag→Ae→Int→Option (Aj × Ag)
 | 0,_,_,_=>none
 | d + 1,p0,p1,p2=>CO d (C9 d) p0 p1 p2
def Ff (x11:(List Int)) (p2:Int) (kont1_0:(Int→Ag→(List Int)→Option ((List Int) × Ag))) (rec1:((Int × Ag × (List Int))→Option ((List Int) × Ag))) (v14_1:Int) (w0_1:Ag) (b7_1:(List Int)):Option ((List Int) × Ag) :=
 bif (decide (v14_1 < ((x11.length:Nat):Int))) then
  (idx x11 v14_1).bind fun x19 =>
  bif (x19 != p2) then
   bif (((b7_1.length:Nat):Int)==0) then
    (idx x11 v14_1).bind fun x35 =>
    bif rm b7_1.length [x35].length then
     rec1 ((IntKind.i64.wrap (v14_1 + 1)),w0_1,(b7_1++[x35]))
    else none
   else
    (Cz w0_1 2).bind fun x29 =>
    bif x29.1 then
     (idx x11 v14_1).bind fun x35 =>
     bif rm b7_1.length [x35].length then
      rec1 ((IntKind.i64.wrap (v14_1 + 1)),x29.2,(b7_1++[x35]))
     else none
    else
     rec1 ((IntKind.i64.wrap (v14_1 + 1)),x29.2,b7_1)
  else
   rec1 ((IntKind.i64.wrap (v14_1 + 1)),w0_1,b7_1)
 else
  kont1_0 v14_1 w0_1 b7_1
def Fs (p0:Ag) (p1:Ae) (p2:Int):Option ((List Int) × Ag) :=
 (Ce p1 3).bind fun x11 =>
 iter (fun rec1 s=>Ff x11 p2 (fun v14_1 w0_1 b7_1=>some (b7_1,w0_1)) rec1 s.1 s.2.1 s.2.2) AO (0,p0,[])
def FD (x9:(List Int)) (x16:(Int × Ag)) (p1:Ae) (kont1_0:(Int→Ag→(List Aw)→Option ((List Aw) × Ag))) (rec1:((Int × Ag × (List Aw))→Option ((List Aw) × Ag))) (v20_1:Int) (w0_1:Ag) (b5_1:(List Aw)):Option ((List Aw) × Ag) :=
 bif (decide (v20_1 < (((Im x9 x16.1 ((x9.length:Nat):Int)).length:Nat):Int))) then
  (idx (Im x9 x16.1 ((x9.length:Nat):Int)) v20_1).bind fun x26 =>
  (idx (Im x9 x16.1 ((x9.length:Nat):Int)) v20_1).bind fun x32 =>
  (EQ p1 x32).bind fun x34 =>
  (AH w0_1 (IntKind.i64.wrap (x34 + 1))).bind fun x36 =>
  bif rm b5_1.length [({ Column:=x26,Level:=x36.1 }:Aw)].length then
   rec1 ((IntKind.i64.wrap (v20_1 + 1)),x36.2,(b5_1++[({ Column:=x26,Level:=x36.1 }:Aw)]))
  else none
 else
  kont1_0 v20_1 w0_1 b5_1
def FE (x9:(List Int)) (p1:Ae) (kont2_0:(Int→Ag→(List Aw)→Option ((List Aw) × Ag))) (rec2:((Int × Ag × (List Aw))→Option ((List Aw) × Ag))) (v20_2:Int) (w0_2:Ag) (b5_2:(List Aw)):Option ((List Aw) × Ag) :=
 bif (decide (v20_2 < ((x9.length:Nat):Int))) then
  (idx x9 v20_2).bind fun x26 =>
  (idx x9 v20_2).bind fun x32 =>
  (EQ p1 x32).bind fun x34 =>
  (AH w0_2 (IntKind.i64.wrap (x34 + 1))).bind fun x36 =>
  bif rm b5_2.length [({ Column:=x26,Level:=x36.1 }:Aw)].length then
   rec2 ((IntKind.i64.wrap (v20_2 + 1)),x36.2,(b5_2++[({ Column:=x26,Level:=x36.1 }:Aw)]))
  else none
 else
  kont2_0 v20_2 w0_2 b5_2
def CB (p0:Ag) (p1:Ae):Option ((List Aw) × Ag) :=
 (Ce p1 2).bind fun x9 =>
 (Cz p0 2).bind fun x11 =>
 bif x11.1 then
  (AH x11.2 ((x9.length:Nat):Int)).bind fun x16 =>
  bif (decide (0≤(x16.1:Int)∧x16.1≤((x9.length:Nat):Int)∧((x9.length:Nat):Int)≤((x9.length:Nat):Int))) then
   iter (fun rec1 s=>FD x9 x16 p1 (fun v20_1 w0_1 b5_1=>some (b5_1,w0_1)) rec1 s.1 s.2.1 s.2.2) AO (0,x16.2,[])
  else none
 else
  iter (fun rec2 s=>FE x9 p1 (fun v20_2 w0_2 b5_2=>some (b5_2,w0_2)) rec2 s.1 s.2.1 s.2.2) AO (0,x11.2,[])
def CW (d:Nat) (p0:Ag) (p1:Ae) (p2:ByteArray):Option (Az × Ag) :=
 (AH p0 3).bind fun x14 =>
 (C9 d x14.2 p1 x14.1).bind fun x15 =>
 (B7 x15.2 p1).bind fun x19 =>
 (AH x19.2 4).bind fun x21 =>
 bif (x21.1==1) then
  (CB x21.2 p1).bind fun x60 =>
  some (({ Name:=p2,Kind:=1,Filter:=x15.1,Dims:=x60.1,Measure:=x19.1,Terms:=[],Event:=({ Op:=0,Column:=0,Code:=0,Low:=0,High:=0,Kids:=[] }:Aj) }:Az),x60.2)
 else
  bif (x21.1==2) then
   (Fs x21.2 p1 x19.1).bind fun x31 =>
   bif (decide (((x31.1.length:Nat):Int) > 0)) then
    some (({ Name:=p2,Kind:=2,Filter:=x15.1,Dims:=[],Measure:=x19.1,Terms:=x31.1,Event:=({ Op:=0,Column:=0,Code:=0,Low:=0,High:=0,Kids:=[] }:Aj) }:Az),x31.2)
   else
    (CB x31.2 p1).bind fun x60 =>
    some (({ Name:=p2,Kind:=1,Filter:=x15.1,Dims:=x60.1,Measure:=(-1),Terms:=[],Event:=({ Op:=0,Column:=0,Code:=0,Low:=0,High:=0,Kids:=[] }:Aj) }:Az),x60.2)
  else
   bif (x21.1==3) then
    (idx p1.Columns x19.1).bind fun x46 =>
    bif (decide (x46.Low ≥ 0)) then
     (C9 d x21.2 p1 1).bind fun x53 =>
     some (({ Name:=p2,Kind:=3,Filter:=x15.1,Dims:=[],Measure:=x19.1,Terms:=[],Event:=x53.1 }:Az),x53.2)
    else
     (CB x21.2 p1).bind fun x60 =>
     some (({ Name:=p2,Kind:=1,Filter:=x15.1,Dims:=x60.1,Measure:=(-1),Terms:=[],Event:=({ Op:=0,Column:=0,Code:=0,Low:=0,High:=0,Kids:=[] }:Aj) }:Az),x60.2)
   else
    (CB x21.2 p1).bind fun x60 =>
    some (({ Name:=p2,Kind:=1,Filter:=x15.1,Dims:=x60.1,Measure:=(-1),Terms:=[],Event:=({ Op:=0,Column:=0,Code:=0,Low:=0,High:=0,Kids:=[] }:Aj) }:Az),x60.2)
def Dj (x9:ByteArray) (k5_2_1:Int) (k5_3_1:Int) (k5_4_1:Int) (k5_5_1:Int) (k5_6_1:Int) (k5_7_1:(List Aj)) (x32:(Int × Ag)) (x25:(Int × Ag)) (x15:(Int × Ag)) (v6_1:Int) (w0_1:Ag) (b50_1:(List Az)):Option (A3 × Ag) :=
 some (({ Project:=(({ data:=#[112] }:ByteArray)++x9),Source:=({ data:=#[115,114,99] }:ByteArray),Cohort:=({ Op:=k5_2_1,Column:=k5_3_1,Code:=k5_4_1,Low:=k5_5_1,High:=k5_6_1,Kids:=k5_7_1 }:Aj),Sample:=({ Part:=x32.1,Of:=x25.1,Seed:=x15.1 }:OJ),Questions:=b50_1 }:A3),w0_1)
def Di (d:Nat) (p1:Ae) (kont1_0:(Int→Ag→(List Az)→Option (A3 × Ag))) (rec1:((Int × Ag × (List Az))→Option (A3 × Ag))) (v6_1:Int) (w0_1:Ag) (b50_1:(List Az)):Option (A3 × Ag) :=
 bif (decide (v6_1 > 0)) then
  (CE v6_1).bind fun x46 =>
  bif (decide (({ data:=#[113] }:ByteArray).size + x46.size≤9223372036854775807)) then
   (CW d w0_1 p1 (({ data:=#[113] }:ByteArray)++x46)).bind fun x48 =>
   bif rm b50_1.length [x48.1].length then
    rec1 ((IntKind.i64.wrap (v6_1 - 1)),x48.2,(b50_1++[x48.1]))
   else none
  else none
 else
  kont1_0 v6_1 w0_1 b50_1
def Dk (x9:ByteArray) (k5_2_1:Int) (k5_3_1:Int) (k5_4_1:Int) (k5_5_1:Int) (k5_6_1:Int) (k5_7_1:(List Aj)) (x15:(Int × Ag)) (v6_2:Int) (w0_2:Ag) (b50_2:(List Az)):Option (A3 × Ag) :=
 some (({ Project:=(({ data:=#[112] }:ByteArray)++x9),Source:=({ data:=#[115,114,99] }:ByteArray),Cohort:=({ Op:=k5_2_1,Column:=k5_3_1,Code:=k5_4_1,Low:=k5_5_1,High:=k5_6_1,Kids:=k5_7_1 }:Aj),Sample:=({ Part:=1,Of:=1,Seed:=x15.1 }:OJ),Questions:=b50_2 }:A3),w0_2)
def GV (d:Nat) (p1:Ae) (kont2_0:(Int→Ag→(List Az)→Option (A3 × Ag))) (rec2:((Int × Ag × (List Az))→Option (A3 × Ag))) (v6_2:Int) (w0_2:Ag) (b50_2:(List Az)):Option (A3 × Ag) :=
 bif (decide (v6_2 > 0)) then
  (CE v6_2).bind fun x46 =>
  bif (decide (({ data:=#[113] }:ByteArray).size + x46.size≤9223372036854775807)) then
   (CW d w0_2 p1 (({ data:=#[113] }:ByteArray)++x46)).bind fun x48 =>
   bif rm b50_2.length [x48.1].length then
    rec2 ((IntKind.i64.wrap (v6_2 - 1)),x48.2,(b50_2++[x48.1]))
   else none
  else none
 else
  kont2_0 v6_2 w0_2 b50_2
def BX (d:Nat) (p1:Ae) (x9:ByteArray) (x15:(Int × Ag)) (k0_1:Ag) (k5_2_1:Int) (k5_3_1:Int) (k5_4_1:Int) (k5_5_1:Int) (k5_6_1:Int) (k5_7_1:(List Aj)):Option (A3 × Ag) :=
 (Cz k0_1 3).bind fun x23 =>
 bif x23.1 then
  (Bh x23.2 2 5).bind fun x25 =>
  (Bh x25.2 1 x25.1).bind fun x32 =>
  (Bh x32.2 1 3).bind fun x36 =>
  iter (fun rec1 s=>Di d p1 (Dj x9 k5_2_1 k5_3_1 k5_4_1 k5_5_1 k5_6_1 k5_7_1 x32 x25 x15) rec1 s.1 s.2.1 s.2.2) AO (x36.1,x36.2,[])
 else
  (Bh x23.2 1 3).bind fun x36 =>
  iter (fun rec2 s=>GV d p1 (Dk x9 k5_2_1 k5_3_1 k5_4_1 k5_5_1 k5_6_1 k5_7_1 x15) rec2 s.1 s.2.1 s.2.2) AO (x36.1,x36.2,[])
def CP (d:Nat) (p0:Ag) (p1:Ae):Option (A3 × Ag) :=
 (AH p0 3).bind fun x8 =>
 (CE x8.1).bind fun x9 =>
 bif (decide (({ data:=#[112] }:ByteArray).size + x9.size≤9223372036854775807)) then
  (C9 d x8.2 p1 1).bind fun x13 =>
  (AH x13.2 999).bind fun x15 =>
  (Cz x15.2 3).bind fun x19 =>
  bif x19.1 then
   BX d p1 x9 x15 x19.2 1 0 0 0 0 []
  else
   BX d p1 x9 x15 x19.2 x13.1.Op x13.1.Column x13.1.Code x13.1.Low x13.1.High x13.1.Kids
 else none
def Ia (d:Nat) :Option Bool :=
 (LP d ({ Lists:=[],Columns:=[({ Name:=({ data:=#[119,104,111] }:ByteArray),Kind:=1,List_:=0,Low:=0,High:=0,Widths:=[],Optional:=false }:A4)] }:Ae) ({ Project:=({ data:=#[112] }:ByteArray),Version:=0,Picks:=[],Rows:=[[2],[5],[9]] }:Bn) ([({ Name:=({ data:=#[97] }:ByteArray),Out:=false,Expr:=({ Op:=3,Num:=0,Name:=ByteArray.empty,Column:=0,Columns:=[],Dims:=[],Cond:=({ Op:=1,Column:=0,Code:=0,Low:=0,High:=0,Kids:=[] }:Aj),Event:=({ Op:=0,Column:=0,Code:=0,Low:=0,High:=0,Kids:=[] }:Aj),Kids:=[] }:Av) }:Ax),({ Name:=({ data:=#[98] }:ByteArray),Out:=true,Expr:=({ Op:=8,Num:=0,Name:=ByteArray.empty,Column:=0,Columns:=[],Dims:=[],Cond:=({ Op:=0,Column:=0,Code:=0,Low:=0,High:=0,Kids:=[] }:Aj),Event:=({ Op:=0,Column:=0,Code:=0,Low:=0,High:=0,Kids:=[] }:Aj),Kids:=[({ Op:=2,Num:=0,Name:=({ data:=#[97] }:ByteArray),Column:=0,Columns:=[],Dims:=[],Cond:=({ Op:=0,Column:=0,Code:=0,Low:=0,High:=0,Kids:=[] }:Aj),Event:=({ Op:=0,Column:=0,Code:=0,Low:=0,High:=0,Kids:=[] }:Aj),Kids:=[] }:Av),({ Op:=1,Num:=2,Name:=ByteArray.empty,Column:=0,Columns:=[],Dims:=[],Cond:=({ Op:=0,Column:=0,Code:=0,Low:=0,High:=0,Kids:=[] }:Aj),Event:=({ Op:=0,Column:=0,Code:=0,Low:=0,High:=0,Kids:=[] }:Aj),Kids:=[] }:Av)] }:Av) }:Ax)])).bind fun x28 =>
 bif (bif (bif (x28.2.2==0) then (x28.2.1==2) else false) then (((x28.1.length:Nat):Int)==2) else false) then
  (idx x28.1 0).bind fun x45 =>
  bif ((x45.Value.Number.Num==3) && ((x45.Value.Number.Den==1) && true)) then
   (idx x28.1 1).bind fun x54 =>
   bif ((x54.Value.Number.Num==6) && ((x54.Value.Number.Den==1) && true)) then
    (idx x28.1 1).bind fun x63 =>
    (Jt x63.Value.Lineage [2,5,9]).bind fun x68 =>
    bif x68 then
     (I9 x28.1).bind fun x72 =>
     bif (((x72.length:Nat):Int)==1) then
      (I9 x28.1).bind fun x78 =>
      (idx x78 0).bind fun x79 =>
      some (x79.Name.toList==({ data:=#[98] }:ByteArray).toList)
     else
      some false
    else
     some false
   else
    some false
  else
   some false
 else
  some false
def FO (d:Nat) (x26:(Ae × Ag)) (x29:(A3 × Ag)) (v34_1:Int):Option Bool :=
 (BL d x26.1 x29.1).bind fun x63 =>
 (JP d x26.1 x63.1).bind fun x69 =>
 bif (bif (x69.2==0) then (x69.1==((x29.1.Questions.length:Nat):Int)) else false) then
  (Ia d).bind fun x82 =>
  some x82
 else
  some false
def DZ (x29:(A3 × Ag)) (p1:A3) (d:Nat) (x26:(Ae × Ag)) (kont1_0:(Int→Option Bool)) (rec1:(Int→Option Bool)) (v34_1:Int):Option Bool :=
 bif (decide (v34_1 < (([x29.1,p1].length:Nat):Int))) then
  (idx [x29.1,p1] v34_1).bind fun x36 =>
  (BL d x26.1 x36).bind fun x41 =>
  (Dc d x26.1 x36).bind fun x47 =>
  bif (x41.2 != x47.2) then
   some false
  else
   (HQ d x41.1 x47.1).bind fun x56 =>
   bif (!x56) then
    some false
   else
    rec1 (IntKind.i64.wrap (v34_1 + 1))
 else
  kont1_0 v34_1
def Fh (d:Nat) (p0:(List Int)) (p1:A3):Option Bool :=
 bif (decide (((p1.Questions.length:Nat):Int) > 10)) then
  (Ia d).bind fun x22 =>
  some x22
 else
  (NU p0).bind fun x24 =>
  (EL x24).bind fun x26 =>
  (CP d x26.2 x26.1).bind fun x29 =>
  iter (fun rec1 s=>DZ x29 p1 d x26 (FO d x26 x29) rec1 s) AO 0
end Go.Proofs.YtjghjdokjgcehaaGreatDoor.P
set_option linter.unusedSimpArgs false
set_option linter.unusedVariables false
namespace Go.Proofs.YtjghjdokjgcehaaGreatDoor.P
open Go Go.Abs Go.Proofs
def XA (p0:Ay) (p1:Int) (kont1_0:(Int→(List Int)→Option (List Int))) (rec1:((Int × (List Int))→Option (List Int))) (v6_1:Int) (b5_1:(List Int)):Option (List Int) :=
 bif (decide (v6_1 < ((p0.Codes.length:Nat):Int))) then
  (Ed p0 v6_1).bind fun x19 =>
  bif (x19==p1) then
   bif rm b5_1.length [v6_1].length then
    rec1 ((IntKind.i64.wrap (v6_1 + 1)),(b5_1++[v6_1]))
   else none
  else
   rec1 ((IntKind.i64.wrap (v6_1 + 1)),b5_1)
 else
  kont1_0 v6_1 b5_1
def Uj (p0:Ay) (p1:Int):Option (List Int) :=
 (EO p0).bind fun x8 =>
 bif (x8 != 0) then
  some []
 else
  iter (fun rec1 s=>XA p0 p1 (fun v6_1 b5_1=>some b5_1) rec1 s.1 s.2) AO (0,[])
def SG (p0:Ay) (p1:Int):Option Int :=
 (EO p0).bind fun x6 =>
 bif (bif (bif (x6 != 0) then true else (decide (p1 < 0))) then true else (decide (p1 ≥ ((p0.Codes.length:Nat):Int)))) then
  some (-1)
 else
  (Ed p0 p1).bind fun x21 =>
  some x21
def XB (p0:Ay) (p2:Int) (kont1_0:(Int→Option Int)) (rec1:(Int→Option Int)) (v1_1:Int):Option Int :=
 (Ed p0 v1_1).bind fun x34 =>
 bif (decide (x34 > p2)) then
  (idx p0.Codes v1_1).bind fun x40 =>
  rec1 x40.Parent
 else
  kont1_0 v1_1
def Ot (p0:Ay) (p1:Int) (p2:Int):Option Int :=
 (EO p0).bind fun x8 =>
 bif (bif (bif (bif (x8 != 0) then true else (decide (p1 < 0))) then true else (decide (p1 ≥ ((p0.Codes.length:Nat):Int)))) then true else (decide (p2 < 0))) then
  some (-1)
 else
  (Ed p0 p1).bind fun x29 =>
  bif (decide (p2 > x29)) then
   some (-1)
  else
   iter (fun rec1 s=>XB p0 p2 (fun v1_1=>some v1_1) rec1 s) AO p1
end Go.Proofs.YtjghjdokjgcehaaGreatDoor.P
set_option linter.unusedSimpArgs false
namespace Go.Proofs.YtjghjdokjgcehaaGreatDoor.P
open Go.Abs Go.Proofs
set_option linter.unusedVariables false
theorem Cc {p:Prop} (h:p:=by first | rfl | simp only [List.length_map,cond_true,cond_false]):p:=h
theorem Ll {p:Prop} (h:p:=by first | rfl | (simp only [List.length_map]; done) | (simp only [List.length_map]; rfl)):p:=h
theorem f6 {p:Prop} (h:p:=by repeat (first | exact trivial | refine And.intro (by first | with_reducible rfl | rfl | exact .inl rfl | exact .inr rfl | (simp only [List.length_map]; done) | (simp only [List.length_map]; rfl) | (simp only [List.map_append,List.map_cons,List.map_nil]; rfl)) ?_)):p:=h
theorem eU {p:Prop} (h:p:=by repeat (first | exact trivial | refine And.intro (by first | with_reducible rfl | rfl | exact .inl rfl | exact .inr rfl | (simp only [List.length_map]; done) | (simp only [List.length_map]; rfl) | (simp only [Ad,Aa,Ac,Ab,Ah,List.map_cons,List.map_nil,List.length_map]; done) | (simp only [Ad,Aa,Ac,Ab,Ah,List.map_cons,List.map_nil,List.length_map]; rfl) | (simp only [List.map_append,List.map_cons,List.map_nil]; rfl)) ?_)):p:=h
theorem fg {p:Prop} (h:p:=by repeat (first | exact trivial | refine And.intro (by first | with_reducible rfl | rfl | exact .inl rfl | exact .inr rfl | (simp only [List.length_map]; done) | (simp only [List.length_map]; rfl) | (simp only [R6]; rfl) | (simp only [List.map_append,List.map_cons,List.map_nil]; rfl)) ?_)):p:=h
theorem AM {ρ:Type} {b b':Bool} {x y:Prop} {X Y:Option ρ} {R:ρ} (h:(bif b' then X else Y) = some R) (h1:X = some R→x) (h2:Y = some R→y) (e:b = b':=by first | rfl | simp only [List.length_map,cond_true,cond_false]):Bool.rec y x b:=Rw h e h1 h2
theorem AU {α ρ:Type} {m:Option α} {G:α→Option ρ} {R:ρ} {P:Program} {f:FuncId} {nils:List Nat} {args margs:List AV} {K:AV→Prop} {KM:List AV→AV→Prop} {r:α→AV} (h:m.bind G = some R) (c:∀ x,m = some x→Al P f args (r x)) (k:∀ x,G x = some R→K (r x)):Iq P f nils args K margs KM:=by
 obtain ⟨x,hx,h⟩:=A9 h
 exact A1 (c x hx) (k x h)
theorem Pe {α ρ:Type} {m:Option α} {G:α→Option ρ} {R:ρ} {P:Program} {f:FuncId} {nils:List Nat} {args margs:List AV} {K:AV→Prop} {KM:List AV→AV→Prop} {outs:α→List AV} {r:α→AV} (h:m.bind G = some R) (c:∀ x,m = some x→CY P f margs (outs x) (r x)) (k:∀ x,G x = some R→KM (outs x) (r x)):Iq P f nils args K margs KM:=by
 obtain ⟨x,hx,h⟩:=A9 h
 exact BN (c x hx) (k x h)
theorem B6 {α ρ:Type} {xs:List α} {i j:Int} {f:α→D} {K:D→Prop} {G:α→Option ρ} {R:ρ} (h:(idx xs i).bind G = some R) (k:∀ x,idx xs i = some x→G x = some R→K (f x)) (e:j = i:=by first | rfl | simp only [List.length_map,cond_true,cond_false]):At (xs.map f) j K:=eT h e k
theorem Cw {ι:Type} {Inv:ι→AS} {μ:ι→Nat} {S:AS} {m:Nat} (j:ι) (h:Le S (Inv j)) (k:μ j < m:=by exact Nat.lt_succ_self _):∃ j,Le S (Inv j)∧μ j < m:=⟨j,h,k⟩
theorem Cn {P:Program} {f:FuncId} {fn:Func} {args:List AV} {r:AV} (hf:P.funcs[f]? = some fn) (hr:dR P fn args r) (hname:(fn.name == "runtime.NumGoroutine") = false:=by kernel_rfl):Al P f args r:=DO hf hname hr
theorem Eb {ρ:Type} {b b':Bool} {x y:Prop} {E F R:ρ} (h:(bif b' then some E else some F) = some R) (h1:some E = some R→x:=by intro h; cases h; (conv=>whnf); exact ⟨by first | rfl | (simp only [List.length_map]; done) | (simp only [List.length_map]; rfl)⟩) (h2:some F = some R→y:=by intro h; cases h; (conv=>whnf); exact ⟨by first | rfl | (simp only [List.length_map]; done) | (simp only [List.length_map]; rfl)⟩) (e:b = b':=by first | rfl | simp only [List.length_map,cond_true,cond_false]):Bool.rec y x b:=Rw h e h1 h2
theorem B0 {ρ:Type} {b b':Bool} {x y:Prop} {E R:ρ} {Y:Option ρ} (h:(bif b' then Y else some E) = some R) (h2:Y = some R→x) (h1:some E = some R→y:=by intro h; cases h; (conv=>whnf); exact ⟨by first | rfl | (simp only [List.length_map]; done) | (simp only [List.length_map]; rfl)⟩) (e:b = b':=by first | rfl | simp only [List.length_map,cond_true,cond_false]):Bool.rec y x b:=Rw h e h2 h1
theorem An {ρ:Type} {b b':Bool} {x y:Prop} {E R:ρ} {Y:Option ρ} (h:(bif b' then some E else Y) = some R) (h2:Y = some R→y) (h1:some E = some R→x:=by intro h; cases h; (conv=>whnf); exact ⟨by first | rfl | (simp only [List.length_map]; done) | (simp only [List.length_map]; rfl)⟩) (e:b = b':=by first | rfl | simp only [List.length_map,cond_true,cond_false]):Bool.rec y x b:=Rw h e h1 h2
theorem As {S S':AS} (h:Fg S' (fun S'=>Le S S'):=by (conv=>whnf); repeat (first | exact trivial | refine And.intro (by first | with_reducible rfl | rfl | exact .inl rfl | exact .inr rfl | (simp only [List.length_map]; done) | (simp only [List.length_map]; rfl) | (simp only [List.map_append,List.map_cons,List.map_nil]; rfl)) ?_)):Le S S':=TW h
theorem A0 {S S':AS} (h:Fg S' (fun S'=>Le S S'):=by (conv=>whnf); repeat (first | exact trivial | refine And.intro (by first | with_reducible rfl | rfl | exact .inl rfl | exact .inr rfl | (simp only [List.length_map]; done) | (simp only [List.length_map]; rfl) | (simp only [Ad,Aa,Ac,Ab,Ah,List.map_cons,List.map_nil,List.length_map]; done) | (simp only [Ad,Aa,Ac,Ab,Ah,List.map_cons,List.map_nil,List.length_map]; rfl) | (simp only [List.map_append,List.map_cons,List.map_nil]; rfl)) ?_)):Le S S':=TW h
theorem Ns {S S':AS} (h:Fg S' (fun S'=>Le S S'):=by (conv=>whnf); repeat (first | exact trivial | refine And.intro (by first | with_reducible rfl | rfl | exact .inl rfl | exact .inr rfl | (simp only [List.length_map]; done) | (simp only [List.length_map]; rfl) | (simp only [R6]; rfl) | (simp only [List.map_append,List.map_cons,List.map_nil]; rfl)) ?_)):Le S S':=TW h
theorem LJ {S S':AS} (h:Fg S' (fun S'=>Le S S'):=by (conv=>whnf); repeat (first | exact trivial | refine And.intro (by first | with_reducible rfl | rfl | exact .inl rfl | exact .inr rfl | (simp only [List.length_map]; done) | (simp only [List.length_map]; rfl) | (simp only [R6,ZM]; rfl) | (simp only [List.map_append,List.map_cons,List.map_nil]; rfl)) ?_)):Le S S':=TW h
theorem AD {ρ:Type} {E R:ρ} {x:Prop} (h:some E = some R) (k:some E = some R→x:=by intro h; cases h; (conv=>whnf); exact ⟨by first | rfl | (simp only [List.length_map]; done) | (simp only [List.length_map]; rfl)⟩):x:=k h
theorem z5 {σ ρ:Type} {body:(σ→Option ρ)→σ→Option ρ} {n:Nat} {s0:σ} {R:ρ} {S:AS} {W:((Exit→AS→Prop)→AS→Prop)} {Q:Exit→AS→Prop} (h:iter body n s0 = some R) (I:σ→AS) (hl:Le S (I s0)) (k:∀ (Φ:Nat→σ→Option ρ) (n:Nat) (s:σ),body (Φ n) s = some R→Fg (I s) (W (fun e S=>match e with | .normal=>∃ j:{p:Nat × σ // Φ p.1 p.2 = some R},Le S (I j.1.2)∧j.1.1 < n + 1 | e=>Q e S))):Qs S W Q:=by
 obtain ⟨Φ,i,h⟩:=AI h
 exact loop {p:Nat × σ // Φ p.1 p.2 = some R} (fun p=>I p.1.2) (fun p=>p.1.1) ⟨(n,s0),h⟩ hl fun ⟨⟨a,b⟩,h⟩=>by
  obtain ⟨a,rfl,h⟩:=i _ _ h
  exact k Φ a b h
theorem z6 {A B:Prop} (b:B) (a:A:=by (simp only [List.length_map]; exact Bq hr (of_decide_eq_true (by kernel_rfl)) (.inr (by kernel_rfl)))):Jg A B:=⟨a,b⟩
theorem z7 {A B:Prop} (b:B) (a:A:=by first | (intro x hx y hy; obtain ⟨n,_,rfl⟩:=List.mem_map.1 hx; simp [D.cells] at hy; subst hy; rfl) | exact fun x hx=>absurd hx (by simp)):Jg A B:=⟨a,b⟩
theorem z8 {A B:Prop} (b:B) (a:A:=by first | exact S9 hr (of_decide_eq_true (by kernel_rfl)) | (simp only [List.length_map]; exact S9 hr (of_decide_eq_true (by kernel_rfl)))):Jg A B:=⟨a,b⟩
theorem z9 {A B:Prop} (b:B) (a:A:=by first | exact of_decide_eq_true hr | (simp only [List.length_map]; exact of_decide_eq_true hr)):Jg A B:=⟨a,b⟩
theorem z10 {A B:Prop} (b:B) (a:A:=by first | rfl | (simp only [List.length_map]; done) | (simp only [List.length_map]; rfl)):A∧B:=⟨a,b⟩
theorem z11 {A B:Prop} (b:B) (a:A:=by first | rfl | (simp only [List.length_map]; done) | (simp only [List.length_map]; rfl) | (simp only [Ad,Aa,Ac,Ab,Ah,List.map_cons,List.map_nil,List.length_map]; done) | (simp only [Ad,Aa,Ac,Ab,Ah,List.map_cons,List.map_nil,List.length_map]; rfl)):A∧B:=⟨a,b⟩
theorem z12 {A B:Prop} (b:B) (a:A:=by exact of_decide_eq_true hr):Jg A B:=⟨a,b⟩
theorem z13 {A B:Prop} (b:B) (a:A:=by exact ⟨by decide +kernel,by kernel_rfl⟩):Jg A B:=⟨a,b⟩
theorem z14 {A B:Prop} (b:B) (a:A:=by exact ⟨rfl,rfl,by first | rfl | (simp only [List.length_map]; done) | (simp only [List.length_map]; rfl) | (simp only [Ad,Aa,Ac,Ab,Ah,List.map_cons,List.map_nil,List.length_map]; done) | (simp only [Ad,Aa,Ac,Ab,Ah,List.map_cons,List.map_nil,List.length_map]; rfl)⟩):Jg A B:=⟨a,b⟩
theorem z15 {p:Prop} (h:p:=by exact ⟨by first | rfl | (simp only [List.length_map]; done) | (simp only [List.length_map]; rfl) | (simp only [Ad,Aa,Ac,Ab,Ah,List.map_cons,List.map_nil,List.length_map]; done) | (simp only [Ad,Aa,Ac,Ab,Ah,List.map_cons,List.map_nil,List.length_map]; rfl)⟩):p:=h
theorem z16 {p:Prop} (h:p:=by (conv=>whnf); obtain rfl:=Option.some.inj h; exact z15):p:=h
theorem z17 {p:Prop} (h:p:=by refine An h fun h=>?_; (conv=>whnf); exact Cw ⟨(_,_),h⟩ As):p:=h
theorem z18 {p:Prop} (h:p:=by obtain rfl:=Option.some.inj h; refine z10 ?_; (conv=>whnf); exact ⟨Ll⟩):p:=h
theorem z19 {p:Prop} (h:p:=by obtain rfl:=Option.some.inj h; refine ⟨.inl ?_⟩; (conv=>whnf); exact ⟨Ll⟩):p:=h
theorem z20 {p:Prop} (h:p:=by obtain rfl:=Option.some.inj h; exact z15):p:=h
theorem z21 {p:Prop} (h:p:=by obtain rfl:=Option.some.inj h; refine z14 ?_; (conv=>whnf); exact z15):p:=h
theorem z22 {p:Prop} (h:p:=by (conv=>whnf); exact Cw ⟨(_,(_,_)),h⟩ As):p:=h
theorem z23 {p:Prop} (h:p:=by (conv=>whnf); exact ⟨⟨_,h⟩,A0⟩):p:=h
theorem z24 {p:Prop} (h:p:=by refine (by intros; rename_i h; cases h)):p:=h
theorem z25 {p:Prop} (h:p:=by obtain rfl:=Option.some.inj h; refine ⟨.inl ?_⟩; (conv=>whnf); exact z15):p:=h
theorem z26 {p:Prop} (h:p:=by obtain rfl:=Option.some.inj h; refine z11 ?_; (conv=>whnf); exact z15):p:=h
theorem z27 {p:Prop} (h:p:=by (conv=>whnf); exact Cw ⟨(_,(_,_)),h⟩ A0):p:=h
theorem z28 {p:Prop} (h:p:=by (conv=>whnf); exact ⟨⟨(_,_,_,_,_,_,_),h⟩,A0⟩):p:=h
theorem z29 {p:Prop} (h:p:=by (conv=>whnf); obtain ⟨x47,hx47,h⟩:=A9 h; refine Tv (Ew _ _ _ _ hx47) ?_; exact z23):p:=h
theorem z30 {p:Prop} (h:p:=by (conv=>whnf); exact Cw ⟨(_,(_,_,_)),h⟩ As):p:=h
theorem z31 {p:Prop} (h:p:=by (conv=>whnf); obtain ⟨x59,hx59,h⟩:=A9 h; refine A1 (Bc _ _ _ _ _ (fun a0 _ h=>ih_program_right_c1 a0 _ _ h) hx59) ?_; exact z16):p:=h
theorem z32 {p:Prop} (h:p:=by (conv=>whnf); rw [G3]; refine AU h (fun _=>h_p1 _ _) fun x16 h=>?_; exact z17):p:=h
theorem z33 {p:Prop} (h:p:=by refine An h fun h=>?_; (conv=>whnf); exact ⟨⟨(),h⟩,As⟩):p:=h
theorem z34 {p:Prop} (h:p:=by refine ⟨.inl ?_⟩; (conv=>whnf); exact ⟨rfl⟩):p:=h
theorem z35 {p:Prop} (h:p:=by refine z6 ?_; (try rw [EB]); (conv=>whnf); exact Cw ⟨(_,(_,_)),h⟩ LJ):p:=h
theorem z36 {p:Prop} (h:p:=by (conv=>whnf); exact z18):p:=h
theorem z37 {p:Prop} (h:p:=by (conv=>whnf); exact z19):p:=h
theorem z38 {p:Prop} (h:p:=by (conv=>whnf); exact z21):p:=h
theorem z39 {p:Prop} (h:p:=by (conv=>whnf); obtain ⟨x63,hx63,h⟩:=A9 h; refine A1 (H1 _ _ _ hx63) ?_; exact z38):p:=h
theorem z40 {p:Prop} (h:p:=by (conv=>whnf); obtain ⟨x60,hx60,h⟩:=A9 h; refine BN (Gv _ _ _ hx60) ?_; exact z36):p:=h
theorem z41 {p:Prop} (h:p:=by (conv=>whnf); exact ⟨⟨(_,_,_,_,_),h⟩,A0⟩):p:=h
theorem z42 {p:Prop} (h:p:=by (conv=>whnf); obtain ⟨hr,h⟩:=E0 h; exact z35):p:=h
theorem z43 {p:Prop} (h:p:=by (conv=>whnf); exact Cw ⟨(_,_),h⟩ A0):p:=h
theorem z44 {p:Prop} (h:p:=by obtain ⟨x12,hx12,h⟩:=A9 h; (first | refine BN (AF _ _ _ hx12) ?_ | (simp only [List.length_map]; refine BN (AF _ _ _ hx12) ?_)); refine B6 (f:=(D.int .i64)) h fun x13 _ h=>?_; exact z36):p:=h
theorem z45 {p:Prop} (h:p:=by obtain ⟨x71,hx71,h⟩:=A9 h; refine A1 (D4 _ _ hx71) ?_; exact z16):p:=h
theorem z46 {p:Prop} (h:p:=by (conv=>whnf); refine z6 ?_; (conv=>whnf); exact z34):p:=h
theorem z47 {p:Prop} (h:p:=by obtain rfl:=Option.some.inj h; refine ⟨⟨rfl,rfl,by first | rfl | (simp only [List.length_map]; done) | (simp only [List.length_map]; rfl)⟩,?_⟩; (conv=>whnf); exact ⟨Ll⟩):p:=h
theorem z48 {p:Prop} (h:p:=by obtain ⟨hr,h⟩:=E0 h; refine z6 ?_; (try rw [SK]); exact z22):p:=h
theorem z49 {p:Prop} (h:p:=by obtain ⟨hr,h⟩:=E0 h; refine z12 ?_; exact z17):p:=h
theorem z50 {p:Prop} (h:p:=by (conv=>whnf); exact ⟨⟨(),h⟩,A0⟩):p:=h
theorem z51 {p:Prop} (h:p:=by (conv=>whnf); obtain ⟨x29,hx29,h⟩:=A9 h; refine A1 (Cu _ _ _ hx29) ?_; exact z16):p:=h
theorem z52 {p:Prop} (h:p:=by (conv=>whnf); obtain ⟨x53,hx53,h⟩:=A9 h; (first | refine BN (EN _ _ _ _ hx53) ?_ | (simp only [List.length_map]; refine BN (EN _ _ _ _ hx53) ?_)); exact z38):p:=h
theorem z53 {p:Prop} (h:p:=by (conv=>whnf); obtain ⟨x49,hx49,h⟩:=A9 h; refine A1 (Kd _ _ hx49) ?_; exact Eb h):p:=h
theorem z54 {p:Prop} (h:p:=by obtain ⟨x18,hx18,h⟩:=A9 h; refine A1 (Bc _ _ _ _ _ (fun a0 _ h=>ih_program_named_c1 a0 _ _ _ _ h_p1 h) hx18) ?_; exact z16):p:=h
end Go.Proofs.YtjghjdokjgcehaaGreatDoor.P
