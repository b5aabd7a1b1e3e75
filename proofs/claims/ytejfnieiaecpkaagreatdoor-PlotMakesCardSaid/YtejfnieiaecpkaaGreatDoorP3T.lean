/- Printed by wip/tools/mkw.py: structures and their descriptions. -/
import Derived.Test.YtejfnieiaecpkaaGreatDoorWalk
set_option linter.unusedVariables false
set_option linter.unusedSimpArgs false
namespace Go.Proofs.YtejfnieiaecpkaaGreatDoor.P
open Go.Abs Go.Proofs
structure Ae where
 Column:Int
 Level:Int
structure DA where
 Name:ByteArray
 Parent:Int
structure Am where
 Name:ByteArray
 Codes:(List DA)
structure Ag where
 Op:Int
 Column:Int
 Code:Int
 Low:Int
 High:Int
 Kids:(List Ag)
structure AA where
 Op:Int
 Num:Int
 Name:ByteArray
 Column:Int
 Columns:(List Int)
 Dims:(List Ae)
 Cond:Ag
 Event:Ag
 Kids:(List AA)
structure Av where
 Name:ByteArray
 Kind:Int
 List_:Int
 Low:Int
 High:Int
 Widths:(List Int)
 Optional:Bool
structure Ab where
 f_l:(List Int)
 f_at:Int
structure Aa where
 Lists:(List Am)
 Columns:(List Av)
structure B2 where
 Schema:Aa
 Rows:(List (List Int))
 Gone:(List Int)
 Version:Int
structure Hn where
 Part:Int
 Of:Int
 Seed:Int
structure AG where
 Name:ByteArray
 Kind:Int
 Filter:Ag
 Dims:(List Ae)
 Measure:Int
 Terms:(List Int)
 Event:Ag
structure Ay where
 Project:ByteArray
 Source:ByteArray
 Cohort:Ag
 Sample:Hn
 Questions:(List AG)
structure Au where
 Project:ByteArray
 Version:Int
 Picks:(List Ae)
 Rows:(List (List Int))
structure Bn where
 f_num:Bool
 f_name:Bool
 f_column:Bool
 f_columns:Bool
 f_dims:Bool
 f_cond:Bool
 f_event:Bool
structure B4 where
 Low:Int
 Count:Int
structure He where
 Count:Int
 Least:Int
 Lower:Int
 Middle:Int
 Upper:Int
 Greatest:Int
def Af (x:Ae):D:=.agg [(.int .i64 x.Column),(.int .i64 x.Level)]
theorem CZ (xs:List Ae) (a0:Int) (a1:Int):xs.map Af++[D.agg [(.int .i64 a0),(.int .i64 a1)]] = (xs++[({ Column:=a0,Level:=a1 }:Ae)]).map Af:=by simp [Af,Aj]
def Bp (x:DA):D:=.agg [(.str x.Name),(.int .i64 x.Parent)]
theorem UV (xs:List DA) (a0:ByteArray) (a1:Int):xs.map Bp++[D.agg [(.str a0),(.int .i64 a1)]] = (xs++[({ Name:=a0,Parent:=a1 }:DA)]).map Bp:=by simp [Bp,Aj]
def Ac (x:Am):D:=.agg [(.str x.Name),(Aj 2 Bp x.Codes)]
mutual
def An:Ag→D
 | ⟨Op,Column,Code,Low,High,Kids⟩=>.agg [(.int .i64 Op),(.int .i64 Column),(.int .i64 Code),(.int .i64 Low),(.int .i64 High),(.list 6 (Nl Kids))]
def Nl:List Ag→List D
 | []=>[]
 | x :: r=>An x :: Nl r
end
theorem QZ:∀ l:List Ag,Nl l = l.map An
 | []=>by simp [Nl]
 | x :: r=>by simp [Nl,QZ r]
def Aw (x:Ag):D:=.agg [(.int .i64 x.Op),(.int .i64 x.Column),(.int .i64 x.Code),(.int .i64 x.Low),(.int .i64 x.High),(Aj 6 An x.Kids)]
theorem Wi (x:Ag):({ Op:=x.Op,Column:=x.Column,Code:=x.Code,Low:=x.Low,High:=x.High,Kids:=x.Kids }:Ag) = x:=by cases x; rfl
theorem A8 (x:Ag):An x = Aw x:=by
 obtain ⟨Op,Column,Code,Low,High,Kids⟩:=x
 simp only [An,QZ]
 rfl
mutual
def B6:AA→D
 | ⟨Op,Num,Name,Column,Columns,Dims,Cond,Event,Kids⟩=>.agg [(.int .i64 Op),(.int .i64 Num),(.str Name),(.int .i64 Column),(Aj 1 (D.int .i64) Columns),(Aj 2 Af Dims),(.int .i64 Cond.Op),(.int .i64 Cond.Column),(.int .i64 Cond.Code),(.int .i64 Cond.Low),(.int .i64 Cond.High),(Aj 6 An Cond.Kids),(.int .i64 Event.Op),(.int .i64 Event.Column),(.int .i64 Event.Code),(.int .i64 Event.Low),(.int .i64 Event.High),(Aj 6 An Event.Kids),(.list 19 (N0 Kids))]
def N0:List AA→List D
 | []=>[]
 | x :: r=>B6 x :: N0 r
end
theorem Rg:∀ l:List AA,N0 l = l.map B6
 | []=>by simp [N0]
 | x :: r=>by simp [N0,Rg r]
def AX (x:AA):D:=.agg [(.int .i64 x.Op),(.int .i64 x.Num),(.str x.Name),(.int .i64 x.Column),(Aj 1 (D.int .i64) x.Columns),(Aj 2 Af x.Dims),(.int .i64 x.Cond.Op),(.int .i64 x.Cond.Column),(.int .i64 x.Cond.Code),(.int .i64 x.Cond.Low),(.int .i64 x.Cond.High),(Aj 6 An x.Cond.Kids),(.int .i64 x.Event.Op),(.int .i64 x.Event.Column),(.int .i64 x.Event.Code),(.int .i64 x.Event.Low),(.int .i64 x.Event.High),(Aj 6 An x.Event.Kids),(Aj 19 B6 x.Kids)]
theorem Bm (x:AA):B6 x = AX x:=by
 obtain ⟨Op,Num,Name,Column,Columns,Dims,Cond,Event,Kids⟩:=x
 simp only [B6,Rg]
 rfl
def Ad (x:Av):D:=.agg [(.str x.Name),(.int .i64 x.Kind),(.int .i64 x.List_),(.int .i64 x.Low),(.int .i64 x.High),(Aj 1 (D.int .i64) x.Widths),(.bool x.Optional)]
theorem NH (xs:List Av) (a0:ByteArray) (a1:Int) (a2:Int) (a3:Int) (a4:Int) (a5:(List Int)) (a6:Bool):xs.map Ad++[D.agg [(.str a0),(.int .i64 a1),(.int .i64 a2),(.int .i64 a3),(.int .i64 a4),(D.list 1 (List.map (D.int .i64) a5)),(.bool a6)]] = (xs++[({ Name:=a0,Kind:=a1,List_:=a2,Low:=a3,High:=a4,Widths:=a5,Optional:=a6 }:Av)]).map Ad:=by simp [Ad,Aj]
def Ai (x:Aa):D:=.agg [(Aj 2 Ac x.Lists),(Aj 7 Ad x.Columns)]
def Ie (x:B2):D:=.agg [(Aj 2 Ac x.Schema.Lists),(Aj 7 Ad x.Schema.Columns),(Aj 1 (Aj 1 (D.int .i64)) x.Rows),(Aj 1 (D.int .i64) x.Gone),(.int .i64 x.Version)]
def UT (x:Hn):D:=.agg [(.int .i64 x.Part),(.int .i64 x.Of),(.int .i64 x.Seed)]
def AY (x:AG):D:=.agg [(.str x.Name),(.int .i64 x.Kind),(.int .i64 x.Filter.Op),(.int .i64 x.Filter.Column),(.int .i64 x.Filter.Code),(.int .i64 x.Filter.Low),(.int .i64 x.Filter.High),(Aj 6 An x.Filter.Kids),(Aj 2 Af x.Dims),(.int .i64 x.Measure),(Aj 1 (D.int .i64) x.Terms),(.int .i64 x.Event.Op),(.int .i64 x.Event.Column),(.int .i64 x.Event.Code),(.int .i64 x.Event.Low),(.int .i64 x.Event.High),(Aj 6 An x.Event.Kids)]
theorem Pu (xs:List AG) (a0:ByteArray) (a1:Int) (a2:Int) (a3:Int) (a4:Int) (a5:Int) (a6:Int) (a7:(List Ag)) (a8:(List Ae)) (a9:Int) (a10:(List Int)) (a11:Int) (a12:Int) (a13:Int) (a14:Int) (a15:Int) (a16:(List Ag)):xs.map AY++[D.agg [(.str a0),(.int .i64 a1),(.int .i64 a2),(.int .i64 a3),(.int .i64 a4),(.int .i64 a5),(.int .i64 a6),(D.list 6 (List.map An a7)),(D.list 2 (List.map Af a8)),(.int .i64 a9),(D.list 1 (List.map (D.int .i64) a10)),(.int .i64 a11),(.int .i64 a12),(.int .i64 a13),(.int .i64 a14),(.int .i64 a15),(D.list 6 (List.map An a16))]] = (xs++[({ Name:=a0,Kind:=a1,Filter:=({ Op:=a2,Column:=a3,Code:=a4,Low:=a5,High:=a6,Kids:=a7 }:Ag),Dims:=a8,Measure:=a9,Terms:=a10,Event:=({ Op:=a11,Column:=a12,Code:=a13,Low:=a14,High:=a15,Kids:=a16 }:Ag) }:AG)]).map AY:=by simp [AY,Aj]
def De (x:Ay):D:=.agg [(.str x.Project),(.str x.Source),(.int .i64 x.Cohort.Op),(.int .i64 x.Cohort.Column),(.int .i64 x.Cohort.Code),(.int .i64 x.Cohort.Low),(.int .i64 x.Cohort.High),(Aj 6 An x.Cohort.Kids),(.int .i64 x.Sample.Part),(.int .i64 x.Sample.Of),(.int .i64 x.Sample.Seed),(Aj 17 AY x.Questions)]
def Bh (x:Au):D:=.agg [(.str x.Project),(.int .i64 x.Version),(Aj 2 Af x.Picks),(Aj 1 (Aj 1 (D.int .i64)) x.Rows)]
def OM (x:Bn):D:=.agg [(.bool x.f_num),(.bool x.f_name),(.bool x.f_column),(.bool x.f_columns),(.bool x.f_dims),(.bool x.f_cond),(.bool x.f_event)]
def BO (x:B4):D:=.agg [(.int .i64 x.Low),(.int .i64 x.Count)]
theorem Sp (xs:List B4) (a0:Int) (a1:Int):xs.map BO++[D.agg [(.int .i64 a0),(.int .i64 a1)]] = (xs++[({ Low:=a0,Count:=a1 }:B4)]).map BO:=by simp [BO,Aj]
theorem TT (xs:List B4) (i:Nat) (a0:Int) (a1:Int):(xs.map BO).set i (D.agg [(.int .i64 a0),(.int .i64 a1)]) = (xs.set i ({ Low:=a0,Count:=a1 }:B4)).map BO:=by rw [List.map_set]; rfl
def TJ (x:He):D:=.agg [(.int .i64 x.Count),(.int .i64 x.Least),(.int .i64 x.Lower),(.int .i64 x.Middle),(.int .i64 x.Upper),(.int .i64 x.Greatest)]
end Go.Proofs.YtejfnieiaecpkaaGreatDoor.P
