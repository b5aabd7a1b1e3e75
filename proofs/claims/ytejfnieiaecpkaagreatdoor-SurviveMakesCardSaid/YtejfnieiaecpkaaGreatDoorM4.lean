/- M4 -/
import Derived.Test.YtejfnieiaecpkaaGreatDoorM3
import Derived.Lib.ItoaNum
import Derived.Lib.SlicesCompact
set_option linter.unusedVariables false
set_option linter.unusedSimpArgs false
namespace Go.Proofs.YtejfnieiaecpkaaGreatDoor.P
open Go.Abs Go.Proofs
structure Ae where
 Column:Int
 Level:Int
structure Ed where
 Name:ByteArray
 Parent:Int
structure Am where
 Name:ByteArray
 Codes:(List Ed)
structure Af where
 Op:Int
 Column:Int
 Code:Int
 Low:Int
 High:Int
 Kids:(List Af)
structure AD where
 Op:Int
 Num:Int
 Name:ByteArray
 Column:Int
 Columns:(List Int)
 Dims:(List Ae)
 Cond:Af
 Event:Af
 Kids:(List AD)
structure Av where
 Name:ByteArray
 Kind:Int
 List_:Int
 Low:Int
 High:Int
 Widths:(List Int)
 Optional:Bool
structure Ab where
 f_l:(List Int)
 f_at:Int
structure Aa where
 Lists:(List Am)
 Columns:(List Av)
structure BC where
 Schema:Aa
 Rows:(List (List Int))
 Gone:(List Int)
 Version:Int
structure H4 where
 Part:Int
 Of:Int
 Seed:Int
structure AG where
 Name:ByteArray
 Kind:Int
 Filter:Af
 Dims:(List Ae)
 Measure:Int
 Terms:(List Int)
 Event:Af
structure Az where
 Project:ByteArray
 Source:ByteArray
 Cohort:Af
 Sample:H4
 Questions:(List AG)
structure Aw where
 Project:ByteArray
 Version:Int
 Picks:(List Ae)
 Rows:(List (List Int))
structure Bt where
 f_num:Bool
 f_name:Bool
 f_column:Bool
 f_columns:Bool
 f_dims:Bool
 f_cond:Bool
 f_event:Bool
structure iR where
 Num:Int
 Den:Int
structure Be where
 Time:Int
 AtRisk:Int
 Events:Int
 Left:Int
 Survive:iR
def Ag (x:Ae):D:=.agg [(.int .i64 x.Column),(.int .i64 x.Level)]
theorem Dn (xs:List Ae) (a0:Int) (a1:Int):xs.map Ag++[D.agg [(.int .i64 a0),(.int .i64 a1)]] = (xs++[({ Column:=a0,Level:=a1 }:Ae)]).map Ag:=by simp [Ag,Al]
def Br (x:Ed):D:=.agg [(.str x.Name),(.int .i64 x.Parent)]
theorem Vz (xs:List Ed) (a0:ByteArray) (a1:Int):xs.map Br++[D.agg [(.str a0),(.int .i64 a1)]] = (xs++[({ Name:=a0,Parent:=a1 }:Ed)]).map Br:=by simp [Br,Al]
def Ac (x:Am):D:=.agg [(.str x.Name),(Al 2 Br x.Codes)]
mutual
def Ao:Af→D
 | ⟨Op,Column,Code,Low,High,Kids⟩=>.agg [(.int .i64 Op),(.int .i64 Column),(.int .i64 Code),(.int .i64 Low),(.int .i64 High),(.list 6 (Nt Kids))]
def Nt:List Af→List D
 | []=>[]
 | x :: r=>Ao x :: Nt r
end
theorem Ri:∀ l:List Af,Nt l = l.map Ao
 | []=>by simp [Nt]
 | x :: r=>by simp [Nt,Ri r]
def Ax (x:Af):D:=.agg [(.int .i64 x.Op),(.int .i64 x.Column),(.int .i64 x.Code),(.int .i64 x.Low),(.int .i64 x.High),(Al 6 Ao x.Kids)]
theorem WB (x:Af):({ Op:=x.Op,Column:=x.Column,Code:=x.Code,Low:=x.Low,High:=x.High,Kids:=x.Kids }:Af) = x:=by cases x; rfl
theorem A9 (x:Af):Ao x = Ax x:=by
 obtain ⟨Op,Column,Code,Low,High,Kids⟩:=x
 simp only [Ao,Ri]
 rfl
mutual
def B9:AD→D
 | ⟨Op,Num,Name,Column,Columns,Dims,Cond,Event,Kids⟩=>.agg [(.int .i64 Op),(.int .i64 Num),(.str Name),(.int .i64 Column),(Al 1 (D.int .i64) Columns),(Al 2 Ag Dims),(.int .i64 Cond.Op),(.int .i64 Cond.Column),(.int .i64 Cond.Code),(.int .i64 Cond.Low),(.int .i64 Cond.High),(Al 6 Ao Cond.Kids),(.int .i64 Event.Op),(.int .i64 Event.Column),(.int .i64 Event.Code),(.int .i64 Event.Low),(.int .i64 Event.High),(Al 6 Ao Event.Kids),(.list 19 (Ns Kids))]
def Ns:List AD→List D
 | []=>[]
 | x :: r=>B9 x :: Ns r
end
theorem R9:∀ l:List AD,Ns l = l.map B9
 | []=>by simp [Ns]
 | x :: r=>by simp [Ns,R9 r]
def Bb (x:AD):D:=.agg [(.int .i64 x.Op),(.int .i64 x.Num),(.str x.Name),(.int .i64 x.Column),(Al 1 (D.int .i64) x.Columns),(Al 2 Ag x.Dims),(.int .i64 x.Cond.Op),(.int .i64 x.Cond.Column),(.int .i64 x.Cond.Code),(.int .i64 x.Cond.Low),(.int .i64 x.Cond.High),(Al 6 Ao x.Cond.Kids),(.int .i64 x.Event.Op),(.int .i64 x.Event.Column),(.int .i64 x.Event.Code),(.int .i64 x.Event.Low),(.int .i64 x.Event.High),(Al 6 Ao x.Event.Kids),(Al 19 B9 x.Kids)]
theorem Bp (x:AD):B9 x = Bb x:=by
 obtain ⟨Op,Num,Name,Column,Columns,Dims,Cond,Event,Kids⟩:=x
 simp only [B9,R9]
 rfl
def Ad (x:Av):D:=.agg [(.str x.Name),(.int .i64 x.Kind),(.int .i64 x.List_),(.int .i64 x.Low),(.int .i64 x.High),(Al 1 (D.int .i64) x.Widths),(.bool x.Optional)]
theorem Oh (xs:List Av) (a0:ByteArray) (a1:Int) (a2:Int) (a3:Int) (a4:Int) (a5:(List Int)) (a6:Bool):xs.map Ad++[D.agg [(.str a0),(.int .i64 a1),(.int .i64 a2),(.int .i64 a3),(.int .i64 a4),(D.list 1 (List.map (D.int .i64) a5)),(.bool a6)]] = (xs++[({ Name:=a0,Kind:=a1,List_:=a2,Low:=a3,High:=a4,Widths:=a5,Optional:=a6 }:Av)]).map Ad:=by simp [Ad,Al]
def Ai (x:Aa):D:=.agg [(Al 2 Ac x.Lists),(Al 7 Ad x.Columns)]
def Iv (x:BC):D:=.agg [(Al 2 Ac x.Schema.Lists),(Al 7 Ad x.Schema.Columns),(Al 1 (Al 1 (D.int .i64)) x.Rows),(Al 1 (D.int .i64) x.Gone),(.int .i64 x.Version)]
def VJ (x:H4):D:=.agg [(.int .i64 x.Part),(.int .i64 x.Of),(.int .i64 x.Seed)]
def AZ (x:AG):D:=.agg [(.str x.Name),(.int .i64 x.Kind),(.int .i64 x.Filter.Op),(.int .i64 x.Filter.Column),(.int .i64 x.Filter.Code),(.int .i64 x.Filter.Low),(.int .i64 x.Filter.High),(Al 6 Ao x.Filter.Kids),(Al 2 Ag x.Dims),(.int .i64 x.Measure),(Al 1 (D.int .i64) x.Terms),(.int .i64 x.Event.Op),(.int .i64 x.Event.Column),(.int .i64 x.Event.Code),(.int .i64 x.Event.Low),(.int .i64 x.Event.High),(Al 6 Ao x.Event.Kids)]
theorem OC (xs:List AG) (a0:ByteArray) (a1:Int) (a2:Int) (a3:Int) (a4:Int) (a5:Int) (a6:Int) (a7:(List Af)) (a8:(List Ae)) (a9:Int) (a10:(List Int)) (a11:Int) (a12:Int) (a13:Int) (a14:Int) (a15:Int) (a16:(List Af)):xs.map AZ++[D.agg [(.str a0),(.int .i64 a1),(.int .i64 a2),(.int .i64 a3),(.int .i64 a4),(.int .i64 a5),(.int .i64 a6),(D.list 6 (List.map Ao a7)),(D.list 2 (List.map Ag a8)),(.int .i64 a9),(D.list 1 (List.map (D.int .i64) a10)),(.int .i64 a11),(.int .i64 a12),(.int .i64 a13),(.int .i64 a14),(.int .i64 a15),(D.list 6 (List.map Ao a16))]] = (xs++[({ Name:=a0,Kind:=a1,Filter:=({ Op:=a2,Column:=a3,Code:=a4,Low:=a5,High:=a6,Kids:=a7 }:Af),Dims:=a8,Measure:=a9,Terms:=a10,Event:=({ Op:=a11,Column:=a12,Code:=a13,Low:=a14,High:=a15,Kids:=a16 }:Af) }:AG)]).map AZ:=by simp [AZ,Al]
def Dr (x:Az):D:=.agg [(.str x.Project),(.str x.Source),(.int .i64 x.Cohort.Op),(.int .i64 x.Cohort.Column),(.int .i64 x.Cohort.Code),(.int .i64 x.Cohort.Low),(.int .i64 x.Cohort.High),(Al 6 Ao x.Cohort.Kids),(.int .i64 x.Sample.Part),(.int .i64 x.Sample.Of),(.int .i64 x.Sample.Seed),(Al 17 AZ x.Questions)]
def Ci (x:Aw):D:=.agg [(.str x.Project),(.int .i64 x.Version),(Al 2 Ag x.Picks),(Al 1 (Al 1 (D.int .i64)) x.Rows)]
def ON (x:Bt):D:=.agg [(.bool x.f_num),(.bool x.f_name),(.bool x.f_column),(.bool x.f_columns),(.bool x.f_dims),(.bool x.f_cond),(.bool x.f_event)]
def CR (x:Be):D:=.agg [(.int .i64 x.Time),(.int .i64 x.AtRisk),(.int .i64 x.Events),(.int .i64 x.Left),(.int .i64 x.Survive.Num),(.int .i64 x.Survive.Den)]
end Go.Proofs.YtejfnieiaecpkaaGreatDoor.P
set_option linter.unusedVariables false
set_option linter.unusedSimpArgs false
namespace Go.Proofs.YtejfnieiaecpkaaGreatDoor.P
def CY (p0:Int):Option ByteArray:=bif decide (0≤p0∧p0 < 100) then some ⟨(Go.Lib.decDigits p0.toNat).toArray⟩ else none
def Dh (p0:List Int) (p1:Int→Option Bool):Option (List Int):=bif (rm 0 p0.length && p0.all fun x=>(p1 x).isSome) then some (p0.filter fun x=>p1 x==some false) else none
end Go.Proofs.YtejfnieiaecpkaaGreatDoor.P
set_option linter.unusedVariables false
set_option linter.unusedSimpArgs false
namespace Go.Proofs.YtejfnieiaecpkaaGreatDoor.P.F
def nn (num den:Int):Int:=if den < 0 then -num else num
def ZC (n:Int) (d:Nat):Bool:=decide (((n.natAbs / Nat.gcd d n.natAbs:Nat):Int)≤1152921504606846976) && decide (((d / Nat.gcd d n.natAbs:Nat):Int)≤1152921504606846976)
def HJ (n:Int) (d:Nat):Int × Int:=bif ZC n d then (((n.natAbs / Nat.gcd d n.natAbs:Nat):Int) * n.sign,((d / Nat.gcd d n.natAbs:Nat):Int)) else (0,0)
def O3 (n:Int) (d:Nat):Int:=bif ZC n d then 0 else 14
def EF (xs:List Int):List Int:=xs.mergeSort fun x y=>decide (x≤y)
def setI (xs:List Int):List Int:=Go.Lib.compact (EF xs)
theorem setI_len (xs:List Int):(setI xs).length≤xs.length:=by
 unfold setI Go.Lib.compact Go.Lib.compactUpTo
 rw [List.length_map]
 exact Nat.le_trans (List.length_filter_le _ _) (by simp [EF,List.length_mergeSort])
structure St where
 time:Int
 risk:Int
 ev:Int
 lf:Int
 fr:Int × Int
abbrev PS:=List (Int × Bool)
def K1 (t:Int) (ps:PS):Int:=((ps.filter fun p=>p.1==t && p.2).length:Nat)
def Re (t:Int) (ps:PS):Int:=((ps.filter fun p=>p.1==t && !p.2).length:Nat)
def stepGo (ps:PS):List Int→Int→Int × Int→List St→List St × Int
 | [],_,_,acc=>(acc,0)
 | t :: r,left,s,acc =>
   bif ZC (s.1 * (HJ (left - K1 t ps) left.toNat).1) (s.2 * (HJ (left - K1 t ps) left.toNat).2).toNat then
    stepGo ps r (left - (K1 t ps + Re t ps)) (HJ (s.1 * (HJ (left - K1 t ps) left.toNat).1) (s.2 * (HJ (left - K1 t ps) left.toNat).2).toNat)
     (acc++[⟨t,left,K1 t ps,Re t ps,HJ (s.1 * (HJ (left - K1 t ps) left.toNat).1) (s.2 * (HJ (left - K1 t ps) left.toNat).2).toNat⟩])
   else ([],14)
def tm (ps:PS):List Int:=ps.map fun p=>p.1
def es (ps:PS):List Bool:=ps.map fun p=>p.2
def stepsF (ps:PS):List St × Int:=stepGo ps (setI (tm ps)) ps.length (1,1) []
def lrgT (v:Int):Bool:=bif decide (v < 0) then true else decide (v > 1000000)
theorem stepGo_len (ps:PS):∀ (l:List Int) (left:Int) (s:Int × Int) (acc:List St),(stepGo ps l left s acc).1.length≤l.length + acc.length
 | [],_,_,acc=>by simp [stepGo]
 | t :: r,left,s,acc=>by
   unfold stepGo
   generalize HJ (left - K1 t ps) left.toNat = q
   cases ZC (s.1 * q.1) (s.2 * q.2).toNat with
   | true =>
     have:=stepGo_len ps r (left - (K1 t ps + Re t ps)) (HJ (s.1 * q.1) (s.2 * q.2).toNat) (acc++[⟨t,left,K1 t ps,Re t ps,HJ (s.1 * q.1) (s.2 * q.2).toNat⟩])
     simp only [List.length_append,List.length_cons,List.length_nil] at this ⊢
     exact Nat.le_trans this (by omega)
   | false=>exact Nat.zero_le _
end Go.Proofs.YtejfnieiaecpkaaGreatDoor.P.F
namespace Go.Proofs.YtejfnieiaecpkaaGreatDoor.P
def fa (s:F.St):Be:={ Time:=s.time,AtRisk:=s.risk,Events:=s.ev,Left:=s.lf,Survive:={ Num:=s.fr.1,Den:=s.fr.2 } }
def KO (ts:List Int) (evs:List Bool):List F.St × Int:=bif decide (ts.length = evs.length) then (bif decide (ts.length≤200) then (bif ts.any F.lrgT then ([],2) else F.stepsF (ts.zip evs)) else ([],1)) else ([],17)
def GU (ts:List Int) (evs:List Bool):List Be × Int:=((KO ts evs).1.map fa,(KO ts evs).2)
def Kh (p0:List Int) (p1:List Bool):Option (List Be × Int):=bif decide (p0.length≤100000) then some (GU p0 p1) else none
def Ps (p0:List Int) (p1:List Bool):Option (List Be × Int):=bif decide (p0.length≤100000) then some (GU p0 p1) else none
def Pq:Option Bool:=some true
theorem aA (ts:List Int) (evs:List Bool):(KO ts evs).1.length≤200:=by
 unfold KO
 by_cases h1:ts.length = evs.length
 ·rw [decide_eq_true h1,cond_true]
  by_cases h2:ts.length≤200
  ·rw [decide_eq_true h2,cond_true]
   cases ts.any F.lrgT with
   | true=>exact Nat.zero_le _
   | false =>
     have:=F.stepGo_len (ts.zip evs) (F.setI (F.tm (ts.zip evs))) (ts.zip evs).length (1,1) []
     have h3:=F.setI_len (F.tm (ts.zip evs))
     have h4:(F.tm (ts.zip evs)).length = min ts.length evs.length:=by simp [F.tm]
     show (F.stepGo _ _ _ _ _).1.length≤200
     simp only [List.length_nil] at this
     omega
  ·rw [decide_eq_false h2]; exact Nat.zero_le _
 ·rw [decide_eq_false h1]; exact Nat.zero_le _
theorem aV (ts:List Int) (evs:List Bool):(GU ts evs).1.length≤200:=by
 show ((KO ts evs).1.map fa).length≤200
 rw [List.length_map]; exact aA ts evs
end Go.Proofs.YtejfnieiaecpkaaGreatDoor.P
set_option linter.unusedSimpArgs false
namespace Go.Proofs.YtejfnieiaecpkaaGreatDoor.P
open Go.Abs Go.Proofs
set_option linter.unusedVariables false
def HM (p0:(List Int)) (p1:Int) (kont1_0:(Int→Option Int)) (rec1:(Int→Option Int)) (v8_1:Int):Option Int :=
 bif (decide (v8_1 < ((p0.length:Nat):Int))) then
  (idx p0 v8_1).bind fun x14 =>
  bif (p1==x14) then
   some v8_1
  else
   rec1 (IntKind.i64.wrap (v8_1 + 1))
 else
  kont1_0 v8_1
def EE (p0:(List Int)) (p1:Int):Option Int :=
 iter (fun rec1 s=>HM p0 p1 (fun v8_1=>some (-1)) rec1 s) A8 0
def BJ (p0:(List Int)) (p1:Int):Option Bool :=
 (EE p0 p1).bind fun x7 =>
 some (decide (x7 ≥ 0))
def DX (p0:(List Ae)) (p1:(Ae→Option Bool)) (kont1_0:(Int→Option Int)) (rec1:(Int→Option Int)) (v8_1:Int):Option Int :=
 bif (decide (v8_1 < ((p0.length:Nat):Int))) then
  (idx p0 v8_1).bind fun x14 =>
  (p1 x14).bind fun x16 =>
  bif x16 then
   some v8_1
  else
   rec1 (IntKind.i64.wrap (v8_1 + 1))
 else
  kont1_0 v8_1
def Bo (p0:(List Ae)) (p1:(Ae→Option Bool)):Option Int :=
 iter (fun rec1 s=>DX p0 p1 (fun v8_1=>some (-1)) rec1 s) A8 0
def GG (p0:(List Int)) (p1:(Int→Option Bool)) (kont1_0:(Int→Option Int)) (rec1:(Int→Option Int)) (v8_1:Int):Option Int :=
 bif (decide (v8_1 < ((p0.length:Nat):Int))) then
  (idx p0 v8_1).bind fun x14 =>
  (p1 x14).bind fun x16 =>
  bif x16 then
   some v8_1
  else
   rec1 (IntKind.i64.wrap (v8_1 + 1))
 else
  kont1_0 v8_1
def C7 (p0:(List Int)) (p1:(Int→Option Bool)):Option Int :=
 iter (fun rec1 s=>GG p0 p1 (fun v8_1=>some (-1)) rec1 s) A8 0
def Cc (p0:(List Int)) (p1:(Int→Option Bool)):Option Bool :=
 (C7 p0 p1).bind fun x7 =>
 some (decide (x7 ≥ 0))
def AN (p0:(List Ae)) (p1:(Ae→Option Bool)):Option Bool :=
 (Bo p0 p1).bind fun x7 =>
 some (decide (x7 ≥ 0))
def CP (p0:(List Am)) (p1:(Am→Option Bool)) (kont1_0:(Int→Option Int)) (rec1:(Int→Option Int)) (v8_1:Int):Option Int :=
 bif (decide (v8_1 < ((p0.length:Nat):Int))) then
  (idx p0 v8_1).bind fun x14 =>
  (p1 x14).bind fun x16 =>
  bif x16 then
   some v8_1
  else
   rec1 (IntKind.i64.wrap (v8_1 + 1))
 else
  kont1_0 v8_1
def B1 (p0:(List Am)) (p1:(Am→Option Bool)):Option Int :=
 iter (fun rec1 s=>CP p0 p1 (fun v8_1=>some (-1)) rec1 s) A8 0
def AX (p0:(List Am)) (p1:(Am→Option Bool)):Option Bool :=
 (B1 p0 p1).bind fun x7 =>
 some (decide (x7 ≥ 0))
def DT (p0:(List AD)) (p1:(AD→Option Bool)) (kont1_0:(Int→Option Int)) (rec1:(Int→Option Int)) (v8_1:Int):Option Int :=
 bif (decide (v8_1 < ((p0.length:Nat):Int))) then
  (idx p0 v8_1).bind fun x14 =>
  (p1 x14).bind fun x16 =>
  bif x16 then
   some v8_1
  else
   rec1 (IntKind.i64.wrap (v8_1 + 1))
 else
  kont1_0 v8_1
def CQ (p0:(List AD)) (p1:(AD→Option Bool)):Option Int :=
 iter (fun rec1 s=>DT p0 p1 (fun v8_1=>some (-1)) rec1 s) A8 0
def Bc (p0:(List AD)) (p1:(AD→Option Bool)):Option Bool :=
 (CQ p0 p1).bind fun x7 =>
 some (decide (x7 ≥ 0))
def Dl (p0:(List Av)) (p1:(Av→Option Bool)) (kont1_0:(Int→Option Int)) (rec1:(Int→Option Int)) (v8_1:Int):Option Int :=
 bif (decide (v8_1 < ((p0.length:Nat):Int))) then
  (idx p0 v8_1).bind fun x14 =>
  (p1 x14).bind fun x16 =>
  bif x16 then
   some v8_1
  else
   rec1 (IntKind.i64.wrap (v8_1 + 1))
 else
  kont1_0 v8_1
def BD (p0:(List Av)) (p1:(Av→Option Bool)):Option Int :=
 iter (fun rec1 s=>Dl p0 p1 (fun v8_1=>some (-1)) rec1 s) A8 0
def Bh (p0:(List Av)) (p1:(Av→Option Bool)):Option Bool :=
 (BD p0 p1).bind fun x7 =>
 some (decide (x7 ≥ 0))
def IW (p0:(List Int)) (kont1_0:(Int→Int→Option Int)) (rec1:((Int × Int)→Option Int)) (v3_1:Int) (v4_1:Int):Option Int :=
 bif (decide (v4_1 < ((p0.length:Nat):Int))) then
  (idx p0 v4_1).bind fun x21 =>
  rec1 ((if x21 > v3_1 then x21 else v3_1),(IntKind.i64.wrap (v4_1 + 1)))
 else
  kont1_0 v3_1 v4_1
def HG (p0:(List Int)):Option Int :=
 bif (decide (((p0.length:Nat):Int) < 1)) then
  none
 else
  (idx p0 0).bind fun x10 =>
  iter (fun rec1 s=>IW p0 (fun v3_1 v4_1=>some v3_1) rec1 s.1 s.2) A8 (x10,1)
def MP (p0:ByteArray):Option Bool :=
 bif (p0.toList==({ data:=#[97,108,108] }:ByteArray).toList) then
  some false
 else
  bif (p0.toList==({ data:=#[97,110,100] }:ByteArray).toList) then
   some false
  else
   bif (p0.toList==({ data:=#[101,118,101,110,116] }:ByteArray).toList) then
    some false
   else
    bif (p0.toList==({ data:=#[102,114,111,109] }:ByteArray).toList) then
     some false
    else
     bif (p0.toList==({ data:=#[109,105,115,115,105,110,103] }:ByteArray).toList) then
      some false
     else
      bif (p0.toList==({ data:=#[110,111,116] }:ByteArray).toList) then
       some false
      else
       bif (p0.toList==({ data:=#[111,110] }:ByteArray).toList) then
        some false
       else
        bif (p0.toList==({ data:=#[111,114] }:ByteArray).toList) then
         some false
        else
         bif (p0.toList==({ data:=#[116,111] }:ByteArray).toList) then
          some false
         else
          bif (p0.toList==({ data:=#[117,110,100,101,114] }:ByteArray).toList) then
           some false
          else
           bif (p0.toList==({ data:=#[119,104,101,114,101] }:ByteArray).toList) then
            some false
           else
            some true
def Qi (p0:ByteArray) (kont1_0:(Int→Option Bool)) (rec1:(Int→Option Bool)) (v26_1:Int):Option Bool :=
 bif (decide (v26_1 < (((Kk p0).length:Nat):Int))) then
  (idx (Kk p0) v26_1).bind fun x28 =>
  bif (bif (bif (bif (decide (x28 < 97)) then true else (decide (x28 > 122))) then (bif (decide (x28 < 48)) then true else (decide (x28 > 57))) else false) then (x28 != 95) else false) then
   some false
  else
   rec1 (IntKind.i64.wrap (v26_1 + 1))
 else
  kont1_0 v26_1
def MA (p0:ByteArray):Option Bool :=
 iter (fun rec1 s=>Qi p0 (fun v26_1=>MP p0) rec1 s) A8 0
def Ef (p0:ByteArray):Option Bool :=
 bif (bif (decide (((p0.size:Nat):Int) < 1)) then true else (decide (((p0.size:Nat):Int) > 16))) then
  some false
 else
  bif (decide (0≤(0:Int)∧(0:Int).toNat < p0.size)) then
   bif (decide ((Fu p0 0) < 97)) then
    some false
   else
    bif (decide (0≤(0:Int)∧(0:Int).toNat < p0.size)) then
     bif (decide ((Fu p0 0) > 122)) then
      some false
     else
      MA p0
    else none
  else none
def Ou (p0:Am) (kont1_0:(Int→(List Int)→Option (List Int))) (rec1:((Int × (List Int))→Option (List Int))) (v13_1:Int) (b9_1:(List Int)):Option (List Int) :=
 bif (decide (v13_1 < ((p0.Codes.length:Nat):Int))) then
  (idx p0.Codes v13_1).bind fun x16 =>
  bif (decide (v13_1 > 0)) then
   (idx b9_1 x16.Parent).bind fun x25 =>
   (idx b9_1 v13_1).bind fun x28 =>
   rec1 ((IntKind.i64.wrap (v13_1 + 1)),(b9_1.set (v13_1:Int).toNat (IntKind.i64.wrap (x25 + 1))))
  else
   rec1 ((IntKind.i64.wrap (v13_1 + 1)),b9_1)
 else
  kont1_0 v13_1 b9_1
def FY (p0:Am):Option (List Int) :=
 bif (decide (0≤((p0.Codes.length:Nat):Int)) && rm (((p0.Codes.length:Nat):Int):Int).toNat 0) then
  iter (fun rec1 s=>Ou p0 (fun v13_1 b9_1=>some b9_1) rec1 s.1 s.2) A8 (0,(List.replicate (((p0.Codes.length:Nat):Int):Int).toNat 0))
 else none
def P5 (x82:(List Int)) (k29_1:(List Bool)) (kont2_4:(Int→Int→Option Int)) (rec2:((Int × Int)→Option Int)) (v7_2:Int) (v84_2:Int):Option Int :=
 bif (decide (v84_2 < ((x82.length:Nat):Int))) then
  (idx x82 v84_2).bind fun x87 =>
  (idx k29_1 v84_2).bind fun x91 =>
  bif x91 then
   rec2 (v7_2,(IntKind.i64.wrap (v84_2 + 1)))
  else
   bif (bif (decide (v7_2 ≥ 0)) then (x87 != v7_2) else false) then
    some 5
   else
    rec2 (x87,(IntKind.i64.wrap (v84_2 + 1)))
 else
  kont2_4 v7_2 v84_2
def LK (p0:Am) (k29_1:(List Bool)):Option Int :=
 (FY p0).bind fun x82 =>
 iter (fun rec2 s=>P5 x82 k29_1 (fun v7_2 v84_2=>some 0) rec2 s.1 s.2) A8 ((-1),0)
def Pv (p0:Am) (kont1_1:(Int→(List (ByteArray × Bool))→(List Bool)→Option Int)) (rec1:((Int × (List (ByteArray × Bool)) × (List Bool))→Option Int)) (v33_1:Int) (b25_1:(List (ByteArray × Bool))) (b29_1:(List Bool)):Option Int :=
 bif (decide (v33_1 < ((p0.Codes.length:Nat):Int))) then
  (idx p0.Codes v33_1).bind fun x36 =>
  (Ef x36.Name).bind fun x41 =>
  bif (!x41) then
   some 3
  else
   bif ((Xo x36.Name b25_1).getD false) then
    some 10
   else
    bif (bif (bif (v33_1==0) then (x36.Parent != (-1)) else false) then true else (bif (decide (v33_1 > 0)) then (bif (decide (x36.Parent < 0)) then true else (decide (x36.Parent ≥ v33_1))) else false)) then
     some 6
    else
     bif (decide (v33_1 > 0)) then
      (idx b29_1 x36.Parent).bind fun x79 =>
      rec1 ((IntKind.i64.wrap (v33_1 + 1)),(f8 x36.Name true b25_1),(b29_1.set (x36.Parent:Int).toNat true))
     else
      rec1 ((IntKind.i64.wrap (v33_1 + 1)),(f8 x36.Name true b25_1),b29_1)
 else
  kont1_1 v33_1 b25_1 b29_1
def FT (p0:Am):Option Int :=
 (Ef p0.Name).bind fun x13 =>
 bif (!x13) then
  some 3
 else
  bif (((p0.Codes.length:Nat):Int)==0) then
   some 5
  else
   bif (decide (((p0.Codes.length:Nat):Int) > 60)) then
    some 1
   else
    bif (decide (0≤((p0.Codes.length:Nat):Int)) && rm (((p0.Codes.length:Nat):Int):Int).toNat 0) then
     iter (fun rec1 s=>Pv p0 (fun v33_1 b25_1 b29_1=>LK p0 b29_1) rec1 s.1 s.2.1 s.2.2) A8 (0,[],(List.replicate (((p0.Codes.length:Nat):Int):Int).toNat false))
    else none
def KL (p0:Am) (q0:Am):Option Bool :=
 some (p0.Name.toList==q0.Name.toList)
def GR (p0:Av) (q0:Av):Option Bool :=
 some (p0.Name.toList==q0.Name.toList)
def Gi (p0:Av) (kont1_1:(Int→Int→Option Int)) (rec1:((Int × Int)→Option Int)) (v3_1:Int) (v36_1:Int):Option Int :=
 bif (decide (v36_1 < ((p0.Widths.length:Nat):Int))) then
  (idx p0.Widths v36_1).bind fun x39 =>
  bif (bif (v36_1==0) then (x39 != 1) else false) then
   some 2
  else
   bif (decide (v36_1 > 0)) then
    bif (decide (x39≤v3_1)) then
     some 2
    else
     bif (decide (v3_1≠0)) then
      bif (bif ((Int.tmod x39 v3_1) != 0) then true else (decide (x39 > 1000000))) then
       some 2
      else
       rec1 (x39,(IntKind.i64.wrap (v36_1 + 1)))
     else none
   else
    rec1 (x39,(IntKind.i64.wrap (v36_1 + 1)))
 else
  kont1_1 v3_1 v36_1
def Eh (p0:Av):Option Int :=
 bif (bif (bif (decide (p0.Low < (-1000000))) then true else (decide (p0.High > 1000000))) then true else (decide (p0.Low > p0.High))) then
  some 2
 else
  bif (bif (((p0.Widths.length:Nat):Int)==0) then true else (decide (((p0.Widths.length:Nat):Int) > 4))) then
   some 1
  else
   iter (fun rec1 s=>Gi p0 (fun v3_1 v36_1=>some 0) rec1 s.1 s.2) A8 (1,0)
def Es (p0:Av):Option Bool :=
 bif (bif (p0.Kind != 2) then (p0.List_ != 0) else false) then
  some false
 else
  some (bif (p0.Kind==3) then true else (bif (bif (bif (p0.Low==0) then (p0.High==0) else false) then (((p0.Widths.length:Nat):Int)==0) else false) then (!p0.Optional) else false))
def EA (p0:Aa) (p1:Int):Option Int :=
 (idx p0.Columns p1).bind fun x10 =>
 (Ef x10.Name).bind fun x14 =>
 bif (!x14) then
  some 3
 else
  bif (decide (0≤(0:Int)∧0≤p1∧p1≤((p0.Columns.length:Nat):Int))) then
   (Bh (O1 p0.Columns 0 p1) (fun a0=>GR a0 x10)).bind fun x21 =>
   bif x21 then
    some 10
   else
    bif (x10.Kind==1) then
     bif (decide (p1 > 0)) then
      some 4
     else
      (Es x10).bind fun x49 =>
      bif (!x49) then
       some 11
      else
       some 0
    else
     bif (x10.Kind==2) then
      bif (bif (decide (x10.List_ < 0)) then true else (decide (x10.List_ ≥ ((p0.Lists.length:Nat):Int)))) then
       some 5
      else
       (Es x10).bind fun x49 =>
       bif (!x49) then
        some 11
       else
        some 0
     else
      bif (x10.Kind==3) then
       (Eh x10).bind fun x44 =>
       bif (x44 != 0) then
        some x44
       else
        (Es x10).bind fun x49 =>
        bif (!x49) then
         some 11
        else
         some 0
      else
       some 4
  else none
def Ir (p0:Aa) (kont2_2:(Int→Option Int)) (rec2:(Int→Option Int)) (v53_2:Int):Option Int :=
 bif (decide (v53_2 < ((p0.Columns.length:Nat):Int))) then
  (EA p0 v53_2).bind fun x58 =>
  bif (x58 != 0) then
   some x58
  else
   rec2 (IntKind.i64.wrap (v53_2 + 1))
 else
  kont2_2 v53_2
def Ik (p0:Aa):Option Int :=
 bif (((p0.Columns.length:Nat):Int)==0) then
  some 7
 else
  (idx p0.Columns 0).bind fun x45 =>
  bif (x45.Kind != 1) then
   some 7
  else
   iter (fun rec2 s=>Ir p0 (fun v53_2=>some 0) rec2 s) A8 0
def Ip (p0:Aa) (kont1_0:(Int→Option Int)) (rec1:(Int→Option Int)) (v21_1:Int):Option Int :=
 bif (decide (v21_1 < ((p0.Lists.length:Nat):Int))) then
  (idx p0.Lists v21_1).bind fun x24 =>
  (FT x24).bind fun x27 =>
  bif (x27 != 0) then
   some x27
  else
   bif (decide (0≤(0:Int)∧0≤v21_1∧v21_1≤((p0.Lists.length:Nat):Int))) then
    (AX (O1 p0.Lists 0 v21_1) (fun a0=>KL a0 x24)).bind fun x36 =>
    bif x36 then
     some 10
    else
     rec1 (IntKind.i64.wrap (v21_1 + 1))
   else none
 else
  kont1_0 v21_1
def Dk (p0:Aa):Option Int :=
 bif (bif (decide (((p0.Lists.length:Nat):Int) > 6)) then true else (decide (((p0.Columns.length:Nat):Int) > 8))) then
  some 1
 else
  iter (fun rec1 s=>Ip p0 (fun v21_1=>Ik p0) rec1 s) A8 0
def EZ (p0:Am):Option Int :=
 (FT p0).bind fun x4 =>
 bif (x4 != 0) then
  some (-1)
 else
  (FY p0).bind fun x7 =>
  (HG x7).bind fun x8 =>
  some (IntKind.i64.wrap (x8 + 1))
def Fv (p0:Aa) (p1:Int):Option Int :=
 bif (bif (decide (p1 < 1)) then true else (decide (p1 ≥ ((p0.Columns.length:Nat):Int)))) then
  some (-1)
 else
  (idx p0.Columns p1).bind fun x18 =>
  bif (x18.Kind==2) then
   (idx p0.Lists x18.List_).bind fun x27 =>
   (EZ x27).bind fun x29 =>
   some (IntKind.i64.wrap (x29 - 1))
  else
   some ((x18.Widths.length:Nat):Int)
def II (p0:Aa) (p1:Ae):Option Int :=
 (Fv p0 p1.Column).bind fun x9 =>
 bif (decide (x9 < 0)) then
  some 7
 else
  bif (bif (decide (p1.Level < 0)) then true else (decide (p1.Level > x9))) then
   some 8
  else
   some 0
def Io (p1:(List Ae)) (p0:Aa) (kont1_0:(Int→Option Int)) (rec1:(Int→Option Int)) (v16_1:Int):Option Int :=
 bif (decide (v16_1 < ((p1.length:Nat):Int))) then
  (idx p1 v16_1).bind fun x19 =>
  (II p0 x19).bind fun x23 =>
  bif (x23 != 0) then
   some x23
  else
   bif (decide (v16_1 > 0)) then
    (idx p1 (IntKind.i64.wrap (v16_1 - 1))).bind fun x35 =>
    bif (decide (x19.Column≤x35.Column)) then
     some 10
    else
     rec1 (IntKind.i64.wrap (v16_1 + 1))
   else
    rec1 (IntKind.i64.wrap (v16_1 + 1))
 else
  kont1_0 v16_1
def Jy (p0:Aa) (p1:(List Ae)):Option Int :=
 (Dk p0).bind fun x10 =>
 bif (x10 != 0) then
  some x10
 else
  iter (fun rec1 s=>Io p1 p0 (fun v16_1=>some 0) rec1 s) A8 0
def TS (x12:(List Int)) (p1:Int) (kont1_0:(Int→(List Int)→Option (List Int))) (rec1:((Int × (List Int))→Option (List Int))) (v14_1:Int) (b5_1:(List Int)):Option (List Int) :=
 bif (decide (v14_1 < ((x12.length:Nat):Int))) then
  (idx x12 v14_1).bind fun x17 =>
  bif (x17==p1) then
   bif rm b5_1.length [v14_1].length then
    rec1 ((IntKind.i64.wrap (v14_1 + 1)),(b5_1++[v14_1]))
   else none
  else
   rec1 ((IntKind.i64.wrap (v14_1 + 1)),b5_1)
 else
  kont1_0 v14_1 b5_1
def K2 (p0:Am) (p1:Int):Option (List Int) :=
 (FT p0).bind fun x9 =>
 bif (x9 != 0) then
  some []
 else
  (FY p0).bind fun x12 =>
  iter (fun rec1 s=>TS x12 p1 (fun v14_1 b5_1=>some b5_1) rec1 s.1 s.2) A8 (0,[])
def Nw (p0:Am) (p1:Int):Option Bool :=
 bif (bif (decide (p1 ≥ 0)) then (decide (p1 < ((p0.Codes.length:Nat):Int))) else false) then
  (FT p0).bind fun x16 =>
  some (x16==0)
 else
  some false
def TF (p2:Int) (p0:Am) (kont1_0:(Int→Int→Option Int)) (rec1:((Int × Int)→Option Int)) (v1_1:Int) (v7_1:Int):Option Int :=
 bif (decide (v7_1 ≥ p2)) then
  bif (v7_1==p2) then
   some v1_1
  else
   (idx p0.Codes v1_1).bind fun x33 =>
   rec1 (x33.Parent,(IntKind.i64.wrap (v7_1 - 1)))
 else
  kont1_0 v1_1 v7_1
def GD (p0:Am) (p1:Int) (p2:Int):Option Int :=
 (Nw p0 p1).bind fun x10 =>
 bif (bif (!x10) then true else (decide (p2 < 0))) then
  some (-1)
 else
  (FY p0).bind fun x17 =>
  (idx x17 p1).bind fun x19 =>
  iter (fun rec1 s=>TF p2 p0 (fun v1_1 v7_1=>some (-1)) rec1 s.1 s.2) A8 (p1,x19)
def Gn (p0:Av) (p1:Int):Option Int :=
 (idx p0.Widths (IntKind.i64.wrap (((p0.Widths.length:Nat):Int) - p1))).bind fun x12 =>
 some x12
def Ep (p0:Int) (p1:Int):Option Int :=
 bif (decide (p1≠0)) then
  bif (decide ((Int.tmod p0 p1) < 0)) then
   some (IntKind.i64.wrap (p0 - (IntKind.i64.wrap ((Int.tmod p0 p1) + p1))))
  else
   some (IntKind.i64.wrap (p0 - (Int.tmod p0 p1)))
 else none
def IJ (p0:Av) (p1:Int) (p2:Int):Option (Int × Int × Bool) :=
 bif (p1==0) then
  some (p0.Low,p0.High,(p2==0))
 else
  bif (bif (decide (p2 < (-2000000))) then true else (decide (p2 > 1000000))) then
   some (0,0,false)
  else
   (Gn p0 p1).bind fun x30 =>
   (Ep p2 x30).bind fun x46 =>
   some ((if p0.Low > p2 then p0.Low else p2),(if p0.High < (IntKind.i64.wrap ((IntKind.i64.wrap (p2 + x30)) - 1)) then p0.High else (IntKind.i64.wrap ((IntKind.i64.wrap (p2 + x30)) - 1))),(bif (x46==p2) then (decide ((if p0.Low > p2 then p0.Low else p2)≤(if p0.High < (IntKind.i64.wrap ((IntKind.i64.wrap (p2 + x30)) - 1)) then p0.High else (IntKind.i64.wrap ((IntKind.i64.wrap (p2 + x30)) - 1))))) else false))
def LA (x54:(List Int)) (x48:Am) (p2:Int) (p3:Int) (kont1_0:(Int→Option (Int × Bool))) (rec1:(Int→Option (Int × Bool))) (v56_1:Int):Option (Int × Bool) :=
 bif (decide (v56_1 < ((x54.length:Nat):Int))) then
  (idx x54 v56_1).bind fun x58 =>
  (GD x48 x58 p2).bind fun x63 =>
  bif (x63==p3) then
   some (x58,true)
  else
   rec1 (IntKind.i64.wrap (v56_1 + 1))
 else
  kont1_0 v56_1
def Bd (p0:Aa) (p1:Int) (p2:Int) (p3:Int):Option (Int × Bool) :=
 (idx p0.Columns p1).bind fun x20 =>
 bif (x20.Kind==3) then
  bif (bif (decide (p2 > 0)) then (p3==(-1099511627776)) else false) then
   some (p3,x20.Optional)
  else
   (IJ x20 p2 p3).bind fun x38 =>
   some (x38.1,x38.2.2)
 else
  (idx p0.Lists x20.List_).bind fun x48 =>
  (EZ x48).bind fun x52 =>
  (K2 x48 (IntKind.i64.wrap (x52 - 1))).bind fun x54 =>
  iter (fun rec1 s=>LA x54 x48 p2 p3 (fun v56_1=>some (0,false)) rec1 s) A8 0
def Im (p1:(List Ae)) (p2:(List Int)) (p0:Aa) (kont1_0:(Int→Option Bool)) (rec1:(Int→Option Bool)) (v31_1:Int):Option Bool :=
 bif (decide (v31_1 < ((p1.length:Nat):Int))) then
  (idx p1 v31_1).bind fun x34 =>
  (idx p2 (IntKind.i64.wrap (v31_1 + 1))).bind fun x45 =>
  (Bd p0 x34.Column x34.Level x45).bind fun x47 =>
  bif (!x47.2) then
   some false
  else
   rec1 (IntKind.i64.wrap (v31_1 + 1))
 else
  kont1_0 v31_1
def Ig (p1:(List Ae)) (p2:(List Int)) (p0:Aa):Option Bool :=
 iter (fun rec1 s=>Im p1 p2 p0 (fun v31_1=>some true) rec1 s) A8 0
def Jc (p0:Aa) (p1:(List Ae)) (p2:(List Int)):Option Bool :=
 bif (((p2.length:Nat):Int) != (IntKind.i64.wrap (((p1.length:Nat):Int) + 1))) then
  some false
 else
  (idx p2 0).bind fun x19 =>
  bif (decide (x19 < 0)) then
   some false
  else
   (idx p2 0).bind fun x25 =>
   bif (decide (x25 > 1048575)) then
    some false
   else
    Ig p1 p2 p0
def HB (p1:Aw) (p0:Aa) (kont1_1:(Int→Option Int)) (rec1:(Int→Option Int)) (v42_1:Int):Option Int :=
 bif (decide (v42_1 < ((p1.Rows.length:Nat):Int))) then
  (idx p1.Rows v42_1).bind fun x45 =>
  (Jc p0 p1.Picks x45).bind fun x51 =>
  bif (!x51) then
   some 9
  else
   bif (decide (v42_1 > 0)) then
    (idx x45 0).bind fun x57 =>
    (idx p1.Rows (IntKind.i64.wrap (v42_1 - 1))).bind fun x63 =>
    (idx x63 0).bind fun x65 =>
    bif (decide (x57≤x65)) then
     some 10
    else
     rec1 (IntKind.i64.wrap (v42_1 + 1))
   else
    rec1 (IntKind.i64.wrap (v42_1 + 1))
 else
  kont1_1 v42_1
def Ex (p0:Aa) (p1:Aw):Option Int :=
 (Dk p0).bind fun x10 =>
 bif (x10 != 0) then
  some x10
 else
  (Ef p1.Project).bind fun x17 =>
  bif (!x17) then
   some 3
  else
   bif (bif (decide (p1.Version < 0)) then true else (decide (p1.Version > 300))) then
    some 13
   else
    (Jy p0 p1.Picks).bind fun x31 =>
    bif (x31 != 0) then
     some x31
    else
     bif (decide (((p1.Rows.length:Nat):Int) > 200)) then
      some 1
     else
      iter (fun rec1 s=>HB p1 p0 (fun v42_1=>some 0) rec1 s) A8 0
def E2 (p0:Af) (p1:Int) (self_condition_count:(Af→Int→Option Int)) (kont1_0:(Int→Int→Option Int)) (rec1:((Int × Int)→Option Int)) (v5_1:Int) (v11_1:Int):Option Int :=
 bif (decide (v11_1 < ((p0.Kids.length:Nat):Int))) then
  (idx p0.Kids v11_1).bind fun x13 =>
  bif (decide (v5_1 > p1)) then
   kont1_0 v5_1 v11_1
  else
   (self_condition_count x13 (IntKind.i64.wrap (p1 - v5_1))).bind fun x23 =>
   rec1 ((IntKind.i64.wrap (v5_1 + x23)),(IntKind.i64.wrap (v11_1 + 1)))
 else
  kont1_0 v5_1 v11_1
def Dm (d:Nat) (self_condition_count:(Af→Int→Option Int)) (p0:Af) (p1:Int):Option Int :=
 iter (fun rec1 s=>E2 p0 p1 self_condition_count (fun v5_1 v11_1=>some v5_1) rec1 s.1 s.2) A8 (1,0)
def Ds:Nat→Af→Int→Option Int
 | 0,_,_=>none
 | d + 1,p0,p1=>Dm d (Ds d) p0 p1
def Ec (p0:Af) (self_condition_deep:(Af→Option Int)) (kont1_0:(Int→Int→Option Int)) (rec1:((Int × Int)→Option Int)) (v3_1:Int) (v9_1:Int):Option Int :=
 bif (decide (v9_1 < ((p0.Kids.length:Nat):Int))) then
  (idx p0.Kids v9_1).bind fun x11 =>
  (self_condition_deep x11).bind fun x15 =>
  rec1 ((if x15 > v3_1 then x15 else v3_1),(IntKind.i64.wrap (v9_1 + 1)))
 else
  kont1_0 v3_1 v9_1
def Dc (d:Nat) (self_condition_deep:(Af→Option Int)) (p0:Af):Option Int :=
 iter (fun rec1 s=>Ec p0 self_condition_deep (fun v3_1 v9_1=>some (IntKind.i64.wrap (v3_1 + 1))) rec1 s.1 s.2) A8 (0,0)
def Cv:Nat→Af→Option Int
 | 0,_=>none
 | d + 1,p0=>Dc d (Cv d) p0
def JC (p0:Int):Option Int :=
 bif (p0==5) then
  some 2
 else
  bif (p0==6) then
   some 2
  else
   bif (p0==7) then
    some 1
   else
    some 0
def C3 (p0:Af):Option Bool :=
 bif (bif (!(bif (bif (p0.Op==2) then true else (p0.Op==3)) then true else (p0.Op==4))) then (p0.Column != 0) else false) then
  some false
 else
  bif (bif (p0.Op != 2) then (p0.Code != 0) else false) then
   some false
  else
   some (bif (p0.Op==3) then true else (bif (p0.Low==0) then (p0.High==0) else false))
def AF (p0:Aa) (p1:Af):Option Int :=
 (idx p0.Columns p1.Column).bind fun x58 =>
 bif (p1.Op==2) then
  bif (x58.Kind != 2) then
   some 7
  else
   bif (decide (p1.Code < 0)) then
    some 6
   else
    (idx p0.Lists x58.List_).bind fun x77 =>
    bif (decide (p1.Code ≥ ((x77.Codes.length:Nat):Int))) then
     some 6
    else
     some 0
 else
  bif (p1.Op==3) then
   bif (x58.Kind != 3) then
    some 7
   else
    bif (bif (bif (decide (p1.Low > p1.High)) then true else (decide (p1.Low < (-1000000)))) then true else (decide (p1.High > 1000000))) then
     some 2
    else
     some 0
  else
   bif (p1.Op==4) then
    bif (bif (x58.Kind != 3) then true else (!x58.Optional)) then
     some 7
    else
     some 0
   else
    some 0
def AR (p0:Aa) (p1:Af):Option Int :=
 bif (bif (decide (p1.Op < 1)) then true else (decide (p1.Op > 7))) then
  some 4
 else
  (JC p1.Op).bind fun x21 =>
  bif (((p1.Kids.length:Nat):Int) != x21) then
   some 11
  else
   (C3 p1).bind fun x25 =>
   bif (!x25) then
    some 11
   else
    bif (bif (bif (p1.Op != 2) then (p1.Op != 3) else false) then (p1.Op != 4) else false) then
     some 0
    else
     bif (bif (decide (p1.Column < 0)) then true else (decide (p1.Column ≥ ((p0.Columns.length:Nat):Int)))) then
      some 7
     else
      AF p0 p1
def Bw (p1:Af) (self_condition_checkAll:(Aa→Af→Option Int)) (p0:Aa) (kont1_0:(Int→Option Int)) (rec1:(Int→Option Int)) (v18_1:Int):Option Int :=
 bif (decide (v18_1 < ((p1.Kids.length:Nat):Int))) then
  (idx p1.Kids v18_1).bind fun x20 =>
  (self_condition_checkAll p0 x20).bind fun x24 =>
  bif (x24 != 0) then
   some x24
  else
   rec1 (IntKind.i64.wrap (v18_1 + 1))
 else
  kont1_0 v18_1
def BI (d:Nat) (self_condition_checkAll:(Aa→Af→Option Int)) (p0:Aa) (p1:Af):Option Int :=
 (AR p0 p1).bind fun x11 =>
 bif (x11 != 0) then
  some x11
 else
  iter (fun rec1 s=>Bw p1 self_condition_checkAll p0 (fun v18_1=>some 0) rec1 s) A8 0
def BK:Nat→Aa→Af→Option Int
 | 0,_,_=>none
 | d + 1,p0,p1=>BI d (BK d) p0 p1
def B7 (d:Nat) (p0:Aa) (p1:Af):Option Int :=
 (Dk p0).bind fun x7 =>
 bif (x7 != 0) then
  some x7
 else
  (Ds d p1 40).bind fun x14 =>
  bif (decide (x14 > 40)) then
   some 1
  else
   (Cv d p1).bind fun x18 =>
   bif (decide (x18 > 10)) then
    some 22
   else
    (BK d p0 p1).bind fun x22 =>
    some x22
def IT :Option (Bt × Bool) :=
 some (({ f_num:=false,f_name:=false,f_column:=false,f_columns:=false,f_dims:=false,f_cond:=false,f_event:=false }:Bt),false)
def LR (p0:Int):Option (Bt × Bool) :=
 bif (p0==1) then
  some (({ f_num:=true,f_name:=false,f_column:=false,f_columns:=false,f_dims:=false,f_cond:=false,f_event:=false }:Bt),true)
 else
  bif (p0==2) then
   some (({ f_num:=false,f_name:=true,f_column:=false,f_columns:=false,f_dims:=false,f_cond:=false,f_event:=false }:Bt),true)
  else
   bif (p0==3) then
    some (({ f_num:=false,f_name:=false,f_column:=false,f_columns:=false,f_dims:=false,f_cond:=true,f_event:=false }:Bt),true)
   else
    bif (p0==4) then
     some (({ f_num:=false,f_name:=false,f_column:=true,f_columns:=false,f_dims:=false,f_cond:=true,f_event:=false }:Bt),true)
    else
     bif (p0==5) then
      some (({ f_num:=false,f_name:=false,f_column:=true,f_columns:=false,f_dims:=false,f_cond:=true,f_event:=false }:Bt),true)
     else
      bif (p0==14) then
       some (({ f_num:=false,f_name:=false,f_column:=true,f_columns:=false,f_dims:=false,f_cond:=true,f_event:=false }:Bt),true)
      else
       bif (p0==6) then
        some (({ f_num:=false,f_name:=false,f_column:=false,f_columns:=false,f_dims:=false,f_cond:=false,f_event:=false }:Bt),true)
       else
        bif (p0==7) then
         some (({ f_num:=false,f_name:=false,f_column:=false,f_columns:=false,f_dims:=false,f_cond:=false,f_event:=false }:Bt),true)
        else
         bif (p0==8) then
          some (({ f_num:=false,f_name:=false,f_column:=false,f_columns:=false,f_dims:=false,f_cond:=false,f_event:=false }:Bt),true)
         else
          bif (p0==9) then
           some (({ f_num:=false,f_name:=false,f_column:=false,f_columns:=false,f_dims:=false,f_cond:=false,f_event:=false }:Bt),true)
          else
           bif (p0==10) then
            some (({ f_num:=false,f_name:=false,f_column:=true,f_columns:=false,f_dims:=true,f_cond:=true,f_event:=false }:Bt),true)
           else
            bif (p0==11) then
             some (({ f_num:=false,f_name:=false,f_column:=true,f_columns:=true,f_dims:=false,f_cond:=true,f_event:=false }:Bt),true)
            else
             bif (p0==12) then
              some (({ f_num:=false,f_name:=false,f_column:=true,f_columns:=false,f_dims:=false,f_cond:=true,f_event:=true }:Bt),true)
             else
              bif (p0==13) then
               some (({ f_num:=true,f_name:=false,f_column:=true,f_columns:=false,f_dims:=false,f_cond:=true,f_event:=false }:Bt),true)
              else
               IT
def DI (p0:Int):Option Bool :=
 some (bif (decide (p0 ≥ 6)) then (decide (p0≤9)) else false)
def HZ (p0:Af):Option Bool :=
 some (bif (bif (bif (bif (bif (p0.Op==0) then (p0.Column==0) else false) then (p0.Code==0) else false) then (p0.Low==0) else false) then (p0.High==0) else false) then (((p0.Kids.length:Nat):Int)==0) else false)
def Jo (p0:AD) (p1:Bt):Option Bool :=
 bif (bif (bif (bif (bif (bif p1.f_num then true else (p0.Num==0)) then (bif p1.f_name then true else (p0.Name.toList==({ data:=#[] }:ByteArray).toList)) else false) then (bif p1.f_column then true else (p0.Column==0)) else false) then (bif p1.f_columns then true else (((p0.Columns.length:Nat):Int)==0)) else false) then (bif p1.f_dims then true else (((p0.Dims.length:Nat):Int)==0)) else false) then
  bif p1.f_cond then
   bif p1.f_event then
    (DI p0.Op).bind fun x71 =>
    some (bif x71 then true else (((p0.Kids.length:Nat):Int)==0))
   else
    (HZ p0.Event).bind fun x65 =>
    bif x65 then
     (DI p0.Op).bind fun x71 =>
     some (bif x71 then true else (((p0.Kids.length:Nat):Int)==0))
    else
     some false
  else
   (HZ p0.Cond).bind fun x56 =>
   bif x56 then
    bif p1.f_event then
     (DI p0.Op).bind fun x71 =>
     some (bif x71 then true else (((p0.Kids.length:Nat):Int)==0))
    else
     (HZ p0.Event).bind fun x65 =>
     bif x65 then
      (DI p0.Op).bind fun x71 =>
      some (bif x71 then true else (((p0.Kids.length:Nat):Int)==0))
     else
      some false
   else
    some false
 else
  some false
def By (p0:Aa) (p1:Int):Option Bool :=
 bif (bif (decide (p1 ≥ 0)) then (decide (p1 < ((p0.Columns.length:Nat):Int))) else false) then
  (idx p0.Columns p1).bind fun x18 =>
  some (x18.Kind==3)
 else
  some false
def OV (p0:Aa) (p1:Ae):Option Int :=
 (Dk p0).bind fun x7 =>
 bif (x7 != 0) then
  some x7
 else
  (II p0 p1).bind fun x13 =>
  some x13
def KQ (p0:Ae) (q0:Ae):Option Bool :=
 some (p0.Column==q0.Column)
def Oj (p1:(List Ae)) (p0:Aa) (kont1_0:(Int→Option Bool)) (rec1:(Int→Option Bool)) (v9_1:Int):Option Bool :=
 bif (decide (v9_1 < ((p1.length:Nat):Int))) then
  (idx p1 v9_1).bind fun x12 =>
  (OV p0 x12).bind fun x16 =>
  bif (x16 != 0) then
   some false
  else
   (idx p0.Columns x12.Column).bind fun x23 =>
   bif (x23.Kind != 2) then
    some false
   else
    bif (decide (0≤(0:Int)∧0≤v9_1∧v9_1≤((p1.length:Nat):Int))) then
     (AN (O1 p1 0 v9_1) (fun a0=>KQ a0 x12)).bind fun x32 =>
     bif x32 then
      some false
     else
      rec1 (IntKind.i64.wrap (v9_1 + 1))
    else none
 else
  kont1_0 v9_1
def NQ (p0:Aa) (p1:(List Ae)):Option Bool :=
 iter (fun rec1 s=>Oj p1 p0 (fun v9_1=>some (bif (decide (((p1.length:Nat):Int) ≥ 1)) then (decide (((p1.length:Nat):Int)≤3)) else false)) rec1 s) A8 0
def N4 (p2:(List Int)) (p0:Aa) (p1:Int) (kont1_0:(Int→Option Bool)) (rec1:(Int→Option Bool)) (v11_1:Int):Option Bool :=
 bif (decide (v11_1 < ((p2.length:Nat):Int))) then
  (idx p2 v11_1).bind fun x14 =>
  (By p0 x14).bind fun x18 =>
  bif (bif (!x18) then true else (x14==p1)) then
   some false
  else
   bif (decide (0≤(0:Int)∧0≤v11_1∧v11_1≤((p2.length:Nat):Int))) then
    (BJ (O1 p2 0 v11_1) x14).bind fun x30 =>
    bif x30 then
     some false
    else
     rec1 (IntKind.i64.wrap (v11_1 + 1))
   else none
 else
  kont1_0 v11_1
def MU (p0:Aa) (p1:Int) (p2:(List Int)):Option Bool :=
 iter (fun rec1 s=>N4 p2 p0 p1 (fun v11_1=>some (bif (decide (((p2.length:Nat):Int) ≥ 1)) then (decide (((p2.length:Nat):Int)≤3)) else false)) rec1 s) A8 0
def Hy (p0:Aa) (p1:AD):Option Bool :=
 bif (p1.Op==1) then
  some (bif (decide (p1.Num ≥ (-1099511627776))) then (decide (p1.Num≤1099511627776)) else false)
 else
  bif (p1.Op==2) then
   (Ef p1.Name).bind fun x21 =>
   some x21
  else
   bif (p1.Op==4) then
    (By p0 p1.Column).bind fun x29 =>
    some x29
   else
    bif (p1.Op==5) then
     (By p0 p1.Column).bind fun x29 =>
     some x29
    else
     bif (p1.Op==14) then
      (By p0 p1.Column).bind fun x29 =>
      some x29
     else
      bif (p1.Op==10) then
       (NQ p0 p1.Dims).bind fun x35 =>
       bif x35 then
        bif (p1.Column==(-1)) then
         some true
        else
         (By p0 p1.Column).bind fun x44 =>
         some x44
       else
        some false
      else
       bif (p1.Op==11) then
        (By p0 p1.Column).bind fun x52 =>
        bif x52 then
         (MU p0 p1.Column p1.Columns).bind fun x59 =>
         some x59
        else
         some false
       else
        bif (p1.Op==12) then
         (By p0 p1.Column).bind fun x66 =>
         bif x66 then
          (idx p0.Columns p1.Column).bind fun x72 =>
          some (decide (x72.Low ≥ 0))
         else
          some false
        else
         bif (p1.Op==13) then
          (By p0 p1.Column).bind fun x82 =>
          bif x82 then
           (idx p0.Columns p1.Column).bind fun x88 =>
           (BJ x88.Widths p1.Num).bind fun x93 =>
           some x93
          else
           some false
         else
          some true
def Lz (p0:Int):Option Bool :=
 some (bif (decide (p0 ≥ 1)) then (decide (p0≤9)) else false)
def H3 (x10:(Bt × Bool)) (d:Nat) (p0:Aa) (p1:AD) (self_program_right_c1:(AD→Aa→Option Bool)):Option Bool :=
 bif x10.1.f_cond then
  (B7 d p0 p1.Cond).bind fun x33 =>
  bif (x33 != 0) then
   some false
  else
   bif x10.1.f_event then
    (B7 d p0 p1.Event).bind fun x43 =>
    bif (x43 != 0) then
     some false
    else
     (DI p1.Op).bind fun x49 =>
     bif (bif x49 then (((p1.Kids.length:Nat):Int) != 2) else false) then
      some false
     else
      (Bc p1.Kids (fun a0=>self_program_right_c1 a0 p0)).bind fun x59 =>
      some (!x59)
   else
    (DI p1.Op).bind fun x49 =>
    bif (bif x49 then (((p1.Kids.length:Nat):Int) != 2) else false) then
     some false
    else
     (Bc p1.Kids (fun a0=>self_program_right_c1 a0 p0)).bind fun x59 =>
     some (!x59)
 else
  bif x10.1.f_event then
   (B7 d p0 p1.Event).bind fun x43 =>
   bif (x43 != 0) then
    some false
   else
    (DI p1.Op).bind fun x49 =>
    bif (bif x49 then (((p1.Kids.length:Nat):Int) != 2) else false) then
     some false
    else
     (Bc p1.Kids (fun a0=>self_program_right_c1 a0 p0)).bind fun x59 =>
     some (!x59)
  else
   (DI p1.Op).bind fun x49 =>
   bif (bif x49 then (((p1.Kids.length:Nat):Int) != 2) else false) then
    some false
   else
    (Bc p1.Kids (fun a0=>self_program_right_c1 a0 p0)).bind fun x59 =>
    some (!x59)
def G4 (d:Nat) (self_program_right:(Aa→AD→Option Bool)) (self_program_right_c1:(AD→Aa→Option Bool)) (p0:Aa) (p1:AD):Option Bool :=
 (LR p1.Op).bind fun x10 =>
 bif (!x10.2) then
  some false
 else
  (Jo p1 x10.1).bind fun x18 =>
  bif (!x18) then
   some false
  else
   (Hy p0 p1).bind fun x24 =>
   bif (!x24) then
    some false
   else
    H3 x10 d p0 p1 self_program_right_c1
def I6 (d:Nat) (self_program_right:(Aa→AD→Option Bool)) (self_program_right_c1:(AD→Aa→Option Bool)) (p0:AD) (q0:Aa):Option Bool :=
 (Lz p0.Op).bind fun x6 =>
 bif (!x6) then
  some true
 else
  (self_program_right q0 p0).bind fun x11 =>
  some (!x11)
mutual
def GL:Nat→Aa→AD→Option Bool
 | 0,_,_=>none
 | d + 1,p0,p1=>G4 d (GL d) (H6 d) p0 p1
def H6:Nat→AD→Aa→Option Bool
 | 0,_,_=>none
 | d + 1,p0,q0=>I6 d (GL d) (H6 d) p0 q0
end
def Eu (d:Nat) (p0:Aa) (p1:AD):Option Bool :=
 (Dk p0).bind fun x6 =>
 bif (x6==0) then
  (GL d p0 p1).bind fun x11 =>
  some x11
 else
  some false
def El (p0:Ae) (q0:Ae):Option Bool :=
 some (bif (p0.Column==q0.Column) then (decide (p0.Level ≥ q0.Level)) else false)
def F3 (p0:Ae) (q0:(List Ae)):Option Bool :=
 (AN q0 (fun a0=>El a0 p0)).bind fun x6 =>
 some (!x6)
def Ey (p0:(List Ae)) (p1:(List Ae)):Option Bool :=
 (AN p1 (fun a0=>F3 a0 p0)).bind fun x7 =>
 some (!x7)
def Gm (p0:Af) (self_condition_Atoms:(Af→Option (List Af))) (kont1_0:(Int→(List Af)→Option (List Af))) (rec1:((Int × (List Af))→Option (List Af))) (v24_1:Int) (b3_1:(List Af)):Option (List Af) :=
 bif (decide (v24_1 < ((p0.Kids.length:Nat):Int))) then
  (idx p0.Kids v24_1).bind fun x26 =>
  (self_condition_Atoms x26).bind fun x30 =>
  bif rm b3_1.length x30.length then
   rec1 ((IntKind.i64.wrap (v24_1 + 1)),(b3_1++x30))
  else none
 else
  kont1_0 v24_1 b3_1
def Fa (d:Nat) (self_condition_Atoms:(Af→Option (List Af))) (p0:Af):Option (List Af) :=
 bif (bif (bif (p0.Op==2) then true else (p0.Op==3)) then true else (p0.Op==4)) then
  some [p0]
 else
  iter (fun rec1 s=>Gm p0 self_condition_Atoms (fun v24_1 b3_1=>some b3_1) rec1 s.1 s.2) A8 (0,[])
def EU:Nat→Af→Option (List Af)
 | 0,_=>none
 | d + 1,p0=>Fa d (EU d) p0
def Dp (p0:Bool):Option Int :=
 bif p0 then
  some 1
 else
  some (-1)
def K9 (p0:Am) (p1:Int) (p2:Int):Option Bool :=
 (Nw p0 p1).bind fun x9 =>
 bif (!x9) then
  some false
 else
  (Nw p0 p2).bind fun x14 =>
  bif (!x14) then
   some false
  else
   (FY p0).bind fun x20 =>
   (idx x20 p2).bind fun x22 =>
   (GD p0 p1 x22).bind fun x24 =>
   some (x24==p2)
def B2 (p0:Aa) (p1:Af) (p2:Int):Option Int :=
 bif (p1.Op==2) then
  (idx p0.Columns p1.Column).bind fun x17 =>
  (idx p0.Lists x17.List_).bind fun x20 =>
  (K9 x20 p2 p1.Code).bind fun x25 =>
  (Dp x25).bind fun x26 =>
  some x26
 else
  bif (p1.Op==4) then
   (Dp (p2==(-1099511627776))).bind fun x33 =>
   some x33
  else
   bif (p2==(-1099511627776)) then
    some 0
   else
    (Dp (bif (decide (p2 ≥ p1.Low)) then (decide (p2≤p1.High)) else false)).bind fun x47 =>
    some x47
def GA (p0:Av) (p1:Int):Option Int :=
 (idx p0.Widths (IntKind.i64.wrap (((p0.Widths.length:Nat):Int) - p1))).bind fun x12 =>
 some x12
def DO (p0:Int) (p1:Int):Option Int :=
 bif (decide (p1≠0)) then
  bif (decide ((Int.tmod p0 p1) < 0)) then
   some (IntKind.i64.wrap (p0 - (IntKind.i64.wrap ((Int.tmod p0 p1) + p1))))
  else
   some (IntKind.i64.wrap (p0 - (Int.tmod p0 p1)))
 else none
def GV (x39:(List Int)) (x32:Am) (p2:Int) (p0:Aa) (p1:Af) (kont1_0:(Int→(List (Int × Int))→Option Bool)) (rec1:((Int × (List (Int × Int)))→Option Bool)) (v41_1:Int) (b34_1:(List (Int × Int))):Option Bool :=
 bif (decide (v41_1 < ((x39.length:Nat):Int))) then
  (idx x39 v41_1).bind fun x43 =>
  (GD x32 x43 p2).bind fun x48 =>
  (B2 p0 p1 x43).bind fun x52 =>
  bif (bif ((Je x48 b34_1).isSome) then (((Je x48 b34_1).getD 0) != x52) else false) then
   some false
  else
   rec1 ((IntKind.i64.wrap (v41_1 + 1)),(US x48 x52 b34_1))
 else
  kont1_0 v41_1 b34_1
def Bi (p0:Aa) (p1:Af) (p2:Int):Option Bool :=
 (idx p0.Columns p1.Column).bind fun x23 =>
 bif (p1.Op==2) then
  (idx p0.Lists x23.List_).bind fun x32 =>
  (EZ x32).bind fun x37 =>
  (K2 x32 (IntKind.i64.wrap (x37 - 1))).bind fun x39 =>
  iter (fun rec1 s=>GV x39 x32 p2 p0 p1 (fun v41_1 b34_1=>some true) rec1 s.1 s.2) A8 (0,[])
 else
  bif (bif (p2==0) then x23.Optional else false) then
   some false
  else
   bif (p1.Op==4) then
    some true
   else
    bif (decide ((if x23.Low > p1.Low then x23.Low else p1.Low) > (if x23.High < p1.High then x23.High else p1.High))) then
     some true
    else
     bif (p2==0) then
      some (bif ((if x23.Low > p1.Low then x23.Low else p1.Low)==x23.Low) then ((if x23.High < p1.High then x23.High else p1.High)==x23.High) else false)
     else
      (GA x23 p2).bind fun x107 =>
      bif ((if x23.Low > p1.Low then x23.Low else p1.Low)==x23.Low) then
       bif ((if x23.High < p1.High then x23.High else p1.High)==x23.High) then
        some true
       else
        (DO (IntKind.i64.wrap ((if x23.High < p1.High then x23.High else p1.High) + 1)) x107).bind fun x128 =>
        some (x128==(IntKind.i64.wrap ((if x23.High < p1.High then x23.High else p1.High) + 1)))
      else
       (DO (if x23.Low > p1.Low then x23.Low else p1.Low) x107).bind fun x115 =>
       bif (x115==(if x23.Low > p1.Low then x23.Low else p1.Low)) then
        bif ((if x23.High < p1.High then x23.High else p1.High)==x23.High) then
         some true
        else
         (DO (IntKind.i64.wrap ((if x23.High < p1.High then x23.High else p1.High) + 1)) x107).bind fun x128 =>
         some (x128==(IntKind.i64.wrap ((if x23.High < p1.High then x23.High else p1.High) + 1)))
       else
        some false
def E8 (b19_1:(List Int)) (x25:Af) (rec1:((Int × (List Int))→Option (List Ae))) (v23_1:Int) (v8_2:Int):Option (List Ae) :=
 (idx b19_1 x25.Column).bind fun x40 =>
 (idx b19_1 x25.Column).bind fun x44 =>
 rec1 ((IntKind.i64.wrap (v23_1 + 1)),(b19_1.set (x25.Column:Int).toNat (if v8_2 > x40 then v8_2 else x40)))
def Iw (p0:Aa) (x25:Af) (kont2_2:(Int→Option (List Ae))) (rec2:(Int→Option (List Ae))) (v8_2:Int):Option (List Ae) :=
 (Bi p0 x25 v8_2).bind fun x30 =>
 bif (!x30) then
  rec2 (IntKind.i64.wrap (v8_2 + 1))
 else
  kont2_2 v8_2
def FW (b19_1:(List Int)) (kont3_4:(Int→(List Ae)→Option (List Ae))) (rec3:((Int × (List Ae))→Option (List Ae))) (v48_3:Int) (b9_3:(List Ae)):Option (List Ae) :=
 bif (decide (v48_3 < ((b19_1.length:Nat):Int))) then
  (idx b19_1 v48_3).bind fun x51 =>
  bif (decide (x51 > 0)) then
   bif rm b9_3.length [({ Column:=v48_3,Level:=x51 }:Ae)].length then
    rec3 ((IntKind.i64.wrap (v48_3 + 1)),(b9_3++[({ Column:=v48_3,Level:=x51 }:Ae)]))
   else none
  else
   rec3 ((IntKind.i64.wrap (v48_3 + 1)),b9_3)
 else
  kont3_4 v48_3 b9_3
def Gu (x21:(List Af)) (p0:Aa) (kont1_0:(Int→(List Int)→Option (List Ae))) (rec1:((Int × (List Int))→Option (List Ae))) (v23_1:Int) (b19_1:(List Int)):Option (List Ae) :=
 bif (decide (v23_1 < ((x21.length:Nat):Int))) then
  (idx x21 v23_1).bind fun x25 =>
  iter (fun rec2 s=>Iw p0 x25 (E8 b19_1 x25 rec1 v23_1) rec2 s) A8 0
 else
  kont1_0 v23_1 b19_1
def CX (d:Nat) (p0:Aa) (p1:Af):Option (List Ae) :=
 (B7 d p0 p1).bind fun x14 =>
 bif (x14 != 0) then
  some []
 else
  bif (decide (0≤((p0.Columns.length:Nat):Int)) && rm (((p0.Columns.length:Nat):Int):Int).toNat 0) then
   (EU d p1).bind fun x21 =>
   iter (fun rec1 s=>Gu x21 p0 (fun v23_1 b19_1=>iter (fun rec3 s=>FW b19_1 (fun v48_3 b9_3=>some b9_3) rec3 s.1 s.2) A8 (0,[])) rec1 s.1 s.2) A8 (0,(List.replicate (((p0.Columns.length:Nat):Int):Int).toNat 0))
  else none
def Ni (x13:Av) (p2:Int) (kont1_0:(Int→Option Int)) (rec1:(Int→Option Int)) (v18_1:Int):Option Int :=
 bif (decide (v18_1 < ((x13.Widths.length:Nat):Int))) then
  (idx x13.Widths v18_1).bind fun x21 =>
  bif (x21==p2) then
   some (IntKind.i64.wrap (((x13.Widths.length:Nat):Int) - v18_1))
  else
   rec1 (IntKind.i64.wrap (v18_1 + 1))
 else
  kont1_0 v18_1
def MO (p0:Aa) (p1:Int) (p2:Int):Option Int :=
 (idx p0.Columns p1).bind fun x13 =>
 iter (fun rec1 s=>Ni x13 p2 (fun v18_1=>some 0) rec1 s) A8 0
def Er (p0:Aa) (p1:Int):Option Int :=
 (Dk p0).bind fun x6 =>
 bif (x6 != 0) then
  some (-1)
 else
  (Fv p0 p1).bind fun x10 =>
  some x10
def Fx (p0:Aa) (p1:Int) (p2:Int):Option Int :=
 (idx p0.Columns p1).bind fun x13 =>
 bif (x13.Kind==2) then
  (idx p0.Lists x13.List_).bind fun x22 =>
  (K2 x22 p2).bind fun x25 =>
  some ((x25.length:Nat):Int)
 else
  bif (p2==0) then
   some 1
  else
   (Gn x13 p2).bind fun x31 =>
   (Ep x13.High x31).bind fun x35 =>
   (Ep x13.Low x31).bind fun x39 =>
   bif (decide (x31≠0)) then
    bif x13.Optional then
     some (IntKind.i64.wrap ((IntKind.i64.wrap ((IntKind.i64.wrap (Int.tdiv (IntKind.i64.wrap (x35 - x39)) x31)) + 1)) + 1))
    else
     some (IntKind.i64.wrap ((IntKind.i64.wrap (Int.tdiv (IntKind.i64.wrap (x35 - x39)) x31)) + 1))
   else none
def Ie (p0:Aa) (p1:Int) (kont1_0:(Int→Option Int)) (rec1:(Int→Option Int)) (v2_1:Int):Option Int :=
 bif (decide (v2_1 > 0)) then
  (Fx p0 p1 (IntKind.i64.wrap (v2_1 - 1))).bind fun x25 =>
  (Fx p0 p1 v2_1).bind fun x29 =>
  bif (x25==x29) then
   rec1 (IntKind.i64.wrap (v2_1 - 1))
  else
   kont1_0 v2_1
 else
  kont1_0 v2_1
def DL (p0:Aa) (p1:Int) (p2:Int):Option Int :=
 (Er p0 p1).bind fun x10 =>
 bif (bif (decide (p2 < 0)) then true else (decide (p2 > x10))) then
  some (-1)
 else
  iter (fun rec1 s=>Ie p0 p1 (fun v2_1=>some v2_1) rec1 s) A8 p2
def DF (p0:Int) (q0:(List Ae)) (q1:Aa):Option (List Ae) :=
 (Er q1 p0).bind fun x10 =>
 (DL q1 p0 x10).bind fun x11 =>
 bif rm q0.length [({ Column:=p0,Level:=x11 }:Ae)].length then
  some (q0++[({ Column:=p0,Level:=x11 }:Ae)])
 else none
def Ob (p1:AD) (p0:Aa) (kont2_3:(Int→(List Ae)→Option (List Ae))) (rec2:((Int × (List Ae))→Option (List Ae))) (v69_2:Int) (b30_2:(List Ae)):Option (List Ae) :=
 bif (decide (v69_2 < ((p1.Columns.length:Nat):Int))) then
  (idx p1.Columns v69_2).bind fun x71 =>
  (DF x71 b30_2 p0).bind fun x75 =>
  rec2 ((IntKind.i64.wrap (v69_2 + 1)),x75)
 else
  kont2_3 v69_2 b30_2
def BG (p1:AD) (p0:Aa) (k30_2:(List Ae)):Option (List Ae) :=
 iter (fun rec2 s=>Ob p1 p0 (fun v69_2 b30_2=>some b30_2) rec2 s.1 s.2) A8 (0,k30_2)
def Lf (p1:AD) (p0:Aa) (k30_1:(List Ae)):Option (List Ae) :=
 bif (p1.Op==4) then
  bif (decide (p1.Column > 0)) then
   (DF p1.Column k30_1 p0).bind fun x47 =>
   BG p1 p0 x47
  else
   BG p1 p0 k30_1
 else
  bif (p1.Op==5) then
   bif (decide (p1.Column > 0)) then
    (DF p1.Column k30_1 p0).bind fun x47 =>
    BG p1 p0 x47
   else
    BG p1 p0 k30_1
  else
   bif (p1.Op==10) then
    bif (decide (p1.Column > 0)) then
     (DF p1.Column k30_1 p0).bind fun x47 =>
     BG p1 p0 x47
    else
     BG p1 p0 k30_1
   else
    bif (p1.Op==11) then
     bif (decide (p1.Column > 0)) then
      (DF p1.Column k30_1 p0).bind fun x47 =>
      BG p1 p0 x47
     else
      BG p1 p0 k30_1
    else
     bif (p1.Op==12) then
      bif (decide (p1.Column > 0)) then
       (DF p1.Column k30_1 p0).bind fun x47 =>
       BG p1 p0 x47
      else
       BG p1 p0 k30_1
     else
      bif (p1.Op==14) then
       bif (decide (p1.Column > 0)) then
        (DF p1.Column k30_1 p0).bind fun x47 =>
        BG p1 p0 x47
       else
        BG p1 p0 k30_1
      else
       bif (p1.Op==13) then
        (MO p0 p1.Column p1.Num).bind fun x61 =>
        (DL p0 p1.Column x61).bind fun x62 =>
        bif rm k30_1.length [({ Column:=p1.Column,Level:=x62 }:Ae)].length then
         BG p1 p0 (k30_1++[({ Column:=p1.Column,Level:=x62 }:Ae)])
        else none
       else
        BG p1 p0 k30_1
def Oa (p1:AD) (p0:Aa) (kont1_0:(Int→(List Ae)→Option (List Ae))) (rec1:((Int × (List Ae))→Option (List Ae))) (v15_1:Int) (b30_1:(List Ae)):Option (List Ae) :=
 bif (decide (v15_1 < ((p1.Dims.length:Nat):Int))) then
  (idx p1.Dims v15_1).bind fun x17 =>
  (DL p0 x17.Column x17.Level).bind fun x27 =>
  bif rm b30_1.length [({ Column:=x17.Column,Level:=x27 }:Ae)].length then
   rec1 ((IntKind.i64.wrap (v15_1 + 1)),(b30_1++[({ Column:=x17.Column,Level:=x27 }:Ae)]))
  else none
 else
  kont1_0 v15_1 b30_1
def N6 (p0:Aa) (p1:AD):Option (List Ae) :=
 iter (fun rec1 s=>Oa p1 p0 (fun v15_1 b30_1=>Lf p1 p0 b30_1) rec1 s.1 s.2) A8 (0,[])
def Gr (x16:(List Ae)) (kont2_2:(Int→Int→(List (Int × Int))→Option (List Ae))) (rec2:((Int × Int × (List (Int × Int)))→Option (List Ae))) (v4_2:Int) (v20_2:Int) (b11_2:(List (Int × Int))):Option (List Ae) :=
 bif (decide (v20_2 < ((x16.length:Nat):Int))) then
  (idx x16 v20_2).bind fun x22 =>
  rec2 ((if x22.Column > v4_2 then x22.Column else v4_2),(IntKind.i64.wrap (v20_2 + 1)),(US x22.Column (if x22.Level > ((Je x22.Column b11_2).getD 0) then x22.Level else ((Je x22.Column b11_2).getD 0)) b11_2))
 else
  kont2_2 v4_2 v20_2 b11_2
def G0 (v4_1:Int) (b11_1:(List (Int × Int))) (kont3_4:(Int→(List Ae)→Option (List Ae))) (rec3:((Int × (List Ae))→Option (List Ae))) (v42_3:Int) (b9_3:(List Ae)):Option (List Ae) :=
 bif (decide (v42_3 < (IntKind.i64.wrap (v4_1 + 1)))) then
  bif (decide (((Je v42_3 b11_1).getD 0) > 0)) then
   bif rm b9_3.length [({ Column:=v42_3,Level:=((Je v42_3 b11_1).getD 0) }:Ae)].length then
    rec3 ((IntKind.i64.wrap (v42_3 + 1)),(b9_3++[({ Column:=v42_3,Level:=((Je v42_3 b11_1).getD 0) }:Ae)]))
   else none
  else
   rec3 ((IntKind.i64.wrap (v42_3 + 1)),b9_3)
 else
  kont3_4 v42_3 b9_3
def Gk (p0:(List (List Ae))) (kont1_0:(Int→Int→(List (Int × Int))→Option (List Ae))) (rec1:((Int × Int × (List (Int × Int)))→Option (List Ae))) (v4_1:Int) (v14_1:Int) (b11_1:(List (Int × Int))):Option (List Ae) :=
 bif (decide (v14_1 < ((p0.length:Nat):Int))) then
  (idx p0 v14_1).bind fun x16 =>
  iter (fun rec2 s=>Gr x16 (fun v4_2 v20_2 b11_2=>rec1 (v4_2,(IntKind.i64.wrap (v14_1 + 1)),b11_2)) rec2 s.1 s.2.1 s.2.2) A8 (v4_1,0,b11_1)
 else
  kont1_0 v4_1 v14_1 b11_1
def GI (p0:(List (List Ae))):Option (List Ae) :=
 iter (fun rec1 s=>Gk p0 (fun v4_1 v14_1 b11_1=>iter (fun rec3 s=>G0 v4_1 b11_1 (fun v42_3 b9_3=>some b9_3) rec3 s.1 s.2) A8 (0,[])) rec1 s.1 s.2.1 s.2.2) A8 (0,0,[])
def LN (p1:AD) (self_types_needs:(Aa→AD→Option (List Ae))) (p0:Aa) (kont1_0:(Int→(List (List Ae))→Option (List Ae))) (rec1:((Int × (List (List Ae)))→Option (List Ae))) (v23_1:Int) (b19_1:(List (List Ae))):Option (List Ae) :=
 bif (decide (v23_1 < ((p1.Kids.length:Nat):Int))) then
  (idx p1.Kids v23_1).bind fun x25 =>
  (self_types_needs p0 x25).bind fun x30 =>
  bif rm b19_1.length [x30].length then
   rec1 ((IntKind.i64.wrap (v23_1 + 1)),(b19_1++[x30]))
  else none
 else
  kont1_0 v23_1 b19_1
def HU (d:Nat) (self_types_needs:(Aa→AD→Option (List Ae))) (p0:Aa) (p1:AD):Option (List Ae) :=
 (N6 p0 p1).bind fun x10 =>
 (CX d p0 p1.Cond).bind fun x14 =>
 (CX d p0 p1.Event).bind fun x18 =>
 iter (fun rec1 s=>LN p1 self_types_needs p0 (fun v23_1 b19_1=>(GI b19_1).bind fun x35=>some x35) rec1 s.1 s.2) A8 (0,[x10,x14,x18])
def IE:Nat→Aa→AD→Option (List Ae)
 | 0,_,_=>none
 | d + 1,p0,p1=>HU d (IE d) p0 p1
def IK (d:Nat) (p0:Aa) (p1:AD):Option (List Ae) :=
 (Dk p0).bind fun x6 =>
 bif (x6 != 0) then
  some []
 else
  (Eu d p0 p1).bind fun x11 =>
  bif (!x11) then
   some []
  else
   (IE d p0 p1).bind fun x16 =>
   some x16
def B6 (d:Nat) (self_condition_tell:(Af→(Af→Option Int)→Option Int)) (p0:Af) (p1:(Af→Option Int)):Option Int :=
 bif (p0.Op==1) then
  some 1
 else
  bif (p0.Op==5) then
   (idx p0.Kids 0).bind fun x13 =>
   (self_condition_tell x13 p1).bind fun x16 =>
   (idx p0.Kids 1).bind fun x19 =>
   (self_condition_tell x19 p1).bind fun x22 =>
   some (if x22 < x16 then x22 else x16)
  else
   bif (p0.Op==6) then
    (idx p0.Kids 0).bind fun x28 =>
    (self_condition_tell x28 p1).bind fun x31 =>
    (idx p0.Kids 1).bind fun x34 =>
    (self_condition_tell x34 p1).bind fun x37 =>
    some (if x37 > x31 then x37 else x31)
   else
    bif (p0.Op==7) then
     (idx p0.Kids 0).bind fun x43 =>
     (self_condition_tell x43 p1).bind fun x46 =>
     some (IntKind.i64.wrap (0 - x46))
    else
     (p1 p0).bind fun x50 =>
     some x50
def Bg:Nat→Af→(Af→Option Int)→Option Int
 | 0,_,_=>none
 | d + 1,p0,p1=>B6 d (Bg d) p0 p1
def Ca (p0:Af) (q0:Aa) (q1:(List Int)):Option Int :=
 (idx q1 p0.Column).bind fun x10 =>
 (B2 q0 p0 x10).bind fun x12 =>
 some x12
def G9 (d:Nat) (p0:Aa) (p1:Af) (p2:(List Int)):Option Int :=
 (Bg d p1 (fun a0=>Ca a0 p0 p2)).bind fun x9 =>
 some x9
def Fc (p2:(List Ae)) (p3:(List Int)) (p0:Aa) (kont2_2:(Int→(List Int)→Option Int)) (rec2:((Int × (List Int))→Option Int)) (v36_2:Int) (b18_2:(List Int)):Option Int :=
 bif (decide (v36_2 < ((p2.length:Nat):Int))) then
  (idx p2 v36_2).bind fun x39 =>
  (idx p3 v36_2).bind fun x49 =>
  (Bd p0 x39.Column x39.Level x49).bind fun x51 =>
  bif (!x51.2) then
   some 0
  else
   (idx b18_2 x39.Column).bind fun x60 =>
   rec2 ((IntKind.i64.wrap (v36_2 + 1)),(b18_2.set (x39.Column:Int).toNat x51.1))
 else
  kont2_2 v36_2 b18_2
def Fl (p2:(List Ae)) (p3:(List Int)) (p0:Aa) (d:Nat) (p1:Af) (k18_1:(List Int)):Option Int :=
 iter (fun rec2 s=>Fc p2 p3 p0 (fun v36_2 b18_2=>(G9 d p0 p1 b18_2).bind fun x65=>some x65) rec2 s.1 s.2) A8 (0,k18_1)
def Fi (p0:Aa) (kont1_0:(Int→(List Int)→Option Int)) (rec1:((Int × (List Int))→Option Int)) (v10_1:Int) (b18_1:(List Int)):Option Int :=
 bif (decide (v10_1 < ((b18_1.length:Nat):Int))) then
  (Bd p0 v10_1 0 0).bind fun x30 =>
  (idx b18_1 v10_1).bind fun x33 =>
  rec1 ((IntKind.i64.wrap (v10_1 + 1)),(b18_1.set (v10_1:Int).toNat x30.1))
 else
  kont1_0 v10_1 b18_1
def E5 (d:Nat) (p0:Aa) (p1:Af) (p2:(List Ae)) (p3:(List Int)):Option Int :=
 bif (decide (0≤((p0.Columns.length:Nat):Int)) && rm (((p0.Columns.length:Nat):Int):Int).toNat 0) then
  iter (fun rec1 s=>Fi p0 (fun v10_1 b18_1=>Fl p2 p3 p0 d p1 b18_1) rec1 s.1 s.2) A8 (1,(List.replicate (((p0.Columns.length:Nat):Int):Int).toNat 0))
 else none
def F4 (p1:Aw) (d:Nat) (p0:Aa) (p2:Af) (kont1_0:(Int→(List Int)→Option (List Int))) (rec1:((Int × (List Int))→Option (List Int))) (v26_1:Int) (b7_1:(List Int)):Option (List Int) :=
 bif (decide (v26_1 < ((p1.Rows.length:Nat):Int))) then
  (idx p1.Rows v26_1).bind fun x29 =>
  bif (decide (0≤(1:Int)∧1≤((x29.length:Nat):Int)∧((x29.length:Nat):Int)≤((x29.length:Nat):Int))) then
   (E5 d p0 p2 p1.Picks (O1 x29 1 ((x29.length:Nat):Int))).bind fun x37 =>
   bif (x37==1) then
    bif rm b7_1.length [v26_1].length then
     rec1 ((IntKind.i64.wrap (v26_1 + 1)),(b7_1++[v26_1]))
    else none
   else
    rec1 ((IntKind.i64.wrap (v26_1 + 1)),b7_1)
  else none
 else
  kont1_0 v26_1 b7_1
def F5 (p1:Aw) (d:Nat) (p0:Aa) (p2:Af):Option (List Int) :=
 iter (fun rec1 s=>F4 p1 d p0 p2 (fun v26_1 b7_1=>some b7_1) rec1 s.1 s.2) A8 (0,[])
def D7 (d:Nat) (p0:Aa) (p1:Aw) (p2:Af):Option (List Int) :=
 (B7 d p0 p2).bind fun x12 =>
 bif (x12 != 0) then
  some []
 else
  (CX d p0 p2).bind fun x19 =>
  (Ey p1.Picks x19).bind fun x20 =>
  bif (!x20) then
   some []
  else
   F5 p1 d p0 p2
def Hw (p0:Ae) (q0:Int):Option Bool :=
 some (p0.Column==q0)
def LL (x19:(List Int)) (p0:Am) (p1:Int) (p2:Int) (p3:Int) (kont1_0:(Int→Bool→Int→Option (Int × Bool))) (rec1:((Int × Bool × Int)→Option (Int × Bool))) (v10_1:Int) (v11_1:Bool) (v21_1:Int):Option (Int × Bool) :=
 bif (decide (v21_1 < ((x19.length:Nat):Int))) then
  (idx x19 v21_1).bind fun x23 =>
  (GD p0 x23 p1).bind fun x28 =>
  bif (x28 != p2) then
   rec1 (v10_1,v11_1,(IntKind.i64.wrap (v21_1 + 1)))
  else
   (GD p0 x23 p3).bind fun x34 =>
   bif (bif v11_1 then (x34 != v10_1) else false) then
    some (0,false)
   else
    rec1 (x34,true,(IntKind.i64.wrap (v21_1 + 1)))
 else
  kont1_0 v10_1 v11_1 v21_1
def KJ (p0:Am) (p1:Int) (p2:Int) (p3:Int):Option (Int × Bool) :=
 (EZ p0).bind fun x17 =>
 (K2 p0 (IntKind.i64.wrap (x17 - 1))).bind fun x19 =>
 iter (fun rec1 s=>LL x19 p0 p1 p2 p3 (fun v10_1 v11_1 v21_1=>some (v10_1,v11_1)) rec1 s.1 s.2.1 s.2.2) A8 (0,false,0)
def Cu (p0:Av) (p1:Int) (p2:Int) (p3:Int):Option (Int × Bool) :=
 bif (bif (decide (p1 > 0)) then (p2==(-1099511627776)) else false) then
  bif (p3==0) then
   some (0,p0.Optional)
  else
   some (p2,p0.Optional)
 else
  (IJ p0 p1 p2).bind fun x31 =>
  bif (!x31.2.2) then
   some (0,false)
  else
   bif (p3==0) then
    some (0,true)
   else
    bif (bif (p1==0) then p0.Optional else false) then
     some (0,false)
    else
     (Gn p0 p3).bind fun x50 =>
     (Ep x31.1 x50).bind fun x53 =>
     (Ep x31.1 x50).bind fun x56 =>
     (Ep x31.2.1 x50).bind fun x59 =>
     some (x53,(x56==x59))
def Fz (p0:Aa) (p1:Int) (p2:Int) (p3:Int) (p4:Int):Option (Int × Bool) :=
 (Fv p0 p1).bind fun x18 =>
 bif (bif (bif (bif (decide (p2 < 0)) then true else (decide (p2 > x18))) then true else (decide (p4 < 0))) then true else (decide (p4 > x18))) then
  some (0,false)
 else
  (idx p0.Columns p1).bind fun x38 =>
  bif (x38.Kind==2) then
   (idx p0.Lists x38.List_).bind fun x48 =>
   (KJ x48 p2 p3 p4).bind fun x53 =>
   bif (!x53.2) then
    some (0,false)
   else
    some (x53.1,true)
  else
   (Cu x38 p2 p3 p4).bind fun x61 =>
   bif (!x61.2) then
    some (0,false)
   else
    some (x61.1,true)
def DJ (p0:Aa) (p1:Aw) (p2:Int) (p3:Int) (p4:Int):Option (Int × Bool) :=
 (Bo p1.Picks (fun a0=>Hw a0 p3)).bind fun x16 =>
 bif (decide (x16 < 0)) then
  (Fz p0 p3 0 0 p4).bind fun x22 =>
  some (x22.1,x22.2)
 else
  (idx p1.Picks x16).bind fun x30 =>
  (idx p1.Rows p2).bind fun x36 =>
  (idx x36 (IntKind.i64.wrap (x16 + 1))).bind fun x40 =>
  (Fz p0 p3 x30.Level x40 p4).bind fun x43 =>
  some (x43.1,x43.2)
def Hx (p1:(List Int)) (p0:Aw) (kont1_0:(Int→(List Int)→Option (List Int))) (rec1:((Int × (List Int))→Option (List Int))) (v10_1:Int) (b5_1:(List Int)):Option (List Int) :=
 bif (decide (v10_1 < ((p1.length:Nat):Int))) then
  (idx p1 v10_1).bind fun x12 =>
  (idx p0.Rows x12).bind fun x18 =>
  (idx x18 0).bind fun x20 =>
  bif rm b5_1.length [x20].length then
   rec1 ((IntKind.i64.wrap (v10_1 + 1)),(b5_1++[x20]))
  else none
 else
  kont1_0 v10_1 b5_1
def HR (p0:Aw) (p1:(List Int)):Option (List Int) :=
 iter (fun rec1 s=>Hx p1 p0 (fun v10_1 b5_1=>some b5_1) rec1 s.1 s.2) A8 (0,[])
def D1 (p0:Int) (q0:Aa) (q1:Aw) (q2:Int):Option Bool :=
 (Er q0 p0).bind fun x15 =>
 (DJ q0 q1 q2 p0 x15).bind fun x16 =>
 some (bif (!x16.2) then true else (x16.1==(-1099511627776)))
def Gj (p0:Int) (q0:(List Int)) (q1:Aa) (q2:Aw):Option Bool :=
 (Cc q0 (fun a0=>D1 a0 q1 q2 p0)).bind fun x8 =>
 some x8
def ER (d:Nat) (p0:Aa) (p1:Aw) (p2:Af) (p3:(List Int)):Option (List Int) :=
 (Ex p0 p1).bind fun x11 =>
 bif (x11 != 0) then
  some []
 else
  (D7 d p0 p1 p2).bind fun x16 =>
  (Dh x16 (fun a0=>Gj a0 p3 p0 p1)).bind fun x18 =>
  some x18
def Gt (p2:(List Int)) (p0:Aa) (p3:Int) (p1:Aw) (kont1_0:(Int→(List Int)→Option (List Int))) (rec1:((Int × (List Int))→Option (List Int))) (v16_1:Int) (b9_1:(List Int)):Option (List Int) :=
 bif (decide (v16_1 < ((p2.length:Nat):Int))) then
  (idx p2 v16_1).bind fun x18 =>
  (Er p0 p3).bind fun x27 =>
  (DJ p0 p1 x18 p3 x27).bind fun x28 =>
  bif rm b9_1.length [x28.1].length then
   rec1 ((IntKind.i64.wrap (v16_1 + 1)),(b9_1++[x28.1]))
  else none
 else
  kont1_0 v16_1 b9_1
def GF (p0:Aa) (p1:Aw) (p2:(List Int)) (p3:Int):Option (List Int) :=
 iter (fun rec1 s=>Gt p2 p0 p3 p1 (fun v16_1 b9_1=>some b9_1) rec1 s.1 s.2) A8 (0,[])
def EO (p0:Aa) (p1:Aw) (x50:(List Int)) (p2:Int) (v60_1:Int) (b57_1:(List Bool)):Option ((List Be) × (List Int) × Int) :=
 (GF p0 p1 x50 p2).bind fun x77 =>
 (Kh x77 b57_1).bind fun x79 =>
 bif (x79.2 != 0) then
  some ([],[],x79.2)
 else
  (HR p1 x50).bind fun x88 =>
  some (x79.1,x88,0)
def Ee (x50:(List Int)) (x54:(List Int)) (kont1_1:(Int→(List Bool)→Option ((List Be) × (List Int) × Int))) (rec1:((Int × (List Bool))→Option ((List Be) × (List Int) × Int))) (v60_1:Int) (b57_1:(List Bool)):Option ((List Be) × (List Int) × Int) :=
 bif (decide (v60_1 < ((x50.length:Nat):Int))) then
  (idx x50 v60_1).bind fun x63 =>
  (BJ x54 x63).bind fun x69 =>
  (idx b57_1 v60_1).bind fun x70 =>
  rec1 ((IntKind.i64.wrap (v60_1 + 1)),(b57_1.set (v60_1:Int).toNat x69))
 else
  kont1_1 v60_1 b57_1
def C4 (d:Nat) (p0:Aa) (p1:Aw) (p2:Int) (p3:Af) (p4:Af):Option ((List Be) × (List Int) × Int) :=
 (Ex p0 p1).bind fun x24 =>
 bif (x24 != 0) then
  some ([],[],x24)
 else
  (Eu d p0 ({ Op:=12,Num:=0,Name:=ByteArray.empty,Column:=p2,Columns:=[],Dims:=[],Cond:=p4,Event:=p3,Kids:=[] }:AD)).bind fun x35 =>
  bif (!x35) then
   some ([],[],11)
  else
   (IK d p0 ({ Op:=12,Num:=0,Name:=ByteArray.empty,Column:=p2,Columns:=[],Dims:=[],Cond:=p4,Event:=p3,Kids:=[] }:AD)).bind fun x42 =>
   (Ey p1.Picks x42).bind fun x43 =>
   bif (!x43) then
    some ([],[],23)
   else
    (ER d p0 p1 p4 [p2]).bind fun x50 =>
    (D7 d p0 p1 p3).bind fun x54 =>
    bif (decide (0≤((x50.length:Nat):Int)) && rm (((x50.length:Nat):Int):Int).toNat 0) then
     iter (fun rec1 s=>Ee x50 x54 (EO p0 p1 x50 p2) rec1 s.1 s.2) A8 (0,(List.replicate (((x50.length:Nat):Int):Int).toNat false))
    else none
def Lj (p0:(List (List Int))) (p1:(List Int)) (kont1_0:(Bool→Int→(List (List Int))→Option (List (List Int)))) (rec1:((Bool × Int × (List (List Int)))→Option (List (List Int)))) (v6_1:Bool) (v7_1:Int) (b5_1:(List (List Int))):Option (List (List Int)) :=
 bif (decide (v7_1 < ((p0.length:Nat):Int))) then
  (idx p0 v7_1).bind fun x16 =>
  (idx x16 0).bind fun x18 =>
  (idx p1 0).bind fun x21 =>
  bif (x18==x21) then
   rec1 (v6_1,(IntKind.i64.wrap (v7_1 + 1)),b5_1)
  else
   (idx p0 v7_1).bind fun x26 =>
   (idx x26 0).bind fun x28 =>
   (idx p1 0).bind fun x31 =>
   bif (bif (decide (x28 > x31)) then (!v6_1) else false) then
    bif rm b5_1.length [p1].length then
     (idx p0 v7_1).bind fun x45 =>
     bif rm (b5_1++[p1]).length [x45].length then
      rec1 (true,(IntKind.i64.wrap (v7_1 + 1)),((b5_1++[p1])++[x45]))
     else none
    else none
   else
    (idx p0 v7_1).bind fun x45 =>
    bif rm b5_1.length [x45].length then
     rec1 (v6_1,(IntKind.i64.wrap (v7_1 + 1)),(b5_1++[x45]))
    else none
 else
  kont1_0 v6_1 v7_1 b5_1
def Lv (p0:(List (List Int))) (p1:(List Int)):Option (List (List Int)) :=
 iter (fun rec1 s=>Lj p0 p1 (fun v6_1 v7_1 b5_1=>bif (!v6_1) then   bif rm b5_1.length [p1].length then     some (b5_1++[p1])   else none else   some b5_1) rec1 s.1 s.2.1 s.2.2) A8 (false,0,[])
def OX (p0:Am) (kont1_0:(Int→Int→Option Int)) (rec1:((Int × Int)→Option Int)) (v1_1:Int) (v5_1:Int):Option Int :=
 (idx p0.Codes v1_1).bind fun x9 =>
 bif (decide (x9.Parent ≥ 0)) then
  (idx p0.Codes v1_1).bind fun x16 =>
  rec1 (x16.Parent,(IntKind.i64.wrap (v5_1 + 1)))
 else
  kont1_0 v1_1 v5_1
def Et (p0:Am) (p1:Int):Option Int :=
 iter (fun rec1 s=>OX p0 (fun v1_1 v5_1=>some v5_1) rec1 s.1 s.2) A8 (p1,0)
def M8 (p0:ByteArray):Option Bool :=
 bif (p0.toList==({ data:=#[97,108,108] }:ByteArray).toList) then
  some false
 else
  bif (p0.toList==({ data:=#[97,110,100] }:ByteArray).toList) then
   some false
  else
   bif (p0.toList==({ data:=#[101,118,101,110,116] }:ByteArray).toList) then
    some false
   else
    bif (p0.toList==({ data:=#[102,114,111,109] }:ByteArray).toList) then
     some false
    else
     bif (p0.toList==({ data:=#[109,105,115,115,105,110,103] }:ByteArray).toList) then
      some false
     else
      bif (p0.toList==({ data:=#[110,111,116] }:ByteArray).toList) then
       some false
      else
       bif (p0.toList==({ data:=#[111,110] }:ByteArray).toList) then
        some false
       else
        bif (p0.toList==({ data:=#[111,114] }:ByteArray).toList) then
         some false
        else
         bif (p0.toList==({ data:=#[116,111] }:ByteArray).toList) then
          some false
         else
          bif (p0.toList==({ data:=#[117,110,100,101,114] }:ByteArray).toList) then
           some false
          else
           bif (p0.toList==({ data:=#[119,104,101,114,101] }:ByteArray).toList) then
            some false
           else
            some true
def Qd (p0:ByteArray) (kont1_0:(Int→Option Bool)) (rec1:(Int→Option Bool)) (v3_1:Int):Option Bool :=
 bif (decide (v3_1 < ((p0.size:Nat):Int))) then
  bif (decide (0≤(v3_1:Int)∧(v3_1:Int).toNat < p0.size)) then
   bif (decide ((Fu p0 v3_1) ≥ 97)) then
    bif (decide (0≤(v3_1:Int)∧(v3_1:Int).toNat < p0.size)) then
     bif (decide ((Fu p0 v3_1)≤122)) then
      rec1 (IntKind.i64.wrap (v3_1 + 1))
     else
      bif (decide (0≤(v3_1:Int)∧(v3_1:Int).toNat < p0.size)) then
       bif (decide ((Fu p0 v3_1) ≥ 48)) then
        bif (decide (0≤(v3_1:Int)∧(v3_1:Int).toNat < p0.size)) then
         bif (decide ((Fu p0 v3_1)≤57)) then
          rec1 (IntKind.i64.wrap (v3_1 + 1))
         else
          bif (decide (0≤(v3_1:Int)∧(v3_1:Int).toNat < p0.size)) then
           bif (!((Fu p0 v3_1)==95)) then
            some false
           else
            rec1 (IntKind.i64.wrap (v3_1 + 1))
          else none
        else none
       else
        bif (decide (0≤(v3_1:Int)∧(v3_1:Int).toNat < p0.size)) then
         bif (!((Fu p0 v3_1)==95)) then
          some false
         else
          rec1 (IntKind.i64.wrap (v3_1 + 1))
        else none
      else none
    else none
   else
    bif (decide (0≤(v3_1:Int)∧(v3_1:Int).toNat < p0.size)) then
     bif (decide ((Fu p0 v3_1) ≥ 48)) then
      bif (decide (0≤(v3_1:Int)∧(v3_1:Int).toNat < p0.size)) then
       bif (decide ((Fu p0 v3_1)≤57)) then
        rec1 (IntKind.i64.wrap (v3_1 + 1))
       else
        bif (decide (0≤(v3_1:Int)∧(v3_1:Int).toNat < p0.size)) then
         bif (!((Fu p0 v3_1)==95)) then
          some false
         else
          rec1 (IntKind.i64.wrap (v3_1 + 1))
        else none
      else none
     else
      bif (decide (0≤(v3_1:Int)∧(v3_1:Int).toNat < p0.size)) then
       bif (!((Fu p0 v3_1)==95)) then
        some false
       else
        rec1 (IntKind.i64.wrap (v3_1 + 1))
      else none
    else none
  else none
 else
  kont1_0 v3_1
def MM (p0:ByteArray):Option Bool :=
 iter (fun rec1 s=>Qd p0 (fun v3_1=>M8 p0) rec1 s) A8 0
def BW (p0:ByteArray):Option Bool :=
 bif (bif (decide (((p0.size:Nat):Int) < 1)) then true else (decide (((p0.size:Nat):Int) > 16))) then
  some false
 else
  bif (decide (0≤(0:Int)∧(0:Int).toNat < p0.size)) then
   bif (decide ((Fu p0 0) < 97)) then
    some false
   else
    bif (decide (0≤(0:Int)∧(0:Int).toNat < p0.size)) then
     bif (decide ((Fu p0 0) > 122)) then
      some false
     else
      MM p0
    else none
  else none
def Q8 (p0:Am) (p1:Int) (kont1_0:(Int→Option Bool)) (rec1:(Int→Option Bool)) (v5_1:Int):Option Bool :=
 bif (decide (v5_1 < ((p0.Codes.length:Nat):Int))) then
  (idx p0.Codes v5_1).bind fun x16 =>
  bif (x16.Parent==p1) then
   some false
  else
   rec1 (IntKind.i64.wrap (v5_1 + 1))
 else
  kont1_0 v5_1
def Rb (p0:Am) (p1:Int):Option Bool :=
 iter (fun rec1 s=>Q8 p0 p1 (fun v5_1=>some true) rec1 s) A8 0
def OB (p0:Am) (kont3_4:(Int→Int→Option Int)) (rec3:((Int × Int)→Option Int)) (v6_3:Int) (v7_3:Int):Option Int :=
 bif (decide (v7_3 < ((p0.Codes.length:Nat):Int))) then
  (Rb p0 v7_3).bind fun x87 =>
  bif x87 then
   bif (decide (v6_3 ≥ 0)) then
    (Et p0 v7_3).bind fun x93 =>
    bif (x93 != v6_3) then
     some 5
    else
     (Et p0 v7_3).bind fun x99 =>
     rec3 (x99,(IntKind.i64.wrap (v7_3 + 1)))
   else
    (Et p0 v7_3).bind fun x99 =>
    rec3 (x99,(IntKind.i64.wrap (v7_3 + 1)))
  else
   rec3 (v6_3,(IntKind.i64.wrap (v7_3 + 1)))
 else
  kont3_4 v6_3 v7_3
def Lx (p0:Am):Option Int :=
 iter (fun rec3 s=>OB p0 (fun v6_3 v7_3=>some 0) rec3 s.1 s.2) A8 ((-1),0)
def Js (p0:Am) (v3_1:Int) (rec1:(Int→Option Int)) (v4_2:Int):Option Int :=
 (idx p0.Codes v3_1).bind fun x56 =>
 bif (bif (bif (v3_1==0) then (x56.Parent != (-1)) else false) then true else (bif (decide (v3_1 > 0)) then (bif (decide (x56.Parent < 0)) then true else (decide (x56.Parent ≥ v3_1))) else false)) then
  some 6
 else
  rec1 (IntKind.i64.wrap (v3_1 + 1))
def P7 (v3_1:Int) (p0:Am) (kont2_2:(Int→Option Int)) (rec2:(Int→Option Int)) (v4_2:Int):Option Int :=
 bif (decide (v4_2 < v3_1)) then
  (idx p0.Codes v4_2).bind fun x43 =>
  (idx p0.Codes v3_1).bind fun x49 =>
  bif (x43.Name.toList==x49.Name.toList) then
   some 10
  else
   rec2 (IntKind.i64.wrap (v4_2 + 1))
 else
  kont2_2 v4_2
def Pi (p0:Am) (kont1_0:(Int→Option Int)) (rec1:(Int→Option Int)) (v3_1:Int):Option Int :=
 bif (decide (v3_1 < ((p0.Codes.length:Nat):Int))) then
  (idx p0.Codes v3_1).bind fun x30 =>
  (BW x30.Name).bind fun x33 =>
  bif (!x33) then
   some 3
  else
   iter (fun rec2 s=>P7 v3_1 p0 (Js p0 v3_1 rec1) rec2 s) A8 0
 else
  kont1_0 v3_1
def Fh (p0:Am):Option Int :=
 (BW p0.Name).bind fun x10 =>
 bif (!x10) then
  some 3
 else
  bif (((p0.Codes.length:Nat):Int)==0) then
   some 5
  else
   bif (decide (((p0.Codes.length:Nat):Int) > 60)) then
    some 1
   else
    iter (fun rec1 s=>Pi p0 (fun v3_1=>Lx p0) rec1 s) A8 0
def EV (p0:Am):Option Int :=
 (Fh p0).bind fun x4 =>
 bif (x4 != 0) then
  some (-1)
 else
  (Et p0 (IntKind.i64.wrap (((p0.Codes.length:Nat):Int) - 1))).bind fun x11 =>
  some (IntKind.i64.wrap (x11 + 1))
def Tu (p0:Am) (p1:Int) (kont1_0:(Int→(List Int)→Option (List Int))) (rec1:((Int × (List Int))→Option (List Int))) (v6_1:Int) (b5_1:(List Int)):Option (List Int) :=
 bif (decide (v6_1 < ((p0.Codes.length:Nat):Int))) then
  (Et p0 v6_1).bind fun x19 =>
  bif (x19==p1) then
   bif rm b5_1.length [v6_1].length then
    rec1 ((IntKind.i64.wrap (v6_1 + 1)),(b5_1++[v6_1]))
   else none
  else
   rec1 ((IntKind.i64.wrap (v6_1 + 1)),b5_1)
 else
  kont1_0 v6_1 b5_1
def N2 (p0:Am) (p1:Int):Option (List Int) :=
 (Fh p0).bind fun x8 =>
 bif (x8 != 0) then
  some []
 else
  iter (fun rec1 s=>Tu p0 p1 (fun v6_1 b5_1=>some b5_1) rec1 s.1 s.2) A8 (0,[])
def Cl (p0:Aa) (p1:Int):Option (List Int) :=
 (idx p0.Columns p1).bind fun x11 =>
 (idx p0.Lists x11.List_).bind fun x14 =>
 (EV x14).bind fun x18 =>
 (N2 x14 (IntKind.i64.wrap (x18 - 1))).bind fun x20 =>
 some x20
def Dz (p0:Int) (p1:Int) (p2:Int):Option Bool :=
 some (bif (decide (p1≤p0)) then (decide (p0≤p2)) else false)
def Nr (p0:Av) (kont1_0:(Int→Option Int)) (rec1:(Int→Option Int)) (v3_1:Int):Option Int :=
 bif (decide (v3_1 < ((p0.Widths.length:Nat):Int))) then
  (idx p0.Widths v3_1).bind fun x42 =>
  bif (bif (v3_1==0) then (x42 != 1) else false) then
   some 2
  else
   bif (decide (v3_1 > 0)) then
    (idx p0.Widths (IntKind.i64.wrap (v3_1 - 1))).bind fun x59 =>
    bif (bif (decide (x42≤x59)) then true else (decide (x42 > 1000000))) then
     some 2
    else
     (idx p0.Widths (IntKind.i64.wrap (v3_1 - 1))).bind fun x72 =>
     bif (decide (x72≠0)) then
      bif ((Int.tmod x42 x72) != 0) then
       some 2
      else
       rec1 (IntKind.i64.wrap (v3_1 + 1))
     else none
   else
    rec1 (IntKind.i64.wrap (v3_1 + 1))
 else
  kont1_0 v3_1
def H7 (p0:Av):Option Int :=
 bif (bif (decide (((p0.Widths.length:Nat):Int) < 1)) then true else (decide (((p0.Widths.length:Nat):Int) > 4))) then
  some 1
 else
  iter (fun rec1 s=>Nr p0 (fun v3_1=>some 0) rec1 s) A8 0
def Ia (p0:Av):Option Int :=
 (Dz p0.Low (-1000000) 1000000).bind fun x7 =>
 bif (!x7) then
  some 2
 else
  (Dz p0.High (-1000000) 1000000).bind fun x12 =>
  bif (bif (!x12) then true else (decide (p0.Low > p0.High))) then
   some 2
  else
   H7 p0
def ES (x11:Av):Option Int :=
 bif (x11.Kind==3) then
  (Ia x11).bind fun x61 =>
  bif (x61 != 0) then
   some x61
  else
   bif (bif (bif (x11.Kind != 2) then (x11.List_ != 0) else false) then true else (bif (x11.Kind != 3) then (bif (bif (bif (x11.Low != 0) then true else (x11.High != 0)) then true else (decide (((x11.Widths.length:Nat):Int) > 0))) then true else x11.Optional) else false)) then
    some 11
   else
    some 0
 else
  bif (bif (bif (x11.Kind != 2) then (x11.List_ != 0) else false) then true else (bif (x11.Kind != 3) then (bif (bif (bif (x11.Low != 0) then true else (x11.High != 0)) then true else (decide (((x11.Widths.length:Nat):Int) > 0))) then true else x11.Optional) else false)) then
   some 11
  else
   some 0
def Ib (x11:Av) (p1:Int) (p0:Aa):Option Int :=
 (Dz x11.Kind 1 3).bind fun x33 =>
 bif (bif (!x33) then true else (bif (decide (p1 > 0)) then (x11.Kind==1) else false)) then
  some 4
 else
  bif (x11.Kind==2) then
   (Dz x11.List_ 0 (IntKind.i64.wrap (((p0.Lists.length:Nat):Int) - 1))).bind fun x54 =>
   bif (!x54) then
    some 5
   else
    ES x11
  else
   ES x11
def If (p1:Int) (p0:Aa) (x11:Av) (kont1_0:(Int→Option Int)) (rec1:(Int→Option Int)) (v6_1:Int):Option Int :=
 bif (decide (v6_1 < p1)) then
  (idx p0.Columns v6_1).bind fun x25 =>
  bif (x25.Name.toList==x11.Name.toList) then
   some 10
  else
   rec1 (IntKind.i64.wrap (v6_1 + 1))
 else
  kont1_0 v6_1
def Jf (p0:Aa) (p1:Int):Option Int :=
 (idx p0.Columns p1).bind fun x11 =>
 (BW x11.Name).bind fun x15 =>
 bif (!x15) then
  some 3
 else
  iter (fun rec1 s=>If p1 p0 x11 (fun v6_1=>Ib x11 p1 p0) rec1 s) A8 0
def IV (p0:Aa) (kont3_4:(Int→Option Int)) (rec3:(Int→Option Int)) (v6_3:Int):Option Int :=
 bif (decide (v6_3 < ((p0.Columns.length:Nat):Int))) then
  (Jf p0 v6_3).bind fun x73 =>
  bif (x73 != 0) then
   some x73
  else
   rec3 (IntKind.i64.wrap (v6_3 + 1))
 else
  kont3_4 v6_3
def IX (p0:Aa):Option Int :=
 bif (((p0.Columns.length:Nat):Int)==0) then
  some 7
 else
  (idx p0.Columns 0).bind fun x59 =>
  bif (x59.Kind != 1) then
   some 7
  else
   iter (fun rec3 s=>IV p0 (fun v6_3=>some 0) rec3 s) A8 0
def Ji (v3_1:Int) (p0:Aa) (kont2_2:(Int→Option Int)) (rec2:(Int→Option Int)) (v5_2:Int):Option Int :=
 bif (decide (v5_2 < v3_1)) then
  (idx p0.Lists v5_2).bind fun x42 =>
  (idx p0.Lists v3_1).bind fun x48 =>
  bif (x42.Name.toList==x48.Name.toList) then
   some 10
  else
   rec2 (IntKind.i64.wrap (v5_2 + 1))
 else
  kont2_2 v5_2
def Ju (p0:Aa) (kont1_0:(Int→Option Int)) (rec1:(Int→Option Int)) (v3_1:Int):Option Int :=
 bif (decide (v3_1 < ((p0.Lists.length:Nat):Int))) then
  (idx p0.Lists v3_1).bind fun x28 =>
  (Fh x28).bind fun x30 =>
  bif (x30 != 0) then
   some x30
  else
   iter (fun rec2 s=>Ji v3_1 p0 (fun v5_2=>rec1 (IntKind.i64.wrap (v3_1 + 1))) rec2 s) A8 0
 else
  kont1_0 v3_1
def CC (p0:Aa):Option Int :=
 bif (bif (decide (((p0.Lists.length:Nat):Int) > 6)) then true else (decide (((p0.Columns.length:Nat):Int) > 8))) then
  some 1
 else
  iter (fun rec1 s=>Ju p0 (fun v3_1=>IX p0) rec1 s) A8 0
def BB (p0:Aa) (p1:Int):Option Int :=
 (CC p0).bind fun x7 =>
 bif (bif (bif (x7 != 0) then true else (decide (p1 < 1))) then true else (decide (p1 ≥ ((p0.Columns.length:Nat):Int)))) then
  some (-1)
 else
  (idx p0.Columns p1).bind fun x23 =>
  bif (x23.Kind==2) then
   (idx p0.Lists x23.List_).bind fun x32 =>
   (EV x32).bind fun x34 =>
   some (IntKind.i64.wrap (x34 - 1))
  else
   some ((x23.Widths.length:Nat):Int)
def Hf (p0:Am) (p1:Int):Option Int :=
 (Fh p0).bind fun x6 =>
 bif (bif (bif (x6 != 0) then true else (decide (p1 < 0))) then true else (decide (p1 ≥ ((p0.Codes.length:Nat):Int)))) then
  some (-1)
 else
  (Et p0 p1).bind fun x21 =>
  some x21
def IR (p0:Aa) (p1:Int) (p2:Int):Option Bool :=
 (idx p0.Columns p1).bind fun x12 =>
 bif (x12.Kind==1) then
  (Dz p2 1 1048575).bind fun x19 =>
  some x19
 else
  bif (x12.Kind==2) then
   (idx p0.Lists x12.List_).bind fun x26 =>
   (Dz p2 0 (IntKind.i64.wrap (((x26.Codes.length:Nat):Int) - 1))).bind fun x33 =>
   bif x33 then
    (Hf x26 p2).bind fun x37 =>
    (EV x26).bind fun x39 =>
    some (x37==(IntKind.i64.wrap (x39 - 1)))
   else
    some false
  else
   bif (bif x12.Optional then (p2==(-1099511627776)) else false) then
    some true
   else
    (Dz p2 x12.Low x12.High).bind fun x55 =>
    some x55
def TC (p0:Am) (p2:Int) (kont1_0:(Int→Option Int)) (rec1:(Int→Option Int)) (v1_1:Int):Option Int :=
 (Et p0 v1_1).bind fun x34 =>
 bif (decide (x34 > p2)) then
  (idx p0.Codes v1_1).bind fun x40 =>
  rec1 x40.Parent
 else
  kont1_0 v1_1
def Jx (p0:Am) (p1:Int) (p2:Int):Option Int :=
 (Fh p0).bind fun x8 =>
 bif (bif (bif (bif (x8 != 0) then true else (decide (p1 < 0))) then true else (decide (p1 ≥ ((p0.Codes.length:Nat):Int)))) then true else (decide (p2 < 0))) then
  some (-1)
 else
  (Et p0 p1).bind fun x29 =>
  bif (decide (p2 > x29)) then
   some (-1)
  else
   iter (fun rec1 s=>TC p0 p2 (fun v1_1=>some v1_1) rec1 s) A8 p1
def CH (p0:Av) (p1:Int):Option Int :=
 (idx p0.Widths (IntKind.i64.wrap (((p0.Widths.length:Nat):Int) - p1))).bind fun x12 =>
 some x12
def Fb (p0:Int) (p1:Int):Option Int :=
 bif (decide (p1≠0)) then
  bif (decide (p1≠0)) then
   bif (decide ((Int.tmod p0 p1) < 0)) then
    some (IntKind.i64.wrap ((IntKind.i64.wrap (Int.tdiv p0 p1)) - 1))
   else
    some (IntKind.i64.wrap (Int.tdiv p0 p1))
  else none
 else none
def AP (p0:Aa) (p1:Int) (p2:Int) (p3:Int):Option Int :=
 (BB p0 p1).bind fun x14 =>
 (Dz p2 0 x14).bind fun x15 =>
 bif (!x15) then
  some (-1)
 else
  (idx p0.Columns p1).bind fun x20 =>
  bif (x20.Kind==2) then
   (IR p0 p1 p3).bind fun x28 =>
   bif (!x28) then
    some (-1)
   else
    (idx p0.Lists x20.List_).bind fun x34 =>
    (Jx x34 p3 p2).bind fun x38 =>
    some x38
  else
   bif (p3 != (-1099511627776)) then
    (Dz p3 (-1000000) 1000000).bind fun x43 =>
    bif (!x43) then
     some (-1)
    else
     bif (p2==0) then
      some 0
     else
      bif (p3==(-1099511627776)) then
       some p3
      else
       (CH x20 p2).bind fun x53 =>
       (Fb p3 x53).bind fun x56 =>
       some (IntKind.i64.wrap (x56 * x53))
   else
    bif (p2==0) then
     some 0
    else
     bif (p3==(-1099511627776)) then
      some p3
     else
      (CH x20 p2).bind fun x53 =>
      (Fb p3 x53).bind fun x56 =>
      some (IntKind.i64.wrap (x56 * x53))
def MF (p0:BC) (p1:Int) (kont1_0:(Int→Option Int)) (rec1:(Int→Option Int)) (v5_1:Int):Option Int :=
 bif (decide (v5_1 < ((p0.Rows.length:Nat):Int))) then
  (idx p0.Rows v5_1).bind fun x16 =>
  bif (decide (((x16.length:Nat):Int) > 0)) then
   (idx p0.Rows v5_1).bind fun x24 =>
   (idx x24 0).bind fun x26 =>
   bif (x26==p1) then
    some v5_1
   else
    rec1 (IntKind.i64.wrap (v5_1 + 1))
  else
   rec1 (IntKind.i64.wrap (v5_1 + 1))
 else
  kont1_0 v5_1
def I7 (p0:BC) (p1:Int):Option Int :=
 iter (fun rec1 s=>MF p0 p1 (fun v5_1=>some (-1)) rec1 s) A8 0
def Lh (p1:(List Int)) (p0:Aa) (kont1_0:(Int→Option Int)) (rec1:(Int→Option Int)) (v6_1:Int):Option Int :=
 bif (decide (v6_1 < ((p1.length:Nat):Int))) then
  (idx p1 v6_1).bind fun x28 =>
  (IR p0 v6_1 x28).bind fun x30 =>
  bif (!x30) then
   some 9
  else
   rec1 (IntKind.i64.wrap (v6_1 + 1))
 else
  kont1_0 v6_1
def Kd (p0:Aa) (p1:(List Int)):Option Int :=
 (CC p0).bind fun x8 =>
 bif (x8 != 0) then
  some x8
 else
  bif (((p1.length:Nat):Int) != ((p0.Columns.length:Nat):Int)) then
   some 9
  else
   iter (fun rec1 s=>Lh p1 p0 (fun v6_1=>some 0) rec1 s) A8 0
def LP (p0:BC) (kont2_2:(Int→Option Bool)) (rec2:(Int→Option Bool)) (v4_2:Int):Option Bool :=
 bif (decide (v4_2 < ((p0.Gone.length:Nat):Int))) then
  (idx p0.Gone v4_2).bind fun x79 =>
  bif (decide (x79 < 1)) then
   some false
  else
   (idx p0.Gone v4_2).bind fun x86 =>
   bif (decide (x86 > 1048575)) then
    some false
   else
    bif (decide (v4_2 > 0)) then
     (idx p0.Gone v4_2).bind fun x97 =>
     (idx p0.Gone (IntKind.i64.wrap (v4_2 - 1))).bind fun x103 =>
     bif (decide (x97≤x103)) then
      some false
     else
      (idx p0.Gone v4_2).bind fun x113 =>
      (I7 p0 x113).bind fun x115 =>
      bif (decide (x115 ≥ 0)) then
       some false
      else
       rec2 (IntKind.i64.wrap (v4_2 + 1))
    else
     (idx p0.Gone v4_2).bind fun x113 =>
     (I7 p0 x113).bind fun x115 =>
     bif (decide (x115 ≥ 0)) then
      some false
     else
      rec2 (IntKind.i64.wrap (v4_2 + 1))
 else
  kont2_2 v4_2
def Jz (p0:BC):Option Bool :=
 iter (fun rec2 s=>LP p0 (fun v4_2=>some true) rec2 s) A8 0
def J3 (p0:BC) (kont1_0:(Int→Option Bool)) (rec1:(Int→Option Bool)) (v3_1:Int):Option Bool :=
 bif (decide (v3_1 < ((p0.Rows.length:Nat):Int))) then
  (idx p0.Rows v3_1).bind fun x43 =>
  (Kd p0.Schema x43).bind fun x45 =>
  bif (x45 != 0) then
   some false
  else
   bif (decide (v3_1 > 0)) then
    (idx p0.Rows v3_1).bind fun x54 =>
    (idx x54 0).bind fun x56 =>
    (idx p0.Rows (IntKind.i64.wrap (v3_1 - 1))).bind fun x62 =>
    (idx x62 0).bind fun x64 =>
    bif (decide (x56≤x64)) then
     some false
    else
     rec1 (IntKind.i64.wrap (v3_1 + 1))
   else
    rec1 (IntKind.i64.wrap (v3_1 + 1))
 else
  kont1_0 v3_1
def IA (p0:BC):Option Bool :=
 (CC p0.Schema).bind fun x7 =>
 bif (bif (bif (bif (bif (x7 != 0) then true else (decide (((p0.Rows.length:Nat):Int) > 200))) then true else (decide (((p0.Gone.length:Nat):Int) > 300))) then true else (decide (p0.Version < 0))) then true else (decide (p0.Version > 300))) then
  some false
 else
  iter (fun rec1 s=>J3 p0 (fun v3_1=>Jz p0) rec1 s) A8 0
def Gv (p0:Aa) (p1:Ae):Option Int :=
 (CC p0).bind fun x7 =>
 bif (x7 != 0) then
  some x7
 else
  bif (bif (decide (p1.Column < 1)) then true else (decide (p1.Column ≥ ((p0.Columns.length:Nat):Int)))) then
   some 7
  else
   (BB p0 p1.Column).bind fun x27 =>
   (Dz p1.Level 0 x27).bind fun x28 =>
   bif (!x28) then
    some 8
   else
    some 0
def DV (p1:(List Ae)) (p0:Aa) (kont1_0:(Int→Option Int)) (rec1:(Int→Option Int)) (v6_1:Int):Option Int :=
 bif (decide (v6_1 < ((p1.length:Nat):Int))) then
  (idx p1 v6_1).bind fun x22 =>
  (Gv p0 x22).bind fun x24 =>
  bif (x24 != 0) then
   some x24
  else
   bif (decide (v6_1 > 0)) then
    (idx p1 v6_1).bind fun x33 =>
    (idx p1 (IntKind.i64.wrap (v6_1 - 1))).bind fun x39 =>
    bif (decide (x33.Column≤x39.Column)) then
     some 10
    else
     rec1 (IntKind.i64.wrap (v6_1 + 1))
   else
    rec1 (IntKind.i64.wrap (v6_1 + 1))
 else
  kont1_0 v6_1
def Dq (p0:Aa) (p1:(List Ae)):Option Int :=
 (CC p0).bind fun x9 =>
 bif (x9 != 0) then
  some x9
 else
  iter (fun rec1 s=>DV p1 p0 (fun v6_1=>some 0) rec1 s) A8 0
def Ht (p0:Af) (p1:Int) (self_ref05_count:(Af→Int→Option Int)) (kont1_0:(Int→Int→Option Int)) (rec1:((Int × Int)→Option Int)) (v5_1:Int) (v6_1:Int):Option Int :=
 bif (bif (decide (v6_1 < ((p0.Kids.length:Nat):Int))) then (decide (v5_1 < p1)) else false) then
  (idx p0.Kids v6_1).bind fun x23 =>
  (self_ref05_count x23 (IntKind.i64.wrap (p1 - v5_1))).bind fun x28 =>
  rec1 ((IntKind.i64.wrap (v5_1 + x28)),(IntKind.i64.wrap (v6_1 + 1)))
 else
  kont1_0 v5_1 v6_1
def Fw (d:Nat) (self_ref05_count:(Af→Int→Option Int)) (p0:Af) (p1:Int):Option Int :=
 iter (fun rec1 s=>Ht p0 p1 self_ref05_count (fun v5_1 v6_1=>some v5_1) rec1 s.1 s.2) A8 (1,0)
def FV:Nat→Af→Int→Option Int
 | 0,_,_=>none
 | d + 1,p0,p1=>Fw d (FV d) p0 p1
def Pk (p0:Af) (self_ref05_depth:(Af→Option Int)) (kont1_0:(Int→Int→Option Int)) (rec1:((Int × Int)→Option Int)) (v3_1:Int) (v4_1:Int):Option Int :=
 bif (decide (v4_1 < ((p0.Kids.length:Nat):Int))) then
  (idx p0.Kids v4_1).bind fun x16 =>
  (self_ref05_depth x16).bind fun x18 =>
  rec1 ((if x18 > v3_1 then x18 else v3_1),(IntKind.i64.wrap (v4_1 + 1)))
 else
  kont1_0 v3_1 v4_1
def Kv (d:Nat) (self_ref05_depth:(Af→Option Int)) (p0:Af):Option Int :=
 iter (fun rec1 s=>Pk p0 self_ref05_depth (fun v3_1 v4_1=>some (IntKind.i64.wrap (v3_1 + 1))) rec1 s.1 s.2) A8 (0,0)
def Th:Nat→Af→Option Int
 | 0,_=>none
 | d + 1,p0=>Kv d (Th d) p0
def F7 (p0:Aa) (p1:Int) (p2:Int):Option Bool :=
 bif (bif (decide (p1 ≥ 0)) then (decide (p1 < ((p0.Columns.length:Nat):Int))) else false) then
  (idx p0.Columns p1).bind fun x20 =>
  some (x20.Kind==p2)
 else
  some false
def Fp (p1:Af) (self_ref05_node:(Aa→Af→Option Int)) (p0:Aa) (kont1_1:(Int→Option Int)) (rec1:(Int→Option Int)) (v7_1:Int):Option Int :=
 bif (decide (v7_1 < ((p1.Kids.length:Nat):Int))) then
  (idx p1.Kids v7_1).bind fun x179 =>
  (self_ref05_node p0 x179).bind fun x181 =>
  bif (x181 != 0) then
   some x181
  else
   rec1 (IntKind.i64.wrap (v7_1 + 1))
 else
  kont1_1 v7_1
def BL (p1:Af) (self_ref05_node:(Aa→Af→Option Int)) (p0:Aa):Option Int :=
 bif (bif (p1.Op==3) then (bif (bif (decide (p1.Low < (-1000000))) then true else (decide (p1.High > 1000000))) then true else (decide (p1.Low > p1.High))) else false) then
  some 2
 else
  iter (fun rec1 s=>Fp p1 self_ref05_node p0 (fun v7_1=>some 0) rec1 s) A8 0
def Bv (p1:Af) (p0:Aa) (self_ref05_node:(Aa→Af→Option Int)):Option Int :=
 bif (p1.Op==2) then
  bif (decide (p1.Code < 0)) then
   some 6
  else
   (idx p0.Columns p1.Column).bind fun x138 =>
   (idx p0.Lists x138.List_).bind fun x141 =>
   bif (decide (p1.Code ≥ ((x141.Codes.length:Nat):Int))) then
    some 6
   else
    BL p1 self_ref05_node p0
 else
  BL p1 self_ref05_node p0
def AC (p1:Af) (p0:Aa) (self_ref05_node:(Aa→Af→Option Int)) (j5_1:Int) (k6_1_1:Int) (k6_2_1:Int) (k6_3_1:Int) (k6_4_1:Int):Option Int :=
 bif (bif (bif (bif (bif (((p1.Kids.length:Nat):Int) != j5_1) then true else (k6_1_1 != p1.Column)) then true else (k6_2_1 != p1.Code)) then true else (k6_3_1 != p1.Low)) then true else (k6_4_1 != p1.High)) then
  some 11
 else
  bif (p1.Op==2) then
   (F7 p0 p1.Column 2).bind fun x85 =>
   bif (!x85) then
    some 7
   else
    Bv p1 p0 self_ref05_node
  else
   bif (p1.Op==3) then
    (F7 p0 p1.Column 3).bind fun x96 =>
    bif (!x96) then
     some 7
    else
     Bv p1 p0 self_ref05_node
   else
    bif (p1.Op==4) then
     (F7 p0 p1.Column 3).bind fun x108 =>
     bif (!x108) then
      some 7
     else
      (idx p0.Columns p1.Column).bind fun x115 =>
      bif (!x115.Optional) then
       some 7
      else
       Bv p1 p0 self_ref05_node
    else
     Bv p1 p0 self_ref05_node
def CU (d:Nat) (self_ref05_node:(Aa→Af→Option Int)) (p0:Aa) (p1:Af):Option Int :=
 bif (p1.Op==1) then
  AC p1 p0 self_ref05_node 0 0 0 0 0
 else
  bif (p1.Op==2) then
   AC p1 p0 self_ref05_node 0 p1.Column p1.Code 0 0
  else
   bif (p1.Op==3) then
    AC p1 p0 self_ref05_node 0 p1.Column 0 p1.Low p1.High
   else
    bif (p1.Op==4) then
     AC p1 p0 self_ref05_node 0 p1.Column 0 0 0
    else
     bif (p1.Op==5) then
      AC p1 p0 self_ref05_node 2 0 0 0 0
     else
      bif (p1.Op==6) then
       AC p1 p0 self_ref05_node 2 0 0 0 0
      else
       bif (p1.Op==7) then
        AC p1 p0 self_ref05_node 1 0 0 0 0
       else
        some 4
def D3:Nat→Aa→Af→Option Int
 | 0,_,_=>none
 | d + 1,p0,p1=>CU d (D3 d) p0 p1
def B0 (d:Nat) (p0:Aa) (p1:Af):Option Int :=
 (CC p0).bind fun x7 =>
 bif (x7 != 0) then
  some x7
 else
  (FV d p1 41).bind fun x12 =>
  bif (decide (x12 > 40)) then
   some 1
  else
   (Th d p1).bind fun x15 =>
   bif (decide (x15 > 10)) then
    some 22
   else
    (D3 d p0 p1).bind fun x19 =>
    some x19
def Hr (p0:Aa) (p1:Int) (p2:Int):Option Bool :=
 bif (bif (decide (p1 ≥ 0)) then (decide (p1 < ((p0.Columns.length:Nat):Int))) else false) then
  (idx p0.Columns p1).bind fun x20 =>
  some (x20.Kind==p2)
 else
  some false
def HL (v5_1:Int) (p1:(List Ae)) (kont2_2:(Int→Option Int)) (rec2:(Int→Option Int)) (v7_2:Int):Option Int :=
 bif (decide (v7_2 < v5_1)) then
  (idx p1 v7_2).bind fun x46 =>
  (idx p1 v5_1).bind fun x51 =>
  bif (x46.Column==x51.Column) then
   some 10
  else
   rec2 (IntKind.i64.wrap (v7_2 + 1))
 else
  kont2_2 v7_2
def GP (p1:(List Ae)) (p0:Aa) (kont1_0:(Int→Option Int)) (rec1:(Int→Option Int)) (v5_1:Int):Option Int :=
 bif (decide (v5_1 < ((p1.length:Nat):Int))) then
  (idx p1 v5_1).bind fun x25 =>
  (Gv p0 x25).bind fun x27 =>
  bif (x27 != 0) then
   some x27
  else
   (idx p1 v5_1).bind fun x34 =>
   (Hr p0 x34.Column 2).bind fun x37 =>
   bif (!x37) then
    some 7
   else
    iter (fun rec2 s=>HL v5_1 p1 (fun v7_2=>rec1 (IntKind.i64.wrap (v5_1 + 1))) rec2 s) A8 0
 else
  kont1_0 v5_1
def Hp (p0:Aa) (p1:(List Ae)):Option Int :=
 bif (bif (decide (((p1.length:Nat):Int) < 1)) then true else (decide (((p1.length:Nat):Int) > 3))) then
  some 1
 else
  iter (fun rec1 s=>GP p1 p0 (fun v5_1=>some 0) rec1 s) A8 0
def KY (p0:(List Int)) (p1:Int) (kont1_0:(Int→Option Bool)) (rec1:(Int→Option Bool)) (v5_1:Int):Option Bool :=
 bif (decide (v5_1 < ((p0.length:Nat):Int))) then
  (idx p0 v5_1).bind fun x14 =>
  bif (x14==p1) then
   some true
  else
   rec1 (IntKind.i64.wrap (v5_1 + 1))
 else
  kont1_0 v5_1
def Kb (p0:(List Int)) (p1:Int):Option Bool :=
 iter (fun rec1 s=>KY p0 p1 (fun v5_1=>some false) rec1 s) A8 0
def IY (p2:(List Int)) (p0:Aa) (p1:Int) (kont1_0:(Int→Option Int)) (rec1:(Int→Option Int)) (v7_1:Int):Option Int :=
 bif (decide (v7_1 < ((p2.length:Nat):Int))) then
  (idx p2 v7_1).bind fun x25 =>
  (Hr p0 x25 3).bind fun x27 =>
  bif (!x27) then
   some 7
  else
   (idx p2 v7_1).bind fun x31 =>
   bif (x31==p1) then
    some 10
   else
    bif (decide (0≤(0:Int)∧0≤v7_1∧v7_1≤((p2.length:Nat):Int))) then
     (idx p2 v7_1).bind fun x41 =>
     (Kb (O1 p2 0 v7_1) x41).bind fun x43 =>
     bif x43 then
      some 10
     else
      rec1 (IntKind.i64.wrap (v7_1 + 1))
    else none
 else
  kont1_0 v7_1
def IN (p0:Aa) (p1:Int) (p2:(List Int)):Option Int :=
 bif (bif (decide (((p2.length:Nat):Int) < 1)) then true else (decide (((p2.length:Nat):Int) > 3))) then
  some 1
 else
  iter (fun rec1 s=>IY p2 p0 p1 (fun v7_1=>some 0) rec1 s) A8 0
def K0 (d:Nat) (p0:Aa) (p1:AG):Option Int :=
 (Hr p0 p1.Measure 3).bind fun x10 =>
 bif (p1.Kind==1) then
  (Hp p0 p1.Dims).bind fun x32 =>
  bif (x32 != 0) then
   some x32
  else
   bif (bif (p1.Measure != (-1)) then (!x10) else false) then
    some 7
   else
    some 0
 else
  bif (p1.Kind==2) then
   bif (!x10) then
    some 7
   else
    (IN p0 p1.Measure p1.Terms).bind fun x52 =>
    some x52
  else
   bif (!x10) then
    some 7
   else
    (idx p0.Columns p1.Measure).bind fun x19 =>
    bif (decide (x19.Low < 0)) then
     some 2
    else
     (B0 d p0 p1.Event).bind fun x26 =>
     some x26
def QB (p0:Af) (p1:Af) (self_ref05_Same:(Af→Af→Option Bool)) (kont1_0:(Int→Option Bool)) (rec1:(Int→Option Bool)) (v5_1:Int):Option Bool :=
 bif (decide (v5_1 < ((p0.Kids.length:Nat):Int))) then
  (idx p0.Kids v5_1).bind fun x58 =>
  (idx p1.Kids v5_1).bind fun x63 =>
  (self_ref05_Same x58 x63).bind fun x65 =>
  bif (!x65) then
   some false
  else
   rec1 (IntKind.i64.wrap (v5_1 + 1))
 else
  kont1_0 v5_1
def JB (d:Nat) (self_ref05_Same:(Af→Af→Option Bool)) (p0:Af) (p1:Af):Option Bool :=
 bif (bif (bif (bif (bif (bif (p0.Op != p1.Op) then true else (p0.Column != p1.Column)) then true else (p0.Code != p1.Code)) then true else (p0.Low != p1.Low)) then true else (p0.High != p1.High)) then true else (((p0.Kids.length:Nat):Int) != ((p1.Kids.length:Nat):Int))) then
  some false
 else
  iter (fun rec1 s=>QB p0 p1 self_ref05_Same (fun v5_1=>some true) rec1 s) A8 0
def JP:Nat→Af→Af→Option Bool
 | 0,_,_=>none
 | d + 1,p0,p1=>JB d (JP d) p0 p1
def L1 (d:Nat) (p0:Af):Option Bool :=
 (JP d p0 ({ Op:=0,Column:=0,Code:=0,Low:=0,High:=0,Kids:=[] }:Af)).bind fun x5 =>
 some x5
def Di (d:Nat) (p0:Aa) (p1:AG):Option Int :=
 (CC p0).bind fun x9 =>
 bif (x9 != 0) then
  some x9
 else
  (BW p1.Name).bind fun x15 =>
  bif (!x15) then
   some 3
  else
   bif (bif (decide (p1.Kind < 1)) then true else (decide (p1.Kind > 3))) then
    some 4
   else
    (B0 d p0 p1.Filter).bind fun x28 =>
    bif (x28 != 0) then
     some x28
    else
     (K0 d p0 p1).bind fun x34 =>
     bif (x34 != 0) then
      some x34
     else
      bif (bif (bif (p1.Kind != 1) then (decide (((p1.Dims.length:Nat):Int) > 0)) else false) then true else (bif (p1.Kind != 2) then (decide (((p1.Terms.length:Nat):Int) > 0)) else false)) then
       some 11
      else
       bif (p1.Kind != 3) then
        (L1 d p1.Event).bind fun x65 =>
        bif (!x65) then
         some 11
        else
         some 0
       else
        some 0
def Hk (v8_1:Int) (p1:Az) (kont2_2:(Int→Option Int)) (rec2:(Int→Option Int)) (v10_2:Int):Option Int :=
 bif (decide (v10_2 < v8_1)) then
  (idx p1.Questions v10_2).bind fun x100 =>
  (idx p1.Questions v8_1).bind fun x106 =>
  bif (x100.Name.toList==x106.Name.toList) then
   some 10
  else
   rec2 (IntKind.i64.wrap (v10_2 + 1))
 else
  kont2_2 v10_2
def F9 (p1:Az) (d:Nat) (p0:Aa) (kont1_0:(Int→Option Int)) (rec1:(Int→Option Int)) (v8_1:Int):Option Int :=
 bif (decide (v8_1 < ((p1.Questions.length:Nat):Int))) then
  (idx p1.Questions v8_1).bind fun x86 =>
  (Di d p0 x86).bind fun x88 =>
  bif (x88 != 0) then
   some x88
  else
   iter (fun rec2 s=>Hk v8_1 p1 (fun v10_2=>rec1 (IntKind.i64.wrap (v8_1 + 1))) rec2 s) A8 0
 else
  kont1_0 v8_1
def Hq (d:Nat) (p0:Aa) (p1:Az):Option Int :=
 (B0 d p0 p1.Cohort).bind fun x29 =>
 bif (x29 != 0) then
  some x29
 else
  bif (bif (bif (bif (bif (bif (decide (p1.Sample.Of < 1)) then true else (decide (p1.Sample.Of > 1000))) then true else (decide (p1.Sample.Part < 1))) then true else (decide (p1.Sample.Part > p1.Sample.Of))) then true else (decide (p1.Sample.Seed < 0))) then true else (decide (p1.Sample.Seed > 1099511627776))) then
   some 2
  else
   bif (bif (decide (((p1.Questions.length:Nat):Int) < 1)) then true else (decide (((p1.Questions.length:Nat):Int) > 8))) then
    some 1
   else
    iter (fun rec1 s=>F9 p1 d p0 (fun v8_1=>some 0) rec1 s) A8 0
def Fg (d:Nat) (p0:Aa) (p1:Az):Option Int :=
 (CC p0).bind fun x12 =>
 bif (x12 != 0) then
  some x12
 else
  (BW p1.Project).bind fun x18 =>
  bif (!x18) then
   some 3
  else
   (BW p1.Source).bind fun x23 =>
   bif (!x23) then
    some 3
   else
    Hq d p0 p1
def It (p1:(List Ae)) (p0:(List Ae)) (v5_1:Int) (kont2_2:(Bool→Int→Option Bool)) (rec2:((Bool × Int)→Option Bool)) (v6_2:Bool) (v7_2:Int):Option Bool :=
 bif (decide (v7_2 < ((p1.length:Nat):Int))) then
  bif v6_2 then
   rec2 (true,(IntKind.i64.wrap (v7_2 + 1)))
  else
   (idx p1 v7_2).bind fun x24 =>
   (idx p0 v5_1).bind fun x29 =>
   bif (x24.Column==x29.Column) then
    (idx p1 v7_2).bind fun x36 =>
    (idx p0 v5_1).bind fun x41 =>
    rec2 ((decide (x36.Level ≥ x41.Level)),(IntKind.i64.wrap (v7_2 + 1)))
   else
    rec2 (false,(IntKind.i64.wrap (v7_2 + 1)))
 else
  kont2_2 v6_2 v7_2
def Iq (p0:(List Ae)) (p1:(List Ae)) (kont1_0:(Int→Option Bool)) (rec1:(Int→Option Bool)) (v5_1:Int):Option Bool :=
 bif (decide (v5_1 < ((p0.length:Nat):Int))) then
  iter (fun rec2 s=>It p1 p0 v5_1 (fun v6_2 v7_2=>bif (!v6_2) then   some false else   rec1 (IntKind.i64.wrap (v5_1 + 1))) rec2 s.1 s.2) A8 (false,0)
 else
  kont1_0 v5_1
def Gz (p0:(List Ae)) (p1:(List Ae)):Option Bool :=
 iter (fun rec1 s=>Iq p0 p1 (fun v5_1=>some true) rec1 s) A8 0
def LQ (p1:Int) (p2:Int) (v8_1:Bool) (v9_1:Int) (b7_1:(List Ae)):Option (List Ae) :=
 bif (!v8_1) then
  bif rm b7_1.length [({ Column:=p1,Level:=p2 }:Ae)].length then
   some (b7_1++[({ Column:=p1,Level:=p2 }:Ae)])
  else none
 else
  some b7_1
def J2 (p0:(List Ae)) (p1:Int) (p2:Int) (kont1_0:(Bool→Int→(List Ae)→Option (List Ae))) (rec1:((Bool × Int × (List Ae))→Option (List Ae))) (v8_1:Bool) (v9_1:Int) (b7_1:(List Ae)):Option (List Ae) :=
 bif (decide (v9_1 < ((p0.length:Nat):Int))) then
  (idx p0 v9_1).bind fun x21 =>
  bif (bif (decide (x21.Column > p1)) then (!v8_1) else false) then
   bif rm b7_1.length [({ Column:=p1,Level:=p2 }:Ae)].length then
    bif (x21.Column==p1) then
     bif rm (b7_1++[({ Column:=p1,Level:=p2 }:Ae)]).length [({ Column:=x21.Column,Level:=(if p2 > x21.Level then p2 else x21.Level) }:Ae)].length then
      rec1 (true,(IntKind.i64.wrap (v9_1 + 1)),((b7_1++[({ Column:=p1,Level:=p2 }:Ae)])++[({ Column:=x21.Column,Level:=(if p2 > x21.Level then p2 else x21.Level) }:Ae)]))
     else none
    else
     bif rm (b7_1++[({ Column:=p1,Level:=p2 }:Ae)]).length [x21].length then
      rec1 (true,(IntKind.i64.wrap (v9_1 + 1)),((b7_1++[({ Column:=p1,Level:=p2 }:Ae)])++[x21]))
     else none
   else none
  else
   bif (x21.Column==p1) then
    bif rm b7_1.length [({ Column:=x21.Column,Level:=(if p2 > x21.Level then p2 else x21.Level) }:Ae)].length then
     rec1 (true,(IntKind.i64.wrap (v9_1 + 1)),(b7_1++[({ Column:=x21.Column,Level:=(if p2 > x21.Level then p2 else x21.Level) }:Ae)]))
    else none
   else
    bif rm b7_1.length [x21].length then
     rec1 (v8_1,(IntKind.i64.wrap (v9_1 + 1)),(b7_1++[x21]))
    else none
 else
  kont1_0 v8_1 v9_1 b7_1
def Cw (p0:(List Ae)) (p1:Int) (p2:Int):Option (List Ae) :=
 iter (fun rec1 s=>J2 p0 p1 p2 (LQ p1 p2) rec1 s.1 s.2.1 s.2.2) A8 ((decide (p2≤0)),0,[])
def IZ (p0:Af) (self_ref05_Atoms:(Af→Option (List Af))) (kont1_0:(Int→(List Af)→Option (List Af))) (rec1:((Int × (List Af))→Option (List Af))) (v4_1:Int) (b3_1:(List Af)):Option (List Af) :=
 bif (decide (v4_1 < ((p0.Kids.length:Nat):Int))) then
  (idx p0.Kids v4_1).bind fun x31 =>
  (self_ref05_Atoms x31).bind fun x33 =>
  bif rm b3_1.length x33.length then
   rec1 ((IntKind.i64.wrap (v4_1 + 1)),(b3_1++x33))
  else none
 else
  kont1_0 v4_1 b3_1
def HT (d:Nat) (self_ref05_Atoms:(Af→Option (List Af))) (p0:Af):Option (List Af) :=
 bif (bif (bif (p0.Op==2) then true else (p0.Op==3)) then true else (p0.Op==4)) then
  some [p0]
 else
  iter (fun rec1 s=>IZ p0 self_ref05_Atoms (fun v4_1 b3_1=>some b3_1) rec1 s.1 s.2) A8 (0,[])
def IP:Nat→Af→Option (List Af)
 | 0,_=>none
 | d + 1,p0=>HT d (IP d) p0
def KB (p0:Am) (p1:Int) (p2:Int):Option Bool :=
 (Hf p0 p2).bind fun x10 =>
 bif (decide (x10 ≥ 0)) then
  (Hf p0 p1).bind fun x16 =>
  bif (decide (x16 ≥ x10)) then
   (Jx p0 p1 x10).bind fun x24 =>
   some (x24==p2)
  else
   some false
 else
  some false
def Bu (p0:Aa) (p1:Af) (p2:Int):Option Int :=
 bif (p1.Op==2) then
  (idx p0.Columns p1.Column).bind fun x18 =>
  (idx p0.Lists x18.List_).bind fun x21 =>
  (KB x21 p2 p1.Code).bind fun x26 =>
  bif x26 then
   some 1
  else
   some (-1)
 else
  bif (p1.Op==3) then
   bif (p2==(-1099511627776)) then
    some 0
   else
    bif (bif (decide (p1.Low≤p2)) then (decide (p2≤p1.High)) else false) then
     some 1
    else
     some (-1)
  else
   bif (p1.Op==4) then
    bif (p2==(-1099511627776)) then
     some 1
    else
     some (-1)
   else
    some (-1)
def JZ (v9_1:Int) (x26:(List Int)) (p0:Aa) (p1:Af) (p2:Int) (kont2_2:(Int→Option Bool)) (rec2:(Int→Option Bool)) (v10_2:Int):Option Bool :=
 bif (decide (v10_2 < v9_1)) then
  (idx x26 v9_1).bind fun x44 =>
  (AP p0 p1.Column p2 x44).bind fun x46 =>
  (idx x26 v10_2).bind fun x53 =>
  (AP p0 p1.Column p2 x53).bind fun x55 =>
  bif (x46==x55) then
   (idx x26 v9_1).bind fun x62 =>
   (Bu p0 p1 x62).bind fun x64 =>
   (idx x26 v10_2).bind fun x69 =>
   (Bu p0 p1 x69).bind fun x71 =>
   bif (x64 != x71) then
    some false
   else
    rec2 (IntKind.i64.wrap (v10_2 + 1))
  else
   rec2 (IntKind.i64.wrap (v10_2 + 1))
 else
  kont2_2 v10_2
def JX (x26:(List Int)) (p0:Aa) (p1:Af) (p2:Int) (kont1_0:(Int→Option Bool)) (rec1:(Int→Option Bool)) (v9_1:Int):Option Bool :=
 bif (decide (v9_1 < ((x26.length:Nat):Int))) then
  iter (fun rec2 s=>JZ v9_1 x26 p0 p1 p2 (fun v10_2=>rec1 (IntKind.i64.wrap (v9_1 + 1))) rec2 s) A8 0
 else
  kont1_0 v9_1
def CO (p0:Aa) (p1:Af) (p2:Int):Option Bool :=
 (idx p0.Columns p1.Column).bind fun x18 =>
 bif (p1.Op==2) then
  (Cl p0 p1.Column).bind fun x26 =>
  iter (fun rec1 s=>JX x26 p0 p1 p2 (fun v9_1=>some true) rec1 s) A8 0
 else
  bif (p1.Op==4) then
   some (decide (p2 > 0))
  else
   bif (p2==0) then
    some (bif (bif (!x18.Optional) then (!(bif (decide (p1.Low > x18.Low)) then (decide (p1.Low≤x18.High)) else false)) else false) then (!(bif (decide (p1.High ≥ x18.Low)) then (decide (p1.High < x18.High)) else false)) else false)
   else
    (CH x18 p2).bind fun x118 =>
    bif (!(bif (decide (p1.Low > x18.Low)) then (decide (p1.Low≤x18.High)) else false)) then
     bif (!(bif (decide (p1.High ≥ x18.Low)) then (decide (p1.High < x18.High)) else false)) then
      some true
     else
      bif (decide (x118≠0)) then
       some ((Int.tmod (IntKind.i64.wrap (p1.High + 1)) x118)==0)
      else none
    else
     bif (decide (x118≠0)) then
      bif ((Int.tmod p1.Low x118)==0) then
       bif (!(bif (decide (p1.High ≥ x18.Low)) then (decide (p1.High < x18.High)) else false)) then
        some true
       else
        bif (decide (x118≠0)) then
         some ((Int.tmod (IntKind.i64.wrap (p1.High + 1)) x118)==0)
        else none
      else
       some false
     else none
def J7 (x14:(List Af)) (v7_1:Int) (v5_1:(List Ae)) (rec1:(((List Ae) × Int)→Option (List Ae))) (v8_2:Int):Option (List Ae) :=
 (idx x14 v7_1).bind fun x34 =>
 (Cw v5_1 x34.Column v8_2).bind fun x38 =>
 rec1 (x38,(IntKind.i64.wrap (v7_1 + 1)))
def Mi (x14:(List Af)) (v7_1:Int) (p0:Aa) (kont2_2:(Int→Option (List Ae))) (rec2:(Int→Option (List Ae))) (v8_2:Int):Option (List Ae) :=
 (idx x14 v7_1).bind fun x24 =>
 (CO p0 x24 v8_2).bind fun x27 =>
 bif (!x27) then
  rec2 (IntKind.i64.wrap (v8_2 + 1))
 else
  kont2_2 v8_2
def Jt (x14:(List Af)) (p0:Aa) (kont1_0:((List Ae)→Int→Option (List Ae))) (rec1:(((List Ae) × Int)→Option (List Ae))) (v5_1:(List Ae)) (v7_1:Int):Option (List Ae) :=
 bif (decide (v7_1 < ((x14.length:Nat):Int))) then
  iter (fun rec2 s=>Mi x14 v7_1 p0 (J7 x14 v7_1 v5_1 rec1) rec2 s) A8 0
 else
  kont1_0 v5_1 v7_1
def Ct (d:Nat) (p0:Aa) (p1:Af):Option (List Ae) :=
 (B0 d p0 p1).bind fun x11 =>
 bif (x11 != 0) then
  some []
 else
  (IP d p1).bind fun x14 =>
  iter (fun rec1 s=>Jt x14 p0 (fun v5_1 v7_1=>some v5_1) rec1 s.1 s.2) A8 ([],0)
def H1 (v11_1:Int) (x33:(List Int)) (p0:Aa) (p1:Int) (p3:Int) (p2:Int) (kont2_2:(Int→Option Bool)) (rec2:(Int→Option Bool)) (v12_2:Int):Option Bool :=
 bif (decide (v12_2 < v11_1)) then
  (idx x33 v11_1).bind fun x50 =>
  (AP p0 p1 p3 x50).bind fun x52 =>
  (idx x33 v12_2).bind fun x58 =>
  (AP p0 p1 p3 x58).bind fun x60 =>
  bif (x52 != x60) then
   (idx x33 v11_1).bind fun x68 =>
   (AP p0 p1 p2 x68).bind fun x70 =>
   (idx x33 v12_2).bind fun x76 =>
   (AP p0 p1 p2 x76).bind fun x78 =>
   bif (x70==x78) then
    some false
   else
    rec2 (IntKind.i64.wrap (v12_2 + 1))
  else
   rec2 (IntKind.i64.wrap (v12_2 + 1))
 else
  kont2_2 v12_2
def H8 (x33:(List Int)) (p0:Aa) (p1:Int) (p3:Int) (p2:Int) (kont1_0:(Int→Option Bool)) (rec1:(Int→Option Bool)) (v11_1:Int):Option Bool :=
 bif (decide (v11_1 < ((x33.length:Nat):Int))) then
  iter (fun rec2 s=>H1 v11_1 x33 p0 p1 p3 p2 (fun v12_2=>rec1 (IntKind.i64.wrap (v11_1 + 1))) rec2 s) A8 0
 else
  kont1_0 v11_1
def JN (x19:Av) (p2:Int) (x83:Int) (kont3_4:(Int→Int→Option Bool)) (rec3:((Int × Int)→Option Bool)) (v14_3:Int) (v15_3:Int):Option Bool :=
 bif (bif (decide (v15_3 < 2)) then (decide (v14_3≤x19.High)) else false) then
  (CH x19 p2).bind fun x115 =>
  bif (decide (x115≠0)) then
   bif ((Int.tmod v14_3 x115) != 0) then
    some false
   else
    rec3 ((IntKind.i64.wrap (v14_3 + x83)),(IntKind.i64.wrap (v15_3 + 1)))
  else none
 else
  kont3_4 v14_3 v15_3
def DG (p0:Aa) (p1:Int) (p2:Int) (p3:Int):Option Bool :=
 (idx p0.Columns p1).bind fun x19 =>
 bif (bif (p3==0) then true else (decide (p2 ≥ p3))) then
  some true
 else
  bif (x19.Kind==2) then
   (Cl p0 p1).bind fun x33 =>
   iter (fun rec1 s=>H8 x33 p0 p1 p3 p2 (fun v11_1=>some true) rec1 s) A8 0
  else
   (CH x19 p3).bind fun x83 =>
   (Fb x19.Low x83).bind fun x87 =>
   bif (p2==0) then
    some (bif (!x19.Optional) then (decide ((IntKind.i64.wrap ((IntKind.i64.wrap (x87 + 1)) * x83)) > x19.High)) else false)
   else
    iter (fun rec3 s=>JN x19 p2 x83 (fun v14_3 v15_3=>some true) rec3 s.1 s.2) A8 ((IntKind.i64.wrap ((IntKind.i64.wrap (x87 + 1)) * x83)),0)
def FO (p0:Aa) (p1:Int) (p2:Int) (kont1_0:(Int→Option Int)) (rec1:(Int→Option Int)) (v7_1:Int):Option Int :=
 (DG p0 p1 v7_1 p2).bind fun x18 =>
 bif (!x18) then
  rec1 (IntKind.i64.wrap (v7_1 + 1))
 else
  kont1_0 v7_1
def Cp (p0:Aa) (p1:Int) (p2:Int):Option Int :=
 (BB p0 p1).bind fun x11 =>
 (Dz p2 0 x11).bind fun x12 =>
 bif (!x12) then
  some (-1)
 else
  iter (fun rec1 s=>FO p0 p1 p2 (fun v7_1=>some v7_1) rec1 s) A8 0
def L8 (p0:AG) (p1:Int):Option Bool :=
 bif (p0.Measure==p1) then
  some true
 else
  (Kb p0.Terms p1).bind fun x13 =>
  some x13
def FH (p0:Aa) (p1:AG) (kont3_4:((List Ae)→Int→Option (List Ae))) (rec3:(((List Ae) × Int)→Option (List Ae))) (v5_3:(List Ae)) (v9_3:Int):Option (List Ae) :=
 bif (decide (v9_3 < ((p0.Columns.length:Nat):Int))) then
  (L8 p1 v9_3).bind fun x81 =>
  bif x81 then
   (BB p0 v9_3).bind fun x88 =>
   (Cp p0 v9_3 x88).bind fun x89 =>
   (Cw v5_3 v9_3 x89).bind fun x90 =>
   rec3 (x90,(IntKind.i64.wrap (v9_3 + 1)))
  else
   rec3 (v5_3,(IntKind.i64.wrap (v9_3 + 1)))
 else
  kont3_4 v5_3 v9_3
def FJ (p1:AG) (p0:Aa) (kont2_2:((List Ae)→Int→Option (List Ae))) (rec2:(((List Ae) × Int)→Option (List Ae))) (v5_2:(List Ae)) (v8_2:Int):Option (List Ae) :=
 bif (decide (v8_2 < ((p1.Dims.length:Nat):Int))) then
  (idx p1.Dims v8_2).bind fun x54 =>
  (idx p1.Dims v8_2).bind fun x61 =>
  (idx p1.Dims v8_2).bind fun x67 =>
  (Cp p0 x61.Column x67.Level).bind fun x70 =>
  (Cw v5_2 x54.Column x70).bind fun x71 =>
  rec2 (x71,(IntKind.i64.wrap (v8_2 + 1)))
 else
  kont2_2 v5_2 v8_2
def Ez (p1:AG) (p0:Aa) (j5_1:(List Ae)):Option (List Ae) :=
 iter (fun rec2 s=>FJ p1 p0 (fun v5_2 v8_2=>iter (fun rec3 s=>FH p0 p1 (fun v5_3 v9_3=>some v5_3) rec3 s.1 s.2) A8 (v5_2,1)) rec2 s.1 s.2) A8 (j5_1,0)
def Ja (x24:(List Ae)) (kont1_0:((List Ae)→Int→Option (List Ae))) (rec1:(((List Ae) × Int)→Option (List Ae))) (v5_1:(List Ae)) (v7_1:Int):Option (List Ae) :=
 bif (decide (v7_1 < ((x24.length:Nat):Int))) then
  (idx x24 v7_1).bind fun x34 =>
  (idx x24 v7_1).bind fun x39 =>
  (Cw v5_1 x34.Column x39.Level).bind fun x42 =>
  rec1 (x42,(IntKind.i64.wrap (v7_1 + 1)))
 else
  kont1_0 v5_1 v7_1
def FP (d:Nat) (p0:Aa) (p1:AG):Option (List Ae) :=
 (Di d p0 p1).bind fun x12 =>
 bif (x12 != 0) then
  some []
 else
  (Ct d p0 p1.Filter).bind fun x17 =>
  bif (p1.Kind==3) then
   (Ct d p0 p1.Event).bind fun x24 =>
   iter (fun rec1 s=>Ja x24 (fun v5_1 v7_1=>Ez p1 p0 v5_1) rec1 s.1 s.2) A8 (x17,0)
  else
   Ez p1 p0 x17
def HW (d:Nat) (p0:Aa) (p1:AG) (p2:(List Ae)):Option Bool :=
 (Di d p0 p1).bind fun x9 =>
 bif (x9==0) then
  (Dq p0 p2).bind fun x14 =>
  bif (x14==0) then
   (FP d p0 p1).bind fun x20 =>
   (Gz x20 p2).bind fun x22 =>
   some x22
  else
   some false
 else
  some false
def FN (p1:Az) (d:Nat) (p0:Aa) (p2:(List Ae)) (kont1_0:(Int→Option Int)) (rec1:(Int→Option Int)) (v9_1:Int):Option Int :=
 bif (decide (v9_1 < ((p1.Questions.length:Nat):Int))) then
  (idx p1.Questions v9_1).bind fun x33 =>
  (HW d p0 x33 p2).bind fun x36 =>
  bif (!x36) then
   some 23
  else
   rec1 (IntKind.i64.wrap (v9_1 + 1))
 else
  kont1_0 v9_1
def Hu (d:Nat) (p0:Aa) (p1:Az) (p2:(List Ae)):Option Int :=
 (Fg d p0 p1).bind fun x12 =>
 bif (x12 != 0) then
  some x12
 else
  (Dq p0 p2).bind fun x18 =>
  bif (x18 != 0) then
   some x18
  else
   iter (fun rec1 s=>FN p1 d p0 p2 (fun v9_1=>some 0) rec1 s) A8 0
def Gs (p0:Int) (p1:(List Int)):Option Int :=
 bif (p0==7) then
  (idx p1 0).bind fun x9 =>
  some (IntKind.i64.wrap (0 - x9))
 else
  bif (p0==5) then
   (idx p1 0).bind fun x15 =>
   (idx p1 1).bind fun x18 =>
   some (if x18 < x15 then x18 else x15)
  else
   bif (p0==6) then
    (idx p1 0).bind fun x24 =>
    (idx p1 1).bind fun x27 =>
    some (if x27 > x24 then x27 else x24)
   else
    some 1
def Kn (p1:Af) (self_ref05_eval:(Aa→Af→(List Int)→Option Int)) (p0:Aa) (p2:(List Int)) (kont1_0:(Int→(List Int)→Option Int)) (rec1:((Int × (List Int))→Option Int)) (v8_1:Int) (b7_1:(List Int)):Option Int :=
 bif (decide (v8_1 < ((p1.Kids.length:Nat):Int))) then
  (idx p1.Kids v8_1).bind fun x42 =>
  (self_ref05_eval p0 x42 p2).bind fun x45 =>
  bif rm b7_1.length [x45].length then
   rec1 ((IntKind.i64.wrap (v8_1 + 1)),(b7_1++[x45]))
  else none
 else
  kont1_0 v8_1 b7_1
def Jm (d:Nat) (self_ref05_eval:(Aa→Af→(List Int)→Option Int)) (p0:Aa) (p1:Af) (p2:(List Int)):Option Int :=
 bif (bif (bif (p1.Op==2) then true else (p1.Op==3)) then true else (p1.Op==4)) then
  (idx p2 p1.Column).bind fun x27 =>
  (Bu p0 p1 x27).bind fun x29 =>
  some x29
 else
  iter (fun rec1 s=>Kn p1 self_ref05_eval p0 p2 (fun v8_1 b7_1=>(Gs p1.Op b7_1).bind fun x51=>some x51) rec1 s.1 s.2) A8 (0,[])
def JV:Nat→Aa→Af→(List Int)→Option Int
 | 0,_,_,_=>none
 | d + 1,p0,p1,p2=>Jm d (JV d) p0 p1 p2
def I3 (d:Nat) (p0:Aa) (p1:Af) (p2:(List Int)):Option Int :=
 (B0 d p0 p1).bind fun x9 =>
 bif (x9 != 0) then
  some 0
 else
  (Kd p0 p2).bind fun x14 =>
  bif (x14 != 0) then
   some 0
  else
   (JV d p0 p1 p2).bind fun x20 =>
   some x20
def K8 (p0:H4):Option Int :=
 bif (bif (bif (bif (bif (bif (decide (p0.Of < 1)) then true else (decide (p0.Of > 1000))) then true else (decide (p0.Part < 1))) then true else (decide (p0.Part > p0.Of))) then true else (decide (p0.Seed < 0))) then true else (decide (p0.Seed > 1099511627776))) then
  some 2
 else
  some 0
def Qf (kont1_0:(Int→Int→Option Int)) (rec1:((Int × Int)→Option Int)) (v5_1:Int) (v6_1:Int):Option Int :=
 bif (decide (v6_1 < 3)) then
  rec1 ((IntKind.u64.wrap (((BitVec.ofInt IntKind.u64.bits (IntKind.u64.wrap ((IntKind.u64.wrap (v5_1 * 6364136223846793005)) + 1442695040888963407)) ^^^ BitVec.ofInt IntKind.u64.bits (Int.fdiv (IntKind.u64.wrap ((IntKind.u64.wrap (v5_1 * 6364136223846793005)) + 1442695040888963407)) (2 ^ (min (29:Int).toNat IntKind.u64.bits)))).toNat:Nat):Int)),(IntKind.i64.wrap (v6_1 + 1)))
 else
  kont1_0 v5_1 v6_1
def Md (p0:Int) (p1:Int):Option Int :=
 iter (fun rec1 s=>Qf (fun v5_1 v6_1=>some (IntKind.i64.wrap (Int.fdiv v5_1 (2 ^ (min (32:Int).toNat IntKind.u64.bits))))) rec1 s.1 s.2) A8 ((IntKind.u64.wrap ((IntKind.u64.wrap ((IntKind.u64.wrap ((IntKind.u64.wrap p0) * 2654435761)) + (IntKind.u64.wrap ((IntKind.u64.wrap p1) * 40503)))) + 97)),0)
def LE (p0:H4) (p1:Int):Option Bool :=
 (K8 p0).bind fun x6 =>
 bif (bif (bif (x6==0) then (decide (p1 ≥ 1)) else false) then (decide (p1≤1048575)) else false) then
  (Md p0.Seed p1).bind fun x20 =>
  bif (decide (p0.Of≠0)) then
   some (decide ((Int.tmod x20 p0.Of) < p0.Part))
  else none
 else
  some false
def EN (p0:BC) (d:Nat) (p1:Az) (kont1_0:(Int→(List Int)→Option (List Int))) (rec1:((Int × (List Int))→Option (List Int))) (v6_1:Int) (b5_1:(List Int)):Option (List Int) :=
 bif (decide (v6_1 < ((p0.Rows.length:Nat):Int))) then
  (idx p0.Rows v6_1).bind fun x31 =>
  (I3 d p0.Schema p1.Cohort x31).bind fun x33 =>
  bif (x33==1) then
   (idx p0.Rows v6_1).bind fun x41 =>
   (idx x41 0).bind fun x43 =>
   (LE p1.Sample x43).bind fun x45 =>
   bif x45 then
    (idx p0.Rows v6_1).bind fun x51 =>
    (idx x51 0).bind fun x53 =>
    bif rm b5_1.length [x53].length then
     rec1 ((IntKind.i64.wrap (v6_1 + 1)),(b5_1++[x53]))
    else none
   else
    rec1 ((IntKind.i64.wrap (v6_1 + 1)),b5_1)
  else
   rec1 ((IntKind.i64.wrap (v6_1 + 1)),b5_1)
 else
  kont1_0 v6_1 b5_1
def G3 (p0:BC) (d:Nat) (p1:Az):Option (List Int) :=
 iter (fun rec1 s=>EN p0 d p1 (fun v6_1 b5_1=>some b5_1) rec1 s.1 s.2) A8 (0,[])
def Gw (d:Nat) (p0:BC) (p1:Az):Option (List Int) :=
 (IA p0).bind fun x8 =>
 bif (!x8) then
  some []
 else
  (Fg d p0.Schema p1).bind fun x14 =>
  bif (x14 != 0) then
   some []
  else
   G3 p0 d p1
def Mv (p0:Int) (p1:Int):Option Bool :=
 some (bif (bif (bif (decide (p0 ≥ 0)) then (decide (p0 < 1152921504606846976)) else false) then (decide (p1 ≥ 0)) else false) then (decide (p1 < 1048576)) else false)
def J4 (kont1_0:(Int→Int→Option Int)) (rec1:((Int × Int)→Option Int)) (v7_1:Int) (v8_1:Int):Option Int :=
 bif (decide (v8_1 < 3)) then
  rec1 ((IntKind.u64.wrap ((IntKind.u64.wrap (((BitVec.ofInt IntKind.u64.bits v7_1 ^^^ BitVec.ofInt IntKind.u64.bits (Int.fdiv v7_1 (2 ^ (min (31:Int).toNat IntKind.u64.bits)))).toNat:Nat):Int)) * 13787848793156543929)),(IntKind.i64.wrap (v8_1 + 1)))
 else
  kont1_0 v7_1 v8_1
def K6 (p0:Int) (p1:Int) (p2:Int):Option Int :=
 bif (bif (bif (bif (bif (bif (decide (p0 < 0)) then true else (decide (p0 ≥ 1152921504606846976))) then true else (decide (p1 < 0))) then true else (decide (p1 > 7))) then true else (decide (p2 < 0))) then true else (decide (p2 > 1023))) then
  some 0
 else
  iter (fun rec1 s=>J4 (fun v7_1 v8_1=>some (IntKind.i64.wrap (Int.fdiv v7_1 (2 ^ (min (54:Int).toNat IntKind.u64.bits))))) rec1 s.1 s.2) A8 ((IntKind.u64.wrap ((IntKind.u64.wrap ((IntKind.u64.wrap p0) + (IntKind.u64.wrap ((IntKind.u64.wrap p1) * 11400714819323198485)))) + (IntKind.u64.wrap ((IntKind.u64.wrap p2) * 14029467366897019727)))),0)
def Lb (p0:Int) (kont1_0:(Int→Int→Int→Option Int)) (rec1:((Int × Int × Int)→Option Int)) (v5_1:Int) (v6_1:Int) (v7_1:Int):Option Int :=
 bif (decide (v7_1≤7)) then
  (K6 p0 v7_1 v6_1).bind fun x25 =>
  rec1 (v6_1,(IntKind.i64.wrap (((BitVec.ofInt IntKind.i64.bits v5_1 ^^^ BitVec.ofInt IntKind.i64.bits x25).toNat:Nat):Int)),(IntKind.i64.wrap (v7_1 + 1)))
 else
  kont1_0 v5_1 v6_1 v7_1
def NB (p0:Int) (p1:Int):Option Int :=
 (Mv p0 p1).bind fun x10 =>
 bif (!x10) then
  some (-1)
 else
  iter (fun rec1 s=>Lb p0 (fun v5_1 v6_1 v7_1=>some (IntKind.i64.wrap ((IntKind.i64.wrap (v5_1 * 1024)) + v6_1))) rec1 s.1 s.2.1 s.2.2) A8 ((IntKind.i64.wrap (Int.tdiv p1 1024)),(Int.tmod p1 1024),0)
def FL (p2:(List Ae)) (x61:(List Int)) (p0:BC) (kont2_2:(Int→(List Int)→Option (Aw × Int))) (rec2:((Int × (List Int))→Option (Aw × Int))) (v16_2:Int) (b69_2:(List Int)):Option (Aw × Int) :=
 bif (decide (v16_2 < ((p2.length:Nat):Int))) then
  (idx p2 v16_2).bind fun x81 =>
  (idx p2 v16_2).bind fun x86 =>
  (idx p2 v16_2).bind fun x92 =>
  (idx x61 x92.Column).bind fun x95 =>
  (AP p0.Schema x81.Column x86.Level x95).bind fun x97 =>
  bif rm b69_2.length [x97].length then
   rec2 ((IntKind.i64.wrap (v16_2 + 1)),(b69_2++[x97]))
  else none
 else
  kont2_2 v16_2 b69_2
def FC (x46:(List Int)) (p0:BC) (p3:Int) (p2:(List Ae)) (kont1_0:(Int→(List (List Int))→Option (Aw × Int))) (rec1:((Int × (List (List Int)))→Option (Aw × Int))) (v13_1:Int) (c11_3_1:(List (List Int))):Option (Aw × Int) :=
 bif (decide (v13_1 < ((x46.length:Nat):Int))) then
  (idx x46 v13_1).bind fun x58 =>
  (I7 p0 x58).bind fun x60 =>
  (idx p0.Rows x60).bind fun x61 =>
  (idx x46 v13_1).bind fun x66 =>
  (NB p3 x66).bind fun x68 =>
  iter (fun rec2 s=>FL p2 x61 p0 (fun v16_2 b69_2=>(Lv c11_3_1 b69_2).bind fun x103=>rec1 ((IntKind.i64.wrap (v13_1 + 1)),x103)) rec2 s.1 s.2) A8 (0,[x68])
 else
  kont1_0 v13_1 c11_3_1
def EX (d:Nat) (p0:BC) (p1:Az) (p2:(List Ae)) (p3:Int):Option (Aw × Int) :=
 (IA p0).bind fun x18 =>
 bif (!x18) then
  some (({ Project:=ByteArray.empty,Version:=0,Picks:=[],Rows:=[] }:Aw),13)
 else
  (Hu d p0.Schema p1 p2).bind fun x25 =>
  bif (x25 != 0) then
   some (({ Project:=ByteArray.empty,Version:=0,Picks:=[],Rows:=[] }:Aw),x25)
  else
   bif (bif (decide (p3 < 0)) then true else (decide (p3 ≥ 1152921504606846976))) then
    some (({ Project:=ByteArray.empty,Version:=0,Picks:=[],Rows:=[] }:Aw),2)
   else
    bif rm 0 p2.length then
     (Gw d p0 p1).bind fun x46 =>
     iter (fun rec1 s=>FC x46 p0 p3 p2 (fun v13_1 c11_3_1=>some (({ Project:=p1.Project,Version:=p0.Version,Picks:=p2,Rows:=c11_3_1 }:Aw),0)) rec1 s.1 s.2) A8 (0,[])
    else none
def Kg (p0:(List Int)) (p1:(List Int)) (kont1_0:(Int→Option Bool)) (rec1:(Int→Option Bool)) (v5_1:Int):Option Bool :=
 bif (decide (v5_1 < ((p0.length:Nat):Int))) then
  (idx p0 v5_1).bind fun x19 =>
  (idx p1 v5_1).bind fun x23 =>
  bif (x19 != x23) then
   some false
  else
   rec1 (IntKind.i64.wrap (v5_1 + 1))
 else
  kont1_0 v5_1
def LG (p0:(List Int)) (p1:(List Int)):Option Bool :=
 bif (((p0.length:Nat):Int) != ((p1.length:Nat):Int)) then
  some false
 else
  iter (fun rec1 s=>Kg p0 p1 (fun v5_1=>some true) rec1 s) A8 0
def Ql (p1:(List Int)) (p0:Aw) (kont1_0:(Int→(List Int)→Option (List Int))) (rec1:((Int × (List Int))→Option (List Int))) (v6_1:Int) (b5_1:(List Int)):Option (List Int) :=
 bif (decide (v6_1 < ((p1.length:Nat):Int))) then
  (idx p1 v6_1).bind fun x18 =>
  (idx p0.Rows x18).bind fun x20 =>
  (idx x20 0).bind fun x22 =>
  bif rm b5_1.length [x22].length then
   rec1 ((IntKind.i64.wrap (v6_1 + 1)),(b5_1++[x22]))
  else none
 else
  kont1_0 v6_1 b5_1
def NC (p0:Aw) (p1:(List Int)):Option (List Int) :=
 iter (fun rec1 s=>Ql p1 p0 (fun v6_1 b5_1=>some b5_1) rec1 s.1 s.2) A8 (0,[])
def Hl (p2:Int) (p0:Av) (x22:Int):Option (Int × Int × Bool) :=
 some ((if p2 > p0.Low then p2 else p0.Low),(if (IntKind.i64.wrap ((IntKind.i64.wrap (p2 + x22)) - 1)) < p0.High then (IntKind.i64.wrap ((IntKind.i64.wrap (p2 + x22)) - 1)) else p0.High),(decide ((if p2 > p0.Low then p2 else p0.Low)≤(if (IntKind.i64.wrap ((IntKind.i64.wrap (p2 + x22)) - 1)) < p0.High then (IntKind.i64.wrap ((IntKind.i64.wrap (p2 + x22)) - 1)) else p0.High))))
def FQ (p0:Av) (p1:Int) (p2:Int):Option (Int × Int × Bool) :=
 bif (p1==0) then
  some (p0.Low,p0.High,(p2==0))
 else
  (CH p0 p1).bind fun x22 =>
  bif (p2==(-1099511627776)) then
   some (0,0,false)
  else
   (Dz p2 (-2000000) 2000000).bind fun x27 =>
   bif (!x27) then
    some (0,0,false)
   else
    bif (decide (x22≠0)) then
     bif ((Int.tmod p2 x22) != 0) then
      some (0,0,false)
     else
      Hl p2 p0 x22
    else none
def NW (x31:(List Int)) (p0:Aa) (p1:Int) (p2:Int) (p3:Int) (kont1_0:(Int→Option Bool)) (rec1:(Int→Option Bool)) (v11_1:Int):Option Bool :=
 bif (decide (v11_1 < ((x31.length:Nat):Int))) then
  (idx x31 v11_1).bind fun x43 =>
  (AP p0 p1 p2 x43).bind fun x45 =>
  bif (x45==p3) then
   some true
  else
   rec1 (IntKind.i64.wrap (v11_1 + 1))
 else
  kont1_0 v11_1
def FK (p0:Aa) (p1:Int) (p2:Int) (p3:Int):Option Bool :=
 (BB p0 p1).bind fun x18 =>
 (Dz p2 0 x18).bind fun x19 =>
 bif (!x19) then
  some false
 else
  (idx p0.Columns p1).bind fun x24 =>
  bif (x24.Kind==2) then
   (Cl p0 p1).bind fun x31 =>
   iter (fun rec1 s=>NW x31 p0 p1 p2 p3 (fun v11_1=>some false) rec1 s) A8 0
  else
   bif (bif (decide (p2 > 0)) then (p3==(-1099511627776)) else false) then
    some x24.Optional
   else
    (FQ x24 p2 p3).bind fun x60 =>
    some x60.2.2
def Jq (v7_1:Int) (x48:(List Int)) (p1:Aw) (rec1:(Int→Option Int)) (v9_2:Int):Option Int :=
 bif (decide (v7_1 > 0)) then
  (idx x48 0).bind fun x100 =>
  (idx p1.Rows (IntKind.i64.wrap (v7_1 - 1))).bind fun x106 =>
  (idx x106 0).bind fun x108 =>
  bif (decide (x100≤x108)) then
   some 10
  else
   rec1 (IntKind.i64.wrap (v7_1 + 1))
 else
  rec1 (IntKind.i64.wrap (v7_1 + 1))
def Jp (p1:Aw) (x48:(List Int)) (p0:Aa) (kont2_2:(Int→Option Int)) (rec2:(Int→Option Int)) (v9_2:Int):Option Int :=
 bif (decide (v9_2 < ((p1.Picks.length:Nat):Int))) then
  (idx p1.Picks v9_2).bind fun x80 =>
  (idx p1.Picks v9_2).bind fun x86 =>
  (idx x48 (IntKind.i64.wrap (v9_2 + 1))).bind fun x92 =>
  (FK p0 x80.Column x86.Level x92).bind fun x94 =>
  bif (!x94) then
   some 9
  else
   rec2 (IntKind.i64.wrap (v9_2 + 1))
 else
  kont2_2 v9_2
def Jh (p1:Aw) (x48:(List Int)) (p0:Aa) (v7_1:Int) (rec1:(Int→Option Int)):Option Int :=
 iter (fun rec2 s=>Jp p1 x48 p0 (Jq v7_1 x48 p1 rec1) rec2 s) A8 0
def Jv (p1:Aw) (p0:Aa) (kont1_0:(Int→Option Int)) (rec1:(Int→Option Int)) (v7_1:Int):Option Int :=
 bif (decide (v7_1 < ((p1.Rows.length:Nat):Int))) then
  (idx p1.Rows v7_1).bind fun x48 =>
  bif (((x48.length:Nat):Int) != (IntKind.i64.wrap (((p1.Picks.length:Nat):Int) + 1))) then
   some 9
  else
   (idx x48 0).bind fun x59 =>
   bif (decide (x59 < 0)) then
    some 9
   else
    (idx x48 0).bind fun x65 =>
    bif (decide (x65 > 1048575)) then
     some 9
    else
     Jh p1 x48 p0 v7_1 rec1
 else
  kont1_0 v7_1
def FR (p0:Aa) (p1:Aw):Option Int :=
 (CC p0).bind fun x11 =>
 bif (x11 != 0) then
  some x11
 else
  (BW p1.Project).bind fun x17 =>
  bif (!x17) then
   some 3
  else
   bif (bif (decide (p1.Version < 0)) then true else (decide (p1.Version > 300))) then
    some 13
   else
    (Dq p0 p1.Picks).bind fun x30 =>
    bif (x30 != 0) then
     some x30
    else
     bif (decide (((p1.Rows.length:Nat):Int) > 200)) then
      some 1
     else
      iter (fun rec1 s=>Jv p1 p0 (fun v7_1=>some 0) rec1 s) A8 0
def MD (x25:(List Int)) (p0:Aa) (p1:Int) (p2:Int) (p3:Int) (kont1_0:(Int→Option Int)) (rec1:(Int→Option Int)) (v11_1:Int):Option Int :=
 bif (decide (v11_1 < ((x25.length:Nat):Int))) then
  (idx x25 v11_1).bind fun x37 =>
  (AP p0 p1 p2 x37).bind fun x39 =>
  bif (x39==p3) then
   (idx x25 v11_1).bind fun x44 =>
   some x44
  else
   rec1 (IntKind.i64.wrap (v11_1 + 1))
 else
  kont1_0 v11_1
def Da (p0:Aa) (p1:Int) (p2:Int) (p3:Int):Option Int :=
 (idx p0.Columns p1).bind fun x18 =>
 bif (x18.Kind==2) then
  (Cl p0 p1).bind fun x25 =>
  iter (fun rec1 s=>MD x25 p0 p1 p2 p3 (fun v11_1=>some (-1)) rec1 s) A8 0
 else
  bif (bif (decide (p2 > 0)) then (p3==(-1099511627776)) else false) then
   some p3
  else
   (FQ x18 p2 p3).bind fun x57 =>
   some x57.1
def GH (p2:(List Ae)) (p1:Af) (p3:(List Int)) (kont1_0:(Int→Int→Int→Option Int)) (rec1:((Int × Int × Int)→Option Int)) (v9_1:Int) (v10_1:Int) (v11_1:Int):Option Int :=
 bif (decide (v11_1 < ((p2.length:Nat):Int))) then
  (idx p2 v11_1).bind fun x35 =>
  bif (x35.Column==p1.Column) then
   (idx p2 v11_1).bind fun x43 =>
   (idx p3 v11_1).bind fun x48 =>
   rec1 (x43.Level,x48,(IntKind.i64.wrap (v11_1 + 1)))
  else
   rec1 (v9_1,v10_1,(IntKind.i64.wrap (v11_1 + 1)))
 else
  kont1_0 v9_1 v10_1 v11_1
def GK (p1:Af) (self_ref05_coarse:(Aa→Af→(List Ae)→(List Int)→Option Int)) (p0:Aa) (p2:(List Ae)) (p3:(List Int)) (kont2_2:(Int→(List Int)→Option Int)) (rec2:((Int × (List Int))→Option Int)) (v13_2:Int) (b12_2:(List Int)):Option Int :=
 bif (decide (v13_2 < ((p1.Kids.length:Nat):Int))) then
  (idx p1.Kids v13_2).bind fun x71 =>
  (self_ref05_coarse p0 x71 p2 p3).bind fun x75 =>
  bif rm b12_2.length [x75].length then
   rec2 ((IntKind.i64.wrap (v13_2 + 1)),(b12_2++[x75]))
  else none
 else
  kont2_2 v13_2 b12_2
def Cq (d:Nat) (self_ref05_coarse:(Aa→Af→(List Ae)→(List Int)→Option Int)) (p0:Aa) (p1:Af) (p2:(List Ae)) (p3:(List Int)):Option Int :=
 bif (bif (bif (p1.Op==2) then true else (p1.Op==3)) then true else (p1.Op==4)) then
  iter (fun rec1 s=>GH p2 p1 p3 (fun v9_1 v10_1 v11_1=>(Da p0 p1.Column v9_1 v10_1).bind fun x57=>(Bu p0 p1 x57).bind fun x58=>some x58) rec1 s.1 s.2.1 s.2.2) A8 (0,0,0)
 else
  iter (fun rec2 s=>GK p1 self_ref05_coarse p0 p2 p3 (fun v13_2 b12_2=>(Gs p1.Op b12_2).bind fun x81=>some x81) rec2 s.1 s.2) A8 (0,[])
def BQ:Nat→Aa→Af→(List Ae)→(List Int)→Option Int
 | 0,_,_,_,_=>none
 | d + 1,p0,p1,p2,p3=>Cq d (BQ d) p0 p1 p2 p3
def Il (p2:(List Ae)) (p3:(List Int)) (p0:Aa) (kont1_0:(Int→Option Int)) (rec1:(Int→Option Int)) (v9_1:Int):Option Int :=
 bif (decide (v9_1 < ((p2.length:Nat):Int))) then
  (idx p2 v9_1).bind fun x44 =>
  (idx p2 v9_1).bind fun x49 =>
  (idx p3 v9_1).bind fun x54 =>
  (FK p0 x44.Column x49.Level x54).bind fun x56 =>
  bif (!x56) then
   some 0
  else
   rec1 (IntKind.i64.wrap (v9_1 + 1))
 else
  kont1_0 v9_1
def Ii (p2:(List Ae)) (p3:(List Int)) (p0:Aa) (d:Nat) (p1:Af):Option Int :=
 iter (fun rec1 s=>Il p2 p3 p0 (fun v9_1=>(BQ d p0 p1 p2 p3).bind fun x62=>some x62) rec1 s) A8 0
def Gc (d:Nat) (p0:Aa) (p1:Af) (p2:(List Ae)) (p3:(List Int)):Option Int :=
 (B0 d p0 p1).bind fun x12 =>
 bif (x12 != 0) then
  some 0
 else
  (Dq p0 p2).bind fun x17 =>
  bif (bif (x17 != 0) then true else (((p3.length:Nat):Int) != ((p2.length:Nat):Int))) then
   some 0
  else
   (Ct d p0 p1).bind fun x30 =>
   (Gz x30 p2).bind fun x32 =>
   bif (!x32) then
    some 0
   else
    Ii p2 p3 p0 d p1
def Qj (x46:(List Int)) (p0:Aa) (p1:Int) (p2:Int) (p3:Int) (p4:Int) (kont1_0:(Int→Int→Option (Int × Bool))) (rec1:((Int × Int)→Option (Int × Bool))) (v14_1:Int) (v15_1:Int):Option (Int × Bool) :=
 bif (decide (v15_1 < ((x46.length:Nat):Int))) then
  (idx x46 v15_1).bind fun x58 =>
  (AP p0 p1 p2 x58).bind fun x60 =>
  bif (x60 != p3) then
   rec1 (v14_1,(IntKind.i64.wrap (v15_1 + 1)))
  else
   (idx x46 v15_1).bind fun x68 =>
   (AP p0 p1 p4 x68).bind fun x70 =>
   bif (bif (decide (v14_1 ≥ 0)) then (x70 != v14_1) else false) then
    some (0,false)
   else
    rec1 (x70,(IntKind.i64.wrap (v15_1 + 1)))
 else
  kont1_0 v14_1 v15_1
def Kr (p0:Aa) (p1:Int) (p2:Int) (p3:Int) (p4:Int):Option (Int × Bool) :=
 (idx p0.Columns p1).bind fun x39 =>
 bif (x39.Kind==2) then
  (Cl p0 p1).bind fun x46 =>
  iter (fun rec1 s=>Qj x46 p0 p1 p2 p3 p4 (fun v14_1 v15_1=>some (v14_1,true)) rec1 s.1 s.2) A8 ((-1),0)
 else
  bif (p4==0) then
   some (0,true)
  else
   bif (bif (decide (p2 > 0)) then (p3==(-1099511627776)) else false) then
    some ((-1099511627776),true)
   else
    bif (bif (p2==0) then x39.Optional else false) then
     some (0,false)
    else
     (FQ x39 p2 p3).bind fun x98 =>
     (AP p0 p1 p4 x98.1).bind fun x106 =>
     (AP p0 p1 p4 x98.2.1).bind fun x111 =>
     bif (x106 != x111) then
      some (0,false)
     else
      some (x106,true)
def JK (p0:Aa) (p1:Int) (p2:Int) (p3:Int) (p4:Int):Option (Int × Bool) :=
 (FK p0 p1 p2 p3).bind fun x26 =>
 bif (!x26) then
  some (0,false)
 else
  (BB p0 p1).bind fun x32 =>
  (Dz p4 0 x32).bind fun x33 =>
  bif (!x33) then
   some (0,false)
  else
   Kr p0 p1 p2 p3 p4
def Hj (p1:Aw) (p3:Int) (p2:Int) (p0:Aa) (p4:Int) (kont1_0:(Int→Option (Int × Bool))) (rec1:(Int→Option (Int × Bool))) (v12_1:Int):Option (Int × Bool) :=
 bif (decide (v12_1 < ((p1.Picks.length:Nat):Int))) then
  (idx p1.Picks v12_1).bind fun x43 =>
  bif (x43.Column==p3) then
   (idx p1.Picks v12_1).bind fun x53 =>
   (idx p1.Rows p2).bind fun x59 =>
   (idx x59 (IntKind.i64.wrap (v12_1 + 1))).bind fun x63 =>
   (JK p0 p3 x53.Level x63 p4).bind fun x66 =>
   some (x66.1,x66.2)
  else
   rec1 (IntKind.i64.wrap (v12_1 + 1))
 else
  kont1_0 v12_1
def FU (p0:Aa) (p1:Aw) (p2:Int) (p3:Int) (p4:Int):Option (Int × Bool) :=
 bif (bif (bif (bif (decide (p2 < 0)) then true else (decide (p2 ≥ ((p1.Rows.length:Nat):Int)))) then true else (decide (p3 < 1))) then true else (decide (p3 ≥ ((p0.Columns.length:Nat):Int)))) then
  some (0,false)
 else
  iter (fun rec1 s=>Hj p1 p3 p2 p0 p4 (fun v12_1=>(JK p0 p3 0 0 p4).bind fun x72=>some (x72.1,x72.2)) rec1 s) A8 0
def G7 (b9_1:(List Int)) (v10_1:Int) (rec1:((Int × (List Int))→Option (List Int))) (v11_2:Bool) (v12_2:Int):Option (List Int) :=
 bif v11_2 then
  bif rm b9_1.length [v10_1].length then
   rec1 ((IntKind.i64.wrap (v10_1 + 1)),(b9_1++[v10_1]))
  else none
 else
  rec1 ((IntKind.i64.wrap (v10_1 + 1)),b9_1)
def Ih (p3:(List Int)) (p0:Aa) (p1:Aw) (v10_1:Int) (kont2_2:(Bool→Int→Option (List Int))) (rec2:((Bool × Int)→Option (List Int))) (v11_2:Bool) (v12_2:Int):Option (List Int) :=
 bif (bif (decide (v12_2 < ((p3.length:Nat):Int))) then v11_2 else false) then
  (idx p3 v12_2).bind fun x53 =>
  (idx p3 v12_2).bind fun x58 =>
  (BB p0 x58).bind fun x60 =>
  (FU p0 p1 v10_1 x53 x60).bind fun x61 =>
  rec2 ((bif x61.2 then (x61.1 != (-1099511627776)) else false),(IntKind.i64.wrap (v12_2 + 1)))
 else
  kont2_2 v11_2 v12_2
def Is (p1:Aw) (d:Nat) (p0:Aa) (p2:Af) (p3:(List Int)) (kont1_0:(Int→(List Int)→Option (List Int))) (rec1:((Int × (List Int))→Option (List Int))) (v10_1:Int) (b9_1:(List Int)):Option (List Int) :=
 bif (decide (v10_1 < ((p1.Rows.length:Nat):Int))) then
  (idx p1.Rows v10_1).bind fun x33 =>
  bif (decide (0≤(1:Int)∧1≤((x33.length:Nat):Int)∧((x33.length:Nat):Int)≤((x33.length:Nat):Int))) then
   (Gc d p0 p2 p1.Picks (O1 x33 1 ((x33.length:Nat):Int))).bind fun x36 =>
   iter (fun rec2 s=>Ih p3 p0 p1 v10_1 (G7 b9_1 v10_1 rec1) rec2 s.1 s.2) A8 ((x36==1),0)
  else none
 else
  kont1_0 v10_1 b9_1
def Hz (d:Nat) (p0:Aa) (p1:Aw) (p2:Af) (p3:(List Int)):Option (List Int) :=
 (FR p0 p1).bind fun x17 =>
 bif (x17 != 0) then
  some []
 else
  iter (fun rec1 s=>Is p1 d p0 p2 p3 (fun v10_1 b9_1=>some b9_1) rec1 s.1 s.2) A8 (0,[])
def Ks (x30:(List Ae)) (kont2_2:((List Ae)→Int→Option ((List Ae) × Int))) (rec2:(((List Ae) × Int)→Option ((List Ae) × Int))) (v7_2:(List Ae)) (v10_2:Int):Option ((List Ae) × Int) :=
 bif (decide (v10_2 < ((x30.length:Nat):Int))) then
  (idx x30 v10_2).bind fun x40 =>
  (idx x30 v10_2).bind fun x45 =>
  (Cw v7_2 x40.Column x45.Level).bind fun x48 =>
  rec2 (x48,(IntKind.i64.wrap (v10_2 + 1)))
 else
  kont2_2 v7_2 v10_2
def Kt (p1:Az) (d:Nat) (p0:Aa) (kont1_0:((List Ae)→Int→Option ((List Ae) × Int))) (rec1:(((List Ae) × Int)→Option ((List Ae) × Int))) (v7_1:(List Ae)) (v8_1:Int):Option ((List Ae) × Int) :=
 bif (decide (v8_1 < ((p1.Questions.length:Nat):Int))) then
  (idx p1.Questions v8_1).bind fun x28 =>
  (FP d p0 x28).bind fun x30 =>
  iter (fun rec2 s=>Ks x30 (fun v7_2 v10_2=>rec1 (v7_2,(IntKind.i64.wrap (v8_1 + 1)))) rec2 s.1 s.2) A8 (v7_1,0)
 else
  kont1_0 v7_1 v8_1
def Mc (d:Nat) (p0:Aa) (p1:Az):Option ((List Ae) × Int) :=
 (Fg d p0 p1).bind fun x13 =>
 bif (x13 != 0) then
  some ([],x13)
 else
  iter (fun rec1 s=>Kt p1 d p0 (fun v7_1 v8_1=>some (v7_1,0)) rec1 s.1 s.2) A8 ([],0)
def LV (d:Nat) (p0:Af):Option Bool :=
 (JP d p0 ({ Op:=0,Column:=0,Code:=0,Low:=0,High:=0,Kids:=[] }:Af)).bind fun x5 =>
 some x5
def BF (p0:AD) (d:Nat) (j4_1:Bool) (j5_1:Bool) (k3_1_1:Int) (k3_2_1:ByteArray) (k3_3_1:Int) (k3_4_1:(List Int)) (k3_5_1:(List Ae)):Option Bool :=
 bif (bif (bif (bif (bif (k3_1_1==p0.Num) then (k3_2_1.toList==p0.Name.toList) else false) then (k3_3_1==p0.Column) else false) then (((k3_4_1.length:Nat):Int)==((p0.Columns.length:Nat):Int)) else false) then (((k3_5_1.length:Nat):Int)==((p0.Dims.length:Nat):Int)) else false) then
  bif j4_1 then
   bif j5_1 then
    some true
   else
    (LV d p0.Event).bind fun x114 =>
    some x114
  else
   (LV d p0.Cond).bind fun x106 =>
   bif x106 then
    bif j5_1 then
     some true
    else
     (LV d p0.Event).bind fun x114 =>
     some x114
   else
    some false
 else
  some false
def Nb (d:Nat) (p0:AD):Option Bool :=
 bif (p0.Op==1) then
  BF p0 d false false p0.Num ByteArray.empty 0 [] []
 else
  bif (p0.Op==2) then
   BF p0 d false false 0 p0.Name 0 [] []
  else
   bif (p0.Op==3) then
    BF p0 d true false 0 ByteArray.empty 0 [] []
   else
    bif (p0.Op==4) then
     BF p0 d true false 0 ByteArray.empty p0.Column [] []
    else
     bif (p0.Op==5) then
      BF p0 d true false 0 ByteArray.empty p0.Column [] []
     else
      bif (p0.Op==14) then
       BF p0 d true false 0 ByteArray.empty p0.Column [] []
      else
       bif (p0.Op==6) then
        BF p0 d false false 0 ByteArray.empty 0 [] []
       else
        bif (p0.Op==7) then
         BF p0 d false false 0 ByteArray.empty 0 [] []
        else
         bif (p0.Op==8) then
          BF p0 d false false 0 ByteArray.empty 0 [] []
         else
          bif (p0.Op==9) then
           BF p0 d false false 0 ByteArray.empty 0 [] []
          else
           bif (p0.Op==10) then
            BF p0 d true false 0 ByteArray.empty p0.Column [] p0.Dims
           else
            bif (p0.Op==11) then
             BF p0 d true false 0 ByteArray.empty p0.Column p0.Columns []
            else
             bif (p0.Op==12) then
              BF p0 d true true 0 ByteArray.empty p0.Column [] []
             else
              bif (p0.Op==13) then
               BF p0 d true false p0.Num ByteArray.empty p0.Column [] []
              else
               some false
def BV (j5_2:Int) (d:Nat) (p0:Aa) (p1:AD) (j7_4:Bool):Option Bool :=
 bif j7_4 then
  bif (decide (j5_2 > 0)) then
   some true
  else
   (B0 d p0 p1.Cond).bind fun x148 =>
   some (x148==0)
 else
  some false
def Jj (p0:Aa) (p1:AD) (j5_2:Int) (d:Nat):Option Bool :=
 (Hr p0 p1.Column 3).bind fun x56 =>
 bif (p1.Op==1) then
  some (bif (decide (p1.Num ≥ (-1099511627776))) then (decide (p1.Num≤1099511627776)) else false)
 else
  bif (p1.Op==2) then
   (BW p1.Name).bind fun x73 =>
   some x73
  else
   bif (p1.Op==3) then
    BV j5_2 d p0 p1 true
   else
    bif (p1.Op==6) then
     BV j5_2 d p0 p1 true
    else
     bif (p1.Op==7) then
      BV j5_2 d p0 p1 true
     else
      bif (p1.Op==8) then
       BV j5_2 d p0 p1 true
      else
       bif (p1.Op==9) then
        BV j5_2 d p0 p1 true
       else
        bif (p1.Op==10) then
         (Hp p0 p1.Dims).bind fun x85 =>
         bif (x85 != 0) then
          some false
         else
          BV j5_2 d p0 p1 (bif x56 then true else (p1.Column==(-1)))
        else
         bif (p1.Op==11) then
          (IN p0 p1.Column p1.Columns).bind fun x100 =>
          bif (x100 != 0) then
           some false
          else
           BV j5_2 d p0 p1 x56
         else
          bif (p1.Op==12) then
           bif (!x56) then
            some false
           else
            (idx p0.Columns p1.Column).bind fun x111 =>
            bif (decide (x111.Low < 0)) then
             some false
            else
             (B0 d p0 p1.Event).bind fun x120 =>
             bif (x120 != 0) then
              some false
             else
              BV j5_2 d p0 p1 x56
          else
           bif (p1.Op==13) then
            bif (!x56) then
             some false
            else
             (idx p0.Columns p1.Column).bind fun x132 =>
             (Kb x132.Widths p1.Num).bind fun x137 =>
             bif (!x137) then
              some false
             else
              BV j5_2 d p0 p1 x56
           else
            BV j5_2 d p0 p1 x56
def Mh (p1:AD) (self_ref16_Right:(Aa→AD→Option Bool)) (p0:Aa) (kont1_0:(Int→Option Bool)) (rec1:(Int→Option Bool)) (v6_1:Int):Option Bool :=
 bif (decide (v6_1 < ((p1.Kids.length:Nat):Int))) then
  (idx p1.Kids v6_1).bind fun x39 =>
  bif (decide (x39.Op ≥ 10)) then
   some false
  else
   (idx p1.Kids v6_1).bind fun x48 =>
   (self_ref16_Right p0 x48).bind fun x50 =>
   bif (!x50) then
    some false
   else
    rec1 (IntKind.i64.wrap (v6_1 + 1))
 else
  kont1_0 v6_1
def Hh (p1:AD) (self_ref16_Right:(Aa→AD→Option Bool)) (p0:Aa) (d:Nat) (j5_2:Int):Option Bool :=
 bif (((p1.Kids.length:Nat):Int) != j5_2) then
  some false
 else
  iter (fun rec1 s=>Mh p1 self_ref16_Right p0 (fun v6_1=>Jj p0 p1 j5_2 d) rec1 s) A8 0
def Jg (p1:AD) (self_ref16_Right:(Aa→AD→Option Bool)) (p0:Aa) (d:Nat):Option Bool :=
 bif (bif (decide (p1.Op ≥ 6)) then (decide (p1.Op≤9)) else false) then
  Hh p1 self_ref16_Right p0 d 2
 else
  Hh p1 self_ref16_Right p0 d 0
def HS (d:Nat) (self_ref16_Right:(Aa→AD→Option Bool)) (p0:Aa) (p1:AD):Option Bool :=
 (CC p0).bind fun x9 =>
 bif (x9 != 0) then
  some false
 else
  (Nb d p1).bind fun x13 =>
  bif (!x13) then
   some false
  else
   Jg p1 self_ref16_Right p0 d
def En:Nat→Aa→AD→Option Bool
 | 0,_,_=>none
 | d + 1,p0,p1=>HS d (En d) p0 p1
def OA (x12:Av) (p2:Int) (kont1_0:(Int→Option Int)) (rec1:(Int→Option Int)) (v8_1:Int):Option Int :=
 bif (decide (v8_1 < ((x12.Widths.length:Nat):Int))) then
  (idx x12.Widths v8_1).bind fun x24 =>
  bif (x24==p2) then
   some (IntKind.i64.wrap (((x12.Widths.length:Nat):Int) - v8_1))
  else
   rec1 (IntKind.i64.wrap (v8_1 + 1))
 else
  kont1_0 v8_1
def Pz (p0:Aa) (p1:Int) (p2:Int):Option Int :=
 (idx p0.Columns p1).bind fun x12 =>
 iter (fun rec1 s=>OA x12 p2 (fun v8_1=>some (-1)) rec1 s) A8 0
def J6 (x11:(List Ae)) (kont1_0:((List Ae)→Int→Option (List Ae))) (rec1:(((List Ae) × Int)→Option (List Ae))) (v1_1:(List Ae)) (v8_1:Int):Option (List Ae) :=
 bif (decide (v8_1 < ((x11.length:Nat):Int))) then
  (idx x11 v8_1).bind fun x21 =>
  (idx x11 v8_1).bind fun x26 =>
  (Cw v1_1 x21.Column x26.Level).bind fun x29 =>
  rec1 (x29,(IntKind.i64.wrap (v8_1 + 1)))
 else
  kont1_0 v1_1 v8_1
def IB (d:Nat) (p0:Aa) (p1:(List Ae)) (p2:Af):Option (List Ae) :=
 (Ct d p0 p2).bind fun x11 =>
 iter (fun rec1 s=>J6 x11 (fun v1_1 v8_1=>some v1_1) rec1 s.1 s.2) A8 (p1,0)
def Eo (p0:Aa) (p1:(List Ae)) (p2:Int):Option (List Ae) :=
 (BB p0 p2).bind fun x13 =>
 (Cp p0 p2 x13).bind fun x14 =>
 (Cw p1 p2 x14).bind fun x15 =>
 some x15
def OF (x119:(List Ae)) (kont4_7:((List Ae)→Int→Option (List Ae))) (rec4:(((List Ae) × Int)→Option (List Ae))) (v5_4:(List Ae)) (v10_4:Int):Option (List Ae) :=
 bif (decide (v10_4 < ((x119.length:Nat):Int))) then
  (idx x119 v10_4).bind fun x129 =>
  (idx x119 v10_4).bind fun x134 =>
  (Cw v5_4 x129.Column x134.Level).bind fun x137 =>
  rec4 (x137,(IntKind.i64.wrap (v10_4 + 1)))
 else
  kont4_7 v5_4 v10_4
def L0 (p1:AD) (self_ref17_Needs:(Aa→AD→Option (List Ae))) (p0:Aa) (kont3_5:((List Ae)→Int→Option (List Ae))) (rec3:(((List Ae) × Int)→Option (List Ae))) (v5_3:(List Ae)) (v8_3:Int):Option (List Ae) :=
 bif (decide (v8_3 < ((p1.Kids.length:Nat):Int))) then
  (idx p1.Kids v8_3).bind fun x117 =>
  (self_ref17_Needs p0 x117).bind fun x119 =>
  iter (fun rec4 s=>OF x119 (fun v5_4 v10_4=>rec3 (v5_4,(IntKind.i64.wrap (v8_3 + 1)))) rec4 s.1 s.2) A8 (v5_3,0)
 else
  kont3_5 v5_3 v8_3
def Jn (p1:AD) (self_ref17_Needs:(Aa→AD→Option (List Ae))) (p0:Aa) (j5_3:(List Ae)):Option (List Ae) :=
 iter (fun rec3 s=>L0 p1 self_ref17_Needs p0 (fun v5_3 v8_3=>some v5_3) rec3 s.1 s.2) A8 (j5_3,0)
def LW (p1:AD) (p0:Aa) (kont2_3:((List Ae)→Int→Option (List Ae))) (rec2:(((List Ae) × Int)→Option (List Ae))) (v5_2:(List Ae)) (v7_2:Int):Option (List Ae) :=
 bif (decide (v7_2 < ((p1.Columns.length:Nat):Int))) then
  (idx p1.Columns v7_2).bind fun x103 =>
  (Eo p0 v5_2 x103).bind fun x105 =>
  rec2 (x105,(IntKind.i64.wrap (v7_2 + 1)))
 else
  kont2_3 v5_2 v7_2
def BU (p1:AD) (p0:Aa) (self_ref17_Needs:(Aa→AD→Option (List Ae))) (j5_2:(List Ae)):Option (List Ae) :=
 iter (fun rec2 s=>LW p1 p0 (fun v5_2 v7_2=>Jn p1 self_ref17_Needs p0 v5_2) rec2 s.1 s.2) A8 (j5_2,0)
def J0 (p1:AD) (p0:Aa) (self_ref17_Needs:(Aa→AD→Option (List Ae))) (j5_1:(List Ae)):Option (List Ae) :=
 bif (p1.Op==4) then
  (Eo p0 j5_1 p1.Column).bind fun x64 =>
  BU p1 p0 self_ref17_Needs x64
 else
  bif (p1.Op==5) then
   (Eo p0 j5_1 p1.Column).bind fun x64 =>
   BU p1 p0 self_ref17_Needs x64
  else
   bif (p1.Op==11) then
    (Eo p0 j5_1 p1.Column).bind fun x64 =>
    BU p1 p0 self_ref17_Needs x64
   else
    bif (p1.Op==12) then
     (Eo p0 j5_1 p1.Column).bind fun x64 =>
     BU p1 p0 self_ref17_Needs x64
    else
     bif (p1.Op==14) then
      (Eo p0 j5_1 p1.Column).bind fun x64 =>
      BU p1 p0 self_ref17_Needs x64
     else
      bif (p1.Op==10) then
       bif (decide (p1.Column ≥ 0)) then
        (Eo p0 j5_1 p1.Column).bind fun x74 =>
        BU p1 p0 self_ref17_Needs x74
       else
        BU p1 p0 self_ref17_Needs j5_1
      else
       bif (p1.Op==13) then
        (Pz p0 p1.Column p1.Num).bind fun x88 =>
        (Cp p0 p1.Column x88).bind fun x89 =>
        (Cw j5_1 p1.Column x89).bind fun x90 =>
        BU p1 p0 self_ref17_Needs x90
       else
        BU p1 p0 self_ref17_Needs j5_1
def Mg (p1:AD) (p0:Aa) (kont1_0:((List Ae)→Int→Option (List Ae))) (rec1:(((List Ae) × Int)→Option (List Ae))) (v5_1:(List Ae)) (v6_1:Int):Option (List Ae) :=
 bif (decide (v6_1 < ((p1.Dims.length:Nat):Int))) then
  (idx p1.Dims v6_1).bind fun x34 =>
  (idx p1.Dims v6_1).bind fun x41 =>
  (idx p1.Dims v6_1).bind fun x47 =>
  (Cp p0 x41.Column x47.Level).bind fun x50 =>
  (Cw v5_1 x34.Column x50).bind fun x51 =>
  rec1 (x51,(IntKind.i64.wrap (v6_1 + 1)))
 else
  kont1_0 v5_1 v6_1
def HO (d:Nat) (self_ref17_Needs:(Aa→AD→Option (List Ae))) (p0:Aa) (p1:AD):Option (List Ae) :=
 (En d p0 p1).bind fun x13 =>
 bif (!x13) then
  some []
 else
  (IB d p0 [] p1.Cond).bind fun x19 =>
  (IB d p0 x19 p1.Event).bind fun x22 =>
  iter (fun rec1 s=>Mg p1 p0 (fun v5_1 v6_1=>J0 p1 p0 self_ref17_Needs v5_1) rec1 s.1 s.2) A8 (x22,0)
def ID:Nat→Aa→AD→Option (List Ae)
 | 0,_,_=>none
 | d + 1,p0,p1=>HO d (ID d) p0 p1
def Ft (d:Nat) (p0:Aa) (p1:Aw) (p2:AD):Option Int :=
 (FR p0 p1).bind fun x10 =>
 bif (x10 != 0) then
  some x10
 else
  (En d p0 p2).bind fun x16 =>
  bif (!x16) then
   some 11
  else
   (ID d p0 p2).bind fun x20 =>
   (Gz x20 p1.Picks).bind fun x23 =>
   bif (!x23) then
    some 23
   else
    some 0
def GM (p1:Aw) (x37:(List Int)) (v17_1:Int) (b15_1:(List Int)) (b16_1:(List Bool)):Option ((List Be) × (List Int) × Int) :=
 (Ps b15_1 b16_1).bind fun x83 =>
 bif (x83.2 != 0) then
  some ([],[],x83.2)
 else
  (NC p1 x37).bind fun x92 =>
  some (x83.1,x92,0)
def Fs (x37:(List Int)) (p0:Aa) (p2:Int) (p1:Aw) (d:Nat) (p3:Af) (kont1_0:(Int→(List Int)→(List Bool)→Option ((List Be) × (List Int) × Int))) (rec1:((Int × (List Int) × (List Bool))→Option ((List Be) × (List Int) × Int))) (v17_1:Int) (b15_1:(List Int)) (b16_1:(List Bool)):Option ((List Be) × (List Int) × Int) :=
 bif (decide (v17_1 < ((x37.length:Nat):Int))) then
  (idx x37 v17_1).bind fun x49 =>
  (BB p0 p2).bind fun x54 =>
  (FU p0 p1 x49 p2 x54).bind fun x55 =>
  bif rm b15_1.length [x55.1].length then
   (idx x37 v17_1).bind fun x71 =>
   (idx p1.Rows x71).bind fun x73 =>
   bif (decide (0≤(1:Int)∧1≤((x73.length:Nat):Int)∧((x73.length:Nat):Int)≤((x73.length:Nat):Int))) then
    (Gc d p0 p3 p1.Picks (O1 x73 1 ((x73.length:Nat):Int))).bind fun x76 =>
    bif rm b16_1.length [(x76==1)].length then
     rec1 ((IntKind.i64.wrap (v17_1 + 1)),(b15_1++[x55.1]),(b16_1++[(x76==1)]))
    else none
   else none
  else none
 else
  kont1_0 v17_1 b15_1 b16_1
def D6 (d:Nat) (p0:Aa) (p1:Aw) (p2:Int) (p3:Af) (p4:Af):Option ((List Be) × (List Int) × Int) :=
 (Ft d p0 p1 ({ Op:=12,Num:=0,Name:=ByteArray.empty,Column:=p2,Columns:=[],Dims:=[],Cond:=p4,Event:=p3,Kids:=[] }:AD)).bind fun x28 =>
 bif (x28 != 0) then
  some ([],[],x28)
 else
  (Hz d p0 p1 p4 [p2]).bind fun x37 =>
  iter (fun rec1 s=>Fs x37 p0 p2 p1 d p3 (GM p1 x37) rec1 s.1 s.2.1 s.2.2) A8 (0,[],[])
def Km (p0:(List Be)) (p1:(List Be)) (kont1_0:(Int→Option Bool)) (rec1:(Int→Option Bool)) (v5_1:Int):Option Bool :=
 bif (decide (v5_1 < ((p0.length:Nat):Int))) then
  (idx p0 v5_1).bind fun x19 =>
  (idx p1 v5_1).bind fun x23 =>
  bif (!((x19.Time==x23.Time) && ((x19.AtRisk==x23.AtRisk) && ((x19.Events==x23.Events) && ((x19.Left==x23.Left) && (((x19.Survive.Num==x23.Survive.Num) && ((x19.Survive.Den==x23.Survive.Den) && true)) && true)))))) then
   some false
  else
   rec1 (IntKind.i64.wrap (v5_1 + 1))
 else
  kont1_0 v5_1
def LZ (p0:(List Be)) (p1:(List Be)):Option Bool :=
 bif (((p0.length:Nat):Int) != ((p1.length:Nat):Int)) then
  some false
 else
  iter (fun rec1 s=>Km p0 p1 (fun v5_1=>some true) rec1 s) A8 0
def Ng (p0:(List Int)):Option Ab :=
 bif (decide (0≤(0:Int)∧0≤(if 400 < ((p0.length:Nat):Int) then 400 else ((p0.length:Nat):Int))∧(if 400 < ((p0.length:Nat):Int) then 400 else ((p0.length:Nat):Int))≤((p0.length:Nat):Int))) then
  some ({ f_l:=(O1 p0 0 (if 400 < ((p0.length:Nat):Int) then 400 else ((p0.length:Nat):Int))),f_at:=0 }:Ab)
 else none
def Gd (p0:Ab) (p1:Int):Option (Int × Ab) :=
 (idx p0.f_l (IntKind.i64.wrap ((IntKind.i64.wrap (p0.f_at + 1)) - 1))).bind fun x36 =>
 bif (decide (p1 > 256)) then
  bif (decide ((IntKind.i64.wrap (p0.f_at + 1)) < ((p0.f_l.length:Nat):Int))) then
   (idx p0.f_l (IntKind.i64.wrap (p0.f_at + 1))).bind fun x63 =>
   bif (decide (p1≠0)) then
    some ((Int.tmod (IntKind.i64.wrap ((IntKind.i64.wrap ((IntKind.i64.wrap x36) * 256)) + (IntKind.i64.wrap x63))) p1),({ f_l:=p0.f_l,f_at:=(IntKind.i64.wrap ((IntKind.i64.wrap (p0.f_at + 1)) + 1)) }:Ab))
   else none
  else
   bif (decide (p1≠0)) then
    some ((Int.tmod (IntKind.i64.wrap x36) p1),({ f_l:=p0.f_l,f_at:=(IntKind.i64.wrap (p0.f_at + 1)) }:Ab))
   else none
 else
  bif (decide (p1≠0)) then
   some ((Int.tmod (IntKind.i64.wrap x36) p1),({ f_l:=p0.f_l,f_at:=(IntKind.i64.wrap (p0.f_at + 1)) }:Ab))
  else none
def A6 (p0:Ab) (p1:Int):Option (Int × Ab) :=
 bif (decide (p1 < 1)) then
  some (0,p0)
 else
  bif (decide (p0.f_at ≥ ((p0.f_l.length:Nat):Int))) then
   some (0,p0)
  else
   Gd p0 p1
def Ce (p0:Ab) (p1:Int):Option (Bool × Ab) :=
 (A6 p0 p1).bind fun x7 =>
 some ((x7.1==(IntKind.i64.wrap (p1 - 1))),x7.2)
def AJ (p0:Ab) (p1:Int) (p2:Int):Option (Int × Ab) :=
 (A6 p0 (IntKind.i64.wrap ((IntKind.i64.wrap (p2 - p1)) + 1))).bind fun x13 =>
 some ((IntKind.i64.wrap (p1 + x13.1)),x13.2)
def I0 (v8_2:Int) (kont3_4:(Int→(List Ed)→Option (Am × Ab))) (rec3:((Int × (List Ed))→Option (Am × Ab))) (v9_3:Int) (b12_3:(List Ed)):Option (Am × Ab) :=
 bif (decide (v9_3 > 0)) then
  (CY ((b12_3.length:Nat):Int)).bind fun x49 =>
  bif (decide (({ data:=#[108] }:ByteArray).size + x49.size≤9223372036854775807)) then
   bif rm b12_3.length ([({ Name:=(({ data:=#[108] }:ByteArray)++x49),Parent:=(IntKind.i64.wrap (1 + v8_2)) }:Ed)]).length then
    rec3 ((IntKind.i64.wrap (v9_3 - 1)),(b12_3++[({ Name:=(({ data:=#[108] }:ByteArray)++x49),Parent:=(IntKind.i64.wrap (1 + v8_2)) }:Ed)]))
   else none
  else none
 else
  kont3_4 v9_3 b12_3
def Gl (x15:(Int × Ab)) (kont2_2:(Int→Ab→(List Ed)→Option (Am × Ab))) (rec2:((Int × Ab × (List Ed))→Option (Am × Ab))) (v8_2:Int) (w0_2:Ab) (b12_2:(List Ed)):Option (Am × Ab) :=
 bif (decide (v8_2 < x15.1)) then
  (AJ w0_2 1 2).bind fun x39 =>
  iter (fun rec3 s=>I0 v8_2 (fun v9_3 b12_3=>rec2 ((IntKind.i64.wrap (v8_2 + 1)),x39.2,b12_3)) rec3 s.1 s.2) A8 (x39.1,b12_2)
 else
  kont2_2 v8_2 w0_2 b12_2
def Ge (x15:(Int × Ab)) (p1:ByteArray) (k12_1:(List Ed)):Option (Am × Ab) :=
 (Ce x15.2 2).bind fun x31 =>
 bif x31.1 then
  some (({ Name:=p1,Codes:=k12_1 }:Am),x31.2)
 else
  iter (fun rec2 s=>Gl x15 (fun v8_2 w0_2 b12_2=>some (({ Name:=p1,Codes:=b12_2 }:Am),w0_2)) rec2 s.1 s.2.1 s.2.2) A8 (0,x31.2,k12_1)
def Gp (x15:(Int × Ab)) (kont1_0:(Int→(List Ed)→Option (Am × Ab))) (rec1:((Int × (List Ed))→Option (Am × Ab))) (v7_1:Int) (b12_1:(List Ed)):Option (Am × Ab) :=
 bif (decide (v7_1 < x15.1)) then
  (CY v7_1).bind fun x24 =>
  bif (decide (({ data:=#[107] }:ByteArray).size + x24.size≤9223372036854775807)) then
   bif rm b12_1.length ([({ Name:=(({ data:=#[107] }:ByteArray)++x24),Parent:=0 }:Ed)]).length then
    rec1 ((IntKind.i64.wrap (v7_1 + 1)),(b12_1++[({ Name:=(({ data:=#[107] }:ByteArray)++x24),Parent:=0 }:Ed)]))
   else none
  else none
 else
  kont1_0 v7_1 b12_1
def ET (p0:Ab) (p1:ByteArray):Option (Am × Ab) :=
 (AJ p0 1 3).bind fun x15 =>
 iter (fun rec1 s=>Gp x15 (fun v7_1 b12_1=>Ge x15 p1 b12_1) rec1 s.1 s.2) A8 (0,[({ Name:=({ data:=#[116,111,112] }:ByteArray),Parent:=(-1) }:Ed)])
def D4 (p0:Ab) (p1:ByteArray):Option (Av × Ab) :=
 (AJ p0 (-4) 2).bind fun x8 =>
 (A6 x8.2 4).bind fun x15 =>
 (idx ([[1],[1,5],[1,5,20],[1,2,4,12]]) x15.1).bind fun x16 =>
 (Ce x15.2 3).bind fun x19 =>
 (A6 x19.2 45).bind fun x24 =>
 some (({ Name:=p1,Kind:=3,List_:=0,Low:=x8.1,High:=(IntKind.i64.wrap (x8.1 + x24.1)),Widths:=x16,Optional:=x19.1 }:Av),x24.2)
def EY (kont1_0:(Int→Ab→(List Av)→Option (Aa × Ab))) (rec1:((Int × Ab × (List Av))→Option (Aa × Ab))) (v4_1:Int) (w0_1:Ab) (b12_1:(List Av)):Option (Aa × Ab) :=
 bif (decide (v4_1 > 0)) then
  (CY ((b12_1.length:Nat):Int)).bind fun x34 =>
  bif (decide (({ data:=#[109] }:ByteArray).size + x34.size≤9223372036854775807)) then
   (D4 w0_1 (({ data:=#[109] }:ByteArray)++x34)).bind fun x36 =>
   bif rm b12_1.length [x36.1].length then
    rec1 ((IntKind.i64.wrap (v4_1 - 1)),x36.2,(b12_1++[x36.1]))
   else none
  else none
 else
  kont1_0 v4_1 w0_1 b12_1
def KD (kont2_0:(Int→Ab→(List Av)→Option (Aa × Ab))) (rec2:((Int × Ab × (List Av))→Option (Aa × Ab))) (v4_2:Int) (w0_2:Ab) (b12_2:(List Av)):Option (Aa × Ab) :=
 bif (decide (v4_2 > 0)) then
  (CY ((b12_2.length:Nat):Int)).bind fun x34 =>
  bif (decide (({ data:=#[109] }:ByteArray).size + x34.size≤9223372036854775807)) then
   (D4 w0_2 (({ data:=#[109] }:ByteArray)++x34)).bind fun x36 =>
   bif rm b12_2.length [x36.1].length then
    rec2 ((IntKind.i64.wrap (v4_2 - 1)),x36.2,(b12_2++[x36.1]))
   else none
  else none
 else
  kont2_0 v4_2 w0_2 b12_2
def CG (p0:Ab):Option (Aa × Ab) :=
 (ET p0 ({ data:=#[111,110,101] }:ByteArray)).bind fun x6 =>
 (ET x6.2 ({ data:=#[116,119,111] }:ByteArray)).bind fun x8 =>
 (Ce x8.2 2).bind fun x15 =>
 bif x15.1 then
  bif rm ([({ Name:=({ data:=#[119,104,111] }:ByteArray),Kind:=1,List_:=0,Low:=0,High:=0,Widths:=[],Optional:=false }:Av),({ Name:=({ data:=#[115,101,120] }:ByteArray),Kind:=2,List_:=0,Low:=0,High:=0,Widths:=[],Optional:=false }:Av)]).length ([({ Name:=({ data:=#[106,111,98] }:ByteArray),Kind:=2,List_:=1,Low:=0,High:=0,Widths:=[],Optional:=false }:Av)]).length then
   (AJ x15.2 1 3).bind fun x23 =>
   iter (fun rec1 s=>EY (fun v4_1 w0_1 b12_1=>some (({ Lists:=[x6.1,x8.1],Columns:=b12_1 }:Aa),w0_1)) rec1 s.1 s.2.1 s.2.2) A8 (x23.1,x23.2,([({ Name:=({ data:=#[119,104,111] }:ByteArray),Kind:=1,List_:=0,Low:=0,High:=0,Widths:=[],Optional:=false }:Av),({ Name:=({ data:=#[115,101,120] }:ByteArray),Kind:=2,List_:=0,Low:=0,High:=0,Widths:=[],Optional:=false }:Av)]++[({ Name:=({ data:=#[106,111,98] }:ByteArray),Kind:=2,List_:=1,Low:=0,High:=0,Widths:=[],Optional:=false }:Av)]))
  else none
 else
  (AJ x15.2 1 3).bind fun x23 =>
  iter (fun rec2 s=>KD (fun v4_2 w0_2 b12_2=>some (({ Lists:=[x6.1,x8.1],Columns:=b12_2 }:Aa),w0_2)) rec2 s.1 s.2.1 s.2.2) A8 (x23.1,x23.2,[({ Name:=({ data:=#[119,104,111] }:ByteArray),Kind:=1,List_:=0,Low:=0,High:=0,Widths:=[],Optional:=false }:Av),({ Name:=({ data:=#[115,101,120] }:ByteArray),Kind:=2,List_:=0,Low:=0,High:=0,Widths:=[],Optional:=false }:Av)])
def FA (p0:Ab) (p1:Aa) (p2:Int):Option (Int × Ab) :=
 (idx p1.Columns p2).bind fun x12 =>
 bif (x12.Kind==1) then
  (AJ p0 1 60).bind fun x19 =>
  some (x19.1,x19.2)
 else
  bif (x12.Kind==2) then
   (Cl p1 p2).bind fun x24 =>
   (A6 p0 ((x24.length:Nat):Int)).bind fun x29 =>
   (idx x24 x29.1).bind fun x30 =>
   some (x30,x29.2)
  else
   bif x12.Optional then
    (Ce p0 4).bind fun x36 =>
    bif x36.1 then
     some ((-1099511627776),x36.2)
    else
     (AJ x36.2 x12.Low x12.High).bind fun x43 =>
     some (x43.1,x43.2)
   else
    (AJ p0 x12.Low x12.High).bind fun x43 =>
    some (x43.1,x43.2)
def GW (p1:Aa) (kont1_0:(Int→Ab→(List Int)→Option ((List Int) × Ab))) (rec1:((Int × Ab × (List Int))→Option ((List Int) × Ab))) (v10_1:Int) (w0_1:Ab) (b5_1:(List Int)):Option ((List Int) × Ab) :=
 bif (decide (v10_1 < ((p1.Columns.length:Nat):Int))) then
  (FA w0_1 p1 v10_1).bind fun x17 =>
  bif rm b5_1.length [x17.1].length then
   rec1 ((IntKind.i64.wrap (v10_1 + 1)),x17.2,(b5_1++[x17.1]))
  else none
 else
  kont1_0 v10_1 w0_1 b5_1
def Hs (p0:Ab) (p1:Aa):Option ((List Int) × Ab) :=
 iter (fun rec1 s=>GW p1 (fun v10_1 w0_1 b5_1=>some (b5_1,w0_1)) rec1 s.1 s.2.1 s.2.2) A8 (0,p0,[])
def Fo (x9:(Aa × Ab)) (kont1_0:(Int→Ab→(List (List Int))→Option (BC × Ab))) (rec1:((Int × Ab × (List (List Int)))→Option (BC × Ab))) (v7_1:Int) (w0_1:Ab) (c6_2_1:(List (List Int))):Option (BC × Ab) :=
 bif (decide (v7_1 > 0)) then
  (Hs w0_1 x9.1).bind fun x24 =>
  (Lv c6_2_1 x24.1).bind fun x25 =>
  rec1 ((IntKind.i64.wrap (v7_1 - 1)),x24.2,x25)
 else
  kont1_0 v7_1 w0_1 c6_2_1
def Ck (p0:Ab) (p1:Int):Option (BC × Ab) :=
 (CG p0).bind fun x9 =>
 (A6 x9.2 (IntKind.i64.wrap (p1 + 1))).bind fun x15 =>
 iter (fun rec1 s=>Fo x9 (fun v7_1 w0_1 c6_2_1=>some (({ Schema:=x9.1,Rows:=c6_2_1,Gone:=[],Version:=0 }:BC),w0_1)) rec1 s.1 s.2.1 s.2.2) A8 (x15.1,x15.2,[])
def T6 (v6_1:Int) (b5_1:(List Ae)):Option (Az × (List Ae)) :=
 some (({ Project:=({ data:=#[97,108,108,95,114,111,119,115] }:ByteArray),Source:=({ data:=#[115,114,99] }:ByteArray),Cohort:=({ Op:=1,Column:=0,Code:=0,Low:=0,High:=0,Kids:=[] }:Af),Sample:=({ Part:=1,Of:=1,Seed:=0 }:H4),Questions:=[({ Name:=({ data:=#[113] }:ByteArray),Kind:=1,Filter:=({ Op:=1,Column:=0,Code:=0,Low:=0,High:=0,Kids:=[] }:Af),Dims:=[({ Column:=1,Level:=0 }:Ae)],Measure:=(-1),Terms:=[],Event:=({ Op:=0,Column:=0,Code:=0,Low:=0,High:=0,Kids:=[] }:Af) }:AG)] }:Az),b5_1)
def M6 (p0:Aa) (kont1_0:(Int→(List Ae)→Option (Az × (List Ae)))) (rec1:((Int × (List Ae))→Option (Az × (List Ae)))) (v6_1:Int) (b5_1:(List Ae)):Option (Az × (List Ae)) :=
 bif (decide (v6_1 < ((p0.Columns.length:Nat):Int))) then
  (BB p0 v6_1).bind fun x21 =>
  bif rm b5_1.length [({ Column:=v6_1,Level:=x21 }:Ae)].length then
   rec1 ((IntKind.i64.wrap (v6_1 + 1)),(b5_1++[({ Column:=v6_1,Level:=x21 }:Ae)]))
  else none
 else
  kont1_0 v6_1 b5_1
def MZ (p0:Aa):Option (Az × (List Ae)) :=
 iter (fun rec1 s=>M6 p0 T6 rec1 s.1 s.2) A8 (1,[])
def Df (p0:Ab):Option (Int × Ab) :=
 (A6 p0 60000).bind fun x4 =>
 (A6 x4.2 60000).bind fun x6 =>
 (A6 x6.2 7).bind fun x9 =>
 some ((IntKind.i64.wrap ((IntKind.i64.wrap (x4.1 * x6.1)) + x9.1)),x9.2)
def FB (d:Nat) (p0:Ab) (p1:Int):Option (BC × Aw × Ab) :=
 (Ck p0 p1).bind fun x13 =>
 (MZ x13.1.Schema).bind fun x17 =>
 (Df x13.2).bind fun x25 =>
 (EX d x13.1 x17.1 x17.2 x25.1).bind fun x26 =>
 some (x13.1,x26.1,x25.2)
def EL (p0:Aa) (p1:Int) (kont1_0:(Int→(List Int)→Option (List Int))) (rec1:((Int × (List Int))→Option (List Int))) (v10_1:Int) (b5_1:(List Int)):Option (List Int) :=
 bif (decide (v10_1 < ((p0.Columns.length:Nat):Int))) then
  (idx p0.Columns v10_1).bind fun x16 =>
  bif (x16.Kind==p1) then
   bif rm b5_1.length [v10_1].length then
    rec1 ((IntKind.i64.wrap (v10_1 + 1)),(b5_1++[v10_1]))
   else none
  else
   rec1 ((IntKind.i64.wrap (v10_1 + 1)),b5_1)
 else
  kont1_0 v10_1 b5_1
def DC (p0:Aa) (p1:Int):Option (List Int) :=
 iter (fun rec1 s=>EL p0 p1 (fun v10_1 b5_1=>some b5_1) rec1 s.1 s.2) A8 (0,[])
def B4 (p0:Ab) (p1:Aa):Option (Int × Ab) :=
 (DC p1 3).bind fun x7 =>
 (A6 p0 ((x7.length:Nat):Int)).bind fun x12 =>
 (idx x7 x12.1).bind fun x13 =>
 some (x13,x12.2)
def Np (p0:Int) (p1:Int):Option Int :=
 bif (decide (p1 < 1)) then
  some 0
 else
  bif (decide (p1≠0)) then
   bif (decide ((Int.tmod p0 p1) < 0)) then
    some (IntKind.i64.wrap ((Int.tmod p0 p1) + p1))
   else
    some (Int.tmod p0 p1)
  else none
def FE (p0:Ab) (p1:Aa):Option (Int × Ab) :=
 (DC p1 2).bind fun x7 =>
 (A6 p0 ((x7.length:Nat):Int)).bind fun x12 =>
 (idx x7 x12.1).bind fun x13 =>
 some (x13,x12.2)
def D5 (p1:Aa) (k0_1:Ab):Option (Af × Ab) :=
 (A6 k0_1 5).bind fun x53 =>
 bif (x53.1==1) then
  (FE x53.2 p1).bind fun x58 =>
  (idx p1.Columns x58.1).bind fun x66 =>
  (idx p1.Lists x66.List_).bind fun x69 =>
  (A6 x58.2 ((x69.Codes.length:Nat):Int)).bind fun x73 =>
  some (({ Op:=2,Column:=x58.1,Code:=x73.1,Low:=0,High:=0,Kids:=[] }:Af),x73.2)
 else
  bif (x53.1==2) then
   (B4 x53.2 p1).bind fun x80 =>
   (idx p1.Columns x80.1).bind fun x84 =>
   (AJ x80.2 (-3) 40).bind fun x88 =>
   (A6 x88.2 30).bind fun x94 =>
   some (({ Op:=3,Column:=x80.1,Code:=0,Low:=(IntKind.i64.wrap (x84.Low + x88.1)),High:=(IntKind.i64.wrap ((IntKind.i64.wrap (x84.Low + x88.1)) + x94.1)),Kids:=[] }:Af),x94.2)
  else
   bif (x53.1==3) then
    (B4 x53.2 p1).bind fun x80 =>
    (idx p1.Columns x80.1).bind fun x84 =>
    (AJ x80.2 (-3) 40).bind fun x88 =>
    (A6 x88.2 30).bind fun x94 =>
    some (({ Op:=3,Column:=x80.1,Code:=0,Low:=(IntKind.i64.wrap (x84.Low + x88.1)),High:=(IntKind.i64.wrap ((IntKind.i64.wrap (x84.Low + x88.1)) + x94.1)),Kids:=[] }:Af),x94.2)
   else
    bif (x53.1==4) then
     (B4 x53.2 p1).bind fun x101 =>
     (idx p1.Columns x101.1).bind fun x105 =>
     bif x105.Optional then
      some (({ Op:=4,Column:=x101.1,Code:=0,Low:=0,High:=0,Kids:=[] }:Af),x101.2)
     else
      some (({ Op:=1,Column:=0,Code:=0,Low:=0,High:=0,Kids:=[] }:Af),x101.2)
    else
     some (({ Op:=1,Column:=0,Code:=0,Low:=0,High:=0,Kids:=[] }:Af),x53.2)
def Dj (d:Nat) (self_draw_Codes_Cond:(Ab→Aa→Int→Option (Af × Ab))) (p0:Ab) (p1:Aa) (p2:Int):Option (Af × Ab) :=
 bif (decide (p2 > 0)) then
  (A6 p0 5).bind fun x14 =>
  bif (x14.1==2) then
   (self_draw_Codes_Cond x14.2 p1 (IntKind.i64.wrap (p2 - 1))).bind fun x21 =>
   some (({ Op:=7,Column:=0,Code:=0,Low:=0,High:=0,Kids:=[x21.1] }:Af),x21.2)
  else
   bif (x14.1==3) then
    (self_draw_Codes_Cond x14.2 p1 (IntKind.i64.wrap (p2 - 1))).bind fun x30 =>
    (self_draw_Codes_Cond x30.2 p1 (IntKind.i64.wrap (p2 - 1))).bind fun x35 =>
    some (({ Op:=5,Column:=0,Code:=0,Low:=0,High:=0,Kids:=[x30.1,x35.1] }:Af),x35.2)
   else
    bif (x14.1==4) then
     (self_draw_Codes_Cond x14.2 p1 (IntKind.i64.wrap (p2 - 1))).bind fun x44 =>
     (self_draw_Codes_Cond x44.2 p1 (IntKind.i64.wrap (p2 - 1))).bind fun x49 =>
     some (({ Op:=6,Column:=0,Code:=0,Low:=0,High:=0,Kids:=[x44.1,x49.1] }:Af),x49.2)
    else
     D5 p1 x14.2
 else
  D5 p1 p0
def Cg:Nat→Ab→Aa→Int→Option (Af × Ab)
 | 0,_,_,_=>none
 | d + 1,p0,p1,p2=>Dj d (Cg d) p0 p1 p2
def F2 (x11:(List Int)) (p2:Int) (kont1_0:(Int→Ab→(List Int)→Option ((List Int) × Ab))) (rec1:((Int × Ab × (List Int))→Option ((List Int) × Ab))) (v14_1:Int) (w0_1:Ab) (b7_1:(List Int)):Option ((List Int) × Ab) :=
 bif (decide (v14_1 < ((x11.length:Nat):Int))) then
  (idx x11 v14_1).bind fun x19 =>
  bif (x19 != p2) then
   bif (((b7_1.length:Nat):Int)==0) then
    (idx x11 v14_1).bind fun x35 =>
    bif rm b7_1.length [x35].length then
     rec1 ((IntKind.i64.wrap (v14_1 + 1)),w0_1,(b7_1++[x35]))
    else none
   else
    (Ce w0_1 2).bind fun x29 =>
    bif x29.1 then
     (idx x11 v14_1).bind fun x35 =>
     bif rm b7_1.length [x35].length then
      rec1 ((IntKind.i64.wrap (v14_1 + 1)),x29.2,(b7_1++[x35]))
     else none
    else
     rec1 ((IntKind.i64.wrap (v14_1 + 1)),x29.2,b7_1)
  else
   rec1 ((IntKind.i64.wrap (v14_1 + 1)),w0_1,b7_1)
 else
  kont1_0 v14_1 w0_1 b7_1
def F8 (p0:Ab) (p1:Aa) (p2:Int):Option ((List Int) × Ab) :=
 (DC p1 3).bind fun x11 =>
 iter (fun rec1 s=>F2 x11 p2 (fun v14_1 w0_1 b7_1=>some (b7_1,w0_1)) rec1 s.1 s.2.1 s.2.2) A8 (0,p0,[])
def Gy (x9:(List Int)) (x16:(Int × Ab)) (p1:Aa) (kont1_0:(Int→Ab→(List Ae)→Option ((List Ae) × Ab))) (rec1:((Int × Ab × (List Ae))→Option ((List Ae) × Ab))) (v20_1:Int) (w0_1:Ab) (b5_1:(List Ae)):Option ((List Ae) × Ab) :=
 bif (decide (v20_1 < (((O1 x9 x16.1 ((x9.length:Nat):Int)).length:Nat):Int))) then
  (idx (O1 x9 x16.1 ((x9.length:Nat):Int)) v20_1).bind fun x26 =>
  (idx (O1 x9 x16.1 ((x9.length:Nat):Int)) v20_1).bind fun x32 =>
  (BB p1 x32).bind fun x34 =>
  (A6 w0_1 (IntKind.i64.wrap (x34 + 1))).bind fun x36 =>
  bif rm b5_1.length [({ Column:=x26,Level:=x36.1 }:Ae)].length then
   rec1 ((IntKind.i64.wrap (v20_1 + 1)),x36.2,(b5_1++[({ Column:=x26,Level:=x36.1 }:Ae)]))
  else none
 else
  kont1_0 v20_1 w0_1 b5_1
def Ga (x9:(List Int)) (p1:Aa) (kont2_0:(Int→Ab→(List Ae)→Option ((List Ae) × Ab))) (rec2:((Int × Ab × (List Ae))→Option ((List Ae) × Ab))) (v20_2:Int) (w0_2:Ab) (b5_2:(List Ae)):Option ((List Ae) × Ab) :=
 bif (decide (v20_2 < ((x9.length:Nat):Int))) then
  (idx x9 v20_2).bind fun x26 =>
  (idx x9 v20_2).bind fun x32 =>
  (BB p1 x32).bind fun x34 =>
  (A6 w0_2 (IntKind.i64.wrap (x34 + 1))).bind fun x36 =>
  bif rm b5_2.length [({ Column:=x26,Level:=x36.1 }:Ae)].length then
   rec2 ((IntKind.i64.wrap (v20_2 + 1)),x36.2,(b5_2++[({ Column:=x26,Level:=x36.1 }:Ae)]))
  else none
 else
  kont2_0 v20_2 w0_2 b5_2
def CW (p0:Ab) (p1:Aa):Option ((List Ae) × Ab) :=
 (DC p1 2).bind fun x9 =>
 (Ce p0 2).bind fun x11 =>
 bif x11.1 then
  (A6 x11.2 ((x9.length:Nat):Int)).bind fun x16 =>
  bif (decide (0≤(x16.1:Int)∧x16.1≤((x9.length:Nat):Int)∧((x9.length:Nat):Int)≤((x9.length:Nat):Int))) then
   iter (fun rec1 s=>Gy x9 x16 p1 (fun v20_1 w0_1 b5_1=>some (b5_1,w0_1)) rec1 s.1 s.2.1 s.2.2) A8 (0,x16.2,[])
  else none
 else
  iter (fun rec2 s=>Ga x9 p1 (fun v20_2 w0_2 b5_2=>some (b5_2,w0_2)) rec2 s.1 s.2.1 s.2.2) A8 (0,x11.2,[])
def Do (d:Nat) (p0:Ab) (p1:Aa) (p2:ByteArray):Option (AG × Ab) :=
 (A6 p0 3).bind fun x14 =>
 (Cg d x14.2 p1 x14.1).bind fun x15 =>
 (B4 x15.2 p1).bind fun x19 =>
 (A6 x19.2 4).bind fun x21 =>
 bif (x21.1==1) then
  (CW x21.2 p1).bind fun x60 =>
  some (({ Name:=p2,Kind:=1,Filter:=x15.1,Dims:=x60.1,Measure:=x19.1,Terms:=[],Event:=({ Op:=0,Column:=0,Code:=0,Low:=0,High:=0,Kids:=[] }:Af) }:AG),x60.2)
 else
  bif (x21.1==2) then
   (F8 x21.2 p1 x19.1).bind fun x31 =>
   bif (decide (((x31.1.length:Nat):Int) > 0)) then
    some (({ Name:=p2,Kind:=2,Filter:=x15.1,Dims:=[],Measure:=x19.1,Terms:=x31.1,Event:=({ Op:=0,Column:=0,Code:=0,Low:=0,High:=0,Kids:=[] }:Af) }:AG),x31.2)
   else
    (CW x31.2 p1).bind fun x60 =>
    some (({ Name:=p2,Kind:=1,Filter:=x15.1,Dims:=x60.1,Measure:=(-1),Terms:=[],Event:=({ Op:=0,Column:=0,Code:=0,Low:=0,High:=0,Kids:=[] }:Af) }:AG),x60.2)
  else
   bif (x21.1==3) then
    (idx p1.Columns x19.1).bind fun x46 =>
    bif (decide (x46.Low ≥ 0)) then
     (Cg d x21.2 p1 1).bind fun x53 =>
     some (({ Name:=p2,Kind:=3,Filter:=x15.1,Dims:=[],Measure:=x19.1,Terms:=[],Event:=x53.1 }:AG),x53.2)
    else
     (CW x21.2 p1).bind fun x60 =>
     some (({ Name:=p2,Kind:=1,Filter:=x15.1,Dims:=x60.1,Measure:=(-1),Terms:=[],Event:=({ Op:=0,Column:=0,Code:=0,Low:=0,High:=0,Kids:=[] }:Af) }:AG),x60.2)
   else
    (CW x21.2 p1).bind fun x60 =>
    some (({ Name:=p2,Kind:=1,Filter:=x15.1,Dims:=x60.1,Measure:=(-1),Terms:=[],Event:=({ Op:=0,Column:=0,Code:=0,Low:=0,High:=0,Kids:=[] }:Af) }:AG),x60.2)
def Dw (x9:ByteArray) (k5_2_1:Int) (k5_3_1:Int) (k5_4_1:Int) (k5_5_1:Int) (k5_6_1:Int) (k5_7_1:(List Af)) (x32:(Int × Ab)) (x25:(Int × Ab)) (x15:(Int × Ab)) (v6_1:Int) (w0_1:Ab) (b50_1:(List AG)):Option (Az × Ab) :=
 some (({ Project:=(({ data:=#[112] }:ByteArray)++x9),Source:=({ data:=#[115,114,99] }:ByteArray),Cohort:=({ Op:=k5_2_1,Column:=k5_3_1,Code:=k5_4_1,Low:=k5_5_1,High:=k5_6_1,Kids:=k5_7_1 }:Af),Sample:=({ Part:=x32.1,Of:=x25.1,Seed:=x15.1 }:H4),Questions:=b50_1 }:Az),w0_1)
def EI (d:Nat) (p1:Aa) (kont1_0:(Int→Ab→(List AG)→Option (Az × Ab))) (rec1:((Int × Ab × (List AG))→Option (Az × Ab))) (v6_1:Int) (w0_1:Ab) (b50_1:(List AG)):Option (Az × Ab) :=
 bif (decide (v6_1 > 0)) then
  (CY v6_1).bind fun x46 =>
  bif (decide (({ data:=#[113] }:ByteArray).size + x46.size≤9223372036854775807)) then
   (Do d w0_1 p1 (({ data:=#[113] }:ByteArray)++x46)).bind fun x48 =>
   bif rm b50_1.length [x48.1].length then
    rec1 ((IntKind.i64.wrap (v6_1 - 1)),x48.2,(b50_1++[x48.1]))
   else none
  else none
 else
  kont1_0 v6_1 w0_1 b50_1
def Dx (x9:ByteArray) (k5_2_1:Int) (k5_3_1:Int) (k5_4_1:Int) (k5_5_1:Int) (k5_6_1:Int) (k5_7_1:(List Af)) (x15:(Int × Ab)) (v6_2:Int) (w0_2:Ab) (b50_2:(List AG)):Option (Az × Ab) :=
 some (({ Project:=(({ data:=#[112] }:ByteArray)++x9),Source:=({ data:=#[115,114,99] }:ByteArray),Cohort:=({ Op:=k5_2_1,Column:=k5_3_1,Code:=k5_4_1,Low:=k5_5_1,High:=k5_6_1,Kids:=k5_7_1 }:Af),Sample:=({ Part:=1,Of:=1,Seed:=x15.1 }:H4),Questions:=b50_2 }:Az),w0_2)
def EH (d:Nat) (p1:Aa) (kont2_0:(Int→Ab→(List AG)→Option (Az × Ab))) (rec2:((Int × Ab × (List AG))→Option (Az × Ab))) (v6_2:Int) (w0_2:Ab) (b50_2:(List AG)):Option (Az × Ab) :=
 bif (decide (v6_2 > 0)) then
  (CY v6_2).bind fun x46 =>
  bif (decide (({ data:=#[113] }:ByteArray).size + x46.size≤9223372036854775807)) then
   (Do d w0_2 p1 (({ data:=#[113] }:ByteArray)++x46)).bind fun x48 =>
   bif rm b50_2.length [x48.1].length then
    rec2 ((IntKind.i64.wrap (v6_2 - 1)),x48.2,(b50_2++[x48.1]))
   else none
  else none
 else
  kont2_0 v6_2 w0_2 b50_2
def BZ (d:Nat) (p1:Aa) (x9:ByteArray) (x15:(Int × Ab)) (k0_1:Ab) (k5_2_1:Int) (k5_3_1:Int) (k5_4_1:Int) (k5_5_1:Int) (k5_6_1:Int) (k5_7_1:(List Af)):Option (Az × Ab) :=
 (Ce k0_1 3).bind fun x23 =>
 bif x23.1 then
  (AJ x23.2 2 5).bind fun x25 =>
  (AJ x25.2 1 x25.1).bind fun x32 =>
  (AJ x32.2 1 3).bind fun x36 =>
  iter (fun rec1 s=>EI d p1 (Dw x9 k5_2_1 k5_3_1 k5_4_1 k5_5_1 k5_6_1 k5_7_1 x32 x25 x15) rec1 s.1 s.2.1 s.2.2) A8 (x36.1,x36.2,[])
 else
  (AJ x23.2 1 3).bind fun x36 =>
  iter (fun rec2 s=>EH d p1 (Dx x9 k5_2_1 k5_3_1 k5_4_1 k5_5_1 k5_6_1 k5_7_1 x15) rec2 s.1 s.2.1 s.2.2) A8 (x36.1,x36.2,[])
def Dg (d:Nat) (p0:Ab) (p1:Aa):Option (Az × Ab) :=
 (A6 p0 3).bind fun x8 =>
 (CY x8.1).bind fun x9 =>
 bif (decide (({ data:=#[112] }:ByteArray).size + x9.size≤9223372036854775807)) then
  (Cg d x8.2 p1 1).bind fun x13 =>
  (A6 x13.2 999).bind fun x15 =>
  (Ce x15.2 3).bind fun x19 =>
  bif x19.1 then
   BZ d p1 x9 x15 x19.2 1 0 0 0 0 []
  else
   BZ d p1 x9 x15 x19.2 x13.1.Op x13.1.Column x13.1.Code x13.1.Low x13.1.High x13.1.Kids
 else none
def E1 (d:Nat) (p0:Ab) (p1:Int):Option (BC × Az × Aw × Ab) :=
 (Ck p0 p1).bind fun x15 =>
 (Dg d x15.2 x15.1.Schema).bind fun x19 =>
 (Mc d x15.1.Schema x19.1).bind fun x24 =>
 (Ce x19.2 3).bind fun x28 =>
 bif x28.1 then
  (MZ x15.1.Schema).bind fun x32 =>
  (Df x28.2).bind fun x40 =>
  (EX d x15.1 x19.1 x32.2 x40.1).bind fun x41 =>
  some (x15.1,x19.1,x41.1,x40.2)
 else
  (Df x28.2).bind fun x40 =>
  (EX d x15.1 x19.1 x24.1 x40.1).bind fun x41 =>
  some (x15.1,x19.1,x41.1,x40.2)
def ED (x62:(Af × Ab)) (x45:(BC × Aw × Ab)) (d:Nat) (x51:(BC × Az × Aw × Ab)) (x59:(Af × Ab)) (p1:Int) (p2:Af):Option Bool :=
 (B4 x62.2 x45.1.Schema).bind fun x107 =>
 (C4 d x45.1.Schema x51.2.2.1 x107.1 x59.1 x62.1).bind fun x114 =>
 (D6 d x45.1.Schema x51.2.2.1 x107.1 x59.1 x62.1).bind fun x124 =>
 (Np p1 8).bind fun x132 =>
 (C4 d x45.1.Schema x45.2.1 x132 p2 x62.1).bind fun x135 =>
 (Np p1 8).bind fun x143 =>
 (D6 d x45.1.Schema x45.2.1 x143 p2 x62.1).bind fun x146 =>
 bif (bif (x114.2.2==x124.2.2) then (x135.2.2==x146.2.2) else false) then
  (Pq).bind fun x159 =>
  some x159
 else
  some false
def GT (x45:(BC × Aw × Ab)) (d:Nat) (x59:(Af × Ab)) (x62:(Af × Ab)) (kont1_0:(Int→Option Bool)) (rec1:(Int→Option Bool)) (v16_1:Int):Option Bool :=
 bif (decide (v16_1≤((x45.1.Schema.Columns.length:Nat):Int))) then
  (C4 d x45.1.Schema x45.2.1 v16_1 x59.1 x62.1).bind fun x76 =>
  (D6 d x45.1.Schema x45.2.1 v16_1 x59.1 x62.1).bind fun x86 =>
  bif (x76.2.2 != x86.2.2) then
   some false
  else
   (LZ x76.1 x86.1).bind fun x96 =>
   bif (!x96) then
    some false
   else
    (LG x76.2.1 x86.2.1).bind fun x102 =>
    bif (!x102) then
     some false
    else
     rec1 (IntKind.i64.wrap (v16_1 + 1))
 else
  kont1_0 v16_1
def Gx (d:Nat) (p0:(List Int)) (p1:Int) (p2:Af):Option Bool :=
 bif (decide (((p2.Kids.length:Nat):Int) > 3)) then
  (Pq).bind fun x40 =>
  some x40
 else
  (Ng p0).bind fun x42 =>
  (FB d x42 10).bind fun x45 =>
  (Ng p0).bind fun x50 =>
  (E1 d x50 6).bind fun x51 =>
  (Cg d x45.2.2 x45.1.Schema 1).bind fun x59 =>
  (Cg d x59.2 x45.1.Schema 1).bind fun x62 =>
  iter (fun rec1 s=>GT x45 d x59 x62 (fun v16_1=>ED x62 x45 d x51 x59 p1 p2) rec1 s) A8 (-1)
end Go.Proofs.YtejfnieiaecpkaaGreatDoor.P
set_option linter.unusedSimpArgs false
namespace Go.Proofs.YtejfnieiaecpkaaGreatDoor.P
open Go.Abs Go.Proofs
set_option linter.unusedVariables false
theorem Db {p:Prop} (h:p:=by first | rfl | simp only [List.length_map,cond_true,cond_false]):p:=h
theorem JJ {p:Prop} (h:p:=by first | rfl | (simp only [List.length_map]; rfl)):p:=h
theorem jZ {p:Prop} (h:p:=by repeat (first | exact trivial | refine And.intro (by first | with_reducible rfl | rfl | exact .inl rfl | exact .inr rfl | (simp only [List.length_map]; done) | (simp only [List.length_map]; rfl) | (simp only [Ax,A9,Bb,Bp,Al,List.map_cons,List.map_nil,List.length_map]; done) | (simp only [Ax,A9,Bb,Bp,Al,List.map_cons,List.map_nil,List.length_map]; rfl) | (simp only [List.map_append,List.map_cons,List.map_nil]; rfl)) ?_)):p:=h
theorem PZ {p:Prop} (h:p:=by first | rfl | (simp only [List.length_map]; rfl) | (simp only [Ax,A9,Bb,Bp,Al,List.map_cons,List.map_nil,List.length_map]; rfl)):p:=h
theorem jP {p:Prop} (h:p:=by repeat (first | exact trivial | refine And.intro (by first | with_reducible rfl | rfl | exact .inl rfl | exact .inr rfl | (simp only [List.length_map]; done) | (simp only [List.length_map]; rfl) | (simp only [WB]; rfl) | (simp only [List.map_append,List.map_cons,List.map_nil]; rfl)) ?_)):p:=h
theorem AW {ρ:Type} {b b':Bool} {x y:Prop} {X Y:Option ρ} {R:ρ} (h:(bif b' then X else Y) = some R) (h1:X = some R→x) (h2:Y = some R→y) (e:b = b':=by first | rfl | simp only [List.length_map,cond_true,cond_false]):Bool.rec y x b:=i7 h e h1 h2
theorem A7 {α ρ:Type} {m:Option α} {G:α→Option ρ} {R:ρ} {P:Program} {f:FuncId} {args margs:List AV} {K:AV→Prop} {KM:List AV→AV→Prop} {r:α→AV} (h:m.bind G = some R) (c:∀ x,m = some x→Aj P f args (r x)) (k:∀ x,G x = some R→K (r x)):Kw P f args K margs KM:=by
 obtain ⟨x,hx,h⟩:=AB h
 exact Au (c x hx) (k x h)
theorem KP {α ρ:Type} {m:Option α} {G:α→Option ρ} {R:ρ} {P:Program} {f:FuncId} {args margs:List AV} {K:AV→Prop} {KM:List AV→AV→Prop} {outs:α→List AV} {r:α→AV} (h:m.bind G = some R) (c:∀ x,m = some x→Ej P f margs (outs x) (r x)) (k:∀ x,G x = some R→KM (outs x) (r x)):Kw P f args K margs KM:=by
 obtain ⟨x,hx,h⟩:=AB h
 exact Cs (c x hx) (k x h)
theorem AO {α ρ:Type} {xs:List α} {i j:Int} {f:α→D} {K:D→Prop} {G:α→Option ρ} {R:ρ} (h:(idx xs i).bind G = some R) (k:∀ x,idx xs i = some x→G x = some R→K (f x)) (e:j = i:=by first | rfl | simp only [List.length_map,cond_true,cond_false]):At (xs.map f) j K:=dH h e k
theorem BE {ι:Type} {Inv:ι→AS} {μ:ι→Nat} {S:AS} {m:Nat} (j:ι) (h:Le S (Inv j)) (k:μ j < m:=by exact Nat.lt_succ_self _):∃ j,Le S (Inv j)∧μ j < m:=⟨j,h,k⟩
theorem Ch {P:Program} {f:FuncId} {fn:Func} {args:List AV} {r:AV} (hf:P.funcs[f]? = some fn) (hr:jl P fn args r) (hname:(fn.name == "runtime.NumGoroutine") = false:=by kernel_rfl):Aj P f args r:=Co hf hname hr
theorem M4 {ρ:Type} {b b':Bool} {x y:Prop} {E F R:ρ} (h:(bif b' then some E else some F) = some R) (h1:some E = some R→x:=by intro h; cases h; (conv=>whnf); exact ⟨by first | rfl | (simp only [List.length_map]; rfl) | (simp only [Ax,A9,Bb,Bp,Al,List.map_cons,List.map_nil,List.length_map]; rfl)⟩) (h2:some F = some R→y:=by intro h; cases h; (conv=>whnf); exact ⟨by first | rfl | (simp only [List.length_map]; rfl) | (simp only [Ax,A9,Bb,Bp,Al,List.map_cons,List.map_nil,List.length_map]; rfl)⟩) (e:b = b':=by first | rfl | simp only [List.length_map,cond_true,cond_false]):Bool.rec y x b:=i7 h e h1 h2
theorem EC {ρ:Type} {b b':Bool} {x y:Prop} {E F R:ρ} (h:(bif b' then some E else some F) = some R) (h1:some E = some R→x:=by intro h; cases h; (conv=>whnf); exact ⟨by first | rfl | (simp only [List.length_map]; rfl)⟩) (h2:some F = some R→y:=by intro h; cases h; (conv=>whnf); exact ⟨by first | rfl | (simp only [List.length_map]; rfl)⟩) (e:b = b':=by first | rfl | simp only [List.length_map,cond_true,cond_false]):Bool.rec y x b:=i7 h e h1 h2
theorem Cb {ρ:Type} {b b':Bool} {x y:Prop} {E R:ρ} {Y:Option ρ} (h:(bif b' then Y else some E) = some R) (h2:Y = some R→x) (h1:some E = some R→y:=by intro h; cases h; (conv=>whnf); exact ⟨by first | rfl | (simp only [List.length_map]; rfl) | (simp only [Ax,A9,Bb,Bp,Al,List.map_cons,List.map_nil,List.length_map]; rfl)⟩) (e:b = b':=by first | rfl | simp only [List.length_map,cond_true,cond_false]):Bool.rec y x b:=i7 h e h2 h1
theorem Bj {ρ:Type} {b b':Bool} {x y:Prop} {E R:ρ} {Y:Option ρ} (h:(bif b' then Y else some E) = some R) (h2:Y = some R→x) (h1:some E = some R→y:=by intro h; cases h; (conv=>whnf); exact ⟨by first | rfl | (simp only [List.length_map]; rfl)⟩) (e:b = b':=by first | rfl | simp only [List.length_map,cond_true,cond_false]):Bool.rec y x b:=i7 h e h2 h1
theorem A2 {ρ:Type} {b b':Bool} {x y:Prop} {E R:ρ} {Y:Option ρ} (h:(bif b' then some E else Y) = some R) (h2:Y = some R→y) (h1:some E = some R→x:=by intro h; cases h; (conv=>whnf); exact ⟨by first | rfl | (simp only [List.length_map]; rfl) | (simp only [Ax,A9,Bb,Bp,Al,List.map_cons,List.map_nil,List.length_map]; rfl)⟩) (e:b = b':=by first | rfl | simp only [List.length_map,cond_true,cond_false]):Bool.rec y x b:=i7 h e h1 h2
theorem An {ρ:Type} {b b':Bool} {x y:Prop} {E R:ρ} {Y:Option ρ} (h:(bif b' then some E else Y) = some R) (h2:Y = some R→y) (h1:some E = some R→x:=by intro h; cases h; (conv=>whnf); exact ⟨by first | rfl | (simp only [List.length_map]; rfl)⟩) (e:b = b':=by first | rfl | simp only [List.length_map,cond_true,cond_false]):Bool.rec y x b:=i7 h e h1 h2
theorem Ah {S S':AS} (h:Gq S' (fun S'=>Le S S'):=by (conv=>whnf); repeat (first | exact trivial | refine And.intro (by first | with_reducible rfl | rfl | exact .inl rfl | exact .inr rfl | (simp only [List.length_map]; done) | (simp only [List.length_map]; rfl) | (simp only [List.map_append,List.map_cons,List.map_nil]; rfl)) ?_)):Le S S':=Nv h
theorem Aq {S S':AS} (h:Gq S' (fun S'=>Le S S'):=by (conv=>whnf); repeat (first | exact trivial | refine And.intro (by first | with_reducible rfl | rfl | exact .inl rfl | exact .inr rfl | (simp only [List.length_map]; done) | (simp only [List.length_map]; rfl) | (simp only [Ax,A9,Bb,Bp,Al,List.map_cons,List.map_nil,List.length_map]; done) | (simp only [Ax,A9,Bb,Bp,Al,List.map_cons,List.map_nil,List.length_map]; rfl) | (simp only [List.map_append,List.map_cons,List.map_nil]; rfl)) ?_)):Le S S':=Nv h
theorem Mx {S S':AS} (h:Gq S' (fun S'=>Le S S'):=by (conv=>whnf); repeat (first | exact trivial | refine And.intro (by first | with_reducible rfl | rfl | exact .inl rfl | exact .inr rfl | (simp only [List.length_map]; done) | (simp only [List.length_map]; rfl) | (simp only [WB]; rfl) | (simp only [List.map_append,List.map_cons,List.map_nil]; rfl)) ?_)):Le S S':=Nv h
theorem AM {ρ:Type} {E R:ρ} {x:Prop} (h:some E = some R) (k:some E = some R→x:=by intro h; cases h; (conv=>whnf); exact ⟨by first | rfl | (simp only [List.length_map]; rfl) | (simp only [Ax,A9,Bb,Bp,Al,List.map_cons,List.map_nil,List.length_map]; rfl)⟩):x:=k h
theorem A3 {ρ:Type} {E R:ρ} {x:Prop} (h:some E = some R) (k:some E = some R→x:=by intro h; cases h; (conv=>whnf); exact ⟨by first | rfl | (simp only [List.length_map]; rfl)⟩):x:=k h
theorem z3 {σ ρ:Type} {body:(σ→Option ρ)→σ→Option ρ} {n:Nat} {s0:σ} {R:ρ} {S:AS} {W:((Exit→AS→Prop)→AS→Prop)} {Q:Exit→AS→Prop} (h:iter body n s0 = some R) (I:σ→AS) (hl:Le S (I s0)) (k:∀ (Φ:Nat→σ→Option ρ) (n:Nat) (s:σ),body (Φ n) s = some R→Gq (I s) (W (fun e S=>match e with | .normal=>∃ j:{p:Nat × σ // Φ p.1 p.2 = some R},Le S (I j.1.2)∧j.1.1 < n + 1 | e=>Q e S))):Sk S W Q:=by
 obtain ⟨Φ,i,h⟩:=A4 h
 exact loop {p:Nat × σ // Φ p.1 p.2 = some R} (fun p=>I p.1.2) (fun p=>p.1.1) ⟨(n,s0),h⟩ hl fun ⟨⟨a,b⟩,h⟩=>by
  obtain ⟨a,rfl,h⟩:=i _ _ h
  exact k Φ a b h
theorem z4 {A B:Prop} (b:B) (a:A:=by (simp only [List.length_map]; exact Bm hr (of_decide_eq_true (by kernel_rfl)) (.inr (by kernel_rfl)))):JR A B:=⟨a,b⟩
theorem z5 {A B:Prop} (b:B) (a:A:=by first | (intro x hx y hy; obtain ⟨n,_,rfl⟩:=List.mem_map.1 hx; simp [D.cells] at hy; subst hy; rfl) | exact fun x hx=>absurd hx (by simp)):JR A B:=⟨a,b⟩
theorem z6 {A B:Prop} (b:B) (a:A:=by first | exact Qo hr (of_decide_eq_true (by kernel_rfl)) | (simp only [List.length_map]; exact Qo hr (of_decide_eq_true (by kernel_rfl)))):JR A B:=⟨a,b⟩
theorem z7 {A B:Prop} (b:B) (a:A:=by first | exact of_decide_eq_true hr | (simp only [List.length_map]; exact of_decide_eq_true hr)):JR A B:=⟨a,b⟩
theorem z8 {A B:Prop} (b:B) (a:A:=by first | rfl | (simp only [List.length_map]; rfl)):JR A B:=⟨a,b⟩
theorem z9 {A B:Prop} (b:B) (a:A:=by first | rfl | (simp only [List.length_map]; rfl) | (simp only [Ax,A9,Bb,Bp,Al,List.map_cons,List.map_nil,List.length_map]; rfl)):JR A B:=⟨a,b⟩
theorem z10 {A B:Prop} (b:B) (a:A:=by exact of_decide_eq_true hr):JR A B:=⟨a,b⟩
theorem z11 {A B:Prop} (b:B) (a:A:=by exact ⟨by decide +kernel,by kernel_rfl⟩):JR A B:=⟨a,b⟩
theorem z12 {p:Prop} (h:p:=by refine An h fun h=>?_; (conv=>whnf); exact BE ⟨(_,_),h⟩ Ah):p:=h
theorem z13 {p:Prop} (h:p:=by obtain rfl:=Option.some.inj h; refine z8 ?_; (conv=>whnf); exact ⟨JJ⟩):p:=h
theorem z14 {p:Prop} (h:p:=by obtain rfl:=Option.some.inj h; refine ⟨.inl ?_⟩; (conv=>whnf); exact ⟨JJ⟩):p:=h
theorem z15 {p:Prop} (h:p:=by (conv=>whnf); exact BE ⟨(_,(_,_)),h⟩ Ah):p:=h
theorem z16 {p:Prop} (h:p:=by obtain rfl:=Option.some.inj h; refine ⟨.inl ?_⟩; (conv=>whnf); exact ⟨PZ⟩):p:=h
theorem z17 {p:Prop} (h:p:=by (conv=>whnf); exact ⟨⟨_,h⟩,Aq⟩):p:=h
theorem z18 {p:Prop} (h:p:=by (conv=>whnf); exact BE ⟨(_,(_,_,_)),h⟩ Ah):p:=h
theorem z19 {p:Prop} (h:p:=by (conv=>whnf); exact BE ⟨(_,(_,_)),h⟩ Aq):p:=h
theorem z20 {p:Prop} (h:p:=by obtain rfl:=Option.some.inj h; refine z9 ?_; (conv=>whnf); exact ⟨PZ⟩):p:=h
theorem z21 {p:Prop} (h:p:=by (conv=>whnf); exact ⟨⟨(_,_,_,_,_,_,_),h⟩,Aq⟩):p:=h
theorem z22 {p:Prop} (h:p:=by refine (by intros; rename_i h; cases h)):p:=h
theorem z23 {p:Prop} (h:p:=by refine An h fun h=>?_; (conv=>whnf); exact ⟨⟨(),h⟩,Ah⟩):p:=h
theorem z24 {p:Prop} (h:p:=by (conv=>whnf); exact z13):p:=h
theorem z25 {p:Prop} (h:p:=by (conv=>whnf); obtain ⟨x47,hx47,h⟩:=AB h; refine Vv (EB _ _ _ _ hx47) ?_; exact z17):p:=h
theorem z26 {p:Prop} (h:p:=by obtain ⟨hr,h⟩:=Eg h; refine z4 ?_; (try rw [KU]); exact z15):p:=h
theorem z27 {p:Prop} (h:p:=by (conv=>whnf); obtain ⟨x59,hx59,h⟩:=AB h; refine Au (BA _ _ _ _ _ (fun a0 _ h=>ih_program_right_c1 a0 _ _ h) hx59) ?_; exact AM h):p:=h
theorem z28 {p:Prop} (h:p:=by refine A2 h fun h=>?_; (conv=>whnf); exact BE ⟨(_,_),h⟩ Aq):p:=h
theorem z29 {p:Prop} (h:p:=by (conv=>whnf); obtain ⟨x64,hx64,h⟩:=AB h; refine Au (Fq _ _ _ _ hx64) ?_; exact z17):p:=h
theorem z30 {p:Prop} (h:p:=by obtain ⟨hr,h⟩:=Eg h; refine z4 ?_; (try rw [Dn]); exact z18):p:=h
theorem z31 {p:Prop} (h:p:=by (conv=>whnf); exact z14):p:=h
theorem z32 {p:Prop} (h:p:=by obtain ⟨x49,hx49,h⟩:=AB h; refine Au (DU _ _ hx49) ?_; refine A2 h fun h=>?_; exact z27):p:=h
theorem z33 {p:Prop} (h:p:=by (conv=>whnf); refine ⟨.inl ?_⟩; (conv=>whnf); exact ⟨PZ⟩):p:=h
theorem z34 {p:Prop} (h:p:=by (conv=>whnf); obtain rfl:=Option.some.inj h; refine ⟨.inl ?_⟩; exact z33):p:=h
theorem z35 {p:Prop} (h:p:=by refine A2 h fun h=>?_; (conv=>whnf); exact ⟨⟨(),h⟩,Aq⟩):p:=h
theorem z36 {p:Prop} (h:p:=by (conv=>whnf); obtain ⟨x60,hx60,h⟩:=AB h; refine Cs (Ha _ _ _ hx60) ?_; exact z24):p:=h
theorem z37 {p:Prop} (h:p:=by (conv=>whnf); obtain ⟨hr,h⟩:=Eg h; refine z10 ?_; exact EC h):p:=h
theorem z38 {p:Prop} (h:p:=by (conv=>whnf); rw [Kx]; refine A7 h (fun _=>h_p1 _ _) fun x16 h=>?_; exact z12):p:=h
theorem z39 {p:Prop} (h:p:=by exact BE ⟨(_,_),h⟩ Ah):p:=h
theorem z40 {p:Prop} (h:p:=by (conv=>whnf); exact ⟨⟨(_,_,_,_,_),h⟩,Aq⟩):p:=h
theorem z41 {p:Prop} (h:p:=by obtain ⟨x71,hx71,h⟩:=AB h; refine Au (DU _ _ hx71) ?_; exact AM h):p:=h
theorem z42 {p:Prop} (h:p:=by obtain ⟨x12,hx12,h⟩:=AB h; (first | refine Cs (A1 _ _ _ hx12) ?_ | (simp only [List.length_map]; refine Cs (A1 _ _ _ hx12) ?_)); refine AO (f:=(D.int .i64)) h fun x13 _ h=>?_; exact z24):p:=h
theorem z43 {p:Prop} (h:p:=by obtain ⟨hr,h⟩:=Eg h; refine z4 ?_; (try rw [KU]); exact z19):p:=h
theorem z44 {p:Prop} (h:p:=by (conv=>whnf); refine z11 ?_; exact A3 h):p:=h
theorem z45 {p:Prop} (h:p:=by obtain ⟨hr,h⟩:=Eg h; refine z10 ?_; exact z12):p:=h
theorem z46 {p:Prop} (h:p:=by (conv=>whnf); exact z16):p:=h
theorem z47 {p:Prop} (h:p:=by (conv=>whnf); obtain ⟨x29,hx29,h⟩:=AB h; refine Au (CE _ _ _ hx29) ?_; exact AM h):p:=h
theorem z48 {p:Prop} (h:p:=by (conv=>whnf); obtain ⟨x49,hx49,h⟩:=AB h; refine Au (KF _ _ hx49) ?_; exact EC h):p:=h
theorem z49 {p:Prop} (h:p:=by (conv=>whnf); refine ⟨.inl ?_⟩; (conv=>whnf); exact ⟨JJ⟩):p:=h
theorem z50 {p:Prop} (h:p:=by (conv=>whnf); obtain rfl:=Option.some.inj h; refine z8 ?_; exact z49):p:=h
theorem z51 {p:Prop} (h:p:=by (conv=>whnf); (try rw [cz]); exact BE ⟨(_,(_,_)),h⟩ Aq):p:=h
theorem z52 {p:Prop} (h:p:=by (conv=>whnf); exact ⟨⟨(),h⟩,Ah⟩):p:=h
theorem z53 {p:Prop} (h:p:=by refine An h fun h=>?_; obtain ⟨hr,h⟩:=Eg h; refine z10 ?_; exact z23):p:=h
end Go.Proofs.YtejfnieiaecpkaaGreatDoor.P
