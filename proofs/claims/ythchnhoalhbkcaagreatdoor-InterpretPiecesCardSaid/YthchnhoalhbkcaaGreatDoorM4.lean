/- M4 -/
import Derived.Test.YthchnhoalhbkcaaGreatDoorM3
import Derived.Lib.ItoaNum
import Derived.Lib.SlicesCompact
import Derived.Deep.OwnRows
import Derived.Deep.Slices
open Go.IntKind (i8 i64 u64)
set_option linter.unusedVariables false
set_option linter.unusedSimpArgs false
namespace Go.Proofs.YthchnhoalhbkcaaGreatDoor.P
open Go.Abs Go.Proofs
structure Ab where
 Ak:List Int:=[]
 Ai:Int:=0
structure DG where
 H:ByteArray:=ByteArray.empty
 A7:Int:=0
structure Am where
 H:ByteArray:=ByteArray.empty
 Q:List DG:=[]
structure Ar where
 H:ByteArray:=ByteArray.empty
 (Kind Al C D:Int:=0)
 T:List Int:=[]
 Az:Bool:=false
structure Aa where
 J:List Am:=[]
 A:List Ar:=[]
structure BW where
 Ao:Aa:={}
 G:List (List Int):=[]
 Bo:List Int:=[]
 Ag:Int:=0
structure Aj where
 (Op B Z C D:Int:=0)
 E:List Aj:=[]
structure Ii where
 (Bl Of Bm:Int:=0)
structure Ad where
 (B S:Int:=0)
structure BA where
 H:ByteArray:=ByteArray.empty
 Kind:Int:=0
 Bc:Aj:={}
 Ac:List Ad:=[]
 Ah:Int:=0
 Aw:List Int:=[]
 U:Aj:={}
structure AY where
 (Af Bu:ByteArray:=ByteArray.empty)
 Bd:Aj:={}
 Be:Ii:={}
 Bn:List BA:=[]
structure As where
 Af:ByteArray:=ByteArray.empty
 Ag:Int:=0
 X:List Ad:=[]
 G:List (List Int):=[]
structure Ap where
 (Op L:Int:=0)
 H:ByteArray:=ByteArray.empty
 B:Int:=0
 A:List Int:=[]
 Ac:List Ad:=[]
 (V U:Aj:={})
 E:List Ap:=[]
structure Au where
 H:ByteArray:=ByteArray.empty
 A0:Bool:=false
 An:Ap:={}
structure AW where
 (Bt Br Bp Bv Bw Bk Bq:Bool:=false)
structure AI where
 (L N:Int:=0)
structure Aq where
 Q:List Int:=[]
 (Y A4 A5 A6 A8:Int:=0)
 G:List Int:=[]
structure D5 where
 Ac:List Ad:=[]
 Ah:Int:=0
 Av:List Aq:=[]
structure Cf where
 Ah:Int:=0
 Aw:List Int:=[]
 A3:List AI:=[]
 (A1 A2:AI:={})
 (Y Bb:Int:=0)
structure Ba where
 (Bx By Bz B0:Int:=0)
 Bs:AI:={}
structure D4 where
 (C Y:Int:=0)
structure Oo where
 (Y Bf Bg Bh Bi Bj:Int:=0)
structure AA where
 Kind:Int:=0
 Number:AI:={}
 Table:D5:={}
 Model:Cf:={}
 Curve:List Ba:=[]
 Hist:List D4:=[]
 Box:Oo:={}
 Lineage:List Int:=[]
structure A9 where
 H:ByteArray:=ByteArray.empty
 A0:Bool:=false
 At:AA:={}
structure DJ where
 Ae:Aa:={}
 K:As:={}
structure Ay where
 I:DJ:={}
 Ax:List A9:=[]
structure AM where
 (D C:Int:=0)
def Ik(x:Ab):D:=.agg [(An 1 (D.int .u8) x.Ak),(.int .i64 x.Ai)]
theorem X9(xs:List Ab)(a0:List Int)(a1:Int):xs.map Ik++[D.agg [(D.list 1 (List.map (D.int .u8) a0)),(.int .i64 a1)]]=(xs++[({ Ak:=a0,Ai:=a1 }:Ab)]).map Ik:=by simp[Ik,An]
theorem Ye(xs:List Ab)(i:Nat)(a0:List Int)(a1:Int):(xs.map Ik).set i (D.agg [(D.list 1 (List.map (D.int .u8) a0)),(.int .i64 a1)])=(xs.set i ({ Ak:=a0,Ai:=a1 }:Ab)).map Ik:=by rw[q7];rfl
def DT(x:DG):D:=.agg [(.str x.H),(.int .i64 x.A7)]
theorem dR(xs:List DG)(a0:ByteArray)(a1:Int):xs.map DT++[D.agg [(.str a0),(.int .i64 a1)]]=(xs++[({ H:=a0,A7:=a1 }:DG)]).map DT:=by simp[DT,An]
theorem iv(xs:List DG)(i:Nat)(a0:ByteArray)(a1:Int):(xs.map DT).set i (D.agg [(.str a0),(.int .i64 a1)])=(xs.set i ({ H:=a0,A7:=a1 }:DG)).map DT:=by rw[q7];rfl
def Ah(x:Am):D:=.agg [(.str x.H),(An 2 DT x.Q)]
theorem X7(xs:List Am)(a0:ByteArray)(a1:List DG):xs.map Ah++[D.agg [(.str a0),(D.list 2 (List.map DT a1))]]=(xs++[({ H:=a0,Q:=a1 }:Am)]).map Ah:=by simp[Ah,An]
theorem Yc(xs:List Am)(i:Nat)(a0:ByteArray)(a1:List DG):(xs.map Ah).set i (D.agg [(.str a0),(D.list 2 (List.map DT a1))])=(xs.set i ({ H:=a0,Q:=a1 }:Am)).map Ah:=by rw[q7];rfl
def Al(x:Ar):D:=.agg [(.str x.H),(.int .i64 x.Kind),(.int .i64 x.Al),(.int .i64 x.C),(.int .i64 x.D),(An 1 (D.int .i64) x.T),(.bool x.Az)]
theorem Mu(xs:List Ar)(a0:ByteArray)(a1:Int)(a2:Int)(a3:Int)(a4:Int)(a5:List Int)(a6:Bool):xs.map Al++[D.agg [(.str a0),(.int .i64 a1),(.int .i64 a2),(.int .i64 a3),(.int .i64 a4),(D.list 1 (List.map (D.int .i64) a5)),(.bool a6)]]=(xs++[({ H:=a0,Kind:=a1,Al:=a2,C:=a3,D:=a4,T:=a5,Az:=a6 }:Ar)]).map Al:=by simp[Al,An]
theorem bY(xs:List Ar)(i:Nat)(a0:ByteArray)(a1:Int)(a2:Int)(a3:Int)(a4:Int)(a5:List Int)(a6:Bool):(xs.map Al).set i (D.agg [(.str a0),(.int .i64 a1),(.int .i64 a2),(.int .i64 a3),(.int .i64 a4),(D.list 1 (List.map (D.int .i64) a5)),(.bool a6)])=(xs.set i ({ H:=a0,Kind:=a1,Al:=a2,C:=a3,D:=a4,T:=a5,Az:=a6 }:Ar)).map Al:=by rw[q7];rfl
def Cq(x:Aa):D:=.agg [(An 2 Ah x.J),(An 7 Al x.A)]
theorem ZL(xs:List Aa)(a0:List Am)(a1:List Ar):xs.map Cq++[D.agg [(D.list 2 (List.map Ah a0)),(D.list 7 (List.map Al a1))]]=(xs++[({ J:=a0,A:=a1 }:Aa)]).map Cq:=by simp[Cq,An]
theorem ca(xs:List Aa)(i:Nat)(a0:List Am)(a1:List Ar):(xs.map Cq).set i (D.agg [(D.list 2 (List.map Ah a0)),(D.list 7 (List.map Al a1))])=(xs.set i ({ J:=a0,A:=a1 }:Aa)).map Cq:=by rw[q7];rfl
def Jk(x:BW):D:=.agg [(An 2 Ah x.Ao.J),(An 7 Al x.Ao.A),(An 1 (An 1 (D.int .i64)) x.G),(An 1 (D.int .i64) x.Bo),(.int .i64 x.Ag)]
theorem ZM(xs:List BW)(a0:List Am)(a1:List Ar)(a2:List (List Int))(a3:List Int)(a4:Int):xs.map Jk++[D.agg [(D.list 2 (List.map Ah a0)),(D.list 7 (List.map Al a1)),(D.list 1 (List.map (An 1 (D.int .i64)) a2)),(D.list 1 (List.map (D.int .i64) a3)),(.int .i64 a4)]]=(xs++[({ Ao:=({ J:=a0,A:=a1 }:Aa),G:=a2,Bo:=a3,Ag:=a4 }:BW)]).map Jk:=by simp[Jk,An]
theorem cd(xs:List BW)(i:Nat)(a0:List Am)(a1:List Ar)(a2:List (List Int))(a3:List Int)(a4:Int):(xs.map Jk).set i (D.agg [(D.list 2 (List.map Ah a0)),(D.list 7 (List.map Al a1)),(D.list 1 (List.map (An 1 (D.int .i64)) a2)),(D.list 1 (List.map (D.int .i64) a3)),(.int .i64 a4)])=(xs.set i ({ Ao:=({ J:=a0,A:=a1 }:Aa),G:=a2,Bo:=a3,Ag:=a4 }:BW)).map Jk:=by rw[q7];rfl
mutual
def A4:Aj->D
 | ⟨Op,Column,Code,Low,High,Kids⟩=>.agg [(.int .i64 Op),(.int .i64 Column),(.int .i64 Code),(.int .i64 Low),(.int .i64 High),(.list 6 (Oy Kids))]
def Oy:List Aj->List D
 | []=>[]
 | x :: r=>A4 x :: Oy r
end
theorem TB:∀l:List Aj,Oy l=l.map A4
 | []=>by simp[Oy]
 | x :: r=>by simp[Oy,TB r]
def BX(x:Aj):D:=.agg [(.int .i64 x.Op),(.int .i64 x.B),(.int .i64 x.Z),(.int .i64 x.C),(.int .i64 x.D),(An 6 A4 x.E)]
theorem AX(x:Aj):A4 x=BX x:=by
 obtain⟨Op,Column,Code,Low,High,Kids⟩:=x;simp only[A4,TB];rfl
theorem dT(xs:List Aj)(a0:Int)(a1:Int)(a2:Int)(a3:Int)(a4:Int)(a5:List Aj):xs.map A4++[D.agg [(.int .i64 a0),(.int .i64 a1),(.int .i64 a2),(.int .i64 a3),(.int .i64 a4),(D.list 6 (List.map A4 a5))]]=(xs++[({ Op:=a0,B:=a1,Z:=a2,C:=a3,D:=a4,E:=a5 }:Aj)]).map A4:=by simp[AX,BX,An]
theorem iw(xs:List Aj)(i:Nat)(a0:Int)(a1:Int)(a2:Int)(a3:Int)(a4:Int)(a5:List Aj):(xs.map A4).set i (D.agg [(.int .i64 a0),(.int .i64 a1),(.int .i64 a2),(.int .i64 a3),(.int .i64 a4),(D.list 6 (List.map A4 a5))])=(xs.set i ({ Op:=a0,B:=a1,Z:=a2,C:=a3,D:=a4,E:=a5 }:Aj)).map A4:=by rw[q7];simp[AX,BX,An]
def KA(x:Ii):D:=.agg [(.int .i64 x.Bl),(.int .i64 x.Of),(.int .i64 x.Bm)]
theorem ZK(xs:List Ii)(a0:Int)(a1:Int)(a2:Int):xs.map KA++[D.agg [(.int .i64 a0),(.int .i64 a1),(.int .i64 a2)]]=(xs++[({ Bl:=a0,Of:=a1,Bm:=a2 }:Ii)]).map KA:=by simp[KA,An]
theorem bZ(xs:List Ii)(i:Nat)(a0:Int)(a1:Int)(a2:Int):(xs.map KA).set i (D.agg [(.int .i64 a0),(.int .i64 a1),(.int .i64 a2)])=(xs.set i ({ Bl:=a0,Of:=a1,Bm:=a2 }:Ii)).map KA:=by rw[q7];rfl
def Ag(x:Ad):D:=.agg [(.int .i64 x.B),(.int .i64 x.S)]
theorem P5(xs:List Ad)(a0:Int)(a1:Int):xs.map Ag++[D.agg [(.int .i64 a0),(.int .i64 a1)]]=(xs++[({ B:=a0,S:=a1 }:Ad)]).map Ag:=by simp[Ag,An]
theorem i6(xs:List Ad)(i:Nat)(a0:Int)(a1:Int):(xs.map Ag).set i (D.agg [(.int .i64 a0),(.int .i64 a1)])=(xs.set i ({ B:=a0,S:=a1 }:Ad)).map Ag:=by rw[q7];rfl
def DL(x:BA):D:=.agg [(.str x.H),(.int .i64 x.Kind),(.int .i64 x.Bc.Op),(.int .i64 x.Bc.B),(.int .i64 x.Bc.Z),(.int .i64 x.Bc.C),(.int .i64 x.Bc.D),(An 6 A4 x.Bc.E),(An 2 Ag x.Ac),(.int .i64 x.Ah),(An 1 (D.int .i64) x.Aw),(.int .i64 x.U.Op),(.int .i64 x.U.B),(.int .i64 x.U.Z),(.int .i64 x.U.C),(.int .i64 x.U.D),(An 6 A4 x.U.E)]
theorem X8(xs:List BA)(a0:ByteArray)(a1:Int)(a2:Int)(a3:Int)(a4:Int)(a5:Int)(a6:Int)(a7:List Aj)(a8:List Ad)(a9:Int)(a10:List Int)(a11:Int)(a12:Int)(a13:Int)(a14:Int)(a15:Int)(a16:List Aj):xs.map DL++[D.agg [(.str a0),(.int .i64 a1),(.int .i64 a2),(.int .i64 a3),(.int .i64 a4),(.int .i64 a5),(.int .i64 a6),(D.list 6 (List.map A4 a7)),(D.list 2 (List.map Ag a8)),(.int .i64 a9),(D.list 1 (List.map (D.int .i64) a10)),(.int .i64 a11),(.int .i64 a12),(.int .i64 a13),(.int .i64 a14),(.int .i64 a15),(D.list 6 (List.map A4 a16))]]=(xs++[({ H:=a0,Kind:=a1,Bc:=({ Op:=a2,B:=a3,Z:=a4,C:=a5,D:=a6,E:=a7 }:Aj),Ac:=a8,Ah:=a9,Aw:=a10,U:=({ Op:=a11,B:=a12,Z:=a13,C:=a14,D:=a15,E:=a16 }:Aj) }:BA)]).map DL:=by simp[DL,An]
theorem Yd(xs:List BA)(i:Nat)(a0:ByteArray)(a1:Int)(a2:Int)(a3:Int)(a4:Int)(a5:Int)(a6:Int)(a7:List Aj)(a8:List Ad)(a9:Int)(a10:List Int)(a11:Int)(a12:Int)(a13:Int)(a14:Int)(a15:Int)(a16:List Aj):(xs.map DL).set i (D.agg [(.str a0),(.int .i64 a1),(.int .i64 a2),(.int .i64 a3),(.int .i64 a4),(.int .i64 a5),(.int .i64 a6),(D.list 6 (List.map A4 a7)),(D.list 2 (List.map Ag a8)),(.int .i64 a9),(D.list 1 (List.map (D.int .i64) a10)),(.int .i64 a11),(.int .i64 a12),(.int .i64 a13),(.int .i64 a14),(.int .i64 a15),(D.list 6 (List.map A4 a16))])=(xs.set i ({ H:=a0,Kind:=a1,Bc:=({ Op:=a2,B:=a3,Z:=a4,C:=a5,D:=a6,E:=a7 }:Aj),Ac:=a8,Ah:=a9,Aw:=a10,U:=({ Op:=a11,B:=a12,Z:=a13,C:=a14,D:=a15,E:=a16 }:Aj) }:BA)).map DL:=by rw[q7];rfl
def Ft(x:AY):D:=.agg [(.str x.Af),(.str x.Bu),(.int .i64 x.Bd.Op),(.int .i64 x.Bd.B),(.int .i64 x.Bd.Z),(.int .i64 x.Bd.C),(.int .i64 x.Bd.D),(An 6 A4 x.Bd.E),(.int .i64 x.Be.Bl),(.int .i64 x.Be.Of),(.int .i64 x.Be.Bm),(An 17 DL x.Bn)]
theorem Uo(xs:List AY)(a0:ByteArray)(a1:ByteArray)(a2:Int)(a3:Int)(a4:Int)(a5:Int)(a6:Int)(a7:List Aj)(a8:Int)(a9:Int)(a10:Int)(a11:List BA):xs.map Ft++[D.agg [(.str a0),(.str a1),(.int .i64 a2),(.int .i64 a3),(.int .i64 a4),(.int .i64 a5),(.int .i64 a6),(D.list 6 (List.map A4 a7)),(.int .i64 a8),(.int .i64 a9),(.int .i64 a10),(D.list 17 (List.map DL a11))]]=(xs++[({ Af:=a0,Bu:=a1,Bd:=({ Op:=a2,B:=a3,Z:=a4,C:=a5,D:=a6,E:=a7 }:Aj),Be:=({ Bl:=a8,Of:=a9,Bm:=a10 }:Ii),Bn:=a11 }:AY)]).map Ft:=by simp[Ft,An]
theorem UO(xs:List AY)(i:Nat)(a0:ByteArray)(a1:ByteArray)(a2:Int)(a3:Int)(a4:Int)(a5:Int)(a6:Int)(a7:List Aj)(a8:Int)(a9:Int)(a10:Int)(a11:List BA):(xs.map Ft).set i (D.agg [(.str a0),(.str a1),(.int .i64 a2),(.int .i64 a3),(.int .i64 a4),(.int .i64 a5),(.int .i64 a6),(D.list 6 (List.map A4 a7)),(.int .i64 a8),(.int .i64 a9),(.int .i64 a10),(D.list 17 (List.map DL a11))])=(xs.set i ({ Af:=a0,Bu:=a1,Bd:=({ Op:=a2,B:=a3,Z:=a4,C:=a5,D:=a6,E:=a7 }:Aj),Be:=({ Bl:=a8,Of:=a9,Bm:=a10 }:Ii),Bn:=a11 }:AY)).map Ft:=by rw[q7];rfl
def Do(x:As):D:=.agg [(.str x.Af),(.int .i64 x.Ag),(An 2 Ag x.X),(An 1 (An 1 (D.int .i64)) x.G)]
theorem Yg(xs:List As)(a0:ByteArray)(a1:Int)(a2:List Ad)(a3:List (List Int)):xs.map Do++[D.agg [(.str a0),(.int .i64 a1),(D.list 2 (List.map Ag a2)),(D.list 1 (List.map (An 1 (D.int .i64)) a3))]]=(xs++[({ Af:=a0,Ag:=a1,X:=a2,G:=a3 }:As)]).map Do:=by simp[Do,An]
theorem ZH(xs:List As)(i:Nat)(a0:ByteArray)(a1:Int)(a2:List Ad)(a3:List (List Int)):(xs.map Do).set i (D.agg [(.str a0),(.int .i64 a1),(D.list 2 (List.map Ag a2)),(D.list 1 (List.map (An 1 (D.int .i64)) a3))])=(xs.set i ({ Af:=a0,Ag:=a1,X:=a2,G:=a3 }:As)).map Do:=by rw[q7];rfl
mutual
def Cg:Ap->D
 | ⟨Op,Num,Name,Column,Columns,Dims,Cond,Event,Kids⟩=>.agg [(.int .i64 Op),(.int .i64 Num),(.str Name),(.int .i64 Column),(An 1 (D.int .i64) Columns),(An 2 Ag Dims),(.int .i64 Cond.Op),(.int .i64 Cond.B),(.int .i64 Cond.Z),(.int .i64 Cond.C),(.int .i64 Cond.D),(An 6 A4 Cond.E),(.int .i64 Event.Op),(.int .i64 Event.B),(.int .i64 Event.Z),(.int .i64 Event.C),(.int .i64 Event.D),(An 6 A4 Event.E),(.list 19 (Oz Kids))]
def Oz:List Ap->List D
 | []=>[]
 | x :: r=>Cg x :: Oz r
end
theorem TC:∀l:List Ap,Oz l=l.map Cg
 | []=>by simp[Oz]
 | x :: r=>by simp[Oz,TC r]
def AO(x:Ap):D:=.agg [(.int .i64 x.Op),(.int .i64 x.L),(.str x.H),(.int .i64 x.B),(An 1 (D.int .i64) x.A),(An 2 Ag x.Ac),(.int .i64 x.V.Op),(.int .i64 x.V.B),(.int .i64 x.V.Z),(.int .i64 x.V.C),(.int .i64 x.V.D),(An 6 A4 x.V.E),(.int .i64 x.U.Op),(.int .i64 x.U.B),(.int .i64 x.U.Z),(.int .i64 x.U.C),(.int .i64 x.U.D),(An 6 A4 x.U.E),(An 19 Cg x.E)]
theorem Bm(x:Ap):Cg x=AO x:=by
 obtain⟨Op,Num,Name,Column,Columns,Dims,Cond,Event,Kids⟩:=x;simp only[Cg,TC];rfl
theorem dU(xs:List Ap)(a0:Int)(a1:Int)(a2:ByteArray)(a3:Int)(a4:List Int)(a5:List Ad)(a6:Int)(a7:Int)(a8:Int)(a9:Int)(a10:Int)(a11:List Aj)(a12:Int)(a13:Int)(a14:Int)(a15:Int)(a16:Int)(a17:List Aj)(a18:List Ap):xs.map Cg++[D.agg [(.int .i64 a0),(.int .i64 a1),(.str a2),(.int .i64 a3),(D.list 1 (List.map (D.int .i64) a4)),(D.list 2 (List.map Ag a5)),(.int .i64 a6),(.int .i64 a7),(.int .i64 a8),(.int .i64 a9),(.int .i64 a10),(D.list 6 (List.map A4 a11)),(.int .i64 a12),(.int .i64 a13),(.int .i64 a14),(.int .i64 a15),(.int .i64 a16),(D.list 6 (List.map A4 a17)),(D.list 19 (List.map Cg a18))]]=(xs++[({ Op:=a0,L:=a1,H:=a2,B:=a3,A:=a4,Ac:=a5,V:=({ Op:=a6,B:=a7,Z:=a8,C:=a9,D:=a10,E:=a11 }:Aj),U:=({ Op:=a12,B:=a13,Z:=a14,C:=a15,D:=a16,E:=a17 }:Aj),E:=a18 }:Ap)]).map Cg:=by simp[Bm,AO,An]
theorem iy(xs:List Ap)(i:Nat)(a0:Int)(a1:Int)(a2:ByteArray)(a3:Int)(a4:List Int)(a5:List Ad)(a6:Int)(a7:Int)(a8:Int)(a9:Int)(a10:Int)(a11:List Aj)(a12:Int)(a13:Int)(a14:Int)(a15:Int)(a16:Int)(a17:List Aj)(a18:List Ap):(xs.map Cg).set i (D.agg [(.int .i64 a0),(.int .i64 a1),(.str a2),(.int .i64 a3),(D.list 1 (List.map (D.int .i64) a4)),(D.list 2 (List.map Ag a5)),(.int .i64 a6),(.int .i64 a7),(.int .i64 a8),(.int .i64 a9),(.int .i64 a10),(D.list 6 (List.map A4 a11)),(.int .i64 a12),(.int .i64 a13),(.int .i64 a14),(.int .i64 a15),(.int .i64 a16),(D.list 6 (List.map A4 a17)),(D.list 19 (List.map Cg a18))])=(xs.set i ({ Op:=a0,L:=a1,H:=a2,B:=a3,A:=a4,Ac:=a5,V:=({ Op:=a6,B:=a7,Z:=a8,C:=a9,D:=a10,E:=a11 }:Aj),U:=({ Op:=a12,B:=a13,Z:=a14,C:=a15,D:=a16,E:=a17 }:Aj),E:=a18 }:Ap)).map Cg:=by rw[q7];simp[Bm,AO,An]
def B5(x:Au):D:=.agg [(.str x.H),(.bool x.A0),(.int .i64 x.An.Op),(.int .i64 x.An.L),(.str x.An.H),(.int .i64 x.An.B),(An 1 (D.int .i64) x.An.A),(An 2 Ag x.An.Ac),(.int .i64 x.An.V.Op),(.int .i64 x.An.V.B),(.int .i64 x.An.V.Z),(.int .i64 x.An.V.C),(.int .i64 x.An.V.D),(An 6 A4 x.An.V.E),(.int .i64 x.An.U.Op),(.int .i64 x.An.U.B),(.int .i64 x.An.U.Z),(.int .i64 x.An.U.C),(.int .i64 x.An.U.D),(An 6 A4 x.An.U.E),(An 19 Cg x.An.E)]
theorem VY(xs:List Au)(a0:ByteArray)(a1:Bool)(a2:Int)(a3:Int)(a4:ByteArray)(a5:Int)(a6:List Int)(a7:List Ad)(a8:Int)(a9:Int)(a10:Int)(a11:Int)(a12:Int)(a13:List Aj)(a14:Int)(a15:Int)(a16:Int)(a17:Int)(a18:Int)(a19:List Aj)(a20:List Ap):xs.map B5++[D.agg [(.str a0),(.bool a1),(.int .i64 a2),(.int .i64 a3),(.str a4),(.int .i64 a5),(D.list 1 (List.map (D.int .i64) a6)),(D.list 2 (List.map Ag a7)),(.int .i64 a8),(.int .i64 a9),(.int .i64 a10),(.int .i64 a11),(.int .i64 a12),(D.list 6 (List.map A4 a13)),(.int .i64 a14),(.int .i64 a15),(.int .i64 a16),(.int .i64 a17),(.int .i64 a18),(D.list 6 (List.map A4 a19)),(D.list 19 (List.map Cg a20))]]=(xs++[({ H:=a0,A0:=a1,An:=({ Op:=a2,L:=a3,H:=a4,B:=a5,A:=a6,Ac:=a7,V:=({ Op:=a8,B:=a9,Z:=a10,C:=a11,D:=a12,E:=a13 }:Aj),U:=({ Op:=a14,B:=a15,Z:=a16,C:=a17,D:=a18,E:=a19 }:Aj),E:=a20 }:Ap) }:Au)]).map B5:=by simp[B5,An]
theorem X4(xs:List Au)(i:Nat)(a0:ByteArray)(a1:Bool)(a2:Int)(a3:Int)(a4:ByteArray)(a5:Int)(a6:List Int)(a7:List Ad)(a8:Int)(a9:Int)(a10:Int)(a11:Int)(a12:Int)(a13:List Aj)(a14:Int)(a15:Int)(a16:Int)(a17:Int)(a18:Int)(a19:List Aj)(a20:List Ap):(xs.map B5).set i (D.agg [(.str a0),(.bool a1),(.int .i64 a2),(.int .i64 a3),(.str a4),(.int .i64 a5),(D.list 1 (List.map (D.int .i64) a6)),(D.list 2 (List.map Ag a7)),(.int .i64 a8),(.int .i64 a9),(.int .i64 a10),(.int .i64 a11),(.int .i64 a12),(D.list 6 (List.map A4 a13)),(.int .i64 a14),(.int .i64 a15),(.int .i64 a16),(.int .i64 a17),(.int .i64 a18),(D.list 6 (List.map A4 a19)),(D.list 19 (List.map Cg a20))])=(xs.set i ({ H:=a0,A0:=a1,An:=({ Op:=a2,L:=a3,H:=a4,B:=a5,A:=a6,Ac:=a7,V:=({ Op:=a8,B:=a9,Z:=a10,C:=a11,D:=a12,E:=a13 }:Aj),U:=({ Op:=a14,B:=a15,Z:=a16,C:=a17,D:=a18,E:=a19 }:Aj),E:=a20 }:Ap) }:Au)).map B5:=by rw[q7];rfl
def Gg(x:AW):D:=.agg [(.bool x.Bt),(.bool x.Br),(.bool x.Bp),(.bool x.Bv),(.bool x.Bw),(.bool x.Bk),(.bool x.Bq)]
theorem US(xs:List AW)(a0:Bool)(a1:Bool)(a2:Bool)(a3:Bool)(a4:Bool)(a5:Bool)(a6:Bool):xs.map Gg++[D.agg [(.bool a0),(.bool a1),(.bool a2),(.bool a3),(.bool a4),(.bool a5),(.bool a6)]]=(xs++[({ Bt:=a0,Br:=a1,Bp:=a2,Bv:=a3,Bw:=a4,Bk:=a5,Bq:=a6 }:AW)]).map Gg:=by simp[Gg,An]
theorem VW(xs:List AW)(i:Nat)(a0:Bool)(a1:Bool)(a2:Bool)(a3:Bool)(a4:Bool)(a5:Bool)(a6:Bool):(xs.map Gg).set i (D.agg [(.bool a0),(.bool a1),(.bool a2),(.bool a3),(.bool a4),(.bool a5),(.bool a6)])=(xs.set i ({ Bt:=a0,Br:=a1,Bp:=a2,Bv:=a3,Bw:=a4,Bk:=a5,Bq:=a6 }:AW)).map Gg:=by rw[q7];rfl
def Bq(x:AI):D:=.agg [(.int .i64 x.L),(.int .i64 x.N)]
theorem dV(xs:List AI)(a0:Int)(a1:Int):xs.map Bq++[D.agg [(.int .i64 a0),(.int .i64 a1)]]=(xs++[({ L:=a0,N:=a1 }:AI)]).map Bq:=by simp[Bq,An]
theorem iz(xs:List AI)(i:Nat)(a0:Int)(a1:Int):(xs.map Bq).set i (D.agg [(.int .i64 a0),(.int .i64 a1)])=(xs.set i ({ L:=a0,N:=a1 }:AI)).map Bq:=by rw[q7];rfl
def A6(x:Aq):D:=.agg [(An 1 (D.int .i64) x.Q),(.int .i64 x.Y),(.int .i64 x.A4),(.int .i64 x.A5),(.int .i64 x.A6),(.int .i64 x.A8),(An 1 (D.int .i64) x.G)]
theorem VZ(xs:List Aq)(a0:List Int)(a1:Int)(a2:Int)(a3:Int)(a4:Int)(a5:Int)(a6:List Int):xs.map A6++[D.agg [(D.list 1 (List.map (D.int .i64) a0)),(.int .i64 a1),(.int .i64 a2),(.int .i64 a3),(.int .i64 a4),(.int .i64 a5),(D.list 1 (List.map (D.int .i64) a6))]]=(xs++[({ Q:=a0,Y:=a1,A4:=a2,A5:=a3,A6:=a4,A8:=a5,G:=a6 }:Aq)]).map A6:=by simp[A6,An]
theorem X5(xs:List Aq)(i:Nat)(a0:List Int)(a1:Int)(a2:Int)(a3:Int)(a4:Int)(a5:Int)(a6:List Int):(xs.map A6).set i (D.agg [(D.list 1 (List.map (D.int .i64) a0)),(.int .i64 a1),(.int .i64 a2),(.int .i64 a3),(.int .i64 a4),(.int .i64 a5),(D.list 1 (List.map (D.int .i64) a6))])=(xs.set i ({ Q:=a0,Y:=a1,A4:=a2,A5:=a3,A6:=a4,A8:=a5,G:=a6 }:Aq)).map A6:=by rw[q7];rfl
def Hc(x:D5):D:=.agg [(An 2 Ag x.Ac),(.int .i64 x.Ah),(An 7 A6 x.Av)]
theorem cm(xs:List D5)(a0:List Ad)(a1:Int)(a2:List Aq):xs.map Hc++[D.agg [(D.list 2 (List.map Ag a0)),(.int .i64 a1),(D.list 7 (List.map A6 a2))]]=(xs++[({ Ac:=a0,Ah:=a1,Av:=a2 }:D5)]).map Hc:=by simp[Hc,An]
theorem dO(xs:List D5)(i:Nat)(a0:List Ad)(a1:Int)(a2:List Aq):(xs.map Hc).set i (D.agg [(D.list 2 (List.map Ag a0)),(.int .i64 a1),(D.list 7 (List.map A6 a2))])=(xs.set i ({ Ac:=a0,Ah:=a1,Av:=a2 }:D5)).map Hc:=by rw[q7];rfl
def Mz(x:Cf):D:=.agg [(.int .i64 x.Ah),(An 1 (D.int .i64) x.Aw),(An 2 Bq x.A3),(.int .i64 x.A1.L),(.int .i64 x.A1.N),(.int .i64 x.A2.L),(.int .i64 x.A2.N),(.int .i64 x.Y),(.int .i64 x.Bb)]
theorem cg(xs:List Cf)(a0:Int)(a1:List Int)(a2:List AI)(a3:Int)(a4:Int)(a5:Int)(a6:Int)(a7:Int)(a8:Int):xs.map Mz++[D.agg [(.int .i64 a0),(D.list 1 (List.map (D.int .i64) a1)),(D.list 2 (List.map Bq a2)),(.int .i64 a3),(.int .i64 a4),(.int .i64 a5),(.int .i64 a6),(.int .i64 a7),(.int .i64 a8)]]=(xs++[({ Ah:=a0,Aw:=a1,A3:=a2,A1:=({ L:=a3,N:=a4 }:AI),A2:=({ L:=a5,N:=a6 }:AI),Y:=a7,Bb:=a8 }:Cf)]).map Mz:=by simp[Mz,An]
theorem dN(xs:List Cf)(i:Nat)(a0:Int)(a1:List Int)(a2:List AI)(a3:Int)(a4:Int)(a5:Int)(a6:Int)(a7:Int)(a8:Int):(xs.map Mz).set i (D.agg [(.int .i64 a0),(D.list 1 (List.map (D.int .i64) a1)),(D.list 2 (List.map Bq a2)),(.int .i64 a3),(.int .i64 a4),(.int .i64 a5),(.int .i64 a6),(.int .i64 a7),(.int .i64 a8)])=(xs.set i ({ Ah:=a0,Aw:=a1,A3:=a2,A1:=({ L:=a3,N:=a4 }:AI),A2:=({ L:=a5,N:=a6 }:AI),Y:=a7,Bb:=a8 }:Cf)).map Mz:=by rw[q7];rfl
def By(x:Ba):D:=.agg [(.int .i64 x.Bx),(.int .i64 x.By),(.int .i64 x.Bz),(.int .i64 x.B0),(.int .i64 x.Bs.L),(.int .i64 x.Bs.N)]
theorem VX(xs:List Ba)(a0:Int)(a1:Int)(a2:Int)(a3:Int)(a4:Int)(a5:Int):xs.map By++[D.agg [(.int .i64 a0),(.int .i64 a1),(.int .i64 a2),(.int .i64 a3),(.int .i64 a4),(.int .i64 a5)]]=(xs++[({ Bx:=a0,By:=a1,Bz:=a2,B0:=a3,Bs:=({ L:=a4,N:=a5 }:AI) }:Ba)]).map By:=by simp[By,An]
theorem X3(xs:List Ba)(i:Nat)(a0:Int)(a1:Int)(a2:Int)(a3:Int)(a4:Int)(a5:Int):(xs.map By).set i (D.agg [(.int .i64 a0),(.int .i64 a1),(.int .i64 a2),(.int .i64 a3),(.int .i64 a4),(.int .i64 a5)])=(xs.set i ({ Bx:=a0,By:=a1,Bz:=a2,B0:=a3,Bs:=({ L:=a4,N:=a5 }:AI) }:Ba)).map By:=by rw[q7];rfl
def Cd(x:D4):D:=.agg [(.int .i64 x.C),(.int .i64 x.Y)]
theorem UR(xs:List D4)(a0:Int)(a1:Int):xs.map Cd++[D.agg [(.int .i64 a0),(.int .i64 a1)]]=(xs++[({ C:=a0,Y:=a1 }:D4)]).map Cd:=by simp[Cd,An]
theorem Ul(xs:List D4)(i:Nat)(a0:Int)(a1:Int):(xs.map Cd).set i (D.agg [(.int .i64 a0),(.int .i64 a1)])=(xs.set i ({ C:=a0,Y:=a1 }:D4)).map Cd:=by rw[q7];rfl
def Rh(x:Oo):D:=.agg [(.int .i64 x.Y),(.int .i64 x.Bf),(.int .i64 x.Bg),(.int .i64 x.Bh),(.int .i64 x.Bi),(.int .i64 x.Bj)]
theorem i8(xs:List Oo)(a0:Int)(a1:Int)(a2:Int)(a3:Int)(a4:Int)(a5:Int):xs.map Rh++[D.agg [(.int .i64 a0),(.int .i64 a1),(.int .i64 a2),(.int .i64 a3),(.int .i64 a4),(.int .i64 a5)]]=(xs++[({ Y:=a0,Bf:=a1,Bg:=a2,Bh:=a3,Bi:=a4,Bj:=a5 }:Oo)]).map Rh:=by simp[Rh,An]
theorem kT(xs:List Oo)(i:Nat)(a0:Int)(a1:Int)(a2:Int)(a3:Int)(a4:Int)(a5:Int):(xs.map Rh).set i (D.agg [(.int .i64 a0),(.int .i64 a1),(.int .i64 a2),(.int .i64 a3),(.int .i64 a4),(.int .i64 a5)])=(xs.set i ({ Y:=a0,Bf:=a1,Bg:=a2,Bh:=a3,Bi:=a4,Bj:=a5 }:Oo)).map Rh:=by rw[q7];rfl
def CQ(x:AA):D:=.agg [(.int .i64 x.Kind),(.int .i64 x.Number.L),(.int .i64 x.Number.N),(An 2 Ag x.Table.Ac),(.int .i64 x.Table.Ah),(An 7 A6 x.Table.Av),(.int .i64 x.Model.Ah),(An 1 (D.int .i64) x.Model.Aw),(An 2 Bq x.Model.A3),(.int .i64 x.Model.A1.L),(.int .i64 x.Model.A1.N),(.int .i64 x.Model.A2.L),(.int .i64 x.Model.A2.N),(.int .i64 x.Model.Y),(.int .i64 x.Model.Bb),(An 6 By x.Curve),(An 2 Cd x.Hist),(.int .i64 x.Box.Y),(.int .i64 x.Box.Bf),(.int .i64 x.Box.Bg),(.int .i64 x.Box.Bh),(.int .i64 x.Box.Bi),(.int .i64 x.Box.Bj),(An 1 (D.int .i64) x.Lineage)]
theorem cn(xs:List AA)(a0:Int)(a1:Int)(a2:Int)(a3:List Ad)(a4:Int)(a5:List Aq)(a6:Int)(a7:List Int)(a8:List AI)(a9:Int)(a10:Int)(a11:Int)(a12:Int)(a13:Int)(a14:Int)(a15:List Ba)(a16:List D4)(a17:Int)(a18:Int)(a19:Int)(a20:Int)(a21:Int)(a22:Int)(a23:List Int):xs.map CQ++[D.agg [(.int .i64 a0),(.int .i64 a1),(.int .i64 a2),(D.list 2 (List.map Ag a3)),(.int .i64 a4),(D.list 7 (List.map A6 a5)),(.int .i64 a6),(D.list 1 (List.map (D.int .i64) a7)),(D.list 2 (List.map Bq a8)),(.int .i64 a9),(.int .i64 a10),(.int .i64 a11),(.int .i64 a12),(.int .i64 a13),(.int .i64 a14),(D.list 6 (List.map By a15)),(D.list 2 (List.map Cd a16)),(.int .i64 a17),(.int .i64 a18),(.int .i64 a19),(.int .i64 a20),(.int .i64 a21),(.int .i64 a22),(D.list 1 (List.map (D.int .i64) a23))]]=(xs++[({ Kind:=a0,Number:=({ L:=a1,N:=a2 }:AI),Table:=({ Ac:=a3,Ah:=a4,Av:=a5 }:D5),Model:=({ Ah:=a6,Aw:=a7,A3:=a8,A1:=({ L:=a9,N:=a10 }:AI),A2:=({ L:=a11,N:=a12 }:AI),Y:=a13,Bb:=a14 }:Cf),Curve:=a15,Hist:=a16,Box:=({ Y:=a17,Bf:=a18,Bg:=a19,Bh:=a20,Bi:=a21,Bj:=a22 }:Oo),Lineage:=a23 }:AA)]).map CQ:=by simp[CQ,An]
theorem dP(xs:List AA)(i:Nat)(a0:Int)(a1:Int)(a2:Int)(a3:List Ad)(a4:Int)(a5:List Aq)(a6:Int)(a7:List Int)(a8:List AI)(a9:Int)(a10:Int)(a11:Int)(a12:Int)(a13:Int)(a14:Int)(a15:List Ba)(a16:List D4)(a17:Int)(a18:Int)(a19:Int)(a20:Int)(a21:Int)(a22:Int)(a23:List Int):(xs.map CQ).set i (D.agg [(.int .i64 a0),(.int .i64 a1),(.int .i64 a2),(D.list 2 (List.map Ag a3)),(.int .i64 a4),(D.list 7 (List.map A6 a5)),(.int .i64 a6),(D.list 1 (List.map (D.int .i64) a7)),(D.list 2 (List.map Bq a8)),(.int .i64 a9),(.int .i64 a10),(.int .i64 a11),(.int .i64 a12),(.int .i64 a13),(.int .i64 a14),(D.list 6 (List.map By a15)),(D.list 2 (List.map Cd a16)),(.int .i64 a17),(.int .i64 a18),(.int .i64 a19),(.int .i64 a20),(.int .i64 a21),(.int .i64 a22),(D.list 1 (List.map (D.int .i64) a23))])=(xs.set i ({ Kind:=a0,Number:=({ L:=a1,N:=a2 }:AI),Table:=({ Ac:=a3,Ah:=a4,Av:=a5 }:D5),Model:=({ Ah:=a6,Aw:=a7,A3:=a8,A1:=({ L:=a9,N:=a10 }:AI),A2:=({ L:=a11,N:=a12 }:AI),Y:=a13,Bb:=a14 }:Cf),Curve:=a15,Hist:=a16,Box:=({ Y:=a17,Bf:=a18,Bg:=a19,Bh:=a20,Bi:=a21,Bj:=a22 }:Oo),Lineage:=a23 }:AA)).map CQ:=by rw[q7];rfl
def A3(x:A9):D:=.agg [(.str x.H),(.bool x.A0),(.int .i64 x.At.Kind),(.int .i64 x.At.Number.L),(.int .i64 x.At.Number.N),(An 2 Ag x.At.Table.Ac),(.int .i64 x.At.Table.Ah),(An 7 A6 x.At.Table.Av),(.int .i64 x.At.Model.Ah),(An 1 (D.int .i64) x.At.Model.Aw),(An 2 Bq x.At.Model.A3),(.int .i64 x.At.Model.A1.L),(.int .i64 x.At.Model.A1.N),(.int .i64 x.At.Model.A2.L),(.int .i64 x.At.Model.A2.N),(.int .i64 x.At.Model.Y),(.int .i64 x.At.Model.Bb),(An 6 By x.At.Curve),(An 2 Cd x.At.Hist),(.int .i64 x.At.Box.Y),(.int .i64 x.At.Box.Bf),(.int .i64 x.At.Box.Bg),(.int .i64 x.At.Box.Bh),(.int .i64 x.At.Box.Bi),(.int .i64 x.At.Box.Bj),(An 1 (D.int .i64) x.At.Lineage)]
theorem Yf(xs:List A9)(a0:ByteArray)(a1:Bool)(a2:Int)(a3:Int)(a4:Int)(a5:List Ad)(a6:Int)(a7:List Aq)(a8:Int)(a9:List Int)(a10:List AI)(a11:Int)(a12:Int)(a13:Int)(a14:Int)(a15:Int)(a16:Int)(a17:List Ba)(a18:List D4)(a19:Int)(a20:Int)(a21:Int)(a22:Int)(a23:Int)(a24:Int)(a25:List Int):xs.map A3++[D.agg [(.str a0),(.bool a1),(.int .i64 a2),(.int .i64 a3),(.int .i64 a4),(D.list 2 (List.map Ag a5)),(.int .i64 a6),(D.list 7 (List.map A6 a7)),(.int .i64 a8),(D.list 1 (List.map (D.int .i64) a9)),(D.list 2 (List.map Bq a10)),(.int .i64 a11),(.int .i64 a12),(.int .i64 a13),(.int .i64 a14),(.int .i64 a15),(.int .i64 a16),(D.list 6 (List.map By a17)),(D.list 2 (List.map Cd a18)),(.int .i64 a19),(.int .i64 a20),(.int .i64 a21),(.int .i64 a22),(.int .i64 a23),(.int .i64 a24),(D.list 1 (List.map (D.int .i64) a25))]]=(xs++[({ H:=a0,A0:=a1,At:=({ Kind:=a2,Number:=({ L:=a3,N:=a4 }:AI),Table:=({ Ac:=a5,Ah:=a6,Av:=a7 }:D5),Model:=({ Ah:=a8,Aw:=a9,A3:=a10,A1:=({ L:=a11,N:=a12 }:AI),A2:=({ L:=a13,N:=a14 }:AI),Y:=a15,Bb:=a16 }:Cf),Curve:=a17,Hist:=a18,Box:=({ Y:=a19,Bf:=a20,Bg:=a21,Bh:=a22,Bi:=a23,Bj:=a24 }:Oo),Lineage:=a25 }:AA) }:A9)]).map A3:=by simp[A3,An]
theorem ZG(xs:List A9)(i:Nat)(a0:ByteArray)(a1:Bool)(a2:Int)(a3:Int)(a4:Int)(a5:List Ad)(a6:Int)(a7:List Aq)(a8:Int)(a9:List Int)(a10:List AI)(a11:Int)(a12:Int)(a13:Int)(a14:Int)(a15:Int)(a16:Int)(a17:List Ba)(a18:List D4)(a19:Int)(a20:Int)(a21:Int)(a22:Int)(a23:Int)(a24:Int)(a25:List Int):(xs.map A3).set i (D.agg [(.str a0),(.bool a1),(.int .i64 a2),(.int .i64 a3),(.int .i64 a4),(D.list 2 (List.map Ag a5)),(.int .i64 a6),(D.list 7 (List.map A6 a7)),(.int .i64 a8),(D.list 1 (List.map (D.int .i64) a9)),(D.list 2 (List.map Bq a10)),(.int .i64 a11),(.int .i64 a12),(.int .i64 a13),(.int .i64 a14),(.int .i64 a15),(.int .i64 a16),(D.list 6 (List.map By a17)),(D.list 2 (List.map Cd a18)),(.int .i64 a19),(.int .i64 a20),(.int .i64 a21),(.int .i64 a22),(.int .i64 a23),(.int .i64 a24),(D.list 1 (List.map (D.int .i64) a25))])=(xs.set i ({ H:=a0,A0:=a1,At:=({ Kind:=a2,Number:=({ L:=a3,N:=a4 }:AI),Table:=({ Ac:=a5,Ah:=a6,Av:=a7 }:D5),Model:=({ Ah:=a8,Aw:=a9,A3:=a10,A1:=({ L:=a11,N:=a12 }:AI),A2:=({ L:=a13,N:=a14 }:AI),Y:=a15,Bb:=a16 }:Cf),Curve:=a17,Hist:=a18,Box:=({ Y:=a19,Bf:=a20,Bg:=a21,Bh:=a22,Bi:=a23,Bj:=a24 }:Oo),Lineage:=a25 }:AA) }:A9)).map A3:=by rw[q7];rfl
def EA(x:DJ):D:=.agg [(An 2 Ah x.Ae.J),(An 7 Al x.Ae.A),(.str x.K.Af),(.int .i64 x.K.Ag),(An 2 Ag x.K.X),(An 1 (An 1 (D.int .i64)) x.K.G)]
theorem Ta(xs:List DJ)(a0:List Am)(a1:List Ar)(a2:ByteArray)(a3:Int)(a4:List Ad)(a5:List (List Int)):xs.map EA++[D.agg [(D.list 2 (List.map Ah a0)),(D.list 7 (List.map Al a1)),(.str a2),(.int .i64 a3),(D.list 2 (List.map Ag a4)),(D.list 1 (List.map (An 1 (D.int .i64)) a5))]]=(xs++[({ Ae:=({ J:=a0,A:=a1 }:Aa),K:=({ Af:=a2,Ag:=a3,X:=a4,G:=a5 }:As) }:DJ)]).map EA:=by simp[EA,An]
theorem Um(xs:List DJ)(i:Nat)(a0:List Am)(a1:List Ar)(a2:ByteArray)(a3:Int)(a4:List Ad)(a5:List (List Int)):(xs.map EA).set i (D.agg [(D.list 2 (List.map Ah a0)),(D.list 7 (List.map Al a1)),(.str a2),(.int .i64 a3),(D.list 2 (List.map Ag a4)),(D.list 1 (List.map (An 1 (D.int .i64)) a5))])=(xs.set i ({ Ae:=({ J:=a0,A:=a1 }:Aa),K:=({ Af:=a2,Ag:=a3,X:=a4,G:=a5 }:As) }:DJ)).map EA:=by rw[q7];rfl
def EB(x:Ay):D:=.agg [(An 2 Ah x.I.Ae.J),(An 7 Al x.I.Ae.A),(.str x.I.K.Af),(.int .i64 x.I.K.Ag),(An 2 Ag x.I.K.X),(An 1 (An 1 (D.int .i64)) x.I.K.G),(An 26 A3 x.Ax)]
theorem Tb(xs:List Ay)(a0:List Am)(a1:List Ar)(a2:ByteArray)(a3:Int)(a4:List Ad)(a5:List (List Int))(a6:List A9):xs.map EB++[D.agg [(D.list 2 (List.map Ah a0)),(D.list 7 (List.map Al a1)),(.str a2),(.int .i64 a3),(D.list 2 (List.map Ag a4)),(D.list 1 (List.map (An 1 (D.int .i64)) a5)),(D.list 26 (List.map A3 a6))]]=(xs++[({ I:=({ Ae:=({ J:=a0,A:=a1 }:Aa),K:=({ Af:=a2,Ag:=a3,X:=a4,G:=a5 }:As) }:DJ),Ax:=a6 }:Ay)]).map EB:=by simp[EB,An]
theorem Un(xs:List Ay)(i:Nat)(a0:List Am)(a1:List Ar)(a2:ByteArray)(a3:Int)(a4:List Ad)(a5:List (List Int))(a6:List A9):(xs.map EB).set i (D.agg [(D.list 2 (List.map Ah a0)),(D.list 7 (List.map Al a1)),(.str a2),(.int .i64 a3),(D.list 2 (List.map Ag a4)),(D.list 1 (List.map (An 1 (D.int .i64)) a5)),(D.list 26 (List.map A3 a6))])=(xs.set i ({ I:=({ Ae:=({ J:=a0,A:=a1 }:Aa),K:=({ Af:=a2,Ag:=a3,X:=a4,G:=a5 }:As) }:DJ),Ax:=a6 }:Ay)).map EB:=by rw[q7];rfl
def BH(x:AM):D:=.agg [(.int .u64 x.D),(.int .u64 x.C)]
theorem Up(xs:List AM)(a0:Int)(a1:Int):xs.map BH++[D.agg [(.int .u64 a0),(.int .u64 a1)]]=(xs++[({ D:=a0,C:=a1 }:AM)]).map BH:=by simp[BH,An]
theorem UP(xs:List AM)(i:Nat)(a0:Int)(a1:Int):(xs.map BH).set i (D.agg [(.int .u64 a0),(.int .u64 a1)])=(xs.set i ({ D:=a0,C:=a1 }:AM)).map BH:=by rw[q7];rfl
def AC(p0:List Int):Option (List Int):=bif rm 0 p0.length then some p0 else none
def Uq(xs:List Int):List Int:=xs.mergeSort λx y=>decide (x<=y)
def CR(p0:List Int):Option (List Int):=bif rm 0 p0.length then some (Uq p0)else none
def Ew(p0:Int):Option ByteArray:=bif decide (0<=p0/\p0<100)then some ⟨(Go.Lib.decDigits p0.toNat).toArray⟩else none
def Di(p0:List Int)(p1:Int->Option Bool):Option (List Int):=bif(rm 0 p0.length&&p0.all λx=>(p1 x).isSome)then some (p0.filter λx=>p1 x==some false)else none
open Go
end Go.Proofs.YthchnhoalhbkcaaGreatDoor.P
namespace Go.Proofs.YthchnhoalhbkcaaGreatDoor.P.F
def Hi(z:Int):Int:=z/18446744073709551616%18446744073709551616
def Lo(z:Int):Int:=z%18446744073709551616
def B127:Int:=170141183460469231731687303715884105728
def nn(num den:Int):Int:=if den<0 then -num else num
def okR(n:Int)(d:Nat):Bool:=decide (((n.natAbs/Nat.gcd d n.natAbs:Nat):Int)<=1152921504606846976)&&decide (((d/Nat.gcd d n.natAbs:Nat):Int)<=1152921504606846976)
def redF(n:Int)(d:Nat):Int×Int:=bif okR n d then(((n.natAbs/Nat.gcd d n.natAbs:Nat):Int)*n.sign,((d/Nat.gcd d n.natAbs:Nat):Int))else(0,0)
def redE(n:Int)(d:Nat):Int:=bif okR n d then 0 else 14
def Fc(xs:List Int):List Int:=xs.mergeSort λx y=>decide (x<=y)
def setI(xs:List Int):List Int:=Go.Lib.compact (Fc xs)
def insU(x:Int):List Int->List Int
 | []=>[x]
 | y :: r=>bif decide (x<y)then x :: y :: r else bif x==y then y :: r else y :: insU x r
def setU(xs:List Int):List Int:=xs.foldr insU []
theorem setI_len(xs:List Int):(setI xs).length<=xs.length:=by
 unfold setI Go.Lib.compact Go.Lib.compactUpTo;rw[pX];exact qt (rl _ _) (by simp[Fc,rT])
structure St where
 time:Int
 risk:Int
 ev:Int
 lf:Int
 fr:Int×Int
abbrev PS:=List (Int×Bool)
def Qc(t:Int)(ps:PS):Int:=((ps.filter λp=>p.1==t&&p.2).length:Nat)
def XK(t:Int)(ps:PS):Int:=((ps.filter λp=>p.1==t&&!p.2).length:Nat)
def stepGo(ps:PS):List Int->Int->Int×Int->List St->List St×Int
 | [],_,_,acc=>(acc,0)
 | t :: r,left,s,acc =>
   bif okR (s.1*(redF (left-Qc t ps) left.toNat).1) (s.2*(redF (left-Qc t ps) left.toNat).2).toNat then
    stepGo ps r (left-(Qc t ps+XK t ps)) (redF (s.1*(redF (left-Qc t ps) left.toNat).1) (s.2*(redF (left-Qc t ps) left.toNat).2).toNat)
     (acc++[⟨t,left,Qc t ps,XK t ps,redF (s.1*(redF (left-Qc t ps) left.toNat).1) (s.2*(redF (left-Qc t ps) left.toNat).2).toNat⟩])
   else([],14)
def tm(ps:PS):List Int:=ps.map λp=>p.1
def es(ps:PS):List Bool:=ps.map λp=>p.2
def stepsF(ps:PS):List St×Int:=stepGo ps (setI (tm ps)) ps.length (1,1) []
def lrgT(v:Int):Bool:=bif decide (v<0)then true else decide (v>1000000)
theorem stepGo_len(ps:PS):∀(l:List Int)(left:Int)(s:Int×Int)(acc:List St),(stepGo ps l left s acc).1.length<=l.length+acc.length
 | [],_,_,acc=>by simp[stepGo]
 | t :: r,left,s,acc=>by
   unfold stepGo;generalize redF (left-Qc t ps) left.toNat=q
   cases okR (s.1*q.1) (s.2*q.2).toNat with
   | true =>
     have:=stepGo_len ps r (left-(Qc t ps+XK t ps)) (redF (s.1*q.1) (s.2*q.2).toNat) (acc++[⟨t,left,Qc t ps,XK t ps,redF (s.1*q.1) (s.2*q.2).toNat⟩]);simp only[qz,qP,rI]at this ⊢;exact qt this (by omega)
   | false=>exact pY _
end Go.Proofs.YthchnhoalhbkcaaGreatDoor.P.F
namespace Go.Proofs.YthchnhoalhbkcaaGreatDoor.P
def kY(s:F.St):Ba:={ Bx:=s.time,By:=s.risk,Bz:=s.ev,B0:=s.lf,Bs:={ L:=s.fr.1,N:=s.fr.2 } }
def Ny(ts:List Int)(evs:List Bool):List F.St×Int:=bif decide (ts.length=evs.length)then(bif decide (ts.length<=200)then(bif ts.any F.lrgT then([],2)else F.stepsF (ts.zip evs))else([],1))else([],17)
def dW(ts:List Int)(evs:List Bool):List Ba×Int:=((Ny ts evs).1.map kY,(Ny ts evs).2)
def Su(p0:List Int)(p1:List Bool):Option (List Ba×Int):=bif decide (p0.length<=100000)then some (dW p0 p1)else none
theorem dZ(ts:List Int)(evs:List Bool):(Ny ts evs).1.length<=200:=by
 unfold Ny;by_cases h1:ts.length=evs.length
 ·rw[qh h1,qK];by_cases h2:ts.length<=200
  ·rw[qh h2,qK]
   cases ts.any F.lrgT with
   | true=>exact pY _
   | false =>
     have:=F.stepGo_len (ts.zip evs) (F.setI (F.tm (ts.zip evs))) (ts.zip evs).length (1,1) [];have h3:=F.setI_len (F.tm (ts.zip evs));have h4:(F.tm (ts.zip evs)).length=min ts.length evs.length:=by simp[F.tm]
     show(F.stepGo _ _ _ _ _).1.length<=200;simp only[rI]at this;omega
  ·rw[qC h2];exact pY _
 ·rw[qC h1];exact pY _
theorem dY(ts:List Int)(evs:List Bool):(dW ts evs).1.length<=200:=by
 show((Ny ts evs).1.map kY).length<=200;rw[pX];exact dZ ts evs
def Wb(p:AI):Bool:=decide ((1<=p.N/\p.N<=1152921504606846976)/\(-1152921504606846976<=p.L/\p.L<=1152921504606846976)/\Nat.gcd p.L.natAbs p.N.natAbs=1)
def VV(n:Int)(d:Nat):AI×Int:=({ L:=(F.redF n d).1,N:=(F.redF n d).2 },F.redE n d)
def du(n:Int):Bool:=decide (-9223372036854775808<=n/\n<=9223372036854775807)
def Gv(p0:Int)(p1:Int):Option (AI×Int) :=
 bif du p0&&du p1 then(bif p1==0 then some ({ L:=0,N:=0 },18)else some (VV (F.nn p0 p1) p1.natAbs))else none
def Me(p0:AI)(p1:AI):Option (AI×Int):=bif Wb p0&&Wb p1 then some (VV (p0.L*p1.N-p1.L*p0.N) (p0.N*p1.N).toNat)else none
def Md(p0:AI)(p1:AI):Option (AI×Int):=bif Wb p0&&Wb p1 then some (VV (p0.L*p1.L) (p0.N*p1.N).toNat)else none
def Mb(p0:AI)(p1:AI):Option (AI×Int):=bif Wb p0&&Wb p1 then some (VV (p0.L*p1.N+p1.L*p0.N) (p0.N*p1.N).toNat)else none
def Mc(p0:AI)(p1:AI):Option (AI×Int) :=
 bif Wb p0&&Wb p1 then(bif p1.L==0 then some ({ L:=0,N:=0 },18)else some (VV (F.nn (p0.L*p1.N) (p1.L*p0.N)) (p1.L*p0.N).natAbs))else none
def Ez(p0:List Int)(p1:List Int):Option (List Int):=bif decide (p0.length<=100000/\p1.length<=100000)then some (F.setU (p0++p1))else none
open Go Go.Abs Go.Proofs
def PC(m:List (List Int))(r c:Nat):Int:=(m.getD r []).getD c 0
structure Wm(w:World)(v:Value)(m:List (List Int))(ga:Option Addr)(gb go Gc:Nat)(A:Nat->Option Addr)(C RB RO:Nat->Nat):Prop where
 val:v=.slice ga m.length Gc
 ga:0<m.length->ga=some ⟨gb,go,none⟩
 row:∀r,r<m.length->w.cell? ⟨gb,go+r,none⟩=some (.slice (A r) ((m.getD r []).length) (C r))
 cell:∀r,r<m.length->∀c,c<(m.getD r []).length->A r=some ⟨RB r,RO r,none⟩/\w.cell? ⟨RB r,RO r+c,none⟩=some (.int .i64 (PC m r c))
theorem GQ{O:Nat->Prop}{w:World}{v:Value}{l:List Int}(h:Aw O w v (D.list 1 (l.map (D.int .i64)))) :
 ∃a cap b o,v=.slice a l.length cap/\∀c,c<l.length->a=some ⟨b,o,none⟩/\¬O b/\b<w.heap.size/\w.cell? ⟨b,o+c,none⟩=some (.int .i64 (l.getD c 0)):=by
 generalize hx:D.list 1 (l.map (D.int .i64))=x at h
 cases h<;>simp only[D.list.injEq,reduceCtorEq]at hx
 case emp a cap sz =>
  have:l=[]:=List.map_eq_nil_iff.1 hx.2;subst this;exact⟨a,cap,0,0,rfl,λc hc=>absurd hc (rZ _)⟩
 case list b off cap sz xs c hne hb hO hcap hsz h1 hcell h =>
  obtain⟨rfl,rfl⟩:=hx;refine⟨some ⟨b,off,none⟩,cap,b,off,by rw[pX],λk hk=>⟨rfl,hO,hb,?_⟩⟩;have e1:(l.map (D.int .i64))[k]?=some (D.int .i64 l[k]):=by simp[hk]
  have:=hcell k (D.int .i64 l[k]) 0 (D.int .i64 l[k]) e1 rfl;have r:=h k (D.int .i64 l[k]) 0 (D.int .i64 l[k]) e1 rfl;rw[ry,qY]at this;rw[this];generalize c k 0=q at r
  cases r
  simp[List.getD,hk]
theorem Rs{O:Nat->Prop}{w:World}{v:Value}{m:List (List Int)}(h:Aw O w v (D.list 1 (m.map (An 1 (D.int .i64))))) :
 ∃ga gb go Gc A C RB RO,Wm w v m ga gb go Gc A C RB RO/\(0<m.length->¬O gb/\gb<w.heap.size)/\∀r,r<m.length->∀c,c<(m.getD r []).length->¬O (RB r)/\RB r<w.heap.size:=by
 generalize hx:D.list 1 (m.map (An 1 (D.int .i64)))=x at h
 cases h<;>simp only[D.list.injEq,reduceCtorEq]at hx
 case emp a cap sz =>
  have:m=[]:=List.map_eq_nil_iff.1 hx.2;subst this;exact⟨a,0,0,cap,λ_=>none,λ_=>0,λ_=>0,λ_=>0,⟨rfl,λh=>absurd h (Nat.lt_irrefl _),λr h=>absurd h (rZ _),λr h=>absurd h (rZ _)⟩,λh=>absurd h (Nat.lt_irrefl _),λr h=>absurd h (rZ _)⟩
 case list b off cap sz xs c hne hb hO hcap hsz h1 hcell h =>
  obtain⟨rfl,rfl⟩:=hx
  have hr:∀r,∃q:Option Addr×Nat×Nat×Nat,r<m.length->w.cell? ⟨b,off+r,none⟩=some (.slice q.1 ((m.getD r []).length) q.2.1) /\
   ∀k,k<(m.getD r []).length->q.1=some ⟨q.2.2.1,q.2.2.2,none⟩/\¬O q.2.2.1/\q.2.2.1<w.heap.size/\w.cell? ⟨q.2.2.1,q.2.2.2+k,none⟩=some (.int .i64 (PC m r k)):=by
   intro r;by_cases hlt:r<m.length
   ·have e1:(m.map (An 1 (D.int .i64)))[r]?=some ((An 1 (D.int .i64)) m[r]):=by simp[hlt]
    have e2:m.getD r []=m[r]:=by simp[List.getD,hlt]
    have hc:=hcell r ((An 1 (D.int .i64)) m[r]) 0 ((An 1 (D.int .i64)) m[r]) e1 rfl;have hd:=h r ((An 1 (D.int .i64)) m[r]) 0 ((An 1 (D.int .i64)) m[r]) e1 rfl;obtain⟨a,cp,b',o',hv,hk⟩:=GQ hd;refine⟨(a,cp,b',o'),λ_=>⟨?_,?_⟩⟩
    ·rw[ry,qY]at hc;rw[hc,hv,e2]
    ·intro k hk';rw[e2]at hk';obtain⟨q1,q2,q3,q4⟩:=hk k hk';refine⟨q1,q2,q3,?_⟩;rw[q4];unfold PC;rw[e2]
   ·exact⟨(none,0,0,0),λh=>absurd h hlt⟩
  obtain⟨q,hq⟩:=Classical.axiomOfChoice hr;refine⟨some ⟨b,off,none⟩,b,off,cap,λr=>(q r).1,λr=>(q r).2.1,λr=>(q r).2.2.1,λr=>(q r).2.2.2,⟨by rw[pX],λ_=>rfl,λr hr=>(hq r hr).1,λr hr c hc=>?_⟩,λ_=>⟨hO,hb⟩,λr hr c hc=>?_⟩
  ·obtain⟨h1,_,_,h4⟩:=(hq r hr).2 c hc;exact⟨h1,h4⟩
  ·obtain⟨_,h2,h3,_⟩:=(hq r hr).2 c hc;exact⟨h2,h3⟩
theorem ZT(z:Value)(k i:Nat)(h:i<k):(Builtin.zeroCells #[z] k)[i]?=some z:=by
 simp[Builtin.zeroCells,h,Nat.mod_one]
structure Mx(w wr:World)(tO tI:TypeId)(n:Nat)(cp:Nat->Nat)(S:Nat->Nat->Int):Prop where
 since:w.Since w.heap.size wr
 size:wr.heap.size=w.heap.size+1+n
 cap:∀j,j<n->n<=cp j
 top:wr.rowIs w.heap.size tO n (λj=>.slice (some ⟨w.heap.size+1+j,0,none⟩) n (cp j))
 row:∀j,j<n->wr.rowIs (w.heap.size+1+j) tI (cp j) (λc=>.int .i64 (S j c))
structure LW(w wr:World)(tO tI:TypeId)(n:Nat)(cp:Nat->Nat)(S:Nat->Nat->Int)(r:Nat):Prop where
 since:w.Since w.heap.size wr
 size:wr.heap.size=w.heap.size+1+r
 cap:∀j,j<r->n<=cp j
 top:wr.rowIs w.heap.size tO n (λj=>if j<r then .slice (some ⟨w.heap.size+1+j,0,none⟩) n (cp j)else .slice none 0 0)
 row:∀j,j<r->wr.rowIs (w.heap.size+1+j) tI (cp j) (λc=>.int .i64 (S j c))
section
variable {w wr:World} {tO tI:TypeId} {n r:Nat} {cp:Nat->Nat} {S S':Nat->Nat->Int}
theorem LW.start(w:World)(tO tI:TypeId)(n:Nat)(cp:Nat->Nat)(S:Nat->Nat->Int):LW w (w.alloc (.cells (madeCells #[.slice none 0 0] n) tO)) tO tI n cp S 0 :=
 ⟨(World.Since.refl _ _).alloc (qb _) _,by simp,λj hj=>absurd hj (rZ _),(World.rowIs_made w _ n tO).congr (λj _=>by simp),λj hj=>absurd hj (rZ _)⟩
theorem LW.step(h:LW w wr tO tI n cp S r){u:World}{c:Nat}(hc:n<=c)(hu:wr.Since wr.heap.size u)(hs:u.heap.size=wr.heap.size+1)(hn:u.rowIs wr.heap.size tI c (λc=>.int .i64 (S r c))) :
 LW w (u.setCell ⟨w.heap.size,r,none⟩ (.slice (some ⟨w.heap.size+1+r,0,none⟩) n c)) tO tI n (λj=>if j=r then c else cp j) S (r+1):=by
 have hu':w.Since w.heap.size u:=h.since.trans ⟨hu.os,hu.tape,hu.output,hu.size,λk hk=>hu.block k (by rw[h.size];omega)⟩;have hb:∀k,k<w.heap.size+1+r->u.heap[k]?=wr.heap[k]?:=λk hk=>hu.block k (by rw[h.size];exact hk);rw[h.size]at hs hn;refine⟨hu'.setCell (qb _) _,by simp[hs];omega,λj hj=>?_,((h.top.of_block (hb _ (by omega))).set r _).congr (λj _=>?_),λj hj=>?_⟩
 ·by_cases e:j=r
  ·simp only[e];simpa using hc
  ·simp only[e,if_false];exact h.cap j (by omega)
 ·by_cases e:j=r
  ·subst e;simp
  ·by_cases hlt:j<r
   ·rw[qi e,qf hlt,qf (by omega),qi e]
   ·rw[qi e,qi hlt,qi (by omega)]
 ·by_cases e:j=r
  ·subst e;simp only[if_true];exact hn.setOther (by show w.heap.size+1+j≠w.heap.size;omega) _
  ·simp only[e,if_false];exact((h.row j (by omega)).of_block (hb _ (by omega))).setOther (by show w.heap.size+1+j≠w.heap.size;omega) _
theorem LW.cp_congr(h:LW w wr tO tI n cp S r){cp':Nat->Nat}(e:∀j,j<r->cp' j=cp j):LW w wr tO tI n cp' S r :=
 ⟨h.since,h.size,λj hj=>by rw[e j hj];exact h.cap j hj,h.top.congr λj _=>by
  by_cases hj:j<r
  ·rw[qf hj,qf hj,e j hj]
  ·rw[qi hj,qi hj],λj hj=>by rw[e j hj];exact h.row j hj⟩
theorem LW.done(h:LW w wr tO tI n cp S n):Mx w wr tO tI n cp S:=⟨h.since,h.size,h.cap,h.top.congr λj hj=>by rw[qf hj],h.row⟩
theorem LW.congr(h:LW w wr tO tI n cp S r)(e:∀i j,i<r->S i j=S' i j):LW w wr tO tI n cp S' r:=⟨h.since,h.size,h.cap,h.top,λj hj=>(h.row j hj).congr λc _=>by rw[e j c hj]⟩
theorem LW.drew(h:LW w wr tO tI n cp S r):LW w wr.drew tO tI n cp S r:=⟨h.since.drew,h.size,h.cap,h.top,h.row⟩
theorem LW.set(h:LW w wr tO tI n cp S r){i j:Nat}(v:Int)(e:∀a b,a<r->b<cp a->S' a b=if a=i/\b=j then v else S a b):LW w (wr.setCell ⟨w.heap.size+1+i,j,none⟩ (.int .i64 v)) tO tI n cp S' r:=by
 refine⟨h.since.setCell (by show w.heap.size<=w.heap.size+1+i;omega) _,by simp[h.size],h.cap,h.top.setOther (by show w.heap.size≠w.heap.size+1+i;omega) _,λa ha=>?_⟩;by_cases ea:a=i
 ·subst ea;refine((h.row a ha).set j _).congr λb hb=>?_;rw[e a b ha hb];by_cases eb:b=j
  ·simp[eb]
  ·simp[eb]
 ·refine((h.row a ha).setOther (by show w.heap.size+1+a≠w.heap.size+1+i;omega) _).congr λb hb=>?_;rw[e a b ha hb,qi (by omega)]
theorem Mx.congr(h:Mx w wr tO tI n cp S)(e:∀i j,i<n->j<cp i->S i j=S' i j):Mx w wr tO tI n cp S':=⟨h.since,h.size,h.cap,h.top,λj hj=>(h.row j hj).congr λc hc=>by rw[e j c hj hc]⟩
theorem Mx.set(h:Mx w wr tO tI n cp S){i j:Nat}(v:Int)(e:∀a b,a<n->b<cp a->S' a b=if a=i/\b=j then v else S a b):Mx w (wr.setCell ⟨w.heap.size+1+i,j,none⟩ (.int .i64 v)) tO tI n cp S':=by
 refine⟨h.since.setCell (by show w.heap.size<=w.heap.size+1+i;omega) _,by simp[h.size],h.cap,h.top.setOther (by show w.heap.size≠w.heap.size+1+i;omega) _,λa ha=>?_⟩;by_cases ea:a=i
 ·subst ea;refine((h.row a ha).set j _).congr λb hb=>?_;rw[e a b ha hb];by_cases eb:b=j
  ·simp[eb]
  ·simp[eb]
 ·refine((h.row a ha).setOther (by show w.heap.size+1+a≠w.heap.size+1+i;omega) _).congr λb hb=>?_;rw[e a b ha hb,qi (by omega)]
theorem Mx.data(h:Mx w wr tO tI n cp S){O:Nat->Prop}(hO:∀b,O b->b<w.heap.size)(h0:0<n):Aw O wr (.slice (some ⟨w.heap.size,0,none⟩) n n) (D.list 1 (((List.range n).map λi=>(List.range n).map λj=>S i j).map (An 1 (D.int .i64)))):=by
 obtain⟨M,hM⟩:∃M:List (List Int),M=(List.range n).map λi=>(List.range n).map λj=>S i j:=⟨_,rfl⟩;rw[<-hM];have hl:n=(M.map (An 1 (D.int .i64))).length:=by rw[hM];simp
 have hg:∀i x,(M.map (An 1 (D.int .i64)))[i]?=some x->i<n/\x=An 1 (D.int .i64) ((List.range n).map λj=>S i j):=by
  intro i x hx;rw[hM,List.map_map,ql]at hx;by_cases hi:i<n
  ·rw[si hi]at hx;exact⟨hi,(P3 hx).symm⟩
  ·rw[qv (by simpa using hi)]at hx
   cases hx
 have:=Aw.list (O:=O) (w:=wr) w.heap.size 0 n 1 (M.map (An 1 (D.int .i64))) (λi _=>.slice (some ⟨w.heap.size+1+i,0,none⟩) n (cp i)) (by intro e;rw[e]at hl;simp at hl;omega) (by rw[h.size];omega) (λhb=>by have:=hO _ hb;omega) (by omega)
  (λx hx=>by obtain⟨r,_,rfl⟩:=List.mem_map.1 hx;rfl) (λx hx y hy=>by obtain⟨r,_,rfl⟩:=List.mem_map.1 hx;simp[D.cells]at hy;subst hy;rfl)
  (λi x j y hx hy=>by
   obtain⟨hi,rfl⟩:=hg i x hx
   match j,hy with
   | 0,_=>rw[ry,qY,qy];exact h.top.cell hi
   | j+1,hy=>simp[D.cells]at hy)
  (λi x j y hx hy=>by
   obtain⟨hi,rfl⟩:=hg i x hx
   match j,hy with
   | j+1,hy=>simp[D.cells]at hy
   | 0,hy =>
     simp[D.cells]at hy;subst hy;have hl2:n=(((List.range n).map λj=>S i j).map (D.int .i64)).length:=by simp
     have:=Aw.list (O:=O) (w:=wr) (w.heap.size+1+i) 0 (cp i) 1 (((List.range n).map λj=>S i j).map (D.int .i64)) (λj _=>.int .i64 (S i j)) (by intro e;rw[e]at hl2;simp at hl2;omega) (by rw[h.size];omega) (λhb=>by have:=hO _ hb;omega) (by rw[<-hl2];exact h.cap i hi)
      (λx hx=>by obtain⟨r,_,rfl⟩:=List.mem_map.1 hx;rfl) (λx hx y hy=>by obtain⟨r,_,rfl⟩:=List.mem_map.1 hx;simp[D.cells]at hy;subst hy;rfl)
      (λa x b y hx hy=>by
       rw[List.map_map,ql]at hx;by_cases ha:a<n
       ·rw[si ha]at hx;obtain rfl:=P3 hx
        match b,hy with
        | 0,_=>rw[ry,qY,qy];exact(h.row i hi).cell (qm ha (h.cap i hi))
        | b+1,hy=>simp[D.cells]at hy
       ·rw[qv (by simpa using ha)]at hx
        cases hx)
      (λa x b y hx hy=>by
       rw[List.map_map,ql]at hx;by_cases ha:a<n
       ·rw[si ha]at hx;obtain rfl:=P3 hx
        match b,hy with
        | 0,hy=>simp[D.cells]at hy;subst hy;exact .int _ _
        | b+1,hy=>simp[D.cells]at hy
       ·rw[qv (by simpa using ha)]at hx
        cases hx)
     rw[<-hl2]at this;exact this)
 rw[<-hl]at this;exact this
end
def LD:List (List Int)->List Bool->Int->Int
 | [],_,p=>p
 | r :: rs,tk,p=>go rs tk r 0 p 0
where
 go (rs:List (List Int)) (tk:List Bool):List Int->Nat->Int->Int->Int
  | [],_,_,s=>s
  | x :: xs,k,p,s=>bif tk.getD k true then go rs tk xs (k+1) p s
      else go rs tk xs (k+1) (-p) (bif x==0 then s else s+LD rs (tk.set k true) (p*x))
def WC(m:List (List Int)):Int:=LD m (m.map λ_=>false) 1
def ZF:List Int->Nat
 | []=>0
 | x :: xs=>x.natAbs+ZF xs
def Xn:List (List Int)->Nat
 | []=>1
 | r :: rs=>ZF r*Xn rs
theorem j9(B:Nat)(rs:List (List Int))(ih:∀tk p,(LD rs tk p).natAbs<=p.natAbs*B)(tk:List Bool) :
 ∀(xs:List Int)(k:Nat)(p s:Int),(LD.go rs tk xs k p s).natAbs<=s.natAbs+p.natAbs*(ZF xs*B)
 | [],k,p,s=>by simp[LD.go]
 | x :: xs,k,p,s=>by
   have e:(x.natAbs+ZF xs)*B=x.natAbs*B+ZF xs*B:=re _ _ _;simp only[LD.go,ZF,e,Nat.mul_add]
   cases tk.getD k true with
   | true=>simp only[qK];have:=j9 B rs ih tk xs (k+1) p s;omega
   | false =>
     simp only[q9];have h:=j9 B rs ih tk xs (k+1) (-p) (bif x==0 then s else s+LD rs (tk.set k true) (p*x));rw[Int.natAbs_neg]at h;have h2:=ih (tk.set k true) (p*x);rw[Int.natAbs_mul,rr]at h2
     cases hx:(x==0)with
     | true=>rw[hx]at h;simp only[qK]at h ⊢;omega
     | false =>
       rw[hx]at h;simp only[q9]at h ⊢;have:=Int.natAbs_add_le s (LD rs (tk.set k true) (p*x));omega
theorem fU:∀(rs:List (List Int))(tk:List Bool)(p:Int),(LD rs tk p).natAbs<=p.natAbs*Xn rs
 | [],tk,p=>by simp[LD,Xn]
 | r :: rs,tk,p=>by
   have:=j9 (Xn rs) rs (fU rs) tk r 0 p 0
   simpa [LD,Xn] using this
theorem lR(m:List (List Int)):(WC m).natAbs<=Xn m:=by
 have:=fU m (m.map λ_=>false) 1
 simpa [WC] using this
def R2(m:List (List Int)):Nat->Nat->Nat->Int
 | 0,_,_=>0
 | k+1,a,b=>Go.IntKind.i64.wrap (R2 m k a b+Go.IntKind.i64.wrap (PC m k a*PC m k b))
def Sq(m:List (List Int))(col:Nat)(b:List Int)(i c:Nat):Int:=if c=col then b.getD i 0 else PC m i c
def ia(n:Nat)(S:Nat->Nat->Int):List (List Int):=(List.range n).map λi=>(List.range n).map λj=>S i j
def lenM(m:List (List Int))(n:Nat):Bool:=m.all λr=>r.length==n
def Kq(p0:List (List Int)):Option (List (List Int)) :=
 bif decide (0<p0.length/\p0.length<=1000000/\0<(p0.getD 0 []).length/\(p0.getD 0 []).length<=1000000)&&lenM p0 (p0.getD 0 []).length then some (ia (p0.getD 0 []).length (R2 p0 p0.length))else none
def GO(p0:List (List Int))(p1:Int)(p2:List Int):Option (List (List Int)) :=
 bif decide (0<=p1/\p1<p0.length/\p0.length<=1000000/\p0.length<=p2.length)&&lenM p0 p0.length then some (ia p0.length (Sq p0 p1.toNat p2))else none
def jF(n:Int):Bool:=decide (-9223372036854775808<=n/\n<=9223372036854775807)
def lE(z:Int):AM:={ D:=F.Hi z,C:=F.Lo z }
def On(n:Int):Bool:=decide (0<=n/\n<18446744073709551616)
def P9(w:AM):Int:=bif decide (w.D*18446744073709551616+w.C<F.B127)then w.D*18446744073709551616+w.C else w.D*18446744073709551616+w.C-2*F.B127
def CO(p0:List (List Int)):Option AM :=
 bif decide (0<p0.length/\p0.length<=1000)&&(lenM p0 p0.length&&p0.all λr=>r.all jF)then some (lE (WC p0))else none
def Qp(p0:Int):Option AM:=bif jF p0 then some (lE p0)else none
def EM(p0:AM):Option Int:=bif On p0.D&&On p0.C then some (P9 p0).sign else none
def Gj(p0:AM)(p1:AM):Option (AI×Int) :=
 bif(On p0.D&&On p0.C)&&((On p1.D&&On p1.C)&&(decide (P9 p1≠0/\-F.B127<P9 p0/\-F.B127<P9 p1)))then some ({ L:=(F.redF (F.nn (P9 p0) (P9 p1)) (P9 p1).natAbs).1,N:=(F.redF (F.nn (P9 p0) (P9 p1)) (P9 p1).natAbs).2 },F.redE (F.nn (P9 p0) (P9 p1)) (P9 p1).natAbs)else none
def GP(p0:Int)(p1:Int):Option (Int×Int):=bif On p0&&On p1 then some (p0*p1/18446744073709551616,p0*p1%18446744073709551616)else none
def IS(p0:Int)(p1:Int)(p2:Int):Option (Int×Int):=bif(On p0&&On p1)&&(p2==0||p2==1)then some ((p0+p1+p2)%18446744073709551616,(p0+p1+p2)/18446744073709551616)else none
abbrev RG(a:ByteArray):Option Bool :=
 bif a.toList==({ data:=#[97,108,108] }:ByteArray).toList then
  some false
 else
  bif a.toList==({ data:=#[97,110,100] }:ByteArray).toList then
   some false
  else
   bif a.toList==({ data:=#[101,118,101,110,116] }:ByteArray).toList then
    some false
   else
    bif a.toList==({ data:=#[102,114,111,109] }:ByteArray).toList then
     some false
    else
     bif a.toList==({ data:=#[109,105,115,115,105,110,103] }:ByteArray).toList then
      some false
     else
      bif a.toList==({ data:=#[110,111,116] }:ByteArray).toList then
       some false
      else
       bif a.toList==({ data:=#[111,110] }:ByteArray).toList then
        some false
       else
        bif a.toList==({ data:=#[111,114] }:ByteArray).toList then
         some false
        else
         bif a.toList==({ data:=#[116,111] }:ByteArray).toList then
          some false
         else
          bif a.toList==({ data:=#[117,110,100,101,114] }:ByteArray).toList then
           some false
          else
           bif a.toList==({ data:=#[119,104,101,114,101] }:ByteArray).toList then
            some false
           else
            some true
abbrev RF(c:ByteArray)(e:Int->Option Bool)(f:Int->Option Bool)(b:Int):Option Bool :=
 bif decide (b<((N4 c).length:Int))then
  (idx (N4 c) b).bind λa =>
  bif bif bif bif decide (a<97)then true else(decide (a>122))then(bif decide (a<48)then true else(decide (a>57)))else false then(a != 95)else false then
   some false
  else
   f (i64.wrap (b+1))
 else
  e b
def NX(a:ByteArray):Option Bool :=
 iter (λb s=>RF a (λc=>RG a) b s) AD 0
def CN(a:ByteArray):Option Bool :=
 bif bif decide ((a.size:Int)<1)then true else(decide ((a.size:Int)>16))then
  some false
 else
  bif decide (0<=(0:Int)/\(0:Int).toNat<a.size)then
   bif decide ((FJ a 0)<97)then
    some false
   else
    bif decide (0<=(0:Int)/\(0:Int).toNat<a.size)then
     bif decide ((FJ a 0)>122)then
      some false
     else
      NX a
    else none
  else none
abbrev PF(c:Am)(f:Int->(List Int)->Option (List Int))(e:(Int×(List Int))->Option (List Int))(a:Int)(b:List Int):Option (List Int) :=
 bif decide (a<(c.Q.length:Int))then
  (idx c.Q a).bind λg =>
  bif decide (a>0)then
   (idx b g.A7).bind λh =>
   (idx b a).bind λi =>
   e ((i64.wrap (a+1)),(b.set (a:Int).toNat (i64.wrap (h+1))))
  else
   e ((i64.wrap (a+1)),b)
 else
  f a b
def Gz(a:Am):Option (List Int) :=
 bif decide (0<=(a.Q.length:Int))&&rm ((a.Q.length:Int):Int).toNat 0 then
  iter (λb s=>PF a (λe c=>some c) b s.1 s.2) AD (0,(List.replicate ((a.Q.length:Int):Int).toNat 0))
 else none
abbrev Qk(c:List Int)(g:List Bool)(h:Int->Int->Option Int)(e:(Int×Int)->Option Int)(b:Int)(a:Int):Option Int :=
 bif decide (a<(c.length:Int))then
  (idx c a).bind λf =>
  (idx g a).bind λi =>
  bif i then
   e (b,(i64.wrap (a+1)))
  else
   bif bif decide (b>=0)then(f != b)else false then
    some 5
   else
    e (f,(i64.wrap (a+1)))
 else
  h b a
abbrev Ql(a:Am)(b:List Bool):Option Int :=
 (Gz a).bind λc =>
 iter (λe s=>Qk c b (λf g=>some 0) e s.1 s.2) AD ((-1),0)
def Qj(f:Am)(h:Int->(List (ByteArray×Bool))->(List Bool)->Option Int)(g:(Int×(List (ByteArray×Bool))×(List Bool))->Option Int)(a:Int)(c:List (ByteArray×Bool))(e:List Bool):Option Int :=
 bif decide (a<(f.Q.length:Int))then
  (idx f.Q a).bind λb =>
  (CN b.H).bind λi =>
  bif !i then
   some 3
  else
   bif(Zw b.H c).getD false then
    some 10
   else
    bif bif bif a==0 then(b.A7 != (-1))else false then true else(bif decide (a>0)then(bif decide (b.A7<0)then true else(decide (b.A7>=a)))else false)then
     some 6
    else
     bif decide (a>0)then
      (idx e b.A7).bind λj =>
      g ((i64.wrap (a+1)),(lq b.H true c),(e.set (b.A7:Int).toNat true))
     else
      g ((i64.wrap (a+1)),(lq b.H true c),e)
 else
  h a c e
def Gu(a:Am):Option Int :=
 (CN a.H).bind λb =>
 bif !b then
  some 3
 else
  bif(a.Q.length:Int)==0 then
   some 5
  else
   bif decide ((a.Q.length:Int)>60)then
    some 1
   else
    bif decide (0<=(a.Q.length:Int))&&rm ((a.Q.length:Int):Int).toNat 0 then
     iter (λc s=>Qj a (λf g e=>Ql a e) c s.1 s.2.1 s.2.2) AD (0,[],(List.replicate ((a.Q.length:Int):Int).toNat false))
    else none
abbrev CB(b:List Am)(c:Am->Option Bool)(e:Int->Option Int)(f:Int->Option Int)(a:Int):Option Int :=
 bif decide (a<(b.length:Int))then
  (idx b a).bind λg =>
  (c g).bind λh =>
  bif h then
   some a
  else
   f (i64.wrap (a+1))
 else
  e a
def B3(a:List Am)(b:Am->Option Bool):Option Int :=
 iter (λc s=>CB a b (λe=>some (-1)) c s) AD 0
def AT(a:List Am)(b:Am->Option Bool):Option Bool :=
 (B3 a b).bind λc =>
 some (decide (c>=0))
def LJ(a:Am)(b:Am):Option Bool :=
 some (a.H.toList==b.H.toList)
abbrev Dj(b:List Ar)(c:Ar->Option Bool)(e:Int->Option Int)(f:Int->Option Int)(a:Int):Option Int :=
 bif decide (a<(b.length:Int))then
  (idx b a).bind λg =>
  (c g).bind λh =>
  bif h then
   some a
  else
   f (i64.wrap (a+1))
 else
  e a
def BF(a:List Ar)(b:Ar->Option Bool):Option Int :=
 iter (λc s=>Dj a b (λe=>some (-1)) c s) AD 0
def Be(a:List Ar)(b:Ar->Option Bool):Option Bool :=
 (BF a b).bind λc =>
 some (decide (c>=0))
def Hk(a:Ar)(b:Ar):Option Bool :=
 some (a.H.toList==b.H.toList)
abbrev GD(e:Ar)(g:Int->Int->Option Int)(f:(Int×Int)->Option Int)(c:Int)(a:Int):Option Int :=
 bif decide (a<(e.T.length:Int))then
  (idx e.T a).bind λb =>
  bif bif a==0 then(b != 1)else false then
   some 2
  else
   bif decide (a>0)then
    bif decide (b<=c)then
     some 2
    else
     bif decide (c≠0)then
      bif bif(Int.tmod b c) != 0 then true else(decide (b>1000000))then
       some 2
      else
       f (b,(i64.wrap (a+1)))
     else none
   else
    f (b,(i64.wrap (a+1)))
 else
  g c a
def El(a:Ar):Option Int :=
 bif bif bif decide (a.C<(-1000000))then true else(decide (a.D>1000000))then true else(decide (a.C>a.D))then
  some 2
 else
  bif bif(a.T.length:Int)==0 then true else(decide ((a.T.length:Int)>4))then
   some 1
  else
   iter (λb s=>GD a (λc e=>some 0) b s.1 s.2) AD (1,0)
def E6(a:Ar):Option Bool :=
 bif bif a.Kind != 2 then(a.Al != 0)else false then
  some false
 else
  some (bif a.Kind==3 then true else(bif bif bif a.C==0 then(a.D==0)else false then((a.T.length:Int)==0)else false then(!a.Az)else false))
def Fa(e:Aa)(b:Int):Option Int :=
 (idx e.A b).bind λa =>
 (CN a.H).bind λg =>
 bif !g then
  some 3
 else
  bif decide (0<=(0:Int)/\0<=b/\b<=(e.A.length:Int))then
   (Be (LZ e.A 0 b) (λa0=>Hk a0 a)).bind λh =>
   bif h then
    some 10
   else
    bif a.Kind==1 then
     bif decide (b>0)then
      some 4
     else
      (E6 a).bind λc =>
      bif !c then
       some 11
      else
       some 0
    else
     bif a.Kind==2 then
      bif bif decide (a.Al<0)then true else(decide (a.Al>=(e.J.length:Int)))then
       some 5
      else
       (E6 a).bind λc =>
       bif !c then
        some 11
       else
        some 0
     else
      bif a.Kind==3 then
       (El a).bind λf =>
       bif f != 0 then
        some f
       else
        (E6 a).bind λc =>
        bif !c then
         some 11
        else
         some 0
      else
       some 4
  else none
abbrev IZ(b:Aa)(e:Int->Option Int)(f:Int->Option Int)(a:Int):Option Int :=
 bif decide (a<(b.A.length:Int))then
  (Fa b a).bind λc =>
  bif c != 0 then
   some c
  else
   f (i64.wrap (a+1))
 else
  e a
abbrev LK(a:Aa):Option Int :=
 bif(a.A.length:Int)==0 then
  some 7
 else
  (idx a.A 0).bind λb =>
  bif b.Kind != 1 then
   some 7
  else
   iter (λc s=>IZ a (λe=>some 0) c s) AD 0
abbrev IY(b:Aa)(f:Int->Option Int)(g:Int->Option Int)(a:Int):Option Int :=
 bif decide (a<(b.J.length:Int))then
  (idx b.J a).bind λc =>
  (Gu c).bind λe =>
  bif e != 0 then
   some e
  else
   bif decide (0<=(0:Int)/\0<=a/\a<=(b.J.length:Int))then
    (AT (LZ b.J 0 a) (λa0=>LJ a0 c)).bind λh =>
    bif h then
     some 10
    else
     g (i64.wrap (a+1))
   else none
 else
  f a
def Cw(a:Aa):Option Int :=
 bif bif decide ((a.J.length:Int)>6)then true else(decide ((a.A.length:Int)>8))then
  some 1
 else
  iter (λb s=>IY a (λc=>LK a) b s) AD 0
abbrev Ku(c:List Int)(f:Int->Int->Option Int)(g:(Int×Int)->Option Int)(b:Int)(a:Int):Option Int :=
 bif decide (a<(c.length:Int))then
  (idx c a).bind λe =>
  g ((if e>b then e else b),(i64.wrap (a+1)))
 else
  f b a
def I6(a:List Int):Option Int :=
 bif decide ((a.length:Int)<1)then
  none
 else
  (idx a 0).bind λb =>
  iter (λc s=>Ku a (λe f=>some e) c s.1 s.2) AD (b,1)
def Eo(a:Am):Option Int :=
 (Gu a).bind λb =>
 bif b != 0 then
  some (-1)
 else
  (Gz a).bind λc =>
  (I6 c).bind λe =>
  some (i64.wrap (e+1))
def FN(a:Aa)(b:Int):Option Int :=
 bif bif decide (b<1)then true else(decide (b>=(a.A.length:Int)))then
  some (-1)
 else
  (idx a.A b).bind λc =>
  bif c.Kind==2 then
   (idx a.J c.Al).bind λe =>
   (Eo e).bind λf =>
   some (i64.wrap (f-1))
  else
   some (c.T.length:Int)
def J5(c:Aa)(a:Ad):Option Int :=
 (FN c a.B).bind λb =>
 bif decide (b<0)then
  some 7
 else
  bif bif decide (a.S<0)then true else(decide (a.S>b))then
   some 8
  else
   some 0
abbrev Ja(b:List Ad)(g:Aa)(h:Int->Option Int)(c:Int->Option Int)(a:Int):Option Int :=
 bif decide (a<(b.length:Int))then
  (idx b a).bind λe =>
  (J5 g e).bind λf =>
  bif f != 0 then
   some f
  else
   bif decide (a>0)then
    (idx b (i64.wrap (a-1))).bind λi =>
    bif decide (e.B<=i.B)then
     some 10
    else
     c (i64.wrap (a+1))
   else
    c (i64.wrap (a+1))
 else
  h a
def Iy(a:Aa)(c:List Ad):Option Int :=
 (Cw a).bind λb =>
 bif b != 0 then
  some b
 else
  iter (λe s=>Ja c a (λf=>some 0) e s) AD 0
def GG(a:Ar)(b:Int):Option Int :=
 (idx a.T (i64.wrap ((a.T.length:Int)-b))).bind λc =>
 some c
def E5(a:Int)(b:Int):Option Int :=
 bif decide (b≠0)then
  bif decide ((Int.tmod a b)<0)then
   some (i64.wrap (a-(i64.wrap ((Int.tmod a b)+b))))
  else
   some (i64.wrap (a-(Int.tmod a b)))
 else none
def J6(b:Ar)(e:Int)(a:Int):Option (Int×Int×Bool) :=
 bif e==0 then
  some (b.C,b.D,(a==0))
 else
  bif bif decide (a<(-2000000))then true else(decide (a>1000000))then
   some (0,0,false)
  else
   (GG b e).bind λc =>
   (E5 a c).bind λf =>
   some ((if b.C>a then b.C else a),(if b.D<(i64.wrap ((i64.wrap (a+c))-1))then b.D else(i64.wrap ((i64.wrap (a+c))-1))),(bif f==a then(decide ((if b.C>a then b.C else a)<=(if b.D<(i64.wrap ((i64.wrap (a+c))-1))then b.D else(i64.wrap ((i64.wrap (a+c))-1)))))else false))
abbrev Vm(c:List Int)(f:Int)(g:Int->(List Int)->Option (List Int))(e:(Int×(List Int))->Option (List Int))(a:Int)(b:List Int):Option (List Int) :=
 bif decide (a<(c.length:Int))then
  (idx c a).bind λh =>
  bif h==f then
   bif rm b.length [a].length then
    e ((i64.wrap (a+1)),(b++[a]))
   else none
  else
   e ((i64.wrap (a+1)),b)
 else
  g a b
def Hx(a:Am)(b:Int):Option (List Int) :=
 (Gu a).bind λc =>
 bif c != 0 then
  some []
 else
  (Gz a).bind λe =>
  iter (λf s=>Vm e b (λh g=>some g) f s.1 s.2) AD (0,[])
def K8(a:Am)(b:Int):Option Bool :=
 bif bif decide (b>=0)then(decide (b<(a.Q.length:Int)))else false then
  (Gu a).bind λc =>
  some (c==0)
 else
  some false
abbrev Vn(c:Int)(e:Am)(f:Int->Int->Option Int)(g:(Int×Int)->Option Int)(b:Int)(a:Int):Option Int :=
 bif decide (a>=c)then
  bif a==c then
   some b
  else
   (idx e.Q b).bind λh =>
   g (h.A7,(i64.wrap (a-1)))
 else
  f b a
def Hy(a:Am)(b:Int)(c:Int):Option Int :=
 (K8 a b).bind λe =>
 bif bif !e then true else(decide (c<0))then
  some (-1)
 else
  (Gz a).bind λf =>
  (idx f b).bind λg =>
  iter (λh s=>Vn c a (λi j=>some (-1)) h s.1 s.2) AD (b,g)
abbrev Nw(b:List Int)(e:Am)(f:Int)(g:Int)(h:Int->Option (Int×Bool))(i:Int->Option (Int×Bool))(a:Int):Option (Int×Bool) :=
 bif decide (a<(b.length:Int))then
  (idx b a).bind λc =>
  (Hy e c f).bind λj =>
  bif j==g then
   some (c,true)
  else
   i (i64.wrap (a+1))
 else
  h a
def Ci(f:Aa)(h:Int)(c:Int)(a:Int):Option (Int×Bool) :=
 (idx f.A h).bind λb =>
 bif b.Kind==3 then
  bif bif decide (c>0)then(a==(-1099511627776))else false then
   some (a,b.Az)
  else
   (J6 b c a).bind λg =>
   some (g.1,g.2.2)
 else
  (idx f.J b.Al).bind λe =>
  (Eo e).bind λi =>
  (Hx e (i64.wrap (i-1))).bind λj =>
  iter (λk s=>Nw j e c a (λl=>some (0,false)) k s) AD 0
abbrev IP(b:List Ad)(e:List Int)(f:Aa)(g:Int->Option Bool)(h:Int->Option Bool)(a:Int):Option Bool :=
 bif decide (a<(b.length:Int))then
  (idx b a).bind λc =>
  (idx e (i64.wrap (a+1))).bind λi =>
  (Ci f c.B c.S i).bind λj =>
  bif !j.2 then
   some false
  else
   h (i64.wrap (a+1))
 else
  g a
abbrev LE(a:List Ad)(b:List Int)(c:Aa):Option Bool :=
 iter (λe s=>IP a b c (λf=>some true) e s) AD 0
def JG(c:Aa)(b:List Ad)(a:List Int):Option Bool :=
 bif(a.length:Int) != (i64.wrap ((b.length:Int)+1))then
  some false
 else
  (idx a 0).bind λe =>
  bif decide (e<0)then
   some false
  else
   (idx a 0).bind λf =>
   bif decide (f>1048575)then
    some false
   else
    LE b a c
abbrev Il(b:As)(f:Aa)(g:Int->Option Int)(c:Int->Option Int)(a:Int):Option Int :=
 bif decide (a<(b.G.length:Int))then
  (idx b.G a).bind λe =>
  (JG f b.X e).bind λh =>
  bif !h then
   some 9
  else
   bif decide (a>0)then
    (idx e 0).bind λi =>
    (idx b.G (i64.wrap (a-1))).bind λj =>
    (idx j 0).bind λk =>
    bif decide (i<=k)then
     some 10
    else
     c (i64.wrap (a+1))
   else
    c (i64.wrap (a+1))
 else
  g a
def C5(b:Aa)(a:As):Option Int :=
 (Cw b).bind λc =>
 bif c != 0 then
  some c
 else
  (CN a.Af).bind λf =>
  bif !f then
   some 3
  else
   bif bif decide (a.Ag<0)then true else(decide (a.Ag>300))then
    some 13
   else
    (Iy b a.X).bind λe =>
    bif e != 0 then
     some e
    else
     bif decide ((a.G.length:Int)>200)then
      some 1
     else
      iter (λg s=>Il a b (λh=>some 0) g s) AD 0
abbrev G0(c:Aj)(e:Int)(g:Aj->Int->Option Int)(f:Int->Int->Option Int)(h:(Int×Int)->Option Int)(a:Int)(b:Int):Option Int :=
 bif decide (b<(c.E.length:Int))then
  (idx c.E b).bind λi =>
  bif decide (a>e)then
   f a b
  else
   (g i (i64.wrap (e-a))).bind λj =>
   h ((i64.wrap (a+j)),(i64.wrap (b+1)))
 else
  f a b
def F1(d:Nat)(a:Aj->Int->Option Int)(b:Aj)(c:Int):Option Int :=
 iter (λe s=>G0 b c a (λf g=>some f) e s.1 s.2) AD (1,0)
def Fq:Nat->Aj->Int->Option Int
 | 0,_,_=>none
 | d+1,a,b=>F1 d (Fq d) a b
abbrev Ho(c:Aj)(f:Aj->Option Int)(g:Int->Int->Option Int)(h:(Int×Int)->Option Int)(b:Int)(a:Int):Option Int :=
 bif decide (a<(c.E.length:Int))then
  (idx c.E a).bind λi =>
  (f i).bind λe =>
  h ((if e>b then e else b),(i64.wrap (a+1)))
 else
  g b a
def E9(d:Nat)(a:Aj->Option Int)(b:Aj):Option Int :=
 iter (λc s=>Ho b a (λe f=>some (i64.wrap (e+1))) c s.1 s.2) AD (0,0)
def De:Nat->Aj->Option Int
 | 0,_=>none
 | d+1,a=>E9 d (De d) a
def ML(a:Int):Option Int :=
 bif a==5 then
  some 2
 else
  bif a==6 then
   some 2
  else
   bif a==7 then
    some 1
   else
    some 0
def K9(a:Aj):Option Bool :=
 bif bif !(bif bif a.Op==2 then true else(a.Op==3)then true else(a.Op==4))then(a.B != 0)else false then
  some false
 else
  bif bif a.Op != 2 then(a.Z != 0)else false then
   some false
  else
   some (bif a.Op==3 then true else(bif a.C==0 then(a.D==0)else false))
abbrev D1(c:Aa)(a:Aj):Option Int :=
 (idx c.A a.B).bind λb =>
 bif a.Op==2 then
  bif b.Kind != 2 then
   some 7
  else
   bif decide (a.Z<0)then
    some 6
   else
    (idx c.J b.Al).bind λe =>
    bif decide (a.Z>=(e.Q.length:Int))then
     some 6
    else
     some 0
 else
  bif a.Op==3 then
   bif b.Kind != 3 then
    some 7
   else
    bif bif bif decide (a.C>a.D)then true else(decide (a.C<(-1000000)))then true else(decide (a.D>1000000))then
     some 2
    else
     some 0
  else
   bif a.Op==4 then
    bif bif b.Kind != 3 then true else(!b.Az)then
     some 7
    else
     some 0
   else
    some 0
def EH(b:Aa)(a:Aj):Option Int :=
 bif bif decide (a.Op<1)then true else(decide (a.Op>7))then
  some 4
 else
  (ML a.Op).bind λc =>
  bif(a.E.length:Int) != c then
   some 11
  else
   (K9 a).bind λe =>
   bif !e then
    some 11
   else
    bif bif bif a.Op != 2 then(a.Op != 3)else false then(a.Op != 4)else false then
     some 0
    else
     bif bif decide (a.B<0)then true else(decide (a.B>=(b.A.length:Int)))then
      some 7
     else
      D1 b a
abbrev Ff(b:Aj)(e:Aa->Aj->Option Int)(f:Aa)(g:Int->Option Int)(h:Int->Option Int)(a:Int):Option Int :=
 bif decide (a<(b.E.length:Int))then
  (idx b.E a).bind λi =>
  (e f i).bind λc =>
  bif c != 0 then
   some c
  else
   h (i64.wrap (a+1))
 else
  g a
def DN(d:Nat)(e:Aa->Aj->Option Int)(a:Aa)(b:Aj):Option Int :=
 (EH a b).bind λc =>
 bif c != 0 then
  some c
 else
  iter (λf s=>Ff b e a (λg=>some 0) f s) AD 0
def D6:Nat->Aa->Aj->Option Int
 | 0,_,_=>none
 | d+1,a,b=>DN d (D6 d) a b
def BG(d:Nat)(b:Aa)(a:Aj):Option Int :=
 (Cw b).bind λc =>
 bif c != 0 then
  some c
 else
  (Fq d a 40).bind λe =>
  bif decide (e>40)then
   some 1
  else
   (De d a).bind λf =>
   bif decide (f>10)then
    some 22
   else
    (D6 d b a).bind λg =>
    some g
abbrev DZ(b:List Ap)(c:Ap->Option Bool)(e:Int->Option Int)(f:Int->Option Int)(a:Int):Option Int :=
 bif decide (a<(b.length:Int))then
  (idx b a).bind λg =>
  (c g).bind λh =>
  bif h then
   some a
  else
   f (i64.wrap (a+1))
 else
  e a
def BZ(a:List Ap)(b:Ap->Option Bool):Option Int :=
 iter (λc s=>DZ a b (λe=>some (-1)) c s) AD 0
def Av(a:List Ap)(b:Ap->Option Bool):Option Bool :=
 (BZ a b).bind λc =>
 some (decide (c>=0))
abbrev NJ :Option (AW×Bool) :=
 some (({}:AW),false)
def JP(a:Int):Option (AW×Bool) :=
 bif a==1 then
  some (({ Bt:=true }:AW),true)
 else
  bif a==2 then
   some (({ Br:=true }:AW),true)
  else
   bif a==3 then
    some (({ Bk:=true }:AW),true)
   else
    bif a==4 then
     some (({ Bp:=true,Bk:=true }:AW),true)
    else
     bif a==5 then
      some (({ Bp:=true,Bk:=true }:AW),true)
     else
      bif a==14 then
       some (({ Bp:=true,Bk:=true }:AW),true)
      else
       bif a==6 then
        some (({}:AW),true)
       else
        bif a==7 then
         some (({}:AW),true)
        else
         bif a==8 then
          some (({}:AW),true)
         else
          bif a==9 then
           some (({}:AW),true)
          else
           bif a==10 then
            some (({ Bp:=true,Bw:=true,Bk:=true }:AW),true)
           else
            bif a==11 then
             some (({ Bp:=true,Bv:=true,Bk:=true }:AW),true)
            else
             bif a==12 then
              some (({ Bp:=true,Bk:=true,Bq:=true }:AW),true)
             else
              bif a==13 then
               some (({ Bt:=true,Bp:=true,Bk:=true }:AW),true)
              else
               NJ
def B8(a:Int):Option Bool :=
 some (bif decide (a>=6)then(decide (a<=9))else false)
def FM(a:Aj):Option Bool :=
 some (bif bif bif bif bif a.Op==0 then(a.B==0)else false then(a.Z==0)else false then(a.C==0)else false then(a.D==0)else false then((a.E.length:Int)==0)else false)
def Gp(a:Ap)(b:AW):Option Bool :=
 bif bif bif bif bif bif b.Bt then true else(a.L==0)then(bif b.Br then true else(a.H.toList==({ data:=#[] }:ByteArray).toList))else false then(bif b.Bp then true else(a.B==0))else false then(bif b.Bv then true else((a.A.length:Int)==0))else false then(bif b.Bw then true else((a.Ac.length:Int)==0))else false then
  bif b.Bk then
   bif b.Bq then
    (B8 a.Op).bind λc =>
    some (bif c then true else((a.E.length:Int)==0))
   else
    (FM a.U).bind λe =>
    bif e then
     (B8 a.Op).bind λc =>
     some (bif c then true else((a.E.length:Int)==0))
    else
     some false
  else
   (FM a.V).bind λf =>
   bif f then
    bif b.Bq then
     (B8 a.Op).bind λc =>
     some (bif c then true else((a.E.length:Int)==0))
    else
     (FM a.U).bind λe =>
     bif e then
      (B8 a.Op).bind λc =>
      some (bif c then true else((a.E.length:Int)==0))
     else
      some false
   else
    some false
 else
  some false
abbrev IH(b:List Int)(c:Int)(e:Int->Option Int)(f:Int->Option Int)(a:Int):Option Int :=
 bif decide (a<(b.length:Int))then
  (idx b a).bind λg =>
  bif c==g then
   some a
  else
   f (i64.wrap (a+1))
 else
  e a
def Ck(a:List Int)(b:Int):Option Int :=
 iter (λc s=>IH a b (λe=>some (-1)) c s) AD 0
def AU(a:List Int)(b:Int):Option Bool :=
 (Ck a b).bind λc =>
 some (decide (c>=0))
def BJ(b:Aa)(a:Int):Option Bool :=
 bif bif decide (a>=0)then(decide (a<(b.A.length:Int)))else false then
  (idx b.A a).bind λc =>
  some (c.Kind==3)
 else
  some false
abbrev Ea(b:List Ad)(c:Ad->Option Bool)(e:Int->Option Int)(f:Int->Option Int)(a:Int):Option Int :=
 bif decide (a<(b.length:Int))then
  (idx b a).bind λg =>
  (c g).bind λh =>
  bif h then
   some a
  else
   f (i64.wrap (a+1))
 else
  e a
def Bg(a:List Ad)(b:Ad->Option Bool):Option Int :=
 iter (λc s=>Ea a b (λe=>some (-1)) c s) AD 0
def AF(a:List Ad)(b:Ad->Option Bool):Option Bool :=
 (Bg a b).bind λc =>
 some (decide (c>=0))
def LC(a:Aa)(c:Ad):Option Int :=
 (Cw a).bind λb =>
 bif b != 0 then
  some b
 else
  (J5 a c).bind λe =>
  some e
def IT(a:Ad)(b:Ad):Option Bool :=
 some (a.B==b.B)
abbrev PT(b:List Ad)(e:Aa)(f:Int->Option Bool)(g:Int->Option Bool)(a:Int):Option Bool :=
 bif decide (a<(b.length:Int))then
  (idx b a).bind λc =>
  (LC e c).bind λh =>
  bif h != 0 then
   some false
  else
   (idx e.A c.B).bind λi =>
   bif i.Kind != 2 then
    some false
   else
    bif decide (0<=(0:Int)/\0<=a/\a<=(b.length:Int))then
     (AF (LZ b 0 a) (λa0=>IT a0 c)).bind λj =>
     bif j then
      some false
     else
      g (i64.wrap (a+1))
    else none
 else
  f a
def JO(b:Aa)(a:List Ad):Option Bool :=
 iter (λc s=>PT a b (λe=>some (bif decide ((a.length:Int)>=1)then(decide ((a.length:Int)<=3))else false)) c s) AD 0
abbrev OE(b:List Int)(e:Aa)(f:Int)(g:Int->Option Bool)(h:Int->Option Bool)(a:Int):Option Bool :=
 bif decide (a<(b.length:Int))then
  (idx b a).bind λc =>
  (BJ e c).bind λi =>
  bif bif !i then true else(c==f)then
   some false
  else
   bif decide (0<=(0:Int)/\0<=a/\a<=(b.length:Int))then
    (AU (LZ b 0 a) c).bind λj =>
    bif j then
     some false
    else
     h (i64.wrap (a+1))
   else none
 else
  g a
def IA(b:Aa)(c:Int)(a:List Int):Option Bool :=
 iter (λe s=>OE a b c (λf=>some (bif decide ((a.length:Int)>=1)then(decide ((a.length:Int)<=3))else false)) e s) AD 0
def Mn(b:Aa)(a:Ap):Option Bool :=
 bif a.Op==1 then
  some (bif decide (a.L>=(-1099511627776))then(decide (a.L<=1099511627776))else false)
 else
  bif a.Op==2 then
   (CN a.H).bind λe =>
   some e
  else
   bif a.Op==4 then
    (BJ b a.B).bind λc =>
    some c
   else
    bif a.Op==5 then
     (BJ b a.B).bind λc =>
     some c
    else
     bif a.Op==14 then
      (BJ b a.B).bind λc =>
      some c
     else
      bif a.Op==10 then
       (JO b a.Ac).bind λf =>
       bif f then
        bif a.B==(-1)then
         some true
        else
         (BJ b a.B).bind λg =>
         some g
       else
        some false
      else
       bif a.Op==11 then
        (BJ b a.B).bind λh =>
        bif h then
         (IA b a.B a.A).bind λi =>
         some i
        else
         some false
       else
        bif a.Op==12 then
         (BJ b a.B).bind λj =>
         bif j then
          (idx b.A a.B).bind λk =>
          some (decide (k.C>=0))
         else
          some false
        else
         bif a.Op==13 then
          (BJ b a.B).bind λl =>
          bif l then
           (idx b.A a.B).bind λm =>
           (AU m.T a.L).bind λn =>
           some n
          else
           some false
         else
          some true
def DX(a:Int):Option Bool :=
 some (bif decide (a>=1)then(decide (a<=9))else false)
def Iu(g:AW×Bool)(d:Nat)(b:Aa)(a:Ap)(f:Ap->Aa->Option Bool):Option Bool :=
 bif g.1.Bk then
  (BG d b a.V).bind λi =>
  bif i != 0 then
   some false
  else
   bif g.1.Bq then
    (BG d b a.U).bind λh =>
    bif h != 0 then
     some false
    else
     (B8 a.Op).bind λc =>
     bif bif c then((a.E.length:Int) != 2)else false then
      some false
     else
      (Av a.E (λa0=>f a0 b)).bind λe =>
      some (!e)
   else
    (B8 a.Op).bind λc =>
    bif bif c then((a.E.length:Int) != 2)else false then
     some false
    else
     (Av a.E (λa0=>f a0 b)).bind λe =>
     some (!e)
 else
  bif g.1.Bq then
   (BG d b a.U).bind λh =>
   bif h != 0 then
    some false
   else
    (B8 a.Op).bind λc =>
    bif bif c then((a.E.length:Int) != 2)else false then
     some false
    else
     (Av a.E (λa0=>f a0 b)).bind λe =>
     some (!e)
  else
   (B8 a.Op).bind λc =>
   bif bif c then((a.E.length:Int) != 2)else false then
    some false
   else
    (Av a.E (λa0=>f a0 b)).bind λe =>
    some (!e)
def GU(d:Nat)(h:Aa->Ap->Option Bool)(e:Ap->Aa->Option Bool)(c:Aa)(a:Ap):Option Bool :=
 (JP a.Op).bind λb =>
 bif !b.2 then
  some false
 else
  (Gp a b.1).bind λf =>
  bif !f then
   some false
  else
   (Mn c a).bind λg =>
   bif !g then
    some false
   else
    Iu b d c a e
def EW(d:Nat)(b:Aa->Ap->Option Bool)(g:Ap->Aa->Option Bool)(a:Ap)(c:Aa):Option Bool :=
 (DX a.Op).bind λe =>
 bif !e then
  some true
 else
  (b c a).bind λf =>
  some (!f)
mutual
def BY:Nat->Aa->Ap->Option Bool
 | 0,_,_=>none
 | d+1,a,b=>GU d (BY d) (DC d) a b
def DC:Nat->Ap->Aa->Option Bool
 | 0,_,_=>none
 | d+1,a,b=>EW d (BY d) (DC d) a b
end
def C7(d:Nat)(a:Aa)(b:Ap):Option Bool :=
 (Cw a).bind λc =>
 bif c==0 then
  (BY d a b).bind λe =>
  some e
 else
  some false
abbrev Cy(b:List Au)(c:Au->Option Bool)(e:Int->Option Int)(f:Int->Option Int)(a:Int):Option Int :=
 bif decide (a<(b.length:Int))then
  (idx b a).bind λg =>
  (c g).bind λh =>
  bif h then
   some a
  else
   f (i64.wrap (a+1))
 else
  e a
def Bn(a:List Au)(b:Au->Option Bool):Option Int :=
 iter (λc s=>Cy a b (λe=>some (-1)) c s) AD 0
def AN(a:List Au)(b:Au->Option Bool):Option Bool :=
 (Bn a b).bind λc =>
 some (decide (c>=0))
def Eu(a:Au)(b:ByteArray):Option Bool :=
 some (a.H.toList==b.toList)
def C1(a:ByteArray)(b:List Au):Option Bool :=
 (AN b (λa0=>Eu a0 a)).bind λc =>
 some c
abbrev Gm(c:Ap)(e:Int)(g:Ap->Int->Option Int)(f:Int->Int->Option Int)(h:(Int×Int)->Option Int)(a:Int)(b:Int):Option Int :=
 bif decide (b<(c.E.length:Int))then
  (idx c.E b).bind λi =>
  bif decide (a>e)then
   f a b
  else
   (g i (i64.wrap (e-a))).bind λj =>
   h ((i64.wrap (a+j)),(i64.wrap (b+1)))
 else
  f a b
def Eg(d:Nat)(a:Ap->Int->Option Int)(b:Ap)(c:Int):Option Int :=
 iter (λe s=>Gm b c a (λf g=>some f) e s.1 s.2) AD (1,0)
def E0:Nat->Ap->Int->Option Int
 | 0,_,_=>none
 | d+1,a,b=>Eg d (E0 d) a b
abbrev GT(c:Ap)(f:Ap->Option Int)(g:Int->Int->Option Int)(h:(Int×Int)->Option Int)(b:Int)(a:Int):Option Int :=
 bif decide (a<(c.E.length:Int))then
  (idx c.E a).bind λi =>
  (f i).bind λe =>
  h ((if e>b then e else b),(i64.wrap (a+1)))
 else
  g b a
def EQ(d:Nat)(a:Ap->Option Int)(b:Ap):Option Int :=
 iter (λc s=>GT b a (λe f=>some (i64.wrap (e+1))) c s.1 s.2) AD (0,0)
def FD:Nat->Ap->Option Int
 | 0,_=>none
 | d+1,a=>EQ d (FD d) a
def Eh(d:Nat)(g:Ap->(ByteArray->Option Bool)->Option Bool)(e:Ap->(ByteArray->Option Bool)->Option Bool)(a:Ap)(b:ByteArray->Option Bool):Option Bool :=
 bif a.Op==2 then
  (b a.H).bind λf =>
  bif !f then
   some false
  else
   (Av a.E (λa0=>e a0 b)).bind λc =>
   some (!c)
 else
  (Av a.E (λa0=>e a0 b)).bind λc =>
  some (!c)
def ER(d:Nat)(a:Ap->(ByteArray->Option Bool)->Option Bool)(f:Ap->(ByteArray->Option Bool)->Option Bool)(b:Ap)(c:ByteArray->Option Bool):Option Bool :=
 (a b c).bind λe =>
 some (!e)
mutual
def Dc:Nat->Ap->(ByteArray->Option Bool)->Option Bool
 | 0,_,_=>none
 | d+1,a,b=>Eh d (Dc d) (Cv d) a b
def Cv:Nat->Ap->(ByteArray->Option Bool)->Option Bool
 | 0,_,_=>none
 | d+1,a,b=>ER d (Dc d) (Cv d) a b
end
def It(d:Nat)(c:Aa)(b:List Au)(a:Au):Option Int :=
 (CN a.H).bind λe =>
 bif !e then
  some 3
 else
  (C1 a.H b).bind λf =>
  bif f then
   some 10
  else
   (E0 d a.An 60).bind λg =>
   bif decide (g>60)then
    some 1
   else
    (FD d a.An).bind λh =>
    bif decide (h>10)then
     some 22
    else
     (C7 d c a.An).bind λi =>
     bif !i then
      some 11
     else
      (Dc d a.An (λa0=>C1 a0 b)).bind λj =>
      bif !j then
       some 24
      else
       some 0
abbrev OC(b:List Au)(d:Nat)(e:Aa)(f:Int->Option (Int×Int))(g:Int->Option (Int×Int))(a:Int):Option (Int×Int) :=
 bif decide (a<(b.length:Int))then
  (idx b a).bind λh =>
  bif decide (0<=(0:Int)/\0<=a/\a<=(b.length:Int))then
   (It d e (LZ b 0 a) h).bind λc =>
   bif c != 0 then
    some (a,c)
   else
    g (i64.wrap (a+1))
  else none
 else
  f a
def Hf(d:Nat)(b:Aa)(a:List Au):Option (Int×Int) :=
 (Cw b).bind λc =>
 bif c != 0 then
  some ((-1),c)
 else
  bif decide ((a.length:Int)>30)then
   some ((-1),1)
  else
   iter (λe s=>OC a d b (λf=>some ((a.length:Int),0)) e s) AD 0
def Ep(a:Ad)(b:Ad):Option Bool :=
 some (bif a.B==b.B then(decide (a.S>=b.S))else false)
def FS(a:Ad)(b:List Ad):Option Bool :=
 (AF b (λa0=>Ep a0 a)).bind λc =>
 some (!c)
def BU(a:List Ad)(b:List Ad):Option Bool :=
 (AF b (λa0=>FS a0 a)).bind λc =>
 some (!c)
abbrev MF(c:Aj)(f:Aj->Option (List Aj))(g:Int->(List Aj)->Option (List Aj))(h:(Int×(List Aj))->Option (List Aj))(a:Int)(b:List Aj):Option (List Aj) :=
 bif decide (a<(c.E.length:Int))then
  (idx c.E a).bind λi =>
  (f i).bind λe =>
  bif rm b.length e.length then
   h ((i64.wrap (a+1)),(b++e))
  else none
 else
  g a b
def F0(d:Nat)(b:Aj->Option (List Aj))(a:Aj):Option (List Aj) :=
 bif bif bif a.Op==2 then true else(a.Op==3)then true else(a.Op==4)then
  some [a]
 else
  iter (λc s=>MF a b (λf e=>some e) c s.1 s.2) AD (0,[])
def Fp:Nat->Aj->Option (List Aj)
 | 0,_=>none
 | d+1,a=>F0 d (Fp d) a
def Dm(a:Bool):Option Int :=
 bif a then
  some 1
 else
  some (-1)
def Fz(a:Am)(c:Int)(b:Int):Option Bool :=
 (K8 a c).bind λe =>
 bif !e then
  some false
 else
  (K8 a b).bind λf =>
  bif !f then
   some false
  else
   (Gz a).bind λg =>
   (idx g b).bind λh =>
   (Hy a c h).bind λi =>
   some (i==b)
def Dd(c:Aa)(a:Aj)(b:Int):Option Int :=
 bif a.Op==2 then
  (idx c.A a.B).bind λe =>
  (idx c.J e.Al).bind λf =>
  (Fz f b a.Z).bind λg =>
  (Dm g).bind λh =>
  some h
 else
  bif a.Op==4 then
   (Dm (b==(-1099511627776))).bind λi =>
   some i
  else
   bif b==(-1099511627776)then
    some 0
   else
    (Dm (bif decide (b>=a.C)then(decide (b<=a.D))else false)).bind λj =>
    some j
def GL(a:Ar)(b:Int):Option Int :=
 (idx a.T (i64.wrap ((a.T.length:Int)-b))).bind λc =>
 some c
def DO(a:Int)(b:Int):Option Int :=
 bif decide (b≠0)then
  bif decide ((Int.tmod a b)<0)then
   some (i64.wrap (a-(i64.wrap ((Int.tmod a b)+b))))
  else
   some (i64.wrap (a-(Int.tmod a b)))
 else none
def Hh(e:List Int)(h:Am)(i:Int)(j:Aa)(k:Aj)(l:Int->(List (Int×Int))->Option Bool)(m:(Int×(List (Int×Int)))->Option Bool)(a:Int)(b:List (Int×Int)):Option Bool :=
 bif decide (a<(e.length:Int))then
  (idx e a).bind λf =>
  (Hy h f i).bind λc =>
  (Dd j k f).bind λg =>
  bif bif(Lu c b).isSome then(((Lu c b).getD 0) != g)else false then
   some false
  else
   m ((i64.wrap (a+1)),(XG c g b))
 else
  l a b
def B7(e:Aa)(b:Aj)(c:Int):Option Bool :=
 (idx e.A b.B).bind λa =>
 bif b.Op==2 then
  (idx e.J a.Al).bind λf =>
  (Eo f).bind λi =>
  (Hx f (i64.wrap (i-1))).bind λj =>
  iter (λk s=>Hh j f c e b (λm n=>some true) k s.1 s.2) AD (0,[])
 else
  bif bif c==0 then a.Az else false then
   some false
  else
   bif b.Op==4 then
    some true
   else
    bif decide ((if a.C>b.C then a.C else b.C)>(if a.D<b.D then a.D else b.D))then
     some true
    else
     bif c==0 then
      some (bif(if a.C>b.C then a.C else b.C)==a.C then((if a.D<b.D then a.D else b.D)==a.D)else false)
     else
      (GL a c).bind λg =>
      bif(if a.C>b.C then a.C else b.C)==a.C then
       bif(if a.D<b.D then a.D else b.D)==a.D then
        some true
       else
        (DO (i64.wrap ((if a.D<b.D then a.D else b.D)+1)) g).bind λh =>
        some (h==(i64.wrap ((if a.D<b.D then a.D else b.D)+1)))
      else
       (DO (if a.C>b.C then a.C else b.C) g).bind λl =>
       bif l==(if a.C>b.C then a.C else b.C)then
        bif(if a.D<b.D then a.D else b.D)==a.D then
         some true
        else
         (DO (i64.wrap ((if a.D<b.D then a.D else b.D)+1)) g).bind λh =>
         some (h==(i64.wrap ((if a.D<b.D then a.D else b.D)+1)))
       else
        some false
abbrev Jg(a:List Int)(b:Aj)(f:(Int×(List Int))->Option (List Ad))(g:Int)(c:Int):Option (List Ad) :=
 (idx a b.B).bind λe =>
 (idx a b.B).bind λh =>
 f ((i64.wrap (g+1)),(a.set (b.B:Int).toNat (if c>e then c else e)))
abbrev MI(b:Aa)(c:Aj)(e:Int->Option (List Ad))(f:Int->Option (List Ad))(a:Int):Option (List Ad) :=
 (B7 b c a).bind λg =>
 bif !g then
  f (i64.wrap (a+1))
 else
  e a
abbrev MJ(e:List Int)(g:Int->(List Ad)->Option (List Ad))(f:(Int×(List Ad))->Option (List Ad))(a:Int)(b:List Ad):Option (List Ad) :=
 bif decide (a<(e.length:Int))then
  (idx e a).bind λc =>
  bif decide (c>0)then
   bif rm b.length [({ B:=a,S:=c }:Ad)].length then
    f ((i64.wrap (a+1)),(b++[({ B:=a,S:=c }:Ad)]))
   else none
  else
   f ((i64.wrap (a+1)),b)
 else
  g a b
abbrev MH(b:List Aj)(f:Aa)(g:Int->(List Int)->Option (List Ad))(h:(Int×(List Int))->Option (List Ad))(a:Int)(c:List Int):Option (List Ad) :=
 bif decide (a<(b.length:Int))then
  (idx b a).bind λe =>
  iter (λi s=>MI f e (Jg c e h a) i s) AD 0
 else
  g a c
def BS(d:Nat)(a:Aa)(b:Aj):Option (List Ad) :=
 (BG d a b).bind λc =>
 bif c != 0 then
  some []
 else
  bif decide (0<=(a.A.length:Int))&&rm ((a.A.length:Int):Int).toNat 0 then
   (Fp d b).bind λe =>
   iter (λf s=>MH e a (λj g=>iter (λh s=>MJ g (λk i=>some i) h s.1 s.2) AD (0,[])) f s.1 s.2) AD (0,(List.replicate ((a.A.length:Int):Int).toNat 0))
  else none
abbrev KT(b:Ar)(c:Int)(e:Int->Option Int)(f:Int->Option Int)(a:Int):Option Int :=
 bif decide (a<(b.T.length:Int))then
  (idx b.T a).bind λg =>
  bif g==c then
   some (i64.wrap ((b.T.length:Int)-a))
  else
   f (i64.wrap (a+1))
 else
  e a
def Hg(a:Aa)(b:Int)(c:Int):Option Int :=
 (idx a.A b).bind λe =>
 iter (λf s=>KT e c (λg=>some 0) f s) AD 0
def E2(a:Aa)(b:Int):Option Int :=
 (Cw a).bind λc =>
 bif c != 0 then
  some (-1)
 else
  (FN a b).bind λe =>
  some e
def E4(e:Aa)(h:Int)(c:Int):Option Int :=
 (idx e.A h).bind λa =>
 bif a.Kind==2 then
  (idx e.J a.Al).bind λi =>
  (Hx i c).bind λj =>
  some (j.length:Int)
 else
  bif c==0 then
   some 1
  else
   (GG a c).bind λb =>
   (E5 a.D b).bind λf =>
   (E5 a.C b).bind λg =>
   bif decide (b≠0)then
    bif a.Az then
     some (i64.wrap ((i64.wrap ((i64.wrap (Int.tdiv (i64.wrap (f-g)) b))+1))+1))
    else
     some (i64.wrap ((i64.wrap (Int.tdiv (i64.wrap (f-g)) b))+1))
   else none
abbrev PX(b:Aa)(c:Int)(e:Int->Option Int)(f:Int->Option Int)(a:Int):Option Int :=
 bif decide (a>0)then
  (E4 b c (i64.wrap (a-1))).bind λg =>
  (E4 b c a).bind λh =>
  bif g==h then
   f (i64.wrap (a-1))
  else
   e a
 else
  e a
def FH(b:Aa)(c:Int)(a:Int):Option Int :=
 (E2 b c).bind λe =>
 bif bif decide (a<0)then true else(decide (a>e))then
  some (-1)
 else
  iter (λf s=>PX b c (λg=>some g) f s) AD a
def CI(a:Int)(b:List Ad)(c:Aa):Option (List Ad) :=
 (E2 c a).bind λf =>
 (FH c a f).bind λe =>
 bif rm b.length [({ B:=a,S:=e }:Ad)].length then
  some (b++[({ B:=a,S:=e }:Ad)])
 else none
def Us(b:Ap)(e:Aa)(f:Int->(List Ad)->Option (List Ad))(g:(Int×(List Ad))->Option (List Ad))(a:Int)(c:List Ad):Option (List Ad) :=
 bif decide (a<(b.A.length:Int))then
  (idx b.A a).bind λh =>
  (CI h c e).bind λi =>
  g ((i64.wrap (a+1)),i)
 else
  f a c
def Bu(a:Ap)(b:Aa)(c:List Ad):Option (List Ad) :=
 iter (λe s=>Us a b (λg f=>some f) e s.1 s.2) AD (0,c)
def Mv(a:Ap)(b:Aa)(c:List Ad):Option (List Ad) :=
 bif a.Op==4 then
  bif decide (a.B>0)then
   (CI a.B c b).bind λe =>
   Bu a b e
  else
   Bu a b c
 else
  bif a.Op==5 then
   bif decide (a.B>0)then
    (CI a.B c b).bind λe =>
    Bu a b e
   else
    Bu a b c
  else
   bif a.Op==10 then
    bif decide (a.B>0)then
     (CI a.B c b).bind λe =>
     Bu a b e
    else
     Bu a b c
   else
    bif a.Op==11 then
     bif decide (a.B>0)then
      (CI a.B c b).bind λe =>
      Bu a b e
     else
      Bu a b c
    else
     bif a.Op==12 then
      bif decide (a.B>0)then
       (CI a.B c b).bind λe =>
       Bu a b e
      else
       Bu a b c
     else
      bif a.Op==14 then
       bif decide (a.B>0)then
        (CI a.B c b).bind λe =>
        Bu a b e
       else
        Bu a b c
      else
       bif a.Op==13 then
        (Hg b a.B a.L).bind λg =>
        (FH b a.B g).bind λf =>
        bif rm c.length [({ B:=a.B,S:=f }:Ad)].length then
         Bu a b (c++[({ B:=a.B,S:=f }:Ad)])
        else none
       else
        Bu a b c
def Ur(e:Ap)(g:Aa)(h:Int->(List Ad)->Option (List Ad))(i:(Int×(List Ad))->Option (List Ad))(a:Int)(c:List Ad):Option (List Ad) :=
 bif decide (a<(e.Ac.length:Int))then
  (idx e.Ac a).bind λb =>
  (FH g b.B b.S).bind λf =>
  bif rm c.length [({ B:=b.B,S:=f }:Ad)].length then
   i ((i64.wrap (a+1)),(c++[({ B:=b.B,S:=f }:Ad)]))
  else none
 else
  h a c
def M3(a:Aa)(b:Ap):Option (List Ad) :=
 iter (λc s=>Ur b a (λf e=>Mv b a e) c s.1 s.2) AD (0,[])
def G7(f:List Ad)(g:Int->Int->(List (Int×Int))->Option (List Ad))(h:(Int×Int×(List (Int×Int)))->Option (List Ad))(e:Int)(b:Int)(c:List (Int×Int)):Option (List Ad) :=
 bif decide (b<(f.length:Int))then
  (idx f b).bind λa =>
  h ((if a.B>e then a.B else e),(i64.wrap (b+1)),(XG a.B (if a.S>((Lu a.B c).getD 0)then a.S else((Lu a.B c).getD 0)) c))
 else
  g e b c
def G8(f:Int)(c:List (Int×Int))(g:Int->(List Ad)->Option (List Ad))(e:(Int×(List Ad))->Option (List Ad))(a:Int)(b:List Ad):Option (List Ad) :=
 bif decide (a<(i64.wrap (f+1)))then
  bif decide (((Lu a c).getD 0)>0)then
   bif rm b.length [({ B:=a,S:=((Lu a c).getD 0) }:Ad)].length then
    e ((i64.wrap (a+1)),(b++[({ B:=a,S:=((Lu a c).getD 0) }:Ad)]))
   else none
  else
   e ((i64.wrap (a+1)),b)
 else
  g a b
def G6(b:List (List Ad))(f:Int->Int->(List (Int×Int))->Option (List Ad))(g:(Int×Int×(List (Int×Int)))->Option (List Ad))(c:Int)(a:Int)(e:List (Int×Int)):Option (List Ad) :=
 bif decide (a<(b.length:Int))then
  (idx b a).bind λh =>
  iter (λi s=>G7 h (λj l k=>g (j,(i64.wrap (a+1)),k)) i s.1 s.2.1 s.2.2) AD (c,0,e)
 else
  f c a e
def GV(a:List (List Ad)):Option (List Ad) :=
 iter (λb s=>G6 a (λc h e=>iter (λf s=>G8 c e (λi g=>some g) f s.1 s.2) AD (0,[])) b s.1 s.2.1 s.2.2) AD (0,0,[])
abbrev QY(c:Ap)(f:Aa->Ap->Option (List Ad))(g:Aa)(h:Int->(List (List Ad))->Option (List Ad))(i:(Int×(List (List Ad)))->Option (List Ad))(a:Int)(b:List (List Ad)):Option (List Ad) :=
 bif decide (a<(c.E.length:Int))then
  (idx c.E a).bind λj =>
  (f g j).bind λe =>
  bif rm b.length [e].length then
   i ((i64.wrap (a+1)),(b++[e]))
  else none
 else
  h a b
def IL(d:Nat)(c:Aa->Ap->Option (List Ad))(a:Aa)(b:Ap):Option (List Ad) :=
 (M3 a b).bind λe =>
 (BS d a b.V).bind λf =>
 (BS d a b.U).bind λg =>
 iter (λh s=>QY b c a (λk i=>(GV i).bind λj=>some j) h s.1 s.2) AD (0,[e,f,g])
def C4:Nat->Aa->Ap->Option (List Ad)
 | 0,_,_=>none
 | d+1,a,b=>IL d (C4 d) a b
abbrev Sv(b:List A9)(c:Ap)(e:Int->Option (Int×Int))(f:Int->Option (Int×Int))(a:Int):Option (Int×Int) :=
 bif decide (a>=0)then
  (idx b a).bind λg =>
  bif g.H.toList==c.H.toList then
   (idx b a).bind λh =>
   some (h.At.Kind,0)
  else
   f (i64.wrap (a-1))
 else
  e a
abbrev Om(a:Ap)(b:List A9)(c:Bool):Option (Int×Int) :=
 bif a.Op==2 then
  iter (λe s=>Sv b a (λg=>some (0,24)) e s) AD (i64.wrap ((b.length:Int)-1))
 else
  bif !c then
   some (0,16)
  else
   (DX a.Op).bind λf =>
   bif f then
    some (1,0)
   else
    some ((i64.wrap ((i64.wrap (a.Op-10))+2)),0)
abbrev IK(c:Ap)(f:(List A9)->Ap->Option (Int×Int))(g:List A9)(h:Bool->Int->Option (Int×Int))(i:(Bool×Int)->Option (Int×Int))(e:Bool)(a:Int):Option (Int×Int) :=
 bif decide (a<(c.E.length:Int))then
  (idx c.E a).bind λj =>
  (f g j).bind λb =>
  bif b.2 != 0 then
   some (0,b.2)
  else
   i ((bif e then(b.1==1)else false),(i64.wrap (a+1)))
 else
  h e a
def GI(d:Nat)(c:(List A9)->Ap->Option (Int×Int))(a:List A9)(b:Ap):Option (Int×Int) :=
 iter (λe s=>IK b c a (λf g=>Om b a f) e s.1 s.2) AD (true,0)
def Ig:Nat->(List A9)->Ap->Option (Int×Int)
 | 0,_,_=>none
 | d+1,a,b=>GI d (Ig d) a b
def KS(d:Nat)(a:Aa)(c:List Ad)(f:List A9)(b:Ap):Option (Int×Int) :=
 (C7 d a b).bind λg =>
 bif !g then
  some (0,11)
 else
  (Iy a c).bind λh =>
  bif h != 0 then
   some (0,23)
  else
   (C4 d a b).bind λi =>
   (BU c i).bind λj =>
   bif !j then
    some (0,23)
   else
    (Ig d f b).bind λe =>
    some (e.1,e.2)
abbrev I0(g:List Au)(d:Nat)(h:Aa)(i:List Ad)(j:Int->(List Int)->(List A9)->Option ((List Int)×Int×Int))(k:(Int×(List Int)×(List A9))->Option ((List Int)×Int×Int))(b:Int)(e:List Int)(c:List A9):Option ((List Int)×Int×Int) :=
 bif decide (b<(g.length:Int))then
  (idx g b).bind λf =>
  (KS d h i c f.An).bind λa =>
  bif a.2 != 0 then
   some ([],b,a.2)
  else
   bif rm e.length [a.1].length then
    bif rm c.length ([({ H:=f.H,At:={ Kind:=a.1 } }:A9)]).length then
     k ((i64.wrap (b+1)),(e++[a.1]),(c++[({ H:=f.H,At:={ Kind:=a.1 } }:A9)]))
    else none
   else none
 else
  j b e c
def IJ(d:Nat)(c:Aa)(e:List Ad)(a:List Au):Option ((List Int)×Int×Int) :=
 (Hf d c a).bind λb =>
 bif b.2 != 0 then
  some ([],b.1,b.2)
 else
  iter (λf s=>I0 a d c e (λh g i=>some (g,(a.length:Int),0)) f s.1 s.2.1 s.2.2) AD (0,[],[])
def Dx(a:List Ad):Option (List Ad):=bif rm 0 a.length then some a else none
def Du(a:List Aq):Option (List Aq):=bif rm 0 a.length then some a else none
def FP(a:List AI):Option (List AI):=bif rm 0 a.length then some a else none
def Dt(a:List Ba):Option (List Ba):=bif rm 0 a.length then some a else none
def Gw(a:List D4):Option (List D4):=bif rm 0 a.length then some a else none
def ay(cs:List Aq):Option (List Aq):=bif decide (cs.length<=1000000)&&cs.all (λc=>rm 0 c.Q.length&&rm 0 c.G.length)then some cs else none
def Fu(a:AA):Option AA :=
 (Dx a.Table.Ac).bind λb =>
 (Du a.Table.Av).bind λc =>
 (ay c).bind λe =>
 (AC a.Model.Aw).bind λf =>
 (FP a.Model.A3).bind λg =>
 (Dt a.Curve).bind λh =>
 (Gw a.Hist).bind λi =>
 (AC a.Lineage).bind λj =>
 some ({ Kind:=a.Kind,Number:=a.Number,Table:={ Ac:=b,Ah:=a.Table.Ah,Av:=e },Model:={ Ah:=a.Model.Ah,Aw:=f,A3:=g,A1:=a.Model.A1,A2:=a.Model.A2,Y:=a.Model.Y,Bb:=a.Model.Bb },Curve:=h,Hist:=i,Box:=a.Box,Lineage:=j }:AA)
abbrev Jq(a:Int):Option AA :=
 some ({}:AA)
abbrev Gl(b:Ay)(c:ByteArray)(e:Int->Option AA)(f:Int->Option AA)(a:Int):Option AA :=
 bif decide (a>=0)then
  (idx b.Ax a).bind λg =>
  bif g.H.toList==c.toList then
   (idx b.Ax a).bind λh =>
   (Fu h.At).bind λi =>
   some i
  else
   f (i64.wrap (a-1))
 else
  e a
def DU(a:Ay)(b:ByteArray):Option AA :=
 iter (λc s=>Gl a b Jq c s) AD (i64.wrap ((a.Ax.length:Int)-1))
def FY(d:Nat)(c:Aj->(Aj->Option Int)->Option Int)(a:Aj)(b:Aj->Option Int):Option Int :=
 bif a.Op==1 then
  some 1
 else
  bif a.Op==5 then
   (idx a.E 0).bind λi =>
   (c i b).bind λe =>
   (idx a.E 1).bind λj =>
   (c j b).bind λf =>
   some (if f<e then f else e)
  else
   bif a.Op==6 then
    (idx a.E 0).bind λk =>
    (c k b).bind λg =>
    (idx a.E 1).bind λl =>
    (c l b).bind λh =>
    some (if h>g then h else g)
   else
    bif a.Op==7 then
     (idx a.E 0).bind λm =>
     (c m b).bind λn =>
     some (i64.wrap (0-n))
    else
     (b a).bind λo =>
     some o
def FX:Nat->Aj->(Aj->Option Int)->Option Int
 | 0,_,_=>none
 | d+1,a,b=>FY d (FX d) a b
def Jf(a:Aj)(b:Aa)(c:List Int):Option Int :=
 (idx c a.B).bind λe =>
 (Dd b a e).bind λf =>
 some f
def IN(d:Nat)(a:Aa)(b:Aj)(c:List Int):Option Int :=
 (FX d b (λa0=>Jf a0 a c)).bind λe =>
 some e
abbrev N5(e:List Ad)(g:List Int)(h:Aa)(i:Int->(List Int)->Option Int)(j:(Int×(List Int))->Option Int)(a:Int)(c:List Int):Option Int :=
 bif decide (a<(e.length:Int))then
  (idx e a).bind λb =>
  (idx g a).bind λk =>
  (Ci h b.B b.S k).bind λf =>
  bif !f.2 then
   some 0
  else
   (idx c b.B).bind λl =>
   j ((i64.wrap (a+1)),(c.set (b.B:Int).toNat f.1))
 else
  i a c
abbrev N6(b:List Ad)(c:List Int)(a:Aa)(d:Nat)(e:Aj)(f:List Int):Option Int :=
 iter (λg s=>N5 b c a (λj h=>(IN d a e h).bind λi=>some i) g s.1 s.2) AD (0,f)
abbrev Hn(c:Aa)(e:Int->(List Int)->Option Int)(f:(Int×(List Int))->Option Int)(a:Int)(b:List Int):Option Int :=
 bif decide (a<(b.length:Int))then
  (Ci c a 0 0).bind λg =>
  (idx b a).bind λh =>
  f ((i64.wrap (a+1)),(b.set (a:Int).toNat g.1))
 else
  e a b
def Hz(d:Nat)(a:Aa)(b:Aj)(c:List Ad)(e:List Int):Option Int :=
 bif decide (0<=(a.A.length:Int))&&rm ((a.A.length:Int):Int).toNat 0 then
  iter (λf s=>Hn a (λh g=>N6 c e a d b g) f s.1 s.2) AD (1,(List.replicate ((a.A.length:Int):Int).toNat 0))
 else none
def LU(e:As)(d:Nat)(g:Aa)(h:Aj)(i:Int->(List Int)->Option (List Int))(f:(Int×(List Int))->Option (List Int))(a:Int)(c:List Int):Option (List Int) :=
 bif decide (a<(e.G.length:Int))then
  (idx e.G a).bind λb =>
  bif decide (0<=(1:Int)/\1<=(b.length:Int)/\(b.length:Int)<=(b.length:Int))then
   (Hz d g h e.X (LZ b 1 (b.length:Int))).bind λj =>
   bif j==1 then
    bif rm c.length [a].length then
     f ((i64.wrap (a+1)),(c++[a]))
    else none
   else
    f ((i64.wrap (a+1)),c)
  else none
 else
  i a c
def I7(a:As)(d:Nat)(b:Aa)(c:Aj):Option (List Int) :=
 iter (λe s=>LU a d b c (λg f=>some f) e s.1 s.2) AD (0,[])
def CU(d:Nat)(a:Aa)(c:As)(b:Aj):Option (List Int) :=
 (BG d a b).bind λe =>
 bif e != 0 then
  some []
 else
  (BS d a b).bind λf =>
  (BU c.X f).bind λg =>
  bif !g then
   some []
  else
   I7 c d a b
abbrev OR(c:List Int)(f:As)(g:Int->(List Int)->Option (List Int))(h:(Int×(List Int))->Option (List Int))(a:Int)(b:List Int):Option (List Int) :=
 bif decide (a<(c.length:Int))then
  (idx c a).bind λi =>
  (idx f.G i).bind λj =>
  (idx j 0).bind λe =>
  bif rm b.length [e].length then
   h ((i64.wrap (a+1)),(b++[e]))
  else none
 else
  g a b
def Cs(a:As)(b:List Int):Option (List Int) :=
 iter (λc s=>OR b a (λf e=>some e) c s.1 s.2) AD (0,[])
abbrev Ha(b:List Int)(c:Int->Option Bool)(e:Int->Option Int)(f:Int->Option Int)(a:Int):Option Int :=
 bif decide (a<(b.length:Int))then
  (idx b a).bind λg =>
  (c g).bind λh =>
  bif h then
   some a
  else
   f (i64.wrap (a+1))
 else
  e a
def Cz(a:List Int)(b:Int->Option Bool):Option Int :=
 iter (λc s=>Ha a b (λe=>some (-1)) c s) AD 0
def Bf(a:List Int)(b:Int->Option Bool):Option Bool :=
 (Cz a b).bind λc =>
 some (decide (c>=0))
def Im(a:Ad)(b:Int):Option Bool :=
 some (a.B==b)
abbrev Nx(e:List Int)(f:Am)(j:Int)(k:Int)(l:Int)(m:Int->Bool->Int->Option (Int×Bool))(g:(Int×Bool×Int)->Option (Int×Bool))(b:Int)(c:Bool)(a:Int):Option (Int×Bool) :=
 bif decide (a<(e.length:Int))then
  (idx e a).bind λh =>
  (Hy f h j).bind λn =>
  bif n != k then
   g (b,c,(i64.wrap (a+1)))
  else
   (Hy f h l).bind λi =>
   bif bif c then(i != b)else false then
    some (0,false)
   else
    g (i,true,(i64.wrap (a+1)))
 else
  m b c a
def Jb(a:Am)(b:Int)(c:Int)(e:Int):Option (Int×Bool) :=
 (Eo a).bind λf =>
 (Hx a (i64.wrap (f-1))).bind λg =>
 iter (λh s=>Nx g a b c e (λi j k=>some (i,j)) h s.1 s.2.1 s.2.2) AD (0,false,0)
def GF(a:Ar)(c:Int)(e:Int)(f:Int):Option (Int×Bool) :=
 bif bif decide (c>0)then(e==(-1099511627776))else false then
  bif f==0 then
   some (0,a.Az)
  else
   some (e,a.Az)
 else
  (J6 a c e).bind λb =>
  bif !b.2.2 then
   some (0,false)
  else
   bif f==0 then
    some (0,true)
   else
    bif bif c==0 then a.Az else false then
     some (0,false)
    else
     (GG a f).bind λg =>
     (E5 b.1 g).bind λh =>
     (E5 b.1 g).bind λi =>
     (E5 b.2.1 g).bind λj =>
     some (h,(i==j))
def E3(c:Aa)(f:Int)(a:Int)(g:Int)(b:Int):Option (Int×Bool) :=
 (FN c f).bind λh =>
 bif bif bif bif decide (a<0)then true else(decide (a>h))then true else(decide (b<0))then true else(decide (b>h))then
  some (0,false)
 else
  (idx c.A f).bind λe =>
  bif e.Kind==2 then
   (idx c.J e.Al).bind λk =>
   (Jb k a g b).bind λi =>
   bif !i.2 then
    some (0,false)
   else
    some (i.1,true)
  else
   (GF e a g b).bind λj =>
   bif !j.2 then
    some (0,false)
   else
    some (j.1,true)
def BC(e:Aa)(a:As)(i:Int)(b:Int)(f:Int):Option (Int×Bool) :=
 (Bg a.X (λa0=>Im a0 b)).bind λc =>
 bif decide (c<0)then
  (E3 e b 0 0 f).bind λg =>
  some (g.1,g.2)
 else
  (idx a.X c).bind λj =>
  (idx a.G i).bind λk =>
  (idx k (i64.wrap (c+1))).bind λl =>
  (E3 e b j.S l f).bind λh =>
  some (h.1,h.2)
def D3(a:Int)(b:Aa)(e:As)(f:Int):Option Bool :=
 (E2 b a).bind λg =>
 (BC b e f a g).bind λc =>
 some (bif !c.2 then true else(c.1==(-1099511627776)))
def DF(a:Int)(b:List Int)(c:Aa)(e:As):Option Bool :=
 (Bf b (λa0=>D3 a0 c e a)).bind λf =>
 some f
def CH(d:Nat)(a:Aa)(b:As)(c:Aj)(e:List Int):Option (List Int) :=
 (C5 a b).bind λf =>
 bif f != 0 then
  some []
 else
  (CU d a b c).bind λg =>
  (Di g (λa0=>DF a0 e a b)).bind λh =>
  some h
abbrev Nz(c:List Int)(e:Aa)(f:Int)(h:As)(i:Int->(List Int)->Option (List Int))(j:(Int×(List Int))->Option (List Int))(a:Int)(b:List Int):Option (List Int) :=
 bif decide (a<(c.length:Int))then
  (idx c a).bind λk =>
  (E2 e f).bind λl =>
  (BC e h k f l).bind λg =>
  bif rm b.length [g.1].length then
   j ((i64.wrap (a+1)),(b++[g.1]))
  else none
 else
  i a b
def BK(a:Aa)(b:As)(c:List Int)(e:Int):Option (List Int) :=
 iter (λf s=>Nz c a e b (λh g=>some g) f s.1 s.2) AD (0,[])
abbrev Fg(g:Ap)(b:List Int)(e:Ay)(f:Int):Option (AA×Int) :=
 bif g.Op==5 then
  (Gv f (b.length:Int)).bind λa =>
  bif a.2 != 0 then
   some (({}:AA),a.2)
  else
   (Cs e.I.K b).bind λc =>
   some (({ Kind:=1,Number:=a.1,Lineage:=c }:AA),0)
 else
  (Gv f 1).bind λa =>
  bif a.2 != 0 then
   some (({}:AA),a.2)
  else
   (Cs e.I.K b).bind λc =>
   some (({ Kind:=1,Number:=a.1,Lineage:=c }:AA),0)
abbrev D2(b:List Int)(e:Int->Int->Option (AA×Int))(f:(Int×Int)->Option (AA×Int))(c:Int)(a:Int):Option (AA×Int) :=
 bif decide (a<(b.length:Int))then
  (idx b a).bind λg =>
  f ((i64.wrap (c+g)),(i64.wrap (a+1)))
 else
  e c a
def Cr(d:Nat)(a:Ay)(b:Ap):Option (AA×Int) :=
 (CH d a.I.Ae a.I.K b.V [b.B]).bind λc =>
 (BK a.I.Ae a.I.K c b.B).bind λe =>
 iter (λf s=>D2 e (λg h=>Fg b c a g) f s.1 s.2) AD (0,0)
def D7(b:Aa)(a:Int):Option Int :=
 bif bif decide (a<0)then true else(decide (a>=(b.A.length:Int)))then
  some 0
 else
  (idx b.A a).bind λc =>
  some c.Kind
def F5(a:Ad)(b:Ad):Option Bool :=
 some (a.B==b.B)
def F3(a:Aj):Option Bool :=
 some (bif bif bif bif bif a.Op==0 then(a.B==0)else false then(a.Z==0)else false then(a.C==0)else false then(a.D==0)else false then((a.E.length:Int)==0)else false)
abbrev H3(a:BA)(c:Aa):Option Int :=
 bif a.Ah != (-1)then
  (D7 c a.Ah).bind λe =>
  bif e != 3 then
   some 7
  else
   bif decide ((a.Aw.length:Int)>0)then
    some 11
   else
    (F3 a.U).bind λb =>
    bif !b then
     some 11
    else
     some 0
 else
  bif decide ((a.Aw.length:Int)>0)then
   some 11
  else
   (F3 a.U).bind λb =>
   bif !b then
    some 11
   else
    some 0
abbrev Lp(b:BA)(e:Aa)(g:Int->Option Int)(h:Int->Option Int)(a:Int):Option Int :=
 bif decide (a<(b.Ac.length:Int))then
  (idx b.Ac a).bind λc =>
  (LC e c).bind λf =>
  bif f != 0 then
   some f
  else
   (D7 e c.B).bind λi =>
   bif i != 2 then
    some 7
   else
    bif decide (0<=(0:Int)/\0<=a/\a<=(b.Ac.length:Int))then
     (AF (LZ b.Ac 0 a) (λa0=>F5 a0 c)).bind λj =>
     bif j then
      some 10
     else
      h (i64.wrap (a+1))
    else none
 else
  g a
def F4(b:Aa)(a:BA):Option Int :=
 bif bif decide ((a.Ac.length:Int)<1)then true else(decide ((a.Ac.length:Int)>3))then
  some 1
 else
  iter (λc s=>Lp a b (λe=>H3 a b) c s) AD 0
def F2(d:Nat)(b:Aa)(a:BA):Option Int :=
 (Cw b).bind λc =>
 bif c != 0 then
  some c
 else
  (CN a.H).bind λf =>
  bif !f then
   some 3
  else
   bif bif decide (a.Kind<1)then true else(decide (a.Kind>3))then
    some 4
   else
    (BG d b a.Bc).bind λe =>
    bif e != 0 then
     some e
    else
     bif a.Kind==1 then
      (F4 b a).bind λg =>
      some g
     else
      bif a.Kind==2 then
       none
      else
       none
def Kw(d:Nat)(a:Aa)(b:List Ad)(c:Int)(e:Aj):Option Int :=
 (F2 d a ({ H:={ data:=#[116] },Kind:=1,Bc:=e,Ac:=b,Ah:=c }:BA)).bind λf =>
 some f
def Gx(d:Nat)(a:Aa)(b:Ap):Option (List Ad) :=
 (Cw a).bind λc =>
 bif c != 0 then
  some []
 else
  (C7 d a b).bind λe =>
  bif !e then
   some []
  else
   (C4 d a b).bind λf =>
   some f
def nW:Option (List (List Int)):=some [[]]
def NS(f:List Int)(g:List Int)(h:Int->(List (List Int))->Option ((List (List Int))×Bool))(i:(Int×(List (List Int)))->Option ((List (List Int))×Bool))(a:Int)(b:List (List Int)):Option ((List (List Int))×Bool) :=
 bif decide (a<(([(-1)]++f).length:Int))then
  (idx ([(-1)]++f) a).bind λc =>
  (AC g).bind λe =>
  bif rm e.length [c].length then
   bif rm b.length ([(e++[c])]).length then
    i ((i64.wrap (a+1)),(b++[(e++[c])]))
   else none
  else none
 else
  h a b
def NR(b:List (List Int))(e:List Int)(f:Int->(List (List Int))->Option ((List (List Int))×Bool))(g:(Int×(List (List Int)))->Option ((List (List Int))×Bool))(a:Int)(c:List (List Int)):Option ((List (List Int))×Bool) :=
 bif decide (a<(b.length:Int))then
  (idx b a).bind λh =>
  iter (λi s=>NS e h (λk j=>g ((i64.wrap (a+1)),j)) i s.1 s.2) AD (0,c)
 else
  f a c
def Hr(e:List Ad)(f:Aa)(h:(List (List Int))->Int->Option ((List (List Int))×Bool))(i:((List (List Int))×Int)->Option ((List (List Int))×Bool))(b:List (List Int))(a:Int):Option ((List (List Int))×Bool) :=
 bif decide (a<(e.length:Int))then
  (idx e a).bind λg =>
  (idx f.A g.B).bind λj =>
  (idx f.J j.Al).bind λk =>
  (Hx k g.S).bind λc =>
  bif rm [(-1)].length c.length then
   bif decide ((i64.wrap ((b.length:Int)*(([(-1)]++c).length:Int)))>2000)then
    some ([],false)
   else
    iter (λl s=>NR b c (λn m=>i (m,(i64.wrap (a+1)))) l s.1 s.2) AD (0,[])
  else none
 else
  h b a
def Ie(a:Aa)(b:List Ad):Option ((List (List Int))×Bool) :=
 (nW ).bind λc =>
 iter (λe s=>Hr b a (λf g=>some (f,true)) e s.1 s.2) AD (c,0)
abbrev N0(b:List Int)(f:List Int)(g:Int->Option Bool)(c:Int->Option Bool)(a:Int):Option Bool :=
 bif decide (a<(b.length:Int))then
  (idx b a).bind λe =>
  bif e != (-1)then
   (idx f a).bind λh =>
   bif e != h then
    some false
   else
    c (i64.wrap (a+1))
  else
   c (i64.wrap (a+1))
 else
  g a
def Ct(a:List Int)(b:List Int):Option Bool :=
 iter (λc s=>N0 b a (λe=>some true) c s) AD 0
def B9(c:Aq)(key:Int)(value:Int)(measured:Bool):Aq :=
 bif measured then
  bif decide (c.A6<max value (i64.wrap (-value)))then
   { c with Y:=i64.wrap (c.Y+1),G:=c.G++[key],A4:=i64.wrap (c.A4+value),A5:=i64.wrap (c.A5+max value (i64.wrap (-value))),A6:=max value (i64.wrap (-value)),A8:=c.A6 }
  else bif decide (c.A8<max value (i64.wrap (-value)))then
   { c with Y:=i64.wrap (c.Y+1),G:=c.G++[key],A4:=i64.wrap (c.A4+value),A5:=i64.wrap (c.A5+max value (i64.wrap (-value))),A8:=max value (i64.wrap (-value)) }
  else { c with Y:=i64.wrap (c.Y+1),G:=c.G++[key],A4:=i64.wrap (c.A4+value),A5:=i64.wrap (c.A5+max value (i64.wrap (-value))) }
 else { c with Y:=i64.wrap (c.Y+1),G:=c.G++[key] }
def Eb(own:List Int)(key:Int)(value:Int)(measured:Bool):(List Aq)->Option (List Aq)
 | []=>some []
 | c :: r=>bif decide (c.G.length<=1000000)then(Ct own c.Q).bind λb=>(Eb own key value measured r).bind λcs=>some ((bif b then B9 c key value measured else c) :: cs)else none
def GH(a:Aa)(b:As)(row:Int):(List Ad)->Option (List Int)
 | []=>some []
 | p :: r=>(BC a b row p.B p.S).bind λv=>(GH a b row r).bind λvs=>some (v.1 :: vs)
def If(b:Aa)(c:As)(a:Int)(row:Int):Option Int :=
 bif decide (0<=a)then(BK b c [row] a).bind λv=>idx v 0 else some 0
def Fe(b:Aa)(a:As)(e:List Ad)(c:Int):(List Int)->(List Aq)->Option (List Aq)
 | [],cs=>some cs
 | row :: r,cs =>
  (If b a c row).bind λv =>
  (GH b a row e).bind λown =>
  (idx a.G row).bind λl=>(idx l 0).bind λkey =>
  (Eb own key v (decide (0<=c)) cs).bind λcs=>Fe b a e c r cs
def Lj(b:Aa)(e:As)(a:List Ad)(f:Int)(l:List Int)(cs:List Aq):Option (List Aq) :=
 bif decide (l.length<=1000000/\a.length<=1000000/\cs.length<=1000000/\0<cs.length)&&cs.all λc=>c.G.isEmpty then Fe b e a f l cs else none
def ao(b:List Aq)(l:List Int):Option (List Aq):=bif decide (b.length<=1000000)then some (b++[{ Q:=l,Y:=0,A4:=0,A5:=0,A6:=0,A8:=0,G:=[] }])else none
def BM(c:Aq):D:=.agg [(An 1 (D.int .i64)) c.Q,.int .i64 c.Y,.int .i64 c.A4,.int .i64 c.A5,.int .i64 c.A6,.int .i64 c.A8,.nil 1]
def ED(d:Nat)(a:Aa)(b:As)(e:Aj)(f:List Ad)(c:Int)(g:List Aq)(h:List Ad)(i:List Int):Option (D5×Int) :=
 (CH d a b e i).bind λj =>
 (Lj a b f c j g).bind λk =>
 some (({ Ac:=h,Ah:=c,Av:=k }:D5),0)
def Iz(a:Int)(d:Nat)(b:Aa)(c:As)(e:Aj)(f:List Ad)(g:List Ad)(h:List Aq):Option (D5×Int) :=
 bif decide (a>=0)then
  ED d b c e f a h g [a]
 else
  ED d b c e f a h g []
def OT(b:(List (List Int))×Bool)(e:Int->(List Aq)->Option (D5×Int))(f:(Int×(List Aq))->Option (D5×Int))(a:Int)(c:List Aq):Option (D5×Int) :=
 bif decide (a<(b.1.length:Int))then
  (idx b.1 a).bind λg =>
  (ao c g).bind λh =>
  f ((i64.wrap (a+1)),h)
 else
  e a c
def II(d:Nat)(a:Aa)(c:As)(b:List Ad)(e:Int)(f:Aj):Option (D5×Int) :=
 (C5 a c).bind λg =>
 bif g != 0 then
  some (({}:D5),g)
 else
  (Kw d a b e f).bind λh =>
  bif h != 0 then
   some (({}:D5),h)
  else
   (Gx d a ({ Op:=10,B:=e,Ac:=b,V:=f }:Ap)).bind λj =>
   (BU c.X j).bind λk =>
   bif !k then
    some (({}:D5),23)
   else
    (Ie a b).bind λi =>
    bif !i.2 then
     some (({}:D5),1)
    else
     (Dx b).bind λl =>
     iter (λm s=>OT i (λo n=>Iz e d a c f b l n) m s.1 s.2) AD (0,[])
def FU(a:Int):Option Bool :=
 some (bif decide (a<(-1000000))then true else(decide (a>1000000)))
abbrev LQ(b:List (List Int))(e:Int->Option Bool)(f:Int->Option Bool)(a:Int):Option Bool :=
 bif decide (a<(b.length:Int))then
  (idx b a).bind λc =>
  (idx b 0).bind λg =>
  bif(c.length:Int) != (g.length:Int)then
   some false
  else
   (Bf c FU).bind λh =>
   bif h then
    some false
   else
    f (i64.wrap (a+1))
 else
  e a
abbrev LR(a:List (List Int)):Option Bool :=
 iter (λb s=>LQ a (λc=>some true) b s) AD 0
def Gq(a:List (List Int)):Option Bool :=
 bif bif(a.length:Int)==0 then true else(decide ((a.length:Int)>200))then
  some false
 else
  (idx a 0).bind λb =>
  bif decide ((b.length:Int)<1)then
   some false
  else
   (idx a 0).bind λc =>
   bif decide ((c.length:Int)>5)then
    some false
   else
    LR a
def IR(e:AM)(g:(Int×AM)->Option Bool)(h:Int)(a:Int):Option Bool :=
 (GP e.C (u64.wrap (if 1>a then 1 else a))).bind λc =>
 (GP e.D (u64.wrap (if 1>a then 1 else a))).bind λf =>
 (IS f.2 c.1 0).bind λb =>
 bif bif bif decide ((u64.wrap (f.1+b.2))>0)then true else(decide (b.1>72057594037927936))then true else(bif b.1==72057594037927936 then(decide (c.2>0))else false)then
  some true
 else
  g ((i64.wrap (h+1)),({ D:=b.1,C:=c.2 }:AM))
abbrev IQ(c:List Int)(f:Int->Int->Option Bool)(g:(Int×Int)->Option Bool)(e:Int)(a:Int):Option Bool :=
 bif decide (a<(c.length:Int))then
  (idx c a).bind λb =>
  g ((i64.wrap (e+(if(i64.wrap (0-b))>b then(i64.wrap (0-b))else b))),(i64.wrap (a+1)))
 else
  f e a
def PO(b:List (List Int))(e:Int->AM->Option Bool)(f:(Int×AM)->Option Bool)(a:Int)(c:AM):Option Bool :=
 bif decide (a<(b.length:Int))then
  (idx b a).bind λg =>
  iter (λh s=>IQ g (λi j=>IR c f a i) h s.1 s.2) AD (0,0)
 else
  e a c
def JN(a:List (List Int)):Option Bool :=
 (Qp 1).bind λb =>
 iter (λc s=>PO a (λe f=>some false) c s.1 s.2) AD (0,b)
abbrev PK(b:List Int)(e:Int->Option Int)(f:Int->Option Int)(a:Int):Option Int :=
 bif decide (a<(b.length:Int))then
  (idx b a).bind λc =>
  bif bif decide (c<(-2147483648))then true else(decide (c>2147483648))then
   some 2
  else
   f (i64.wrap (a+1))
 else
  e a
abbrev PI(b:List (List Int))(c:Int->Option Int)(e:Int->Option Int)(a:Int):Option Int :=
 bif decide (a<(b.length:Int))then
  (idx b a).bind λf =>
  iter (λg s=>PK f (λh=>e (i64.wrap (a+1))) g s) AD 0
 else
  c a
abbrev PL(a:List (List Int)):Option Int :=
 iter (λb s=>PI a (λe=>(JN a).bind λc=>bif c then   some 14 else   some 0) b s) AD 0
abbrev PH(b:List (List Int))(c:Int->Option Int)(e:Int->Option Int)(a:Int):Option Int :=
 bif decide (a<(b.length:Int))then
  (idx b a).bind λf =>
  bif(f.length:Int) != (b.length:Int)then
   some 17
  else
   e (i64.wrap (a+1))
 else
  c a
def FC(a:List (List Int)):Option Int :=
 bif(a.length:Int)==0 then
  some 18
 else
  bif decide ((a.length:Int)>5)then
   some 1
  else
   iter (λb s=>PH a (λc=>PL a) b s) AD 0
abbrev PN(e:List (List Int))(f:List Int)(g:AM)(h:Int->(List AI)->Option ((List AI)×Int))(i:(Int×(List AI))->Option ((List AI)×Int))(a:Int)(c:List AI):Option ((List AI)×Int) :=
 bif decide (a<(e.length:Int))then
  (GO e a f).bind λj =>
  (CO j).bind λk =>
  (Gj k g).bind λb =>
  bif b.2 != 0 then
   some ([],b.2)
  else
   bif rm c.length [b.1].length then
    i ((i64.wrap (a+1)),(c++[b.1]))
   else none
 else
  h a c
abbrev LF(a:List (List Int))(c:List Int):Option ((List AI)×Int) :=
 (CO a).bind λb =>
 (EM b).bind λe =>
 bif e==0 then
  some ([],15)
 else
  iter (λf s=>PN a c b (λh g=>some (g,0)) f s.1 s.2) AD (0,[])
abbrev PM(b:List (List Int))(e:List Int)(f:Int->Option ((List AI)×Int))(g:Int->Option ((List AI)×Int))(a:Int):Option ((List AI)×Int) :=
 bif decide (a<(b.length:Int))then
  (GO b a e).bind λh =>
  (FC h).bind λc =>
  bif c != 0 then
   some ([],c)
  else
   g (i64.wrap (a+1))
 else
  f a
def JM(a:List (List Int))(b:List Int):Option ((List AI)×Int) :=
 (FC a).bind λc =>
 bif c != 0 then
  some ([],c)
 else
  bif(b.length:Int) != (a.length:Int)then
   some ([],17)
  else
   iter (λe s=>PM a b (λf=>LF a b) e s) AD 0
def JL(a:List (List Int))(b:List (List Int)):Option (AI×Int) :=
 (FC a).bind λc =>
 bif c != 0 then
  some (({}:AI),c)
 else
  (FC b).bind λe =>
  bif e != 0 then
   some (({}:AI),e)
  else
   (CO b).bind λf =>
   (EM f).bind λh =>
   bif h==0 then
    some (({}:AI),15)
   else
    (CO a).bind λi =>
    (Gj i f).bind λg =>
    some (g.1,g.2)
abbrev UK(a:List (List Int))(b:Int)(e:Int)(f:Int):Option (AI×Int) :=
 (Gv (i64.wrap ((i64.wrap ((a.length:Int)*e))-(i64.wrap (b*b)))) (a.length:Int)).bind λc =>
 some (c.1,c.2)
abbrev Iw(c:List (List Int))(g:Int->Int->Int->Option (AI×Int))(h:(Int×Int×Int)->Option (AI×Int))(e:Int)(f:Int)(a:Int):Option (AI×Int) :=
 bif decide (a<(c.length:Int))then
  (idx c a).bind λb =>
  (idx b 0).bind λi =>
  (idx b 0).bind λj =>
  (idx b 0).bind λk =>
  h ((i64.wrap (e+i)),(i64.wrap (f+(i64.wrap (j*k)))),(i64.wrap (a+1)))
 else
  g e f a
def IG(a:List (List Int)):Option (AI×Int) :=
 iter (λb s=>Iw a (UK a) b s.1 s.2.1 s.2.2) AD (0,0,0)
def Km(b:List (List Int))(g:List (List Int))(h:List (List Int))(i:List Int):Option (Cf×Int) :=
 (Kq g).bind λf =>
 (JM f i).bind λa =>
 bif a.2 != 0 then
  some (({}:Cf),a.2)
 else
  (Kq h).bind λj =>
  (JL j f).bind λc =>
  bif c.2 != 0 then
   some (({}:Cf),c.2)
  else
   (IG b).bind λe =>
   bif e.2 != 0 then
    some (({}:Cf),e.2)
   else
    some (({ A3:=a.1,A1:=c.1,A2:=e.1,Y:=(b.length:Int),Bb:=(i64.wrap ((b.length:Int)-(a.1.length:Int))) }:Cf),0)
def Kn(b:(Int×(List (List Int))×(List (List Int))×(List Int))->Option (Cf×Int))(c:Int)(e:List (List Int))(a:List Int)(f:List (List Int))(g:List Int)(h:Int)(j:Int)(i:List Int):Option (Cf×Int) :=
 b ((i64.wrap (c+1)),(e++[([1]++(LZ a 1 (a.length:Int)))]),(f++[(g++[h])]),i)
def Kk(b:List Int)(e:Int->(List Int)->Option (Cf×Int))(f:(Int×(List Int))->Option (Cf×Int))(a:Int)(c:List Int):Option (Cf×Int) :=
 bif decide (a<(([1]++(LZ b 1 (b.length:Int))).length:Int))then
  (idx ([1]++(LZ b 1 (b.length:Int))) a).bind λg =>
  (idx c a).bind λh =>
  (idx b 0).bind λi =>
  (idx c a).bind λj =>
  f ((i64.wrap (a+1)),(c.set (a:Int).toNat (i64.wrap (h+(i64.wrap (g*i))))))
 else
  e a c
def Kj(h:List (List Int))(j:Int->(List (List Int))->(List (List Int))->(List Int)->Option (Cf×Int))(k:(Int×(List (List Int))×(List (List Int))×(List Int))->Option (Cf×Int))(b:Int)(c:List (List Int))(e:List (List Int))(i:List Int):Option (Cf×Int) :=
 bif decide (b<(h.length:Int))then
  (idx h b).bind λa =>
  bif decide (0<=(1:Int)/\1<=(a.length:Int)/\(a.length:Int)<=(a.length:Int))then
   bif rm [1].length (LZ a 1 (a.length:Int)).length then
    bif rm c.length ([([1]++(LZ a 1 (a.length:Int)))]).length then
     (AC ([1]++(LZ a 1 (a.length:Int)))).bind λf =>
     (idx a 0).bind λg =>
     bif rm f.length [g].length then
      bif rm e.length ([(f++[g])]).length then
       iter (λl s=>Kk a (Kn k b c a e f g) l s.1 s.2) AD (0,i)
      else none
     else none
    else none
   else none
  else none
 else
  j b c e i
def Kl(a:List (List Int)):Option (Cf×Int) :=
 (idx a 0).bind λb =>
 bif decide (0<=(b.length:Int))&&rm ((b.length:Int):Int).toNat 0 then
  iter (λc s=>Kj a (λh e f g=>Km a e f g) c s.1 s.2.1 s.2.2.1 s.2.2.2) AD (0,[],[],(List.replicate ((b.length:Int):Int).toNat 0))
 else none
def LB(a:List (List Int)):Option (Cf×Int) :=
 (Gq a).bind λb =>
 bif !b then
  some (({}:Cf),11)
 else
  (idx a 0).bind λc =>
  bif decide ((c.length:Int)<2)then
   some (({}:Cf),11)
  else
   (idx a 0).bind λe =>
   bif decide ((e.length:Int)>4)then
    some (({}:Cf),11)
   else
    Kl a
def Iv(a:Aa)(b:As)(rows:List Int):(List Int)->(List (List Int))->Option (List (List Int))
 | [],cs=>some cs
 | c :: r,cs=>(BK a b rows c).bind λv=>bif v.length==cs.length then Iv a b rows r (cs.zipWith (λl x=>l++[x]) v)else none
def XZ(p:List Int)(q:List Int):Option (List (List Int)):=bif decide (p.length<=1000000/\q.length<=1000000)then some (List.replicate p.length [])else none
def Ko(d:Nat)(e:Aa)(f:As)(a:Int)(b:List Int)(g:Aj):Option (Cf×(List Int)×Int) :=
 (C5 e f).bind λi =>
 bif i != 0 then
  some (({}:Cf),[],i)
 else
  (C7 d e ({ Op:=11,B:=a,A:=b,V:=g }:Ap)).bind λj =>
  bif !j then
   some (({}:Cf),[],11)
  else
   (Gx d e ({ Op:=11,B:=a,A:=b,V:=g }:Ap)).bind λk =>
   (BU f.X k).bind λl =>
   bif !l then
    some (({}:Cf),[],23)
   else
    bif rm [a].length b.length then
     (CH d e f g ([a]++b)).bind λh =>
     (XZ h ([a]++b)).bind λm =>
     (Iv e f h ([a]++b) m).bind λn =>
     (LB n).bind λc =>
     bif c.2 != 0 then
      some (({}:Cf),[],c.2)
     else
      (AC b).bind λo =>
      (Cs f h).bind λp =>
      some (({ Ah:=a,Aw:=o,A3:=c.1.A3,A1:=c.1.A1,A2:=c.1.A2,Y:=c.1.Y,Bb:=c.1.Bb }:Cf),p,0)
    else none
abbrev Wa(e:Aa)(b:As)(c:List Int)(f:Int)(j:Int)(g:List Bool):Option ((List Ba)×(List Int)×Int) :=
 (BK e b c f).bind λh =>
 (Su h g).bind λa =>
 bif a.2 != 0 then
  some ([],[],a.2)
 else
  (Cs b c).bind λi =>
  some (a.1,i,0)
abbrev PY(c:List Int)(e:List Int)(f:Int->(List Bool)->Option ((List Ba)×(List Int)×Int))(g:(Int×(List Bool))->Option ((List Ba)×(List Int)×Int))(a:Int)(b:List Bool):Option ((List Ba)×(List Int)×Int) :=
 bif decide (a<(c.length:Int))then
  (idx c a).bind λh =>
  (AU e h).bind λi =>
  (idx b a).bind λj =>
  g ((i64.wrap (a+1)),(b.set (a:Int).toNat i))
 else
  f a b
def Kv(d:Nat)(a:Aa)(b:As)(e:Int)(f:Aj)(g:Aj):Option ((List Ba)×(List Int)×Int) :=
 (C5 a b).bind λh =>
 bif h != 0 then
  some ([],[],h)
 else
  (C7 d a ({ Op:=12,B:=e,V:=g,U:=f }:Ap)).bind λi =>
  bif !i then
   some ([],[],11)
  else
   (Gx d a ({ Op:=12,B:=e,V:=g,U:=f }:Ap)).bind λj =>
   (BU b.X j).bind λk =>
   bif !k then
    some ([],[],23)
   else
    (CH d a b g [e]).bind λc =>
    (CU d a b f).bind λl =>
    bif decide (0<=(c.length:Int))&&rm ((c.length:Int):Int).toNat 0 then
     iter (λm s=>PY c l (Wa a b c e) m s.1 s.2) AD (0,(List.replicate ((c.length:Int):Int).toNat false))
    else none
def Jv(d:Nat)(a:Aa)(b:As)(c:Ap):Option Int :=
 (C5 a b).bind λe =>
 bif e != 0 then
  some e
 else
  (C7 d a c).bind λf =>
  bif !f then
   some 11
  else
   (Gx d a c).bind λg =>
   (BU b.X g).bind λh =>
   bif !h then
    some 23
   else
    some 0
def Ni(a:Int):Option Bool :=
 some (bif decide (a<(-1000000))then true else(decide (a>1000000)))
def Ru(a:Int)(b:Int):Option Int :=
 bif decide (b≠0)then
  bif decide ((Int.tmod a b)<0)then
   some (i64.wrap (a-(i64.wrap ((Int.tmod a b)+b))))
  else
   some (i64.wrap (a-(Int.tmod a b)))
 else none
def Mk(h:List Int)(i:Int)(j:Int->(List D4)->Option ((List D4)×Int))(g:(Int×(List D4))->Option ((List D4)×Int))(c:Int)(a:List D4):Option ((List D4)×Int) :=
 bif decide (c<(h.length:Int))then
  (idx h c).bind λk =>
  (Ru k i).bind λb =>
  bif(a.length:Int)==0 then
   bif rm a.length [({ C:=b }:D4)].length then
    (idx (a++[({ C:=b }:D4)]) (i64.wrap (((a++[({ C:=b }:D4)]).length:Int)-1))).bind λe =>
    (idx (a++[({ C:=b }:D4)]) (i64.wrap (((a++[({ C:=b }:D4)]).length:Int)-1))).bind λf =>
    g ((i64.wrap (c+1)),((a++[({ C:=b }:D4)]).set ((i64.wrap (((a++[({ C:=b }:D4)]).length:Int)-1)):Int).toNat ({ C:=f.C,Y:=(i64.wrap (e.Y+1)) }:D4)))
   else none
  else
   (idx a (i64.wrap ((a.length:Int)-1))).bind λl =>
   bif l.C != b then
    bif rm a.length [({ C:=b }:D4)].length then
     (idx (a++[({ C:=b }:D4)]) (i64.wrap (((a++[({ C:=b }:D4)]).length:Int)-1))).bind λe =>
     (idx (a++[({ C:=b }:D4)]) (i64.wrap (((a++[({ C:=b }:D4)]).length:Int)-1))).bind λf =>
     g ((i64.wrap (c+1)),((a++[({ C:=b }:D4)]).set ((i64.wrap (((a++[({ C:=b }:D4)]).length:Int)-1)):Int).toNat ({ C:=f.C,Y:=(i64.wrap (e.Y+1)) }:D4)))
    else none
   else
    (idx a (i64.wrap ((a.length:Int)-1))).bind λe =>
    (idx a (i64.wrap ((a.length:Int)-1))).bind λf =>
    g ((i64.wrap (c+1)),(a.set ((i64.wrap ((a.length:Int)-1)):Int).toNat ({ C:=f.C,Y:=(i64.wrap (e.Y+1)) }:D4)))
 else
  j c a
def Ml(a:List Int)(b:Int):Option ((List D4)×Int) :=
 (AC a).bind λc =>
 (CR c).bind λe =>
 iter (λf s=>Mk e b (λh g=>some (g,0)) f s.1 s.2) AD (0,[])
def OA(a:List Int)(b:Int):Option ((List D4)×Int) :=
 bif decide ((a.length:Int)>200)then
  some ([],1)
 else
  bif bif decide (b<1)then true else(decide (b>1000000))then
   some ([],2)
  else
   (Bf a Ni).bind λc =>
   bif c then
    some ([],2)
   else
    Ml a b
abbrev ZC(b:Int)(c:As)(h:Int)(e:List Int)(f:List Int):Option ((List D4)×(List Int)×Int) :=
 (OA f b).bind λa =>
 bif a.2 != 0 then
  some ([],[],a.2)
 else
  (Cs c e).bind λg =>
  some (a.1,g,0)
abbrev Mm(g:List Int)(h:Aa)(i:Int)(k:Int)(l:As)(m:Int->(List Int)->(List Int)->Option ((List D4)×(List Int)×Int))(j:(Int×(List Int)×(List Int))->Option ((List D4)×(List Int)×Int))(a:Int)(b:List Int)(c:List Int):Option ((List D4)×(List Int)×Int) :=
 bif decide (a<(g.length:Int))then
  (idx g a).bind λf =>
  (Hg h i k).bind λn =>
  (BC h l f i n).bind λe =>
  bif bif e.2 then(e.1 != (-1099511627776))else false then
   bif rm b.length [f].length then
    bif rm c.length [e.1].length then
     j ((i64.wrap (a+1)),(b++[f]),(c++[e.1]))
    else none
   else none
  else
   j ((i64.wrap (a+1)),b,c)
 else
  m a b c
def OB(d:Nat)(b:Aa)(a:As)(e:Int)(c:Int)(f:Aj):Option ((List D4)×(List Int)×Int) :=
 (Jv d b a ({ Op:=13,L:=c,B:=e,V:=f }:Ap)).bind λg =>
 bif g != 0 then
  some ([],[],g)
 else
  (CU d b a f).bind λh =>
  iter (λi s=>Mm h b e c a (ZC c a) i s.1 s.2.1 s.2.2) AD (0,[],[])
def HA(a:List Int):Option (Oo×Int) :=
 bif decide ((a.length:Int)>200)then
  some (({}:Oo),1)
 else
  (Bf a Ni).bind λc =>
  bif c then
   some (({}:Oo),2)
  else
   bif(a.length:Int)==0 then
    some (({}:Oo),18)
   else
    (AC a).bind λe =>
    (CR e).bind λb =>
    (idx b 0).bind λf =>
    (idx b (i64.wrap (Int.tdiv (i64.wrap ((a.length:Int)-1)) 4))).bind λg =>
    (idx b (i64.wrap (Int.tdiv (i64.wrap ((a.length:Int)-1)) 2))).bind λh =>
    (idx b (i64.wrap (Int.tdiv (i64.wrap (3*(i64.wrap ((a.length:Int)-1)))) 4))).bind λi =>
    (idx b (i64.wrap ((a.length:Int)-1))).bind λj =>
    some (({ Y:=(a.length:Int),Bf:=f,Bg:=g,Bh:=h,Bi:=i,Bj:=j }:Oo),0)
def Q6(d:Nat)(b:Aa)(a:As)(c:Int)(f:Aj):Option (Oo×(List Int)×Int) :=
 (Jv d b a ({ Op:=14,B:=c,V:=f }:Ap)).bind λg =>
 bif g != 0 then
  some (({}:Oo),[],g)
 else
  (CH d b a f [c]).bind λh =>
  (BK b a h c).bind λi =>
  (HA i).bind λe =>
  bif e.2 != 0 then
   some (({}:Oo),[],e.2)
  else
   (Cs a h).bind λj =>
   some (e.1,j,0)
abbrev Bs(a:Int)(b:Int)(c:List Ad)(e:Int)(f:List Aq)(g:Int)(h:List Int)(i:List AI)(j:Int)(k:Int)(l:Int)(m:Int)(n:Int)(o:Int)(p:List Ba)(q:List D4)(r:Int)(t:Int)(u:Int)(v:Int)(w:Int)(x:Int)(y:List Int):Option (AA×Int) :=
 bif a != 0 then
  some (({}:AA),a)
 else
  some (({ Kind:=b,Table:={ Ac:=c,Ah:=e,Av:=f },Model:={ Ah:=g,Aw:=h,A3:=i,A1:={ L:=j,N:=k },A2:={ L:=l,N:=m },Y:=n,Bb:=o },Curve:=p,Hist:=q,Box:={ Y:=r,Bf:=t,Bg:=u,Bh:=v,Bi:=w,Bj:=x },Lineage:=y }:AA),0)
def B4(d:Nat)(q:Ay->Ap->Option (AA×Int))(l:Ay->Ap->Option (AA×Int))(b:Ay)(a:Ap):Option (AA×Int) :=
 bif a.Op==1 then
  some (({ Kind:=1,Number:={ L:=a.L,N:=1 } }:AA),0)
 else
  bif a.Op==2 then
   (DU b a.H).bind λm =>
   some (m,0)
  else
   bif a.Op==3 then
    (CU d b.I.Ae b.I.K a.V).bind λj =>
    (Cs b.I.K j).bind λn =>
    some (({ Kind:=1,Number:={ L:=(j.length:Int),N:=1 },Lineage:=n }:AA),0)
   else
    bif a.Op==4 then
     (Cr d b a).bind λg =>
     some (g.1,g.2)
    else
     bif a.Op==5 then
      (Cr d b a).bind λg =>
      some (g.1,g.2)
     else
      bif a.Op==10 then
       (II d b.I.Ae b.I.K a.Ac a.B a.V).bind λe =>
       bif e.2==0 then
        (idx e.1.Av 0).bind λo =>
        (AC o.G).bind λp =>
        Bs e.2 2 e.1.Ac e.1.Ah e.1.Av 0 [] [] 0 0 0 0 0 0 [] [] 0 0 0 0 0 0 p
       else
        Bs e.2 2 e.1.Ac e.1.Ah e.1.Av 0 [] [] 0 0 0 0 0 0 [] [] 0 0 0 0 0 0 []
      else
       bif a.Op==11 then
        (Ko d b.I.Ae b.I.K a.B a.A a.V).bind λc =>
        Bs c.2.2 3 [] 0 [] c.1.Ah c.1.Aw c.1.A3 c.1.A1.L c.1.A1.N c.1.A2.L c.1.A2.N c.1.Y c.1.Bb [] [] 0 0 0 0 0 0 c.2.1
       else
        bif a.Op==12 then
         (Kv d b.I.Ae b.I.K a.B a.U a.V).bind λh =>
         Bs h.2.2 4 [] 0 [] 0 [] [] 0 0 0 0 0 0 h.1 [] 0 0 0 0 0 0 h.2.1
        else
         bif a.Op==13 then
          (OB d b.I.Ae b.I.K a.B a.L a.V).bind λi =>
          Bs i.2.2 5 [] 0 [] 0 [] [] 0 0 0 0 0 0 [] i.1 0 0 0 0 0 0 i.2.1
         else
          bif a.Op==14 then
           (Q6 d b.I.Ae b.I.K a.B a.V).bind λf =>
           Bs f.2.2 6 [] 0 [] 0 [] [] 0 0 0 0 0 0 [] [] f.1.Y f.1.Bf f.1.Bg f.1.Bh f.1.Bi f.1.Bj f.2.1
          else
           (l b a).bind λk =>
           some (k.1,k.2)
def Cj(d:Nat)(g:Ay->Ap->Option (AA×Int))(k:Ay->Ap->Option (AA×Int))(h:Ay)(f:Ap):Option (AA×Int) :=
 (idx f.E 0).bind λi =>
 (g h i).bind λb =>
 bif b.2 != 0 then
  some (({}:AA),b.2)
 else
  (idx f.E 1).bind λj =>
  (g h j).bind λc =>
  bif c.2 != 0 then
   some (({}:AA),c.2)
  else
   bif f.Op==7 then
    (Me b.1.Number c.1.Number).bind λa =>
    bif a.2 != 0 then
     some (({}:AA),a.2)
    else
     (Ez b.1.Lineage c.1.Lineage).bind λe =>
     some (({ Kind:=1,Number:=a.1,Lineage:=e }:AA),0)
   else
    bif f.Op==8 then
     (Md b.1.Number c.1.Number).bind λa =>
     bif a.2 != 0 then
      some (({}:AA),a.2)
     else
      (Ez b.1.Lineage c.1.Lineage).bind λe =>
      some (({ Kind:=1,Number:=a.1,Lineage:=e }:AA),0)
    else
     bif f.Op==9 then
      (Mc b.1.Number c.1.Number).bind λa =>
      bif a.2 != 0 then
       some (({}:AA),a.2)
      else
       (Ez b.1.Lineage c.1.Lineage).bind λe =>
       some (({ Kind:=1,Number:=a.1,Lineage:=e }:AA),0)
     else
      (Mb b.1.Number c.1.Number).bind λa =>
      bif a.2 != 0 then
       some (({}:AA),a.2)
      else
       (Ez b.1.Lineage c.1.Lineage).bind λe =>
       some (({ Kind:=1,Number:=a.1,Lineage:=e }:AA),0)
mutual
def AE:Nat->Ay->Ap->Option (AA×Int)
 | 0,_,_=>none
 | d+1,a,b=>B4 d (AE d) (BR d) a b
def BR:Nat->Ay->Ap->Option (AA×Int)
 | 0,_,_=>none
 | d+1,a,b=>Cj d (AE d) (BR d) a b
end
def Io(f:List Au)(d:Nat)(g:Aa)(h:As)(i:Int->(List A9)->Option ((List A9)×Int×Int))(j:(Int×(List A9))->Option ((List A9)×Int×Int))(a:Int)(c:List A9):Option ((List A9)×Int×Int) :=
 bif decide (a<(f.length:Int))then
  (idx f a).bind λb =>
  (AE d ({ I:={ Ae:=g,K:=h },Ax:=c }:Ay) b.An).bind λe =>
  bif e.2 != 0 then
   some ([],a,e.2)
  else
   bif rm c.length [({ H:=b.H,A0:=b.A0,At:=e.1 }:A9)].length then
    j ((i64.wrap (a+1)),(c++[({ H:=b.H,A0:=b.A0,At:=e.1 }:A9)]))
   else none
 else
  i a c
def Ey(d:Nat)(a:Aa)(c:As)(b:List Au):Option ((List A9)×Int×Int) :=
 (C5 a c).bind λg =>
 bif g != 0 then
  some ([],(-1),g)
 else
  (Hf d a b).bind λe =>
  bif e.2 != 0 then
   some ([],e.1,e.2)
  else
   (IJ d a c.X b).bind λf =>
   bif f.2.2 != 0 then
    some ([],f.2.1,f.2.2)
   else
    iter (λh s=>Io b d a c (λj i=>some (i,(b.length:Int),0)) h s.1 s.2) AD (0,[])
abbrev NF(e:List A9)(h:Int->(List A9)->Option (List A9))(f:(Int×(List A9))->Option (List A9))(b:Int)(c:List A9):Option (List A9) :=
 bif decide (b<(e.length:Int))then
  (idx e b).bind λa =>
  bif a.A0 then
   (Fu a.At).bind λg =>
   bif rm c.length [({ H:=a.H,A0:=a.A0,At:=g }:A9)].length then
    f ((i64.wrap (b+1)),(c++[({ H:=a.H,A0:=a.A0,At:=g }:A9)]))
   else none
  else
   f ((i64.wrap (b+1)),c)
 else
  h b c
def JI(a:List A9):Option (List A9) :=
 iter (λb s=>NF a (λe c=>some c) b s.1 s.2) AD (0,[])
def Gk(d:Nat)(a:Aa)(b:As)(c:List A9)(e:Ap):Option (AA×Int) :=
 (C5 a b).bind λf =>
 bif f != 0 then
  some (({}:AA),f)
 else
  (KS d a b.X c e).bind λg =>
  bif g.2 != 0 then
   some (({}:AA),g.2)
  else
   (AE d ({ I:={ Ae:=a,K:=b },Ax:=c }:Ay) e).bind λh =>
   some (h.1,h.2)
abbrev Mp(c:List (List Int))(e:List Int)(i:Bool->Int->(List (List Int))->Option (List (List Int)))(h:(Bool×Int×(List (List Int)))->Option (List (List Int)))(g:Bool)(a:Int)(b:List (List Int)):Option (List (List Int)) :=
 bif decide (a<(c.length:Int))then
  (idx c a).bind λj =>
  (idx j 0).bind λk =>
  (idx e 0).bind λl =>
  bif k==l then
   h (g,(i64.wrap (a+1)),b)
  else
   (idx c a).bind λm =>
   (idx m 0).bind λn =>
   (idx e 0).bind λo =>
   bif bif decide (n>o)then(!g)else false then
    bif rm b.length [e].length then
     (idx c a).bind λf =>
     bif rm (b++[e]).length [f].length then
      h (true,(i64.wrap (a+1)),((b++[e])++[f]))
     else none
    else none
   else
    (idx c a).bind λf =>
    bif rm b.length [f].length then
     h (g,(i64.wrap (a+1)),(b++[f]))
    else none
 else
  i g a b
def M1(c:List (List Int))(a:List Int):Option (List (List Int)) :=
 iter (λe s=>Mp c a (λf g b=>bif !f then   bif rm b.length [a].length then     some (b++[a])   else none else   some b) e s.1 s.2.1 s.2.2) AD (false,0,[])
abbrev QD(b:Am)(e:Int->Int->Option Int)(f:(Int×Int)->Option Int)(a:Int)(c:Int):Option Int :=
 (idx b.Q a).bind λg =>
 bif decide (g.A7>=0)then
  (idx b.Q a).bind λh =>
  f (h.A7,(i64.wrap (c+1)))
 else
  e a c
def E1(a:Am)(b:Int):Option Int :=
 iter (λc s=>QD a (λf e=>some e) c s.1 s.2) AD (b,0)
abbrev Sb(a:ByteArray):Option Bool :=
 bif a.toList==({ data:=#[97,108,108] }:ByteArray).toList then
  some false
 else
  bif a.toList==({ data:=#[97,110,100] }:ByteArray).toList then
   some false
  else
   bif a.toList==({ data:=#[101,118,101,110,116] }:ByteArray).toList then
    some false
   else
    bif a.toList==({ data:=#[102,114,111,109] }:ByteArray).toList then
     some false
    else
     bif a.toList==({ data:=#[109,105,115,115,105,110,103] }:ByteArray).toList then
      some false
     else
      bif a.toList==({ data:=#[110,111,116] }:ByteArray).toList then
       some false
      else
       bif a.toList==({ data:=#[111,110] }:ByteArray).toList then
        some false
       else
        bif a.toList==({ data:=#[111,114] }:ByteArray).toList then
         some false
        else
         bif a.toList==({ data:=#[116,111] }:ByteArray).toList then
          some false
         else
          bif a.toList==({ data:=#[117,110,100,101,114] }:ByteArray).toList then
           some false
          else
           bif a.toList==({ data:=#[119,104,101,114,101] }:ByteArray).toList then
            some false
           else
            some true
abbrev Sa(b:ByteArray)(e:Int->Option Bool)(c:Int->Option Bool)(a:Int):Option Bool :=
 bif decide (a<(b.size:Int))then
  bif decide (0<=(a:Int)/\(a:Int).toNat<b.size)then
   bif decide ((FJ b a)>=97)then
    bif decide (0<=(a:Int)/\(a:Int).toNat<b.size)then
     bif decide ((FJ b a)<=122)then
      c (i64.wrap (a+1))
     else
      bif decide (0<=(a:Int)/\(a:Int).toNat<b.size)then
       bif decide ((FJ b a)>=48)then
        bif decide (0<=(a:Int)/\(a:Int).toNat<b.size)then
         bif decide ((FJ b a)<=57)then
          c (i64.wrap (a+1))
         else
          bif decide (0<=(a:Int)/\(a:Int).toNat<b.size)then
           bif !((FJ b a)==95)then
            some false
           else
            c (i64.wrap (a+1))
          else none
        else none
       else
        bif decide (0<=(a:Int)/\(a:Int).toNat<b.size)then
         bif !((FJ b a)==95)then
          some false
         else
          c (i64.wrap (a+1))
        else none
      else none
    else none
   else
    bif decide (0<=(a:Int)/\(a:Int).toNat<b.size)then
     bif decide ((FJ b a)>=48)then
      bif decide (0<=(a:Int)/\(a:Int).toNat<b.size)then
       bif decide ((FJ b a)<=57)then
        c (i64.wrap (a+1))
       else
        bif decide (0<=(a:Int)/\(a:Int).toNat<b.size)then
         bif !((FJ b a)==95)then
          some false
         else
          c (i64.wrap (a+1))
        else none
      else none
     else
      bif decide (0<=(a:Int)/\(a:Int).toNat<b.size)then
       bif !((FJ b a)==95)then
        some false
       else
        c (i64.wrap (a+1))
      else none
    else none
  else none
 else
  e a
def Od(a:ByteArray):Option Bool :=
 iter (λb s=>Sa a (λc=>Sb a) b s) AD 0
def EX(a:ByteArray):Option Bool :=
 bif bif decide ((a.size:Int)<1)then true else(decide ((a.size:Int)>16))then
  some false
 else
  bif decide (0<=(0:Int)/\(0:Int).toNat<a.size)then
   bif decide ((FJ a 0)<97)then
    some false
   else
    bif decide (0<=(0:Int)/\(0:Int).toNat<a.size)then
     bif decide ((FJ a 0)>122)then
      some false
     else
      Od a
    else none
  else none
abbrev Sc(b:Am)(c:Int)(e:Int->Option Bool)(f:Int->Option Bool)(a:Int):Option Bool :=
 bif decide (a<(b.Q.length:Int))then
  (idx b.Q a).bind λg =>
  bif g.A7==c then
   some false
  else
   f (i64.wrap (a+1))
 else
  e a
def SN(a:Am)(b:Int):Option Bool :=
 iter (λc s=>Sc a b (λe=>some true) c s) AD 0
abbrev QA(b:Am)(g:Int->Int->Option Int)(e:(Int×Int)->Option Int)(c:Int)(a:Int):Option Int :=
 bif decide (a<(b.Q.length:Int))then
  (SN b a).bind λh =>
  bif h then
   bif decide (c>=0)then
    (E1 b a).bind λi =>
    bif i != c then
     some 5
    else
     (E1 b a).bind λf =>
     e (f,(i64.wrap (a+1)))
   else
    (E1 b a).bind λf =>
    e (f,(i64.wrap (a+1)))
  else
   e (c,(i64.wrap (a+1)))
 else
  g c a
abbrev QB(a:Am):Option Int :=
 iter (λb s=>QA a (λc e=>some 0) b s.1 s.2) AD ((-1),0)
abbrev Xr(c:Am)(a:Int)(e:Int->Option Int)(f:Int):Option Int :=
 (idx c.Q a).bind λb =>
 bif bif bif a==0 then(b.A7 != (-1))else false then true else(bif decide (a>0)then(bif decide (b.A7<0)then true else(decide (b.A7>=a)))else false)then
  some 6
 else
  e (i64.wrap (a+1))
abbrev Q9(b:Int)(c:Am)(e:Int->Option Int)(f:Int->Option Int)(a:Int):Option Int :=
 bif decide (a<b)then
  (idx c.Q a).bind λg =>
  (idx c.Q b).bind λh =>
  bif g.H.toList==h.H.toList then
   some 10
  else
   f (i64.wrap (a+1))
 else
  e a
abbrev Q8(b:Am)(c:Int->Option Int)(e:Int->Option Int)(a:Int):Option Int :=
 bif decide (a<(b.Q.length:Int))then
  (idx b.Q a).bind λf =>
  (EX f.H).bind λg =>
  bif !g then
   some 3
  else
   iter (λh s=>Q9 a b (Xr b a e) h s) AD 0
 else
  c a
def FE(a:Am):Option Int :=
 (EX a.H).bind λb =>
 bif !b then
  some 3
 else
  bif(a.Q.length:Int)==0 then
   some 5
  else
   bif decide ((a.Q.length:Int)>60)then
    some 1
   else
    iter (λc s=>Q8 a (λe=>QB a) c s) AD 0
def FF(a:Am):Option Int :=
 (FE a).bind λb =>
 bif b != 0 then
  some (-1)
 else
  (E1 a (i64.wrap ((a.Q.length:Int)-1))).bind λc =>
  some (i64.wrap (c+1))
abbrev VD(c:Am)(f:Int)(g:Int->(List Int)->Option (List Int))(e:(Int×(List Int))->Option (List Int))(a:Int)(b:List Int):Option (List Int) :=
 bif decide (a<(c.Q.length:Int))then
  (E1 c a).bind λh =>
  bif h==f then
   bif rm b.length [a].length then
    e ((i64.wrap (a+1)),(b++[a]))
   else none
  else
   e ((i64.wrap (a+1)),b)
 else
  g a b
def OF(a:Am)(b:Int):Option (List Int) :=
 (FE a).bind λc =>
 bif c != 0 then
  some []
 else
  iter (λe s=>VD a b (λg f=>some f) e s.1 s.2) AD (0,[])
def G9(a:Aa)(c:Int):Option (List Int) :=
 (idx a.A c).bind λe =>
 (idx a.J e.Al).bind λb =>
 (FF b).bind λf =>
 (OF b (i64.wrap (f-1))).bind λg =>
 some g
def EY(a:Int)(b:Int)(c:Int):Option Bool :=
 some (bif decide (b<=a)then(decide (a<=c))else false)
abbrev OJ(b:Ar)(g:Int->Option Int)(e:Int->Option Int)(a:Int):Option Int :=
 bif decide (a<(b.T.length:Int))then
  (idx b.T a).bind λc =>
  bif bif a==0 then(c != 1)else false then
   some 2
  else
   bif decide (a>0)then
    (idx b.T (i64.wrap (a-1))).bind λh =>
    bif bif decide (c<=h)then true else(decide (c>1000000))then
     some 2
    else
     (idx b.T (i64.wrap (a-1))).bind λf =>
     bif decide (f≠0)then
      bif(Int.tmod c f) != 0 then
       some 2
      else
       e (i64.wrap (a+1))
     else none
   else
    e (i64.wrap (a+1))
 else
  g a
abbrev KN(a:Ar):Option Int :=
 bif bif decide ((a.T.length:Int)<1)then true else(decide ((a.T.length:Int)>4))then
  some 1
 else
  iter (λb s=>OJ a (λc=>some 0) b s) AD 0
def ID(a:Ar):Option Int :=
 (EY a.C (-1000000) 1000000).bind λb =>
 bif !b then
  some 2
 else
  (EY a.D (-1000000) 1000000).bind λc =>
  bif bif !c then true else(decide (a.C>a.D))then
   some 2
  else
   KN a
abbrev GW(a:Ar):Option Int :=
 bif a.Kind==3 then
  (ID a).bind λb =>
  bif b != 0 then
   some b
  else
   bif bif bif a.Kind != 2 then(a.Al != 0)else false then true else(bif a.Kind != 3 then(bif bif bif a.C != 0 then true else(a.D != 0)then true else(decide ((a.T.length:Int)>0))then true else a.Az)else false)then
    some 11
   else
    some 0
 else
  bif bif bif a.Kind != 2 then(a.Al != 0)else false then true else(bif a.Kind != 3 then(bif bif bif a.C != 0 then true else(a.D != 0)then true else(decide ((a.T.length:Int)>0))then true else a.Az)else false)then
   some 11
  else
   some 0
def IV(a:Ar)(b:Int)(c:Aa):Option Int :=
 (EY a.Kind 1 3).bind λe =>
 bif bif !e then true else(bif decide (b>0)then(a.Kind==1)else false)then
  some 4
 else
  bif a.Kind==2 then
   (EY a.Al 0 (i64.wrap ((c.J.length:Int)-1))).bind λf =>
   bif !f then
    some 5
   else
    GW a
  else
   GW a
abbrev IU(b:Int)(c:Aa)(e:Ar)(f:Int->Option Int)(g:Int->Option Int)(a:Int):Option Int :=
 bif decide (a<b)then
  (idx c.A a).bind λh =>
  bif h.H.toList==e.H.toList then
   some 10
  else
   g (i64.wrap (a+1))
 else
  f a
def JW(a:Aa)(b:Int):Option Int :=
 (idx a.A b).bind λc =>
 (EX c.H).bind λe =>
 bif !e then
  some 3
 else
  iter (λf s=>IU b a c (λg=>IV c b a) f s) AD 0
abbrev JU(b:Aa)(e:Int->Option Int)(f:Int->Option Int)(a:Int):Option Int :=
 bif decide (a<(b.A.length:Int))then
  (JW b a).bind λc =>
  bif c != 0 then
   some c
  else
   f (i64.wrap (a+1))
 else
  e a
abbrev Nj(a:Aa):Option Int :=
 bif(a.A.length:Int)==0 then
  some 7
 else
  (idx a.A 0).bind λb =>
  bif b.Kind != 1 then
   some 7
  else
   iter (λc s=>JU a (λe=>some 0) c s) AD 0
abbrev JS(b:Int)(c:Aa)(e:Int->Option Int)(f:Int->Option Int)(a:Int):Option Int :=
 bif decide (a<b)then
  (idx c.J a).bind λg =>
  (idx c.J b).bind λh =>
  bif g.H.toList==h.H.toList then
   some 10
  else
   f (i64.wrap (a+1))
 else
  e a
abbrev JR(b:Aa)(e:Int->Option Int)(f:Int->Option Int)(a:Int):Option Int :=
 bif decide (a<(b.J.length:Int))then
  (idx b.J a).bind λg =>
  (FE g).bind λc =>
  bif c != 0 then
   some c
  else
   iter (λh s=>JS a b (λi=>f (i64.wrap (a+1))) h s) AD 0
 else
  e a
def Dq(a:Aa):Option Int :=
 bif bif decide ((a.J.length:Int)>6)then true else(decide ((a.A.length:Int)>8))then
  some 1
 else
  iter (λb s=>JR a (λc=>Nj a) b s) AD 0
def CF(a:Aa)(b:Int):Option Int :=
 (Dq a).bind λe =>
 bif bif bif e != 0 then true else(decide (b<1))then true else(decide (b>=(a.A.length:Int)))then
  some (-1)
 else
  (idx a.A b).bind λc =>
  bif c.Kind==2 then
   (idx a.J c.Al).bind λf =>
   (FF f).bind λg =>
   some (i64.wrap (g-1))
  else
   some (c.T.length:Int)
abbrev Oe(b:BW)(e:Int)(f:Int->Option Int)(c:Int->Option Int)(a:Int):Option Int :=
 bif decide (a<(b.G.length:Int))then
  (idx b.G a).bind λg =>
  bif decide ((g.length:Int)>0)then
   (idx b.G a).bind λh =>
   (idx h 0).bind λi =>
   bif i==e then
    some a
   else
    c (i64.wrap (a+1))
  else
   c (i64.wrap (a+1))
 else
  f a
def Jm(a:BW)(b:Int):Option Int :=
 iter (λc s=>Oe a b (λe=>some (-1)) c s) AD 0
def HW(a:Am)(b:Int):Option Int :=
 (FE a).bind λc =>
 bif bif bif c != 0 then true else(decide (b<0))then true else(decide (b>=(a.Q.length:Int)))then
  some (-1)
 else
  (E1 a b).bind λe =>
  some e
def Jw(e:Aa)(f:Int)(b:Int):Option Bool :=
 (idx e.A f).bind λa =>
 bif a.Kind==1 then
  (EY b 1 1048575).bind λg =>
  some g
 else
  bif a.Kind==2 then
   (idx e.J a.Al).bind λc =>
   (EY b 0 (i64.wrap ((c.Q.length:Int)-1))).bind λh =>
   bif h then
    (HW c b).bind λi =>
    (FF c).bind λj =>
    some (i==(i64.wrap (j-1)))
   else
    some false
  else
   bif bif a.Az then(b==(-1099511627776))else false then
    some true
   else
    (EY b a.C a.D).bind λk =>
    some k
abbrev Mo(b:List Int)(c:Aa)(e:Int->Option Int)(f:Int->Option Int)(a:Int):Option Int :=
 bif decide (a<(b.length:Int))then
  (idx b a).bind λg =>
  (Jw c a g).bind λh =>
  bif !h then
   some 9
  else
   f (i64.wrap (a+1))
 else
  e a
def KL(a:Aa)(b:List Int):Option Int :=
 (Dq a).bind λc =>
 bif c != 0 then
  some c
 else
  bif(b.length:Int) != (a.A.length:Int)then
   some 9
  else
   iter (λe s=>Mo b a (λf=>some 0) e s) AD 0
abbrev Nm(b:BW)(g:Int->Option Bool)(f:Int->Option Bool)(a:Int):Option Bool :=
 bif decide (a<(b.Bo.length:Int))then
  (idx b.Bo a).bind λh =>
  bif decide (h<1)then
   some false
  else
   (idx b.Bo a).bind λi =>
   bif decide (i>1048575)then
    some false
   else
    bif decide (a>0)then
     (idx b.Bo a).bind λj =>
     (idx b.Bo (i64.wrap (a-1))).bind λk =>
     bif decide (j<=k)then
      some false
     else
      (idx b.Bo a).bind λc =>
      (Jm b c).bind λe =>
      bif decide (e>=0)then
       some false
      else
       f (i64.wrap (a+1))
    else
     (idx b.Bo a).bind λc =>
     (Jm b c).bind λe =>
     bif decide (e>=0)then
      some false
     else
      f (i64.wrap (a+1))
 else
  g a
abbrev Nn(a:BW):Option Bool :=
 iter (λb s=>Nm a (λc=>some true) b s) AD 0
abbrev JX(b:BW)(e:Int->Option Bool)(c:Int->Option Bool)(a:Int):Option Bool :=
 bif decide (a<(b.G.length:Int))then
  (idx b.G a).bind λf =>
  (KL b.Ao f).bind λg =>
  bif g != 0 then
   some false
  else
   bif decide (a>0)then
    (idx b.G a).bind λh =>
    (idx h 0).bind λi =>
    (idx b.G (i64.wrap (a-1))).bind λj =>
    (idx j 0).bind λk =>
    bif decide (i<=k)then
     some false
    else
     c (i64.wrap (a+1))
   else
    c (i64.wrap (a+1))
 else
  e a
def J0(a:BW):Option Bool :=
 (Dq a.Ao).bind λb =>
 bif bif bif bif bif b != 0 then true else(decide ((a.G.length:Int)>200))then true else(decide ((a.Bo.length:Int)>300))then true else(decide (a.Ag<0))then true else(decide (a.Ag>300))then
  some false
 else
  iter (λc s=>JX a (λe=>Nn a) c s) AD 0
abbrev JY(c:Aj)(e:Int)(f:Aj->Int->Option Int)(g:Int->Int->Option Int)(h:(Int×Int)->Option Int)(a:Int)(b:Int):Option Int :=
 bif bif decide (b<(c.E.length:Int))then(decide (a<e))else false then
  (idx c.E b).bind λi =>
  (f i (i64.wrap (e-a))).bind λj =>
  h ((i64.wrap (a+j)),(i64.wrap (b+1)))
 else
  g a b
def IE(d:Nat)(a:Aj->Int->Option Int)(b:Aj)(c:Int):Option Int :=
 iter (λe s=>JY b c a (λf g=>some f) e s.1 s.2) AD (1,0)
def J3:Nat->Aj->Int->Option Int
 | 0,_,_=>none
 | d+1,a,b=>IE d (J3 d) a b
abbrev QK(c:Aj)(f:Aj->Option Int)(g:Int->Int->Option Int)(h:(Int×Int)->Option Int)(b:Int)(a:Int):Option Int :=
 bif decide (a<(c.E.length:Int))then
  (idx c.E a).bind λi =>
  (f i).bind λe =>
  h ((if e>b then e else b),(i64.wrap (a+1)))
 else
  g b a
def Lg(d:Nat)(a:Aj->Option Int)(b:Aj):Option Int :=
 iter (λc s=>QK b a (λe f=>some (i64.wrap (e+1))) c s.1 s.2) AD (0,0)
def Ia:Nat->Aj->Option Int
 | 0,_=>none
 | d+1,a=>Lg d (Ia d) a
def Nq(b:Aa)(a:Int)(c:Int):Option Bool :=
 bif bif decide (a>=0)then(decide (a<(b.A.length:Int)))else false then
  (idx b.A a).bind λe =>
  some (e.Kind==c)
 else
  some false
def IF(b:Aj)(e:Aa->Aj->Option Int)(f:Aa)(g:Int->Option Int)(h:Int->Option Int)(a:Int):Option Int :=
 bif decide (a<(b.E.length:Int))then
  (idx b.E a).bind λi =>
  (e f i).bind λc =>
  bif c != 0 then
   some c
  else
   h (i64.wrap (a+1))
 else
  g a
def C8(a:Aj)(b:Aa->Aj->Option Int)(c:Aa):Option Int :=
 bif bif a.Op==3 then(bif bif decide (a.C<(-1000000))then true else(decide (a.D>1000000))then true else(decide (a.C>a.D)))else false then
  some 2
 else
  iter (λe s=>IF a b c (λf=>some 0) e s) AD 0
def Ch(a:Aj)(b:Aa)(c:Aa->Aj->Option Int):Option Int :=
 bif a.Op==2 then
  bif decide (a.Z<0)then
   some 6
  else
   (idx b.A a.B).bind λe =>
   (idx b.J e.Al).bind λf =>
   bif decide (a.Z>=(f.Q.length:Int))then
    some 6
   else
    C8 a c b
 else
  C8 a c b
def BE(a:Aj)(b:Aa)(c:Aa->Aj->Option Int)(e:Int)(f:Int)(g:Int)(h:Int)(i:Int):Option Int :=
 bif bif bif bif bif(a.E.length:Int) != e then true else(f != a.B)then true else(g != a.Z)then true else(h != a.C)then true else(i != a.D)then
  some 11
 else
  bif a.Op==2 then
   (Nq b a.B 2).bind λj =>
   bif !j then
    some 7
   else
    Ch a b c
  else
   bif a.Op==3 then
    (Nq b a.B 3).bind λk =>
    bif !k then
     some 7
    else
     Ch a b c
   else
    bif a.Op==4 then
     (Nq b a.B 3).bind λl =>
     bif !l then
      some 7
     else
      (idx b.A a.B).bind λm =>
      bif !m.Az then
       some 7
      else
       Ch a b c
    else
     Ch a b c
def JZ(d:Nat)(b:Aa->Aj->Option Int)(c:Aa)(a:Aj):Option Int :=
 bif a.Op==1 then
  BE a c b 0 0 0 0 0
 else
  bif a.Op==2 then
   BE a c b 0 a.B a.Z 0 0
  else
   bif a.Op==3 then
    BE a c b 0 a.B 0 a.C a.D
   else
    bif a.Op==4 then
     BE a c b 0 a.B 0 0 0
    else
     bif a.Op==5 then
      BE a c b 2 0 0 0 0
     else
      bif a.Op==6 then
       BE a c b 2 0 0 0 0
      else
       bif a.Op==7 then
        BE a c b 1 0 0 0 0
       else
        some 4
def Ib:Nat->Aa->Aj->Option Int
 | 0,_,_=>none
 | d+1,a,b=>JZ d (Ib d) a b
def Dr(d:Nat)(b:Aa)(a:Aj):Option Int :=
 (Dq b).bind λc =>
 bif c != 0 then
  some c
 else
  (J3 d a 41).bind λe =>
  bif decide (e>40)then
   some 1
  else
   (Ia d a).bind λf =>
   bif decide (f>10)then
    some 22
   else
    (Ib d b a).bind λg =>
    some g
def OM(b:Aa)(a:Int)(c:Int):Option Bool :=
 bif bif decide (a>=0)then(decide (a<(b.A.length:Int)))else false then
  (idx b.A a).bind λe =>
  some (e.Kind==c)
 else
  some false
def KJ(b:Aa)(a:Ad):Option Int :=
 (Dq b).bind λc =>
 bif c != 0 then
  some c
 else
  bif bif decide (a.B<1)then true else(decide (a.B>=(b.A.length:Int)))then
   some 7
  else
   (CF b a.B).bind λe =>
   (EY a.S 0 e).bind λf =>
   bif !f then
    some 8
   else
    some 0
abbrev Oi(b:Int)(c:List Ad)(e:Int->Option Int)(f:Int->Option Int)(a:Int):Option Int :=
 bif decide (a<b)then
  (idx c a).bind λg =>
  (idx c b).bind λh =>
  bif g.B==h.B then
   some 10
  else
   f (i64.wrap (a+1))
 else
  e a
abbrev Lh(b:List Ad)(c:Aa)(f:Int->Option Int)(g:Int->Option Int)(a:Int):Option Int :=
 bif decide (a<(b.length:Int))then
  (idx b a).bind λh =>
  (KJ c h).bind λe =>
  bif e != 0 then
   some e
  else
   (idx b a).bind λi =>
   (OM c i.B 2).bind λj =>
   bif !j then
    some 7
   else
    iter (λk s=>Oi a b (λl=>g (i64.wrap (a+1))) k s) AD 0
 else
  f a
def Nt(b:Aa)(a:List Ad):Option Int :=
 bif bif decide ((a.length:Int)<1)then true else(decide ((a.length:Int)>3))then
  some 1
 else
  iter (λc s=>Lh a b (λe=>some 0) c s) AD 0
def NM(d:Nat)(b:Aa)(a:BA):Option Int :=
 (OM b a.Ah 3).bind λc =>
 bif a.Kind==1 then
  (Nt b a.Ac).bind λe =>
  bif e != 0 then
   some e
  else
   bif bif a.Ah != (-1)then(!c)else false then
    some 7
   else
    some 0
 else
  bif a.Kind==2 then
   bif !c then
    some 7
   else
    none
  else
   bif !c then
    some 7
   else
    (idx b.A a.Ah).bind λf =>
    bif decide (f.C<0)then
     some 2
    else
     (Dr d b a.U).bind λg =>
     some g
abbrev Sd(b:Aj)(c:Aj)(e:Aj->Aj->Option Bool)(f:Int->Option Bool)(g:Int->Option Bool)(a:Int):Option Bool :=
 bif decide (a<(b.E.length:Int))then
  (idx b.E a).bind λh =>
  (idx c.E a).bind λi =>
  (e h i).bind λj =>
  bif !j then
   some false
  else
   g (i64.wrap (a+1))
 else
  f a
def Pt(d:Nat)(c:Aj->Aj->Option Bool)(a:Aj)(b:Aj):Option Bool :=
 bif bif bif bif bif bif a.Op != b.Op then true else(a.B != b.B)then true else(a.Z != b.Z)then true else(a.C != b.C)then true else(a.D != b.D)then true else((a.E.length:Int) != (b.E.length:Int))then
  some false
 else
  iter (λe s=>Sd a b c (λf=>some true) e s) AD 0
def Ps:Nat->Aj->Aj->Option Bool
 | 0,_,_=>none
 | d+1,a,b=>Pt d (Ps d) a b
def SQ(d:Nat)(a:Aj):Option Bool :=
 (Ps d a ({}:Aj)).bind λb =>
 some b
def EZ(d:Nat)(b:Aa)(a:BA):Option Int :=
 (Dq b).bind λc =>
 bif c != 0 then
  some c
 else
  (EX a.H).bind λg =>
  bif !g then
   some 3
  else
   bif bif decide (a.Kind<1)then true else(decide (a.Kind>3))then
    some 4
   else
    (Dr d b a.Bc).bind λe =>
    bif e != 0 then
     some e
    else
     (NM d b a).bind λf =>
     bif f != 0 then
      some f
     else
      bif bif bif a.Kind != 1 then(decide ((a.Ac.length:Int)>0))else false then true else(bif a.Kind != 2 then(decide ((a.Aw.length:Int)>0))else false)then
       some 11
      else
       bif a.Kind != 3 then
        (SQ d a.U).bind λh =>
        bif !h then
         some 11
        else
         some 0
       else
        some 0
abbrev Nr(b:Int)(c:AY)(e:Int->Option Int)(f:Int->Option Int)(a:Int):Option Int :=
 bif decide (a<b)then
  (idx c.Bn a).bind λg =>
  (idx c.Bn b).bind λh =>
  bif g.H.toList==h.H.toList then
   some 10
  else
   f (i64.wrap (a+1))
 else
  e a
abbrev Ka(b:AY)(d:Nat)(e:Aa)(f:Int->Option Int)(g:Int->Option Int)(a:Int):Option Int :=
 bif decide (a<(b.Bn.length:Int))then
  (idx b.Bn a).bind λh =>
  (EZ d e h).bind λc =>
  bif c != 0 then
   some c
  else
   iter (λi s=>Nr a b (λj=>g (i64.wrap (a+1))) i s) AD 0
 else
  f a
abbrev Ns(d:Nat)(b:Aa)(a:AY):Option Int :=
 (Dr d b a.Bd).bind λc =>
 bif c != 0 then
  some c
 else
  bif bif bif bif bif bif decide (a.Be.Of<1)then true else(decide (a.Be.Of>1000))then true else(decide (a.Be.Bl<1))then true else(decide (a.Be.Bl>a.Be.Of))then true else(decide (a.Be.Bm<0))then true else(decide (a.Be.Bm>1099511627776))then
   some 2
  else
   bif bif decide ((a.Bn.length:Int)<1)then true else(decide ((a.Bn.length:Int)>8))then
    some 1
   else
    iter (λe s=>Ka a d b (λf=>some 0) e s) AD 0
def J4(d:Nat)(b:Aa)(a:AY):Option Int :=
 (Dq b).bind λc =>
 bif c != 0 then
  some c
 else
  (EX a.Af).bind λe =>
  bif !e then
   some 3
  else
   (EX a.Bu).bind λf =>
   bif !f then
    some 3
   else
    Ns d b a
abbrev JV(b:List Ad)(f:Aa)(g:Int->Option Int)(c:Int->Option Int)(a:Int):Option Int :=
 bif decide (a<(b.length:Int))then
  (idx b a).bind λh =>
  (KJ f h).bind λe =>
  bif e != 0 then
   some e
  else
   bif decide (a>0)then
    (idx b a).bind λi =>
    (idx b (i64.wrap (a-1))).bind λj =>
    bif decide (i.B<=j.B)then
     some 10
    else
     c (i64.wrap (a+1))
   else
    c (i64.wrap (a+1))
 else
  g a
def Jz(a:Aa)(c:List Ad):Option Int :=
 (Dq a).bind λb =>
 bif b != 0 then
  some b
 else
  iter (λe s=>JV c a (λf=>some 0) e s) AD 0
abbrev PV(b:List Ad)(e:List Ad)(f:Int)(h:Bool->Int->Option Bool)(c:(Bool×Int)->Option Bool)(g:Bool)(a:Int):Option Bool :=
 bif decide (a<(b.length:Int))then
  bif g then
   c (true,(i64.wrap (a+1)))
  else
   (idx b a).bind λi =>
   (idx e f).bind λj =>
   bif i.B==j.B then
    (idx b a).bind λk =>
    (idx e f).bind λl =>
    c ((decide (k.S>=l.S)),(i64.wrap (a+1)))
   else
    c (false,(i64.wrap (a+1)))
 else
  h g a
abbrev PU(b:List Ad)(c:List Ad)(e:Int->Option Bool)(f:Int->Option Bool)(a:Int):Option Bool :=
 bif decide (a<(b.length:Int))then
  iter (λg s=>PV c b a (λh i=>bif !h then   some false else   f (i64.wrap (a+1))) g s.1 s.2) AD (false,0)
 else
  e a
def Pr(a:List Ad)(b:List Ad):Option Bool :=
 iter (λc s=>PU a b (λe=>some true) c s) AD 0
abbrev Xu(b:Int)(c:Int)(e:Bool)(f:Int)(a:List Ad):Option (List Ad) :=
 bif !e then
  bif rm a.length [({ B:=b,S:=c }:Ad)].length then
   some (a++[({ B:=b,S:=c }:Ad)])
  else none
 else
  some a
abbrev QI(i:List Ad)(e:Int)(b:Int)(j:Bool->Int->(List Ad)->Option (List Ad))(g:(Bool×Int×(List Ad))->Option (List Ad))(h:Bool)(f:Int)(c:List Ad):Option (List Ad) :=
 bif decide (f<(i.length:Int))then
  (idx i f).bind λa =>
  bif bif decide (a.B>e)then(!h)else false then
   bif rm c.length [({ B:=e,S:=b }:Ad)].length then
    bif a.B==e then
     bif rm (c++[({ B:=e,S:=b }:Ad)]).length [({ B:=a.B,S:=(if b>a.S then b else a.S) }:Ad)].length then
      g (true,(i64.wrap (f+1)),((c++[({ B:=e,S:=b }:Ad)])++[({ B:=a.B,S:=(if b>a.S then b else a.S) }:Ad)]))
     else none
    else
     bif rm (c++[({ B:=e,S:=b }:Ad)]).length [a].length then
      g (true,(i64.wrap (f+1)),((c++[({ B:=e,S:=b }:Ad)])++[a]))
     else none
   else none
  else
   bif a.B==e then
    bif rm c.length [({ B:=a.B,S:=(if b>a.S then b else a.S) }:Ad)].length then
     g (true,(i64.wrap (f+1)),(c++[({ B:=a.B,S:=(if b>a.S then b else a.S) }:Ad)]))
    else none
   else
    bif rm c.length [a].length then
     g (h,(i64.wrap (f+1)),(c++[a]))
    else none
 else
  j h f c
def J2(c:List Ad)(b:Int)(a:Int):Option (List Ad) :=
 iter (λe s=>QI c b a (Xu b a) e s.1 s.2.1 s.2.2) AD ((decide (a<=0)),0,[])
abbrev QE(c:Aj)(f:Aj->Option (List Aj))(g:Int->(List Aj)->Option (List Aj))(h:(Int×(List Aj))->Option (List Aj))(a:Int)(b:List Aj):Option (List Aj) :=
 bif decide (a<(c.E.length:Int))then
  (idx c.E a).bind λi =>
  (f i).bind λe =>
  bif rm b.length e.length then
   h ((i64.wrap (a+1)),(b++e))
  else none
 else
  g a b
def Og(d:Nat)(b:Aj->Option (List Aj))(a:Aj):Option (List Aj) :=
 bif bif bif a.Op==2 then true else(a.Op==3)then true else(a.Op==4)then
  some [a]
 else
  iter (λc s=>QE a b (λf e=>some e) c s.1 s.2) AD (0,[])
def NL:Nat->Aj->Option (List Aj)
 | 0,_=>none
 | d+1,a=>Og d (NL d) a
abbrev VE(b:Am)(c:Int)(e:Int->Option Int)(f:Int->Option Int)(a:Int):Option Int :=
 (E1 b a).bind λg =>
 bif decide (g>c)then
  (idx b.Q a).bind λh =>
  f h.A7
 else
  e a
def JQ(a:Am)(b:Int)(c:Int):Option Int :=
 (FE a).bind λe =>
 bif bif bif bif e != 0 then true else(decide (b<0))then true else(decide (b>=(a.Q.length:Int)))then true else(decide (c<0))then
  some (-1)
 else
  (E1 a b).bind λf =>
  bif decide (c>f)then
   some (-1)
  else
   iter (λg s=>VE a c (λh=>some h) g s) AD b
def DY(a:Ar)(b:Int):Option Int :=
 (idx a.T (i64.wrap ((a.T.length:Int)-b))).bind λc =>
 some c
def FG(b:Int)(a:Int):Option Int :=
 bif decide (a≠0)then
  bif decide (a≠0)then
   bif decide ((Int.tmod b a)<0)then
    some (i64.wrap ((i64.wrap (Int.tdiv b a))-1))
   else
    some (i64.wrap (Int.tdiv b a))
  else none
 else none
def Ce(e:Aa)(g:Int)(b:Int)(a:Int):Option Int :=
 (CF e g).bind λi =>
 (EY b 0 i).bind λj =>
 bif !j then
  some (-1)
 else
  (idx e.A g).bind λf =>
  bif f.Kind==2 then
   (Jw e g a).bind λk =>
   bif !k then
    some (-1)
   else
    (idx e.J f.Al).bind λl =>
    (JQ l a b).bind λm =>
    some m
  else
   bif a != (-1099511627776)then
    (EY a (-1000000) 1000000).bind λn =>
    bif !n then
     some (-1)
    else
     bif b==0 then
      some 0
     else
      bif a==(-1099511627776)then
       some a
      else
       (DY f b).bind λc =>
       (FG a c).bind λh =>
       some (i64.wrap (h*c))
   else
    bif b==0 then
     some 0
    else
     bif a==(-1099511627776)then
      some a
     else
      (DY f b).bind λc =>
      (FG a c).bind λh =>
      some (i64.wrap (h*c))
def QC(a:Am)(c:Int)(e:Int):Option Bool :=
 (HW a e).bind λb =>
 bif decide (b>=0)then
  (HW a c).bind λf =>
  bif decide (f>=b)then
   (JQ a c b).bind λg =>
   some (g==e)
  else
   some false
 else
  some false
def No(c:Aa)(a:Aj)(b:Int):Option Int :=
 bif a.Op==2 then
  (idx c.A a.B).bind λe =>
  (idx c.J e.Al).bind λf =>
  (QC f b a.Z).bind λg =>
  bif g then
   some 1
  else
   some (-1)
 else
  bif a.Op==3 then
   bif b==(-1099511627776)then
    some 0
   else
    bif bif decide (a.C<=b)then(decide (b<=a.D))else false then
     some 1
    else
     some (-1)
  else
   bif a.Op==4 then
    bif b==(-1099511627776)then
     some 1
    else
     some (-1)
   else
    some (-1)
abbrev OL(f:Int)(b:List Int)(c:Aa)(e:Aj)(g:Int)(i:Int->Option Bool)(h:Int->Option Bool)(a:Int):Option Bool :=
 bif decide (a<f)then
  (idx b f).bind λj =>
  (Ce c e.B g j).bind λk =>
  (idx b a).bind λl =>
  (Ce c e.B g l).bind λm =>
  bif k==m then
   (idx b f).bind λn =>
   (No c e n).bind λo =>
   (idx b a).bind λp =>
   (No c e p).bind λq =>
   bif o != q then
    some false
   else
    h (i64.wrap (a+1))
  else
   h (i64.wrap (a+1))
 else
  i a
abbrev OK(b:List Int)(c:Aa)(e:Aj)(f:Int)(g:Int->Option Bool)(h:Int->Option Bool)(a:Int):Option Bool :=
 bif decide (a<(b.length:Int))then
  iter (λi s=>OL a b c e f (λj=>h (i64.wrap (a+1))) i s) AD 0
 else
  g a
def Oh(f:Aa)(a:Aj)(e:Int):Option Bool :=
 (idx f.A a.B).bind λb =>
 bif a.Op==2 then
  (G9 f a.B).bind λg =>
  iter (λh s=>OK g f a e (λi=>some true) h s) AD 0
 else
  bif a.Op==4 then
   some (decide (e>0))
  else
   bif e==0 then
    some (bif bif !b.Az then(!(bif decide (a.C>b.C)then(decide (a.C<=b.D))else false))else false then(!(bif decide (a.D>=b.C)then(decide (a.D<b.D))else false))else false)
   else
    (DY b e).bind λc =>
    bif !(bif decide (a.C>b.C)then(decide (a.C<=b.D))else false)then
     bif !(bif decide (a.D>=b.C)then(decide (a.D<b.D))else false)then
      some true
     else
      bif decide (c≠0)then
       some ((Int.tmod (i64.wrap (a.D+1)) c)==0)
      else none
    else
     bif decide (c≠0)then
      bif(Int.tmod a.C c)==0 then
       bif !(bif decide (a.D>=b.C)then(decide (a.D<b.D))else false)then
        some true
       else
        bif decide (c≠0)then
         some ((Int.tmod (i64.wrap (a.D+1)) c)==0)
        else none
      else
       some false
     else none
abbrev Xt(b:List Aj)(a:Int)(c:List Ad)(e:((List Ad)×Int)->Option (List Ad))(f:Int):Option (List Ad) :=
 (idx b a).bind λg =>
 (J2 c g.B f).bind λh =>
 e (h,(i64.wrap (a+1)))
abbrev QH(b:List Aj)(c:Int)(e:Aa)(f:Int->Option (List Ad))(g:Int->Option (List Ad))(a:Int):Option (List Ad) :=
 (idx b c).bind λh =>
 (Oh e h a).bind λi =>
 bif !i then
  g (i64.wrap (a+1))
 else
  f a
abbrev QG(b:List Aj)(e:Aa)(f:(List Ad)->Int->Option (List Ad))(g:((List Ad)×Int)->Option (List Ad))(c:List Ad)(a:Int):Option (List Ad) :=
 bif decide (a<(b.length:Int))then
  iter (λh s=>QH b a e (Xt b a c g) h s) AD 0
 else
  f c a
def J1(d:Nat)(a:Aa)(b:Aj):Option (List Ad) :=
 (Dr d a b).bind λc =>
 bif c != 0 then
  some []
 else
  (NL d b).bind λe =>
  iter (λf s=>QG e a (λg h=>some g) f s.1 s.2) AD ([],0)
abbrev OH(f:Int)(b:List Int)(c:Aa)(e:Int)(g:Int)(h:Int)(j:Int->Option Bool)(i:Int->Option Bool)(a:Int):Option Bool :=
 bif decide (a<f)then
  (idx b f).bind λk =>
  (Ce c e g k).bind λl =>
  (idx b a).bind λm =>
  (Ce c e g m).bind λn =>
  bif l != n then
   (idx b f).bind λo =>
   (Ce c e h o).bind λp =>
   (idx b a).bind λq =>
   (Ce c e h q).bind λr =>
   bif p==r then
    some false
   else
    i (i64.wrap (a+1))
  else
   i (i64.wrap (a+1))
 else
  j a
abbrev OG(b:List Int)(c:Aa)(e:Int)(f:Int)(g:Int)(h:Int->Option Bool)(i:Int->Option Bool)(a:Int):Option Bool :=
 bif decide (a<(b.length:Int))then
  iter (λj s=>OH a b c e f g (λk=>i (i64.wrap (a+1))) j s) AD 0
 else
  h a
abbrev OI(c:Ar)(f:Int)(g:Int)(h:Int->Int->Option Bool)(i:(Int×Int)->Option Bool)(a:Int)(b:Int):Option Bool :=
 bif bif decide (b<2)then(decide (a<=c.D))else false then
  (DY c f).bind λe =>
  bif decide (e≠0)then
   bif(Int.tmod a e) != 0 then
    some false
   else
    i ((i64.wrap (a+g)),(i64.wrap (b+1)))
  else none
 else
  h a b
def Lf(f:Aa)(g:Int)(b:Int)(c:Int):Option Bool :=
 (idx f.A g).bind λa =>
 bif bif c==0 then true else(decide (b>=c))then
  some true
 else
  bif a.Kind==2 then
   (G9 f g).bind λi =>
   iter (λj s=>OG i f g c b (λl=>some true) j s) AD 0
  else
   (DY a c).bind λe =>
   (FG a.C e).bind λh =>
   bif b==0 then
    some (bif !a.Az then(decide ((i64.wrap ((i64.wrap (h+1))*e))>a.D))else false)
   else
    iter (λk s=>OI a b e (λm n=>some true) k s.1 s.2) AD ((i64.wrap ((i64.wrap (h+1))*e)),0)
abbrev Nk(b:Aa)(c:Int)(e:Int)(f:Int->Option Int)(g:Int->Option Int)(a:Int):Option Int :=
 (Lf b c a e).bind λh =>
 bif !h then
  g (i64.wrap (a+1))
 else
  f a
def Jy(a:Aa)(b:Int)(c:Int):Option Int :=
 (CF a b).bind λe =>
 (EY c 0 e).bind λf =>
 bif !f then
  some (-1)
 else
  iter (λg s=>Nk a b c (λh=>some h) g s) AD 0
abbrev Uh(b:List Int)(c:Int)(e:Int->Option Bool)(f:Int->Option Bool)(a:Int):Option Bool :=
 bif decide (a<(b.length:Int))then
  (idx b a).bind λg =>
  bif g==c then
   some true
  else
   f (i64.wrap (a+1))
 else
  e a
def UJ(a:List Int)(b:Int):Option Bool :=
 iter (λc s=>Uh a b (λe=>some false) c s) AD 0
def Pw(a:BA)(b:Int):Option Bool :=
 bif a.Ah==b then
  some true
 else
  (UJ a.Aw b).bind λc =>
  some c
abbrev Kc(b:Aa)(f:BA)(g:(List Ad)->Int->Option (List Ad))(e:((List Ad)×Int)->Option (List Ad))(c:List Ad)(a:Int):Option (List Ad) :=
 bif decide (a<(b.A.length:Int))then
  (Pw f a).bind λh =>
  bif h then
   (CF b a).bind λi =>
   (Jy b a i).bind λj =>
   (J2 c a j).bind λk =>
   e (k,(i64.wrap (a+1)))
  else
   e (c,(i64.wrap (a+1)))
 else
  g c a
abbrev Kb(b:BA)(e:Aa)(f:(List Ad)->Int->Option (List Ad))(g:((List Ad)×Int)->Option (List Ad))(c:List Ad)(a:Int):Option (List Ad) :=
 bif decide (a<(b.Ac.length:Int))then
  (idx b.Ac a).bind λh =>
  (idx b.Ac a).bind λi =>
  (idx b.Ac a).bind λj =>
  (Jy e i.B j.S).bind λk =>
  (J2 c h.B k).bind λl =>
  g (l,(i64.wrap (a+1)))
 else
  f c a
abbrev Kd(a:BA)(b:Aa)(c:List Ad):Option (List Ad) :=
 iter (λe s=>Kb a b (λf i=>iter (λg s=>Kc b a (λh j=>some h) g s.1 s.2) AD (f,1)) e s.1 s.2) AD (c,0)
abbrev QM(b:List Ad)(e:(List Ad)->Int->Option (List Ad))(f:((List Ad)×Int)->Option (List Ad))(c:List Ad)(a:Int):Option (List Ad) :=
 bif decide (a<(b.length:Int))then
  (idx b a).bind λg =>
  (idx b a).bind λh =>
  (J2 c g.B h.S).bind λi =>
  f (i,(i64.wrap (a+1)))
 else
  e c a
def L6(d:Nat)(b:Aa)(a:BA):Option (List Ad) :=
 (EZ d b a).bind λe =>
 bif e != 0 then
  some []
 else
  (J1 d b a.Bc).bind λc =>
  bif a.Kind==3 then
   (J1 d b a.U).bind λf =>
   iter (λg s=>QM f (λh i=>Kd a b h) g s.1 s.2) AD (c,0)
  else
   Kd a b c
def Li(d:Nat)(a:Aa)(b:BA)(c:List Ad):Option Bool :=
 (EZ d a b).bind λe =>
 bif e==0 then
  (Jz a c).bind λf =>
  bif f==0 then
   (L6 d a b).bind λg =>
   (Pr g c).bind λh =>
   some h
  else
   some false
 else
  some false
abbrev Ke(b:AY)(d:Nat)(c:Aa)(e:List Ad)(f:Int->Option Int)(g:Int->Option Int)(a:Int):Option Int :=
 bif decide (a<(b.Bn.length:Int))then
  (idx b.Bn a).bind λh =>
  (Li d c h e).bind λi =>
  bif !i then
   some 23
  else
   g (i64.wrap (a+1))
 else
  f a
def L8(d:Nat)(a:Aa)(b:AY)(c:List Ad):Option Int :=
 (J4 d a b).bind λe =>
 bif e != 0 then
  some e
 else
  (Jz a c).bind λf =>
  bif f != 0 then
   some f
  else
   iter (λg s=>Ke b d a c (λh=>some 0) g s) AD 0
def SO(b:Int)(a:List Int):Option Int :=
 bif b==7 then
  (idx a 0).bind λh =>
  some (i64.wrap (0-h))
 else
  bif b==5 then
   (idx a 0).bind λc =>
   (idx a 1).bind λe =>
   some (if e<c then e else c)
  else
   bif b==6 then
    (idx a 0).bind λf =>
    (idx a 1).bind λg =>
    some (if g>f then g else f)
   else
    some 1
abbrev Sf(c:Aj)(f:Aa->Aj->(List Int)->Option Int)(g:Aa)(h:List Int)(i:Int->(List Int)->Option Int)(j:(Int×(List Int))->Option Int)(a:Int)(b:List Int):Option Int :=
 bif decide (a<(c.E.length:Int))then
  (idx c.E a).bind λk =>
  (f g k h).bind λe =>
  bif rm b.length [e].length then
   j ((i64.wrap (a+1)),(b++[e]))
  else none
 else
  i a b
def Pv(d:Nat)(e:Aa->Aj->(List Int)->Option Int)(b:Aa)(a:Aj)(c:List Int):Option Int :=
 bif bif bif a.Op==2 then true else(a.Op==3)then true else(a.Op==4)then
  (idx c a.B).bind λf =>
  (No b a f).bind λg =>
  some g
 else
  iter (λh s=>Sf a e b c (λk i=>(SO a.Op i).bind λj=>some j) h s.1 s.2) AD (0,[])
def Pu:Nat->Aa->Aj->(List Int)->Option Int
 | 0,_,_,_=>none
 | d+1,a,b,c=>Pv d (Pu d) a b c
def Np(d:Nat)(a:Aa)(b:Aj)(c:List Int):Option Int :=
 (Dr d a b).bind λe =>
 bif e != 0 then
  some 0
 else
  (KL a c).bind λf =>
  bif f != 0 then
   some 0
  else
   (Pu d a b c).bind λg =>
   some g
def QN(a:Ii):Option Int :=
 bif bif bif bif bif bif decide (a.Of<1)then true else(decide (a.Of>1000))then true else(decide (a.Bl<1))then true else(decide (a.Bl>a.Of))then true else(decide (a.Bm<0))then true else(decide (a.Bm>1099511627776))then
  some 2
 else
  some 0
abbrev Sk(c:Int->Int->Option Int)(e:(Int×Int)->Option Int)(a:Int)(b:Int):Option Int :=
 bif decide (b<3)then
  e ((u64.wrap (((BitVec.ofInt u64.bits (u64.wrap ((u64.wrap (a*6364136223846793005))+1442695040888963407)) ^^^ BitVec.ofInt u64.bits (Int.fdiv (u64.wrap ((u64.wrap (a*6364136223846793005))+1442695040888963407)) (2 ^ (min (29:Int).toNat u64.bits)))).toNat:Nat):Int)),(i64.wrap (b+1)))
 else
  c a b
def Px(a:Int)(b:Int):Option Int :=
 iter (λc s=>Sk (λe f=>some (i64.wrap (Int.fdiv e (2 ^ (min (32:Int).toNat u64.bits))))) c s.1 s.2) AD ((u64.wrap ((u64.wrap ((u64.wrap ((u64.wrap a)*2654435761))+(u64.wrap ((u64.wrap b)*40503))))+97)),0)
def QO(a:Ii)(b:Int):Option Bool :=
 (QN a).bind λc =>
 bif bif bif c==0 then(decide (b>=1))else false then(decide (b<=1048575))else false then
  (Px a.Bm b).bind λe =>
  bif decide (a.Of≠0)then
   some (decide ((Int.tmod e a.Of)<a.Bl))
  else none
 else
  some false
abbrev IW(b:BW)(d:Nat)(f:AY)(h:Int->(List Int)->Option (List Int))(e:(Int×(List Int))->Option (List Int))(a:Int)(c:List Int):Option (List Int) :=
 bif decide (a<(b.G.length:Int))then
  (idx b.G a).bind λi =>
  (Np d b.Ao f.Bd i).bind λj =>
  bif j==1 then
   (idx b.G a).bind λk =>
   (idx k 0).bind λl =>
   (QO f.Be l).bind λm =>
   bif m then
    (idx b.G a).bind λn =>
    (idx n 0).bind λg =>
    bif rm c.length [g].length then
     e ((i64.wrap (a+1)),(c++[g]))
    else none
   else
    e ((i64.wrap (a+1)),c)
  else
   e ((i64.wrap (a+1)),c)
 else
  h a c
abbrev LI(a:BW)(d:Nat)(b:AY):Option (List Int) :=
 iter (λc s=>IW a d b (λf e=>some e) c s.1 s.2) AD (0,[])
def Kh(d:Nat)(a:BW)(b:AY):Option (List Int) :=
 (J0 a).bind λc =>
 bif !c then
  some []
 else
  (J4 d a.Ao b).bind λe =>
  bif e != 0 then
   some []
  else
   LI a d b
def NN(a:Int)(b:Int):Option Bool :=
 some (bif bif bif decide (a>=0)then(decide (a<1152921504606846976))else false then(decide (b>=0))else false then(decide (b<1048576))else false)
abbrev Kf(c:Int->Int->Option Int)(e:(Int×Int)->Option Int)(a:Int)(b:Int):Option Int :=
 bif decide (b<3)then
  e ((u64.wrap ((u64.wrap (((BitVec.ofInt u64.bits a ^^^ BitVec.ofInt u64.bits (Int.fdiv a (2 ^ (min (31:Int).toNat u64.bits)))).toNat:Nat):Int))*13787848793156543929)),(i64.wrap (b+1)))
 else
  c a b
def L9(a:Int)(b:Int)(c:Int):Option Int :=
 bif bif bif bif bif bif decide (a<0)then true else(decide (a>=1152921504606846976))then true else(decide (b<0))then true else(decide (b>7))then true else(decide (c<0))then true else(decide (c>1023))then
  some 0
 else
  iter (λe s=>Kf (λf g=>some (i64.wrap (Int.fdiv f (2 ^ (min (54:Int).toNat u64.bits))))) e s.1 s.2) AD ((u64.wrap ((u64.wrap ((u64.wrap a)+(u64.wrap ((u64.wrap b)*11400714819323198485))))+(u64.wrap ((u64.wrap c)*14029467366897019727)))),0)
abbrev Mq(e:Int)(f:Int->Int->Int->Option Int)(g:(Int×Int×Int)->Option Int)(c:Int)(b:Int)(a:Int):Option Int :=
 bif decide (a<=7)then
  (L9 e a b).bind λh =>
  g (b,(i64.wrap (((BitVec.ofInt i64.bits c ^^^ BitVec.ofInt i64.bits h).toNat:Nat):Int)),(i64.wrap (a+1)))
 else
  f c b a
def ON(b:Int)(a:Int):Option Int :=
 (NN b a).bind λc =>
 bif !c then
  some (-1)
 else
  iter (λe s=>Mq b (λf g h=>some (i64.wrap ((i64.wrap (f*1024))+g))) e s.1 s.2.1 s.2.2) AD ((i64.wrap (Int.tdiv a 1024)),(Int.tmod a 1024),0)
abbrev Kg(b:List Ad)(f:List Int)(g:BW)(h:Int->(List Int)->Option (As×Int))(i:(Int×(List Int))->Option (As×Int))(a:Int)(c:List Int):Option (As×Int) :=
 bif decide (a<(b.length:Int))then
  (idx b a).bind λj =>
  (idx b a).bind λk =>
  (idx b a).bind λl =>
  (idx f l.B).bind λm =>
  (Ce g.Ao j.B k.S m).bind λe =>
  bif rm c.length [e].length then
   i ((i64.wrap (a+1)),(c++[e]))
  else none
 else
  h a c
abbrev Nu(b:List Int)(c:BW)(f:Int)(g:List Ad)(h:Int->(List (List Int))->Option (As×Int))(i:(Int×(List (List Int)))->Option (As×Int))(a:Int)(e:List (List Int)):Option (As×Int) :=
 bif decide (a<(b.length:Int))then
  (idx b a).bind λj =>
  (Jm c j).bind λk =>
  (idx c.G k).bind λl =>
  (idx b a).bind λm =>
  (ON f m).bind λn =>
  iter (λo s=>Kg g l c (λr p=>(M1 e p).bind λq=>i ((i64.wrap (a+1)),q)) o s.1 s.2) AD (0,[n])
 else
  h a e
def LA(d:Nat)(a:BW)(c:AY)(b:List Ad)(e:Int):Option (As×Int) :=
 (J0 a).bind λg =>
 bif !g then
  some (({}:As),13)
 else
  (L8 d a.Ao c b).bind λf =>
  bif f != 0 then
   some (({}:As),f)
  else
   bif bif decide (e<0)then true else(decide (e>=1152921504606846976))then
    some (({}:As),2)
   else
    bif rm 0 b.length then
     (Kh d a c).bind λh =>
     iter (λi s=>Nu h a e b (λk j=>some (({ Af:=c.Af,Ag:=a.Ag,X:=b,G:=j }:As),0)) i s.1 s.2) AD (0,[])
    else none
abbrev RZ(b:List Int)(c:List Int)(e:Int->Option Bool)(f:Int->Option Bool)(a:Int):Option Bool :=
 bif decide (a<(b.length:Int))then
  (idx b a).bind λg =>
  (idx c a).bind λh =>
  bif g != h then
   some false
  else
   f (i64.wrap (a+1))
 else
  e a
def HQ(a:List Int)(b:List Int):Option Bool :=
 bif(a.length:Int) != (b.length:Int)then
  some false
 else
  iter (λc s=>RZ a b (λe=>some true) c s) AD 0
abbrev Nl(b:List Ad)(f:List Ad)(g:Int->Option Bool)(h:Int->Option Bool)(a:Int):Option Bool :=
 bif decide (a<(b.length:Int))then
  (idx b a).bind λc =>
  (idx f a).bind λe =>
  bif !((c.B==e.B)&&((c.S==e.S)&&true))then
   some false
  else
   h (i64.wrap (a+1))
 else
  g a
def LH(a:List Ad)(b:List Ad):Option Bool :=
 bif(a.length:Int) != (b.length:Int)then
  some false
 else
  iter (λc s=>Nl a b (λe=>some true) c s) AD 0
def Ki(a:Aq)(b:Aq):Option Bool :=
 (HQ a.Q b.Q).bind λc =>
 bif bif bif bif bif bif c then(a.Y==b.Y)else false then(a.A4==b.A4)else false then(a.A5==b.A5)else false then(a.A6==b.A6)else false then(a.A8==b.A8)else false then
  (HQ a.G b.G).bind λe =>
  some e
 else
  some false
abbrev Sm(b:D5)(c:D5)(e:Int->Option Bool)(f:Int->Option Bool)(a:Int):Option Bool :=
 bif decide (a<(b.Av.length:Int))then
  (idx b.Av a).bind λg =>
  (idx c.Av a).bind λh =>
  (Ki g h).bind λi =>
  bif !i then
   some false
  else
   f (i64.wrap (a+1))
 else
  e a
def Py(a:D5)(b:D5):Option Bool :=
 (LH a.Ac b.Ac).bind λc =>
 bif bif bif !c then true else(a.Ah != b.Ah)then true else((a.Av.length:Int) != (b.Av.length:Int))then
  some false
 else
  iter (λe s=>Sm a b (λf=>some true) e s) AD 0
abbrev Sj(b:List AI)(f:List AI)(g:Int->Option Bool)(h:Int->Option Bool)(a:Int):Option Bool :=
 bif decide (a<(b.length:Int))then
  (idx b a).bind λc =>
  (idx f a).bind λe =>
  bif !((c.L==e.L)&&((c.N==e.N)&&true))then
   some false
  else
   h (i64.wrap (a+1))
 else
  g a
def SP(a:List AI)(b:List AI):Option Bool :=
 bif(a.length:Int) != (b.length:Int)then
  some false
 else
  iter (λc s=>Sj a b (λe=>some true) c s) AD 0
def Pz(a:Cf)(b:Cf):Option Bool :=
 bif a.Ah==b.Ah then
  (HQ a.Aw b.Aw).bind λc =>
  bif c then
   (SP a.A3 b.A3).bind λe =>
   some (bif bif bif bif e then((a.A1.L==b.A1.L)&&((a.A1.N==b.A1.N)&&true))else false then((a.A2.L==b.A2.L)&&((a.A2.N==b.A2.N)&&true))else false then(a.Y==b.Y)else false then(a.Bb==b.Bb)else false)
  else
   some false
 else
  some false
abbrev Sn(e:List Ba)(f:List Ba)(g:Int->Option Bool)(h:Int->Option Bool)(c:Int):Option Bool :=
 bif decide (c<(e.length:Int))then
  (idx e c).bind λa =>
  (idx f c).bind λb =>
  bif !((a.Bx==b.Bx)&&((a.By==b.By)&&((a.Bz==b.Bz)&&((a.B0==b.B0)&&(((a.Bs.L==b.Bs.L)&&((a.Bs.N==b.Bs.N)&&true))&&true)))))then
   some false
  else
   h (i64.wrap (c+1))
 else
  g c
def SR(a:List Ba)(b:List Ba):Option Bool :=
 bif(a.length:Int) != (b.length:Int)then
  some false
 else
  iter (λc s=>Sn a b (λe=>some true) c s) AD 0
abbrev So(b:List D4)(f:List D4)(g:Int->Option Bool)(h:Int->Option Bool)(a:Int):Option Bool :=
 bif decide (a<(b.length:Int))then
  (idx b a).bind λc =>
  (idx f a).bind λe =>
  bif !((c.C==e.C)&&((c.Y==e.Y)&&true))then
   some false
  else
   h (i64.wrap (a+1))
 else
  g a
def SS(a:List D4)(b:List D4):Option Bool :=
 bif(a.length:Int) != (b.length:Int)then
  some false
 else
  iter (λc s=>So a b (λe=>some true) c s) AD 0
def GY(a:AA)(b:AA):Option Bool :=
 bif bif a.Kind==b.Kind then((a.Number.L==b.Number.L)&&((a.Number.N==b.Number.N)&&true))else false then
  (Py a.Table b.Table).bind λc =>
  bif c then
   (Pz a.Model b.Model).bind λe =>
   bif e then
    (SR a.Curve b.Curve).bind λf =>
    bif f then
     (SS a.Hist b.Hist).bind λg =>
     bif bif g then((a.Box.Y==b.Box.Y)&&((a.Box.Bf==b.Box.Bf)&&((a.Box.Bg==b.Box.Bg)&&((a.Box.Bh==b.Box.Bh)&&((a.Box.Bi==b.Box.Bi)&&((a.Box.Bj==b.Box.Bj)&&true))))))else false then
      (HQ a.Lineage b.Lineage).bind λh =>
      some h
     else
      some false
    else
     some false
   else
    some false
  else
   some false
 else
  some false
def Qo(a:List Int):Option Ab :=
 bif decide (0<=(0:Int)/\0<=(if 400<(a.length:Int)then 400 else(a.length:Int))/\(if 400<(a.length:Int)then 400 else(a.length:Int))<=(a.length:Int))then
  some ({ Ak:=(LZ a 0 (if 400<(a.length:Int)then 400 else(a.length:Int))) }:Ab)
 else none
abbrev Jj(a:Ab)(b:Int):Option (Int×Ab) :=
 (idx a.Ak (i64.wrap ((i64.wrap (a.Ai+1))-1))).bind λc =>
 bif decide (b>256)then
  bif decide ((i64.wrap (a.Ai+1))<(a.Ak.length:Int))then
   (idx a.Ak (i64.wrap (a.Ai+1))).bind λe =>
   bif decide (b≠0)then
    some ((Int.tmod (i64.wrap ((i64.wrap ((i64.wrap c)*256))+(i64.wrap e))) b),({ Ak:=a.Ak,Ai:=(i64.wrap ((i64.wrap (a.Ai+1))+1)) }:Ab))
   else none
  else
   bif decide (b≠0)then
    some ((Int.tmod (i64.wrap c) b),({ Ak:=a.Ak,Ai:=(i64.wrap (a.Ai+1)) }:Ab))
   else none
 else
  bif decide (b≠0)then
   some ((Int.tmod (i64.wrap c) b),({ Ak:=a.Ak,Ai:=(i64.wrap (a.Ai+1)) }:Ab))
  else none
def A8(a:Ab)(b:Int):Option (Int×Ab) :=
 bif decide (b<1)then
  some (0,a)
 else
  bif decide (a.Ai>=(a.Ak.length:Int))then
   some (0,a)
  else
   Jj a b
def BL(c:Ab)(a:Int):Option (Bool×Ab) :=
 (A8 c a).bind λb =>
 some ((b.1==(i64.wrap (a-1))),b.2)
def AR(c:Ab)(a:Int)(e:Int):Option (Int×Ab) :=
 (A8 c (i64.wrap ((i64.wrap (e-a))+1))).bind λb =>
 some ((i64.wrap (a+b.1)),b.2)
abbrev Jh(e:Int)(f:Int->(List DG)->Option (Am×Ab))(g:(Int×(List DG))->Option (Am×Ab))(b:Int)(a:List DG):Option (Am×Ab) :=
 bif decide (b>0)then
  (Ew (a.length:Int)).bind λc =>
  bif decide (({ data:=#[108] }:ByteArray).size+c.size<=9223372036854775807)then
   bif rm a.length ([({ H:=(({ data:=#[108] }:ByteArray)++c),A7:=(i64.wrap (1+e)) }:DG)]).length then
    g ((i64.wrap (b-1)),(a++[({ H:=(({ data:=#[108] }:ByteArray)++c),A7:=(i64.wrap (1+e)) }:DG)]))
   else none
  else none
 else
  f b a
abbrev G2(f:Int×Ab)(g:Int->Ab->(List DG)->Option (Am×Ab))(h:(Int×Ab×(List DG))->Option (Am×Ab))(a:Int)(b:Ab)(c:List DG):Option (Am×Ab) :=
 bif decide (a<f.1)then
  (AR b 1 2).bind λe =>
  iter (λi s=>Jh a (λk j=>h ((i64.wrap (a+1)),e.2,j)) i s.1 s.2) AD (e.1,c)
 else
  g a b c
abbrev Ji(b:Int×Ab)(c:ByteArray)(e:List DG):Option (Am×Ab) :=
 (BL b.2 2).bind λa =>
 bif a.1 then
  some (({ H:=c,Q:=e }:Am),a.2)
 else
  iter (λf s=>G2 b (λi g h=>some (({ H:=c,Q:=h }:Am),g)) f s.1 s.2.1 s.2.2) AD (0,a.2,e)
abbrev G1(e:Int×Ab)(f:Int->(List DG)->Option (Am×Ab))(g:(Int×(List DG))->Option (Am×Ab))(a:Int)(b:List DG):Option (Am×Ab) :=
 bif decide (a<e.1)then
  (Ew a).bind λc =>
  bif decide (({ data:=#[107] }:ByteArray).size+c.size<=9223372036854775807)then
   bif rm b.length ([({ H:=(({ data:=#[107] }:ByteArray)++c) }:DG)]).length then
    g ((i64.wrap (a+1)),(b++[({ H:=(({ data:=#[107] }:ByteArray)++c) }:DG)]))
   else none
  else none
 else
  f a b
def Fs(b:Ab)(c:ByteArray):Option (Am×Ab) :=
 (AR b 1 3).bind λa =>
 iter (λe s=>G1 a (λg f=>Ji a c f) e s.1 s.2) AD (0,[({ H:={ data:=#[116,111,112] },A7:=(-1) }:DG)])
def D8(f:Ab)(g:ByteArray):Option (Ar×Ab) :=
 (AR f (-4) 2).bind λa =>
 (A8 a.2 4).bind λb =>
 (idx ([[1],[1,5],[1,5,20],[1,2,4,12]]) b.1).bind λh =>
 (BL b.2 3).bind λc =>
 (A8 c.2 45).bind λe =>
 some (({ H:=g,Kind:=3,C:=a.1,D:=(i64.wrap (a.1+e.1)),T:=h,Az:=c.1 }:Ar),e.2)
def F7(g:Int->Ab->(List Ar)->Option (Aa×Ab))(h:(Int×Ab×(List Ar))->Option (Aa×Ab))(b:Int)(e:Ab)(a:List Ar):Option (Aa×Ab) :=
 bif decide (b>0)then
  (Ew (a.length:Int)).bind λf =>
  bif decide (({ data:=#[109] }:ByteArray).size+f.size<=9223372036854775807)then
   (D8 e (({ data:=#[109] }:ByteArray)++f)).bind λc =>
   bif rm a.length [c.1].length then
    h ((i64.wrap (b-1)),c.2,(a++[c.1]))
   else none
  else none
 else
  g b e a
def Lr(g:Int->Ab->(List Ar)->Option (Aa×Ab))(h:(Int×Ab×(List Ar))->Option (Aa×Ab))(b:Int)(e:Ab)(a:List Ar):Option (Aa×Ab) :=
 bif decide (b>0)then
  (Ew (a.length:Int)).bind λf =>
  bif decide (({ data:=#[109] }:ByteArray).size+f.size<=9223372036854775807)then
   (D8 e (({ data:=#[109] }:ByteArray)++f)).bind λc =>
   bif rm a.length [c.1].length then
    h ((i64.wrap (b-1)),c.2,(a++[c.1]))
   else none
  else none
 else
  g b e a
def F6(f:Ab):Option (Aa×Ab) :=
 (Fs f ({ data:=#[111,110,101] }:ByteArray)).bind λb =>
 (Fs b.2 ({ data:=#[116,119,111] }:ByteArray)).bind λc =>
 (BL c.2 2).bind λe =>
 bif e.1 then
  bif rm ([({ H:={ data:=#[119,104,111] },Kind:=1 }:Ar),({ H:={ data:=#[115,101,120] },Kind:=2 }:Ar)]).length ([({ H:={ data:=#[106,111,98] },Kind:=2,Al:=1 }:Ar)]).length then
   (AR e.2 1 3).bind λa =>
   iter (λg s=>F7 (λm h i=>some (({ J:=[b.1,c.1],A:=i }:Aa),h)) g s.1 s.2.1 s.2.2) AD (a.1,a.2,([({ H:={ data:=#[119,104,111] },Kind:=1 }:Ar),({ H:={ data:=#[115,101,120] },Kind:=2 }:Ar)]++[({ H:={ data:=#[106,111,98] },Kind:=2,Al:=1 }:Ar)]))
  else none
 else
  (AR e.2 1 3).bind λa =>
  iter (λj s=>Lr (λn k l=>some (({ J:=[b.1,c.1],A:=l }:Aa),k)) j s.1 s.2.1 s.2.2) AD (a.1,a.2,[({ H:={ data:=#[119,104,111] },Kind:=1 }:Ar),({ H:={ data:=#[115,101,120] },Kind:=2 }:Ar)])
def Gd(c:Ab)(f:Aa)(g:Int):Option (Int×Ab) :=
 (idx f.A g).bind λa =>
 bif a.Kind==1 then
  (AR c 1 60).bind λh =>
  some (h.1,h.2)
 else
  bif a.Kind==2 then
   (G9 f g).bind λi =>
   (A8 c (i.length:Int)).bind λj =>
   (idx i j.1).bind λk =>
   some (k,j.2)
  else
   bif a.Az then
    (BL c 4).bind λe =>
    bif e.1 then
     some ((-1099511627776),e.2)
    else
     (AR e.2 a.C a.D).bind λb =>
     some (b.1,b.2)
   else
    (AR c a.C a.D).bind λb =>
    some (b.1,b.2)
def Hp(e:Aa)(g:Int->Ab->(List Int)->Option ((List Int)×Ab))(h:(Int×Ab×(List Int))->Option ((List Int)×Ab))(a:Int)(f:Ab)(b:List Int):Option ((List Int)×Ab) :=
 bif decide (a<(e.A.length:Int))then
  (Gd f e a).bind λc =>
  bif rm b.length [c.1].length then
   h ((i64.wrap (a+1)),c.2,(b++[c.1]))
  else none
 else
  g a f b
def H4(a:Ab)(b:Aa):Option ((List Int)×Ab) :=
 iter (λc s=>Hp b (λg e f=>some (f,e)) c s.1 s.2.1 s.2.2) AD (0,a,[])
abbrev H5(f:Aa×Ab)(g:Int->Ab->(List (List Int))->Option (BW×Ab))(h:(Int×Ab×(List (List Int)))->Option (BW×Ab))(a:Int)(b:Ab)(c:List (List Int)):Option (BW×Ab) :=
 bif decide (a>0)then
  (H4 b f.1).bind λe =>
  (M1 c e.1).bind λi =>
  h ((i64.wrap (a-1)),e.2,i)
 else
  g a b c
def F9(c:Ab)(e:Int):Option (BW×Ab) :=
 (F6 c).bind λa =>
 (A8 a.2 (i64.wrap (e+1))).bind λb =>
 iter (λf s=>H5 a (λi g h=>some (({ Ao:=a.1,G:=h }:BW),g)) f s.1 s.2.1 s.2.2) AD (b.1,b.2,[])
abbrev aU(b:Int)(a:List Ad):Option (AY×(List Ad)) :=
 some (({ Af:={ data:=#[97,108,108,95,114,111,119,115] },Bu:={ data:=#[115,114,99] },Bd:={ Op:=1 },Be:={ Bl:=1,Of:=1 },Bn:=[({ H:={ data:=#[113] },Kind:=1,Bc:={ Op:=1 },Ac:=[({ B:=1 }:Ad)],Ah:=(-1) }:BA)] }:AY),a)
abbrev N9(c:Aa)(f:Int->(List Ad)->Option (AY×(List Ad)))(g:(Int×(List Ad))->Option (AY×(List Ad)))(a:Int)(b:List Ad):Option (AY×(List Ad)) :=
 bif decide (a<(c.A.length:Int))then
  (CF c a).bind λe =>
  bif rm b.length [({ B:=a,S:=e }:Ad)].length then
   g ((i64.wrap (a+1)),(b++[({ B:=a,S:=e }:Ad)]))
  else none
 else
  f a b
def Qm(a:Aa):Option (AY×(List Ad)) :=
 iter (λb s=>N9 a aU b s.1 s.2) AD (1,[])
def F8(e:Ab):Option (Int×Ab) :=
 (A8 e 60000).bind λa =>
 (A8 a.2 60000).bind λb =>
 (A8 b.2 7).bind λc =>
 some ((i64.wrap ((i64.wrap (a.1*b.1))+c.1)),c.2)
def Ge(d:Nat)(e:Ab)(f:Int):Option (BW×As×Ab) :=
 (F9 e f).bind λa =>
 (Qm a.1.Ao).bind λb =>
 (F8 a.2).bind λc =>
 (LA d a.1 b.1 b.2 c.1).bind λg =>
 some (a.1,g.1,c.2)
abbrev Dn(c:Aa)(f:Int)(g:Int->(List Int)->Option (List Int))(e:(Int×(List Int))->Option (List Int))(a:Int)(b:List Int):Option (List Int) :=
 bif decide (a<(c.A.length:Int))then
  (idx c.A a).bind λh =>
  bif h.Kind==f then
   bif rm b.length [a].length then
    e ((i64.wrap (a+1)),(b++[a]))
   else none
  else
   e ((i64.wrap (a+1)),b)
 else
  g a b
def Cm(a:Aa)(b:Int):Option (List Int) :=
 iter (λc s=>Dn a b (λf e=>some e) c s.1 s.2) AD (0,[])
def Bi(c:Ab)(e:Aa):Option (Int×Ab) :=
 (Cm e 3).bind λa =>
 (A8 c (a.length:Int)).bind λb =>
 (idx a b.1).bind λf =>
 some (f,b.2)
abbrev MN(a:List Int)(c:Int×Ab)(i:Aa)(j:Int->Ab->(List Ad)->Option ((List Ad)×Ab))(k:(Int×Ab×(List Ad))->Option ((List Ad)×Ab))(b:Int)(g:Ab)(e:List Ad):Option ((List Ad)×Ab) :=
 bif decide (b<((LZ a c.1 (a.length:Int)).length:Int))then
  (idx (LZ a c.1 (a.length:Int)) b).bind λh =>
  (idx (LZ a c.1 (a.length:Int)) b).bind λl =>
  (CF i l).bind λm =>
  (A8 g (i64.wrap (m+1))).bind λf =>
  bif rm e.length [({ B:=h,S:=f.1 }:Ad)].length then
   k ((i64.wrap (b+1)),f.2,(e++[({ B:=h,S:=f.1 }:Ad)]))
  else none
 else
  j b g e
abbrev EJ(b:List Int)(h:Aa)(i:Int->Ab->(List Ad)->Option ((List Ad)×Ab))(j:(Int×Ab×(List Ad))->Option ((List Ad)×Ab))(a:Int)(f:Ab)(c:List Ad):Option ((List Ad)×Ab) :=
 bif decide (a<(b.length:Int))then
  (idx b a).bind λg =>
  (idx b a).bind λk =>
  (CF h k).bind λl =>
  (A8 f (i64.wrap (l+1))).bind λe =>
  bif rm c.length [({ B:=g,S:=e.1 }:Ad)].length then
   j ((i64.wrap (a+1)),e.2,(c++[({ B:=g,S:=e.1 }:Ad)]))
  else none
 else
  i a f c
def Ee(f:Ab)(c:Aa):Option ((List Ad)×Ab) :=
 (Cm c 2).bind λa =>
 (BL f 2).bind λe =>
 bif e.1 then
  (A8 e.2 (a.length:Int)).bind λb =>
  bif decide (0<=(b.1:Int)/\b.1<=(a.length:Int)/\(a.length:Int)<=(a.length:Int))then
   iter (λg s=>MN a b c (λm h i=>some (i,h)) g s.1 s.2.1 s.2.2) AD (0,b.2,[])
  else none
 else
  iter (λj s=>EJ a c (λn k l=>some (l,k)) j s.1 s.2.1 s.2.2) AD (0,e.2,[])
def Ga(c:Ab)(e:Aa):Option (Int×Ab) :=
 (Cm e 2).bind λa =>
 (A8 c (a.length:Int)).bind λb =>
 (idx a b.1).bind λf =>
 some (f,b.2)
abbrev EI(a:Aa)(k:Ab):Option (Aj×Ab) :=
 (A8 k 5).bind λb =>
 bif b.1==1 then
  (Ga b.2 a).bind λi =>
  (idx a.A i.1).bind λl =>
  (idx a.J l.Al).bind λm =>
  (A8 i.2 (m.Q.length:Int)).bind λj =>
  some (({ Op:=2,B:=i.1,Z:=j.1 }:Aj),j.2)
 else
  bif b.1==2 then
   (Bi b.2 a).bind λc =>
   (idx a.A c.1).bind λf =>
   (AR c.2 (-3) 40).bind λe =>
   (A8 e.2 30).bind λg =>
   some (({ Op:=3,B:=c.1,C:=(i64.wrap (f.C+e.1)),D:=(i64.wrap ((i64.wrap (f.C+e.1))+g.1)) }:Aj),g.2)
  else
   bif b.1==3 then
    (Bi b.2 a).bind λc =>
    (idx a.A c.1).bind λf =>
    (AR c.2 (-3) 40).bind λe =>
    (A8 e.2 30).bind λg =>
    some (({ Op:=3,B:=c.1,C:=(i64.wrap (f.C+e.1)),D:=(i64.wrap ((i64.wrap (f.C+e.1))+g.1)) }:Aj),g.2)
   else
    bif b.1==4 then
     (Bi b.2 a).bind λh =>
     (idx a.A h.1).bind λn =>
     bif n.Az then
      some (({ Op:=4,B:=h.1 }:Aj),h.2)
     else
      some (({ Op:=1 }:Aj),h.2)
    else
     some (({ Op:=1 }:Aj),b.2)
def Df(d:Nat)(e:Ab->Aa->Int->Option (Aj×Ab))(f:Ab)(a:Aa)(c:Int):Option (Aj×Ab) :=
 bif decide (c>0)then
  (A8 f 5).bind λb =>
  bif b.1==2 then
   (e b.2 a (i64.wrap (c-1))).bind λg =>
   some (({ Op:=7,E:=[g.1] }:Aj),g.2)
  else
   bif b.1==3 then
    (e b.2 a (i64.wrap (c-1))).bind λh =>
    (e h.2 a (i64.wrap (c-1))).bind λi =>
    some (({ Op:=5,E:=[h.1,i.1] }:Aj),i.2)
   else
    bif b.1==4 then
     (e b.2 a (i64.wrap (c-1))).bind λj =>
     (e j.2 a (i64.wrap (c-1))).bind λk =>
     some (({ Op:=6,E:=[j.1,k.1] }:Aj),k.2)
    else
     EI a b.2
 else
  EI a f
def AP:Nat->Ab->Aa->Int->Option (Aj×Ab)
 | 0,_,_,_=>none
 | d+1,a,b,c=>Df d (AP d) a b c
abbrev FT(e:List Int)(i:Int)(j:Int->Ab->(List Int)->Option ((List Int)×Ab))(f:(Int×Ab×(List Int))->Option ((List Int)×Ab))(a:Int)(g:Ab)(b:List Int):Option ((List Int)×Ab) :=
 bif decide (a<(e.length:Int))then
  (idx e a).bind λk =>
  bif k != i then
   bif(b.length:Int)==0 then
    (idx e a).bind λc =>
    bif rm b.length [c].length then
     f ((i64.wrap (a+1)),g,(b++[c]))
    else none
   else
    (BL g 2).bind λh =>
    bif h.1 then
     (idx e a).bind λc =>
     bif rm b.length [c].length then
      f ((i64.wrap (a+1)),h.2,(b++[c]))
     else none
    else
     f ((i64.wrap (a+1)),h.2,b)
  else
   f ((i64.wrap (a+1)),g,b)
 else
  j a g b
def Gb(a:Ab)(b:Aa)(c:Int):Option ((List Int)×Ab) :=
 (Cm b 3).bind λe =>
 iter (λf s=>FT e c (λi g h=>some (h,g)) f s.1 s.2.1 s.2.2) AD (0,a,[])
abbrev DR(e:List ByteArray)(d:Nat)(b:Aa)(l:Ab):Option (Ap×Ab) :=
 (A8 l 6).bind λa =>
 bif a.1==1 then
  (AR a.2 (-9) 30).bind λf =>
  some (({ Op:=1,L:=f.1 }:Ap),f.2)
 else
  bif a.1==2 then
   bif decide ((e.length:Int)>0)then
    (A8 a.2 (e.length:Int)).bind λg =>
    (idx e g.1).bind λm =>
    some (({ Op:=2,H:=m }:Ap),g.2)
   else
    (AP d a.2 b 2).bind λc =>
    some (({ Op:=3,V:=c.1 }:Ap),c.2)
  else
   bif a.1==3 then
    (Bi a.2 b).bind λh =>
    (AP d h.2 b 1).bind λi =>
    some (({ Op:=4,B:=h.1,V:=i.1 }:Ap),i.2)
   else
    bif a.1==4 then
     (Bi a.2 b).bind λj =>
     (AP d j.2 b 0).bind λk =>
     some (({ Op:=5,B:=j.1,V:=k.1 }:Ap),k.2)
    else
     (AP d a.2 b 2).bind λc =>
     some (({ Op:=3,V:=c.1 }:Ap),c.2)
def Ej(d:Nat)(f:Ab->Aa->(List ByteArray)->Int->Option (Ap×Ab))(g:Ab)(a:Aa)(b:List ByteArray)(c:Int):Option (Ap×Ab) :=
 bif decide (c>0)then
  (BL g 2).bind λe =>
  bif e.1 then
   (AR e.2 6 9).bind λh =>
   (f h.2 a b (i64.wrap (c-1))).bind λi =>
   (f i.2 a b (i64.wrap (c-1))).bind λj =>
   some (({ Op:=h.1,E:=[i.1,j.1] }:Ap),j.2)
  else
   DR b d a e.2
 else
  DR b d a g
def Cl:Nat->Ab->Aa->(List ByteArray)->Int->Option (Ap×Ab)
 | 0,_,_,_,_=>none
 | d+1,a,b,c,e=>Ej d (Cl d) a b c e
def GM(d:Nat)(r:Ab)(a:Aa)(j:List ByteArray):Option (Ap×Ab) :=
 (Bi r a).bind λc =>
 (A8 c.2 8).bind λb =>
 bif b.1==1 then
  (Ee b.2 a).bind λf =>
  (AP d f.2 a 1).bind λg =>
  (BL g.2 2).bind λh =>
  bif h.1 then
   some (({ Op:=10,B:=c.1,Ac:=f.1,V:=g.1 }:Ap),h.2)
  else
   some (({ Op:=10,B:=(-1),Ac:=f.1,V:=g.1 }:Ap),h.2)
 else
  bif b.1==2 then
   (Ee b.2 a).bind λf =>
   (AP d f.2 a 1).bind λg =>
   (BL g.2 2).bind λh =>
   bif h.1 then
    some (({ Op:=10,B:=c.1,Ac:=f.1,V:=g.1 }:Ap),h.2)
   else
    some (({ Op:=10,B:=(-1),Ac:=f.1,V:=g.1 }:Ap),h.2)
  else
   bif b.1==3 then
    (Gb b.2 a c.1).bind λi =>
    bif decide ((i.1.length:Int)>0)then
     (AP d i.2 a 1).bind λk =>
     some (({ Op:=11,B:=c.1,A:=i.1,V:=k.1 }:Ap),k.2)
    else
     (Cl d i.2 a j 2).bind λe =>
     some (e.1,e.2)
   else
    bif b.1==4 then
     (idx a.A c.1).bind λt =>
     bif decide (t.C>=0)then
      (AP d b.2 a 0).bind λl =>
      (AP d l.2 a 0).bind λm =>
      some (({ Op:=12,B:=c.1,V:=m.1,U:=l.1 }:Ap),m.2)
     else
      (Cl d b.2 a j 2).bind λe =>
      some (e.1,e.2)
    else
     bif b.1==5 then
      (idx a.A c.1).bind λn =>
      (A8 b.2 (n.T.length:Int)).bind λo =>
      (idx n.T o.1).bind λu =>
      (AP d o.2 a 1).bind λp =>
      some (({ Op:=13,L:=u,B:=c.1,V:=p.1 }:Ap),p.2)
     else
      bif b.1==6 then
       (AP d b.2 a 0).bind λq =>
       some (({ Op:=14,B:=c.1,V:=q.1 }:Ap),q.2)
      else
       (Cl d b.2 a j 2).bind λe =>
       some (e.1,e.2)
abbrev Hj(d:Nat)(j:Aa)(k:Int->Ab->(List Au)->(List ByteArray)->Option ((List Au)×Ab))(h:(Int×Ab×(List Au)×(List ByteArray))->Option ((List Au)×Ab))(g:Int)(i:Ab)(c:List Au)(e:List ByteArray):Option ((List Au)×Ab) :=
 bif decide (g>0)then
  (Ew (c.length:Int)).bind λa =>
  bif decide (({ data:=#[118] }:ByteArray).size+a.size<=9223372036854775807)then
   (BL i 2).bind λf =>
   (GM d f.2 j e).bind λb =>
   bif decide (b.1.Op<10)then
    bif rm e.length ([(({ data:=#[118] }:ByteArray)++a)]).length then
     bif rm c.length ([({ H:=(({ data:=#[118] }:ByteArray)++a),A0:=f.1,An:=b.1 }:Au)]).length then
      h ((i64.wrap (g-1)),b.2,(c++[({ H:=(({ data:=#[118] }:ByteArray)++a),A0:=f.1,An:=b.1 }:Au)]),(e++[(({ data:=#[118] }:ByteArray)++a)]))
     else none
    else none
   else
    bif rm c.length ([({ H:=(({ data:=#[118] }:ByteArray)++a),A0:=f.1,An:=b.1 }:Au)]).length then
     h ((i64.wrap (g-1)),b.2,(c++[({ H:=(({ data:=#[118] }:ByteArray)++a),A0:=f.1,An:=b.1 }:Au)]),e)
    else none
  else none
 else
  k g i c e
def EK(d:Nat)(b:Ab)(c:Aa)(e:Int):Option ((List Au)×Ab) :=
 (A8 b (i64.wrap (e+1))).bind λa =>
 iter (λf s=>Hj d c (λi g h j=>some (h,g)) f s.1 s.2.1 s.2.2.1 s.2.2.2) AD (a.1,a.2,[],[])
def Js(d:Nat) :Option Bool :=
 (Ey d ({ A:=[({ H:={ data:=#[119,104,111] },Kind:=1 }:Ar)] }:Aa) ({ Af:={ data:=#[112] },G:=[[2],[5],[9]] }:As) ([({ H:={ data:=#[97] },An:={ Op:=3,V:={ Op:=1 } } }:Au),({ H:={ data:=#[98] },A0:=true,An:={ Op:=8,E:=[({ Op:=2,H:={ data:=#[97] } }:Ap),({ Op:=1,L:=2 }:Ap)] } }:Au)])).bind λa =>
 bif bif bif a.2.2==0 then(a.2.1==2)else false then((a.1.length:Int)==2)else false then
  (idx a.1 0).bind λb =>
  bif(b.At.Number.L==3)&&((b.At.Number.N==1)&&true)then
   (idx a.1 1).bind λc =>
   bif(c.At.Number.L==6)&&((c.At.Number.N==1)&&true)then
    (idx a.1 1).bind λe =>
    (HQ e.At.Lineage [2,5,9]).bind λf =>
    bif f then
     (JI a.1).bind λg =>
     bif(g.length:Int)==1 then
      (JI a.1).bind λh =>
      (idx h 0).bind λi =>
      some (i.H.toList==({ data:=#[98] }:ByteArray).toList)
     else
      some false
    else
     some false
   else
    some false
  else
   some false
 else
  some false
def I8(c:(List Au)×Ab)(b:(List A9)×Int×Int)(d:Nat)(e:BW×As×Ab)(g:Int->Option Bool)(h:Int->Option Bool)(a:Int):Option Bool :=
 bif decide (a<(c.1.length:Int))then
  bif decide (0<=(0:Int)/\0<=a/\a<=(b.1.length:Int))then
   (idx c.1 a).bind λi =>
   (Gk d e.1.Ao e.2.1 (LZ b.1 0 a) i.An).bind λf =>
   bif f.2 != 0 then
    some false
   else
    (idx b.1 a).bind λj =>
    (idx c.1 a).bind λk =>
    bif !(j.H.toList==k.H.toList)then
     some false
    else
     (idx b.1 a).bind λl =>
     (idx c.1 a).bind λm =>
     bif !(l.A0==m.A0)then
      some false
     else
      (idx b.1 a).bind λn =>
      (GY f.1 n.At).bind λo =>
      bif !o then
       some false
      else
       h (i64.wrap (a+1))
  else none
 else
  g a
def Fh(d:Nat)(f:List Int):Option Bool :=
 (Qo f).bind λg =>
 (Ge d g 6).bind λb =>
 (EK d b.2.2 b.1.Ao 4).bind λc =>
 (Ey d b.1.Ao b.2.1 c.1).bind λa =>
 bif a.2.2 != 0 then
  bif bif bif(a.1.length:Int) != 0 then true else(decide (a.2.1<0))then true else(decide (a.2.1>=(c.1.length:Int)))then
   some false
  else
   bif decide (0<=(0:Int)/\0<=a.2.1/\a.2.1<=(c.1.length:Int))then
    (Ey d b.1.Ao b.2.1 (LZ c.1 0 a.2.1)).bind λe =>
    bif bif bif e.2.2==0 then(e.2.1==a.2.1)else false then((e.1.length:Int)==a.2.1)else false then
     (Js d).bind λh =>
     some h
    else
     some false
   else none
 else
  bif bif a.2.1 != (c.1.length:Int)then true else((a.1.length:Int) != a.2.1)then
   some false
  else
   iter (λi s=>I8 c a d b (λk=>(Js d).bind λj=>some j) i s) AD 0
theorem FK{p:Prop}(h:p:=by first|rfl|simp only[pX,qK,q9]):p:=h
theorem fJ{p:Prop}(h:p:=by first|rfl|(simp only[pX];done)|(simp only[pX];rfl)):p:=h
theorem pP{p:Prop}(h:p:=by repeat (first|exact trivial|refine And.intro (by first|with_reducible rfl|rfl|exact .inl rfl|exact .inr rfl|(simp only[pX];done)|(simp only[pX];rfl)|(simp only[qx,qk,qH];rfl)) ?_)):p:=h
theorem Nv{p:Prop}(h:p:=by first|rfl|(simp only[pX];done)|(simp only[pX];rfl)|(simp only[BX,AX,AO,Bm,An,qk,qH,pX];done)|(simp only[BX,AX,AO,Bm,An,qk,qH,pX];rfl)):p:=h
theorem jO{p:Prop}(h:p:=by repeat (first|exact trivial|refine And.intro (by first|with_reducible rfl|rfl|exact .inl rfl|exact .inr rfl|(simp only[pX];done)|(simp only[pX];rfl)|(simp only[BX,AX,AO,Bm,An,qk,qH,pX];done)|(simp only[BX,AX,AO,Bm,An,qk,qH,pX];rfl)|(simp only[qx,qk,qH];rfl)) ?_)):p:=h
theorem DI{ρ:Type}{b b':Bool}{x y:Prop}{X Y:Option ρ}{R:ρ}(h:(bif b' then X else Y)=some R)(h1:X=some R->x)(h2:Y=some R->y)(e:b=b':=by first|rfl|simp only[pX,qK,q9]):Bool.rec y x b:=Td h e h1 h2
theorem FV{α ρ:Type}{m:Option α}{G:α->Option ρ}{R:ρ}{P:Program}{f:FuncId}{nils:List Nat}{args margs:List AV}{K:AV->Prop}{KM:List AV->AV->Prop}{r:α->AV}(h:m.bind G=some R)(c:∀x,m=some x->Ax P f args (r x))(k:∀x,G x=some R->K (r x)):Hs P f nils args K margs KM:=by
 obtain⟨x,hx,h⟩:=Vi h;exact A0 (c x hx) (k x h)
theorem iH{α ρ:Type}{m:Option α}{G:α->Option ρ}{R:ρ}{P:Program}{f:FuncId}{nils:List Nat}{args margs:List AV}{K:AV->Prop}{KM:List AV->AV->Prop}{outs:α->List AV}{r:α->AV}(h:m.bind G=some R)(c:∀x,m=some x->Dl P f margs (outs x) (r x))(k:∀x,G x=some R->KM (outs x) (r x)):Hs P f nils args K margs KM:=by
 obtain⟨x,hx,h⟩:=Vi h;exact Hm (c x hx) (k x h)
theorem Sy{α ρ:Type}{xs:List α}{i j:Int}{f:α->D}{K:D->Prop}{G:α->Option ρ}{R:ρ}(h:(idx xs i).bind G=some R)(k:∀x,idx xs i=some x->G x=some R->K (f x))(e:j=i:=by first|rfl|simp only[pX,qK,q9]):At (xs.map f) j K:=oA h e k
theorem fZ{ι:Type}{Inv:ι->AS}{μ:ι->Nat}{S:AS}{m:Nat}(j:ι)(h:Le S (Inv j))(k:μ j<m:=by exact rx _):∃j,Le S (Inv j)/\μ j<m:=⟨j,h,k⟩
theorem o7{P:Program}{f:FuncId}{fn:Func}{args:List AV}{r:AV}(hf:P.funcs[f]?=some fn)(hr:nA P fn args r)(hname:(fn.name == "runtime.NumGoroutine")=false:=by kernel_rfl):Ax P f args r:=Da hf hname hr
theorem fY{ρ:Type}{b b':Bool}{x y:Prop}{E R:ρ}{Y:Option ρ}(h:(bif b' then Y else some E)=some R)(h2:Y=some R->x)(h1:some E=some R->y:=by intro h;cases h;(conv=>whnf);exact⟨by first|rfl|(simp only[pX];done)|(simp only[pX];rfl)|(simp only[BX,AX,AO,Bm,An,qk,qH,pX];done)|(simp only[BX,AX,AO,Bm,An,qk,qH,pX];rfl)⟩)(e:b=b':=by first|rfl|simp only[pX,qK,q9]):Bool.rec y x b:=Td h e h2 h1
theorem I1{ρ:Type}{b b':Bool}{x y:Prop}{E R:ρ}{Y:Option ρ}(h:(bif b' then some E else Y)=some R)(h2:Y=some R->y)(h1:some E=some R->x:=by intro h;cases h;(conv=>whnf);exact⟨by first|rfl|(simp only[pX];done)|(simp only[pX];rfl)|(simp only[BX,AX,AO,Bm,An,qk,qH,pX];done)|(simp only[BX,AX,AO,Bm,An,qk,qH,pX];rfl)⟩)(e:b=b':=by first|rfl|simp only[pX,qK,q9]):Bool.rec y x b:=Td h e h1 h2
theorem PD{ρ:Type}{b b':Bool}{x y:Prop}{E R:ρ}{Y:Option ρ}(h:(bif b' then some E else Y)=some R)(h2:Y=some R->y)(h1:some E=some R->x:=by intro h;cases h;(conv=>whnf);exact⟨by first|rfl|(simp only[pX];done)|(simp only[pX];rfl)⟩)(e:b=b':=by first|rfl|simp only[pX,qK,q9]):Bool.rec y x b:=Td h e h1 h2
theorem CC{S S':AS}(h:Es S' (λS'=>Le S S'):=by(conv=>whnf);repeat (first|exact trivial|refine And.intro (by first|with_reducible rfl|rfl|exact .inl rfl|exact .inr rfl|(simp only[pX];done)|(simp only[pX];rfl)|(simp only[qx,qk,qH];rfl)) ?_)):Le S S':=Rp h
theorem Bw{S S':AS}(h:Es S' (λS'=>Le S S'):=by(conv=>whnf);repeat (first|exact trivial|refine And.intro (by first|with_reducible rfl|rfl|exact .inl rfl|exact .inr rfl|(simp only[pX];done)|(simp only[pX];rfl)|(simp only[BX,AX,AO,Bm,An,qk,qH,pX];done)|(simp only[BX,AX,AO,Bm,An,qk,qH,pX];rfl)|(simp only[qx,qk,qH];rfl)) ?_)):Le S S':=Rp h
theorem z7{σ ρ:Type}{body:(σ->Option ρ)->σ->Option ρ}{n:Nat}{s0:σ}{R:ρ}{S:AS}{W:(Exit->AS->Prop)->AS->Prop}{Q:Exit->AS->Prop}(h:iter body n s0=some R)(I:σ->AS)(hl:Le S (I s0))(k:∀(Φ:Nat->σ->Option ρ)(n:Nat)(s:σ),body (Φ n) s=some R->Es (I s) (W (λe S=>match e with|.normal=>∃j:{p:Nat×σ // Φ p.1 p.2=some R},Le S (I j.1.2)/\j.1.1<n+1|e=>Q e S))):Qf S W Q:=by
 obtain⟨Φ,i,h⟩:=mZ h
 exact loop {p:Nat×σ // Φ p.1 p.2=some R} (λp=>I p.1.2) (λp=>p.1.1) ⟨(n,s0),h⟩ hl λ⟨⟨a,b⟩,h⟩=>by
  obtain⟨a,rfl,h⟩:=i _ _ h;exact k Φ a b h
theorem z8{A B:Prop}(b:B)(a:A:=by(simp only[pX];exact CG hr (pZ (by kernel_rfl)) (.inr (by kernel_rfl)))):JA A B:=⟨a,b⟩
theorem z9{A B:Prop}(b:B)(a:A:=by first|(intro x hx y hy;obtain⟨n,_,rfl⟩:=List.mem_map.1 hx;simp[D.cells]at hy;subst hy;rfl)|exact λx hx=>absurd hx (by simp)):JA A B:=⟨a,b⟩
theorem z11{A B:Prop}(b:B)(a:A:=by first|exact V7 hr (pZ (by kernel_rfl))|(simp only[pX];exact V7 hr (pZ (by kernel_rfl)))):JA A B:=⟨a,b⟩
theorem z12{A B:Prop}(b:B)(a:A:=by first|rfl|(simp only[pX];done)|(simp only[pX];rfl)):A/\B:=⟨a,b⟩
theorem z13{A B:Prop}(b:B)(a:A:=by exact⟨(_,_,_,_,_,_,_,_,_,_,_,_,_,_,_,_,_,_,_,_,_,_,_),h⟩):JA A B:=⟨a,b⟩
theorem z14{A B:Prop}(b:B)(a:A:=by exact⟨by decide +kernel,by kernel_rfl⟩):JA A B:=⟨a,b⟩
theorem z15{A B:Prop}(b:B)(a:A:=by exact⟨rfl,rfl,Nv⟩):A/\B:=⟨a,b⟩
theorem z16{p:Prop}(h:p:=by obtain rfl:=P3 h;refine z15 ?_;(conv=>whnf);exact⟨Nv⟩):p:=h
theorem z17{p:Prop}(h:p:=by refine(by(repeat intro _);rename_i h;cases h)):p:=h
theorem z18{p:Prop}(h:p:=by refine Bp h λx47 hx47 h=>?_;refine Vk (types_own_c1_w.h _ _ _ _ hx47) ?_;(conv=>whnf);exact⟨⟨_,h⟩,Bw⟩):p:=h
theorem z19{p:Prop}(h:p:=by(conv=>whnf);refine Bp h λx59 hx59 h=>?_;refine A0 (slices_ContainsFunc_Lapi_Expr_api_Expr_w.h _ _ _ _ _ (λa0 _ h=>ih1 a0 _ _ h) hx59) ?_;exact Ao):p:=h
theorem z20{p:Prop}(h:p:=by(conv=>whnf);exact z16):p:=h
theorem z21{p:Prop}(h:p:=by(conv=>whnf);refine Bp h λx63 hx63 h=>?_;refine A0 (Fv _ _ _ hx63) ?_;exact z20):p:=h
theorem z22{p:Prop}(h:p:=by refine Rp ?_;(conv=>whnf);exact jO):p:=h
theorem z23{p:Prop}(h:p:=by(conv=>whnf);exact⟨⟨_,h⟩,Bw⟩):p:=h
theorem z24{p:Prop}(h:p:=by obtain rfl:=P3 h;refine⟨.inl ?_⟩;(conv=>whnf);exact⟨fJ⟩):p:=h
theorem z25{p:Prop}(h:p:=by(conv=>whnf);exact⟨⟨(_,_,_,_,_),h⟩,Bw⟩):p:=h
theorem z26{p:Prop}(h:p:=by obtain rfl:=P3 h;refine⟨⟨rfl,rfl,by first|rfl|(simp only[pX];done)|(simp only[pX];rfl)⟩,?_⟩;(conv=>whnf);exact⟨fJ⟩):p:=h
theorem z27{p:Prop}(h:p:=by(conv=>whnf);refine z13 ?_;exact z22):p:=h
theorem z28{p:Prop}(h:p:=by refine Yo (f:=Cd) hx67 FK ?_;(conv=>whnf);(try rw[Ul]);exact fZ ⟨(_,(_,_)),h⟩ CC):p:=h
theorem z29{p:Prop}(h:p:=by refine OQ (f:=Cd) h FK λx63 hx63 h=>?_;refine Yo (f:=Cd) hx63 FK ?_;refine OQ (f:=Cd) h FK λx67 hx67 h=>?_;exact z28):p:=h
theorem z30{p:Prop}(h:p:=by(conv=>whnf);refine Bp h λx53 hx53 h=>?_;(first|refine Hm (FB _ _ _ _ hx53) ?_|(simp only[pX];refine Hm (FB _ _ _ _ hx53) ?_));exact z20):p:=h
theorem z31{p:Prop}(h:p:=by(conv=>whnf);refine⟨.inl ?_⟩;(conv=>whnf);exact⟨rfl⟩):p:=h
theorem z32{p:Prop}(h:p:=by refine Bp h λx18 hx18 h=>?_;refine A0 (slices_ContainsFunc_Lapi_Expr_api_Expr_w.h _ _ _ _ _ (λa0 _ h=>ih1 a0 _ _ _ _ h_p1 h) hx18) ?_;exact Ao):p:=h
end Go.Proofs.YthchnhoalhbkcaaGreatDoor.P
