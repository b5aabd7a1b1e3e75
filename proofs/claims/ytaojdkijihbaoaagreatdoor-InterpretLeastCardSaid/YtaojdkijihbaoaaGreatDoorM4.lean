/- M4 -/
import Derived.Test.YtaojdkijihbaoaaGreatDoorM3
import Derived.Lib.ItoaNum
import Derived.Lib.SlicesCompact
import Derived.Deep.OwnRows
import Derived.Deep.Slices
open Go.IntKind (i64 u64)
set_option linter.all false
namespace Go.Abs
abbrev D.j(x:Int):D:=.int .i64 x
abbrev D.z:=D.int .i64
abbrev AV.i(x:Int):AV:=.d (.int .i64 x)
abbrev AV.l{α:Type}(n:Nat)(f:α->D)(x:List α):AV:=.d (.list n (x.map f))
abbrev AV.t(x:ByteArray):AV:=.d (.str x)
abbrev AV.b(x:Bool):AV:=.d (.bool x)
abbrev AV.n(x:Nat):AV:=.d (.nil x)
abbrev C.i(x:Int):C:=.d (.int .i64 x)
abbrev C.l{α:Type}(n:Nat)(f:α->D)(x:List α):C:=.d (.list n (x.map f))
abbrev C.t(x:ByteArray):C:=.d (.str x)
abbrev C.b(x:Bool):C:=.d (.bool x)
abbrev C.n(x:Nat):C:=.d (.nil x)
end Go.Abs
namespace Go.Proofs.YtaojdkijihbaoaaGreatDoor.P
open Go.Abs Go.Proofs
structure Ab where
 A0:List Int:=[]
 Ax:Int:=0
structure Eu where
 I:ByteArray:=ByteArray.empty
 Bd:Int:=0
structure Aj where
 I:ByteArray:=ByteArray.empty
 Q:List Eu:=[]
structure As where
 I:ByteArray:=ByteArray.empty
 (Kind Ak C D:Int:=0)
 N:List Int:=[]
 Al:Bool:=false
structure Aa where
 K:List Aj:=[]
 A:List As:=[]
structure Cn where
 Aw:Aa:={}
 G:List (List Int):=[]
 Br:List Int:=[]
 Ag:Int:=0
structure Ad where
 (Op B Z C D:Int:=0)
 H:List Ad:=[]
structure Ac where
 (B J:Int:=0)
structure Ap where
 I:ByteArray:=ByteArray.empty
 Kind:Int:=0
 Ay:Ad:={}
 V:List Ac:=[]
 Y:Int:=0
 Ai:List Int:=[]
 U:Ad:={}
structure HA where
 (Bh Of Bi:Int:=0)
structure Ar where
 (Ae Bl:ByteArray:=ByteArray.empty)
 Be:Ad:={}
 A2:HA:={}
 Am:List Ap:=[]
structure Au where
 Ae:ByteArray:=ByteArray.empty
 Ag:Int:=0
 E:List Ac:=[]
 G:List (List Int):=[]
structure Av where
 (Op S:Int:=0)
 I:ByteArray:=ByteArray.empty
 B:Int:=0
 A:List Int:=[]
 V:List Ac:=[]
 (Ah U:Ad:={})
 H:List Av:=[]
structure Az where
 I:ByteArray:=ByteArray.empty
 Bc:Bool:=false
 Aq:Av:={}
structure Bf where
 (Bw Bu Bs Bx By Bk Bt:Bool:=false)
structure AO where
 (S T:Int:=0)
structure An where
 Q:List Int:=[]
 (Af A6 A8 Ba Bg:Int:=0)
 G:List Int:=[]
structure Ei where
 V:List Ac:=[]
 Y:Int:=0
 A1:List An:=[]
structure Cw where
 Y:Int:=0
 Ai:List Int:=[]
 A9:List AO:=[]
 (A4 A5:AO:={})
 (Af Bj:Int:=0)
structure Bb where
 (Bz B0 B1 B2:Int:=0)
 Bv:AO:={}
structure Q1 where
 (C Af:Int:=0)
structure WF where
 (Af Bm Bn Bo Bp Bq:Int:=0)
structure AR where
 Kind:Int:=0
 Number:AO:={}
 Table:Ei:={}
 Model:Cw:={}
 Curve:List Bb:=[]
 Hist:List Q1:=[]
 Box:WF:={}
 Lineage:List Int:=[]
structure AF where
 I:ByteArray:=ByteArray.empty
 Bc:Bool:=false
 At:AR:={}
structure Ev where
 Ao:Aa:={}
 X:Au:={}
structure A7 where
 L:Ev:={}
 A3:List AF:=[]
structure AQ where
 (D C:Int:=0)
def I9(x:Ab):D:=.agg [(Ao 1 (D.int .u8) x.A0),(.int .i64 x.Ax)]
theorem Y2(xs:List Ab)(a0:List Int)(a:Int):xs.map I9++[D.agg [(D.list 1 (List.map (D.int .u8) a0)),(.int .i64 a)]]=(xs++[({ A0:=a0,Ax:=a }:Ab)]).map I9:=by simp[I9,Ao]
theorem YV(xs:List Ab)(i:Nat)(a0:List Int)(a:Int):(xs.map I9).set i (D.agg [(D.list 1 (List.map (D.int .u8) a0)),(.int .i64 a)])=(xs.set i ({ A0:=a0,Ax:=a }:Ab)).map I9:=by rw[vd];rfl
def E4(x:Eu):D:=.agg [(.str x.I),(.int .i64 x.Bd)]
theorem gz(xs:List Eu)(a0:ByteArray)(a:Int):xs.map E4++[D.agg [(.str a0),(.int .i64 a)]]=(xs++[({ I:=a0,Bd:=a }:Eu)]).map E4:=by simp[E4,Ao]
theorem kC(xs:List Eu)(i:Nat)(a0:ByteArray)(a:Int):(xs.map E4).set i (D.agg [(.str a0),(.int .i64 a)])=(xs.set i ({ I:=a0,Bd:=a }:Eu)).map E4:=by rw[vd];rfl
def Ai(x:Aj):D:=.agg [(.str x.I),(Ao 2 E4 x.Q)]
theorem Y1(xs:List Aj)(a0:ByteArray)(a:List Eu):xs.map Ai++[D.agg [(.str a0),(D.list 2 (List.map E4 a))]]=(xs++[({ I:=a0,Q:=a }:Aj)]).map Ai:=by simp[Ai,Ao]
theorem YT(xs:List Aj)(i:Nat)(a0:ByteArray)(a:List Eu):(xs.map Ai).set i (D.agg [(.str a0),(D.list 2 (List.map E4 a))])=(xs.set i ({ I:=a0,Q:=a }:Aj)).map Ai:=by rw[vd];rfl
def Am(x:As):D:=.agg [(.str x.I),(.int .i64 x.Kind),(.int .i64 x.Ak),(.int .i64 x.C),(.int .i64 x.D),(Ao 1 (D.int .i64) x.N),(.bool x.Al)]
theorem Ng(xs:List As)(a0:ByteArray)(a:Int)(b:Int)(c:Int)(d:Int)(e:List Int)(f:Bool):xs.map Am++[D.agg [(.str a0),(.int .i64 a),(.int .i64 b),(.int .i64 c),(.int .i64 d),(D.list 1 (List.map (D.int .i64) e)),(.bool f)]]=(xs++[({ I:=a0,Kind:=a,Ak:=b,C:=c,D:=d,N:=e,Al:=f }:As)]).map Am:=by simp[Am,Ao]
theorem dP(xs:List As)(i:Nat)(a0:ByteArray)(a:Int)(b:Int)(c:Int)(d:Int)(e:List Int)(f:Bool):(xs.map Am).set i (D.agg [(.str a0),(.int .i64 a),(.int .i64 b),(.int .i64 c),(.int .i64 d),(D.list 1 (List.map (D.int .i64) e)),(.bool f)])=(xs.set i ({ I:=a0,Kind:=a,Ak:=b,C:=c,D:=d,N:=e,Al:=f }:As)).map Am:=by rw[vd];rfl
def EK(x:Aa):D:=.agg [(Ao 2 Ai x.K),(Ao 7 Am x.A)]
theorem bk(xs:List Aa)(a0:List Aj)(a:List As):xs.map EK++[D.agg [(D.list 2 (List.map Ai a0)),(D.list 7 (List.map Am a))]]=(xs++[({ K:=a0,A:=a }:Aa)]).map EK:=by simp[EK,Ao]
theorem dR(xs:List Aa)(i:Nat)(a0:List Aj)(a:List As):(xs.map EK).set i (D.agg [(D.list 2 (List.map Ai a0)),(D.list 7 (List.map Am a))])=(xs.set i ({ K:=a0,A:=a }:Aa)).map EK:=by rw[vd];rfl
def Lt(x:Cn):D:=.agg [(Ao 2 Ai x.Aw.K),(Ao 7 Am x.Aw.A),(Ao 1 (Ao 1 (D.int .i64)) x.G),(Ao 1 (D.int .i64) x.Br),(.int .i64 x.Ag)]
theorem bm(xs:List Cn)(a0:List Aj)(a:List As)(b:List (List Int))(c:List Int)(d:Int):xs.map Lt++[D.agg [(D.list 2 (List.map Ai a0)),(D.list 7 (List.map Am a)),(D.list 1 (List.map (Ao 1 (D.int .i64)) b)),(D.list 1 (List.map (D.int .i64) c)),(.int .i64 d)]]=(xs++[({ Aw:=({ K:=a0,A:=a }:Aa),G:=b,Br:=c,Ag:=d }:Cn)]).map Lt:=by simp[Lt,Ao]
theorem dT(xs:List Cn)(i:Nat)(a0:List Aj)(a:List As)(b:List (List Int))(c:List Int)(d:Int):(xs.map Lt).set i (D.agg [(D.list 2 (List.map Ai a0)),(D.list 7 (List.map Am a)),(D.list 1 (List.map (Ao 1 (D.int .i64)) b)),(D.list 1 (List.map (D.int .i64) c)),(.int .i64 d)])=(xs.set i ({ Aw:=({ K:=a0,A:=a }:Aa),G:=b,Br:=c,Ag:=d }:Cn)).map Lt:=by rw[vd];rfl
mutual
def A3:Ad->D
 | ⟨Op,Column,Code,Low,High,Kids⟩=>.agg [(.int .i64 Op),(.int .i64 Column),(.int .i64 Code),(.int .i64 Low),(.int .i64 High),(.list 6 (Pg Kids))]
def Pg:List Ad->List D
 | []=>[]
 | x :: r=>A3 x :: Pg r
end
theorem Us:∀l:List Ad,Pg l=l.map A3
 | []=>by simp[Pg]
 | x :: r=>by simp[Pg,Us r]
def BI(x:Ad):D:=.agg [(.int .i64 x.Op),(.int .i64 x.B),(.int .i64 x.Z),(.int .i64 x.C),(.int .i64 x.D),(Ao 6 A3 x.H)]
theorem Zt(x:Ad):Ad.mk x.Op x.B x.Z x.C x.D x.H=x:=by cases x;rfl
theorem AI(x:Ad):A3 x=BI x:=by
 obtain⟨Op,a,Code,c,b,Kids⟩:=x;simp only[A3,Us];rfl
theorem gA(xs:List Ad)(a0:Int)(a:Int)(b:Int)(c:Int)(d:Int)(e:List Ad):xs.map A3++[D.agg [(.int .i64 a0),(.int .i64 a),(.int .i64 b),(.int .i64 c),(.int .i64 d),(D.list 6 (List.map A3 e))]]=(xs++[({ Op:=a0,B:=a,Z:=b,C:=c,D:=d,H:=e }:Ad)]).map A3:=by simp[AI,BI,Ao]
theorem kD(xs:List Ad)(i:Nat)(a0:Int)(a:Int)(b:Int)(c:Int)(d:Int)(e:List Ad):(xs.map A3).set i (D.agg [(.int .i64 a0),(.int .i64 a),(.int .i64 b),(.int .i64 c),(.int .i64 d),(D.list 6 (List.map A3 e))])=(xs.set i ({ Op:=a0,B:=a,Z:=b,C:=c,D:=d,H:=e }:Ad)).map A3:=by rw[vd];simp[AI,BI,Ao]
def Ah(x:Ac):D:=.agg [(.int .i64 x.B),(.int .i64 x.J)]
theorem Qc(xs:List Ac)(a0:Int)(a:Int):xs.map Ah++[D.agg [(.int .i64 a0),(.int .i64 a)]]=(xs++[({ B:=a0,J:=a }:Ac)]).map Ah:=by simp[Ah,Ao]
theorem kG(xs:List Ac)(i:Nat)(a0:Int)(a:Int):(xs.map Ah).set i (D.agg [(.int .i64 a0),(.int .i64 a)])=(xs.set i ({ B:=a0,J:=a }:Ac)).map Ah:=by rw[vd];rfl
def BZ(x:Ap):D:=.agg [(.str x.I),(.int .i64 x.Kind),(.int .i64 x.Ay.Op),(.int .i64 x.Ay.B),(.int .i64 x.Ay.Z),(.int .i64 x.Ay.C),(.int .i64 x.Ay.D),(Ao 6 A3 x.Ay.H),(Ao 2 Ah x.V),(.int .i64 x.Y),(Ao 1 (D.int .i64) x.Ai),(.int .i64 x.U.Op),(.int .i64 x.U.B),(.int .i64 x.U.Z),(.int .i64 x.U.C),(.int .i64 x.U.D),(Ao 6 A3 x.U.H)]
theorem Oe(xs:List Ap)(a0:ByteArray)(h:Int)(i:Int)(j:Int)(k:Int)(l:Int)(m:Int)(n:List Ad)(o:List Ac)(p:Int)(a:List Int)(b:Int)(c:Int)(d:Int)(e:Int)(f:Int)(g:List Ad):xs.map BZ++[D.agg [(.str a0),(.int .i64 h),(.int .i64 i),(.int .i64 j),(.int .i64 k),(.int .i64 l),(.int .i64 m),(D.list 6 (List.map A3 n)),(D.list 2 (List.map Ah o)),(.int .i64 p),(D.list 1 (List.map (D.int .i64) a)),(.int .i64 b),(.int .i64 c),(.int .i64 d),(.int .i64 e),(.int .i64 f),(D.list 6 (List.map A3 g))]]=(xs++[({ I:=a0,Kind:=h,Ay:=({ Op:=i,B:=j,Z:=k,C:=l,D:=m,H:=n }:Ad),V:=o,Y:=p,Ai:=a,U:=({ Op:=b,B:=c,Z:=d,C:=e,D:=f,H:=g }:Ad) }:Ap)]).map BZ:=by simp[BZ,Ao]
theorem YU(xs:List Ap)(i:Nat)(a0:ByteArray)(h:Int)(j:Int)(k:Int)(l:Int)(m:Int)(n:Int)(o:List Ad)(p:List Ac)(q:Int)(a:List Int)(b:Int)(c:Int)(d:Int)(e:Int)(f:Int)(g:List Ad):(xs.map BZ).set i (D.agg [(.str a0),(.int .i64 h),(.int .i64 j),(.int .i64 k),(.int .i64 l),(.int .i64 m),(.int .i64 n),(D.list 6 (List.map A3 o)),(D.list 2 (List.map Ah p)),(.int .i64 q),(D.list 1 (List.map (D.int .i64) a)),(.int .i64 b),(.int .i64 c),(.int .i64 d),(.int .i64 e),(.int .i64 f),(D.list 6 (List.map A3 g))])=(xs.set i ({ I:=a0,Kind:=h,Ay:=({ Op:=j,B:=k,Z:=l,C:=m,D:=n,H:=o }:Ad),V:=p,Y:=q,Ai:=a,U:=({ Op:=b,B:=c,Z:=d,C:=e,D:=f,H:=g }:Ad) }:Ap)).map BZ:=by rw[vd];rfl
def Ls(x:HA):D:=.agg [(.int .i64 x.Bh),(.int .i64 x.Of),(.int .i64 x.Bi)]
theorem bj(xs:List HA)(a0:Int)(a:Int)(b:Int):xs.map Ls++[D.agg [(.int .i64 a0),(.int .i64 a),(.int .i64 b)]]=(xs++[({ Bh:=a0,Of:=a,Bi:=b }:HA)]).map Ls:=by simp[Ls,Ao]
theorem dQ(xs:List HA)(i:Nat)(a0:Int)(a:Int)(b:Int):(xs.map Ls).set i (D.agg [(.int .i64 a0),(.int .i64 a),(.int .i64 b)])=(xs.set i ({ Bh:=a0,Of:=a,Bi:=b }:HA)).map Ls:=by rw[vd];rfl
def FL(x:Ar):D:=.agg [(.str x.Ae),(.str x.Bl),(.int .i64 x.Be.Op),(.int .i64 x.Be.B),(.int .i64 x.Be.Z),(.int .i64 x.Be.C),(.int .i64 x.Be.D),(Ao 6 A3 x.Be.H),(.int .i64 x.A2.Bh),(.int .i64 x.A2.Of),(.int .i64 x.A2.Bi),(Ao 17 BZ x.Am)]
theorem UV(xs:List Ar)(a0:ByteArray)(c:ByteArray)(d:Int)(e:Int)(f:Int)(g:Int)(h:Int)(i:List Ad)(j:Int)(k:Int)(a:Int)(b:List Ap):xs.map FL++[D.agg [(.str a0),(.str c),(.int .i64 d),(.int .i64 e),(.int .i64 f),(.int .i64 g),(.int .i64 h),(D.list 6 (List.map A3 i)),(.int .i64 j),(.int .i64 k),(.int .i64 a),(D.list 17 (List.map BZ b))]]=(xs++[({ Ae:=a0,Bl:=c,Be:=({ Op:=d,B:=e,Z:=f,C:=g,D:=h,H:=i }:Ad),A2:=({ Bh:=j,Of:=k,Bi:=a }:HA),Am:=b }:Ar)]).map FL:=by simp[FL,Ao]
theorem V5(xs:List Ar)(i:Nat)(a0:ByteArray)(c:ByteArray)(d:Int)(e:Int)(f:Int)(g:Int)(h:Int)(j:List Ad)(k:Int)(l:Int)(a:Int)(b:List Ap):(xs.map FL).set i (D.agg [(.str a0),(.str c),(.int .i64 d),(.int .i64 e),(.int .i64 f),(.int .i64 g),(.int .i64 h),(D.list 6 (List.map A3 j)),(.int .i64 k),(.int .i64 l),(.int .i64 a),(D.list 17 (List.map BZ b))])=(xs.set i ({ Ae:=a0,Bl:=c,Be:=({ Op:=d,B:=e,Z:=f,C:=g,D:=h,H:=j }:Ad),A2:=({ Bh:=k,Of:=l,Bi:=a }:HA),Am:=b }:Ar)).map FL:=by rw[vd];rfl
def E5(x:Au):D:=.agg [(.str x.Ae),(.int .i64 x.Ag),(Ao 2 Ah x.E),(Ao 1 (Ao 1 (D.int .i64)) x.G)]
theorem YX(xs:List Au)(a0:ByteArray)(a:Int)(b:List Ac)(c:List (List Int)):xs.map E5++[D.agg [(.str a0),(.int .i64 a),(D.list 2 (List.map Ah b)),(D.list 1 (List.map (Ao 1 (D.int .i64)) c))]]=(xs++[({ Ae:=a0,Ag:=a,E:=b,G:=c }:Au)]).map E5:=by simp[E5,Ao]
theorem bg(xs:List Au)(i:Nat)(a0:ByteArray)(a:Int)(b:List Ac)(c:List (List Int)):(xs.map E5).set i (D.agg [(.str a0),(.int .i64 a),(D.list 2 (List.map Ah b)),(D.list 1 (List.map (Ao 1 (D.int .i64)) c))])=(xs.set i ({ Ae:=a0,Ag:=a,E:=b,G:=c }:Au)).map E5:=by rw[vd];rfl
mutual
def CG:Av->D
 | ⟨Op,Num,Name,Column,Columns,Dims,Cond,Event,Kids⟩=>.agg [(.int .i64 Op),(.int .i64 Num),(.str Name),(.int .i64 Column),(Ao 1 (D.int .i64) Columns),(Ao 2 Ah Dims),(.int .i64 Cond.Op),(.int .i64 Cond.B),(.int .i64 Cond.Z),(.int .i64 Cond.C),(.int .i64 Cond.D),(Ao 6 A3 Cond.H),(.int .i64 Event.Op),(.int .i64 Event.B),(.int .i64 Event.Z),(.int .i64 Event.C),(.int .i64 Event.D),(Ao 6 A3 Event.H),(.list 19 (Ph Kids))]
def Ph:List Av->List D
 | []=>[]
 | x :: r=>CG x :: Ph r
end
theorem Ut:∀l:List Av,Ph l=l.map CG
 | []=>by simp[Ph]
 | x :: r=>by simp[Ph,Ut r]
def AW(x:Av):D:=.agg [(.int .i64 x.Op),(.int .i64 x.S),(.str x.I),(.int .i64 x.B),(Ao 1 (D.int .i64) x.A),(Ao 2 Ah x.V),(.int .i64 x.Ah.Op),(.int .i64 x.Ah.B),(.int .i64 x.Ah.Z),(.int .i64 x.Ah.C),(.int .i64 x.Ah.D),(Ao 6 A3 x.Ah.H),(.int .i64 x.U.Op),(.int .i64 x.U.B),(.int .i64 x.U.Z),(.int .i64 x.U.C),(.int .i64 x.U.D),(Ao 6 A3 x.U.H),(Ao 19 CG x.H)]
theorem AZ(x:Av):CG x=AW x:=by
 obtain⟨Op,f,c,b,a,d,e,Event,Kids⟩:=x;simp only[CG,Ut];rfl
theorem gB(xs:List Av)(a0:Int)(j:Int)(k:ByteArray)(l:Int)(m:List Int)(n:List Ac)(o:Int)(p:Int)(q:Int)(r:Int)(a:Int)(b:List Ad)(c:Int)(d:Int)(e:Int)(f:Int)(g:Int)(h:List Ad)(i:List Av):xs.map CG++[D.agg [(.int .i64 a0),(.int .i64 j),(.str k),(.int .i64 l),(D.list 1 (List.map (D.int .i64) m)),(D.list 2 (List.map Ah n)),(.int .i64 o),(.int .i64 p),(.int .i64 q),(.int .i64 r),(.int .i64 a),(D.list 6 (List.map A3 b)),(.int .i64 c),(.int .i64 d),(.int .i64 e),(.int .i64 f),(.int .i64 g),(D.list 6 (List.map A3 h)),(D.list 19 (List.map CG i))]]=(xs++[({ Op:=a0,S:=j,I:=k,B:=l,A:=m,V:=n,Ah:=({ Op:=o,B:=p,Z:=q,C:=r,D:=a,H:=b }:Ad),U:=({ Op:=c,B:=d,Z:=e,C:=f,D:=g,H:=h }:Ad),H:=i }:Av)]).map CG:=by simp[AZ,AW,Ao]
theorem kE(xs:List Av)(i:Nat)(a0:Int)(k:Int)(l:ByteArray)(m:Int)(n:List Int)(o:List Ac)(p:Int)(q:Int)(r:Int)(s:Int)(a:Int)(b:List Ad)(c:Int)(d:Int)(e:Int)(f:Int)(g:Int)(h:List Ad)(j:List Av):(xs.map CG).set i (D.agg [(.int .i64 a0),(.int .i64 k),(.str l),(.int .i64 m),(D.list 1 (List.map (D.int .i64) n)),(D.list 2 (List.map Ah o)),(.int .i64 p),(.int .i64 q),(.int .i64 r),(.int .i64 s),(.int .i64 a),(D.list 6 (List.map A3 b)),(.int .i64 c),(.int .i64 d),(.int .i64 e),(.int .i64 f),(.int .i64 g),(D.list 6 (List.map A3 h)),(D.list 19 (List.map CG j))])=(xs.set i ({ Op:=a0,S:=k,I:=l,B:=m,A:=n,V:=o,Ah:=({ Op:=p,B:=q,Z:=r,C:=s,D:=a,H:=b }:Ad),U:=({ Op:=c,B:=d,Z:=e,C:=f,D:=g,H:=h }:Ad),H:=j }:Av)).map CG:=by rw[vd];simp[AZ,AW,Ao]
def BG(x:Az):D:=.agg [(.str x.I),(.bool x.Bc),(.int .i64 x.Aq.Op),(.int .i64 x.Aq.S),(.str x.Aq.I),(.int .i64 x.Aq.B),(Ao 1 (D.int .i64) x.Aq.A),(Ao 2 Ah x.Aq.V),(.int .i64 x.Aq.Ah.Op),(.int .i64 x.Aq.Ah.B),(.int .i64 x.Aq.Ah.Z),(.int .i64 x.Aq.Ah.C),(.int .i64 x.Aq.Ah.D),(Ao 6 A3 x.Aq.Ah.H),(.int .i64 x.Aq.U.Op),(.int .i64 x.Aq.U.B),(.int .i64 x.Aq.U.Z),(.int .i64 x.Aq.U.C),(.int .i64 x.Aq.U.D),(Ao 6 A3 x.Aq.U.H),(Ao 19 CG x.Aq.H)]
theorem WS(xs:List Az)(a0:ByteArray)(l:Bool)(m:Int)(n:Int)(o:ByteArray)(p:Int)(q:List Int)(r:List Ac)(s:Int)(t:Int)(a:Int)(b:Int)(c:Int)(d:List Ad)(e:Int)(f:Int)(g:Int)(h:Int)(i:Int)(j:List Ad)(k:List Av):xs.map BG++[D.agg [(.str a0),(.bool l),(.int .i64 m),(.int .i64 n),(.str o),(.int .i64 p),(D.list 1 (List.map (D.int .i64) q)),(D.list 2 (List.map Ah r)),(.int .i64 s),(.int .i64 t),(.int .i64 a),(.int .i64 b),(.int .i64 c),(D.list 6 (List.map A3 d)),(.int .i64 e),(.int .i64 f),(.int .i64 g),(.int .i64 h),(.int .i64 i),(D.list 6 (List.map A3 j)),(D.list 19 (List.map CG k))]]=(xs++[({ I:=a0,Bc:=l,Aq:=({ Op:=m,S:=n,I:=o,B:=p,A:=q,V:=r,Ah:=({ Op:=s,B:=t,Z:=a,C:=b,D:=c,H:=d }:Ad),U:=({ Op:=e,B:=f,Z:=g,C:=h,D:=i,H:=j }:Ad),H:=k }:Av) }:Az)]).map BG:=by simp[BG,Ao]
theorem Yy(xs:List Az)(i:Nat)(a0:ByteArray)(m:Bool)(n:Int)(o:Int)(p:ByteArray)(q:Int)(r:List Int)(s:List Ac)(t:Int)(u:Int)(a:Int)(b:Int)(c:Int)(d:List Ad)(e:Int)(f:Int)(g:Int)(h:Int)(j:Int)(k:List Ad)(l:List Av):(xs.map BG).set i (D.agg [(.str a0),(.bool m),(.int .i64 n),(.int .i64 o),(.str p),(.int .i64 q),(D.list 1 (List.map (D.int .i64) r)),(D.list 2 (List.map Ah s)),(.int .i64 t),(.int .i64 u),(.int .i64 a),(.int .i64 b),(.int .i64 c),(D.list 6 (List.map A3 d)),(.int .i64 e),(.int .i64 f),(.int .i64 g),(.int .i64 h),(.int .i64 j),(D.list 6 (List.map A3 k)),(D.list 19 (List.map CG l))])=(xs.set i ({ I:=a0,Bc:=m,Aq:=({ Op:=n,S:=o,I:=p,B:=q,A:=r,V:=s,Ah:=({ Op:=t,B:=u,Z:=a,C:=b,D:=c,H:=d }:Ad),U:=({ Op:=e,B:=f,Z:=g,C:=h,D:=j,H:=k }:Ad),H:=l }:Av) }:Az)).map BG:=by rw[vd];rfl
def GG(x:Bf):D:=.agg [(.bool x.Bw),(.bool x.Bu),(.bool x.Bs),(.bool x.Bx),(.bool x.By),(.bool x.Bk),(.bool x.Bt)]
theorem V8(xs:List Bf)(a0:Bool)(a:Bool)(b:Bool)(c:Bool)(d:Bool)(e:Bool)(f:Bool):xs.map GG++[D.agg [(.bool a0),(.bool a),(.bool b),(.bool c),(.bool d),(.bool e),(.bool f)]]=(xs++[({ Bw:=a0,Bu:=a,Bs:=b,Bx:=c,By:=d,Bk:=e,Bt:=f }:Bf)]).map GG:=by simp[GG,Ao]
theorem WQ(xs:List Bf)(i:Nat)(a0:Bool)(a:Bool)(b:Bool)(c:Bool)(d:Bool)(e:Bool)(f:Bool):(xs.map GG).set i (D.agg [(.bool a0),(.bool a),(.bool b),(.bool c),(.bool d),(.bool e),(.bool f)])=(xs.set i ({ Bw:=a0,Bu:=a,Bs:=b,Bx:=c,By:=d,Bk:=e,Bt:=f }:Bf)).map GG:=by rw[vd];rfl
def B6(x:AO):D:=.agg [(.int .i64 x.S),(.int .i64 x.T)]
theorem gC(xs:List AO)(a0:Int)(a:Int):xs.map B6++[D.agg [(.int .i64 a0),(.int .i64 a)]]=(xs++[({ S:=a0,T:=a }:AO)]).map B6:=by simp[B6,Ao]
theorem kF(xs:List AO)(i:Nat)(a0:Int)(a:Int):(xs.map B6).set i (D.agg [(.int .i64 a0),(.int .i64 a)])=(xs.set i ({ S:=a0,T:=a }:AO)).map B6:=by rw[vd];rfl
def A5(x:An):D:=.agg [(Ao 1 (D.int .i64) x.Q),(.int .i64 x.Af),(.int .i64 x.A6),(.int .i64 x.A8),(.int .i64 x.Ba),(.int .i64 x.Bg),(Ao 1 (D.int .i64) x.G)]
theorem WT(xs:List An)(a0:List Int)(a:Int)(b:Int)(c:Int)(d:Int)(e:Int)(f:List Int):xs.map A5++[D.agg [(D.list 1 (List.map (D.int .i64) a0)),(.int .i64 a),(.int .i64 b),(.int .i64 c),(.int .i64 d),(.int .i64 e),(D.list 1 (List.map (D.int .i64) f))]]=(xs++[({ Q:=a0,Af:=a,A6:=b,A8:=c,Ba:=d,Bg:=e,G:=f }:An)]).map A5:=by simp[A5,Ao]
theorem Yz(xs:List An)(i:Nat)(a0:List Int)(a:Int)(b:Int)(c:Int)(d:Int)(e:Int)(f:List Int):(xs.map A5).set i (D.agg [(D.list 1 (List.map (D.int .i64) a0)),(.int .i64 a),(.int .i64 b),(.int .i64 c),(.int .i64 d),(.int .i64 e),(D.list 1 (List.map (D.int .i64) f))])=(xs.set i ({ Q:=a0,Af:=a,A6:=b,A8:=c,Ba:=d,Bg:=e,G:=f }:An)).map A5:=by rw[vd];rfl
def H6(x:Ei):D:=.agg [(Ao 2 Ah x.V),(.int .i64 x.Y),(Ao 7 A5 x.A1)]
theorem dY(xs:List Ei)(a0:List Ac)(a:Int)(b:List An):xs.map H6++[D.agg [(D.list 2 (List.map Ah a0)),(.int .i64 a),(D.list 7 (List.map A5 b))]]=(xs++[({ V:=a0,Y:=a,A1:=b }:Ei)]).map H6:=by simp[H6,Ao]
theorem gr(xs:List Ei)(i:Nat)(a0:List Ac)(a:Int)(b:List An):(xs.map H6).set i (D.agg [(D.list 2 (List.map Ah a0)),(.int .i64 a),(D.list 7 (List.map A5 b))])=(xs.set i ({ V:=a0,Y:=a,A1:=b }:Ei)).map H6:=by rw[vd];rfl
def Nj(x:Cw):D:=.agg [(.int .i64 x.Y),(Ao 1 (D.int .i64) x.Ai),(Ao 2 B6 x.A9),(.int .i64 x.A4.S),(.int .i64 x.A4.T),(.int .i64 x.A5.S),(.int .i64 x.A5.T),(.int .i64 x.Af),(.int .i64 x.Bj)]
theorem dW(xs:List Cw)(a0:Int)(a:List Int)(b:List AO)(c:Int)(d:Int)(e:Int)(f:Int)(g:Int)(h:Int):xs.map Nj++[D.agg [(.int .i64 a0),(D.list 1 (List.map (D.int .i64) a)),(D.list 2 (List.map B6 b)),(.int .i64 c),(.int .i64 d),(.int .i64 e),(.int .i64 f),(.int .i64 g),(.int .i64 h)]]=(xs++[({ Y:=a0,Ai:=a,A9:=b,A4:=({ S:=c,T:=d }:AO),A5:=({ S:=e,T:=f }:AO),Af:=g,Bj:=h }:Cw)]).map Nj:=by simp[Nj,Ao]
theorem gq(xs:List Cw)(i:Nat)(a0:Int)(a:List Int)(b:List AO)(c:Int)(d:Int)(e:Int)(f:Int)(g:Int)(h:Int):(xs.map Nj).set i (D.agg [(.int .i64 a0),(D.list 1 (List.map (D.int .i64) a)),(D.list 2 (List.map B6 b)),(.int .i64 c),(.int .i64 d),(.int .i64 e),(.int .i64 f),(.int .i64 g),(.int .i64 h)])=(xs.set i ({ Y:=a0,Ai:=a,A9:=b,A4:=({ S:=c,T:=d }:AO),A5:=({ S:=e,T:=f }:AO),Af:=g,Bj:=h }:Cw)).map Nj:=by rw[vd];rfl
def B7(x:Bb):D:=.agg [(.int .i64 x.Bz),(.int .i64 x.B0),(.int .i64 x.B1),(.int .i64 x.B2),(.int .i64 x.Bv.S),(.int .i64 x.Bv.T)]
theorem WR(xs:List Bb)(a0:Int)(a:Int)(b:Int)(c:Int)(d:Int)(e:Int):xs.map B7++[D.agg [(.int .i64 a0),(.int .i64 a),(.int .i64 b),(.int .i64 c),(.int .i64 d),(.int .i64 e)]]=(xs++[({ Bz:=a0,B0:=a,B1:=b,B2:=c,Bv:=({ S:=d,T:=e }:AO) }:Bb)]).map B7:=by simp[B7,Ao]
theorem Yx(xs:List Bb)(i:Nat)(a0:Int)(a:Int)(b:Int)(c:Int)(d:Int)(e:Int):(xs.map B7).set i (D.agg [(.int .i64 a0),(.int .i64 a),(.int .i64 b),(.int .i64 c),(.int .i64 d),(.int .i64 e)])=(xs.set i ({ Bz:=a0,B0:=a,B1:=b,B2:=c,Bv:=({ S:=d,T:=e }:AO) }:Bb)).map B7:=by rw[vd];rfl
def Ie(x:Q1):D:=.agg [(.int .i64 x.C),(.int .i64 x.Af)]
theorem kI(xs:List Q1)(a0:Int)(a:Int):xs.map Ie++[D.agg [(.int .i64 a0),(.int .i64 a)]]=(xs++[({ C:=a0,Af:=a }:Q1)]).map Ie:=by simp[Ie,Ao]
theorem nV(xs:List Q1)(i:Nat)(a0:Int)(a:Int):(xs.map Ie).set i (D.agg [(.int .i64 a0),(.int .i64 a)])=(xs.set i ({ C:=a0,Af:=a }:Q1)).map Ie:=by rw[vd];rfl
def R8(x:WF):D:=.agg [(.int .i64 x.Af),(.int .i64 x.Bm),(.int .i64 x.Bn),(.int .i64 x.Bo),(.int .i64 x.Bp),(.int .i64 x.Bq)]
theorem kJ(xs:List WF)(a0:Int)(a:Int)(b:Int)(c:Int)(d:Int)(e:Int):xs.map R8++[D.agg [(.int .i64 a0),(.int .i64 a),(.int .i64 b),(.int .i64 c),(.int .i64 d),(.int .i64 e)]]=(xs++[({ Af:=a0,Bm:=a,Bn:=b,Bo:=c,Bp:=d,Bq:=e }:WF)]).map R8:=by simp[R8,Ao]
theorem nW(xs:List WF)(i:Nat)(a0:Int)(a:Int)(b:Int)(c:Int)(d:Int)(e:Int):(xs.map R8).set i (D.agg [(.int .i64 a0),(.int .i64 a),(.int .i64 b),(.int .i64 c),(.int .i64 d),(.int .i64 e)])=(xs.set i ({ Af:=a0,Bm:=a,Bn:=b,Bo:=c,Bp:=d,Bq:=e }:WF)).map R8:=by rw[vd];rfl
def DG(x:AR):D:=.agg [(.int .i64 x.Kind),(.int .i64 x.Number.S),(.int .i64 x.Number.T),(Ao 2 Ah x.Table.V),(.int .i64 x.Table.Y),(Ao 7 A5 x.Table.A1),(.int .i64 x.Model.Y),(Ao 1 (D.int .i64) x.Model.Ai),(Ao 2 B6 x.Model.A9),(.int .i64 x.Model.A4.S),(.int .i64 x.Model.A4.T),(.int .i64 x.Model.A5.S),(.int .i64 x.Model.A5.T),(.int .i64 x.Model.Af),(.int .i64 x.Model.Bj),(Ao 6 B7 x.Curve),(Ao 2 Ie x.Hist),(.int .i64 x.Box.Af),(.int .i64 x.Box.Bm),(.int .i64 x.Box.Bn),(.int .i64 x.Box.Bo),(.int .i64 x.Box.Bp),(.int .i64 x.Box.Bq),(Ao 1 (D.int .i64) x.Lineage)]
theorem dZ(xs:List AR)(a0:Int)(o:Int)(p:Int)(q:List Ac)(r:Int)(s:List An)(t:Int)(u:List Int)(v:List AO)(w:Int)(a:Int)(b:Int)(c:Int)(d:Int)(e:Int)(f:List Bb)(g:List Q1)(h:Int)(i:Int)(j:Int)(k:Int)(l:Int)(m:Int)(n:List Int):xs.map DG++[D.agg [(.int .i64 a0),(.int .i64 o),(.int .i64 p),(D.list 2 (List.map Ah q)),(.int .i64 r),(D.list 7 (List.map A5 s)),(.int .i64 t),(D.list 1 (List.map (D.int .i64) u)),(D.list 2 (List.map B6 v)),(.int .i64 w),(.int .i64 a),(.int .i64 b),(.int .i64 c),(.int .i64 d),(.int .i64 e),(D.list 6 (List.map B7 f)),(D.list 2 (List.map Ie g)),(.int .i64 h),(.int .i64 i),(.int .i64 j),(.int .i64 k),(.int .i64 l),(.int .i64 m),(D.list 1 (List.map (D.int .i64) n))]]=(xs++[({ Kind:=a0,Number:=({ S:=o,T:=p }:AO),Table:=({ V:=q,Y:=r,A1:=s }:Ei),Model:=({ Y:=t,Ai:=u,A9:=v,A4:=({ S:=w,T:=a }:AO),A5:=({ S:=b,T:=c }:AO),Af:=d,Bj:=e }:Cw),Curve:=f,Hist:=g,Box:=({ Af:=h,Bm:=i,Bn:=j,Bo:=k,Bp:=l,Bq:=m }:WF),Lineage:=n }:AR)]).map DG:=by simp[DG,Ao]
theorem gu(xs:List AR)(i:Nat)(a0:Int)(p:Int)(q:Int)(r:List Ac)(s:Int)(t:List An)(u:Int)(v:List Int)(w:List AO)(x:Int)(a:Int)(b:Int)(c:Int)(d:Int)(e:Int)(f:List Bb)(g:List Q1)(h:Int)(j:Int)(k:Int)(l:Int)(m:Int)(n:Int)(o:List Int):(xs.map DG).set i (D.agg [(.int .i64 a0),(.int .i64 p),(.int .i64 q),(D.list 2 (List.map Ah r)),(.int .i64 s),(D.list 7 (List.map A5 t)),(.int .i64 u),(D.list 1 (List.map (D.int .i64) v)),(D.list 2 (List.map B6 w)),(.int .i64 x),(.int .i64 a),(.int .i64 b),(.int .i64 c),(.int .i64 d),(.int .i64 e),(D.list 6 (List.map B7 f)),(D.list 2 (List.map Ie g)),(.int .i64 h),(.int .i64 j),(.int .i64 k),(.int .i64 l),(.int .i64 m),(.int .i64 n),(D.list 1 (List.map (D.int .i64) o))])=(xs.set i ({ Kind:=a0,Number:=({ S:=p,T:=q }:AO),Table:=({ V:=r,Y:=s,A1:=t }:Ei),Model:=({ Y:=u,Ai:=v,A9:=w,A4:=({ S:=x,T:=a }:AO),A5:=({ S:=b,T:=c }:AO),Af:=d,Bj:=e }:Cw),Curve:=f,Hist:=g,Box:=({ Af:=h,Bm:=j,Bn:=k,Bo:=l,Bp:=m,Bq:=n }:WF),Lineage:=o }:AR)).map DG:=by rw[vd];rfl
def AC(x:AF):D:=.agg [(.str x.I),(.bool x.Bc),(.int .i64 x.At.Kind),(.int .i64 x.At.Number.S),(.int .i64 x.At.Number.T),(Ao 2 Ah x.At.Table.V),(.int .i64 x.At.Table.Y),(Ao 7 A5 x.At.Table.A1),(.int .i64 x.At.Model.Y),(Ao 1 (D.int .i64) x.At.Model.Ai),(Ao 2 B6 x.At.Model.A9),(.int .i64 x.At.Model.A4.S),(.int .i64 x.At.Model.A4.T),(.int .i64 x.At.Model.A5.S),(.int .i64 x.At.Model.A5.T),(.int .i64 x.At.Model.Af),(.int .i64 x.At.Model.Bj),(Ao 6 B7 x.At.Curve),(Ao 2 Ie x.At.Hist),(.int .i64 x.At.Box.Af),(.int .i64 x.At.Box.Bm),(.int .i64 x.At.Box.Bn),(.int .i64 x.At.Box.Bo),(.int .i64 x.At.Box.Bp),(.int .i64 x.At.Box.Bq),(Ao 1 (D.int .i64) x.At.Lineage)]
theorem YW(xs:List AF)(a0:ByteArray)(q:Bool)(r:Int)(s:Int)(t:Int)(u:List Ac)(v:Int)(w:List An)(x:Int)(y:List Int)(a:List AO)(b:Int)(c:Int)(d:Int)(e:Int)(f:Int)(g:Int)(h:List Bb)(i:List Q1)(j:Int)(k:Int)(l:Int)(m:Int)(n:Int)(o:Int)(p:List Int):xs.map AC++[D.agg [(.str a0),(.bool q),(.int .i64 r),(.int .i64 s),(.int .i64 t),(D.list 2 (List.map Ah u)),(.int .i64 v),(D.list 7 (List.map A5 w)),(.int .i64 x),(D.list 1 (List.map (D.int .i64) y)),(D.list 2 (List.map B6 a)),(.int .i64 b),(.int .i64 c),(.int .i64 d),(.int .i64 e),(.int .i64 f),(.int .i64 g),(D.list 6 (List.map B7 h)),(D.list 2 (List.map Ie i)),(.int .i64 j),(.int .i64 k),(.int .i64 l),(.int .i64 m),(.int .i64 n),(.int .i64 o),(D.list 1 (List.map (D.int .i64) p))]]=(xs++[({ I:=a0,Bc:=q,At:=({ Kind:=r,Number:=({ S:=s,T:=t }:AO),Table:=({ V:=u,Y:=v,A1:=w }:Ei),Model:=({ Y:=x,Ai:=y,A9:=a,A4:=({ S:=b,T:=c }:AO),A5:=({ S:=d,T:=e }:AO),Af:=f,Bj:=g }:Cw),Curve:=h,Hist:=i,Box:=({ Af:=j,Bm:=k,Bn:=l,Bo:=m,Bp:=n,Bq:=o }:WF),Lineage:=p }:AR) }:AF)]).map AC:=by simp[AC,Ao]
theorem be(xs:List AF)(i:Nat)(a0:ByteArray)(r:Bool)(s:Int)(t:Int)(u:Int)(v:List Ac)(w:Int)(x:List An)(y:Int)(z:List Int)(a:List AO)(b:Int)(c:Int)(d:Int)(e:Int)(f:Int)(g:Int)(h:List Bb)(j:List Q1)(k:Int)(l:Int)(m:Int)(n:Int)(o:Int)(p:Int)(q:List Int):(xs.map AC).set i (D.agg [(.str a0),(.bool r),(.int .i64 s),(.int .i64 t),(.int .i64 u),(D.list 2 (List.map Ah v)),(.int .i64 w),(D.list 7 (List.map A5 x)),(.int .i64 y),(D.list 1 (List.map (D.int .i64) z)),(D.list 2 (List.map B6 a)),(.int .i64 b),(.int .i64 c),(.int .i64 d),(.int .i64 e),(.int .i64 f),(.int .i64 g),(D.list 6 (List.map B7 h)),(D.list 2 (List.map Ie j)),(.int .i64 k),(.int .i64 l),(.int .i64 m),(.int .i64 n),(.int .i64 o),(.int .i64 p),(D.list 1 (List.map (D.int .i64) q))])=(xs.set i ({ I:=a0,Bc:=r,At:=({ Kind:=s,Number:=({ S:=t,T:=u }:AO),Table:=({ V:=v,Y:=w,A1:=x }:Ei),Model:=({ Y:=y,Ai:=z,A9:=a,A4:=({ S:=b,T:=c }:AO),A5:=({ S:=d,T:=e }:AO),Af:=f,Bj:=g }:Cw),Curve:=h,Hist:=j,Box:=({ Af:=k,Bm:=l,Bn:=m,Bo:=n,Bp:=o,Bq:=p }:WF),Lineage:=q }:AR) }:AF)).map AC:=by rw[vd];rfl
def Fq(x:Ev):D:=.agg [(Ao 2 Ai x.Ao.K),(Ao 7 Am x.Ao.A),(.str x.X.Ae),(.int .i64 x.X.Ag),(Ao 2 Ah x.X.E),(Ao 1 (Ao 1 (D.int .i64)) x.X.G)]
theorem TH(xs:List Ev)(a0:List Aj)(a:List As)(b:ByteArray)(c:Int)(d:List Ac)(e:List (List Int)):xs.map Fq++[D.agg [(D.list 2 (List.map Ai a0)),(D.list 7 (List.map Am a)),(.str b),(.int .i64 c),(D.list 2 (List.map Ah d)),(D.list 1 (List.map (Ao 1 (D.int .i64)) e))]]=(xs++[({ Ao:=({ K:=a0,A:=a }:Aa),X:=({ Ae:=b,Ag:=c,E:=d,G:=e }:Au) }:Ev)]).map Fq:=by simp[Fq,Ao]
theorem UT(xs:List Ev)(i:Nat)(a0:List Aj)(a:List As)(b:ByteArray)(c:Int)(d:List Ac)(e:List (List Int)):(xs.map Fq).set i (D.agg [(D.list 2 (List.map Ai a0)),(D.list 7 (List.map Am a)),(.str b),(.int .i64 c),(D.list 2 (List.map Ah d)),(D.list 1 (List.map (Ao 1 (D.int .i64)) e))])=(xs.set i ({ Ao:=({ K:=a0,A:=a }:Aa),X:=({ Ae:=b,Ag:=c,E:=d,G:=e }:Au) }:Ev)).map Fq:=by rw[vd];rfl
def Fs(x:A7):D:=.agg [(Ao 2 Ai x.L.Ao.K),(Ao 7 Am x.L.Ao.A),(.str x.L.X.Ae),(.int .i64 x.L.X.Ag),(Ao 2 Ah x.L.X.E),(Ao 1 (Ao 1 (D.int .i64)) x.L.X.G),(Ao 26 AC x.A3)]
theorem TI(xs:List A7)(a0:List Aj)(a:List As)(b:ByteArray)(c:Int)(d:List Ac)(e:List (List Int))(f:List AF):xs.map Fs++[D.agg [(D.list 2 (List.map Ai a0)),(D.list 7 (List.map Am a)),(.str b),(.int .i64 c),(D.list 2 (List.map Ah d)),(D.list 1 (List.map (Ao 1 (D.int .i64)) e)),(D.list 26 (List.map AC f))]]=(xs++[({ L:=({ Ao:=({ K:=a0,A:=a }:Aa),X:=({ Ae:=b,Ag:=c,E:=d,G:=e }:Au) }:Ev),A3:=f }:A7)]).map Fs:=by simp[Fs,Ao]
theorem UU(xs:List A7)(i:Nat)(a0:List Aj)(a:List As)(b:ByteArray)(c:Int)(d:List Ac)(e:List (List Int))(f:List AF):(xs.map Fs).set i (D.agg [(D.list 2 (List.map Ai a0)),(D.list 7 (List.map Am a)),(.str b),(.int .i64 c),(D.list 2 (List.map Ah d)),(D.list 1 (List.map (Ao 1 (D.int .i64)) e)),(D.list 26 (List.map AC f))])=(xs.set i ({ L:=({ Ao:=({ K:=a0,A:=a }:Aa),X:=({ Ae:=b,Ag:=c,E:=d,G:=e }:Au) }:Ev),A3:=f }:A7)).map Fs:=by rw[vd];rfl
def BV(x:AQ):D:=.agg [(.int .u64 x.D),(.int .u64 x.C)]
theorem UW(xs:List AQ)(a0:Int)(a:Int):xs.map BV++[D.agg [(.int .u64 a0),(.int .u64 a)]]=(xs++[({ D:=a0,C:=a }:AQ)]).map BV:=by simp[BV,Ao]
theorem V6(xs:List AQ)(i:Nat)(a0:Int)(a:Int):(xs.map BV).set i (D.agg [(.int .u64 a0),(.int .u64 a)])=(xs.set i ({ D:=a0,C:=a }:AQ)).map BV:=by rw[vd];rfl
def Ba(p0:List Int):Option (List Int):=bif rm 0 p0.length then some p0 else none
def sM(xs:List Int):List Int:=xs.mergeSort λx y=>decide (x<=y)
def R1(p0:List Int):Option (List Int):=bif rm 0 p0.length then some (sM p0)else none
def Dh(p0:Int):Option ByteArray:=bif decide (0<=p0/\p0<100)then some ⟨(Go.Lib.decDigits p0.toNat).toArray⟩else none
def D8(p0:List Int)(p1:Int->Option Bool):Option (List Int):=bif(rm 0 p0.length&&p0.all λx=>(p1 x).isSome)then some (p0.filter λx=>p1 x==some false)else none
open Go
end Go.Proofs.YtaojdkijihbaoaaGreatDoor.P
namespace Go.Proofs.YtaojdkijihbaoaaGreatDoor.P.F
def Hi(z:Int):Int:=z/18446744073709551616%18446744073709551616
def Lo(z:Int):Int:=z%18446744073709551616
def B127:Int:=170141183460469231731687303715884105728
def nn(num den:Int):Int:=if den<0 then -num else num
def okR(n:Int)(d:Nat):Bool:=decide (((n.natAbs/Nat.gcd d n.natAbs:Nat):Int)<=1152921504606846976)&&decide (((d/Nat.gcd d n.natAbs:Nat):Int)<=1152921504606846976)
def redF(n:Int)(d:Nat):Int×Int:=bif okR n d then(((n.natAbs/Nat.gcd d n.natAbs:Nat):Int)*n.sign,((d/Nat.gcd d n.natAbs:Nat):Int))else(0,0)
def redE(n:Int)(d:Nat):Int:=bif okR n d then 0 else 14
def FD(xs:List Int):List Int:=xs.mergeSort λx y=>decide (x<=y)
def setI(xs:List Int):List Int:=Go.Lib.compact (FD xs)
def fH(x:Int):List Int->List Int
 | []=>[x]
 | y :: r=>bif decide (x<y)then x :: y :: r else bif x==y then y :: r else y :: fH x r
def setU(xs:List Int):List Int:=xs.foldr fH []
theorem setI_len(xs:List Int):(setI xs).length<=xs.length:=by
 unfold setI Go.Lib.compact Go.Lib.compactUpTo;rw[ua];exact uK (vZ _ _) (by simp[FD,List.length_mergeSort])
structure St where
 time:Int
 risk:Int
 ev:Int
 lf:Int
 fr:Int×Int
abbrev PS:=List (Int×Bool)
def Q0(t:Int)(ps:PS):Int:=((ps.filter λp=>p.1==t&&p.2).length:Nat)
def YC(t:Int)(ps:PS):Int:=((ps.filter λp=>p.1==t&&!p.2).length:Nat)
def stepGo(ps:PS):List Int->Int->Int×Int->List St->List St×Int
 | [],_,_,acc=>(acc,0)
 | t :: r,left,s,acc =>
   bif okR (s.1*(redF (left-Q0 t ps) left.toNat).1) (s.2*(redF (left-Q0 t ps) left.toNat).2).toNat then
    stepGo ps r (left-(Q0 t ps+YC t ps)) (redF (s.1*(redF (left-Q0 t ps) left.toNat).1) (s.2*(redF (left-Q0 t ps) left.toNat).2).toNat)
     (acc++[⟨t,left,Q0 t ps,YC t ps,redF (s.1*(redF (left-Q0 t ps) left.toNat).1) (s.2*(redF (left-Q0 t ps) left.toNat).2).toNat⟩])
   else([],14)
def tm(ps:PS):List Int:=ps.map λp=>p.1
def es(ps:PS):List Bool:=ps.map λp=>p.2
def stepsF(ps:PS):List St×Int:=stepGo ps (setI (tm ps)) ps.length (1,1) []
def lrgT(v:Int):Bool:=bif decide (v<0)then true else decide (v>1000000)
theorem stepGo_len(b:PS):∀(l:List Int)(left:Int)(s:Int×Int)(a:List St),(stepGo b l left s a).1.length<=l.length+a.length
 | [],_,_,a=>by simp[stepGo]
 | t :: r,left,s,a=>by
   unfold stepGo;generalize redF (left-Q0 t b) left.toNat=q
   cases okR (s.1*q.1) (s.2*q.2).toNat with
   | true =>
     have:=stepGo_len b r (left-(Q0 t b+YC t b)) (redF (s.1*q.1) (s.2*q.2).toNat) (a++[⟨t,left,Q0 t b,YC t b,redF (s.1*q.1) (s.2*q.2).toNat⟩]);simp only[uV,vu,wu]at this ⊢;exact uK this (by omega)
   | false=>exact ug _
end Go.Proofs.YtaojdkijihbaoaaGreatDoor.P.F
namespace Go.Proofs.YtaojdkijihbaoaaGreatDoor.P
def oe(s:F.St):Bb:={ Bz:=s.time,B0:=s.risk,B1:=s.ev,B2:=s.lf,Bv:={ S:=s.fr.1,T:=s.fr.2 } }
def Og(ts:List Int)(evs:List Bool):List F.St×Int:=bif decide (ts.length=evs.length)then(bif decide (ts.length<=200)then(bif ts.any F.lrgT then([],2)else F.stepsF (ts.zip evs))else([],1))else([],17)
def gD(ts:List Int)(evs:List Bool):List Bb×Int:=((Og ts evs).1.map oe,(Og ts evs).2)
def OT(p0:List Int)(p1:List Bool):Option (List Bb×Int):=bif decide (p0.length<=100000)then some (gD p0 p1)else none
theorem gG(ts:List Int)(a:List Bool):(Og ts a).1.length<=200:=by
 unfold Og;by_cases b:ts.length=a.length
 ·rw[un b,uY];by_cases c:ts.length<=200
  ·rw[un c,uY]
   cases ts.any F.lrgT with
   | true=>exact ug _
   | false =>
     have:=F.stepGo_len (ts.zip a) (F.setI (F.tm (ts.zip a))) (ts.zip a).length (1,1) [];have d:=F.setI_len (F.tm (ts.zip a));have e:(F.tm (ts.zip a)).length=min ts.length a.length:=by simp[F.tm]
     show(F.stepGo _ _ _ _ _).1.length<=200;simp only[wu]at this;omega
  ·rw[uB c];exact ug _
 ·rw[uB b];exact ug _
theorem gF(ts:List Int)(a:List Bool):(gD ts a).1.length<=200:=by
 show((Og ts a).1.map oe).length<=200;rw[ua];exact gG ts a
def kU(p:AO):Bool:=decide ((1<=p.T/\p.T<=1152921504606846976)/\(-1152921504606846976<=p.S/\p.S<=1152921504606846976)/\Nat.gcd p.S.natAbs p.T.natAbs=1)
def WP(n:Int)(d:Nat):AO×Int:=({ S:=(F.redF n d).1,T:=(F.redF n d).2 },F.redE n d)
def jP(n:Int):Bool:=decide (-9223372036854775808<=n/\n<=9223372036854775807)
def Mj(p0:Int)(p1:Int):Option (AO×Int) :=
 bif jP p0&&jP p1 then(bif p1==0 then some ({ S:=0,T:=0 },18)else some (WP (F.nn p0 p1) p1.natAbs))else none
def Uy(p0:AO)(p1:AO):Option (AO×Int):=bif kU p0&&kU p1 then some (WP (p0.S*p1.T-p1.S*p0.T) (p0.T*p1.T).toNat)else none
def Ux(p0:AO)(p1:AO):Option (AO×Int):=bif kU p0&&kU p1 then some (WP (p0.S*p1.S) (p0.T*p1.T).toNat)else none
def Uv(p0:AO)(p1:AO):Option (AO×Int):=bif kU p0&&kU p1 then some (WP (p0.S*p1.T+p1.S*p0.T) (p0.T*p1.T).toNat)else none
def Uw(p0:AO)(p1:AO):Option (AO×Int) :=
 bif kU p0&&kU p1 then(bif p1.S==0 then some ({ S:=0,T:=0 },18)else some (WP (F.nn (p0.S*p1.T) (p1.S*p0.T)) (p1.S*p0.T).natAbs))else none
def IZ(p0:List Int)(p1:List Int):Option (List Int):=bif decide (p0.length<=100000/\p1.length<=100000)then some (F.setU (p0++p1))else none
open Go Go.Abs Go.Proofs
def Qh(m:List (List Int))(r c:Nat):Int:=(m.getD r []).getD c 0
structure Xn(w:World)(v:Value)(m:List (List Int))(ga:Option Addr)(gb go Gc:Nat)(A:Nat->Option Addr)(C RB RO:Nat->Nat):Prop where
 val:v=.slice ga m.length Gc
 ga:0<m.length->ga=some ⟨gb,go,none⟩
 row:∀r,r<m.length->w.cell? ⟨gb,go+r,none⟩=some (.slice (A r) ((m.getD r []).length) (C r))
 cell:∀r,r<m.length->∀c,c<(m.getD r []).length->A r=some ⟨RB r,RO r,none⟩/\w.cell? ⟨RB r,RO r+c,none⟩=some (.int .i64 (Qh m r c))
theorem Ht{O:Nat->Prop}{w:World}{v:Value}{l:List Int}(h:Ay O w v (D.list 1 (l.map (D.int .i64)))) :
 ∃a cap b o,v=.slice a l.length cap/\∀c,c<l.length->a=some ⟨b,o,none⟩/\¬O b/\b<w.heap.size/\w.cell? ⟨b,o+c,none⟩=some (.int .i64 (l.getD c 0)):=by
 generalize hx:D.list 1 (l.map (D.int .i64))=x at h
 cases h<;>simp only[D.list.injEq,reduceCtorEq]at hx
 case emp a cap sz =>
  have:l=[]:=List.map_eq_nil_iff.1 hx.2;subst this;exact⟨a,cap,0,0,rfl,λc e=>absurd e (wW _)⟩
 case list b off cap sz xs c hne hb hO hcap hsz h1 hcell h =>
  obtain⟨rfl,rfl⟩:=hx;refine⟨some ⟨b,off,none⟩,cap,b,off,by rw[ua],λk hk=>⟨rfl,hO,hb,?_⟩⟩;have d:(l.map (D.int .i64))[k]?=some (D.int .i64 l[k]):=by simp[hk]
  have:=hcell k (D.int .i64 l[k]) 0 (D.int .i64 l[k]) d rfl;have r:=h k (D.int .i64 l[k]) 0 (D.int .i64 l[k]) d rfl;rw[vV,vF]at this;rw[this];generalize c k 0=q at r
  cases r
  simp[List.getD,hk]
theorem RP{O:Nat->Prop}{w:World}{v:Value}{m:List (List Int)}(h:Ay O w v (D.list 1 (m.map (Ao 1 (D.int .i64))))) :
 ∃n gb go Gc A C RB RO,Xn w v m n gb go Gc A C RB RO/\(0<m.length->¬O gb/\gb<w.heap.size)/\∀r,r<m.length->∀c,c<(m.getD r []).length->¬O (RB r)/\RB r<w.heap.size:=by
 generalize hx:D.list 1 (m.map (Ao 1 (D.int .i64)))=x at h
 cases h<;>simp only[D.list.injEq,reduceCtorEq]at hx
 case emp a cap sz =>
  have:m=[]:=List.map_eq_nil_iff.1 hx.2;subst this;exact⟨a,0,0,cap,λ_=>none,λ_=>0,λ_=>0,λ_=>0,⟨rfl,λh=>absurd h (Nat.lt_irrefl _),λr h=>absurd h (wW _),λr h=>absurd h (wW _)⟩,λh=>absurd h (Nat.lt_irrefl _),λr h=>absurd h (wW _)⟩
 case list b off cap sz xs c hne hb hO hcap hsz j hcell h =>
  obtain⟨rfl,rfl⟩:=hx
  have hr:∀r,∃q:Option Addr×Nat×Nat×Nat,r<m.length->w.cell? ⟨b,off+r,none⟩=some (.slice q.1 ((m.getD r []).length) q.2.1) /\
   ∀k,k<(m.getD r []).length->q.1=some ⟨q.2.2.1,q.2.2.2,none⟩/\¬O q.2.2.1/\q.2.2.1<w.heap.size/\w.cell? ⟨q.2.2.1,q.2.2.2+k,none⟩=some (.int .i64 (Qh m r k)):=by
   intro r;by_cases d:r<m.length
   ·have l:(m.map (Ao 1 (D.int .i64)))[r]?=some ((Ao 1 (D.int .i64)) m[r]):=by simp[d]
    have g:m.getD r []=m[r]:=by simp[List.getD,d]
    have e:=hcell r ((Ao 1 (D.int .i64)) m[r]) 0 ((Ao 1 (D.int .i64)) m[r]) l rfl;have hd:=h r ((Ao 1 (D.int .i64)) m[r]) 0 ((Ao 1 (D.int .i64)) m[r]) l rfl;obtain⟨a,cp,o,o',p,hk⟩:=Ht hd;refine⟨(a,cp,o,o'),λ_=>⟨?_,?_⟩⟩
    ·rw[vV,vF]at e;rw[e,p,g]
    ·intro k f;rw[g]at f;obtain⟨s,t,u,y⟩:=hk k f;refine⟨s,t,u,?_⟩;rw[y];unfold Qh;rw[g]
   ·exact⟨(none,0,0,0),λh=>absurd h d⟩
  obtain⟨q,i⟩:=Classical.axiomOfChoice hr;refine⟨some ⟨b,off,none⟩,b,off,cap,λr=>(q r).1,λr=>(q r).2.1,λr=>(q r).2.2.1,λr=>(q r).2.2.2,⟨by rw[ua],λ_=>rfl,λr hr=>(i r hr).1,λr hr c e=>?_⟩,λ_=>⟨hO,hb⟩,λr hr c e=>?_⟩
  ·obtain⟨j,_,_,z⟩:=(i r hr).2 c e;exact⟨j,z⟩
  ·obtain⟨_,B,E,_⟩:=(i r hr).2 c e;exact⟨B,E⟩
theorem b9(z:Value)(k i:Nat)(h:i<k):(Builtin.zeroCells #[z] k)[i]?=some z:=by
 simp[Builtin.zeroCells,h,Nat.mod_one]
structure Mx(w wr:World)(tO tI:TypeId)(n:Nat)(cp:Nat->Nat)(S:Nat->Nat->Int):Prop where
 since:w.Since w.heap.size wr
 size:wr.heap.size=w.heap.size+1+n
 cap:∀j,j<n->n<=cp j
 top:wr.rowIs w.heap.size tO n (λj=>.slice (some ⟨w.heap.size+1+j,0,none⟩) n (cp j))
 row:∀j,j<n->wr.rowIs (w.heap.size+1+j) tI (cp j) (λc=>.int .i64 (S j c))
structure ML(w wr:World)(tO tI:TypeId)(n:Nat)(cp:Nat->Nat)(S:Nat->Nat->Int)(r:Nat):Prop where
 since:w.Since w.heap.size wr
 size:wr.heap.size=w.heap.size+1+r
 cap:∀j,j<r->n<=cp j
 top:wr.rowIs w.heap.size tO n (λj=>if j<r then .slice (some ⟨w.heap.size+1+j,0,none⟩) n (cp j)else .slice none 0 0)
 row:∀j,j<r->wr.rowIs (w.heap.size+1+j) tI (cp j) (λc=>.int .i64 (S j c))
section
variable {w wr:World} {tO tI:TypeId} {n r:Nat} {cp:Nat->Nat} {S S':Nat->Nat->Int}
theorem ML.start(w:World)(tO tI:TypeId)(n:Nat)(cp:Nat->Nat)(S:Nat->Nat->Int):ML w (w.alloc (.cells (madeCells #[.slice none 0 0] n) tO)) tO tI n cp S 0 :=
 ⟨(World.Since.refl _ _).alloc (uh _) _,by simp,λj a=>absurd a (wW _),(World.rowIs_made w _ n tO).congr (λj _=>by simp),λj a=>absurd a (wW _)⟩
theorem ML.step(h:ML w wr tO tI n cp S r){u:World}{c:Nat}(l:n<=c)(a:wr.Since wr.heap.size u)(f:u.heap.size=wr.heap.size+1)(g:u.rowIs wr.heap.size tI c (λc=>.int .i64 (S r c))) :
 ML w (u.setCell ⟨w.heap.size,r,none⟩ (.slice (some ⟨w.heap.size+1+r,0,none⟩) n c)) tO tI n (λj=>if j=r then c else cp j) S (r+1):=by
 have d:w.Since w.heap.size u:=h.since.trans ⟨a.os,a.tape,a.output,a.size,λk hk=>a.block k (by rw[h.size];omega)⟩;have i:∀k,k<w.heap.size+1+r->u.heap[k]?=wr.heap[k]?:=λk hk=>a.block k (by rw[h.size];exact hk);rw[h.size]at f g;refine⟨d.setCell (uh _) _,by simp[f];omega,λj m=>?_,((h.top.of_block (i _ (by omega))).set r _).congr (λj _=>?_),λj m=>?_⟩
 ·by_cases e:j=r
  ·simp only[e];simpa using l
  ·simp only[e,if_false];exact h.cap j (by omega)
 ·by_cases e:j=r
  ·subst e;simp
  ·by_cases b:j<r
   ·rw[uo e,uk b,uk (by omega),uo e]
   ·rw[uo e,uo b,uo (by omega)]
 ·by_cases e:j=r
  ·subst e;simp only[if_true];exact g.setOther (by show w.heap.size+1+j≠w.heap.size;omega) _
  ·simp only[e,if_false];exact((h.row j (by omega)).of_block (i _ (by omega))).setOther (by show w.heap.size+1+j≠w.heap.size;omega) _
theorem ML.cp_congr(h:ML w wr tO tI n cp S r){b:Nat->Nat}(e:∀j,j<r->b j=cp j):ML w wr tO tI n b S r :=
 ⟨h.since,h.size,λj a=>by rw[e j a];exact h.cap j a,h.top.congr λj _=>by
  by_cases a:j<r
  ·rw[uk a,uk a,e j a]
  ·rw[uo a,uo a],λj a=>by rw[e j a];exact h.row j a⟩
theorem ML.done(h:ML w wr tO tI n cp S n):Mx w wr tO tI n cp S:=⟨h.since,h.size,h.cap,h.top.congr λj a=>by rw[uk a],h.row⟩
theorem ML.congr(h:ML w wr tO tI n cp S r)(e:∀i j,i<r->S i j=S' i j):ML w wr tO tI n cp S' r:=⟨h.since,h.size,h.cap,h.top,λj a=>(h.row j a).congr λc _=>by rw[e j c a]⟩
theorem ML.drew(h:ML w wr tO tI n cp S r):ML w wr.drew tO tI n cp S r:=⟨h.since.drew,h.size,h.cap,h.top,h.row⟩
theorem ML.set(h:ML w wr tO tI n cp S r){i j:Nat}(v:Int)(e:∀a b,a<r->b<cp a->S' a b=if a=i/\b=j then v else S a b):ML w (wr.setCell ⟨w.heap.size+1+i,j,none⟩ (.int .i64 v)) tO tI n cp S' r:=by
 refine⟨h.since.setCell (by show w.heap.size<=w.heap.size+1+i;omega) _,by simp[h.size],h.cap,h.top.setOther (by show w.heap.size≠w.heap.size+1+i;omega) _,λa c=>?_⟩;by_cases g:a=i
 ·subst g;refine((h.row a c).set j _).congr λb d=>?_;rw[e a b c d];by_cases f:b=j
  ·simp[f]
  ·simp[f]
 ·refine((h.row a c).setOther (by show w.heap.size+1+a≠w.heap.size+1+i;omega) _).congr λb d=>?_;rw[e a b c d,uo (by omega)]
theorem Mx.congr(h:Mx w wr tO tI n cp S)(e:∀i j,i<n->j<cp i->S i j=S' i j):Mx w wr tO tI n cp S':=⟨h.since,h.size,h.cap,h.top,λj a=>(h.row j a).congr λc b=>by rw[e j c a b]⟩
theorem Mx.set(h:Mx w wr tO tI n cp S){i j:Nat}(v:Int)(e:∀a b,a<n->b<cp a->S' a b=if a=i/\b=j then v else S a b):Mx w (wr.setCell ⟨w.heap.size+1+i,j,none⟩ (.int .i64 v)) tO tI n cp S':=by
 refine⟨h.since.setCell (by show w.heap.size<=w.heap.size+1+i;omega) _,by simp[h.size],h.cap,h.top.setOther (by show w.heap.size≠w.heap.size+1+i;omega) _,λa c=>?_⟩;by_cases g:a=i
 ·subst g;refine((h.row a c).set j _).congr λb d=>?_;rw[e a b c d];by_cases f:b=j
  ·simp[f]
  ·simp[f]
 ·refine((h.row a c).setOther (by show w.heap.size+1+a≠w.heap.size+1+i;omega) _).congr λb d=>?_;rw[e a b c d,uo (by omega)]
theorem Mx.data(h:Mx w wr tO tI n cp S){O:Nat->Prop}(m:∀b,O b->b<w.heap.size)(p:0<n):Ay O wr (.slice (some ⟨w.heap.size,0,none⟩) n n) (D.list 1 (((List.range n).map λi=>(List.range n).map λj=>S i j).map (Ao 1 (D.int .i64)))):=by
 obtain⟨M,g⟩:∃M:List (List Int),M=(List.range n).map λi=>(List.range n).map λj=>S i j:=⟨_,rfl⟩;rw[<-g];have k:n=(M.map (Ao 1 (D.int .i64))).length:=by rw[g];simp
 have o:∀i x,(M.map (Ao 1 (D.int .i64)))[i]?=some x->i<n/\x=Ao 1 (D.int .i64) ((List.range n).map λj=>S i j):=by
  intro i x hx;rw[g,wI,uu]at hx;by_cases c:i<n
  ·rw[wN c]at hx;exact⟨c,(uc hx).symm⟩
  ·rw[uP (by simpa using c)]at hx
   cases hx
 have:=Ay.list (O:=O) (w:=wr) w.heap.size 0 n 1 (M.map (Ao 1 (D.int .i64))) (λi _=>.slice (some ⟨w.heap.size+1+i,0,none⟩) n (cp i)) (by intro e;rw[e]at k;simp at k;omega) (by rw[h.size];omega) (λl=>by have:=m _ l;omega) (by omega)
  (λx hx=>by obtain⟨r,_,rfl⟩:=List.mem_map.1 hx;rfl) (λx hx y hy=>by obtain⟨r,_,rfl⟩:=List.mem_map.1 hx;simp[D.cells]at hy;subst hy;rfl)
  (λi x j y hx hy=>by
   obtain⟨c,rfl⟩:=o i x hx
   match j,hy with
   | 0,_=>rw[vV,vF,uQ];exact h.top.cell c
   | j+1,hy=>simp[D.cells]at hy)
  (λi x j y hx hy=>by
   obtain⟨c,rfl⟩:=o i x hx
   match j,hy with
   | j+1,hy=>simp[D.cells]at hy
   | 0,hy =>
     simp[D.cells]at hy;subst hy;have d:n=(((List.range n).map λj=>S i j).map (D.int .i64)).length:=by simp
     have:=Ay.list (O:=O) (w:=wr) (w.heap.size+1+i) 0 (cp i) 1 (((List.range n).map λj=>S i j).map (D.int .i64)) (λj _=>.int .i64 (S i j)) (by intro e;rw[e]at d;simp at d;omega) (by rw[h.size];omega) (λl=>by have:=m _ l;omega) (by rw[<-d];exact h.cap i c)
      (λx hx=>by obtain⟨r,_,rfl⟩:=List.mem_map.1 hx;rfl) (λx hx y hy=>by obtain⟨r,_,rfl⟩:=List.mem_map.1 hx;simp[D.cells]at hy;subst hy;rfl)
      (λa x b y hx hy=>by
       rw[wI,uu]at hx;by_cases f:a<n
       ·rw[wN f]at hx;obtain rfl:=uc hx
        match b,hy with
        | 0,_=>rw[vV,vF,uQ];exact(h.row i c).cell (uw f (h.cap i c))
        | b+1,hy=>simp[D.cells]at hy
       ·rw[uP (by simpa using f)]at hx
        cases hx)
      (λa x b y hx hy=>by
       rw[wI,uu]at hx;by_cases f:a<n
       ·rw[wN f]at hx;obtain rfl:=uc hx
        match b,hy with
        | 0,hy=>simp[D.cells]at hy;subst hy;exact .int _ _
        | b+1,hy=>simp[D.cells]at hy
       ·rw[uP (by simpa using f)]at hx
        cases hx)
     rw[<-d]at this;exact this)
 rw[<-k]at this;exact this
end
def M0:List (List Int)->List Bool->Int->Int
 | [],_,p=>p
 | r :: rs,tk,p=>go rs tk r 0 p 0
where
 go (rs:List (List Int)) (tk:List Bool):List Int->Nat->Int->Int->Int
  | [],_,_,s=>s
  | x :: xs,k,p,s=>bif tk.getD k true then go rs tk xs (k+1) p s
      else go rs tk xs (k+1) (-p) (bif x==0 then s else s+M0 rs (tk.set k true) (p*x))
def X7(m:List (List Int)):Int:=M0 m (m.map λ_=>false) 1
def bd:List Int->Nat
 | []=>0
 | x :: xs=>x.natAbs+bd xs
def Yh:List (List Int)->Nat
 | []=>1
 | r :: rs=>bd r*Yh rs
theorem mr(B:Nat)(rs:List (List Int))(ih:∀a p,(M0 rs a p).natAbs<=p.natAbs*B)(a:List Bool) :
 ∀(xs:List Int)(k:Nat)(p s:Int),(M0.go rs a xs k p s).natAbs<=s.natAbs+p.natAbs*(bd xs*B)
 | [],k,p,s=>by simp[M0.go]
 | x :: xs,k,p,s=>by
   have e:(x.natAbs+bd xs)*B=x.natAbs*B+bd xs*B:=vD _ _ _;simp only[M0.go,bd,e,Nat.mul_add]
   cases a.getD k true with
   | true=>simp only[uY];have:=mr B rs ih a xs (k+1) p s;omega
   | false =>
     simp only[ux];have h:=mr B rs ih a xs (k+1) (-p) (bif x==0 then s else s+M0 rs (a.set k true) (p*x));rw[Int.natAbs_neg]at h;have b:=ih (a.set k true) (p*x);rw[Int.natAbs_mul,wb]at b
     cases hx:(x==0)with
     | true=>rw[hx]at h;simp only[uY]at h ⊢;omega
     | false =>
       rw[hx]at h;simp only[ux]at h ⊢;have:=Int.natAbs_add_le s (M0 rs (a.set k true) (p*x));omega
theorem ji:∀(rs:List (List Int))(a:List Bool)(p:Int),(M0 rs a p).natAbs<=p.natAbs*Yh rs
 | [],a,p=>by simp[M0,Yh]
 | r :: rs,a,p=>by
   have:=mr (Yh rs) rs (ji rs) a r 0 p 0
   simpa [M0,Yh] using this
theorem oV(m:List (List Int)):(X7 m).natAbs<=Yh m:=by
 have:=ji m (m.map λ_=>false) 1
 simpa [X7] using this
def Se(m:List (List Int)):Nat->Nat->Nat->Int
 | 0,_,_=>0
 | k+1,a,b=>Go.IntKind.i64.wrap (Se m k a b+Go.IntKind.i64.wrap (Qh m k a*Qh m k b))
def SV(m:List (List Int))(col:Nat)(b:List Int)(i c:Nat):Int:=if c=col then b.getD i 0 else Qh m i c
def kf(n:Nat)(S:Nat->Nat->Int):List (List Int):=(List.range n).map λi=>(List.range n).map λj=>S i j
def lenM(m:List (List Int))(n:Nat):Bool:=m.all λr=>r.length==n
def KP(p0:List (List Int)):Option (List (List Int)) :=
 bif decide (0<p0.length/\p0.length<=1000000/\0<(p0.getD 0 []).length/\(p0.getD 0 []).length<=1000000)&&lenM p0 (p0.getD 0 []).length then some (kf (p0.getD 0 []).length (Se p0 p0.length))else none
def Hr(p0:List (List Int))(p1:Int)(p2:List Int):Option (List (List Int)) :=
 bif decide (0<=p1/\p1<p0.length/\p0.length<=1000000/\p0.length<=p2.length)&&lenM p0 p0.length then some (kf p0.length (SV p0 p1.toNat p2))else none
def m7(n:Int):Bool:=decide (-9223372036854775808<=n/\n<=9223372036854775807)
def oE(z:Int):AQ:={ D:=F.Hi z,C:=F.Lo z }
def OW(n:Int):Bool:=decide (0<=n/\n<18446744073709551616)
def Qg(w:AQ):Int:=bif decide (w.D*18446744073709551616+w.C<F.B127)then w.D*18446744073709551616+w.C else w.D*18446744073709551616+w.C-2*F.B127
def Dj(p0:List (List Int)):Option AQ :=
 bif decide (0<p0.length/\p0.length<=1000)&&(lenM p0 p0.length&&p0.all λr=>r.all m7)then some (oE (X7 p0))else none
def QF(p0:Int):Option AQ:=bif m7 p0 then some (oE p0)else none
def F6(p0:AQ):Option Int:=bif OW p0.D&&OW p0.C then some (Qg p0).sign else none
def GI(p0:AQ)(p1:AQ):Option (AO×Int) :=
 bif(OW p0.D&&OW p0.C)&&((OW p1.D&&OW p1.C)&&(decide (Qg p1≠0/\-F.B127<Qg p0/\-F.B127<Qg p1)))then some ({ S:=(F.redF (F.nn (Qg p0) (Qg p1)) (Qg p1).natAbs).1,T:=(F.redF (F.nn (Qg p0) (Qg p1)) (Qg p1).natAbs).2 },F.redE (F.nn (Qg p0) (Qg p1)) (Qg p1).natAbs)else none
def Hs(p0:Int)(p1:Int):Option (Int×Int):=bif OW p0&&OW p1 then some (p0*p1/18446744073709551616,p0*p1%18446744073709551616)else none
def Jq(p0:Int)(p1:Int)(p2:Int):Option (Int×Int):=bif(OW p0&&OW p1)&&(p2==0||p2==1)then some ((p0+p1+p2)%18446744073709551616,(p0+p1+p2)/18446744073709551616)else none
abbrev Sw(a:ByteArray):Option Bool :=
 bif a.toList==({ data:=#[97,108,108] }:ByteArray).toList then
  some false
 else
  bif a.toList==({ data:=#[97,110,100] }:ByteArray).toList then
   some false
  else
   bif a.toList==({ data:=#[101,118,101,110,116] }:ByteArray).toList then
    some false
   else
    bif a.toList==({ data:=#[102,114,111,109] }:ByteArray).toList then
     some false
    else
     bif a.toList==({ data:=#[109,105,115,115,105,110,103] }:ByteArray).toList then
      some false
     else
      bif a.toList==({ data:=#[110,111,116] }:ByteArray).toList then
       some false
      else
       bif a.toList==({ data:=#[111,110] }:ByteArray).toList then
        some false
       else
        bif a.toList==({ data:=#[111,114] }:ByteArray).toList then
         some false
        else
         bif a.toList==({ data:=#[116,111] }:ByteArray).toList then
          some false
         else
          bif a.toList==({ data:=#[117,110,100,101,114] }:ByteArray).toList then
           some false
          else
           bif a.toList==({ data:=#[119,104,101,114,101] }:ByteArray).toList then
            some false
           else
            some true
abbrev Sv(c:ByteArray)(e:Int->Option Bool)(f:Int->Option Bool)(b:Int):Option Bool :=
 bif decide (b<((Ou c).length:Int))then
  (idx (Ou c) b).bind λa =>
  bif bif bif bif decide (a<97)then true else(decide (a>122))then(bif decide (a<48)then true else(decide (a>57)))else false then(a != 95)else false then
   some false
  else
   f (i64.wrap (b+1))
 else
  e b
def OH(a:ByteArray):Option Bool :=
 iter (λb s=>Sv a (λc=>Sw a) b s) A9 0
def Bz(a:ByteArray):Option Bool :=
 bif bif decide ((a.size:Int)<1)then true else(decide ((a.size:Int)>16))then
  some false
 else
  bif decide (0<=(0:Int)/\(0:Int).toNat<a.size)then
   bif decide ((Gw a 0)<97)then
    some false
   else
    bif decide (0<=(0:Int)/\(0:Int).toNat<a.size)then
     bif decide ((Gw a 0)>122)then
      some false
     else
      OH a
    else none
  else none
abbrev Qj(c:Aj)(f:Int->(List Int)->Option (List Int))(e:(Int×(List Int))->Option (List Int))(a:Int)(b:List Int):Option (List Int) :=
 bif decide (a<(c.Q.length:Int))then
  (idx c.Q a).bind λg =>
  bif decide (a>0)then
   (idx b g.Bd).bind λh =>
   (idx b a).bind λi =>
   e ((i64.wrap (a+1)),(b.set (a:Int).toNat (i64.wrap (h+1))))
  else
   e ((i64.wrap (a+1)),b)
 else
  f a b
def GW(a:Aj):Option (List Int) :=
 bif decide (0<=(a.Q.length:Int))&&rm ((a.Q.length:Int):Int).toNat 0 then
  iter (λb s=>Qj a (λe c=>some c) b s.1 s.2) A9 (0,(List.replicate ((a.Q.length:Int):Int).toNat 0))
 else none
abbrev QA(c:List Int)(g:List Bool)(h:Int->Int->Option Int)(e:(Int×Int)->Option Int)(b:Int)(a:Int):Option Int :=
 bif decide (a<(c.length:Int))then
  (idx c a).bind λf =>
  (idx g a).bind λi =>
  bif i then
   e (b,(i64.wrap (a+1)))
  else
   bif bif decide (b>=0)then(f != b)else false then
    some 5
   else
    e (f,(i64.wrap (a+1)))
 else
  h b a
abbrev QB(a:Aj)(b:List Bool):Option Int :=
 (GW a).bind λc =>
 iter (λe s=>QA c b (λf g=>some 0) e s.1 s.2) A9 ((-1),0)
def Q9(f:Aj)(h:Int->(List (ByteArray×Bool))->(List Bool)->Option Int)(g:(Int×(List (ByteArray×Bool))×(List Bool))->Option Int)(a:Int)(c:List (ByteArray×Bool))(e:List Bool):Option Int :=
 bif decide (a<(f.Q.length:Int))then
  (idx f.Q a).bind λb =>
  (Bz b.I).bind λi =>
  bif !i then
   some 3
  else
   bif(aw b.I c).getD false then
    some 10
   else
    bif bif bif a==0 then(b.Bd != (-1))else false then true else(bif decide (a>0)then(bif decide (b.Bd<0)then true else(decide (b.Bd>=a)))else false)then
     some 6
    else
     bif decide (a>0)then
      (idx e b.Bd).bind λj =>
      g ((i64.wrap (a+1)),(ov b.I true c),(e.set (b.Bd:Int).toNat true))
     else
      g ((i64.wrap (a+1)),(ov b.I true c),e)
 else
  h a c e
def GR(a:Aj):Option Int :=
 (Bz a.I).bind λb =>
 bif !b then
  some 3
 else
  bif(a.Q.length:Int)==0 then
   some 5
  else
   bif decide ((a.Q.length:Int)>60)then
    some 1
   else
    bif decide (0<=(a.Q.length:Int))&&rm ((a.Q.length:Int):Int).toNat 0 then
     iter (λc s=>Q9 a (λf g e=>QB a e) c s.1 s.2.1 s.2.2) A9 (0,[],(List.replicate ((a.Q.length:Int):Int).toNat false))
    else none
abbrev Da(b:List Aj)(c:Aj->Option Bool)(e:Int->Option Int)(f:Int->Option Int)(a:Int):Option Int :=
 bif decide (a<(b.length:Int))then
  (idx b a).bind λg =>
  (c g).bind λh =>
  bif h then
   some a
  else
   f (i64.wrap (a+1))
 else
  e a
def BB(a:List Aj)(b:Aj->Option Bool):Option Int :=
 iter (λc s=>Da a b (λe=>some (-1)) c s) A9 0
def Bd(a:List Aj)(b:Aj->Option Bool):Option Bool :=
 (BB a b).bind λc =>
 some (decide (c>=0))
def M7(a:Aj)(b:Aj):Option Bool :=
 some (a.I.toList==b.I.toList)
abbrev D9(b:List As)(c:As->Option Bool)(e:Int->Option Int)(f:Int->Option Int)(a:Int):Option Int :=
 bif decide (a<(b.length:Int))then
  (idx b a).bind λg =>
  (c g).bind λh =>
  bif h then
   some a
  else
   f (i64.wrap (a+1))
 else
  e a
def BS(a:List As)(b:As->Option Bool):Option Int :=
 iter (λc s=>D9 a b (λe=>some (-1)) c s) A9 0
def Bp(a:List As)(b:As->Option Bool):Option Bool :=
 (BS a b).bind λc =>
 some (decide (c>=0))
def H9(a:As)(b:As):Option Bool :=
 some (a.I.toList==b.I.toList)
abbrev Hl(e:As)(g:Int->Int->Option Int)(f:(Int×Int)->Option Int)(c:Int)(a:Int):Option Int :=
 bif decide (a<(e.N.length:Int))then
  (idx e.N a).bind λb =>
  bif bif a==0 then(b != 1)else false then
   some 2
  else
   bif decide (a>0)then
    bif decide (b<=c)then
     some 2
    else
     bif decide (c≠0)then
      bif bif(Int.tmod b c) != 0 then true else(decide (b>1000000))then
       some 2
      else
       f (b,(i64.wrap (a+1)))
     else none
   else
    f (b,(i64.wrap (a+1)))
 else
  g c a
def ER(a:As):Option Int :=
 bif bif bif decide (a.C<(-1000000))then true else(decide (a.D>1000000))then true else(decide (a.C>a.D))then
  some 2
 else
  bif bif(a.N.length:Int)==0 then true else(decide ((a.N.length:Int)>4))then
   some 1
  else
   iter (λb s=>Hl a (λc e=>some 0) b s.1 s.2) A9 (1,0)
def Fl(a:As):Option Bool :=
 bif bif a.Kind != 2 then(a.Ak != 0)else false then
  some false
 else
  some (bif a.Kind==3 then true else(bif bif bif a.C==0 then(a.D==0)else false then((a.N.length:Int)==0)else false then(!a.Al)else false))
def F9(e:Aa)(b:Int):Option Int :=
 (idx e.A b).bind λa =>
 (Bz a.I).bind λg =>
 bif !g then
  some 3
 else
  bif decide (0<=(0:Int)/\0<=b/\b<=(e.A.length:Int))then
   (Bp (M1 e.A 0 b) (λa0=>H9 a0 a)).bind λh =>
   bif h then
    some 10
   else
    bif a.Kind==1 then
     bif decide (b>0)then
      some 4
     else
      (Fl a).bind λc =>
      bif !c then
       some 11
      else
       some 0
    else
     bif a.Kind==2 then
      bif bif decide (a.Ak<0)then true else(decide (a.Ak>=(e.K.length:Int)))then
       some 5
      else
       (Fl a).bind λc =>
       bif !c then
        some 11
       else
        some 0
     else
      bif a.Kind==3 then
       (ER a).bind λf =>
       bif f != 0 then
        some f
       else
        (Fl a).bind λc =>
        bif !c then
         some 11
        else
         some 0
      else
       some 4
  else none
abbrev Jy(b:Aa)(e:Int->Option Int)(f:Int->Option Int)(a:Int):Option Int :=
 bif decide (a<(b.A.length:Int))then
  (F9 b a).bind λc =>
  bif c != 0 then
   some c
  else
   f (i64.wrap (a+1))
 else
  e a
abbrev M8(a:Aa):Option Int :=
 bif(a.A.length:Int)==0 then
  some 7
 else
  (idx a.A 0).bind λb =>
  bif b.Kind != 1 then
   some 7
  else
   iter (λc s=>Jy a (λe=>some 0) c s) A9 0
abbrev Jw(b:Aa)(f:Int->Option Int)(g:Int->Option Int)(a:Int):Option Int :=
 bif decide (a<(b.K.length:Int))then
  (idx b.K a).bind λc =>
  (GR c).bind λe =>
  bif e != 0 then
   some e
  else
   bif decide (0<=(0:Int)/\0<=a/\a<=(b.K.length:Int))then
    (Bd (M1 b.K 0 a) (λa0=>M7 a0 c)).bind λh =>
    bif h then
     some 10
    else
     g (i64.wrap (a+1))
   else none
 else
  f a
def C4(a:Aa):Option Int :=
 bif bif decide ((a.K.length:Int)>6)then true else(decide ((a.A.length:Int)>8))then
  some 1
 else
  iter (λb s=>Jw a (λc=>M8 a) b s) A9 0
abbrev Hc(c:Ad)(e:Int)(g:Ad->Int->Option Int)(f:Int->Int->Option Int)(h:(Int×Int)->Option Int)(a:Int)(b:Int):Option Int :=
 bif decide (b<(c.H.length:Int))then
  (idx c.H b).bind λi =>
  bif decide (a>e)then
   f a b
  else
   (g i (i64.wrap (e-a))).bind λj =>
   h ((i64.wrap (a+j)),(i64.wrap (b+1)))
 else
  f a b
def FV(d:Nat)(a:Ad->Int->Option Int)(b:Ad)(c:Int):Option Int :=
 iter (λe s=>Hc b c a (λf g=>some f) e s.1 s.2) A9 (1,0)
def FJ:Nat->Ad->Int->Option Int
 | 0,_,_=>none
 | d+1,a,b=>FV d (FJ d) a b
abbrev Ib(c:Ad)(f:Ad->Option Int)(g:Int->Int->Option Int)(h:(Int×Int)->Option Int)(b:Int)(a:Int):Option Int :=
 bif decide (a<(c.H.length:Int))then
  (idx c.H a).bind λi =>
  (f i).bind λe =>
  h ((if e>b then e else b),(i64.wrap (a+1)))
 else
  g b a
def Fp(d:Nat)(a:Ad->Option Int)(b:Ad):Option Int :=
 iter (λc s=>Ib b a (λe f=>some (i64.wrap (e+1))) c s.1 s.2) A9 (0,0)
def D2:Nat->Ad->Option Int
 | 0,_=>none
 | d+1,a=>Fp d (D2 d) a
def N1(a:Int):Option Int :=
 bif a==5 then
  some 2
 else
  bif a==6 then
   some 2
  else
   bif a==7 then
    some 1
   else
    some 0
def Lr(a:Ad):Option Bool :=
 bif bif !(bif bif a.Op==2 then true else(a.Op==3)then true else(a.Op==4))then(a.B != 0)else false then
  some false
 else
  bif bif a.Op != 2 then(a.Z != 0)else false then
   some false
  else
   some (bif a.Op==3 then true else(bif a.C==0 then(a.D==0)else false))
abbrev Ef(c:Aa)(a:Ad):Option Int :=
 (idx c.A a.B).bind λb =>
 bif a.Op==2 then
  bif b.Kind != 2 then
   some 7
  else
   bif decide (a.Z<0)then
    some 6
   else
    (idx c.K b.Ak).bind λe =>
    bif decide (a.Z>=(e.Q.length:Int))then
     some 6
    else
     some 0
 else
  bif a.Op==3 then
   bif b.Kind != 3 then
    some 7
   else
    bif bif bif decide (a.C>a.D)then true else(decide (a.C<(-1000000)))then true else(decide (a.D>1000000))then
     some 2
    else
     some 0
  else
   bif a.Op==4 then
    bif bif b.Kind != 3 then true else(!b.Al)then
     some 7
    else
     some 0
   else
    some 0
def F2(b:Aa)(a:Ad):Option Int :=
 bif bif decide (a.Op<1)then true else(decide (a.Op>7))then
  some 4
 else
  (N1 a.Op).bind λc =>
  bif(a.H.length:Int) != c then
   some 11
  else
   (Lr a).bind λe =>
   bif !e then
    some 11
   else
    bif bif bif a.Op != 2 then(a.Op != 3)else false then(a.Op != 4)else false then
     some 0
    else
     bif bif decide (a.B<0)then true else(decide (a.B>=(b.A.length:Int)))then
      some 7
     else
      Ef b a
abbrev FE(b:Ad)(e:Aa->Ad->Option Int)(f:Aa)(g:Int->Option Int)(h:Int->Option Int)(a:Int):Option Int :=
 bif decide (a<(b.H.length:Int))then
  (idx b.H a).bind λi =>
  (e f i).bind λc =>
  bif c != 0 then
   some c
  else
   h (i64.wrap (a+1))
 else
  g a
def E3(d:Nat)(e:Aa->Ad->Option Int)(a:Aa)(b:Ad):Option Int :=
 (F2 a b).bind λc =>
 bif c != 0 then
  some c
 else
  iter (λf s=>FE b e a (λg=>some 0) f s) A9 0
def Ej:Nat->Aa->Ad->Option Int
 | 0,_,_=>none
 | d+1,a,b=>E3 d (Ej d) a b
def B8(d:Nat)(b:Aa)(a:Ad):Option Int :=
 (C4 b).bind λc =>
 bif c != 0 then
  some c
 else
  (FJ d a 40).bind λe =>
  bif decide (e>40)then
   some 1
  else
   (D2 d a).bind λf =>
   bif decide (f>10)then
    some 22
   else
    (Ej d b a).bind λg =>
    some g
abbrev KT(c:List Int)(f:Int->Int->Option Int)(g:(Int×Int)->Option Int)(b:Int)(a:Int):Option Int :=
 bif decide (a<(c.length:Int))then
  (idx c a).bind λe =>
  g ((if e>b then e else b),(i64.wrap (a+1)))
 else
  f b a
def IY(a:List Int):Option Int :=
 bif decide ((a.length:Int)<1)then
  none
 else
  (idx a 0).bind λb =>
  iter (λc s=>KT a (λe f=>some e) c s.1 s.2) A9 (b,1)
def EW(a:Aj):Option Int :=
 (GR a).bind λb =>
 bif b != 0 then
  some (-1)
 else
  (GW a).bind λc =>
  (IY c).bind λe =>
  some (i64.wrap (e+1))
def G1(a:Aa)(b:Int):Option Int :=
 bif bif decide (b<1)then true else(decide (b>=(a.A.length:Int)))then
  some (-1)
 else
  (idx a.A b).bind λc =>
  bif c.Kind==2 then
   (idx a.K c.Ak).bind λe =>
   (EW e).bind λf =>
   some (i64.wrap (f-1))
  else
   some (c.N.length:Int)
def JQ(c:Aa)(a:Ac):Option Int :=
 (G1 c a.B).bind λb =>
 bif decide (b<0)then
  some 7
 else
  bif bif decide (a.J<0)then true else(decide (a.J>b))then
   some 8
  else
   some 0
def Mz(a:Aa)(c:Ac):Option Int :=
 (C4 a).bind λb =>
 bif b != 0 then
  some b
 else
  (JQ a c).bind λe =>
  some e
def BK(b:Aa)(a:Int):Option Int :=
 bif bif decide (a<0)then true else(decide (a>=(b.A.length:Int)))then
  some 0
 else
  (idx b.A a).bind λc =>
  some c.Kind
abbrev E9(b:List Ac)(c:Ac->Option Bool)(e:Int->Option Int)(f:Int->Option Int)(a:Int):Option Int :=
 bif decide (a<(b.length:Int))then
  (idx b a).bind λg =>
  (c g).bind λh =>
  bif h then
   some a
  else
   f (i64.wrap (a+1))
 else
  e a
def BH(a:List Ac)(b:Ac->Option Bool):Option Int :=
 iter (λc s=>E9 a b (λe=>some (-1)) c s) A9 0
def AG(a:List Ac)(b:Ac->Option Bool):Option Bool :=
 (BH a b).bind λc =>
 some (decide (c>=0))
def Gd(a:Ac)(b:Ac):Option Bool :=
 some (a.B==b.B)
def EE(a:Ad):Option Bool :=
 some (bif bif bif bif bif a.Op==0 then(a.B==0)else false then(a.Z==0)else false then(a.C==0)else false then(a.D==0)else false then((a.H.length:Int)==0)else false)
abbrev Ip(a:Ap)(c:Aa):Option Int :=
 bif a.Y != (-1)then
  (BK c a.Y).bind λe =>
  bif e != 3 then
   some 7
  else
   bif decide ((a.Ai.length:Int)>0)then
    some 11
   else
    (EE a.U).bind λb =>
    bif !b then
     some 11
    else
     some 0
 else
  bif decide ((a.Ai.length:Int)>0)then
   some 11
  else
   (EE a.U).bind λb =>
   bif !b then
    some 11
   else
    some 0
abbrev Mg(b:Ap)(e:Aa)(g:Int->Option Int)(h:Int->Option Int)(a:Int):Option Int :=
 bif decide (a<(b.V.length:Int))then
  (idx b.V a).bind λc =>
  (Mz e c).bind λf =>
  bif f != 0 then
   some f
  else
   (BK e c.B).bind λi =>
   bif i != 2 then
    some 7
   else
    bif decide (0<=(0:Int)/\0<=a/\a<=(b.V.length:Int))then
     (AG (M1 b.V 0 a) (λa0=>Gd a0 c)).bind λj =>
     bif j then
      some 10
     else
      h (i64.wrap (a+1))
    else none
 else
  g a
def Gb(b:Aa)(a:Ap):Option Int :=
 bif bif decide ((a.V.length:Int)<1)then true else(decide ((a.V.length:Int)>3))then
  some 1
 else
  iter (λc s=>Mg a b (λe=>Ip a b) c s) A9 0
abbrev E1(b:List Int)(c:Int)(e:Int->Option Int)(f:Int->Option Int)(a:Int):Option Int :=
 bif decide (a<(b.length:Int))then
  (idx b a).bind λg =>
  bif c==g then
   some a
  else
   f (i64.wrap (a+1))
 else
  e a
def CU(a:List Int)(b:Int):Option Int :=
 iter (λc s=>E1 a b (λe=>some (-1)) c s) A9 0
def Bj(a:List Int)(b:Int):Option Bool :=
 (CU a b).bind λc =>
 some (decide (c>=0))
abbrev Mf(a:Ap)(c:Int):Option Int :=
 bif decide ((a.V.length:Int)>0)then
  some 11
 else
  (EE a.U).bind λb =>
  bif !b then
   some 11
  else
   some 0
abbrev Me(b:Ap)(e:Aa)(f:Int->Option Int)(g:Int->Option Int)(a:Int):Option Int :=
 bif decide (a<(b.Ai.length:Int))then
  (idx b.Ai a).bind λc =>
  (BK e c).bind λh =>
  bif h != 3 then
   some 7
  else
   bif c==b.Y then
    some 10
   else
    bif decide (0<=(0:Int)/\0<=a/\a<=(b.Ai.length:Int))then
     (Bj (M1 b.Ai 0 a) c).bind λi =>
     bif i then
      some 10
     else
      g (i64.wrap (a+1))
    else none
 else
  f a
def Ga(b:Aa)(a:Ap):Option Int :=
 (BK b a.Y).bind λc =>
 bif c != 3 then
  some 7
 else
  bif bif decide ((a.Ai.length:Int)<1)then true else(decide ((a.Ai.length:Int)>3))then
   some 1
  else
   iter (λe s=>Me a b (Mf a) e s) A9 0
def FY(d:Nat)(b:Aa)(a:Ap):Option Int :=
 (BK b a.Y).bind λe =>
 bif e != 3 then
  some 7
 else
  (idx b.A a.Y).bind λf =>
  bif decide (f.C<0)then
   some 2
  else
   (B8 d b a.U).bind λc =>
   bif c != 0 then
    some c
   else
    bif bif decide ((a.V.length:Int)>0)then true else(decide ((a.Ai.length:Int)>0))then
     some 11
    else
     some 0
def CB(d:Nat)(b:Aa)(a:Ap):Option Int :=
 (C4 b).bind λc =>
 bif c != 0 then
  some c
 else
  (Bz a.I).bind λf =>
  bif !f then
   some 3
  else
   bif bif decide (a.Kind<1)then true else(decide (a.Kind>3))then
    some 4
   else
    (B8 d b a.Ay).bind λe =>
    bif e != 0 then
     some e
    else
     bif a.Kind==1 then
      (Gb b a).bind λg =>
      some g
     else
      bif a.Kind==2 then
       (Ga b a).bind λh =>
       some h
      else
       (FY d b a).bind λi =>
       some i
abbrev Db(b:List Ap)(c:Ap->Option Bool)(e:Int->Option Int)(f:Int->Option Int)(a:Int):Option Int :=
 bif decide (a<(b.length:Int))then
  (idx b a).bind λg =>
  (c g).bind λh =>
  bif h then
   some a
  else
   f (i64.wrap (a+1))
 else
  e a
def BC(a:List Ap)(b:Ap->Option Bool):Option Int :=
 iter (λc s=>Db a b (λe=>some (-1)) c s) A9 0
def Be(a:List Ap)(b:Ap->Option Bool):Option Bool :=
 (BC a b).bind λc =>
 some (decide (c>=0))
def FX(a:Ap)(b:Ap):Option Bool :=
 some (a.I.toList==b.I.toList)
abbrev Md(b:Ar)(d:Nat)(f:Aa)(g:Int->Option Int)(h:Int->Option Int)(a:Int):Option Int :=
 bif decide (a<(b.Am.length:Int))then
  (idx b.Am a).bind λc =>
  (CB d f c).bind λe =>
  bif e != 0 then
   some e
  else
   bif decide (0<=(0:Int)/\0<=a/\a<=(b.Am.length:Int))then
    (Be (M1 b.Am 0 a) (λa0=>FX a0 c)).bind λi =>
    bif i then
     some 10
    else
     h (i64.wrap (a+1))
   else none
 else
  g a
abbrev Io(d:Nat)(b:Aa)(a:Ar):Option Int :=
 (B8 d b a.Be).bind λc =>
 bif c != 0 then
  some c
 else
  bif bif bif bif bif bif decide (a.A2.Of<1)then true else(decide (a.A2.Of>1000))then true else(decide (a.A2.Bh<1))then true else(decide (a.A2.Bh>a.A2.Of))then true else(decide (a.A2.Bi<0))then true else(decide (a.A2.Bi>1099511627776))then
   some 2
  else
   bif bif(a.Am.length:Int)==0 then true else(decide ((a.Am.length:Int)>8))then
    some 1
   else
    iter (λe s=>Md a d b (λf=>some 0) e s) A9 0
def FW(d:Nat)(b:Aa)(a:Ar):Option Int :=
 (C4 b).bind λc =>
 bif c != 0 then
  some c
 else
  (Bz a.Ae).bind λe =>
  bif !e then
   some 3
  else
   (Bz a.Bl).bind λf =>
   bif !f then
    some 3
   else
    Io d b a
abbrev U2(c:Ad)(f:Ad->Option Ad)(g:Int->(List Ad)->Option Ad)(h:(Int×(List Ad))->Option Ad)(a:Int)(b:List Ad):Option Ad :=
 bif decide (a<(c.H.length:Int))then
  (idx c.H a).bind λi =>
  (f i).bind λe =>
  bif rm b.length [e].length then
   h ((i64.wrap (a+1)),(b++[e]))
  else none
 else
  g a b
def GK(d:Nat)(b:Ad->Option Ad)(a:Ad):Option Ad :=
 iter (λc s=>U2 a b (λf e=>some ({ Op:=a.Op,B:=a.B,Z:=a.Z,C:=a.C,D:=a.D,H:=e }:Ad)) c s.1 s.2) A9 (0,[])
def D5:Nat->Ad->Option Ad
 | 0,_=>none
 | d+1,a=>GK d (D5 d) a
def BE(a:List Ac):Option (List Ac):=bif rm 0 a.length then some a else none
abbrev Kh(h:Ar)(d:Nat)(k:Int->(List Az)->Option ((List Az)×Int))(g:(Int×(List Az))->Option ((List Az)×Int))(c:Int)(b:List Az):Option ((List Az)×Int) :=
 bif decide (c<(h.Am.length:Int))then
  (idx h.Am c).bind λa =>
  (D5 d a.U).bind λe =>
  (D5 d a.Ay).bind λf =>
  bif a.Kind==1 then
   (BE a.V).bind λi =>
   bif rm b.length ([({ I:=a.I,Bc:=true,Aq:={ Op:=10,B:=a.Y,V:=i,Ah:=f,U:=e } }:Az)]).length then
    g ((i64.wrap (c+1)),(b++[({ I:=a.I,Bc:=true,Aq:={ Op:=10,B:=a.Y,V:=i,Ah:=f,U:=e } }:Az)]))
   else none
  else
   bif a.Kind==2 then
    (Ba a.Ai).bind λj =>
    bif rm b.length ([({ I:=a.I,Bc:=true,Aq:={ Op:=11,B:=a.Y,A:=j,Ah:=f,U:=e } }:Az)]).length then
     g ((i64.wrap (c+1)),(b++[({ I:=a.I,Bc:=true,Aq:={ Op:=11,B:=a.Y,A:=j,Ah:=f,U:=e } }:Az)]))
    else none
   else
    bif rm b.length ([({ I:=a.I,Bc:=true,Aq:={ Op:=12,B:=a.Y,Ah:=f,U:=e } }:Az)]).length then
     g ((i64.wrap (c+1)),(b++[({ I:=a.I,Bc:=true,Aq:={ Op:=12,B:=a.Y,Ah:=f,U:=e } }:Az)]))
    else none
 else
  k c b
def EP(d:Nat)(c:Aa)(a:Ar):Option ((List Az)×Int) :=
 (FW d c a).bind λb =>
 bif b != 0 then
  some ([],b)
 else
  iter (λe s=>Kh a d (λg f=>some (f,0)) e s.1 s.2) A9 (0,[])
abbrev Jz(b:List Ac)(g:Aa)(h:Int->Option Int)(c:Int->Option Int)(a:Int):Option Int :=
 bif decide (a<(b.length:Int))then
  (idx b a).bind λe =>
  (JQ g e).bind λf =>
  bif f != 0 then
   some f
  else
   bif decide (a>0)then
    (idx b (i64.wrap (a-1))).bind λi =>
    bif decide (e.B<=i.B)then
     some 10
    else
     c (i64.wrap (a+1))
   else
    c (i64.wrap (a+1))
 else
  h a
def IN(a:Aa)(c:List Ac):Option Int :=
 (C4 a).bind λb =>
 bif b != 0 then
  some b
 else
  iter (λe s=>Jz c a (λf=>some 0) e s) A9 0
def Hm(a:As)(b:Int):Option Int :=
 (idx a.N (i64.wrap ((a.N.length:Int)-b))).bind λc =>
 some c
def Fj(a:Int)(b:Int):Option Int :=
 bif decide (b≠0)then
  bif decide ((Int.tmod a b)<0)then
   some (i64.wrap (a-(i64.wrap ((Int.tmod a b)+b))))
  else
   some (i64.wrap (a-(Int.tmod a b)))
 else none
def JR(b:As)(e:Int)(a:Int):Option (Int×Int×Bool) :=
 bif e==0 then
  some (b.C,b.D,(a==0))
 else
  bif bif decide (a<(-2000000))then true else(decide (a>1000000))then
   some (0,0,false)
  else
   (Hm b e).bind λc =>
   (Fj a c).bind λf =>
   some ((if b.C>a then b.C else a),(if b.D<(i64.wrap ((i64.wrap (a+c))-1))then b.D else(i64.wrap ((i64.wrap (a+c))-1))),(bif f==a then(decide ((if b.C>a then b.C else a)<=(if b.D<(i64.wrap ((i64.wrap (a+c))-1))then b.D else(i64.wrap ((i64.wrap (a+c))-1)))))else false))
abbrev VZ(c:List Int)(f:Int)(g:Int->(List Int)->Option (List Int))(e:(Int×(List Int))->Option (List Int))(a:Int)(b:List Int):Option (List Int) :=
 bif decide (a<(c.length:Int))then
  (idx c a).bind λh =>
  bif h==f then
   bif rm b.length [a].length then
    e ((i64.wrap (a+1)),(b++[a]))
   else none
  else
   e ((i64.wrap (a+1)),b)
 else
  g a b
def FT(a:Aj)(b:Int):Option (List Int) :=
 (GR a).bind λc =>
 bif c != 0 then
  some []
 else
  (GW a).bind λe =>
  iter (λf s=>VZ e b (λh g=>some g) f s.1 s.2) A9 (0,[])
def Lq(a:Aj)(b:Int):Option Bool :=
 bif bif decide (b>=0)then(decide (b<(a.Q.length:Int)))else false then
  (GR a).bind λc =>
  some (c==0)
 else
  some false
abbrev Wa(c:Int)(e:Aj)(f:Int->Int->Option Int)(g:(Int×Int)->Option Int)(b:Int)(a:Int):Option Int :=
 bif decide (a>=c)then
  bif a==c then
   some b
  else
   (idx e.Q b).bind λh =>
   g (h.Bd,(i64.wrap (a-1)))
 else
  f b a
def Hp(a:Aj)(b:Int)(c:Int):Option Int :=
 (Lq a b).bind λe =>
 bif bif !e then true else(decide (c<0))then
  some (-1)
 else
  (GW a).bind λf =>
  (idx f b).bind λg =>
  iter (λh s=>Wa c a (λi j=>some (-1)) h s.1 s.2) A9 (b,g)
abbrev Oc(b:List Int)(e:Aj)(f:Int)(g:Int)(h:Int->Option (Int×Bool))(i:Int->Option (Int×Bool))(a:Int):Option (Int×Bool) :=
 bif decide (a<(b.length:Int))then
  (idx b a).bind λc =>
  (Hp e c f).bind λj =>
  bif j==g then
   some (c,true)
  else
   i (i64.wrap (a+1))
 else
  h a
def B3(f:Aa)(h:Int)(c:Int)(a:Int):Option (Int×Bool) :=
 (idx f.A h).bind λb =>
 bif b.Kind==3 then
  bif bif decide (c>0)then(a==(-1099511627776))else false then
   some (a,b.Al)
  else
   (JR b c a).bind λg =>
   some (g.1,g.2.2)
 else
  (idx f.K b.Ak).bind λe =>
  (EW e).bind λi =>
  (FT e (i64.wrap (i-1))).bind λj =>
  iter (λk s=>Oc j e c a (λl=>some (0,false)) k s) A9 0
abbrev Jm(b:List Ac)(e:List Int)(f:Aa)(g:Int->Option Bool)(h:Int->Option Bool)(a:Int):Option Bool :=
 bif decide (a<(b.length:Int))then
  (idx b a).bind λc =>
  (idx e (i64.wrap (a+1))).bind λi =>
  (B3 f c.B c.J i).bind λj =>
  bif !j.2 then
   some false
  else
   h (i64.wrap (a+1))
 else
  g a
abbrev M2(a:List Ac)(b:List Int)(c:Aa):Option Bool :=
 iter (λe s=>Jm a b c (λf=>some true) e s) A9 0
def Ke(c:Aa)(b:List Ac)(a:List Int):Option Bool :=
 bif(a.length:Int) != (i64.wrap ((b.length:Int)+1))then
  some false
 else
  (idx a 0).bind λe =>
  bif decide (e<0)then
   some false
  else
   (idx a 0).bind λf =>
   bif decide (f>1048575)then
    some false
   else
    M2 b a c
abbrev IA(b:Au)(f:Aa)(g:Int->Option Int)(c:Int->Option Int)(a:Int):Option Int :=
 bif decide (a<(b.G.length:Int))then
  (idx b.G a).bind λe =>
  (Ke f b.E e).bind λh =>
  bif !h then
   some 9
  else
   bif decide (a>0)then
    (idx e 0).bind λi =>
    (idx b.G (i64.wrap (a-1))).bind λj =>
    (idx j 0).bind λk =>
    bif decide (i<=k)then
     some 10
    else
     c (i64.wrap (a+1))
   else
    c (i64.wrap (a+1))
 else
  g a
def Ex(b:Aa)(a:Au):Option Int :=
 (C4 b).bind λc =>
 bif c != 0 then
  some c
 else
  (Bz a.Ae).bind λf =>
  bif !f then
   some 3
  else
   bif bif decide (a.Ag<0)then true else(decide (a.Ag>300))then
    some 13
   else
    (IN b a.E).bind λe =>
    bif e != 0 then
     some e
    else
     bif decide ((a.G.length:Int)>200)then
      some 1
     else
      iter (λg s=>IA a b (λh=>some 0) g s) A9 0
abbrev CJ(b:List Az)(c:Az->Option Bool)(e:Int->Option Int)(f:Int->Option Int)(a:Int):Option Int :=
 bif decide (a<(b.length:Int))then
  (idx b a).bind λg =>
  (c g).bind λh =>
  bif h then
   some a
  else
   f (i64.wrap (a+1))
 else
  e a
def B4(a:List Az)(b:Az->Option Bool):Option Int :=
 iter (λc s=>CJ a b (λe=>some (-1)) c s) A9 0
def AU(a:List Az)(b:Az->Option Bool):Option Bool :=
 (B4 a b).bind λc =>
 some (decide (c>=0))
def EZ(a:Az)(b:ByteArray):Option Bool :=
 some (a.I.toList==b.toList)
def CP(a:ByteArray)(b:List Az):Option Bool :=
 (AU b (λa0=>EZ a0 a)).bind λc =>
 some c
abbrev L6(c:Av)(e:Int)(g:Av->Int->Option Int)(f:Int->Int->Option Int)(h:(Int×Int)->Option Int)(a:Int)(b:Int):Option Int :=
 bif decide (b<(c.H.length:Int))then
  (idx c.H b).bind λi =>
  bif decide (a>e)then
   f a b
  else
   (g i (i64.wrap (e-a))).bind λj =>
   h ((i64.wrap (a+j)),(i64.wrap (b+1)))
 else
  f a b
def Hu(d:Nat)(a:Av->Int->Option Int)(b:Av)(c:Int):Option Int :=
 iter (λe s=>L6 b c a (λf g=>some f) e s.1 s.2) A9 (1,0)
def H8:Nat->Av->Int->Option Int
 | 0,_,_=>none
 | d+1,a,b=>Hu d (H8 d) a b
abbrev M5(c:Av)(f:Av->Option Int)(g:Int->Int->Option Int)(h:(Int×Int)->Option Int)(b:Int)(a:Int):Option Int :=
 bif decide (a<(c.H.length:Int))then
  (idx c.H a).bind λi =>
  (f i).bind λe =>
  h ((if e>b then e else b),(i64.wrap (a+1)))
 else
  g b a
def Iw(d:Nat)(a:Av->Option Int)(b:Av):Option Int :=
 iter (λc s=>M5 b a (λe f=>some (i64.wrap (e+1))) c s.1 s.2) A9 (0,0)
def IH:Nat->Av->Option Int
 | 0,_=>none
 | d+1,a=>Iw d (IH d) a
abbrev E8(b:List Av)(c:Av->Option Bool)(e:Int->Option Int)(f:Int->Option Int)(a:Int):Option Int :=
 bif decide (a<(b.length:Int))then
  (idx b a).bind λg =>
  (c g).bind λh =>
  bif h then
   some a
  else
   f (i64.wrap (a+1))
 else
  e a
def Co(a:List Av)(b:Av->Option Bool):Option Int :=
 iter (λc s=>E8 a b (λe=>some (-1)) c s) A9 0
def Aw(a:List Av)(b:Av->Option Bool):Option Bool :=
 (Co a b).bind λc =>
 some (decide (c>=0))
abbrev O7 :Option (Bf×Bool) :=
 some (({}:Bf),false)
def Kq(a:Int):Option (Bf×Bool) :=
 bif a==1 then
  some (({ Bw:=true }:Bf),true)
 else
  bif a==2 then
   some (({ Bu:=true }:Bf),true)
  else
   bif a==3 then
    some (({ Bk:=true }:Bf),true)
   else
    bif a==4 then
     some (({ Bs:=true,Bk:=true }:Bf),true)
    else
     bif a==5 then
      some (({ Bs:=true,Bk:=true }:Bf),true)
     else
      bif a==14 then
       some (({ Bs:=true,Bk:=true }:Bf),true)
      else
       bif a==6 then
        some (({}:Bf),true)
       else
        bif a==7 then
         some (({}:Bf),true)
        else
         bif a==8 then
          some (({}:Bf),true)
         else
          bif a==9 then
           some (({}:Bf),true)
          else
           bif a==10 then
            some (({ Bs:=true,By:=true,Bk:=true }:Bf),true)
           else
            bif a==11 then
             some (({ Bs:=true,Bx:=true,Bk:=true }:Bf),true)
            else
             bif a==12 then
              some (({ Bs:=true,Bk:=true,Bt:=true }:Bf),true)
             else
              bif a==13 then
               some (({ Bw:=true,Bs:=true,Bk:=true }:Bf),true)
              else
               O7
def Ca(a:Int):Option Bool :=
 some (bif decide (a>=6)then(decide (a<=9))else false)
def Gz(a:Ad):Option Bool :=
 some (bif bif bif bif bif a.Op==0 then(a.B==0)else false then(a.Z==0)else false then(a.C==0)else false then(a.D==0)else false then((a.H.length:Int)==0)else false)
def GM(a:Av)(b:Bf):Option Bool :=
 bif bif bif bif bif bif b.Bw then true else(a.S==0)then(bif b.Bu then true else(a.I.toList==({ data:=#[] }:ByteArray).toList))else false then(bif b.Bs then true else(a.B==0))else false then(bif b.Bx then true else((a.A.length:Int)==0))else false then(bif b.By then true else((a.V.length:Int)==0))else false then
  bif b.Bk then
   bif b.Bt then
    (Ca a.Op).bind λc =>
    some (bif c then true else((a.H.length:Int)==0))
   else
    (Gz a.U).bind λe =>
    bif e then
     (Ca a.Op).bind λc =>
     some (bif c then true else((a.H.length:Int)==0))
    else
     some false
  else
   (Gz a.Ah).bind λf =>
   bif f then
    bif b.Bt then
     (Ca a.Op).bind λc =>
     some (bif c then true else((a.H.length:Int)==0))
    else
     (Gz a.U).bind λe =>
     bif e then
      (Ca a.Op).bind λc =>
      some (bif c then true else((a.H.length:Int)==0))
     else
      some false
   else
    some false
 else
  some false
def BX(b:Aa)(a:Int):Option Bool :=
 bif bif decide (a>=0)then(decide (a<(b.A.length:Int)))else false then
  (idx b.A a).bind λc =>
  some (c.Kind==3)
 else
  some false
def Jr(a:Ac)(b:Ac):Option Bool :=
 some (a.B==b.B)
abbrev Qu(b:List Ac)(e:Aa)(f:Int->Option Bool)(g:Int->Option Bool)(a:Int):Option Bool :=
 bif decide (a<(b.length:Int))then
  (idx b a).bind λc =>
  (Mz e c).bind λh =>
  bif h != 0 then
   some false
  else
   (idx e.A c.B).bind λi =>
   bif i.Kind != 2 then
    some false
   else
    bif decide (0<=(0:Int)/\0<=a/\a<=(b.length:Int))then
     (AG (M1 b 0 a) (λa0=>Jr a0 c)).bind λj =>
     bif j then
      some false
     else
      g (i64.wrap (a+1))
    else none
 else
  f a
def Ko(b:Aa)(a:List Ac):Option Bool :=
 iter (λc s=>Qu a b (λe=>some (bif decide ((a.length:Int)>=1)then(decide ((a.length:Int)<=3))else false)) c s) A9 0
abbrev Pv(b:List Int)(e:Aa)(f:Int)(g:Int->Option Bool)(h:Int->Option Bool)(a:Int):Option Bool :=
 bif decide (a<(b.length:Int))then
  (idx b a).bind λc =>
  (BX e c).bind λi =>
  bif bif !i then true else(c==f)then
   some false
  else
   bif decide (0<=(0:Int)/\0<=a/\a<=(b.length:Int))then
    (Bj (M1 b 0 a) c).bind λj =>
    bif j then
     some false
    else
     h (i64.wrap (a+1))
   else none
 else
  g a
def Jb(b:Aa)(c:Int)(a:List Int):Option Bool :=
 iter (λe s=>Pv a b c (λf=>some (bif decide ((a.length:Int)>=1)then(decide ((a.length:Int)<=3))else false)) e s) A9 0
def MW(b:Aa)(a:Av):Option Bool :=
 bif a.Op==1 then
  some (bif decide (a.S>=(-1099511627776))then(decide (a.S<=1099511627776))else false)
 else
  bif a.Op==2 then
   (Bz a.I).bind λe =>
   some e
  else
   bif a.Op==4 then
    (BX b a.B).bind λc =>
    some c
   else
    bif a.Op==5 then
     (BX b a.B).bind λc =>
     some c
    else
     bif a.Op==14 then
      (BX b a.B).bind λc =>
      some c
     else
      bif a.Op==10 then
       (Ko b a.V).bind λf =>
       bif f then
        bif a.B==(-1)then
         some true
        else
         (BX b a.B).bind λg =>
         some g
       else
        some false
      else
       bif a.Op==11 then
        (BX b a.B).bind λh =>
        bif h then
         (Jb b a.B a.A).bind λi =>
         some i
        else
         some false
       else
        bif a.Op==12 then
         (BX b a.B).bind λj =>
         bif j then
          (idx b.A a.B).bind λk =>
          some (decide (k.C>=0))
         else
          some false
        else
         bif a.Op==13 then
          (BX b a.B).bind λl =>
          bif l then
           (idx b.A a.B).bind λm =>
           (Bj m.N a.S).bind λn =>
           some n
          else
           some false
         else
          some true
def Kn(a:Int):Option Bool :=
 some (bif decide (a>=1)then(decide (a<=9))else false)
def II(g:Bf×Bool)(d:Nat)(b:Aa)(a:Av)(f:Av->Aa->Option Bool):Option Bool :=
 bif g.1.Bk then
  (B8 d b a.Ah).bind λi =>
  bif i != 0 then
   some false
  else
   bif g.1.Bt then
    (B8 d b a.U).bind λh =>
    bif h != 0 then
     some false
    else
     (Ca a.Op).bind λc =>
     bif bif c then((a.H.length:Int) != 2)else false then
      some false
     else
      (Aw a.H (λa0=>f a0 b)).bind λe =>
      some (!e)
   else
    (Ca a.Op).bind λc =>
    bif bif c then((a.H.length:Int) != 2)else false then
     some false
    else
     (Aw a.H (λa0=>f a0 b)).bind λe =>
     some (!e)
 else
  bif g.1.Bt then
   (B8 d b a.U).bind λh =>
   bif h != 0 then
    some false
   else
    (Ca a.Op).bind λc =>
    bif bif c then((a.H.length:Int) != 2)else false then
     some false
    else
     (Aw a.H (λa0=>f a0 b)).bind λe =>
     some (!e)
  else
   (Ca a.Op).bind λc =>
   bif bif c then((a.H.length:Int) != 2)else false then
    some false
   else
    (Aw a.H (λa0=>f a0 b)).bind λe =>
    some (!e)
def Hw(d:Nat)(h:Aa->Av->Option Bool)(e:Av->Aa->Option Bool)(c:Aa)(a:Av):Option Bool :=
 (Kq a.Op).bind λb =>
 bif !b.2 then
  some false
 else
  (GM a b.1).bind λf =>
  bif !f then
   some false
  else
   (MW c a).bind λg =>
   bif !g then
    some false
   else
    II b d c a e
def JA(d:Nat)(b:Aa->Av->Option Bool)(g:Av->Aa->Option Bool)(a:Av)(c:Aa):Option Bool :=
 (Kn a.Op).bind λe =>
 bif !e then
  some true
 else
  (b c a).bind λf =>
  some (!f)
mutual
def Fe:Nat->Aa->Av->Option Bool
 | 0,_,_=>none
 | d+1,a,b=>Hw d (Fe d) (Fu d) a b
def Fu:Nat->Av->Aa->Option Bool
 | 0,_,_=>none
 | d+1,a,b=>JA d (Fe d) (Fu d) a b
end
def Ez(d:Nat)(a:Aa)(b:Av):Option Bool :=
 (C4 a).bind λc =>
 bif c==0 then
  (Fe d a b).bind λe =>
  some e
 else
  some false
def Hv(d:Nat)(g:Av->(ByteArray->Option Bool)->Option Bool)(e:Av->(ByteArray->Option Bool)->Option Bool)(a:Av)(b:ByteArray->Option Bool):Option Bool :=
 bif a.Op==2 then
  (b a.I).bind λf =>
  bif !f then
   some false
  else
   (Aw a.H (λa0=>e a0 b)).bind λc =>
   some (!c)
 else
  (Aw a.H (λa0=>e a0 b)).bind λc =>
  some (!c)
def J9(d:Nat)(a:Av->(ByteArray->Option Bool)->Option Bool)(f:Av->(ByteArray->Option Bool)->Option Bool)(b:Av)(c:ByteArray->Option Bool):Option Bool :=
 (a b c).bind λe =>
 some (!e)
mutual
def G0:Nat->Av->(ByteArray->Option Bool)->Option Bool
 | 0,_,_=>none
 | d+1,a,b=>Hv d (G0 d) (Ft d) a b
def Ft:Nat->Av->(ByteArray->Option Bool)->Option Bool
 | 0,_,_=>none
 | d+1,a,b=>J9 d (G0 d) (Ft d) a b
end
def IG(d:Nat)(c:Aa)(b:List Az)(a:Az):Option Int :=
 (Bz a.I).bind λe =>
 bif !e then
  some 3
 else
  (CP a.I b).bind λf =>
  bif f then
   some 10
  else
   (H8 d a.Aq 60).bind λg =>
   bif decide (g>60)then
    some 1
   else
    (IH d a.Aq).bind λh =>
    bif decide (h>10)then
     some 22
    else
     (Ez d c a.Aq).bind λi =>
     bif !i then
      some 11
     else
      (G0 d a.Aq (λa0=>CP a0 b)).bind λj =>
      bif !j then
       some 24
      else
       some 0
abbrev Pt(b:List Az)(d:Nat)(e:Aa)(f:Int->Option (Int×Int))(g:Int->Option (Int×Int))(a:Int):Option (Int×Int) :=
 bif decide (a<(b.length:Int))then
  (idx b a).bind λh =>
  bif decide (0<=(0:Int)/\0<=a/\a<=(b.length:Int))then
   (IG d e (M1 b 0 a) h).bind λc =>
   bif c != 0 then
    some (a,c)
   else
    g (i64.wrap (a+1))
  else none
 else
  f a
def H7(d:Nat)(b:Aa)(a:List Az):Option (Int×Int) :=
 (C4 b).bind λc =>
 bif c != 0 then
  some ((-1),c)
 else
  bif decide ((a.length:Int)>30)then
   some ((-1),1)
  else
   iter (λe s=>Pt a d b (λf=>some ((a.length:Int),0)) e s) A9 0
def EX(a:Ac)(b:Ac):Option Bool :=
 some (bif a.B==b.B then(decide (a.J>=b.J))else false)
def G5(a:Ac)(b:List Ac):Option Bool :=
 (AG b (λa0=>EX a0 a)).bind λc =>
 some (!c)
def B5(a:List Ac)(b:List Ac):Option Bool :=
 (AG b (λa0=>G5 a0 a)).bind λc =>
 some (!c)
abbrev GY(c:Ad)(f:Ad->Option (List Ad))(g:Int->(List Ad)->Option (List Ad))(h:(Int×(List Ad))->Option (List Ad))(a:Int)(b:List Ad):Option (List Ad) :=
 bif decide (a<(c.H.length:Int))then
  (idx c.H a).bind λi =>
  (f i).bind λe =>
  bif rm b.length e.length then
   h ((i64.wrap (a+1)),(b++e))
  else none
 else
  g a b
def D1(d:Nat)(b:Ad->Option (List Ad))(a:Ad):Option (List Ad) :=
 bif bif bif a.Op==2 then true else(a.Op==3)then true else(a.Op==4)then
  some [a]
 else
  iter (λc s=>GY a b (λf e=>some e) c s.1 s.2) A9 (0,[])
def Dd:Nat->Ad->Option (List Ad)
 | 0,_=>none
 | d+1,a=>D1 d (Dd d) a
def Cy(a:Bool):Option Int :=
 bif a then
  some 1
 else
  some (-1)
def Fb(a:Aj)(c:Int)(b:Int):Option Bool :=
 (Lq a c).bind λe =>
 bif !e then
  some false
 else
  (Lq a b).bind λf =>
  bif !f then
   some false
  else
   (GW a).bind λg =>
   (idx g b).bind λh =>
   (Hp a c h).bind λi =>
   some (i==b)
def Bl(c:Aa)(a:Ad)(b:Int):Option Int :=
 bif a.Op==2 then
  (idx c.A a.B).bind λe =>
  (idx c.K e.Ak).bind λf =>
  (Fb f b a.Z).bind λg =>
  (Cy g).bind λh =>
  some h
 else
  bif a.Op==4 then
   (Cy (b==(-1099511627776))).bind λi =>
   some i
  else
   bif b==(-1099511627776)then
    some 0
   else
    (Cy (bif decide (b>=a.C)then(decide (b<=a.D))else false)).bind λj =>
    some j
def EJ(a:As)(b:Int):Option Int :=
 (idx a.N (i64.wrap ((a.N.length:Int)-b))).bind λc =>
 some c
def C9(a:Int)(b:Int):Option Int :=
 bif decide (b≠0)then
  bif decide ((Int.tmod a b)<0)then
   some (i64.wrap (a-(i64.wrap ((Int.tmod a b)+b))))
  else
   some (i64.wrap (a-(Int.tmod a b)))
 else none
def FF(e:List Int)(h:Aj)(i:Int)(j:Aa)(k:Ad)(l:Int->(List (Int×Int))->Option Bool)(m:(Int×(List (Int×Int)))->Option Bool)(a:Int)(b:List (Int×Int)):Option Bool :=
 bif decide (a<(e.length:Int))then
  (idx e a).bind λf =>
  (Hp h f i).bind λc =>
  (Bl j k f).bind λg =>
  bif bif(JY c b).isSome then(((JY c b).getD 0) != g)else false then
   some false
  else
   m ((i64.wrap (a+1)),(VD c g b))
 else
  l a b
def AB(e:Aa)(b:Ad)(c:Int):Option Bool :=
 (idx e.A b.B).bind λa =>
 bif b.Op==2 then
  (idx e.K a.Ak).bind λf =>
  (EW f).bind λi =>
  (FT f (i64.wrap (i-1))).bind λj =>
  iter (λk s=>FF j f c e b (λm n=>some true) k s.1 s.2) A9 (0,[])
 else
  bif bif c==0 then a.Al else false then
   some false
  else
   bif b.Op==4 then
    some true
   else
    bif decide ((if a.C>b.C then a.C else b.C)>(if a.D<b.D then a.D else b.D))then
     some true
    else
     bif c==0 then
      some (bif(if a.C>b.C then a.C else b.C)==a.C then((if a.D<b.D then a.D else b.D)==a.D)else false)
     else
      (EJ a c).bind λg =>
      bif(if a.C>b.C then a.C else b.C)==a.C then
       bif(if a.D<b.D then a.D else b.D)==a.D then
        some true
       else
        (C9 (i64.wrap ((if a.D<b.D then a.D else b.D)+1)) g).bind λh =>
        some (h==(i64.wrap ((if a.D<b.D then a.D else b.D)+1)))
      else
       (C9 (if a.C>b.C then a.C else b.C) g).bind λl =>
       bif l==(if a.C>b.C then a.C else b.C)then
        bif(if a.D<b.D then a.D else b.D)==a.D then
         some true
        else
         (C9 (i64.wrap ((if a.D<b.D then a.D else b.D)+1)) g).bind λh =>
         some (h==(i64.wrap ((if a.D<b.D then a.D else b.D)+1)))
       else
        some false
abbrev Hb(a:List Int)(b:Ad)(f:(Int×(List Int))->Option (List Ac))(g:Int)(c:Int):Option (List Ac) :=
 (idx a b.B).bind λe =>
 (idx a b.B).bind λh =>
 f ((i64.wrap (g+1)),(a.set (b.B:Int).toNat (if c>e then c else e)))
abbrev J3(b:Aa)(c:Ad)(e:Int->Option (List Ac))(f:Int->Option (List Ac))(a:Int):Option (List Ac) :=
 (AB b c a).bind λg =>
 bif !g then
  f (i64.wrap (a+1))
 else
  e a
abbrev Ha(e:List Int)(g:Int->(List Ac)->Option (List Ac))(f:(Int×(List Ac))->Option (List Ac))(a:Int)(b:List Ac):Option (List Ac) :=
 bif decide (a<(e.length:Int))then
  (idx e a).bind λc =>
  bif decide (c>0)then
   bif rm b.length [({ B:=a,J:=c }:Ac)].length then
    f ((i64.wrap (a+1)),(b++[({ B:=a,J:=c }:Ac)]))
   else none
  else
   f ((i64.wrap (a+1)),b)
 else
  g a b
abbrev GZ(b:List Ad)(f:Aa)(g:Int->(List Int)->Option (List Ac))(h:(Int×(List Int))->Option (List Ac))(a:Int)(c:List Int):Option (List Ac) :=
 bif decide (a<(b.length:Int))then
  (idx b a).bind λe =>
  iter (λi s=>J3 f e (Hb c e h a) i s) A9 0
 else
  g a c
def Bs(d:Nat)(a:Aa)(b:Ad):Option (List Ac) :=
 (B8 d a b).bind λc =>
 bif c != 0 then
  some []
 else
  bif decide (0<=(a.A.length:Int))&&rm ((a.A.length:Int):Int).toNat 0 then
   (Dd d b).bind λe =>
   iter (λf s=>GZ e a (λj g=>iter (λh s=>Ha g (λk i=>some i) h s.1 s.2) A9 (0,[])) f s.1 s.2) A9 (0,(List.replicate ((a.A.length:Int):Int).toNat 0))
  else none
abbrev LJ(b:As)(c:Int)(e:Int->Option Int)(f:Int->Option Int)(a:Int):Option Int :=
 bif decide (a<(b.N.length:Int))then
  (idx b.N a).bind λg =>
  bif g==c then
   some (i64.wrap ((b.N.length:Int)-a))
  else
   f (i64.wrap (a+1))
 else
  e a
def Ji(a:Aa)(b:Int)(c:Int):Option Int :=
 (idx a.A b).bind λe =>
 iter (λf s=>LJ e c (λg=>some 0) f s) A9 0
def Fi(a:Aa)(b:Int):Option Int :=
 (C4 a).bind λc =>
 bif c != 0 then
  some (-1)
 else
  (G1 a b).bind λe =>
  some e
def AX(e:Aa)(h:Int)(c:Int):Option Int :=
 (idx e.A h).bind λa =>
 bif a.Kind==2 then
  (idx e.K a.Ak).bind λi =>
  (FT i c).bind λj =>
  some (j.length:Int)
 else
  bif c==0 then
   some 1
  else
   (Hm a c).bind λb =>
   (Fj a.D b).bind λf =>
   (Fj a.C b).bind λg =>
   bif decide (b≠0)then
    bif a.Al then
     some (i64.wrap ((i64.wrap ((i64.wrap (Int.tdiv (i64.wrap (f-g)) b))+1))+1))
    else
     some (i64.wrap ((i64.wrap (Int.tdiv (i64.wrap (f-g)) b))+1))
   else none
abbrev H3(b:Aa)(c:Int)(e:Int->Option Int)(f:Int->Option Int)(a:Int):Option Int :=
 bif decide (a>0)then
  (AX b c (i64.wrap (a-1))).bind λg =>
  (AX b c a).bind λh =>
  bif g==h then
   f (i64.wrap (a-1))
  else
   e a
 else
  e a
def BF(b:Aa)(c:Int)(a:Int):Option Int :=
 (Fi b c).bind λe =>
 bif bif decide (a<0)then true else(decide (a>e))then
  some (-1)
 else
  iter (λf s=>H3 b c (λg=>some g) f s) A9 a
def Cv(a:Int)(b:List Ac)(c:Aa):Option (List Ac) :=
 (Fi c a).bind λf =>
 (BF c a f).bind λe =>
 bif rm b.length [({ B:=a,J:=e }:Ac)].length then
  some (b++[({ B:=a,J:=e }:Ac)])
 else none
def UZ(b:Av)(e:Aa)(f:Int->(List Ac)->Option (List Ac))(g:(Int×(List Ac))->Option (List Ac))(a:Int)(c:List Ac):Option (List Ac) :=
 bif decide (a<(b.A.length:Int))then
  (idx b.A a).bind λh =>
  (Cv h c e).bind λi =>
  g ((i64.wrap (a+1)),i)
 else
  f a c
def Bi(a:Av)(b:Aa)(c:List Ac):Option (List Ac) :=
 iter (λe s=>UZ a b (λg f=>some f) e s.1 s.2) A9 (0,c)
def KY(a:Av)(b:Aa)(c:List Ac):Option (List Ac) :=
 bif a.Op==4 then
  bif decide (a.B>0)then
   (Cv a.B c b).bind λe =>
   Bi a b e
  else
   Bi a b c
 else
  bif a.Op==5 then
   bif decide (a.B>0)then
    (Cv a.B c b).bind λe =>
    Bi a b e
   else
    Bi a b c
  else
   bif a.Op==10 then
    bif decide (a.B>0)then
     (Cv a.B c b).bind λe =>
     Bi a b e
    else
     Bi a b c
   else
    bif a.Op==11 then
     bif decide (a.B>0)then
      (Cv a.B c b).bind λe =>
      Bi a b e
     else
      Bi a b c
    else
     bif a.Op==12 then
      bif decide (a.B>0)then
       (Cv a.B c b).bind λe =>
       Bi a b e
      else
       Bi a b c
     else
      bif a.Op==14 then
       bif decide (a.B>0)then
        (Cv a.B c b).bind λe =>
        Bi a b e
       else
        Bi a b c
      else
       bif a.Op==13 then
        (Ji b a.B a.S).bind λg =>
        (BF b a.B g).bind λf =>
        bif rm c.length [({ B:=a.B,J:=f }:Ac)].length then
         Bi a b (c++[({ B:=a.B,J:=f }:Ac)])
        else none
       else
        Bi a b c
def UY(e:Av)(g:Aa)(h:Int->(List Ac)->Option (List Ac))(i:(Int×(List Ac))->Option (List Ac))(a:Int)(c:List Ac):Option (List Ac) :=
 bif decide (a<(e.V.length:Int))then
  (idx e.V a).bind λb =>
  (BF g b.B b.J).bind λf =>
  bif rm c.length [({ B:=b.B,J:=f }:Ac)].length then
   i ((i64.wrap (a+1)),(c++[({ B:=b.B,J:=f }:Ac)]))
  else none
 else
  h a c
def JV(a:Aa)(b:Av):Option (List Ac) :=
 iter (λc s=>UY b a (λf e=>KY b a e) c s.1 s.2) A9 (0,[])
def Eo(f:List Ac)(g:Int->Int->(List (Int×Int))->Option (List Ac))(h:(Int×Int×(List (Int×Int)))->Option (List Ac))(e:Int)(b:Int)(c:List (Int×Int)):Option (List Ac) :=
 bif decide (b<(f.length:Int))then
  (idx f b).bind λa =>
  h ((if a.B>e then a.B else e),(i64.wrap (b+1)),(VD a.B (if a.J>((JY a.B c).getD 0)then a.J else((JY a.B c).getD 0)) c))
 else
  g e b c
def Ep(f:Int)(c:List (Int×Int))(g:Int->(List Ac)->Option (List Ac))(e:(Int×(List Ac))->Option (List Ac))(a:Int)(b:List Ac):Option (List Ac) :=
 bif decide (a<(i64.wrap (f+1)))then
  bif decide (((JY a c).getD 0)>0)then
   bif rm b.length [({ B:=a,J:=((JY a c).getD 0) }:Ac)].length then
    e ((i64.wrap (a+1)),(b++[({ B:=a,J:=((JY a c).getD 0) }:Ac)]))
   else none
  else
   e ((i64.wrap (a+1)),b)
 else
  g a b
def Em(b:List (List Ac))(f:Int->Int->(List (Int×Int))->Option (List Ac))(g:(Int×Int×(List (Int×Int)))->Option (List Ac))(c:Int)(a:Int)(e:List (Int×Int)):Option (List Ac) :=
 bif decide (a<(b.length:Int))then
  (idx b a).bind λh =>
  iter (λi s=>Eo h (λj l k=>g (j,(i64.wrap (a+1)),k)) i s.1 s.2.1 s.2.2) A9 (c,0,e)
 else
  f c a e
def EL(a:List (List Ac)):Option (List Ac) :=
 iter (λb s=>Em a (λc h e=>iter (λf s=>Ep c e (λi g=>some g) f s.1 s.2) A9 (0,[])) b s.1 s.2.1 s.2.2) A9 (0,0,[])
abbrev Om(c:Av)(f:Aa->Av->Option (List Ac))(g:Aa)(h:Int->(List (List Ac))->Option (List Ac))(i:(Int×(List (List Ac)))->Option (List Ac))(a:Int)(b:List (List Ac)):Option (List Ac) :=
 bif decide (a<(c.H.length:Int))then
  (idx c.H a).bind λj =>
  (f g j).bind λe =>
  bif rm b.length [e].length then
   i ((i64.wrap (a+1)),(b++[e]))
  else none
 else
  h a b
def G2(d:Nat)(c:Aa->Av->Option (List Ac))(a:Aa)(b:Av):Option (List Ac) :=
 (JV a b).bind λe =>
 (Bs d a b.Ah).bind λf =>
 (Bs d a b.U).bind λg =>
 iter (λh s=>Om b c a (λk i=>(EL i).bind λj=>some j) h s.1 s.2) A9 (0,[e,f,g])
def CR:Nat->Aa->Av->Option (List Ac)
 | 0,_,_=>none
 | d+1,a,b=>G2 d (CR d) a b
abbrev Ta(b:List AF)(c:Av)(e:Int->Option (Int×Int))(f:Int->Option (Int×Int))(a:Int):Option (Int×Int) :=
 bif decide (a>=0)then
  (idx b a).bind λg =>
  bif g.I.toList==c.I.toList then
   (idx b a).bind λh =>
   some (h.At.Kind,0)
  else
   f (i64.wrap (a-1))
 else
  e a
abbrev Tb(a:Av)(b:List AF)(c:Bool):Option (Int×Int) :=
 bif a.Op==2 then
  iter (λe s=>Ta b a (λg=>some (0,24)) e s) A9 (i64.wrap ((b.length:Int)-1))
 else
  bif !c then
   some (0,16)
  else
   (Kn a.Op).bind λf =>
   bif f then
    some (1,0)
   else
    some ((i64.wrap ((i64.wrap (a.Op-10))+2)),0)
abbrev OV(c:Av)(f:(List AF)->Av->Option (Int×Int))(g:List AF)(h:Bool->Int->Option (Int×Int))(i:(Bool×Int)->Option (Int×Int))(e:Bool)(a:Int):Option (Int×Int) :=
 bif decide (a<(c.H.length:Int))then
  (idx c.H a).bind λj =>
  (f g j).bind λb =>
  bif b.2 != 0 then
   some (0,b.2)
  else
   i ((bif e then(b.1==1)else false),(i64.wrap (a+1)))
 else
  h e a
def KX(d:Nat)(c:(List AF)->Av->Option (Int×Int))(a:List AF)(b:Av):Option (Int×Int) :=
 iter (λe s=>OV b c a (λf g=>Tb b a f) e s.1 s.2) A9 (true,0)
def LK:Nat->(List AF)->Av->Option (Int×Int)
 | 0,_,_=>none
 | d+1,a,b=>KX d (LK d) a b
def Ol(d:Nat)(a:Aa)(c:List Ac)(f:List AF)(b:Av):Option (Int×Int) :=
 (Ez d a b).bind λg =>
 bif !g then
  some (0,11)
 else
  (IN a c).bind λh =>
  bif h != 0 then
   some (0,23)
  else
   (CR d a b).bind λi =>
   (B5 c i).bind λj =>
   bif !j then
    some (0,23)
   else
    (LK d f b).bind λe =>
    some (e.1,e.2)
abbrev IQ(g:List Az)(d:Nat)(h:Aa)(i:List Ac)(j:Int->(List Int)->(List AF)->Option ((List Int)×Int×Int))(k:(Int×(List Int)×(List AF))->Option ((List Int)×Int×Int))(b:Int)(e:List Int)(c:List AF):Option ((List Int)×Int×Int) :=
 bif decide (b<(g.length:Int))then
  (idx g b).bind λf =>
  (Ol d h i c f.Aq).bind λa =>
  bif a.2 != 0 then
   some ([],b,a.2)
  else
   bif rm e.length [a.1].length then
    bif rm c.length ([({ I:=f.I,At:={ Kind:=a.1 } }:AF)]).length then
     k ((i64.wrap (b+1)),(e++[a.1]),(c++[({ I:=f.I,At:={ Kind:=a.1 } }:AF)]))
    else none
   else none
 else
  j b e c
def Jj(d:Nat)(c:Aa)(e:List Ac)(a:List Az):Option ((List Int)×Int×Int) :=
 (H7 d c a).bind λb =>
 bif b.2 != 0 then
  some ([],b.1,b.2)
 else
  iter (λf s=>IQ a d c e (λh g i=>some (g,(a.length:Int),0)) f s.1 s.2.1 s.2.2) A9 (0,[],[])
def DY(a:List An):Option (List An):=bif rm 0 a.length then some a else none
def G4(a:List AO):Option (List AO):=bif rm 0 a.length then some a else none
def DX(a:List Bb):Option (List Bb):=bif rm 0 a.length then some a else none
def GU(a:List Q1):Option (List Q1):=bif rm 0 a.length then some a else none
def bY(cs:List An):Option (List An):=bif decide (cs.length<=1000000)&&cs.all (λc=>rm 0 c.Q.length&&rm 0 c.G.length)then some cs else none
def Jn(a:AR):Option AR :=
 (BE a.Table.V).bind λb =>
 (DY a.Table.A1).bind λc =>
 (bY c).bind λe =>
 (Ba a.Model.Ai).bind λf =>
 (G4 a.Model.A9).bind λg =>
 (DX a.Curve).bind λh =>
 (GU a.Hist).bind λi =>
 (Ba a.Lineage).bind λj =>
 some ({ Kind:=a.Kind,Number:=a.Number,Table:={ V:=b,Y:=a.Table.Y,A1:=e },Model:={ Y:=a.Model.Y,Ai:=f,A9:=g,A4:=a.Model.A4,A5:=a.Model.A5,Af:=a.Model.Af,Bj:=a.Model.Bj },Curve:=h,Hist:=i,Box:=a.Box,Lineage:=j }:AR)
abbrev JF(a:Int):Option AR :=
 some ({}:AR)
abbrev GL(b:A7)(c:ByteArray)(e:Int->Option AR)(f:Int->Option AR)(a:Int):Option AR :=
 bif decide (a>=0)then
  (idx b.A3 a).bind λg =>
  bif g.I.toList==c.toList then
   (idx b.A3 a).bind λh =>
   (Jn h.At).bind λi =>
   some i
  else
   f (i64.wrap (a-1))
 else
  e a
def E6(a:A7)(b:ByteArray):Option AR :=
 iter (λc s=>GL a b JF c s) A9 (i64.wrap ((a.A3.length:Int)-1))
def Dm(d:Nat)(c:Ad->(Ad->Option Int)->Option Int)(a:Ad)(b:Ad->Option Int):Option Int :=
 bif a.Op==1 then
  some 1
 else
  bif a.Op==5 then
   (idx a.H 0).bind λi =>
   (c i b).bind λe =>
   (idx a.H 1).bind λj =>
   (c j b).bind λf =>
   some (if f<e then f else e)
  else
   bif a.Op==6 then
    (idx a.H 0).bind λk =>
    (c k b).bind λg =>
    (idx a.H 1).bind λl =>
    (c l b).bind λh =>
    some (if h>g then h else g)
   else
    bif a.Op==7 then
     (idx a.H 0).bind λm =>
     (c m b).bind λn =>
     some (i64.wrap (0-n))
    else
     (b a).bind λo =>
     some o
def AE:Nat->Ad->(Ad->Option Int)->Option Int
 | 0,_,_=>none
 | d+1,a,b=>Dm d (AE d) a b
def Ct(a:Ad)(b:Aa)(c:List Int):Option Int :=
 (idx c a.B).bind λe =>
 (Bl b a e).bind λf =>
 some f
def FI(d:Nat)(a:Aa)(b:Ad)(c:List Int):Option Int :=
 (AE d b (λa0=>Ct a0 a c)).bind λe =>
 some e
abbrev FU(e:List Ac)(g:List Int)(h:Aa)(i:Int->(List Int)->Option Int)(j:(Int×(List Int))->Option Int)(a:Int)(c:List Int):Option Int :=
 bif decide (a<(e.length:Int))then
  (idx e a).bind λb =>
  (idx g a).bind λk =>
  (B3 h b.B b.J k).bind λf =>
  bif !f.2 then
   some 0
  else
   (idx c b.B).bind λl =>
   j ((i64.wrap (a+1)),(c.set (b.B:Int).toNat f.1))
 else
  i a c
abbrev Ia(b:List Ac)(c:List Int)(a:Aa)(d:Nat)(e:Ad)(f:List Int):Option Int :=
 iter (λg s=>FU b c a (λj h=>(FI d a e h).bind λi=>some i) g s.1 s.2) A9 (0,f)
abbrev ED(c:Aa)(e:Int->(List Int)->Option Int)(f:(Int×(List Int))->Option Int)(a:Int)(b:List Int):Option Int :=
 bif decide (a<(b.length:Int))then
  (B3 c a 0 0).bind λg =>
  (idx b a).bind λh =>
  f ((i64.wrap (a+1)),(b.set (a:Int).toNat g.1))
 else
  e a b
def C8(d:Nat)(a:Aa)(b:Ad)(c:List Ac)(e:List Int):Option Int :=
 bif decide (0<=(a.A.length:Int))&&rm ((a.A.length:Int):Int).toNat 0 then
  iter (λf s=>ED a (λh g=>Ia c e a d b g) f s.1 s.2) A9 (1,(List.replicate ((a.A.length:Int):Int).toNat 0))
 else none
def MK(e:Au)(d:Nat)(g:Aa)(h:Ad)(i:Int->(List Int)->Option (List Int))(f:(Int×(List Int))->Option (List Int))(a:Int)(c:List Int):Option (List Int) :=
 bif decide (a<(e.G.length:Int))then
  (idx e.G a).bind λb =>
  bif decide (0<=(1:Int)/\1<=(b.length:Int)/\(b.length:Int)<=(b.length:Int))then
   (C8 d g h e.E (M1 b 1 (b.length:Int))).bind λj =>
   bif j==1 then
    bif rm c.length [a].length then
     f ((i64.wrap (a+1)),(c++[a]))
    else none
   else
    f ((i64.wrap (a+1)),c)
  else none
 else
  i a c
def G8(a:Au)(d:Nat)(b:Aa)(c:Ad):Option (List Int) :=
 iter (λe s=>MK a d b c (λg f=>some f) e s.1 s.2) A9 (0,[])
def Do(d:Nat)(a:Aa)(c:Au)(b:Ad):Option (List Int) :=
 (B8 d a b).bind λe =>
 bif e != 0 then
  some []
 else
  (Bs d a b).bind λf =>
  (B5 c.E f).bind λg =>
  bif !g then
   some []
  else
   G8 c d a b
abbrev P0(c:List Int)(f:Au)(g:Int->(List Int)->Option (List Int))(h:(Int×(List Int))->Option (List Int))(a:Int)(b:List Int):Option (List Int) :=
 bif decide (a<(c.length:Int))then
  (idx c a).bind λi =>
  (idx f.G i).bind λj =>
  (idx j 0).bind λe =>
  bif rm b.length [e].length then
   h ((i64.wrap (a+1)),(b++[e]))
  else none
 else
  g a b
def Fo(a:Au)(b:List Int):Option (List Int) :=
 iter (λc s=>P0 b a (λf e=>some e) c s.1 s.2) A9 (0,[])
abbrev H4(b:List Int)(c:Int->Option Bool)(e:Int->Option Int)(f:Int->Option Int)(a:Int):Option Int :=
 bif decide (a<(b.length:Int))then
  (idx b a).bind λg =>
  (c g).bind λh =>
  bif h then
   some a
  else
   f (i64.wrap (a+1))
 else
  e a
def CK(a:List Int)(b:Int->Option Bool):Option Int :=
 iter (λc s=>H4 a b (λe=>some (-1)) c s) A9 0
def BY(a:List Int)(b:Int->Option Bool):Option Bool :=
 (CK a b).bind λc =>
 some (decide (c>=0))
def Lu(a:Ac)(b:Int):Option Bool :=
 some (a.B==b)
abbrev Od(e:List Int)(f:Aj)(j:Int)(k:Int)(l:Int)(m:Int->Bool->Int->Option (Int×Bool))(g:(Int×Bool×Int)->Option (Int×Bool))(b:Int)(c:Bool)(a:Int):Option (Int×Bool) :=
 bif decide (a<(e.length:Int))then
  (idx e a).bind λh =>
  (Hp f h j).bind λn =>
  bif n != k then
   g (b,c,(i64.wrap (a+1)))
  else
   (Hp f h l).bind λi =>
   bif bif c then(i != b)else false then
    some (0,false)
   else
    g (i,true,(i64.wrap (a+1)))
 else
  m b c a
def DV(a:Aj)(b:Int)(c:Int)(e:Int):Option (Int×Bool) :=
 (EW a).bind λf =>
 (FT a (i64.wrap (f-1))).bind λg =>
 iter (λh s=>Od g a b c e (λi j k=>some (i,j)) h s.1 s.2.1 s.2.2) A9 (0,false,0)
def FA(a:As)(c:Int)(e:Int)(f:Int):Option (Int×Bool) :=
 bif bif decide (c>0)then(e==(-1099511627776))else false then
  bif f==0 then
   some (0,a.Al)
  else
   some (e,a.Al)
 else
  (JR a c e).bind λb =>
  bif !b.2.2 then
   some (0,false)
  else
   bif f==0 then
    some (0,true)
   else
    bif bif c==0 then a.Al else false then
     some (0,false)
    else
     (Hm a f).bind λg =>
     (Fj b.1 g).bind λh =>
     (Fj b.1 g).bind λi =>
     (Fj b.2.1 g).bind λj =>
     some (h,(i==j))
def Dx(c:Aa)(f:Int)(a:Int)(g:Int)(b:Int):Option (Int×Bool) :=
 (G1 c f).bind λh =>
 bif bif bif bif decide (a<0)then true else(decide (a>h))then true else(decide (b<0))then true else(decide (b>h))then
  some (0,false)
 else
  (idx c.A f).bind λe =>
  bif e.Kind==2 then
   (idx c.K e.Ak).bind λk =>
   (DV k a g b).bind λi =>
   bif !i.2 then
    some (0,false)
   else
    some (i.1,true)
  else
   (FA e a g b).bind λj =>
   bif !j.2 then
    some (0,false)
   else
    some (j.1,true)
def Bt(e:Aa)(a:Au)(i:Int)(b:Int)(f:Int):Option (Int×Bool) :=
 (BH a.E (λa0=>Lu a0 b)).bind λc =>
 bif decide (c<0)then
  (Dx e b 0 0 f).bind λg =>
  some (g.1,g.2)
 else
  (idx a.E c).bind λj =>
  (idx a.G i).bind λk =>
  (idx k (i64.wrap (c+1))).bind λl =>
  (Dx e b j.J l f).bind λh =>
  some (h.1,h.2)
def Eh(a:Int)(b:Aa)(e:Au)(f:Int):Option Bool :=
 (Fi b a).bind λg =>
 (Bt b e f a g).bind λc =>
 some (bif !c.2 then true else(c.1==(-1099511627776)))
def Es(a:Int)(b:List Int)(c:Aa)(e:Au):Option Bool :=
 (BY b (λa0=>Eh a0 c e a)).bind λf =>
 some f
def DZ(d:Nat)(a:Aa)(b:Au)(c:Ad)(e:List Int):Option (List Int) :=
 (Ex a b).bind λf =>
 bif f != 0 then
  some []
 else
  (Do d a b c).bind λg =>
  (D8 g (λa0=>Es a0 e a b)).bind λh =>
  some h
abbrev Oi(c:List Int)(e:Aa)(f:Int)(h:Au)(i:Int->(List Int)->Option (List Int))(j:(Int×(List Int))->Option (List Int))(a:Int)(b:List Int):Option (List Int) :=
 bif decide (a<(c.length:Int))then
  (idx c a).bind λk =>
  (Fi e f).bind λl =>
  (Bt e h k f l).bind λg =>
  bif rm b.length [g.1].length then
   j ((i64.wrap (a+1)),(b++[g.1]))
  else none
 else
  i a b
def Ck(a:Aa)(b:Au)(c:List Int)(e:Int):Option (List Int) :=
 iter (λf s=>Oi c a e b (λh g=>some g) f s.1 s.2) A9 (0,[])
def KV(d:Nat)(a:Aa)(b:List Ac)(c:Int)(e:Ad):Option Int :=
 (CB d a ({ I:={ data:=#[116] },Kind:=1,Ay:=e,V:=b,Y:=c }:Ap)).bind λf =>
 some f
def Gt(d:Nat)(a:Aa)(b:Av):Option (List Ac) :=
 (C4 a).bind λc =>
 bif c != 0 then
  some []
 else
  (Ez d a b).bind λe =>
  bif !e then
   some []
  else
   (CR d a b).bind λf =>
   some f
def rp:Option (List (List Int)):=some [[]]
def OE(f:List Int)(g:List Int)(h:Int->(List (List Int))->Option ((List (List Int))×Bool))(i:(Int×(List (List Int)))->Option ((List (List Int))×Bool))(a:Int)(b:List (List Int)):Option ((List (List Int))×Bool) :=
 bif decide (a<(([(-1)]++f).length:Int))then
  (idx ([(-1)]++f) a).bind λc =>
  (Ba g).bind λe =>
  bif rm e.length [c].length then
   bif rm b.length ([(e++[c])]).length then
    i ((i64.wrap (a+1)),(b++[(e++[c])]))
   else none
  else none
 else
  h a b
def OD(b:List (List Int))(e:List Int)(f:Int->(List (List Int))->Option ((List (List Int))×Bool))(g:(Int×(List (List Int)))->Option ((List (List Int))×Bool))(a:Int)(c:List (List Int)):Option ((List (List Int))×Bool) :=
 bif decide (a<(b.length:Int))then
  (idx b a).bind λh =>
  iter (λi s=>OE e h (λk j=>g ((i64.wrap (a+1)),j)) i s.1 s.2) A9 (0,c)
 else
  f a c
def Ig(e:List Ac)(f:Aa)(h:(List (List Int))->Int->Option ((List (List Int))×Bool))(i:((List (List Int))×Int)->Option ((List (List Int))×Bool))(b:List (List Int))(a:Int):Option ((List (List Int))×Bool) :=
 bif decide (a<(e.length:Int))then
  (idx e a).bind λg =>
  (idx f.A g.B).bind λj =>
  (idx f.K j.Ak).bind λk =>
  (FT k g.J).bind λc =>
  bif rm [(-1)].length c.length then
   bif decide ((i64.wrap ((b.length:Int)*(([(-1)]++c).length:Int)))>2000)then
    some ([],false)
   else
    iter (λl s=>OD b c (λn m=>i (m,(i64.wrap (a+1)))) l s.1 s.2) A9 (0,[])
  else none
 else
  h b a
def I6(a:Aa)(b:List Ac):Option ((List (List Int))×Bool) :=
 (rp ).bind λc =>
 iter (λe s=>Ig b a (λf g=>some (f,true)) e s.1 s.2) A9 (c,0)
abbrev Oj(b:List Int)(f:List Int)(g:Int->Option Bool)(c:Int->Option Bool)(a:Int):Option Bool :=
 bif decide (a<(b.length:Int))then
  (idx b a).bind λe =>
  bif e != (-1)then
   (idx f a).bind λh =>
   bif e != h then
    some false
   else
    c (i64.wrap (a+1))
  else
   c (i64.wrap (a+1))
 else
  g a
def Cl(a:List Int)(b:List Int):Option Bool :=
 iter (λc s=>Oj b a (λe=>some true) c s) A9 0
def BM(c:An)(key:Int)(value:Int)(measured:Bool):An :=
 bif measured then
  bif decide (c.Ba<max value (i64.wrap (-value)))then
   { c with Af:=i64.wrap (c.Af+1),G:=c.G++[key],A6:=i64.wrap (c.A6+value),A8:=i64.wrap (c.A8+max value (i64.wrap (-value))),Ba:=max value (i64.wrap (-value)),Bg:=c.Ba }
  else bif decide (c.Bg<max value (i64.wrap (-value)))then
   { c with Af:=i64.wrap (c.Af+1),G:=c.G++[key],A6:=i64.wrap (c.A6+value),A8:=i64.wrap (c.A8+max value (i64.wrap (-value))),Bg:=max value (i64.wrap (-value)) }
  else { c with Af:=i64.wrap (c.Af+1),G:=c.G++[key],A6:=i64.wrap (c.A6+value),A8:=i64.wrap (c.A8+max value (i64.wrap (-value))) }
 else { c with Af:=i64.wrap (c.Af+1),G:=c.G++[key] }
def Cb(own:List Int)(key:Int)(value:Int)(measured:Bool):(List An)->Option (List An)
 | []=>some []
 | c :: r=>bif decide (c.G.length<=1000000)then(Cl own c.Q).bind λb=>(Cb own key value measured r).bind λcs=>some ((bif b then BM c key value measured else c) :: cs)else none
def C5(a:Aa)(b:Au)(row:Int):(List Ac)->Option (List Int)
 | []=>some []
 | p :: r=>(Bt a b row p.B p.J).bind λv=>(C5 a b row r).bind λvs=>some (v.1 :: vs)
def I7(b:Aa)(c:Au)(a:Int)(row:Int):Option Int :=
 bif decide (0<=a)then(Ck b c [row] a).bind λv=>idx v 0 else some 0
def GQ(b:Aa)(a:Au)(e:List Ac)(c:Int):(List Int)->(List An)->Option (List An)
 | [],cs=>some cs
 | row :: r,cs =>
  (I7 b a c row).bind λv =>
  (C5 b a row e).bind λown =>
  (idx a.G row).bind λl=>(idx l 0).bind λkey =>
  (Cb own key v (decide (0<=c)) cs).bind λcs=>GQ b a e c r cs
def OU(b:Aa)(e:Au)(a:List Ac)(f:Int)(l:List Int)(cs:List An):Option (List An) :=
 bif decide (l.length<=1000000/\a.length<=1000000/\cs.length<=1000000/\0<cs.length)&&cs.all λc=>c.G.isEmpty then GQ b e a f l cs else none
def bT(b:List An)(l:List Int):Option (List An):=bif decide (b.length<=1000000)then some (b++[{ Q:=l,Af:=0,A6:=0,A8:=0,Ba:=0,Bg:=0,G:=[] }])else none
def Cc(c:An):D:=.agg [(Ao 1 (D.int .i64)) c.Q,.int .i64 c.Af,.int .i64 c.A6,.int .i64 c.A8,.int .i64 c.Ba,.int .i64 c.Bg,.nil 1]
def Fv(d:Nat)(a:Aa)(b:Au)(e:Ad)(f:List Ac)(c:Int)(g:List An)(h:List Ac)(i:List Int):Option (Ei×Int) :=
 (DZ d a b e i).bind λj =>
 (OU a b f c j g).bind λk =>
 some (({ V:=h,Y:=c,A1:=k }:Ei),0)
def Et(a:Int)(d:Nat)(b:Aa)(c:Au)(e:Ad)(f:List Ac)(g:List Ac)(h:List An):Option (Ei×Int) :=
 bif decide (a>=0)then
  Fv d b c e f a h g [a]
 else
  Fv d b c e f a h g []
def P4(b:(List (List Int))×Bool)(e:Int->(List An)->Option (Ei×Int))(f:(Int×(List An))->Option (Ei×Int))(a:Int)(c:List An):Option (Ei×Int) :=
 bif decide (a<(b.1.length:Int))then
  (idx b.1 a).bind λg =>
  (bT c g).bind λh =>
  f ((i64.wrap (a+1)),h)
 else
  e a c
def Dy(d:Nat)(a:Aa)(c:Au)(b:List Ac)(e:Int)(f:Ad):Option (Ei×Int) :=
 (Ex a c).bind λg =>
 bif g != 0 then
  some (({}:Ei),g)
 else
  (KV d a b e f).bind λh =>
  bif h != 0 then
   some (({}:Ei),h)
  else
   (Gt d a ({ Op:=10,B:=e,V:=b,Ah:=f }:Av)).bind λj =>
   (B5 c.E j).bind λk =>
   bif !k then
    some (({}:Ei),23)
   else
    (I6 a b).bind λi =>
    bif !i.2 then
     some (({}:Ei),1)
    else
     (BE b).bind λl =>
     iter (λm s=>P4 i (λo n=>Et e d a c f b l n) m s.1 s.2) A9 (0,[])
def G7(a:Int):Option Bool :=
 some (bif decide (a<(-1000000))then true else(decide (a>1000000)))
abbrev MH(b:List (List Int))(e:Int->Option Bool)(f:Int->Option Bool)(a:Int):Option Bool :=
 bif decide (a<(b.length:Int))then
  (idx b a).bind λc =>
  (idx b 0).bind λg =>
  bif(c.length:Int) != (g.length:Int)then
   some false
  else
   (BY c G7).bind λh =>
   bif h then
    some false
   else
    f (i64.wrap (a+1))
 else
  e a
abbrev MI(a:List (List Int)):Option Bool :=
 iter (λb s=>MH a (λc=>some true) b s) A9 0
def GP(a:List (List Int)):Option Bool :=
 bif bif(a.length:Int)==0 then true else(decide ((a.length:Int)>200))then
  some false
 else
  (idx a 0).bind λb =>
  bif decide ((b.length:Int)<1)then
   some false
  else
   (idx a 0).bind λc =>
   bif decide ((c.length:Int)>5)then
    some false
   else
    MI a
def Jp(e:AQ)(g:(Int×AQ)->Option Bool)(h:Int)(a:Int):Option Bool :=
 (Hs e.C (u64.wrap (if 1>a then 1 else a))).bind λc =>
 (Hs e.D (u64.wrap (if 1>a then 1 else a))).bind λf =>
 (Jq f.2 c.1 0).bind λb =>
 bif bif bif decide ((u64.wrap (f.1+b.2))>0)then true else(decide (b.1>72057594037927936))then true else(bif b.1==72057594037927936 then(decide (c.2>0))else false)then
  some true
 else
  g ((i64.wrap (h+1)),({ D:=b.1,C:=c.2 }:AQ))
abbrev Jo(c:List Int)(f:Int->Int->Option Bool)(g:(Int×Int)->Option Bool)(e:Int)(a:Int):Option Bool :=
 bif decide (a<(c.length:Int))then
  (idx c a).bind λb =>
  g ((i64.wrap (e+(if(i64.wrap (0-b))>b then(i64.wrap (0-b))else b))),(i64.wrap (a+1)))
 else
  f e a
def Qr(b:List (List Int))(e:Int->AQ->Option Bool)(f:(Int×AQ)->Option Bool)(a:Int)(c:AQ):Option Bool :=
 bif decide (a<(b.length:Int))then
  (idx b a).bind λg =>
  iter (λh s=>Jo g (λi j=>Jp c f a i) h s.1 s.2) A9 (0,0)
 else
  e a c
def Km(a:List (List Int)):Option Bool :=
 (QF 1).bind λb =>
 iter (λc s=>Qr a (λe f=>some false) c s.1 s.2) A9 (0,b)
abbrev Qn(b:List Int)(e:Int->Option Int)(f:Int->Option Int)(a:Int):Option Int :=
 bif decide (a<(b.length:Int))then
  (idx b a).bind λc =>
  bif bif decide (c<(-2147483648))then true else(decide (c>2147483648))then
   some 2
  else
   f (i64.wrap (a+1))
 else
  e a
abbrev Qm(b:List (List Int))(c:Int->Option Int)(e:Int->Option Int)(a:Int):Option Int :=
 bif decide (a<(b.length:Int))then
  (idx b a).bind λf =>
  iter (λg s=>Qn f (λh=>e (i64.wrap (a+1))) g s) A9 0
 else
  c a
abbrev Qo(a:List (List Int)):Option Int :=
 iter (λb s=>Qm a (λe=>(Km a).bind λc=>bif c then   some 14 else   some 0) b s) A9 0
abbrev Ql(b:List (List Int))(c:Int->Option Int)(e:Int->Option Int)(a:Int):Option Int :=
 bif decide (a<(b.length:Int))then
  (idx b a).bind λf =>
  bif(f.length:Int) != (b.length:Int)then
   some 17
  else
   e (i64.wrap (a+1))
 else
  c a
def Gm(a:List (List Int)):Option Int :=
 bif(a.length:Int)==0 then
  some 18
 else
  bif decide ((a.length:Int)>5)then
   some 1
  else
   iter (λb s=>Ql a (λc=>Qo a) b s) A9 0
abbrev Qq(e:List (List Int))(f:List Int)(g:AQ)(h:Int->(List AO)->Option ((List AO)×Int))(i:(Int×(List AO))->Option ((List AO)×Int))(a:Int)(c:List AO):Option ((List AO)×Int) :=
 bif decide (a<(e.length:Int))then
  (Hr e a f).bind λj =>
  (Dj j).bind λk =>
  (GI k g).bind λb =>
  bif b.2 != 0 then
   some ([],b.2)
  else
   bif rm c.length [b.1].length then
    i ((i64.wrap (a+1)),(c++[b.1]))
   else none
 else
  h a c
abbrev M3(a:List (List Int))(c:List Int):Option ((List AO)×Int) :=
 (Dj a).bind λb =>
 (F6 b).bind λe =>
 bif e==0 then
  some ([],15)
 else
  iter (λf s=>Qq a c b (λh g=>some (g,0)) f s.1 s.2) A9 (0,[])
abbrev Qp(b:List (List Int))(e:List Int)(f:Int->Option ((List AO)×Int))(g:Int->Option ((List AO)×Int))(a:Int):Option ((List AO)×Int) :=
 bif decide (a<(b.length:Int))then
  (Hr b a e).bind λh =>
  (Gm h).bind λc =>
  bif c != 0 then
   some ([],c)
  else
   g (i64.wrap (a+1))
 else
  f a
def Kl(a:List (List Int))(b:List Int):Option ((List AO)×Int) :=
 (Gm a).bind λc =>
 bif c != 0 then
  some ([],c)
 else
  bif(b.length:Int) != (a.length:Int)then
   some ([],17)
  else
   iter (λe s=>Qp a b (λf=>M3 a b) e s) A9 0
def Kk(a:List (List Int))(b:List (List Int)):Option (AO×Int) :=
 (Gm a).bind λc =>
 bif c != 0 then
  some (({}:AO),c)
 else
  (Gm b).bind λe =>
  bif e != 0 then
   some (({}:AO),e)
  else
   (Dj b).bind λf =>
   (F6 f).bind λh =>
   bif h==0 then
    some (({}:AO),15)
   else
    (Dj a).bind λi =>
    (GI i f).bind λg =>
    some (g.1,g.2)
abbrev Vz(a:List (List Int))(b:Int)(e:Int)(f:Int):Option (AO×Int) :=
 (Mj (i64.wrap ((i64.wrap ((a.length:Int)*e))-(i64.wrap (b*b)))) (a.length:Int)).bind λc =>
 some (c.1,c.2)
abbrev IK(c:List (List Int))(g:Int->Int->Int->Option (AO×Int))(h:(Int×Int×Int)->Option (AO×Int))(e:Int)(f:Int)(a:Int):Option (AO×Int) :=
 bif decide (a<(c.length:Int))then
  (idx c a).bind λb =>
  (idx b 0).bind λi =>
  (idx b 0).bind λj =>
  (idx b 0).bind λk =>
  h ((i64.wrap (e+i)),(i64.wrap (f+(i64.wrap (j*k)))),(i64.wrap (a+1)))
 else
  g e f a
def Jh(a:List (List Int)):Option (AO×Int) :=
 iter (λb s=>IK a (Vz a) b s.1 s.2.1 s.2.2) A9 (0,0,0)
def KN(b:List (List Int))(g:List (List Int))(h:List (List Int))(i:List Int):Option (Cw×Int) :=
 (KP g).bind λf =>
 (Kl f i).bind λa =>
 bif a.2 != 0 then
  some (({}:Cw),a.2)
 else
  (KP h).bind λj =>
  (Kk j f).bind λc =>
  bif c.2 != 0 then
   some (({}:Cw),c.2)
  else
   (Jh b).bind λe =>
   bif e.2 != 0 then
    some (({}:Cw),e.2)
   else
    some (({ A9:=a.1,A4:=c.1,A5:=e.1,Af:=(b.length:Int),Bj:=(i64.wrap ((b.length:Int)-(a.1.length:Int))) }:Cw),0)
def KO(b:(Int×(List (List Int))×(List (List Int))×(List Int))->Option (Cw×Int))(c:Int)(e:List (List Int))(a:List Int)(f:List (List Int))(g:List Int)(h:Int)(j:Int)(i:List Int):Option (Cw×Int) :=
 b ((i64.wrap (c+1)),(e++[([1]++(M1 a 1 (a.length:Int)))]),(f++[(g++[h])]),i)
def KJ(b:List Int)(e:Int->(List Int)->Option (Cw×Int))(f:(Int×(List Int))->Option (Cw×Int))(a:Int)(c:List Int):Option (Cw×Int) :=
 bif decide (a<(([1]++(M1 b 1 (b.length:Int))).length:Int))then
  (idx ([1]++(M1 b 1 (b.length:Int))) a).bind λg =>
  (idx c a).bind λh =>
  (idx b 0).bind λi =>
  (idx c a).bind λj =>
  f ((i64.wrap (a+1)),(c.set (a:Int).toNat (i64.wrap (h+(i64.wrap (g*i))))))
 else
  e a c
def KI(h:List (List Int))(j:Int->(List (List Int))->(List (List Int))->(List Int)->Option (Cw×Int))(k:(Int×(List (List Int))×(List (List Int))×(List Int))->Option (Cw×Int))(b:Int)(c:List (List Int))(e:List (List Int))(i:List Int):Option (Cw×Int) :=
 bif decide (b<(h.length:Int))then
  (idx h b).bind λa =>
  bif decide (0<=(1:Int)/\1<=(a.length:Int)/\(a.length:Int)<=(a.length:Int))then
   bif rm [1].length (M1 a 1 (a.length:Int)).length then
    bif rm c.length ([([1]++(M1 a 1 (a.length:Int)))]).length then
     (Ba ([1]++(M1 a 1 (a.length:Int)))).bind λf =>
     (idx a 0).bind λg =>
     bif rm f.length [g].length then
      bif rm e.length ([(f++[g])]).length then
       iter (λl s=>KJ a (KO k b c a e f g) l s.1 s.2) A9 (0,i)
      else none
     else none
    else none
   else none
  else none
 else
  j b c e i
def KL(a:List (List Int)):Option (Cw×Int) :=
 (idx a 0).bind λb =>
 bif decide (0<=(b.length:Int))&&rm ((b.length:Int):Int).toNat 0 then
  iter (λc s=>KI a (λh e f g=>KN a e f g) c s.1 s.2.1 s.2.2.1 s.2.2.2) A9 (0,[],[],(List.replicate ((b.length:Int):Int).toNat 0))
 else none
def My(a:List (List Int)):Option (Cw×Int) :=
 (GP a).bind λb =>
 bif !b then
  some (({}:Cw),11)
 else
  (idx a 0).bind λc =>
  bif decide ((c.length:Int)<2)then
   some (({}:Cw),11)
  else
   (idx a 0).bind λe =>
   bif decide ((e.length:Int)>4)then
    some (({}:Cw),11)
   else
    KL a
def IJ(a:Aa)(b:Au)(rows:List Int):(List Int)->(List (List Int))->Option (List (List Int))
 | [],cs=>some cs
 | c :: r,cs=>(Ck a b rows c).bind λv=>bif v.length==cs.length then IJ a b rows r (cs.zipWith (λl x=>l++[x]) v)else none
def OP(p:List Int)(q:List Int):Option (List (List Int)):=bif decide (p.length<=1000000/\q.length<=1000000)then some (List.replicate p.length [])else none
def E0(d:Nat)(e:Aa)(f:Au)(a:Int)(b:List Int)(g:Ad):Option (Cw×(List Int)×Int) :=
 (Ex e f).bind λi =>
 bif i != 0 then
  some (({}:Cw),[],i)
 else
  (Ez d e ({ Op:=11,B:=a,A:=b,Ah:=g }:Av)).bind λj =>
  bif !j then
   some (({}:Cw),[],11)
  else
   (Gt d e ({ Op:=11,B:=a,A:=b,Ah:=g }:Av)).bind λk =>
   (B5 f.E k).bind λl =>
   bif !l then
    some (({}:Cw),[],23)
   else
    bif rm [a].length b.length then
     (DZ d e f g ([a]++b)).bind λh =>
     (OP h ([a]++b)).bind λm =>
     (IJ e f h ([a]++b) m).bind λn =>
     (My n).bind λc =>
     bif c.2 != 0 then
      some (({}:Cw),[],c.2)
     else
      (Ba b).bind λo =>
      (Fo f h).bind λp =>
      some (({ Y:=a,Ai:=o,A9:=c.1.A9,A4:=c.1.A4,A5:=c.1.A5,Af:=c.1.Af,Bj:=c.1.Bj }:Cw),p,0)
    else none
abbrev MA(e:Aa)(b:Au)(c:List Int)(f:Int)(j:Int)(g:List Bool):Option ((List Bb)×(List Int)×Int) :=
 (Ck e b c f).bind λh =>
 (OT h g).bind λa =>
 bif a.2 != 0 then
  some ([],[],a.2)
 else
  (Fo b c).bind λi =>
  some (a.1,i,0)
abbrev FP(c:List Int)(e:List Int)(f:Int->(List Bool)->Option ((List Bb)×(List Int)×Int))(g:(Int×(List Bool))->Option ((List Bb)×(List Int)×Int))(a:Int)(b:List Bool):Option ((List Bb)×(List Int)×Int) :=
 bif decide (a<(c.length:Int))then
  (idx c a).bind λh =>
  (Bj e h).bind λi =>
  (idx b a).bind λj =>
  g ((i64.wrap (a+1)),(b.set (a:Int).toNat i))
 else
  f a b
def E2(d:Nat)(a:Aa)(b:Au)(e:Int)(f:Ad)(g:Ad):Option ((List Bb)×(List Int)×Int) :=
 (Ex a b).bind λh =>
 bif h != 0 then
  some ([],[],h)
 else
  (Ez d a ({ Op:=12,B:=e,Ah:=g,U:=f }:Av)).bind λi =>
  bif !i then
   some ([],[],11)
  else
   (Gt d a ({ Op:=12,B:=e,Ah:=g,U:=f }:Av)).bind λj =>
   (B5 b.E j).bind λk =>
   bif !k then
    some ([],[],23)
   else
    (DZ d a b g [e]).bind λc =>
    (Do d a b f).bind λl =>
    bif decide (0<=(c.length:Int))&&rm ((c.length:Int):Int).toNat 0 then
     iter (λm s=>FP c l (MA a b c e) m s.1 s.2) A9 (0,(List.replicate ((c.length:Int):Int).toNat false))
    else none
def BP(a:Int)(b:Int)(c:List Ac)(e:Int)(f:List An)(g:Int)(h:List Int)(i:List AO)(j:Int)(k:Int)(l:Int)(m:Int)(n:Int)(o:Int)(p:List Bb)(q:List Int):Option (AR×Int) :=
 bif a != 0 then
  some (({}:AR),a)
 else
  some (({ Kind:=b,Table:={ V:=c,Y:=e,A1:=f },Model:={ Y:=g,Ai:=h,A9:=i,A4:={ S:=j,T:=k },A5:={ S:=l,T:=m },Af:=n,Bj:=o },Curve:=p,Lineage:=q }:AR),0)
def Cu(d:Nat)(n:A7->Av->Option (AR×Int))(i:A7->Av->Option (AR×Int))(b:A7)(a:Av):Option (AR×Int) :=
 bif a.Op==1 then
  some (({ Kind:=1,Number:={ S:=a.S,T:=1 } }:AR),0)
 else
  bif a.Op==2 then
   (E6 b a.I).bind λj =>
   some (j,0)
  else
   bif a.Op==3 then
    (Do d b.L.Ao b.L.X a.Ah).bind λg =>
    (Fo b.L.X g).bind λk =>
    some (({ Kind:=1,Number:={ S:=(g.length:Int),T:=1 },Lineage:=k }:AR),0)
   else
    bif a.Op==4 then
     none
    else
     bif a.Op==5 then
      none
     else
      bif a.Op==10 then
       (Dy d b.L.Ao b.L.X a.V a.B a.Ah).bind λe =>
       bif e.2==0 then
        (idx e.1.A1 0).bind λl =>
        (Ba l.G).bind λm =>
        BP e.2 2 e.1.V e.1.Y e.1.A1 0 [] [] 0 0 0 0 0 0 [] m
       else
        BP e.2 2 e.1.V e.1.Y e.1.A1 0 [] [] 0 0 0 0 0 0 [] []
      else
       bif a.Op==11 then
        (E0 d b.L.Ao b.L.X a.B a.A a.Ah).bind λc =>
        BP c.2.2 3 [] 0 [] c.1.Y c.1.Ai c.1.A9 c.1.A4.S c.1.A4.T c.1.A5.S c.1.A5.T c.1.Af c.1.Bj [] c.2.1
       else
        bif a.Op==12 then
         (E2 d b.L.Ao b.L.X a.B a.U a.Ah).bind λf =>
         BP f.2.2 4 [] 0 [] 0 [] [] 0 0 0 0 0 0 f.1 f.2.1
        else
         bif a.Op==13 then
          none
         else
          bif a.Op==14 then
           none
          else
           (i b a).bind λh =>
           some (h.1,h.2)
def Eg(d:Nat)(g:A7->Av->Option (AR×Int))(k:A7->Av->Option (AR×Int))(h:A7)(f:Av):Option (AR×Int) :=
 (idx f.H 0).bind λi =>
 (g h i).bind λb =>
 bif b.2 != 0 then
  some (({}:AR),b.2)
 else
  (idx f.H 1).bind λj =>
  (g h j).bind λc =>
  bif c.2 != 0 then
   some (({}:AR),c.2)
  else
   bif f.Op==7 then
    (Uy b.1.Number c.1.Number).bind λa =>
    bif a.2 != 0 then
     some (({}:AR),a.2)
    else
     (IZ b.1.Lineage c.1.Lineage).bind λe =>
     some (({ Kind:=1,Number:=a.1,Lineage:=e }:AR),0)
   else
    bif f.Op==8 then
     (Ux b.1.Number c.1.Number).bind λa =>
     bif a.2 != 0 then
      some (({}:AR),a.2)
     else
      (IZ b.1.Lineage c.1.Lineage).bind λe =>
      some (({ Kind:=1,Number:=a.1,Lineage:=e }:AR),0)
    else
     bif f.Op==9 then
      (Uw b.1.Number c.1.Number).bind λa =>
      bif a.2 != 0 then
       some (({}:AR),a.2)
      else
       (IZ b.1.Lineage c.1.Lineage).bind λe =>
       some (({ Kind:=1,Number:=a.1,Lineage:=e }:AR),0)
     else
      (Uv b.1.Number c.1.Number).bind λa =>
      bif a.2 != 0 then
       some (({}:AR),a.2)
      else
       (IZ b.1.Lineage c.1.Lineage).bind λe =>
       some (({ Kind:=1,Number:=a.1,Lineage:=e }:AR),0)
mutual
def B0:Nat->A7->Av->Option (AR×Int)
 | 0,_,_=>none
 | d+1,a,b=>Cu d (B0 d) (DJ d) a b
def DJ:Nat->A7->Av->Option (AR×Int)
 | 0,_,_=>none
 | d+1,a,b=>Eg d (B0 d) (DJ d) a b
end
def GJ(f:List Az)(d:Nat)(g:Aa)(h:Au)(i:Int->(List AF)->Option ((List AF)×Int×Int))(j:(Int×(List AF))->Option ((List AF)×Int×Int))(a:Int)(c:List AF):Option ((List AF)×Int×Int) :=
 bif decide (a<(f.length:Int))then
  (idx f a).bind λb =>
  (B0 d ({ L:={ Ao:=g,X:=h },A3:=c }:A7) b.Aq).bind λe =>
  bif e.2 != 0 then
   some ([],a,e.2)
  else
   bif rm c.length [({ I:=b.I,Bc:=b.Bc,At:=e.1 }:AF)].length then
    j ((i64.wrap (a+1)),(c++[({ I:=b.I,Bc:=b.Bc,At:=e.1 }:AF)]))
   else none
 else
  i a c
def Dw(d:Nat)(a:Aa)(c:Au)(b:List Az):Option ((List AF)×Int×Int) :=
 (Ex a c).bind λg =>
 bif g != 0 then
  some ([],(-1),g)
 else
  (H7 d a b).bind λe =>
  bif e.2 != 0 then
   some ([],e.1,e.2)
  else
   (Jj d a c.E b).bind λf =>
   bif f.2.2 != 0 then
    some ([],f.2.1,f.2.2)
   else
    iter (λh s=>GJ b d a c (λj i=>some (i,(b.length:Int),0)) h s.1 s.2) A9 (0,[])
abbrev O1(e:List AF)(h:Int->(List AF)->Option (List AF))(f:(Int×(List AF))->Option (List AF))(b:Int)(c:List AF):Option (List AF) :=
 bif decide (b<(e.length:Int))then
  (idx e b).bind λa =>
  bif a.Bc then
   (Jn a.At).bind λg =>
   bif rm c.length [({ I:=a.I,Bc:=a.Bc,At:=g }:AF)].length then
    f ((i64.wrap (b+1)),(c++[({ I:=a.I,Bc:=a.Bc,At:=g }:AF)]))
   else none
  else
   f ((i64.wrap (b+1)),c)
 else
  h b c
def Kg(a:List AF):Option (List AF) :=
 iter (λb s=>O1 a (λe c=>some c) b s.1 s.2) A9 (0,[])
abbrev Na(c:List (List Int))(e:List Int)(i:Bool->Int->(List (List Int))->Option (List (List Int)))(h:(Bool×Int×(List (List Int)))->Option (List (List Int)))(g:Bool)(a:Int)(b:List (List Int)):Option (List (List Int)) :=
 bif decide (a<(c.length:Int))then
  (idx c a).bind λj =>
  (idx j 0).bind λk =>
  (idx e 0).bind λl =>
  bif k==l then
   h (g,(i64.wrap (a+1)),b)
  else
   (idx c a).bind λm =>
   (idx m 0).bind λn =>
   (idx e 0).bind λo =>
   bif bif decide (n>o)then(!g)else false then
    bif rm b.length [e].length then
     (idx c a).bind λf =>
     bif rm (b++[e]).length [f].length then
      h (true,(i64.wrap (a+1)),((b++[e])++[f]))
     else none
    else none
   else
    (idx c a).bind λf =>
    bif rm b.length [f].length then
     h (g,(i64.wrap (a+1)),(b++[f]))
    else none
 else
  i g a b
def Nn(c:List (List Int))(a:List Int):Option (List (List Int)) :=
 iter (λe s=>Na c a (λf g b=>bif !f then   bif rm b.length [a].length then     some (b++[a])   else none else   some b) e s.1 s.2.1 s.2.2) A9 (false,0,[])
abbrev SD(a:ByteArray):Option Bool :=
 bif a.toList==({ data:=#[97,108,108] }:ByteArray).toList then
  some false
 else
  bif a.toList==({ data:=#[97,110,100] }:ByteArray).toList then
   some false
  else
   bif a.toList==({ data:=#[101,118,101,110,116] }:ByteArray).toList then
    some false
   else
    bif a.toList==({ data:=#[102,114,111,109] }:ByteArray).toList then
     some false
    else
     bif a.toList==({ data:=#[109,105,115,115,105,110,103] }:ByteArray).toList then
      some false
     else
      bif a.toList==({ data:=#[110,111,116] }:ByteArray).toList then
       some false
      else
       bif a.toList==({ data:=#[111,110] }:ByteArray).toList then
        some false
       else
        bif a.toList==({ data:=#[111,114] }:ByteArray).toList then
         some false
        else
         bif a.toList==({ data:=#[116,111] }:ByteArray).toList then
          some false
         else
          bif a.toList==({ data:=#[117,110,100,101,114] }:ByteArray).toList then
           some false
          else
           bif a.toList==({ data:=#[119,104,101,114,101] }:ByteArray).toList then
            some false
           else
            some true
abbrev SC(b:ByteArray)(e:Int->Option Bool)(c:Int->Option Bool)(a:Int):Option Bool :=
 bif decide (a<(b.size:Int))then
  bif decide (0<=(a:Int)/\(a:Int).toNat<b.size)then
   bif decide ((Gw b a)>=97)then
    bif decide (0<=(a:Int)/\(a:Int).toNat<b.size)then
     bif decide ((Gw b a)<=122)then
      c (i64.wrap (a+1))
     else
      bif decide (0<=(a:Int)/\(a:Int).toNat<b.size)then
       bif decide ((Gw b a)>=48)then
        bif decide (0<=(a:Int)/\(a:Int).toNat<b.size)then
         bif decide ((Gw b a)<=57)then
          c (i64.wrap (a+1))
         else
          bif decide (0<=(a:Int)/\(a:Int).toNat<b.size)then
           bif !((Gw b a)==95)then
            some false
           else
            c (i64.wrap (a+1))
          else none
        else none
       else
        bif decide (0<=(a:Int)/\(a:Int).toNat<b.size)then
         bif !((Gw b a)==95)then
          some false
         else
          c (i64.wrap (a+1))
        else none
      else none
    else none
   else
    bif decide (0<=(a:Int)/\(a:Int).toNat<b.size)then
     bif decide ((Gw b a)>=48)then
      bif decide (0<=(a:Int)/\(a:Int).toNat<b.size)then
       bif decide ((Gw b a)<=57)then
        c (i64.wrap (a+1))
       else
        bif decide (0<=(a:Int)/\(a:Int).toNat<b.size)then
         bif !((Gw b a)==95)then
          some false
         else
          c (i64.wrap (a+1))
        else none
      else none
     else
      bif decide (0<=(a:Int)/\(a:Int).toNat<b.size)then
       bif !((Gw b a)==95)then
        some false
       else
        c (i64.wrap (a+1))
      else none
    else none
  else none
 else
  e a
def OM(a:ByteArray):Option Bool :=
 iter (λb s=>SC a (λc=>SD a) b s) A9 0
def BU(a:ByteArray):Option Bool :=
 bif bif decide ((a.size:Int)<1)then true else(decide ((a.size:Int)>16))then
  some false
 else
  bif decide (0<=(0:Int)/\(0:Int).toNat<a.size)then
   bif decide ((Gw a 0)<97)then
    some false
   else
    bif decide (0<=(0:Int)/\(0:Int).toNat<a.size)then
     bif decide ((Gw a 0)>122)then
      some false
     else
      OM a
    else none
  else none
abbrev Ri(b:Aj)(e:Int->Int->Option Int)(f:(Int×Int)->Option Int)(a:Int)(c:Int):Option Int :=
 (idx b.Q a).bind λg =>
 bif decide (g.Bd>=0)then
  (idx b.Q a).bind λh =>
  f (h.Bd,(i64.wrap (c+1)))
 else
  e a c
def Ff(a:Aj)(b:Int):Option Int :=
 iter (λc s=>Ri a (λf e=>some e) c s.1 s.2) A9 (b,0)
abbrev SE(b:Aj)(c:Int)(e:Int->Option Bool)(f:Int->Option Bool)(a:Int):Option Bool :=
 bif decide (a<(b.Q.length:Int))then
  (idx b.Q a).bind λg =>
  bif g.Bd==c then
   some false
  else
   f (i64.wrap (a+1))
 else
  e a
def T8(a:Aj)(b:Int):Option Bool :=
 iter (λc s=>SE a b (λe=>some true) c s) A9 0
abbrev Rf(b:Aj)(g:Int->Int->Option Int)(e:(Int×Int)->Option Int)(c:Int)(a:Int):Option Int :=
 bif decide (a<(b.Q.length:Int))then
  (T8 b a).bind λh =>
  bif h then
   bif decide (c>=0)then
    (Ff b a).bind λi =>
    bif i != c then
     some 5
    else
     (Ff b a).bind λf =>
     e (f,(i64.wrap (a+1)))
   else
    (Ff b a).bind λf =>
    e (f,(i64.wrap (a+1)))
  else
   e (c,(i64.wrap (a+1)))
 else
  g c a
abbrev Rh(a:Aj):Option Int :=
 iter (λb s=>Rf a (λc e=>some 0) b s.1 s.2) A9 ((-1),0)
abbrev Yn(c:Aj)(a:Int)(e:Int->Option Int)(f:Int):Option Int :=
 (idx c.Q a).bind λb =>
 bif bif bif a==0 then(b.Bd != (-1))else false then true else(bif decide (a>0)then(bif decide (b.Bd<0)then true else(decide (b.Bd>=a)))else false)then
  some 6
 else
  e (i64.wrap (a+1))
abbrev Re(b:Int)(c:Aj)(e:Int->Option Int)(f:Int->Option Int)(a:Int):Option Int :=
 bif decide (a<b)then
  (idx c.Q a).bind λg =>
  (idx c.Q b).bind λh =>
  bif g.I.toList==h.I.toList then
   some 10
  else
   f (i64.wrap (a+1))
 else
  e a
abbrev Rc(b:Aj)(c:Int->Option Int)(e:Int->Option Int)(a:Int):Option Int :=
 bif decide (a<(b.Q.length:Int))then
  (idx b.Q a).bind λf =>
  (BU f.I).bind λg =>
  bif !g then
   some 3
  else
   iter (λh s=>Re a b (Yn b a e) h s) A9 0
 else
  c a
def Gp(a:Aj):Option Int :=
 (BU a.I).bind λb =>
 bif !b then
  some 3
 else
  bif(a.Q.length:Int)==0 then
   some 5
  else
   bif decide ((a.Q.length:Int)>60)then
    some 1
   else
    iter (λc s=>Rc a (λe=>Rh a) c s) A9 0
def Gq(a:Aj):Option Int :=
 (Gp a).bind λb =>
 bif b != 0 then
  some (-1)
 else
  (Ff a (i64.wrap ((a.Q.length:Int)-1))).bind λc =>
  some (i64.wrap (c+1))
abbrev Wx(c:Aj)(f:Int)(g:Int->(List Int)->Option (List Int))(e:(Int×(List Int))->Option (List Int))(a:Int)(b:List Int):Option (List Int) :=
 bif decide (a<(c.Q.length:Int))then
  (Ff c a).bind λh =>
  bif h==f then
   bif rm b.length [a].length then
    e ((i64.wrap (a+1)),(b++[a]))
   else none
  else
   e ((i64.wrap (a+1)),b)
 else
  g a b
def Pw(a:Aj)(b:Int):Option (List Int) :=
 (Gp a).bind λc =>
 bif c != 0 then
  some []
 else
  iter (λe s=>Wx a b (λg f=>some f) e s.1 s.2) A9 (0,[])
def D6(a:Aa)(c:Int):Option (List Int) :=
 (idx a.A c).bind λe =>
 (idx a.K e.Ak).bind λb =>
 (Gq b).bind λf =>
 (Pw b (i64.wrap (f-1))).bind λg =>
 some g
def F8(a:Int)(b:Int)(c:Int):Option Bool :=
 some (bif decide (b<=a)then(decide (a<=c))else false)
abbrev Py(b:As)(g:Int->Option Int)(e:Int->Option Int)(a:Int):Option Int :=
 bif decide (a<(b.N.length:Int))then
  (idx b.N a).bind λc =>
  bif bif a==0 then(c != 1)else false then
   some 2
  else
   bif decide (a>0)then
    (idx b.N (i64.wrap (a-1))).bind λh =>
    bif bif decide (c<=h)then true else(decide (c>1000000))then
     some 2
    else
     (idx b.N (i64.wrap (a-1))).bind λf =>
     bif decide (f≠0)then
      bif(Int.tmod c f) != 0 then
       some 2
      else
       e (i64.wrap (a+1))
     else none
   else
    e (i64.wrap (a+1))
 else
  g a
abbrev LA(a:As):Option Int :=
 bif bif decide ((a.N.length:Int)<1)then true else(decide ((a.N.length:Int)>4))then
  some 1
 else
  iter (λb s=>Py a (λc=>some 0) b s) A9 0
def Jc(a:As):Option Int :=
 (F8 a.C (-1000000) 1000000).bind λb =>
 bif !b then
  some 2
 else
  (F8 a.D (-1000000) 1000000).bind λc =>
  bif bif !c then true else(decide (a.C>a.D))then
   some 2
  else
   LA a
abbrev Hy(a:As):Option Int :=
 bif a.Kind==3 then
  (Jc a).bind λb =>
  bif b != 0 then
   some b
  else
   bif bif bif a.Kind != 2 then(a.Ak != 0)else false then true else(bif a.Kind != 3 then(bif bif bif a.C != 0 then true else(a.D != 0)then true else(decide ((a.N.length:Int)>0))then true else a.Al)else false)then
    some 11
   else
    some 0
 else
  bif bif bif a.Kind != 2 then(a.Ak != 0)else false then true else(bif a.Kind != 3 then(bif bif bif a.C != 0 then true else(a.D != 0)then true else(decide ((a.N.length:Int)>0))then true else a.Al)else false)then
   some 11
  else
   some 0
def Jt(a:As)(b:Int)(c:Aa):Option Int :=
 (F8 a.Kind 1 3).bind λe =>
 bif bif !e then true else(bif decide (b>0)then(a.Kind==1)else false)then
  some 4
 else
  bif a.Kind==2 then
   (F8 a.Ak 0 (i64.wrap ((c.K.length:Int)-1))).bind λf =>
   bif !f then
    some 5
   else
    Hy a
  else
   Hy a
abbrev Js(b:Int)(c:Aa)(e:As)(f:Int->Option Int)(g:Int->Option Int)(a:Int):Option Int :=
 bif decide (a<b)then
  (idx c.A a).bind λh =>
  bif h.I.toList==e.I.toList then
   some 10
  else
   g (i64.wrap (a+1))
 else
  f a
def Kw(a:Aa)(b:Int):Option Int :=
 (idx a.A b).bind λc =>
 (BU c.I).bind λe =>
 bif !e then
  some 3
 else
  iter (λf s=>Js b a c (λg=>Jt c b a) f s) A9 0
abbrev Ku(b:Aa)(e:Int->Option Int)(f:Int->Option Int)(a:Int):Option Int :=
 bif decide (a<(b.A.length:Int))then
  (Kw b a).bind λc =>
  bif c != 0 then
   some c
  else
   f (i64.wrap (a+1))
 else
  e a
abbrev NK(a:Aa):Option Int :=
 bif(a.A.length:Int)==0 then
  some 7
 else
  (idx a.A 0).bind λb =>
  bif b.Kind != 1 then
   some 7
  else
   iter (λc s=>Ku a (λe=>some 0) c s) A9 0
abbrev Kt(b:Int)(c:Aa)(e:Int->Option Int)(f:Int->Option Int)(a:Int):Option Int :=
 bif decide (a<b)then
  (idx c.K a).bind λg =>
  (idx c.K b).bind λh =>
  bif g.I.toList==h.I.toList then
   some 10
  else
   f (i64.wrap (a+1))
 else
  e a
abbrev Ks(b:Aa)(e:Int->Option Int)(f:Int->Option Int)(a:Int):Option Int :=
 bif decide (a<(b.K.length:Int))then
  (idx b.K a).bind λg =>
  (Gp g).bind λc =>
  bif c != 0 then
   some c
  else
   iter (λh s=>Kt a b (λi=>f (i64.wrap (a+1))) h s) A9 0
 else
  e a
def DO(a:Aa):Option Int :=
 bif bif decide ((a.K.length:Int)>6)then true else(decide ((a.A.length:Int)>8))then
  some 1
 else
  iter (λb s=>Ks a (λc=>NK a) b s) A9 0
def Df(a:Aa)(b:Int):Option Int :=
 (DO a).bind λe =>
 bif bif bif e != 0 then true else(decide (b<1))then true else(decide (b>=(a.A.length:Int)))then
  some (-1)
 else
  (idx a.A b).bind λc =>
  bif c.Kind==2 then
   (idx a.K c.Ak).bind λf =>
   (Gq f).bind λg =>
   some (i64.wrap (g-1))
  else
   some (c.N.length:Int)
abbrev K4(c:Ad)(e:Int)(f:Ad->Int->Option Int)(g:Int->Int->Option Int)(h:(Int×Int)->Option Int)(a:Int)(b:Int):Option Int :=
 bif bif decide (b<(c.H.length:Int))then(decide (a<e))else false then
  (idx c.H b).bind λi =>
  (f i (i64.wrap (e-a))).bind λj =>
  h ((i64.wrap (a+j)),(i64.wrap (b+1)))
 else
  g a b
def Je(d:Nat)(a:Ad->Int->Option Int)(b:Ad)(c:Int):Option Int :=
 iter (λe s=>K4 b c a (λf g=>some f) e s.1 s.2) A9 (1,0)
def JN:Nat->Ad->Int->Option Int
 | 0,_,_=>none
 | d+1,a,b=>Je d (JN d) a b
abbrev Rm(c:Ad)(f:Ad->Option Int)(g:Int->Int->Option Int)(h:(Int×Int)->Option Int)(b:Int)(a:Int):Option Int :=
 bif decide (a<(c.H.length:Int))then
  (idx c.H a).bind λi =>
  (f i).bind λe =>
  h ((if e>b then e else b),(i64.wrap (a+1)))
 else
  g b a
def LW(d:Nat)(a:Ad->Option Int)(b:Ad):Option Int :=
 iter (λc s=>Rm b a (λe f=>some (i64.wrap (e+1))) c s.1 s.2) A9 (0,0)
def I1:Nat->Ad->Option Int
 | 0,_=>none
 | d+1,a=>LW d (I1 d) a
def NU(b:Aa)(a:Int)(c:Int):Option Bool :=
 bif bif decide (a>=0)then(decide (a<(b.A.length:Int)))else false then
  (idx b.A a).bind λe =>
  some (e.Kind==c)
 else
  some false
def Jf(b:Ad)(e:Aa->Ad->Option Int)(f:Aa)(g:Int->Option Int)(h:Int->Option Int)(a:Int):Option Int :=
 bif decide (a<(b.H.length:Int))then
  (idx b.H a).bind λi =>
  (e f i).bind λc =>
  bif c != 0 then
   some c
  else
   h (i64.wrap (a+1))
 else
  g a
def CY(a:Ad)(b:Aa->Ad->Option Int)(c:Aa):Option Int :=
 bif bif a.Op==3 then(bif bif decide (a.C<(-1000000))then true else(decide (a.D>1000000))then true else(decide (a.C>a.D)))else false then
  some 2
 else
  iter (λe s=>Jf a b c (λf=>some 0) e s) A9 0
def Cz(a:Ad)(b:Aa)(c:Aa->Ad->Option Int):Option Int :=
 bif a.Op==2 then
  bif decide (a.Z<0)then
   some 6
  else
   (idx b.A a.B).bind λe =>
   (idx b.K e.Ak).bind λf =>
   bif decide (a.Z>=(f.Q.length:Int))then
    some 6
   else
    CY a c b
 else
  CY a c b
def BR(a:Ad)(b:Aa)(c:Aa->Ad->Option Int)(e:Int)(f:Int)(g:Int)(h:Int)(i:Int):Option Int :=
 bif bif bif bif bif(a.H.length:Int) != e then true else(f != a.B)then true else(g != a.Z)then true else(h != a.C)then true else(i != a.D)then
  some 11
 else
  bif a.Op==2 then
   (NU b a.B 2).bind λj =>
   bif !j then
    some 7
   else
    Cz a b c
  else
   bif a.Op==3 then
    (NU b a.B 3).bind λk =>
    bif !k then
     some 7
    else
     Cz a b c
   else
    bif a.Op==4 then
     (NU b a.B 3).bind λl =>
     bif !l then
      some 7
     else
      (idx b.A a.B).bind λm =>
      bif !m.Al then
       some 7
      else
       Cz a b c
    else
     Cz a b c
def K6(d:Nat)(b:Aa->Ad->Option Int)(c:Aa)(a:Ad):Option Int :=
 bif a.Op==1 then
  BR a c b 0 0 0 0 0
 else
  bif a.Op==2 then
   BR a c b 0 a.B a.Z 0 0
  else
   bif a.Op==3 then
    BR a c b 0 a.B 0 a.C a.D
   else
    bif a.Op==4 then
     BR a c b 0 a.B 0 0 0
    else
     bif a.Op==5 then
      BR a c b 2 0 0 0 0
     else
      bif a.Op==6 then
       BR a c b 2 0 0 0 0
      else
       bif a.Op==7 then
        BR a c b 1 0 0 0 0
       else
        some 4
def I3:Nat->Aa->Ad->Option Int
 | 0,_,_=>none
 | d+1,a,b=>K6 d (I3 d) a b
def Fh(d:Nat)(b:Aa)(a:Ad):Option Int :=
 (DO b).bind λc =>
 bif c != 0 then
  some c
 else
  (JN d a 41).bind λe =>
  bif decide (e>40)then
   some 1
  else
   (I1 d a).bind λf =>
   bif decide (f>10)then
    some 22
   else
    (I3 d b a).bind λg =>
    some g
def Jg(b:Aa)(a:Int)(c:Int):Option Bool :=
 bif bif decide (a>=0)then(decide (a<(b.A.length:Int)))else false then
  (idx b.A a).bind λe =>
  some (e.Kind==c)
 else
  some false
def Hj(b:Aa)(a:Ac):Option Int :=
 (DO b).bind λc =>
 bif c != 0 then
  some c
 else
  bif bif decide (a.B<1)then true else(decide (a.B>=(b.A.length:Int)))then
   some 7
  else
   (Df b a.B).bind λe =>
   (F8 a.J 0 e).bind λf =>
   bif !f then
    some 8
   else
    some 0
abbrev SO(b:Int)(c:List Ac)(e:Int->Option Int)(f:Int->Option Int)(a:Int):Option Int :=
 bif decide (a<b)then
  (idx c a).bind λg =>
  (idx c b).bind λh =>
  bif g.B==h.B then
   some 10
  else
   f (i64.wrap (a+1))
 else
  e a
abbrev SN(b:List Ac)(c:Aa)(f:Int->Option Int)(g:Int->Option Int)(a:Int):Option Int :=
 bif decide (a<(b.length:Int))then
  (idx b a).bind λh =>
  (Hj c h).bind λe =>
  bif e != 0 then
   some e
  else
   (idx b a).bind λi =>
   (Jg c i.B 2).bind λj =>
   bif !j then
    some 7
   else
    iter (λk s=>SO a b (λl=>g (i64.wrap (a+1))) k s) A9 0
 else
  f a
def JB(b:Aa)(a:List Ac):Option Int :=
 bif bif decide ((a.length:Int)<1)then true else(decide ((a.length:Int)>3))then
  some 1
 else
  iter (λc s=>SN a b (λe=>some 0) c s) A9 0
abbrev MY(b:List Int)(c:Int)(e:Int->Option Bool)(f:Int->Option Bool)(a:Int):Option Bool :=
 bif decide (a<(b.length:Int))then
  (idx b a).bind λg =>
  bif g==c then
   some true
  else
   f (i64.wrap (a+1))
 else
  e a
def Nl(a:List Int)(b:Int):Option Bool :=
 iter (λc s=>MY a b (λe=>some false) c s) A9 0
abbrev Ro(b:List Int)(c:Aa)(e:Int)(f:Int->Option Int)(g:Int->Option Int)(a:Int):Option Int :=
 bif decide (a<(b.length:Int))then
  (idx b a).bind λh =>
  (Jg c h 3).bind λi =>
  bif !i then
   some 7
  else
   (idx b a).bind λj =>
   bif j==e then
    some 10
   else
    bif decide (0<=(0:Int)/\0<=a/\a<=(b.length:Int))then
     (idx b a).bind λk =>
     (Nl (M1 b 0 a) k).bind λl =>
     bif l then
      some 10
     else
      g (i64.wrap (a+1))
    else none
 else
  f a
def I4(b:Aa)(c:Int)(a:List Int):Option Int :=
 bif bif decide ((a.length:Int)<1)then true else(decide ((a.length:Int)>3))then
  some 1
 else
  iter (λe s=>Ro a b c (λf=>some 0) e s) A9 0
def Mt(d:Nat)(b:Aa)(a:Ap):Option Int :=
 (Jg b a.Y 3).bind λc =>
 bif a.Kind==1 then
  (JB b a.V).bind λe =>
  bif e != 0 then
   some e
  else
   bif bif a.Y != (-1)then(!c)else false then
    some 7
   else
    some 0
 else
  bif a.Kind==2 then
   bif !c then
    some 7
   else
    (I4 b a.Y a.Ai).bind λf =>
    some f
  else
   bif !c then
    some 7
   else
    (idx b.A a.Y).bind λg =>
    bif decide (g.C<0)then
     some 2
    else
     (Fh d b a.U).bind λh =>
     some h
abbrev SG(b:Ad)(c:Ad)(e:Ad->Ad->Option Bool)(f:Int->Option Bool)(g:Int->Option Bool)(a:Int):Option Bool :=
 bif decide (a<(b.H.length:Int))then
  (idx b.H a).bind λh =>
  (idx c.H a).bind λi =>
  (e h i).bind λj =>
  bif !j then
   some false
  else
   g (i64.wrap (a+1))
 else
  f a
def K3(d:Nat)(c:Ad->Ad->Option Bool)(a:Ad)(b:Ad):Option Bool :=
 bif bif bif bif bif bif a.Op != b.Op then true else(a.B != b.B)then true else(a.Z != b.Z)then true else(a.C != b.C)then true else(a.D != b.D)then true else((a.H.length:Int) != (b.H.length:Int))then
  some false
 else
  iter (λe s=>SG a b c (λf=>some true) e s) A9 0
def NT:Nat->Ad->Ad->Option Bool
 | 0,_,_=>none
 | d+1,a,b=>K3 d (NT d) a b
def NX(d:Nat)(a:Ad):Option Bool :=
 (NT d a ({}:Ad)).bind λb =>
 some b
def CH(d:Nat)(b:Aa)(a:Ap):Option Int :=
 (DO b).bind λc =>
 bif c != 0 then
  some c
 else
  (BU a.I).bind λg =>
  bif !g then
   some 3
  else
   bif bif decide (a.Kind<1)then true else(decide (a.Kind>3))then
    some 4
   else
    (Fh d b a.Ay).bind λe =>
    bif e != 0 then
     some e
    else
     (Mt d b a).bind λf =>
     bif f != 0 then
      some f
     else
      bif bif bif a.Kind != 1 then(decide ((a.V.length:Int)>0))else false then true else(bif a.Kind != 2 then(decide ((a.Ai.length:Int)>0))else false)then
       some 11
      else
       bif a.Kind != 3 then
        (NX d a.U).bind λh =>
        bif !h then
         some 11
        else
         some 0
       else
        some 0
abbrev K8(b:Int)(c:Ar)(e:Int->Option Int)(f:Int->Option Int)(a:Int):Option Int :=
 bif decide (a<b)then
  (idx c.Am a).bind λg =>
  (idx c.Am b).bind λh =>
  bif g.I.toList==h.I.toList then
   some 10
  else
   f (i64.wrap (a+1))
 else
  e a
abbrev K7(b:Ar)(d:Nat)(e:Aa)(f:Int->Option Int)(g:Int->Option Int)(a:Int):Option Int :=
 bif decide (a<(b.Am.length:Int))then
  (idx b.Am a).bind λh =>
  (CH d e h).bind λc =>
  bif c != 0 then
   some c
  else
   iter (λi s=>K8 a b (λj=>g (i64.wrap (a+1))) i s) A9 0
 else
  f a
abbrev K9(d:Nat)(b:Aa)(a:Ar):Option Int :=
 (Fh d b a.Be).bind λc =>
 bif c != 0 then
  some c
 else
  bif bif bif bif bif bif decide (a.A2.Of<1)then true else(decide (a.A2.Of>1000))then true else(decide (a.A2.Bh<1))then true else(decide (a.A2.Bh>a.A2.Of))then true else(decide (a.A2.Bi<0))then true else(decide (a.A2.Bi>1099511627776))then
   some 2
  else
   bif bif decide ((a.Am.length:Int)<1)then true else(decide ((a.Am.length:Int)>8))then
    some 1
   else
    iter (λe s=>K7 a d b (λf=>some 0) e s) A9 0
def Gs(d:Nat)(b:Aa)(a:Ar):Option Int :=
 (DO b).bind λc =>
 bif c != 0 then
  some c
 else
  (BU a.Ae).bind λe =>
  bif !e then
   some 3
  else
   (BU a.Bl).bind λf =>
   bif !f then
    some 3
   else
    K9 d b a
abbrev NS(b:Int)(c:Int)(e:Bool)(f:Int)(a:List Ac):Option (List Ac) :=
 bif !e then
  bif rm a.length [({ B:=b,J:=c }:Ac)].length then
   some (a++[({ B:=b,J:=c }:Ac)])
  else none
 else
  some a
abbrev GO(i:List Ac)(e:Int)(b:Int)(j:Bool->Int->(List Ac)->Option (List Ac))(g:(Bool×Int×(List Ac))->Option (List Ac))(h:Bool)(f:Int)(c:List Ac):Option (List Ac) :=
 bif decide (f<(i.length:Int))then
  (idx i f).bind λa =>
  bif bif decide (a.B>e)then(!h)else false then
   bif rm c.length [({ B:=e,J:=b }:Ac)].length then
    bif a.B==e then
     bif rm (c++[({ B:=e,J:=b }:Ac)]).length [({ B:=a.B,J:=(if b>a.J then b else a.J) }:Ac)].length then
      g (true,(i64.wrap (f+1)),((c++[({ B:=e,J:=b }:Ac)])++[({ B:=a.B,J:=(if b>a.J then b else a.J) }:Ac)]))
     else none
    else
     bif rm (c++[({ B:=e,J:=b }:Ac)]).length [a].length then
      g (true,(i64.wrap (f+1)),((c++[({ B:=e,J:=b }:Ac)])++[a]))
     else none
   else none
  else
   bif a.B==e then
    bif rm c.length [({ B:=a.B,J:=(if b>a.J then b else a.J) }:Ac)].length then
     g (true,(i64.wrap (f+1)),(c++[({ B:=a.B,J:=(if b>a.J then b else a.J) }:Ac)]))
    else none
   else
    bif rm c.length [a].length then
     g (h,(i64.wrap (f+1)),(c++[a]))
    else none
 else
  j h f c
def DU(c:List Ac)(b:Int)(a:Int):Option (List Ac) :=
 iter (λe s=>GO c b a (NS b a) e s.1 s.2.1 s.2.2) A9 ((decide (a<=0)),0,[])
abbrev Ky(c:Ad)(f:Ad->Option (List Ad))(g:Int->(List Ad)->Option (List Ad))(h:(Int×(List Ad))->Option (List Ad))(a:Int)(b:List Ad):Option (List Ad) :=
 bif decide (a<(c.H.length:Int))then
  (idx c.H a).bind λi =>
  (f i).bind λe =>
  bif rm b.length e.length then
   h ((i64.wrap (a+1)),(b++e))
  else none
 else
  g a b
def Jd(d:Nat)(b:Ad->Option (List Ad))(a:Ad):Option (List Ad) :=
 bif bif bif a.Op==2 then true else(a.Op==3)then true else(a.Op==4)then
  some [a]
 else
  iter (λc s=>Ky a b (λf e=>some e) c s.1 s.2) A9 (0,[])
def JM:Nat->Ad->Option (List Ad)
 | 0,_=>none
 | d+1,a=>Jd d (JM d) a
def Iy(a:Aj)(b:Int):Option Int :=
 (Gp a).bind λc =>
 bif bif bif c != 0 then true else(decide (b<0))then true else(decide (b>=(a.Q.length:Int)))then
  some (-1)
 else
  (Ff a b).bind λe =>
  some e
def JJ(e:Aa)(f:Int)(b:Int):Option Bool :=
 (idx e.A f).bind λa =>
 bif a.Kind==1 then
  (F8 b 1 1048575).bind λg =>
  some g
 else
  bif a.Kind==2 then
   (idx e.K a.Ak).bind λc =>
   (F8 b 0 (i64.wrap ((c.Q.length:Int)-1))).bind λh =>
   bif h then
    (Iy c b).bind λi =>
    (Gq c).bind λj =>
    some (i==(i64.wrap (j-1)))
   else
    some false
  else
   bif bif a.Al then(b==(-1099511627776))else false then
    some true
   else
    (F8 b a.C a.D).bind λk =>
    some k
abbrev Wy(b:Aj)(c:Int)(e:Int->Option Int)(f:Int->Option Int)(a:Int):Option Int :=
 (Ff b a).bind λg =>
 bif decide (g>c)then
  (idx b.Q a).bind λh =>
  f h.Bd
 else
  e a
def Kr(a:Aj)(b:Int)(c:Int):Option Int :=
 (Gp a).bind λe =>
 bif bif bif bif e != 0 then true else(decide (b<0))then true else(decide (b>=(a.Q.length:Int)))then true else(decide (c<0))then
  some (-1)
 else
  (Ff a b).bind λf =>
  bif decide (c>f)then
   some (-1)
  else
   iter (λg s=>Wy a c (λh=>some h) g s) A9 b
def Dn(a:As)(b:Int):Option Int :=
 (idx a.N (i64.wrap ((a.N.length:Int)-b))).bind λc =>
 some c
def Gr(b:Int)(a:Int):Option Int :=
 bif decide (a≠0)then
  bif decide (a≠0)then
   bif decide ((Int.tmod b a)<0)then
    some (i64.wrap ((i64.wrap (Int.tdiv b a))-1))
   else
    some (i64.wrap (Int.tdiv b a))
  else none
 else none
def BL(e:Aa)(g:Int)(b:Int)(a:Int):Option Int :=
 (Df e g).bind λi =>
 (F8 b 0 i).bind λj =>
 bif !j then
  some (-1)
 else
  (idx e.A g).bind λf =>
  bif f.Kind==2 then
   (JJ e g a).bind λk =>
   bif !k then
    some (-1)
   else
    (idx e.K f.Ak).bind λl =>
    (Kr l a b).bind λm =>
    some m
  else
   bif a != (-1099511627776)then
    (F8 a (-1000000) 1000000).bind λn =>
    bif !n then
     some (-1)
    else
     bif b==0 then
      some 0
     else
      bif a==(-1099511627776)then
       some a
      else
       (Dn f b).bind λc =>
       (Gr a c).bind λh =>
       some (i64.wrap (h*c))
   else
    bif b==0 then
     some 0
    else
     bif a==(-1099511627776)then
      some a
     else
      (Dn f b).bind λc =>
      (Gr a c).bind λh =>
      some (i64.wrap (h*c))
def Mr(a:Aj)(c:Int)(e:Int):Option Bool :=
 (Iy a e).bind λb =>
 bif decide (b>=0)then
  (Iy a c).bind λf =>
  bif decide (f>=b)then
   (Kr a c b).bind λg =>
   some (g==e)
  else
   some false
 else
  some false
def EM(c:Aa)(a:Ad)(b:Int):Option Int :=
 bif a.Op==2 then
  (idx c.A a.B).bind λe =>
  (idx c.K e.Ak).bind λf =>
  (Mr f b a.Z).bind λg =>
  bif g then
   some 1
  else
   some (-1)
 else
  bif a.Op==3 then
   bif b==(-1099511627776)then
    some 0
   else
    bif bif decide (a.C<=b)then(decide (b<=a.D))else false then
     some 1
    else
     some (-1)
  else
   bif a.Op==4 then
    bif b==(-1099511627776)then
     some 1
    else
     some (-1)
   else
    some (-1)
abbrev LD(f:Int)(b:List Int)(c:Aa)(e:Ad)(g:Int)(i:Int->Option Bool)(h:Int->Option Bool)(a:Int):Option Bool :=
 bif decide (a<f)then
  (idx b f).bind λj =>
  (BL c e.B g j).bind λk =>
  (idx b a).bind λl =>
  (BL c e.B g l).bind λm =>
  bif k==m then
   (idx b f).bind λn =>
   (EM c e n).bind λo =>
   (idx b a).bind λp =>
   (EM c e p).bind λq =>
   bif o != q then
    some false
   else
    h (i64.wrap (a+1))
  else
   h (i64.wrap (a+1))
 else
  i a
abbrev LC(b:List Int)(c:Aa)(e:Ad)(f:Int)(g:Int->Option Bool)(h:Int->Option Bool)(a:Int):Option Bool :=
 bif decide (a<(b.length:Int))then
  iter (λi s=>LD a b c e f (λj=>h (i64.wrap (a+1))) i s) A9 0
 else
  g a
def Cd(f:Aa)(a:Ad)(e:Int):Option Bool :=
 (idx f.A a.B).bind λb =>
 bif a.Op==2 then
  (D6 f a.B).bind λg =>
  iter (λh s=>LC g f a e (λi=>some true) h s) A9 0
 else
  bif a.Op==4 then
   some (decide (e>0))
  else
   bif e==0 then
    some (bif bif !b.Al then(!(bif decide (a.C>b.C)then(decide (a.C<=b.D))else false))else false then(!(bif decide (a.D>=b.C)then(decide (a.D<b.D))else false))else false)
   else
    (Dn b e).bind λc =>
    bif !(bif decide (a.C>b.C)then(decide (a.C<=b.D))else false)then
     bif !(bif decide (a.D>=b.C)then(decide (a.D<b.D))else false)then
      some true
     else
      bif decide (c≠0)then
       some ((Int.tmod (i64.wrap (a.D+1)) c)==0)
      else none
    else
     bif decide (c≠0)then
      bif(Int.tmod a.C c)==0 then
       bif !(bif decide (a.D>=b.C)then(decide (a.D<b.D))else false)then
        some true
       else
        bif decide (c≠0)then
         some ((Int.tmod (i64.wrap (a.D+1)) c)==0)
        else none
      else
       some false
     else none
abbrev Rk(b:List Ad)(a:Int)(c:List Ac)(e:((List Ac)×Int)->Option (List Ac))(f:Int):Option (List Ac) :=
 (idx b a).bind λg =>
 (DU c g.B f).bind λh =>
 e (h,(i64.wrap (a+1)))
abbrev NR(b:List Ad)(c:Int)(e:Aa)(f:Int->Option (List Ac))(g:Int->Option (List Ac))(a:Int):Option (List Ac) :=
 (idx b c).bind λh =>
 (Cd e h a).bind λi =>
 bif !i then
  g (i64.wrap (a+1))
 else
  f a
abbrev K2(b:List Ad)(e:Aa)(f:(List Ac)->Int->Option (List Ac))(g:((List Ac)×Int)->Option (List Ac))(c:List Ac)(a:Int):Option (List Ac) :=
 bif decide (a<(b.length:Int))then
  iter (λh s=>NR b a e (Rk b a c g) h s) A9 0
 else
  f c a
def I0(d:Nat)(a:Aa)(b:Ad):Option (List Ac) :=
 (Fh d a b).bind λc =>
 bif c != 0 then
  some []
 else
  (JM d b).bind λe =>
  iter (λf s=>K2 e a (λg h=>some g) f s.1 s.2) A9 ([],0)
abbrev L9(f:Int)(b:List Int)(c:Aa)(e:Int)(g:Int)(h:Int)(j:Int->Option Bool)(i:Int->Option Bool)(a:Int):Option Bool :=
 bif decide (a<f)then
  (idx b f).bind λk =>
  (BL c e g k).bind λl =>
  (idx b a).bind λm =>
  (BL c e g m).bind λn =>
  bif l != n then
   (idx b f).bind λo =>
   (BL c e h o).bind λp =>
   (idx b a).bind λq =>
   (BL c e h q).bind λr =>
   bif p==r then
    some false
   else
    i (i64.wrap (a+1))
  else
   i (i64.wrap (a+1))
 else
  j a
abbrev L8(b:List Int)(c:Aa)(e:Int)(f:Int)(g:Int)(h:Int->Option Bool)(i:Int->Option Bool)(a:Int):Option Bool :=
 bif decide (a<(b.length:Int))then
  iter (λj s=>L9 a b c e f g (λk=>i (i64.wrap (a+1))) j s) A9 0
 else
  h a
abbrev Px(c:As)(f:Int)(g:Int)(h:Int->Int->Option Bool)(i:(Int×Int)->Option Bool)(a:Int)(b:Int):Option Bool :=
 bif bif decide (b<2)then(decide (a<=c.D))else false then
  (Dn c f).bind λe =>
  bif decide (e≠0)then
   bif(Int.tmod a e) != 0 then
    some false
   else
    i ((i64.wrap (a+g)),(i64.wrap (b+1)))
  else none
 else
  h a b
def Fg(f:Aa)(g:Int)(b:Int)(c:Int):Option Bool :=
 (idx f.A g).bind λa =>
 bif bif c==0 then true else(decide (b>=c))then
  some true
 else
  bif a.Kind==2 then
   (D6 f g).bind λi =>
   iter (λj s=>L8 i f g c b (λl=>some true) j s) A9 0
  else
   (Dn a c).bind λe =>
   (Gr a.C e).bind λh =>
   bif b==0 then
    some (bif !a.Al then(decide ((i64.wrap ((i64.wrap (h+1))*e))>a.D))else false)
   else
    iter (λk s=>Px a b e (λm n=>some true) k s.1 s.2) A9 ((i64.wrap ((i64.wrap (h+1))*e)),0)
abbrev GN(b:Aa)(c:Int)(e:Int)(f:Int->Option Int)(g:Int->Option Int)(a:Int):Option Int :=
 (Fg b c a e).bind λh =>
 bif !h then
  g (i64.wrap (a+1))
 else
  f a
def DT(a:Aa)(b:Int)(c:Int):Option Int :=
 (Df a b).bind λe =>
 (F8 c 0 e).bind λf =>
 bif !f then
  some (-1)
 else
  iter (λg s=>GN a b c (λh=>some h) g s) A9 0
def NY(a:Ap)(b:Int):Option Bool :=
 bif a.Y==b then
  some true
 else
  (Nl a.Ai b).bind λc =>
  some c
abbrev KC(b:Aa)(f:Ap)(g:(List Ac)->Int->Option (List Ac))(e:((List Ac)×Int)->Option (List Ac))(c:List Ac)(a:Int):Option (List Ac) :=
 bif decide (a<(b.A.length:Int))then
  (NY f a).bind λh =>
  bif h then
   (Df b a).bind λi =>
   (DT b a i).bind λj =>
   (DU c a j).bind λk =>
   e (k,(i64.wrap (a+1)))
  else
   e (c,(i64.wrap (a+1)))
 else
  g c a
abbrev KB(b:Ap)(e:Aa)(f:(List Ac)->Int->Option (List Ac))(g:((List Ac)×Int)->Option (List Ac))(c:List Ac)(a:Int):Option (List Ac) :=
 bif decide (a<(b.V.length:Int))then
  (idx b.V a).bind λh =>
  (idx b.V a).bind λi =>
  (idx b.V a).bind λj =>
  (DT e i.B j.J).bind λk =>
  (DU c h.B k).bind λl =>
  g (l,(i64.wrap (a+1)))
 else
  f c a
abbrev KD(a:Ap)(b:Aa)(c:List Ac):Option (List Ac) :=
 iter (λe s=>KB a b (λf i=>iter (λg s=>KC b a (λh j=>some h) g s.1 s.2) A9 (f,1)) e s.1 s.2) A9 (c,0)
abbrev KA(b:List Ac)(e:(List Ac)->Int->Option (List Ac))(f:((List Ac)×Int)->Option (List Ac))(c:List Ac)(a:Int):Option (List Ac) :=
 bif decide (a<(b.length:Int))then
  (idx b a).bind λg =>
  (idx b a).bind λh =>
  (DU c g.B h.J).bind λi =>
  f (i,(i64.wrap (a+1)))
 else
  e c a
def JO(d:Nat)(b:Aa)(a:Ap):Option (List Ac) :=
 (CH d b a).bind λe =>
 bif e != 0 then
  some []
 else
  (I0 d b a.Ay).bind λc =>
  bif a.Kind==3 then
   (I0 d b a.U).bind λf =>
   iter (λg s=>KA f (λh i=>KD a b h) g s.1 s.2) A9 (c,0)
  else
   KD a b c
abbrev LZ(b:List Ac)(e:(List Ac)->Int->Option ((List Ac)×Int))(f:((List Ac)×Int)->Option ((List Ac)×Int))(c:List Ac)(a:Int):Option ((List Ac)×Int) :=
 bif decide (a<(b.length:Int))then
  (idx b a).bind λg =>
  (idx b a).bind λh =>
  (DU c g.B h.J).bind λi =>
  f (i,(i64.wrap (a+1)))
 else
  e c a
abbrev LY(b:Ar)(d:Nat)(e:Aa)(f:(List Ac)->Int->Option ((List Ac)×Int))(g:((List Ac)×Int)->Option ((List Ac)×Int))(c:List Ac)(a:Int):Option ((List Ac)×Int) :=
 bif decide (a<(b.Am.length:Int))then
  (idx b.Am a).bind λh =>
  (JO d e h).bind λi =>
  iter (λj s=>LZ i (λk l=>g (k,(i64.wrap (a+1)))) j s.1 s.2) A9 (c,0)
 else
  f c a
def NZ(d:Nat)(a:Aa)(b:Ar):Option ((List Ac)×Int) :=
 (Gs d a b).bind λc =>
 bif c != 0 then
  some ([],c)
 else
  iter (λe s=>LY b d a (λf g=>some (f,0)) e s.1 s.2) A9 ([],0)
abbrev ON(b:Cn)(e:Int)(f:Int->Option Int)(c:Int->Option Int)(a:Int):Option Int :=
 bif decide (a<(b.G.length:Int))then
  (idx b.G a).bind λg =>
  bif decide ((g.length:Int)>0)then
   (idx b.G a).bind λh =>
   (idx h 0).bind λi =>
   bif i==e then
    some a
   else
    c (i64.wrap (a+1))
  else
   c (i64.wrap (a+1))
 else
  f a
def Iz(a:Cn)(b:Int):Option Int :=
 iter (λc s=>ON a b (λe=>some (-1)) c s) A9 0
abbrev MZ(b:List Int)(c:Aa)(e:Int->Option Int)(f:Int->Option Int)(a:Int):Option Int :=
 bif decide (a<(b.length:Int))then
  (idx b a).bind λg =>
  (JJ c a g).bind λh =>
  bif !h then
   some 9
  else
   f (i64.wrap (a+1))
 else
  e a
def Nm(a:Aa)(b:List Int):Option Int :=
 (DO a).bind λc =>
 bif c != 0 then
  some c
 else
  bif(b.length:Int) != (a.A.length:Int)then
   some 9
  else
   iter (λe s=>MZ b a (λf=>some 0) e s) A9 0
abbrev NM(b:Cn)(g:Int->Option Bool)(f:Int->Option Bool)(a:Int):Option Bool :=
 bif decide (a<(b.Br.length:Int))then
  (idx b.Br a).bind λh =>
  bif decide (h<1)then
   some false
  else
   (idx b.Br a).bind λi =>
   bif decide (i>1048575)then
    some false
   else
    bif decide (a>0)then
     (idx b.Br a).bind λj =>
     (idx b.Br (i64.wrap (a-1))).bind λk =>
     bif decide (j<=k)then
      some false
     else
      (idx b.Br a).bind λc =>
      (Iz b c).bind λe =>
      bif decide (e>=0)then
       some false
      else
       f (i64.wrap (a+1))
    else
     (idx b.Br a).bind λc =>
     (Iz b c).bind λe =>
     bif decide (e>=0)then
      some false
     else
      f (i64.wrap (a+1))
 else
  g a
abbrev NN(a:Cn):Option Bool :=
 iter (λb s=>NM a (λc=>some true) b s) A9 0
abbrev Kx(b:Cn)(e:Int->Option Bool)(c:Int->Option Bool)(a:Int):Option Bool :=
 bif decide (a<(b.G.length:Int))then
  (idx b.G a).bind λf =>
  (Nm b.Aw f).bind λg =>
  bif g != 0 then
   some false
  else
   bif decide (a>0)then
    (idx b.G a).bind λh =>
    (idx h 0).bind λi =>
    (idx b.G (i64.wrap (a-1))).bind λj =>
    (idx j 0).bind λk =>
    bif decide (i<=k)then
     some false
    else
     c (i64.wrap (a+1))
   else
    c (i64.wrap (a+1))
 else
  e a
def JL(a:Cn):Option Bool :=
 (DO a.Aw).bind λb =>
 bif bif bif bif bif b != 0 then true else(decide ((a.G.length:Int)>200))then true else(decide ((a.Br.length:Int)>300))then true else(decide (a.Ag<0))then true else(decide (a.Ag>300))then
  some false
 else
  iter (λc s=>Kx a (λe=>NN a) c s) A9 0
abbrev Kv(b:List Ac)(f:Aa)(g:Int->Option Int)(c:Int->Option Int)(a:Int):Option Int :=
 bif decide (a<(b.length:Int))then
  (idx b a).bind λh =>
  (Hj f h).bind λe =>
  bif e != 0 then
   some e
  else
   bif decide (a>0)then
    (idx b a).bind λi =>
    (idx b (i64.wrap (a-1))).bind λj =>
    bif decide (i.B<=j.B)then
     some 10
    else
     c (i64.wrap (a+1))
   else
    c (i64.wrap (a+1))
 else
  g a
def JK(a:Aa)(c:List Ac):Option Int :=
 (DO a).bind λb =>
 bif b != 0 then
  some b
 else
  iter (λe s=>Kv c a (λf=>some 0) e s) A9 0
abbrev Jv(b:List Ac)(e:List Ac)(f:Int)(h:Bool->Int->Option Bool)(c:(Bool×Int)->Option Bool)(g:Bool)(a:Int):Option Bool :=
 bif decide (a<(b.length:Int))then
  bif g then
   c (true,(i64.wrap (a+1)))
  else
   (idx b a).bind λi =>
   (idx e f).bind λj =>
   bif i.B==j.B then
    (idx b a).bind λk =>
    (idx e f).bind λl =>
    c ((decide (k.J>=l.J)),(i64.wrap (a+1)))
   else
    c (false,(i64.wrap (a+1)))
 else
  h g a
abbrev Ju(b:List Ac)(c:List Ac)(e:Int->Option Bool)(f:Int->Option Bool)(a:Int):Option Bool :=
 bif decide (a<(b.length:Int))then
  iter (λg s=>Jv c b a (λh i=>bif !h then   some false else   f (i64.wrap (a+1))) g s.1 s.2) A9 (false,0)
 else
  e a
def Kz(a:List Ac)(b:List Ac):Option Bool :=
 iter (λc s=>Ju a b (λe=>some true) c s) A9 0
def LX(d:Nat)(a:Aa)(b:Ap)(c:List Ac):Option Bool :=
 (CH d a b).bind λe =>
 bif e==0 then
  (JK a c).bind λf =>
  bif f==0 then
   (JO d a b).bind λg =>
   (Kz g c).bind λh =>
   some h
  else
   some false
 else
  some false
abbrev Rp(b:Ar)(d:Nat)(c:Aa)(e:List Ac)(f:Int->Option Int)(g:Int->Option Int)(a:Int):Option Int :=
 bif decide (a<(b.Am.length:Int))then
  (idx b.Am a).bind λh =>
  (LX d c h e).bind λi =>
  bif !i then
   some 23
  else
   g (i64.wrap (a+1))
 else
  f a
def Mu(d:Nat)(a:Aa)(b:Ar)(c:List Ac):Option Int :=
 (Gs d a b).bind λe =>
 bif e != 0 then
  some e
 else
  (JK a c).bind λf =>
  bif f != 0 then
   some f
  else
   iter (λg s=>Rp b d a c (λh=>some 0) g s) A9 0
def NW(b:Int)(a:List Int):Option Int :=
 bif b==7 then
  (idx a 0).bind λh =>
  some (i64.wrap (0-h))
 else
  bif b==5 then
   (idx a 0).bind λc =>
   (idx a 1).bind λe =>
   some (if e<c then e else c)
  else
   bif b==6 then
    (idx a 0).bind λf =>
    (idx a 1).bind λg =>
    some (if g>f then g else f)
   else
    some 1
abbrev SI(c:Ad)(f:Aa->Ad->(List Int)->Option Int)(g:Aa)(h:List Int)(i:Int->(List Int)->Option Int)(j:(Int×(List Int))->Option Int)(a:Int)(b:List Int):Option Int :=
 bif decide (a<(c.H.length:Int))then
  (idx c.H a).bind λk =>
  (f g k h).bind λe =>
  bif rm b.length [e].length then
   j ((i64.wrap (a+1)),(b++[e]))
  else none
 else
  i a b
def K5(d:Nat)(e:Aa->Ad->(List Int)->Option Int)(b:Aa)(a:Ad)(c:List Int):Option Int :=
 bif bif bif a.Op==2 then true else(a.Op==3)then true else(a.Op==4)then
  (idx c a.B).bind λf =>
  (EM b a f).bind λg =>
  some g
 else
  iter (λh s=>SI a e b c (λk i=>(NW a.Op i).bind λj=>some j) h s.1 s.2) A9 (0,[])
def LE:Nat->Aa->Ad->(List Int)->Option Int
 | 0,_,_,_=>none
 | d+1,a,b,c=>K5 d (LE d) a b c
def NP(d:Nat)(a:Aa)(b:Ad)(c:List Int):Option Int :=
 (Fh d a b).bind λe =>
 bif e != 0 then
  some 0
 else
  (Nm a c).bind λf =>
  bif f != 0 then
   some 0
  else
   (LE d a b c).bind λg =>
   some g
def Mv(a:HA):Option Int :=
 bif bif bif bif bif bif decide (a.Of<1)then true else(decide (a.Of>1000))then true else(decide (a.Bh<1))then true else(decide (a.Bh>a.Of))then true else(decide (a.Bi<0))then true else(decide (a.Bi>1099511627776))then
  some 2
 else
  some 0
abbrev SP(c:Int->Int->Option Int)(e:(Int×Int)->Option Int)(a:Int)(b:Int):Option Int :=
 bif decide (b<3)then
  e ((u64.wrap (((BitVec.ofInt u64.bits (u64.wrap ((u64.wrap (a*6364136223846793005))+1442695040888963407)) ^^^ BitVec.ofInt u64.bits (Int.fdiv (u64.wrap ((u64.wrap (a*6364136223846793005))+1442695040888963407)) (2 ^ (min (29:Int).toNat u64.bits)))).toNat:Nat):Int)),(i64.wrap (b+1)))
 else
  c a b
def PX(a:Int)(b:Int):Option Int :=
 iter (λc s=>SP (λe f=>some (i64.wrap (Int.fdiv e (2 ^ (min (32:Int).toNat u64.bits))))) c s.1 s.2) A9 ((u64.wrap ((u64.wrap ((u64.wrap ((u64.wrap a)*2654435761))+(u64.wrap ((u64.wrap b)*40503))))+97)),0)
def Rq(a:HA)(b:Int):Option Bool :=
 (Mv a).bind λc =>
 bif bif bif c==0 then(decide (b>=1))else false then(decide (b<=1048575))else false then
  (PX a.Bi b).bind λe =>
  bif decide (a.Of≠0)then
   some (decide ((Int.tmod e a.Of)<a.Bh))
  else none
 else
  some false
abbrev Qv(b:Cn)(d:Nat)(f:Ar)(h:Int->(List Int)->Option (List Int))(e:(Int×(List Int))->Option (List Int))(a:Int)(c:List Int):Option (List Int) :=
 bif decide (a<(b.G.length:Int))then
  (idx b.G a).bind λi =>
  (NP d b.Aw f.Be i).bind λj =>
  bif j==1 then
   (idx b.G a).bind λk =>
   (idx k 0).bind λl =>
   (Rq f.A2 l).bind λm =>
   bif m then
    (idx b.G a).bind λn =>
    (idx n 0).bind λg =>
    bif rm c.length [g].length then
     e ((i64.wrap (a+1)),(c++[g]))
    else none
   else
    e ((i64.wrap (a+1)),c)
  else
   e ((i64.wrap (a+1)),c)
 else
  h a c
abbrev M6(a:Cn)(d:Nat)(b:Ar):Option (List Int) :=
 iter (λc s=>Qv a d b (λf e=>some e) c s.1 s.2) A9 (0,[])
def KG(d:Nat)(a:Cn)(b:Ar):Option (List Int) :=
 (JL a).bind λc =>
 bif !c then
  some []
 else
  (Gs d a.Aw b).bind λe =>
  bif e != 0 then
   some []
  else
   M6 a d b
def O9(a:Int)(b:Int):Option Bool :=
 some (bif bif bif decide (a>=0)then(decide (a<1152921504606846976))else false then(decide (b>=0))else false then(decide (b<1048576))else false)
abbrev KE(c:Int->Int->Option Int)(e:(Int×Int)->Option Int)(a:Int)(b:Int):Option Int :=
 bif decide (b<3)then
  e ((u64.wrap ((u64.wrap (((BitVec.ofInt u64.bits a ^^^ BitVec.ofInt u64.bits (Int.fdiv a (2 ^ (min (31:Int).toNat u64.bits)))).toNat:Nat):Int))*13787848793156543929)),(i64.wrap (b+1)))
 else
  c a b
def Mw(a:Int)(b:Int)(c:Int):Option Int :=
 bif bif bif bif bif bif decide (a<0)then true else(decide (a>=1152921504606846976))then true else(decide (b<0))then true else(decide (b>7))then true else(decide (c<0))then true else(decide (c>1023))then
  some 0
 else
  iter (λe s=>KE (λf g=>some (i64.wrap (Int.fdiv f (2 ^ (min (54:Int).toNat u64.bits))))) e s.1 s.2) A9 ((u64.wrap ((u64.wrap ((u64.wrap a)+(u64.wrap ((u64.wrap b)*11400714819323198485))))+(u64.wrap ((u64.wrap c)*14029467366897019727)))),0)
abbrev Nb(e:Int)(f:Int->Int->Int->Option Int)(g:(Int×Int×Int)->Option Int)(c:Int)(b:Int)(a:Int):Option Int :=
 bif decide (a<=7)then
  (Mw e a b).bind λh =>
  g (b,(i64.wrap (((BitVec.ofInt i64.bits c ^^^ BitVec.ofInt i64.bits h).toNat:Nat):Int)),(i64.wrap (a+1)))
 else
  f c b a
def LF(b:Int)(a:Int):Option Int :=
 (O9 b a).bind λc =>
 bif !c then
  some (-1)
 else
  iter (λe s=>Nb b (λf g h=>some (i64.wrap ((i64.wrap (f*1024))+g))) e s.1 s.2.1 s.2.2) A9 ((i64.wrap (Int.tdiv a 1024)),(Int.tmod a 1024),0)
abbrev KF(b:List Ac)(f:List Int)(g:Cn)(h:Int->(List Int)->Option (Au×Int))(i:(Int×(List Int))->Option (Au×Int))(a:Int)(c:List Int):Option (Au×Int) :=
 bif decide (a<(b.length:Int))then
  (idx b a).bind λj =>
  (idx b a).bind λk =>
  (idx b a).bind λl =>
  (idx f l.B).bind λm =>
  (BL g.Aw j.B k.J m).bind λe =>
  bif rm c.length [e].length then
   i ((i64.wrap (a+1)),(c++[e]))
  else none
 else
  h a c
abbrev Oa(b:List Int)(c:Cn)(f:Int)(g:List Ac)(h:Int->(List (List Int))->Option (Au×Int))(i:(Int×(List (List Int)))->Option (Au×Int))(a:Int)(e:List (List Int)):Option (Au×Int) :=
 bif decide (a<(b.length:Int))then
  (idx b a).bind λj =>
  (Iz c j).bind λk =>
  (idx c.G k).bind λl =>
  (idx b a).bind λm =>
  (LF f m).bind λn =>
  iter (λo s=>KF g l c (λr p=>(Nn e p).bind λq=>i ((i64.wrap (a+1)),q)) o s.1 s.2) A9 (0,[n])
 else
  h a e
def JP(d:Nat)(a:Cn)(c:Ar)(b:List Ac)(e:Int):Option (Au×Int) :=
 (JL a).bind λg =>
 bif !g then
  some (({}:Au),13)
 else
  (Mu d a.Aw c b).bind λf =>
  bif f != 0 then
   some (({}:Au),f)
  else
   bif bif decide (e<0)then true else(decide (e>=1152921504606846976))then
    some (({}:Au),2)
   else
    bif rm 0 b.length then
     (KG d a c).bind λh =>
     iter (λi s=>Oa h a e b (λk j=>some (({ Ae:=c.Ae,Ag:=a.Ag,E:=b,G:=j }:Au),0)) i s.1 s.2) A9 (0,[])
    else none
abbrev NL(b:List Ac)(f:List Ac)(g:Int->Option Bool)(h:Int->Option Bool)(a:Int):Option Bool :=
 bif decide (a<(b.length:Int))then
  (idx b a).bind λc =>
  (idx f a).bind λe =>
  bif !((c.B==e.B)&&((c.J==e.J)&&true))then
   some false
  else
   h (i64.wrap (a+1))
 else
  g a
def FN(a:List Ac)(b:List Ac):Option Bool :=
 bif(a.length:Int) != (b.length:Int)then
  some false
 else
  iter (λc s=>NL a b (λe=>some true) c s) A9 0
abbrev SB(b:List Int)(c:List Int)(e:Int->Option Bool)(f:Int->Option Bool)(a:Int):Option Bool :=
 bif decide (a<(b.length:Int))then
  (idx b a).bind λg =>
  (idx c a).bind λh =>
  bif g != h then
   some false
  else
   f (i64.wrap (a+1))
 else
  e a
def Ix(a:List Int)(b:List Int):Option Bool :=
 bif(a.length:Int) != (b.length:Int)then
  some false
 else
  iter (λc s=>SB a b (λe=>some true) c s) A9 0
def KH(a:An)(b:An):Option Bool :=
 (Ix a.Q b.Q).bind λc =>
 bif bif bif bif bif bif c then(a.Af==b.Af)else false then(a.A6==b.A6)else false then(a.A8==b.A8)else false then(a.Ba==b.Ba)else false then(a.Bg==b.Bg)else false then
  (Ix a.G b.G).bind λe =>
  some e
 else
  some false
abbrev SQ(b:Ei)(c:Ei)(e:Int->Option Bool)(f:Int->Option Bool)(a:Int):Option Bool :=
 bif decide (a<(b.A1.length:Int))then
  (idx b.A1 a).bind λg =>
  (idx c.A1 a).bind λh =>
  (KH g h).bind λi =>
  bif !i then
   some false
  else
   f (i64.wrap (a+1))
 else
  e a
def PY(a:Ei)(b:Ei):Option Bool :=
 (FN a.V b.V).bind λc =>
 bif bif bif !c then true else(a.Y != b.Y)then true else((a.A1.length:Int) != (b.A1.length:Int))then
  some false
 else
  iter (λe s=>SQ a b (λf=>some true) e s) A9 0
abbrev SL(b:List AO)(f:List AO)(g:Int->Option Bool)(h:Int->Option Bool)(a:Int):Option Bool :=
 bif decide (a<(b.length:Int))then
  (idx b a).bind λc =>
  (idx f a).bind λe =>
  bif !((c.S==e.S)&&((c.T==e.T)&&true))then
   some false
  else
   h (i64.wrap (a+1))
 else
  g a
def T9(a:List AO)(b:List AO):Option Bool :=
 bif(a.length:Int) != (b.length:Int)then
  some false
 else
  iter (λc s=>SL a b (λe=>some true) c s) A9 0
def PZ(a:Cw)(b:Cw):Option Bool :=
 bif a.Y==b.Y then
  (Ix a.Ai b.Ai).bind λc =>
  bif c then
   (T9 a.A9 b.A9).bind λe =>
   some (bif bif bif bif e then((a.A4.S==b.A4.S)&&((a.A4.T==b.A4.T)&&true))else false then((a.A5.S==b.A5.S)&&((a.A5.T==b.A5.T)&&true))else false then(a.Af==b.Af)else false then(a.Bj==b.Bj)else false)
  else
   some false
 else
  some false
abbrev SR(e:List Bb)(f:List Bb)(g:Int->Option Bool)(h:Int->Option Bool)(c:Int):Option Bool :=
 bif decide (c<(e.length:Int))then
  (idx e c).bind λa =>
  (idx f c).bind λb =>
  bif !((a.Bz==b.Bz)&&((a.B0==b.B0)&&((a.B1==b.B1)&&((a.B2==b.B2)&&(((a.Bv.S==b.Bv.S)&&((a.Bv.T==b.Bv.T)&&true))&&true)))))then
   some false
  else
   h (i64.wrap (c+1))
 else
  g c
def TA(a:List Bb)(b:List Bb):Option Bool :=
 bif(a.length:Int) != (b.length:Int)then
  some false
 else
  iter (λc s=>SR a b (λe=>some true) c s) A9 0
abbrev SS(b:List Q1)(f:List Q1)(g:Int->Option Bool)(h:Int->Option Bool)(a:Int):Option Bool :=
 bif decide (a<(b.length:Int))then
  (idx b a).bind λc =>
  (idx f a).bind λe =>
  bif !((c.C==e.C)&&((c.Af==e.Af)&&true))then
   some false
  else
   h (i64.wrap (a+1))
 else
  g a
def TB(a:List Q1)(b:List Q1):Option Bool :=
 bif(a.length:Int) != (b.length:Int)then
  some false
 else
  iter (λc s=>SS a b (λe=>some true) c s) A9 0
def Hz(a:AR)(b:AR):Option Bool :=
 bif bif a.Kind==b.Kind then((a.Number.S==b.Number.S)&&((a.Number.T==b.Number.T)&&true))else false then
  (PY a.Table b.Table).bind λc =>
  bif c then
   (PZ a.Model b.Model).bind λe =>
   bif e then
    (TA a.Curve b.Curve).bind λf =>
    bif f then
     (TB a.Hist b.Hist).bind λg =>
     bif bif g then((a.Box.Af==b.Box.Af)&&((a.Box.Bm==b.Box.Bm)&&((a.Box.Bn==b.Box.Bn)&&((a.Box.Bo==b.Box.Bo)&&((a.Box.Bp==b.Box.Bp)&&((a.Box.Bq==b.Box.Bq)&&true))))))else false then
      (Ix a.Lineage b.Lineage).bind λh =>
      some h
     else
      some false
    else
     some false
   else
    some false
  else
   some false
 else
  some false
abbrev SU(b:List AF)(c:List AF)(e:Int->Option Bool)(f:Int->Option Bool)(a:Int):Option Bool :=
 bif decide (a<(b.length:Int))then
  (idx b a).bind λg =>
  (idx c a).bind λh =>
  bif !(g.I.toList==h.I.toList)then
   some false
  else
   (idx b a).bind λi =>
   (idx c a).bind λj =>
   bif !(i.Bc==j.Bc)then
    some false
   else
    (idx b a).bind λk =>
    (idx c a).bind λl =>
    (Hz k.At l.At).bind λm =>
    bif !m then
     some false
    else
     f (i64.wrap (a+1))
 else
  e a
def Ob(a:List AF)(b:List AF):Option Bool :=
 bif(a.length:Int) != (b.length:Int)then
  some false
 else
  iter (λc s=>SU a b (λe=>some true) c s) A9 0
def QE(a:List Int):Option Ab :=
 bif decide (0<=(0:Int)/\0<=(if 400<(a.length:Int)then 400 else(a.length:Int))/\(if 400<(a.length:Int)then 400 else(a.length:Int))<=(a.length:Int))then
  some ({ A0:=(M1 a 0 (if 400<(a.length:Int)then 400 else(a.length:Int))) }:Ab)
 else none
abbrev J6(a:Ab)(b:Int):Option (Int×Ab) :=
 (idx a.A0 (i64.wrap ((i64.wrap (a.Ax+1))-1))).bind λc =>
 bif decide (b>256)then
  bif decide ((i64.wrap (a.Ax+1))<(a.A0.length:Int))then
   (idx a.A0 (i64.wrap (a.Ax+1))).bind λe =>
   bif decide (b≠0)then
    some ((Int.tmod (i64.wrap ((i64.wrap ((i64.wrap c)*256))+(i64.wrap e))) b),({ A0:=a.A0,Ax:=(i64.wrap ((i64.wrap (a.Ax+1))+1)) }:Ab))
   else none
  else
   bif decide (b≠0)then
    some ((Int.tmod (i64.wrap c) b),({ A0:=a.A0,Ax:=(i64.wrap (a.Ax+1)) }:Ab))
   else none
 else
  bif decide (b≠0)then
   some ((Int.tmod (i64.wrap c) b),({ A0:=a.A0,Ax:=(i64.wrap (a.Ax+1)) }:Ab))
  else none
def AA(a:Ab)(b:Int):Option (Int×Ab) :=
 bif decide (b<1)then
  some (0,a)
 else
  bif decide (a.Ax>=(a.A0.length:Int))then
   some (0,a)
  else
   J6 a b
def CC(c:Ab)(a:Int):Option (Bool×Ab) :=
 (AA c a).bind λb =>
 some ((b.1==(i64.wrap (a-1))),b.2)
def AN(c:Ab)(a:Int)(e:Int):Option (Int×Ab) :=
 (AA c (i64.wrap ((i64.wrap (e-a))+1))).bind λb =>
 some ((i64.wrap (a+b.1)),b.2)
abbrev J4(e:Int)(f:Int->(List Eu)->Option (Aj×Ab))(g:(Int×(List Eu))->Option (Aj×Ab))(b:Int)(a:List Eu):Option (Aj×Ab) :=
 bif decide (b>0)then
  (Dh (a.length:Int)).bind λc =>
  bif decide (({ data:=#[108] }:ByteArray).size+c.size<=9223372036854775807)then
   bif rm a.length ([({ I:=(({ data:=#[108] }:ByteArray)++c),Bd:=(i64.wrap (1+e)) }:Eu)]).length then
    g ((i64.wrap (b-1)),(a++[({ I:=(({ data:=#[108] }:ByteArray)++c),Bd:=(i64.wrap (1+e)) }:Eu)]))
   else none
  else none
 else
  f b a
abbrev He(f:Int×Ab)(g:Int->Ab->(List Eu)->Option (Aj×Ab))(h:(Int×Ab×(List Eu))->Option (Aj×Ab))(a:Int)(b:Ab)(c:List Eu):Option (Aj×Ab) :=
 bif decide (a<f.1)then
  (AN b 1 2).bind λe =>
  iter (λi s=>J4 a (λk j=>h ((i64.wrap (a+1)),e.2,j)) i s.1 s.2) A9 (e.1,c)
 else
  g a b c
abbrev J5(b:Int×Ab)(c:ByteArray)(e:List Eu):Option (Aj×Ab) :=
 (CC b.2 2).bind λa =>
 bif a.1 then
  some (({ I:=c,Q:=e }:Aj),a.2)
 else
  iter (λf s=>He b (λi g h=>some (({ I:=c,Q:=h }:Aj),g)) f s.1 s.2.1 s.2.2) A9 (0,a.2,e)
abbrev Hd(e:Int×Ab)(f:Int->(List Eu)->Option (Aj×Ab))(g:(Int×(List Eu))->Option (Aj×Ab))(a:Int)(b:List Eu):Option (Aj×Ab) :=
 bif decide (a<e.1)then
  (Dh a).bind λc =>
  bif decide (({ data:=#[107] }:ByteArray).size+c.size<=9223372036854775807)then
   bif rm b.length ([({ I:=(({ data:=#[107] }:ByteArray)++c) }:Eu)]).length then
    g ((i64.wrap (a+1)),(b++[({ I:=(({ data:=#[107] }:ByteArray)++c) }:Eu)]))
   else none
  else none
 else
  f a b
def FK(b:Ab)(c:ByteArray):Option (Aj×Ab) :=
 (AN b 1 3).bind λa =>
 iter (λe s=>Hd a (λg f=>J5 a c f) e s.1 s.2) A9 (0,[({ I:={ data:=#[116,111,112] },Bd:=(-1) }:Eu)])
def Ek(f:Ab)(g:ByteArray):Option (As×Ab) :=
 (AN f (-4) 2).bind λa =>
 (AA a.2 4).bind λb =>
 (idx ([[1],[1,5],[1,5,20],[1,2,4,12]]) b.1).bind λh =>
 (CC b.2 3).bind λc =>
 (AA c.2 45).bind λe =>
 some (({ I:=g,Kind:=3,C:=a.1,D:=(i64.wrap (a.1+e.1)),N:=h,Al:=c.1 }:As),e.2)
def Gg(g:Int->Ab->(List As)->Option (Aa×Ab))(h:(Int×Ab×(List As))->Option (Aa×Ab))(b:Int)(e:Ab)(a:List As):Option (Aa×Ab) :=
 bif decide (b>0)then
  (Dh (a.length:Int)).bind λf =>
  bif decide (({ data:=#[109] }:ByteArray).size+f.size<=9223372036854775807)then
   (Ek e (({ data:=#[109] }:ByteArray)++f)).bind λc =>
   bif rm a.length [c.1].length then
    h ((i64.wrap (b-1)),c.2,(a++[c.1]))
   else none
  else none
 else
  g b e a
def Mh(g:Int->Ab->(List As)->Option (Aa×Ab))(h:(Int×Ab×(List As))->Option (Aa×Ab))(b:Int)(e:Ab)(a:List As):Option (Aa×Ab) :=
 bif decide (b>0)then
  (Dh (a.length:Int)).bind λf =>
  bif decide (({ data:=#[109] }:ByteArray).size+f.size<=9223372036854775807)then
   (Ek e (({ data:=#[109] }:ByteArray)++f)).bind λc =>
   bif rm a.length [c.1].length then
    h ((i64.wrap (b-1)),c.2,(a++[c.1]))
   else none
  else none
 else
  g b e a
def Ge(f:Ab):Option (Aa×Ab) :=
 (FK f ({ data:=#[111,110,101] }:ByteArray)).bind λb =>
 (FK b.2 ({ data:=#[116,119,111] }:ByteArray)).bind λc =>
 (CC c.2 2).bind λe =>
 bif e.1 then
  bif rm ([({ I:={ data:=#[119,104,111] },Kind:=1 }:As),({ I:={ data:=#[115,101,120] },Kind:=2 }:As)]).length ([({ I:={ data:=#[106,111,98] },Kind:=2,Ak:=1 }:As)]).length then
   (AN e.2 1 3).bind λa =>
   iter (λg s=>Gg (λm h i=>some (({ K:=[b.1,c.1],A:=i }:Aa),h)) g s.1 s.2.1 s.2.2) A9 (a.1,a.2,([({ I:={ data:=#[119,104,111] },Kind:=1 }:As),({ I:={ data:=#[115,101,120] },Kind:=2 }:As)]++[({ I:={ data:=#[106,111,98] },Kind:=2,Ak:=1 }:As)]))
  else none
 else
  (AN e.2 1 3).bind λa =>
  iter (λj s=>Mh (λn k l=>some (({ K:=[b.1,c.1],A:=l }:Aa),k)) j s.1 s.2.1 s.2.2) A9 (a.1,a.2,[({ I:={ data:=#[119,104,111] },Kind:=1 }:As),({ I:={ data:=#[115,101,120] },Kind:=2 }:As)])
def GF(c:Ab)(f:Aa)(g:Int):Option (Int×Ab) :=
 (idx f.A g).bind λa =>
 bif a.Kind==1 then
  (AN c 1 60).bind λh =>
  some (h.1,h.2)
 else
  bif a.Kind==2 then
   (D6 f g).bind λi =>
   (AA c (i.length:Int)).bind λj =>
   (idx i j.1).bind λk =>
   some (k,j.2)
  else
   bif a.Al then
    (CC c 4).bind λe =>
    bif e.1 then
     some ((-1099511627776),e.2)
    else
     (AN e.2 a.C a.D).bind λb =>
     some (b.1,b.2)
   else
    (AN c a.C a.D).bind λb =>
    some (b.1,b.2)
def Ic(e:Aa)(g:Int->Ab->(List Int)->Option ((List Int)×Ab))(h:(Int×Ab×(List Int))->Option ((List Int)×Ab))(a:Int)(f:Ab)(b:List Int):Option ((List Int)×Ab) :=
 bif decide (a<(e.A.length:Int))then
  (GF f e a).bind λc =>
  bif rm b.length [c.1].length then
   h ((i64.wrap (a+1)),c.2,(b++[c.1]))
  else none
 else
  g a f b
def Iq(a:Ab)(b:Aa):Option ((List Int)×Ab) :=
 iter (λc s=>Ic b (λg e f=>some (f,e)) c s.1 s.2.1 s.2.2) A9 (0,a,[])
abbrev Ir(f:Aa×Ab)(g:Int->Ab->(List (List Int))->Option (Cn×Ab))(h:(Int×Ab×(List (List Int)))->Option (Cn×Ab))(a:Int)(b:Ab)(c:List (List Int)):Option (Cn×Ab) :=
 bif decide (a>0)then
  (Iq b f.1).bind λe =>
  (Nn c e.1).bind λi =>
  h ((i64.wrap (a-1)),e.2,i)
 else
  g a b c
def Gi(c:Ab)(e:Int):Option (Cn×Ab) :=
 (Ge c).bind λa =>
 (AA a.2 (i64.wrap (e+1))).bind λb =>
 iter (λf s=>Ir a (λi g h=>some (({ Aw:=a.1,G:=h }:Cn),g)) f s.1 s.2.1 s.2.2) A9 (b.1,b.2,[])
abbrev DL(c:Aa)(f:Int)(g:Int->(List Int)->Option (List Int))(e:(Int×(List Int))->Option (List Int))(a:Int)(b:List Int):Option (List Int) :=
 bif decide (a<(c.A.length:Int))then
  (idx c.A a).bind λh =>
  bif h.Kind==f then
   bif rm b.length [a].length then
    e ((i64.wrap (a+1)),(b++[a]))
   else none
  else
   e ((i64.wrap (a+1)),b)
 else
  g a b
def C0(a:Aa)(b:Int):Option (List Int) :=
 iter (λc s=>DL a b (λf e=>some e) c s.1 s.2) A9 (0,[])
def GA(c:Ab)(e:Aa):Option (Int×Ab) :=
 (C0 e 2).bind λa =>
 (AA c (a.length:Int)).bind λb =>
 (idx a b.1).bind λf =>
 some (f,b.2)
def BQ(c:Ab)(e:Aa):Option (Int×Ab) :=
 (C0 e 3).bind λa =>
 (AA c (a.length:Int)).bind λb =>
 (idx a b.1).bind λf =>
 some (f,b.2)
abbrev F3(a:Aa)(k:Ab):Option (Ad×Ab) :=
 (AA k 5).bind λb =>
 bif b.1==1 then
  (GA b.2 a).bind λi =>
  (idx a.A i.1).bind λl =>
  (idx a.K l.Ak).bind λm =>
  (AA i.2 (m.Q.length:Int)).bind λj =>
  some (({ Op:=2,B:=i.1,Z:=j.1 }:Ad),j.2)
 else
  bif b.1==2 then
   (BQ b.2 a).bind λc =>
   (idx a.A c.1).bind λf =>
   (AN c.2 (-3) 40).bind λe =>
   (AA e.2 30).bind λg =>
   some (({ Op:=3,B:=c.1,C:=(i64.wrap (f.C+e.1)),D:=(i64.wrap ((i64.wrap (f.C+e.1))+g.1)) }:Ad),g.2)
  else
   bif b.1==3 then
    (BQ b.2 a).bind λc =>
    (idx a.A c.1).bind λf =>
    (AN c.2 (-3) 40).bind λe =>
    (AA e.2 30).bind λg =>
    some (({ Op:=3,B:=c.1,C:=(i64.wrap (f.C+e.1)),D:=(i64.wrap ((i64.wrap (f.C+e.1))+g.1)) }:Ad),g.2)
   else
    bif b.1==4 then
     (BQ b.2 a).bind λh =>
     (idx a.A h.1).bind λn =>
     bif n.Al then
      some (({ Op:=4,B:=h.1 }:Ad),h.2)
     else
      some (({ Op:=1 }:Ad),h.2)
    else
     some (({ Op:=1 }:Ad),b.2)
def D3(d:Nat)(e:Ab->Aa->Int->Option (Ad×Ab))(f:Ab)(a:Aa)(c:Int):Option (Ad×Ab) :=
 bif decide (c>0)then
  (AA f 5).bind λb =>
  bif b.1==2 then
   (e b.2 a (i64.wrap (c-1))).bind λg =>
   some (({ Op:=7,H:=[g.1] }:Ad),g.2)
  else
   bif b.1==3 then
    (e b.2 a (i64.wrap (c-1))).bind λh =>
    (e h.2 a (i64.wrap (c-1))).bind λi =>
    some (({ Op:=5,H:=[h.1,i.1] }:Ad),i.2)
   else
    bif b.1==4 then
     (e b.2 a (i64.wrap (c-1))).bind λj =>
     (e j.2 a (i64.wrap (c-1))).bind λk =>
     some (({ Op:=6,H:=[j.1,k.1] }:Ad),k.2)
    else
     F3 a b.2
 else
  F3 a f
def CI:Nat->Ab->Aa->Int->Option (Ad×Ab)
 | 0,_,_,_=>none
 | d+1,a,b,c=>D3 d (CI d) a b c
abbrev G6(e:List Int)(i:Int)(j:Int->Ab->(List Int)->Option ((List Int)×Ab))(f:(Int×Ab×(List Int))->Option ((List Int)×Ab))(a:Int)(g:Ab)(b:List Int):Option ((List Int)×Ab) :=
 bif decide (a<(e.length:Int))then
  (idx e a).bind λk =>
  bif k != i then
   bif(b.length:Int)==0 then
    (idx e a).bind λc =>
    bif rm b.length [c].length then
     f ((i64.wrap (a+1)),g,(b++[c]))
    else none
   else
    (CC g 2).bind λh =>
    bif h.1 then
     (idx e a).bind λc =>
     bif rm b.length [c].length then
      f ((i64.wrap (a+1)),h.2,(b++[c]))
     else none
    else
     f ((i64.wrap (a+1)),h.2,b)
  else
   f ((i64.wrap (a+1)),g,b)
 else
  j a g b
def GD(a:Ab)(b:Aa)(c:Int):Option ((List Int)×Ab) :=
 (C0 b 3).bind λe =>
 iter (λf s=>G6 e c (λi g h=>some (h,g)) f s.1 s.2.1 s.2.2) A9 (0,a,[])
abbrev N3(a:List Int)(c:Int×Ab)(i:Aa)(j:Int->Ab->(List Ac)->Option ((List Ac)×Ab))(k:(Int×Ab×(List Ac))->Option ((List Ac)×Ab))(b:Int)(g:Ab)(e:List Ac):Option ((List Ac)×Ab) :=
 bif decide (b<((M1 a c.1 (a.length:Int)).length:Int))then
  (idx (M1 a c.1 (a.length:Int)) b).bind λh =>
  (idx (M1 a c.1 (a.length:Int)) b).bind λl =>
  (Df i l).bind λm =>
  (AA g (i64.wrap (m+1))).bind λf =>
  bif rm e.length [({ B:=h,J:=f.1 }:Ac)].length then
   k ((i64.wrap (b+1)),f.2,(e++[({ B:=h,J:=f.1 }:Ac)]))
  else none
 else
  j b g e
abbrev F4(b:List Int)(h:Aa)(i:Int->Ab->(List Ac)->Option ((List Ac)×Ab))(j:(Int×Ab×(List Ac))->Option ((List Ac)×Ab))(a:Int)(f:Ab)(c:List Ac):Option ((List Ac)×Ab) :=
 bif decide (a<(b.length:Int))then
  (idx b a).bind λg =>
  (idx b a).bind λk =>
  (Df h k).bind λl =>
  (AA f (i64.wrap (l+1))).bind λe =>
  bif rm c.length [({ B:=g,J:=e.1 }:Ac)].length then
   j ((i64.wrap (a+1)),e.2,(c++[({ B:=g,J:=e.1 }:Ac)]))
  else none
 else
  i a f c
def De(f:Ab)(c:Aa):Option ((List Ac)×Ab) :=
 (C0 c 2).bind λa =>
 (CC f 2).bind λe =>
 bif e.1 then
  (AA e.2 (a.length:Int)).bind λb =>
  bif decide (0<=(b.1:Int)/\b.1<=(a.length:Int)/\(a.length:Int)<=(a.length:Int))then
   iter (λg s=>N3 a b c (λm h i=>some (i,h)) g s.1 s.2.1 s.2.2) A9 (0,b.2,[])
  else none
 else
  iter (λj s=>F4 a c (λn k l=>some (l,k)) j s.1 s.2.1 s.2.2) A9 (0,e.2,[])
def DF(d:Nat)(k:Ab)(b:Aa)(f:ByteArray):Option (Ap×Ab) :=
 (AA k 3).bind λi =>
 (CI d i.2 b i.1).bind λe =>
 (BQ e.2 b).bind λg =>
 (AA g.2 4).bind λc =>
 bif c.1==1 then
  (De c.2 b).bind λa =>
  some (({ I:=f,Kind:=1,Ay:=e.1,V:=a.1,Y:=g.1 }:Ap),a.2)
 else
  bif c.1==2 then
   (GD c.2 b g.1).bind λh =>
   bif decide ((h.1.length:Int)>0)then
    some (({ I:=f,Kind:=2,Ay:=e.1,Y:=g.1,Ai:=h.1 }:Ap),h.2)
   else
    (De h.2 b).bind λa =>
    some (({ I:=f,Kind:=1,Ay:=e.1,V:=a.1,Y:=(-1) }:Ap),a.2)
  else
   bif c.1==3 then
    (idx b.A g.1).bind λl =>
    bif decide (l.C>=0)then
     (CI d c.2 b 1).bind λj =>
     some (({ I:=f,Kind:=3,Ay:=e.1,Y:=g.1,U:=j.1 }:Ap),j.2)
    else
     (De c.2 b).bind λa =>
     some (({ I:=f,Kind:=1,Ay:=e.1,V:=a.1,Y:=(-1) }:Ap),a.2)
   else
    (De c.2 b).bind λa =>
    some (({ I:=f,Kind:=1,Ay:=e.1,V:=a.1,Y:=(-1) }:Ap),a.2)
def Ed(a:ByteArray)(b:Int)(c:Int)(e:Int)(f:Int)(g:Int)(h:List Ad)(i:Int×Ab)(j:Int×Ab)(k:Int×Ab)(n:Int)(l:Ab)(m:List Ap):Option (Ar×Ab) :=
 some (({ Ae:=(({ data:=#[112] }:ByteArray)++a),Bl:={ data:=#[115,114,99] },Be:={ Op:=b,B:=c,Z:=e,C:=f,D:=g,H:=h },A2:={ Bh:=i.1,Of:=j.1,Bi:=k.1 },Am:=m }:Ar),l)
def Ec(d:Nat)(g:Aa)(h:Int->Ab->(List Ap)->Option (Ar×Ab))(i:(Int×Ab×(List Ap))->Option (Ar×Ab))(a:Int)(e:Ab)(b:List Ap):Option (Ar×Ab) :=
 bif decide (a>0)then
  (Dh a).bind λf =>
  bif decide (({ data:=#[113] }:ByteArray).size+f.size<=9223372036854775807)then
   (DF d e g (({ data:=#[113] }:ByteArray)++f)).bind λc =>
   bif rm b.length [c.1].length then
    i ((i64.wrap (a-1)),c.2,(b++[c.1]))
   else none
  else none
 else
  h a e b
def Ee(a:ByteArray)(b:Int)(c:Int)(e:Int)(f:Int)(g:Int)(h:List Ad)(i:Int×Ab)(l:Int)(j:Ab)(k:List Ap):Option (Ar×Ab) :=
 some (({ Ae:=(({ data:=#[112] }:ByteArray)++a),Bl:={ data:=#[115,114,99] },Be:={ Op:=b,B:=c,Z:=e,C:=f,D:=g,H:=h },A2:={ Bh:=1,Of:=1,Bi:=i.1 },Am:=k }:Ar),j)
def IS(d:Nat)(g:Aa)(h:Int->Ab->(List Ap)->Option (Ar×Ab))(i:(Int×Ab×(List Ap))->Option (Ar×Ab))(a:Int)(e:Ab)(b:List Ap):Option (Ar×Ab) :=
 bif decide (a>0)then
  (Dh a).bind λf =>
  bif decide (({ data:=#[113] }:ByteArray).size+f.size<=9223372036854775807)then
   (DF d e g (({ data:=#[113] }:ByteArray)++f)).bind λc =>
   bif rm b.length [c.1].length then
    i ((i64.wrap (a-1)),c.2,(b++[c.1]))
   else none
  else none
 else
  h a e b
def Cs(d:Nat)(e:Aa)(f:ByteArray)(g:Int×Ab)(o:Ab)(h:Int)(i:Int)(j:Int)(k:Int)(l:Int)(m:List Ad):Option (Ar×Ab) :=
 (CC o 3).bind λb =>
 bif b.1 then
  (AN b.2 2 5).bind λc =>
  (AN c.2 1 c.1).bind λn =>
  (AN n.2 1 3).bind λa =>
  iter (λp s=>Ec d e (Ed f h i j k l m n c g) p s.1 s.2.1 s.2.2) A9 (a.1,a.2,[])
 else
  (AN b.2 1 3).bind λa =>
  iter (λq s=>IS d e (Ee f h i j k l m g) q s.1 s.2.1 s.2.2) A9 (a.1,a.2,[])
def D4(d:Nat)(h:Ab)(b:Aa):Option (Ar×Ab) :=
 (AA h 3).bind λg =>
 (Dh g.1).bind λc =>
 bif decide (({ data:=#[112] }:ByteArray).size+c.size<=9223372036854775807)then
  (CI d g.2 b 1).bind λa =>
  (AA a.2 999).bind λe =>
  (CC e.2 3).bind λf =>
  bif f.1 then
   Cs d b c e f.2 1 0 0 0 0 []
  else
   Cs d b c e f.2 a.1.Op a.1.B a.1.Z a.1.C a.1.D a.1.H
 else none
abbrev cH(b:Int)(a:List Ac):Option (Ar×(List Ac)) :=
 some (({ Ae:={ data:=#[97,108,108,95,114,111,119,115] },Bl:={ data:=#[115,114,99] },Be:={ Op:=1 },A2:={ Bh:=1,Of:=1 },Am:=[({ I:={ data:=#[113] },Kind:=1,Ay:={ Op:=1 },V:=[({ B:=1 }:Ac)],Y:=(-1) }:Ap)] }:Ar),a)
abbrev Ox(c:Aa)(f:Int->(List Ac)->Option (Ar×(List Ac)))(g:(Int×(List Ac))->Option (Ar×(List Ac)))(a:Int)(b:List Ac):Option (Ar×(List Ac)) :=
 bif decide (a<(c.A.length:Int))then
  (Df c a).bind λe =>
  bif rm b.length [({ B:=a,J:=e }:Ac)].length then
   g ((i64.wrap (a+1)),(b++[({ B:=a,J:=e }:Ac)]))
  else none
 else
  f a b
def QD(a:Aa):Option (Ar×(List Ac)) :=
 iter (λb s=>Ox a cH b s.1 s.2) A9 (1,[])
def Gh(e:Ab):Option (Int×Ab) :=
 (AA e 60000).bind λa =>
 (AA a.2 60000).bind λb =>
 (AA b.2 7).bind λc =>
 some ((i64.wrap ((i64.wrap (a.1*b.1))+c.1)),c.2)
def O4(d:Nat) :Option Bool :=
 (Dw d ({ A:=[({ I:={ data:=#[119,104,111] },Kind:=1 }:As)] }:Aa) ({ Ae:={ data:=#[112] },G:=[[2],[5],[9]] }:Au) ([({ I:={ data:=#[97] },Aq:={ Op:=3,Ah:={ Op:=1 } } }:Az),({ I:={ data:=#[98] },Bc:=true,Aq:={ Op:=8,H:=[({ Op:=2,I:={ data:=#[97] } }:Av),({ Op:=1,S:=2 }:Av)] } }:Az)])).bind λa =>
 bif bif bif a.2.2==0 then(a.2.1==2)else false then((a.1.length:Int)==2)else false then
  (idx a.1 0).bind λb =>
  bif(b.At.Number.S==3)&&((b.At.Number.T==1)&&true)then
   (idx a.1 1).bind λc =>
   bif(c.At.Number.S==6)&&((c.At.Number.T==1)&&true)then
    (idx a.1 1).bind λe =>
    (Ix e.At.Lineage [2,5,9]).bind λf =>
    bif f then
     (Kg a.1).bind λg =>
     bif(g.length:Int)==1 then
      (Kg a.1).bind λh =>
      (idx h 0).bind λi =>
      some (i.I.toList==({ data:=#[98] }:ByteArray).toList)
     else
      some false
    else
     some false
   else
    some false
  else
   some false
 else
  some false
def EG(d:Nat)(c:Cn×Ab)(f:Au×Int)(e:(List Az)×Int)(g:Au×Int):Option Bool :=
 (Dw d c.1.Aw f.1 e.1).bind λa =>
 (Dw d c.1.Aw g.1 e.1).bind λb =>
 bif bif a.2.1==b.2.1 then(a.2.2==b.2.2)else false then
  (Ob a.1 b.1).bind λh =>
  bif h then
   (O4 d).bind λi =>
   some i
  else
   some false
 else
  some false
def Gk(d:Nat)(j:List Int):Option Bool :=
 (QE j).bind λk =>
 (Gi k 9).bind λa =>
 (D4 d a.2 a.1.Aw).bind λb =>
 (NZ d a.1.Aw b.1).bind λe =>
 (QD a.1.Aw).bind λf =>
 (Gh b.2).bind λg =>
 (JP d a.1 b.1 e.1 g.1).bind λh =>
 (JP d a.1 b.1 f.2 g.1).bind λc =>
 (EP d a.1.Aw b.1).bind λi =>
 bif bif bif bif e.2 != 0 then true else(h.2 != 0)then true else(c.2 != 0)then true else(i.2 != 0)then
  some false
 else
  (FN c.1.E f.2).bind λl =>
  bif !l then
   some false
  else
   EG d a h i c
theorem Ld{p:Prop}(h:p:=by first|rfl|simp only[ua,uY,ux]):p:=h
theorem kX{p:Prop}(h:p:=by first|rfl|(simp only[ua];done)|(simp only[ua];rfl)):p:=h
theorem tP{p:Prop}(h:p:=by repeat (first|exact trivial|refine And.intro (by first|with_reducible rfl|rfl|exact .inl rfl|exact .inr rfl|(simp only[ua];done)|(simp only[ua];rfl)|(simp only[uI,ul,uH];rfl)) ?_)):p:=h
theorem P8{p:Prop}(h:p:=by first|rfl|(simp only[ua];done)|(simp only[ua];rfl)|(simp only[BI,AI,AW,AZ,Ao,ul,uH,ua];done)|(simp only[BI,AI,AW,AZ,Ao,ul,uH,ua];rfl)):p:=h
theorem rO{p:Prop}(h:p:=by repeat (first|exact trivial|refine And.intro (by first|with_reducible rfl|rfl|exact .inl rfl|exact .inr rfl|(simp only[ua];done)|(simp only[ua];rfl)|(simp only[BI,AI,AW,AZ,Ao,ul,uH,ua];done)|(simp only[BI,AI,AW,AZ,Ao,ul,uH,ua];rfl)|(simp only[uI,ul,uH];rfl)) ?_)):p:=h
theorem tQ{p:Prop}(h:p:=by repeat (first|exact trivial|refine And.intro (by first|with_reducible rfl|rfl|exact .inl rfl|exact .inr rfl|(simp only[ua];done)|(simp only[ua];rfl)|(simp only[Zt];rfl)|(simp only[uI,ul,uH];rfl)) ?_)):p:=h
theorem EA{ρ:Type}{b a:Bool}{x y:Prop}{X Y:Option ρ}{R:ρ}(h:(bif a then X else Y)=some R)(c:X=some R->x)(d:Y=some R->y)(e:b=a:=by first|rfl|simp only[ua,uY,ux]):Bool.rec y x b:=Vh h e c d
theorem Fx{α ρ:Type}{m:Option α}{G:α->Option ρ}{R:ρ}{P:Program}{f:FuncId}{b:List Nat}{args a:List AV}{K:AV->Prop}{d:List AV->AV->Prop}{r:α->AV}(h:m.bind G=some R)(c:∀x,m=some x->Ax P f args (r x))(k:∀x,G x=some R->K (r x)):Ii P f b args K a d:=by
 obtain⟨x,hx,h⟩:=VU h;exact A4 (c x hx) (k x h)
theorem b7{α ρ:Type}{m:Option α}{G:α->Option ρ}{R:ρ}{P:Program}{f:FuncId}{d:List Nat}{args a:List AV}{K:AV->Prop}{e:List AV->AV->Prop}{b:α->List AV}{r:α->AV}(h:m.bind G=some R)(c:∀x,m=some x->Fz P f a (b x) (r x))(k:∀x,G x=some R->e (b x) (r x)):Ii P f d args K a e:=by
 obtain⟨x,hx,h⟩:=VU h;exact HW (c x hx) (k x h)
theorem Sk{α ρ:Type}{xs:List α}{i j:Int}{f:α->D}{K:D->Prop}{G:α->Option ρ}{R:ρ}(h:(idx xs i).bind G=some R)(k:∀x,idx xs i=some x->G x=some R->K (f x))(e:j=i:=by first|rfl|simp only[ua,uY,ux]):At (xs.map f) j K:=rV h e k
theorem kW{ι:Type}{Inv:ι->AS}{μ:ι->Nat}{S:AS}{m:Nat}(j:ι)(h:Le S (Inv j))(k:μ j<m:=by exact wm _):∃j,Le S (Inv j)/\μ j<m:=⟨j,h,k⟩
theorem rP{P:Program}{f:FuncId}{fn:Func}{args:List AV}{r:AV}(b:P.funcs[f]?=some fn)(hr:qI P fn args r)(a:(fn.name == "runtime.NumGoroutine")=false:=by kernel_rfl):Ax P f args r:=Du b a hr
theorem qf{ρ:Type}{b a:Bool}{x y:Prop}{E F R:ρ}(h:(bif a then some E else some F)=some R)(c:some E=some R->x:=by intro h;cases h;(conv=>whnf);exact⟨by first|rfl|(simp only[ua];done)|(simp only[ua];rfl)|(simp only[BI,AI,AW,AZ,Ao,ul,uH,ua];done)|(simp only[BI,AI,AW,AZ,Ao,ul,uH,ua];rfl)⟩)(d:some F=some R->y:=by intro h;cases h;(conv=>whnf);exact⟨by first|rfl|(simp only[ua];done)|(simp only[ua];rfl)|(simp only[BI,AI,AW,AZ,Ao,ul,uH,ua];done)|(simp only[BI,AI,AW,AZ,Ao,ul,uH,ua];rfl)⟩)(e:b=a:=by first|rfl|simp only[ua,uY,ux]):Bool.rec y x b:=Vh h e c d
theorem jk{ρ:Type}{b a:Bool}{x y:Prop}{E R:ρ}{Y:Option ρ}(h:(bif a then Y else some E)=some R)(c:Y=some R->x)(d:some E=some R->y:=by intro h;cases h;(conv=>whnf);exact⟨by first|rfl|(simp only[ua];done)|(simp only[ua];rfl)|(simp only[BI,AI,AW,AZ,Ao,ul,uH,ua];done)|(simp only[BI,AI,AW,AZ,Ao,ul,uH,ua];rfl)⟩)(e:b=a:=by first|rfl|simp only[ua,uY,ux]):Bool.rec y x b:=Vh h e c d
theorem Ih{ρ:Type}{b a:Bool}{x y:Prop}{E R:ρ}{Y:Option ρ}(h:(bif a then some E else Y)=some R)(c:Y=some R->y)(d:some E=some R->x:=by intro h;cases h;(conv=>whnf);exact⟨by first|rfl|(simp only[ua];done)|(simp only[ua];rfl)|(simp only[BI,AI,AW,AZ,Ao,ul,uH,ua];done)|(simp only[BI,AI,AW,AZ,Ao,ul,uH,ua];rfl)⟩)(e:b=a:=by first|rfl|simp only[ua,uY,ux]):Bool.rec y x b:=Vh h e d c
theorem VH{ρ:Type}{b a:Bool}{x y:Prop}{E R:ρ}{Y:Option ρ}(h:(bif a then some E else Y)=some R)(c:Y=some R->y)(d:some E=some R->x:=by intro h;cases h;(conv=>whnf);exact⟨by first|rfl|(simp only[ua];done)|(simp only[ua];rfl)⟩)(e:b=a:=by first|rfl|simp only[ua,uY,ux]):Bool.rec y x b:=Vh h e d c
theorem EB{S S':AS}(h:EF S' (λS'=>Le S S'):=by(conv=>whnf);repeat (first|exact trivial|refine And.intro (by first|with_reducible rfl|rfl|exact .inl rfl|exact .inr rfl|(simp only[ua];done)|(simp only[ua];rfl)|(simp only[uI,ul,uH];rfl)) ?_)):Le S S':=TL h
theorem Bq{S S':AS}(h:EF S' (λS'=>Le S S'):=by(conv=>whnf);repeat (first|exact trivial|refine And.intro (by first|with_reducible rfl|rfl|exact .inl rfl|exact .inr rfl|(simp only[ua];done)|(simp only[ua];rfl)|(simp only[BI,AI,AW,AZ,Ao,ul,uH,ua];done)|(simp only[BI,AI,AW,AZ,Ao,ul,uH,ua];rfl)|(simp only[uI,ul,uH];rfl)) ?_)):Le S S':=TL h
theorem Xi{S S':AS}(h:EF S' (λS'=>Le S S'):=by(conv=>whnf);repeat (first|exact trivial|refine And.intro (by first|with_reducible rfl|rfl|exact .inl rfl|exact .inr rfl|(simp only[ua];done)|(simp only[ua];rfl)|(simp only[Zt];rfl)|(simp only[uI,ul,uH];rfl)) ?_)):Le S S':=TL h
theorem bB{ρ:Type}{E R:ρ}{x:Prop}(h:some E=some R)(k:some E=some R->x:=by intro h;cases h;(conv=>whnf);exact⟨by first|rfl|(simp only[ua];done)|(simp only[ua];rfl)|(simp only[BI,AI,AW,AZ,Ao,ul,uH,ua];done)|(simp only[BI,AI,AW,AZ,Ao,ul,uH,ua];rfl)⟩):x:=k h
theorem z7{σ ρ:Type}{body:(σ->Option ρ)->σ->Option ρ}{n:Nat}{c:σ}{R:ρ}{S:AS}{W:(Exit->AS->Prop)->AS->Prop}{Q:Exit->AS->Prop}(h:iter body n c=some R)(I:σ->AS)(d:Le S (I c))(k:∀(Φ:Nat->σ->Option ρ)(n:Nat)(s:σ),body (Φ n) s=some R->EF (I s) (W (λe S=>match e with|.normal=>∃j:{p:Nat×σ // Φ p.1 p.2=some R},Le S (I j.1.2)/\j.1.1<n+1|e=>Q e S))):Q4 S W Q:=by
 obtain⟨Φ,i,h⟩:=qw h
 exact loop {p:Nat×σ // Φ p.1 p.2=some R} (λp=>I p.1.2) (λp=>p.1.1) ⟨(n,c),h⟩ d λ⟨⟨a,b⟩,h⟩=>by
  obtain⟨a,rfl,h⟩:=i _ _ h;exact k Φ a b h
theorem z8{A B:Prop}(b:B)(a:A:=by(simp only[ua];exact Dg hr (uf (by kernel_rfl)) (.inr (by kernel_rfl)))):JW A B:=⟨a,b⟩
theorem z9{A B:Prop}(b:B)(a:A:=by first|(intro x hx y hy;obtain⟨n,_,rfl⟩:=List.mem_map.1 hx;simp[D.cells]at hy;subst hy;rfl)|exact λx hx=>absurd hx (by simp)):JW A B:=⟨a,b⟩
theorem z11{A B:Prop}(b:B)(a:A:=by first|exact Ws hr (uf (by kernel_rfl))|(simp only[ua];exact Ws hr (uf (by kernel_rfl)))):JW A B:=⟨a,b⟩
theorem z12{A B:Prop}(b:B)(a:A:=by first|rfl|(simp only[ua];done)|(simp only[ua];rfl)):A/\B:=⟨a,b⟩
theorem z13{A B:Prop}(b:B)(a:A:=by exact⟨by decide +kernel,by kernel_rfl⟩):JW A B:=⟨a,b⟩
theorem z14{A B:Prop}(b:B)(a:A:=by exact⟨rfl,rfl,P8⟩):A/\B:=⟨a,b⟩
theorem z15{p:Prop}(h:p:=by obtain rfl:=uc h;refine z14 ?_;(conv=>whnf);exact⟨P8⟩):p:=h
theorem z16{p:Prop}(h:p:=by refine(by(repeat intro _);rename_i h;cases h)):p:=h
theorem z17{p:Prop}(h:p:=by refine BD h λx47 hx47 h=>?_;refine VX (types_own_c1_w.h _ _ _ _ hx47) ?_;(conv=>whnf);exact⟨⟨_,h⟩,Bq⟩):p:=h
theorem z18{p:Prop}(h:p:=by(conv=>whnf);refine BD h λx59 hx59 h=>?_;refine A4 (slices_ContainsFunc_Lapi_Expr_api_Expr_w.h _ _ _ _ _ (λa0 _ h=>ih1 a0 _ _ h) hx59) ?_;exact Aq):p:=h
theorem z19{p:Prop}(h:p:=by obtain rfl:=uc h;refine⟨.inl ?_⟩;(conv=>whnf);exact⟨P8⟩):p:=h
theorem z20{p:Prop}(h:p:=by refine⟨⟨(_,_,_,_,_,_,_,_,_,_,_,_,_,_,_,_),h⟩,?_⟩;refine TL ?_;(conv=>whnf);exact rO):p:=h
theorem z21{p:Prop}(h:p:=by refine BD h λx63 hx63 h=>?_;refine A4 (FM _ _ _ hx63) ?_;(conv=>whnf);exact z15):p:=h
theorem z22{p:Prop}(h:p:=by(conv=>whnf);exact⟨⟨_,h⟩,Bq⟩):p:=h
theorem z23{p:Prop}(h:p:=by(conv=>whnf);exact⟨⟨(_,_,_,_,_),h⟩,Bq⟩):p:=h
theorem z24{p:Prop}(h:p:=by obtain rfl:=uc h;refine⟨⟨rfl,rfl,by first|rfl|(simp only[ua];done)|(simp only[ua];rfl)⟩,?_⟩;(conv=>whnf);exact⟨kX⟩):p:=h
theorem z25{p:Prop}(h:p:=by(conv=>whnf);exact⟨⟨(_,_,_,_,_,_,_,_,_,_,_,_,_,_,_,_),h⟩,Bq⟩):p:=h
theorem z26{p:Prop}(h:p:=by(conv=>whnf);exact z15):p:=h
theorem z27{p:Prop}(h:p:=by(conv=>whnf);refine⟨.inl ?_⟩;(conv=>whnf);exact⟨rfl⟩):p:=h
theorem z28{p:Prop}(h:p:=by refine BD h λx18 hx18 h=>?_;refine A4 (slices_ContainsFunc_Lapi_Expr_api_Expr_w.h _ _ _ _ _ (λa0 _ h=>ih1 a0 _ _ _ _ h_p1 h) hx18) ?_;exact Aq):p:=h
theorem z29{p:Prop}(h:p:=by(conv=>whnf);refine z13 ?_;(conv=>whnf);exact z21):p:=h
