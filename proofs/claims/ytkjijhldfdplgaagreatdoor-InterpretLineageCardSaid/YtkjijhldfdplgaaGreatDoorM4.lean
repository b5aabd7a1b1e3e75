/- M4 -/
import Derived.Test.YtkjijhldfdplgaaGreatDoorM3
import Derived.Lib.ItoaNum
import Derived.Lib.SlicesCompact
import Derived.Deep.OwnRows
import Derived.Deep.Slices
open Go.IntKind (i64 u32 u64)
set_option linter.all false
namespace Go.Abs
abbrev D.j(x:Int):D:=.int .i64 x
abbrev D.z:=D.int .i64
abbrev AV.i(x:Int):AV:=.d (.int .i64 x)
abbrev AV.l{α:Type}(n:Nat)(f:α->D)(x:List α):AV:=.d (.list n (x.map f))
abbrev AV.t(x:ByteArray):AV:=.d (.str x)
abbrev AV.b(x:Bool):AV:=.d (.bool x)
abbrev AV.n(x:Nat):AV:=.d (.nil x)
abbrev C.i(x:Int):C:=.d (.int .i64 x)
abbrev C.l{α:Type}(n:Nat)(f:α->D)(x:List α):C:=.d (.list n (x.map f))
abbrev C.t(x:ByteArray):C:=.d (.str x)
abbrev C.b(x:Bool):C:=.d (.bool x)
abbrev C.n(x:Nat):C:=.d (.nil x)
end Go.Abs
namespace Go.Proofs.YtkjijhldfdplgaaGreatDoor.P
open Go.Abs Go.Proofs
structure Ab where
 Ak:List Int:=[]
 Aj:Int:=0
structure Ev where
 J:ByteArray:=ByteArray.empty
 A7:Int:=0
structure Aq where
 J:ByteArray:=ByteArray.empty
 U:List Ev:=[]
structure Au where
 J:ByteArray:=ByteArray.empty
 (Kind Am D E:Int:=0)
 S:List Int:=[]
 A2:Bool:=false
structure Aa where
 K:List Aq:=[]
 A:List Au:=[]
structure BQ where
 At:Aa:={}
 C:List (List Int):=[]
 Bp:List Int:=[]
 Af:Int:=0
structure Ah where
 (Op B Z D E:Int:=0)
 G:List Ah:=[]
structure Ac where
 (B T:Int:=0)
structure AE where
 J:ByteArray:=ByteArray.empty
 Kind:Int:=0
 A3:Ah:={}
 Y:List Ac:=[]
 Ag:Int:=0
 An:List Int:=[]
 V:Ah:={}
structure Io where
 (Bm Of Bn:Int:=0)
structure Av where
 (Ae Bs:ByteArray:=ByteArray.empty)
 Bc:Ah:={}
 Be:Io:={}
 A8:List AE:=[]
structure Ao where
 Ae:ByteArray:=ByteArray.empty
 Af:Int:=0
 H:List Ac:=[]
 C:List (List Int):=[]
structure Ar where
 (Op L:Int:=0)
 J:ByteArray:=ByteArray.empty
 B:Int:=0
 A:List Int:=[]
 Y:List Ac:=[]
 (X V:Ah:={})
 G:List Ar:=[]
structure Bg where
 (Bv Bt Bq Bw Bx Bo Br:Bool:=false)
structure AO where
 (L N:Int:=0)
structure Ap where
 U:List Int:=[]
 (Ad A4 A5 A6 Bb:Int:=0)
 C:List Int:=[]
structure El where
 Y:List Ac:=[]
 Ag:Int:=0
 Al:List Ap:=[]
structure Ct where
 Ag:Int:=0
 An:List Int:=[]
 A1:List AO:=[]
 (Ax Ay:AO:={})
 (Ad Ba:Int:=0)
structure Bd where
 (By Bz B0 B1:Int:=0)
 Bu:AO:={}
structure Ei where
 (D Ad:Int:=0)
structure Pp where
 (Ad Bf Bh Bi Bj Bk:Int:=0)
structure A9 where
 Kind:Int:=0
 Number:AO:={}
 Table:El:={}
 Model:Ct:={}
 Curve:List Bd:=[]
 Hist:List Ei:=[]
 Box:Pp:={}
 Lineage:List Int:=[]
structure AH where
 J:ByteArray:=ByteArray.empty
 Bl:Bool:=false
 As:A9:={}
structure Ex where
 Ai:Aa:={}
 Q:Ao:={}
structure A0 where
 I:Ex:={}
 Aw:List AH:=[]
structure AY where
 (E D:Int:=0)
structure AB where
 J:ByteArray:=ByteArray.empty
 Bl:Bool:=false
 Az:Ar:={}
def IN(x:Ab):D:=.agg [(Am 1 (D.int .u8) x.Ak),(.int .i64 x.Aj)]
theorem YM(xs:List Ab)(a0:List Int)(a:Int):xs.map IN++[D.agg [(D.list 1 (List.map (D.int .u8) a0)),(.int .i64 a)]]=(xs++[({ Ak:=a0,Aj:=a }:Ab)]).map IN:=by simp[IN,Am]
theorem Zu(xs:List Ab)(i:Nat)(a0:List Int)(a:Int):(xs.map IN).set i (D.agg [(D.list 1 (List.map (D.int .u8) a0)),(.int .i64 a)])=(xs.set i ({ Ak:=a0,Aj:=a }:Ab)).map IN:=by rw[tH];rfl
def E2(x:Ev):D:=.agg [(.str x.J),(.int .i64 x.A7)]
theorem gT(xs:List Ev)(a0:ByteArray)(a:Int):xs.map E2++[D.agg [(.str a0),(.int .i64 a)]]=(xs++[({ J:=a0,A7:=a }:Ev)]).map E2:=by simp[E2,Am]
theorem kK(xs:List Ev)(i:Nat)(a0:ByteArray)(a:Int):(xs.map E2).set i (D.agg [(.str a0),(.int .i64 a)])=(xs.set i ({ J:=a0,A7:=a }:Ev)).map E2:=by rw[tH];rfl
def Ae(x:Aq):D:=.agg [(.str x.J),(Am 2 E2 x.U)]
theorem YL(xs:List Aq)(a0:ByteArray)(a:List Ev):xs.map Ae++[D.agg [(.str a0),(D.list 2 (List.map E2 a))]]=(xs++[({ J:=a0,U:=a }:Aq)]).map Ae:=by simp[Ae,Am]
theorem Zs(xs:List Aq)(i:Nat)(a0:ByteArray)(a:List Ev):(xs.map Ae).set i (D.agg [(.str a0),(D.list 2 (List.map E2 a))])=(xs.set i ({ J:=a0,U:=a }:Aq)).map Ae:=by rw[tH];rfl
def Ak(x:Au):D:=.agg [(.str x.J),(.int .i64 x.Kind),(.int .i64 x.Am),(.int .i64 x.D),(.int .i64 x.E),(Am 1 (D.int .i64) x.S),(.bool x.A2)]
theorem Ni(xs:List Au)(a0:ByteArray)(a:Int)(b:Int)(c:Int)(d:Int)(e:List Int)(f:Bool):xs.map Ak++[D.agg [(.str a0),(.int .i64 a),(.int .i64 b),(.int .i64 c),(.int .i64 d),(D.list 1 (List.map (D.int .i64) e)),(.bool f)]]=(xs++[({ J:=a0,Kind:=a,Am:=b,D:=c,E:=d,S:=e,A2:=f }:Au)]).map Ak:=by simp[Ak,Am]
theorem eY(xs:List Au)(i:Nat)(a0:ByteArray)(a:Int)(b:Int)(c:Int)(d:Int)(e:List Int)(f:Bool):(xs.map Ak).set i (D.agg [(.str a0),(.int .i64 a),(.int .i64 b),(.int .i64 c),(.int .i64 d),(D.list 1 (List.map (D.int .i64) e)),(.bool f)])=(xs.set i ({ J:=a0,Kind:=a,Am:=b,D:=c,E:=d,S:=e,A2:=f }:Au)).map Ak:=by rw[tH];rfl
def CG(x:Aa):D:=.agg [(Am 2 Ae x.K),(Am 7 Ak x.A)]
theorem bY(xs:List Aa)(a0:List Aq)(a:List Au):xs.map CG++[D.agg [(D.list 2 (List.map Ae a0)),(D.list 7 (List.map Ak a))]]=(xs++[({ K:=a0,A:=a }:Aa)]).map CG:=by simp[CG,Am]
theorem fa(xs:List Aa)(i:Nat)(a0:List Aq)(a:List Au):(xs.map CG).set i (D.agg [(D.list 2 (List.map Ae a0)),(D.list 7 (List.map Ak a))])=(xs.set i ({ K:=a0,A:=a }:Aa)).map CG:=by rw[tH];rfl
def JG(x:BQ):D:=.agg [(Am 2 Ae x.At.K),(Am 7 Ak x.At.A),(Am 1 (Am 1 (D.int .i64)) x.C),(Am 1 (D.int .i64) x.Bp),(.int .i64 x.Af)]
theorem bZ(xs:List BQ)(a0:List Aq)(a:List Au)(b:List (List Int))(c:List Int)(d:Int):xs.map JG++[D.agg [(D.list 2 (List.map Ae a0)),(D.list 7 (List.map Ak a)),(D.list 1 (List.map (Am 1 (D.int .i64)) b)),(D.list 1 (List.map (D.int .i64) c)),(.int .i64 d)]]=(xs++[({ At:=({ K:=a0,A:=a }:Aa),C:=b,Bp:=c,Af:=d }:BQ)]).map JG:=by simp[JG,Am]
theorem fb(xs:List BQ)(i:Nat)(a0:List Aq)(a:List Au)(b:List (List Int))(c:List Int)(d:Int):(xs.map JG).set i (D.agg [(D.list 2 (List.map Ae a0)),(D.list 7 (List.map Ak a)),(D.list 1 (List.map (Am 1 (D.int .i64)) b)),(D.list 1 (List.map (D.int .i64) c)),(.int .i64 d)])=(xs.set i ({ At:=({ K:=a0,A:=a }:Aa),C:=b,Bp:=c,Af:=d }:BQ)).map JG:=by rw[tH];rfl
mutual
def Az:Ah->D
 | ⟨Op,Column,Code,Low,High,Kids⟩=>.agg [(.int .i64 Op),(.int .i64 Column),(.int .i64 Code),(.int .i64 Low),(.int .i64 High),(.list 6 (Pw Kids))]
def Pw:List Ah->List D
 | []=>[]
 | x :: r=>Az x :: Pw r
end
theorem UG:∀l:List Ah,Pw l=l.map Az
 | []=>by simp[Pw]
 | x :: r=>by simp[Pw,UG r]
def BC(x:Ah):D:=.agg [(.int .i64 x.Op),(.int .i64 x.B),(.int .i64 x.Z),(.int .i64 x.D),(.int .i64 x.E),(Am 6 Az x.G)]
theorem ZH(x:Ah):Ah.mk x.Op x.B x.Z x.D x.E x.G=x:=by cases x;rfl
theorem AQ(x:Ah):Az x=BC x:=by
 obtain⟨Op,a,Code,c,b,Kids⟩:=x;simp only[Az,UG];rfl
theorem gU(xs:List Ah)(a0:Int)(a:Int)(b:Int)(c:Int)(d:Int)(e:List Ah):xs.map Az++[D.agg [(.int .i64 a0),(.int .i64 a),(.int .i64 b),(.int .i64 c),(.int .i64 d),(D.list 6 (List.map Az e))]]=(xs++[({ Op:=a0,B:=a,Z:=b,D:=c,E:=d,G:=e }:Ah)]).map Az:=by simp[AQ,BC,Am]
theorem kL(xs:List Ah)(i:Nat)(a0:Int)(a:Int)(b:Int)(c:Int)(d:Int)(e:List Ah):(xs.map Az).set i (D.agg [(.int .i64 a0),(.int .i64 a),(.int .i64 b),(.int .i64 c),(.int .i64 d),(D.list 6 (List.map Az e))])=(xs.set i ({ Op:=a0,B:=a,Z:=b,D:=c,E:=d,G:=e }:Ah)).map Az:=by rw[tH];simp[AQ,BC,Am]
def Ad(x:Ac):D:=.agg [(.int .i64 x.B),(.int .i64 x.T)]
theorem Q1(xs:List Ac)(a0:Int)(a:Int):xs.map Ad++[D.agg [(.int .i64 a0),(.int .i64 a)]]=(xs++[({ B:=a0,T:=a }:Ac)]).map Ad:=by simp[Ad,Am]
theorem kO(xs:List Ac)(i:Nat)(a0:Int)(a:Int):(xs.map Ad).set i (D.agg [(.int .i64 a0),(.int .i64 a)])=(xs.set i ({ B:=a0,T:=a }:Ac)).map Ad:=by rw[tH];rfl
def Dh(x:AE):D:=.agg [(.str x.J),(.int .i64 x.Kind),(.int .i64 x.A3.Op),(.int .i64 x.A3.B),(.int .i64 x.A3.Z),(.int .i64 x.A3.D),(.int .i64 x.A3.E),(Am 6 Az x.A3.G),(Am 2 Ad x.Y),(.int .i64 x.Ag),(Am 1 (D.int .i64) x.An),(.int .i64 x.V.Op),(.int .i64 x.V.B),(.int .i64 x.V.Z),(.int .i64 x.V.D),(.int .i64 x.V.E),(Am 6 Az x.V.G)]
theorem Ou(xs:List AE)(a0:ByteArray)(h:Int)(i:Int)(j:Int)(k:Int)(l:Int)(m:Int)(n:List Ah)(o:List Ac)(p:Int)(a:List Int)(b:Int)(c:Int)(d:Int)(e:Int)(f:Int)(g:List Ah):xs.map Dh++[D.agg [(.str a0),(.int .i64 h),(.int .i64 i),(.int .i64 j),(.int .i64 k),(.int .i64 l),(.int .i64 m),(D.list 6 (List.map Az n)),(D.list 2 (List.map Ad o)),(.int .i64 p),(D.list 1 (List.map (D.int .i64) a)),(.int .i64 b),(.int .i64 c),(.int .i64 d),(.int .i64 e),(.int .i64 f),(D.list 6 (List.map Az g))]]=(xs++[({ J:=a0,Kind:=h,A3:=({ Op:=i,B:=j,Z:=k,D:=l,E:=m,G:=n }:Ah),Y:=o,Ag:=p,An:=a,V:=({ Op:=b,B:=c,Z:=d,D:=e,E:=f,G:=g }:Ah) }:AE)]).map Dh:=by simp[Dh,Am]
theorem Zt(xs:List AE)(i:Nat)(a0:ByteArray)(h:Int)(j:Int)(k:Int)(l:Int)(m:Int)(n:Int)(o:List Ah)(p:List Ac)(q:Int)(a:List Int)(b:Int)(c:Int)(d:Int)(e:Int)(f:Int)(g:List Ah):(xs.map Dh).set i (D.agg [(.str a0),(.int .i64 h),(.int .i64 j),(.int .i64 k),(.int .i64 l),(.int .i64 m),(.int .i64 n),(D.list 6 (List.map Az o)),(D.list 2 (List.map Ad p)),(.int .i64 q),(D.list 1 (List.map (D.int .i64) a)),(.int .i64 b),(.int .i64 c),(.int .i64 d),(.int .i64 e),(.int .i64 f),(D.list 6 (List.map Az g))])=(xs.set i ({ J:=a0,Kind:=h,A3:=({ Op:=j,B:=k,Z:=l,D:=m,E:=n,G:=o }:Ah),Y:=p,Ag:=q,An:=a,V:=({ Op:=b,B:=c,Z:=d,D:=e,E:=f,G:=g }:Ah) }:AE)).map Dh:=by rw[tH];rfl
def Lr(x:Io):D:=.agg [(.int .i64 x.Bm),(.int .i64 x.Of),(.int .i64 x.Bn)]
theorem bX(xs:List Io)(a0:Int)(a:Int)(b:Int):xs.map Lr++[D.agg [(.int .i64 a0),(.int .i64 a),(.int .i64 b)]]=(xs++[({ Bm:=a0,Of:=a,Bn:=b }:Io)]).map Lr:=by simp[Lr,Am]
theorem eZ(xs:List Io)(i:Nat)(a0:Int)(a:Int)(b:Int):(xs.map Lr).set i (D.agg [(.int .i64 a0),(.int .i64 a),(.int .i64 b)])=(xs.set i ({ Bm:=a0,Of:=a,Bn:=b }:Io)).map Lr:=by rw[tH];rfl
def EG(x:Av):D:=.agg [(.str x.Ae),(.str x.Bs),(.int .i64 x.Bc.Op),(.int .i64 x.Bc.B),(.int .i64 x.Bc.Z),(.int .i64 x.Bc.D),(.int .i64 x.Bc.E),(Am 6 Az x.Bc.G),(.int .i64 x.Be.Bm),(.int .i64 x.Be.Of),(.int .i64 x.Be.Bn),(Am 17 Dh x.A8)]
theorem Vo(xs:List Av)(a0:ByteArray)(c:ByteArray)(d:Int)(e:Int)(f:Int)(g:Int)(h:Int)(i:List Ah)(j:Int)(k:Int)(a:Int)(b:List AE):xs.map EG++[D.agg [(.str a0),(.str c),(.int .i64 d),(.int .i64 e),(.int .i64 f),(.int .i64 g),(.int .i64 h),(D.list 6 (List.map Az i)),(.int .i64 j),(.int .i64 k),(.int .i64 a),(D.list 17 (List.map Dh b))]]=(xs++[({ Ae:=a0,Bs:=c,Bc:=({ Op:=d,B:=e,Z:=f,D:=g,E:=h,G:=i }:Ah),Be:=({ Bm:=j,Of:=k,Bn:=a }:Io),A8:=b }:Av)]).map EG:=by simp[EG,Am]
theorem VX(xs:List Av)(i:Nat)(a0:ByteArray)(c:ByteArray)(d:Int)(e:Int)(f:Int)(g:Int)(h:Int)(j:List Ah)(k:Int)(l:Int)(a:Int)(b:List AE):(xs.map EG).set i (D.agg [(.str a0),(.str c),(.int .i64 d),(.int .i64 e),(.int .i64 f),(.int .i64 g),(.int .i64 h),(D.list 6 (List.map Az j)),(.int .i64 k),(.int .i64 l),(.int .i64 a),(D.list 17 (List.map Dh b))])=(xs.set i ({ Ae:=a0,Bs:=c,Bc:=({ Op:=d,B:=e,Z:=f,D:=g,E:=h,G:=j }:Ah),Be:=({ Bm:=k,Of:=l,Bn:=a }:Io),A8:=b }:Av)).map EG:=by rw[tH];rfl
def DY(x:Ao):D:=.agg [(.str x.Ae),(.int .i64 x.Af),(Am 2 Ad x.H),(Am 1 (Am 1 (D.int .i64)) x.C)]
theorem Zw(xs:List Ao)(a0:ByteArray)(a:Int)(b:List Ac)(c:List (List Int)):xs.map DY++[D.agg [(.str a0),(.int .i64 a),(D.list 2 (List.map Ad b)),(D.list 1 (List.map (Am 1 (D.int .i64)) c))]]=(xs++[({ Ae:=a0,Af:=a,H:=b,C:=c }:Ao)]).map DY:=by simp[DY,Am]
theorem bU(xs:List Ao)(i:Nat)(a0:ByteArray)(a:Int)(b:List Ac)(c:List (List Int)):(xs.map DY).set i (D.agg [(.str a0),(.int .i64 a),(D.list 2 (List.map Ad b)),(D.list 1 (List.map (Am 1 (D.int .i64)) c))])=(xs.set i ({ Ae:=a0,Af:=a,H:=b,C:=c }:Ao)).map DY:=by rw[tH];rfl
mutual
def BY:Ar->D
 | ⟨Op,Num,Name,Column,Columns,Dims,Cond,Event,Kids⟩=>.agg [(.int .i64 Op),(.int .i64 Num),(.str Name),(.int .i64 Column),(Am 1 (D.int .i64) Columns),(Am 2 Ad Dims),(.int .i64 Cond.Op),(.int .i64 Cond.B),(.int .i64 Cond.Z),(.int .i64 Cond.D),(.int .i64 Cond.E),(Am 6 Az Cond.G),(.int .i64 Event.Op),(.int .i64 Event.B),(.int .i64 Event.Z),(.int .i64 Event.D),(.int .i64 Event.E),(Am 6 Az Event.G),(.list 19 (Px Kids))]
def Px:List Ar->List D
 | []=>[]
 | x :: r=>BY x :: Px r
end
theorem UH:∀l:List Ar,Px l=l.map BY
 | []=>by simp[Px]
 | x :: r=>by simp[Px,UH r]
def AR(x:Ar):D:=.agg [(.int .i64 x.Op),(.int .i64 x.L),(.str x.J),(.int .i64 x.B),(Am 1 (D.int .i64) x.A),(Am 2 Ad x.Y),(.int .i64 x.X.Op),(.int .i64 x.X.B),(.int .i64 x.X.Z),(.int .i64 x.X.D),(.int .i64 x.X.E),(Am 6 Az x.X.G),(.int .i64 x.V.Op),(.int .i64 x.V.B),(.int .i64 x.V.Z),(.int .i64 x.V.D),(.int .i64 x.V.E),(Am 6 Az x.V.G),(Am 19 BY x.G)]
theorem Bb(x:Ar):BY x=AR x:=by
 obtain⟨Op,f,c,b,a,d,e,Event,Kids⟩:=x;simp only[BY,UH];rfl
theorem gV(xs:List Ar)(a0:Int)(j:Int)(k:ByteArray)(l:Int)(m:List Int)(n:List Ac)(o:Int)(p:Int)(q:Int)(r:Int)(a:Int)(b:List Ah)(c:Int)(d:Int)(e:Int)(f:Int)(g:Int)(h:List Ah)(i:List Ar):xs.map BY++[D.agg [(.int .i64 a0),(.int .i64 j),(.str k),(.int .i64 l),(D.list 1 (List.map (D.int .i64) m)),(D.list 2 (List.map Ad n)),(.int .i64 o),(.int .i64 p),(.int .i64 q),(.int .i64 r),(.int .i64 a),(D.list 6 (List.map Az b)),(.int .i64 c),(.int .i64 d),(.int .i64 e),(.int .i64 f),(.int .i64 g),(D.list 6 (List.map Az h)),(D.list 19 (List.map BY i))]]=(xs++[({ Op:=a0,L:=j,J:=k,B:=l,A:=m,Y:=n,X:=({ Op:=o,B:=p,Z:=q,D:=r,E:=a,G:=b }:Ah),V:=({ Op:=c,B:=d,Z:=e,D:=f,E:=g,G:=h }:Ah),G:=i }:Ar)]).map BY:=by simp[Bb,AR,Am]
theorem kM(xs:List Ar)(i:Nat)(a0:Int)(k:Int)(l:ByteArray)(m:Int)(n:List Int)(o:List Ac)(p:Int)(q:Int)(r:Int)(s:Int)(a:Int)(b:List Ah)(c:Int)(d:Int)(e:Int)(f:Int)(g:Int)(h:List Ah)(j:List Ar):(xs.map BY).set i (D.agg [(.int .i64 a0),(.int .i64 k),(.str l),(.int .i64 m),(D.list 1 (List.map (D.int .i64) n)),(D.list 2 (List.map Ad o)),(.int .i64 p),(.int .i64 q),(.int .i64 r),(.int .i64 s),(.int .i64 a),(D.list 6 (List.map Az b)),(.int .i64 c),(.int .i64 d),(.int .i64 e),(.int .i64 f),(.int .i64 g),(D.list 6 (List.map Az h)),(D.list 19 (List.map BY j))])=(xs.set i ({ Op:=a0,L:=k,J:=l,B:=m,A:=n,Y:=o,X:=({ Op:=p,B:=q,Z:=r,D:=s,E:=a,G:=b }:Ah),V:=({ Op:=c,B:=d,Z:=e,D:=f,E:=g,G:=h }:Ah),G:=j }:Ar)).map BY:=by rw[tH];simp[Bb,AR,Am]
def GK(x:Bg):D:=.agg [(.bool x.Bv),(.bool x.Bt),(.bool x.Bq),(.bool x.Bw),(.bool x.Bx),(.bool x.Bo),(.bool x.Br)]
theorem Wb(xs:List Bg)(a0:Bool)(a:Bool)(b:Bool)(c:Bool)(d:Bool)(e:Bool)(f:Bool):xs.map GK++[D.agg [(.bool a0),(.bool a),(.bool b),(.bool c),(.bool d),(.bool e),(.bool f)]]=(xs++[({ Bv:=a0,Bt:=a,Bq:=b,Bw:=c,Bx:=d,Bo:=e,Br:=f }:Bg)]).map GK:=by simp[GK,Am]
theorem Xn(xs:List Bg)(i:Nat)(a0:Bool)(a:Bool)(b:Bool)(c:Bool)(d:Bool)(e:Bool)(f:Bool):(xs.map GK).set i (D.agg [(.bool a0),(.bool a),(.bool b),(.bool c),(.bool d),(.bool e),(.bool f)])=(xs.set i ({ Bv:=a0,Bt:=a,Bq:=b,Bw:=c,Bx:=d,Bo:=e,Br:=f }:Bg)).map GK:=by rw[tH];rfl
def Bz(x:AO):D:=.agg [(.int .i64 x.L),(.int .i64 x.N)]
theorem gW(xs:List AO)(a0:Int)(a:Int):xs.map Bz++[D.agg [(.int .i64 a0),(.int .i64 a)]]=(xs++[({ L:=a0,N:=a }:AO)]).map Bz:=by simp[Bz,Am]
theorem kN(xs:List AO)(i:Nat)(a0:Int)(a:Int):(xs.map Bz).set i (D.agg [(.int .i64 a0),(.int .i64 a)])=(xs.set i ({ L:=a0,N:=a }:AO)).map Bz:=by rw[tH];rfl
def A5(x:Ap):D:=.agg [(Am 1 (D.int .i64) x.U),(.int .i64 x.Ad),(.int .i64 x.A4),(.int .i64 x.A5),(.int .i64 x.A6),(.int .i64 x.Bb),(Am 1 (D.int .i64) x.C)]
theorem Xq(xs:List Ap)(a0:List Int)(a:Int)(b:Int)(c:Int)(d:Int)(e:Int)(f:List Int):xs.map A5++[D.agg [(D.list 1 (List.map (D.int .i64) a0)),(.int .i64 a),(.int .i64 b),(.int .i64 c),(.int .i64 d),(.int .i64 e),(D.list 1 (List.map (D.int .i64) f))]]=(xs++[({ U:=a0,Ad:=a,A4:=b,A5:=c,A6:=d,Bb:=e,C:=f }:Ap)]).map A5:=by simp[A5,Am]
theorem YJ(xs:List Ap)(i:Nat)(a0:List Int)(a:Int)(b:Int)(c:Int)(d:Int)(e:Int)(f:List Int):(xs.map A5).set i (D.agg [(D.list 1 (List.map (D.int .i64) a0)),(.int .i64 a),(.int .i64 b),(.int .i64 c),(.int .i64 d),(.int .i64 e),(D.list 1 (List.map (D.int .i64) f))])=(xs.set i ({ U:=a0,Ad:=a,A4:=b,A5:=c,A6:=d,Bb:=e,C:=f }:Ap)).map A5:=by rw[tH];rfl
def Ig(x:El):D:=.agg [(Am 2 Ad x.Y),(.int .i64 x.Ag),(Am 7 A5 x.Al)]
theorem fg(xs:List El)(a0:List Ac)(a:Int)(b:List Ap):xs.map Ig++[D.agg [(D.list 2 (List.map Ad a0)),(.int .i64 a),(D.list 7 (List.map A5 b))]]=(xs++[({ Y:=a0,Ag:=a,Al:=b }:El)]).map Ig:=by simp[Ig,Am]
theorem gQ(xs:List El)(i:Nat)(a0:List Ac)(a:Int)(b:List Ap):(xs.map Ig).set i (D.agg [(D.list 2 (List.map Ad a0)),(.int .i64 a),(D.list 7 (List.map A5 b))])=(xs.set i ({ Y:=a0,Ag:=a,Al:=b }:El)).map Ig:=by rw[tH];rfl
def Nm(x:Ct):D:=.agg [(.int .i64 x.Ag),(Am 1 (D.int .i64) x.An),(Am 2 Bz x.A1),(.int .i64 x.Ax.L),(.int .i64 x.Ax.N),(.int .i64 x.Ay.L),(.int .i64 x.Ay.N),(.int .i64 x.Ad),(.int .i64 x.Ba)]
theorem ff(xs:List Ct)(a0:Int)(a:List Int)(b:List AO)(c:Int)(d:Int)(e:Int)(f:Int)(g:Int)(h:Int):xs.map Nm++[D.agg [(.int .i64 a0),(D.list 1 (List.map (D.int .i64) a)),(D.list 2 (List.map Bz b)),(.int .i64 c),(.int .i64 d),(.int .i64 e),(.int .i64 f),(.int .i64 g),(.int .i64 h)]]=(xs++[({ Ag:=a0,An:=a,A1:=b,Ax:=({ L:=c,N:=d }:AO),Ay:=({ L:=e,N:=f }:AO),Ad:=g,Ba:=h }:Ct)]).map Nm:=by simp[Nm,Am]
theorem gP(xs:List Ct)(i:Nat)(a0:Int)(a:List Int)(b:List AO)(c:Int)(d:Int)(e:Int)(f:Int)(g:Int)(h:Int):(xs.map Nm).set i (D.agg [(.int .i64 a0),(D.list 1 (List.map (D.int .i64) a)),(D.list 2 (List.map Bz b)),(.int .i64 c),(.int .i64 d),(.int .i64 e),(.int .i64 f),(.int .i64 g),(.int .i64 h)])=(xs.set i ({ Ag:=a0,An:=a,A1:=b,Ax:=({ L:=c,N:=d }:AO),Ay:=({ L:=e,N:=f }:AO),Ad:=g,Ba:=h }:Ct)).map Nm:=by rw[tH];rfl
def Bm(x:Bd):D:=.agg [(.int .i64 x.By),(.int .i64 x.Bz),(.int .i64 x.B0),(.int .i64 x.B1),(.int .i64 x.Bu.L),(.int .i64 x.Bu.N)]
theorem Xo(xs:List Bd)(a0:Int)(a:Int)(b:Int)(c:Int)(d:Int)(e:Int):xs.map Bm++[D.agg [(.int .i64 a0),(.int .i64 a),(.int .i64 b),(.int .i64 c),(.int .i64 d),(.int .i64 e)]]=(xs++[({ By:=a0,Bz:=a,B0:=b,B1:=c,Bu:=({ L:=d,N:=e }:AO) }:Bd)]).map Bm:=by simp[Bm,Am]
theorem YH(xs:List Bd)(i:Nat)(a0:Int)(a:Int)(b:Int)(c:Int)(d:Int)(e:Int):(xs.map Bm).set i (D.agg [(.int .i64 a0),(.int .i64 a),(.int .i64 b),(.int .i64 c),(.int .i64 d),(.int .i64 e)])=(xs.set i ({ By:=a0,Bz:=a,B0:=b,B1:=c,Bu:=({ L:=d,N:=e }:AO) }:Bd)).map Bm:=by rw[tH];rfl
def BX(x:Ei):D:=.agg [(.int .i64 x.D),(.int .i64 x.Ad)]
theorem Wa(xs:List Ei)(a0:Int)(a:Int):xs.map BX++[D.agg [(.int .i64 a0),(.int .i64 a)]]=(xs++[({ D:=a0,Ad:=a }:Ei)]).map BX:=by simp[BX,Am]
theorem Vl(xs:List Ei)(i:Nat)(a0:Int)(a:Int):(xs.map BX).set i (D.agg [(.int .i64 a0),(.int .i64 a)])=(xs.set i ({ D:=a0,Ad:=a }:Ei)).map BX:=by rw[tH];rfl
def Sy(x:Pp):D:=.agg [(.int .i64 x.Ad),(.int .i64 x.Bf),(.int .i64 x.Bh),(.int .i64 x.Bi),(.int .i64 x.Bj),(.int .i64 x.Bk)]
theorem kQ(xs:List Pp)(a0:Int)(a:Int)(b:Int)(c:Int)(d:Int)(e:Int):xs.map Sy++[D.agg [(.int .i64 a0),(.int .i64 a),(.int .i64 b),(.int .i64 c),(.int .i64 d),(.int .i64 e)]]=(xs++[({ Ad:=a0,Bf:=a,Bh:=b,Bi:=c,Bj:=d,Bk:=e }:Pp)]).map Sy:=by simp[Sy,Am]
theorem nP(xs:List Pp)(i:Nat)(a0:Int)(a:Int)(b:Int)(c:Int)(d:Int)(e:Int):(xs.map Sy).set i (D.agg [(.int .i64 a0),(.int .i64 a),(.int .i64 b),(.int .i64 c),(.int .i64 d),(.int .i64 e)])=(xs.set i ({ Ad:=a0,Bf:=a,Bh:=b,Bi:=c,Bj:=d,Bk:=e }:Pp)).map Sy:=by rw[tH];rfl
def Dt(x:A9):D:=.agg [(.int .i64 x.Kind),(.int .i64 x.Number.L),(.int .i64 x.Number.N),(Am 2 Ad x.Table.Y),(.int .i64 x.Table.Ag),(Am 7 A5 x.Table.Al),(.int .i64 x.Model.Ag),(Am 1 (D.int .i64) x.Model.An),(Am 2 Bz x.Model.A1),(.int .i64 x.Model.Ax.L),(.int .i64 x.Model.Ax.N),(.int .i64 x.Model.Ay.L),(.int .i64 x.Model.Ay.N),(.int .i64 x.Model.Ad),(.int .i64 x.Model.Ba),(Am 6 Bm x.Curve),(Am 2 BX x.Hist),(.int .i64 x.Box.Ad),(.int .i64 x.Box.Bf),(.int .i64 x.Box.Bh),(.int .i64 x.Box.Bi),(.int .i64 x.Box.Bj),(.int .i64 x.Box.Bk),(Am 1 (D.int .i64) x.Lineage)]
theorem fh(xs:List A9)(a0:Int)(o:Int)(p:Int)(q:List Ac)(r:Int)(s:List Ap)(t:Int)(u:List Int)(v:List AO)(w:Int)(a:Int)(b:Int)(c:Int)(d:Int)(e:Int)(f:List Bd)(g:List Ei)(h:Int)(i:Int)(j:Int)(k:Int)(l:Int)(m:Int)(n:List Int):xs.map Dt++[D.agg [(.int .i64 a0),(.int .i64 o),(.int .i64 p),(D.list 2 (List.map Ad q)),(.int .i64 r),(D.list 7 (List.map A5 s)),(.int .i64 t),(D.list 1 (List.map (D.int .i64) u)),(D.list 2 (List.map Bz v)),(.int .i64 w),(.int .i64 a),(.int .i64 b),(.int .i64 c),(.int .i64 d),(.int .i64 e),(D.list 6 (List.map Bm f)),(D.list 2 (List.map BX g)),(.int .i64 h),(.int .i64 i),(.int .i64 j),(.int .i64 k),(.int .i64 l),(.int .i64 m),(D.list 1 (List.map (D.int .i64) n))]]=(xs++[({ Kind:=a0,Number:=({ L:=o,N:=p }:AO),Table:=({ Y:=q,Ag:=r,Al:=s }:El),Model:=({ Ag:=t,An:=u,A1:=v,Ax:=({ L:=w,N:=a }:AO),Ay:=({ L:=b,N:=c }:AO),Ad:=d,Ba:=e }:Ct),Curve:=f,Hist:=g,Box:=({ Ad:=h,Bf:=i,Bh:=j,Bi:=k,Bj:=l,Bk:=m }:Pp),Lineage:=n }:A9)]).map Dt:=by simp[Dt,Am]
theorem gR(xs:List A9)(i:Nat)(a0:Int)(p:Int)(q:Int)(r:List Ac)(s:Int)(t:List Ap)(u:Int)(v:List Int)(w:List AO)(x:Int)(a:Int)(b:Int)(c:Int)(d:Int)(e:Int)(f:List Bd)(g:List Ei)(h:Int)(j:Int)(k:Int)(l:Int)(m:Int)(n:Int)(o:List Int):(xs.map Dt).set i (D.agg [(.int .i64 a0),(.int .i64 p),(.int .i64 q),(D.list 2 (List.map Ad r)),(.int .i64 s),(D.list 7 (List.map A5 t)),(.int .i64 u),(D.list 1 (List.map (D.int .i64) v)),(D.list 2 (List.map Bz w)),(.int .i64 x),(.int .i64 a),(.int .i64 b),(.int .i64 c),(.int .i64 d),(.int .i64 e),(D.list 6 (List.map Bm f)),(D.list 2 (List.map BX g)),(.int .i64 h),(.int .i64 j),(.int .i64 k),(.int .i64 l),(.int .i64 m),(.int .i64 n),(D.list 1 (List.map (D.int .i64) o))])=(xs.set i ({ Kind:=a0,Number:=({ L:=p,N:=q }:AO),Table:=({ Y:=r,Ag:=s,Al:=t }:El),Model:=({ Ag:=u,An:=v,A1:=w,Ax:=({ L:=x,N:=a }:AO),Ay:=({ L:=b,N:=c }:AO),Ad:=d,Ba:=e }:Ct),Curve:=f,Hist:=g,Box:=({ Ad:=h,Bf:=j,Bh:=k,Bi:=l,Bj:=m,Bk:=n }:Pp),Lineage:=o }:A9)).map Dt:=by rw[tH];rfl
def A8(x:AH):D:=.agg [(.str x.J),(.bool x.Bl),(.int .i64 x.As.Kind),(.int .i64 x.As.Number.L),(.int .i64 x.As.Number.N),(Am 2 Ad x.As.Table.Y),(.int .i64 x.As.Table.Ag),(Am 7 A5 x.As.Table.Al),(.int .i64 x.As.Model.Ag),(Am 1 (D.int .i64) x.As.Model.An),(Am 2 Bz x.As.Model.A1),(.int .i64 x.As.Model.Ax.L),(.int .i64 x.As.Model.Ax.N),(.int .i64 x.As.Model.Ay.L),(.int .i64 x.As.Model.Ay.N),(.int .i64 x.As.Model.Ad),(.int .i64 x.As.Model.Ba),(Am 6 Bm x.As.Curve),(Am 2 BX x.As.Hist),(.int .i64 x.As.Box.Ad),(.int .i64 x.As.Box.Bf),(.int .i64 x.As.Box.Bh),(.int .i64 x.As.Box.Bi),(.int .i64 x.As.Box.Bj),(.int .i64 x.As.Box.Bk),(Am 1 (D.int .i64) x.As.Lineage)]
theorem Zv(xs:List AH)(a0:ByteArray)(q:Bool)(r:Int)(s:Int)(t:Int)(u:List Ac)(v:Int)(w:List Ap)(x:Int)(y:List Int)(a:List AO)(b:Int)(c:Int)(d:Int)(e:Int)(f:Int)(g:Int)(h:List Bd)(i:List Ei)(j:Int)(k:Int)(l:Int)(m:Int)(n:Int)(o:Int)(p:List Int):xs.map A8++[D.agg [(.str a0),(.bool q),(.int .i64 r),(.int .i64 s),(.int .i64 t),(D.list 2 (List.map Ad u)),(.int .i64 v),(D.list 7 (List.map A5 w)),(.int .i64 x),(D.list 1 (List.map (D.int .i64) y)),(D.list 2 (List.map Bz a)),(.int .i64 b),(.int .i64 c),(.int .i64 d),(.int .i64 e),(.int .i64 f),(.int .i64 g),(D.list 6 (List.map Bm h)),(D.list 2 (List.map BX i)),(.int .i64 j),(.int .i64 k),(.int .i64 l),(.int .i64 m),(.int .i64 n),(.int .i64 o),(D.list 1 (List.map (D.int .i64) p))]]=(xs++[({ J:=a0,Bl:=q,As:=({ Kind:=r,Number:=({ L:=s,N:=t }:AO),Table:=({ Y:=u,Ag:=v,Al:=w }:El),Model:=({ Ag:=x,An:=y,A1:=a,Ax:=({ L:=b,N:=c }:AO),Ay:=({ L:=d,N:=e }:AO),Ad:=f,Ba:=g }:Ct),Curve:=h,Hist:=i,Box:=({ Ad:=j,Bf:=k,Bh:=l,Bi:=m,Bj:=n,Bk:=o }:Pp),Lineage:=p }:A9) }:AH)]).map A8:=by simp[A8,Am]
theorem bT(xs:List AH)(i:Nat)(a0:ByteArray)(r:Bool)(s:Int)(t:Int)(u:Int)(v:List Ac)(w:Int)(x:List Ap)(y:Int)(z:List Int)(a:List AO)(b:Int)(c:Int)(d:Int)(e:Int)(f:Int)(g:Int)(h:List Bd)(j:List Ei)(k:Int)(l:Int)(m:Int)(n:Int)(o:Int)(p:Int)(q:List Int):(xs.map A8).set i (D.agg [(.str a0),(.bool r),(.int .i64 s),(.int .i64 t),(.int .i64 u),(D.list 2 (List.map Ad v)),(.int .i64 w),(D.list 7 (List.map A5 x)),(.int .i64 y),(D.list 1 (List.map (D.int .i64) z)),(D.list 2 (List.map Bz a)),(.int .i64 b),(.int .i64 c),(.int .i64 d),(.int .i64 e),(.int .i64 f),(.int .i64 g),(D.list 6 (List.map Bm h)),(D.list 2 (List.map BX j)),(.int .i64 k),(.int .i64 l),(.int .i64 m),(.int .i64 n),(.int .i64 o),(.int .i64 p),(D.list 1 (List.map (D.int .i64) q))])=(xs.set i ({ J:=a0,Bl:=r,As:=({ Kind:=s,Number:=({ L:=t,N:=u }:AO),Table:=({ Y:=v,Ag:=w,Al:=x }:El),Model:=({ Ag:=y,An:=z,A1:=a,Ax:=({ L:=b,N:=c }:AO),Ay:=({ L:=d,N:=e }:AO),Ad:=f,Ba:=g }:Ct),Curve:=h,Hist:=j,Box:=({ Ad:=k,Bf:=l,Bh:=m,Bi:=n,Bj:=o,Bk:=p }:Pp),Lineage:=q }:A9) }:AH)).map A8:=by rw[tH];rfl
def Fp(x:Ex):D:=.agg [(Am 2 Ae x.Ai.K),(Am 7 Ak x.Ai.A),(.str x.Q.Ae),(.int .i64 x.Q.Af),(Am 2 Ad x.Q.H),(Am 1 (Am 1 (D.int .i64)) x.Q.C)]
theorem Uq(xs:List Ex)(a0:List Aq)(a:List Au)(b:ByteArray)(c:Int)(d:List Ac)(e:List (List Int)):xs.map Fp++[D.agg [(D.list 2 (List.map Ae a0)),(D.list 7 (List.map Ak a)),(.str b),(.int .i64 c),(D.list 2 (List.map Ad d)),(D.list 1 (List.map (Am 1 (D.int .i64)) e))]]=(xs++[({ Ai:=({ K:=a0,A:=a }:Aa),Q:=({ Ae:=b,Af:=c,H:=d,C:=e }:Ao) }:Ex)]).map Fp:=by simp[Fp,Am]
theorem Vm(xs:List Ex)(i:Nat)(a0:List Aq)(a:List Au)(b:ByteArray)(c:Int)(d:List Ac)(e:List (List Int)):(xs.map Fp).set i (D.agg [(D.list 2 (List.map Ae a0)),(D.list 7 (List.map Ak a)),(.str b),(.int .i64 c),(D.list 2 (List.map Ad d)),(D.list 1 (List.map (Am 1 (D.int .i64)) e))])=(xs.set i ({ Ai:=({ K:=a0,A:=a }:Aa),Q:=({ Ae:=b,Af:=c,H:=d,C:=e }:Ao) }:Ex)).map Fp:=by rw[tH];rfl
def Fq(x:A0):D:=.agg [(Am 2 Ae x.I.Ai.K),(Am 7 Ak x.I.Ai.A),(.str x.I.Q.Ae),(.int .i64 x.I.Q.Af),(Am 2 Ad x.I.Q.H),(Am 1 (Am 1 (D.int .i64)) x.I.Q.C),(Am 26 A8 x.Aw)]
theorem Ur(xs:List A0)(a0:List Aq)(a:List Au)(b:ByteArray)(c:Int)(d:List Ac)(e:List (List Int))(f:List AH):xs.map Fq++[D.agg [(D.list 2 (List.map Ae a0)),(D.list 7 (List.map Ak a)),(.str b),(.int .i64 c),(D.list 2 (List.map Ad d)),(D.list 1 (List.map (Am 1 (D.int .i64)) e)),(D.list 26 (List.map A8 f))]]=(xs++[({ I:=({ Ai:=({ K:=a0,A:=a }:Aa),Q:=({ Ae:=b,Af:=c,H:=d,C:=e }:Ao) }:Ex),Aw:=f }:A0)]).map Fq:=by simp[Fq,Am]
theorem Vn(xs:List A0)(i:Nat)(a0:List Aq)(a:List Au)(b:ByteArray)(c:Int)(d:List Ac)(e:List (List Int))(f:List AH):(xs.map Fq).set i (D.agg [(D.list 2 (List.map Ae a0)),(D.list 7 (List.map Ak a)),(.str b),(.int .i64 c),(D.list 2 (List.map Ad d)),(D.list 1 (List.map (Am 1 (D.int .i64)) e)),(D.list 26 (List.map A8 f))])=(xs.set i ({ I:=({ Ai:=({ K:=a0,A:=a }:Aa),Q:=({ Ae:=b,Af:=c,H:=d,C:=e }:Ao) }:Ex),Aw:=f }:A0)).map Fq:=by rw[tH];rfl
def BM(x:AY):D:=.agg [(.int .u64 x.E),(.int .u64 x.D)]
theorem Vp(xs:List AY)(a0:Int)(a:Int):xs.map BM++[D.agg [(.int .u64 a0),(.int .u64 a)]]=(xs++[({ E:=a0,D:=a }:AY)]).map BM:=by simp[BM,Am]
theorem VY(xs:List AY)(i:Nat)(a0:Int)(a:Int):(xs.map BM).set i (D.agg [(.int .u64 a0),(.int .u64 a)])=(xs.set i ({ E:=a0,D:=a }:AY)).map BM:=by rw[tH];rfl
def BR(x:AB):D:=.agg [(.str x.J),(.bool x.Bl),(.int .i64 x.Az.Op),(.int .i64 x.Az.L),(.str x.Az.J),(.int .i64 x.Az.B),(Am 1 (D.int .i64) x.Az.A),(Am 2 Ad x.Az.Y),(.int .i64 x.Az.X.Op),(.int .i64 x.Az.X.B),(.int .i64 x.Az.X.Z),(.int .i64 x.Az.X.D),(.int .i64 x.Az.X.E),(Am 6 Az x.Az.X.G),(.int .i64 x.Az.V.Op),(.int .i64 x.Az.V.B),(.int .i64 x.Az.V.Z),(.int .i64 x.Az.V.D),(.int .i64 x.Az.V.E),(Am 6 Az x.Az.V.G),(Am 19 BY x.Az.G)]
theorem Xp(xs:List AB)(a0:ByteArray)(l:Bool)(m:Int)(n:Int)(o:ByteArray)(p:Int)(q:List Int)(r:List Ac)(s:Int)(t:Int)(a:Int)(b:Int)(c:Int)(d:List Ah)(e:Int)(f:Int)(g:Int)(h:Int)(i:Int)(j:List Ah)(k:List Ar):xs.map BR++[D.agg [(.str a0),(.bool l),(.int .i64 m),(.int .i64 n),(.str o),(.int .i64 p),(D.list 1 (List.map (D.int .i64) q)),(D.list 2 (List.map Ad r)),(.int .i64 s),(.int .i64 t),(.int .i64 a),(.int .i64 b),(.int .i64 c),(D.list 6 (List.map Az d)),(.int .i64 e),(.int .i64 f),(.int .i64 g),(.int .i64 h),(.int .i64 i),(D.list 6 (List.map Az j)),(D.list 19 (List.map BY k))]]=(xs++[({ J:=a0,Bl:=l,Az:=({ Op:=m,L:=n,J:=o,B:=p,A:=q,Y:=r,X:=({ Op:=s,B:=t,Z:=a,D:=b,E:=c,G:=d }:Ah),V:=({ Op:=e,B:=f,Z:=g,D:=h,E:=i,G:=j }:Ah),G:=k }:Ar) }:AB)]).map BR:=by simp[BR,Am]
theorem YI(xs:List AB)(i:Nat)(a0:ByteArray)(m:Bool)(n:Int)(o:Int)(p:ByteArray)(q:Int)(r:List Int)(s:List Ac)(t:Int)(u:Int)(a:Int)(b:Int)(c:Int)(d:List Ah)(e:Int)(f:Int)(g:Int)(h:Int)(j:Int)(k:List Ah)(l:List Ar):(xs.map BR).set i (D.agg [(.str a0),(.bool m),(.int .i64 n),(.int .i64 o),(.str p),(.int .i64 q),(D.list 1 (List.map (D.int .i64) r)),(D.list 2 (List.map Ad s)),(.int .i64 t),(.int .i64 u),(.int .i64 a),(.int .i64 b),(.int .i64 c),(D.list 6 (List.map Az d)),(.int .i64 e),(.int .i64 f),(.int .i64 g),(.int .i64 h),(.int .i64 j),(D.list 6 (List.map Az k)),(D.list 19 (List.map BY l))])=(xs.set i ({ J:=a0,Bl:=m,Az:=({ Op:=n,L:=o,J:=p,B:=q,A:=r,Y:=s,X:=({ Op:=t,B:=u,Z:=a,D:=b,E:=c,G:=d }:Ah),V:=({ Op:=e,B:=f,Z:=g,D:=h,E:=j,G:=k }:Ah),G:=l }:Ar) }:AB)).map BR:=by rw[tH];rfl
def AG(p0:List Int):Option (List Int):=bif rm 0 p0.length then some p0 else none
def Vq(xs:List Int):List Int:=xs.mergeSort λx y=>decide (x<=y)
def Du(p0:List Int):Option (List Int):=bif rm 0 p0.length then some (Vq p0)else none
def Dl(p0:Int):Option ByteArray:=bif decide (0<=p0/\p0<100)then some ⟨(Go.Lib.decDigits p0.toNat).toArray⟩else none
def DK(p0:List Int)(p1:Int->Option Bool):Option (List Int):=bif(rm 0 p0.length&&p0.all λx=>(p1 x).isSome)then some (p0.filter λx=>p1 x==some false)else none
open Go
end Go.Proofs.YtkjijhldfdplgaaGreatDoor.P
namespace Go.Proofs.YtkjijhldfdplgaaGreatDoor.P.F
def Hi(z:Int):Int:=z/18446744073709551616%18446744073709551616
def Lo(z:Int):Int:=z%18446744073709551616
def B127:Int:=170141183460469231731687303715884105728
def nn(num den:Int):Int:=if den<0 then -num else num
def okR(n:Int)(d:Nat):Bool:=decide (((n.natAbs/Nat.gcd d n.natAbs:Nat):Int)<=1152921504606846976)&&decide (((d/Nat.gcd d n.natAbs:Nat):Int)<=1152921504606846976)
def redF(n:Int)(d:Nat):Int×Int:=bif okR n d then(((n.natAbs/Nat.gcd d n.natAbs:Nat):Int)*n.sign,((d/Nat.gcd d n.natAbs:Nat):Int))else(0,0)
def redE(n:Int)(d:Nat):Int:=bif okR n d then 0 else 14
def FB(xs:List Int):List Int:=xs.mergeSort λx y=>decide (x<=y)
def setI(xs:List Int):List Int:=Go.Lib.compact (FB xs)
def insU(x:Int):List Int->List Int
 | []=>[x]
 | y :: r=>bif decide (x<y)then x :: y :: r else bif x==y then y :: r else y :: insU x r
def setU(xs:List Int):List Int:=xs.foldr insU []
theorem setI_len(xs:List Int):(setI xs).length<=xs.length:=by
 unfold setI Go.Lib.compact Go.Lib.compactUpTo;rw[sX];exact tw (ug _ _) (by simp[FB,vm])
structure St where
 time:Int
 risk:Int
 ev:Int
 lf:Int
 fr:Int×Int
abbrev PS:=List (Int×Bool)
def QV(t:Int)(ps:PS):Int:=((ps.filter λp=>p.1==t&&p.2).length:Nat)
def YY(t:Int)(ps:PS):Int:=((ps.filter λp=>p.1==t&&!p.2).length:Nat)
def stepGo(ps:PS):List Int->Int->Int×Int->List St->List St×Int
 | [],_,_,acc=>(acc,0)
 | t :: r,left,s,acc =>
   bif okR (s.1*(redF (left-QV t ps) left.toNat).1) (s.2*(redF (left-QV t ps) left.toNat).2).toNat then
    stepGo ps r (left-(QV t ps+YY t ps)) (redF (s.1*(redF (left-QV t ps) left.toNat).1) (s.2*(redF (left-QV t ps) left.toNat).2).toNat)
     (acc++[⟨t,left,QV t ps,YY t ps,redF (s.1*(redF (left-QV t ps) left.toNat).1) (s.2*(redF (left-QV t ps) left.toNat).2).toNat⟩])
   else([],14)
def tm(ps:PS):List Int:=ps.map λp=>p.1
def es(ps:PS):List Bool:=ps.map λp=>p.2
def stepsF(ps:PS):List St×Int:=stepGo ps (setI (tm ps)) ps.length (1,1) []
def lrgT(v:Int):Bool:=bif decide (v<0)then true else decide (v>1000000)
theorem stepGo_len(b:PS):∀(l:List Int)(left:Int)(s:Int×Int)(a:List St),(stepGo b l left s a).1.length<=l.length+a.length
 | [],_,_,a=>by simp[stepGo]
 | t :: r,left,s,a=>by
   unfold stepGo;generalize redF (left-QV t b) left.toNat=q
   cases okR (s.1*q.1) (s.2*q.2).toNat with
   | true =>
     have:=stepGo_len b r (left-(QV t b+YY t b)) (redF (s.1*q.1) (s.2*q.2).toNat) (a++[⟨t,left,QV t b,YY t b,redF (s.1*q.1) (s.2*q.2).toNat⟩]);simp only[tF,tS,uP]at this ⊢;exact tw this (by omega)
   | false=>exact sZ _
end Go.Proofs.YtkjijhldfdplgaaGreatDoor.P.F
namespace Go.Proofs.YtkjijhldfdplgaaGreatDoor.P
def nS(s:F.St):Bd:={ By:=s.time,Bz:=s.risk,B0:=s.ev,B1:=s.lf,Bu:={ L:=s.fr.1,N:=s.fr.2 } }
def Ov(ts:List Int)(evs:List Bool):List F.St×Int:=bif decide (ts.length=evs.length)then(bif decide (ts.length<=200)then(bif ts.any F.lrgT then([],2)else F.stepsF (ts.zip evs))else([],1))else([],17)
def cd(ts:List Int)(evs:List Bool):List Bd×Int:=((Ov ts evs).1.map nS,(Ov ts evs).2)
def Pk(p0:List Int)(p1:List Bool):Option (List Bd×Int):=bif decide (p0.length<=100000)then some (cd p0 p1)else none
theorem gX(ts:List Int)(a:List Bool):(Ov ts a).1.length<=200:=by
 unfold Ov;by_cases b:ts.length=a.length
 ·rw[ti b,tJ];by_cases c:ts.length<=200
  ·rw[ti c,tJ]
   cases ts.any F.lrgT with
   | true=>exact sZ _
   | false =>
     have:=F.stepGo_len (ts.zip a) (F.setI (F.tm (ts.zip a))) (ts.zip a).length (1,1) [];have d:=F.setI_len (F.tm (ts.zip a));have e:(F.tm (ts.zip a)).length=min ts.length a.length:=by simp[F.tm]
     show(F.stepGo _ _ _ _ _).1.length<=200;simp only[uP]at this;omega
  ·rw[tD c];exact sZ _
 ·rw[tD b];exact sZ _
theorem YN(ts:List Int)(a:List Bool):(cd ts a).1.length<=200:=by
 show((Ov ts a).1.map nS).length<=200;rw[sX];exact gX ts a
def Vt(p:AO):Bool:=decide ((1<=p.N/\p.N<=1152921504606846976)/\(-1152921504606846976<=p.L/\p.L<=1152921504606846976)/\Nat.gcd p.L.natAbs p.N.natAbs=1)
def Xl(n:Int)(d:Nat):AO×Int:=({ L:=(F.redF n d).1,N:=(F.redF n d).2 },F.redE n d)
def gr(n:Int):Bool:=decide (-9223372036854775808<=n/\n<=9223372036854775807)
def Gj(p0:Int)(p1:Int):Option (AO×Int) :=
 bif gr p0&&gr p1 then(bif p1==0 then some ({ L:=0,N:=0 },18)else some (Xl (F.nn p0 p1) p1.natAbs))else none
def MO(p0:AO)(p1:AO):Option (AO×Int):=bif Vt p0&&Vt p1 then some (Xl (p0.L*p1.N-p1.L*p0.N) (p0.N*p1.N).toNat)else none
def MN(p0:AO)(p1:AO):Option (AO×Int):=bif Vt p0&&Vt p1 then some (Xl (p0.L*p1.L) (p0.N*p1.N).toNat)else none
def ML(p0:AO)(p1:AO):Option (AO×Int):=bif Vt p0&&Vt p1 then some (Xl (p0.L*p1.N+p1.L*p0.N) (p0.N*p1.N).toNat)else none
def MM(p0:AO)(p1:AO):Option (AO×Int) :=
 bif Vt p0&&Vt p1 then(bif p1.L==0 then some ({ L:=0,N:=0 },18)else some (Xl (F.nn (p0.L*p1.N) (p1.L*p0.N)) (p1.L*p0.N).natAbs))else none
def D4(p0:List Int)(p1:List Int):Option (List Int):=bif decide (p0.length<=100000/\p1.length<=100000)then some (F.setU (p0++p1))else none
open Go Go.Abs Go.Proofs
def Q6(m:List (List Int))(r c:Nat):Int:=(m.getD r []).getD c 0
structure X2(w:World)(v:Value)(m:List (List Int))(ga:Option Addr)(gb go Gc:Nat)(A:Nat->Option Addr)(C RB RO:Nat->Nat):Prop where
 val:v=.slice ga m.length Gc
 ga:0<m.length->ga=some ⟨gb,go,none⟩
 row:∀r,r<m.length->w.cell? ⟨gb,go+r,none⟩=some (.slice (A r) ((m.getD r []).length) (C r))
 cell:∀r,r<m.length->∀c,c<(m.getD r []).length->A r=some ⟨RB r,RO r,none⟩/\w.cell? ⟨RB r,RO r+c,none⟩=some (.int .i64 (Q6 m r c))
theorem H8{O:Nat->Prop}{w:World}{v:Value}{l:List Int}(h:Ax O w v (D.list 1 (l.map (D.int .i64)))) :
 ∃a cap b o,v=.slice a l.length cap/\∀c,c<l.length->a=some ⟨b,o,none⟩/\¬O b/\b<w.heap.size/\w.cell? ⟨b,o+c,none⟩=some (.int .i64 (l.getD c 0)):=by
 generalize hx:D.list 1 (l.map (D.int .i64))=x at h
 cases h<;>simp only[D.list.injEq,reduceCtorEq]at hx
 case emp a cap sz =>
  have:l=[]:=List.map_eq_nil_iff.1 hx.2;subst this;exact⟨a,cap,0,0,rfl,λc e=>absurd e (vN _)⟩
 case list b off cap sz xs c hne hb hO hcap hsz h1 hcell h =>
  obtain⟨rfl,rfl⟩:=hx;refine⟨some ⟨b,off,none⟩,cap,b,off,by rw[sX],λk hk=>⟨rfl,hO,hb,?_⟩⟩;have d:(l.map (D.int .i64))[k]?=some (D.int .i64 l[k]):=by simp[hk]
  have:=hcell k (D.int .i64 l[k]) 0 (D.int .i64 l[k]) d rfl;have r:=h k (D.int .i64 l[k]) 0 (D.int .i64 l[k]) d rfl;rw[u4,ui]at this;rw[this];generalize c k 0=q at r
  cases r
  simp[List.getD,hk]
theorem SF{O:Nat->Prop}{w:World}{v:Value}{m:List (List Int)}(h:Ax O w v (D.list 1 (m.map (Am 1 (D.int .i64))))) :
 ∃l gb go Gc A C RB RO,X2 w v m l gb go Gc A C RB RO/\(0<m.length->¬O gb/\gb<w.heap.size)/\∀r,r<m.length->∀c,c<(m.getD r []).length->¬O (RB r)/\RB r<w.heap.size:=by
 generalize hx:D.list 1 (m.map (Am 1 (D.int .i64)))=x at h
 cases h<;>simp only[D.list.injEq,reduceCtorEq]at hx
 case emp a cap sz =>
  have:m=[]:=List.map_eq_nil_iff.1 hx.2;subst this;exact⟨a,0,0,cap,λ_=>none,λ_=>0,λ_=>0,λ_=>0,⟨rfl,λh=>absurd h (Nat.lt_irrefl _),λr h=>absurd h (vN _),λr h=>absurd h (vN _)⟩,λh=>absurd h (Nat.lt_irrefl _),λr h=>absurd h (vN _)⟩
 case list b off cap sz xs c hne hb hO hcap hsz i hcell h =>
  obtain⟨rfl,rfl⟩:=hx
  have hr:∀r,∃q:Option Addr×Nat×Nat×Nat,r<m.length->w.cell? ⟨b,off+r,none⟩=some (.slice q.1 ((m.getD r []).length) q.2.1) /\
   ∀k,k<(m.getD r []).length->q.1=some ⟨q.2.2.1,q.2.2.2,none⟩/\¬O q.2.2.1/\q.2.2.1<w.heap.size/\w.cell? ⟨q.2.2.1,q.2.2.2+k,none⟩=some (.int .i64 (Q6 m r k)):=by
   intro r;by_cases d:r<m.length
   ·have j:(m.map (Am 1 (D.int .i64)))[r]?=some ((Am 1 (D.int .i64)) m[r]):=by simp[d]
    have g:m.getD r []=m[r]:=by simp[List.getD,d]
    have e:=hcell r ((Am 1 (D.int .i64)) m[r]) 0 ((Am 1 (D.int .i64)) m[r]) j rfl;have hd:=h r ((Am 1 (D.int .i64)) m[r]) 0 ((Am 1 (D.int .i64)) m[r]) j rfl;obtain⟨a,cp,n,o',o,hk⟩:=H8 hd;refine⟨(a,cp,n,o'),λ_=>⟨?_,?_⟩⟩
    ·rw[u4,ui]at e;rw[e,o,g]
    ·intro k f;rw[g]at f;obtain⟨p,s,t,u⟩:=hk k f;refine⟨p,s,t,?_⟩;rw[u];unfold Q6;rw[g]
   ·exact⟨(none,0,0,0),λh=>absurd h d⟩
  obtain⟨q,hq⟩:=Classical.axiomOfChoice hr;refine⟨some ⟨b,off,none⟩,b,off,cap,λr=>(q r).1,λr=>(q r).2.1,λr=>(q r).2.2.1,λr=>(q r).2.2.2,⟨by rw[sX],λ_=>rfl,λr hr=>(hq r hr).1,λr hr c e=>?_⟩,λ_=>⟨hO,hb⟩,λr hr c e=>?_⟩
  ·obtain⟨i,_,_,y⟩:=(hq r hr).2 c e;exact⟨i,y⟩
  ·obtain⟨_,z,B,_⟩:=(hq r hr).2 c e;exact⟨z,B⟩
theorem cu(z:Value)(k i:Nat)(h:i<k):(Builtin.zeroCells #[z] k)[i]?=some z:=by
 simp[Builtin.zeroCells,h,Nat.mod_one]
structure Mx(w wr:World)(tO tI:TypeId)(n:Nat)(cp:Nat->Nat)(S:Nat->Nat->Int):Prop where
 since:w.Since w.heap.size wr
 size:wr.heap.size=w.heap.size+1+n
 cap:∀j,j<n->n<=cp j
 top:wr.rowIs w.heap.size tO n (λj=>.slice (some ⟨w.heap.size+1+j,0,none⟩) n (cp j))
 row:∀j,j<n->wr.rowIs (w.heap.size+1+j) tI (cp j) (λc=>.int .i64 (S j c))
structure MG(w wr:World)(tO tI:TypeId)(n:Nat)(cp:Nat->Nat)(S:Nat->Nat->Int)(r:Nat):Prop where
 since:w.Since w.heap.size wr
 size:wr.heap.size=w.heap.size+1+r
 cap:∀j,j<r->n<=cp j
 top:wr.rowIs w.heap.size tO n (λj=>if j<r then .slice (some ⟨w.heap.size+1+j,0,none⟩) n (cp j)else .slice none 0 0)
 row:∀j,j<r->wr.rowIs (w.heap.size+1+j) tI (cp j) (λc=>.int .i64 (S j c))
section
variable {w wr:World} {tO tI:TypeId} {n r:Nat} {cp:Nat->Nat} {S S':Nat->Nat->Int}
theorem MG.start(w:World)(tO tI:TypeId)(n:Nat)(cp:Nat->Nat)(S:Nat->Nat->Int):MG w (w.alloc (.cells (madeCells #[.slice none 0 0] n) tO)) tO tI n cp S 0 :=
 ⟨(World.Since.refl _ _).alloc (td _) _,by simp,λj a=>absurd a (vN _),(World.rowIs_made w _ n tO).congr (λj _=>by simp),λj a=>absurd a (vN _)⟩
theorem MG.step(h:MG w wr tO tI n cp S r){u:World}{c:Nat}(l:n<=c)(a:wr.Since wr.heap.size u)(f:u.heap.size=wr.heap.size+1)(g:u.rowIs wr.heap.size tI c (λc=>.int .i64 (S r c))) :
 MG w (u.setCell ⟨w.heap.size,r,none⟩ (.slice (some ⟨w.heap.size+1+r,0,none⟩) n c)) tO tI n (λj=>if j=r then c else cp j) S (r+1):=by
 have d:w.Since w.heap.size u:=h.since.trans ⟨a.os,a.tape,a.output,a.size,λk hk=>a.block k (by rw[h.size];omega)⟩;have i:∀k,k<w.heap.size+1+r->u.heap[k]?=wr.heap[k]?:=λk hk=>a.block k (by rw[h.size];exact hk);rw[h.size]at f g;refine⟨d.setCell (td _) _,by simp[f];omega,λj m=>?_,((h.top.of_block (i _ (by omega))).set r _).congr (λj _=>?_),λj m=>?_⟩
 ·by_cases e:j=r
  ·simp only[e];simpa using l
  ·simp only[e,if_false];exact h.cap j (by omega)
 ·by_cases e:j=r
  ·subst e;simp
  ·by_cases b:j<r
   ·rw[tn e,tf b,tf (by omega),tn e]
   ·rw[tn e,tn b,tn (by omega)]
 ·by_cases e:j=r
  ·subst e;simp only[if_true];exact g.setOther (by show w.heap.size+1+j≠w.heap.size;omega) _
  ·simp only[e,if_false];exact((h.row j (by omega)).of_block (i _ (by omega))).setOther (by show w.heap.size+1+j≠w.heap.size;omega) _
theorem MG.cp_congr(h:MG w wr tO tI n cp S r){b:Nat->Nat}(e:∀j,j<r->b j=cp j):MG w wr tO tI n b S r :=
 ⟨h.since,h.size,λj a=>by rw[e j a];exact h.cap j a,h.top.congr λj _=>by
  by_cases a:j<r
  ·rw[tf a,tf a,e j a]
  ·rw[tn a,tn a],λj a=>by rw[e j a];exact h.row j a⟩
theorem MG.done(h:MG w wr tO tI n cp S n):Mx w wr tO tI n cp S:=⟨h.since,h.size,h.cap,h.top.congr λj a=>by rw[tf a],h.row⟩
theorem MG.congr(h:MG w wr tO tI n cp S r)(e:∀i j,i<r->S i j=S' i j):MG w wr tO tI n cp S' r:=⟨h.since,h.size,h.cap,h.top,λj a=>(h.row j a).congr λc _=>by rw[e j c a]⟩
theorem MG.drew(h:MG w wr tO tI n cp S r):MG w wr.drew tO tI n cp S r:=⟨h.since.drew,h.size,h.cap,h.top,h.row⟩
theorem MG.set(h:MG w wr tO tI n cp S r){i j:Nat}(v:Int)(e:∀a b,a<r->b<cp a->S' a b=if a=i/\b=j then v else S a b):MG w (wr.setCell ⟨w.heap.size+1+i,j,none⟩ (.int .i64 v)) tO tI n cp S' r:=by
 refine⟨h.since.setCell (by show w.heap.size<=w.heap.size+1+i;omega) _,by simp[h.size],h.cap,h.top.setOther (by show w.heap.size≠w.heap.size+1+i;omega) _,λa c=>?_⟩;by_cases g:a=i
 ·subst g;refine((h.row a c).set j _).congr λb d=>?_;rw[e a b c d];by_cases f:b=j
  ·simp[f]
  ·simp[f]
 ·refine((h.row a c).setOther (by show w.heap.size+1+a≠w.heap.size+1+i;omega) _).congr λb d=>?_;rw[e a b c d,tn (by omega)]
theorem Mx.congr(h:Mx w wr tO tI n cp S)(e:∀i j,i<n->j<cp i->S i j=S' i j):Mx w wr tO tI n cp S':=⟨h.since,h.size,h.cap,h.top,λj a=>(h.row j a).congr λc b=>by rw[e j c a b]⟩
theorem Mx.set(h:Mx w wr tO tI n cp S){i j:Nat}(v:Int)(e:∀a b,a<n->b<cp a->S' a b=if a=i/\b=j then v else S a b):Mx w (wr.setCell ⟨w.heap.size+1+i,j,none⟩ (.int .i64 v)) tO tI n cp S':=by
 refine⟨h.since.setCell (by show w.heap.size<=w.heap.size+1+i;omega) _,by simp[h.size],h.cap,h.top.setOther (by show w.heap.size≠w.heap.size+1+i;omega) _,λa c=>?_⟩;by_cases g:a=i
 ·subst g;refine((h.row a c).set j _).congr λb d=>?_;rw[e a b c d];by_cases f:b=j
  ·simp[f]
  ·simp[f]
 ·refine((h.row a c).setOther (by show w.heap.size+1+a≠w.heap.size+1+i;omega) _).congr λb d=>?_;rw[e a b c d,tn (by omega)]
theorem Mx.data(h:Mx w wr tO tI n cp S){O:Nat->Prop}(m:∀b,O b->b<w.heap.size)(p:0<n):Ax O wr (.slice (some ⟨w.heap.size,0,none⟩) n n) (D.list 1 (((List.range n).map λi=>(List.range n).map λj=>S i j).map (Am 1 (D.int .i64)))):=by
 obtain⟨M,g⟩:∃M:List (List Int),M=(List.range n).map λi=>(List.range n).map λj=>S i j:=⟨_,rfl⟩;rw[<-g];have k:n=(M.map (Am 1 (D.int .i64))).length:=by rw[g];simp
 have o:∀i x,(M.map (Am 1 (D.int .i64)))[i]?=some x->i<n/\x=Am 1 (D.int .i64) ((List.range n).map λj=>S i j):=by
  intro i x hx;rw[g,vS,tr]at hx;by_cases c:i<n
  ·rw[vD c]at hx;exact⟨c,(sY hx).symm⟩
  ·rw[tB (by simpa using c)]at hx
   cases hx
 have:=Ax.list (O:=O) (w:=wr) w.heap.size 0 n 1 (M.map (Am 1 (D.int .i64))) (λi _=>.slice (some ⟨w.heap.size+1+i,0,none⟩) n (cp i)) (by intro e;rw[e]at k;simp at k;omega) (by rw[h.size];omega) (λl=>by have:=m _ l;omega) (by omega)
  (λx hx=>by obtain⟨r,_,rfl⟩:=List.mem_map.1 hx;rfl) (λx hx y hy=>by obtain⟨r,_,rfl⟩:=List.mem_map.1 hx;simp[D.cells]at hy;subst hy;rfl)
  (λi x j y hx hy=>by
   obtain⟨c,rfl⟩:=o i x hx
   match j,hy with
   | 0,_=>rw[u4,ui,tE];exact h.top.cell c
   | j+1,hy=>simp[D.cells]at hy)
  (λi x j y hx hy=>by
   obtain⟨c,rfl⟩:=o i x hx
   match j,hy with
   | j+1,hy=>simp[D.cells]at hy
   | 0,hy =>
     simp[D.cells]at hy;subst hy;have d:n=(((List.range n).map λj=>S i j).map (D.int .i64)).length:=by simp
     have:=Ax.list (O:=O) (w:=wr) (w.heap.size+1+i) 0 (cp i) 1 (((List.range n).map λj=>S i j).map (D.int .i64)) (λj _=>.int .i64 (S i j)) (by intro e;rw[e]at d;simp at d;omega) (by rw[h.size];omega) (λl=>by have:=m _ l;omega) (by rw[<-d];exact h.cap i c)
      (λx hx=>by obtain⟨r,_,rfl⟩:=List.mem_map.1 hx;rfl) (λx hx y hy=>by obtain⟨r,_,rfl⟩:=List.mem_map.1 hx;simp[D.cells]at hy;subst hy;rfl)
      (λa x b y hx hy=>by
       rw[vS,tr]at hx;by_cases f:a<n
       ·rw[vD f]at hx;obtain rfl:=sY hx
        match b,hy with
        | 0,_=>rw[u4,ui,tE];exact(h.row i c).cell (tt f (h.cap i c))
        | b+1,hy=>simp[D.cells]at hy
       ·rw[tB (by simpa using f)]at hx
        cases hx)
      (λa x b y hx hy=>by
       rw[vS,tr]at hx;by_cases f:a<n
       ·rw[vD f]at hx;obtain rfl:=sY hx
        match b,hy with
        | 0,hy=>simp[D.cells]at hy;subst hy;exact .int _ _
        | b+1,hy=>simp[D.cells]at hy
       ·rw[tB (by simpa using f)]at hx
        cases hx)
     rw[<-d]at this;exact this)
 rw[<-k]at this;exact this
end
def My:List (List Int)->List Bool->Int->Int
 | [],_,p=>p
 | r :: rs,tk,p=>go rs tk r 0 p 0
where
 go (rs:List (List Int)) (tk:List Bool):List Int->Nat->Int->Int->Int
  | [],_,_,s=>s
  | x :: xs,k,p,s=>bif tk.getD k true then go rs tk xs (k+1) p s
      else go rs tk xs (k+1) (-p) (bif x==0 then s else s+My rs (tk.set k true) (p*x))
def XN(m:List (List Int)):Int:=My m (m.map λ_=>false) 1
def bR:List Int->Nat
 | []=>0
 | x :: xs=>x.natAbs+bR xs
def Y3:List (List Int)->Nat
 | []=>1
 | r :: rs=>bR r*Y3 rs
theorem mt(B:Nat)(rs:List (List Int))(ih:∀a p,(My rs a p).natAbs<=p.natAbs*B)(a:List Bool) :
 ∀(xs:List Int)(k:Nat)(p s:Int),(My.go rs a xs k p s).natAbs<=s.natAbs+p.natAbs*(bR xs*B)
 | [],k,p,s=>by simp[My.go]
 | x :: xs,k,p,s=>by
   have e:(x.natAbs+bR xs)*B=x.natAbs*B+bR xs*B:=uo _ _ _;simp only[My.go,bR,e,Nat.mul_add]
   cases a.getD k true with
   | true=>simp only[tJ];have:=mt B rs ih a xs (k+1) p s;omega
   | false =>
     simp only[tC];have h:=mt B rs ih a xs (k+1) (-p) (bif x==0 then s else s+My rs (a.set k true) (p*x));rw[Int.natAbs_neg]at h;have b:=ih (a.set k true) (p*x);rw[Int.natAbs_mul,uw]at b
     cases hx:(x==0)with
     | true=>rw[hx]at h;simp only[tJ]at h ⊢;omega
     | false =>
       rw[hx]at h;simp only[tC]at h ⊢;have:=Int.natAbs_add_le s (My rs (a.set k true) (p*x));omega
theorem ju:∀(rs:List (List Int))(a:List Bool)(p:Int),(My rs a p).natAbs<=p.natAbs*Y3 rs
 | [],a,p=>by simp[My,Y3]
 | r :: rs,a,p=>by
   have:=mt (Y3 rs) rs (ju rs) a r 0 p 0
   simpa [My,Y3] using this
theorem oH(m:List (List Int)):(XN m).natAbs<=Y3 m:=by
 have:=ju m (m.map λ_=>false) 1
 simpa [XN] using this
def SR(m:List (List Int)):Nat->Nat->Nat->Int
 | 0,_,_=>0
 | k+1,a,b=>Go.IntKind.i64.wrap (SR m k a b+Go.IntKind.i64.wrap (Q6 m k a*Q6 m k b))
def TA(m:List (List Int))(col:Nat)(b:List Int)(i c:Nat):Int:=if c=col then b.getD i 0 else Q6 m i c
def kx(n:Nat)(S:Nat->Nat->Int):List (List Int):=(List.range n).map λi=>(List.range n).map λj=>S i j
def lenM(m:List (List Int))(n:Nat):Bool:=m.all λr=>r.length==n
def KU(p0:List (List Int)):Option (List (List Int)) :=
 bif decide (0<p0.length/\p0.length<=1000000/\0<(p0.getD 0 []).length/\(p0.getD 0 []).length<=1000000)&&lenM p0 (p0.getD 0 []).length then some (kx (p0.getD 0 []).length (SR p0 p0.length))else none
def H6(p0:List (List Int))(p1:Int)(p2:List Int):Option (List (List Int)) :=
 bif decide (0<=p1/\p1<p0.length/\p0.length<=1000000/\p0.length<=p2.length)&&lenM p0 p0.length then some (kx p0.length (TA p0 p1.toNat p2))else none
def m8(n:Int):Bool:=decide (-9223372036854775808<=n/\n<=9223372036854775807)
def o6(z:Int):AY:={ E:=F.Hi z,D:=F.Lo z }
def Pn(n:Int):Bool:=decide (0<=n/\n<18446744073709551616)
def Q5(w:AY):Int:=bif decide (w.E*18446744073709551616+w.D<F.B127)then w.E*18446744073709551616+w.D else w.E*18446744073709551616+w.D-2*F.B127
def Dq(p0:List (List Int)):Option AY :=
 bif decide (0<p0.length/\p0.length<=1000)&&(lenM p0 p0.length&&p0.all λr=>r.all m8)then some (o6 (XN p0))else none
def Rn(p0:Int):Option AY:=bif m8 p0 then some (o6 p0)else none
def F0(p0:AY):Option Int:=bif Pn p0.E&&Pn p0.D then some (Q5 p0).sign else none
def GL(p0:AY)(p1:AY):Option (AO×Int) :=
 bif(Pn p0.E&&Pn p0.D)&&((Pn p1.E&&Pn p1.D)&&(decide (Q5 p1≠0/\-F.B127<Q5 p0/\-F.B127<Q5 p1)))then some ({ L:=(F.redF (F.nn (Q5 p0) (Q5 p1)) (Q5 p1).natAbs).1,N:=(F.redF (F.nn (Q5 p0) (Q5 p1)) (Q5 p1).natAbs).2 },F.redE (F.nn (Q5 p0) (Q5 p1)) (Q5 p1).natAbs)else none
def H7(p0:Int)(p1:Int):Option (Int×Int):=bif Pn p0&&Pn p1 then some (p0*p1/18446744073709551616,p0*p1%18446744073709551616)else none
def J0(p0:Int)(p1:Int)(p2:Int):Option (Int×Int):=bif(Pn p0&&Pn p1)&&(p2==0||p2==1)then some ((p0+p1+p2)%18446744073709551616,(p0+p1+p2)/18446744073709551616)else none
abbrev Tg(a:ByteArray):Option Bool :=
 bif a.toList==({ data:=#[97,108,108] }:ByteArray).toList then
  some false
 else
  bif a.toList==({ data:=#[97,110,100] }:ByteArray).toList then
   some false
  else
   bif a.toList==({ data:=#[101,118,101,110,116] }:ByteArray).toList then
    some false
   else
    bif a.toList==({ data:=#[102,114,111,109] }:ByteArray).toList then
     some false
    else
     bif a.toList==({ data:=#[109,105,115,115,105,110,103] }:ByteArray).toList then
      some false
     else
      bif a.toList==({ data:=#[110,111,116] }:ByteArray).toList then
       some false
      else
       bif a.toList==({ data:=#[111,110] }:ByteArray).toList then
        some false
       else
        bif a.toList==({ data:=#[111,114] }:ByteArray).toList then
         some false
        else
         bif a.toList==({ data:=#[116,111] }:ByteArray).toList then
          some false
         else
          bif a.toList==({ data:=#[117,110,100,101,114] }:ByteArray).toList then
           some false
          else
           bif a.toList==({ data:=#[119,104,101,114,101] }:ByteArray).toList then
            some false
           else
            some true
abbrev Tf(c:ByteArray)(e:Int->Option Bool)(f:Int->Option Bool)(b:Int):Option Bool :=
 bif decide (b<((O1 c).length:Int))then
  (idx (O1 c) b).bind λa =>
  bif bif bif bif decide (a<97)then true else(decide (a>122))then(bif decide (a<48)then true else(decide (a>57)))else false then(a != 95)else false then
   some false
  else
   f (i64.wrap (b+1))
 else
  e b
def OU(a:ByteArray):Option Bool :=
 iter (λb s=>Tf a (λc=>Tg a) b s) AC 0
def Cz(a:ByteArray):Option Bool :=
 bif bif decide ((a.size:Int)<1)then true else(decide ((a.size:Int)>16))then
  some false
 else
  bif decide (0<=(0:Int)/\(0:Int).toNat<a.size)then
   bif decide ((Gy a 0)<97)then
    some false
   else
    bif decide (0<=(0:Int)/\(0:Int).toNat<a.size)then
     bif decide ((Gy a 0)>122)then
      some false
     else
      OU a
    else none
  else none
abbrev Q9(c:Aq)(f:Int->(List Int)->Option (List Int))(e:(Int×(List Int))->Option (List Int))(a:Int)(b:List Int):Option (List Int) :=
 bif decide (a<(c.U.length:Int))then
  (idx c.U a).bind λg =>
  bif decide (a>0)then
   (idx b g.A7).bind λh =>
   (idx b a).bind λi =>
   e ((i64.wrap (a+1)),(b.set (a:Int).toNat (i64.wrap (h+1))))
  else
   e ((i64.wrap (a+1)),b)
 else
  f a b
def Hh(a:Aq):Option (List Int) :=
 bif decide (0<=(a.U.length:Int))&&rm ((a.U.length:Int):Int).toNat 0 then
  iter (λb s=>Q9 a (λe c=>some c) b s.1 s.2) AC (0,(List.replicate ((a.U.length:Int):Int).toNat 0))
 else none
abbrev Ri(c:List Int)(g:List Bool)(h:Int->Int->Option Int)(e:(Int×Int)->Option Int)(b:Int)(a:Int):Option Int :=
 bif decide (a<(c.length:Int))then
  (idx c a).bind λf =>
  (idx g a).bind λi =>
  bif i then
   e (b,(i64.wrap (a+1)))
  else
   bif bif decide (b>=0)then(f != b)else false then
    some 5
   else
    e (f,(i64.wrap (a+1)))
 else
  h b a
abbrev Rj(a:Aq)(b:List Bool):Option Int :=
 (Hh a).bind λc =>
 iter (λe s=>Ri c b (λf g=>some 0) e s.1 s.2) AC ((-1),0)
def Rh(f:Aq)(h:Int->(List (ByteArray×Bool))->(List Bool)->Option Int)(g:(Int×(List (ByteArray×Bool))×(List Bool))->Option Int)(a:Int)(c:List (ByteArray×Bool))(e:List Bool):Option Int :=
 bif decide (a<(f.U.length:Int))then
  (idx f.U a).bind λb =>
  (Cz b.J).bind λi =>
  bif !i then
   some 3
  else
   bif(bm b.J c).getD false then
    some 10
   else
    bif bif bif a==0 then(b.A7 != (-1))else false then true else(bif decide (a>0)then(bif decide (b.A7<0)then true else(decide (b.A7>=a)))else false)then
     some 6
    else
     bif decide (a>0)then
      (idx e b.A7).bind λj =>
      g ((i64.wrap (a+1)),(oh b.J true c),(e.set (b.A7:Int).toNat true))
     else
      g ((i64.wrap (a+1)),(oh b.J true c),e)
 else
  h a c e
def GY(a:Aq):Option Int :=
 (Cz a.J).bind λb =>
 bif !b then
  some 3
 else
  bif(a.U.length:Int)==0 then
   some 5
  else
   bif decide ((a.U.length:Int)>60)then
    some 1
   else
    bif decide (0<=(a.U.length:Int))&&rm ((a.U.length:Int):Int).toNat 0 then
     iter (λc s=>Rh a (λf g e=>Rj a e) c s.1 s.2.1 s.2.2) AC (0,[],(List.replicate ((a.U.length:Int):Int).toNat false))
    else none
abbrev Dg(b:List Aq)(c:Aq->Option Bool)(e:Int->Option Int)(f:Int->Option Int)(a:Int):Option Int :=
 bif decide (a<(b.length:Int))then
  (idx b a).bind λg =>
  (c g).bind λh =>
  bif h then
   some a
  else
   f (i64.wrap (a+1))
 else
  e a
def B8(a:List Aq)(b:Aq->Option Bool):Option Int :=
 iter (λc s=>Dg a b (λe=>some (-1)) c s) AC 0
def Bf(a:List Aq)(b:Aq->Option Bool):Option Bool :=
 (B8 a b).bind λc =>
 some (decide (c>=0))
def M4(a:Aq)(b:Aq):Option Bool :=
 some (a.J.toList==b.J.toList)
abbrev DL(b:List Au)(c:Au->Option Bool)(e:Int->Option Int)(f:Int->Option Int)(a:Int):Option Int :=
 bif decide (a<(b.length:Int))then
  (idx b a).bind λg =>
  (c g).bind λh =>
  bif h then
   some a
  else
   f (i64.wrap (a+1))
 else
  e a
def BJ(a:List Au)(b:Au->Option Bool):Option Int :=
 iter (λc s=>DL a b (λe=>some (-1)) c s) AC 0
def Bq(a:List Au)(b:Au->Option Bool):Option Bool :=
 (BJ a b).bind λc =>
 some (decide (c>=0))
def Im(a:Au)(b:Au):Option Bool :=
 some (a.J.toList==b.J.toList)
abbrev Hu(e:Au)(g:Int->Int->Option Int)(f:(Int×Int)->Option Int)(c:Int)(a:Int):Option Int :=
 bif decide (a<(e.S.length:Int))then
  (idx e.S a).bind λb =>
  bif bif a==0 then(b != 1)else false then
   some 2
  else
   bif decide (a>0)then
    bif decide (b<=c)then
     some 2
    else
     bif decide (c≠0)then
      bif bif(Int.tmod b c) != 0 then true else(decide (b>1000000))then
       some 2
      else
       f (b,(i64.wrap (a+1)))
     else none
   else
    f (b,(i64.wrap (a+1)))
 else
  g c a
def EP(a:Au):Option Int :=
 bif bif bif decide (a.D<(-1000000))then true else(decide (a.E>1000000))then true else(decide (a.D>a.E))then
  some 2
 else
  bif bif(a.S.length:Int)==0 then true else(decide ((a.S.length:Int)>4))then
   some 1
  else
   iter (λb s=>Hu a (λc e=>some 0) b s.1 s.2) AC (1,0)
def Fi(a:Au):Option Bool :=
 bif bif a.Kind != 2 then(a.Am != 0)else false then
  some false
 else
  some (bif a.Kind==3 then true else(bif bif bif a.D==0 then(a.E==0)else false then((a.S.length:Int)==0)else false then(!a.A2)else false))
def F8(e:Aa)(b:Int):Option Int :=
 (idx e.A b).bind λa =>
 (Cz a.J).bind λg =>
 bif !g then
  some 3
 else
  bif decide (0<=(0:Int)/\0<=b/\b<=(e.A.length:Int))then
   (Bq (NB e.A 0 b) (λa0=>Im a0 a)).bind λh =>
   bif h then
    some 10
   else
    bif a.Kind==1 then
     bif decide (b>0)then
      some 4
     else
      (Fi a).bind λc =>
      bif !c then
       some 11
      else
       some 0
    else
     bif a.Kind==2 then
      bif bif decide (a.Am<0)then true else(decide (a.Am>=(e.K.length:Int)))then
       some 5
      else
       (Fi a).bind λc =>
       bif !c then
        some 11
       else
        some 0
     else
      bif a.Kind==3 then
       (EP a).bind λf =>
       bif f != 0 then
        some f
       else
        (Fi a).bind λc =>
        bif !c then
         some 11
        else
         some 0
      else
       some 4
  else none
abbrev J6(b:Aa)(e:Int->Option Int)(f:Int->Option Int)(a:Int):Option Int :=
 bif decide (a<(b.A.length:Int))then
  (F8 b a).bind λc =>
  bif c != 0 then
   some c
  else
   f (i64.wrap (a+1))
 else
  e a
abbrev M5(a:Aa):Option Int :=
 bif(a.A.length:Int)==0 then
  some 7
 else
  (idx a.A 0).bind λb =>
  bif b.Kind != 1 then
   some 7
  else
   iter (λc s=>J6 a (λe=>some 0) c s) AC 0
abbrev J5(b:Aa)(f:Int->Option Int)(g:Int->Option Int)(a:Int):Option Int :=
 bif decide (a<(b.K.length:Int))then
  (idx b.K a).bind λc =>
  (GY c).bind λe =>
  bif e != 0 then
   some e
  else
   bif decide (0<=(0:Int)/\0<=a/\a<=(b.K.length:Int))then
    (Bf (NB b.K 0 a) (λa0=>M4 a0 c)).bind λh =>
    bif h then
     some 10
    else
     g (i64.wrap (a+1))
   else none
 else
  f a
def CN(a:Aa):Option Int :=
 bif bif decide ((a.K.length:Int)>6)then true else(decide ((a.A.length:Int)>8))then
  some 1
 else
  iter (λb s=>J5 a (λc=>M5 a) b s) AC 0
abbrev KY(c:List Int)(f:Int->Int->Option Int)(g:(Int×Int)->Option Int)(b:Int)(a:Int):Option Int :=
 bif decide (a<(c.length:Int))then
  (idx c a).bind λe =>
  g ((if e>b then e else b),(i64.wrap (a+1)))
 else
  f b a
def Jk(a:List Int):Option Int :=
 bif decide ((a.length:Int)<1)then
  none
 else
  (idx a 0).bind λb =>
  iter (λc s=>KY a (λe f=>some e) c s.1 s.2) AC (b,1)
def EW(a:Aq):Option Int :=
 (GY a).bind λb =>
 bif b != 0 then
  some (-1)
 else
  (Hh a).bind λc =>
  (Jk c).bind λe =>
  some (i64.wrap (e+1))
def G4(a:Aa)(b:Int):Option Int :=
 bif bif decide (b<1)then true else(decide (b>=(a.A.length:Int)))then
  some (-1)
 else
  (idx a.A b).bind λc =>
  bif c.Kind==2 then
   (idx a.K c.Am).bind λe =>
   (EW e).bind λf =>
   some (i64.wrap (f-1))
  else
   some (c.S.length:Int)
def JX(c:Aa)(a:Ac):Option Int :=
 (G4 c a.B).bind λb =>
 bif decide (b<0)then
  some 7
 else
  bif bif decide (a.T<0)then true else(decide (a.T>b))then
   some 8
  else
   some 0
abbrev J7(b:List Ac)(g:Aa)(h:Int->Option Int)(c:Int->Option Int)(a:Int):Option Int :=
 bif decide (a<(b.length:Int))then
  (idx b a).bind λe =>
  (JX g e).bind λf =>
  bif f != 0 then
   some f
  else
   bif decide (a>0)then
    (idx b (i64.wrap (a-1))).bind λi =>
    bif decide (e.B<=i.B)then
     some 10
    else
     c (i64.wrap (a+1))
   else
    c (i64.wrap (a+1))
 else
  h a
def Jd(a:Aa)(c:List Ac):Option Int :=
 (CN a).bind λb =>
 bif b != 0 then
  some b
 else
  iter (λe s=>J7 c a (λf=>some 0) e s) AC 0
def Hv(a:Au)(b:Int):Option Int :=
 (idx a.S (i64.wrap ((a.S.length:Int)-b))).bind λc =>
 some c
def Fh(a:Int)(b:Int):Option Int :=
 bif decide (b≠0)then
  bif decide ((Int.tmod a b)<0)then
   some (i64.wrap (a-(i64.wrap ((Int.tmod a b)+b))))
  else
   some (i64.wrap (a-(Int.tmod a b)))
 else none
def JY(b:Au)(e:Int)(a:Int):Option (Int×Int×Bool) :=
 bif e==0 then
  some (b.D,b.E,(a==0))
 else
  bif bif decide (a<(-2000000))then true else(decide (a>1000000))then
   some (0,0,false)
  else
   (Hv b e).bind λc =>
   (Fh a c).bind λf =>
   some ((if b.D>a then b.D else a),(if b.E<(i64.wrap ((i64.wrap (a+c))-1))then b.E else(i64.wrap ((i64.wrap (a+c))-1))),(bif f==a then(decide ((if b.D>a then b.D else a)<=(if b.E<(i64.wrap ((i64.wrap (a+c))-1))then b.E else(i64.wrap ((i64.wrap (a+c))-1)))))else false))
abbrev Wx(c:List Int)(f:Int)(g:Int->(List Int)->Option (List Int))(e:(Int×(List Int))->Option (List Int))(a:Int)(b:List Int):Option (List Int) :=
 bif decide (a<(c.length:Int))then
  (idx c a).bind λh =>
  bif h==f then
   bif rm b.length [a].length then
    e ((i64.wrap (a+1)),(b++[a]))
   else none
  else
   e ((i64.wrap (a+1)),b)
 else
  g a b
def Iz(a:Aq)(b:Int):Option (List Int) :=
 (GY a).bind λc =>
 bif c != 0 then
  some []
 else
  (Hh a).bind λe =>
  iter (λf s=>Wx e b (λh g=>some g) f s.1 s.2) AC (0,[])
def Lp(a:Aq)(b:Int):Option Bool :=
 bif bif decide (b>=0)then(decide (b<(a.U.length:Int)))else false then
  (GY a).bind λc =>
  some (c==0)
 else
  some false
abbrev Wy(c:Int)(e:Aq)(f:Int->Int->Option Int)(g:(Int×Int)->Option Int)(b:Int)(a:Int):Option Int :=
 bif decide (a>=c)then
  bif a==c then
   some b
  else
   (idx e.U b).bind λh =>
   g (h.A7,(i64.wrap (a-1)))
 else
  f b a
def I0(a:Aq)(b:Int)(c:Int):Option Int :=
 (Lp a b).bind λe =>
 bif bif !e then true else(decide (c<0))then
  some (-1)
 else
  (Hh a).bind λf =>
  (idx f b).bind λg =>
  iter (λh s=>Wy c a (λi j=>some (-1)) h s.1 s.2) AC (b,g)
abbrev Oq(b:List Int)(e:Aq)(f:Int)(g:Int)(h:Int->Option (Int×Bool))(i:Int->Option (Int×Bool))(a:Int):Option (Int×Bool) :=
 bif decide (a<(b.length:Int))then
  (idx b a).bind λc =>
  (I0 e c f).bind λj =>
  bif j==g then
   some (c,true)
  else
   i (i64.wrap (a+1))
 else
  h a
def Cy(f:Aa)(h:Int)(c:Int)(a:Int):Option (Int×Bool) :=
 (idx f.A h).bind λb =>
 bif b.Kind==3 then
  bif bif decide (c>0)then(a==(-1099511627776))else false then
   some (a,b.A2)
  else
   (JY b c a).bind λg =>
   some (g.1,g.2.2)
 else
  (idx f.K b.Am).bind λe =>
  (EW e).bind λi =>
  (Iz e (i64.wrap (i-1))).bind λj =>
  iter (λk s=>Oq j e c a (λl=>some (0,false)) k s) AC 0
abbrev Jw(b:List Ac)(e:List Int)(f:Aa)(g:Int->Option Bool)(h:Int->Option Bool)(a:Int):Option Bool :=
 bif decide (a<(b.length:Int))then
  (idx b a).bind λc =>
  (idx e (i64.wrap (a+1))).bind λi =>
  (Cy f c.B c.T i).bind λj =>
  bif !j.2 then
   some false
  else
   h (i64.wrap (a+1))
 else
  g a
abbrev Mz(a:List Ac)(b:List Int)(c:Aa):Option Bool :=
 iter (λe s=>Jw a b c (λf=>some true) e s) AC 0
def Kj(c:Aa)(b:List Ac)(a:List Int):Option Bool :=
 bif(a.length:Int) != (i64.wrap ((b.length:Int)+1))then
  some false
 else
  (idx a 0).bind λe =>
  bif decide (e<0)then
   some false
  else
   (idx a 0).bind λf =>
   bif decide (f>1048575)then
    some false
   else
    Mz b a c
abbrev IQ(b:Ao)(f:Aa)(g:Int->Option Int)(c:Int->Option Int)(a:Int):Option Int :=
 bif decide (a<(b.C.length:Int))then
  (idx b.C a).bind λe =>
  (Kj f b.H e).bind λh =>
  bif !h then
   some 9
  else
   bif decide (a>0)then
    (idx e 0).bind λi =>
    (idx b.C (i64.wrap (a-1))).bind λj =>
    (idx j 0).bind λk =>
    bif decide (i<=k)then
     some 10
    else
     c (i64.wrap (a+1))
   else
    c (i64.wrap (a+1))
 else
  g a
def Cv(b:Aa)(a:Ao):Option Int :=
 (CN b).bind λc =>
 bif c != 0 then
  some c
 else
  (Cz a.Ae).bind λf =>
  bif !f then
   some 3
  else
   bif bif decide (a.Af<0)then true else(decide (a.Af>300))then
    some 13
   else
    (Jd b a.H).bind λe =>
    bif e != 0 then
     some e
    else
     bif decide ((a.C.length:Int)>200)then
      some 1
     else
      iter (λg s=>IQ a b (λh=>some 0) g s) AC 0
abbrev Hj(c:Ah)(e:Int)(g:Ah->Int->Option Int)(f:Int->Int->Option Int)(h:(Int×Int)->Option Int)(a:Int)(b:Int):Option Int :=
 bif decide (b<(c.G.length:Int))then
  (idx c.G b).bind λi =>
  bif decide (a>e)then
   f a b
  else
   (g i (i64.wrap (e-a))).bind λj =>
   h ((i64.wrap (a+j)),(i64.wrap (b+1)))
 else
  f a b
def FY(d:Nat)(a:Ah->Int->Option Int)(b:Ah)(c:Int):Option Int :=
 iter (λe s=>Hj b c a (λf g=>some f) e s.1 s.2) AC (1,0)
def FM:Nat->Ah->Int->Option Int
 | 0,_,_=>none
 | d+1,a,b=>FY d (FM d) a b
abbrev Ir(c:Ah)(f:Ah->Option Int)(g:Int->Int->Option Int)(h:(Int×Int)->Option Int)(b:Int)(a:Int):Option Int :=
 bif decide (a<(c.G.length:Int))then
  (idx c.G a).bind λi =>
  (f i).bind λe =>
  h ((if e>b then e else b),(i64.wrap (a+1)))
 else
  g b a
def Fl(d:Nat)(a:Ah->Option Int)(b:Ah):Option Int :=
 iter (λc s=>Ir b a (λe f=>some (i64.wrap (e+1))) c s.1 s.2) AC (0,0)
def D9:Nat->Ah->Option Int
 | 0,_=>none
 | d+1,a=>Fl d (D9 d) a
def N8(a:Int):Option Int :=
 bif a==5 then
  some 2
 else
  bif a==6 then
   some 2
  else
   bif a==7 then
    some 1
   else
    some 0
def Lq(a:Ah):Option Bool :=
 bif bif !(bif bif a.Op==2 then true else(a.Op==3)then true else(a.Op==4))then(a.B != 0)else false then
  some false
 else
  bif bif a.Op != 2 then(a.Z != 0)else false then
   some false
  else
   some (bif a.Op==3 then true else(bif a.D==0 then(a.E==0)else false))
abbrev Ej(c:Aa)(a:Ah):Option Int :=
 (idx c.A a.B).bind λb =>
 bif a.Op==2 then
  bif b.Kind != 2 then
   some 7
  else
   bif decide (a.Z<0)then
    some 6
   else
    (idx c.K b.Am).bind λe =>
    bif decide (a.Z>=(e.U.length:Int))then
     some 6
    else
     some 0
 else
  bif a.Op==3 then
   bif b.Kind != 3 then
    some 7
   else
    bif bif bif decide (a.D>a.E)then true else(decide (a.D<(-1000000)))then true else(decide (a.E>1000000))then
     some 2
    else
     some 0
  else
   bif a.Op==4 then
    bif bif b.Kind != 3 then true else(!b.A2)then
     some 7
    else
     some 0
   else
    some 0
def Fv(b:Aa)(a:Ah):Option Int :=
 bif bif decide (a.Op<1)then true else(decide (a.Op>7))then
  some 4
 else
  (N8 a.Op).bind λc =>
  bif(a.G.length:Int) != c then
   some 11
  else
   (Lq a).bind λe =>
   bif !e then
    some 11
   else
    bif bif bif a.Op != 2 then(a.Op != 3)else false then(a.Op != 4)else false then
     some 0
    else
     bif bif decide (a.B<0)then true else(decide (a.B>=(b.A.length:Int)))then
      some 7
     else
      Ej b a
abbrev FF(b:Ah)(e:Aa->Ah->Option Int)(f:Aa)(g:Int->Option Int)(h:Int->Option Int)(a:Int):Option Int :=
 bif decide (a<(b.G.length:Int))then
  (idx b.G a).bind λi =>
  (e f i).bind λc =>
  bif c != 0 then
   some c
  else
   h (i64.wrap (a+1))
 else
  g a
def E0(d:Nat)(e:Aa->Ah->Option Int)(a:Aa)(b:Ah):Option Int :=
 (Fv a b).bind λc =>
 bif c != 0 then
  some c
 else
  iter (λf s=>FF b e a (λg=>some 0) f s) AC 0
def Em:Nat->Aa->Ah->Option Int
 | 0,_,_=>none
 | d+1,a,b=>E0 d (Em d) a b
def BK(d:Nat)(b:Aa)(a:Ah):Option Int :=
 (CN b).bind λc =>
 bif c != 0 then
  some c
 else
  (FM d a 40).bind λe =>
  bif decide (e>40)then
   some 1
  else
   (D9 d a).bind λf =>
   bif decide (f>10)then
    some 22
   else
    (Em d b a).bind λg =>
    some g
abbrev OE :Option (Bg×Bool) :=
 some (({}:Bg),false)
def Kx(a:Int):Option (Bg×Bool) :=
 bif a==1 then
  some (({ Bv:=true }:Bg),true)
 else
  bif a==2 then
   some (({ Bt:=true }:Bg),true)
  else
   bif a==3 then
    some (({ Bo:=true }:Bg),true)
   else
    bif a==4 then
     some (({ Bq:=true,Bo:=true }:Bg),true)
    else
     bif a==5 then
      some (({ Bq:=true,Bo:=true }:Bg),true)
     else
      bif a==14 then
       some (({ Bq:=true,Bo:=true }:Bg),true)
      else
       bif a==6 then
        some (({}:Bg),true)
       else
        bif a==7 then
         some (({}:Bg),true)
        else
         bif a==8 then
          some (({}:Bg),true)
         else
          bif a==9 then
           some (({}:Bg),true)
          else
           bif a==10 then
            some (({ Bq:=true,Bx:=true,Bo:=true }:Bg),true)
           else
            bif a==11 then
             some (({ Bq:=true,Bw:=true,Bo:=true }:Bg),true)
            else
             bif a==12 then
              some (({ Bq:=true,Bo:=true,Br:=true }:Bg),true)
             else
              bif a==13 then
               some (({ Bv:=true,Bq:=true,Bo:=true }:Bg),true)
              else
               OE
def BF(a:Int):Option Bool :=
 some (bif decide (a>=6)then(decide (a<=9))else false)
def G1(a:Ah):Option Bool :=
 some (bif bif bif bif bif a.Op==0 then(a.B==0)else false then(a.Z==0)else false then(a.D==0)else false then(a.E==0)else false then((a.G.length:Int)==0)else false)
def GQ(a:Ar)(b:Bg):Option Bool :=
 bif bif bif bif bif bif b.Bv then true else(a.L==0)then(bif b.Bt then true else(a.J.toList==({ data:=#[] }:ByteArray).toList))else false then(bif b.Bq then true else(a.B==0))else false then(bif b.Bw then true else((a.A.length:Int)==0))else false then(bif b.Bx then true else((a.Y.length:Int)==0))else false then
  bif b.Bo then
   bif b.Br then
    (BF a.Op).bind λc =>
    some (bif c then true else((a.G.length:Int)==0))
   else
    (G1 a.V).bind λe =>
    bif e then
     (BF a.Op).bind λc =>
     some (bif c then true else((a.G.length:Int)==0))
    else
     some false
  else
   (G1 a.X).bind λf =>
   bif f then
    bif b.Br then
     (BF a.Op).bind λc =>
     some (bif c then true else((a.G.length:Int)==0))
    else
     (G1 a.V).bind λe =>
     bif e then
      (BF a.Op).bind λc =>
      some (bif c then true else((a.G.length:Int)==0))
     else
      some false
   else
    some false
 else
  some false
abbrev Ez(b:List Int)(c:Int)(e:Int->Option Int)(f:Int->Option Int)(a:Int):Option Int :=
 bif decide (a<(b.length:Int))then
  (idx b a).bind λg =>
  bif c==g then
   some a
  else
   f (i64.wrap (a+1))
 else
  e a
def Cd(a:List Int)(b:Int):Option Int :=
 iter (λc s=>Ez a b (λe=>some (-1)) c s) AC 0
def AP(a:List Int)(b:Int):Option Bool :=
 (Cd a b).bind λc =>
 some (decide (c>=0))
def BO(b:Aa)(a:Int):Option Bool :=
 bif bif decide (a>=0)then(decide (a<(b.A.length:Int)))else false then
  (idx b.A a).bind λc =>
  some (c.Kind==3)
 else
  some false
abbrev E8(b:List Ac)(c:Ac->Option Bool)(e:Int->Option Int)(f:Int->Option Int)(a:Int):Option Int :=
 bif decide (a<(b.length:Int))then
  (idx b a).bind λg =>
  (c g).bind λh =>
  bif h then
   some a
  else
   f (i64.wrap (a+1))
 else
  e a
def By(a:List Ac)(b:Ac->Option Bool):Option Int :=
 iter (λc s=>E8 a b (λe=>some (-1)) c s) AC 0
def AI(a:List Ac)(b:Ac->Option Bool):Option Bool :=
 (By a b).bind λc =>
 some (decide (c>=0))
def Mw(a:Aa)(c:Ac):Option Int :=
 (CN a).bind λb =>
 bif b != 0 then
  some b
 else
  (JX a c).bind λe =>
  some e
def J1(a:Ac)(b:Ac):Option Bool :=
 some (a.B==b.B)
abbrev QM(b:List Ac)(e:Aa)(f:Int->Option Bool)(g:Int->Option Bool)(a:Int):Option Bool :=
 bif decide (a<(b.length:Int))then
  (idx b a).bind λc =>
  (Mw e c).bind λh =>
  bif h != 0 then
   some false
  else
   (idx e.A c.B).bind λi =>
   bif i.Kind != 2 then
    some false
   else
    bif decide (0<=(0:Int)/\0<=a/\a<=(b.length:Int))then
     (AI (NB b 0 a) (λa0=>J1 a0 c)).bind λj =>
     bif j then
      some false
     else
      g (i64.wrap (a+1))
    else none
 else
  f a
def Kw(b:Aa)(a:List Ac):Option Bool :=
 iter (λc s=>QM a b (λe=>some (bif decide ((a.length:Int)>=1)then(decide ((a.length:Int)<=3))else false)) c s) AC 0
abbrev PG(b:List Int)(e:Aa)(f:Int)(g:Int->Option Bool)(h:Int->Option Bool)(a:Int):Option Bool :=
 bif decide (a<(b.length:Int))then
  (idx b a).bind λc =>
  (BO e c).bind λi =>
  bif bif !i then true else(c==f)then
   some false
  else
   bif decide (0<=(0:Int)/\0<=a/\a<=(b.length:Int))then
    (AP (NB b 0 a) c).bind λj =>
    bif j then
     some false
    else
     h (i64.wrap (a+1))
   else none
 else
  g a
def Jn(b:Aa)(c:Int)(a:List Int):Option Bool :=
 iter (λe s=>PG a b c (λf=>some (bif decide ((a.length:Int)>=1)then(decide ((a.length:Int)<=3))else false)) e s) AC 0
def MZ(b:Aa)(a:Ar):Option Bool :=
 bif a.Op==1 then
  some (bif decide (a.L>=(-1099511627776))then(decide (a.L<=1099511627776))else false)
 else
  bif a.Op==2 then
   (Cz a.J).bind λe =>
   some e
  else
   bif a.Op==4 then
    (BO b a.B).bind λc =>
    some c
   else
    bif a.Op==5 then
     (BO b a.B).bind λc =>
     some c
    else
     bif a.Op==14 then
      (BO b a.B).bind λc =>
      some c
     else
      bif a.Op==10 then
       (Kw b a.Y).bind λf =>
       bif f then
        bif a.B==(-1)then
         some true
        else
         (BO b a.B).bind λg =>
         some g
       else
        some false
      else
       bif a.Op==11 then
        (BO b a.B).bind λh =>
        bif h then
         (Jn b a.B a.A).bind λi =>
         some i
        else
         some false
       else
        bif a.Op==12 then
         (BO b a.B).bind λj =>
         bif j then
          (idx b.A a.B).bind λk =>
          some (decide (k.D>=0))
         else
          some false
        else
         bif a.Op==13 then
          (BO b a.B).bind λl =>
          bif l then
           (idx b.A a.B).bind λm =>
           (AP m.S a.L).bind λn =>
           some n
          else
           some false
         else
          some true
abbrev E7(b:List Ar)(c:Ar->Option Bool)(e:Int->Option Int)(f:Int->Option Int)(a:Int):Option Int :=
 bif decide (a<(b.length:Int))then
  (idx b a).bind λg =>
  (c g).bind λh =>
  bif h then
   some a
  else
   f (i64.wrap (a+1))
 else
  e a
def Cm(a:List Ar)(b:Ar->Option Bool):Option Int :=
 iter (λc s=>E7 a b (λe=>some (-1)) c s) AC 0
def Aw(a:List Ar)(b:Ar->Option Bool):Option Bool :=
 (Cm a b).bind λc =>
 some (decide (c>=0))
def E5(a:Int):Option Bool :=
 some (bif decide (a>=1)then(decide (a<=9))else false)
def IZ(g:Bg×Bool)(d:Nat)(b:Aa)(a:Ar)(f:Ar->Aa->Option Bool):Option Bool :=
 bif g.1.Bo then
  (BK d b a.X).bind λi =>
  bif i != 0 then
   some false
  else
   bif g.1.Br then
    (BK d b a.V).bind λh =>
    bif h != 0 then
     some false
    else
     (BF a.Op).bind λc =>
     bif bif c then((a.G.length:Int) != 2)else false then
      some false
     else
      (Aw a.G (λa0=>f a0 b)).bind λe =>
      some (!e)
   else
    (BF a.Op).bind λc =>
    bif bif c then((a.G.length:Int) != 2)else false then
     some false
    else
     (Aw a.G (λa0=>f a0 b)).bind λe =>
     some (!e)
 else
  bif g.1.Br then
   (BK d b a.V).bind λh =>
   bif h != 0 then
    some false
   else
    (BF a.Op).bind λc =>
    bif bif c then((a.G.length:Int) != 2)else false then
     some false
    else
     (Aw a.G (λa0=>f a0 b)).bind λe =>
     some (!e)
  else
   (BF a.Op).bind λc =>
   bif bif c then((a.G.length:Int) != 2)else false then
    some false
   else
    (Aw a.G (λa0=>f a0 b)).bind λe =>
    some (!e)
def HQ(d:Nat)(h:Aa->Ar->Option Bool)(e:Ar->Aa->Option Bool)(c:Aa)(a:Ar):Option Bool :=
 (Kx a.Op).bind λb =>
 bif !b.2 then
  some false
 else
  (GQ a b.1).bind λf =>
  bif !f then
   some false
  else
   (MZ c a).bind λg =>
   bif !g then
    some false
   else
    IZ b d c a e
def F6(d:Nat)(b:Aa->Ar->Option Bool)(g:Ar->Aa->Option Bool)(a:Ar)(c:Aa):Option Bool :=
 (E5 a.Op).bind λe =>
 bif !e then
  some true
 else
  (b c a).bind λf =>
  some (!f)
mutual
def Cl:Nat->Aa->Ar->Option Bool
 | 0,_,_=>none
 | d+1,a,b=>HQ d (Cl d) (Eu d) a b
def Eu:Nat->Ar->Aa->Option Bool
 | 0,_,_=>none
 | d+1,a,b=>F6 d (Cl d) (Eu d) a b
end
def Dd(d:Nat)(a:Aa)(b:Ar):Option Bool :=
 (CN a).bind λc =>
 bif c==0 then
  (Cl d a b).bind λe =>
  some e
 else
  some false
def EX(a:Ac)(b:Ac):Option Bool :=
 some (bif a.B==b.B then(decide (a.T>=b.T))else false)
def G8(a:Ac)(b:List Ac):Option Bool :=
 (AI b (λa0=>EX a0 a)).bind λc =>
 some (!c)
def BB(a:List Ac)(b:List Ac):Option Bool :=
 (AI b (λa0=>G8 a0 a)).bind λc =>
 some (!c)
abbrev LA(b:Au)(c:Int)(e:Int->Option Int)(f:Int->Option Int)(a:Int):Option Int :=
 bif decide (a<(b.S.length:Int))then
  (idx b.S a).bind λg =>
  bif g==c then
   some (i64.wrap ((b.S.length:Int)-a))
  else
   f (i64.wrap (a+1))
 else
  e a
def Ik(a:Aa)(b:Int)(c:Int):Option Int :=
 (idx a.A b).bind λe =>
 iter (λf s=>LA e c (λg=>some 0) f s) AC 0
def Ff(a:Aa)(b:Int):Option Int :=
 (CN a).bind λc =>
 bif c != 0 then
  some (-1)
 else
  (G4 a b).bind λe =>
  some e
def Fg(e:Aa)(h:Int)(c:Int):Option Int :=
 (idx e.A h).bind λa =>
 bif a.Kind==2 then
  (idx e.K a.Am).bind λi =>
  (Iz i c).bind λj =>
  some (j.length:Int)
 else
  bif c==0 then
   some 1
  else
   (Hv a c).bind λb =>
   (Fh a.E b).bind λf =>
   (Fh a.D b).bind λg =>
   bif decide (b≠0)then
    bif a.A2 then
     some (i64.wrap ((i64.wrap ((i64.wrap (Int.tdiv (i64.wrap (f-g)) b))+1))+1))
    else
     some (i64.wrap ((i64.wrap (Int.tdiv (i64.wrap (f-g)) b))+1))
   else none
abbrev QQ(b:Aa)(c:Int)(e:Int->Option Int)(f:Int->Option Int)(a:Int):Option Int :=
 bif decide (a>0)then
  (Fg b c (i64.wrap (a-1))).bind λg =>
  (Fg b c a).bind λh =>
  bif g==h then
   f (i64.wrap (a-1))
  else
   e a
 else
  e a
def Gw(b:Aa)(c:Int)(a:Int):Option Int :=
 (Ff b c).bind λe =>
 bif bif decide (a<0)then true else(decide (a>e))then
  some (-1)
 else
  iter (λf s=>QQ b c (λg=>some g) f s) AC a
def Dn(a:Int)(b:List Ac)(c:Aa):Option (List Ac) :=
 (Ff c a).bind λf =>
 (Gw c a f).bind λe =>
 bif rm b.length [({ B:=a,T:=e }:Ac)].length then
  some (b++[({ B:=a,T:=e }:Ac)])
 else none
def Vs(b:Ar)(e:Aa)(f:Int->(List Ac)->Option (List Ac))(g:(Int×(List Ac))->Option (List Ac))(a:Int)(c:List Ac):Option (List Ac) :=
 bif decide (a<(b.A.length:Int))then
  (idx b.A a).bind λh =>
  (Dn h c e).bind λi =>
  g ((i64.wrap (a+1)),i)
 else
  f a c
def B5(a:Ar)(b:Aa)(c:List Ac):Option (List Ac) :=
 iter (λe s=>Vs a b (λg f=>some f) e s.1 s.2) AC (0,c)
def Nj(a:Ar)(b:Aa)(c:List Ac):Option (List Ac) :=
 bif a.Op==4 then
  bif decide (a.B>0)then
   (Dn a.B c b).bind λe =>
   B5 a b e
  else
   B5 a b c
 else
  bif a.Op==5 then
   bif decide (a.B>0)then
    (Dn a.B c b).bind λe =>
    B5 a b e
   else
    B5 a b c
  else
   bif a.Op==10 then
    bif decide (a.B>0)then
     (Dn a.B c b).bind λe =>
     B5 a b e
    else
     B5 a b c
   else
    bif a.Op==11 then
     bif decide (a.B>0)then
      (Dn a.B c b).bind λe =>
      B5 a b e
     else
      B5 a b c
    else
     bif a.Op==12 then
      bif decide (a.B>0)then
       (Dn a.B c b).bind λe =>
       B5 a b e
      else
       B5 a b c
     else
      bif a.Op==14 then
       bif decide (a.B>0)then
        (Dn a.B c b).bind λe =>
        B5 a b e
       else
        B5 a b c
      else
       bif a.Op==13 then
        (Ik b a.B a.L).bind λg =>
        (Gw b a.B g).bind λf =>
        bif rm c.length [({ B:=a.B,T:=f }:Ac)].length then
         B5 a b (c++[({ B:=a.B,T:=f }:Ac)])
        else none
       else
        B5 a b c
def Vr(e:Ar)(g:Aa)(h:Int->(List Ac)->Option (List Ac))(i:(Int×(List Ac))->Option (List Ac))(a:Int)(c:List Ac):Option (List Ac) :=
 bif decide (a<(e.Y.length:Int))then
  (idx e.Y a).bind λb =>
  (Gw g b.B b.T).bind λf =>
  bif rm c.length [({ B:=b.B,T:=f }:Ac)].length then
   i ((i64.wrap (a+1)),(c++[({ B:=b.B,T:=f }:Ac)]))
  else none
 else
  h a c
def Nr(a:Aa)(b:Ar):Option (List Ac) :=
 iter (λc s=>Vr b a (λf e=>Nj b a e) c s.1 s.2) AC (0,[])
abbrev N2(c:Ah)(f:Ah->Option (List Ah))(g:Int->(List Ah)->Option (List Ah))(h:(Int×(List Ah))->Option (List Ah))(a:Int)(b:List Ah):Option (List Ah) :=
 bif decide (a<(c.G.length:Int))then
  (idx c.G a).bind λi =>
  (f i).bind λe =>
  bif rm b.length e.length then
   h ((i64.wrap (a+1)),(b++e))
  else none
 else
  g a b
def EA(d:Nat)(b:Ah->Option (List Ah))(a:Ah):Option (List Ah) :=
 bif bif bif a.Op==2 then true else(a.Op==3)then true else(a.Op==4)then
  some [a]
 else
  iter (λc s=>N2 a b (λf e=>some e) c s.1 s.2) AC (0,[])
def CI:Nat->Ah->Option (List Ah)
 | 0,_=>none
 | d+1,a=>EA d (CI d) a
def DV(a:Bool):Option Int :=
 bif a then
  some 1
 else
  some (-1)
def FX(a:Aq)(c:Int)(b:Int):Option Bool :=
 (Lp a c).bind λe =>
 bif !e then
  some false
 else
  (Lp a b).bind λf =>
  bif !f then
   some false
  else
   (Hh a).bind λg =>
   (idx g b).bind λh =>
   (I0 a c h).bind λi =>
   some (i==b)
def D8(c:Aa)(a:Ah)(b:Int):Option Int :=
 bif a.Op==2 then
  (idx c.A a.B).bind λe =>
  (idx c.K e.Am).bind λf =>
  (FX f b a.Z).bind λg =>
  (DV g).bind λh =>
  some h
 else
  bif a.Op==4 then
   (DV (b==(-1099511627776))).bind λi =>
   some i
  else
   bif b==(-1099511627776)then
    some 0
   else
    (DV (bif decide (b>=a.D)then(decide (b<=a.E))else false)).bind λj =>
    some j
def H3(a:Au)(b:Int):Option Int :=
 (idx a.S (i64.wrap ((a.S.length:Int)-b))).bind λc =>
 some c
def E1(a:Int)(b:Int):Option Int :=
 bif decide (b≠0)then
  bif decide ((Int.tmod a b)<0)then
   some (i64.wrap (a-(i64.wrap ((Int.tmod a b)+b))))
  else
   some (i64.wrap (a-(Int.tmod a b)))
 else none
def Il(e:List Int)(h:Aq)(i:Int)(j:Aa)(k:Ah)(l:Int->(List (Int×Int))->Option Bool)(m:(Int×(List (Int×Int)))->Option Bool)(a:Int)(b:List (Int×Int)):Option Bool :=
 bif decide (a<(e.length:Int))then
  (idx e a).bind λf =>
  (I0 h f i).bind λc =>
  (D8 j k f).bind λg =>
  bif bif(Mh c b).isSome then(((Mh c b).getD 0) != g)else false then
   some false
  else
   m ((i64.wrap (a+1)),(YT c g b))
 else
  l a b
def BE(e:Aa)(b:Ah)(c:Int):Option Bool :=
 (idx e.A b.B).bind λa =>
 bif b.Op==2 then
  (idx e.K a.Am).bind λf =>
  (EW f).bind λi =>
  (Iz f (i64.wrap (i-1))).bind λj =>
  iter (λk s=>Il j f c e b (λm n=>some true) k s.1 s.2) AC (0,[])
 else
  bif bif c==0 then a.A2 else false then
   some false
  else
   bif b.Op==4 then
    some true
   else
    bif decide ((if a.D>b.D then a.D else b.D)>(if a.E<b.E then a.E else b.E))then
     some true
    else
     bif c==0 then
      some (bif(if a.D>b.D then a.D else b.D)==a.D then((if a.E<b.E then a.E else b.E)==a.E)else false)
     else
      (H3 a c).bind λg =>
      bif(if a.D>b.D then a.D else b.D)==a.D then
       bif(if a.E<b.E then a.E else b.E)==a.E then
        some true
       else
        (E1 (i64.wrap ((if a.E<b.E then a.E else b.E)+1)) g).bind λh =>
        some (h==(i64.wrap ((if a.E<b.E then a.E else b.E)+1)))
      else
       (E1 (if a.D>b.D then a.D else b.D) g).bind λl =>
       bif l==(if a.D>b.D then a.D else b.D)then
        bif(if a.E<b.E then a.E else b.E)==a.E then
         some true
        else
         (E1 (i64.wrap ((if a.E<b.E then a.E else b.E)+1)) g).bind λh =>
         some (h==(i64.wrap ((if a.E<b.E then a.E else b.E)+1)))
       else
        some false
abbrev JC(a:List Int)(b:Ah)(f:(Int×(List Int))->Option (List Ac))(g:Int)(c:Int):Option (List Ac) :=
 (idx a b.B).bind λe =>
 (idx a b.B).bind λh =>
 f ((i64.wrap (g+1)),(a.set (b.B:Int).toNat (if c>e then c else e)))
abbrev N5(b:Aa)(c:Ah)(e:Int->Option (List Ac))(f:Int->Option (List Ac))(a:Int):Option (List Ac) :=
 (BE b c a).bind λg =>
 bif !g then
  f (i64.wrap (a+1))
 else
  e a
abbrev N6(e:List Int)(g:Int->(List Ac)->Option (List Ac))(f:(Int×(List Ac))->Option (List Ac))(a:Int)(b:List Ac):Option (List Ac) :=
 bif decide (a<(e.length:Int))then
  (idx e a).bind λc =>
  bif decide (c>0)then
   bif rm b.length [({ B:=a,T:=c }:Ac)].length then
    f ((i64.wrap (a+1)),(b++[({ B:=a,T:=c }:Ac)]))
   else none
  else
   f ((i64.wrap (a+1)),b)
 else
  g a b
abbrev N4(b:List Ah)(f:Aa)(g:Int->(List Int)->Option (List Ac))(h:(Int×(List Int))->Option (List Ac))(a:Int)(c:List Int):Option (List Ac) :=
 bif decide (a<(b.length:Int))then
  (idx b a).bind λe =>
  iter (λi s=>N5 f e (JC c e h a) i s) AC 0
 else
  g a c
def BL(d:Nat)(a:Aa)(b:Ah):Option (List Ac) :=
 (BK d a b).bind λc =>
 bif c != 0 then
  some []
 else
  bif decide (0<=(a.A.length:Int))&&rm ((a.A.length:Int):Int).toNat 0 then
   (CI d b).bind λe =>
   iter (λf s=>N4 e a (λj g=>iter (λh s=>N6 g (λk i=>some i) h s.1 s.2) AC (0,[])) f s.1 s.2) AC (0,(List.replicate ((a.A.length:Int):Int).toNat 0))
  else none
def Hq(f:List Ac)(g:Int->Int->(List (Int×Int))->Option (List Ac))(h:(Int×Int×(List (Int×Int)))->Option (List Ac))(e:Int)(b:Int)(c:List (Int×Int)):Option (List Ac) :=
 bif decide (b<(f.length:Int))then
  (idx f b).bind λa =>
  h ((if a.B>e then a.B else e),(i64.wrap (b+1)),(YT a.B (if a.T>((Mh a.B c).getD 0)then a.T else((Mh a.B c).getD 0)) c))
 else
  g e b c
def Hr(f:Int)(c:List (Int×Int))(g:Int->(List Ac)->Option (List Ac))(e:(Int×(List Ac))->Option (List Ac))(a:Int)(b:List Ac):Option (List Ac) :=
 bif decide (a<(i64.wrap (f+1)))then
  bif decide (((Mh a c).getD 0)>0)then
   bif rm b.length [({ B:=a,T:=((Mh a c).getD 0) }:Ac)].length then
    e ((i64.wrap (a+1)),(b++[({ B:=a,T:=((Mh a c).getD 0) }:Ac)]))
   else none
  else
   e ((i64.wrap (a+1)),b)
 else
  g a b
def Hp(b:List (List Ac))(f:Int->Int->(List (Int×Int))->Option (List Ac))(g:(Int×Int×(List (Int×Int)))->Option (List Ac))(c:Int)(a:Int)(e:List (Int×Int)):Option (List Ac) :=
 bif decide (a<(b.length:Int))then
  (idx b a).bind λh =>
  iter (λi s=>Hq h (λj l k=>g (j,(i64.wrap (a+1)),k)) i s.1 s.2.1 s.2.2) AC (c,0,e)
 else
  f c a e
def HW(a:List (List Ac)):Option (List Ac) :=
 iter (λb s=>Hp a (λc h e=>iter (λf s=>Hr c e (λi g=>some g) f s.1 s.2) AC (0,[])) b s.1 s.2.1 s.2.2) AC (0,0,[])
abbrev So(c:Ar)(f:Aa->Ar->Option (List Ac))(g:Aa)(h:Int->(List (List Ac))->Option (List Ac))(i:(Int×(List (List Ac)))->Option (List Ac))(a:Int)(b:List (List Ac)):Option (List Ac) :=
 bif decide (a<(c.G.length:Int))then
  (idx c.G a).bind λj =>
  (f g j).bind λe =>
  bif rm b.length [e].length then
   i ((i64.wrap (a+1)),(b++[e]))
  else none
 else
  h a b
def Ju(d:Nat)(c:Aa->Ar->Option (List Ac))(a:Aa)(b:Ar):Option (List Ac) :=
 (Nr a b).bind λe =>
 (BL d a b.X).bind λf =>
 (BL d a b.V).bind λg =>
 iter (λh s=>So b c a (λk i=>(HW i).bind λj=>some j) h s.1 s.2) AC (0,[e,f,g])
def CZ:Nat->Aa->Ar->Option (List Ac)
 | 0,_,_=>none
 | d+1,a,b=>Ju d (CZ d) a b
abbrev TD(b:List AH)(c:Ar)(e:Int->Option (Int×Int))(f:Int->Option (Int×Int))(a:Int):Option (Int×Int) :=
 bif decide (a>=0)then
  (idx b a).bind λg =>
  bif g.J.toList==c.J.toList then
   (idx b a).bind λh =>
   some (h.As.Kind,0)
  else
   f (i64.wrap (a-1))
 else
  e a
abbrev Pm(a:Ar)(b:List AH)(c:Bool):Option (Int×Int) :=
 bif a.Op==2 then
  iter (λe s=>TD b a (λg=>some (0,24)) e s) AC (i64.wrap ((b.length:Int)-1))
 else
  bif !c then
   some (0,16)
  else
   (E5 a.Op).bind λf =>
   bif f then
    some (1,0)
   else
    some ((i64.wrap ((i64.wrap (a.Op-10))+2)),0)
abbrev Jt(c:Ar)(f:(List AH)->Ar->Option (Int×Int))(g:List AH)(h:Bool->Int->Option (Int×Int))(i:(Bool×Int)->Option (Int×Int))(e:Bool)(a:Int):Option (Int×Int) :=
 bif decide (a<(c.G.length:Int))then
  (idx c.G a).bind λj =>
  (f g j).bind λb =>
  bif b.2 != 0 then
   some (0,b.2)
  else
   i ((bif e then(b.1==1)else false),(i64.wrap (a+1)))
 else
  h e a
def Hx(d:Nat)(c:(List AH)->Ar->Option (Int×Int))(a:List AH)(b:Ar):Option (Int×Int) :=
 iter (λe s=>Jt b c a (λf g=>Pm b a f) e s.1 s.2) AC (true,0)
def Hw:Nat->(List AH)->Ar->Option (Int×Int)
 | 0,_,_=>none
 | d+1,a,b=>Hx d (Hw d) a b
def L9(d:Nat)(a:Aa)(c:List Ac)(f:List AH)(b:Ar):Option (Int×Int) :=
 (Dd d a b).bind λg =>
 bif !g then
  some (0,11)
 else
  (Jd a c).bind λh =>
  bif h != 0 then
   some (0,23)
  else
   (CZ d a b).bind λi =>
   (BB c i).bind λj =>
   bif !j then
    some (0,23)
   else
    (Hw d f b).bind λe =>
    some (e.1,e.2)
def BZ(a:List Ac):Option (List Ac):=bif rm 0 a.length then some a else none
def Ee(a:List Ap):Option (List Ap):=bif rm 0 a.length then some a else none
def G7(a:List AO):Option (List AO):=bif rm 0 a.length then some a else none
def Ed(a:List Bd):Option (List Bd):=bif rm 0 a.length then some a else none
def Hd(a:List Ei):Option (List Ei):=bif rm 0 a.length then some a else none
def cX(cs:List Ap):Option (List Ap):=bif decide (cs.length<=1000000)&&cs.all (λc=>rm 0 c.U.length&&rm 0 c.C.length)then some cs else none
def FP(a:A9):Option A9 :=
 (BZ a.Table.Y).bind λb =>
 (Ee a.Table.Al).bind λc =>
 (cX c).bind λe =>
 (AG a.Model.An).bind λf =>
 (G7 a.Model.A1).bind λg =>
 (Ed a.Curve).bind λh =>
 (Hd a.Hist).bind λi =>
 (AG a.Lineage).bind λj =>
 some ({ Kind:=a.Kind,Number:=a.Number,Table:={ Y:=b,Ag:=a.Table.Ag,Al:=e },Model:={ Ag:=a.Model.Ag,An:=f,A1:=g,Ax:=a.Model.Ax,Ay:=a.Model.Ay,Ad:=a.Model.Ad,Ba:=a.Model.Ba },Curve:=h,Hist:=i,Box:=a.Box,Lineage:=j }:A9)
abbrev JL(a:Int):Option A9 :=
 some ({}:A9)
abbrev GO(b:A0)(c:ByteArray)(e:Int->Option A9)(f:Int->Option A9)(a:Int):Option A9 :=
 bif decide (a>=0)then
  (idx b.Aw a).bind λg =>
  bif g.J.toList==c.toList then
   (idx b.Aw a).bind λh =>
   (FP h.As).bind λi =>
   some i
  else
   f (i64.wrap (a-1))
 else
  e a
def E3(a:A0)(b:ByteArray):Option A9 :=
 iter (λc s=>GO a b JL c s) AC (i64.wrap ((a.Aw.length:Int)-1))
def GH(d:Nat)(c:Ah->(Ah->Option Int)->Option Int)(a:Ah)(b:Ah->Option Int):Option Int :=
 bif a.Op==1 then
  some 1
 else
  bif a.Op==5 then
   (idx a.G 0).bind λi =>
   (c i b).bind λe =>
   (idx a.G 1).bind λj =>
   (c j b).bind λf =>
   some (if f<e then f else e)
  else
   bif a.Op==6 then
    (idx a.G 0).bind λk =>
    (c k b).bind λg =>
    (idx a.G 1).bind λl =>
    (c l b).bind λh =>
    some (if h>g then h else g)
   else
    bif a.Op==7 then
     (idx a.G 0).bind λm =>
     (c m b).bind λn =>
     some (i64.wrap (0-n))
    else
     (b a).bind λo =>
     some o
def GG:Nat->Ah->(Ah->Option Int)->Option Int
 | 0,_,_=>none
 | d+1,a,b=>GH d (GG d) a b
def JB(a:Ah)(b:Aa)(c:List Int):Option Int :=
 (idx c a.B).bind λe =>
 (D8 b a e).bind λf =>
 some f
def Jv(d:Nat)(a:Aa)(b:Ah)(c:List Int):Option Int :=
 (GG d b (λa0=>JB a0 a c)).bind λe =>
 some e
abbrev O2(e:List Ac)(g:List Int)(h:Aa)(i:Int->(List Int)->Option Int)(j:(Int×(List Int))->Option Int)(a:Int)(c:List Int):Option Int :=
 bif decide (a<(e.length:Int))then
  (idx e a).bind λb =>
  (idx g a).bind λk =>
  (Cy h b.B b.T k).bind λf =>
  bif !f.2 then
   some 0
  else
   (idx c b.B).bind λl =>
   j ((i64.wrap (a+1)),(c.set (b.B:Int).toNat f.1))
 else
  i a c
abbrev O3(b:List Ac)(c:List Int)(a:Aa)(d:Nat)(e:Ah)(f:List Int):Option Int :=
 iter (λg s=>O2 b c a (λj h=>(Jv d a e h).bind λi=>some i) g s.1 s.2) AC (0,f)
abbrev Iq(c:Aa)(e:Int->(List Int)->Option Int)(f:(Int×(List Int))->Option Int)(a:Int)(b:List Int):Option Int :=
 bif decide (a<(b.length:Int))then
  (Cy c a 0 0).bind λg =>
  (idx b a).bind λh =>
  f ((i64.wrap (a+1)),(b.set (a:Int).toNat g.1))
 else
  e a b
def Fu(d:Nat)(a:Aa)(b:Ah)(c:List Ac)(e:List Int):Option Int :=
 bif decide (0<=(a.A.length:Int))&&rm ((a.A.length:Int):Int).toNat 0 then
  iter (λf s=>Iq a (λh g=>O3 c e a d b g) f s.1 s.2) AC (1,(List.replicate ((a.A.length:Int):Int).toNat 0))
 else none
def MF(e:Ao)(d:Nat)(g:Aa)(h:Ah)(i:Int->(List Int)->Option (List Int))(f:(Int×(List Int))->Option (List Int))(a:Int)(c:List Int):Option (List Int) :=
 bif decide (a<(e.C.length:Int))then
  (idx e.C a).bind λb =>
  bif decide (0<=(1:Int)/\1<=(b.length:Int)/\(b.length:Int)<=(b.length:Int))then
   (Fu d g h e.H (NB b 1 (b.length:Int))).bind λj =>
   bif j==1 then
    bif rm c.length [a].length then
     f ((i64.wrap (a+1)),(c++[a]))
    else none
   else
    f ((i64.wrap (a+1)),c)
  else none
 else
  i a c
def GD(a:Ao)(d:Nat)(b:Aa)(c:Ah):Option (List Int) :=
 iter (λe s=>MF a d b c (λg f=>some f) e s.1 s.2) AC (0,[])
def Ck(d:Nat)(a:Aa)(c:Ao)(b:Ah):Option (List Int) :=
 (BK d a b).bind λe =>
 bif e != 0 then
  some []
 else
  (BL d a b).bind λf =>
  (BB c.H f).bind λg =>
  bif !g then
   some []
  else
   GD c d a b
abbrev PU(c:List Int)(f:Ao)(g:Int->(List Int)->Option (List Int))(h:(Int×(List Int))->Option (List Int))(a:Int)(b:List Int):Option (List Int) :=
 bif decide (a<(c.length:Int))then
  (idx c a).bind λi =>
  (idx f.C i).bind λj =>
  (idx j 0).bind λe =>
  bif rm b.length [e].length then
   h ((i64.wrap (a+1)),(b++[e]))
  else none
 else
  g a b
def BV(a:Ao)(b:List Int):Option (List Int) :=
 iter (λc s=>PU b a (λf e=>some e) c s.1 s.2) AC (0,[])
abbrev Ie(b:List Int)(c:Int->Option Bool)(e:Int->Option Int)(f:Int->Option Int)(a:Int):Option Int :=
 bif decide (a<(b.length:Int))then
  (idx b a).bind λg =>
  (c g).bind λh =>
  bif h then
   some a
  else
   f (i64.wrap (a+1))
 else
  e a
def CR(a:List Int)(b:Int->Option Bool):Option Int :=
 iter (λc s=>Ie a b (λe=>some (-1)) c s) AC 0
def Bt(a:List Int)(b:Int->Option Bool):Option Bool :=
 (CR a b).bind λc =>
 some (decide (c>=0))
def IR(a:Ac)(b:Int):Option Bool :=
 some (a.B==b)
abbrev Ot(e:List Int)(f:Aq)(j:Int)(k:Int)(l:Int)(m:Int->Bool->Int->Option (Int×Bool))(g:(Int×Bool×Int)->Option (Int×Bool))(b:Int)(c:Bool)(a:Int):Option (Int×Bool) :=
 bif decide (a<(e.length:Int))then
  (idx e a).bind λh =>
  (I0 f h j).bind λn =>
  bif n != k then
   g (b,c,(i64.wrap (a+1)))
  else
   (I0 f h l).bind λi =>
   bif bif c then(i != b)else false then
    some (0,false)
   else
    g (i,true,(i64.wrap (a+1)))
 else
  m b c a
def EJ(a:Aq)(b:Int)(c:Int)(e:Int):Option (Int×Bool) :=
 (EW a).bind λf =>
 (Iz a (i64.wrap (f-1))).bind λg =>
 iter (λh s=>Ot g a b c e (λi j k=>some (i,j)) h s.1 s.2.1 s.2.2) AC (0,false,0)
def F9(a:Au)(c:Int)(e:Int)(f:Int):Option (Int×Bool) :=
 bif bif decide (c>0)then(e==(-1099511627776))else false then
  bif f==0 then
   some (0,a.A2)
  else
   some (e,a.A2)
 else
  (JY a c e).bind λb =>
  bif !b.2.2 then
   some (0,false)
  else
   bif f==0 then
    some (0,true)
   else
    bif bif c==0 then a.A2 else false then
     some (0,false)
    else
     (Hv a f).bind λg =>
     (Fh b.1 g).bind λh =>
     (Fh b.1 g).bind λi =>
     (Fh b.2.1 g).bind λj =>
     some (h,(i==j))
def D6(c:Aa)(f:Int)(a:Int)(g:Int)(b:Int):Option (Int×Bool) :=
 (G4 c f).bind λh =>
 bif bif bif bif decide (a<0)then true else(decide (a>h))then true else(decide (b<0))then true else(decide (b>h))then
  some (0,false)
 else
  (idx c.A f).bind λe =>
  bif e.Kind==2 then
   (idx c.K e.Am).bind λk =>
   (EJ k a g b).bind λi =>
   bif !i.2 then
    some (0,false)
   else
    some (i.1,true)
  else
   (F9 e a g b).bind λj =>
   bif !j.2 then
    some (0,false)
   else
    some (j.1,true)
def Be(e:Aa)(a:Ao)(i:Int)(b:Int)(f:Int):Option (Int×Bool) :=
 (By a.H (λa0=>IR a0 b)).bind λc =>
 bif decide (c<0)then
  (D6 e b 0 0 f).bind λg =>
  some (g.1,g.2)
 else
  (idx a.H c).bind λj =>
  (idx a.C i).bind λk =>
  (idx k (i64.wrap (c+1))).bind λl =>
  (D6 e b j.T l f).bind λh =>
  some (h.1,h.2)
def C1(a:Int)(b:Aa)(e:Ao)(f:Int):Option Bool :=
 (Ff b a).bind λg =>
 (Be b e f a g).bind λc =>
 some (bif !c.2 then true else(c.1==(-1099511627776)))
def Cs(a:Int)(b:List Int)(c:Aa)(e:Ao):Option Bool :=
 (Bt b (λa0=>C1 a0 c e a)).bind λf =>
 some f
def BP(d:Nat)(a:Aa)(b:Ao)(c:Ah)(e:List Int):Option (List Int) :=
 (Cv a b).bind λf =>
 bif f != 0 then
  some []
 else
  (Ck d a b c).bind λg =>
  (DK g (λa0=>Cs a0 e a b)).bind λh =>
  some h
abbrev Ow(c:List Int)(e:Aa)(f:Int)(h:Ao)(i:Int->(List Int)->Option (List Int))(j:(Int×(List Int))->Option (List Int))(a:Int)(b:List Int):Option (List Int) :=
 bif decide (a<(c.length:Int))then
  (idx c a).bind λk =>
  (Ff e f).bind λl =>
  (Be e h k f l).bind λg =>
  bif rm b.length [g.1].length then
   j ((i64.wrap (a+1)),(b++[g.1]))
  else none
 else
  i a b
def Bu(a:Aa)(b:Ao)(c:List Int)(e:Int):Option (List Int) :=
 iter (λf s=>Ow c a e b (λh g=>some g) f s.1 s.2) AC (0,[])
abbrev Ek(g:Ar)(b:List Int)(e:A0)(f:Int):Option (A9×Int) :=
 bif g.Op==5 then
  (Gj f (b.length:Int)).bind λa =>
  bif a.2 != 0 then
   some (({}:A9),a.2)
  else
   (BV e.I.Q b).bind λc =>
   some (({ Kind:=1,Number:=a.1,Lineage:=c }:A9),0)
 else
  (Gj f 1).bind λa =>
  bif a.2 != 0 then
   some (({}:A9),a.2)
  else
   (BV e.I.Q b).bind λc =>
   some (({ Kind:=1,Number:=a.1,Lineage:=c }:A9),0)
abbrev Cb(b:List Int)(e:Int->Int->Option (A9×Int))(f:(Int×Int)->Option (A9×Int))(c:Int)(a:Int):Option (A9×Int) :=
 bif decide (a<(b.length:Int))then
  (idx b a).bind λg =>
  f ((i64.wrap (c+g)),(i64.wrap (a+1)))
 else
  e c a
def BU(d:Nat)(a:A0)(b:Ar):Option (A9×Int) :=
 (BP d a.I.Ai a.I.Q b.X [b.B]).bind λc =>
 (Bu a.I.Ai a.I.Q c b.B).bind λe =>
 iter (λf s=>Cb e (λg h=>Ek b c a g) f s.1 s.2) AC (0,0)
def Eo(b:Aa)(a:Int):Option Int :=
 bif bif decide (a<0)then true else(decide (a>=(b.A.length:Int)))then
  some 0
 else
  (idx b.A a).bind λc =>
  some c.Kind
def Ge(a:Ac)(b:Ac):Option Bool :=
 some (a.B==b.B)
def Gb(a:Ah):Option Bool :=
 some (bif bif bif bif bif a.Op==0 then(a.B==0)else false then(a.Z==0)else false then(a.D==0)else false then(a.E==0)else false then((a.G.length:Int)==0)else false)
abbrev I3(a:AE)(c:Aa):Option Int :=
 bif a.Ag != (-1)then
  (Eo c a.Ag).bind λe =>
  bif e != 3 then
   some 7
  else
   bif decide ((a.An.length:Int)>0)then
    some 11
   else
    (Gb a.V).bind λb =>
    bif !b then
     some 11
    else
     some 0
 else
  bif decide ((a.An.length:Int)>0)then
   some 11
  else
   (Gb a.V).bind λb =>
   bif !b then
    some 11
   else
    some 0
abbrev Mc(b:AE)(e:Aa)(g:Int->Option Int)(h:Int->Option Int)(a:Int):Option Int :=
 bif decide (a<(b.Y.length:Int))then
  (idx b.Y a).bind λc =>
  (Mw e c).bind λf =>
  bif f != 0 then
   some f
  else
   (Eo e c.B).bind λi =>
   bif i != 2 then
    some 7
   else
    bif decide (0<=(0:Int)/\0<=a/\a<=(b.Y.length:Int))then
     (AI (NB b.Y 0 a) (λa0=>Ge a0 c)).bind λj =>
     bif j then
      some 10
     else
      h (i64.wrap (a+1))
    else none
 else
  g a
def Gd(b:Aa)(a:AE):Option Int :=
 bif bif decide ((a.Y.length:Int)<1)then true else(decide ((a.Y.length:Int)>3))then
  some 1
 else
  iter (λc s=>Mc a b (λe=>I3 a b) c s) AC 0
def Ga(d:Nat)(b:Aa)(a:AE):Option Int :=
 (CN b).bind λc =>
 bif c != 0 then
  some c
 else
  (Cz a.J).bind λf =>
  bif !f then
   some 3
  else
   bif bif decide (a.Kind<1)then true else(decide (a.Kind>3))then
    some 4
   else
    (BK d b a.A3).bind λe =>
    bif e != 0 then
     some e
    else
     bif a.Kind==1 then
      (Gd b a).bind λg =>
      some g
     else
      bif a.Kind==2 then
       none
      else
       none
def KZ(d:Nat)(a:Aa)(b:List Ac)(c:Int)(e:Ah):Option Int :=
 (Ga d a ({ J:={ data:=#[116] },Kind:=1,A3:=e,Y:=b,Ag:=c }:AE)).bind λf =>
 some f
def He(d:Nat)(a:Aa)(b:Ar):Option (List Ac) :=
 (CN a).bind λc =>
 bif c != 0 then
  some []
 else
  (Dd d a b).bind λe =>
  bif !e then
   some []
  else
   (CZ d a b).bind λf =>
   some f
def qN:Option (List (List Int)):=some [[]]
def OM(f:List Int)(g:List Int)(h:Int->(List (List Int))->Option ((List (List Int))×Bool))(i:(Int×(List (List Int)))->Option ((List (List Int))×Bool))(a:Int)(b:List (List Int)):Option ((List (List Int))×Bool) :=
 bif decide (a<(([(-1)]++f).length:Int))then
  (idx ([(-1)]++f) a).bind λc =>
  (AG g).bind λe =>
  bif rm e.length [c].length then
   bif rm b.length ([(e++[c])]).length then
    i ((i64.wrap (a+1)),(b++[(e++[c])]))
   else none
  else none
 else
  h a b
def OL(b:List (List Int))(e:List Int)(f:Int->(List (List Int))->Option ((List (List Int))×Bool))(g:(Int×(List (List Int)))->Option ((List (List Int))×Bool))(a:Int)(c:List (List Int)):Option ((List (List Int))×Bool) :=
 bif decide (a<(b.length:Int))then
  (idx b a).bind λh =>
  iter (λi s=>OM e h (λk j=>g ((i64.wrap (a+1)),j)) i s.1 s.2) AC (0,c)
 else
  f a c
def EE(e:List Ac)(f:Aa)(h:(List (List Int))->Int->Option ((List (List Int))×Bool))(i:((List (List Int))×Int)->Option ((List (List Int))×Bool))(b:List (List Int))(a:Int):Option ((List (List Int))×Bool) :=
 bif decide (a<(e.length:Int))then
  (idx e a).bind λg =>
  (idx f.A g.B).bind λj =>
  (idx f.K j.Am).bind λk =>
  (Iz k g.T).bind λc =>
  bif rm [(-1)].length c.length then
   bif decide ((i64.wrap ((b.length:Int)*(([(-1)]++c).length:Int)))>2000)then
    some ([],false)
   else
    iter (λl s=>OL b c (λn m=>i (m,(i64.wrap (a+1)))) l s.1 s.2) AC (0,[])
  else none
 else
  h b a
def FD(a:Aa)(b:List Ac):Option ((List (List Int))×Bool) :=
 (qN ).bind λc =>
 iter (λe s=>EE b a (λf g=>some (f,true)) e s.1 s.2) AC (c,0)
abbrev Ox(b:List Int)(f:List Int)(g:Int->Option Bool)(c:Int->Option Bool)(a:Int):Option Bool :=
 bif decide (a<(b.length:Int))then
  (idx b a).bind λe =>
  bif e != (-1)then
   (idx f a).bind λh =>
   bif e != h then
    some false
   else
    c (i64.wrap (a+1))
  else
   c (i64.wrap (a+1))
 else
  g a
def Ci(a:List Int)(b:List Int):Option Bool :=
 iter (λc s=>Ox b a (λe=>some true) c s) AC 0
def BG(c:Ap)(key:Int)(value:Int)(measured:Bool):Ap :=
 bif measured then
  bif decide (c.A6<max value (i64.wrap (-value)))then
   { c with Ad:=i64.wrap (c.Ad+1),C:=c.C++[key],A4:=i64.wrap (c.A4+value),A5:=i64.wrap (c.A5+max value (i64.wrap (-value))),A6:=max value (i64.wrap (-value)),Bb:=c.A6 }
  else bif decide (c.Bb<max value (i64.wrap (-value)))then
   { c with Ad:=i64.wrap (c.Ad+1),C:=c.C++[key],A4:=i64.wrap (c.A4+value),A5:=i64.wrap (c.A5+max value (i64.wrap (-value))),Bb:=max value (i64.wrap (-value)) }
  else { c with Ad:=i64.wrap (c.Ad+1),C:=c.C++[key],A4:=i64.wrap (c.A4+value),A5:=i64.wrap (c.A5+max value (i64.wrap (-value))) }
 else { c with Ad:=i64.wrap (c.Ad+1),C:=c.C++[key] }
def Cu(own:List Int)(key:Int)(value:Int)(measured:Bool):(List Ap)->Option (List Ap)
 | []=>some []
 | c :: r=>bif decide (c.C.length<=1000000)then(Ci own c.U).bind λb=>(Cu own key value measured r).bind λcs=>some ((bif b then BG c key value measured else c) :: cs)else none
def CO(a:Aa)(b:Ao)(row:Int):(List Ac)->Option (List Int)
 | []=>some []
 | p :: r=>(Be a b row p.B p.T).bind λv=>(CO a b row r).bind λvs=>some (v.1 :: vs)
def FE(b:Aa)(c:Ao)(a:Int)(row:Int):Option Int :=
 bif decide (0<=a)then(Bu b c [row] a).bind λv=>idx v 0 else some 0
def DO(b:Aa)(a:Ao)(e:List Ac)(c:Int):(List Int)->(List Ap)->Option (List Ap)
 | [],cs=>some cs
 | row :: r,cs =>
  (FE b a c row).bind λv =>
  (CO b a row e).bind λown =>
  (idx a.C row).bind λl=>(idx l 0).bind λkey =>
  (Cu own key v (decide (0<=c)) cs).bind λcs=>DO b a e c r cs
def Js(b:Aa)(e:Ao)(a:List Ac)(f:Int)(l:List Int)(cs:List Ap):Option (List Ap) :=
 bif decide (l.length<=1000000/\a.length<=1000000/\cs.length<=1000000/\0<cs.length)&&cs.all λc=>c.C.isEmpty then DO b e a f l cs else none
def XF(b:List Ap)(l:List Int):Option (List Ap):=bif decide (b.length<=1000000)then some (b++[{ U:=l,Ad:=0,A4:=0,A5:=0,A6:=0,Bb:=0,C:=[] }])else none
def BS(c:Ap):D:=.agg [(Am 1 (D.int .i64)) c.U,.int .i64 c.Ad,.int .i64 c.A4,.int .i64 c.A5,.int .i64 c.A6,.int .i64 c.Bb,.nil 1]
def Dw(d:Nat)(a:Aa)(b:Ao)(e:Ah)(f:List Ac)(c:Int)(g:List Ap)(h:List Ac)(i:List Int):Option (El×Int) :=
 (BP d a b e i).bind λj =>
 (Js a b f c j g).bind λk =>
 some (({ Y:=h,Ag:=c,Al:=k }:El),0)
def Dv(a:Int)(d:Nat)(b:Aa)(c:Ao)(e:Ah)(f:List Ac)(g:List Ac)(h:List Ap):Option (El×Int) :=
 bif decide (a>=0)then
  Dw d b c e f a h g [a]
 else
  Dw d b c e f a h g []
def PV(b:(List (List Int))×Bool)(e:Int->(List Ap)->Option (El×Int))(f:(Int×(List Ap))->Option (El×Int))(a:Int)(c:List Ap):Option (El×Int) :=
 bif decide (a<(b.1.length:Int))then
  (idx b.1 a).bind λg =>
  (XF c g).bind λh =>
  f ((i64.wrap (a+1)),h)
 else
  e a c
def CJ(d:Nat)(a:Aa)(c:Ao)(b:List Ac)(e:Int)(f:Ah):Option (El×Int) :=
 (Cv a c).bind λg =>
 bif g != 0 then
  some (({}:El),g)
 else
  (KZ d a b e f).bind λh =>
  bif h != 0 then
   some (({}:El),h)
  else
   (He d a ({ Op:=10,B:=e,Y:=b,X:=f }:Ar)).bind λj =>
   (BB c.H j).bind λk =>
   bif !k then
    some (({}:El),23)
   else
    (FD a b).bind λi =>
    bif !i.2 then
     some (({}:El),1)
    else
     (BZ b).bind λl =>
     iter (λm s=>PV i (λo n=>Dv e d a c f b l n) m s.1 s.2) AC (0,[])
def GA(a:Int):Option Bool :=
 some (bif decide (a<(-1000000))then true else(decide (a>1000000)))
abbrev MC(b:List (List Int))(e:Int->Option Bool)(f:Int->Option Bool)(a:Int):Option Bool :=
 bif decide (a<(b.length:Int))then
  (idx b a).bind λc =>
  (idx b 0).bind λg =>
  bif(c.length:Int) != (g.length:Int)then
   some false
  else
   (Bt c GA).bind λh =>
   bif h then
    some false
   else
    f (i64.wrap (a+1))
 else
  e a
abbrev MD(a:List (List Int)):Option Bool :=
 iter (λb s=>MC a (λc=>some true) b s) AC 0
def GU(a:List (List Int)):Option Bool :=
 bif bif(a.length:Int)==0 then true else(decide ((a.length:Int)>200))then
  some false
 else
  (idx a 0).bind λb =>
  bif decide ((b.length:Int)<1)then
   some false
  else
   (idx a 0).bind λc =>
   bif decide ((c.length:Int)>5)then
    some false
   else
    MD a
def Jz(e:AY)(g:(Int×AY)->Option Bool)(h:Int)(a:Int):Option Bool :=
 (H7 e.D (u64.wrap (if 1>a then 1 else a))).bind λc =>
 (H7 e.E (u64.wrap (if 1>a then 1 else a))).bind λf =>
 (J0 f.2 c.1 0).bind λb =>
 bif bif bif decide ((u64.wrap (f.1+b.2))>0)then true else(decide (b.1>72057594037927936))then true else(bif b.1==72057594037927936 then(decide (c.2>0))else false)then
  some true
 else
  g ((i64.wrap (h+1)),({ E:=b.1,D:=c.2 }:AY))
abbrev Jy(c:List Int)(f:Int->Int->Option Bool)(g:(Int×Int)->Option Bool)(e:Int)(a:Int):Option Bool :=
 bif decide (a<(c.length:Int))then
  (idx c a).bind λb =>
  g ((i64.wrap (e+(if(i64.wrap (0-b))>b then(i64.wrap (0-b))else b))),(i64.wrap (a+1)))
 else
  f e a
def QJ(b:List (List Int))(e:Int->AY->Option Bool)(f:(Int×AY)->Option Bool)(a:Int)(c:AY):Option Bool :=
 bif decide (a<(b.length:Int))then
  (idx b a).bind λg =>
  iter (λh s=>Jy g (λi j=>Jz c f a i) h s.1 s.2) AC (0,0)
 else
  e a c
def Kt(a:List (List Int)):Option Bool :=
 (Rn 1).bind λb =>
 iter (λc s=>QJ a (λe f=>some false) c s.1 s.2) AC (0,b)
abbrev QF(b:List Int)(e:Int->Option Int)(f:Int->Option Int)(a:Int):Option Int :=
 bif decide (a<(b.length:Int))then
  (idx b a).bind λc =>
  bif bif decide (c<(-2147483648))then true else(decide (c>2147483648))then
   some 2
  else
   f (i64.wrap (a+1))
 else
  e a
abbrev QE(b:List (List Int))(c:Int->Option Int)(e:Int->Option Int)(a:Int):Option Int :=
 bif decide (a<(b.length:Int))then
  (idx b a).bind λf =>
  iter (λg s=>QF f (λh=>e (i64.wrap (a+1))) g s) AC 0
 else
  c a
abbrev QG(a:List (List Int)):Option Int :=
 iter (λb s=>QE a (λe=>(Kt a).bind λc=>bif c then   some 14 else   some 0) b s) AC 0
abbrev QD(b:List (List Int))(c:Int->Option Int)(e:Int->Option Int)(a:Int):Option Int :=
 bif decide (a<(b.length:Int))then
  (idx b a).bind λf =>
  bif(f.length:Int) != (b.length:Int)then
   some 17
  else
   e (i64.wrap (a+1))
 else
  c a
def Gm(a:List (List Int)):Option Int :=
 bif(a.length:Int)==0 then
  some 18
 else
  bif decide ((a.length:Int)>5)then
   some 1
  else
   iter (λb s=>QD a (λc=>QG a) b s) AC 0
abbrev QI(e:List (List Int))(f:List Int)(g:AY)(h:Int->(List AO)->Option ((List AO)×Int))(i:(Int×(List AO))->Option ((List AO)×Int))(a:Int)(c:List AO):Option ((List AO)×Int) :=
 bif decide (a<(e.length:Int))then
  (H6 e a f).bind λj =>
  (Dq j).bind λk =>
  (GL k g).bind λb =>
  bif b.2 != 0 then
   some ([],b.2)
  else
   bif rm c.length [b.1].length then
    i ((i64.wrap (a+1)),(c++[b.1]))
   else none
 else
  h a c
abbrev M0(a:List (List Int))(c:List Int):Option ((List AO)×Int) :=
 (Dq a).bind λb =>
 (F0 b).bind λe =>
 bif e==0 then
  some ([],15)
 else
  iter (λf s=>QI a c b (λh g=>some (g,0)) f s.1 s.2) AC (0,[])
abbrev QH(b:List (List Int))(e:List Int)(f:Int->Option ((List AO)×Int))(g:Int->Option ((List AO)×Int))(a:Int):Option ((List AO)×Int) :=
 bif decide (a<(b.length:Int))then
  (H6 b a e).bind λh =>
  (Gm h).bind λc =>
  bif c != 0 then
   some ([],c)
  else
   g (i64.wrap (a+1))
 else
  f a
def Ks(a:List (List Int))(b:List Int):Option ((List AO)×Int) :=
 (Gm a).bind λc =>
 bif c != 0 then
  some ([],c)
 else
  bif(b.length:Int) != (a.length:Int)then
   some ([],17)
  else
   iter (λe s=>QH a b (λf=>M0 a b) e s) AC 0
def Kr(a:List (List Int))(b:List (List Int)):Option (AO×Int) :=
 (Gm a).bind λc =>
 bif c != 0 then
  some (({}:AO),c)
 else
  (Gm b).bind λe =>
  bif e != 0 then
   some (({}:AO),e)
  else
   (Dq b).bind λf =>
   (F0 f).bind λh =>
   bif h==0 then
    some (({}:AO),15)
   else
    (Dq a).bind λi =>
    (GL i f).bind λg =>
    some (g.1,g.2)
abbrev VV(a:List (List Int))(b:Int)(e:Int)(f:Int):Option (AO×Int) :=
 (Gj (i64.wrap ((i64.wrap ((a.length:Int)*e))-(i64.wrap (b*b)))) (a.length:Int)).bind λc =>
 some (c.1,c.2)
abbrev Jb(c:List (List Int))(g:Int->Int->Int->Option (AO×Int))(h:(Int×Int×Int)->Option (AO×Int))(e:Int)(f:Int)(a:Int):Option (AO×Int) :=
 bif decide (a<(c.length:Int))then
  (idx c a).bind λb =>
  (idx b 0).bind λi =>
  (idx b 0).bind λj =>
  (idx b 0).bind λk =>
  h ((i64.wrap (e+i)),(i64.wrap (f+(i64.wrap (j*k)))),(i64.wrap (a+1)))
 else
  g e f a
def Jr(a:List (List Int)):Option (AO×Int) :=
 iter (λb s=>Jb a (VV a) b s.1 s.2.1 s.2.2) AC (0,0,0)
def KS(b:List (List Int))(g:List (List Int))(h:List (List Int))(i:List Int):Option (Ct×Int) :=
 (KU g).bind λf =>
 (Ks f i).bind λa =>
 bif a.2 != 0 then
  some (({}:Ct),a.2)
 else
  (KU h).bind λj =>
  (Kr j f).bind λc =>
  bif c.2 != 0 then
   some (({}:Ct),c.2)
  else
   (Jr b).bind λe =>
   bif e.2 != 0 then
    some (({}:Ct),e.2)
   else
    some (({ A1:=a.1,Ax:=c.1,Ay:=e.1,Ad:=(b.length:Int),Ba:=(i64.wrap ((b.length:Int)-(a.1.length:Int))) }:Ct),0)
def KT(b:(Int×(List (List Int))×(List (List Int))×(List Int))->Option (Ct×Int))(c:Int)(e:List (List Int))(a:List Int)(f:List (List Int))(g:List Int)(h:Int)(j:Int)(i:List Int):Option (Ct×Int) :=
 b ((i64.wrap (c+1)),(e++[([1]++(NB a 1 (a.length:Int)))]),(f++[(g++[h])]),i)
def KP(b:List Int)(e:Int->(List Int)->Option (Ct×Int))(f:(Int×(List Int))->Option (Ct×Int))(a:Int)(c:List Int):Option (Ct×Int) :=
 bif decide (a<(([1]++(NB b 1 (b.length:Int))).length:Int))then
  (idx ([1]++(NB b 1 (b.length:Int))) a).bind λg =>
  (idx c a).bind λh =>
  (idx b 0).bind λi =>
  (idx c a).bind λj =>
  f ((i64.wrap (a+1)),(c.set (a:Int).toNat (i64.wrap (h+(i64.wrap (g*i))))))
 else
  e a c
def KO(h:List (List Int))(j:Int->(List (List Int))->(List (List Int))->(List Int)->Option (Ct×Int))(k:(Int×(List (List Int))×(List (List Int))×(List Int))->Option (Ct×Int))(b:Int)(c:List (List Int))(e:List (List Int))(i:List Int):Option (Ct×Int) :=
 bif decide (b<(h.length:Int))then
  (idx h b).bind λa =>
  bif decide (0<=(1:Int)/\1<=(a.length:Int)/\(a.length:Int)<=(a.length:Int))then
   bif rm [1].length (NB a 1 (a.length:Int)).length then
    bif rm c.length ([([1]++(NB a 1 (a.length:Int)))]).length then
     (AG ([1]++(NB a 1 (a.length:Int)))).bind λf =>
     (idx a 0).bind λg =>
     bif rm f.length [g].length then
      bif rm e.length ([(f++[g])]).length then
       iter (λl s=>KP a (KT k b c a e f g) l s.1 s.2) AC (0,i)
      else none
     else none
    else none
   else none
  else none
 else
  j b c e i
def KR(a:List (List Int)):Option (Ct×Int) :=
 (idx a 0).bind λb =>
 bif decide (0<=(b.length:Int))&&rm ((b.length:Int):Int).toNat 0 then
  iter (λc s=>KO a (λh e f g=>KS a e f g) c s.1 s.2.1 s.2.2.1 s.2.2.2) AC (0,[],[],(List.replicate ((b.length:Int):Int).toNat 0))
 else none
def Mv(a:List (List Int)):Option (Ct×Int) :=
 (GU a).bind λb =>
 bif !b then
  some (({}:Ct),11)
 else
  (idx a 0).bind λc =>
  bif decide ((c.length:Int)<2)then
   some (({}:Ct),11)
  else
   (idx a 0).bind λe =>
   bif decide ((e.length:Int)>4)then
    some (({}:Ct),11)
   else
    KR a
def Gv(a:Aa)(b:Ao)(rows:List Int):(List Int)->(List (List Int))->Option (List (List Int))
 | [],cs=>some cs
 | c :: r,cs=>(Bu a b rows c).bind λv=>bif v.length==cs.length then Gv a b rows r (cs.zipWith (λl x=>l++[x]) v)else none
def Pg(p:List Int)(q:List Int):Option (List (List Int)):=bif decide (p.length<=1000000/\q.length<=1000000)then some (List.replicate p.length [])else none
def Dk(d:Nat)(e:Aa)(f:Ao)(a:Int)(b:List Int)(g:Ah):Option (Ct×(List Int)×Int) :=
 (Cv e f).bind λi =>
 bif i != 0 then
  some (({}:Ct),[],i)
 else
  (Dd d e ({ Op:=11,B:=a,A:=b,X:=g }:Ar)).bind λj =>
  bif !j then
   some (({}:Ct),[],11)
  else
   (He d e ({ Op:=11,B:=a,A:=b,X:=g }:Ar)).bind λk =>
   (BB f.H k).bind λl =>
   bif !l then
    some (({}:Ct),[],23)
   else
    bif rm [a].length b.length then
     (BP d e f g ([a]++b)).bind λh =>
     (Pg h ([a]++b)).bind λm =>
     (Gv e f h ([a]++b) m).bind λn =>
     (Mv n).bind λc =>
     bif c.2 != 0 then
      some (({}:Ct),[],c.2)
     else
      (AG b).bind λo =>
      (BV f h).bind λp =>
      some (({ Ag:=a,An:=o,A1:=c.1.A1,Ax:=c.1.Ax,Ay:=c.1.Ay,Ad:=c.1.Ad,Ba:=c.1.Ba }:Ct),p,0)
    else none
abbrev M7(e:Aa)(b:Ao)(c:List Int)(f:Int)(j:Int)(g:List Bool):Option ((List Bd)×(List Int)×Int) :=
 (Bu e b c f).bind λh =>
 (Pk h g).bind λa =>
 bif a.2 != 0 then
  some ([],[],a.2)
 else
  (BV b c).bind λi =>
  some (a.1,i,0)
abbrev FU(c:List Int)(e:List Int)(f:Int->(List Bool)->Option ((List Bd)×(List Int)×Int))(g:(Int×(List Bool))->Option ((List Bd)×(List Int)×Int))(a:Int)(b:List Bool):Option ((List Bd)×(List Int)×Int) :=
 bif decide (a<(c.length:Int))then
  (idx c a).bind λh =>
  (AP e h).bind λi =>
  (idx b a).bind λj =>
  g ((i64.wrap (a+1)),(b.set (a:Int).toNat i))
 else
  f a b
def Dm(d:Nat)(a:Aa)(b:Ao)(e:Int)(f:Ah)(g:Ah):Option ((List Bd)×(List Int)×Int) :=
 (Cv a b).bind λh =>
 bif h != 0 then
  some ([],[],h)
 else
  (Dd d a ({ Op:=12,B:=e,X:=g,V:=f }:Ar)).bind λi =>
  bif !i then
   some ([],[],11)
  else
   (He d a ({ Op:=12,B:=e,X:=g,V:=f }:Ar)).bind λj =>
   (BB b.H j).bind λk =>
   bif !k then
    some ([],[],23)
   else
    (BP d a b g [e]).bind λc =>
    (Ck d a b f).bind λl =>
    bif decide (0<=(c.length:Int))&&rm ((c.length:Int):Int).toNat 0 then
     iter (λm s=>FU c l (M7 a b c e) m s.1 s.2) AC (0,(List.replicate ((c.length:Int):Int).toNat false))
    else none
def Ea(d:Nat)(a:Aa)(b:Ao)(c:Ar):Option Int :=
 (Cv a b).bind λe =>
 bif e != 0 then
  some e
 else
  (Dd d a c).bind λf =>
  bif !f then
   some 11
  else
   (He d a c).bind λg =>
   (BB b.H g).bind λh =>
   bif !h then
    some 23
   else
    some 0
def NX(a:Int):Option Bool :=
 some (bif decide (a<(-1000000))then true else(decide (a>1000000)))
def SH(a:Int)(b:Int):Option Int :=
 bif decide (b≠0)then
  bif decide ((Int.tmod a b)<0)then
   some (i64.wrap (a-(i64.wrap ((Int.tmod a b)+b))))
  else
   some (i64.wrap (a-(Int.tmod a b)))
 else none
def MW(h:List Int)(i:Int)(j:Int->(List Ei)->Option ((List Ei)×Int))(g:(Int×(List Ei))->Option ((List Ei)×Int))(c:Int)(a:List Ei):Option ((List Ei)×Int) :=
 bif decide (c<(h.length:Int))then
  (idx h c).bind λk =>
  (SH k i).bind λb =>
  bif(a.length:Int)==0 then
   bif rm a.length [({ D:=b }:Ei)].length then
    (idx (a++[({ D:=b }:Ei)]) (i64.wrap (((a++[({ D:=b }:Ei)]).length:Int)-1))).bind λe =>
    (idx (a++[({ D:=b }:Ei)]) (i64.wrap (((a++[({ D:=b }:Ei)]).length:Int)-1))).bind λf =>
    g ((i64.wrap (c+1)),((a++[({ D:=b }:Ei)]).set ((i64.wrap (((a++[({ D:=b }:Ei)]).length:Int)-1)):Int).toNat ({ D:=f.D,Ad:=(i64.wrap (e.Ad+1)) }:Ei)))
   else none
  else
   (idx a (i64.wrap ((a.length:Int)-1))).bind λl =>
   bif l.D != b then
    bif rm a.length [({ D:=b }:Ei)].length then
     (idx (a++[({ D:=b }:Ei)]) (i64.wrap (((a++[({ D:=b }:Ei)]).length:Int)-1))).bind λe =>
     (idx (a++[({ D:=b }:Ei)]) (i64.wrap (((a++[({ D:=b }:Ei)]).length:Int)-1))).bind λf =>
     g ((i64.wrap (c+1)),((a++[({ D:=b }:Ei)]).set ((i64.wrap (((a++[({ D:=b }:Ei)]).length:Int)-1)):Int).toNat ({ D:=f.D,Ad:=(i64.wrap (e.Ad+1)) }:Ei)))
    else none
   else
    (idx a (i64.wrap ((a.length:Int)-1))).bind λe =>
    (idx a (i64.wrap ((a.length:Int)-1))).bind λf =>
    g ((i64.wrap (c+1)),(a.set ((i64.wrap ((a.length:Int)-1)):Int).toNat ({ D:=f.D,Ad:=(i64.wrap (e.Ad+1)) }:Ei)))
 else
  j c a
def MY(a:List Int)(b:Int):Option ((List Ei)×Int) :=
 (AG a).bind λc =>
 (Du c).bind λe =>
 iter (λf s=>MW e b (λh g=>some (g,0)) f s.1 s.2) AC (0,[])
def Nn(a:List Int)(b:Int):Option ((List Ei)×Int) :=
 bif decide ((a.length:Int)>200)then
  some ([],1)
 else
  bif bif decide (b<1)then true else(decide (b>1000000))then
   some ([],2)
  else
   (Bt a NX).bind λc =>
   bif c then
    some ([],2)
   else
    MY a b
abbrev Kv(b:Int)(c:Ao)(h:Int)(e:List Int)(f:List Int):Option ((List Ei)×(List Int)×Int) :=
 (Nn f b).bind λa =>
 bif a.2 != 0 then
  some ([],[],a.2)
 else
  (BV c e).bind λg =>
  some (a.1,g,0)
abbrev IW(g:List Int)(h:Aa)(i:Int)(k:Int)(l:Ao)(m:Int->(List Int)->(List Int)->Option ((List Ei)×(List Int)×Int))(j:(Int×(List Int)×(List Int))->Option ((List Ei)×(List Int)×Int))(a:Int)(b:List Int)(c:List Int):Option ((List Ei)×(List Int)×Int) :=
 bif decide (a<(g.length:Int))then
  (idx g a).bind λf =>
  (Ik h i k).bind λn =>
  (Be h l f i n).bind λe =>
  bif bif e.2 then(e.1 != (-1099511627776))else false then
   bif rm b.length [f].length then
    bif rm c.length [e.1].length then
     j ((i64.wrap (a+1)),(b++[f]),(c++[e.1]))
    else none
   else none
  else
   j ((i64.wrap (a+1)),b,c)
 else
  m a b c
def FS(d:Nat)(b:Aa)(a:Ao)(e:Int)(c:Int)(f:Ah):Option ((List Ei)×(List Int)×Int) :=
 (Ea d b a ({ Op:=13,L:=c,B:=e,X:=f }:Ar)).bind λg =>
 bif g != 0 then
  some ([],[],g)
 else
  (Ck d b a f).bind λh =>
  iter (λi s=>IW h b e c a (Kv c a) i s.1 s.2.1 s.2.2) AC (0,[],[])
def IA(a:List Int):Option (Pp×Int) :=
 bif decide ((a.length:Int)>200)then
  some (({}:Pp),1)
 else
  (Bt a NX).bind λc =>
  bif c then
   some (({}:Pp),2)
  else
   bif(a.length:Int)==0 then
    some (({}:Pp),18)
   else
    (AG a).bind λe =>
    (Du e).bind λb =>
    (idx b 0).bind λf =>
    (idx b (i64.wrap (Int.tdiv (i64.wrap ((a.length:Int)-1)) 4))).bind λg =>
    (idx b (i64.wrap (Int.tdiv (i64.wrap ((a.length:Int)-1)) 2))).bind λh =>
    (idx b (i64.wrap (Int.tdiv (i64.wrap (3*(i64.wrap ((a.length:Int)-1)))) 4))).bind λi =>
    (idx b (i64.wrap ((a.length:Int)-1))).bind λj =>
    some (({ Ad:=(a.length:Int),Bf:=f,Bh:=g,Bi:=h,Bj:=i,Bk:=j }:Pp),0)
def H9(d:Nat)(b:Aa)(a:Ao)(c:Int)(f:Ah):Option (Pp×(List Int)×Int) :=
 (Ea d b a ({ Op:=14,B:=c,X:=f }:Ar)).bind λg =>
 bif g != 0 then
  some (({}:Pp),[],g)
 else
  (BP d b a f [c]).bind λh =>
  (Bu b a h c).bind λi =>
  (IA i).bind λe =>
  bif e.2 != 0 then
   some (({}:Pp),[],e.2)
  else
   (BV a h).bind λj =>
   some (e.1,j,0)
def Bw(a:Int)(b:Int)(c:List Ac)(e:Int)(f:List Ap)(g:Int)(h:List Int)(i:List AO)(j:Int)(k:Int)(l:Int)(m:Int)(n:Int)(o:Int)(p:List Bd)(q:List Ei)(r:Int)(t:Int)(u:Int)(v:Int)(w:Int)(x:Int)(y:List Int):Option (A9×Int) :=
 bif a != 0 then
  some (({}:A9),a)
 else
  some (({ Kind:=b,Table:={ Y:=c,Ag:=e,Al:=f },Model:={ Ag:=g,An:=h,A1:=i,Ax:={ L:=j,N:=k },Ay:={ L:=l,N:=m },Ad:=n,Ba:=o },Curve:=p,Hist:=q,Box:={ Ad:=r,Bf:=t,Bh:=u,Bi:=v,Bj:=w,Bk:=x },Lineage:=y }:A9),0)
def AD(d:Nat)(q:A0->Ar->Option (A9×Int))(l:A0->Ar->Option (A9×Int))(b:A0)(a:Ar):Option (A9×Int) :=
 bif a.Op==1 then
  some (({ Kind:=1,Number:={ L:=a.L,N:=1 } }:A9),0)
 else
  bif a.Op==2 then
   (E3 b a.J).bind λm =>
   some (m,0)
  else
   bif a.Op==3 then
    (Ck d b.I.Ai b.I.Q a.X).bind λj =>
    (BV b.I.Q j).bind λn =>
    some (({ Kind:=1,Number:={ L:=(j.length:Int),N:=1 },Lineage:=n }:A9),0)
   else
    bif a.Op==4 then
     (BU d b a).bind λg =>
     some (g.1,g.2)
    else
     bif a.Op==5 then
      (BU d b a).bind λg =>
      some (g.1,g.2)
     else
      bif a.Op==10 then
       (CJ d b.I.Ai b.I.Q a.Y a.B a.X).bind λe =>
       bif e.2==0 then
        (idx e.1.Al 0).bind λo =>
        (AG o.C).bind λp =>
        Bw e.2 2 e.1.Y e.1.Ag e.1.Al 0 [] [] 0 0 0 0 0 0 [] [] 0 0 0 0 0 0 p
       else
        Bw e.2 2 e.1.Y e.1.Ag e.1.Al 0 [] [] 0 0 0 0 0 0 [] [] 0 0 0 0 0 0 []
      else
       bif a.Op==11 then
        (Dk d b.I.Ai b.I.Q a.B a.A a.X).bind λc =>
        Bw c.2.2 3 [] 0 [] c.1.Ag c.1.An c.1.A1 c.1.Ax.L c.1.Ax.N c.1.Ay.L c.1.Ay.N c.1.Ad c.1.Ba [] [] 0 0 0 0 0 0 c.2.1
       else
        bif a.Op==12 then
         (Dm d b.I.Ai b.I.Q a.B a.V a.X).bind λh =>
         Bw h.2.2 4 [] 0 [] 0 [] [] 0 0 0 0 0 0 h.1 [] 0 0 0 0 0 0 h.2.1
        else
         bif a.Op==13 then
          (FS d b.I.Ai b.I.Q a.B a.L a.X).bind λi =>
          Bw i.2.2 5 [] 0 [] 0 [] [] 0 0 0 0 0 0 [] i.1 0 0 0 0 0 0 i.2.1
         else
          bif a.Op==14 then
           (H9 d b.I.Ai b.I.Q a.B a.X).bind λf =>
           Bw f.2.2 6 [] 0 [] 0 [] [] 0 0 0 0 0 0 [] [] f.1.Ad f.1.Bf f.1.Bh f.1.Bi f.1.Bj f.1.Bk f.2.1
          else
           (l b a).bind λk =>
           some (k.1,k.2)
def Bl(d:Nat)(g:A0->Ar->Option (A9×Int))(k:A0->Ar->Option (A9×Int))(h:A0)(f:Ar):Option (A9×Int) :=
 (idx f.G 0).bind λi =>
 (g h i).bind λb =>
 bif b.2 != 0 then
  some (({}:A9),b.2)
 else
  (idx f.G 1).bind λj =>
  (g h j).bind λc =>
  bif c.2 != 0 then
   some (({}:A9),c.2)
  else
   bif f.Op==7 then
    (MO b.1.Number c.1.Number).bind λa =>
    bif a.2 != 0 then
     some (({}:A9),a.2)
    else
     (D4 b.1.Lineage c.1.Lineage).bind λe =>
     some (({ Kind:=1,Number:=a.1,Lineage:=e }:A9),0)
   else
    bif f.Op==8 then
     (MN b.1.Number c.1.Number).bind λa =>
     bif a.2 != 0 then
      some (({}:A9),a.2)
     else
      (D4 b.1.Lineage c.1.Lineage).bind λe =>
      some (({ Kind:=1,Number:=a.1,Lineage:=e }:A9),0)
    else
     bif f.Op==9 then
      (MM b.1.Number c.1.Number).bind λa =>
      bif a.2 != 0 then
       some (({}:A9),a.2)
      else
       (D4 b.1.Lineage c.1.Lineage).bind λe =>
       some (({ Kind:=1,Number:=a.1,Lineage:=e }:A9),0)
     else
      (ML b.1.Number c.1.Number).bind λa =>
      bif a.2 != 0 then
       some (({}:A9),a.2)
      else
       (D4 b.1.Lineage c.1.Lineage).bind λe =>
       some (({ Kind:=1,Number:=a.1,Lineage:=e }:A9),0)
mutual
def An:Nat->A0->Ar->Option (A9×Int)
 | 0,_,_=>none
 | d+1,a,b=>AD d (An d) (AJ d) a b
def AJ:Nat->A0->Ar->Option (A9×Int)
 | 0,_,_=>none
 | d+1,a,b=>Bl d (An d) (AJ d) a b
end
def CH(d:Nat)(a:Aa)(b:Ao)(c:List AH)(e:Ar):Option (A9×Int) :=
 (Cv a b).bind λf =>
 bif f != 0 then
  some (({}:A9),f)
 else
  (L9 d a b.H c e).bind λg =>
  bif g.2 != 0 then
   some (({}:A9),g.2)
  else
   (An d ({ I:={ Ai:=a,Q:=b },Aw:=c }:A0) e).bind λh =>
   some (h.1,h.2)
abbrev CQ(b:List AB)(c:AB->Option Bool)(e:Int->Option Int)(f:Int->Option Int)(a:Int):Option Int :=
 bif decide (a<(b.length:Int))then
  (idx b a).bind λg =>
  (c g).bind λh =>
  bif h then
   some a
  else
   f (i64.wrap (a+1))
 else
  e a
def B4(a:List AB)(b:AB->Option Bool):Option Int :=
 iter (λc s=>CQ a b (λe=>some (-1)) c s) AC 0
def AZ(a:List AB)(b:AB->Option Bool):Option Bool :=
 (B4 a b).bind λc =>
 some (decide (c>=0))
def EZ(a:AB)(b:ByteArray):Option Bool :=
 some (a.J.toList==b.toList)
def CW(a:ByteArray)(b:List AB):Option Bool :=
 (AZ b (λa0=>EZ a0 a)).bind λc =>
 some c
abbrev GP(c:Ar)(e:Int)(g:Ar->Int->Option Int)(f:Int->Int->Option Int)(h:(Int×Int)->Option Int)(a:Int)(b:Int):Option Int :=
 bif decide (b<(c.G.length:Int))then
  (idx c.G b).bind λi =>
  bif decide (a>e)then
   f a b
  else
   (g i (i64.wrap (e-a))).bind λj =>
   h ((i64.wrap (a+j)),(i64.wrap (b+1)))
 else
  f a b
def EH(d:Nat)(a:Ar->Int->Option Int)(b:Ar)(c:Int):Option Int :=
 iter (λe s=>GP b c a (λf g=>some f) e s.1 s.2) AC (1,0)
def Fc:Nat->Ar->Int->Option Int
 | 0,_,_=>none
 | d+1,a,b=>EH d (Fc d) a b
abbrev HA(c:Ar)(f:Ar->Option Int)(g:Int->Int->Option Int)(h:(Int×Int)->Option Int)(b:Int)(a:Int):Option Int :=
 bif decide (a<(c.G.length:Int))then
  (idx c.G a).bind λi =>
  (f i).bind λe =>
  h ((if e>b then e else b),(i64.wrap (a+1)))
 else
  g b a
def F4(d:Nat)(a:Ar->Option Int)(b:Ar):Option Int :=
 iter (λc s=>HA b a (λe f=>some (i64.wrap (e+1))) c s.1 s.2) AC (0,0)
def Gp:Nat->Ar->Option Int
 | 0,_=>none
 | d+1,a=>F4 d (Gp d) a
def EI(d:Nat)(g:Ar->(ByteArray->Option Bool)->Option Bool)(e:Ar->(ByteArray->Option Bool)->Option Bool)(a:Ar)(b:ByteArray->Option Bool):Option Bool :=
 bif a.Op==2 then
  (b a.J).bind λf =>
  bif !f then
   some false
  else
   (Aw a.G (λa0=>e a0 b)).bind λc =>
   some (!c)
 else
  (Aw a.G (λa0=>e a0 b)).bind λc =>
  some (!c)
def F5(d:Nat)(a:Ar->(ByteArray->Option Bool)->Option Bool)(f:Ar->(ByteArray->Option Bool)->Option Bool)(b:Ar)(c:ByteArray->Option Bool):Option Bool :=
 (a b c).bind λe =>
 some (!e)
mutual
def D5:Nat->Ar->(ByteArray->Option Bool)->Option Bool
 | 0,_,_=>none
 | d+1,a,b=>EI d (D5 d) (CK d) a b
def CK:Nat->Ar->(ByteArray->Option Bool)->Option Bool
 | 0,_,_=>none
 | d+1,a,b=>F5 d (D5 d) (CK d) a b
end
def IY(d:Nat)(c:Aa)(b:List AB)(a:AB):Option Int :=
 (Cz a.J).bind λe =>
 bif !e then
  some 3
 else
  (CW a.J b).bind λf =>
  bif f then
   some 10
  else
   (Fc d a.Az 60).bind λg =>
   bif decide (g>60)then
    some 1
   else
    (Gp d a.Az).bind λh =>
    bif decide (h>10)then
     some 22
    else
     (Dd d c a.Az).bind λi =>
     bif !i then
      some 11
     else
      (D5 d a.Az (λa0=>CW a0 b)).bind λj =>
      bif !j then
       some 24
      else
       some 0
abbrev PE(b:List AB)(d:Nat)(e:Aa)(f:Int->Option (Int×Int))(g:Int->Option (Int×Int))(a:Int):Option (Int×Int) :=
 bif decide (a<(b.length:Int))then
  (idx b a).bind λh =>
  bif decide (0<=(0:Int)/\0<=a/\a<=(b.length:Int))then
   (IY d e (NB b 0 a) h).bind λc =>
   bif c != 0 then
    some (a,c)
   else
    g (i64.wrap (a+1))
  else none
 else
  f a
def Ii(d:Nat)(b:Aa)(a:List AB):Option (Int×Int) :=
 (CN b).bind λc =>
 bif c != 0 then
  some ((-1),c)
 else
  bif decide ((a.length:Int)>30)then
   some ((-1),1)
  else
   iter (λe s=>PE a d b (λf=>some ((a.length:Int),0)) e s) AC 0
abbrev PW(g:List AB)(d:Nat)(h:Aa)(i:List Ac)(j:Int->(List Int)->(List AH)->Option ((List Int)×Int×Int))(k:(Int×(List Int)×(List AH))->Option ((List Int)×Int×Int))(b:Int)(e:List Int)(c:List AH):Option ((List Int)×Int×Int) :=
 bif decide (b<(g.length:Int))then
  (idx g b).bind λf =>
  (L9 d h i c f.Az).bind λa =>
  bif a.2 != 0 then
   some ([],b,a.2)
  else
   bif rm e.length [a.1].length then
    bif rm c.length ([({ J:=f.J,As:={ Kind:=a.1 } }:AH)]).length then
     k ((i64.wrap (b+1)),(e++[a.1]),(c++[({ J:=f.J,As:={ Kind:=a.1 } }:AH)]))
    else none
   else none
 else
  j b e c
def Pl(d:Nat)(c:Aa)(e:List Ac)(a:List AB):Option ((List Int)×Int×Int) :=
 (Ii d c a).bind λb =>
 bif b.2 != 0 then
  some ([],b.1,b.2)
 else
  iter (λf s=>PW a d c e (λh g i=>some (g,(a.length:Int),0)) f s.1 s.2.1 s.2.2) AC (0,[],[])
def P5(f:List AB)(d:Nat)(g:Aa)(h:Ao)(i:Int->(List AH)->Option ((List AH)×Int×Int))(j:(Int×(List AH))->Option ((List AH)×Int×Int))(a:Int)(c:List AH):Option ((List AH)×Int×Int) :=
 bif decide (a<(f.length:Int))then
  (idx f a).bind λb =>
  (An d ({ I:={ Ai:=g,Q:=h },Aw:=c }:A0) b.Az).bind λe =>
  bif e.2 != 0 then
   some ([],a,e.2)
  else
   bif rm c.length [({ J:=b.J,Bl:=b.Bl,As:=e.1 }:AH)].length then
    j ((i64.wrap (a+1)),(c++[({ J:=b.J,Bl:=b.Bl,As:=e.1 }:AH)]))
   else none
 else
  i a c
def OW(d:Nat)(a:Aa)(c:Ao)(b:List AB):Option ((List AH)×Int×Int) :=
 (Cv a c).bind λg =>
 bif g != 0 then
  some ([],(-1),g)
 else
  (Ii d a b).bind λe =>
  bif e.2 != 0 then
   some ([],e.1,e.2)
  else
   (Pl d a c.H b).bind λf =>
   bif f.2.2 != 0 then
    some ([],f.2.1,f.2.2)
   else
    iter (λh s=>P5 b d a c (λj i=>some (i,(b.length:Int),0)) h s.1 s.2) AC (0,[])
abbrev OA(e:List AH)(h:Int->(List AH)->Option (List AH))(f:(Int×(List AH))->Option (List AH))(b:Int)(c:List AH):Option (List AH) :=
 bif decide (b<(e.length:Int))then
  (idx e b).bind λa =>
  bif a.Bl then
   (FP a.As).bind λg =>
   bif rm c.length [({ J:=a.J,Bl:=a.Bl,As:=g }:AH)].length then
    f ((i64.wrap (b+1)),(c++[({ J:=a.J,Bl:=a.Bl,As:=g }:AH)]))
   else none
  else
   f ((i64.wrap (b+1)),c)
 else
  h b c
def Kl(a:List AH):Option (List AH) :=
 iter (λb s=>OA a (λe c=>some c) b s.1 s.2) AC (0,[])
abbrev Nc(c:List (List Int))(e:List Int)(i:Bool->Int->(List (List Int))->Option (List (List Int)))(h:(Bool×Int×(List (List Int)))->Option (List (List Int)))(g:Bool)(a:Int)(b:List (List Int)):Option (List (List Int)) :=
 bif decide (a<(c.length:Int))then
  (idx c a).bind λj =>
  (idx j 0).bind λk =>
  (idx e 0).bind λl =>
  bif k==l then
   h (g,(i64.wrap (a+1)),b)
  else
   (idx c a).bind λm =>
   (idx m 0).bind λn =>
   (idx e 0).bind λo =>
   bif bif decide (n>o)then(!g)else false then
    bif rm b.length [e].length then
     (idx c a).bind λf =>
     bif rm (b++[e]).length [f].length then
      h (true,(i64.wrap (a+1)),((b++[e])++[f]))
     else none
    else none
   else
    (idx c a).bind λf =>
    bif rm b.length [f].length then
     h (g,(i64.wrap (a+1)),(b++[f]))
    else none
 else
  i g a b
def Np(c:List (List Int))(a:List Int):Option (List (List Int)) :=
 iter (λe s=>Nc c a (λf g b=>bif !f then   bif rm b.length [a].length then     some (b++[a])   else none else   some b) e s.1 s.2.1 s.2.2) AC (false,0,[])
abbrev Ts(a:ByteArray):Option Bool :=
 bif a.toList==({ data:=#[97,108,108] }:ByteArray).toList then
  some false
 else
  bif a.toList==({ data:=#[97,110,100] }:ByteArray).toList then
   some false
  else
   bif a.toList==({ data:=#[101,118,101,110,116] }:ByteArray).toList then
    some false
   else
    bif a.toList==({ data:=#[102,114,111,109] }:ByteArray).toList then
     some false
    else
     bif a.toList==({ data:=#[109,105,115,115,105,110,103] }:ByteArray).toList then
      some false
     else
      bif a.toList==({ data:=#[110,111,116] }:ByteArray).toList then
       some false
      else
       bif a.toList==({ data:=#[111,110] }:ByteArray).toList then
        some false
       else
        bif a.toList==({ data:=#[111,114] }:ByteArray).toList then
         some false
        else
         bif a.toList==({ data:=#[116,111] }:ByteArray).toList then
          some false
         else
          bif a.toList==({ data:=#[117,110,100,101,114] }:ByteArray).toList then
           some false
          else
           bif a.toList==({ data:=#[119,104,101,114,101] }:ByteArray).toList then
            some false
           else
            some true
abbrev Tr(b:ByteArray)(e:Int->Option Bool)(c:Int->Option Bool)(a:Int):Option Bool :=
 bif decide (a<(b.size:Int))then
  bif decide (0<=(a:Int)/\(a:Int).toNat<b.size)then
   bif decide ((Gy b a)>=97)then
    bif decide (0<=(a:Int)/\(a:Int).toNat<b.size)then
     bif decide ((Gy b a)<=122)then
      c (i64.wrap (a+1))
     else
      bif decide (0<=(a:Int)/\(a:Int).toNat<b.size)then
       bif decide ((Gy b a)>=48)then
        bif decide (0<=(a:Int)/\(a:Int).toNat<b.size)then
         bif decide ((Gy b a)<=57)then
          c (i64.wrap (a+1))
         else
          bif decide (0<=(a:Int)/\(a:Int).toNat<b.size)then
           bif !((Gy b a)==95)then
            some false
           else
            c (i64.wrap (a+1))
          else none
        else none
       else
        bif decide (0<=(a:Int)/\(a:Int).toNat<b.size)then
         bif !((Gy b a)==95)then
          some false
         else
          c (i64.wrap (a+1))
        else none
      else none
    else none
   else
    bif decide (0<=(a:Int)/\(a:Int).toNat<b.size)then
     bif decide ((Gy b a)>=48)then
      bif decide (0<=(a:Int)/\(a:Int).toNat<b.size)then
       bif decide ((Gy b a)<=57)then
        c (i64.wrap (a+1))
       else
        bif decide (0<=(a:Int)/\(a:Int).toNat<b.size)then
         bif !((Gy b a)==95)then
          some false
         else
          c (i64.wrap (a+1))
        else none
      else none
     else
      bif decide (0<=(a:Int)/\(a:Int).toNat<b.size)then
       bif !((Gy b a)==95)then
        some false
       else
        c (i64.wrap (a+1))
      else none
    else none
  else none
 else
  e a
def Pd(a:ByteArray):Option Bool :=
 iter (λb s=>Tr a (λc=>Ts a) b s) AC 0
def C0(a:ByteArray):Option Bool :=
 bif bif decide ((a.size:Int)<1)then true else(decide ((a.size:Int)>16))then
  some false
 else
  bif decide (0<=(0:Int)/\(0:Int).toNat<a.size)then
   bif decide ((Gy a 0)<97)then
    some false
   else
    bif decide (0<=(0:Int)/\(0:Int).toNat<a.size)then
     bif decide ((Gy a 0)>122)then
      some false
     else
      Pd a
    else none
  else none
abbrev RD(b:Aq)(e:Int->Int->Option Int)(f:(Int×Int)->Option Int)(a:Int)(c:Int):Option Int :=
 (idx b.U a).bind λg =>
 bif decide (g.A7>=0)then
  (idx b.U a).bind λh =>
  f (h.A7,(i64.wrap (c+1)))
 else
  e a c
def Fe(a:Aq)(b:Int):Option Int :=
 iter (λc s=>RD a (λf e=>some e) c s.1 s.2) AC (b,0)
abbrev Tt(b:Aq)(c:Int)(e:Int->Option Bool)(f:Int->Option Bool)(a:Int):Option Bool :=
 bif decide (a<(b.U.length:Int))then
  (idx b.U a).bind λg =>
  bif g.A7==c then
   some false
  else
   f (i64.wrap (a+1))
 else
  e a
def Uh(a:Aq)(b:Int):Option Bool :=
 iter (λc s=>Tt a b (λe=>some true) c s) AC 0
abbrev R9(b:Aq)(g:Int->Int->Option Int)(e:(Int×Int)->Option Int)(c:Int)(a:Int):Option Int :=
 bif decide (a<(b.U.length:Int))then
  (Uh b a).bind λh =>
  bif h then
   bif decide (c>=0)then
    (Fe b a).bind λi =>
    bif i != c then
     some 5
    else
     (Fe b a).bind λf =>
     e (f,(i64.wrap (a+1)))
   else
    (Fe b a).bind λf =>
    e (f,(i64.wrap (a+1)))
  else
   e (c,(i64.wrap (a+1)))
 else
  g c a
abbrev RA(a:Aq):Option Int :=
 iter (λb s=>R9 a (λc e=>some 0) b s.1 s.2) AC ((-1),0)
abbrev Y7(c:Aq)(a:Int)(e:Int->Option Int)(f:Int):Option Int :=
 (idx c.U a).bind λb =>
 bif bif bif a==0 then(b.A7 != (-1))else false then true else(bif decide (a>0)then(bif decide (b.A7<0)then true else(decide (b.A7>=a)))else false)then
  some 6
 else
  e (i64.wrap (a+1))
abbrev R8(b:Int)(c:Aq)(e:Int->Option Int)(f:Int->Option Int)(a:Int):Option Int :=
 bif decide (a<b)then
  (idx c.U a).bind λg =>
  (idx c.U b).bind λh =>
  bif g.J.toList==h.J.toList then
   some 10
  else
   f (i64.wrap (a+1))
 else
  e a
abbrev R7(b:Aq)(c:Int->Option Int)(e:Int->Option Int)(a:Int):Option Int :=
 bif decide (a<(b.U.length:Int))then
  (idx b.U a).bind λf =>
  (C0 f.J).bind λg =>
  bif !g then
   some 3
  else
   iter (λh s=>R8 a b (Y7 b a e) h s) AC 0
 else
  c a
def Gr(a:Aq):Option Int :=
 (C0 a.J).bind λb =>
 bif !b then
  some 3
 else
  bif(a.U.length:Int)==0 then
   some 5
  else
   bif decide ((a.U.length:Int)>60)then
    some 1
   else
    iter (λc s=>R7 a (λe=>RA a) c s) AC 0
def Gs(a:Aq):Option Int :=
 (Gr a).bind λb =>
 bif b != 0 then
  some (-1)
 else
  (Fe a (i64.wrap ((a.U.length:Int)-1))).bind λc =>
  some (i64.wrap (c+1))
abbrev WV(c:Aq)(f:Int)(g:Int->(List Int)->Option (List Int))(e:(Int×(List Int))->Option (List Int))(a:Int)(b:List Int):Option (List Int) :=
 bif decide (a<(c.U.length:Int))then
  (Fe c a).bind λh =>
  bif h==f then
   bif rm b.length [a].length then
    e ((i64.wrap (a+1)),(b++[a]))
   else none
  else
   e ((i64.wrap (a+1)),b)
 else
  g a b
def PH(a:Aq)(b:Int):Option (List Int) :=
 (Gr a).bind λc =>
 bif c != 0 then
  some []
 else
  iter (λe s=>WV a b (λg f=>some f) e s.1 s.2) AC (0,[])
def Hs(a:Aa)(c:Int):Option (List Int) :=
 (idx a.A c).bind λe =>
 (idx a.K e.Am).bind λb =>
 (Gs b).bind λf =>
 (PH b (i64.wrap (f-1))).bind λg =>
 some g
def F7(a:Int)(b:Int)(c:Int):Option Bool :=
 some (bif decide (b<=a)then(decide (a<=c))else false)
abbrev PM(b:Au)(g:Int->Option Int)(e:Int->Option Int)(a:Int):Option Int :=
 bif decide (a<(b.S.length:Int))then
  (idx b.S a).bind λc =>
  bif bif a==0 then(c != 1)else false then
   some 2
  else
   bif decide (a>0)then
    (idx b.S (i64.wrap (a-1))).bind λh =>
    bif bif decide (c<=h)then true else(decide (c>1000000))then
     some 2
    else
     (idx b.S (i64.wrap (a-1))).bind λf =>
     bif decide (f≠0)then
      bif(Int.tmod c f) != 0 then
       some 2
      else
       e (i64.wrap (a+1))
     else none
   else
    e (i64.wrap (a+1))
 else
  g a
abbrev L1(a:Au):Option Int :=
 bif bif decide ((a.S.length:Int)<1)then true else(decide ((a.S.length:Int)>4))then
  some 1
 else
  iter (λb s=>PM a (λc=>some 0) b s) AC 0
def Jo(a:Au):Option Int :=
 (F7 a.D (-1000000) 1000000).bind λb =>
 bif !b then
  some 2
 else
  (F7 a.E (-1000000) 1000000).bind λc =>
  bif bif !c then true else(decide (a.D>a.E))then
   some 2
  else
   L1 a
abbrev Ia(a:Au):Option Int :=
 bif a.Kind==3 then
  (Jo a).bind λb =>
  bif b != 0 then
   some b
  else
   bif bif bif a.Kind != 2 then(a.Am != 0)else false then true else(bif a.Kind != 3 then(bif bif bif a.D != 0 then true else(a.E != 0)then true else(decide ((a.S.length:Int)>0))then true else a.A2)else false)then
    some 11
   else
    some 0
 else
  bif bif bif a.Kind != 2 then(a.Am != 0)else false then true else(bif a.Kind != 3 then(bif bif bif a.D != 0 then true else(a.E != 0)then true else(decide ((a.S.length:Int)>0))then true else a.A2)else false)then
   some 11
  else
   some 0
def J3(a:Au)(b:Int)(c:Aa):Option Int :=
 (F7 a.Kind 1 3).bind λe =>
 bif bif !e then true else(bif decide (b>0)then(a.Kind==1)else false)then
  some 4
 else
  bif a.Kind==2 then
   (F7 a.Am 0 (i64.wrap ((c.K.length:Int)-1))).bind λf =>
   bif !f then
    some 5
   else
    Ia a
  else
   Ia a
abbrev J2(b:Int)(c:Aa)(e:Au)(f:Int->Option Int)(g:Int->Option Int)(a:Int):Option Int :=
 bif decide (a<b)then
  (idx c.A a).bind λh =>
  bif h.J.toList==e.J.toList then
   some 10
  else
   g (i64.wrap (a+1))
 else
  f a
def K5(a:Aa)(b:Int):Option Int :=
 (idx a.A b).bind λc =>
 (C0 c.J).bind λe =>
 bif !e then
  some 3
 else
  iter (λf s=>J2 b a c (λg=>J3 c b a) f s) AC 0
abbrev K3(b:Aa)(e:Int->Option Int)(f:Int->Option Int)(a:Int):Option Int :=
 bif decide (a<(b.A.length:Int))then
  (K5 b a).bind λc =>
  bif c != 0 then
   some c
  else
   f (i64.wrap (a+1))
 else
  e a
abbrev NZ(a:Aa):Option Int :=
 bif(a.A.length:Int)==0 then
  some 7
 else
  (idx a.A 0).bind λb =>
  bif b.Kind != 1 then
   some 7
  else
   iter (λc s=>K3 a (λe=>some 0) c s) AC 0
abbrev K2(b:Int)(c:Aa)(e:Int->Option Int)(f:Int->Option Int)(a:Int):Option Int :=
 bif decide (a<b)then
  (idx c.K a).bind λg =>
  (idx c.K b).bind λh =>
  bif g.J.toList==h.J.toList then
   some 10
  else
   f (i64.wrap (a+1))
 else
  e a
abbrev Kz(b:Aa)(e:Int->Option Int)(f:Int->Option Int)(a:Int):Option Int :=
 bif decide (a<(b.K.length:Int))then
  (idx b.K a).bind λg =>
  (Gr g).bind λc =>
  bif c != 0 then
   some c
  else
   iter (λh s=>K2 a b (λi=>f (i64.wrap (a+1))) h s) AC 0
 else
  e a
def Eb(a:Aa):Option Int :=
 bif bif decide ((a.K.length:Int)>6)then true else(decide ((a.A.length:Int)>8))then
  some 1
 else
  iter (λb s=>Kz a (λc=>NZ a) b s) AC 0
def Dj(a:Aa)(b:Int):Option Int :=
 (Eb a).bind λe =>
 bif bif bif e != 0 then true else(decide (b<1))then true else(decide (b>=(a.A.length:Int)))then
  some (-1)
 else
  (idx a.A b).bind λc =>
  bif c.Kind==2 then
   (idx a.K c.Am).bind λf =>
   (Gs f).bind λg =>
   some (i64.wrap (g-1))
  else
   some (c.S.length:Int)
abbrev KB(c:Ah)(e:Int)(f:Ah->Int->Option Int)(g:Int->Int->Option Int)(h:(Int×Int)->Option Int)(a:Int)(b:Int):Option Int :=
 bif bif decide (b<(c.G.length:Int))then(decide (a<e))else false then
  (idx c.G b).bind λi =>
  (f i (i64.wrap (e-a))).bind λj =>
  h ((i64.wrap (a+j)),(i64.wrap (b+1)))
 else
  g a b
def Jp(d:Nat)(a:Ah->Int->Option Int)(b:Ah)(c:Int):Option Int :=
 iter (λe s=>KB b c a (λf g=>some f) e s.1 s.2) AC (1,0)
def JV:Nat->Ah->Int->Option Int
 | 0,_,_=>none
 | d+1,a,b=>Jp d (JV d) a b
abbrev RQ(c:Ah)(f:Ah->Option Int)(g:Int->Int->Option Int)(h:(Int×Int)->Option Int)(b:Int)(a:Int):Option Int :=
 bif decide (a<(c.G.length:Int))then
  (idx c.G a).bind λi =>
  (f i).bind λe =>
  h ((if e>b then e else b),(i64.wrap (a+1)))
 else
  g b a
def LL(d:Nat)(a:Ah->Option Int)(b:Ah):Option Int :=
 iter (λc s=>RQ b a (λe f=>some (i64.wrap (e+1))) c s.1 s.2) AC (0,0)
def IG:Nat->Ah->Option Int
 | 0,_=>none
 | d+1,a=>LL d (IG d) a
def Oh(b:Aa)(a:Int)(c:Int):Option Bool :=
 bif bif decide (a>=0)then(decide (a<(b.A.length:Int)))else false then
  (idx b.A a).bind λe =>
  some (e.Kind==c)
 else
  some false
def Jq(b:Ah)(e:Aa->Ah->Option Int)(f:Aa)(g:Int->Option Int)(h:Int->Option Int)(a:Int):Option Int :=
 bif decide (a<(b.G.length:Int))then
  (idx b.G a).bind λi =>
  (e f i).bind λc =>
  bif c != 0 then
   some c
  else
   h (i64.wrap (a+1))
 else
  g a
def De(a:Ah)(b:Aa->Ah->Option Int)(c:Aa):Option Int :=
 bif bif a.Op==3 then(bif bif decide (a.D<(-1000000))then true else(decide (a.E>1000000))then true else(decide (a.D>a.E)))else false then
  some 2
 else
  iter (λe s=>Jq a b c (λf=>some 0) e s) AC 0
def Cw(a:Ah)(b:Aa)(c:Aa->Ah->Option Int):Option Int :=
 bif a.Op==2 then
  bif decide (a.Z<0)then
   some 6
  else
   (idx b.A a.B).bind λe =>
   (idx b.K e.Am).bind λf =>
   bif decide (a.Z>=(f.U.length:Int))then
    some 6
   else
    De a c b
 else
  De a c b
def BI(a:Ah)(b:Aa)(c:Aa->Ah->Option Int)(e:Int)(f:Int)(g:Int)(h:Int)(i:Int):Option Int :=
 bif bif bif bif bif(a.G.length:Int) != e then true else(f != a.B)then true else(g != a.Z)then true else(h != a.D)then true else(i != a.E)then
  some 11
 else
  bif a.Op==2 then
   (Oh b a.B 2).bind λj =>
   bif !j then
    some 7
   else
    Cw a b c
  else
   bif a.Op==3 then
    (Oh b a.B 3).bind λk =>
    bif !k then
     some 7
    else
     Cw a b c
   else
    bif a.Op==4 then
     (Oh b a.B 3).bind λl =>
     bif !l then
      some 7
     else
      (idx b.A a.B).bind λm =>
      bif !m.A2 then
       some 7
      else
       Cw a b c
    else
     Cw a b c
def KD(d:Nat)(b:Aa->Ah->Option Int)(c:Aa)(a:Ah):Option Int :=
 bif a.Op==1 then
  BI a c b 0 0 0 0 0
 else
  bif a.Op==2 then
   BI a c b 0 a.B a.Z 0 0
  else
   bif a.Op==3 then
    BI a c b 0 a.B 0 a.D a.E
   else
    bif a.Op==4 then
     BI a c b 0 a.B 0 0 0
    else
     bif a.Op==5 then
      BI a c b 2 0 0 0 0
     else
      bif a.Op==6 then
       BI a c b 2 0 0 0 0
      else
       bif a.Op==7 then
        BI a c b 1 0 0 0 0
       else
        some 4
def IH:Nat->Aa->Ah->Option Int
 | 0,_,_=>none
 | d+1,a,b=>KD d (IH d) a b
def Ec(d:Nat)(b:Aa)(a:Ah):Option Int :=
 (Eb b).bind λc =>
 bif c != 0 then
  some c
 else
  (JV d a 41).bind λe =>
  bif decide (e>40)then
   some 1
  else
   (IG d a).bind λf =>
   bif decide (f>10)then
    some 22
   else
    (IH d b a).bind λg =>
    some g
def KE(b:Aa)(a:Int)(c:Int):Option Bool :=
 bif bif decide (a>=0)then(decide (a<(b.A.length:Int)))else false then
  (idx b.A a).bind λe =>
  some (e.Kind==c)
 else
  some false
def IE(b:Aa)(a:Ac):Option Int :=
 (Eb b).bind λc =>
 bif c != 0 then
  some c
 else
  bif bif decide (a.B<1)then true else(decide (a.B>=(b.A.length:Int)))then
   some 7
  else
   (Dj b a.B).bind λe =>
   (F7 a.T 0 e).bind λf =>
   bif !f then
    some 8
   else
    some 0
abbrev Pf(b:Int)(c:List Ac)(e:Int->Option Int)(f:Int->Option Int)(a:Int):Option Int :=
 bif decide (a<b)then
  (idx c a).bind λg =>
  (idx c b).bind λh =>
  bif g.B==h.B then
   some 10
  else
   f (i64.wrap (a+1))
 else
  e a
abbrev LM(b:List Ac)(c:Aa)(f:Int->Option Int)(g:Int->Option Int)(a:Int):Option Int :=
 bif decide (a<(b.length:Int))then
  (idx b a).bind λh =>
  (IE c h).bind λe =>
  bif e != 0 then
   some e
  else
   (idx b a).bind λi =>
   (KE c i.B 2).bind λj =>
   bif !j then
    some 7
   else
    iter (λk s=>Pf a b (λl=>g (i64.wrap (a+1))) k s) AC 0
 else
  f a
def JI(b:Aa)(a:List Ac):Option Int :=
 bif bif decide ((a.length:Int)<1)then true else(decide ((a.length:Int)>3))then
  some 1
 else
  iter (λc s=>LM a b (λe=>some 0) c s) AC 0
abbrev Na(b:List Int)(c:Int)(e:Int->Option Bool)(f:Int->Option Bool)(a:Int):Option Bool :=
 bif decide (a<(b.length:Int))then
  (idx b a).bind λg =>
  bif g==c then
   some true
  else
   f (i64.wrap (a+1))
 else
  e a
def Ja(a:List Int)(b:Int):Option Bool :=
 iter (λc s=>Na a b (λe=>some false) c s) AC 0
abbrev RZ(b:List Int)(c:Aa)(e:Int)(f:Int->Option Int)(g:Int->Option Int)(a:Int):Option Int :=
 bif decide (a<(b.length:Int))then
  (idx b a).bind λh =>
  (KE c h 3).bind λi =>
  bif !i then
   some 7
  else
   (idx b a).bind λj =>
   bif j==e then
    some 10
   else
    bif decide (0<=(0:Int)/\0<=a/\a<=(b.length:Int))then
     (idx b a).bind λk =>
     (Ja (NB b 0 a) k).bind λl =>
     bif l then
      some 10
     else
      g (i64.wrap (a+1))
    else none
 else
  f a
def Mo(b:Aa)(c:Int)(a:List Int):Option Int :=
 bif bif decide ((a.length:Int)<1)then true else(decide ((a.length:Int)>3))then
  some 1
 else
  iter (λe s=>RZ a b c (λf=>some 0) e s) AC 0
def Mp(d:Nat)(b:Aa)(a:AE):Option Int :=
 (KE b a.Ag 3).bind λc =>
 bif a.Kind==1 then
  (JI b a.Y).bind λe =>
  bif e != 0 then
   some e
  else
   bif bif a.Ag != (-1)then(!c)else false then
    some 7
   else
    some 0
 else
  bif a.Kind==2 then
   bif !c then
    some 7
   else
    (Mo b a.Ag a.An).bind λf =>
    some f
  else
   bif !c then
    some 7
   else
    (idx b.A a.Ag).bind λg =>
    bif decide (g.D<0)then
     some 2
    else
     (Ec d b a.V).bind λh =>
     some h
abbrev Tu(b:Ah)(c:Ah)(e:Ah->Ah->Option Bool)(f:Int->Option Bool)(g:Int->Option Bool)(a:Int):Option Bool :=
 bif decide (a<(b.G.length:Int))then
  (idx b.G a).bind λh =>
  (idx c.G a).bind λi =>
  (e h i).bind λj =>
  bif !j then
   some false
  else
   g (i64.wrap (a+1))
 else
  f a
def KA(d:Nat)(c:Ah->Ah->Option Bool)(a:Ah)(b:Ah):Option Bool :=
 bif bif bif bif bif bif a.Op != b.Op then true else(a.B != b.B)then true else(a.Z != b.Z)then true else(a.D != b.D)then true else(a.E != b.E)then true else((a.G.length:Int) != (b.G.length:Int))then
  some false
 else
  iter (λe s=>Tu a b c (λf=>some true) e s) AC 0
def Og:Nat->Ah->Ah->Option Bool
 | 0,_,_=>none
 | d+1,a,b=>KA d (Og d) a b
def Qu(d:Nat)(a:Ah):Option Bool :=
 (Og d a ({}:Ah)).bind λb =>
 some b
def DI(d:Nat)(b:Aa)(a:AE):Option Int :=
 (Eb b).bind λc =>
 bif c != 0 then
  some c
 else
  (C0 a.J).bind λg =>
  bif !g then
   some 3
  else
   bif bif decide (a.Kind<1)then true else(decide (a.Kind>3))then
    some 4
   else
    (Ec d b a.A3).bind λe =>
    bif e != 0 then
     some e
    else
     (Mp d b a).bind λf =>
     bif f != 0 then
      some f
     else
      bif bif bif a.Kind != 1 then(decide ((a.Y.length:Int)>0))else false then true else(bif a.Kind != 2 then(decide ((a.An.length:Int)>0))else false)then
       some 11
      else
       bif a.Kind != 3 then
        (Qu d a.V).bind λh =>
        bif !h then
         some 11
        else
         some 0
       else
        some 0
abbrev RY(b:Int)(c:Av)(e:Int->Option Int)(f:Int->Option Int)(a:Int):Option Int :=
 bif decide (a<b)then
  (idx c.A8 a).bind λg =>
  (idx c.A8 b).bind λh =>
  bif g.J.toList==h.J.toList then
   some 10
  else
   f (i64.wrap (a+1))
 else
  e a
abbrev RX(b:Av)(d:Nat)(e:Aa)(f:Int->Option Int)(g:Int->Option Int)(a:Int):Option Int :=
 bif decide (a<(b.A8.length:Int))then
  (idx b.A8 a).bind λh =>
  (DI d e h).bind λc =>
  bif c != 0 then
   some c
  else
   iter (λi s=>RY a b (λj=>g (i64.wrap (a+1))) i s) AC 0
 else
  f a
abbrev Oj(d:Nat)(b:Aa)(a:Av):Option Int :=
 (Ec d b a.Bc).bind λc =>
 bif c != 0 then
  some c
 else
  bif bif bif bif bif bif decide (a.Be.Of<1)then true else(decide (a.Be.Of>1000))then true else(decide (a.Be.Bm<1))then true else(decide (a.Be.Bm>a.Be.Of))then true else(decide (a.Be.Bn<0))then true else(decide (a.Be.Bn>1099511627776))then
   some 2
  else
   bif bif decide ((a.A8.length:Int)<1)then true else(decide ((a.A8.length:Int)>8))then
    some 1
   else
    iter (λe s=>RX a d b (λf=>some 0) e s) AC 0
def II(d:Nat)(b:Aa)(a:Av):Option Int :=
 (Eb b).bind λc =>
 bif c != 0 then
  some c
 else
  (C0 a.Ae).bind λe =>
  bif !e then
   some 3
  else
   (C0 a.Bs).bind λf =>
   bif !f then
    some 3
   else
    Oj d b a
abbrev RJ(b:Int)(c:Int)(e:Bool)(f:Int)(a:List Ac):Option (List Ac) :=
 bif !e then
  bif rm a.length [({ B:=b,T:=c }:Ac)].length then
   some (a++[({ B:=b,T:=c }:Ac)])
  else none
 else
  some a
abbrev K9(i:List Ac)(e:Int)(b:Int)(j:Bool->Int->(List Ac)->Option (List Ac))(g:(Bool×Int×(List Ac))->Option (List Ac))(h:Bool)(f:Int)(c:List Ac):Option (List Ac) :=
 bif decide (f<(i.length:Int))then
  (idx i f).bind λa =>
  bif bif decide (a.B>e)then(!h)else false then
   bif rm c.length [({ B:=e,T:=b }:Ac)].length then
    bif a.B==e then
     bif rm (c++[({ B:=e,T:=b }:Ac)]).length [({ B:=a.B,T:=(if b>a.T then b else a.T) }:Ac)].length then
      g (true,(i64.wrap (f+1)),((c++[({ B:=e,T:=b }:Ac)])++[({ B:=a.B,T:=(if b>a.T then b else a.T) }:Ac)]))
     else none
    else
     bif rm (c++[({ B:=e,T:=b }:Ac)]).length [a].length then
      g (true,(i64.wrap (f+1)),((c++[({ B:=e,T:=b }:Ac)])++[a]))
     else none
   else none
  else
   bif a.B==e then
    bif rm c.length [({ B:=a.B,T:=(if b>a.T then b else a.T) }:Ac)].length then
     g (true,(i64.wrap (f+1)),(c++[({ B:=a.B,T:=(if b>a.T then b else a.T) }:Ac)]))
    else none
   else
    bif rm c.length [a].length then
     g (h,(i64.wrap (f+1)),(c++[a]))
    else none
 else
  j h f c
def Gu(c:List Ac)(b:Int)(a:Int):Option (List Ac) :=
 iter (λe s=>K9 c b a (RJ b a) e s.1 s.2.1 s.2.2) AC ((decide (a<=0)),0,[])
abbrev RE(c:Ah)(f:Ah->Option (List Ah))(g:Int->(List Ah)->Option (List Ah))(h:(Int×(List Ah))->Option (List Ah))(a:Int)(b:List Ah):Option (List Ah) :=
 bif decide (a<(c.G.length:Int))then
  (idx c.G a).bind λi =>
  (f i).bind λe =>
  bif rm b.length e.length then
   h ((i64.wrap (a+1)),(b++e))
  else none
 else
  g a b
def LK(d:Nat)(b:Ah->Option (List Ah))(a:Ah):Option (List Ah) :=
 bif bif bif a.Op==2 then true else(a.Op==3)then true else(a.Op==4)then
  some [a]
 else
  iter (λc s=>RE a b (λf e=>some e) c s.1 s.2) AC (0,[])
def IF:Nat->Ah->Option (List Ah)
 | 0,_=>none
 | d+1,a=>LK d (IF d) a
def ID(a:Aq)(b:Int):Option Int :=
 (Gr a).bind λc =>
 bif bif bif c != 0 then true else(decide (b<0))then true else(decide (b>=(a.U.length:Int)))then
  some (-1)
 else
  (Fe a b).bind λe =>
  some e
def JR(e:Aa)(f:Int)(b:Int):Option Bool :=
 (idx e.A f).bind λa =>
 bif a.Kind==1 then
  (F7 b 1 1048575).bind λg =>
  some g
 else
  bif a.Kind==2 then
   (idx e.K a.Am).bind λc =>
   (F7 b 0 (i64.wrap ((c.U.length:Int)-1))).bind λh =>
   bif h then
    (ID c b).bind λi =>
    (Gs c).bind λj =>
    some (i==(i64.wrap (j-1)))
   else
    some false
  else
   bif bif a.A2 then(b==(-1099511627776))else false then
    some true
   else
    (F7 b a.D a.E).bind λk =>
    some k
abbrev WW(b:Aq)(c:Int)(e:Int->Option Int)(f:Int->Option Int)(a:Int):Option Int :=
 (Fe b a).bind λg =>
 bif decide (g>c)then
  (idx b.U a).bind λh =>
  f h.A7
 else
  e a
def Ky(a:Aq)(b:Int)(c:Int):Option Int :=
 (Gr a).bind λe =>
 bif bif bif bif e != 0 then true else(decide (b<0))then true else(decide (b>=(a.U.length:Int)))then true else(decide (c<0))then
  some (-1)
 else
  (Fe a b).bind λf =>
  bif decide (c>f)then
   some (-1)
  else
   iter (λg s=>WW a c (λh=>some h) g s) AC b
def E6(a:Au)(b:Int):Option Int :=
 (idx a.S (i64.wrap ((a.S.length:Int)-b))).bind λc =>
 some c
def Gt(b:Int)(a:Int):Option Int :=
 bif decide (a≠0)then
  bif decide (a≠0)then
   bif decide ((Int.tmod b a)<0)then
    some (i64.wrap ((i64.wrap (Int.tdiv b a))-1))
   else
    some (i64.wrap (Int.tdiv b a))
  else none
 else none
def Cf(e:Aa)(g:Int)(b:Int)(a:Int):Option Int :=
 (Dj e g).bind λi =>
 (F7 b 0 i).bind λj =>
 bif !j then
  some (-1)
 else
  (idx e.A g).bind λf =>
  bif f.Kind==2 then
   (JR e g a).bind λk =>
   bif !k then
    some (-1)
   else
    (idx e.K f.Am).bind λl =>
    (Ky l a b).bind λm =>
    some m
  else
   bif a != (-1099511627776)then
    (F7 a (-1000000) 1000000).bind λn =>
    bif !n then
     some (-1)
    else
     bif b==0 then
      some 0
     else
      bif a==(-1099511627776)then
       some a
      else
       (E6 f b).bind λc =>
       (Gt a c).bind λh =>
       some (i64.wrap (h*c))
   else
    bif b==0 then
     some 0
    else
     bif a==(-1099511627776)then
      some a
     else
      (E6 f b).bind λc =>
      (Gt a c).bind λh =>
      some (i64.wrap (h*c))
def OG(a:Aq)(c:Int)(e:Int):Option Bool :=
 (ID a e).bind λb =>
 bif decide (b>=0)then
  (ID a c).bind λf =>
  bif decide (f>=b)then
   (Ky a c b).bind λg =>
   some (g==e)
  else
   some false
 else
  some false
def G2(c:Aa)(a:Ah)(b:Int):Option Int :=
 bif a.Op==2 then
  (idx c.A a.B).bind λe =>
  (idx c.K e.Am).bind λf =>
  (OG f b a.Z).bind λg =>
  bif g then
   some 1
  else
   some (-1)
 else
  bif a.Op==3 then
   bif b==(-1099511627776)then
    some 0
   else
    bif bif decide (a.D<=b)then(decide (b<=a.E))else false then
     some 1
    else
     some (-1)
  else
   bif a.Op==4 then
    bif b==(-1099511627776)then
     some 1
    else
     some (-1)
   else
    some (-1)
abbrev PO(f:Int)(b:List Int)(c:Aa)(e:Ah)(g:Int)(i:Int->Option Bool)(h:Int->Option Bool)(a:Int):Option Bool :=
 bif decide (a<f)then
  (idx b f).bind λj =>
  (Cf c e.B g j).bind λk =>
  (idx b a).bind λl =>
  (Cf c e.B g l).bind λm =>
  bif k==m then
   (idx b f).bind λn =>
   (G2 c e n).bind λo =>
   (idx b a).bind λp =>
   (G2 c e p).bind λq =>
   bif o != q then
    some false
   else
    h (i64.wrap (a+1))
  else
   h (i64.wrap (a+1))
 else
  i a
abbrev PN(b:List Int)(c:Aa)(e:Ah)(f:Int)(g:Int->Option Bool)(h:Int->Option Bool)(a:Int):Option Bool :=
 bif decide (a<(b.length:Int))then
  iter (λi s=>PO a b c e f (λj=>h (i64.wrap (a+1))) i s) AC 0
 else
  g a
def G3(f:Aa)(a:Ah)(e:Int):Option Bool :=
 (idx f.A a.B).bind λb =>
 bif a.Op==2 then
  (Hs f a.B).bind λg =>
  iter (λh s=>PN g f a e (λi=>some true) h s) AC 0
 else
  bif a.Op==4 then
   some (decide (e>0))
  else
   bif e==0 then
    some (bif bif !b.A2 then(!(bif decide (a.D>b.D)then(decide (a.D<=b.E))else false))else false then(!(bif decide (a.E>=b.D)then(decide (a.E<b.E))else false))else false)
   else
    (E6 b e).bind λc =>
    bif !(bif decide (a.D>b.D)then(decide (a.D<=b.E))else false)then
     bif !(bif decide (a.E>=b.D)then(decide (a.E<b.E))else false)then
      some true
     else
      bif decide (c≠0)then
       some ((Int.tmod (i64.wrap (a.E+1)) c)==0)
      else none
    else
     bif decide (c≠0)then
      bif(Int.tmod a.D c)==0 then
       bif !(bif decide (a.E>=b.D)then(decide (a.E<b.E))else false)then
        some true
       else
        bif decide (c≠0)then
         some ((Int.tmod (i64.wrap (a.E+1)) c)==0)
        else none
      else
       some false
     else none
abbrev RH(b:List Ah)(a:Int)(c:List Ac)(e:((List Ac)×Int)->Option (List Ac))(f:Int):Option (List Ac) :=
 (idx b a).bind λg =>
 (Gu c g.B f).bind λh =>
 e (h,(i64.wrap (a+1)))
abbrev RG(b:List Ah)(c:Int)(e:Aa)(f:Int->Option (List Ac))(g:Int->Option (List Ac))(a:Int):Option (List Ac) :=
 (idx b c).bind λh =>
 (G3 e h a).bind λi =>
 bif !i then
  g (i64.wrap (a+1))
 else
  f a
abbrev K8(b:List Ah)(e:Aa)(f:(List Ac)->Int->Option (List Ac))(g:((List Ac)×Int)->Option (List Ac))(c:List Ac)(a:Int):Option (List Ac) :=
 bif decide (a<(b.length:Int))then
  iter (λh s=>RG b a e (RH b a c g) h s) AC 0
 else
  f c a
def Ha(d:Nat)(a:Aa)(b:Ah):Option (List Ac) :=
 (Ec d a b).bind λc =>
 bif c != 0 then
  some []
 else
  (IF d b).bind λe =>
  iter (λf s=>K8 e a (λg h=>some g) f s.1 s.2) AC ([],0)
abbrev PK(f:Int)(b:List Int)(c:Aa)(e:Int)(g:Int)(h:Int)(j:Int->Option Bool)(i:Int->Option Bool)(a:Int):Option Bool :=
 bif decide (a<f)then
  (idx b f).bind λk =>
  (Cf c e g k).bind λl =>
  (idx b a).bind λm =>
  (Cf c e g m).bind λn =>
  bif l != n then
   (idx b f).bind λo =>
   (Cf c e h o).bind λp =>
   (idx b a).bind λq =>
   (Cf c e h q).bind λr =>
   bif p==r then
    some false
   else
    i (i64.wrap (a+1))
  else
   i (i64.wrap (a+1))
 else
  j a
abbrev PI(b:List Int)(c:Aa)(e:Int)(f:Int)(g:Int)(h:Int->Option Bool)(i:Int->Option Bool)(a:Int):Option Bool :=
 bif decide (a<(b.length:Int))then
  iter (λj s=>PK a b c e f g (λk=>i (i64.wrap (a+1))) j s) AC 0
 else
  h a
abbrev PL(c:Au)(f:Int)(g:Int)(h:Int->Int->Option Bool)(i:(Int×Int)->Option Bool)(a:Int)(b:Int):Option Bool :=
 bif bif decide (b<2)then(decide (a<=c.E))else false then
  (E6 c f).bind λe =>
  bif decide (e≠0)then
   bif(Int.tmod a e) != 0 then
    some false
   else
    i ((i64.wrap (a+g)),(i64.wrap (b+1)))
  else none
 else
  h a b
def Ij(f:Aa)(g:Int)(b:Int)(c:Int):Option Bool :=
 (idx f.A g).bind λa =>
 bif bif c==0 then true else(decide (b>=c))then
  some true
 else
  bif a.Kind==2 then
   (Hs f g).bind λi =>
   iter (λj s=>PI i f g c b (λl=>some true) j s) AC 0
  else
   (E6 a c).bind λe =>
   (Gt a.D e).bind λh =>
   bif b==0 then
    some (bif !a.A2 then(decide ((i64.wrap ((i64.wrap (h+1))*e))>a.E))else false)
   else
    iter (λk s=>PL a b e (λm n=>some true) k s.1 s.2) AC ((i64.wrap ((i64.wrap (h+1))*e)),0)
abbrev Oa(b:Aa)(c:Int)(e:Int)(f:Int->Option Int)(g:Int->Option Int)(a:Int):Option Int :=
 (Ij b c a e).bind λh =>
 bif !h then
  g (i64.wrap (a+1))
 else
  f a
def GZ(a:Aa)(b:Int)(c:Int):Option Int :=
 (Dj a b).bind λe =>
 (F7 c 0 e).bind λf =>
 bif !f then
  some (-1)
 else
  iter (λg s=>Oa a b c (λh=>some h) g s) AC 0
def Om(a:AE)(b:Int):Option Bool :=
 bif a.Ag==b then
  some true
 else
  (Ja a.An b).bind λc =>
  some c
abbrev GT(b:Aa)(f:AE)(g:(List Ac)->Int->Option (List Ac))(e:((List Ac)×Int)->Option (List Ac))(c:List Ac)(a:Int):Option (List Ac) :=
 bif decide (a<(b.A.length:Int))then
  (Om f a).bind λh =>
  bif h then
   (Dj b a).bind λi =>
   (GZ b a i).bind λj =>
   (Gu c a j).bind λk =>
   e (k,(i64.wrap (a+1)))
  else
   e (c,(i64.wrap (a+1)))
 else
  g c a
abbrev GR(b:AE)(e:Aa)(f:(List Ac)->Int->Option (List Ac))(g:((List Ac)×Int)->Option (List Ac))(c:List Ac)(a:Int):Option (List Ac) :=
 bif decide (a<(b.Y.length:Int))then
  (idx b.Y a).bind λh =>
  (idx b.Y a).bind λi =>
  (idx b.Y a).bind λj =>
  (GZ e i.B j.T).bind λk =>
  (Gu c h.B k).bind λl =>
  g (l,(i64.wrap (a+1)))
 else
  f c a
abbrev IJ(a:AE)(b:Aa)(c:List Ac):Option (List Ac) :=
 iter (λe s=>GR a b (λf i=>iter (λg s=>GT b a (λh j=>some h) g s.1 s.2) AC (f,1)) e s.1 s.2) AC (c,0)
abbrev Ol(b:List Ac)(e:(List Ac)->Int->Option (List Ac))(f:((List Ac)×Int)->Option (List Ac))(c:List Ac)(a:Int):Option (List Ac) :=
 bif decide (a<(b.length:Int))then
  (idx b a).bind λg =>
  (idx b a).bind λh =>
  (Gu c g.B h.T).bind λi =>
  f (i,(i64.wrap (a+1)))
 else
  e c a
def Hb(d:Nat)(b:Aa)(a:AE):Option (List Ac) :=
 (DI d b a).bind λe =>
 bif e != 0 then
  some []
 else
  (Ha d b a.A3).bind λc =>
  bif a.Kind==3 then
   (Ha d b a.V).bind λf =>
   iter (λg s=>Ol f (λh i=>IJ a b h) g s.1 s.2) AC (c,0)
  else
   IJ a b c
abbrev LQ(b:List Ac)(e:(List Ac)->Int->Option ((List Ac)×Int))(f:((List Ac)×Int)->Option ((List Ac)×Int))(c:List Ac)(a:Int):Option ((List Ac)×Int) :=
 bif decide (a<(b.length:Int))then
  (idx b a).bind λg =>
  (idx b a).bind λh =>
  (Gu c g.B h.T).bind λi =>
  f (i,(i64.wrap (a+1)))
 else
  e c a
abbrev LO(b:Av)(d:Nat)(e:Aa)(f:(List Ac)->Int->Option ((List Ac)×Int))(g:((List Ac)×Int)->Option ((List Ac)×Int))(c:List Ac)(a:Int):Option ((List Ac)×Int) :=
 bif decide (a<(b.A8.length:Int))then
  (idx b.A8 a).bind λh =>
  (Hb d e h).bind λi =>
  iter (λj s=>LQ i (λk l=>g (k,(i64.wrap (a+1)))) j s.1 s.2) AC (c,0)
 else
  f c a
def On(d:Nat)(a:Aa)(b:Av):Option ((List Ac)×Int) :=
 (II d a b).bind λc =>
 bif c != 0 then
  some ([],c)
 else
  iter (λe s=>LO b d a (λf g=>some (f,0)) e s.1 s.2) AC ([],0)
abbrev Pe(b:BQ)(e:Int)(f:Int->Option Int)(c:Int->Option Int)(a:Int):Option Int :=
 bif decide (a<(b.C.length:Int))then
  (idx b.C a).bind λg =>
  bif decide ((g.length:Int)>0)then
   (idx b.C a).bind λh =>
   (idx h 0).bind λi =>
   bif i==e then
    some a
   else
    c (i64.wrap (a+1))
  else
   c (i64.wrap (a+1))
 else
  f a
def JH(a:BQ)(b:Int):Option Int :=
 iter (λc s=>Pe a b (λe=>some (-1)) c s) AC 0
abbrev Nb(b:List Int)(c:Aa)(e:Int->Option Int)(f:Int->Option Int)(a:Int):Option Int :=
 bif decide (a<(b.length:Int))then
  (idx b a).bind λg =>
  (JR c a g).bind λh =>
  bif !h then
   some 9
  else
   f (i64.wrap (a+1))
 else
  e a
def No(a:Aa)(b:List Int):Option Int :=
 (Eb a).bind λc =>
 bif c != 0 then
  some c
 else
  bif(b.length:Int) != (a.A.length:Int)then
   some 9
  else
   iter (λe s=>Nb b a (λf=>some 0) e s) AC 0
abbrev Oc(b:BQ)(g:Int->Option Bool)(f:Int->Option Bool)(a:Int):Option Bool :=
 bif decide (a<(b.Bp.length:Int))then
  (idx b.Bp a).bind λh =>
  bif decide (h<1)then
   some false
  else
   (idx b.Bp a).bind λi =>
   bif decide (i>1048575)then
    some false
   else
    bif decide (a>0)then
     (idx b.Bp a).bind λj =>
     (idx b.Bp (i64.wrap (a-1))).bind λk =>
     bif decide (j<=k)then
      some false
     else
      (idx b.Bp a).bind λc =>
      (JH b c).bind λe =>
      bif decide (e>=0)then
       some false
      else
       f (i64.wrap (a+1))
    else
     (idx b.Bp a).bind λc =>
     (JH b c).bind λe =>
     bif decide (e>=0)then
      some false
     else
      f (i64.wrap (a+1))
 else
  g a
abbrev Od(a:BQ):Option Bool :=
 iter (λb s=>Oc a (λc=>some true) b s) AC 0
abbrev K6(b:BQ)(e:Int->Option Bool)(c:Int->Option Bool)(a:Int):Option Bool :=
 bif decide (a<(b.C.length:Int))then
  (idx b.C a).bind λf =>
  (No b.At f).bind λg =>
  bif g != 0 then
   some false
  else
   bif decide (a>0)then
    (idx b.C a).bind λh =>
    (idx h 0).bind λi =>
    (idx b.C (i64.wrap (a-1))).bind λj =>
    (idx j 0).bind λk =>
    bif decide (i<=k)then
     some false
    else
     c (i64.wrap (a+1))
   else
    c (i64.wrap (a+1))
 else
  e a
def JU(a:BQ):Option Bool :=
 (Eb a.At).bind λb =>
 bif bif bif bif bif b != 0 then true else(decide ((a.C.length:Int)>200))then true else(decide ((a.Bp.length:Int)>300))then true else(decide (a.Af<0))then true else(decide (a.Af>300))then
  some false
 else
  iter (λc s=>K6 a (λe=>Od a) c s) AC 0
abbrev K4(b:List Ac)(f:Aa)(g:Int->Option Int)(c:Int->Option Int)(a:Int):Option Int :=
 bif decide (a<(b.length:Int))then
  (idx b a).bind λh =>
  (IE f h).bind λe =>
  bif e != 0 then
   some e
  else
   bif decide (a>0)then
    (idx b a).bind λi =>
    (idx b (i64.wrap (a-1))).bind λj =>
    bif decide (i.B<=j.B)then
     some 10
    else
     c (i64.wrap (a+1))
   else
    c (i64.wrap (a+1))
 else
  g a
def JS(a:Aa)(c:List Ac):Option Int :=
 (Eb a).bind λb =>
 bif b != 0 then
  some b
 else
  iter (λe s=>K4 c a (λf=>some 0) e s) AC 0
abbrev J4(b:List Ac)(e:List Ac)(f:Int)(h:Bool->Int->Option Bool)(c:(Bool×Int)->Option Bool)(g:Bool)(a:Int):Option Bool :=
 bif decide (a<(b.length:Int))then
  bif g then
   c (true,(i64.wrap (a+1)))
  else
   (idx b a).bind λi =>
   (idx e f).bind λj =>
   bif i.B==j.B then
    (idx b a).bind λk =>
    (idx e f).bind λl =>
    c ((decide (k.T>=l.T)),(i64.wrap (a+1)))
   else
    c (false,(i64.wrap (a+1)))
 else
  h g a
abbrev QN(b:List Ac)(c:List Ac)(e:Int->Option Bool)(f:Int->Option Bool)(a:Int):Option Bool :=
 bif decide (a<(b.length:Int))then
  iter (λg s=>J4 c b a (λh i=>bif !h then   some false else   f (i64.wrap (a+1))) g s.1 s.2) AC (false,0)
 else
  e a
def K7(a:List Ac)(b:List Ac):Option Bool :=
 iter (λc s=>QN a b (λe=>some true) c s) AC 0
def LN(d:Nat)(a:Aa)(b:AE)(c:List Ac):Option Bool :=
 (DI d a b).bind λe =>
 bif e==0 then
  (JS a c).bind λf =>
  bif f==0 then
   (Hb d a b).bind λg =>
   (K7 g c).bind λh =>
   some h
  else
   some false
 else
  some false
abbrev Sa(b:Av)(d:Nat)(c:Aa)(e:List Ac)(f:Int->Option Int)(g:Int->Option Int)(a:Int):Option Int :=
 bif decide (a<(b.A8.length:Int))then
  (idx b.A8 a).bind λh =>
  (LN d c h e).bind λi =>
  bif !i then
   some 23
  else
   g (i64.wrap (a+1))
 else
  f a
def Mq(d:Nat)(a:Aa)(b:Av)(c:List Ac):Option Int :=
 (II d a b).bind λe =>
 bif e != 0 then
  some e
 else
  (JS a c).bind λf =>
  bif f != 0 then
   some f
  else
   iter (λg s=>Sa b d a c (λh=>some 0) g s) AC 0
def Oi(b:Int)(a:List Int):Option Int :=
 bif b==7 then
  (idx a 0).bind λh =>
  some (i64.wrap (0-h))
 else
  bif b==5 then
   (idx a 0).bind λc =>
   (idx a 1).bind λe =>
   some (if e<c then e else c)
  else
   bif b==6 then
    (idx a 0).bind λf =>
    (idx a 1).bind λg =>
    some (if g>f then g else f)
   else
    some 1
abbrev Tw(c:Ah)(f:Aa->Ah->(List Int)->Option Int)(g:Aa)(h:List Int)(i:Int->(List Int)->Option Int)(j:(Int×(List Int))->Option Int)(a:Int)(b:List Int):Option Int :=
 bif decide (a<(c.G.length:Int))then
  (idx c.G a).bind λk =>
  (f g k h).bind λe =>
  bif rm b.length [e].length then
   j ((i64.wrap (a+1)),(b++[e]))
  else none
 else
  i a b
def KC(d:Nat)(e:Aa->Ah->(List Int)->Option Int)(b:Aa)(a:Ah)(c:List Int):Option Int :=
 bif bif bif a.Op==2 then true else(a.Op==3)then true else(a.Op==4)then
  (idx c a.B).bind λf =>
  (G2 b a f).bind λg =>
  some g
 else
  iter (λh s=>Tw a e b c (λk i=>(Oi a.Op i).bind λj=>some j) h s.1 s.2) AC (0,[])
def L3:Nat->Aa->Ah->(List Int)->Option Int
 | 0,_,_,_=>none
 | d+1,a,b,c=>KC d (L3 d) a b c
def Oe(d:Nat)(a:Aa)(b:Ah)(c:List Int):Option Int :=
 (Ec d a b).bind λe =>
 bif e != 0 then
  some 0
 else
  (No a c).bind λf =>
  bif f != 0 then
   some 0
  else
   (L3 d a b c).bind λg =>
   some g
def Mr(a:Io):Option Int :=
 bif bif bif bif bif bif decide (a.Of<1)then true else(decide (a.Of>1000))then true else(decide (a.Bm<1))then true else(decide (a.Bm>a.Of))then true else(decide (a.Bn<0))then true else(decide (a.Bn>1099511627776))then
  some 2
 else
  some 0
abbrev T4(c:Int->Int->Option Int)(e:(Int×Int)->Option Int)(a:Int)(b:Int):Option Int :=
 bif decide (b<3)then
  e ((u64.wrap (((BitVec.ofInt u64.bits (u64.wrap ((u64.wrap (a*6364136223846793005))+1442695040888963407)) ^^^ BitVec.ofInt u64.bits (Int.fdiv (u64.wrap ((u64.wrap (a*6364136223846793005))+1442695040888963407)) (2 ^ (min (29:Int).toNat u64.bits)))).toNat:Nat):Int)),(i64.wrap (b+1)))
 else
  c a b
def Qv(a:Int)(b:Int):Option Int :=
 iter (λc s=>T4 (λe f=>some (i64.wrap (Int.fdiv e (2 ^ (min (32:Int).toNat u64.bits))))) c s.1 s.2) AC ((u64.wrap ((u64.wrap ((u64.wrap ((u64.wrap a)*2654435761))+(u64.wrap ((u64.wrap b)*40503))))+97)),0)
def Sb(a:Io)(b:Int):Option Bool :=
 (Mr a).bind λc =>
 bif bif bif c==0 then(decide (b>=1))else false then(decide (b<=1048575))else false then
  (Qv a.Bn b).bind λe =>
  bif decide (a.Of≠0)then
   some (decide ((Int.tmod e a.Of)<a.Bm))
  else none
 else
  some false
abbrev QO(b:BQ)(d:Nat)(f:Av)(h:Int->(List Int)->Option (List Int))(e:(Int×(List Int))->Option (List Int))(a:Int)(c:List Int):Option (List Int) :=
 bif decide (a<(b.C.length:Int))then
  (idx b.C a).bind λi =>
  (Oe d b.At f.Bc i).bind λj =>
  bif j==1 then
   (idx b.C a).bind λk =>
   (idx k 0).bind λl =>
   (Sb f.Be l).bind λm =>
   bif m then
    (idx b.C a).bind λn =>
    (idx n 0).bind λg =>
    bif rm c.length [g].length then
     e ((i64.wrap (a+1)),(c++[g]))
    else none
   else
    e ((i64.wrap (a+1)),c)
  else
   e ((i64.wrap (a+1)),c)
 else
  h a c
abbrev M3(a:BQ)(d:Nat)(b:Av):Option (List Int) :=
 iter (λc s=>QO a d b (λf e=>some e) c s.1 s.2) AC (0,[])
def KI(d:Nat)(a:BQ)(b:Av):Option (List Int) :=
 (JU a).bind λc =>
 bif !c then
  some []
 else
  (II d a.At b).bind λe =>
  bif e != 0 then
   some []
  else
   M3 a d b
def OH(a:Int)(b:Int):Option Bool :=
 some (bif bif bif decide (a>=0)then(decide (a<1152921504606846976))else false then(decide (b>=0))else false then(decide (b<1048576))else false)
abbrev KF(c:Int->Int->Option Int)(e:(Int×Int)->Option Int)(a:Int)(b:Int):Option Int :=
 bif decide (b<3)then
  e ((u64.wrap ((u64.wrap (((BitVec.ofInt u64.bits a ^^^ BitVec.ofInt u64.bits (Int.fdiv a (2 ^ (min (31:Int).toNat u64.bits)))).toNat:Nat):Int))*13787848793156543929)),(i64.wrap (b+1)))
 else
  c a b
def Mt(a:Int)(b:Int)(c:Int):Option Int :=
 bif bif bif bif bif bif decide (a<0)then true else(decide (a>=1152921504606846976))then true else(decide (b<0))then true else(decide (b>7))then true else(decide (c<0))then true else(decide (c>1023))then
  some 0
 else
  iter (λe s=>KF (λf g=>some (i64.wrap (Int.fdiv f (2 ^ (min (54:Int).toNat u64.bits))))) e s.1 s.2) AC ((u64.wrap ((u64.wrap ((u64.wrap a)+(u64.wrap ((u64.wrap b)*11400714819323198485))))+(u64.wrap ((u64.wrap c)*14029467366897019727)))),0)
abbrev Nf(e:Int)(f:Int->Int->Int->Option Int)(g:(Int×Int×Int)->Option Int)(c:Int)(b:Int)(a:Int):Option Int :=
 bif decide (a<=7)then
  (Mt e a b).bind λh =>
  g (b,(i64.wrap (((BitVec.ofInt i64.bits c ^^^ BitVec.ofInt i64.bits h).toNat:Nat):Int)),(i64.wrap (a+1)))
 else
  f c b a
def PQ(b:Int)(a:Int):Option Int :=
 (OH b a).bind λc =>
 bif !c then
  some (-1)
 else
  iter (λe s=>Nf b (λf g h=>some (i64.wrap ((i64.wrap (f*1024))+g))) e s.1 s.2.1 s.2.2) AC ((i64.wrap (Int.tdiv a 1024)),(Int.tmod a 1024),0)
abbrev KG(b:List Ac)(f:List Int)(g:BQ)(h:Int->(List Int)->Option (Ao×Int))(i:(Int×(List Int))->Option (Ao×Int))(a:Int)(c:List Int):Option (Ao×Int) :=
 bif decide (a<(b.length:Int))then
  (idx b a).bind λj =>
  (idx b a).bind λk =>
  (idx b a).bind λl =>
  (idx f l.B).bind λm =>
  (Cf g.At j.B k.T m).bind λe =>
  bif rm c.length [e].length then
   i ((i64.wrap (a+1)),(c++[e]))
  else none
 else
  h a c
abbrev Oo(b:List Int)(c:BQ)(f:Int)(g:List Ac)(h:Int->(List (List Int))->Option (Ao×Int))(i:(Int×(List (List Int)))->Option (Ao×Int))(a:Int)(e:List (List Int)):Option (Ao×Int) :=
 bif decide (a<(b.length:Int))then
  (idx b a).bind λj =>
  (JH c j).bind λk =>
  (idx c.C k).bind λl =>
  (idx b a).bind λm =>
  (PQ f m).bind λn =>
  iter (λo s=>KG g l c (λr p=>(Np e p).bind λq=>i ((i64.wrap (a+1)),q)) o s.1 s.2) AC (0,[n])
 else
  h a e
def JW(d:Nat)(a:BQ)(c:Av)(b:List Ac)(e:Int):Option (Ao×Int) :=
 (JU a).bind λg =>
 bif !g then
  some (({}:Ao),13)
 else
  (Mq d a.At c b).bind λf =>
  bif f != 0 then
   some (({}:Ao),f)
  else
   bif bif decide (e<0)then true else(decide (e>=1152921504606846976))then
    some (({}:Ao),2)
   else
    bif rm 0 b.length then
     (KI d a c).bind λh =>
     iter (λi s=>Oo h a e b (λk j=>some (({ Ae:=c.Ae,Af:=a.Af,H:=b,C:=j }:Ao),0)) i s.1 s.2) AC (0,[])
    else none
abbrev Tq(b:List Int)(c:List Int)(e:Int->Option Bool)(f:Int->Option Bool)(a:Int):Option Bool :=
 bif decide (a<(b.length:Int))then
  (idx b a).bind λg =>
  (idx c a).bind λh =>
  bif g != h then
   some false
  else
   f (i64.wrap (a+1))
 else
  e a
def IB(a:List Int)(b:List Int):Option Bool :=
 bif(a.length:Int) != (b.length:Int)then
  some false
 else
  iter (λc s=>Tq a b (λe=>some true) c s) AC 0
abbrev Xm(c:Ao)(g:List Int)(h:Int->(List (List Int))->Option Ao)(e:(Int×(List (List Int)))->Option Ao)(a:Int)(b:List (List Int)):Option Ao :=
 bif decide (a<(c.C.length:Int))then
  (idx c.C a).bind λi =>
  bif decide ((i.length:Int)>0)then
   (idx c.C a).bind λj =>
   (idx j 0).bind λk =>
   (Ja g k).bind λl =>
   bif l then
    (idx c.C a).bind λf =>
    bif rm b.length [f].length then
     e ((i64.wrap (a+1)),(b++[f]))
    else none
   else
    e ((i64.wrap (a+1)),b)
  else
   e ((i64.wrap (a+1)),b)
 else
  h a b
def KH(a:Ao)(b:List Int):Option Ao :=
 iter (λc s=>Xm a b (λf e=>some ({ Ae:=a.Ae,Af:=a.Af,H:=a.H,C:=e }:Ao)) c s.1 s.2) AC (0,[])
abbrev Ob(b:List Ac)(f:List Ac)(g:Int->Option Bool)(h:Int->Option Bool)(a:Int):Option Bool :=
 bif decide (a<(b.length:Int))then
  (idx b a).bind λc =>
  (idx f a).bind λe =>
  bif !((c.B==e.B)&&((c.T==e.T)&&true))then
   some false
  else
   h (i64.wrap (a+1))
 else
  g a
def M2(a:List Ac)(b:List Ac):Option Bool :=
 bif(a.length:Int) != (b.length:Int)then
  some false
 else
  iter (λc s=>Ob a b (λe=>some true) c s) AC 0
def KN(a:Ap)(b:Ap):Option Bool :=
 (IB a.U b.U).bind λc =>
 bif bif bif bif bif bif c then(a.Ad==b.Ad)else false then(a.A4==b.A4)else false then(a.A5==b.A5)else false then(a.A6==b.A6)else false then(a.Bb==b.Bb)else false then
  (IB a.C b.C).bind λe =>
  some e
 else
  some false
abbrev T7(b:El)(c:El)(e:Int->Option Bool)(f:Int->Option Bool)(a:Int):Option Bool :=
 bif decide (a<(b.Al.length:Int))then
  (idx b.Al a).bind λg =>
  (idx c.Al a).bind λh =>
  (KN g h).bind λi =>
  bif !i then
   some false
  else
   f (i64.wrap (a+1))
 else
  e a
def Qx(a:El)(b:El):Option Bool :=
 (M2 a.Y b.Y).bind λc =>
 bif bif bif !c then true else(a.Ag != b.Ag)then true else((a.Al.length:Int) != (b.Al.length:Int))then
  some false
 else
  iter (λe s=>T7 a b (λf=>some true) e s) AC 0
abbrev Tz(b:List AO)(f:List AO)(g:Int->Option Bool)(h:Int->Option Bool)(a:Int):Option Bool :=
 bif decide (a<(b.length:Int))then
  (idx b a).bind λc =>
  (idx f a).bind λe =>
  bif !((c.L==e.L)&&((c.N==e.N)&&true))then
   some false
  else
   h (i64.wrap (a+1))
 else
  g a
def Ui(a:List AO)(b:List AO):Option Bool :=
 bif(a.length:Int) != (b.length:Int)then
  some false
 else
  iter (λc s=>Tz a b (λe=>some true) c s) AC 0
def Qy(a:Ct)(b:Ct):Option Bool :=
 bif a.Ag==b.Ag then
  (IB a.An b.An).bind λc =>
  bif c then
   (Ui a.A1 b.A1).bind λe =>
   some (bif bif bif bif e then((a.Ax.L==b.Ax.L)&&((a.Ax.N==b.Ax.N)&&true))else false then((a.Ay.L==b.Ay.L)&&((a.Ay.N==b.Ay.N)&&true))else false then(a.Ad==b.Ad)else false then(a.Ba==b.Ba)else false)
  else
   some false
 else
  some false
abbrev T8(e:List Bd)(f:List Bd)(g:Int->Option Bool)(h:Int->Option Bool)(c:Int):Option Bool :=
 bif decide (c<(e.length:Int))then
  (idx e c).bind λa =>
  (idx f c).bind λb =>
  bif !((a.By==b.By)&&((a.Bz==b.Bz)&&((a.B0==b.B0)&&((a.B1==b.B1)&&(((a.Bu.L==b.Bu.L)&&((a.Bu.N==b.Bu.N)&&true))&&true)))))then
   some false
  else
   h (i64.wrap (c+1))
 else
  g c
def Uj(a:List Bd)(b:List Bd):Option Bool :=
 bif(a.length:Int) != (b.length:Int)then
  some false
 else
  iter (λc s=>T8 a b (λe=>some true) c s) AC 0
abbrev T9(b:List Ei)(f:List Ei)(g:Int->Option Bool)(h:Int->Option Bool)(a:Int):Option Bool :=
 bif decide (a<(b.length:Int))then
  (idx b a).bind λc =>
  (idx f a).bind λe =>
  bif !((c.D==e.D)&&((c.Ad==e.Ad)&&true))then
   some false
  else
   h (i64.wrap (a+1))
 else
  g a
def Uk(a:List Ei)(b:List Ei):Option Bool :=
 bif(a.length:Int) != (b.length:Int)then
  some false
 else
  iter (λc s=>T9 a b (λe=>some true) c s) AC 0
def Ib(a:A9)(b:A9):Option Bool :=
 bif bif a.Kind==b.Kind then((a.Number.L==b.Number.L)&&((a.Number.N==b.Number.N)&&true))else false then
  (Qx a.Table b.Table).bind λc =>
  bif c then
   (Qy a.Model b.Model).bind λe =>
   bif e then
    (Uj a.Curve b.Curve).bind λf =>
    bif f then
     (Uk a.Hist b.Hist).bind λg =>
     bif bif g then((a.Box.Ad==b.Box.Ad)&&((a.Box.Bf==b.Box.Bf)&&((a.Box.Bh==b.Box.Bh)&&((a.Box.Bi==b.Box.Bi)&&((a.Box.Bj==b.Box.Bj)&&((a.Box.Bk==b.Box.Bk)&&true))))))else false then
      (IB a.Lineage b.Lineage).bind λh =>
      some h
     else
      some false
    else
     some false
   else
    some false
  else
   some false
 else
  some false
abbrev KJ(b:List Int)(c:Int->Option Bool)(e:Int->Option Bool)(a:Int):Option Bool :=
 bif decide (a<(b.length:Int))then
  (idx b a).bind λf =>
  (idx b (i64.wrap (a-1))).bind λg =>
  bif decide (f<=g)then
   some false
  else
   e (i64.wrap (a+1))
 else
  c a
def Mu(a:List Int):Option Bool :=
 iter (λb s=>KJ a (λc=>some true) b s) AC 1
abbrev Vh(e:List Int)(f:Int)(i:Bool->Int->(List Int)->Option (List Int))(h:(Bool×Int×(List Int))->Option (List Int))(g:Bool)(a:Int)(b:List Int):Option (List Int) :=
 bif decide (a<(e.length:Int))then
  (idx e a).bind λj =>
  bif bif decide (j>f)then(!g)else false then
   bif rm b.length [f].length then
    (idx e a).bind λc =>
    bif rm (b++[f]).length [c].length then
     h (true,(i64.wrap (a+1)),((b++[f])++[c]))
    else none
   else none
  else
   (idx e a).bind λc =>
   bif rm b.length [c].length then
    h (g,(i64.wrap (a+1)),(b++[c]))
   else none
 else
  i g a b
def VU(b:List Int)(a:Int):Option (List Int) :=
 (Ja b a).bind λe =>
 bif e then
  some b
 else
  iter (λf s=>Vh b a (λg h c=>bif !g then   bif rm c.length [a].length then     some (c++[a])   else none else   some c) f s.1 s.2.1 s.2.2) AC (false,0,[])
abbrev LU(b:List Int)(f:List Int)(g:Bool)(h:(List Int)->Int->Option (List Int))(e:((List Int)×Int)->Option (List Int))(c:List Int)(a:Int):Option (List Int) :=
 bif decide (a<(b.length:Int))then
  (idx b a).bind λi =>
  (Ja f i).bind λj =>
  bif j==g then
   (idx b a).bind λk =>
   (VU c k).bind λl =>
   e (l,(i64.wrap (a+1)))
  else
   e (c,(i64.wrap (a+1)))
 else
  h c a
def Qw(a:List Int)(b:List Int)(c:Bool):Option (List Int) :=
 iter (λe s=>LU a b c (λf g=>some f) e s.1 s.2) AC ([],0)
def LR(a:List Int)(b:List Int):Option (List Int) :=
 (Qw a b false).bind λc =>
 some c
def KL(a:List Int)(b:List Int):Option Bool :=
 (LR a b).bind λc =>
 some ((c.length:Int)==0)
def Rm(a:List Int):Option Ab :=
 bif decide (0<=(0:Int)/\0<=(if 400<(a.length:Int)then 400 else(a.length:Int))/\(if 400<(a.length:Int)then 400 else(a.length:Int))<=(a.length:Int))then
  some ({ Ak:=(NB a 0 (if 400<(a.length:Int)then 400 else(a.length:Int))) }:Ab)
 else none
abbrev JF(a:Ab)(b:Int):Option (Int×Ab) :=
 (idx a.Ak (i64.wrap ((i64.wrap (a.Aj+1))-1))).bind λc =>
 bif decide (b>256)then
  bif decide ((i64.wrap (a.Aj+1))<(a.Ak.length:Int))then
   (idx a.Ak (i64.wrap (a.Aj+1))).bind λe =>
   bif decide (b≠0)then
    some ((Int.tmod (i64.wrap ((i64.wrap ((i64.wrap c)*256))+(i64.wrap e))) b),({ Ak:=a.Ak,Aj:=(i64.wrap ((i64.wrap (a.Aj+1))+1)) }:Ab))
   else none
  else
   bif decide (b≠0)then
    some ((Int.tmod (i64.wrap c) b),({ Ak:=a.Ak,Aj:=(i64.wrap (a.Aj+1)) }:Ab))
   else none
 else
  bif decide (b≠0)then
   some ((Int.tmod (i64.wrap c) b),({ Ak:=a.Ak,Aj:=(i64.wrap (a.Aj+1)) }:Ab))
  else none
def A6(a:Ab)(b:Int):Option (Int×Ab) :=
 bif decide (b<1)then
  some (0,a)
 else
  bif decide (a.Aj>=(a.Ak.length:Int))then
   some (0,a)
  else
   JF a b
def B9(c:Ab)(a:Int):Option (Bool×Ab) :=
 (A6 c a).bind λb =>
 some ((b.1==(i64.wrap (a-1))),b.2)
def AK(c:Ab)(a:Int)(e:Int):Option (Int×Ab) :=
 (A6 c (i64.wrap ((i64.wrap (e-a))+1))).bind λb =>
 some ((i64.wrap (a+b.1)),b.2)
abbrev JD(e:Int)(f:Int->(List Ev)->Option (Aq×Ab))(g:(Int×(List Ev))->Option (Aq×Ab))(b:Int)(a:List Ev):Option (Aq×Ab) :=
 bif decide (b>0)then
  (Dl (a.length:Int)).bind λc =>
  bif decide (({ data:=#[108] }:ByteArray).size+c.size<=9223372036854775807)then
   bif rm a.length ([({ J:=(({ data:=#[108] }:ByteArray)++c),A7:=(i64.wrap (1+e)) }:Ev)]).length then
    g ((i64.wrap (b-1)),(a++[({ J:=(({ data:=#[108] }:ByteArray)++c),A7:=(i64.wrap (1+e)) }:Ev)]))
   else none
  else none
 else
  f b a
abbrev Hl(f:Int×Ab)(g:Int->Ab->(List Ev)->Option (Aq×Ab))(h:(Int×Ab×(List Ev))->Option (Aq×Ab))(a:Int)(b:Ab)(c:List Ev):Option (Aq×Ab) :=
 bif decide (a<f.1)then
  (AK b 1 2).bind λe =>
  iter (λi s=>JD a (λk j=>h ((i64.wrap (a+1)),e.2,j)) i s.1 s.2) AC (e.1,c)
 else
  g a b c
abbrev JE(b:Int×Ab)(c:ByteArray)(e:List Ev):Option (Aq×Ab) :=
 (B9 b.2 2).bind λa =>
 bif a.1 then
  some (({ J:=c,U:=e }:Aq),a.2)
 else
  iter (λf s=>Hl b (λi g h=>some (({ J:=c,U:=h }:Aq),g)) f s.1 s.2.1 s.2.2) AC (0,a.2,e)
abbrev Hk(e:Int×Ab)(f:Int->(List Ev)->Option (Aq×Ab))(g:(Int×(List Ev))->Option (Aq×Ab))(a:Int)(b:List Ev):Option (Aq×Ab) :=
 bif decide (a<e.1)then
  (Dl a).bind λc =>
  bif decide (({ data:=#[107] }:ByteArray).size+c.size<=9223372036854775807)then
   bif rm b.length ([({ J:=(({ data:=#[107] }:ByteArray)++c) }:Ev)]).length then
    g ((i64.wrap (a+1)),(b++[({ J:=(({ data:=#[107] }:ByteArray)++c) }:Ev)]))
   else none
  else none
 else
  f a b
def FN(b:Ab)(c:ByteArray):Option (Aq×Ab) :=
 (AK b 1 3).bind λa =>
 iter (λe s=>Hk a (λg f=>JE a c f) e s.1 s.2) AC (0,[({ J:={ data:=#[116,111,112] },A7:=(-1) }:Ev)])
def Ep(f:Ab)(g:ByteArray):Option (Au×Ab) :=
 (AK f (-4) 2).bind λa =>
 (A6 a.2 4).bind λb =>
 (idx ([[1],[1,5],[1,5,20],[1,2,4,12]]) b.1).bind λh =>
 (B9 b.2 3).bind λc =>
 (A6 c.2 45).bind λe =>
 some (({ J:=g,Kind:=3,D:=a.1,E:=(i64.wrap (a.1+e.1)),S:=h,A2:=c.1 }:Au),e.2)
def Gh(g:Int->Ab->(List Au)->Option (Aa×Ab))(h:(Int×Ab×(List Au))->Option (Aa×Ab))(b:Int)(e:Ab)(a:List Au):Option (Aa×Ab) :=
 bif decide (b>0)then
  (Dl (a.length:Int)).bind λf =>
  bif decide (({ data:=#[109] }:ByteArray).size+f.size<=9223372036854775807)then
   (Ep e (({ data:=#[109] }:ByteArray)++f)).bind λc =>
   bif rm a.length [c.1].length then
    h ((i64.wrap (b-1)),c.2,(a++[c.1]))
   else none
  else none
 else
  g b e a
def Me(g:Int->Ab->(List Au)->Option (Aa×Ab))(h:(Int×Ab×(List Au))->Option (Aa×Ab))(b:Int)(e:Ab)(a:List Au):Option (Aa×Ab) :=
 bif decide (b>0)then
  (Dl (a.length:Int)).bind λf =>
  bif decide (({ data:=#[109] }:ByteArray).size+f.size<=9223372036854775807)then
   (Ep e (({ data:=#[109] }:ByteArray)++f)).bind λc =>
   bif rm a.length [c.1].length then
    h ((i64.wrap (b-1)),c.2,(a++[c.1]))
   else none
  else none
 else
  g b e a
def Gg(f:Ab):Option (Aa×Ab) :=
 (FN f ({ data:=#[111,110,101] }:ByteArray)).bind λb =>
 (FN b.2 ({ data:=#[116,119,111] }:ByteArray)).bind λc =>
 (B9 c.2 2).bind λe =>
 bif e.1 then
  bif rm ([({ J:={ data:=#[119,104,111] },Kind:=1 }:Au),({ J:={ data:=#[115,101,120] },Kind:=2 }:Au)]).length ([({ J:={ data:=#[106,111,98] },Kind:=2,Am:=1 }:Au)]).length then
   (AK e.2 1 3).bind λa =>
   iter (λg s=>Gh (λm h i=>some (({ K:=[b.1,c.1],A:=i }:Aa),h)) g s.1 s.2.1 s.2.2) AC (a.1,a.2,([({ J:={ data:=#[119,104,111] },Kind:=1 }:Au),({ J:={ data:=#[115,101,120] },Kind:=2 }:Au)]++[({ J:={ data:=#[106,111,98] },Kind:=2,Am:=1 }:Au)]))
  else none
 else
  (AK e.2 1 3).bind λa =>
  iter (λj s=>Me (λn k l=>some (({ K:=[b.1,c.1],A:=l }:Aa),k)) j s.1 s.2.1 s.2.2) AC (a.1,a.2,[({ J:={ data:=#[119,104,111] },Kind:=1 }:Au),({ J:={ data:=#[115,101,120] },Kind:=2 }:Au)])
def GJ(c:Ab)(f:Aa)(g:Int):Option (Int×Ab) :=
 (idx f.A g).bind λa =>
 bif a.Kind==1 then
  (AK c 1 60).bind λh =>
  some (h.1,h.2)
 else
  bif a.Kind==2 then
   (Hs f g).bind λi =>
   (A6 c (i.length:Int)).bind λj =>
   (idx i j.1).bind λk =>
   some (k,j.2)
  else
   bif a.A2 then
    (B9 c 4).bind λe =>
    bif e.1 then
     some ((-1099511627776),e.2)
    else
     (AK e.2 a.D a.E).bind λb =>
     some (b.1,b.2)
   else
    (AK c a.D a.E).bind λb =>
    some (b.1,b.2)
def Is(e:Aa)(g:Int->Ab->(List Int)->Option ((List Int)×Ab))(h:(Int×Ab×(List Int))->Option ((List Int)×Ab))(a:Int)(f:Ab)(b:List Int):Option ((List Int)×Ab) :=
 bif decide (a<(e.A.length:Int))then
  (GJ f e a).bind λc =>
  bif rm b.length [c.1].length then
   h ((i64.wrap (a+1)),c.2,(b++[c.1]))
  else none
 else
  g a f b
def I4(a:Ab)(b:Aa):Option ((List Int)×Ab) :=
 iter (λc s=>Is b (λg e f=>some (f,e)) c s.1 s.2.1 s.2.2) AC (0,a,[])
abbrev I5(f:Aa×Ab)(g:Int->Ab->(List (List Int))->Option (BQ×Ab))(h:(Int×Ab×(List (List Int)))->Option (BQ×Ab))(a:Int)(b:Ab)(c:List (List Int)):Option (BQ×Ab) :=
 bif decide (a>0)then
  (I4 b f.1).bind λe =>
  (Np c e.1).bind λi =>
  h ((i64.wrap (a-1)),e.2,i)
 else
  g a b c
def Gi(c:Ab)(e:Int):Option (BQ×Ab) :=
 (Gg c).bind λa =>
 (A6 a.2 (i64.wrap (e+1))).bind λb =>
 iter (λf s=>I5 a (λi g h=>some (({ At:=a.1,C:=h }:BQ),g)) f s.1 s.2.1 s.2.2) AC (b.1,b.2,[])
abbrev DX(c:Aa)(f:Int)(g:Int->(List Int)->Option (List Int))(e:(Int×(List Int))->Option (List Int))(a:Int)(b:List Int):Option (List Int) :=
 bif decide (a<(c.A.length:Int))then
  (idx c.A a).bind λh =>
  bif h.Kind==f then
   bif rm b.length [a].length then
    e ((i64.wrap (a+1)),(b++[a]))
   else none
  else
   e ((i64.wrap (a+1)),b)
 else
  g a b
def C6(a:Aa)(b:Int):Option (List Int) :=
 iter (λc s=>DX a b (λf e=>some e) c s.1 s.2) AC (0,[])
def Bs(c:Ab)(e:Aa):Option (Int×Ab) :=
 (C6 e 3).bind λa =>
 (A6 c (a.length:Int)).bind λb =>
 (idx a b.1).bind λf =>
 some (f,b.2)
def GI(c:Ab)(e:Aa):Option (Int×Ab) :=
 (C6 e 2).bind λa =>
 (A6 c (a.length:Int)).bind λb =>
 (idx a b.1).bind λf =>
 some (f,b.2)
abbrev Fw(a:Aa)(k:Ab):Option (Ah×Ab) :=
 (A6 k 5).bind λb =>
 bif b.1==1 then
  (GI b.2 a).bind λi =>
  (idx a.A i.1).bind λl =>
  (idx a.K l.Am).bind λm =>
  (A6 i.2 (m.U.length:Int)).bind λj =>
  some (({ Op:=2,B:=i.1,Z:=j.1 }:Ah),j.2)
 else
  bif b.1==2 then
   (Bs b.2 a).bind λc =>
   (idx a.A c.1).bind λf =>
   (AK c.2 (-3) 40).bind λe =>
   (A6 e.2 30).bind λg =>
   some (({ Op:=3,B:=c.1,D:=(i64.wrap (f.D+e.1)),E:=(i64.wrap ((i64.wrap (f.D+e.1))+g.1)) }:Ah),g.2)
  else
   bif b.1==3 then
    (Bs b.2 a).bind λc =>
    (idx a.A c.1).bind λf =>
    (AK c.2 (-3) 40).bind λe =>
    (A6 e.2 30).bind λg =>
    some (({ Op:=3,B:=c.1,D:=(i64.wrap (f.D+e.1)),E:=(i64.wrap ((i64.wrap (f.D+e.1))+g.1)) }:Ah),g.2)
   else
    bif b.1==4 then
     (Bs b.2 a).bind λh =>
     (idx a.A h.1).bind λn =>
     bif n.A2 then
      some (({ Op:=4,B:=h.1 }:Ah),h.2)
     else
      some (({ Op:=1 }:Ah),h.2)
    else
     some (({ Op:=1 }:Ah),b.2)
def DC(d:Nat)(e:Ab->Aa->Int->Option (Ah×Ab))(f:Ab)(a:Aa)(c:Int):Option (Ah×Ab) :=
 bif decide (c>0)then
  (A6 f 5).bind λb =>
  bif b.1==2 then
   (e b.2 a (i64.wrap (c-1))).bind λg =>
   some (({ Op:=7,G:=[g.1] }:Ah),g.2)
  else
   bif b.1==3 then
    (e b.2 a (i64.wrap (c-1))).bind λh =>
    (e h.2 a (i64.wrap (c-1))).bind λi =>
    some (({ Op:=5,G:=[h.1,i.1] }:Ah),i.2)
   else
    bif b.1==4 then
     (e b.2 a (i64.wrap (c-1))).bind λj =>
     (e j.2 a (i64.wrap (c-1))).bind λk =>
     some (({ Op:=6,G:=[j.1,k.1] }:Ah),k.2)
    else
     Fw a b.2
 else
  Fw a f
def AN:Nat->Ab->Aa->Int->Option (Ah×Ab)
 | 0,_,_,_=>none
 | d+1,a,b,c=>DC d (AN d) a b c
abbrev ND(a:List Int)(c:Int×Ab)(i:Aa)(j:Int->Ab->(List Ac)->Option ((List Ac)×Ab))(k:(Int×Ab×(List Ac))->Option ((List Ac)×Ab))(b:Int)(g:Ab)(e:List Ac):Option ((List Ac)×Ab) :=
 bif decide (b<((NB a c.1 (a.length:Int)).length:Int))then
  (idx (NB a c.1 (a.length:Int)) b).bind λh =>
  (idx (NB a c.1 (a.length:Int)) b).bind λl =>
  (Dj i l).bind λm =>
  (A6 g (i64.wrap (m+1))).bind λf =>
  bif rm e.length [({ B:=h,T:=f.1 }:Ac)].length then
   k ((i64.wrap (b+1)),f.2,(e++[({ B:=h,T:=f.1 }:Ac)]))
  else none
 else
  j b g e
abbrev Fx(b:List Int)(h:Aa)(i:Int->Ab->(List Ac)->Option ((List Ac)×Ab))(j:(Int×Ab×(List Ac))->Option ((List Ac)×Ab))(a:Int)(f:Ab)(c:List Ac):Option ((List Ac)×Ab) :=
 bif decide (a<(b.length:Int))then
  (idx b a).bind λg =>
  (idx b a).bind λk =>
  (Dj h k).bind λl =>
  (A6 f (i64.wrap (l+1))).bind λe =>
  bif rm c.length [({ B:=g,T:=e.1 }:Ac)].length then
   j ((i64.wrap (a+1)),e.2,(c++[({ B:=g,T:=e.1 }:Ac)]))
  else none
 else
  i a f c
def Ch(f:Ab)(c:Aa):Option ((List Ac)×Ab) :=
 (C6 c 2).bind λa =>
 (B9 f 2).bind λe =>
 bif e.1 then
  (A6 e.2 (a.length:Int)).bind λb =>
  bif decide (0<=(b.1:Int)/\b.1<=(a.length:Int)/\(a.length:Int)<=(a.length:Int))then
   iter (λg s=>ND a b c (λm h i=>some (i,h)) g s.1 s.2.1 s.2.2) AC (0,b.2,[])
  else none
 else
  iter (λj s=>Fx a c (λn k l=>some (l,k)) j s.1 s.2.1 s.2.2) AC (0,e.2,[])
abbrev G9(e:List Int)(i:Int)(j:Int->Ab->(List Int)->Option ((List Int)×Ab))(f:(Int×Ab×(List Int))->Option ((List Int)×Ab))(a:Int)(g:Ab)(b:List Int):Option ((List Int)×Ab) :=
 bif decide (a<(e.length:Int))then
  (idx e a).bind λk =>
  bif k != i then
   bif(b.length:Int)==0 then
    (idx e a).bind λc =>
    bif rm b.length [c].length then
     f ((i64.wrap (a+1)),g,(b++[c]))
    else none
   else
    (B9 g 2).bind λh =>
    bif h.1 then
     (idx e a).bind λc =>
     bif rm b.length [c].length then
      f ((i64.wrap (a+1)),h.2,(b++[c]))
     else none
    else
     f ((i64.wrap (a+1)),h.2,b)
  else
   f ((i64.wrap (a+1)),g,b)
 else
  j a g b
def Fo(a:Ab)(b:Aa)(c:Int):Option ((List Int)×Ab) :=
 (C6 b 3).bind λe =>
 iter (λf s=>G9 e c (λi g h=>some (h,g)) f s.1 s.2.1 s.2.2) AC (0,a,[])
def DR(d:Nat)(k:Ab)(b:Aa)(f:ByteArray):Option (AE×Ab) :=
 (A6 k 3).bind λi =>
 (AN d i.2 b i.1).bind λe =>
 (Bs e.2 b).bind λg =>
 (A6 g.2 4).bind λc =>
 bif c.1==1 then
  (Ch c.2 b).bind λa =>
  some (({ J:=f,Kind:=1,A3:=e.1,Y:=a.1,Ag:=g.1 }:AE),a.2)
 else
  bif c.1==2 then
   (Fo c.2 b g.1).bind λh =>
   bif decide ((h.1.length:Int)>0)then
    some (({ J:=f,Kind:=2,A3:=e.1,Ag:=g.1,An:=h.1 }:AE),h.2)
   else
    (Ch h.2 b).bind λa =>
    some (({ J:=f,Kind:=1,A3:=e.1,Y:=a.1,Ag:=(-1) }:AE),a.2)
  else
   bif c.1==3 then
    (idx b.A g.1).bind λl =>
    bif decide (l.D>=0)then
     (AN d c.2 b 1).bind λj =>
     some (({ J:=f,Kind:=3,A3:=e.1,Ag:=g.1,V:=j.1 }:AE),j.2)
    else
     (Ch c.2 b).bind λa =>
     some (({ J:=f,Kind:=1,A3:=e.1,Y:=a.1,Ag:=(-1) }:AE),a.2)
   else
    (Ch c.2 b).bind λa =>
    some (({ J:=f,Kind:=1,A3:=e.1,Y:=a.1,Ag:=(-1) }:AE),a.2)
def FI(a:ByteArray)(b:Int)(c:Int)(e:Int)(f:Int)(g:Int)(h:List Ah)(i:Int×Ab)(j:Int×Ab)(k:Int×Ab)(n:Int)(l:Ab)(m:List AE):Option (Av×Ab) :=
 some (({ Ae:=(({ data:=#[112] }:ByteArray)++a),Bs:={ data:=#[115,114,99] },Bc:={ Op:=b,B:=c,Z:=e,D:=f,E:=g,G:=h },Be:={ Bm:=i.1,Of:=j.1,Bn:=k.1 },A8:=m }:Av),l)
def Eh(d:Nat)(g:Aa)(h:Int->Ab->(List AE)->Option (Av×Ab))(i:(Int×Ab×(List AE))->Option (Av×Ab))(a:Int)(e:Ab)(b:List AE):Option (Av×Ab) :=
 bif decide (a>0)then
  (Dl a).bind λf =>
  bif decide (({ data:=#[113] }:ByteArray).size+f.size<=9223372036854775807)then
   (DR d e g (({ data:=#[113] }:ByteArray)++f)).bind λc =>
   bif rm b.length [c.1].length then
    i ((i64.wrap (a-1)),c.2,(b++[c.1]))
   else none
  else none
 else
  h a e b
def FJ(a:ByteArray)(b:Int)(c:Int)(e:Int)(f:Int)(g:Int)(h:List Ah)(i:Int×Ab)(l:Int)(j:Ab)(k:List AE):Option (Av×Ab) :=
 some (({ Ae:=(({ data:=#[112] }:ByteArray)++a),Bs:={ data:=#[115,114,99] },Bc:={ Op:=b,B:=c,Z:=e,D:=f,E:=g,G:=h },Be:={ Bm:=1,Of:=1,Bn:=i.1 },A8:=k }:Av),j)
def Je(d:Nat)(g:Aa)(h:Int->Ab->(List AE)->Option (Av×Ab))(i:(Int×Ab×(List AE))->Option (Av×Ab))(a:Int)(e:Ab)(b:List AE):Option (Av×Ab) :=
 bif decide (a>0)then
  (Dl a).bind λf =>
  bif decide (({ data:=#[113] }:ByteArray).size+f.size<=9223372036854775807)then
   (DR d e g (({ data:=#[113] }:ByteArray)++f)).bind λc =>
   bif rm b.length [c.1].length then
    i ((i64.wrap (a-1)),c.2,(b++[c.1]))
   else none
  else none
 else
  h a e b
def Cq(d:Nat)(e:Aa)(f:ByteArray)(g:Int×Ab)(o:Ab)(h:Int)(i:Int)(j:Int)(k:Int)(l:Int)(m:List Ah):Option (Av×Ab) :=
 (B9 o 3).bind λb =>
 bif b.1 then
  (AK b.2 2 5).bind λc =>
  (AK c.2 1 c.1).bind λn =>
  (AK n.2 1 3).bind λa =>
  iter (λp s=>Eh d e (FI f h i j k l m n c g) p s.1 s.2.1 s.2.2) AC (a.1,a.2,[])
 else
  (AK b.2 1 3).bind λa =>
  iter (λq s=>Je d e (FJ f h i j k l m g) q s.1 s.2.1 s.2.2) AC (a.1,a.2,[])
def DF(d:Nat)(h:Ab)(b:Aa):Option (Av×Ab) :=
 (A6 h 3).bind λg =>
 (Dl g.1).bind λc =>
 bif decide (({ data:=#[112] }:ByteArray).size+c.size<=9223372036854775807)then
  (AN d g.2 b 1).bind λa =>
  (A6 a.2 999).bind λe =>
  (B9 e.2 3).bind λf =>
  bif f.1 then
   Cq d b c e f.2 1 0 0 0 0 []
  else
   Cq d b c e f.2 a.1.Op a.1.B a.1.Z a.1.D a.1.E a.1.G
 else none
abbrev dy(b:Int)(a:List Ac):Option (Av×(List Ac)) :=
 some (({ Ae:={ data:=#[97,108,108,95,114,111,119,115] },Bs:={ data:=#[115,114,99] },Bc:={ Op:=1 },Be:={ Bm:=1,Of:=1 },A8:=[({ J:={ data:=#[113] },Kind:=1,A3:={ Op:=1 },Y:=[({ B:=1 }:Ac)],Ag:=(-1) }:AE)] }:Av),a)
abbrev O6(c:Aa)(f:Int->(List Ac)->Option (Av×(List Ac)))(g:(Int×(List Ac))->Option (Av×(List Ac)))(a:Int)(b:List Ac):Option (Av×(List Ac)) :=
 bif decide (a<(c.A.length:Int))then
  (Dj c a).bind λe =>
  bif rm b.length [({ B:=a,T:=e }:Ac)].length then
   g ((i64.wrap (a+1)),(b++[({ B:=a,T:=e }:Ac)]))
  else none
 else
  f a b
def Rk(a:Aa):Option (Av×(List Ac)) :=
 iter (λb s=>O6 a dy b s.1 s.2) AC (1,[])
def EB(e:Ab):Option (Int×Ab) :=
 (A6 e 60000).bind λa =>
 (A6 a.2 60000).bind λb =>
 (A6 b.2 7).bind λc =>
 some ((i64.wrap ((i64.wrap (a.1*b.1))+c.1)),c.2)
def Fy(d:Nat)(g:Ab)(h:Int):Option (BQ×Av×Ao×Ab) :=
 (Gi g h).bind λa =>
 (DF d a.2 a.1.At).bind λb =>
 (On d a.1.At b.1).bind λi =>
 (B9 b.2 3).bind λe =>
 bif e.1 then
  (Rk a.1.At).bind λj =>
  (EB e.2).bind λc =>
  (JW d a.1 b.1 j.2 c.1).bind λf =>
  some (a.1,b.1,f.1,c.2)
 else
  (EB e.2).bind λc =>
  (JW d a.1 b.1 i.1 c.1).bind λf =>
  some (a.1,b.1,f.1,c.2)
def Dr(e:List ByteArray)(d:Nat)(b:Aa)(l:Ab):Option (Ar×Ab) :=
 (A6 l 6).bind λa =>
 bif a.1==1 then
  (AK a.2 (-9) 30).bind λf =>
  some (({ Op:=1,L:=f.1 }:Ar),f.2)
 else
  bif a.1==2 then
   bif decide ((e.length:Int)>0)then
    (A6 a.2 (e.length:Int)).bind λg =>
    (idx e g.1).bind λm =>
    some (({ Op:=2,J:=m }:Ar),g.2)
   else
    (AN d a.2 b 2).bind λc =>
    some (({ Op:=3,X:=c.1 }:Ar),c.2)
  else
   bif a.1==3 then
    (Bs a.2 b).bind λh =>
    (AN d h.2 b 1).bind λi =>
    some (({ Op:=4,B:=h.1,X:=i.1 }:Ar),i.2)
   else
    bif a.1==4 then
     (Bs a.2 b).bind λj =>
     (AN d j.2 b 0).bind λk =>
     some (({ Op:=5,B:=j.1,X:=k.1 }:Ar),k.2)
    else
     (AN d a.2 b 2).bind λc =>
     some (({ Op:=3,X:=c.1 }:Ar),c.2)
def EM(d:Nat)(f:Ab->Aa->(List ByteArray)->Int->Option (Ar×Ab))(g:Ab)(a:Aa)(b:List ByteArray)(c:Int):Option (Ar×Ab) :=
 bif decide (c>0)then
  (B9 g 2).bind λe =>
  bif e.1 then
   (AK e.2 6 9).bind λh =>
   (f h.2 a b (i64.wrap (c-1))).bind λi =>
   (f i.2 a b (i64.wrap (c-1))).bind λj =>
   some (({ Op:=h.1,G:=[i.1,j.1] }:Ar),j.2)
  else
   Dr b d a e.2
 else
  Dr b d a g
def C5:Nat->Ab->Aa->(List ByteArray)->Int->Option (Ar×Ab)
 | 0,_,_,_,_=>none
 | d+1,a,b,c,e=>EM d (C5 d) a b c e
def H4(d:Nat)(r:Ab)(a:Aa)(j:List ByteArray):Option (Ar×Ab) :=
 (Bs r a).bind λc =>
 (A6 c.2 8).bind λb =>
 bif b.1==1 then
  (Ch b.2 a).bind λf =>
  (AN d f.2 a 1).bind λg =>
  (B9 g.2 2).bind λh =>
  bif h.1 then
   some (({ Op:=10,B:=c.1,Y:=f.1,X:=g.1 }:Ar),h.2)
  else
   some (({ Op:=10,B:=(-1),Y:=f.1,X:=g.1 }:Ar),h.2)
 else
  bif b.1==2 then
   (Ch b.2 a).bind λf =>
   (AN d f.2 a 1).bind λg =>
   (B9 g.2 2).bind λh =>
   bif h.1 then
    some (({ Op:=10,B:=c.1,Y:=f.1,X:=g.1 }:Ar),h.2)
   else
    some (({ Op:=10,B:=(-1),Y:=f.1,X:=g.1 }:Ar),h.2)
  else
   bif b.1==3 then
    (Fo b.2 a c.1).bind λi =>
    bif decide ((i.1.length:Int)>0)then
     (AN d i.2 a 1).bind λk =>
     some (({ Op:=11,B:=c.1,A:=i.1,X:=k.1 }:Ar),k.2)
    else
     (C5 d i.2 a j 2).bind λe =>
     some (e.1,e.2)
   else
    bif b.1==4 then
     (idx a.A c.1).bind λt =>
     bif decide (t.D>=0)then
      (AN d b.2 a 0).bind λl =>
      (AN d l.2 a 0).bind λm =>
      some (({ Op:=12,B:=c.1,X:=m.1,V:=l.1 }:Ar),m.2)
     else
      (C5 d b.2 a j 2).bind λe =>
      some (e.1,e.2)
    else
     bif b.1==5 then
      (idx a.A c.1).bind λn =>
      (A6 b.2 (n.S.length:Int)).bind λo =>
      (idx n.S o.1).bind λu =>
      (AN d o.2 a 1).bind λp =>
      some (({ Op:=13,L:=u,B:=c.1,X:=p.1 }:Ar),p.2)
     else
      bif b.1==6 then
       (AN d b.2 a 0).bind λq =>
       some (({ Op:=14,B:=c.1,X:=q.1 }:Ar),q.2)
      else
       (C5 d b.2 a j 2).bind λe =>
       some (e.1,e.2)
def JN(d:Nat) :Option Bool :=
 (OW d ({ A:=[({ J:={ data:=#[119,104,111] },Kind:=1 }:Au)] }:Aa) ({ Ae:={ data:=#[112] },C:=[[2],[5],[9]] }:Ao) ([({ J:={ data:=#[97] },Az:={ Op:=3,X:={ Op:=1 } } }:AB),({ J:={ data:=#[98] },Bl:=true,Az:={ Op:=8,G:=[({ Op:=2,J:={ data:=#[97] } }:Ar),({ Op:=1,L:=2 }:Ar)] } }:AB)])).bind λa =>
 bif bif bif a.2.2==0 then(a.2.1==2)else false then((a.1.length:Int)==2)else false then
  (idx a.1 0).bind λb =>
  bif(b.As.Number.L==3)&&((b.As.Number.N==1)&&true)then
   (idx a.1 1).bind λc =>
   bif(c.As.Number.L==6)&&((c.As.Number.N==1)&&true)then
    (idx a.1 1).bind λe =>
    (IB e.As.Lineage [2,5,9]).bind λf =>
    bif f then
     (Kl a.1).bind λg =>
     bif(g.length:Int)==1 then
      (Kl a.1).bind λh =>
      (idx h 0).bind λi =>
      some (i.J.toList==({ data:=#[98] }:ByteArray).toList)
     else
      some false
    else
     some false
   else
    some false
  else
   some false
 else
  some false
abbrev QC(c:Ao)(f:Int->(List Int)->Option (List Int))(g:(Int×(List Int))->Option (List Int))(a:Int)(b:List Int):Option (List Int) :=
 bif decide (a<(c.C.length:Int))then
  (idx c.C a).bind λh =>
  (idx h 0).bind λe =>
  bif rm b.length [e].length then
   g ((i64.wrap (a+1)),(b++[e]))
  else none
 else
  f a b
def Kq(a:Ao):Option (List Int) :=
 iter (λb s=>QC a (λe c=>some c) b s.1 s.2) AC (0,[])
def FL(a:A9×Int)(b:BQ×Av×Ao×Ab)(d:Nat)(h:Int):Option Bool :=
 (Mu a.1.Lineage).bind λc =>
 bif c then
  (Kq b.2.2.1).bind λe =>
  (KL a.1.Lineage e).bind λf =>
  bif f then
   (JN d).bind λg =>
   some g
  else
   some false
 else
  some false
def Jg(b:A9×Int)(c:List Int)(e:BQ×Av×Ao×Ab)(d:Nat)(g:Ar×Ab)(h:Int->Option Bool)(i:Int->Option Bool)(a:Int):Option Bool :=
 bif decide (a<([b.1.Lineage,c].length:Int))then
  (idx [b.1.Lineage,c] a).bind λj =>
  (KH e.2.2.1 j).bind λk =>
  (CH d e.1.At k [] g.1).bind λf =>
  bif f.2 != 0 then
   some false
  else
   (Ib b.1 f.1).bind λl =>
   bif !l then
    some false
   else
    i (i64.wrap (a+1))
 else
  h a
def CP(a:A9×Int)(b:BQ×Av×Ao×Ab)(d:Nat)(c:Ar×Ab)(e:List Int):Option Bool :=
 iter (λf s=>Jg a e b d c (FL a b d) f s) AC 0
def Jf(c:BQ×Av×Ao×Ab)(g:Int)(h:Int->(List Int)->Option Bool)(e:(Int×(List Int))->Option Bool)(a:Int)(b:List Int):Option Bool :=
 bif decide (a<(c.2.2.1.C.length:Int))then
  (idx c.2.2.1.C a).bind λi =>
  bif decide (0<=(u64.wrap (Int.tmod a 32)))then
   bif(u32.wrap (((BitVec.ofInt u32.bits (Int.fdiv g (2 ^ (min ((u64.wrap (Int.tmod a 32)):Int).toNat u32.bits))) &&& BitVec.ofInt u32.bits 1).toNat:Nat):Int))==1 then
    (idx i 0).bind λf =>
    bif rm b.length [f].length then
     e ((i64.wrap (a+1)),(b++[f]))
    else none
   else
    e ((i64.wrap (a+1)),b)
  else none
 else
  h a b
def EY(d:Nat)(e:List Int)(f:Int):Option Bool :=
 (Rm e).bind λg =>
 (Fy d g 9).bind λa =>
 (H4 d a.2.2.2 a.1.At []).bind λc =>
 (CH d a.1.At a.2.2.1 [] c.1).bind λb =>
 bif b.2 != 0 then
  (JN d).bind λh =>
  some h
 else
  bif rm 0 b.1.Lineage.length then
   iter (λi s=>Jf a f (λk j=>CP b a d c j) i s.1 s.2) AC (0,b.1.Lineage)
  else none
theorem FK{p:Prop}(h:p:=by first|rfl|simp only[sX,tJ,tC]):p:=h
theorem c9{p:Prop}(h:p:=by first|rfl|(simp only[sX];done)|(simp only[sX];rfl)):p:=h
theorem s9{p:Prop}(h:p:=by repeat (first|exact trivial|refine And.intro (by first|with_reducible rfl|rfl|exact .inl rfl|exact .inr rfl|(simp only[sX];done)|(simp only[sX];rfl)|(simp only[tA,tg,t9];rfl)) ?_)):p:=h
theorem Jl{p:Prop}(h:p:=by first|rfl|(simp only[sX];done)|(simp only[sX];rfl)|(simp only[BC,AQ,AR,Bb,Am,tg,t9,sX];done)|(simp only[BC,AQ,AR,Bb,Am,tg,t9,sX];rfl)):p:=h
theorem mI{p:Prop}(h:p:=by repeat (first|exact trivial|refine And.intro (by first|with_reducible rfl|rfl|exact .inl rfl|exact .inr rfl|(simp only[sX];done)|(simp only[sX];rfl)|(simp only[BC,AQ,AR,Bb,Am,tg,t9,sX];done)|(simp only[BC,AQ,AR,Bb,Am,tg,t9,sX];rfl)|(simp only[tA,tg,t9];rfl)) ?_)):p:=h
theorem sP{p:Prop}(h:p:=by repeat (first|exact trivial|refine And.intro (by first|with_reducible rfl|rfl|exact .inl rfl|exact .inr rfl|(simp only[sX];done)|(simp only[sX];rfl)|(simp only[ZH];rfl)|(simp only[tA,tg,t9];rfl)) ?_)):p:=h
theorem Do{ρ:Type}{b a:Bool}{x y:Prop}{X Y:Option ρ}{R:ρ}(h:(bif a then X else Y)=some R)(c:X=some R->x)(d:Y=some R->y)(e:b=a:=by first|rfl|simp only[sX,tJ,tC]):Bool.rec y x b:=Td h e c d
theorem E9{α ρ:Type}{m:Option α}{G:α->Option ρ}{R:ρ}{P:Program}{f:FuncId}{b:List Nat}{args a:List AV}{K:AV->Prop}{d:List AV->AV->Prop}{r:α->AV}(h:m.bind G=some R)(c:∀x,m=some x->Ay P f args (r x))(k:∀x,G x=some R->K (r x)):Iv P f b args K a d:=by
 obtain⟨x,hx,h⟩:=Ws h;exact A3 (c x hx) (k x h)
theorem Vw{α ρ:Type}{m:Option α}{G:α->Option ρ}{R:ρ}{P:Program}{f:FuncId}{d:List Nat}{args a:List AV}{K:AV->Prop}{e:List AV->AV->Prop}{b:α->List AV}{r:α->AV}(h:m.bind G=some R)(c:∀x,m=some x->DU P f a (b x) (r x))(k:∀x,G x=some R->e (b x) (r x)):Iv P f d args K a e:=by
 obtain⟨x,hx,h⟩:=Ws h;exact Ew (c x hx) (k x h)
theorem QX{α ρ:Type}{xs:List α}{i j:Int}{f:α->D}{K:D->Prop}{G:α->Option ρ}{R:ρ}(h:(idx xs i).bind G=some R)(k:∀x,idx xs i=some x->G x=some R->K (f x))(e:j=i:=by first|rfl|simp only[sX,tJ,tC]):At (xs.map f) j K:=rq h e k
theorem cz{ι:Type}{Inv:ι->AS}{μ:ι->Nat}{S:AS}{m:Nat}(j:ι)(h:Le S (Inv j))(k:μ j<m:=by exact u3 _):∃j,Le S (Inv j)/\μ j<m:=⟨j,h,k⟩
theorem rj{P:Program}{f:FuncId}{fn:Func}{args:List AV}{r:AV}(b:P.funcs[f]?=some fn)(hr:qo P fn args r)(a:(fn.name == "runtime.NumGoroutine")=false:=by kernel_rfl):Ay P f args r:=D2 b a hr
theorem pK{ρ:Type}{b a:Bool}{x y:Prop}{E F R:ρ}(h:(bif a then some E else some F)=some R)(c:some E=some R->x:=by intro h;cases h;(conv=>whnf);exact⟨by first|rfl|(simp only[sX];done)|(simp only[sX];rfl)|(simp only[BC,AQ,AR,Bb,Am,tg,t9,sX];done)|(simp only[BC,AQ,AR,Bb,Am,tg,t9,sX];rfl)⟩)(d:some F=some R->y:=by intro h;cases h;(conv=>whnf);exact⟨by first|rfl|(simp only[sX];done)|(simp only[sX];rfl)|(simp only[BC,AQ,AR,Bb,Am,tg,t9,sX];done)|(simp only[BC,AQ,AR,Bb,Am,tg,t9,sX];rfl)⟩)(e:b=a:=by first|rfl|simp only[sX,tJ,tC]):Bool.rec y x b:=Td h e c d
theorem jz{ρ:Type}{b a:Bool}{x y:Prop}{E R:ρ}{Y:Option ρ}(h:(bif a then Y else some E)=some R)(c:Y=some R->x)(d:some E=some R->y:=by intro h;cases h;(conv=>whnf);exact⟨by first|rfl|(simp only[sX];done)|(simp only[sX];rfl)|(simp only[BC,AQ,AR,Bb,Am,tg,t9,sX];done)|(simp only[BC,AQ,AR,Bb,Am,tg,t9,sX];rfl)⟩)(e:b=a:=by first|rfl|simp only[sX,tJ,tC]):Bool.rec y x b:=Td h e c d
theorem rk{ρ:Type}{b a:Bool}{x y:Prop}{E R:ρ}{Y:Option ρ}(h:(bif a then Y else some E)=some R)(c:Y=some R->x)(d:some E=some R->y:=by intro h;cases h;(conv=>whnf);exact⟨by first|rfl|(simp only[sX];done)|(simp only[sX];rfl)⟩)(e:b=a:=by first|rfl|simp only[sX,tJ,tC]):Bool.rec y x b:=Td h e c d
theorem Iu{ρ:Type}{b a:Bool}{x y:Prop}{E R:ρ}{Y:Option ρ}(h:(bif a then some E else Y)=some R)(c:Y=some R->y)(d:some E=some R->x:=by intro h;cases h;(conv=>whnf);exact⟨by first|rfl|(simp only[sX];done)|(simp only[sX];rfl)|(simp only[BC,AQ,AR,Bb,Am,tg,t9,sX];done)|(simp only[BC,AQ,AR,Bb,Am,tg,t9,sX];rfl)⟩)(e:b=a:=by first|rfl|simp only[sX,tJ,tC]):Bool.rec y x b:=Td h e d c
theorem Oy{ρ:Type}{b a:Bool}{x y:Prop}{E R:ρ}{Y:Option ρ}(h:(bif a then some E else Y)=some R)(c:Y=some R->y)(d:some E=some R->x:=by intro h;cases h;(conv=>whnf);exact⟨by first|rfl|(simp only[sX];done)|(simp only[sX];rfl)⟩)(e:b=a:=by first|rfl|simp only[sX,tJ,tC]):Bool.rec y x b:=Td h e d c
theorem C3{S S':AS}(h:EC S' (λS'=>Le S S'):=by(conv=>whnf);repeat (first|exact trivial|refine And.intro (by first|with_reducible rfl|rfl|exact .inl rfl|exact .inr rfl|(simp only[sX];done)|(simp only[sX];rfl)|(simp only[tA,tg,t9];rfl)) ?_)):Le S S':=R1 h
theorem Bh{S S':AS}(h:EC S' (λS'=>Le S S'):=by(conv=>whnf);repeat (first|exact trivial|refine And.intro (by first|with_reducible rfl|rfl|exact .inl rfl|exact .inr rfl|(simp only[sX];done)|(simp only[sX];rfl)|(simp only[BC,AQ,AR,Bb,Am,tg,t9,sX];done)|(simp only[BC,AQ,AR,Bb,Am,tg,t9,sX];rfl)|(simp only[tA,tg,t9];rfl)) ?_)):Le S S':=R1 h
theorem Xx{S S':AS}(h:EC S' (λS'=>Le S S'):=by(conv=>whnf);repeat (first|exact trivial|refine And.intro (by first|with_reducible rfl|rfl|exact .inl rfl|exact .inr rfl|(simp only[sX];done)|(simp only[sX];rfl)|(simp only[ZH];rfl)|(simp only[tA,tg,t9];rfl)) ?_)):Le S S':=R1 h
theorem Vu{ρ:Type}{E R:ρ}{x:Prop}(h:some E=some R)(k:some E=some R->x:=by intro h;cases h;(conv=>whnf);exact⟨by first|rfl|(simp only[sX];done)|(simp only[sX];rfl)|(simp only[BC,AQ,AR,Bb,Am,tg,t9,sX];done)|(simp only[BC,AQ,AR,Bb,Am,tg,t9,sX];rfl)⟩):x:=k h
theorem ow{ρ:Type}{E R:ρ}{x:Prop}(h:some E=some R)(k:some E=some R->x:=by intro h;cases h;(conv=>whnf);exact⟨by first|rfl|(simp only[sX];done)|(simp only[sX];rfl)⟩):x:=k h
theorem z7{σ ρ:Type}{body:(σ->Option ρ)->σ->Option ρ}{n:Nat}{c:σ}{R:ρ}{S:AS}{W:(Exit->AS->Prop)->AS->Prop}{Q:Exit->AS->Prop}(h:iter body n c=some R)(I:σ->AS)(d:Le S (I c))(k:∀(Φ:Nat->σ->Option ρ)(n:Nat)(s:σ),body (Φ n) s=some R->EC (I s) (W (λe S=>match e with|.normal=>∃j:{p:Nat×σ // Φ p.1 p.2=some R},Le S (I j.1.2)/\j.1.1<n+1|e=>Q e S))):Ra S W Q:=by
 obtain⟨Φ,i,h⟩:=pW h
 exact loop {p:Nat×σ // Φ p.1 p.2=some R} (λp=>I p.1.2) (λp=>p.1.1) ⟨(n,c),h⟩ d λ⟨⟨a,b⟩,h⟩=>by
  obtain⟨a,rfl,h⟩:=i _ _ h;exact k Φ a b h
theorem z8{A B:Prop}(b:B)(a:A:=by(simp only[sX];exact C8 hr (tb (by kernel_rfl)) (.inr (by kernel_rfl)))):Kb A B:=⟨a,b⟩
theorem z9{A B:Prop}(b:B)(a:A:=by first|(intro x hx y hy;obtain⟨n,_,rfl⟩:=List.mem_map.1 hx;simp[D.cells]at hy;subst hy;rfl)|exact λx hx=>absurd hx (by simp)):Kb A B:=⟨a,b⟩
theorem z11{A B:Prop}(b:B)(a:A:=by first|exact WP hr (tb (by kernel_rfl))|(simp only[sX];exact WP hr (tb (by kernel_rfl)))):Kb A B:=⟨a,b⟩
theorem z12{A B:Prop}(b:B)(a:A:=by first|rfl|(simp only[sX];done)|(simp only[sX];rfl)):A/\B:=⟨a,b⟩
theorem z13{A B:Prop}(b:B)(a:A:=by exact⟨by decide +kernel,by kernel_rfl⟩):Kb A B:=⟨a,b⟩
theorem z14{A B:Prop}(b:B)(a:A:=by exact⟨rfl,rfl,Jl⟩):A/\B:=⟨a,b⟩
theorem z15{p:Prop}(h:p:=by obtain rfl:=sY h;refine z14 ?_;(conv=>whnf);exact⟨Jl⟩):p:=h
theorem z16{p:Prop}(h:p:=by refine(by(repeat intro _);rename_i h;cases h)):p:=h
theorem z17{p:Prop}(h:p:=by refine Bi h λx47 hx47 h=>?_;refine Wv (types_own_c1_w.h _ _ _ _ hx47) ?_;(conv=>whnf);exact⟨⟨_,h⟩,Bh⟩):p:=h
theorem z18{p:Prop}(h:p:=by refine⟨⟨(_,_,_,_,_,_,_,_,_,_,_,_,_,_,_,_,_,_,_,_,_,_,_),h⟩,?_⟩;refine R1 ?_;(conv=>whnf);exact mI):p:=h
theorem z19{p:Prop}(h:p:=by(conv=>whnf);refine Bi h λx59 hx59 h=>?_;refine A3 (slices_ContainsFunc_Lapi_Expr_api_Expr_w.h _ _ _ _ _ (λa0 _ h=>ih1 a0 _ _ h) hx59) ?_;exact As):p:=h
theorem z20{p:Prop}(h:p:=by obtain rfl:=sY h;refine⟨Jl,?_⟩;(conv=>whnf);exact⟨Jl⟩):p:=h
theorem z21{p:Prop}(h:p:=by(conv=>whnf);exact⟨⟨(_,_,_,_,_,_,_,_,_,_,_,_,_,_,_,_,_,_,_,_,_,_,_),h⟩,Bh⟩):p:=h
theorem z22{p:Prop}(h:p:=by(conv=>whnf);exact z15):p:=h
theorem z23{p:Prop}(h:p:=by obtain rfl:=sY h;refine⟨.inl ?_⟩;(conv=>whnf);exact⟨Jl⟩):p:=h
theorem z24{p:Prop}(h:p:=by(conv=>whnf);exact⟨⟨_,h⟩,Bh⟩):p:=h
theorem z25{p:Prop}(h:p:=by(conv=>whnf);refine Bi h λx63 hx63 h=>?_;refine A3 (FQ _ _ _ hx63) ?_;exact z22):p:=h
theorem z26{p:Prop}(h:p:=by obtain rfl:=sY h;refine⟨.inl ?_⟩;(conv=>whnf);exact⟨c9⟩):p:=h
theorem z27{p:Prop}(h:p:=by(conv=>whnf);exact⟨⟨(_,_,_,_,_),h⟩,Bh⟩):p:=h
theorem z28{p:Prop}(h:p:=by obtain rfl:=sY h;refine⟨⟨rfl,rfl,by first|rfl|(simp only[sX];done)|(simp only[sX];rfl)⟩,?_⟩;(conv=>whnf);exact⟨c9⟩):p:=h
theorem z29{p:Prop}(h:p:=by refine Zc (f:=BX) hx67 FK ?_;(conv=>whnf);(try rw[Vl]);exact cz ⟨(_,(_,_)),h⟩ C3):p:=h
theorem z30{p:Prop}(h:p:=by refine Ph (f:=BX) h FK λx63 hx63 h=>?_;refine Zc (f:=BX) hx63 FK ?_;refine Ph (f:=BX) h FK λx67 hx67 h=>?_;exact z29):p:=h
theorem z31{p:Prop}(h:p:=by(conv=>whnf);refine Bi h λx53 hx53 h=>?_;(first|refine Ew (Gk _ _ _ _ hx53) ?_|(simp only[sX];refine Ew (Gk _ _ _ _ hx53) ?_));exact z22):p:=h
theorem z32{p:Prop}(h:p:=by(conv=>whnf);refine⟨.inl ?_⟩;(conv=>whnf);exact⟨rfl⟩):p:=h
theorem z33{p:Prop}(h:p:=by refine Bi h λx18 hx18 h=>?_;refine A3 (slices_ContainsFunc_Lapi_Expr_api_Expr_w.h _ _ _ _ _ (λa0 _ h=>ih1 a0 _ _ _ _ h_p1 h) hx18) ?_;exact As):p:=h
theorem z34{p:Prop}(h:p:=by(conv=>whnf);exact cz ⟨(_,(_,_)),h⟩ C3):p:=h
