/- P3U -/
import Derived.Test.YtkjijhldfdplgaaGreatDoorM4
set_option linter.all false
namespace Go.Proofs.YtkjijhldfdplgaaGreatDoor.P
open Go.Abs Go.Proofs
class CS(P:Program)(f:FuncId)(S:outParam Prop):Prop where
 h:S
theorem Wu{P:Program}{f:FuncId}{S:Prop}{args:List AV}{r:AV}[i:CS P f S](k:S->Ay P f args r):Ay P f args r:=k i.h
theorem pU{P:Program}{f:FuncId}{S:Prop}{args a:List AV}{r:AV}[i:CS P f S](k:S->DU P f args a r):DU P f args a r:=k i.h
theorem sV{ρ:Type}{E R:ρ}(h:some E=some R):True:=trivial
theorem sU{ρ:Type}{b:Bool}{x:Option ρ}{R:ρ}(h:(bif b then x else none)=some R):True:=trivial
theorem uE{ρ:Type}{b a:Bool}{x y:Prop}{X Y:Option ρ}{R:ρ}(h:(bif a then X else Y)=some R)(c:a=true->X=some R->x)(d:a=false->Y=some R->y)(e:b=a:=by first|rfl|simp only[sX,tJ,tC]):Bool.rec y x b:=lI h e c d
theorem uT{b a:Bool}{x y:Prop}(h:a=true)(k:x)(e:b=a:=by first|rfl|simp only[sX,tJ,tC]):Bool.rec y x b:=oy e h k
theorem uN{b a:Bool}{x y:Prop}(h:a=false)(k:y)(e:b=a:=by first|rfl|simp only[sX,tJ,tC]):Bool.rec y x b:=r7 e h k
theorem uA{α ρ:Type}{m:Option α}{G:α->Option ρ}{R:ρ}{P:Program}{f:FuncId}{b:List Nat}{args a:List AV}{K:AV->Prop}{d:List AV->AV->Prop}{r:α->AV}(h:m.bind G=some R)(c:∀x,m=some x->Ay P f args (r x))(k:∀x,G x=some R->K (r x)):Iv P f b args K a d:=by
 obtain⟨x,hx,h⟩:=Ws h;exact A3 (c x hx) (k x h)
theorem uM{α ρ:Type}{m:Option α}{G:α->Option ρ}{R:ρ}{P:Program}{f:FuncId}{d:List Nat}{args a:List AV}{K:AV->Prop}{e:List AV->AV->Prop}{b:α->List AV}{r:α->AV}(h:m.bind G=some R)(c:∀x,m=some x->DU P f a (b x) (r x))(k:∀x,G x=some R->e (b x) (r x)):Iv P f d args K a e:=by
 obtain⟨x,hx,h⟩:=Ws h;exact Ew (c x hx) (k x h)
theorem uX{α ρ:Type}{xs:List α}{i j:Int}{f:α->D}{K:D->Prop}{G:α->Option ρ}{R:ρ}(h:(idx xs i).bind G=some R)(k:∀x,idx xs i=some x->G x=some R->K (f x))(e:j=i:=by first|rfl|simp only[sX,tJ,tC]):At (xs.map f) j K:=rq h e k
theorem uW{α ρ:Type}{m:Option α}{G:α->Option ρ}{R:ρ}{P:Program}{f:FuncId}{args:List AV}{k sz:Nat}{e:TypeId}{xs:List D}{K:List D->Prop}{ys:α->List D}(h:m.bind G=some R)(c:∀x,m=some x->Wj P f args k sz e xs (ys x))(a:∀x,G x=some R->K (ys x)):cG P f args k sz e xs K:=by
 obtain⟨x,hx,h⟩:=Ws h;exact Wv (c x hx) (a x h)
def Lb(x:Ab):BA:=.var [.l 1 (D.int .u8) x.Ak,.i x.Aj]
def La(x:Aq):BA:=.var [.t x.J,.l 2 E2 x.U]
def Q3(x:Au):BA:=.var [.t x.J,.i x.Kind,.i x.Am,.i x.D,.i x.E,.l 1 D.z x.S,.b x.A2]
def Cg(x:Aa):BA:=.var [.l 2 Ae x.K,.l 7 Ak x.A]
def Q4(x:BQ):BA:=.var [.l 2 Ae x.At.K,.l 7 Ak x.At.A,.l 1 (Am 1 D.z) x.C,.l 1 D.z x.Bp,.i x.Af]
def PX(x:Ah):BA:=.var [.i x.Op,.i x.B,.i x.Z,.i x.D,.i x.E,.l 6 Az x.G]
def Sr(x:AE):BA:=.var [.t x.J,.i x.Kind,.i x.A3.Op,.i x.A3.B,.i x.A3.Z,.i x.A3.D,.i x.A3.E,.l 6 Az x.A3.G,.l 2 Ad x.Y,.i x.Ag,.l 1 D.z x.An,.i x.V.Op,.i x.V.B,.i x.V.Z,.i x.V.D,.i x.V.E,.l 6 Az x.V.G]
def OP(x:Av):BA:=.var [.t x.Ae,.t x.Bs,.i x.Bc.Op,.i x.Bc.B,.i x.Bc.Z,.i x.Bc.D,.i x.Bc.E,.l 6 Az x.Bc.G,.i x.Be.Bm,.i x.Be.Of,.i x.Be.Bn,.l 17 Dh x.A8]
def LW(x:Ao):BA:=.var [.t x.Ae,.i x.Af,.l 2 Ad x.H,.l 1 (Am 1 D.z) x.C]
def Wd(x:Ar):BA:=.var [.i x.Op,.i x.L,.t x.J,.i x.B,.l 1 D.z x.A,.l 2 Ad x.Y,.i x.X.Op,.i x.X.B,.i x.X.Z,.i x.X.D,.i x.X.E,.l 6 Az x.X.G,.i x.V.Op,.i x.V.B,.i x.V.Z,.i x.V.D,.i x.V.E,.l 6 Az x.V.G,.l 19 BY x.G]
def Wc(x:Bg):BA:=.var [.b x.Bv,.b x.Bt,.b x.Bq,.b x.Bw,.b x.Bx,.b x.Bo,.b x.Br]
def Ut(x:A0):BA:=.var [.l 2 Ae x.I.Ai.K,.l 7 Ak x.I.Ai.A,.t x.I.Q.Ae,.i x.I.Q.Af,.l 2 Ad x.I.Q.H,.l 1 (Am 1 D.z) x.I.Q.C,.l 26 A8 x.Aw]
def OQ(x:AY):BA:=.var [.d (.int .u64 x.E),.d (.int .u64 x.D)]
theorem uD{P:Program}{f:FuncId}{fn:Func}{args:List AV}{r:AV}(b:P.funcs[f]?=some fn)(hr:qo P fn args r)(a:(fn.name == "runtime.NumGoroutine")=false:=by kernel_rfl):Ay P f args r:=D2 b a hr
theorem Xr{P:Program}(J:List Nat){f:FuncId}{fn:Func}{args:List AV}{r:AV}(b:P.funcs[f]?=some fn)(hr:cE P J fn args r)(a:(fn.name == "runtime.NumGoroutine")=false:=by kernel_rfl):Ay P f args r:=OT J b a hr
def bj(args outs:List AV):Prop:=∀(i:Nat) x y,args[i]?=some x->outs[i]?=some y->match y with
 | .own sz e _=>∃xs,x=.own sz e xs
 | .optr cs=>∃cs',x=.optr cs'/\cs.length=cs'.length
 | .cc _ l=>∃(ds:List D)(sz:Nat)(e:TypeId)(xs ys:List D),x=.cc none (ds.map .d++[.own sz e xs])/\l=ds.map .d++[.own sz e ys]
 | _=>True
theorem iG:bj [] []:=λi x y h=>by cases h
theorem iF{x:AV}{a o:List AV}(h:bj a o):bj (x :: a) (.any :: o):=λi u v c b=>by
 cases i with
 | zero=>cases b;trivial
 | succ i=>exact h i u v c b
theorem iH{sz:Nat}{e:TypeId}{xs ys:List D}{a o:List AV}(h:bj a o):bj (.own sz e xs :: a) (.own sz e ys :: o):=λi u v b c=>by
 cases i with
 | zero=>cases b;cases c;exact⟨_,rfl⟩
 | succ i=>exact h i u v b c
theorem iI{cs b:List D}{a o:List AV}(h:bj a o)(e:cs.length=b.length:=by rfl):bj (.optr b :: a) (.optr cs :: o):=λi u v c d=>by
 cases i with
 | zero=>cases c;cases d;exact⟨_,rfl,e⟩
 | succ i=>exact h i u v c d
theorem uF{P:Program}{f:FuncId}{fn:Func}{args a:List AV}{r:AV}(e:P.funcs[f]?=some fn)(hr:pR P fn args a r)(c:bj args a:=by repeat (first|exact iG|refine iF ?_|refine iH ?_|refine iI ?_))(d:a.length=args.length:=by rfl)(b:(fn.name == "runtime.NumGoroutine")=false:=by kernel_rfl):DU P f args a r:=eC e b d c hr
theorem sJ{P:Program}(J:List Nat){f:FuncId}{fn:Func}{args a:List AV}{r:AV}(e:P.funcs[f]?=some fn)(hr:X3 P J fn args a r)(c:bj args a:=by repeat (first|exact iG|refine iF ?_|refine iH ?_|refine iI ?_))(d:a.length=args.length:=by rfl)(b:(fn.name == "runtime.NumGoroutine")=false:=by kernel_rfl):DU P f args a r:=Yw J e b d c hr
theorem U1{P:Program}{f:FuncId}{S:Prop}{args:List AV}{k sz:Nat}{e:TypeId}{xs ys:List D}[i:CS P f S](q:S->Wj P f args k sz e xs ys):Wj P f args k sz e xs ys:=q i.h
theorem uR{α ρ:Type}{xs:List α}{f:α->D}{i j:Int}{k:Prop}{G:α->Option ρ}{R:ρ}(h:(idx xs i).bind G=some R)(hk:∀x,idx xs i=some x->G x=some R->k)(e:j=i:=by first|rfl|simp only[sX,tJ,tC]):Kb (0<=j/\j.toNat<(xs.map f).length) k:=Ph h e hk
theorem uG{α:Type}{xs:List α}{i j:Int}{x:α}{f:α->D}{K:D->Prop}(h:idx xs i=some x)(k:K (f x))(e:j=((i.toNat:Nat):Int):=by first|rfl|simp only[sX,tJ,tC]):At (xs.map f) j K:=Zc h e k
theorem uL{S S':AS}(h:EC S' (λS'=>Le S S'):=by(conv=>whnf);repeat (first|exact trivial|refine And.intro (by first|with_reducible rfl|rfl|exact .inl rfl|exact .inr rfl|(simp only[sX];done)|(simp only[sX];rfl)|(simp only[BC,AQ,AR,Bb,Am,tg,t9,sX];done)|(simp only[BC,AQ,AR,Bb,Am,tg,t9,sX];rfl)|(simp only[tA,tg,t9];rfl)) ?_)):Le S S':=R1 h
theorem uC{ι:Type}{Inv:ι->AS}{μ:ι->Nat}{S:AS}{m:Nat}(j:ι)(h:Le S (Inv j))(k:μ j<m:=by exact u3 _):∃j,Le S (Inv j)/\μ j<m:=⟨j,h,k⟩
class En(α:Type)(e:outParam (α->D))(k:outParam Nat):Prop where
 t:True
instance:En Int D.z 1:=⟨trivial⟩
instance:En Bool D.bool 1:=⟨trivial⟩
instance:En ByteArray D.str 1:=⟨trivial⟩
instance {α:Type}{e:α->D}{k:Nat}[En α e k]:En (List α) (Am k e) 1:=⟨trivial⟩
instance:En Ei BX 2:=⟨trivial⟩
instance:En AH A8 26:=⟨trivial⟩
instance:En Pp Sy 1:=⟨trivial⟩
instance:En Ev E2 2:=⟨trivial⟩
instance:En Aq Ae 2:=⟨trivial⟩
instance:En Au Ak 7:=⟨trivial⟩
instance:En Bd Bm 6:=⟨trivial⟩
instance:En Av EG 1:=⟨trivial⟩
instance:En Ao DY 1:=⟨trivial⟩
instance:En AO Bz 2:=⟨trivial⟩
instance:En Ct Nm 1:=⟨trivial⟩
instance:En Ac Ad 2:=⟨trivial⟩
instance:En AE Dh 17:=⟨trivial⟩
instance:En Io Lr 1:=⟨trivial⟩
instance:En Aa CG 1:=⟨trivial⟩
instance:En BQ JG 1:=⟨trivial⟩
instance:En AB BR 21:=⟨trivial⟩
instance:En El Ig 1:=⟨trivial⟩
instance:En Ap A5 7:=⟨trivial⟩
instance:En A9 Dt 1:=⟨trivial⟩
instance:En Ab IN 1:=⟨trivial⟩
instance:En AY BM 1:=⟨trivial⟩
instance:En Ex Fp 1:=⟨trivial⟩
instance:En A0 Fq 1:=⟨trivial⟩
instance:En Bg GK 1:=⟨trivial⟩
instance:En Ah BC 6:=⟨trivial⟩
instance:En (List Ah) (Am 6 Az) 1:=⟨trivial⟩
instance:En Ar AR 19:=⟨trivial⟩
instance:En (List Ar) (Am 19 BY) 1:=⟨trivial⟩
class Er(α:Type)(r:outParam (α->AV)):Prop where
 t:True
instance {a:Type}{e:a->D}{k:Nat}[En a e k]:Er a (λR=>.d (e R)):=⟨trivial⟩
instance {a b:Type}{c:a->D}{e:Nat}{d:b->D}{f:Nat}[En a c e][En b d f]:Er (a×b) (λR=>.tup [.d (c R.1),.d (d R.2)]):=⟨trivial⟩
instance {a b c:Type}{d:a->D}{g:Nat}{e:b->D}{h:Nat}{f:c->D}{kc:Nat}[En a d g][En b e h][En c f kc]:Er (a×b×c) (λR=>.tup [.d (d R.1),.d (e R.2.1),.d (f R.2.2)]):=⟨trivial⟩
instance {a b c d:Type}{e:a->D}{i:Nat}{f:b->D}{j:Nat}{g:c->D}{kc:Nat}{h:d->D}{kd:Nat}[En a e i][En b f j][En c g kc][En d h kd]:Er (a×b×c×d) (λR=>.tup [.d (e R.1),.d (f R.2.1),.d (g R.2.2.1),.d (h R.2.2.2)]):=⟨trivial⟩
instance {a b c d e:Type}{f:a->D}{k:Nat}{g:b->D}{l:Nat}{h:c->D}{kc:Nat}{i:d->D}{kd:Nat}{j:e->D}{m:Nat}[En a f k][En b g l][En c h kc][En d i kd][En e j m]:Er (a×b×c×d×e) (λR=>.tup [.d (f R.1),.d (g R.2.1),.d (h R.2.2.1),.d (i R.2.2.2.1),.d (j R.2.2.2.2)]):=⟨trivial⟩
def W0{ρ:Type}{r:ρ->AV}[Er ρ r](P:Program)(f:FuncId)(F:Option ρ):Prop:=∀(R:ρ)(h:F=some R),Ay P f [] (r R)
def W1{a0 ρ:Type}{e0:a0->D}{k0:Nat}{r:ρ->AV}[En a0 e0 k0][Er ρ r](P:Program)(f:FuncId)(F:a0->Option ρ):Prop:=∀(p0:a0)(R:ρ)(h:F p0=some R),Ay P f [.d (e0 p0)] (r R)
def W2{a0 a1 ρ:Type}{e0:a0->D}{k0:Nat}{e1:a1->D}{k1:Nat}{r:ρ->AV}[En a0 e0 k0][En a1 e1 k1][Er ρ r](P:Program)(f:FuncId)(F:a0->a1->Option ρ):Prop:=∀(p0:a0)(p1:a1)(R:ρ)(h:F p0 p1=some R),Ay P f [.d (e0 p0),.d (e1 p1)] (r R)
def W3{a0 a1 a2 ρ:Type}{e0:a0->D}{k0:Nat}{e1:a1->D}{k1:Nat}{e2:a2->D}{k2:Nat}{r:ρ->AV}[En a0 e0 k0][En a1 e1 k1][En a2 e2 k2][Er ρ r](P:Program)(f:FuncId)(F:a0->a1->a2->Option ρ):Prop:=∀(p0:a0)(p1:a1)(p2:a2)(R:ρ)(h:F p0 p1 p2=some R),Ay P f [.d (e0 p0),.d (e1 p1),.d (e2 p2)] (r R)
def W4{a0 a1 a2 a3 ρ:Type}{e0:a0->D}{k0:Nat}{e1:a1->D}{k1:Nat}{e2:a2->D}{k2:Nat}{e3:a3->D}{k3:Nat}{r:ρ->AV}[En a0 e0 k0][En a1 e1 k1][En a2 e2 k2][En a3 e3 k3][Er ρ r](P:Program)(f:FuncId)(F:a0->a1->a2->a3->Option ρ):Prop:=∀(p0:a0)(p1:a1)(p2:a2)(p3:a3)(R:ρ)(h:F p0 p1 p2 p3=some R),Ay P f [.d (e0 p0),.d (e1 p1),.d (e2 p2),.d (e3 p3)] (r R)
def W5{a0 a1 a2 a3 a4 ρ:Type}{e0:a0->D}{k0:Nat}{e1:a1->D}{k1:Nat}{e2:a2->D}{k2:Nat}{e3:a3->D}{k3:Nat}{e4:a4->D}{k4:Nat}{r:ρ->AV}[En a0 e0 k0][En a1 e1 k1][En a2 e2 k2][En a3 e3 k3][En a4 e4 k4][Er ρ r](P:Program)(f:FuncId)(F:a0->a1->a2->a3->a4->Option ρ):Prop:=∀(p0:a0)(p1:a1)(p2:a2)(p3:a3)(p4:a4)(R:ρ)(h:F p0 p1 p2 p3 p4=some R),Ay P f [.d (e0 p0),.d (e1 p1),.d (e2 p2),.d (e3 p3),.d (e4 p4)] (r R)
def W6{a0 a1 a2 a3 a4 a5 ρ:Type}{e0:a0->D}{k0:Nat}{e1:a1->D}{k1:Nat}{e2:a2->D}{k2:Nat}{e3:a3->D}{k3:Nat}{e4:a4->D}{k4:Nat}{e5:a5->D}{k5:Nat}{r:ρ->AV}[En a0 e0 k0][En a1 e1 k1][En a2 e2 k2][En a3 e3 k3][En a4 e4 k4][En a5 e5 k5][Er ρ r](P:Program)(f:FuncId)(F:a0->a1->a2->a3->a4->a5->Option ρ):Prop:=∀(p0:a0)(p1:a1)(p2:a2)(p3:a3)(p4:a4)(p5:a5)(R:ρ)(h:F p0 p1 p2 p3 p4 p5=some R),Ay P f [.d (e0 p0),.d (e1 p1),.d (e2 p2),.d (e3 p3),.d (e4 p4),.d (e5 p5)] (r R)
@[reducible] def oc(c:Ab):AV:=.optr [(Am 1 (D.int .u8) c.Ak),(.j c.Aj)]
def V0{ρ:Type}{r:ρ->D}{k:Nat}[En ρ r k](P:Program)(f:FuncId)(F:Ab->Option (ρ×Ab)):Prop:=∀(c:Ab)(R:ρ×Ab)(h:F c=some R),DU P f [oc c] [oc R.2] (.d (r R.1))
def V1{a0 ρ:Type}{e0:a0->D}{k0:Nat}{r:ρ->D}{k:Nat}[En a0 e0 k0][En ρ r k](P:Program)(f:FuncId)(F:Ab->a0->Option (ρ×Ab)):Prop:=∀(c:Ab)(p0:a0)(R:ρ×Ab)(h:F c p0=some R),DU P f [oc c,.d (e0 p0)] [oc R.2,.any] (.d (r R.1))
def V2{a0 a1 ρ:Type}{e0:a0->D}{k0:Nat}{e1:a1->D}{k1:Nat}{r:ρ->D}{k:Nat}[En a0 e0 k0][En a1 e1 k1][En ρ r k](P:Program)(f:FuncId)(F:Ab->a0->a1->Option (ρ×Ab)):Prop:=∀(c:Ab)(p0:a0)(p1:a1)(R:ρ×Ab)(h:F c p0 p1=some R),DU P f [oc c,.d (e0 p0),.d (e1 p1)] [oc R.2,.any,.any] (.d (r R.1))
class LS{σ ρ:Type}(body:(σ->Option ρ)->σ->Option ρ)(n:outParam Nat)(ks:outParam (List Nat))(vs:outParam (σ->List (Nat×AV)))(kb:outParam (List Nat))(vb:outParam (σ->Bx)):Prop where
 t:True
def oV:List Nat->Nat->Bool
 | [],_=>false
 | a :: r,k=>match Nat.beq a k with
  | true=>true
  | false=>oV r k
def keepS(S:AS)(n:Nat)(ks:List Nat)(vs:List (Nat×AV))(kb:List Nat)(vb:Bx):AS:=fl n n λk=>match oV kb k with
 | true=>match oV ks k with
  | true=>⟨(Ai S k).av,(Ai S k).box,(Ai S k).ver⟩
  | false=>⟨DZ vs k,(Ai S k).box,(Ai S k).ver⟩
 | false=>match oV ks k with
  | true=>C7 vb k (Ai S k).av
  | false=>C7 vb k (DZ vs k)
theorem rL{σ ρ:Type}{body:(σ->Option ρ)->σ->Option ρ}{m n:Nat}{c d:List Nat}{vs:σ->List (Nat×AV)}{vb:σ->Bx}{f:σ}{R:ρ}{S:AS}{W:(Exit->AS->Prop)->AS->Prop}{Q:Exit->AS->Prop}[LS body n c vs d vb](h:iter body m f=some R)
 (k:∀(Φ:Nat->σ->Option ρ)(t:Nat)(s:σ),body (Φ t) s=some R->EC (keepS S n c (vs s) d (vb s)) (W (λe S'=>match e with|.normal=>∃j:{p:Nat×σ // Φ p.1 p.2=some R},Le S' (keepS S n c (vs j.1.2) d (vb j.1.2))/\j.1.1<t+1|e=>Q e S')))
 (g:Le S (keepS S n c (vs f) d (vb f)):=by exact uL):Ra S W Q:=by
 obtain⟨Φ,i,h⟩:=pW h
 exact loop {p:Nat×σ // Φ p.1 p.2=some R} (λp=>keepS S n c (vs p.1.2) d (vb p.1.2)) (λp=>p.1.1) ⟨(m,f),h⟩ g λ⟨⟨a,b⟩,h⟩=>by
  obtain⟨a,rfl,h⟩:=i _ _ h;exact k Φ a b h
theorem As{p:Prop}(k:p:=by
 repeat' ((conv=>whnf);first
  | exact uC ⟨(_,_),h⟩ uL
  | exact⟨⟨_,h⟩,uL⟩
  | exact⟨⟨(),h⟩,uL⟩
  | exact⟨⟨(_,_),h⟩,uL⟩
  | exact⟨⟨(_,_,_),h⟩,uL⟩
  | exact⟨⟨(_,_,_,_),h⟩,uL⟩
  | ((with_reducible have q:=sV h);(try obtain rfl:=sY h);(conv=>whnf);first|exact⟨by first|rfl|(simp only[sX];done)|(simp only[sX];rfl)|(simp only[BC,AQ,AR,Bb,Am,tg,t9,sX];done)|(simp only[BC,AQ,AR,Bb,Am,tg,t9,sX];rfl)⟩|refine⟨by first|rfl|(simp only[sX];done)|(simp only[sX];rfl)|(simp only[BC,AQ,AR,Bb,Am,tg,t9,sX];done)|(simp only[BC,AQ,AR,Bb,Am,tg,t9,sX];rfl),?_⟩|refine⟨⟨rfl,rfl,by first|rfl|(simp only[sX];done)|(simp only[sX];rfl)|(simp only[BC,AQ,AR,Bb,Am,tg,t9,sX];done)|(simp only[BC,AQ,AR,Bb,Am,tg,t9,sX];rfl)⟩,?_⟩|refine⟨.inl ?_⟩)
  | ((with_reducible have q:=sU h);refine QW h λhr h=>?_;(conv=>whnf);first|(refine⟨by(simp only[sX];exact C8 hr (tb (by kernel_rfl)) (.inr (by kernel_rfl))),?_⟩;try first|rw[jl]|rw[rY]|rw[rZ]|rw[jm]|rw[ry]|rw[pa]|rw[sD]|rw[Wa]|rw[Zv]|rw[kQ]|rw[gT]|rw[YL]|rw[Ni]|rw[gU]|rw[Xo]|rw[Vo]|rw[gV]|rw[Zw]|rw[gW]|rw[ff]|rw[Q1]|rw[Ou]|rw[bX]|rw[bY]|rw[bZ]|rw[Xp]|rw[fg]|rw[Xq]|rw[fh]|rw[YM]|rw[Vp]|rw[Uq]|rw[Ur]|rw[Wb])|refine⟨tb hr,?_⟩|(refine⟨by first|exact tb hr|(simp only[sX];exact tb hr),?_⟩;(try simp only[sX]);try rw[rA])|(refine⟨by have b:=(Bool.and_eq_true_iff.1 hr).1;have c:=(Bool.and_eq_true_iff.1 hr).2;simp only[sX];exact⟨C8 b (tb (by kernel_rfl)) (.inr (by kernel_rfl)),λa=>by first|(simp at a;done)|(simp at a;simp[a]at c)⟩,?_⟩;try rw[ry])|(refine⟨by first|exact WP hr (tb (by kernel_rfl))|(simp only[sX];exact WP hr (tb (by kernel_rfl))),?_⟩;try rw[pk]))
  | refine uE h (λ_ h=>?_) λ_ h=>?_
  | refine uT (by assumption) ?_
  | refine uN (by assumption) ?_
  | refine uN (sj (by assumption)) ?_
  | refine rL h λ_ _ s h=>?_
  | (refine uX h λx _ h=>?_;(try first|rw[AQ x]|rw[Bb x]))
  | refine uR h λx hx h=>?_
  | (refine uG hx ?_;try first|(conv=>whnf;rw[rX])|rw[Vl]|rw[bT]|rw[nP]|rw[kK]|rw[Zs]|rw[eY]|rw[kL]|rw[YH]|rw[VX]|rw[kM]|rw[bU]|rw[kN]|rw[gP]|rw[kO]|rw[Zt]|rw[eZ]|rw[fa]|rw[fb]|rw[YI]|rw[gQ]|rw[YJ]|rw[gR]|rw[Zu]|rw[VY]|rw[Vm]|rw[Vn]|rw[Xn])
  | refine uA h (λx hx=>by first|exact ih _ hx|exact ih _ _ hx|exact ih _ _ _ hx|exact ih _ _ _ _ hx|exact ih1 _ hx|exact ih1 _ _ hx|exact ih1 _ _ _ hx|exact ih1 _ _ _ _ hx|exact ih2 _ hx|exact ih2 _ _ hx|exact ih2 _ _ _ hx|exact ih2 _ _ _ _ hx|exact ih3 _ hx|exact ih3 _ _ hx|exact ih3 _ _ _ hx|exact ih3 _ _ _ _ hx|exact Wu λq=>(by first|exact q hx|exact q _ hx|exact q _ _ hx|exact q _ _ _ hx|exact q _ _ _ _ hx|exact q _ _ _ _ _ hx|exact q _ _ _ _ _ _ hx|exact q _ _ _ _ _ _ _ hx|exact q _ _ _ _ _ _ _ _ hx|exact q _ _ _ _ _ _ _ _ _ hx|exact q _ _ _ _ _ _ _ _ _ _ hx|exact q _ _ _ _ _ _ _ _ _ _ _ hx|exact q _ _ _ _ _ _ _ _ _ _ _ _ hx|exact q _ _ _ _ _ (by intro _ _ h;exact Wu λq=>(by first|exact q h|exact q _ h|exact q _ _ h|exact q _ _ _ h|exact q _ _ _ _ h|exact q _ _ _ _ _ h|exact q _ _ _ _ _ _ h|exact q _ _ _ _ _ _ _ h)) hx|exact q _ _ _ _ _ _ (by intro _ _ h;exact Wu λq=>(by first|exact q h|exact q _ h|exact q _ _ h|exact q _ _ _ h|exact q _ _ _ _ h|exact q _ _ _ _ _ h|exact q _ _ _ _ _ _ h|exact q _ _ _ _ _ _ _ h)) hx|exact q _ _ _ _ _ _ _ (by intro _ _ h;exact Wu λq=>(by first|exact q h|exact q _ h|exact q _ _ h|exact q _ _ _ h|exact q _ _ _ _ h|exact q _ _ _ _ _ h|exact q _ _ _ _ _ _ h|exact q _ _ _ _ _ _ _ h)) hx)) λx h=>?_
  | refine uM h (λx hx=>by first|exact ih _ hx|exact ih _ _ hx|exact ih _ _ _ hx|exact ih _ _ _ _ hx|exact ih1 _ hx|exact ih1 _ _ hx|exact ih1 _ _ _ hx|exact ih1 _ _ _ _ hx|exact ih2 _ hx|exact ih2 _ _ hx|exact ih2 _ _ _ hx|exact ih2 _ _ _ _ hx|exact ih3 _ hx|exact ih3 _ _ hx|exact ih3 _ _ _ hx|exact ih3 _ _ _ _ hx|exact pU λq=>(by first|exact q hx|exact q _ hx|exact q _ _ hx|exact q _ _ _ hx|exact q _ _ _ _ hx|exact q _ _ _ _ _ hx|exact q _ _ _ _ _ _ hx|exact q _ _ _ _ _ _ _ hx|exact q _ _ _ _ _ _ _ _ hx|exact q _ _ _ _ _ _ _ _ _ hx|exact q _ _ _ _ _ _ _ _ _ _ hx|exact q _ _ _ _ _ _ _ _ _ _ _ hx|exact q _ _ _ _ _ _ _ _ _ _ _ _ hx)) λx h=>?_
  | refine uW h (λx hx=>U1 λq=>(by first|exact q hx|exact q _ hx|exact q _ _ hx|exact q _ _ _ hx|exact q _ _ _ _ hx|exact q _ _ _ _ _ hx|exact q _ _ _ _ _ _ hx|exact q _ _ _ _ _ _ _ hx|exact q _ _ _ _ _ _ _ _ hx|exact q _ _ _ _ _ _ _ _ _ hx|exact q _ _ _ _ _ _ _ _ _ _ hx|exact q _ _ _ _ _ _ _ _ _ _ _ hx|exact q _ _ _ _ _ _ _ _ _ _ _ _ hx)) λx h=>?_
  | (simp only[sX];refine uA h (λx hx=>Wu λq=>(by first|exact q hx|exact q _ hx|exact q _ _ hx|exact q _ _ _ hx|exact q _ _ _ _ hx|exact q _ _ _ _ _ hx|exact q _ _ _ _ _ _ hx|exact q _ _ _ _ _ _ _ hx|exact q _ _ _ _ _ _ _ _ hx|exact q _ _ _ _ _ _ _ _ _ hx|exact q _ _ _ _ _ _ _ _ _ _ hx|exact q _ _ _ _ _ _ _ _ _ _ _ hx|exact q _ _ _ _ _ _ _ _ _ _ _ _ hx|exact q _ _ _ _ _ (by intro _ _ h;exact Wu λq=>(by first|exact q h|exact q _ h|exact q _ _ h|exact q _ _ _ h|exact q _ _ _ _ h|exact q _ _ _ _ _ h|exact q _ _ _ _ _ _ h|exact q _ _ _ _ _ _ _ h)) hx|exact q _ _ _ _ _ _ (by intro _ _ h;exact Wu λq=>(by first|exact q h|exact q _ h|exact q _ _ h|exact q _ _ _ h|exact q _ _ _ _ h|exact q _ _ _ _ _ h|exact q _ _ _ _ _ _ h|exact q _ _ _ _ _ _ _ h)) hx|exact q _ _ _ _ _ _ _ (by intro _ _ h;exact Wu λq=>(by first|exact q h|exact q _ h|exact q _ _ h|exact q _ _ _ h|exact q _ _ _ _ h|exact q _ _ _ _ _ h|exact q _ _ _ _ _ _ h|exact q _ _ _ _ _ _ _ h)) hx)) λx h=>?_)
  | (simp only[sX];refine uM h (λx hx=>pU λq=>(by first|exact q hx|exact q _ hx|exact q _ _ hx|exact q _ _ _ hx|exact q _ _ _ _ hx|exact q _ _ _ _ _ hx|exact q _ _ _ _ _ _ hx|exact q _ _ _ _ _ _ _ hx|exact q _ _ _ _ _ _ _ _ hx|exact q _ _ _ _ _ _ _ _ _ hx|exact q _ _ _ _ _ _ _ _ _ _ hx|exact q _ _ _ _ _ _ _ _ _ _ _ hx|exact q _ _ _ _ _ _ _ _ _ _ _ _ hx)) λx h=>?_)
  | (rw[U3];(conv=>whnf);refine uA h (λx hx=>by first|exact h_p1 _ _ hx|exact h_p1 _ _ _ hx|exact h_p1 _ _ _ _ hx|exact h_p2 _ _ hx|exact h_p2 _ _ _ hx|exact h_p2 _ _ _ _ hx|exact h_p3 _ _ hx|exact h_p3 _ _ _ hx|exact h_p3 _ _ _ _ hx|exact h_p4 _ _ hx|exact h_p4 _ _ _ hx|exact h_p4 _ _ _ _ hx|exact h_p5 _ _ hx|exact h_p5 _ _ _ hx|exact h_p5 _ _ _ _ hx) λx h=>?_)
  | refine⟨⟨by decide +kernel,by kernel_rfl⟩,?_⟩
  | refine⟨⟨by kernel_rfl,by kernel_rfl⟩,?_⟩
  | refine⟨by kernel_rfl,?_⟩
  | refine⟨by omega,?_⟩
  | refine⟨.inl ?_⟩)):p:=k
