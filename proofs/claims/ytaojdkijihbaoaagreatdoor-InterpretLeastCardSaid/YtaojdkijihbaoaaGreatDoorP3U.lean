/- P3U -/
import Derived.Test.YtaojdkijihbaoaaGreatDoorM4
set_option linter.all false
namespace Go.Proofs.YtaojdkijihbaoaaGreatDoor.P
open Go.Abs Go.Proofs
class CS(P:Program)(f:FuncId)(S:outParam Prop):Prop where
 h:S
theorem VW{P:Program}{f:FuncId}{S:Prop}{args:List AV}{r:AV}[i:CS P f S](k:S->Ax P f args r):Ax P f args r:=k i.h
theorem qt{P:Program}{f:FuncId}{S:Prop}{args a:List AV}{r:AV}[i:CS P f S](k:S->Fz P f args a r):Fz P f args a r:=k i.h
theorem tX{ρ:Type}{E R:ρ}(h:some E=some R):True:=trivial
theorem tW{ρ:Type}{b:Bool}{x:Option ρ}{R:ρ}(h:(bif b then x else none)=some R):True:=trivial
theorem uE{ρ:Type}{b a:Bool}{x y:Prop}{X Y:Option ρ}{R:ρ}(h:(bif a then X else Y)=some R)(c:a=true->X=some R->x)(d:a=false->Y=some R->y)(e:b=a:=by first|rfl|simp only[ua,uY,ux]):Bool.rec y x b:=lH h e c d
theorem uT{b a:Bool}{x y:Prop}(h:a=true)(k:x)(e:b=a:=by first|rfl|simp only[ua,uY,ux]):Bool.rec y x b:=oC e h k
theorem uN{b a:Bool}{x y:Prop}(h:a=false)(k:y)(e:b=a:=by first|rfl|simp only[ua,uY,ux]):Bool.rec y x b:=rW e h k
theorem uA{α ρ:Type}{m:Option α}{G:α->Option ρ}{R:ρ}{P:Program}{f:FuncId}{b:List Nat}{args a:List AV}{K:AV->Prop}{d:List AV->AV->Prop}{r:α->AV}(h:m.bind G=some R)(c:∀x,m=some x->Ax P f args (r x))(k:∀x,G x=some R->K (r x)):Ii P f b args K a d:=by
 obtain⟨x,hx,h⟩:=VU h;exact A4 (c x hx) (k x h)
theorem uM{α ρ:Type}{m:Option α}{G:α->Option ρ}{R:ρ}{P:Program}{f:FuncId}{d:List Nat}{args a:List AV}{K:AV->Prop}{e:List AV->AV->Prop}{b:α->List AV}{r:α->AV}(h:m.bind G=some R)(c:∀x,m=some x->Fz P f a (b x) (r x))(k:∀x,G x=some R->e (b x) (r x)):Ii P f d args K a e:=by
 obtain⟨x,hx,h⟩:=VU h;exact HW (c x hx) (k x h)
theorem uX{α ρ:Type}{xs:List α}{i j:Int}{f:α->D}{K:D->Prop}{G:α->Option ρ}{R:ρ}(h:(idx xs i).bind G=some R)(k:∀x,idx xs i=some x->G x=some R->K (f x))(e:j=i:=by first|rfl|simp only[ua,uY,ux]):At (xs.map f) j K:=rV h e k
theorem uW{α ρ:Type}{m:Option α}{G:α->Option ρ}{R:ρ}{P:Program}{f:FuncId}{args:List AV}{k sz:Nat}{e:TypeId}{xs:List D}{K:List D->Prop}{ys:α->List D}(h:m.bind G=some R)(c:∀x,m=some x->VK P f args k sz e xs (ys x))(a:∀x,G x=some R->K (ys x)):bH P f args k sz e xs K:=by
 obtain⟨x,hx,h⟩:=VU h;exact VX (c x hx) (a x h)
def Lb(x:Ab):BJ:=.var [.l 1 (D.int .u8) x.A0,.i x.Ax]
def KZ(x:Aj):BJ:=.var [.t x.I,.l 2 E4 x.Q]
def Qe(x:As):BJ:=.var [.t x.I,.i x.Kind,.i x.Ak,.i x.C,.i x.D,.l 1 D.z x.N,.b x.Al]
def BN(x:Aa):BJ:=.var [.l 2 Ai x.K,.l 7 Am x.A]
def Qf(x:Cn):BJ:=.var [.l 2 Ai x.Aw.K,.l 7 Am x.Aw.A,.l 1 (Ao 1 D.z) x.G,.l 1 D.z x.Br,.i x.Ag]
def P6(x:Ad):BJ:=.var [.i x.Op,.i x.B,.i x.Z,.i x.C,.i x.D,.l 6 A3 x.H]
def R3(x:Ap):BJ:=.var [.t x.I,.i x.Kind,.i x.Ay.Op,.i x.Ay.B,.i x.Ay.Z,.i x.Ay.C,.i x.Ay.D,.l 6 A3 x.Ay.H,.l 2 Ah x.V,.i x.Y,.l 1 D.z x.Ai,.i x.U.Op,.i x.U.B,.i x.U.Z,.i x.U.C,.i x.U.D,.l 6 A3 x.U.H]
def La(x:Ar):BJ:=.var [.t x.Ae,.t x.Bl,.i x.Be.Op,.i x.Be.B,.i x.Be.Z,.i x.Be.C,.i x.Be.D,.l 6 A3 x.Be.H,.i x.A2.Bh,.i x.A2.Of,.i x.A2.Bi,.l 17 BZ x.Am]
def Jk(x:Au):BJ:=.var [.t x.Ae,.i x.Ag,.l 2 Ah x.E,.l 1 (Ao 1 D.z) x.G]
def ZI(x:Av):BJ:=.var [.i x.Op,.i x.S,.t x.I,.i x.B,.l 1 D.z x.A,.l 2 Ah x.V,.i x.Ah.Op,.i x.Ah.B,.i x.Ah.Z,.i x.Ah.C,.i x.Ah.D,.l 6 A3 x.Ah.H,.i x.U.Op,.i x.U.B,.i x.U.Z,.i x.U.C,.i x.U.D,.l 6 A3 x.U.H,.l 19 CG x.H]
def VE(x:Bf):BJ:=.var [.b x.Bw,.b x.Bu,.b x.Bs,.b x.Bx,.b x.By,.b x.Bk,.b x.Bt]
def OF(x:AQ):BJ:=.var [.d (.int .u64 x.D),.d (.int .u64 x.C)]
theorem uD{P:Program}{f:FuncId}{fn:Func}{args:List AV}{r:AV}(b:P.funcs[f]?=some fn)(hr:qI P fn args r)(a:(fn.name == "runtime.NumGoroutine")=false:=by kernel_rfl):Ax P f args r:=Du b a hr
theorem WA{P:Program}(J:List Nat){f:FuncId}{fn:Func}{args:List AV}{r:AV}(b:P.funcs[f]?=some fn)(hr:bF P J fn args r)(a:(fn.name == "runtime.NumGoroutine")=false:=by kernel_rfl):Ax P f args r:=Q7 J b a hr
def ar(args outs:List AV):Prop:=∀(i:Nat) x y,args[i]?=some x->outs[i]?=some y->match y with
 | .own sz e _=>∃xs,x=.own sz e xs
 | .optr cs=>∃cs',x=.optr cs'/\cs.length=cs'.length
 | .cc _ l=>∃(ds:List D)(sz:Nat)(e:TypeId)(xs ys:List D),x=.cc none (ds.map .d++[.own sz e xs])/\l=ds.map .d++[.own sz e ys]
 | _=>True
theorem iv:ar [] []:=λi x y h=>by cases h
theorem iu{x:AV}{a o:List AV}(h:ar a o):ar (x :: a) (.any :: o):=λi u v c b=>by
 cases i with
 | zero=>cases b;trivial
 | succ i=>exact h i u v c b
theorem iw{sz:Nat}{e:TypeId}{xs ys:List D}{a o:List AV}(h:ar a o):ar (.own sz e xs :: a) (.own sz e ys :: o):=λi u v b c=>by
 cases i with
 | zero=>cases b;cases c;exact⟨_,rfl⟩
 | succ i=>exact h i u v b c
theorem iy{cs b:List D}{a o:List AV}(h:ar a o)(e:cs.length=b.length:=by rfl):ar (.optr b :: a) (.optr cs :: o):=λi u v c d=>by
 cases i with
 | zero=>cases c;cases d;exact⟨_,rfl,e⟩
 | succ i=>exact h i u v c d
theorem uF{P:Program}{f:FuncId}{fn:Func}{args a:List AV}{r:AV}(e:P.funcs[f]?=some fn)(hr:ql P fn args a r)(c:ar args a:=by repeat (first|exact iv|refine iu ?_|refine iw ?_|refine iy ?_))(d:a.length=args.length:=by rfl)(b:(fn.name == "runtime.NumGoroutine")=false:=by kernel_rfl):Fz P f args a r:=dC e b d c hr
theorem tE{P:Program}(J:List Nat){f:FuncId}{fn:Func}{args a:List AV}{r:AV}(e:P.funcs[f]?=some fn)(hr:Xo P J fn args a r)(c:ar args a:=by repeat (first|exact iv|refine iu ?_|refine iw ?_|refine iy ?_))(d:a.length=args.length:=by rfl)(b:(fn.name == "runtime.NumGoroutine")=false:=by kernel_rfl):Fz P f args a r:=fS J e b d c hr
theorem TZ{P:Program}{f:FuncId}{S:Prop}{args:List AV}{k sz:Nat}{e:TypeId}{xs ys:List D}[i:CS P f S](q:S->VK P f args k sz e xs ys):VK P f args k sz e xs ys:=q i.h
theorem uR{α ρ:Type}{xs:List α}{f:α->D}{i j:Int}{k:Prop}{G:α->Option ρ}{R:ρ}(h:(idx xs i).bind G=some R)(hk:∀x,idx xs i=some x->G x=some R->k)(e:j=i:=by first|rfl|simp only[ua,uY,ux]):JW (0<=j/\j.toNat<(xs.map f).length) k:=gm h e hk
theorem uG{α:Type}{xs:List α}{i j:Int}{x:α}{f:α->D}{K:D->Prop}(h:idx xs i=some x)(k:K (f x))(e:j=((i.toNat:Nat):Int):=by first|rfl|simp only[ua,uY,ux]):At (xs.map f) j K:=qP h e k
theorem uL{S S':AS}(h:EF S' (λS'=>Le S S'):=by(conv=>whnf);repeat (first|exact trivial|refine And.intro (by first|with_reducible rfl|rfl|exact .inl rfl|exact .inr rfl|(simp only[ua];done)|(simp only[ua];rfl)|(simp only[BI,AI,AW,AZ,Ao,ul,uH,ua];done)|(simp only[BI,AI,AW,AZ,Ao,ul,uH,ua];rfl)|(simp only[uI,ul,uH];rfl)) ?_)):Le S S':=TL h
theorem uC{ι:Type}{Inv:ι->AS}{μ:ι->Nat}{S:AS}{m:Nat}(j:ι)(h:Le S (Inv j))(k:μ j<m:=by exact wm _):∃j,Le S (Inv j)/\μ j<m:=⟨j,h,k⟩
class En(α:Type)(e:outParam (α->D))(k:outParam Nat):Prop where
 t:True
instance:En Int D.z 1:=⟨trivial⟩
instance:En Bool D.bool 1:=⟨trivial⟩
instance:En ByteArray D.str 1:=⟨trivial⟩
instance {α:Type}{e:α->D}{k:Nat}[En α e k]:En (List α) (Ao k e) 1:=⟨trivial⟩
instance:En Q1 Ie 2:=⟨trivial⟩
instance:En AF AC 26:=⟨trivial⟩
instance:En WF R8 1:=⟨trivial⟩
instance:En Eu E4 2:=⟨trivial⟩
instance:En Aj Ai 2:=⟨trivial⟩
instance:En As Am 7:=⟨trivial⟩
instance:En Bb B7 6:=⟨trivial⟩
instance:En Ar FL 1:=⟨trivial⟩
instance:En Au E5 1:=⟨trivial⟩
instance:En AO B6 2:=⟨trivial⟩
instance:En Cw Nj 1:=⟨trivial⟩
instance:En Ac Ah 2:=⟨trivial⟩
instance:En Ap BZ 17:=⟨trivial⟩
instance:En HA Ls 1:=⟨trivial⟩
instance:En Aa EK 1:=⟨trivial⟩
instance:En Cn Lt 1:=⟨trivial⟩
instance:En Az BG 21:=⟨trivial⟩
instance:En Ei H6 1:=⟨trivial⟩
instance:En An A5 7:=⟨trivial⟩
instance:En AR DG 1:=⟨trivial⟩
instance:En Ab I9 1:=⟨trivial⟩
instance:En AQ BV 1:=⟨trivial⟩
instance:En Ev Fq 1:=⟨trivial⟩
instance:En A7 Fs 1:=⟨trivial⟩
instance:En Bf GG 1:=⟨trivial⟩
instance:En Ad BI 6:=⟨trivial⟩
instance:En (List Ad) (Ao 6 A3) 1:=⟨trivial⟩
instance:En Av AW 19:=⟨trivial⟩
instance:En (List Av) (Ao 19 CG) 1:=⟨trivial⟩
class Er(α:Type)(r:outParam (α->AV)):Prop where
 t:True
instance {a:Type}{e:a->D}{k:Nat}[En a e k]:Er a (λR=>.d (e R)):=⟨trivial⟩
instance {a b:Type}{c:a->D}{e:Nat}{d:b->D}{f:Nat}[En a c e][En b d f]:Er (a×b) (λR=>.tup [.d (c R.1),.d (d R.2)]):=⟨trivial⟩
instance {a b c:Type}{d:a->D}{g:Nat}{e:b->D}{h:Nat}{f:c->D}{kc:Nat}[En a d g][En b e h][En c f kc]:Er (a×b×c) (λR=>.tup [.d (d R.1),.d (e R.2.1),.d (f R.2.2)]):=⟨trivial⟩
instance {a b c d:Type}{e:a->D}{i:Nat}{f:b->D}{j:Nat}{g:c->D}{kc:Nat}{h:d->D}{kd:Nat}[En a e i][En b f j][En c g kc][En d h kd]:Er (a×b×c×d) (λR=>.tup [.d (e R.1),.d (f R.2.1),.d (g R.2.2.1),.d (h R.2.2.2)]):=⟨trivial⟩
instance {a b c d e:Type}{f:a->D}{k:Nat}{g:b->D}{l:Nat}{h:c->D}{kc:Nat}{i:d->D}{kd:Nat}{j:e->D}{m:Nat}[En a f k][En b g l][En c h kc][En d i kd][En e j m]:Er (a×b×c×d×e) (λR=>.tup [.d (f R.1),.d (g R.2.1),.d (h R.2.2.1),.d (i R.2.2.2.1),.d (j R.2.2.2.2)]):=⟨trivial⟩
def W0{ρ:Type}{r:ρ->AV}[Er ρ r](P:Program)(f:FuncId)(F:Option ρ):Prop:=∀(R:ρ)(h:F=some R),Ax P f [] (r R)
def W1{a0 ρ:Type}{e0:a0->D}{k0:Nat}{r:ρ->AV}[En a0 e0 k0][Er ρ r](P:Program)(f:FuncId)(F:a0->Option ρ):Prop:=∀(p0:a0)(R:ρ)(h:F p0=some R),Ax P f [.d (e0 p0)] (r R)
def W2{a0 a1 ρ:Type}{e0:a0->D}{k0:Nat}{e1:a1->D}{k1:Nat}{r:ρ->AV}[En a0 e0 k0][En a1 e1 k1][Er ρ r](P:Program)(f:FuncId)(F:a0->a1->Option ρ):Prop:=∀(p0:a0)(p1:a1)(R:ρ)(h:F p0 p1=some R),Ax P f [.d (e0 p0),.d (e1 p1)] (r R)
def W3{a0 a1 a2 ρ:Type}{e0:a0->D}{k0:Nat}{e1:a1->D}{k1:Nat}{e2:a2->D}{k2:Nat}{r:ρ->AV}[En a0 e0 k0][En a1 e1 k1][En a2 e2 k2][Er ρ r](P:Program)(f:FuncId)(F:a0->a1->a2->Option ρ):Prop:=∀(p0:a0)(p1:a1)(p2:a2)(R:ρ)(h:F p0 p1 p2=some R),Ax P f [.d (e0 p0),.d (e1 p1),.d (e2 p2)] (r R)
def W4{a0 a1 a2 a3 ρ:Type}{e0:a0->D}{k0:Nat}{e1:a1->D}{k1:Nat}{e2:a2->D}{k2:Nat}{e3:a3->D}{k3:Nat}{r:ρ->AV}[En a0 e0 k0][En a1 e1 k1][En a2 e2 k2][En a3 e3 k3][Er ρ r](P:Program)(f:FuncId)(F:a0->a1->a2->a3->Option ρ):Prop:=∀(p0:a0)(p1:a1)(p2:a2)(p3:a3)(R:ρ)(h:F p0 p1 p2 p3=some R),Ax P f [.d (e0 p0),.d (e1 p1),.d (e2 p2),.d (e3 p3)] (r R)
def W5{a0 a1 a2 a3 a4 ρ:Type}{e0:a0->D}{k0:Nat}{e1:a1->D}{k1:Nat}{e2:a2->D}{k2:Nat}{e3:a3->D}{k3:Nat}{e4:a4->D}{k4:Nat}{r:ρ->AV}[En a0 e0 k0][En a1 e1 k1][En a2 e2 k2][En a3 e3 k3][En a4 e4 k4][Er ρ r](P:Program)(f:FuncId)(F:a0->a1->a2->a3->a4->Option ρ):Prop:=∀(p0:a0)(p1:a1)(p2:a2)(p3:a3)(p4:a4)(R:ρ)(h:F p0 p1 p2 p3 p4=some R),Ax P f [.d (e0 p0),.d (e1 p1),.d (e2 p2),.d (e3 p3),.d (e4 p4)] (r R)
def W6{a0 a1 a2 a3 a4 a5 ρ:Type}{e0:a0->D}{k0:Nat}{e1:a1->D}{k1:Nat}{e2:a2->D}{k2:Nat}{e3:a3->D}{k3:Nat}{e4:a4->D}{k4:Nat}{e5:a5->D}{k5:Nat}{r:ρ->AV}[En a0 e0 k0][En a1 e1 k1][En a2 e2 k2][En a3 e3 k3][En a4 e4 k4][En a5 e5 k5][Er ρ r](P:Program)(f:FuncId)(F:a0->a1->a2->a3->a4->a5->Option ρ):Prop:=∀(p0:a0)(p1:a1)(p2:a2)(p3:a3)(p4:a4)(p5:a5)(R:ρ)(h:F p0 p1 p2 p3 p4 p5=some R),Ax P f [.d (e0 p0),.d (e1 p1),.d (e2 p2),.d (e3 p3),.d (e4 p4),.d (e5 p5)] (r R)
@[reducible] def oc(c:Ab):AV:=.optr [(Ao 1 (D.int .u8) c.A0),(.j c.Ax)]
def V0{ρ:Type}{r:ρ->D}{k:Nat}[En ρ r k](P:Program)(f:FuncId)(F:Ab->Option (ρ×Ab)):Prop:=∀(c:Ab)(R:ρ×Ab)(h:F c=some R),Fz P f [oc c] [oc R.2] (.d (r R.1))
def V1{a0 ρ:Type}{e0:a0->D}{k0:Nat}{r:ρ->D}{k:Nat}[En a0 e0 k0][En ρ r k](P:Program)(f:FuncId)(F:Ab->a0->Option (ρ×Ab)):Prop:=∀(c:Ab)(p0:a0)(R:ρ×Ab)(h:F c p0=some R),Fz P f [oc c,.d (e0 p0)] [oc R.2,.any] (.d (r R.1))
def V2{a0 a1 ρ:Type}{e0:a0->D}{k0:Nat}{e1:a1->D}{k1:Nat}{r:ρ->D}{k:Nat}[En a0 e0 k0][En a1 e1 k1][En ρ r k](P:Program)(f:FuncId)(F:Ab->a0->a1->Option (ρ×Ab)):Prop:=∀(c:Ab)(p0:a0)(p1:a1)(R:ρ×Ab)(h:F c p0 p1=some R),Fz P f [oc c,.d (e0 p0),.d (e1 p1)] [oc R.2,.any,.any] (.d (r R.1))
class LS{σ ρ:Type}(body:(σ->Option ρ)->σ->Option ρ)(n:outParam Nat)(ks:outParam (List Nat))(vs:outParam (σ->List (Nat×AV)))(kb:outParam (List Nat))(vb:outParam (σ->Bx)):Prop where
 t:True
def pk:List Nat->Nat->Bool
 | [],_=>false
 | a :: r,k=>match Nat.beq a k with
  | true=>true
  | false=>pk r k
def keepS(S:AS)(n:Nat)(ks:List Nat)(vs:List (Nat×AV))(kb:List Nat)(vb:Bx):AS:=ef n n λk=>match pk kb k with
 | true=>match pk ks k with
  | true=>⟨(Ag S k).av,(Ag S k).box,(Ag S k).ver⟩
  | false=>⟨DN vs k,(Ag S k).box,(Ag S k).ver⟩
 | false=>match pk ks k with
  | true=>C1 vb k (Ag S k).av
  | false=>C1 vb k (DN vs k)
theorem so{σ ρ:Type}{body:(σ->Option ρ)->σ->Option ρ}{m n:Nat}{c d:List Nat}{vs:σ->List (Nat×AV)}{vb:σ->Bx}{f:σ}{R:ρ}{S:AS}{W:(Exit->AS->Prop)->AS->Prop}{Q:Exit->AS->Prop}[LS body n c vs d vb](h:iter body m f=some R)
 (k:∀(Φ:Nat->σ->Option ρ)(t:Nat)(s:σ),body (Φ t) s=some R->EF (keepS S n c (vs s) d (vb s)) (W (λe S'=>match e with|.normal=>∃j:{p:Nat×σ // Φ p.1 p.2=some R},Le S' (keepS S n c (vs j.1.2) d (vb j.1.2))/\j.1.1<t+1|e=>Q e S')))
 (g:Le S (keepS S n c (vs f) d (vb f)):=by exact uL):Q4 S W Q:=by
 obtain⟨Φ,i,h⟩:=qw h
 exact loop {p:Nat×σ // Φ p.1 p.2=some R} (λp=>keepS S n c (vs p.1.2) d (vb p.1.2)) (λp=>p.1.1) ⟨(m,f),h⟩ g λ⟨⟨a,b⟩,h⟩=>by
  obtain⟨a,rfl,h⟩:=i _ _ h;exact k Φ a b h
theorem Aq{p:Prop}(k:p:=by
 repeat' ((conv=>whnf);first
  | exact uC ⟨(_,_),h⟩ uL
  | exact⟨⟨_,h⟩,uL⟩
  | exact⟨⟨(),h⟩,uL⟩
  | exact⟨⟨(_,_),h⟩,uL⟩
  | exact⟨⟨(_,_,_),h⟩,uL⟩
  | exact⟨⟨(_,_,_,_),h⟩,uL⟩
  | ((with_reducible have q:=tX h);(try obtain rfl:=uc h);(conv=>whnf);first|exact⟨by first|rfl|(simp only[ua];done)|(simp only[ua];rfl)|(simp only[BI,AI,AW,AZ,Ao,ul,uH,ua];done)|(simp only[BI,AI,AW,AZ,Ao,ul,uH,ua];rfl)⟩|refine⟨by first|rfl|(simp only[ua];done)|(simp only[ua];rfl)|(simp only[BI,AI,AW,AZ,Ao,ul,uH,ua];done)|(simp only[BI,AI,AW,AZ,Ao,ul,uH,ua];rfl),?_⟩|refine⟨⟨rfl,rfl,by first|rfl|(simp only[ua];done)|(simp only[ua];rfl)|(simp only[BI,AI,AW,AZ,Ao,ul,uH,ua];done)|(simp only[BI,AI,AW,AZ,Ao,ul,uH,ua];rfl)⟩,?_⟩|refine⟨.inl ?_⟩)
  | ((with_reducible have q:=tW h);refine S3 h λhr h=>?_;(conv=>whnf);first|(refine⟨by(simp only[ua];exact Dg hr (uf (by kernel_rfl)) (.inr (by kernel_rfl))),?_⟩;try first|rw[nY]|rw[sK]|rw[sL]|rw[jb]|rw[rU]|rw[pt]|rw[tw]|rw[kI]|rw[YW]|rw[kJ]|rw[gz]|rw[Y1]|rw[Ng]|rw[gA]|rw[WR]|rw[UV]|rw[gB]|rw[YX]|rw[gC]|rw[dW]|rw[Qc]|rw[Oe]|rw[bj]|rw[bk]|rw[bm]|rw[WS]|rw[dY]|rw[WT]|rw[dZ]|rw[Y2]|rw[UW]|rw[TH]|rw[TI]|rw[V8])|refine⟨uf hr,?_⟩|(refine⟨by first|exact uf hr|(simp only[ua];exact uf hr),?_⟩;(try simp only[ua]);try rw[sa])|(refine⟨by have b:=(Bool.and_eq_true_iff.1 hr).1;have c:=(Bool.and_eq_true_iff.1 hr).2;simp only[ua];exact⟨Dg b (uf (by kernel_rfl)) (.inr (by kernel_rfl)),λa=>by first|(simp at a;done)|(simp at a;simp[a]at c)⟩,?_⟩;try rw[rU])|(refine⟨by first|exact Ws hr (uf (by kernel_rfl))|(simp only[ua];exact Ws hr (uf (by kernel_rfl))),?_⟩;try rw[pF]))
  | refine uE h (λ_ h=>?_) λ_ h=>?_
  | refine uT (by assumption) ?_
  | refine uN (by assumption) ?_
  | refine uN (sU (by assumption)) ?_
  | refine so h λ_ _ s h=>?_
  | (refine uX h λx _ h=>?_;(try first|rw[AI x]|rw[AZ x]))
  | refine uR h λx hx h=>?_
  | (refine uG hx ?_;try first|(conv=>whnf;rw[sJ])|rw[nV]|rw[be]|rw[nW]|rw[kC]|rw[YT]|rw[dP]|rw[kD]|rw[Yx]|rw[V5]|rw[kE]|rw[bg]|rw[kF]|rw[gq]|rw[kG]|rw[YU]|rw[dQ]|rw[dR]|rw[dT]|rw[Yy]|rw[gr]|rw[Yz]|rw[gu]|rw[YV]|rw[V6]|rw[UT]|rw[UU]|rw[WQ])
  | refine uA h (λx hx=>by first|exact ih _ hx|exact ih _ _ hx|exact ih _ _ _ hx|exact ih _ _ _ _ hx|exact ih1 _ hx|exact ih1 _ _ hx|exact ih1 _ _ _ hx|exact ih1 _ _ _ _ hx|exact ih2 _ hx|exact ih2 _ _ hx|exact ih2 _ _ _ hx|exact ih2 _ _ _ _ hx|exact ih3 _ hx|exact ih3 _ _ hx|exact ih3 _ _ _ hx|exact ih3 _ _ _ _ hx|exact VW λq=>(by first|exact q hx|exact q _ hx|exact q _ _ hx|exact q _ _ _ hx|exact q _ _ _ _ hx|exact q _ _ _ _ _ hx|exact q _ _ _ _ _ _ hx|exact q _ _ _ _ _ _ _ hx|exact q _ _ _ _ _ _ _ _ hx|exact q _ _ _ _ _ _ _ _ _ hx|exact q _ _ _ _ _ _ _ _ _ _ hx|exact q _ _ _ _ _ _ _ _ _ _ _ hx|exact q _ _ _ _ _ _ _ _ _ _ _ _ hx|exact q _ _ _ _ _ (by intro _ _ h;exact VW λq=>(by first|exact q h|exact q _ h|exact q _ _ h|exact q _ _ _ h|exact q _ _ _ _ h|exact q _ _ _ _ _ h|exact q _ _ _ _ _ _ h|exact q _ _ _ _ _ _ _ h)) hx|exact q _ _ _ _ _ _ (by intro _ _ h;exact VW λq=>(by first|exact q h|exact q _ h|exact q _ _ h|exact q _ _ _ h|exact q _ _ _ _ h|exact q _ _ _ _ _ h|exact q _ _ _ _ _ _ h|exact q _ _ _ _ _ _ _ h)) hx|exact q _ _ _ _ _ _ _ (by intro _ _ h;exact VW λq=>(by first|exact q h|exact q _ h|exact q _ _ h|exact q _ _ _ h|exact q _ _ _ _ h|exact q _ _ _ _ _ h|exact q _ _ _ _ _ _ h|exact q _ _ _ _ _ _ _ h)) hx)) λx h=>?_
  | refine uM h (λx hx=>by first|exact ih _ hx|exact ih _ _ hx|exact ih _ _ _ hx|exact ih _ _ _ _ hx|exact ih1 _ hx|exact ih1 _ _ hx|exact ih1 _ _ _ hx|exact ih1 _ _ _ _ hx|exact ih2 _ hx|exact ih2 _ _ hx|exact ih2 _ _ _ hx|exact ih2 _ _ _ _ hx|exact ih3 _ hx|exact ih3 _ _ hx|exact ih3 _ _ _ hx|exact ih3 _ _ _ _ hx|exact qt λq=>(by first|exact q hx|exact q _ hx|exact q _ _ hx|exact q _ _ _ hx|exact q _ _ _ _ hx|exact q _ _ _ _ _ hx|exact q _ _ _ _ _ _ hx|exact q _ _ _ _ _ _ _ hx|exact q _ _ _ _ _ _ _ _ hx|exact q _ _ _ _ _ _ _ _ _ hx|exact q _ _ _ _ _ _ _ _ _ _ hx|exact q _ _ _ _ _ _ _ _ _ _ _ hx|exact q _ _ _ _ _ _ _ _ _ _ _ _ hx)) λx h=>?_
  | refine uW h (λx hx=>TZ λq=>(by first|exact q hx|exact q _ hx|exact q _ _ hx|exact q _ _ _ hx|exact q _ _ _ _ hx|exact q _ _ _ _ _ hx|exact q _ _ _ _ _ _ hx|exact q _ _ _ _ _ _ _ hx|exact q _ _ _ _ _ _ _ _ hx|exact q _ _ _ _ _ _ _ _ _ hx|exact q _ _ _ _ _ _ _ _ _ _ hx|exact q _ _ _ _ _ _ _ _ _ _ _ hx|exact q _ _ _ _ _ _ _ _ _ _ _ _ hx)) λx h=>?_
  | (simp only[ua];refine uA h (λx hx=>VW λq=>(by first|exact q hx|exact q _ hx|exact q _ _ hx|exact q _ _ _ hx|exact q _ _ _ _ hx|exact q _ _ _ _ _ hx|exact q _ _ _ _ _ _ hx|exact q _ _ _ _ _ _ _ hx|exact q _ _ _ _ _ _ _ _ hx|exact q _ _ _ _ _ _ _ _ _ hx|exact q _ _ _ _ _ _ _ _ _ _ hx|exact q _ _ _ _ _ _ _ _ _ _ _ hx|exact q _ _ _ _ _ _ _ _ _ _ _ _ hx|exact q _ _ _ _ _ (by intro _ _ h;exact VW λq=>(by first|exact q h|exact q _ h|exact q _ _ h|exact q _ _ _ h|exact q _ _ _ _ h|exact q _ _ _ _ _ h|exact q _ _ _ _ _ _ h|exact q _ _ _ _ _ _ _ h)) hx|exact q _ _ _ _ _ _ (by intro _ _ h;exact VW λq=>(by first|exact q h|exact q _ h|exact q _ _ h|exact q _ _ _ h|exact q _ _ _ _ h|exact q _ _ _ _ _ h|exact q _ _ _ _ _ _ h|exact q _ _ _ _ _ _ _ h)) hx|exact q _ _ _ _ _ _ _ (by intro _ _ h;exact VW λq=>(by first|exact q h|exact q _ h|exact q _ _ h|exact q _ _ _ h|exact q _ _ _ _ h|exact q _ _ _ _ _ h|exact q _ _ _ _ _ _ h|exact q _ _ _ _ _ _ _ h)) hx)) λx h=>?_)
  | (simp only[ua];refine uM h (λx hx=>qt λq=>(by first|exact q hx|exact q _ hx|exact q _ _ hx|exact q _ _ _ hx|exact q _ _ _ _ hx|exact q _ _ _ _ _ hx|exact q _ _ _ _ _ _ hx|exact q _ _ _ _ _ _ _ hx|exact q _ _ _ _ _ _ _ _ hx|exact q _ _ _ _ _ _ _ _ _ hx|exact q _ _ _ _ _ _ _ _ _ _ hx|exact q _ _ _ _ _ _ _ _ _ _ _ hx|exact q _ _ _ _ _ _ _ _ _ _ _ _ hx)) λx h=>?_)
  | (rw[Ub];(conv=>whnf);refine uA h (λx hx=>by first|exact h_p1 _ _ hx|exact h_p1 _ _ _ hx|exact h_p1 _ _ _ _ hx|exact h_p2 _ _ hx|exact h_p2 _ _ _ hx|exact h_p2 _ _ _ _ hx|exact h_p3 _ _ hx|exact h_p3 _ _ _ hx|exact h_p3 _ _ _ _ hx|exact h_p4 _ _ hx|exact h_p4 _ _ _ hx|exact h_p4 _ _ _ _ hx|exact h_p5 _ _ hx|exact h_p5 _ _ _ hx|exact h_p5 _ _ _ _ hx) λx h=>?_)
  | refine⟨⟨by decide +kernel,by kernel_rfl⟩,?_⟩
  | refine⟨⟨by kernel_rfl,by kernel_rfl⟩,?_⟩
  | refine⟨by kernel_rfl,?_⟩
  | refine⟨by omega,?_⟩
  | refine⟨.inl ?_⟩)):p:=k
