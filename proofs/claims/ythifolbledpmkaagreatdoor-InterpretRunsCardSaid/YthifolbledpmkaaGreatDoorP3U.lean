/- P3U -/
import Derived.Test.YthifolbledpmkaaGreatDoorM4
import Derived.Test.YthifolbledpmkaaGreatDoorChecked
open Option renaming some → θ
open List renaming length → Ξ
set_option linter.all false
namespace Go.Proofs.YthifolbledpmkaaGreatDoor.P
open Go.Abs Go.Proofs
class CS(P:Program)(f:FuncId)(S:outParam Prop):Prop where
 h:S
def cZ{P:Η}{f:FuncId}{S:Prop}{args:Γ AV}{r:AV}[i:CS P f S](k:S->A9 P f args r):A9 P f args r:=k i.h
def Aap{P:Η}{f:FuncId}{S:Prop}{args a:Γ AV}{r:AV}[i:CS P f S](k:S->Et P f args a r):Et P f args a r:=k i.h
def isS{ρ:Type}{E R:ρ}(h:θ E=θ R):True:=trivial
def isG{ρ:Type}{b:Ω}{x:Δ ρ}{R:ρ}(h:(bif b then x else none)=θ R):True:=trivial
def uE{ρ:Type}{b a:Ω}{x y:Prop}{X Y:Δ ρ}{R:ρ}(h:(bif a then X else Y)=some R)(h1:a=true->X=some R->x)(h2:a=false->Y=some R->y)(e:b=a:=by first|rfl|simp only[Zac,Zav,Zaq]):Bool.rec y x b:=vQ h e h1 h2
def uT{b a:Ω}{x y:Prop}(h:a=true)(k:x)(e:b=a:=by first|rfl|simp only[Zac,Zav,Zaq]):Bool.rec y x b:=yL e h k
def uN{b a:Ω}{x y:Prop}(h:a=false)(k:y)(e:b=a:=by first|rfl|simp only[Zac,Zav,Zaq]):Bool.rec y x b:=brN e h k
def uW{α ρ:Type}{m:Δ α}{G:α->Δ ρ}{R:ρ}{P:Η}{f:FuncId}{args:Γ AV}{k sz:Nat}{e:Υ}{xs:Γ D}{K:Γ D->Prop}{ys:α->Γ D}(h:m.bind G=θ R)(c:∀x,m=θ x->cN P f args k sz e xs (ys x))(a:∀x,G x=θ R->K (ys x)):m9 P f args k sz e xs K:=by
 obtain⟨x,hx,h⟩:=cY h;exact da (c x hx) (a x h)
def Pi(x:Am):Cq:=.var [.t x.J,.l 2 FE x.X]
def Sw(x:Ax):Cq:=.var [.t x.J,.i x.Kind,.i x.Al,.i x.C,.i x.E,.l 1 D.z x.L,.b x.An]
def AI(x:Aa):Cq:=.var [.l 2 Ak x.S,.l 7 Aw x.A]
def Du(x:Ad):Cq:=.var [.t x.Aq,.i x.As,.l 2 Af x.I,.l 1 (Aq 1 D.z) x.G]
def LW(x:Ae):Cq:=.var [.i x.Op,.i x.B,.i x.Af,.i x.C,.i x.E,.l 6 A8 x.D]
def GE(x:Ag):Cq:=.var [.i x.Op,.i x.K,.t x.J,.i x.B,.l 1 D.z x.A,.l 2 Af x.V,.i x.Q.Op,.i x.Q.B,.i x.Q.Af,.i x.Q.C,.i x.Q.E,.l 6 A8 x.Q.D,.i x.Y.Op,.i x.Y.B,.i x.Y.Af,.i x.Y.C,.i x.Y.E,.l 6 A8 x.Y.D,.l 19 C8 x.D]
def cI(x:AX):Cq:=.var [.b x.By,.b x.Bz,.b x.Bv,.b x.B3,.b x.B4,.b x.Bg,.b x.Bn]
def GW(x:A1):Cq:=.var [.i x.K,.i x.T]
def Ho(x:Aj):Cq:=.var [.i x.Bh,.i x.Bj,.i x.Bk,.i x.Bl,.i x.Bm.K,.i x.Bm.T]
def dQ(x:A4):Cq:=.var [.i x.Kind,.i x.Number.K,.i x.Number.T,.l 2 Af x.Table.V,.i x.Table.Ah,.l 7 A7 x.Table.Av,.i x.Model.Ah,.l 1 D.z x.Model.A0,.l 2 De x.Model.A9,.i x.Model.A2.K,.i x.Model.A2.T,.i x.Model.A3.K,.i x.Model.A3.T,.i x.Model.Z,.i x.Model.Bf,.l 6 AO x.Curve,.l 2 C7 x.Hist,.i x.Box.Z,.i x.Box.Bo,.i x.Box.Bp,.i x.Box.Bq,.i x.Box.Br,.i x.Box.Bs,.l 1 D.z x.Lineage]
def Z2(x:A6):Cq:=.var [.l 2 Ak x.N.Ak.S,.l 7 Aw x.N.Ak.A,.t x.N.U.Aq,.i x.N.U.As,.l 2 Af x.N.U.I,.l 1 (Aq 1 D.z) x.N.U.G,.l 26 A2 x.A5]
def FT(x:Ao):Cq:=.var [.d (.int .u64 x.E),.d (.int .u64 x.C)]
def XG(x:BF):Cq:=.var [.t x.J,.i x.Kind,.i x.Bu.Op,.i x.Bu.B,.i x.Bu.Af,.i x.Bu.C,.i x.Bu.E,.l 6 A8 x.Bu.D,.l 2 Af x.V,.i x.Ah,.l 1 D.z x.A0,.i x.Y.Op,.i x.Y.B,.i x.Y.Af,.i x.Y.C,.i x.Y.E,.l 6 A8 x.Y.D]
def Pj(x:Ac):Cq:=.var [.l 1 (D.int .u8) x.Ay,.i x.Aw]
def Wb(x:CH):Cq:=.var [.l 2 Ak x.Bi.S,.l 7 Aw x.Bi.A,.l 1 (Aq 1 D.z) x.G,.l 1 D.z x.B6,.i x.As]
def Ut(x:B2):Cq:=.var [.t x.Aq,.t x.B9,.i x.Bw.Op,.i x.Bw.B,.i x.Bw.Af,.i x.Bw.C,.i x.Bw.E,.l 6 A8 x.Bw.D,.i x.Bx.B0,.i x.Bx.Of,.i x.Bx.B1,.l 17 F3 x.B5]
def TC{P:Η}(J:Γ Nat){f:FuncId}{fn:Func}{args:Γ AV}{r:AV}(b:P.funcs[f]?=some fn)(hr:m8 P J fn args r)(a:(fn.name == "runtime.NumGoroutine")=false:=by kernel_rfl):A9 P f args r:=Vp J b a hr
def lh(args outs:Γ AV):Prop:=∀(i:Nat) x y,args[i]?=θ x->outs[i]?=θ y->match y with
 | .own sz e _=>∃xs,x=.own sz e xs
 | .optr cs=>∃cs',x=.optr cs'/\Ξ cs=Ξ cs'
 | .cc _ l=>∃(ds:Γ D)(sz:Nat)(e:Υ)(xs ys:Γ D),x=.cc none (ds.map .d++[.own sz e xs])/\l=ds.map .d++[.own sz e ys]
 | _=>True
def ry:lh [] []:=λi x y h=>by cases h
theorem rx{x:AV}{a o:Γ AV}(h:lh a o):lh (x::a) (.any::o):=λi u v h1 h2=>by
 cases i with
 | zero=>cases h2;trivial
 | succ i=>exact h i u v h1 h2
theorem rz{sz:Nat}{e:Υ}{xs ys:Γ D}{a o:Γ AV}(h:lh a o):lh (.own sz e xs::a) (.own sz e ys::o):=λi u v h1 h2=>by
 cases i with
 | zero=>cases h1;cases h2;exact⟨_,rfl⟩
 | succ i=>exact h i u v h1 h2
theorem r7{cs b:Γ D}{a o:Γ AV}(h:lh a o)(c:Ξ cs=Ξ b:=by rfl):lh (.optr b::a) (.optr cs::o):=λi u v h1 h2=>by
 cases i with
 | zero=>cases h1;cases h2;exact⟨_,rfl,c⟩
 | succ i=>exact h i u v h1 h2
def uz{args a:Γ AV}(c:lh args a:=by repeat (first|exact ry|refine rx ?_|refine rz ?_|refine r7 ?_)):lh args a:=c
def uF{P:Η}{f:FuncId}{fn:Func}{args a:Γ AV}{r:AV}(e:P.funcs[f]?=some fn)(hr:Aal P fn args a r)(c:lh args a:=by exact uz)(d:Ξ a=Ξ args:=by rfl)(b:(fn.name == "runtime.NumGoroutine")=false:=by kernel_rfl):Et P f args a r:=oi e b d c hr
def uFJ{P:Η}(J:Γ Nat){f:FuncId}{fn:Func}{args a:Γ AV}{r:AV}(e:P.funcs[f]?=some fn)(hr:fa P J fn args a r)(c:lh args a:=by exact uz)(d:Ξ a=Ξ args:=by rfl)(b:(fn.name == "runtime.NumGoroutine")=false:=by kernel_rfl):Et P f args a r:=lH J e b d c hr
def ZF{P:Η}{f:FuncId}{S:Prop}{args:Γ AV}{k sz:Nat}{e:Υ}{xs ys:Γ D}[i:CS P f S](q:S->cN P f args k sz e xs ys):cN P f args k sz e xs ys:=q i.h
def uR{α ρ:Type}{xs:Γ α}{f:α->D}{i j:Int}{k:Prop}{G:α->Δ ρ}{R:ρ}(h:(idx xs i).bind G=some R)(a:∀x,idx xs i=some x->G x=some R->k)(e:j=i:=by first|rfl|simp only[Zac,Zav,Zaq]):NL (0<=j/\j.toNat<Ξ (xs.map f)) k:=T4 h e a
def uG{α:Type}{xs:Γ α}{i j:Int}{x:α}{f:α->D}{K:D->Prop}(h:idx xs i=θ x)(k:K (f x))(e:j=((i.toNat:Nat):Int):=by first|rfl|simp only[Zac,Zav,Zaq]):At (xs.map f) j K:=fk h e k
def uL{S S':AS}(h:Gk S' (λS'=>Le S S'):=by(conv=>whnf);repeat (first|exact trivial|refine And.intro (by first|with_reducible rfl|rfl|exact .inl rfl|exact .inr rfl|(simp only[Zac];done)|(simp only[Zac];rfl)|(simp only[Cc,AN,AF,Be,Aq,Zas,Zbm,Zac];done)|(simp only[Cc,AN,AF,Be,Aq,Zas,Zbm,Zac];rfl)|(simp only[Zay,Zas,Zbm]<;>rfl)) ?_)):Le S S':=jS h
class En(α:Type)(e:outParam (α->D))(k:outParam Nat):Prop where
 t:True:=trivial
instance:En Int D.z 1:={}
instance:En Ω D.bool 1:={}
instance:En Θ D.str 1:={}
instance{α:Type}{e:α->D}{k:Nat}[En α e k]:En (Γ α) (Aq k e) 1:={}
instance:En Co C7 2:={}
instance:En Ar A2 26:={}
instance:En K2 XR 1:={}
instance:En Fx FE 2:={}
instance:En Am Ak 2:={}
instance:En Ax Aw 7:={}
instance:En Aj AO 6:={}
instance:En B2 Hg 1:={}
instance:En Ad Cm 1:={}
instance:En A1 De 2:={}
instance:En Bd Sz 1:={}
instance:En Ab Af 2:={}
instance:En BF F3 17:={}
instance:En Lt Pt 1:={}
instance:En Aa Cr 1:={}
instance:En CH Nk 1:={}
instance:En Az Bf 21:={}
instance:En BL JW 1:={}
instance:En Ap A7 7:={}
instance:En A4 Dg 1:={}
instance:En Ac Lw 1:={}
instance:En Ao DJ 1:={}
instance:En Fz G6 1:={}
instance:En A6 G7 1:={}
instance:En AX I6 1:={}
instance:En Au Lx 1:={}
instance:En C6 EI 3:={}
instance:En Ae Cc 6:={}
instance:En (Γ Ae) (Aq 6 A8) 1:={}
instance:En Ag AF 19:={}
instance:En (Γ Ag) (Aq 19 C8) 1:={}
class Er(α:Type)(r:outParam (α->AV)):Prop where
 t:True:=trivial
instance{a:Type}{e:a->D}{k:Nat}[En a e k]:Er a (λR=>.d (e R)):={}
instance{a b:Type}{c:a->D}{e:Nat}{d:b->D}{f:Nat}[En a c e][En b d f]:Er (a×b) (λR=>.tup [.d (c R.1),.d (d R.2)]):={}
instance{a b c:Type}{d:a->D}{g:Nat}{e:b->D}{h:Nat}{f:c->D}{kc:Nat}[En a d g][En b e h][En c f kc]:Er (a×b×c) (λR=>.tup [.d (d R.1),.d (e R.2.1),.d (f R.2.2)]):={}
instance{a b c d:Type}{e:a->D}{i:Nat}{f:b->D}{j:Nat}{g:c->D}{kc:Nat}{h:d->D}{k:Nat}[En a e i][En b f j][En c g kc][En d h k]:Er (a×b×c×d) (λR=>.tup [.d (e R.1),.d (f R.2.1),.d (g R.2.2.1),.d (h R.2.2.2)]):={}
instance{a b c d e:Type}{f:a->D}{k:Nat}{g:b->D}{l:Nat}{h:c->D}{kc:Nat}{i:d->D}{m:Nat}{j:e->D}{n:Nat}[En a f k][En b g l][En c h kc][En d i m][En e j n]:Er (a×b×c×d×e) (λR=>.tup [.d (f R.1),.d (g R.2.1),.d (h R.2.2.1),.d (i R.2.2.2.1),.d (j R.2.2.2.2)]):={}
def W0{ρ:Type}{r:ρ->AV}[Er ρ r](F:Δ ρ)(P:Η)(f:FuncId):Prop:=∀(R:ρ)(h:F=θ R),A9 P f [] (r R)
def W1{a0 ρ:Type}{e0:a0->D}{k0:Nat}{r:ρ->AV}[En a0 e0 k0][Er ρ r](F:a0->Δ ρ)(P:Η)(f:FuncId):Prop:=∀(p0:a0)(R:ρ)(h:F p0=θ R),A9 P f [.d (e0 p0)] (r R)
def W2{a0 a1 ρ:Type}{e0:a0->D}{k0:Nat}{e1:a1->D}{k1:Nat}{r:ρ->AV}[En a0 e0 k0][En a1 e1 k1][Er ρ r](F:a0->a1->Δ ρ)(P:Η)(f:FuncId):Prop:=∀(p0:a0)(p1:a1)(R:ρ)(h:F p0 p1=θ R),A9 P f [.d (e0 p0),.d (e1 p1)] (r R)
def W3{a0 a1 a2 ρ:Type}{e0:a0->D}{k0:Nat}{e1:a1->D}{k1:Nat}{e2:a2->D}{k2:Nat}{r:ρ->AV}[En a0 e0 k0][En a1 e1 k1][En a2 e2 k2][Er ρ r](F:a0->a1->a2->Δ ρ)(P:Η)(f:FuncId):Prop:=∀(p0:a0)(p1:a1)(p2:a2)(R:ρ)(h:F p0 p1 p2=θ R),A9 P f [.d (e0 p0),.d (e1 p1),.d (e2 p2)] (r R)
def W4{a0 a1 a2 a3 ρ:Type}{e0:a0->D}{k0:Nat}{e1:a1->D}{k1:Nat}{e2:a2->D}{k2:Nat}{e3:a3->D}{k3:Nat}{r:ρ->AV}[En a0 e0 k0][En a1 e1 k1][En a2 e2 k2][En a3 e3 k3][Er ρ r](F:a0->a1->a2->a3->Δ ρ)(P:Η)(f:FuncId):Prop:=∀(p0:a0)(p1:a1)(p2:a2)(p3:a3)(R:ρ)(h:F p0 p1 p2 p3=θ R),A9 P f [.d (e0 p0),.d (e1 p1),.d (e2 p2),.d (e3 p3)] (r R)
def W5{a0 a1 a2 a3 a4 ρ:Type}{e0:a0->D}{k0:Nat}{e1:a1->D}{k1:Nat}{e2:a2->D}{k2:Nat}{e3:a3->D}{k3:Nat}{e4:a4->D}{k4:Nat}{r:ρ->AV}[En a0 e0 k0][En a1 e1 k1][En a2 e2 k2][En a3 e3 k3][En a4 e4 k4][Er ρ r](F:a0->a1->a2->a3->a4->Δ ρ)(P:Η)(f:FuncId):Prop:=∀(p0:a0)(p1:a1)(p2:a2)(p3:a3)(p4:a4)(R:ρ)(h:F p0 p1 p2 p3 p4=θ R),A9 P f [.d (e0 p0),.d (e1 p1),.d (e2 p2),.d (e3 p3),.d (e4 p4)] (r R)
def W6{a0 a1 a2 a3 a4 a5 ρ:Type}{e0:a0->D}{k0:Nat}{e1:a1->D}{k1:Nat}{e2:a2->D}{k2:Nat}{e3:a3->D}{k3:Nat}{e4:a4->D}{k4:Nat}{e5:a5->D}{k5:Nat}{r:ρ->AV}[En a0 e0 k0][En a1 e1 k1][En a2 e2 k2][En a3 e3 k3][En a4 e4 k4][En a5 e5 k5][Er ρ r](F:a0->a1->a2->a3->a4->a5->Δ ρ)(P:Η)(f:FuncId):Prop:=∀(p0:a0)(p1:a1)(p2:a2)(p3:a3)(p4:a4)(p5:a5)(R:ρ)(h:F p0 p1 p2 p3 p4 p5=θ R),A9 P f [.d (e0 p0),.d (e1 p1),.d (e2 p2),.d (e3 p3),.d (e4 p4),.d (e5 p5)] (r R)
@[reducible] def oc(c:Ac):AV:=.optr [(Aq 1 (D.int .u8) c.Ay),(.j c.Aw)]
def V0{ρ:Type}{r:ρ->D}{k:Nat}[En ρ r k](F:Ac->Δ (ρ×Ac))(P:Η)(f:FuncId):Prop:=∀(c:Ac)(R:ρ×Ac)(h:F c=θ R),Et P f [oc c] [oc R.2] (.d (r R.1))
def V1{a0 ρ:Type}{e0:a0->D}{k0:Nat}{r:ρ->D}{k:Nat}[En a0 e0 k0][En ρ r k](F:Ac->a0->Δ (ρ×Ac))(P:Η)(f:FuncId):Prop:=∀(c:Ac)(p0:a0)(R:ρ×Ac)(h:F c p0=θ R),Et P f [oc c,.d (e0 p0)] [oc R.2,.any] (.d (r R.1))
def V2{a0 a1 ρ:Type}{e0:a0->D}{k0:Nat}{e1:a1->D}{k1:Nat}{r:ρ->D}{k:Nat}[En a0 e0 k0][En a1 e1 k1][En ρ r k](F:Ac->a0->a1->Δ (ρ×Ac))(P:Η)(f:FuncId):Prop:=∀(c:Ac)(p0:a0)(p1:a1)(R:ρ×Ac)(h:F c p0 p1=θ R),Et P f [oc c,.d (e0 p0),.d (e1 p1)] [oc R.2,.any,.any] (.d (r R.1))
abbrev ja(n:FuncId)(W:Η->FuncId->Prop):=CS Tryz.prog n (W Tryz.prog n)
abbrev jb{α:Type}(n:FuncId)(W:α->Η->FuncId->Prop)(F:Nat->α):=CS Tryz.prog n (∀d,W (F d) Tryz.prog n)
class LS{σ ρ:Type}(body:(σ->Option ρ)->σ->Option ρ)(n:outParam Nat)(ks:outParam (List Nat))(vs:outParam (σ->List (Nat×AV)))(kb:outParam (List Nat))(vb:outParam (σ->Bx)):Prop where
 t:True:=trivial
def zm:Γ Nat->Nat->Ω
 | [],_=>false
 | a::r,k=>match Nat.beq a k with
  | true=>true
  | false=>zm r k
def keepS(S:AS)(n:Nat)(ks:Γ Nat)(vs:Γ (Nat×AV))(kb:Γ Nat)(vb:Bx):AS:=oM n n λk=>match zm kb k with
 | true=>match zm ks k with
  | true=>⟨(An S k).av,(An S k).box,(An S k).ver⟩
  | false=>⟨ET vs k,(An S k).box,(An S k).ver⟩
 | false=>match zm ks k with
  | true=>D2 vb k (An S k).av
  | false=>D2 vb k (ET vs k)
def Adw{σ ρ:Type}{c:(σ->Δ ρ)->σ->Δ ρ}{m n:Nat}{d f:Γ Nat}{vs:σ->Γ (Nat×AV)}{vb:σ->Bx}{g:σ}{R:ρ}{S:AS}{W:(Exit->AS->Prop)->AS->Prop}{Q:Exit->AS->Prop}[LS c n d vs f vb](h:iter c m g=θ R)
 (k:∀(Φ:Nat->σ->Δ ρ)(t:Nat)(s:σ),c (Φ t) s=θ R->Gk (keepS S n d (vs s) f (vb s)) (W (λe S'=>match e with|.normal=>∃j:{p:Nat×σ//Φ p.1 p.2=θ R},Le S' (keepS S n d (vs j.1.2) f (vb j.1.2))/\j.1.1<t+1|e=>Q e S')))
 (l:Le S (keepS S n d (vs g) f (vb g)):=by exact uL):Ws S W Q:=by
 obtain⟨Φ,i,h⟩:=Aat h
 exact loop {p:Nat×σ//Φ p.1 p.2=θ R} (λp=>keepS S n d (vs p.1.2) f (vb p.1.2)) (λp=>p.1.1) ⟨(m,g),h⟩ l λ⟨⟨a,b⟩,h⟩=>by
  obtain⟨a,rfl,h⟩:=i _ _ h;exact k Φ a b h
def uB{p:Prop}(h:p:=by first|rfl|(simp only[Zac];done)|(simp only[Zac];rfl)|(simp only[Cc,AN,AF,Be,Aq,Zas,Zbm,Zac];done)|(simp only[Cc,AN,AF,Be,Aq,Zas,Zbm,Zac];rfl)):p:=h
def Ah{p:Prop}(k:p:=by
 repeat' ((conv=>whnf);first
  | exact sP ⟨(_,_),h⟩ uL
  | exact⟨⟨_,h⟩,uL⟩
  | exact⟨⟨(),h⟩,uL⟩
  | exact⟨⟨(_,_),h⟩,uL⟩
  | exact⟨⟨(_,_,_),h⟩,uL⟩
  | exact⟨⟨(_,_,_,_),h⟩,uL⟩
  | exact⟨⟨(_,_,_,_,_,_,_,_,_,_,_,_,_,_,_,_,_,_,_,_,_,_,_),h⟩,uL⟩
  | ((with_reducible have q:=isS h);(try obtain rfl:=Zaf h);(conv=>whnf);first|exact⟨uB⟩|refine⟨uB,?_⟩|refine⟨⟨rfl,rfl,uB⟩,?_⟩|refine⟨.inl ?_⟩)
  | ((with_reducible have q:=isG h);refine SU h λhr h=>?_;(conv=>whnf);first|(refine⟨by(simp only[Zac];exact CN hr (Zal (by kernel_rfl)) (.inr (by kernel_rfl))),?_⟩;try first|rw[ym]|rw[Aeh]|rw[Aei]|rw[s9]|rw[Adh]|rw[iQ]|rw[Afl]|rw[cG]|rw[je]|rw[q7]|rw[Sr]|rw[e9]|rw[qA]|rw[VY]|rw[eC]|rw[eE]|rw[it])|refine⟨Zal hr,?_⟩|(refine⟨by first|exact Zal hr|(simp only[Zac];exact Zal hr),?_⟩;(try simp only[Zac]);try rw[mU])|(refine⟨by have h1:=(Bool.and_eq_true_iff.1 hr).1;have h2:=(Bool.and_eq_true_iff.1 hr).2;simp only[Zac];exact⟨CN h1 (Zal (by kernel_rfl)) (.inr (by kernel_rfl)),λhe=>by first|(simp at he;done)|(simp at he;simp[he]at h2)⟩,?_⟩;try rw[Adh])|(refine⟨by first|exact Y7 hr (Zal (by kernel_rfl))|(simp only[Zac];exact Y7 hr (Zal (by kernel_rfl))),?_⟩;try rw[xO]))
  | refine uE h (λ_ h=>?_) λ_ h=>?_
  | refine uT (by assumption) ?_
  | refine uN (by assumption) ?_
  | refine uN (neB (by assumption)) ?_
  | refine Adw h λ_ _ s h=>?_
  | (refine Ry h λx _ h=>?_;(try first|rw[AN x]|rw[Be x]))
  | refine uR h λx hx h=>?_
  | (refine uG hx ?_;try first|(conv=>whnf;rw[Aeg])|rw[bh])
  | refine E5 h (λx hx=>by first|(apply ih;exact hx)|(apply ih1;exact hx)|(apply ih2;exact hx)|(apply ih3;exact hx)|exact cZ λq=>by first|exact q (h:=hx)|(apply q;exact hx)|(apply q;(intro _ _ h;exact cZ λq=>by first|exact q (h:=h)|(apply q;exact h));exact hx)) λx h=>?_
  | refine iD h (λx hx=>by first|(apply ih;exact hx)|(apply ih1;exact hx)|(apply ih2;exact hx)|(apply ih3;exact hx)|exact Aap λq=>by first|exact q (h:=hx)|(apply q;exact hx)|(apply q;(intro _ _ h;exact cZ λq=>by first|exact q (h:=h)|(apply q;exact h));exact hx)) λx h=>?_
  | refine uW h (λx hx=>ZF λq=>by first|exact q (h:=hx)|(apply q;exact hx)) λx h=>?_
  | (simp only[Zac];refine E5 h (λx hx=>cZ λq=>by first|exact q (h:=hx)|(apply q;exact hx)|(apply q;(intro _ _ h;exact cZ λq=>by first|exact q (h:=h)|(apply q;exact h));exact hx)) λx h=>?_)
  | (simp only[Zac];refine iD h (λx hx=>Aap λq=>by first|exact q (h:=hx)|(apply q;exact hx)|(apply q;(intro _ _ h;exact cZ λq=>by first|exact q (h:=h)|(apply q;exact h));exact hx)) λx h=>?_)
  | (rw[ZI];(conv=>whnf);refine E5 h (λx hx=>by first|(apply h_p1;exact hx)|(apply h_p2;exact hx)|(apply h_p3;exact hx)|(apply h_p4;exact hx)|(apply h_p5;exact hx)) λx h=>?_)
  | refine⟨⟨by decide +kernel,by kernel_rfl⟩,?_⟩
  | refine⟨⟨by kernel_rfl,by kernel_rfl⟩,?_⟩
  | refine⟨by kernel_rfl,?_⟩
  | refine⟨z0,?_⟩
  | refine⟨.inl ?_⟩)):p:=k
def uH{P:Η}{f:FuncId}{fn:Func}{args:Γ AV}{r:AV}(b:P.funcs[f]?=some fn)(hr:Abb P fn args r:=by exact Ah)(a:(fn.name == "runtime.NumGoroutine")=false:=by kernel_rfl):A9 P f args r:=UA b a hr
def uI{P:Η}{f:FuncId}{fn:Func}{args a:Γ AV}{r:AV}(e:P.funcs[f]?=some fn)(hr:Aal P fn args a r:=by exact Ah)(c:lh args a:=by exact uz)(d:Ξ a=Ξ args:=by rfl)(b:(fn.name == "runtime.NumGoroutine")=false:=by kernel_rfl):Et P f args a r:=uF e hr c d b
def uJ{ρ:Type}{b a:Ω}{x y:Prop}{X Y:Δ ρ}{R:ρ}(h:(bif a then X else Y)=some R)(h2:Y=some R->y)(h1:X=some R->x:=by intro h;exact Ah)(e:b=a:=by first|rfl|simp only[Zac,Zav,Zaq]):Bool.rec y x b:=YX h e h1 h2
abbrev ua(x:A6):AV:=.cc none [.l 2 Ak x.N.Ak.S,.l 7 Aw x.N.Ak.A,.t x.N.U.Aq,.i x.N.U.As,.l 2 Af x.N.U.I,.l 1 (Aq 1 D.z) x.N.U.G,.own 26 74 (List.map A2 x.A5)]
abbrev uq:=Int×Int×Γ Ab×Int×Γ Ap×Int×Γ Int×Γ A1×Int×Int×Int×Int×Int×Int×Γ Aj×Γ Co×Int×Int×Int×Int×Int×Int×Γ Int
abbrev ur{β}(F:Int->Int->Γ Ab->Int->Γ Ap->Int->Γ Int->Γ A1->Int->Int->Int->Int->Int->Int->Γ Aj->Γ Co->Int->Int->Int->Int->Int->Int->Γ Int->β)(p:uq):=F p.1 p.2.1 p.2.2.1 p.2.2.2.1 p.2.2.2.2.1 p.2.2.2.2.2.1 p.2.2.2.2.2.2.1 p.2.2.2.2.2.2.2.1 p.2.2.2.2.2.2.2.2.1 p.2.2.2.2.2.2.2.2.2.1 p.2.2.2.2.2.2.2.2.2.2.1 p.2.2.2.2.2.2.2.2.2.2.2.1 p.2.2.2.2.2.2.2.2.2.2.2.2.1 p.2.2.2.2.2.2.2.2.2.2.2.2.2.1 p.2.2.2.2.2.2.2.2.2.2.2.2.2.2.1 p.2.2.2.2.2.2.2.2.2.2.2.2.2.2.2.1 p.2.2.2.2.2.2.2.2.2.2.2.2.2.2.2.2.1 p.2.2.2.2.2.2.2.2.2.2.2.2.2.2.2.2.2.1 p.2.2.2.2.2.2.2.2.2.2.2.2.2.2.2.2.2.2.1 p.2.2.2.2.2.2.2.2.2.2.2.2.2.2.2.2.2.2.2.1 p.2.2.2.2.2.2.2.2.2.2.2.2.2.2.2.2.2.2.2.2.1 p.2.2.2.2.2.2.2.2.2.2.2.2.2.2.2.2.2.2.2.2.2.1 p.2.2.2.2.2.2.2.2.2.2.2.2.2.2.2.2.2.2.2.2.2.2
abbrev uQ(p:uq):Γ Go.Abs.C:=[.i p.2.1,.i 0,.i 0,.l 2 Af p.2.2.1,.i p.2.2.2.1,.l 7 A7 p.2.2.2.2.1,.i p.2.2.2.2.2.1,.l 1 D.z p.2.2.2.2.2.2.1,.l 2 De p.2.2.2.2.2.2.2.1,.i p.2.2.2.2.2.2.2.2.1,.i p.2.2.2.2.2.2.2.2.2.1,.i p.2.2.2.2.2.2.2.2.2.2.1,.i p.2.2.2.2.2.2.2.2.2.2.2.1,.i p.2.2.2.2.2.2.2.2.2.2.2.2.1,.i p.2.2.2.2.2.2.2.2.2.2.2.2.2.1,.l 6 AO p.2.2.2.2.2.2.2.2.2.2.2.2.2.2.1,.l 2 C7 p.2.2.2.2.2.2.2.2.2.2.2.2.2.2.2.1,.i p.2.2.2.2.2.2.2.2.2.2.2.2.2.2.2.2.1,.i p.2.2.2.2.2.2.2.2.2.2.2.2.2.2.2.2.2.1,.i p.2.2.2.2.2.2.2.2.2.2.2.2.2.2.2.2.2.2.1,.i p.2.2.2.2.2.2.2.2.2.2.2.2.2.2.2.2.2.2.2.1,.i p.2.2.2.2.2.2.2.2.2.2.2.2.2.2.2.2.2.2.2.2.1,.i p.2.2.2.2.2.2.2.2.2.2.2.2.2.2.2.2.2.2.2.2.2.1,.l 1 D.z p.2.2.2.2.2.2.2.2.2.2.2.2.2.2.2.2.2.2.2.2.2.2]
abbrev zAV:Γ Go.Abs.C:=[.i 0,.i 0,.i 0,.n 2,.i 0,.n 7,.i 0,.n 1,.n 2,.i 0,.i 0,.i 0,.i 0,.i 0,.i 0,.n 6,.n 2,.i 0,.i 0,.i 0,.i 0,.i 0,.i 0,.n 1]
abbrev zMV:Γ Go.Abs.C:=[.i 0,.n 1,.n 2,.i 0,.i 0,.i 0,.i 0,.i 0,.i 0]
abbrev zTV:Γ Go.Abs.C:=[.n 2,.i 0,.n 7]
