/- P3U -/
import Derived.Test.YthchnhoalhbkcaaGreatDoorM4
set_option linter.unusedSimpArgs false
set_option linter.unusedVariables false
namespace Go.Proofs.YthchnhoalhbkcaaGreatDoor.P
open Go.Abs Go.Proofs
class CS(P:Program)(f:FuncId)(S:outParam Prop):Prop where
 h:S
theorem Vj{P:Program}{f:FuncId}{S:Prop}{args:List AV}{r:AV}[i:CS P f S](k:S->Ax P f args r):Ax P f args r:=k i.h
theorem mX{P:Program}{f:FuncId}{S:Prop}{args outs:List AV}{r:AV}[i:CS P f S](k:S->Dl P f args outs r):Dl P f args outs r:=k i.h
theorem pV{ρ:Type}{E R:ρ}(h:some E=some R):True:=trivial
theorem pU{ρ:Type}{b:Bool}{x:Option ρ}{R:ρ}(h:(bif b then x else none)=some R):True:=trivial
theorem uE{ρ:Type}{b b':Bool}{x y:Prop}{X Y:Option ρ}{R:ρ}(h:(bif b' then X else Y)=some R)(h1:b'=true->X=some R->x)(h2:b'=false->Y=some R->y)(e:b=b':=by first|rfl|simp only[pX,qK,q9]):Bool.rec y x b:=lC h e h1 h2
theorem uT{b b':Bool}{x y:Prop}(h:b'=true)(k:x)(e:b=b':=by first|rfl|simp only[pX,qK,q9]):Bool.rec y x b:=lL e h k
theorem uN{b b':Bool}{x y:Prop}(h:b'=false)(k:y)(e:b=b':=by first|rfl|simp only[pX,qK,q9]):Bool.rec y x b:=oH e h k
theorem uA{α ρ:Type}{m:Option α}{G:α->Option ρ}{R:ρ}{P:Program}{f:FuncId}{nils:List Nat}{args margs:List AV}{K:AV->Prop}{KM:List AV->AV->Prop}{r:α->AV}(h:m.bind G=some R)(c:∀x,m=some x->Ax P f args (r x))(k:∀x,G x=some R->K (r x)):Hs P f nils args K margs KM:=by
 obtain⟨x,hx,h⟩:=Vi h;exact A0 (c x hx) (k x h)
theorem uM{α ρ:Type}{m:Option α}{G:α->Option ρ}{R:ρ}{P:Program}{f:FuncId}{nils:List Nat}{args margs:List AV}{K:AV->Prop}{KM:List AV->AV->Prop}{outs:α->List AV}{r:α->AV}(h:m.bind G=some R)(c:∀x,m=some x->Dl P f margs (outs x) (r x))(k:∀x,G x=some R->KM (outs x) (r x)):Hs P f nils args K margs KM:=by
 obtain⟨x,hx,h⟩:=Vi h;exact Hm (c x hx) (k x h)
theorem uX{α ρ:Type}{xs:List α}{i j:Int}{f:α->D}{K:D->Prop}{G:α->Option ρ}{R:ρ}(h:(idx xs i).bind G=some R)(k:∀x,idx xs i=some x->G x=some R->K (f x))(e:j=i:=by first|rfl|simp only[pX,qK,q9]):At (xs.map f) j K:=oA h e k
theorem uW{α ρ:Type}{m:Option α}{G:α->Option ρ}{R:ρ}{P:Program}{f:FuncId}{args:List AV}{k sz:Nat}{e:TypeId}{xs:List D}{K:List D->Prop}{ys:α->List D}(h:m.bind G=some R)(c:∀x,m=some x->UZ P f args k sz e xs (ys x))(k':∀x,G x=some R->K (ys x)):ZZ P f args k sz e xs K:=by
 obtain⟨x,hx,h⟩:=Vi h;exact Vk (c x hx) (k' x h)
def Ih(x:Ab):B6:=.var [.d (An 1 (D.int .u8) x.Ak),.d (.int .i64 x.Ai)]
def Kx(x:Am):B6:=.var [.d (.str x.H),.d (An 2 DT x.Q)]
def P7(x:Ar):B6:=.var [.d (.str x.H),.d (.int .i64 x.Kind),.d (.int .i64 x.Al),.d (.int .i64 x.C),.d (.int .i64 x.D),.d (An 1 (D.int .i64) x.T),.d (.bool x.Az)]
def Bh(x:Aa):B6:=.var [.d (An 2 Ah x.J),.d (An 7 Al x.A)]
def P8(x:BW):B6:=.var [.d (An 2 Ah x.Ao.J),.d (An 7 Al x.Ao.A),.d (An 1 (An 1 (D.int .i64)) x.G),.d (An 1 (D.int .i64) x.Bo),.d (.int .i64 x.Ag)]
def OU(x:Aj):B6:=.var [.d (.int .i64 x.Op),.d (.int .i64 x.B),.d (.int .i64 x.Z),.d (.int .i64 x.C),.d (.int .i64 x.D),.d (An 6 A4 x.E)]
def Ra(x:BA):B6:=.var [.d (.str x.H),.d (.int .i64 x.Kind),.d (.int .i64 x.Bc.Op),.d (.int .i64 x.Bc.B),.d (.int .i64 x.Bc.Z),.d (.int .i64 x.Bc.C),.d (.int .i64 x.Bc.D),.d (An 6 A4 x.Bc.E),.d (An 2 Ag x.Ac),.d (.int .i64 x.Ah),.d (An 1 (D.int .i64) x.Aw),.d (.int .i64 x.U.Op),.d (.int .i64 x.U.B),.d (.int .i64 x.U.Z),.d (.int .i64 x.U.C),.d (.int .i64 x.U.D),.d (An 6 A4 x.U.E)]
def NT(x:AY):B6:=.var [.d (.str x.Af),.d (.str x.Bu),.d (.int .i64 x.Bd.Op),.d (.int .i64 x.Bd.B),.d (.int .i64 x.Bd.Z),.d (.int .i64 x.Bd.C),.d (.int .i64 x.Bd.D),.d (An 6 A4 x.Bd.E),.d (.int .i64 x.Be.Bl),.d (.int .i64 x.Be.Of),.d (.int .i64 x.Be.Bm),.d (An 17 DL x.Bn)]
def E7(x:As):B6:=.var [.d (.str x.Af),.d (.int .i64 x.Ag),.d (An 2 Ag x.X),.d (An 1 (An 1 (D.int .i64)) x.G)]
def UV(x:Ap):B6:=.var [.d (.int .i64 x.Op),.d (.int .i64 x.L),.d (.str x.H),.d (.int .i64 x.B),.d (An 1 (D.int .i64) x.A),.d (An 2 Ag x.Ac),.d (.int .i64 x.V.Op),.d (.int .i64 x.V.B),.d (.int .i64 x.V.Z),.d (.int .i64 x.V.C),.d (.int .i64 x.V.D),.d (An 6 A4 x.V.E),.d (.int .i64 x.U.Op),.d (.int .i64 x.U.B),.d (.int .i64 x.U.Z),.d (.int .i64 x.U.C),.d (.int .i64 x.U.D),.d (An 6 A4 x.U.E),.d (An 19 Cg x.E)]
def UU(x:AW):B6:=.var [.d (.bool x.Bt),.d (.bool x.Br),.d (.bool x.Bp),.d (.bool x.Bv),.d (.bool x.Bw),.d (.bool x.Bk),.d (.bool x.Bq)]
def Tc(x:Ay):B6:=.var [.d (An 2 Ah x.I.Ae.J),.d (An 7 Al x.I.Ae.A),.d (.str x.I.K.Af),.d (.int .i64 x.I.K.Ag),.d (An 2 Ag x.I.K.X),.d (An 1 (An 1 (D.int .i64)) x.I.K.G),.d (An 26 A3 x.Ax)]
def NU(x:AM):B6:=.var [.d (.int .u64 x.D),.d (.int .u64 x.C)]
theorem uD{P:Program}{f:FuncId}{fn:Func}{args:List AV}{r:AV}(hf:P.funcs[f]?=some fn)(hr:nA P fn args r)(hname:(fn.name == "runtime.NumGoroutine")=false:=by kernel_rfl):Ax P f args r:=Da hf hname hr
theorem Uv{P:Program}(J:List Nat){f:FuncId}{fn:Func}{args:List AV}{r:AV}(hf:P.funcs[f]?=some fn)(hr:ZY P J fn args r)(hname:(fn.name == "runtime.NumGoroutine")=false:=by kernel_rfl):Ax P f args r:=Ux J hf hname hr
def Zu(args outs:List AV):Prop:=∀(i:Nat) x y,args[i]?=some x->outs[i]?=some y->match y with
 | .own sz e _=>∃xs,x=.own sz e xs
 | .optr cs=>∃cs',x=.optr cs'/\cs.length=cs'.length
 | .cc _ l=>∃(ds:List D)(sz:Nat)(e:TypeId)(xs ys:List D),x=.cc none (ds.map .d++[.own sz e xs])/\l=ds.map .d++[.own sz e ys]
 | _=>True
theorem fb:Zu [] []:=λi x y h=>by cases h
theorem fa{x:AV}{a o:List AV}(h:Zu a o):Zu (x :: a) (.any :: o):=λi u v h1 h2=>by
 cases i with
 | zero=>cases h2;trivial
 | succ i=>exact h i u v h1 h2
theorem fc{sz:Nat}{e:TypeId}{xs ys:List D}{a o:List AV}(h:Zu a o):Zu (.own sz e xs :: a) (.own sz e ys :: o):=λi u v h1 h2=>by
 cases i with
 | zero=>cases h1;cases h2;exact⟨_,rfl⟩
 | succ i=>exact h i u v h1 h2
theorem fe{cs cs':List D}{a o:List AV}(h:Zu a o)(hl:cs.length=cs'.length:=by rfl):Zu (.optr cs' :: a) (.optr cs :: o):=λi u v h1 h2=>by
 cases i with
 | zero=>cases h1;cases h2;exact⟨_,rfl,hl⟩
 | succ i=>exact h i u v h1 h2
theorem uF{P:Program}{f:FuncId}{fn:Func}{args outs:List AV}{r:AV}(hf:P.funcs[f]?=some fn)(hr:mS P fn args outs r)(hfit:Zu args outs:=by repeat (first|exact fb|refine fa ?_|refine fc ?_|refine fe ?_))(hol:outs.length=args.length:=by rfl)(hname:(fn.name == "runtime.NumGoroutine")=false:=by kernel_rfl):Dl P f args outs r:=bK hf hname hol hfit hr
theorem pn{P:Program}(J:List Nat){f:FuncId}{fn:Func}{args outs:List AV}{r:AV}(hf:P.funcs[f]?=some fn)(hr:Wn P J fn args outs r)(hfit:Zu args outs:=by repeat (first|exact fb|refine fa ?_|refine fc ?_|refine fe ?_))(hol:outs.length=args.length:=by rfl)(hname:(fn.name == "runtime.NumGoroutine")=false:=by kernel_rfl):Dl P f args outs r:=dB J hf hname hol hfit hr
theorem Tq{P:Program}{f:FuncId}{S:Prop}{args:List AV}{k sz:Nat}{e:TypeId}{xs ys:List D}[i:CS P f S](q:S->UZ P f args k sz e xs ys):UZ P f args k sz e xs ys:=q i.h
theorem uR{α ρ:Type}{xs:List α}{f:α->D}{i j:Int}{k:Prop}{G:α->Option ρ}{R:ρ}(h:(idx xs i).bind G=some R)(hk:∀x,idx xs i=some x->G x=some R->k)(e:j=i:=by first|rfl|simp only[pX,qK,q9]):JA (0<=j/\j.toNat<(xs.map f).length) k:=OQ h e hk
theorem uG{α:Type}{xs:List α}{i j:Int}{x:α}{f:α->D}{K:D->Prop}(h:idx xs i=some x)(k:K (f x))(e:j=((i.toNat:Nat):Int):=by first|rfl|simp only[pX,qK,q9]):At (xs.map f) j K:=Yo h e k
theorem uL{S S':AS}(h:Es S' (λS'=>Le S S'):=by(conv=>whnf);repeat (first|exact trivial|refine And.intro (by first|with_reducible rfl|rfl|exact .inl rfl|exact .inr rfl|(simp only[pX];done)|(simp only[pX];rfl)|(simp only[BX,AX,AO,Bm,An,qk,qH,pX];done)|(simp only[BX,AX,AO,Bm,An,qk,qH,pX];rfl)|(simp only[qx,qk,qH];rfl)) ?_)):Le S S':=Rp h
theorem uC{ι:Type}{Inv:ι->AS}{μ:ι->Nat}{S:AS}{m:Nat}(j:ι)(h:Le S (Inv j))(k:μ j<m:=by exact rx _):∃j,Le S (Inv j)/\μ j<m:=⟨j,h,k⟩
class En(α:Type)(e:outParam (α->D))(k:outParam Nat):Prop where
 t:True
instance:En Int (D.int .i64) 1:=⟨trivial⟩
instance:En Bool D.bool 1:=⟨trivial⟩
instance:En ByteArray D.str 1:=⟨trivial⟩
instance {α:Type}{e:α->D}{k:Nat}[En α e k]:En (List α) (An k e) 1:=⟨trivial⟩
instance:En D4 Cd 2:=⟨trivial⟩
instance:En A9 A3 26:=⟨trivial⟩
instance:En Oo Rh 1:=⟨trivial⟩
instance:En DG DT 2:=⟨trivial⟩
instance:En Am Ah 2:=⟨trivial⟩
instance:En Ar Al 7:=⟨trivial⟩
instance:En Ba By 6:=⟨trivial⟩
instance:En AY Ft 1:=⟨trivial⟩
instance:En As Do 1:=⟨trivial⟩
instance:En AI Bq 2:=⟨trivial⟩
instance:En Cf Mz 1:=⟨trivial⟩
instance:En Ad Ag 2:=⟨trivial⟩
instance:En BA DL 17:=⟨trivial⟩
instance:En Ii KA 1:=⟨trivial⟩
instance:En Aa Cq 1:=⟨trivial⟩
instance:En BW Jk 1:=⟨trivial⟩
instance:En Au B5 21:=⟨trivial⟩
instance:En D5 Hc 1:=⟨trivial⟩
instance:En Aq A6 7:=⟨trivial⟩
instance:En AA CQ 1:=⟨trivial⟩
instance:En Ab Ik 1:=⟨trivial⟩
instance:En AM BH 1:=⟨trivial⟩
instance:En DJ EA 1:=⟨trivial⟩
instance:En Ay EB 1:=⟨trivial⟩
instance:En AW Gg 1:=⟨trivial⟩
instance:En Aj BX 6:=⟨trivial⟩
instance:En (List Aj) (An 6 A4) 1:=⟨trivial⟩
instance:En Ap AO 19:=⟨trivial⟩
instance:En (List Ap) (An 19 Cg) 1:=⟨trivial⟩
class Er(α:Type)(r:outParam (α->AV)):Prop where
 t:True
instance {a:Type}{e:a->D}{k:Nat}[En a e k]:Er a (λR=>.d (e R)):=⟨trivial⟩
instance {a b:Type}{ea:a->D}{ka:Nat}{eb:b->D}{kb:Nat}[En a ea ka][En b eb kb]:Er (a×b) (λR=>.tup [.d (ea R.1),.d (eb R.2)]):=⟨trivial⟩
instance {a b c:Type}{ea:a->D}{ka:Nat}{eb:b->D}{kb:Nat}{ec:c->D}{kc:Nat}[En a ea ka][En b eb kb][En c ec kc]:Er (a×b×c) (λR=>.tup [.d (ea R.1),.d (eb R.2.1),.d (ec R.2.2)]):=⟨trivial⟩
instance {a b c d:Type}{ea:a->D}{ka:Nat}{eb:b->D}{kb:Nat}{ec:c->D}{kc:Nat}{ed:d->D}{kd:Nat}[En a ea ka][En b eb kb][En c ec kc][En d ed kd]:Er (a×b×c×d) (λR=>.tup [.d (ea R.1),.d (eb R.2.1),.d (ec R.2.2.1),.d (ed R.2.2.2)]):=⟨trivial⟩
instance {a b c d e:Type}{ea:a->D}{ka:Nat}{eb:b->D}{kb:Nat}{ec:c->D}{kc:Nat}{ed:d->D}{kd:Nat}{ee:e->D}{ke:Nat}[En a ea ka][En b eb kb][En c ec kc][En d ed kd][En e ee ke]:Er (a×b×c×d×e) (λR=>.tup [.d (ea R.1),.d (eb R.2.1),.d (ec R.2.2.1),.d (ed R.2.2.2.1),.d (ee R.2.2.2.2)]):=⟨trivial⟩
def W0{ρ:Type}{r:ρ->AV}[Er ρ r](P:Program)(f:FuncId)(F:Option ρ):Prop:=∀(R:ρ)(h:F=some R),Ax P f [] (r R)
def W1{a0 ρ:Type}{e0:a0->D}{k0:Nat}{r:ρ->AV}[En a0 e0 k0][Er ρ r](P:Program)(f:FuncId)(F:a0->Option ρ):Prop:=∀(p0:a0)(R:ρ)(h:F p0=some R),Ax P f [.d (e0 p0)] (r R)
def W2{a0 a1 ρ:Type}{e0:a0->D}{k0:Nat}{e1:a1->D}{k1:Nat}{r:ρ->AV}[En a0 e0 k0][En a1 e1 k1][Er ρ r](P:Program)(f:FuncId)(F:a0->a1->Option ρ):Prop:=∀(p0:a0)(p1:a1)(R:ρ)(h:F p0 p1=some R),Ax P f [.d (e0 p0),.d (e1 p1)] (r R)
def W3{a0 a1 a2 ρ:Type}{e0:a0->D}{k0:Nat}{e1:a1->D}{k1:Nat}{e2:a2->D}{k2:Nat}{r:ρ->AV}[En a0 e0 k0][En a1 e1 k1][En a2 e2 k2][Er ρ r](P:Program)(f:FuncId)(F:a0->a1->a2->Option ρ):Prop:=∀(p0:a0)(p1:a1)(p2:a2)(R:ρ)(h:F p0 p1 p2=some R),Ax P f [.d (e0 p0),.d (e1 p1),.d (e2 p2)] (r R)
def W4{a0 a1 a2 a3 ρ:Type}{e0:a0->D}{k0:Nat}{e1:a1->D}{k1:Nat}{e2:a2->D}{k2:Nat}{e3:a3->D}{k3:Nat}{r:ρ->AV}[En a0 e0 k0][En a1 e1 k1][En a2 e2 k2][En a3 e3 k3][Er ρ r](P:Program)(f:FuncId)(F:a0->a1->a2->a3->Option ρ):Prop:=∀(p0:a0)(p1:a1)(p2:a2)(p3:a3)(R:ρ)(h:F p0 p1 p2 p3=some R),Ax P f [.d (e0 p0),.d (e1 p1),.d (e2 p2),.d (e3 p3)] (r R)
def W5{a0 a1 a2 a3 a4 ρ:Type}{e0:a0->D}{k0:Nat}{e1:a1->D}{k1:Nat}{e2:a2->D}{k2:Nat}{e3:a3->D}{k3:Nat}{e4:a4->D}{k4:Nat}{r:ρ->AV}[En a0 e0 k0][En a1 e1 k1][En a2 e2 k2][En a3 e3 k3][En a4 e4 k4][Er ρ r](P:Program)(f:FuncId)(F:a0->a1->a2->a3->a4->Option ρ):Prop:=∀(p0:a0)(p1:a1)(p2:a2)(p3:a3)(p4:a4)(R:ρ)(h:F p0 p1 p2 p3 p4=some R),Ax P f [.d (e0 p0),.d (e1 p1),.d (e2 p2),.d (e3 p3),.d (e4 p4)] (r R)
def W6{a0 a1 a2 a3 a4 a5 ρ:Type}{e0:a0->D}{k0:Nat}{e1:a1->D}{k1:Nat}{e2:a2->D}{k2:Nat}{e3:a3->D}{k3:Nat}{e4:a4->D}{k4:Nat}{e5:a5->D}{k5:Nat}{r:ρ->AV}[En a0 e0 k0][En a1 e1 k1][En a2 e2 k2][En a3 e3 k3][En a4 e4 k4][En a5 e5 k5][Er ρ r](P:Program)(f:FuncId)(F:a0->a1->a2->a3->a4->a5->Option ρ):Prop:=∀(p0:a0)(p1:a1)(p2:a2)(p3:a3)(p4:a4)(p5:a5)(R:ρ)(h:F p0 p1 p2 p3 p4 p5=some R),Ax P f [.d (e0 p0),.d (e1 p1),.d (e2 p2),.d (e3 p3),.d (e4 p4),.d (e5 p5)] (r R)
@[reducible] def oc(c:Ab):AV:=.optr [(An 1 (D.int .u8) c.Ak),(.int .i64 c.Ai)]
def V0{ρ:Type}{r:ρ->D}{k:Nat}[En ρ r k](P:Program)(f:FuncId)(F:Ab->Option (ρ×Ab)):Prop:=∀(c:Ab)(R:ρ×Ab)(h:F c=some R),Dl P f [oc c] [oc R.2] (.d (r R.1))
def V1{a0 ρ:Type}{e0:a0->D}{k0:Nat}{r:ρ->D}{k:Nat}[En a0 e0 k0][En ρ r k](P:Program)(f:FuncId)(F:Ab->a0->Option (ρ×Ab)):Prop:=∀(c:Ab)(p0:a0)(R:ρ×Ab)(h:F c p0=some R),Dl P f [oc c,.d (e0 p0)] [oc R.2,.any] (.d (r R.1))
def V2{a0 a1 ρ:Type}{e0:a0->D}{k0:Nat}{e1:a1->D}{k1:Nat}{r:ρ->D}{k:Nat}[En a0 e0 k0][En a1 e1 k1][En ρ r k](P:Program)(f:FuncId)(F:Ab->a0->a1->Option (ρ×Ab)):Prop:=∀(c:Ab)(p0:a0)(p1:a1)(R:ρ×Ab)(h:F c p0 p1=some R),Dl P f [oc c,.d (e0 p0),.d (e1 p1)] [oc R.2,.any,.any] (.d (r R.1))
class LS{σ ρ:Type}(body:(σ->Option ρ)->σ->Option ρ)(n:outParam Nat)(ks:outParam (List Nat))(vs:outParam (σ->List (Nat×AV)))(kb:outParam (List Nat))(vb:outParam (σ->Bx)):Prop where
 t:True
def mf:List Nat->Nat->Bool
 | [],_=>false
 | a :: r,k=>match Nat.beq a k with
  | true=>true
  | false=>mf r k
def keepS(S:AS)(n:Nat)(ks:List Nat)(vs:List (Nat×AV))(kb:List Nat)(vb:Bx):AS:=ct n n λk=>match mf kb k with
 | true=>match mf ks k with
  | true=>⟨(Af S k).av,(Af S k).box,(Af S k).ver⟩
  | false=>⟨Dp vs k,(Af S k).box,(Af S k).ver⟩
 | false=>match mf ks k with
  | true=>Cn vb k (Af S k).av
  | false=>Cn vb k (Dp vs k)
theorem oR{σ ρ:Type}{body:(σ->Option ρ)->σ->Option ρ}{m n:Nat}{ks kb:List Nat}{vs:σ->List (Nat×AV)}{vb:σ->Bx}{s0:σ}{R:ρ}{S:AS}{W:(Exit->AS->Prop)->AS->Prop}{Q:Exit->AS->Prop}[LS body n ks vs kb vb](h:iter body m s0=some R)
 (k:∀(Φ:Nat->σ->Option ρ)(t:Nat)(s:σ),body (Φ t) s=some R->Es (keepS S n ks (vs s) kb (vb s)) (W (λe S'=>match e with|.normal=>∃j:{p:Nat×σ // Φ p.1 p.2=some R},Le S' (keepS S n ks (vs j.1.2) kb (vb j.1.2))/\j.1.1<t+1|e=>Q e S')))
 (hl:Le S (keepS S n ks (vs s0) kb (vb s0)):=by exact uL):Qf S W Q:=by
 obtain⟨Φ,i,h⟩:=mZ h
 exact loop {p:Nat×σ // Φ p.1 p.2=some R} (λp=>keepS S n ks (vs p.1.2) kb (vb p.1.2)) (λp=>p.1.1) ⟨(m,s0),h⟩ hl λ⟨⟨a,b⟩,h⟩=>by
  obtain⟨a,rfl,h⟩:=i _ _ h;exact k Φ a b h
theorem Ao{p:Prop}(k:p:=by
 repeat' ((conv=>whnf);first
  | exact uC ⟨(_,_),h⟩ uL
  | exact⟨⟨_,h⟩,uL⟩
  | exact⟨⟨(),h⟩,uL⟩
  | exact⟨⟨(_,_),h⟩,uL⟩
  | exact⟨⟨(_,_,_),h⟩,uL⟩
  | exact⟨⟨(_,_,_,_),h⟩,uL⟩
  | ((with_reducible have q:=pV h);(try obtain rfl:=P3 h);(conv=>whnf);first|exact⟨by first|rfl|(simp only[pX];done)|(simp only[pX];rfl)|(simp only[BX,AX,AO,Bm,An,qk,qH,pX];done)|(simp only[BX,AX,AO,Bm,An,qk,qH,pX];rfl)⟩|refine⟨by first|rfl|(simp only[pX];done)|(simp only[pX];rfl)|(simp only[BX,AX,AO,Bm,An,qk,qH,pX];done)|(simp only[BX,AX,AO,Bm,An,qk,qH,pX];rfl),?_⟩|refine⟨⟨rfl,rfl,by first|rfl|(simp only[pX];done)|(simp only[pX];rfl)|(simp only[BX,AX,AO,Bm,An,qk,qH,pX];done)|(simp only[BX,AX,AO,Bm,An,qk,qH,pX];rfl)⟩,?_⟩|refine⟨.inl ?_⟩)
  | ((with_reducible have q:=pU h);refine Te h λhr h=>?_;(conv=>whnf);first|(refine⟨by(simp only[pX];exact CG hr (pZ (by kernel_rfl)) (.inr (by kernel_rfl))),?_⟩;try first|rw[kW]|rw[pc]|rw[pd]|rw[fN]|rw[oF]|rw[mi]|rw[pE]|rw[UR]|rw[Yf]|rw[i8]|rw[dR]|rw[X7]|rw[Mu]|rw[dT]|rw[VX]|rw[Uo]|rw[dU]|rw[Yg]|rw[dV]|rw[cg]|rw[P5]|rw[X8]|rw[ZK]|rw[ZL]|rw[ZM]|rw[VY]|rw[cm]|rw[VZ]|rw[cn]|rw[X9]|rw[Up]|rw[Ta]|rw[Tb]|rw[US])|refine⟨pZ hr,?_⟩|(refine⟨by first|exact pZ hr|(simp only[pX];exact pZ hr),?_⟩;(try simp only[pX]);try rw[nK])|(refine⟨by have h1:=(Bool.and_eq_true_iff.1 hr).1;have h2:=(Bool.and_eq_true_iff.1 hr).2;simp only[pX];exact⟨CG h1 (pZ (by kernel_rfl)) (.inr (by kernel_rfl)),λhe=>by first|(simp at he;done)|(simp at he;simp[he]at h2)⟩,?_⟩;try rw[oF])|(refine⟨by first|exact V7 hr (pZ (by kernel_rfl))|(simp only[pX];exact V7 hr (pZ (by kernel_rfl))),?_⟩;try rw[mw]))
  | refine uE h (λ_ h=>?_) λ_ h=>?_
  | refine uT (by assumption) ?_
  | refine uN (by assumption) ?_
  | refine uN (pm (by assumption)) ?_
  | refine oR h λ_ _ s h=>?_
  | (refine uX h λx _ h=>?_;(try first|rw[AX x]|rw[Bm x]))
  | refine uR h λx hx h=>?_
  | (refine uG hx ?_;try first|(conv=>whnf;rw[pb])|rw[Ul]|rw[ZG]|rw[kT]|rw[iv]|rw[Yc]|rw[bY]|rw[iw]|rw[X3]|rw[UO]|rw[iy]|rw[ZH]|rw[iz]|rw[dN]|rw[i6]|rw[Yd]|rw[bZ]|rw[ca]|rw[cd]|rw[X4]|rw[dO]|rw[X5]|rw[dP]|rw[Ye]|rw[UP]|rw[Um]|rw[Un]|rw[VW])
  | refine uA h (λx hx=>by first|exact ih _ hx|exact ih _ _ hx|exact ih _ _ _ hx|exact ih _ _ _ _ hx|exact ih1 _ hx|exact ih1 _ _ hx|exact ih1 _ _ _ hx|exact ih1 _ _ _ _ hx|exact ih2 _ hx|exact ih2 _ _ hx|exact ih2 _ _ _ hx|exact ih2 _ _ _ _ hx|exact ih3 _ hx|exact ih3 _ _ hx|exact ih3 _ _ _ hx|exact ih3 _ _ _ _ hx|exact Vj λq=>(by first|exact q hx|exact q _ hx|exact q _ _ hx|exact q _ _ _ hx|exact q _ _ _ _ hx|exact q _ _ _ _ _ hx|exact q _ _ _ _ _ _ hx|exact q _ _ _ _ _ _ _ hx|exact q _ _ _ _ _ _ _ _ hx|exact q _ _ _ _ _ _ _ _ _ hx|exact q _ _ _ _ _ _ _ _ _ _ hx|exact q _ _ _ _ _ _ _ _ _ _ _ hx|exact q _ _ _ _ _ _ _ _ _ _ _ _ hx|exact q _ _ _ _ _ (by intro _ _ h;exact Vj λq=>(by first|exact q h|exact q _ h|exact q _ _ h|exact q _ _ _ h|exact q _ _ _ _ h|exact q _ _ _ _ _ h|exact q _ _ _ _ _ _ h|exact q _ _ _ _ _ _ _ h)) hx|exact q _ _ _ _ _ _ (by intro _ _ h;exact Vj λq=>(by first|exact q h|exact q _ h|exact q _ _ h|exact q _ _ _ h|exact q _ _ _ _ h|exact q _ _ _ _ _ h|exact q _ _ _ _ _ _ h|exact q _ _ _ _ _ _ _ h)) hx|exact q _ _ _ _ _ _ _ (by intro _ _ h;exact Vj λq=>(by first|exact q h|exact q _ h|exact q _ _ h|exact q _ _ _ h|exact q _ _ _ _ h|exact q _ _ _ _ _ h|exact q _ _ _ _ _ _ h|exact q _ _ _ _ _ _ _ h)) hx)) λx h=>?_
  | refine uM h (λx hx=>by first|exact ih _ hx|exact ih _ _ hx|exact ih _ _ _ hx|exact ih _ _ _ _ hx|exact ih1 _ hx|exact ih1 _ _ hx|exact ih1 _ _ _ hx|exact ih1 _ _ _ _ hx|exact ih2 _ hx|exact ih2 _ _ hx|exact ih2 _ _ _ hx|exact ih2 _ _ _ _ hx|exact ih3 _ hx|exact ih3 _ _ hx|exact ih3 _ _ _ hx|exact ih3 _ _ _ _ hx|exact mX λq=>(by first|exact q hx|exact q _ hx|exact q _ _ hx|exact q _ _ _ hx|exact q _ _ _ _ hx|exact q _ _ _ _ _ hx|exact q _ _ _ _ _ _ hx|exact q _ _ _ _ _ _ _ hx|exact q _ _ _ _ _ _ _ _ hx|exact q _ _ _ _ _ _ _ _ _ hx|exact q _ _ _ _ _ _ _ _ _ _ hx|exact q _ _ _ _ _ _ _ _ _ _ _ hx|exact q _ _ _ _ _ _ _ _ _ _ _ _ hx)) λx h=>?_
  | refine uW h (λx hx=>Tq λq=>(by first|exact q hx|exact q _ hx|exact q _ _ hx|exact q _ _ _ hx|exact q _ _ _ _ hx|exact q _ _ _ _ _ hx|exact q _ _ _ _ _ _ hx|exact q _ _ _ _ _ _ _ hx|exact q _ _ _ _ _ _ _ _ hx|exact q _ _ _ _ _ _ _ _ _ hx|exact q _ _ _ _ _ _ _ _ _ _ hx|exact q _ _ _ _ _ _ _ _ _ _ _ hx|exact q _ _ _ _ _ _ _ _ _ _ _ _ hx)) λx h=>?_
  | (simp only[pX];refine uA h (λx hx=>Vj λq=>(by first|exact q hx|exact q _ hx|exact q _ _ hx|exact q _ _ _ hx|exact q _ _ _ _ hx|exact q _ _ _ _ _ hx|exact q _ _ _ _ _ _ hx|exact q _ _ _ _ _ _ _ hx|exact q _ _ _ _ _ _ _ _ hx|exact q _ _ _ _ _ _ _ _ _ hx|exact q _ _ _ _ _ _ _ _ _ _ hx|exact q _ _ _ _ _ _ _ _ _ _ _ hx|exact q _ _ _ _ _ _ _ _ _ _ _ _ hx|exact q _ _ _ _ _ (by intro _ _ h;exact Vj λq=>(by first|exact q h|exact q _ h|exact q _ _ h|exact q _ _ _ h|exact q _ _ _ _ h|exact q _ _ _ _ _ h|exact q _ _ _ _ _ _ h|exact q _ _ _ _ _ _ _ h)) hx|exact q _ _ _ _ _ _ (by intro _ _ h;exact Vj λq=>(by first|exact q h|exact q _ h|exact q _ _ h|exact q _ _ _ h|exact q _ _ _ _ h|exact q _ _ _ _ _ h|exact q _ _ _ _ _ _ h|exact q _ _ _ _ _ _ _ h)) hx|exact q _ _ _ _ _ _ _ (by intro _ _ h;exact Vj λq=>(by first|exact q h|exact q _ h|exact q _ _ h|exact q _ _ _ h|exact q _ _ _ _ h|exact q _ _ _ _ _ h|exact q _ _ _ _ _ _ h|exact q _ _ _ _ _ _ _ h)) hx)) λx h=>?_)
  | (simp only[pX];refine uM h (λx hx=>mX λq=>(by first|exact q hx|exact q _ hx|exact q _ _ hx|exact q _ _ _ hx|exact q _ _ _ _ hx|exact q _ _ _ _ _ hx|exact q _ _ _ _ _ _ hx|exact q _ _ _ _ _ _ _ hx|exact q _ _ _ _ _ _ _ _ hx|exact q _ _ _ _ _ _ _ _ _ hx|exact q _ _ _ _ _ _ _ _ _ _ hx|exact q _ _ _ _ _ _ _ _ _ _ _ hx|exact q _ _ _ _ _ _ _ _ _ _ _ _ hx)) λx h=>?_)
  | (rw[Ts];(conv=>whnf);refine uA h (λx hx=>by first|exact h_p1 _ _ hx|exact h_p1 _ _ _ hx|exact h_p1 _ _ _ _ hx|exact h_p2 _ _ hx|exact h_p2 _ _ _ hx|exact h_p2 _ _ _ _ hx|exact h_p3 _ _ hx|exact h_p3 _ _ _ hx|exact h_p3 _ _ _ _ hx|exact h_p4 _ _ hx|exact h_p4 _ _ _ hx|exact h_p4 _ _ _ _ hx|exact h_p5 _ _ hx|exact h_p5 _ _ _ hx|exact h_p5 _ _ _ _ hx) λx h=>?_)
  | refine⟨⟨by decide +kernel,by kernel_rfl⟩,?_⟩
  | refine⟨⟨by kernel_rfl,by kernel_rfl⟩,?_⟩
  | refine⟨by kernel_rfl,?_⟩
  | refine⟨by omega,?_⟩
  | refine⟨.inl ?_⟩)):p:=k
end Go.Proofs.YthchnhoalhbkcaaGreatDoor.P
