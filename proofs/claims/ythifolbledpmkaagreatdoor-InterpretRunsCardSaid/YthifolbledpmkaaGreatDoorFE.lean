/- FE -/
import Derived.RangeFuncLeaves
import Derived.ControlIn
import Derived.Test.YthifolbledpmkaaGreatDoorFD
import Derived.RangeFuncNested
import Derived.Shelf.Abstract
import Derived.OwnWalkIn
import Derived.TacticsInMore
import Derived.LoopNIn
import Derived.LoopIn
import Derived.OrdersIn
import Derived.RangeFuncFrom
import Derived.RangeFuncCalls
import Derived.BigRegion
import Derived.RangeFuncBox
import Derived.Deep.Cut
open Option renaming some → θ, none → κ
open Bool renaming true → ν, false → ξ
open Decidable renaming decide → υ
open List renaming length → Ξ
open Go.Proofs.Tryz
set_option linter.all false
namespace Go.Abs
open Go Go.RowKit
def TH P fn r(X:Cx):=bodyPostM Fence.wide 5 P fn λe w'=>∃v,e=.returned v/\Below X.w₀.heap.size X.w₀ w'/\Eu (λb=>X.w₀.heap.size<=b) X.O w' v r
structure kG(P:Program)(fn:Func)(r:AV)(S:AS)(b c:Code):Prop where
 go:∃S₁,Le S S₁/\∀(X:Cx)(β:Nat->Value)(a:Act)(w:World),(∀b,¬X.M b)->X.w₀.heap.size=X.base->SimB X (λ_=>False) β S₁ a w->b.wp P (Exit.then (c.wp P (TH P fn r X)) (TH P fn r X)) a w
def Ae4{P}{fn}{r}{S}{b c}d(h:Le S d)(hx:∀(X:Cx)(β:Nat->Ψ)(a:Act)(w:Λ),(∀b,¬X.M b)->X.w₀.heap.size=X.base->SimB X (λ_=>False) β d a w->b.wp P (Exit.then (c.wp P (TH P fn r X)) (TH P fn r X)) a w):kG P fn r S b c:=⟨⟨d,h,hx⟩⟩
noncomputable def sM(P:Η)(J:Γ Nat)(fn:Func)(r:AV)(n:Nat):Code->(Exit->AS->Prop)->AS->Prop:=
 Nat.rec (motive:=λ_=>Code->(Exit->AS->Prop)->AS->Prop)
  (λx Q S=>match x with
   | .seq (.seq a b) c=>kD P J a (λe S=>match e with|.normal=>kG P fn r S b c|e=>Q e S) S
   | _=>False)
  (λ_ ih x Q S=>match x with
   | .seq x y=>match lC J y with
     | false=>kD P J x (λe S=>match e with|.normal=>ih y Q S|e=>Q e S) S
     | true=>Wr S (kD P J x) (ih y) Q
   | _=>False) n
def qO(P:Η)(n:Nat)(J:Γ Nat)(fn:Func)(args:Γ AV)(r:AV):Prop:=
 match fn.body with
 | some c=>Gk (enter 0 args (GZ fn.ntmps)) (sM P J fn r n c (λe S=>match e with
   | .ret=>qs P fn.results.toList [] [] S r
   | _=>False))
 | none=>False
variable {P:Η} {X:Cx} {fn:Func} {r:AV}
theorem XI{J}(f:Sx P)(q:∀b,¬X.M b)(s:X.w₀.heap.size=X.base){Q}(k:∀e a w,Abc X Q e a w->e≠.normal->TH P fn r X e a w):∀n c{S}{β}{a}{w},
 sM P J fn r n c Q S->SimB X (λ_=>False) β S a w->c.wp P (TH P fn r X) a w
 | 0,c,S,β,a,w,hy,h=>by
   cases c with
   | seq x c=>
     cases x with
     | seq x b=>
       have hy:kD P J x (λe S=>match e with|.normal=>kG P fn r S b c|e=>Q e S) S:=hy;refine wp_seq (wp_seq (wp_mono (FU f x hy h) λe p w' d=>?_));have⟨j,S',d,g⟩:=d
       cases e with
       | normal=>
         have⟨u,o,hx⟩:=d.go;refine wp_mono (hx X j p w' q s (g.le o)) λe p w' h=>?_
         cases e<;>exact h
       | _=>exact k _ _ _ ⟨j,S',d,g⟩ zs
     | _=>exact(show False from hy).elim
   | _=>exact(show False from hy).elim
 | n+1,c,S,β,a,w,hy,h=>by
   cases c with
   | seq x y=>
     have hy:match lC J y with
      | false=>kD P J x (λe S=>match e with|.normal=>sM P J fn r n y Q S|e=>Q e S) S
      | true=>Wr S (kD P J x) (sM P J fn r n y) Q:=hy
     split at hy;refine wp_seq (wp_mono (FU f x hy h) λe p w' d=>?_);have⟨j,S',d,g⟩:=d
     cases e with
     | normal=>exact XI f q s k n y d g
     | _=>exact k _ _ _ ⟨j,S',d,g⟩ zs
     have⟨ι,Inv,hx,m⟩:=hy.go;simp only[GL]at m;refine wp_seq (wp_mono (FU f x hx h) λe p w' d=>?_);have⟨j,S',d,g⟩:=d
     cases e with
     | normal=>
       have⟨i,o⟩:=d;exact XI f q s k n y (m i) (g.le o)
     | _=>exact k _ _ _ ⟨j,S',d,g⟩ zs
   | _=>exact(show False from hy).elim
theorem vB n J{f}{fn}{args}{r}(B:P.funcs[f]?=θ fn)(m:(fn.name == "runtime.NumGoroutine")=ξ)(hr:qO P n J fn args r):A9 P f args r:=by
 unfold qO at hr;split at hr;rename_i c C;refine⟨by simp[Hq,B,m,C],λO w vs E t k d=>?_⟩;rw[GL]at hr
 have a:∀x∈args,x.mut=ξ:=by
  intro x hx;have⟨i,D⟩:=List.mem_iff_getElem?.1 hx;have u:i<vs.size:=by rw[k];exact AG D
  have:=d i vs[i] x (by simp[u]) D
  cases x<;>first|rfl|exact this.elim
 have G:Vo (λb=>O b\/Km vs args b) w:=λg cs H=>(t g cs H).mono (Cg.of_sub λb o=>o.resolve_right (KH a b))
 have q:=bJ (n:=fn.ntmps) (M:=λ_=>False) E G k (λb s=>absurd s (KH a b)) (λi j v N x y b _ _ hx _ s=>by rw[a x (Zbf hx)]at s;cases s)
  (λi v x I hx=>by
   have h1:=(d i v x I hx).mono (O':=λb=>O b\/Km vs args b) (Cg.of_sub λb o=>o.resolve_right (KH a b));have h2:=a x (Zbf hx)
   cases x<;>first|exact h1|cases h2)
 refine callsIn_wide.1 (callsIn_of_wp_marks (F:=Fence.wide) (n:=5) B C trivial (wpIn_wide.2 (XI (PQ P) (KH a) rfl (λe K w' p z=>?_) n c hr q)));have⟨Q,S',p,A⟩:=p
 cases e with
 | normal=>exact(z rfl).elim
 | ret=>
   have⟨v,T,h1,h2,_,_,_,L,_⟩:=Zv A (frz:=[]) trivial (λ_ h=>by cases h) p;show LeavesInM _ _ _ _ _ _ K.defers .returning w';rw[A.df];exact⟨v,h1,v,rfl,A.below.below (KH a),L.mono (λb o=>o.1.resolve_right (KH a b)) λb o=>.inl o⟩
 | _=>exact p.elim
 exact hr.elim
end Go.Abs
namespace Go.Proofs.YthifolbledpmkaaGreatDoor.P
open Go Go.Abs Go.Proofs Go.Deep
set_option maxRecDepth 100000
structure Hp(wr:World)(g k:Nat)(v u:Value)(c:Ap):Prop where
 c0:wr.cell? ⟨g,k*7,none⟩=some v
 c1:wr.cell? ⟨g,k*7+1,none⟩=some (.int .i64 c.Z)
 c2:wr.cell? ⟨g,k*7+2,none⟩=some (.int .i64 c.Bc)
 c3:wr.cell? ⟨g,k*7+3,none⟩=some (.int .i64 c.Be)
 c4:wr.cell? ⟨g,k*7+4,none⟩=some (.int .i64 c.A7)
 c5:wr.cell? ⟨g,k*7+5,none⟩=some (.int .i64 c.Ba)
 c6:wr.cell? ⟨g,k*7+6,none⟩=some u
structure TM(O:Nat->Prop)(w0 wr:World)(g cap:Nat)(cv us:List Value)(l:List Ap):Prop where
 keep:AC w0.heap.size (λb=>b=g) w0 wr
 lt:g<w0.heap.size
 ng:O g
 len:Ξ us=Ξ l
 clen:Ξ cv=Ξ l
 obj:∃cur,wr.heap[g]?=some (.cells cur 140 (0,0))/\cur.size=cap*7
 le:Ξ l<=cap/\cap<=maxLen
 cells:∀(j:Nat) c v u,l[j]?=some c->cv[j]?=some v->us[j]?=some u->Hp wr g j v u c
 codes:∀(j:Nat) c v,l[j]?=some c->cv[j]?=some v->A5 O w0 v (Aq 1 D.z c.X)
 row:∀(j:Nat) c u,l[j]?=some c->us[j]?=some u->BM wr 3 1 u (Ξ c.G) (c.G.map (Value.int .i64))/\∀b,Ai u=some b->w0.heap.size<=b
 apart:∀(i j:Nat) u v b,us[i]?=some u->us[j]?=some v->Ai u=some b->Ai v=some b->i=j
section
variable {O:Nat->Prop} {w0 wr w':Λ} {g cap:Nat} {cv us:Γ Ψ} {l:Γ Ap}
def Hp.of_block{k}{v u}{c}(h:Hp wr g k v u c)(a:w'.heap[g]?=wr.heap[g]?):Hp w' g k v u c:=by
 have e:∀o,w'.cell? ⟨g,o,κ⟩=wr.cell? ⟨g,o,κ⟩:=λo=>World.cell?_of_block (w:=wr) a;exact⟨by rw[e];exact h.c0,by rw[e];exact h.c1,by rw[e];exact h.c2,by rw[e];exact h.c3,by rw[e];exact h.c4,by rw[e];exact h.c5,by rw[e];exact h.c6⟩
def TM.glt(h:TM O w0 wr g cap cv us l):g<wr.heap.size:=Zbc h.lt h.keep.size
def TM.mono(h:TM O w0 wr g cap cv us l)(e:AC w0.heap.size (λb=>b=g) w0 w')(d:w'.heap[g]?=wr.heap[g]?)(f:∀(i:Nat) u b,us[i]?=θ u->Ai u=θ b->b<wr.heap.size->w'.heap[b]?=wr.heap[b]?):TM O w0 w' g cap cv us l:=
 ⟨e,h.lt,h.ng,h.len,h.clen,by rw[d];exact h.obj,h.le,λj c v u h1 h2 k=>(h.cells j c v u h1 h2 k).of_block d,h.codes,λj c u h1 h2=>⟨(h.row j c u h1 h2).1.mono λb m a=>f j u b h2 a m,(h.row j c u h1 h2).2⟩,h.apart⟩
def TM.keepS(h:TM O w0 wr g cap cv us l)(a:RowKit.Below wr.heap.size wr w'):TM O w0 w' g cap cv us l:=by
 have d:=h.keep.size;exact h.mono (h.keep.trans ⟨a.os,a.tape,a.output,a.size,λk e _=>a.block k z0⟩) (a.block g h.glt) λ_ _ b _ _ c=>a.block b c
structure Z7(g k cap:Nat)(W W':World):Prop where
 os:W'.os=W.os
 tape:W'.tape=W.tape
 output:W'.output=W.output
 size:W'.heap.size=W.heap.size
 blk:∀b,b≠g->W'.heap[b]?=W.heap[b]?
 obj:(∃cur,W.heap[g]?=some (.cells cur 140 (0,0))/\cur.size=cap*7)->∃cur,W'.heap[g]?=some (.cells cur 140 (0,0))/\cur.size=cap*7
 oth:∀o,(∀i,i<7->o≠k*7+i)->W'.cell? ⟨g,o,none⟩=W.cell? ⟨g,o,none⟩
def Z7.refl g k cap W:Z7 g k cap W W:=⟨rfl,rfl,rfl,rfl,λ_ _=>rfl,id,λ_ _=>rfl⟩
def Z7.set{k}{W}(h:Z7 g k cap W w')i(c:i<7)v:Z7 g k cap W (w'.setCell ⟨g,k*7+i,κ⟩ v):=
 ⟨(by show w'.os=_;exact h.os),(by show w'.tape=_;exact h.tape),(by show w'.output=_;exact h.output),by simpa using h.size,λb a=>(blk_setCell_other _ _ _ _ (by show b≠g;exact a)).trans (h.blk b a),
  λho=>by
   have⟨cur,h1,h2⟩:=h.obj ho;exact⟨cur.setIfInBounds (k*7+i) v,heap_setCell_same _ _ _ _ _ _ h1,by simpa using h2⟩,
  λo ho=>(World.cell?_setCell_other _ _ _ _ (λe=>ho i c (by have:=congrArg Addr.off e;exact this.symm))).trans (h.oth o ho)⟩
def TM.step(h:TM O w0 wr g cap cv us l){k}{c c'}{u u'}(F:l[k]?=θ c)(s:us[k]?=θ u)(n:AC wr.heap.size (λb=>b=g\/Ai u=θ b) wr w')(t:∃cur,w'.heap[g]?=θ (.cells cur 140 (0,0))/\cur.size=cap*7)(p:c'.X=c.X)(L:∀v,cv[k]?=θ v->Hp w' g k v u' c')(w:∀o,(∀i,i<7->o≠k*7+i)->w'.cell? ⟨g,o,κ⟩=wr.cell? ⟨g,o,κ⟩)(hr:BM w' 3 1 u' (Ξ c'.G) (c'.G.map (Value.int .i64)))(G:∀b,Ai u'=θ b->Ai u=θ b\/wr.heap.size<=b):TM O w0 w' g cap cv (us.set k u') (l.set k c'):=by
 have M:=h.keep.size;have S:=h.lt;have m:k<Ξ us:=AG s;have r:k<Ξ l:=AG F;have⟨N,x⟩:=h.row k c u F s
 have A:∀(j:Nat) v b,us[j]?=θ v->Ai v=θ b->w0.heap.size<=b/\b<wr.heap.size:=λj v b I n=>by
  have H:j<Ξ l:=by rw[<-h.len];exact AG I
  have⟨h1,h2⟩:=h.row j l[j] v (Zaa H) I;exact⟨h2 b n,h1.lt n⟩
 refine⟨h.keep.trans (n.weaken M λb B P a=>?_),h.lt,h.ng,by simp[h.len],by simp[h.clen],t,by simpa using h.le,λj d v y h1 h2 f=>?_,λj d v h1 h2=>?_,λj d y h1 h2=>?_,λi j y z b h1 h2 f E=>?_⟩;rcases a with a|a;exact P a;have:=x b a;omega;rw[Zbz]at h1 f;by_cases e:k=j;subst e;rw[Zai rfl,Zai r]at h1;rw[Zai rfl,Zai m]at f;obtain rfl:=Zaf h1;obtain rfl:=Zaf f;exact L v h2;rw[Zah e]at h1 f;have q:=h.cells j d v y h1 h2 f;have z:∀i,i<7->w'.cell? ⟨g,j*7+i,κ⟩=wr.cell? ⟨g,j*7+i,κ⟩:=λi T=>w _ λU Q=>by omega
 exact⟨by rw[show j*7=j*7+0 from rfl,z 0 z0];exact q.c0,by rw[z 1 z0];exact q.c1,by rw[z 2 z0];exact q.c2,by rw[z 3 z0];exact q.c3,by rw[z 4 z0];exact q.c4,by rw[z 5 z0];exact q.c5,by rw[z 6 z0];exact q.c6⟩;rw[Zbz]at h1;by_cases e:k=j;subst e;rw[Zai rfl,Zai r]at h1;obtain rfl:=Zaf h1;rw[p];exact h.codes k c v F h2;rw[Zah e]at h1;exact h.codes j d v h1 h2;rw[Zbz]at h1 h2;by_cases e:k=j;subst e;rw[Zai rfl,Zai r]at h1;rw[Zai rfl,Zai m]at h2;obtain rfl:=Zaf h1;obtain rfl:=Zaf h2;exact⟨hr,λb n=>(G b n).elim (λq=>x b q) λq=>z0⟩;rw[Zah e]at h1 h2;have⟨R,J⟩:=h.row j d y h1 h2;refine⟨R.mono λb B C=>n.block b B λa=>?_,J⟩;rcases a with a|a;subst a;have:=J b C;omega;exact e (h.apart k j u y b s h2 a C);rw[Zbz]at h1 h2;by_cases K:k=i;subst K;rw[Zai rfl,Zai m]at h1;obtain rfl:=Zaf h1;by_cases D:k=j;exact D;rw[Zah D]at h2;rcases G b f with q|q;exact h.apart k j u z b s h2 q E;have:=(A j z b h2 E).2;omega;rw[Zah K]at h1;by_cases D:k=j;subst D;rw[Zai rfl,Zai m]at h2;obtain rfl:=Zaf h2;rcases G b E with q|q;exact h.apart i k y u b h1 s f q;have:=(A i y b h1 f).2;omega;rw[Zah D]at h2;exact h.apart i j y z b h1 h2 f E
end
set_option maxRecDepth 1000000
set_option maxHeartbeats 6400000
def P5{w:Λ}{g cap}{T}(h:∃cur,w.heap[g]?=θ (.cells cur T (0,0))/\cur.size=cap*7)o:w.frozen? ⟨g,o,κ⟩=ξ:=by
 have⟨cur,h,_⟩:=h;simp[World.frozen?,h]
def mM{P}{f}{args}{w}{Q}(h:∀R:Ending->Λ->Prop,Aside (∀e w',Q e w'->R e w')->Calls P f args w R):Calls P f args w Q:=h Q λ_ _ h=>h
def w64 n:IntKind.i64.wrap n=RowKit.wrap64 n:=by simp only[IntKind.wrap_i64,RowKit.wrap64]
def ZR{w:Λ}{g o}{v x}(h:w.cell? ⟨g,o,κ⟩=θ v):(w.setCell ⟨g,o,κ⟩ x).cell? ⟨g,o,κ⟩=θ x:=World.cell?_setCell_same _ _ _ h
def E7{w:Λ}{g o o'}{v x}(h:w.cell? ⟨g,o',κ⟩=θ v)(a:o≠o'):(w.setCell ⟨g,o,κ⟩ x).cell? ⟨g,o',κ⟩=θ v:=(World.cell?_setCell_other _ _ _ _ λe=>a (congrArg Addr.off e)).trans h
section
variable {w:Λ} {g k:Nat} {v u:Ψ} {c:Ap}
def Hp.set6(h:Hp w g k v u c)x:Hp (w.setCell ⟨g,k*7+6,κ⟩ x) g k v x c:=
 ⟨E7 h.c0 z0,E7 h.c1 z0,E7 h.c2 z0,E7 h.c3 z0,E7 h.c4 z0,E7 h.c5 z0,ZR h.c6⟩
def Hp.set2(h:Hp w g k v u c)x:Hp (w.setCell ⟨g,k*7+2,κ⟩ (.int .i64 x)) g k v u { c with Bc:=x }:=
 ⟨E7 h.c0 z0,E7 h.c1 z0,ZR h.c2,E7 h.c3 z0,E7 h.c4 z0,E7 h.c5 z0,E7 h.c6 z0⟩
def Hp.set3(h:Hp w g k v u c)x:Hp (w.setCell ⟨g,k*7+3,κ⟩ (.int .i64 x)) g k v u { c with Be:=x }:=
 ⟨E7 h.c0 z0,E7 h.c1 z0,E7 h.c2 z0,ZR h.c3,E7 h.c4 z0,E7 h.c5 z0,E7 h.c6 z0⟩
def Hp.set4(h:Hp w g k v u c)x:Hp (w.setCell ⟨g,k*7+4,κ⟩ (.int .i64 x)) g k v u { c with A7:=x }:=
 ⟨E7 h.c0 z0,E7 h.c1 z0,E7 h.c2 z0,E7 h.c3 z0,ZR h.c4,E7 h.c5 z0,E7 h.c6 z0⟩
def Hp.set5(h:Hp w g k v u c)x:Hp (w.setCell ⟨g,k*7+5,κ⟩ (.int .i64 x)) g k v u { c with Ba:=x }:=
 ⟨E7 h.c0 z0,E7 h.c1 z0,E7 h.c2 z0,E7 h.c3 z0,E7 h.c4 z0,ZR h.c5,E7 h.c6 z0⟩
def Hp.same(h:Hp w g k v u c){c'}(h1:c.Z=c'.Z)(h2:c.Bc=c'.Bc)(a:c.Be=c'.Be)(b:c.A7=c'.A7)(d:c.Ba=c'.Ba):Hp w g k v u c':=
 ⟨h.c0,h1▸h.c1,h2▸h.c2,a▸h.c3,b▸h.c4,d▸h.c5,h.c6⟩
end
def vE W g k cap v u c key value m(L:Hp W g k v u c)(j:∃cur,W.heap[g]?=θ (.cells cur 140 (0,0))/\cur.size=cap*7)(hr:BM W 3 1 u (Ξ c.G) (c.G.map (Value.int .i64)))(z:Ai u≠θ g)(S:Ξ c.G<=2000000):
 Calls prog 127 #[.pointer (θ ⟨g,k*7,κ⟩),.int .i64 key,.int .i64 value,.bool m] W λe T=>(∃x,e=.returned x)/\∃u' w',Z7 g k cap w' T /\
  Hp T g k v u' (BD c key value m)/\BM w' 3 1 u' (Ξ c.G+1) ((c.G++[key]).map (Value.int .i64))/\AC W.heap.size (λb=>b=g\/Ai u=θ b) W w'/\(∀o,o≠k*7+1->w'.cell? ⟨g,o,κ⟩=W.cell? ⟨g,o,κ⟩) /\
  (∃cur,w'.heap[g]?=θ (.cells cur 140 (0,0))/\cur.size=cap*7)/\∀b,Ai u'=θ b->Ai u=θ b\/W.heap.size<=b:=by
 have⟨M,c1,U,V,X,Y,c6⟩:=L;have E:g<W.heap.size:=World.block_lt_of_cell? _ _ M;obtain⟨W1,r⟩:∃W1,W1=W.setCell ⟨g,k*7+1,κ⟩ (.int .i64 (RowKit.wrap64 (c.Z+1))):=⟨_,rfl⟩;have d:Z7 g k cap W W1:=by rw[r];exact(Z7.refl g k cap W).set 1 z0 _
 have F:=hr.mono (w':=W1.alloc (.cells #[.int .i64 key] 3)) (λb G N=>by rw[blk_alloc_lt _ _ _ (by rw[d.size];exact G)];exact d.blk b λe=>z (by rw[<-e];exact N));have⟨u',w',l,n,f,H⟩:=qQ (vb:=W.heap.size) (vc:=1) (x:=key) F S (World.cell?_alloc_at _ _ _ _ d.size.symm);have s:w'.heap[g]?=W1.heap[g]?:=by rw[f.block g (by simp;rw[d.size];omega) z];exact blk_alloc_lt _ _ _ (by rw[d.size];exact E)
 have J:∀o,w'.cell? ⟨g,o,κ⟩=W1.cell? ⟨g,o,κ⟩:=λo=>World.cell?_of_block (w:=W1) s
 have q:∀o,o≠k*7+1->w'.cell? ⟨g,o,κ⟩=W.cell? ⟨g,o,κ⟩:=λo ho=>by
  rw[J,r];exact World.cell?_setCell_other _ _ _ _ (λe=>ho (congrArg Addr.off e).symm)
 have a:∃cur,w'.heap[g]?=θ (.cells cur 140 (0,0))/\cur.size=cap*7:=by rw[s];exact d.obj j
 have t:AC W.heap.size (λb=>b=g\/Ai u=θ b) W w':=⟨f.os.trans d.os,f.tape.trans d.tape,f.output.trans d.output,by have:=f.size;simp at this;rw[d.size]at this;omega,λb G hm=>by
  rw[f.block b (by simp;rw[d.size];omega) λh=>hm (.inr h),blk_alloc_lt _ _ _ (by rw[d.size];exact G)];exact d.blk b λe=>hm (.inl e)⟩
 have y:∀b,Ai u'=θ b->Ai u=θ b\/W.heap.size<=b:=λb G=>(H b G).imp_right λh=>by rw[h,World.size_alloc,d.size];omega
 have d0:=q (k*7) z0;have d1:w'.cell? ⟨g,k*7+1,κ⟩=θ (.int .i64 (RowKit.wrap64 (c.Z+1))):=by rw[J,r];exact World.cell?_setCell_same _ _ _ c1
 have d2:=(q (k*7+2) z0).trans U;have d3:=(q (k*7+3) z0).trans V;have d4:=(q (k*7+4) z0).trans X;have d5:=(q (k*7+5) z0).trans Y;have d6:=(q (k*7+6) z0).trans c6;have d0:=d0.trans M;have f0:=P5 j (k*7+1);have z6:W1.cell? ⟨g,k*7+6,κ⟩=θ u:=by rw[<-J];exact d6
 have zf6:=P5 a (k*7+6);have zf2:=P5 a (k*7+2);have zf3:=P5 a (k*7+3);have zf4:=P5 a (k*7+4);have zf5:=P5 a (k*7+5);have z6':∀o,(W1.alloc o).cell? ⟨g,k*7+6,κ⟩=θ u:=λo=>by rw[World.cell?_alloc_lt _ _ _ (by rw[d.size];exact E)];exact z6
 have⟨ga',gc',A,_,_⟩:=X8 n;rw[A]at l;subst r;have O:Aside (_/\_/\_/\_/\_/\_/\_/\_/\_):=⟨d,n,f,t,q,a,y,s,A⟩;clear A hr F n f H t J q j a y s d z U V X Y M S;refine mM λR HR=>?_;have i:Hp w' g k v u { c with Z:=RowKit.wrap64 (c.Z+1) }:=⟨d0,d1,d2,d3,d4,d5,d6⟩;have K:Aside _:=i;clear i
 have D:∀{e:Ending}{p:Λ},(∃x,e=.returned x)->Z7 g k cap w' p->Hp p g k v u' (BD c key value m)->R e p:=λ{e p} he hs L=>by
  have⟨_,n,_,t,q,a,y,_,_⟩:=O.out;exact HR.out e p ⟨he,u',w',hs,L,n,t,q,a,y⟩
 have D:Aside _:=@D;have I:Aside (u'=_):=O.out.2.2.2.2.2.2.2.2;clear O HR
 cases m
 go_enter func127,ntmps127
 go_wp2_with (at_builtin;refine Lib.wpList_append_run _ rfl _ _ _ _ rfl _ _ rfl rfl _ _ l ?_)
 go_end0
 have i:=K.out.set6 u';rw[I.out]at i;refine D.out (e:=.returned (.tuple #[])) ⟨_,rfl⟩ ((Z7.refl g k cap w').set 6 z0 _) ?_;rw[I.out];exact i.same (by simp only[BD,Zaq,w64]) rfl rfl rfl rfl
 go_enter func127,ntmps127
 go_wp2_with (at_builtin;refine Lib.wpList_append_run _ rfl _ _ _ _ rfl _ _ rfl rfl _ _ l ?_)
 all_goals go_end0
 rename_i B;have i:=((((K.out.set6 u').set2 (RowKit.wrap64 (c.Bc+value))).set3 (RowKit.wrap64 (c.Be+max value (RowKit.wrap64 (-value))))).set4 (max value (RowKit.wrap64 (-value)))).set5 c.A7;refine D.out (e:=.returned (.tuple #[])) ⟨_,rfl⟩ ((((((Z7.refl g k cap w').set 6 z0 _).set 2 z0 _).set 3 z0 _).set 4 z0 _).set 5 z0 _) ?_;rw[I.out]at i ⊢;have e:υ (c.A7<max value (RowKit.wrap64 (-value)))=ν:=Zak B;refine i.same ?_ ?_ ?_ ?_ ?_<;>simp only[BD,Zav,e,w64];rename_i C B;have i:=(((K.out.set6 u').set2 (RowKit.wrap64 (c.Bc+value))).set3 (RowKit.wrap64 (c.Be+max value (RowKit.wrap64 (-value))))).set5 (max value (RowKit.wrap64 (-value)));refine D.out (e:=.returned (.tuple #[])) ⟨_,rfl⟩ (((((Z7.refl g k cap w').set 6 z0 _).set 2 z0 _).set 3 z0 _).set 5 z0 _) ?_;rw[I.out]at i ⊢;have e:υ (c.A7<max value (RowKit.wrap64 (-value)))=ξ:=Zap (Int.not_lt.2 C);have P:υ (c.Ba<max value (RowKit.wrap64 (-value)))=ν:=Zak B;refine i.same ?_ ?_ ?_ ?_ ?_<;>simp only[BD,Zav,Zaq,e,P,w64];rename_i C Q;have i:=((K.out.set6 u').set2 (RowKit.wrap64 (c.Bc+value))).set3 (RowKit.wrap64 (c.Be+max value (RowKit.wrap64 (-value))));refine D.out (e:=.returned (.tuple #[])) ⟨_,rfl⟩ ((((Z7.refl g k cap w').set 6 z0 _).set 2 z0 _).set 3 z0 _) ?_;rw[I.out]at i ⊢;have e:υ (c.A7<max value (RowKit.wrap64 (-value)))=ξ:=Zap (Int.not_lt.2 C);have P:υ (c.Ba<max value (RowKit.wrap64 (-value)))=ξ:=Zap (Int.not_lt.2 Q);refine i.same ?_ ?_ ?_ ?_ ?_<;>simp only[BD,Zav,Zaq,e,P,w64]
end Go.Proofs.YthifolbledpmkaaGreatDoor.P
namespace Go.Abs
open Go
variable {F:Fence} {n:Nat} {P:Η} {md:Region.Mode} {ops:Array Oper} {Q:Exit->Act->Λ->Prop}
def jK(l:Array Ω)i j d(a:i<l.size):(l.setIfInBounds i ν).getD j d=if i=j then ν else l.getD j d:=by
 simp only[Zci,Zcr];by_cases e:i=j;subst e;simp[a];simp[e]
theorem Aeb c(dst:Nat->Nat)(val:Nat->Ψ)(t:Act->Prop){W}(u:∀(i:Nat)(o:Oper),ops[i]?=θ o->∀e∈o.after,e.on<i)(z:∀(i:Nat)(o:Oper),ops[i]?=θ o->∀e∈o.after,Region.binds md e=ν)(M:∀g:Array Ω,(∀(i:Nat)(o:Oper),i<c->ops[i]?=θ o->g.getD i ξ=ν->∀e∈o.after,g.getD e.on ξ=ν)->(∀(o:Oper),ops[c]?=θ o->∀e∈o.after,g.getD e.on ξ=ν)->∀i,i<c->g.getD i ξ=ν)(A:∀(i:Nat)(o:Oper),c<i->ops[i]?=θ o->∃e∈o.after,c<=e.on)(N:∀(i:Nat)(o:Oper),ops[i]?=θ o->i<c->o.dst=θ (dst i))(O:∀(a:Act)(i:Nat)(x:Ψ),i<c->t a->t (a.put (θ (dst i)) x)/\dst i<a.tmps.size)(R:∀i j,i<c->j<c->dst i=dst j->i=j)(hop:∀(i:Nat)(o:Oper)(a:Act),ops[i]?=θ o->i<c->t a->(∀e∈o.after,a.tmps[dst e.on]?=θ (val e.on))->∀K:Act->Λ->Prop,K (a.put o.dst (val i)) W->
  if Region.wanted o (yielded ops a.tmps)=ν then o.wpIn F n P a W K Q else(∀f,o.about P W a.eval=θ f->F.fn f)/\K (a.put o.dst undef) W)(B:∀(o:Oper)(a:Act),ops[c]?=θ o->t a->(∀i,i<c->a.tmps[dst i]?=θ (val i))->∀K:Act->Λ->Prop,(∀(a:Act)(w:Λ),(∀g:Array Ω,g.size=ops.size->(∀i,i<ops.size->g[i]?=θ (υ (i<=c)))->wpAnyIn F n P md ops Q (ops.size-c-1) g a w)->K a w)->
  if Region.wanted o (yielded ops a.tmps)=ν then o.wpIn F n P a W K Q else(∀f,o.about P W a.eval=θ f->F.fn f)/\K (a.put o.dst undef) W)(S:c<ops.size):∀fuel g a,g.size=ops.size->t a->(∀i,i<c->g.getD i ξ=ν->a.tmps[dst i]?=θ (val i))->
  (∀i o,i<c->ops[i]?=θ o->g.getD i ξ=ν->∀e∈o.after,g.getD e.on ξ=ν)->(∀i,c<=i->i<ops.size->g[i]?=θ ξ)->fuel+g.toList.count ν=ops.size->wpAnyIn F n P md ops Q fuel g a W:=by
 have hat:∀(l:Array Ω)(i:Nat)(d:Ω),i<l.size->l.getD i d=l.getD i (!d):=λl i d h=>by
  simp only[Zci,Zcl h,Zel]
 have hx:∀(l:Γ Ω)(k:Nat),l[k]?=θ ξ->(l.set k ν).count ν=l.count ν+1:=by
  intro l
  induction l with
  | nil=>intro k h;cases h
  | cons b r ih=>
    intro k h
    cases k with
    | zero=>
      have:b=ξ:=by simpa using h
      subst this;simp
    | succ k=>
      have:=ih k (by simpa using h);rw[List.set_cons_succ,Zgn,Zgn,this];omega
 have h3:∀(l:Γ Ω)(k:Nat),l[k]?=θ ξ->l.count ν<Ξ l:=by
  intro l k h;rcases Zbk (l.count ν) (Ξ l) with q|q;exact q;have:=List.count_eq_length.1 (Nat.le_antisymm List.count_le_length q) ξ (Zbf h)
  cases this
 have hcn:∀(l:Γ Ω)(c:Nat),c<=Ξ l->(∀i,i<Ξ l->l[i]?=θ (υ (i<c)))->l.count ν=c:=by
  intro l
  induction l with
  | nil=>intro c h _;simp at h;subst h;rfl
  | cons b r ih=>
    intro c S h
    cases c with
    | zero=>
      have h0:b=ξ:=by have:=h 0 zs;simpa using this
      have:=ih 0 (Zag _) λi L=>by have:=h (i+1) zv;simpa using this
      rw[Zgn,this,h0];rfl
    | succ c=>
      have h0:b=ν:=by have:=h 0 zs;simpa using this
      have:=ih c (by simpa using S) λi L=>by have:=h (i+1) zv;simpa using this
      rw[Zgn,this,h0];simp
 intro fuel
 induction fuel with
 | zero=>
   intro g a v _ _ _ C T;exfalso;have h1:=C c (Zam _) S;have:=h3 g.toList c (by rw[Zcp];exact h1);rw[Zbv,v]at this;omega
 | succ fuel ih=>
   intro g a v hb hk hd C T
   have hnl:∀i,c<=i->i<ops.size->g.getD i ξ=ξ:=λi h1 h2=>by
    simp only[Zci,C i h1 h2,Zel]
   refine⟨λU=>?_,λi L=>?_⟩;exfalso;have hex:∃i,i<ops.size/\g.getD i ν=ξ:=⟨c,S,by simp only[Zci,C c (Zam _) S,Zel]⟩
   obtain⟨i,⟨L,hu⟩,V⟩:∃i,(i<ops.size/\g.getD i ν=ξ)/\∀j,j<i->¬(j<ops.size/\g.getD j ν=ξ):=by
    have⟨i,h⟩:=hex
    induction i using Nat.strongRecOn with
    | _ i ih=>
      by_cases hx:∃j,j<i/\(j<ops.size/\g.getD j ν=ξ);have⟨j,s,h'⟩:=hx;exact ih j s h';exact⟨i,h,λj s hh=>hx ⟨j,s,hh⟩⟩
   have:i∈Region.ready md ops g:=mem_ready.2 ⟨hu,ops[i],by simp[L],λe he _=>by
    have h1:=u i ops[i] (by simp[L]) e he;have h2:=V e.on h1;have D:e.on<g.size:=by rw[v];omega
    have:g.getD e.on ν≠ξ:=λh=>h2 ⟨z0,h⟩;rw[hat _ _ _ D];simpa using this⟩
   rw[U]at this
   cases this
   have⟨hu,o,ho,m⟩:=mem_ready.1 L;have m:∀e∈o.after,g.getD e.on ξ=ν:=λe he=>m e he (z i o ho e he);have D:i<ops.size:=(Array.getElem?_eq_some_iff.1 ho).1;have y:i<g.size:=by rw[v];exact D
   rcases Zed i c with p|p|p
   have E:(g.setIfInBounds i ν).toList.count ν=g.toList.count ν+1:=by
    rw[Zdm];refine hx _ _ ?_;simp only[Zci,Zcl y,Zel]at hu;rw[Zcp,Zcl y,hu]
   have X:=N i o ho p;have⟨hb',hs'⟩:=O a i (val i) p hb;refine wpOpIn_step ho λK' G=>hop i o a ho p hb (λe he=>hk e.on (Nat.lt_trans (u i o ho e he) p) (m e he)) K' (G _ _ (ih _ _ (by simp[v]) (by rw[X];exact hb') (λj s H=>?_) (λj oj s I H e he=>?_) (λj hj1 hj2=>?_) (by rw[E];omega)));rw[jK _ _ _ _ y]at H;rw[X];show(a.tmps.setIfInBounds (dst i) (val i))[dst j]?=_;by_cases e:i=j;subst e;rw[Zcr];simp[hs'];rw[Zah e]at H;have hne:dst i≠dst j:=λh=>e (R i j p s h);rw[Zbg hne];exact hk j s H;rw[jK _ _ _ _ y]at H ⊢;by_cases e1:i=e.on;rw[Zai e1];rw[Zah e1];by_cases e2:i=j;subst e2;rw[ho]at I;obtain rfl:=Zaf I;exact m e he;rw[Zah e2]at H;exact hd j oj s I H e he;rw[Zbg z0];exact C j hj1 hj2;subst p
   have J:∀j,j<i->g.getD j ξ=ν:=M g hd (λo' Y e he=>by
    rw[ho]at Y;obtain rfl:=Zaf Y;exact m e he)
   have hfu:fuel=ops.size-i-1:=by
    have hcc:g.toList.count ν=i:=hcn g.toList i zv λj s=>by
     rw[Zcp];have s:j<g.size:=by simpa using s
     by_cases e:j<i;have:=J j e;simp only[Zci,Zcl s,Zel]at this;rw[Zcl s,this];simp[e];rw[C j z0 z0];simp[e]
    omega
   refine wpOpIn_step ho λK' G=>B o a ho hb (λj s=>hk j s (J j s)) K' λa w hq=>G a w ?_;rw[hfu];refine hq _ (by simp[v]) λj s=>?_;have Z:j<g.size:=z0;by_cases e:i=j;subst e;rw[Zcr];simp[y];rw[Zbg e];by_cases e2:j<i;have:=J j e2;simp only[Zci,Zcl Z,Zel]at this;rw[Zcl Z,this];simp;omega;rw[C j z0 s];simp;omega;exfalso;have⟨e,he,hle⟩:=A i o p ho;have h1:=m e he;have h2:=u i o ho e he;rw[hnl e.on hle z0]at h1
   cases h1
def Ad7(md:Region.Mode)(ops:Array Oper)(c d0:Nat):Ω:=
 υ (c<ops.size)&&(List.range ops.size).all λi=>match ops[i]? with
  | none=>ξ
  | some o=>(o.after.toList.all λe=>υ (e.on<i)&&Region.binds md e)&&(υ (i<=c)||o.after.toList.any λe=>υ (c<=e.on))&&(υ (c<=i)||(o.dst==θ (d0+i)&&(List.range ops.size).any λj=>υ (i<j)&&υ (j<=c)&&match ops[j]? with
    | none=>ξ
    | some q=>q.after.toList.any λe=>e.on==i))
def xM c d0(val:Nat->Ψ)(d:Act->Prop){W}(k:Ad7 md ops c d0=ν)(r:∀(a:Act)(i:Nat)(x:Ψ),i<c->d a->d (a.put (θ (d0+i)) x)/\d0+i<a.tmps.size)(t:∀(i:Nat)(o:Oper)(a:Act),ops[i]?=θ o->i<c->d a->(∀e∈o.after,a.tmps[d0+e.on]?=θ (val e.on))->∀K:Act->Λ->Prop,K (a.put o.dst (val i)) W->
  if Region.wanted o (yielded ops a.tmps)=ν then o.wpIn F n P a W K Q else(∀f,o.about P W a.eval=θ f->F.fn f)/\K (a.put o.dst undef) W)(l:∀(o:Oper)(a:Act),ops[c]?=θ o->d a->(∀i,i<c->a.tmps[d0+i]?=θ (val i))->∀K:Act->Λ->Prop,(∀(a:Act)(w:Λ),(∀b:Array Ω,b.size=ops.size->(∀i,i<ops.size->b[i]?=θ (υ (i<=c)))->wpAnyIn F n P md ops Q (ops.size-c-1) b a w)->K a w)->
  if Region.wanted o (yielded ops a.tmps)=ν then o.wpIn F n P a W K Q else(∀f,o.about P W a.eval=θ f->F.fn f)/\K (a.put o.dst undef) W){a}(E:d a):wpAnyIn F n P md ops Q ops.size (Array.replicate ops.size ξ) a W:=by
 unfold Ad7 at k;have⟨u,k⟩:=Bool.and_eq_true_iff.1 k;have u:=Zal u
 have key:∀(i:Nat)(o:Oper),ops[i]?=θ o->(∀e∈o.after,e.on<i/\Region.binds md e=ν)/\(c<i->∃e∈o.after,c<=e.on)/\(i<c->o.dst=θ (d0+i)/\∃j q,i<j/\j<=c/\ops[j]?=θ q/\∃e∈q.after,e.on=i):=λi o ho=>by
  have v:i<ops.size:=(Array.getElem?_eq_some_iff.1 ho).1;have h:=List.all_eq_true.1 k i (List.mem_range.2 v);simp only[ho]at h;have⟨h,G⟩:=Bool.and_eq_true_iff.1 h;have⟨h1,h2⟩:=Bool.and_eq_true_iff.1 h;refine⟨λe he=>?_,λg=>?_,λg=>?_⟩;have:=List.all_eq_true.1 h1 e (Array.mem_toList_iff.2 he);have⟨y,z⟩:=Bool.and_eq_true_iff.1 this;exact⟨Zal y,z⟩;rcases Bool.or_eq_true_iff.1 h2 with q|q;have:=Zal q;omega;have⟨e,he,q⟩:=List.any_eq_true.1 q;exact⟨e,Array.mem_toList_iff.1 he,Zal q⟩;rcases Bool.or_eq_true_iff.1 G with q|q;have:=Zal q;omega;have⟨y,z⟩:=Bool.and_eq_true_iff.1 q;refine⟨eq_of_beq y,?_⟩;have⟨j,D,q⟩:=List.any_eq_true.1 z;have⟨q,s⟩:=Bool.and_eq_true_iff.1 q;have⟨H,I⟩:=Bool.and_eq_true_iff.1 q
  cases p:ops[j]? with
  | none=>rw[p]at s;cases s
  | some x=>
    rw[p]at s;have⟨e,he,J⟩:=List.any_eq_true.1 s;exact⟨j,x,Zal H,Zal I,p,e,Array.mem_toList_iff.1 he,eq_of_beq J⟩
 refine Aeb c (λi=>d0+i) val d (λi o h e he=>((key i o h).1 e he).1) (λi o h e he=>((key i o h).1 e he).2) (λb hd A=>?_) (λi o g h=>(key i o h).2.1 g) (λi o h g=>((key i o h).2.2 g).1) r (λi j _ _ h=>z0) t l u _ _ _ zs E (λi g B=>?_) (λi o g ho B=>?_) (λi _ g=>by simp[g]) ?_
 have:∀m i,c-i=m->i<c->b.getD i ξ=ν:=by
  intro m
  induction m using Nat.strongRecOn with
  | _ m ih=>
    intro i N g;have⟨_,j,q,L,M,p,e,he,C⟩:=(key i ops[i] zs).2.2 g;subst C;by_cases D:j=c;subst D;exact A q p e he;exact hd j q z0 p (ih (c-j) z0 j rfl z0) e he
 exact λi g=>this _ i rfl g;have:i<ops.size:=z0;simp[this]at B;have:i<ops.size:=z0;simp[this]at B;simp[Array.toList_replicate,List.count_replicate]
end Go.Abs
namespace Go.Proofs.YthifolbledpmkaaGreatDoor.P
open Go Go.Abs Go.Proofs Go.Deep
set_option maxRecDepth 1000000
set_option maxHeartbeats 6400000
def sY W u vo(h1:u.oneCell'=ν)(h2:vo.oneCell'=ν):Calls prog 126 #[u,vo] W λe a=>
 e=.returned (.func (.func 211) #[] #[.pointer (θ ⟨W.heap.size,0,κ⟩),.pointer (θ ⟨W.heap.size+1,0,κ⟩)])/\a=(W.alloc (.cells #[u] 61)).alloc (.cells #[vo] 35):=by
 refine mM λR HR=>?_
 go_enter func126,ntmps126
 go_wp2_with fail
 exact HR.out _ _ ⟨rfl,rfl⟩
def Po(b:Nat->Ω):Nat->Γ Nat| 0=>[]| k+1=>Po b k++(if b k then[k]else[])
structure Aak(C:World->Prop)(n0 g N Bc Bo:Nat)(u vo:Value)(cv:Nat->Value)(b:Nat->Bool):Prop where
 box:∀W,C W->W.cell? ⟨Bc,0,none⟩=some u
 own:∀W,C W->W.cell? ⟨Bo,0,none⟩=some vo
 code:∀W k,C W->k<N->W.cell? ⟨g,k*7,none⟩=some (cv k)
 keep:∀W W',C W->RowKit.Below W.heap.size W W'->C W'
 call:∀W k,C W->k<N->Calls prog 212 #[vo,cv k] W λe W'=>e=.returned (.bool (b k))/\RowKit.Below W.heap.size W W'
def pa{C}{n0 g N Bc Bo}{vo}{cv}{b}{X}{gc}(P:Aak C n0 g N Bc Bo (.slice X N gc) vo cv b)(Q:0<N->X=θ ⟨g,0,κ⟩)(hN:N<=1000000)n l(J Y:Γ Nat->Λ->Prop)(Z:∀pre W f,J pre W->RowKit.Below W.heap.size W f->J pre f)(hY:∀k W,J (Po b k) W->C W->k<N->YieldAt Fence.wide n prog l #[.pointer (θ ⟨g,k*7,κ⟩)] W λe f=>(e=.returned (.bool ν)/\J (Po b k++[k]) f/\C f)\/(e=.returned (.bool ξ)/\Y (Po b k++[k]) f))W(h0:J [] W)(G:C W):
 CallsIn Fence.wide (n+1) prog 211 #[.func (.yield l) #[] #[],.pointer (θ ⟨Bc,0,κ⟩),.pointer (θ ⟨Bo,0,κ⟩)] W λe f=>(∃v,e=.returned v)/\(J (Po b N) f\/∃pre,Y pre f):=by
 refine callsIn_of_wp func211 rfl trivial ?_ rfl;simp only[ntmps211,Zdt,Zbq,Zfs,Nat.reduceAdd,Nat.reduceSub,Array.replicate_succ,Array.replicate_zero,List.push_toArray,List.append_toArray,Zgo,Zgg];have q1:=P.box W G
 gi_wp2
 have HR:Aside _:=P;have HY:Aside _:=hY;have HJ:Aside _:=Z;clear P hY Z q1
 gi_loopw [7] (λp wr=>∃k:Nat,p=.int .i64 (k:Int)/\k<=N/\Aside (J (Po b k) wr/\C wr)) (λp _=>match p with|.int .i64 k=>N-k.toNat|_=>0)
 case atStart=>exact⟨0,rfl,Zag _,h0,G⟩
 case round=>
  obtain⟨k,rfl,hk,E⟩:=hrel;by_cases m:k<N;have R:(k:Int)<(N:Int):=z0;have hg:=Q z0;subst hg;have q1:=HR.out.box wr E.out.2;have q2:=HR.out.own wr E.out.2;have q3:=HR.out.code wr k E.out.2 m
  gi_wp2
  refine wpIn_region_any (by kernel_rfl) ?_;have H:RowKit.Below wr.heap.size wr wr.drew:=⟨rfl,rfl,rfl,Zam _,λ_ _=>rfl⟩;have d:=HR.out.keep _ _ E.out.2 H;have S:=HJ.out _ _ _ E.out.1 H;have r1:=HR.out.box _ d;have r2:=HR.out.own _ d;have r3:=HR.out.code _ k d m
  refine xM (W:=wr.drew) 6 10 (λi=>match i with|0=>vo|1=>.slice (θ ⟨g,0,κ⟩) N gc|2=>.int .i64 (k:Int)|3=>.pointer (θ ⟨g,k*7,κ⟩)|4=>.pointer (θ ⟨g,k*7,κ⟩)|_=>cv k)
   (λa=>∃q r s t u y z,a={ tmps:=#[.func (.yield l) #[] #[],.pointer (θ ⟨Bc,0,κ⟩),.pointer (θ ⟨Bo,0,κ⟩),undef,.int .i64 (k:Int),.slice (θ ⟨g,0,κ⟩) N gc,.int .i64 (N:Int),.int .i64 (k:Int),.bool ν,.int .i64 (k:Int),q,r,s,t,u,y,z,u17,u18,u19,u20,u21,u22,u23,u24,u25],defers:=[] })
   (by kernel_rfl) (λa i x F I=>?put) (λi o a ho F I hd K hK=>?op) (λo a ho I T K hK=>?call) ⟨_,_,_,_,_,_,_,rfl⟩
  case put=>
   obtain⟨q,r,s,t,u,y,z,rfl⟩:=I
   match i,F with
   | 0,_=>exact⟨⟨_,_,_,_,_,_,_,rfl⟩,zs⟩
   | 1,_=>exact⟨⟨_,_,_,_,_,_,_,rfl⟩,zs⟩
   | 2,_=>exact⟨⟨_,_,_,_,_,_,_,rfl⟩,zs⟩
   | 3,_=>exact⟨⟨_,_,_,_,_,_,_,rfl⟩,zs⟩
   | 4,_=>exact⟨⟨_,_,_,_,_,_,_,rfl⟩,zs⟩
   | 5,_=>exact⟨⟨_,_,_,_,_,_,_,rfl⟩,zs⟩
  case op=>
   obtain⟨q,r,s,t,u,y,z,rfl⟩:=I
   match i,F with
   | 0,_=>
     obtain rfl:=Zaf ho
     go_simp
     exact hK
   | 1,_=>
     obtain rfl:=Zaf ho
     go_simp
     exact hK
   | 2,_=>
     obtain rfl:=Zaf ho
     go_simp
     exact hK
   | 3,_=>
     obtain rfl:=Zaf ho;have h1:=hd ⟨1,.data⟩ zs;have h2:=hd ⟨2,.data⟩ zs;simp at h1 h2;subst h1;subst h2
     go_simp
     exact hK
   | 4,_=>
     obtain rfl:=Zaf ho;have h1:=hd ⟨3,.data⟩ zs;simp at h1;subst h1
     go_simp
     exact hK
   | 5,_=>
     obtain rfl:=Zaf ho;have h1:=hd ⟨4,.data⟩ zs;simp at h1;subst h1
     go_simp
     exact hK
  case call=>
   obtain⟨q,r,s,t,u,y,z,rfl⟩:=I;have e0:=T 0 z0;have e5:=T 5 z0;simp at e0 e5;subst e0;subst e5;obtain rfl:=Zaf ho;have B:=HR.out.call _ k d m;have HK:Aside _:=hK;clear hK T
   go_simp
   refine⟨trivial,callsIn_wide.2 (B.mono ?_)⟩;rintro e W2 ⟨rfl,L⟩;have D:=HR.out.keep _ _ d L;have M:=HJ.out _ _ _ S L;refine HK.out _ _ λc hs hl=>?_
   have U:c=#[ν,ν,ν,ν,ν,ν,ν,ξ,ξ,ξ,ξ,ξ,ξ,ξ,ξ]:=Array.ext_getElem? λi=>by
    by_cases F:i<15;rw[hl i F];exact(show ∀j:Fin 15,θ (υ (j.1<=6))=(#[ν,ν,ν,ν,ν,ν,ν,ξ,ξ,ξ,ξ,ξ,ξ,ξ,ξ]:Array Ω)[j.1]? by decide) ⟨i,F⟩;have hs:c.size=15:=hs;rw[Zct z0,Zct zv]
   subst U
   cases hbk:b k
   refine wpAnyIn_take (i:=7) (v:=.bool ξ) rfl rfl (by kernel_rfl) (by kernel_rfl) (by kernel_rfl) (λ_ _ _ h=>h) ⟨Or.inl ⟨by rfl,?_⟩,λ_=>rfl⟩ ?_;intro w;go_simp;refine wpAnyIn_take (i:=8) (v:=undef) rfl rfl (by kernel_rfl) (by kernel_rfl) (by kernel_rfl) (λ_ _ _ h=>h) ⟨Or.inr ⟨by rfl,rfl⟩,λ_=>rfl⟩ ?_;refine wpAnyIn_take (i:=9) (v:=undef) rfl rfl (by kernel_rfl) (by kernel_rfl) (by kernel_rfl) (λ_ _ _ h=>h) ⟨Or.inr ⟨by rfl,rfl⟩,λ_=>rfl⟩ ?_;refine wpAnyIn_take (i:=10) (v:=undef) rfl rfl (by kernel_rfl) (by kernel_rfl) (by kernel_rfl) (λ_ _ _ h=>h) ⟨Or.inr ⟨by rfl,rfl⟩,λ_=>rfl⟩ ?_;refine wpAnyIn_take (i:=11) (v:=undef) rfl rfl (by kernel_rfl) (by kernel_rfl) (by kernel_rfl) (λ_ _ _ h=>h) ⟨Or.inr ⟨by rfl,rfl⟩,λ_=>rfl⟩ ?_;refine wpAnyIn_take (i:=12) (v:=undef) rfl rfl (by kernel_rfl) (by kernel_rfl) (by kernel_rfl) (λ_ _ _ h=>h) ⟨Or.inr ⟨by rfl,rfl⟩,λ_=>rfl⟩ ?_;refine wpAnyIn_take (i:=13) (v:=undef) rfl rfl (by kernel_rfl) (by kernel_rfl) (by kernel_rfl) (λ_ _ _ h=>h) ⟨Or.inr ⟨by rfl,rfl⟩,λ_=>rfl⟩ ?_;refine wpAnyIn_take (i:=14) (v:=.bool ξ) rfl rfl (by kernel_rfl) (by kernel_rfl) (by kernel_rfl) (λ_ _ _ h=>h) ⟨Or.inl ⟨by rfl,?_⟩,λ_=>rfl⟩ ?_;intro w;go_simp;refine wpAnyIn_done (by kernel_rfl) ?_ _
   go_simp
   gi_wp2
   refine⟨⟨k+1,zs,z0,?_,D⟩,?_⟩;simpa [Po,hbk] using M;show N-((k:Int)+1).toNat<N-(k:Int).toNat;omega;refine wpAnyIn_take (i:=7) (v:=.bool ν) rfl rfl (by kernel_rfl) (by kernel_rfl) (by kernel_rfl) (λ_ _ _ h=>h) ⟨Or.inl ⟨by rfl,?_⟩,λ_=>rfl⟩ ?_;intro w;go_simp;refine wpAnyIn_take (i:=8) (v:=.func (.yield l) #[] #[]) rfl rfl (by kernel_rfl) (by kernel_rfl) (by kernel_rfl) (λ_ _ _ h=>h) ⟨Or.inl ⟨by rfl,?_⟩,λ_=>rfl⟩ ?_;intro w;go_simp;refine wpAnyIn_take (i:=10) (v:=.int .i64 (k:Int)) rfl rfl (by kernel_rfl) (by kernel_rfl) (by kernel_rfl) (λ_ _ _ h=>h) ⟨Or.inl ⟨by rfl,?_⟩,λ_=>rfl⟩ ?_;intro w;go_simp;have r1:=HR.out.box _ D;refine wpAnyIn_ready (rs:=[9]) (by kernel_rfl) zs (AllReadyIn.cons rfl (λK hK=>?_) AllReadyIn.nil)
   go_simp
   refine hK _ _ ?_;clear hK K;refine wpAnyIn_take (i:=11) (v:=.pointer (θ ⟨g,k*7,κ⟩)) rfl rfl (by kernel_rfl) (by kernel_rfl) (by kernel_rfl) (λ_ _ _ h=>h) ⟨Or.inl ⟨by rfl,?_⟩,λ_=>rfl⟩ ?_;intro w;go_simp;have⟨fn,tmps,O,body,hy,V⟩:=HY.out k W2 M D m;refine wpAnyIn_ready (rs:=[12]) (by kernel_rfl) zs (AllReadyIn.cons rfl (λK hK=>?_) AllReadyIn.nil);have A:Aside _:=hK;clear hK
   go_simp
   refine RoundIn.mono V ?_;rintro e W3 (⟨rfl,hJ3,hC3⟩|⟨rfl,hJx3⟩)
   skip
   refine A.out _ _ ?_;clear A K;refine wpAnyIn_take (i:=13) (v:=.bool ξ) rfl rfl (by kernel_rfl) (by kernel_rfl) (by kernel_rfl) (λ_ _ _ h=>h) ⟨Or.inl ⟨by rfl,?_⟩,λ_=>rfl⟩ ?_;intro w;go_simp;refine wpAnyIn_take (i:=14) (v:=.bool ξ) rfl rfl (by kernel_rfl) (by kernel_rfl) (by kernel_rfl) (λ_ _ _ h=>h) ⟨Or.inl ⟨by rfl,?_⟩,λ_=>rfl⟩ ?_;intro w;go_simp;refine wpAnyIn_done (by kernel_rfl) ?_ _
   go_simp
   gi_wp2
   refine⟨⟨k+1,zs,z0,?_,hC3⟩,?_⟩;simpa [Po,hbk] using hJ3;show N-((k:Int)+1).toNat<N-(k:Int).toNat;omega;refine A.out _ _ ?_;clear A K;refine wpAnyIn_take (i:=13) (v:=.bool ν) rfl rfl (by kernel_rfl) (by kernel_rfl) (by kernel_rfl) (λ_ _ _ h=>h) ⟨Or.inl ⟨by rfl,?_⟩,λ_=>rfl⟩ ?_;intro w;go_simp;refine wpAnyIn_take (i:=14) (v:=.bool ν) rfl rfl (by kernel_rfl) (by kernel_rfl) (by kernel_rfl) (λ_ _ _ h=>h) ⟨Or.inl ⟨by rfl,?_⟩,λ_=>rfl⟩ ?_;intro w;go_simp;refine wpAnyIn_done (by kernel_rfl) ?_ _
   go_simp
   gi_wp2
   refine bodyPost_ret (results_none rfl _ _ _) rfl ?_;exact⟨⟨_,rfl⟩,.inr ⟨_,hJx3⟩⟩
  have R:¬((k:Int)<(N:Int)):=z0
  gi_wp2
  go_end0
  obtain rfl:k=N:=z0;exact⟨⟨_,rfl⟩,.inl E.out.1⟩
attribute [local go_sem] Oper.semAt_some
def wb:Nat->Code->Code×Code| 0,.seq (.seq _ b) c=>(b,c)| n+1,.seq _ y=>wb n y| _,c=>(c,c)
def Ui:Code->Δ (Ly×Array Tmp×Code×Code)
 | .rangeFunc g ps a b=>θ (g,ps,a,b)
 | .seq x y=>match Ui x with
   | some r=>θ r
   | none=>Ui y
 | .cond _ x y=>match Ui x with
   | some r=>θ r
   | none=>Ui y
 | .block _ x=>Ui x
 | .loop x=>Ui x
 | _=>κ
noncomputable def ft:=(f57.body).getD .skip
noncomputable def asg:=((Ui ft).map λr=>r.2.2.1).getD .skip
noncomputable def bod:=((Ui ft).map λr=>r.2.2.2).getD .skip
def Abf{l n}{tm}{v}{W}{K}{Q}(a:tm.size=149)(b:tm[134]?=θ v)(hK:K { tmps:=tm.setIfInBounds 26 v,defers:=[] } W):asg.wpIn (Fence.wide.inRound l) n prog (Exit.then K Q) { tmps:=tm,defers:=[] } W:=by
 show Code.wpIn (Fence.wide.inRound l) n prog (Code.region _ _ _) _ _ _
 gi_wp2
 obtain⟨h,rfl⟩:=Array.getElem?_eq_some_iff.1 b;exact hK
def Abj{l n}{tm}{W}{Q}{g k bx Br Bv b8 gb go RB RO r Gn Gc Ln Lc}{key value p3}(m:tm.size=149)(A:tm[26]?=θ (.pointer (θ ⟨g,k*7,κ⟩)))(J:tm[6]?=θ (.pointer (θ ⟨bx,0,κ⟩)))(B:tm[21]?=θ (.pointer (θ ⟨Br,0,κ⟩)))(C:tm[22]?=θ (.pointer (θ ⟨Bv,0,κ⟩)))(L:tm[8]?=θ (.pointer (θ ⟨b8,0,κ⟩)))(hr:r<Gn)(H:0<Ln)(X:W.cell? ⟨bx,3,κ⟩=θ (.slice (θ ⟨gb,go,κ⟩) Gn Gc))(M:W.cell? ⟨Br,0,κ⟩=θ (.int .i64 (r:Int)))(Y:W.cell? ⟨gb,go+r,κ⟩=θ (.slice (θ ⟨RB,RO,κ⟩) Ln Lc))(Z:W.cell? ⟨RB,RO,κ⟩=θ (.int .i64 key))(N:W.cell? ⟨Bv,0,κ⟩=θ (.int .i64 value))(c8:W.cell? ⟨b8,0,κ⟩=θ (.int .i64 p3))(d:Calls prog 127 #[.pointer (θ ⟨g,k*7,κ⟩),.int .i64 key,.int .i64 value,.bool (υ (0<=p3))] W.drew λe D=>(∃x,e=.returned x)/\∀a,Q .normal a D):
 bod.wpIn (Fence.wide.inRound l) (n+1) prog Q { tmps:=tm,defers:=[] } W:=by
 show Code.wpIn (Fence.wide.inRound l) (n+1) prog (Code.block _ (Code.region _ _ _)) _ _ _;refine wpIn_block ?_;refine wpIn_region_any (by kernel_rfl) ?_;have O:(r:Int)<(Gn:Int):=z0
 have P:(0:Int)<(Ln:Int):=z0
 refine xM (W:=W.drew) 11 135 (λi=>match i with|0=>.pointer (θ ⟨g,k*7,κ⟩)|1=>.pointer (θ ⟨bx,3,κ⟩)|2=>.slice (θ ⟨gb,go,κ⟩) Gn Gc|3=>.int .i64 (r:Int)|4=>.pointer (θ ⟨gb,go+r,κ⟩)|5=>.slice (θ ⟨RB,RO,κ⟩) Ln Lc|6=>.pointer (θ ⟨RB,RO,κ⟩)|7=>.int .i64 key|8=>.int .i64 value|9=>.int .i64 p3|_=>.bool (υ (0<=p3)))
  (λa=>a.tmps.size=149/\a.tmps[26]?=θ (.pointer (θ ⟨g,k*7,κ⟩))/\a.tmps[6]?=θ (.pointer (θ ⟨bx,0,κ⟩))/\a.tmps[21]?=θ (.pointer (θ ⟨Br,0,κ⟩))/\a.tmps[22]?=θ (.pointer (θ ⟨Bv,0,κ⟩))/\a.tmps[8]?=θ (.pointer (θ ⟨b8,0,κ⟩)))
  (by kernel_rfl) (λa i x z p=>?put) (λi o a ho z p hd K hK=>?op) (λo a ho p c K hK=>?call) ⟨m,A,J,B,C,L⟩
 case put=>
  obtain⟨E,q,s,u,w,y⟩:=p;refine⟨⟨by simp[Act.put,E],?_,?_,?_,?_,?_⟩,z0⟩
  all_goals (show(a.tmps.setIfInBounds (135+i) x)[_]?=_;rw[Zbg z0];assumption)
 case op=>
  obtain⟨E,q,s,u,w,y⟩:=p;have ev:∀(t:Nat)(v:Ψ),a.tmps[t]?=θ v->∀h:t<a.tmps.size,a.tmps[t]=v:=λt v c h=>Zaf ((Zcl h).symm.trans c);have R:=ev 26 _ q z0;have e6:=ev 6 _ s z0;have S:=ev 21 _ u z0;have T:=ev 22 _ w z0;have e8:=ev 8 _ y z0;have f:Aside _:=ev;clear ev q s u w y;have F:i=0\/i=1\/i=2\/i=3\/i=4\/i=5\/i=6\/i=7\/i=8\/i=9\/i=10:=z0
  rcases F with rfl|rfl|rfl|rfl|rfl|rfl|rfl|rfl|rfl|rfl|rfl
  ·skip
   exact z40
  ·skip
   exact z40
  ·skip
   obtain rfl:=Zaf ho;have d1:=f.out 136 _ (hd ⟨1,.data⟩ zs) z0;clear hd
   go_simp
   exact hK
  ·skip
   exact z40
  ·skip
   obtain rfl:=Zaf ho;have d2:=f.out 137 _ (hd ⟨2,.data⟩ zs) z0;have d3:=f.out 138 _ (hd ⟨3,.data⟩ zs) z0;clear hd
   go_simp
   exact hK
  ·skip
   obtain rfl:=Zaf ho;have d4:=f.out 139 _ (hd ⟨4,.data⟩ zs) z0;clear hd
   go_simp
   exact hK
  ·skip
   obtain rfl:=Zaf ho;have d5:=f.out 140 _ (hd ⟨5,.data⟩ zs) z0;clear hd
   go_simp
   exact hK
  ·skip
   obtain rfl:=Zaf ho;have d6:=f.out 141 _ (hd ⟨6,.data⟩ zs) z0;clear hd
   go_simp
   exact hK
  ·skip
   exact z40
  ·skip
   exact z40
  ·skip
   obtain rfl:=Zaf ho;have d9:=f.out 144 _ (hd ⟨9,.data⟩ zs) z0;clear hd
   go_simp
   exact hK
 case call=>
  obtain⟨E,q,s,u,w,y⟩:=p;have ev:∀(t:Nat)(v:Ψ),a.tmps[t]?=θ v->∀h:t<a.tmps.size,a.tmps[t]=v:=λt v c h=>Zaf ((Zcl h).symm.trans c);have d0:=ev 135 _ (c 0 z0) z0;have d7:=ev 142 _ (c 7 z0) z0;have d8:=ev 143 _ (c 8 z0) z0;have d10:=ev 145 _ (c 10 z0) z0;have U:Aside _:=hK;clear ev c hK q s u w y;obtain rfl:=Zaf ho
  go_simp
  refine⟨trivial,(callsIn_wide.2 (d.mono ?_)).inRound l⟩;rintro e D ⟨⟨x,rfl⟩,V⟩;refine U.out _ _ λb I H=>wpAnyIn_done ?_ (show Exit.inBlock _ Q .normal _ D from V _) _
  have G:b=#[ν,ν,ν,ν,ν,ν,ν,ν,ν,ν,ν,ν]:=Array.ext_getElem? λi=>by
   by_cases z:i<12
   ·rw[H i z];exact(show ∀j:Fin 12,θ (υ (j.1<=11))=(#[ν,ν,ν,ν,ν,ν,ν,ν,ν,ν,ν,ν]:Array Ω)[j.1]? by decide) ⟨i,z⟩
   ·have I:b.size=12:=I;rw[Zct z0,Zct zv]
  subst G;show Region.ready _ _ _=[]
  kernel_rfl
def Z9(key value:Int)(m:Ω)(cs:Γ Ap)(k:Nat):Γ Ap:=match cs[k]? with
 | some c=>cs.set k (BD c key value m)
 | none=>cs
def Ps key value m N(pre:Γ Nat)cs:=pre.foldl (λcs k=>Z9 key value m cs (k%N)) cs
def sU{key value}{m}{cs}{k}:Ξ (Z9 key value m cs k)=Ξ cs:=by
 unfold Z9;split<;>simp
theorem Vq{key value}{m}{N}:∀pre cs,Ξ (Ps key value m N pre cs)=Ξ cs
 | [],_=>rfl
 | k::r,cs=>by
   show(Ξ (Ps key value m N r (Z9 key value m cs (k%N))))=_;rw[Vq r,sU]
def cO{key value}{m}{N}pre k cs:Ps key value m N (pre++[k]) cs=Z9 key value m (Ps key value m N pre cs) (k%N):=by
 simp[Ps]
theorem jv b:∀k,Ξ (Po b k)<=k
 | 0=>Zam _
 | k+1=>by
   have:=jv b k;simp only[Po,Zar];split<;>simp<;>omega
def bB c key value m:(BD c key value m).X=c.X/\(BD c key value m).G=c.G++[key]:=by
 unfold BD
 cases m
 exact⟨rfl,rfl⟩;simp only[Zav];generalize υ (c.A7<max value (IntKind.i64.wrap (-value)))=p;generalize υ (c.Ba<max value (IntKind.i64.wrap (-value)))=q
 cases p<;>cases q<;>exact⟨rfl,rfl⟩
theorem mA{key value}{m}{N}pre cs M(h:∀c∈cs,Ξ c.G<=M):∀c∈Ps key value m N pre cs,Ξ c.G<=M+Ξ pre:=by
 induction pre generalizing cs M with
 | nil=>exact h
 | cons k r ih=>
   intro c a
   have:=ih (Z9 key value m cs (k%N)) (M+1) (λd hd=>by
    unfold Z9 at hd;split at hd;rename_i e he;rcases List.mem_or_eq_of_mem_set hd with q|q;have:=h d q;omega;rw[q,(bB e key value m).2];have:=h e (Zbf he);simp;omega;have:=h d hd;omega) c a
   simp;omega
def TM.grown{O}{w0 W v}{g cap}{cv us}{l}(h:TM O w0 W g cap cv us l){row}(c:W.grownBy v row)(hr:∀r,row=θ r->w0.heap.size<=r/\∃o:Obj,W.heap[r]?=θ o/\o.isCells=ξ):TM O w0 v g cap cv us l:=by
 have z:=h.keep.size;refine h.mono (h.keep.trans ⟨c.os,c.tape,c.output,c.size,λk A _=>c.block k z0 λe=>?_⟩) (c.block g h.glt λe=>?_) λi u b w d m=>c.block b m λe=>?_;have:=(hr k e.symm).1;omega;have⟨_,o,ho,n⟩:=hr g e.symm;have⟨cur,f,_⟩:=h.obj;rw[f]at ho;obtain rfl:=Zaf ho
 cases n
 have⟨_,o,ho,n⟩:=hr b e.symm;have p:i<Ξ l:=by rw[<-h.len];exact AG w
 have⟨j,_⟩:=h.row i l[i] u (Zaa p) w;rcases EM j with⟨_,_,a,q⟩|⟨y,x,cur,q,s,t,_⟩;rw[q]at d
 cases a<;>simp[Ai]at d
 have:y=b:=by rw[q]at d;simp[Ai,s]at d;exact d
 subst this;rw[t]at ho;obtain rfl:=Zaf ho
 cases n
structure RI(O:Nat->Prop)(w0 w:World)(fx:Nat->Prop)(g cap:Nat)(cv:List Value)(cs:List Ap)(key value:Int)(m:Bool)(pre:List Nat)(W:World)(us:List Value):Prop where
 tm:TM O w0 W g cap cv us (Ps key value m (Ξ cs) pre cs)
 size:w.heap.size<=W.heap.size
 fix:∀b,fx b->W.heap[b]?=w.heap[b]?
 apart:∀(i:Nat) u b,us[i]?=some u->Ai u=some b->¬fx b
structure RC0(w0 w:World)(fx:Nat->Prop)(g N:Nat)(cv:List Value)(W:World):Prop where
 keep:AC w0.heap.size (λb=>b=g) w0 W
 fix:∀b,fx b->W.heap[b]?=w.heap[b]?
 code:∀k c,k<N->cv[k]?=some c->W.cell? ⟨g,k*7,none⟩=some c
 gobj:∃o,W.heap[g]?=some o/\o.isCells=true
 size:w.heap.size<=W.heap.size
section
variable {O:Nat->Prop} {w0 w:Λ} {fx:Nat->Prop} {g cap:Nat} {cv us0:Γ Ψ} {cs:Γ Ap} {key value:Int} {m:Ω}
def RI.rc{pre}{W}{us}(h:RI O w0 w fx g cap cv cs key value m pre W us):RC0 w0 w fx g (Ξ cs) cv W:=by
 refine⟨h.tm.keep,h.fix,λk c a d=>?_,?_,h.size⟩;have b:=Vq (key:=key) (value:=value) (m:=m) (N:=Ξ cs) pre cs;have h1:k<Ξ (Ps key value m (Ξ cs) pre cs):=by rw[b];exact a
 have h2:k<Ξ us:=by rw[h.tm.len,b];exact a
 exact(h.tm.cells k _ c _ (Zaa h1) d (Zaa h2)).c0;have⟨cur,h1,_⟩:=h.tm.obj;exact⟨_,h1,rfl⟩
def RI.add{pre}{W l}{us}(h:RI O w0 w fx g cap cv cs key value m pre W us)x(U:0<Ξ cs)(p:∀b,fx b->b<w.heap.size/\b≠g)(V:w0.heap.size<=w.heap.size){c}{u}(F:(Ps key value m (Ξ cs) pre cs)[x%(Ξ cs)]?=θ c)(E:us[x%(Ξ cs)]?=θ u)(Q:∃v,cv[x%(Ξ cs)]?=θ v/\∃u' w',Z7 g (x%(Ξ cs)) cap w' l/\Hp l g (x%(Ξ cs)) v u' (BD c key value m)/\BM w' 3 1 u' (Ξ c.G+1) ((c.G++[key]).map (Value.int .i64))/\AC W.heap.size (λb=>b=g\/Ai u=θ b) W.drew w'/\(∀o,o≠x%(Ξ cs)*7+1->w'.cell? ⟨g,o,κ⟩=W.drew.cell? ⟨g,o,κ⟩) /\
  (∃cur,w'.heap[g]?=θ (.cells cur 140 (0,0))/\cur.size=cap*7)/\∀b,Ai u'=θ b->Ai u=θ b\/W.heap.size<=b):
 ∃G,RI O w0 w fx g cap cv cs key value m (pre++[x]) l G/\KeepsOthers W l:=by
 have⟨v,r,u',w',j,R,hr,s,t,z,H⟩:=Q;have S:=h.tm.glt;have A:=h.tm.row _ _ _ F E;have I:Ai u≠θ g:=λe=>by have:=A.2 g e;have:=h.tm.lt;omega
 have B:Ai u'≠θ g:=λe=>by rcases H g e with q|q;exact I q;omega
 have d:AC W.heap.size (λb=>b=g\/Ai u=θ b) W l:=⟨j.os.trans s.os,j.tape.trans s.tape,j.output.trans s.output,by rw[j.size];exact s.size,λk J N=>by rw[j.blk k λe=>N (.inl e)];exact s.block k J N⟩
 have n:=h.tm.step (w':=l) (c':=BD c key value m) (u':=u') F E d (j.obj z) (bB c key value m).1 (λX C=>by rw[r]at C;obtain rfl:=Zaf C;exact R)
  (λo ho=>by rw[j.oth o ho];exact t o (ho 1 z0)) (by
   rw[(bB c key value m).2];have:=hr.mono (w':=l) (λb _ K=>j.blk b λe=>B (by rw[<-e];exact K));simpa using this) H
 refine⟨us.set (x%(Ξ cs)) u',⟨by rw[cO];unfold Z9;rw[F];exact n,Zbl h.size d.size,λb f=>?_,λi y b h1 h2 L=>?_⟩,⟨d.size,λk o ho D=>?_⟩⟩;have:=p b f;rw[d.block b (by have:=h.size;omega) λe=>e.elim this.2 λe=>h.apart _ _ _ E e f];exact h.fix b f;rw[Zbz]at h1;split at h1;split at h1;obtain rfl:=Zaf h1;rcases H b h2 with q|q;exact h.apart _ _ _ E q L;have:=(p b L).1;have:=h.size;omega
 cases h1
 exact h.apart i y b h1 h2 L;have J:k<W.heap.size:=(Array.getElem?_eq_some_iff.1 ho).1;rw[d.block k J λe=>?_];exact ho;rcases e with e|e;have⟨cur,h1,_⟩:=h.tm.obj;rw[e,h1]at ho;obtain rfl:=Zaf ho
 cases D
 rcases EM A.1 with⟨_,_,a,r⟩|⟨T,P,cur,r,M,f,_⟩;rw[r]at e
 cases a<;>simp[Ai]at e
 have:T=k:=by rw[r]at e;simp[Ai,M]at e;exact e
 subst this;rw[f]at ho;obtain rfl:=Zaf ho
 cases D
def RI.grown{pre}{W f}{us}(h:RI O w0 w fx g cap cv cs key value m pre W us)(a:∀b,fx b->b<w.heap.size/\b≠g)(i:w0.heap.size<=w.heap.size){row}(c:W.grownBy f row)(hr:∀r,row=θ r->w.heap.size<=r/\∃o:Obj,W.heap[r]?=θ o/\o.isCells=ξ):RI O w0 w fx g cap cv cs key value m pre f us:=
 ⟨h.tm.grown c λr e=>⟨Zbl i (hr r e).1,(hr r e).2⟩,Zbl h.size c.size,λb d=>by
  rw[c.block b (by have:=(a b d).1;have:=h.size;omega) λe=>by have:=(hr b e.symm).1;have:=(a b d).1;omega];exact h.fix b d,h.apart⟩
end
def xI{O}{w0 w}{fx}{g cap}{cv M}{cs}{key value p3}{bf}{ga}{gc}{vo}{Bc Bo Br Bv bx b8 gb go RB RO r Gn Gc Ln Lc:Nat}(hT:TM O w0 w g cap cv M cs)(hga:0<Ξ cs->ga=θ ⟨g,0,κ⟩)(hN:Ξ cs<=1000000)(hM:∀c∈cs,Ξ c.G<=1000000)(P:∀b,fx b->b<w.heap.size/\b≠g)(hap:∀(i:Nat) u b,M[i]?=θ u->Ai u=θ b->¬fx b)(hw:w0.heap.size<=w.heap.size)(hBc:w.cell? ⟨Bc,0,κ⟩=θ (.slice ga (Ξ cs) gc))(fBc:fx Bc)(hBo:w.cell? ⟨Bo,0,κ⟩=θ vo)(fBo:fx Bo)(c21:w.cell? ⟨Br,0,κ⟩=θ (.int .i64 (r:Int)))(fBr:fx Br)(c22:w.cell? ⟨Bv,0,κ⟩=θ (.int .i64 value))(fBv:fx Bv)(c6:w0.cell? ⟨bx,3,κ⟩=θ (.slice (θ ⟨gb,go,κ⟩) Gn Gc))(n6:bx≠g)(cr:w0.cell? ⟨gb,go+r,κ⟩=θ (.slice (θ ⟨RB,RO,κ⟩) Ln Lc))(nr:gb≠g)(ck:w0.cell? ⟨RB,RO,κ⟩=θ (.int .i64 key))(nk:RB≠g)(c8:w0.cell? ⟨b8,0,κ⟩=θ (.int .i64 p3))(n8:b8≠g)(hr:r<Gn)(hl:0<Ln)(hIn:∀W k c,RC0 w0 w fx g (Ξ cs) cv W->k<Ξ cs->cv[k]?=θ c->Calls prog 212 #[vo,c] W λe H=>e=.returned (.bool (bf k))/\RowKit.Below W.heap.size W H){tm}{ds}(z:tm.size=149)(V:tm[133]?=θ (.func (.func 211) #[] #[.pointer (θ ⟨Bc,0,κ⟩),.pointer (θ ⟨Bo,0,κ⟩)]))(h6:tm[6]?=θ (.pointer (θ ⟨bx,0,κ⟩)))(h21:tm[21]?=θ (.pointer (θ ⟨Br,0,κ⟩)))(h22:tm[22]?=θ (.pointer (θ ⟨Bv,0,κ⟩)))(h8:tm[8]?=θ (.pointer (θ ⟨b8,0,κ⟩))){Q}(T:∀D H U,w.heap.size<=D->RI O w0 w fx g cap cv cs key value (υ (0<=p3)) (Po bf (Ξ cs)) H U->H.heap[D]?=θ (.deferred (θ []))->Q .normal { tmps:=tm,defers:={ target:=.collected D,args:=#[] }::ds } H):
 (Code.rangeFunc (.tmp 133) #[134] asg bod).wp prog Q { tmps:=tm,defers:=ds } w:=by
 have C:∀(W:Λ)(b o:Nat)(v:Ψ),AC w0.heap.size (λb=>b=g) w0 W->b≠g->w0.cell? ⟨b,o,κ⟩=θ v->W.cell? ⟨b,o,κ⟩=θ v:=λW b o v j hne y=>(Ft j (World.block_lt_of_cell? _ _ y) hne).trans y;have d:∀(W:Λ)(b o:Nat)(v:Ψ),(∀b,fx b->W.heap[b]?=w.heap[b]?)->fx b->w.cell? ⟨b,o,κ⟩=θ v->W.cell? ⟨b,o,κ⟩=θ v:=λW b o v hf E y=>(World.cell?_of_block (w:=w) (hf b E)).trans y;have hcvl:Ξ cv=Ξ cs:=hT.clen
 have hR:Aak (RC0 w0 w fx g (Ξ cs) cv) 0 g (Ξ cs) Bc Bo (.slice ga (Ξ cs) gc) vo (λk=>cv.getD k undef) bf:=⟨λW h=>d W _ _ _ h.fix fBc hBc,λW h=>d W _ _ _ h.fix fBo hBo,λW k h j=>by
  have:k<Ξ cv:=z0;exact h.code k _ j (by simp[Zao,this]),
  λW H h E=>⟨h.keep.trans (AC.of E |>.weaken (by have:=h.keep.size;omega) λ_ _ j=>j),λb hf=>by
   have h1:=P b hf;rw[E.block b (by have:=h.size;omega)];exact h.fix b hf,λk c j y=>by
   have h1:=h.code k c j y;rw[IY E (World.block_lt_of_cell? _ _ h1)];exact h1,by
   have⟨o,h1,h2⟩:=h.gobj;exact⟨o,(E.block g (Array.getElem?_eq_some_iff.1 h1).1).trans h1,h2⟩,Zbl h.size E.size⟩,
  λW k h j=>hIn W k _ h j (by
   have:k<Ξ cv:=z0;simp[Zao,this])⟩
 have X:RI O w0 w fx g cap cv cs key value (υ (0<=p3)) [] w M:=⟨hT,Zam _,λ_ _=>rfl,hap⟩
 refine wpIn_wide.1 (wpIn_rangeFunc_ownF (F:=Fence.wide) (n:=5) (α:=Nat) (w0:=w) rfl z0 (gf:=211) (lb:=#[.pointer (θ ⟨Bc,0,κ⟩),.pointer (θ ⟨Bo,0,κ⟩)]) (by simp[Act.eval,Zci,V]) trivial (enters_of func211 (by kernel_rfl) rfl)
  (encs:=λx=>#[.pointer (θ ⟨g,x%(Ξ cs)*7,κ⟩)]) (Kp:=λA B=>RC0 w0 w fx g (Ξ cs) cv A->RC0 w0 w fx g (Ξ cs) cv B) (S:=λxs=>xs=Po bf (Ξ cs)) (Sp:=λ_=>True) (N:=Ξ cs) ?seq (λh k y=>k (h y)) ?turn (RowKit.Below.refl _ _) (λ_=>rfl)
  (λpre W=>∃us,RI O w0 w fx g cap cv cs key value (υ (0<=p3)) pre W us) (λ_ _ _=>False) ?own (λ_ _ _ _ _ h _ _=>h) ⟨M,X⟩ (λx=>{ tmps:=(tm.setIfInBounds 134 (.pointer (θ ⟨g,x%(Ξ cs)*7,κ⟩))).setIfInBounds 26 (.pointer (θ ⟨g,x%(Ξ cs)*7,κ⟩)),defers:=[] })
  ?f ?I (λD xs W hD hS ⟨us,s⟩ hd=>?done) λ_ _ _ _ _ _ h _=>h.elim)
 case seq=>
  intro l J Jx W E hJ _ hY h0;have hC0:RC0 w0 w fx g (Ξ cs) cv W:=hR.keep _ _ X.rc E;refine(pa hR hga hN 3 l J Jx (λpre W H h L=>hJ pre W H κ h ⟨L.os,L.tape,L.output,L.size,λk j _=>L.block k j⟩ λr e=>by cases e) (λk W1 hJ1 R j=>?_) W h0 hC0).mono λe H h=>?_;have Y:Ξ (Po bf k)<Ξ cs:=Zgr (jv bf k) j;have hy:=hY (Po bf k) k W1 hJ1 Y;simp only[Zdy j]at hy;have⟨fn,tmps,f,I,hy,hq⟩:=hy;refine⟨fn,tmps,f,I,hy,RoundIn.mono hq λe H h=>?_⟩;rcases h with⟨h1,h2,h3⟩|⟨h1,h2⟩;exact .inl ⟨h1,h2,h3 R⟩;exact .inr ⟨h1,h2⟩;rcases h.2 with h2|⟨pre,h2⟩;exact⟨h.1,.inl ⟨_,rfl,h2⟩⟩;exact⟨h.1,.inr ⟨pre,trivial,h2⟩⟩
 case turn=>
  intro W l o o' hl ho hoc _ R;have G:∀b,b≠l->(W.putObj l o').heap[b]?=W.heap[b]?:=λb E=>World.putObj_heap_other E
  have Z:g≠l:=λe=>by
   have⟨q,h1,h2⟩:=R.gobj;rw[e,ho]at h1;obtain rfl:=Zaf h1;rw[hoc]at h2;cases h2
  refine⟨R.keep.trans ⟨rfl,rfl,rfl,zs,λk j _=>G k z0⟩,λb E=>by rw[G b (by have:=(P b E).1;omega)];exact R.fix b E,λk c j y=>(World.cell?_of_block (w:=W) (G g Z)).trans (R.code k c j y),?_,by simpa using R.size⟩;have⟨q,h1,h2⟩:=R.gobj;exact⟨q,(G g Z).trans h1,h2⟩
 case own=>
  rintro pre W H row ⟨us,s⟩ hg hrow;exact⟨us,s.grown P hw hg hrow⟩
 case f=>
  intro l x W K hK;refine Eq.mpr (congrArg (λt=>Code.wpIn (Fence.wide.inRound l) 3 prog asg (Exit.then K λ_ _ _=>False) { tmps:=t,defers:=[] } W) (show(#[(134:Nat)].zip #[Value.pointer (θ ⟨g,x%(Ξ cs)*7,κ⟩)]).foldl (λt (p,v)=>t.setIfInBounds p v) tm=tm.setIfInBounds 134 (Value.pointer (θ ⟨g,x%(Ξ cs)*7,κ⟩)) by first|rfl|simp)) ?_;refine Abf (tm:=tm.setIfInBounds 134 (.pointer (θ ⟨g,x%(Ξ cs)*7,κ⟩))) (by simpa using z) (by rw[Zcr];simp[z]) hK
 case I=>
  rintro l pre x W ⟨us,s⟩ hpre;have hN0:0<Ξ cs:=z0;have hx:x%(Ξ cs)<Ξ cs:=Zev _ hN0;have hal:=Vq (key:=key) (value:=value) (m:=υ (0<=p3)) (N:=Ξ cs) pre cs;obtain⟨c,y⟩:∃c,(Ps key value (υ (0<=p3)) (Ξ cs) pre cs)[x%(Ξ cs)]?=θ c:=⟨_,Zaa z0⟩;obtain⟨u,hu⟩:∃u,us[x%(Ξ cs)]?=θ u:=⟨_,Zaa (by rw[s.tm.len];omega)⟩;obtain⟨v,hv⟩:∃v,cv[x%(Ξ cs)]?=θ v:=⟨_,Zaa z0⟩;have hru:=s.tm.row _ _ _ y hu;have hd:RowKit.Below W.heap.size W W.drew:=⟨rfl,rfl,rfl,Zam _,λ_ _=>rfl⟩
  have hbnd:Ξ c.G<=2000000:=by
   have:=mA (key:=key) (value:=value) (m:=υ (0<=p3)) (N:=Ξ cs) pre cs 1000000 hM c (Zbf y);omega
  refine Abj (n:=2) (k:=x%(Ξ cs)) (key:=key) (value:=value) (p3:=p3) (bx:=bx) (Br:=Br) (Bv:=Bv) (b8:=b8) (gb:=gb) (go:=go) (RB:=RB) (RO:=RO) (r:=r) (Gn:=Gn) (Gc:=Gc) (Ln:=Ln) (Lc:=Lc) (by simpa using z) (by rw[Zcr];simp[z]) (by rw[Zbg z0,Zbg z0];exact h6) (by rw[Zbg z0,Zbg z0];exact h21)
   (by rw[Zbg z0,Zbg z0];exact h22) (by rw[Zbg z0,Zbg z0];exact h8) hr hl (C W _ _ _ s.tm.keep n6 c6) (d W _ _ _ s.fix fBr c21) (C W _ _ _ s.tm.keep nr cr) (C W _ _ _ s.tm.keep nk ck) (d W _ _ _ s.fix fBv c22) (C W _ _ _ s.tm.keep n8 c8)
   ((vE W.drew g (x%(Ξ cs)) cap v u c key value (υ (0<=p3)) ((s.tm.cells _ _ _ _ y hv hu).of_block rfl) s.tm.obj (hru.1.mono λ_ _ _=>rfl) (λe=>by have:=hru.2 g e;have:=s.tm.lt;omega) hbnd).mono λe H h=>⟨h.1,λa=>?_⟩)
  have⟨U,hI',hko⟩:=s.add x hN0 P hw y hu ⟨v,hv,h.2⟩;exact⟨hko,λ_=>hI'.rc,U,hI'⟩
 case done=>
  subst hS;exact T D W us hD s hd
def yC(own:Γ Int)(cs:Γ Ap)(k:Nat):Ω:=match cs[k]? with
 | some c=>(DL own c.X).getD ξ
 | none=>ξ
theorem ZM{own}{key value}{m}:∀cs a,FO own key value m cs=θ a->(∀k c,cs[k]?=θ c->DL own c.X=θ (yC own cs k)/\Ξ c.G<=1000000)/\Ξ a=Ξ cs/\∀k:Nat,a[k]?=(cs[k]?).map λc=>if yC own cs k=ν then BD c key value m else c
 | [],a,h=>by
   obtain rfl:=Zaf h;exact⟨λk c l=>by simp at l,rfl,λk=>zs⟩
 | c::r,a,h=>by
   simp only[FO]at h
   cases hr:υ (Ξ c.G<=1000000)with
   | false=>rw[hr]at h;cases h
   | true=>
     rw[hr]at h;have hr:=Zal hr;have⟨b,g,h⟩:=Option.bind_eq_some_iff.1 h;have⟨ds,f,h⟩:=Option.bind_eq_some_iff.1 h;obtain rfl:=Zaf h;have⟨h1,h2,n⟩:=ZM r ds f;have e:yC own (c::r) 0=b:=by simp[yC,g]
     have i:∀k,yC own (c::r) (k+1)=yC own r k:=λk=>by simp[yC]
     refine⟨λk d j=>?_,by simp[h2],λk=>?_⟩
     cases k with
     | zero=>
       obtain rfl:c=d:=by simpa using j
       rw[e];exact⟨g,hr⟩
     | succ k=>rw[i];exact h1 k d (by simpa using j)
     cases k with
     | zero=>simp only[Zep,e,Zer];cases b<;>rfl
     | succ k=>simp only[Zcg,i];exact n k
theorem Z8{key value}{m}{b}cs:∀n,n<=Ξ cs->∀k:Nat,(Ps key value m (Ξ cs) (Po b n) cs)[k]?=(cs[k]?).map λc=>if k<n/\b k=ν then BD c key value m else c
 | 0,_,k=>by simp[Po,Ps]
 | n+1,hn,k=>by
   have ih:=Z8 (key:=key) (value:=value) (m:=m) (b:=b) cs n z0;simp only[Po];by_cases a:b n=ν;rw[Zai a,cO,Zdy z0];have d:=ih n;rw[Zaa (by omega:n<Ξ cs)]at d;simp only[Zer,Nat.lt_irrefl,false_and,if_false]at d;unfold Z9;rw[d];simp only;rw[Zbz];by_cases e:n=k;subst e;rw[Zai rfl,Zai (by rw[Vq];omega),Zaa (by omega:n<Ξ cs)];simp[a];rw[Zah e,ih k];have:(k<n+1/\b k=ν)↔(k<n/\b k=ν):=by constructor<;>rintro⟨h1,h2⟩<;>exact⟨z0,h2⟩
   simp only[this];rw[Zah a,Zcq,ih k]
   have:(k<n+1/\b k=ν)↔(k<n/\b k=ν):=by
    constructor;rintro⟨h1,h2⟩;refine⟨?_,h2⟩;rcases Zbk k n with q|q;exact q;have:k=n:=z0;subst this;exact absurd h2 a;rintro⟨h1,h2⟩;exact⟨z0,h2⟩
   simp only[this]
theorem tg{own}{key value}{m}{cs a}(h:FO own key value m cs=θ a):a=Ps key value m (Ξ cs) (Po (yC own cs) (Ξ cs)) cs:=by
 have⟨_,h2,b⟩:=ZM cs a h;apply Zdv;intro k;rw[b,Z8 cs (Ξ cs) (Zam _)]
 cases hk:cs[k]? with
 | none=>rfl
 | some c=>
   have:=AG hk;simp[this]
theorem TM.start{O}{w}{g cap}{cur}{vals}{cs}(z:w.heap[g]?=θ (.cells cur 140 (0,0)))(U:O g)(h1:Ξ cs<=cap)(h2:cap<=maxLen)(L:cur.size=cap*7)(M:cur.toList.take (Ξ cs*7)=vals)(V:BC O w vals ((cs.map C4).flatMap D.cells))(r:∀c∈cs,c.G=[]):∃cv us,TM O w w g cap cv us cs/\∀(i:Nat) u b,us[i]?=θ u->Ai u≠θ b:=by
 have A:g<w.heap.size:=EF z
 have p:Ξ vals=Ξ cs*7:=by
  have W:Ξ cur.toList=cap*7:=by rw[Zbv,L]
  rw[<-M,Zan,W];exact Zdp (Zcx _ h1)
 have key:∀(k o:Nat) d,k<Ξ cs->o<7->(C4 (cs.getD k { X:=[],Z:=0,Bc:=0,Be:=0,A7:=0,Ba:=0,G:=[] })).cells[o]?=θ d->∃v,vals[k*7+o]?=θ v/\w.cell? ⟨g,k*7+o,κ⟩=θ v/\A5 O w v d:=λk o d m ho hd=>by
  have n:k*7+o<Ξ vals:=by rw[p];omega
  have B:((cs.map C4).flatMap D.cells)[k*7+o]?=θ d:=by
   rw[nA C4 (λ_=>rfl) cs k m o ho];simpa [Zao,m] using hd
  refine⟨_,Zaa n,?_,(V.2 _ _ _ (Zaa n) B).1⟩
  have:cur.toList[k*7+o]?=θ vals[k*7+o]:=by
   rw[<-Zaa n]
   conv=>rhs;rw[<-M]
   rw[Zbw,Zai (by rw[<-p];exact n)]
  simp only[World.cell?,z];simp only[Zek,Zcz,if_false];rw[<-Zcp,this]
 have l:∀(f:Nat->Ψ)(k:Nat) v,((List.range (Ξ cs)).map f)[k]?=θ v->k<Ξ cs/\v=f k:=λf k v h=>by
  have m:k<Ξ cs:=by have:=AG h;simpa using this
  refine⟨m,?_⟩;rw[Zaz,Zeg m]at h;exact(Zaf h).symm
 have s:∀k,k<Ξ cs->∃a,vals.getD (k*7+6) undef=.slice a 0 0:=λk m=>by
  have⟨v,C,_,E⟩:=key k 6 (.nil 1) m z0 rfl;rw[Zao,C]
  cases E with
  | nil=>exact⟨κ,rfl⟩
 have t:∀(i:Nat) u b,((List.range (Ξ cs)).map λk=>vals.getD (k*7+6) undef)[i]?=θ u->Ai u≠θ b:=λi u b h x=>by
  obtain⟨m,rfl⟩:=l _ i u h;have⟨a,e⟩:=s i m;rw[e]at x
  cases a<;>simp[Ai]at x
 refine⟨(List.range (Ξ cs)).map λk=>vals.getD (k*7) undef,(List.range (Ξ cs)).map λk=>vals.getD (k*7+6) undef,⟨AC.refl _ _ _,A,U,zs,zs,⟨cur,z,L⟩,⟨h1,h2⟩,λj c v u y F H=>?_,λj c v y F=>?_,λj c u y H=>?_,λi j u v b Y _ I _=>absurd I (t i u b Y)⟩,t⟩;obtain⟨m,rfl⟩:=l _ j v F;obtain⟨_,rfl⟩:=l _ j u H;have q:cs.getD j { X:=[],Z:=0,Bc:=0,Be:=0,A7:=0,Ba:=0,G:=[] }=c:=by simp[Zao,y]
 have⟨v0,J,N,K⟩:=key j 0 _ m z0 rfl;have⟨v1,p1,P,r1⟩:=key j 1 _ m z0 rfl;have⟨v2,p2,Q,r2⟩:=key j 2 _ m z0 rfl;have⟨v3,p3,R,r3⟩:=key j 3 _ m z0 rfl;have⟨v4,p4,S,r4⟩:=key j 4 _ m z0 rfl;have⟨v5,p5,T,r5⟩:=key j 5 _ m z0 rfl;have⟨v6,p6,q6,r6⟩:=key j 6 _ m z0 rfl;have C:=AP r1;have e2:=AP r2;have E:=AP r3;have e4:=AP r4;have e5:=AP r5;subst C;subst e2;subst E;subst e4;subst e5;rw[q]at P Q R S T;exact⟨by rw[Zao,show j*7=j*7+0 from rfl,J];exact N,P,Q,R,S,T,by rw[Zao,p6];exact q6⟩;obtain⟨m,rfl⟩:=l _ j v F;have q:cs.getD j { X:=[],Z:=0,Bc:=0,Be:=0,A7:=0,Ba:=0,G:=[] }=c:=by simp[Zao,y]
 have⟨v0,J,N,K⟩:=key j 0 _ m z0 rfl;rw[q]at K;rw[Zao,show j*7=j*7+0 from rfl,J];exact K;obtain⟨m,rfl⟩:=l _ j u H;have⟨a,e⟩:=s j m;have:c.G=[]:=r c (Zbf y);rw[this,e];refine⟨?_,λb hb=>?_⟩
 cases a with
 | none=>exact .inl (World.ownsRow_nil w _ _ _)
 | some a=>exact .inr ⟨rfl,rfl,a,rfl⟩
 cases a<;>simp[Ai]at hb
def Adt(n:Nat):Code->Ω| .region m _ _=>Nat.beq m n| _=>ξ
def Vx(n:Nat):Code->Δ Code
 | .seq x y=>match Adt n x with
   | true=>θ (.seq x y)
   | false=>match Vx n x with
     | some c=>θ c
     | none=>Vx n y
 | .cond _ x y=>match Vx n x with
   | some c=>θ c
   | none=>Vx n y
 | .block _ x=>Vx n x
 | .loop x=>Vx n x
 | _=>κ
noncomputable def xR:=(Vx 27 ft).getD .skip
structure vn(n0:Nat)(Ds:List Nat)(ds:List Deferred)(W:World):Prop where
 eq:ds=Ds.map λD=>{ target:=.collected D,args:=#[] }
 nodup:Ds.Nodup
 at_:∀D∈Ds,n0<=D/\W.heap[D]?=some (.deferred (some []))
structure qN(v2 v5 v6 v8 v10 v16 v89:Value)(n k:Nat)(tm:Array Value):Prop where
 size:tm.size=149
 s2:tm[2]?=some v2
 s5:tm[5]?=some v5
 s6:tm[6]?=some v6
 s8:tm[8]?=some v8
 s10:tm[10]?=some v10
 s16:tm[16]?=some v16
 s89:tm[89]?=some v89
 s90:tm[90]?=some (.int .i64 (n:Int))
 s91:tm[91]?=some (.int .i64 (k:Int))
theorem sa{b}{c}{row}:∀l o,J2 b c row l=θ o->Ξ o=Ξ l/\∀(i:Nat) p,l[i]?=θ p->∃v,Bg b c row p.B p.H=θ v/\o[i]?=θ v.1
 | [],o,h=>by
   obtain rfl:=Zaf h;grind
 | p::r,o,h=>by
   simp only[J2]at h;have⟨v,d,h⟩:=Option.bind_eq_some_iff.1 h;have⟨vs,a,h⟩:=Option.bind_eq_some_iff.1 h;obtain rfl:=Zaf h;have⟨h1,h2⟩:=sa r vs a;grind
def zw{own:Γ Int}{n k}{x}(h:own[k]?=θ x)(b:Ξ own=n):((own.take k)++List.replicate (n-k) 0).set k x=(own.take (k+1))++List.replicate (n-(k+1)) 0:=by
 have c:k<Ξ own:=AG h;have a:Ξ (own.take k)=k:=z5;rw[Zga _ _ z0,a,Zes,show n-k=(n-(k+1))+1 by omega,List.replicate_succ,List.set_cons_zero,List.take_add_one,h];simp
def gD{O}{w}{v}{l}(h:A5 O w v (Aq 2 Af l)):
 ∃a cap b o,v=.slice a (Ξ l) cap/\∀i p,l[i]?=θ p->a=θ ⟨b,o,κ⟩/\¬O b/\b<w.heap.size/\w.cell? ⟨b,o+i*2,κ⟩=θ (.int .i64 p.B)/\w.cell? ⟨b,o+i*2+1,κ⟩=θ (.int .i64 p.H):=by
 generalize hx:Aq 2 Af l=x at h
 cases h<;>simp only[Aq,D.list.injEq,reduceCtorEq]at hx
 case emp a cap sz=>
  have:l=[]:=List.map_eq_nil_iff.1 hx.2;subst this;exact⟨a,cap,0,0,rfl,λi p e=>by simp at e⟩
 case list b off cap sz xs c hne hb hO hcap hsz h1 hcell h=>
  obtain⟨rfl,rfl⟩:=hx;refine⟨θ ⟨b,off,κ⟩,cap,b,off,by rw[Zac],λk p e=>⟨rfl,hO,hb,?_,?_⟩⟩;have d:(l.map Af)[k]?=θ (Af p):=by simp[e]
  have:=hcell k (Af p) 0 (D.int .i64 p.B) d rfl;have r:=h k (Af p) 0 (D.int .i64 p.B) d rfl;rw[AP r]at this;exact this;have d:(l.map Af)[k]?=θ (Af p):=by simp[e]
  have:=hcell k (Af p) 1 (D.int .i64 p.H) d rfl;have r:=h k (Af p) 1 (D.int .i64 p.H) d rfl;rw[AP r]at this;exact this
def xX{p0}{p1}{p2}{p3}{O}{w0}{g cap}{cv us}{cs cs'}{row key value}{own l}{v2 x63}{b5 b6 b8 b10 J Br Bv gc n k}{v89 x50 x51 x60 x61 x62}(hown:J2 p0 p1 row p2=θ own)(hl:idx p1.G row=θ l)(hky:idx l 0=θ key)(hcs:FO own key value (υ (0<=p3)) cs=θ cs')(hn2:Ξ p2<=1000000)(hN:Ξ cs<=1000000)(hKn:∀(c lv:Int)(v:Int×Ω),Bg p0 p1 row c lv=θ v->∀wr,AC w0.heap.size (λb=>b=g) w0 wr->Calls prog 125 #[.agg #[x50,x51],.agg #[x60,x61,x62,x63],.int .i64 row,.int .i64 c,.int .i64 lv] wr λe w'=>e=.returned (.tuple #[.int .i64 v.1,.bool v.2])/\RowKit.Below wr.heap.size wr w')(hIn:∀(a b:Γ Int)(r:Ω),DL a b=θ r->∀(va vb:Ψ) wr,AC w0.heap.size (λb=>b=g) w0 wr->A5 O wr va (Aq 1 D.z a)->A5 O wr vb (Aq 1 D.z b)->Calls prog 212 #[va,vb] wr λe w'=>e=.returned (.bool r)/\RowKit.Below wr.heap.size wr w')(hO:∀b,O b->b<w0.heap.size)(d2:A5 O w0 v2 (Aq 2 Af p2))(d63:A5 O w0 x63 (Aq 1 (Aq 1 D.z) p1.G))(q50:w0.cell? ⟨b5,0,κ⟩=θ x50)(q51:w0.cell? ⟨b5,1,κ⟩=θ x51)(q60:w0.cell? ⟨b6,0,κ⟩=θ x60)(q61:w0.cell? ⟨b6,1,κ⟩=θ x61)(q62:w0.cell? ⟨b6,2,κ⟩=θ x62)(q63:w0.cell? ⟨b6,3,κ⟩=θ x63)(q80:w0.cell? ⟨b8,0,κ⟩=θ (.int .i64 p3))(q16:w0.cell? ⟨J,2,κ⟩=θ (.slice (θ ⟨g,0,κ⟩) (Ξ cs) gc))(n5:b5≠g)(n6:b6≠g)(n8:b8≠g)(n16:J≠g){W}{tm}{Ds}{ds}(q:TM O w0 W g cap cv us cs)(s:vn w0.heap.size Ds ds W)(I:qN v2 (.pointer (θ ⟨b5,0,κ⟩)) (.pointer (θ ⟨b6,0,κ⟩)) (.pointer (θ ⟨b8,0,κ⟩)) (.pointer (θ ⟨b10,0,κ⟩)) (.pointer (θ ⟨J,0,κ⟩)) v89 n k tm)(s21:tm[21]?=θ (.pointer (θ ⟨Br,0,κ⟩)))(s22:tm[22]?=θ (.pointer (θ ⟨Bv,0,κ⟩)))(T:W.cell? ⟨Br,0,κ⟩=θ (.int .i64 row))(cBv:W.cell? ⟨Bv,0,κ⟩=θ (.int .i64 value))(gBr:w0.heap.size<=Br)(gBv:w0.heap.size<=Bv)(aB:∀(i:Nat) u b,us[i]?=θ u->Ai u=θ b->b≠Br/\b≠Bv){Q}(K:∀tm' W' us' D,qN v2 (.pointer (θ ⟨b5,0,κ⟩)) (.pointer (θ ⟨b6,0,κ⟩)) (.pointer (θ ⟨b8,0,κ⟩)) (.pointer (θ ⟨b10,0,κ⟩)) (.pointer (θ ⟨J,0,κ⟩)) v89 n k tm'->TM O w0 W' g cap cv us' cs'->vn w0.heap.size (D::Ds) ({ target:=.collected D,args:=#[] }::ds) W'->Q .normal { tmps:=tm',defers:={ target:=.collected D,args:=#[] }::ds } W'):
 xR.wp prog Q { tmps:=tm,defers:=ds } W:=by
 have⟨z,hoa⟩:=sa p2 own hown;have hsz:=I.size;have f2:=I.s2;have f5:=I.s5;have f6:=I.s6;have f8:=I.s8;have f10:=I.s10;have f16:=I.s16;have f89:=I.s89;have f90:=I.s90;have f91:=I.s91;obtain⟨l0,rfl⟩:∃l:Γ Ψ,tm=l.toArray:=⟨tm.toList,zs⟩;have S:Ξ l0=149:=by simpa using hsz
 iterate 18 (replace S:=ax S;obtain⟨_,_,_,_,_,_,_,_,l0,rfl,S⟩:=S)
 iterate 5 (replace S:=FG S;obtain⟨_,l0,rfl,S⟩:=S)
 obtain rfl:=List.length_eq_zero_iff.1 S;clear hsz S;simp only[Zej,Zep,Zcg,Option.some.injEq]at f2 f5 f6 f8 f10 f16 f89 f90 f91 s21 s22;subst f2;subst f5;subst f6;subst f8;subst f10;subst f16;subst f89;subst f90;subst f91;subst s21;subst s22;have HD:Aside _:=@K;have HF:Aside _:=I;have HMk:Aside _:=s;have HOA:Aside _:=hoa;have HT:Aside _:=q;have HKN:Aside _:=hKn;have HIN:Aside _:=hIn;have HAB:Aside _:=aB;clear K I s hoa q hKn hIn aB;have⟨a2,c2,b2,o2,e2,h2⟩:=gD d2;subst e2;have H2:Aside _:=h2;have hmk:=run_make_row' (P:=prog) 35 3 (.int .i64 0) 8 qe zl rfl .i64 .i64 (Ξ p2) z0 z0;clear h2;show Code.wp _ (Code.seq _ _) _ _ _
 go_wp2_with fail
 obtain⟨j,U⟩:∃j,j=W.heap.size:=⟨_,rfl⟩;rw[<-U];obtain⟨W1,hW1⟩:∃W1,W1=W.alloc (.cells (madeCells #[.int .i64 0] (Ξ p2)) 3):=⟨_,rfl⟩;rw[<-hW1];have HW1:Aside (_/\_):=⟨U,hW1⟩;clear hmk hW1 U
 go_loopg [110] (Ξ p2) (λm i wr=>∃k:Nat,k<=Ξ p2/\m=Ξ p2-k/\i=.int .i64 (k:Int)/\Aside (RowKit.Below W.heap.size W wr/\j<wr.heap.size/\wr.heap[j]?=θ (.cells (((own.take k)++List.replicate (Ξ p2-k) 0).map (Value.int .i64)).toArray 3 (0,0))))
 case atStart=>
  have⟨e1,e2⟩:=HW1.out;refine⟨0,Zag _,rfl,rfl,?_,?_,?_⟩;rw[e2];exact K5 _ _;rw[e1,e2];simp;rw[e1,e2,World.alloc_heap_new];simp only[madeCells];have:(Array.range (Ξ p2)).map (λx=>(#[Value.int .i64 0]:Array Ψ)[x%(#[Value.int .i64 0]:Array Ψ).size]!)=(((own.take 0)++List.replicate (Ξ p2-0) 0).map (Value.int .i64)).toArray:=Array.ext zs λi h1 h2=>by simp[Nat.mod_one]
  rw[this]
 case round=>
  obtain⟨k,hk,rfl,rfl,hA⟩:=hrel;by_cases hkn:k<Ξ p2
  ·have hkz:(k:Int)<(Ξ p2:Int):=z0;have⟨B,d,f⟩:=hA.out;have q:=HT.out;have t:=q.keep.trans ((AC.of (M:=λb=>b=g) B).weaken (by have:=q.keep.size;omega) λ_ _ h=>h);have kc:∀(b o:Nat)(v:Ψ),b≠g->w0.cell? ⟨b,o,κ⟩=θ v->wr.cell? ⟨b,o,κ⟩=θ v:=λb o v hne h=>(Ft t (World.block_lt_of_cell? _ _ h) hne).trans h;obtain⟨p,hp⟩:∃p,p2[k]?=θ p:=⟨_,Zaa hkn⟩;have⟨e2,m2,lt2,g20,g21⟩:=H2.out k p hp;have nb2:b2≠g:=λe=>m2 (by rw[e];exact q.ng);have⟨v,hv,V⟩:=HOA.out k p hp;have c50:=kc _ _ _ n5 q50;have c51:=kc _ _ _ n5 q51;have c60:=kc _ _ _ n6 q60;have c61:=kc _ _ _ n6 q61;have c62:=kc _ _ _ n6 q62;have c63:=kc _ _ _ n6 q63;have c20:=kc _ _ _ nb2 g20;have c21:=kc _ _ _ nb2 g21;have cB:wr.cell? ⟨Br,0,κ⟩=θ (.int .i64 row):=(IY B (World.block_lt_of_cell? _ _ T)).trans T;have al:∀(b o':Nat)(v:Ψ)(o:Obj),wr.cell? ⟨b,o',κ⟩=θ v->(wr.alloc o).cell? ⟨b,o',κ⟩=θ v:=λb o' v o h=>by rw[World.cell?_alloc_lt _ _ _ (World.block_lt_of_cell? _ _ h)];exact h
   have a50:=λo=>al _ _ _ o c50;have a51:=λo=>al _ _ _ o c51;have a60:=λo=>al _ _ _ o c60;have a61:=λo=>al _ _ _ o c61;have a62:=λo=>al _ _ _ o c62;have a63:=λo=>al _ _ _ o c63;have aB:=λo=>al _ _ _ o cB;obtain⟨wa,E⟩:∃wa,wa=wr.alloc (.cells #[.int .i64 p.B,.int .i64 p.H] 113):=⟨_,rfl⟩;have L:=HKN.out p.B p.H v hv wa (by rw[E];exact t.trans ((AC.of (M:=λb=>b=g) (K5 wr _)).weaken (by have:=t.size;omega) λ_ _ h=>h));rw[E]at L;have F:RowKit.Below wr.heap.size wr wa:=by rw[E];exact K5 _ _
   subst e2;have X:Ξ (own.take k)=k:=by rw[Zan];omega
   have hz:(((own.take k)++List.replicate (Ξ p2-k) 0).map (Value.int .i64))[k]?=θ (.int .i64 0):=by
    rw[Zaz,Zat z0,X,Zes,Zfe,Zai z0];rfl
   have hst:∀H,RowKit.Below (wr.alloc (.cells #[.int .i64 p.B,.int .i64 p.H] 113)).heap.size (wr.alloc (.cells #[.int .i64 p.B,.int .i64 p.H] 113)) H->H.heap[j]?=θ (.cells (((own.take k)++List.replicate (Ξ p2-k) 0).map (Value.int .i64)).toArray 3 (0,0))/\H.cell? ⟨j,k,κ⟩=θ (.int .i64 0)/\H.frozen? ⟨j,k,κ⟩=ξ:=λH h2=>by
    have e:H.heap[j]?=θ (.cells (((own.take k)++List.replicate (Ξ p2-k) 0).map (Value.int .i64)).toArray 3 (0,0)):=by
     rw[h2.block j zv,blk_alloc_lt _ _ _ d];exact f
    refine⟨e,?_,by simp[World.frozen?,e]⟩;simp only[World.cell?,e];simp only[Zek,Zcz,if_false,Zej];exact hz
   have HST:Aside _:=hst;clear X hz hst;have HWA:Aside (_/\_/\_/\_/\_/\_):=⟨E,B,d,f,F,V⟩;clear E hA q t kc hp m2 lt2 g20 g21 nb2 hv al B d f F V
   go_wp2_with (go_at_call 125;refine L.mono ?_;rintro e H ⟨rfl,Y⟩;have⟨_,g3,g4⟩:=HST.out H Y)
   go_roundg (Ξ p2-(k+1))
   case measure=>go_light;omega
   case rel=>
    go_light
    have⟨E,B,d,f,F,V⟩:=HWA.out;have⟨g5,_,_⟩:=HST.out H Y;refine⟨k+1,z0,rfl,by go_num,?_,?_,?_⟩;have h1:=kQ (RowKit.Below.trans (B.mono (Zam _)) (F.mono B.size)) (by rw[E];exact Y);refine⟨(by show H.os=_;exact h1.os),(by show H.tape=_;exact h1.tape),(by show H.output=_;exact h1.output),by simpa using h1.size,λb N=>?_⟩;rw[blk_setCell_other _ _ _ _ (by show b≠j;have:=HW1.out.1;omega)];exact h1.block b N;have:=Y.size;simp at this ⊢;omega;rw[heap_setCell_same _ _ _ _ _ _ g5];have:=zw V z;rw[<-this,List.setIfInBounds_toArray,Zbr]
  ·have hkz:¬((k:Int)<(Ξ p2:Int)):=z0;have⟨B,d,f⟩:=hA.out;have q:=HT.out;have t:=q.keep.trans ((AC.of (M:=λb=>b=g) B).weaken (by have:=q.keep.size;omega) λ_ _ h=>h);have c16:wr.cell? ⟨J,2,κ⟩=θ (.slice (θ ⟨g,0,κ⟩) (Ξ cs) gc):=(Ft t (World.block_lt_of_cell? _ _ q16) n16).trans q16;have HWA:Aside (_/\_/\_/\_):=⟨B,d,f,t⟩;clear B d f q t hA
   go_wp2_with (go_at_call 126;refine(sY _ _ _ rfl rfl).mono ?_;rintro e H ⟨rfl,rfl⟩)
   have⟨B,d,f,t⟩:=HWA.out;obtain rfl:k=Ξ p2:=z0;rw[show own.take (Ξ p2)=own by rw[<-z];exact Zaj,Zes,List.replicate_zero,Zcq]at f;have⟨U,_⟩:=HW1.out;have q:=HT.out;have s:=HMk.out;have⟨hin,_,_⟩:=ZM cs cs' hcs;have⟨h0r,Z,hrg⟩:=WO hl;have⟨_,h0l,h0g⟩:=WO hky;have⟨rga,gb,go,Gc,A,C,RB,RO,G,hOg,hOr⟩:=Yb d63;have hml:p1.G.getD row.toNat []=l:=by rw[Zao,hrg];rfl
   have hl0:0<Ξ l:=by simpa using h0l
   have⟨hA0,hAc⟩:=G.cell row.toNat Z 0 (by rw[hml];exact hl0)
   have hz0:Pk p1.G row.toNat 0=key:=by
    unfold Pk;rw[hml];simp only[Int.toNat_zero]at h0g;rw[Zao,h0g];rfl
   have hrw:=G.row row.toNat Z;rw[hml,hA0]at hrw;have hxv:=G.val;rw[G.ga z0]at hxv;rw[hz0]at hAc;have ng:O g:=q.ng;have ngb:gb≠g:=λe=>(hOg z0).1 (e▸ng);have nRB:RB row.toNat≠g:=λe=>(hOr row.toNat Z 0 (by rw[hml];exact hl0)).1 (e▸ng);obtain⟨W2,R⟩:∃W2,W2=(wr.alloc (.cells #[.slice (θ ⟨g,0,κ⟩) (Ξ cs) gc] 61)).alloc (.cells #[.slice (θ ⟨j,0,κ⟩) (Ξ p2) (Ξ p2)] 35):=⟨_,rfl⟩;have hB2:RowKit.Below wr.heap.size wr W2:=by rw[R];exact kQ (K5 wr _) (K5 _ _)
   have hsz2:W2.heap.size=wr.heap.size+2:=by rw[R];simp
   have hT2:TM O w0 W2 g cap cv us cs:=(q.keepS B).keepS hB2;have hWw:=B.size;have hw0:=q.keep.size;have hBW:RowKit.Below W.heap.size W W2:=kQ B hB2;have ltBr:=World.block_lt_of_cell? _ _ T;have ltBv:=World.block_lt_of_cell? _ _ cBv;simp only at ltBr ltBv;have hgw0:=q.lt
   have hrowc:∀(i:Nat) u b,us[i]?=θ u->Ai u=θ b->b<W.heap.size/\∃c,W.heap[b]?=θ c/\c.isCells=ν:=λi u b hi y=>by
    have hil:i<Ξ cs:=by rw[<-q.len];exact AG hi
    have⟨hru,_⟩:=q.row i cs[i] u (Zaa hil) hi;refine⟨hru.lt y,?_⟩;rcases EM hru with⟨_,_,a,hv⟩|⟨g',cap',cur,hv,hcp,hb',_⟩;rw[hv]at y
    cases a<;>simp[Ai]at y
    have:g'=b:=by rw[hv]at y;simp[Ai,hcp]at y;exact y
    subst this;exact⟨_,hb',rfl⟩
   rw[<-R];show Code.wp _ (Code.rangeFunc _ _ asg bod) _ _ _
   refine xI (w0:=w0) (w:=W2) (fx:=λb=>b=Br\/b=Bv\/b=wr.heap.size\/b=wr.heap.size+1\/b=j\/b∈Ds) (key:=key) (value:=value) (p3:=p3) (bf:=yC own cs) (gc:=gc) (vo:=.slice (θ ⟨j,0,κ⟩) (Ξ p2) (Ξ p2)) (Bc:=wr.heap.size) (Bo:=wr.heap.size+1) (Br:=Br) (Bv:=Bv) (bx:=b6) (b8:=b8) (gb:=gb) (go:=go) (RB:=RB row.toNat) (RO:=RO row.toNat) (r:=row.toNat) (Ln:=Ξ l) hT2 (λ_=>rfl) hN
    (λc hc=>by
     have⟨i,hi⟩:=List.mem_iff_getElem?.1 hc;exact(hin i c hi).2)
    (λb N=>?fx) (λi u b hi y hf=>?ap) (by rw[hsz2];omega) ?bc (.inr (.inr (.inl rfl))) ?j (.inr (.inr (.inr (.inl rfl)))) ?br (.inl rfl) ?bv (.inr (.inl rfl)) (hxv▸q63) n6 hrw ngb (by simpa using hAc) nRB q80 n8 Z hl0 ?inn rfl rfl rfl rfl rfl rfl ?fin
   case fx=>
    rcases N with rfl|rfl|rfl|rfl|rfl|N;exact⟨z0,z0⟩;exact⟨z0,z0⟩;exact⟨z0,z0⟩;exact⟨z0,z0⟩;exact⟨z0,z0⟩;have⟨h1,h2⟩:=s.at_ b N;have:=(Array.getElem?_eq_some_iff.1 h2).1;exact⟨z0,z0⟩
   case ap=>
    have⟨h1,c,h2,h3⟩:=hrowc i u b hi y;have⟨h4,h5⟩:=HAB.out i u b hi y;rcases hf with rfl|rfl|rfl|rfl|rfl|hf;exact h4 rfl;exact h5 rfl;omega;omega;omega;have⟨_,h6⟩:=s.at_ b hf;rw[h6]at h2;obtain rfl:=Zaf h2
    cases h3
   case bc=>
    rw[R,World.cell?_alloc_lt _ _ _ zs];exact World.cell?_alloc_at _ _ _ _ rfl
   case j=>
    rw[R];exact World.cell?_alloc_at _ _ _ _ zs
   case br=>rw[Zdh h0r];exact(IY hBW ltBr).trans T
   case bv=>exact(IY hBW ltBv).trans cBv
   case inn=>
    intro W' i c hC hi hc;have hil:cs[i]?=θ cs[i]:=Zaa hi;refine HIN.out own cs[i].X (yC own cs i) (hin i _ hil).1 _ _ W' hC.keep ?_ ((q.codes i _ c hil hc).mono ⟨hC.keep.size,λ_ _ h=>h,λb X N=>hC.keep.block b X λe=>N (e▸ng)⟩)
    have hbW':W'.heap[j]?=θ (.cells (own.map (Value.int .i64)).toArray 3 (0,0)):=by
     rw[hC.fix j (.inr (.inr (.inr (.inr (.inl rfl))))),hB2.block j d];exact f
    refine X7 ?_ λb N hOb=>?_;rw[z];exact .inl ⟨by simp[z],.inr ⟨j,Ξ p2,_,rfl,Zag _,hbW',Zam _,by unfold maxLen;omega,by simp[z],by simp[z];exact Zbe (by simp[z])⟩⟩
    ·have:b=j:=by
      by_cases h:Ξ p2=0;simp[Ai,h]at N;simp[Ai,h]at N;exact N.symm
     have:=hO b hOb;omega
   case fin=>
    intro D W' us' hD hI hd;refine HD.out _ W' us' D ⟨rfl,rfl,rfl,rfl,rfl,rfl,rfl,rfl,rfl,rfl⟩ ?_ ⟨by rw[s.eq];rfl,List.nodup_cons.2 ⟨λh=>?_,s.nodup⟩,λD' h=>?_⟩;rw[tg hcs];exact hI.tm;have:=(Array.getElem?_eq_some_iff.1 (s.at_ D h).2).1;omega
    ·rcases List.mem_cons.1 h with rfl|h;exact⟨z0,hd⟩;have h1:=s.at_ D' h;have:=(Array.getElem?_eq_some_iff.1 h1.2).1;refine⟨h1.1,?_⟩;rw[hI.fix D' (.inr (.inr (.inr (.inr (.inr h))))),hBW.block D' this];exact h1.2
theorem aw{F}{n N}{P}{fn}{tmps}{R}(I:Λ->Prop)(b:∀w,I w->LeavesInM F n P fn tmps R [] .returning w)(a:∀w D,N<=D->I w->w.heap[D]?=θ (.deferred (θ []))->I (w.putObj D (.deferred κ))):∀(Ds:Γ Nat) w,Ds.Nodup->(∀D∈Ds,N<=D/\w.heap[D]?=θ (.deferred (θ [])))->I w->LeavesInM F n P fn tmps R (Ds.map λD=>{ target:=.collected D,args:=#[] }) .returning w
 | [],w,_,_,h=>b w h
 | D::Ds,w,c,hD,h=>by
   have⟨h1,h2⟩:=hD D (.head _);have⟨d,c⟩:=List.nodup_cons.1 c;refine⟨zs,.inl ⟨D,w.putObj D (.deferred κ),rfl,run_takeDeferred h2,aw I b a Ds _ c (λg f=>?_) (a w D h1 h h2)⟩⟩;have⟨i,j⟩:=hD g (.tail _ f);exact⟨i,(World.putObj_heap_other (λe=>d (by subst e;exact f))).trans j⟩
def TM.ucells{O}{w0 wr}{g cap}{cv us}{l}(h:TM O w0 wr g cap cv us l){i b:Nat}{u}(n:us[i]?=θ u)(d:Ai u=θ b):∃c T f,wr.heap[b]?=θ (.cells c T f):=by
 have e:i<Ξ l:=by rw[<-h.len];exact AG n
 have⟨hr,_⟩:=h.row i l[i] u (Zaa e) n;rcases EM hr with⟨_,_,a,j⟩|⟨p,o,cur,j,k,m,_⟩;rw[j]at d
 cases a<;>simp[Ai]at d
 rw[j]at d;simp[Ai,k]at d;subst d;exact⟨_,_,_,m⟩
def qE{O}{w}{g cap}{cv us:Γ Ψ}{l}(s:g<w.heap.size)(h:¬O g)(m:Ξ l<=cap)(n:0<Ξ l)(t:Ξ cv=Ξ l)(A:Ξ us=Ξ l)(b:∀(j:Nat) c v u,l[j]?=θ c->cv[j]?=θ v->us[j]?=θ u->Hp w g j v u c)(d:∀(j:Nat) c v,l[j]?=θ c->cv[j]?=θ v->A5 O w v (Aq 1 D.z c.X))(f:∀(j:Nat) c u,l[j]?=θ c->us[j]?=θ u->A5 O w u (Aq 1 D.z c.G)):
 A5 O w (.slice (θ ⟨g,0,κ⟩) (Ξ l) cap) (Aq 7 A7 l):=by
 have e:=A5.list (O:=O) (w:=w) g 0 cap 7 (l.map A7) (λi k=>(w.cell? ⟨g,i*7+k,none⟩).getD undef) (by cases l with|nil=>simp at n|cons=>simp) s h (by simpa using m)
  (λx hx=>by obtain⟨r,_,rfl⟩:=List.mem_map.1 hx;rfl) (λx hx y hy=>by obtain⟨r,_,rfl⟩:=List.mem_map.1 hx;simp[D.cells,A7]at hy;rcases hy with rfl|rfl|rfl|rfl|rfl|rfl|rfl<;>rfl)
  (λi x k y hx hy=>by
   rw[Zaz]at hx
   cases hi:l[i]? with
   | none=>simp[hi]at hx
   | some z=>
     simp[hi]at hx;subst hx;have o:=AG hi;have a:=b i z cv[i] us[i] hi (Zaa z0) (Zaa z0);rw[Zbn]
     match k,hy with
     | 0,hy=>rw[Zcy,a.c0];rfl
     | 1,hy=>rw[a.c1];rfl
     | 2,hy=>rw[a.c2];rfl
     | 3,hy=>rw[a.c3];rfl
     | 4,hy=>rw[a.c4];rfl
     | 5,hy=>rw[a.c5];rfl
     | 6,hy=>rw[a.c6];rfl
     | k+7,hy=>simp[D.cells,A7]at hy)
  (λi x k y hx hy=>by
   rw[Zaz]at hx
   cases hi:l[i]? with
   | none=>simp[hi]at hx
   | some z=>
     simp[hi]at hx;subst hx;have o:=AG hi;have p:cv[i]?=θ cv[i]:=Zaa z0;have q:us[i]?=θ us[i]:=Zaa z0;have a:=b i z cv[i] us[i] hi p q
     match k,hy with
     | 0,hy=>obtain rfl:=Zaf hy;show A5 O w ((w.cell? ⟨g,i*7,κ⟩).getD undef) _;rw[a.c0];exact d i z _ hi p
     | 1,hy=>obtain rfl:=Zaf hy;show A5 O w ((w.cell? ⟨g,i*7+1,κ⟩).getD undef) _;rw[a.c1];exact .int _ _
     | 2,hy=>obtain rfl:=Zaf hy;show A5 O w ((w.cell? ⟨g,i*7+2,κ⟩).getD undef) _;rw[a.c2];exact .int _ _
     | 3,hy=>obtain rfl:=Zaf hy;show A5 O w ((w.cell? ⟨g,i*7+3,κ⟩).getD undef) _;rw[a.c3];exact .int _ _
     | 4,hy=>obtain rfl:=Zaf hy;show A5 O w ((w.cell? ⟨g,i*7+4,κ⟩).getD undef) _;rw[a.c4];exact .int _ _
     | 5,hy=>obtain rfl:=Zaf hy;show A5 O w ((w.cell? ⟨g,i*7+5,κ⟩).getD undef) _;rw[a.c5];exact .int _ _
     | 6,hy=>obtain rfl:=Zaf hy;show A5 O w ((w.cell? ⟨g,i*7+6,κ⟩).getD undef) _;rw[a.c6];exact f i z _ hi q
     | k+7,hy=>simp[D.cells,A7]at hy)
 simpa using e
def Afd{P}{c:Code}{Q}{b}{a}{w}(r:Code)(hK:∀a w,r.wp P Q a w->b a w)(h:∀K:Act->Λ->Prop,K=(λa w=>r.wp P Q a w)->c.wp P (Exit.then K Q) a w):c.wp P (Exit.then b Q) a w:=
 wp_mono (h _ rfl) λe a w q=>by
  cases e
  case normal=>exact hK a w q
  all_goals exact q
def mB(w:Λ)o n(h:n=w.heap.size):(w.alloc o).heap[n]?=θ o:=h▸heap_alloc_new w o
def TM.ublt{O}{w0 wr}{g cap}{cv us}{l}(h:TM O w0 wr g cap cv us l){i b:Nat}{u}(k:us[i]?=θ u)(c:Ai u=θ b):b<wr.heap.size:=by
 have d:i<Ξ l:=by rw[<-h.len];exact AG k
 have⟨hr,_⟩:=h.row i l[i] u (Zaa d) k;rcases EM hr with⟨_,_,a,e⟩|⟨n,m,cur,e,f,j,_⟩;rw[e]at c
 cases a<;>simp[Ai]at c
 rw[e]at c;simp[Ai,f]at c;subst c;exact EF j
def kgo{K b:Act->Λ->Prop}{a}{w}(h:∀a w,b a w->K a w)(x:b a w):K a w:=h a w x
@[reducible] def mkM(p0:Aa)(p1:Ad)p2 x64 p3 x89 k78:=C9 149 [(2,.l 2 Af p2),(5,.ptr 5 1 0),(6,.ptr 6 1 0),(8,.ptr 8 1 0),(10,.ptr 10 1 0),(16,.ptr 16 1 0),(89,.l 1 D.z x89),(90,.i (Ξ x89)),(91,.i 0)] [(5,.var [.l 2 Ak p0.S,.l 7 Aw p0.A],1),(6,.var [.t p1.Aq,.i p1.As,.l 2 Af p1.I,.l 1 (Aq 1 D.z) p1.G],1),(8,.var [.i p3],1),(10,.var [.n 2,.i 0,.n 7],1),(16,.var [.l 2 Af x64,.i p3,.sl 78 1],1),(78,.row 7 140 (List.map C4 k78),1)]
def ug(TV:∀(O:Aa)(P:Ad)(p2:Γ Int)(p3:Int)(R:Γ Int),Cu O P p2 p3=θ R->A9 prog 120 [.d (Cr O),.d (Cm P),.l 1 D.z p2,.i p3] (.l 1 D.z R))(TK:∀(O:Aa)(P:Ad)(p2 p3 p4:Int)(R:Int×Ω),Bg O P p2 p3 p4=θ R->A9 prog 125 [.d (Cr O),.d (Cm P),.i p2,.i p3,.i p4] (.tup [.i R.1,.b R.2]))(TN:∀(O P:Γ Int)(R:Ω),DL O P=θ R->A9 prog 212 [.l 1 D.z O,.l 1 D.z P] (.b R)){O}{P}{p2 f}{p3}{p}{s y2}(hy:QA O P p2 p3 p s=θ y2){X}{β}{a}{w}(hM:∀b,¬X.M b)(z:X.w₀.heap.size=X.base)(S:SimB X (λ_=>False) β (mkM O P p2 f p3 p s) a w):
 (wb 10 ft).1.wp prog (Exit.then ((wb 10 ft).2.wp prog (TH prog f57 (.tup [.d (JW { V:=f,Ah:=p3,Av:=y2 }),.i 0]) X)) (TH prog f57 (.tup [.d (JW { V:=f,Ah:=p3,Av:=y2 }),.i 0]) X)) a w:=by
 have⟨hr0,hy⟩:=iN hy;have⟨hr0,hr1⟩:=Bool.and_eq_true_iff.1 hr0;have⟨hn89,hn2,hn78,hp78⟩:=Zal hr0;have hnil:∀c∈s,c.G=[]:=λc hc=>List.isEmpty_iff.1 (List.all_eq_true.1 hr1 c hc);have⟨tm,df⟩:=a;have I:tm.size=149:=S.len;obtain rfl:df=[]:=S.df;have tv:∀t,t<149->∃v,tm[t]?=θ v:=λt h=>⟨tm[t]'z0,Zcl z0⟩;have⟨v2,s2⟩:=tv 2 z0;have⟨v5,s5⟩:=tv 5 z0;have⟨v6,s6⟩:=tv 6 z0;have⟨v8,s8⟩:=tv 8 z0;have⟨v10,s10⟩:=tv 10 z0;have⟨v16,s16⟩:=tv 16 z0;have⟨v89,s89⟩:=tv 89 z0;have⟨v90,s90⟩:=tv 90 z0;have⟨v91,s91⟩:=tv 91 z0;have⟨b5,_,_,e5,_,_,c5⟩:=V4 S 5 rfl;have⟨b6,_,_,e6,_,_,c6⟩:=V4 S 6 rfl;have⟨b8,_,_,e8,_,_,c8⟩:=V4 S 8 rfl;have⟨b10,cv10,T10,e10,hcv10,z10,c10⟩:=V4 S 10 rfl;have⟨b16,cv16,T16,e16,hcv16,zcv16,c16⟩:=V4 S 16 rfl;have⟨x50,q50,k50,_⟩:=c5 0 _ rfl;have⟨x51,q51,k51,_⟩:=c5 1 _ rfl;have⟨x60,q60,k60,_⟩:=c6 0 _ rfl;have⟨x61,q61,k61,_⟩:=c6 1 _ rfl;have⟨x62,q62,k62,_⟩:=c6 2 _ rfl;have⟨x63,q63,k63,_⟩:=c6 3 _ rfl;have⟨x80,q80,k80,_⟩:=c8 0 _ rfl;obtain rfl:=AP k80;have⟨x160,q160,k160,_⟩:=c16 0 _ rfl;have⟨x161,q161,k161,_⟩:=c16 1 _ rfl;obtain rfl:=AP k161;have⟨A,B,_,_,e160,_⟩:=gD k160;subst e160;have⟨x100,q100,_⟩:=c10 0 _ rfl;have⟨x101,q101,_⟩:=c10 1 _ rfl;have⟨x102,q102,_⟩:=c10 2 _ rfl;have⟨u16,q16,k16⟩:=c16 2 _ rfl;have k16:u16=β 78:=k16.2 rfl
 have dS:A5 (OS β X _) w (.agg #[x50,x51]) (Cr O):=.agg _ _ rfl (by simp[D.one]) λi v x d hx=>by
  match i,d,hx with
  | 0,d,hx=>simp at d hx;subst d;subst hx;exact k50
  | 1,d,hx=>simp at d hx;subst d;subst hx;exact k51
  | i+2,d,hx=>simp at d
 have dX:A5 (OS β X _) w (.agg #[x60,x61,x62,x63]) (Cm P):=.agg _ _ rfl (by simp[D.one]) λi v x d hx=>by
  match i,d,hx with
  | 0,d,hx=>simp at d hx;subst d;subst hx;exact k60
  | 1,d,hx=>simp at d hx;subst d;subst hx;exact k61
  | 2,d,hx=>simp at d hx;subst d;subst hx;exact k62
  | 3,d,hx=>simp at d hx;subst d;subst hx;exact k63
  | i+4,d,hx=>simp at d
 have ptr:∀(t q b:Nat)(v:Ψ),v=.pointer (θ ⟨b,0,κ⟩)->True:=λ_ _ _ _ _=>trivial;have⟨_,r5,t5⟩:=V3 S 5 s5 rfl rfl;have⟨_,r6,t6⟩:=V3 S 6 s6 rfl rfl;have⟨_,r8,t8⟩:=V3 S 8 s8 rfl rfl;have⟨_,r10,t10⟩:=V3 S 10 s10 rfl rfl;have⟨_,r16,t16⟩:=V3 S 16 s16 rfl rfl;have r5:=e5.symm.trans r5;have r6:=e6.symm.trans r6;have r8:=e8.symm.trans r8;have r10:=e10.symm.trans r10;have r16:=e16.symm.trans r16;simp at r5 r6 r8 r10 r16;subst r5;subst r6;subst r8;subst r10;subst r16;have d2:=eh S 2 s2 rfl;have d89:=eh S 89 s89 rfl;have⟨a89,c89,b89,o89,t89,h89⟩:=JF d89;obtain rfl:=AP (eh S 90 s90 rfl);obtain rfl:=AP (eh S 91 s91 rfl);have hbx:LZ β _ _ w 78 (.row 7 140 (List.map C4 s)):=S.boxes 78;have⟨_,_,vals,hrow,hL⟩:=hbx;rw[Zac,<-k16]at hrow;have hMo:=bT S 78 rfl;rw[<-k16]at hMo
 obtain⟨g,cap,cur,eu,hcp,hg,hg1,hg2,hg3,hg4,_⟩:∃g cap cur,u16=.slice (θ ⟨g,0,κ⟩) (Ξ s) cap/\cap≠0/\w.heap[g]?=θ (.cells cur 140 (0,0))/\Ξ s<=cap/\cap<=maxLen/\cur.size=cap*7/\cur.toList.take (Ξ s*7)=vals/\Ξ vals=Ξ s*7:=by
  rcases EM hrow with⟨G,_⟩|⟨g,cap,cur,h⟩;omega;exact⟨g,cap,cur,h⟩
 have hug:Ai u16=θ g:=by rw[eu];simp[Ai,hcp]
 have hO:=hMo g hug;have⟨cv,us0,H,hnb⟩:=TM.start hg hO hg1 hg2 hg3 hg4 hL hnil
 have nq:∀q b,q≠78->q<149->(An (mkM O P p2 f p3 p s) q).box.owned=ν->β q=.pointer (θ ⟨b,0,κ⟩)->b≠g:=λq b T _ ho he hbg=>by
  subst hbg;exact T (S.inj q 78 b ho rfl (by rw[he];rfl) (by rw[<-k16];exact hug))
 have n5:=nq 5 b5 z0 z0 rfl e5;have n6:=nq 6 b6 z0 z0 rfl e6;have n8:=nq 8 b8 z0 z0 rfl e8;have n10:=nq 10 b10 z0 z0 rfl e10;have n16:=nq 16 b16 z0 z0 rfl e16
 have hval:=λ(row v:Int)(vs:Γ Int)(d:Cu O P [row] p3=θ vs)=>λwr (hk:AC w.heap.size (λb=>b=g) w wr) (rv:Ψ) (hrv:A5 (OS β X _) wr rv (Aq 1 D.z [row]))=>Zm (TV O P [row] p3 vs d) S (M:=λb=>b=g) (λb z=>z▸hO) hk #[.agg #[x50,x51],.agg #[x60,x61,x62,x63],rv,.int .i64 p3] rfl λi v x d hx=>by
  match i,d,hx with
  | 0,d,hx=>simp at d hx;subst d;subst hx;exact dS.mono ⟨hk.size,λ_ _ h=>h,λb hlt z=>hk.block b hlt λhm=>z (hm▸hO)⟩
  | 1,d,hx=>simp at d hx;subst d;subst hx;exact dX.mono ⟨hk.size,λ_ _ h=>h,λb hlt z=>hk.block b hlt λhm=>z (hm▸hO)⟩
  | 2,d,hx=>simp at d hx;subst d;subst hx;exact hrv
  | 3,d,hx=>simp at d hx;subst d;subst hx;exact .int _ _
  | i+4,d,hx=>simp at d
 have hkno:=λ(row c l:Int)(v:Int×Ω)(d:Bg O P row c l=θ v)=>λwr (hk:AC w.heap.size (λb=>b=g) w wr)=>jO (TK O P row c l v d) S (M:=λb=>b=g) (λb z=>z▸hO) hk #[.agg #[x50,x51],.agg #[x60,x61,x62,x63],.int .i64 row,.int .i64 c,.int .i64 l] rfl λi v x d hx=>by
  match i,d,hx with
  | 0,d,hx=>simp at d hx;subst d;subst hx;exact dS
  | 1,d,hx=>simp at d hx;subst d;subst hx;exact dX
  | 2,d,hx=>simp at d hx;subst d;subst hx;exact .int _ _
  | 3,d,hx=>simp at d hx;subst d;subst hx;exact .int _ _
  | 4,d,hx=>simp at d hx;subst d;subst hx;exact .int _ _
  | i+5,d,hx=>simp at d
 subst t5;subst t6;subst t8;subst t10;subst t16;subst t89;subst eu;have K16:Aside _:=k16;have K160:Aside _:=k160;have HF0:qN v2 (.pointer (θ ⟨b5,0,κ⟩)) (.pointer (θ ⟨b6,0,κ⟩)) (.pointer (θ ⟨b8,0,κ⟩)) (.pointer (θ ⟨b10,0,κ⟩)) (.pointer (θ ⟨b16,0,κ⟩)) (.slice a89 (Ξ p) c89) (Ξ p) 0 tm:=⟨I,s2,s5,s6,s8,s10,s16,s89,s90,s91⟩;show Code.wp _ (Code.block _ (Code.loop _)) _ _ _;refine wp_block ?_;have HY:Aside _:=hy;have HS:Aside _:=S;have HT:Aside _:=H;have HNB:Aside _:=hnb;have HV:Aside _:=hval;have HK:Aside _:=hkno;have H89:Aside _:=h89;have HX63:Aside _:=k63;have HD2:Aside _:=d2;have HMB:Aside (_/\_):=⟨hM,z⟩;have HO:Aside _:=hO;clear k16 k160 hy H hnb hval hkno h89 k63 d2 dS dX hM z hO nq c5 c6 c8 c10 c16 k50 k51 k60 k61 k62 hrow hL hMo ptr tv d89 hr0 hr1 hnil
 refine wp_loop_ghost_k (λm a W=>∃(k:Nat)(us:Γ Ψ)(cs:Γ Ap)(tm:Array Ψ)(Ds:Γ Nat)(ds:Γ Deferred),a={ tmps:=tm,defers:=ds }/\Aside (qN v2 (.pointer (θ ⟨b5,0,κ⟩)) (.pointer (θ ⟨b6,0,κ⟩)) (.pointer (θ ⟨b8,0,κ⟩)) (.pointer (θ ⟨b10,0,κ⟩)) (.pointer (θ ⟨b16,0,κ⟩)) (.slice a89 (Ξ p) c89) (Ξ p) k tm/\k<=Ξ p/\m=Ξ p-k/\GU O P p2 p3 (p.drop k) cs=θ y2/\Ξ cs=Ξ s/\TM (OS β X (mkM O P p2 f p3 p s)) w W g cap cv us cs/\vn w.heap.size Ds ds W))
  (Ξ p) ⟨0,us0,s,tm,[],[],rfl,HF0,Zag _,rfl,HY.out,rfl,HT.out,rfl,List.nodup_nil,λ_ h=>by cases h⟩ ?_
 rintro m a W ⟨k,us,cs,tm,Ds,ds,rfl,hI⟩ J K hJ hK;have HI:Aside _:=hI;have HJ:Aside _:=hJ;have HKK:Aside _:=hK;clear hI hJ hK HF0 I s2 s5 s6 s8 s10 s16 s89 s90 s91;have I:=HI.out.1.size;have s2:=HI.out.1.s2;have s5:=HI.out.1.s5;have s6:=HI.out.1.s6;have s8:=HI.out.1.s8;have s10:=HI.out.1.s10;have s16:=HI.out.1.s16;have s89:=HI.out.1.s89;have s90:=HI.out.1.s90;have s91:=HI.out.1.s91;obtain⟨l0,rfl⟩:∃l:Γ Ψ,tm=l.toArray:=⟨tm.toList,zs⟩;have G:Ξ l0=149:=by simpa using I
 iterate 18 (replace G:=ax G;obtain⟨_,_,_,_,_,_,_,_,l0,rfl,G⟩:=G)
 iterate 5 (replace G:=FG G;obtain⟨_,l0,rfl,G⟩:=G)
 obtain rfl:=List.length_eq_zero_iff.1 G;clear I G;simp only[Zej,Zep,Zcg,Option.some.injEq]at s2 s5 s6 s8 s10 s16 s89 s90 s91;subst s2;subst s5;subst s6;subst s8;subst s10;subst s16;subst s89;subst s90;subst s91;by_cases hk:k<Ξ p;have hkz:(k:Int)<(Ξ p:Int):=z0;have⟨U,_,_,E,L,H,F⟩:=HI.out;rw[jA hk]at E;simp only[GU]at E;have⟨v,d,E⟩:=Option.bind_eq_some_iff.1 E;have⟨own,hown,E⟩:=Option.bind_eq_some_iff.1 E;have⟨l,hl,E⟩:=Option.bind_eq_some_iff.1 E;have⟨key,hkey,E⟩:=Option.bind_eq_some_iff.1 E;have⟨cs1,hcs,hyR⟩:=Option.bind_eq_some_iff.1 E;have⟨e89,m89,lt89,g89⟩:=H89.out k hk;have C:=H.keep;have kc:∀(b o:Nat)(v:Ψ),b≠g->w.cell? ⟨b,o,κ⟩=θ v->W.cell? ⟨b,o,κ⟩=θ v:=λb o v T h=>(Ft C (World.block_lt_of_cell? _ _ h) T).trans h;have n89:b89≠g:=λe=>m89 (by rw[e];exact H.ng);have f89c:=kc _ _ _ n89 g89;have d50:=kc _ _ _ n5 q50;have d51:=kc _ _ _ n5 q51;have d60:=kc _ _ _ n6 q60;have d61:=kc _ _ _ n6 q61;have d62:=kc _ _ _ n6 q62;have d63:=kc _ _ _ n6 q63;have d80:=kc _ _ _ n8 q80;subst e89;generalize hrw:p.getD k 0=row at *;have hgW:g<W.heap.size:=H.glt
 have a2:∀(b o:Nat)(v:Ψ),W.cell? ⟨b,o,κ⟩=θ v->∀o1 o2,((W.alloc o1).alloc o2).cell? ⟨b,o,κ⟩=θ v:=λb o v h o1 o2=>by
  have:=World.block_lt_of_cell? _ _ h;rw[World.cell?_alloc_lt _ _ _ (by simp only at this ⊢;simp;omega),World.cell?_alloc_lt _ _ _ this];exact h
 have a3:∀(b o:Nat)(v:Ψ),W.cell? ⟨b,o,κ⟩=θ v->∀o1 o2 o3,(((W.alloc o1).alloc o2).alloc o3).cell? ⟨b,o,κ⟩=θ v:=λb o v h o1 o2 o3=>by
  have:=World.block_lt_of_cell? _ _ h;rw[World.cell?_alloc_lt _ _ _ (by simp only at this ⊢;simp;omega)];exact a2 b o v h o1 o2
 have f80:=a2 _ _ _ d80;have f83:=a3 _ _ _ d80;have f50:=a2 _ _ _ d50;have f51:=a2 _ _ _ d51;have f60:=a2 _ _ _ d60;have f61:=a2 _ _ _ d61;have f62:=a2 _ _ _ d62;have f63:=a2 _ _ _ d63
 have hin:∀(a b:Γ Int)(r:Ω),DL a b=θ r->∀(va vb:Ψ) wr,AC w.heap.size (λb=>b=g) w wr->A5 (OS β X (mkM O P p2 f p3 p s)) wr va (Aq 1 D.z a)->A5 (OS β X (mkM O P p2 f p3 p s)) wr vb (Aq 1 D.z b)->Calls prog 212 #[va,vb] wr λe w'=>e=.returned (.bool r)/\RowKit.Below wr.heap.size wr w':=λa b r h va vb wr hkk ha z=>(Zm (TN a b r h) HS.out (M:=λb=>b=g) (λb z=>z▸HO.out) hkk #[va,vb] rfl (λi v x d hx=>by
  match i,d,hx with
  | 0,d,hx=>simp at d hx;subst d;subst hx;exact ha
  | 1,d,hx=>simp at d hx;subst d;subst hx;exact z
  | i+2,d,hx=>simp at d)).mono λe w' ⟨v,he,hbl,hr⟩=>by
    obtain rfl:v=.bool r:=FS hr;exact⟨he,hbl⟩
 have hkn:∀(c lv:Int)(v:Int×Ω),Bg O P row c lv=θ v->∀wr,AC w.heap.size (λb=>b=g) w wr->Calls prog 125 #[.agg #[x50,x51],.agg #[x60,x61,x62,x63],.int .i64 row,.int .i64 c,.int .i64 lv] wr λe w'=>e=.returned (.tuple #[.int .i64 v.1,.bool v.2])/\RowKit.Below wr.heap.size wr w':=λc lv v h wr hkk=>(HK.out row c lv v h wr hkk).mono λe w' ⟨v',he,hbl,hr⟩=>by
  obtain⟨vs,rfl,I,hat,_⟩:=hr;have I:vs.size=2:=I;have G:vs[0]=.int .i64 v.1:=AP (hat 0 vs[0] _ zs rfl);have h1:vs[1]=.bool v.2:=FS (hat 1 vs[1] _ zs rfl);refine⟨?_,hbl⟩;rw[he]
  have:vs=#[.int .i64 v.1,.bool v.2]:=by
   apply Array.ext;simpa using I;intro i h1' h2'
   match i,h1' with
   | 0,_=>exact G
   | 1,_=>exact h1
   | i+2,h=>omega
  rw[this]
 have rest:=λ(Q:Exit->Act->Λ->Prop)(Br Bv:Nat)(tm:Array Ψ)(W2:Λ)=>xX (Q:=Q) (g:=g) (cap:=cap) (cv:=cv) (v89:=.slice (θ ⟨b89,o89,κ⟩) (Ξ p) c89) (Ds:=Ds) (ds:=ds) (p2:=p2) (us:=us) (Br:=Br) (Bv:=Bv) (n:=Ξ p) (k:=k) (value:=v) (tm:=tm) (W:=W2) (b10:=b10) (gc:=cap) hown hl hkey hcs hn2 z0 hkn hin (λb z=>HS.out.os_lt z) HD2.out HX63.out q50 q51 q60 q61 q62 q63 q80 (by rw[L];exact q16) n5 n6 n8 n16;have REST:Aside _:=rest;have HCL:Aside (Ξ cs1=Ξ cs):=(ZM cs cs1 hcs).2.1;have HA1:Aside (_/\_/\_/\_/\_/\_/\_):=⟨U,L,H,F,hyR,C,hgW⟩;have HV1:Aside _:=d;clear rest hkn hin U L H F hown hl hkey hcs E hyR C kc a2 a3 d hgW
 go_upto_if 96 with fail
 refine Afd xR (by assumption) λK1 HK1=>?_;by_cases hp3:0<=p3
 obtain⟨vs,hvs,hv0⟩:∃vs,Cu O P [row] p3=θ vs/\idx vs 0=θ v:=by
  have Z:=HV1.out;unfold Ls at Z;rw[show υ (0<=p3)=ν from Zak hp3]at Z;have⟨vs,hvs,Z⟩:=Option.bind_eq_some_iff.1 Z;exact⟨vs,hvs,Z⟩
 have⟨U,L,H,F,E,C,hgW⟩:=HA1.out;have hsW:=C.size
 have hc3:=HV.out row 0 vs hvs (((W.alloc (.cells #[.int .i64 row] 3)).alloc (.cells #[.int .i64 0] 3)).alloc (.cells #[.int .i64 row] 3)) (((H.keepS (K5 _ _)).keepS (K5 _ _)).keepS (K5 _ _)).keep (.slice (θ ⟨W.heap.size+1+1,0,κ⟩) 1 1)
  (X7 (l:=[row]) (.inl ⟨rfl,.inr ⟨W.heap.size+1+1,1,#[.int .i64 row],rfl,Zag _,mB _ _ _ zs,Zam _,j0,rfl,rfl⟩⟩) (λb z hO=>by
   have:=HS.out.os_lt hO;simp[Ai]at z;omega))
 have haf:∀(O':Nat->Prop) w2 rv,RowKit.Below (((W.alloc (.cells #[.int .i64 row] 3)).alloc (.cells #[.int .i64 0] 3)).alloc (.cells #[.int .i64 row] 3)).heap.size (((W.alloc (.cells #[.int .i64 row] 3)).alloc (.cells #[.int .i64 0] 3)).alloc (.cells #[.int .i64 row] 3)) w2->A5 O' w2 rv (Aq 1 D.z vs)->∃b o c,rv=.slice (θ ⟨b,o,κ⟩) (Ξ vs) c/\0<Ξ vs/\w2.cell? ⟨b,o,κ⟩=θ (.int .i64 v)/\w2.cell? ⟨W.heap.size+1,0,κ⟩=θ (.int .i64 0)/\w2.frozen? ⟨W.heap.size+1,0,κ⟩=ξ:=λO' w2 rv hb2 hr2=>by
  have⟨a,c,b,o,e,h⟩:=JF hr2
  have hl:0<Ξ vs:=by
   cases vs with
   | nil=>cases hv0
   | cons=>simp
  have⟨ea,_,_,hc⟩:=h 0 hl;subst ea
  have hv1:vs.getD 0 0=v:=by
   cases vs with
   | nil=>cases hv0
   | cons x y=>exact Zaf hv0
  rw[hv1]at hc
  have e1:w2.heap[W.heap.size+1]?=θ (.cells #[.int .i64 0] 3 (0,0)):=by
   rw[hb2.block _ zs,blk_alloc_lt _ _ _ zs];exact mB _ _ _ zs
  exact⟨b,o,c,e,hl,hc,by simp[World.cell?,e1],by simp[World.frozen?,e1]⟩
 have HC3:Aside _:=hc3;have HAF:Aside _:=haf;clear hc3 haf U L H F E C hgW hsW hvs hv0
 go_wp2_with (go_at_call 120;go_loud (refine Calls.mono HC3.out ?_;rintro e w2 ⟨rv,rfl,hb2,hr2⟩;obtain⟨rb,ro,rc,rfl,hl0,c104,cBv,fBv⟩:=HAF.out _ w2 rv hb2 hr2))
 subst HK1;have⟨U,L,H,F,hyZ,C,hgW⟩:=HA1.out;have hsW:=C.size;have hT3:=(((H.keepS (K5 W _)).keepS (K5 _ _)).keepS (K5 _ _)).keepS hb2;have hst:∀b,b≠W.heap.size+1->(w2.setCell ⟨W.heap.size+1,0,κ⟩ (.int .i64 v)).heap[b]?=w2.heap[b]?:=λb z=>blk_setCell_other _ _ _ _ z;refine REST.out _ W.heap.size (W.heap.size+1) _ _ (hT3.mono (hT3.keep.trans ⟨rfl,rfl,rfl,zs,λk hk _=>hst k z0⟩) (hst g z0) λi u b hi z hlt=>hst b (by have:=H.ublt hi z;omega)) ⟨F.eq,F.nodup,?hm⟩ ?fr ?e1 ?e2 ?c1 ?c2 hsW z0 ?ab ?dn
 case fr=>exact⟨rfl,rfl,rfl,rfl,rfl,rfl,rfl,rfl,rfl,rfl⟩
 case e1=>rfl
 case e2=>rfl
 case hm=>
  intro D h;have hD:=F.at_ D h;have hl:=EF hD.2;exact⟨hD.1,(hst D z0).trans ((hb2.block D zv).trans ((blk_alloc_lt _ _ _ zv).trans ((blk_alloc_lt _ _ _ zv).trans ((blk_alloc_lt _ _ _ hl).trans hD.2))))⟩
 case c1=>
  rw[World.cell?_setCell_far _ _ _ _ zs,IY hb2 (by simp<;>omega),World.cell?_alloc_lt _ _ _ zv];simp
 case c2=>exact World.cell?_setCell_same _ _ _ cBv
 case ab=>
  intro i u b hi hbb;have:=H.ublt hi hbb;exact⟨z0,z0⟩
 case dn=>
  intro tm' W' us' D hF' hT' hM';refine kgo (by assumption) ?_;have I:=hF'.size;have⟨_,f2,f5,f6,f8,f10,f16,f89,f90,f91⟩:=hF';obtain⟨l0,rfl⟩:∃l:Γ Ψ,tm'=l.toArray:=⟨tm'.toList,zs⟩;have G:Ξ l0=149:=by simpa using I
  iterate 18 (replace G:=ax G;obtain⟨_,_,_,_,_,_,_,_,l0,rfl,G⟩:=G)
  iterate 5 (replace G:=FG G;obtain⟨_,l0,rfl,G⟩:=G)
  obtain rfl:=List.length_eq_zero_iff.1 G;clear I G;simp only[Zej,Zep,Zcg,Option.some.injEq]at f2 f5 f6 f8 f10 f16 f89 f90 f91;subst f2;subst f5;subst f6;subst f8;subst f10;subst f16;subst f89;subst f90;subst f91;have HT2:Aside _:=hT';have HM2:Aside _:=hM';clear hT' hM'
  go_wp2_with fail
  refine HKK.out _ _ (Handed.intro (Ξ p-(k+1)) z0 (HJ.out _ _ _ ⟨k+1,us',cs1,_,D::Ds,_,rfl,⟨?_,rfl,rfl,rfl,rfl,rfl,rfl,rfl,rfl,?_⟩,z0,by rfl,hyZ,HCL.out.trans L,HT2.out,HM2.out⟩));rfl
  first|rfl|(simp;done)
 go_wp2_with fail
 subst HK1;have⟨U,L,H,F,hyZ,C,hgW⟩:=HA1.out;have Z:=HV1.out;unfold Ls at Z;rw[show υ (0<=p3)=ξ from Zap z0]at Z;obtain rfl:=Zaf Z;have hsW:=C.size;refine REST.out _ W.heap.size (W.heap.size+1) _ _ ((H.keepS (K5 W _)).keepS (K5 _ _)) ⟨F.eq,F.nodup,?hm⟩ ?fr ?e1 ?e2 ?c1 ?c2 hsW z0 ?ab ?dn
 case fr=>exact⟨rfl,rfl,rfl,rfl,rfl,rfl,rfl,rfl,rfl,rfl⟩
 case e1=>rfl
 case e2=>rfl
 case hm=>
  intro D h;have hD:=F.at_ D h;exact⟨hD.1,(blk_alloc_lt _ _ _ (by simp;exact Nat.lt_succ_of_lt (EF hD.2))).trans ((blk_alloc_lt _ _ _ (EF hD.2)).trans hD.2)⟩
 case c1=>simp
 case c2=>exact World.cell?_alloc_at _ _ _ _ zs
 case ab=>
  intro i u b hi hbb;have:=H.ublt hi hbb;exact⟨z0,z0⟩
 case dn=>
  intro tm' W' us' D hF' hT' hM';refine kgo (by assumption) ?_;have I:=hF'.size;have⟨_,f2,f5,f6,f8,f10,f16,f89,f90,f91⟩:=hF';obtain⟨l0,rfl⟩:∃l:Γ Ψ,tm'=l.toArray:=⟨tm'.toList,zs⟩;have G:Ξ l0=149:=by simpa using I
  iterate 18 (replace G:=ax G;obtain⟨_,_,_,_,_,_,_,_,l0,rfl,G⟩:=G)
  iterate 5 (replace G:=FG G;obtain⟨_,l0,rfl,G⟩:=G)
  obtain rfl:=List.length_eq_zero_iff.1 G;clear I G;simp only[Zej,Zep,Zcg,Option.some.injEq]at f2 f5 f6 f8 f10 f16 f89 f90 f91;subst f2;subst f5;subst f6;subst f8;subst f10;subst f16;subst f89;subst f90;subst f91;have HT2:Aside _:=hT';have HM2:Aside _:=hM';clear hT' hM'
  go_wp2_with fail
  refine HKK.out _ _ (Handed.intro (Ξ p-(k+1)) z0 (HJ.out _ _ _ ⟨k+1,us',cs1,_,D::Ds,_,rfl,⟨?_,rfl,rfl,rfl,rfl,rfl,rfl,rfl,rfl,?_⟩,z0,by rfl,hyZ,HCL.out.trans L,HT2.out,HM2.out⟩));rfl
  first|rfl|(simp;done)
 have hkz:¬((k:Int)<(Ξ p:Int)):=z0
 go_wp2_with fail
 have⟨U,hkl,_,E,L,H,F⟩:=HI.out;have C:=H.keep;have kc:∀(b o:Nat)(v:Ψ),b≠g->w.cell? ⟨b,o,κ⟩=θ v->W.cell? ⟨b,o,κ⟩=θ v:=λb o v T h=>(Ft C (World.block_lt_of_cell? _ _ h) T).trans h;have d160:=kc _ _ _ n16 q160;have d161:=kc _ _ _ n16 q161;have d162:=kc _ _ _ n16 q16;have d100:=kc _ _ _ n10 q100;have d101:=kc _ _ _ n10 q101;have d102:=kc _ _ _ n10 q102;have Y:W.heap[b10]?=θ (.cells cv10 T10 (0,0)):=(C.block b10 (EF hcv10) n10).trans hcv10;have f100:W.frozen? ⟨b10,0,κ⟩=ξ:=by simp[World.frozen?,Y]
 have f101:W.frozen? ⟨b10,1,κ⟩=ξ:=by simp[World.frozen?,Y]
 have f102:W.frozen? ⟨b10,2,κ⟩=ξ:=by simp[World.frozen?,Y]
 have HB:Aside (_/\_/\_/\_/\_/\_/\_/\_):=⟨U,hkl,E,L,H,F,C,Y⟩;clear U hkl E L H F C kc Y;show Code.wp _ (Code.seq _ _) _ _ _
 go_wp2_with fail
 have⟨U,hkl,E,L,H,F,C,Y⟩:=HB.out;have hkn:k=Ξ p:=z0;rw[hkn,List.drop_length]at E;obtain rfl:cs=y2:=Zaf E;rw[F.eq];have hO:=HO.out;have hg0:=HS.out.mine 78 g rfl (by rw[<-K16.out];simp[Ai,hcp]);have hb0:=HS.out.mine 10 b10 rfl (by rw[e10];rfl);have hO10:OS β X (mkM O P p2 f p3 p s) b10:=bT HS.out 10 rfl b10 (by rw[e10];rfl);have hbl:w.heap.size<=W.heap.size:=C.size;have hl10:b10<w.heap.size:=EF hcv10;have hoth:∀b,b≠b10->(((W.setCell ⟨b10,0,κ⟩ (.slice A (Ξ f) B)).setCell ⟨b10,1,κ⟩ (.int .i64 p3)).setCell ⟨b10,2,κ⟩ (.slice (θ ⟨g,0,κ⟩) (Ξ s) cap)).heap[b]?=W.heap[b]?:=λb z=>(blk_setCell_other _ _ _ _ z).trans ((blk_setCell_other _ _ _ _ z).trans (blk_setCell_other _ _ _ _ z));have c0:=(World.cell?_setCell_other ((W.setCell ⟨b10,0,κ⟩ (.slice A (Ξ f) B)).setCell ⟨b10,1,κ⟩ (.int .i64 p3)) ⟨b10,2,κ⟩ ⟨b10,0,κ⟩ (.slice (θ ⟨g,0,κ⟩) (Ξ s) cap) zs).trans ((World.cell?_setCell_other (W.setCell ⟨b10,0,κ⟩ (.slice A (Ξ f) B)) ⟨b10,1,κ⟩ ⟨b10,0,κ⟩ (.int .i64 p3) zs).trans (World.cell?_setCell_same W _ (.slice A (Ξ f) B) d100));have c1:=(World.cell?_setCell_other ((W.setCell ⟨b10,0,κ⟩ (.slice A (Ξ f) B)).setCell ⟨b10,1,κ⟩ (.int .i64 p3)) ⟨b10,2,κ⟩ ⟨b10,1,κ⟩ (.slice (θ ⟨g,0,κ⟩) (Ξ s) cap) zs).trans (World.cell?_setCell_same _ _ (.int .i64 p3) ((World.cell?_setCell_other W ⟨b10,0,κ⟩ ⟨b10,1,κ⟩ (.slice A (Ξ f) B) zs).trans d101));have c2:=World.cell?_setCell_same ((W.setCell ⟨b10,0,κ⟩ (.slice A (Ξ f) B)).setCell ⟨b10,1,κ⟩ (.int .i64 p3)) ⟨b10,2,κ⟩ (.slice (θ ⟨g,0,κ⟩) (Ξ s) cap) ((World.cell?_setCell_other (W.setCell ⟨b10,0,κ⟩ (.slice A (Ξ f) B)) ⟨b10,1,κ⟩ ⟨b10,2,κ⟩ (.int .i64 p3) zs).trans ((World.cell?_setCell_other W ⟨b10,0,κ⟩ ⟨b10,2,κ⟩ (.slice A (Ξ f) B) zs).trans d102));have hs3:(((W.setCell ⟨b10,0,κ⟩ (.slice A (Ξ f) B)).setCell ⟨b10,1,κ⟩ (.int .i64 p3)).setCell ⟨b10,2,κ⟩ (.slice (θ ⟨g,0,κ⟩) (Ξ s) cap)).heap.size=W.heap.size:=zs;have ho3:AC w.heap.size (λb=>b=g\/b=b10) w (((W.setCell ⟨b10,0,κ⟩ (.slice A (Ξ f) B)).setCell ⟨b10,1,κ⟩ (.int .i64 p3)).setCell ⟨b10,2,κ⟩ (.slice (θ ⟨g,0,κ⟩) (Ξ s) cap)):=⟨C.os,C.tape,C.output,by rw[hs3];exact hbl,λj hj T=>(hoth j λe=>T (.inr e)).trans (C.block j hj λe=>T (.inl e))⟩;generalize (((W.setCell ⟨b10,0,κ⟩ (.slice A (Ξ f) B)).setCell ⟨b10,1,κ⟩ (.int .i64 p3)).setCell ⟨b10,2,κ⟩ (.slice (θ ⟨g,0,κ⟩) (Ξ s) cap))=W3 at *;have hgl:g<w.heap.size:=H.lt
 have hu10:∀(i:Nat) u b,us[i]?=θ u->Ai u=θ b->w.heap.size<=b:=λi u b hi z=>by
  have hil:i<Ξ cs:=by rw[<-H.len];exact AG hi
  exact(H.row i cs[i] u (Zaa hil) hi).2 b z
 show LeavesInM _ _ _ _ _ _ _ .returning W3;refine aw (N:=w.heap.size) (λw'=>AC w.heap.size (λb=>b=g\/b=b10) w w'/\w'.heap[g]?=W.heap[g]?/\w'.heap[b10]?=W3.heap[b10]?/\(∀(i:Nat) u b,us[i]?=θ u->Ai u=θ b->w'.heap[b]?=W.heap[b]?)/\W.heap.size<=w'.heap.size) (λw' hI=>?_) (λw' D hD hI hd=>?_) Ds W3 F.nodup (λD hD=>?_) ⟨ho3,hoth g (λe=>by subst e;exact n10 rfl),rfl,λi u b hi z=>hoth b (by have:=hu10 i u b hi z;omega),z0⟩;have⟨i1,i2,i3,i4,i5⟩:=hI;have k0:=(World.cell?_of_block (w:=W3) (a:=⟨b10,0,κ⟩) i3).trans c0;have k1:=(World.cell?_of_block (w:=W3) (a:=⟨b10,1,κ⟩) i3).trans c1;have k2:=(World.cell?_of_block (w:=W3) (a:=⟨b10,2,κ⟩) i3).trans c2;have⟨hM,hbX⟩:=HMB.out;have hba:=HS.out.hbase;have hg1:X.base<=g:=hg0.1.resolve_right (hM g);have hb1:X.base<=b10:=hb0.1.resolve_right (hM b10);show ∃v,(results _ _).run _ w'=.ok v w'/\_;refine⟨.tuple #[.agg #[.slice A (Ξ f) B,.int .i64 p3,.slice (θ ⟨g,0,κ⟩) (Ξ s) cap],.int .i64 0],?res,_,rfl,?bel,?rep⟩
 case res=>
  first|(simp[results,f57,asAddr,k0,k1,k2];done)|(unfold results;go_simp;done)
 case bel=>exact⟨i1.os.trans HS.out.below.os,i1.tape.trans HS.out.below.tape,i1.output.trans HS.out.below.output,Zbl HS.out.below.size i1.size,λj hj=>(i1.block j z0 z0).trans (HS.out.below.block j z0 (hM j))⟩
 case rep=>
  have hz:∀b v (x:AV),¬EZ v (.tup [.d (JW { V:=f,Ah:=p3,Av:=cs }),.i 0]) b:=by
   rintro b v x ⟨vs,i,u,sz,e,ys,_,_,h,_⟩
   match i,h with
   | 0,h=>cases h
   | 1,h=>cases h
   | i+2,h=>simp at h
  generalize hOO:(λb=>X.O b\/EZ (.tuple #[.agg #[.slice A (Ξ f) B,.int .i64 p3,.slice (θ ⟨g,0,κ⟩) (Ξ s) cap],.int .i64 0]) (.tup [.d (JW { V:=f,Ah:=p3,Av:=cs }),.i 0]) b)=OO
  have hOX:∀b,OO b->X.O b:=λb z=>by
   rw[<-hOO]at z;exact z.resolve_right (hz b _ (.i 0))
  have hKp:Cg (OS β X (mkM O P p2 f p3 p s)) OO w w':=⟨i1.size,λb _ z=>.inl (hOX b z),λb hlt z=>i1.block b hlt λe=>z (by rcases e with rfl|rfl;exact hO;exact hO10)⟩;have hnO:∀b,X.base<=b->¬OO b:=λb z h=>by have:=(HS.out.o₀ b (hOX b h)).1;omega
  refine⟨_,rfl,rfl,λi u x hu hx=>?_,λi j u u' sz e ys sz' e' ys' b h1 h2 h3=>?_⟩
  match i,hu,hx with
  | 0,hu,hx=>
    simp at hu hx;subst hu;subst hx;show A5 _ w' _ _;rw[hOO];refine .agg _ _ rfl (by simp[D.one]) λi v x d hx=>?_
    match i,d,hx with
    | 0,d,hx=>simp at d hx;subst d;subst hx;exact K160.out.mono hKp
    | 1,d,hx=>simp at d hx;subst d;subst hx;exact .int _ _
    | 2,d,hx=>
      simp at d hx;subst d;subst hx;rw[<-L];refine qE z0 (hnO g hg1) (by have:=H.le;omega) z0 H.clen H.len (λj c v u a1 a2 a3=>(H.cells j c v u a1 a2 a3).of_block i2) (λj c v a1 a2=>(H.codes j c v a1 a2).mono hKp) λj c u a1 a2=>?_;have⟨r1,r2⟩:=H.row j c u a1 a2;exact X7 (r1.mono λb _ hbb=>i4 j u b a2 hbb) λb hbb=>hnO b (Zbl hba (r2 b hbb))
    | i+3,d,hx=>simp at d
  | 1,hu,hx=>
    simp at hu hx;subst hu;subst hx;exact .int _ _
  | i+2,hu,hx=>simp at hu
  match i,h3 with
  | 0,h=>cases h
  | 1,h=>cases h
  | i+2,h=>simp at h
 have⟨i1,i2,i3,i4,i5⟩:=hI;have ot:∀b,b≠D->(w'.putObj D (.deferred κ)).heap[b]?=w'.heap[b]?:=λb z=>World.putObj_heap_other z;refine⟨⟨i1.os,i1.tape,i1.output,by simpa using i1.size,λj hj T=>(ot j z0).trans (i1.block j hj T)⟩,(ot g z0).trans i2,(ot b10 z0).trans i3,λi u b hi z=>(ot b λe=>?_).trans (i4 i u b hi z),by simpa using i5⟩;subst e;have⟨_,_,_,hc⟩:=H.ucells hi z;rw[i4 i u b hi z,hc]at hd
 cases hd
 have⟨h1,h2⟩:=F.at_ D hD;exact⟨h1,(hoth D z0).trans h2⟩
