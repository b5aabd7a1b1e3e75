/- FE -/
import Derived.RangeFuncLeaves
import Derived.ControlIn
import Derived.Test.YtaojdkijihbaoaaGreatDoorFD
import Derived.RangeFuncNested
import Derived.Shelf.Abstract
import Derived.OwnWalkIn
import Derived.TacticsInMore
import Derived.LoopNIn
import Derived.LoopIn
import Derived.OrdersIn
import Derived.RangeFuncFrom
import Derived.RangeFuncCalls
import Derived.BigRegion
import Derived.RangeFuncBox
import Derived.Deep.Cut
open Go.Proofs.Tryz
set_option linter.all false
namespace Go.Abs
open Go Go.RowKit
def Oo(P:Program)(fn:Func)(r:AV)(X:Cx):Exit->Act->World->Prop :=
 bodyPostM Fence.wide 5 P fn λe w'=>∃v,e=.returned v/\Below X.w₀.heap.size X.w₀ w'/\Di (λb=>X.w₀.heap.size<=b) X.O w' v r
structure ZO(P:Program)(fn:Func)(r:AV)(S:AS)(b c:Code):Prop where
 go:∃S₁,Le S S₁/\∀(X:Cx)(β:Nat->Value)(a:Act)(w:World),(∀b,¬X.M b)->X.w₀.heap.size=X.base->SimB X (λ_=>False) β S₁ a w->b.wp P (Exit.then (c.wp P (Oo P fn r X)) (Oo P fn r X)) a w
theorem td{P:Program}{fn:Func}{r:AV}{S:AS}{b c:Code}(d:AS)(h:Le S d)
 (hx:∀(X:Cx)(β:Nat->Value)(a:Act)(w:World),(∀b,¬X.M b)->X.w₀.heap.size=X.base->SimB X (λ_=>False) β d a w->b.wp P (Exit.then (c.wp P (Oo P fn r X)) (Oo P fn r X)) a w):ZO P fn r S b c:=⟨⟨d,h,hx⟩⟩
noncomputable def jj(P:Program)(J:List Nat)(fn:Func)(r:AV)(n:Nat):Code->(Exit->AS->Prop)->AS->Prop :=
 Nat.rec (motive:=λ_=>Code->(Exit->AS->Prop)->AS->Prop)
  (λx Q S=>match x with
   | .seq (.seq a b) c=>ZJ P J a (λe S=>match e with|.normal=>ZO P fn r S b c|e=>Q e S) S
   | _=>False)
  (λ_ ih x Q S=>match x with
   | .seq x y=>match aJ J y with
     | false=>ZJ P J x (λe S=>match e with|.normal=>ih y Q S|e=>Q e S) S
     | true=>Q3 S (ZJ P J x) (ih y) Q
   | _=>False) n
def gU(P:Program)(n:Nat)(J:List Nat)(fn:Func)(args:List AV)(r:AV):Prop :=
 match fn.body with
 | some c=>EF (enter 0 args (FG fn.ntmps)) (jj P J fn r n c (λe S=>match e with
   | .ret=>gk P fn.results.toList [] [] S r
   | _=>False))
 | none=>False
variable {P:Program} {X:Cx} {fn:Func} {r:AV}
theorem R5{J:List Nat}(f:Nh P)(q:∀b,¬X.M b)(s:X.w₀.heap.size=X.base){Q:Exit->AS->Prop}(k:∀e a w,qJ X Q e a w->e≠.normal->Oo P fn r X e a w):∀(n:Nat)(c:Code){S:AS}{β:Nat->Value}{a:Act}{w:World},
 jj P J fn r n c Q S->SimB X (λ_=>False) β S a w->c.wp P (Oo P fn r X) a w
 | 0,c,S,β,a,w,hy,h=>by
   cases c with
   | seq x c =>
     cases x with
     | seq x b =>
       have hy:ZJ P J x (λe S=>match e with|.normal=>ZO P fn r S b c|e=>Q e S) S:=hy;refine wp_seq (wp_seq (wp_mono (EI f x hy h) λe p w' d=>?_));obtain⟨j,S',d,g⟩:=d
       cases e with
       | normal =>
         obtain⟨u,o,hx⟩:=d.go;refine wp_mono (hx X j p w' q s (g.le o)) λe p w' h=>?_
         cases e<;>exact h
       | exit id=>exact k _ _ _ ⟨j,S',d,g⟩ (by simp)
       | goto l=>exact k _ _ _ ⟨j,S',d,g⟩ (by simp)
       | ret=>exact k _ _ _ ⟨j,S',d,g⟩ (by simp)
       | panic t=>exact k _ _ _ ⟨j,S',d,g⟩ (by simp)
       | outgrown=>exact k _ _ _ ⟨j,S',d,g⟩ (by simp)
     | _=>exact(show False from hy).elim
   | _=>exact(show False from hy).elim
 | n+1,c,S,β,a,w,hy,h=>by
   cases c with
   | seq x y =>
     have hy:match aJ J y with
      | false=>ZJ P J x (λe S=>match e with|.normal=>jj P J fn r n y Q S|e=>Q e S) S
      | true=>Q3 S (ZJ P J x) (jj P J fn r n y) Q:=hy
     split at hy
     ·refine wp_seq (wp_mono (EI f x hy h) λe p w' d=>?_);obtain⟨j,S',d,g⟩:=d
      cases e with
      | normal=>exact R5 f q s k n y d g
      | exit id=>exact k _ _ _ ⟨j,S',d,g⟩ (by simp)
      | goto l=>exact k _ _ _ ⟨j,S',d,g⟩ (by simp)
      | ret=>exact k _ _ _ ⟨j,S',d,g⟩ (by simp)
      | panic t=>exact k _ _ _ ⟨j,S',d,g⟩ (by simp)
      | outgrown=>exact k _ _ _ ⟨j,S',d,g⟩ (by simp)
     ·obtain⟨ι,Inv,hx,m⟩:=hy.go;simp only[F5]at m;refine wp_seq (wp_mono (EI f x hx h) λe p w' d=>?_);obtain⟨j,S',d,g⟩:=d
      cases e with
      | normal =>
        obtain⟨i,o⟩:=d;exact R5 f q s k n y (m i) (g.le o)
      | exit id=>exact k _ _ _ ⟨j,S',d,g⟩ (by simp)
      | goto l=>exact k _ _ _ ⟨j,S',d,g⟩ (by simp)
      | ret=>exact k _ _ _ ⟨j,S',d,g⟩ (by simp)
      | panic t=>exact k _ _ _ ⟨j,S',d,g⟩ (by simp)
      | outgrown=>exact k _ _ _ ⟨j,S',d,g⟩ (by simp)
   | _=>exact(show False from hy).elim
theorem lx(n:Nat)(J:List Nat){f:FuncId}{fn:Func}{args:List AV}{r:AV}(C:P.funcs[f]?=some fn)(m:(fn.name == "runtime.NumGoroutine")=false)(hr:gU P n J fn args r):Ax P f args r:=by
 unfold gU at hr;split at hr
 ·rename_i c D
  refine⟨by simp[F0,C,m,D],λO w vs H t k d=>?_⟩;rw[F5]at hr
  have a:∀x∈args,x.mut=false:=by
   intro x hx;obtain⟨i,E⟩:=List.mem_iff_getElem?.1 hx;have u:i<vs.size:=by rw[k];exact A6 E
   have:=d i vs[i] x (by simp[u]) E
   cases x<;>first|rfl|exact this.elim
  have I:OY (λb=>O b\/HQ vs args b) w:=λg cs K=>(t g cs K).mono (BA.of_sub λb o=>o.resolve_right (Iv a b))
  have q:=Vj (n:=fn.ntmps) (M:=λ_=>False) H I k (λb s=>absurd s (Iv a b)) (λi j v R x y b _ _ hx _ s=>by rw[a x (uy hx)]at s;cases s)
   (λi v x L hx=>by
    have z:=(d i v x L hx).mono (O':=λb=>O b\/HQ vs args b) (BA.of_sub λb o=>o.resolve_right (Iv a b));have G:=a x (uy hx)
    cases x<;>first|exact z|cases G)
  refine callsIn_wide.1 (callsIn_of_wp_marks (F:=Fence.wide) (n:=5) C D trivial (wpIn_wide.2 (R5 (LG P) (Iv a) rfl (λe N w' p A=>?_) n c hr q)));obtain⟨S,S',p,B⟩:=p
  cases e with
  | normal=>exact(A rfl).elim
  | ret =>
    obtain⟨v,T,z,G,_,_,_,Q,_⟩:=TC B (frz:=[]) trivial (λ_ h=>by cases h) p;show LeavesInM _ _ _ _ _ _ N.defers .returning w';rw[B.df];exact⟨v,z,v,rfl,B.below.below (Iv a),Q.mono (λb o=>o.1.resolve_right (Iv a b)) (λb o=>.inl o)⟩
  | exit id=>exact p.elim
  | goto l=>exact p.elim
  | panic U=>exact p.elim
  | outgrown=>exact p.elim
 ·exact hr.elim
end Go.Abs
namespace Go.Proofs.YtaojdkijihbaoaaGreatDoor.P
open Go Go.Abs Go.Proofs Go.Deep
set_option maxRecDepth 100000
structure FQ(wr:World)(g k:Nat)(v u:Value)(c:An):Prop where
 c0:wr.cell? ⟨g,k*7,none⟩=some v
 c1:wr.cell? ⟨g,k*7+1,none⟩=some (.int .i64 c.Af)
 c2:wr.cell? ⟨g,k*7+2,none⟩=some (.int .i64 c.A6)
 c3:wr.cell? ⟨g,k*7+3,none⟩=some (.int .i64 c.A8)
 c4:wr.cell? ⟨g,k*7+4,none⟩=some (.int .i64 c.Ba)
 c5:wr.cell? ⟨g,k*7+5,none⟩=some (.int .i64 c.Bg)
 c6:wr.cell? ⟨g,k*7+6,none⟩=some u
structure TM(O:Nat->Prop)(w0 wr:World)(g cap:Nat)(cv us:List Value)(l:List An):Prop where
 keep:A8 w0.heap.size (λb=>b=g) w0 wr
 lt:g<w0.heap.size
 ng:O g
 len:us.length=l.length
 clen:cv.length=l.length
 obj:∃cur,wr.heap[g]?=some (.cells cur 166 (0,0))/\cur.size=cap*7
 le:l.length<=cap/\cap<=maxLen
 cells:∀(j:Nat) c v u,l[j]?=some c->cv[j]?=some v->us[j]?=some u->FQ wr g j v u c
 codes:∀(j:Nat) c v,l[j]?=some c->cv[j]?=some v->Ay O w0 v (Ao 1 D.z c.Q)
 row:∀(j:Nat) c u,l[j]?=some c->us[j]?=some u->Bw wr 3 1 u c.G.length (c.G.map (Value.int .i64))/\∀b,Ae u=some b->w0.heap.size<=b
 apart:∀(i j:Nat) u v b,us[i]?=some u->us[j]?=some v->Ae u=some b->Ae v=some b->i=j
section
variable {O:Nat->Prop} {w0 wr w':World} {g cap:Nat} {cv us:List Value} {l:List An}
theorem FQ.of_block{k:Nat}{v u:Value}{c:An}(h:FQ wr g k v u c)(a:w'.heap[g]?=wr.heap[g]?):FQ w' g k v u c:=by
 have e:∀o,w'.cell? ⟨g,o,none⟩=wr.cell? ⟨g,o,none⟩:=λo=>World.cell?_of_block (w:=wr) a;exact⟨by rw[e];exact h.c0,by rw[e];exact h.c1,by rw[e];exact h.c2,by rw[e];exact h.c3,by rw[e];exact h.c4,by rw[e];exact h.c5,by rw[e];exact h.c6⟩
theorem TM.glt(h:TM O w0 wr g cap cv us l):g<wr.heap.size:=uw h.lt h.keep.size
theorem TM.mono(h:TM O w0 wr g cap cv us l)(hk:A8 w0.heap.size (λb=>b=g) w0 w')(f:w'.heap[g]?=wr.heap[g]?)(k:∀(i:Nat) u b,us[i]?=some u->Ae u=some b->b<wr.heap.size->w'.heap[b]?=wr.heap[b]?):TM O w0 w' g cap cv us l :=
 ⟨hk,h.lt,h.ng,h.len,h.clen,by rw[f];exact h.obj,h.le,λj c v u d a m=>(h.cells j c v u d a m).of_block f,h.codes,λj c u d a=>⟨(h.row j c u d a).1.mono λb n e=>k j u b a e n,(h.row j c u d a).2⟩,h.apart⟩
theorem TM.keepS(h:TM O w0 wr g cap cv us l)(a:RowKit.Below wr.heap.size wr w'):TM O w0 w' g cap cv us l:=by
 have d:=h.keep.size;exact h.mono (h.keep.trans ⟨a.os,a.tape,a.output,a.size,λk hk _=>a.block k (by omega)⟩) (a.block g h.glt) λ_ _ b _ _ c=>a.block b c
structure TQ(g k cap:Nat)(W W':World):Prop where
 os:W'.os=W.os
 tape:W'.tape=W.tape
 output:W'.output=W.output
 size:W'.heap.size=W.heap.size
 blk:∀b,b≠g->W'.heap[b]?=W.heap[b]?
 obj:(∃cur,W.heap[g]?=some (.cells cur 166 (0,0))/\cur.size=cap*7)->∃cur,W'.heap[g]?=some (.cells cur 166 (0,0))/\cur.size=cap*7
 oth:∀o,(∀i,i<7->o≠k*7+i)->W'.cell? ⟨g,o,none⟩=W.cell? ⟨g,o,none⟩
theorem TQ.refl(g k cap:Nat)(W:World):TQ g k cap W W:=⟨rfl,rfl,rfl,rfl,λ_ _=>rfl,id,λ_ _=>rfl⟩
theorem TQ.set{k:Nat}{W:World}(h:TQ g k cap W w')(i:Nat)(c:i<7)(v:Value):TQ g k cap W (w'.setCell ⟨g,k*7+i,none⟩ v) :=
 ⟨(by show w'.os=_;exact h.os),(by show w'.tape=_;exact h.tape),(by show w'.output=_;exact h.output),by simpa using h.size,λb a=>(blk_setCell_other _ _ _ _ (by show b≠g;exact a)).trans (h.blk b a),
  λho=>by
   obtain⟨cur,d,f⟩:=h.obj ho;exact⟨cur.setIfInBounds (k*7+i) v,heap_setCell_same _ _ _ _ _ _ d,by simpa using f⟩,
  λo ho=>(World.cell?_setCell_other _ _ _ _ (λe=>ho i c (by have:=congrArg Addr.off e;exact this.symm))).trans (h.oth o ho)⟩
theorem TM.step(h:TM O w0 wr g cap cv us l){k:Nat}{c c':An}{u u':Value}(H:l[k]?=some c)(w:us[k]?=some u)(r:A8 wr.heap.size (λb=>b=g\/Ae u=some b) wr w')(x:∃cur,w'.heap[g]?=some (.cells cur 166 (0,0))/\cur.size=cap*7)
 (s:c'.Q=c.Q) (N:∀v,cv[k]?=some v->FQ w' g k v u' c') (A:∀o,(∀i,i<7->o≠k*7+i)->w'.cell? ⟨g,o,none⟩=wr.cell? ⟨g,o,none⟩)
 (hr:Bw w' 3 1 u' c'.G.length (c'.G.map (Value.int .i64))) (I:∀b,Ae u'=some b->Ae u=some b\/wr.heap.size<=b):TM O w0 w' g cap cv (us.set k u') (l.set k c'):=by
 have P:=h.keep.size;have U:=h.lt;have p:k<us.length:=A6 w;have t:k<l.length:=A6 H;obtain⟨Q,B⟩:=h.row k c u H w
 have C:∀(j:Nat) v b,us[j]?=some v->Ae v=some b->w0.heap.size<=b/\b<wr.heap.size:=λj v b K r=>by
  have J:j<l.length:=by rw[<-h.len];exact A6 K
  obtain⟨a,f⟩:=h.row j l[j] v (P3 J) K;exact⟨f b r,a.lt r⟩
 refine⟨h.keep.trans (r.weaken P λb D R m=>?_),h.lt,h.ng,by simp[h.len],by simp[h.clen],x,by simpa using h.le,λj d v y a f n=>?_,λj d v a f=>?_,λj d y a f=>?_,λi j y z b a f n G=>?_⟩
 ·rcases m with m|m
  ·exact R m
  ·have:=B b m;omega
 ·rw[vk]at a n;by_cases e:k=j
  ·subst e;rw[uk rfl,uk t]at a;rw[uk rfl,uk p]at n;obtain rfl:=uc a;obtain rfl:=uc n;exact N v f
  ·rw[uo e]at a n;have q:=h.cells j d v y a f n;have z:∀i,i<7->w'.cell? ⟨g,j*7+i,none⟩=wr.cell? ⟨g,j*7+i,none⟩:=λi V=>A _ λW S=>by omega
   exact⟨by rw[show j*7=j*7+0 from rfl,z 0 (by omega)];exact q.c0,by rw[z 1 (by omega)];exact q.c1,by rw[z 2 (by omega)];exact q.c2,by rw[z 3 (by omega)];exact q.c3,by rw[z 4 (by omega)];exact q.c4,by rw[z 5 (by omega)];exact q.c5,by rw[z 6 (by omega)];exact q.c6⟩
 ·rw[vk]at a;by_cases e:k=j
  ·subst e;rw[uk rfl,uk t]at a;obtain rfl:=uc a;rw[s];exact h.codes k c v H f
  ·rw[uo e]at a;exact h.codes j d v a f
 ·rw[vk]at a f;by_cases e:k=j
  ·subst e;rw[uk rfl,uk t]at a;rw[uk rfl,uk p]at f;obtain rfl:=uc a;obtain rfl:=uc f;exact⟨hr,λb r=>(I b r).elim (λq=>B b q) λq=>by omega⟩
  ·rw[uo e]at a f;obtain⟨T,L⟩:=h.row j d y a f;refine⟨T.mono λb D E=>r.block b D λm=>?_,L⟩;rcases m with m|m
   ·subst m;have:=L b E;omega
   ·exact e (h.apart k j u y b w f m E)
 ·rw[vk]at a f;by_cases M:k=i
  ·subst M;rw[uk rfl,uk p]at a;obtain rfl:=uc a;by_cases F:k=j
   ·exact F
   ·rw[uo F]at f;rcases I b n with q|q
    ·exact h.apart k j u z b w f q G
    ·have:=(C j z b f G).2;omega
  ·rw[uo M]at a;by_cases F:k=j
   ·subst F;rw[uk rfl,uk p]at f;obtain rfl:=uc f;rcases I b G with q|q
    ·exact h.apart i k y u b a w n q
    ·have:=(C i y b a n).2;omega
   ·rw[uo F]at f;exact h.apart i j y z b a f n G
end
set_option maxRecDepth 1000000
set_option maxHeartbeats 6400000
theorem L5{w:World}{g cap:Nat}{T:TypeId}(h:∃cur,w.heap[g]?=some (.cells cur T (0,0))/\cur.size=cap*7)(o:Nat):w.frozen? ⟨g,o,none⟩=false:=by
 obtain⟨cur,h,_⟩:=h;simp[World.frozen?,h]
theorem bR{P:Program}{f:FuncId}{args:Array Value}{w:World}{Q:Ending->World->Prop}(h:∀R:Ending->World->Prop,Aside (∀e w',Q e w'->R e w')->Calls P f args w R):Calls P f args w Q:=h Q λ_ _ h=>h
theorem sV(n:Int):IntKind.i64.wrap n=RowKit.wrap64 n:=by simp only[IntKind.wrap_i64,RowKit.wrap64]
theorem Um{w:World}{g o:Nat}{v x:Value}(h:w.cell? ⟨g,o,none⟩=some v):(w.setCell ⟨g,o,none⟩ x).cell? ⟨g,o,none⟩=some x:=World.cell?_setCell_same _ _ _ h
theorem Dq{w:World}{g o o':Nat}{v x:Value}(h:w.cell? ⟨g,o',none⟩=some v)(a:o≠o'):(w.setCell ⟨g,o,none⟩ x).cell? ⟨g,o',none⟩=some v:=(World.cell?_setCell_other _ _ _ _ (λe=>a (congrArg Addr.off e))).trans h
section
variable {w:World} {g k:Nat} {v u:Value} {c:An}
theorem FQ.set6(h:FQ w g k v u c)(x:Value):FQ (w.setCell ⟨g,k*7+6,none⟩ x) g k v x c :=
 ⟨Dq h.c0 (by omega),Dq h.c1 (by omega),Dq h.c2 (by omega),Dq h.c3 (by omega),Dq h.c4 (by omega),Dq h.c5 (by omega),Um h.c6⟩
theorem FQ.set2(h:FQ w g k v u c)(x:Int):FQ (w.setCell ⟨g,k*7+2,none⟩ (.int .i64 x)) g k v u { c with A6:=x } :=
 ⟨Dq h.c0 (by omega),Dq h.c1 (by omega),Um h.c2,Dq h.c3 (by omega),Dq h.c4 (by omega),Dq h.c5 (by omega),Dq h.c6 (by omega)⟩
theorem FQ.set3(h:FQ w g k v u c)(x:Int):FQ (w.setCell ⟨g,k*7+3,none⟩ (.int .i64 x)) g k v u { c with A8:=x } :=
 ⟨Dq h.c0 (by omega),Dq h.c1 (by omega),Dq h.c2 (by omega),Um h.c3,Dq h.c4 (by omega),Dq h.c5 (by omega),Dq h.c6 (by omega)⟩
theorem FQ.set4(h:FQ w g k v u c)(x:Int):FQ (w.setCell ⟨g,k*7+4,none⟩ (.int .i64 x)) g k v u { c with Ba:=x } :=
 ⟨Dq h.c0 (by omega),Dq h.c1 (by omega),Dq h.c2 (by omega),Dq h.c3 (by omega),Um h.c4,Dq h.c5 (by omega),Dq h.c6 (by omega)⟩
theorem FQ.set5(h:FQ w g k v u c)(x:Int):FQ (w.setCell ⟨g,k*7+5,none⟩ (.int .i64 x)) g k v u { c with Bg:=x } :=
 ⟨Dq h.c0 (by omega),Dq h.c1 (by omega),Dq h.c2 (by omega),Dq h.c3 (by omega),Dq h.c4 (by omega),Um h.c5,Dq h.c6 (by omega)⟩
theorem FQ.same(h:FQ w g k v u c){c':An}(a:c.Af=c'.Af)(b:c.A6=c'.A6)(d:c.A8=c'.A8)(e:c.Ba=c'.Ba)(f:c.Bg=c'.Bg):FQ w g k v u c' :=
 ⟨h.c0,a▸h.c1,b▸h.c2,d▸h.c3,e▸h.c4,f▸h.c5,h.c6⟩
end
theorem lz(W:World)(g k cap:Nat)(v u:Value)(c:An)(key value:Int)(m:Bool)(L:FQ W g k v u c)(j:∃cur,W.heap[g]?=some (.cells cur 166 (0,0))/\cur.size=cap*7)
 (hr:Bw W 3 1 u c.G.length (c.G.map (Value.int .i64))) (z:Ae u≠some g) (S:c.G.length<=2000000) :
 Calls prog 153 #[.pointer (some ⟨g,k*7,none⟩),.int .i64 key,.int .i64 value,.bool m] W λe T=>(∃x,e=.returned x)/\∃u' w',TQ g k cap w' T /\
  FQ T g k v u' (BM c key value m)/\Bw w' 3 1 u' (c.G.length+1) ((c.G++[key]).map (Value.int .i64))/\A8 W.heap.size (λb=>b=g\/Ae u=some b) W w'/\(∀o,o≠k*7+1->w'.cell? ⟨g,o,none⟩=W.cell? ⟨g,o,none⟩) /\
  (∃cur,w'.heap[g]?=some (.cells cur 166 (0,0))/\cur.size=cap*7)/\∀b,Ae u'=some b->Ae u=some b\/W.heap.size<=b:=by
 obtain⟨M,c1,U,V,X,Y,c6⟩:=L;have E:g<W.heap.size:=World.block_lt_of_cell? _ _ M;obtain⟨W1,r⟩:∃W1,W1=W.setCell ⟨g,k*7+1,none⟩ (.int .i64 (RowKit.wrap64 (c.Af+1))):=⟨_,rfl⟩;have d:TQ g k cap W W1:=by rw[r];exact(TQ.refl g k cap W).set 1 (by omega) _
 have F:=hr.mono (w':=W1.alloc (.cells #[.int .i64 key] 3)) (λb G N=>by rw[blk_alloc_lt _ _ _ (by rw[d.size];exact G)];exact d.blk b λe=>z (by rw[<-e];exact N));obtain⟨u',w',l,n,f,H⟩:=gX (vb:=W.heap.size) (vc:=1) (x:=key) F S (World.cell?_alloc_at _ _ _ _ d.size.symm);have s:w'.heap[g]?=W1.heap[g]?:=by rw[f.block g (by simp;rw[d.size];omega) z];exact blk_alloc_lt _ _ _ (by rw[d.size];exact E)
 have J:∀o,w'.cell? ⟨g,o,none⟩=W1.cell? ⟨g,o,none⟩:=λo=>World.cell?_of_block (w:=W1) s
 have q:∀o,o≠k*7+1->w'.cell? ⟨g,o,none⟩=W.cell? ⟨g,o,none⟩:=λo ho=>by
  rw[J,r];exact World.cell?_setCell_other _ _ _ _ (λe=>ho (congrArg Addr.off e).symm)
 have a:∃cur,w'.heap[g]?=some (.cells cur 166 (0,0))/\cur.size=cap*7:=by rw[s];exact d.obj j
 have t:A8 W.heap.size (λb=>b=g\/Ae u=some b) W w':=⟨f.os.trans d.os,f.tape.trans d.tape,f.output.trans d.output,by have:=f.size;simp at this;rw[d.size]at this;omega,λb G Z=>by
  rw[f.block b (by simp;rw[d.size];omega) (λh=>Z (.inr h)),blk_alloc_lt _ _ _ (by rw[d.size];exact G)];exact d.blk b λe=>Z (.inl e)⟩
 have y:∀b,Ae u'=some b->Ae u=some b\/W.heap.size<=b:=λb G=>(H b G).imp_right λh=>by rw[h,World.size_alloc,d.size];omega
 have d0:=q (k*7) (by omega);have d1:w'.cell? ⟨g,k*7+1,none⟩=some (.int .i64 (RowKit.wrap64 (c.Af+1))):=by rw[J,r];exact World.cell?_setCell_same _ _ _ c1
 have d2:=(q (k*7+2) (by omega)).trans U;have d3:=(q (k*7+3) (by omega)).trans V;have d4:=(q (k*7+4) (by omega)).trans X;have d5:=(q (k*7+5) (by omega)).trans Y;have d6:=(q (k*7+6) (by omega)).trans c6;have d0:=d0.trans M;have f0:=L5 j (k*7+1);have z6:W1.cell? ⟨g,k*7+6,none⟩=some u:=by rw[<-J];exact d6
 have zf6:=L5 a (k*7+6);have zf2:=L5 a (k*7+2);have zf3:=L5 a (k*7+3);have zf4:=L5 a (k*7+4);have zf5:=L5 a (k*7+5);have z6':∀o,(W1.alloc o).cell? ⟨g,k*7+6,none⟩=some u:=λo=>by rw[World.cell?_alloc_lt _ _ _ (by rw[d.size];exact E)];exact z6
 obtain⟨ga',gc',A,_,_⟩:=Rt n;rw[A]at l;subst r;have O:Aside (_/\_/\_/\_/\_/\_/\_/\_/\_):=⟨d,n,f,t,q,a,y,s,A⟩;clear A hr F n f H t J q j a y s d z U V X Y M S;refine bR λR HR=>?_;have i:FQ w' g k v u { c with Af:=RowKit.wrap64 (c.Af+1) }:=⟨d0,d1,d2,d3,d4,d5,d6⟩;have K:Aside _:=i;clear i
 have D:∀{e:Ending}{p:World},(∃x,e=.returned x)->TQ g k cap w' p->FQ p g k v u' (BM c key value m)->R e p:=λ{e p} he hs L=>by
  obtain⟨_,n,_,t,q,a,y,_,_⟩:=O.out;exact HR.out e p ⟨he,u',w',hs,L,n,t,q,a,y⟩
 have D:Aside _:=@D;have I:Aside (u'=_):=O.out.2.2.2.2.2.2.2.2;clear O HR
 cases m
 ·go_enter func153,ntmps153
  go_wp2_with (at_builtin;refine Lib.wpList_append_run _ rfl _ _ _ _ rfl _ _ rfl rfl _ _ l ?_)
  go_end0
  have i:=K.out.set6 u';rw[I.out]at i;refine D.out (e:=.returned (.tuple #[])) ⟨_,rfl⟩ ((TQ.refl g k cap w').set 6 (by omega) _) ?_;rw[I.out];exact i.same (by simp only[BM,ux,sV]) rfl rfl rfl rfl
 ·go_enter func153,ntmps153
  go_wp2_with (at_builtin;refine Lib.wpList_append_run _ rfl _ _ _ _ rfl _ _ rfl rfl _ _ l ?_)
  all_goals go_end0
  ·rename_i B
   have i:=((((K.out.set6 u').set2 (RowKit.wrap64 (c.A6+value))).set3 (RowKit.wrap64 (c.A8+max value (RowKit.wrap64 (-value))))).set4 (max value (RowKit.wrap64 (-value)))).set5 c.Ba;refine D.out (e:=.returned (.tuple #[])) ⟨_,rfl⟩ ((((((TQ.refl g k cap w').set 6 (by omega) _).set 2 (by omega) _).set 3 (by omega) _).set 4 (by omega) _).set 5 (by omega) _) ?_;rw[I.out]at i ⊢;have e:decide (c.Ba<max value (RowKit.wrap64 (-value)))=true:=un B;refine i.same ?_ ?_ ?_ ?_ ?_<;>simp only[BM,uY,e,sV]
  ·rename_i C B
   have i:=(((K.out.set6 u').set2 (RowKit.wrap64 (c.A6+value))).set3 (RowKit.wrap64 (c.A8+max value (RowKit.wrap64 (-value))))).set5 (max value (RowKit.wrap64 (-value)));refine D.out (e:=.returned (.tuple #[])) ⟨_,rfl⟩ (((((TQ.refl g k cap w').set 6 (by omega) _).set 2 (by omega) _).set 3 (by omega) _).set 5 (by omega) _) ?_;rw[I.out]at i ⊢;have e:decide (c.Ba<max value (RowKit.wrap64 (-value)))=false:=uB (Int.not_lt.2 C);have P:decide (c.Bg<max value (RowKit.wrap64 (-value)))=true:=un B;refine i.same ?_ ?_ ?_ ?_ ?_<;>simp only[BM,uY,ux,e,P,sV]
  ·rename_i C Q
   have i:=((K.out.set6 u').set2 (RowKit.wrap64 (c.A6+value))).set3 (RowKit.wrap64 (c.A8+max value (RowKit.wrap64 (-value))));refine D.out (e:=.returned (.tuple #[])) ⟨_,rfl⟩ ((((TQ.refl g k cap w').set 6 (by omega) _).set 2 (by omega) _).set 3 (by omega) _) ?_;rw[I.out]at i ⊢;have e:decide (c.Ba<max value (RowKit.wrap64 (-value)))=false:=uB (Int.not_lt.2 C);have P:decide (c.Bg<max value (RowKit.wrap64 (-value)))=false:=uB (Int.not_lt.2 Q);refine i.same ?_ ?_ ?_ ?_ ?_<;>simp only[BM,uY,ux,e,P,sV]
end Go.Proofs.YtaojdkijihbaoaaGreatDoor.P
namespace Go.Abs
open Go
variable {F:Fence} {n:Nat} {P:Program} {md:Region.Mode} {ops:Array Oper} {Q:Exit->Act->World->Prop}
theorem Zx(l:Array Bool)(i j:Nat)(d:Bool)(a:i<l.size):(l.setIfInBounds i true).getD j d=if i=j then true else l.getD j d:=by
 simp only[vn,vB];by_cases e:i=j
 ·subst e;simp[a]
 ·simp[e]
theorem sE(c:Nat)(dst:Nat->Nat)(val:Nat->Value)(t:Act->Prop){W:World}
 (u:∀(i:Nat)(o:Oper),ops[i]?=some o->∀e∈o.after,e.on<i)
 (B:∀(i:Nat)(o:Oper),ops[i]?=some o->∀e∈o.after,Region.binds md e=true)
 (O:∀g:Array Bool,(∀(i:Nat)(o:Oper),i<c->ops[i]?=some o->g.getD i false=true->∀e∈o.after,g.getD e.on false=true)->(∀(o:Oper),ops[c]?=some o->∀e∈o.after,g.getD e.on false=true)->∀i,i<c->g.getD i false=true)
 (C:∀(i:Nat)(o:Oper),c<i->ops[i]?=some o->∃e∈o.after,c<=e.on)
 (R:∀(i:Nat)(o:Oper),ops[i]?=some o->i<c->o.dst=some (dst i))
 (S:∀(a:Act)(i:Nat)(x:Value),i<c->t a->t (a.put (some (dst i)) x)/\dst i<a.tmps.size)
 (T:∀i j,i<c->j<c->dst i=dst j->i=j)
 (hop:∀(i:Nat)(o:Oper)(a:Act),ops[i]?=some o->i<c->t a->(∀e∈o.after,a.tmps[dst e.on]?=some (val e.on))->∀K:Act->World->Prop,K (a.put o.dst (val i)) W ->
  if Region.wanted o (yielded ops a.tmps)=true then o.wpIn F n P a W K Q else(∀f,o.about P W a.eval=some f->F.fn f)/\K (a.put o.dst undef) W)
 (D:∀(o:Oper)(a:Act),ops[c]?=some o->t a->(∀i,i<c->a.tmps[dst i]?=some (val i))->∀K:Act->World->Prop,(∀(a:Act)(w:World),(∀g:Array Bool,g.size=ops.size->(∀i,i<ops.size->g[i]?=some (decide (i<=c)))->wpAnyIn F n P md ops Q (ops.size-c-1) g a w)->K a w) ->
  if Region.wanted o (yielded ops a.tmps)=true then o.wpIn F n P a W K Q else(∀f,o.about P W a.eval=some f->F.fn f)/\K (a.put o.dst undef) W)
 (U:c<ops.size):∀(fuel:Nat)(g:Array Bool)(a:Act),g.size=ops.size->t a->(∀i,i<c->g.getD i false=true->a.tmps[dst i]?=some (val i)) ->
  (∀(i:Nat)(o:Oper),i<c->ops[i]?=some o->g.getD i false=true->∀e∈o.after,g.getD e.on false=true)->(∀i,c<=i->i<ops.size->g[i]?=some false)->fuel+g.toList.count true=ops.size->wpAnyIn F n P md ops Q fuel g a W:=by
 have hat:∀(l:Array Bool)(i:Nat)(d:Bool),i<l.size->l.getD i d=l.getD i (!d):=λl i d h=>by
  simp only[vn,v7 h,vT]
 have hx:∀(l:List Bool)(k:Nat),l[k]?=some false->(l.set k true).count true=l.count true+1:=by
  intro l
  induction l with
  | nil=>intro k h;cases h
  | cons b r ih =>
    intro k h
    cases k with
    | zero =>
      have:b=false:=by simpa using h
      subst this;simp
    | succ k =>
      have:=ih k (by simpa using h);rw[List.set_cons_succ,xj,xj,this];omega
 have h3:∀(l:List Bool)(k:Nat),l[k]?=some false->l.count true<l.length:=by
  intro l k h;rcases uZ (l.count true) l.length with q|q
  ·exact q
  ·have:=List.count_eq_length.1 (Nat.le_antisymm List.count_le_length q) false (uy h)
   cases this
 have hcn:∀(l:List Bool)(c:Nat),c<=l.length->(∀i,i<l.length->l[i]?=some (decide (i<c)))->l.count true=c:=by
  intro l
  induction l with
  | nil=>intro c h _;simp at h;subst h;rfl
  | cons b r ih =>
    intro c U h
    cases c with
    | zero =>
      have h0:b=false:=by have:=h 0 (by simp);simpa using this
      have:=ih 0 (ug _) λi N=>by have:=h (i+1) (by simp;omega);simpa using this
      rw[xj,this,h0];rfl
    | succ c =>
      have h0:b=true:=by have:=h 0 (by simp);simpa using this
      have:=ih c (by simpa using U) λi N=>by have:=h (i+1) (by simp;omega);simpa using this
      rw[xj,this,h0];simp
 intro fuel
 induction fuel with
 | zero =>
   intro g a y _ _ _ E V
   exfalso
   have A:=E c (uh _) U;have:=h3 g.toList c (by rw[vr];exact A);rw[ve,y]at this;omega
 | succ fuel ih =>
   intro g a y hb hk hd E V
   have hnl:∀i,c<=i->i<ops.size->g.getD i false=false:=λi A h2=>by
    simp only[vn,E i A h2,vT]
   refine⟨λX=>?_,λi N=>?_⟩
   ·exfalso
    have hex:∃i,i<ops.size/\g.getD i true=false:=⟨c,U,by simp only[vn,E c (uh _) U,vT]⟩
    obtain⟨i,⟨N,hu⟩,Y⟩:∃i,(i<ops.size/\g.getD i true=false)/\∀j,j<i->¬(j<ops.size/\g.getD j true=false):=by
     obtain⟨i,h⟩:=hex
     induction i using Nat.strongRecOn with
     | _ i ih =>
       by_cases hx:∃j,j<i/\(j<ops.size/\g.getD j true=false)
       ·obtain⟨j,s,h'⟩:=hx;exact ih j s h'
       ·exact⟨i,h,λj s hh=>hx ⟨j,s,hh⟩⟩
    have:i∈Region.ready md ops g:=mem_ready.2 ⟨hu,ops[i],by simp[N],λe v _=>by
     have A:=u i ops[i] (by simp[N]) e v;have h2:=Y e.on A;have G:e.on<g.size:=by rw[y];omega
     have:g.getD e.on true≠false:=λh=>h2 ⟨by omega,h⟩;rw[hat _ _ _ G]
     simpa using this⟩
    rw[X]at this
    cases this
   ·obtain⟨hu,o,ho,m⟩:=mem_ready.1 N;have m:∀e∈o.after,g.getD e.on false=true:=λe v=>m e v (B i o ho e v);have G:i<ops.size:=(Array.getElem?_eq_some_iff.1 ho).1;have z:i<g.size:=by rw[y];exact G
    rcases wH i c with p|p|p
    ·have H:(g.setIfInBounds i true).toList.count true=g.toList.count true+1:=by
      rw[vQ];refine hx _ _ ?_;simp only[vn,v7 z,vT]at hu;rw[vr,v7 z,hu]
     have Z:=R i o ho p;obtain⟨hb',hs'⟩:=S a i (val i) p hb;refine wpOpIn_step ho λK' I=>hop i o a ho p hb (λe v=>hk e.on (Nat.lt_trans (u i o ho e v) p) (m e v)) K' (I _ _ (ih _ _ (by simp[y]) (by rw[Z];exact hb') (λj s J=>?_) (λj oj s L J e v=>?_) (λj hj1 hj2=>?_) (by rw[H];omega)))
     ·rw[Zx _ _ _ _ z]at J;rw[Z];show(a.tmps.setIfInBounds (dst i) (val i))[dst j]?=_;by_cases e:i=j
      ·subst e;rw[vB];simp[hs']
      ·rw[uo e]at J;have hne:dst i≠dst j:=λh=>e (T i j p s h);rw[uz hne];exact hk j s J
     ·rw[Zx _ _ _ _ z]at J ⊢;by_cases e1:i=e.on
      ·rw[uk e1]
      ·rw[uo e1];by_cases e2:i=j
       ·subst e2;rw[ho]at L;obtain rfl:=uc L;exact m e v
       ·rw[uo e2]at J;exact hd j oj s L J e v
     ·rw[uz (by omega)];exact E j hj1 hj2
    ·subst p
     have M:∀j,j<i->g.getD j false=true:=O g hd (λo' ho' e v=>by
      rw[ho]at ho';obtain rfl:=uc ho';exact m e v)
     have hfu:fuel=ops.size-i-1:=by
      have hcc:g.toList.count true=i:=hcn g.toList i (by simp;omega) λj s=>by
       rw[vr];have s:j<g.size:=by simpa using s
       by_cases e:j<i
       ·have:=M j e;simp only[vn,v7 s,vT]at this;rw[v7 s,this];simp[e]
       ·rw[E j (by omega) (by omega)];simp[e]
      omega
     refine wpOpIn_step ho λK' I=>D o a ho hb (λj s=>hk j s (M j s)) K' λa w hq=>I a w ?_;rw[hfu];refine hq _ (by simp[y]) λj s=>?_;have hj':j<g.size:=by omega
     by_cases e:i=j
     ·subst e;rw[vB];simp[z]
     ·rw[uz e];by_cases e2:j<i
      ·have:=M j e2;simp only[vn,v7 hj',vT]at this;rw[v7 hj',this];simp;omega
      ·rw[E j (by omega) s];simp;omega
    ·exfalso
     obtain⟨e,v,hle⟩:=C i o p ho;have A:=m e v;have h2:=u i o ho e v;rw[hnl e.on hle (by omega)]at A
     cases A
def s9(md:Region.Mode)(ops:Array Oper)(c d0:Nat):Bool :=
 decide (c<ops.size)&&(List.range ops.size).all λi=>match ops[i]? with
  | none=>false
  | some o=>(o.after.toList.all λe=>decide (e.on<i)&&Region.binds md e)&&(decide (i<=c)||o.after.toList.any λe=>decide (c<=e.on))&&(decide (c<=i)||(o.dst==some (d0+i)&&(List.range ops.size).any λj=>decide (i<j)&&decide (j<=c)&&match ops[j]? with
    | none=>false
    | some q=>q.after.toList.any λe=>e.on==i))
theorem nF(c d0:Nat)(val:Nat->Value)(d:Act->Prop){W:World}(l:s9 md ops c d0=true)
 (s:∀(a:Act)(i:Nat)(x:Value),i<c->d a->d (a.put (some (d0+i)) x)/\d0+i<a.tmps.size)
 (u:∀(i:Nat)(o:Oper)(a:Act),ops[i]?=some o->i<c->d a->(∀e∈o.after,a.tmps[d0+e.on]?=some (val e.on))->∀K:Act->World->Prop,K (a.put o.dst (val i)) W ->
  if Region.wanted o (yielded ops a.tmps)=true then o.wpIn F n P a W K Q else(∀f,o.about P W a.eval=some f->F.fn f)/\K (a.put o.dst undef) W)
 (p:∀(o:Oper)(a:Act),ops[c]?=some o->d a->(∀i,i<c->a.tmps[d0+i]?=some (val i))->∀K:Act->World->Prop,(∀(a:Act)(w:World),(∀b:Array Bool,b.size=ops.size->(∀i,i<ops.size->b[i]?=some (decide (i<=c)))->wpAnyIn F n P md ops Q (ops.size-c-1) b a w)->K a w) ->
  if Region.wanted o (yielded ops a.tmps)=true then o.wpIn F n P a W K Q else(∀f,o.about P W a.eval=some f->F.fn f)/\K (a.put o.dst undef) W)
 {a:Act} (G:d a):wpAnyIn F n P md ops Q ops.size (Array.replicate ops.size false) a W:=by
 unfold s9 at l;obtain⟨v,l⟩:=Bool.and_eq_true_iff.1 l;have v:=uf v
 have key:∀(i:Nat)(o:Oper),ops[i]?=some o->(∀e∈o.after,e.on<i/\Region.binds md e=true)/\(c<i->∃e∈o.after,c<=e.on)/\(i<c->o.dst=some (d0+i)/\∃j q,i<j/\j<=c/\ops[j]?=some q/\∃e∈q.after,e.on=i):=λi o ho=>by
  have y:i<ops.size:=(Array.getElem?_eq_some_iff.1 ho).1;have h:=List.all_eq_true.1 l i (List.mem_range.2 y);simp only[ho]at h;obtain⟨h,H⟩:=Bool.and_eq_true_iff.1 h;obtain⟨I,J⟩:=Bool.and_eq_true_iff.1 h;refine⟨λe k=>?_,λg=>?_,λg=>?_⟩
  ·have:=List.all_eq_true.1 I e (Array.mem_toList_iff.2 k);obtain⟨z,A⟩:=Bool.and_eq_true_iff.1 this;exact⟨uf z,A⟩
  ·rcases Bool.or_eq_true_iff.1 J with q|q
   ·have:=uf q;omega
   ·obtain⟨e,k,q⟩:=List.any_eq_true.1 q;exact⟨e,Array.mem_toList_iff.1 k,uf q⟩
  ·rcases Bool.or_eq_true_iff.1 H with q|q
   ·have:=uf q;omega
   ·obtain⟨z,A⟩:=Bool.and_eq_true_iff.1 q;refine⟨eq_of_beq z,?_⟩;obtain⟨j,E,q⟩:=List.any_eq_true.1 A;obtain⟨q,t⟩:=Bool.and_eq_true_iff.1 q;obtain⟨L,M⟩:=Bool.and_eq_true_iff.1 q
    cases r:ops[j]? with
    | none=>rw[r]at t;cases t
    | some x =>
      rw[r]at t;obtain⟨e,k,N⟩:=List.any_eq_true.1 t;exact⟨j,x,uf L,uf M,r,e,Array.mem_toList_iff.1 k,eq_of_beq N⟩
 refine sE c (λi=>d0+i) val d (λi o h e k=>((key i o h).1 e k).1) (λi o h e k=>((key i o h).1 e k).2) (λb hd B=>?_) (λi o g h=>(key i o h).2.1 g) (λi o h g=>((key i o h).2.2 g).1) s (λi j _ _ h=>by omega) u p v _ _ _ (by simp) G (λi g C=>?_) (λi o g ho C=>?_) (λi _ g=>by simp[g]) ?_
 ·have:∀m i,c-i=m->i<c->b.getD i false=true:=by
   intro m
   induction m using Nat.strongRecOn with
   | _ m ih =>
     intro i S g;obtain⟨_,j,q,O,R,r,e,k,D⟩:=(key i ops[i] (by simp)).2.2 g;subst D;by_cases E:j=c
     ·subst E;exact B q r e k
     ·exact hd j q (by omega) r (ih (c-j) (by omega) j rfl (by omega)) e k
  exact λi g=>this _ i rfl g
 ·have:i<ops.size:=by omega
  simp[this]at C
 ·have:i<ops.size:=by omega
  simp[this]at C
 ·simp[Array.toList_replicate,List.count_replicate]
end Go.Abs
namespace Go.Proofs.YtaojdkijihbaoaaGreatDoor.P
open Go Go.Abs Go.Proofs Go.Deep
set_option maxRecDepth 1000000
set_option maxHeartbeats 6400000
theorem js(W:World)(u vo:Value)(c:u.oneCell'=true)(d:vo.oneCell'=true):Calls prog 152 #[u,vo] W λe a =>
 e=.returned (.func (.func 225) #[] #[.pointer (some ⟨W.heap.size,0,none⟩),.pointer (some ⟨W.heap.size+1,0,none⟩)])/\a=(W.alloc (.cells #[u] 103)).alloc (.cells #[vo] 30):=by
 refine bR λR b=>?_
 go_enter func152,ntmps152
 go_wp2_with fail
 exact b.out _ _ ⟨rfl,rfl⟩
def Lh(b:Nat->Bool):Nat->List Nat
 | 0=>[]
 | k+1=>Lh b k++(if b k then[k]else[])
structure qk(C:World->Prop)(n0 g N Bc Bo:Nat)(u vo:Value)(cv:Nat->Value)(b:Nat->Bool):Prop where
 box:∀W,C W->W.cell? ⟨Bc,0,none⟩=some u
 own:∀W,C W->W.cell? ⟨Bo,0,none⟩=some vo
 code:∀W k,C W->k<N->W.cell? ⟨g,k*7,none⟩=some (cv k)
 keep:∀W W',C W->RowKit.Below W.heap.size W W'->C W'
 call:∀W k,C W->k<N->Calls prog 226 #[vo,cv k] W λe W'=>e=.returned (.bool (b k))/\RowKit.Below W.heap.size W W'
theorem eQ{C:World->Prop}{n0 g N Bc Bo:Nat}{vo:Value}{cv:Nat->Value}{b:Nat->Bool}{Z:Option Addr}{gc:Nat}(R:qk C n0 g N Bc Bo (.slice Z N gc) vo cv b)(S:0<N->Z=some ⟨g,0,none⟩)(hN:N<=1000000)
 (n l:Nat) (J Jx:List Nat->World->Prop) (hJ:∀pre W m,J pre W->RowKit.Below W.heap.size W m->J pre m)
 (hY:∀k W,J (Lh b k) W->C W->k<N->YieldAt Fence.wide n prog l #[.pointer (some ⟨g,k*7,none⟩)] W λe m=>(e=.returned (.bool true)/\J (Lh b k++[k]) m/\C m)\/(e=.returned (.bool false)/\Jx (Lh b k++[k]) m))
 (W:World) (h0:J [] W) (I:C W) :
 CallsIn Fence.wide (n+1) prog 225 #[.func (.yield l) #[] #[],.pointer (some ⟨Bc,0,none⟩),.pointer (some ⟨Bo,0,none⟩)] W λe m=>(∃v,e=.returned v)/\(J (Lh b N) m\/∃pre,Jx pre m):=by
 refine callsIn_of_wp func225 rfl trivial ?_ rfl;simp only[ntmps225,vY,vu,wu,Nat.reduceAdd,Nat.reduceSub,Array.replicate_succ,Array.replicate_zero,List.push_toArray,List.append_toArray,List.nil_append,xa];have q1:=R.box W I
 gi_wp2
 have f:Aside _:=R;have HY:Aside _:=hY;have HJ:Aside _:=hJ;clear R hY hJ q1
 gi_loopw [7] (λp wr=>∃k:Nat,p=.int .i64 (k:Int)/\k<=N/\Aside (J (Lh b k) wr/\C wr)) (λp _=>match p with|.int .i64 k=>N-k.toNat|_=>0)
 case atStart=>exact⟨0,rfl,ug _,h0,I⟩
 case round =>
  obtain⟨k,rfl,hk,G⟩:=hrel;by_cases q:k<N
  ·have T:(k:Int)<(N:Int):=by omega
   have hg:=S (by omega);subst hg;have q1:=f.out.box wr G.out.2;have q2:=f.out.own wr G.out.2;have q3:=f.out.code wr k G.out.2 q
   gi_wp2
   refine wpIn_region_any (by kernel_rfl) ?_;have L:RowKit.Below wr.heap.size wr wr.drew:=⟨rfl,rfl,rfl,uh _,λ_ _=>rfl⟩;have d:=f.out.keep _ _ G.out.2 L;have U:=HJ.out _ _ _ G.out.1 L;have r1:=f.out.box _ d;have r2:=f.out.own _ d;have r3:=f.out.code _ k d q
   refine nF (W:=wr.drew) 6 10 (λi=>match i with|0=>vo|1=>.slice (some ⟨g,0,none⟩) N gc|2=>.int .i64 (k:Int)|3=>.pointer (some ⟨g,k*7,none⟩)|4=>.pointer (some ⟨g,k*7,none⟩)|_=>cv k)
    (λa=>∃r s t u y z A,a={ tmps:=#[.func (.yield l) #[] #[],.pointer (some ⟨Bc,0,none⟩),.pointer (some ⟨Bo,0,none⟩),undef,.int .i64 (k:Int),.slice (some ⟨g,0,none⟩) N gc,.int .i64 (N:Int),.int .i64 (k:Int),.bool true,.int .i64 (k:Int),r,s,t,u,y,z,A,u17,u18,u19,u20,u21,u22,u23,u24,u25],defers:=[] })
    (by kernel_rfl) (λa i x H M=>?put) (λi o a ho H M hd K hK=>?op) (λo a ho M V K hK=>?call) ⟨_,_,_,_,_,_,_,rfl⟩
   case put =>
    obtain⟨r,s,t,u,y,z,A,rfl⟩:=M
    match i,H with
    | 0,_=>exact⟨⟨_,_,_,_,_,_,_,rfl⟩,by simp⟩
    | 1,_=>exact⟨⟨_,_,_,_,_,_,_,rfl⟩,by simp⟩
    | 2,_=>exact⟨⟨_,_,_,_,_,_,_,rfl⟩,by simp⟩
    | 3,_=>exact⟨⟨_,_,_,_,_,_,_,rfl⟩,by simp⟩
    | 4,_=>exact⟨⟨_,_,_,_,_,_,_,rfl⟩,by simp⟩
    | 5,_=>exact⟨⟨_,_,_,_,_,_,_,rfl⟩,by simp⟩
   case op =>
    obtain⟨r,s,t,u,y,z,A,rfl⟩:=M
    match i,H with
    | 0,_ =>
      obtain rfl:=uc ho
      go_simp
      exact hK
    | 1,_ =>
      obtain rfl:=uc ho
      go_simp
      exact hK
    | 2,_ =>
      obtain rfl:=uc ho
      go_simp
      exact hK
    | 3,_ =>
      obtain rfl:=uc ho;have D:=hd ⟨1,.data⟩ (by simp);have h2:=hd ⟨2,.data⟩ (by simp);simp at D h2;subst D;subst h2
      go_simp
      exact hK
    | 4,_ =>
      obtain rfl:=uc ho;have D:=hd ⟨3,.data⟩ (by simp);simp at D;subst D
      go_simp
      exact hK
    | 5,_ =>
      obtain rfl:=uc ho;have D:=hd ⟨4,.data⟩ (by simp);simp at D;subst D
      go_simp
      exact hK
   case call =>
    obtain⟨r,s,t,u,y,z,A,rfl⟩:=M;have e0:=V 0 (by omega);have e5:=V 5 (by omega);simp at e0 e5;subst e0;subst e5;obtain rfl:=uc ho;have E:=f.out.call _ k d q;have HK:Aside _:=hK;clear hK V
    go_simp
    refine⟨trivial,callsIn_wide.2 (E.mono ?_)⟩;rintro e W2 ⟨rfl,O⟩;have F:=f.out.keep _ _ d O;have P:=HJ.out _ _ _ U O;refine HK.out _ _ λc hs hl=>?_
    have X:c=#[true,true,true,true,true,true,true,false,false,false,false,false,false,false,false]:=Array.ext_getElem? λi=>by
     by_cases H:i<15
     ·rw[hl i H];exact(show ∀j:Fin 15,some (decide (j.1<=6))=(#[true,true,true,true,true,true,true,false,false,false,false,false,false,false,false]:Array Bool)[j.1]? by decide) ⟨i,H⟩
     ·have hs:c.size=15:=hs;rw[vH (by omega),vH (by simp;omega)]
    subst X
    cases hbk:b k
    ·refine wpAnyIn_take (i:=7) (v:=.bool false) rfl rfl (by kernel_rfl) (by kernel_rfl) (by kernel_rfl) (λ_ _ _ h=>h) ⟨Or.inl ⟨by rfl,?_⟩,λ_=>rfl⟩ ?_
     ·intro w;go_simp
     refine wpAnyIn_take (i:=8) (v:=undef) rfl rfl (by kernel_rfl) (by kernel_rfl) (by kernel_rfl) (λ_ _ _ h=>h) ⟨Or.inr ⟨by rfl,rfl⟩,λ_=>rfl⟩ ?_;refine wpAnyIn_take (i:=9) (v:=undef) rfl rfl (by kernel_rfl) (by kernel_rfl) (by kernel_rfl) (λ_ _ _ h=>h) ⟨Or.inr ⟨by rfl,rfl⟩,λ_=>rfl⟩ ?_;refine wpAnyIn_take (i:=10) (v:=undef) rfl rfl (by kernel_rfl) (by kernel_rfl) (by kernel_rfl) (λ_ _ _ h=>h) ⟨Or.inr ⟨by rfl,rfl⟩,λ_=>rfl⟩ ?_;refine wpAnyIn_take (i:=11) (v:=undef) rfl rfl (by kernel_rfl) (by kernel_rfl) (by kernel_rfl) (λ_ _ _ h=>h) ⟨Or.inr ⟨by rfl,rfl⟩,λ_=>rfl⟩ ?_;refine wpAnyIn_take (i:=12) (v:=undef) rfl rfl (by kernel_rfl) (by kernel_rfl) (by kernel_rfl) (λ_ _ _ h=>h) ⟨Or.inr ⟨by rfl,rfl⟩,λ_=>rfl⟩ ?_;refine wpAnyIn_take (i:=13) (v:=undef) rfl rfl (by kernel_rfl) (by kernel_rfl) (by kernel_rfl) (λ_ _ _ h=>h) ⟨Or.inr ⟨by rfl,rfl⟩,λ_=>rfl⟩ ?_;refine wpAnyIn_take (i:=14) (v:=.bool false) rfl rfl (by kernel_rfl) (by kernel_rfl) (by kernel_rfl) (λ_ _ _ h=>h) ⟨Or.inl ⟨by rfl,?_⟩,λ_=>rfl⟩ ?_
     ·intro w;go_simp
     refine wpAnyIn_done (by kernel_rfl) ?_ _
     go_simp
     gi_wp2
     refine⟨⟨k+1,by simp,by omega,?_,F⟩,?_⟩
     ·simpa [Lh,hbk] using P
     ·show N-((k:Int)+1).toNat<N-(k:Int).toNat;omega
    ·refine wpAnyIn_take (i:=7) (v:=.bool true) rfl rfl (by kernel_rfl) (by kernel_rfl) (by kernel_rfl) (λ_ _ _ h=>h) ⟨Or.inl ⟨by rfl,?_⟩,λ_=>rfl⟩ ?_
     ·intro w;go_simp
     refine wpAnyIn_take (i:=8) (v:=.func (.yield l) #[] #[]) rfl rfl (by kernel_rfl) (by kernel_rfl) (by kernel_rfl) (λ_ _ _ h=>h) ⟨Or.inl ⟨by rfl,?_⟩,λ_=>rfl⟩ ?_
     ·intro w;go_simp
     refine wpAnyIn_take (i:=10) (v:=.int .i64 (k:Int)) rfl rfl (by kernel_rfl) (by kernel_rfl) (by kernel_rfl) (λ_ _ _ h=>h) ⟨Or.inl ⟨by rfl,?_⟩,λ_=>rfl⟩ ?_
     ·intro w;go_simp
     have r1:=f.out.box _ F;refine wpAnyIn_ready (rs:=[9]) (by kernel_rfl) (by simp) (AllReadyIn.cons rfl (λK hK=>?_) AllReadyIn.nil)
     go_simp
     refine hK _ _ ?_;clear hK K;refine wpAnyIn_take (i:=11) (v:=.pointer (some ⟨g,k*7,none⟩)) rfl rfl (by kernel_rfl) (by kernel_rfl) (by kernel_rfl) (λ_ _ _ h=>h) ⟨Or.inl ⟨by rfl,?_⟩,λ_=>rfl⟩ ?_
     ·intro w;go_simp
     obtain⟨fn,tmps,Q,body,hy,Y⟩:=HY.out k W2 P F q;refine wpAnyIn_ready (rs:=[12]) (by kernel_rfl) (by simp) (AllReadyIn.cons rfl (λK hK=>?_) AllReadyIn.nil);have B:Aside _:=hK;clear hK
     go_simp
     refine RoundIn.mono Y ?_;rintro e W3 (⟨rfl,hJ3,hC3⟩|⟨rfl,hJx3⟩)
     ·skip
      refine B.out _ _ ?_;clear B K;refine wpAnyIn_take (i:=13) (v:=.bool false) rfl rfl (by kernel_rfl) (by kernel_rfl) (by kernel_rfl) (λ_ _ _ h=>h) ⟨Or.inl ⟨by rfl,?_⟩,λ_=>rfl⟩ ?_
      ·intro w;go_simp
      refine wpAnyIn_take (i:=14) (v:=.bool false) rfl rfl (by kernel_rfl) (by kernel_rfl) (by kernel_rfl) (λ_ _ _ h=>h) ⟨Or.inl ⟨by rfl,?_⟩,λ_=>rfl⟩ ?_
      ·intro w;go_simp
      refine wpAnyIn_done (by kernel_rfl) ?_ _
      go_simp
      gi_wp2
      refine⟨⟨k+1,by simp,by omega,?_,hC3⟩,?_⟩
      ·simpa [Lh,hbk] using hJ3
      ·show N-((k:Int)+1).toNat<N-(k:Int).toNat;omega
     ·refine B.out _ _ ?_;clear B K;refine wpAnyIn_take (i:=13) (v:=.bool true) rfl rfl (by kernel_rfl) (by kernel_rfl) (by kernel_rfl) (λ_ _ _ h=>h) ⟨Or.inl ⟨by rfl,?_⟩,λ_=>rfl⟩ ?_
      ·intro w;go_simp
      refine wpAnyIn_take (i:=14) (v:=.bool true) rfl rfl (by kernel_rfl) (by kernel_rfl) (by kernel_rfl) (λ_ _ _ h=>h) ⟨Or.inl ⟨by rfl,?_⟩,λ_=>rfl⟩ ?_
      ·intro w;go_simp
      refine wpAnyIn_done (by kernel_rfl) ?_ _
      go_simp
      gi_wp2
      refine bodyPost_ret (results_none rfl _ _ _) rfl ?_;exact⟨⟨_,rfl⟩,.inr ⟨_,hJx3⟩⟩
  ·have T:¬((k:Int)<(N:Int)):=by omega
   gi_wp2
   go_end0
   obtain rfl:k=N:=by omega
   exact⟨⟨_,rfl⟩,.inl G.out.1⟩
attribute [local go_sem] Oper.semAt_some
def lN:Nat->Code->Code×Code
 | 0,.seq (.seq _ b) c=>(b,c)
 | n+1,.seq _ y=>lN n y
 | _,c=>(c,c)
def O8:Code->Option (Operand×Array Tmp×Code×Code)
 | .rangeFunc g ps a b=>some (g,ps,a,b)
 | .seq x y=>match O8 x with
   | some r=>some r
   | none=>O8 y
 | .cond _ x y=>match O8 x with
   | some r=>some r
   | none=>O8 y
 | .block _ x=>O8 x
 | .loop x=>O8 x
 | _=>none
noncomputable def Xz:Code:=(f88.body).getD .skip
noncomputable def sS:Code:=((O8 Xz).map λr=>r.2.2.1).getD .skip
noncomputable def sZ:Code:=((O8 Xz).map λr=>r.2.2.2).getD .skip
theorem qN{l n:Nat}{tm:Array Value}{v:Value}{W:World}{K:Act->World->Prop}{Q:Exit->Act->World->Prop}(a:tm.size=149)(b:tm[134]?=some v)(hK:K { tmps:=tm.setIfInBounds 26 v,defers:=[] } W):sS.wpIn (Fence.wide.inRound l) n prog (Exit.then K Q) { tmps:=tm,defers:=[] } W:=by
 show Code.wpIn (Fence.wide.inRound l) n prog (Code.region _ _ _) _ _ _
 gi_wp2
 obtain⟨h,rfl⟩:=Array.getElem?_eq_some_iff.1 b;exact hK
theorem qQ{l n:Nat}{tm:Array Value}{W:World}{Q:Exit->Act->World->Prop}{g k bx Br Bv b8 gb go RB RO r Gn Gc Ln Lc:Nat}{key value p3:Int}(m:tm.size=149)(A:tm[26]?=some (.pointer (some ⟨g,k*7,none⟩)))(J:tm[6]?=some (.pointer (some ⟨bx,0,none⟩)))
 (B:tm[21]?=some (.pointer (some ⟨Br,0,none⟩))) (C:tm[22]?=some (.pointer (some ⟨Bv,0,none⟩))) (L:tm[8]?=some (.pointer (some ⟨b8,0,none⟩))) (hr:r<Gn) (H:0<Ln)
 (X:W.cell? ⟨bx,3,none⟩=some (.slice (some ⟨gb,go,none⟩) Gn Gc)) (M:W.cell? ⟨Br,0,none⟩=some (.int .i64 (r:Int))) (Y:W.cell? ⟨gb,go+r,none⟩=some (.slice (some ⟨RB,RO,none⟩) Ln Lc)) (Z:W.cell? ⟨RB,RO,none⟩=some (.int .i64 key))
 (N:W.cell? ⟨Bv,0,none⟩=some (.int .i64 value)) (c8:W.cell? ⟨b8,0,none⟩=some (.int .i64 p3))
 (d:Calls prog 153 #[.pointer (some ⟨g,k*7,none⟩),.int .i64 key,.int .i64 value,.bool (decide (0<=p3))] W.drew λe D=>(∃x,e=.returned x)/\∀a,Q .normal a D) :
 sZ.wpIn (Fence.wide.inRound l) (n+1) prog Q { tmps:=tm,defers:=[] } W:=by
 show Code.wpIn (Fence.wide.inRound l) (n+1) prog (Code.block _ (Code.region _ _ _)) _ _ _;refine wpIn_block ?_;refine wpIn_region_any (by kernel_rfl) ?_;have O:(r:Int)<(Gn:Int):=by omega
 have P:(0:Int)<(Ln:Int):=by omega
 refine nF (W:=W.drew) 11 135 (λi=>match i with|0=>.pointer (some ⟨g,k*7,none⟩)|1=>.pointer (some ⟨bx,3,none⟩)|2=>.slice (some ⟨gb,go,none⟩) Gn Gc|3=>.int .i64 (r:Int)|4=>.pointer (some ⟨gb,go+r,none⟩)|5=>.slice (some ⟨RB,RO,none⟩) Ln Lc|6=>.pointer (some ⟨RB,RO,none⟩)|7=>.int .i64 key|8=>.int .i64 value|9=>.int .i64 p3|_=>.bool (decide (0<=p3)))
  (λa=>a.tmps.size=149/\a.tmps[26]?=some (.pointer (some ⟨g,k*7,none⟩))/\a.tmps[6]?=some (.pointer (some ⟨bx,0,none⟩))/\a.tmps[21]?=some (.pointer (some ⟨Br,0,none⟩))/\a.tmps[22]?=some (.pointer (some ⟨Bv,0,none⟩))/\a.tmps[8]?=some (.pointer (some ⟨b8,0,none⟩)))
  (by kernel_rfl) (λa i x z p=>?put) (λi o a ho z p hd K hK=>?op) (λo a ho p c K hK=>?call) ⟨m,A,J,B,C,L⟩
 case put =>
  obtain⟨E,q,s,u,w,y⟩:=p;refine⟨⟨by simp[Act.put,E],?_,?_,?_,?_,?_⟩,by omega⟩
  all_goals (show(a.tmps.setIfInBounds (135+i) x)[_]?=_;rw[uz (by omega)];assumption)
 case op =>
  obtain⟨E,q,s,u,w,y⟩:=p;have ev:∀(t:Nat)(v:Value),a.tmps[t]?=some v->∀h:t<a.tmps.size,a.tmps[t]=v:=λt v c h=>uc ((v7 h).symm.trans c);have R:=ev 26 _ q (by omega);have e6:=ev 6 _ s (by omega);have S:=ev 21 _ u (by omega);have T:=ev 22 _ w (by omega);have e8:=ev 8 _ y (by omega);have f:Aside _:=ev;clear ev q s u w y;have F:i=0\/i=1\/i=2\/i=3\/i=4\/i=5\/i=6\/i=7\/i=8\/i=9\/i=10:=by omega
  rcases F with rfl|rfl|rfl|rfl|rfl|rfl|rfl|rfl|rfl|rfl|rfl
  ·skip
   exact z32
  ·skip
   exact z32
  ·skip
   obtain rfl:=uc ho;have d1:=f.out 136 _ (hd ⟨1,.data⟩ (by simp)) (by omega);clear hd
   go_simp
   exact hK
  ·skip
   exact z32
  ·skip
   obtain rfl:=uc ho;have d2:=f.out 137 _ (hd ⟨2,.data⟩ (by simp)) (by omega);have d3:=f.out 138 _ (hd ⟨3,.data⟩ (by simp)) (by omega);clear hd
   go_simp
   exact hK
  ·skip
   obtain rfl:=uc ho;have d4:=f.out 139 _ (hd ⟨4,.data⟩ (by simp)) (by omega);clear hd
   go_simp
   exact hK
  ·skip
   obtain rfl:=uc ho;have d5:=f.out 140 _ (hd ⟨5,.data⟩ (by simp)) (by omega);clear hd
   go_simp
   exact hK
  ·skip
   obtain rfl:=uc ho;have d6:=f.out 141 _ (hd ⟨6,.data⟩ (by simp)) (by omega);clear hd
   go_simp
   exact hK
  ·skip
   exact z32
  ·skip
   exact z32
  ·skip
   obtain rfl:=uc ho;have d9:=f.out 144 _ (hd ⟨9,.data⟩ (by simp)) (by omega);clear hd
   go_simp
   exact hK
 case call =>
  obtain⟨E,q,s,u,w,y⟩:=p;have ev:∀(t:Nat)(v:Value),a.tmps[t]?=some v->∀h:t<a.tmps.size,a.tmps[t]=v:=λt v c h=>uc ((v7 h).symm.trans c);have d0:=ev 135 _ (c 0 (by omega)) (by omega);have d7:=ev 142 _ (c 7 (by omega)) (by omega);have d8:=ev 143 _ (c 8 (by omega)) (by omega);have d10:=ev 145 _ (c 10 (by omega)) (by omega);have U:Aside _:=hK;clear ev c hK q s u w y;obtain rfl:=uc ho
  go_simp
  refine⟨trivial,(callsIn_wide.2 (d.mono ?_)).inRound l⟩;rintro e D ⟨⟨x,rfl⟩,V⟩;refine U.out _ _ λb I H=>wpAnyIn_done ?_ (show Exit.inBlock _ Q .normal _ D from V _) _
  have G:b=#[true,true,true,true,true,true,true,true,true,true,true,true]:=Array.ext_getElem? λi=>by
   by_cases z:i<12
   ·rw[H i z];exact(show ∀j:Fin 12,some (decide (j.1<=11))=(#[true,true,true,true,true,true,true,true,true,true,true,true]:Array Bool)[j.1]? by decide) ⟨i,z⟩
   ·have I:b.size=12:=I;rw[vH (by omega),vH (by simp;omega)]
  subst G;show Region.ready _ _ _=[]
  kernel_rfl
def TS(key value:Int)(m:Bool)(cs:List An)(k:Nat):List An:=match cs[k]? with
 | some c=>cs.set k (BM c key value m)
 | none=>cs
def Ll(key value:Int)(m:Bool)(N:Nat)(pre:List Nat)(cs:List An):List An:=pre.foldl (λcs k=>TS key value m cs (k%N)) cs
theorem jn{key value:Int}{m:Bool}{cs:List An}{k:Nat}:(TS key value m cs k).length=cs.length:=by
 unfold TS;split<;>simp
theorem PC{key value:Int}{m:Bool}{N:Nat}:∀(pre:List Nat)(cs:List An),(Ll key value m N pre cs).length=cs.length
 | [],_=>rfl
 | k :: r,cs=>by
   show(Ll key value m N r (TS key value m cs (k%N))).length=_;rw[PC r,jn]
theorem VL{key value:Int}{m:Bool}{N:Nat}(pre:List Nat)(k:Nat)(cs:List An):Ll key value m N (pre++[k]) cs=TS key value m (Ll key value m N pre cs) (k%N):=by
 simp[Ll]
theorem Zj(b:Nat->Bool):∀k,(Lh b k).length<=k
 | 0=>uh _
 | k+1=>by
   have:=Zj b k;simp only[Lh,uV];split<;>simp<;>omega
theorem Vd(c:An)(key value:Int)(m:Bool):(BM c key value m).Q=c.Q/\(BM c key value m).G=c.G++[key]:=by
 unfold BM
 cases m
 ·exact⟨rfl,rfl⟩
 ·simp only[uY];generalize decide (c.Ba<max value (IntKind.i64.wrap (-value)))=p;generalize decide (c.Bg<max value (IntKind.i64.wrap (-value)))=q
  cases p<;>cases q<;>exact⟨rfl,rfl⟩
theorem bI{key value:Int}{m:Bool}{N:Nat}(pre:List Nat)(cs:List An)(M:Nat)(h:∀c∈cs,c.G.length<=M):∀c∈Ll key value m N pre cs,c.G.length<=M+pre.length:=by
 induction pre generalizing cs M with
 | nil=>exact h
 | cons k r ih =>
   intro c a
   have:=ih (TS key value m cs (k%N)) (M+1) (λd hd=>by
    unfold TS at hd;split at hd
    ·rename_i e b
     rcases List.mem_or_eq_of_mem_set hd with q|q
     ·have:=h d q;omega
     ·rw[q,(Vd e key value m).2];have:=h e (uy b);simp;omega
    ·have:=h d hd;omega) c a
   simp;omega
theorem TM.grown{O:Nat->Prop}{w0 W v:World}{g cap:Nat}{cv us:List Value}{l:List An}(h:TM O w0 W g cap cv us l){row:Option Nat}(c:W.grownBy v row)(hr:∀r,row=some r->w0.heap.size<=r/\∃o:Obj,W.heap[r]?=some o/\o.isCells=false):TM O w0 v g cap cv us l:=by
 have z:=h.keep.size;refine h.mono (h.keep.trans ⟨c.os,c.tape,c.output,c.size,λk hk _=>c.block k (by omega) λe=>?_⟩) (c.block g h.glt λe=>?_) λi u b w d m=>c.block b m λe=>?_
 ·have:=(hr k e.symm).1;omega
 ·obtain⟨_,o,ho,n⟩:=hr g e.symm;obtain⟨cur,f,_⟩:=h.obj;rw[f]at ho;obtain rfl:=uc ho
  cases n
 ·obtain⟨_,o,ho,n⟩:=hr b e.symm;have p:i<l.length:=by rw[<-h.len];exact A6 w
  obtain⟨j,_⟩:=h.row i l[i] u (P3 p) w;rcases D7 j with⟨_,_,a,q⟩|⟨y,x,cur,q,s,t,_⟩
  ·rw[q]at d
   cases a<;>simp[Ae]at d
  ·have:y=b:=by rw[q]at d;simp[Ae,s]at d;exact d
   subst this;rw[t]at ho;obtain rfl:=uc ho
   cases n
structure RI(O:Nat->Prop)(w0 w:World)(fx:Nat->Prop)(g cap:Nat)(cv:List Value)(cs:List An)(key value:Int)(m:Bool)(pre:List Nat)(W:World)(us:List Value):Prop where
 tm:TM O w0 W g cap cv us (Ll key value m cs.length pre cs)
 size:w.heap.size<=W.heap.size
 fix:∀b,fx b->W.heap[b]?=w.heap[b]?
 apart:∀(i:Nat) u b,us[i]?=some u->Ae u=some b->¬fx b
structure rM(w0 w:World)(fx:Nat->Prop)(g N:Nat)(cv:List Value)(W:World):Prop where
 keep:A8 w0.heap.size (λb=>b=g) w0 W
 fix:∀b,fx b->W.heap[b]?=w.heap[b]?
 code:∀k c,k<N->cv[k]?=some c->W.cell? ⟨g,k*7,none⟩=some c
 gobj:∃o,W.heap[g]?=some o/\o.isCells=true
 size:w.heap.size<=W.heap.size
section
variable {O:Nat->Prop} {w0 w:World} {fx:Nat->Prop} {g cap:Nat} {cv us0:List Value} {cs:List An} {key value:Int} {m:Bool}
theorem RI.rc{pre:List Nat}{W:World}{us:List Value}(h:RI O w0 w fx g cap cv cs key value m pre W us):rM w0 w fx g cs.length cv W:=by
 refine⟨h.tm.keep,h.fix,λk c hk d=>?_,?_,h.size⟩
 ·have b:=PC (key:=key) (value:=value) (m:=m) (N:=cs.length) pre cs;have a:k<(Ll key value m cs.length pre cs).length:=by rw[b];exact hk
  have e:k<us.length:=by rw[h.tm.len,b];exact hk
  exact(h.tm.cells k _ c _ (P3 a) d (P3 e)).c0
 ·obtain⟨cur,a,_⟩:=h.tm.obj;exact⟨_,a,rfl⟩
theorem RI.add{pre:List Nat}{W n:World}{us:List Value}(h:RI O w0 w fx g cap cv cs key value m pre W us)(x:Nat)(U:0<cs.length)(r:∀b,fx b->b<w.heap.size/\b≠g)(V:w0.heap.size<=w.heap.size){c:An}{u:Value}(G:(Ll key value m cs.length pre cs)[x%cs.length]?=some c)(F:us[x%cs.length]?=some u)
 (hp:∃v,cv[x%cs.length]?=some v/\∃u' w',TQ g (x%cs.length) cap w' n/\FQ n g (x%cs.length) v u' (BM c key value m)/\Bw w' 3 1 u' (c.G.length+1) ((c.G++[key]).map (Value.int .i64))/\A8 W.heap.size (λb=>b=g\/Ae u=some b) W.drew w'/\(∀o,o≠x%cs.length*7+1->w'.cell? ⟨g,o,none⟩=W.drew.cell? ⟨g,o,none⟩) /\
  (∃cur,w'.heap[g]?=some (.cells cur 166 (0,0))/\cur.size=cap*7)/\∀b,Ae u'=some b->Ae u=some b\/W.heap.size<=b) :
 ∃H,RI O w0 w fx g cap cv cs key value m (pre++[x]) n H/\KeepsOthers W n:=by
 obtain⟨v,s,u',w',j,R,hr,t,z,A,I⟩:=hp;have S:=h.tm.glt;have B:=h.tm.row _ _ _ G F;have J:Ae u≠some g:=λe=>by have:=B.2 g e;have:=h.tm.lt;omega
 have C:Ae u'≠some g:=λe=>by rcases I g e with q|q;exact J q;omega
 have d:A8 W.heap.size (λb=>b=g\/Ae u=some b) W n:=⟨j.os.trans t.os,j.tape.trans t.tape,j.output.trans t.output,by rw[j.size];exact t.size,λk hk N=>by rw[j.blk k λe=>N (.inl e)];exact t.block k hk N⟩
 have p:=h.tm.step (w':=n) (c':=BM c key value m) (u':=u') G F d (j.obj A) (Vd c key value m).1 (λX D=>by rw[s]at D;obtain rfl:=uc D;exact R)
  (λo ho=>by rw[j.oth o ho];exact z o (ho 1 (by omega))) (by
   rw[(Vd c key value m).2];have:=hr.mono (w':=n) (λb _ K=>j.blk b λe=>C (by rw[<-e];exact K))
   simpa using this) I
 refine⟨us.set (x%cs.length) u',⟨by rw[VL];unfold TS;rw[G];exact p,uK h.size d.size,λb f=>?_,λi y b l P L=>?_⟩,⟨d.size,λk o ho E=>?_⟩⟩
 ·have:=r b f;rw[d.block b (by have:=h.size;omega) (λe=>e.elim this.2 λe=>h.apart _ _ _ F e f)];exact h.fix b f
 ·rw[vk]at l;split at l
  ·split at l
   ·obtain rfl:=uc l;rcases I b P with q|q
    ·exact h.apart _ _ _ F q L
    ·have:=(r b L).1;have:=h.size;omega
   ·cases l
  ·exact h.apart i y b l P L
 ·have hk:k<W.heap.size:=(Array.getElem?_eq_some_iff.1 ho).1;rw[d.block k hk λe=>?_]
  ·exact ho
  ·rcases e with e|e
   ·obtain⟨cur,l,_⟩:=h.tm.obj;rw[e,l]at ho;obtain rfl:=uc ho
    cases E
   ·rcases D7 B.1 with⟨_,_,a,s⟩|⟨T,Q,cur,s,M,f,_⟩
    ·rw[s]at e
     cases a<;>simp[Ae]at e
    ·have:T=k:=by rw[s]at e;simp[Ae,M]at e;exact e
     subst this;rw[f]at ho;obtain rfl:=uc ho
     cases E
theorem RI.grown{pre:List Nat}{W f:World}{us:List Value}(h:RI O w0 w fx g cap cv cs key value m pre W us)(a:∀b,fx b->b<w.heap.size/\b≠g)(i:w0.heap.size<=w.heap.size){row:Option Nat}(c:W.grownBy f row)(hr:∀r,row=some r->w.heap.size<=r/\∃o:Obj,W.heap[r]?=some o/\o.isCells=false):RI O w0 w fx g cap cv cs key value m pre f us :=
 ⟨h.tm.grown c λr e=>⟨uK i (hr r e).1,(hr r e).2⟩,uK h.size c.size,λb d=>by
  rw[c.block b (by have:=(a b d).1;have:=h.size;omega) λe=>by have:=(hr b e.symm).1;have:=(a b d).1;omega];exact h.fix b d,h.apart⟩
end
theorem nB{O:Nat->Prop}{w0 w:World}{fx:Nat->Prop}{g cap:Nat}{cv M:List Value}{cs:List An}{key value p3:Int}{bf:Nat->Bool}{ga:Option Addr}{gc:Nat}{vo:Value}{Bc Bo Br Bv bx b8 gb go RB RO r Gn Gc Ln Lc:Nat}
 (hT:TM O w0 w g cap cv M cs) (hga:0<cs.length->ga=some ⟨g,0,none⟩) (hN:cs.length<=1000000) (hM:∀c∈cs,c.G.length<=1000000) (P:∀b,fx b->b<w.heap.size/\b≠g) (hap:∀(i:Nat) u b,M[i]?=some u->Ae u=some b->¬fx b) (hw:w0.heap.size<=w.heap.size)
 (hBc:w.cell? ⟨Bc,0,none⟩=some (.slice ga cs.length gc)) (fBc:fx Bc) (hBo:w.cell? ⟨Bo,0,none⟩=some vo) (fBo:fx Bo) (c21:w.cell? ⟨Br,0,none⟩=some (.int .i64 (r:Int))) (fBr:fx Br) (c22:w.cell? ⟨Bv,0,none⟩=some (.int .i64 value)) (fBv:fx Bv)
 (c6:w0.cell? ⟨bx,3,none⟩=some (.slice (some ⟨gb,go,none⟩) Gn Gc)) (n6:bx≠g) (cr:w0.cell? ⟨gb,go+r,none⟩=some (.slice (some ⟨RB,RO,none⟩) Ln Lc)) (nr:gb≠g) (ck:w0.cell? ⟨RB,RO,none⟩=some (.int .i64 key)) (nk:RB≠g) (c8:w0.cell? ⟨b8,0,none⟩=some (.int .i64 p3)) (n8:b8≠g) (hr:r<Gn) (hl:0<Ln)
 (hIn:∀W k c,rM w0 w fx g cs.length cv W->k<cs.length->cv[k]?=some c->Calls prog 226 #[vo,c] W λe I=>e=.returned (.bool (bf k))/\RowKit.Below W.heap.size W I)
 {tm:Array Value} {ds:List Deferred} (z:tm.size=149) (V:tm[133]?=some (.func (.func 225) #[] #[.pointer (some ⟨Bc,0,none⟩),.pointer (some ⟨Bo,0,none⟩)])) (h6:tm[6]?=some (.pointer (some ⟨bx,0,none⟩)))
 (h21:tm[21]?=some (.pointer (some ⟨Br,0,none⟩))) (h22:tm[22]?=some (.pointer (some ⟨Bv,0,none⟩))) (h8:tm[8]?=some (.pointer (some ⟨b8,0,none⟩)))
 {Q:Exit->Act->World->Prop} (T:∀D I U,w.heap.size<=D->RI O w0 w fx g cap cv cs key value (decide (0<=p3)) (Lh bf cs.length) I U->I.heap[D]?=some (.deferred (some []))->Q .normal { tmps:=tm,defers:={ target:=.collected D,args:=#[] } :: ds } I) :
 (Code.rangeFunc (.tmp 133) #[134] sS sZ).wp prog Q { tmps:=tm,defers:=ds } w:=by
 have C:∀(W:World)(b o:Nat)(v:Value),A8 w0.heap.size (λb=>b=g) w0 W->b≠g->w0.cell? ⟨b,o,none⟩=some v->W.cell? ⟨b,o,none⟩=some v:=λW b o v hk hne s=>(El hk (World.block_lt_of_cell? _ _ s) hne).trans s;have d:∀(W:World)(b o:Nat)(v:Value),(∀b,fx b->W.heap[b]?=w.heap[b]?)->fx b->w.cell? ⟨b,o,none⟩=some v->W.cell? ⟨b,o,none⟩=some v:=λW b o v hf E s=>(World.cell?_of_block (w:=w) (hf b E)).trans s;have hcvl:cv.length=cs.length:=hT.clen
 have hR:qk (rM w0 w fx g cs.length cv) 0 g cs.length Bc Bo (.slice ga cs.length gc) vo (λk=>cv.getD k undef) bf:=⟨λW h=>d W _ _ _ h.fix fBc hBc,λW h=>d W _ _ _ h.fix fBo hBo,λW k h hk=>by
  have:k<cv.length:=by omega
  exact h.code k _ hk (by simp[uj,this]),
  λW I h E=>⟨h.keep.trans (A8.of E |>.weaken (by have:=h.keep.size;omega) λ_ _ hk=>hk),λb hf=>by
   have y:=P b hf;rw[E.block b (by have:=h.size;omega)];exact h.fix b hf,λk c hk s=>by
   have y:=h.code k c hk s;rw[GV E (World.block_lt_of_cell? _ _ y)];exact y,by
   obtain⟨o,y,G⟩:=h.gobj;exact⟨o,(E.block g (Array.getElem?_eq_some_iff.1 y).1).trans y,G⟩,uK h.size E.size⟩,
  λW k h hk=>hIn W k _ h hk (by
   have:k<cv.length:=by omega
   simp[uj,this])⟩
 have X:RI O w0 w fx g cap cv cs key value (decide (0<=p3)) [] w M:=⟨hT,uh _,λ_ _=>rfl,hap⟩
 refine wpIn_wide.1 (wpIn_rangeFunc_ownF (F:=Fence.wide) (n:=5) (α:=Nat) (w0:=w) rfl (by omega) (gf:=225) (lb:=#[.pointer (some ⟨Bc,0,none⟩),.pointer (some ⟨Bo,0,none⟩)]) (by simp[Act.eval,vn,V]) trivial (enters_of func225 (by kernel_rfl) rfl)
  (encs:=λx=>#[.pointer (some ⟨g,x%cs.length*7,none⟩)]) (Kp:=λA B=>rM w0 w fx g cs.length cv A->rM w0 w fx g cs.length cv B) (S:=λxs=>xs=Lh bf cs.length) (Sp:=λ_=>True) (N:=cs.length) ?seq (λh k s=>k (h s)) ?turn (RowKit.Below.refl _ _) (λ_=>rfl)
  (λpre W=>∃us,RI O w0 w fx g cap cv cs key value (decide (0<=p3)) pre W us) (λ_ _ _=>False) ?own (λ_ _ _ _ _ h _ _=>h) ⟨M,X⟩ (λx=>{ tmps:=(tm.setIfInBounds 134 (.pointer (some ⟨g,x%cs.length*7,none⟩))).setIfInBounds 26 (.pointer (some ⟨g,x%cs.length*7,none⟩)),defers:=[] })
  ?f ?body (λD xs W hD hS ⟨us,j⟩ hd=>?done) (λ_ _ _ _ _ _ h _=>h.elim))
 case seq =>
  intro l J Jx W E hJ _ hY h0;have hC0:rM w0 w fx g cs.length cv W:=hR.keep _ _ X.rc E;refine(eQ hR hga hN 3 l J Jx (λpre W I h L=>hJ pre W I none h ⟨L.os,L.tape,L.output,L.size,λk hk _=>L.block k hk⟩ λr e=>by cases e) (λk W1 hJ1 R hk=>?_) W h0 hC0).mono λe I h=>?_
  ·have Y:(Lh bf k).length<cs.length:=Nat.lt_of_le_of_lt (Zj bf k) hk;have hy:=hY (Lh bf k) k W1 hJ1 Y;simp only[wk hk]at hy;obtain⟨fn,tmps,f,body,hy,hq⟩:=hy;refine⟨fn,tmps,f,body,hy,RoundIn.mono hq λe I h=>?_⟩;rcases h with⟨y,G,h3⟩|⟨y,G⟩
   ·exact .inl ⟨y,G,h3 R⟩
   ·exact .inr ⟨y,G⟩
  ·rcases h.2 with G|⟨pre,G⟩
   ·exact⟨h.1,.inl ⟨_,rfl,G⟩⟩
   ·exact⟨h.1,.inr ⟨pre,trivial,G⟩⟩
 case turn =>
  intro W l o o' hl ho hoc _ R;have H:∀b,b≠l->(W.putObj l o').heap[b]?=W.heap[b]?:=λb E=>World.putObj_heap_other E
  have Z:g≠l:=λe=>by
   obtain⟨q,y,G⟩:=R.gobj;rw[e,ho]at y;obtain rfl:=uc y;rw[hoc]at G;cases G
  refine⟨R.keep.trans ⟨rfl,rfl,rfl,by simp,λk hk _=>H k (by omega)⟩,λb E=>by rw[H b (by have:=(P b E).1;omega)];exact R.fix b E,λk c hk s=>(World.cell?_of_block (w:=W) (H g Z)).trans (R.code k c hk s),?_,by simpa using R.size⟩;obtain⟨q,y,G⟩:=R.gobj;exact⟨q,(H g Z).trans y,G⟩
 case own =>
  rintro pre W I row ⟨us,j⟩ hg hrow;exact⟨us,j.grown P hw hg hrow⟩
 case f =>
  intro l x W K hK;refine Eq.mpr (congrArg (λt=>Code.wpIn (Fence.wide.inRound l) 3 prog sS (Exit.then K λ_ _ _=>False) { tmps:=t,defers:=[] } W) (show(#[(134:Nat)].zip #[Value.pointer (some ⟨g,x%cs.length*7,none⟩)]).foldl (λt (p,v)=>t.setIfInBounds p v) tm=tm.setIfInBounds 134 (Value.pointer (some ⟨g,x%cs.length*7,none⟩)) by first|rfl|simp)) ?_;refine qN (tm:=tm.setIfInBounds 134 (.pointer (some ⟨g,x%cs.length*7,none⟩))) (by simpa using z) (by rw[vB];simp[z]) hK
 case body =>
  rintro l pre x W ⟨us,j⟩ hpre;have hN0:0<cs.length:=by omega
  have hx:x%cs.length<cs.length:=wK _ hN0;have hal:=PC (key:=key) (value:=value) (m:=decide (0<=p3)) (N:=cs.length) pre cs;obtain⟨c,s⟩:∃c,(Ll key value (decide (0<=p3)) cs.length pre cs)[x%cs.length]?=some c:=⟨_,P3 (by omega)⟩;obtain⟨u,hu⟩:∃u,us[x%cs.length]?=some u:=⟨_,P3 (by rw[j.tm.len];omega)⟩;obtain⟨v,hv⟩:∃v,cv[x%cs.length]?=some v:=⟨_,P3 (by omega)⟩;have hru:=j.tm.row _ _ _ s hu;have hd:RowKit.Below W.heap.size W W.drew:=⟨rfl,rfl,rfl,uh _,λ_ _=>rfl⟩
  have hbnd:c.G.length<=2000000:=by
   have:=bI (key:=key) (value:=value) (m:=decide (0<=p3)) (N:=cs.length) pre cs 1000000 hM c (uy s);omega
  refine qQ (n:=2) (k:=x%cs.length) (key:=key) (value:=value) (p3:=p3) (bx:=bx) (Br:=Br) (Bv:=Bv) (b8:=b8) (gb:=gb) (go:=go) (RB:=RB) (RO:=RO) (r:=r) (Gn:=Gn) (Gc:=Gc) (Ln:=Ln) (Lc:=Lc) (by simpa using z) (by rw[vB];simp[z]) (by rw[uz (by omega),uz (by omega)];exact h6) (by rw[uz (by omega),uz (by omega)];exact h21)
   (by rw[uz (by omega),uz (by omega)];exact h22) (by rw[uz (by omega),uz (by omega)];exact h8) hr hl (C W _ _ _ j.tm.keep n6 c6) (d W _ _ _ j.fix fBr c21) (C W _ _ _ j.tm.keep nr cr) (C W _ _ _ j.tm.keep nk ck) (d W _ _ _ j.fix fBv c22) (C W _ _ _ j.tm.keep n8 c8)
   ((lz W.drew g (x%cs.length) cap v u c key value (decide (0<=p3)) ((j.tm.cells _ _ _ _ s hv hu).of_block rfl) j.tm.obj (hru.1.mono λ_ _ _=>rfl) (λe=>by have:=hru.2 g e;have:=j.tm.lt;omega) hbnd).mono λe I h=>⟨h.1,λa=>?_⟩)
  obtain⟨U,hI',hko⟩:=j.add x hN0 P hw s hu ⟨v,hv,h.2⟩;exact⟨hko,λ_=>hI'.rc,U,hI'⟩
 case done =>
  subst hS;exact T D W us hD j hd
def oB(own:List Int)(cs:List An)(k:Nat):Bool:=match cs[k]? with
 | some c=>(Cl own c.Q).getD false
 | none=>false
theorem Uf{own:List Int}{key value:Int}{m:Bool}:∀(cs a:List An),Cb own key value m cs=some a->(∀(k:Nat) c,cs[k]?=some c->Cl own c.Q=some (oB own cs k)/\c.G.length<=1000000)/\a.length=cs.length/\∀k:Nat,a[k]?=(cs[k]?).map λc=>if oB own cs k=true then BM c key value m else c
 | [],a,h=>by
   obtain rfl:=uc h;exact⟨λk c j=>by simp at j,rfl,λk=>by simp⟩
 | c :: r,a,h=>by
   simp only[Cb]at h
   cases hr:decide (c.G.length<=1000000)with
   | false=>rw[hr]at h;cases h
   | true =>
     rw[hr]at h;have hr:=uf hr;obtain⟨b,g,h⟩:=Option.bind_eq_some_iff.1 h;obtain⟨ds,f,h⟩:=Option.bind_eq_some_iff.1 h;obtain rfl:=uc h;obtain⟨l,n,o⟩:=Uf r ds f;have e:oB own (c :: r) 0=b:=by simp[oB,g]
     have i:∀k,oB own (c :: r) (k+1)=oB own r k:=λk=>by simp[oB]
     refine⟨λk d hk=>?_,by simp[n],λk=>?_⟩
     ·cases k with
      | zero =>
        obtain rfl:c=d:=by simpa using hk
        rw[e];exact⟨g,hr⟩
      | succ k=>rw[i];exact l k d (by simpa using hk)
     ·cases k with
      | zero=>simp only[w5,e,w8];cases b<;>rfl
      | succ k=>simp only[vm,i];exact o k
theorem TR{key value:Int}{m:Bool}{b:Nat->Bool}(cs:List An):∀n,n<=cs.length->∀k:Nat,(Ll key value m cs.length (Lh b n) cs)[k]?=(cs[k]?).map λc=>if k<n/\b k=true then BM c key value m else c
 | 0,_,k=>by simp[Lh,Ll]
 | n+1,hn,k=>by
   have ih:=TR (key:=key) (value:=value) (m:=m) (b:=b) cs n (by omega);simp only[Lh];by_cases d:b n=true
   ·rw[uk d,VL,wk (by omega)];have f:=ih n;rw[P3 (by omega:n<cs.length)]at f;simp only[w8,Nat.lt_irrefl,false_and,if_false]at f;unfold TS;rw[f];simp only;rw[vk];by_cases e:n=k
    ·subst e;rw[uk rfl,uk (by rw[PC];omega),P3 (by omega:n<cs.length)];simp[d]
    ·rw[uo e,ih k];have:(k<n+1/\b k=true)↔(k<n/\b k=true):=by constructor<;>rintro⟨g,a⟩<;>exact⟨by omega,a⟩
     simp only[this]
   ·rw[uo d,wV,ih k]
    have:(k<n+1/\b k=true)↔(k<n/\b k=true):=by
     constructor
     ·rintro⟨g,a⟩;refine⟨?_,a⟩;rcases uZ k n with q|q
      ·exact q
      ·have:k=n:=by omega
       subst this;exact absurd a d
     ·rintro⟨g,a⟩;exact⟨by omega,a⟩
    simp only[this]
theorem jv{own:List Int}{key value:Int}{m:Bool}{cs a:List An}(h:Cb own key value m cs=some a):a=Ll key value m cs.length (Lh (oB own cs) cs.length) cs:=by
 obtain⟨_,d,b⟩:=Uf cs a h;apply vX;intro k;rw[b,TR cs cs.length (uh _)]
 cases hk:cs[k]? with
 | none=>rfl
 | some c =>
   have:=A6 hk;simp[this]
theorem TM.start{O:Nat->Prop}{w:World}{g cap:Nat}{cur:Array Value}{vals:List Value}{cs:List An}(y:w.heap[g]?=some (.cells cur 166 (0,0)))(V:O g)(K:cs.length<=cap)(W:cap<=maxLen)(L:cur.size=cap*7)(M:cur.toList.take (cs.length*7)=vals)
 (X:By O w vals ((cs.map Cc).flatMap D.cells)) (q:∀c∈cs,c.G=[]):∃cv us,TM O w w g cap cv us cs/\∀(i:Nat) u b,us[i]?=some u->Ae u≠some b:=by
 have z:g<w.heap.size:=Dz y
 have n:vals.length=cs.length*7:=by
  have Y:cur.toList.length=cap*7:=by rw[ve,L]
  rw[<-M,uO,Y];exact we (vE _ K)
 have key:∀(k o:Nat) d,k<cs.length->o<7->(Cc (cs.getD k { Q:=[],Af:=0,A6:=0,A8:=0,Ba:=0,Bg:=0,G:=[] })).cells[o]?=some d->∃v,vals[k*7+o]?=some v/\w.cell? ⟨g,k*7+o,none⟩=some v/\Ay O w v d:=λk o d hk ho hd=>by
  have m:k*7+o<vals.length:=by rw[n];omega
  have A:((cs.map Cc).flatMap D.cells)[k*7+o]?=some d:=by
   rw[cQ Cc (λ_=>rfl) cs k hk o ho]
   simpa [uj,hk] using hd
  refine⟨_,P3 m,?_,(X.2 _ _ _ (P3 m) A).1⟩
  have:cur.toList[k*7+o]?=some vals[k*7+o]:=by
   rw[<-P3 m]
   conv=>rhs;rw[<-M]
   rw[vg,uk (by rw[<-n];exact m)]
  simp only[World.cell?,y];simp only[wz,vI,if_false];rw[<-vr,this]
 have l:∀(f:Nat->Value)(k:Nat) v,((List.range cs.length).map f)[k]?=some v->k<cs.length/\v=f k:=λf k v h=>by
  have hk:k<cs.length:=by have:=A6 h;simpa using this
  refine⟨hk,?_⟩;rw[uu,wN hk]at h;exact(uc h).symm
 have r:∀k,k<cs.length->∃a,vals.getD (k*7+6) undef=.slice a 0 0:=λk hk=>by
  obtain⟨v,B,_,C⟩:=key k 6 (.nil 1) hk (by omega) rfl;rw[uj,B]
  cases C with
  | nil a=>exact⟨a,rfl⟩
 have s:∀(i:Nat) u b,((List.range cs.length).map λk=>vals.getD (k*7+6) undef)[i]?=some u->Ae u≠some b:=λi u b h t=>by
  obtain⟨hk,rfl⟩:=l _ i u h;obtain⟨a,e⟩:=r i hk;rw[e]at t
  cases a<;>simp[Ae]at t
 refine⟨(List.range cs.length).map λk=>vals.getD (k*7) undef,(List.range cs.length).map λk=>vals.getD (k*7+6) undef,⟨A8.refl _ _ _,z,V,by simp,by simp,⟨cur,y,L⟩,⟨K,W⟩,λj c v u x E F=>?_,λj c v x E=>?_,λj c u x F=>?_,λi j u v b Z _ H _=>absurd H (s i u b Z)⟩,s⟩
 ·obtain⟨hk,rfl⟩:=l _ j v E;obtain⟨_,rfl⟩:=l _ j u F;have p:cs.getD j { Q:=[],Af:=0,A6:=0,A8:=0,Ba:=0,Bg:=0,G:=[] }=c:=by simp[uj,x]
  obtain⟨v0,I,N,J⟩:=key j 0 _ hk (by omega) rfl;obtain⟨v1,p1,P,r1⟩:=key j 1 _ hk (by omega) rfl;obtain⟨v2,p2,R,r2⟩:=key j 2 _ hk (by omega) rfl;obtain⟨v3,p3,S,r3⟩:=key j 3 _ hk (by omega) rfl;obtain⟨v4,p4,T,r4⟩:=key j 4 _ hk (by omega) rfl;obtain⟨v5,p5,U,r5⟩:=key j 5 _ hk (by omega) rfl;obtain⟨v6,p6,q6,r6⟩:=key j 6 _ hk (by omega) rfl;have B:=AJ r1;have e2:=AJ r2;have C:=AJ r3;have e4:=AJ r4;have e5:=AJ r5;subst B;subst e2;subst C;subst e4;subst e5;rw[p]at P R S T U;exact⟨by rw[uj,show j*7=j*7+0 from rfl,I];exact N,P,R,S,T,U,by rw[uj,p6];exact q6⟩
 ·obtain⟨hk,rfl⟩:=l _ j v E;have p:cs.getD j { Q:=[],Af:=0,A6:=0,A8:=0,Ba:=0,Bg:=0,G:=[] }=c:=by simp[uj,x]
  obtain⟨v0,I,N,J⟩:=key j 0 _ hk (by omega) rfl;rw[p]at J;rw[uj,show j*7=j*7+0 from rfl,I];exact J
 ·obtain⟨hk,rfl⟩:=l _ j u F;obtain⟨a,e⟩:=r j hk;have:c.G=[]:=q c (uy x);rw[this,e];refine⟨?_,λb hb=>?_⟩
  ·cases a with
   | none=>exact .inl (World.ownsRow_nil w _ _ _)
   | some a=>exact .inr ⟨rfl,rfl,a,rfl⟩
  ·cases a<;>simp[Ae]at hb
def sj(n:Nat):Code->Bool
 | .region m _ _=>Nat.beq m n
 | _=>false
def PI(n:Nat):Code->Option Code
 | .seq x y=>match sj n x with
   | true=>some (.seq x y)
   | false=>match PI n x with
     | some c=>some c
     | none=>PI n y
 | .cond _ x y=>match PI n x with
   | some c=>some c
   | none=>PI n y
 | .block _ x=>PI n x
 | .loop x=>PI n x
 | _=>none
noncomputable def nJ:Code:=(PI 27 Xz).getD .skip
structure lm(n0:Nat)(Ds:List Nat)(ds:List Deferred)(W:World):Prop where
 eq:ds=Ds.map λD=>{ target:=.collected D,args:=#[] }
 nodup:Ds.Nodup
 at_:∀D∈Ds,n0<=D/\W.heap[D]?=some (.deferred (some []))
structure gT(v2 v5 v6 v8 v10 v16 v89:Value)(n:Nat)(k:Nat)(tm:Array Value):Prop where
 size:tm.size=149
 s2:tm[2]?=some v2
 s5:tm[5]?=some v5
 s6:tm[6]?=some v6
 s8:tm[8]?=some v8
 s10:tm[10]?=some v10
 s16:tm[16]?=some v16
 s89:tm[89]?=some v89
 s90:tm[90]?=some (.int .i64 (n:Int))
 s91:tm[91]?=some (.int .i64 (k:Int))
theorem iP{b:Aa}{c:Au}{row:Int}:∀(l:List Ac)(o:List Int),C5 b c row l=some o->o.length=l.length/\∀(i:Nat) p,l[i]?=some p->∃v,Bt b c row p.B p.J=some v/\o[i]?=some v.1
 | [],o,h=>by
   obtain rfl:=uc h;grind
 | p :: r,o,h=>by
   simp only[C5]at h;obtain⟨v,d,h⟩:=Option.bind_eq_some_iff.1 h;obtain⟨vs,a,h⟩:=Option.bind_eq_some_iff.1 h;obtain rfl:=uc h;obtain⟨e,f⟩:=iP r vs a;grind
theorem pz{own:List Int}{n k:Nat}{x:Int}(h:own[k]?=some x)(b:own.length=n):((own.take k)++List.replicate (n-k) 0).set k x=(own.take (k+1))++List.replicate (n-(k+1)) 0:=by
 have hk:k<own.length:=A6 h;have a:(own.take k).length=k:=by grind
 rw[List.set_append_right _ _ (by omega),a,Nat.sub_self,show n-k=(n-(k+1))+1 by omega,List.replicate_succ,List.set_cons_zero,List.take_add_one,h];simp
theorem Yf{O:Nat->Prop}{w:World}{v:Value}{l:List Ac}(h:Ay O w v (Ao 2 Ah l)) :
 ∃a cap b o,v=.slice a l.length cap/\∀(i:Nat) p,l[i]?=some p->a=some ⟨b,o,none⟩/\¬O b/\b<w.heap.size/\w.cell? ⟨b,o+i*2,none⟩=some (.int .i64 p.B)/\w.cell? ⟨b,o+i*2+1,none⟩=some (.int .i64 p.J):=by
 generalize hx:Ao 2 Ah l=x at h
 cases h<;>simp only[Ao,D.list.injEq,reduceCtorEq]at hx
 case emp a cap sz =>
  have:l=[]:=List.map_eq_nil_iff.1 hx.2;subst this;exact⟨a,cap,0,0,rfl,λi p hp=>by simp at hp⟩
 case list b off cap sz xs c hne hb hO hcap hsz h1 hcell h =>
  obtain⟨rfl,rfl⟩:=hx;refine⟨some ⟨b,off,none⟩,cap,b,off,by rw[ua],λk p hp=>⟨rfl,hO,hb,?_,?_⟩⟩
  ·have d:(l.map Ah)[k]?=some (Ah p):=by simp[hp]
   have:=hcell k (Ah p) 0 (D.int .i64 p.B) d rfl;have r:=h k (Ah p) 0 (D.int .i64 p.B) d rfl;rw[AJ r]at this;exact this
  ·have d:(l.map Ah)[k]?=some (Ah p):=by simp[hp]
   have:=hcell k (Ah p) 1 (D.int .i64 p.J) d rfl;have r:=h k (Ah p) 1 (D.int .i64 p.J) d rfl;rw[AJ r]at this;exact this
theorem nP{p0:Aa}{p1:Au}{p2:List Ac}{p3:Int}{O:Nat->Prop}{w0:World}{g cap:Nat}{cv us:List Value}{cs cs':List An}{row key value:Int}{own l:List Int}{v2 x63:Value}{b5 b6 b8 b10 K Br Bv gc n k:Nat}{v89 x50 x51 x60 x61 x62:Value}
 (hown:C5 p0 p1 row p2=some own) (hl:idx p1.G row=some l) (hky:idx l 0=some key) (hcs:Cb own key value (decide (0<=p3)) cs=some cs') (hn2:p2.length<=1000000) (hN:cs.length<=1000000)
 (hKn:∀(c lv:Int)(v:Int×Bool),Bt p0 p1 row c lv=some v->∀wr,A8 w0.heap.size (λb=>b=g) w0 wr->Calls prog 151 #[.agg #[x50,x51],.agg #[x60,x61,x62,x63],.int .i64 row,.int .i64 c,.int .i64 lv] wr λe w'=>e=.returned (.tuple #[.int .i64 v.1,.bool v.2])/\RowKit.Below wr.heap.size wr w')
 (hIn:∀(a b:List Int)(r:Bool),Cl a b=some r->∀(va vb:Value) wr,A8 w0.heap.size (λb=>b=g) w0 wr->Ay O wr va (Ao 1 D.z a)->Ay O wr vb (Ao 1 D.z b)->Calls prog 226 #[va,vb] wr λe w'=>e=.returned (.bool r)/\RowKit.Below wr.heap.size wr w')
 (hO:∀b,O b->b<w0.heap.size) (d2:Ay O w0 v2 (Ao 2 Ah p2)) (d63:Ay O w0 x63 (Ao 1 (Ao 1 D.z) p1.G))
 (q50:w0.cell? ⟨b5,0,none⟩=some x50) (q51:w0.cell? ⟨b5,1,none⟩=some x51) (q60:w0.cell? ⟨b6,0,none⟩=some x60) (q61:w0.cell? ⟨b6,1,none⟩=some x61) (q62:w0.cell? ⟨b6,2,none⟩=some x62) (q63:w0.cell? ⟨b6,3,none⟩=some x63) (q80:w0.cell? ⟨b8,0,none⟩=some (.int .i64 p3)) (q16:w0.cell? ⟨K,2,none⟩=some (.slice (some ⟨g,0,none⟩) cs.length gc))
 (n5:b5≠g) (n6:b6≠g) (n8:b8≠g) (n16:K≠g)
 {W:World} {tm:Array Value} {Ds:List Nat} {ds:List Deferred} (q:TM O w0 W g cap cv us cs) (s:lm w0.heap.size Ds ds W) (I:gT v2 (.pointer (some ⟨b5,0,none⟩)) (.pointer (some ⟨b6,0,none⟩)) (.pointer (some ⟨b8,0,none⟩)) (.pointer (some ⟨b10,0,none⟩)) (.pointer (some ⟨K,0,none⟩)) v89 n k tm)
 (s21:tm[21]?=some (.pointer (some ⟨Br,0,none⟩))) (s22:tm[22]?=some (.pointer (some ⟨Bv,0,none⟩))) (V:W.cell? ⟨Br,0,none⟩=some (.int .i64 row)) (cBv:W.cell? ⟨Bv,0,none⟩=some (.int .i64 value)) (gBr:w0.heap.size<=Br) (gBv:w0.heap.size<=Bv) (aB:∀(i:Nat) u b,us[i]?=some u->Ae u=some b->b≠Br/\b≠Bv)
 {Q:Exit->Act->World->Prop} (L:∀tm' W' us' D,gT v2 (.pointer (some ⟨b5,0,none⟩)) (.pointer (some ⟨b6,0,none⟩)) (.pointer (some ⟨b8,0,none⟩)) (.pointer (some ⟨b10,0,none⟩)) (.pointer (some ⟨K,0,none⟩)) v89 n k tm'->TM O w0 W' g cap cv us' cs'->lm w0.heap.size (D :: Ds) ({ target:=.collected D,args:=#[] } :: ds) W'->Q .normal { tmps:=tm',defers:={ target:=.collected D,args:=#[] } :: ds } W') :
 nJ.wp prog Q { tmps:=tm,defers:=ds } W:=by
 obtain⟨z,hoa⟩:=iP p2 own hown;have hsz:=I.size;have f2:=I.s2;have f5:=I.s5;have f6:=I.s6;have f8:=I.s8;have f10:=I.s10;have f16:=I.s16;have f89:=I.s89;have f90:=I.s90;have f91:=I.s91;obtain⟨l0,rfl⟩:∃l:List Value,tm=l.toArray:=⟨tm.toList,by simp⟩;have T:l0.length=149:=by simpa using hsz
 iterate 18 (replace T:=U9 T;obtain⟨_,_,_,_,_,_,_,_,l0,rfl,T⟩:=T)
 iterate 5 (replace T:=E7 T;obtain⟨_,l0,rfl,T⟩:=T)
 obtain rfl:=List.length_eq_zero_iff.1 T;clear hsz T;simp only[ww,w5,vm,Option.some.injEq]at f2 f5 f6 f8 f10 f16 f89 f90 f91 s21 s22;subst f2;subst f5;subst f6;subst f8;subst f10;subst f16;subst f89;subst f90;subst f91;subst s21;subst s22;have HD:Aside _:=@L;have HF:Aside _:=I;have HMk:Aside _:=s;have HOA:Aside _:=hoa;have HT:Aside _:=q;have HKN:Aside _:=hKn;have HIN:Aside _:=hIn;have HAB:Aside _:=aB;clear L I s hoa q hKn hIn aB;obtain⟨a2,c2,b2,o2,e2,U⟩:=Yf d2;subst e2;have H2:Aside _:=U;have hmk:=run_make_row' (P:=prog) 30 3 (.int .i64 0) 8 fR pj rfl .i64 .i64 p2.length (by omega) (by omega);clear U;show Code.wp _ (Code.seq _ _) _ _ _
 go_wp2_with fail
 obtain⟨j,X⟩:∃j,j=W.heap.size:=⟨_,rfl⟩;rw[<-X];obtain⟨W1,hW1⟩:∃W1,W1=W.alloc (.cells (madeCells #[.int .i64 0] p2.length) 3):=⟨_,rfl⟩;rw[<-hW1];have HW1:Aside (_/\_):=⟨X,hW1⟩;clear hmk hW1 X
 go_loopg [110] p2.length (λm i wr=>∃k:Nat,k<=p2.length/\m=p2.length-k/\i=.int .i64 (k:Int)/\Aside (RowKit.Below W.heap.size W wr/\j<wr.heap.size/\wr.heap[j]?=some (.cells (((own.take k)++List.replicate (p2.length-k) 0).map (Value.int .i64)).toArray 3 (0,0))))
 case atStart =>
  obtain⟨e1,e2⟩:=HW1.out;refine⟨0,ug _,rfl,rfl,?_,?_,?_⟩
  ·rw[e2];exact Ik _ _
  ·rw[e1,e2];simp
  ·rw[e1,e2,World.alloc_heap_new];simp only[madeCells];have:(Array.range p2.length).map (λx=>(#[Value.int .i64 0]:Array Value)[x%(#[Value.int .i64 0]:Array Value).size]!)=(((own.take 0)++List.replicate (p2.length-0) 0).map (Value.int .i64)).toArray:=Array.ext (by simp) λi J U=>by simp[Nat.mod_one]
   rw[this]
 case round =>
  obtain⟨k,hk,rfl,rfl,hA⟩:=hrel;by_cases hkn:k<p2.length
  ·have hkz:(k:Int)<(p2.length:Int):=by omega
   obtain⟨B,d,f⟩:=hA.out;have q:=HT.out;have t:=q.keep.trans ((A8.of (M:=λb=>b=g) B).weaken (by have:=q.keep.size;omega) λ_ _ h=>h);have kc:∀(b o:Nat)(v:Value),b≠g->w0.cell? ⟨b,o,none⟩=some v->wr.cell? ⟨b,o,none⟩=some v:=λb o v hne h=>(El t (World.block_lt_of_cell? _ _ h) hne).trans h;obtain⟨p,hp⟩:∃p,p2[k]?=some p:=⟨_,P3 hkn⟩;obtain⟨e2,m2,lt2,g20,g21⟩:=H2.out k p hp;have nb2:b2≠g:=λe=>m2 (by rw[e];exact q.ng);obtain⟨v,hv,Y⟩:=HOA.out k p hp;have c50:=kc _ _ _ n5 q50;have c51:=kc _ _ _ n5 q51;have c60:=kc _ _ _ n6 q60;have c61:=kc _ _ _ n6 q61;have c62:=kc _ _ _ n6 q62;have c63:=kc _ _ _ n6 q63;have c20:=kc _ _ _ nb2 g20;have c21:=kc _ _ _ nb2 g21;have cB:wr.cell? ⟨Br,0,none⟩=some (.int .i64 row):=(GV B (World.block_lt_of_cell? _ _ V)).trans V;have al:∀(b o':Nat)(v:Value)(o:Obj),wr.cell? ⟨b,o',none⟩=some v->(wr.alloc o).cell? ⟨b,o',none⟩=some v:=λb o' v o h=>by rw[World.cell?_alloc_lt _ _ _ (World.block_lt_of_cell? _ _ h)];exact h
   have a50:=λo=>al _ _ _ o c50;have a51:=λo=>al _ _ _ o c51;have a60:=λo=>al _ _ _ o c60;have a61:=λo=>al _ _ _ o c61;have a62:=λo=>al _ _ _ o c62;have a63:=λo=>al _ _ _ o c63;have aB:=λo=>al _ _ _ o cB;obtain⟨wa,E⟩:∃wa,wa=wr.alloc (.cells #[.int .i64 p.B,.int .i64 p.J] 81):=⟨_,rfl⟩;have N:=HKN.out p.B p.J v hv wa (by rw[E];exact t.trans ((A8.of (M:=λb=>b=g) (Ik wr _)).weaken (by have:=t.size;omega) λ_ _ h=>h));rw[E]at N;have F:RowKit.Below wr.heap.size wr wa:=by rw[E];exact Ik _ _
   subst e2;have Z:(own.take k).length=k:=by rw[uO];omega
   have hz:(((own.take k)++List.replicate (p2.length-k) 0).map (Value.int .i64))[k]?=some (.int .i64 0):=by
    rw[uu,uq (by omega),Z,Nat.sub_self,wP,uk (by omega)];rfl
   have hst:∀H,RowKit.Below (wr.alloc (.cells #[.int .i64 p.B,.int .i64 p.J] 81)).heap.size (wr.alloc (.cells #[.int .i64 p.B,.int .i64 p.J] 81)) H->H.heap[j]?=some (.cells (((own.take k)++List.replicate (p2.length-k) 0).map (Value.int .i64)).toArray 3 (0,0))/\H.cell? ⟨j,k,none⟩=some (.int .i64 0)/\H.frozen? ⟨j,k,none⟩=false:=λH U=>by
    have e:H.heap[j]?=some (.cells (((own.take k)++List.replicate (p2.length-k) 0).map (Value.int .i64)).toArray 3 (0,0)):=by
     rw[U.block j (by simp;omega),blk_alloc_lt _ _ _ d];exact f
    refine⟨e,?_,by simp[World.frozen?,e]⟩;simp only[World.cell?,e];simp only[wz,vI,if_false,ww];exact hz
   have HST:Aside _:=hst;clear Z hz hst;have HWA:Aside (_/\_/\_/\_/\_/\_):=⟨E,B,d,f,F,Y⟩;clear E hA q t kc hp m2 lt2 g20 g21 nb2 hv al B d f F Y
   go_wp2_with (go_at_call 151;refine N.mono ?_;rintro e H ⟨rfl,hb2⟩;obtain⟨_,g3,g4⟩:=HST.out H hb2)
   go_roundg (p2.length-(k+1))
   case measure=>go_light;omega
   case rel =>
    go_light
    obtain⟨E,B,d,f,F,Y⟩:=HWA.out;obtain⟨g5,_,_⟩:=HST.out H hb2;refine⟨k+1,by omega,rfl,by go_num,?_,?_,?_⟩
    ·have J:=ZY (RowKit.Below.trans (B.mono (uh _)) (F.mono B.size)) (by rw[E];exact hb2);refine⟨(by show H.os=_;exact J.os),(by show H.tape=_;exact J.tape),(by show H.output=_;exact J.output),by simpa using J.size,λb R=>?_⟩;rw[blk_setCell_other _ _ _ _ (by show b≠j;have:=HW1.out.1;omega)];exact J.block b R
    ·have:=hb2.size;simp at this ⊢;omega
    ·rw[heap_setCell_same _ _ _ _ _ _ g5];have:=pz Y z;rw[<-this,List.setIfInBounds_toArray,vd]
  ·have hkz:¬((k:Int)<(p2.length:Int)):=by omega
   obtain⟨B,d,f⟩:=hA.out;have q:=HT.out;have t:=q.keep.trans ((A8.of (M:=λb=>b=g) B).weaken (by have:=q.keep.size;omega) λ_ _ h=>h);have c16:wr.cell? ⟨K,2,none⟩=some (.slice (some ⟨g,0,none⟩) cs.length gc):=(El t (World.block_lt_of_cell? _ _ q16) n16).trans q16;have HWA:Aside (_/\_/\_/\_):=⟨B,d,f,t⟩;clear B d f q t hA
   go_wp2_with (go_at_call 152;refine(js _ _ _ rfl rfl).mono ?_;rintro e H ⟨rfl,rfl⟩)
   obtain⟨B,d,f,t⟩:=HWA.out;obtain rfl:k=p2.length:=by omega
   rw[show own.take p2.length=own by rw[<-z];exact uS,Nat.sub_self,List.replicate_zero,wV]at f;obtain⟨X,_⟩:=HW1.out;have q:=HT.out;have s:=HMk.out;obtain⟨hin,_,_⟩:=Uf cs cs' hcs;obtain⟨h0r,hrl,hrg⟩:=QU hl;obtain⟨_,h0l,h0g⟩:=QU hky;obtain⟨rga,gb,go,Gc,A,C,RB,RO,G,hOg,hOr⟩:=RP d63;have hml:p1.G.getD row.toNat []=l:=by rw[uj,hrg];rfl
   have hl0:0<l.length:=by simpa using h0l
   obtain⟨hA0,hAc⟩:=G.cell row.toNat hrl 0 (by rw[hml];exact hl0)
   have hz0:Qh p1.G row.toNat 0=key:=by
    unfold Qh;rw[hml];simp only[Int.toNat_zero]at h0g;rw[uj,h0g];rfl
   have hrw:=G.row row.toNat hrl;rw[hml,hA0]at hrw;have hxv:=G.val;rw[G.ga (by omega)]at hxv;rw[hz0]at hAc;have ng:O g:=q.ng;have ngb:gb≠g:=λe=>(hOg (by omega)).1 (e▸ng);have nRB:RB row.toNat≠g:=λe=>(hOr row.toNat hrl 0 (by rw[hml];exact hl0)).1 (e▸ng);obtain⟨W2,S⟩:∃W2,W2=(wr.alloc (.cells #[.slice (some ⟨g,0,none⟩) cs.length gc] 103)).alloc (.cells #[.slice (some ⟨j,0,none⟩) p2.length p2.length] 30):=⟨_,rfl⟩;have hB2:RowKit.Below wr.heap.size wr W2:=by rw[S];exact ZY (Ik wr _) (Ik _ _)
   have hsz2:W2.heap.size=wr.heap.size+2:=by rw[S];simp
   have hT2:TM O w0 W2 g cap cv us cs:=(q.keepS B).keepS hB2;have hWw:=B.size;have hw0:=q.keep.size;have hBW:RowKit.Below W.heap.size W W2:=ZY B hB2;have ltBr:=World.block_lt_of_cell? _ _ V;have ltBv:=World.block_lt_of_cell? _ _ cBv;simp only at ltBr ltBv;have hgw0:=q.lt
   have hrowc:∀(i:Nat) u b,us[i]?=some u->Ae u=some b->b<W.heap.size/\∃c,W.heap[b]?=some c/\c.isCells=true:=λi u b hi y=>by
    have hil:i<cs.length:=by rw[<-q.len];exact A6 hi
    obtain⟨hru,_⟩:=q.row i cs[i] u (P3 hil) hi;refine⟨hru.lt y,?_⟩;rcases D7 hru with⟨_,_,a,hv⟩|⟨g',cap',cur,hv,hcp,hb',_⟩
    ·rw[hv]at y
     cases a<;>simp[Ae]at y
    ·have:g'=b:=by rw[hv]at y;simp[Ae,hcp]at y;exact y
     subst this;exact⟨_,hb',rfl⟩
   rw[<-S];show Code.wp _ (Code.rangeFunc _ _ sS sZ) _ _ _
   refine nB (w0:=w0) (w:=W2) (fx:=λb=>b=Br\/b=Bv\/b=wr.heap.size\/b=wr.heap.size+1\/b=j\/b∈Ds) (key:=key) (value:=value) (p3:=p3) (bf:=oB own cs) (gc:=gc) (vo:=.slice (some ⟨j,0,none⟩) p2.length p2.length) (Bc:=wr.heap.size) (Bo:=wr.heap.size+1) (Br:=Br) (Bv:=Bv) (bx:=b6) (b8:=b8) (gb:=gb) (go:=go) (RB:=RB row.toNat) (RO:=RO row.toNat) (r:=row.toNat) (Ln:=l.length) hT2 (λ_=>rfl) hN
    (λc hc=>by
     obtain⟨i,hi⟩:=List.mem_iff_getElem?.1 hc;exact(hin i c hi).2)
    (λb R=>?fx) (λi u b hi y hf=>?ap) (by rw[hsz2];omega) ?bc (.inr (.inr (.inl rfl))) ?j (.inr (.inr (.inr (.inl rfl)))) ?br (.inl rfl) ?bv (.inr (.inl rfl)) (hxv▸q63) n6 hrw ngb (by simpa using hAc) nRB q80 n8 hrl hl0 ?inn rfl rfl rfl rfl rfl rfl ?fin
   case fx =>
    rcases R with rfl|rfl|rfl|rfl|rfl|R
    ·exact⟨by omega,by omega⟩
    ·exact⟨by omega,by omega⟩
    ·exact⟨by omega,by omega⟩
    ·exact⟨by omega,by omega⟩
    ·exact⟨by omega,by omega⟩
    ·obtain⟨J,U⟩:=s.at_ b R;have:=(Array.getElem?_eq_some_iff.1 U).1;exact⟨by omega,by omega⟩
   case ap =>
    obtain⟨J,c,U,h3⟩:=hrowc i u b hi y;obtain⟨h4,h5⟩:=HAB.out i u b hi y;rcases hf with rfl|rfl|rfl|rfl|rfl|hf
    ·exact h4 rfl
    ·exact h5 rfl
    ·omega
    ·omega
    ·omega
    ·obtain⟨_,h6⟩:=s.at_ b hf;rw[h6]at U;obtain rfl:=uc U
     cases h3
   case bc =>
    rw[S,World.cell?_alloc_lt _ _ _ (by simp)];exact World.cell?_alloc_at _ _ _ _ rfl
   case j =>
    rw[S];exact World.cell?_alloc_at _ _ _ _ (by simp)
   case br=>rw[wt h0r];exact(GV hBW ltBr).trans V
   case bv=>exact(GV hBW ltBv).trans cBv
   case inn =>
    intro W' i c hC hi hc;have hil:cs[i]?=some cs[i]:=P3 hi;refine HIN.out own cs[i].Q (oB own cs i) (hin i _ hil).1 _ _ W' hC.keep ?_ ((q.codes i _ c hil hc).mono ⟨hC.keep.size,λ_ _ h=>h,λb Z R=>hC.keep.block b Z λe=>R (e▸ng)⟩)
    have hbW':W'.heap[j]?=some (.cells (own.map (Value.int .i64)).toArray 3 (0,0)):=by
     rw[hC.fix j (.inr (.inr (.inr (.inr (.inl rfl))))),hB2.block j d];exact f
    refine Rs ?_ λb R hOb=>?_
    ·rw[z];exact .inl ⟨by simp[z],.inr ⟨j,p2.length,_,rfl,ug _,hbW',uh _,by unfold maxLen;omega,by simp[z],by simp[z];exact vM (by simp[z])⟩⟩
    ·have:b=j:=by
      by_cases h:p2.length=0
      ·simp[Ae,h]at R
      ·simp[Ae,h]at R;exact R.symm
     have:=hO b hOb;omega
   case fin =>
    intro D W' us' hD hI hd;refine HD.out _ W' us' D ⟨rfl,rfl,rfl,rfl,rfl,rfl,rfl,rfl,rfl,rfl⟩ ?_ ⟨by rw[s.eq];rfl,List.nodup_cons.2 ⟨λh=>?_,s.nodup⟩,λD' h=>?_⟩
    ·rw[jv hcs];exact hI.tm
    ·have:=(Array.getElem?_eq_some_iff.1 (s.at_ D h).2).1;omega
    ·rcases List.mem_cons.1 h with rfl|h
     ·exact⟨by omega,hd⟩
     ·have J:=s.at_ D' h;have:=(Array.getElem?_eq_some_iff.1 J.2).1;refine⟨J.1,?_⟩;rw[hI.fix D' (.inr (.inr (.inr (.inr (.inr h))))),hBW.block D' this];exact J.2
theorem U7{F:Fence}{n N:Nat}{P:Program}{fn:Func}{tmps:Array Value}{R:Ending->World->Prop}(I:World->Prop)(b:∀w,I w->LeavesInM F n P fn tmps R [] .returning w)
 (a:∀w D,N<=D->I w->w.heap[D]?=some (.deferred (some []))->I (w.putObj D (.deferred none))):∀(Ds:List Nat)(w:World),Ds.Nodup->(∀D∈Ds,N<=D/\w.heap[D]?=some (.deferred (some [])))->I w->LeavesInM F n P fn tmps R (Ds.map λD=>{ target:=.collected D,args:=#[] }) .returning w
 | [],w,_,_,h=>b w h
 | D :: Ds,w,c,hD,h=>by
   obtain⟨i,f⟩:=hD D (.head _);obtain⟨d,c⟩:=List.nodup_cons.1 c;refine⟨by simp,.inl ⟨D,w.putObj D (.deferred none),rfl,run_takeDeferred f,U7 I b a Ds _ c (λj g=>?_) (a w D i h f)⟩⟩;obtain⟨k,l⟩:=hD j (.tail _ g);exact⟨k,(World.putObj_heap_other (λe=>d (by subst e;exact g))).trans l⟩
theorem TM.ucells{O:Nat->Prop}{w0 wr:World}{g cap:Nat}{cv us:List Value}{l:List An}(h:TM O w0 wr g cap cv us l){i b:Nat}{u:Value}(n:us[i]?=some u)(d:Ae u=some b):∃c T f,wr.heap[b]?=some (.cells c T f):=by
 have e:i<l.length:=by rw[<-h.len];exact A6 n
 obtain⟨hr,_⟩:=h.row i l[i] u (P3 e) n;rcases D7 hr with⟨_,_,a,j⟩|⟨p,o,cur,j,k,m,_⟩
 ·rw[j]at d
  cases a<;>simp[Ae]at d
 ·rw[j]at d;simp[Ae,k]at d;subst d;exact⟨_,_,_,m⟩
theorem gJ{O:Nat->Prop}{w:World}{g cap:Nat}{cv us:List Value}{l:List An}(s:g<w.heap.size)(h:¬O g)(m:l.length<=cap)(n:0<l.length)(t:cv.length=l.length)(A:us.length=l.length)
 (b:∀(j:Nat) c v u,l[j]?=some c->cv[j]?=some v->us[j]?=some u->FQ w g j v u c) (d:∀(j:Nat) c v,l[j]?=some c->cv[j]?=some v->Ay O w v (Ao 1 D.z c.Q)) (f:∀(j:Nat) c u,l[j]?=some c->us[j]?=some u->Ay O w u (Ao 1 D.z c.G)) :
 Ay O w (.slice (some ⟨g,0,none⟩) l.length cap) (Ao 7 A5 l):=by
 have e:=Ay.list (O:=O) (w:=w) g 0 cap 7 (l.map A5) (λi k=>(w.cell? ⟨g,i*7+k,none⟩).getD undef) (by cases l with|nil=>simp at n|cons=>simp) s h (by simpa using m)
  (λx hx=>by obtain⟨r,_,rfl⟩:=List.mem_map.1 hx;rfl) (λx hx y hy=>by obtain⟨r,_,rfl⟩:=List.mem_map.1 hx;simp[D.cells,A5]at hy;rcases hy with rfl|rfl|rfl|rfl|rfl|rfl|rfl<;>rfl)
  (λi x k y hx hy=>by
   rw[uu]at hx
   cases hi:l[i]? with
   | none=>simp[hi]at hx
   | some z =>
     simp[hi]at hx;subst hx;have o:=A6 hi;have a:=b i z cv[i] us[i] hi (P3 (by omega)) (P3 (by omega));rw[uQ]
     match k,hy with
     | 0,hy=>rw[vF,a.c0];rfl
     | 1,hy=>rw[a.c1];rfl
     | 2,hy=>rw[a.c2];rfl
     | 3,hy=>rw[a.c3];rfl
     | 4,hy=>rw[a.c4];rfl
     | 5,hy=>rw[a.c5];rfl
     | 6,hy=>rw[a.c6];rfl
     | k+7,hy=>simp[D.cells,A5]at hy)
  (λi x k y hx hy=>by
   rw[uu]at hx
   cases hi:l[i]? with
   | none=>simp[hi]at hx
   | some z =>
     simp[hi]at hx;subst hx;have o:=A6 hi;have p:cv[i]?=some cv[i]:=P3 (by omega);have q:us[i]?=some us[i]:=P3 (by omega);have a:=b i z cv[i] us[i] hi p q
     match k,hy with
     | 0,hy=>obtain rfl:=uc hy;show Ay O w ((w.cell? ⟨g,i*7,none⟩).getD undef) _;rw[a.c0];exact d i z _ hi p
     | 1,hy=>obtain rfl:=uc hy;show Ay O w ((w.cell? ⟨g,i*7+1,none⟩).getD undef) _;rw[a.c1];exact .int _ _
     | 2,hy=>obtain rfl:=uc hy;show Ay O w ((w.cell? ⟨g,i*7+2,none⟩).getD undef) _;rw[a.c2];exact .int _ _
     | 3,hy=>obtain rfl:=uc hy;show Ay O w ((w.cell? ⟨g,i*7+3,none⟩).getD undef) _;rw[a.c3];exact .int _ _
     | 4,hy=>obtain rfl:=uc hy;show Ay O w ((w.cell? ⟨g,i*7+4,none⟩).getD undef) _;rw[a.c4];exact .int _ _
     | 5,hy=>obtain rfl:=uc hy;show Ay O w ((w.cell? ⟨g,i*7+5,none⟩).getD undef) _;rw[a.c5];exact .int _ _
     | 6,hy=>obtain rfl:=uc hy;show Ay O w ((w.cell? ⟨g,i*7+6,none⟩).getD undef) _;rw[a.c6];exact f i z _ hi q
     | k+7,hy=>simp[D.cells,A5]at hy)
 simpa using e
theorem tp{P:Program}{c:Code}{Q:Exit->Act->World->Prop}{b:Act->World->Prop}{a:Act}{w:World}(r:Code)(hK:∀a w,r.wp P Q a w->b a w)(h:∀K:Act->World->Prop,K=(λa w=>r.wp P Q a w)->c.wp P (Exit.then K Q) a w):c.wp P (Exit.then b Q) a w :=
 wp_mono (h _ rfl) λe a w q=>by
  cases e
  case normal=>exact hK a w q
  all_goals exact q
theorem bK(w:World)(o:Obj)(n:Nat)(h:n=w.heap.size):(w.alloc o).heap[n]?=some o:=h▸heap_alloc_new w o
theorem TM.ublt{O:Nat->Prop}{w0 wr:World}{g cap:Nat}{cv us:List Value}{l:List An}(h:TM O w0 wr g cap cv us l){i b:Nat}{u:Value}(k:us[i]?=some u)(c:Ae u=some b):b<wr.heap.size:=by
 have d:i<l.length:=by rw[<-h.len];exact A6 k
 obtain⟨hr,_⟩:=h.row i l[i] u (P3 d) k;rcases D7 hr with⟨_,_,a,e⟩|⟨n,m,cur,e,f,j,_⟩
 ·rw[e]at c
  cases a<;>simp[Ae]at c
 ·rw[e]at c;simp[Ae,f]at c;subst c;exact Dz j
theorem tL{K b:Act->World->Prop}{a:Act}{w:World}(h:∀a w,b a w->K a w)(x:b a w):K a w:=h a w x
@[reducible] def ru(p0:Aa)(p1:Au)(p2 x64:List Ac)(p3:Int)(x89:List Int)(k78:List An):AS :=
  Dk 149 [(2,.l 2 Ah p2),(5,.ptr 5 1 0),(6,.ptr 6 1 0),(8,.ptr 8 1 0),(10,.ptr 10 1 0),(16,.ptr 16 1 0),(89,.l 1 D.z x89),(90,.i (x89.length:Int)),(91,.i 0)] [(5,.var [.l 2 Ai p0.K,.l 7 Am p0.A],1),(6,.var [.t p1.Ae,.i p1.Ag,.l 2 Ah p1.E,.l 1 (Ao 1 D.z) p1.G],1),(8,.var [.i p3],1),(10,.var [.n 2,.i 0,.n 7],1),(16,.var [.l 2 Ah x64,.i p3,.sl 78 1],1),(78,.row 7 166 (List.map Cc k78),1)]
theorem jZ(TV:∀(O:Aa)(P:Au)(p2:List Int)(p3:Int)(R:List Int),Ck O P p2 p3=some R->Ax prog 146 [.d (EK O),.d (E5 P),.l 1 D.z p2,.i p3] (.l 1 D.z R))
 (TK:∀(O:Aa)(P:Au)(p2 p3 p4:Int)(R:Int×Bool),Bt O P p2 p3 p4=some R->Ax prog 151 [.d (EK O),.d (E5 P),.i p2,.i p3,.i p4] (.tup [.i R.1,.b R.2]))
 (TN:∀(O P:List Int)(R:Bool),Cl O P=some R->Ax prog 226 [.l 1 D.z O,.l 1 D.z P] (.b R))
 {O:Aa} {P:Au} {p2 f:List Ac} {p3:Int} {p:List Int} {s y2:List An} (hy:OU O P p2 p3 p s=some y2)
 {X:Cx} {β:Nat->Value} {a:Act} {w:World} (hM:∀b,¬X.M b) (z:X.w₀.heap.size=X.base)
 (S:SimB X (λ_=>False) β (ru O P p2 f p3 p s) a w) :
 (lN 10 Xz).1.wp prog (Exit.then ((lN 10 Xz).2.wp prog (Oo prog f88 (.tup [.d (H6 { V:=f,Y:=p3,A1:=y2 }),.i 0]) X)) (Oo prog f88 (.tup [.d (H6 { V:=f,Y:=p3,A1:=y2 }),.i 0]) X)) a w:=by
 obtain⟨hr0,hy⟩:=Wj hy;obtain⟨hr0,hr1⟩:=Bool.and_eq_true_iff.1 hr0;obtain⟨hn89,hn2,hn78,hp78⟩:=uf hr0;have hnil:∀c∈s,c.G=[]:=λc hc=>List.isEmpty_iff.1 (List.all_eq_true.1 hr1 c hc);obtain⟨tm,df⟩:=a;have I:tm.size=149:=S.len;obtain rfl:df=[]:=S.df;have tv:∀t,t<149->∃v,tm[t]?=some v:=λt h=>⟨tm[t]'(by omega),v7 (by omega)⟩;obtain⟨v2,s2⟩:=tv 2 (by omega);obtain⟨v5,s5⟩:=tv 5 (by omega);obtain⟨v6,s6⟩:=tv 6 (by omega);obtain⟨v8,s8⟩:=tv 8 (by omega);obtain⟨v10,s10⟩:=tv 10 (by omega);obtain⟨v16,s16⟩:=tv 16 (by omega);obtain⟨v89,s89⟩:=tv 89 (by omega);obtain⟨v90,s90⟩:=tv 90 (by omega);obtain⟨v91,s91⟩:=tv 91 (by omega);obtain⟨b5,_,_,e5,_,_,c5⟩:=PN S 5 rfl;obtain⟨b6,_,_,e6,_,_,c6⟩:=PN S 6 rfl;obtain⟨b8,_,_,e8,_,_,c8⟩:=PN S 8 rfl;obtain⟨b10,cv10,T10,e10,hcv10,z10,c10⟩:=PN S 10 rfl;obtain⟨b16,cv16,T16,e16,hcv16,zcv16,c16⟩:=PN S 16 rfl;obtain⟨x50,q50,k50,_⟩:=c5 0 _ rfl;obtain⟨x51,q51,k51,_⟩:=c5 1 _ rfl;obtain⟨x60,q60,k60,_⟩:=c6 0 _ rfl;obtain⟨x61,q61,k61,_⟩:=c6 1 _ rfl;obtain⟨x62,q62,k62,_⟩:=c6 2 _ rfl;obtain⟨x63,q63,k63,_⟩:=c6 3 _ rfl;obtain⟨x80,q80,k80,_⟩:=c8 0 _ rfl;obtain rfl:=AJ k80;obtain⟨x160,q160,k160,_⟩:=c16 0 _ rfl;obtain⟨x161,q161,k161,_⟩:=c16 1 _ rfl;obtain rfl:=AJ k161;obtain⟨A,B,_,_,e160,_⟩:=Yf k160;subst e160;obtain⟨x100,q100,_⟩:=c10 0 _ rfl;obtain⟨x101,q101,_⟩:=c10 1 _ rfl;obtain⟨x102,q102,_⟩:=c10 2 _ rfl;obtain⟨u16,q16,k16⟩:=c16 2 _ rfl;have k16:u16=β 78:=k16.2 rfl
 have dS:Ay (OS β X _) w (.agg #[x50,x51]) (EK O):=.agg _ _ rfl (by simp[D.one]) λi v x d hx=>by
  match i,d,hx with
  | 0,d,hx=>simp at d hx;subst d;subst hx;exact k50
  | 1,d,hx=>simp at d hx;subst d;subst hx;exact k51
  | i+2,d,hx=>simp at d
 have dX:Ay (OS β X _) w (.agg #[x60,x61,x62,x63]) (E5 P):=.agg _ _ rfl (by simp[D.one]) λi v x d hx=>by
  match i,d,hx with
  | 0,d,hx=>simp at d hx;subst d;subst hx;exact k60
  | 1,d,hx=>simp at d hx;subst d;subst hx;exact k61
  | 2,d,hx=>simp at d hx;subst d;subst hx;exact k62
  | 3,d,hx=>simp at d hx;subst d;subst hx;exact k63
  | i+4,d,hx=>simp at d
 have ptr:∀(t q b:Nat)(v:Value),v=.pointer (some ⟨b,0,none⟩)->True:=λ_ _ _ _ _=>trivial;obtain⟨_,r5,t5⟩:=PM S 5 s5 rfl rfl;obtain⟨_,r6,t6⟩:=PM S 6 s6 rfl rfl;obtain⟨_,r8,t8⟩:=PM S 8 s8 rfl rfl;obtain⟨_,r10,t10⟩:=PM S 10 s10 rfl rfl;obtain⟨_,r16,t16⟩:=PM S 16 s16 rfl rfl;have r5:=e5.symm.trans r5;have r6:=e6.symm.trans r6;have r8:=e8.symm.trans r8;have r10:=e10.symm.trans r10;have r16:=e16.symm.trans r16;simp at r5 r6 r8 r10 r16;subst r5;subst r6;subst r8;subst r10;subst r16;have d2:=WN S 2 s2 rfl;have d89:=WN S 89 s89 rfl;obtain⟨a89,c89,b89,o89,t89,h89⟩:=Ht d89;obtain rfl:=AJ (WN S 90 s90 rfl);obtain rfl:=AJ (WN S 91 s91 rfl);have hbx:IU β _ _ w 78 (.row 7 166 (List.map Cc s)):=S.boxes 78;obtain⟨_,_,vals,hrow,hL⟩:=hbx;rw[ua,<-k16]at hrow;have hMo:=Vq S 78 rfl;rw[<-k16]at hMo
 obtain⟨g,cap,cur,eu,hcp,hg,hg1,hg2,hg3,hg4,_⟩:∃g cap cur,u16=.slice (some ⟨g,0,none⟩) s.length cap/\cap≠0/\w.heap[g]?=some (.cells cur 166 (0,0))/\s.length<=cap/\cap<=maxLen/\cur.size=cap*7/\cur.toList.take (s.length*7)=vals/\vals.length=s.length*7:=by
  rcases D7 hrow with⟨G,_⟩|⟨g,cap,cur,h⟩
  ·omega
  ·exact⟨g,cap,cur,h⟩
 have hug:Ae u16=some g:=by rw[eu];simp[Ae,hcp]
 have hO:=hMo g hug;obtain⟨cv,us0,H,hnb⟩:=TM.start hg hO hg1 hg2 hg3 hg4 hL hnil
 have nq:∀q b,q≠78->q<149->(Ag (ru O P p2 f p3 p s) q).box.owned=true->β q=.pointer (some ⟨b,0,none⟩)->b≠g:=λq b T _ ho he hbg=>by
  subst hbg;exact T (S.inj q 78 b ho rfl (by rw[he];rfl) (by rw[<-k16];exact hug))
 have n5:=nq 5 b5 (by omega) (by omega) rfl e5;have n6:=nq 6 b6 (by omega) (by omega) rfl e6;have n8:=nq 8 b8 (by omega) (by omega) rfl e8;have n10:=nq 10 b10 (by omega) (by omega) rfl e10;have n16:=nq 16 b16 (by omega) (by omega) rfl e16
 have hval:=λ(row v:Int)(vs:List Int)(d:Ck O P [row] p3=some vs)=>λwr (hk:A8 w.heap.size (λb=>b=g) w wr) (rv:Value) (hrv:Ay (OS β X _) wr rv (Ao 1 D.z [row]))=>Tw (TV O P [row] p3 vs d) S (M:=λb=>b=g) (λb z=>z▸hO) hk #[.agg #[x50,x51],.agg #[x60,x61,x62,x63],rv,.int .i64 p3] rfl λi v x d hx=>by
  match i,d,hx with
  | 0,d,hx=>simp at d hx;subst d;subst hx;exact dS.mono ⟨hk.size,λ_ _ h=>h,λb hlt z=>hk.block b hlt λhm=>z (hm▸hO)⟩
  | 1,d,hx=>simp at d hx;subst d;subst hx;exact dX.mono ⟨hk.size,λ_ _ h=>h,λb hlt z=>hk.block b hlt λhm=>z (hm▸hO)⟩
  | 2,d,hx=>simp at d hx;subst d;subst hx;exact hrv
  | 3,d,hx=>simp at d hx;subst d;subst hx;exact .int _ _
  | i+4,d,hx=>simp at d
 have hkno:=λ(row c l:Int)(v:Int×Bool)(d:Bt O P row c l=some v)=>λwr (hk:A8 w.heap.size (λb=>b=g) w wr)=>Z1 (TK O P row c l v d) S (M:=λb=>b=g) (λb z=>z▸hO) hk #[.agg #[x50,x51],.agg #[x60,x61,x62,x63],.int .i64 row,.int .i64 c,.int .i64 l] rfl λi v x d hx=>by
  match i,d,hx with
  | 0,d,hx=>simp at d hx;subst d;subst hx;exact dS
  | 1,d,hx=>simp at d hx;subst d;subst hx;exact dX
  | 2,d,hx=>simp at d hx;subst d;subst hx;exact .int _ _
  | 3,d,hx=>simp at d hx;subst d;subst hx;exact .int _ _
  | 4,d,hx=>simp at d hx;subst d;subst hx;exact .int _ _
  | i+5,d,hx=>simp at d
 subst t5;subst t6;subst t8;subst t10;subst t16;subst t89;subst eu;have K16:Aside _:=k16;have K160:Aside _:=k160;have HF0:gT v2 (.pointer (some ⟨b5,0,none⟩)) (.pointer (some ⟨b6,0,none⟩)) (.pointer (some ⟨b8,0,none⟩)) (.pointer (some ⟨b10,0,none⟩)) (.pointer (some ⟨b16,0,none⟩)) (.slice a89 p.length c89) p.length 0 tm:=⟨I,s2,s5,s6,s8,s10,s16,s89,s90,s91⟩;show Code.wp _ (Code.block _ (Code.loop _)) _ _ _;refine wp_block ?_;have HY:Aside _:=hy;have HS:Aside _:=S;have HT:Aside _:=H;have HNB:Aside _:=hnb;have HV:Aside _:=hval;have HK:Aside _:=hkno;have H89:Aside _:=h89;have HX63:Aside _:=k63;have HD2:Aside _:=d2;have HMB:Aside (_/\_):=⟨hM,z⟩;have HO:Aside _:=hO;clear k16 k160 hy H hnb hval hkno h89 k63 d2 dS dX hM z hO nq c5 c6 c8 c10 c16 k50 k51 k60 k61 k62 hrow hL hMo ptr tv d89 hr0 hr1 hnil
 refine wp_loop_ghost_k (λm a W=>∃(k:Nat)(us:List Value)(cs:List An)(tm:Array Value)(Ds:List Nat)(ds:List Deferred),a={ tmps:=tm,defers:=ds }/\Aside (gT v2 (.pointer (some ⟨b5,0,none⟩)) (.pointer (some ⟨b6,0,none⟩)) (.pointer (some ⟨b8,0,none⟩)) (.pointer (some ⟨b10,0,none⟩)) (.pointer (some ⟨b16,0,none⟩)) (.slice a89 p.length c89) p.length k tm/\k<=p.length/\m=p.length-k/\GQ O P p2 p3 (p.drop k) cs=some y2/\cs.length=s.length/\TM (OS β X (ru O P p2 f p3 p s)) w W g cap cv us cs/\lm w.heap.size Ds ds W))
  p.length ⟨0,us0,s,tm,[],[],rfl,HF0,ug _,rfl,HY.out,rfl,HT.out,rfl,List.nodup_nil,λ_ h=>by cases h⟩ ?_
 rintro m a W ⟨k,us,cs,tm,Ds,ds,rfl,hI⟩ J K hJ hK;have HI:Aside _:=hI;have HJ:Aside _:=hJ;have HKK:Aside _:=hK;clear hI hJ hK HF0 I s2 s5 s6 s8 s10 s16 s89 s90 s91;have I:=HI.out.1.size;have s2:=HI.out.1.s2;have s5:=HI.out.1.s5;have s6:=HI.out.1.s6;have s8:=HI.out.1.s8;have s10:=HI.out.1.s10;have s16:=HI.out.1.s16;have s89:=HI.out.1.s89;have s90:=HI.out.1.s90;have s91:=HI.out.1.s91;obtain⟨l0,rfl⟩:∃l:List Value,tm=l.toArray:=⟨tm.toList,by simp⟩;have G:l0.length=149:=by simpa using I
 iterate 18 (replace G:=U9 G;obtain⟨_,_,_,_,_,_,_,_,l0,rfl,G⟩:=G)
 iterate 5 (replace G:=E7 G;obtain⟨_,l0,rfl,G⟩:=G)
 obtain rfl:=List.length_eq_zero_iff.1 G;clear I G;simp only[ww,w5,vm,Option.some.injEq]at s2 s5 s6 s8 s10 s16 s89 s90 s91;subst s2;subst s5;subst s6;subst s8;subst s10;subst s16;subst s89;subst s90;subst s91;by_cases hk:k<p.length
 ·have hkz:(k:Int)<(p.length:Int):=by omega
  obtain⟨U,_,_,E,L,H,F⟩:=HI.out;rw[Zr hk]at E;simp only[GQ]at E;obtain⟨v,d,E⟩:=Option.bind_eq_some_iff.1 E;obtain⟨own,hown,E⟩:=Option.bind_eq_some_iff.1 E;obtain⟨l,hl,E⟩:=Option.bind_eq_some_iff.1 E;obtain⟨key,hkey,E⟩:=Option.bind_eq_some_iff.1 E;obtain⟨cs1,hcs,hyR⟩:=Option.bind_eq_some_iff.1 E;obtain⟨e89,m89,lt89,g89⟩:=H89.out k hk;have C:=H.keep;have kc:∀(b o:Nat)(v:Value),b≠g->w.cell? ⟨b,o,none⟩=some v->W.cell? ⟨b,o,none⟩=some v:=λb o v T h=>(El C (World.block_lt_of_cell? _ _ h) T).trans h;have n89:b89≠g:=λe=>m89 (by rw[e];exact H.ng);have f89c:=kc _ _ _ n89 g89;have d50:=kc _ _ _ n5 q50;have d51:=kc _ _ _ n5 q51;have d60:=kc _ _ _ n6 q60;have d61:=kc _ _ _ n6 q61;have d62:=kc _ _ _ n6 q62;have d63:=kc _ _ _ n6 q63;have d80:=kc _ _ _ n8 q80;subst e89;generalize hrw:p.getD k 0=row at *;have hgW:g<W.heap.size:=H.glt
  have a2:∀(b o:Nat)(v:Value),W.cell? ⟨b,o,none⟩=some v->∀o1 o2,((W.alloc o1).alloc o2).cell? ⟨b,o,none⟩=some v:=λb o v h o1 o2=>by
   have:=World.block_lt_of_cell? _ _ h;rw[World.cell?_alloc_lt _ _ _ (by simp only at this ⊢;simp;omega),World.cell?_alloc_lt _ _ _ this];exact h
  have a3:∀(b o:Nat)(v:Value),W.cell? ⟨b,o,none⟩=some v->∀o1 o2 o3,(((W.alloc o1).alloc o2).alloc o3).cell? ⟨b,o,none⟩=some v:=λb o v h o1 o2 o3=>by
   have:=World.block_lt_of_cell? _ _ h;rw[World.cell?_alloc_lt _ _ _ (by simp only at this ⊢;simp;omega)];exact a2 b o v h o1 o2
  have f80:=a2 _ _ _ d80;have f83:=a3 _ _ _ d80;have f50:=a2 _ _ _ d50;have f51:=a2 _ _ _ d51;have f60:=a2 _ _ _ d60;have f61:=a2 _ _ _ d61;have f62:=a2 _ _ _ d62;have f63:=a2 _ _ _ d63
  have hin:∀(a b:List Int)(r:Bool),Cl a b=some r->∀(va vb:Value) wr,A8 w.heap.size (λb=>b=g) w wr->Ay (OS β X (ru O P p2 f p3 p s)) wr va (Ao 1 D.z a)->Ay (OS β X (ru O P p2 f p3 p s)) wr vb (Ao 1 D.z b)->Calls prog 226 #[va,vb] wr λe w'=>e=.returned (.bool r)/\RowKit.Below wr.heap.size wr w':=λa b r h va vb wr hkk ha z=>(Tw (TN a b r h) HS.out (M:=λb=>b=g) (λb z=>z▸HO.out) hkk #[va,vb] rfl (λi v x d hx=>by
   match i,d,hx with
   | 0,d,hx=>simp at d hx;subst d;subst hx;exact ha
   | 1,d,hx=>simp at d hx;subst d;subst hx;exact z
   | i+2,d,hx=>simp at d)).mono λe w' ⟨v,he,hbl,hr⟩=>by
     obtain rfl:v=.bool r:=EH hr;exact⟨he,hbl⟩
  have hkn:∀(c lv:Int)(v:Int×Bool),Bt O P row c lv=some v->∀wr,A8 w.heap.size (λb=>b=g) w wr->Calls prog 151 #[.agg #[x50,x51],.agg #[x60,x61,x62,x63],.int .i64 row,.int .i64 c,.int .i64 lv] wr λe w'=>e=.returned (.tuple #[.int .i64 v.1,.bool v.2])/\RowKit.Below wr.heap.size wr w':=λc lv v h wr hkk=>(HK.out row c lv v h wr hkk).mono λe w' ⟨v',he,hbl,hr⟩=>by
   obtain⟨vs,rfl,I,hat,_⟩:=hr;have I:vs.size=2:=I;have G:vs[0]=.int .i64 v.1:=AJ (hat 0 vs[0] _ (by simp) rfl);have h1:vs[1]=.bool v.2:=EH (hat 1 vs[1] _ (by simp) rfl);refine⟨?_,hbl⟩;rw[he]
   have:vs=#[.int .i64 v.1,.bool v.2]:=by
    apply Array.ext
    ·simpa using I
    ·intro i h1' h2'
     match i,h1' with
     | 0,_=>exact G
     | 1,_=>exact h1
     | i+2,h=>omega
   rw[this]
  have rest:=λ(Q:Exit->Act->World->Prop)(Br Bv:Nat)(tm:Array Value)(W2:World)=>nP (Q:=Q) (g:=g) (cap:=cap) (cv:=cv) (v89:=.slice (some ⟨b89,o89,none⟩) p.length c89) (Ds:=Ds) (ds:=ds) (p2:=p2) (us:=us) (Br:=Br) (Bv:=Bv) (n:=p.length) (k:=k) (value:=v) (tm:=tm) (W:=W2) (b10:=b10) (gc:=cap) hown hl hkey hcs hn2 (by omega) hkn hin (λb z=>HS.out.os_lt z) HD2.out HX63.out q50 q51 q60 q61 q62 q63 q80 (by rw[L];exact q16) n5 n6 n8 n16;have REST:Aside _:=rest;have HCL:Aside (cs1.length=cs.length):=(Uf cs cs1 hcs).2.1;have HA1:Aside (_/\_/\_/\_/\_/\_/\_):=⟨U,L,H,F,hyR,C,hgW⟩;have HV1:Aside _:=d;clear rest hkn hin U L H F hown hl hkey hcs E hyR C kc a2 a3 d hgW
  go_upto_if 96 with fail
  refine tp nJ (by assumption) λK1 HK1=>?_;by_cases hp3:0<=p3
  ·obtain⟨vs,hvs,hv0⟩:∃vs,Ck O P [row] p3=some vs/\idx vs 0=some v:=by
    have hva:=HV1.out;unfold I7 at hva;rw[show decide (0<=p3)=true from un hp3]at hva;obtain⟨vs,hvs,hva⟩:=Option.bind_eq_some_iff.1 hva;exact⟨vs,hvs,hva⟩
   obtain⟨U,L,H,F,E,C,hgW⟩:=HA1.out;have hsW:=C.size
   have hc3:=HV.out row 0 vs hvs (((W.alloc (.cells #[.int .i64 row] 3)).alloc (.cells #[.int .i64 0] 3)).alloc (.cells #[.int .i64 row] 3)) (((H.keepS (Ik _ _)).keepS (Ik _ _)).keepS (Ik _ _)).keep (.slice (some ⟨W.heap.size+1+1,0,none⟩) 1 1)
    (Rs (l:=[row]) (.inl ⟨rfl,.inr ⟨W.heap.size+1+1,1,#[.int .i64 row],rfl,ug _,bK _ _ _ (by simp),uh _,by decide,rfl,rfl⟩⟩) (λb z hO=>by
     have:=HS.out.os_lt hO;simp[Ae]at z;omega))
   have haf:∀(O':Nat->Prop) w2 rv,RowKit.Below (((W.alloc (.cells #[.int .i64 row] 3)).alloc (.cells #[.int .i64 0] 3)).alloc (.cells #[.int .i64 row] 3)).heap.size (((W.alloc (.cells #[.int .i64 row] 3)).alloc (.cells #[.int .i64 0] 3)).alloc (.cells #[.int .i64 row] 3)) w2->Ay O' w2 rv (Ao 1 D.z vs)->∃b o c,rv=.slice (some ⟨b,o,none⟩) vs.length c/\0<vs.length/\w2.cell? ⟨b,o,none⟩=some (.int .i64 v)/\w2.cell? ⟨W.heap.size+1,0,none⟩=some (.int .i64 0)/\w2.frozen? ⟨W.heap.size+1,0,none⟩=false:=λO' w2 rv hb2 hr2=>by
    obtain⟨a,c,b,o,e,h⟩:=Ht hr2
    have hl:0<vs.length:=by
     cases vs with
     | nil=>cases hv0
     | cons=>simp
    obtain⟨ea,_,_,hc⟩:=h 0 hl;subst ea
    have hv1:vs.getD 0 0=v:=by
     cases vs with
     | nil=>cases hv0
     | cons x y=>exact uc hv0
    rw[hv1]at hc
    have e1:w2.heap[W.heap.size+1]?=some (.cells #[.int .i64 0] 3 (0,0)):=by
     rw[hb2.block _ (by simp),blk_alloc_lt _ _ _ (by simp)];exact bK _ _ _ (by simp)
    exact⟨b,o,c,e,hl,hc,by simp[World.cell?,e1],by simp[World.frozen?,e1]⟩
   have HC3:Aside _:=hc3;have HAF:Aside _:=haf;clear hc3 haf U L H F E C hgW hsW hvs hv0
   go_wp2_with (go_at_call 146;go_loud (refine Calls.mono HC3.out ?_;rintro e w2 ⟨rv,rfl,hb2,hr2⟩;obtain⟨rb,ro,rc,rfl,hl0,c104,cBv,fBv⟩:=HAF.out _ w2 rv hb2 hr2))
   subst HK1;obtain⟨U,L,H,F,hyZ,C,hgW⟩:=HA1.out;have hsW:=C.size;have hT3:=(((H.keepS (Ik W _)).keepS (Ik _ _)).keepS (Ik _ _)).keepS hb2;have hst:∀b,b≠W.heap.size+1->(w2.setCell ⟨W.heap.size+1,0,none⟩ (.int .i64 v)).heap[b]?=w2.heap[b]?:=λb z=>blk_setCell_other _ _ _ _ z;refine REST.out _ W.heap.size (W.heap.size+1) _ _ (hT3.mono (hT3.keep.trans ⟨rfl,rfl,rfl,by simp,λk hk _=>hst k (by omega)⟩) (hst g (by omega)) λi u b hi z hlt=>hst b (by have:=H.ublt hi z;omega)) ⟨F.eq,F.nodup,?hm⟩ ?fr ?e1 ?e2 ?c1 ?c2 hsW (by omega) ?ab ?dn
   case fr=>exact⟨rfl,rfl,rfl,rfl,rfl,rfl,rfl,rfl,rfl,rfl⟩
   case e1=>rfl
   case e2=>rfl
   case hm =>
    intro D h;have hD:=F.at_ D h;have hl:=Dz hD.2;exact⟨hD.1,(hst D (by omega)).trans ((hb2.block D (by simp;omega)).trans ((blk_alloc_lt _ _ _ (by simp;omega)).trans ((blk_alloc_lt _ _ _ (by simp;omega)).trans ((blk_alloc_lt _ _ _ hl).trans hD.2))))⟩
   case c1 =>
    rw[World.cell?_setCell_far _ _ _ _ (by simp),GV hb2 (by simp<;>omega),World.cell?_alloc_lt _ _ _ (by simp;omega)];simp
   case c2=>exact World.cell?_setCell_same _ _ _ cBv
   case ab =>
    intro i u b hi hbb;have:=H.ublt hi hbb;exact⟨by omega,by omega⟩
   case dn =>
    intro tm' W' us' D hF' hT' hM';refine tL (by assumption) ?_;have I:=hF'.size;obtain⟨_,f2,f5,f6,f8,f10,f16,f89,f90,f91⟩:=hF';obtain⟨l0,rfl⟩:∃l:List Value,tm'=l.toArray:=⟨tm'.toList,by simp⟩;have G:l0.length=149:=by simpa using I
    iterate 18 (replace G:=U9 G;obtain⟨_,_,_,_,_,_,_,_,l0,rfl,G⟩:=G)
    iterate 5 (replace G:=E7 G;obtain⟨_,l0,rfl,G⟩:=G)
    obtain rfl:=List.length_eq_zero_iff.1 G;clear I G;simp only[ww,w5,vm,Option.some.injEq]at f2 f5 f6 f8 f10 f16 f89 f90 f91;subst f2;subst f5;subst f6;subst f8;subst f10;subst f16;subst f89;subst f90;subst f91;have HT2:Aside _:=hT';have HM2:Aside _:=hM';clear hT' hM'
    go_wp2_with fail
    refine HKK.out _ _ (Handed.intro (p.length-(k+1)) (by omega) (HJ.out _ _ _ ⟨k+1,us',cs1,_,D :: Ds,_,rfl,⟨?_,rfl,rfl,rfl,rfl,rfl,rfl,rfl,rfl,?_⟩,by omega,by rfl,hyZ,HCL.out.trans L,HT2.out,HM2.out⟩))
    ·rfl
    ·first|rfl|(simp;done)
  ·go_wp2_with fail
   subst HK1;obtain⟨U,L,H,F,hyZ,C,hgW⟩:=HA1.out;have hva:=HV1.out;unfold I7 at hva;rw[show decide (0<=p3)=false from uB (by omega)]at hva;obtain rfl:=uc hva;have hsW:=C.size;refine REST.out _ W.heap.size (W.heap.size+1) _ _ ((H.keepS (Ik W _)).keepS (Ik _ _)) ⟨F.eq,F.nodup,?hm⟩ ?fr ?e1 ?e2 ?c1 ?c2 hsW (by omega) ?ab ?dn
   case fr=>exact⟨rfl,rfl,rfl,rfl,rfl,rfl,rfl,rfl,rfl,rfl⟩
   case e1=>rfl
   case e2=>rfl
   case hm =>
    intro D h;have hD:=F.at_ D h;exact⟨hD.1,(blk_alloc_lt _ _ _ (by simp;exact Nat.lt_succ_of_lt (Dz hD.2))).trans ((blk_alloc_lt _ _ _ (Dz hD.2)).trans hD.2)⟩
   case c1=>simp
   case c2=>exact World.cell?_alloc_at _ _ _ _ (by simp)
   case ab =>
    intro i u b hi hbb;have:=H.ublt hi hbb;exact⟨by omega,by omega⟩
   case dn =>
    intro tm' W' us' D hF' hT' hM';refine tL (by assumption) ?_;have I:=hF'.size;obtain⟨_,f2,f5,f6,f8,f10,f16,f89,f90,f91⟩:=hF';obtain⟨l0,rfl⟩:∃l:List Value,tm'=l.toArray:=⟨tm'.toList,by simp⟩;have G:l0.length=149:=by simpa using I
    iterate 18 (replace G:=U9 G;obtain⟨_,_,_,_,_,_,_,_,l0,rfl,G⟩:=G)
    iterate 5 (replace G:=E7 G;obtain⟨_,l0,rfl,G⟩:=G)
    obtain rfl:=List.length_eq_zero_iff.1 G;clear I G;simp only[ww,w5,vm,Option.some.injEq]at f2 f5 f6 f8 f10 f16 f89 f90 f91;subst f2;subst f5;subst f6;subst f8;subst f10;subst f16;subst f89;subst f90;subst f91;have HT2:Aside _:=hT';have HM2:Aside _:=hM';clear hT' hM'
    go_wp2_with fail
    refine HKK.out _ _ (Handed.intro (p.length-(k+1)) (by omega) (HJ.out _ _ _ ⟨k+1,us',cs1,_,D :: Ds,_,rfl,⟨?_,rfl,rfl,rfl,rfl,rfl,rfl,rfl,rfl,?_⟩,by omega,by rfl,hyZ,HCL.out.trans L,HT2.out,HM2.out⟩))
    ·rfl
    ·first|rfl|(simp;done)
 ·have hkz:¬((k:Int)<(p.length:Int)):=by omega
  go_wp2_with fail
  obtain⟨U,hkl,_,E,L,H,F⟩:=HI.out;have C:=H.keep;have kc:∀(b o:Nat)(v:Value),b≠g->w.cell? ⟨b,o,none⟩=some v->W.cell? ⟨b,o,none⟩=some v:=λb o v T h=>(El C (World.block_lt_of_cell? _ _ h) T).trans h;have d160:=kc _ _ _ n16 q160;have d161:=kc _ _ _ n16 q161;have d162:=kc _ _ _ n16 q16;have d100:=kc _ _ _ n10 q100;have d101:=kc _ _ _ n10 q101;have d102:=kc _ _ _ n10 q102;have Z:W.heap[b10]?=some (.cells cv10 T10 (0,0)):=(C.block b10 (Dz hcv10) n10).trans hcv10;have f100:W.frozen? ⟨b10,0,none⟩=false:=by simp[World.frozen?,Z]
  have f101:W.frozen? ⟨b10,1,none⟩=false:=by simp[World.frozen?,Z]
  have f102:W.frozen? ⟨b10,2,none⟩=false:=by simp[World.frozen?,Z]
  have HB:Aside (_/\_/\_/\_/\_/\_/\_/\_):=⟨U,hkl,E,L,H,F,C,Z⟩;clear U hkl E L H F C kc Z;show Code.wp _ (Code.seq _ _) _ _ _
  go_wp2_with fail
  obtain⟨U,hkl,E,L,H,F,C,Z⟩:=HB.out;have hkn:k=p.length:=by omega
  rw[hkn,List.drop_length]at E;obtain rfl:cs=y2:=uc E;rw[F.eq];have hO:=HO.out;have hg0:=HS.out.mine 78 g rfl (by rw[<-K16.out];simp[Ae,hcp]);have hb0:=HS.out.mine 10 b10 rfl (by rw[e10];rfl);have hO10:OS β X (ru O P p2 f p3 p s) b10:=Vq HS.out 10 rfl b10 (by rw[e10];rfl);have hbl:w.heap.size<=W.heap.size:=C.size;have hl10:b10<w.heap.size:=Dz hcv10;have hoth:∀b,b≠b10->(((W.setCell ⟨b10,0,none⟩ (.slice A f.length B)).setCell ⟨b10,1,none⟩ (.int .i64 p3)).setCell ⟨b10,2,none⟩ (.slice (some ⟨g,0,none⟩) s.length cap)).heap[b]?=W.heap[b]?:=λb z=>(blk_setCell_other _ _ _ _ z).trans ((blk_setCell_other _ _ _ _ z).trans (blk_setCell_other _ _ _ _ z));have c0:=(World.cell?_setCell_other ((W.setCell ⟨b10,0,none⟩ (.slice A f.length B)).setCell ⟨b10,1,none⟩ (.int .i64 p3)) ⟨b10,2,none⟩ ⟨b10,0,none⟩ (.slice (some ⟨g,0,none⟩) s.length cap) (by simp)).trans ((World.cell?_setCell_other (W.setCell ⟨b10,0,none⟩ (.slice A f.length B)) ⟨b10,1,none⟩ ⟨b10,0,none⟩ (.int .i64 p3) (by simp)).trans (World.cell?_setCell_same W _ (.slice A f.length B) d100));have c1:=(World.cell?_setCell_other ((W.setCell ⟨b10,0,none⟩ (.slice A f.length B)).setCell ⟨b10,1,none⟩ (.int .i64 p3)) ⟨b10,2,none⟩ ⟨b10,1,none⟩ (.slice (some ⟨g,0,none⟩) s.length cap) (by simp)).trans (World.cell?_setCell_same _ _ (.int .i64 p3) ((World.cell?_setCell_other W ⟨b10,0,none⟩ ⟨b10,1,none⟩ (.slice A f.length B) (by simp)).trans d101));have c2:=World.cell?_setCell_same ((W.setCell ⟨b10,0,none⟩ (.slice A f.length B)).setCell ⟨b10,1,none⟩ (.int .i64 p3)) ⟨b10,2,none⟩ (.slice (some ⟨g,0,none⟩) s.length cap) ((World.cell?_setCell_other (W.setCell ⟨b10,0,none⟩ (.slice A f.length B)) ⟨b10,1,none⟩ ⟨b10,2,none⟩ (.int .i64 p3) (by simp)).trans ((World.cell?_setCell_other W ⟨b10,0,none⟩ ⟨b10,2,none⟩ (.slice A f.length B) (by simp)).trans d102));have hs3:(((W.setCell ⟨b10,0,none⟩ (.slice A f.length B)).setCell ⟨b10,1,none⟩ (.int .i64 p3)).setCell ⟨b10,2,none⟩ (.slice (some ⟨g,0,none⟩) s.length cap)).heap.size=W.heap.size:=by simp
  have ho3:A8 w.heap.size (λb=>b=g\/b=b10) w (((W.setCell ⟨b10,0,none⟩ (.slice A f.length B)).setCell ⟨b10,1,none⟩ (.int .i64 p3)).setCell ⟨b10,2,none⟩ (.slice (some ⟨g,0,none⟩) s.length cap)):=⟨C.os,C.tape,C.output,by rw[hs3];exact hbl,λj hj T=>(hoth j λe=>T (.inr e)).trans (C.block j hj λe=>T (.inl e))⟩;generalize (((W.setCell ⟨b10,0,none⟩ (.slice A f.length B)).setCell ⟨b10,1,none⟩ (.int .i64 p3)).setCell ⟨b10,2,none⟩ (.slice (some ⟨g,0,none⟩) s.length cap))=W3 at *;have hgl:g<w.heap.size:=H.lt
  have hu10:∀(i:Nat) u b,us[i]?=some u->Ae u=some b->w.heap.size<=b:=λi u b hi z=>by
   have hil:i<cs.length:=by rw[<-H.len];exact A6 hi
   exact(H.row i cs[i] u (P3 hil) hi).2 b z
  show LeavesInM _ _ _ _ _ _ _ .returning W3;refine U7 (N:=w.heap.size) (λw'=>A8 w.heap.size (λb=>b=g\/b=b10) w w'/\w'.heap[g]?=W.heap[g]?/\w'.heap[b10]?=W3.heap[b10]?/\(∀(i:Nat) u b,us[i]?=some u->Ae u=some b->w'.heap[b]?=W.heap[b]?)/\W.heap.size<=w'.heap.size) (λw' hI=>?_) (λw' D hD hI hd=>?_) Ds W3 F.nodup (λD hD=>?_) ⟨ho3,hoth g (λe=>by subst e;exact n10 rfl),rfl,λi u b hi z=>hoth b (by have:=hu10 i u b hi z;omega),by omega⟩
  ·obtain⟨i1,i2,i3,i4,i5⟩:=hI;have k0:=(World.cell?_of_block (w:=W3) (a:=⟨b10,0,none⟩) i3).trans c0;have k1:=(World.cell?_of_block (w:=W3) (a:=⟨b10,1,none⟩) i3).trans c1;have k2:=(World.cell?_of_block (w:=W3) (a:=⟨b10,2,none⟩) i3).trans c2;obtain⟨hM,hbX⟩:=HMB.out;have hba:=HS.out.hbase;have hg1:X.base<=g:=hg0.1.resolve_right (hM g);have hb1:X.base<=b10:=hb0.1.resolve_right (hM b10);show ∃v,(results _ _).run _ w'=.ok v w'/\_;refine⟨.tuple #[.agg #[.slice A f.length B,.int .i64 p3,.slice (some ⟨g,0,none⟩) s.length cap],.int .i64 0],?res,_,rfl,?bel,?rep⟩
   case res =>
    first|(simp[results,f88,asAddr,k0,k1,k2];done)|(unfold results;go_simp;done)
   case bel=>exact⟨i1.os.trans HS.out.below.os,i1.tape.trans HS.out.below.tape,i1.output.trans HS.out.below.output,uK HS.out.below.size i1.size,λj hj=>(i1.block j (by omega) (by omega)).trans (HS.out.below.block j (by omega) (hM j))⟩
   case rep =>
    have hz:∀b v (x:AV),¬Eb v (.tup [.d (H6 { V:=f,Y:=p3,A1:=cs }),.i 0]) b:=by
     rintro b v x ⟨vs,i,u,sz,e,ys,_,_,h,_⟩
     match i,h with
     | 0,h=>cases h
     | 1,h=>cases h
     | i+2,h=>simp at h
    generalize hOO:(λb=>X.O b\/Eb (.tuple #[.agg #[.slice A f.length B,.int .i64 p3,.slice (some ⟨g,0,none⟩) s.length cap],.int .i64 0]) (.tup [.d (H6 { V:=f,Y:=p3,A1:=cs }),.i 0]) b)=OO
    have hOX:∀b,OO b->X.O b:=λb z=>by
     rw[<-hOO]at z;exact z.resolve_right (hz b _ (.i 0))
    have hKp:BA (OS β X (ru O P p2 f p3 p s)) OO w w':=⟨i1.size,λb _ z=>.inl (hOX b z),λb hlt z=>i1.block b hlt λe=>z (by rcases e with rfl|rfl;exact hO;exact hO10)⟩
    have hnO:∀b,X.base<=b->¬OO b:=λb z h=>by have:=(HS.out.o₀ b (hOX b h)).1;omega
    refine⟨_,rfl,rfl,λi u x hu hx=>?_,λi j u u' sz e ys sz' e' ys' b h1 h2 h3=>?_⟩
    ·match i,hu,hx with
     | 0,hu,hx =>
       simp at hu hx;subst hu;subst hx;show Ay _ w' _ _;rw[hOO];refine .agg _ _ rfl (by simp[D.one]) λi v x d hx=>?_
       match i,d,hx with
       | 0,d,hx=>simp at d hx;subst d;subst hx;exact K160.out.mono hKp
       | 1,d,hx=>simp at d hx;subst d;subst hx;exact .int _ _
       | 2,d,hx =>
         simp at d hx;subst d;subst hx;rw[<-L];refine gJ (by omega) (hnO g hg1) (by have:=H.le;omega) (by omega) H.clen H.len (λj c v u a1 a2 a3=>(H.cells j c v u a1 a2 a3).of_block i2) (λj c v a1 a2=>(H.codes j c v a1 a2).mono hKp) λj c u a1 a2=>?_;obtain⟨r1,r2⟩:=H.row j c u a1 a2;exact Rs (r1.mono λb _ hbb=>i4 j u b a2 hbb) λb hbb=>hnO b (uK hba (r2 b hbb))
       | i+3,d,hx=>simp at d
     | 1,hu,hx =>
       simp at hu hx;subst hu;subst hx;exact .int _ _
     | i+2,hu,hx=>simp at hu
    ·match i,h3 with
     | 0,h=>cases h
     | 1,h=>cases h
     | i+2,h=>simp at h
  ·obtain⟨i1,i2,i3,i4,i5⟩:=hI;have ot:∀b,b≠D->(w'.putObj D (.deferred none)).heap[b]?=w'.heap[b]?:=λb z=>World.putObj_heap_other z;refine⟨⟨i1.os,i1.tape,i1.output,by simpa using i1.size,λj hj T=>(ot j (by omega)).trans (i1.block j hj T)⟩,(ot g (by omega)).trans i2,(ot b10 (by omega)).trans i3,λi u b hi z=>(ot b λe=>?_).trans (i4 i u b hi z),by simpa using i5⟩;subst e;obtain⟨_,_,_,hc⟩:=H.ucells hi z;rw[i4 i u b hi z,hc]at hd
   cases hd
  ·obtain⟨h1,h2⟩:=F.at_ D hD;exact⟨h1,(hoth D (by omega)).trans h2⟩
