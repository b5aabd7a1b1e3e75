/- FE -/
import Derived.RangeFuncLeaves
import Derived.ControlIn
import Derived.Test.YthchnhoalhbkcaaGreatDoorFD
import Derived.RangeFuncNested
import Derived.Shelf.Abstract
import Derived.OwnWalkIn
import Derived.TacticsInMore
import Derived.LoopNIn
import Derived.LoopIn
import Derived.OrdersIn
import Derived.RangeFuncFrom
import Derived.RangeFuncCalls
import Derived.BigRegion
import Derived.RangeFuncBox
import Derived.Deep.Cut
open Go.Proofs.Tryz
set_option linter.unusedVariables false
set_option linter.unusedSimpArgs false
namespace Go.Abs
open Go Go.RowKit
def N2(P:Program)(fn:Func)(r:AV)(X:Cx):Exit->Act->World->Prop :=
 bodyPostM Fence.wide 5 P fn λe w'=>∃v,e=.returned v/\Below X.w₀.heap.size X.w₀ w'/\CK (λb=>X.w₀.heap.size<=b) X.O w' v r
structure YS(P:Program)(fn:Func)(r:AV)(S:AS)(b c:Code):Prop where
 go:∃S₁,Le S S₁/\∀(X:Cx)(β:Nat->Value)(a:Act)(w:World),(∀b,¬X.M b)->X.w₀.heap.size=X.base->SimB X (λ_=>False) β S₁ a w->b.wp P (Exit.then (c.wp P (N2 P fn r X)) (N2 P fn r X)) a w
theorem pw{P:Program}{fn:Func}{r:AV}{S:AS}{b c:Code}(S₁:AS)(h:Le S S₁)
 (hx:∀(X:Cx)(β:Nat->Value)(a:Act)(w:World),(∀b,¬X.M b)->X.w₀.heap.size=X.base->SimB X (λ_=>False) β S₁ a w->b.wp P (Exit.then (c.wp P (N2 P fn r X)) (N2 P fn r X)) a w):YS P fn r S b c:=⟨⟨S₁,h,hx⟩⟩
noncomputable def fX(P:Program)(J:List Nat)(fn:Func)(r:AV)(n:Nat):Code->(Exit->AS->Prop)->AS->Prop :=
 Nat.rec (motive:=λ_=>Code->(Exit->AS->Prop)->AS->Prop)
  (λx Q S=>match x with
   | .seq (.seq a b) c=>YO P J a (λe S=>match e with|.normal=>YS P fn r S b c|e=>Q e S) S
   | _=>False)
  (λ_ ih x Q S=>match x with
   | .seq x y=>match Z3 J y with
     | false=>YO P J x (λe S=>match e with|.normal=>ih y Q S|e=>Q e S) S
     | true=>Qe S (YO P J x) (ih y) Q
   | _=>False) n
def eF(P:Program)(n:Nat)(J:List Nat)(fn:Func)(args:List AV)(r:AV):Prop :=
 match fn.body with
 | some c=>Es (enter 0 args (Fi fn.ntmps)) (fX P J fn r n c (λe S=>match e with
   | .ret=>dM P fn.results.toList [] [] S r
   | _=>False))
 | none=>False
variable {P:Program} {X:Cx} {fn:Func} {r:AV}
theorem Rc{J:List Nat}(hdraw:Mw P)(hM:∀b,¬X.M b)(hb:X.w₀.heap.size=X.base){Q:Exit->AS->Prop}(hQ:∀e a w,nB X Q e a w->e≠.normal->N2 P fn r X e a w):∀(n:Nat)(c:Code){S:AS}{β:Nat->Value}{a:Act}{w:World},
 fX P J fn r n c Q S->SimB X (λ_=>False) β S a w->c.wp P (N2 P fn r X) a w
 | 0,c,S,β,a,w,hy,h=>by
   cases c with
   | seq x c =>
     cases x with
     | seq x b =>
       have hy:YO P J x (λe S=>match e with|.normal=>YS P fn r S b c|e=>Q e S) S:=hy;refine wp_seq (wp_seq (wp_mono (Ed hdraw x hy h) λe a' w' hq=>?_));obtain⟨β',S',hq,hs⟩:=hq
       cases e with
       | normal =>
         obtain⟨S₁,hle,hx⟩:=hq.go;refine wp_mono (hx X β' a' w' hM hb (hs.le hle)) λe a' w' h=>?_
         cases e<;>exact h
       | exit id=>exact hQ _ _ _ ⟨β',S',hq,hs⟩ (by simp)
       | goto l=>exact hQ _ _ _ ⟨β',S',hq,hs⟩ (by simp)
       | ret=>exact hQ _ _ _ ⟨β',S',hq,hs⟩ (by simp)
       | panic ch=>exact hQ _ _ _ ⟨β',S',hq,hs⟩ (by simp)
       | outgrown=>exact hQ _ _ _ ⟨β',S',hq,hs⟩ (by simp)
     | _=>exact(show False from hy).elim
   | _=>exact(show False from hy).elim
 | n+1,c,S,β,a,w,hy,h=>by
   cases c with
   | seq x y =>
     have hy:match Z3 J y with
      | false=>YO P J x (λe S=>match e with|.normal=>fX P J fn r n y Q S|e=>Q e S) S
      | true=>Qe S (YO P J x) (fX P J fn r n y) Q:=hy
     split at hy
     ·refine wp_seq (wp_mono (Ed hdraw x hy h) λe a' w' hq=>?_);obtain⟨β',S',hq,hs⟩:=hq
      cases e with
      | normal=>exact Rc hdraw hM hb hQ n y hq hs
      | exit id=>exact hQ _ _ _ ⟨β',S',hq,hs⟩ (by simp)
      | goto l=>exact hQ _ _ _ ⟨β',S',hq,hs⟩ (by simp)
      | ret=>exact hQ _ _ _ ⟨β',S',hq,hs⟩ (by simp)
      | panic ch=>exact hQ _ _ _ ⟨β',S',hq,hs⟩ (by simp)
      | outgrown=>exact hQ _ _ _ ⟨β',S',hq,hs⟩ (by simp)
     ·obtain⟨ι,Inv,hx,hall⟩:=hy.go;simp only[EL]at hall;refine wp_seq (wp_mono (Ed hdraw x hx h) λe a' w' hq=>?_);obtain⟨β',S',hq,hs⟩:=hq
      cases e with
      | normal =>
        obtain⟨i,hle⟩:=hq;exact Rc hdraw hM hb hQ n y (hall i) (hs.le hle)
      | exit id=>exact hQ _ _ _ ⟨β',S',hq,hs⟩ (by simp)
      | goto l=>exact hQ _ _ _ ⟨β',S',hq,hs⟩ (by simp)
      | ret=>exact hQ _ _ _ ⟨β',S',hq,hs⟩ (by simp)
      | panic ch=>exact hQ _ _ _ ⟨β',S',hq,hs⟩ (by simp)
      | outgrown=>exact hQ _ _ _ ⟨β',S',hq,hs⟩ (by simp)
   | _=>exact(show False from hy).elim
theorem iT(n:Nat)(J:List Nat){f:FuncId}{fn:Func}{args:List AV}{r:AV}(hf:P.funcs[f]?=some fn)(hname:(fn.name == "runtime.NumGoroutine")=false)(hr:eF P n J fn args r):Ax P f args r:=by
 unfold eF at hr;split at hr
 ·rename_i c hc
  refine⟨by simp[EG,hf,hname,hc],λO w vs hO hG0 hlen hargs=>?_⟩;rw[EL]at hr
  have hnm:∀x∈args,x.mut=false:=by
   intro x hx;obtain⟨i,hi⟩:=List.mem_iff_getElem?.1 hx;have hlt:i<vs.size:=by rw[hlen];exact A5 hi
   have:=hargs i vs[i] x (by simp[hlt]) hi
   cases x<;>first|rfl|exact this.elim
  have hG:Oq (λb=>O b\/Hl vs args b) w:=λg cs hg=>(hG0 g cs hg).mono (B0.of_sub λb hb=>hb.resolve_right (H9 hnm b))
  have hsim:=U3 (n:=fn.ntmps) (M:=λ_=>False) hO hG hlen (λb hm=>absurd hm (H9 hnm b)) (λi j v v' x y b _ _ hx _ hm=>by rw[hnm x (qn hx)]at hm;cases hm)
   (λi v x hv hx=>by
    have h1:=(hargs i v x hv hx).mono (O':=λb=>O b\/Hl vs args b) (B0.of_sub λb hb=>hb.resolve_right (H9 hnm b));have h2:=hnm x (qn hx)
    cases x<;>first|exact h1|cases h2)
  refine callsIn_wide.1 (callsIn_of_wp_marks (F:=Fence.wide) (n:=5) hf hc trivial (wpIn_wide.2 (Rc (KO P) (H9 hnm) rfl (λe a' w' hq hne=>?_) n c hr hsim)));obtain⟨β',S',hq,hs⟩:=hq
  cases e with
  | normal=>exact(hne rfl).elim
  | ret =>
    obtain⟨v,T,h1,h2,_,_,_,h3,_⟩:=SU hs (frz:=[]) trivial (λ_ h=>by cases h) hq;show LeavesInM _ _ _ _ _ _ a'.defers .returning w';rw[hs.df];exact⟨v,h1,v,rfl,hs.below.below (H9 hnm),h3.mono (λb hb=>hb.1.resolve_right (H9 hnm b)) (λb hb=>.inl hb)⟩
  | exit id=>exact hq.elim
  | goto l=>exact hq.elim
  | panic ch=>exact hq.elim
  | outgrown=>exact hq.elim
 ·exact hr.elim
end Go.Abs
namespace Go.Proofs.YthchnhoalhbkcaaGreatDoor.P
open Go Go.Abs Go.Proofs Go.Deep
set_option maxRecDepth 100000
structure Fx(wr:World)(g k:Nat)(v u:Value)(c:Aq):Prop where
 c0:wr.cell? ⟨g,k*7,none⟩=some v
 c1:wr.cell? ⟨g,k*7+1,none⟩=some (.int .i64 c.Y)
 c2:wr.cell? ⟨g,k*7+2,none⟩=some (.int .i64 c.A4)
 c3:wr.cell? ⟨g,k*7+3,none⟩=some (.int .i64 c.A5)
 c4:wr.cell? ⟨g,k*7+4,none⟩=some (.int .i64 c.A6)
 c5:wr.cell? ⟨g,k*7+5,none⟩=some (.int .i64 c.A8)
 c6:wr.cell? ⟨g,k*7+6,none⟩=some u
structure TM(O:Nat->Prop)(w0 wr:World)(g cap:Nat)(cv us:List Value)(l:List Aq):Prop where
 keep:A7 w0.heap.size (λb=>b=g) w0 wr
 lt:g<w0.heap.size
 ng:O g
 len:us.length=l.length
 clen:cv.length=l.length
 obj:∃cur,wr.heap[g]?=some (.cells cur 141 (0,0))/\cur.size=cap*7
 le:l.length<=cap/\cap<=maxLen
 cells:∀(j:Nat) c v u,l[j]?=some c->cv[j]?=some v->us[j]?=some u->Fx wr g j v u c
 codes:∀(j:Nat) c v,l[j]?=some c->cv[j]?=some v->Aw O w0 v (An 1 (D.int .i64) c.Q)
 row:∀(j:Nat) c u,l[j]?=some c->us[j]?=some u->Bj wr 3 1 u c.G.length (c.G.map (Value.int .i64))/\∀b,Ac u=some b->w0.heap.size<=b
 apart:∀(i j:Nat) u v b,us[i]?=some u->us[j]?=some v->Ac u=some b->Ac v=some b->i=j
section
variable {O:Nat->Prop} {w0 wr w':World} {g cap:Nat} {cv us:List Value} {l:List Aq}
theorem Fx.of_block{k:Nat}{v u:Value}{c:Aq}(h:Fx wr g k v u c)(hg:w'.heap[g]?=wr.heap[g]?):Fx w' g k v u c:=by
 have e:∀o,w'.cell? ⟨g,o,none⟩=wr.cell? ⟨g,o,none⟩:=λo=>World.cell?_of_block (w:=wr) hg;exact⟨by rw[e];exact h.c0,by rw[e];exact h.c1,by rw[e];exact h.c2,by rw[e];exact h.c3,by rw[e];exact h.c4,by rw[e];exact h.c5,by rw[e];exact h.c6⟩
theorem TM.glt(h:TM O w0 wr g cap cv us l):g<wr.heap.size:=qm h.lt h.keep.size
theorem TM.mono(h:TM O w0 wr g cap cv us l)(hk:A7 w0.heap.size (λb=>b=g) w0 w')(hg:w'.heap[g]?=wr.heap[g]?)(hu:∀(i:Nat) u b,us[i]?=some u->Ac u=some b->b<wr.heap.size->w'.heap[b]?=wr.heap[b]?):TM O w0 w' g cap cv us l :=
 ⟨hk,h.lt,h.ng,h.len,h.clen,by rw[hg];exact h.obj,h.le,λj c v u h1 h2 h3=>(h.cells j c v u h1 h2 h3).of_block hg,h.codes,λj c u h1 h2=>⟨(h.row j c u h1 h2).1.mono λb hb hbl=>hu j u b h2 hbl hb,(h.row j c u h1 h2).2⟩,h.apart⟩
theorem TM.keepS(h:TM O w0 wr g cap cv us l)(hs:RowKit.Below wr.heap.size wr w'):TM O w0 w' g cap cv us l:=by
 have hz:=h.keep.size;exact h.mono (h.keep.trans ⟨hs.os,hs.tape,hs.output,hs.size,λk hk _=>hs.block k (by omega)⟩) (hs.block g h.glt) λ_ _ b _ _ hb=>hs.block b hb
structure Tl(g k cap:Nat)(W W':World):Prop where
 os:W'.os=W.os
 tape:W'.tape=W.tape
 output:W'.output=W.output
 size:W'.heap.size=W.heap.size
 blk:∀b,b≠g->W'.heap[b]?=W.heap[b]?
 obj:(∃cur,W.heap[g]?=some (.cells cur 141 (0,0))/\cur.size=cap*7)->∃cur,W'.heap[g]?=some (.cells cur 141 (0,0))/\cur.size=cap*7
 oth:∀o,(∀i,i<7->o≠k*7+i)->W'.cell? ⟨g,o,none⟩=W.cell? ⟨g,o,none⟩
theorem Tl.refl(g k cap:Nat)(W:World):Tl g k cap W W:=⟨rfl,rfl,rfl,rfl,λ_ _=>rfl,id,λ_ _=>rfl⟩
theorem Tl.set{k:Nat}{W:World}(h:Tl g k cap W w')(i:Nat)(hi:i<7)(v:Value):Tl g k cap W (w'.setCell ⟨g,k*7+i,none⟩ v) :=
 ⟨(by show w'.os=_;exact h.os),(by show w'.tape=_;exact h.tape),(by show w'.output=_;exact h.output),by simpa using h.size,λb hb=>(blk_setCell_other _ _ _ _ (by show b≠g;exact hb)).trans (h.blk b hb),
  λho=>by
   obtain⟨cur,h1,h2⟩:=h.obj ho;exact⟨cur.setIfInBounds (k*7+i) v,heap_setCell_same _ _ _ _ _ _ h1,by simpa using h2⟩,
  λo ho=>(World.cell?_setCell_other _ _ _ _ (λe=>ho i hi (by have:=congrArg Addr.off e;exact this.symm))).trans (h.oth o ho)⟩
theorem TM.step(h:TM O w0 wr g cap cv us l){k:Nat}{c c':Aq}{u u':Value}(hc:l[k]?=some c)(hu:us[k]?=some u)(hb:A7 wr.heap.size (λb=>b=g\/Ac u=some b) wr w')(hobj:∃cur,w'.heap[g]?=some (.cells cur 141 (0,0))/\cur.size=cap*7)
 (hcode:c'.Q=c.Q) (h7:∀v,cv[k]?=some v->Fx w' g k v u' c') (hoth:∀o,(∀i,i<7->o≠k*7+i)->w'.cell? ⟨g,o,none⟩=wr.cell? ⟨g,o,none⟩)
 (hr:Bj w' 3 1 u' c'.G.length (c'.G.map (Value.int .i64))) (hn:∀b,Ac u'=some b->Ac u=some b\/wr.heap.size<=b):TM O w0 w' g cap cv (us.set k u') (l.set k c'):=by
 have hz:=h.keep.size;have hl:=h.lt;have hku:k<us.length:=A5 hu;have hkl:k<l.length:=A5 hc;obtain⟨hru,hub⟩:=h.row k c u hc hu
 have hug:∀(j:Nat) v b,us[j]?=some v->Ac v=some b->w0.heap.size<=b/\b<wr.heap.size:=λj v b hj hb=>by
  have hjl:j<l.length:=by rw[<-h.len];exact A5 hj
  obtain⟨h1,h2⟩:=h.row j l[j] v (P2 hjl) hj;exact⟨h2 b hb,h1.lt hb⟩
 refine⟨h.keep.trans (hb.weaken hz λb hbl hm hh=>?_),h.lt,h.ng,by simp[h.len],by simp[h.clen],hobj,by simpa using h.le,λj d v y h1 h2 h3=>?_,λj d v h1 h2=>?_,λj d y h1 h2=>?_,λi j y z b h1 h2 h3 h4=>?_⟩
 ·rcases hh with hh|hh
  ·exact hm hh
  ·have:=hub b hh;omega
 ·rw[qO]at h1 h3;by_cases e:k=j
  ·subst e;rw[qf rfl,qf hkl]at h1;rw[qf rfl,qf hku]at h3;obtain rfl:=P3 h1;obtain rfl:=P3 h3;exact h7 v h2
  ·rw[qi e]at h1 h3;have q:=h.cells j d v y h1 h2 h3;have z:∀i,i<7->w'.cell? ⟨g,j*7+i,none⟩=wr.cell? ⟨g,j*7+i,none⟩:=λi hi=>hoth _ λi' hi'=>by omega
   exact⟨by rw[show j*7=j*7+0 from rfl,z 0 (by omega)];exact q.c0,by rw[z 1 (by omega)];exact q.c1,by rw[z 2 (by omega)];exact q.c2,by rw[z 3 (by omega)];exact q.c3,by rw[z 4 (by omega)];exact q.c4,by rw[z 5 (by omega)];exact q.c5,by rw[z 6 (by omega)];exact q.c6⟩
 ·rw[qO]at h1;by_cases e:k=j
  ·subst e;rw[qf rfl,qf hkl]at h1;obtain rfl:=P3 h1;rw[hcode];exact h.codes k c v hc h2
  ·rw[qi e]at h1;exact h.codes j d v h1 h2
 ·rw[qO]at h1 h2;by_cases e:k=j
  ·subst e;rw[qf rfl,qf hkl]at h1;rw[qf rfl,qf hku]at h2;obtain rfl:=P3 h1;obtain rfl:=P3 h2;exact⟨hr,λb hb=>(hn b hb).elim (λq=>hub b q) λq=>by omega⟩
  ·rw[qi e]at h1 h2;obtain⟨q1,q2⟩:=h.row j d y h1 h2;refine⟨q1.mono λb hbl hby=>hb.block b hbl λhh=>?_,q2⟩;rcases hh with hh|hh
   ·subst hh;have:=q2 b hby;omega
   ·exact e (h.apart k j u y b hu h2 hh hby)
 ·rw[qO]at h1 h2;by_cases ei:k=i
  ·subst ei;rw[qf rfl,qf hku]at h1;obtain rfl:=P3 h1;by_cases ej:k=j
   ·exact ej
   ·rw[qi ej]at h2;rcases hn b h3 with q|q
    ·exact h.apart k j u z b hu h2 q h4
    ·have:=(hug j z b h2 h4).2;omega
  ·rw[qi ei]at h1;by_cases ej:k=j
   ·subst ej;rw[qf rfl,qf hku]at h2;obtain rfl:=P3 h2;rcases hn b h4 with q|q
    ·exact h.apart i k y u b h1 hu h3 q
    ·have:=(hug i y b h1 h3).2;omega
   ·rw[qi ej]at h2;exact h.apart i j y z b h1 h2 h3 h4
end
set_option maxRecDepth 1000000
set_option maxHeartbeats 6400000
theorem KI{w:World}{g cap:Nat}{T:TypeId}(h:∃cur,w.heap[g]?=some (.cells cur T (0,0))/\cur.size=cap*7)(o:Nat):w.frozen? ⟨g,o,none⟩=false:=by
 obtain⟨cur,h,_⟩:=h;simp[World.frozen?,h]
theorem an{P:Program}{f:FuncId}{args:Array Value}{w:World}{Q:Ending->World->Prop}(h:∀R:Ending->World->Prop,Aside (∀e w',Q e w'->R e w')->Calls P f args w R):Calls P f args w Q:=h Q λ_ _ h=>h
theorem po(n:Int):IntKind.i64.wrap n=RowKit.wrap64 n:=by simp only[IntKind.wrap_i64,RowKit.wrap64]
theorem T7{w:World}{g o:Nat}{v x:Value}(h:w.cell? ⟨g,o,none⟩=some v):(w.setCell ⟨g,o,none⟩ x).cell? ⟨g,o,none⟩=some x:=World.cell?_setCell_same _ _ _ h
theorem CX{w:World}{g o o':Nat}{v x:Value}(h:w.cell? ⟨g,o',none⟩=some v)(hne:o≠o'):(w.setCell ⟨g,o,none⟩ x).cell? ⟨g,o',none⟩=some v:=(World.cell?_setCell_other _ _ _ _ (λe=>hne (congrArg Addr.off e))).trans h
section
variable {w:World} {g k:Nat} {v u:Value} {c:Aq}
theorem Fx.set6(h:Fx w g k v u c)(x:Value):Fx (w.setCell ⟨g,k*7+6,none⟩ x) g k v x c :=
 ⟨CX h.c0 (by omega),CX h.c1 (by omega),CX h.c2 (by omega),CX h.c3 (by omega),CX h.c4 (by omega),CX h.c5 (by omega),T7 h.c6⟩
theorem Fx.set2(h:Fx w g k v u c)(x:Int):Fx (w.setCell ⟨g,k*7+2,none⟩ (.int .i64 x)) g k v u { c with A4:=x } :=
 ⟨CX h.c0 (by omega),CX h.c1 (by omega),T7 h.c2,CX h.c3 (by omega),CX h.c4 (by omega),CX h.c5 (by omega),CX h.c6 (by omega)⟩
theorem Fx.set3(h:Fx w g k v u c)(x:Int):Fx (w.setCell ⟨g,k*7+3,none⟩ (.int .i64 x)) g k v u { c with A5:=x } :=
 ⟨CX h.c0 (by omega),CX h.c1 (by omega),CX h.c2 (by omega),T7 h.c3,CX h.c4 (by omega),CX h.c5 (by omega),CX h.c6 (by omega)⟩
theorem Fx.set4(h:Fx w g k v u c)(x:Int):Fx (w.setCell ⟨g,k*7+4,none⟩ (.int .i64 x)) g k v u { c with A6:=x } :=
 ⟨CX h.c0 (by omega),CX h.c1 (by omega),CX h.c2 (by omega),CX h.c3 (by omega),T7 h.c4,CX h.c5 (by omega),CX h.c6 (by omega)⟩
theorem Fx.set5(h:Fx w g k v u c)(x:Int):Fx (w.setCell ⟨g,k*7+5,none⟩ (.int .i64 x)) g k v u { c with A8:=x } :=
 ⟨CX h.c0 (by omega),CX h.c1 (by omega),CX h.c2 (by omega),CX h.c3 (by omega),CX h.c4 (by omega),T7 h.c5,CX h.c6 (by omega)⟩
theorem Fx.same(h:Fx w g k v u c){c':Aq}(h1:c.Y=c'.Y)(h2:c.A4=c'.A4)(h3:c.A5=c'.A5)(h4:c.A6=c'.A6)(h5:c.A8=c'.A8):Fx w g k v u c' :=
 ⟨h.c0,h1▸h.c1,h2▸h.c2,h3▸h.c3,h4▸h.c4,h5▸h.c5,h.c6⟩
end
theorem iW(W:World)(g k cap:Nat)(v u:Value)(c:Aq)(key value:Int)(m:Bool)(h7:Fx W g k v u c)(hobj:∃cur,W.heap[g]?=some (.cells cur 141 (0,0))/\cur.size=cap*7)
 (hr:Bj W 3 1 u c.G.length (c.G.map (Value.int .i64))) (hug:Ac u≠some g) (hn:c.G.length<=2000000) :
 Calls prog 116 #[.pointer (some ⟨g,k*7,none⟩),.int .i64 key,.int .i64 value,.bool m] W λe W'=>(∃x,e=.returned x)/\∃u' w',Tl g k cap w' W' /\
  Fx W' g k v u' (B9 c key value m)/\Bj w' 3 1 u' (c.G.length+1) ((c.G++[key]).map (Value.int .i64))/\A7 W.heap.size (λb=>b=g\/Ac u=some b) W w'/\(∀o,o≠k*7+1->w'.cell? ⟨g,o,none⟩=W.cell? ⟨g,o,none⟩) /\
  (∃cur,w'.heap[g]?=some (.cells cur 141 (0,0))/\cur.size=cap*7)/\∀b,Ac u'=some b->Ac u=some b\/W.heap.size<=b:=by
 obtain⟨c0,c1,c2,c3,c4,c5,c6⟩:=h7;have hgl:g<W.heap.size:=World.block_lt_of_cell? _ _ c0;obtain⟨W1,hW1⟩:∃W1,W1=W.setCell ⟨g,k*7+1,none⟩ (.int .i64 (RowKit.wrap64 (c.Y+1))):=⟨_,rfl⟩;have hS1:Tl g k cap W W1:=by rw[hW1];exact(Tl.refl g k cap W).set 1 (by omega) _
 have hr1:=hr.mono (w':=W1.alloc (.cells #[.int .i64 key] 3)) (λb hb hbl=>by rw[blk_alloc_lt _ _ _ (by rw[hS1.size];exact hb)];exact hS1.blk b λe=>hug (by rw[<-e];exact hbl));obtain⟨u',w',hrun,hr',hb',hn'⟩:=eJ (vb:=W.heap.size) (vc:=1) (x:=key) hr1 hn (World.cell?_alloc_at _ _ _ _ hS1.size.symm);have hgw:w'.heap[g]?=W1.heap[g]?:=by rw[hb'.block g (by simp;rw[hS1.size];omega) hug];exact blk_alloc_lt _ _ _ (by rw[hS1.size];exact hgl)
 have e1:∀o,w'.cell? ⟨g,o,none⟩=W1.cell? ⟨g,o,none⟩:=λo=>World.cell?_of_block (w:=W1) hgw
 have e2:∀o,o≠k*7+1->w'.cell? ⟨g,o,none⟩=W.cell? ⟨g,o,none⟩:=λo ho=>by
  rw[e1,hW1];exact World.cell?_setCell_other _ _ _ _ (λe=>ho (congrArg Addr.off e).symm)
 have hobj':∃cur,w'.heap[g]?=some (.cells cur 141 (0,0))/\cur.size=cap*7:=by rw[hgw];exact hS1.obj hobj
 have hbW:A7 W.heap.size (λb=>b=g\/Ac u=some b) W w':=⟨hb'.os.trans hS1.os,hb'.tape.trans hS1.tape,hb'.output.trans hS1.output,by have:=hb'.size;simp at this;rw[hS1.size]at this;omega,λb hb hm=>by
  rw[hb'.block b (by simp;rw[hS1.size];omega) (λh=>hm (.inr h)),blk_alloc_lt _ _ _ (by rw[hS1.size];exact hb)];exact hS1.blk b λe=>hm (.inl e)⟩
 have hnn:∀b,Ac u'=some b->Ac u=some b\/W.heap.size<=b:=λb hb=>(hn' b hb).imp_right λh=>by rw[h,World.size_alloc,hS1.size];omega
 have d0:=e2 (k*7) (by omega);have d1:w'.cell? ⟨g,k*7+1,none⟩=some (.int .i64 (RowKit.wrap64 (c.Y+1))):=by rw[e1,hW1];exact World.cell?_setCell_same _ _ _ c1
 have d2:=(e2 (k*7+2) (by omega)).trans c2;have d3:=(e2 (k*7+3) (by omega)).trans c3;have d4:=(e2 (k*7+4) (by omega)).trans c4;have d5:=(e2 (k*7+5) (by omega)).trans c5;have d6:=(e2 (k*7+6) (by omega)).trans c6;have d0:=d0.trans c0;have f0:=KI hobj (k*7+1);have z6:W1.cell? ⟨g,k*7+6,none⟩=some u:=by rw[<-e1];exact d6
 have zf6:=KI hobj' (k*7+6);have zf2:=KI hobj' (k*7+2);have zf3:=KI hobj' (k*7+3);have zf4:=KI hobj' (k*7+4);have zf5:=KI hobj' (k*7+5);have z6':∀o,(W1.alloc o).cell? ⟨g,k*7+6,none⟩=some u:=λo=>by rw[World.cell?_alloc_lt _ _ _ (by rw[hS1.size];exact hgl)];exact z6
 obtain⟨ga',gc',eu',_,_⟩:=QR hr';rw[eu']at hrun;subst hW1;have HH:Aside (_/\_/\_/\_/\_/\_/\_/\_/\_):=⟨hS1,hr',hb',hbW,e2,hobj',hnn,hgw,eu'⟩;clear eu' hr hr1 hr' hb' hn' hbW e1 e2 hobj hobj' hnn hgw hS1 hug c2 c3 c4 c5 c0 hn;refine an λR HR=>?_;have h0:Fx w' g k v u { c with Y:=RowKit.wrap64 (c.Y+1) }:=⟨d0,d1,d2,d3,d4,d5,d6⟩;have H0:Aside _:=h0;clear h0
 have HP:∀{e:Ending}{w'':World},(∃x,e=.returned x)->Tl g k cap w' w''->Fx w'' g k v u' (B9 c key value m)->R e w'':=λ{e w''} he hs h7=>by
  obtain⟨_,hr',_,hbW,e2,hobj',hnn,_,_⟩:=HH.out;exact HR.out e w'' ⟨he,u',w',hs,h7,hr',hbW,e2,hobj',hnn⟩
 have HP:Aside _:=@HP;have EU:Aside (u'=_):=HH.out.2.2.2.2.2.2.2.2;clear HH HR
 cases m
 ·go_enter func116,ntmps116
  go_wp2_with (at_builtin;refine Lib.wpList_append_run _ rfl _ _ _ _ rfl _ _ rfl rfl _ _ hrun ?_)
  go_end0
  have h0:=H0.out.set6 u';rw[EU.out]at h0;refine HP.out (e:=.returned (.tuple #[])) ⟨_,rfl⟩ ((Tl.refl g k cap w').set 6 (by omega) _) ?_;rw[EU.out];exact h0.same (by simp only[B9,q9,po]) rfl rfl rfl rfl
 ·go_enter func116,ntmps116
  go_wp2_with (at_builtin;refine Lib.wpList_append_run _ rfl _ _ _ _ rfl _ _ rfl rfl _ _ hrun ?_)
  all_goals go_end0
  ·rename_i hlt
   have h0:=((((H0.out.set6 u').set2 (RowKit.wrap64 (c.A4+value))).set3 (RowKit.wrap64 (c.A5+max value (RowKit.wrap64 (-value))))).set4 (max value (RowKit.wrap64 (-value)))).set5 c.A6;refine HP.out (e:=.returned (.tuple #[])) ⟨_,rfl⟩ ((((((Tl.refl g k cap w').set 6 (by omega) _).set 2 (by omega) _).set 3 (by omega) _).set 4 (by omega) _).set 5 (by omega) _) ?_;rw[EU.out]at h0 ⊢;have e:decide (c.A6<max value (RowKit.wrap64 (-value)))=true:=qh hlt;refine h0.same ?_ ?_ ?_ ?_ ?_<;>simp only[B9,qK,e,po]
  ·rename_i hn1 hlt
   have h0:=(((H0.out.set6 u').set2 (RowKit.wrap64 (c.A4+value))).set3 (RowKit.wrap64 (c.A5+max value (RowKit.wrap64 (-value))))).set5 (max value (RowKit.wrap64 (-value)));refine HP.out (e:=.returned (.tuple #[])) ⟨_,rfl⟩ (((((Tl.refl g k cap w').set 6 (by omega) _).set 2 (by omega) _).set 3 (by omega) _).set 5 (by omega) _) ?_;rw[EU.out]at h0 ⊢;have e:decide (c.A6<max value (RowKit.wrap64 (-value)))=false:=qC (Int.not_lt.2 hn1);have e':decide (c.A8<max value (RowKit.wrap64 (-value)))=true:=qh hlt;refine h0.same ?_ ?_ ?_ ?_ ?_<;>simp only[B9,qK,q9,e,e',po]
  ·rename_i hn1 hn2
   have h0:=((H0.out.set6 u').set2 (RowKit.wrap64 (c.A4+value))).set3 (RowKit.wrap64 (c.A5+max value (RowKit.wrap64 (-value))));refine HP.out (e:=.returned (.tuple #[])) ⟨_,rfl⟩ ((((Tl.refl g k cap w').set 6 (by omega) _).set 2 (by omega) _).set 3 (by omega) _) ?_;rw[EU.out]at h0 ⊢;have e:decide (c.A6<max value (RowKit.wrap64 (-value)))=false:=qC (Int.not_lt.2 hn1);have e':decide (c.A8<max value (RowKit.wrap64 (-value)))=false:=qC (Int.not_lt.2 hn2);refine h0.same ?_ ?_ ?_ ?_ ?_<;>simp only[B9,qK,q9,e,e',po]
end Go.Proofs.YthchnhoalhbkcaaGreatDoor.P
namespace Go.Abs
open Go
variable {F:Fence} {n:Nat} {P:Program} {md:Region.Mode} {ops:Array Oper} {Q:Exit->Act->World->Prop}
theorem Y4(l:Array Bool)(i j:Nat)(d:Bool)(hi:i<l.size):(l.setIfInBounds i true).getD j d=if i=j then true else l.getD j d:=by
 simp only[qI,qR];by_cases e:i=j
 ·subst e;simp[hi]
 ·simp[e]
theorem oY(c:Nat)(dst:Nat->Nat)(val:Nat->Value)(Base:Act->Prop){W:World}
 (hback:∀(i:Nat)(o:Oper),ops[i]?=some o->∀e∈o.after,e.on<i)
 (hbind:∀(i:Nat)(o:Oper),ops[i]?=some o->∀e∈o.after,Region.binds md e=true)
 (hall:∀listed:Array Bool,(∀(i:Nat)(o:Oper),i<c->ops[i]?=some o->listed.getD i false=true->∀e∈o.after,listed.getD e.on false=true)->(∀(o:Oper),ops[c]?=some o->∀e∈o.after,listed.getD e.on false=true)->∀i,i<c->listed.getD i false=true)
 (hlate:∀(i:Nat)(o:Oper),c<i->ops[i]?=some o->∃e∈o.after,c<=e.on)
 (hdst:∀(i:Nat)(o:Oper),ops[i]?=some o->i<c->o.dst=some (dst i))
 (hput:∀(a:Act)(i:Nat)(x:Value),i<c->Base a->Base (a.put (some (dst i)) x)/\dst i<a.tmps.size)
 (hinj:∀i j,i<c->j<c->dst i=dst j->i=j)
 (hop:∀(i:Nat)(o:Oper)(a:Act),ops[i]?=some o->i<c->Base a->(∀e∈o.after,a.tmps[dst e.on]?=some (val e.on))->∀K:Act->World->Prop,K (a.put o.dst (val i)) W ->
  if Region.wanted o (yielded ops a.tmps)=true then o.wpIn F n P a W K Q else(∀f,o.about P W a.eval=some f->F.fn f)/\K (a.put o.dst undef) W)
 (hcall:∀(o:Oper)(a:Act),ops[c]?=some o->Base a->(∀i,i<c->a.tmps[dst i]?=some (val i))->∀K:Act->World->Prop,(∀(a:Act)(w:World),(∀listed:Array Bool,listed.size=ops.size->(∀i,i<ops.size->listed[i]?=some (decide (i<=c)))->wpAnyIn F n P md ops Q (ops.size-c-1) listed a w)->K a w) ->
  if Region.wanted o (yielded ops a.tmps)=true then o.wpIn F n P a W K Q else(∀f,o.about P W a.eval=some f->F.fn f)/\K (a.put o.dst undef) W)
 (hc:c<ops.size):∀(fuel:Nat)(listed:Array Bool)(a:Act),listed.size=ops.size->Base a->(∀i,i<c->listed.getD i false=true->a.tmps[dst i]?=some (val i)) ->
  (∀(i:Nat)(o:Oper),i<c->ops[i]?=some o->listed.getD i false=true->∀e∈o.after,listed.getD e.on false=true)->(∀i,c<=i->i<ops.size->listed[i]?=some false)->fuel+listed.toList.count true=ops.size->wpAnyIn F n P md ops Q fuel listed a W:=by
 have hat:∀(l:Array Bool)(i:Nat)(d:Bool),i<l.size->l.getD i d=l.getD i (!d):=λl i d h=>by
  simp only[qI,qN h,rt]
 have hx:∀(l:List Bool)(k:Nat),l[k]?=some false->(l.set k true).count true=l.count true+1:=by
  intro l
  induction l with
  | nil=>intro k h;cases h
  | cons b r ih =>
    intro k h
    cases k with
    | zero =>
      have:b=false:=by simpa using h
      subst this;simp
    | succ k =>
      have:=ih k (by simpa using h);rw[List.set_cons_succ,sI,sI,this];omega
 have h3:∀(l:List Bool)(k:Nat),l[k]?=some false->l.count true<l.length:=by
  intro l k h;rcases qw (l.count true) l.length with q|q
  ·exact q
  ·have:=List.count_eq_length.1 (Nat.le_antisymm List.count_le_length q) false (qn h)
   cases this
 have hcn:∀(l:List Bool)(c:Nat),c<=l.length->(∀i,i<l.length->l[i]?=some (decide (i<c)))->l.count true=c:=by
  intro l
  induction l with
  | nil=>intro c h _;simp at h;subst h;rfl
  | cons b r ih =>
    intro c hc h
    cases c with
    | zero =>
      have h0:b=false:=by have:=h 0 (by simp);simpa using this
      have:=ih 0 (pY _) λi hi=>by have:=h (i+1) (by simp;omega);simpa using this
      rw[sI,this,h0];rfl
    | succ c =>
      have h0:b=true:=by have:=h 0 (by simp);simpa using this
      have:=ih c (by simpa using hc) λi hi=>by have:=h (i+1) (by simp;omega);simpa using this
      rw[sI,this,h0];simp
 intro fuel
 induction fuel with
 | zero =>
   intro listed a hsz _ _ _ hf hcnt
   exfalso
   have h1:=hf c (qb _) hc;have:=h3 listed.toList c (by rw[qJ];exact h1);rw[q8,hsz]at this;omega
 | succ fuel ih =>
   intro listed a hsz hb hk hd hf hcnt
   have hnl:∀i,c<=i->i<ops.size->listed.getD i false=false:=λi h1 h2=>by
    simp only[qI,hf i h1 h2,rt]
   refine⟨λhnil=>?_,λi hi=>?_⟩
   ·exfalso
    have hex:∃i,i<ops.size/\listed.getD i true=false:=⟨c,hc,by simp only[qI,hf c (qb _) hc,rt]⟩
    obtain⟨i,⟨hi,hu⟩,hmin⟩:∃i,(i<ops.size/\listed.getD i true=false)/\∀j,j<i->¬(j<ops.size/\listed.getD j true=false):=by
     obtain⟨i,h⟩:=hex
     induction i using Nat.strongRecOn with
     | _ i ih =>
       by_cases hx:∃j,j<i/\(j<ops.size/\listed.getD j true=false)
       ·obtain⟨j,hj,h'⟩:=hx;exact ih j hj h'
       ·exact⟨i,h,λj hj hh=>hx ⟨j,hj,hh⟩⟩
    have:i∈Region.ready md ops listed:=mem_ready.2 ⟨hu,ops[i],by simp[hi],λe he _=>by
     have h1:=hback i ops[i] (by simp[hi]) e he;have h2:=hmin e.on h1;have hlt:e.on<listed.size:=by rw[hsz];omega
     have:listed.getD e.on true≠false:=λh=>h2 ⟨by omega,h⟩;rw[hat _ _ _ hlt]
     simpa using this⟩
    rw[hnil]at this
    cases this
   ·obtain⟨hu,o,ho,hdeps⟩:=mem_ready.1 hi;have hdeps:∀e∈o.after,listed.getD e.on false=true:=λe he=>hdeps e he (hbind i o ho e he);have hlt:i<ops.size:=(Array.getElem?_eq_some_iff.1 ho).1;have hll:i<listed.size:=by rw[hsz];exact hlt
    rcases sa i c with hic|hic|hic
    ·have hcnt':(listed.setIfInBounds i true).toList.count true=listed.toList.count true+1:=by
      rw[rq];refine hx _ _ ?_;simp only[qI,qN hll,rt]at hu;rw[qJ,qN hll,hu]
     have hdd:=hdst i o ho hic;obtain⟨hb',hs'⟩:=hput a i (val i) hic hb;refine wpOpIn_step ho λK' hK'=>hop i o a ho hic hb (λe he=>hk e.on (Nat.lt_trans (hback i o ho e he) hic) (hdeps e he)) K' (hK' _ _ (ih _ _ (by simp[hsz]) (by rw[hdd];exact hb') (λj hj hl=>?_) (λj oj hj hoj hl e he=>?_) (λj hj1 hj2=>?_) (by rw[hcnt'];omega)))
     ·rw[Y4 _ _ _ _ hll]at hl;rw[hdd];show(a.tmps.setIfInBounds (dst i) (val i))[dst j]?=_;by_cases e:i=j
      ·subst e;rw[qR];simp[hs']
      ·rw[qi e]at hl;have hne:dst i≠dst j:=λh=>e (hinj i j hic hj h);rw[qp hne];exact hk j hj hl
     ·rw[Y4 _ _ _ _ hll]at hl ⊢;by_cases e1:i=e.on
      ·rw[qf e1]
      ·rw[qi e1];by_cases e2:i=j
       ·subst e2;rw[ho]at hoj;obtain rfl:=P3 hoj;exact hdeps e he
       ·rw[qi e2]at hl;exact hd j oj hj hoj hl e he
     ·rw[qp (by omega)];exact hf j hj1 hj2
    ·subst hic
     have hkn:∀j,j<i->listed.getD j false=true:=hall listed hd (λo' ho' e he=>by
      rw[ho]at ho';obtain rfl:=P3 ho';exact hdeps e he)
     have hfu:fuel=ops.size-i-1:=by
      have hcc:listed.toList.count true=i:=hcn listed.toList i (by simp;omega) λj hj=>by
       rw[qJ];have hj:j<listed.size:=by simpa using hj
       by_cases e:j<i
       ·have:=hkn j e;simp only[qI,qN hj,rt]at this;rw[qN hj,this];simp[e]
       ·rw[hf j (by omega) (by omega)];simp[e]
      omega
     refine wpOpIn_step ho λK' hK'=>hcall o a ho hb (λj hj=>hk j hj (hkn j hj)) K' λa w hq=>hK' a w ?_;rw[hfu];refine hq _ (by simp[hsz]) λj hj=>?_;have hj':j<listed.size:=by omega
     by_cases e:i=j
     ·subst e;rw[qR];simp[hll]
     ·rw[qp e];by_cases e2:j<i
      ·have:=hkn j e2;simp only[qI,qN hj',rt]at this;rw[qN hj',this];simp;omega
      ·rw[hf j (by omega) hj];simp;omega
    ·exfalso
     obtain⟨e,he,hle⟩:=hlate i o hic ho;have h1:=hdeps e he;have h2:=hback i o ho e he;rw[hnl e.on hle (by omega)]at h1
     cases h1
def oW(md:Region.Mode)(ops:Array Oper)(c d0:Nat):Bool :=
 decide (c<ops.size)&&(List.range ops.size).all λi=>match ops[i]? with
  | none=>false
  | some o=>(o.after.toList.all λe=>decide (e.on<i)&&Region.binds md e)&&(decide (i<=c)||o.after.toList.any λe=>decide (c<=e.on))&&(decide (c<=i)||(o.dst==some (d0+i)&&(List.range ops.size).any λj=>decide (i<j)&&decide (j<=c)&&match ops[j]? with
    | none=>false
    | some q=>q.after.toList.any λe=>e.on==i))
theorem kD(c d0:Nat)(val:Nat->Value)(Base:Act->Prop){W:World}(hok:oW md ops c d0=true)
 (hput:∀(a:Act)(i:Nat)(x:Value),i<c->Base a->Base (a.put (some (d0+i)) x)/\d0+i<a.tmps.size)
 (hop:∀(i:Nat)(o:Oper)(a:Act),ops[i]?=some o->i<c->Base a->(∀e∈o.after,a.tmps[d0+e.on]?=some (val e.on))->∀K:Act->World->Prop,K (a.put o.dst (val i)) W ->
  if Region.wanted o (yielded ops a.tmps)=true then o.wpIn F n P a W K Q else(∀f,o.about P W a.eval=some f->F.fn f)/\K (a.put o.dst undef) W)
 (hcall:∀(o:Oper)(a:Act),ops[c]?=some o->Base a->(∀i,i<c->a.tmps[d0+i]?=some (val i))->∀K:Act->World->Prop,(∀(a:Act)(w:World),(∀listed:Array Bool,listed.size=ops.size->(∀i,i<ops.size->listed[i]?=some (decide (i<=c)))->wpAnyIn F n P md ops Q (ops.size-c-1) listed a w)->K a w) ->
  if Region.wanted o (yielded ops a.tmps)=true then o.wpIn F n P a W K Q else(∀f,o.about P W a.eval=some f->F.fn f)/\K (a.put o.dst undef) W)
 {a:Act} (hb:Base a):wpAnyIn F n P md ops Q ops.size (Array.replicate ops.size false) a W:=by
 unfold oW at hok;obtain⟨hc,hok⟩:=Bool.and_eq_true_iff.1 hok;have hc:=pZ hc
 have key:∀(i:Nat)(o:Oper),ops[i]?=some o->(∀e∈o.after,e.on<i/\Region.binds md e=true)/\(c<i->∃e∈o.after,c<=e.on)/\(i<c->o.dst=some (d0+i)/\∃j q,i<j/\j<=c/\ops[j]?=some q/\∃e∈q.after,e.on=i):=λi o ho=>by
  have hlt:i<ops.size:=(Array.getElem?_eq_some_iff.1 ho).1;have h:=List.all_eq_true.1 hok i (List.mem_range.2 hlt);simp only[ho]at h;obtain⟨h,h3⟩:=Bool.and_eq_true_iff.1 h;obtain⟨h1,h2⟩:=Bool.and_eq_true_iff.1 h;refine⟨λe he=>?_,λhi=>?_,λhi=>?_⟩
  ·have:=List.all_eq_true.1 h1 e (Array.mem_toList_iff.2 he);obtain⟨q1,q2⟩:=Bool.and_eq_true_iff.1 this;exact⟨pZ q1,q2⟩
  ·rcases Bool.or_eq_true_iff.1 h2 with q|q
   ·have:=pZ q;omega
   ·obtain⟨e,he,q⟩:=List.any_eq_true.1 q;exact⟨e,Array.mem_toList_iff.1 he,pZ q⟩
  ·rcases Bool.or_eq_true_iff.1 h3 with q|q
   ·have:=pZ q;omega
   ·obtain⟨q1,q2⟩:=Bool.and_eq_true_iff.1 q;refine⟨sR q1,?_⟩;obtain⟨j,hj,q⟩:=List.any_eq_true.1 q2;obtain⟨q,q3⟩:=Bool.and_eq_true_iff.1 q;obtain⟨q4,q5⟩:=Bool.and_eq_true_iff.1 q
    cases hq:ops[j]? with
    | none=>rw[hq]at q3;cases q3
    | some x =>
      rw[hq]at q3;obtain⟨e,he,q6⟩:=List.any_eq_true.1 q3;exact⟨j,x,pZ q4,pZ q5,hq,e,Array.mem_toList_iff.1 he,sR q6⟩
 refine oY c (λi=>d0+i) val Base (λi o h e he=>((key i o h).1 e he).1) (λi o h e he=>((key i o h).1 e he).2) (λlisted hd hcl=>?_) (λi o hi h=>(key i o h).2.1 hi) (λi o h hi=>((key i o h).2.2 hi).1) hput (λi j _ _ h=>by omega) hop hcall hc _ _ _ (by simp) hb (λi hi hl=>?_) (λi o hi ho hl=>?_) (λi _ hi=>by simp[hi]) ?_
 ·have:∀m i,c-i=m->i<c->listed.getD i false=true:=by
   intro m
   induction m using Nat.strongRecOn with
   | _ m ih =>
     intro i hm hi;obtain⟨_,j,q,hij,hjc,hq,e,he,hei⟩:=(key i ops[i] (by simp)).2.2 hi;subst hei;by_cases hj:j=c
     ·subst hj;exact hcl q hq e he
     ·exact hd j q (by omega) hq (ih (c-j) (by omega) j rfl (by omega)) e he
  exact λi hi=>this _ i rfl hi
 ·have:i<ops.size:=by omega
  simp[this]at hl
 ·have:i<ops.size:=by omega
  simp[this]at hl
 ·simp[Array.toList_replicate,List.count_replicate]
end Go.Abs
namespace Go.Proofs.YthchnhoalhbkcaaGreatDoor.P
open Go Go.Abs Go.Proofs Go.Deep
set_option maxRecDepth 1000000
set_option maxHeartbeats 6400000
theorem gn(W:World)(u vo:Value)(h1:u.oneCell'=true)(h2:vo.oneCell'=true):Calls prog 115 #[u,vo] W λe W' =>
 e=.returned (.func (.func 189) #[] #[.pointer (some ⟨W.heap.size,0,none⟩),.pointer (some ⟨W.heap.size+1,0,none⟩)])/\W'=(W.alloc (.cells #[u] 47)).alloc (.cells #[vo] 30):=by
 refine an λR HR=>?_
 go_enter func115,ntmps115
 go_wp2_with fail
 exact HR.out _ _ ⟨rfl,rfl⟩
def K2(b:Nat->Bool):Nat->List Nat
 | 0=>[]
 | k+1=>K2 b k++(if b k then[k]else[])
structure mR(C:World->Prop)(n0 g N Bc Bo:Nat)(u vo:Value)(cv:Nat->Value)(b:Nat->Bool):Prop where
 box:∀W,C W->W.cell? ⟨Bc,0,none⟩=some u
 own:∀W,C W->W.cell? ⟨Bo,0,none⟩=some vo
 code:∀W k,C W->k<N->W.cell? ⟨g,k*7,none⟩=some (cv k)
 keep:∀W W',C W->RowKit.Below W.heap.size W W'->C W'
 call:∀W k,C W->k<N->Calls prog 190 #[vo,cv k] W λe W'=>e=.returned (.bool (b k))/\RowKit.Below W.heap.size W W'
theorem cK{C:World->Prop}{n0 g N Bc Bo:Nat}{vo:Value}{cv:Nat->Value}{b:Nat->Bool}{ga:Option Addr}{gc:Nat}(hR:mR C n0 g N Bc Bo (.slice ga N gc) vo cv b)(hga:0<N->ga=some ⟨g,0,none⟩)(hN:N<=1000000)
 (n l:Nat) (J Jx:List Nat->World->Prop) (hJ:∀pre W W',J pre W->RowKit.Below W.heap.size W W'->J pre W')
 (hY:∀k W,J (K2 b k) W->C W->k<N->YieldAt Fence.wide n prog l #[.pointer (some ⟨g,k*7,none⟩)] W λe W'=>(e=.returned (.bool true)/\J (K2 b k++[k]) W'/\C W')\/(e=.returned (.bool false)/\Jx (K2 b k++[k]) W'))
 (W:World) (h0:J [] W) (hC0:C W) :
 CallsIn Fence.wide (n+1) prog 189 #[.func (.yield l) #[] #[],.pointer (some ⟨Bc,0,none⟩),.pointer (some ⟨Bo,0,none⟩)] W λe W'=>(∃v,e=.returned v)/\(J (K2 b N) W'\/∃pre,Jx pre W'):=by
 refine callsIn_of_wp func189 rfl trivial ?_ rfl;simp only[ntmps189,r9,qP,rI,Nat.reduceAdd,Nat.reduceSub,Array.replicate_succ,Array.replicate_zero,List.push_toArray,List.append_toArray,List.nil_append,s7];have q1:=hR.box W hC0
 gi_wp2
 have HR:Aside _:=hR;have HY:Aside _:=hY;have HJ:Aside _:=hJ;clear hR hY hJ q1
 gi_loopw [7] (λp wr=>∃k:Nat,p=.int .i64 (k:Int)/\k<=N/\Aside (J (K2 b k) wr/\C wr)) (λp _=>match p with|.int .i64 k=>N-k.toNat|_=>0)
 case atStart=>exact⟨0,rfl,pY _,h0,hC0⟩
 case round =>
  obtain⟨k,rfl,hk,hA⟩:=hrel;by_cases hkn:k<N
  ·have hkz:(k:Int)<(N:Int):=by omega
   have hg:=hga (by omega);subst hg;have q1:=HR.out.box wr hA.out.2;have q2:=HR.out.own wr hA.out.2;have q3:=HR.out.code wr k hA.out.2 hkn
   gi_wp2
   refine wpIn_region_any (by kernel_rfl) ?_;have hW1:RowKit.Below wr.heap.size wr wr.drew:=⟨rfl,rfl,rfl,qb _,λ_ _=>rfl⟩;have hC1:=HR.out.keep _ _ hA.out.2 hW1;have hJ1:=HJ.out _ _ _ hA.out.1 hW1;have r1:=HR.out.box _ hC1;have r2:=HR.out.own _ hC1;have r3:=HR.out.code _ k hC1 hkn
   refine kD (W:=wr.drew) 6 10 (λi=>match i with|0=>vo|1=>.slice (some ⟨g,0,none⟩) N gc|2=>.int .i64 (k:Int)|3=>.pointer (some ⟨g,k*7,none⟩)|4=>.pointer (some ⟨g,k*7,none⟩)|_=>cv k)
    (λa=>∃x10 x11 x12 x13 x14 x15 x16,a={ tmps:=#[.func (.yield l) #[] #[],.pointer (some ⟨Bc,0,none⟩),.pointer (some ⟨Bo,0,none⟩),undef,.int .i64 (k:Int),.slice (some ⟨g,0,none⟩) N gc,.int .i64 (N:Int),.int .i64 (k:Int),.bool true,.int .i64 (k:Int),x10,x11,x12,x13,x14,x15,x16,u17,u18,u19,u20,u21,u22,u23,u24,u25],defers:=[] })
    (by kernel_rfl) (λa i x hi hb=>?put) (λi o a ho hi hb hd K hK=>?op) (λo a ho hb hv K hK=>?call) ⟨_,_,_,_,_,_,_,rfl⟩
   case put =>
    obtain⟨x10,x11,x12,x13,x14,x15,x16,rfl⟩:=hb
    match i,hi with
    | 0,_=>exact⟨⟨_,_,_,_,_,_,_,rfl⟩,by simp⟩
    | 1,_=>exact⟨⟨_,_,_,_,_,_,_,rfl⟩,by simp⟩
    | 2,_=>exact⟨⟨_,_,_,_,_,_,_,rfl⟩,by simp⟩
    | 3,_=>exact⟨⟨_,_,_,_,_,_,_,rfl⟩,by simp⟩
    | 4,_=>exact⟨⟨_,_,_,_,_,_,_,rfl⟩,by simp⟩
    | 5,_=>exact⟨⟨_,_,_,_,_,_,_,rfl⟩,by simp⟩
   case op =>
    obtain⟨x10,x11,x12,x13,x14,x15,x16,rfl⟩:=hb
    match i,hi with
    | 0,_ =>
      obtain rfl:=P3 ho
      go_simp
      exact hK
    | 1,_ =>
      obtain rfl:=P3 ho
      go_simp
      exact hK
    | 2,_ =>
      obtain rfl:=P3 ho
      go_simp
      exact hK
    | 3,_ =>
      obtain rfl:=P3 ho;have h1:=hd ⟨1,.data⟩ (by simp);have h2:=hd ⟨2,.data⟩ (by simp);simp at h1 h2;subst h1;subst h2
      go_simp
      exact hK
    | 4,_ =>
      obtain rfl:=P3 ho;have h1:=hd ⟨3,.data⟩ (by simp);simp at h1;subst h1
      go_simp
      exact hK
    | 5,_ =>
      obtain rfl:=P3 ho;have h1:=hd ⟨4,.data⟩ (by simp);simp at h1;subst h1
      go_simp
      exact hK
   case call =>
    obtain⟨x10,x11,x12,x13,x14,x15,x16,rfl⟩:=hb;have e0:=hv 0 (by omega);have e5:=hv 5 (by omega);simp at e0 e5;subst e0;subst e5;obtain rfl:=P3 ho;have hcall:=HR.out.call _ k hC1 hkn;have HK:Aside _:=hK;clear hK hv
    go_simp
    refine⟨trivial,callsIn_wide.2 (hcall.mono ?_)⟩;rintro e W2 ⟨rfl,hb2⟩;have hC2:=HR.out.keep _ _ hC1 hb2;have hJ2:=HJ.out _ _ _ hJ1 hb2;refine HK.out _ _ λlisted hs hl=>?_
    have hll:listed=#[true,true,true,true,true,true,true,false,false,false,false,false,false,false,false]:=Array.ext_getElem? λi=>by
     by_cases hi:i<15
     ·rw[hl i hi];exact(show ∀j:Fin 15,some (decide (j.1<=6))=(#[true,true,true,true,true,true,true,false,false,false,false,false,false,false,false]:Array Bool)[j.1]? by decide) ⟨i,hi⟩
     ·have hs:listed.size=15:=hs;rw[qT (by omega),qT (by simp;omega)]
    subst hll
    cases hbk:b k
    ·refine wpAnyIn_take (i:=7) (v:=.bool false) rfl rfl (by kernel_rfl) (by kernel_rfl) (by kernel_rfl) (λ_ _ _ h=>h) ⟨Or.inl ⟨by rfl,?_⟩,λ_=>rfl⟩ ?_
     ·intro w;go_simp
     refine wpAnyIn_take (i:=8) (v:=undef) rfl rfl (by kernel_rfl) (by kernel_rfl) (by kernel_rfl) (λ_ _ _ h=>h) ⟨Or.inr ⟨by rfl,rfl⟩,λ_=>rfl⟩ ?_;refine wpAnyIn_take (i:=9) (v:=undef) rfl rfl (by kernel_rfl) (by kernel_rfl) (by kernel_rfl) (λ_ _ _ h=>h) ⟨Or.inr ⟨by rfl,rfl⟩,λ_=>rfl⟩ ?_;refine wpAnyIn_take (i:=10) (v:=undef) rfl rfl (by kernel_rfl) (by kernel_rfl) (by kernel_rfl) (λ_ _ _ h=>h) ⟨Or.inr ⟨by rfl,rfl⟩,λ_=>rfl⟩ ?_;refine wpAnyIn_take (i:=11) (v:=undef) rfl rfl (by kernel_rfl) (by kernel_rfl) (by kernel_rfl) (λ_ _ _ h=>h) ⟨Or.inr ⟨by rfl,rfl⟩,λ_=>rfl⟩ ?_;refine wpAnyIn_take (i:=12) (v:=undef) rfl rfl (by kernel_rfl) (by kernel_rfl) (by kernel_rfl) (λ_ _ _ h=>h) ⟨Or.inr ⟨by rfl,rfl⟩,λ_=>rfl⟩ ?_;refine wpAnyIn_take (i:=13) (v:=undef) rfl rfl (by kernel_rfl) (by kernel_rfl) (by kernel_rfl) (λ_ _ _ h=>h) ⟨Or.inr ⟨by rfl,rfl⟩,λ_=>rfl⟩ ?_;refine wpAnyIn_take (i:=14) (v:=.bool false) rfl rfl (by kernel_rfl) (by kernel_rfl) (by kernel_rfl) (λ_ _ _ h=>h) ⟨Or.inl ⟨by rfl,?_⟩,λ_=>rfl⟩ ?_
     ·intro w;go_simp
     refine wpAnyIn_done (by kernel_rfl) ?_ _
     go_simp
     gi_wp2
     refine⟨⟨k+1,by simp,by omega,?_,hC2⟩,?_⟩
     ·simpa [K2,hbk] using hJ2
     ·show N-((k:Int)+1).toNat<N-(k:Int).toNat;omega
    ·refine wpAnyIn_take (i:=7) (v:=.bool true) rfl rfl (by kernel_rfl) (by kernel_rfl) (by kernel_rfl) (λ_ _ _ h=>h) ⟨Or.inl ⟨by rfl,?_⟩,λ_=>rfl⟩ ?_
     ·intro w;go_simp
     refine wpAnyIn_take (i:=8) (v:=.func (.yield l) #[] #[]) rfl rfl (by kernel_rfl) (by kernel_rfl) (by kernel_rfl) (λ_ _ _ h=>h) ⟨Or.inl ⟨by rfl,?_⟩,λ_=>rfl⟩ ?_
     ·intro w;go_simp
     refine wpAnyIn_take (i:=10) (v:=.int .i64 (k:Int)) rfl rfl (by kernel_rfl) (by kernel_rfl) (by kernel_rfl) (λ_ _ _ h=>h) ⟨Or.inl ⟨by rfl,?_⟩,λ_=>rfl⟩ ?_
     ·intro w;go_simp
     have r1:=HR.out.box _ hC2;refine wpAnyIn_ready (rs:=[9]) (by kernel_rfl) (by simp) (AllReadyIn.cons rfl (λK hK=>?_) AllReadyIn.nil)
     go_simp
     refine hK _ _ ?_;clear hK K;refine wpAnyIn_take (i:=11) (v:=.pointer (some ⟨g,k*7,none⟩)) rfl rfl (by kernel_rfl) (by kernel_rfl) (by kernel_rfl) (λ_ _ _ h=>h) ⟨Or.inl ⟨by rfl,?_⟩,λ_=>rfl⟩ ?_
     ·intro w;go_simp
     obtain⟨fn,tmps,assign,body,hy,hRd⟩:=HY.out k W2 hJ2 hC2 hkn;refine wpAnyIn_ready (rs:=[12]) (by kernel_rfl) (by simp) (AllReadyIn.cons rfl (λK hK=>?_) AllReadyIn.nil);have HK2:Aside _:=hK;clear hK
     go_simp
     refine RoundIn.mono hRd ?_;rintro e W3 (⟨rfl,hJ3,hC3⟩|⟨rfl,hJx3⟩)
     ·skip
      refine HK2.out _ _ ?_;clear HK2 K;refine wpAnyIn_take (i:=13) (v:=.bool false) rfl rfl (by kernel_rfl) (by kernel_rfl) (by kernel_rfl) (λ_ _ _ h=>h) ⟨Or.inl ⟨by rfl,?_⟩,λ_=>rfl⟩ ?_
      ·intro w;go_simp
      refine wpAnyIn_take (i:=14) (v:=.bool false) rfl rfl (by kernel_rfl) (by kernel_rfl) (by kernel_rfl) (λ_ _ _ h=>h) ⟨Or.inl ⟨by rfl,?_⟩,λ_=>rfl⟩ ?_
      ·intro w;go_simp
      refine wpAnyIn_done (by kernel_rfl) ?_ _
      go_simp
      gi_wp2
      refine⟨⟨k+1,by simp,by omega,?_,hC3⟩,?_⟩
      ·simpa [K2,hbk] using hJ3
      ·show N-((k:Int)+1).toNat<N-(k:Int).toNat;omega
     ·refine HK2.out _ _ ?_;clear HK2 K;refine wpAnyIn_take (i:=13) (v:=.bool true) rfl rfl (by kernel_rfl) (by kernel_rfl) (by kernel_rfl) (λ_ _ _ h=>h) ⟨Or.inl ⟨by rfl,?_⟩,λ_=>rfl⟩ ?_
      ·intro w;go_simp
      refine wpAnyIn_take (i:=14) (v:=.bool true) rfl rfl (by kernel_rfl) (by kernel_rfl) (by kernel_rfl) (λ_ _ _ h=>h) ⟨Or.inl ⟨by rfl,?_⟩,λ_=>rfl⟩ ?_
      ·intro w;go_simp
      refine wpAnyIn_done (by kernel_rfl) ?_ _
      go_simp
      gi_wp2
      refine bodyPost_ret (results_none rfl _ _ _) rfl ?_;exact⟨⟨_,rfl⟩,.inr ⟨_,hJx3⟩⟩
  ·have hkz:¬((k:Int)<(N:Int)):=by omega
   gi_wp2
   go_end0
   obtain rfl:k=N:=by omega
   exact⟨⟨_,rfl⟩,.inl hA.out.1⟩
attribute [local go_sem] Oper.semAt_some
def jg:Nat->Code->Code×Code
 | 0,.seq (.seq _ b) c=>(b,c)
 | n+1,.seq _ y=>jg n y
 | _,c=>(c,c)
def NK:Code->Option (Operand×Array Tmp×Code×Code)
 | .rangeFunc g ps a b=>some (g,ps,a,b)
 | .seq x y=>match NK x with
   | some r=>some r
   | none=>NK y
 | .cond _ x y=>match NK x with
   | some r=>some r
   | none=>NK y
 | .block _ x=>NK x
 | .loop x=>NK x
 | _=>none
noncomputable def Ww:Code:=(f55.body).getD .skip
noncomputable def pj:Code:=((NK Ww).map λr=>r.2.2.1).getD .skip
noncomputable def pt:Code:=((NK Ww).map λr=>r.2.2.2).getD .skip
theorem nG{l n:Nat}{tm:Array Value}{v:Value}{W:World}{K:Act->World->Prop}{Q:Exit->Act->World->Prop}(h149:tm.size=149)(hv:tm[134]?=some v)(hK:K { tmps:=tm.setIfInBounds 26 v,defers:=[] } W):pj.wpIn (Fence.wide.inRound l) n prog (Exit.then K Q) { tmps:=tm,defers:=[] } W:=by
 show Code.wpIn (Fence.wide.inRound l) n prog (Code.region _ _ _) _ _ _
 gi_wp2
 obtain⟨h,rfl⟩:=Array.getElem?_eq_some_iff.1 hv;exact hK
theorem nJ{l n:Nat}{tm:Array Value}{W:World}{Q:Exit->Act->World->Prop}{g k bx Br Bv b8 gb go RB RO r Gn Gc Ln Lc:Nat}{key value p3:Int}(h149:tm.size=149)(h26:tm[26]?=some (.pointer (some ⟨g,k*7,none⟩)))(h6:tm[6]?=some (.pointer (some ⟨bx,0,none⟩)))
 (h21:tm[21]?=some (.pointer (some ⟨Br,0,none⟩))) (h22:tm[22]?=some (.pointer (some ⟨Bv,0,none⟩))) (h8:tm[8]?=some (.pointer (some ⟨b8,0,none⟩))) (hr:r<Gn) (hl:0<Ln)
 (c6:W.cell? ⟨bx,3,none⟩=some (.slice (some ⟨gb,go,none⟩) Gn Gc)) (c21:W.cell? ⟨Br,0,none⟩=some (.int .i64 (r:Int))) (cr:W.cell? ⟨gb,go+r,none⟩=some (.slice (some ⟨RB,RO,none⟩) Ln Lc)) (ck:W.cell? ⟨RB,RO,none⟩=some (.int .i64 key))
 (c22:W.cell? ⟨Bv,0,none⟩=some (.int .i64 value)) (c8:W.cell? ⟨b8,0,none⟩=some (.int .i64 p3))
 (hcall:Calls prog 116 #[.pointer (some ⟨g,k*7,none⟩),.int .i64 key,.int .i64 value,.bool (decide (0<=p3))] W.drew λe W'=>(∃x,e=.returned x)/\∀a,Q .normal a W') :
 pt.wpIn (Fence.wide.inRound l) (n+1) prog Q { tmps:=tm,defers:=[] } W:=by
 show Code.wpIn (Fence.wide.inRound l) (n+1) prog (Code.block _ (Code.region _ _ _)) _ _ _;refine wpIn_block ?_;refine wpIn_region_any (by kernel_rfl) ?_;have hrz:(r:Int)<(Gn:Int):=by omega
 have hlz:(0:Int)<(Ln:Int):=by omega
 refine kD (W:=W.drew) 11 135 (λi=>match i with|0=>.pointer (some ⟨g,k*7,none⟩)|1=>.pointer (some ⟨bx,3,none⟩)|2=>.slice (some ⟨gb,go,none⟩) Gn Gc|3=>.int .i64 (r:Int)|4=>.pointer (some ⟨gb,go+r,none⟩)|5=>.slice (some ⟨RB,RO,none⟩) Ln Lc|6=>.pointer (some ⟨RB,RO,none⟩)|7=>.int .i64 key|8=>.int .i64 value|9=>.int .i64 p3|_=>.bool (decide (0<=p3)))
  (λa=>a.tmps.size=149/\a.tmps[26]?=some (.pointer (some ⟨g,k*7,none⟩))/\a.tmps[6]?=some (.pointer (some ⟨bx,0,none⟩))/\a.tmps[21]?=some (.pointer (some ⟨Br,0,none⟩))/\a.tmps[22]?=some (.pointer (some ⟨Bv,0,none⟩))/\a.tmps[8]?=some (.pointer (some ⟨b8,0,none⟩)))
  (by kernel_rfl) (λa i x hi hb=>?put) (λi o a ho hi hb hd K hK=>?op) (λo a ho hb hv K hK=>?call) ⟨h149,h26,h6,h21,h22,h8⟩
 case put =>
  obtain⟨q0,q1,q2,q3,q4,q5⟩:=hb;refine⟨⟨by simp[Act.put,q0],?_,?_,?_,?_,?_⟩,by omega⟩
  all_goals (show(a.tmps.setIfInBounds (135+i) x)[_]?=_;rw[qp (by omega)];assumption)
 case op =>
  obtain⟨q0,q1,q2,q3,q4,q5⟩:=hb;have ev:∀(t:Nat)(v:Value),a.tmps[t]?=some v->∀h:t<a.tmps.size,a.tmps[t]=v:=λt v hv h=>P3 ((qN h).symm.trans hv);have e26:=ev 26 _ q1 (by omega);have e6:=ev 6 _ q2 (by omega);have e21:=ev 21 _ q3 (by omega);have e22:=ev 22 _ q4 (by omega);have e8:=ev 8 _ q5 (by omega);have EV:Aside _:=ev;clear ev q1 q2 q3 q4 q5;have hcs:i=0\/i=1\/i=2\/i=3\/i=4\/i=5\/i=6\/i=7\/i=8\/i=9\/i=10:=by omega
  rcases hcs with rfl|rfl|rfl|rfl|rfl|rfl|rfl|rfl|rfl|rfl|rfl
  ·skip
   exact z35
  ·skip
   exact z35
  ·skip
   obtain rfl:=P3 ho;have d1:=EV.out 136 _ (hd ⟨1,.data⟩ (by simp)) (by omega);clear hd
   go_simp
   exact hK
  ·skip
   exact z35
  ·skip
   obtain rfl:=P3 ho;have d2:=EV.out 137 _ (hd ⟨2,.data⟩ (by simp)) (by omega);have d3:=EV.out 138 _ (hd ⟨3,.data⟩ (by simp)) (by omega);clear hd
   go_simp
   exact hK
  ·skip
   obtain rfl:=P3 ho;have d4:=EV.out 139 _ (hd ⟨4,.data⟩ (by simp)) (by omega);clear hd
   go_simp
   exact hK
  ·skip
   obtain rfl:=P3 ho;have d5:=EV.out 140 _ (hd ⟨5,.data⟩ (by simp)) (by omega);clear hd
   go_simp
   exact hK
  ·skip
   obtain rfl:=P3 ho;have d6:=EV.out 141 _ (hd ⟨6,.data⟩ (by simp)) (by omega);clear hd
   go_simp
   exact hK
  ·skip
   exact z35
  ·skip
   exact z35
  ·skip
   obtain rfl:=P3 ho;have d9:=EV.out 144 _ (hd ⟨9,.data⟩ (by simp)) (by omega);clear hd
   go_simp
   exact hK
 case call =>
  obtain⟨q0,q1,q2,q3,q4,q5⟩:=hb;have ev:∀(t:Nat)(v:Value),a.tmps[t]?=some v->∀h:t<a.tmps.size,a.tmps[t]=v:=λt v hv h=>P3 ((qN h).symm.trans hv);have d0:=ev 135 _ (hv 0 (by omega)) (by omega);have d7:=ev 142 _ (hv 7 (by omega)) (by omega);have d8:=ev 143 _ (hv 8 (by omega)) (by omega);have d10:=ev 145 _ (hv 10 (by omega)) (by omega);have HK:Aside _:=hK;clear ev hv hK q1 q2 q3 q4 q5;obtain rfl:=P3 ho
  go_simp
  refine⟨trivial,(callsIn_wide.2 (hcall.mono ?_)).inRound l⟩;rintro e W' ⟨⟨x,rfl⟩,hq⟩;refine HK.out _ _ λlisted hs hl=>wpAnyIn_done ?_ (show Exit.inBlock _ Q .normal _ W' from hq _) _
  have hll:listed=#[true,true,true,true,true,true,true,true,true,true,true,true]:=Array.ext_getElem? λi=>by
   by_cases hi:i<12
   ·rw[hl i hi];exact(show ∀j:Fin 12,some (decide (j.1<=11))=(#[true,true,true,true,true,true,true,true,true,true,true,true]:Array Bool)[j.1]? by decide) ⟨i,hi⟩
   ·have hs:listed.size=12:=hs;rw[qT (by omega),qT (by simp;omega)]
  subst hll;show Region.ready _ _ _=[]
  kernel_rfl
def Tn(key value:Int)(m:Bool)(cs:List Aq)(k:Nat):List Aq:=match cs[k]? with
 | some c=>cs.set k (B9 c key value m)
 | none=>cs
def K6(key value:Int)(m:Bool)(N:Nat)(pre:List Nat)(cs:List Aq):List Aq:=pre.foldl (λcs k=>Tn key value m cs (k%N)) cs
theorem gi{key value:Int}{m:Bool}{cs:List Aq}{k:Nat}:(Tn key value m cs k).length=cs.length:=by
 unfold Tn;split<;>simp
theorem OY{key value:Int}{m:Bool}{N:Nat}:∀(pre:List Nat)(cs:List Aq),(K6 key value m N pre cs).length=cs.length
 | [],_=>rfl
 | k :: r,cs=>by
   show(K6 key value m N r (Tn key value m cs (k%N))).length=_;rw[OY r,gi]
theorem Va{key value:Int}{m:Bool}{N:Nat}(pre:List Nat)(k:Nat)(cs:List Aq):K6 key value m N (pre++[k]) cs=Tn key value m (K6 key value m N pre cs) (k%N):=by
 simp[K6]
theorem Ys(b:Nat->Bool):∀k,(K2 b k).length<=k
 | 0=>qb _
 | k+1=>by
   have:=Ys b k;simp only[K2,qz];split<;>simp<;>omega
theorem Uy(c:Aq)(key value:Int)(m:Bool):(B9 c key value m).Q=c.Q/\(B9 c key value m).G=c.G++[key]:=by
 unfold B9
 cases m
 ·exact⟨rfl,rfl⟩
 ·simp only[qK];generalize decide (c.A6<max value (IntKind.i64.wrap (-value)))=p;generalize decide (c.A8<max value (IntKind.i64.wrap (-value)))=q
  cases p<;>cases q<;>exact⟨rfl,rfl⟩
theorem aa{key value:Int}{m:Bool}{N:Nat}(pre:List Nat)(cs:List Aq)(M:Nat)(h:∀c∈cs,c.G.length<=M):∀c∈K6 key value m N pre cs,c.G.length<=M+pre.length:=by
 induction pre generalizing cs M with
 | nil=>exact h
 | cons k r ih =>
   intro c hc
   have:=ih (Tn key value m cs (k%N)) (M+1) (λd hd=>by
    unfold Tn at hd;split at hd
    ·rename_i e he
     rcases List.mem_or_eq_of_mem_set hd with q|q
     ·have:=h d q;omega
     ·rw[q,(Uy e key value m).2];have:=h e (qn he);simp;omega
    ·have:=h d hd;omega) c hc
   simp;omega
theorem TM.grown{O:Nat->Prop}{w0 W W':World}{g cap:Nat}{cv us:List Value}{l:List Aq}(h:TM O w0 W g cap cv us l){row:Option Nat}(hg:W.grownBy W' row)(hr:∀r,row=some r->w0.heap.size<=r/\∃o:Obj,W.heap[r]?=some o/\o.isCells=false):TM O w0 W' g cap cv us l:=by
 have hz:=h.keep.size;refine h.mono (h.keep.trans ⟨hg.os,hg.tape,hg.output,hg.size,λk hk _=>hg.block k (by omega) λe=>?_⟩) (hg.block g h.glt λe=>?_) λi u b hi hb hlt=>hg.block b hlt λe=>?_
 ·have:=(hr k e.symm).1;omega
 ·obtain⟨_,o,ho,hc⟩:=hr g e.symm;obtain⟨cur,hcur,_⟩:=h.obj;rw[hcur]at ho;obtain rfl:=P3 ho
  cases hc
 ·obtain⟨_,o,ho,hc⟩:=hr b e.symm;have hil:i<l.length:=by rw[<-h.len];exact A5 hi
  obtain⟨hrow,_⟩:=h.row i l[i] u (P2 hil) hi;rcases Dh hrow with⟨_,_,a,hv⟩|⟨g',cap',cur,hv,hcp,hb',_⟩
  ·rw[hv]at hb
   cases a<;>simp[Ac]at hb
  ·have:g'=b:=by rw[hv]at hb;simp[Ac,hcp]at hb;exact hb
   subst this;rw[hb']at ho;obtain rfl:=P3 ho
   cases hc
structure RI(O:Nat->Prop)(w0 w:World)(fx:Nat->Prop)(g cap:Nat)(cv:List Value)(cs:List Aq)(key value:Int)(m:Bool)(pre:List Nat)(W:World)(us:List Value):Prop where
 tm:TM O w0 W g cap cv us (K6 key value m cs.length pre cs)
 size:w.heap.size<=W.heap.size
 fix:∀b,fx b->W.heap[b]?=w.heap[b]?
 apart:∀(i:Nat) u b,us[i]?=some u->Ac u=some b->¬fx b
structure o8(w0 w:World)(fx:Nat->Prop)(g N:Nat)(cv:List Value)(W:World):Prop where
 keep:A7 w0.heap.size (λb=>b=g) w0 W
 fix:∀b,fx b->W.heap[b]?=w.heap[b]?
 code:∀k c,k<N->cv[k]?=some c->W.cell? ⟨g,k*7,none⟩=some c
 gobj:∃o,W.heap[g]?=some o/\o.isCells=true
 size:w.heap.size<=W.heap.size
section
variable {O:Nat->Prop} {w0 w:World} {fx:Nat->Prop} {g cap:Nat} {cv us0:List Value} {cs:List Aq} {key value:Int} {m:Bool}
theorem RI.rc{pre:List Nat}{W:World}{us:List Value}(h:RI O w0 w fx g cap cv cs key value m pre W us):o8 w0 w fx g cs.length cv W:=by
 refine⟨h.tm.keep,h.fix,λk c hk hc=>?_,?_,h.size⟩
 ·have hl:=OY (key:=key) (value:=value) (m:=m) (N:=cs.length) pre cs;have h1:k<(K6 key value m cs.length pre cs).length:=by rw[hl];exact hk
  have h2:k<us.length:=by rw[h.tm.len,hl];exact hk
  exact(h.tm.cells k _ c _ (P2 h1) hc (P2 h2)).c0
 ·obtain⟨cur,h1,_⟩:=h.tm.obj;exact⟨_,h1,rfl⟩
theorem RI.add{pre:List Nat}{W W':World}{us:List Value}(h:RI O w0 w fx g cap cv cs key value m pre W us)(x:Nat)(hN:0<cs.length)(hfx:∀b,fx b->b<w.heap.size/\b≠g)(hw:w0.heap.size<=w.heap.size){c:Aq}{u:Value}(hc:(K6 key value m cs.length pre cs)[x%cs.length]?=some c)(hu:us[x%cs.length]?=some u)
 (hp:∃v,cv[x%cs.length]?=some v/\∃u' w',Tl g (x%cs.length) cap w' W'/\Fx W' g (x%cs.length) v u' (B9 c key value m)/\Bj w' 3 1 u' (c.G.length+1) ((c.G++[key]).map (Value.int .i64))/\A7 W.heap.size (λb=>b=g\/Ac u=some b) W.drew w'/\(∀o,o≠x%cs.length*7+1->w'.cell? ⟨g,o,none⟩=W.drew.cell? ⟨g,o,none⟩) /\
  (∃cur,w'.heap[g]?=some (.cells cur 141 (0,0))/\cur.size=cap*7)/\∀b,Ac u'=some b->Ac u=some b\/W.heap.size<=b) :
 ∃us',RI O w0 w fx g cap cv cs key value m (pre++[x]) W' us'/\KeepsOthers W W':=by
 obtain⟨v,hv,u',w',hs,h7,hr,hb,hoth,hobj,hn⟩:=hp;have hgl:=h.tm.glt;have hru:=h.tm.row _ _ _ hc hu;have hug:Ac u≠some g:=λe=>by have:=hru.2 g e;have:=h.tm.lt;omega
 have hu'g:Ac u'≠some g:=λe=>by rcases hn g e with q|q;exact hug q;omega
 have hbW:A7 W.heap.size (λb=>b=g\/Ac u=some b) W W':=⟨hs.os.trans hb.os,hs.tape.trans hb.tape,hs.output.trans hb.output,by rw[hs.size];exact hb.size,λk hk hm=>by rw[hs.blk k λe=>hm (.inl e)];exact hb.block k hk hm⟩
 have hstep:=h.tm.step (w':=W') (c':=B9 c key value m) (u':=u') hc hu hbW (hs.obj hobj) (Uy c key value m).1 (λv' hv'=>by rw[hv]at hv';obtain rfl:=P3 hv';exact h7)
  (λo ho=>by rw[hs.oth o ho];exact hoth o (ho 1 (by omega))) (by
   rw[(Uy c key value m).2];have:=hr.mono (w':=W') (λb _ hbl=>hs.blk b λe=>hu'g (by rw[<-e];exact hbl))
   simpa using this) hn
 refine⟨us.set (x%cs.length) u',⟨by rw[Va];unfold Tn;rw[hc];exact hstep,qt h.size hbW.size,λb hb'=>?_,λi y b h1 h2 hf=>?_⟩,⟨hbW.size,λk o ho hoc=>?_⟩⟩
 ·have:=hfx b hb';rw[hbW.block b (by have:=h.size;omega) (λe=>e.elim this.2 λe=>h.apart _ _ _ hu e hb')];exact h.fix b hb'
 ·rw[qO]at h1;split at h1
  ·split at h1
   ·obtain rfl:=P3 h1;rcases hn b h2 with q|q
    ·exact h.apart _ _ _ hu q hf
    ·have:=(hfx b hf).1;have:=h.size;omega
   ·cases h1
  ·exact h.apart i y b h1 h2 hf
 ·have hk:k<W.heap.size:=(Array.getElem?_eq_some_iff.1 ho).1;rw[hbW.block k hk λe=>?_]
  ·exact ho
  ·rcases e with e|e
   ·obtain⟨cur,h1,_⟩:=h.tm.obj;rw[e,h1]at ho;obtain rfl:=P3 ho
    cases hoc
   ·rcases Dh hru.1 with⟨_,_,a,hv⟩|⟨g',cap',cur,hv,hcp,hb',_⟩
    ·rw[hv]at e
     cases a<;>simp[Ac]at e
    ·have:g'=k:=by rw[hv]at e;simp[Ac,hcp]at e;exact e
     subst this;rw[hb']at ho;obtain rfl:=P3 ho
     cases hoc
theorem RI.grown{pre:List Nat}{W W':World}{us:List Value}(h:RI O w0 w fx g cap cv cs key value m pre W us)(hfx:∀b,fx b->b<w.heap.size/\b≠g)(hw:w0.heap.size<=w.heap.size){row:Option Nat}(hg:W.grownBy W' row)(hr:∀r,row=some r->w.heap.size<=r/\∃o:Obj,W.heap[r]?=some o/\o.isCells=false):RI O w0 w fx g cap cv cs key value m pre W' us :=
 ⟨h.tm.grown hg λr e=>⟨qt hw (hr r e).1,(hr r e).2⟩,qt h.size hg.size,λb hb=>by
  rw[hg.block b (by have:=(hfx b hb).1;have:=h.size;omega) λe=>by have:=(hr b e.symm).1;have:=(hfx b hb).1;omega];exact h.fix b hb,h.apart⟩
end
theorem kA{O:Nat->Prop}{w0 w:World}{fx:Nat->Prop}{g cap:Nat}{cv us0:List Value}{cs:List Aq}{key value p3:Int}{bf:Nat->Bool}{ga:Option Addr}{gc:Nat}{vo:Value}{Bc Bo Br Bv bx b8 gb go RB RO r Gn Gc Ln Lc:Nat}
 (hT:TM O w0 w g cap cv us0 cs) (hga:0<cs.length->ga=some ⟨g,0,none⟩) (hN:cs.length<=1000000) (hM:∀c∈cs,c.G.length<=1000000) (hfx:∀b,fx b->b<w.heap.size/\b≠g) (hap:∀(i:Nat) u b,us0[i]?=some u->Ac u=some b->¬fx b) (hw:w0.heap.size<=w.heap.size)
 (hBc:w.cell? ⟨Bc,0,none⟩=some (.slice ga cs.length gc)) (fBc:fx Bc) (hBo:w.cell? ⟨Bo,0,none⟩=some vo) (fBo:fx Bo) (c21:w.cell? ⟨Br,0,none⟩=some (.int .i64 (r:Int))) (fBr:fx Br) (c22:w.cell? ⟨Bv,0,none⟩=some (.int .i64 value)) (fBv:fx Bv)
 (c6:w0.cell? ⟨bx,3,none⟩=some (.slice (some ⟨gb,go,none⟩) Gn Gc)) (n6:bx≠g) (cr:w0.cell? ⟨gb,go+r,none⟩=some (.slice (some ⟨RB,RO,none⟩) Ln Lc)) (nr:gb≠g) (ck:w0.cell? ⟨RB,RO,none⟩=some (.int .i64 key)) (nk:RB≠g) (c8:w0.cell? ⟨b8,0,none⟩=some (.int .i64 p3)) (n8:b8≠g) (hr:r<Gn) (hl:0<Ln)
 (hIn:∀W k c,o8 w0 w fx g cs.length cv W->k<cs.length->cv[k]?=some c->Calls prog 190 #[vo,c] W λe W'=>e=.returned (.bool (bf k))/\RowKit.Below W.heap.size W W')
 {tm:Array Value} {ds:List Deferred} (h149:tm.size=149) (h133:tm[133]?=some (.func (.func 189) #[] #[.pointer (some ⟨Bc,0,none⟩),.pointer (some ⟨Bo,0,none⟩)])) (h6:tm[6]?=some (.pointer (some ⟨bx,0,none⟩)))
 (h21:tm[21]?=some (.pointer (some ⟨Br,0,none⟩))) (h22:tm[22]?=some (.pointer (some ⟨Bv,0,none⟩))) (h8:tm[8]?=some (.pointer (some ⟨b8,0,none⟩)))
 {Q:Exit->Act->World->Prop} (hdone:∀D W' us',w.heap.size<=D->RI O w0 w fx g cap cv cs key value (decide (0<=p3)) (K2 bf cs.length) W' us'->W'.heap[D]?=some (.deferred (some []))->Q .normal { tmps:=tm,defers:={ target:=.collected D,args:=#[] } :: ds } W') :
 (Code.rangeFunc (.tmp 133) #[134] pj pt).wp prog Q { tmps:=tm,defers:=ds } w:=by
 have cell:∀(W:World)(b o:Nat)(v:Value),A7 w0.heap.size (λb=>b=g) w0 W->b≠g->w0.cell? ⟨b,o,none⟩=some v->W.cell? ⟨b,o,none⟩=some v:=λW b o v hk hne hc=>(D9 hk (World.block_lt_of_cell? _ _ hc) hne).trans hc;have fcell:∀(W:World)(b o:Nat)(v:Value),(∀b,fx b->W.heap[b]?=w.heap[b]?)->fx b->w.cell? ⟨b,o,none⟩=some v->W.cell? ⟨b,o,none⟩=some v:=λW b o v hf hb hc=>(World.cell?_of_block (w:=w) (hf b hb)).trans hc;have hcvl:cv.length=cs.length:=hT.clen
 have hR:mR (o8 w0 w fx g cs.length cv) 0 g cs.length Bc Bo (.slice ga cs.length gc) vo (λk=>cv.getD k undef) bf:=⟨λW h=>fcell W _ _ _ h.fix fBc hBc,λW h=>fcell W _ _ _ h.fix fBo hBo,λW k h hk=>by
  have:k<cv.length:=by omega
  exact h.code k _ hk (by simp[qc,this]),
  λW W' h hb=>⟨h.keep.trans (A7.of hb |>.weaken (by have:=h.keep.size;omega) λ_ _ hk=>hk),λb hf=>by
   have h1:=hfx b hf;rw[hb.block b (by have:=h.size;omega)];exact h.fix b hf,λk c hk hc=>by
   have h1:=h.code k c hk hc;rw[Gy hb (World.block_lt_of_cell? _ _ h1)];exact h1,by
   obtain⟨o,h1,h2⟩:=h.gobj;exact⟨o,(hb.block g (Array.getElem?_eq_some_iff.1 h1).1).trans h1,h2⟩,qt h.size hb.size⟩,
  λW k h hk=>hIn W k _ h hk (by
   have:k<cv.length:=by omega
   simp[qc,this])⟩
 have hR0:RI O w0 w fx g cap cv cs key value (decide (0<=p3)) [] w us0:=⟨hT,qb _,λ_ _=>rfl,hap⟩
 refine wpIn_wide.1 (wpIn_rangeFunc_ownF (F:=Fence.wide) (n:=5) (α:=Nat) (w0:=w) rfl (by omega) (gf:=189) (lb:=#[.pointer (some ⟨Bc,0,none⟩),.pointer (some ⟨Bo,0,none⟩)]) (by simp[Act.eval,qI,h133]) trivial (enters_of func189 (by kernel_rfl) rfl)
  (encs:=λx=>#[.pointer (some ⟨g,x%cs.length*7,none⟩)]) (Kp:=λA B=>o8 w0 w fx g cs.length cv A->o8 w0 w fx g cs.length cv B) (S:=λxs=>xs=K2 bf cs.length) (Sp:=λ_=>True) (N:=cs.length) ?seq (λh k hc=>k (h hc)) ?turn (RowKit.Below.refl _ _) (λ_=>rfl)
  (λpre W=>∃us,RI O w0 w fx g cap cv cs key value (decide (0<=p3)) pre W us) (λ_ _ _=>False) ?own (λ_ _ _ _ _ h _ _=>h) ⟨us0,hR0⟩ (λx=>{ tmps:=(tm.setIfInBounds 134 (.pointer (some ⟨g,x%cs.length*7,none⟩))).setIfInBounds 26 (.pointer (some ⟨g,x%cs.length*7,none⟩)),defers:=[] })
  ?assign ?body (λD xs W hD hS ⟨us,hI⟩ hd=>?done) (λ_ _ _ _ _ _ h _=>h.elim))
 case seq =>
  intro l J Jx W hb hJ _ hY h0;have hC0:o8 w0 w fx g cs.length cv W:=hR.keep _ _ hR0.rc hb;refine(cK hR hga hN 3 l J Jx (λpre W W' h hb'=>hJ pre W W' none h ⟨hb'.os,hb'.tape,hb'.output,hb'.size,λk hk _=>hb'.block k hk⟩ λr e=>by cases e) (λk W1 hJ1 hC hk=>?_) W h0 hC0).mono λe W' h=>?_
  ·have hlen:(K2 bf k).length<cs.length:=Nat.lt_of_le_of_lt (Ys bf k) hk;have hy:=hY (K2 bf k) k W1 hJ1 hlen;simp only[rE hk]at hy;obtain⟨fn,tmps,assign,body,hy,hq⟩:=hy;refine⟨fn,tmps,assign,body,hy,RoundIn.mono hq λe W' h=>?_⟩;rcases h with⟨h1,h2,h3⟩|⟨h1,h2⟩
   ·exact .inl ⟨h1,h2,h3 hC⟩
   ·exact .inr ⟨h1,h2⟩
  ·rcases h.2 with h2|⟨pre,h2⟩
   ·exact⟨h.1,.inl ⟨_,rfl,h2⟩⟩
   ·exact⟨h.1,.inr ⟨pre,trivial,h2⟩⟩
 case turn =>
  intro W l o o' hl ho hoc _ hC;have hoth:∀b,b≠l->(W.putObj l o').heap[b]?=W.heap[b]?:=λb hb=>World.putObj_heap_other hb
  have hgl:g≠l:=λe=>by
   obtain⟨q,h1,h2⟩:=hC.gobj;rw[e,ho]at h1;obtain rfl:=P3 h1;rw[hoc]at h2;cases h2
  refine⟨hC.keep.trans ⟨rfl,rfl,rfl,by simp,λk hk _=>hoth k (by omega)⟩,λb hb=>by rw[hoth b (by have:=(hfx b hb).1;omega)];exact hC.fix b hb,λk c hk hc=>(World.cell?_of_block (w:=W) (hoth g hgl)).trans (hC.code k c hk hc),?_,by simpa using hC.size⟩;obtain⟨q,h1,h2⟩:=hC.gobj;exact⟨q,(hoth g hgl).trans h1,h2⟩
 case own =>
  rintro pre W W' row ⟨us,hI⟩ hg hrow;exact⟨us,hI.grown hfx hw hg hrow⟩
 case assign =>
  intro l x W K hK;refine Eq.mpr (congrArg (λt=>Code.wpIn (Fence.wide.inRound l) 3 prog pj (Exit.then K λ_ _ _=>False) { tmps:=t,defers:=[] } W) (show(#[(134:Nat)].zip #[Value.pointer (some ⟨g,x%cs.length*7,none⟩)]).foldl (λt (p,v)=>t.setIfInBounds p v) tm=tm.setIfInBounds 134 (Value.pointer (some ⟨g,x%cs.length*7,none⟩)) by first|rfl|simp)) ?_;refine nG (tm:=tm.setIfInBounds 134 (.pointer (some ⟨g,x%cs.length*7,none⟩))) (by simpa using h149) (by rw[qR];simp[h149]) hK
 case body =>
  rintro l pre x W ⟨us,hI⟩ hpre;have hN0:0<cs.length:=by omega
  have hx:x%cs.length<cs.length:=se _ hN0;have hal:=OY (key:=key) (value:=value) (m:=decide (0<=p3)) (N:=cs.length) pre cs;obtain⟨c,hc⟩:∃c,(K6 key value (decide (0<=p3)) cs.length pre cs)[x%cs.length]?=some c:=⟨_,P2 (by omega)⟩;obtain⟨u,hu⟩:∃u,us[x%cs.length]?=some u:=⟨_,P2 (by rw[hI.tm.len];omega)⟩;obtain⟨v,hv⟩:∃v,cv[x%cs.length]?=some v:=⟨_,P2 (by omega)⟩;have hru:=hI.tm.row _ _ _ hc hu;have hd:RowKit.Below W.heap.size W W.drew:=⟨rfl,rfl,rfl,qb _,λ_ _=>rfl⟩
  have hbnd:c.G.length<=2000000:=by
   have:=aa (key:=key) (value:=value) (m:=decide (0<=p3)) (N:=cs.length) pre cs 1000000 hM c (qn hc);omega
  refine nJ (n:=2) (k:=x%cs.length) (key:=key) (value:=value) (p3:=p3) (bx:=bx) (Br:=Br) (Bv:=Bv) (b8:=b8) (gb:=gb) (go:=go) (RB:=RB) (RO:=RO) (r:=r) (Gn:=Gn) (Gc:=Gc) (Ln:=Ln) (Lc:=Lc) (by simpa using h149) (by rw[qR];simp[h149]) (by rw[qp (by omega),qp (by omega)];exact h6) (by rw[qp (by omega),qp (by omega)];exact h21)
   (by rw[qp (by omega),qp (by omega)];exact h22) (by rw[qp (by omega),qp (by omega)];exact h8) hr hl (cell W _ _ _ hI.tm.keep n6 c6) (fcell W _ _ _ hI.fix fBr c21) (cell W _ _ _ hI.tm.keep nr cr) (cell W _ _ _ hI.tm.keep nk ck) (fcell W _ _ _ hI.fix fBv c22) (cell W _ _ _ hI.tm.keep n8 c8)
   ((iW W.drew g (x%cs.length) cap v u c key value (decide (0<=p3)) ((hI.tm.cells _ _ _ _ hc hv hu).of_block rfl) hI.tm.obj (hru.1.mono λ_ _ _=>rfl) (λe=>by have:=hru.2 g e;have:=hI.tm.lt;omega) hbnd).mono λe W' h=>⟨h.1,λa=>?_⟩)
  obtain⟨us',hI',hko⟩:=hI.add x hN0 hfx hw hc hu ⟨v,hv,h.2⟩;exact⟨hko,λ_=>hI'.rc,us',hI'⟩
 case done =>
  subst hS;exact hdone D W us hD hI hd
def lB(own:List Int)(cs:List Aq)(k:Nat):Bool:=match cs[k]? with
 | some c=>(Ct own c.Q).getD false
 | none=>false
theorem Tw{own:List Int}{key value:Int}{m:Bool}:∀(cs cs':List Aq),Eb own key value m cs=some cs'->(∀(k:Nat) c,cs[k]?=some c->Ct own c.Q=some (lB own cs k)/\c.G.length<=1000000)/\cs'.length=cs.length/\∀k:Nat,cs'[k]?=(cs[k]?).map λc=>if lB own cs k=true then B9 c key value m else c
 | [],cs',h=>by
   obtain rfl:=P3 h;exact⟨λk c hc=>by simp at hc,rfl,λk=>by simp⟩
 | c :: r,cs',h=>by
   simp only[Eb]at h
   cases hr:decide (c.G.length<=1000000)with
   | false=>rw[hr]at h;cases h
   | true =>
     rw[hr]at h;have hr:=pZ hr;obtain⟨b,hb,h⟩:=Option.bind_eq_some_iff.1 h;obtain⟨ds,hds,h⟩:=Option.bind_eq_some_iff.1 h;obtain rfl:=P3 h;obtain⟨h1,h2,h3⟩:=Tw r ds hds;have ha0:lB own (c :: r) 0=b:=by simp[lB,hb]
     have ha:∀k,lB own (c :: r) (k+1)=lB own r k:=λk=>by simp[lB]
     refine⟨λk d hk=>?_,by simp[h2],λk=>?_⟩
     ·cases k with
      | zero =>
        obtain rfl:c=d:=by simpa using hk
        rw[ha0];exact⟨hb,hr⟩
      | succ k=>rw[ha];exact h1 k d (by simpa using hk)
     ·cases k with
      | zero=>simp only[rM,ha0,rO];cases b<;>rfl
      | succ k=>simp only[qD,ha];exact h3 k
theorem Tm{key value:Int}{m:Bool}{b:Nat->Bool}(cs:List Aq):∀n,n<=cs.length->∀k:Nat,(K6 key value m cs.length (K2 b n) cs)[k]?=(cs[k]?).map λc=>if k<n/\b k=true then B9 c key value m else c
 | 0,_,k=>by simp[K2,K6]
 | n+1,hn,k=>by
   have ih:=Tm (key:=key) (value:=value) (m:=m) (b:=b) cs n (by omega);simp only[K2];by_cases hb:b n=true
   ·rw[qf hb,Va,rE (by omega)];have hc:=ih n;rw[P2 (by omega:n<cs.length)]at hc;simp only[rO,Nat.lt_irrefl,false_and,if_false]at hc;unfold Tn;rw[hc];simp only;rw[qO];by_cases e:n=k
    ·subst e;rw[qf rfl,qf (by rw[OY];omega),P2 (by omega:n<cs.length)];simp[hb]
    ·rw[qi e,ih k];have:(k<n+1/\b k=true)↔(k<n/\b k=true):=by constructor<;>rintro⟨h1,h2⟩<;>exact⟨by omega,h2⟩
     simp only[this]
   ·rw[qi hb,rY,ih k]
    have:(k<n+1/\b k=true)↔(k<n/\b k=true):=by
     constructor
     ·rintro⟨h1,h2⟩;refine⟨?_,h2⟩;rcases qw k n with q|q
      ·exact q
      ·have:k=n:=by omega
       subst this;exact absurd h2 hb
     ·rintro⟨h1,h2⟩;exact⟨by omega,h2⟩
    simp only[this]
theorem gr{own:List Int}{key value:Int}{m:Bool}{cs cs':List Aq}(h:Eb own key value m cs=some cs'):cs'=K6 key value m cs.length (K2 (lB own cs) cs.length) cs:=by
 obtain⟨_,h2,h3⟩:=Tw cs cs' h;apply r7;intro k;rw[h3,Tm cs cs.length (qb _)]
 cases hk:cs[k]? with
 | none=>rfl
 | some c =>
   have:=A5 hk;simp[this]
theorem TM.start{O:Nat->Prop}{w:World}{g cap:Nat}{cur:Array Value}{vals:List Value}{cs:List Aq}(hg:w.heap[g]?=some (.cells cur 141 (0,0)))(hO:O g)(h1:cs.length<=cap)(h2:cap<=maxLen)(h3:cur.size=cap*7)(h4:cur.toList.take (cs.length*7)=vals)
 (hL:Bl O w vals ((cs.map BM).flatMap D.cells)) (hnil:∀c∈cs,c.G=[]):∃cv us,TM O w w g cap cv us cs/\∀(i:Nat) u b,us[i]?=some u->Ac u≠some b:=by
 have hgl:g<w.heap.size:=CP hg
 have hlen:vals.length=cs.length*7:=by
  have hz:cur.toList.length=cap*7:=by rw[q8,h3]
  rw[<-h4,qL,hz];exact rB (qU _ h1)
 have key:∀(k o:Nat) d,k<cs.length->o<7->(BM (cs.getD k { Q:=[],Y:=0,A4:=0,A5:=0,A6:=0,A8:=0,G:=[] })).cells[o]?=some d->∃v,vals[k*7+o]?=some v/\w.cell? ⟨g,k*7+o,none⟩=some v/\Aw O w v d:=λk o d hk ho hd=>by
  have hlt:k*7+o<vals.length:=by rw[hlen];omega
  have hdk:((cs.map BM).flatMap D.cells)[k*7+o]?=some d:=by
   rw[bd BM (λ_=>rfl) cs k hk o ho]
   simpa [qc,hk] using hd
  refine⟨_,P2 hlt,?_,(hL.2 _ _ _ (P2 hlt) hdk).1⟩
  have:cur.toList[k*7+o]?=some vals[k*7+o]:=by
   rw[<-P2 hlt]
   conv=>rhs;rw[<-h4]
   rw[qB,qf (by rw[<-hlen];exact hlt)]
  simp only[World.cell?,hg];simp only[rK,qZ,if_false];rw[<-qJ,this]
 have hrange:∀(f:Nat->Value)(k:Nat) v,((List.range cs.length).map f)[k]?=some v->k<cs.length/\v=f k:=λf k v h=>by
  have hk:k<cs.length:=by have:=A5 h;simpa using this
  refine⟨hk,?_⟩;rw[ql,si hk]at h;exact(P3 h).symm
 have hus:∀k,k<cs.length->∃a,vals.getD (k*7+6) undef=.slice a 0 0:=λk hk=>by
  obtain⟨v,e1,_,e3⟩:=key k 6 (.nil 1) hk (by omega) rfl;rw[qc,e1]
  cases e3 with
  | nil a=>exact⟨a,rfl⟩
 have hnb:∀(i:Nat) u b,((List.range cs.length).map λk=>vals.getD (k*7+6) undef)[i]?=some u->Ac u≠some b:=λi u b h hbb=>by
  obtain⟨hk,rfl⟩:=hrange _ i u h;obtain⟨a,e⟩:=hus i hk;rw[e]at hbb
  cases a<;>simp[Ac]at hbb
 refine⟨(List.range cs.length).map λk=>vals.getD (k*7) undef,(List.range cs.length).map λk=>vals.getD (k*7+6) undef,⟨A7.refl _ _ _,hgl,hO,by simp,by simp,⟨cur,hg,h3⟩,⟨h1,h2⟩,λj c v u hc hv hu=>?_,λj c v hc hv=>?_,λj c u hc hu=>?_,λi j u v b hi _ hbi _=>absurd hbi (hnb i u b hi)⟩,hnb⟩
 ·obtain⟨hk,rfl⟩:=hrange _ j v hv;obtain⟨_,rfl⟩:=hrange _ j u hu;have hcd:cs.getD j { Q:=[],Y:=0,A4:=0,A5:=0,A6:=0,A8:=0,G:=[] }=c:=by simp[qc,hc]
  obtain⟨v0,p0,q0,r0⟩:=key j 0 _ hk (by omega) rfl;obtain⟨v1,p1,q1,r1⟩:=key j 1 _ hk (by omega) rfl;obtain⟨v2,p2,q2,r2⟩:=key j 2 _ hk (by omega) rfl;obtain⟨v3,p3,q3,r3⟩:=key j 3 _ hk (by omega) rfl;obtain⟨v4,p4,q4,r4⟩:=key j 4 _ hk (by omega) rfl;obtain⟨v5,p5,q5,r5⟩:=key j 5 _ hk (by omega) rfl;obtain⟨v6,p6,q6,r6⟩:=key j 6 _ hk (by omega) rfl;have e1:=AJ r1;have e2:=AJ r2;have e3:=AJ r3;have e4:=AJ r4;have e5:=AJ r5;subst e1;subst e2;subst e3;subst e4;subst e5;rw[hcd]at q1 q2 q3 q4 q5;exact⟨by rw[qc,show j*7=j*7+0 from rfl,p0];exact q0,q1,q2,q3,q4,q5,by rw[qc,p6];exact q6⟩
 ·obtain⟨hk,rfl⟩:=hrange _ j v hv;have hcd:cs.getD j { Q:=[],Y:=0,A4:=0,A5:=0,A6:=0,A8:=0,G:=[] }=c:=by simp[qc,hc]
  obtain⟨v0,p0,q0,r0⟩:=key j 0 _ hk (by omega) rfl;rw[hcd]at r0;rw[qc,show j*7=j*7+0 from rfl,p0];exact r0
 ·obtain⟨hk,rfl⟩:=hrange _ j u hu;obtain⟨a,e⟩:=hus j hk;have:c.G=[]:=hnil c (qn hc);rw[this,e];refine⟨?_,λb hb=>?_⟩
  ·cases a with
   | none=>exact .inl (World.ownsRow_nil w _ _ _)
   | some a=>exact .inr ⟨rfl,rfl,a,rfl⟩
  ·cases a<;>simp[Ac]at hb
def oP(n:Nat):Code->Bool
 | .region m _ _=>Nat.beq m n
 | _=>false
def Pe(n:Nat):Code->Option Code
 | .seq x y=>match oP n x with
   | true=>some (.seq x y)
   | false=>match Pe n x with
     | some c=>some c
     | none=>Pe n y
 | .cond _ x y=>match Pe n x with
   | some c=>some c
   | none=>Pe n y
 | .block _ x=>Pe n x
 | .loop x=>Pe n x
 | _=>none
noncomputable def kH:Code:=(Pe 27 Ww).getD .skip
structure iM(n0:Nat)(Ds:List Nat)(ds:List Deferred)(W:World):Prop where
 eq:ds=Ds.map λD=>{ target:=.collected D,args:=#[] }
 nodup:Ds.Nodup
 at_:∀D∈Ds,n0<=D/\W.heap[D]?=some (.deferred (some []))
structure eE(v2 v5 v6 v8 v10 v16 v89:Value)(n:Nat)(k:Nat)(tm:Array Value):Prop where
 size:tm.size=149
 s2:tm[2]?=some v2
 s5:tm[5]?=some v5
 s6:tm[6]?=some v6
 s8:tm[8]?=some v8
 s10:tm[10]?=some v10
 s16:tm[16]?=some v16
 s89:tm[89]?=some v89
 s90:tm[90]?=some (.int .i64 (n:Int))
 s91:tm[91]?=some (.int .i64 (k:Int))
theorem fD{p0:Aa}{p1:As}{row:Int}:∀(l:List Ad)(o:List Int),GH p0 p1 row l=some o->o.length=l.length/\∀(i:Nat) p,l[i]?=some p->∃v,BC p0 p1 row p.B p.S=some v/\o[i]?=some v.1
 | [],o,h=>by
   obtain rfl:=P3 h;grind
 | p :: r,o,h=>by
   simp only[GH]at h;obtain⟨v,hv,h⟩:=Option.bind_eq_some_iff.1 h;obtain⟨vs,hvs,h⟩:=Option.bind_eq_some_iff.1 h;obtain rfl:=P3 h;obtain⟨h1,h2⟩:=fD r vs hvs;grind
theorem mj{own:List Int}{n k:Nat}{x:Int}(h:own[k]?=some x)(hn:own.length=n):((own.take k)++List.replicate (n-k) 0).set k x=(own.take (k+1))++List.replicate (n-(k+1)) 0:=by
 have hk:k<own.length:=A5 h;have hl:(own.take k).length=k:=by grind
 rw[List.set_append_right _ _ (by omega),hl,Nat.sub_self,show n-k=(n-(k+1))+1 by omega,List.replicate_succ,List.set_cons_zero,List.take_add_one,h];simp
theorem Xl{O:Nat->Prop}{w:World}{v:Value}{l:List Ad}(h:Aw O w v (An 2 Ag l)) :
 ∃a cap b o,v=.slice a l.length cap/\∀(i:Nat) p,l[i]?=some p->a=some ⟨b,o,none⟩/\¬O b/\b<w.heap.size/\w.cell? ⟨b,o+i*2,none⟩=some (.int .i64 p.B)/\w.cell? ⟨b,o+i*2+1,none⟩=some (.int .i64 p.S):=by
 generalize hx:An 2 Ag l=x at h
 cases h<;>simp only[An,D.list.injEq,reduceCtorEq]at hx
 case emp a cap sz =>
  have:l=[]:=List.map_eq_nil_iff.1 hx.2;subst this;exact⟨a,cap,0,0,rfl,λi p hp=>by simp at hp⟩
 case list b off cap sz xs c hne hb hO hcap hsz h1 hcell h =>
  obtain⟨rfl,rfl⟩:=hx;refine⟨some ⟨b,off,none⟩,cap,b,off,by rw[pX],λk p hp=>⟨rfl,hO,hb,?_,?_⟩⟩
  ·have e1:(l.map Ag)[k]?=some (Ag p):=by simp[hp]
   have:=hcell k (Ag p) 0 (D.int .i64 p.B) e1 rfl;have r:=h k (Ag p) 0 (D.int .i64 p.B) e1 rfl;rw[AJ r]at this;exact this
  ·have e1:(l.map Ag)[k]?=some (Ag p):=by simp[hp]
   have:=hcell k (Ag p) 1 (D.int .i64 p.S) e1 rfl;have r:=h k (Ag p) 1 (D.int .i64 p.S) e1 rfl;rw[AJ r]at this;exact this
theorem kO{p0:Aa}{p1:As}{p2:List Ad}{p3:Int}{O:Nat->Prop}{w0:World}{g cap:Nat}{cv us:List Value}{cs cs':List Aq}{row key value:Int}{own l:List Int}{v2 x63:Value}{b5 b6 b8 b10 b16 Br Bv gc n k:Nat}{v89 x50 x51 x60 x61 x62:Value}
 (hown:GH p0 p1 row p2=some own) (hl:idx p1.G row=some l) (hky:idx l 0=some key) (hcs:Eb own key value (decide (0<=p3)) cs=some cs') (hn2:p2.length<=1000000) (hN:cs.length<=1000000)
 (hKn:∀(c lv:Int)(v:Int×Bool),BC p0 p1 row c lv=some v->∀wr,A7 w0.heap.size (λb=>b=g) w0 wr->Calls prog 114 #[.agg #[x50,x51],.agg #[x60,x61,x62,x63],.int .i64 row,.int .i64 c,.int .i64 lv] wr λe w'=>e=.returned (.tuple #[.int .i64 v.1,.bool v.2])/\RowKit.Below wr.heap.size wr w')
 (hIn:∀(a b:List Int)(r:Bool),Ct a b=some r->∀(va vb:Value) wr,A7 w0.heap.size (λb=>b=g) w0 wr->Aw O wr va (An 1 (D.int .i64) a)->Aw O wr vb (An 1 (D.int .i64) b)->Calls prog 190 #[va,vb] wr λe w'=>e=.returned (.bool r)/\RowKit.Below wr.heap.size wr w')
 (hO:∀b,O b->b<w0.heap.size) (d2:Aw O w0 v2 (An 2 Ag p2)) (d63:Aw O w0 x63 (An 1 (An 1 (D.int .i64)) p1.G))
 (q50:w0.cell? ⟨b5,0,none⟩=some x50) (q51:w0.cell? ⟨b5,1,none⟩=some x51) (q60:w0.cell? ⟨b6,0,none⟩=some x60) (q61:w0.cell? ⟨b6,1,none⟩=some x61) (q62:w0.cell? ⟨b6,2,none⟩=some x62) (q63:w0.cell? ⟨b6,3,none⟩=some x63) (q80:w0.cell? ⟨b8,0,none⟩=some (.int .i64 p3)) (q16:w0.cell? ⟨b16,2,none⟩=some (.slice (some ⟨g,0,none⟩) cs.length gc))
 (n5:b5≠g) (n6:b6≠g) (n8:b8≠g) (n16:b16≠g)
 {W:World} {tm:Array Value} {Ds:List Nat} {ds:List Deferred} (hT:TM O w0 W g cap cv us cs) (hMk:iM w0.heap.size Ds ds W) (hF:eE v2 (.pointer (some ⟨b5,0,none⟩)) (.pointer (some ⟨b6,0,none⟩)) (.pointer (some ⟨b8,0,none⟩)) (.pointer (some ⟨b10,0,none⟩)) (.pointer (some ⟨b16,0,none⟩)) v89 n k tm)
 (s21:tm[21]?=some (.pointer (some ⟨Br,0,none⟩))) (s22:tm[22]?=some (.pointer (some ⟨Bv,0,none⟩))) (cBr:W.cell? ⟨Br,0,none⟩=some (.int .i64 row)) (cBv:W.cell? ⟨Bv,0,none⟩=some (.int .i64 value)) (gBr:w0.heap.size<=Br) (gBv:w0.heap.size<=Bv) (aB:∀(i:Nat) u b,us[i]?=some u->Ac u=some b->b≠Br/\b≠Bv)
 {Q:Exit->Act->World->Prop} (hdone:∀tm' W' us' D,eE v2 (.pointer (some ⟨b5,0,none⟩)) (.pointer (some ⟨b6,0,none⟩)) (.pointer (some ⟨b8,0,none⟩)) (.pointer (some ⟨b10,0,none⟩)) (.pointer (some ⟨b16,0,none⟩)) v89 n k tm'->TM O w0 W' g cap cv us' cs'->iM w0.heap.size (D :: Ds) ({ target:=.collected D,args:=#[] } :: ds) W'->Q .normal { tmps:=tm',defers:={ target:=.collected D,args:=#[] } :: ds } W') :
 kH.wp prog Q { tmps:=tm,defers:=ds } W:=by
 obtain⟨hol,hoa⟩:=fD p2 own hown;have hsz:=hF.size;have f2:=hF.s2;have f5:=hF.s5;have f6:=hF.s6;have f8:=hF.s8;have f10:=hF.s10;have f16:=hF.s16;have f89:=hF.s89;have f90:=hF.s90;have f91:=hF.s91;obtain⟨l0,rfl⟩:∃l:List Value,tm=l.toArray:=⟨tm.toList,by simp⟩;have h0:l0.length=149:=by simpa using hsz
 iterate 18 (replace h0:=TP h0;obtain⟨_,_,_,_,_,_,_,_,l0,rfl,h0⟩:=h0)
 iterate 5 (replace h0:=DV h0;obtain⟨_,l0,rfl,h0⟩:=h0)
 obtain rfl:=List.length_eq_zero_iff.1 h0;clear hsz h0;simp only[rJ,rM,qD,Option.some.injEq]at f2 f5 f6 f8 f10 f16 f89 f90 f91 s21 s22;subst f2;subst f5;subst f6;subst f8;subst f10;subst f16;subst f89;subst f90;subst f91;subst s21;subst s22;have HD:Aside _:=@hdone;have HF:Aside _:=hF;have HMk:Aside _:=hMk;have HOA:Aside _:=hoa;have HT:Aside _:=hT;have HKN:Aside _:=hKn;have HIN:Aside _:=hIn;have HAB:Aside _:=aB;clear hdone hF hMk hoa hT hKn hIn aB;obtain⟨a2,c2,b2,o2,e2,h2⟩:=Xl d2;subst e2;have H2:Aside _:=h2;have hmk:=run_make_row' (P:=prog) 30 3 (.int .i64 0) 8 dA me rfl .i64 .i64 p2.length (by omega) (by omega);clear h2;show Code.wp _ (Code.seq _ _) _ _ _
 go_wp2_with fail
 obtain⟨bo,hbo⟩:∃bo,bo=W.heap.size:=⟨_,rfl⟩;rw[<-hbo];obtain⟨W1,hW1⟩:∃W1,W1=W.alloc (.cells (madeCells #[.int .i64 0] p2.length) 3):=⟨_,rfl⟩;rw[<-hW1];have HW1:Aside (_/\_):=⟨hbo,hW1⟩;clear hmk hW1 hbo
 go_loopg [110] p2.length (λm i wr=>∃k:Nat,k<=p2.length/\m=p2.length-k/\i=.int .i64 (k:Int)/\Aside (RowKit.Below W.heap.size W wr/\bo<wr.heap.size/\wr.heap[bo]?=some (.cells (((own.take k)++List.replicate (p2.length-k) 0).map (Value.int .i64)).toArray 3 (0,0))))
 case atStart =>
  obtain⟨e1,e2⟩:=HW1.out;refine⟨0,pY _,rfl,rfl,?_,?_,?_⟩
  ·rw[e2];exact Hv _ _
  ·rw[e1,e2];simp
  ·rw[e1,e2,World.alloc_heap_new];simp only[madeCells];have:(Array.range p2.length).map (λx=>(#[Value.int .i64 0]:Array Value)[x%(#[Value.int .i64 0]:Array Value).size]!)=(((own.take 0)++List.replicate (p2.length-0) 0).map (Value.int .i64)).toArray:=Array.ext (by simp) λi h1 h2=>by simp[Nat.mod_one]
   rw[this]
 case round =>
  obtain⟨k,hk,rfl,rfl,hA⟩:=hrel;by_cases hkn:k<p2.length
  ·have hkz:(k:Int)<(p2.length:Int):=by omega
   obtain⟨hB,hbo2,hbh⟩:=hA.out;have hT:=HT.out;have hk0:=hT.keep.trans ((A7.of (M:=λb=>b=g) hB).weaken (by have:=hT.keep.size;omega) λ_ _ h=>h);have kc:∀(b o:Nat)(v:Value),b≠g->w0.cell? ⟨b,o,none⟩=some v->wr.cell? ⟨b,o,none⟩=some v:=λb o v hne h=>(D9 hk0 (World.block_lt_of_cell? _ _ h) hne).trans h;obtain⟨p,hp⟩:∃p,p2[k]?=some p:=⟨_,P2 hkn⟩;obtain⟨e2,m2,lt2,g20,g21⟩:=H2.out k p hp;have nb2:b2≠g:=λe=>m2 (by rw[e];exact hT.ng);obtain⟨v,hv,hov⟩:=HOA.out k p hp;have c50:=kc _ _ _ n5 q50;have c51:=kc _ _ _ n5 q51;have c60:=kc _ _ _ n6 q60;have c61:=kc _ _ _ n6 q61;have c62:=kc _ _ _ n6 q62;have c63:=kc _ _ _ n6 q63;have c20:=kc _ _ _ nb2 g20;have c21:=kc _ _ _ nb2 g21;have cB:wr.cell? ⟨Br,0,none⟩=some (.int .i64 row):=(Gy hB (World.block_lt_of_cell? _ _ cBr)).trans cBr;have al:∀(b o':Nat)(v:Value)(o:Obj),wr.cell? ⟨b,o',none⟩=some v->(wr.alloc o).cell? ⟨b,o',none⟩=some v:=λb o' v o h=>by rw[World.cell?_alloc_lt _ _ _ (World.block_lt_of_cell? _ _ h)];exact h
   have a50:=λo=>al _ _ _ o c50;have a51:=λo=>al _ _ _ o c51;have a60:=λo=>al _ _ _ o c60;have a61:=λo=>al _ _ _ o c61;have a62:=λo=>al _ _ _ o c62;have a63:=λo=>al _ _ _ o c63;have aB:=λo=>al _ _ _ o cB;obtain⟨wa,hwa⟩:∃wa,wa=wr.alloc (.cells #[.int .i64 p.B,.int .i64 p.S] 115):=⟨_,rfl⟩;have hcall:=HKN.out p.B p.S v hv wa (by rw[hwa];exact hk0.trans ((A7.of (M:=λb=>b=g) (Hv wr _)).weaken (by have:=hk0.size;omega) λ_ _ h=>h));rw[hwa]at hcall;have hwa2:RowKit.Below wr.heap.size wr wa:=by rw[hwa];exact Hv _ _
   subst e2;have hlt:(own.take k).length=k:=by rw[qL];omega
   have hz:(((own.take k)++List.replicate (p2.length-k) 0).map (Value.int .i64))[k]?=some (.int .i64 0):=by
    rw[ql,qg (by omega),hlt,Nat.sub_self,sj,qf (by omega)];rfl
   have hst:∀w2,RowKit.Below (wr.alloc (.cells #[.int .i64 p.B,.int .i64 p.S] 115)).heap.size (wr.alloc (.cells #[.int .i64 p.B,.int .i64 p.S] 115)) w2->w2.heap[bo]?=some (.cells (((own.take k)++List.replicate (p2.length-k) 0).map (Value.int .i64)).toArray 3 (0,0))/\w2.cell? ⟨bo,k,none⟩=some (.int .i64 0)/\w2.frozen? ⟨bo,k,none⟩=false:=λw2 h2=>by
    have e:w2.heap[bo]?=some (.cells (((own.take k)++List.replicate (p2.length-k) 0).map (Value.int .i64)).toArray 3 (0,0)):=by
     rw[h2.block bo (by simp;omega),blk_alloc_lt _ _ _ hbo2];exact hbh
    refine⟨e,?_,by simp[World.frozen?,e]⟩;simp only[World.cell?,e];simp only[rK,qZ,if_false,rJ];exact hz
   have HST:Aside _:=hst;clear hlt hz hst;have HWA:Aside (_/\_/\_/\_/\_/\_):=⟨hwa,hB,hbo2,hbh,hwa2,hov⟩;clear hwa hA hT hk0 kc hp m2 lt2 g20 g21 nb2 hv al hB hbo2 hbh hwa2 hov
   go_wp2_with (go_at_call 114;refine hcall.mono ?_;rintro e w2 ⟨rfl,hb2⟩;obtain⟨_,g3,g4⟩:=HST.out w2 hb2)
   go_roundg (p2.length-(k+1))
   case measure=>go_light;omega
   case rel =>
    go_light
    obtain⟨hwa,hB,hbo2,hbh,hwa2,hov⟩:=HWA.out;obtain⟨g5,_,_⟩:=HST.out w2 hb2;refine⟨k+1,by omega,rfl,by go_num,?_,?_,?_⟩
    ·have h1:=Zd (RowKit.Below.trans (hB.mono (qb _)) (hwa2.mono hB.size)) (by rw[hwa];exact hb2);refine⟨(by show w2.os=_;exact h1.os),(by show w2.tape=_;exact h1.tape),(by show w2.output=_;exact h1.output),by simpa using h1.size,λb hb=>?_⟩;rw[blk_setCell_other _ _ _ _ (by show b≠bo;have:=HW1.out.1;omega)];exact h1.block b hb
    ·have:=hb2.size;simp at this ⊢;omega
    ·rw[heap_setCell_same _ _ _ _ _ _ g5];have:=mj hov hol;rw[<-this,List.setIfInBounds_toArray,q7]
  ·have hkz:¬((k:Int)<(p2.length:Int)):=by omega
   obtain⟨hB,hbo2,hbh⟩:=hA.out;have hT:=HT.out;have hk0:=hT.keep.trans ((A7.of (M:=λb=>b=g) hB).weaken (by have:=hT.keep.size;omega) λ_ _ h=>h);have c16:wr.cell? ⟨b16,2,none⟩=some (.slice (some ⟨g,0,none⟩) cs.length gc):=(D9 hk0 (World.block_lt_of_cell? _ _ q16) n16).trans q16;have HWA:Aside (_/\_/\_/\_):=⟨hB,hbo2,hbh,hk0⟩;clear hB hbo2 hbh hT hk0 hA
   go_wp2_with (go_at_call 115;refine(gn _ _ _ rfl rfl).mono ?_;rintro e w2 ⟨rfl,rfl⟩)
   obtain⟨hB,hbo2,hbh,hk0⟩:=HWA.out;obtain rfl:k=p2.length:=by omega
   rw[show own.take p2.length=own by rw[<-hol];exact rF,Nat.sub_self,List.replicate_zero,rY]at hbh;obtain⟨hbo,_⟩:=HW1.out;have hT:=HT.out;have hMk:=HMk.out;obtain⟨hin,_,_⟩:=Tw cs cs' hcs;obtain⟨h0r,hrl,hrg⟩:=Q1 hl;obtain⟨_,h0l,h0g⟩:=Q1 hky;obtain⟨rga,gb,go,Gc,A,C,RB,RO,hRow,hOg,hOr⟩:=Rs d63;have hml:p1.G.getD row.toNat []=l:=by rw[qc,hrg];rfl
   have hl0:0<l.length:=by simpa using h0l
   obtain⟨hA0,hAc⟩:=hRow.cell row.toNat hrl 0 (by rw[hml];exact hl0)
   have hz0:PC p1.G row.toNat 0=key:=by
    unfold PC;rw[hml];simp only[Int.toNat_zero]at h0g;rw[qc,h0g];rfl
   have hrw:=hRow.row row.toNat hrl;rw[hml,hA0]at hrw;have hxv:=hRow.val;rw[hRow.ga (by omega)]at hxv;rw[hz0]at hAc;have ng:O g:=hT.ng;have ngb:gb≠g:=λe=>(hOg (by omega)).1 (e▸ng);have nRB:RB row.toNat≠g:=λe=>(hOr row.toNat hrl 0 (by rw[hml];exact hl0)).1 (e▸ng);obtain⟨W2,hW2⟩:∃W2,W2=(wr.alloc (.cells #[.slice (some ⟨g,0,none⟩) cs.length gc] 47)).alloc (.cells #[.slice (some ⟨bo,0,none⟩) p2.length p2.length] 30):=⟨_,rfl⟩;have hB2:RowKit.Below wr.heap.size wr W2:=by rw[hW2];exact Zd (Hv wr _) (Hv _ _)
   have hsz2:W2.heap.size=wr.heap.size+2:=by rw[hW2];simp
   have hT2:TM O w0 W2 g cap cv us cs:=(hT.keepS hB).keepS hB2;have hWw:=hB.size;have hw0:=hT.keep.size;have hBW:RowKit.Below W.heap.size W W2:=Zd hB hB2;have ltBr:=World.block_lt_of_cell? _ _ cBr;have ltBv:=World.block_lt_of_cell? _ _ cBv;simp only at ltBr ltBv;have hgw0:=hT.lt
   have hrowc:∀(i:Nat) u b,us[i]?=some u->Ac u=some b->b<W.heap.size/\∃c,W.heap[b]?=some c/\c.isCells=true:=λi u b hi hbb=>by
    have hil:i<cs.length:=by rw[<-hT.len];exact A5 hi
    obtain⟨hru,_⟩:=hT.row i cs[i] u (P2 hil) hi;refine⟨hru.lt hbb,?_⟩;rcases Dh hru with⟨_,_,a,hv⟩|⟨g',cap',cur,hv,hcp,hb',_⟩
    ·rw[hv]at hbb
     cases a<;>simp[Ac]at hbb
    ·have:g'=b:=by rw[hv]at hbb;simp[Ac,hcp]at hbb;exact hbb
     subst this;exact⟨_,hb',rfl⟩
   rw[<-hW2];show Code.wp _ (Code.rangeFunc _ _ pj pt) _ _ _
   refine kA (w0:=w0) (w:=W2) (fx:=λb=>b=Br\/b=Bv\/b=wr.heap.size\/b=wr.heap.size+1\/b=bo\/b∈Ds) (key:=key) (value:=value) (p3:=p3) (bf:=lB own cs) (gc:=gc) (vo:=.slice (some ⟨bo,0,none⟩) p2.length p2.length) (Bc:=wr.heap.size) (Bo:=wr.heap.size+1) (Br:=Br) (Bv:=Bv) (bx:=b6) (b8:=b8) (gb:=gb) (go:=go) (RB:=RB row.toNat) (RO:=RO row.toNat) (r:=row.toNat) (Ln:=l.length) hT2 (λ_=>rfl) hN
    (λc hc=>by
     obtain⟨i,hi⟩:=List.mem_iff_getElem?.1 hc;exact(hin i c hi).2)
    (λb hb=>?fx) (λi u b hi hbb hf=>?ap) (by rw[hsz2];omega) ?bc (.inr (.inr (.inl rfl))) ?bo (.inr (.inr (.inr (.inl rfl)))) ?br (.inl rfl) ?bv (.inr (.inl rfl)) (hxv▸q63) n6 hrw ngb (by simpa using hAc) nRB q80 n8 hrl hl0 ?inn rfl rfl rfl rfl rfl rfl ?Ef
   case fx =>
    rcases hb with rfl|rfl|rfl|rfl|rfl|hb
    ·exact⟨by omega,by omega⟩
    ·exact⟨by omega,by omega⟩
    ·exact⟨by omega,by omega⟩
    ·exact⟨by omega,by omega⟩
    ·exact⟨by omega,by omega⟩
    ·obtain⟨h1,h2⟩:=hMk.at_ b hb;have:=(Array.getElem?_eq_some_iff.1 h2).1;exact⟨by omega,by omega⟩
   case ap =>
    obtain⟨h1,c,h2,h3⟩:=hrowc i u b hi hbb;obtain⟨h4,h5⟩:=HAB.out i u b hi hbb;rcases hf with rfl|rfl|rfl|rfl|rfl|hf
    ·exact h4 rfl
    ·exact h5 rfl
    ·omega
    ·omega
    ·omega
    ·obtain⟨_,h6⟩:=hMk.at_ b hf;rw[h6]at h2;obtain rfl:=P3 h2
     cases h3
   case bc =>
    rw[hW2,World.cell?_alloc_lt _ _ _ (by simp)];exact World.cell?_alloc_at _ _ _ _ rfl
   case bo =>
    rw[hW2];exact World.cell?_alloc_at _ _ _ _ (by simp)
   case br=>rw[Int.toNat_of_nonneg h0r];exact(Gy hBW ltBr).trans cBr
   case bv=>exact(Gy hBW ltBv).trans cBv
   case inn =>
    intro W' i c hC hi hc;have hil:cs[i]?=some cs[i]:=P2 hi;refine HIN.out own cs[i].Q (lB own cs i) (hin i _ hil).1 _ _ W' hC.keep ?_ ((hT.codes i _ c hil hc).mono ⟨hC.keep.size,λ_ _ h=>h,λb hlt hb=>hC.keep.block b hlt λe=>hb (e▸ng)⟩)
    have hbW':W'.heap[bo]?=some (.cells (own.map (Value.int .i64)).toArray 3 (0,0)):=by
     rw[hC.fix bo (.inr (.inr (.inr (.inr (.inl rfl))))),hB2.block bo hbo2];exact hbh
    refine QQ ?_ λb hb hOb=>?_
    ·rw[hol];exact .inl ⟨by simp[hol],.inr ⟨bo,p2.length,_,rfl,pY _,hbW',qb _,by unfold maxLen;omega,by simp[hol],by simp[hol];exact qS (by simp[hol])⟩⟩
    ·have:b=bo:=by
      by_cases h:p2.length=0
      ·simp[Ac,h]at hb
      ·simp[Ac,h]at hb;exact hb.symm
     have:=hO b hOb;omega
   case Ef =>
    intro D W' us' hD hI hd;refine HD.out _ W' us' D ⟨rfl,rfl,rfl,rfl,rfl,rfl,rfl,rfl,rfl,rfl⟩ ?_ ⟨by rw[hMk.eq];rfl,List.nodup_cons.2 ⟨λh=>?_,hMk.nodup⟩,λD' h=>?_⟩
    ·rw[gr hcs];exact hI.tm
    ·have:=(Array.getElem?_eq_some_iff.1 (hMk.at_ D h).2).1;omega
    ·rcases List.mem_cons.1 h with rfl|h
     ·exact⟨by omega,hd⟩
     ·have h1:=hMk.at_ D' h;have:=(Array.getElem?_eq_some_iff.1 h1.2).1;refine⟨h1.1,?_⟩;rw[hI.fix D' (.inr (.inr (.inr (.inr (.inr h))))),hBW.block D' this];exact h1.2
theorem TO{F:Fence}{n N:Nat}{P:Program}{fn:Func}{tmps:Array Value}{R:Ending->World->Prop}(I:World->Prop)(hend:∀w,I w->LeavesInM F n P fn tmps R [] .returning w)
 (hstep:∀w D,N<=D->I w->w.heap[D]?=some (.deferred (some []))->I (w.putObj D (.deferred none))):∀(Ds:List Nat)(w:World),Ds.Nodup->(∀D∈Ds,N<=D/\w.heap[D]?=some (.deferred (some [])))->I w->LeavesInM F n P fn tmps R (Ds.map λD=>{ target:=.collected D,args:=#[] }) .returning w
 | [],w,_,_,h=>hend w h
 | D :: Ds,w,hn,hD,h=>by
   obtain⟨h1,h2⟩:=hD D (.head _);obtain⟨hni,hn⟩:=List.nodup_cons.1 hn;refine⟨by simp,.inl ⟨D,w.putObj D (.deferred none),rfl,run_takeDeferred h2,TO I hend hstep Ds _ hn (λD' h'=>?_) (hstep w D h1 h h2)⟩⟩;obtain⟨k1,k2⟩:=hD D' (.tail _ h');exact⟨k1,(World.putObj_heap_other (λe=>hni (by subst e;exact h'))).trans k2⟩
theorem TM.ucells{O:Nat->Prop}{w0 wr:World}{g cap:Nat}{cv us:List Value}{l:List Aq}(h:TM O w0 wr g cap cv us l){i b:Nat}{u:Value}(hi:us[i]?=some u)(hb:Ac u=some b):∃c T f,wr.heap[b]?=some (.cells c T f):=by
 have hil:i<l.length:=by rw[<-h.len];exact A5 hi
 obtain⟨hr,_⟩:=h.row i l[i] u (P2 hil) hi;rcases Dh hr with⟨_,_,a,hv⟩|⟨g',cap',cur,hv,hcp,hb',_⟩
 ·rw[hv]at hb
  cases a<;>simp[Ac]at hb
 ·rw[hv]at hb;simp[Ac,hcp]at hb;subst hb;exact⟨_,_,_,hb'⟩
theorem ek{O:Nat->Prop}{w:World}{g cap:Nat}{cv us:List Value}{l:List Aq}(hg:g<w.heap.size)(hgO:¬O g)(hle:l.length<=cap)(hne:0<l.length)(hcv:cv.length=l.length)(hus:us.length=l.length)
 (hcells:∀(j:Nat) c v u,l[j]?=some c->cv[j]?=some v->us[j]?=some u->Fx w g j v u c) (hcodes:∀(j:Nat) c v,l[j]?=some c->cv[j]?=some v->Aw O w v (An 1 (D.int .i64) c.Q)) (hrow:∀(j:Nat) c u,l[j]?=some c->us[j]?=some u->Aw O w u (An 1 (D.int .i64) c.G)) :
 Aw O w (.slice (some ⟨g,0,none⟩) l.length cap) (An 7 A6 l):=by
 have e:=Aw.list (O:=O) (w:=w) g 0 cap 7 (l.map A6) (λi k=>(w.cell? ⟨g,i*7+k,none⟩).getD undef) (by cases l with|nil=>simp at hne|cons=>simp) hg hgO (by simpa using hle)
  (λx hx=>by obtain⟨r,_,rfl⟩:=List.mem_map.1 hx;rfl) (λx hx y hy=>by obtain⟨r,_,rfl⟩:=List.mem_map.1 hx;simp[D.cells,A6]at hy;rcases hy with rfl|rfl|rfl|rfl|rfl|rfl|rfl<;>rfl)
  (λi x k y hx hy=>by
   rw[ql]at hx
   cases hi:l[i]? with
   | none=>simp[hi]at hx
   | some z =>
     simp[hi]at hx;subst hx;have hil:=A5 hi;have h7:=hcells i z cv[i] us[i] hi (P2 (by omega)) (P2 (by omega));rw[qy]
     match k,hy with
     | 0,hy=>rw[qY,h7.c0];rfl
     | 1,hy=>rw[h7.c1];rfl
     | 2,hy=>rw[h7.c2];rfl
     | 3,hy=>rw[h7.c3];rfl
     | 4,hy=>rw[h7.c4];rfl
     | 5,hy=>rw[h7.c5];rfl
     | 6,hy=>rw[h7.c6];rfl
     | k+7,hy=>simp[D.cells,A6]at hy)
  (λi x k y hx hy=>by
   rw[ql]at hx
   cases hi:l[i]? with
   | none=>simp[hi]at hx
   | some z =>
     simp[hi]at hx;subst hx;have hil:=A5 hi;have a1:cv[i]?=some cv[i]:=P2 (by omega);have a2:us[i]?=some us[i]:=P2 (by omega);have h7:=hcells i z cv[i] us[i] hi a1 a2
     match k,hy with
     | 0,hy=>obtain rfl:=P3 hy;show Aw O w ((w.cell? ⟨g,i*7,none⟩).getD undef) _;rw[h7.c0];exact hcodes i z _ hi a1
     | 1,hy=>obtain rfl:=P3 hy;show Aw O w ((w.cell? ⟨g,i*7+1,none⟩).getD undef) _;rw[h7.c1];exact .int _ _
     | 2,hy=>obtain rfl:=P3 hy;show Aw O w ((w.cell? ⟨g,i*7+2,none⟩).getD undef) _;rw[h7.c2];exact .int _ _
     | 3,hy=>obtain rfl:=P3 hy;show Aw O w ((w.cell? ⟨g,i*7+3,none⟩).getD undef) _;rw[h7.c3];exact .int _ _
     | 4,hy=>obtain rfl:=P3 hy;show Aw O w ((w.cell? ⟨g,i*7+4,none⟩).getD undef) _;rw[h7.c4];exact .int _ _
     | 5,hy=>obtain rfl:=P3 hy;show Aw O w ((w.cell? ⟨g,i*7+5,none⟩).getD undef) _;rw[h7.c5];exact .int _ _
     | 6,hy=>obtain rfl:=P3 hy;show Aw O w ((w.cell? ⟨g,i*7+6,none⟩).getD undef) _;rw[h7.c6];exact hrow i z _ hi a2
     | k+7,hy=>simp[D.cells,A6]at hy)
 simpa using e
theorem pB{P:Program}{c:Code}{Q:Exit->Act->World->Prop}{K0:Act->World->Prop}{a:Act}{w:World}(r:Code)(hK:∀a w,r.wp P Q a w->K0 a w)(h:∀K:Act->World->Prop,K=(λa w=>r.wp P Q a w)->c.wp P (Exit.then K Q) a w):c.wp P (Exit.then K0 Q) a w :=
 wp_mono (h _ rfl) λe a w q=>by
  cases e
  case normal=>exact hK a w q
  all_goals exact q
theorem ac(w:World)(o:Obj)(n:Nat)(h:n=w.heap.size):(w.alloc o).heap[n]?=some o:=h▸heap_alloc_new w o
theorem TM.ublt{O:Nat->Prop}{w0 wr:World}{g cap:Nat}{cv us:List Value}{l:List Aq}(h:TM O w0 wr g cap cv us l){i b:Nat}{u:Value}(hi:us[i]?=some u)(hb:Ac u=some b):b<wr.heap.size:=by
 have hil:i<l.length:=by rw[<-h.len];exact A5 hi
 obtain⟨hr,_⟩:=h.row i l[i] u (P2 hil) hi;rcases Dh hr with⟨_,_,a,hv⟩|⟨g',cap',cur,hv,hcp,hb',_⟩
 ·rw[hv]at hb
  cases a<;>simp[Ac]at hb
 ·rw[hv]at hb;simp[Ac,hcp]at hb;subst hb;exact CP hb'
theorem pM{K K':Act->World->Prop}{a:Act}{w:World}(h:∀a w,K' a w->K a w)(x:K' a w):K a w:=h a w x
@[reducible] def nZ(p0:Aa)(p1:As)(p2 x64:List Ad)(p3:Int)(x89:List Int)(k78:List Aq):AS :=
  CJ 149 [(2,.d (An 2 Ag p2)),(5,.ptr 5 1 0),(6,.ptr 6 1 0),(8,.ptr 8 1 0),(10,.ptr 10 1 0),(16,.ptr 16 1 0),(89,.d (An 1 (D.int .i64) x89)),(90,.d (.int .i64 (x89.length:Int))),(91,.d (.int .i64 0))] [(5,.var [.d (An 2 Ah p0.J),.d (An 7 Al p0.A)],1),(6,.var [.d (.str p1.Af),.d (.int .i64 p1.Ag),.d (An 2 Ag p1.X),.d (An 1 (An 1 (D.int .i64)) p1.G)],1),(8,.var [.d (.int .i64 p3)],1),(10,.var [.d (.nil 2),.d (.int .i64 0),.d (.nil 7)],1),(16,.var [.d (An 2 Ag x64),.d (.int .i64 p3),.sl 78 1],1),(78,.row 7 141 (List.map BM k78),1)]
theorem hZ(TV:∀(p0:Aa)(p1:As)(p2:List Int)(p3:Int)(R:List Int),BK p0 p1 p2 p3=some R->Ax prog 108 [.d (Cq p0),.d (Do p1),.d (An 1 (D.int .i64) p2),.d (.int .i64 p3)] (.d (An 1 (D.int .i64) R)))
 (TK:∀(p0:Aa)(p1:As)(p2 p3 p4:Int)(R:Int×Bool),BC p0 p1 p2 p3 p4=some R->Ax prog 114 [.d (Cq p0),.d (Do p1),.d (.int .i64 p2),.d (.int .i64 p3),.d (.int .i64 p4)] (.tup [.d (.int .i64 R.1),.d (.bool R.2)]))
 (TN:∀(p0 p1:List Int)(R:Bool),Ct p0 p1=some R->Ax prog 190 [.d (An 1 (D.int .i64) p0),.d (An 1 (D.int .i64) p1)] (.d (.bool R)))
 {p0:Aa} {p1:As} {p2 x64:List Ad} {p3:Int} {x89:List Int} {k78 y2:List Aq} (hy:Lj p0 p1 p2 p3 x89 k78=some y2)
 {X:Cx} {β:Nat->Value} {a:Act} {w:World} (hM:∀b,¬X.M b) (hb:X.w₀.heap.size=X.base)
 (hs:SimB X (λ_=>False) β (nZ p0 p1 p2 x64 p3 x89 k78) a w) :
 (jg 10 Ww).1.wp prog (Exit.then ((jg 10 Ww).2.wp prog (N2 prog f55 (.tup [.d (Hc { Ac:=x64,Ah:=p3,Av:=y2 }),.d (.int .i64 0)]) X)) (N2 prog f55 (.tup [.d (Hc { Ac:=x64,Ah:=p3,Av:=y2 }),.d (.int .i64 0)]) X)) a w:=by
 obtain⟨hr0,hy⟩:=Vv hy;obtain⟨hr0,hr1⟩:=Bool.and_eq_true_iff.1 hr0;obtain⟨hn89,hn2,hn78,hp78⟩:=pZ hr0;have hnil:∀c∈k78,c.G=[]:=λc hc=>List.isEmpty_iff.1 (List.all_eq_true.1 hr1 c hc);obtain⟨tm,df⟩:=a;have hsz:tm.size=149:=hs.len;obtain rfl:df=[]:=hs.df;have tv:∀t,t<149->∃v,tm[t]?=some v:=λt h=>⟨tm[t]'(by omega),qN (by omega)⟩;obtain⟨v2,s2⟩:=tv 2 (by omega);obtain⟨v5,s5⟩:=tv 5 (by omega);obtain⟨v6,s6⟩:=tv 6 (by omega);obtain⟨v8,s8⟩:=tv 8 (by omega);obtain⟨v10,s10⟩:=tv 10 (by omega);obtain⟨v16,s16⟩:=tv 16 (by omega);obtain⟨v89,s89⟩:=tv 89 (by omega);obtain⟨v90,s90⟩:=tv 90 (by omega);obtain⟨v91,s91⟩:=tv 91 (by omega);obtain⟨b5,_,_,e5,_,_,c5⟩:=Pj hs 5 rfl;obtain⟨b6,_,_,e6,_,_,c6⟩:=Pj hs 6 rfl;obtain⟨b8,_,_,e8,_,_,c8⟩:=Pj hs 8 rfl;obtain⟨b10,cv10,T10,e10,hcv10,z10,c10⟩:=Pj hs 10 rfl;obtain⟨b16,cv16,T16,e16,hcv16,zcv16,c16⟩:=Pj hs 16 rfl;obtain⟨x50,q50,k50,_⟩:=c5 0 _ rfl;obtain⟨x51,q51,k51,_⟩:=c5 1 _ rfl;obtain⟨x60,q60,k60,_⟩:=c6 0 _ rfl;obtain⟨x61,q61,k61,_⟩:=c6 1 _ rfl;obtain⟨x62,q62,k62,_⟩:=c6 2 _ rfl;obtain⟨x63,q63,k63,_⟩:=c6 3 _ rfl;obtain⟨x80,q80,k80,_⟩:=c8 0 _ rfl;obtain rfl:=AJ k80;obtain⟨x160,q160,k160,_⟩:=c16 0 _ rfl;obtain⟨x161,q161,k161,_⟩:=c16 1 _ rfl;obtain rfl:=AJ k161;obtain⟨a160,c160,_,_,e160,_⟩:=Xl k160;subst e160;obtain⟨x100,q100,_⟩:=c10 0 _ rfl;obtain⟨x101,q101,_⟩:=c10 1 _ rfl;obtain⟨x102,q102,_⟩:=c10 2 _ rfl;obtain⟨u16,q16,k16⟩:=c16 2 _ rfl;have k16:u16=β 78:=k16.2 rfl
 have dS:Aw (OS β X _) w (.agg #[x50,x51]) (Cq p0):=.agg _ _ rfl (by simp[D.one]) λi v x hv hx=>by
  match i,hv,hx with
  | 0,hv,hx=>simp at hv hx;subst hv;subst hx;exact k50
  | 1,hv,hx=>simp at hv hx;subst hv;subst hx;exact k51
  | i+2,hv,hx=>simp at hv
 have dX:Aw (OS β X _) w (.agg #[x60,x61,x62,x63]) (Do p1):=.agg _ _ rfl (by simp[D.one]) λi v x hv hx=>by
  match i,hv,hx with
  | 0,hv,hx=>simp at hv hx;subst hv;subst hx;exact k60
  | 1,hv,hx=>simp at hv hx;subst hv;subst hx;exact k61
  | 2,hv,hx=>simp at hv hx;subst hv;subst hx;exact k62
  | 3,hv,hx=>simp at hv hx;subst hv;subst hx;exact k63
  | i+4,hv,hx=>simp at hv
 have ptr:∀(t q b:Nat)(v:Value),v=.pointer (some ⟨b,0,none⟩)->True:=λ_ _ _ _ _=>trivial;obtain⟨_,r5,t5⟩:=Pi hs 5 s5 rfl rfl;obtain⟨_,r6,t6⟩:=Pi hs 6 s6 rfl rfl;obtain⟨_,r8,t8⟩:=Pi hs 8 s8 rfl rfl;obtain⟨_,r10,t10⟩:=Pi hs 10 s10 rfl rfl;obtain⟨_,r16,t16⟩:=Pi hs 16 s16 rfl rfl;have r5:=e5.symm.trans r5;have r6:=e6.symm.trans r6;have r8:=e8.symm.trans r8;have r10:=e10.symm.trans r10;have r16:=e16.symm.trans r16;simp at r5 r6 r8 r10 r16;subst r5;subst r6;subst r8;subst r10;subst r16;have d2:=VT hs 2 s2 rfl;have d89:=VT hs 89 s89 rfl;obtain⟨a89,c89,b89,o89,t89,h89⟩:=GQ d89;obtain rfl:=AJ (VT hs 90 s90 rfl);obtain rfl:=AJ (VT hs 91 s91 rfl);have hbx:I3 β _ _ w 78 (.row 7 141 (List.map BM k78)):=hs.boxes 78;obtain⟨_,_,vals,hrow,hL⟩:=hbx;rw[pX,<-k16]at hrow;have hMo:=U8 hs 78 rfl;rw[<-k16]at hMo
 obtain⟨g,cap,cur,eu,hcp,hg,hg1,hg2,hg3,hg4,_⟩:∃g cap cur,u16=.slice (some ⟨g,0,none⟩) k78.length cap/\cap≠0/\w.heap[g]?=some (.cells cur 141 (0,0))/\k78.length<=cap/\cap<=maxLen/\cur.size=cap*7/\cur.toList.take (k78.length*7)=vals/\vals.length=k78.length*7:=by
  rcases Dh hrow with⟨h0,_⟩|⟨g,cap,cur,h⟩
  ·omega
  ·exact⟨g,cap,cur,h⟩
 have hug:Ac u16=some g:=by rw[eu];simp[Ac,hcp]
 have hO:=hMo g hug;obtain⟨cv,us0,hT,hnb⟩:=TM.start hg hO hg1 hg2 hg3 hg4 hL hnil
 have nq:∀q b,q≠78->q<149->(Af (nZ p0 p1 p2 x64 p3 x89 k78) q).box.owned=true->β q=.pointer (some ⟨b,0,none⟩)->b≠g:=λq b hne _ ho he hbg=>by
  subst hbg;exact hne (hs.inj q 78 b ho rfl (by rw[he];rfl) (by rw[<-k16];exact hug))
 have n5:=nq 5 b5 (by omega) (by omega) rfl e5;have n6:=nq 6 b6 (by omega) (by omega) rfl e6;have n8:=nq 8 b8 (by omega) (by omega) rfl e8;have n10:=nq 10 b10 (by omega) (by omega) rfl e10;have n16:=nq 16 b16 (by omega) (by omega) rfl e16
 have hval:=λ(row v:Int)(vs:List Int)(hv:BK p0 p1 [row] p3=some vs)=>λwr (hk:A7 w.heap.size (λb=>b=g) w wr) (rv:Value) (hrv:Aw (OS β X _) wr rv (An 1 (D.int .i64) [row]))=>SI (TV p0 p1 [row] p3 vs hv) hs (M:=λb=>b=g) (λb hb=>hb▸hO) hk #[.agg #[x50,x51],.agg #[x60,x61,x62,x63],rv,.int .i64 p3] rfl λi v x hv hx=>by
  match i,hv,hx with
  | 0,hv,hx=>simp at hv hx;subst hv;subst hx;exact dS.mono ⟨hk.size,λ_ _ h=>h,λb hlt hb=>hk.block b hlt λhm=>hb (hm▸hO)⟩
  | 1,hv,hx=>simp at hv hx;subst hv;subst hx;exact dX.mono ⟨hk.size,λ_ _ h=>h,λb hlt hb=>hk.block b hlt λhm=>hb (hm▸hO)⟩
  | 2,hv,hx=>simp at hv hx;subst hv;subst hx;exact hrv
  | 3,hv,hx=>simp at hv hx;subst hv;subst hx;exact .int _ _
  | i+4,hv,hx=>simp at hv
 have hkno:=λ(row c l:Int)(v:Int×Bool)(hv:BC p0 p1 row c l=some v)=>λwr (hk:A7 w.heap.size (λb=>b=g) w wr)=>Y8 (TK p0 p1 row c l v hv) hs (M:=λb=>b=g) (λb hb=>hb▸hO) hk #[.agg #[x50,x51],.agg #[x60,x61,x62,x63],.int .i64 row,.int .i64 c,.int .i64 l] rfl λi v x hv hx=>by
  match i,hv,hx with
  | 0,hv,hx=>simp at hv hx;subst hv;subst hx;exact dS
  | 1,hv,hx=>simp at hv hx;subst hv;subst hx;exact dX
  | 2,hv,hx=>simp at hv hx;subst hv;subst hx;exact .int _ _
  | 3,hv,hx=>simp at hv hx;subst hv;subst hx;exact .int _ _
  | 4,hv,hx=>simp at hv hx;subst hv;subst hx;exact .int _ _
  | i+5,hv,hx=>simp at hv
 subst t5;subst t6;subst t8;subst t10;subst t16;subst t89;subst eu;have K16:Aside _:=k16;have K160:Aside _:=k160;have HF0:eE v2 (.pointer (some ⟨b5,0,none⟩)) (.pointer (some ⟨b6,0,none⟩)) (.pointer (some ⟨b8,0,none⟩)) (.pointer (some ⟨b10,0,none⟩)) (.pointer (some ⟨b16,0,none⟩)) (.slice a89 x89.length c89) x89.length 0 tm:=⟨hsz,s2,s5,s6,s8,s10,s16,s89,s90,s91⟩;show Code.wp _ (Code.block _ (Code.loop _)) _ _ _;refine wp_block ?_;have HY:Aside _:=hy;have HS:Aside _:=hs;have HT:Aside _:=hT;have HNB:Aside _:=hnb;have HV:Aside _:=hval;have HK:Aside _:=hkno;have H89:Aside _:=h89;have HX63:Aside _:=k63;have HD2:Aside _:=d2;have HMB:Aside (_/\_):=⟨hM,hb⟩;have HO:Aside _:=hO;clear k16 k160 hy hT hnb hval hkno h89 k63 d2 dS dX hM hb hO nq c5 c6 c8 c10 c16 k50 k51 k60 k61 k62 hrow hL hMo ptr tv d89 hr0 hr1 hnil
 refine wp_loop_ghost_k (λm a W=>∃(k:Nat)(us:List Value)(cs:List Aq)(tm:Array Value)(Ds:List Nat)(ds:List Deferred),a={ tmps:=tm,defers:=ds }/\Aside (eE v2 (.pointer (some ⟨b5,0,none⟩)) (.pointer (some ⟨b6,0,none⟩)) (.pointer (some ⟨b8,0,none⟩)) (.pointer (some ⟨b10,0,none⟩)) (.pointer (some ⟨b16,0,none⟩)) (.slice a89 x89.length c89) x89.length k tm/\k<=x89.length/\m=x89.length-k/\Fe p0 p1 p2 p3 (x89.drop k) cs=some y2/\cs.length=k78.length/\TM (OS β X (nZ p0 p1 p2 x64 p3 x89 k78)) w W g cap cv us cs/\iM w.heap.size Ds ds W))
  x89.length ⟨0,us0,k78,tm,[],[],rfl,HF0,pY _,rfl,HY.out,rfl,HT.out,rfl,List.nodup_nil,λ_ h=>by cases h⟩ ?_
 rintro m a W ⟨k,us,cs,tm,Ds,ds,rfl,hI⟩ J K hJ hK;have HI:Aside _:=hI;have HJ:Aside _:=hJ;have HKK:Aside _:=hK;clear hI hJ hK HF0 hsz s2 s5 s6 s8 s10 s16 s89 s90 s91;have hsz:=HI.out.1.size;have s2:=HI.out.1.s2;have s5:=HI.out.1.s5;have s6:=HI.out.1.s6;have s8:=HI.out.1.s8;have s10:=HI.out.1.s10;have s16:=HI.out.1.s16;have s89:=HI.out.1.s89;have s90:=HI.out.1.s90;have s91:=HI.out.1.s91;obtain⟨l0,rfl⟩:∃l:List Value,tm=l.toArray:=⟨tm.toList,by simp⟩;have h0:l0.length=149:=by simpa using hsz
 iterate 18 (replace h0:=TP h0;obtain⟨_,_,_,_,_,_,_,_,l0,rfl,h0⟩:=h0)
 iterate 5 (replace h0:=DV h0;obtain⟨_,l0,rfl,h0⟩:=h0)
 obtain rfl:=List.length_eq_zero_iff.1 h0;clear hsz h0;simp only[rJ,rM,qD,Option.some.injEq]at s2 s5 s6 s8 s10 s16 s89 s90 s91;subst s2;subst s5;subst s6;subst s8;subst s10;subst s16;subst s89;subst s90;subst s91;by_cases hk:k<x89.length
 ·have hkz:(k:Int)<(x89.length:Int):=by omega
  obtain⟨hFr,_,_,hy1,hcl,hT,hMk⟩:=HI.out;rw[Yz hk]at hy1;simp only[Fe]at hy1;obtain⟨v,hv,hy1⟩:=Option.bind_eq_some_iff.1 hy1;obtain⟨own,hown,hy1⟩:=Option.bind_eq_some_iff.1 hy1;obtain⟨l,hl,hy1⟩:=Option.bind_eq_some_iff.1 hy1;obtain⟨key,hkey,hy1⟩:=Option.bind_eq_some_iff.1 hy1;obtain⟨cs1,hcs,hyR⟩:=Option.bind_eq_some_iff.1 hy1;obtain⟨e89,m89,lt89,g89⟩:=H89.out k hk;have hk0:=hT.keep;have kc:∀(b o:Nat)(v:Value),b≠g->w.cell? ⟨b,o,none⟩=some v->W.cell? ⟨b,o,none⟩=some v:=λb o v hne h=>(D9 hk0 (World.block_lt_of_cell? _ _ h) hne).trans h;have n89:b89≠g:=λe=>m89 (by rw[e];exact hT.ng);have f89c:=kc _ _ _ n89 g89;have d50:=kc _ _ _ n5 q50;have d51:=kc _ _ _ n5 q51;have d60:=kc _ _ _ n6 q60;have d61:=kc _ _ _ n6 q61;have d62:=kc _ _ _ n6 q62;have d63:=kc _ _ _ n6 q63;have d80:=kc _ _ _ n8 q80;subst e89;generalize hrw:x89.getD k 0=row at *;have hgW:g<W.heap.size:=hT.glt
  have a2:∀(b o:Nat)(v:Value),W.cell? ⟨b,o,none⟩=some v->∀o1 o2,((W.alloc o1).alloc o2).cell? ⟨b,o,none⟩=some v:=λb o v h o1 o2=>by
   have:=World.block_lt_of_cell? _ _ h;rw[World.cell?_alloc_lt _ _ _ (by simp only at this ⊢;simp;omega),World.cell?_alloc_lt _ _ _ this];exact h
  have a3:∀(b o:Nat)(v:Value),W.cell? ⟨b,o,none⟩=some v->∀o1 o2 o3,(((W.alloc o1).alloc o2).alloc o3).cell? ⟨b,o,none⟩=some v:=λb o v h o1 o2 o3=>by
   have:=World.block_lt_of_cell? _ _ h;rw[World.cell?_alloc_lt _ _ _ (by simp only at this ⊢;simp;omega)];exact a2 b o v h o1 o2
  have f80:=a2 _ _ _ d80;have f83:=a3 _ _ _ d80;have f50:=a2 _ _ _ d50;have f51:=a2 _ _ _ d51;have f60:=a2 _ _ _ d60;have f61:=a2 _ _ _ d61;have f62:=a2 _ _ _ d62;have f63:=a2 _ _ _ d63
  have hin:∀(a b:List Int)(r:Bool),Ct a b=some r->∀(va vb:Value) wr,A7 w.heap.size (λb=>b=g) w wr->Aw (OS β X (nZ p0 p1 p2 x64 p3 x89 k78)) wr va (An 1 (D.int .i64) a)->Aw (OS β X (nZ p0 p1 p2 x64 p3 x89 k78)) wr vb (An 1 (D.int .i64) b)->Calls prog 190 #[va,vb] wr λe w'=>e=.returned (.bool r)/\RowKit.Below wr.heap.size wr w':=λa b r h va vb wr hkk ha hb=>(SI (TN a b r h) HS.out (M:=λb=>b=g) (λb hb=>hb▸HO.out) hkk #[va,vb] rfl (λi v x hv hx=>by
   match i,hv,hx with
   | 0,hv,hx=>simp at hv hx;subst hv;subst hx;exact ha
   | 1,hv,hx=>simp at hv hx;subst hv;subst hx;exact hb
   | i+2,hv,hx=>simp at hv)).mono λe w' ⟨v,he,hbl,hr⟩=>by
     obtain rfl:v=.bool r:=Ec hr;exact⟨he,hbl⟩
  have hkn:∀(c lv:Int)(v:Int×Bool),BC p0 p1 row c lv=some v->∀wr,A7 w.heap.size (λb=>b=g) w wr->Calls prog 114 #[.agg #[x50,x51],.agg #[x60,x61,x62,x63],.int .i64 row,.int .i64 c,.int .i64 lv] wr λe w'=>e=.returned (.tuple #[.int .i64 v.1,.bool v.2])/\RowKit.Below wr.heap.size wr w':=λc lv v h wr hkk=>(HK.out row c lv v h wr hkk).mono λe w' ⟨v',he,hbl,hr⟩=>by
   obtain⟨vs,rfl,hsz,hat,_⟩:=hr;have hsz:vs.size=2:=hsz;have h0:vs[0]=.int .i64 v.1:=AJ (hat 0 vs[0] _ (by simp) rfl);have h1:vs[1]=.bool v.2:=Ec (hat 1 vs[1] _ (by simp) rfl);refine⟨?_,hbl⟩;rw[he]
   have:vs=#[.int .i64 v.1,.bool v.2]:=by
    apply Array.ext
    ·simpa using hsz
    ·intro i h1' h2'
     match i,h1' with
     | 0,_=>exact h0
     | 1,_=>exact h1
     | i+2,h=>omega
   rw[this]
  have rest:=λ(Q:Exit->Act->World->Prop)(Br Bv:Nat)(tm:Array Value)(W2:World)=>kO (Q:=Q) (g:=g) (cap:=cap) (cv:=cv) (v89:=.slice (some ⟨b89,o89,none⟩) x89.length c89) (Ds:=Ds) (ds:=ds) (p2:=p2) (us:=us) (Br:=Br) (Bv:=Bv) (n:=x89.length) (k:=k) (value:=v) (tm:=tm) (W:=W2) (b10:=b10) (gc:=cap) hown hl hkey hcs hn2 (by omega) hkn hin (λb hb=>HS.out.os_lt hb) HD2.out HX63.out q50 q51 q60 q61 q62 q63 q80 (by rw[hcl];exact q16) n5 n6 n8 n16;have REST:Aside _:=rest;have HCL:Aside (cs1.length=cs.length):=(Tw cs cs1 hcs).2.1;have HA1:Aside (_/\_/\_/\_/\_/\_/\_):=⟨hFr,hcl,hT,hMk,hyR,hk0,hgW⟩;have HV1:Aside _:=hv;clear rest hkn hin hFr hcl hT hMk hown hl hkey hcs hy1 hyR hk0 kc a2 a3 hv hgW
  go_upto_if 96 with fail
  refine pB kH (by assumption) λK1 HK1=>?_;by_cases hp3:0<=p3
  ·obtain⟨vs,hvs,hv0⟩:∃vs,BK p0 p1 [row] p3=some vs/\idx vs 0=some v:=by
    have hva:=HV1.out;unfold If at hva;rw[show decide (0<=p3)=true from qh hp3]at hva;obtain⟨vs,hvs,hva⟩:=Option.bind_eq_some_iff.1 hva;exact⟨vs,hvs,hva⟩
   obtain⟨hFr,hcl,hT,hMk,hy1,hk0,hgW⟩:=HA1.out;have hsW:=hk0.size
   have hc3:=HV.out row 0 vs hvs (((W.alloc (.cells #[.int .i64 row] 3)).alloc (.cells #[.int .i64 0] 3)).alloc (.cells #[.int .i64 row] 3)) (((hT.keepS (Hv _ _)).keepS (Hv _ _)).keepS (Hv _ _)).keep (.slice (some ⟨W.heap.size+1+1,0,none⟩) 1 1)
    (QQ (l:=[row]) (.inl ⟨rfl,.inr ⟨W.heap.size+1+1,1,#[.int .i64 row],rfl,pY _,ac _ _ _ (by simp),qb _,by decide,rfl,rfl⟩⟩) (λb hb hO=>by
     have:=HS.out.os_lt hO;simp[Ac]at hb;omega))
   have haf:∀(O':Nat->Prop) w2 rv,RowKit.Below (((W.alloc (.cells #[.int .i64 row] 3)).alloc (.cells #[.int .i64 0] 3)).alloc (.cells #[.int .i64 row] 3)).heap.size (((W.alloc (.cells #[.int .i64 row] 3)).alloc (.cells #[.int .i64 0] 3)).alloc (.cells #[.int .i64 row] 3)) w2->Aw O' w2 rv (An 1 (D.int .i64) vs)->∃b o c,rv=.slice (some ⟨b,o,none⟩) vs.length c/\0<vs.length/\w2.cell? ⟨b,o,none⟩=some (.int .i64 v)/\w2.cell? ⟨W.heap.size+1,0,none⟩=some (.int .i64 0)/\w2.frozen? ⟨W.heap.size+1,0,none⟩=false:=λO' w2 rv hb2 hr2=>by
    obtain⟨a,c,b,o,e,h⟩:=GQ hr2
    have hl:0<vs.length:=by
     cases vs with
     | nil=>cases hv0
     | cons=>simp
    obtain⟨ea,_,_,hc⟩:=h 0 hl;subst ea
    have hv1:vs.getD 0 0=v:=by
     cases vs with
     | nil=>cases hv0
     | cons x y=>exact P3 hv0
    rw[hv1]at hc
    have e1:w2.heap[W.heap.size+1]?=some (.cells #[.int .i64 0] 3 (0,0)):=by
     rw[hb2.block _ (by simp),blk_alloc_lt _ _ _ (by simp)];exact ac _ _ _ (by simp)
    exact⟨b,o,c,e,hl,hc,by simp[World.cell?,e1],by simp[World.frozen?,e1]⟩
   have HC3:Aside _:=hc3;have HAF:Aside _:=haf;clear hc3 haf hFr hcl hT hMk hy1 hk0 hgW hsW hvs hv0
   go_wp2_with (go_at_call 108;go_loud (refine Calls.mono HC3.out ?_;rintro e w2 ⟨rv,rfl,hb2,hr2⟩;obtain⟨rb,ro,rc,rfl,hl0,c104,cBv,fBv⟩:=HAF.out _ w2 rv hb2 hr2))
   subst HK1;obtain⟨hFr,hcl,hT,hMk,hyZ,hk0,hgW⟩:=HA1.out;have hsW:=hk0.size;have hT3:=(((hT.keepS (Hv W _)).keepS (Hv _ _)).keepS (Hv _ _)).keepS hb2;have hst:∀b,b≠W.heap.size+1->(w2.setCell ⟨W.heap.size+1,0,none⟩ (.int .i64 v)).heap[b]?=w2.heap[b]?:=λb hb=>blk_setCell_other _ _ _ _ hb;refine REST.out _ W.heap.size (W.heap.size+1) _ _ (hT3.mono (hT3.keep.trans ⟨rfl,rfl,rfl,by simp,λk hk _=>hst k (by omega)⟩) (hst g (by omega)) λi u b hi hb hlt=>hst b (by have:=hT.ublt hi hb;omega)) ⟨hMk.eq,hMk.nodup,?hm⟩ ?fr ?e1 ?e2 ?c1 ?c2 hsW (by omega) ?ab ?dn
   case fr=>exact⟨rfl,rfl,rfl,rfl,rfl,rfl,rfl,rfl,rfl,rfl⟩
   case e1=>rfl
   case e2=>rfl
   case hm =>
    intro D h;have hD:=hMk.at_ D h;have hl:=CP hD.2;exact⟨hD.1,(hst D (by omega)).trans ((hb2.block D (by simp;omega)).trans ((blk_alloc_lt _ _ _ (by simp;omega)).trans ((blk_alloc_lt _ _ _ (by simp;omega)).trans ((blk_alloc_lt _ _ _ hl).trans hD.2))))⟩
   case c1 =>
    rw[World.cell?_setCell_far _ _ _ _ (by simp),Gy hb2 (by simp<;>omega),World.cell?_alloc_lt _ _ _ (by simp;omega)];simp
   case c2=>exact World.cell?_setCell_same _ _ _ cBv
   case ab =>
    intro i u b hi hbb;have:=hT.ublt hi hbb;exact⟨by omega,by omega⟩
   case dn =>
    intro tm' W' us' D hF' hT' hM';refine pM (by assumption) ?_;have hsz:=hF'.size;obtain⟨_,f2,f5,f6,f8,f10,f16,f89,f90,f91⟩:=hF';obtain⟨l0,rfl⟩:∃l:List Value,tm'=l.toArray:=⟨tm'.toList,by simp⟩;have h0:l0.length=149:=by simpa using hsz
    iterate 18 (replace h0:=TP h0;obtain⟨_,_,_,_,_,_,_,_,l0,rfl,h0⟩:=h0)
    iterate 5 (replace h0:=DV h0;obtain⟨_,l0,rfl,h0⟩:=h0)
    obtain rfl:=List.length_eq_zero_iff.1 h0;clear hsz h0;simp only[rJ,rM,qD,Option.some.injEq]at f2 f5 f6 f8 f10 f16 f89 f90 f91;subst f2;subst f5;subst f6;subst f8;subst f10;subst f16;subst f89;subst f90;subst f91;have HT2:Aside _:=hT';have HM2:Aside _:=hM';clear hT' hM'
    go_wp2_with fail
    refine HKK.out _ _ (Handed.intro (x89.length-(k+1)) (by omega) (HJ.out _ _ _ ⟨k+1,us',cs1,_,D :: Ds,_,rfl,⟨?_,rfl,rfl,rfl,rfl,rfl,rfl,rfl,rfl,?_⟩,by omega,by rfl,hyZ,HCL.out.trans hcl,HT2.out,HM2.out⟩))
    ·rfl
    ·first|rfl|(simp;done)
  ·go_wp2_with fail
   subst HK1;obtain⟨hFr,hcl,hT,hMk,hyZ,hk0,hgW⟩:=HA1.out;have hva:=HV1.out;unfold If at hva;rw[show decide (0<=p3)=false from qC (by omega)]at hva;obtain rfl:=P3 hva;have hsW:=hk0.size;refine REST.out _ W.heap.size (W.heap.size+1) _ _ ((hT.keepS (Hv W _)).keepS (Hv _ _)) ⟨hMk.eq,hMk.nodup,?hm⟩ ?fr ?e1 ?e2 ?c1 ?c2 hsW (by omega) ?ab ?dn
   case fr=>exact⟨rfl,rfl,rfl,rfl,rfl,rfl,rfl,rfl,rfl,rfl⟩
   case e1=>rfl
   case e2=>rfl
   case hm =>
    intro D h;have hD:=hMk.at_ D h;exact⟨hD.1,(blk_alloc_lt _ _ _ (by simp;exact Nat.lt_succ_of_lt (CP hD.2))).trans ((blk_alloc_lt _ _ _ (CP hD.2)).trans hD.2)⟩
   case c1=>simp
   case c2=>exact World.cell?_alloc_at _ _ _ _ (by simp)
   case ab =>
    intro i u b hi hbb;have:=hT.ublt hi hbb;exact⟨by omega,by omega⟩
   case dn =>
    intro tm' W' us' D hF' hT' hM';refine pM (by assumption) ?_;have hsz:=hF'.size;obtain⟨_,f2,f5,f6,f8,f10,f16,f89,f90,f91⟩:=hF';obtain⟨l0,rfl⟩:∃l:List Value,tm'=l.toArray:=⟨tm'.toList,by simp⟩;have h0:l0.length=149:=by simpa using hsz
    iterate 18 (replace h0:=TP h0;obtain⟨_,_,_,_,_,_,_,_,l0,rfl,h0⟩:=h0)
    iterate 5 (replace h0:=DV h0;obtain⟨_,l0,rfl,h0⟩:=h0)
    obtain rfl:=List.length_eq_zero_iff.1 h0;clear hsz h0;simp only[rJ,rM,qD,Option.some.injEq]at f2 f5 f6 f8 f10 f16 f89 f90 f91;subst f2;subst f5;subst f6;subst f8;subst f10;subst f16;subst f89;subst f90;subst f91;have HT2:Aside _:=hT';have HM2:Aside _:=hM';clear hT' hM'
    go_wp2_with fail
    refine HKK.out _ _ (Handed.intro (x89.length-(k+1)) (by omega) (HJ.out _ _ _ ⟨k+1,us',cs1,_,D :: Ds,_,rfl,⟨?_,rfl,rfl,rfl,rfl,rfl,rfl,rfl,rfl,?_⟩,by omega,by rfl,hyZ,HCL.out.trans hcl,HT2.out,HM2.out⟩))
    ·rfl
    ·first|rfl|(simp;done)
 ·have hkz:¬((k:Int)<(x89.length:Int)):=by omega
  go_wp2_with fail
  obtain⟨hFr,hkl,_,hy1,hcl,hT,hMk⟩:=HI.out;have hk0:=hT.keep;have kc:∀(b o:Nat)(v:Value),b≠g->w.cell? ⟨b,o,none⟩=some v->W.cell? ⟨b,o,none⟩=some v:=λb o v hne h=>(D9 hk0 (World.block_lt_of_cell? _ _ h) hne).trans h;have d160:=kc _ _ _ n16 q160;have d161:=kc _ _ _ n16 q161;have d162:=kc _ _ _ n16 q16;have d100:=kc _ _ _ n10 q100;have d101:=kc _ _ _ n10 q101;have d102:=kc _ _ _ n10 q102;have hW10:W.heap[b10]?=some (.cells cv10 T10 (0,0)):=(hk0.block b10 (CP hcv10) n10).trans hcv10;have f100:W.frozen? ⟨b10,0,none⟩=false:=by simp[World.frozen?,hW10]
  have f101:W.frozen? ⟨b10,1,none⟩=false:=by simp[World.frozen?,hW10]
  have f102:W.frozen? ⟨b10,2,none⟩=false:=by simp[World.frozen?,hW10]
  have HB:Aside (_/\_/\_/\_/\_/\_/\_/\_):=⟨hFr,hkl,hy1,hcl,hT,hMk,hk0,hW10⟩;clear hFr hkl hy1 hcl hT hMk hk0 kc hW10;show Code.wp _ (Code.seq _ _) _ _ _
  go_wp2_with fail
  obtain⟨hFr,hkl,hy1,hcl,hT,hMk,hk0,hW10⟩:=HB.out;have hkn:k=x89.length:=by omega
  rw[hkn,List.drop_length]at hy1;obtain rfl:cs=y2:=P3 hy1;rw[hMk.eq];have hO:=HO.out;have hg0:=HS.out.mine 78 g rfl (by rw[<-K16.out];simp[Ac,hcp]);have hb0:=HS.out.mine 10 b10 rfl (by rw[e10];rfl);have hO10:OS β X (nZ p0 p1 p2 x64 p3 x89 k78) b10:=U8 HS.out 10 rfl b10 (by rw[e10];rfl);have hbl:w.heap.size<=W.heap.size:=hk0.size;have hl10:b10<w.heap.size:=CP hcv10;have hoth:∀b,b≠b10->(((W.setCell ⟨b10,0,none⟩ (.slice a160 x64.length c160)).setCell ⟨b10,1,none⟩ (.int .i64 p3)).setCell ⟨b10,2,none⟩ (.slice (some ⟨g,0,none⟩) k78.length cap)).heap[b]?=W.heap[b]?:=λb hb=>(blk_setCell_other _ _ _ _ hb).trans ((blk_setCell_other _ _ _ _ hb).trans (blk_setCell_other _ _ _ _ hb));have c0:=(World.cell?_setCell_other ((W.setCell ⟨b10,0,none⟩ (.slice a160 x64.length c160)).setCell ⟨b10,1,none⟩ (.int .i64 p3)) ⟨b10,2,none⟩ ⟨b10,0,none⟩ (.slice (some ⟨g,0,none⟩) k78.length cap) (by simp)).trans ((World.cell?_setCell_other (W.setCell ⟨b10,0,none⟩ (.slice a160 x64.length c160)) ⟨b10,1,none⟩ ⟨b10,0,none⟩ (.int .i64 p3) (by simp)).trans (World.cell?_setCell_same W _ (.slice a160 x64.length c160) d100));have c1:=(World.cell?_setCell_other ((W.setCell ⟨b10,0,none⟩ (.slice a160 x64.length c160)).setCell ⟨b10,1,none⟩ (.int .i64 p3)) ⟨b10,2,none⟩ ⟨b10,1,none⟩ (.slice (some ⟨g,0,none⟩) k78.length cap) (by simp)).trans (World.cell?_setCell_same _ _ (.int .i64 p3) ((World.cell?_setCell_other W ⟨b10,0,none⟩ ⟨b10,1,none⟩ (.slice a160 x64.length c160) (by simp)).trans d101));have c2:=World.cell?_setCell_same ((W.setCell ⟨b10,0,none⟩ (.slice a160 x64.length c160)).setCell ⟨b10,1,none⟩ (.int .i64 p3)) ⟨b10,2,none⟩ (.slice (some ⟨g,0,none⟩) k78.length cap) ((World.cell?_setCell_other (W.setCell ⟨b10,0,none⟩ (.slice a160 x64.length c160)) ⟨b10,1,none⟩ ⟨b10,2,none⟩ (.int .i64 p3) (by simp)).trans ((World.cell?_setCell_other W ⟨b10,0,none⟩ ⟨b10,2,none⟩ (.slice a160 x64.length c160) (by simp)).trans d102));have hs3:(((W.setCell ⟨b10,0,none⟩ (.slice a160 x64.length c160)).setCell ⟨b10,1,none⟩ (.int .i64 p3)).setCell ⟨b10,2,none⟩ (.slice (some ⟨g,0,none⟩) k78.length cap)).heap.size=W.heap.size:=by simp
  have ho3:A7 w.heap.size (λb=>b=g\/b=b10) w (((W.setCell ⟨b10,0,none⟩ (.slice a160 x64.length c160)).setCell ⟨b10,1,none⟩ (.int .i64 p3)).setCell ⟨b10,2,none⟩ (.slice (some ⟨g,0,none⟩) k78.length cap)):=⟨hk0.os,hk0.tape,hk0.output,by rw[hs3];exact hbl,λj hj hne=>(hoth j λe=>hne (.inr e)).trans (hk0.block j hj λe=>hne (.inl e))⟩;generalize (((W.setCell ⟨b10,0,none⟩ (.slice a160 x64.length c160)).setCell ⟨b10,1,none⟩ (.int .i64 p3)).setCell ⟨b10,2,none⟩ (.slice (some ⟨g,0,none⟩) k78.length cap))=W3 at *;have hgl:g<w.heap.size:=hT.lt
  have hu10:∀(i:Nat) u b,us[i]?=some u->Ac u=some b->w.heap.size<=b:=λi u b hi hb=>by
   have hil:i<cs.length:=by rw[<-hT.len];exact A5 hi
   exact(hT.row i cs[i] u (P2 hil) hi).2 b hb
  show LeavesInM _ _ _ _ _ _ _ .returning W3;refine TO (N:=w.heap.size) (λw'=>A7 w.heap.size (λb=>b=g\/b=b10) w w'/\w'.heap[g]?=W.heap[g]?/\w'.heap[b10]?=W3.heap[b10]?/\(∀(i:Nat) u b,us[i]?=some u->Ac u=some b->w'.heap[b]?=W.heap[b]?)/\W.heap.size<=w'.heap.size) (λw' hI=>?_) (λw' D hD hI hd=>?_) Ds W3 hMk.nodup (λD hD=>?_) ⟨ho3,hoth g (λe=>by subst e;exact n10 rfl),rfl,λi u b hi hb=>hoth b (by have:=hu10 i u b hi hb;omega),by omega⟩
  ·obtain⟨i1,i2,i3,i4,i5⟩:=hI;have k0:=(World.cell?_of_block (w:=W3) (a:=⟨b10,0,none⟩) i3).trans c0;have k1:=(World.cell?_of_block (w:=W3) (a:=⟨b10,1,none⟩) i3).trans c1;have k2:=(World.cell?_of_block (w:=W3) (a:=⟨b10,2,none⟩) i3).trans c2;obtain⟨hM,hbX⟩:=HMB.out;have hba:=HS.out.hbase;have hg1:X.base<=g:=hg0.1.resolve_right (hM g);have hb1:X.base<=b10:=hb0.1.resolve_right (hM b10);show ∃v,(results _ _).run _ w'=.ok v w'/\_;refine⟨.tuple #[.agg #[.slice a160 x64.length c160,.int .i64 p3,.slice (some ⟨g,0,none⟩) k78.length cap],.int .i64 0],?res,_,rfl,?bel,?rep⟩
   case res =>
    first|(simp[results,f55,asAddr,k0,k1,k2];done)|(unfold results;go_simp;done)
   case bel=>exact⟨i1.os.trans HS.out.below.os,i1.tape.trans HS.out.below.tape,i1.output.trans HS.out.below.output,qt HS.out.below.size i1.size,λj hj=>(i1.block j (by omega) (by omega)).trans (HS.out.below.block j (by omega) (hM j))⟩
   case rep =>
    have hz:∀b v (x:AV),¬Dw v (.tup [.d (Hc { Ac:=x64,Ah:=p3,Av:=cs }),.d (.int .i64 0)]) b:=by
     rintro b v x ⟨vs,i,u,sz,e,ys,_,_,h,_⟩
     match i,h with
     | 0,h=>cases h
     | 1,h=>cases h
     | i+2,h=>simp at h
    generalize hOO:(λb=>X.O b\/Dw (.tuple #[.agg #[.slice a160 x64.length c160,.int .i64 p3,.slice (some ⟨g,0,none⟩) k78.length cap],.int .i64 0]) (.tup [.d (Hc { Ac:=x64,Ah:=p3,Av:=cs }),.d (.int .i64 0)]) b)=OO
    have hOX:∀b,OO b->X.O b:=λb hb=>by
     rw[<-hOO]at hb;exact hb.resolve_right (hz b _ (.d (.int .i64 0)))
    have hKp:B0 (OS β X (nZ p0 p1 p2 x64 p3 x89 k78)) OO w w':=⟨i1.size,λb _ hb=>.inl (hOX b hb),λb hlt hb=>i1.block b hlt λe=>hb (by rcases e with rfl|rfl;exact hO;exact hO10)⟩
    have hnO:∀b,X.base<=b->¬OO b:=λb hb h=>by have:=(HS.out.o₀ b (hOX b h)).1;omega
    refine⟨_,rfl,rfl,λi u x hu hx=>?_,λi j u u' sz e ys sz' e' ys' b h1 h2 h3=>?_⟩
    ·match i,hu,hx with
     | 0,hu,hx =>
       simp at hu hx;subst hu;subst hx;show Aw _ w' _ _;rw[hOO];refine .agg _ _ rfl (by simp[D.one]) λi v x hv hx=>?_
       match i,hv,hx with
       | 0,hv,hx=>simp at hv hx;subst hv;subst hx;exact K160.out.mono hKp
       | 1,hv,hx=>simp at hv hx;subst hv;subst hx;exact .int _ _
       | 2,hv,hx =>
         simp at hv hx;subst hv;subst hx;rw[<-hcl];refine ek (by omega) (hnO g hg1) (by have:=hT.le;omega) (by omega) hT.clen hT.len (λj c v u a1 a2 a3=>(hT.cells j c v u a1 a2 a3).of_block i2) (λj c v a1 a2=>(hT.codes j c v a1 a2).mono hKp) λj c u a1 a2=>?_;obtain⟨r1,r2⟩:=hT.row j c u a1 a2;exact QQ (r1.mono λb _ hbb=>i4 j u b a2 hbb) λb hbb=>hnO b (qt hba (r2 b hbb))
       | i+3,hv,hx=>simp at hv
     | 1,hu,hx =>
       simp at hu hx;subst hu;subst hx;exact .int _ _
     | i+2,hu,hx=>simp at hu
    ·match i,h3 with
     | 0,h=>cases h
     | 1,h=>cases h
     | i+2,h=>simp at h
  ·obtain⟨i1,i2,i3,i4,i5⟩:=hI;have ot:∀b,b≠D->(w'.putObj D (.deferred none)).heap[b]?=w'.heap[b]?:=λb hb=>World.putObj_heap_other hb;refine⟨⟨i1.os,i1.tape,i1.output,by simpa using i1.size,λj hj hne=>(ot j (by omega)).trans (i1.block j hj hne)⟩,(ot g (by omega)).trans i2,(ot b10 (by omega)).trans i3,λi u b hi hb=>(ot b λe=>?_).trans (i4 i u b hi hb),by simpa using i5⟩;subst e;obtain⟨_,_,_,hc⟩:=hT.ucells hi hb;rw[i4 i u b hi hb,hc]at hd
   cases hd
  ·obtain⟨h1,h2⟩:=hMk.at_ D hD;exact⟨h1,(hoth D (by omega)).trans h2⟩
end Go.Proofs.YthchnhoalhbkcaaGreatDoor.P
