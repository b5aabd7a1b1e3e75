/- FD -/
import Derived.Test.YthchnhoalhbkcaaGreatDoorFC
import Derived.Maps.AppendAt
open Go.Proofs.Tryz
set_option linter.unusedVariables false
set_option linter.unusedSimpArgs false
namespace Go.Proofs.YthchnhoalhbkcaaGreatDoor.P
open Go Go.Abs Go.Proofs Go.Deep
theorem DV{α:Type}{l:List α}{n:Nat}(h:l.length=n+1):∃x r,l=x :: r/\r.length=n:=by
 cases l with
 | nil=>cases h
 | cons x r=>exact⟨x,r,rfl,by simpa using h⟩
theorem TP{α:Type}{l:List α}{n:Nat}(h:l.length=n+8):∃a b c d e f g i r,l=a :: b :: c :: d :: e :: f :: g :: i :: r/\r.length=n:=by
 obtain⟨a,l1,rfl,h1⟩:=DV h;obtain⟨b,l2,rfl,h2⟩:=DV h1;obtain⟨c,l3,rfl,h3⟩:=DV h2;obtain⟨d,l4,rfl,h4⟩:=DV h3;obtain⟨e,l5,rfl,h5⟩:=DV h4;obtain⟨f,l6,rfl,h6⟩:=DV h5;obtain⟨g,l7,rfl,h7⟩:=DV h6;obtain⟨i,l8,rfl,h8⟩:=DV h7;exact⟨a,b,c,d,e,f,g,i,l8,rfl,h8⟩
theorem TH{P:Program}{x:Code}{a:Act}{w:World}{R:Act->World->Prop}(h:∀K:Exit->Act->World->Prop,Aside (∀a' w',R a' w'->K .normal a' w')->x.wp P K a w):x.wp P (λe a' w'=>e=.normal/\R a' w') a w:=h _ (λ_ _ hr=>⟨rfl,hr⟩)
theorem Hv(w:World)(o:Obj):RowKit.Below w.heap.size w (w.alloc o):=⟨rfl,rfl,rfl,by simp,λk hk=>blk_alloc_lt w o k hk⟩
theorem VT{X:Cx}{G:Nat->Prop}{β:Nat->Value}{S:AS}{a:Act}{w:World}(h:SimB X G β S a w)(t:Nat){v:Value}{x:D}(hv:a.tmps[t]?=some v)(hx:(Af S t).av=.d x):Aw (OS β X S) w v x:=by
 have:=h.slots t v hv;rw[hx]at this;exact this
theorem mY{X:Cx}{G:Nat->Prop}{β:Nat->Value}{S:AS}{a:Act}{w:World}(h:SimB X G β S a w)(t:Nat){v:Value}{q n:Nat}(hv:a.tmps[t]?=some v)(hx:(Af S t).av=.sl q n)(hn:(Af S q).ver=n):v=β q:=by
 have:=h.slots t v hv;rw[hx]at this;exact this.2 hn.symm
theorem Pi{X:Cx}{G:Nat->Prop}{β:Nat->Value}{S:AS}{a:Act}{w:World}(h:SimB X G β S a w)(t:Nat){v:Value}{q n o:Nat}(hv:a.tmps[t]?=some v)(hx:(Af S t).av=.ptr q n o)(hn:(Af S q).ver=n):∃b,β q=.pointer (some ⟨b,0,none⟩)/\v=.pointer (some ⟨b,o,none⟩):=by
 have:=h.slots t v hv;rw[hx]at this;exact this.2 hn.symm
theorem U8{X:Cx}{G:Nat->Prop}{β:Nat->Value}{S:AS}{a:Act}{w:World}(_:SimB X G β S a w)(q:Nat)(ho:(Af S q).box.owned=true):∀b,Ac (β q)=some b->OS β X S b:=λ_ hb=>.inr (.inr ⟨q,ho,hb⟩)
theorem Pj{X:Cx}{G:Nat->Prop}{β:Nat->Value}{S:AS}{a:Act}{w:World}(h:SimB X G β S a w)(q:Nat){cs:List C}(hx:(Af S q).box=.var cs):∃b vals T,β q=.pointer (some ⟨b,0,none⟩)/\w.heap[b]?=some (.cells vals T (0,0))/\vals.size=cs.length /\
 ∀(j:Nat) c,cs[j]?=some c->∃u,w.cell? ⟨b,j,none⟩=some u/\BQ β (AG S) (OS β X S) w u c:=by
 have:=h.boxes q;rw[hx]at this;obtain⟨b,vals,T,h1,h2,h3,h4⟩:=this;refine⟨b,vals,T,h1,h2,h3,λj c hc=>?_⟩;have hj:j<vals.size:=by rw[h3];exact A5 hc
 exact⟨vals[j],by simp[World.cell?,h2,hj],h4 j _ c (by simp[hj]) hc⟩
theorem _root_.Go.Abs.SimB.conv{X:Cx}{G:Nat->Prop}{β:Nat->Value}{S S':AS}{a:Act}{w:World}(h:SimB X G β S a w)(e:S=S'):SimB X G β S' a w:=e▸h
theorem Xf{q vb:Nat}{x y:B6}{m:Nat}{f:Nat->Nat}:∀(B:Bx)(i:Nat)(u:AV),i≠q->i≠vb->Cn (B.map λp=>if p.1=q then(q,x,m)else if p.1=vb then(vb,y,f p.2.2)else p) i u=Cn B i u
 | [],_,_,_,_=>rfl
 | (s,z,j) :: r,i,u,h1,h2=>by
   have ih:=Xf (q:=q) (vb:=vb) (x:=x) (y:=y) (m:=m) (f:=f) r i u h1 h2;rw[qk];by_cases hq:s=q
   ·rw[qf hq];show(match Nat.beq q i with|true=>_|false=>_)=(match Nat.beq s i with|true=>_|false=>_);have e1:Nat.beq q i=false:=Bool.eq_false_iff.2 λh=>h1 (qG h).symm;rw[hq,e1];exact ih
   ·rw[qi hq];by_cases hv:s=vb
    ·rw[qf hv];show(match Nat.beq vb i with|true=>_|false=>_)=(match Nat.beq s i with|true=>_|false=>_);have e1:Nat.beq vb i=false:=Bool.eq_false_iff.2 λh=>h2 (qG h).symm;rw[hv,e1];exact ih
    ·rw[qi hv];unfold Cn
     cases Nat.beq s i
     ·exact ih
     ·rfl
theorem hX{n q vb:Nat}{x y:B6}{m mv:Nat}{B:Bx}(h1:∀u,Cn (B.map λp=>if p.1=q then(q,x,m)else if p.1=vb then(vb,y,p.2.2)else p) q u=⟨u,x,m⟩)(h2:∀u,Cn (B.map λp=>if p.1=q then(q,x,m)else if p.1=vb then(vb,y,p.2.2)else p) vb u=⟨u,y,mv⟩) :
 ∀i u,i<n->Cn (B.map λp=>if p.1=q then(q,x,m)else if p.1=vb then(vb,y,p.2.2)else p) i u=if i=q then⟨u,x,m⟩else if i=vb then⟨u,y,mv⟩else Cn B i u:=λi u _=>by
 by_cases hq:i=q
 ·rw[qf hq,hq];exact h1 u
 ·rw[qi hq];by_cases hv:i=vb
  ·rw[qf hv,hv];exact h2 u
  ·rw[qi hv];exact Xf (f:=λa=>a) B i u hq hv
theorem Dh{w:World}{e:TypeId}{sz:Nat}{v:Value}{n:Nat}{vals:List Value}(h:Bj w e sz v n vals) :
 (n=0/\vals=[]/\∃a,v=.slice a 0 0) \/
 ∃g cap cur,v=.slice (some ⟨g,0,none⟩) n cap/\cap≠0/\w.heap[g]?=some (.cells cur e (0,0))/\n<=cap/\cap<=maxLen/\cur.size=cap*sz/\cur.toList.take (n*sz)=vals/\vals.length=n*sz:=by
 rcases h with⟨hl,⟨hv,h0⟩|⟨g,cap,cur,hv,_,hb,h1,h2,h3,h4⟩⟩|⟨h0,h1,a,hv⟩
 ·subst h0;exact .inl ⟨rfl,qq (by simpa using hl),none,hv⟩
 ·by_cases hc:cap=0
  ·have hn:n=0:=by omega
   subst hn;subst hc;exact .inl ⟨rfl,qq (by simpa using hl),_,hv⟩
  ·exact .inr ⟨g,cap,cur,hv,hc,hb,h1,h2,h3,h4,hl⟩
 ·exact .inl ⟨h0,h1,_,hv⟩
theorem eJ{w:World}{u:Value}{l:List Int}{x:Int}{vb vc:Nat}(hu:Bj w 3 1 u l.length (l.map (Value.int .i64)))(hl:l.length<=2000000)(hx:w.cell? ⟨vb,0,none⟩=some (.int .i64 x)) :
 ∃u' w',(Builtin.append_ #[30,30] 30 #[u,.slice (some ⟨vb,0,none⟩) 1 vc]).run prog w=.ok u' w'/\Bj w' 3 1 u' (l.length+1) ((l++[x]).map (Value.int .i64))/\A7 w.heap.size (λb=>Ac u=some b) w w' /\
  ∀b,Ac u'=some b->Ac u=some b\/b=w.heap.size:=by
 obtain⟨i0,hi0,hz0,hzs,hzb⟩:=info_parts me
 have hsrc:Src prog i0.size 30 (.slice (some ⟨vb,0,none⟩) 1 vc) 1 [.int .i64 x] w:=by
  rw[hzs]
  exact Src.ofSlice w dA ⟨vb,0,none⟩ 1 vc [.int .i64 x] (by simp) (λj y hj=>by
   match j,hj with
   | 0,hj=>simp at hj;subst hj;exact hx
   | j+1,hj=>simp at hj) (λy hy=>by simp at hy;subst hy;rfl)
 have grown:∀(base:Option Addr)(cap:Nat)(olds:List Value),olds=l.map (Value.int .i64)->u=.slice base l.length cap->cap<l.length+1->(Builtin.firstCells i0.size l.length (.slice base l.length cap)).run prog w.drew=.ok olds.toArray w.drew ->
  ∃u' w',(Builtin.append_ #[30,30] 30 #[u,.slice (some ⟨vb,0,none⟩) 1 vc]).run prog w=.ok u' w'/\Bj w' 3 1 u' (l.length+1) ((l++[x]).map (Value.int .i64))/\A7 w.heap.size (λb=>Ac u=some b) w w' /\
   ∀b,Ac u'=some b->Ac u=some b\/b=w.heap.size:=by
  intro base cap olds ho hu' hcap hold;have hr:=run_append_grow_src w 30 30 30 3 i0 _ dA hi0 hz0 base l.length cap olds hold _ 1 [.int .i64 x] hsrc hcap (by omega) (by rw[hzb];exact growslice_fits hcap (by omega));have hG:=grownCap_ge w (l.length+1) cap 3;have hM:=grownCap_le_maxLen w (l.length+1) cap 3 (by unfold maxLen;omega);refine⟨_,_,by rw[hu'];exact hr,.inl ⟨by simp,.inr ⟨w.heap.size,_,_,rfl,pY _,heap_alloc_new w.drew _,hG,hM,?_,?_⟩⟩,⟨rfl,rfl,rfl,by simp,λk hk _=>blk_alloc_lt w.drew _ _ hk⟩,λb hb=>.inr (by simp[Ac]at hb;exact hb.2.symm)⟩
  ·rw[sX,size_zeroCells,ho];simp[Value.cells];omega
  ·rw[Array.toList_append,ho];show((l.map (Value.int .i64)++[Value.int .i64 x])++_).take _=_;rw[show(l.length+1)*1=(l.map (Value.int .i64)++[Value.int .i64 x]).length by simp,s3];simp
 rcases Dh hu with⟨h0,hv0,a,hu'⟩|⟨g,cap,cur,hu',hc,hb,h1,h2,h3,h4,h5⟩
 ·have hl0:l=[]:=List.map_eq_nil_iff.1 hv0;subst hl0;refine grown a 0 [] rfl hu' (by simp) ?_;rw[hzs]
  cases a with
  | none=>exact run_firstCells_none w.drew 1 0 0 0
  | some a=>exact run_firstCells_some w.drew 1 0 a 0 0 [] (by simp) (λj v hj=>by simp at hj)
 ·by_cases hroom:l.length+1<=cap
  ·have hown:w.ownsRow 0 3 1 u l.length (l.map (Value.int .i64)):=⟨by simp,.inr ⟨g,cap,cur,hu',pY _,hb,h1,h2,by simpa using h3,by simpa using h4⟩⟩
   have hr:=run_append_room (P:=prog) w 30 30 3 i0 dA hi0 g l.length cap cur hb ⟨vb,0,none⟩ 1 vc [.int .i64 x] (by rw[hzs];rfl) (λj y hj=>by
    match j,hj with
    | 0,hj=>simp at hj;subst hj;exact hx
    | j+1,hj=>simp at hj) (λy hy=>by simp at hy;subst hy;rfl) hroom (by rw[hzs,h3];simp;omega)
   have hβ:Ac u=some g:=by rw[hu'];simp[Ac,hc]
   refine⟨_,_,by rw[hu'];exact hr,.inl ⟨by simp,.inr ⟨g,cap,_,rfl,pY _,setRow_heap w g cur _ _ _ hb,hroom,h2,?_,?_⟩⟩,A7.setRow _ w _ (.inr hβ),λb hb'=>.inl (by rw[hβ];simp[Ac,hc]at hb';rw[hb'])⟩
   ·simp only[r9,qz,qL,rj,q8,hzs,h3,List.length_singleton];omega
   ·rw[hzs]at *;have e1:cur.toList.take (l.length*1)=l.map (Value.int .i64):=h4;have e2:(l.length+1)*1=(l.map (Value.int .i64)++[Value.int .i64 x]).length:=by simp
    rw[e2,e1];rw[show(l++[x]).map (Value.int .i64)=l.map (Value.int .i64)++[Value.int .i64 x] by simp];exact s3
  ·refine grown _ cap _ rfl hu' (by omega) ?_;rw[hzs]
   exact run_firstCells_some w.drew 1 l.length ⟨g,0,none⟩ l.length cap (l.map (Value.int .i64)) (by simp) (λj v hj=>by
    rw[Addr.add_lit,qy];have h4':=h4;rw[ry]at h4';rw[<-h4',qB]at hj;split at hj
    ·show w.cell? ⟨g,j,none⟩=_;simp only[World.cell?,hb];simp only[rK,qZ,if_false];rw[<-qJ,hj]
    ·cases hj)
theorem lH{t e:TypeId}{z:Value}{sz bytes:Nat}(ht:prog.underlying t=some (TypeDesc.slice e))(hi:(prog.info? e).map (λi=>(i.zero,i.size,i.bytes))=some (some z,sz,bytes))(hzc:z.cells.size=sz)(hs0:0<sz){w:World}{u:Value}{n:Nat}{vals ws:List Value}{vb vc:Nat}
 (hu:Bj w e sz u n vals) (hn:n<=1000000) (hb1:bytes<=1000) (hws:ws.length=sz) (hw1:∀x∈ws,x.oneCell'=true) (hx:∀(j:Nat) x,ws[j]?=some x->w.cell? ⟨vb,j,none⟩=some x) :
 ∃u' w',(Builtin.append_ #[t,t] t #[u,.slice (some ⟨vb,0,none⟩) 1 vc]).run prog w=.ok u' w'/\Bj w' e sz u' (n+1) (vals++ws)/\A7 w.heap.size (λb=>Ac u=some b) w w' /\
  ∀b,Ac u'=some b->Ac u=some b\/b=w.heap.size:=by
 obtain⟨i0,hi0,hz0,hzs,hzb⟩:=info_parts hi
 have hsrc:Src prog i0.size t (.slice (some ⟨vb,0,none⟩) 1 vc) 1 ws w:=by
  rw[hzs];exact Src.ofSlice w ht ⟨vb,0,none⟩ 1 vc ws (by omega) (λj y hj=>by rw[Addr.add_lit,qy];exact hx j y hj) hw1
 have hvl:vals.length=n*sz:=by
  rcases Dh hu with⟨h0,hv0,_⟩|⟨_,_,_,_,_,_,_,_,_,_,h5⟩
  ·rw[h0,hv0];simp
  ·exact h5
 have hnb:(n+1)*bytes<=140737488355328:=qt (sy (show n+1<=1000001 by omega) hb1) (by decide)
 have grown:∀(base:Option Addr)(cap:Nat),u=.slice base n cap->cap<n+1->(Builtin.firstCells i0.size n (.slice base n cap)).run prog w.drew=.ok vals.toArray w.drew ->
  ∃u' w',(Builtin.append_ #[t,t] t #[u,.slice (some ⟨vb,0,none⟩) 1 vc]).run prog w=.ok u' w'/\Bj w' e sz u' (n+1) (vals++ws)/\A7 w.heap.size (λb=>Ac u=some b) w w' /\
   ∀b,Ac u'=some b->Ac u=some b\/b=w.heap.size:=by
  intro base cap hu' hcap hold;have hr:=run_append_grow_src w t t t e i0 _ ht hi0 hz0 base n cap vals hold _ 1 ws hsrc hcap (by omega) (by rw[hzb];exact growslice_fits hcap hnb);have hG:=grownCap_ge w (n+1) cap e;have hM:=grownCap_le_maxLen w (n+1) cap e (by unfold maxLen;omega);refine⟨_,_,by rw[hu'];exact hr,.inl ⟨by simp[hvl,hws,re],.inr ⟨w.heap.size,_,_,rfl,pY _,heap_alloc_new w.drew _,hG,hM,?_,?_⟩⟩,⟨rfl,rfl,rfl,by simp,λk hk _=>blk_alloc_lt w.drew _ _ hk⟩,λb hb=>.inr (by simp[Ac]at hb;exact hb.2.symm)⟩
  ·rw[sX,size_zeroCells,hzc];simp only[r9,qz,hvl,hws];rw[<-Nat.succ_mul,<-re,show n.succ+(grownCap w (n+1) cap e-(n+1))=grownCap w (n+1) cap e by omega]
  ·rw[Array.toList_append];show((vals++ws)++_).take _=_;rw[show(n+1)*sz=(vals++ws).length by simp[hvl,hws,re],s3]
 rcases Dh hu with⟨h0,hv0,a,hu'⟩|⟨g,cap,cur,hu',hc,hb,h1,h2,h3,h4,h5⟩
 ·subst h0;subst hv0;refine grown a 0 hu' (by simp) ?_;rw[hzs]
  cases a with
  | none=>exact run_firstCells_none w.drew sz 0 0 0
  | some a=>exact run_firstCells_some w.drew sz 0 a 0 0 [] (by simp) (λj v hj=>by simp at hj)
 ·by_cases hroom:n+1<=cap
  ·have hfit:n*i0.size+ws.length<=cur.size:=by
    rw[hzs,h3,hws,<-Nat.succ_mul];exact qU _ hroom
   have hr:=run_append_room (P:=prog) w t t e i0 ht hi0 g n cap cur hb ⟨vb,0,none⟩ 1 vc ws (by rw[hzs,hws,Nat.one_mul]) (λj y hj=>by rw[Addr.add_lit,qy];exact hx j y hj) hw1 hroom hfit;have hβ:Ac u=some g:=by rw[hu'];simp[Ac,hc]
   refine⟨_,_,by rw[hu'];exact hr,.inl ⟨by simp[hvl,hws,re],.inr ⟨g,cap,_,rfl,pY _,setRow_heap w g cur _ _ _ hb,hroom,h2,?_,?_⟩⟩,A7.setRow _ w _ (.inr hβ),λb hb'=>.inl (by rw[hβ];simp[Ac,hc]at hb';rw[hb'])⟩
   ·simp only[r9,qz,qL,rj,q8];rw[h3]at hfit ⊢;omega
   ·rw[hzs];have e1:cur.toList.take (n*sz)=vals:=h4;rw[show(n+1)*sz=(vals++ws).length by simp[hvl,hws,re],e1];exact s3
  ·refine grown _ cap hu' (by omega) ?_;rw[hzs]
   exact run_firstCells_some w.drew sz n ⟨g,0,none⟩ n cap vals hvl (λj v hj=>by
    rw[Addr.add_lit,qy];rw[<-h4,qB]at hj;split at hj
    ·show w.cell? ⟨g,j,none⟩=_;simp only[World.cell?,hb];simp only[rK,qZ,if_false];rw[<-qJ,hj]
    ·cases hj)
theorem Y8{f:FuncId}{args:List AV}{r:AV}(h:Ax prog f args r){X:Cx}{G:Nat->Prop}{β:Nat->Value}{S:AS}{a:Act}{w wr:World}(hs:SimB X G β S a w){M:Nat->Prop}(hM:∀b,M b->OS β X S b)(hk:A7 w.heap.size M w wr)
 (vs:Array Value) (hlen:vs.size=args.length) (hargs:∀(i:Nat) v x,vs[i]?=some v->args[i]?=some x->Ot (OS β X S) w v x) :
 Calls prog f vs wr λe w'=>∃v,e=.returned v/\RowKit.Below wr.heap.size wr w'/\CK (λb=>wr.heap.size<=b) (λb=>OS β X S b\/(w.heap.size<=b/\b<wr.heap.size)) w' v r:=by
 have hkk:B0 (OS β X S) (λb=>OS β X S b\/(w.heap.size<=b/\b<wr.heap.size)) w wr:=⟨hk.size,λb hlt hb=>hb.elim id λh=>by omega,λb hlt hb=>hk.block b hlt λhm=>hb (hM b hm)⟩;exact h.2 (λb=>OS β X S b\/(w.heap.size<=b/\b<wr.heap.size)) wr vs (λb hb=>hb.elim (λh=>qm (hs.os_lt h) hk.size) λh=>h.2) (λg cs hg=>(hs.glob g cs hg).mono hkk) hlen λi v x hv hx=>(hargs i v x hv hx).mono hkk
theorem SI{f:FuncId}{args:List AV}{r:AV}(h:Ax prog f args r){X:Cx}{G:Nat->Prop}{β:Nat->Value}{S:AS}{a:Act}{w wr:World}(hs:SimB X G β S a w){M:Nat->Prop}(hM:∀b,M b->OS β X S b)(hk:A7 w.heap.size M w wr)
 (vs:Array Value) (hlen:vs.size=args.length) (hargs:∀(i:Nat) v x,vs[i]?=some v->args[i]?=some x->Ot (OS β X S) wr v x) :
 Calls prog f vs wr λe w'=>∃v,e=.returned v/\RowKit.Below wr.heap.size wr w'/\CK (λb=>wr.heap.size<=b) (OS β X S) w' v r :=
 h.2 (OS β X S) wr vs (λb hb=>qm (hs.os_lt hb) hk.size) (λg cs hg=>(hs.glob g cs hg).mono ⟨hk.size,λ_ _ h=>h,λb hlt hb=>hk.block b hlt λhm=>hb (hM b hm)⟩) hlen hargs
theorem Zd{a b c:World}(h:RowKit.Below a.heap.size a b)(k:RowKit.Below b.heap.size b c):RowKit.Below a.heap.size a c:=⟨k.os.trans h.os,k.tape.trans h.tape,k.output.trans h.output,qt h.size k.size,λi hi=>(k.block i (qm hi h.size)).trans (h.block i hi)⟩
theorem Gy{a b:World}(h:RowKit.Below a.heap.size a b){c o:Nat}(hc:c<a.heap.size):b.cell? ⟨c,o,none⟩=a.cell? ⟨c,o,none⟩:=World.cell?_of_block (w:=a) (h.block c hc)
structure RM(w0 wr:World)(u0:Value)(T:TypeId)(us:List Value)(vals:List (List Int)):Prop where
 keep:A7 w0.heap.size (λb=>Ac u0=some b) w0 wr
 len:us.length=vals.length
 top:Bj wr T 1 u0 us.length us
 lt:∀b,Ac u0=some b->b<w0.heap.size
 row:∀(j:Nat) u l,us[j]?=some u->vals[j]?=some l->Bj wr 3 1 u l.length (l.map (Value.int .i64))/\∀b,Ac u=some b->w0.heap.size<=b/\b<wr.heap.size
 apart:∀(i j:Nat) u v b,us[i]?=some u->us[j]?=some v->Ac u=some b->Ac v=some b->i=j
section
variable {w0 wr w':World} {u0:Value} {T:TypeId} {us:List Value} {vals:List (List Int)}
theorem RM.keepS(h:RM w0 wr u0 T us vals)(hs:RowKit.Below wr.heap.size wr w'):RM w0 w' u0 T us vals:=by
 have hz:=h.keep.size;refine⟨h.keep.trans ⟨hs.os,hs.tape,hs.output,hs.size,λk hk _=>hs.block k (by omega)⟩,h.len,h.top.mono λb hb _=>hs.block b hb,h.lt,λj u l h1 h2=>?_,h.apart⟩;obtain⟨k1,k2⟩:=h.row j u l h1 h2;exact⟨k1.mono λb hb _=>hs.block b hb,λb hb=>⟨(k2 b hb).1,qm (k2 b hb).2 hs.size⟩⟩
theorem RM.at_(h:RM w0 wr u0 T us vals){j:Nat}{u:Value}(hj:us[j]?=some u):∃g cap cur,u0=.slice (some ⟨g,0,none⟩) us.length cap/\cap≠0/\Ac u0=some g/\wr.heap[g]?=some (.cells cur T (0,0))/\us.length<=cap/\cap<=maxLen/\cur.size=cap/\cur.toList.take us.length=us/\wr.cell? ⟨g,j,none⟩=some u:=by
 have hlt:=A5 hj;rcases Dh h.top with⟨h0,_⟩|⟨g,cap,cur,hv,hc,hb,h1,h2,h3,h4,h5⟩
 ·omega
 ·rw[ry]at h3 h4;refine⟨g,cap,cur,hv,hc,by rw[hv];simp[Ac,hc],hb,h1,h2,h3,h4,?_⟩;rw[<-h4,qB,qf hlt]at hj;simp only[World.cell?,hb];simp only[rK,qZ,if_false];rw[<-qJ,hj]
theorem RM.step(h:RM w0 wr u0 T us vals){j:Nat}{u u':Value}{l:List Int}{x:Int}(hj:us[j]?=some u)(hl:vals[j]?=some l)(hr:Bj w' 3 1 u' (l.length+1) ((l++[x]).map (Value.int .i64)))(hb:A7 wr.heap.size (λb=>Ac u=some b) wr w')
 (hn:∀b,Ac u'=some b->(Ac u=some b\/b=wr.heap.size)/\b<w'.heap.size) {g:Nat} (hg:Ac u0=some g):RM w0 (w'.setCell ⟨g,j,none⟩ u') u0 T (us.set j u') (vals.set j (l++[x])):=by
 obtain⟨g',cap,cur,e0,e1,e2,e3,e4,e5,e6,e7,_⟩:=h.at_ hj;obtain rfl:g'=g:=P3 (e2.symm.trans hg);have hlt:=A5 hj;have hgl:=h.lt g' hg;have hz:=h.keep.size;have hug:Ac u≠some g':=λe=>by have:=((h.row j u l hj hl).2 g' e).1;omega
 have hu'g:Ac u'≠some g':=λe=>by
  rcases(hn g' e).1 with q|q
  ·exact hug q
  ·omega
 have hgw:w'.heap[g']?=some (.cells cur T (0,0)):=by rw[hb.block g' (by omega) hug];exact e3
 have hset:(w'.setCell ⟨g',j,none⟩ u').heap[g']?=some (.cells (cur.setIfInBounds j u') T (0,0)):=by simp[World.setCell,rU,hgw]
 have hoth:∀b,b≠g'->(w'.setCell ⟨g',j,none⟩ u').heap[b]?=w'.heap[b]?:=λb hb=>blk_setCell_other _ _ _ _ (by show b≠g';exact hb);have hsz:(w'.setCell ⟨g',j,none⟩ u').heap.size=w'.heap.size:=by simp
 refine⟨⟨(by show w'.os=_;rw[hb.os,h.keep.os]),(by show w'.tape=_;rw[hb.tape,h.keep.tape]),(by show w'.output=_;rw[hb.output,h.keep.output]),by rw[hsz];exact qt hz hb.size,λk hk hm=>?_⟩,by simp[h.len],?_,h.lt,λi v m h1 h2=>?_,λi k v v2 b h1 h2 h3 h4=>?_⟩
 ·rw[hoth k (λe=>hm (by rw[e];exact hg)),hb.block k (by omega) (λe=>by have:=((h.row j u l hj hl).2 k e).1;omega)];exact h.keep.block k hk hm
 ·refine .inl ⟨by simp,.inr ⟨g',cap,_,by rw[e0];simp,pY _,hset,by simpa using e4,e5,by simp[e6],?_⟩⟩;rw[rq,ry,sx,List.take_set,e7]
 ·rw[qO]at h1 h2;by_cases hij:j=i
  ·subst hij;have hlt2:=A5 hl;simp[hlt]at h1;simp[hlt2]at h2;subst h1;subst h2;refine⟨?_,λb hb'=>?_⟩
   ·rw[qz,List.length_singleton];exact hr.mono λb hb1 hb2=>hoth b (λe=>hu'g (by rw[<-e];exact hb2))
   ·obtain⟨q,q2⟩:=hn b hb';refine⟨?_,by rw[hsz];exact q2⟩;rcases q with q|q
    ·exact((h.row j u l hj hl).2 b q).1
    ·omega
  ·rw[qi hij]at h1 h2;obtain⟨k1,k2⟩:=h.row i v m h1 h2;have hne:∀b,Ac v=some b->Ac u≠some b:=λb hv hu=>hij (h.apart j i u v b hj h1 hu hv);have r1:Bj w' 3 1 v m.length (m.map (Value.int .i64)):=k1.mono λb hb1 hb2=>hb.block b hb1 (hne b hb2);refine⟨r1.mono λb hb1 hb2=>hoth b (λe=>by have:=(k2 b hb2).1;omega),λb hb'=>⟨(k2 b hb').1,by rw[hsz];exact qm (k2 b hb').2 hb.size⟩⟩
 ·have old:∀i v,i≠j->(us.set j u')[i]?=some v->us[i]?=some v:=λi v hne hv=>by rw[qO,qi (λe=>hne e.symm)]at hv;exact hv
  have new:∀v,(us.set j u')[j]?=some v->v=u':=λv hv=>by rw[qO]at hv;simp[hlt]at hv;exact hv.symm
  by_cases hi:i=j
  ·by_cases hk:k=j
   ·rw[hi,hk]
   ·subst hi;rw[new v h1]at h3;have q:=old k v2 hk h2;rcases(hn b h3).1 with q1|q1
    ·exact h.apart i k u v2 b hj q q1 h4
    ·have hlk:k<vals.length:=by rw[<-h.len];exact A5 q
     have:=((h.row k v2 _ q (P2 hlk)).2 b h4).2;omega
  ·by_cases hk:k=j
   ·subst hk;rw[new v2 h2]at h4;have q:=old i v hi h1;rcases(hn b h4).1 with q1|q1
    ·exact h.apart i k v u b q hj h3 q1
    ·have hlk:i<vals.length:=by rw[<-h.len];exact A5 q
     have:=((h.row i v _ q (P2 hlk)).2 b h3).2;omega
   ·exact h.apart i k v v2 b (old i v hi h1) (old k v2 hk h2) h3 h4
theorem QQ{w:World}{O:Nat->Prop}{u:Value}{l:List Int}(h:Bj w 3 1 u l.length (l.map (Value.int .i64)))(hO:∀b,Ac u=some b->¬O b):Aw O w u (An 1 (D.int .i64) l):=by
 rcases Dh h with⟨h0,hv0,a,hv⟩|⟨g,cap,cur,hv,hc,hb,h1,h2,h3,h4,h5⟩
 ·have:l=[]:=List.map_eq_nil_iff.1 hv0;subst this;rw[hv];exact .emp _ _ _
 ·by_cases hl:l=[]
  ·subst hl;rw[hv];exact .emp _ _ _
  ·have hg:Ac u=some g:=by rw[hv];simp[Ac,hc]
   have e:=Aw.list (O:=O) (w:=w) g 0 cap 1 (l.map (D.int .i64)) (λi _=>.int .i64 (l.getD i 0)) (by simpa using hl) (CP hb) (hO g hg) (by simpa using h1)
    (λx hx=>by obtain⟨r,_,rfl⟩:=List.mem_map.1 hx;rfl) (λx hx y hy=>by obtain⟨r,_,rfl⟩:=List.mem_map.1 hx;simp[D.cells]at hy;subst hy;rfl)
    (λi x k y hx hy=>by
     rw[ql]at hx
     cases hi:l[i]? with
     | none=>simp[hi]at hx
     | some z =>
       simp[hi]at hx;subst hx
       match k,hy with
       | 0,_ =>
         have:(l.map (Value.int .i64))[i]?=some (.int .i64 z):=by simp[hi]
         rw[<-h4,ry,qB]at this;split at this
         ·rw[ry,qY,qy];simp only[World.cell?,hb];simp only[rK,qZ,if_false];rw[<-qJ,this];simp[qc,hi]
         ·cases this
       | k+1,hy=>simp[D.cells]at hy)
    (λi x k y hx hy=>by
     rw[ql]at hx
     cases hi:l[i]? with
     | none=>simp[hi]at hx
     | some z =>
       simp[hi]at hx;subst hx
       match k,hy with
       | 0,hy=>simp[D.cells]at hy;subst hy;simp[qc,hi];exact .int _ _
       | k+1,hy=>simp[D.cells]at hy)
   rw[hv]
   simpa using e
theorem RM.start{n:Nat}{w:World}(hrow:Bj w T 1 u0 n us)(hn:us.length=n)(hnil:∀(j:Nat) u,us[j]?=some u->∃a,u=.slice a 0 0):RM w w u0 T us (List.replicate n []):=by
 subst hn
 have nb:∀(j:Nat) u b,us[j]?=some u->Ac u≠some b:=λj u b hj hb=>by
  obtain⟨a,rfl⟩:=hnil j u hj
  cases a<;>simp[Ac]at hb
 refine⟨A7.refl _ _ _,by simp,hrow,λb hb=>hrow.lt hb,λj u l h1 h2=>?_,λi j u v b h1 _ h3 _=>absurd h3 (nb i u b h1)⟩
 have:l=[]:=by
  rw[sj]at h2;split at h2
  ·exact(P3 h2).symm
  ·cases h2
 subst this;obtain⟨a,rfl⟩:=hnil j u h1;refine⟨?_,λb hb=>absurd hb (nb j _ b h1)⟩
 cases a with
 | none=>exact .inl (World.ownsRow_nil w _ _ _)
 | some a=>exact .inr ⟨rfl,rfl,a,rfl⟩
end
theorem D9{B:Nat}{M:Nat->Prop}{w wr:World}(h:A7 B M w wr){b o:Nat}(hb:b<B)(hm:¬M b):wr.cell? ⟨b,o,none⟩=w.cell? ⟨b,o,none⟩:=World.cell?_of_block (w:=w) (h.block b hb hm)
theorem QR{w:World}{e:TypeId}{sz:Nat}{v:Value}{n:Nat}{vals:List Value}(h:Bj w e sz v n vals):∃ga gc,v=.slice ga n gc/\(0<n->∃g,ga=some ⟨g,0,none⟩/\Ac v=some g)/\vals.length=n*sz:=by
 rcases Dh h with⟨h0,h1,a,hv⟩|⟨g,cap,cur,hv,hc,_,_,_,_,_,h5⟩
 ·subst h0;subst h1;exact⟨a,0,hv,λh=>absurd h (Nat.lt_irrefl _),by simp⟩
 ·exact⟨_,cap,hv,λ_=>⟨g,rfl,by rw[hv];simp[Ac,hc]⟩,h5⟩
theorem U5{α:Type}(l:List α):(l.map λ_=>D.nil 1).flatMap D.cells=List.replicate l.length (D.nil 1):=by
 induction l with
 | nil=>rfl
 | cons x r ih=>rw[qk,rf,ih];rfl
theorem be(l:List (List Int)):(l.map (An 1 (D.int .i64))).flatMap D.cells=l.map (An 1 (D.int .i64)):=by
 induction l with
 | nil=>rfl
 | cons x r ih=>rw[qk,rf,ih];rfl
theorem mh{O:Nat->Prop}{w:World}{us:List Value}{n:Nat}(h:Bl O w us (List.replicate n (D.nil 1))):∀(j:Nat) u,us[j]?=some u->∃a,u=.slice a 0 0:=λj u hj=>by
 have hl:j<n:=by have:=A5 hj;rw[h.1]at this;simpa using this
 have:=(h.2 j u (D.nil 1) hj (by simp[hl])).1
 cases this with
 | nil a=>exact⟨a,rfl⟩
theorem Yz{l:List Int}{k:Nat}(h:k<l.length):l.drop k=l.getD k 0 :: l.drop (k+1):=by
 rw[sD h];simp[qc,h]
def Sx{α β:Type}(f:α->β->α)(a:List α)(b:List β)(j:Nat):List α:=(a.zipWith f b).take j++a.drop j
theorem iE{α β:Type}{f:α->β->α}{a:List α}{b:List β}(h:b.length=a.length){j:Nat}(hj:j<a.length):(Sx f a b j)[j]?=some a[j]:=by
 unfold Sx;rw[qg (by simp;omega)];simp[h,hj,rB (Nat.le_of_lt hj)]
theorem iF{α β:Type}{f:α->β->α}{a:List α}{b:List β}(h:b.length=a.length){j:Nat}(hj:j<a.length):(Sx f a b j).set j (f a[j] (b[j]'(by omega)))=Sx f a b (j+1):=by
 apply r7;intro i;unfold Sx;have hz:(a.zipWith f b).length=a.length:=by simp[h]
 rw[qO];by_cases e:j=i
 ·subst e;rw[qf rfl,qf (by simp[h];omega),qj (by simp[h];omega),ra (by omega)];simp[h,hj]
 ·rw[qi e];by_cases hlt:i<j
  ·rw[qj (by simp[h];omega),qj (by simp[h];omega),ra hlt,ra (by omega)]
  ·rw[qg (by simp[h];omega),qg (by simp[h];omega)];simp only[qL,hz,qE];congr 1;omega
theorem iD{α β:Type}{f:α->β->α}{a:List α}{b:List β}(h:b.length=a.length):Sx f a b a.length=a.zipWith f b:=by
 unfold Sx;rw[List.drop_length,rY];exact qS (by simp[h])
structure CM(w0 wr:World)(u0:Value)(O:Nat->Prop)(T:TypeId)(sz n:Nat)(ds:List D):Prop where
 keep:A7 w0.heap.size (λb=>Ac u0=some b) w0 wr
 lt:∀b,Ac u0=some b->b<w0.heap.size/\O b
 old:∀b,O b->b<w0.heap.size
 row:∃vals,Bj wr T sz u0 n vals/\Bl O wr vals ds
section
variable {w0 wr w':World} {u0:Value} {O:Nat->Prop} {T:TypeId} {sz n:Nat} {ds:List D}
theorem CM.keepS(h:CM w0 wr u0 O T sz n ds)(hs:RowKit.Below wr.heap.size wr w'):CM w0 w' u0 O T sz n ds:=by
 have hz:=h.keep.size;obtain⟨vals,h1,h2⟩:=h.row;exact⟨h.keep.trans ⟨hs.os,hs.tape,hs.output,hs.size,λk hk _=>hs.block k (by omega)⟩,h.lt,h.old,vals,h1.mono λb hb _=>hs.block b hb,h2.mono (B0.world hs)⟩
theorem CM.drew(h:CM w0 wr u0 O T sz n ds):CM w0 wr.drew u0 O T sz n ds:=h.keepS ⟨rfl,rfl,rfl,qb _,λ_ _=>rfl⟩
theorem CM.at_(h:CM w0 wr u0 O T sz n ds){g:Nat}(hg:Ac u0=some g){c:Nat}(hc:c<n*sz):∃u,wr.cell? ⟨g,c,none⟩=some u/\∃d,ds[c]?=some d/\Aw O wr u d/\d.one=true/\wr.frozen? ⟨g,c,none⟩=false:=by
 obtain⟨vals,h1,h2⟩:=h.row;rcases Dh h1 with⟨h0,_⟩|⟨g',cap,cur,hv,hcp,hb,k1,k2,k3,k4,k5⟩
 ·subst h0;omega
 ·have:g'=g:=by rw[hv]at hg;simp[Ac,hcp]at hg;exact hg
  subst this;have hl:c<vals.length:=by omega
  have hd:c<ds.length:=by rw[<-h2.1];exact hl
  obtain⟨u,hu⟩:∃u,vals[c]?=some u:=⟨_,P2 hl⟩
  have hcell:wr.cell? ⟨g',c,none⟩=some u:=by
   have e:=hu;rw[<-k4,qB,qf (by omega)]at e;simp only[World.cell?,hb];simp only[rK,qZ,if_false];rw[<-qJ,e]
  obtain⟨q1,q2⟩:=h2.2 c u ds[c] hu (P2 hd);exact⟨_,hcell,_,P2 hd,q1,q2,by simp[World.frozen?,hb]⟩
theorem CM.set(h:CM w0 wr u0 O T sz n ds){g:Nat}(hg:Ac u0=some g){c:Nat}(hc:c<n*sz){v:Value}{d:D}(hv:Aw O wr v d)(hd1:d.one=true):CM w0 (wr.setCell ⟨g,c,none⟩ v) u0 O T sz n (ds.set c d):=by
 obtain⟨vals,h1,h2⟩:=h.row;obtain⟨hgl,hgO⟩:=h.lt g hg;have hk:B0 O O wr (wr.setCell ⟨g,c,none⟩ v):=⟨by simp,λ_ _ h=>h,λb _ hb=>blk_setCell_other _ _ _ _ (by show b≠g;exact λe=>hb (e▸hgO))⟩;rcases Dh h1 with⟨h0,_⟩|⟨g',cap,cur,hu,hcp,hb,k1,k2,k3,k4,k5⟩
 ·subst h0;omega
 ·have:g'=g:=by rw[hu]at hg;simp[Ac,hcp]at hg;exact hg
  subst this;refine⟨⟨(by show wr.os=_;exact h.keep.os),(by show wr.tape=_;exact h.keep.tape),(by show wr.output=_;exact h.keep.output),by simpa using h.keep.size,λk hk hm=>?_⟩,h.lt,h.old,vals.set c v,?_,by simp[h2.1],λj y e hy he=>?_⟩
  ·rw[blk_setCell_other _ _ _ _ (by show k≠g';exact λe=>hm (by rw[e];exact hg))];exact h.keep.block k hk hm
  ·refine .inl ⟨by simp[k5],.inr ⟨g',cap,cur.setIfInBounds c v,hu,pY _,by simp[World.setCell,rU,hb],k1,k2,by simp[k3],?_⟩⟩;rw[rq,List.take_set,k4]
  ·rw[qO]at hy he;by_cases hj:c=j
   ·subst hj;rw[qf rfl]at hy he;split at hy
    ·split at he
     ·obtain rfl:=P3 hy;obtain rfl:=P3 he;exact⟨hv.mono hk,hd1⟩
     ·cases he
    ·cases hy
   ·rw[qi hj]at hy he;obtain⟨q1,q2⟩:=h2.2 j y e hy he;exact⟨q1.mono hk,q2⟩
theorem CM.start{w:World}{X:Cx}{β:Nat->Value}{S:AS}{G:Nat->Prop}{a:Act}{q:Nat}{vals:List Value}(hs:SimB X G β S a w)(ho:(Af S q).box.owned=true)(h1:Bj w T sz (β q) n vals)(h2:Bl (OS β X S) w vals ds):CM w w (β q) (OS β X S) T sz n ds :=
 ⟨A7.refl _ _ _,λb hb=>⟨h1.lt hb,.inr (.inr ⟨q,ho,hb⟩)⟩,λb hb=>hs.os_lt hb,vals,h1,h2⟩
end
theorem CM.kept{w0 wr:World}{u0:Value}{O:Nat->Prop}{T:TypeId}{sz n:Nat}{ds:List D}(h:CM w0 wr u0 O T sz n ds){g:Nat}(hg:Ac u0=some g)(c:Nat)(x:Value){v:Value}{d:D}(hv:Aw O wr v d):Aw O (wr.setCell ⟨g,c,none⟩ x) v d :=
 hv.mono ⟨by simp,λ_ _ h=>h,λb _ hb=>blk_setCell_other _ _ _ _ (by show b≠g;exact λe=>hb (e▸(h.lt g hg).2))⟩
theorem ce{α:Type}{l:List α}{i:Nat}{x:α}(h:l[i]?=some x):l.set i x=l:=by
 apply r7;intro j;rw[qO];by_cases e:i=j
 ·subst e;rw[qf rfl,h,qf (A5 h)]
 ·rw[qi e]
theorem bd{α:Type}(f:α->D)(hf:∀x,(f x).cells.length=7):∀(l:List α)(k:Nat)(hk:k<l.length)(o:Nat),o<7->((l.map f).flatMap D.cells)[k*7+o]?=(f l[k]).cells[o]?
 | x :: r,0,_,o,ho=>by
   rw[qk,rf,Nat.zero_mul,qy,qj (by rw[hf];exact ho)];rfl
 | x :: r,k+1,hk,o,ho=>by
   rw[qk,rf,qg (by rw[hf];omega),hf,show(k+1)*7+o-7=k*7+o by omega,bd f hf r k (by simpa using hk) o ho];rfl
def PE(w:World)(a:Addr):Value:=(w.cell? a).getD undef
theorem Wy{w:World}{a:Addr}(h:(w.cell? a).isSome=true):w.cell? a=some (PE w a):=by
 obtain⟨y,hy⟩:=Option.isSome_iff_exists.1 h;unfold PE;rw[hy];rfl
theorem Yr{w:World}{g c o:Nat}{v:Value}(h:w.cell? ⟨g,c,none⟩=some (PE w ⟨g,c,none⟩)):(w.setCell ⟨g,o,none⟩ v).cell? ⟨g,c,none⟩=some (PE (w.setCell ⟨g,o,none⟩ v) ⟨g,c,none⟩):=by
 apply Wy;by_cases e:o=c
 ·subst e;rw[World.cell?_setCell_same _ _ _ h];rfl
 ·rw[World.cell?_setCell_other _ _ _ _ (λq=>e (congrArg Addr.off q)),h];rfl
theorem CM.cell7{w0 wr:World}{u0:Value}{O:Nat->Prop}{T:TypeId}{l:List Aq}(h:CM w0 wr u0 O T 7 l.length ((l.map A6).flatMap D.cells)){g:Nat}(hg:Ac u0=some g){k:Nat}(hk:k<l.length) :
 ∃a c a' c',(wr.cell? ⟨g,k*7,none⟩=some (.slice a l[k].Q.length c)/\Aw O wr (.slice a l[k].Q.length c) (An 1 (D.int .i64) l[k].Q))/\wr.cell? ⟨g,k*7+1,none⟩=some (.int .i64 l[k].Y)/\wr.cell? ⟨g,k*7+2,none⟩=some (.int .i64 l[k].A4) /\
  wr.cell? ⟨g,k*7+3,none⟩=some (.int .i64 l[k].A5)/\wr.cell? ⟨g,k*7+4,none⟩=some (.int .i64 l[k].A6)/\wr.cell? ⟨g,k*7+5,none⟩=some (.int .i64 l[k].A8) /\
  (wr.cell? ⟨g,k*7+6,none⟩=some (.slice a' l[k].G.length c')/\Aw O wr (.slice a' l[k].G.length c') (An 1 (D.int .i64) l[k].G))/\∀o,o<7->wr.frozen? ⟨g,k*7+o,none⟩=false:=by
 have key:∀(o:Nat) d,o<7->(A6 l[k]).cells[o]?=some d->∃u,wr.cell? ⟨g,k*7+o,none⟩=some u/\Aw O wr u d/\wr.frozen? ⟨g,k*7+o,none⟩=false:=λo d ho hd=>by
  obtain⟨u,h1,e,h2,h3,_,h4⟩:=h.at_ hg (c:=k*7+o) (by omega);rw[bd A6 (λ_=>rfl) l k hk o ho,hd]at h2;obtain rfl:=P3 h2;exact⟨u,h1,h3,h4⟩
 obtain⟨v0,q0,r0,z0⟩:=key 0 _ (by omega) rfl;obtain⟨v1,q1,r1,z1⟩:=key 1 _ (by omega) rfl;obtain⟨v2,q2,r2,z2⟩:=key 2 _ (by omega) rfl;obtain⟨v3,q3,r3,z3⟩:=key 3 _ (by omega) rfl;obtain⟨v4,q4,r4,z4⟩:=key 4 _ (by omega) rfl;obtain⟨v5,q5,r5,z5⟩:=key 5 _ (by omega) rfl;obtain⟨v6,q6,r6,z6⟩:=key 6 _ (by omega) rfl;obtain⟨a,c,_,_,e0,_⟩:=GQ r0;obtain⟨a',c',_,_,e6,_⟩:=GQ r6;have e1:=AJ r1;have e2:=AJ r2;have e3:=AJ r3;have e4:=AJ r4;have e5:=AJ r5;subst e0;subst e1;subst e2;subst e3;subst e4;subst e5;subst e6;refine⟨a,c,a',c',⟨q0,r0⟩,q1,q2,q3,q4,q5,⟨q6,r6⟩,λo ho=>?_⟩
 match o,ho with
 | 0,_=>exact z0
 | 1,_=>exact z1
 | 2,_=>exact z2
 | 3,_=>exact z3
 | 4,_=>exact z4
 | 5,_=>exact z5
 | 6,_=>exact z6
theorem ko{w:World}{O:Nat->Prop}{B:Nat}{v:Value}{l:List Int}(h:Uw (λb=>B<=b) w v 1 3 (l.map (D.int .i64)))(hO:∀b,O b->b<B):Aw O w v (An 1 (D.int .i64) l):=by
 obtain⟨_,_,hb,vals,h1,h2⟩:=h;rw[Jo]at h2;obtain rfl:=R0 h2;rw[pX]at h1;exact QQ h1 λb hb1 hO1=>by have:=hb b hb1;have:=hO b hO1;omega
end Go.Proofs.YthchnhoalhbkcaaGreatDoor.P
