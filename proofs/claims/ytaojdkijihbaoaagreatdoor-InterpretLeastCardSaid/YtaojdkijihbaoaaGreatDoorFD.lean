/- FD -/
import Derived.Test.YtaojdkijihbaoaaGreatDoorFC
import Derived.Maps.AppendAt
open Go.Proofs.Tryz
set_option linter.all false
namespace Go.Proofs.YtaojdkijihbaoaaGreatDoor.P
open Go Go.Abs Go.Proofs Go.Deep
theorem E7{α:Type}{l:List α}{n:Nat}(h:l.length=n+1):∃x r,l=x :: r/\r.length=n:=by
 cases l with
 | nil=>cases h
 | cons x r=>exact⟨x,r,rfl,by simpa using h⟩
theorem U9{α:Type}{l:List α}{n:Nat}(h:l.length=n+8):∃a b c d e f g i r,l=a :: b :: c :: d :: e :: f :: g :: i :: r/\r.length=n:=by
 obtain⟨a,v,rfl,j⟩:=E7 h;obtain⟨b,w,rfl,k⟩:=E7 j;obtain⟨c,x,rfl,m⟩:=E7 k;obtain⟨d,y,rfl,o⟩:=E7 m;obtain⟨e,z,rfl,p⟩:=E7 o;obtain⟨f,A,rfl,q⟩:=E7 p;obtain⟨g,B,rfl,s⟩:=E7 q;obtain⟨i,t,rfl,u⟩:=E7 s;exact⟨a,b,c,d,e,f,g,i,t,rfl,u⟩
theorem U1{P:Program}{x:Code}{a:Act}{w:World}{R:Act->World->Prop}(h:∀K:Exit->Act->World->Prop,Aside (∀b w',R b w'->K .normal b w')->x.wp P K a w):x.wp P (λe b w'=>e=.normal/\R b w') a w:=h _ (λ_ _ hr=>⟨rfl,hr⟩)
theorem Ik(w:World)(o:Obj):RowKit.Below w.heap.size w (w.alloc o):=⟨rfl,rfl,rfl,by simp,λk hk=>blk_alloc_lt w o k hk⟩
theorem WN{X:Cx}{G:Nat->Prop}{β:Nat->Value}{S:AS}{a:Act}{w:World}(h:SimB X G β S a w)(t:Nat){v:Value}{x:D}(b:a.tmps[t]?=some v)(hx:(Ag S t).av=.d x):Ay (OS β X S) w v x:=by
 have:=h.slots t v b;rw[hx]at this;exact this
theorem qu{X:Cx}{G:Nat->Prop}{β:Nat->Value}{S:AS}{a:Act}{w:World}(h:SimB X G β S a w)(t:Nat){v:Value}{q n:Nat}(b:a.tmps[t]?=some v)(hx:(Ag S t).av=.sl q n)(c:(Ag S q).ver=n):v=β q:=by
 have:=h.slots t v b;rw[hx]at this;exact this.2 c.symm
theorem PM{X:Cx}{G:Nat->Prop}{β:Nat->Value}{S:AS}{a:Act}{w:World}(h:SimB X G β S a w)(t:Nat){v:Value}{q n o:Nat}(c:a.tmps[t]?=some v)(hx:(Ag S t).av=.ptr q n o)(d:(Ag S q).ver=n):∃b,β q=.pointer (some ⟨b,0,none⟩)/\v=.pointer (some ⟨b,o,none⟩):=by
 have:=h.slots t v c;rw[hx]at this;exact this.2 d.symm
theorem Vq{X:Cx}{G:Nat->Prop}{β:Nat->Value}{S:AS}{a:Act}{w:World}(_:SimB X G β S a w)(q:Nat)(ho:(Ag S q).box.owned=true):∀b,Ae (β q)=some b->OS β X S b:=λ_ c=>.inr (.inr ⟨q,ho,c⟩)
theorem PN{X:Cx}{G:Nat->Prop}{β:Nat->Value}{S:AS}{a:Act}{w:World}(h:SimB X G β S a w)(q:Nat){cs:List C}(hx:(Ag S q).box=.var cs):∃b vals T,β q=.pointer (some ⟨b,0,none⟩)/\w.heap[b]?=some (.cells vals T (0,0))/\vals.size=cs.length /\
 ∀(j:Nat) c,cs[j]?=some c->∃u,w.cell? ⟨b,j,none⟩=some u/\Cj β (AH S) (OS β X S) w u c:=by
 have:=h.boxes q;rw[hx]at this;obtain⟨b,vals,T,i,d,e,k⟩:=this;refine⟨b,vals,T,i,d,e,λj c f=>?_⟩;have g:j<vals.size:=by rw[e];exact A6 f
 exact⟨vals[j],by simp[World.cell?,d,g],k j _ c (by simp[g]) f⟩
theorem _root_.Go.Abs.SimB.conv{X:Cx}{G:Nat->Prop}{β:Nat->Value}{S S':AS}{a:Act}{w:World}(h:SimB X G β S a w)(e:S=S'):SimB X G β S' a w:=e▸h
theorem Ya{q vb:Nat}{x y:BJ}{m:Nat}{f:Nat->Nat}:∀(B:Bx)(i:Nat)(u:AV),i≠q->i≠vb->C1 (B.map λp=>if p.1=q then(q,x,m)else if p.1=vb then(vb,y,f p.2.2)else p) i u=C1 B i u
 | [],_,_,_,_=>rfl
 | (s,z,j) :: r,i,u,h1,h2=>by
   have ih:=Ya (q:=q) (vb:=vb) (x:=x) (y:=y) (m:=m) (f:=f) r i u h1 h2;rw[ul];by_cases a:s=q
   ·rw[uk a];show(match Nat.beq q i with|true=>_|false=>_)=(match Nat.beq s i with|true=>_|false=>_);have b:Nat.beq q i=false:=Bool.eq_false_iff.2 λh=>h1 (vj h).symm;rw[a,b];exact ih
   ·rw[uo a];by_cases c:s=vb
    ·rw[uk c];show(match Nat.beq vb i with|true=>_|false=>_)=(match Nat.beq s i with|true=>_|false=>_);have b:Nat.beq vb i=false:=Bool.eq_false_iff.2 λh=>h2 (vj h).symm;rw[c,b];exact ih
    ·rw[uo c];unfold C1
     cases Nat.beq s i
     ·exact ih
     ·rfl
theorem jX{n q vb:Nat}{x y:BJ}{m mv:Nat}{B:Bx}(d:∀u,C1 (B.map λp=>if p.1=q then(q,x,m)else if p.1=vb then(vb,y,p.2.2)else p) q u=⟨u,x,m⟩)(e:∀u,C1 (B.map λp=>if p.1=q then(q,x,m)else if p.1=vb then(vb,y,p.2.2)else p) vb u=⟨u,y,mv⟩) :
 ∀i u,i<n->C1 (B.map λp=>if p.1=q then(q,x,m)else if p.1=vb then(vb,y,p.2.2)else p) i u=if i=q then⟨u,x,m⟩else if i=vb then⟨u,y,mv⟩else C1 B i u:=λi u _=>by
 by_cases b:i=q
 ·rw[uk b,b];exact d u
 ·rw[uo b];by_cases c:i=vb
  ·rw[uk c,c];exact e u
  ·rw[uo c];exact Ya (f:=λa=>a) B i u b c
theorem D7{w:World}{e:TypeId}{sz:Nat}{v:Value}{n:Nat}{vals:List Value}(h:Bw w e sz v n vals) :
 (n=0/\vals=[]/\∃a,v=.slice a 0 0) \/
 ∃g cap cur,v=.slice (some ⟨g,0,none⟩) n cap/\cap≠0/\w.heap[g]?=some (.cells cur e (0,0))/\n<=cap/\cap<=maxLen/\cur.size=cap*sz/\cur.toList.take (n*sz)=vals/\vals.length=n*sz:=by
 rcases h with⟨c,⟨b,d⟩|⟨g,cap,cur,b,_,j,f,k,l,m⟩⟩|⟨d,f,a,b⟩
 ·subst d;exact .inl ⟨rfl,uJ (by simpa using c),none,b⟩
 ·by_cases i:cap=0
  ·have o:n=0:=by omega
   subst o;subst i;exact .inl ⟨rfl,uJ (by simpa using c),_,b⟩
  ·exact .inr ⟨g,cap,cur,b,i,j,f,k,l,m,c⟩
 ·exact .inl ⟨d,f,_,b⟩
theorem gX{w:World}{u:Value}{l:List Int}{x:Int}{vb vc:Nat}(J:Bw w 3 1 u l.length (l.map (Value.int .i64)))(Q:l.length<=2000000)(hx:w.cell? ⟨vb,0,none⟩=some (.int .i64 x)) :
 ∃u' w',(Builtin.append_ #[30,30] 30 #[u,.slice (some ⟨vb,0,none⟩) 1 vc]).run prog w=.ok u' w'/\Bw w' 3 1 u' (l.length+1) ((l++[x]).map (Value.int .i64))/\A8 w.heap.size (λb=>Ae u=some b) w w' /\
  ∀b,Ae u'=some b->Ae u=some b\/b=w.heap.size:=by
 obtain⟨t,o,z,e,A⟩:=info_parts pj
 have p:Src prog t.size 30 (.slice (some ⟨vb,0,none⟩) 1 vc) 1 [.int .i64 x] w:=by
  rw[e]
  exact Src.ofSlice w fR ⟨vb,0,none⟩ 1 vc [.int .i64 x] (by simp) (λj y c=>by
   match j,c with
   | 0,c=>simp at c;subst c;exact hx
   | j+1,c=>simp at c) (λy hy=>by simp at hy;subst hy;rfl)
 have h:∀(base:Option Addr)(cap:Nat)(f:List Value),f=l.map (Value.int .i64)->u=.slice base l.length cap->cap<l.length+1->(Builtin.firstCells t.size l.length (.slice base l.length cap)).run prog w.drew=.ok f.toArray w.drew ->
  ∃u' w',(Builtin.append_ #[30,30] 30 #[u,.slice (some ⟨vb,0,none⟩) 1 vc]).run prog w=.ok u' w'/\Bw w' 3 1 u' (l.length+1) ((l++[x]).map (Value.int .i64))/\A8 w.heap.size (λb=>Ae u=some b) w w' /\
   ∀b,Ae u'=some b->Ae u=some b\/b=w.heap.size:=by
  intro base cap f ho d m q;have hr:=run_append_grow_src w 30 30 30 3 t _ fR o z base l.length cap f q _ 1 [.int .i64 x] p m (by omega) (by rw[A];exact growslice_fits m (by omega));have K:=grownCap_ge w (l.length+1) cap 3;have L:=grownCap_le_maxLen w (l.length+1) cap 3 (by unfold maxLen;omega);refine⟨_,_,by rw[d];exact hr,.inl ⟨by simp,.inr ⟨w.heap.size,_,_,rfl,ug _,heap_alloc_new w.drew _,K,L,?_,?_⟩⟩,⟨rfl,rfl,rfl,by simp,λk hk _=>blk_alloc_lt w.drew _ _ hk⟩,λb n=>.inr (by simp[Ae]at n;exact n.2.symm)⟩
  ·rw[Array.size_append,size_zeroCells,ho];simp[Value.cells];omega
  ·rw[Array.toList_append,ho];show((l.map (Value.int .i64)++[Value.int .i64 x])++_).take _=_;rw[show(l.length+1)*1=(l.map (Value.int .i64)++[Value.int .i64 x]).length by simp,wY];simp
 rcases D7 J with⟨R,B,a,d⟩|⟨g,cap,cur,d,F,n,M,G,C,D,S⟩
 ·have E:l=[]:=List.map_eq_nil_iff.1 B;subst E;refine h a 0 [] rfl d (by simp) ?_;rw[e]
  cases a with
  | none=>exact run_firstCells_none w.drew 1 0 0 0
  | some a=>exact run_firstCells_some w.drew 1 0 a 0 0 [] (by simp) (λj v c=>by simp at c)
 ·by_cases i:l.length+1<=cap
  ·have H:w.ownsRow 0 3 1 u l.length (l.map (Value.int .i64)):=⟨by simp,.inr ⟨g,cap,cur,d,ug _,n,M,G,by simpa using C,by simpa using D⟩⟩
   have hr:=run_append_room (P:=prog) w 30 30 3 t fR o g l.length cap cur n ⟨vb,0,none⟩ 1 vc [.int .i64 x] (by rw[e];rfl) (λj y c=>by
    match j,c with
    | 0,c=>simp at c;subst c;exact hx
    | j+1,c=>simp at c) (λy hy=>by simp at hy;subst hy;rfl) i (by rw[e,C];simp;omega)
   have I:Ae u=some g:=by rw[d];simp[Ae,F]
   refine⟨_,_,by rw[d];exact hr,.inl ⟨by simp,.inr ⟨g,cap,_,rfl,ug _,setRow_heap w g cur _ _ _ n,i,G,?_,?_⟩⟩,A8.setRow _ w _ (.inr I),λb r=>.inl (by rw[I];simp[Ae,F]at r;rw[r])⟩
   ·simp only[vY,uV,uO,vS,ve,e,C,List.length_singleton];omega
   ·rw[e]at *;have N:cur.toList.take (l.length*1)=l.map (Value.int .i64):=D;have O:(l.length+1)*1=(l.map (Value.int .i64)++[Value.int .i64 x]).length:=by simp
    rw[O,N];rw[show(l++[x]).map (Value.int .i64)=l.map (Value.int .i64)++[Value.int .i64 x] by simp];exact wY
  ·refine h _ cap _ rfl d (by omega) ?_;rw[e]
   exact run_firstCells_some w.drew 1 l.length ⟨g,0,none⟩ l.length cap (l.map (Value.int .i64)) (by simp) (λj v c=>by
    rw[Addr.add_lit,uQ];have s:=D;rw[vV]at s;rw[<-s,vg]at c;split at c
    ·show w.cell? ⟨g,j,none⟩=_;simp only[World.cell?,n];simp only[wz,vI,if_false];rw[<-vr,c]
    ·cases c)
theorem oG{t e:TypeId}{z:Value}{sz bytes:Nat}(G:prog.underlying t=some (TypeDesc.slice e))(U:(prog.info? e).map (λi=>(i.zero,i.size,i.bytes))=some (some z,sz,bytes))(H:z.cells.size=sz)(V:0<sz){w:World}{u:Value}{n:Nat}{vals ws:List Value}{vb vc:Nat}
 (N:Bw w e sz u n vals) (hn:n<=1000000) (I:bytes<=1000) (c:ws.length=sz) (A:∀x∈ws,x.oneCell'=true) (hx:∀(j:Nat) x,ws[j]?=some x->w.cell? ⟨vb,j,none⟩=some x) :
 ∃u' w',(Builtin.append_ #[t,t] t #[u,.slice (some ⟨vb,0,none⟩) 1 vc]).run prog w=.ok u' w'/\Bw w' e sz u' (n+1) (vals++ws)/\A8 w.heap.size (λb=>Ae u=some b) w w' /\
  ∀b,Ae u'=some b->Ae u=some b\/b=w.heap.size:=by
 obtain⟨B,C,J,h,K⟩:=info_parts U
 have D:Src prog B.size t (.slice (some ⟨vb,0,none⟩) 1 vc) 1 ws w:=by
  rw[h];exact Src.ofSlice w G ⟨vb,0,none⟩ 1 vc ws (by omega) (λj y o=>by rw[Addr.add_lit,uQ];exact hx j y o) A
 have l:vals.length=n*sz:=by
  rcases D7 N with⟨L,r,_⟩|⟨_,_,_,_,_,_,_,_,_,_,O⟩
  ·rw[L,r];simp
  ·exact O
 have M:(n+1)*bytes<=140737488355328:=uK (wX (show n+1<=1000001 by omega) I) (by decide)
 have m:∀(base:Option Addr)(cap:Nat),u=.slice base n cap->cap<n+1->(Builtin.firstCells B.size n (.slice base n cap)).run prog w.drew=.ok vals.toArray w.drew ->
  ∃u' w',(Builtin.append_ #[t,t] t #[u,.slice (some ⟨vb,0,none⟩) 1 vc]).run prog w=.ok u' w'/\Bw w' e sz u' (n+1) (vals++ws)/\A8 w.heap.size (λb=>Ae u=some b) w w' /\
   ∀b,Ae u'=some b->Ae u=some b\/b=w.heap.size:=by
  intro base cap d p E;have hr:=run_append_grow_src w t t t e B _ G C J base n cap vals E _ 1 ws D p (by omega) (by rw[K];exact growslice_fits p M);have W:=grownCap_ge w (n+1) cap e;have X:=grownCap_le_maxLen w (n+1) cap e (by unfold maxLen;omega);refine⟨_,_,by rw[d];exact hr,.inl ⟨by simp[l,c,vD],.inr ⟨w.heap.size,_,_,rfl,ug _,heap_alloc_new w.drew _,W,X,?_,?_⟩⟩,⟨rfl,rfl,rfl,by simp,λk hk _=>blk_alloc_lt w.drew _ _ hk⟩,λb s=>.inr (by simp[Ae]at s;exact s.2.symm)⟩
  ·rw[Array.size_append,size_zeroCells,H];simp only[vY,uV,l,c];rw[<-Nat.succ_mul,<-vD,show n.succ+(grownCap w (n+1) cap e-(n+1))=grownCap w (n+1) cap e by omega]
  ·rw[Array.toList_append];show((vals++ws)++_).take _=_;rw[show(n+1)*sz=(vals++ws).length by simp[l,c,vD],wY]
 rcases D7 N with⟨L,r,a,d⟩|⟨g,cap,cur,d,Q,s,h1,Y,R,S,O⟩
 ·subst L;subst r;refine m a 0 d (by simp) ?_;rw[h]
  cases a with
  | none=>exact run_firstCells_none w.drew sz 0 0 0
  | some a=>exact run_firstCells_some w.drew sz 0 a 0 0 [] (by simp) (λj v o=>by simp at o)
 ·by_cases f:n+1<=cap
  ·have q:n*B.size+ws.length<=cur.size:=by
    rw[h,R,c,<-Nat.succ_mul];exact vE _ f
   have hr:=run_append_room (P:=prog) w t t e B G C g n cap cur s ⟨vb,0,none⟩ 1 vc ws (by rw[h,c,Nat.one_mul]) (λj y o=>by rw[Addr.add_lit,uQ];exact hx j y o) A f q;have T:Ae u=some g:=by rw[d];simp[Ae,Q]
   refine⟨_,_,by rw[d];exact hr,.inl ⟨by simp[l,c,vD],.inr ⟨g,cap,_,rfl,ug _,setRow_heap w g cur _ _ _ s,f,Y,?_,?_⟩⟩,A8.setRow _ w _ (.inr T),λb F=>.inl (by rw[T];simp[Ae,Q]at F;rw[F])⟩
   ·simp only[vY,uV,uO,vS,ve];rw[R]at q ⊢;omega
   ·rw[h];have Z:cur.toList.take (n*sz)=vals:=S;rw[show(n+1)*sz=(vals++ws).length by simp[l,c,vD],Z];exact wY
  ·refine m _ cap d (by omega) ?_;rw[h]
   exact run_firstCells_some w.drew sz n ⟨g,0,none⟩ n cap vals l (λj v o=>by
    rw[Addr.add_lit,uQ];rw[<-S,vg]at o;split at o
    ·show w.cell? ⟨g,j,none⟩=_;simp only[World.cell?,s];simp only[wz,vI,if_false];rw[<-vr,o]
    ·cases o)
theorem Z1{f:FuncId}{args:List AV}{r:AV}(h:Ax prog f args r){X:Cx}{G:Nat->Prop}{β:Nat->Value}{S:AS}{a:Act}{w wr:World}(m:SimB X G β S a w){M:Nat->Prop}(n:∀b,M b->OS β X S b)(hk:A8 w.heap.size M w wr)
 (vs:Array Value) (d:vs.size=args.length) (c:∀(i:Nat) v x,vs[i]?=some v->args[i]?=some x->OZ (OS β X S) w v x) :
 Calls prog f vs wr λe w'=>∃v,e=.returned v/\RowKit.Below wr.heap.size wr w'/\Di (λb=>wr.heap.size<=b) (λb=>OS β X S b\/(w.heap.size<=b/\b<wr.heap.size)) w' v r:=by
 have j:BA (OS β X S) (λb=>OS β X S b\/(w.heap.size<=b/\b<wr.heap.size)) w wr:=⟨hk.size,λb k l=>l.elim id λh=>by omega,λb k l=>hk.block b k λo=>l (n b o)⟩;exact h.2 (λb=>OS β X S b\/(w.heap.size<=b/\b<wr.heap.size)) wr vs (λb l=>l.elim (λh=>uw (m.os_lt h) hk.size) λh=>h.2) (λg cs p=>(m.glob g cs p).mono j) d λi v x q hx=>(c i v x q hx).mono j
theorem Tw{f:FuncId}{args:List AV}{r:AV}(h:Ax prog f args r){X:Cx}{G:Nat->Prop}{β:Nat->Value}{S:AS}{a:Act}{w wr:World}(l:SimB X G β S a w){M:Nat->Prop}(m:∀b,M b->OS β X S b)(hk:A8 w.heap.size M w wr)
 (vs:Array Value) (d:vs.size=args.length) (c:∀(i:Nat) v x,vs[i]?=some v->args[i]?=some x->OZ (OS β X S) wr v x) :
 Calls prog f vs wr λe w'=>∃v,e=.returned v/\RowKit.Below wr.heap.size wr w'/\Di (λb=>wr.heap.size<=b) (OS β X S) w' v r :=
 h.2 (OS β X S) wr vs (λb j=>uw (l.os_lt j) hk.size) (λg cs n=>(l.glob g cs n).mono ⟨hk.size,λ_ _ h=>h,λb k j=>hk.block b k λo=>j (m b o)⟩) d c
theorem ZY{a b c:World}(h:RowKit.Below a.heap.size a b)(k:RowKit.Below b.heap.size b c):RowKit.Below a.heap.size a c:=⟨k.os.trans h.os,k.tape.trans h.tape,k.output.trans h.output,uK h.size k.size,λi d=>(k.block i (uw d h.size)).trans (h.block i d)⟩
theorem GV{a b:World}(h:RowKit.Below a.heap.size a b){c o:Nat}(d:c<a.heap.size):b.cell? ⟨c,o,none⟩=a.cell? ⟨c,o,none⟩:=World.cell?_of_block (w:=a) (h.block c d)
structure RM(w0 wr:World)(u0:Value)(T:TypeId)(us:List Value)(vals:List (List Int)):Prop where
 keep:A8 w0.heap.size (λb=>Ae u0=some b) w0 wr
 len:us.length=vals.length
 top:Bw wr T 1 u0 us.length us
 lt:∀b,Ae u0=some b->b<w0.heap.size
 row:∀(j:Nat) u l,us[j]?=some u->vals[j]?=some l->Bw wr 3 1 u l.length (l.map (Value.int .i64))/\∀b,Ae u=some b->w0.heap.size<=b/\b<wr.heap.size
 apart:∀(i j:Nat) u v b,us[i]?=some u->us[j]?=some v->Ae u=some b->Ae v=some b->i=j
section
variable {w0 wr w':World} {u0:Value} {T:TypeId} {us:List Value} {vals:List (List Int)}
theorem RM.keepS(h:RM w0 wr u0 T us vals)(a:RowKit.Below wr.heap.size wr w'):RM w0 w' u0 T us vals:=by
 have i:=h.keep.size;refine⟨h.keep.trans ⟨a.os,a.tape,a.output,a.size,λk hk _=>a.block k (by omega)⟩,h.len,h.top.mono λb c _=>a.block b c,h.lt,λj u l e f=>?_,h.apart⟩;obtain⟨g,d⟩:=h.row j u l e f;exact⟨g.mono λb c _=>a.block b c,λb c=>⟨(d b c).1,uw (d b c).2 a.size⟩⟩
theorem RM.at_(h:RM w0 wr u0 T us vals){j:Nat}{u:Value}(a:us[j]?=some u):∃g cap cur,u0=.slice (some ⟨g,0,none⟩) us.length cap/\cap≠0/\Ae u0=some g/\wr.heap[g]?=some (.cells cur T (0,0))/\us.length<=cap/\cap<=maxLen/\cur.size=cap/\cur.toList.take us.length=us/\wr.cell? ⟨g,j,none⟩=some u:=by
 have b:=A6 a;rcases D7 h.top with⟨m,_⟩|⟨g,cap,cur,d,e,f,k,l,i,c,n⟩
 ·omega
 ·rw[vV]at i c;refine⟨g,cap,cur,d,e,by rw[d];simp[Ae,e],f,k,l,i,c,?_⟩;rw[<-c,vg,uk b]at a;simp only[World.cell?,f];simp only[wz,vI,if_false];rw[<-vr,a]
theorem RM.step(h:RM w0 wr u0 T us vals){j:Nat}{u u':Value}{l:List Int}{x:Int}(s:us[j]?=some u)(M:vals[j]?=some l)(hr:Bw w' 3 1 u' (l.length+1) ((l++[x]).map (Value.int .i64)))(f:A8 wr.heap.size (λb=>Ae u=some b) wr w')
 (N:∀b,Ae u'=some b->(Ae u=some b\/b=wr.heap.size)/\b<w'.heap.size) {g:Nat} (P:Ae u0=some g):RM w0 (w'.setCell ⟨g,j,none⟩ u') u0 T (us.set j u') (vals.set j (l++[x])):=by
 obtain⟨a,cap,cur,U,e1,V,W,X,Y,Z,e7,_⟩:=h.at_ s;obtain rfl:a=g:=uc (V.symm.trans P);have D:=A6 s;have hgl:=h.lt a P;have hz:=h.keep.size;have E:Ae u≠some a:=λe=>by have:=((h.row j u l s M).2 a e).1;omega
 have F:Ae u'≠some a:=λe=>by
  rcases(N a e).1 with q|q
  ·exact E q
  ·omega
 have Q:w'.heap[a]?=some (.cells cur T (0,0)):=by rw[f.block a (by omega) E];exact W
 have G:(w'.setCell ⟨a,j,none⟩ u').heap[a]?=some (.cells (cur.setIfInBounds j u') T (0,0)):=by simp[World.setCell,wD,Q]
 have c:∀b,b≠a->(w'.setCell ⟨a,j,none⟩ u').heap[b]?=w'.heap[b]?:=λb f=>blk_setCell_other _ _ _ _ (by show b≠a;exact f);have w:(w'.setCell ⟨a,j,none⟩ u').heap.size=w'.heap.size:=by simp
 refine⟨⟨(by show w'.os=_;rw[f.os,h.keep.os]),(by show w'.tape=_;rw[f.tape,h.keep.tape]),(by show w'.output=_;rw[f.output,h.keep.output]),by rw[w];exact uK hz f.size,λk hk S=>?_⟩,by simp[h.len],?_,h.lt,λi v m n o=>?_,λi k v C b n o H I=>?_⟩
 ·rw[c k (λe=>S (by rw[e];exact P)),f.block k (by omega) (λe=>by have:=((h.row j u l s M).2 k e).1;omega)];exact h.keep.block k hk S
 ·refine .inl ⟨by simp,.inr ⟨a,cap,_,by rw[U];simp,ug _,G,by simpa using X,Y,by simp[Z],?_⟩⟩;rw[vQ,vV,w7,List.take_set,e7]
 ·rw[vk]at n o;by_cases y:j=i
  ·subst y;have J:=A6 M;simp[D]at n;simp[J]at o;subst n;subst o;refine⟨?_,λb p=>?_⟩
   ·rw[uV,List.length_singleton];exact hr.mono λb z d=>c b (λe=>F (by rw[<-e];exact d))
   ·obtain⟨q,q2⟩:=N b p;refine⟨?_,by rw[w];exact q2⟩;rcases q with q|q
    ·exact((h.row j u l s M).2 b q).1
    ·omega
  ·rw[uo y]at n o;obtain⟨k1,R⟩:=h.row i v m n o;have A:∀b,Ae v=some b->Ae u≠some b:=λb t hu=>y (h.apart j i u v b s n hu t);have r1:Bw w' 3 1 v m.length (m.map (Value.int .i64)):=k1.mono λb z d=>f.block b z (A b d);refine⟨r1.mono λb z d=>c b (λe=>by have:=(R b d).1;omega),λb p=>⟨(R b p).1,by rw[w];exact uw (R b p).2 f.size⟩⟩
 ·have r:∀i v,i≠j->(us.set j u')[i]?=some v->us[i]?=some v:=λi v A t=>by rw[vk,uo (λe=>A e.symm)]at t;exact t
  have K:∀v,(us.set j u')[j]?=some v->v=u':=λv t=>by rw[vk]at t;simp[D]at t;exact t.symm
  by_cases O:i=j
  ·by_cases hk:k=j
   ·rw[O,hk]
   ·subst O;rw[K v n]at H;have q:=r k C hk o;rcases(N b H).1 with L|L
    ·exact h.apart i k u C b s q L I
    ·have B:k<vals.length:=by rw[<-h.len];exact A6 q
     have:=((h.row k C _ q (P3 B)).2 b I).2;omega
  ·by_cases hk:k=j
   ·subst hk;rw[K C o]at I;have q:=r i v O n;rcases(N b I).1 with L|L
    ·exact h.apart i k v u b q s H L
    ·have B:i<vals.length:=by rw[<-h.len];exact A6 q
     have:=((h.row i v _ q (P3 B)).2 b H).2;omega
   ·exact h.apart i k v C b (r i v O n) (r k C hk o) H I
theorem Rs{w:World}{O:Nat->Prop}{u:Value}{l:List Int}(h:Bw w 3 1 u l.length (l.map (Value.int .i64)))(m:∀b,Ae u=some b->¬O b):Ay O w u (Ao 1 D.z l):=by
 rcases D7 h with⟨s,d,a,c⟩|⟨g,cap,cur,c,n,f,o,t,v,p,A⟩
 ·have:l=[]:=List.map_eq_nil_iff.1 d;subst this;rw[c];exact .emp _ _ _
 ·by_cases j:l=[]
  ·subst j;rw[c];exact .emp _ _ _
  ·have q:Ae u=some g:=by rw[c];simp[Ae,n]
   have e:=Ay.list (O:=O) (w:=w) g 0 cap 1 (l.map D.z) (λi _=>.int .i64 (l.getD i 0)) (by simpa using j) (Dz f) (m g q) (by simpa using o)
    (λx hx=>by obtain⟨r,_,rfl⟩:=List.mem_map.1 hx;rfl) (λx hx y hy=>by obtain⟨r,_,rfl⟩:=List.mem_map.1 hx;simp[D.cells]at hy;subst hy;rfl)
    (λi x k y hx hy=>by
     rw[uu]at hx
     cases hi:l[i]? with
     | none=>simp[hi]at hx
     | some z =>
       simp[hi]at hx;subst hx
       match k,hy with
       | 0,_ =>
         have:(l.map (Value.int .i64))[i]?=some (.int .i64 z):=by simp[hi]
         rw[<-p,vV,vg]at this;split at this
         ·rw[vV,vF,uQ];simp only[World.cell?,f];simp only[wz,vI,if_false];rw[<-vr,this];simp[uj,hi]
         ·cases this
       | k+1,hy=>simp[D.cells]at hy)
    (λi x k y hx hy=>by
     rw[uu]at hx
     cases hi:l[i]? with
     | none=>simp[hi]at hx
     | some z =>
       simp[hi]at hx;subst hx
       match k,hy with
       | 0,hy=>simp[D.cells]at hy;subst hy;simp[uj,hi];exact .int _ _
       | k+1,hy=>simp[D.cells]at hy)
   rw[c]
   simpa using e
theorem RM.start{n:Nat}{w:World}(c:Bw w T 1 u0 n us)(k:us.length=n)(d:∀(j:Nat) u,us[j]?=some u->∃a,u=.slice a 0 0):RM w w u0 T us (List.replicate n []):=by
 subst k
 have h:∀(j:Nat) u b,us[j]?=some u->Ae u≠some b:=λj u b m e=>by
  obtain⟨a,rfl⟩:=d j u m
  cases a<;>simp[Ae]at e
 refine⟨A8.refl _ _ _,by simp,c,λb e=>c.lt e,λj u l f g=>?_,λi j u v b f _ o _=>absurd o (h i u b f)⟩
 have:l=[]:=by
  rw[wP]at g;split at g
  ·exact(uc g).symm
  ·cases g
 subst this;obtain⟨a,rfl⟩:=d j u f;refine⟨?_,λb e=>absurd e (h j _ b f)⟩
 cases a with
 | none=>exact .inl (World.ownsRow_nil w _ _ _)
 | some a=>exact .inr ⟨rfl,rfl,a,rfl⟩
end
theorem El{B:Nat}{M:Nat->Prop}{w wr:World}(h:A8 B M w wr){b o:Nat}(a:b<B)(c:¬M b):wr.cell? ⟨b,o,none⟩=w.cell? ⟨b,o,none⟩:=World.cell?_of_block (w:=w) (h.block b a c)
theorem Rt{w:World}{e:TypeId}{sz:Nat}{v:Value}{n:Nat}{vals:List Value}(h:Bw w e sz v n vals):∃c gc,v=.slice c n gc/\(0<n->∃g,c=some ⟨g,0,none⟩/\Ae v=some g)/\vals.length=n*sz:=by
 rcases D7 h with⟨d,f,a,b⟩|⟨g,cap,cur,b,i,_,_,_,_,_,j⟩
 ·subst d;subst f;exact⟨a,0,b,λh=>absurd h (Nat.lt_irrefl _),by simp⟩
 ·exact⟨_,cap,b,λ_=>⟨g,rfl,by rw[b];simp[Ae,i]⟩,j⟩
theorem Vl{α:Type}(l:List α):(l.map λ_=>D.nil 1).flatMap D.cells=List.replicate l.length (D.nil 1):=by
 induction l with
 | nil=>rfl
 | cons x r ih=>rw[ul,vG,ih];rfl
theorem cS(l:List (List Int)):(l.map (Ao 1 D.z)).flatMap D.cells=l.map (Ao 1 D.z):=by
 induction l with
 | nil=>rfl
 | cons x r ih=>rw[ul,vG,ih];rfl
theorem pq{O:Nat->Prop}{w:World}{us:List Value}{n:Nat}(h:By O w us (List.replicate n (D.nil 1))):∀(j:Nat) u,us[j]?=some u->∃a,u=.slice a 0 0:=λj u b=>by
 have c:j<n:=by have:=A6 b;rw[h.1]at this;simpa using this
 have:=(h.2 j u (D.nil 1) b (by simp[c])).1
 cases this with
 | nil a=>exact⟨a,rfl⟩
theorem Zr{l:List Int}{k:Nat}(h:k<l.length):l.drop k=l.getD k 0 :: l.drop (k+1):=by
 rw[xe h];simp[uj,h]
def Td{α β:Type}(f:α->β->α)(a:List α)(b:List β)(j:Nat):List α:=(a.zipWith f b).take j++a.drop j
theorem kR{α β:Type}{f:α->β->α}{a:List α}{b:List β}(h:b.length=a.length){j:Nat}(c:j<a.length):(Td f a b j)[j]?=some a[j]:=by
 unfold Td;rw[uq (by simp;omega)];simp[h,c,we (Nat.le_of_lt c)]
theorem kS{α β:Type}{f:α->β->α}{a:List α}{b:List β}(h:b.length=a.length){j:Nat}(d:j<a.length):(Td f a b j).set j (f a[j] (b[j]'(by omega)))=Td f a b (j+1):=by
 apply vX;intro i;unfold Td;have g:(a.zipWith f b).length=a.length:=by simp[h]
 rw[vk];by_cases e:j=i
 ·subst e;rw[uk rfl,uk (by simp[h];omega),ut (by simp[h];omega),vJ (by omega)];simp[h,d]
 ·rw[uo e];by_cases c:i<j
  ·rw[ut (by simp[h];omega),ut (by simp[h];omega),vJ c,vJ (by omega)]
  ·rw[uq (by simp[h];omega),uq (by simp[h];omega)];simp only[uO,g,vh];congr 1;omega
theorem kQ{α β:Type}{f:α->β->α}{a:List α}{b:List β}(h:b.length=a.length):Td f a b a.length=a.zipWith f b:=by
 unfold Td;rw[List.drop_length,wV];exact vM (by simp[h])
structure CM(w0 wr:World)(u0:Value)(O:Nat->Prop)(T:TypeId)(sz n:Nat)(ds:List D):Prop where
 keep:A8 w0.heap.size (λb=>Ae u0=some b) w0 wr
 lt:∀b,Ae u0=some b->b<w0.heap.size/\O b
 old:∀b,O b->b<w0.heap.size
 row:∃vals,Bw wr T sz u0 n vals/\By O wr vals ds
section
variable {w0 wr w':World} {u0:Value} {O:Nat->Prop} {T:TypeId} {sz n:Nat} {ds:List D}
theorem CM.keepS(h:CM w0 wr u0 O T sz n ds)(a:RowKit.Below wr.heap.size wr w'):CM w0 w' u0 O T sz n ds:=by
 have f:=h.keep.size;obtain⟨vals,c,d⟩:=h.row;exact⟨h.keep.trans ⟨a.os,a.tape,a.output,a.size,λk hk _=>a.block k (by omega)⟩,h.lt,h.old,vals,c.mono λb e _=>a.block b e,d.mono (BA.world a)⟩
theorem CM.drew(h:CM w0 wr u0 O T sz n ds):CM w0 wr.drew u0 O T sz n ds:=h.keepS ⟨rfl,rfl,rfl,uh _,λ_ _=>rfl⟩
theorem CM.at_(h:CM w0 wr u0 O T sz n ds){g:Nat}(b:Ae u0=some g){c:Nat}(v:c<n*sz):∃u,wr.cell? ⟨g,c,none⟩=some u/\∃d,ds[c]?=some d/\Ay O wr u d/\d.one=true/\wr.frozen? ⟨g,c,none⟩=false:=by
 obtain⟨vals,o,i⟩:=h.row;rcases D7 o with⟨p,_⟩|⟨j,cap,cur,q,f,k,w,x,y,r,z⟩
 ·subst p;omega
 ·have:j=g:=by rw[q]at b;simp[Ae,f]at b;exact b
  subst this;have l:c<vals.length:=by omega
  have hd:c<ds.length:=by rw[<-i.1];exact l
  obtain⟨u,m⟩:∃u,vals[c]?=some u:=⟨_,P3 l⟩
  have a:wr.cell? ⟨j,c,none⟩=some u:=by
   have e:=m;rw[<-r,vg,uk (by omega)]at e;simp only[World.cell?,k];simp only[wz,vI,if_false];rw[<-vr,e]
  obtain⟨s,t⟩:=i.2 c u ds[c] m (P3 hd);exact⟨_,a,_,P3 hd,s,t,by simp[World.frozen?,k]⟩
theorem CM.set(h:CM w0 wr u0 O T sz n ds){g:Nat}(f:Ae u0=some g){c:Nat}(I:c<n*sz){v:Value}{d:D}(u:Ay O wr v d)(i:d.one=true):CM w0 (wr.setCell ⟨g,c,none⟩ v) u0 O T sz n (ds.set c d):=by
 obtain⟨vals,w,q⟩:=h.row;obtain⟨x,l⟩:=h.lt g f;have hk:BA O O wr (wr.setCell ⟨g,c,none⟩ v):=⟨by simp,λ_ _ h=>h,λb _ m=>blk_setCell_other _ _ _ _ (by show b≠g;exact λe=>m (e▸l))⟩;rcases D7 w with⟨z,_⟩|⟨o,cap,cur,r,p,m,A,B,C,E,F⟩
 ·subst z;omega
 ·have:o=g:=by rw[r]at f;simp[Ae,p]at f;exact f
  subst this;refine⟨⟨(by show wr.os=_;exact h.keep.os),(by show wr.tape=_;exact h.keep.tape),(by show wr.output=_;exact h.keep.output),by simpa using h.keep.size,λk hk s=>?_⟩,h.lt,h.old,vals.set c v,?_,by simp[q.1],λj y e hy a=>?_⟩
  ·rw[blk_setCell_other _ _ _ _ (by show k≠o;exact λe=>s (by rw[e];exact f))];exact h.keep.block k hk s
  ·refine .inl ⟨by simp[F],.inr ⟨o,cap,cur.setIfInBounds c v,r,ug _,by simp[World.setCell,wD,m],A,B,by simp[C],?_⟩⟩;rw[vQ,List.take_set,E]
  ·rw[vk]at hy a;by_cases t:c=j
   ·subst t;rw[uk rfl]at hy a;split at hy
    ·split at a
     ·obtain rfl:=uc hy;obtain rfl:=uc a;exact⟨u.mono hk,i⟩
     ·cases a
    ·cases hy
   ·rw[uo t]at hy a;obtain⟨G,H⟩:=q.2 j y e hy a;exact⟨G.mono hk,H⟩
theorem CM.start{w:World}{X:Cx}{β:Nat->Value}{S:AS}{G:Nat->Prop}{a:Act}{q:Nat}{vals:List Value}(e:SimB X G β S a w)(ho:(Ag S q).box.owned=true)(d:Bw w T sz (β q) n vals)(f:By (OS β X S) w vals ds):CM w w (β q) (OS β X S) T sz n ds :=
 ⟨A8.refl _ _ _,λb c=>⟨d.lt c,.inr (.inr ⟨q,ho,c⟩)⟩,λb c=>e.os_lt c,vals,d,f⟩
end
theorem CM.kept{w0 wr:World}{a:Value}{O:Nat->Prop}{T:TypeId}{sz n:Nat}{ds:List D}(h:CM w0 wr a O T sz n ds){g:Nat}(f:Ae a=some g)(c:Nat)(x:Value){v:Value}{d:D}(i:Ay O wr v d):Ay O (wr.setCell ⟨g,c,none⟩ x) v d :=
 i.mono ⟨by simp,λ_ _ h=>h,λb _ j=>blk_setCell_other _ _ _ _ (by show b≠g;exact λe=>j (e▸(h.lt g f).2))⟩
theorem dU{α:Type}{l:List α}{i:Nat}{x:α}(h:l[i]?=some x):l.set i x=l:=by
 apply vX;intro j;rw[vk];by_cases e:i=j
 ·subst e;rw[uk rfl,h,uk (A6 h)]
 ·rw[uo e]
theorem cQ{α:Type}(f:α->D)(a:∀x,(f x).cells.length=7):∀(l:List α)(k:Nat)(hk:k<l.length)(o:Nat),o<7->((l.map f).flatMap D.cells)[k*7+o]?=(f l[k]).cells[o]?
 | x :: r,0,_,o,ho=>by
   rw[ul,vG,Nat.zero_mul,uQ,ut (by rw[a];exact ho)];rfl
 | x :: r,k+1,hk,o,ho=>by
   rw[ul,vG,uq (by rw[a];omega),a,show(k+1)*7+o-7=k*7+o by omega,cQ f a r k (by simpa using hk) o ho];rfl
def Qi(w:World)(a:Addr):Value:=(w.cell? a).getD undef
theorem X1{w:World}{a:Addr}(h:(w.cell? a).isSome=true):w.cell? a=some (Qi w a):=by
 obtain⟨y,hy⟩:=Option.isSome_iff_exists.1 h;unfold Qi;rw[hy];rfl
theorem Zi{w:World}{g c o:Nat}{v:Value}(h:w.cell? ⟨g,c,none⟩=some (Qi w ⟨g,c,none⟩)):(w.setCell ⟨g,o,none⟩ v).cell? ⟨g,c,none⟩=some (Qi (w.setCell ⟨g,o,none⟩ v) ⟨g,c,none⟩):=by
 apply X1;by_cases e:o=c
 ·subst e;rw[World.cell?_setCell_same _ _ _ h];rfl
 ·rw[World.cell?_setCell_other _ _ _ _ (λq=>e (congrArg Addr.off q)),h];rfl
theorem CM.cell7{w0 wr:World}{f:Value}{O:Nat->Prop}{T:TypeId}{l:List An}(h:CM w0 wr f O T 7 l.length ((l.map A5).flatMap D.cells)){g:Nat}(n:Ae f=some g){k:Nat}(hk:k<l.length) :
 ∃a c b c',(wr.cell? ⟨g,k*7,none⟩=some (.slice a l[k].Q.length c)/\Ay O wr (.slice a l[k].Q.length c) (Ao 1 D.z l[k].Q))/\wr.cell? ⟨g,k*7+1,none⟩=some (.int .i64 l[k].Af)/\wr.cell? ⟨g,k*7+2,none⟩=some (.int .i64 l[k].A6) /\
  wr.cell? ⟨g,k*7+3,none⟩=some (.int .i64 l[k].A8)/\wr.cell? ⟨g,k*7+4,none⟩=some (.int .i64 l[k].Ba)/\wr.cell? ⟨g,k*7+5,none⟩=some (.int .i64 l[k].Bg) /\
  (wr.cell? ⟨g,k*7+6,none⟩=some (.slice b l[k].G.length c')/\Ay O wr (.slice b l[k].G.length c') (Ao 1 D.z l[k].G))/\∀o,o<7->wr.frozen? ⟨g,k*7+o,none⟩=false:=by
 have key:∀(o:Nat) d,o<7->(A5 l[k]).cells[o]?=some d->∃u,wr.cell? ⟨g,k*7+o,none⟩=some u/\Ay O wr u d/\wr.frozen? ⟨g,k*7+o,none⟩=false:=λo d ho hd=>by
  obtain⟨u,p,e,i,q,_,r⟩:=h.at_ n (c:=k*7+o) (by omega);rw[cQ A5 (λ_=>rfl) l k hk o ho,hd]at i;obtain rfl:=uc i;exact⟨u,p,q,r⟩
 obtain⟨W,s,j,t⟩:=key 0 _ (by omega) rfl;obtain⟨X,v,w,x⟩:=key 1 _ (by omega) rfl;obtain⟨Y,y,z,A⟩:=key 2 _ (by omega) rfl;obtain⟨Z,B,C,E⟩:=key 3 _ (by omega) rfl;obtain⟨v4,F,G,H⟩:=key 4 _ (by omega) rfl;obtain⟨v5,I,J,K⟩:=key 5 _ (by omega) rfl;obtain⟨v6,L,m,M⟩:=key 6 _ (by omega) rfl;obtain⟨a,c,_,_,N,_⟩:=Ht j;obtain⟨b,c',_,_,P,_⟩:=Ht m;have Q:=AJ w;have R:=AJ z;have S:=AJ C;have U:=AJ G;have V:=AJ J;subst N;subst Q;subst R;subst S;subst U;subst V;subst P;refine⟨a,c,b,c',⟨s,j⟩,v,y,B,F,I,⟨L,m⟩,λo ho=>?_⟩
 match o,ho with
 | 0,_=>exact t
 | 1,_=>exact x
 | 2,_=>exact A
 | 3,_=>exact E
 | 4,_=>exact H
 | 5,_=>exact K
 | 6,_=>exact M
theorem nh{w:World}{O:Nat->Prop}{B:Nat}{v:Value}{l:List Int}(h:Vb (λb=>B<=b) w v 1 3 (l.map D.z))(f:∀b,O b->b<B):Ay O w v (Ao 1 D.z l):=by
 obtain⟨_,_,g,vals,d,e⟩:=h;rw[JD]at e;obtain rfl:=Sb e;rw[ua]at d;exact Rs d λb a c=>by have:=g b a;have:=f b c;omega
