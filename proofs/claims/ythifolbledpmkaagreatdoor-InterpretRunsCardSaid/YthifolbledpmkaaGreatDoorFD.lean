/- FD -/
import Derived.Test.YthifolbledpmkaaGreatDoorChecked
import Derived.Test.YthifolbledpmkaaGreatDoorM4
import Derived.WalkKit
import Derived.Deep.LoopGhost
import Derived.Deep.Light
import Derived.Deep.AppendSrc
import Derived.RegionTactic
import Derived.Deep.RegionHeld3
import Derived.Maps.AppendAt
import Derived.Lib.Walk
import Derived.Lib.AppendZeros
open Option renaming none → κ
open List renaming length → Ξ
open Go.Proofs.Tryz
set_option linter.all false
open Option renaming some → θ, none → κ
namespace Go.Proofs.YthifolbledpmkaaGreatDoor.P
open Go Go.Abs Go.Proofs Go.Deep
set_option maxRecDepth 1000000
set_option maxHeartbeats 6400000
def Ab7:prog.underlying 25=some (TypeDesc.slice 35):=by kernel_rfl
def Ab6:(prog.info? 35).map (λi=>(i.zero,i.size,i.bytes))=some (some (Value.slice κ 0 0),1,24):=by kernel_rfl
def qe:prog.underlying 35=some (TypeDesc.slice 3):=by kernel_rfl
def zl:(prog.info? 3).map (λi=>(i.zero,i.size,i.bytes))=some (some (Value.int .i64 0),1,8):=by kernel_rfl
def Zf(m:Γ (Γ Int))(k i j a b:Nat):Int:=if a<i\/(a=i/\b<j)then Ng m (k+1) a b else Ng m k a b
def yY(m:Γ (Γ Int))(k i j:Nat):Zf m k i j i j=Ng m k i j:=by unfold Zf;rw[Zah z0]
def tB(m:Γ (Γ Int))(k i j a b:Nat):Zf m k i (j+1) a b=if a=i/\b=j then Ng m (k+1) i j else Zf m k i j a b:=by
 unfold Zf;by_cases h:a=i/\b=j
 ·obtain⟨rfl,rfl⟩:=h;rw[Zai z0,Zai ⟨rfl,rfl⟩]
 ·rw[Zah h];by_cases h2:a<i\/(a=i/\b<j)
  ·rw[Zai h2,Zai z0]
  ·rw[Zah h2,Zah z0]
def ww(m:Γ (Γ Int)){k i n a b:Nat}(c:b<n):Zf m k i n a b=Zf m k (i+1) 0 a b:=by
 unfold Zf;by_cases h2:a<i\/(a=i/\b<n)
 ·rw[Zai h2,Zai z0]
 ·rw[Zah h2,Zah z0]
def wu(m:Γ (Γ Int)){k n a b:Nat}(c:a<n):Zf m k n 0 a b=Ng m (k+1) a b:=by unfold Zf;rw[Zai z0]
def tD(m:Γ (Γ Int))(k a b:Nat):Zf m k 0 0 a b=Ng m k a b:=by unfold Zf;rw[Zah z0]
def uU(m:Γ (Γ Int))(n:Nat)(W:0<Ξ m)(I:∀r,r<Ξ m->Ξ (m.getD r [])=n)(h0:0<n)(hb:n<=1000000)(M:Ξ m<=1000000)(w:Λ)(ga:Δ Addr)(gb go Gc:Nat)(A:Nat->Δ Addr)(C RB RO:Nat->Nat)(v:Ψ)
 (s:eZ w v m ga gb go Gc A C RB RO) (N:gb<w.heap.size) (t:∀r,r<Ξ m->∀c,c<n->RB r<w.heap.size):
 Calls prog 214 #[v] w λe w'=>e=.returned (.slice (some ⟨w.heap.size,0,κ⟩) n n)/\Mx w w' 35 3 n (λ_=>n) (Ng m (Ξ m)):=by
 obtain rfl:=s.val;obtain rfl:=s.ga W;have h:∀r,r<Ξ m->w.cell? ⟨gb,go+r,κ⟩=some (.slice (A r) n (C r)):=λr hr=>by rw[s.row r hr,I r hr]
 have J:∀r,r<Ξ m->∀c,c<n->A r=some ⟨RB r,RO r,κ⟩/\w.cell? ⟨RB r,RO r+c,κ⟩=some (.int .i64 (Pk m r c)):=λr hr c hc=>s.cell r hr c (by rw[I r hr];exact hc);have l:w.cell? ⟨gb,go,κ⟩=some (.slice (A 0) n (C 0)):=z5
 obtain⟨G,O⟩:∃G,G=Ξ m:=⟨_,rfl⟩;rw[<-O]at W I t h J M ⊢;have hmz:(0:Int)<(G:Int):=z0
 have HG:Aside (G=Ξ m):=O;clear s I O;have z:=run_make_row' (P:=prog) 25 35 (.slice κ 0 0) 24 Ab7 Ab6 rfl .i64 .i64 n z0 z0
 go_enter func214,ntmps214
 go_wp2
 clear z l
 go_loopg [18] n (λg i wr=>∃r:Nat,r<=n/\g=n-r/\i=.int .i64 r/\R6 w wr 35 3 n (λ_=>n) (λ_ _=>0) r)
 case atStart=>exact⟨0,Zag _,rfl,rfl,R6.start w _ _ n _ _⟩
 case round=>
  obtain⟨r,hr,rfl,rfl,p⟩:=hrel;by_cases Q:r<n
  ·have R:(r:Int)<(n:Int):=z0
   have S:=p.size;have X:=run_make_row' (P:=prog) 35 3 (.int .i64 0) 8 qe zl rfl .i64 .i64 n z0 z0;have Y:∀o,(wr.alloc o).cell? ⟨w.heap.size,r,κ⟩=some (.slice κ 0 0):=λo=>by simpa using(p.top.alloc o).cell Q
   have Z:∀o,(wr.alloc o).frozen? ⟨w.heap.size,r,κ⟩=false:=λo=>(p.top.alloc o).frozen r
   go_wp2
   go_roundg (n-(r+1))
   case measure=>go_light;omega
   case rel=>
    go_light
    refine⟨r+1,z0,rfl,by go_num,(p.step (u:=wr.alloc (.cells (madeCells #[.int .i64 0] n) 3)) (c:=n) (Zam _) ⟨rfl,rfl,rfl,zs,λk K=>blk_alloc_lt _ _ _ K⟩ zs (World.rowIs_made wr (.int .i64 0) n _)).cp_congr (λj _=>by split<;>rfl)⟩
  ·obtain rfl:r=n:=z0
   have R:¬((r:Int)<(r:Int)):=z0
   have hM:=p.done;clear p
   go_wp2
   have B:Mx w wr 35 3 r (λ_=>r) (Ng m 0):=hM.congr λi j _ _=>rfl;clear hM
   go_loopg [30] G (λg i wi=>∃k:Nat,k<=G/\g=G-k/\i=.int .i64 k/\Mx w wi 35 3 r (λ_=>r) (Ng m k))
   case atStart=>exact⟨0,Zag _,rfl,rfl,B⟩
   case round=>
    clear B;obtain⟨k,K,rfl,rfl,D⟩:=hrel;by_cases d:k<G
    ·have T:(k:Int)<(G:Int):=z0
     have g0:wr.cell? ⟨gb,go+k,κ⟩=some (.slice (some ⟨RB k,RO k,κ⟩) r (C k)):=by rw[D.since.cell (a:=⟨gb,go+k,κ⟩) N,h k d,(J k d 0 h0).1]
     go_wp2
     clear g0;have hP:Mx w wr 35 3 r (λ_=>r) (Zf m k 0 0):=D.congr λi j _ _=>(tD m k i j).symm;clear D
     go_loopg [36] r (λg i wj=>∃a:Nat,a<=r/\g=r-a/\i=.int .i64 a/\Mx w wj 35 3 r (λ_=>r) (Zf m k a 0))
     case atStart=>exact⟨0,Zag _,rfl,rfl,hP⟩
     case round=>
      clear hP;obtain⟨a,ha,rfl,rfl,L⟩:=hrel;by_cases f:a<r
      ·have U:(a:Int)<(r:Int):=z0
       have E:=t k d a f;have F:=(J k d a f).2;have g1:wr.cell? ⟨RB k,RO k+a,κ⟩=some (.int .i64 (Pk m k a)):=by rw[L.since.cell (a:=⟨RB k,RO k+a,κ⟩) E];exact F
       clear F
       go_wp2
       clear g1
       go_loopg [43] r (λg i wl=>∃b:Nat,b<=r/\g=r-b/\i=.int .i64 b/\Mx w wl 35 3 r (λ_=>r) (Zf m k a b))
       case atStart=>exact⟨0,Zag _,rfl,rfl,L⟩
       case round=>
        clear L;obtain⟨b,hb',rfl,rfl,q⟩:=hrel;by_cases H:b<r
        ·have V:(b:Int)<(r:Int):=z0
         have g1:wr.cell? ⟨RB k,RO k+b,κ⟩=some (.int .i64 (Pk m k b)):=by rw[q.since.cell (a:=⟨RB k,RO k+b,κ⟩) E];exact(J k d b H).2
         have g2:wr.cell? ⟨w.heap.size,a,κ⟩=some (.slice (some ⟨w.heap.size+1+a,0,κ⟩) r r):=q.top.cell f;have g3:wr.cell? ⟨w.heap.size+1+a,b,κ⟩=some (.int .i64 (Ng m k a b)):=by rw[<-yY];exact(q.row a f).cell H
         have g4:wr.frozen? ⟨w.heap.size+1+a,b,κ⟩=false:=(q.row a f).frozen b
         go_wp2
         go_roundg (r-(b+1))
         case measure=>go_light;omega
         case rel=>
          go_light
          exact⟨b+1,z0,rfl,by go_num,q.set _ λx y _ _=>(tB m k a b x y).trans (by simp only[Ng,IntKind.wrap_i64,RowKit.wrap64])⟩
        ·have V:¬((b:Int)<(r:Int)):=z0
         go_wp2
         go_roundg (r-(a+1))
         case measure=>go_light;omega
         case rel=>
          go_light
          obtain rfl:b=r:=z0
          exact⟨a+1,z0,rfl,by go_num,q.congr λx y _ hy=>ww m hy⟩
      ·have U:¬((a:Int)<(r:Int)):=z0
       go_wp2
       go_roundg (G-(k+1))
       case measure=>go_light;omega
       case rel=>
        go_light
        obtain rfl:a=r:=z0
        exact⟨k+1,z0,rfl,by go_num,L.congr λx y hx _=>wu m hx⟩
    ·have T:¬((k:Int)<(G:Int)):=z0
     go_wp2
     go_ret
     have K:k=G:=z0
     rw[K]at D;exact⟨rfl,D⟩
section
open Go.Abs Go.Proofs
def z40{p:Prop}(h:p:=by obtain rfl:=Zaf ho;clear hd;go_simp;exact hK):p:=h
open Go Go.Deep
theorem FG{α:Type}{l:Γ α}{n}(h:Ξ l=n+1):∃x r,l=x::r/\Ξ r=n:=by
 cases l with
 | nil=>cases h
 | cons x r=>exact⟨x,r,rfl,by simpa using h⟩
def ax{α:Type}{l:Γ α}{n}(h:Ξ l=n+8):∃a b c d e f g i r,l=a::b::c::d::e::f::g::i::r/\Ξ r=n:=by
 obtain⟨a,t,rfl,h1⟩:=FG h;obtain⟨b,u,rfl,h2⟩:=FG h1;obtain⟨c,v,rfl,j⟩:=FG h2;obtain⟨d,w,rfl,k⟩:=FG j;obtain⟨e,x,rfl,m⟩:=FG k;obtain⟨f,y,rfl,o⟩:=FG m;obtain⟨g,z,rfl,p⟩:=FG o;obtain⟨i,q,rfl,s⟩:=FG p;exact⟨a,b,c,d,e,f,g,i,q,rfl,s⟩
def ai{P}{x:Code}{a}{w}{R:Act->Λ->Prop}(h:∀K:Exit->Act->Λ->Prop,Aside (∀b w',R b w'->K .normal b w')->x.wp P K a w):x.wp P (λe b w'=>e=.normal/\R b w') a w:=h _ λ_ _ hr=>⟨rfl,hr⟩
def K5 w o:RowKit.Below w.heap.size w (w.alloc o):=⟨rfl,rfl,rfl,zs,λk a=>blk_alloc_lt w o k a⟩
def eh{X}{G}{β}{S}{a}{w}(h:SimB X G β S a w)t{v}{x}(b:a.tmps[t]?=θ v)(hx:(An S t).av=.d x):A5 (OS β X S) w v x:=by
 have:=h.slots t v b;rw[hx]at this;exact this
def Aar{X}{G}{β}{S}{a}{w}(h:SimB X G β S a w)t{v}{q n}(b:a.tmps[t]?=θ v)(hx:(An S t).av=.sl q n)(c:(An S q).ver=n):v=β q:=by
 have:=h.slots t v b;rw[hx]at this;exact this.2 c.symm
def V3{X}{G}{β}{S}{a}{w}(h:SimB X G β S a w)t{v}{q n o}(c:a.tmps[t]?=θ v)(hx:(An S t).av=.ptr q n o)(d:(An S q).ver=n):∃b,β q=.pointer (θ ⟨b,0,κ⟩)/\v=.pointer (θ ⟨b,o,κ⟩):=by
 have:=h.slots t v c;rw[hx]at this;exact this.2 d.symm
def bT{X}{G}{β}{S}{a}{w}(_:SimB X G β S a w)q(ho:(An S q).box.owned=true):∀b,Ai (β q)=θ b->OS β X S b:=λ_ c=>.inr (.inr ⟨q,ho,c⟩)
def V4{X}{G}{β}{S}{a}{w}(h:SimB X G β S a w)q{cs}(hx:(An S q).box=.var cs):∃b vals T,β q=.pointer (θ ⟨b,0,κ⟩)/\w.heap[b]?=θ (.cells vals T (0,0))/\vals.size=Ξ cs /\
 ∀j c,cs[j]?=θ c->∃u,w.cell? ⟨b,j,κ⟩=θ u/\CI β (AU S) (OS β X S) w u c:=by
 have:=h.boxes q;rw[hx]at this;have⟨b,vals,T,h1,h2,d,g⟩:=this;refine⟨b,vals,T,h1,h2,d,λj c e=>?_⟩;have f:j<vals.size:=by rw[d];exact AG e
 exact⟨vals[j],by simp[World.cell?,h2,f],g j _ c (by simp[f]) e⟩
def _root_.Go.Abs.SimB.conv{X}{G}{β}{S S'}{a}{w}(h:SimB X G β S a w)(e:S=S'):SimB X G β S' a w:=e▸h
theorem gz{q vb}{x y}{m}{f:Nat->Nat}:∀B i u,i≠q->i≠vb->D2 (B.map λp=>if p.1=q then(q,x,m)else if p.1=vb then(vb,y,f p.2.2)else p) i u=D2 B i u
 | [],_,_,_,_=>rfl
 | (s,z,j)::r,i,u,h1,h2=>by
   have ih:=gz (q:=q) (vb:=vb) (x:=x) (y:=y) (m:=m) (f:=f) r i u h1 h2;rw[Zas];by_cases a:s=q;rw[Zai a];show(match Nat.beq q i with|true=>_|false=>_)=(match Nat.beq s i with|true=>_|false=>_);have b:Nat.beq q i=false:=Bool.eq_false_iff.2 λh=>h1 (Zcc h).symm;rw[a,b];exact ih;rw[Zah a];by_cases c:s=vb;rw[Zai c];show(match Nat.beq vb i with|true=>_|false=>_)=(match Nat.beq s i with|true=>_|false=>_);have b:Nat.beq vb i=false:=Bool.eq_false_iff.2 λh=>h2 (Zcc h).symm;rw[c,b];exact ih;rw[Zah c];unfold D2
   cases Nat.beq s i
   exact ih;rfl
def ud{n q vb}{x y}{m mv}{B}(h1:∀u,D2 (B.map λp=>if p.1=q then(q,x,m)else if p.1=vb then(vb,y,p.2.2)else p) q u=⟨u,x,m⟩)(h2:∀u,D2 (B.map λp=>if p.1=q then(q,x,m)else if p.1=vb then(vb,y,p.2.2)else p) vb u=⟨u,y,mv⟩):
 ∀i u,i<n->D2 (B.map λp=>if p.1=q then(q,x,m)else if p.1=vb then(vb,y,p.2.2)else p) i u=if i=q then⟨u,x,m⟩else if i=vb then⟨u,y,mv⟩else D2 B i u:=λi u _=>by
 by_cases b:i=q;rw[Zai b,b];exact h1 u;rw[Zah b];by_cases c:i=vb;rw[Zai c,c];exact h2 u;rw[Zah c];exact gz (f:=λa=>a) B i u b c
def EM{w}{e}{sz}{v}{n}{vals}(h:BM w e sz v n vals):
 (n=0/\vals=[]/\∃a,v=.slice a 0 0) \/
 ∃g cap cur,v=.slice (θ ⟨g,0,κ⟩) n cap/\cap≠0/\w.heap[g]?=θ (.cells cur e (0,0))/\n<=cap/\cap<=maxLen/\cur.size=cap*sz/\cur.toList.take (n*sz)=vals/\Ξ vals=n*sz:=by
 rcases h with⟨c,⟨b,d⟩|⟨g,cap,cur,b,_,i,h1,h2,j,k⟩⟩|⟨d,h1,a,b⟩;subst d;exact .inl ⟨rfl,Zau (by simpa using c),κ,b⟩;by_cases f:cap=0;have l:n=0:=z0;subst l;subst f;exact .inl ⟨rfl,Zau (by simpa using c),_,b⟩;exact .inr ⟨g,cap,cur,b,f,i,h1,h2,j,k,c⟩;exact .inl ⟨d,h1,_,b⟩
theorem qQ{w}{u}{l}{x}{vb vc}(I:BM w 3 1 u (Ξ l) (l.map (Value.int .i64)))(O:Ξ l<=2000000)(hx:w.cell? ⟨vb,0,κ⟩=θ (.int .i64 x)):
 ∃u' w',(Builtin.append_ #[35,35] 35 #[u,.slice (θ ⟨vb,0,κ⟩) 1 vc]).run prog w=.ok u' w'/\BM w' 3 1 u' (Ξ l+1) ((l++[x]).map (Value.int .i64))/\AC w.heap.size (λb=>Ai u=θ b) w w' /\
  ∀b,Ai u'=θ b->Ai u=θ b\/b=w.heap.size:=by
 have⟨t,o,z,e,A⟩:=info_parts zl
 have p:Src prog t.size 35 (.slice (θ ⟨vb,0,κ⟩) 1 vc) 1 [.int .i64 x] w:=by
  rw[e]
  exact Src.ofSlice w qe ⟨vb,0,κ⟩ 1 vc [.int .i64 x] zs (λj y c=>by
   match j,c with
   | 0,c=>simp at c;subst c;exact hx
   | j+1,c=>simp at c) (λy hy=>by simp at hy;subst hy;rfl)
 have h:∀(base:Δ Addr)(cap:Nat)(f:Γ Ψ),f=l.map (Value.int .i64)->u=.slice base (Ξ l) cap->cap<Ξ l+1->(Builtin.firstCells t.size (Ξ l) (.slice base (Ξ l) cap)).run prog w.drew=.ok f.toArray w.drew->
  ∃u' w',(Builtin.append_ #[35,35] 35 #[u,.slice (θ ⟨vb,0,κ⟩) 1 vc]).run prog w=.ok u' w'/\BM w' 3 1 u' (Ξ l+1) ((l++[x]).map (Value.int .i64))/\AC w.heap.size (λb=>Ai u=θ b) w w' /\
   ∀b,Ai u'=θ b->Ai u=θ b\/b=w.heap.size:=by
  intro base cap f ho d m q;have hr:=run_append_grow_src w 35 35 35 3 t _ qe o z base (Ξ l) cap f q _ 1 [.int .i64 x] p m z0 (by rw[A];exact growslice_fits m z0);have J:=grownCap_ge w (Ξ l+1) cap 3;have K:=grownCap_le_maxLen w (Ξ l+1) cap 3 (by unfold maxLen;omega);refine⟨_,_,by rw[d];exact hr,.inl ⟨zs,.inr ⟨w.heap.size,_,_,rfl,Zag _,heap_alloc_new w.drew _,J,K,?_,?_⟩⟩,⟨rfl,rfl,rfl,zs,λk L _=>blk_alloc_lt w.drew _ _ L⟩,λb n=>.inr (by simp[Ai]at n;exact n.2.symm)⟩;rw[Array.size_append,size_zeroCells,ho];simp[Value.cells];omega;rw[Array.toList_append,ho];show((l.map (Value.int .i64)++[Value.int .i64 x])++_).take _=_;rw[show(Ξ l+1)*1=Ξ (l.map (Value.int .i64)++[Value.int .i64 x]) by simp,Zfd];simp
 rcases EM I with⟨Q,B,a,d⟩|⟨g,cap,cur,d,F,n,h1,h2,C,D,R⟩;have E:l=[]:=List.map_eq_nil_iff.1 B;subst E;refine h a 0 [] rfl d zs ?_;rw[e]
 cases a with
 | none=>exact run_firstCells_none w.drew 1 0 0 0
 | some a=>exact run_firstCells_some w.drew 1 0 a 0 0 [] zs (λj v c=>by simp at c)
 by_cases i:Ξ l+1<=cap;have G:w.ownsRow 0 3 1 u (Ξ l) (l.map (Value.int .i64)):=⟨zs,.inr ⟨g,cap,cur,d,Zag _,n,h1,h2,by simpa using C,by simpa using D⟩⟩
 have hr:=run_append_room (P:=prog) w 35 35 3 t qe o g (Ξ l) cap cur n ⟨vb,0,κ⟩ 1 vc [.int .i64 x] (by rw[e];rfl) (λj y c=>by
  match j,c with
  | 0,c=>simp at c;subst c;exact hx
  | j+1,c=>simp at c) (λy hy=>by simp at hy;subst hy;rfl) i (by rw[e,C];simp;omega)
 have H:Ai u=θ g:=by rw[d];simp[Ai,F]
 refine⟨_,_,by rw[d];exact hr,.inl ⟨zs,.inr ⟨g,cap,_,rfl,Zag _,setRow_heap w g cur _ _ _ n,i,h2,?_,?_⟩⟩,AC.setRow _ w _ (.inr H),λb r=>.inl (by rw[H];simp[Ai,F]at r;rw[r])⟩;simp only[Zdt,Zar,Zan,Zcd,Zbv,e,C,List.length_singleton];omega;rw[e]at *;have M:cur.toList.take (Ξ l*1)=l.map (Value.int .i64):=D;have N:(Ξ l+1)*1=Ξ (l.map (Value.int .i64)++[Value.int .i64 x]):=zs;rw[N,M];rw[show(l++[x]).map (Value.int .i64)=l.map (Value.int .i64)++[Value.int .i64 x] by simp];exact Zfd;refine h _ cap _ rfl d z0 ?_;rw[e]
 exact run_firstCells_some w.drew 1 (Ξ l) ⟨g,0,κ⟩ (Ξ l) cap (l.map (Value.int .i64)) zs (λj v c=>by
  rw[Addr.add_lit,Zbn];have s:=D;rw[Zdu]at s;rw[<-s,Zbw]at c;split at c;show w.cell? ⟨g,j,κ⟩=_;simp only[World.cell?,n];simp only[Zek,Zcz,if_false];rw[<-Zcp,c]
  cases c)
theorem yH{t e}{z}{sz bytes}(G:prog.underlying t=θ (TypeDesc.slice e))(U:(prog.info? e).map (λi=>(i.zero,i.size,i.bytes))=θ (θ z,sz,bytes))(H:z.cells.size=sz)(V:0<sz){w}{u}{n}{vals ws}{vb vc}(N:BM w e sz u n vals)(hn:n<=1000000)(I:bytes<=1000)(c:Ξ ws=sz)(A:∀x∈ws,x.oneCell'=true)(hx:∀(j:Nat) x,ws[j]?=θ x->w.cell? ⟨vb,j,κ⟩=θ x):
 ∃u' w',(Builtin.append_ #[t,t] t #[u,.slice (θ ⟨vb,0,κ⟩) 1 vc]).run prog w=.ok u' w'/\BM w' e sz u' (n+1) (vals++ws)/\AC w.heap.size (λb=>Ai u=θ b) w w' /\
  ∀b,Ai u'=θ b->Ai u=θ b\/b=w.heap.size:=by
 have⟨B,C,J,h,K⟩:=info_parts U
 have D:Src prog B.size t (.slice (θ ⟨vb,0,κ⟩) 1 vc) 1 ws w:=by
  rw[h];exact Src.ofSlice w G ⟨vb,0,κ⟩ 1 vc ws z0 (λj y o=>by rw[Addr.add_lit,Zbn];exact hx j y o) A
 have l:Ξ vals=n*sz:=by
  rcases EM N with⟨L,r,_⟩|⟨_,_,_,_,_,_,_,_,_,_,O⟩;rw[L,r];simp;exact O
 have M:(n+1)*bytes<=140737488355328:=Zbl (Zec (show n+1<=1000001 by omega) I) j0
 have m:∀(base:Δ Addr)(cap:Nat),u=.slice base n cap->cap<n+1->(Builtin.firstCells B.size n (.slice base n cap)).run prog w.drew=.ok vals.toArray w.drew->
  ∃u' w',(Builtin.append_ #[t,t] t #[u,.slice (θ ⟨vb,0,κ⟩) 1 vc]).run prog w=.ok u' w'/\BM w' e sz u' (n+1) (vals++ws)/\AC w.heap.size (λb=>Ai u=θ b) w w' /\
   ∀b,Ai u'=θ b->Ai u=θ b\/b=w.heap.size:=by
  intro base cap d p E;have hr:=run_append_grow_src w t t t e B _ G C J base n cap vals E _ 1 ws D p z0 (by rw[K];exact growslice_fits p M);have W:=grownCap_ge w (n+1) cap e;have X:=grownCap_le_maxLen w (n+1) cap e (by unfold maxLen;omega);refine⟨_,_,by rw[d];exact hr,.inl ⟨by simp[l,c,Zcu],.inr ⟨w.heap.size,_,_,rfl,Zag _,heap_alloc_new w.drew _,W,X,?_,?_⟩⟩,⟨rfl,rfl,rfl,zs,λk Y _=>blk_alloc_lt w.drew _ _ Y⟩,λb s=>.inr (by simp[Ai]at s;exact s.2.symm)⟩;rw[Array.size_append,size_zeroCells,H];simp only[Zdt,Zar,l,c];rw[<-Nat.succ_mul,<-Zcu,show n.succ+(grownCap w (n+1) cap e-(n+1))=grownCap w (n+1) cap e by omega];rw[Array.toList_append];show((vals++ws)++_).take _=_;rw[show(n+1)*sz=Ξ (vals++ws) by simp[l,c,Zcu],Zfd]
 rcases EM N with⟨L,r,a,d⟩|⟨g,cap,cur,d,Q,s,h1,h2,R,S,O⟩;subst L;subst r;refine m a 0 d zs ?_;rw[h]
 cases a with
 | none=>exact run_firstCells_none w.drew sz 0 0 0
 | some a=>exact run_firstCells_some w.drew sz 0 a 0 0 [] zs (λj v o=>by simp at o)
 by_cases f:n+1<=cap
 have q:n*B.size+Ξ ws<=cur.size:=by
  rw[h,R,c,<-Nat.succ_mul];exact Zcx _ f
 have hr:=run_append_room (P:=prog) w t t e B G C g n cap cur s ⟨vb,0,κ⟩ 1 vc ws (by rw[h,c,Nat.one_mul]) (λj y o=>by rw[Addr.add_lit,Zbn];exact hx j y o) A f q;have T:Ai u=θ g:=by rw[d];simp[Ai,Q]
 refine⟨_,_,by rw[d];exact hr,.inl ⟨by simp[l,c,Zcu],.inr ⟨g,cap,_,rfl,Zag _,setRow_heap w g cur _ _ _ s,f,h2,?_,?_⟩⟩,AC.setRow _ w _ (.inr T),λb F=>.inl (by rw[T];simp[Ai,Q]at F;rw[F])⟩;simp only[Zdt,Zar,Zan,Zcd,Zbv];rw[R]at q ⊢;omega;rw[h];have Z:cur.toList.take (n*sz)=vals:=S;rw[show(n+1)*sz=Ξ (vals++ws) by simp[l,c,Zcu],Z];exact Zfd;refine m _ cap d z0 ?_;rw[h]
 exact run_firstCells_some w.drew sz n ⟨g,0,κ⟩ n cap vals l (λj v o=>by
  rw[Addr.add_lit,Zbn];rw[<-S,Zbw]at o;split at o;show w.cell? ⟨g,j,κ⟩=_;simp only[World.cell?,s];simp only[Zek,Zcz,if_false];rw[<-Zcp,o]
  cases o)
def jO{f}{args}{r}(h:A9 prog f args r){X}{G}{β}{S}{a}{w wr}(n:SimB X G β S a w){M}(o:∀b,M b->OS β X S b)(m:AC w.heap.size M w wr)vs(d:vs.size=Ξ args)(c:∀(i:Nat) v x,vs[i]?=θ v->args[i]?=θ x->Wo (OS β X S) w v x):
 Calls prog f vs wr λe w'=>∃v,e=.returned v/\RowKit.Below wr.heap.size wr w'/\Eu (λb=>wr.heap.size<=b) (λb=>OS β X S b\/(w.heap.size<=b/\b<wr.heap.size)) w' v r:=by
 have j:Cg (OS β X S) (λb=>OS β X S b\/(w.heap.size<=b/\b<wr.heap.size)) w wr:=⟨m.size,λb k l=>l.elim id λh=>z0,λb k l=>m.block b k λp=>l (o b p)⟩;exact h.2 (λb=>OS β X S b\/(w.heap.size<=b/\b<wr.heap.size)) wr vs (λb l=>l.elim (λh=>Zbc (n.os_lt h) m.size) λh=>h.2) (λg cs q=>(n.glob g cs q).mono j) d λi v x s hx=>(c i v x s hx).mono j
def Zm{f}{args}{r}(h:A9 prog f args r){X}{G}{β}{S}{a}{w wr}(m:SimB X G β S a w){M}(n:∀b,M b->OS β X S b)(j:AC w.heap.size M w wr)vs(d:vs.size=Ξ args)(c:∀(i:Nat) v x,vs[i]?=θ v->args[i]?=θ x->Wo (OS β X S) wr v x):
 Calls prog f vs wr λe w'=>∃v,e=.returned v/\RowKit.Below wr.heap.size wr w'/\Eu (λb=>wr.heap.size<=b) (OS β X S) w' v r:=
 h.2 (OS β X S) wr vs (λb k=>Zbc (m.os_lt k) j.size) (λg cs o=>(m.glob g cs o).mono ⟨j.size,λ_ _ h=>h,λb l k=>j.block b l λp=>k (n b p)⟩) d c
def kQ{a b c}(h:RowKit.Below a.heap.size a b)(k:RowKit.Below b.heap.size b c):RowKit.Below a.heap.size a c:=⟨k.os.trans h.os,k.tape.trans h.tape,k.output.trans h.output,Zbl h.size k.size,λi d=>(k.block i (Zbc d h.size)).trans (h.block i d)⟩
def IY{a b}(h:RowKit.Below a.heap.size a b){c o}(d:c<a.heap.size):b.cell? ⟨c,o,κ⟩=a.cell? ⟨c,o,κ⟩:=World.cell?_of_block (w:=a) (h.block c d)
structure RM(w0 wr:World)(u0:Value)(T:TypeId)(us:List Value)(vals:List (List Int)):Prop where
 keep:AC w0.heap.size (λb=>Ai u0=some b) w0 wr
 len:Ξ us=Ξ vals
 top:BM wr T 1 u0 (Ξ us) us
 lt:∀b,Ai u0=some b->b<w0.heap.size
 row:∀(j:Nat) u l,us[j]?=some u->vals[j]?=some l->BM wr 3 1 u (Ξ l) (l.map (Value.int .i64))/\∀b,Ai u=some b->w0.heap.size<=b/\b<wr.heap.size
 apart:∀(i j:Nat) u v b,us[i]?=some u->us[j]?=some v->Ai u=some b->Ai v=some b->i=j
section
variable {w0 wr w':Λ} {u0:Ψ} {T:Υ} {us:Γ Ψ} {vals:Γ (Γ Int)}
def RM.keepS(h:RM w0 wr u0 T us vals)(a:RowKit.Below wr.heap.size wr w'):RM w0 w' u0 T us vals:=by
 have f:=h.keep.size;refine⟨h.keep.trans ⟨a.os,a.tape,a.output,a.size,λk g _=>a.block k z0⟩,h.len,h.top.mono λb c _=>a.block b c,h.lt,λj u l h1 h2=>?_,h.apart⟩;have⟨e,d⟩:=h.row j u l h1 h2;exact⟨e.mono λb c _=>a.block b c,λb c=>⟨(d b c).1,Zbc (d b c).2 a.size⟩⟩
def RM.at_(h:RM w0 wr u0 T us vals){j}{u}(a:us[j]?=θ u):∃g cap cur,u0=.slice (θ ⟨g,0,κ⟩) (Ξ us) cap/\cap≠0/\Ai u0=θ g/\wr.heap[g]?=θ (.cells cur T (0,0))/\Ξ us<=cap/\cap<=maxLen/\cur.size=cap/\cur.toList.take (Ξ us)=us/\wr.cell? ⟨g,j,κ⟩=θ u:=by
 have b:=AG a;rcases EM h.top with⟨k,_⟩|⟨g,cap,cur,d,e,f,h1,h2,i,c,l⟩;omega;rw[Zdu]at i c;refine⟨g,cap,cur,d,e,by rw[d];simp[Ai,e],f,h1,h2,i,c,?_⟩;rw[<-c,Zbw,Zai b]at a;simp only[World.cell?,f];simp only[Zek,Zcz,if_false];rw[<-Zcp,a]
def RM.step(h:RM w0 wr u0 T us vals){j}{u u'}{l}{x}(p:us[j]?=θ u)(L:vals[j]?=θ l)(hr:BM w' 3 1 u' (Ξ l+1) ((l++[x]).map (Value.int .i64)))(f:AC wr.heap.size (λb=>Ai u=θ b) wr w')(M:∀b,Ai u'=θ b->(Ai u=θ b\/b=wr.heap.size)/\b<w'.heap.size){g}(O:Ai u0=θ g):RM w0 (w'.setCell ⟨g,j,κ⟩ u') u0 T (us.set j u') (vals.set j (l++[x])):=by
 have⟨a,cap,cur,S,e1,U,V,W,X,Y,Z,_⟩:=h.at_ p;obtain rfl:a=g:=Zaf (U.symm.trans O);have C:=AG p;have hgl:=h.lt a O;have hz:=h.keep.size;have D:Ai u≠θ a:=λe=>by have:=((h.row j u l p L).2 a e).1;omega
 have E:Ai u'≠θ a:=λe=>by
  rcases(M a e).1 with q|q;exact D q;omega
 have P:w'.heap[a]?=θ (.cells cur T (0,0)):=by rw[f.block a z0 D];exact V
 have F:(w'.setCell ⟨a,j,κ⟩ u').heap[a]?=θ (.cells (cur.setIfInBounds j u') T (0,0)):=by simp[World.setCell,Zex,P]
 have c:∀b,b≠a->(w'.setCell ⟨a,j,κ⟩ u').heap[b]?=w'.heap[b]?:=λb f=>blk_setCell_other _ _ _ _ (by show b≠a;exact f);have s:(w'.setCell ⟨a,j,κ⟩ u').heap.size=w'.heap.size:=zs;refine⟨⟨(by show w'.os=_;rw[f.os,h.keep.os]),(by show w'.tape=_;rw[f.tape,h.keep.tape]),(by show w'.output=_;rw[f.output,h.keep.output]),by rw[s];exact Zbl hz f.size,λk t R=>?_⟩,by simp[h.len],?_,h.lt,λi v m h1 h2=>?_,λi k v B b h1 h2 G H=>?_⟩;rw[c k (λe=>R (by rw[e];exact O)),f.block k z0 (λe=>by have:=((h.row j u l p L).2 k e).1;omega)];exact h.keep.block k t R;refine .inl ⟨zs,.inr ⟨a,cap,_,by rw[S];simp,Zag _,F,by simpa using W,X,by simp[Y],?_⟩⟩;rw[Zdm,Zdu,Zdo,List.take_set,Z];rw[Zbz]at h1 h2;by_cases w:j=i;subst w;have I:=AG L;simp[C]at h1;simp[I]at h2;subst h1;subst h2;refine⟨?_,λb n=>?_⟩;rw[Zar,List.length_singleton];exact hr.mono λb y d=>c b (λe=>E (by rw[<-e];exact d));have⟨q,q2⟩:=M b n;refine⟨?_,by rw[s];exact q2⟩;rcases q with q|q;exact((h.row j u l p L).2 b q).1;omega;rw[Zah w]at h1 h2;have⟨k1,Q⟩:=h.row i v m h1 h2;have z:∀b,Ai v=θ b->Ai u≠θ b:=λb r hu=>w (h.apart j i u v b p h1 hu r);have r1:BM w' 3 1 v (Ξ m) (m.map (Value.int .i64)):=k1.mono λb y d=>f.block b y (z b d);refine⟨r1.mono λb y d=>c b (λe=>by have:=(Q b d).1;omega),λb n=>⟨(Q b n).1,by rw[s];exact Zbc (Q b n).2 f.size⟩⟩;have o:∀i v,i≠j->(us.set j u')[i]?=θ v->us[i]?=θ v:=λi v z r=>by rw[Zbz,Zah λe=>z e.symm]at r;exact r
 have J:∀v,(us.set j u')[j]?=θ v->v=u':=λv r=>by rw[Zbz]at r;simp[C]at r;exact r.symm
 by_cases N:i=j;by_cases t:k=j;rw[N,t];subst N;rw[J v h1]at G;have q:=o k B t h2;rcases(M b G).1 with K|K;exact h.apart i k u B b p q K H;have A:k<Ξ vals:=by rw[<-h.len];exact AG q
 have:=((h.row k B _ q (Zaa A)).2 b H).2;omega;by_cases t:k=j;subst t;rw[J B h2]at H;have q:=o i v N h1;rcases(M b H).1 with K|K;exact h.apart i k v u b q p G K;have A:i<Ξ vals:=by rw[<-h.len];exact AG q
 have:=((h.row i v _ q (Zaa A)).2 b G).2;omega;exact h.apart i k v B b (o i v N h1) (o k B t h2) G H
def X7{w}{O}{u}{l}(h:BM w 3 1 u (Ξ l) (l.map (Value.int .i64)))(m:∀b,Ai u=θ b->¬O b):A5 O w u (Aq 1 D.z l):=by
 rcases EM h with⟨q,d,a,c⟩|⟨g,cap,cur,c,n,f,h1,h2,s,o,t⟩;have:l=[]:=List.map_eq_nil_iff.1 d;subst this;rw[c];exact .emp _ _ _;by_cases j:l=[];subst j;rw[c];exact .emp _ _ _;have p:Ai u=θ g:=by rw[c];simp[Ai,n]
 have e:=A5.list (O:=O) (w:=w) g 0 cap 1 (l.map D.z) (λi _=>.int .i64 (l.getD i 0)) (by simpa using j) (EF f) (m g p) (by simpa using h1)
  (λx hx=>by obtain⟨r,_,rfl⟩:=List.mem_map.1 hx;rfl) (λx hx y hy=>by obtain⟨r,_,rfl⟩:=List.mem_map.1 hx;simp[D.cells]at hy;subst hy;rfl)
  (λi x k y hx hy=>by
   rw[Zaz]at hx
   cases hi:l[i]? with
   | none=>simp[hi]at hx
   | some z=>
     simp[hi]at hx;subst hx
     match k,hy with
     | 0,_=>
       have:(l.map (Value.int .i64))[i]?=θ (.int .i64 z):=by simp[hi]
       rw[<-o,Zdu,Zbw]at this;split at this;rw[Zdu,Zcy,Zbn];simp only[World.cell?,f];simp only[Zek,Zcz,if_false];rw[<-Zcp,this];simp[Zao,hi]
       cases this
     | k+1,hy=>simp[D.cells]at hy)
  (λi x k y hx hy=>by
   rw[Zaz]at hx
   cases hi:l[i]? with
   | none=>simp[hi]at hx
   | some z=>
     simp[hi]at hx;subst hx
     match k,hy with
     | 0,hy=>simp[D.cells]at hy;subst hy;simp[Zao,hi];exact .int _ _
     | k+1,hy=>simp[D.cells]at hy)
 rw[c];simpa using e
theorem RM.start{n}{w}(c:BM w T 1 u0 n us)(g:Ξ us=n)(d:∀(j:Nat) u,us[j]?=θ u->∃a,u=.slice a 0 0):RM w w u0 T us (List.replicate n []):=by
 subst g
 have f:∀(j:Nat) u b,us[j]?=θ u->Ai u≠θ b:=λj u b h e=>by
  obtain⟨a,rfl⟩:=d j u h
  cases a<;>simp[Ai]at e
 refine⟨AC.refl _ _ _,zs,c,λb e=>c.lt e,λj u l h1 h2=>?_,λi j u v b h1 _ k _=>absurd k (f i u b h1)⟩
 have:l=[]:=by
  rw[Zfe]at h2;split at h2;exact(Zaf h2).symm
  cases h2
 subst this;obtain⟨a,rfl⟩:=d j u h1;refine⟨?_,λb e=>absurd e (f j _ b h1)⟩
 cases a with
 | none=>exact .inl (World.ownsRow_nil w _ _ _)
 | some a=>exact .inr ⟨rfl,rfl,a,rfl⟩
end
def Ft{B}{M}{w wr}(h:AC B M w wr){b o}(a:b<B)(c:¬M b):wr.cell? ⟨b,o,κ⟩=w.cell? ⟨b,o,κ⟩:=World.cell?_of_block (w:=w) (h.block b a c)
def X8{w}{e}{sz}{v}{n}{vals}(h:BM w e sz v n vals):∃c gc,v=.slice c n gc/\(0<n->∃g,c=θ ⟨g,0,κ⟩/\Ai v=θ g)/\Ξ vals=n*sz:=by
 rcases EM h with⟨d,h1,a,b⟩|⟨g,cap,cur,b,f,_,_,_,_,_,i⟩;subst d;subst h1;exact⟨a,0,b,λh=>absurd h (Nat.lt_irrefl _),zs⟩;exact⟨_,cap,b,λ_=>⟨g,rfl,by rw[b];simp[Ai,f]⟩,i⟩
theorem bN{α:Type}(l:Γ α):(l.map λ_=>D.nil 1).flatMap D.cells=List.replicate (Ξ l) (D.nil 1):=by
 induction l with
 | nil=>rfl
 | cons x r ih=>rw[Zas,Zcf,ih];rfl
theorem nC(l:Γ (Γ Int)):(l.map (Aq 1 D.z)).flatMap D.cells=l.map (Aq 1 D.z):=by
 induction l with
 | nil=>rfl
 | cons x r ih=>rw[Zas,Zcf,ih];rfl
theorem zq{O}{w}{us}{n}(h:BC O w us (List.replicate n (D.nil 1))):∀(j:Nat) u,us[j]?=θ u->∃a,u=.slice a 0 0:=λj u b=>by
 have c:j<n:=by have:=AG b;rw[h.1]at this;simpa using this
 have:=(h.2 j u (D.nil 1) b (by simp[c])).1
 cases this with
 | nil=>exact⟨κ,rfl⟩
def jA{l:Γ Int}{k}(h:k<Ξ l):l.drop k=l.getD k 0::l.drop (k+1):=by
 rw[Zgj h];simp[Zao,h]
def YU{α β:Type}f(a:Γ α)(b:Γ β)j:=(a.zipWith f b).take j++a.drop j
def vf{α β}{f:α->β->α}{a}{b}(h:Ξ b=Ξ a){j}c:(YU f a b j)[j]?=θ a[j]:=by
 unfold YU;rw[Zat zv];simp[h,c,Zdp (Nat.le_of_lt c)]
def vg{α β:Type}{f:α->β->α}{a:Γ α}{b:Γ β}(h:Ξ b=Ξ a){j:Nat}(d:j<Ξ a):(YU f a b j).set j (f a[j] (b[j]'z0))=YU f a b (j+1):=by
 apply Zdv;intro i;unfold YU;have g:Ξ (a.zipWith f b)=Ξ a:=by simp[h]
 rw[Zbz];by_cases e:j=i;subst e;rw[Zai rfl,Zai (by simp[h];omega),Zba (by simp[h];omega),Zda z0];simp[h,d];rw[Zah e];by_cases c:i<j;rw[Zba (by simp[h];omega),Zba (by simp[h];omega),Zda c,Zda z0];rw[Zat (by simp[h];omega),Zat (by simp[h];omega)];simp only[Zan,g,Zca];congr 1;omega
def ve{α β}{f}{a:Γ α}{b:Γ β}(h:Ξ b=Ξ a):YU f a b (Ξ a)=a.zipWith f b:=by
 unfold YU;rw[List.drop_length,Zcq];exact Zbe (by simp[h])
structure CM(w0 wr:World)(u0:Value)(O:Nat->Prop)(T:TypeId)(sz n:Nat)(ds:List D):Prop where
 keep:AC w0.heap.size (λb=>Ai u0=some b) w0 wr
 lt:∀b,Ai u0=some b->b<w0.heap.size/\O b
 old:∀b,O b->b<w0.heap.size
 row:∃vals,BM wr T sz u0 n vals/\BC O wr vals ds
section
variable {w0 wr w':Λ} {u0:Ψ} {O:Nat->Prop} {T:Υ} {sz n:Nat} {ds:Γ D}
def CM.keepS(h:CM w0 wr u0 O T sz n ds)(a:RowKit.Below wr.heap.size wr w'):CM w0 w' u0 O T sz n ds:=by
 have d:=h.keep.size;have⟨vals,h1,h2⟩:=h.row;exact⟨h.keep.trans ⟨a.os,a.tape,a.output,a.size,λk e _=>a.block k z0⟩,h.lt,h.old,vals,h1.mono λb c _=>a.block b c,h2.mono (Cg.world a)⟩
def CM.drew(h:CM w0 wr u0 O T sz n ds):CM w0 wr.drew u0 O T sz n ds:=h.keepS ⟨rfl,rfl,rfl,Zam _,λ_ _=>rfl⟩
def CM.at_(h:CM w0 wr u0 O T sz n ds){g}(b:Ai u0=θ g){c}(s:c<n*sz):∃u,wr.cell? ⟨g,c,κ⟩=θ u/\∃d,ds[c]?=θ d/\A5 O wr u d/\d.one=true/\wr.frozen? ⟨g,c,κ⟩=false:=by
 have⟨vals,h1,h2⟩:=h.row;rcases EM h1 with⟨m,_⟩|⟨i,cap,cur,o,f,j,t,v,w,p,x⟩;subst m;omega;have:i=g:=by rw[o]at b;simp[Ai,f]at b;exact b
 subst this;have k:c<Ξ vals:=z0;have hd:c<Ξ ds:=by rw[<-h2.1];exact k
 obtain⟨u,l⟩:∃u,vals[c]?=θ u:=⟨_,Zaa k⟩
 have a:wr.cell? ⟨i,c,κ⟩=θ u:=by
  have e:=l;rw[<-p,Zbw,Zai z0]at e;simp only[World.cell?,j];simp only[Zek,Zcz,if_false];rw[<-Zcp,e]
 have⟨q,r⟩:=h2.2 c u ds[c] l (Zaa hd);exact⟨_,a,_,Zaa hd,q,r,by simp[World.frozen?,j]⟩
def CM.set(h:CM w0 wr u0 O T sz n ds){g}(a:Ai u0=θ g){c}(G:c<n*sz){v}{d}(t:A5 O wr v d)(i:d.one=true):CM w0 (wr.setCell ⟨g,c,κ⟩ v) u0 O T sz n (ds.set c d):=by
 have⟨vals,h1,h2⟩:=h.row;have⟨u,l⟩:=h.lt g a;have f:Cg O O wr (wr.setCell ⟨g,c,κ⟩ v):=⟨zs,λ_ _ h=>h,λb _ m=>blk_setCell_other _ _ _ _ (by show b≠g;exact λe=>m (e▸l))⟩;rcases EM h1 with⟨w,_⟩|⟨o,cap,cur,q,p,m,x,z,A,B,C⟩;subst w;omega;have:o=g:=by rw[q]at a;simp[Ai,p]at a;exact a
 subst this;refine⟨⟨(by show wr.os=_;exact h.keep.os),(by show wr.tape=_;exact h.keep.tape),(by show wr.output=_;exact h.keep.output),by simpa using h.keep.size,λk f r=>?_⟩,h.lt,h.old,vals.set c v,?_,by simp[h2.1],λj y e hy he=>?_⟩;rw[blk_setCell_other _ _ _ _ (by show k≠o;exact λe=>r (by rw[e];exact a))];exact h.keep.block k f r;refine .inl ⟨by simp[C],.inr ⟨o,cap,cur.setIfInBounds c v,q,Zag _,by simp[World.setCell,Zex,m],x,z,by simp[A],?_⟩⟩;rw[Zdm,List.take_set,B];rw[Zbz]at hy he;by_cases s:c=j;subst s;rw[Zai rfl]at hy he;split at hy;split at he;obtain rfl:=Zaf hy;obtain rfl:=Zaf he;exact⟨t.mono f,i⟩
 cases he
 cases hy
 rw[Zah s]at hy he;have⟨E,F⟩:=h2.2 j y e hy he;exact⟨E.mono f,F⟩
def CM.start{w}{X}{β}{S}{G}{a}{q}{vals}(d:SimB X G β S a w)(ho:(An S q).box.owned=true)(h1:BM w T sz (β q) n vals)(h2:BC (OS β X S) w vals ds):CM w w (β q) (OS β X S) T sz n ds:=
 ⟨AC.refl _ _ _,λb c=>⟨h1.lt c,.inr (.inr ⟨q,ho,c⟩)⟩,λb c=>d.os_lt c,vals,h1,h2⟩
end
def CM.kept{w0 wr}{a}{O}{T}{sz n}{ds}(h:CM w0 wr a O T sz n ds){g}(f:Ai a=θ g)c x{v}{d}(i:A5 O wr v d):A5 O (wr.setCell ⟨g,c,κ⟩ x) v d:=
 i.mono ⟨zs,λ_ _ h=>h,λb _ j=>blk_setCell_other _ _ _ _ (by show b≠g;exact λe=>j (e▸(h.lt g f).2))⟩
def oF{α:Type}{l:Γ α}{i}{x}(h:l[i]?=θ x):l.set i x=l:=by
 apply Zdv;intro j;rw[Zbz];by_cases e:i=j;subst e;rw[Zai rfl,h,Zai (AG h)];rw[Zah e]
theorem nA{α:Type}f(a:∀x,Ξ (f x).cells=7):∀(l:Γ α) k b o,o<7->((l.map f).flatMap D.cells)[k*7+o]?=(f l[k]).cells[o]?
 | x::r,0,_,o,ho=>by
   rw[Zas,Zcf,Nat.zero_mul,Zbn,Zba (by rw[a];exact ho)];rfl
 | x::r,k+1,b,o,ho=>by
   rw[Zas,Zcf,Zat (by rw[a];omega),a,show(k+1)*7+o-7=k*7+o by omega,nA f a r k (by simpa using b) o ho];rfl
def Wd(w:Λ)a:=(w.cell? a).getD undef
def f7{w}{a}(h:(w.cell? a).isSome=true):w.cell? a=θ (Wd w a):=by
 have⟨y,hy⟩:=Option.isSome_iff_exists.1 h;unfold Wd;rw[hy];rfl
def jt{w}{g c o}{v}(h:w.cell? ⟨g,c,κ⟩=θ (Wd w ⟨g,c,κ⟩)):(w.setCell ⟨g,o,κ⟩ v).cell? ⟨g,c,κ⟩=θ (Wd (w.setCell ⟨g,o,κ⟩ v) ⟨g,c,κ⟩):=by
 apply f7;by_cases e:o=c;subst e;rw[World.cell?_setCell_same _ _ _ h];rfl;rw[World.cell?_setCell_other _ _ _ _ λq=>e (congrArg Addr.off q),h];rfl
theorem CM.cell7{w0 wr}{f}{O}{T}{l:Γ Ap}(h:CM w0 wr f O T 7 (Ξ l) ((l.map A7).flatMap D.cells)){g}(m:Ai f=θ g){k}n:
 ∃a c b c',(wr.cell? ⟨g,k*7,κ⟩=θ (.slice a (Ξ l[k].X) c)/\A5 O wr (.slice a (Ξ l[k].X) c) (Aq 1 D.z l[k].X))/\wr.cell? ⟨g,k*7+1,κ⟩=θ (.int .i64 l[k].Z)/\wr.cell? ⟨g,k*7+2,κ⟩=θ (.int .i64 l[k].Bc) /\
  wr.cell? ⟨g,k*7+3,κ⟩=θ (.int .i64 l[k].Be)/\wr.cell? ⟨g,k*7+4,κ⟩=θ (.int .i64 l[k].A7)/\wr.cell? ⟨g,k*7+5,κ⟩=θ (.int .i64 l[k].Ba) /\
  (wr.cell? ⟨g,k*7+6,κ⟩=θ (.slice b (Ξ l[k].G) c')/\A5 O wr (.slice b (Ξ l[k].G) c') (Aq 1 D.z l[k].G))/\∀o,o<7->wr.frozen? ⟨g,k*7+o,κ⟩=false:=by
 have key:∀(o:Nat) d,o<7->(A7 l[k]).cells[o]?=θ d->∃u,wr.cell? ⟨g,k*7+o,κ⟩=θ u/\A5 O wr u d/\wr.frozen? ⟨g,k*7+o,κ⟩=false:=λo d ho hd=>by
  have⟨u,h1,e,h2,p,_,q⟩:=h.at_ m (c:=k*7+o) z0;rw[nA A7 (λ_=>rfl) l k n o ho,hd]at h2;obtain rfl:=Zaf h2;exact⟨u,h1,p,q⟩
 have⟨V,r,i,s⟩:=key 0 _ z0 rfl;have⟨W,t,v,w⟩:=key 1 _ z0 rfl;have⟨X,x,y,z⟩:=key 2 _ z0 rfl;have⟨Y,A,B,C⟩:=key 3 _ z0 rfl;have⟨Z,E,F,G⟩:=key 4 _ z0 rfl;have⟨v5,H,I,J⟩:=key 5 _ z0 rfl;have⟨v6,K,j,L⟩:=key 6 _ z0 rfl;have⟨a,c,_,_,M,_⟩:=JF i;have⟨b,c',_,_,N,_⟩:=JF j;have P:=AP v;have Q:=AP y;have R:=AP B;have S:=AP F;have U:=AP I;subst M;subst P;subst Q;subst R;subst S;subst U;subst N;refine⟨a,c,b,c',⟨r,i⟩,t,x,A,E,H,⟨K,j⟩,λo ho=>?_⟩
 match o,ho with
 | 0,_=>exact s
 | 1,_=>exact w
 | 2,_=>exact z
 | 3,_=>exact C
 | 4,_=>exact G
 | 5,_=>exact J
 | 6,_=>exact L
def xy{w}{O}{B}{v}{l}(h:bA (λb=>B<=b) w v 1 3 (l.map D.z))(d:∀b,O b->b<B):A5 O w v (Aq 1 D.z l):=by
 have⟨_,_,e,vals,h1,h2⟩:=h;rw[Nw]at h2;obtain rfl:=Yl h2;rw[Zac]at h1;exact X7 h1 λb a c=>by have:=e b a;have:=d b c;omega
end
