/- FC -/
import Derived.WalkKit
import Derived.Deep.LoopGhost
import Derived.Deep.Light
import Derived.Deep.AppendSrc
import Derived.RegionTactic
import Derived.Lib.AppendZeros
import Derived.Lib.Walk
import Derived.Deep.RegionHeld3
import Derived.Test.YtaojdkijihbaoaaGreatDoorFB
import Derived.Lib.Hide
open Go.IntKind (i64)
open Go.Proofs.Tryz
set_option linter.all false
namespace Go.Proofs.YtaojdkijihbaoaaGreatDoor.P
open Go Go.Abs Go.Proofs Go.Deep
set_option maxRecDepth 1000000
set_option maxHeartbeats 6400000
theorem rt:prog.underlying 29=some (TypeDesc.slice 30):=by kernel_rfl
theorem rr:(prog.info? 30).map (λi=>(i.zero,i.size,i.bytes))=some (some (Value.slice none 0 0),1,24):=by kernel_rfl
theorem fR:prog.underlying 30=some (TypeDesc.slice 3):=by kernel_rfl
theorem pj:(prog.info? 3).map (λi=>(i.zero,i.size,i.bytes))=some (some (Value.int .i64 0),1,8):=by kernel_rfl
def To(m:List (List Int))(k i j a b:Nat):Int:=if a<i\/(a=i/\b<j)then Se m (k+1) a b else Se m k a b
theorem oX(m:List (List Int))(k i j:Nat):To m k i j i j=Se m k i j:=by unfold To;rw[uo (by omega)]
theorem jE(m:List (List Int))(k i j a b:Nat):To m k i (j+1) a b=if a=i/\b=j then Se m (k+1) i j else To m k i j a b:=by
 unfold To;by_cases h:a=i/\b=j
 ·obtain⟨rfl,rfl⟩:=h;rw[uk (by omega),uk ⟨rfl,rfl⟩]
 ·rw[uo h];by_cases c:a<i\/(a=i/\b<j)
  ·rw[uk c,uk (by omega)]
  ·rw[uo c,uo (by omega)]
theorem lX(m:List (List Int)){k i n a b:Nat}(d:b<n):To m k i n a b=To m k (i+1) 0 a b:=by
 unfold To;by_cases c:a<i\/(a=i/\b<n)
 ·rw[uk c,uk (by omega)]
 ·rw[uo c,uo (by omega)]
theorem lW(m:List (List Int)){k n a b:Nat}(c:a<n):To m k n 0 a b=Se m (k+1) a b:=by unfold To;rw[uk (by omega)]
theorem jF(m:List (List Int))(k a b:Nat):To m k 0 0 a b=Se m k a b:=by unfold To;rw[uo (by omega)]
theorem kL(m:List (List Int))(n:Nat)(V:0<m.length)(I:∀r,r<m.length->(m.getD r []).length=n)(h0:0<n)(hb:n<=1000000)(L:m.length<=1000000)(w:World)(ga:Option Addr)(gb go Gc:Nat)(A:Nat->Option Addr)(C RB RO:Nat->Nat)(v:Value)
 (s:Xn w v m ga gb go Gc A C RB RO) (M:gb<w.heap.size) (t:∀r,r<m.length->∀c,c<n->RB r<w.heap.size) :
 Calls prog 228 #[v] w λe w'=>e=.returned (.slice (some ⟨w.heap.size,0,none⟩) n n)/\Mx w w' 30 3 n (λ_=>n) (Se m m.length):=by
 obtain rfl:=s.val;obtain rfl:=s.ga V;have h:∀r,r<m.length->w.cell? ⟨gb,go+r,none⟩=some (.slice (A r) n (C r)):=λr hr=>by rw[s.row r hr,I r hr]
 have J:∀r,r<m.length->∀c,c<n->A r=some ⟨RB r,RO r,none⟩/\w.cell? ⟨RB r,RO r+c,none⟩=some (.int .i64 (Qh m r c)):=λr hr c hc=>s.cell r hr c (by rw[I r hr];exact hc);have l:w.cell? ⟨gb,go,none⟩=some (.slice (A 0) n (C 0)):=by grind
 obtain⟨G,N⟩:∃G,G=m.length:=⟨_,rfl⟩;rw[<-N]at V I t h J L ⊢;have hmz:(0:Int)<(G:Int):=by omega
 have HG:Aside (G=m.length):=N;clear s I N;have z:=run_make_row' (P:=prog) 29 30 (.slice none 0 0) 24 rt rr rfl .i64 .i64 n (by omega) (by omega)
 go_enter func228,ntmps228
 go_wp2
 clear z l
 go_loopg [18] n (λg i wr=>∃r:Nat,r<=n/\g=n-r/\i=.int .i64 r/\ML w wr 30 3 n (λ_=>n) (λ_ _=>0) r)
 case atStart=>exact⟨0,ug _,rfl,rfl,ML.start w _ _ n _ _⟩
 case round =>
  obtain⟨r,hr,rfl,rfl,p⟩:=hrel;by_cases O:r<n
  ·have Q:(r:Int)<(n:Int):=by omega
   have R:=p.size;have W:=run_make_row' (P:=prog) 30 3 (.int .i64 0) 8 fR pj rfl .i64 .i64 n (by omega) (by omega);have X:∀o,(wr.alloc o).cell? ⟨w.heap.size,r,none⟩=some (.slice none 0 0):=λo=>by simpa using(p.top.alloc o).cell O
   have Y:∀o,(wr.alloc o).frozen? ⟨w.heap.size,r,none⟩=false:=λo=>(p.top.alloc o).frozen r
   go_wp2
   go_roundg (n-(r+1))
   case measure=>go_light;omega
   case rel =>
    go_light
    refine⟨r+1,by omega,rfl,by go_num,(p.step (u:=wr.alloc (.cells (madeCells #[.int .i64 0] n) 3)) (c:=n) (uh _) ⟨rfl,rfl,rfl,by simp,λk hk=>blk_alloc_lt _ _ _ hk⟩ (by simp) (World.rowIs_made wr (.int .i64 0) n _)).cp_congr (λj _=>by split<;>rfl)⟩
  ·obtain rfl:r=n:=by omega
   have Q:¬((r:Int)<(r:Int)):=by omega
   have Z:=p.done;clear p
   go_wp2
   have B:Mx w wr 30 3 r (λ_=>r) (Se m 0):=Z.congr λi j _ _=>rfl;clear Z
   go_loopg [30] G (λg i wi=>∃k:Nat,k<=G/\g=G-k/\i=.int .i64 k/\Mx w wi 30 3 r (λ_=>r) (Se m k))
   case atStart=>exact⟨0,ug _,rfl,rfl,B⟩
   case round =>
    clear B;obtain⟨k,hk,rfl,rfl,D⟩:=hrel;by_cases d:k<G
    ·have S:(k:Int)<(G:Int):=by omega
     have g0:wr.cell? ⟨gb,go+k,none⟩=some (.slice (some ⟨RB k,RO k,none⟩) r (C k)):=by rw[D.since.cell (a:=⟨gb,go+k,none⟩) M,h k d,(J k d 0 h0).1]
     go_wp2
     clear g0;have hP:Mx w wr 30 3 r (λ_=>r) (To m k 0 0):=D.congr λi j _ _=>(jF m k i j).symm;clear D
     go_loopg [36] r (λg i wj=>∃a:Nat,a<=r/\g=r-a/\i=.int .i64 a/\Mx w wj 30 3 r (λ_=>r) (To m k a 0))
     case atStart=>exact⟨0,ug _,rfl,rfl,hP⟩
     case round =>
      clear hP;obtain⟨a,ha,rfl,rfl,K⟩:=hrel;by_cases f:a<r
      ·have T:(a:Int)<(r:Int):=by omega
       have E:=t k d a f;have F:=(J k d a f).2;have g1:wr.cell? ⟨RB k,RO k+a,none⟩=some (.int .i64 (Qh m k a)):=by rw[K.since.cell (a:=⟨RB k,RO k+a,none⟩) E];exact F
       clear F
       go_wp2
       clear g1
       go_loopg [43] r (λg i wl=>∃b:Nat,b<=r/\g=r-b/\i=.int .i64 b/\Mx w wl 30 3 r (λ_=>r) (To m k a b))
       case atStart=>exact⟨0,ug _,rfl,rfl,K⟩
       case round =>
        clear K;obtain⟨b,hb',rfl,rfl,q⟩:=hrel;by_cases H:b<r
        ·have U:(b:Int)<(r:Int):=by omega
         have g1:wr.cell? ⟨RB k,RO k+b,none⟩=some (.int .i64 (Qh m k b)):=by rw[q.since.cell (a:=⟨RB k,RO k+b,none⟩) E];exact(J k d b H).2
         have g2:wr.cell? ⟨w.heap.size,a,none⟩=some (.slice (some ⟨w.heap.size+1+a,0,none⟩) r r):=q.top.cell f;have g3:wr.cell? ⟨w.heap.size+1+a,b,none⟩=some (.int .i64 (Se m k a b)):=by rw[<-oX];exact(q.row a f).cell H
         have g4:wr.frozen? ⟨w.heap.size+1+a,b,none⟩=false:=(q.row a f).frozen b
         go_wp2
         go_roundg (r-(b+1))
         case measure=>go_light;omega
         case rel =>
          go_light
          exact⟨b+1,by omega,rfl,by go_num,q.set _ λx y _ _=>(jE m k a b x y).trans (by simp only[Se,IntKind.wrap_i64,RowKit.wrap64])⟩
        ·have U:¬((b:Int)<(r:Int)):=by omega
         go_wp2
         go_roundg (r-(a+1))
         case measure=>go_light;omega
         case rel =>
          go_light
          obtain rfl:b=r:=by omega
          exact⟨a+1,by omega,rfl,by go_num,q.congr λx y _ hy=>lX m hy⟩
      ·have T:¬((a:Int)<(r:Int)):=by omega
       go_wp2
       go_roundg (G-(k+1))
       case measure=>go_light;omega
       case rel =>
        go_light
        obtain rfl:a=r:=by omega
        exact⟨k+1,by omega,rfl,by go_num,K.congr λx y hx _=>lW m hx⟩
    ·have S:¬((k:Int)<(G:Int)):=by omega
     go_wp2
     go_ret
     have hk:k=G:=by omega
     rw[hk]at D;exact⟨rfl,D⟩
theorem YR(m:List (List Int))(b:List Int)(d:Nat)(n:Nat)(hm:m.length=n)(Q:∀r,r<m.length->(m.getD r []).length=n)(hcol:d<n)(hb:n<=1000000)(hbl:n<=b.length)(w:World)(ga:Option Addr)(gb go Gc:Nat)(A:Nat->Option Addr)(C RB RO:Nat->Nat)(v:Value)
 (O:Xn w v m ga gb go Gc A C RB RO) (hgb:gb<w.heap.size) (R:∀r,r<m.length->∀c,c<n->RB r<w.heap.size) (S bo bc:Nat) (hbb:S<w.heap.size) (T:∀i,i<b.length->w.cell? ⟨S,bo+i,none⟩=some (.int .i64 (b.getD i 0))) :
 Calls prog 282 #[v,.int .i64 d,.slice (some ⟨S,bo,none⟩) b.length bc] w λe w'=>e=.returned (.slice (some ⟨w.heap.size,0,none⟩) n n)/\∃cp,Mx w w' 30 3 n cp (SV m d b):=by
 have U:0<m.length:=by omega
 obtain rfl:=O.val;obtain rfl:=O.ga U;have V:∀r,r<n->w.cell? ⟨gb,go+r,none⟩=some (.slice (some ⟨RB r,RO r,none⟩) n (C r)):=λr hr=>by rw[O.row r (by omega),Q r (by omega),(O.cell r (by omega) 0 (by rw[Q r (by omega)];omega)).1]
 have hA:∀r,r<n->∀c,c<n->w.cell? ⟨RB r,RO r+c,none⟩=some (.int .i64 (Qh m r c)):=λr hr c hc=>(O.cell r (by omega) c (by rw[Q r (by omega)];exact hc)).2
 have hz:∀r,r<n->∀i,n<=i->Qh m r i=0:=λr hr i hi=>by
  unfold Qh;rw[uj,uP (by rw[Q r (by omega)];exact hi)];rfl
 rw[hm]at R ⊢;obtain⟨L,hL⟩:∃L,L=b.length:=⟨_,rfl⟩;rw[<-hL]at hbl T ⊢;clear O Q hm U hL;have W:=run_make_row' (P:=prog) 29 30 (.slice none 0 0) 24 rt rr rfl .i64 .i64 n (by omega) (by omega)
 go_enter func282,ntmps282
 go_wp2
 clear W
 go_loopg [15] n (λg i wr=>∃r:Nat,r<=n/\g=n-r/\i=.int .i64 r/\∃cp,ML w wr 30 3 n cp (SV m d b) r)
 case atStart=>exact⟨0,ug _,rfl,rfl,λ_=>n,ML.start w _ _ n _ _⟩
 case round =>
  obtain⟨r,hr,rfl,rfl,cp,K⟩:=hrel;by_cases s:r<n
  ·have hrz:(r:Int)<(n:Int):=by omega
   have hsize:=K.size;have hRr:=R r s 0 (by omega);have g0:wr.cell? ⟨gb,go+r,none⟩=some (.slice (some ⟨RB r,RO r,none⟩) n (C r)):=by rw[K.since.cell (a:=⟨gb,go+r,none⟩) hgb];exact V r s
   have hgr:gb≠wr.heap.size:=by omega
   obtain⟨i0,hi0,hz0,X,hzb⟩:=info_parts pj;obtain⟨vals,l⟩:∃vals:List Value,vals=(List.range n).map λc=>.int .i64 (Qh m r c):=⟨_,rfl⟩;have z:vals.length=n:=by rw[l];simp
   have D:Src prog i0.size 30 (.slice (some ⟨RB r,RO r,none⟩) n (C r)) n vals wr:=by
    rw[X];refine Src.ofSlice wr fR ⟨RB r,RO r,none⟩ n (C r) vals (by rw[z];omega) (λj u Y=>?_) (λu hu=>?_)
    ·rw[l,uu]at Y;by_cases M:j<n
     ·rw[wN M]at Y;obtain rfl:=uc Y;rw[Addr.add_lit,K.since.cell (a:=⟨RB r,RO r+j,none⟩) hRr];exact hA r s j M
     ·rw[uP (by simpa using M)]at Y
      cases Y
    ·rw[l]at hu;obtain⟨c,_,rfl⟩:=List.mem_map.1 hu;rfl
   have E:(Builtin.firstCells i0.size 0 (.slice none 0 0)).run prog wr.drew=.ok ([]:List Value).toArray wr.drew:=by
    rw[X];exact run_firstCells_none wr.drew 1 0 0 0
   obtain⟨G,hG⟩:∃G,G=grownCap wr (0+n) 0 3:=⟨_,rfl⟩;have hGn:n<=G:=by rw[hG];have:=grownCap_ge wr (0+n) 0 3;omega
   obtain⟨f,q⟩:∃f:Array Value,f=(([]:List Value)++vals).toArray++Builtin.zeroCells (Value.int .i64 0).cells (G-(0+n)):=⟨_,rfl⟩
   have F:∀ty,(Builtin.append_ #[30,30] ty #[.slice none 0 0,.slice (some ⟨RB r,RO r,none⟩) n (C r)]).run prog wr=.ok (.slice (some ⟨wr.heap.size,0,none⟩) n G) (wr.drew.alloc (.cells f 3)):=λty=>by
    have h:=run_append_grow_src wr 30 30 ty 3 i0 _ fR hi0 hz0 none 0 0 [] E _ n vals D (by omega) (by omega) (by rw[hzb];exact growslice_fits (by omega) (by omega));rw[<-hG,<-q,uQ]at h;exact h
   have H:f.size=G:=by
    rw[q];simp[Builtin.zeroCells,Value.cells,z];omega
   have Z:∀i,i<f.size->f[i]?=some (.int .i64 (Qh m r i)):=λi hi=>by
    rw[H]at hi;rw[q,List.nil_append];by_cases hin:i<n
    ·rw[vf (by simpa [z] using hin)];simp[l,hin]
    ·rw[wo (by simp[z];omega),hz r s i (by omega)];exact b9 _ _ _ (by simp[z];omega)
   have B:=World.rowIs_alloc wr f 3 (λc=>.int .i64 (Qh m r c)) Z;rw[H]at B;have I:∀o,(wr.alloc o).cell? ⟨w.heap.size,r,none⟩=some (.slice none 0 0):=λo=>by simpa using(K.top.alloc o).cell s
   have J:∀o,(wr.alloc o).frozen? ⟨w.heap.size,r,none⟩=false:=λo=>(K.top.alloc o).frozen r;have hst3:∀o,(wr.alloc o).drew.cell? ⟨w.heap.size,r,none⟩=some (.slice none 0 0):=I;have hst4:∀o,(wr.alloc o).drew.frozen? ⟨w.heap.size,r,none⟩=false:=J;have t:=((K.congr (S':=λj c=>if j=r then Qh m j c else SV m d b j c) λi j hi=>by simp only[show ¬i=r by omega,if_false]).step (u:=(wr.alloc (.cells f 3)).drew) hGn ⟨rfl,rfl,rfl,by simp,λk hk=>blk_alloc_lt wr _ _ hk⟩ (by simp) ((show(wr.alloc (.cells f 3)).drew.rowIs _ _ _ _ from B).congr λc _=>by rw[uk rfl]));clear D E q Z hG
   go_wp2_with (at_builtin;refine Lib.wpList_append_run _ rfl _ _ _ _ rfl _ _ rfl rfl _ _ (F _) ?_)
   obtain⟨W1,N⟩:∃W1,W1=((wr.alloc (.cells f 3)).setCell ⟨w.heap.size,r,none⟩ (.slice (some ⟨w.heap.size+1+r,0,none⟩) n G)).drew:=⟨_,rfl⟩;rw[<-N]
   replace t:ML w W1 30 3 n (λj=>if j=r then G else cp j) (λj c=>if j=r then Qh m j c else SV m d b j c) (r+1):=by rw[N];exact t
   clear N I J hst3 hst4 B F;have g1:W1.cell? ⟨w.heap.size,r,none⟩=some (.slice (some ⟨w.heap.size+1+r,0,none⟩) n G):=by simpa using t.top.cell s
   have g2:W1.cell? ⟨S,bo+r,none⟩=some (.int .i64 (b.getD r 0)):=by rw[t.since.cell (a:=⟨S,bo+r,none⟩) hbb];exact T r (by omega)
   have p:=t.row r (by omega);simp only[if_true]at p;have g3:W1.cell? ⟨w.heap.size+1+r,d,none⟩=some (.int .i64 (Qh m r d)):=p.cell (by omega);have g4:W1.frozen? ⟨w.heap.size+1+r,d,none⟩=false:=p.frozen d;have hcz:(d:Int)<(n:Int):=by omega
   have hrL:(r:Int)<(L:Int):=by omega
   clear p
   go_region
   all_goals
    go_wp2
    go_roundg (n-(r+1))
    case measure=>go_light;omega
    case rel =>
     go_light
     refine⟨r+1,by omega,rfl,by go_num,λj=>if j=r then G else cp j,?_⟩
     exact(t.set (i:=r) (j:=d) (S':=SV m d b) (b[r]?.getD 0) λx y hx _=>by
      by_cases h1:x=r
      ·subst h1;by_cases h2:y=d
       ·subst h2;simp[SV]
       ·simp[SV,h2]
      ·simp[h1]).drew
  ·have hrz:¬((r:Int)<(n:Int)):=by omega
   obtain rfl:r=n:=by omega
   have hM:=K.done
   go_wp2
   go_ret
   exact⟨rfl,cp,hM⟩
def wv(z:Int):Value:=.agg #[.int .u64 (F.Hi z),.int .u64 (F.Lo z)]
theorem aZ{O:Nat->Prop}{w:World}(z:Int):Ay O w (wv z) (F.W z):=.agg _ _ rfl (λx hx=>by simp at hx;rcases hx with rfl|rfl<;>rfl) λi v x a hx=>by
 match i,a,hx with
 | 0,a,hx=>simp at a hx;subst a;subst hx;exact .int _ _
 | 1,a,hx=>simp at a hx;subst a;subst hx;exact .int _ _
 | i+2,a,hx=>simp at hx
theorem o6{O:Nat->Prop}{w:World}{v:Value}{z:Int}(h:Ay O w v (F.W z)):v=wv z:=by
 generalize hx:F.W z=x at h;unfold F.W at hx
 cases h<;>simp only[D.agg.injEq,reduceCtorEq]at hx
 case agg vs xs hl h1 h =>
  subst hx;obtain⟨l⟩:=vs
  match l,hl with
  | [a,b],_ =>
    have c:=AJ (h 0 a _ rfl rfl);have d:=AJ (h 1 b _ rfl rfl);subst c;subst d;rfl
theorem qG{f:FuncId}{a b c:Int}(h:Ax prog f [.d (F.W a),.d (F.W b)] (.d (F.W c))){O:Nat->Prop}{w:World}(g:∀b,O b->b<w.heap.size)(j:OY O w) :
 Calls prog f #[wv a,wv b] w λe w'=>e=.returned (wv c)/\RowKit.Below w.heap.size w w' :=
 (h.2 O w #[wv a,wv b] g j rfl λi v x d hx=>by
  match i,d,hx with
  | 0,d,hx=>simp at d hx;subst d;subst hx;exact aZ a
  | 1,d,hx=>simp at d hx;subst d;subst hx;exact aZ b
  | i+2,d,hx=>simp at hx).mono λe w' ⟨v,k,l,hr⟩=>⟨by rw[k,o6 hr],l⟩
theorem sO{f:FuncId}{a c:Int}(h:Ax prog f [.d (F.W a)] (.d (F.W c))){O:Nat->Prop}{w:World}(g:∀b,O b->b<w.heap.size)(j:OY O w) :
 Calls prog f #[wv a] w λe w'=>e=.returned (wv c)/\RowKit.Below w.heap.size w w' :=
 (h.2 O w #[wv a] g j rfl λi v x d hx=>by
  match i,d,hx with
  | 0,d,hx=>simp at d hx;subst d;subst hx;exact aZ a
  | i+1,d,hx=>simp at hx).mono λe w' ⟨v,k,l,hr⟩=>⟨by rw[k,o6 hr],l⟩
theorem qF{f:FuncId}{n c:Int}(h:Ax prog f [.d (.int .i64 n)] (.d (F.W c))){O:Nat->Prop}{w:World}(d:∀b,O b->b<w.heap.size)(g:OY O w) :
 Calls prog f #[.int .i64 n] w λe w'=>e=.returned (wv c)/\RowKit.Below w.heap.size w w' :=
 (h.2 O w #[.int .i64 n] d g rfl λi v x a hx=>by
  match i,a,hx with
  | 0,a,hx=>simp at a hx;subst a;subst hx;exact .int _ _
  | i+1,a,hx=>simp at hx).mono λe w' ⟨v,j,k,hr⟩=>⟨by rw[j,o6 hr],k⟩
structure VS(w0 w:World)(mv:Value)(n:Nat)(tk:List Bool)(s:Int):Prop where
 since:w0.Since w0.heap.size w
 size:w0.heap.size+6<=w.heap.size
 m:w.cell? ⟨w0.heap.size,0,none⟩=some mv
 s0:w.cell? ⟨w0.heap.size+2,0,none⟩=some (.int .u64 (F.Hi s))
 s1:w.cell? ⟨w0.heap.size+2,1,none⟩=some (.int .u64 (F.Lo s))
 fs:∀j,w.frozen? ⟨w0.heap.size+2,j,none⟩=false
 t:w.cell? ⟨w0.heap.size+4,0,none⟩=some (.slice (some ⟨w0.heap.size+3,0,none⟩) n n)
 v:w.cell? ⟨w0.heap.size+5,0,none⟩=some (.func (.func 304) #[] #[.pointer (some ⟨w0.heap.size,0,none⟩),.pointer (some ⟨w0.heap.size+2,0,none⟩),.pointer (some ⟨w0.heap.size+4,0,none⟩),.pointer (some ⟨w0.heap.size+5,0,none⟩)])
 k:w.rowIs (w0.heap.size+3) 4 n (λi=>.bool (tk.getD i true))
section
variable {w0 w w':World} {mv:Value} {n:Nat} {tk:List Bool} {s:Int}
theorem VS.drew(h:VS w0 w mv n tk s):VS w0 w.drew mv n tk s:=⟨h.since.drew,h.size,h.m,h.s0,h.s1,h.fs,h.t,h.v,h.k⟩
theorem VS.keep(h:VS w0 w mv n tk s)(c:w.Since w.heap.size w'):VS w0 w' mv n tk s:=by
 have e:=h.size;have d:∀b o,b<w0.heap.size+6->w'.cell? ⟨b,o,none⟩=w.cell? ⟨b,o,none⟩:=λb o f=>c.cell (a:=⟨b,o,none⟩) (by show b<w.heap.size;omega);refine⟨h.since.trans ⟨c.os,c.tape,c.output,c.size,λk hk=>c.block k (by omega)⟩,uK h.size c.size,by rw[d _ _ (by omega)];exact h.m,by rw[d _ _ (by omega)];exact h.s0,by rw[d _ _ (by omega)];exact h.s1,λj=>?_,by rw[d _ _ (by omega)];exact h.t,by rw[d _ _ (by omega)];exact h.v,h.k.of_block (c.block _ (by omega))⟩;rw[c.frozen (a:=⟨w0.heap.size+2,j,none⟩) (by show w0.heap.size+2<w.heap.size;omega)];exact h.fs j
theorem Rz{B:Nat}(h:RowKit.Below B w w'):w.Since B w':=⟨h.os,h.tape,h.output,h.size,λi a=>h.block i a⟩
theorem VS.take(h:VS w0 w mv n tk s){i:Nat}(b:Bool)(d:i<tk.length):VS w0 (w.setCell ⟨w0.heap.size+3,i,none⟩ (.bool b)) mv n (tk.set i b) s:=by
 have a:∀c o,c≠w0.heap.size+3->(w.setCell ⟨w0.heap.size+3,i,none⟩ (.bool b)).cell? ⟨c,o,none⟩=w.cell? ⟨c,o,none⟩:=λc o a=>World.cell?_setCell_other _ _ _ _ (λe=>a (congrArg Addr.block e).symm);refine⟨h.since.setCell (by show w0.heap.size<=w0.heap.size+3;omega) _,by simpa using h.size,by rw[a _ _ (by omega)];exact h.m,by rw[a _ _ (by omega)];exact h.s0,by rw[a _ _ (by omega)];exact h.s1,λj=>by simpa using h.fs j,by rw[a _ _ (by omega)];exact h.t,by rw[a _ _ (by omega)];exact h.v,(h.k.set i _).congr λj g=>?_⟩;by_cases e:j=i
 ·subst e;simp[uj,d]
 ·have f:i≠j:=λx=>e x.symm;simp[e,f,uj]
theorem S4{O:Nat->Prop}(c:∀b,O b->b<w0.heap.size)(d:OY O w0)(h:w0.Since w0.heap.size w):(∀b,O b->b<w.heap.size)/\OY O w :=
 ⟨λb a=>uw (c b a) h.size,λg cs e=>(d g cs e).mono ⟨h.size,λb _ a=>a,λb a _=>h.block b a⟩⟩
theorem VS.alloc(h:VS w0 w mv n tk s)(o:Obj):VS w0 (w.alloc o) mv n tk s:=h.keep ((World.Since.refl _ _).alloc (uh _) o)
theorem VS.sum(h:VS w0 w mv n tk s)(z:Int):VS w0 ((w.setCell ⟨w0.heap.size+2,0,none⟩ (.int .u64 (F.Hi z))).setCell ⟨w0.heap.size+2,1,none⟩ (.int .u64 (F.Lo z))) mv n tk z:=by
 have a:∀c o,c≠w0.heap.size+2->((w.setCell ⟨w0.heap.size+2,0,none⟩ (.int .u64 (F.Hi z))).setCell ⟨w0.heap.size+2,1,none⟩ (.int .u64 (F.Lo z))).cell? ⟨c,o,none⟩=w.cell? ⟨c,o,none⟩:=λc o a=>by
  rw[World.cell?_setCell_other _ _ _ _ (λe=>a (congrArg Addr.block e).symm),World.cell?_setCell_other _ _ _ _ (λe=>a (congrArg Addr.block e).symm)]
 refine⟨(h.since.setCell (by show w0.heap.size<=w0.heap.size+2;omega) _).setCell (by show w0.heap.size<=w0.heap.size+2;omega) _,by simpa using h.size,by rw[a _ _ (by omega)];exact h.m,?_,?_,λj=>by simpa using h.fs j,by rw[a _ _ (by omega)];exact h.t,by rw[a _ _ (by omega)];exact h.v,(h.k.setOther (by show w0.heap.size+3≠w0.heap.size+2;omega) _).setOther (by show w0.heap.size+3≠w0.heap.size+2;omega) _⟩
 ·rw[World.cell?_setCell_other _ _ _ _ (λe=>by have:=congrArg Addr.off e;simp at this)];exact World.cell?_setCell_same _ _ _ (by rw[h.s0])
 ·exact World.cell?_setCell_same _ _ _ (by rw[World.cell?_setCell_other _ _ _ _ (λe=>by have:=congrArg Addr.off e;simp at this),h.s1])
end
structure LP(w0 w wr:World)(mv:Value)(n:Nat)(tk:List Bool)(s p:Int):Prop where
 vs:VS w0 wr mv n tk s
 below:w0.heap.size+6<=w.heap.size
 size:w.heap.size+1<=wr.heap.size
 p0:wr.cell? ⟨w.heap.size,0,none⟩=some (.int .u64 (F.Hi p))
 p1:wr.cell? ⟨w.heap.size,1,none⟩=some (.int .u64 (F.Lo p))
 fp:∀j,wr.frozen? ⟨w.heap.size,j,none⟩=false
 block:∀k,k<w.heap.size->k≠w0.heap.size+2->k≠w0.heap.size+3->wr.heap[k]?=w.heap[k]?
section
variable {w0 w wr u:World} {mv:Value} {n:Nat} {tk:List Bool} {s p:Int}
theorem LP.start{T:TypeId}(h:VS w0 w mv n tk s):LP w0 w (w.alloc (.cells #[.int .u64 (F.Hi p),.int .u64 (F.Lo p)] T)) mv n tk s p :=
 ⟨h.alloc _,h.size,by simp,by rw[World.cell?_alloc_at _ _ _ _ rfl];rfl,by rw[World.cell?_alloc_at _ _ _ _ rfl];rfl,λj=>World.frozen?_alloc_at _ _ _ _ rfl,λk hk _ _=>blk_alloc_lt _ _ _ hk⟩
theorem LP.drew(h:LP w0 w wr mv n tk s p):LP w0 w wr.drew mv n tk s p:=⟨h.vs.drew,h.below,h.size,h.p0,h.p1,h.fp,h.block⟩
theorem LP.via(h:LP w0 w wr mv n tk s p){a:List Bool}{b:Int}(f:VS w0 u mv n a b)(i:wr.heap.size<=u.heap.size)(c:∀k,k<wr.heap.size->k≠w0.heap.size+2->k≠w0.heap.size+3->u.heap[k]?=wr.heap[k]?):LP w0 w u mv n a b p:=by
 have l:=h.below;have m:=h.size;have hk:=c w.heap.size (by omega) (by omega) (by omega);exact⟨f,h.below,by omega,by rw[World.cell?_of_block (w:=wr) hk];exact h.p0,by rw[World.cell?_of_block (w:=wr) hk];exact h.p1,λj=>by rw[World.frozen?_of_block (w:=wr) hk];exact h.fp j,λk g d e=>(c k (by omega) d e).trans (h.block k g d e)⟩
theorem LP.keep(h:LP w0 w wr mv n tk s p)(a:RowKit.Below wr.heap.size wr u):LP w0 w u mv n tk s p:=h.via (h.vs.keep (Rz a)) a.size λk hk _ _=>a.block k hk
theorem LP.take(h:LP w0 w wr mv n tk s p){i:Nat}(b:Bool)(a:i<tk.length):LP w0 w (wr.setCell ⟨w0.heap.size+3,i,none⟩ (.bool b)) mv n (tk.set i b) s p :=
 h.via (h.vs.take b a) (by simp) λk _ _ c=>blk_setCell_other _ _ _ _ (by show k≠w0.heap.size+3;exact c)
theorem LP.held(h:LP w0 w wr mv n tk s p):wr.cell? ⟨w0.heap.size+5,0,none⟩=some (.func (.func 304) #[] #[.pointer (some ⟨w0.heap.size,0,none⟩),.pointer (some ⟨w0.heap.size+2,0,none⟩),.pointer (some ⟨w0.heap.size+4,0,none⟩),.pointer (some ⟨w0.heap.size+5,0,none⟩)]) /\
 wr.cell? ⟨w.heap.size,0,none⟩=some (.int .u64 (F.Hi p))/\wr.cell? ⟨w.heap.size,1,none⟩=some (.int .u64 (F.Lo p)):=⟨h.vs.v,h.p0,h.p1⟩
theorem LP.prod(h:LP w0 w wr mv n tk s p)(q:Int):LP w0 w ((wr.setCell ⟨w.heap.size,0,none⟩ (.int .u64 (F.Hi q))).setCell ⟨w.heap.size,1,none⟩ (.int .u64 (F.Lo q))) mv n tk s q:=by
 have m:=h.below;have r:=h.size
 have d:∀c,c≠w.heap.size->((wr.setCell ⟨w.heap.size,0,none⟩ (.int .u64 (F.Hi q))).setCell ⟨w.heap.size,1,none⟩ (.int .u64 (F.Lo q))).heap[c]?=wr.heap[c]?:=λc d=>by
  rw[blk_setCell_other _ _ _ _ (by show c≠w.heap.size;exact d),blk_setCell_other _ _ _ _ (by show c≠w.heap.size;exact d)]
 have a:=h.vs;have f:∀b o,b≠w.heap.size->((wr.setCell ⟨w.heap.size,0,none⟩ (.int .u64 (F.Hi q))).setCell ⟨w.heap.size,1,none⟩ (.int .u64 (F.Lo q))).cell? ⟨b,o,none⟩=wr.cell? ⟨b,o,none⟩:=λb o g=>World.cell?_of_block (w:=wr) (d b g);refine⟨⟨(a.since.setCell (by show w0.heap.size<=w.heap.size;omega) _).setCell (by show w0.heap.size<=w.heap.size;omega) _,by simpa using a.size,by rw[f _ _ (by omega)];exact a.m,by rw[f _ _ (by omega)];exact a.s0,by rw[f _ _ (by omega)];exact a.s1,λj=>by simpa using a.fs j,by rw[f _ _ (by omega)];exact a.t,by rw[f _ _ (by omega)];exact a.v,a.k.of_block (d _ (by omega))⟩,h.below,by simpa using h.size,?_,?_,λj=>by simpa using h.fp j,λk hk i l=>by rw[d k (by omega)];exact h.block k hk i l⟩
 ·rw[World.cell?_setCell_other _ _ _ _ (λe=>by have:=congrArg Addr.off e;simp at this)];exact World.cell?_setCell_same _ _ _ (by rw[h.p0])
 ·exact World.cell?_setCell_same _ _ _ (by rw[World.cell?_setCell_other _ _ _ _ (λe=>by have:=congrArg Addr.off e;simp at this),h.p1])
end
theorem ay(rs:List (List Int))(a:List Bool):∀(xs:List Int)(k:Nat)(p s:Int),M0.go rs a xs k p s=s+M0.go rs a xs k p 0
 | [],_,_,s=>by simp[M0.go]
 | x :: xs,k,p,s=>by
   simp only[M0.go]
   cases a.getD k true with
   | true=>exact ay rs a xs (k+1) p s
   | false =>
     simp only[ux];rw[ay rs a xs (k+1) (-p) (bif x==0 then s else s+M0 rs (a.set k true) (p*x)),ay rs a xs (k+1) (-p) (bif x==0 then 0 else 0+M0 rs (a.set k true) (p*x))]
     cases x==0<;>simp only[uY,ux]<;>omega
theorem gO{O:Nat->Prop}(w0:World)(L:∀b,O b->b<w0.heap.size)(M:OY O w0)(m:List (List Int))(n:Nat)(y:m.length=n)(hn:∀r,r<m.length->(m.getD r []).length=n)(hi:∀r c,-9223372036854775808<=Qh m r c/\Qh m r c<=9223372036854775807)(t:n<=1000)
 (ga:Option Addr) (gb go Gc:Nat) (A:Nat->Option Addr) (C RB RO:Nat->Nat) (mv:Value) (Q:Xn w0 mv m ga gb go Gc A C RB RO) (hgb:gb<w0.heap.size) (hRB:∀r,r<m.length->∀c,c<n->RB r<w0.heap.size)
 (H:∀x,-9223372036854775808<=x->x<=9223372036854775807->Ax prog 221 [.d (.int .i64 x)] (.d (F.W x)))
 (I:∀a b,Ax prog 242 [.d (F.W a),.d (F.W b)] (.d (F.W (a*b))))
 (hOpp:∀a,Ax prog 274 [.d (F.W a)] (.d (F.W (-a))))
 (R:∀a b,Ax prog 239 [.d (F.W a),.d (F.W b)] (.d (F.W (a+b)))) :
 ∀(rs:List (List Int))(row:Nat),m.drop row=rs->row<=n->∀d p s w,d.length=n->VS w0 w mv n d s ->
  Calls prog 304 #[.int .i64 row,wv p,.pointer (some ⟨w0.heap.size,0,none⟩),.pointer (some ⟨w0.heap.size+2,0,none⟩),.pointer (some ⟨w0.heap.size+4,0,none⟩),.pointer (some ⟨w0.heap.size+5,0,none⟩)] w λe w' =>
   e=.returned (.tuple #[])/\VS w0 w' mv n d (s+M0 rs d p)/\w.heap.size<=w'.heap.size/\∀k,k<w.heap.size->k≠w0.heap.size+2->k≠w0.heap.size+3->w'.heap[k]?=w.heap[k]?:=by
 intro rs
 induction rs with
 | nil =>
   intro row hd hrow d p s w htk S
   have hrn:row=n:=by
    have:=congrArg List.length hd;simp at this;omega
   subst hrn;obtain rfl:=Q.val;rw[y]at S;have z:=λo=>S.alloc o;have h1:=λo=>(z o).m;have N:=λo=>(z o).s0;have h3:=λo=>(z o).s1
   have v:∀o,Calls prog 239 #[wv s,wv p] (w.alloc o) λe w'=>e=.returned (wv (s+p))/\RowKit.Below (w.alloc o).heap.size (w.alloc o) w':=λo =>
    qG (R s p) (S4 L M (z o).since).1 (S4 L M (z o).since).2
   unfold wv at v ⊢
   go_enter func304,ntmps304
   go_wp2_with (go_at_call 239;refine(v _).mono ?_;rintro e w2 ⟨rfl,U⟩;have B:=(z _).keep (Rz U);have q1:=B.s0;have q2:=B.s1;have q3:=B.fs 0;have q4:=B.fs 1;clear h1 N h3 v)
   first|go_end0|(refine bodyPost_ret (results_none rfl _ _ _) rfl ?_)
   refine⟨rfl,by rw[y];simpa [M0] using B.sum (s+p),?_,λk hk N _=>?_⟩
   ·have:=U.size;simp at this ⊢;omega
   ·rw[blk_setCell_other _ _ _ _ (by show k≠w0.heap.size+2;exact N),blk_setCell_other _ _ _ _ (by show k≠w0.heap.size+2;exact N),U.block k (by simp;omega),blk_alloc_lt _ _ _ hk]
 | cons r rs ih =>
   intro row hd hrow d p s w htk S
   have hrn:row<n:=by
    have:=congrArg List.length hd;simp at this;omega
   have hg:m.getD row []=r:=by
    have:=congrArg (λl=>l[0]?) hd;simp at this;simp[uj,this]
   have hd':m.drop (row+1)=rs:=by
    have:=congrArg List.tail hd
    simpa using this
   have V:r.length=n:=by rw[<-hg];exact hn row (by omega)
   obtain rfl:=Q.val;obtain rfl:=Q.ga (by omega);rw[y]at S;have hbl:=hRB row (by omega) 0 (by omega);have W:w0.cell? ⟨gb,go+row,none⟩=some (.slice (some ⟨RB row,RO row,none⟩) n (C row)):=by rw[Q.row row (by omega),hg,V,(Q.cell row (by omega) 0 (by rw[hg,V];omega)).1]
   have X:∀c,c<n->w0.cell? ⟨RB row,RO row+c,none⟩=some (.int .i64 (Qh m row c)):=λc hc=>(Q.cell row (by omega) c (by rw[hg,V];exact hc)).2;have P:=λT=>LP.start (T:=T) (p:=p) S
   have hI:∀d p s w,d.length=n->VS w0 w (.slice (some ⟨gb,go,none⟩) n Gc) n d s->Calls prog 304 #[.int .i64 ((row:Int)+1),wv p,.pointer (some ⟨w0.heap.size,0,none⟩),.pointer (some ⟨w0.heap.size+2,0,none⟩),.pointer (some ⟨w0.heap.size+4,0,none⟩),.pointer (some ⟨w0.heap.size+5,0,none⟩)] w λe w' =>
    e=.returned (.tuple #[])/\VS w0 w' (.slice (some ⟨gb,go,none⟩) n Gc) n d (s+M0 rs d p)/\w.heap.size<=w'.heap.size/\∀k,k<w.heap.size->k≠w0.heap.size+2->k≠w0.heap.size+3->w'.heap[k]?=w.heap[k]?:=λd p s w h1 N=>by
    have:=ih (row+1) hd' (by omega) d p s w h1 (by rw[y];exact N);rw[y]at this;exact this
   rw[y];have HI:Aside _:=hI;clear ih hI Q;have h1:∀o,(w.alloc o).cell? ⟨w0.heap.size,0,none⟩=some (.slice (some ⟨gb,go,none⟩) n Gc):=λo=>(S.alloc o).m;have N:∀o,(w.alloc o).cell? ⟨gb,go+row,none⟩=some (.slice (some ⟨RB row,RO row,none⟩) n (C row)):=λo=>by rw[(S.alloc o).since.cell (a:=⟨gb,go+row,none⟩) hgb];exact W
   have hne:((row:Int)==(n:Int))=false:=beq_eq_false_iff_ne.2 (by omega);have hrz:(row:Int)<(n:Int):=by omega
   have eW:wv p=.agg #[.int .u64 (F.Hi p),.int .u64 (F.Lo p)]:=rfl;rw[eW];clear eW
   go_enter func304,ntmps304
   go_wp2_with fail
   have hLP:=P 276;clear h1 N P
   go_loopg [22] n (λg i wr=>∃(k:Nat)(p' s':Int),k<=n/\g=n-k/\i=.int .i64 k/\Aside (LP w0 w wr (.slice (some ⟨gb,go,none⟩) n Gc) n d s' p'/\M0.go rs d (r.drop k) k p' s'=s+M0 (r :: rs) d p))
   case atStart=>exact⟨0,p,s,ug _,rfl,rfl,hLP,by rw[List.drop_zero,ay,M0]⟩
   case round =>
    clear hLP;obtain⟨k,p',s',hk,rfl,rfl,hA⟩:=hrel;obtain⟨D,q⟩:=hA.out;by_cases Y:k<n
    ·have hkz:(k:Int)<(n:Int):=by omega
     have g1:wr.cell? ⟨RB row,RO row+k,none⟩=some (.int .i64 (Qh m row k)):=by rw[D.vs.since.cell (a:=⟨RB row,RO row+k,none⟩) hbl];exact X k Y
     have g2:=D.vs.t;have g3:=D.vs.k.cell Y;have hzk:Qh m row k=r.getD k 0:=by unfold Qh;rw[hg]
     have E:r.drop k=Qh m row k :: r.drop (k+1):=by rw[hzk,xe (by omega)];simp[uj,show k<r.length by omega]
     rw[E]at q;simp only[M0.go]at q;have Z:=hi row k;generalize Qh m row k=x at g1 q Z;have HG:Aside _:=q;clear q E hzk hA
     cases t:d.getD k true with
     | true =>
       rw[t]at g3
       go_wp2_with fail
       go_roundg (n-(k+1))
       case measure=>go_light;omega
       case rel =>
        go_light
        have:=HG.out;rw[t]at this;exact⟨k+1,p',s',by omega,rfl,by go_num,D,this⟩
     | false =>
       rw[t]at g3
       have J:∀u d s,LP w0 w u (.slice (some ⟨gb,go,none⟩) n Gc) n d s p'->Calls prog 274 #[.agg #[.int .u64 (F.Hi p'),.int .u64 (F.Lo p')]] u λe u'=>e=.returned (.agg #[.int .u64 (F.Hi (-p')),.int .u64 (F.Lo (-p'))])/\LP w0 w u' (.slice (some ⟨gb,go,none⟩) n Gc) n d s p':=λu d s h =>
        (sO (hOpp p') (S4 L M h.vs.since).1 (S4 L M h.vs.since).2).mono λe u' ⟨he,t⟩=>⟨he,h.keep t⟩
       cases hx:x==0 with
       | true =>
         have hx2:(x != 0)=false:=by simp only[bne,hx];rfl
         have q1:=D.p0;have q2:=D.p1
         go_wp2_with (go_at_call 274;refine(J _ _ _ D).mono ?_;rintro e w2 ⟨rfl,f⟩;have r1:=f.p0;have r2:=f.p1;have r3:=f.fp 0;have r4:=f.fp 1;clear q1 q2 J)
         go_roundg (n-(k+1))
         case measure=>go_light;omega
         case rel =>
          go_light
          have:=HG.out;rw[t,hx]at this;exact⟨k+1,-p',s',by omega,rfl,by go_num,f.prod _,this⟩
       | false =>
         have hx2:(x != 0)=true:=by simp only[bne,hx];rfl
         have G:k<d.length:=by omega
         have hL1:=D.take true G;have g4:=D.vs.k.frozen k
         go_wp2_with fail
         generalize wr.setCell ⟨w0.heap.size+3,k,none⟩ (.bool true)=w1 at hL1 ⊢;clear g1 g2 g3 g4 D;have hL1d:=hL1.drew;have hI:=HI.out
         have cW:∀u d s,LP w0 w u (.slice (some ⟨gb,go,none⟩) n Gc) n d s p'->Calls prog 221 #[.int .i64 x] u λe u'=>e=.returned (.agg #[.int .u64 (F.Hi x),.int .u64 (F.Lo x)])/\LP w0 w u' (.slice (some ⟨gb,go,none⟩) n Gc) n d s p':=λu d s h =>
          (qF (H x Z.1 Z.2) (S4 L M h.vs.since).1 (S4 L M h.vs.since).2).mono λe u' ⟨he,t⟩=>⟨he,h.keep t⟩
         have cT:∀u d s,LP w0 w u (.slice (some ⟨gb,go,none⟩) n Gc) n d s p'->Calls prog 242 #[.agg #[.int .u64 (F.Hi p'),.int .u64 (F.Lo p')],.agg #[.int .u64 (F.Hi x),.int .u64 (F.Lo x)]] u λe u'=>e=.returned (.agg #[.int .u64 (F.Hi (p'*x)),.int .u64 (F.Lo (p'*x))])/\LP w0 w u' (.slice (some ⟨gb,go,none⟩) n Gc) n d s p':=λu d s h =>
          (qG (I p' x) (S4 L M h.vs.since).1 (S4 L M h.vs.since).2).mono λe u' ⟨he,t⟩=>⟨he,h.keep t⟩
         have cV:∀u s,LP w0 w u (.slice (some ⟨gb,go,none⟩) n Gc) n (d.set k true) s p'->Calls prog 304 #[.int .i64 (i64.wrap ((row:Int)+1)),.agg #[.int .u64 (F.Hi (p'*x)),.int .u64 (F.Lo (p'*x))],.pointer (some ⟨w0.heap.size,0,none⟩),.pointer (some ⟨w0.heap.size+2,0,none⟩),.pointer (some ⟨w0.heap.size+4,0,none⟩),.pointer (some ⟨w0.heap.size+5,0,none⟩)] u λe u'=>e=.returned (.tuple #[])/\LP w0 w u' (.slice (some ⟨gb,go,none⟩) n Gc) n (d.set k true) (s+M0 rs (d.set k true) (p'*x)) p':=λu s h=>by
          rw[show i64.wrap ((row:Int)+1)=(row:Int)+1 by rw[IntKind.wrap_i64];omega];exact(hI (d.set k true) (p'*x) s u (by simp[htk]) h.vs).mono λe u' ⟨he,hv,hz,t⟩=>⟨he,h.via hv hz t⟩
         clear hI
         go_region_held3 (λu=>u.cell? ⟨w0.heap.size+5,0,none⟩=some (.func (.func 304) #[] #[.pointer (some ⟨w0.heap.size,0,none⟩),.pointer (some ⟨w0.heap.size+2,0,none⟩),.pointer (some ⟨w0.heap.size+4,0,none⟩),.pointer (some ⟨w0.heap.size+5,0,none⟩)]) /\
          u.cell? ⟨w.heap.size,0,none⟩=some (.int .u64 (F.Hi p'))/\u.cell? ⟨w.heap.size,1,none⟩=some (.int .u64 (F.Lo p'))) (exact LP.held (by assumption))
          (first
           | (go_at_call 221;refine(cW _ _ _ (by assumption)).mono ?_;rintro e u ⟨rfl,h⟩)
           | (go_at_call 242;refine(cT _ _ _ (by assumption)).mono ?_;rintro e u ⟨rfl,h⟩)
           | (go_at_call 304;refine(cV _ _ (by assumption)).mono ?_;rintro e u ⟨rfl,h⟩))
         have B:=h.vs.t
         have hV3:u.cell? ⟨w0.heap.size+3,k,none⟩=some (.bool true):=by
          have:=h.vs.k.cell Y
          simpa [uj,G] using this
         have hV4:=h.vs.k.frozen k;have K:=h.take false (i:=k) (by simp[G])
         have etk:(d.set k true).set k false=d:=by
          apply vX;intro j;by_cases e:k=j
          ·subst e;have:d[k]=false:=by simpa [uj,G] using t
           simp[G,this]
          ·simp[e]
         rw[etk]at K;have q1:=K.p0;have q2:=K.p1;clear etk cV cW cT
         go_wp2_with (go_at_call 274;refine(J _ _ _ K).mono ?_;rintro e w2 ⟨rfl,f⟩;have r1:=f.p0;have r2:=f.p1;have r3:=f.fp 0;have r4:=f.fp 1;clear q1 q2 J)
         go_roundg (n-(k+1))
         case measure=>go_light;omega
         case rel =>
          go_light
          have:=HG.out;rw[t,hx]at this;exact⟨k+1,-p',_,by omega,rfl,by go_num,f.prod _,this⟩
    ·have hkz:¬((k:Int)<(n:Int)):=by omega
     go_wp2_with fail
     first|go_end0|(refine bodyPost_ret (results_none rfl _ _ _) rfl ?_)
     have:k=n:=by omega
     subst this;rw[List.drop_eq_nil_of_le (by omega)]at q;simp only[M0.go]at q;refine⟨rfl,by rw[<-q];exact D.vs,by have:=D.size;omega,D.block⟩
theorem tu:prog.underlying 226=some (TypeDesc.slice 4):=by kernel_rfl
theorem tt:(prog.info? 4).map (λi=>(i.zero,i.size,i.bytes))=some (some (Value.bool false),1,1):=by kernel_rfl
theorem j7(w0:World)(mv:Value)(n:Nat)(v:List Bool)(t:∀i,i<n->v.getD i true=false)(l f m p q:TypeId)(g:Array Value) :
 VS w0 ((((((w0.alloc (.cells #[mv] l)).alloc (.cells g f)).alloc (.cells #[.int .u64 0,.int .u64 0] m)).alloc (.cells (madeCells #[.bool false] n) 4)).alloc (.cells #[.slice (some ⟨w0.heap.size+3,0,none⟩) n n] p)).alloc (.cells #[.func (.func 304) #[] #[.pointer (some ⟨w0.heap.size,0,none⟩),.pointer (some ⟨w0.heap.size+2,0,none⟩),.pointer (some ⟨w0.heap.size+4,0,none⟩),.pointer (some ⟨w0.heap.size+5,0,none⟩)]] q)) mv n v 0 /\
 ((((((w0.alloc (.cells #[mv] l)).alloc (.cells g f)).alloc (.cells #[.int .u64 0,.int .u64 0] m)).alloc (.cells (madeCells #[.bool false] n) 4)).alloc (.cells #[.slice (some ⟨w0.heap.size+3,0,none⟩) n n] p)).alloc (.cells #[.func (.func 304) #[] #[.pointer (some ⟨w0.heap.size,0,none⟩),.pointer (some ⟨w0.heap.size+2,0,none⟩),.pointer (some ⟨w0.heap.size+4,0,none⟩),.pointer (some ⟨w0.heap.size+5,0,none⟩)]] q)).heap[w0.heap.size+1]?=some (.cells g f (0,0)) /\
 w0.heap.size+6=((((((w0.alloc (.cells #[mv] l)).alloc (.cells g f)).alloc (.cells #[.int .u64 0,.int .u64 0] m)).alloc (.cells (madeCells #[.bool false] n) 4)).alloc (.cells #[.slice (some ⟨w0.heap.size+3,0,none⟩) n n] p)).alloc (.cells #[.func (.func 304) #[] #[.pointer (some ⟨w0.heap.size,0,none⟩),.pointer (some ⟨w0.heap.size+2,0,none⟩),.pointer (some ⟨w0.heap.size+4,0,none⟩),.pointer (some ⟨w0.heap.size+5,0,none⟩)]] q)).heap.size:=by
 have a:∀(W:World)(o:Obj) k,k<W.heap.size->(W.alloc o).heap[k]?=W.heap[k]?:=λW o k hk=>blk_alloc_lt W o k hk;obtain⟨W1,r⟩:∃W,W=w0.alloc (.cells #[mv] l):=⟨_,rfl⟩;obtain⟨W2,h⟩:∃W,W=W1.alloc (.cells g f):=⟨_,rfl⟩;obtain⟨W3,c⟩:∃W,W=W2.alloc (.cells #[.int .u64 0,.int .u64 0] m):=⟨_,rfl⟩;obtain⟨W4,e⟩:∃W,W=W3.alloc (.cells (madeCells #[.bool false] n) 4):=⟨_,rfl⟩;obtain⟨W5,d⟩:∃W,W=W4.alloc (.cells #[.slice (some ⟨w0.heap.size+3,0,none⟩) n n] p):=⟨_,rfl⟩;obtain⟨W6,b⟩:∃W,W=W5.alloc (.cells #[.func (.func 304) #[] #[.pointer (some ⟨w0.heap.size,0,none⟩),.pointer (some ⟨w0.heap.size+2,0,none⟩),.pointer (some ⟨w0.heap.size+4,0,none⟩),.pointer (some ⟨w0.heap.size+5,0,none⟩)]] q):=⟨_,rfl⟩;rw[<-r,<-h,<-c,<-e,<-d,<-b];have x:W1.heap.size=w0.heap.size+1:=by rw[r];simp
 have s:W2.heap.size=w0.heap.size+2:=by rw[h];simp[x]
 have y:W3.heap.size=w0.heap.size+3:=by rw[c];simp[s]
 have z:W4.heap.size=w0.heap.size+4:=by rw[e];simp[y]
 have A:W5.heap.size=w0.heap.size+5:=by rw[d];simp[z]
 have H:W6.heap.size=w0.heap.size+6:=by rw[b];simp[A]
 have B:∀k,k<w0.heap.size+2->W6.heap[k]?=W2.heap[k]?:=λk hk=>by rw[b,a W5 _ k (by omega),d,a W4 _ k (by omega),e,a W3 _ k (by omega),c,a W2 _ k (by omega)]
 have C:∀k,k<w0.heap.size+1->W6.heap[k]?=W1.heap[k]?:=λk hk=>by rw[B k (by omega),h,a W1 _ k (by omega)]
 have u:W6.heap[w0.heap.size+2]?=W3.heap[w0.heap.size+2]?:=by rw[b,a W5 _ _ (by omega),d,a W4 _ _ (by omega),e,a W3 _ _ (by omega)]
 have D:W6.heap[w0.heap.size+3]?=W4.heap[w0.heap.size+3]?:=by rw[b,a W5 _ _ (by omega),d,a W4 _ _ (by omega)]
 have E:W6.heap[w0.heap.size+4]?=W5.heap[w0.heap.size+4]?:=by rw[b,a W5 _ _ (by omega)]
 have F:w0.Since w0.heap.size W6:=by
  rw[b,d,e,c,h,r];exact((((((World.Since.refl _ _).alloc (uh _) _).alloc (by simp) _).alloc (by simp;omega) _).alloc (by simp;omega) _).alloc (by simp;omega) _).alloc (by simp;omega) _
 refine⟨⟨F,by omega,?_,?_,?_,λj=>?_,?_,?_,?_⟩,?_,by omega⟩
 ·rw[World.cell?_of_block (w:=W1) (C _ (by show w0.heap.size<_;omega)),r];exact World.cell?_alloc_at _ _ _ _ rfl
 ·rw[World.cell?_of_block (w:=W3) u,c];exact World.cell?_alloc_at _ _ _ _ s.symm
 ·rw[World.cell?_of_block (w:=W3) u,c];exact World.cell?_alloc_at _ _ _ _ s.symm
 ·rw[World.frozen?_of_block (w:=W3) u,c];exact World.frozen?_alloc_at _ _ _ _ s.symm
 ·rw[World.cell?_of_block (w:=W5) E,d];exact World.cell?_alloc_at _ _ _ _ z.symm
 ·rw[b];exact World.cell?_alloc_at _ _ _ _ A.symm
 ·have:=World.rowIs_made W3 (.bool false) n 4;rw[<-e,y]at this;exact(this.of_block D).congr λi G=>by rw[t i G]
 ·rw[B _ (by omega),h,<-x];exact blk_alloc_new _ _
theorem lQ{O:Nat->Prop}(w0:World)(G:∀b,O b->b<w0.heap.size)(H:OY O w0)(m:List (List Int))(n:Nat)(g:m.length=n)(hn:∀r,r<m.length->(m.getD r []).length=n)(I:∀r c,-9223372036854775808<=Qh m r c/\Qh m r c<=9223372036854775807)(l:n<=1000)
 (f:Option Addr) (gb go Gc:Nat) (A:Nat->Option Addr) (C RB RO:Nat->Nat) (mv:Value) (Y:Xn w0 mv m f gb go Gc A C RB RO) (J:gb<w0.heap.size) (K:∀r,r<m.length->∀c,c<n->RB r<w0.heap.size) :
 Calls prog 283 #[mv] w0 λe w'=>e=.returned (wv (X7 m))/\w0.Since w0.heap.size w':=by
 have Z:=gO w0 G H m n g hn I l f gb go Gc A C RB RO mv Y J K F.whole_ F.times_ F.opposite_ F.plus_ m 0 rfl (ug _);have ev:=Y.val;rw[g]at ev;have o:=run_make_row' (P:=prog) 226 4 (.bool false) 1 tu tt rfl .i64 .i64 n (by omega) (by omega);have L:∀(fn:Fn)(first cap:Array Value)(w:World),(Instr.makeFunc fn first cap).run prog w=.ok (.func fn first cap) w:=λ_ _ _ _=>rfl;subst ev;have M:∀(fn:Fn)(c1 c2:Array Value)(a:Addr)(w:World),(store a (.func fn c1 c2)).run prog w=stored prog w a (.func fn c1 c2) .plain:=λ_ _ _ a w=>run_store prog w a _ _ rfl;have q1:∀(p q s t y:Obj)(x:Value)(T:TypeId),((((((w0.alloc p).alloc q).alloc s).alloc t).alloc y).alloc (.cells #[x] T)).cell? ⟨w0.heap.size+1+1+1+1+1,0,none⟩=some x:=λp q s t y x T=>World.cell?_alloc_at _ _ _ _ (by simp);have q2:∀(p q s t y:Obj)(x:Value)(T:TypeId),((((((w0.alloc p).alloc q).alloc s).alloc t).alloc y).alloc (.cells #[x] T)).frozen? ⟨w0.heap.size+1+1+1+1+1,0,none⟩=false:=λp q s t y x T=>World.frozen?_alloc_at _ _ _ _ (by simp);have z:=j7 w0 (.slice f n Gc) n (m.map λ_=>false) (λi I=>by simp[uj,g,I]) 29 276 276 226 330 #[.int .u64 0,.int .u64 0];have HS:Aside _:=z;clear z
 go_enter func283,ntmps283
 go_wp2_with fail
 obtain⟨W,N⟩:∃W,W=((((((w0.alloc (.cells #[.slice f n Gc] 29)).alloc (.cells #[.int .u64 0,.int .u64 0] 276)).alloc (.cells #[.int .u64 0,.int .u64 0] 276)).alloc (.cells (madeCells #[.bool false] n) 4)).alloc (.cells #[.slice (some ⟨w0.heap.size+3,0,none⟩) n n] 226)).alloc (.cells #[.func (.func 304) #[] #[.pointer (some ⟨w0.heap.size,0,none⟩),.pointer (some ⟨w0.heap.size+2,0,none⟩),.pointer (some ⟨w0.heap.size+4,0,none⟩),.pointer (some ⟨w0.heap.size+5,0,none⟩)]] 330)):=⟨_,rfl⟩;have z:=HS.out;rw[<-N]at z;refine cast (congrArg (λW=>Code.wp prog _ _ _ W) N) ?_;clear N HS o L M q1 q2;obtain⟨D,h,hsz⟩:=z;have B:=D.drew;have t1:W.cell? ⟨w0.heap.size+1+1+1+1+1,0,none⟩=some (.func (.func 304) #[] #[.pointer (some ⟨w0.heap.size,0,none⟩),.pointer (some ⟨w0.heap.size+1+1,0,none⟩),.pointer (some ⟨w0.heap.size+1+1+1+1,0,none⟩),.pointer (some ⟨w0.heap.size+1+1+1+1+1,0,none⟩)]):=D.v
 have Q:∀u,VS w0 u (.slice f n Gc) n (m.map λ_=>false) 0/\u.heap[w0.heap.size+1]?=some (.cells #[.int .u64 0,.int .u64 0] 276 (0,0))->Calls prog 221 #[.int .i64 1] u λe u'=>e=.returned (wv 1)/\VS w0 u' (.slice f n Gc) n (m.map λ_=>false) 0/\u'.heap[w0.heap.size+1]?=some (.cells #[.int .u64 0,.int .u64 0] 276 (0,0)):=λu d =>
  (qF (F.whole_ 1 (by omega) (by omega)) (S4 G H d.1.since).1 (S4 G H d.1.since).2).mono λe u' ⟨R,l⟩=>⟨R,d.1.keep (Rz l),(l.block _ (by have:=d.1.size;omega)).trans d.2⟩
 have S:∀u,VS w0 u (.slice f n Gc) n (m.map λ_=>false) 0/\u.heap[w0.heap.size+1]?=some (.cells #[.int .u64 0,.int .u64 0] 276 (0,0))->Calls prog 304 #[.int .i64 0,wv 1,.pointer (some ⟨w0.heap.size,0,none⟩),.pointer (some ⟨w0.heap.size+1+1,0,none⟩),.pointer (some ⟨w0.heap.size+1+1+1+1,0,none⟩),.pointer (some ⟨w0.heap.size+1+1+1+1+1,0,none⟩)] u λe u'=>e=.returned (.tuple #[])/\VS w0 u' (.slice f n Gc) n (m.map λ_=>false) (X7 m)/\u'.heap[w0.heap.size+1]?=some (.cells #[.int .u64 0,.int .u64 0] 276 (0,0)):=λu d =>
  (Z (m.map λ_=>false) 1 0 u (by simp[g]) d.1).mono λe u' ⟨R,k,_,l⟩=>⟨R,by rw[Int.zero_add]at k;exact k,(l _ (by have:=d.1.size;omega) (by omega) (by omega)).trans d.2⟩
 clear Z;have U:VS w0 W (.slice f n Gc) n (m.map λ_=>false) 0/\W.heap[w0.heap.size+1]?=some (.cells #[.int .u64 0,.int .u64 0] 276 (0,0)):=⟨D,h⟩;have V:VS w0 W.drew (.slice f n Gc) n (m.map λ_=>false) 0/\W.drew.heap[w0.heap.size+1]?=some (.cells #[.int .u64 0,.int .u64 0] 276 (0,0)):=⟨B,h⟩;clear D h B;unfold wv at Q S
 go_region_held3 (λu=>u.cell? ⟨w0.heap.size+1+1+1+1+1,0,none⟩=some (.func (.func 304) #[] #[.pointer (some ⟨w0.heap.size,0,none⟩),.pointer (some ⟨w0.heap.size+1+1,0,none⟩),.pointer (some ⟨w0.heap.size+1+1+1+1,0,none⟩),.pointer (some ⟨w0.heap.size+1+1+1+1+1,0,none⟩)])) (first|exact(And.left (by assumption):VS w0 _ _ _ _ _).v)
  (first
   | (go_at_call 221;refine(Q _ (by assumption)).mono ?_;rintro e u ⟨rfl,d⟩)
   | (go_at_call 304;refine(S _ (by assumption)).mono ?_;rintro e u ⟨rfl,d⟩))
 obtain⟨k,E⟩:=d;have r1:u.cell? ⟨w0.heap.size+1+1,0,none⟩=some (.int .u64 (F.Hi (X7 m))):=k.s0;have r2:u.cell? ⟨w0.heap.size+1+1,1,none⟩=some (.int .u64 (F.Lo (X7 m))):=k.s1;have r3:u.cell? ⟨w0.heap.size+1,0,none⟩=some (.int .u64 0):=by simp[World.cell?,E]
 have r4:u.cell? ⟨w0.heap.size+1,1,none⟩=some (.int .u64 0):=by simp[World.cell?,E]
 have r5:∀j,u.frozen? ⟨w0.heap.size+1,j,none⟩=false:=λj=>by simp[World.frozen?,E]
 have X:=k.since;clear k E Q S U V t1
 go_wp2_with fail
 refine bodyPost_ret (v:=.agg #[.int .u64 (F.Hi (X7 m)),.int .u64 (F.Lo (X7 m))]) (by simp[results,results283,go_sem,r3,r4]) rfl ⟨rfl,(X.setCell (by show w0.heap.size<=w0.heap.size+1;omega) _).setCell (by show w0.heap.size<=w0.heap.size+1;omega) _⟩
set_option maxRecDepth 10000
theorem iL{O:Nat->Prop}{w:World}{vs:Array Value}{x:D}(a:vs.size=1)(h:∀(i:Nat) v y,vs[i]?=some v->[AV.d x][i]?=some y->OZ O w v y):∃v,vs=#[v]/\Ay O w v x:=by
 obtain⟨l⟩:=vs
 match l,a with
 | [v],_=>exact⟨v,rfl,h 0 v _ rfl rfl⟩
theorem aO{m:List (List Int)}{n:Nat}(h:lenM m n=true):∀r,r<m.length->(m.getD r []).length=n:=λr hr=>by
 have:=List.all_eq_true.1 h (m.getD r []) (by simp[uj,hr])
 simpa using this
theorem KR(f:List (List Int))(R:List (List Int))(g:KP f=some R):Ax prog 228 [.d (Ao 1 (Ao 1 (D.int .i64)) f)] (.d (Ao 1 (Ao 1 (D.int .i64)) R)):=by
 obtain⟨hr,g⟩:=Wj g;obtain rfl:=uc g;obtain⟨l,m⟩:=Bool.and_eq_true_iff.1 hr;obtain⟨i,n,j,o⟩:=uf l;refine⟨by kernel_rfl,λO w vs p z d a=>?_⟩;obtain⟨v,rfl,q⟩:=iL d a;obtain⟨s,gb,go,Gc,A,C,RB,RO,t,u,h⟩:=RP q;have k:=aO m
 exact(kL f _ i k j o n w s gb go Gc A C RB RO v t (u i).2 λr hr c x=>(h r hr c (by rw[k r hr];exact x)).2).mono λe w' ⟨y,b⟩ =>
  ⟨_,y,⟨b.since.os,b.since.tape,b.since.output,b.since.size,b.since.block⟩,b.data p j⟩
theorem O5(j:List (List Int))(k:Int)(p2:List Int)(R:List (List Int))(m:Hr j k p2=some R):Ax prog 282 [.d (Ao 1 (Ao 1 (D.int .i64)) j),.d (.int .i64 k),.d (Ao 1 (D.int .i64) p2)] (.d (Ao 1 (Ao 1 (D.int .i64)) R)):=by
 obtain⟨hr,m⟩:=Wj m;obtain rfl:=uc m;obtain⟨t,x⟩:=Bool.and_eq_true_iff.1 hr;obtain⟨Q,S,y,z⟩:=uf t;obtain⟨n,rfl⟩:∃c:Nat,k=c:=⟨k.toNat,by omega⟩;refine⟨by kernel_rfl,λO w vs B T g d=>?_⟩
 obtain⟨v,u,b,rfl⟩:∃v u b,vs=#[v,u,b]:=by
  obtain⟨l⟩:=vs
  match l,g with
  | [v,u,b],_=>exact⟨v,u,b,rfl⟩
 have E:Ay O w v _:=d 0 v _ rfl rfl;have F:=AJ (d 1 u _ rfl rfl);subst F;obtain⟨a,cap,G,H,rfl,h⟩:=Ht (show Ay O w b (D.list 1 (p2.map (D.int .i64)))from d 2 b _ rfl rfl);obtain⟨I,gb,go,Gc,A,C,RB,RO,J,K,o⟩:=RP E;have q:=aO x;have s:0<j.length:=by omega
 obtain⟨L,_,p,_⟩:=h 0 (by omega);subst L
 exact(YR j p2 n _ rfl q (by omega) y z w I gb go Gc A C RB RO v J (K s).2 (λr hr c M=>(o r hr c (by rw[q r hr];exact M)).2) G H cap p (λi N=>(h i N).2.2.2)).mono λe w' ⟨P,cp,f⟩ =>
  ⟨_,P,⟨f.since.os,f.since.tape,f.since.output,f.since.size,f.since.block⟩,f.data B s⟩
theorem Mq(a:List (List Int))(R:AQ)(h:Dj a=some R):Ax prog 283 [.d (Ao 1 (Ao 1 (D.int .i64)) a)] (.d (BV R)):=by
 obtain⟨hr,h⟩:=Wj h;obtain rfl:=uc h;obtain⟨i,j⟩:=Bool.and_eq_true_iff.1 hr;obtain⟨j,n⟩:=Bool.and_eq_true_iff.1 j;refine⟨by kernel_rfl,λO w vs o p d b=>?_⟩;obtain⟨v,rfl,q⟩:=iL d b;obtain⟨s,gb,go,Gc,A,C,RB,RO,t,u,k⟩:=RP q;have m:=aO j
 have x:∀r c,-9223372036854775808<=Qh a r c/\Qh a r c<=9223372036854775807:=λr c=>by
  unfold Qh;by_cases hr:r<a.length
  ·by_cases f:c<(a.getD r []).length
   ·have:=List.all_eq_true.1 n (a.getD r []) (by simp[uj,hr]);generalize a.getD r []=l at this f ⊢;have:=List.all_eq_true.1 this (l.getD c 0) (by rw[uj,P3 f];exact ud f);exact uf this
   ·rw[uj,uP (by omega)];exact⟨by decide,by decide⟩
  ·rw[show a.getD r []=[]from by rw[uj,uP (by omega)];rfl];exact⟨by simp,by simp⟩
 obtain⟨y,i⟩:=uf i
 exact(lQ w o p a _ rfl m x i s gb go Gc A C RB RO v t (u y).2 (λr hr c f=>(k r hr c (by rw[m r hr];exact f)).2)).mono λe w' ⟨z,g⟩ =>
  ⟨_,z,⟨g.os,g.tape,g.output,g.size,g.block⟩,aZ _⟩
theorem Lx(a:Int)(R:AQ)(b:QF a=some R):Ax prog 221 [.d (.int .i64 a)] (.d (BV R)):=by
 obtain⟨hr,b⟩:=Wj b;obtain rfl:=uc b;obtain⟨c,d⟩:=uf hr;exact F.whole_ a c d
theorem ao{w:AQ}(h:(OW w.D&&OW w.C)=true):BV w=F.W (Qg w)/\-F.B127<=Qg w/\Qg w<F.B127:=by
 obtain⟨d,e⟩:=Bool.and_eq_true_iff.1 h;have d:=uf d;have e:=uf e;have f:F.B127=170141183460469231731687303715884105728:=rfl;obtain⟨a,b⟩:=w;simp only at d e;unfold Qg BV F.W F.Hi F.Lo;simp only;by_cases c:a*18446744073709551616+b<F.B127
 ·rw[un c];simp only[uY];refine⟨?_,by omega,by omega⟩;rw[show(a*18446744073709551616+b)/18446744073709551616%18446744073709551616=a by omega,show(a*18446744073709551616+b)%18446744073709551616=b by omega]
 ·rw[uB c];simp only[ux];refine⟨?_,by omega,by omega⟩;rw[show(a*18446744073709551616+b-2*F.B127)/18446744073709551616%18446744073709551616=a by omega,show(a*18446744073709551616+b-2*F.B127)%18446744073709551616=b by omega]
theorem Mk(b:AQ)(R:Int)(a:F6 b=some R):Ax prog 273 [.d (BV b)] (.d (.int .i64 R)):=by
 obtain⟨hr,a⟩:=Wj a;obtain rfl:=uc a;obtain⟨e,c,d⟩:=ao hr;rw[e];exact F.sign_ _ c d
theorem N7(b c:AQ)(R:AO×Int)(a:GI b c=some R):Ax prog 220 [.d (BV b),.d (BV c)] (.tup [.d (B6 R.1),.d (.int .i64 R.2)]):=by
 obtain⟨hr,a⟩:=Wj a;obtain rfl:=uc a;obtain⟨d,hr⟩:=Bool.and_eq_true_iff.1 hr;obtain⟨e,hr⟩:=Bool.and_eq_true_iff.1 hr;obtain⟨hd,f,g⟩:=uf hr;obtain⟨h,_,i⟩:=ao d;obtain⟨j,_,k⟩:=ao e;rw[h,j];exact F.reduced_ _ _ hd ⟨f,i⟩ ⟨g,k⟩
theorem If(d e:Int)(R:Int×Int)(c:Hs d e=some R):Ax prog 288 [.d (.int .u64 d),.d (.int .u64 e)] (.tup [.d (.int .u64 R.1),.d (.int .u64 R.2)]):=by
 obtain⟨hr,c⟩:=Wj c;obtain rfl:=uc c;obtain⟨a,b⟩:=Bool.and_eq_true_iff.1 hr;have a:=uf a;have b:=uf b;exact F.mul64_ _ _ a.1 a.2 b.1 b.2
theorem UC(d e p2:Int)(R:Int×Int)(b:Jq d e p2=some R):gV prog 286 [.d (.int .u64 d),.d (.int .u64 e),.d (.int .u64 p2)] (.tup [.d (.int .u64 R.1),.d (.int .u64 R.2)]):=by
 obtain⟨hr,b⟩:=Wj b;obtain rfl:=uc b;obtain⟨a,f⟩:=Bool.and_eq_true_iff.1 hr;obtain⟨c,a⟩:=Bool.and_eq_true_iff.1 a;have a:=uf a;have c:=uf c;exact F.add64_ _ _ _ c.1 a.1 (by simpa using f)
instance:CS prog 228 (type_of% @KR):=⟨@KR⟩
instance:CS prog 282 (type_of% @O5):=⟨@O5⟩
instance:CS prog 283 (type_of% @Mq):=⟨@Mq⟩
instance:CS prog 221 (type_of% @Lx):=⟨@Lx⟩
instance:CS prog 273 (type_of% @Mk):=⟨@Mk⟩
instance:CS prog 220 (type_of% @N7):=⟨@N7⟩
instance:CS prog 288 (type_of% @If):=⟨@If⟩
set_option maxRecDepth 20000
set_option maxHeartbeats 4000000
theorem si(n:Nat)(r:n<=1000000):lg prog 289 [0] [.d (.list 1 []),.d (.int .i64 n)] (.own 1 3 []):=by
 refine⟨by kernel_rfl,λO w vs s t d f c=>?_⟩
 obtain⟨v,u,rfl⟩:∃v u,vs=#[v,u]:=by
  obtain⟨l⟩:=vs
  match l,d with
  | [v,u],_=>exact⟨v,u,rfl⟩
 have g:=f 0 (by simp);simp at g;subst g;have m:=AJ (c 1 u _ rfl rfl);subst m
 have fin:∀{e:Ending}{v:Value}{w':World},e=.returned v->RowKit.Below w.heap.size w w'->(v=.slice none 0 0\/∃cap cur,v=.slice (some ⟨w.heap.size,0,none⟩) 0 cap/\w'.heap[w.heap.size]?=some (.cells cur 3 (0,0))/\cap<=maxLen/\cur.size=cap) ->
  ∃v,e=.returned v/\RowKit.Below w.heap.size w w'/\Di (λb=>w.heap.size<=b) O w' v (.own 1 3 []):=by
  intro e v w' o p g;refine⟨v,o,p,by decide,(λ_ h=>by cases h),λb i=>?_,[],?_,By.nil⟩
  ·rcases g with rfl|⟨cap,cur,rfl,_⟩
   ·simp[Ae]at i
   ·simp[Ae]at i;omega
  ·rcases g with rfl|⟨cap,cur,rfl,k,j,x⟩
   ·exact .inl (World.ownsRow_nil w' _ _ _)
   ·exact .inl ⟨rfl,.inr ⟨_,cap,cur,rfl,ug _,k,ug _,j,by omega,by simp⟩⟩
 by_cases q:n=0
 ·subst q
  go_enter func289,ntmps289
  go_wp2
  go_ret
  exact fin rfl (RowKit.Below.refl _ _) (.inl rfl)
 ·have y:(0:Int)<n:=by omega
  have a:Builtin.nextslicecap n 0=n:=by unfold Builtin.nextslicecap;simp;omega
  have H:=Lib.hid a;clear a
  go_enter func289,ntmps289
  go_wp2
  all_goals try (exfalso;have a:=H.out;simp only[show t3.bytes=8 from rfl,a]at *;omega)
  go_ret
  have k:=grownCap_ge w n 0 3;have j:=grownCap_le_maxLen w n 0 3 (by unfold maxLen;omega);unfold grownCap at k j;refine fin rfl ((RowKit.Below.refl _ _).alloc (uh _) _).drew (.inr ⟨_,_,rfl,heap_alloc_new w _,j,?_⟩);rw[Array.size_append,size_zeroCells,size_zeroCells];simp;omega
def eV(a b:List Int):Fin 3->Int
 | 0=>0
 | 1=>(a.length:Int)
 | 2=>((a.length+b.length:Nat):Int)
def ly(a b:List Int):Fin 3->List D
 | 0=>[]
 | 1=>a.map (D.int .i64)
 | 2=>(a++b).map (D.int .i64)
theorem oP(a b:List Int)(e:a.length<=200000)(f:b.length<=200000) :
 Ax prog 245 [.d (.list 1 [F.ints a,F.ints b])] (.d (F.ints (a++b))):=by
 have c:i64.wrap (eV a b 0+((a.map (D.int .i64)).length:Int))=eV a b 1:=by
  show i64.wrap (0+((a.map (D.int .i64)).length:Int))=(a.length:Int);rw[ua,F.wrap_small (by omega) (by omega)];omega
 have d:i64.wrap (eV a b 1+((b.map (D.int .i64)).length:Int))=eV a b 2:=by
  show i64.wrap ((a.length:Int)+((b.map (D.int .i64)).length:Int))=((a.length+b.length:Nat):Int);rw[ua,F.wrap_small (by omega) (by omega)];omega
 refine Du func245 (by kernel_rfl) ?_
 conv=>whnf
 refine loop (Fin 3) (λk=>Dk 36 [(0,.d (.list 1 [F.ints a,F.ints b])),(3,.d (.int .i64 (eV a b k))),(9,.d (.list 1 [F.ints a,F.ints b])),(10,.d (.int .i64 2)),(11,.d (.int .i64 (k.val:Int)))] []) (λk=>2-k.val) 0 ?_ λk=>?_
 ·refine TL ?_
  conv=>whnf
  repeat (first|exact trivial|refine And.intro (by first|with_reducible rfl|exact .inl rfl|(rw[next (by first|omega|(simp only;omega))])|rfl) ?_)
 match k with
 | 0 =>
   conv=>whnf
   refine⟨⟨by decide,_,rfl,?_⟩⟩
   conv=>whnf
   refine br (λh=>?_) (λh=>?_)
   ·exact absurd (uf h) (by show ¬(i64.wrap (eV a b 0+((a.map (D.int .i64)).length:Int))<0);rw[c];show ¬((a.length:Int)<0);omega)
   conv=>whnf
   refine⟨1,?_,by decide⟩;refine TL ?_
   conv=>whnf
   repeat (first|exact trivial|refine And.intro (by first|with_reducible rfl|rfl|rw[c]) ?_)
 | 1 =>
   conv=>whnf
   refine⟨⟨by decide,_,rfl,?_⟩⟩
   conv=>whnf
   refine br (λh=>?_) (λh=>?_)
   ·exact absurd (uf h) (by show ¬(i64.wrap (eV a b 1+((b.map (D.int .i64)).length:Int))<0);rw[d];show ¬(((a.length+b.length:Nat):Int)<0);omega)
   conv=>whnf
   refine⟨2,?_,by decide⟩;refine TL ?_
   conv=>whnf
   repeat (first|exact trivial|refine And.intro (by first|with_reducible rfl|rfl|rw[d]) ?_)
 | 2 =>
   conv=>whnf
   refine rX (si (a.length+b.length) (by omega)) ?_
   conv=>whnf
   refine loop (Fin 3) (λk=>Dk 36 [(6,.sl 24 1),(25,.d (.list 1 [F.ints a,F.ints b])),(26,.d (.int .i64 2)),(27,.d (.int .i64 (k.val:Int)))] [(24,.row 1 3 (ly a b k),1)]) (λk=>2-k.val) 0 ?_ λk=>?_
   ·refine TL ?_
    conv=>whnf
    repeat (first|exact trivial|refine And.intro (by first|with_reducible rfl|exact .inl rfl|(rw[next (by first|omega|(simp only;omega))])|rfl) ?_)
   match k with
   | 0 =>
     conv=>whnf
     refine⟨⟨by decide,_,rfl,?_⟩⟩
     conv=>whnf
     refine⟨by rw[F.bytes_int];simp only[ly,ua,wu];exact⟨by unfold maxLen;omega,by omega,.inr (by kernel_rfl)⟩,?_⟩
     conv=>whnf
     refine⟨1,?_,by decide⟩;refine TL ?_
     conv=>whnf
     repeat (first|exact trivial|refine And.intro (by first|with_reducible rfl|exact .inl rfl|(rw[next (by first|omega|(simp only;omega))])|rfl) ?_)
   | 1 =>
     conv=>whnf
     refine⟨⟨by decide,_,rfl,?_⟩⟩
     conv=>whnf
     refine⟨by rw[F.bytes_int];simp only[ly,ua,wu];exact⟨by unfold maxLen;omega,by omega,.inr (by kernel_rfl)⟩,?_⟩
     conv=>whnf
     refine⟨2,?_,by decide⟩;refine TL ?_
     conv=>whnf
     repeat (first|exact trivial|refine And.intro (by first|with_reducible rfl|rfl|(simp only[ly,uI];done)|(simp only[ly,uI];rfl)) ?_)
   | 2 =>
     exact z33
theorem tA(xs:List Int)(h:xs.length<=400000):Ax prog 244 [.d (F.ints xs)] (.d (F.ints (F.setI xs))):=by
 refine Du func244 (by kernel_rfl) ?_
 conv=>whnf
 refine A4 (F.clone xs (by omega)) ?_
 conv=>whnf
 refine HW (F.sortC xs (by omega)) ?_
 conv=>whnf
 refine HW (F.compactC (FD xs) (by have:=Go.Abs.length_sortI xs;omega)) ?_;rw[show Go.Lib.compact (FD xs)=F.setI xs from rfl];exact z33
theorem FM(a b:List Int)(R:List Int)(c:IZ a b=some R):Ax prog 165 [.d (Ao 1 (D.int .i64) a),.d (Ao 1 (D.int .i64) b)] (.d (Ao 1 (D.int .i64) R)):=by
 obtain⟨hr,c⟩:=Wj c;obtain rfl:=uc c;obtain⟨d,e⟩:=uf hr;rw[F.setU_eq];refine Du func165 (by kernel_rfl) ?_
 conv=>whnf
 refine A4 (oP a b (by omega) (by omega)) ?_
 conv=>whnf
 refine A4 (tA (a++b) (by rw[uV];omega)) ?_;exact z30
theorem Sy(c b:Int)(R:AO×Int)(a:Mj c b=some R):Ax prog 147 [.d (.int .i64 c),.d (.int .i64 b)] (.tup [.d (B6 R.1),.d (.int .i64 R.2)]):=by
 unfold Mj at a;obtain⟨hr,a⟩:=Wj a;obtain⟨d,e⟩:=Bool.and_eq_true_iff.1 hr;have d:=uf d;have e:=uf e
 cases hz:(b==0)with
 | true =>
   have f:=eq_of_beq hz;subst f;rw[hz]at a;obtain rfl:=uc a;refine Du func147 (by kernel_rfl) ?_;exact z30
 | false =>
   rw[hz]at a;obtain rfl:=uc a;exact F.of_ c b (by intro h;rw[h]at hz;cases hz) d e
theorem WC{p:AO}(h:kU p=true):F.VF (p.S,p.T):=by
 have a:=uf h;exact a
theorem N6(a b:AO)(R:AO×Int)(c:Ux a b=some R):Ax prog 163 [.d (B6 a),.d (B6 b)] (.tup [.d (B6 R.1),.d (.int .i64 R.2)]):=by
 obtain⟨hr,c⟩:=Wj c;obtain rfl:=uc c;obtain⟨d,e⟩:=Bool.and_eq_true_iff.1 hr;exact F.mul_ (a.S,a.T) (b.S,b.T) (WC d) (WC e)
theorem ct(a b c d:Int)(e:-1152921504606846976<=a/\a<=1152921504606846976)(f:-1152921504606846976<=b/\b<=1152921504606846976)(g:-1152921504606846976<=c/\c<=1152921504606846976)(hd:-1152921504606846976<=d/\d<=1152921504606846976) :
 Ax prog 243 [.d (F.frD (a,b)),.d (F.frD (c,d))] (.tup [.d (F.W (a*d)),.d (F.W (b*c))]):=by
 refine Du func243 (by kernel_rfl) ?_
 conv=>whnf
 refine⟨⟨by decide +kernel,by kernel_rfl⟩,?_⟩
 conv=>whnf
 refine A4 (F.whole_ a (by omega) (by omega)) ?_
 conv=>whnf
 refine A4 (F.whole_ d (by omega) (by omega)) ?_
 conv=>whnf
 refine A4 (F.times_ a d) ?_
 conv=>whnf
 refine A4 (F.whole_ c (by omega) (by omega)) ?_
 conv=>whnf
 refine A4 (F.whole_ b (by omega) (by omega)) ?_
 conv=>whnf
 refine A4 (F.times_ c b) ?_;rw[Int.mul_comm c b];exact z30
theorem cg(p q:Int×Int)(hp:F.VF p)(k:F.VF q)(f:FuncId)(g:Int->Int->Int)(i:∀a b,Ax prog f [.d (F.W a),.d (F.W b)] (.d (F.W (g a b))))
 (l:-F.B127<g (p.1*q.2) (p.2*q.1)/\g (p.1*q.2) (p.2*q.1)<F.B127) :
 Ax prog 238 [.d (F.frD p),.d (F.frD q),.d (.fn f [])]
 (.tup [.d (F.frD (F.redF (g (p.1*q.2) (p.2*q.1)) (p.2*q.2).toNat)),.d (.int .i64 (F.redE (g (p.1*q.2) (p.2*q.1)) (p.2*q.2).toNat))]):=by
 have n:=F.valid_ p hp;have o:=F.valid_ q k;obtain⟨a,b⟩:=p;obtain⟨c,d⟩:=q;have z:F.B127=170141183460469231731687303715884105728:=rfl;obtain⟨⟨s,t⟩,u,_⟩:=hp;obtain⟨⟨v,w⟩,x,_⟩:=k;simp only at s t u v w x l;have y:=F.prod_bound (a:=b) (b:=d) (by omega) (by omega);have m:0<b*d:=Int.mul_pos (by omega) (by omega);have h:=F.reduced_ (g (a*d) (b*c)) (b*d) (by omega) l (by omega);rw[show F.nn (g (a*d) (b*c)) (b*d)=g (a*d) (b*c)from uo (by omega),show(b*d).natAbs=(b*d).toNat by omega]at h;have j:=ct a b c d (by omega) (by omega) (by omega) (by omega);refine Du func238 (by kernel_rfl) ?_
 conv=>whnf
 refine A4 n ?_
 conv=>whnf
 refine A4 o ?_
 conv=>whnf
 refine⟨⟨by decide +kernel,by kernel_rfl⟩,?_⟩
 conv=>whnf
 refine A4 j ?_
 conv=>whnf
 refine A4 (i (a*d) (b*c)) ?_
 conv=>whnf
 refine A4 (F.whole_ b (by omega) (by omega)) ?_
 conv=>whnf
 refine A4 (F.whole_ d (by omega) (by omega)) ?_
 conv=>whnf
 refine A4 (F.times_ b d) ?_
 conv=>whnf
 refine A4 h ?_;generalize F.redF (g (a*d) (b*c)) (b*d).toNat=r;generalize F.redE (g (a*d) (b*c)) (b*d).toNat=e;obtain⟨A,B⟩:=r;exact z30
theorem N8(c d:AO)(R:AO×Int)(g:Uy c d=some R):Ax prog 162 [.d (B6 c),.d (B6 d)] (.tup [.d (B6 R.1),.d (.int .i64 R.2)]):=by
 obtain⟨hr,g⟩:=Wj g;obtain rfl:=uc g;obtain⟨m,h⟩:=Bool.and_eq_true_iff.1 hr;have i:=WC m;have j:=WC h
 have f:=cg (c.S,c.T) (d.S,d.T) i j 240 (λa b=>a-b) F.minus_ (by
  obtain⟨⟨n,o⟩,k,_⟩:=i;obtain⟨⟨h,p⟩,l,_⟩:=j;simp only at n o k h p l ⊢;have q:=F.prod_bound (a:=c.S) (b:=d.T) k (by omega);have s:=F.prod_bound (a:=c.T) (b:=d.S) (by omega) l;have t:F.B127=170141183460469231731687303715884105728:=rfl;omega)
 rw[Int.mul_comm c.T d.S]at f;simp only at f;rw[show c.T*d.T=c.T*d.T from rfl]at f;refine Du func162 (by kernel_rfl) ?_
 conv=>whnf
 refine A4 f ?_;unfold WP;generalize F.redF (c.S*d.T-d.S*c.T) (c.T*d.T).toNat=r;generalize F.redE (c.S*d.T-d.S*c.T) (c.T*d.T).toNat=e;obtain⟨u,v⟩:=r;exact z30
theorem N4(c d:AO)(R:AO×Int)(g:Uv c d=some R):Ax prog 161 [.d (B6 c),.d (B6 d)] (.tup [.d (B6 R.1),.d (.int .i64 R.2)]):=by
 obtain⟨hr,g⟩:=Wj g;obtain rfl:=uc g;obtain⟨m,h⟩:=Bool.and_eq_true_iff.1 hr;have i:=WC m;have j:=WC h
 have f:=cg (c.S,c.T) (d.S,d.T) i j 239 (λa b=>a+b) F.plus_ (by
  obtain⟨⟨n,o⟩,k,_⟩:=i;obtain⟨⟨h,p⟩,l,_⟩:=j;simp only at n o k h p l ⊢;have q:=F.prod_bound (a:=c.S) (b:=d.T) k (by omega);have s:=F.prod_bound (a:=c.T) (b:=d.S) (by omega) l;have t:F.B127=170141183460469231731687303715884105728:=rfl;omega)
 rw[Int.mul_comm c.T d.S]at f;simp only at f;rw[show c.T*d.T=c.T*d.T from rfl]at f;refine Du func161 (by kernel_rfl) ?_
 conv=>whnf
 refine A4 f ?_;unfold WP;generalize F.redF (c.S*d.T+d.S*c.T) (c.T*d.T).toNat=r;generalize F.redE (c.S*d.T+d.S*c.T) (c.T*d.T).toNat=e;obtain⟨u,v⟩:=r;exact z30
theorem N5(h i:AO)(R:AO×Int)(f:Uw h i=some R):Ax prog 164 [.d (B6 h),.d (B6 i)] (.tup [.d (B6 R.1),.d (.int .i64 R.2)]):=by
 obtain⟨hr,f⟩:=Wj f;obtain⟨t,u⟩:=Bool.and_eq_true_iff.1 hr;have m:=WC t;have n:=WC u;have o:=F.valid_ _ m;have p:=F.valid_ _ n;have z:F.B127=170141183460469231731687303715884105728:=rfl;obtain⟨a,b⟩:=h;obtain⟨c,d⟩:=i;obtain⟨⟨v,w⟩,q,_⟩:=m;obtain⟨⟨x,y⟩,s,_⟩:=n;simp only at v w q x y s f;have A:=F.prod_bound (a:=a) (b:=d) q (by omega);have B:=F.prod_bound (a:=b) (b:=c) (by omega) s;have j:=ct a b c d (by omega) (by omega) (by omega) (by omega)
 cases hz:(c==0)with
 | true =>
   rw[hz]at f;obtain rfl:=uc f;refine Du func164 (by kernel_rfl) ?_
   conv=>whnf
   refine A4 o ?_
   conv=>whnf
   refine A4 p ?_
   conv=>whnf
   refine oC rfl hz ?_;exact z30
 | false =>
   rw[hz]at f;obtain rfl:=uc f;have k:c≠0:=by simpa using hz
   have l:b*c≠0:=Int.mul_ne_zero (by omega) k;have g:=F.reduced_ (a*d) (b*c) l (by omega) (by omega);rw[Int.mul_comm c b];refine Du func164 (by kernel_rfl) ?_
   conv=>whnf
   refine A4 o ?_
   conv=>whnf
   refine A4 p ?_
   conv=>whnf
   refine rW rfl hz ?_
   conv=>whnf
   refine A4 j ?_
   conv=>whnf
   refine A4 g ?_;unfold WP;generalize F.redF (F.nn (a*d) (b*c)) (b*c).natAbs=r;generalize F.redE (F.nn (a*d) (b*c)) (b*c).natAbs=e;obtain⟨C,D⟩:=r;exact z30
instance:CS prog 165 (type_of% @FM):=⟨@FM⟩
instance:CS prog 147 (type_of% @Sy):=⟨@Sy⟩
instance:CS prog 163 (type_of% @N6):=⟨@N6⟩
instance:CS prog 162 (type_of% @N8):=⟨@N8⟩
instance:CS prog 161 (type_of% @N4):=⟨@N4⟩
instance:CS prog 164 (type_of% @N5):=⟨@N5⟩
