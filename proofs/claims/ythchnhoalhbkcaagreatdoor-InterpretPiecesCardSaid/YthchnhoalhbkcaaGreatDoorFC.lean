/- FC -/
import Derived.WalkKit
import Derived.Deep.LoopGhost
import Derived.Deep.Light
import Derived.Deep.AppendSrc
import Derived.RegionTactic
import Derived.Lib.AppendZeros
import Derived.Lib.Walk
import Derived.Deep.RegionHeld3
import Derived.Test.YthchnhoalhbkcaaGreatDoorFB
import Derived.Lib.Hide
open Go.IntKind (i64)
open Go.Proofs.Tryz
set_option linter.unusedVariables false
set_option linter.unusedSimpArgs false
namespace Go.Proofs.YthchnhoalhbkcaaGreatDoor.P
open Go Go.Abs Go.Proofs Go.Deep
set_option maxRecDepth 1000000
set_option maxHeartbeats 6400000
theorem nY:prog.underlying 29=some (TypeDesc.slice 30):=by kernel_rfl
theorem nX:(prog.info? 30).map (λi=>(i.zero,i.size,i.bytes))=some (some (Value.slice none 0 0),1,24):=by kernel_rfl
theorem dA:prog.underlying 30=some (TypeDesc.slice 3):=by kernel_rfl
theorem me:(prog.info? 3).map (λi=>(i.zero,i.size,i.bytes))=some (some (Value.int .i64 0),1,8):=by kernel_rfl
def SA(m:List (List Int))(k i j a b:Nat):Int:=if a<i\/(a=i/\b<j)then R2 m (k+1) a b else R2 m k a b
theorem lS(m:List (List Int))(k i j:Nat):SA m k i j i j=R2 m k i j:=by unfold SA;rw[qi (by omega)]
theorem gH(m:List (List Int))(k i j a b:Nat):SA m k i (j+1) a b=if a=i/\b=j then R2 m (k+1) i j else SA m k i j a b:=by
 unfold SA;by_cases h:a=i/\b=j
 ·obtain⟨rfl,rfl⟩:=h;rw[qf (by omega),qf ⟨rfl,rfl⟩]
 ·rw[qi h];by_cases h2:a<i\/(a=i/\b<j)
  ·rw[qf h2,qf (by omega)]
  ·rw[qi h2,qi (by omega)]
theorem jq(m:List (List Int)){k i n a b:Nat}(hb:b<n):SA m k i n a b=SA m k (i+1) 0 a b:=by
 unfold SA;by_cases h2:a<i\/(a=i/\b<n)
 ·rw[qf h2,qf (by omega)]
 ·rw[qi h2,qi (by omega)]
theorem jp(m:List (List Int)){k n a b:Nat}(ha:a<n):SA m k n 0 a b=R2 m (k+1) a b:=by unfold SA;rw[qf (by omega)]
theorem gI(m:List (List Int))(k a b:Nat):SA m k 0 0 a b=R2 m k a b:=by unfold SA;rw[qi (by omega)]
theorem iA(m:List (List Int))(n:Nat)(hm:0<m.length)(hn:∀r,r<m.length->(m.getD r []).length=n)(h0:0<n)(hb:n<=1000000)(hG1:m.length<=1000000)(w:World)(ga:Option Addr)(gb go Gc:Nat)(A:Nat->Option Addr)(C RB RO:Nat->Nat)(v:Value)
 (hR:Wm w v m ga gb go Gc A C RB RO) (hgb:gb<w.heap.size) (hRB:∀r,r<m.length->∀c,c<n->RB r<w.heap.size) :
 Calls prog 192 #[v] w λe w'=>e=.returned (.slice (some ⟨w.heap.size,0,none⟩) n n)/\Mx w w' 30 3 n (λ_=>n) (R2 m m.length):=by
 obtain rfl:=hR.val;obtain rfl:=hR.ga hm;have hrow:∀r,r<m.length->w.cell? ⟨gb,go+r,none⟩=some (.slice (A r) n (C r)):=λr hr=>by rw[hR.row r hr,hn r hr]
 have hA:∀r,r<m.length->∀c,c<n->A r=some ⟨RB r,RO r,none⟩/\w.cell? ⟨RB r,RO r+c,none⟩=some (.int .i64 (PC m r c)):=λr hr c hc=>hR.cell r hr c (by rw[hn r hr];exact hc);have hrow0:w.cell? ⟨gb,go,none⟩=some (.slice (A 0) n (C 0)):=by grind
 obtain⟨G,hG⟩:∃G,G=m.length:=⟨_,rfl⟩;rw[<-hG]at hm hn hRB hrow hA hG1 ⊢;have hmz:(0:Int)<(G:Int):=by omega
 have HG:Aside (G=m.length):=hG;clear hR hn hG;have hmk1:=run_make_row' (P:=prog) 29 30 (.slice none 0 0) 24 nY nX rfl .i64 .i64 n (by omega) (by omega)
 go_enter func192,ntmps192
 go_wp2
 clear hmk1 hrow0
 go_loopg [18] n (λg i wr=>∃r:Nat,r<=n/\g=n-r/\i=.int .i64 r/\LW w wr 30 3 n (λ_=>n) (λ_ _=>0) r)
 case atStart=>exact⟨0,pY _,rfl,rfl,LW.start w _ _ n _ _⟩
 case round =>
  obtain⟨r,hr,rfl,rfl,hU⟩:=hrel;by_cases hrn:r<n
  ·have hrz:(r:Int)<(n:Int):=by omega
   have hsize:=hU.size;have hmk2:=run_make_row' (P:=prog) 30 3 (.int .i64 0) 8 dA me rfl .i64 .i64 n (by omega) (by omega);have hst1:∀o,(wr.alloc o).cell? ⟨w.heap.size,r,none⟩=some (.slice none 0 0):=λo=>by simpa using(hU.top.alloc o).cell hrn
   have hst2:∀o,(wr.alloc o).frozen? ⟨w.heap.size,r,none⟩=false:=λo=>(hU.top.alloc o).frozen r
   go_wp2
   go_roundg (n-(r+1))
   case measure=>go_light;omega
   case rel =>
    go_light
    refine⟨r+1,by omega,rfl,by go_num,(hU.step (u:=wr.alloc (.cells (madeCells #[.int .i64 0] n) 3)) (c:=n) (qb _) ⟨rfl,rfl,rfl,by simp,λk hk=>blk_alloc_lt _ _ _ hk⟩ (by simp) (World.rowIs_made wr (.int .i64 0) n _)).cp_congr (λj _=>by split<;>rfl)⟩
  ·obtain rfl:r=n:=by omega
   have hrz:¬((r:Int)<(r:Int)):=by omega
   have hM:=hU.done;clear hU
   go_wp2
   have hM0:Mx w wr 30 3 r (λ_=>r) (R2 m 0):=hM.congr λi j _ _=>rfl;clear hM
   go_loopg [30] G (λg i wi=>∃k:Nat,k<=G/\g=G-k/\i=.int .i64 k/\Mx w wi 30 3 r (λ_=>r) (R2 m k))
   case atStart=>exact⟨0,pY _,rfl,rfl,hM0⟩
   case round =>
    clear hM0;obtain⟨k,hk,rfl,rfl,hI⟩:=hrel;by_cases hkG:k<G
    ·have hkz:(k:Int)<(G:Int):=by omega
     have g0:wr.cell? ⟨gb,go+k,none⟩=some (.slice (some ⟨RB k,RO k,none⟩) r (C k)):=by rw[hI.since.cell (a:=⟨gb,go+k,none⟩) hgb,hrow k hkG,(hA k hkG 0 h0).1]
     go_wp2
     clear g0;have hP:Mx w wr 30 3 r (λ_=>r) (SA m k 0 0):=hI.congr λi j _ _=>(gI m k i j).symm;clear hI
     go_loopg [36] r (λg i wj=>∃a:Nat,a<=r/\g=r-a/\i=.int .i64 a/\Mx w wj 30 3 r (λ_=>r) (SA m k a 0))
     case atStart=>exact⟨0,pY _,rfl,rfl,hP⟩
     case round =>
      clear hP;obtain⟨a,ha,rfl,rfl,hJ⟩:=hrel;by_cases har:a<r
      ·have haz:(a:Int)<(r:Int):=by omega
       have hbl:=hRB k hkG a har;have hAc:=(hA k hkG a har).2;have g1:wr.cell? ⟨RB k,RO k+a,none⟩=some (.int .i64 (PC m k a)):=by rw[hJ.since.cell (a:=⟨RB k,RO k+a,none⟩) hbl];exact hAc
       clear hAc
       go_wp2
       clear g1
       go_loopg [43] r (λg i wl=>∃b:Nat,b<=r/\g=r-b/\i=.int .i64 b/\Mx w wl 30 3 r (λ_=>r) (SA m k a b))
       case atStart=>exact⟨0,pY _,rfl,rfl,hJ⟩
       case round =>
        clear hJ;obtain⟨b,hb',rfl,rfl,hL⟩:=hrel;by_cases hbr:b<r
        ·have hbz:(b:Int)<(r:Int):=by omega
         have g1:wr.cell? ⟨RB k,RO k+b,none⟩=some (.int .i64 (PC m k b)):=by rw[hL.since.cell (a:=⟨RB k,RO k+b,none⟩) hbl];exact(hA k hkG b hbr).2
         have g2:wr.cell? ⟨w.heap.size,a,none⟩=some (.slice (some ⟨w.heap.size+1+a,0,none⟩) r r):=hL.top.cell har;have g3:wr.cell? ⟨w.heap.size+1+a,b,none⟩=some (.int .i64 (R2 m k a b)):=by rw[<-lS];exact(hL.row a har).cell hbr
         have g4:wr.frozen? ⟨w.heap.size+1+a,b,none⟩=false:=(hL.row a har).frozen b
         go_wp2
         go_roundg (r-(b+1))
         case measure=>go_light;omega
         case rel =>
          go_light
          exact⟨b+1,by omega,rfl,by go_num,hL.set _ λx y _ _=>(gH m k a b x y).trans (by simp only[R2,IntKind.wrap_i64,RowKit.wrap64])⟩
        ·have hbz:¬((b:Int)<(r:Int)):=by omega
         go_wp2
         go_roundg (r-(a+1))
         case measure=>go_light;omega
         case rel =>
          go_light
          obtain rfl:b=r:=by omega
          exact⟨a+1,by omega,rfl,by go_num,hL.congr λx y _ hy=>jq m hy⟩
      ·have haz:¬((a:Int)<(r:Int)):=by omega
       go_wp2
       go_roundg (G-(k+1))
       case measure=>go_light;omega
       case rel =>
        go_light
        obtain rfl:a=r:=by omega
        exact⟨k+1,by omega,rfl,by go_num,hJ.congr λx y hx _=>jp m hx⟩
    ·have hkz:¬((k:Int)<(G:Int)):=by omega
     go_wp2
     go_ret
     have hk:k=G:=by omega
     rw[hk]at hI;exact⟨rfl,hI⟩
theorem Ya(m:List (List Int))(b:List Int)(col:Nat)(n:Nat)(hm:m.length=n)(hn:∀r,r<m.length->(m.getD r []).length=n)(hcol:col<n)(hb:n<=1000000)(hbl:n<=b.length)(w:World)(ga:Option Addr)(gb go Gc:Nat)(A:Nat->Option Addr)(C RB RO:Nat->Nat)(v:Value)
 (hR:Wm w v m ga gb go Gc A C RB RO) (hgb:gb<w.heap.size) (hRB:∀r,r<m.length->∀c,c<n->RB r<w.heap.size) (bb bo bc:Nat) (hbb:bb<w.heap.size) (hbc:∀i,i<b.length->w.cell? ⟨bb,bo+i,none⟩=some (.int .i64 (b.getD i 0))) :
 Calls prog 261 #[v,.int .i64 col,.slice (some ⟨bb,bo,none⟩) b.length bc] w λe w'=>e=.returned (.slice (some ⟨w.heap.size,0,none⟩) n n)/\∃cp,Mx w w' 30 3 n cp (Sq m col b):=by
 have hm0:0<m.length:=by omega
 obtain rfl:=hR.val;obtain rfl:=hR.ga hm0;have hrow:∀r,r<n->w.cell? ⟨gb,go+r,none⟩=some (.slice (some ⟨RB r,RO r,none⟩) n (C r)):=λr hr=>by rw[hR.row r (by omega),hn r (by omega),(hR.cell r (by omega) 0 (by rw[hn r (by omega)];omega)).1]
 have hA:∀r,r<n->∀c,c<n->w.cell? ⟨RB r,RO r+c,none⟩=some (.int .i64 (PC m r c)):=λr hr c hc=>(hR.cell r (by omega) c (by rw[hn r (by omega)];exact hc)).2
 have hz:∀r,r<n->∀i,n<=i->PC m r i=0:=λr hr i hi=>by
  unfold PC;rw[qc,qv (by rw[hn r (by omega)];exact hi)];rfl
 rw[hm]at hRB ⊢;obtain⟨L,hL⟩:∃L,L=b.length:=⟨_,rfl⟩;rw[<-hL]at hbl hbc ⊢;clear hR hn hm hm0 hL;have hmk1:=run_make_row' (P:=prog) 29 30 (.slice none 0 0) 24 nY nX rfl .i64 .i64 n (by omega) (by omega)
 go_enter func261,ntmps261
 go_wp2
 clear hmk1
 go_loopg [15] n (λg i wr=>∃r:Nat,r<=n/\g=n-r/\i=.int .i64 r/\∃cp,LW w wr 30 3 n cp (Sq m col b) r)
 case atStart=>exact⟨0,pY _,rfl,rfl,λ_=>n,LW.start w _ _ n _ _⟩
 case round =>
  obtain⟨r,hr,rfl,rfl,cp,hU⟩:=hrel;by_cases hrn:r<n
  ·have hrz:(r:Int)<(n:Int):=by omega
   have hsize:=hU.size;have hRr:=hRB r hrn 0 (by omega);have g0:wr.cell? ⟨gb,go+r,none⟩=some (.slice (some ⟨RB r,RO r,none⟩) n (C r)):=by rw[hU.since.cell (a:=⟨gb,go+r,none⟩) hgb];exact hrow r hrn
   have hgr:gb≠wr.heap.size:=by omega
   obtain⟨i0,hi0,hz0,hzs,hzb⟩:=info_parts me;obtain⟨vals,hvals⟩:∃vals:List Value,vals=(List.range n).map λc=>.int .i64 (PC m r c):=⟨_,rfl⟩;have hvl:vals.length=n:=by rw[hvals];simp
   have hsrc:Src prog i0.size 30 (.slice (some ⟨RB r,RO r,none⟩) n (C r)) n vals wr:=by
    rw[hzs];refine Src.ofSlice wr dA ⟨RB r,RO r,none⟩ n (C r) vals (by rw[hvl];omega) (λj u hj=>?_) (λu hu=>?_)
    ·rw[hvals,ql]at hj;by_cases hjn:j<n
     ·rw[si hjn]at hj;obtain rfl:=P3 hj;rw[Addr.add_lit,hU.since.cell (a:=⟨RB r,RO r+j,none⟩) hRr];exact hA r hrn j hjn
     ·rw[qv (by simpa using hjn)]at hj
      cases hj
    ·rw[hvals]at hu;obtain⟨c,_,rfl⟩:=List.mem_map.1 hu;rfl
   have hold:(Builtin.firstCells i0.size 0 (.slice none 0 0)).run prog wr.drew=.ok ([]:List Value).toArray wr.drew:=by
    rw[hzs];exact run_firstCells_none wr.drew 1 0 0 0
   obtain⟨G,hG⟩:∃G,G=grownCap wr (0+n) 0 3:=⟨_,rfl⟩;have hGn:n<=G:=by rw[hG];have:=grownCap_ge wr (0+n) 0 3;omega
   obtain⟨ROW,hROW⟩:∃ROW:Array Value,ROW=(([]:List Value)++vals).toArray++Builtin.zeroCells (Value.int .i64 0).cells (G-(0+n)):=⟨_,rfl⟩
   have hrun:∀ty,(Builtin.append_ #[30,30] ty #[.slice none 0 0,.slice (some ⟨RB r,RO r,none⟩) n (C r)]).run prog wr=.ok (.slice (some ⟨wr.heap.size,0,none⟩) n G) (wr.drew.alloc (.cells ROW 3)):=λty=>by
    have h:=run_append_grow_src wr 30 30 ty 3 i0 _ dA hi0 hz0 none 0 0 [] hold _ n vals hsrc (by omega) (by omega) (by rw[hzb];exact growslice_fits (by omega) (by omega));rw[<-hG,<-hROW,qy]at h;exact h
   have hRsz:ROW.size=G:=by
    rw[hROW];simp[Builtin.zeroCells,Value.cells,hvl];omega
   have hRc:∀i,i<ROW.size->ROW[i]?=some (.int .i64 (PC m r i)):=λi hi=>by
    rw[hRsz]at hi;rw[hROW,List.nil_append];by_cases hin:i<n
    ·rw[qA (by simpa [hvl] using hin)];simp[hvals,hin]
    ·rw[rH (by simp[hvl];omega),hz r hrn i (by omega)];exact ZT _ _ _ (by simp[hvl];omega)
   have hnew:=World.rowIs_alloc wr ROW 3 (λc=>.int .i64 (PC m r c)) hRc;rw[hRsz]at hnew;have hst1:∀o,(wr.alloc o).cell? ⟨w.heap.size,r,none⟩=some (.slice none 0 0):=λo=>by simpa using(hU.top.alloc o).cell hrn
   have hst2:∀o,(wr.alloc o).frozen? ⟨w.heap.size,r,none⟩=false:=λo=>(hU.top.alloc o).frozen r;have hst3:∀o,(wr.alloc o).drew.cell? ⟨w.heap.size,r,none⟩=some (.slice none 0 0):=hst1;have hst4:∀o,(wr.alloc o).drew.frozen? ⟨w.heap.size,r,none⟩=false:=hst2;have hU1:=((hU.congr (S':=λj c=>if j=r then PC m j c else Sq m col b j c) λi j hi=>by simp only[show ¬i=r by omega,if_false]).step (u:=(wr.alloc (.cells ROW 3)).drew) hGn ⟨rfl,rfl,rfl,by simp,λk hk=>blk_alloc_lt wr _ _ hk⟩ (by simp) ((show(wr.alloc (.cells ROW 3)).drew.rowIs _ _ _ _ from hnew).congr λc _=>by rw[qf rfl]));clear hsrc hold hROW hRc hG
   go_wp2_with (at_builtin;refine Lib.wpList_append_run _ rfl _ _ _ _ rfl _ _ rfl rfl _ _ (hrun _) ?_)
   obtain⟨W1,hW1⟩:∃W1,W1=((wr.alloc (.cells ROW 3)).setCell ⟨w.heap.size,r,none⟩ (.slice (some ⟨w.heap.size+1+r,0,none⟩) n G)).drew:=⟨_,rfl⟩;rw[<-hW1]
   replace hU1:LW w W1 30 3 n (λj=>if j=r then G else cp j) (λj c=>if j=r then PC m j c else Sq m col b j c) (r+1):=by rw[hW1];exact hU1
   clear hW1 hst1 hst2 hst3 hst4 hnew hrun;have g1:W1.cell? ⟨w.heap.size,r,none⟩=some (.slice (some ⟨w.heap.size+1+r,0,none⟩) n G):=by simpa using hU1.top.cell hrn
   have g2:W1.cell? ⟨bb,bo+r,none⟩=some (.int .i64 (b.getD r 0)):=by rw[hU1.since.cell (a:=⟨bb,bo+r,none⟩) hbb];exact hbc r (by omega)
   have hrow2:=hU1.row r (by omega);simp only[if_true]at hrow2;have g3:W1.cell? ⟨w.heap.size+1+r,col,none⟩=some (.int .i64 (PC m r col)):=hrow2.cell (by omega);have g4:W1.frozen? ⟨w.heap.size+1+r,col,none⟩=false:=hrow2.frozen col;have hcz:(col:Int)<(n:Int):=by omega
   have hrL:(r:Int)<(L:Int):=by omega
   clear hrow2
   go_region
   all_goals
    go_wp2
    go_roundg (n-(r+1))
    case measure=>go_light;omega
    case rel =>
     go_light
     refine⟨r+1,by omega,rfl,by go_num,λj=>if j=r then G else cp j,?_⟩
     exact(hU1.set (i:=r) (j:=col) (S':=Sq m col b) (b[r]?.getD 0) λx y hx _=>by
      by_cases h1:x=r
      ·subst h1;by_cases h2:y=col
       ·subst h2;simp[Sq]
       ·simp[Sq,h2]
      ·simp[h1]).drew
  ·have hrz:¬((r:Int)<(n:Int)):=by omega
   obtain rfl:r=n:=by omega
   have hM:=hU.done
   go_wp2
   go_ret
   exact⟨rfl,cp,hM⟩
def wv(z:Int):Value:=.agg #[.int .u64 (F.Hi z),.int .u64 (F.Lo z)]
theorem ZE{O:Nat->Prop}{w:World}(z:Int):Aw O w (wv z) (F.W z):=.agg _ _ rfl (λx hx=>by simp at hx;rcases hx with rfl|rfl<;>rfl) λi v x hv hx=>by
 match i,hv,hx with
 | 0,hv,hx=>simp at hv hx;subst hv;subst hx;exact .int _ _
 | 1,hv,hx=>simp at hv hx;subst hv;subst hx;exact .int _ _
 | i+2,hv,hx=>simp at hx
theorem lx{O:Nat->Prop}{w:World}{v:Value}{z:Int}(h:Aw O w v (F.W z)):v=wv z:=by
 generalize hx:F.W z=x at h;unfold F.W at hx
 cases h<;>simp only[D.agg.injEq,reduceCtorEq]at hx
 case agg vs xs hl h1 h =>
  subst hx;obtain⟨l⟩:=vs
  match l,hl with
  | [a,b],_ =>
    have ha:=AJ (h 0 a _ rfl rfl);have hb:=AJ (h 1 b _ rfl rfl);subst ha;subst hb;rfl
theorem nz{f:FuncId}{a b c:Int}(h:Ax prog f [.d (F.W a),.d (F.W b)] (.d (F.W c))){O:Nat->Prop}{w:World}(hO:∀b,O b->b<w.heap.size)(hG:Oq O w) :
 Calls prog f #[wv a,wv b] w λe w'=>e=.returned (wv c)/\RowKit.Below w.heap.size w w' :=
 (h.2 O w #[wv a,wv b] hO hG rfl λi v x hv hx=>by
  match i,hv,hx with
  | 0,hv,hx=>simp at hv hx;subst hv;subst hx;exact ZE a
  | 1,hv,hx=>simp at hv hx;subst hv;subst hx;exact ZE b
  | i+2,hv,hx=>simp at hx).mono λe w' ⟨v,he,hb,hr⟩=>⟨by rw[he,lx hr],hb⟩
theorem pf{f:FuncId}{a c:Int}(h:Ax prog f [.d (F.W a)] (.d (F.W c))){O:Nat->Prop}{w:World}(hO:∀b,O b->b<w.heap.size)(hG:Oq O w) :
 Calls prog f #[wv a] w λe w'=>e=.returned (wv c)/\RowKit.Below w.heap.size w w' :=
 (h.2 O w #[wv a] hO hG rfl λi v x hv hx=>by
  match i,hv,hx with
  | 0,hv,hx=>simp at hv hx;subst hv;subst hx;exact ZE a
  | i+1,hv,hx=>simp at hx).mono λe w' ⟨v,he,hb,hr⟩=>⟨by rw[he,lx hr],hb⟩
theorem ny{f:FuncId}{n c:Int}(h:Ax prog f [.d (.int .i64 n)] (.d (F.W c))){O:Nat->Prop}{w:World}(hO:∀b,O b->b<w.heap.size)(hG:Oq O w) :
 Calls prog f #[.int .i64 n] w λe w'=>e=.returned (wv c)/\RowKit.Below w.heap.size w w' :=
 (h.2 O w #[.int .i64 n] hO hG rfl λi v x hv hx=>by
  match i,hv,hx with
  | 0,hv,hx=>simp at hv hx;subst hv;subst hx;exact .int _ _
  | i+1,hv,hx=>simp at hx).mono λe w' ⟨v,he,hb,hr⟩=>⟨by rw[he,lx hr],hb⟩
structure VS(w0 w:World)(mv:Value)(n:Nat)(tk:List Bool)(s:Int):Prop where
 since:w0.Since w0.heap.size w
 size:w0.heap.size+6<=w.heap.size
 m:w.cell? ⟨w0.heap.size,0,none⟩=some mv
 s0:w.cell? ⟨w0.heap.size+2,0,none⟩=some (.int .u64 (F.Hi s))
 s1:w.cell? ⟨w0.heap.size+2,1,none⟩=some (.int .u64 (F.Lo s))
 fs:∀j,w.frozen? ⟨w0.heap.size+2,j,none⟩=false
 t:w.cell? ⟨w0.heap.size+4,0,none⟩=some (.slice (some ⟨w0.heap.size+3,0,none⟩) n n)
 v:w.cell? ⟨w0.heap.size+5,0,none⟩=some (.func (.func 299) #[] #[.pointer (some ⟨w0.heap.size,0,none⟩),.pointer (some ⟨w0.heap.size+2,0,none⟩),.pointer (some ⟨w0.heap.size+4,0,none⟩),.pointer (some ⟨w0.heap.size+5,0,none⟩)])
 k:w.rowIs (w0.heap.size+3) 4 n (λi=>.bool (tk.getD i true))
section
variable {w0 w w':World} {mv:Value} {n:Nat} {tk:List Bool} {s:Int}
theorem VS.drew(h:VS w0 w mv n tk s):VS w0 w.drew mv n tk s:=⟨h.since.drew,h.size,h.m,h.s0,h.s1,h.fs,h.t,h.v,h.k⟩
theorem VS.keep(h:VS w0 w mv n tk s)(hs:w.Since w.heap.size w'):VS w0 w' mv n tk s:=by
 have hz:=h.size;have hc:∀b o,b<w0.heap.size+6->w'.cell? ⟨b,o,none⟩=w.cell? ⟨b,o,none⟩:=λb o hb=>hs.cell (a:=⟨b,o,none⟩) (by show b<w.heap.size;omega);refine⟨h.since.trans ⟨hs.os,hs.tape,hs.output,hs.size,λk hk=>hs.block k (by omega)⟩,qt h.size hs.size,by rw[hc _ _ (by omega)];exact h.m,by rw[hc _ _ (by omega)];exact h.s0,by rw[hc _ _ (by omega)];exact h.s1,λj=>?_,by rw[hc _ _ (by omega)];exact h.t,by rw[hc _ _ (by omega)];exact h.v,h.k.of_block (hs.block _ (by omega))⟩;rw[hs.frozen (a:=⟨w0.heap.size+2,j,none⟩) (by show w0.heap.size+2<w.heap.size;omega)];exact h.fs j
theorem QW{B:Nat}(h:RowKit.Below B w w'):w.Since B w':=⟨h.os,h.tape,h.output,h.size,λi hi=>h.block i hi⟩
theorem VS.take(h:VS w0 w mv n tk s){i:Nat}(b:Bool)(hi:i<tk.length):VS w0 (w.setCell ⟨w0.heap.size+3,i,none⟩ (.bool b)) mv n (tk.set i b) s:=by
 have hc:∀c o,c≠w0.heap.size+3->(w.setCell ⟨w0.heap.size+3,i,none⟩ (.bool b)).cell? ⟨c,o,none⟩=w.cell? ⟨c,o,none⟩:=λc o hc=>World.cell?_setCell_other _ _ _ _ (λe=>hc (congrArg Addr.block e).symm);refine⟨h.since.setCell (by show w0.heap.size<=w0.heap.size+3;omega) _,by simpa using h.size,by rw[hc _ _ (by omega)];exact h.m,by rw[hc _ _ (by omega)];exact h.s0,by rw[hc _ _ (by omega)];exact h.s1,λj=>by simpa using h.fs j,by rw[hc _ _ (by omega)];exact h.t,by rw[hc _ _ (by omega)];exact h.v,(h.k.set i _).congr λj hj=>?_⟩;by_cases e:j=i
 ·subst e;simp[qc,hi]
 ·have e':i≠j:=λx=>e x.symm;simp[e,e',qc]
theorem RL{O:Nat->Prop}(hO:∀b,O b->b<w0.heap.size)(hG:Oq O w0)(h:w0.Since w0.heap.size w):(∀b,O b->b<w.heap.size)/\Oq O w :=
 ⟨λb hb=>qm (hO b hb) h.size,λg cs hg=>(hG g cs hg).mono ⟨h.size,λb _ hb=>hb,λb hb _=>h.block b hb⟩⟩
theorem VS.alloc(h:VS w0 w mv n tk s)(o:Obj):VS w0 (w.alloc o) mv n tk s:=h.keep ((World.Since.refl _ _).alloc (qb _) o)
theorem VS.sum(h:VS w0 w mv n tk s)(z:Int):VS w0 ((w.setCell ⟨w0.heap.size+2,0,none⟩ (.int .u64 (F.Hi z))).setCell ⟨w0.heap.size+2,1,none⟩ (.int .u64 (F.Lo z))) mv n tk z:=by
 have hc:∀c o,c≠w0.heap.size+2->((w.setCell ⟨w0.heap.size+2,0,none⟩ (.int .u64 (F.Hi z))).setCell ⟨w0.heap.size+2,1,none⟩ (.int .u64 (F.Lo z))).cell? ⟨c,o,none⟩=w.cell? ⟨c,o,none⟩:=λc o hc=>by
  rw[World.cell?_setCell_other _ _ _ _ (λe=>hc (congrArg Addr.block e).symm),World.cell?_setCell_other _ _ _ _ (λe=>hc (congrArg Addr.block e).symm)]
 refine⟨(h.since.setCell (by show w0.heap.size<=w0.heap.size+2;omega) _).setCell (by show w0.heap.size<=w0.heap.size+2;omega) _,by simpa using h.size,by rw[hc _ _ (by omega)];exact h.m,?_,?_,λj=>by simpa using h.fs j,by rw[hc _ _ (by omega)];exact h.t,by rw[hc _ _ (by omega)];exact h.v,(h.k.setOther (by show w0.heap.size+3≠w0.heap.size+2;omega) _).setOther (by show w0.heap.size+3≠w0.heap.size+2;omega) _⟩
 ·rw[World.cell?_setCell_other _ _ _ _ (λe=>by have:=congrArg Addr.off e;simp at this)];exact World.cell?_setCell_same _ _ _ (by rw[h.s0])
 ·exact World.cell?_setCell_same _ _ _ (by rw[World.cell?_setCell_other _ _ _ _ (λe=>by have:=congrArg Addr.off e;simp at this),h.s1])
end
structure LP(w0 w wr:World)(mv:Value)(n:Nat)(tk:List Bool)(s p:Int):Prop where
 vs:VS w0 wr mv n tk s
 below:w0.heap.size+6<=w.heap.size
 size:w.heap.size+1<=wr.heap.size
 p0:wr.cell? ⟨w.heap.size,0,none⟩=some (.int .u64 (F.Hi p))
 p1:wr.cell? ⟨w.heap.size,1,none⟩=some (.int .u64 (F.Lo p))
 fp:∀j,wr.frozen? ⟨w.heap.size,j,none⟩=false
 block:∀k,k<w.heap.size->k≠w0.heap.size+2->k≠w0.heap.size+3->wr.heap[k]?=w.heap[k]?
section
variable {w0 w wr u:World} {mv:Value} {n:Nat} {tk:List Bool} {s p:Int}
theorem LP.start{T:TypeId}(h:VS w0 w mv n tk s):LP w0 w (w.alloc (.cells #[.int .u64 (F.Hi p),.int .u64 (F.Lo p)] T)) mv n tk s p :=
 ⟨h.alloc _,h.size,by simp,by rw[World.cell?_alloc_at _ _ _ _ rfl];rfl,by rw[World.cell?_alloc_at _ _ _ _ rfl];rfl,λj=>World.frozen?_alloc_at _ _ _ _ rfl,λk hk _ _=>blk_alloc_lt _ _ _ hk⟩
theorem LP.drew(h:LP w0 w wr mv n tk s p):LP w0 w wr.drew mv n tk s p:=⟨h.vs.drew,h.below,h.size,h.p0,h.p1,h.fp,h.block⟩
theorem LP.via(h:LP w0 w wr mv n tk s p){tk':List Bool}{s':Int}(hv:VS w0 u mv n tk' s')(hs:wr.heap.size<=u.heap.size)(hb:∀k,k<wr.heap.size->k≠w0.heap.size+2->k≠w0.heap.size+3->u.heap[k]?=wr.heap[k]?):LP w0 w u mv n tk' s' p:=by
 have h0:=h.below;have h1:=h.size;have hk:=hb w.heap.size (by omega) (by omega) (by omega);exact⟨hv,h.below,by omega,by rw[World.cell?_of_block (w:=wr) hk];exact h.p0,by rw[World.cell?_of_block (w:=wr) hk];exact h.p1,λj=>by rw[World.frozen?_of_block (w:=wr) hk];exact h.fp j,λk h2 h3 h4=>(hb k (by omega) h3 h4).trans (h.block k h2 h3 h4)⟩
theorem LP.keep(h:LP w0 w wr mv n tk s p)(hs:RowKit.Below wr.heap.size wr u):LP w0 w u mv n tk s p:=h.via (h.vs.keep (QW hs)) hs.size λk hk _ _=>hs.block k hk
theorem LP.take(h:LP w0 w wr mv n tk s p){i:Nat}(b:Bool)(hi:i<tk.length):LP w0 w (wr.setCell ⟨w0.heap.size+3,i,none⟩ (.bool b)) mv n (tk.set i b) s p :=
 h.via (h.vs.take b hi) (by simp) λk _ _ h3=>blk_setCell_other _ _ _ _ (by show k≠w0.heap.size+3;exact h3)
theorem LP.held(h:LP w0 w wr mv n tk s p):wr.cell? ⟨w0.heap.size+5,0,none⟩=some (.func (.func 299) #[] #[.pointer (some ⟨w0.heap.size,0,none⟩),.pointer (some ⟨w0.heap.size+2,0,none⟩),.pointer (some ⟨w0.heap.size+4,0,none⟩),.pointer (some ⟨w0.heap.size+5,0,none⟩)]) /\
 wr.cell? ⟨w.heap.size,0,none⟩=some (.int .u64 (F.Hi p))/\wr.cell? ⟨w.heap.size,1,none⟩=some (.int .u64 (F.Lo p)):=⟨h.vs.v,h.p0,h.p1⟩
theorem LP.prod(h:LP w0 w wr mv n tk s p)(q:Int):LP w0 w ((wr.setCell ⟨w.heap.size,0,none⟩ (.int .u64 (F.Hi q))).setCell ⟨w.heap.size,1,none⟩ (.int .u64 (F.Lo q))) mv n tk s q:=by
 have h0:=h.below;have h1:=h.size
 have hc:∀c,c≠w.heap.size->((wr.setCell ⟨w.heap.size,0,none⟩ (.int .u64 (F.Hi q))).setCell ⟨w.heap.size,1,none⟩ (.int .u64 (F.Lo q))).heap[c]?=wr.heap[c]?:=λc hc=>by
  rw[blk_setCell_other _ _ _ _ (by show c≠w.heap.size;exact hc),blk_setCell_other _ _ _ _ (by show c≠w.heap.size;exact hc)]
 have hz:=h.vs;have cb:∀b o,b≠w.heap.size->((wr.setCell ⟨w.heap.size,0,none⟩ (.int .u64 (F.Hi q))).setCell ⟨w.heap.size,1,none⟩ (.int .u64 (F.Lo q))).cell? ⟨b,o,none⟩=wr.cell? ⟨b,o,none⟩:=λb o hb=>World.cell?_of_block (w:=wr) (hc b hb);refine⟨⟨(hz.since.setCell (by show w0.heap.size<=w.heap.size;omega) _).setCell (by show w0.heap.size<=w.heap.size;omega) _,by simpa using hz.size,by rw[cb _ _ (by omega)];exact hz.m,by rw[cb _ _ (by omega)];exact hz.s0,by rw[cb _ _ (by omega)];exact hz.s1,λj=>by simpa using hz.fs j,by rw[cb _ _ (by omega)];exact hz.t,by rw[cb _ _ (by omega)];exact hz.v,hz.k.of_block (hc _ (by omega))⟩,h.below,by simpa using h.size,?_,?_,λj=>by simpa using h.fp j,λk hk h2 h3=>by rw[hc k (by omega)];exact h.block k hk h2 h3⟩
 ·rw[World.cell?_setCell_other _ _ _ _ (λe=>by have:=congrArg Addr.off e;simp at this)];exact World.cell?_setCell_same _ _ _ (by rw[h.p0])
 ·exact World.cell?_setCell_same _ _ _ (by rw[World.cell?_setCell_other _ _ _ _ (λe=>by have:=congrArg Addr.off e;simp at this),h.p1])
end
theorem Zy(rs:List (List Int))(tk:List Bool):∀(xs:List Int)(k:Nat)(p s:Int),LD.go rs tk xs k p s=s+LD.go rs tk xs k p 0
 | [],_,_,s=>by simp[LD.go]
 | x :: xs,k,p,s=>by
   simp only[LD.go]
   cases tk.getD k true with
   | true=>exact Zy rs tk xs (k+1) p s
   | false =>
     simp only[q9];rw[Zy rs tk xs (k+1) (-p) (bif x==0 then s else s+LD rs (tk.set k true) (p*x)),Zy rs tk xs (k+1) (-p) (bif x==0 then 0 else 0+LD rs (tk.set k true) (p*x))]
     cases x==0<;>simp only[qK,q9]<;>omega
theorem ep{O:Nat->Prop}(w0:World)(hO:∀b,O b->b<w0.heap.size)(hG:Oq O w0)(m:List (List Int))(n:Nat)(hml:m.length=n)(hn:∀r,r<m.length->(m.getD r []).length=n)(hi:∀r c,-9223372036854775808<=PC m r c/\PC m r c<=9223372036854775807)(hb:n<=1000)
 (ga:Option Addr) (gb go Gc:Nat) (A:Nat->Option Addr) (C RB RO:Nat->Nat) (mv:Value) (hR:Wm w0 mv m ga gb go Gc A C RB RO) (hgb:gb<w0.heap.size) (hRB:∀r,r<m.length->∀c,c<n->RB r<w0.heap.size)
 (hWhole:∀x,-9223372036854775808<=x->x<=9223372036854775807->Ax prog 184 [.d (.int .i64 x)] (.d (F.W x)))
 (hTimes:∀a b,Ax prog 206 [.d (F.W a),.d (F.W b)] (.d (F.W (a*b))))
 (hOpp:∀a,Ax prog 250 [.d (F.W a)] (.d (F.W (-a))))
 (hPlus:∀a b,Ax prog 203 [.d (F.W a),.d (F.W b)] (.d (F.W (a+b)))) :
 ∀(rs:List (List Int))(row:Nat),m.drop row=rs->row<=n->∀tk p s w,tk.length=n->VS w0 w mv n tk s ->
  Calls prog 299 #[.int .i64 row,wv p,.pointer (some ⟨w0.heap.size,0,none⟩),.pointer (some ⟨w0.heap.size+2,0,none⟩),.pointer (some ⟨w0.heap.size+4,0,none⟩),.pointer (some ⟨w0.heap.size+5,0,none⟩)] w λe w' =>
   e=.returned (.tuple #[])/\VS w0 w' mv n tk (s+LD rs tk p)/\w.heap.size<=w'.heap.size/\∀k,k<w.heap.size->k≠w0.heap.size+2->k≠w0.heap.size+3->w'.heap[k]?=w.heap[k]?:=by
 intro rs
 induction rs with
 | nil =>
   intro row hd hrow tk p s w htk hV
   have hrn:row=n:=by
    have:=congrArg List.length hd;simp at this;omega
   subst hrn;obtain rfl:=hR.val;rw[hml]at hV;have hVa:=λo=>hV.alloc o;have h1:=λo=>(hVa o).m;have h2:=λo=>(hVa o).s0;have h3:=λo=>(hVa o).s1
   have hcall:∀o,Calls prog 203 #[wv s,wv p] (w.alloc o) λe w'=>e=.returned (wv (s+p))/\RowKit.Below (w.alloc o).heap.size (w.alloc o) w':=λo =>
    nz (hPlus s p) (RL hO hG (hVa o).since).1 (RL hO hG (hVa o).since).2
   unfold wv at hcall ⊢
   go_enter func299,ntmps299
   go_wp2_with (go_at_call 203;refine(hcall _).mono ?_;rintro e w2 ⟨rfl,hb2⟩;have hV2:=(hVa _).keep (QW hb2);have q1:=hV2.s0;have q2:=hV2.s1;have q3:=hV2.fs 0;have q4:=hV2.fs 1;clear h1 h2 h3 hcall)
   first|go_end0|(refine bodyPost_ret (results_none rfl _ _ _) rfl ?_)
   refine⟨rfl,by rw[hml];simpa [LD] using hV2.sum (s+p),?_,λk hk h2 _=>?_⟩
   ·have:=hb2.size;simp at this ⊢;omega
   ·rw[blk_setCell_other _ _ _ _ (by show k≠w0.heap.size+2;exact h2),blk_setCell_other _ _ _ _ (by show k≠w0.heap.size+2;exact h2),hb2.block k (by simp;omega),blk_alloc_lt _ _ _ hk]
 | cons r rs ih =>
   intro row hd hrow tk p s w htk hV
   have hrn:row<n:=by
    have:=congrArg List.length hd;simp at this;omega
   have hg:m.getD row []=r:=by
    have:=congrArg (λl=>l[0]?) hd;simp at this;simp[qc,this]
   have hd':m.drop (row+1)=rs:=by
    have:=congrArg List.tail hd
    simpa using this
   have hrl:r.length=n:=by rw[<-hg];exact hn row (by omega)
   obtain rfl:=hR.val;obtain rfl:=hR.ga (by omega);rw[hml]at hV;have hbl:=hRB row (by omega) 0 (by omega);have hrowc:w0.cell? ⟨gb,go+row,none⟩=some (.slice (some ⟨RB row,RO row,none⟩) n (C row)):=by rw[hR.row row (by omega),hg,hrl,(hR.cell row (by omega) 0 (by rw[hg,hrl];omega)).1]
   have hcell:∀c,c<n->w0.cell? ⟨RB row,RO row+c,none⟩=some (.int .i64 (PC m row c)):=λc hc=>(hR.cell row (by omega) c (by rw[hg,hrl];exact hc)).2;have hLP0:=λT=>LP.start (T:=T) (p:=p) hV
   have hI:∀tk p s w,tk.length=n->VS w0 w (.slice (some ⟨gb,go,none⟩) n Gc) n tk s->Calls prog 299 #[.int .i64 ((row:Int)+1),wv p,.pointer (some ⟨w0.heap.size,0,none⟩),.pointer (some ⟨w0.heap.size+2,0,none⟩),.pointer (some ⟨w0.heap.size+4,0,none⟩),.pointer (some ⟨w0.heap.size+5,0,none⟩)] w λe w' =>
    e=.returned (.tuple #[])/\VS w0 w' (.slice (some ⟨gb,go,none⟩) n Gc) n tk (s+LD rs tk p)/\w.heap.size<=w'.heap.size/\∀k,k<w.heap.size->k≠w0.heap.size+2->k≠w0.heap.size+3->w'.heap[k]?=w.heap[k]?:=λtk p s w h1 h2=>by
    have:=ih (row+1) hd' (by omega) tk p s w h1 (by rw[hml];exact h2);rw[hml]at this;exact this
   rw[hml];have HI:Aside _:=hI;clear ih hI hR;have h1:∀o,(w.alloc o).cell? ⟨w0.heap.size,0,none⟩=some (.slice (some ⟨gb,go,none⟩) n Gc):=λo=>(hV.alloc o).m;have h2:∀o,(w.alloc o).cell? ⟨gb,go+row,none⟩=some (.slice (some ⟨RB row,RO row,none⟩) n (C row)):=λo=>by rw[(hV.alloc o).since.cell (a:=⟨gb,go+row,none⟩) hgb];exact hrowc
   have hne:((row:Int)==(n:Int))=false:=beq_eq_false_iff_ne.2 (by omega);have hrz:(row:Int)<(n:Int):=by omega
   have eW:wv p=.agg #[.int .u64 (F.Hi p),.int .u64 (F.Lo p)]:=rfl;rw[eW];clear eW
   go_enter func299,ntmps299
   go_wp2_with fail
   have hLP:=hLP0 263;clear h1 h2 hLP0
   go_loopg [22] n (λg i wr=>∃(k:Nat)(p' s':Int),k<=n/\g=n-k/\i=.int .i64 k/\Aside (LP w0 w wr (.slice (some ⟨gb,go,none⟩) n Gc) n tk s' p'/\LD.go rs tk (r.drop k) k p' s'=s+LD (r :: rs) tk p))
   case atStart=>exact⟨0,p,s,pY _,rfl,rfl,hLP,by rw[List.drop_zero,Zy,LD]⟩
   case round =>
    clear hLP;obtain⟨k,p',s',hk,rfl,rfl,hA⟩:=hrel;obtain⟨hL,hgo⟩:=hA.out;by_cases hkn:k<n
    ·have hkz:(k:Int)<(n:Int):=by omega
     have g1:wr.cell? ⟨RB row,RO row+k,none⟩=some (.int .i64 (PC m row k)):=by rw[hL.vs.since.cell (a:=⟨RB row,RO row+k,none⟩) hbl];exact hcell k hkn
     have g2:=hL.vs.t;have g3:=hL.vs.k.cell hkn;have hzk:PC m row k=r.getD k 0:=by unfold PC;rw[hg]
     have hstep:r.drop k=PC m row k :: r.drop (k+1):=by rw[hzk,sD (by omega)];simp[qc,show k<r.length by omega]
     rw[hstep]at hgo;simp only[LD.go]at hgo;have hxi:=hi row k;generalize PC m row k=x at g1 hgo hxi;have HG:Aside _:=hgo;clear hgo hstep hzk hA
     cases hb:tk.getD k true with
     | true =>
       rw[hb]at g3
       go_wp2_with fail
       go_roundg (n-(k+1))
       case measure=>go_light;omega
       case rel =>
        go_light
        have:=HG.out;rw[hb]at this;exact⟨k+1,p',s',by omega,rfl,by go_num,hL,this⟩
     | false =>
       rw[hb]at g3
       have opp:∀u tk s,LP w0 w u (.slice (some ⟨gb,go,none⟩) n Gc) n tk s p'->Calls prog 250 #[.agg #[.int .u64 (F.Hi p'),.int .u64 (F.Lo p')]] u λe u'=>e=.returned (.agg #[.int .u64 (F.Hi (-p')),.int .u64 (F.Lo (-p'))])/\LP w0 w u' (.slice (some ⟨gb,go,none⟩) n Gc) n tk s p':=λu tk s hu =>
        (pf (hOpp p') (RL hO hG hu.vs.since).1 (RL hO hG hu.vs.since).2).mono λe u' ⟨he,hb⟩=>⟨he,hu.keep hb⟩
       cases hx:x==0 with
       | true =>
         have hx2:(x != 0)=false:=by simp only[bne,hx];rfl
         have q1:=hL.p0;have q2:=hL.p1
         go_wp2_with (go_at_call 250;refine(opp _ _ _ hL).mono ?_;rintro e w2 ⟨rfl,hL2⟩;have r1:=hL2.p0;have r2:=hL2.p1;have r3:=hL2.fp 0;have r4:=hL2.fp 1;clear q1 q2 opp)
         go_roundg (n-(k+1))
         case measure=>go_light;omega
         case rel =>
          go_light
          have:=HG.out;rw[hb,hx]at this;exact⟨k+1,-p',s',by omega,rfl,by go_num,hL2.prod _,this⟩
       | false =>
         have hx2:(x != 0)=true:=by simp only[bne,hx];rfl
         have hkt:k<tk.length:=by omega
         have hL1:=hL.take true hkt;have g4:=hL.vs.k.frozen k
         go_wp2_with fail
         generalize wr.setCell ⟨w0.heap.size+3,k,none⟩ (.bool true)=w1 at hL1 ⊢;clear g1 g2 g3 g4 hL;have hL1d:=hL1.drew;have hI:=HI.out
         have cW:∀u tk s,LP w0 w u (.slice (some ⟨gb,go,none⟩) n Gc) n tk s p'->Calls prog 184 #[.int .i64 x] u λe u'=>e=.returned (.agg #[.int .u64 (F.Hi x),.int .u64 (F.Lo x)])/\LP w0 w u' (.slice (some ⟨gb,go,none⟩) n Gc) n tk s p':=λu tk s hu =>
          (ny (hWhole x hxi.1 hxi.2) (RL hO hG hu.vs.since).1 (RL hO hG hu.vs.since).2).mono λe u' ⟨he,hb⟩=>⟨he,hu.keep hb⟩
         have cT:∀u tk s,LP w0 w u (.slice (some ⟨gb,go,none⟩) n Gc) n tk s p'->Calls prog 206 #[.agg #[.int .u64 (F.Hi p'),.int .u64 (F.Lo p')],.agg #[.int .u64 (F.Hi x),.int .u64 (F.Lo x)]] u λe u'=>e=.returned (.agg #[.int .u64 (F.Hi (p'*x)),.int .u64 (F.Lo (p'*x))])/\LP w0 w u' (.slice (some ⟨gb,go,none⟩) n Gc) n tk s p':=λu tk s hu =>
          (nz (hTimes p' x) (RL hO hG hu.vs.since).1 (RL hO hG hu.vs.since).2).mono λe u' ⟨he,hb⟩=>⟨he,hu.keep hb⟩
         have cV:∀u s,LP w0 w u (.slice (some ⟨gb,go,none⟩) n Gc) n (tk.set k true) s p'->Calls prog 299 #[.int .i64 (i64.wrap ((row:Int)+1)),.agg #[.int .u64 (F.Hi (p'*x)),.int .u64 (F.Lo (p'*x))],.pointer (some ⟨w0.heap.size,0,none⟩),.pointer (some ⟨w0.heap.size+2,0,none⟩),.pointer (some ⟨w0.heap.size+4,0,none⟩),.pointer (some ⟨w0.heap.size+5,0,none⟩)] u λe u'=>e=.returned (.tuple #[])/\LP w0 w u' (.slice (some ⟨gb,go,none⟩) n Gc) n (tk.set k true) (s+LD rs (tk.set k true) (p'*x)) p':=λu s hu=>by
          rw[show i64.wrap ((row:Int)+1)=(row:Int)+1 by rw[IntKind.wrap_i64];omega];exact(hI (tk.set k true) (p'*x) s u (by simp[htk]) hu.vs).mono λe u' ⟨he,hv,hz,hb⟩=>⟨he,hu.via hv hz hb⟩
         clear hI
         go_region_held3 (λu=>u.cell? ⟨w0.heap.size+5,0,none⟩=some (.func (.func 299) #[] #[.pointer (some ⟨w0.heap.size,0,none⟩),.pointer (some ⟨w0.heap.size+2,0,none⟩),.pointer (some ⟨w0.heap.size+4,0,none⟩),.pointer (some ⟨w0.heap.size+5,0,none⟩)]) /\
          u.cell? ⟨w.heap.size,0,none⟩=some (.int .u64 (F.Hi p'))/\u.cell? ⟨w.heap.size,1,none⟩=some (.int .u64 (F.Lo p'))) (exact LP.held (by assumption))
          (first
           | (go_at_call 184;refine(cW _ _ _ (by assumption)).mono ?_;rintro e u ⟨rfl,hu⟩)
           | (go_at_call 206;refine(cT _ _ _ (by assumption)).mono ?_;rintro e u ⟨rfl,hu⟩)
           | (go_at_call 299;refine(cV _ _ (by assumption)).mono ?_;rintro e u ⟨rfl,hu⟩))
         have hV2:=hu.vs.t
         have hV3:u.cell? ⟨w0.heap.size+3,k,none⟩=some (.bool true):=by
          have:=hu.vs.k.cell hkn
          simpa [qc,hkt] using this
         have hV4:=hu.vs.k.frozen k;have hL3:=hu.take false (i:=k) (by simp[hkt])
         have etk:(tk.set k true).set k false=tk:=by
          apply r7;intro j;by_cases e:k=j
          ·subst e;have:tk[k]=false:=by simpa [qc,hkt] using hb
           simp[hkt,this]
          ·simp[e]
         rw[etk]at hL3;have q1:=hL3.p0;have q2:=hL3.p1;clear etk cV cW cT
         go_wp2_with (go_at_call 250;refine(opp _ _ _ hL3).mono ?_;rintro e w2 ⟨rfl,hL2⟩;have r1:=hL2.p0;have r2:=hL2.p1;have r3:=hL2.fp 0;have r4:=hL2.fp 1;clear q1 q2 opp)
         go_roundg (n-(k+1))
         case measure=>go_light;omega
         case rel =>
          go_light
          have:=HG.out;rw[hb,hx]at this;exact⟨k+1,-p',_,by omega,rfl,by go_num,hL2.prod _,this⟩
    ·have hkz:¬((k:Int)<(n:Int)):=by omega
     go_wp2_with fail
     first|go_end0|(refine bodyPost_ret (results_none rfl _ _ _) rfl ?_)
     have:k=n:=by omega
     subst this;rw[sW (by omega)]at hgo;simp only[LD.go]at hgo;refine⟨rfl,by rw[<-hgo];exact hL.vs,by have:=hL.size;omega,hL.block⟩
theorem pD:prog.underlying 210=some (TypeDesc.slice 4):=by kernel_rfl
theorem pC:(prog.info? 4).map (λi=>(i.zero,i.size,i.bytes))=some (some (Value.bool false),1,1):=by kernel_rfl
theorem gB(w0:World)(mv:Value)(n:Nat)(tk:List Bool)(htk:∀i,i<n->tk.getD i true=false)(T1 T2 T3 T5 T6:TypeId)(c2:Array Value) :
 VS w0 ((((((w0.alloc (.cells #[mv] T1)).alloc (.cells c2 T2)).alloc (.cells #[.int .u64 0,.int .u64 0] T3)).alloc (.cells (madeCells #[.bool false] n) 4)).alloc (.cells #[.slice (some ⟨w0.heap.size+3,0,none⟩) n n] T5)).alloc (.cells #[.func (.func 299) #[] #[.pointer (some ⟨w0.heap.size,0,none⟩),.pointer (some ⟨w0.heap.size+2,0,none⟩),.pointer (some ⟨w0.heap.size+4,0,none⟩),.pointer (some ⟨w0.heap.size+5,0,none⟩)]] T6)) mv n tk 0 /\
 ((((((w0.alloc (.cells #[mv] T1)).alloc (.cells c2 T2)).alloc (.cells #[.int .u64 0,.int .u64 0] T3)).alloc (.cells (madeCells #[.bool false] n) 4)).alloc (.cells #[.slice (some ⟨w0.heap.size+3,0,none⟩) n n] T5)).alloc (.cells #[.func (.func 299) #[] #[.pointer (some ⟨w0.heap.size,0,none⟩),.pointer (some ⟨w0.heap.size+2,0,none⟩),.pointer (some ⟨w0.heap.size+4,0,none⟩),.pointer (some ⟨w0.heap.size+5,0,none⟩)]] T6)).heap[w0.heap.size+1]?=some (.cells c2 T2 (0,0)) /\
 w0.heap.size+6=((((((w0.alloc (.cells #[mv] T1)).alloc (.cells c2 T2)).alloc (.cells #[.int .u64 0,.int .u64 0] T3)).alloc (.cells (madeCells #[.bool false] n) 4)).alloc (.cells #[.slice (some ⟨w0.heap.size+3,0,none⟩) n n] T5)).alloc (.cells #[.func (.func 299) #[] #[.pointer (some ⟨w0.heap.size,0,none⟩),.pointer (some ⟨w0.heap.size+2,0,none⟩),.pointer (some ⟨w0.heap.size+4,0,none⟩),.pointer (some ⟨w0.heap.size+5,0,none⟩)]] T6)).heap.size:=by
 have hb:∀(W:World)(o:Obj) k,k<W.heap.size->(W.alloc o).heap[k]?=W.heap[k]?:=λW o k hk=>blk_alloc_lt W o k hk;obtain⟨W1,h1⟩:∃W,W=w0.alloc (.cells #[mv] T1):=⟨_,rfl⟩;obtain⟨W2,h2⟩:∃W,W=W1.alloc (.cells c2 T2):=⟨_,rfl⟩;obtain⟨W3,h3⟩:∃W,W=W2.alloc (.cells #[.int .u64 0,.int .u64 0] T3):=⟨_,rfl⟩;obtain⟨W4,h4⟩:∃W,W=W3.alloc (.cells (madeCells #[.bool false] n) 4):=⟨_,rfl⟩;obtain⟨W5,h5⟩:∃W,W=W4.alloc (.cells #[.slice (some ⟨w0.heap.size+3,0,none⟩) n n] T5):=⟨_,rfl⟩;obtain⟨W6,h6⟩:∃W,W=W5.alloc (.cells #[.func (.func 299) #[] #[.pointer (some ⟨w0.heap.size,0,none⟩),.pointer (some ⟨w0.heap.size+2,0,none⟩),.pointer (some ⟨w0.heap.size+4,0,none⟩),.pointer (some ⟨w0.heap.size+5,0,none⟩)]] T6):=⟨_,rfl⟩;rw[<-h1,<-h2,<-h3,<-h4,<-h5,<-h6];have z1:W1.heap.size=w0.heap.size+1:=by rw[h1];simp
 have z2:W2.heap.size=w0.heap.size+2:=by rw[h2];simp[z1]
 have z3:W3.heap.size=w0.heap.size+3:=by rw[h3];simp[z2]
 have z4:W4.heap.size=w0.heap.size+4:=by rw[h4];simp[z3]
 have z5:W5.heap.size=w0.heap.size+5:=by rw[h5];simp[z4]
 have z6:W6.heap.size=w0.heap.size+6:=by rw[h6];simp[z5]
 have b2:∀k,k<w0.heap.size+2->W6.heap[k]?=W2.heap[k]?:=λk hk=>by rw[h6,hb W5 _ k (by omega),h5,hb W4 _ k (by omega),h4,hb W3 _ k (by omega),h3,hb W2 _ k (by omega)]
 have b1:∀k,k<w0.heap.size+1->W6.heap[k]?=W1.heap[k]?:=λk hk=>by rw[b2 k (by omega),h2,hb W1 _ k (by omega)]
 have b3:W6.heap[w0.heap.size+2]?=W3.heap[w0.heap.size+2]?:=by rw[h6,hb W5 _ _ (by omega),h5,hb W4 _ _ (by omega),h4,hb W3 _ _ (by omega)]
 have b4:W6.heap[w0.heap.size+3]?=W4.heap[w0.heap.size+3]?:=by rw[h6,hb W5 _ _ (by omega),h5,hb W4 _ _ (by omega)]
 have b5:W6.heap[w0.heap.size+4]?=W5.heap[w0.heap.size+4]?:=by rw[h6,hb W5 _ _ (by omega)]
 have s6:w0.Since w0.heap.size W6:=by
  rw[h6,h5,h4,h3,h2,h1];exact((((((World.Since.refl _ _).alloc (qb _) _).alloc (by simp) _).alloc (by simp;omega) _).alloc (by simp;omega) _).alloc (by simp;omega) _).alloc (by simp;omega) _
 refine⟨⟨s6,by omega,?_,?_,?_,λj=>?_,?_,?_,?_⟩,?_,by omega⟩
 ·rw[World.cell?_of_block (w:=W1) (b1 _ (by show w0.heap.size<_;omega)),h1];exact World.cell?_alloc_at _ _ _ _ rfl
 ·rw[World.cell?_of_block (w:=W3) b3,h3];exact World.cell?_alloc_at _ _ _ _ z2.symm
 ·rw[World.cell?_of_block (w:=W3) b3,h3];exact World.cell?_alloc_at _ _ _ _ z2.symm
 ·rw[World.frozen?_of_block (w:=W3) b3,h3];exact World.frozen?_alloc_at _ _ _ _ z2.symm
 ·rw[World.cell?_of_block (w:=W5) b5,h5];exact World.cell?_alloc_at _ _ _ _ z4.symm
 ·rw[h6];exact World.cell?_alloc_at _ _ _ _ z5.symm
 ·have:=World.rowIs_made W3 (.bool false) n 4;rw[<-h4,z3]at this;exact(this.of_block b4).congr λi hi=>by rw[htk i hi]
 ·rw[b2 _ (by omega),h2,<-z1];exact blk_alloc_new _ _
theorem ji{O:Nat->Prop}(w0:World)(hO:∀b,O b->b<w0.heap.size)(hG:Oq O w0)(m:List (List Int))(n:Nat)(hml:m.length=n)(hn:∀r,r<m.length->(m.getD r []).length=n)(hi:∀r c,-9223372036854775808<=PC m r c/\PC m r c<=9223372036854775807)(hb:n<=1000)
 (ga:Option Addr) (gb go Gc:Nat) (A:Nat->Option Addr) (C RB RO:Nat->Nat) (mv:Value) (hR:Wm w0 mv m ga gb go Gc A C RB RO) (hgb:gb<w0.heap.size) (hRB:∀r,r<m.length->∀c,c<n->RB r<w0.heap.size) :
 Calls prog 262 #[mv] w0 λe w'=>e=.returned (wv (WC m))/\w0.Since w0.heap.size w':=by
 have hV:=ep w0 hO hG m n hml hn hi hb ga gb go Gc A C RB RO mv hR hgb hRB F.whole_ F.times_ F.opposite_ F.plus_ m 0 rfl (pY _);have ev:=hR.val;rw[hml]at ev;have hmk1:=run_make_row' (P:=prog) 210 4 (.bool false) 1 pD pC rfl .i64 .i64 n (by omega) (by omega);have hmf:∀(fn:Fn)(first cap:Array Value)(w:World),(Instr.makeFunc fn first cap).run prog w=.ok (.func fn first cap) w:=λ_ _ _ _=>rfl;subst ev;have hsf:∀(fn:Fn)(c1 c2:Array Value)(a:Addr)(w:World),(store a (.func fn c1 c2)).run prog w=stored prog w a (.func fn c1 c2) .plain:=λ_ _ _ a w=>run_store prog w a _ _ rfl;have q1:∀(o1 o2 o3 o4 o5:Obj)(x:Value)(T:TypeId),((((((w0.alloc o1).alloc o2).alloc o3).alloc o4).alloc o5).alloc (.cells #[x] T)).cell? ⟨w0.heap.size+1+1+1+1+1,0,none⟩=some x:=λo1 o2 o3 o4 o5 x T=>World.cell?_alloc_at _ _ _ _ (by simp);have q2:∀(o1 o2 o3 o4 o5:Obj)(x:Value)(T:TypeId),((((((w0.alloc o1).alloc o2).alloc o3).alloc o4).alloc o5).alloc (.cells #[x] T)).frozen? ⟨w0.heap.size+1+1+1+1+1,0,none⟩=false:=λo1 o2 o3 o4 o5 x T=>World.frozen?_alloc_at _ _ _ _ (by simp);have hS:=gB w0 (.slice ga n Gc) n (m.map λ_=>false) (λi hi=>by simp[qc,hml,hi]) 29 263 263 210 326 #[.int .u64 0,.int .u64 0];have HS:Aside _:=hS;clear hS
 go_enter func262,ntmps262
 go_wp2_with fail
 obtain⟨W,hW⟩:∃W,W=((((((w0.alloc (.cells #[.slice ga n Gc] 29)).alloc (.cells #[.int .u64 0,.int .u64 0] 263)).alloc (.cells #[.int .u64 0,.int .u64 0] 263)).alloc (.cells (madeCells #[.bool false] n) 4)).alloc (.cells #[.slice (some ⟨w0.heap.size+3,0,none⟩) n n] 210)).alloc (.cells #[.func (.func 299) #[] #[.pointer (some ⟨w0.heap.size,0,none⟩),.pointer (some ⟨w0.heap.size+2,0,none⟩),.pointer (some ⟨w0.heap.size+4,0,none⟩),.pointer (some ⟨w0.heap.size+5,0,none⟩)]] 326)):=⟨_,rfl⟩;have hS:=HS.out;rw[<-hW]at hS;refine cast (congrArg (λW=>Code.wp prog _ _ _ W) hW) ?_;clear hW HS hmk1 hmf hsf q1 q2;obtain⟨hs,hc1,hsz⟩:=hS;have hsd:=hs.drew;have t1:W.cell? ⟨w0.heap.size+1+1+1+1+1,0,none⟩=some (.func (.func 299) #[] #[.pointer (some ⟨w0.heap.size,0,none⟩),.pointer (some ⟨w0.heap.size+1+1,0,none⟩),.pointer (some ⟨w0.heap.size+1+1+1+1,0,none⟩),.pointer (some ⟨w0.heap.size+1+1+1+1+1,0,none⟩)]):=hs.v
 have cW:∀u,VS w0 u (.slice ga n Gc) n (m.map λ_=>false) 0/\u.heap[w0.heap.size+1]?=some (.cells #[.int .u64 0,.int .u64 0] 263 (0,0))->Calls prog 184 #[.int .i64 1] u λe u'=>e=.returned (wv 1)/\VS w0 u' (.slice ga n Gc) n (m.map λ_=>false) 0/\u'.heap[w0.heap.size+1]?=some (.cells #[.int .u64 0,.int .u64 0] 263 (0,0)):=λu hu =>
  (ny (F.whole_ 1 (by omega) (by omega)) (RL hO hG hu.1.since).1 (RL hO hG hu.1.since).2).mono λe u' ⟨he,hb⟩=>⟨he,hu.1.keep (QW hb),(hb.block _ (by have:=hu.1.size;omega)).trans hu.2⟩
 have cV:∀u,VS w0 u (.slice ga n Gc) n (m.map λ_=>false) 0/\u.heap[w0.heap.size+1]?=some (.cells #[.int .u64 0,.int .u64 0] 263 (0,0))->Calls prog 299 #[.int .i64 0,wv 1,.pointer (some ⟨w0.heap.size,0,none⟩),.pointer (some ⟨w0.heap.size+1+1,0,none⟩),.pointer (some ⟨w0.heap.size+1+1+1+1,0,none⟩),.pointer (some ⟨w0.heap.size+1+1+1+1+1,0,none⟩)] u λe u'=>e=.returned (.tuple #[])/\VS w0 u' (.slice ga n Gc) n (m.map λ_=>false) (WC m)/\u'.heap[w0.heap.size+1]?=some (.cells #[.int .u64 0,.int .u64 0] 263 (0,0)):=λu hu =>
  (hV (m.map λ_=>false) 1 0 u (by simp[hml]) hu.1).mono λe u' ⟨he,hv,_,hb⟩=>⟨he,by rw[Int.zero_add]at hv;exact hv,(hb _ (by have:=hu.1.size;omega) (by omega) (by omega)).trans hu.2⟩
 clear hV;have hd0:VS w0 W (.slice ga n Gc) n (m.map λ_=>false) 0/\W.heap[w0.heap.size+1]?=some (.cells #[.int .u64 0,.int .u64 0] 263 (0,0)):=⟨hs,hc1⟩;have hd1:VS w0 W.drew (.slice ga n Gc) n (m.map λ_=>false) 0/\W.drew.heap[w0.heap.size+1]?=some (.cells #[.int .u64 0,.int .u64 0] 263 (0,0)):=⟨hsd,hc1⟩;clear hs hc1 hsd;unfold wv at cW cV
 go_region_held3 (λu=>u.cell? ⟨w0.heap.size+1+1+1+1+1,0,none⟩=some (.func (.func 299) #[] #[.pointer (some ⟨w0.heap.size,0,none⟩),.pointer (some ⟨w0.heap.size+1+1,0,none⟩),.pointer (some ⟨w0.heap.size+1+1+1+1,0,none⟩),.pointer (some ⟨w0.heap.size+1+1+1+1+1,0,none⟩)])) (first|exact(And.left (by assumption):VS w0 _ _ _ _ _).v)
  (first
   | (go_at_call 184;refine(cW _ (by assumption)).mono ?_;rintro e u ⟨rfl,hu⟩)
   | (go_at_call 299;refine(cV _ (by assumption)).mono ?_;rintro e u ⟨rfl,hu⟩))
 obtain⟨hv,hc⟩:=hu;have r1:u.cell? ⟨w0.heap.size+1+1,0,none⟩=some (.int .u64 (F.Hi (WC m))):=hv.s0;have r2:u.cell? ⟨w0.heap.size+1+1,1,none⟩=some (.int .u64 (F.Lo (WC m))):=hv.s1;have r3:u.cell? ⟨w0.heap.size+1,0,none⟩=some (.int .u64 0):=by simp[World.cell?,hc]
 have r4:u.cell? ⟨w0.heap.size+1,1,none⟩=some (.int .u64 0):=by simp[World.cell?,hc]
 have r5:∀j,u.frozen? ⟨w0.heap.size+1,j,none⟩=false:=λj=>by simp[World.frozen?,hc]
 have hsn:=hv.since;clear hv hc cW cV hd0 hd1 t1
 go_wp2_with fail
 refine bodyPost_ret (v:=.agg #[.int .u64 (F.Hi (WC m)),.int .u64 (F.Lo (WC m))]) (by simp[results,results262,go_sem,r3,r4]) rfl ⟨rfl,(hsn.setCell (by show w0.heap.size<=w0.heap.size+1;omega) _).setCell (by show w0.heap.size<=w0.heap.size+1;omega) _⟩
set_option maxRecDepth 10000
theorem f7{O:Nat->Prop}{w:World}{vs:Array Value}{x:D}(hl:vs.size=1)(h:∀(i:Nat) v y,vs[i]?=some v->[AV.d x][i]?=some y->Ot O w v y):∃v,vs=#[v]/\Aw O w v x:=by
 obtain⟨l⟩:=vs
 match l,hl with
 | [v],_=>exact⟨v,rfl,h 0 v _ rfl rfl⟩
theorem Z5{m:List (List Int)}{n:Nat}(h:lenM m n=true):∀r,r<m.length->(m.getD r []).length=n:=λr hr=>by
 have:=List.all_eq_true.1 h (m.getD r []) (by simp[qc,hr])
 simpa using this
theorem Kr(p0:List (List Int))(R:List (List Int))(hF:Kq p0=some R):Ax prog 192 [.d (An 1 (An 1 (D.int .i64)) p0)] (.d (An 1 (An 1 (D.int .i64)) R)):=by
 obtain⟨hr,hF⟩:=Vv hF;obtain rfl:=P3 hF;obtain⟨h1,h2⟩:=Bool.and_eq_true_iff.1 hr;obtain⟨h3,h4,h5,h6⟩:=pZ h1;refine⟨by kernel_rfl,λO w vs hO hG hlen hargs=>?_⟩;obtain⟨v,rfl,hv⟩:=f7 hlen hargs;obtain⟨ga,gb,go,Gc,A,C,RB,RO,hR,hb,hRB⟩:=Rs hv;have hn:=Z5 h2
 exact(iA p0 _ h3 hn h5 h6 h4 w ga gb go Gc A C RB RO v hR (hb h3).2 λr hr c hc=>(hRB r hr c (by rw[hn r hr];exact hc)).2).mono λe w' ⟨he,hM⟩ =>
  ⟨_,he,⟨hM.since.os,hM.since.tape,hM.since.output,hM.since.size,hM.since.block⟩,hM.data hO h5⟩
theorem NH(p0:List (List Int))(p1:Int)(p2:List Int)(R:List (List Int))(hF:GO p0 p1 p2=some R):Ax prog 261 [.d (An 1 (An 1 (D.int .i64)) p0),.d (.int .i64 p1),.d (An 1 (D.int .i64) p2)] (.d (An 1 (An 1 (D.int .i64)) R)):=by
 obtain⟨hr,hF⟩:=Vv hF;obtain rfl:=P3 hF;obtain⟨h1,h2⟩:=Bool.and_eq_true_iff.1 hr;obtain⟨h3,h4,h5,h6⟩:=pZ h1;obtain⟨col,rfl⟩:∃c:Nat,p1=c:=⟨p1.toNat,by omega⟩;refine⟨by kernel_rfl,λO w vs hO hG hlen hargs=>?_⟩
 obtain⟨v,u,b,rfl⟩:∃v u b,vs=#[v,u,b]:=by
  obtain⟨l⟩:=vs
  match l,hlen with
  | [v,u,b],_=>exact⟨v,u,b,rfl⟩
 have hv:Aw O w v _:=hargs 0 v _ rfl rfl;have hu:=AJ (hargs 1 u _ rfl rfl);subst hu;obtain⟨a,cap,bb,bo,rfl,hbc⟩:=GQ (show Aw O w b (D.list 1 (p2.map (D.int .i64)))from hargs 2 b _ rfl rfl);obtain⟨ga,gb,go,Gc,A,C,RB,RO,hR,hb,hRB⟩:=Rs hv;have hn:=Z5 h2;have h0:0<p0.length:=by omega
 obtain⟨ea,_,hbb,_⟩:=hbc 0 (by omega);subst ea
 exact(Ya p0 p2 col _ rfl hn (by omega) h5 h6 w ga gb go Gc A C RB RO v hR (hb h0).2 (λr hr c hc=>(hRB r hr c (by rw[hn r hr];exact hc)).2) bb bo cap hbb (λi hi=>(hbc i hi).2.2.2)).mono λe w' ⟨he,cp,hM⟩ =>
  ⟨_,he,⟨hM.since.os,hM.since.tape,hM.since.output,hM.since.size,hM.since.block⟩,hM.data hO h0⟩
theorem L1(p0:List (List Int))(R:AM)(hF:CO p0=some R):Ax prog 262 [.d (An 1 (An 1 (D.int .i64)) p0)] (.d (BH R)):=by
 obtain⟨hr,hF⟩:=Vv hF;obtain rfl:=P3 hF;obtain⟨h1,h2⟩:=Bool.and_eq_true_iff.1 hr;obtain⟨h2,h3⟩:=Bool.and_eq_true_iff.1 h2;refine⟨by kernel_rfl,λO w vs hO hG hlen hargs=>?_⟩;obtain⟨v,rfl,hv⟩:=f7 hlen hargs;obtain⟨ga,gb,go,Gc,A,C,RB,RO,hR,hb,hRB⟩:=Rs hv;have hn:=Z5 h2
 have hi:∀r c,-9223372036854775808<=PC p0 r c/\PC p0 r c<=9223372036854775807:=λr c=>by
  unfold PC;by_cases hr:r<p0.length
  ·by_cases hc:c<(p0.getD r []).length
   ·have:=List.all_eq_true.1 h3 (p0.getD r []) (by simp[qc,hr]);generalize p0.getD r []=l at this hc ⊢;have:=List.all_eq_true.1 this (l.getD c 0) (by rw[qc,P2 hc];exact qa hc);exact pZ this
   ·rw[qc,qv (by omega)];exact⟨by decide,by decide⟩
  ·rw[show p0.getD r []=[]from by rw[qc,qv (by omega)];rfl];exact⟨by simp,by simp⟩
 obtain⟨h0,h1⟩:=pZ h1
 exact(ji w hO hG p0 _ rfl hn hi h1 ga gb go Gc A C RB RO v hR (hb h0).2 (λr hr c hc=>(hRB r hr c (by rw[hn r hr];exact hc)).2)).mono λe w' ⟨he,hs⟩ =>
  ⟨_,he,⟨hs.os,hs.tape,hs.output,hs.size,hs.block⟩,ZE _⟩
theorem KD(p0:Int)(R:AM)(hF:Qp p0=some R):Ax prog 184 [.d (.int .i64 p0)] (.d (BH R)):=by
 obtain⟨hr,hF⟩:=Vv hF;obtain rfl:=P3 hF;obtain⟨h1,h2⟩:=pZ hr;exact F.whole_ p0 h1 h2
theorem Zt{w:AM}(h:(On w.D&&On w.C)=true):BH w=F.W (P9 w)/\-F.B127<=P9 w/\P9 w<F.B127:=by
 obtain⟨h1,h2⟩:=Bool.and_eq_true_iff.1 h;have h1:=pZ h1;have h2:=pZ h2;have hB:F.B127=170141183460469231731687303715884105728:=rfl;obtain⟨a,b⟩:=w;simp only at h1 h2;unfold P9 BH F.W F.Hi F.Lo;simp only;by_cases hlt:a*18446744073709551616+b<F.B127
 ·rw[qh hlt];simp only[qK];refine⟨?_,by omega,by omega⟩;rw[show(a*18446744073709551616+b)/18446744073709551616%18446744073709551616=a by omega,show(a*18446744073709551616+b)%18446744073709551616=b by omega]
 ·rw[qC hlt];simp only[q9];refine⟨?_,by omega,by omega⟩;rw[show(a*18446744073709551616+b-2*F.B127)/18446744073709551616%18446744073709551616=a by omega,show(a*18446744073709551616+b-2*F.B127)%18446744073709551616=b by omega]
theorem Lt(p0:AM)(R:Int)(hF:EM p0=some R):Ax prog 249 [.d (BH p0)] (.d (.int .i64 R)):=by
 obtain⟨hr,hF⟩:=Vv hF;obtain rfl:=P3 hF;obtain⟨e,h1,h2⟩:=Zt hr;rw[e];exact F.sign_ _ h1 h2
theorem MR(p0 p1:AM)(R:AI×Int)(hF:Gj p0 p1=some R):Ax prog 183 [.d (BH p0),.d (BH p1)] (.tup [.d (Bq R.1),.d (.int .i64 R.2)]):=by
 obtain⟨hr,hF⟩:=Vv hF;obtain rfl:=P3 hF;obtain⟨h0,hr⟩:=Bool.and_eq_true_iff.1 hr;obtain⟨h1,hr⟩:=Bool.and_eq_true_iff.1 hr;obtain⟨hd,h2,h3⟩:=pZ hr;obtain⟨e0,_,k0⟩:=Zt h0;obtain⟨e1,_,k1⟩:=Zt h1;rw[e0,e1];exact F.reduced_ _ _ hd ⟨h2,k0⟩ ⟨h3,k1⟩
theorem Hq(p0 p1:Int)(R:Int×Int)(hF:GP p0 p1=some R):Ax prog 267 [.d (.int .u64 p0),.d (.int .u64 p1)] (.tup [.d (.int .u64 R.1),.d (.int .u64 R.2)]):=by
 obtain⟨hr,hF⟩:=Vv hF;obtain rfl:=P3 hF;obtain⟨h1,h2⟩:=Bool.and_eq_true_iff.1 hr;have h1:=pZ h1;have h2:=pZ h2;exact F.mul64_ _ _ h1.1 h1.2 h2.1 h2.2
theorem TS(p0 p1 p2:Int)(R:Int×Int)(hF:IS p0 p1 p2=some R):eG prog 265 [.d (.int .u64 p0),.d (.int .u64 p1),.d (.int .u64 p2)] (.tup [.d (.int .u64 R.1),.d (.int .u64 R.2)]):=by
 obtain⟨hr,hF⟩:=Vv hF;obtain rfl:=P3 hF;obtain⟨h1,h2⟩:=Bool.and_eq_true_iff.1 hr;obtain⟨h0,h1⟩:=Bool.and_eq_true_iff.1 h1;have h1:=pZ h1;have h0:=pZ h0;exact F.add64_ _ _ _ h0.1 h1.1 (by simpa using h2)
instance:CS prog 192 (type_of% @Kr):=⟨@Kr⟩
instance:CS prog 261 (type_of% @NH):=⟨@NH⟩
instance:CS prog 262 (type_of% @L1):=⟨@L1⟩
instance:CS prog 184 (type_of% @KD):=⟨@KD⟩
instance:CS prog 249 (type_of% @Lt):=⟨@Lt⟩
instance:CS prog 183 (type_of% @MR):=⟨@MR⟩
instance:CS prog 267 (type_of% @Hq):=⟨@Hq⟩
set_option maxRecDepth 20000
set_option maxHeartbeats 4000000
theorem oO(n:Nat)(hn:n<=1000000):iK prog 268 [0] [.d (.list 1 []),.d (.int .i64 n)] (.own 1 3 []):=by
 refine⟨by kernel_rfl,λO w vs hO hG hlen hnil hargs=>?_⟩
 obtain⟨v,u,rfl⟩:∃v u,vs=#[v,u]:=by
  obtain⟨l⟩:=vs
  match l,hlen with
  | [v,u],_=>exact⟨v,u,rfl⟩
 have hv:=hnil 0 (by simp);simp at hv;subst hv;have hu:=AJ (hargs 1 u _ rfl rfl);subst hu
 have Ef:∀{e:Ending}{v:Value}{w':World},e=.returned v->RowKit.Below w.heap.size w w'->(v=.slice none 0 0\/∃cap cur,v=.slice (some ⟨w.heap.size,0,none⟩) 0 cap/\w'.heap[w.heap.size]?=some (.cells cur 3 (0,0))/\cap<=maxLen/\cur.size=cap) ->
  ∃v,e=.returned v/\RowKit.Below w.heap.size w w'/\CK (λb=>w.heap.size<=b) O w' v (.own 1 3 []):=by
  intro e v w' he hb hv;refine⟨v,he,hb,by decide,(λ_ h=>by cases h),λb hbk=>?_,[],?_,Bl.nil⟩
  ·rcases hv with rfl|⟨cap,cur,rfl,_⟩
   ·simp[Ac]at hbk
   ·simp[Ac]at hbk;omega
  ·rcases hv with rfl|⟨cap,cur,rfl,h1,h2,h3⟩
   ·exact .inl (World.ownsRow_nil w' _ _ _)
   ·exact .inl ⟨rfl,.inr ⟨_,cap,cur,rfl,pY _,h1,pY _,h2,by omega,by simp⟩⟩
 by_cases h0:n=0
 ·subst h0
  go_enter func268,ntmps268
  go_wp2
  go_ret
  exact Ef rfl (RowKit.Below.refl _ _) (.inl rfl)
 ·have hg:(0:Int)<n:=by omega
  have hnx:Builtin.nextslicecap n 0=n:=by unfold Builtin.nextslicecap;simp;omega
  have H:=Lib.hid hnx;clear hnx
  go_enter func268,ntmps268
  go_wp2
  all_goals try (exfalso;have hnx:=H.out;simp only[show t3.bytes=8 from rfl,hnx]at *;omega)
  go_ret
  have h1:=grownCap_ge w n 0 3;have h2:=grownCap_le_maxLen w n 0 3 (by unfold maxLen;omega);unfold grownCap at h1 h2;refine Ef rfl ((RowKit.Below.refl _ _).alloc (qb _) _).drew (.inr ⟨_,_,rfl,heap_alloc_new w _,h2,?_⟩);rw[sX,size_zeroCells,size_zeroCells];simp;omega
def cM(a b:List Int):Fin 3->Int
 | 0=>0
 | 1=>(a.length:Int)
 | 2=>((a.length+b.length:Nat):Int)
def iU(a b:List Int):Fin 3->List D
 | 0=>[]
 | 1=>a.map (D.int .i64)
 | 2=>(a++b).map (D.int .i64)
theorem lP(a b:List Int)(ha:a.length<=200000)(hb:b.length<=200000) :
 Ax prog 209 [.d (.list 1 [F.ints a,F.ints b])] (.d (F.ints (a++b))):=by
 have w1:i64.wrap (cM a b 0+((a.map (D.int .i64)).length:Int))=cM a b 1:=by
  show i64.wrap (0+((a.map (D.int .i64)).length:Int))=(a.length:Int);rw[pX,F.wrap_small (by omega) (by omega)];omega
 have w2:i64.wrap (cM a b 1+((b.map (D.int .i64)).length:Int))=cM a b 2:=by
  show i64.wrap ((a.length:Int)+((b.map (D.int .i64)).length:Int))=((a.length+b.length:Nat):Int);rw[pX,F.wrap_small (by omega) (by omega)];omega
 refine Da func209 (by kernel_rfl) ?_
 conv=>whnf
 refine loop (Fin 3) (λk=>CJ 36 [(0,.d (.list 1 [F.ints a,F.ints b])),(3,.d (.int .i64 (cM a b k))),(9,.d (.list 1 [F.ints a,F.ints b])),(10,.d (.int .i64 2)),(11,.d (.int .i64 (k.val:Int)))] []) (λk=>2-k.val) 0 ?_ λk=>?_
 ·refine Rp ?_
  conv=>whnf
  repeat (first|exact trivial|refine And.intro (by first|with_reducible rfl|exact .inl rfl|(rw[next (by first|omega|(simp only;omega))])|rfl) ?_)
 match k with
 | 0 =>
   conv=>whnf
   refine⟨⟨by decide,_,rfl,?_⟩⟩
   conv=>whnf
   refine br (λh=>?_) (λh=>?_)
   ·exact absurd (pZ h) (by show ¬(i64.wrap (cM a b 0+((a.map (D.int .i64)).length:Int))<0);rw[w1];show ¬((a.length:Int)<0);omega)
   conv=>whnf
   refine⟨1,?_,by decide⟩;refine Rp ?_
   conv=>whnf
   repeat (first|exact trivial|refine And.intro (by first|with_reducible rfl|rfl|rw[w1]) ?_)
 | 1 =>
   conv=>whnf
   refine⟨⟨by decide,_,rfl,?_⟩⟩
   conv=>whnf
   refine br (λh=>?_) (λh=>?_)
   ·exact absurd (pZ h) (by show ¬(i64.wrap (cM a b 1+((b.map (D.int .i64)).length:Int))<0);rw[w2];show ¬(((a.length+b.length:Nat):Int)<0);omega)
   conv=>whnf
   refine⟨2,?_,by decide⟩;refine Rp ?_
   conv=>whnf
   repeat (first|exact trivial|refine And.intro (by first|with_reducible rfl|rfl|rw[w2]) ?_)
 | 2 =>
   conv=>whnf
   refine oI (oO (a.length+b.length) (by omega)) ?_
   conv=>whnf
   refine loop (Fin 3) (λk=>CJ 36 [(6,.sl 24 1),(25,.d (.list 1 [F.ints a,F.ints b])),(26,.d (.int .i64 2)),(27,.d (.int .i64 (k.val:Int)))] [(24,.row 1 3 (iU a b k),1)]) (λk=>2-k.val) 0 ?_ λk=>?_
   ·refine Rp ?_
    conv=>whnf
    repeat (first|exact trivial|refine And.intro (by first|with_reducible rfl|exact .inl rfl|(rw[next (by first|omega|(simp only;omega))])|rfl) ?_)
   match k with
   | 0 =>
     conv=>whnf
     refine⟨⟨by decide,_,rfl,?_⟩⟩
     conv=>whnf
     refine⟨by rw[F.bytes_int];simp only[iU,pX,rI];exact⟨by unfold maxLen;omega,by omega,.inr (by kernel_rfl)⟩,?_⟩
     conv=>whnf
     refine⟨1,?_,by decide⟩;refine Rp ?_
     conv=>whnf
     repeat (first|exact trivial|refine And.intro (by first|with_reducible rfl|exact .inl rfl|(rw[next (by first|omega|(simp only;omega))])|rfl) ?_)
   | 1 =>
     conv=>whnf
     refine⟨⟨by decide,_,rfl,?_⟩⟩
     conv=>whnf
     refine⟨by rw[F.bytes_int];simp only[iU,pX,rI];exact⟨by unfold maxLen;omega,by omega,.inr (by kernel_rfl)⟩,?_⟩
     conv=>whnf
     refine⟨2,?_,by decide⟩;refine Rp ?_
     conv=>whnf
     repeat (first|exact trivial|refine And.intro (by first|with_reducible rfl|rfl|(simp only[iU,qx];done)|(simp only[iU,qx];rfl)) ?_)
   | 2 =>
     exact z36
theorem pH(xs:List Int)(h:xs.length<=400000):Ax prog 208 [.d (F.ints xs)] (.d (F.ints (F.setI xs))):=by
 refine Da func208 (by kernel_rfl) ?_
 conv=>whnf
 refine A0 (F.clone xs (by omega)) ?_
 conv=>whnf
 refine Hm (F.sortC xs (by omega)) ?_
 conv=>whnf
 refine Hm (F.compactC (Fc xs) (by have:=Go.Abs.length_sortI xs;omega)) ?_;rw[show Go.Lib.compact (Fc xs)=F.setI xs from rfl];exact z36
theorem Fv(p0 p1:List Int)(R:List Int)(hF:Ez p0 p1=some R):Ax prog 128 [.d (An 1 (D.int .i64) p0),.d (An 1 (D.int .i64) p1)] (.d (An 1 (D.int .i64) R)):=by
 obtain⟨hr,hF⟩:=Vv hF;obtain rfl:=P3 hF;obtain⟨h1,h2⟩:=pZ hr;rw[F.setU_eq];refine Da func128 (by kernel_rfl) ?_
 conv=>whnf
 refine A0 (lP p0 p1 (by omega) (by omega)) ?_
 conv=>whnf
 refine A0 (pH (p0++p1) (by rw[qz];omega)) ?_;exact z33
theorem KY(p0 p1:Int)(R:AI×Int)(hF:Gv p0 p1=some R):Ax prog 109 [.d (.int .i64 p0),.d (.int .i64 p1)] (.tup [.d (Bq R.1),.d (.int .i64 R.2)]):=by
 unfold Gv at hF;obtain⟨hr,hF⟩:=Vv hF;obtain⟨k0,k1⟩:=Bool.and_eq_true_iff.1 hr;have k0:=pZ k0;have k1:=pZ k1
 cases hz:(p1==0)with
 | true =>
   have hz':=sR hz;subst hz';rw[hz]at hF;obtain rfl:=P3 hF;refine Da func109 (by kernel_rfl) ?_;exact z33
 | false =>
   rw[hz]at hF;obtain rfl:=P3 hF;exact F.of_ p0 p1 (by intro h;rw[h]at hz;cases hz) k0 k1
theorem VM{p:AI}(h:Wb p=true):F.VF (p.L,p.N):=by
 have h2:=pZ h;exact h2
theorem MQ(p0 p1:AI)(R:AI×Int)(hF:Md p0 p1=some R):Ax prog 126 [.d (Bq p0),.d (Bq p1)] (.tup [.d (Bq R.1),.d (.int .i64 R.2)]):=by
 obtain⟨hr,hF⟩:=Vv hF;obtain rfl:=P3 hF;obtain⟨k0,k1⟩:=Bool.and_eq_true_iff.1 hr;exact F.mul_ (p0.L,p0.N) (p1.L,p1.N) (VM k0) (VM k1)
theorem aJ(a b c d:Int)(ha:-1152921504606846976<=a/\a<=1152921504606846976)(hb:-1152921504606846976<=b/\b<=1152921504606846976)(hc:-1152921504606846976<=c/\c<=1152921504606846976)(hd:-1152921504606846976<=d/\d<=1152921504606846976) :
 Ax prog 207 [.d (F.frD (a,b)),.d (F.frD (c,d))] (.tup [.d (F.W (a*d)),.d (F.W (b*c))]):=by
 refine Da func207 (by kernel_rfl) ?_
 conv=>whnf
 refine⟨⟨by decide +kernel,by kernel_rfl⟩,?_⟩
 conv=>whnf
 refine A0 (F.whole_ a (by omega) (by omega)) ?_
 conv=>whnf
 refine A0 (F.whole_ d (by omega) (by omega)) ?_
 conv=>whnf
 refine A0 (F.times_ a d) ?_
 conv=>whnf
 refine A0 (F.whole_ c (by omega) (by omega)) ?_
 conv=>whnf
 refine A0 (F.whole_ b (by omega) (by omega)) ?_
 conv=>whnf
 refine A0 (F.times_ c b) ?_;rw[Int.mul_comm c b];exact z33
theorem aE(p q:Int×Int)(hp:F.VF p)(hq:F.VF q)(f:FuncId)(op:Int->Int->Int)(hop:∀a b,Ax prog f [.d (F.W a),.d (F.W b)] (.d (F.W (op a b))))
 (hb:-F.B127<op (p.1*q.2) (p.2*q.1)/\op (p.1*q.2) (p.2*q.1)<F.B127) :
 Ax prog 202 [.d (F.frD p),.d (F.frD q),.d (.fn f [])]
 (.tup [.d (F.frD (F.redF (op (p.1*q.2) (p.2*q.1)) (p.2*q.2).toNat)),.d (.int .i64 (F.redE (op (p.1*q.2) (p.2*q.1)) (p.2*q.2).toNat))]):=by
 have vp:=F.valid_ p hp;have vq:=F.valid_ q hq;obtain⟨a,b⟩:=p;obtain⟨c,d⟩:=q;have hB:F.B127=170141183460469231731687303715884105728:=rfl;obtain⟨⟨h1,h2⟩,h3,_⟩:=hp;obtain⟨⟨k1,k2⟩,k3,_⟩:=hq;simp only at h1 h2 h3 k1 k2 k3 hb;have hbd:=F.prod_bound (a:=b) (b:=d) (by omega) (by omega);have hbd0:0<b*d:=Int.mul_pos (by omega) (by omega);have hred:=F.reduced_ (op (a*d) (b*c)) (b*d) (by omega) hb (by omega);rw[show F.nn (op (a*d) (b*c)) (b*d)=op (a*d) (b*c)from qi (by omega),show(b*d).natAbs=(b*d).toNat by omega]at hred;have hcr:=aJ a b c d (by omega) (by omega) (by omega) (by omega);refine Da func202 (by kernel_rfl) ?_
 conv=>whnf
 refine A0 vp ?_
 conv=>whnf
 refine A0 vq ?_
 conv=>whnf
 refine⟨⟨by decide +kernel,by kernel_rfl⟩,?_⟩
 conv=>whnf
 refine A0 hcr ?_
 conv=>whnf
 refine A0 (hop (a*d) (b*c)) ?_
 conv=>whnf
 refine A0 (F.whole_ b (by omega) (by omega)) ?_
 conv=>whnf
 refine A0 (F.whole_ d (by omega) (by omega)) ?_
 conv=>whnf
 refine A0 (F.times_ b d) ?_
 conv=>whnf
 refine A0 hred ?_;generalize F.redF (op (a*d) (b*c)) (b*d).toNat=r;generalize F.redE (op (a*d) (b*c)) (b*d).toNat=e;obtain⟨r1,r2⟩:=r;exact z33
theorem MS(p0 p1:AI)(R:AI×Int)(hF:Me p0 p1=some R):Ax prog 125 [.d (Bq p0),.d (Bq p1)] (.tup [.d (Bq R.1),.d (.int .i64 R.2)]):=by
 obtain⟨hr,hF⟩:=Vv hF;obtain rfl:=P3 hF;obtain⟨k0,k1⟩:=Bool.and_eq_true_iff.1 hr;have v0:=VM k0;have v1:=VM k1
 have hc:=aE (p0.L,p0.N) (p1.L,p1.N) v0 v1 204 (λa b=>a-b) F.minus_ (by
  obtain⟨⟨h1,h2⟩,h3,_⟩:=v0;obtain⟨⟨k1,k2⟩,k3,_⟩:=v1;simp only at h1 h2 h3 k1 k2 k3 ⊢;have e1:=F.prod_bound (a:=p0.L) (b:=p1.N) h3 (by omega);have e2:=F.prod_bound (a:=p0.N) (b:=p1.L) (by omega) k3;have hB:F.B127=170141183460469231731687303715884105728:=rfl;omega)
 rw[Int.mul_comm p0.N p1.L]at hc;simp only at hc;rw[show p0.N*p1.N=p0.N*p1.N from rfl]at hc;refine Da func125 (by kernel_rfl) ?_
 conv=>whnf
 refine A0 hc ?_;unfold VV;generalize F.redF (p0.L*p1.N-p1.L*p0.N) (p0.N*p1.N).toNat=r;generalize F.redE (p0.L*p1.N-p1.L*p0.N) (p0.N*p1.N).toNat=e;obtain⟨r1,r2⟩:=r;exact z33
theorem MO(p0 p1:AI)(R:AI×Int)(hF:Mb p0 p1=some R):Ax prog 124 [.d (Bq p0),.d (Bq p1)] (.tup [.d (Bq R.1),.d (.int .i64 R.2)]):=by
 obtain⟨hr,hF⟩:=Vv hF;obtain rfl:=P3 hF;obtain⟨k0,k1⟩:=Bool.and_eq_true_iff.1 hr;have v0:=VM k0;have v1:=VM k1
 have hc:=aE (p0.L,p0.N) (p1.L,p1.N) v0 v1 203 (λa b=>a+b) F.plus_ (by
  obtain⟨⟨h1,h2⟩,h3,_⟩:=v0;obtain⟨⟨k1,k2⟩,k3,_⟩:=v1;simp only at h1 h2 h3 k1 k2 k3 ⊢;have e1:=F.prod_bound (a:=p0.L) (b:=p1.N) h3 (by omega);have e2:=F.prod_bound (a:=p0.N) (b:=p1.L) (by omega) k3;have hB:F.B127=170141183460469231731687303715884105728:=rfl;omega)
 rw[Int.mul_comm p0.N p1.L]at hc;simp only at hc;rw[show p0.N*p1.N=p0.N*p1.N from rfl]at hc;refine Da func124 (by kernel_rfl) ?_
 conv=>whnf
 refine A0 hc ?_;unfold VV;generalize F.redF (p0.L*p1.N+p1.L*p0.N) (p0.N*p1.N).toNat=r;generalize F.redE (p0.L*p1.N+p1.L*p0.N) (p0.N*p1.N).toNat=e;obtain⟨r1,r2⟩:=r;exact z33
theorem MP(p0 p1:AI)(R:AI×Int)(hF:Mc p0 p1=some R):Ax prog 127 [.d (Bq p0),.d (Bq p1)] (.tup [.d (Bq R.1),.d (.int .i64 R.2)]):=by
 obtain⟨hr,hF⟩:=Vv hF;obtain⟨k0,k1⟩:=Bool.and_eq_true_iff.1 hr;have v0:=VM k0;have v1:=VM k1;have vp:=F.valid_ _ v0;have vq:=F.valid_ _ v1;have hB:F.B127=170141183460469231731687303715884105728:=rfl;obtain⟨a,b⟩:=p0;obtain⟨c,d⟩:=p1;obtain⟨⟨h1,h2⟩,h3,_⟩:=v0;obtain⟨⟨l1,l2⟩,l3,_⟩:=v1;simp only at h1 h2 h3 l1 l2 l3 hF;have e1:=F.prod_bound (a:=a) (b:=d) h3 (by omega);have e2:=F.prod_bound (a:=b) (b:=c) (by omega) l3;have hcr:=aJ a b c d (by omega) (by omega) (by omega) (by omega)
 cases hz:(c==0)with
 | true =>
   rw[hz]at hF;obtain rfl:=P3 hF;refine Da func127 (by kernel_rfl) ?_
   conv=>whnf
   refine A0 vp ?_
   conv=>whnf
   refine A0 vq ?_
   conv=>whnf
   refine lL rfl hz ?_;exact z33
 | false =>
   rw[hz]at hF;obtain rfl:=P3 hF;have hc0:c≠0:=by simpa using hz
   have hne:b*c≠0:=Int.mul_ne_zero (by omega) hc0;have hred:=F.reduced_ (a*d) (b*c) hne (by omega) (by omega);rw[Int.mul_comm c b];refine Da func127 (by kernel_rfl) ?_
   conv=>whnf
   refine A0 vp ?_
   conv=>whnf
   refine A0 vq ?_
   conv=>whnf
   refine oH rfl hz ?_
   conv=>whnf
   refine A0 hcr ?_
   conv=>whnf
   refine A0 hred ?_;unfold VV;generalize F.redF (F.nn (a*d) (b*c)) (b*c).natAbs=r;generalize F.redE (F.nn (a*d) (b*c)) (b*c).natAbs=e;obtain⟨r1,r2⟩:=r;exact z33
instance:CS prog 128 (type_of% @Fv):=⟨@Fv⟩
instance:CS prog 109 (type_of% @KY):=⟨@KY⟩
instance:CS prog 126 (type_of% @MQ):=⟨@MQ⟩
instance:CS prog 125 (type_of% @MS):=⟨@MS⟩
instance:CS prog 124 (type_of% @MO):=⟨@MO⟩
instance:CS prog 127 (type_of% @MP):=⟨@MP⟩
end Go.Proofs.YthchnhoalhbkcaaGreatDoor.P
