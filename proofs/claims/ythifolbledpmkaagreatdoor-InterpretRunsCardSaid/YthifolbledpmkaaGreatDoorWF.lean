/- WF -/
import Derived.Test.YthifolbledpmkaaGreatDoorWC
import Derived.Test.YthifolbledpmkaaGreatDoorW0
import Derived.Test.YthifolbledpmkaaGreatDoorQD
import Derived.Test.YthifolbledpmkaaGreatDoorFD
import Derived.Lib.AppendZeros
import Derived.Lib.Walk
import Derived.Test.YthifolbledpmkaaGreatDoorChecked
import Derived.WalkKit
import Derived.Deep.LoopGhost
import Derived.Deep.Light
import Derived.Deep.RegionHeld3
import Derived.RegionTactic
import Derived.Test.YthifolbledpmkaaGreatDoorP3U
open List renaming map → φ
open List renaming length → Ξ
open Go.Proofs.Tryz
set_option linter.all false
open Option renaming none → κ
open Option renaming some → θ, none → κ
open Bool renaming false → ξ
open Option renaming some → θ
namespace Go.Proofs.YthifolbledpmkaaGreatDoor.P
open Go.Abs Go.Proofs
set_option maxRecDepth 100000
set_option maxHeartbeats 4000000
instance{b}:LS (λa s=>M3 b a s.1 s.2) 15 [] (λs=>[(0,.i s.1),(1,.i s.2)]) [] (λs=>[]):={}
instance:ja 318 (W2 RD):=⟨λ_ _ _ h=>uH func318⟩
instance:ja 227 (W1 Ee):=⟨λ_ _ h=>uH func227⟩
instance gd:ja 228 (W2 CK):=⟨λ_ _ _ h=>uH func228⟩
instance YaY:ja 137 (W2 H4):=⟨λ_ _ _ h=>uH func137⟩
instance U8:ja 219 (W1 LM):=⟨λ_ _ h=>by unfold LM at h;exact uH func219⟩
instance{b c d e}:LS (λa s=>IK b c d e a s.1 s.2) 108 [0,1,7,8,9,11,12,40,41,42,49,50] (λs=>[(51,.i s.1)]) [7,9,40] (λs=>[(12,Ho s.2,1)]):={}
instance:CS prog 130 (∀(g:Γ Int)(i:Γ Ω)(R:(Γ Aj)×Int)(h:Ij g i=some R),A9 prog 130 [.l 1 D.z g,.l 1 D.bool i] (.tup [.l 6 AO R.1,.i R.2])):=⟨λg i R h=>by
 refine TC [23] func130 ?_;unfold Ij at h;refine uJ h λh=>?_
 refine uJ h λh=>?_
 refine E5 h (λ_=>x6.h _ _ _ _ _ λa0 _ h=>U8.h a0 _ h) λl h=>?_;refine uJ h λh=>?_
 refine E5 h (λ_=>AM _ _) λm h=>?_;refine iD h (λ_=>DU _ _) λn h=>?_;refine iD h (λ_=>Ff _ _) λb h=>?_
 conv=>whnf
 refine z11 h (λp=>C9 108 [(0,.l 1 D.z g),(1,.l 1 D.bool i),(7,.sl 7 1),(8,.i p.1),(9,.ptr 9 1 0),(40,.sl 40 1),(41,.i (Ξ b:Int)),(42,.i p.2.1)] [(7,.row 6 159 (φ AO p.2.2.1),1),(9,GW p.2.2.2,1),(40,.row 1 3 (φ D.z b),1)]) CC λo q ⟨c,a,d,e⟩ h=>?_;simp only[LK]at h;refine Dn h (λh=>?_) λh=>?_
 ·refine T4 (f:=D.z) h GK λr j h=>?_;refine fk (f:=D.z) j GK ?_;refine Dd {p:Aj//PU c e d (o q) a p=some R} (λp=>C9 108 [(0,.l 1 D.z g),(1,.l 1 D.bool i),(7,.sl 7 1),(8,.i c),(9,.ptr 9 1 0),(12,.ptr 12 1 0),(40,.sl 40 1),(41,.i (Ξ b:Int)),(42,.i a)] [(7,.row 6 159 (φ AO d),1),(9,GW e,1),(12,Ho p.1,1),(40,.row 1 3 (φ D.z b),1)]) ?_ λp=>?_
  ·exact Ah
  obtain⟨k,h⟩:=p;exact Ah
 exact Ah⟩
instance{b c d}:LS (λa s=>Hn b c d a s.1 s.2) 89 [2,5,6,15,16,17,58,59] (λs=>[(60,.i s.1)]) [5,6,54] (λs=>[(57,.row 1 4 (φ D.bool s.2),1)]):={}
instance Yaj:jb 60 W5 LJ:=⟨λ_ _ _ _ _ _ _ h=>uH func60⟩
instance:jb 131 W3 N2:=⟨λ_ _ _ _ _ h=>uH func131⟩
instance q8:ja 222 (W1 Nn):=⟨λ_ _ h=>by unfold Nn at h;exact uH func222⟩
instance jc:ja 223 (W2 Yd):=⟨λ_ _ _ h=>by unfold Yd at h;exact uH func223⟩
instance:ja 133 (W2 N1):=⟨λg d R h=>by
 refine Vp [5] func133 (by kernel_rfl) ?_;unfold N1 at h;refine Dd {p:Unit//RP g d=some R} (λp=>C9 71 [(0,.l 1 D.z g),(1,.i d)] []) ?_ λp=>?_
 ·refine Dn h (λh=>?_) λh=>?_
  ·conv=>whnf
   exact z32
  refine Dn h (λh=>?_) λh=>?_
  ·exact z32
  refine E5 h (λ_=>x6.h _ _ _ _ _ λa0 _ h=>q8.h a0 _ h) λj h=>?_;refine Dn h (λh=>?_) λh=>?_
  ·conv=>whnf
   exact z32
  conv=>whnf
  exact⟨⟨(),h⟩,CC⟩
 obtain⟨_,h⟩:=p;simp only[RP]at h;refine E5 h (λ_=>AM _ _) λk h=>?_;refine iD h (λ_=>DU _ _) λa h=>?_
 conv=>whnf
 refine z11 h (λp=>C9 71 [(1,.i d),(7,.sl 7 1),(31,.sl 28 1),(32,.i (Ξ a:Int)),(33,.i p.1)] [(7,.row 2 162 (φ C7 p.2),1),(28,.row 1 3 (φ D.z a),1)]) CC λ_ _ ⟨e,i⟩ h=>?_;simp only[RN]at h;refine Dn h (λh=>?_) λh=>?_
 ·refine T4 (f:=D.z) h GK λl b h=>?_;refine fk (f:=D.z) b GK ?_;refine E5 h (λ_=>jc.h _ _ _) λm h=>?_;refine Dn h (λh=>?_) λh=>?_
  ·refine SU h λhr h=>?_;refine z12 ?_
   try rw[cG]
   exact z36
  refine T4 (f:=C7) h GK λn c h=>?_;refine fk (f:=C7) c GK ?_;refine Dn h (λh=>?_) λh=>?_
  ·conv=>whnf
   refine SU h λhr h=>?_;refine z12 ?_
   try rw[cG]
   exact z36
  exact z36
 conv=>whnf
 obtain rfl:=Zaf h;refine⟨.inl ?_⟩
 conv=>whnf
 exact⟨qv⟩⟩
instance{b c d e f g}:LS (λa s=>Og b c d e f g a s.1 s.2.1 s.2.2) 80 [2,3,5,6,14,15,35,36] (λs=>[(37,.i s.1)]) [5,6,35] (λs=>[(14,.row 1 3 (φ D.z s.2.1),1),(15,.row 1 3 (φ D.z s.2.2),1)]):={}
instance YaA:jb 61 W5 S4:=⟨λ_ _ _ _ _ _ _ h=>uH func61⟩
instance:ja 134 (W1 FH):=⟨λp R h=>by
 refine zaC func134 ?_;unfold FH at h;refine Wc h λh=>?_;refine E5 h (λ_=>x6.h _ _ _ _ _ λa0 _ h=>q8.h a0 _ h) λg h=>?_;refine Wc h λh=>?_;refine Wc h λh=>?_;refine E5 h (λ_=>AM _ _) λi h=>?_;refine iD h (λ_=>DU _ _) λj h=>?_
 conv=>whnf
 refine z17 ?_;refine T4 (f:=D.z) h GK λk a h=>?_;refine fk (f:=D.z) a GK ?_
 conv=>whnf
 refine⟨z0,?_⟩;refine T4 (f:=D.z) h GK λl b h=>?_;refine fk (f:=D.z) b GK ?_
 conv=>whnf
 refine⟨z0,?_⟩;refine T4 (f:=D.z) h GK λm c h=>?_;refine fk (f:=D.z) c GK ?_
 conv=>whnf
 refine⟨z0,?_⟩;refine T4 (f:=D.z) h GK λn d h=>?_;refine fk (f:=D.z) d GK ?_;refine T4 (f:=D.z) h GK λo e h=>?_;refine fk (f:=D.z) e GK ?_
 conv=>whnf
 obtain rfl:=Zaf h;exact⟨qv⟩⟩
instance qx:jb 62 W4 Tf:=⟨λ_ _ _ _ _ _ h=>uH func62⟩
instance:ja 229 (W2 GA):=⟨λ_ _ _ h=>uH func229⟩
instance Yaz:CS prog 224 (∀(d e:A1)(p2:Ao->Ao->Δ Ao)(a:FuncId)(b:Γ D)(R:A1×Int)(c:∀(a0 f:Ao) r,p2 a0 f=some r->A9 prog a ([.d (DJ a0),.d (DJ f)]++b.map .d) (.d (DJ r)))(h:G9 d e p2=some R),A9 prog 224 [.d (De d),.d (De e),.d (.fn a b)] (.tup [.d (De R.1),.i R.2])):=⟨λ_ _ _ _ _ _ h_p2 h=>uH func224⟩
instance x7:ja 135 (W2 L2):=⟨λb c R h=>by
 refine zaC func135 ?_;unfold L2 at h;refine E5 h (λ_=>Yaz.h _ _ _ _ _ _ λa0 a _ h=>kV.h a0 a _ h) λd h=>?_;exact Ah⟩
instance Ybf:ja 136 (W2 L3):=⟨λb c R h=>by
 refine zaC func136 ?_;unfold L3 at h;refine E5 h (λ_=>Yaz.h _ _ _ _ _ _ λa0 a _ h=>wH.h a0 a _ h) λd h=>?_;exact Ah⟩
instance Yaa:ja 138 (W2 Ji):=⟨λ_ _ _ h=>uH func138⟩
end Go.Proofs.YthifolbledpmkaaGreatDoor.P
namespace Go.Proofs.YthifolbledpmkaaGreatDoor.P.F
open Go.Abs Go.Proofs
/-- A number modulo 2^128. -/
def W(z:Int):D:=.agg [.int .u64 (Hi z),.int .u64 (Lo z)]
def whole_(n:Int)(a:-9223372036854775808<=n)(b:n<=9223372036854775807):A9 prog 206 [.d (.int .i64 n)] (.d (W n)):=Fk.h n _ (TD a b)
def plus_(a b:Int):A9 prog 225 [.d (W a),.d (W b)] (.d (W (a+b))):=kV.h (LY a) (LY b) _ (y5 a b)
def opposite_(a:Int):A9 prog 302 [.d (W a)] (.d (W (-a))):=qy.h (LY a) _ (Aag a)
def times_(a b:Int):A9 prog 228 [.d (W a),.d (W b)] (.d (W (a*b))):=gd.h (LY a) (LY b) _ (iA a b)
end Go.Proofs.YthifolbledpmkaaGreatDoor.P.F
namespace Go.Proofs.YthifolbledpmkaaGreatDoor.P
open Go Go.Abs Go.Proofs Go.Deep
set_option maxRecDepth 1000000
set_option maxHeartbeats 6400000
def iX(m:Γ (Γ Int))(b:Γ Int)(d n:Nat)(hm:Ξ m=n)(R:∀r,r<Ξ m->Ξ (m.getD r [])=n)(hcol:d<n)(hb:n<=1000000)(hbl:n<=Ξ b)(w:Λ)(ga:Δ Addr)(gb go Gc:Nat)(A:Nat->Δ Addr)(C RB RO:Nat->Nat)(v:Ψ)
 (Q:eZ w v m ga gb go Gc A C RB RO) (hgb:gb<w.heap.size) (S:∀r,r<Ξ m->∀c,c<n->RB r<w.heap.size) (T bo bc:Nat) (hbb:T<w.heap.size) (U:∀i,i<Ξ b->w.cell? ⟨T,bo+i,κ⟩=some (.int .i64 (b.getD i 0))):
 Calls prog 313 #[v,.int .i64 d,.slice (some ⟨T,bo,κ⟩) (Ξ b) bc] w λe w'=>e=.returned (.slice (some ⟨w.heap.size,0,κ⟩) n n)/\∃K,Mx w w' 35 3 n K (Vk m d b):=by
 have V:0<Ξ m:=z0
 obtain rfl:=Q.val;obtain rfl:=Q.ga V;have W:∀r,r<n->w.cell? ⟨gb,go+r,κ⟩=some (.slice (some ⟨RB r,RO r,κ⟩) n (C r)):=λr hr=>by rw[Q.row r z0,R r z0,(Q.cell r z0 0 (by rw[R r z0];omega)).1]
 have hA:∀r,r<n->∀c,c<n->w.cell? ⟨RB r,RO r+c,κ⟩=some (.int .i64 (Pk m r c)):=λr hr c hc=>(Q.cell r z0 c (by rw[R r z0];exact hc)).2
 have hz:∀r,r<n->∀i,n<=i->Pk m r i=0:=λr hr i hi=>by
  unfold Pk;rw[Zao,Zbj (by rw[R r z0];exact hi)];rfl
 rw[hm]at S ⊢;obtain⟨L,hL⟩:∃L,L=Ξ b:=⟨_,rfl⟩;rw[<-hL]at hbl U ⊢;clear Q R hm V hL;have X:=run_make_row' (P:=prog) 25 35 (.slice κ 0 0) 24 Ab7 Ab6 rfl .i64 .i64 n z0 z0
 go_enter func313,ntmps313
 go_wp2
 clear X
 go_loopg [15] n (λg i wr=>∃r:Nat,r<=n/\g=n-r/\i=.int .i64 r/\∃K,R6 w wr 35 3 n K (Vk m d b) r)
 case atStart=>exact⟨0,Zag _,rfl,rfl,λ_=>n,R6.start w _ _ n _ _⟩
 case round=>
  obtain⟨r,hr,rfl,rfl,K,M⟩:=hrel;by_cases s:r<n
  ·have hrz:(r:Int)<(n:Int):=z0
   have hsize:=M.size;have hRr:=S r s 0 z0;have g0:wr.cell? ⟨gb,go+r,κ⟩=some (.slice (some ⟨RB r,RO r,κ⟩) n (C r)):=by rw[M.since.cell (a:=⟨gb,go+r,κ⟩) hgb];exact W r s
   have hgr:gb≠wr.heap.size:=z0
   obtain⟨i0,hi0,hz0,Y,hzb⟩:=info_parts zl;obtain⟨vals,l⟩:∃vals:Γ Ψ,vals=(List.range n).map λc=>.int .i64 (Pk m r c):=⟨_,rfl⟩;have z:Ξ vals=n:=by rw[l];simp
   have D:Src prog i0.size 35 (.slice (some ⟨RB r,RO r,κ⟩) n (C r)) n vals wr:=by
    rw[Y];refine Src.ofSlice wr qe ⟨RB r,RO r,κ⟩ n (C r) vals (by rw[z];omega) (λj u Z=>?_) (λu hu=>?_)
    ·rw[l,Zaz]at Z;by_cases N:j<n
     ·rw[Zeg N]at Z;obtain rfl:=Zaf Z;rw[Addr.add_lit,M.since.cell (a:=⟨RB r,RO r+j,κ⟩) hRr];exact hA r s j N
     ·rw[Zbj (by simpa using N)]at Z
      cases Z
    ·rw[l]at hu;obtain⟨c,_,rfl⟩:=List.mem_map.1 hu;rfl
   have E:(Builtin.firstCells i0.size 0 (.slice κ 0 0)).run prog wr.drew=.ok ([]:Γ Ψ).toArray wr.drew:=by
    rw[Y];exact run_firstCells_none wr.drew 1 0 0 0
   obtain⟨G,hG⟩:∃G,G=grownCap wr (0+n) 0 3:=⟨_,rfl⟩;have hGn:n<=G:=by rw[hG];have:=grownCap_ge wr (0+n) 0 3;omega
   obtain⟨f,q⟩:∃f:Array Ψ,f=(([]:Γ Ψ)++vals).toArray++Builtin.zeroCells (Value.int .i64 0).cells (G-(0+n)):=⟨_,rfl⟩
   have F:∀ty,(Builtin.append_ #[35,35] ty #[.slice κ 0 0,.slice (some ⟨RB r,RO r,κ⟩) n (C r)]).run prog wr=.ok (.slice (some ⟨wr.heap.size,0,κ⟩) n G) (wr.drew.alloc (.cells f 3)):=λty=>by
    have h:=run_append_grow_src wr 35 35 ty 3 i0 _ qe hi0 hz0 κ 0 0 [] E _ n vals D z0 z0 (by rw[hzb];exact growslice_fits z0 z0);rw[<-hG,<-q,Zbn]at h;exact h
   have H:f.size=G:=by
    rw[q];simp[Builtin.zeroCells,Value.cells,z];omega
   have hRc:∀i,i<f.size->f[i]?=some (.int .i64 (Pk m r i)):=λi hi=>by
    rw[H]at hi;rw[q,Zgo];by_cases hin:i<n
    ·rw[Zbx (by simpa [z] using hin)];simp[l,hin]
    ·rw[Zeb (by simp[z];omega),hz r s i z0];exact mz _ _ _ (by simp[z];omega)
   have B:=World.rowIs_alloc wr f 3 (λc=>.int .i64 (Pk m r c)) hRc;rw[H]at B;have I:∀o,(wr.alloc o).cell? ⟨w.heap.size,r,κ⟩=some (.slice κ 0 0):=λo=>by simpa using(M.top.alloc o).cell s
   have J:∀o,(wr.alloc o).frozen? ⟨w.heap.size,r,κ⟩=false:=λo=>(M.top.alloc o).frozen r;have hst3:∀o,(wr.alloc o).drew.cell? ⟨w.heap.size,r,κ⟩=some (.slice κ 0 0):=I;have hst4:∀o,(wr.alloc o).drew.frozen? ⟨w.heap.size,r,κ⟩=false:=J;have t:=((M.congr (S':=λj c=>if j=r then Pk m j c else Vk m d b j c) λi j hi=>by simp only[show ¬i=r by omega,if_false]).step (u:=(wr.alloc (.cells f 3)).drew) hGn ⟨rfl,rfl,rfl,zs,λk hk=>blk_alloc_lt wr _ _ hk⟩ zs ((show(wr.alloc (.cells f 3)).drew.rowIs _ _ _ _ from B).congr λc _=>by rw[Zai rfl]));clear D E q hRc hG
   go_wp2_with (at_builtin;refine Lib.wpList_append_run _ rfl _ _ _ _ rfl _ _ rfl rfl _ _ (F _) ?_)
   obtain⟨W1,O⟩:∃W1,W1=((wr.alloc (.cells f 3)).setCell ⟨w.heap.size,r,κ⟩ (.slice (some ⟨w.heap.size+1+r,0,κ⟩) n G)).drew:=⟨_,rfl⟩;rw[<-O]
   replace t:R6 w W1 35 3 n (λj=>if j=r then G else K j) (λj c=>if j=r then Pk m j c else Vk m d b j c) (r+1):=by rw[O];exact t
   clear O I J hst3 hst4 B F;have g1:W1.cell? ⟨w.heap.size,r,κ⟩=some (.slice (some ⟨w.heap.size+1+r,0,κ⟩) n G):=by simpa using t.top.cell s
   have g2:W1.cell? ⟨T,bo+r,κ⟩=some (.int .i64 (b.getD r 0)):=by rw[t.since.cell (a:=⟨T,bo+r,κ⟩) hbb];exact U r z0
   have p:=t.row r z0;simp only[if_true]at p;have g3:W1.cell? ⟨w.heap.size+1+r,d,κ⟩=some (.int .i64 (Pk m r d)):=p.cell z0;have g4:W1.frozen? ⟨w.heap.size+1+r,d,κ⟩=false:=p.frozen d;have hcz:(d:Int)<(n:Int):=z0
   have hrL:(r:Int)<(L:Int):=z0
   clear p
   go_region
   all_goals
    go_wp2
    go_roundg (n-(r+1))
    case measure=>go_light;omega
    case rel=>
     go_light
     refine⟨r+1,z0,rfl,by go_num,λj=>if j=r then G else K j,?_⟩
     exact(t.set (i:=r) (j:=d) (S':=Vk m d b) (b[r]?.getD 0) λx y hx _=>by
      by_cases h1:x=r
      ·subst h1;by_cases h2:y=d
       ·subst h2;simp[Vk]
       ·simp[Vk,h2]
      ·simp[h1]).drew
  ·have hrz:¬((r:Int)<(n:Int)):=z0
   obtain rfl:r=n:=z0
   have hM:=M.done
   go_wp2
   go_ret
   exact⟨rfl,K,hM⟩
section
def wv(z:Int):Ψ:=.agg #[.int .u64 (F.Hi z),.int .u64 (F.Lo z)]
theorem lW{O:Nat->Prop}{w:Λ}(z:Int):A5 O w (wv z) (F.W z):=.agg _ _ rfl (λx hx=>by simp at hx;rcases hx with rfl|rfl<;>rfl) λi v x a hx=>by
 match i,a,hx with
 | 0,a,hx=>simp at a hx;subst a;subst hx;exact .int _ _
 | 1,a,hx=>simp at a hx;subst a;subst hx;exact .int _ _
 | i+2,a,hx=>simp at hx
def y6{O:Nat->Prop}{w:Λ}{v:Ψ}{z:Int}(h:A5 O w v (F.W z)):v=wv z:=by
 generalize hx:F.W z=x at h;unfold F.W at hx
 cases h<;>simp only[D.agg.injEq,reduceCtorEq]at hx
 case agg vs xs hl h1 h=>
  subst hx;have⟨l⟩:=vs
  match l,hl with
  | [a,b],_=>
    have c:=AP (h 0 a _ rfl rfl);have d:=AP (h 1 b _ rfl rfl);subst c;subst d;rfl
def Aa5{f:FuncId}{a b c:Int}(h:A9 prog f [.d (F.W a),.d (F.W b)] (.d (F.W c))){O:Nat->Prop}{w:Λ}(g:∀b,O b->b<w.heap.size)(j:Vo O w):
 Calls prog f #[wv a,wv b] w λe w'=>e=.returned (wv c)/\RowKit.Below w.heap.size w w':=
 (h.2 O w #[wv a,wv b] g j rfl λi v x d hx=>by
  match i,d,hx with
  | 0,d,hx=>simp at d hx;subst d;subst hx;exact lW a
  | 1,d,hx=>simp at d hx;subst d;subst hx;exact lW b
  | i+2,d,hx=>simp at hx).mono λe w' ⟨v,he,k,hr⟩=>⟨by rw[he,y6 hr],k⟩
def Aen{f:FuncId}{a c:Int}(h:A9 prog f [.d (F.W a)] (.d (F.W c))){O:Nat->Prop}{w:Λ}(g:∀b,O b->b<w.heap.size)(j:Vo O w):
 Calls prog f #[wv a] w λe w'=>e=.returned (wv c)/\RowKit.Below w.heap.size w w':=
 (h.2 O w #[wv a] g j rfl λi v x d hx=>by
  match i,d,hx with
  | 0,d,hx=>simp at d hx;subst d;subst hx;exact lW a
  | i+1,d,hx=>simp at hx).mono λe w' ⟨v,he,k,hr⟩=>⟨by rw[he,y6 hr],k⟩
def Aa4{f:FuncId}{n c:Int}(h:A9 prog f [.d (.int .i64 n)] (.d (F.W c))){O:Nat->Prop}{w:Λ}(d:∀b,O b->b<w.heap.size)(g:Vo O w):
 Calls prog f #[.int .i64 n] w λe w'=>e=.returned (wv c)/\RowKit.Below w.heap.size w w':=
 (h.2 O w #[.int .i64 n] d g rfl λi v x a hx=>by
  match i,a,hx with
  | 0,a,hx=>simp at a hx;subst a;subst hx;exact .int _ _
  | i+1,a,hx=>simp at hx).mono λe w' ⟨v,he,j,hr⟩=>⟨by rw[he,y6 hr],j⟩
structure VS(w0 w:World)(mv:Value)(n:Nat)(tk:List Bool)(s:Int):Prop where
 since:w0.Since w0.heap.size w
 size:w0.heap.size+6<=w.heap.size
 m:w.cell? ⟨w0.heap.size,0,none⟩=some mv
 s0:w.cell? ⟨w0.heap.size+2,0,none⟩=some (.int .u64 (F.Hi s))
 s1:w.cell? ⟨w0.heap.size+2,1,none⟩=some (.int .u64 (F.Lo s))
 fs:∀j,w.frozen? ⟨w0.heap.size+2,j,none⟩=false
 t:w.cell? ⟨w0.heap.size+4,0,none⟩=some (.slice (some ⟨w0.heap.size+3,0,none⟩) n n)
 v:w.cell? ⟨w0.heap.size+5,0,none⟩=some (.func (.func 362) #[] #[.pointer (some ⟨w0.heap.size,0,none⟩),.pointer (some ⟨w0.heap.size+2,0,none⟩),.pointer (some ⟨w0.heap.size+4,0,none⟩),.pointer (some ⟨w0.heap.size+5,0,none⟩)])
 k:w.rowIs (w0.heap.size+3) 4 n λi=>.bool (tk.getD i true)
section
variable {w0 w w':Λ} {mv:Ψ} {n:Nat} {tk:Γ Ω} {s:Int}
def VS.drew(h:VS w0 w mv n tk s):VS w0 w.drew mv n tk s:=⟨h.since.drew,h.size,h.m,h.s0,h.s1,h.fs,h.t,h.v,h.k⟩
def VS.keep(h:VS w0 w mv n tk s)(c:w.Since w.heap.size w'):VS w0 w' mv n tk s:=by
 have e:=h.size;have d:∀b o,b<w0.heap.size+6->w'.cell? ⟨b,o,κ⟩=w.cell? ⟨b,o,κ⟩:=λb o f=>c.cell (a:=⟨b,o,κ⟩) (by show b<w.heap.size;omega);refine⟨h.since.trans ⟨c.os,c.tape,c.output,c.size,λk g=>c.block k z0⟩,Zbl h.size c.size,by rw[d _ _ z0];exact h.m,by rw[d _ _ z0];exact h.s0,by rw[d _ _ z0];exact h.s1,λj=>?_,by rw[d _ _ z0];exact h.t,by rw[d _ _ z0];exact h.v,h.k.of_block (c.block _ z0)⟩;rw[c.frozen (a:=⟨w0.heap.size+2,j,κ⟩) (by show w0.heap.size+2<w.heap.size;omega)];exact h.fs j
def XD{B:Nat}(h:RowKit.Below B w w'):w.Since B w':=⟨h.os,h.tape,h.output,h.size,λi a=>h.block i a⟩
def VS.take(h:VS w0 w mv n tk s){i:Nat}(b:Ω)(d:i<Ξ tk):VS w0 (w.setCell ⟨w0.heap.size+3,i,κ⟩ (.bool b)) mv n (tk.set i b) s:=by
 have a:∀c o,c≠w0.heap.size+3->(w.setCell ⟨w0.heap.size+3,i,κ⟩ (.bool b)).cell? ⟨c,o,κ⟩=w.cell? ⟨c,o,κ⟩:=λc o a=>World.cell?_setCell_other _ _ _ _ λe=>a (congrArg Addr.block e).symm;refine⟨h.since.setCell (by show w0.heap.size<=w0.heap.size+3;omega) _,by simpa using h.size,by rw[a _ _ z0];exact h.m,by rw[a _ _ z0];exact h.s0,by rw[a _ _ z0];exact h.s1,λj=>by simpa using h.fs j,by rw[a _ _ z0];exact h.t,by rw[a _ _ z0];exact h.v,(h.k.set i _).congr λj g=>?_⟩;by_cases e:j=i;subst e;simp[Zao,d];have f:i≠j:=λx=>e x.symm;simp[e,f,Zao]
def Y1{O:Nat->Prop}(c:∀b,O b->b<w0.heap.size)(d:Vo O w0)(h:w0.Since w0.heap.size w):(∀b,O b->b<w.heap.size)/\Vo O w:=
 ⟨λb a=>Zbc (c b a) h.size,λg cs e=>(d g cs e).mono ⟨h.size,λb _ a=>a,λb a _=>h.block b a⟩⟩
def VS.alloc(h:VS w0 w mv n tk s)(o:Obj):VS w0 (w.alloc o) mv n tk s:=h.keep ((World.Since.refl _ _).alloc (Zam _) o)
def VS.sum(h:VS w0 w mv n tk s)(z:Int):VS w0 ((w.setCell ⟨w0.heap.size+2,0,κ⟩ (.int .u64 (F.Hi z))).setCell ⟨w0.heap.size+2,1,κ⟩ (.int .u64 (F.Lo z))) mv n tk z:=by
 have a:∀c o,c≠w0.heap.size+2->((w.setCell ⟨w0.heap.size+2,0,κ⟩ (.int .u64 (F.Hi z))).setCell ⟨w0.heap.size+2,1,κ⟩ (.int .u64 (F.Lo z))).cell? ⟨c,o,κ⟩=w.cell? ⟨c,o,κ⟩:=λc o a=>by
  rw[World.cell?_setCell_other _ _ _ _ λe=>a (congrArg Addr.block e).symm,World.cell?_setCell_other _ _ _ _ λe=>a (congrArg Addr.block e).symm]
 refine⟨(h.since.setCell (by show w0.heap.size<=w0.heap.size+2;omega) _).setCell (by show w0.heap.size<=w0.heap.size+2;omega) _,by simpa using h.size,by rw[a _ _ z0];exact h.m,?_,?_,λj=>by simpa using h.fs j,by rw[a _ _ z0];exact h.t,by rw[a _ _ z0];exact h.v,(h.k.setOther (by show w0.heap.size+3≠w0.heap.size+2;omega) _).setOther (by show w0.heap.size+3≠w0.heap.size+2;omega) _⟩;rw[World.cell?_setCell_other _ _ _ _ (λe=>by have:=congrArg Addr.off e;simp at this)];exact World.cell?_setCell_same _ _ _ (by rw[h.s0]);exact World.cell?_setCell_same _ _ _ (by rw[World.cell?_setCell_other _ _ _ _ (λe=>by have:=congrArg Addr.off e;simp at this),h.s1])
end
structure LP(w0 w wr:World)(mv:Value)(n:Nat)(tk:List Bool)(s p:Int):Prop where
 vs:VS w0 wr mv n tk s
 below:w0.heap.size+6<=w.heap.size
 size:w.heap.size+1<=wr.heap.size
 p0:wr.cell? ⟨w.heap.size,0,none⟩=some (.int .u64 (F.Hi p))
 p1:wr.cell? ⟨w.heap.size,1,none⟩=some (.int .u64 (F.Lo p))
 fp:∀j,wr.frozen? ⟨w.heap.size,j,none⟩=false
 block:∀k,k<w.heap.size->k≠w0.heap.size+2->k≠w0.heap.size+3->wr.heap[k]?=w.heap[k]?
section
variable {w0 w wr u:Λ} {mv:Ψ} {n:Nat} {tk:Γ Ω} {s p:Int}
def LP.start{T:Υ}(h:VS w0 w mv n tk s):LP w0 w (w.alloc (.cells #[.int .u64 (F.Hi p),.int .u64 (F.Lo p)] T)) mv n tk s p:=
 ⟨h.alloc _,h.size,zs,by rw[World.cell?_alloc_at _ _ _ _ rfl];rfl,by rw[World.cell?_alloc_at _ _ _ _ rfl];rfl,λj=>World.frozen?_alloc_at _ _ _ _ rfl,λk a _ _=>blk_alloc_lt _ _ _ a⟩
def LP.drew(h:LP w0 w wr mv n tk s p):LP w0 w wr.drew mv n tk s p:=⟨h.vs.drew,h.below,h.size,h.p0,h.p1,h.fp,h.block⟩
def LP.via(h:LP w0 w wr mv n tk s p){a:Γ Ω}{c:Int}(g:VS w0 u mv n a c)(i:wr.heap.size<=u.heap.size)(d:∀k,k<wr.heap.size->k≠w0.heap.size+2->k≠w0.heap.size+3->u.heap[k]?=wr.heap[k]?):LP w0 w u mv n a c p:=by
 have l:=h.below;have h1:=h.size;have b:=d w.heap.size z0 z0 z0;exact⟨g,h.below,z0,by rw[World.cell?_of_block (w:=wr) b];exact h.p0,by rw[World.cell?_of_block (w:=wr) b];exact h.p1,λj=>by rw[World.frozen?_of_block (w:=wr) b];exact h.fp j,λk h2 e f=>(d k z0 e f).trans (h.block k h2 e f)⟩
def LP.keep(h:LP w0 w wr mv n tk s p)(a:RowKit.Below wr.heap.size wr u):LP w0 w u mv n tk s p:=h.via (h.vs.keep (XD a)) a.size λk b _ _=>a.block k b
def LP.take(h:LP w0 w wr mv n tk s p){i:Nat}(b:Ω)(a:i<Ξ tk):LP w0 w (wr.setCell ⟨w0.heap.size+3,i,κ⟩ (.bool b)) mv n (tk.set i b) s p:=
 h.via (h.vs.take b a) zs λk _ _ c=>blk_setCell_other _ _ _ _ (by show k≠w0.heap.size+3;exact c)
def LP.held(h:LP w0 w wr mv n tk s p):wr.cell? ⟨w0.heap.size+5,0,κ⟩=θ (.func (.func 362) #[] #[.pointer (θ ⟨w0.heap.size,0,κ⟩),.pointer (θ ⟨w0.heap.size+2,0,κ⟩),.pointer (θ ⟨w0.heap.size+4,0,κ⟩),.pointer (θ ⟨w0.heap.size+5,0,κ⟩)]) /\
 wr.cell? ⟨w.heap.size,0,κ⟩=θ (.int .u64 (F.Hi p))/\wr.cell? ⟨w.heap.size,1,κ⟩=θ (.int .u64 (F.Lo p)):=⟨h.vs.v,h.p0,h.p1⟩
def LP.prod(h:LP w0 w wr mv n tk s p)(q:Int):LP w0 w ((wr.setCell ⟨w.heap.size,0,κ⟩ (.int .u64 (F.Hi q))).setCell ⟨w.heap.size,1,κ⟩ (.int .u64 (F.Lo q))) mv n tk s q:=by
 have m:=h.below;have h1:=h.size
 have d:∀c,c≠w.heap.size->((wr.setCell ⟨w.heap.size,0,κ⟩ (.int .u64 (F.Hi q))).setCell ⟨w.heap.size,1,κ⟩ (.int .u64 (F.Lo q))).heap[c]?=wr.heap[c]?:=λc d=>by
  rw[blk_setCell_other _ _ _ _ (by show c≠w.heap.size;exact d),blk_setCell_other _ _ _ _ (by show c≠w.heap.size;exact d)]
 have a:=h.vs;have f:∀b o,b≠w.heap.size->((wr.setCell ⟨w.heap.size,0,κ⟩ (.int .u64 (F.Hi q))).setCell ⟨w.heap.size,1,κ⟩ (.int .u64 (F.Lo q))).cell? ⟨b,o,κ⟩=wr.cell? ⟨b,o,κ⟩:=λb o g=>World.cell?_of_block (w:=wr) (d b g);refine⟨⟨(a.since.setCell (by show w0.heap.size<=w.heap.size;omega) _).setCell (by show w0.heap.size<=w.heap.size;omega) _,by simpa using a.size,by rw[f _ _ z0];exact a.m,by rw[f _ _ z0];exact a.s0,by rw[f _ _ z0];exact a.s1,λj=>by simpa using a.fs j,by rw[f _ _ z0];exact a.t,by rw[f _ _ z0];exact a.v,a.k.of_block (d _ z0)⟩,h.below,by simpa using h.size,?_,?_,λj=>by simpa using h.fp j,λk i h2 l=>by rw[d k z0];exact h.block k i h2 l⟩;rw[World.cell?_setCell_other _ _ _ _ (λe=>by have:=congrArg Addr.off e;simp at this)];exact World.cell?_setCell_same _ _ _ (by rw[h.p0]);exact World.cell?_setCell_same _ _ _ (by rw[World.cell?_setCell_other _ _ _ _ (λe=>by have:=congrArg Addr.off e;simp at this),h.p1])
end
theorem lw(rs:Γ (Γ Int))(a:Γ Ω):∀(xs:Γ Int)(k:Nat)(p s:Int),Md.go rs a xs k p s=s+Md.go rs a xs k p 0
 | [],_,_,s=>by simp[Md.go]
 | x::xs,k,p,s=>by
   simp only[Md.go]
   cases a.getD k true with
   | true=>exact lw rs a xs (k+1) p s
   | false=>
     simp only[Zaq];rw[lw rs a xs (k+1) (-p) (bif x==0 then s else s+Md rs (a.set k true) (p*x)),lw rs a xs (k+1) (-p) (bif x==0 then 0 else 0+Md rs (a.set k true) (p*x))]
     cases x==0<;>simp only[Zav,Zaq]<;>omega
theorem qK{O:Nat->Prop}(w0:Λ)(L:∀b,O b->b<w0.heap.size)(M:Vo O w0)(m:Γ (Γ Int))(n:Nat)(y:Ξ m=n)(hn:∀r,r<Ξ m->Ξ (m.getD r [])=n)(hi:∀r c,-9223372036854775808<=Pk m r c/\Pk m r c<=9223372036854775807)(t:n<=1000)
 (ga:Δ Addr) (gb go Gc:Nat) (A:Nat->Δ Addr) (C RB RO:Nat->Nat) (mv:Ψ) (P:eZ w0 mv m ga gb go Gc A C RB RO) (hgb:gb<w0.heap.size) (hRB:∀r,r<Ξ m->∀c,c<n->RB r<w0.heap.size)
 (H:∀x,-9223372036854775808<=x->x<=9223372036854775807->A9 prog 206 [.d (.int .i64 x)] (.d (F.W x)))
 (I:∀a b,A9 prog 228 [.d (F.W a),.d (F.W b)] (.d (F.W (a*b))))
 (Z:∀a,A9 prog 302 [.d (F.W a)] (.d (F.W (-a))))
 (Q:∀a b,A9 prog 225 [.d (F.W a),.d (F.W b)] (.d (F.W (a+b)))):
 ∀(rs:Γ (Γ Int))(row:Nat),m.drop row=rs->row<=n->∀d p s w,Ξ d=n->VS w0 w mv n d s->
  Calls prog 362 #[.int .i64 row,wv p,.pointer (θ ⟨w0.heap.size,0,κ⟩),.pointer (θ ⟨w0.heap.size+2,0,κ⟩),.pointer (θ ⟨w0.heap.size+4,0,κ⟩),.pointer (θ ⟨w0.heap.size+5,0,κ⟩)] w λe w'=>
   e=.returned (.tuple #[])/\VS w0 w' mv n d (s+Md rs d p)/\w.heap.size<=w'.heap.size/\∀k,k<w.heap.size->k≠w0.heap.size+2->k≠w0.heap.size+3->w'.heap[k]?=w.heap[k]?:=by
 intro rs
 induction rs with
 | nil=>
   intro row hd hrow d p s w htk R
   have hrn:row=n:=by
    have:=congrArg List.length hd;simp at this;omega
   subst hrn;obtain rfl:=P.val;rw[y]at R;have z:=λo=>R.alloc o;have h1:=λo=>(z o).m;have h2:=λo=>(z o).s0;have h3:=λo=>(z o).s1
   have v:∀o,Calls prog 225 #[wv s,wv p] (w.alloc o) λe w'=>e=.returned (wv (s+p))/\RowKit.Below (w.alloc o).heap.size (w.alloc o) w':=λo=>
    Aa5 (Q s p) (Y1 L M (z o).since).1 (Y1 L M (z o).since).2
   unfold wv at v ⊢
   go_enter func362,ntmps362
   go_wp2_with (go_at_call 225;refine(v _).mono ?_;rintro e w2 ⟨rfl,S⟩;have B:=(z _).keep (XD S);have q1:=B.s0;have q2:=B.s1;have q3:=B.fs 0;have q4:=B.fs 1;clear h1 h2 h3 v)
   first|go_end0|(refine bodyPost_ret (results_none rfl _ _ _) rfl ?_)
   refine⟨rfl,by rw[y];simpa [Md] using B.sum (s+p),?_,λk hk h2 _=>?_⟩;have:=S.size;simp at this ⊢;omega;rw[blk_setCell_other _ _ _ _ (by show k≠w0.heap.size+2;exact h2),blk_setCell_other _ _ _ _ (by show k≠w0.heap.size+2;exact h2),S.block k zv,blk_alloc_lt _ _ _ hk]
 | cons r rs ih=>
   intro row hd hrow d p s w htk R
   have hrn:row<n:=by
    have:=congrArg List.length hd;simp at this;omega
   have hg:m.getD row []=r:=by
    have:=congrArg (λl=>l[0]?) hd;simp at this;simp[Zao,this]
   have hd':m.drop (row+1)=rs:=by
    have:=congrArg List.tail hd;simpa using this
   have U:Ξ r=n:=by rw[<-hg];exact hn row z0
   obtain rfl:=P.val;obtain rfl:=P.ga z0;rw[y]at R;have hbl:=hRB row z0 0 z0;have V:w0.cell? ⟨gb,go+row,κ⟩=θ (.slice (θ ⟨RB row,RO row,κ⟩) n (C row)):=by rw[P.row row z0,hg,U,(P.cell row z0 0 (by rw[hg,U];omega)).1]
   have W:∀c,c<n->w0.cell? ⟨RB row,RO row+c,κ⟩=θ (.int .i64 (Pk m row c)):=λc hc=>(P.cell row z0 c (by rw[hg,U];exact hc)).2;have N:=λT=>LP.start (T:=T) (p:=p) R
   have hI:∀d p s w,Ξ d=n->VS w0 w (.slice (θ ⟨gb,go,κ⟩) n Gc) n d s->Calls prog 362 #[.int .i64 ((row:Int)+1),wv p,.pointer (θ ⟨w0.heap.size,0,κ⟩),.pointer (θ ⟨w0.heap.size+2,0,κ⟩),.pointer (θ ⟨w0.heap.size+4,0,κ⟩),.pointer (θ ⟨w0.heap.size+5,0,κ⟩)] w λe w'=>
    e=.returned (.tuple #[])/\VS w0 w' (.slice (θ ⟨gb,go,κ⟩) n Gc) n d (s+Md rs d p)/\w.heap.size<=w'.heap.size/\∀k,k<w.heap.size->k≠w0.heap.size+2->k≠w0.heap.size+3->w'.heap[k]?=w.heap[k]?:=λd p s w h1 h2=>by
    have:=ih (row+1) hd' z0 d p s w h1 (by rw[y];exact h2);rw[y]at this;exact this
   rw[y];have HI:Aside _:=hI;clear ih hI P;have h1:∀o,(w.alloc o).cell? ⟨w0.heap.size,0,κ⟩=θ (.slice (θ ⟨gb,go,κ⟩) n Gc):=λo=>(R.alloc o).m;have h2:∀o,(w.alloc o).cell? ⟨gb,go+row,κ⟩=θ (.slice (θ ⟨RB row,RO row,κ⟩) n (C row)):=λo=>by rw[(R.alloc o).since.cell (a:=⟨gb,go+row,κ⟩) hgb];exact V
   have hne:((row:Int)==(n:Int))=false:=beq_eq_false_iff_ne.2 z0;have hrz:(row:Int)<(n:Int):=z0;have eW:wv p=.agg #[.int .u64 (F.Hi p),.int .u64 (F.Lo p)]:=rfl;rw[eW];clear eW
   go_enter func362,ntmps362
   go_wp2_with fail
   have hLP:=N 270;clear h1 h2 N
   go_loopg [22] n (λg i wr=>∃(k:Nat)(p' s':Int),k<=n/\g=n-k/\i=.int .i64 k/\Aside (LP w0 w wr (.slice (θ ⟨gb,go,κ⟩) n Gc) n d s' p'/\Md.go rs d (r.drop k) k p' s'=s+Md (r::rs) d p))
   case atStart=>exact⟨0,p,s,Zag _,rfl,rfl,hLP,by rw[List.drop_zero,lw,Md]⟩
   case round=>
    clear hLP;obtain⟨k,p',s',hk,rfl,rfl,hA⟩:=hrel;have⟨D,q⟩:=hA.out;by_cases X:k<n;have hkz:(k:Int)<(n:Int):=z0;have g1:wr.cell? ⟨RB row,RO row+k,κ⟩=θ (.int .i64 (Pk m row k)):=by rw[D.vs.since.cell (a:=⟨RB row,RO row+k,κ⟩) hbl];exact W k X
    have g2:=D.vs.t;have g3:=D.vs.k.cell X;have hzk:Pk m row k=r.getD k 0:=by unfold Pk;rw[hg]
    have E:r.drop k=Pk m row k::r.drop (k+1):=by rw[hzk,Zgj z0];simp[Zao,show k<Ξ r by omega]
    rw[E]at q;simp only[Md.go]at q;have Y:=hi row k;generalize Pk m row k=x at g1 q Y;have HG:Aside _:=q;clear q E hzk hA
    cases t:d.getD k true with
    | true=>
      rw[t]at g3
      go_wp2_with fail
      go_roundg (n-(k+1))
      case measure=>go_light;omega
      case rel=>
       go_light
       have:=HG.out;rw[t]at this;exact⟨k+1,p',s',z0,rfl,by go_num,D,this⟩
    | false=>
      rw[t]at g3
      have J:∀u d s,LP w0 w u (.slice (θ ⟨gb,go,κ⟩) n Gc) n d s p'->Calls prog 302 #[.agg #[.int .u64 (F.Hi p'),.int .u64 (F.Lo p')]] u λe u'=>e=.returned (.agg #[.int .u64 (F.Hi (-p')),.int .u64 (F.Lo (-p'))])/\LP w0 w u' (.slice (θ ⟨gb,go,κ⟩) n Gc) n d s p':=λu d s h=>
       (Aen (Z p') (Y1 L M h.vs.since).1 (Y1 L M h.vs.since).2).mono λe u' ⟨he,t⟩=>⟨he,h.keep t⟩
      cases hx:x==0 with
      | true=>
        have hx2:(x != 0)=false:=by simp only[bne,hx];rfl
        have q1:=D.p0;have q2:=D.p1
        go_wp2_with (go_at_call 302;refine(J _ _ _ D).mono ?_;rintro e w2 ⟨rfl,f⟩;have r1:=f.p0;have r2:=f.p1;have r3:=f.fp 0;have r4:=f.fp 1;clear q1 q2 J)
        go_roundg (n-(k+1))
        case measure=>go_light;omega
        case rel=>
         go_light
         have:=HG.out;rw[t,hx]at this;exact⟨k+1,-p',s',z0,rfl,by go_num,f.prod _,this⟩
      | false=>
        have hx2:(x != 0)=true:=by simp only[bne,hx];rfl
        have G:k<Ξ d:=z0;have hL1:=D.take true G;have g4:=D.vs.k.frozen k
        go_wp2_with fail
        generalize wr.setCell ⟨w0.heap.size+3,k,κ⟩ (.bool true)=w1 at hL1 ⊢;clear g1 g2 g3 g4 D;have hL1d:=hL1.drew;have hI:=HI.out
        have cW:∀u d s,LP w0 w u (.slice (θ ⟨gb,go,κ⟩) n Gc) n d s p'->Calls prog 206 #[.int .i64 x] u λe u'=>e=.returned (.agg #[.int .u64 (F.Hi x),.int .u64 (F.Lo x)])/\LP w0 w u' (.slice (θ ⟨gb,go,κ⟩) n Gc) n d s p':=λu d s h=>
         (Aa4 (H x Y.1 Y.2) (Y1 L M h.vs.since).1 (Y1 L M h.vs.since).2).mono λe u' ⟨he,t⟩=>⟨he,h.keep t⟩
        have cT:∀u d s,LP w0 w u (.slice (θ ⟨gb,go,κ⟩) n Gc) n d s p'->Calls prog 228 #[.agg #[.int .u64 (F.Hi p'),.int .u64 (F.Lo p')],.agg #[.int .u64 (F.Hi x),.int .u64 (F.Lo x)]] u λe u'=>e=.returned (.agg #[.int .u64 (F.Hi (p'*x)),.int .u64 (F.Lo (p'*x))])/\LP w0 w u' (.slice (θ ⟨gb,go,κ⟩) n Gc) n d s p':=λu d s h=>
         (Aa5 (I p' x) (Y1 L M h.vs.since).1 (Y1 L M h.vs.since).2).mono λe u' ⟨he,t⟩=>⟨he,h.keep t⟩
        have cV:∀u s,LP w0 w u (.slice (θ ⟨gb,go,κ⟩) n Gc) n (d.set k true) s p'->Calls prog 362 #[.int .i64 (IntKind.i64.wrap ((row:Int)+1)),.agg #[.int .u64 (F.Hi (p'*x)),.int .u64 (F.Lo (p'*x))],.pointer (θ ⟨w0.heap.size,0,κ⟩),.pointer (θ ⟨w0.heap.size+2,0,κ⟩),.pointer (θ ⟨w0.heap.size+4,0,κ⟩),.pointer (θ ⟨w0.heap.size+5,0,κ⟩)] u λe u'=>e=.returned (.tuple #[])/\LP w0 w u' (.slice (θ ⟨gb,go,κ⟩) n Gc) n (d.set k true) (s+Md rs (d.set k true) (p'*x)) p':=λu s h=>by
         rw[show IntKind.i64.wrap ((row:Int)+1)=(row:Int)+1 by rw[IntKind.wrap_i64];omega];exact(hI (d.set k true) (p'*x) s u (by simp[htk]) h.vs).mono λe u' ⟨he,hv,hz,t⟩=>⟨he,h.via hv hz t⟩
        clear hI
        go_region_held3 (λu=>u.cell? ⟨w0.heap.size+5,0,κ⟩=θ (.func (.func 362) #[] #[.pointer (θ ⟨w0.heap.size,0,κ⟩),.pointer (θ ⟨w0.heap.size+2,0,κ⟩),.pointer (θ ⟨w0.heap.size+4,0,κ⟩),.pointer (θ ⟨w0.heap.size+5,0,κ⟩)]) /\
         u.cell? ⟨w.heap.size,0,κ⟩=θ (.int .u64 (F.Hi p'))/\u.cell? ⟨w.heap.size,1,κ⟩=θ (.int .u64 (F.Lo p'))) (exact LP.held (by assumption))
         (first
          | (go_at_call 206;refine(cW _ _ _ (by assumption)).mono ?_;rintro e u ⟨rfl,h⟩)
          | (go_at_call 228;refine(cT _ _ _ (by assumption)).mono ?_;rintro e u ⟨rfl,h⟩)
          | (go_at_call 362;refine(cV _ _ (by assumption)).mono ?_;rintro e u ⟨rfl,h⟩))
        have B:=h.vs.t
        have hV3:u.cell? ⟨w0.heap.size+3,k,κ⟩=θ (.bool true):=by
         have:=h.vs.k.cell X;simpa [Zao,G] using this
        have hV4:=h.vs.k.frozen k;have K:=h.take false (i:=k) (by simp[G])
        have etk:(d.set k true).set k false=d:=by
         apply Zdv;intro j;by_cases e:k=j;subst e;have:d[k]=false:=by simpa [Zao,G] using t
         simp[G,this];simp[e]
        rw[etk]at K;have q1:=K.p0;have q2:=K.p1;clear etk cV cW cT
        go_wp2_with (go_at_call 302;refine(J _ _ _ K).mono ?_;rintro e w2 ⟨rfl,f⟩;have r1:=f.p0;have r2:=f.p1;have r3:=f.fp 0;have r4:=f.fp 1;clear q1 q2 J)
        go_roundg (n-(k+1))
        case measure=>go_light;omega
        case rel=>
         go_light
         have:=HG.out;rw[t,hx]at this;exact⟨k+1,-p',_,z0,rfl,by go_num,f.prod _,this⟩
    have hkz:¬((k:Int)<(n:Int)):=z0
    go_wp2_with fail
    first|go_end0|(refine bodyPost_ret (results_none rfl _ _ _) rfl ?_)
    have:k=n:=z0;subst this;rw[Zfn z0]at q;simp only[Md.go]at q;refine⟨rfl,by rw[<-q];exact D.vs,by have:=D.size;omega,D.block⟩
end
def Afj:prog.underlying 215=θ (TypeDesc.slice 4):=by kernel_rfl
def Afi:(prog.info? 4).map (λi=>(i.zero,i.size,i.bytes))=θ (θ (Value.bool ξ),1,1):=by kernel_rfl
def tu(w0:Λ)(mv:Ψ)(n:Nat)(u:Γ Ω)(r:∀i,i<n->u.getD i true=ξ)(h f l m p:Υ)(g:Array Ψ):
 VS w0 ((((((w0.alloc (.cells #[mv] h)).alloc (.cells g f)).alloc (.cells #[.int .u64 0,.int .u64 0] l)).alloc (.cells (madeCells #[.bool ξ] n) 4)).alloc (.cells #[.slice (θ ⟨w0.heap.size+3,0,κ⟩) n n] m)).alloc (.cells #[.func (.func 362) #[] #[.pointer (θ ⟨w0.heap.size,0,κ⟩),.pointer (θ ⟨w0.heap.size+2,0,κ⟩),.pointer (θ ⟨w0.heap.size+4,0,κ⟩),.pointer (θ ⟨w0.heap.size+5,0,κ⟩)]] p)) mv n u 0 /\
 ((((((w0.alloc (.cells #[mv] h)).alloc (.cells g f)).alloc (.cells #[.int .u64 0,.int .u64 0] l)).alloc (.cells (madeCells #[.bool ξ] n) 4)).alloc (.cells #[.slice (θ ⟨w0.heap.size+3,0,κ⟩) n n] m)).alloc (.cells #[.func (.func 362) #[] #[.pointer (θ ⟨w0.heap.size,0,κ⟩),.pointer (θ ⟨w0.heap.size+2,0,κ⟩),.pointer (θ ⟨w0.heap.size+4,0,κ⟩),.pointer (θ ⟨w0.heap.size+5,0,κ⟩)]] p)).heap[w0.heap.size+1]?=θ (.cells g f (0,0)) /\
 w0.heap.size+6=((((((w0.alloc (.cells #[mv] h)).alloc (.cells g f)).alloc (.cells #[.int .u64 0,.int .u64 0] l)).alloc (.cells (madeCells #[.bool ξ] n) 4)).alloc (.cells #[.slice (θ ⟨w0.heap.size+3,0,κ⟩) n n] m)).alloc (.cells #[.func (.func 362) #[] #[.pointer (θ ⟨w0.heap.size,0,κ⟩),.pointer (θ ⟨w0.heap.size+2,0,κ⟩),.pointer (θ ⟨w0.heap.size+4,0,κ⟩),.pointer (θ ⟨w0.heap.size+5,0,κ⟩)]] p)).heap.size:=by
 have a:∀(W:Λ)(o:Obj) k,k<W.heap.size->(W.alloc o).heap[k]?=W.heap[k]?:=λW o k s=>blk_alloc_lt W o k s;obtain⟨W1,h1⟩:∃W,W=w0.alloc (.cells #[mv] h):=⟨_,rfl⟩;obtain⟨W2,h2⟩:∃W,W=W1.alloc (.cells g f):=⟨_,rfl⟩;obtain⟨W3,c⟩:∃W,W=W2.alloc (.cells #[.int .u64 0,.int .u64 0] l):=⟨_,rfl⟩;obtain⟨W4,e⟩:∃W,W=W3.alloc (.cells (madeCells #[.bool ξ] n) 4):=⟨_,rfl⟩;obtain⟨W5,d⟩:∃W,W=W4.alloc (.cells #[.slice (θ ⟨w0.heap.size+3,0,κ⟩) n n] m):=⟨_,rfl⟩;obtain⟨W6,b⟩:∃W,W=W5.alloc (.cells #[.func (.func 362) #[] #[.pointer (θ ⟨w0.heap.size,0,κ⟩),.pointer (θ ⟨w0.heap.size+2,0,κ⟩),.pointer (θ ⟨w0.heap.size+4,0,κ⟩),.pointer (θ ⟨w0.heap.size+5,0,κ⟩)]] p):=⟨_,rfl⟩;rw[<-h1,<-h2,<-c,<-e,<-d,<-b];have v:W1.heap.size=w0.heap.size+1:=by rw[h1];simp
 have q:W2.heap.size=w0.heap.size+2:=by rw[h2];simp[v]
 have x:W3.heap.size=w0.heap.size+3:=by rw[c];simp[q]
 have y:W4.heap.size=w0.heap.size+4:=by rw[e];simp[x]
 have z:W5.heap.size=w0.heap.size+5:=by rw[d];simp[y]
 have G:W6.heap.size=w0.heap.size+6:=by rw[b];simp[z]
 have A:∀k,k<w0.heap.size+2->W6.heap[k]?=W2.heap[k]?:=λk s=>by rw[b,a W5 _ k z0,d,a W4 _ k z0,e,a W3 _ k z0,c,a W2 _ k z0]
 have B:∀k,k<w0.heap.size+1->W6.heap[k]?=W1.heap[k]?:=λk s=>by rw[A k z0,h2,a W1 _ k z0]
 have t:W6.heap[w0.heap.size+2]?=W3.heap[w0.heap.size+2]?:=by rw[b,a W5 _ _ z0,d,a W4 _ _ z0,e,a W3 _ _ z0]
 have C:W6.heap[w0.heap.size+3]?=W4.heap[w0.heap.size+3]?:=by rw[b,a W5 _ _ z0,d,a W4 _ _ z0]
 have D:W6.heap[w0.heap.size+4]?=W5.heap[w0.heap.size+4]?:=by rw[b,a W5 _ _ z0]
 have E:w0.Since w0.heap.size W6:=by
  rw[b,d,e,c,h2,h1];exact((((((World.Since.refl _ _).alloc (Zam _) _).alloc zs _).alloc zv _).alloc zv _).alloc zv _).alloc zv _
 refine⟨⟨E,z0,?_,?_,?_,λj=>?_,?_,?_,?_⟩,?_,z0⟩;rw[World.cell?_of_block (w:=W1) (B _ (by show w0.heap.size<_;omega)),h1];exact World.cell?_alloc_at _ _ _ _ rfl;rw[World.cell?_of_block (w:=W3) t,c];exact World.cell?_alloc_at _ _ _ _ q.symm;rw[World.cell?_of_block (w:=W3) t,c];exact World.cell?_alloc_at _ _ _ _ q.symm;rw[World.frozen?_of_block (w:=W3) t,c];exact World.frozen?_alloc_at _ _ _ _ q.symm;rw[World.cell?_of_block (w:=W5) D,d];exact World.cell?_alloc_at _ _ _ _ y.symm;rw[b];exact World.cell?_alloc_at _ _ _ _ z.symm;have:=World.rowIs_made W3 (.bool ξ) n 4;rw[<-e,x]at this;exact(this.of_block C).congr λi F=>by rw[r i F]
 rw[A _ z0,h2,<-v];exact blk_alloc_new _ _
def wh{O:Nat->Prop}(w0:Λ)(G:∀b,O b->b<w0.heap.size)(H:Vo O w0)(m:Γ (Γ Int))(n:Nat)(g:Ξ m=n)(hn:∀r,r<Ξ m->Ξ (m.getD r [])=n)(I:∀r c,-9223372036854775808<=Pk m r c/\Pk m r c<=9223372036854775807)(l:n<=1000)
 (f:Δ Addr) (gb go Gc:Nat) (A:Nat->Δ Addr) (C RB RO:Nat->Nat) (mv:Ψ) (X:eZ w0 mv m f gb go Gc A C RB RO) (J:gb<w0.heap.size) (K:∀r,r<Ξ m->∀c,c<n->RB r<w0.heap.size):
 Calls prog 314 #[mv] w0 λe w'=>e=.returned (wv (WB m))/\w0.Since w0.heap.size w':=by
 have Y:=qK w0 G H m n g hn I l f gb go Gc A C RB RO mv X J K F.whole_ F.times_ F.opposite_ F.plus_ m 0 rfl (Zag _);have ev:=X.val;rw[g]at ev;have o:=run_make_row' (P:=prog) 215 4 (.bool ξ) 1 Afj Afi rfl .i64 .i64 n z0 z0;have L:∀(fn:Fn)(first cap:Array Ψ)(w:Λ),(Instr.makeFunc fn first cap).run prog w=.ok (.func fn first cap) w:=λ_ _ _ _=>rfl;subst ev;have M:∀(fn:Fn)(Z c2:Array Ψ)(a:Addr)(w:Λ),(store a (.func fn Z c2)).run prog w=stored prog w a (.func fn Z c2) .plain:=λ_ _ _ a w=>run_store prog w a _ _ rfl;have q1:∀(p q s t y:Obj)(x:Ψ)(T:Υ),((((((w0.alloc p).alloc q).alloc s).alloc t).alloc y).alloc (.cells #[x] T)).cell? ⟨w0.heap.size+1+1+1+1+1,0,κ⟩=θ x:=λp q s t y x T=>World.cell?_alloc_at _ _ _ _ zs;have q2:∀(p q s t y:Obj)(x:Ψ)(T:Υ),((((((w0.alloc p).alloc q).alloc s).alloc t).alloc y).alloc (.cells #[x] T)).frozen? ⟨w0.heap.size+1+1+1+1+1,0,κ⟩=ξ:=λp q s t y x T=>World.frozen?_alloc_at _ _ _ _ zs;have z:=tu w0 (.slice f n Gc) n (m.map λ_=>ξ) (λi I=>by simp[Zao,g,I]) 25 270 270 215 348 #[.int .u64 0,.int .u64 0];have HS:Aside _:=z;clear z
 go_enter func314,ntmps314
 go_wp2_with fail
 obtain⟨W,N⟩:∃W,W=((((((w0.alloc (.cells #[.slice f n Gc] 25)).alloc (.cells #[.int .u64 0,.int .u64 0] 270)).alloc (.cells #[.int .u64 0,.int .u64 0] 270)).alloc (.cells (madeCells #[.bool ξ] n) 4)).alloc (.cells #[.slice (θ ⟨w0.heap.size+3,0,κ⟩) n n] 215)).alloc (.cells #[.func (.func 362) #[] #[.pointer (θ ⟨w0.heap.size,0,κ⟩),.pointer (θ ⟨w0.heap.size+2,0,κ⟩),.pointer (θ ⟨w0.heap.size+4,0,κ⟩),.pointer (θ ⟨w0.heap.size+5,0,κ⟩)]] 348)):=⟨_,rfl⟩;have z:=HS.out;rw[<-N]at z;refine cast (congrArg (λW=>Code.wp prog _ _ _ W) N) ?_;clear N HS o L M q1 q2;have⟨D,h,hsz⟩:=z;have B:=D.drew;have t1:W.cell? ⟨w0.heap.size+1+1+1+1+1,0,κ⟩=θ (.func (.func 362) #[] #[.pointer (θ ⟨w0.heap.size,0,κ⟩),.pointer (θ ⟨w0.heap.size+1+1,0,κ⟩),.pointer (θ ⟨w0.heap.size+1+1+1+1,0,κ⟩),.pointer (θ ⟨w0.heap.size+1+1+1+1+1,0,κ⟩)]):=D.v
 have Q:∀u,VS w0 u (.slice f n Gc) n (m.map λ_=>ξ) 0/\u.heap[w0.heap.size+1]?=θ (.cells #[.int .u64 0,.int .u64 0] 270 (0,0))->Calls prog 206 #[.int .i64 1] u λe u'=>e=.returned (wv 1)/\VS w0 u' (.slice f n Gc) n (m.map λ_=>ξ) 0/\u'.heap[w0.heap.size+1]?=θ (.cells #[.int .u64 0,.int .u64 0] 270 (0,0)):=λu d=>
  (Aa4 (F.whole_ 1 z0 z0) (Y1 G H d.1.since).1 (Y1 G H d.1.since).2).mono λe u' ⟨he,l⟩=>⟨he,d.1.keep (XD l),(l.block _ (by have:=d.1.size;omega)).trans d.2⟩
 have R:∀u,VS w0 u (.slice f n Gc) n (m.map λ_=>ξ) 0/\u.heap[w0.heap.size+1]?=θ (.cells #[.int .u64 0,.int .u64 0] 270 (0,0))->Calls prog 362 #[.int .i64 0,wv 1,.pointer (θ ⟨w0.heap.size,0,κ⟩),.pointer (θ ⟨w0.heap.size+1+1,0,κ⟩),.pointer (θ ⟨w0.heap.size+1+1+1+1,0,κ⟩),.pointer (θ ⟨w0.heap.size+1+1+1+1+1,0,κ⟩)] u λe u'=>e=.returned (.tuple #[])/\VS w0 u' (.slice f n Gc) n (m.map λ_=>ξ) (WB m)/\u'.heap[w0.heap.size+1]?=θ (.cells #[.int .u64 0,.int .u64 0] 270 (0,0)):=λu d=>
  (Y (m.map λ_=>ξ) 1 0 u (by simp[g]) d.1).mono λe u' ⟨he,k,_,l⟩=>⟨he,by rw[Int.zero_add]at k;exact k,(l _ (by have:=d.1.size;omega) z0 z0).trans d.2⟩
 clear Y;have S:VS w0 W (.slice f n Gc) n (m.map λ_=>ξ) 0/\W.heap[w0.heap.size+1]?=θ (.cells #[.int .u64 0,.int .u64 0] 270 (0,0)):=⟨D,h⟩;have U:VS w0 W.drew (.slice f n Gc) n (m.map λ_=>ξ) 0/\W.drew.heap[w0.heap.size+1]?=θ (.cells #[.int .u64 0,.int .u64 0] 270 (0,0)):=⟨B,h⟩;clear D h B;unfold wv at Q R
 go_region_held3 (λu=>u.cell? ⟨w0.heap.size+1+1+1+1+1,0,κ⟩=θ (.func (.func 362) #[] #[.pointer (θ ⟨w0.heap.size,0,κ⟩),.pointer (θ ⟨w0.heap.size+1+1,0,κ⟩),.pointer (θ ⟨w0.heap.size+1+1+1+1,0,κ⟩),.pointer (θ ⟨w0.heap.size+1+1+1+1+1,0,κ⟩)])) (first|exact(And.left (by assumption):VS w0 _ _ _ _ _).v)
  (first
   | (go_at_call 206;refine(Q _ (by assumption)).mono ?_;rintro e u ⟨rfl,d⟩)
   | (go_at_call 362;refine(R _ (by assumption)).mono ?_;rintro e u ⟨rfl,d⟩))
 have⟨k,E⟩:=d;have r1:u.cell? ⟨w0.heap.size+1+1,0,κ⟩=θ (.int .u64 (F.Hi (WB m))):=k.s0;have r2:u.cell? ⟨w0.heap.size+1+1,1,κ⟩=θ (.int .u64 (F.Lo (WB m))):=k.s1;have r3:u.cell? ⟨w0.heap.size+1,0,κ⟩=θ (.int .u64 0):=by simp[World.cell?,E]
 have r4:u.cell? ⟨w0.heap.size+1,1,κ⟩=θ (.int .u64 0):=by simp[World.cell?,E]
 have r5:∀j,u.frozen? ⟨w0.heap.size+1,j,κ⟩=ξ:=λj=>by simp[World.frozen?,E]
 have V:=k.since;clear k E Q R S U t1
 go_wp2_with fail
 refine bodyPost_ret (v:=.agg #[.int .u64 (F.Hi (WB m)),.int .u64 (F.Lo (WB m))]) (by simp[results,results314,go_sem,r3,r4]) rfl ⟨rfl,(V.setCell (by show w0.heap.size<=w0.heap.size+1;omega) _).setCell (by show w0.heap.size<=w0.heap.size+1;omega) _⟩
section
open Go Go.Abs Go.Proofs
set_option maxRecDepth 10000
theorem rW{O:Nat->Prop}{w:Λ}{vs:Array Ψ}{x:D}(a:vs.size=1)(h:∀(i:Nat) v y,vs[i]?=some v->[AV.d x][i]?=some y->Wo O w v y):∃v,vs=#[v]/\A5 O w v x:=by
 obtain⟨l⟩:=vs
 match l,a with
 | [v],_=>exact⟨v,rfl,h 0 v _ rfl rfl⟩
def lE{m:Γ (Γ Int)}{n:Nat}(h:lenM m n=true):∀r,r<Ξ m->Ξ (m.getD r [])=n:=λr hr=>by
 have:=List.all_eq_true.1 h (m.getD r []) (by simp[Zao,hr])
 simpa using this
def Pb(f R:Γ (Γ Int))(g:Pa f=some R):A9 Tryz.prog 214 [.d (Aq 1 (Aq 1 (D.int .i64)) f)] (.d (Aq 1 (Aq 1 (D.int .i64)) R)):=by
 obtain⟨hr,g⟩:=iN g;obtain rfl:=Zaf g;obtain⟨h1,h2⟩:=Bool.and_eq_true_iff.1 hr;obtain⟨i,l,j,m⟩:=Zal h1;refine⟨by kernel_rfl,λO w vs n u d a=>?_⟩;obtain⟨v,rfl,o⟩:=rW d a;obtain⟨p,gb,go,Gc,A,C,RB,RO,q,s,h⟩:=Yb o;have k:=lE h2
 exact(uU f _ i k j m l w p gb go Gc A C RB RO v q (s i).2 λr hr c t=>(h r hr c (by rw[k r hr];exact t)).2).mono λe w' ⟨he,b⟩=>
  ⟨_,he,⟨b.since.os,b.since.tape,b.since.output,b.since.size,b.since.block⟩,b.data n j⟩
def Ub(j:Γ (Γ Int))(k:Int)(p2:Γ Int)(R:Γ (Γ Int))(m:JE j k p2=some R):A9 Tryz.prog 313 [.d (Aq 1 (Aq 1 (D.int .i64)) j),.d (.int .i64 k),.d (Aq 1 (D.int .i64) p2)] (.d (Aq 1 (Aq 1 (D.int .i64)) R)):=by
 obtain⟨hr,m⟩:=iN m;obtain rfl:=Zaf m;obtain⟨h1,h2⟩:=Bool.and_eq_true_iff.1 hr;obtain⟨M,N,t,x⟩:=Zal h1;obtain⟨n,rfl⟩:∃c:Nat,k=c:=⟨k.toNat,z0⟩;refine⟨by kernel_rfl,λO w vs y P g d=>?_⟩
 obtain⟨v,u,b,rfl⟩:∃v u b,vs=#[v,u,b]:=by
  obtain⟨l⟩:=vs
  match l,g with
  | [v,u,b],_=>exact⟨v,u,b,rfl⟩
 have z:A5 O w v _:=d 0 v _ rfl rfl;have B:=AP (d 1 u _ rfl rfl);subst B;obtain⟨a,cap,E,F,rfl,h⟩:=JF (show A5 O w b (D.list 1 (p2.map (D.int .i64)))from d 2 b _ rfl rfl);obtain⟨G,gb,go,Gc,A,C,RB,RO,H,I,o⟩:=Yb z;have q:=lE h2;have s:0<Ξ j:=z0
 obtain⟨J,_,p,_⟩:=h 0 z0;subst J
 exact(iX j p2 n _ rfl q z0 t x w G gb go Gc A C RB RO v H (I s).2 (λr hr c K=>(o r hr c (by rw[q r hr];exact K)).2) E F cap p λi L=>(h i L).2.2.2).mono λe w' ⟨he,Q,f⟩=>
  ⟨_,he,⟨f.since.os,f.since.tape,f.since.output,f.since.size,f.since.block⟩,f.data y s⟩
def QV(a:Γ (Γ Int))(R:Ao)(h:Ev a=some R):A9 Tryz.prog 314 [.d (Aq 1 (Aq 1 (D.int .i64)) a)] (.d (DJ R)):=by
 obtain⟨hr,h⟩:=iN h;obtain rfl:=Zaf h;obtain⟨h1,h2⟩:=Bool.and_eq_true_iff.1 hr;obtain⟨h2,k⟩:=Bool.and_eq_true_iff.1 h2;refine⟨by kernel_rfl,λO w vs m n d b=>?_⟩;obtain⟨v,rfl,o⟩:=rW d b;obtain⟨p,gb,go,Gc,A,C,RB,RO,q,s,i⟩:=Yb o;have j:=lE h2
 have t:∀r c,-9223372036854775808<=Pk a r c/\Pk a r c<=9223372036854775807:=λr c=>by
  unfold Pk;by_cases hr:r<Ξ a
  ·by_cases f:c<Ξ (a.getD r [])
   ·have:=List.all_eq_true.1 k (a.getD r []) (by simp[Zao,hr]);generalize a.getD r []=l at this f ⊢;have:=List.all_eq_true.1 this (l.getD c 0) (by rw[Zao,Zaa f];exact Zae f);exact Zal this
   ·rw[Zao,Zbj z0];exact⟨j0,j0⟩
  ·rw[show a.getD r []=[]from by rw[Zao,Zbj z0];rfl];exact⟨zs,zs⟩
 obtain⟨u,h1⟩:=Zal h1
 exact(wh w m n a _ rfl j t h1 p gb go Gc A C RB RO v q (s u).2 (λr hr c f=>(i r hr c (by rw[j r hr];exact f)).2)).mono λe w' ⟨he,g⟩=>
  ⟨_,he,⟨g.os,g.tape,g.output,g.size,g.block⟩,lW _⟩
instance:CS Tryz.prog 214 (type_of% @Pb):=⟨@Pb⟩
instance:CS Tryz.prog 313 (type_of% @Ub):=⟨@Ub⟩
instance:CS Tryz.prog 314 (type_of% @QV):=⟨@QV⟩
end
section
open Go.Abs Go.Proofs
set_option maxRecDepth 100000
set_option maxHeartbeats 4000000
instance:ja 311 (W1 Iu):=⟨λ_ _ h=>by unfold Iu at h;exact uH func311⟩
instance{b c}:LS (λa s=>It b c a s) 45 [0,27,28] (λs=>[(29,.i s)]) [] (λs=>[]):={}
instance YaX:ja 213 (W1 IH):=⟨λa R h=>by
 refine TC [3] func213 ?_;unfold IH at h;refine Dd {p:Unit//Mb a=some R} (λp=>C9 45 [(0,.l 1 (Aq 1 D.z) a)] []) ?_ λp=>?_
 ·exact Ah
 obtain⟨_,h⟩:=p;exact Ah⟩
instance{b c}:LS (λa s=>MA b c a s.1 s.2) 78 [3,16,17,18,22,23] (λs=>[(6,.i s.1),(24,.i s.2)]) [3] (λs=>[]):={}
instance:ja 361 (W1 Oe):=⟨λd R h=>by
 refine TC [11] func361 ?_;unfold Oe at h;refine E5 h (λ_=>Fk.h _ _) λg h=>?_
 conv=>whnf
 refine z11 h (λp=>C9 78 [(3,.ptr 3 1 0),(16,.l 1 (Aq 1 D.z) d),(17,.i (Ξ d:Int)),(18,.i p.1)] [(3,FT p.2,1)]) CC λi j ⟨a,b⟩ h=>?_;simp only[M9]at h;refine Dn h (λh=>?_) λh=>?_
 ·refine Ry (f:=(Aq 1 D.z)) h λk _ h=>?_;refine Dd {p:Int//JD b (i j) a p=some R} (λp=>C9 78 [(3,.ptr 3 1 0),(6,.i p.1),(16,.l 1 (Aq 1 D.z) d),(17,.i (Ξ d:Int)),(18,.i a)] [(3,FT b,1)]) ?_ λp=>?_
  ·exact Ah
  obtain⟨e,h⟩:=p;simp only[JD]at h;refine E5 h (λ_=>Kt _ _ _) λl h=>?_;refine E5 h (λ_=>Kt _ _ _) λm h=>?_
  conv=>whnf
  refine By h λn c h=>?_;refine ZG (H7 _ _ _ _ c) ?_;exact Ah
 exact Ah⟩
instance{b c}:LS (λa s=>M4 b c a s) 51 [0,17,18] (λs=>[(19,.i s)]) [] (λs=>[]):={}
instance{b c}:LS (λa s=>M5 b c a s) 51 [0,29,30] (λs=>[(31,.i s)]) [] (λs=>[]):={}
instance{b c}:LS (λa s=>M6 b c a s) 51 [0,29,30,31,35,36] (λs=>[(37,.i s)]) [] (λs=>[]):={}
instance Ybb:ja 312 (W1 H6):=⟨λa R h=>by
 refine TC [11] func312 ?_;unfold H6 at h;refine uJ h λh=>?_
 refine uJ h λh=>?_
 refine Dd {p:Unit//Ro a=some R} (λp=>C9 51 [(0,.l 1 (Aq 1 D.z) a)] []) ?_ λp=>?_
 ·exact Ah
 obtain⟨_,h⟩:=p;exact Ah⟩
instance{b c d}:LS (λa s=>M7 b c d a s) 67 [0,1,25] (λs=>[(26,.i s)]) [] (λs=>[]):={}
instance{b c d e}:LS (λa s=>M8 b c d e a s.1 s.2) 67 [0,1,9,10,44] (λs=>[(45,.i s.1)]) [9] (λs=>[(10,.row 2 60 (φ De s.2),1)]):={}
instance w4:ja 215 (W2 LA):=⟨λa b R h=>by
 refine TC [13] func215 ?_;unfold LA at h;refine E5 h (λ_=>Ybb.h _ _) λc h=>?_;refine uJ h λh=>?_
 refine uJ h λh=>?_
 refine Dd {p:Unit//Rp a b=some R} (λp=>C9 67 [(0,.l 1 (Aq 1 D.z) a),(1,.l 1 D.z b)] []) ?_ λp=>?_
 ·exact Ah
 obtain⟨_,h⟩:=p;exact Ah⟩
instance Yac:ja 216 (W2 L9):=⟨λ_ _ _ h=>uH func216⟩
instance{b c}:LS (λa s=>LI b c a s.1 s.2.1 s.2.2) 43 [2,4,11,12] (λs=>[(5,.i s.1),(6,.i s.2.1),(13,.i s.2.2)]) [2] (λs=>[]):={}
instance YaE:ja 217 (W1 M0):=⟨λ_ _ h=>uH func217⟩
instance hX:ja 128 (W1 Rj):=⟨λb R h=>by
 refine Vp [3,16] func128 (by kernel_rfl) ?_;unfold Rj at h;refine Dd {p:Unit//OX b=some R} (λp=>C9 127 [(0,.l 1 (Aq 1 D.z) b),(2,.ptr 2 1 0)] [(2,.var zMV,1)]) ?_ λp=>?_
 ·refine E5 h (λ_=>YaX.h _ _) λx18 h=>?_;refine Wc h λh=>?_;refine Ry (f:=(Aq 1 D.z)) h λv _ h=>?_;refine Wc h λh=>?_;refine Ry (f:=(Aq 1 D.z)) h λw _ h=>?_;refine Wc h λh=>?_
  conv=>whnf
  exact⟨⟨(),h⟩,CC⟩
 obtain⟨_,h⟩:=p;simp only[OX]at h;refine Ry (f:=(Aq 1 D.z)) h λx _ h=>?_
 conv=>whnf
 refine SU h λhr h=>?_;refine z14 ?_
 try rw[xO]
 refine Dd {p:((Γ (Γ Int))×(Γ (Γ Int))×(Γ Int))//OY b p.1 p.2.1 p.2.2=some R} (λp=>C9 127 [(0,.l 1 (Aq 1 D.z) b),(2,.ptr 2 1 0),(4,.sl 4 1),(5,.sl 5 1),(6,.sl 39 1)] [(2,.var zMV,1),(4,.row 1 35 (φ (Aq 1 D.z) p.1.1),1),(5,.row 1 35 (φ (Aq 1 D.z) p.1.2.1),1),(39,.row 1 3 (φ D.z p.1.2.2),1)]) ?_ λp=>?_
 ·conv=>whnf
  refine z11 h (λp=>C9 127 [(0,.l 1 (Aq 1 D.z) b),(2,.ptr 2 1 0),(4,.sl 4 1),(5,.sl 5 1),(6,.sl 39 1),(40,.l 1 (Aq 1 D.z) b),(41,.i (Ξ b:Int)),(42,.i p.1)] [(2,.var zMV,1),(4,.row 1 35 (φ (Aq 1 D.z) p.2.1),1),(5,.row 1 35 (φ (Aq 1 D.z) p.2.2.1),1),(39,.row 1 3 (φ D.z p.2.2.2),1)]) CC λ_ _ ⟨d,e,g,k⟩ h=>?_;simp only[OV]at h;refine Dn h (λh=>?_) λh=>?_
  ·refine Ry (f:=(Aq 1 D.z)) h λa _ h=>?_
   conv=>whnf
   refine SU h λhr h=>?_;refine z15 ?_
   try simp only[Zac]
   rw[mU]
   conv=>whnf
   refine SU h λhr h=>?_;refine z12 ?_
   try rw[iQ]
   conv=>whnf
   refine z17 ?_
   conv=>whnf
   refine SU h λhr h=>?_;refine z12 ?_
   try rw[s9]
   conv=>whnf
   refine By h λl c h=>?_
   first|refine BU (AM _ _ c) ?_|(simp only[Zac];refine BU (AM _ _ c) ?_)
   refine Ry (f:=D.z) h λm _ h=>?_
   conv=>whnf
   refine SU h λhr h=>?_;refine z12 ?_
   try rw[ym]
   conv=>whnf
   refine SU h λhr h=>?_;refine z12 ?_
   try rw[s9]
   conv=>whnf
   refine z11 h (λp=>C9 127 [(0,.l 1 (Aq 1 D.z) b),(2,.ptr 2 1 0),(4,.sl 4 1),(5,.sl 5 1),(6,.sl 39 1),(8,.l 1 D.z a),(40,.l 1 (Aq 1 D.z) b),(41,.i (Ξ b:Int)),(42,.i d),(64,.l 1 D.z ([1]++(Ia a 1 (Ξ a:Int)))),(65,.i (Ξ ([1]++(Ia a 1 (Ξ a:Int))):Int)),(66,.i p.1)] [(2,.var zMV,1),(4,.row 1 35 (φ (Aq 1 D.z) (e++[([1]++(Ia a 1 (Ξ a:Int)))])),1),(5,.row 1 35 (φ (Aq 1 D.z) (g++[(l++[m])])),1),(39,.row 1 3 (φ D.z p.2),1)]) CC λ_ _ ⟨n,o⟩ h=>?_;simp only[OW]at h;refine Dn h (λh=>?_) λh=>?_
   ·refine Ry (f:=D.z) h λy _ h=>?_
    conv=>whnf
    refine z17 ?_;refine T4 (f:=D.z) h GK λz i h=>?_;refine fk (f:=D.z) i GK ?_;refine Ry (f:=D.z) h λA _ h=>?_;refine T4 (f:=D.z) h GK λB j h=>?_;refine fk (f:=D.z) j GK ?_
    conv=>whnf
    try rw[Aeg]
    exact sP ⟨(_,(_,_)),h⟩ CC
   conv=>whnf
   try simp only[OZ]at h
   exact sP ⟨(_,(_,_,_,_)),h⟩ CC
  conv=>whnf
  try simp only[OZ]at h
  exact⟨⟨(_,_,_),h⟩,CC⟩
 obtain⟨⟨r,s,q⟩,h⟩:=p;simp only[OY]at h;refine E5 h (λ_=>Pb _ _) λC h=>?_;refine E5 h (λ_=>w4.h _ _ _) λE h=>?_;refine Wc h λh=>?_;refine E5 h (λ_=>Pb _ _) λF h=>?_;refine E5 h (λ_=>Yac.h _ _ _) λt h=>?_;refine Wc h λh=>?_;refine E5 h (λ_=>YaE.h _ _) λu h=>?_;refine Wc h λh=>?_
 conv=>whnf
 obtain rfl:=Zaf h;exact⟨qv⟩⟩
end
section
open Go Go.Deep Go.Abs Go.Proofs
set_option maxRecDepth 100000
set_option maxHeartbeats 4000000
instance km:jb 59 W5 LH:=⟨λd U A p2 p3 p4 R h=>by
 refine Vp [1000001,2000011] Tryz.func59 (by kernel_rfl) ?_;unfold LH at h;refine E5 h (λ_=>qw.h _ _ _) λx26 h=>?_;refine Dn h (λh=>?_) λh=>?_
 ·conv=>whnf
  exact z29
 refine E5 h (λ_=>Yar.h _ _ _ _) λx38 h=>?_;refine Dn h (λh=>?_) λh=>?_
 ·conv=>whnf
  exact z29
 conv=>whnf
 refine z17 ?_;refine E5 h (λ_=>GS.h _ _ _ _) λx46 h=>?_;refine E5 h (λ_=>vz.h _ _ _) λx47 h=>?_;refine Dn h (λh=>?_) λh=>?_
 ·conv=>whnf
  exact z29
 conv=>whnf
 refine SU h λhr h=>?_;refine z12 ?_
 try rw[iQ]
 refine E5 h (λ_=>Yae.h _ _ _ _ _ _) λn h=>?_
 conv=>whnf
 refine By h λyr11 V h=>?_;refine wN (C9 109 [(2,.i p2),(3,.l 1 D.z p3),(5,.ptr 5 1 0),(6,.ptr 6 1 0),(10,.ptr 10 1 0),(15,.sl 51 1),(16,.l 1 D.z n)] [(5,AI U,1),(6,Du A,1),(10,.var zMV,1),(51,.frow 1 (φ D.z ([p2]++p3)),1)]) Unit (λ_=>C9 109 [(2,.i p2),(3,.l 1 D.z p3),(5,.ptr 5 1 0),(6,.ptr 6 1 0),(10,.ptr 10 1 0),(15,.sl 51 1),(16,.l 1 D.z n),(17,.sl 61 1)] [(5,AI U,1),(6,Du A,1),(10,.var zMV,1),(51,.frow 1 (φ D.z ([p2]++p3)),1),(61,.row 1 35 (φ (λ_=>D.nil 1) yr11),1)]) ?_ ?_ λ_=>?_
 ·exact Bu
 ·intro X β a w p;obtain⟨tm,df⟩:=a;obtain⟨l0,rfl⟩:∃l:Γ Ψ,tm=l.toArray:=⟨tm.toList,zs⟩;have r:Ξ l0=109:=p.len;obtain rfl:df=[]:=p.df
  iterate 13 (replace r:=ax r;obtain⟨_,_,_,_,_,_,_,_,l0,rfl,r⟩:=r)
  iterate 5 (replace r:=FG r;obtain⟨_,l0,rfl,r⟩:=r)
  obtain rfl:=List.length_eq_zero_iff.1 r;clear r;refine ai λK k=>?_;obtain⟨a16,c16,b16,o16,t16,_⟩:=JF (eh p 16 rfl rfl);have t16':=t16;subst t16;obtain⟨W,r⟩:=iN V;obtain rfl:=Zaf r;have W:=(Zal W).1;have hS:Aside _:=p;have hmk:=run_make_row' (P:=Tryz.prog) 25 35 (.slice none 0 0) 24 Ab7 Ab6 rfl .i64 .i64 (Ξ n) z0 z0;clear p r
  go_wp2
  have p:=hS.out
  refine k.out _ _ ⟨(),_,p.exitNew [2,3,5,6,10,15,16] (q:=61) (t:=17) j0 j0 zs zs (by simp[AV.guards]) rfl rfl zs rfl (K5 _ _) j0 (λy hy=>by obtain⟨_,_,rfl⟩:=List.mem_map.1 hy;rfl) (λb hb=>by simp[Ai]at hb;omega)
   ⟨List.replicate (Ξ n) (.slice none 0 0),.inl ⟨zs,.inr ⟨w.heap.size,Ξ n,_,zs,Zag _,heap_alloc_new w _,zs,by unfold maxLen;omega,by simp[size_madeCells],?_⟩⟩,λO=>⟨by rw[bN];simp,λj v y m hy=>?_⟩⟩⟩
  ·have e:(madeCells #[Value.slice none 0 0] (Ξ n)).toList=List.replicate (Ξ n) (.slice none 0 0):=by
    apply Zdv;intro i;by_cases hi:i<Ξ n
    ·simp[madeCells,hi,Nat.mod_one]
    ·simp[madeCells,hi]
   rw[Zac,Zdw,e,Zdu];exact Zbe zs
  ·rw[bN,Zdw]at hy;rw[Zfe]at m hy;split at m
   ·rename_i hj
    rw[Zai hj]at hy;obtain rfl:=Zaf m;obtain rfl:=Zaf hy;exact⟨.nil _,rfl⟩
   ·cases m
 conv=>whnf
 refine By h λy1 hy1 h=>?_;refine wN (C9 109 [(2,.i p2),(3,.l 1 D.z p3),(5,.ptr 5 1 0),(6,.ptr 6 1 0),(10,.ptr 10 1 0),(16,.l 1 D.z n),(17,.sl 61 1),(62,.l 1 D.z ([p2]++p3)),(63,.i (Ξ ([p2]++p3):Int)),(64,.i 0)] [(5,AI U,1),(6,Du A,1),(10,.var zMV,1),(61,.row 1 35 (φ (λ_=>D.nil 1) yr11),1)]) Unit (λ_=>C9 109 [(2,.i p2),(3,.l 1 D.z p3),(6,.ptr 6 1 0),(10,.ptr 10 1 0),(16,.l 1 D.z n),(17,.sl 61 1)] [(5,AI U,1),(6,Du A,1),(10,.var zMV,1),(61,.row 1 35 (φ (Aq 1 D.z) y1),1)]) ?_ ?_ λ_=>?_
 ·exact Bu
 ·intro X β a w p;obtain⟨tm,df⟩:=a;obtain⟨l0,rfl⟩:∃l:Γ Ψ,tm=l.toArray:=⟨tm.toList,zs⟩;have r:Ξ l0=109:=p.len;obtain rfl:df=[]:=p.df
  iterate 13 (replace r:=ax r;obtain⟨_,_,_,_,_,_,_,_,l0,rfl,r⟩:=r)
  iterate 5 (replace r:=FG r;obtain⟨_,l0,rfl,r⟩:=r)
  obtain rfl:=List.length_eq_zero_iff.1 r;clear r;refine ai λK k_=>?_;obtain⟨W,r⟩:=iN V;obtain rfl:=Zaf r;have hn0:=Zal W;have hcN:Ξ ([p2]++p3)<=1000001:=by have:=hn0.2;omega
  have hc0:0<Ξ ([p2]++p3):=zs
  have hn0:=hn0.1;generalize hcols:[p2]++p3=cols at *;obtain⟨b5,v5,T5,e5,_,_,c5⟩:=V4 p 5 rfl;obtain⟨b6,v6,T6,e6,_,_,c6⟩:=V4 p 6 rfl;obtain⟨s0,q50,k50,_⟩:=c5 0 _ rfl;obtain⟨s1,q51,k51,_⟩:=c5 1 _ rfl;obtain⟨x0,q60,k60,_⟩:=c6 0 _ rfl;obtain⟨x1,q61,k61,_⟩:=c6 1 _ rfl;obtain⟨x2,q62,k62,_⟩:=c6 2 _ rfl;obtain⟨x3,q63,k63,_⟩:=c6 3 _ rfl
  have dS:A5 (OS β X _) w (.agg #[s0,s1]) (Cr U):=.agg _ _ rfl (by simp[D.one]) λi v x m hx=>by
   match i,m,hx with
   | 0,m,hx=>simp at m hx;subst m;subst hx;exact k50
   | 1,m,hx=>simp at m hx;subst m;subst hx;exact k51
   | i+2,m,hx=>simp at m
  have dX:A5 (OS β X _) w (.agg #[x0,x1,x2,x3]) (Cm A):=.agg _ _ rfl (by simp[D.one]) λi v x m hx=>by
   match i,m,hx with
   | 0,m,hx=>simp at m hx;subst m;subst hx;exact k60
   | 1,m,hx=>simp at m hx;subst m;subst hx;exact k61
   | 2,m,hx=>simp at m hx;subst m;subst hx;exact k62
   | 3,m,hx=>simp at m hx;subst m;subst hx;exact k63
   | i+4,m,hx=>simp at m
  obtain⟨_,r5,t5⟩:=V3 p 5 rfl rfl rfl;obtain⟨_,r6,t6⟩:=V3 p 6 rfl rfl rfl;have r5:=e5.symm.trans r5;have r6:=e6.symm.trans r6;simp at r5 r6;subst r5;subst r6;have d16:=eh p 16 rfl rfl;have d62:=eh p 62 rfl rfl;obtain⟨a16,c16,b16,o16,t16,h16⟩:=JF d16;obtain⟨a62,c62,b62,o62,t62,h62⟩:=JF d62;have t63:=AP (eh p 63 rfl rfl);have t64:=AP (eh p 64 rfl rfl);have t17:=Aar p 17 rfl rfl rfl;have hbx:LZ β _ _ w 61 (.row 1 35 (φ (λ_=>D.nil 1) (List.replicate (Ξ n) ([]:Γ Int)))):=p.boxes 61;obtain⟨_,_,us0,I,hL⟩:=hbx;rw[bN,Zdw]at hL;rw[Zac,Zdw]at I;obtain⟨ga,gc,eu,hga,hul0⟩:=X8 I;have hR0:=RM.start I z0 (zq hL);have hM:=bT p 61 rfl;have n5:¬Ai (β 61)=θ b5:=λh=>by have:=p.inj 5 61 b5 rfl rfl (by rw[e5];rfl) h;cases this
  have n6:¬Ai (β 61)=θ b6:=λh=>by have:=p.inj 6 61 b6 rfl rfl (by rw[e6];rfl) h;cases this
  have lt5:=World.block_lt_of_cell? _ _ q50;have lt6:=World.block_lt_of_cell? _ _ q60;obtain⟨e62,m62,lt62,_⟩:=h62 0 hc0;subst e62
  have hval:=λc v (m:Cu U A n c=θ v)=>λwr (hk:AC w.heap.size (λb=>Ai (β 61)=θ b) w wr)=>jO (yk.h U A n c v m) p hM hk #[.agg #[s0,s1],.agg #[x0,x1,x2,x3],.slice a16 (Ξ n) c16,.int .i64 c] rfl λi v x m hx=>by
   match i,m,hx with
   | 0,m,hx=>simp at m hx;subst m;subst hx;exact dS
   | 1,m,hx=>simp at m hx;subst m;subst hx;exact dX
   | 2,m,hx=>simp at m hx;subst m;subst hx;rw[<-t16];exact d16
   | 3,m,hx=>simp at m hx;subst m;subst hx;exact .int _ _
   | i+4,m,hx=>simp at m
  have HV:Aside _:=hval;have HS:Aside _:=p;rw[eu]at t17;have HM:Aside _:=hM;have HE:Aside _:=eu;subst t5;subst t6;subst t16;subst t62;subst t63;subst t64;subst t17;clear hval p hM eu d16 d62 dS dX c5 c6 e5 e6 k50 k51 k60 k61 k62 k63 I hL h16 W r
  go_wp2_with fail
  go_loopg [64] (Ξ cols) (λg i wr=>∃(k:Nat)(us:Γ Ψ)(vals:Γ (Γ Int)),k<=Ξ cols/\g=Ξ cols-k/\i=.int .i64 k/\Aside (RM w wr (β 61) 35 us vals/\Ξ us=Ξ n/\(∀(j:Nat) l,vals[j]?=θ l->Ξ l=k)/\Ju U A n (cols.drop k) vals=θ y1))
  case atStart=>
   refine⟨0,us0,_,Zag _,rfl,rfl,hR0,z0,λj l h=>?_,hy1⟩;rw[Zfe]at h;split at h
   ·rw[<-Zaf h];rfl
   ·cases h
  case round=>
   clear hR0;obtain⟨k,us,vals,hk,rfl,rfl,hA⟩:=hrel;obtain⟨C,hul,hvl,s⟩:=hA.out;have hvn:Ξ vals=Ξ n:=by rw[<-C.len];exact hul
   by_cases hkn:k<Ξ cols
   ·have hkz:(k:Int)<(Ξ cols:Int):=z0
    have hM:=HM.out;have g0:wr.cell? ⟨b62,o62+k,none⟩=θ (.int .i64 (cols.getD k 0)):=by rw[Ft C.keep lt62 λh=>m62 (hM _ h)];exact(h62 k hkn).2.2.2
    have g50:wr.cell? ⟨b5,0,none⟩=θ s0:=by rw[Ft C.keep lt5 n5];exact q50
    have g51:wr.cell? ⟨b5,1,none⟩=θ s1:=by rw[Ft C.keep lt5 n5];exact q51
    have g60:wr.cell? ⟨b6,0,none⟩=θ x0:=by rw[Ft C.keep lt6 n6];exact q60
    have g61:wr.cell? ⟨b6,1,none⟩=θ x1:=by rw[Ft C.keep lt6 n6];exact q61
    have g62:wr.cell? ⟨b6,2,none⟩=θ x2:=by rw[Ft C.keep lt6 n6];exact q62
    have g63:wr.cell? ⟨b6,3,none⟩=θ x3:=by rw[Ft C.keep lt6 n6];exact q63
    rw[jA hkn]at s;simp only[Ju]at s;obtain⟨v,m,s⟩:=Option.bind_eq_some_iff.1 s
    cases L:(Ξ v==Ξ vals)with
    | false=>rw[L]at s;cases s
    | true=>
     rw[L]at s;have L:=eq_of_beq L;have HF:Aside _:=s;have E:Aside _:=L;clear L;have F:=HV.out _ v m wr C.keep;generalize cols.getD k 0=c at g0 F;obtain⟨z1,hz1⟩:∃z,z=wr.heap.size:=⟨_,rfl⟩;have HR:Aside (RM w wr (β 61) 35 us vals):=C;have HZ:Aside (z1=wr.heap.size):=hz1;have HL:Aside (∀(j:Nat) l,vals[j]?=θ l->Ξ l=k):=hvl;clear s hA m C hz1 hvl
     go_wp2_with (go_at_call 120;refine F.mono ?_;rintro e w2 ⟨vv,rfl,M,hr2⟩;obtain⟨a72,c72,Y,o72,rfl,h72⟩:=JF hr2)
     have hR2:=HR.out.keepS M;rw[<-HZ.out]at h72 M;have H72:Aside _:=h72;have HB2:Aside _:=M;have HR2:Aside _:=hR2
     have HA0:Aside (∀(i:Nat) u b,us[i]?=θ u->Ai u=θ b->b<z1):=λi u b h1 h2=>by
      have hi:i<Ξ vals:=by rw[<-HR.out.len];exact AG h1
      rw[HZ.out];exact((HR.out.row i u _ h1 (Zaa hi)).2 b h2).2
     clear g0 g50 g51 g60 g61 g62 g63 F hr2 h72 M hR2
     go_loopg [74] (Ξ v) (λg i wi=>∃(j:Nat)(G:Γ Ψ),j<=Ξ v/\g=Ξ v-j/\i=.int .i64 j/\Aside (RM w wi (β 61) 35 G (YU (λl x=>l++[x]) vals v j)/\Ξ G=Ξ n/\w2.heap.size<=wi.heap.size/\(∀b,z1<=b->b<w2.heap.size->wi.heap[b]?=w2.heap[b]?)/\∀(i:Nat) u b,G[i]?=θ u->Ai u=θ b->b<z1\/w2.heap.size<=b))
     case atStart=>exact⟨0,us,Zag _,rfl,rfl,by simpa [YU] using HR2.out,hul,Zam _,λ_ _ _=>rfl,λi u b h1 h2=>.inl (HA0.out i u b h1 h2)⟩
     case round=>
      obtain⟨j,G,hj,rfl,rfl,hB⟩:=hrel;obtain⟨J,N,hqz,Z,Q⟩:=hB.out;by_cases hjn:j<Ξ v
      ·have hjz:(j:Int)<(Ξ v:Int):=z0
       obtain⟨e72,m72,lt72,g72⟩:=H72.out j hjn;subst e72
       have gv:wr.cell? ⟨Y,o72+j,none⟩=θ (.int .i64 (v.getD j 0)):=by
        rw[<-g72];by_cases hold:Y<w.heap.size
        ·have hno:¬Ai (β 61)=θ Y:=λh=>m72 (.inl (hM _ h));rw[Ft J.keep hold hno,Ft HR2.out.keep hold hno]
        ·exact World.cell?_of_block (w:=w2) (Z Y (by
          rcases Zbk Y z1 with q|q
          ·exact absurd (.inr ⟨z0,q⟩) m72
          ·exact q) lt72)
       have hju:j<Ξ G:=by have:=E.out;omega
       obtain⟨u,hu⟩:∃u,G[j]?=θ u:=⟨_,Zaa hju⟩;have hjv:j<Ξ vals:=by have:=E.out;omega
       have hl:=vf (f:=λ(l:Γ Int)(x:Int)=>l++[x]) E.out hjv;obtain⟨g,cap,cur,eg,hcp,B,hbh,hle,_,_,_,hcu⟩:=J.at_ hu;have e1:=HE.out.symm.trans eg;simp only[Value.slice.injEq]at e1;obtain⟨e2,e3,e4⟩:=e1;subst e2;subst e4;obtain⟨x,hx⟩:∃x,x=v.getD j 0:=⟨_,rfl⟩;rw[<-hx]at gv;have HX:Aside (x=v.getD j 0):=hx;have S:=J.keepS (K5 wr (.cells #[.int .i64 x] 3));obtain⟨hrw,hbw⟩:=S.row j u _ hu hl;have hll:Ξ (vals[j])<=2000000:=by have:=HL.out j _ (Zaa hjv);omega
       obtain⟨u',w',hrun,T,H,hn'⟩:=qQ (vb:=wr.heap.size) (vc:=1) (x:=x) hrw hll (World.cell?_alloc_at _ _ _ _ rfl);obtain⟨ga',gc',eu',hga',_⟩:=X8 T;obtain⟨g2,rfl,hg2⟩:=hga' (Nat.succ_pos _)
       have hgu:Ai u≠θ g:=λh=>by
        have:=(hbw g h).1;have:=J.lt g B;omega
       have hgW:g<(wr.alloc (.cells #[.int .i64 x] 3)).heap.size:=by have:=J.lt g B;have:=J.keep.size;simp;omega
       have hgw':w'.heap[g]?=(wr.alloc (.cells #[.int .i64 x] 3)).heap[g]?:=H.block g hgW hgu;have hg0:(wr.alloc (.cells #[.int .i64 x] 3)).heap[g]?=wr.heap[g]?:=blk_alloc_lt _ _ _ (by have:=J.lt g B;have:=J.keep.size;omega);have hcW:∀o,(wr.alloc o).cell? ⟨g,j,none⟩=θ u:=λo=>by rw[World.cell?_of_block (w:=wr) (show(wr.alloc o).heap[g]?=wr.heap[g]? from blk_alloc_lt _ o _ (by have:=J.lt g B;have:=J.keep.size;omega))];exact hcu
       have hc1:w'.cell? ⟨g,j,none⟩=θ u:=by rw[World.cell?_of_block (w:=wr) (hgw'.trans hg0)];exact hcu
       have hc2:w'.frozen? ⟨g,j,none⟩=false:=by rw[World.frozen?_of_block (w:=wr) (hgw'.trans hg0)];simp[World.frozen?,hbh]
       have hjL:(j:Int)<(Ξ n:Int):=by have:=E.out;omega
       subst eu';have HH:Aside (_/\_/\_/\_/\_/\_/\_/\_/\_/\_/\_/\_):=⟨S,N,hqz,Z,Q,hu,hl,hbw,T,H,hn',B⟩;clear J N hqz Z Q hl hrw hbw T H hn' hB S hgw' hg0 hx hga' eg hbh hgu hgW e3 hul hvn
       go_wp2_with (at_builtin;refine Lib.wpList_append_run _ rfl _ _ _ _ rfl _ _ rfl rfl _ _ hrun ?_)
       go_roundg (Ξ v-(j+1))
       case measure=>go_light;omega
       case rel=>
        go_light
        obtain⟨S,N,hqz,Z,Q,hu,hl,hbw,T,H,hn',B⟩:=HH.out;have hstep:=S.step hu hl T H (λb hb=>⟨hn' b hb,T.lt hb⟩) B;have hset:=(show(YU (λ(l:Γ Int)(x:Int)=>l++[x]) vals v j).set j (vals[j]++[v[j]])=_ from vg (f:=λ(l:Γ Int)(x:Int)=>l++[x]) E.out hjv);have hxv:x=v[j]:=by rw[HX.out];simp[Zao,hjn]
        rw[hxv,hset]at hstep;refine⟨j+1,_,z0,rfl,by go_num,hstep,by rw[Zdo];exact N,?_,λb hb1 M=>?_,λi y b h1 h2=>?_⟩
        ·have:=H.size;simp at this ⊢;omega
        ·have hbg2:b≠g:=λe=>by have:=S.lt g B;have:=HZ.out;have:=HR.out.keep.size;omega
         have hbu:Ai u≠θ b:=λe=>by
          rcases Q j u b hu e with q|q<;>omega
         rw[blk_setCell_other _ _ _ _ (by show b≠g;exact hbg2),H.block b zv hbu,blk_alloc_lt _ _ _ z0];exact Z b hb1 M
        ·rw[Zbz]at h1;split at h1
         ·have:=(Zaf h1).symm;subst this;rcases hn' b h2 with q|q
          ·exact Q j u b hu q
          ·right;rw[q];simp;omega
         ·exact Q i y b h1 h2
      ·have hjz:¬((j:Int)<(Ξ v:Int)):=z0
       go_wp2_with fail
       go_roundg (Ξ cols-(k+1))
       case measure=>go_light;omega
       case rel=>
        go_light
        obtain⟨J,N,_,_,_⟩:=hB.out;have hjl:j=Ξ vals:=by have:=E.out;omega
        rw[hjl,ve E.out]at J;refine⟨k+1,G,_,z0,rfl,by go_num,J,N,λi l h=>?_,HF.out⟩;rw[List.getElem?_zipWith]at h
        cases h1:vals[i]? with
        | none=>simp[h1]at h
        | some l1=>
         cases h2:v[i]? with
         | none=>simp[h1,h2]at h
         | some x1=>
          simp[h1,h2]at h;rw[<-h];have:=HL.out i l1 h1;simp[this]
   ·have hkz:¬((k:Int)<(Ξ cols:Int)):=z0
    have p:=HS.out
    go_wp2_with fail
    rw[Zfn z0]at s;obtain rfl:=Zaf s;refine k_.out _ _ ⟨(),β,?_⟩
    exact p.exitRow [2,3,6,10,16,17] (q:=61) (ys:=φ (Aq 1 D.z) vals) j0 (λ_=>rfl) (by simp[AV.guards]) rfl rfl zs C.keep (λy hy=>by obtain⟨_,_,rfl⟩:=List.mem_map.1 hy;rfl)
     ⟨us,by rw[Zac,<-C.len];exact C.top,λO hO=>⟨by rw[nC,Zac];exact C.len,λi v y m hy=>by
      rw[nC,Zaz]at hy
      cases hl:vals[i]? with
      | none=>simp[hl]at hy
      | some l=>
       simp[hl]at hy;subst hy;obtain⟨h1,h2⟩:=C.row i v l m hl;exact⟨X7 h1 λb hb hOb=>by have:=(h2 b hb).1;have:=p.os_lt (hO b hOb);omega,rfl⟩⟩⟩
 refine E5 h (λ_=>hX.h _ _) λx93 h=>?_;refine Dn h (λh=>?_) λh=>?_
 ·conv=>whnf
  exact z29
 refine E5 h (λ_=>AM _ _) λx102 h=>?_
 conv=>whnf
 refine z17 ?_
 conv=>whnf
 refine⟨.inl ?_⟩;refine E5 h (λ_=>YaW.h _ _ _) λx108 h=>?_
 conv=>whnf
 obtain rfl:=Zaf h;exact⟨Kz⟩⟩
end
