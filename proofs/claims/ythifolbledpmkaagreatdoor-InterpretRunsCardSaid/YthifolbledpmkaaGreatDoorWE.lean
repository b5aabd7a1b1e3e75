/- WE -/
import Derived.Test.YthifolbledpmkaaGreatDoorWA
import Derived.Test.YthifolbledpmkaaGreatDoorFD
import Derived.Test.YthifolbledpmkaaGreatDoorWC
import Derived.Test.YthifolbledpmkaaGreatDoorFE
open List renaming length → Ξ
set_option linter.all false
open List renaming map → φ
namespace Go.Proofs.YthifolbledpmkaaGreatDoor.P
open Go Go.Deep Go.Abs Go.Proofs
set_option maxRecDepth 100000
set_option maxHeartbeats 4000000
instance Yah:ja 124 (W2 Lr):=⟨λe i R h=>by
 refine Vp [2000001] Tryz.func124 (by kernel_rfl) ?_;unfold Lr at h
 conv=>whnf
 refine By h λx s h=>?_;refine wN (C9 69 [(1,.l 2 Af i),(2,.ptr 2 1 0)] [(2,AI e,1)]) Unit (λ_=>C9 69 [(1,.l 2 Af i),(2,.ptr 2 1 0),(6,.sl 15 1)] [(2,AI e,1),(15,.row 1 35 (List.map (Aq 1 D.z) x),1)]) ?_ ?_ λ_=>?_
 ·exact CC
 ·intro X β a w o;obtain⟨tm,df⟩:=a;obtain⟨z,rfl⟩:∃l:Γ Ψ,tm=l.toArray:=⟨tm.toList,zs⟩;have g:Ξ z=69:=o.len;obtain rfl:df=[]:=o.df
  iterate 8 (replace g:=ax g;obtain⟨_,_,_,_,_,_,_,_,z,rfl,g⟩:=g)
  iterate 5 (replace g:=FG g;obtain⟨_,z,rfl,g⟩:=g)
  obtain rfl:=List.length_eq_zero_iff.1 g;clear g;have F:Aside _:=o;clear o;obtain rfl:=Zaf s;refine ai λK k=>?_
  go_wp2
  have o:=F.out
  refine k.out _ _ ⟨(),_,o.exitNew [1,2] (q:=15) (t:=6) j0 j0 zs zs (by simp[AV.guards]) rfl rfl zs rfl (K5 _ _) j0 (by simp[D.cells]) (λb G=>by simp[Ai]at G;omega)
   ⟨[.slice none 0 0],.inl ⟨rfl,.inr ⟨w.heap.size,1,_,rfl,Zag _,heap_alloc_new w _,Zam _,j0,rfl,rfl⟩⟩,λO=>⟨rfl,λj v y r hy=>?_⟩⟩⟩
  match j,r,hy with
  | 0,r,hy=>simp[D.cells]at r hy;subst r;subst hy;exact⟨.emp _ _ _,rfl⟩
  | j+1,r,hy=>simp at r
 conv=>whnf
 refine z11 h (λp=>C9 69 [(2,.ptr 2 1 0),(6,.l 1 (Aq 1 D.z) p.1),(16,.l 2 Af i),(17,.i (Ξ i:Int)),(18,.i p.2)] [(2,AI e,1)]) CC λ_ _ ⟨c,d⟩ h=>?_;simp only[Kv]at h;refine Dn h (λh=>?_) λh=>?_
 ·refine Ry (f:=Af) h λH _ h=>?_
  conv=>whnf
  refine z17 ?_;refine Ry (f:=Aw) h λI _ h=>?_;refine Ry (f:=Ak) h λJ _ h=>?_;refine E5 h (λ_=>YaF.h _ _ _) λm h=>?_
  conv=>whnf
  refine SU h λhr h=>?_;refine z12 ?_
  try rw[iQ]
  refine Dn h (λh=>?_) λh=>?_
  ·conv=>whnf
   exact z32
  conv=>whnf
  refine z11 h (λp=>C9 69 [(2,.ptr 2 1 0),(9,.sl 22 1),(10,.sl 10 1),(16,.l 2 Af i),(17,.i (Ξ i:Int)),(18,.i d),(44,.l 1 (Aq 1 D.z) c),(45,.i (Ξ c:Int)),(46,.i p.1)] [(2,AI e,1),(10,.row 1 35 (List.map (Aq 1 D.z) p.2),1),(22,.row 1 3 (List.map D.z ([(-1)]++m)),1)]) CC λ_ _ ⟨n,A⟩ h=>?_;simp only[Kw]at h;refine Dn h (λh=>?_) λh=>?_
  ·refine Ry (f:=(Aq 1 D.z)) h λB _ h=>?_
   conv=>whnf
   refine z11 h (λp=>C9 69 [(2,.ptr 2 1 0),(9,.sl 22 1),(10,.sl 10 1),(12,.l 1 D.z B),(16,.l 2 Af i),(17,.i (Ξ i:Int)),(18,.i d),(44,.l 1 (Aq 1 D.z) c),(45,.i (Ξ c:Int)),(46,.i n),(50,.sl 22 1),(51,.i (Ξ ([(-1)]++m):Int)),(52,.i p.1)] [(2,AI e,1),(10,.row 1 35 (List.map (Aq 1 D.z) p.2),1),(22,.row 1 3 (List.map D.z ([(-1)]++m)),1)]) CC λ_ _ ⟨C,E⟩ h=>?_;simp only[Kx]at h;refine Dn h (λh=>?_) λh=>?_
   ·refine T4 (f:=D.z) h GK λL u h=>?_;refine fk (f:=D.z) u GK ?_;refine E5 h (λ_=>AM _ _) λM h=>?_
    conv=>whnf
    refine SU h λhr h=>?_;refine z12 ?_
    try rw[ym]
    conv=>whnf
    refine SU h λhr h=>?_;refine z12 ?_
    try rw[s9]
    conv=>whnf
    exact sP ⟨(_,(_,_)),h⟩ CC
   conv=>whnf
   exact sP ⟨(_,(_,_)),h⟩ CC
  conv=>whnf
  exact sP ⟨(_,(_,_)),h⟩ CC
 conv=>whnf
 obtain rfl:=Zaf h;exact⟨qv⟩⟩
instance Ybd:jb 57 W5 Ik:=⟨λd E i p2 p3 c R h=>by
 refine vB 10 [18,21,2000016] Tryz.func57 (by kernel_rfl) ?_;unfold Ik at h;refine E5 h (λ_=>qw.h _ _ _) λx29 h=>?_;refine Ky h λh=>?_;refine E5 h (λ_=>jf.h _ _ _ _ _ _) λx38 h=>?_;refine Ky h λh=>?_
 conv=>whnf
 refine z17 ?_;refine E5 h (λ_=>GS.h _ _ _ _) λx50 h=>?_;refine E5 h (λ_=>vz.h _ _ _) λx51 h=>?_;refine Ky h λh=>?_;refine E5 h (λ_=>Yah.h _ _ _) λF h=>?_;refine Ky h λh=>?_
 conv=>whnf
 refine z17 ?_;refine E5 h (λ_=>vD.h _ _) λr h=>?_;refine Dd {p:(Γ Ap)//LR p3 d E i c p2 r p=some R} (λp=>C9 149 [(2,.l 2 Af p2),(5,.ptr 5 1 0),(6,.ptr 6 1 0),(8,.ptr 8 1 0),(9,.ptr 9 1 0),(10,.ptr 10 1 0),(16,.ptr 16 1 0)] [(5,AI E,1),(6,Du i,1),(8,.var [.i p3],1),(9,LW c,1),(10,.var zTV,1),(16,.var [.l 2 Af r,.i p3,.sl 78 1],1),(78,.row 7 140 (φ C4 p.1),1)]) ?_ λp=>?_
 ·conv=>whnf
  refine ED h λP1 i1 h=>?_;refine og [(16,2,78,140)] {p:Nat×(Int×(Γ Ap))//P1 p.1 p.2=some R} (λp=>C9 149 [(2,.l 2 Af p2),(5,.ptr 5 1 0),(6,.ptr 6 1 0),(8,.ptr 8 1 0),(9,.ptr 9 1 0),(10,.ptr 10 1 0),(16,.ptr 16 1 0),(67,.l 1 (Aq 1 D.z) F.1),(68,.i (Ξ F.1:Int)),(69,.i p.1.2.1)] [(5,AI E,1),(6,Du i,1),(8,.var [.i p3],1),(9,LW c,1),(10,.var zTV,1),(16,.var [.l 2 Af r,.i p3,.sl 78 1],1),(78,.row 7 140 (φ C4 p.1.2.2),1)]) (λp=>p.1.1) ⟨(_,(_,_)),h⟩ ?_ λp=>?_
  ·conv=>whnf
   exact wW
  obtain⟨⟨k1,⟨M,g⟩⟩,h⟩:=p;obtain⟨k1,rfl,h⟩:=i1 _ _ h;simp only[LQ]at h;refine Dn h (λh=>?_) λh=>?_
  ·refine Ry (f:=(Aq 1 D.z)) h λN _ h=>?_
   conv=>whnf
   refine By h λyr16 hyr16 h=>?_;refine wN (C9 149 [(2,.l 2 Af p2),(5,.ptr 5 1 0),(6,.ptr 6 1 0),(8,.ptr 8 1 0),(9,.ptr 9 1 0),(10,.ptr 10 1 0),(16,.ptr 16 1 0),(18,.l 1 D.z N),(67,.l 1 (Aq 1 D.z) F.1),(68,.i (Ξ F.1:Int)),(69,.i M)] [(5,AI E,1),(6,Du i,1),(8,.var [.i p3],1),(9,LW c,1),(10,.var zTV,1),(16,.var [.l 2 Af r,.i p3,.sl 78 1],1),(78,.row 7 140 (φ C4 g),1)]) Unit (λ_=>C9 149 [(2,.l 2 Af p2),(5,.ptr 5 1 0),(6,.ptr 6 1 0),(8,.ptr 8 1 0),(9,.ptr 9 1 0),(10,.ptr 10 1 0),(16,.ptr 16 1 0),(67,.l 1 (Aq 1 D.z) F.1),(68,.i (Ξ F.1:Int)),(69,.i M)] [(5,AI E,1),(6,Du i,1),(8,.var [.i p3],1),(9,LW c,1),(10,.var zTV,1),(16,.var [.l 2 Af r,.i p3,.sl 78 2],1),(78,.row 7 140 (φ C4 yr16),2)]) ?_ ?_ λ_=>?_
   ·exact Bu
   ·intro X β a w A;obtain⟨tm,df⟩:=a;obtain⟨l0,rfl⟩:∃l:Γ Ψ,tm=l.toArray:=⟨tm.toList,zs⟩;have H:Ξ l0=149:=A.len;obtain rfl:df=[]:=A.df
    iterate 18 (replace H:=ax H;obtain⟨_,_,_,_,_,_,_,_,l0,rfl,H⟩:=H)
    iterate 5 (replace H:=FG H;obtain⟨_,l0,rfl,H⟩:=H)
    obtain rfl:=List.length_eq_zero_iff.1 H;clear H;refine ai λK k_=>?_;obtain⟨hr0,H⟩:=iN hyr16;obtain rfl:=Zaf H;have hn0:=Zal hr0;obtain⟨s,cv,T16,B,I,zcv,c16⟩:=V4 A 16 rfl;obtain⟨u,q2,L⟩:=c16 2 _ rfl;have k20:u=β 78:=L.2 rfl;clear L;have L:=k20;clear k20;obtain⟨_,T,t16⟩:=V3 A 16 rfl rfl rfl;have T:=B.symm.trans T;simp at T;subst T;have d18:=eh A 18 rfl rfl;obtain⟨a18,c18,b18,o18,t18,_⟩:=JF d18;have hbx:LZ β _ _ w 78 (.row 7 140 (φ C4 g)):=A.boxes 78;obtain⟨_,_,vals,P,hL⟩:=hbx;rw[Zac,<-L]at P;have hM:=bT A 78 rfl;have U:=bT A 16 rfl;rw[<-L]at hM;have nbv:Ai u≠some s:=λh=>by have:=A.inj 16 78 s rfl rfl (by rw[B];rfl) (by rw[<-L];exact h);cases this
    have ltv:s<w.heap.size:=World.block_lt_of_cell? _ _ q2;have hrW:=P.mono (w':=w.alloc (.cells #[.slice a18 (Ξ N) c18,.int .i64 0,.int .i64 0,.int .i64 0,.int .i64 0,.int .i64 0,.slice none 0 0] 140)) (λb V _=>blk_alloc_lt w _ b V)
    obtain⟨u',w',hrun,Q,n,S⟩:=yH (t:=61) (e:=140) (z:=.agg #[.slice none 0 0,.int .i64 0,.int .i64 0,.int .i64 0,.int .i64 0,.int .i64 0,.slice none 0 0]) (sz:=7) (bytes:=88) (by kernel_rfl) (by kernel_rfl) rfl j0 (vb:=w.heap.size) (vc:=1)
     (ws:=[.slice a18 (Ξ N) c18,.int .i64 0,.int .i64 0,.int .i64 0,.int .i64 0,.int .i64 0,.slice none 0 0]) hrW hn0 j0 rfl (by simp[Value.oneCell']) (λj x hj=>by rw[World.cell?_alloc_at _ _ _ _ rfl];simpa using hj)
    obtain⟨W,Y,eu',hga',_⟩:=X8 Q;have hcw:∀o,(w.alloc o).cell? ⟨s,2,none⟩=some u:=λo=>by rw[World.cell?_of_block (w:=w) (show(w.alloc o).heap[s]?=w.heap[s]? from blk_alloc_lt _ _ _ ltv)];exact q2
    have J:w'.heap[s]?=w.heap[s]?:=by rw[n.block s zv nbv];exact blk_alloc_lt _ _ _ ltv
    have hc1:w'.cell? ⟨s,2,none⟩=some u:=by rw[World.cell?_of_block (w:=w) J];exact q2
    have hc2:w'.frozen? ⟨s,2,none⟩=false:=by rw[World.frozen?_of_block (w:=w) J];simp[World.frozen?,I]
    have HS:Aside _:=A;have HH:Aside (_/\_/\_/\_/\_/\_/\_/\_/\_/\_/\_/\_):=⟨Q,n,S,B,I,hL,hM,U,J,L,d18,t18⟩;have hu'0:=eu';rw[eu']at hrun;subst t16;subst t18;have HU:Aside _:=hu'0;clear A Q n S B I hL hM U J L d18 eu' hu'0 hga' P hrW c16 zcv hr0 H
    go_wp2_with (at_builtin;refine Lib.wpList_append_run _ rfl _ _ _ _ rfl _ _ rfl rfl _ _ hrun ?_)
    obtain⟨Q,n,S,B,I,hL,hM,U,J,L,d18,t18⟩:=HH.out;have A:=HS.out
    have hB:AC w.heap.size (λb=>Ai (β 78)=some b\/b=s) w (w'.setCell ⟨s,2,none⟩ (.slice W (Ξ g+1) Y)):=⟨n.os,n.tape,n.output,by have:=n.size;simp at this ⊢;omega,λk hk hn=>by
     rw[blk_setCell_other _ _ _ _ (show k≠s from λe=>hn (.inr e)),n.block k zv (λh=>hn (.inl (by rw[<-L];exact h)))];exact blk_alloc_lt _ _ _ hk⟩
    have hkp:∀O:Nat->Prop,(∀b,b<w.heap.size->O b->OS β X _ b)->Cg _ O w (w'.setCell ⟨s,2,none⟩ (.slice W (Ξ g+1) Y)):=λO h=>⟨hB.size,h,λb V hno=>hB.block b V λh=>hno (h.elim (λh=>hM b (by rw[L];exact h)) (λh=>U b (by rw[B,h];rfl)))⟩;have hu':=HU.out
    refine k_.out _ _ ⟨(),Pn β 78 (.slice W (Ξ g+1) Y),SimB.conv (A.exitApp [2,5,6,8,9,10,16,67,68,69] (q:=78) (vb:=16) (j:=2) (ys:=φ C4 (g++[{ X:=N,Z:=0,Bc:=0,Be:=0,A7:=0,Ba:=0,G:=[] }])) (u':=.slice W (Ξ g+1) Y) j0 j0 j0 (λ_=>rfl) (λ_=>rfl) (by simp[AV.guards]) (ud (λ_=>rfl) λ_=>rfl) rfl rfl zs B I (heap_setCell_same _ _ _ _ _ _ (J.trans I)) hB (λb V=>by
     rw[<-hu']at V;rcases S b V with h|h
     ·exact .inl (by rw[<-L];exact h)
     ·right;rw[h];simp) (λy hy=>by obtain⟨_,_,rfl⟩:=List.mem_map.1 hy;rfl) ?_) (by kernel_rfl)⟩
    refine⟨vals++[.slice a18 (Ξ N) c18,.int .i64 0,.int .i64 0,.int .i64 0,.int .i64 0,.int .i64 0,.slice none 0 0],?_,λO h1 h2=>?_⟩
    rotate_left
    ·rw[Zay,Zcw];refine(hL.mono (hkp O h1)).append ⟨rfl,λj v y m hy=>?_⟩;have d18':=A5.mono (hkp O h1) d18
     match j,m,hy with
     | 0,m,hy=>simp at m;simp[C4,D.cells]at hy;subst m;subst hy;exact⟨d18',rfl⟩
     | 1,m,hy=>simp at m;simp[C4,D.cells]at hy;subst m;subst hy;exact⟨.int _ _,rfl⟩
     | 2,m,hy=>simp at m;simp[C4,D.cells]at hy;subst m;subst hy;exact⟨.int _ _,rfl⟩
     | 3,m,hy=>simp at m;simp[C4,D.cells]at hy;subst m;subst hy;exact⟨.int _ _,rfl⟩
     | 4,m,hy=>simp at m;simp[C4,D.cells]at hy;subst m;subst hy;exact⟨.int _ _,rfl⟩
     | 5,m,hy=>simp at m;simp[C4,D.cells]at hy;subst m;subst hy;exact⟨.int _ _,rfl⟩
     | 6,m,hy=>simp at m;simp[C4,D.cells]at hy;subst m;subst hy;exact⟨.nil _,rfl⟩
     | j+7,m,hy=>simp at m
    ·rw[Zac,Zar,<-hu']
     exact Q.mono λb V hbl=>blk_setCell_other _ _ _ _ (show b≠s from λe=>by
      rcases S b hbl with h|h
      ·exact nbv (by rw[<-e];exact h)
      ·simp at h;omega)
   conv=>whnf
   exact sP ⟨(_,(_,_)),h⟩ Bu
  exact z30
 obtain⟨C,h⟩:=p;simp only[LR]at h;refine Dd {p:(Γ Int)//IL d E i c p2 p3 C r p=some R} (λp=>C9 149 [(2,.l 2 Af p2),(5,.ptr 5 1 0),(6,.ptr 6 1 0),(8,.ptr 8 1 0),(9,.ptr 9 1 0),(10,.ptr 10 1 0),(16,.ptr 16 1 0),(19,.l 1 D.z p.1)] [(5,AI E,1),(6,Du i,1),(8,.var [.i p3],1),(9,LW c,1),(10,.var zTV,1),(16,.var [.l 2 Af r,.i p3,.sl 78 1],1),(78,.row 7 140 (φ C4 C),1)]) ?_ λp=>?_
 ·refine Dn h (λh=>?_) λh=>?_
  ·exact z30
  exact z30
 obtain⟨j19_2,h⟩:=p;simp only[IL]at h;refine E5 h (λ_=>Yae.h _ _ _ _ _ _) λx89 h=>?_
 conv=>whnf
 refine By h λy2 hy2 h=>?_;obtain rfl:=Zaf h;refine Ae4 (C9 149 [(2,.l 2 Af p2),(5,.ptr 5 1 0),(6,.ptr 6 1 0),(8,.ptr 8 1 0),(10,.ptr 10 1 0),(16,.ptr 16 1 0),(89,.l 1 D.z x89),(90,.i (Ξ x89:Int)),(91,.i 0)] [(5,AI E,1),(6,Du i,1),(8,.var [.i p3],1),(10,.var zTV,1),(16,.var [.l 2 Af r,.i p3,.sl 78 1],1),(78,.row 7 140 (φ C4 C),1)]) ?_ ?_
 ·exact Bu
 ·intro X β a w hM V A;exact ug yk.h Yaq.h hV.h hy2 hM V A⟩
