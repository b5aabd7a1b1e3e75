/- P3W11 -/
import Derived.Test.YtaojdkijihbaoaaGreatDoorP3W8
import Derived.Test.YtaojdkijihbaoaaGreatDoorP3W9
import Derived.Test.YtaojdkijihbaoaaGreatDoorP3W10
import Derived.Test.YtaojdkijihbaoaaGreatDoorFE
set_option linter.all false
namespace Go.Proofs.YtaojdkijihbaoaaGreatDoor.P
open Go Go.Deep Go.Abs Go.Proofs
set_option maxRecDepth 100000
set_option maxHeartbeats 4000000
instance tabulate_Make_w:CS Tryz.prog 88 (∀d:Nat,W5 Tryz.prog 88 (Dy d)):=⟨λd E i p2 p3 c R h=>by
 refine lx 10 [18,21,2000016] Tryz.func88 (by kernel_rfl) ?_;unfold Dy at h;refine Fx h (λ_=>extract_Check_w.h _ _ _) λx29 h=>?_;refine Ih h λh=>?_;refine Fx h (λ_=>tabulate_ask_w.h _ _ _ _ _ _) λx38 h=>?_;refine Ih h λh=>?_
 conv=>whnf
 refine z13 ?_;refine Fx h (λ_=>types_Needs_w.h _ _ _ _) λx50 h=>?_;refine Fx h (λ_=>condition_Covers_w.h _ _ _) λx51 h=>?_;refine Ih h λh=>?_;refine Fx h (λ_=>tabulate_lists_w.h _ _ _) λF h=>?_;refine Ih h λh=>?_
 conv=>whnf
 refine z13 ?_;refine Fx h (λ_=>slices_Clone_Lapi_Pick_api_Pick_w.h _ _) λr h=>?_;refine Gj {p:(List An) // Et p3 d E i c p2 r p=some R} (λp=>Dk 149 [(2,.l 2 Ah p2),(5,.ptr 5 1 0),(6,.ptr 6 1 0),(8,.ptr 8 1 0),(9,.ptr 9 1 0),(10,.ptr 10 1 0),(16,.ptr 16 1 0)] [(5,.var [.l 2 Ai E.K,.l 7 Am E.A],1),(6,.var [.t i.Ae,.i i.Ag,.l 2 Ah i.E,.l 1 (Ao 1 D.z) i.G],1),(8,.var [.i p3],1),(9,.var [.i c.Op,.i c.B,.i c.Z,.i c.C,.i c.D,.l 6 A3 c.H],1),(10,.var [.n 2,.i 0,.n 7],1),(16,.var [.l 2 Ah r,.i p3,.sl 78 1],1),(78,.row 7 166 (List.map Cc p.1),1)]) ?_ λp=>?_
 ·conv=>whnf
  refine Hq h λP1 i1 h=>?_;refine dA [(16,2,78,166)] {p:Nat×(Int×(List An)) // P1 p.1 p.2=some R} (λp=>Dk 149 [(2,.l 2 Ah p2),(5,.ptr 5 1 0),(6,.ptr 6 1 0),(8,.ptr 8 1 0),(9,.ptr 9 1 0),(10,.ptr 10 1 0),(16,.ptr 16 1 0),(67,.l 1 (Ao 1 D.z) F.1),(68,.i (F.1.length:Int)),(69,.i p.1.2.1)] [(5,.var [.l 2 Ai E.K,.l 7 Am E.A],1),(6,.var [.t i.Ae,.i i.Ag,.l 2 Ah i.E,.l 1 (Ao 1 D.z) i.G],1),(8,.var [.i p3],1),(9,.var [.i c.Op,.i c.B,.i c.Z,.i c.C,.i c.D,.l 6 A3 c.H],1),(10,.var [.n 2,.i 0,.n 7],1),(16,.var [.l 2 Ah r,.i p3,.sl 78 1],1),(78,.row 7 166 (List.map Cc p.1.2.2),1)]) (λp=>p.1.1) ⟨(_,(_,_)),h⟩ ?_ λp=>?_
  ·conv=>whnf
   exact rO
  obtain⟨⟨k1,⟨M,g⟩⟩,h⟩:=p;obtain⟨k1,rfl,h⟩:=i1 _ _ h;simp only[P4]at h;refine EA h (λh=>?_) λh=>?_
  ·refine Sk (f:=(Ao 1 D.z)) h λN _ h=>?_
   conv=>whnf
   refine BD h λyr16 hyr16 h=>?_;refine mz (Dk 149 [(2,.l 2 Ah p2),(5,.ptr 5 1 0),(6,.ptr 6 1 0),(8,.ptr 8 1 0),(9,.ptr 9 1 0),(10,.ptr 10 1 0),(16,.ptr 16 1 0),(18,.l 1 D.z N),(67,.l 1 (Ao 1 D.z) F.1),(68,.i (F.1.length:Int)),(69,.i M)] [(5,.var [.l 2 Ai E.K,.l 7 Am E.A],1),(6,.var [.t i.Ae,.i i.Ag,.l 2 Ah i.E,.l 1 (Ao 1 D.z) i.G],1),(8,.var [.i p3],1),(9,.var [.i c.Op,.i c.B,.i c.Z,.i c.C,.i c.D,.l 6 A3 c.H],1),(10,.var [.n 2,.i 0,.n 7],1),(16,.var [.l 2 Ah r,.i p3,.sl 78 1],1),(78,.row 7 166 (List.map Cc g),1)]) Unit (λ_=>Dk 149 [(2,.l 2 Ah p2),(5,.ptr 5 1 0),(6,.ptr 6 1 0),(8,.ptr 8 1 0),(9,.ptr 9 1 0),(10,.ptr 10 1 0),(16,.ptr 16 1 0),(67,.l 1 (Ao 1 D.z) F.1),(68,.i (F.1.length:Int)),(69,.i M)] [(5,.var [.l 2 Ai E.K,.l 7 Am E.A],1),(6,.var [.t i.Ae,.i i.Ag,.l 2 Ah i.E,.l 1 (Ao 1 D.z) i.G],1),(8,.var [.i p3],1),(9,.var [.i c.Op,.i c.B,.i c.Z,.i c.C,.i c.D,.l 6 A3 c.H],1),(10,.var [.n 2,.i 0,.n 7],1),(16,.var [.l 2 Ah r,.i p3,.sl 78 2],1),(78,.row 7 166 (List.map Cc yr16),2)]) ?_ ?_ λ_=>?_
   ·exact Bq
   ·intro X β a w A;obtain⟨tm,df⟩:=a;obtain⟨l0,rfl⟩:∃l:List Value,tm=l.toArray:=⟨tm.toList,by simp⟩;have H:l0.length=149:=A.len;obtain rfl:df=[]:=A.df
    iterate 18 (replace H:=U9 H;obtain⟨_,_,_,_,_,_,_,_,l0,rfl,H⟩:=H)
    iterate 5 (replace H:=E7 H;obtain⟨_,l0,rfl,H⟩:=H)
    obtain rfl:=List.length_eq_zero_iff.1 H;clear H;refine U1 λK k_=>?_;obtain⟨hr0,H⟩:=Wj hyr16;obtain rfl:=uc H;have hn0:=uf hr0;obtain⟨s,cv,T16,B,I,zcv,c16⟩:=PN A 16 rfl;obtain⟨u,q2,L⟩:=c16 2 _ rfl;have k20:u=β 78:=L.2 rfl;clear L;have L:=k20;clear k20;obtain⟨_,U,t16⟩:=PM A 16 rfl rfl rfl;have U:=B.symm.trans U;simp at U;subst U;have d18:=WN A 18 rfl rfl;obtain⟨a18,c18,b18,o18,t18,_⟩:=Ht d18;have hbx:IU β _ _ w 78 (.row 7 166 (List.map Cc g)):=A.boxes 78;obtain⟨_,_,vals,P,hL⟩:=hbx;rw[ua,<-L]at P;have hM:=Vq A 78 rfl;have V:=Vq A 16 rfl;rw[<-L]at hM;have nbv:Ae u≠some s:=λh=>by have:=A.inj 16 78 s rfl rfl (by rw[B];rfl) (by rw[<-L];exact h);cases this
    have ltv:s<w.heap.size:=World.block_lt_of_cell? _ _ q2;have hrW:=P.mono (w':=w.alloc (.cells #[.slice a18 N.length c18,.int .i64 0,.int .i64 0,.int .i64 0,.int .i64 0,.int .i64 0,.slice none 0 0] 166)) (λb W _=>blk_alloc_lt w _ b W)
    obtain⟨u',w',hrun,S,n,T⟩:=oG (t:=103) (e:=166) (z:=.agg #[.slice none 0 0,.int .i64 0,.int .i64 0,.int .i64 0,.int .i64 0,.int .i64 0,.slice none 0 0]) (sz:=7) (bytes:=88) (by kernel_rfl) (by kernel_rfl) rfl (by decide) (vb:=w.heap.size) (vc:=1)
     (ws:=[.slice a18 N.length c18,.int .i64 0,.int .i64 0,.int .i64 0,.int .i64 0,.int .i64 0,.slice none 0 0]) hrW hn0 (by decide) rfl (by simp[Value.oneCell']) (λj x hj=>by rw[World.cell?_alloc_at _ _ _ _ rfl];simpa using hj)
    obtain⟨Y,Z,eu',hga',_⟩:=Rt S;have hcw:∀o,(w.alloc o).cell? ⟨s,2,none⟩=some u:=λo=>by rw[World.cell?_of_block (w:=w) (show(w.alloc o).heap[s]?=w.heap[s]? from blk_alloc_lt _ _ _ ltv)];exact q2
    have J:w'.heap[s]?=w.heap[s]?:=by rw[n.block s (by simp;omega) nbv];exact blk_alloc_lt _ _ _ ltv
    have hc1:w'.cell? ⟨s,2,none⟩=some u:=by rw[World.cell?_of_block (w:=w) J];exact q2
    have hc2:w'.frozen? ⟨s,2,none⟩=false:=by rw[World.frozen?_of_block (w:=w) J];simp[World.frozen?,I]
    have HS:Aside _:=A;have HH:Aside (_/\_/\_/\_/\_/\_/\_/\_/\_/\_/\_/\_):=⟨S,n,T,B,I,hL,hM,V,J,L,d18,t18⟩;have hu'0:=eu';rw[eu']at hrun;subst t16;subst t18;have HU:Aside _:=hu'0;clear A S n T B I hL hM V J L d18 eu' hu'0 hga' P hrW c16 zcv hr0 H
    go_wp2_with (at_builtin;refine Lib.wpList_append_run _ rfl _ _ _ _ rfl _ _ rfl rfl _ _ hrun ?_)
    obtain⟨S,n,T,B,I,hL,hM,V,J,L,d18,t18⟩:=HH.out;have A:=HS.out
    have hB:A8 w.heap.size (λb=>Ae (β 78)=some b\/b=s) w (w'.setCell ⟨s,2,none⟩ (.slice Y (g.length+1) Z)):=⟨n.os,n.tape,n.output,by have:=n.size;simp at this ⊢;omega,λk hk hn=>by
     rw[blk_setCell_other _ _ _ _ (show k≠s from λe=>hn (.inr e)),n.block k (by simp;omega) (λh=>hn (.inl (by rw[<-L];exact h)))];exact blk_alloc_lt _ _ _ hk⟩
    have hkp:∀O:Nat->Prop,(∀b,b<w.heap.size->O b->OS β X _ b)->BA _ O w (w'.setCell ⟨s,2,none⟩ (.slice Y (g.length+1) Z)):=λO h=>⟨hB.size,h,λb W hno=>hB.block b W λh=>hno (h.elim (λh=>hM b (by rw[L];exact h)) (λh=>V b (by rw[B,h];rfl)))⟩;have hu':=HU.out
    refine k_.out _ _ ⟨(),Lg β 78 (.slice Y (g.length+1) Z),SimB.conv (A.exitApp [2,5,6,8,9,10,16,67,68,69] (q:=78) (vb:=16) (j:=2) (ys:=List.map Cc (g++[{ Q:=N,Af:=0,A6:=0,A8:=0,Ba:=0,Bg:=0,G:=[] }])) (u':=.slice Y (g.length+1) Z) (by decide) (by decide) (by decide) (λ_=>rfl) (λ_=>rfl) (by simp[AV.guards]) (jX (λ_=>rfl) (λ_=>rfl)) rfl rfl (by simp) B I (heap_setCell_same _ _ _ _ _ _ (J.trans I)) hB (λb W=>by
     rw[<-hu']at W;rcases T b W with h|h
     ·exact .inl (by rw[<-L];exact h)
     ·right;rw[h];simp) (λy hy=>by obtain⟨_,_,rfl⟩:=List.mem_map.1 hy;rfl) ?_) (by kernel_rfl)⟩
    refine⟨vals++[.slice a18 N.length c18,.int .i64 0,.int .i64 0,.int .i64 0,.int .i64 0,.int .i64 0,.slice none 0 0],?_,λO h1 h2=>?_⟩
    rotate_left
    ·rw[uI,wO];refine(hL.mono (hkp O h1)).append ⟨rfl,λj v y m hy=>?_⟩;have d18':=Ay.mono (hkp O h1) d18
     match j,m,hy with
     | 0,m,hy=>simp at m;simp[Cc,D.cells]at hy;subst m;subst hy;exact⟨d18',rfl⟩
     | 1,m,hy=>simp at m;simp[Cc,D.cells]at hy;subst m;subst hy;exact⟨.int _ _,rfl⟩
     | 2,m,hy=>simp at m;simp[Cc,D.cells]at hy;subst m;subst hy;exact⟨.int _ _,rfl⟩
     | 3,m,hy=>simp at m;simp[Cc,D.cells]at hy;subst m;subst hy;exact⟨.int _ _,rfl⟩
     | 4,m,hy=>simp at m;simp[Cc,D.cells]at hy;subst m;subst hy;exact⟨.int _ _,rfl⟩
     | 5,m,hy=>simp at m;simp[Cc,D.cells]at hy;subst m;subst hy;exact⟨.int _ _,rfl⟩
     | 6,m,hy=>simp at m;simp[Cc,D.cells]at hy;subst m;subst hy;exact⟨.nil _ _,rfl⟩
     | j+7,m,hy=>simp at m
    ·rw[ua,uV,<-hu']
     exact S.mono λb W hbl=>blk_setCell_other _ _ _ _ (show b≠s from λe=>by
      rcases T b hbl with h|h
      ·exact nbv (by rw[<-e];exact h)
      ·simp at h;omega)
   conv=>whnf
   exact kW ⟨(_,(_,_)),h⟩ Bq
  exact z22
 obtain⟨C,h⟩:=p;simp only[Et]at h;refine Gj {p:(List Int) // Fv d E i c p2 p3 C r p=some R} (λp=>Dk 149 [(2,.l 2 Ah p2),(5,.ptr 5 1 0),(6,.ptr 6 1 0),(8,.ptr 8 1 0),(9,.ptr 9 1 0),(10,.ptr 10 1 0),(16,.ptr 16 1 0),(19,.l 1 D.z p.1)] [(5,.var [.l 2 Ai E.K,.l 7 Am E.A],1),(6,.var [.t i.Ae,.i i.Ag,.l 2 Ah i.E,.l 1 (Ao 1 D.z) i.G],1),(8,.var [.i p3],1),(9,.var [.i c.Op,.i c.B,.i c.Z,.i c.C,.i c.D,.l 6 A3 c.H],1),(10,.var [.n 2,.i 0,.n 7],1),(16,.var [.l 2 Ah r,.i p3,.sl 78 1],1),(78,.row 7 166 (List.map Cc C),1)]) ?_ λp=>?_
 ·refine EA h (λh=>?_) λh=>?_
  ·exact z22
  exact z22
 obtain⟨j19_2,h⟩:=p;simp only[Fv]at h;refine Fx h (λ_=>tabulate_Counts_w.h _ _ _ _ _ _) λx89 h=>?_
 conv=>whnf
 refine BD h λy2 hy2 h=>?_;obtain rfl:=uc h;refine td (Dk 149 [(2,.l 2 Ah p2),(5,.ptr 5 1 0),(6,.ptr 6 1 0),(8,.ptr 8 1 0),(10,.ptr 10 1 0),(16,.ptr 16 1 0),(89,.l 1 D.z x89),(90,.i (x89.length:Int)),(91,.i 0)] [(5,.var [.l 2 Ai E.K,.l 7 Am E.A],1),(6,.var [.t i.Ae,.i i.Ag,.l 2 Ah i.E,.l 1 (Ao 1 D.z) i.G],1),(8,.var [.i p3],1),(10,.var [.n 2,.i 0,.n 7],1),(16,.var [.l 2 Ah r,.i p3,.sl 78 1],1),(78,.row 7 166 (List.map Cc C),1)]) ?_ ?_
 ·exact Bq
 ·intro X β a w hM W A;exact jZ tabulate_Values_w.h extract_Known_w.h tabulate_inside_w.h hy2 hM W A⟩
