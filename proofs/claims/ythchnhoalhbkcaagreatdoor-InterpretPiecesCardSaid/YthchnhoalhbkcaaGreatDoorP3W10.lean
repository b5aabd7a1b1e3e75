/- P3W10 -/
import Derived.Test.YthchnhoalhbkcaaGreatDoorP3W7
import Derived.Test.YthchnhoalhbkcaaGreatDoorP3W8
import Derived.Test.YthchnhoalhbkcaaGreatDoorP3W9
import Derived.Test.YthchnhoalhbkcaaGreatDoorFE
set_option linter.unusedSimpArgs false
set_option linter.unusedVariables false
namespace Go.Proofs.YthchnhoalhbkcaaGreatDoor.P
open Go Go.Deep Go.Abs Go.Proofs
set_option maxRecDepth 100000
set_option maxHeartbeats 4000000
instance tabulate_Make_w:CS Tryz.prog 55 (∀d:Nat,W5 Tryz.prog 55 (II d)):=⟨λd p0 p1 p2 p3 p4 R h=>by
 refine iT 10 [18,21,2000016] Tryz.func55 (by kernel_rfl) ?_;unfold II at h;refine FV h (λ_=>extract_Check_w.h _ _ _) λx29 h=>?_;refine I1 h λh=>?_;refine FV h (λ_=>tabulate_ask_w.h _ _ _ _ _ _) λx38 h=>?_;refine I1 h λh=>?_
 conv=>whnf
 refine z14 ?_;refine FV h (λ_=>types_Needs_w.h _ _ _ _) λx50 h=>?_;refine FV h (λ_=>condition_Covers_w.h _ _ _) λx51 h=>?_;refine I1 h λh=>?_;refine FV h (λ_=>tabulate_lists_w.h _ _ _) λx57 h=>?_;refine I1 h λh=>?_
 conv=>whnf
 refine z14 ?_;refine FV h (λ_=>slices_Clone_Lapi_Pick_api_Pick_w.h _ _) λx64 h=>?_;refine Fl {p:(List Aq) // Iz p3 d p0 p1 p4 p2 x64 p=some R} (λp=>CJ 149 [(2,.d (An 2 Ag p2)),(5,.ptr 5 1 0),(6,.ptr 6 1 0),(8,.ptr 8 1 0),(9,.ptr 9 1 0),(10,.ptr 10 1 0),(16,.ptr 16 1 0)] [(5,.var [.d (An 2 Ah p0.J),.d (An 7 Al p0.A)],1),(6,.var [.d (.str p1.Af),.d (.int .i64 p1.Ag),.d (An 2 Ag p1.X),.d (An 1 (An 1 (D.int .i64)) p1.G)],1),(8,.var [.d (.int .i64 p3)],1),(9,.var [.d (.int .i64 p4.Op),.d (.int .i64 p4.B),.d (.int .i64 p4.Z),.d (.int .i64 p4.C),.d (.int .i64 p4.D),.d (An 6 A4 p4.E)],1),(10,.var [.d (.nil 2),.d (.int .i64 0),.d (.nil 7)],1),(16,.var [.d (An 2 Ag x64),.d (.int .i64 p3),.sl 78 1],1),(78,.row 7 141 (List.map BM p.1),1)]) ?_ λp=>?_
 ·conv=>whnf
  refine GN h λP1 i1 h=>?_;refine nd [(16,2,78,141)] {p:Nat×(Int×(List Aq)) // P1 p.1 p.2=some R} (λp=>CJ 149 [(2,.d (An 2 Ag p2)),(5,.ptr 5 1 0),(6,.ptr 6 1 0),(8,.ptr 8 1 0),(9,.ptr 9 1 0),(10,.ptr 10 1 0),(16,.ptr 16 1 0),(67,.d (An 1 (An 1 (D.int .i64)) x57.1)),(68,.d (.int .i64 (x57.1.length:Int))),(69,.d (.int .i64 p.1.2.1))] [(5,.var [.d (An 2 Ah p0.J),.d (An 7 Al p0.A)],1),(6,.var [.d (.str p1.Af),.d (.int .i64 p1.Ag),.d (An 2 Ag p1.X),.d (An 1 (An 1 (D.int .i64)) p1.G)],1),(8,.var [.d (.int .i64 p3)],1),(9,.var [.d (.int .i64 p4.Op),.d (.int .i64 p4.B),.d (.int .i64 p4.Z),.d (.int .i64 p4.C),.d (.int .i64 p4.D),.d (An 6 A4 p4.E)],1),(10,.var [.d (.nil 2),.d (.int .i64 0),.d (.nil 7)],1),(16,.var [.d (An 2 Ag x64),.d (.int .i64 p3),.sl 78 1],1),(78,.row 7 141 (List.map BM p.1.2.2),1)]) (λp=>p.1.1) ⟨(_,(_,_)),h⟩ ?_ λp=>?_
  ·conv=>whnf
   exact jO
  obtain⟨⟨k1,⟨v69_1,b78_1⟩⟩,h⟩:=p;obtain⟨k1,rfl,h⟩:=i1 _ _ h;simp only[OT]at h;refine DI h (λh=>?_) λh=>?_
  ·refine Sy (f:=(An 1 (D.int .i64))) h λx71 _ h=>?_
   conv=>whnf
   refine Bp h λyr16 hyr16 h=>?_;refine jD (CJ 149 [(2,.d (An 2 Ag p2)),(5,.ptr 5 1 0),(6,.ptr 6 1 0),(8,.ptr 8 1 0),(9,.ptr 9 1 0),(10,.ptr 10 1 0),(16,.ptr 16 1 0),(18,.d (An 1 (D.int .i64) x71)),(67,.d (An 1 (An 1 (D.int .i64)) x57.1)),(68,.d (.int .i64 (x57.1.length:Int))),(69,.d (.int .i64 v69_1))] [(5,.var [.d (An 2 Ah p0.J),.d (An 7 Al p0.A)],1),(6,.var [.d (.str p1.Af),.d (.int .i64 p1.Ag),.d (An 2 Ag p1.X),.d (An 1 (An 1 (D.int .i64)) p1.G)],1),(8,.var [.d (.int .i64 p3)],1),(9,.var [.d (.int .i64 p4.Op),.d (.int .i64 p4.B),.d (.int .i64 p4.Z),.d (.int .i64 p4.C),.d (.int .i64 p4.D),.d (An 6 A4 p4.E)],1),(10,.var [.d (.nil 2),.d (.int .i64 0),.d (.nil 7)],1),(16,.var [.d (An 2 Ag x64),.d (.int .i64 p3),.sl 78 1],1),(78,.row 7 141 (List.map BM b78_1),1)]) Unit (λ_=>CJ 149 [(2,.d (An 2 Ag p2)),(5,.ptr 5 1 0),(6,.ptr 6 1 0),(8,.ptr 8 1 0),(9,.ptr 9 1 0),(10,.ptr 10 1 0),(16,.ptr 16 1 0),(67,.d (An 1 (An 1 (D.int .i64)) x57.1)),(68,.d (.int .i64 (x57.1.length:Int))),(69,.d (.int .i64 v69_1))] [(5,.var [.d (An 2 Ah p0.J),.d (An 7 Al p0.A)],1),(6,.var [.d (.str p1.Af),.d (.int .i64 p1.Ag),.d (An 2 Ag p1.X),.d (An 1 (An 1 (D.int .i64)) p1.G)],1),(8,.var [.d (.int .i64 p3)],1),(9,.var [.d (.int .i64 p4.Op),.d (.int .i64 p4.B),.d (.int .i64 p4.Z),.d (.int .i64 p4.C),.d (.int .i64 p4.D),.d (An 6 A4 p4.E)],1),(10,.var [.d (.nil 2),.d (.int .i64 0),.d (.nil 7)],1),(16,.var [.d (An 2 Ag x64),.d (.int .i64 p3),.sl 78 2],1),(78,.row 7 141 (List.map BM yr16),2)]) ?_ ?_ λ_=>?_
   ·exact Bw
   ·intro X β a w hs;obtain⟨tm,df⟩:=a;obtain⟨l0,rfl⟩:∃l:List Value,tm=l.toArray:=⟨tm.toList,by simp⟩;have h0:l0.length=149:=hs.len;obtain rfl:df=[]:=hs.df
    iterate 18 (replace h0:=TP h0;obtain⟨_,_,_,_,_,_,_,_,l0,rfl,h0⟩:=h0)
    iterate 5 (replace h0:=DV h0;obtain⟨_,l0,rfl,h0⟩:=h0)
    obtain rfl:=List.length_eq_zero_iff.1 h0;clear h0;refine TH λK k_=>?_;obtain⟨hr0,h0⟩:=Vv hyr16;obtain rfl:=P3 h0;have hn0:=pZ hr0;obtain⟨bv,cv,T16,e16,hcv,zcv,c16⟩:=Pj hs 16 rfl;obtain⟨u,q2,k2⟩:=c16 2 _ rfl;have k20:u=β 78:=k2.2 rfl;clear k2;have k2:=k20;clear k20;obtain⟨_,r16,t16⟩:=Pi hs 16 rfl rfl rfl;have r16:=e16.symm.trans r16;simp at r16;subst r16;have d18:=VT hs 18 rfl rfl;obtain⟨a18,c18,b18,o18,t18,_⟩:=GQ d18;have hbx:I3 β _ _ w 78 (.row 7 141 (List.map BM b78_1)):=hs.boxes 78;obtain⟨_,_,vals,hrow,hL⟩:=hbx;rw[pX,<-k2]at hrow;have hM:=U8 hs 78 rfl;have hMv:=U8 hs 16 rfl;rw[<-k2]at hM;have nbv:Ac u≠some bv:=λh=>by have:=hs.inj 16 78 bv rfl rfl (by rw[e16];rfl) (by rw[<-k2];exact h);cases this
    have ltv:bv<w.heap.size:=World.block_lt_of_cell? _ _ q2;have hrW:=hrow.mono (w':=w.alloc (.cells #[.slice a18 x71.length c18,.int .i64 0,.int .i64 0,.int .i64 0,.int .i64 0,.int .i64 0,.slice none 0 0] 141)) (λb hb _=>blk_alloc_lt w _ b hb)
    obtain⟨u',w',hrun,hr',hb',hn'⟩:=lH (t:=47) (e:=141) (z:=.agg #[.slice none 0 0,.int .i64 0,.int .i64 0,.int .i64 0,.int .i64 0,.int .i64 0,.slice none 0 0]) (sz:=7) (bytes:=88) (by kernel_rfl) (by kernel_rfl) rfl (by decide) (vb:=w.heap.size) (vc:=1)
     (ws:=[.slice a18 x71.length c18,.int .i64 0,.int .i64 0,.int .i64 0,.int .i64 0,.int .i64 0,.slice none 0 0]) hrW hn0 (by decide) rfl (by simp[Value.oneCell']) (λj x hj=>by rw[World.cell?_alloc_at _ _ _ _ rfl];simpa using hj)
    obtain⟨ga',gc',eu',hga',_⟩:=QR hr';have hcw:∀o,(w.alloc o).cell? ⟨bv,2,none⟩=some u:=λo=>by rw[World.cell?_of_block (w:=w) (show(w.alloc o).heap[bv]?=w.heap[bv]? from blk_alloc_lt _ _ _ ltv)];exact q2
    have hwb:w'.heap[bv]?=w.heap[bv]?:=by rw[hb'.block bv (by simp;omega) nbv];exact blk_alloc_lt _ _ _ ltv
    have hc1:w'.cell? ⟨bv,2,none⟩=some u:=by rw[World.cell?_of_block (w:=w) hwb];exact q2
    have hc2:w'.frozen? ⟨bv,2,none⟩=false:=by rw[World.frozen?_of_block (w:=w) hwb];simp[World.frozen?,hcv]
    have HS:Aside _:=hs;have HH:Aside (_/\_/\_/\_/\_/\_/\_/\_/\_/\_/\_/\_):=⟨hr',hb',hn',e16,hcv,hL,hM,hMv,hwb,k2,d18,t18⟩;have hu'0:=eu';rw[eu']at hrun;subst t16;subst t18;have HU:Aside _:=hu'0;clear hs hr' hb' hn' e16 hcv hL hM hMv hwb k2 d18 eu' hu'0 hga' hrow hrW c16 zcv hr0 h0
    go_wp2_with (at_builtin;refine Lib.wpList_append_run _ rfl _ _ _ _ rfl _ _ rfl rfl _ _ hrun ?_)
    obtain⟨hr',hb',hn',e16,hcv,hL,hM,hMv,hwb,k2,d18,t18⟩:=HH.out;have hs:=HS.out
    have hB:A7 w.heap.size (λb=>Ac (β 78)=some b\/b=bv) w (w'.setCell ⟨bv,2,none⟩ (.slice ga' (b78_1.length+1) gc')):=⟨hb'.os,hb'.tape,hb'.output,by have:=hb'.size;simp at this ⊢;omega,λk hk hn=>by
     rw[blk_setCell_other _ _ _ _ (show k≠bv from λe=>hn (.inr e)),hb'.block k (by simp;omega) (λh=>hn (.inl (by rw[<-k2];exact h)))];exact blk_alloc_lt _ _ _ hk⟩
    have hkp:∀O:Nat->Prop,(∀b,b<w.heap.size->O b->OS β X _ b)->B0 _ O w (w'.setCell ⟨bv,2,none⟩ (.slice ga' (b78_1.length+1) gc')):=λO h=>⟨hB.size,h,λb hb hno=>hB.block b hb λh=>hno (h.elim (λh=>hM b (by rw[k2];exact h)) (λh=>hMv b (by rw[e16,h];rfl)))⟩;have hu':=HU.out
    refine k_.out _ _ ⟨(),Kz β 78 (.slice ga' (b78_1.length+1) gc'),SimB.conv (hs.exitApp [2,5,6,8,9,10,16,67,68,69] (q:=78) (vb:=16) (j:=2) (ys:=List.map BM (b78_1++[{ Q:=x71,Y:=0,A4:=0,A5:=0,A6:=0,A8:=0,G:=[] }])) (u':=.slice ga' (b78_1.length+1) gc') (by decide) (by decide) (by decide) (λ_=>rfl) (λ_=>rfl) (by simp[AV.guards]) (hX (λ_=>rfl) (λ_=>rfl)) rfl rfl (by simp) e16 hcv (heap_setCell_same _ _ _ _ _ _ (hwb.trans hcv)) hB (λb hb=>by
     rw[<-hu']at hb;rcases hn' b hb with h|h
     ·exact .inl (by rw[<-k2];exact h)
     ·right;rw[h];simp) (λy hy=>by obtain⟨_,_,rfl⟩:=List.mem_map.1 hy;rfl) ?_) (by kernel_rfl)⟩
    refine⟨vals++[.slice a18 x71.length c18,.int .i64 0,.int .i64 0,.int .i64 0,.int .i64 0,.int .i64 0,.slice none 0 0],?_,λO h1 h2=>?_⟩
    rotate_left
    ·rw[qx,sG];refine(hL.mono (hkp O h1)).append ⟨rfl,λj v y hv hy=>?_⟩;have d18':=Aw.mono (hkp O h1) d18
     match j,hv,hy with
     | 0,hv,hy=>simp at hv;simp[BM,D.cells]at hy;subst hv;subst hy;exact⟨d18',rfl⟩
     | 1,hv,hy=>simp at hv;simp[BM,D.cells]at hy;subst hv;subst hy;exact⟨.int _ _,rfl⟩
     | 2,hv,hy=>simp at hv;simp[BM,D.cells]at hy;subst hv;subst hy;exact⟨.int _ _,rfl⟩
     | 3,hv,hy=>simp at hv;simp[BM,D.cells]at hy;subst hv;subst hy;exact⟨.int _ _,rfl⟩
     | 4,hv,hy=>simp at hv;simp[BM,D.cells]at hy;subst hv;subst hy;exact⟨.int _ _,rfl⟩
     | 5,hv,hy=>simp at hv;simp[BM,D.cells]at hy;subst hv;subst hy;exact⟨.int _ _,rfl⟩
     | 6,hv,hy=>simp at hv;simp[BM,D.cells]at hy;subst hv;subst hy;exact⟨.nil _ _,rfl⟩
     | j+7,hv,hy=>simp at hv
    ·rw[pX,qz,<-hu']
     exact hr'.mono λb hb hbl=>blk_setCell_other _ _ _ _ (show b≠bv from λe=>by
      rcases hn' b hbl with h|h
      ·exact nbv (by rw[<-e];exact h)
      ·simp at h;omega)
   conv=>whnf
   exact fZ ⟨(_,(_,_)),h⟩ Bw
  exact z23
 obtain⟨k78_1,h⟩:=p;simp only[Iz]at h;refine Fl {p:(List Int) // ED d p0 p1 p4 p2 p3 k78_1 x64 p=some R} (λp=>CJ 149 [(2,.d (An 2 Ag p2)),(5,.ptr 5 1 0),(6,.ptr 6 1 0),(8,.ptr 8 1 0),(9,.ptr 9 1 0),(10,.ptr 10 1 0),(16,.ptr 16 1 0),(19,.d (An 1 (D.int .i64) p.1))] [(5,.var [.d (An 2 Ah p0.J),.d (An 7 Al p0.A)],1),(6,.var [.d (.str p1.Af),.d (.int .i64 p1.Ag),.d (An 2 Ag p1.X),.d (An 1 (An 1 (D.int .i64)) p1.G)],1),(8,.var [.d (.int .i64 p3)],1),(9,.var [.d (.int .i64 p4.Op),.d (.int .i64 p4.B),.d (.int .i64 p4.Z),.d (.int .i64 p4.C),.d (.int .i64 p4.D),.d (An 6 A4 p4.E)],1),(10,.var [.d (.nil 2),.d (.int .i64 0),.d (.nil 7)],1),(16,.var [.d (An 2 Ag x64),.d (.int .i64 p3),.sl 78 1],1),(78,.row 7 141 (List.map BM k78_1),1)]) ?_ λp=>?_
 ·refine DI h (λh=>?_) λh=>?_
  ·exact z23
  exact z23
 obtain⟨j19_2,h⟩:=p;simp only[ED]at h;refine FV h (λ_=>tabulate_Counts_w.h _ _ _ _ _ _) λx89 h=>?_
 conv=>whnf
 refine Bp h λy2 hy2 h=>?_;obtain rfl:=P3 h;refine pw (CJ 149 [(2,.d (An 2 Ag p2)),(5,.ptr 5 1 0),(6,.ptr 6 1 0),(8,.ptr 8 1 0),(10,.ptr 10 1 0),(16,.ptr 16 1 0),(89,.d (An 1 (D.int .i64) x89)),(90,.d (.int .i64 (x89.length:Int))),(91,.d (.int .i64 0))] [(5,.var [.d (An 2 Ah p0.J),.d (An 7 Al p0.A)],1),(6,.var [.d (.str p1.Af),.d (.int .i64 p1.Ag),.d (An 2 Ag p1.X),.d (An 1 (An 1 (D.int .i64)) p1.G)],1),(8,.var [.d (.int .i64 p3)],1),(10,.var [.d (.nil 2),.d (.int .i64 0),.d (.nil 7)],1),(16,.var [.d (An 2 Ag x64),.d (.int .i64 p3),.sl 78 1],1),(78,.row 7 141 (List.map BM k78_1),1)]) ?_ ?_
 ·exact Bw
 ·intro X β a w hM hb hs;exact hZ tabulate_Values_w.h extract_Known_w.h tabulate_inside_w.h hy2 hM hb hs⟩
end Go.Proofs.YthchnhoalhbkcaaGreatDoor.P
