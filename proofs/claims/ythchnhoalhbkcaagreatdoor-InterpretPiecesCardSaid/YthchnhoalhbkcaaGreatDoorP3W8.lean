/- P3W8 -/
import Derived.Test.YthchnhoalhbkcaaGreatDoorP3W1
import Derived.Test.YthchnhoalhbkcaaGreatDoorFD
set_option linter.unusedSimpArgs false
set_option linter.unusedVariables false
namespace Go.Proofs.YthchnhoalhbkcaaGreatDoor.P
open Go Go.Deep Go.Abs Go.Proofs
set_option maxRecDepth 100000
set_option maxHeartbeats 4000000
instance tabulate_lists_w:CS Tryz.prog 112 (W2 Tryz.prog 112 Ie):=⟨λp0 p1 R h=>by
 refine Ux [2000001] Tryz.func112 (by kernel_rfl) ?_;unfold Ie at h
 conv=>whnf
 refine Bp h λyr1 hyr1 h=>?_;refine jD (CJ 69 [(1,.d (An 2 Ag p1)),(2,.ptr 2 1 0)] [(2,.var [.d (An 2 Ah p0.J),.d (An 7 Al p0.A)],1)]) Unit (λ_=>CJ 69 [(1,.d (An 2 Ag p1)),(2,.ptr 2 1 0),(6,.sl 15 1)] [(2,.var [.d (An 2 Ah p0.J),.d (An 7 Al p0.A)],1),(15,.row 1 30 (List.map (An 1 (D.int .i64)) yr1),1)]) ?_ ?_ λ_=>?_
 ·exact CC
 ·intro X β a w hs;obtain⟨tm,df⟩:=a;obtain⟨l0,rfl⟩:∃l:List Value,tm=l.toArray:=⟨tm.toList,by simp⟩;have h0:l0.length=69:=hs.len;obtain rfl:df=[]:=hs.df
  iterate 8 (replace h0:=TP h0;obtain⟨_,_,_,_,_,_,_,_,l0,rfl,h0⟩:=h0)
  iterate 5 (replace h0:=DV h0;obtain⟨_,l0,rfl,h0⟩:=h0)
  obtain rfl:=List.length_eq_zero_iff.1 h0;clear h0;have hS:Aside _:=hs;clear hs;obtain rfl:=P3 hyr1;refine TH λK k=>?_
  go_wp2
  have hs:=hS.out
  refine k.out _ _ ⟨(),_,hs.exitNew [1,2] (q:=15) (t:=6) (by decide) (by decide) (by simp) (by simp) (by simp[AV.guards]) rfl rfl (by simp) rfl (Hv _ _) (by decide) (by simp[D.cells]) (λb hb=>by simp[Ac]at hb;omega)
   ⟨[.slice none 0 0],.inl ⟨rfl,.inr ⟨w.heap.size,1,_,rfl,pY _,heap_alloc_new w _,qb _,by decide,rfl,rfl⟩⟩,λO=>⟨rfl,λj v y hv hy=>?_⟩⟩⟩
  match j,hv,hy with
  | 0,hv,hy=>simp[D.cells]at hv hy;subst hv;subst hy;exact⟨.emp _ _ _,rfl⟩
  | j+1,hv,hy=>simp at hv
 conv=>whnf
 refine z7 h (λp=>CJ 69 [(2,.ptr 2 1 0),(6,.d (An 1 (An 1 (D.int .i64)) p.1)),(16,.d (An 2 Ag p1)),(17,.d (.int .i64 (p1.length:Int))),(18,.d (.int .i64 p.2))] [(2,.var [.d (An 2 Ah p0.J),.d (An 7 Al p0.A)],1)]) CC λ_ _ ⟨v6_1,v18_1⟩ h=>?_;simp only[Hr]at h;refine DI h (λh=>?_) λh=>?_
 ·refine Sy (f:=Ag) h λx20 _ h=>?_
  conv=>whnf
  refine z14 ?_;refine Sy (f:=Al) h λx29 _ h=>?_;refine Sy (f:=Ah) h λx32 _ h=>?_;refine FV h (λ_=>codes_At_w.h _ _ _) λx36 h=>?_
  conv=>whnf
  refine Te h λhr h=>?_;refine z8 ?_
  try rw[mi]
  refine DI h (λh=>?_) λh=>?_
  ·conv=>whnf
   exact z24
  conv=>whnf
  refine z7 h (λp=>CJ 69 [(2,.ptr 2 1 0),(9,.sl 22 1),(10,.sl 10 1),(16,.d (An 2 Ag p1)),(17,.d (.int .i64 (p1.length:Int))),(18,.d (.int .i64 v18_1)),(44,.d (An 1 (An 1 (D.int .i64)) v6_1)),(45,.d (.int .i64 (v6_1.length:Int))),(46,.d (.int .i64 p.1))] [(2,.var [.d (An 2 Ah p0.J),.d (An 7 Al p0.A)],1),(10,.row 1 30 (List.map (An 1 (D.int .i64)) p.2),1),(22,.row 1 3 (List.map (D.int .i64) ([(-1)]++x36)),1)]) CC λ_ _ ⟨v46_2,b10_2⟩ h=>?_;simp only[NR]at h;refine DI h (λh=>?_) λh=>?_
  ·refine Sy (f:=(An 1 (D.int .i64))) h λx48 _ h=>?_
   conv=>whnf
   refine z7 h (λp=>CJ 69 [(2,.ptr 2 1 0),(9,.sl 22 1),(10,.sl 10 1),(12,.d (An 1 (D.int .i64) x48)),(16,.d (An 2 Ag p1)),(17,.d (.int .i64 (p1.length:Int))),(18,.d (.int .i64 v18_1)),(44,.d (An 1 (An 1 (D.int .i64)) v6_1)),(45,.d (.int .i64 (v6_1.length:Int))),(46,.d (.int .i64 v46_2)),(50,.sl 22 1),(51,.d (.int .i64 (([(-1)]++x36).length:Int))),(52,.d (.int .i64 p.1))] [(2,.var [.d (An 2 Ah p0.J),.d (An 7 Al p0.A)],1),(10,.row 1 30 (List.map (An 1 (D.int .i64)) p.2),1),(22,.row 1 3 (List.map (D.int .i64) ([(-1)]++x36)),1)]) CC λ_ _ ⟨v52_3,b10_3⟩ h=>?_;simp only[NS]at h;refine DI h (λh=>?_) λh=>?_
   ·refine OQ (f:=(D.int .i64)) h FK λx54 hx54 h=>?_;refine Yo (f:=(D.int .i64)) hx54 FK ?_;refine FV h (λ_=>Bt _ _) λx58 h=>?_
    conv=>whnf
    refine Te h λhr h=>?_;refine z8 ?_
    try rw[kW]
    conv=>whnf
    refine Te h λhr h=>?_;refine z8 ?_
    try rw[fN]
    conv=>whnf
    exact fZ ⟨(_,(_,_)),h⟩ CC
   conv=>whnf
   exact fZ ⟨(_,(_,_)),h⟩ CC
  conv=>whnf
  exact fZ ⟨(_,(_,_)),h⟩ CC
 conv=>whnf
 obtain rfl:=P3 h;exact⟨fJ⟩⟩
end Go.Proofs.YthchnhoalhbkcaaGreatDoor.P
