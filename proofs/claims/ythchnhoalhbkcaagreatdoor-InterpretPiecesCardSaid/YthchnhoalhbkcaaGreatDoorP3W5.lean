/- P3W5 -/
import Derived.Test.YthchnhoalhbkcaaGreatDoorP3W4
import Derived.Test.YthchnhoalhbkcaaGreatDoorFD
set_option linter.unusedSimpArgs false
set_option linter.unusedVariables false
namespace Go.Proofs.YthchnhoalhbkcaaGreatDoor.P
open Go Go.Deep Go.Abs Go.Proofs
set_option maxRecDepth 100000
set_option maxHeartbeats 4000000
instance interpret_clone_w:CS Tryz.prog 62 (W1 Tryz.prog 62 Fu):=⟨λp0 R h=>by
 refine Uv [1000000] Tryz.func62 ?_;unfold Fu at h;refine FV h (λ_=>slices_Clone_Lapi_Pick_api_Pick_w.h _ _) λx8 h=>?_;refine FV h (λ_=>slices_Clone_Lapi_TableCell_api_TableCell_w.h _ _) λx14 h=>?_
 conv=>whnf
 refine Bp h λy0 hy0 h=>?_;refine jD (CJ 70 [(1,.ptr 1 1 0),(2,.ptr 2 1 0),(19,.sl 14 1),(20,.d (.int .i64 (x14.length:Int))),(21,.d (.int .i64 0))] [(1,.var [.d (.int .i64 p0.Kind),.d (.int .i64 p0.Number.L),.d (.int .i64 p0.Number.N),.d (An 2 Ag x8),.d (.int .i64 p0.Table.Ah),.sl 14 1,.d (.int .i64 p0.Model.Ah),.d (An 1 (D.int .i64) p0.Model.Aw),.d (An 2 Bq p0.Model.A3),.d (.int .i64 p0.Model.A1.L),.d (.int .i64 p0.Model.A1.N),.d (.int .i64 p0.Model.A2.L),.d (.int .i64 p0.Model.A2.N),.d (.int .i64 p0.Model.Y),.d (.int .i64 p0.Model.Bb),.d (An 6 By p0.Curve),.d (An 2 Cd p0.Hist),.d (.int .i64 p0.Box.Y),.d (.int .i64 p0.Box.Bf),.d (.int .i64 p0.Box.Bg),.d (.int .i64 p0.Box.Bh),.d (.int .i64 p0.Box.Bi),.d (.int .i64 p0.Box.Bj),.d (An 1 (D.int .i64) p0.Lineage)],1),(2,.var [.d (.int .i64 0),.d (.int .i64 0),.d (.int .i64 0),.d (.nil 2),.d (.int .i64 0),.d (.nil 7),.d (.int .i64 0),.d (.nil 1),.d (.nil 2),.d (.int .i64 0),.d (.int .i64 0),.d (.int .i64 0),.d (.int .i64 0),.d (.int .i64 0),.d (.int .i64 0),.d (.nil 6),.d (.nil 2),.d (.int .i64 0),.d (.int .i64 0),.d (.int .i64 0),.d (.int .i64 0),.d (.int .i64 0),.d (.int .i64 0),.d (.nil 1)],1),(14,.row 7 141 (List.map A6 x14),1)]) Unit (λ_=>CJ 70 [(1,.ptr 1 1 0),(2,.ptr 2 1 0)] [(1,.var [.d (.int .i64 p0.Kind),.d (.int .i64 p0.Number.L),.d (.int .i64 p0.Number.N),.d (An 2 Ag x8),.d (.int .i64 p0.Table.Ah),.sl 14 1,.d (.int .i64 p0.Model.Ah),.d (An 1 (D.int .i64) p0.Model.Aw),.d (An 2 Bq p0.Model.A3),.d (.int .i64 p0.Model.A1.L),.d (.int .i64 p0.Model.A1.N),.d (.int .i64 p0.Model.A2.L),.d (.int .i64 p0.Model.A2.N),.d (.int .i64 p0.Model.Y),.d (.int .i64 p0.Model.Bb),.d (An 6 By p0.Curve),.d (An 2 Cd p0.Hist),.d (.int .i64 p0.Box.Y),.d (.int .i64 p0.Box.Bf),.d (.int .i64 p0.Box.Bg),.d (.int .i64 p0.Box.Bh),.d (.int .i64 p0.Box.Bi),.d (.int .i64 p0.Box.Bj),.d (An 1 (D.int .i64) p0.Lineage)],1),(2,.var [.d (.int .i64 0),.d (.int .i64 0),.d (.int .i64 0),.d (.nil 2),.d (.int .i64 0),.d (.nil 7),.d (.int .i64 0),.d (.nil 1),.d (.nil 2),.d (.int .i64 0),.d (.int .i64 0),.d (.int .i64 0),.d (.int .i64 0),.d (.int .i64 0),.d (.int .i64 0),.d (.nil 6),.d (.nil 2),.d (.int .i64 0),.d (.int .i64 0),.d (.int .i64 0),.d (.int .i64 0),.d (.int .i64 0),.d (.int .i64 0),.d (.nil 1)],1),(14,.row 7 141 (List.map A6 y0),1)]) ?_ ?_ λ_=>?_
 ·exact CC
 ·intro X β a w hs;obtain⟨tm,df⟩:=a;obtain⟨l0,rfl⟩:∃l:List Value,tm=l.toArray:=⟨tm.toList,by simp⟩;have h0:l0.length=70:=hs.len;obtain rfl:df=[]:=hs.df
  iterate 8 (replace h0:=TP h0;obtain⟨_,_,_,_,_,_,_,_,l0,rfl,h0⟩:=h0)
  iterate 6 (replace h0:=DV h0;obtain⟨_,l0,rfl,h0⟩:=h0)
  obtain rfl:=List.length_eq_zero_iff.1 h0;clear h0;refine TH λK k_=>?_;obtain⟨hr0,h0⟩:=Vv hy0;obtain rfl:=P3 h0;obtain⟨hn0,hall⟩:=Bool.and_eq_true_iff.1 hr0;have hn0:=pZ hn0;have HALL:Aside _:=hall;obtain⟨b1,v1,T1,e1,_,_,c1⟩:=Pj hs 1 rfl;obtain⟨sl,q15,k15⟩:=c1 5 _ rfl;have k15:sl=β 14:=k15.2 rfl;obtain⟨_,r1,t1⟩:=Pi hs 1 rfl rfl rfl;have r1:=e1.symm.trans r1;simp at r1;subst r1;have t19:=mY hs 19 rfl rfl rfl;have t20:=AJ (VT hs 20 rfl rfl);have t21:=AJ (VT hs 21 rfl rfl);have hbx:I3 β _ _ w 14 (.row 7 141 (List.map A6 x14)):=hs.boxes 14;obtain⟨_,_,vals,hrow,hL⟩:=hbx;rw[pX]at hrow;obtain⟨ga,gc,eu,hga,hvl⟩:=QR hrow;have hM:=U8 hs 14 rfl;have n1:¬Ac (β 14)=some b1:=λh=>by have:=hs.inj 1 14 b1 rfl rfl (by rw[e1];rfl) h;cases this
  have lt1:=World.block_lt_of_cell? _ _ q15;have hC0:=CM.start hs rfl hrow hL;rw[eu]at t19 k15;subst t1;subst t19;subst t20;subst t21;subst k15;have HS:Aside _:=hs;have HM:Aside _:=hM;have HE:Aside _:=eu;clear hs hM eu c1 e1 hrow hL hr0 h0 hvl hall
  go_wp2_with fail
  go_loopg [21] x14.length (λg i wr=>∃k:Nat,k<=x14.length/\g=x14.length-k/\i=.int .i64 k/\Aside (CM w wr (β 14) (OS β X _) 141 7 x14.length ((List.map A6 x14).flatMap D.cells)))
  case atStart=>exact⟨0,pY _,rfl,rfl,hC0⟩
  case round =>
   clear hC0;obtain⟨k,hk,rfl,rfl,hA⟩:=hrel;have hC:=hA.out;by_cases hkn:k<x14.length
   ·have hkz:(k:Int)<(x14.length:Int):=by omega
    obtain⟨g,rfl,hbg⟩:=hga (by omega);have g1:wr.cell? ⟨b1,5,none⟩=some (.slice (some ⟨g,0,none⟩) x14.length gc):=by rw[D9 hC.keep lt1 n1];exact q15
    obtain⟨a0,c0,a6,c6,⟨f0,d0⟩,f1,f2,f3,f4,f5,⟨f6,d6⟩,fz⟩:=hC.cell7 hbg hkn;have HC:Aside _:=hC;have HD:Aside (_/\_):=⟨d0,d6⟩;have HFZ:Aside _:=fz;clear hA hC d0 d6 fz;obtain⟨x,hx⟩:∃x,x=x14[k]:=⟨_,rfl⟩;rw[<-hx]at f0 f1 f2 f3 f4 f5 f6 HD;have HX:Aside _:=hx;clear hx
    go_wp2_with fail
    obtain⟨W,hW⟩:∃W,W=wr.alloc (.cells #[.slice a0 x.Q.length c0,.int .i64 x.Y,.int .i64 x.A4,.int .i64 x.A5,.int .i64 x.A6,.int .i64 x.A8,.slice a6 x.G.length c6] 141):=⟨_,rfl⟩;rw[<-hW];have hWb:RowKit.Below wr.heap.size wr W:=by rw[hW];exact Hv _ _
    have hWs:W.heap.size=wr.heap.size+1:=by rw[hW];simp
    have l1:b1<wr.heap.size:=qm lt1 HC.out.keep.size;have p1:∀u,RowKit.Below W.heap.size W u->u.cell? ⟨b1,5,none⟩=some (.slice (some ⟨g,0,none⟩) x14.length gc):=λu hu=>by rw[Gy hu (by omega),Gy hWb l1];exact g1
    have p2:∀u,RowKit.Below W.heap.size W u->u.cell? ⟨wr.heap.size,0,none⟩=some (.slice a0 x.Q.length c0):=λu hu=>by rw[Gy hu (by omega),hW];exact World.cell?_alloc_at _ _ _ _ rfl
    have p3:∀u,RowKit.Below W.heap.size W u->u.cell? ⟨wr.heap.size,6,none⟩=some (.slice a6 x.G.length c6):=λu hu=>by rw[Gy hu (by omega),hW];exact World.cell?_alloc_at _ _ _ _ rfl
    have hb0:RowKit.Below W.heap.size W W:=⟨rfl,rfl,rfl,qb _,λ_ _=>rfl⟩;have hb1:RowKit.Below W.heap.size W W.drew:=⟨rfl,rfl,rfl,qb _,λ_ _=>rfl⟩
    have hco:AC x.Q=some x.Q/\AC x.G=some x.G:=by
     have:=List.all_eq_true.1 HALL.out x (by rw[HX.out];exact qa hkn);obtain⟨h1,h2⟩:=Bool.and_eq_true_iff.1 this;unfold AC;rw[h1,h2];exact⟨rfl,rfl⟩
    have cl:∀(l:List Int)(a:Option Addr)(c:Nat),AC l=some l->Aw (OS β X _) wr (.slice a l.length c) (An 1 (D.int .i64) l)->∀u,RowKit.Below W.heap.size W u->Calls Tryz.prog 56 #[.slice a l.length c] u λe u'=>∃a' c',e=.returned (.slice a' l.length c')/\RowKit.Below W.heap.size W u'/\RowKit.Below u.heap.size u u'/\Aw (OS β X _) u' (.slice a' l.length c') (An 1 (D.int .i64) l):=λl a c hl hd u hu=>by
     have hk:=((HC.out.keepS hWb).keepS hu);refine(SI (Bt l l hl) HS.out HM.out hk.keep #[.slice a l.length c] rfl (λi v y hv hy=>?_)).mono λe u' ⟨v,he,hb,hr⟩=>?_
     ·match i,hv,hy with
      | 0,hv,hy=>simp at hv hy;subst hv;subst hy;exact(hd.mono (B0.world hWb)).mono (B0.world hu)
      | i+1,hv,hy=>simp at hv
     ·have hd':=ko hr (λb hb=>qm (hk.old b hb) hk.keep.size);obtain⟨a',c',_,_,rfl,_⟩:=GQ hd';exact⟨a',c',he,Zd hu hb,hb,hd'⟩
    have FV:=cl x.Q a0 c0 hco.1 HD.out.1;have cB:=cl x.G a6 c6 hco.2 HD.out.2;have hCW:=HC.out.keepS hWb
    have p4:∀u,RowKit.Below W.heap.size W u->u.cell? ⟨g,k*7,none⟩=some (PE u ⟨g,k*7,none⟩)/\u.frozen? ⟨g,k*7,none⟩=false/\u.cell? ⟨g,k*7+6,none⟩=some (PE u ⟨g,k*7+6,none⟩)/\u.frozen? ⟨g,k*7+6,none⟩=false:=λu hu=>by
     obtain⟨_,h1,_,_,_,_,h2⟩:=(hCW.keepS hu).at_ hbg (c:=k*7) (by omega);obtain⟨_,h3,_,_,_,_,h4⟩:=(hCW.keepS hu).at_ hbg (c:=k*7+6) (by omega);exact⟨Wy (by rw[h1];rfl),h2,Wy (by rw[h3];rfl),h4⟩
    have hgw:=(HC.out.lt g hbg).1;have hgz:=HC.out.keep.size;have ne1:b1≠g:=λe=>n1 (by rw[e];exact hbg);have ne2:wr.heap.size≠g:=by omega
    have HCW:Aside _:=hCW
    have hkp:∀(u:World)(o:Nat)(v:Value),(u.cell? ⟨b1,5,none⟩=some (.slice (some ⟨g,0,none⟩) x14.length gc)/\u.cell? ⟨wr.heap.size,0,none⟩=some (.slice a0 x.Q.length c0)/\u.cell? ⟨wr.heap.size,6,none⟩=some (.slice a6 x.G.length c6) /\
     u.cell? ⟨g,k*7,none⟩=some (PE u ⟨g,k*7,none⟩)/\u.frozen? ⟨g,k*7,none⟩=false/\u.cell? ⟨g,k*7+6,none⟩=some (PE u ⟨g,k*7+6,none⟩)/\u.frozen? ⟨g,k*7+6,none⟩=false)->(u.setCell ⟨g,o,none⟩ v).cell? ⟨b1,5,none⟩=some (.slice (some ⟨g,0,none⟩) x14.length gc)/\(u.setCell ⟨g,o,none⟩ v).cell? ⟨wr.heap.size,0,none⟩=some (.slice a0 x.Q.length c0)/\(u.setCell ⟨g,o,none⟩ v).cell? ⟨wr.heap.size,6,none⟩=some (.slice a6 x.G.length c6) /\
     (u.setCell ⟨g,o,none⟩ v).cell? ⟨g,k*7,none⟩=some (PE (u.setCell ⟨g,o,none⟩ v) ⟨g,k*7,none⟩)/\(u.setCell ⟨g,o,none⟩ v).frozen? ⟨g,k*7,none⟩=false/\(u.setCell ⟨g,o,none⟩ v).cell? ⟨g,k*7+6,none⟩=some (PE (u.setCell ⟨g,o,none⟩ v) ⟨g,k*7+6,none⟩)/\(u.setCell ⟨g,o,none⟩ v).frozen? ⟨g,k*7+6,none⟩=false:=λu o v ⟨h1,h2,h3,h4,h5,h6,h7⟩ =>
     ⟨by rw[World.cell?_setCell_other _ _ _ _ (λq=>ne1 (congrArg Addr.block q).symm)];exact h1,by rw[World.cell?_setCell_other _ _ _ _ (λq=>ne2 (congrArg Addr.block q).symm)];exact h2,by rw[World.cell?_setCell_other _ _ _ _ (λq=>ne2 (congrArg Addr.block q).symm)];exact h3,Yr h4,by simpa using h5,Yr h6,by simpa using h7⟩
    have HKP:Aside _:=hkp;clear hkp cl hco hCW hW f0 f1 f2 f3 f4 f5 f6 g1 hWb
    go_region_held3 (λu=>u.cell? ⟨b1,5,none⟩=some (.slice (some ⟨g,0,none⟩) x14.length gc)/\u.cell? ⟨wr.heap.size,0,none⟩=some (.slice a0 x.Q.length c0)/\u.cell? ⟨wr.heap.size,6,none⟩=some (.slice a6 x.G.length c6) /\
     u.cell? ⟨g,k*7,none⟩=some (PE u ⟨g,k*7,none⟩)/\u.frozen? ⟨g,k*7,none⟩=false/\u.cell? ⟨g,k*7+6,none⟩=some (PE u ⟨g,k*7+6,none⟩)/\u.frozen? ⟨g,k*7+6,none⟩=false)
     (first|exact⟨p1 _ (by assumption),p2 _ (by assumption),p3 _ (by assumption),p4 _ (by assumption)⟩|exact HKP.out _ _ _ (by assumption))
     (first
      | (go_at_call 56;refine(FV _ (by assumption)).mono ?_;rintro e u ⟨a7,c7,rfl,hu,hu2,hd7⟩)
      | (go_at_call 56;refine(cB _ (by assumption)).mono ?_;rintro e u ⟨a8,c8,rfl,hu,hu2,hd8⟩))
    have hcm:=HCW.out.keepS hu;have h7:=hd7.mono (B0.world hu2);have c1:=hcm.set hbg (c:=k*7) (by omega) h7 rfl;have c2:=c1.set hbg (c:=k*7+6) (by omega) (hcm.kept hbg (k*7) (.slice a7 x.Q.length c7) hd8) rfl;have e0:=bd A6 (λ_=>rfl) x14 k hkn 0 (by omega);have e6:=bd A6 (λ_=>rfl) x14 k hkn 6 (by omega);rw[ce (l:=(List.map A6 x14).flatMap D.cells) (i:=k*7) (by rw[HX.out];exact e0),ce (by rw[HX.out];exact e6)]at c2;have C2:Aside _:=c2;clear hcm h7 c1 c2 e0 e6 p1 p2 p3 p4
    go_wp2_with fail
    go_roundg (x14.length-(k+1))
    case measure=>go_light;omega
    case rel=>go_light;exact⟨k+1,by omega,rfl,by go_num,C2.out⟩
   ·have hkz:¬((k:Int)<(x14.length:Int)):=by omega
    have hs:=HS.out
    go_wp2_with fail
    refine k_.out _ _ ⟨(),β,?_⟩
    exact hs.exitRow [1,2] (q:=14) (ys:=List.map A6 x14) (by decide) (λ_=>rfl) (by simp[AV.guards]) rfl rfl (by simp) hC.keep (λy hy=>by obtain⟨_,_,rfl⟩:=List.mem_map.1 hy;rfl)
     (by
      obtain⟨vals,h1,h2⟩:=hC.row;exact⟨vals,by rw[pX];exact h1,λO hO=>h2.mono (B0.of_sub hO)⟩)
 conv=>whnf
 refine z14 ?_;refine FV h (λ_=>Bt _ _) λx48 h=>?_;refine FV h (λ_=>slices_Clone_Lapi_Frac_api_Frac_w.h _ _) λx52 h=>?_
 conv=>whnf
 refine z14 ?_;refine FV h (λ_=>slices_Clone_Lapi_CurveStep_api_CurveStep_w.h _ _) λx59 h=>?_;refine FV h (λ_=>slices_Clone_Lapi_Bin_api_Bin_w.h _ _) λx62 h=>?_;refine FV h (λ_=>Bt _ _) λx65 h=>?_
 conv=>whnf
 refine⟨.inl ?_⟩
 conv=>whnf
 obtain rfl:=P3 h;exact⟨fJ⟩⟩
end Go.Proofs.YthchnhoalhbkcaaGreatDoor.P
