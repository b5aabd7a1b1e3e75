/- P3W6 -/
import Derived.Test.YtaojdkijihbaoaaGreatDoorP3W5
import Derived.Test.YtaojdkijihbaoaaGreatDoorFD
set_option linter.all false
namespace Go.Proofs.YtaojdkijihbaoaaGreatDoor.P
open Go Go.Deep Go.Abs Go.Proofs
set_option maxRecDepth 100000
set_option maxHeartbeats 4000000
instance interpret_clone_w:CS Tryz.prog 98 (W1 Tryz.prog 98 Jn):=⟨λf R h=>by
 refine Q7 [1000000] Tryz.func98 (by kernel_rfl) ?_;unfold Jn at h;refine Fx h (λ_=>slices_Clone_Lapi_Pick_api_Pick_w.h _ _) λx8 h=>?_;refine Fx h (λ_=>slices_Clone_Lapi_TableCell_api_TableCell_w.h _ _) λd h=>?_
 conv=>whnf
 refine BD h λy0 hy0 h=>?_;refine mz (Dk 70 [(1,.ptr 1 1 0),(2,.ptr 2 1 0),(19,.sl 14 1),(20,.i (d.length:Int)),(21,.i 0)] [(1,.var [.i f.Kind,.i f.Number.S,.i f.Number.T,.l 2 Ah x8,.i f.Table.Y,.sl 14 1,.i f.Model.Y,.l 1 D.z f.Model.Ai,.l 2 B6 f.Model.A9,.i f.Model.A4.S,.i f.Model.A4.T,.i f.Model.A5.S,.i f.Model.A5.T,.i f.Model.Af,.i f.Model.Bj,.l 6 B7 f.Curve,.l 2 Ie f.Hist,.i f.Box.Af,.i f.Box.Bm,.i f.Box.Bn,.i f.Box.Bo,.i f.Box.Bp,.i f.Box.Bq,.l 1 D.z f.Lineage],1),(2,.var [.i 0,.i 0,.i 0,.n 2,.i 0,.n 7,.i 0,.n 1,.n 2,.i 0,.i 0,.i 0,.i 0,.i 0,.i 0,.n 6,.n 2,.i 0,.i 0,.i 0,.i 0,.i 0,.i 0,.n 1],1),(14,.row 7 166 (List.map A5 d),1)]) Unit (λ_=>Dk 70 [(1,.ptr 1 1 0),(2,.ptr 2 1 0)] [(1,.var [.i f.Kind,.i f.Number.S,.i f.Number.T,.l 2 Ah x8,.i f.Table.Y,.sl 14 1,.i f.Model.Y,.l 1 D.z f.Model.Ai,.l 2 B6 f.Model.A9,.i f.Model.A4.S,.i f.Model.A4.T,.i f.Model.A5.S,.i f.Model.A5.T,.i f.Model.Af,.i f.Model.Bj,.l 6 B7 f.Curve,.l 2 Ie f.Hist,.i f.Box.Af,.i f.Box.Bm,.i f.Box.Bn,.i f.Box.Bo,.i f.Box.Bp,.i f.Box.Bq,.l 1 D.z f.Lineage],1),(2,.var [.i 0,.i 0,.i 0,.n 2,.i 0,.n 7,.i 0,.n 1,.n 2,.i 0,.i 0,.i 0,.i 0,.i 0,.i 0,.n 6,.n 2,.i 0,.i 0,.i 0,.i 0,.i 0,.i 0,.n 1],1),(14,.row 7 166 (List.map A5 y0),1)]) ?_ ?_ λ_=>?_
 ·exact EB
 ·intro X β a w m;obtain⟨tm,df⟩:=a;obtain⟨l0,rfl⟩:∃l:List Value,tm=l.toArray:=⟨tm.toList,by simp⟩;have r:l0.length=70:=m.len;obtain rfl:df=[]:=m.df
  iterate 8 (replace r:=U9 r;obtain⟨_,_,_,_,_,_,_,_,l0,rfl,r⟩:=r)
  iterate 6 (replace r:=E7 r;obtain⟨_,l0,rfl,r⟩:=r)
  obtain rfl:=List.length_eq_zero_iff.1 r;clear r;refine U1 λK k_=>?_;obtain⟨Q,r⟩:=Wj hy0;obtain rfl:=uc r;obtain⟨S,C⟩:=Bool.and_eq_true_iff.1 Q;have S:=uf S;have T:Aside _:=C;obtain⟨t,v1,T1,e1,_,_,U⟩:=PN m 1 rfl;obtain⟨sl,V,z⟩:=U 5 _ rfl;have z:sl=β 14:=z.2 rfl;obtain⟨_,r1,t1⟩:=PM m 1 rfl rfl rfl;have r1:=e1.symm.trans r1;simp at r1;subst r1;have t19:=qu m 19 rfl rfl rfl;have t20:=AJ (WN m 20 rfl rfl);have t21:=AJ (WN m 21 rfl rfl);have hbx:IU β _ _ w 14 (.row 7 166 (List.map A5 d)):=m.boxes 14;obtain⟨_,_,vals,p,hL⟩:=hbx;rw[ua]at p;obtain⟨ga,gc,eu,hga,hvl⟩:=Rt p;have hM:=Vq m 14 rfl;have n1:¬Ae (β 14)=some t:=λh=>by have:=m.inj 1 14 t rfl rfl (by rw[e1];rfl) h;cases this
  have Y:=World.block_lt_of_cell? _ _ V;have Z:=CM.start m rfl p hL;rw[eu]at t19 z;subst t1;subst t19;subst t20;subst t21;subst z;have HS:Aside _:=m;have HM:Aside _:=hM;have HE:Aside _:=eu;clear m hM eu U e1 p hL Q r hvl C
  go_wp2_with fail
  go_loopg [21] d.length (λg i wr=>∃k:Nat,k<=d.length/\g=d.length-k/\i=.int .i64 k/\Aside (CM w wr (β 14) (OS β X _) 166 7 d.length ((List.map A5 d).flatMap D.cells)))
  case atStart=>exact⟨0,ug _,rfl,rfl,Z⟩
  case round =>
   clear Z;obtain⟨k,hk,rfl,rfl,hA⟩:=hrel;have I:=hA.out;by_cases A:k<d.length
   ·have hkz:(k:Int)<(d.length:Int):=by omega
    obtain⟨g,rfl,j⟩:=hga (by omega);have g1:wr.cell? ⟨t,5,none⟩=some (.slice (some ⟨g,0,none⟩) d.length gc):=by rw[El I.keep Y n1];exact V
    obtain⟨a0,J,L,M,⟨f0,d0⟩,f1,f2,f3,f4,f5,⟨f6,d6⟩,fz⟩:=I.cell7 j A;have HC:Aside _:=I;have HD:Aside (_/\_):=⟨d0,d6⟩;have HFZ:Aside _:=fz;clear hA I d0 d6 fz;obtain⟨x,hx⟩:∃x,x=d[k]:=⟨_,rfl⟩;rw[<-hx]at f0 f1 f2 f3 f4 f5 f6 HD;have HX:Aside _:=hx;clear hx
    go_wp2_with fail
    obtain⟨W,N⟩:∃W,W=wr.alloc (.cells #[.slice a0 x.Q.length J,.int .i64 x.Af,.int .i64 x.A6,.int .i64 x.A8,.int .i64 x.Ba,.int .i64 x.Bg,.slice L x.G.length M] 166):=⟨_,rfl⟩;rw[<-N];have s:RowKit.Below wr.heap.size wr W:=by rw[N];exact Ik _ _
    have hWs:W.heap.size=wr.heap.size+1:=by rw[N];simp
    have l1:t<wr.heap.size:=uw Y HC.out.keep.size;have p1:∀u,RowKit.Below W.heap.size W u->u.cell? ⟨t,5,none⟩=some (.slice (some ⟨g,0,none⟩) d.length gc):=λu n=>by rw[GV n (by omega),GV s l1];exact g1
    have p2:∀u,RowKit.Below W.heap.size W u->u.cell? ⟨wr.heap.size,0,none⟩=some (.slice a0 x.Q.length J):=λu n=>by rw[GV n (by omega),N];exact World.cell?_alloc_at _ _ _ _ rfl
    have p3:∀u,RowKit.Below W.heap.size W u->u.cell? ⟨wr.heap.size,6,none⟩=some (.slice L x.G.length M):=λu n=>by rw[GV n (by omega),N];exact World.cell?_alloc_at _ _ _ _ rfl
    have hb0:RowKit.Below W.heap.size W W:=⟨rfl,rfl,rfl,uh _,λ_ _=>rfl⟩;have hb1:RowKit.Below W.heap.size W W.drew:=⟨rfl,rfl,rfl,uh _,λ_ _=>rfl⟩
    have E:Ba x.Q=some x.Q/\Ba x.G=some x.G:=by
     have:=List.all_eq_true.1 T.out x (by rw[HX.out];exact ud A);obtain⟨F,G⟩:=Bool.and_eq_true_iff.1 this;unfold Ba;rw[F,G];exact⟨rfl,rfl⟩
    have cl:∀(l:List Int)(a:Option Addr)(c:Nat),Ba l=some l->Ay (OS β X _) wr (.slice a l.length c) (Ao 1 D.z l)->∀u,RowKit.Below W.heap.size W u->Calls Tryz.prog 38 #[.slice a l.length c] u λe u'=>∃a' c',e=.returned (.slice a' l.length c')/\RowKit.Below W.heap.size W u'/\RowKit.Below u.heap.size u u'/\Ay (OS β X _) u' (.slice a' l.length c') (Ao 1 D.z l):=λl a c hl hd u n=>by
     have hk:=((HC.out.keepS s).keepS n);refine(Tw (Bg l l hl) HS.out HM.out hk.keep #[.slice a l.length c] rfl (λi v y P hy=>?_)).mono λe u' ⟨v,he,hb,hr⟩=>?_
     ·match i,P,hy with
      | 0,P,hy=>simp at P hy;subst P;subst hy;exact(hd.mono (BA.world s)).mono (BA.world n)
      | i+1,P,hy=>simp at P
     ·have hd':=nh hr (λb hb=>uw (hk.old b hb) hk.keep.size);obtain⟨a',c',_,_,rfl,_⟩:=Ht hd';exact⟨a',c',he,ZY n hb,hb,hd'⟩
    have Fx:=cl x.Q a0 J E.1 HD.out.1;have cB:=cl x.G L M E.2 HD.out.2;have B:=HC.out.keepS s
    have p4:∀u,RowKit.Below W.heap.size W u->u.cell? ⟨g,k*7,none⟩=some (Qi u ⟨g,k*7,none⟩)/\u.frozen? ⟨g,k*7,none⟩=false/\u.cell? ⟨g,k*7+6,none⟩=some (Qi u ⟨g,k*7+6,none⟩)/\u.frozen? ⟨g,k*7+6,none⟩=false:=λu n=>by
     obtain⟨_,F,_,_,_,_,G⟩:=(B.keepS n).at_ j (c:=k*7) (by omega);obtain⟨_,h3,_,_,_,_,h4⟩:=(B.keepS n).at_ j (c:=k*7+6) (by omega);exact⟨X1 (by rw[F];rfl),G,X1 (by rw[h3];rfl),h4⟩
    have hgw:=(HC.out.lt g j).1;have hgz:=HC.out.keep.size;have ne1:t≠g:=λe=>n1 (by rw[e];exact j);have ne2:wr.heap.size≠g:=by omega
    have HCW:Aside _:=B
    have hkp:∀(u:World)(o:Nat)(v:Value),(u.cell? ⟨t,5,none⟩=some (.slice (some ⟨g,0,none⟩) d.length gc)/\u.cell? ⟨wr.heap.size,0,none⟩=some (.slice a0 x.Q.length J)/\u.cell? ⟨wr.heap.size,6,none⟩=some (.slice L x.G.length M) /\
     u.cell? ⟨g,k*7,none⟩=some (Qi u ⟨g,k*7,none⟩)/\u.frozen? ⟨g,k*7,none⟩=false/\u.cell? ⟨g,k*7+6,none⟩=some (Qi u ⟨g,k*7+6,none⟩)/\u.frozen? ⟨g,k*7+6,none⟩=false)->(u.setCell ⟨g,o,none⟩ v).cell? ⟨t,5,none⟩=some (.slice (some ⟨g,0,none⟩) d.length gc)/\(u.setCell ⟨g,o,none⟩ v).cell? ⟨wr.heap.size,0,none⟩=some (.slice a0 x.Q.length J)/\(u.setCell ⟨g,o,none⟩ v).cell? ⟨wr.heap.size,6,none⟩=some (.slice L x.G.length M) /\
     (u.setCell ⟨g,o,none⟩ v).cell? ⟨g,k*7,none⟩=some (Qi (u.setCell ⟨g,o,none⟩ v) ⟨g,k*7,none⟩)/\(u.setCell ⟨g,o,none⟩ v).frozen? ⟨g,k*7,none⟩=false/\(u.setCell ⟨g,o,none⟩ v).cell? ⟨g,k*7+6,none⟩=some (Qi (u.setCell ⟨g,o,none⟩ v) ⟨g,k*7+6,none⟩)/\(u.setCell ⟨g,o,none⟩ v).frozen? ⟨g,k*7+6,none⟩=false:=λu o v ⟨F,G,h3,h4,h5,h6,h7⟩ =>
     ⟨by rw[World.cell?_setCell_other _ _ _ _ (λq=>ne1 (congrArg Addr.block q).symm)];exact F,by rw[World.cell?_setCell_other _ _ _ _ (λq=>ne2 (congrArg Addr.block q).symm)];exact G,by rw[World.cell?_setCell_other _ _ _ _ (λq=>ne2 (congrArg Addr.block q).symm)];exact h3,Zi h4,by simpa using h5,Zi h6,by simpa using h7⟩
    have HKP:Aside _:=hkp;clear hkp cl E B N f0 f1 f2 f3 f4 f5 f6 g1 s
    go_region_held3 (λu=>u.cell? ⟨t,5,none⟩=some (.slice (some ⟨g,0,none⟩) d.length gc)/\u.cell? ⟨wr.heap.size,0,none⟩=some (.slice a0 x.Q.length J)/\u.cell? ⟨wr.heap.size,6,none⟩=some (.slice L x.G.length M) /\
     u.cell? ⟨g,k*7,none⟩=some (Qi u ⟨g,k*7,none⟩)/\u.frozen? ⟨g,k*7,none⟩=false/\u.cell? ⟨g,k*7+6,none⟩=some (Qi u ⟨g,k*7+6,none⟩)/\u.frozen? ⟨g,k*7+6,none⟩=false)
     (first|exact⟨p1 _ (by assumption),p2 _ (by assumption),p3 _ (by assumption),p4 _ (by assumption)⟩|exact HKP.out _ _ _ (by assumption))
     (first
      | (go_at_call 38;refine(Fx _ (by assumption)).mono ?_;rintro e u ⟨a7,c7,rfl,n,hu2,hd7⟩)
      | (go_at_call 38;refine(cB _ (by assumption)).mono ?_;rintro e u ⟨a8,c8,rfl,n,hu2,hd8⟩))
    have H:=HCW.out.keepS n;have h7:=hd7.mono (BA.world hu2);have U:=H.set j (c:=k*7) (by omega) h7 rfl;have c2:=U.set j (c:=k*7+6) (by omega) (H.kept j (k*7) (.slice a7 x.Q.length c7) hd8) rfl;have e0:=cQ A5 (λ_=>rfl) d k A 0 (by omega);have e6:=cQ A5 (λ_=>rfl) d k A 6 (by omega);rw[dU (l:=(List.map A5 d).flatMap D.cells) (i:=k*7) (by rw[HX.out];exact e0),dU (by rw[HX.out];exact e6)]at c2;have C2:Aside _:=c2;clear H h7 U c2 e0 e6 p1 p2 p3 p4
    go_wp2_with fail
    go_roundg (d.length-(k+1))
    case measure=>go_light;omega
    case rel=>go_light;exact⟨k+1,by omega,rfl,by go_num,C2.out⟩
   ·have hkz:¬((k:Int)<(d.length:Int)):=by omega
    have m:=HS.out
    go_wp2_with fail
    refine k_.out _ _ ⟨(),β,?_⟩
    exact m.exitRow [1,2] (q:=14) (ys:=List.map A5 d) (by decide) (λ_=>rfl) (by simp[AV.guards]) rfl rfl (by simp) I.keep (λy hy=>by obtain⟨_,_,rfl⟩:=List.mem_map.1 hy;rfl)
     (by
      obtain⟨vals,F,G⟩:=I.row;exact⟨vals,by rw[ua];exact F,λO hO=>G.mono (BA.of_sub hO)⟩)
 conv=>whnf
 refine z13 ?_;refine Fx h (λ_=>Bg _ _) λx48 h=>?_;refine Fx h (λ_=>slices_Clone_Lapi_Frac_api_Frac_w.h _ _) λx52 h=>?_
 conv=>whnf
 refine z13 ?_;refine Fx h (λ_=>slices_Clone_Lapi_CurveStep_api_CurveStep_w.h _ _) λx59 h=>?_;refine Fx h (λ_=>slices_Clone_Lapi_Bin_api_Bin_w.h _ _) λx62 h=>?_;refine Fx h (λ_=>Bg _ _) λx65 h=>?_
 conv=>whnf
 refine⟨.inl ?_⟩
 conv=>whnf
 obtain rfl:=uc h;exact⟨kX⟩⟩
