/- P3W12 -/
import Derived.Test.YthchnhoalhbkcaaGreatDoorP3W7
import Derived.Test.YthchnhoalhbkcaaGreatDoorP3W11
set_option linter.unusedSimpArgs false
set_option linter.unusedVariables false
namespace Go.Proofs.YthchnhoalhbkcaaGreatDoor.P
open Go Go.Deep Go.Abs Go.Proofs
set_option maxRecDepth 100000
set_option maxHeartbeats 4000000
theorem zq3{p:Prop}(h:p:=by obtain rfl:=P3 h;refine⟨.inl ?_⟩;(conv=>whnf);exact⟨Nv⟩):p:=h
instance regress_Make_w:CS Tryz.prog 57 (∀d:Nat,W5 Tryz.prog 57 (Ko d)):=⟨λd p0 p1 p2 p3 p4 R h=>by
 refine Ux [1000001,2000011] Tryz.func57 (by kernel_rfl) ?_;unfold Ko at h;refine FV h (λ_=>extract_Check_w.h _ _ _) λx26 h=>?_;refine DI h (λh=>?_) λh=>?_
 ·conv=>whnf
  exact zq3
 refine FV h (λ_=>program_Right_w.h _ _ _ _) λx38 h=>?_;refine DI h (λh=>?_) λh=>?_
 ·conv=>whnf
  exact zq3
 conv=>whnf
 refine z14 ?_;refine FV h (λ_=>types_Needs_w.h _ _ _ _) λx46 h=>?_;refine FV h (λ_=>condition_Covers_w.h _ _ _) λx47 h=>?_;refine DI h (λh=>?_) λh=>?_
 ·conv=>whnf
  exact zq3
 conv=>whnf
 refine Te h λhr h=>?_;refine z8 ?_
 try rw[mi]
 refine FV h (λ_=>tabulate_Counts_w.h _ _ _ _ _ _) λx58 h=>?_
 conv=>whnf
 refine Bp h λyr11 hyr11 h=>?_;refine jD (CJ 109 [(2,.d (.int .i64 p2)),(3,.d (An 1 (D.int .i64) p3)),(5,.ptr 5 1 0),(6,.ptr 6 1 0),(10,.ptr 10 1 0),(15,.sl 51 1),(16,.d (An 1 (D.int .i64) x58))] [(5,.var [.d (An 2 Ah p0.J),.d (An 7 Al p0.A)],1),(6,.var [.d (.str p1.Af),.d (.int .i64 p1.Ag),.d (An 2 Ag p1.X),.d (An 1 (An 1 (D.int .i64)) p1.G)],1),(10,.var [.d (.int .i64 0),.d (.nil 1),.d (.nil 2),.d (.int .i64 0),.d (.int .i64 0),.d (.int .i64 0),.d (.int .i64 0),.d (.int .i64 0),.d (.int .i64 0)],1),(51,.frow 1 (List.map (D.int .i64) ([p2]++p3)),1)]) Unit (λ_=>CJ 109 [(2,.d (.int .i64 p2)),(3,.d (An 1 (D.int .i64) p3)),(5,.ptr 5 1 0),(6,.ptr 6 1 0),(10,.ptr 10 1 0),(15,.sl 51 1),(16,.d (An 1 (D.int .i64) x58)),(17,.sl 61 1)] [(5,.var [.d (An 2 Ah p0.J),.d (An 7 Al p0.A)],1),(6,.var [.d (.str p1.Af),.d (.int .i64 p1.Ag),.d (An 2 Ag p1.X),.d (An 1 (An 1 (D.int .i64)) p1.G)],1),(10,.var [.d (.int .i64 0),.d (.nil 1),.d (.nil 2),.d (.int .i64 0),.d (.int .i64 0),.d (.int .i64 0),.d (.int .i64 0),.d (.int .i64 0),.d (.int .i64 0)],1),(51,.frow 1 (List.map (D.int .i64) ([p2]++p3)),1),(61,.row 1 30 (List.map (λ_=>D.nil 1) yr11),1)]) ?_ ?_ λ_=>?_
 ·exact Bw
 ·intro X β a w hs;obtain⟨tm,df⟩:=a;obtain⟨l0,rfl⟩:∃l:List Value,tm=l.toArray:=⟨tm.toList,by simp⟩;have h0:l0.length=109:=hs.len;obtain rfl:df=[]:=hs.df
  iterate 13 (replace h0:=TP h0;obtain⟨_,_,_,_,_,_,_,_,l0,rfl,h0⟩:=h0)
  iterate 5 (replace h0:=DV h0;obtain⟨_,l0,rfl,h0⟩:=h0)
  obtain rfl:=List.length_eq_zero_iff.1 h0;clear h0;refine TH λK k=>?_;obtain⟨a16,c16,b16,o16,t16,_⟩:=GQ (VT hs 16 rfl rfl);have t16':=t16;subst t16;obtain⟨hr0,h0⟩:=Vv hyr11;obtain rfl:=P3 h0;have hr0:=(pZ hr0).1;have hS:Aside _:=hs;have hmk:=run_make_row' (P:=Tryz.prog) 29 30 (.slice none 0 0) 24 nY nX rfl .i64 .i64 x58.length (by omega) (by omega);clear hs h0
  go_wp2
  have hs:=hS.out
  refine k.out _ _ ⟨(),_,hs.exitNew [2,3,5,6,10,15,16] (q:=61) (t:=17) (by decide) (by decide) (by simp) (by simp) (by simp[AV.guards]) rfl rfl (by simp) rfl (Hv _ _) (by decide) (λy hy=>by obtain⟨_,_,rfl⟩:=List.mem_map.1 hy;rfl) (λb hb=>by simp[Ac]at hb;omega)
   ⟨List.replicate x58.length (.slice none 0 0),.inl ⟨by simp,.inr ⟨w.heap.size,x58.length,_,by simp,pY _,heap_alloc_new w _,by simp,by unfold maxLen;omega,by simp[size_madeCells],?_⟩⟩,λO=>⟨by rw[U5];simp,λj v y hv hy=>?_⟩⟩⟩
  ·have e:(madeCells #[Value.slice none 0 0] x58.length).toList=List.replicate x58.length (.slice none 0 0):=by
    apply r7;intro i;by_cases hi:i<x58.length
    ·simp[madeCells,hi,Nat.mod_one]
    ·simp[madeCells,hi]
   rw[pX,rV,e,ry];exact qS (by simp)
  ·rw[U5,rV]at hy;rw[sj]at hv hy;split at hv
   ·rename_i hj
    rw[qf hj]at hy;obtain rfl:=P3 hv;obtain rfl:=P3 hy;exact⟨.nil _ _,rfl⟩
   ·cases hv
 conv=>whnf
 refine Bp h λy1 hy1 h=>?_;refine jD (CJ 109 [(2,.d (.int .i64 p2)),(3,.d (An 1 (D.int .i64) p3)),(5,.ptr 5 1 0),(6,.ptr 6 1 0),(10,.ptr 10 1 0),(16,.d (An 1 (D.int .i64) x58)),(17,.sl 61 1),(62,.d (An 1 (D.int .i64) ([p2]++p3))),(63,.d (.int .i64 (([p2]++p3).length:Int))),(64,.d (.int .i64 0))] [(5,.var [.d (An 2 Ah p0.J),.d (An 7 Al p0.A)],1),(6,.var [.d (.str p1.Af),.d (.int .i64 p1.Ag),.d (An 2 Ag p1.X),.d (An 1 (An 1 (D.int .i64)) p1.G)],1),(10,.var [.d (.int .i64 0),.d (.nil 1),.d (.nil 2),.d (.int .i64 0),.d (.int .i64 0),.d (.int .i64 0),.d (.int .i64 0),.d (.int .i64 0),.d (.int .i64 0)],1),(61,.row 1 30 (List.map (λ_=>D.nil 1) yr11),1)]) Unit (λ_=>CJ 109 [(2,.d (.int .i64 p2)),(3,.d (An 1 (D.int .i64) p3)),(6,.ptr 6 1 0),(10,.ptr 10 1 0),(16,.d (An 1 (D.int .i64) x58)),(17,.sl 61 1)] [(5,.var [.d (An 2 Ah p0.J),.d (An 7 Al p0.A)],1),(6,.var [.d (.str p1.Af),.d (.int .i64 p1.Ag),.d (An 2 Ag p1.X),.d (An 1 (An 1 (D.int .i64)) p1.G)],1),(10,.var [.d (.int .i64 0),.d (.nil 1),.d (.nil 2),.d (.int .i64 0),.d (.int .i64 0),.d (.int .i64 0),.d (.int .i64 0),.d (.int .i64 0),.d (.int .i64 0)],1),(61,.row 1 30 (List.map (An 1 (D.int .i64)) y1),1)]) ?_ ?_ λ_=>?_
 ·exact Bw
 ·intro X β a w hs;obtain⟨tm,df⟩:=a;obtain⟨l0,rfl⟩:∃l:List Value,tm=l.toArray:=⟨tm.toList,by simp⟩;have h0:l0.length=109:=hs.len;obtain rfl:df=[]:=hs.df
  iterate 13 (replace h0:=TP h0;obtain⟨_,_,_,_,_,_,_,_,l0,rfl,h0⟩:=h0)
  iterate 5 (replace h0:=DV h0;obtain⟨_,l0,rfl,h0⟩:=h0)
  obtain rfl:=List.length_eq_zero_iff.1 h0;clear h0;refine TH λK k_=>?_;obtain⟨hr0,h0⟩:=Vv hyr11;obtain rfl:=P3 h0;have hn0:=pZ hr0;have hcN:([p2]++p3).length<=1000001:=by have:=hn0.2;omega
  have hc0:0<([p2]++p3).length:=by simp
  have hn0:=hn0.1;generalize hcols:[p2]++p3=cols at *;obtain⟨b5,v5,T5,e5,_,_,c5⟩:=Pj hs 5 rfl;obtain⟨b6,v6,T6,e6,_,_,c6⟩:=Pj hs 6 rfl;obtain⟨s0,q50,k50,_⟩:=c5 0 _ rfl;obtain⟨s1,q51,k51,_⟩:=c5 1 _ rfl;obtain⟨x0,q60,k60,_⟩:=c6 0 _ rfl;obtain⟨x1,q61,k61,_⟩:=c6 1 _ rfl;obtain⟨x2,q62,k62,_⟩:=c6 2 _ rfl;obtain⟨x3,q63,k63,_⟩:=c6 3 _ rfl
  have dS:Aw (OS β X _) w (.agg #[s0,s1]) (Cq p0):=.agg _ _ rfl (by simp[D.one]) λi v x hv hx=>by
   match i,hv,hx with
   | 0,hv,hx=>simp at hv hx;subst hv;subst hx;exact k50
   | 1,hv,hx=>simp at hv hx;subst hv;subst hx;exact k51
   | i+2,hv,hx=>simp at hv
  have dX:Aw (OS β X _) w (.agg #[x0,x1,x2,x3]) (Do p1):=.agg _ _ rfl (by simp[D.one]) λi v x hv hx=>by
   match i,hv,hx with
   | 0,hv,hx=>simp at hv hx;subst hv;subst hx;exact k60
   | 1,hv,hx=>simp at hv hx;subst hv;subst hx;exact k61
   | 2,hv,hx=>simp at hv hx;subst hv;subst hx;exact k62
   | 3,hv,hx=>simp at hv hx;subst hv;subst hx;exact k63
   | i+4,hv,hx=>simp at hv
  obtain⟨_,r5,t5⟩:=Pi hs 5 rfl rfl rfl;obtain⟨_,r6,t6⟩:=Pi hs 6 rfl rfl rfl;have r5:=e5.symm.trans r5;have r6:=e6.symm.trans r6;simp at r5 r6;subst r5;subst r6;have d16:=VT hs 16 rfl rfl;have d62:=VT hs 62 rfl rfl;obtain⟨a16,c16,b16,o16,t16,h16⟩:=GQ d16;obtain⟨a62,c62,b62,o62,t62,h62⟩:=GQ d62;have t63:=AJ (VT hs 63 rfl rfl);have t64:=AJ (VT hs 64 rfl rfl);have t17:=mY hs 17 rfl rfl rfl;have hbx:I3 β _ _ w 61 (.row 1 30 (List.map (λ_=>D.nil 1) (List.replicate x58.length ([]:List Int)))):=hs.boxes 61;obtain⟨_,_,us0,hrow,hL⟩:=hbx;rw[U5,rV]at hL;rw[pX,rV]at hrow;obtain⟨ga,gc,eu,hga,hul0⟩:=QR hrow;have hR0:=RM.start hrow (by omega) (mh hL);have hM:=U8 hs 61 rfl;have n5:¬Ac (β 61)=some b5:=λh=>by have:=hs.inj 5 61 b5 rfl rfl (by rw[e5];rfl) h;cases this
  have n6:¬Ac (β 61)=some b6:=λh=>by have:=hs.inj 6 61 b6 rfl rfl (by rw[e6];rfl) h;cases this
  have lt5:=World.block_lt_of_cell? _ _ q50;have lt6:=World.block_lt_of_cell? _ _ q60;obtain⟨e62,m62,lt62,_⟩:=h62 0 hc0;subst e62
  have hval:=λc v (hv:BK p0 p1 x58 c=some v)=>λwr (hk:A7 w.heap.size (λb=>Ac (β 61)=some b) w wr)=>Y8 (tabulate_Values_w.h p0 p1 x58 c v hv) hs hM hk #[.agg #[s0,s1],.agg #[x0,x1,x2,x3],.slice a16 x58.length c16,.int .i64 c] rfl λi v x hv hx=>by
   match i,hv,hx with
   | 0,hv,hx=>simp at hv hx;subst hv;subst hx;exact dS
   | 1,hv,hx=>simp at hv hx;subst hv;subst hx;exact dX
   | 2,hv,hx=>simp at hv hx;subst hv;subst hx;rw[<-t16];exact d16
   | 3,hv,hx=>simp at hv hx;subst hv;subst hx;exact .int _ _
   | i+4,hv,hx=>simp at hv
  have HV:Aside _:=hval;have HS:Aside _:=hs;rw[eu]at t17;have HM:Aside _:=hM;have HE:Aside _:=eu;subst t5;subst t6;subst t16;subst t62;subst t63;subst t64;subst t17;clear hval hs hM eu d16 d62 dS dX c5 c6 e5 e6 k50 k51 k60 k61 k62 k63 hrow hL h16 hr0 h0
  go_wp2_with fail
  go_loopg [64] cols.length (λg i wr=>∃(k:Nat)(us:List Value)(vals:List (List Int)),k<=cols.length/\g=cols.length-k/\i=.int .i64 k/\Aside (RM w wr (β 61) 30 us vals/\us.length=x58.length/\(∀(j:Nat) l,vals[j]?=some l->l.length=k)/\Iv p0 p1 x58 (cols.drop k) vals=some y1))
  case atStart =>
   refine⟨0,us0,_,pY _,rfl,rfl,hR0,by omega,λj l h=>?_,hy1⟩;rw[sj]at h;split at h
   ·rw[<-P3 h];rfl
   ·cases h
  case round =>
   clear hR0;obtain⟨k,us,vals,hk,rfl,rfl,hA⟩:=hrel;obtain⟨hR,hul,hvl,hfl⟩:=hA.out;have hvn:vals.length=x58.length:=by rw[<-hR.len];exact hul
   by_cases hkn:k<cols.length
   ·have hkz:(k:Int)<(cols.length:Int):=by omega
    have hM:=HM.out;have g0:wr.cell? ⟨b62,o62+k,none⟩=some (.int .i64 (cols.getD k 0)):=by rw[D9 hR.keep lt62 (λh=>m62 (hM _ h))];exact(h62 k hkn).2.2.2
    have g50:wr.cell? ⟨b5,0,none⟩=some s0:=by rw[D9 hR.keep lt5 n5];exact q50
    have g51:wr.cell? ⟨b5,1,none⟩=some s1:=by rw[D9 hR.keep lt5 n5];exact q51
    have g60:wr.cell? ⟨b6,0,none⟩=some x0:=by rw[D9 hR.keep lt6 n6];exact q60
    have g61:wr.cell? ⟨b6,1,none⟩=some x1:=by rw[D9 hR.keep lt6 n6];exact q61
    have g62:wr.cell? ⟨b6,2,none⟩=some x2:=by rw[D9 hR.keep lt6 n6];exact q62
    have g63:wr.cell? ⟨b6,3,none⟩=some x3:=by rw[D9 hR.keep lt6 n6];exact q63
    rw[Yz hkn]at hfl;simp only[Iv]at hfl;obtain⟨v,hv,hfl⟩:=Option.bind_eq_some_iff.1 hfl
    cases hvv:(v.length==vals.length)with
    | false=>rw[hvv]at hfl;cases hfl
    | true =>
     rw[hvv]at hfl;have hvv:=sR hvv;have HF:Aside _:=hfl;have HVV:Aside _:=hvv;clear hvv;have hcall:=HV.out _ v hv wr hR.keep;generalize cols.getD k 0=c at g0 hcall;obtain⟨z1,hz1⟩:∃z,z=wr.heap.size:=⟨_,rfl⟩;have HR:Aside (RM w wr (β 61) 30 us vals):=hR;have HZ:Aside (z1=wr.heap.size):=hz1;have HL:Aside (∀(j:Nat) l,vals[j]?=some l->l.length=k):=hvl;clear hfl hA hv hR hz1 hvl
     go_wp2_with (go_at_call 108;refine hcall.mono ?_;rintro e w2 ⟨vv,rfl,hb2,hr2⟩;obtain⟨a72,c72,b72,o72,rfl,h72⟩:=GQ hr2)
     have hR2:=HR.out.keepS hb2;rw[<-HZ.out]at h72 hb2;have H72:Aside _:=h72;have HB2:Aside _:=hb2;have HR2:Aside _:=hR2
     have HA0:Aside (∀(i:Nat) u b,us[i]?=some u->Ac u=some b->b<z1):=λi u b h1 h2=>by
      have hi:i<vals.length:=by rw[<-HR.out.len];exact A5 h1
      rw[HZ.out];exact((HR.out.row i u _ h1 (P2 hi)).2 b h2).2
     clear g0 g50 g51 g60 g61 g62 g63 hcall hr2 h72 hb2 hR2
     go_loopg [74] v.length (λg i wi=>∃(j:Nat)(us':List Value),j<=v.length/\g=v.length-j/\i=.int .i64 j/\Aside (RM w wi (β 61) 30 us' (Sx (λl x=>l++[x]) vals v j)/\us'.length=x58.length/\w2.heap.size<=wi.heap.size/\(∀b,z1<=b->b<w2.heap.size->wi.heap[b]?=w2.heap[b]?)/\∀(i:Nat) u b,us'[i]?=some u->Ac u=some b->b<z1\/w2.heap.size<=b))
     case atStart=>exact⟨0,us,pY _,rfl,rfl,by simpa [Sx] using HR2.out,hul,qb _,λ_ _ _=>rfl,λi u b h1 h2=>.inl (HA0.out i u b h1 h2)⟩
     case round =>
      obtain⟨j,us',hj,rfl,rfl,hB⟩:=hrel;obtain⟨hQ,hql,hqz,hqf,hqa⟩:=hB.out;by_cases hjn:j<v.length
      ·have hjz:(j:Int)<(v.length:Int):=by omega
       obtain⟨e72,m72,lt72,g72⟩:=H72.out j hjn;subst e72
       have gv:wr.cell? ⟨b72,o72+j,none⟩=some (.int .i64 (v.getD j 0)):=by
        rw[<-g72];by_cases hold:b72<w.heap.size
        ·have hno:¬Ac (β 61)=some b72:=λh=>m72 (.inl (hM _ h));rw[D9 hQ.keep hold hno,D9 HR2.out.keep hold hno]
        ·exact World.cell?_of_block (w:=w2) (hqf b72 (by
         rcases qw b72 z1 with q|q
         ·exact absurd (.inr ⟨by omega,q⟩) m72
         ·exact q) lt72)
       have hju:j<us'.length:=by have:=HVV.out;omega
       obtain⟨u,hu⟩:∃u,us'[j]?=some u:=⟨_,P2 hju⟩;have hjv:j<vals.length:=by have:=HVV.out;omega
       have hl:=iE (f:=λ(l:List Int)(x:Int)=>l++[x]) HVV.out hjv;obtain⟨g,cap,cur,eg,hcp,hbg,hbh,hle,_,_,_,hcu⟩:=hQ.at_ hu;have e1:=HE.out.symm.trans eg;simp only[Value.slice.injEq]at e1;obtain⟨e2,e3,e4⟩:=e1;subst e2;subst e4;obtain⟨x,hx⟩:∃x,x=v.getD j 0:=⟨_,rfl⟩;rw[<-hx]at gv;have HX:Aside (x=v.getD j 0):=hx;have hQW:=hQ.keepS (Hv wr (.cells #[.int .i64 x] 3));obtain⟨hrw,hbw⟩:=hQW.row j u _ hu hl;have hll:(vals[j]).length<=2000000:=by have:=HL.out j _ (P2 hjv);omega
       obtain⟨u',w',hrun,hr',hb',hn'⟩:=eJ (vb:=wr.heap.size) (vc:=1) (x:=x) hrw hll (World.cell?_alloc_at _ _ _ _ rfl);obtain⟨ga',gc',eu',hga',_⟩:=QR hr';obtain⟨g2,rfl,hg2⟩:=hga' (Nat.succ_pos _)
       have hgu:Ac u≠some g:=λh=>by
        have:=(hbw g h).1;have:=hQ.lt g hbg;omega
       have hgW:g<(wr.alloc (.cells #[.int .i64 x] 3)).heap.size:=by have:=hQ.lt g hbg;have:=hQ.keep.size;simp;omega
       have hgw':w'.heap[g]?=(wr.alloc (.cells #[.int .i64 x] 3)).heap[g]?:=hb'.block g hgW hgu;have hg0:(wr.alloc (.cells #[.int .i64 x] 3)).heap[g]?=wr.heap[g]?:=blk_alloc_lt _ _ _ (by have:=hQ.lt g hbg;have:=hQ.keep.size;omega);have hcW:∀o,(wr.alloc o).cell? ⟨g,j,none⟩=some u:=λo=>by rw[World.cell?_of_block (w:=wr) (show(wr.alloc o).heap[g]?=wr.heap[g]? from blk_alloc_lt _ o _ (by have:=hQ.lt g hbg;have:=hQ.keep.size;omega))];exact hcu
       have hc1:w'.cell? ⟨g,j,none⟩=some u:=by rw[World.cell?_of_block (w:=wr) (hgw'.trans hg0)];exact hcu
       have hc2:w'.frozen? ⟨g,j,none⟩=false:=by rw[World.frozen?_of_block (w:=wr) (hgw'.trans hg0)];simp[World.frozen?,hbh]
       have hjL:(j:Int)<(x58.length:Int):=by have:=HVV.out;omega
       subst eu';have HH:Aside (_/\_/\_/\_/\_/\_/\_/\_/\_/\_/\_/\_):=⟨hQW,hql,hqz,hqf,hqa,hu,hl,hbw,hr',hb',hn',hbg⟩;clear hQ hql hqz hqf hqa hl hrw hbw hr' hb' hn' hB hQW hgw' hg0 hx hga' eg hbh hgu hgW e3 hul hvn
       go_wp2_with (at_builtin;refine Lib.wpList_append_run _ rfl _ _ _ _ rfl _ _ rfl rfl _ _ hrun ?_)
       go_roundg (v.length-(j+1))
       case measure=>go_light;omega
       case rel =>
        go_light
        obtain⟨hQW,hql,hqz,hqf,hqa,hu,hl,hbw,hr',hb',hn',hbg⟩:=HH.out;have hstep:=hQW.step hu hl hr' hb' (λb hb=>⟨hn' b hb,hr'.lt hb⟩) hbg;have hset:=(show(Sx (λ(l:List Int)(x:Int)=>l++[x]) vals v j).set j (vals[j]++[v[j]])=_ from iF (f:=λ(l:List Int)(x:Int)=>l++[x]) HVV.out hjv);have hxv:x=v[j]:=by rw[HX.out];simp[qc,hjn]
        rw[hxv,hset]at hstep;refine⟨j+1,_,by omega,rfl,by go_num,hstep,by rw[sx];exact hql,?_,λb hb1 hb2=>?_,λi y b h1 h2=>?_⟩
        ·have:=hb'.size;simp at this ⊢;omega
        ·have hbg2:b≠g:=λe=>by have:=hQW.lt g hbg;have:=HZ.out;have:=HR.out.keep.size;omega
         have hbu:Ac u≠some b:=λe=>by
          rcases hqa j u b hu e with q|q<;>omega
         rw[blk_setCell_other _ _ _ _ (by show b≠g;exact hbg2),hb'.block b (by simp;omega) hbu,blk_alloc_lt _ _ _ (by omega)];exact hqf b hb1 hb2
        ·rw[qO]at h1;split at h1
         ·have:=(P3 h1).symm;subst this;rcases hn' b h2 with q|q
          ·exact hqa j u b hu q
          ·right;rw[q];simp;omega
         ·exact hqa i y b h1 h2
      ·have hjz:¬((j:Int)<(v.length:Int)):=by omega
       go_wp2_with fail
       go_roundg (cols.length-(k+1))
       case measure=>go_light;omega
       case rel =>
        go_light
        obtain⟨hQ,hql,_,_,_⟩:=hB.out;have hjl:j=vals.length:=by have:=HVV.out;omega
        rw[hjl,iD HVV.out]at hQ;refine⟨k+1,us',_,by omega,rfl,by go_num,hQ,hql,λi l h=>?_,HF.out⟩;rw[List.getElem?_zipWith]at h
        cases h1:vals[i]? with
        | none=>simp[h1]at h
        | some l1 =>
         cases h2:v[i]? with
         | none=>simp[h1,h2]at h
         | some x1 =>
          simp[h1,h2]at h;rw[<-h];have:=HL.out i l1 h1;simp[this]
   ·have hkz:¬((k:Int)<(cols.length:Int)):=by omega
    have hs:=HS.out
    go_wp2_with fail
    rw[sW (by omega)]at hfl;obtain rfl:=P3 hfl;refine k_.out _ _ ⟨(),β,?_⟩
    exact hs.exitRow [2,3,6,10,16,17] (q:=61) (ys:=List.map (An 1 (D.int .i64)) vals) (by decide) (λ_=>rfl) (by simp[AV.guards]) rfl rfl (by simp) hR.keep (λy hy=>by obtain⟨_,_,rfl⟩:=List.mem_map.1 hy;rfl)
     ⟨us,by rw[pX,<-hR.len];exact hR.top,λO hO=>⟨by rw[be,pX];exact hR.len,λi v y hv hy=>by
      rw[be,ql]at hy
      cases hl:vals[i]? with
      | none=>simp[hl]at hy
      | some l =>
       simp[hl]at hy;subst hy;obtain⟨h1,h2⟩:=hR.row i v l hv hl;exact⟨QQ h1 λb hb hOb=>by have:=(h2 b hb).1;have:=hs.os_lt (hO b hOb);omega,rfl⟩⟩⟩
 refine FV h (λ_=>regress_Fit_w.h _ _) λx93 h=>?_;refine DI h (λh=>?_) λh=>?_
 ·conv=>whnf
  exact zq3
 refine FV h (λ_=>Bt _ _) λx102 h=>?_
 conv=>whnf
 refine z14 ?_
 conv=>whnf
 refine⟨.inl ?_⟩;refine FV h (λ_=>tabulate_Keys_w.h _ _ _) λx108 h=>?_
 conv=>whnf
 obtain rfl:=P3 h;exact⟨Nv⟩⟩
end Go.Proofs.YthchnhoalhbkcaaGreatDoor.P
