/- P3W13 -/
import Derived.Test.YtaojdkijihbaoaaGreatDoorP3W8
import Derived.Test.YtaojdkijihbaoaaGreatDoorP3W12
set_option linter.all false
namespace Go.Proofs.YtaojdkijihbaoaaGreatDoor.P
open Go Go.Deep Go.Abs Go.Proofs
set_option maxRecDepth 100000
set_option maxHeartbeats 4000000
instance regress_Make_w:CS Tryz.prog 89 (∀d:Nat,W5 Tryz.prog 89 (E0 d)):=⟨λd V A p2 p3 p4 R h=>by
 refine Q7 [1000001,2000011] Tryz.func89 (by kernel_rfl) ?_;unfold E0 at h;refine Fx h (λ_=>extract_Check_w.h _ _ _) λx26 h=>?_;refine EA h (λh=>?_) λh=>?_
 ·conv=>whnf
  exact z19
 refine Fx h (λ_=>program_Right_w.h _ _ _ _) λx38 h=>?_;refine EA h (λh=>?_) λh=>?_
 ·conv=>whnf
  exact z19
 conv=>whnf
 refine z13 ?_;refine Fx h (λ_=>types_Needs_w.h _ _ _ _) λx46 h=>?_;refine Fx h (λ_=>condition_Covers_w.h _ _ _) λx47 h=>?_;refine EA h (λh=>?_) λh=>?_
 ·conv=>whnf
  exact z19
 conv=>whnf
 refine S3 h λhr h=>?_;refine z8 ?_
 try rw[pt]
 refine Fx h (λ_=>tabulate_Counts_w.h _ _ _ _ _ _) λn h=>?_
 conv=>whnf
 refine BD h λyr11 W h=>?_;refine mz (Dk 109 [(2,.i p2),(3,.l 1 D.z p3),(5,.ptr 5 1 0),(6,.ptr 6 1 0),(10,.ptr 10 1 0),(15,.sl 51 1),(16,.l 1 D.z n)] [(5,.var [.l 2 Ai V.K,.l 7 Am V.A],1),(6,.var [.t A.Ae,.i A.Ag,.l 2 Ah A.E,.l 1 (Ao 1 D.z) A.G],1),(10,.var [.i 0,.n 1,.n 2,.i 0,.i 0,.i 0,.i 0,.i 0,.i 0],1),(51,.frow 1 (List.map D.z ([p2]++p3)),1)]) Unit (λ_=>Dk 109 [(2,.i p2),(3,.l 1 D.z p3),(5,.ptr 5 1 0),(6,.ptr 6 1 0),(10,.ptr 10 1 0),(15,.sl 51 1),(16,.l 1 D.z n),(17,.sl 61 1)] [(5,.var [.l 2 Ai V.K,.l 7 Am V.A],1),(6,.var [.t A.Ae,.i A.Ag,.l 2 Ah A.E,.l 1 (Ao 1 D.z) A.G],1),(10,.var [.i 0,.n 1,.n 2,.i 0,.i 0,.i 0,.i 0,.i 0,.i 0],1),(51,.frow 1 (List.map D.z ([p2]++p3)),1),(61,.row 1 30 (List.map (λ_=>D.nil 1) yr11),1)]) ?_ ?_ λ_=>?_
 ·exact Bq
 ·intro X β a w p;obtain⟨tm,df⟩:=a;obtain⟨l0,rfl⟩:∃l:List Value,tm=l.toArray:=⟨tm.toList,by simp⟩;have r:l0.length=109:=p.len;obtain rfl:df=[]:=p.df
  iterate 13 (replace r:=U9 r;obtain⟨_,_,_,_,_,_,_,_,l0,rfl,r⟩:=r)
  iterate 5 (replace r:=E7 r;obtain⟨_,l0,rfl,r⟩:=r)
  obtain rfl:=List.length_eq_zero_iff.1 r;clear r;refine U1 λK k=>?_;obtain⟨a16,c16,b16,o16,t16,_⟩:=Ht (WN p 16 rfl rfl);have t16':=t16;subst t16;obtain⟨Y,r⟩:=Wj W;obtain rfl:=uc r;have Y:=(uf Y).1;have hS:Aside _:=p;have hmk:=run_make_row' (P:=Tryz.prog) 29 30 (.slice none 0 0) 24 rt rr rfl .i64 .i64 n.length (by omega) (by omega);clear p r
  go_wp2
  have p:=hS.out
  refine k.out _ _ ⟨(),_,p.exitNew [2,3,5,6,10,15,16] (q:=61) (t:=17) (by decide) (by decide) (by simp) (by simp) (by simp[AV.guards]) rfl rfl (by simp) rfl (Ik _ _) (by decide) (λy hy=>by obtain⟨_,_,rfl⟩:=List.mem_map.1 hy;rfl) (λb hb=>by simp[Ae]at hb;omega)
   ⟨List.replicate n.length (.slice none 0 0),.inl ⟨by simp,.inr ⟨w.heap.size,n.length,_,by simp,ug _,heap_alloc_new w _,by simp,by unfold maxLen;omega,by simp[size_madeCells],?_⟩⟩,λO=>⟨by rw[Vl];simp,λj v y m hy=>?_⟩⟩⟩
  ·have e:(madeCells #[Value.slice none 0 0] n.length).toList=List.replicate n.length (.slice none 0 0):=by
    apply vX;intro i;by_cases hi:i<n.length
    ·simp[madeCells,hi,Nat.mod_one]
    ·simp[madeCells,hi]
   rw[ua,wE,e,vV];exact vM (by simp)
  ·rw[Vl,wE]at hy;rw[wP]at m hy;split at m
   ·rename_i hj
    rw[uk hj]at hy;obtain rfl:=uc m;obtain rfl:=uc hy;exact⟨.nil _ _,rfl⟩
   ·cases m
 conv=>whnf
 refine BD h λy1 hy1 h=>?_;refine mz (Dk 109 [(2,.i p2),(3,.l 1 D.z p3),(5,.ptr 5 1 0),(6,.ptr 6 1 0),(10,.ptr 10 1 0),(16,.l 1 D.z n),(17,.sl 61 1),(62,.l 1 D.z ([p2]++p3)),(63,.i (([p2]++p3).length:Int)),(64,.i 0)] [(5,.var [.l 2 Ai V.K,.l 7 Am V.A],1),(6,.var [.t A.Ae,.i A.Ag,.l 2 Ah A.E,.l 1 (Ao 1 D.z) A.G],1),(10,.var [.i 0,.n 1,.n 2,.i 0,.i 0,.i 0,.i 0,.i 0,.i 0],1),(61,.row 1 30 (List.map (λ_=>D.nil 1) yr11),1)]) Unit (λ_=>Dk 109 [(2,.i p2),(3,.l 1 D.z p3),(6,.ptr 6 1 0),(10,.ptr 10 1 0),(16,.l 1 D.z n),(17,.sl 61 1)] [(5,.var [.l 2 Ai V.K,.l 7 Am V.A],1),(6,.var [.t A.Ae,.i A.Ag,.l 2 Ah A.E,.l 1 (Ao 1 D.z) A.G],1),(10,.var [.i 0,.n 1,.n 2,.i 0,.i 0,.i 0,.i 0,.i 0,.i 0],1),(61,.row 1 30 (List.map (Ao 1 D.z) y1),1)]) ?_ ?_ λ_=>?_
 ·exact Bq
 ·intro X β a w p;obtain⟨tm,df⟩:=a;obtain⟨l0,rfl⟩:∃l:List Value,tm=l.toArray:=⟨tm.toList,by simp⟩;have r:l0.length=109:=p.len;obtain rfl:df=[]:=p.df
  iterate 13 (replace r:=U9 r;obtain⟨_,_,_,_,_,_,_,_,l0,rfl,r⟩:=r)
  iterate 5 (replace r:=E7 r;obtain⟨_,l0,rfl,r⟩:=r)
  obtain rfl:=List.length_eq_zero_iff.1 r;clear r;refine U1 λK k_=>?_;obtain⟨Y,r⟩:=Wj W;obtain rfl:=uc r;have hn0:=uf Y;have hcN:([p2]++p3).length<=1000001:=by have:=hn0.2;omega
  have hc0:0<([p2]++p3).length:=by simp
  have hn0:=hn0.1;generalize hcols:[p2]++p3=cols at *;obtain⟨b5,v5,T5,e5,_,_,c5⟩:=PN p 5 rfl;obtain⟨b6,v6,T6,e6,_,_,c6⟩:=PN p 6 rfl;obtain⟨s0,q50,k50,_⟩:=c5 0 _ rfl;obtain⟨s1,q51,k51,_⟩:=c5 1 _ rfl;obtain⟨x0,q60,k60,_⟩:=c6 0 _ rfl;obtain⟨x1,q61,k61,_⟩:=c6 1 _ rfl;obtain⟨x2,q62,k62,_⟩:=c6 2 _ rfl;obtain⟨x3,q63,k63,_⟩:=c6 3 _ rfl
  have dS:Ay (OS β X _) w (.agg #[s0,s1]) (EK V):=.agg _ _ rfl (by simp[D.one]) λi v x m hx=>by
   match i,m,hx with
   | 0,m,hx=>simp at m hx;subst m;subst hx;exact k50
   | 1,m,hx=>simp at m hx;subst m;subst hx;exact k51
   | i+2,m,hx=>simp at m
  have dX:Ay (OS β X _) w (.agg #[x0,x1,x2,x3]) (E5 A):=.agg _ _ rfl (by simp[D.one]) λi v x m hx=>by
   match i,m,hx with
   | 0,m,hx=>simp at m hx;subst m;subst hx;exact k60
   | 1,m,hx=>simp at m hx;subst m;subst hx;exact k61
   | 2,m,hx=>simp at m hx;subst m;subst hx;exact k62
   | 3,m,hx=>simp at m hx;subst m;subst hx;exact k63
   | i+4,m,hx=>simp at m
  obtain⟨_,r5,t5⟩:=PM p 5 rfl rfl rfl;obtain⟨_,r6,t6⟩:=PM p 6 rfl rfl rfl;have r5:=e5.symm.trans r5;have r6:=e6.symm.trans r6;simp at r5 r6;subst r5;subst r6;have d16:=WN p 16 rfl rfl;have d62:=WN p 62 rfl rfl;obtain⟨a16,c16,b16,o16,t16,h16⟩:=Ht d16;obtain⟨a62,c62,b62,o62,t62,h62⟩:=Ht d62;have t63:=AJ (WN p 63 rfl rfl);have t64:=AJ (WN p 64 rfl rfl);have t17:=qu p 17 rfl rfl rfl;have hbx:IU β _ _ w 61 (.row 1 30 (List.map (λ_=>D.nil 1) (List.replicate n.length ([]:List Int)))):=p.boxes 61;obtain⟨_,_,us0,J,hL⟩:=hbx;rw[Vl,wE]at hL;rw[ua,wE]at J;obtain⟨ga,gc,eu,hga,hul0⟩:=Rt J;have hR0:=RM.start J (by omega) (pq hL);have hM:=Vq p 61 rfl;have n5:¬Ae (β 61)=some b5:=λh=>by have:=p.inj 5 61 b5 rfl rfl (by rw[e5];rfl) h;cases this
  have n6:¬Ae (β 61)=some b6:=λh=>by have:=p.inj 6 61 b6 rfl rfl (by rw[e6];rfl) h;cases this
  have lt5:=World.block_lt_of_cell? _ _ q50;have lt6:=World.block_lt_of_cell? _ _ q60;obtain⟨e62,m62,lt62,_⟩:=h62 0 hc0;subst e62
  have hval:=λc v (m:Ck V A n c=some v)=>λwr (hk:A8 w.heap.size (λb=>Ae (β 61)=some b) w wr)=>Z1 (tabulate_Values_w.h V A n c v m) p hM hk #[.agg #[s0,s1],.agg #[x0,x1,x2,x3],.slice a16 n.length c16,.int .i64 c] rfl λi v x m hx=>by
   match i,m,hx with
   | 0,m,hx=>simp at m hx;subst m;subst hx;exact dS
   | 1,m,hx=>simp at m hx;subst m;subst hx;exact dX
   | 2,m,hx=>simp at m hx;subst m;subst hx;rw[<-t16];exact d16
   | 3,m,hx=>simp at m hx;subst m;subst hx;exact .int _ _
   | i+4,m,hx=>simp at m
  have HV:Aside _:=hval;have HS:Aside _:=p;rw[eu]at t17;have HM:Aside _:=hM;have HE:Aside _:=eu;subst t5;subst t6;subst t16;subst t62;subst t63;subst t64;subst t17;clear hval p hM eu d16 d62 dS dX c5 c6 e5 e6 k50 k51 k60 k61 k62 k63 J hL h16 Y r
  go_wp2_with fail
  go_loopg [64] cols.length (λg i wr=>∃(k:Nat)(us:List Value)(vals:List (List Int)),k<=cols.length/\g=cols.length-k/\i=.int .i64 k/\Aside (RM w wr (β 61) 30 us vals/\us.length=n.length/\(∀(j:Nat) l,vals[j]?=some l->l.length=k)/\IJ V A n (cols.drop k) vals=some y1))
  case atStart =>
   refine⟨0,us0,_,ug _,rfl,rfl,hR0,by omega,λj l h=>?_,hy1⟩;rw[wP]at h;split at h
   ·rw[<-uc h];rfl
   ·cases h
  case round =>
   clear hR0;obtain⟨k,us,vals,hk,rfl,rfl,hA⟩:=hrel;obtain⟨C,hul,hvl,s⟩:=hA.out;have hvn:vals.length=n.length:=by rw[<-C.len];exact hul
   by_cases hkn:k<cols.length
   ·have hkz:(k:Int)<(cols.length:Int):=by omega
    have hM:=HM.out;have g0:wr.cell? ⟨b62,o62+k,none⟩=some (.int .i64 (cols.getD k 0)):=by rw[El C.keep lt62 (λh=>m62 (hM _ h))];exact(h62 k hkn).2.2.2
    have g50:wr.cell? ⟨b5,0,none⟩=some s0:=by rw[El C.keep lt5 n5];exact q50
    have g51:wr.cell? ⟨b5,1,none⟩=some s1:=by rw[El C.keep lt5 n5];exact q51
    have g60:wr.cell? ⟨b6,0,none⟩=some x0:=by rw[El C.keep lt6 n6];exact q60
    have g61:wr.cell? ⟨b6,1,none⟩=some x1:=by rw[El C.keep lt6 n6];exact q61
    have g62:wr.cell? ⟨b6,2,none⟩=some x2:=by rw[El C.keep lt6 n6];exact q62
    have g63:wr.cell? ⟨b6,3,none⟩=some x3:=by rw[El C.keep lt6 n6];exact q63
    rw[Zr hkn]at s;simp only[IJ]at s;obtain⟨v,m,s⟩:=Option.bind_eq_some_iff.1 s
    cases M:(v.length==vals.length)with
    | false=>rw[M]at s;cases s
    | true =>
     rw[M]at s;have M:=eq_of_beq M;have HF:Aside _:=s;have F:Aside _:=M;clear M;have G:=HV.out _ v m wr C.keep;generalize cols.getD k 0=c at g0 G;obtain⟨z1,hz1⟩:∃z,z=wr.heap.size:=⟨_,rfl⟩;have HR:Aside (RM w wr (β 61) 30 us vals):=C;have HZ:Aside (z1=wr.heap.size):=hz1;have HL:Aside (∀(j:Nat) l,vals[j]?=some l->l.length=k):=hvl;clear s hA m C hz1 hvl
     go_wp2_with (go_at_call 146;refine G.mono ?_;rintro e w2 ⟨vv,rfl,N,hr2⟩;obtain⟨a72,c72,Z,o72,rfl,h72⟩:=Ht hr2)
     have hR2:=HR.out.keepS N;rw[<-HZ.out]at h72 N;have H72:Aside _:=h72;have HB2:Aside _:=N;have HR2:Aside _:=hR2
     have HA0:Aside (∀(i:Nat) u b,us[i]?=some u->Ae u=some b->b<z1):=λi u b E h2=>by
      have hi:i<vals.length:=by rw[<-HR.out.len];exact A6 E
      rw[HZ.out];exact((HR.out.row i u _ E (P3 hi)).2 b h2).2
     clear g0 g50 g51 g60 g61 g62 g63 G hr2 h72 N hR2
     go_loopg [74] v.length (λg i wi=>∃(j:Nat)(H:List Value),j<=v.length/\g=v.length-j/\i=.int .i64 j/\Aside (RM w wi (β 61) 30 H (Td (λl x=>l++[x]) vals v j)/\H.length=n.length/\w2.heap.size<=wi.heap.size/\(∀b,z1<=b->b<w2.heap.size->wi.heap[b]?=w2.heap[b]?)/\∀(i:Nat) u b,H[i]?=some u->Ae u=some b->b<z1\/w2.heap.size<=b))
     case atStart=>exact⟨0,us,ug _,rfl,rfl,by simpa [Td] using HR2.out,hul,uh _,λ_ _ _=>rfl,λi u b E h2=>.inl (HA0.out i u b E h2)⟩
     case round =>
      obtain⟨j,H,hj,rfl,rfl,hB⟩:=hrel;obtain⟨L,Q,hqz,hqf,S⟩:=hB.out;by_cases hjn:j<v.length
      ·have hjz:(j:Int)<(v.length:Int):=by omega
       obtain⟨e72,m72,lt72,g72⟩:=H72.out j hjn;subst e72
       have gv:wr.cell? ⟨Z,o72+j,none⟩=some (.int .i64 (v.getD j 0)):=by
        rw[<-g72];by_cases hold:Z<w.heap.size
        ·have hno:¬Ae (β 61)=some Z:=λh=>m72 (.inl (hM _ h));rw[El L.keep hold hno,El HR2.out.keep hold hno]
        ·exact World.cell?_of_block (w:=w2) (hqf Z (by
          rcases uZ Z z1 with q|q
          ·exact absurd (.inr ⟨by omega,q⟩) m72
          ·exact q) lt72)
       have hju:j<H.length:=by have:=F.out;omega
       obtain⟨u,hu⟩:∃u,H[j]?=some u:=⟨_,P3 hju⟩;have hjv:j<vals.length:=by have:=F.out;omega
       have hl:=kR (f:=λ(l:List Int)(x:Int)=>l++[x]) F.out hjv;obtain⟨g,cap,cur,eg,hcp,B,hbh,hle,_,_,_,hcu⟩:=L.at_ hu;have e1:=HE.out.symm.trans eg;simp only[Value.slice.injEq]at e1;obtain⟨e2,e3,e4⟩:=e1;subst e2;subst e4;obtain⟨x,hx⟩:∃x,x=v.getD j 0:=⟨_,rfl⟩;rw[<-hx]at gv;have HX:Aside (x=v.getD j 0):=hx;have T:=L.keepS (Ik wr (.cells #[.int .i64 x] 3));obtain⟨hrw,hbw⟩:=T.row j u _ hu hl;have hll:(vals[j]).length<=2000000:=by have:=HL.out j _ (P3 hjv);omega
       obtain⟨u',w',hrun,U,I,hn'⟩:=gX (vb:=wr.heap.size) (vc:=1) (x:=x) hrw hll (World.cell?_alloc_at _ _ _ _ rfl);obtain⟨ga',gc',eu',hga',_⟩:=Rt U;obtain⟨g2,rfl,hg2⟩:=hga' (Nat.succ_pos _)
       have hgu:Ae u≠some g:=λh=>by
        have:=(hbw g h).1;have:=L.lt g B;omega
       have hgW:g<(wr.alloc (.cells #[.int .i64 x] 3)).heap.size:=by have:=L.lt g B;have:=L.keep.size;simp;omega
       have hgw':w'.heap[g]?=(wr.alloc (.cells #[.int .i64 x] 3)).heap[g]?:=I.block g hgW hgu;have hg0:(wr.alloc (.cells #[.int .i64 x] 3)).heap[g]?=wr.heap[g]?:=blk_alloc_lt _ _ _ (by have:=L.lt g B;have:=L.keep.size;omega);have hcW:∀o,(wr.alloc o).cell? ⟨g,j,none⟩=some u:=λo=>by rw[World.cell?_of_block (w:=wr) (show(wr.alloc o).heap[g]?=wr.heap[g]? from blk_alloc_lt _ o _ (by have:=L.lt g B;have:=L.keep.size;omega))];exact hcu
       have hc1:w'.cell? ⟨g,j,none⟩=some u:=by rw[World.cell?_of_block (w:=wr) (hgw'.trans hg0)];exact hcu
       have hc2:w'.frozen? ⟨g,j,none⟩=false:=by rw[World.frozen?_of_block (w:=wr) (hgw'.trans hg0)];simp[World.frozen?,hbh]
       have hjL:(j:Int)<(n.length:Int):=by have:=F.out;omega
       subst eu';have HH:Aside (_/\_/\_/\_/\_/\_/\_/\_/\_/\_/\_/\_):=⟨T,Q,hqz,hqf,S,hu,hl,hbw,U,I,hn',B⟩;clear L Q hqz hqf S hl hrw hbw U I hn' hB T hgw' hg0 hx hga' eg hbh hgu hgW e3 hul hvn
       go_wp2_with (at_builtin;refine Lib.wpList_append_run _ rfl _ _ _ _ rfl _ _ rfl rfl _ _ hrun ?_)
       go_roundg (v.length-(j+1))
       case measure=>go_light;omega
       case rel =>
        go_light
        obtain⟨T,Q,hqz,hqf,S,hu,hl,hbw,U,I,hn',B⟩:=HH.out;have hstep:=T.step hu hl U I (λb hb=>⟨hn' b hb,U.lt hb⟩) B;have hset:=(show(Td (λ(l:List Int)(x:Int)=>l++[x]) vals v j).set j (vals[j]++[v[j]])=_ from kS (f:=λ(l:List Int)(x:Int)=>l++[x]) F.out hjv);have hxv:x=v[j]:=by rw[HX.out];simp[uj,hjn]
        rw[hxv,hset]at hstep;refine⟨j+1,_,by omega,rfl,by go_num,hstep,by rw[w7];exact Q,?_,λb hb1 N=>?_,λi y b E h2=>?_⟩
        ·have:=I.size;simp at this ⊢;omega
        ·have hbg2:b≠g:=λe=>by have:=T.lt g B;have:=HZ.out;have:=HR.out.keep.size;omega
         have hbu:Ae u≠some b:=λe=>by
          rcases S j u b hu e with q|q<;>omega
         rw[blk_setCell_other _ _ _ _ (by show b≠g;exact hbg2),I.block b (by simp;omega) hbu,blk_alloc_lt _ _ _ (by omega)];exact hqf b hb1 N
        ·rw[vk]at E;split at E
         ·have:=(uc E).symm;subst this;rcases hn' b h2 with q|q
          ·exact S j u b hu q
          ·right;rw[q];simp;omega
         ·exact S i y b E h2
      ·have hjz:¬((j:Int)<(v.length:Int)):=by omega
       go_wp2_with fail
       go_roundg (cols.length-(k+1))
       case measure=>go_light;omega
       case rel =>
        go_light
        obtain⟨L,Q,_,_,_⟩:=hB.out;have hjl:j=vals.length:=by have:=F.out;omega
        rw[hjl,kQ F.out]at L;refine⟨k+1,H,_,by omega,rfl,by go_num,L,Q,λi l h=>?_,HF.out⟩;rw[List.getElem?_zipWith]at h
        cases E:vals[i]? with
        | none=>simp[E]at h
        | some l1 =>
         cases h2:v[i]? with
         | none=>simp[E,h2]at h
         | some x1 =>
          simp[E,h2]at h;rw[<-h];have:=HL.out i l1 E;simp[this]
   ·have hkz:¬((k:Int)<(cols.length:Int)):=by omega
    have p:=HS.out
    go_wp2_with fail
    rw[List.drop_eq_nil_of_le (by omega)]at s;obtain rfl:=uc s;refine k_.out _ _ ⟨(),β,?_⟩
    exact p.exitRow [2,3,6,10,16,17] (q:=61) (ys:=List.map (Ao 1 D.z) vals) (by decide) (λ_=>rfl) (by simp[AV.guards]) rfl rfl (by simp) C.keep (λy hy=>by obtain⟨_,_,rfl⟩:=List.mem_map.1 hy;rfl)
     ⟨us,by rw[ua,<-C.len];exact C.top,λO hO=>⟨by rw[cS,ua];exact C.len,λi v y m hy=>by
      rw[cS,uu]at hy
      cases hl:vals[i]? with
      | none=>simp[hl]at hy
      | some l =>
       simp[hl]at hy;subst hy;obtain⟨E,h2⟩:=C.row i v l m hl;exact⟨Rs E λb hb hOb=>by have:=(h2 b hb).1;have:=p.os_lt (hO b hOb);omega,rfl⟩⟩⟩
 refine Fx h (λ_=>regress_Fit_w.h _ _) λx93 h=>?_;refine EA h (λh=>?_) λh=>?_
 ·conv=>whnf
  exact z19
 refine Fx h (λ_=>Bg _ _) λx102 h=>?_
 conv=>whnf
 refine z13 ?_
 conv=>whnf
 refine⟨.inl ?_⟩;refine Fx h (λ_=>tabulate_Keys_w.h _ _ _) λx108 h=>?_
 conv=>whnf
 obtain rfl:=uc h;exact⟨P8⟩⟩
