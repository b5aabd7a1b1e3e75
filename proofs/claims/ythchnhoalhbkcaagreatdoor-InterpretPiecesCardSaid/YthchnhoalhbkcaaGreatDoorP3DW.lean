/- P3DW -/
import Derived.Test.YthchnhoalhbkcaaGreatDoorP3W6
import Derived.Test.YthchnhoalhbkcaaGreatDoorQA
import Derived.Deep.Draws
import Derived.Shelf.RegionOpenPlain
import Derived.Sort.WalkB12
open Go.Proofs.Tryz
set_option linter.unusedVariables false
set_option linter.unusedSimpArgs false
namespace Go.Proofs.YthchnhoalhbkcaaGreatDoor.P
open Go Go.Abs Go.Proofs Go.Lib Go.Sort Go.RowKit Go.Shelf
set_option maxRecDepth 1000000
set_option maxHeartbeats 4000000
theorem Vo(v fv:Value)(w:World)(Q:World->Prop)(hI:Calls prog 248 #[v,fv] w λe w'=>e=.returned (.int .i64 (-1))/\Q w') :
 Calls prog 178 #[v,fv] w λe w'=>e=.returned v/\Q w':=by
 have eI:∀args w,(callFunc 248 args).run prog w=.ok (.enter 248 args) w:=λargs w=>Ix (by kernel_rfl) args
 go_enter func178,ntmps178
 go_wp2_with (go_at_call 248;refine hI.mono ?_;rintro e w' ⟨rfl,hw'⟩)
 go_ret
 exact⟨rfl,hw'⟩
theorem aM(p0:List Int)(q:Int->Bool)(g cap:Nat)(w:World)(f:FuncId)(lb:Array Value)(hlen:p0.length<=cap)(hbig:p0.length<=1000000000000)(T:TypeId)
 (h0:DW w g cap p0.length T w p0.toArray)
 (eg:∀args w,(callFunc f args).run prog w=.ok (.enter f args) w)
 (hI:∀w',DW w g cap p0.length T w' p0.toArray->Calls prog 248 #[.slice (some ⟨g,0,none⟩) p0.length cap,.func (.func f) #[] lb] w' λe w''=>e=.returned (.int .i64 (Gi q p0))/\DW w g cap p0.length T w'' p0.toArray)
 (hC:∀w' dk u,u∈p0->DW w g cap p0.length T w' dk->Calls prog f (#[.int .i64 u]++lb) w' λe w''=>e=.returned (.bool (q u))/\DW w g cap p0.length T w'' dk) :
 Calls prog 178 #[.slice (some ⟨g,0,none⟩) p0.length cap,.func (.func f) #[] lb] w λe w'=>e=.returned (.slice (some ⟨g,0,none⟩) (p0.filter λx=>!q x).length cap)/\∃dk,DW w g cap p0.length T w' dk/\dk.toList.take (p0.filter λx=>!q x).length=p0.filter λx=>!q x:=by
 have eI:∀args w,(callFunc 248 args).run prog w=.ok (.enter 248 args) w:=λargs w=>Ix (by kernel_rfl) args;have tl:∀j,j<p0.toArray.size->p0.toArray[j]! = p0[j]!:=λj hj=>by simp
 obtain⟨kp,HK⟩:∃kp:Nat->Bool,Hid (kp=λj=>!q p0.toArray[j]!):=⟨_,rfl⟩
 have hfil:(p0.filter λx=>!q x)=keptUpTo kp p0.toArray p0.length:=by
  rw[HK.out];have:=(keptUpTo_filter (λx=>!q x) p0.toArray).symm
  simpa using this
 have hIF:=hI w h0;rw[hfil];have HF:Aside _:=hfil;clear hfil
 cases hfi:p0.findIdx? q with
 | none =>
   have e2:Gi q p0=-1:=by unfold Gi;rw[hfi]
   rw[e2]at hIF;have hno:=List.findIdx?_eq_none_iff.1 hfi;have hkeep:(p0.filter λx=>!q x)=p0:=List.filter_eq_self.2 λx hx=>by rw[hno x hx];rfl
   rw[<-HF.out,hkeep];exact(Vo _ _ w _ hIF).mono λe w' ⟨he,hw'⟩=>⟨he,p0.toArray,hw',by simp⟩
 | some k0 =>
   obtain⟨hk0,ht,hall⟩:=List.findIdx?_eq_some_iff_getElem.1 hfi;have e2:Gi q p0=(k0:Int):=by unfold Gi;rw[hfi]
   rw[e2]at hIF;have gE:∀j (hj:j<p0.length),p0.toArray[j]! = p0[j]:=λj hj=>by simp[getElem!_pos,hj]
   have hkeep:∀j,j<k0->kp j=true:=λj hj=>by
    rw[HK.out];show(!q p0.toArray[j]!)=true;rw[gE j (by omega)]
    simpa using hall j hj
   have hdrop:kp k0=false:=by
    rw[HK.out];show(!q p0.toArray[k0]!)=false;rw[gE k0 hk0,ht];rfl
   have hne1:((k0:Int)==-1)=false:=beq_eq_false_iff_ne.2 (by omega);have HST:Aside (KeptInv kp p0.toArray (k0+1) k0 p0.toArray):=KeptInv.start hkeep hdrop
   have hC2:∀w' dk j,j<p0.length->DW w g cap p0.length T w' dk->Calls prog f (#[.int .i64 p0.toArray[j]!]++lb) w' λe w''=>e=.returned (.bool (q p0.toArray[j]!))/\DW w g cap p0.length T w'' dk:=λw' dk j hj hd=>by
    rw[gE j hj];exact hC w' dk _ (qa hj) hd
   have HC:Aside _:=hC2;have H0:Aside _:=h0;have hlen':Aside _:=hlen;clear hkeep hdrop hfi e2 hall ht tl hC hC2 h0 hI gE hlen;generalize hn:p0.length=n at *;have HN:Aside _:=hn;clear hn
   go_enter func178,ntmps178
   go_wp2_with (go_at_call 248;refine hIF.mono ?_;rintro e w1 ⟨rfl,hw1⟩)
   go_loopg [5,6,7] n (λgg s5 s6 _ wr=>∃(i j:Nat)(dk:Array Int),s5=.int .i64 i/\s6=.int .i64 j/\j<=n/\n-j<=gg/\Aside (DW w g cap n T wr dk)/\Aside (KeptInv kp p0.toArray j i dk))
   case atStart=>exact⟨k0,k0+1,p0.toArray,rfl,by go_num,by omega,by omega,hw1,HST⟩
   case round =>
    obtain⟨i,j,dk,rfl,rfl,hjd,hgg,W2,I2⟩:=hrel;have hI:=I2.out;have hij:=hI.lt;have hHk:=W2.out.holds;have hds:=W2.out.size;by_cases hlt:j<n
    ·have hltz:(j:Int)<(n:Int):=by omega
     obtain⟨cj,_⟩:=hHk j (by omega);obtain⟨ci,fi⟩:=hHk i (by omega);rw[hI.high j (by omega)]at cj
     have hcall:=(HC.out wr dk j hlt W2.out).mono (R':=λe w''=>e=.returned (.bool (q p0.toArray[j]!))/\DW w g cap n T w'' dk/\w''.cell? ⟨g,i,none⟩=some (.int .i64 dk[i]!)/\w''.frozen? ⟨g,i,none⟩=false) λe w'' ⟨he,hd⟩=>by
      obtain⟨c1,c2⟩:=hd.holds i (by rw[hds];omega);rw[qy]at c1 c2;exact⟨he,hd,c1,c2⟩
     rw[qy]at cj;clear hHk hI ci fi;generalize hu:p0.toArray[j]! = u at cj hcall;generalize dk[i]! = old at hcall;have C:Aside (p0.toArray[j]! = u):=hu;clear hu
     cases hq:q u with
     | false =>
       rw[hq]at hcall
       go_wp2_with (go_at_fn f;refine hcall.mono ?_;rintro e w' ⟨rfl,hw',ci,fi⟩)
       go_roundg (n-(j+1))
       case measure=>omega
       case rel =>
        refine⟨i+1,j+1,dk.setIfInBounds i u,by go_num,by go_num,by omega,qb _,hw'.store (by omega) hlen'.out u,?_⟩;have:=I2.out.keep (by rw[r9,HN.out];exact hlt) (by rw[HK.out];show(!q p0.toArray[j]!)=true;rw[C.out,hq];rfl)
        rwa [C.out]at this
     | true =>
       rw[hq]at hcall
       go_wp2_with (go_at_fn f;refine hcall.mono ?_;rintro e w' ⟨rfl,hw',_,_⟩)
       go_roundg (n-(j+1))
       case measure=>omega
       case rel=>exact⟨i,j+1,dk,rfl,by go_num,by omega,qb _,hw',I2.out.skip (by rw[HK.out];show(!q p0.toArray[j]!)=false;rw[C.out,hq];rfl)⟩
    ·obtain rfl:j=n:=by omega
     have hltz:¬(j:Int)<(j:Int):=by omega
     have hcl:∀ty,(Builtin.clear_ #[30] ty #[.slice (some ⟨g,i,none⟩) (j-i) (cap-i)]).run prog wr=.ok (.tuple #[]) (wr.setCells g i (List.replicate (j-i) (.int .i64 0))) :=
      λty=>Lib.run_clear_slice wr _ 3 ty (.int .i64 0) (by kernel_rfl) (λw=>by rfl) rfl rfl g i _ _ (by omega) (λt ht=>by rw[show i+t=0+(i+t) by omega,(hHk (i+t) (by omega)).1];rfl) (λt ht=>by rw[show i+t=0+(i+t) by omega];exact(hHk (i+t) (by omega)).2)
     have hlen2:=hlen'.out;clear hHk hI
     go_wp2
     go_ret
     have hL:=I2.out.len;have eD:p0.toArray.size=j:=by rw[r9,HN.out]
     have hD:=KeptInv.done (show KeptInv kp p0.toArray p0.toArray.size i dk from by rw[eD];exact I2.out) (0:Int);rw[eD]at hD;have hW:=DW.clear hlen2 (List.replicate (j-i) 0) i W2.out (by rw[rV];omega);rw[List.map_replicate]at hW;refine⟨by rw[hL];rfl,_,hW,?_⟩;rw[hD];show List.take (keptUpTo kp p0.toArray j).length (keptUpTo kp p0.toArray j++_)=_;rw[s3]
theorem dw{α:Type}{l:List α}{p:α->Option Bool}{q:α->Bool}(hp:∀x∈l,p x=some (q x))(hl:l.length<=200000000000) :
 iter (λrec1 v=>bif(decide (v<(l.length:Int)))then(idx l v).bind λx14=>(p x14).bind λx16=>bif x16 then some v else rec1 (IntKind.i64.wrap (v+1))else some (-1)) AD 0=some (Gi q l):=by
 refine Ok.val (Ok.for (λs=>s) l.length (λi _=>∀k (hk:k<l.length),k<i->q l[k]=false) 0 (pY _) rfl (λ_ _ h=>by omega) (by omega) (λrec s hs hI=>?_) λrec i s hi hs hI ih=>?_)
 ·rw[hs,Dz (by omega)];refine Ok.some ?_
  have:l.findIdx? q=none:=by
   rw[List.findIdx?_eq_none_iff];intro x hx;obtain⟨k,hk,rfl⟩:=List.mem_iff_getElem.1 hx;exact hI k hk hk
  simp[Gi,this]
 ·rw[hs,Co (by omega)];refine Ok.idxn hi (Ok.bindE (hp _ (qa hi)) (Ok.br (λh=>Ok.some ?_) λh=>ih _ ?_ λk hk hk2=>?_))
  ·have:l.findIdx? q=some i:=by
    rw[rW];exact⟨hi,h,λk hk=>by rw[hI k (by omega) hk];simp⟩
   simp[Gi,this]
  ·show IntKind.i64.wrap ((i:Int)+1)=_;rw[wr (by omega) (by omega)];omega
  ·by_cases e:k=i
   ·subst e;exact h
   ·exact hI k hk (by omega)
theorem Ei(p0:List Int)(p1:Int->Option Bool)(f_p1:FuncId)(c_p1:List D)(R:List Int)(h_p1:∀(a0:Int) r,p1 a0=some r->Ax prog f_p1 ([.d (.int .i64 a0)]++c_p1.map .d) (.d (.bool r)))(hF:Di p0 p1=some R):Dl prog 178 [.own 1 3 (List.map (D.int .i64) p0),.d (.fn f_p1 c_p1)] [.any,.any] (.own 1 3 (List.map (D.int .i64) R)):=by
 obtain⟨hr,hF⟩:=Vv hF;obtain rfl:=P3 hF;obtain⟨hr1,hr2⟩:=Bool.and_eq_true_iff.1 hr;have hbig:=pZ hr1;obtain⟨q,eq⟩:∃q:Int->Bool,q=λx=>(p1 x).getD false:=⟨_,rfl⟩
 have hq:∀x∈p0,p1 x=some (q x):=λx hx=>by
  obtain⟨b,hb⟩:=Option.isSome_iff_exists.1 (List.all_eq_true.1 hr2 x hx);simp[eq,hb]
 have hfil:(p0.filter λx=>p1 x==some false)=p0.filter λx=>!q x:=List.filter_congr λx hx=>by
  rw[hq x hx];cases q x<;>rfl
 rw[hfil];have hidx:Cz p0 p1=some (Gi q p0):=dw hq (by omega);have aI:=slices_IndexFunc_Lint_int_w.h p0 p1 f_p1 c_p1 (Gi q p0) h_p1 hidx;refine⟨by kernel_rfl,rfl,λO w vs hO hG hlen hMO hinj hargs=>?_⟩
 obtain⟨v,fv,rfl⟩:∃v fv,vs=#[v,fv]:=by
  obtain⟨l⟩:=vs
  match l,hlen with
  | [v,fv],_=>exact⟨v,fv,rfl⟩
 obtain⟨_,_,vals,hrow,hL⟩:=hargs 0 v _ rfl rfl;rw[Jo]at hL;obtain rfl:=R0 hL;rw[pX]at hrow;have hfv0:Aw (λb=>O b\/Hl #[v,fv] [AV.own 1 3 (List.map (D.int .i64) p0),.d (.fn f_p1 c_p1)] b) w fv (.fn f_p1 c_p1):=hargs 1 fv _ rfl rfl;have hmut:∀b,Ac v=some b->Hl #[v,fv] [AV.own 1 3 (List.map (D.int .i64) p0),.d (.fn f_p1 c_p1)] b:=λb hb=>⟨0,v,_,rfl,rfl,rfl,hb⟩
 have hmut2:∀b,Hl #[v,fv] [AV.own 1 3 (List.map (D.int .i64) p0),.d (.fn f_p1 c_p1)] b->Ac v=some b:=by
  rintro b ⟨i,u,x,h1,h2,h3,h4⟩
  match i,h1,h2 with
  | 0,h1,h2=>simp at h1;subst h1;exact h4
  | 1,h1,h2=>simp at h2;subst h2;cases h3
  | i+2,h1,h2=>simp at h1
 have hnot:∀b,¬Hl #[v,fv] [AV.any,.any] b:=by
  rintro b ⟨i,u,x,h1,h2,h3,_⟩
  match i,h2 with
  | 0,h2=>simp at h2;subst h2;cases h3
  | 1,h2=>simp at h2;subst h2;cases h3
  | i+2,h2=>simp at h2
 have hG0:=hG
 have keep:∀{w':World},A7 w.heap.size (λb=>Ac v=some b) w w'->B0 (λb=>O b\/Hl #[v,fv] [AV.own 1 3 (List.map (D.int .i64) p0),.d (.fn f_p1 c_p1)] b) (λb=>O b\/Ac v=some b) w w':=λhb =>
  ⟨hb.size,λb _ hb2=>hb2.imp id (hmut b),λb hlt hb2=>hb.block b hlt λhv=>hb2 (.inr (hmut b hv))⟩
 have keepO:∀{w':World},B0 (λb=>O b\/Ac v=some b) O w' w':=λ{w'}=>B0.of_sub λb hb=>.inl hb
 have Ef:∀{w':World}{e':Ending}{u:Value}{ys:List Int},e'=.returned u->(∀b,Ac u=some b->Ac v=some b)->A7 w.heap.size (λb=>Ac v=some b) w w'->Bj w' 3 1 u ys.length (ys.map (Value.int .i64)) ->
  ∃u,e'=.returned u/\A7 w.heap.size (Hl #[v,fv] [AV.own 1 3 (List.map (D.int .i64) p0),.d (.fn f_p1 c_p1)]) w w' /\
  CK (λb=>w.heap.size<=b\/(Hl #[v,fv] [AV.own 1 3 (List.map (D.int .i64) p0),.d (.fn f_p1 c_p1)] b/\¬Hl #[v,fv] [.any,.any] b)) (λb=>O b\/Hl #[v,fv] [.any,.any] b) w' u (.own 1 3 (List.map (D.int .i64) ys)) /\
  ∀(i:Nat) u' x y,#[v,fv][i]?=some u'->[AV.own 1 3 (List.map (D.int .i64) p0),.d (.fn f_p1 c_p1)][i]?=some x->[AV.any,.any][i]?=some y->Qh (λb=>O b\/Hl #[v,fv] [.any,.any] b\/Dw u (.own 1 3 (List.map (D.int .i64) ys)) b) w' u' x y:=by
  intro w' e' u ys he hbl hb hr;refine⟨u,he,hb.weaken (qb _) λk _ hk=>λhv=>hk (hmut k hv),⟨by omega,λx hx=>?_,λb hb'=>.inr ⟨hmut b (hbl b hb'),hnot b⟩,_,by simpa using hr,by rw[Jo];exact Rv _ _ _⟩,λi u' x y h1 h2 h3=>?_⟩
  ·obtain⟨n,_,rfl⟩:=List.mem_map.1 hx;rfl
  ·match i,h3 with
   | 0,h3=>simp at h3;subst h3;trivial
   | 1,h3=>simp at h3;subst h3;trivial
   | i+2,h3=>simp at h3
 have search:∀{w':World},A7 w.heap.size (λb=>Ac v=some b) w w'->Bj w' 3 1 v p0.length (p0.map (Value.int .i64))->Calls prog 248 #[v,fv] w' λe w''=>e=.returned (.int .i64 (Gi q p0))/\RowKit.Below w'.heap.size w' w'':=by
  intro w' hb hr;refine(aI.2 O w' #[v,fv] (λb hb2=>qm (hO b hb2) hb.size) (λg cs hg=>((hG0 g cs hg).mono (keep hb)).mono keepO) rfl λi u x hu hx=>?_).mono λe w'' h=>?_
  ·match i,hu,hx with
   | 0,hu,hx =>
     simp at hu hx;subst hu;subst hx;exact Xy (e:=3) (vals:=p0.map (Value.int .i64)) (by omega) (λx hx=>by obtain⟨n,_,rfl⟩:=List.mem_map.1 hx;rfl) (by simpa using hr) (by rw[Jo];exact Rv _ _ _) (λb hb2 hb3=>hMO b (hmut b hb2) hb3)
   | 1,hu,hx =>
     simp at hu hx;subst hu;subst hx;exact(hfv0.mono (keep hb)).mono keepO
   | i+2,hu,hx=>simp at hu
  ·obtain⟨u,he,hb2,hu⟩:=h;obtain rfl:=AJ hu;exact⟨he,hb2⟩
 have empty:p0=[]->Calls prog 178 #[v,fv] w λe' w'=>∃u,e'=.returned u/\A7 w.heap.size (Hl #[v,fv] [AV.own 1 3 (List.map (D.int .i64) p0),.d (.fn f_p1 c_p1)]) w w' /\
  CK (λb=>w.heap.size<=b\/(Hl #[v,fv] [AV.own 1 3 (List.map (D.int .i64) p0),.d (.fn f_p1 c_p1)] b/\¬Hl #[v,fv] [.any,.any] b)) (λb=>O b\/Hl #[v,fv] [.any,.any] b) w' u (.own 1 3 (List.map (D.int .i64) (p0.filter λx=>!q x))) /\
  ∀(i:Nat) u' x y,#[v,fv][i]?=some u'->[AV.own 1 3 (List.map (D.int .i64) p0),.d (.fn f_p1 c_p1)][i]?=some x->[AV.any,.any][i]?=some y->Qh (λb=>O b\/Hl #[v,fv] [.any,.any] b\/Dw u (.own 1 3 (List.map (D.int .i64) (p0.filter λx=>!q x))) b) w' u' x y:=by
  intro h0;have hS:=search (A7.refl _ _ w) hrow;have e1:Gi q p0=-1:=by rw[h0];rfl
  rw[e1]at hS;refine(Vo v fv w _ hS).mono λe' w' ⟨he,hb⟩=>Ef he (λ_ h=>h) (A7.of hb) ?_;have hv:p0.filter (λx=>!q x)=p0:=by rw[h0];rfl
  rw[hv];exact hrow.mono λb hlt _=>hb.block b hlt
 by_cases h0:p0=[]
 ·exact empty h0
 rcases hrow with⟨hl,⟨hv,h1⟩|⟨g,cap,cur,hv,hbase,hb,h1,h2,h3,h4⟩⟩|⟨h1,_,a,hv⟩
 ·exact absurd (qq h1) h0
 ·have hpos:=List.length_pos_iff.2 h0;have hcap:cap≠0:=by omega
  have hblk:Ac v=some g:=by rw[hv];simp[Ac,hcap]
  have hgO:¬O g:=λh=>hMO g (hmut g hblk) h;have toM:∀{wr:World}{dk:Array Int},DW w g cap p0.length 3 wr dk->A7 w.heap.size (λb=>Ac v=some b) w wr:=λhd=>hd.below.weaken (qb _) λk _ hk=>λe=>hk (by rw[e];exact hblk);have hD0:DW w g cap p0.length 3 w p0.toArray:=⟨A7.refl _ _ w,by simp,cur,hb,h3,by simpa using h4⟩;obtain⟨x0,hx0⟩:∃x,x∈p0:=⟨p0[0],qa hpos⟩;have hcall:EG prog f_p1=true:=(h_p1 x0 _ (hq x0 hx0)).1
  cases hfv0 with
  | fn _ lb _ hlb h1' hcap' =>
    have core:=aM p0 q g cap w f_p1 lb h1 (by omega) 3 hD0 (λargs w=>Ix hcall args) (λw' hw'=>?_) (λw' dk u hu hw'=>?_)
    ·rw[<-hv]at core;refine core.mono λe' w' ⟨he,dk,hd,htk⟩=>?_;refine Ef he (λb hb2=>?_) (toM hd) (hd.row ?_ htk h1 h2)
     ·rw[hblk];simp only[Ac,hcap,if_false]at hb2;exact hb2
     ·exact rl _ _
    ·rw[<-hv];have hr:=hw'.row (R:=p0) (qb _) (by simp) h1 h2;rw[<-hv]at hr;exact(search (toM hw') hr).mono λe w'' ⟨he,hb2⟩=>⟨he,hw'.call hb2⟩
    ·have aC:=h_p1 u _ (hq u hu);refine(aC.2 (λb=>O b\/Ac v=some b) w' _ (λb hb2=>?_) (λg' cs hg=>(hG0 g' cs hg).mono (keep (toM hw'))) (by simp[hlb];omega) λi y x hy hx=>?_).mono λe w'' h=>?_
     ·rcases hb2 with hb2|hb2
      ·exact qm (hO b hb2) hw'.below.size
      ·rw[hblk]at hb2;cases hb2;exact hw'.lt
     ·cases i with
      | zero =>
        rw[qA (by simp)]at hy;simp at hy hx;subst hy;subst hx;exact .int _ _
      | succ i =>
        have hx:(c_p1.map AV.d)[i]?=some x:=by simpa using hx
        have hy:lb[i]?=some y:=by
         rw[rH (by simp)]at hy
         simpa using hy
        rw[ql]at hx
        cases hc:c_p1[i]? with
        | none=>rw[hc]at hx;cases hx
        | some z =>
          rw[hc]at hx;obtain rfl:=P3 hx;exact(hcap' i y z hy hc).mono (keep (toM hw'))
     ·obtain⟨y,he,hb2,hy⟩:=h
      cases hy
      exact⟨he,hw'.call hb2⟩
 ·exact absurd (qq h1) h0
instance:CS prog 178 (type_of% @Ei):=⟨@Ei⟩
end Go.Proofs.YthchnhoalhbkcaaGreatDoor.P
