/- P3DW -/
import Derived.Test.YtjgeigjjfcnojaaGreatDoorP3W4
import Derived.Test.YtjgeigjjfcnojaaGreatDoorLA
import Derived.WalkKit
import Derived.Deep.LoopGhost
import Derived.Deep.Draws
import Derived.Lib.Walk
import Derived.Shelf.RegionOpenPlain
import Derived.Sort.WalkB12
set_option linter.unusedVariables false
set_option linter.unusedSimpArgs false
namespace Go.Proofs.YtjgeigjjfcnojaaGreatDoor.P
open Go Go.Abs Go.Proofs Go.Lib Go.Sort Go.RowKit Go.Shelf
set_option maxRecDepth 1000000
set_option maxHeartbeats 4000000
theorem Sn (v fv:Value) (w:World) (Q:World→Prop) (hI:Calls Tryz.prog 240 #[v,fv] w fun e w'=>e = .returned (.int .i64 (-1))∧Q w') :
 Calls Tryz.prog 172 #[v,fv] w fun e w'=>e = .returned v∧Q w':=by
 have eI:∀ args w,(callFunc 240 args).run Tryz.prog w = .ok (.enter 240 args) w:=fun args w=>Ii (by kernel_rfl) args
 go_enter Tryz.func172,Tryz.ntmps172
 go_wp2_with (go_at_call 240; refine hI.mono ?_; rintro e w' ⟨rfl,hw'⟩)
 go_ret
 exact ⟨rfl,hw'⟩
theorem WG (p0:List Int) (q:Int→Bool) (g cap:Nat) (w:World) (f:FuncId) (lb:Array Value) (hlen:p0.length≤cap) (hbig:p0.length≤1000000000000) (T:TypeId)
 (h0:DW w g cap p0.length T w p0.toArray)
 (eg:∀ args w,(callFunc f args).run Tryz.prog w = .ok (.enter f args) w)
 (hI:∀ w',DW w g cap p0.length T w' p0.toArray→Calls Tryz.prog 240 #[.slice (some ⟨g,0,none⟩) p0.length cap,.func (.func f) #[] lb] w' fun e w''=>e = .returned (.int .i64 (FH q p0))∧DW w g cap p0.length T w'' p0.toArray)
 (hC:∀ w' dk u,u∈p0→DW w g cap p0.length T w' dk→Calls Tryz.prog f (#[.int .i64 u]++lb) w' fun e w''=>e = .returned (.bool (q u))∧DW w g cap p0.length T w'' dk) :
 Calls Tryz.prog 172 #[.slice (some ⟨g,0,none⟩) p0.length cap,.func (.func f) #[] lb] w fun e w'=>e = .returned (.slice (some ⟨g,0,none⟩) (p0.filter fun x=>!q x).length cap)∧∃ dk,DW w g cap p0.length T w' dk∧dk.toList.take (p0.filter fun x=>!q x).length = p0.filter fun x=>!q x:=by
 have eI:∀ args w,(callFunc 240 args).run Tryz.prog w = .ok (.enter 240 args) w:=fun args w=>Ii (by kernel_rfl) args
 have tl:∀ j,j < p0.toArray.size→p0.toArray[j]! = p0[j]!:=fun j hj=>by simp
 obtain ⟨kp,HK⟩:∃ kp:Nat→Bool,Hid (kp = fun j=>!q p0.toArray[j]!):=⟨_,rfl⟩
 have hfil:(p0.filter fun x=>!q x) = keptUpTo kp p0.toArray p0.length:=by
  rw [HK.out]
  have:=(keptUpTo_filter (fun x=>!q x) p0.toArray).symm
  simpa using this
 have hIF:=hI w h0
 rw [hfil]
 have HF:Aside _:=hfil
 clear hfil
 cases hfi:p0.findIdx? q with
 | none =>
   have e2:FH q p0 = -1:=by unfold FH; rw [hfi]
   rw [e2] at hIF
   have hno:=List.findIdx?_eq_none_iff.1 hfi
   have hkeep:(p0.filter fun x=>!q x) = p0:=List.filter_eq_self.2 fun x hx=>by rw [hno x hx]; rfl
   rw [← HF.out,hkeep]
   exact (Sn _ _ w _ hIF).mono fun e w' ⟨he,hw'⟩=>⟨he,p0.toArray,hw',by simp⟩
 | some k0 =>
   obtain ⟨hk0,ht,hall⟩:=List.findIdx?_eq_some_iff_getElem.1 hfi
   have e2:FH q p0 = (k0:Int):=by unfold FH; rw [hfi]
   rw [e2] at hIF
   have gE:∀ j (hj:j < p0.length),p0.toArray[j]! = p0[j]:=fun j hj=>by simp [getElem!_pos,hj]
   have hkeep:∀ j,j < k0→kp j = true:=fun j hj=>by
    rw [HK.out]
    show (!q p0.toArray[j]!) = true
    rw [gE j (by omega)]
    simpa using hall j hj
   have hdrop:kp k0 = false:=by
    rw [HK.out]
    show (!q p0.toArray[k0]!) = false
    rw [gE k0 hk0,ht]; rfl
   have hne1:((k0:Int)==-1) = false:=beq_eq_false_iff_ne.2 (by omega)
   have HST:Aside (KeptInv kp p0.toArray (k0 + 1) k0 p0.toArray):=KeptInv.start hkeep hdrop
   have hC2:∀ w' dk j,j < p0.length→DW w g cap p0.length T w' dk→Calls Tryz.prog f (#[.int .i64 p0.toArray[j]!]++lb) w' fun e w''=>e = .returned (.bool (q p0.toArray[j]!))∧DW w g cap p0.length T w'' dk:=fun w' dk j hj hd=>by
    rw [gE j hj]
    exact hC w' dk _ (List.getElem_mem hj) hd
   have HC:Aside _:=hC2
   have H0:Aside _:=h0
   have hlen':Aside _:=hlen
   clear hkeep hdrop hfi e2 hall ht tl hC hC2 h0 hI gE hlen
   generalize hn:p0.length = n at *
   have HN:Aside _:=hn
   clear hn
   go_enter Tryz.func172,Tryz.ntmps172
   go_wp2_with (go_at_call 240; refine hIF.mono ?_; rintro e w1 ⟨rfl,hw1⟩)
   go_loopg [5,6,7] n (fun gg s5 s6 _ wr=>∃ (i j:Nat) (dk:Array Int),s5 = .int .i64 i∧s6 = .int .i64 j∧j≤n∧n - j≤gg∧Aside (DW w g cap n T wr dk)∧Aside (KeptInv kp p0.toArray j i dk))
   case atStart=>exact ⟨k0,k0 + 1,p0.toArray,rfl,by go_num,by omega,by omega,hw1,HST⟩
   case round =>
    obtain ⟨i,j,dk,rfl,rfl,hjd,hgg,W2,I2⟩:=hrel
    have hI:=I2.out
    have hij:=hI.lt
    have hHk:=W2.out.holds
    have hds:=W2.out.size
    by_cases hlt:j < n
    ·have hltz:(j:Int) < (n:Int):=by omega
     obtain ⟨cj,_⟩:=hHk j (by omega)
     obtain ⟨ci,fi⟩:=hHk i (by omega)
     rw [hI.high j (by omega)] at cj
     have hcall:=(HC.out wr dk j hlt W2.out).mono (R':=fun e w''=>e = .returned (.bool (q p0.toArray[j]!))∧DW w g cap n T w'' dk∧w''.cell? ⟨g,i,none⟩ = some (.int .i64 dk[i]!)∧w''.frozen? ⟨g,i,none⟩ = false) fun e w'' ⟨he,hd⟩=>by
      obtain ⟨c1,c2⟩:=hd.holds i (by rw [hds]; omega)
      rw [Nat.zero_add] at c1 c2
      exact ⟨he,hd,c1,c2⟩
     rw [Nat.zero_add] at cj
     clear hHk hI ci fi
     generalize hu:p0.toArray[j]! = u at cj hcall
     generalize dk[i]! = old at hcall
     have C:Aside (p0.toArray[j]! = u):=hu
     clear hu
     cases hq:q u with
     | false =>
       rw [hq] at hcall
       go_wp2_with (go_at_fn f; refine hcall.mono ?_; rintro e w' ⟨rfl,hw',ci,fi⟩)
       go_roundg (n - (j + 1))
       case measure=>omega
       case rel =>
        refine ⟨i + 1,j + 1,dk.setIfInBounds i u,by go_num,by go_num,by omega,Nat.le_refl _,hw'.store (by omega) hlen'.out u,?_⟩
        have:=I2.out.keep (by rw [List.size_toArray,HN.out]; exact hlt) (by rw [HK.out]; show (!q p0.toArray[j]!) = true; rw [C.out,hq]; rfl)
        rwa [C.out] at this
     | true =>
       rw [hq] at hcall
       go_wp2_with (go_at_fn f; refine hcall.mono ?_; rintro e w' ⟨rfl,hw',_,_⟩)
       go_roundg (n - (j + 1))
       case measure=>omega
       case rel=>exact ⟨i,j + 1,dk,rfl,by go_num,by omega,Nat.le_refl _,hw',I2.out.skip (by rw [HK.out]; show (!q p0.toArray[j]!) = false; rw [C.out,hq]; rfl)⟩
    ·obtain rfl:j = n:=by omega
     have hltz:¬ (j:Int) < (j:Int):=by omega
     have hcl:∀ ty,(Builtin.clear_ #[30] ty #[.slice (some ⟨g,i,none⟩) (j - i) (cap - i)]).run Tryz.prog wr = .ok (.tuple #[]) (wr.setCells g i (List.replicate (j - i) (.int .i64 0))) :=
      fun ty=>Lib.run_clear_slice wr _ 3 ty (.int .i64 0) (by kernel_rfl) (fun w=>by rfl) rfl rfl g i _ _ (by omega) (fun t ht=>by rw [show i + t = 0 + (i + t) by omega,(hHk (i + t) (by omega)).1]; rfl) (fun t ht=>by rw [show i + t = 0 + (i + t) by omega]; exact (hHk (i + t) (by omega)).2)
     have hlen2:=hlen'.out
     clear hHk hI
     go_wp2
     go_ret
     have hL:=I2.out.len
     have eD:p0.toArray.size = j:=by rw [List.size_toArray,HN.out]
     have hD:=KeptInv.done (show KeptInv kp p0.toArray p0.toArray.size i dk from by rw [eD]; exact I2.out) (0:Int)
     rw [eD] at hD
     have hW:=DW.clear hlen2 (List.replicate (j - i) 0) i W2.out (by rw [List.length_replicate]; omega)
     rw [List.map_replicate] at hW
     refine ⟨by rw [hL]; rfl,_,hW,?_⟩
     rw [hD]
     show List.take (keptUpTo kp p0.toArray j).length (keptUpTo kp p0.toArray j++_) = _
     rw [List.take_left]
theorem Yc {α:Type} {l:List α} {p:α→Option Bool} {q:α→Bool} (hp:∀ x∈l,p x = some (q x)) (hl:l.length≤200000000000) :
 iter (fun rec1 v=>bif (decide (v < ((l.length:Nat):Int))) then (idx l v).bind fun x14=>(p x14).bind fun x16=>bif x16 then some v else rec1 (IntKind.i64.wrap (v + 1)) else some (-1)) AM 0 = some (FH q l):=by
 refine Ok.val (Ok.for (fun s=>s) l.length (fun i _=>∀ k (hk:k < l.length),k < i→q l[k] = false) 0 (Nat.zero_le _) rfl (fun _ _ h=>by omega) (by omega) (fun rec s hs hI=>?_) fun rec i s hi hs hI ih=>?_)
 ·rw [hs,Co (by omega)]
  refine Ok.some ?_
  have:l.findIdx? q = none:=by
   rw [List.findIdx?_eq_none_iff]
   intro x hx
   obtain ⟨k,hk,rfl⟩:=List.mem_iff_getElem.1 hx
   exact hI k hk hk
  simp [FH,this]
 ·rw [hs,BO (by omega)]
  refine Ok.idxn hi (Ok.bindE (hp _ (List.getElem_mem hi)) (Ok.br (fun h=>Ok.some ?_) fun h=>ih _ ?_ fun k hk hk2=>?_))
  ·have:l.findIdx? q = some i:=by
    rw [List.findIdx?_eq_some_iff_getElem]
    exact ⟨hi,h,fun k hk=>by rw [hI k (by omega) hk]; simp⟩
   simp [FH,this]
  ·show IntKind.i64.wrap ((i:Int) + 1) = _
   rw [wr (by omega) (by omega)]; omega
  ·by_cases e:k = i
   ·subst e; exact h
   ·exact hI k hk (by omega)
theorem J4 (p0:List Int) (p1:Int→Option Bool) (f_p1:FuncId) (c_p1:List D) (R:List Int) (h_p1:∀ (a0:Int) r,p1 a0 = some r→Aj Tryz.prog f_p1 ([.d (.int .i64 a0)]++c_p1.map .d) (.d (.bool r))) (hF:Ct p0 p1 = some R):CZ Tryz.prog 172 [.own 1 3 (List.map (D.int .i64) p0),.d (.fn f_p1 c_p1)] [.any,.any] (.own 1 3 (List.map (D.int .i64) R)):=by
 obtain ⟨hr,hF⟩:=Dm hF
 obtain rfl:=Option.some.inj hF
 obtain ⟨hr1,hr2⟩:=Bool.and_eq_true_iff.1 hr
 have hbig:=of_decide_eq_true hr1
 obtain ⟨q,eq⟩:∃ q:Int→Bool,q = fun x=>(p1 x).getD false:=⟨_,rfl⟩
 have hq:∀ x∈p0,p1 x = some (q x):=fun x hx=>by
  obtain ⟨b,hb⟩:=Option.isSome_iff_exists.1 (List.all_eq_true.1 hr2 x hx)
  simp [eq,hb]
 have hfil:(p0.filter fun x=>p1 x==some false) = p0.filter fun x=>!q x:=List.filter_congr fun x hx=>by
  rw [hq x hx]; cases q x <;> rfl
 rw [hfil]
 have hidx:BX p0 p1 = some (FH q p0):=Yc hq (by omega)
 have aI:=FI p0 p1 f_p1 c_p1 (FH q p0) h_p1 hidx
 refine ⟨by kernel_rfl,rfl,fun O w vs hO hG hlen hMO hinj hargs=>?_⟩
 obtain ⟨v,fv,rfl⟩:∃ v fv,vs = #[v,fv]:=by
  obtain ⟨l⟩:=vs
  match l,hlen with
  | [v,fv],_=>exact ⟨v,fv,rfl⟩
 obtain ⟨_,_,vals,hrow,hL⟩:=hargs 0 v _ rfl rfl
 rw [I3] at hL
 obtain rfl:=RU hL
 rw [List.length_map] at hrow
 have hfv0:AB (fun b=>O b∨FJ #[v,fv] [AV.own 1 3 (List.map (D.int .i64) p0),.d (.fn f_p1 c_p1)] b) w fv (.fn f_p1 c_p1):=hargs 1 fv _ rfl rfl
 have hmut:∀ b,Ay v = some b→FJ #[v,fv] [AV.own 1 3 (List.map (D.int .i64) p0),.d (.fn f_p1 c_p1)] b:=fun b hb=>⟨0,v,_,rfl,rfl,rfl,hb⟩
 have hmut2:∀ b,FJ #[v,fv] [AV.own 1 3 (List.map (D.int .i64) p0),.d (.fn f_p1 c_p1)] b→Ay v = some b:=by
  rintro b ⟨i,u,x,h1,h2,h3,h4⟩
  match i,h1,h2 with
  | 0,h1,h2=>simp at h1; subst h1; exact h4
  | 1,h1,h2=>simp at h2; subst h2; cases h3
  | i + 2,h1,h2=>simp at h1
 have hnot:∀ b,¬ FJ #[v,fv] [AV.any,.any] b:=by
  rintro b ⟨i,u,x,h1,h2,h3,_⟩
  match i,h2 with
  | 0,h2=>simp at h2; subst h2; cases h3
  | 1,h2=>simp at h2; subst h2; cases h3
  | i + 2,h2=>simp at h2
 have hG0:=hG
 have keep:∀ {w':World},Bf w.heap.size (fun b=>Ay v = some b) w w'→BG (fun b=>O b∨FJ #[v,fv] [AV.own 1 3 (List.map (D.int .i64) p0),.d (.fn f_p1 c_p1)] b) (fun b=>O b∨Ay v = some b) w w':=fun hb =>
  ⟨hb.size,fun b _ hb2=>hb2.imp id (hmut b),fun b hlt hb2=>hb.block b hlt fun hv=>hb2 (.inr (hmut b hv))⟩
 have keepO:∀ {w':World},BG (fun b=>O b∨Ay v = some b) O w' w':=fun {w'}=>BG.of_sub fun b hb=>.inl hb
 have El:∀ {w':World} {e':Ending} {u:Value} {ys:List Int},e' = .returned u→(∀ b,Ay u = some b→Ay v = some b)→Bf w.heap.size (fun b=>Ay v = some b) w w'→C3 w' 3 1 u ys.length (ys.map (Value.int .i64)) →
  ∃ u,e' = .returned u∧Bf w.heap.size (FJ #[v,fv] [AV.own 1 3 (List.map (D.int .i64) p0),.d (.fn f_p1 c_p1)]) w w' ∧
  C2 (fun b=>w.heap.size≤b∨(FJ #[v,fv] [AV.own 1 3 (List.map (D.int .i64) p0),.d (.fn f_p1 c_p1)] b∧¬ FJ #[v,fv] [.any,.any] b)) (fun b=>O b∨FJ #[v,fv] [.any,.any] b) w' u (.own 1 3 (List.map (D.int .i64) ys)) ∧
  ∀ (i:Nat) u' x y,#[v,fv][i]? = some u'→[AV.own 1 3 (List.map (D.int .i64) p0),.d (.fn f_p1 c_p1)][i]? = some x→[AV.any,.any][i]? = some y→ND (fun b=>O b∨FJ #[v,fv] [.any,.any] b∨CS u (.own 1 3 (List.map (D.int .i64) ys)) b) w' u' x y:=by
  intro w' e' u ys he hbl hb hr
  refine ⟨u,he,hb.weaken (Nat.le_refl _) fun k _ hk=>fun hv=>hk (hmut k hv),⟨by omega,fun x hx=>?_,fun b hb'=>.inr ⟨hmut b (hbl b hb'),hnot b⟩,_,by simpa using hr,by rw [I3]; exact OZ _ _ _⟩,fun i u' x y h1 h2 h3=>?_⟩
  ·obtain ⟨n,_,rfl⟩:=List.mem_map.1 hx
   rfl
  ·match i,h3 with
   | 0,h3=>simp at h3; subst h3; trivial
   | 1,h3=>simp at h3; subst h3; trivial
   | i + 2,h3=>simp at h3
 have search:∀ {w':World},Bf w.heap.size (fun b=>Ay v = some b) w w'→C3 w' 3 1 v p0.length (p0.map (Value.int .i64))→Calls Tryz.prog 240 #[v,fv] w' fun e w''=>e = .returned (.int .i64 (FH q p0))∧RowKit.Below w'.heap.size w' w'':=by
  intro w' hb hr
  refine (aI.2 O w' #[v,fv] (fun b hb2=>Nat.lt_of_lt_of_le (hO b hb2) hb.size) (fun g cs hg=>((hG0 g cs hg).mono (keep hb)).mono keepO) rfl fun i u x hu hx=>?_).mono fun e w'' h=>?_
  ·match i,hu,hx with
   | 0,hu,hx =>
     simp at hu hx; subst hu; subst hx
     exact Um (e:=3) (vals:=p0.map (Value.int .i64)) (by omega) (fun x hx=>by obtain ⟨n,_,rfl⟩:=List.mem_map.1 hx; rfl) (by simpa using hr) (by rw [I3]; exact OZ _ _ _) (fun b hb2 hb3=>hMO b (hmut b hb2) hb3)
   | 1,hu,hx =>
     simp at hu hx; subst hu; subst hx
     exact (hfv0.mono (keep hb)).mono keepO
   | i + 2,hu,hx=>simp at hu
  ·obtain ⟨u,he,hb2,hu⟩:=h
   obtain rfl:=BD hu
   exact ⟨he,hb2⟩
 have empty:p0 = []→Calls Tryz.prog 172 #[v,fv] w fun e' w'=>∃ u,e' = .returned u∧Bf w.heap.size (FJ #[v,fv] [AV.own 1 3 (List.map (D.int .i64) p0),.d (.fn f_p1 c_p1)]) w w' ∧
  C2 (fun b=>w.heap.size≤b∨(FJ #[v,fv] [AV.own 1 3 (List.map (D.int .i64) p0),.d (.fn f_p1 c_p1)] b∧¬ FJ #[v,fv] [.any,.any] b)) (fun b=>O b∨FJ #[v,fv] [.any,.any] b) w' u (.own 1 3 (List.map (D.int .i64) (p0.filter fun x=>!q x))) ∧
  ∀ (i:Nat) u' x y,#[v,fv][i]? = some u'→[AV.own 1 3 (List.map (D.int .i64) p0),.d (.fn f_p1 c_p1)][i]? = some x→[AV.any,.any][i]? = some y→ND (fun b=>O b∨FJ #[v,fv] [.any,.any] b∨CS u (.own 1 3 (List.map (D.int .i64) (p0.filter fun x=>!q x))) b) w' u' x y:=by
  intro h0
  have hS:=search (Bf.refl _ _ w) hrow
  have e1:FH q p0 = -1:=by rw [h0]; rfl
  rw [e1] at hS
  refine (Sn v fv w _ hS).mono fun e' w' ⟨he,hb⟩=>El he (fun _ h=>h) (Bf.of hb) ?_
  have hv:p0.filter (fun x=>!q x) = p0:=by rw [h0]; rfl
  rw [hv]
  exact hrow.mono fun b hlt _=>hb.block b hlt
 by_cases h0:p0 = []
 ·exact empty h0
 rcases hrow with ⟨hl,⟨hv,h1⟩ | ⟨g,cap,cur,hv,hbase,hb,h1,h2,h3,h4⟩⟩ | ⟨h1,_,a,hv⟩
 ·exact absurd (List.eq_nil_of_length_eq_zero h1) h0
 ·have hpos:=List.length_pos_iff.2 h0
  have hcap:cap≠0:=by omega
  have hblk:Ay v = some g:=by rw [hv]; simp [Ay,hcap]
  have hgO:¬ O g:=fun h=>hMO g (hmut g hblk) h
  have toM:∀ {wr:World} {dk:Array Int},DW w g cap p0.length 3 wr dk→Bf w.heap.size (fun b=>Ay v = some b) w wr:=fun hd=>hd.below.weaken (Nat.le_refl _) fun k _ hk=>fun e=>hk (by rw [e]; exact hblk)
  have hD0:DW w g cap p0.length 3 w p0.toArray:=⟨Bf.refl _ _ w,by simp,cur,hb,h3,by simpa using h4⟩
  obtain ⟨x0,hx0⟩:∃ x,x∈p0:=⟨p0[0],List.getElem_mem hpos⟩
  have hcall:E6 Tryz.prog f_p1 = true:=(h_p1 x0 _ (hq x0 hx0)).1
  cases hfv0 with
  | fn _ lb _ hlb h1' hcap' =>
    have core:=WG p0 q g cap w f_p1 lb h1 (by omega) 3 hD0 (fun args w=>Ii hcall args) (fun w' hw'=>?_) (fun w' dk u hu hw'=>?_)
    ·rw [← hv] at core
     refine core.mono fun e' w' ⟨he,dk,hd,htk⟩=>?_
     refine El he (fun b hb2=>?_) (toM hd) (hd.row ?_ htk h1 h2)
     ·rw [hblk]
      simp only [Ay,hcap,if_false] at hb2
      exact hb2
     ·exact List.length_filter_le _ _
    ·rw [← hv]
     have hr:=hw'.row (R:=p0) (Nat.le_refl _) (by simp) h1 h2
     rw [← hv] at hr
     exact (search (toM hw') hr).mono fun e w'' ⟨he,hb2⟩=>⟨he,hw'.call hb2⟩
    ·have aC:=h_p1 u _ (hq u hu)
     refine (aC.2 (fun b=>O b∨Ay v = some b) w' _ (fun b hb2=>?_) (fun g' cs hg=>(hG0 g' cs hg).mono (keep (toM hw'))) (by simp [hlb]; omega) fun i y x hy hx=>?_).mono fun e w'' h=>?_
     ·rcases hb2 with hb2 | hb2
      ·exact Nat.lt_of_lt_of_le (hO b hb2) hw'.below.size
      ·rw [hblk] at hb2; cases hb2; exact hw'.lt
     ·cases i with
      | zero =>
        rw [Array.getElem?_append_left (by simp)] at hy
        simp at hy hx; subst hy; subst hx
        exact .int _ _
      | succ i =>
        have hx:(c_p1.map AV.d)[i]? = some x:=by simpa using hx
        have hy:lb[i]? = some y:=by
         rw [Array.getElem?_append_right (by simp)] at hy
         simpa using hy
        rw [List.getElem?_map] at hx
        cases hc:c_p1[i]? with
        | none=>rw [hc] at hx; cases hx
        | some z =>
          rw [hc] at hx
          obtain rfl:=Option.some.inj hx
          exact (hcap' i y z hy hc).mono (keep (toM hw'))
     ·obtain ⟨y,he,hb2,hy⟩:=h
      cases hy
      exact ⟨he,hw'.call hb2⟩
 ·exact absurd (List.eq_nil_of_length_eq_zero h1) h0
end Go.Proofs.YtjgeigjjfcnojaaGreatDoor.P
