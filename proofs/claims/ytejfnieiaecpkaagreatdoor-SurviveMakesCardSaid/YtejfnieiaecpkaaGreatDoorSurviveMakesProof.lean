/- SurviveMakes: for every input the law returns true, and its arguments read as they did. No conditions. -/
import Derived.Test.YtejfnieiaecpkaaGreatDoorLB
import Derived.Test.YtejfnieiaecpkaaGreatDoorP3W12
import Derived.Test.YtejfnieiaecpkaaGreatDoorFG
import Derived.Test.YtejfnieiaecpkaaGreatDoorCards
import Derived.Test.YtejfnieiaecpkaaGreatDoorTie
import Derived.Lib.SmallJoins
import Derived.SevenTiedAt
set_option linter.unusedSimpArgs false
namespace Go.Proofs.YtejfnieiaecpkaaGreatDoor.surviveMakes
open Go.ChangeShapes Go.WideShapes Go.ChangeAt Go.RowKit Go.Joins Go.Abs Go.Proofs.YtejfnieiaecpkaaGreatDoor.P
set_option linter.unusedVariables false
theorem own:ownKnob Tryz.prog.godebug = none:=by kernel_rfl
theorem bF:laidOutB Tryz.prog = true:=by kernel_rfl
set_option maxRecDepth 100000 in
theorem il (os:Os) (started:os.Started) (H:Type) (enc:TypeId × Value→H) :
 ReturnsInHanded {} Tryz.checked os 5 .any (fun w args=>(Rows.surviveMakesSpec.pre enc Tryz.prog Tryz.f5 [] false w args∧laidMetH Tryz.prog Z0 w)∧sizedMet enc Tryz.prog Tryz.f5 (OpenSpec.ofChange Rows.surviveMakesSpec) false w args)
  (Rows.surviveMakesSpec.post enc Tryz.prog Tryz.f5 false true false false):=by
 refine returnsInHanded_of_change_and (C:=Tryz.checked) (X:=fun w _=>laidMetH Tryz.prog Z0 w) (fun _ _ _ hh h=>h.of_heap hh) own started (by kernel_rfl) Tryz.func5
  (ChangeSpec.witness_shaped (enc:=enc) (C:=Tryz.checked) (os:=os) (X:=fun w _=>laidMetH Tryz.prog Z0 w) false (World.doorLaid Tryz.prog 400 os) #[.slice none 0 0,.int .i64 0,.agg #[.int .i64 0,.int .i64 0,.int .i64 0,.int .i64 0,.int .i64 0,.slice none 0 0]] 8 rfl (World.shaped_of_RefB (by kernel_rfl) (by kernel_rfl)) (by kernel_rfl) (by kernel_rfl) (by kernel_rfl) (fI os _)) ?_
 intro W base args ds gs before hval0 hW _ _ hL _
 have hval:∀ (j:Nat) t v,Tryz.f5.params[j]? = some t→args[j]? = some v→Value.okWide Tryz.prog W .any base t v:=hval0
 have hW':=hW
 obtain ⟨p,q,hA0,hV,rfl,hfz,hnd⟩:=hW
 have hA:DataW.TrodAll enc Tryz.prog W 0 (fun _=>true) true Tryz.f5.params.toList args.toList ds p:=hA0
 rw [Tryz.params5] at hA hval
 obtain ⟨v0,vs0,d0,ds0,p0,q0,hargs,rfl,rfl,h0,r0⟩:=trodAll_cons hA
 obtain ⟨v1,vs1,d1,ds1,p1,q1,rfl,rfl,rfl,h1,r1⟩:=trodAll_cons r0
 obtain ⟨v2,vs2,d2,ds2,p2,q2,rfl,rfl,rfl,h2,r2⟩:=trodAll_cons r1
 obtain ⟨rfl,rfl,rfl⟩:=trodAll_nil r2
 obtain rfl:args = #[v0,v1,v2]:=by cases args; simp_all
 obtain ⟨rfl,rfl⟩:=trodVars_none hV
 have k0:=h0
 have lt0:∀ x∈p0,x.block < W.heap.size:=by obtain ⟨m,hm⟩:=k0; exact DataW.trod_lt m _ _ _ hm
 obtain ⟨x0,hx0,hl0,hw0⟩:=fc Tryz.underlying22 Tryz.underlying5 (by kernel_rfl) (okWide_slice Tryz.underlying22 (hval 0 22 v0 rfl rfl)) h0
 have b0:∀ x∈x0,0≤x∧x≤255:=fun x hx=>by simpa [Lit.wf,IntKind.min,IntKind.max,IntKind.signed,IntKind.bits] using hw0 x hx
 obtain ⟨x1,rfl,rfl,rfl,w1⟩:=open_int Tryz.underlying3 (hval 1 3 v1 rfl rfl) h1
 have b1:-9223372036854775808≤x1∧x1≤9223372036854775807:=by simpa [Lit.wf,IntKind.min,IntKind.max,IntKind.signed,IntKind.bits] using w1
 have k2:=h2
 have lt2:∀ x∈p2,x.block < W.heap.size:=by obtain ⟨m,hm⟩:=k2; exact DataW.trod_lt m _ _ _ hm
 obtain ⟨n2,y2,f2,g2⟩:=gF (ts:=[47,45,3]) (by kernel_rfl) (by kernel_rfl) (fun _=>by obtain ⟨cs,e,_⟩:=okWide_struct Tryz.underlying47 (hval 2 47 v2 rfl rfl); exact ⟨cs,e⟩) (fun h=>by rw [show GQ Tryz.prog 47 = true from by kernel_rfl] at h; cases h) h2
 obtain ⟨x2,e2⟩:=WL n2 y2 f2
 have g2:AA (fun _=>False) W v2 (Ax x2):=by rw [show GQ Tryz.prog 47 = true from by kernel_rfl] at g2; rw [← A9]; exact e2 ▸ g2
 clear hA0 hval0
 refine ((Ph DD x0 x1 x2 true (al x0 b0 (Nat.le_trans hl0 (by unfold maxLen; omega)) x1 x2)).2 (fun _=>False) W _ (fun _ h=>h.elim) (XM hL) rfl (fun i v x hv hx=>?_)).mono fun e W' ⟨v,he,bel,hr⟩=>?_
 ·match i,hv,hx with
  | 0,hv,hx=>simp at hv hx; subst hv; subst hx; exact hx0
  | 1,hv,hx=>simp at hv hx; subst hv; subst hx; exact AA.int _ _
  | 2,hv,hx=>simp at hv hx; subst hv; subst hx; exact g2
  | i + 3,hv,hx=>simp at hv
 ·subst he
  obtain rfl:v = .bool true:=EP hr
  exact ⟨_,rfl,_,_,_,[],_,[],hW',trodAll_mk1 (shut_bool Tryz.underlying4 _),(trodAll_cons_mk (Below.trod bF (by kernel_rfl) (of_decide_eq_true (by kernel_rfl)) k0 bel lt0) (trodAll_cons_mk (shut_int Tryz.underlying3 w1) (trodAll_cons_mk (Below.trod bF (by kernel_rfl) (of_decide_eq_true (by kernel_rfl)) k2 bel lt2) trodAll_mk0))),rfl,bel.frame _,fun h=>by cases h⟩
theorem jz:Rows.surviveMakesRow.holds Tryz.pinned (OpenSpec.ofChange Rows.surviveMakesSpec) :=
 OpenClaim.holds_of_wide 5 Tryz.f5 rfl rfl rfl rfl rfl rfl rfl ⟨rfl,rfl,rfl,rfl,rfl⟩ rfl rfl rfl rfl rfl (by kernel_rfl) Tryz.func5 (by kernel_rfl)
  (of_decide_eq_true (by kernel_rfl)) (by unfold Func.isWrapper; first | (rw [if_pos (by decide +kernel)]; kernel_rfl) | (rw [if_neg (by decide +kernel)]; exact ⟨rfl,rfl⟩))
  (fun os started H enc _=>il os started H enc)
theorem proved:Rows.SurviveMakesCardSaid :=
 Claim7.holds_tied_plain_at .later [] [.data,.data,.data] true (true, "2c767906b9d3df5c19f023f2e1d998dfc4660df4236239d1666c7876dbefe2f4") false
  jz (fun _ h=>by cases h) (by kernel_rfl) (fun _ h=>by cases h) surviveMakes_row_tie rfl ⟨rfl,rfl⟩ (by kernel_rfl) rfl
  (fun f fn hf hfn=>by
   obtain rfl:f = 5:=Option.some.inj ((show Tryz.prog.funcNamed "dataenclave/dataenclavelaw20.SurviveMakes" = some 5 by kernel_rfl).symm.trans hf) |>.symm
   obtain rfl:fn = Tryz.f5:=(Option.some.inj (Tryz.func5.symm.trans hfn)).symm
   exact ⟨by kernel_rfl,fun j t ht=>by
    rw [Tryz.params5] at ht
    have hm:t∈[22,3,47]:=by simpa using Array.mem_of_getElem? ht
    have hall:([22,3,47].all fun u=>!Tryz.prog.wantsStandIn u) = true:=by kernel_rfl
    exact (show Tryz.prog.wantsStandIn t = false by simpa using List.all_eq_true.1 hall t hm)⟩)
  (by kernel_rfl)
#print axioms proved
end Go.Proofs.YtejfnieiaecpkaaGreatDoor.surviveMakes
