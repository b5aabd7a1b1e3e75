/- InterpretAsks: for every input the law returns true, and its arguments read as they did. No conditions. -/
import Derived.Test.YtjghjdokjgcehaaGreatDoorLB
import Derived.Test.YtjghjdokjgcehaaGreatDoorP3W12
import Derived.Test.YtjghjdokjgcehaaGreatDoorFG
import Derived.Test.YtjghjdokjgcehaaGreatDoorCards
import Derived.Test.YtjghjdokjgcehaaGreatDoorTie
import Derived.Lib.SmallJoins
import Derived.SevenTiedAt
set_option linter.unusedSimpArgs false
namespace Go.Proofs.YtjghjdokjgcehaaGreatDoor.interpretAsks
open Go.ChangeShapes Go.WideShapes Go.ChangeAt Go.RowKit Go.Joins Go.Abs Go.Proofs.YtjghjdokjgcehaaGreatDoor.P
set_option linter.unusedVariables false
set_option maxRecDepth 100000 in
theorem cf:Ia DD = some true:=by decide +kernel
theorem own:ownKnob Tryz.prog.godebug = none:=by kernel_rfl
theorem Zg:laidOutB Tryz.prog = true:=by kernel_rfl
set_option maxRecDepth 100000 in
theorem dC (os:Os) (started:os.Started) (H:Type) (enc:TypeId × Value→H) :
 ReturnsInHanded {} Tryz.checked os 3 .any (fun w args=>(Rows.interpretAsksSpec.pre enc Tryz.prog Tryz.f3 [] false w args∧laidMetH Tryz.prog Xy w)∧sizedMet enc Tryz.prog Tryz.f3 (OpenSpec.ofChange Rows.interpretAsksSpec) false w args)
  (Rows.interpretAsksSpec.post enc Tryz.prog Tryz.f3 false true false false):=by
 refine returnsInHanded_of_change_and (C:=Tryz.checked) (X:=fun w _=>laidMetH Tryz.prog Xy w) (fun _ _ _ hh h=>h.of_heap hh) own started (by kernel_rfl) Tryz.func3
  (ChangeSpec.witness_shaped (enc:=enc) (C:=Tryz.checked) (os:=os) (X:=fun w _=>laidMetH Tryz.prog Xy w) false (World.doorLaid Tryz.prog 400 os) #[.slice none 0 0,.agg #[.string ByteArray.empty,.string ByteArray.empty,.int .i64 0,.int .i64 0,.int .i64 0,.int .i64 0,.int .i64 0,.slice none 0 0,.int .i64 0,.int .i64 0,.int .i64 0,.slice none 0 0]] 8 rfl (World.shaped_of_RefB (by kernel_rfl) (by kernel_rfl)) (by kernel_rfl) (by kernel_rfl) (by kernel_rfl) (be os _)) ?_
 intro W base args ds gs before hval0 hW _ _ hL _
 have hval:∀ (j:Nat) t v,Tryz.f3.params[j]? = some t→args[j]? = some v→Value.okWide Tryz.prog W .any base t v:=hval0
 have hW':=hW
 obtain ⟨p,q,hA0,hV,rfl,hfz,hnd⟩:=hW
 have hA:DataW.TrodAll enc Tryz.prog W 0 (fun _=>true) true Tryz.f3.params.toList args.toList ds p:=hA0
 rw [Tryz.params3] at hA hval
 obtain ⟨v0,vs0,d0,ds0,p0,q0,hargs,rfl,rfl,h0,r0⟩:=trodAll_cons hA
 obtain ⟨v1,vs1,d1,ds1,p1,q1,rfl,rfl,rfl,h1,r1⟩:=trodAll_cons r0
 obtain ⟨rfl,rfl,rfl⟩:=trodAll_nil r1
 obtain rfl:args = #[v0,v1]:=by cases args; simp_all
 obtain ⟨rfl,rfl⟩:=trodVars_none hV
 have k0:=h0
 have lt0:∀ x∈p0,x.block < W.heap.size:=by obtain ⟨m,hm⟩:=k0; exact DataW.trod_lt m _ _ _ hm
 obtain ⟨x0,hx0,hl0,hw0⟩:=bv Tryz.underlying22 Tryz.underlying5 (by kernel_rfl) (okWide_slice Tryz.underlying22 (hval 0 22 v0 rfl rfl)) h0
 have b0:∀ x∈x0,0≤x∧x≤255:=fun x hx=>by simpa [Lit.wf,IntKind.min,IntKind.max,IntKind.signed,IntKind.bits] using hw0 x hx
 have k1:=h1
 have lt1:∀ x∈p1,x.block < W.heap.size:=by obtain ⟨m,hm⟩:=k1; exact DataW.trod_lt m _ _ _ hm
 obtain ⟨n1,y1,f1,g1⟩:=cb (ts:=[30,27,28,95,53,101,49,9,25,23,3]) (by kernel_rfl) (by kernel_rfl) (fun _=>by obtain ⟨cs,e,_⟩:=okWide_struct Tryz.underlying30 (hval 1 30 v1 rfl rfl); exact ⟨cs,e⟩) (fun h=>by rw [show Em Tryz.prog 30 = true from by kernel_rfl] at h; cases h) h1
 obtain ⟨x1,e1⟩:=ZQ f1
 have g1:AB (fun _=>False) W v1 (BZ x1):=by rw [show Em Tryz.prog 30 = true from by kernel_rfl] at g1; exact e1 ▸ g1
 clear hA0 hval0
 refine ((ND DD x0 x1 true (ce cf x0 b0 (Nat.le_trans hl0 (by unfold maxLen; omega)) x1)).2 (fun _=>False) W _ (fun _ h=>h.elim) (Wj hL) rfl (fun i v x hv hx=>?_)).mono fun e W' ⟨v,he,bel,hr⟩=>?_
 ·match i,hv,hx with
  | 0,hv,hx=>simp at hv hx; subst hv; subst hx; exact hx0
  | 1,hv,hx=>simp at hv hx; subst hv; subst hx; exact g1
  | i + 2,hv,hx=>simp at hv
 ·subst he
  obtain rfl:v = .bool true:=EA hr
  exact ⟨_,rfl,_,_,_,[],_,[],hW',trodAll_mk1 (shut_bool Tryz.underlying4 _),(trodAll_cons_mk (Below.trod Zg (by kernel_rfl) (of_decide_eq_true (by kernel_rfl)) k0 bel lt0) (trodAll_cons_mk (Below.trod Zg (by kernel_rfl) (of_decide_eq_true (by kernel_rfl)) k1 bel lt1) trodAll_mk0)),rfl,bel.frame _,fun h=>by cases h⟩
theorem fj:Rows.interpretAsksRow.holds Tryz.pinned (OpenSpec.ofChange Rows.interpretAsksSpec) :=
 OpenClaim.holds_of_wide 3 Tryz.f3 rfl rfl rfl rfl rfl rfl rfl ⟨rfl,rfl,rfl,rfl,rfl⟩ rfl rfl rfl rfl rfl (by kernel_rfl) Tryz.func3 (by kernel_rfl)
  (of_decide_eq_true (by kernel_rfl)) (by unfold Func.isWrapper; first | (rw [if_pos (by decide +kernel)]; kernel_rfl) | (rw [if_neg (by decide +kernel)]; exact ⟨rfl,rfl⟩))
  (fun os started H enc _=>dC os started H enc)
theorem proved:Rows.InterpretAsksCardSaid :=
 Claim7.holds_tied_plain_at .later [] [.data,.data,.data] true (true, "701b2fc55606d9008e43fc9ca985c1034a8670f78392ee9926ef330913570d78") false
  fj (fun _ h=>by cases h) (by kernel_rfl) (fun _ h=>by cases h) interpretAsks_row_tie rfl ⟨rfl,rfl⟩ (by kernel_rfl) rfl
  (fun f fn hf hfn=>by
   obtain rfl:f = 3:=Option.some.inj ((show Tryz.prog.funcNamed "dataenclave/dataenclavelaw22.InterpretAsks" = some 3 by kernel_rfl).symm.trans hf) |>.symm
   obtain rfl:fn = Tryz.f3:=(Option.some.inj (Tryz.func3.symm.trans hfn)).symm
   exact ⟨by kernel_rfl,fun j t ht=>by
    rw [Tryz.params3] at ht
    have hm:t∈[22,30]:=by simpa using Array.mem_of_getElem? ht
    have hall:([22,30].all fun u=>!Tryz.prog.wantsStandIn u) = true:=by kernel_rfl
    exact (show Tryz.prog.wantsStandIn t = false by simpa using List.all_eq_true.1 hall t hm)⟩)
  (by kernel_rfl)
#print axioms proved
end Go.Proofs.YtjghjdokjgcehaaGreatDoor.interpretAsks
