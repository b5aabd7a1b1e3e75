/- PiecesLift -/
import Derived.Test.YthchnhoalhbkcaaGreatDoorQD
import Derived.Test.YthchnhoalhbkcaaGreatDoorP3W21
import Derived.Test.YthchnhoalhbkcaaGreatDoorFG
import Derived.Lib.SmallJoins
import Derived.SevenTiedAt
open Go.Proofs.Tryz
set_option linter.unusedSimpArgs false
set_option linter.unusedVariables false
namespace Go.Proofs.YthchnhoalhbkcaaGreatDoor.interpretPieces
open Go.ChangeShapes Go.WideShapes Go.ChangeAt Go.RowKit Go.Joins Go.Abs Go.Proofs.YthchnhoalhbkcaaGreatDoor.P
theorem own:ownKnob prog.godebug=none:=by kernel_rfl
theorem lZ:laidOutB prog=true:=by kernel_rfl
set_option maxRecDepth 100000 in
theorem nV(os:Os)(started:os.Started)(H:Type)(enc:TypeId×Value->H) :
 ReturnsInHanded {} checked os 3 .any (λw args=>(Rows.interpretPiecesSpec.pre enc prog f3 [] false w args/\laidMetH prog b9 w)/\sizedMet enc prog f3 (OpenSpec.ofChange Rows.interpretPiecesSpec) false w args)
  (Rows.interpretPiecesSpec.post enc prog f3 false true false false):=by
 refine returnsInHanded_of_change_and (C:=checked) (X:=λw _=>laidMetH prog b9 w) (λ_ _ _ hh h=>h.of_heap hh) own started (by kernel_rfl) func3
  (ChangeSpec.witness_shaped (enc:=enc) (C:=checked) (os:=os) (X:=λw _=>laidMetH prog b9 w) false (World.doorLaid prog 400 os) #[.slice none 0 0] 8 rfl (World.shaped_of_RefB (by kernel_rfl) (by kernel_rfl)) (by kernel_rfl) (by kernel_rfl) (by kernel_rfl) (jo os _)) ?_
 intro W base args ds gs before hval0 hW _ _ hL _;have hval:∀(j:Nat) t v,f3.params[j]?=some t->args[j]?=some v->Value.okWide prog W .any base t v:=hval0;have hW':=hW;obtain⟨p,q,hA0,hV,rfl,hfz,hnd⟩:=hW;have hA:DataW.TrodAll enc prog W 0 (λ_=>true) true f3.params.toList args.toList ds p:=hA0;rw[params3]at hA hval;obtain⟨v0,vs0,d0,ds0,p0,q0,hargs,rfl,rfl,h0,r0⟩:=trodAll_cons hA;obtain⟨rfl,rfl,rfl⟩:=trodAll_nil r0;obtain rfl:args=#[v0]:=by cases args;simp_all
 obtain⟨rfl,rfl⟩:=trodVars_none hV;have k0:=h0;have lt0:∀x∈p0,x.block<W.heap.size:=by obtain⟨m,hm⟩:=k0;exact DataW.trod_lt m _ _ _ hm
 obtain⟨x0,hx0,hl0,hw0⟩:=jG underlying22 underlying5 (by kernel_rfl) (okWide_slice underlying22 (hval 0 22 v0 rfl rfl)) h0;have b0:∀x∈x0,0<=x/\x<=255:=λx hx=>by simpa [Lit.wf,IntKind.min,IntKind.max,IntKind.signed,IntKind.bits] using hw0 x hx
 clear hA0 hval0;refine((law22_InterpretPieces_w.h DD x0 true (ik x0 b0 (qt hl0 (by unfold maxLen;omega)))).2 (λ_=>False) W _ (λ_ h=>h.elim) (Zx hL) rfl (λi v x hv hx=>?_)).mono λe W' ⟨v,he,bel,hr⟩=>?_
 ·match i,hv,hx with
  | 0,hv,hx=>simp at hv hx;subst hv;subst hx;exact hx0
  | i+1,hv,hx=>simp at hv
 ·subst he;obtain rfl:v=.bool true:=Ec hr;exact⟨_,rfl,_,_,_,[],_,[],hW',trodAll_mk1 (shut_bool underlying4 _),(trodAll_cons_mk (Below.trod lZ (by kernel_rfl) (pZ (by kernel_rfl)) k0 bel lt0) trodAll_mk0),rfl,bel.frame _,λh=>by cases h⟩
end Go.Proofs.YthchnhoalhbkcaaGreatDoor.interpretPieces
