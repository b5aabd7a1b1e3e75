/- LineageLift -/
import Derived.Test.YtkjijhldfdplgaaGreatDoorQE
import Derived.Test.YtkjijhldfdplgaaGreatDoorP3W21
import Derived.Test.YtkjijhldfdplgaaGreatDoorFG
import Derived.Lib.SmallJoins
import Derived.SevenTiedAt
open Go.Proofs.Tryz
set_option linter.all false
namespace Go.Proofs.YtkjijhldfdplgaaGreatDoor.interpretLineage
open Go.ChangeShapes Go.WideShapes Go.ChangeAt Go.RowKit Go.Joins Go.Abs Go.Proofs.YtkjijhldfdplgaaGreatDoor.P
theorem own:ownKnob prog.godebug=none:=by kernel_rfl
theorem oQ:laidOutB prog=true:=by kernel_rfl
set_option maxRecDepth 100000 in
theorem qM(os:Os)(a:os.Started)(H:Type)(enc:TypeId×Value->H) :
 ReturnsInHanded {} checked os 3 .any (λw args=>(Rows.interpretLineageSpec.pre enc prog f3 [] false w args/\laidMetH prog dY w)/\sizedMet enc prog f3 (OpenSpec.ofChange Rows.interpretLineageSpec) false w args)
  (Rows.interpretLineageSpec.post enc prog f3 false true false false):=by
 refine returnsInHanded_of_change_and (C:=checked) (X:=λw _=>laidMetH prog dY w) (λ_ _ _ J h=>h.of_heap J) own a (by kernel_rfl) func3
  (ChangeSpec.witness_shaped (enc:=enc) (C:=checked) (os:=os) (X:=λw _=>laidMetH prog dY w) false (World.doorLaid prog 400 os) #[.slice none 0 0,.int .u32 0] 8 rfl (World.shaped_of_RefB (by kernel_rfl) (by kernel_rfl)) (by kernel_rfl) (by kernel_rfl) (by kernel_rfl) (lX os _)) ?_
 intro W base args ds gs k b A _ _ K _;have c:∀(j:Nat) t v,f3.params[j]?=some t->args[j]?=some v->Value.okWide prog W .any base t v:=b;have l:=A;obtain⟨p,q,f,L,rfl,M,N⟩:=A;have B:DataW.TrodAll enc prog W 0 (λ_=>true) true f3.params.toList args.toList ds p:=f;rw[params3]at B c;obtain⟨D,O,d0,P,Q,q0,n,rfl,rfl,E,R⟩:=trodAll_cons B;obtain⟨F,S,d1,T,p1,q1,rfl,rfl,rfl,U,V⟩:=trodAll_cons R;obtain⟨rfl,rfl,rfl⟩:=trodAll_nil V;obtain rfl:args=#[D,F]:=by cases args;simp_all
 obtain⟨rfl,rfl⟩:=trodVars_none L;have G:=E;have o:∀x∈Q,x.block<W.heap.size:=by obtain⟨m,Y⟩:=G;exact DataW.trod_lt m _ _ _ Y
 obtain⟨r,s,u,y⟩:=mA underlying22 underlying5 (by kernel_rfl) (okWide_slice underlying22 (c 0 22 D rfl rfl)) E;have Z:∀x∈r,0<=x/\x<=255:=λx hx=>by simpa [Lit.wf,IntKind.min,IntKind.max,IntKind.signed,IntKind.bits] using y x hx
 obtain⟨z,rfl,rfl,rfl,I⟩:=open_int underlying23 (c 1 23 F rfl rfl) U;have b1:0<=z/\z<=4294967295:=by simpa [Lit.wf,IntKind.min,IntKind.max,IntKind.signed,IntKind.bits] using I
 clear f b;refine((law22_InterpretLineage_w.h DD r z true (gD r Z (tw u (by unfold maxLen;omega)) b1)).2 (λ_=>False) W _ (λ_ h=>h.elim) (bp K) rfl (λi v x d hx=>?_)).mono λe W' ⟨v,he,g,hr⟩=>?_
 ·match i,d,hx with
  | 0,d,hx=>simp at d hx;subst d;subst hx;exact s
  | 1,d,hx=>simp at d hx;subst d;subst hx;exact Ax.int _ _
  | i+2,d,hx=>simp at d
 ·subst he;obtain rfl:v=.bool true:=ED hr;exact⟨_,rfl,_,_,_,[],_,[],l,trodAll_mk1 (shut_bool underlying4 _),(trodAll_cons_mk (Below.trod oQ (by kernel_rfl) (tb (by kernel_rfl)) G g o) (trodAll_cons_mk (shut_int underlying23 I) trodAll_mk0)),rfl,g.frame _,λh=>by cases h⟩
