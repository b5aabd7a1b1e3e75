/- LeastLift -/
import Derived.Test.YtaojdkijihbaoaaGreatDoorQF
import Derived.Test.YtaojdkijihbaoaaGreatDoorP3W22
import Derived.Test.YtaojdkijihbaoaaGreatDoorFG
import Derived.Lib.SmallJoins
import Derived.SevenTiedAt
open Go.Proofs.Tryz
set_option linter.all false
namespace Go.Proofs.YtaojdkijihbaoaaGreatDoor.interpretLeast
open Go.ChangeShapes Go.WideShapes Go.ChangeAt Go.RowKit Go.Joins Go.Abs Go.Proofs.YtaojdkijihbaoaaGreatDoor.P
theorem own:ownKnob prog.godebug=none:=by kernel_rfl
theorem pe:laidOutB prog=true:=by kernel_rfl
set_option maxRecDepth 100000 in
theorem rl(os:Os)(a:os.Started)(H:Type)(enc:TypeId×Value->H) :
 ReturnsInHanded {} checked os 3 .any (λw args=>(Rows.interpretLeastSpec.pre enc prog f3 [] false w args/\laidMetH prog di w)/\sizedMet enc prog f3 (OpenSpec.ofChange Rows.interpretLeastSpec) false w args)
  (Rows.interpretLeastSpec.post enc prog f3 false true false false):=by
 refine returnsInHanded_of_change_and (C:=checked) (X:=λw _=>laidMetH prog di w) (λ_ _ _ F h=>h.of_heap F) own a (by kernel_rfl) func3
  (ChangeSpec.witness_shaped (enc:=enc) (C:=checked) (os:=os) (X:=λw _=>laidMetH prog di w) false (World.doorLaid prog 400 os) #[.slice none 0 0] 8 rfl (World.shaped_of_RefB (by kernel_rfl) (by kernel_rfl)) (by kernel_rfl) (by kernel_rfl) (by kernel_rfl) (lV os _)) ?_
 intro W base args ds S k b z _ _ G _;have c:∀(j:Nat) t v,f3.params[j]?=some t->args[j]?=some v->Value.okWide prog W .any base t v:=b;have l:=z;obtain⟨p,q,f,I,rfl,J,K⟩:=z;have A:DataW.TrodAll enc prog W 0 (λ_=>true) true f3.params.toList args.toList ds p:=f;rw[params3]at A c;obtain⟨B,L,d0,M,N,T,n,rfl,rfl,D,O⟩:=trodAll_cons A;obtain⟨rfl,rfl,rfl⟩:=trodAll_nil O;obtain rfl:args=#[B]:=by cases args;simp_all
 obtain⟨rfl,rfl⟩:=trodVars_none I;have E:=D;have o:∀x∈N,x.block<W.heap.size:=by obtain⟨m,P⟩:=E;exact DataW.trod_lt m _ _ _ P
 obtain⟨r,s,u,y⟩:=m9 underlying22 underlying5 (by kernel_rfl) (okWide_slice underlying22 (c 0 22 B rfl rfl)) D;have Q:∀x∈r,0<=x/\x<=255:=λx hx=>by simpa [Lit.wf,IntKind.min,IntKind.max,IntKind.signed,IntKind.bits] using y x hx
 clear f b;refine((law22_InterpretLeast_w.h DD r true (jU r Q (uK u (by unfold maxLen;omega)))).2 (λ_=>False) W _ (λ_ h=>h.elim) (ax G) rfl (λi v x d hx=>?_)).mono λe U ⟨v,R,g,hr⟩=>?_
 ·match i,d,hx with
  | 0,d,hx=>simp at d hx;subst d;subst hx;exact s
  | i+1,d,hx=>simp at d
 ·subst R;obtain rfl:v=.bool true:=EH hr;exact⟨_,rfl,_,_,_,[],_,[],l,trodAll_mk1 (shut_bool underlying4 _),(trodAll_cons_mk (Below.trod pe (by kernel_rfl) (uf (by kernel_rfl)) E g o) trodAll_mk0),rfl,g.frame _,λh=>by cases h⟩
