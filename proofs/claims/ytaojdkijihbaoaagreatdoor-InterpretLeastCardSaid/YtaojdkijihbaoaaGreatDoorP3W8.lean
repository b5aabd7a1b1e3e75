/- P3W8 -/
import Derived.Test.YtaojdkijihbaoaaGreatDoorP3DW
open Go.Proofs.Tryz
set_option linter.all false
namespace Go.Proofs.YtaojdkijihbaoaaGreatDoor.P
open Go.Abs Go.Proofs
set_option maxRecDepth 100000
set_option maxHeartbeats 4000000
instance extract_Known_c1_w:CS prog 223 (∀(a:Ac)(b:Int)(R:Bool)(h:Lu a b=some R),Ax prog 223 [.d (Ah a),.d (.ptr [(.j b)])] (.b R)):=⟨λa b R h=>by
 refine uD func223 ?_;unfold Lu at h;exact Aq⟩
instance {a0 a1 a2 a3 a4 a5}:LS (λa s=>Od a0 a1 a2 a3 a4 a5 a s.1 s.2.1 s.2.2) 45 [1,2,3,4,19,20] (λs=>[(10,.i s.1),(11,.b s.2.1),(21,.i s.2.2)]) [4] (λs=>[]):=⟨trivial⟩
instance schema_turnCode_w:CS prog 278 (W4 prog 278 DV):=⟨λa b p2 p3 R h=>by
 refine uD func278 ?_;unfold DV at h;exact Aq⟩
instance schema_turnMeasure_w:CS prog 279 (W4 prog 279 FA):=⟨λa b p2 p3 R h=>by
 refine uD func279 ?_;unfold FA at h;exact Aq⟩
instance schema_Turned_w:CS prog 224 (W5 prog 224 Dx):=⟨λa b p2 p3 c R h=>by
 refine uD func224 ?_;unfold Dx at h;exact Aq⟩
instance extract_Known_w:CS prog 151 (W5 prog 151 Bt):=⟨λa b p2 p3 c R h=>by
 refine uD func151 ?_;unfold Bt at h;exact Aq⟩
instance tabulate_Counts_c1_c1_w:CS prog 218 (∀(c:Int)(b:Aa)(a:Au)(d:Int)(R:Bool)(h:Eh c b a d=some R),Ax prog 218 [.i c,.d (.ptr [(Ao 2 Ai b.K),(Ao 7 Am b.A)]),.d (.ptr [(.str a.Ae),(.j a.Ag),(Ao 2 Ah a.E),(Ao 1 (Ao 1 D.z) a.G)]),.d (.ptr [(.j d)])] (.b R)):=⟨λc b a d R h=>by
 refine uD func218 ?_;unfold Eh at h;exact Aq⟩
instance tabulate_Counts_c1_w:CS prog 216 (∀(c:Int)(d:List Int)(b:Aa)(a:Au)(R:Bool)(h:Es c d b a=some R),Ax prog 216 [.i c,.d (.ptr [(Ao 1 D.z d)]),.d (.ptr [(Ao 2 Ai b.K),(Ao 7 Am b.A)]),.d (.ptr [(.str a.Ae),(.j a.Ag),(Ao 2 Ah a.E),(Ao 1 (Ao 1 D.z) a.G)])] (.b R)):=⟨λc d b a R h=>by
 refine uD func216 ?_;unfold Es at h;exact Aq⟩
instance tabulate_Counts_w:CS prog 145 (∀d:Nat,W4 prog 145 (DZ d)):=⟨λd c e p2 p3 R h=>by
 refine rP func145 ?_;unfold DZ at h;refine Fx h (λ_=>extract_Check_w.h _ _ _) λa h=>?_;refine EA h (λh=>?_) λh=>?_
 ·conv=>whnf
  exact z19
 refine Fx h (λ_=>tabulate_Holding_w.h _ _ _ _ _) λb h=>?_;refine b7 h (λ_=>EN _ _ _ _ _ (λa0 _ h=>tabulate_Counts_c1_w.h a0 _ _ _ _ h)) λx18 h=>?_
 conv=>whnf
 obtain rfl:=uc h;refine⟨.inl ?_⟩
 conv=>whnf
 exact⟨P8⟩⟩
instance {a0 a1 a2 a3 a4}:LS (λa s=>Oi a0 a1 a2 a3 a4 a s.1 s.2) 37 [3,4,5,9,14,15] (λs=>[(16,.i s.1)]) [4,5] (λs=>[(9,.row 1 3 (List.map D.z s.2),1)]):=⟨trivial⟩
instance tabulate_Values_w:CS prog 146 (W4 prog 146 Ck):=⟨λa b p2 p3 R h=>by
 refine uD func146 ?_;unfold Ck at h;exact Aq⟩
instance tabulate_ask_w:CS prog 148 (∀d:Nat,W4 prog 148 (KV d)):=⟨λd a b p2 p3 R h=>by
 refine uD func148 ?_;unfold KV at h;exact Aq⟩
instance types_Needs_w:CS prog 149 (∀d:Nat,W2 prog 149 (Gt d)):=⟨λd a b R h=>by
 refine uD func149 ?_;unfold Gt at h;exact Aq⟩
