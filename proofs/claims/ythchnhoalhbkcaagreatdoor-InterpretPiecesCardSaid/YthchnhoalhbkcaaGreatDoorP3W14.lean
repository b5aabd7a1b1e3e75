/- P3W14 -/
import Derived.Test.YthchnhoalhbkcaaGreatDoorP3W13
open Go.Proofs.Tryz
set_option linter.unusedSimpArgs false
set_option linter.unusedVariables false
namespace Go.Proofs.YthchnhoalhbkcaaGreatDoor.P
open Go.Abs Go.Proofs
set_option maxRecDepth 100000
set_option maxHeartbeats 4000000
instance interpret_Run_w:CS prog 7 (∀d:Nat,W3 prog 7 (Ey d)):=⟨λd p0 p1 p2 R h=>by
 refine uD func7 ?_;unfold Ey at h;refine FV h (λ_=>extract_Check_w.h _ _ _) λx22 h=>?_;refine DI h (λh=>?_) λh=>?_
 ·exact Ao
 refine FV h (λ_=>program_Check_w.h _ _ _ _) λx29 h=>?_;refine DI h (λh=>?_) λh=>?_
 ·exact Ao
 refine FV h (λ_=>types_Program_w.h _ _ _ _ _) λx41 h=>?_;refine DI h (λh=>?_) λh=>?_
 ·exact Ao
 conv=>whnf
 refine z7 h (λp=>CJ 84 [(2,.d (An 21 B5 p2)),(3,.ptr 3 1 0),(4,.ptr 4 1 0),(15,.sl 15 1),(49,.d (An 21 B5 p2)),(50,.d (.int .i64 (p2.length:Int))),(51,.d (.int .i64 p.1))] [(3,Bh p0,1),(4,E7 p1,1),(15,.row 26 70 (List.map A3 p.2),1)]) CC λ_ _ ⟨v51_1,b15_1⟩ h=>?_;simp only[Io]at h;refine DI h (λh=>?_) λh=>?_
 ·refine Sy (f:=B5) h λx54 _ h=>?_
  conv=>whnf
  refine⟨.inr ?_⟩
  conv=>whnf
  refine Bp h λx64 hx64 h=>?_
  first|refine Hm (JK _ _ _ _ hx64) ?_|(simp only[pX];refine Hm (JK _ _ _ _ hx64) ?_)
  exact Ao
 exact Ao⟩
instance {a0 a1}:LS (λrec1 s=>NF a0 a1 rec1 s.1 s.2) 24 [3,6,7] (λs=>[(8,.d (.int .i64 s.1))]) [] (λs=>[(3,.row 26 70 (List.map A3 s.2),1)]):=⟨trivial⟩
instance interpret_Outs_w:CS prog 24 (W1 prog 24 JI):=⟨λp0 R h=>by
 refine uD func24 ?_;unfold JI at h;exact Ao⟩
instance interpret_Eval_w:CS prog 9 (∀d:Nat,W4 prog 9 (Gk d)):=⟨λd p0 p1 p2 p3 R h=>by
 refine uD func9 ?_;unfold Gk at h;exact Ao⟩
end Go.Proofs.YthchnhoalhbkcaaGreatDoor.P
