/- P3W15 -/
import Derived.Test.YtaojdkijihbaoaaGreatDoorP3W14
set_option linter.all false
namespace Go.Proofs.YtaojdkijihbaoaaGreatDoor.P
open Go.Abs Go.Proofs
set_option maxRecDepth 100000
set_option maxHeartbeats 4000000
instance interpret_Run_w:CS Tryz.prog 13 (∀d:Nat,W3 Tryz.prog 13 (Dw d)):=⟨λd e g p2 R h=>by
 refine uD Tryz.func13 ?_;unfold Dw at h;refine Fx h (λ_=>extract_Check_w.h _ _ _) λi h=>?_;refine EA h (λh=>?_) λh=>?_
 ·exact Aq
 refine Fx h (λ_=>program_Check_w.h _ _ _ _) λj h=>?_;refine EA h (λh=>?_) λh=>?_
 ·exact Aq
 refine Fx h (λ_=>types_Program_w.h _ _ _ _ _) λk h=>?_;refine EA h (λh=>?_) λh=>?_
 ·exact Aq
 conv=>whnf
 refine z7 h (λp=>Dk 84 [(2,.l 21 BG p2),(3,.ptr 3 1 0),(4,.ptr 4 1 0),(15,.sl 15 1),(49,.l 21 BG p2),(50,.i (p2.length:Int)),(51,.i p.1)] [(3,BN e,1),(4,Jk g,1),(15,.row 26 122 (List.map AC p.2),1)]) EB λ_ _ ⟨b,c⟩ h=>?_;simp only[GJ]at h;refine EA h (λh=>?_) λh=>?_
 ·refine Sk (f:=BG) h λl _ h=>?_
  conv=>whnf
  refine⟨.inr ?_⟩
  conv=>whnf
  refine BD h λm a h=>?_
  first|refine HW (Kj _ _ _ _ a) ?_|(simp only[ua];refine HW (Kj _ _ _ _ a) ?_)
  exact Aq
 exact Aq⟩
instance {a0 a1}:LS (λa s=>O1 a0 a1 a s.1 s.2) 24 [3,6,7] (λs=>[(8,.i s.1)]) [] (λs=>[(3,.row 26 122 (List.map AC s.2),1)]):=⟨trivial⟩
instance interpret_Outs_w:CS Tryz.prog 45 (W1 Tryz.prog 45 Kg):=⟨λa R h=>by
 refine uD Tryz.func45 ?_;unfold Kg at h;exact Aq⟩
