/- P3W21 -/
import Derived.Test.YthchnhoalhbkcaaGreatDoorP3W14
import Derived.Test.YthchnhoalhbkcaaGreatDoorP3W20
set_option linter.unusedSimpArgs false
set_option linter.unusedVariables false
namespace Go.Proofs.YthchnhoalhbkcaaGreatDoor.P
open Go.Abs Go.Proofs
set_option maxRecDepth 100000
set_option maxHeartbeats 4000000
instance law22_awake_w:CS Tryz.prog 8 (∀d:Nat,W0 Tryz.prog 8 (Js d)):=⟨λd R h=>by
 refine uD Tryz.func8 ?_;unfold Js at h
 conv=>whnf
 refine⟨.inr ?_⟩
 conv=>whnf
 refine⟨.inr ?_⟩;exact Ao⟩
instance law22_InterpretPieces_w:CS Tryz.prog 3 (∀(d:Nat)(p0:List Int)(R:Bool)(h:Fh d p0=some R),Ax Tryz.prog 3 [.d (An 1 (D.int .u8) p0)] (.d (.bool R))):=⟨λd p0 R h=>by
 refine uD Tryz.func3 ?_;unfold Fh at h;refine FV h (λ_=>draw_New_w.h _ _) λx18 h=>?_;refine iH h (λ_=>draw_Codes_Whole_w.h _ _ _ _) λx21 h=>?_;refine iH h (λ_=>draw_Codes_Program_w.h _ _ _ _ _) λx28 h=>?_;refine FV h (λ_=>interpret_Run_w.h _ _ _ _ _) λx33 h=>?_;refine DI h (λh=>?_) λh=>?_
 ·refine DI h (λh=>?_) λh=>?_
  ·exact Ao
  conv=>whnf
  refine z14 ?_
  conv=>whnf
  refine Te h λhr h=>?_;refine⟨by first|exact pZ hr|(simp only[pX];exact pZ hr),?_⟩
  try simp only[pX]
  rw[nK];refine FV h (λ_=>interpret_Run_w.h _ _ _ _ _) λx58 h=>?_;refine DI h (λh=>?_) λh=>?_
  ·refine FV h (λ_=>law22_awake_w.h _  _) λx76 h=>?_;exact Ao
  exact Ao
 refine DI h (λh=>?_) λh=>?_
 ·exact Ao
 conv=>whnf
 refine z7 h (λp=>CJ 147 [(5,.ptr 5 1 0),(6,.ptr 6 1 0),(7,.d (An 21 B5 x28.1)),(8,.d (An 26 A3 x33.1)),(89,.d (.int .i64 (x28.1.length:Int))),(90,.d (.int .i64 p))] [(5,E7 x21.2.1,1),(6,Bh x21.1.Ao,1)]) CC λ_ _ v90_1 h=>?_;simp only[I8]at h;refine DI h (λh=>?_) λh=>?_
 ·exact Ao
 refine FV h (λ_=>law22_awake_w.h _  _) λx146 h=>?_;exact Ao⟩
end Go.Proofs.YthchnhoalhbkcaaGreatDoor.P
