/- P3W22 -/
import Derived.Test.YtaojdkijihbaoaaGreatDoorP3W15
import Derived.Test.YtaojdkijihbaoaaGreatDoorP3W19
import Derived.Test.YtaojdkijihbaoaaGreatDoorP3W21
set_option linter.all false
namespace Go.Proofs.YtaojdkijihbaoaaGreatDoor.P
open Go.Abs Go.Proofs
set_option maxRecDepth 100000
set_option maxHeartbeats 4000000
instance law22_awake_w:CS Tryz.prog 15 (∀d:Nat,W0 Tryz.prog 15 (O4 d)):=⟨λd R h=>by
 refine uD Tryz.func15 ?_;unfold O4 at h
 conv=>whnf
 refine⟨.inr ?_⟩
 conv=>whnf
 refine⟨.inr ?_⟩;exact Aq⟩
instance law22_InterpretLeast_w:CS Tryz.prog 3 (∀(d:Nat)(e:List Int)(R:Bool)(h:Gk d e=some R),Ax Tryz.prog 3 [.l 1 (D.int .u8) e] (.b R)):=⟨λd e R h=>by
 refine WA [13] Tryz.func3 ?_;unfold Gk at h;refine Fx h (λ_=>draw_New_w.h _ _) λj h=>?_;refine b7 h (λ_=>draw_Codes_Source_w.h _ _ _) λa h=>?_;refine b7 h (λ_=>draw_Codes_Declaration_w.h _ _ _ _) λk h=>?_;refine Fx h (λ_=>ref10_Plan_w.h _ _ _ _) λl h=>?_;refine Fx h (λ_=>draw_All_w.h _ _) λm h=>?_;refine b7 h (λ_=>draw_Codes_Secret_w.h _ _) λn h=>?_;refine Fx h (λ_=>ref13_Build_w.h _ _ _ _ _ _) λb h=>?_;refine Fx h (λ_=>ref13_Build_w.h _ _ _ _ _ _) λx59 h=>?_;refine Fx h (λ_=>interpret_Questions_w.h _ _ _ _) λc h=>?_;refine Gj {p:Unit // EG d a b c x59=some R} (λp=>Dk 121 [(5,.ptr 5 1 0),(12,.ptr 12 1 0),(14,.ptr 14 1 0),(16,.l 21 BG c.1)] [(5,BN a.1.Aw,1),(12,Jk b.1,1),(14,Jk x59.1,1)]) ?_ λp=>?_
 ·exact Aq
 obtain⟨_,h⟩:=p;simp only[EG]at h;refine Fx h (λ_=>interpret_Run_w.h _ _ _ _ _) λo h=>?_;refine Fx h (λ_=>interpret_Run_w.h _ _ _ _ _) λf h=>?_;refine EA h (λh=>?_) λh=>?_
 ·refine Fx h (λ_=>ref22_Same_w.h _ _ _) λg h=>?_;refine EA h (λh=>?_) λh=>?_
  ·refine Fx h (λ_=>law22_awake_w.h _  _) λi h=>?_;exact Aq
  exact Aq
 exact Aq⟩
