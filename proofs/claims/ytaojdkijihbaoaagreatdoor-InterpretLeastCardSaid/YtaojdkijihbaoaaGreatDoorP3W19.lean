/- P3W19 -/
import Derived.Test.YtaojdkijihbaoaaGreatDoorP3W18
open Go.Proofs.Tryz
set_option linter.all false
namespace Go.Proofs.YtaojdkijihbaoaaGreatDoor.P
open Go.Abs Go.Proofs
set_option maxRecDepth 100000
set_option maxHeartbeats 4000000
instance {a0 a1 a2 a3}:LS (λa s=>KF a0 a1 a2 a3 a s.1 s.2) 106 [2,3,4,8,11,12,13,14,15] (λs=>[(16,.i s.1)]) [4,8,11,42] (λs=>[(69,.row 1 3 (List.map D.z s.2),1)]):=⟨trivial⟩
instance ref13_Build_w:CS prog 10 (∀d:Nat,W4 prog 10 (JP d)):=⟨λd e f p2 p3 R h=>by
 refine uD func10 ?_;unfold JP at h;refine Fx h (λ_=>ref04_Valid_w.h _ _) λx18 h=>?_;refine EA h (λh=>?_) λh=>?_
 ·exact Aq
 refine Fx h (λ_=>ref10_Check_w.h _ _ _ _ _) λg h=>?_;refine EA h (λh=>?_) λh=>?_
 ·exact Aq
 refine EA h (λh=>?_) λh=>?_
 ·exact Aq
 conv=>whnf
 refine z13 ?_
 conv=>whnf
 refine S3 h λhr h=>?_;refine z8 ?_
 conv=>whnf
 refine⟨.inr ?_⟩;refine Fx h (λ_=>ref13_Owners_w.h _ _ _ _) λb h=>?_
 conv=>whnf
 refine z7 h (λp=>Dk 106 [(2,.l 2 Ah p2),(3,.i p3),(4,.ptr 4 1 0),(8,.ptr 8 1 0),(11,.ptr 11 1 0),(12,.l 1 D.z b),(13,.i p.1)] [(4,Qf e,1),(8,.var [.t ByteArray.empty,.i 0,.n 2,.n 1],1),(11,.var [.t f.Ae,.i e.Ag,.sl 42 1,.l 1 (Ao 1 D.z) p.2],1),(42,.row 2 81 (List.map Ah p2),1)]) EB λ_ _ ⟨c,a⟩ h=>?_;exact Aq⟩
instance {a0 a1 a2}:LS (λa s=>NL a0 a1 a2 a s) 26 [0,1] (λs=>[(5,.i s)]) [] (λs=>[]):=⟨trivial⟩
instance ref02_SamePicks_w:CS prog 12 (W2 prog 12 FN):=⟨λa b R h=>by
 refine uD func12 ?_;unfold FN at h;exact Aq⟩
instance {a0 a1 a2}:LS (λa s=>SB a0 a1 a2 a s) 26 [0,1] (λs=>[(5,.i s)]) [] (λs=>[]):=⟨trivial⟩
instance ref01_Ints_w:CS prog 44 (W2 prog 44 Ix):=⟨λa b R h=>by
 refine uD func44 ?_;unfold Ix at h;exact Aq⟩
instance ref18_SameCell_w:CS prog 166 (W2 prog 166 KH):=⟨λa b R h=>by
 refine uD func166 ?_;unfold KH at h;exact Aq⟩
instance {a0 a1 a2}:LS (λa s=>SQ a0 a1 a2 a s) 47 [2,3] (λs=>[(5,.i s)]) [2,3] (λs=>[]):=⟨trivial⟩
instance ref18_Same_w:CS prog 94 (W2 prog 94 PY):=⟨λa b R h=>by
 refine uD func94 ?_;unfold PY at h;exact Aq⟩
instance {a0 a1 a2}:LS (λa s=>SL a0 a1 a2 a s) 26 [0,1] (λs=>[(5,.i s)]) [] (λs=>[]):=⟨trivial⟩
instance ref06_Same_w:CS prog 167 (W2 prog 167 T9):=⟨λa b R h=>by
 refine uD func167 ?_;unfold T9 at h;exact Aq⟩
instance ref19_Same_w:CS prog 95 (W2 prog 95 PZ):=⟨λa b R h=>by
 refine uD func95 ?_;unfold PZ at h;exact Aq⟩
instance {a0 a1 a2}:LS (λa s=>SR a0 a1 a2 a s) 26 [0,1] (λs=>[(5,.i s)]) [] (λs=>[]):=⟨trivial⟩
instance ref20_Same_w:CS prog 96 (W2 prog 96 TA):=⟨λa b R h=>by
 refine uD func96 ?_;unfold TA at h;exact Aq⟩
instance {a0 a1 a2}:LS (λa s=>SS a0 a1 a2 a s) 26 [0,1] (λs=>[(5,.i s)]) [] (λs=>[]):=⟨trivial⟩
instance ref21_Same_w:CS prog 97 (W2 prog 97 TB):=⟨λa b R h=>by
 refine uD func97 ?_;unfold TB at h;exact Aq⟩
instance ref22_SameValue_w:CS prog 43 (W2 prog 43 Hz):=⟨λa b R h=>by
 refine uD func43 ?_;unfold Hz at h;exact Aq⟩
instance {a0 a1 a2}:LS (λa s=>SU a0 a1 a2 a s) 55 [0,1] (λs=>[(5,.i s)]) [] (λs=>[]):=⟨trivial⟩
instance ref22_Same_w:CS prog 14 (W2 prog 14 Ob):=⟨λa b R h=>by
 refine uD func14 ?_;unfold Ob at h;exact Aq⟩
