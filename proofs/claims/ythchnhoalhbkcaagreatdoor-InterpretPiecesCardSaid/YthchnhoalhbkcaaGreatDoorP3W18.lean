/- P3W18 -/
import Derived.Test.YthchnhoalhbkcaaGreatDoorP3W17
open Go.Proofs.Tryz
set_option linter.unusedSimpArgs false
set_option linter.unusedVariables false
namespace Go.Proofs.YthchnhoalhbkcaaGreatDoor.P
open Go.Abs Go.Proofs
set_option maxRecDepth 100000
set_option maxHeartbeats 4000000
instance {a0 a1 a2 a3}:LS (λrec2 s=>Kg a0 a1 a2 a3 rec2 s.1 s.2) 106 [2,3,4,8,11,12,13,14,15] (λs=>[(16,.d (.int .i64 s.1))]) [4,8,11,42] (λs=>[(69,.row 1 3 (List.map (D.int .i64) s.2),1)]):=⟨trivial⟩
instance ref13_Build_w:CS prog 13 (∀d:Nat,W4 prog 13 (LA d)):=⟨λd p0 p1 p2 p3 R h=>by
 refine uD func13 ?_;unfold LA at h;refine FV h (λ_=>ref04_Valid_w.h _ _) λx18 h=>?_;refine DI h (λh=>?_) λh=>?_
 ·exact Ao
 refine FV h (λ_=>ref10_Check_w.h _ _ _ _ _) λx25 h=>?_;refine DI h (λh=>?_) λh=>?_
 ·exact Ao
 refine DI h (λh=>?_) λh=>?_
 ·exact Ao
 conv=>whnf
 refine z14 ?_
 conv=>whnf
 refine Te h λhr h=>?_;refine z8 ?_
 conv=>whnf
 refine⟨.inr ?_⟩;refine FV h (λ_=>ref13_Owners_w.h _ _ _ _) λx46 h=>?_
 conv=>whnf
 refine z7 h (λp=>CJ 106 [(2,.d (An 2 Ag p2)),(3,.d (.int .i64 p3)),(4,.ptr 4 1 0),(8,.ptr 8 1 0),(11,.ptr 11 1 0),(12,.d (An 1 (D.int .i64) x46)),(13,.d (.int .i64 p.1))] [(4,P8 p0,1),(8,.var [.d (.str ByteArray.empty),.d (.int .i64 0),.d (.nil 2),.d (.nil 1)],1),(11,.var [.d (.str p1.Af),.d (.int .i64 p0.Ag),.sl 42 1,.d (An 1 (An 1 (D.int .i64)) p.2)],1),(42,.row 2 115 (List.map Ag p2),1)]) CC λ_ _ ⟨v13_1,c11_3_1⟩ h=>?_;exact Ao⟩
instance {a0 a1 a2}:LS (λrec1 s=>RZ a0 a1 a2 rec1 s) 26 [0,1] (λs=>[(5,.d (.int .i64 s))]) [] (λs=>[]):=⟨trivial⟩
instance ref01_Ints_w:CS prog 23 (W2 prog 23 HQ):=⟨λp0 p1 R h=>by
 refine uD func23 ?_;unfold HQ at h;exact Ao⟩
instance {a0 a1 a2}:LS (λrec1 s=>Nl a0 a1 a2 rec1 s) 26 [0,1] (λs=>[(5,.d (.int .i64 s))]) [] (λs=>[]):=⟨trivial⟩
instance ref02_SamePicks_w:CS prog 67 (W2 prog 67 LH):=⟨λp0 p1 R h=>by
 refine uD func67 ?_;unfold LH at h;exact Ao⟩
instance ref18_SameCell_w:CS prog 68 (W2 prog 68 Ki):=⟨λp0 p1 R h=>by
 refine uD func68 ?_;unfold Ki at h;exact Ao⟩
instance {a0 a1 a2}:LS (λrec1 s=>Sm a0 a1 a2 rec1 s) 47 [2,3] (λs=>[(5,.d (.int .i64 s))]) [2,3] (λs=>[]):=⟨trivial⟩
instance ref18_Same_w:CS prog 26 (W2 prog 26 Py):=⟨λp0 p1 R h=>by
 refine uD func26 ?_;unfold Py at h;exact Ao⟩
instance {a0 a1 a2}:LS (λrec1 s=>Sj a0 a1 a2 rec1 s) 26 [0,1] (λs=>[(5,.d (.int .i64 s))]) [] (λs=>[]):=⟨trivial⟩
instance ref06_Same_w:CS prog 69 (W2 prog 69 SP):=⟨λp0 p1 R h=>by
 refine uD func69 ?_;unfold SP at h;exact Ao⟩
instance ref19_Same_w:CS prog 27 (W2 prog 27 Pz):=⟨λp0 p1 R h=>by
 refine uD func27 ?_;unfold Pz at h;exact Ao⟩
instance {a0 a1 a2}:LS (λrec1 s=>Sn a0 a1 a2 rec1 s) 26 [0,1] (λs=>[(5,.d (.int .i64 s))]) [] (λs=>[]):=⟨trivial⟩
instance ref20_Same_w:CS prog 28 (W2 prog 28 SR):=⟨λp0 p1 R h=>by
 refine uD func28 ?_;unfold SR at h;exact Ao⟩
instance {a0 a1 a2}:LS (λrec1 s=>So a0 a1 a2 rec1 s) 26 [0,1] (λs=>[(5,.d (.int .i64 s))]) [] (λs=>[]):=⟨trivial⟩
instance ref21_Same_w:CS prog 29 (W2 prog 29 SS):=⟨λp0 p1 R h=>by
 refine uD func29 ?_;unfold SS at h;exact Ao⟩
instance ref22_SameValue_w:CS prog 10 (W2 prog 10 GY):=⟨λp0 p1 R h=>by
 refine uD func10 ?_;unfold GY at h;exact Ao⟩
end Go.Proofs.YthchnhoalhbkcaaGreatDoor.P
