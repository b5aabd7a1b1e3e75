/- P3W18 -/
import Derived.Test.YtkjijhldfdplgaaGreatDoorP3W17
open Go.Proofs.Tryz
set_option linter.all false
namespace Go.Proofs.YtkjijhldfdplgaaGreatDoor.P
open Go.Abs Go.Proofs
set_option maxRecDepth 100000
set_option maxHeartbeats 4000000
instance {a0 a1 a2 a3}:LS (λa s=>KG a0 a1 a2 a3 a s.1 s.2) 106 [2,3,4,8,11,12,13,14,15] (λs=>[(16,.i s.1)]) [4,8,11,42] (λs=>[(69,.row 1 3 (List.map D.z s.2),1)]):=⟨trivial⟩
instance ref13_Build_w:CS prog 19 (∀d:Nat,W4 prog 19 (JW d)):=⟨λd e f p2 p3 R h=>by
 refine uD func19 ?_;unfold JW at h;refine E9 h (λ_=>ref04_Valid_w.h _ _) λx18 h=>?_;refine Do h (λh=>?_) λh=>?_
 ·exact As
 refine E9 h (λ_=>ref10_Check_w.h _ _ _ _ _) λg h=>?_;refine Do h (λh=>?_) λh=>?_
 ·exact As
 refine Do h (λh=>?_) λh=>?_
 ·exact As
 conv=>whnf
 refine z13 ?_
 conv=>whnf
 refine QW h λhr h=>?_;refine z8 ?_
 conv=>whnf
 refine⟨.inr ?_⟩;refine E9 h (λ_=>ref13_Owners_w.h _ _ _ _) λb h=>?_
 conv=>whnf
 refine z7 h (λp=>CY 106 [(2,.l 2 Ad p2),(3,.i p3),(4,.ptr 4 1 0),(8,.ptr 8 1 0),(11,.ptr 11 1 0),(12,.l 1 D.z b),(13,.i p.1)] [(4,Q4 e,1),(8,.var [.t ByteArray.empty,.i 0,.n 2,.n 1],1),(11,.var [.t f.Ae,.i e.Af,.sl 42 1,.l 1 (Am 1 D.z) p.2],1),(42,.row 2 132 (List.map Ad p2),1)]) C3 λ_ _ ⟨c,a⟩ h=>?_;exact As⟩
instance {a0 a1 a2}:LS (λa s=>Tq a0 a1 a2 a s) 26 [0,1] (λs=>[(5,.i s)]) [] (λs=>[]):=⟨trivial⟩
instance ref01_Ints_w:CS prog 31 (W2 prog 31 IB):=⟨λa b R h=>by
 refine uD func31 ?_;unfold IB at h;exact As⟩
instance ref13_Narrow_w:CS prog 9 (W2 prog 9 KH):=⟨λa d R h=>by
 refine uD func9 ?_;unfold KH at h
 conv=>whnf
 refine Gl h λe f h=>?_;refine e9 [(5,3,47,31)] {p:Nat×(Int×(List (List Int))) // e p.1 p.2=some R} (λp=>CY 50 [(1,.l 1 D.z d),(2,.ptr 2 1 0),(4,.ptr 4 1 0),(5,.ptr 5 1 0),(6,.i p.1.2.1)] [(2,LW a,1),(4,.var [.t ByteArray.empty,.i 0,.n 2,.n 1],1),(5,.var [.t a.Ae,.i a.Af,.l 2 Ad a.H,.sl 47 1],1),(47,.row 1 31 (List.map (Am 1 D.z) p.1.2.2),1)]) (λp=>p.1.1) ⟨(_,(_,_)),h⟩ ?_ λp=>?_
 ·conv=>whnf
  exact s9
 obtain⟨⟨g,⟨c,b⟩⟩,h⟩:=p;obtain⟨g,rfl,h⟩:=f _ _ h;exact As⟩
instance {a0 a1 a2}:LS (λa s=>Ob a0 a1 a2 a s) 26 [0,1] (λs=>[(5,.i s)]) [] (λs=>[]):=⟨trivial⟩
instance ref02_SamePicks_w:CS prog 79 (W2 prog 79 M2):=⟨λa b R h=>by
 refine uD func79 ?_;unfold M2 at h;exact As⟩
instance ref18_SameCell_w:CS prog 80 (W2 prog 80 KN):=⟨λa b R h=>by
 refine uD func80 ?_;unfold KN at h;exact As⟩
instance {a0 a1 a2}:LS (λa s=>T7 a0 a1 a2 a s) 47 [2,3] (λs=>[(5,.i s)]) [2,3] (λs=>[]):=⟨trivial⟩
instance ref18_Same_w:CS prog 34 (W2 prog 34 Qx):=⟨λa b R h=>by
 refine uD func34 ?_;unfold Qx at h;exact As⟩
instance {a0 a1 a2}:LS (λa s=>Tz a0 a1 a2 a s) 26 [0,1] (λs=>[(5,.i s)]) [] (λs=>[]):=⟨trivial⟩
instance ref06_Same_w:CS prog 81 (W2 prog 81 Ui):=⟨λa b R h=>by
 refine uD func81 ?_;unfold Ui at h;exact As⟩
instance ref19_Same_w:CS prog 35 (W2 prog 35 Qy):=⟨λa b R h=>by
 refine uD func35 ?_;unfold Qy at h;exact As⟩
instance {a0 a1 a2}:LS (λa s=>T8 a0 a1 a2 a s) 26 [0,1] (λs=>[(5,.i s)]) [] (λs=>[]):=⟨trivial⟩
instance ref20_Same_w:CS prog 36 (W2 prog 36 Uj):=⟨λa b R h=>by
 refine uD func36 ?_;unfold Uj at h;exact As⟩
instance {a0 a1 a2}:LS (λa s=>T9 a0 a1 a2 a s) 26 [0,1] (λs=>[(5,.i s)]) [] (λs=>[]):=⟨trivial⟩
instance ref21_Same_w:CS prog 37 (W2 prog 37 Uk):=⟨λa b R h=>by
 refine uD func37 ?_;unfold Uk at h;exact As⟩
instance ref22_SameValue_w:CS prog 10 (W2 prog 10 Ib):=⟨λa b R h=>by
 refine uD func10 ?_;unfold Ib at h;exact As⟩
instance {a0 a1}:LS (λa s=>KJ a0 a1 a s) 20 [0] (λs=>[(3,.i s)]) [] (λs=>[]):=⟨trivial⟩
instance ref15_Valid_w:CS prog 11 (W1 prog 11 Mu):=⟨λa R h=>by
 refine uD func11 ?_;unfold Mu at h;exact As⟩
instance {a0 a1 a2}:LS (λa s=>Vh a0 a1 a2 a s.1 s.2.1 s.2.2) 46 [0,1,5] (λs=>[(6,.b s.1),(7,.i s.2.1)]) [] (λs=>[(5,.row 1 3 (List.map D.z s.2.2),1)]):=⟨trivial⟩
instance ref01_Put_w:CS prog 150 (W2 prog 150 VU):=⟨λa b R h=>by
 refine uD func150 ?_;unfold VU at h;exact As⟩
instance {a0 a1 a2 a3}:LS (λa s=>LU a0 a1 a2 a3 a s.1 s.2) 30 [0,1,2] (λs=>[(7,.l 1 D.z s.1),(8,.i s.2)]) [] (λs=>[]):=⟨trivial⟩
instance ref15_some_w:CS prog 82 (W3 prog 82 Qw):=⟨λa b p2 R h=>by
 refine uD func82 ?_;unfold Qw at h;exact As⟩
instance ref15_Without_w:CS prog 38 (W2 prog 38 LR):=⟨λa b R h=>by
 refine uD func38 ?_;unfold LR at h;exact As⟩
instance ref15_Within_w:CS prog 12 (W2 prog 12 KL):=⟨λa b R h=>by
 refine uD func12 ?_;unfold KL at h;exact As⟩
