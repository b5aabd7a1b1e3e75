/- P3W17 -/
import Derived.Test.YtkjijhldfdplgaaGreatDoorP3W16
open Go.Proofs.Tryz
set_option linter.all false
namespace Go.Proofs.YtkjijhldfdplgaaGreatDoor.P
open Go.Abs Go.Proofs
set_option maxRecDepth 100000
set_option maxHeartbeats 4000000
instance {a0 a1 a2}:LS (λa s=>K8 a0 a1 a2 a s.1 s.2) 40 [2,6] (λs=>[(5,.l 2 Ad s.1),(7,.i s.2)]) [2] (λs=>[]):=⟨trivial⟩
instance {a0 a1 a2 a3}:LS (λa s=>RG a0 a1 a2 a3 a s) 40 [2,5,6,7] (λs=>[(8,.i s)]) [2] (λs=>[]):=⟨trivial⟩
instance ref05_Needs_w:CS prog 91 (∀d:Nat,W2 prog 91 (Ha d)):=⟨λd a b R h=>by
 refine uD func91 ?_;unfold Ha at h;exact As⟩
instance {a0 a1 a2 a3 a4 a5}:LS (λa s=>PI a0 a1 a2 a3 a4 a5 a s) 121 [1,2,3,4,10] (λs=>[(11,.i s)]) [4] (λs=>[]):=⟨trivial⟩
instance {a0 a1 a2 a3 a4 a5 a6}:LS (λa s=>PK a0 a1 a2 a3 a4 a5 a6 a s) 121 [1,2,3,4,10,11] (λs=>[(12,.i s)]) [4] (λs=>[]):=⟨trivial⟩
instance {a0 a1 a2 a3}:LS (λa s=>PL a0 a1 a2 a3 a s.1 s.2) 121 [2,9,13] (λs=>[(14,.i s.1),(15,.i s.2)]) [9] (λs=>[]):=⟨trivial⟩
instance ref02_divides_w:CS prog 162 (W4 prog 162 Ij):=⟨λa b p2 p3 R h=>by
 refine uD func162 ?_;unfold Ij at h;exact As⟩
instance {a0 a1 a2 a3}:LS (λa s=>Oa a0 a1 a2 a3 a s) 23 [1,2,3] (λs=>[(7,.i s)]) [3] (λs=>[]):=⟨trivial⟩
instance ref02_Least_w:CS prog 92 (W3 prog 92 GZ):=⟨λa b p2 R h=>by
 refine uD func92 ?_;unfold GZ at h;exact As⟩
instance ref09_Uses_w:CS prog 93 (W2 prog 93 Om):=⟨λa b R h=>by
 refine uD func93 ?_;unfold Om at h;exact As⟩
instance {a0 a1}:LS (λa s=>Ol a0 a1 a s.1 s.2) 92 [2,3,6] (λs=>[(5,.l 2 Ad s.1),(7,.i s.2)]) [2,3] (λs=>[]):=⟨trivial⟩
instance {a0 a1 a2}:LS (λa s=>GR a0 a1 a2 a s.1 s.2) 92 [2,3] (λs=>[(5,.l 2 Ad s.1),(8,.i s.2)]) [2,3] (λs=>[]):=⟨trivial⟩
instance {a0 a1 a2}:LS (λa s=>GT a0 a1 a2 a s.1 s.2) 92 [2,3] (λs=>[(5,.l 2 Ad s.1),(9,.i s.2)]) [2,3] (λs=>[]):=⟨trivial⟩
instance ref09_Needs_w:CS prog 46 (∀d:Nat,W2 prog 46 (Hb d)):=⟨λd a b R h=>by
 refine Xr [10] func46 ?_;unfold Hb at h;refine E9 h (λ_=>ref08_Question_w.h _ _ _ _) λe h=>?_;refine Do h (λh=>?_) λh=>?_
 ·exact As
 refine E9 h (λ_=>ref05_Needs_w.h _ _ _ _) λf h=>?_;refine F3 {p:(List Ac) // IJ b a p=some R} (λp=>CY 92 [(2,.ptr 2 1 0),(3,.ptr 3 1 0),(5,.l 2 Ad p.1)] [(2,Cg a,1),(3,Sr b,1)]) ?_ λp=>?_
 ·exact As
 obtain⟨c,h⟩:=p;exact As⟩
instance {a0 a1 a2 a3}:LS (λa s=>LO a0 a1 a2 a3 a s.1 s.2) 50 [2,3] (λs=>[(7,.l 2 Ad s.1),(8,.i s.2)]) [2,3] (λs=>[]):=⟨trivial⟩
instance {a0 a1}:LS (λa s=>LQ a0 a1 a s.1 s.2) 50 [2,3,8,9] (λs=>[(7,.l 2 Ad s.1),(10,.i s.2)]) [2,3] (λs=>[]):=⟨trivial⟩
instance ref10_Plan_w:CS prog 16 (∀d:Nat,W2 prog 16 (On d)):=⟨λd a b R h=>by
 refine uD func16 ?_;unfold On at h;exact As⟩
instance {a0 a1 a2}:LS (λa s=>Pe a0 a1 a2 a s) 32 [1,2] (λs=>[(5,.i s)]) [2] (λs=>[]):=⟨trivial⟩
instance ref04_Find_w:CS prog 52 (W2 prog 52 JH):=⟨λa b R h=>by
 refine uD func52 ?_;unfold JH at h;exact As⟩
instance {a0 a1 a2}:LS (λa s=>Nb a0 a1 a2 a s) 32 [1,2] (λs=>[(6,.i s)]) [2] (λs=>[]):=⟨trivial⟩
instance ref02_Row_w:CS prog 95 (W2 prog 95 No):=⟨λa b R h=>by
 refine uD func95 ?_;unfold No at h;exact As⟩
instance {a0 a1}:LS (λa s=>K6 a0 a1 a s) 118 [1] (λs=>[(3,.i s)]) [1] (λs=>[]):=⟨trivial⟩
instance {a0 a1}:LS (λa s=>Oc a0 a1 a s) 118 [1] (λs=>[(4,.i s)]) [1] (λs=>[]):=⟨trivial⟩
instance ref04_Valid_w:CS prog 49 (W1 prog 49 JU):=⟨λa R h=>by
 refine Xr [8] func49 ?_;unfold JU at h;refine E9 h (λ_=>ref02_Check_w.h _ _) λb h=>?_;refine Do h (λh=>?_) λh=>?_
 ·exact As
 refine F3 {p:Unit // Od a=some R} (λp=>CY 118 [(1,.ptr 1 1 0)] [(1,Q4 a,1)]) ?_ λp=>?_
 ·exact As
 obtain⟨_,h⟩:=p;exact As⟩
instance {a0 a1 a2}:LS (λa s=>K4 a0 a1 a2 a s) 44 [1,2] (λs=>[(6,.i s)]) [2] (λs=>[]):=⟨trivial⟩
instance ref02_Picks_w:CS prog 96 (W2 prog 96 JS):=⟨λa b R h=>by
 refine uD func96 ?_;unfold JS at h;exact As⟩
instance {a0 a1 a2}:LS (λa s=>QN a0 a1 a2 a s) 49 [0,1] (λs=>[(5,.i s)]) [] (λs=>[]):=⟨trivial⟩
instance {a0 a1 a2 a3}:LS (λa s=>J4 a0 a1 a2 a3 a s.1 s.2) 49 [0,1,5] (λs=>[(6,.b s.1),(7,.i s.2)]) [] (λs=>[]):=⟨trivial⟩
instance ref05_Covers_w:CS prog 165 (W2 prog 165 K7):=⟨λa b R h=>by
 refine uD func165 ?_;unfold K7 at h;exact As⟩
instance ref09_Suffice_w:CS prog 97 (∀d:Nat,W3 prog 97 (LN d)):=⟨λd a b p2 R h=>by
 refine uD func97 ?_;unfold LN at h;exact As⟩
instance {a0 a1 a2 a3 a4}:LS (λa s=>Sa a0 a1 a2 a3 a4 a s) 38 [2,3,4] (λs=>[(9,.i s)]) [3,4] (λs=>[]):=⟨trivial⟩
instance ref10_Check_w:CS prog 50 (∀d:Nat,W3 prog 50 (Mq d)):=⟨λd a b p2 R h=>by
 refine uD func50 ?_;unfold Mq at h;exact As⟩
instance ref05_join_w:CS prog 246 (W2 prog 246 Oi):=⟨λa b R h=>by
 refine uD func246 ?_;unfold Oi at h;exact As⟩
instance {a0 a1 a2 a3 a4}:LS (λa s=>Tw a0 a1 a2 a3 a4 a s.1 s.2) 52 [2,3,4,7] (λs=>[(8,.i s.1)]) [3,4] (λs=>[(7,.row 1 3 (List.map D.z s.2),1)]):=⟨trivial⟩
theorem Zo(d:Nat)(a:Aa->Ah->(List Int)->Option Int)(ih:W3 prog 166 a):W3 prog 166 (KC d a):=by
 intro b c p2 R h;refine uD func166 ?_;unfold KC at h;exact As
theorem Tx:∀d:Nat,(W3 prog 166 (L3 d))
 | 0=>by
  exact z16
 | d+1=>by
  have ih:=Tx d;exact Zo d _ ih
instance ref05_eval_w:CS prog 166 (∀(d:Nat),W3 prog 166 (L3 d)):=⟨λd=>Tx d⟩
instance ref05_Eval_w:CS prog 98 (∀d:Nat,W3 prog 98 (Oe d)):=⟨λd a b p2 R h=>by
 refine uD func98 ?_;unfold Oe at h;exact As⟩
instance ref11_Check_w:CS prog 167 (W1 prog 167 Mr):=⟨λa R h=>by
 refine uD func167 ?_;unfold Mr at h;exact As⟩
instance {a0}:LS (λa s=>T4 a0 a s.1 s.2) 29 [] (λs=>[(5,.d (.int .u64 s.1)),(6,.i s.2)]) [] (λs=>[]):=⟨trivial⟩
instance ref11_Draw_w:CS prog 168 (W2 prog 168 Qv):=⟨λa b R h=>by
 refine uD func168 ?_;unfold Qv at h;exact As⟩
instance ref11_In_w:CS prog 99 (W2 prog 99 Sb):=⟨λa b R h=>by
 refine uD func99 ?_;unfold Sb at h;exact As⟩
instance {a0 a1 a2 a3}:LS (λa s=>QO a0 a1 a2 a3 a s.1 s.2) 58 [2,3,5] (λs=>[(6,.i s.1)]) [2,3] (λs=>[(5,.row 1 3 (List.map D.z s.2),1)]):=⟨trivial⟩
instance ref13_Owners_w:CS prog 51 (∀d:Nat,W2 prog 51 (KI d)):=⟨λd a b R h=>by
 refine Xr [3] func51 ?_;unfold KI at h;refine F3 {p:Unit // M3 a d b=some R} (λp=>CY 58 [(2,.ptr 2 1 0),(3,.ptr 3 1 0)] [(2,Q4 a,1),(3,OP b,1)]) ?_ λp=>?_
 ·exact As
 obtain⟨_,h⟩:=p;exact As⟩
instance ref12_right_w:CS prog 100 (W2 prog 100 OH):=⟨λa b R h=>by
 refine uD func100 ?_;unfold OH at h;exact As⟩
instance {a0}:LS (λa s=>KF a0 a s.1 s.2) 54 [] (λs=>[(7,.d (.int .u64 s.1)),(8,.i s.2)]) [] (λs=>[]):=⟨trivial⟩
instance ref12_Round_w:CS prog 101 (W3 prog 101 Mt):=⟨λa b p2 R h=>by
 refine uD func101 ?_;unfold Mt at h;exact As⟩
instance {a0 a1}:LS (λa s=>Nf a0 a1 a s.1 s.2.1 s.2.2) 31 [0] (λs=>[(5,.i s.1),(6,.i s.2.1),(7,.i s.2.2)]) [] (λs=>[]):=⟨trivial⟩
instance ref12_Key_w:CS prog 53 (W2 prog 53 PQ):=⟨λa b R h=>by
 refine uD func53 ?_;unfold PQ at h;exact As⟩
