/- P3W17 -/
import Derived.Test.YthchnhoalhbkcaaGreatDoorP3W16
open Go.Proofs.Tryz
set_option linter.unusedSimpArgs false
set_option linter.unusedVariables false
namespace Go.Proofs.YthchnhoalhbkcaaGreatDoor.P
open Go.Abs Go.Proofs
set_option maxRecDepth 100000
set_option maxHeartbeats 4000000
instance ref05_Atom_w:CS prog 229 (W3 prog 229 No):=⟨λp0 p1 p2 R h=>by
 refine uD func229 ?_;unfold No at h;exact Ao⟩
instance {a0 a1 a2 a3 a4}:LS (λrec1 s=>OK a0 a1 a2 a3 a4 rec1 s) 140 [2,3,4,8] (λs=>[(9,.d (.int .i64 s))]) [3,4] (λs=>[]):=⟨trivial⟩
instance {a0 a1 a2 a3 a4 a5}:LS (λrec2 s=>OL a0 a1 a2 a3 a4 a5 rec2 s) 140 [2,3,4,8,9] (λs=>[(10,.d (.int .i64 s))]) [3,4] (λs=>[]):=⟨trivial⟩
instance ref05_decides_w:CS prog 280 (W3 prog 280 Oh):=⟨λp0 p1 p2 R h=>by
 refine uD func280 ?_;unfold Oh at h;exact Ao⟩
instance {a0 a1 a2}:LS (λrec1 s=>QG a0 a1 a2 rec1 s.1 s.2) 40 [2,6] (λs=>[(5,.d (An 2 Ag s.1)),(7,.d (.int .i64 s.2))]) [2] (λs=>[]):=⟨trivial⟩
instance {a0 a1 a2 a3}:LS (λrec2 s=>QH a0 a1 a2 a3 rec2 s) 40 [2,5,6,7] (λs=>[(8,.d (.int .i64 s))]) [2] (λs=>[]):=⟨trivial⟩
instance ref05_Needs_w:CS prog 225 (∀d:Nat,W2 prog 225 (J1 d)):=⟨λd p0 p1 R h=>by
 refine uD func225 ?_;unfold J1 at h;exact Ao⟩
instance {a0 a1 a2 a3 a4 a5}:LS (λrec1 s=>OG a0 a1 a2 a3 a4 a5 rec1 s) 121 [1,2,3,4,10] (λs=>[(11,.d (.int .i64 s))]) [4] (λs=>[]):=⟨trivial⟩
instance {a0 a1 a2 a3 a4 a5 a6}:LS (λrec2 s=>OH a0 a1 a2 a3 a4 a5 a6 rec2 s) 121 [1,2,3,4,10,11] (λs=>[(12,.d (.int .i64 s))]) [4] (λs=>[]):=⟨trivial⟩
instance {a0 a1 a2 a3}:LS (λrec3 s=>OI a0 a1 a2 a3 rec3 s.1 s.2) 121 [2,9,13] (λs=>[(14,.d (.int .i64 s.1)),(15,.d (.int .i64 s.2))]) [9] (λs=>[]):=⟨trivial⟩
instance ref02_divides_w:CS prog 281 (W4 prog 281 Lf):=⟨λp0 p1 p2 p3 R h=>by
 refine uD func281 ?_;unfold Lf at h;exact Ao⟩
instance {a0 a1 a2 a3}:LS (λrec1 s=>Nk a0 a1 a2 a3 rec1 s) 23 [1,2,3] (λs=>[(7,.d (.int .i64 s))]) [3] (λs=>[]):=⟨trivial⟩
instance ref02_Least_w:CS prog 227 (W3 prog 227 Jy):=⟨λp0 p1 p2 R h=>by
 refine uD func227 ?_;unfold Jy at h;exact Ao⟩
instance {a0 a1 a2}:LS (λrec1 s=>Uh a0 a1 a2 rec1 s) 18 [0,1] (λs=>[(5,.d (.int .i64 s))]) [] (λs=>[]):=⟨trivial⟩
instance ref01_Has_w:CS prog 282 (W2 prog 282 UJ):=⟨λp0 p1 R h=>by
 refine uD func282 ?_;unfold UJ at h;exact Ao⟩
instance ref09_Uses_w:CS prog 228 (W2 prog 228 Pw):=⟨λp0 p1 R h=>by
 refine uD func228 ?_;unfold Pw at h;exact Ao⟩
instance {a0 a1}:LS (λrec1 s=>QM a0 a1 rec1 s.1 s.2) 92 [2,3,6] (λs=>[(5,.d (An 2 Ag s.1)),(7,.d (.int .i64 s.2))]) [2,3] (λs=>[]):=⟨trivial⟩
instance {a0 a1 a2}:LS (λrec2 s=>Kb a0 a1 a2 rec2 s.1 s.2) 92 [2,3] (λs=>[(5,.d (An 2 Ag s.1)),(8,.d (.int .i64 s.2))]) [2,3] (λs=>[]):=⟨trivial⟩
instance {a0 a1 a2}:LS (λrec3 s=>Kc a0 a1 a2 rec3 s.1 s.2) 92 [2,3] (λs=>[(5,.d (An 2 Ag s.1)),(9,.d (.int .i64 s.2))]) [2,3] (λs=>[]):=⟨trivial⟩
instance ref09_Needs_w:CS prog 149 (∀d:Nat,W2 prog 149 (L6 d)):=⟨λd p0 p1 R h=>by
 refine Uv [10] func149 ?_;unfold L6 at h;refine FV h (λ_=>ref08_Question_w.h _ _ _ _) λx12 h=>?_;refine DI h (λh=>?_) λh=>?_
 ·exact Ao
 refine FV h (λ_=>ref05_Needs_w.h _ _ _ _) λx17 h=>?_;refine Fl {p:(List Ad) // Kd p1 p0 p=some R} (λp=>CJ 92 [(2,.ptr 2 1 0),(3,.ptr 3 1 0),(5,.d (An 2 Ag p.1))] [(2,Bh p0,1),(3,Ra p1,1)]) ?_ λp=>?_
 ·exact Ao
 obtain⟨j5_1,h⟩:=p;exact Ao⟩
instance ref09_Suffice_w:CS prog 79 (∀d:Nat,W3 prog 79 (Li d)):=⟨λd p0 p1 p2 R h=>by
 refine uD func79 ?_;unfold Li at h;exact Ao⟩
instance {a0 a1 a2 a3 a4}:LS (λrec1 s=>Ke a0 a1 a2 a3 a4 rec1 s) 38 [2,3,4] (λs=>[(9,.d (.int .i64 s))]) [3,4] (λs=>[]):=⟨trivial⟩
instance ref10_Check_w:CS prog 35 (∀d:Nat,W3 prog 35 (L8 d)):=⟨λd p0 p1 p2 R h=>by
 refine uD func35 ?_;unfold L8 at h;exact Ao⟩
instance ref05_join_w:CS prog 230 (W2 prog 230 SO):=⟨λp0 p1 R h=>by
 refine uD func230 ?_;unfold SO at h;exact Ao⟩
instance {a0 a1 a2 a3 a4}:LS (λrec1 s=>Sf a0 a1 a2 a3 a4 rec1 s.1 s.2) 52 [2,3,4,7] (λs=>[(8,.d (.int .i64 s.1))]) [3,4] (λs=>[(7,.row 1 3 (List.map (D.int .i64) s.2),1)]):=⟨trivial⟩
theorem XX(d:Nat)(self_ref05_eval:Aa->Aj->(List Int)->Option Int)(ih:W3 prog 150 self_ref05_eval):W3 prog 150 (Pv d self_ref05_eval):=by
 intro p0 p1 p2 R h;refine uD func150 ?_;unfold Pv at h;exact Ao
theorem Sg:∀d:Nat,(W3 prog 150 (Pu d))
 | 0=>by
  exact z17
 | d+1=>by
  have ih:=Sg d;exact XX d _ ih
instance ref05_eval_w:CS prog 150 (∀(d:Nat),W3 prog 150 (Pu d)):=⟨λd=>Sg d⟩
instance ref05_Eval_w:CS prog 80 (∀d:Nat,W3 prog 80 (Np d)):=⟨λd p0 p1 p2 R h=>by
 refine uD func80 ?_;unfold Np at h;exact Ao⟩
instance ref11_Check_w:CS prog 151 (W1 prog 151 QN):=⟨λp0 R h=>by
 refine uD func151 ?_;unfold QN at h;exact Ao⟩
instance {a0}:LS (λrec1 s=>Sk a0 rec1 s.1 s.2) 29 [] (λs=>[(5,.d (.int .u64 s.1)),(6,.d (.int .i64 s.2))]) [] (λs=>[]):=⟨trivial⟩
instance ref11_Draw_w:CS prog 152 (W2 prog 152 Px):=⟨λp0 p1 R h=>by
 refine uD func152 ?_;unfold Px at h;exact Ao⟩
instance ref11_In_w:CS prog 81 (W2 prog 81 QO):=⟨λp0 p1 R h=>by
 refine uD func81 ?_;unfold QO at h;exact Ao⟩
instance {a0 a1 a2 a3}:LS (λrec1 s=>IW a0 a1 a2 a3 rec1 s.1 s.2) 58 [2,3,5] (λs=>[(6,.d (.int .i64 s.1))]) [2,3] (λs=>[(5,.row 1 3 (List.map (D.int .i64) s.2),1)]):=⟨trivial⟩
instance ref13_Owners_w:CS prog 36 (∀d:Nat,W2 prog 36 (Kh d)):=⟨λd p0 p1 R h=>by
 refine Uv [3] func36 ?_;unfold Kh at h;refine Fl {p:Unit // LI p0 d p1=some R} (λp=>CJ 58 [(2,.ptr 2 1 0),(3,.ptr 3 1 0)] [(2,P8 p0,1),(3,NT p1,1)]) ?_ λp=>?_
 ·exact Ao
 obtain⟨_,h⟩:=p;exact Ao⟩
instance ref12_right_w:CS prog 82 (W2 prog 82 NN):=⟨λp0 p1 R h=>by
 refine uD func82 ?_;unfold NN at h;exact Ao⟩
instance {a0}:LS (λrec1 s=>Kf a0 rec1 s.1 s.2) 54 [] (λs=>[(7,.d (.int .u64 s.1)),(8,.d (.int .i64 s.2))]) [] (λs=>[]):=⟨trivial⟩
instance ref12_Round_w:CS prog 83 (W3 prog 83 L9):=⟨λp0 p1 p2 R h=>by
 refine uD func83 ?_;unfold L9 at h;exact Ao⟩
instance {a0 a1}:LS (λrec1 s=>Mq a0 a1 rec1 s.1 s.2.1 s.2.2) 31 [0] (λs=>[(5,.d (.int .i64 s.1)),(6,.d (.int .i64 s.2.1)),(7,.d (.int .i64 s.2.2))]) [] (λs=>[]):=⟨trivial⟩
instance ref12_Key_w:CS prog 38 (W2 prog 38 ON):=⟨λp0 p1 R h=>by
 refine uD func38 ?_;unfold ON at h;exact Ao⟩
end Go.Proofs.YthchnhoalhbkcaaGreatDoor.P
