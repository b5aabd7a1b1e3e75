/- P3W15 -/
import Derived.Test.YthchnhoalhbkcaaGreatDoorP3HW
open Go.Proofs.Tryz
set_option linter.unusedSimpArgs false
set_option linter.unusedVariables false
namespace Go.Proofs.YthchnhoalhbkcaaGreatDoor.P
open Go.Abs Go.Proofs
set_option maxRecDepth 100000
set_option maxHeartbeats 4000000
instance {a0 a1 a2}:LS (λrec1 s=>Mp a0 a1 a2 rec1 s.1 s.2.1 s.2.2) 56 [0,1,5] (λs=>[(6,.d (.bool s.1)),(7,.d (.int .i64 s.2.1))]) [] (λs=>[(5,.row 1 30 (List.map (An 1 (D.int .i64)) s.2.2),1)]):=⟨trivial⟩
instance ref04_Put_w:CS prog 31 (W2 prog 31 M1):=⟨λp0 p1 R h=>by
 refine uD func31 ?_;unfold M1 at h;exact Ao⟩
instance {a0 a1}:LS (λrec1 s=>QD a0 a1 rec1 s.1 s.2) 22 [2] (λs=>[(1,.d (.int .i64 s.1)),(5,.d (.int .i64 s.2))]) [2] (λs=>[]):=⟨trivial⟩
instance ref01_depth_w:CS prog 143 (W2 prog 143 E1):=⟨λp0 p1 R h=>by
 refine uD func143 ?_;unfold E1 at h;exact Ao⟩
instance {a0 a1}:LS (λrec1 s=>Sa a0 a1 rec1 s) 70 [0] (λs=>[(3,.d (.int .i64 s))]) [] (λs=>[]):=⟨trivial⟩
instance ref01_Name_w:CS prog 144 (W1 prog 144 EX):=⟨λp0 R h=>by
 refine Uv [3,8] func144 ?_;unfold EX at h;refine Fl {p:Unit // Od p0=some R} (λp=>CJ 70 [(0,.d (.str p0))] []) ?_ λp=>?_
 ·exact Ao
 obtain⟨_,h⟩:=p;simp only[Od]at h;refine Fl {p:Unit // Sb p0=some R} (λp=>CJ 70 [(0,.d (.str p0))] []) ?_ λp=>?_
 ·exact Ao
 obtain⟨_,h⟩:=p;exact Ao⟩
instance {a0 a1 a2}:LS (λrec1 s=>Sc a0 a1 a2 rec1 s) 21 [1,2] (λs=>[(5,.d (.int .i64 s))]) [2] (λs=>[]):=⟨trivial⟩
instance ref01_leaf_w:CS prog 218 (W2 prog 218 SN):=⟨λp0 p1 R h=>by
 refine uD func218 ?_;unfold SN at h;exact Ao⟩
instance {a0 a1}:LS (λrec1 s=>Q8 a0 a1 rec1 s) 100 [1] (λs=>[(3,.d (.int .i64 s))]) [1] (λs=>[]):=⟨trivial⟩
instance {a0 a1 a2}:LS (λrec2 s=>Q9 a0 a1 a2 rec2 s) 100 [1,3] (λs=>[(4,.d (.int .i64 s))]) [1] (λs=>[]):=⟨trivial⟩
instance {a0 a1}:LS (λrec3 s=>QA a0 a1 rec3 s.1 s.2) 100 [1] (λs=>[(6,.d (.int .i64 s.1)),(7,.d (.int .i64 s.2))]) [1] (λs=>[]):=⟨trivial⟩
instance ref01_Check_w:CS prog 141 (W1 prog 141 FE):=⟨λp0 R h=>by
 refine Uv [20] func141 ?_;unfold FE at h;refine FV h (λ_=>ref01_Name_w.h _ _) λx10 h=>?_;refine DI h (λh=>?_) λh=>?_
 ·exact Ao
 refine DI h (λh=>?_) λh=>?_
 ·exact Ao
 refine DI h (λh=>?_) λh=>?_
 ·exact Ao
 refine Fl {p:Unit // QB p0=some R} (λp=>CJ 100 [(1,.ptr 1 1 0)] [(1,Kx p0,1)]) ?_ λp=>?_
 ·exact Ao
 obtain⟨_,h⟩:=p;exact Ao⟩
instance ref01_Levels_w:CS prog 75 (W1 prog 75 FF):=⟨λp0 R h=>by
 refine uD func75 ?_;unfold FF at h;exact Ao⟩
instance {a0 a1 a2}:LS (λrec1 s=>VD a0 a1 a2 rec1 s.1 s.2) 27 [1,2,5] (λs=>[(6,.d (.int .i64 s.1))]) [2] (λs=>[(5,.row 1 3 (List.map (D.int .i64) s.2),1)]):=⟨trivial⟩
instance ref01_At_w:CS prog 217 (W2 prog 217 OF):=⟨λp0 p1 R h=>by
 refine uD func217 ?_;unfold OF at h;exact Ao⟩
instance ref02_Leaves_w:CS prog 140 (W2 prog 140 G9):=⟨λp0 p1 R h=>by
 refine uD func140 ?_;unfold G9 at h;exact Ao⟩
instance ref02_in_w:CS prog 84 (W3 prog 84 EY):=⟨λp0 p1 p2 R h=>by
 refine uD func84 ?_;unfold EY at h;exact Ao⟩
instance {a0 a1}:LS (λrec1 s=>OJ a0 a1 rec1 s) 79 [1] (λs=>[(3,.d (.int .i64 s))]) [1] (λs=>[]):=⟨trivial⟩
instance ref02_measure_w:CS prog 219 (W1 prog 219 ID):=⟨λp0 R h=>by
 refine Uv [3] func219 ?_;unfold ID at h;refine Fl {p:Unit // KN p0=some R} (λp=>CJ 79 [(1,.ptr 1 1 0)] [(1,P7 p0,1)]) ?_ λp=>?_
 ·exact Ao
 obtain⟨_,h⟩:=p;exact Ao⟩
instance {a0 a1 a2 a3}:LS (λrec1 s=>IU a0 a1 a2 a3 rec1 s) 98 [1,2,5] (λs=>[(6,.d (.int .i64 s))]) [2,5] (λs=>[]):=⟨trivial⟩
instance ref02_column_w:CS prog 142 (W2 prog 142 JW):=⟨λp0 p1 R h=>by
 refine Uv [9,13] func142 ?_;unfold JW at h;refine Sy (f:=Al) h λx11 _ h=>?_;refine FV h (λ_=>ref01_Name_w.h _ _) λx15 h=>?_;refine DI h (λh=>?_) λh=>?_
 ·exact Ao
 refine Fl {p:Unit // IV x11 p1 p0=some R} (λp=>CJ 98 [(1,.d (.int .i64 p1)),(2,.ptr 2 1 0),(5,.ptr 5 1 0)] [(2,Bh p0,1),(5,P7 x11,1)]) ?_ λp=>?_
 ·exact Ao
 obtain⟨_,h⟩:=p;simp only[IV]at h;refine FV h (λ_=>ref02_in_w.h _ _ _ _) λx33 h=>?_;refine DI h (λh=>?_) λh=>?_
 ·exact Ao
 refine Fl {p:Unit // GW x11=some R} (λp=>CJ 98 [(5,.ptr 5 1 0)] [(5,P7 x11,1)]) ?_ λp=>?_
 ·exact Ao
 obtain⟨_,h⟩:=p;exact Ao⟩
instance {a0 a1}:LS (λrec1 s=>JR a0 a1 rec1 s) 77 [1] (λs=>[(3,.d (.int .i64 s))]) [1] (λs=>[]):=⟨trivial⟩
instance {a0 a1 a2}:LS (λrec2 s=>JS a0 a1 a2 rec2 s) 77 [1,3] (λs=>[(5,.d (.int .i64 s))]) [1] (λs=>[]):=⟨trivial⟩
instance {a0 a1}:LS (λrec3 s=>JU a0 a1 rec3 s) 77 [1] (λs=>[(6,.d (.int .i64 s))]) [1] (λs=>[]):=⟨trivial⟩
instance ref02_Check_w:CS prog 74 (W1 prog 74 Dq):=⟨λp0 R h=>by
 refine Uv [14] func74 ?_;unfold Dq at h;refine DI h (λh=>?_) λh=>?_
 ·exact Ao
 refine Fl {p:Unit // Nj p0=some R} (λp=>CJ 77 [(1,.ptr 1 1 0)] [(1,Bh p0,1)]) ?_ λp=>?_
 ·exact Ao
 obtain⟨_,h⟩:=p;exact Ao⟩
instance ref02_Finest_w:CS prog 33 (W2 prog 33 CF):=⟨λp0 p1 R h=>by
 refine uD func33 ?_;unfold CF at h;exact Ao⟩
instance {a0 a1 a2}:LS (λrec1 s=>Oe a0 a1 a2 rec1 s) 32 [1,2] (λs=>[(5,.d (.int .i64 s))]) [2] (λs=>[]):=⟨trivial⟩
instance ref04_Find_w:CS prog 37 (W2 prog 37 Jm):=⟨λp0 p1 R h=>by
 refine uD func37 ?_;unfold Jm at h;exact Ao⟩
instance ref01_Level_w:CS prog 153 (W2 prog 153 HW):=⟨λp0 p1 R h=>by
 refine uD func153 ?_;unfold HW at h;exact Ao⟩
instance ref02_Holds_w:CS prog 85 (W3 prog 85 Jw):=⟨λp0 p1 p2 R h=>by
 refine uD func85 ?_;unfold Jw at h;exact Ao⟩
instance {a0 a1 a2}:LS (λrec1 s=>Mo a0 a1 a2 rec1 s) 32 [1,2] (λs=>[(6,.d (.int .i64 s))]) [2] (λs=>[]):=⟨trivial⟩
instance ref02_Row_w:CS prog 76 (W2 prog 76 KL):=⟨λp0 p1 R h=>by
 refine uD func76 ?_;unfold KL at h;exact Ao⟩
instance {a0 a1}:LS (λrec1 s=>JX a0 a1 rec1 s) 118 [1] (λs=>[(3,.d (.int .i64 s))]) [1] (λs=>[]):=⟨trivial⟩
instance {a0 a1}:LS (λrec2 s=>Nm a0 a1 rec2 s) 118 [1] (λs=>[(4,.d (.int .i64 s))]) [1] (λs=>[]):=⟨trivial⟩
instance ref04_Valid_w:CS prog 34 (W1 prog 34 J0):=⟨λp0 R h=>by
 refine Uv [8] func34 ?_;unfold J0 at h;refine FV h (λ_=>ref02_Check_w.h _ _) λx7 h=>?_;refine DI h (λh=>?_) λh=>?_
 ·exact Ao
 refine Fl {p:Unit // Nn p0=some R} (λp=>CJ 118 [(1,.ptr 1 1 0)] [(1,P8 p0,1)]) ?_ λp=>?_
 ·exact Ao
 obtain⟨_,h⟩:=p;exact Ao⟩
instance {a0 a1 a2 a3}:LS (λrec1 s=>JY a0 a1 a2 a3 rec1 s.1 s.2) 31 [1,2] (λs=>[(5,.d (.int .i64 s.1)),(6,.d (.int .i64 s.2))]) [2] (λs=>[]):=⟨trivial⟩
theorem Xv(d:Nat)(self_ref05_count:Aj->Int->Option Int)(ih:W2 prog 220 self_ref05_count):W2 prog 220 (IE d self_ref05_count):=by
 intro p0 p1 R h;refine uD func220 ?_;unfold IE at h;exact Ao
theorem QJ:∀d:Nat,(W2 prog 220 (J3 d))
 | 0=>by
  exact z17
 | d+1=>by
  have ih:=QJ d;exact Xv d _ ih
instance ref05_count_w:CS prog 220 (∀(d:Nat),W2 prog 220 (J3 d)):=⟨λd=>QJ d⟩
instance {a0 a1 a2}:LS (λrec1 s=>QK a0 a1 a2 rec1 s.1 s.2) 22 [1] (λs=>[(3,.d (.int .i64 s.1)),(4,.d (.int .i64 s.2))]) [1] (λs=>[]):=⟨trivial⟩
theorem Xw(d:Nat)(self_ref05_depth:Aj->Option Int)(ih:W1 prog 221 self_ref05_depth):W1 prog 221 (Lg d self_ref05_depth):=by
 intro p0 R h;refine uD func221 ?_;unfold Lg at h;exact Ao
theorem QL:∀d:Nat,(W1 prog 221 (Ia d))
 | 0=>by
  exact z17
 | d+1=>by
  have ih:=QL d;exact Xw d _ ih
instance ref05_depth_w:CS prog 221 (∀(d:Nat),W1 prog 221 (Ia d)):=⟨λd=>QL d⟩
instance ref05_is_w:CS prog 274 (W3 prog 274 Nq):=⟨λp0 p1 p2 R h=>by
 refine uD func274 ?_;unfold Nq at h;exact Ao⟩
end Go.Proofs.YthchnhoalhbkcaaGreatDoor.P
