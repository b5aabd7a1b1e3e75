/- P3W16 -/
import Derived.Test.YthchnhoalhbkcaaGreatDoorP3W15
open Go.Proofs.Tryz
set_option linter.unusedSimpArgs false
set_option linter.unusedVariables false
namespace Go.Proofs.YthchnhoalhbkcaaGreatDoor.P
open Go.Abs Go.Proofs
set_option maxRecDepth 100000
set_option maxHeartbeats 40000000
theorem XY(d:Nat)(self_ref05_node:Aa->Aj->Option Int)(ih:W2 prog 222 self_ref05_node):W2 prog 222 (JZ d self_ref05_node):=by
 intro p0 p1 R h;refine Ux [16,20,22] func222 (by kernel_rfl) ?_;unfold JZ at h
 conv=>whnf
 refine z14 ?_;refine Fl {p:(Int×Int×Int×Int×Int) // BE p1 p0 self_ref05_node p.1 p.2.1 p.2.2.1 p.2.2.2.1 p.2.2.2.2=some R} (λp=>CJ 185 [(2,.ptr 2 1 0),(3,.ptr 3 1 0),(5,.d (.int .i64 p.1.1)),(6,.ptr 6 1 0)] [(2,.var [.d (An 2 Ah p0.J),.d (An 7 Al p0.A)],1),(3,.var [.d (.int .i64 p1.Op),.d (.int .i64 p1.B),.d (.int .i64 p1.Z),.d (.int .i64 p1.C),.d (.int .i64 p1.D),.d (An 6 A4 p1.E)],1),(6,.var [.d (.int .i64 p1.Op),.d (.int .i64 p.1.2.1),.d (.int .i64 p.1.2.2.1),.d (.int .i64 p.1.2.2.2.1),.d (.int .i64 p.1.2.2.2.2),.d (.nil 6)],1)]) ?_ λp=>?_
 ·refine DI h (λh=>?_) λh=>?_
  ·exact z25
  refine DI h (λh=>?_) λh=>?_
  ·conv=>whnf
   refine z14 ?_;exact z25
  refine DI h (λh=>?_) λh=>?_
  ·conv=>whnf
   refine z14 ?_;exact z25
  refine DI h (λh=>?_) λh=>?_
  ·exact z25
  conv=>whnf
  refine lC h FK (λe40 h=>?_) (λe40 h=>?_)
  ·conv=>whnf
   refine lL FK e40 ?_;exact z25
  refine DI h (λh=>?_) λh=>?_
  ·exact z25
  refine fY h λh=>?_;exact z25
 obtain⟨⟨j5_1,k6_1_1,k6_2_1,k6_3_1,k6_4_1⟩,h⟩:=p;simp only[BE]at h;refine I1 h λh=>?_;refine Fl {p:Unit // Ch p1 p0 self_ref05_node=some R} (λp=>CJ 185 [(2,.ptr 2 1 0),(3,.ptr 3 1 0)] [(2,.var [.d (An 2 Ah p0.J),.d (An 7 Al p0.A)],1),(3,.var [.d (.int .i64 p1.Op),.d (.int .i64 p1.B),.d (.int .i64 p1.Z),.d (.int .i64 p1.C),.d (.int .i64 p1.D),.d (An 6 A4 p1.E)],1)]) ?_ λp=>?_
 ·conv=>whnf
  refine lC h FK (λe29 h=>?_) (λe29 h=>?_)
  ·refine FV h (λ_=>ref05_is_w.h _ _ _ _) λx85 h=>?_;refine I1 h λh=>?_;refine oH FK (pm e29) ?_;refine oH FK (pm e29) ?_;exact⟨⟨(),h⟩,Bw⟩
  refine lC h FK (λe31 h=>?_) (λe31 h=>?_)
  ·refine FV h (λ_=>ref05_is_w.h _ _ _ _) λx96 h=>?_;refine I1 h λh=>?_;refine oH FK (pm e31) ?_;exact⟨⟨(),h⟩,Bw⟩
  refine DI h (λh=>?_) λh=>?_
  ·refine FV h (λ_=>ref05_is_w.h _ _ _ _) λx108 h=>?_;refine I1 h λh=>?_;refine Sy (f:=Al) h λx115 _ h=>?_;refine I1 h λh=>?_
   conv=>whnf
   exact⟨⟨(),h⟩,Bw⟩
  exact⟨⟨(),h⟩,Bw⟩
 obtain⟨_,h⟩:=p;simp only[Ch]at h;refine Fl {p:Unit // C8 p1 self_ref05_node p0=some R} (λp=>CJ 185 [(2,.ptr 2 1 0),(3,.ptr 3 1 0)] [(2,.var [.d (An 2 Ah p0.J),.d (An 7 Al p0.A)],1),(3,.var [.d (.int .i64 p1.Op),.d (.int .i64 p1.B),.d (.int .i64 p1.Z),.d (.int .i64 p1.C),.d (.int .i64 p1.D),.d (An 6 A4 p1.E)],1)]) ?_ λp=>?_
 ·conv=>whnf
  refine z14 ?_;refine DI h (λh=>?_) λh=>?_
  ·refine I1 h λh=>?_;refine Sy (f:=Al) h λx138 _ h=>?_;refine Sy (f:=Ah) h λx141 _ h=>?_;refine I1 h λh=>?_
   conv=>whnf
   exact⟨⟨(),h⟩,Bw⟩
  exact⟨⟨(),h⟩,Bw⟩
 obtain⟨_,h⟩:=p;simp only[C8]at h;refine I1 h λh=>?_
 conv=>whnf
 refine z7 h (λp=>CJ 185 [(2,.ptr 2 1 0),(3,.ptr 3 1 0),(7,.d (.int .i64 p))] [(2,.var [.d (An 2 Ah p0.J),.d (An 7 Al p0.A)],1),(3,.var [.d (.int .i64 p1.Op),.d (.int .i64 p1.B),.d (.int .i64 p1.Z),.d (.int .i64 p1.C),.d (.int .i64 p1.D),.d (An 6 A4 p1.E)],1)]) Bw λ_ _ v7_1 h=>?_;simp only[IF]at h;refine fY h λh=>?_
 conv=>whnf
 refine z14 ?_;refine Sy (f:=A4) h λx179 _ h=>?_;rw[AX x179]
 conv=>whnf
 refine Bp h λx181 hx181 h=>?_
 first|refine A0 (ih _ _ _ hx181) ?_|(simp only[pX];refine A0 (ih _ _ _ hx181) ?_)
 refine I1 h λh=>?_
 conv=>whnf
 exact fZ ⟨(_,_),h⟩ Bw
theorem Si:∀d:Nat,(W2 prog 222 (Ib d))
 | 0=>by
  exact z17
 | d+1=>by
  have ih:=Si d;exact XY d _ ih
instance ref05_node_w:CS prog 222 (∀(d:Nat),W2 prog 222 (Ib d)):=⟨λd=>Si d⟩
instance ref05_Check_w:CS prog 145 (∀d:Nat,W2 prog 145 (Dr d)):=⟨λd p0 p1 R h=>by
 refine uD func145 ?_;unfold Dr at h;exact Ao⟩
instance ref08_Is_w:CS prog 275 (W3 prog 275 OM):=⟨λp0 p1 p2 R h=>by
 refine uD func275 ?_;unfold OM at h;exact Ao⟩
instance ref02_Pick_w:CS prog 147 (W2 prog 147 KJ):=⟨λp0 p1 R h=>by
 refine uD func147 ?_;unfold KJ at h;exact Ao⟩
instance {a0 a1 a2}:LS (λrec1 s=>Lh a0 a1 a2 rec1 s) 55 [1,2] (λs=>[(5,.d (.int .i64 s))]) [2] (λs=>[]):=⟨trivial⟩
instance {a0 a1 a2}:LS (λrec2 s=>Oi a0 a1 a2 rec2 s) 55 [1,2,5] (λs=>[(7,.d (.int .i64 s))]) [2] (λs=>[]):=⟨trivial⟩
instance ref08_Dims_w:CS prog 276 (W2 prog 276 Nt):=⟨λp0 p1 R h=>by
 refine uD func276 ?_;unfold Nt at h;exact Ao⟩
instance ref08_parts_w:CS prog 223 (∀d:Nat,W2 prog 223 (NM d)):=⟨λd p0 p1 R h=>by
 refine uD func223 ?_;unfold NM at h;refine FV h (λ_=>ref08_Is_w.h _ _ _ _) λx10 h=>?_;refine DI h (λh=>?_) λh=>?_
 ·exact Ao
 refine DI h (λh=>?_) λh=>?_
 ·refine DI h (λh=>?_) λh=>?_
  ·exact Ao
  conv=>whnf
  cases h
 exact Ao⟩
instance {a0 a1 a2 a3}:LS (λrec1 s=>Sd a0 a1 a2 a3 rec1 s) 67 [2,3] (λs=>[(5,.d (.int .i64 s))]) [2,3] (λs=>[]):=⟨trivial⟩
theorem XW(d:Nat)(self_ref05_Same:Aj->Aj->Option Bool)(ih:W2 prog 278 self_ref05_Same):W2 prog 278 (Pt d self_ref05_Same):=by
 intro p0 p1 R h;refine uD func278 ?_;unfold Pt at h;exact Ao
theorem Se:∀d:Nat,(W2 prog 278 (Ps d))
 | 0=>by
  exact z17
 | d+1=>by
  have ih:=Se d;exact XW d _ ih
instance ref05_Same_w:CS prog 278 (∀(d:Nat),W2 prog 278 (Ps d)):=⟨λd=>Se d⟩
instance ref08_zero_w:CS prog 224 (∀d:Nat,W1 prog 224 (SQ d)):=⟨λd p0 R h=>by
 refine uD func224 ?_;unfold SQ at h;exact Ao⟩
instance ref08_Question_w:CS prog 146 (∀d:Nat,W2 prog 146 (EZ d)):=⟨λd p0 p1 R h=>by
 refine uD func146 ?_;unfold EZ at h;exact Ao⟩
instance {a0 a1 a2 a3}:LS (λrec1 s=>Ka a0 a1 a2 a3 rec1 s) 110 [2,3] (λs=>[(8,.d (.int .i64 s))]) [2,3] (λs=>[]):=⟨trivial⟩
instance {a0 a1 a2}:LS (λrec2 s=>Nr a0 a1 a2 rec2 s) 110 [2,3,8] (λs=>[(10,.d (.int .i64 s))]) [2,3] (λs=>[]):=⟨trivial⟩
instance ref08_Check_w:CS prog 77 (∀d:Nat,W2 prog 77 (J4 d)):=⟨λd p0 p1 R h=>by
 refine Uv [6] func77 ?_;unfold J4 at h;refine FV h (λ_=>ref02_Check_w.h _ _) λx12 h=>?_;refine DI h (λh=>?_) λh=>?_
 ·exact Ao
 refine Fl {p:Unit // Ns d p0 p1=some R} (λp=>CJ 110 [(2,.ptr 2 1 0),(3,.ptr 3 1 0)] [(2,Bh p0,1),(3,NT p1,1)]) ?_ λp=>?_
 ·exact Ao
 obtain⟨_,h⟩:=p;exact Ao⟩
instance {a0 a1 a2}:LS (λrec1 s=>JV a0 a1 a2 rec1 s) 44 [1,2] (λs=>[(6,.d (.int .i64 s))]) [2] (λs=>[]):=⟨trivial⟩
instance ref02_Picks_w:CS prog 78 (W2 prog 78 Jz):=⟨λp0 p1 R h=>by
 refine uD func78 ?_;unfold Jz at h;exact Ao⟩
instance {a0 a1 a2}:LS (λrec1 s=>PU a0 a1 a2 rec1 s) 49 [0,1] (λs=>[(5,.d (.int .i64 s))]) [] (λs=>[]):=⟨trivial⟩
instance {a0 a1 a2 a3}:LS (λrec2 s=>PV a0 a1 a2 a3 rec2 s.1 s.2) 49 [0,1,5] (λs=>[(6,.d (.bool s.1)),(7,.d (.int .i64 s.2))]) [] (λs=>[]):=⟨trivial⟩
instance ref05_Covers_w:CS prog 148 (W2 prog 148 Pr):=⟨λp0 p1 R h=>by
 refine uD func148 ?_;unfold Pr at h;exact Ao⟩
instance {a0 a1 a2 a3}:LS (λrec1 s=>QI a0 a1 a2 a3 rec1 s.1 s.2.1 s.2.2) 59 [0,1,2,7] (λs=>[(8,.d (.bool s.1)),(9,.d (.int .i64 s.2.1))]) [] (λs=>[(7,.row 2 115 (List.map Ag s.2.2),1)]):=⟨trivial⟩
instance ref05_Raise_w:CS prog 226 (W3 prog 226 J2):=⟨λp0 p1 p2 R h=>by
 refine uD func226 ?_;unfold J2 at h;exact Ao⟩
instance {a0 a1 a2}:LS (λrec1 s=>QE a0 a1 a2 rec1 s.1 s.2) 36 [1,3] (λs=>[(4,.d (.int .i64 s.1))]) [1] (λs=>[(3,.row 6 63 (List.map A4 s.2),1)]):=⟨trivial⟩
theorem Xs(d:Nat)(self_ref05_Atoms:Aj->Option (List Aj))(ih:W1 prog 279 self_ref05_Atoms):W1 prog 279 (Og d self_ref05_Atoms):=by
 intro p0 R h;refine uD func279 ?_;unfold Og at h;exact Ao
theorem QF:∀d:Nat,(W1 prog 279 (NL d))
 | 0=>by
  exact z17
 | d+1=>by
  have ih:=QF d;exact Xs d _ ih
instance ref05_Atoms_w:CS prog 279 (∀(d:Nat),W1 prog 279 (NL d)):=⟨λd=>QF d⟩
instance {a0 a1 a2}:LS (λrec1 s=>VE a0 a1 a2 rec1 s) 44 [2,3] (λs=>[(1,.d (.int .i64 s))]) [3] (λs=>[]):=⟨trivial⟩
instance ref01_Up_w:CS prog 86 (W3 prog 86 JQ):=⟨λp0 p1 p2 R h=>by
 refine uD func86 ?_;unfold JQ at h;exact Ao⟩
instance ref02_Width_w:CS prog 87 (W2 prog 87 DY):=⟨λp0 p1 R h=>by
 refine uD func87 ?_;unfold DY at h;exact Ao⟩
instance ref02_Floor_w:CS prog 88 (W2 prog 88 FG):=⟨λp0 p1 R h=>by
 refine uD func88 ?_;unfold FG at h;exact Ao⟩
instance ref02_Coarse_w:CS prog 39 (W4 prog 39 Ce):=⟨λp0 p1 p2 p3 R h=>by
 refine uD func39 ?_;unfold Ce at h;exact Ao⟩
instance ref01_Under_w:CS prog 283 (W3 prog 283 QC):=⟨λp0 p1 p2 R h=>by
 refine uD func283 ?_;unfold QC at h;exact Ao⟩
end Go.Proofs.YthchnhoalhbkcaaGreatDoor.P
