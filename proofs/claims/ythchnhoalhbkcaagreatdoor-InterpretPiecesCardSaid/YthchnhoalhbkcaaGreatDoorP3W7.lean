/- P3W7 -/
import Derived.Test.YthchnhoalhbkcaaGreatDoorP3DW
open Go.Proofs.Tryz
set_option linter.unusedSimpArgs false
set_option linter.unusedVariables false
namespace Go.Proofs.YthchnhoalhbkcaaGreatDoor.P
open Go.Abs Go.Proofs
set_option maxRecDepth 100000
set_option maxHeartbeats 4000000
instance extract_Known_c1_w:CS prog 187 (∀(p0:Ad)(q0:Int)(R:Bool)(h:Im p0 q0=some R),Ax prog 187 [.d (Ag p0),.d (.ptr [(.int .i64 q0)])] (.d (.bool R))):=⟨λp0 q0 R h=>by
 refine uD func187 ?_;unfold Im at h;exact Ao⟩
instance {a0 a1 a2 a3 a4 a5}:LS (λrec1 s=>Nx a0 a1 a2 a3 a4 a5 rec1 s.1 s.2.1 s.2.2) 45 [1,2,3,4,19,20] (λs=>[(10,.d (.int .i64 s.1)),(11,.d (.bool s.2.1)),(21,.d (.int .i64 s.2.2))]) [4] (λs=>[]):=⟨trivial⟩
instance schema_turnCode_w:CS prog 257 (W4 prog 257 Jb):=⟨λp0 p1 p2 p3 R h=>by
 refine uD func257 ?_;unfold Jb at h;exact Ao⟩
instance schema_turnMeasure_w:CS prog 258 (W4 prog 258 GF):=⟨λp0 p1 p2 p3 R h=>by
 refine uD func258 ?_;unfold GF at h;exact Ao⟩
instance schema_Turned_w:CS prog 188 (W5 prog 188 E3):=⟨λp0 p1 p2 p3 p4 R h=>by
 refine uD func188 ?_;unfold E3 at h;exact Ao⟩
instance extract_Known_w:CS prog 114 (W5 prog 114 BC):=⟨λp0 p1 p2 p3 p4 R h=>by
 refine uD func114 ?_;unfold BC at h;exact Ao⟩
instance tabulate_Counts_c1_c1_w:CS prog 181 (∀(p0:Int)(q0:Aa)(q1:As)(q2:Int)(R:Bool)(h:D3 p0 q0 q1 q2=some R),Ax prog 181 [.d (.int .i64 p0),.d (.ptr [(An 2 Ah q0.J),(An 7 Al q0.A)]),.d (.ptr [(.str q1.Af),(.int .i64 q1.Ag),(An 2 Ag q1.X),(An 1 (An 1 (D.int .i64)) q1.G)]),.d (.ptr [(.int .i64 q2)])] (.d (.bool R))):=⟨λp0 q0 q1 q2 R h=>by
 refine uD func181 ?_;unfold D3 at h;exact Ao⟩
instance tabulate_Counts_c1_w:CS prog 179 (∀(p0:Int)(q0:List Int)(q1:Aa)(q2:As)(R:Bool)(h:DF p0 q0 q1 q2=some R),Ax prog 179 [.d (.int .i64 p0),.d (.ptr [(An 1 (D.int .i64) q0)]),.d (.ptr [(An 2 Ah q1.J),(An 7 Al q1.A)]),.d (.ptr [(.str q2.Af),(.int .i64 q2.Ag),(An 2 Ag q2.X),(An 1 (An 1 (D.int .i64)) q2.G)])] (.d (.bool R))):=⟨λp0 q0 q1 q2 R h=>by
 refine uD func179 ?_;unfold DF at h;exact Ao⟩
instance tabulate_Counts_w:CS prog 107 (∀d:Nat,W4 prog 107 (CH d)):=⟨λd p0 p1 p2 p3 R h=>by
 refine o7 func107 ?_;unfold CH at h;refine FV h (λ_=>extract_Check_w.h _ _ _) λx11 h=>?_;refine DI h (λh=>?_) λh=>?_
 ·conv=>whnf
  obtain rfl:=P3 h;refine⟨.inl ?_⟩
  conv=>whnf
  exact⟨Nv⟩
 refine FV h (λ_=>tabulate_Holding_w.h _ _ _ _ _) λx16 h=>?_;refine iH h (λ_=>Ei _ _ _ _ _ (λa0 _ h=>tabulate_Counts_c1_w.h a0 _ _ _ _ h)) λx18 h=>?_
 conv=>whnf
 obtain rfl:=P3 h;refine⟨.inl ?_⟩
 conv=>whnf
 exact⟨Nv⟩⟩
instance {a0 a1 a2 a3 a4}:LS (λrec1 s=>Nz a0 a1 a2 a3 a4 rec1 s.1 s.2) 37 [3,4,5,9,14,15] (λs=>[(16,.d (.int .i64 s.1))]) [4,5] (λs=>[(9,.row 1 3 (List.map (D.int .i64) s.2),1)]):=⟨trivial⟩
instance tabulate_Values_w:CS prog 108 (W4 prog 108 BK):=⟨λp0 p1 p2 p3 R h=>by
 refine uD func108 ?_;unfold BK at h;exact Ao⟩
instance {a0 a1}:LS (λrec1 s=>D2 a0 a1 rec1 s.1 s.2) 66 [2,3,4,6,8,34,35] (λs=>[(7,.d (.int .i64 s.1)),(36,.d (.int .i64 s.2))]) [2,3,4] (λs=>[]):=⟨trivial⟩
instance interpret_room_sum_w:CS prog 54 (∀d:Nat,W2 prog 54 (Cr d)):=⟨λd p0 p1 R h=>by
 refine Uv [8] func54 ?_;unfold Cr at h;refine FV h (λ_=>tabulate_Counts_w.h _ _ _ _ _ _) λx24 h=>?_;refine Fl {p:Int // Fg p1 x24 p0 p=some R} (λp=>CJ 66 [(2,.ptr 2 1 0),(3,.ptr 3 1 0),(4,.ptr 4 1 0),(6,.d (An 1 (D.int .i64) x24)),(7,.d (.int .i64 p.1)),(8,.d (.int .i64 1))] [(2,Tc p0,1),(3,UV p1,1),(4,.var [.d (.int .i64 0),.d (.int .i64 0),.d (.int .i64 0),.d (.nil 2),.d (.int .i64 0),.d (.nil 7),.d (.int .i64 0),.d (.nil 1),.d (.nil 2),.d (.int .i64 0),.d (.int .i64 0),.d (.int .i64 0),.d (.int .i64 0),.d (.int .i64 0),.d (.int .i64 0),.d (.nil 6),.d (.nil 2),.d (.int .i64 0),.d (.int .i64 0),.d (.int .i64 0),.d (.int .i64 0),.d (.int .i64 0),.d (.int .i64 0),.d (.nil 1)],1)]) ?_ λp=>?_
 ·exact Ao
 obtain⟨j7_1,h⟩:=p;exact Ao⟩
theorem FB(d:Nat)(p0:Ay)(p1:Ap)(R:AA×Int)  (h:Cr d p0 p1=some R):Dl prog 54 [.cc none [.d (An 2 Ah p0.I.Ae.J),.d (An 7 Al p0.I.Ae.A),.d (.str p0.I.K.Af),.d (.int .i64 p0.I.K.Ag),.d (An 2 Ag p0.I.K.X),.d (An 1 (An 1 (D.int .i64)) p0.I.K.G),.own 26 70 (List.map A3 p0.Ax)],.d (AO p1)] [.cc none [.d (An 2 Ah p0.I.Ae.J),.d (An 7 Al p0.I.Ae.A),.d (.str p0.I.K.Af),.d (.int .i64 p0.I.K.Ag),.d (An 2 Ag p0.I.K.X),.d (An 1 (An 1 (D.int .i64)) p0.I.K.G),.own 26 70 (List.map A3 p0.Ax)],.any] (.tup [.d (CQ R.1),.d (.int .i64 R.2)]):=by
 refine dB [8] func54 (by kernel_rfl) rfl ?_ ?_
 ·intro i x y hx hy
  match i,hx,hy with
  | 0,hx,hy=>cases P3 hx;cases P3 hy;exact⟨[_,_,_,_,_,_],_,_,_,_,rfl,rfl⟩
  | 1,hx,hy=>simp at hx hy;subst hx;subst hy;trivial
  | i+2,hx,hy=>simp at hx
 unfold Cr at h
 conv=>whnf
 refine Bp h λx24 hx24 h=>?_;refine A0 (tabulate_Counts_w.h _ _ _ _ _ _ hx24) ?_
 conv=>whnf
 refine Fl {p:Int // Fg p1 x24 p0 p=some R} (λp=>CJ 66 [(2,.ptr 2 1 0),(3,.ptr 3 1 0),(4,.ptr 4 1 0),(6,.d (An 1 (D.int .i64) x24)),(7,.d (.int .i64 p.1)),(8,.d (.int .i64 1))] [(0,.row 26 70 (List.map A3 p0.Ax),0),(2,.var [.d (An 2 Ah p0.I.Ae.J),.d (An 7 Al p0.I.Ae.A),.d (.str p0.I.K.Af),.d (.int .i64 p0.I.K.Ag),.d (An 2 Ag p0.I.K.X),.d (An 1 (An 1 (D.int .i64)) p0.I.K.G),.sl 0 0],1),(3,.var [.d (.int .i64 p1.Op),.d (.int .i64 p1.L),.d (.str p1.H),.d (.int .i64 p1.B),.d (An 1 (D.int .i64) p1.A),.d (An 2 Ag p1.Ac),.d (.int .i64 p1.V.Op),.d (.int .i64 p1.V.B),.d (.int .i64 p1.V.Z),.d (.int .i64 p1.V.C),.d (.int .i64 p1.V.D),.d (An 6 A4 p1.V.E),.d (.int .i64 p1.U.Op),.d (.int .i64 p1.U.B),.d (.int .i64 p1.U.Z),.d (.int .i64 p1.U.C),.d (.int .i64 p1.U.D),.d (An 6 A4 p1.U.E),.d (An 19 Cg p1.E)],1),(4,.var [.d (.int .i64 0),.d (.int .i64 0),.d (.int .i64 0),.d (.nil 2),.d (.int .i64 0),.d (.nil 7),.d (.int .i64 0),.d (.nil 1),.d (.nil 2),.d (.int .i64 0),.d (.int .i64 0),.d (.int .i64 0),.d (.int .i64 0),.d (.int .i64 0),.d (.int .i64 0),.d (.nil 6),.d (.nil 2),.d (.int .i64 0),.d (.int .i64 0),.d (.int .i64 0),.d (.int .i64 0),.d (.int .i64 0),.d (.int .i64 0),.d (.nil 1)],1)]) ?_ λp=>?_
 ·conv=>whnf
  refine Bp h λx34 hx34 h=>?_;refine A0 (tabulate_Values_w.h _ _ _ _ _ hx34) ?_
  conv=>whnf
  refine GN h λP1 i1 h=>?_;refine loop {p:Nat×(Int×Int) // P1 p.1 p.2=some R} (λp=>CJ 66 [(2,.ptr 2 1 0),(3,.ptr 3 1 0),(4,.ptr 4 1 0),(6,.d (An 1 (D.int .i64) x24)),(7,.d (.int .i64 p.1.2.1)),(8,.d (.int .i64 1)),(34,.d (An 1 (D.int .i64) x34)),(35,.d (.int .i64 (x34.length:Int))),(36,.d (.int .i64 p.1.2.2))] [(0,.row 26 70 (List.map A3 p0.Ax),0),(2,.var [.d (An 2 Ah p0.I.Ae.J),.d (An 7 Al p0.I.Ae.A),.d (.str p0.I.K.Af),.d (.int .i64 p0.I.K.Ag),.d (An 2 Ag p0.I.K.X),.d (An 1 (An 1 (D.int .i64)) p0.I.K.G),.sl 0 0],1),(3,.var [.d (.int .i64 p1.Op),.d (.int .i64 p1.L),.d (.str p1.H),.d (.int .i64 p1.B),.d (An 1 (D.int .i64) p1.A),.d (An 2 Ag p1.Ac),.d (.int .i64 p1.V.Op),.d (.int .i64 p1.V.B),.d (.int .i64 p1.V.Z),.d (.int .i64 p1.V.C),.d (.int .i64 p1.V.D),.d (An 6 A4 p1.V.E),.d (.int .i64 p1.U.Op),.d (.int .i64 p1.U.B),.d (.int .i64 p1.U.Z),.d (.int .i64 p1.U.C),.d (.int .i64 p1.U.D),.d (An 6 A4 p1.U.E),.d (An 19 Cg p1.E)],1),(4,.var [.d (.int .i64 0),.d (.int .i64 0),.d (.int .i64 0),.d (.nil 2),.d (.int .i64 0),.d (.nil 7),.d (.int .i64 0),.d (.nil 1),.d (.nil 2),.d (.int .i64 0),.d (.int .i64 0),.d (.int .i64 0),.d (.int .i64 0),.d (.int .i64 0),.d (.int .i64 0),.d (.nil 6),.d (.nil 2),.d (.int .i64 0),.d (.int .i64 0),.d (.int .i64 0),.d (.int .i64 0),.d (.int .i64 0),.d (.int .i64 0),.d (.nil 1)],1)]) (λp=>p.1.1) ⟨(_,(_,_)),h⟩ ?_ λp=>?_
  ·exact z22
  obtain⟨⟨k1,⟨v7_1,v36_1⟩⟩,h⟩:=p;obtain⟨k1,rfl,h⟩:=i1 _ _ h;simp only[D2]at h
  conv=>whnf
  refine Td h FK (λh=>?_) (λh=>?_)
  ·conv=>whnf
   refine oA (f:=(D.int .i64)) h FK λx38 hx38 h=>?_
   conv=>whnf
   refine⟨⟨(_,(_,_)),h⟩,?_,rx _⟩;exact z22
  conv=>whnf
  refine⟨⟨_,h⟩,?_⟩;exact z22
 obtain⟨j7_1,h⟩:=p;simp only[Fg]at h
 conv=>whnf
 refine Td h FK (λh=>?_) (λh=>?_)
 ·conv=>whnf
  refine Bp h λx52 hx52 h=>?_;(first|refine A0 (KY _ _ _ hx52) ?_|(simp only[pX];refine A0 (KY _ _ _ hx52) ?_))
  conv=>whnf
  refine Td h FK (λh=>?_) (λh=>?_)
  ·exact z20
  conv=>whnf
  refine z14 ?_
  conv=>whnf
  refine Bp h λx64 hx64 h=>?_;refine A0 (tabulate_Keys_w.h _ _ _ hx64) ?_;exact z20
 conv=>whnf
 refine Bp h λx52 hx52 h=>?_;(first|refine A0 (KY _ _ _ hx52) ?_|(simp only[pX];refine A0 (KY _ _ _ hx52) ?_))
 conv=>whnf
 refine Td h FK (λh=>?_) (λh=>?_)
 ·exact z20
 conv=>whnf
 refine z14 ?_
 conv=>whnf
 refine Bp h λx64 hx64 h=>?_;refine A0 (tabulate_Keys_w.h _ _ _ hx64) ?_;exact z20
instance declaration_kindOf_w:CS prog 295 (W2 prog 295 D7):=⟨λp0 p1 R h=>by
 refine uD func295 ?_;unfold D7 at h;exact Ao⟩
instance declaration_table_c1_w:CS prog 296 (∀(p0:Ad)(q0:Ad)(R:Bool)(h:F5 p0 q0=some R),Ax prog 296 [.d (Ag p0),.d (.ptr [(.int .i64 q0.B),(.int .i64 q0.S)])] (.d (.bool R))):=⟨λp0 q0 R h=>by
 refine uD func296 ?_;unfold F5 at h;exact Ao⟩
instance declaration_empty_w:CS prog 297 (W1 prog 297 F3):=⟨λp0 R h=>by
 refine uD func297 ?_;unfold F3 at h;exact Ao⟩
instance {a0 a1 a2}:LS (λrec1 s=>Lp a0 a1 a2 rec1 s) 64 [2,3,19,20] (λs=>[(21,.d (.int .i64 s))]) [2,3] (λs=>[]):=⟨trivial⟩
instance declaration_table_w:CS prog 254 (W2 prog 254 F4):=⟨λp0 p1 R h=>by
 refine Uv [14] func254 ?_;unfold F4 at h;refine DI h (λh=>?_) λh=>?_
 ·exact Ao
 refine Fl {p:Unit // H3 p1 p0=some R} (λp=>CJ 64 [(2,.ptr 2 1 0),(3,.ptr 3 1 0)] [(2,Bh p0,1),(3,Ra p1,1)]) ?_ λp=>?_
 ·exact Ao
 obtain⟨_,h⟩:=p;exact Ao⟩
instance declaration_Question_w:CS prog 185 (∀d:Nat,W2 prog 185 (F2 d)):=⟨λd p0 p1 R h=>by
 refine uD func185 ?_;unfold F2 at h;refine FV h (λ_=>schema_Check_w.h _ _) λx8 h=>?_;refine DI h (λh=>?_) λh=>?_
 ·exact Ao
 refine FV h (λ_=>codes_Name_w.h _ _) λx16 h=>?_;refine DI h (λh=>?_) λh=>?_
 ·exact Ao
 refine DI h (λh=>?_) λh=>?_
 ·exact Ao
 refine FV h (λ_=>condition_Check_w.h _ _ _ _) λx30 h=>?_;refine DI h (λh=>?_) λh=>?_
 ·exact Ao
 refine DI h (λh=>?_) λh=>?_
 ·exact Ao
 refine DI h (λh=>?_) λh=>?_
 ·conv=>whnf
  cases h
 conv=>whnf
 cases h⟩
instance tabulate_ask_w:CS prog 110 (∀d:Nat,W4 prog 110 (Kw d)):=⟨λd p0 p1 p2 p3 R h=>by
 refine uD func110 ?_;unfold Kw at h;exact Ao⟩
instance types_Needs_w:CS prog 111 (∀d:Nat,W2 prog 111 (Gx d)):=⟨λd p0 p1 R h=>by
 refine uD func111 ?_;unfold Gx at h;exact Ao⟩
end Go.Proofs.YthchnhoalhbkcaaGreatDoor.P
