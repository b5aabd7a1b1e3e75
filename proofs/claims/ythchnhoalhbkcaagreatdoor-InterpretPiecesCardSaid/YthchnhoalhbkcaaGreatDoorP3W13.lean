/- P3W13 -/
import Derived.Test.YthchnhoalhbkcaaGreatDoorP3W10
import Derived.Test.YthchnhoalhbkcaaGreatDoorP3W12
open Go.Proofs.Tryz
set_option linter.unusedSimpArgs false
set_option linter.unusedVariables false
namespace Go.Proofs.YthchnhoalhbkcaaGreatDoor.P
open Go.Abs Go.Proofs
set_option maxRecDepth 100000
set_option maxHeartbeats 4000000
instance {a0 a1 a2}:LS (λrec1 s=>PY a0 a1 a2 rec1 s.1 s.2) 89 [2,5,6,15,16,17,58,59] (λs=>[(60,.d (.int .i64 s.1))]) [5,6,54] (λs=>[(57,.row 1 4 (List.map D.bool s.2),1)]):=⟨trivial⟩
instance survive_Make_w:CS prog 58 (∀d:Nat,W5 prog 58 (Kv d)):=⟨λd p0 p1 p2 p3 p4 R h=>by
 refine uD func58 ?_;unfold Kv at h;exact Ao⟩
instance plot_usable_w:CS prog 120 (∀d:Nat,W3 prog 120 (Jv d)):=⟨λd p0 p1 p2 R h=>by
 refine uD func120 ?_;unfold Jv at h;exact Ao⟩
instance plot_large_w:CS prog 200 (W1 prog 200 Ni):=⟨λp0 R h=>by
 refine uD func200 ?_;unfold Ni at h;exact Ao⟩
instance plot_down_w:CS prog 201 (W2 prog 201 Ru):=⟨λp0 p1 R h=>by
 refine uD func201 ?_;unfold Ru at h;exact Ao⟩
instance plot_Bins_w:CS prog 122 (W2 prog 122 OA):=⟨λp0 p1 R h=>by
 refine Ux [5] func122 (by kernel_rfl) ?_;unfold OA at h;refine Fl {p:Unit // Ml p0 p1=some R} (λp=>CJ 71 [(0,.d (An 1 (D.int .i64) p0)),(1,.d (.int .i64 p1))] []) ?_ λp=>?_
 ·refine DI h (λh=>?_) λh=>?_
  ·conv=>whnf
   exact z24
  refine DI h (λh=>?_) λh=>?_
  ·exact z24
  refine FV h (λ_=>slices_ContainsFunc_Lint_int_w.h _ _ _ _ _ (λa0 _ h=>plot_large_w.h a0  _ h)) λx25 h=>?_;refine DI h (λh=>?_) λh=>?_
  ·conv=>whnf
   exact z24
  conv=>whnf
  exact⟨⟨(),h⟩,CC⟩
 obtain⟨_,h⟩:=p;simp only[Ml]at h;refine FV h (λ_=>Bt _ _) λx28 h=>?_;refine iH h (λ_=>Ev _ _) λx30 h=>?_
 conv=>whnf
 refine z7 h (λp=>CJ 71 [(1,.d (.int .i64 p1)),(7,.sl 7 1),(31,.sl 28 1),(32,.d (.int .i64 (x30.length:Int))),(33,.d (.int .i64 p.1))] [(7,.row 2 160 (List.map Cd p.2),1),(28,.row 1 3 (List.map (D.int .i64) x30),1)]) CC λ_ _ ⟨v33_1,b7_1⟩ h=>?_;simp only[Mk]at h;refine DI h (λh=>?_) λh=>?_
 ·refine OQ (f:=(D.int .i64)) h FK λx35 hx35 h=>?_;refine Yo (f:=(D.int .i64)) hx35 FK ?_;refine FV h (λ_=>plot_down_w.h _ _ _) λx39 h=>?_;refine DI h (λh=>?_) λh=>?_
  ·refine Te h λhr h=>?_;refine z8 ?_
   try rw[UR]
   exact z29
  refine OQ (f:=Cd) h FK λx48 hx48 h=>?_;refine Yo (f:=Cd) hx48 FK ?_;refine DI h (λh=>?_) λh=>?_
  ·conv=>whnf
   refine Te h λhr h=>?_;refine z8 ?_
   try rw[UR]
   exact z29
  exact z29
 conv=>whnf
 obtain rfl:=P3 h;refine⟨.inl ?_⟩
 conv=>whnf
 exact⟨fJ⟩⟩
instance {a0 a1 a2 a3 a4 a5}:LS (λrec1 s=>Mm a0 a1 a2 a3 a4 a5 rec1 s.1 s.2.1 s.2.2) 80 [2,3,5,6,14,15,35,36] (λs=>[(37,.d (.int .i64 s.1))]) [5,6,35] (λs=>[(14,.row 1 3 (List.map (D.int .i64) s.2.1),1),(15,.row 1 3 (List.map (D.int .i64) s.2.2),1)]):=⟨trivial⟩
instance plot_Hist_w:CS prog 59 (∀d:Nat,W5 prog 59 (OB d)):=⟨λd p0 p1 p2 p3 p4 R h=>by
 refine uD func59 ?_;unfold OB at h;exact Ao⟩
instance plot_Quartiles_w:CS prog 123 (W1 prog 123 HA):=⟨λp0 R h=>by
 refine o7 func123 ?_;unfold HA at h;refine PD h λh=>?_;refine FV h (λ_=>slices_ContainsFunc_Lint_int_w.h _ _ _ _ _ (λa0 _ h=>plot_large_w.h a0  _ h)) λx14 h=>?_;refine PD h λh=>?_;refine PD h λh=>?_;refine FV h (λ_=>Bt _ _) λx21 h=>?_;refine iH h (λ_=>Ev _ _) λx23 h=>?_
 conv=>whnf
 refine z14 ?_;refine OQ (f:=(D.int .i64)) h FK λx26 hx26 h=>?_;refine Yo (f:=(D.int .i64)) hx26 FK ?_
 conv=>whnf
 refine⟨by omega,?_⟩;refine OQ (f:=(D.int .i64)) h FK λx32 hx32 h=>?_;refine Yo (f:=(D.int .i64)) hx32 FK ?_
 conv=>whnf
 refine⟨by omega,?_⟩;refine OQ (f:=(D.int .i64)) h FK λx38 hx38 h=>?_;refine Yo (f:=(D.int .i64)) hx38 FK ?_
 conv=>whnf
 refine⟨by omega,?_⟩;refine OQ (f:=(D.int .i64)) h FK λx45 hx45 h=>?_;refine Yo (f:=(D.int .i64)) hx45 FK ?_;refine OQ (f:=(D.int .i64)) h FK λx50 hx50 h=>?_;refine Yo (f:=(D.int .i64)) hx50 FK ?_
 conv=>whnf
 obtain rfl:=P3 h;exact⟨fJ⟩⟩
instance plot_Box_w:CS prog 60 (∀d:Nat,W4 prog 60 (Q6 d)):=⟨λd p0 p1 p2 p3 R h=>by
 refine uD func60 ?_;unfold Q6 at h;exact Ao⟩
theorem zm1{ρ:Type}{b b':Bool}{x y:Prop}{E F R:ρ}(h:(bif b' then some E else some F)=some R)(h1:some E=some R->x:=by intro h;cases h;(conv=>whnf);exact⟨Nv⟩)(h2:some F=some R->y:=by intro h;cases h;(conv=>whnf);exact⟨Nv⟩)(e:b=b':=by first|rfl|simp only[pX,qK,q9]):Bool.rec y x b:=Td h e h1 h2
theorem zm2{ρ:Type}{E R:ρ}{x:Prop}(h:some E=some R)(k:some E=some R->x:=by intro h;cases h;(conv=>whnf);exact⟨Nv⟩):x:=k h
theorem zm3{p:Prop}(h:p:=by(conv=>whnf);exact⟨⟨(_,_,_,_,_,_,_,_,_,_,_,_,_,_,_,_,_,_,_,_,_,_,_),h⟩,Bw⟩):p:=h
theorem zq5{p:Prop}(h:p:=by(conv=>whnf);refine⟨⟨(_,_,_,_,_,_,_,_,_,_,_,_,_,_,_,_,_,_,_,_,_,_,_),h⟩,?_⟩;exact z22):p:=h
theorem O5(d:Nat)(self_interpret_room_value:Ay->Ap->Option (AA×Int))(ih:W2 prog 22 self_interpret_room_value)(self_interpret_room_pair:Ay->Ap->Option (AA×Int))(ih1:W2 prog 61 self_interpret_room_pair):W2 prog 22 (B4 d self_interpret_room_value self_interpret_room_pair):=by
 intro p0 p1 R h;refine Ux [32] func22 (by kernel_rfl) ?_;unfold B4 at h;refine Fl {p:(Int×Int×(List Ad)×Int×(List Aq)×Int×(List Int)×(List AI)×Int×Int×Int×Int×Int×Int×(List Ba)×(List D4)×Int×Int×Int×Int×Int×Int×(List Int)) // Bs p.1 p.2.1 p.2.2.1 p.2.2.2.1 p.2.2.2.2.1 p.2.2.2.2.2.1 p.2.2.2.2.2.2.1 p.2.2.2.2.2.2.2.1 p.2.2.2.2.2.2.2.2.1 p.2.2.2.2.2.2.2.2.2.1 p.2.2.2.2.2.2.2.2.2.2.1 p.2.2.2.2.2.2.2.2.2.2.2.1 p.2.2.2.2.2.2.2.2.2.2.2.2.1 p.2.2.2.2.2.2.2.2.2.2.2.2.2.1 p.2.2.2.2.2.2.2.2.2.2.2.2.2.2.1 p.2.2.2.2.2.2.2.2.2.2.2.2.2.2.2.1 p.2.2.2.2.2.2.2.2.2.2.2.2.2.2.2.2.1 p.2.2.2.2.2.2.2.2.2.2.2.2.2.2.2.2.2.1 p.2.2.2.2.2.2.2.2.2.2.2.2.2.2.2.2.2.2.1 p.2.2.2.2.2.2.2.2.2.2.2.2.2.2.2.2.2.2.2.1 p.2.2.2.2.2.2.2.2.2.2.2.2.2.2.2.2.2.2.2.2.1 p.2.2.2.2.2.2.2.2.2.2.2.2.2.2.2.2.2.2.2.2.2.1 p.2.2.2.2.2.2.2.2.2.2.2.2.2.2.2.2.2.2.2.2.2.2=some R} (λp=>CJ 177 [(4,.ptr 4 1 0),(6,.ptr 6 1 0),(7,.d (.int .i64 p.1.1))] [(4,.var [.d (.int .i64 0),.d (.int .i64 0),.d (.int .i64 0),.d (.nil 2),.d (.int .i64 0),.d (.nil 7),.d (.int .i64 0),.d (.nil 1),.d (.nil 2),.d (.int .i64 0),.d (.int .i64 0),.d (.int .i64 0),.d (.int .i64 0),.d (.int .i64 0),.d (.int .i64 0),.d (.nil 6),.d (.nil 2),.d (.int .i64 0),.d (.int .i64 0),.d (.int .i64 0),.d (.int .i64 0),.d (.int .i64 0),.d (.int .i64 0),.d (.nil 1)],1),(6,.var [.d (.int .i64 p.1.2.1),.d (.int .i64 0),.d (.int .i64 0),.d (An 2 Ag p.1.2.2.1),.d (.int .i64 p.1.2.2.2.1),.d (An 7 A6 p.1.2.2.2.2.1),.d (.int .i64 p.1.2.2.2.2.2.1),.d (An 1 (D.int .i64) p.1.2.2.2.2.2.2.1),.d (An 2 Bq p.1.2.2.2.2.2.2.2.1),.d (.int .i64 p.1.2.2.2.2.2.2.2.2.1),.d (.int .i64 p.1.2.2.2.2.2.2.2.2.2.1),.d (.int .i64 p.1.2.2.2.2.2.2.2.2.2.2.1),.d (.int .i64 p.1.2.2.2.2.2.2.2.2.2.2.2.1),.d (.int .i64 p.1.2.2.2.2.2.2.2.2.2.2.2.2.1),.d (.int .i64 p.1.2.2.2.2.2.2.2.2.2.2.2.2.2.1),.d (An 6 By p.1.2.2.2.2.2.2.2.2.2.2.2.2.2.2.1),.d (An 2 Cd p.1.2.2.2.2.2.2.2.2.2.2.2.2.2.2.2.1),.d (.int .i64 p.1.2.2.2.2.2.2.2.2.2.2.2.2.2.2.2.2.1),.d (.int .i64 p.1.2.2.2.2.2.2.2.2.2.2.2.2.2.2.2.2.2.1),.d (.int .i64 p.1.2.2.2.2.2.2.2.2.2.2.2.2.2.2.2.2.2.2.1),.d (.int .i64 p.1.2.2.2.2.2.2.2.2.2.2.2.2.2.2.2.2.2.2.2.1),.d (.int .i64 p.1.2.2.2.2.2.2.2.2.2.2.2.2.2.2.2.2.2.2.2.2.1),.d (.int .i64 p.1.2.2.2.2.2.2.2.2.2.2.2.2.2.2.2.2.2.2.2.2.2.1),.d (An 1 (D.int .i64) p.1.2.2.2.2.2.2.2.2.2.2.2.2.2.2.2.2.2.2.2.2.2.2)],1)]) ?_ λp=>?_
 ·refine I1 h λh=>?_;refine DI h (λh=>?_) λh=>?_
  ·refine FV h (λ_=>interpret_room_named_w.h _ _ _) λx27 h=>?_;exact zm2 h
  refine DI h (λh=>?_) λh=>?_
  ·refine FV h (λ_=>tabulate_Holding_w.h _ _ _ _ _) λx38 h=>?_;refine FV h (λ_=>tabulate_Keys_w.h _ _ _) λx46 h=>?_;exact zm2 h
  conv=>whnf
  refine lC h FK (λe16 h=>?_) (λe16 h=>?_)
  ·conv=>whnf
   refine lL FK e16 ?_
   conv=>whnf
   refine Bp h λx53 hx53 h=>?_;refine A0 (interpret_room_sum_w.h _ _ _ _ hx53) ?_;exact zm2 h
  refine DI h (λh=>?_) λh=>?_
  ·conv=>whnf
   refine Bp h λx53 hx53 h=>?_;refine A0 (interpret_room_sum_w.h _ _ _ _ hx53) ?_;exact zm2 h
  refine DI h (λh=>?_) λh=>?_
  ·refine FV h (λ_=>tabulate_Make_w.h _ _ _ _ _ _ _) λx72 h=>?_;refine DI h (λh=>?_) λh=>?_
   ·refine Sy (f:=A6) h λx81 _ h=>?_;refine FV h (λ_=>Bt _ _) λx84 h=>?_;exact zm3
   exact zm3
  refine DI h (λh=>?_) λh=>?_
  ·refine FV h (λ_=>regress_Make_w.h _ _ _ _ _ _ _) λx102 h=>?_;exact zm3
  refine DI h (λh=>?_) λh=>?_
  ·refine FV h (λ_=>survive_Make_w.h _ _ _ _ _ _ _) λx124 h=>?_;exact zm3
  refine DI h (λh=>?_) λh=>?_
  ·refine FV h (λ_=>plot_Hist_w.h _ _ _ _ _ _ _) λx146 h=>?_;exact zm3
  refine DI h (λh=>?_) λh=>?_
  ·refine FV h (λ_=>plot_Box_w.h _ _ _ _ _ _) λx166 h=>?_;exact zm3
  conv=>whnf
  refine Bp h λx13 hx13 h=>?_
  first|refine A0 (ih1 _ _ _ hx13) ?_|(simp only[pX];refine A0 (ih1 _ _ _ hx13) ?_)
  exact zm2 h
 obtain⟨⟨j7_1,k6_0_1,k6_3_1,k6_4_1,k6_5_1,k6_6_1,k6_7_1,k6_8_1,k6_9_1,k6_10_1,k6_11_1,k6_12_1,k6_13_1,k6_14_1,k6_15_1,k6_16_1,k6_17_1,k6_18_1,k6_19_1,k6_20_1,k6_21_1,k6_22_1,k6_23_1⟩,h⟩:=p;simp only[Bs]at h;exact zm1 h
theorem O4(d:Nat)(self_interpret_room_value:Ay->Ap->Option (AA×Int))(ih_interpret_room_value:∀(p0:Ay)(p1:Ap)(R:AA×Int) ,self_interpret_room_value p0 p1=some R->Dl prog 22 [.cc none [.d (An 2 Ah p0.I.Ae.J),.d (An 7 Al p0.I.Ae.A),.d (.str p0.I.K.Af),.d (.int .i64 p0.I.K.Ag),.d (An 2 Ag p0.I.K.X),.d (An 1 (An 1 (D.int .i64)) p0.I.K.G),.own 26 70 (List.map A3 p0.Ax)],.d (AO p1)] [.cc none [.d (An 2 Ah p0.I.Ae.J),.d (An 7 Al p0.I.Ae.A),.d (.str p0.I.K.Af),.d (.int .i64 p0.I.K.Ag),.d (An 2 Ag p0.I.K.X),.d (An 1 (An 1 (D.int .i64)) p0.I.K.G),.own 26 70 (List.map A3 p0.Ax)],.any] (.tup [.d (CQ R.1),.d (.int .i64 R.2)]))(self_interpret_room_pair:Ay->Ap->Option (AA×Int))(ih_interpret_room_pair:∀(p0:Ay)(p1:Ap)(R:AA×Int) ,self_interpret_room_pair p0 p1=some R->Dl prog 61 [.cc none [.d (An 2 Ah p0.I.Ae.J),.d (An 7 Al p0.I.Ae.A),.d (.str p0.I.K.Af),.d (.int .i64 p0.I.K.Ag),.d (An 2 Ag p0.I.K.X),.d (An 1 (An 1 (D.int .i64)) p0.I.K.G),.own 26 70 (List.map A3 p0.Ax)],.d (AO p1)] [.cc none [.d (An 2 Ah p0.I.Ae.J),.d (An 7 Al p0.I.Ae.A),.d (.str p0.I.K.Af),.d (.int .i64 p0.I.K.Ag),.d (An 2 Ag p0.I.K.X),.d (An 1 (An 1 (D.int .i64)) p0.I.K.G),.own 26 70 (List.map A3 p0.Ax)],.any] (.tup [.d (CQ R.1),.d (.int .i64 R.2)]))(p0:Ay)(p1:Ap)(R:AA×Int)  (h:B4 d self_interpret_room_value self_interpret_room_pair p0 p1=some R):Dl prog 22 [.cc none [.d (An 2 Ah p0.I.Ae.J),.d (An 7 Al p0.I.Ae.A),.d (.str p0.I.K.Af),.d (.int .i64 p0.I.K.Ag),.d (An 2 Ag p0.I.K.X),.d (An 1 (An 1 (D.int .i64)) p0.I.K.G),.own 26 70 (List.map A3 p0.Ax)],.d (AO p1)] [.cc none [.d (An 2 Ah p0.I.Ae.J),.d (An 7 Al p0.I.Ae.A),.d (.str p0.I.K.Af),.d (.int .i64 p0.I.K.Ag),.d (An 2 Ag p0.I.K.X),.d (An 1 (An 1 (D.int .i64)) p0.I.K.G),.own 26 70 (List.map A3 p0.Ax)],.any] (.tup [.d (CQ R.1),.d (.int .i64 R.2)]):=by
 refine dB [32] func22 (by kernel_rfl) rfl ?_ ?_
 ·intro i x y hx hy
  match i,hx,hy with
  | 0,hx,hy=>cases P3 hx;cases P3 hy;exact⟨[_,_,_,_,_,_],_,_,_,_,rfl,rfl⟩
  | 1,hx,hy=>simp at hx hy;subst hx;subst hy;trivial
  | i+2,hx,hy=>simp at hx
 unfold B4 at h
 conv=>whnf
 refine Fl {p:(Int×Int×(List Ad)×Int×(List Aq)×Int×(List Int)×(List AI)×Int×Int×Int×Int×Int×Int×(List Ba)×(List D4)×Int×Int×Int×Int×Int×Int×(List Int)) // Bs p.1 p.2.1 p.2.2.1 p.2.2.2.1 p.2.2.2.2.1 p.2.2.2.2.2.1 p.2.2.2.2.2.2.1 p.2.2.2.2.2.2.2.1 p.2.2.2.2.2.2.2.2.1 p.2.2.2.2.2.2.2.2.2.1 p.2.2.2.2.2.2.2.2.2.2.1 p.2.2.2.2.2.2.2.2.2.2.2.1 p.2.2.2.2.2.2.2.2.2.2.2.2.1 p.2.2.2.2.2.2.2.2.2.2.2.2.2.1 p.2.2.2.2.2.2.2.2.2.2.2.2.2.2.1 p.2.2.2.2.2.2.2.2.2.2.2.2.2.2.2.1 p.2.2.2.2.2.2.2.2.2.2.2.2.2.2.2.2.1 p.2.2.2.2.2.2.2.2.2.2.2.2.2.2.2.2.2.1 p.2.2.2.2.2.2.2.2.2.2.2.2.2.2.2.2.2.2.1 p.2.2.2.2.2.2.2.2.2.2.2.2.2.2.2.2.2.2.2.1 p.2.2.2.2.2.2.2.2.2.2.2.2.2.2.2.2.2.2.2.2.1 p.2.2.2.2.2.2.2.2.2.2.2.2.2.2.2.2.2.2.2.2.2.1 p.2.2.2.2.2.2.2.2.2.2.2.2.2.2.2.2.2.2.2.2.2.2=some R} (λp=>CJ 177 [(4,.ptr 4 1 0),(6,.ptr 6 1 0),(7,.d (.int .i64 p.1.1))] [(0,.row 26 70 (List.map A3 p0.Ax),0),(4,.var [.d (.int .i64 0),.d (.int .i64 0),.d (.int .i64 0),.d (.nil 2),.d (.int .i64 0),.d (.nil 7),.d (.int .i64 0),.d (.nil 1),.d (.nil 2),.d (.int .i64 0),.d (.int .i64 0),.d (.int .i64 0),.d (.int .i64 0),.d (.int .i64 0),.d (.int .i64 0),.d (.nil 6),.d (.nil 2),.d (.int .i64 0),.d (.int .i64 0),.d (.int .i64 0),.d (.int .i64 0),.d (.int .i64 0),.d (.int .i64 0),.d (.nil 1)],1),(6,.var [.d (.int .i64 p.1.2.1),.d (.int .i64 0),.d (.int .i64 0),.d (An 2 Ag p.1.2.2.1),.d (.int .i64 p.1.2.2.2.1),.d (An 7 A6 p.1.2.2.2.2.1),.d (.int .i64 p.1.2.2.2.2.2.1),.d (An 1 (D.int .i64) p.1.2.2.2.2.2.2.1),.d (An 2 Bq p.1.2.2.2.2.2.2.2.1),.d (.int .i64 p.1.2.2.2.2.2.2.2.2.1),.d (.int .i64 p.1.2.2.2.2.2.2.2.2.2.1),.d (.int .i64 p.1.2.2.2.2.2.2.2.2.2.2.1),.d (.int .i64 p.1.2.2.2.2.2.2.2.2.2.2.2.1),.d (.int .i64 p.1.2.2.2.2.2.2.2.2.2.2.2.2.1),.d (.int .i64 p.1.2.2.2.2.2.2.2.2.2.2.2.2.2.1),.d (An 6 By p.1.2.2.2.2.2.2.2.2.2.2.2.2.2.2.1),.d (An 2 Cd p.1.2.2.2.2.2.2.2.2.2.2.2.2.2.2.2.1),.d (.int .i64 p.1.2.2.2.2.2.2.2.2.2.2.2.2.2.2.2.2.1),.d (.int .i64 p.1.2.2.2.2.2.2.2.2.2.2.2.2.2.2.2.2.2.1),.d (.int .i64 p.1.2.2.2.2.2.2.2.2.2.2.2.2.2.2.2.2.2.2.1),.d (.int .i64 p.1.2.2.2.2.2.2.2.2.2.2.2.2.2.2.2.2.2.2.2.1),.d (.int .i64 p.1.2.2.2.2.2.2.2.2.2.2.2.2.2.2.2.2.2.2.2.2.1),.d (.int .i64 p.1.2.2.2.2.2.2.2.2.2.2.2.2.2.2.2.2.2.2.2.2.2.1),.d (An 1 (D.int .i64) p.1.2.2.2.2.2.2.2.2.2.2.2.2.2.2.2.2.2.2.2.2.2.2)],1)]) ?_ λp=>?_
 ·conv=>whnf
  refine Td h FK (λh=>?_) (λh=>?_)
  ·exact z20
  conv=>whnf
  refine Td h FK (λh=>?_) (λh=>?_)
  ·conv=>whnf
   refine⟨.inr ?_⟩
   conv=>whnf
   refine Bp h λx27 hx27 h=>?_
   first|refine Hm (JJ _ _ _ hx27) ?_|(simp only[pX];refine Hm (JJ _ _ _ hx27) ?_)
   exact z20
  conv=>whnf
  refine Td h FK (λh=>?_) (λh=>?_)
  ·conv=>whnf
   refine Bp h λx38 hx38 h=>?_;refine A0 (tabulate_Holding_w.h _ _ _ _ _ hx38) ?_
   conv=>whnf
   refine Bp h λx46 hx46 h=>?_;refine A0 (tabulate_Keys_w.h _ _ _ hx46) ?_;exact z20
  conv=>whnf
  refine lC h FK (λe16 h=>?_) (λe16 h=>?_)
  ·conv=>whnf
   refine lL FK e16 ?_
   conv=>whnf
   refine⟨.inr ?_⟩;exact z30
  conv=>whnf
  refine Td h FK (λh=>?_) (λh=>?_)
  ·conv=>whnf
   refine⟨.inr ?_⟩;exact z30
  conv=>whnf
  refine Td h FK (λh=>?_) (λh=>?_)
  ·conv=>whnf
   refine Bp h λx72 hx72 h=>?_;refine A0 (tabulate_Make_w.h _ _ _ _ _ _ _ hx72) ?_
   conv=>whnf
   refine Td h FK (λh=>?_) (λh=>?_)
   ·conv=>whnf
    refine oA (f:=A6) h FK λx81 hx81 h=>?_
    conv=>whnf
    refine Bp h λx84 hx84 h=>?_;refine A0 (Bt _ _ hx84) ?_;exact zq5
   exact zq5
  conv=>whnf
  refine Td h FK (λh=>?_) (λh=>?_)
  ·conv=>whnf
   refine Bp h λx102 hx102 h=>?_;refine A0 (regress_Make_w.h _ _ _ _ _ _ _ hx102) ?_;exact zq5
  conv=>whnf
  refine Td h FK (λh=>?_) (λh=>?_)
  ·conv=>whnf
   refine Bp h λx124 hx124 h=>?_;refine A0 (survive_Make_w.h _ _ _ _ _ _ _ hx124) ?_;exact zq5
  conv=>whnf
  refine Td h FK (λh=>?_) (λh=>?_)
  ·conv=>whnf
   refine Bp h λx146 hx146 h=>?_;refine A0 (plot_Hist_w.h _ _ _ _ _ _ _ hx146) ?_;exact zq5
  conv=>whnf
  refine Td h FK (λh=>?_) (λh=>?_)
  ·conv=>whnf
   refine Bp h λx166 hx166 h=>?_;refine A0 (plot_Box_w.h _ _ _ _ _ _ hx166) ?_;exact zq5
  conv=>whnf
  refine⟨.inr ?_⟩
  conv=>whnf
  refine Bp h λx13 hx13 h=>?_
  first|refine Hm (ih_interpret_room_pair _ _ _ hx13) ?_|(simp only[pX];refine Hm (ih_interpret_room_pair _ _ _ hx13) ?_)
  exact z20
 obtain⟨⟨j7_1,k6_0_1,k6_3_1,k6_4_1,k6_5_1,k6_6_1,k6_7_1,k6_8_1,k6_9_1,k6_10_1,k6_11_1,k6_12_1,k6_13_1,k6_14_1,k6_15_1,k6_16_1,k6_17_1,k6_18_1,k6_19_1,k6_20_1,k6_21_1,k6_22_1,k6_23_1⟩,h⟩:=p;simp only[Bs]at h
 conv=>whnf
 refine Td h FK (λh=>?_) (λh=>?_)
 ·exact z20
 exact z20
theorem Pl(d:Nat)(self_interpret_room_value:Ay->Ap->Option (AA×Int))(ih:W2 prog 22 self_interpret_room_value)(self_interpret_room_pair:Ay->Ap->Option (AA×Int))(ih1:W2 prog 61 self_interpret_room_pair):W2 prog 61 (Cj d self_interpret_room_value self_interpret_room_pair):=by
 intro p0 p1 R h;refine uD func61 ?_;unfold Cj at h;exact Ao
theorem Pk(d:Nat)(self_interpret_room_value:Ay->Ap->Option (AA×Int))(ih_interpret_room_value:∀(p0:Ay)(p1:Ap)(R:AA×Int) ,self_interpret_room_value p0 p1=some R->Dl prog 22 [.cc none [.d (An 2 Ah p0.I.Ae.J),.d (An 7 Al p0.I.Ae.A),.d (.str p0.I.K.Af),.d (.int .i64 p0.I.K.Ag),.d (An 2 Ag p0.I.K.X),.d (An 1 (An 1 (D.int .i64)) p0.I.K.G),.own 26 70 (List.map A3 p0.Ax)],.d (AO p1)] [.cc none [.d (An 2 Ah p0.I.Ae.J),.d (An 7 Al p0.I.Ae.A),.d (.str p0.I.K.Af),.d (.int .i64 p0.I.K.Ag),.d (An 2 Ag p0.I.K.X),.d (An 1 (An 1 (D.int .i64)) p0.I.K.G),.own 26 70 (List.map A3 p0.Ax)],.any] (.tup [.d (CQ R.1),.d (.int .i64 R.2)]))(self_interpret_room_pair:Ay->Ap->Option (AA×Int))(ih_interpret_room_pair:∀(p0:Ay)(p1:Ap)(R:AA×Int) ,self_interpret_room_pair p0 p1=some R->Dl prog 61 [.cc none [.d (An 2 Ah p0.I.Ae.J),.d (An 7 Al p0.I.Ae.A),.d (.str p0.I.K.Af),.d (.int .i64 p0.I.K.Ag),.d (An 2 Ag p0.I.K.X),.d (An 1 (An 1 (D.int .i64)) p0.I.K.G),.own 26 70 (List.map A3 p0.Ax)],.d (AO p1)] [.cc none [.d (An 2 Ah p0.I.Ae.J),.d (An 7 Al p0.I.Ae.A),.d (.str p0.I.K.Af),.d (.int .i64 p0.I.K.Ag),.d (An 2 Ag p0.I.K.X),.d (An 1 (An 1 (D.int .i64)) p0.I.K.G),.own 26 70 (List.map A3 p0.Ax)],.any] (.tup [.d (CQ R.1),.d (.int .i64 R.2)]))(p0:Ay)(p1:Ap)(R:AA×Int)  (h:Cj d self_interpret_room_value self_interpret_room_pair p0 p1=some R):Dl prog 61 [.cc none [.d (An 2 Ah p0.I.Ae.J),.d (An 7 Al p0.I.Ae.A),.d (.str p0.I.K.Af),.d (.int .i64 p0.I.K.Ag),.d (An 2 Ag p0.I.K.X),.d (An 1 (An 1 (D.int .i64)) p0.I.K.G),.own 26 70 (List.map A3 p0.Ax)],.d (AO p1)] [.cc none [.d (An 2 Ah p0.I.Ae.J),.d (An 7 Al p0.I.Ae.A),.d (.str p0.I.K.Af),.d (.int .i64 p0.I.K.Ag),.d (An 2 Ag p0.I.K.X),.d (An 1 (An 1 (D.int .i64)) p0.I.K.G),.own 26 70 (List.map A3 p0.Ax)],.any] (.tup [.d (CQ R.1),.d (.int .i64 R.2)]):=by
 refine bK func61 (by kernel_rfl) rfl ?_ ?_
 ·intro i x y hx hy
  match i,hx,hy with
  | 0,hx,hy=>cases P3 hx;cases P3 hy;exact⟨[_,_,_,_,_,_],_,_,_,_,rfl,rfl⟩
  | 1,hx,hy=>simp at hx hy;subst hx;subst hy;trivial
  | i+2,hx,hy=>simp at hx
 unfold Cj at h
 conv=>whnf
 refine z14 ?_
 conv=>whnf
 refine⟨.inr ?_⟩
 conv=>whnf
 refine oA (f:=Cg) h FK λx15 hx15 h=>?_;rw[Bm x15]
 conv=>whnf
 refine Bp h λx17 hx17 h=>?_
 first|refine Hm (ih_interpret_room_value _ _ _ hx17) ?_|(simp only[pX];refine Hm (ih_interpret_room_value _ _ _ hx17) ?_)
 conv=>whnf
 refine Td h FK (λh=>?_) (λh=>?_)
 ·exact z20
 conv=>whnf
 refine z14 ?_
 conv=>whnf
 refine⟨.inr ?_⟩
 conv=>whnf
 refine oA (f:=Cg) h FK λx28 hx28 h=>?_;rw[Bm x28]
 conv=>whnf
 refine Bp h λx30 hx30 h=>?_
 first|refine Hm (ih_interpret_room_value _ _ _ hx30) ?_|(simp only[pX];refine Hm (ih_interpret_room_value _ _ _ hx30) ?_)
 conv=>whnf
 refine Td h FK (λh=>?_) (λh=>?_)
 ·exact z20
 conv=>whnf
 refine Td h FK (λh=>?_) (λh=>?_)
 ·conv=>whnf
  refine Bp h λx51 hx51 h=>?_;refine A0 (MS _ _ _ hx51) ?_
  conv=>whnf
  refine Td h FK (λh=>?_) (λh=>?_)
  ·exact z20
  conv=>whnf
  refine z14 ?_;exact z21
 conv=>whnf
 refine Td h FK (λh=>?_) (λh=>?_)
 ·conv=>whnf
  refine Bp h λx51 hx51 h=>?_;refine A0 (MQ _ _ _ hx51) ?_
  conv=>whnf
  refine Td h FK (λh=>?_) (λh=>?_)
  ·exact z20
  conv=>whnf
  refine z14 ?_;exact z21
 conv=>whnf
 refine Td h FK (λh=>?_) (λh=>?_)
 ·conv=>whnf
  refine Bp h λx51 hx51 h=>?_;refine A0 (MP _ _ _ hx51) ?_
  conv=>whnf
  refine Td h FK (λh=>?_) (λh=>?_)
  ·exact z20
  conv=>whnf
  refine z14 ?_;exact z21
 conv=>whnf
 refine Bp h λx51 hx51 h=>?_;refine A0 (MO _ _ _ hx51) ?_
 conv=>whnf
 refine Td h FK (λh=>?_) (λh=>?_)
 ·exact z20
 conv=>whnf
 refine z14 ?_;exact z21
theorem Ca:∀d:Nat,(W2 prog 22 (AE d))/\(W2 prog 61 (BR d))
 | 0=>by
  refine⟨?_,?_⟩<;>((repeat intro _);rename_i h;cases h)
 | d+1=>by
  have ih:=Ca d;exact⟨O5 d _ (ih).1 _ (ih).2,Pl d _ (ih).1 _ (ih).2⟩
instance interpret_room_value_w:CS prog 22 (∀(d:Nat),W2 prog 22 (AE d)):=⟨λd=>(Ca d).1⟩
instance interpret_room_pair_w:CS prog 61 (∀(d:Nat),W2 prog 61 (BR d)):=⟨λd=>(Ca d).2⟩
theorem Db:∀d:Nat,(∀(p0:Ay)(p1:Ap)(R:AA×Int) ,AE d p0 p1=some R->Dl prog 22 [.cc none [.d (An 2 Ah p0.I.Ae.J),.d (An 7 Al p0.I.Ae.A),.d (.str p0.I.K.Af),.d (.int .i64 p0.I.K.Ag),.d (An 2 Ag p0.I.K.X),.d (An 1 (An 1 (D.int .i64)) p0.I.K.G),.own 26 70 (List.map A3 p0.Ax)],.d (AO p1)] [.cc none [.d (An 2 Ah p0.I.Ae.J),.d (An 7 Al p0.I.Ae.A),.d (.str p0.I.K.Af),.d (.int .i64 p0.I.K.Ag),.d (An 2 Ag p0.I.K.X),.d (An 1 (An 1 (D.int .i64)) p0.I.K.G),.own 26 70 (List.map A3 p0.Ax)],.any] (.tup [.d (CQ R.1),.d (.int .i64 R.2)]))/\(∀(p0:Ay)(p1:Ap)(R:AA×Int) ,BR d p0 p1=some R->Dl prog 61 [.cc none [.d (An 2 Ah p0.I.Ae.J),.d (An 7 Al p0.I.Ae.A),.d (.str p0.I.K.Af),.d (.int .i64 p0.I.K.Ag),.d (An 2 Ag p0.I.K.X),.d (An 1 (An 1 (D.int .i64)) p0.I.K.G),.own 26 70 (List.map A3 p0.Ax)],.d (AO p1)] [.cc none [.d (An 2 Ah p0.I.Ae.J),.d (An 7 Al p0.I.Ae.A),.d (.str p0.I.K.Af),.d (.int .i64 p0.I.K.Ag),.d (An 2 Ag p0.I.K.X),.d (An 1 (An 1 (D.int .i64)) p0.I.K.G),.own 26 70 (List.map A3 p0.Ax)],.any] (.tup [.d (CQ R.1),.d (.int .i64 R.2)]))
 | 0=>by
  refine⟨?_,?_⟩<;>(intros;rename_i h;cases h)
 | d+1=>by
  have ih:=Db d;exact⟨O4 d _ (ih).1 _ (ih).2,Pk d _ (ih).1 _ (ih).2⟩
theorem JK(d:Nat):∀(p0:Ay)(p1:Ap)(R:AA×Int) ,AE d p0 p1=some R->Dl prog 22 [.cc none [.d (An 2 Ah p0.I.Ae.J),.d (An 7 Al p0.I.Ae.A),.d (.str p0.I.K.Af),.d (.int .i64 p0.I.K.Ag),.d (An 2 Ag p0.I.K.X),.d (An 1 (An 1 (D.int .i64)) p0.I.K.G),.own 26 70 (List.map A3 p0.Ax)],.d (AO p1)] [.cc none [.d (An 2 Ah p0.I.Ae.J),.d (An 7 Al p0.I.Ae.A),.d (.str p0.I.K.Af),.d (.int .i64 p0.I.K.Ag),.d (An 2 Ag p0.I.K.X),.d (An 1 (An 1 (D.int .i64)) p0.I.K.G),.own 26 70 (List.map A3 p0.Ax)],.any] (.tup [.d (CQ R.1),.d (.int .i64 R.2)]):=(Db d).1
end Go.Proofs.YthchnhoalhbkcaaGreatDoor.P
