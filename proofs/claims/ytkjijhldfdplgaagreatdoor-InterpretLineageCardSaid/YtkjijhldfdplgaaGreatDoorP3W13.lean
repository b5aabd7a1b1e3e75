/- P3W13 -/
import Derived.Test.YtkjijhldfdplgaaGreatDoorP3W10
import Derived.Test.YtkjijhldfdplgaaGreatDoorP3W12
open Go.Proofs.Tryz
set_option linter.all false
namespace Go.Proofs.YtkjijhldfdplgaaGreatDoor.P
open Go.Abs Go.Proofs
set_option maxRecDepth 100000
set_option maxHeartbeats 4000000
instance {a0 a1 a2}:LS (λa s=>FU a0 a1 a2 a s.1 s.2) 89 [2,5,6,15,16,17,58,59] (λs=>[(60,.i s.1)]) [5,6,54] (λs=>[(57,.row 1 4 (List.map D.bool s.2),1)]):=⟨trivial⟩
instance survive_Make_w:CS prog 72 (∀d:Nat,W5 prog 72 (Dm d)):=⟨λd a b p2 p3 c R h=>by
 refine uD func72 ?_;unfold Dm at h;exact As⟩
instance plot_usable_w:CS prog 136 (∀d:Nat,W3 prog 136 (Ea d)):=⟨λd a b p2 R h=>by
 refine uD func136 ?_;unfold Ea at h;exact As⟩
instance plot_large_w:CS prog 217 (W1 prog 217 NX):=⟨λa R h=>by
 refine uD func217 ?_;unfold NX at h;exact As⟩
instance plot_down_w:CS prog 218 (W2 prog 218 SH):=⟨λa b R h=>by
 refine uD func218 ?_;unfold SH at h;exact As⟩
instance plot_Bins_w:CS prog 138 (W2 prog 138 Nn):=⟨λg d R h=>by
 refine OT [5] func138 (by kernel_rfl) ?_;unfold Nn at h;refine F3 {p:Unit // MY g d=some R} (λp=>CY 71 [(0,.l 1 D.z g),(1,.i d)] []) ?_ λp=>?_
 ·refine Do h (λh=>?_) λh=>?_
  ·conv=>whnf
   exact z26
  refine Do h (λh=>?_) λh=>?_
  ·exact z26
  refine E9 h (λ_=>slices_ContainsFunc_Lint_int_w.h _ _ _ _ _ (λa0 _ h=>plot_large_w.h a0  _ h)) λj h=>?_;refine Do h (λh=>?_) λh=>?_
  ·conv=>whnf
   exact z26
  conv=>whnf
  exact⟨⟨(),h⟩,C3⟩
 obtain⟨_,h⟩:=p;simp only[MY]at h;refine E9 h (λ_=>AX _ _) λk h=>?_;refine Vw h (λ_=>Fa _ _) λa h=>?_
 conv=>whnf
 refine z7 h (λp=>CY 71 [(1,.i d),(7,.sl 7 1),(31,.sl 28 1),(32,.i (a.length:Int)),(33,.i p.1)] [(7,.row 2 175 (List.map BX p.2),1),(28,.row 1 3 (List.map D.z a),1)]) C3 λ_ _ ⟨e,i⟩ h=>?_;simp only[MW]at h;refine Do h (λh=>?_) λh=>?_
 ·refine Ph (f:=D.z) h FK λl b h=>?_;refine Zc (f:=D.z) b FK ?_;refine E9 h (λ_=>plot_down_w.h _ _ _) λm h=>?_;refine Do h (λh=>?_) λh=>?_
  ·refine QW h λhr h=>?_;refine z8 ?_
   try rw[Wa]
   exact z30
  refine Ph (f:=BX) h FK λn c h=>?_;refine Zc (f:=BX) c FK ?_;refine Do h (λh=>?_) λh=>?_
  ·conv=>whnf
   refine QW h λhr h=>?_;refine z8 ?_
   try rw[Wa]
   exact z30
  exact z30
 conv=>whnf
 obtain rfl:=sY h;refine⟨.inl ?_⟩
 conv=>whnf
 exact⟨c9⟩⟩
instance {a0 a1 a2 a3 a4 a5}:LS (λa s=>IW a0 a1 a2 a3 a4 a5 a s.1 s.2.1 s.2.2) 80 [2,3,5,6,14,15,35,36] (λs=>[(37,.i s.1)]) [5,6,35] (λs=>[(14,.row 1 3 (List.map D.z s.2.1),1),(15,.row 1 3 (List.map D.z s.2.2),1)]):=⟨trivial⟩
instance plot_Hist_w:CS prog 73 (∀d:Nat,W5 prog 73 (FS d)):=⟨λd a b p2 p3 c R h=>by
 refine uD func73 ?_;unfold FS at h;exact As⟩
instance plot_Quartiles_w:CS prog 139 (W1 prog 139 IA):=⟨λp R h=>by
 refine rj func139 ?_;unfold IA at h;refine Oy h λh=>?_;refine E9 h (λ_=>slices_ContainsFunc_Lint_int_w.h _ _ _ _ _ (λa0 _ h=>plot_large_w.h a0  _ h)) λg h=>?_;refine Oy h λh=>?_;refine Oy h λh=>?_;refine E9 h (λ_=>AX _ _) λi h=>?_;refine Vw h (λ_=>Fa _ _) λj h=>?_
 conv=>whnf
 refine z13 ?_;refine Ph (f:=D.z) h FK λk a h=>?_;refine Zc (f:=D.z) a FK ?_
 conv=>whnf
 refine⟨by omega,?_⟩;refine Ph (f:=D.z) h FK λl b h=>?_;refine Zc (f:=D.z) b FK ?_
 conv=>whnf
 refine⟨by omega,?_⟩;refine Ph (f:=D.z) h FK λm c h=>?_;refine Zc (f:=D.z) c FK ?_
 conv=>whnf
 refine⟨by omega,?_⟩;refine Ph (f:=D.z) h FK λn d h=>?_;refine Zc (f:=D.z) d FK ?_;refine Ph (f:=D.z) h FK λo e h=>?_;refine Zc (f:=D.z) e FK ?_
 conv=>whnf
 obtain rfl:=sY h;exact⟨c9⟩⟩
instance plot_Box_w:CS prog 74 (∀d:Nat,W4 prog 74 (H9 d)):=⟨λd a b p2 p3 R h=>by
 refine uD func74 ?_;unfold H9 at h;exact As⟩
theorem P7(d:Nat)(a:A0->Ar->Option (A9×Int))(ih:W2 prog 29 a)(b:A0->Ar->Option (A9×Int))(ih1:W2 prog 75 b):W2 prog 29 (AD d a b):=by
 intro S T R h;refine OT [32] func29 (by kernel_rfl) ?_;unfold AD at h;refine F3 {p:(Int×Int×(List Ac)×Int×(List Ap)×Int×(List Int)×(List AO)×Int×Int×Int×Int×Int×Int×(List Bd)×(List Ei)×Int×Int×Int×Int×Int×Int×(List Int)) // Bw p.1 p.2.1 p.2.2.1 p.2.2.2.1 p.2.2.2.2.1 p.2.2.2.2.2.1 p.2.2.2.2.2.2.1 p.2.2.2.2.2.2.2.1 p.2.2.2.2.2.2.2.2.1 p.2.2.2.2.2.2.2.2.2.1 p.2.2.2.2.2.2.2.2.2.2.1 p.2.2.2.2.2.2.2.2.2.2.2.1 p.2.2.2.2.2.2.2.2.2.2.2.2.1 p.2.2.2.2.2.2.2.2.2.2.2.2.2.1 p.2.2.2.2.2.2.2.2.2.2.2.2.2.2.1 p.2.2.2.2.2.2.2.2.2.2.2.2.2.2.2.1 p.2.2.2.2.2.2.2.2.2.2.2.2.2.2.2.2.1 p.2.2.2.2.2.2.2.2.2.2.2.2.2.2.2.2.2.1 p.2.2.2.2.2.2.2.2.2.2.2.2.2.2.2.2.2.2.1 p.2.2.2.2.2.2.2.2.2.2.2.2.2.2.2.2.2.2.2.1 p.2.2.2.2.2.2.2.2.2.2.2.2.2.2.2.2.2.2.2.2.1 p.2.2.2.2.2.2.2.2.2.2.2.2.2.2.2.2.2.2.2.2.2.1 p.2.2.2.2.2.2.2.2.2.2.2.2.2.2.2.2.2.2.2.2.2.2=some R} (λp=>CY 177 [(4,.ptr 4 1 0),(6,.ptr 6 1 0),(7,.i p.1.1)] [(4,.var [.i 0,.i 0,.i 0,.n 2,.i 0,.n 7,.i 0,.n 1,.n 2,.i 0,.i 0,.i 0,.i 0,.i 0,.i 0,.n 6,.n 2,.i 0,.i 0,.i 0,.i 0,.i 0,.i 0,.n 1],1),(6,.var [.i p.1.2.1,.i 0,.i 0,.l 2 Ad p.1.2.2.1,.i p.1.2.2.2.1,.l 7 A5 p.1.2.2.2.2.1,.i p.1.2.2.2.2.2.1,.l 1 D.z p.1.2.2.2.2.2.2.1,.l 2 Bz p.1.2.2.2.2.2.2.2.1,.i p.1.2.2.2.2.2.2.2.2.1,.i p.1.2.2.2.2.2.2.2.2.2.1,.i p.1.2.2.2.2.2.2.2.2.2.2.1,.i p.1.2.2.2.2.2.2.2.2.2.2.2.1,.i p.1.2.2.2.2.2.2.2.2.2.2.2.2.1,.i p.1.2.2.2.2.2.2.2.2.2.2.2.2.2.1,.l 6 Bm p.1.2.2.2.2.2.2.2.2.2.2.2.2.2.2.1,.l 2 BX p.1.2.2.2.2.2.2.2.2.2.2.2.2.2.2.2.1,.i p.1.2.2.2.2.2.2.2.2.2.2.2.2.2.2.2.2.1,.i p.1.2.2.2.2.2.2.2.2.2.2.2.2.2.2.2.2.2.1,.i p.1.2.2.2.2.2.2.2.2.2.2.2.2.2.2.2.2.2.2.1,.i p.1.2.2.2.2.2.2.2.2.2.2.2.2.2.2.2.2.2.2.2.1,.i p.1.2.2.2.2.2.2.2.2.2.2.2.2.2.2.2.2.2.2.2.2.1,.i p.1.2.2.2.2.2.2.2.2.2.2.2.2.2.2.2.2.2.2.2.2.2.1,.l 1 D.z p.1.2.2.2.2.2.2.2.2.2.2.2.2.2.2.2.2.2.2.2.2.2.2],1)]) ?_ λp=>?_
 ·refine Iu h λh=>?_;refine Do h (λh=>?_) λh=>?_
  ·refine E9 h (λ_=>interpret_room_named_w.h _ _ _) λK h=>?_;exact Vu h
  refine Do h (λh=>?_) λh=>?_
  ·refine E9 h (λ_=>tabulate_Holding_w.h _ _ _ _ _) λL h=>?_;refine E9 h (λ_=>tabulate_Keys_w.h _ _ _) λM h=>?_;exact Vu h
  conv=>whnf
  refine lI h FK (λe h=>?_) (λe h=>?_)
  ·conv=>whnf
   refine oy FK e ?_
   conv=>whnf
   refine Bi h λx53 hx53 h=>?_;refine A3 (interpret_room_sum_w.h _ _ _ _ hx53) ?_;exact Vu h
  refine Do h (λh=>?_) λh=>?_
  ·conv=>whnf
   refine Bi h λx53 hx53 h=>?_;refine A3 (interpret_room_sum_w.h _ _ _ _ hx53) ?_;exact Vu h
  refine Do h (λh=>?_) λh=>?_
  ·refine E9 h (λ_=>tabulate_Make_w.h _ _ _ _ _ _ _) λN h=>?_;refine Do h (λh=>?_) λh=>?_
   ·refine QX (f:=A5) h λO _ h=>?_;refine E9 h (λ_=>AX _ _) λP h=>?_;exact z21
   exact z21
  refine Do h (λh=>?_) λh=>?_
  ·refine E9 h (λ_=>regress_Make_w.h _ _ _ _ _ _ _) λF h=>?_;exact z21
  refine Do h (λh=>?_) λh=>?_
  ·refine E9 h (λ_=>survive_Make_w.h _ _ _ _ _ _ _) λG h=>?_;exact z21
  refine Do h (λh=>?_) λh=>?_
  ·refine E9 h (λ_=>plot_Hist_w.h _ _ _ _ _ _ _) λH h=>?_;exact z21
  refine Do h (λh=>?_) λh=>?_
  ·refine E9 h (λ_=>plot_Box_w.h _ _ _ _ _ _) λI h=>?_;exact z21
  conv=>whnf
  refine Bi h λQ c h=>?_
  first|refine A3 (ih1 _ _ _ c) ?_|(simp only[sX];refine A3 (ih1 _ _ _ c) ?_)
  exact Vu h
 obtain⟨⟨J,w,x,y,z,A,B,C,E,g,i,j,k,l,m,n,o,q,r,s,t,u,v⟩,h⟩:=p;simp only[Bw]at h;exact pK h
theorem P6(d:Nat)(a:A0->Ar->Option (A9×Int))(g:∀(e:A0)(j:Ar)(R:A9×Int) ,a e j=some R->DU prog 29 [.cc none [.l 2 Ae e.I.Ai.K,.l 7 Ak e.I.Ai.A,.t e.I.Q.Ae,.i e.I.Q.Af,.l 2 Ad e.I.Q.H,.l 1 (Am 1 D.z) e.I.Q.C,.own 26 112 (List.map A8 e.Aw)],.d (AR j)] [.cc none [.l 2 Ae e.I.Ai.K,.l 7 Ak e.I.Ai.A,.t e.I.Q.Ae,.i e.I.Q.Af,.l 2 Ad e.I.Q.H,.l 1 (Am 1 D.z) e.I.Q.C,.own 26 112 (List.map A8 e.Aw)],.any] (.tup [.d (Dt R.1),.i R.2]))(b:A0->Ar->Option (A9×Int))(c:∀(e:A0)(j:Ar)(R:A9×Int) ,b e j=some R->DU prog 75 [.cc none [.l 2 Ae e.I.Ai.K,.l 7 Ak e.I.Ai.A,.t e.I.Q.Ae,.i e.I.Q.Af,.l 2 Ad e.I.Q.H,.l 1 (Am 1 D.z) e.I.Q.C,.own 26 112 (List.map A8 e.Aw)],.d (AR j)] [.cc none [.l 2 Ae e.I.Ai.K,.l 7 Ak e.I.Ai.A,.t e.I.Q.Ae,.i e.I.Q.Af,.l 2 Ad e.I.Q.H,.l 1 (Am 1 D.z) e.I.Q.C,.own 26 112 (List.map A8 e.Aw)],.any] (.tup [.d (Dt R.1),.i R.2]))(e:A0)(j:Ar)(R:A9×Int)  (h:AD d a b e j=some R):DU prog 29 [.cc none [.l 2 Ae e.I.Ai.K,.l 7 Ak e.I.Ai.A,.t e.I.Q.Ae,.i e.I.Q.Af,.l 2 Ad e.I.Q.H,.l 1 (Am 1 D.z) e.I.Q.C,.own 26 112 (List.map A8 e.Aw)],.d (AR j)] [.cc none [.l 2 Ae e.I.Ai.K,.l 7 Ak e.I.Ai.A,.t e.I.Q.Ae,.i e.I.Q.Af,.l 2 Ad e.I.Q.H,.l 1 (Am 1 D.z) e.I.Q.C,.own 26 112 (List.map A8 e.Aw)],.any] (.tup [.d (Dt R.1),.i R.2]):=by
 refine Yw [32] func29 (by kernel_rfl) rfl ?_ ?_
 ·intro i x y hx hy
  match i,hx,hy with
  | 0,hx,hy=>cases sY hx;cases sY hy;exact⟨[_,_,_,_,_,_],_,_,_,_,rfl,rfl⟩
  | 1,hx,hy=>simp at hx hy;subst hx;subst hy;trivial
  | i+2,hx,hy=>simp at hx
 unfold AD at h
 conv=>whnf
 refine F3 {p:(Int×Int×(List Ac)×Int×(List Ap)×Int×(List Int)×(List AO)×Int×Int×Int×Int×Int×Int×(List Bd)×(List Ei)×Int×Int×Int×Int×Int×Int×(List Int)) // Bw p.1 p.2.1 p.2.2.1 p.2.2.2.1 p.2.2.2.2.1 p.2.2.2.2.2.1 p.2.2.2.2.2.2.1 p.2.2.2.2.2.2.2.1 p.2.2.2.2.2.2.2.2.1 p.2.2.2.2.2.2.2.2.2.1 p.2.2.2.2.2.2.2.2.2.2.1 p.2.2.2.2.2.2.2.2.2.2.2.1 p.2.2.2.2.2.2.2.2.2.2.2.2.1 p.2.2.2.2.2.2.2.2.2.2.2.2.2.1 p.2.2.2.2.2.2.2.2.2.2.2.2.2.2.1 p.2.2.2.2.2.2.2.2.2.2.2.2.2.2.2.1 p.2.2.2.2.2.2.2.2.2.2.2.2.2.2.2.2.1 p.2.2.2.2.2.2.2.2.2.2.2.2.2.2.2.2.2.1 p.2.2.2.2.2.2.2.2.2.2.2.2.2.2.2.2.2.2.1 p.2.2.2.2.2.2.2.2.2.2.2.2.2.2.2.2.2.2.2.1 p.2.2.2.2.2.2.2.2.2.2.2.2.2.2.2.2.2.2.2.2.1 p.2.2.2.2.2.2.2.2.2.2.2.2.2.2.2.2.2.2.2.2.2.1 p.2.2.2.2.2.2.2.2.2.2.2.2.2.2.2.2.2.2.2.2.2.2=some R} (λp=>CY 177 [(4,.ptr 4 1 0),(6,.ptr 6 1 0),(7,.i p.1.1)] [(0,.row 26 112 (List.map A8 e.Aw),0),(4,.var [.i 0,.i 0,.i 0,.n 2,.i 0,.n 7,.i 0,.n 1,.n 2,.i 0,.i 0,.i 0,.i 0,.i 0,.i 0,.n 6,.n 2,.i 0,.i 0,.i 0,.i 0,.i 0,.i 0,.n 1],1),(6,.var [.i p.1.2.1,.i 0,.i 0,.l 2 Ad p.1.2.2.1,.i p.1.2.2.2.1,.l 7 A5 p.1.2.2.2.2.1,.i p.1.2.2.2.2.2.1,.l 1 D.z p.1.2.2.2.2.2.2.1,.l 2 Bz p.1.2.2.2.2.2.2.2.1,.i p.1.2.2.2.2.2.2.2.2.1,.i p.1.2.2.2.2.2.2.2.2.2.1,.i p.1.2.2.2.2.2.2.2.2.2.2.1,.i p.1.2.2.2.2.2.2.2.2.2.2.2.1,.i p.1.2.2.2.2.2.2.2.2.2.2.2.2.1,.i p.1.2.2.2.2.2.2.2.2.2.2.2.2.2.1,.l 6 Bm p.1.2.2.2.2.2.2.2.2.2.2.2.2.2.2.1,.l 2 BX p.1.2.2.2.2.2.2.2.2.2.2.2.2.2.2.2.1,.i p.1.2.2.2.2.2.2.2.2.2.2.2.2.2.2.2.2.1,.i p.1.2.2.2.2.2.2.2.2.2.2.2.2.2.2.2.2.2.1,.i p.1.2.2.2.2.2.2.2.2.2.2.2.2.2.2.2.2.2.2.1,.i p.1.2.2.2.2.2.2.2.2.2.2.2.2.2.2.2.2.2.2.2.1,.i p.1.2.2.2.2.2.2.2.2.2.2.2.2.2.2.2.2.2.2.2.2.1,.i p.1.2.2.2.2.2.2.2.2.2.2.2.2.2.2.2.2.2.2.2.2.2.1,.l 1 D.z p.1.2.2.2.2.2.2.2.2.2.2.2.2.2.2.2.2.2.2.2.2.2.2],1)]) ?_ λp=>?_
 ·conv=>whnf
  refine Td h FK (λh=>?_) (λh=>?_)
  ·exact z22
  conv=>whnf
  refine Td h FK (λh=>?_) (λh=>?_)
  ·conv=>whnf
   refine⟨.inr ?_⟩
   conv=>whnf
   refine Bi h λx27 k h=>?_
   first|refine Ew (Km _ _ _ k) ?_|(simp only[sX];refine Ew (Km _ _ _ k) ?_)
   exact z22
  conv=>whnf
  refine Td h FK (λh=>?_) (λh=>?_)
  ·conv=>whnf
   refine Bi h λx38 r h=>?_;refine A3 (tabulate_Holding_w.h _ _ _ _ _ r) ?_
   conv=>whnf
   refine Bi h λx46 s h=>?_;refine A3 (tabulate_Keys_w.h _ _ _ s) ?_;exact z22
  conv=>whnf
  refine lI h FK (λt h=>?_) (λt h=>?_)
  ·conv=>whnf
   refine oy FK t ?_
   conv=>whnf
   refine⟨.inr ?_⟩;exact z31
  conv=>whnf
  refine Td h FK (λh=>?_) (λh=>?_)
  ·conv=>whnf
   refine⟨.inr ?_⟩;exact z31
  conv=>whnf
  refine Td h FK (λh=>?_) (λh=>?_)
  ·conv=>whnf
   refine Bi h λx72 u h=>?_;refine A3 (tabulate_Make_w.h _ _ _ _ _ _ _ u) ?_
   conv=>whnf
   refine Td h FK (λh=>?_) (λh=>?_)
   ·conv=>whnf
    refine rq (f:=A5) h FK λx81 W h=>?_
    conv=>whnf
    refine Bi h λx84 v h=>?_;refine A3 (AX _ _ v) ?_
    conv=>whnf
    exact z18
   conv=>whnf
   exact z18
  conv=>whnf
  refine Td h FK (λh=>?_) (λh=>?_)
  ·conv=>whnf
   refine Bi h λX m h=>?_;refine A3 (regress_Make_w.h _ _ _ _ _ _ _ m) ?_
   conv=>whnf
   exact z18
  conv=>whnf
  refine Td h FK (λh=>?_) (λh=>?_)
  ·conv=>whnf
   refine Bi h λY n h=>?_;refine A3 (survive_Make_w.h _ _ _ _ _ _ _ n) ?_
   conv=>whnf
   exact z18
  conv=>whnf
  refine Td h FK (λh=>?_) (λh=>?_)
  ·conv=>whnf
   refine Bi h λZ o h=>?_;refine A3 (plot_Hist_w.h _ _ _ _ _ _ _ o) ?_
   conv=>whnf
   exact z18
  conv=>whnf
  refine Td h FK (λh=>?_) (λh=>?_)
  ·conv=>whnf
   refine Bi h λx166 q h=>?_;refine A3 (plot_Box_w.h _ _ _ _ _ _ q) ?_
   conv=>whnf
   exact z18
  conv=>whnf
  refine⟨.inr ?_⟩
  conv=>whnf
  refine Bi h λx13 l h=>?_
  first|refine Ew (c _ _ _ l) ?_|(simp only[sX];refine Ew (c _ _ _ l) ?_)
  exact z22
 obtain⟨⟨j7_1,N,O,P,Q,S,T,U,V,w,z,A,B,C,E,F,G,H,I,J,K,L,M⟩,h⟩:=p;simp only[Bw]at h
 conv=>whnf
 refine Td h FK (λh=>?_) (λh=>?_)
 ·exact z22
 exact z22
theorem Qo(d:Nat)(a:A0->Ar->Option (A9×Int))(ih:W2 prog 29 a)(b:A0->Ar->Option (A9×Int))(ih1:W2 prog 75 b):W2 prog 75 (Bl d a b):=by
 intro c e R h;refine uD func75 ?_;unfold Bl at h;exact As
theorem Qn(d:Nat)(b:A0->Ar->Option (A9×Int))(a:∀(e:A0)(k:Ar)(R:A9×Int) ,b e k=some R->DU prog 29 [.cc none [.l 2 Ae e.I.Ai.K,.l 7 Ak e.I.Ai.A,.t e.I.Q.Ae,.i e.I.Q.Af,.l 2 Ad e.I.Q.H,.l 1 (Am 1 D.z) e.I.Q.C,.own 26 112 (List.map A8 e.Aw)],.d (AR k)] [.cc none [.l 2 Ae e.I.Ai.K,.l 7 Ak e.I.Ai.A,.t e.I.Q.Ae,.i e.I.Q.Af,.l 2 Ad e.I.Q.H,.l 1 (Am 1 D.z) e.I.Q.C,.own 26 112 (List.map A8 e.Aw)],.any] (.tup [.d (Dt R.1),.i R.2]))(c:A0->Ar->Option (A9×Int))(j:∀(e:A0)(k:Ar)(R:A9×Int) ,c e k=some R->DU prog 75 [.cc none [.l 2 Ae e.I.Ai.K,.l 7 Ak e.I.Ai.A,.t e.I.Q.Ae,.i e.I.Q.Af,.l 2 Ad e.I.Q.H,.l 1 (Am 1 D.z) e.I.Q.C,.own 26 112 (List.map A8 e.Aw)],.d (AR k)] [.cc none [.l 2 Ae e.I.Ai.K,.l 7 Ak e.I.Ai.A,.t e.I.Q.Ae,.i e.I.Q.Af,.l 2 Ad e.I.Q.H,.l 1 (Am 1 D.z) e.I.Q.C,.own 26 112 (List.map A8 e.Aw)],.any] (.tup [.d (Dt R.1),.i R.2]))(e:A0)(k:Ar)(R:A9×Int)  (h:Bl d b c e k=some R):DU prog 75 [.cc none [.l 2 Ae e.I.Ai.K,.l 7 Ak e.I.Ai.A,.t e.I.Q.Ae,.i e.I.Q.Af,.l 2 Ad e.I.Q.H,.l 1 (Am 1 D.z) e.I.Q.C,.own 26 112 (List.map A8 e.Aw)],.d (AR k)] [.cc none [.l 2 Ae e.I.Ai.K,.l 7 Ak e.I.Ai.A,.t e.I.Q.Ae,.i e.I.Q.Af,.l 2 Ad e.I.Q.H,.l 1 (Am 1 D.z) e.I.Q.C,.own 26 112 (List.map A8 e.Aw)],.any] (.tup [.d (Dt R.1),.i R.2]):=by
 refine eC func75 (by kernel_rfl) rfl ?_ ?_
 ·intro i x y hx hy
  match i,hx,hy with
  | 0,hx,hy=>cases sY hx;cases sY hy;exact⟨[_,_,_,_,_,_],_,_,_,_,rfl,rfl⟩
  | 1,hx,hy=>simp at hx hy;subst hx;subst hy;trivial
  | i+2,hx,hy=>simp at hx
 unfold Bl at h
 conv=>whnf
 refine z13 ?_
 conv=>whnf
 refine⟨.inr ?_⟩
 conv=>whnf
 refine rq (f:=BY) h FK λo q h=>?_;rw[Bb o]
 conv=>whnf
 refine Bi h λs l h=>?_
 first|refine Ew (a _ _ _ l) ?_|(simp only[sX];refine Ew (a _ _ _ l) ?_)
 conv=>whnf
 refine Td h FK (λh=>?_) (λh=>?_)
 ·exact z22
 conv=>whnf
 refine z13 ?_
 conv=>whnf
 refine⟨.inr ?_⟩
 conv=>whnf
 refine rq (f:=BY) h FK λp r h=>?_;rw[Bb p]
 conv=>whnf
 refine Bi h λt m h=>?_
 first|refine Ew (a _ _ _ m) ?_|(simp only[sX];refine Ew (a _ _ _ m) ?_)
 conv=>whnf
 refine Td h FK (λh=>?_) (λh=>?_)
 ·exact z22
 conv=>whnf
 refine Td h FK (λh=>?_) (λh=>?_)
 ·conv=>whnf
  refine Bi h λn g h=>?_;refine A3 (NI _ _ _ g) ?_
  conv=>whnf
  refine Td h FK (λh=>?_) (λh=>?_)
  ·exact z22
  conv=>whnf
  refine z13 ?_;exact z25
 conv=>whnf
 refine Td h FK (λh=>?_) (λh=>?_)
 ·conv=>whnf
  refine Bi h λn g h=>?_;refine A3 (NG _ _ _ g) ?_
  conv=>whnf
  refine Td h FK (λh=>?_) (λh=>?_)
  ·exact z22
  conv=>whnf
  refine z13 ?_;exact z25
 conv=>whnf
 refine Td h FK (λh=>?_) (λh=>?_)
 ·conv=>whnf
  refine Bi h λn g h=>?_;refine A3 (NF _ _ _ g) ?_
  conv=>whnf
  refine Td h FK (λh=>?_) (λh=>?_)
  ·exact z22
  conv=>whnf
  refine z13 ?_;exact z25
 conv=>whnf
 refine Bi h λn g h=>?_;refine A3 (NE _ _ _ g) ?_
 conv=>whnf
 refine Td h FK (λh=>?_) (λh=>?_)
 ·exact z22
 conv=>whnf
 refine z13 ?_;exact z25
theorem Cn:∀d:Nat,(W2 prog 29 (An d))/\(W2 prog 75 (AJ d))
 | 0=>by
  refine⟨?_,?_⟩<;>((repeat intro _);rename_i h;cases h)
 | d+1=>by
  have ih:=Cn d;exact⟨P7 d _ (ih).1 _ (ih).2,Qo d _ (ih).1 _ (ih).2⟩
instance interpret_room_value_w:CS prog 29 (∀(d:Nat),W2 prog 29 (An d)):=⟨λd=>(Cn d).1⟩
instance interpret_room_pair_w:CS prog 75 (∀(d:Nat),W2 prog 75 (AJ d)):=⟨λd=>(Cn d).2⟩
theorem D3:∀d:Nat,(∀(a:A0)(b:Ar)(R:A9×Int) ,An d a b=some R->DU prog 29 [.cc none [.l 2 Ae a.I.Ai.K,.l 7 Ak a.I.Ai.A,.t a.I.Q.Ae,.i a.I.Q.Af,.l 2 Ad a.I.Q.H,.l 1 (Am 1 D.z) a.I.Q.C,.own 26 112 (List.map A8 a.Aw)],.d (AR b)] [.cc none [.l 2 Ae a.I.Ai.K,.l 7 Ak a.I.Ai.A,.t a.I.Q.Ae,.i a.I.Q.Af,.l 2 Ad a.I.Q.H,.l 1 (Am 1 D.z) a.I.Q.C,.own 26 112 (List.map A8 a.Aw)],.any] (.tup [.d (Dt R.1),.i R.2]))/\(∀(a:A0)(b:Ar)(R:A9×Int) ,AJ d a b=some R->DU prog 75 [.cc none [.l 2 Ae a.I.Ai.K,.l 7 Ak a.I.Ai.A,.t a.I.Q.Ae,.i a.I.Q.Af,.l 2 Ad a.I.Q.H,.l 1 (Am 1 D.z) a.I.Q.C,.own 26 112 (List.map A8 a.Aw)],.d (AR b)] [.cc none [.l 2 Ae a.I.Ai.K,.l 7 Ak a.I.Ai.A,.t a.I.Q.Ae,.i a.I.Q.Af,.l 2 Ad a.I.Q.H,.l 1 (Am 1 D.z) a.I.Q.C,.own 26 112 (List.map A8 a.Aw)],.any] (.tup [.d (Dt R.1),.i R.2]))
 | 0=>by
  refine⟨?_,?_⟩<;>(intros;rename_i h;cases h)
 | d+1=>by
  have ih:=D3 d;exact⟨P6 d _ (ih).1 _ (ih).2,Qn d _ (ih).1 _ (ih).2⟩
theorem Kn(d:Nat):∀(a:A0)(b:Ar)(R:A9×Int) ,An d a b=some R->DU prog 29 [.cc none [.l 2 Ae a.I.Ai.K,.l 7 Ak a.I.Ai.A,.t a.I.Q.Ae,.i a.I.Q.Af,.l 2 Ad a.I.Q.H,.l 1 (Am 1 D.z) a.I.Q.C,.own 26 112 (List.map A8 a.Aw)],.d (AR b)] [.cc none [.l 2 Ae a.I.Ai.K,.l 7 Ak a.I.Ai.A,.t a.I.Q.Ae,.i a.I.Q.Af,.l 2 Ad a.I.Q.H,.l 1 (Am 1 D.z) a.I.Q.C,.own 26 112 (List.map A8 a.Aw)],.any] (.tup [.d (Dt R.1),.i R.2]):=(D3 d).1
