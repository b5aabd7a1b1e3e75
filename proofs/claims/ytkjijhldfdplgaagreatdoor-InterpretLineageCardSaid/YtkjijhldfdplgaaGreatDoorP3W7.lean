/- P3W7 -/
import Derived.Test.YtkjijhldfdplgaaGreatDoorP3DW
open Go.Proofs.Tryz
set_option linter.all false
namespace Go.Proofs.YtkjijhldfdplgaaGreatDoor.P
open Go.Abs Go.Proofs
set_option maxRecDepth 100000
set_option maxHeartbeats 4000000
instance extract_Known_c1_w:CS prog 204 (∀(a:Ac)(b:Int)(R:Bool)(h:IR a b=some R),Ay prog 204 [.d (Ad a),.d (.ptr [(.j b)])] (.b R)):=⟨λa b R h=>by
 refine uD func204 ?_;unfold IR at h;exact As⟩
instance {a0 a1 a2 a3 a4 a5}:LS (λa s=>Ot a0 a1 a2 a3 a4 a5 a s.1 s.2.1 s.2.2) 45 [1,2,3,4,19,20] (λs=>[(10,.i s.1),(11,.b s.2.1),(21,.i s.2.2)]) [4] (λs=>[]):=⟨trivial⟩
instance schema_turnCode_w:CS prog 273 (W4 prog 273 EJ):=⟨λa b p2 p3 R h=>by
 refine uD func273 ?_;unfold EJ at h;exact As⟩
instance schema_turnMeasure_w:CS prog 274 (W4 prog 274 F9):=⟨λa b p2 p3 R h=>by
 refine uD func274 ?_;unfold F9 at h;exact As⟩
instance schema_Turned_w:CS prog 205 (W5 prog 205 D6):=⟨λa b p2 p3 c R h=>by
 refine uD func205 ?_;unfold D6 at h;exact As⟩
instance extract_Known_w:CS prog 130 (W5 prog 130 Be):=⟨λa b p2 p3 c R h=>by
 refine uD func130 ?_;unfold Be at h;exact As⟩
instance tabulate_Counts_c1_c1_w:CS prog 200 (∀(c:Int)(b:Aa)(a:Ao)(d:Int)(R:Bool)(h:C1 c b a d=some R),Ay prog 200 [.i c,.d (.ptr [(Am 2 Ae b.K),(Am 7 Ak b.A)]),.d (.ptr [(.str a.Ae),(.j a.Af),(Am 2 Ad a.H),(Am 1 (Am 1 D.z) a.C)]),.d (.ptr [(.j d)])] (.b R)):=⟨λc b a d R h=>by
 refine uD func200 ?_;unfold C1 at h;exact As⟩
instance tabulate_Counts_c1_w:CS prog 198 (∀(c:Int)(d:List Int)(b:Aa)(a:Ao)(R:Bool)(h:Cs c d b a=some R),Ay prog 198 [.i c,.d (.ptr [(Am 1 D.z d)]),.d (.ptr [(Am 2 Ae b.K),(Am 7 Ak b.A)]),.d (.ptr [(.str a.Ae),(.j a.Af),(Am 2 Ad a.H),(Am 1 (Am 1 D.z) a.C)])] (.b R)):=⟨λc d b a R h=>by
 refine uD func198 ?_;unfold Cs at h;exact As⟩
instance tabulate_Counts_w:CS prog 123 (∀d:Nat,W4 prog 123 (BP d)):=⟨λd c e p2 p3 R h=>by
 refine rj func123 ?_;unfold BP at h;refine E9 h (λ_=>extract_Check_w.h _ _ _) λa h=>?_;refine Do h (λh=>?_) λh=>?_
 ·conv=>whnf
  exact z23
 refine E9 h (λ_=>tabulate_Holding_w.h _ _ _ _ _) λb h=>?_;refine Vw h (λ_=>EK _ _ _ _ _ (λa0 _ h=>tabulate_Counts_c1_w.h a0 _ _ _ _ h)) λx18 h=>?_
 conv=>whnf
 obtain rfl:=sY h;refine⟨.inl ?_⟩
 conv=>whnf
 exact⟨Jl⟩⟩
instance {a0 a1 a2 a3 a4}:LS (λa s=>Ow a0 a1 a2 a3 a4 a s.1 s.2) 37 [3,4,5,9,14,15] (λs=>[(16,.i s.1)]) [4,5] (λs=>[(9,.row 1 3 (List.map D.z s.2),1)]):=⟨trivial⟩
instance tabulate_Values_w:CS prog 124 (W4 prog 124 Bu):=⟨λa b p2 p3 R h=>by
 refine uD func124 ?_;unfold Bu at h;exact As⟩
instance {a0 a1}:LS (λa s=>Cb a0 a1 a s.1 s.2) 66 [2,3,4,6,8,34,35] (λs=>[(7,.i s.1),(36,.i s.2)]) [2,3,4] (λs=>[]):=⟨trivial⟩
instance interpret_room_sum_w:CS prog 68 (∀d:Nat,W2 prog 68 (BU d)):=⟨λd b c R h=>by
 refine Xr [8] func68 ?_;unfold BU at h;refine E9 h (λ_=>tabulate_Counts_w.h _ _ _ _ _ _) λa h=>?_;refine F3 {p:Int // Ek c a b p=some R} (λp=>CY 66 [(2,.ptr 2 1 0),(3,.ptr 3 1 0),(4,.ptr 4 1 0),(6,.l 1 D.z a),(7,.i p.1),(8,.i 1)] [(2,Ut b,1),(3,Wd c,1),(4,.var [.i 0,.i 0,.i 0,.n 2,.i 0,.n 7,.i 0,.n 1,.n 2,.i 0,.i 0,.i 0,.i 0,.i 0,.i 0,.n 6,.n 2,.i 0,.i 0,.i 0,.i 0,.i 0,.i 0,.n 1],1)]) ?_ λp=>?_
 ·exact As
 obtain⟨e,h⟩:=p;exact As⟩
theorem Gk(d:Nat)(b:A0)(a:Ar)(R:A9×Int)  (h:BU d b a=some R):DU prog 68 [.cc none [.l 2 Ae b.I.Ai.K,.l 7 Ak b.I.Ai.A,.t b.I.Q.Ae,.i b.I.Q.Af,.l 2 Ad b.I.Q.H,.l 1 (Am 1 D.z) b.I.Q.C,.own 26 112 (List.map A8 b.Aw)],.d (AR a)] [.cc none [.l 2 Ae b.I.Ai.K,.l 7 Ak b.I.Ai.A,.t b.I.Q.Ae,.i b.I.Q.Af,.l 2 Ad b.I.Q.H,.l 1 (Am 1 D.z) b.I.Q.C,.own 26 112 (List.map A8 b.Aw)],.any] (.tup [.d (Dt R.1),.i R.2]):=by
 refine Yw [8] func68 (by kernel_rfl) rfl ?_ ?_
 ·intro i x y hx hy
  match i,hx,hy with
  | 0,hx,hy=>cases sY hx;cases sY hy;exact⟨[_,_,_,_,_,_],_,_,_,_,rfl,rfl⟩
  | 1,hx,hy=>simp at hx hy;subst hx;subst hy;trivial
  | i+2,hx,hy=>simp at hx
 unfold BU at h
 conv=>whnf
 refine Bi h λg j h=>?_;refine A3 (tabulate_Counts_w.h _ _ _ _ _ _ j) ?_
 conv=>whnf
 refine F3 {p:Int // Ek a g b p=some R} (λp=>CY 66 [(2,.ptr 2 1 0),(3,.ptr 3 1 0),(4,.ptr 4 1 0),(6,.l 1 D.z g),(7,.i p.1),(8,.i 1)] [(0,.row 26 112 (List.map A8 b.Aw),0),(2,.var [.l 2 Ae b.I.Ai.K,.l 7 Ak b.I.Ai.A,.t b.I.Q.Ae,.i b.I.Q.Af,.l 2 Ad b.I.Q.H,.l 1 (Am 1 D.z) b.I.Q.C,.sl 0 0],1),(3,.var [.i a.Op,.i a.L,.t a.J,.i a.B,.l 1 D.z a.A,.l 2 Ad a.Y,.i a.X.Op,.i a.X.B,.i a.X.Z,.i a.X.D,.i a.X.E,.l 6 Az a.X.G,.i a.V.Op,.i a.V.B,.i a.V.Z,.i a.V.D,.i a.V.E,.l 6 Az a.V.G,.l 19 BY a.G],1),(4,.var [.i 0,.i 0,.i 0,.n 2,.i 0,.n 7,.i 0,.n 1,.n 2,.i 0,.i 0,.i 0,.i 0,.i 0,.i 0,.n 6,.n 2,.i 0,.i 0,.i 0,.i 0,.i 0,.i 0,.n 1],1)]) ?_ λp=>?_
 ·conv=>whnf
  refine Bi h λk l h=>?_;refine A3 (tabulate_Values_w.h _ _ _ _ _ l) ?_
  conv=>whnf
  refine Gl h λt u h=>?_;refine loop {p:Nat×(Int×Int) // t p.1 p.2=some R} (λp=>CY 66 [(2,.ptr 2 1 0),(3,.ptr 3 1 0),(4,.ptr 4 1 0),(6,.l 1 D.z g),(7,.i p.1.2.1),(8,.i 1),(34,.l 1 D.z k),(35,.i (k.length:Int)),(36,.i p.1.2.2)] [(0,.row 26 112 (List.map A8 b.Aw),0),(2,.var [.l 2 Ae b.I.Ai.K,.l 7 Ak b.I.Ai.A,.t b.I.Q.Ae,.i b.I.Q.Af,.l 2 Ad b.I.Q.H,.l 1 (Am 1 D.z) b.I.Q.C,.sl 0 0],1),(3,.var [.i a.Op,.i a.L,.t a.J,.i a.B,.l 1 D.z a.A,.l 2 Ad a.Y,.i a.X.Op,.i a.X.B,.i a.X.Z,.i a.X.D,.i a.X.E,.l 6 Az a.X.G,.i a.V.Op,.i a.V.B,.i a.V.Z,.i a.V.D,.i a.V.E,.l 6 Az a.V.G,.l 19 BY a.G],1),(4,.var [.i 0,.i 0,.i 0,.n 2,.i 0,.n 7,.i 0,.n 1,.n 2,.i 0,.i 0,.i 0,.i 0,.i 0,.i 0,.n 6,.n 2,.i 0,.i 0,.i 0,.i 0,.i 0,.i 0,.n 1],1)]) (λp=>p.1.1) ⟨(_,(_,_)),h⟩ ?_ λp=>?_
  ·refine R1 ?_
   conv=>whnf
   exact mI
  obtain⟨⟨v,⟨q,m⟩⟩,h⟩:=p;obtain⟨v,rfl,h⟩:=u _ _ h;simp only[Cb]at h
  conv=>whnf
  refine Td h FK (λh=>?_) (λh=>?_)
  ·conv=>whnf
   refine rq (f:=D.z) h FK λw r h=>?_
   conv=>whnf
   refine⟨⟨(_,(_,_)),h⟩,?_,u3 _⟩;refine R1 ?_
   conv=>whnf
   exact mI
  conv=>whnf
  refine⟨⟨_,h⟩,?_⟩;refine R1 ?_
  conv=>whnf
  exact mI
 obtain⟨s,h⟩:=p;simp only[Ek]at h
 conv=>whnf
 refine Td h FK (λh=>?_) (λh=>?_)
 ·conv=>whnf
  refine Bi h λn c h=>?_
  first|refine A3 (Ih _ _ _ c) ?_|(simp only[sX];refine A3 (Ih _ _ _ c) ?_)
  conv=>whnf
  refine Td h FK (λh=>?_) (λh=>?_)
  ·exact z22
  conv=>whnf
  refine z13 ?_
  conv=>whnf
  refine Bi h λo e h=>?_;refine A3 (tabulate_Keys_w.h _ _ _ e) ?_;exact z22
 conv=>whnf
 refine Bi h λn c h=>?_
 first|refine A3 (Ih _ _ _ c) ?_|(simp only[sX];refine A3 (Ih _ _ _ c) ?_)
 conv=>whnf
 refine Td h FK (λh=>?_) (λh=>?_)
 ·exact z22
 conv=>whnf
 refine z13 ?_
 conv=>whnf
 refine Bi h λo e h=>?_;refine A3 (tabulate_Keys_w.h _ _ _ e) ?_;exact z22
instance declaration_kindOf_w:CS prog 303 (W2 prog 303 Eo):=⟨λa b R h=>by
 refine uD func303 ?_;unfold Eo at h;exact As⟩
instance declaration_table_c1_w:CS prog 304 (∀(b:Ac)(a:Ac)(R:Bool)(h:Ge b a=some R),Ay prog 304 [.d (Ad b),.d (.ptr [(.j a.B),(.j a.T)])] (.b R)):=⟨λb a R h=>by
 refine uD func304 ?_;unfold Ge at h;exact As⟩
instance declaration_empty_w:CS prog 305 (W1 prog 305 Gb):=⟨λa R h=>by
 refine uD func305 ?_;unfold Gb at h;exact As⟩
instance {a0 a1 a2}:LS (λa s=>Mc a0 a1 a2 a s) 64 [2,3,19,20] (λs=>[(21,.i s)]) [2,3] (λs=>[]):=⟨trivial⟩
instance declaration_table_w:CS prog 270 (W2 prog 270 Gd):=⟨λa b R h=>by
 refine Xr [14] func270 ?_;unfold Gd at h;refine Do h (λh=>?_) λh=>?_
 ·exact As
 refine F3 {p:Unit // I3 b a=some R} (λp=>CY 64 [(2,.ptr 2 1 0),(3,.ptr 3 1 0)] [(2,Cg a,1),(3,Sr b,1)]) ?_ λp=>?_
 ·exact As
 obtain⟨_,h⟩:=p;exact As⟩
instance declaration_Question_w:CS prog 203 (∀d:Nat,W2 prog 203 (Ga d)):=⟨λd c e R h=>by
 refine uD func203 ?_;unfold Ga at h;refine E9 h (λ_=>schema_Check_w.h _ _) λf h=>?_;refine Do h (λh=>?_) λh=>?_
 ·exact As
 refine E9 h (λ_=>codes_Name_w.h _ _) λa h=>?_;refine Do h (λh=>?_) λh=>?_
 ·exact As
 refine Do h (λh=>?_) λh=>?_
 ·exact As
 refine E9 h (λ_=>condition_Check_w.h _ _ _ _) λb h=>?_;refine Do h (λh=>?_) λh=>?_
 ·exact As
 refine Do h (λh=>?_) λh=>?_
 ·exact As
 refine Do h (λh=>?_) λh=>?_
 ·conv=>whnf
  cases h
 conv=>whnf
 cases h⟩
instance tabulate_ask_w:CS prog 126 (∀d:Nat,W4 prog 126 (KZ d)):=⟨λd a b p2 p3 R h=>by
 refine uD func126 ?_;unfold KZ at h;exact As⟩
instance types_Needs_w:CS prog 127 (∀d:Nat,W2 prog 127 (He d)):=⟨λd a b R h=>by
 refine uD func127 ?_;unfold He at h;exact As⟩
