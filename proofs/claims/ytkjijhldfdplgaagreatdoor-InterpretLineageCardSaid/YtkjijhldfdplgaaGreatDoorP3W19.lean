/- P3W19 -/
import Derived.Test.YtkjijhldfdplgaaGreatDoorP3W15
open Go.Proofs.Tryz
set_option linter.all false
namespace Go.Proofs.YtkjijhldfdplgaaGreatDoor.P
open Go.Abs Go.Proofs
set_option maxRecDepth 100000
set_option maxHeartbeats 4000000
instance draw_New_w:CS prog 4 (∀(a:List Int)(R:Ab)(h:Rm a=some R),Ay prog 4 [.l 1 (D.int .u8) a] (.optr [(Am 1 (D.int .u8) R.Ak),(.j R.Aj)])):=⟨λa R h=>by
 refine uD func4 ?_;unfold Rm at h;exact As⟩
instance draw_Codes_Next_w:CS prog 22 (V1 prog 22 A6):=⟨λa b R h=>by
 refine sJ [3] func22 ?_;unfold A6 at h;refine F3 {p:Unit // JF a b=some R} (λp=>CY 77 [(0,.ptr 0 0 0),(1,.i b)] [(0,Lb a,0)]) ?_ λp=>?_
 ·exact As
 obtain⟨_,h⟩:=p;exact As⟩
instance draw_Codes_One_w:CS prog 17 (V1 prog 17 B9):=⟨λa b R h=>by
 refine uF func17 ?_;unfold B9 at h;exact As⟩
instance draw_Codes_Range_w:CS prog 43 (V2 prog 43 AK):=⟨λa b p2 R h=>by
 refine uF func43 ?_;unfold AK at h;exact As⟩
instance {a0 a1}:LS (λa s=>Hk a0 a1 a s.1 s.2) 58 [0,4,5,6] (λs=>[(7,.i s.1)]) [0,4,5] (λs=>[(12,.row 2 239 (List.map E2 s.2),1)]):=⟨trivial⟩
instance {a0 a1}:LS (λa s=>Hl a0 a1 a s.1 s.2.1 s.2.2) 58 [0,4,5,6] (λs=>[(8,.i s.1)]) [4,5] (λs=>[(0,.var [.l 1 (D.int .u8) s.2.1.Ak,.i s.2.1.Aj],0),(12,.row 2 239 (List.map E2 s.2.2),1)]):=⟨trivial⟩
instance {a0 a1}:LS (λa s=>JD a0 a1 a s.1 s.2) 58 [0,4,5,6,8] (λs=>[(9,.i s.1)]) [0,4,5] (λs=>[(12,.row 2 239 (List.map E2 s.2),1)]):=⟨trivial⟩
instance draw_Codes_List_w:CS prog 83 (V1 prog 83 FN):=⟨λd c R h=>by
 refine sJ [7] func83 ?_;unfold FN at h
 conv=>whnf
 refine⟨.inr ?_⟩;refine Vw h (λ_=>draw_Codes_Range_w.h _ _ _ _) λa h=>?_;refine F3 {p:(List Ev) // JE a c p=some R} (λp=>CY 58 [(0,.ptr 0 0 0),(4,.ptr 4 1 0),(5,.ptr 5 1 0),(6,.i a.1)] [(0,Lb a.2,0),(4,.var [.t ByteArray.empty,.n 2],1),(5,.var [.t c,.sl 12 1],1),(12,.row 2 239 (List.map E2 p.1),1)]) ?_ λp=>?_
 ·exact As
 obtain⟨b,h⟩:=p;exact As⟩
instance draw_Codes_Measure_w:CS prog 84 (V1 prog 84 Ep):=⟨λg j R h=>by
 refine eC func84 (by kernel_rfl) rfl ?_ ?_
 ·intro i x y hx hy
  match i,hx,hy with
  | 0,hx,hy=>simp at hx hy;subst hx;subst hy;exact⟨_,rfl,rfl⟩
  | 1,hx,hy=>simp at hx hy;subst hx;subst hy;trivial
  | i+2,hx,hy=>simp at hx
 unfold Ep at h
 conv=>whnf
 refine z13 ?_;refine Vw h (λ_=>draw_Codes_Range_w.h _ _ _ _) λk h=>?_;refine Vw h (λ_=>draw_Codes_Next_w.h _ _ _) λb h=>?_;refine Ph (f:=(Am 1 D.z)) h FK λc a h=>?_;refine Zc (f:=(Am 1 D.z)) a FK ?_;refine Vw h (λ_=>draw_Codes_One_w.h _ _ _) λd h=>?_
 conv=>whnf
 refine z13 ?_;refine Vw h (λ_=>draw_Codes_Next_w.h _ _ _) λe h=>?_
 conv=>whnf
 obtain rfl:=sY h;refine z12 ?_
 conv=>whnf
 exact⟨c9⟩⟩
instance draw_Codes_Schema_w:CS prog 39 (V0 prog 39 Gg):=⟨λs R h=>by
 refine eC func39 (by kernel_rfl) rfl ?_ ?_
 ·intro i x y hx hy
  match i,hx,hy with
  | 0,hx,hy=>simp at hx hy;subst hx;subst hy;exact⟨_,rfl,rfl⟩
  | i+1,hx,hy=>simp at hx
 unfold Gg at h;refine Vw h (λ_=>draw_Codes_List_w.h _ _ _) λk h=>?_;refine Vw h (λ_=>draw_Codes_List_w.h _ _ _) λl h=>?_
 conv=>whnf
 refine⟨.inr ?_⟩;refine Vw h (λ_=>draw_Codes_One_w.h _ _ _) λr h=>?_;refine Do h (λh=>?_) λh=>?_
 ·conv=>whnf
  refine QW h λhr h=>?_;refine z8 ?_
  try rw[Ni]
  conv=>whnf
  refine Bi h λd b h=>?_;refine Ew (draw_Codes_Range_w.h _ _ _ _ b) ?_
  conv=>whnf
  refine z7 h (λp=>CY 41 [(0,.ptr 0 0 0),(2,.ptr 2 1 0),(3,.ptr 3 1 0),(4,.i p.1)] [(0,.var [.l 1 (D.int .u8) p.2.1.Ak,.i p.2.1.Aj],0),(2,.var [.n 2,.n 7],1),(3,.var [.sl 9 1,.sl 12 1],1),(9,.row 2 141 (List.map Ae [k.1,l.1]),1),(12,.row 7 95 (List.map Ak p.2.2),1)]) C3 λ_ _ ⟨m,n,e⟩ h=>?_;simp only[Gh]at h;refine Do h (λh=>?_) λh=>?_
  ·conv=>whnf
   refine z13 ?_
   conv=>whnf
   refine Bi h λf a h=>?_
   first|refine A3 (DN _ _ a) ?_|(simp only[sX];refine A3 (DN _ _ a) ?_)
   conv=>whnf
   refine QW h λhr h=>?_;refine⟨tb hr,?_⟩
   conv=>whnf
   refine Bi h λg c h=>?_;refine Ew (draw_Codes_Measure_w.h _ _ _ c) ?_
   conv=>whnf
   refine QW h λhr h=>?_;refine z8 ?_
   try rw[Ni]
   conv=>whnf
   exact cz ⟨(_,(_,_,_)),h⟩ C3
  conv=>whnf
  refine⟨.inl ?_⟩
  conv=>whnf
  obtain rfl:=sY h;refine z12 ?_
  conv=>whnf
  exact⟨c9⟩
 conv=>whnf
 refine Bi h λd b h=>?_;refine Ew (draw_Codes_Range_w.h _ _ _ _ b) ?_
 conv=>whnf
 refine z7 h (λp=>CY 41 [(0,.ptr 0 0 0),(2,.ptr 2 1 0),(3,.ptr 3 1 0),(4,.i p.1)] [(0,.var [.l 1 (D.int .u8) p.2.1.Ak,.i p.2.1.Aj],0),(2,.var [.n 2,.n 7],1),(3,.var [.sl 9 1,.sl 12 1],1),(9,.row 2 141 (List.map Ae [k.1,l.1]),1),(12,.row 7 95 (List.map Ak p.2.2),1)]) C3 λ_ _ ⟨o,q,j⟩ h=>?_;simp only[Me]at h;refine Do h (λh=>?_) λh=>?_
 ·conv=>whnf
  refine z13 ?_
  conv=>whnf
  refine Bi h λf a h=>?_
  first|refine A3 (DN _ _ a) ?_|(simp only[sX];refine A3 (DN _ _ a) ?_)
  conv=>whnf
  refine QW h λhr h=>?_;refine⟨tb hr,?_⟩
  conv=>whnf
  refine Bi h λg c h=>?_;refine Ew (draw_Codes_Measure_w.h _ _ _ c) ?_
  conv=>whnf
  refine QW h λhr h=>?_;refine z8 ?_
  try rw[Ni]
  conv=>whnf
  exact cz ⟨(_,(_,_,_)),h⟩ C3
 conv=>whnf
 refine⟨.inl ?_⟩
 conv=>whnf
 obtain rfl:=sY h;refine z12 ?_
 conv=>whnf
 exact⟨c9⟩⟩
instance draw_Codes_Value_w:CS prog 85 (V2 prog 85 GJ):=⟨λa b p2 R h=>by
 refine uF func85 ?_;unfold GJ at h;exact As⟩
instance draw_Codes_Row_w:CS prog 41 (∀(b:Ab)(a:Aa)(R:(List Int)×Ab)(h:I4 b a=some R),DU prog 41 [.optr [(Am 1 (D.int .u8) b.Ak),(.j b.Aj)],.d (CG a)] [.optr [(Am 1 (D.int .u8) R.2.Ak),(.j R.2.Aj)],.any] (.own 1 3 (List.map D.z R.1))):=⟨λb a R h=>by
 refine uF func41 ?_;unfold I4 at h
 conv=>whnf
 refine z7 h (λp=>CY 22 [(0,.ptr 0 0 0),(3,.ptr 3 1 0),(5,.sl 5 1),(9,.i (a.A.length:Int)),(10,.i p.1)] [(0,Lb p.2.1,0),(3,Cg a,1),(5,.row 1 3 (List.map D.z p.2.2),1)]) C3 λ_ _ ⟨c,d,e⟩ h=>?_;simp only[Is]at h;refine Do h (λh=>?_) λh=>?_
 ·exact As
 conv=>whnf
 obtain rfl:=sY h;refine z12 ?_
 conv=>whnf
 refine⟨.inr ?_⟩
 conv=>whnf
 refine z9 ?_
 conv=>whnf
 exact⟨c9⟩⟩
instance {a0 a1}:LS (λa s=>I5 a0 a1 a s.1 s.2.1 s.2.2) 28 [0,4,5,6] (λs=>[(7,.i s.1)]) [4,5] (λs=>[(0,.var [.l 1 (D.int .u8) s.2.1.Ak,.i s.2.1.Aj],0),(6,.var [.l 2 Ae a0.1.K,.l 7 Ak a0.1.A,.l 1 (Am 1 D.z) s.2.2,.n 1,.i 0],1)]):=⟨trivial⟩
instance draw_Codes_Source_w:CS prog 14 (V1 prog 14 Gi):=⟨λa b R h=>by
 refine uF func14 ?_;unfold Gi at h;exact As⟩
instance {a0 a1 a2}:LS (λa s=>DX a0 a1 a2 a s.1 s.2) 27 [1,2,5,9] (λs=>[(10,.i s.1)]) [2] (λs=>[(5,.row 1 3 (List.map D.z s.2),1)]):=⟨trivial⟩
instance draw_columns_w:CS prog 55 (W2 prog 55 C6):=⟨λa b R h=>by
 refine uD func55 ?_;unfold C6 at h;exact As⟩
instance draw_Codes_Measured_w:CS prog 21 (V1 prog 21 Bs):=⟨λa b R h=>by
 refine uF func21 ?_;unfold Bs at h;exact As⟩
instance draw_Codes_Coded_w:CS prog 56 (V1 prog 56 GI):=⟨λa b R h=>by
 refine uF func56 ?_;unfold GI at h;exact As⟩
theorem TU(d:Nat)(a:Ab->Aa->Int->Option (Ah×Ab))(ih:V2 prog 24 a):V2 prog 24 (DC d a):=by
 intro e b p2 R h;refine sJ [9] func24 ?_;unfold DC at h;refine F3 {p:Ab // Fw b p=some R} (λp=>CY 111 [(0,.ptr 0 0 0),(4,.ptr 4 1 0),(6,.ptr 6 1 0)] [(0,Lb p.1,0),(4,Cg b,1),(6,.var [.i 0,.i 0,.i 0,.i 0,.i 0,.n 6],1)]) ?_ λp=>?_
 ·exact As
 obtain⟨c,h⟩:=p;exact As
theorem NC:∀d:Nat,(V2 prog 24 (AN d))
 | 0=>by
  exact z16
 | d+1=>by
  have ih:=NC d;exact TU d _ ih
instance draw_Codes_Cond_w:CS prog 24 (∀(d:Nat),V2 prog 24 (AN d)):=⟨λd=>NC d⟩
instance {a0 a1 a2 a3}:LS (λa s=>ND a0 a1 a2 a3 a s.1 s.2.1 s.2.2) 42 [0,3,5,6,19] (λs=>[(20,.i s.1)]) [3] (λs=>[(0,.var [.l 1 (D.int .u8) s.2.1.Ak,.i s.2.1.Aj],0),(5,.row 2 132 (List.map Ad s.2.2),1)]):=⟨trivial⟩
instance {a0 a1 a2}:LS (λa s=>Fx a0 a1 a2 a s.1 s.2.1 s.2.2) 42 [0,3,5,6,19] (λs=>[(20,.i s.1)]) [3] (λs=>[(0,.var [.l 1 (D.int .u8) s.2.1.Ak,.i s.2.1.Aj],0),(5,.row 2 132 (List.map Ad s.2.2),1)]):=⟨trivial⟩
instance draw_Codes_Dims_w:CS prog 23 (V1 prog 23 Ch):=⟨λa b R h=>by
 refine uF func23 ?_;unfold Ch at h;exact As⟩
instance {a0 a1 a2}:LS (λa s=>G9 a0 a1 a2 a s.1 s.2.1 s.2.2) 41 [0,2,7,8,13] (λs=>[(14,.i s.1)]) [] (λs=>[(0,.var [.l 1 (D.int .u8) s.2.1.Ak,.i s.2.1.Aj],0),(7,.row 1 3 (List.map D.z s.2.2),1)]):=⟨trivial⟩
instance draw_Codes_Terms_w:CS prog 25 (V2 prog 25 Fo):=⟨λa b p2 R h=>by
 refine uF func25 ?_;unfold Fo at h;exact As⟩
instance draw_Codes_Question_w:CS prog 44 (∀d:Nat,V2 prog 44 (DR d)):=⟨λd a b p2 R h=>by
 refine uF func44 ?_;unfold DR at h;exact As⟩
