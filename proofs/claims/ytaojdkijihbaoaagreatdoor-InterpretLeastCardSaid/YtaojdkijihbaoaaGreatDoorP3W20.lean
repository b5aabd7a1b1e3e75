/- P3W20 -/
import Derived.Test.YtaojdkijihbaoaaGreatDoorP3W16
open Go.Proofs.Tryz
set_option linter.all false
namespace Go.Proofs.YtaojdkijihbaoaaGreatDoor.P
open Go.Abs Go.Proofs
set_option maxRecDepth 100000
set_option maxHeartbeats 4000000
instance draw_New_w:CS prog 4 (∀(a:List Int)(R:Ab)(h:QE a=some R),Ax prog 4 [.l 1 (D.int .u8) a] (.optr [(Ao 1 (D.int .u8) R.A0),(.j R.Ax)])):=⟨λa R h=>by
 refine uD func4 ?_;unfold QE at h;exact Aq⟩
instance draw_Codes_Next_w:CS prog 17 (V1 prog 17 AA):=⟨λa b R h=>by
 refine tE [3] func17 ?_;unfold AA at h;refine Gj {p:Unit // J6 a b=some R} (λp=>Dk 77 [(0,.ptr 0 0 0),(1,.i b)] [(0,Lb a,0)]) ?_ λp=>?_
 ·exact Aq
 obtain⟨_,h⟩:=p;exact Aq⟩
instance draw_Codes_One_w:CS prog 22 (V1 prog 22 CC):=⟨λa b R h=>by
 refine uF func22 ?_;unfold CC at h;exact Aq⟩
instance draw_Codes_Range_w:CS prog 23 (V2 prog 23 AN):=⟨λa b p2 R h=>by
 refine uF func23 ?_;unfold AN at h;exact Aq⟩
instance {a0 a1}:LS (λa s=>Hd a0 a1 a s.1 s.2) 58 [0,4,5,6] (λs=>[(7,.i s.1)]) [0,4,5] (λs=>[(12,.row 2 181 (List.map E4 s.2),1)]):=⟨trivial⟩
instance {a0 a1}:LS (λa s=>He a0 a1 a s.1 s.2.1 s.2.2) 58 [0,4,5,6] (λs=>[(8,.i s.1)]) [4,5] (λs=>[(0,.var [.l 1 (D.int .u8) s.2.1.A0,.i s.2.1.Ax],0),(12,.row 2 181 (List.map E4 s.2.2),1)]):=⟨trivial⟩
instance {a0 a1}:LS (λa s=>J4 a0 a1 a s.1 s.2) 58 [0,4,5,6,8] (λs=>[(9,.i s.1)]) [0,4,5] (λs=>[(12,.row 2 181 (List.map E4 s.2),1)]):=⟨trivial⟩
instance draw_Codes_List_w:CS prog 46 (V1 prog 46 FK):=⟨λd c R h=>by
 refine tE [7] func46 ?_;unfold FK at h
 conv=>whnf
 refine⟨.inr ?_⟩;refine b7 h (λ_=>draw_Codes_Range_w.h _ _ _ _) λa h=>?_;refine Gj {p:(List Eu) // J5 a c p=some R} (λp=>Dk 58 [(0,.ptr 0 0 0),(4,.ptr 4 1 0),(5,.ptr 5 1 0),(6,.i a.1)] [(0,Lb a.2,0),(4,.var [.t ByteArray.empty,.n 2],1),(5,.var [.t c,.sl 12 1],1),(12,.row 2 181 (List.map E4 p.1),1)]) ?_ λp=>?_
 ·exact Aq
 obtain⟨b,h⟩:=p;exact Aq⟩
instance draw_Codes_Measure_w:CS prog 47 (V1 prog 47 Ek):=⟨λg j R h=>by
 refine dC func47 (by kernel_rfl) rfl ?_ ?_
 ·intro i x y hx hy
  match i,hx,hy with
  | 0,hx,hy=>simp at hx hy;subst hx;subst hy;exact⟨_,rfl,rfl⟩
  | 1,hx,hy=>simp at hx hy;subst hx;subst hy;trivial
  | i+2,hx,hy=>simp at hx
 unfold Ek at h
 conv=>whnf
 refine z13 ?_;refine b7 h (λ_=>draw_Codes_Range_w.h _ _ _ _) λk h=>?_;refine b7 h (λ_=>draw_Codes_Next_w.h _ _ _) λb h=>?_;refine gm (f:=(Ao 1 D.z)) h Ld λc a h=>?_;refine qP (f:=(Ao 1 D.z)) a Ld ?_;refine b7 h (λ_=>draw_Codes_One_w.h _ _ _) λd h=>?_
 conv=>whnf
 refine z13 ?_;refine b7 h (λ_=>draw_Codes_Next_w.h _ _ _) λe h=>?_
 conv=>whnf
 obtain rfl:=uc h;refine z12 ?_
 conv=>whnf
 exact⟨kX⟩⟩
instance draw_Codes_Schema_w:CS prog 16 (V0 prog 16 Ge):=⟨λs R h=>by
 refine dC func16 (by kernel_rfl) rfl ?_ ?_
 ·intro i x y hx hy
  match i,hx,hy with
  | 0,hx,hy=>simp at hx hy;subst hx;subst hy;exact⟨_,rfl,rfl⟩
  | i+1,hx,hy=>simp at hx
 unfold Ge at h;refine b7 h (λ_=>draw_Codes_List_w.h _ _ _) λk h=>?_;refine b7 h (λ_=>draw_Codes_List_w.h _ _ _) λl h=>?_
 conv=>whnf
 refine⟨.inr ?_⟩;refine b7 h (λ_=>draw_Codes_One_w.h _ _ _) λr h=>?_;refine EA h (λh=>?_) λh=>?_
 ·conv=>whnf
  refine S3 h λhr h=>?_;refine z8 ?_
  try rw[Ng]
  conv=>whnf
  refine BD h λd b h=>?_;refine HW (draw_Codes_Range_w.h _ _ _ _ b) ?_
  conv=>whnf
  refine z7 h (λp=>Dk 41 [(0,.ptr 0 0 0),(2,.ptr 2 1 0),(3,.ptr 3 1 0),(4,.i p.1)] [(0,.var [.l 1 (D.int .u8) p.2.1.A0,.i p.2.1.Ax],0),(2,.var [.n 2,.n 7],1),(3,.var [.sl 9 1,.sl 12 1],1),(9,.row 2 130 (List.map Ai [k.1,l.1]),1),(12,.row 7 125 (List.map Am p.2.2),1)]) EB λ_ _ ⟨m,n,e⟩ h=>?_;simp only[Gg]at h;refine EA h (λh=>?_) λh=>?_
  ·conv=>whnf
   refine z13 ?_
   conv=>whnf
   refine BD h λf a h=>?_
   first|refine A4 (DC _ _ a) ?_|(simp only[ua];refine A4 (DC _ _ a) ?_)
   conv=>whnf
   refine S3 h λhr h=>?_;refine⟨uf hr,?_⟩
   conv=>whnf
   refine BD h λg c h=>?_;refine HW (draw_Codes_Measure_w.h _ _ _ c) ?_
   conv=>whnf
   refine S3 h λhr h=>?_;refine z8 ?_
   try rw[Ng]
   conv=>whnf
   exact kW ⟨(_,(_,_,_)),h⟩ EB
  conv=>whnf
  refine⟨.inl ?_⟩
  conv=>whnf
  obtain rfl:=uc h;refine z12 ?_
  conv=>whnf
  exact⟨kX⟩
 conv=>whnf
 refine BD h λd b h=>?_;refine HW (draw_Codes_Range_w.h _ _ _ _ b) ?_
 conv=>whnf
 refine z7 h (λp=>Dk 41 [(0,.ptr 0 0 0),(2,.ptr 2 1 0),(3,.ptr 3 1 0),(4,.i p.1)] [(0,.var [.l 1 (D.int .u8) p.2.1.A0,.i p.2.1.Ax],0),(2,.var [.n 2,.n 7],1),(3,.var [.sl 9 1,.sl 12 1],1),(9,.row 2 130 (List.map Ai [k.1,l.1]),1),(12,.row 7 125 (List.map Am p.2.2),1)]) EB λ_ _ ⟨o,q,j⟩ h=>?_;simp only[Mh]at h;refine EA h (λh=>?_) λh=>?_
 ·conv=>whnf
  refine z13 ?_
  conv=>whnf
  refine BD h λf a h=>?_
  first|refine A4 (DC _ _ a) ?_|(simp only[ua];refine A4 (DC _ _ a) ?_)
  conv=>whnf
  refine S3 h λhr h=>?_;refine⟨uf hr,?_⟩
  conv=>whnf
  refine BD h λg c h=>?_;refine HW (draw_Codes_Measure_w.h _ _ _ c) ?_
  conv=>whnf
  refine S3 h λhr h=>?_;refine z8 ?_
  try rw[Ng]
  conv=>whnf
  exact kW ⟨(_,(_,_,_)),h⟩ EB
 conv=>whnf
 refine⟨.inl ?_⟩
 conv=>whnf
 obtain rfl:=uc h;refine z12 ?_
 conv=>whnf
 exact⟨kX⟩⟩
instance draw_Codes_Value_w:CS prog 48 (V2 prog 48 GF):=⟨λa b p2 R h=>by
 refine uF func48 ?_;unfold GF at h;exact Aq⟩
instance draw_Codes_Row_w:CS prog 19 (∀(b:Ab)(a:Aa)(R:(List Int)×Ab)(h:Iq b a=some R),Fz prog 19 [.optr [(Ao 1 (D.int .u8) b.A0),(.j b.Ax)],.d (EK a)] [.optr [(Ao 1 (D.int .u8) R.2.A0),(.j R.2.Ax)],.any] (.own 1 3 (List.map D.z R.1))):=⟨λb a R h=>by
 refine uF func19 ?_;unfold Iq at h
 conv=>whnf
 refine z7 h (λp=>Dk 22 [(0,.ptr 0 0 0),(3,.ptr 3 1 0),(5,.sl 5 1),(9,.i (a.A.length:Int)),(10,.i p.1)] [(0,Lb p.2.1,0),(3,BN a,1),(5,.row 1 3 (List.map D.z p.2.2),1)]) EB λ_ _ ⟨c,d,e⟩ h=>?_;simp only[Ic]at h;refine EA h (λh=>?_) λh=>?_
 ·exact Aq
 conv=>whnf
 obtain rfl:=uc h;refine z12 ?_
 conv=>whnf
 refine⟨.inr ?_⟩
 conv=>whnf
 refine z9 ?_
 conv=>whnf
 exact⟨kX⟩⟩
instance {a0 a1}:LS (λa s=>Ir a0 a1 a s.1 s.2.1 s.2.2) 28 [0,4,5,6] (λs=>[(7,.i s.1)]) [4,5] (λs=>[(0,.var [.l 1 (D.int .u8) s.2.1.A0,.i s.2.1.Ax],0),(6,.var [.l 2 Ai a0.1.K,.l 7 Am a0.1.A,.l 1 (Ao 1 D.z) s.2.2,.n 1,.i 0],1)]):=⟨trivial⟩
instance draw_Codes_Source_w:CS prog 5 (V1 prog 5 Gi):=⟨λa b R h=>by
 refine uF func5 ?_;unfold Gi at h;exact Aq⟩
instance {a0 a1 a2}:LS (λa s=>DL a0 a1 a2 a s.1 s.2) 27 [1,2,5,9] (λs=>[(10,.i s.1)]) [2] (λs=>[(5,.row 1 3 (List.map D.z s.2),1)]):=⟨trivial⟩
instance draw_columns_w:CS prog 101 (W2 prog 101 C0):=⟨λa b R h=>by
 refine uD func101 ?_;unfold C0 at h;exact Aq⟩
instance draw_Codes_Coded_w:CS prog 50 (V1 prog 50 GA):=⟨λa b R h=>by
 refine uF func50 ?_;unfold GA at h;exact Aq⟩
instance draw_Codes_Measured_w:CS prog 51 (V1 prog 51 BQ):=⟨λa b R h=>by
 refine uF func51 ?_;unfold BQ at h;exact Aq⟩
theorem Tp(d:Nat)(a:Ab->Aa->Int->Option (Ad×Ab))(ih:V2 prog 21 a):V2 prog 21 (D3 d a):=by
 intro e b p2 R h;refine tE [9] func21 ?_;unfold D3 at h;refine Gj {p:Ab // F3 b p=some R} (λp=>Dk 111 [(0,.ptr 0 0 0),(4,.ptr 4 1 0),(6,.ptr 6 1 0)] [(0,Lb p.1,0),(4,BN b,1),(6,.var [.i 0,.i 0,.i 0,.i 0,.i 0,.n 6],1)]) ?_ λp=>?_
 ·exact Aq
 obtain⟨c,h⟩:=p;exact Aq
theorem N2:∀d:Nat,(V2 prog 21 (CI d))
 | 0=>by
  exact z16
 | d+1=>by
  have ih:=N2 d;exact Tp d _ ih
instance draw_Codes_Cond_w:CS prog 21 (∀(d:Nat),V2 prog 21 (CI d)):=⟨λd=>N2 d⟩
instance {a0 a1 a2}:LS (λa s=>G6 a0 a1 a2 a s.1 s.2.1 s.2.2) 41 [0,2,7,8,13] (λs=>[(14,.i s.1)]) [] (λs=>[(0,.var [.l 1 (D.int .u8) s.2.1.A0,.i s.2.1.Ax],0),(7,.row 1 3 (List.map D.z s.2.2),1)]):=⟨trivial⟩
instance draw_Codes_Terms_w:CS prog 52 (V2 prog 52 GD):=⟨λa b p2 R h=>by
 refine uF func52 ?_;unfold GD at h;exact Aq⟩
instance {a0 a1 a2 a3}:LS (λa s=>N3 a0 a1 a2 a3 a s.1 s.2.1 s.2.2) 42 [0,3,5,6,19] (λs=>[(20,.i s.1)]) [3] (λs=>[(0,.var [.l 1 (D.int .u8) s.2.1.A0,.i s.2.1.Ax],0),(5,.row 2 81 (List.map Ah s.2.2),1)]):=⟨trivial⟩
instance {a0 a1 a2}:LS (λa s=>F4 a0 a1 a2 a s.1 s.2.1 s.2.2) 42 [0,3,5,6,19] (λs=>[(20,.i s.1)]) [3] (λs=>[(0,.var [.l 1 (D.int .u8) s.2.1.A0,.i s.2.1.Ax],0),(5,.row 2 81 (List.map Ah s.2.2),1)]):=⟨trivial⟩
instance draw_Codes_Dims_w:CS prog 53 (V1 prog 53 De):=⟨λa b R h=>by
 refine uF func53 ?_;unfold De at h;exact Aq⟩
instance draw_Codes_Question_w:CS prog 24 (∀d:Nat,V2 prog 24 (DF d)):=⟨λd a b p2 R h=>by
 refine uF func24 ?_;unfold DF at h;exact Aq⟩
