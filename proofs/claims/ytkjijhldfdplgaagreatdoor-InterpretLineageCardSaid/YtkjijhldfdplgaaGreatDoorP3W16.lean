/- P3W16 -/
import Derived.Test.YtkjijhldfdplgaaGreatDoorP3W15
open Go.Proofs.Tryz
set_option linter.all false
namespace Go.Proofs.YtkjijhldfdplgaaGreatDoor.P
open Go.Abs Go.Proofs
set_option maxRecDepth 100000
set_option maxHeartbeats 4000000
instance ref05_Check_w:CS prog 89 (∀d:Nat,W2 prog 89 (Ec d)):=⟨λd a b R h=>by
 refine uD func89 ?_;unfold Ec at h;exact As⟩
instance ref08_Is_w:CS prog 241 (W3 prog 241 KE):=⟨λa b p2 R h=>by
 refine uD func241 ?_;unfold KE at h;exact As⟩
instance ref02_Pick_w:CS prog 164 (W2 prog 164 IE):=⟨λa b R h=>by
 refine uD func164 ?_;unfold IE at h;exact As⟩
instance {a0 a1 a2}:LS (λa s=>LM a0 a1 a2 a s) 55 [1,2] (λs=>[(5,.i s)]) [2] (λs=>[]):=⟨trivial⟩
instance {a0 a1 a2}:LS (λa s=>Pf a0 a1 a2 a s) 55 [1,2,5] (λs=>[(7,.i s)]) [2] (λs=>[]):=⟨trivial⟩
instance ref08_Dims_w:CS prog 242 (W2 prog 242 JI):=⟨λa b R h=>by
 refine uD func242 ?_;unfold JI at h;exact As⟩
instance {a0 a1 a2}:LS (λa s=>Na a0 a1 a2 a s) 18 [0,1] (λs=>[(5,.i s)]) [] (λs=>[]):=⟨trivial⟩
instance ref01_Has_w:CS prog 33 (W2 prog 33 Ja):=⟨λa b R h=>by
 refine uD func33 ?_;unfold Ja at h;exact As⟩
instance {a0 a1 a2 a3}:LS (λa s=>RZ a0 a1 a2 a3 a s) 45 [1,2,3] (λs=>[(7,.i s)]) [3] (λs=>[]):=⟨trivial⟩
instance ref08_Terms_w:CS prog 243 (W3 prog 243 Mo):=⟨λa b p2 R h=>by
 refine uD func243 ?_;unfold Mo at h;exact As⟩
instance ref08_parts_w:CS prog 158 (∀d:Nat,W2 prog 158 (Mp d)):=⟨λd a b R h=>by
 refine uD func158 ?_;unfold Mp at h;exact As⟩
instance {a0 a1 a2 a3}:LS (λa s=>Tu a0 a1 a2 a3 a s) 67 [2,3] (λs=>[(5,.i s)]) [2,3] (λs=>[]):=⟨trivial⟩
theorem Zn(d:Nat)(a:Ah->Ah->Option Bool)(ih:W2 prog 244 a):W2 prog 244 (KA d a):=by
 intro b c R h;refine uD func244 ?_;unfold KA at h;exact As
theorem Tv:∀d:Nat,(W2 prog 244 (Og d))
 | 0=>by
  exact z16
 | d+1=>by
  have ih:=Tv d;exact Zn d _ ih
instance ref05_Same_w:CS prog 244 (∀(d:Nat),W2 prog 244 (Og d)):=⟨λd=>Tv d⟩
instance ref08_zero_w:CS prog 159 (∀d:Nat,W1 prog 159 (Qu d)):=⟨λd a R h=>by
 refine uD func159 ?_;unfold Qu at h;exact As⟩
instance ref08_Question_w:CS prog 90 (∀d:Nat,W2 prog 90 (DI d)):=⟨λd a b R h=>by
 refine uD func90 ?_;unfold DI at h;exact As⟩
instance {a0 a1 a2 a3}:LS (λa s=>RX a0 a1 a2 a3 a s) 110 [2,3] (λs=>[(8,.i s)]) [2,3] (λs=>[]):=⟨trivial⟩
instance {a0 a1 a2}:LS (λa s=>RY a0 a1 a2 a s) 110 [2,3,8] (λs=>[(10,.i s)]) [2,3] (λs=>[]):=⟨trivial⟩
instance ref08_Check_w:CS prog 45 (∀d:Nat,W2 prog 45 (II d)):=⟨λd a b R h=>by
 refine Xr [6] func45 ?_;unfold II at h;refine E9 h (λ_=>ref02_Check_w.h _ _) λc h=>?_;refine Do h (λh=>?_) λh=>?_
 ·exact As
 refine F3 {p:Unit // Oj d a b=some R} (λp=>CY 110 [(2,.ptr 2 1 0),(3,.ptr 3 1 0)] [(2,Cg a,1),(3,OP b,1)]) ?_ λp=>?_
 ·exact As
 obtain⟨_,h⟩:=p;exact As⟩
instance {a0 a1 a2 a3}:LS (λa s=>K9 a0 a1 a2 a3 a s.1 s.2.1 s.2.2) 59 [0,1,2,7] (λs=>[(8,.b s.1),(9,.i s.2.1)]) [] (λs=>[(7,.row 2 132 (List.map Ad s.2.2),1)]):=⟨trivial⟩
instance ref05_Raise_w:CS prog 47 (W3 prog 47 Gu):=⟨λa b p2 R h=>by
 refine uD func47 ?_;unfold Gu at h;exact As⟩
instance {a0 a1 a2}:LS (λa s=>RE a0 a1 a2 a s.1 s.2) 36 [1,3] (λs=>[(4,.i s.1)]) [1] (λs=>[(3,.row 6 36 (List.map Az s.2),1)]):=⟨trivial⟩
theorem Y8(d:Nat)(a:Ah->Option (List Ah))(ih:W1 prog 160 a):W1 prog 160 (LK d a):=by
 intro b R h;refine uD func160 ?_;unfold LK at h;exact As
theorem RF:∀d:Nat,(W1 prog 160 (IF d))
 | 0=>by
  exact z16
 | d+1=>by
  have ih:=RF d;exact Y8 d _ ih
instance ref05_Atoms_w:CS prog 160 (∀(d:Nat),W1 prog 160 (IF d)):=⟨λd=>RF d⟩
instance ref01_Level_w:CS prog 169 (W2 prog 169 ID):=⟨λa b R h=>by
 refine uD func169 ?_;unfold ID at h;exact As⟩
instance ref02_Holds_w:CS prog 103 (W3 prog 103 JR):=⟨λa b p2 R h=>by
 refine uD func103 ?_;unfold JR at h;exact As⟩
instance {a0 a1 a2}:LS (λa s=>WW a0 a1 a2 a s) 44 [2,3] (λs=>[(1,.i s)]) [3] (λs=>[]):=⟨trivial⟩
instance ref01_Up_w:CS prog 104 (W3 prog 104 Ky):=⟨λa b p2 R h=>by
 refine uD func104 ?_;unfold Ky at h;exact As⟩
instance ref02_Width_w:CS prog 105 (W2 prog 105 E6):=⟨λa b R h=>by
 refine uD func105 ?_;unfold E6 at h;exact As⟩
instance ref02_Floor_w:CS prog 106 (W2 prog 106 Gt):=⟨λa b R h=>by
 refine uD func106 ?_;unfold Gt at h;exact As⟩
instance ref02_Coarse_w:CS prog 54 (W4 prog 54 Cf):=⟨λa b p2 p3 R h=>by
 refine uD func54 ?_;unfold Cf at h;exact As⟩
instance ref01_Under_w:CS prog 292 (W3 prog 292 OG):=⟨λa b p2 R h=>by
 refine uD func292 ?_;unfold OG at h;exact As⟩
instance ref05_Atom_w:CS prog 245 (W3 prog 245 G2):=⟨λa b p2 R h=>by
 refine uD func245 ?_;unfold G2 at h;exact As⟩
instance {a0 a1 a2 a3 a4}:LS (λa s=>PN a0 a1 a2 a3 a4 a s) 140 [2,3,4,8] (λs=>[(9,.i s)]) [3,4] (λs=>[]):=⟨trivial⟩
instance {a0 a1 a2 a3 a4 a5}:LS (λa s=>PO a0 a1 a2 a3 a4 a5 a s) 140 [2,3,4,8,9] (λs=>[(10,.i s)]) [3,4] (λs=>[]):=⟨trivial⟩
instance ref05_decides_w:CS prog 161 (W3 prog 161 G3):=⟨λa b p2 R h=>by
 refine uD func161 ?_;unfold G3 at h;exact As⟩
