/- P3W17 -/
import Derived.Test.YtaojdkijihbaoaaGreatDoorP3W16
open Go.Proofs.Tryz
set_option linter.all false
namespace Go.Proofs.YtaojdkijihbaoaaGreatDoor.P
open Go.Abs Go.Proofs
set_option maxRecDepth 100000
set_option maxHeartbeats 4000000
instance ref05_Check_w:CS prog 56 (∀d:Nat,W2 prog 56 (Fh d)):=⟨λd a b R h=>by
 refine uD func56 ?_;unfold Fh at h;exact Aq⟩
instance ref08_Is_w:CS prog 180 (W3 prog 180 Jg):=⟨λa b p2 R h=>by
 refine uD func180 ?_;unfold Jg at h;exact Aq⟩
instance ref02_Pick_w:CS prog 114 (W2 prog 114 Hj):=⟨λa b R h=>by
 refine uD func114 ?_;unfold Hj at h;exact Aq⟩
instance {a0 a1 a2}:LS (λa s=>SN a0 a1 a2 a s) 55 [1,2] (λs=>[(5,.i s)]) [2] (λs=>[]):=⟨trivial⟩
instance {a0 a1 a2}:LS (λa s=>SO a0 a1 a2 a s) 55 [1,2,5] (λs=>[(7,.i s)]) [2] (λs=>[]):=⟨trivial⟩
instance ref08_Dims_w:CS prog 181 (W2 prog 181 JB):=⟨λa b R h=>by
 refine uD func181 ?_;unfold JB at h;exact Aq⟩
instance {a0 a1 a2}:LS (λa s=>MY a0 a1 a2 a s) 18 [0,1] (λs=>[(5,.i s)]) [] (λs=>[]):=⟨trivial⟩
instance ref01_Has_w:CS prog 112 (W2 prog 112 Nl):=⟨λa b R h=>by
 refine uD func112 ?_;unfold Nl at h;exact Aq⟩
instance {a0 a1 a2 a3}:LS (λa s=>Ro a0 a1 a2 a3 a s) 45 [1,2,3] (λs=>[(7,.i s)]) [3] (λs=>[]):=⟨trivial⟩
instance ref08_Terms_w:CS prog 182 (W3 prog 182 I4):=⟨λa b p2 R h=>by
 refine uD func182 ?_;unfold I4 at h;exact Aq⟩
instance ref08_parts_w:CS prog 107 (∀d:Nat,W2 prog 107 (Mt d)):=⟨λd a b R h=>by
 refine uD func107 ?_;unfold Mt at h;exact Aq⟩
instance {a0 a1 a2 a3}:LS (λa s=>SG a0 a1 a2 a3 a s) 67 [2,3] (λs=>[(5,.i s)]) [2,3] (λs=>[]):=⟨trivial⟩
theorem YO(d:Nat)(a:Ad->Ad->Option Bool)(ih:W2 prog 183 a):W2 prog 183 (K3 d a):=by
 intro b c R h;refine uD func183 ?_;unfold K3 at h;exact Aq
theorem SH:∀d:Nat,(W2 prog 183 (NT d))
 | 0=>by
  exact z16
 | d+1=>by
  have ih:=SH d;exact YO d _ ih
instance ref05_Same_w:CS prog 183 (∀(d:Nat),W2 prog 183 (NT d)):=⟨λd=>SH d⟩
instance ref08_zero_w:CS prog 108 (∀d:Nat,W1 prog 108 (NX d)):=⟨λd a R h=>by
 refine uD func108 ?_;unfold NX at h;exact Aq⟩
instance ref08_Question_w:CS prog 57 (∀d:Nat,W2 prog 57 (CH d)):=⟨λd a b R h=>by
 refine uD func57 ?_;unfold CH at h;exact Aq⟩
instance {a0 a1 a2 a3}:LS (λa s=>K7 a0 a1 a2 a3 a s) 110 [2,3] (λs=>[(8,.i s)]) [2,3] (λs=>[]):=⟨trivial⟩
instance {a0 a1 a2}:LS (λa s=>K8 a0 a1 a2 a s) 110 [2,3,8] (λs=>[(10,.i s)]) [2,3] (λs=>[]):=⟨trivial⟩
instance ref08_Check_w:CS prog 25 (∀d:Nat,W2 prog 25 (Gs d)):=⟨λd a b R h=>by
 refine WA [6] func25 ?_;unfold Gs at h;refine Fx h (λ_=>ref02_Check_w.h _ _) λc h=>?_;refine EA h (λh=>?_) λh=>?_
 ·exact Aq
 refine Gj {p:Unit // K9 d a b=some R} (λp=>Dk 110 [(2,.ptr 2 1 0),(3,.ptr 3 1 0)] [(2,BN a,1),(3,La b,1)]) ?_ λp=>?_
 ·exact Aq
 obtain⟨_,h⟩:=p;exact Aq⟩
instance {a0 a1 a2 a3}:LS (λa s=>GO a0 a1 a2 a3 a s.1 s.2.1 s.2.2) 59 [0,1,2,7] (λs=>[(8,.b s.1),(9,.i s.2.1)]) [] (λs=>[(7,.row 2 81 (List.map Ah s.2.2),1)]):=⟨trivial⟩
instance ref05_Raise_w:CS prog 27 (W3 prog 27 DU):=⟨λa b p2 R h=>by
 refine uD func27 ?_;unfold DU at h;exact Aq⟩
instance {a0 a1 a2}:LS (λa s=>Ky a0 a1 a2 a s.1 s.2) 36 [1,3] (λs=>[(4,.i s.1)]) [1] (λs=>[(3,.row 6 36 (List.map A3 s.2),1)]):=⟨trivial⟩
theorem Yo(d:Nat)(a:Ad->Option (List Ad))(ih:W1 prog 109 a):W1 prog 109 (Jd d a):=by
 intro b R h;refine uD func109 ?_;unfold Jd at h;exact Aq
theorem Rj:∀d:Nat,(W1 prog 109 (JM d))
 | 0=>by
  exact z16
 | d+1=>by
  have ih:=Rj d;exact Yo d _ ih
instance ref05_Atoms_w:CS prog 109 (∀(d:Nat),W1 prog 109 (JM d)):=⟨λd=>Rj d⟩
instance ref01_Level_w:CS prog 119 (W2 prog 119 Iy):=⟨λa b R h=>by
 refine uD func119 ?_;unfold Iy at h;exact Aq⟩
instance ref02_Holds_w:CS prog 70 (W3 prog 70 JJ):=⟨λa b p2 R h=>by
 refine uD func70 ?_;unfold JJ at h;exact Aq⟩
instance {a0 a1 a2}:LS (λa s=>Wy a0 a1 a2 a s) 44 [2,3] (λs=>[(1,.i s)]) [3] (λs=>[]):=⟨trivial⟩
instance ref01_Up_w:CS prog 71 (W3 prog 71 Kr):=⟨λa b p2 R h=>by
 refine uD func71 ?_;unfold Kr at h;exact Aq⟩
instance ref02_Width_w:CS prog 72 (W2 prog 72 Dn):=⟨λa b R h=>by
 refine uD func72 ?_;unfold Dn at h;exact Aq⟩
instance ref02_Floor_w:CS prog 73 (W2 prog 73 Gr):=⟨λa b R h=>by
 refine uD func73 ?_;unfold Gr at h;exact Aq⟩
instance ref02_Coarse_w:CS prog 34 (W4 prog 34 BL):=⟨λa b p2 p3 R h=>by
 refine uD func34 ?_;unfold BL at h;exact Aq⟩
instance ref01_Under_w:CS prog 251 (W3 prog 251 Mr):=⟨λa b p2 R h=>by
 refine uD func251 ?_;unfold Mr at h;exact Aq⟩
instance ref05_Atom_w:CS prog 184 (W3 prog 184 EM):=⟨λa b p2 R h=>by
 refine uD func184 ?_;unfold EM at h;exact Aq⟩
instance {a0 a1 a2 a3 a4}:LS (λa s=>LC a0 a1 a2 a3 a4 a s) 140 [2,3,4,8] (λs=>[(9,.i s)]) [3,4] (λs=>[]):=⟨trivial⟩
instance {a0 a1 a2 a3 a4 a5}:LS (λa s=>LD a0 a1 a2 a3 a4 a5 a s) 140 [2,3,4,8,9] (λs=>[(10,.i s)]) [3,4] (λs=>[]):=⟨trivial⟩
instance ref05_decides_w:CS prog 110 (W3 prog 110 Cd):=⟨λa b p2 R h=>by
 refine uD func110 ?_;unfold Cd at h;exact Aq⟩
