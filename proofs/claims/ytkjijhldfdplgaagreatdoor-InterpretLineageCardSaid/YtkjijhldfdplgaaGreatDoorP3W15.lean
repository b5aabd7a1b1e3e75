/- P3W15 -/
import Derived.Test.YtkjijhldfdplgaaGreatDoorP3HW
open Go.Proofs.Tryz
set_option linter.all false
namespace Go.Proofs.YtkjijhldfdplgaaGreatDoor.P
open Go.Abs Go.Proofs
set_option maxRecDepth 100000
set_option maxHeartbeats 40000000
instance {a0 a1 a2}:LS (λa s=>Nc a0 a1 a2 a s.1 s.2.1 s.2.2) 56 [0,1,5] (λs=>[(6,.b s.1),(7,.i s.2.1)]) [] (λs=>[(5,.row 1 31 (List.map (Am 1 D.z) s.2.2),1)]):=⟨trivial⟩
instance ref04_Put_w:CS prog 40 (W2 prog 40 Np):=⟨λa b R h=>by
 refine uD func40 ?_;unfold Np at h;exact As⟩
instance {a0 a1}:LS (λa s=>Tr a0 a1 a s) 70 [0] (λs=>[(3,.i s)]) [] (λs=>[]):=⟨trivial⟩
instance ref01_Name_w:CS prog 88 (W1 prog 88 C0):=⟨λa R h=>by
 refine Xr [3,8] func88 ?_;unfold C0 at h;refine F3 {p:Unit // Pd a=some R} (λp=>CY 70 [(0,.t a)] []) ?_ λp=>?_
 ·exact As
 obtain⟨_,h⟩:=p;simp only[Pd]at h;refine F3 {p:Unit // Ts a=some R} (λp=>CY 70 [(0,.t a)] []) ?_ λp=>?_
 ·exact As
 obtain⟨_,h⟩:=p;exact As⟩
instance {a0 a1}:LS (λa s=>RD a0 a1 a s.1 s.2) 22 [2] (λs=>[(1,.i s.1),(5,.i s.2)]) [2] (λs=>[]):=⟨trivial⟩
instance ref01_depth_w:CS prog 163 (W2 prog 163 Fe):=⟨λa b R h=>by
 refine uD func163 ?_;unfold Fe at h;exact As⟩
instance {a0 a1 a2}:LS (λa s=>Tt a0 a1 a2 a s) 21 [1,2] (λs=>[(5,.i s)]) [2] (λs=>[]):=⟨trivial⟩
instance ref01_leaf_w:CS prog 238 (W2 prog 238 Uh):=⟨λa b R h=>by
 refine uD func238 ?_;unfold Uh at h;exact As⟩
instance {a0 a1}:LS (λa s=>R7 a0 a1 a s) 100 [1] (λs=>[(3,.i s)]) [1] (λs=>[]):=⟨trivial⟩
instance {a0 a1 a2}:LS (λa s=>R8 a0 a1 a2 a s) 100 [1,3] (λs=>[(4,.i s)]) [1] (λs=>[]):=⟨trivial⟩
instance {a0 a1}:LS (λa s=>R9 a0 a1 a s.1 s.2) 100 [1] (λs=>[(6,.i s.1),(7,.i s.2)]) [1] (λs=>[]):=⟨trivial⟩
instance ref01_Check_w:CS prog 153 (W1 prog 153 Gr):=⟨λa R h=>by
 refine Xr [20] func153 ?_;unfold Gr at h;refine E9 h (λ_=>ref01_Name_w.h _ _) λb h=>?_;refine Do h (λh=>?_) λh=>?_
 ·exact As
 refine Do h (λh=>?_) λh=>?_
 ·exact As
 refine Do h (λh=>?_) λh=>?_
 ·exact As
 refine F3 {p:Unit // RA a=some R} (λp=>CY 100 [(1,.ptr 1 1 0)] [(1,La a,1)]) ?_ λp=>?_
 ·exact As
 obtain⟨_,h⟩:=p;exact As⟩
instance ref01_Levels_w:CS prog 94 (W1 prog 94 Gs):=⟨λa R h=>by
 refine uD func94 ?_;unfold Gs at h;exact As⟩
instance {a0 a1 a2}:LS (λa s=>WV a0 a1 a2 a s.1 s.2) 27 [1,2,5] (λs=>[(6,.i s.1)]) [2] (λs=>[(5,.row 1 3 (List.map D.z s.2),1)]):=⟨trivial⟩
instance ref01_At_w:CS prog 233 (W2 prog 233 PH):=⟨λa b R h=>by
 refine uD func233 ?_;unfold PH at h;exact As⟩
instance ref02_Leaves_w:CS prog 151 (W2 prog 151 Hs):=⟨λa b R h=>by
 refine uD func151 ?_;unfold Hs at h;exact As⟩
instance ref02_in_w:CS prog 102 (W3 prog 102 F7):=⟨λa b p2 R h=>by
 refine uD func102 ?_;unfold F7 at h;exact As⟩
instance {a0 a1}:LS (λa s=>PM a0 a1 a s) 79 [1] (λs=>[(3,.i s)]) [1] (λs=>[]):=⟨trivial⟩
instance ref02_measure_w:CS prog 239 (W1 prog 239 Jo):=⟨λa R h=>by
 refine Xr [3] func239 ?_;unfold Jo at h;refine F3 {p:Unit // L1 a=some R} (λp=>CY 79 [(1,.ptr 1 1 0)] [(1,Q3 a,1)]) ?_ λp=>?_
 ·exact As
 obtain⟨_,h⟩:=p;exact As⟩
instance {a0 a1 a2 a3}:LS (λa s=>J2 a0 a1 a2 a3 a s) 98 [1,2,5] (λs=>[(6,.i s)]) [2,5] (λs=>[]):=⟨trivial⟩
instance ref02_column_w:CS prog 154 (W2 prog 154 K5):=⟨λb c R h=>by
 refine Xr [9,13] func154 ?_;unfold K5 at h;refine QX (f:=Ak) h λa _ h=>?_;refine E9 h (λ_=>ref01_Name_w.h _ _) λd h=>?_;refine Do h (λh=>?_) λh=>?_
 ·exact As
 refine F3 {p:Unit // J3 a c b=some R} (λp=>CY 98 [(1,.i c),(2,.ptr 2 1 0),(5,.ptr 5 1 0)] [(2,Cg b,1),(5,Q3 a,1)]) ?_ λp=>?_
 ·exact As
 obtain⟨_,h⟩:=p;simp only[J3]at h;refine E9 h (λ_=>ref02_in_w.h _ _ _ _) λe h=>?_;refine Do h (λh=>?_) λh=>?_
 ·exact As
 refine F3 {p:Unit // Ia a=some R} (λp=>CY 98 [(5,.ptr 5 1 0)] [(5,Q3 a,1)]) ?_ λp=>?_
 ·exact As
 obtain⟨_,h⟩:=p;exact As⟩
instance {a0 a1}:LS (λa s=>Kz a0 a1 a s) 77 [1] (λs=>[(3,.i s)]) [1] (λs=>[]):=⟨trivial⟩
instance {a0 a1 a2}:LS (λa s=>K2 a0 a1 a2 a s) 77 [1,3] (λs=>[(5,.i s)]) [1] (λs=>[]):=⟨trivial⟩
instance {a0 a1}:LS (λa s=>K3 a0 a1 a s) 77 [1] (λs=>[(6,.i s)]) [1] (λs=>[]):=⟨trivial⟩
instance ref02_Check_w:CS prog 87 (W1 prog 87 Eb):=⟨λa R h=>by
 refine Xr [14] func87 ?_;unfold Eb at h;refine Do h (λh=>?_) λh=>?_
 ·exact As
 refine F3 {p:Unit // NZ a=some R} (λp=>CY 77 [(1,.ptr 1 1 0)] [(1,Cg a,1)]) ?_ λp=>?_
 ·exact As
 obtain⟨_,h⟩:=p;exact As⟩
instance ref02_Finest_w:CS prog 48 (W2 prog 48 Dj):=⟨λa b R h=>by
 refine uD func48 ?_;unfold Dj at h;exact As⟩
instance {a0 a1 a2 a3}:LS (λa s=>KB a0 a1 a2 a3 a s.1 s.2) 31 [1,2] (λs=>[(5,.i s.1),(6,.i s.2)]) [2] (λs=>[]):=⟨trivial⟩
theorem Y9(d:Nat)(a:Ah->Int->Option Int)(ih:W2 prog 155 a):W2 prog 155 (Jp d a):=by
 intro b c R h;refine uD func155 ?_;unfold Jp at h;exact As
theorem RP:∀d:Nat,(W2 prog 155 (JV d))
 | 0=>by
  exact z16
 | d+1=>by
  have ih:=RP d;exact Y9 d _ ih
instance ref05_count_w:CS prog 155 (∀(d:Nat),W2 prog 155 (JV d)):=⟨λd=>RP d⟩
instance {a0 a1 a2}:LS (λa s=>RQ a0 a1 a2 a s.1 s.2) 22 [1] (λs=>[(3,.i s.1),(4,.i s.2)]) [1] (λs=>[]):=⟨trivial⟩
theorem YA(d:Nat)(a:Ah->Option Int)(ih:W1 prog 156 a):W1 prog 156 (LL d a):=by
 intro b R h;refine uD func156 ?_;unfold LL at h;exact As
theorem RU:∀d:Nat,(W1 prog 156 (IG d))
 | 0=>by
  exact z16
 | d+1=>by
  have ih:=RU d;exact YA d _ ih
instance ref05_depth_w:CS prog 156 (∀(d:Nat),W1 prog 156 (IG d)):=⟨λd=>RU d⟩
instance ref05_is_w:CS prog 240 (W3 prog 240 Oh):=⟨λa b p2 R h=>by
 refine uD func240 ?_;unfold Oh at h;exact As⟩
theorem Zp(d:Nat)(a:Aa->Ah->Option Int)(ih:W2 prog 157 a):W2 prog 157 (KD d a):=by
 intro c b R h;refine OT [16,20,22] func157 (by kernel_rfl) ?_;unfold KD at h
 conv=>whnf
 refine z13 ?_;refine F3 {p:(Int×Int×Int×Int×Int) // BI b c a p.1 p.2.1 p.2.2.1 p.2.2.2.1 p.2.2.2.2=some R} (λp=>CY 185 [(2,.ptr 2 1 0),(3,.ptr 3 1 0),(5,.i p.1.1),(6,.ptr 6 1 0)] [(2,.var [.l 2 Ae c.K,.l 7 Ak c.A],1),(3,.var [.i b.Op,.i b.B,.i b.Z,.i b.D,.i b.E,.l 6 Az b.G],1),(6,.var [.i b.Op,.i p.1.2.1,.i p.1.2.2.1,.i p.1.2.2.2.1,.i p.1.2.2.2.2,.n 6],1)]) ?_ λp=>?_
 ·refine Do h (λh=>?_) λh=>?_
  ·exact z27
  refine Do h (λh=>?_) λh=>?_
  ·conv=>whnf
   refine z13 ?_;exact z27
  refine Do h (λh=>?_) λh=>?_
  ·conv=>whnf
   refine z13 ?_;exact z27
  refine Do h (λh=>?_) λh=>?_
  ·exact z27
  conv=>whnf
  refine lI h FK (λi h=>?_) (λi h=>?_)
  ·conv=>whnf
   refine oy FK i ?_;exact z27
  refine Do h (λh=>?_) λh=>?_
  ·exact z27
  refine jz h λh=>?_;exact z27
 obtain⟨⟨q,l,m,n,o⟩,h⟩:=p;simp only[BI]at h;refine Iu h λh=>?_;refine F3 {p:Unit // Cw b c a=some R} (λp=>CY 185 [(2,.ptr 2 1 0),(3,.ptr 3 1 0)] [(2,.var [.l 2 Ae c.K,.l 7 Ak c.A],1),(3,.var [.i b.Op,.i b.B,.i b.Z,.i b.D,.i b.E,.l 6 Az b.G],1)]) ?_ λp=>?_
 ·conv=>whnf
  refine lI h FK (λg h=>?_) (λg h=>?_)
  ·refine E9 h (λ_=>ref05_is_w.h _ _ _ _) λx h=>?_;refine Iu h λh=>?_;refine r7 FK (sj g) ?_;refine r7 FK (sj g) ?_;exact⟨⟨(),h⟩,Bh⟩
  refine lI h FK (λj h=>?_) (λj h=>?_)
  ·refine E9 h (λ_=>ref05_is_w.h _ _ _ _) λy h=>?_;refine Iu h λh=>?_;refine r7 FK (sj j) ?_;exact⟨⟨(),h⟩,Bh⟩
  refine Do h (λh=>?_) λh=>?_
  ·refine E9 h (λ_=>ref05_is_w.h _ _ _ _) λr h=>?_;refine Iu h λh=>?_;refine QX (f:=Ak) h λs _ h=>?_;refine Iu h λh=>?_
   conv=>whnf
   exact⟨⟨(),h⟩,Bh⟩
  exact⟨⟨(),h⟩,Bh⟩
 obtain⟨_,h⟩:=p;simp only[Cw]at h;refine F3 {p:Unit // De b a c=some R} (λp=>CY 185 [(2,.ptr 2 1 0),(3,.ptr 3 1 0)] [(2,.var [.l 2 Ae c.K,.l 7 Ak c.A],1),(3,.var [.i b.Op,.i b.B,.i b.Z,.i b.D,.i b.E,.l 6 Az b.G],1)]) ?_ λp=>?_
 ·conv=>whnf
  refine z13 ?_;refine Do h (λh=>?_) λh=>?_
  ·refine Iu h λh=>?_;refine QX (f:=Ak) h λt _ h=>?_;refine QX (f:=Ae) h λu _ h=>?_;refine Iu h λh=>?_
   conv=>whnf
   exact⟨⟨(),h⟩,Bh⟩
  exact⟨⟨(),h⟩,Bh⟩
 obtain⟨_,h⟩:=p;simp only[De]at h;refine Iu h λh=>?_
 conv=>whnf
 refine z7 h (λp=>CY 185 [(2,.ptr 2 1 0),(3,.ptr 3 1 0),(7,.i p)] [(2,.var [.l 2 Ae c.K,.l 7 Ak c.A],1),(3,.var [.i b.Op,.i b.B,.i b.Z,.i b.D,.i b.E,.l 6 Az b.G],1)]) Bh λ_ _ v h=>?_;simp only[Jq]at h;refine jz h λh=>?_
 conv=>whnf
 refine z13 ?_;refine QX (f:=Az) h λk _ h=>?_;rw[AQ k]
 conv=>whnf
 refine Bi h λw e h=>?_
 first|refine A3 (ih _ _ _ e) ?_|(simp only[sX];refine A3 (ih _ _ _ e) ?_)
 refine Iu h λh=>?_
 conv=>whnf
 exact cz ⟨(_,_),h⟩ Bh
theorem Ty:∀d:Nat,(W2 prog 157 (IH d))
 | 0=>by
  exact z16
 | d+1=>by
  have ih:=Ty d;exact Zp d _ ih
instance ref05_node_w:CS prog 157 (∀(d:Nat),W2 prog 157 (IH d)):=⟨λd=>Ty d⟩
