/- P3W3 -/
import Derived.Test.YtkjijhldfdplgaaGreatDoorP3W2
open Go.Proofs.Tryz
set_option linter.all false
namespace Go.Proofs.YtkjijhldfdplgaaGreatDoor.P
open Go.Abs Go.Proofs
set_option maxRecDepth 100000
set_option maxHeartbeats 4000000
instance program_Right_w:CS prog 61 (∀d:Nat,W2 prog 61 (Dd d)):=⟨λd a b R h=>by
 refine uD func61 ?_;unfold Dd at h;exact As⟩
instance condition_Covers_c1_c1_w:CS prog 116 (∀(b:Ac)(a:Ac)(R:Bool)(h:EX b a=some R),Ay prog 116 [.d (Ad b),.d (.ptr [(.j a.B),(.j a.T)])] (.b R)):=⟨λb a R h=>by
 refine uD func116 ?_;unfold EX at h;exact As⟩
instance condition_Covers_c1_w:CS prog 115 (∀(a:Ac)(b:List Ac)(R:Bool)(h:G8 a b=some R),Ay prog 115 [.d (Ad a),.d (.ptr [(Am 2 Ad b)])] (.b R)):=⟨λa b R h=>by
 refine uD func115 ?_;unfold G8 at h;exact As⟩
instance condition_Covers_w:CS prog 62 (W2 prog 62 BB):=⟨λa b R h=>by
 refine uD func62 ?_;unfold BB at h;exact As⟩
instance {a0 a1 a2}:LS (λa s=>LA a0 a1 a2 a s) 31 [2,7,16,17] (λs=>[(18,.i s)]) [] (λs=>[]):=⟨trivial⟩
instance types_LevelOf_w:CS prog 137 (W3 prog 137 Ik):=⟨λa b p2 R h=>by
 refine uD func137 ?_;unfold Ik at h;exact As⟩
instance schema_Finest_w:CS prog 190 (W2 prog 190 Ff):=⟨λa b R h=>by
 refine uD func190 ?_;unfold Ff at h;exact As⟩
instance schema_blocks_w:CS prog 257 (W3 prog 257 Fg):=⟨λa b p2 R h=>by
 refine uD func257 ?_;unfold Fg at h;exact As⟩
instance {a0 a1 a2}:LS (λa s=>QQ a0 a1 a2 a s) 35 [1,3] (λs=>[(2,.i s)]) [3] (λs=>[]):=⟨trivial⟩
instance schema_Least_w:CS prog 189 (W3 prog 189 Gw):=⟨λa b p2 R h=>by
 refine uD func189 ?_;unfold Gw at h;exact As⟩
instance types_own_c1_w:CS prog 188 (∀(b:Int)(c:List Ac)(a:Aa)(R:List Ac)(h:Dn b c a=some R),Wj prog 188 [.i b,.any,.d (.ptr [(Am 2 Ae a.K),(Am 7 Ak a.A)])] 1 2 132 (List.map Ad c) (List.map Ad R)):=⟨λb c a R h=>by
 refine sa [] 0 func188 (by kernel_rfl) rfl rfl (by simp) (by decide) rfl ?_;unfold Dn at h
 conv=>whnf
 refine z13 ?_;refine E9 h (λ_=>schema_Finest_w.h _ _ _) λd h=>?_;refine E9 h (λ_=>schema_Least_w.h _ _ _ _) λe h=>?_
 conv=>whnf
 refine QW h λhr h=>?_;refine z8 ?_
 try rw[Q1]
 conv=>whnf
 obtain rfl:=sY h;exact⟨rfl,rfl,rfl,rfl,by first|rfl|(simp only[sX];done)|(simp only[sX];rfl)⟩⟩
instance types_own_w:CS prog 117 (W2 prog 117 Nr):=⟨λb a R h=>by
 refine OT [8,19] func117 (by kernel_rfl) ?_;unfold Nr at h
 conv=>whnf
 refine⟨.inr ?_⟩;refine F3 {p:(List Ac) // Nj a b p=some R} (λp=>CY 78 [(2,.ptr 2 1 0),(3,.ptr 3 1 0),(5,.ptr 5 1 0),(6,.cc (some 188) [.sl 5 1,.d (.ptr [(Am 2 Ae b.K),(Am 7 Ak b.A)])])] [(2,.fvar [(Am 2 Ae b.K),(Am 7 Ak b.A)],1),(3,.var [.i a.Op,.i a.L,.t a.J,.i a.B,.l 1 D.z a.A,.l 2 Ad a.Y,.i a.X.Op,.i a.X.B,.i a.X.Z,.i a.X.D,.i a.X.E,.l 6 Az a.X.G,.i a.V.Op,.i a.V.B,.i a.V.Z,.i a.V.D,.i a.V.E,.l 6 Az a.V.G,.l 19 BY a.G],1),(5,.var [.sl 30 1],1),(30,.row 2 132 (List.map Ad p.1),1)]) ?_ λp=>?_
 ·conv=>whnf
  refine Gl h λr s h=>?_;refine e9 [(5,0,30,132)] {p:Nat×(Int×(List Ac)) // r p.1 p.2=some R} (λp=>CY 78 [(2,.ptr 2 1 0),(3,.ptr 3 1 0),(5,.ptr 5 1 0),(6,.cc (some 188) [.sl 5 1,.d (.ptr [(Am 2 Ae b.K),(Am 7 Ak b.A)])]),(13,.l 2 Ad a.Y),(14,.i (a.Y.length:Int)),(15,.i p.1.2.1)] [(2,.fvar [(Am 2 Ae b.K),(Am 7 Ak b.A)],1),(3,.var [.i a.Op,.i a.L,.t a.J,.i a.B,.l 1 D.z a.A,.l 2 Ad a.Y,.i a.X.Op,.i a.X.B,.i a.X.Z,.i a.X.D,.i a.X.E,.l 6 Az a.X.G,.i a.V.Op,.i a.V.B,.i a.V.Z,.i a.V.D,.i a.V.E,.l 6 Az a.V.G,.l 19 BY a.G],1),(5,.var [.sl 30 1],1),(30,.row 2 132 (List.map Ad p.1.2.2),1)]) (λp=>p.1.1) ⟨(_,(_,_)),h⟩ ?_ λp=>?_
  ·conv=>whnf
   exact mI
  obtain⟨⟨t,⟨k,l⟩⟩,h⟩:=p;obtain⟨t,rfl,h⟩:=s _ _ h;simp only[Vr]at h;refine Do h (λh=>?_) λh=>?_
  ·refine QX (f:=Ad) h λu _ h=>?_
   conv=>whnf
   refine z13 ?_;refine E9 h (λ_=>schema_Least_w.h _ _ _ _) λv h=>?_
   conv=>whnf
   refine QW h λhr h=>?_;refine z8 ?_
   try rw[Q1]
   conv=>whnf
   exact cz ⟨(_,(_,_)),h⟩ Bh
  exact z24
 obtain⟨m,h⟩:=p;simp only[Nj]at h;refine F3 {p:(List Ac) // B5 a b p=some R} (λp=>CY 78 [(3,.ptr 3 1 0),(5,.ptr 5 1 0),(6,.cc (some 188) [.sl 5 1,.d (.ptr [(Am 2 Ae b.K),(Am 7 Ak b.A)])])] [(3,.var [.i a.Op,.i a.L,.t a.J,.i a.B,.l 1 D.z a.A,.l 2 Ad a.Y,.i a.X.Op,.i a.X.B,.i a.X.Z,.i a.X.D,.i a.X.E,.l 6 Az a.X.G,.i a.V.Op,.i a.V.B,.i a.V.Z,.i a.V.D,.i a.V.E,.l 6 Az a.V.G,.l 19 BY a.G],1),(5,.var [.sl 30 1],1),(30,.row 2 132 (List.map Ad p.1),1)]) ?_ λp=>?_
 ·conv=>whnf
  refine lI h FK (λc h=>?_) (λc h=>?_)
  ·conv=>whnf
   refine oy FK c ?_;refine Do h (λh=>?_) λh=>?_
   ·conv=>whnf
    exact z17
   exact z24
  conv=>whnf
  refine lI h FK (λd h=>?_) (λd h=>?_)
  ·conv=>whnf
   refine oy FK d ?_;refine Do h (λh=>?_) λh=>?_
   ·conv=>whnf
    exact z17
   exact z24
  conv=>whnf
  refine lI h FK (λe h=>?_) (λe h=>?_)
  ·conv=>whnf
   refine oy FK e ?_;refine Do h (λh=>?_) λh=>?_
   ·conv=>whnf
    exact z17
   exact z24
  conv=>whnf
  refine lI h FK (λg h=>?_) (λg h=>?_)
  ·conv=>whnf
   refine oy FK g ?_;refine Do h (λh=>?_) λh=>?_
   ·conv=>whnf
    exact z17
   exact z24
  conv=>whnf
  refine lI h FK (λi h=>?_) (λi h=>?_)
  ·conv=>whnf
   refine oy FK i ?_;refine Do h (λh=>?_) λh=>?_
   ·conv=>whnf
    exact z17
   exact z24
  refine Do h (λh=>?_) λh=>?_
  ·refine Do h (λh=>?_) λh=>?_
   ·conv=>whnf
    exact z17
   exact z24
  refine Do h (λh=>?_) λh=>?_
  ·conv=>whnf
   refine z13 ?_;refine E9 h (λ_=>types_LevelOf_w.h _ _ _ _) λw h=>?_;refine E9 h (λ_=>schema_Least_w.h _ _ _ _) λx h=>?_
   conv=>whnf
   refine QW h λhr h=>?_;refine z8 ?_
   try rw[Q1]
   exact z24
  exact z24
 obtain⟨n,h⟩:=p;simp only[B5]at h
 conv=>whnf
 refine z7 h (λp=>CY 78 [(5,.ptr 5 1 0),(6,.cc (some 188) [.sl 5 1,.d (.ptr [(Am 2 Ae b.K),(Am 7 Ak b.A)])]),(67,.l 1 D.z a.A),(68,.i (a.A.length:Int)),(69,.i p.1)] [(5,.var [.sl 30 1],1),(30,.row 2 132 (List.map Ad p.2),1)]) Bh λ_ _ ⟨o,q⟩ h=>?_;simp only[Vs]at h;refine Do h (λh=>?_) λh=>?_
 ·refine QX (f:=D.z) h λy _ h=>?_
  conv=>whnf
  refine Bi h λz j h=>?_;refine Wv (types_own_c1_w.h _ _ _ _ j) ?_
  conv=>whnf
  exact cz ⟨(_,(_,_)),h⟩ Bh
 conv=>whnf
 obtain rfl:=sY h;refine⟨.inl ?_⟩
 conv=>whnf
 exact⟨Jl⟩⟩
instance {a0 a1 a2}:LS (λa s=>N2 a0 a1 a2 a s.1 s.2) 34 [3,22,23] (λs=>[(24,.i s.1)]) [] (λs=>[(3,.row 6 36 (List.map Az s.2),1)]):=⟨trivial⟩
theorem TL(d:Nat)(a:Ah->Option (List Ah))(ih:W1 prog 191 a):W1 prog 191 (EA d a):=by
 intro b R h;refine uD func191 ?_;unfold EA at h;exact As
theorem N3:∀d:Nat,(W1 prog 191 (CI d))
 | 0=>by
  exact z16
 | d+1=>by
  have ih:=N3 d;exact TL d _ ih
instance condition_Atoms_w:CS prog 191 (∀(d:Nat),W1 prog 191 (CI d)):=⟨λd=>N3 d⟩
instance condition_truth_w:CS prog 295 (W1 prog 295 DV):=⟨λa R h=>by
 refine uD func295 ?_;unfold DV at h;exact As⟩
instance codes_Under_w:CS prog 296 (W3 prog 296 FX):=⟨λa b p2 R h=>by
 refine uD func296 ?_;unfold FX at h;exact As⟩
instance condition_Atom_w:CS prog 258 (W3 prog 258 D8):=⟨λa b p2 R h=>by
 refine uD func258 ?_;unfold D8 at h;exact As⟩
instance condition_width_w:CS prog 259 (W2 prog 259 H3):=⟨λa b R h=>by
 refine uD func259 ?_;unfold H3 at h;exact As⟩
instance condition_down_w:CS prog 260 (W2 prog 260 E1):=⟨λa b R h=>by
 refine uD func260 ?_;unfold E1 at h;exact As⟩
instance condition_suffices_w:CS prog 192 (W3 prog 192 BE):=⟨λi j p2 R h=>by
 refine uD func192 ?_;unfold BE at h;refine QX (f:=Ak) h λk _ h=>?_;refine Do h (λh=>?_) λh=>?_
 ·refine QX (f:=Ae) h λd _ h=>?_
  conv=>whnf
  refine z13 ?_;refine E9 h (λ_=>codes_Levels_w.h _ _) λl h=>?_;refine E9 h (λ_=>codes_At_w.h _ _ _) λc h=>?_
  conv=>whnf
  refine z7 h (λp=>CY 134 [(2,.i p2),(3,.ptr 3 1 0),(4,.ptr 4 1 0),(8,.ptr 8 1 0),(9,.sl 34 1),(39,.l 1 D.z c),(40,.i (c.length:Int)),(41,.i p.1)] [(3,Cg i,1),(4,PX j,1),(8,La d,1),(34,.map (mU .i64 D.z p.2),1)]) Bh λ_ _ ⟨e,a⟩ h=>?_;simp only[Il]at h;refine Do h (λh=>?_) λh=>?_
  ·refine QX (f:=D.z) h λm _ h=>?_
   conv=>whnf
   refine z13 ?_;refine E9 h (λ_=>codes_Up_w.h _ _ _ _) λb h=>?_;refine E9 h (λ_=>condition_Atom_w.h _ _ _ _) λg h=>?_
   conv=>whnf
   refine⟨⟨by kernel_rfl,PC .i64 D.z b a⟩,?_⟩
   conv=>whnf
   refine UR (f:=D.z) (es:=a) (z:=0) ?_;refine Do h (λh=>?_) λh=>?_
   ·exact As
   conv=>whnf
   refine⟨⟨by rfl,by kernel_rfl,PC .i64 D.z b a⟩,?_⟩
   conv=>whnf
   try rw[cf .i64 D.z b g]
   exact As
  exact As
 exact As⟩
instance {a0 a1 a2}:LS (λa s=>N4 a0 a1 a2 a s.1 s.2) 63 [2,5,21,22] (λs=>[(23,.i s.1)]) [2] (λs=>[(19,.row 1 3 (List.map D.z s.2),1)]):=⟨trivial⟩
instance {a0 a1 a2}:LS (λa s=>N5 a0 a1 a2 a s) 63 [2,5,7,21,22,23] (λs=>[(8,.i s)]) [2,7,19] (λs=>[]):=⟨trivial⟩
instance {a0 a1}:LS (λa s=>N6 a0 a1 a s.1 s.2) 63 [9,46,47] (λs=>[(48,.i s.1)]) [19] (λs=>[(9,.row 2 132 (List.map Ad s.2),1)]):=⟨trivial⟩
instance condition_Needs_w:CS prog 118 (∀d:Nat,W2 prog 118 (BL d)):=⟨λd a b R h=>by
 refine uD func118 ?_;unfold BL at h;exact As⟩
instance questions_Merge_w:CS prog 119 (W1 prog 119 HW):=⟨λj R h=>by
 refine uD func119 ?_;unfold HW at h
 conv=>whnf
 refine z7 h (λp=>CY 59 [(3,.sl 11 1),(4,.i p.1),(12,.l 1 (Am 2 Ad) j),(13,.i (j.length:Int)),(14,.i p.2.1)] [(11,.map (mU .i64 D.z p.2.2),1)]) C3 λ_ _ ⟨g,e,a⟩ h=>?_;simp only[Hp]at h;refine Do h (λh=>?_) λh=>?_
 ·refine QX (f:=(Am 2 Ad)) h λi _ h=>?_
  conv=>whnf
  refine z7 h (λp=>CY 59 [(3,.sl 11 1),(4,.i p.1),(12,.l 1 (Am 2 Ad) j),(13,.i (j.length:Int)),(14,.i e),(18,.l 2 Ad i),(19,.i (i.length:Int)),(20,.i p.2.1)] [(11,.map (mU .i64 D.z p.2.2),1)]) C3 λ_ _ ⟨l,k,b⟩ h=>?_;simp only[Hq]at h;refine Do h (λh=>?_) λh=>?_
  ·refine QX (f:=Ad) h λc _ h=>?_
   conv=>whnf
   refine z13 ?_
   conv=>whnf
   refine⟨⟨by kernel_rfl,PC .i64 D.z c.B b⟩,?_⟩
   conv=>whnf
   refine UR (f:=D.z) (es:=b) (z:=0) ?_
   conv=>whnf
   refine⟨⟨by rfl,by kernel_rfl,PC .i64 D.z c.B b⟩,?_⟩
   conv=>whnf
   try rw[cf .i64 D.z c.B (if c.T>((Mh c.B b).getD 0)then c.T else((Mh c.B b).getD 0))]
   exact As
  exact As
 conv=>whnf
 refine z7 h (λp=>CY 59 [(3,.sl 11 1),(9,.sl 9 1),(41,.i (IntKind.i64.wrap (g+1))),(42,.i p.1)] [(9,.row 2 132 (List.map Ad p.2),1),(11,.map (mU .i64 D.z a),1)]) C3 λ_ _ ⟨d,m⟩ h=>?_;simp only[Hr]at h;refine Do h (λh=>?_) λh=>?_
 ·conv=>whnf
  refine⟨⟨by kernel_rfl,PC .i64 D.z d a⟩,?_⟩
  conv=>whnf
  refine UR (f:=D.z) (es:=a) (z:=0) ?_;refine Do h (λh=>?_) λh=>?_
  ·conv=>whnf
   refine⟨⟨by kernel_rfl,PC .i64 D.z d a⟩,?_⟩
   conv=>whnf
   refine UR (f:=D.z) (es:=a) (z:=0) ?_;exact As
  exact As
 exact As⟩
