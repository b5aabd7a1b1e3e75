/- P3W4 -/
import Derived.Test.YtaojdkijihbaoaaGreatDoorP3W2
open Go.Proofs.Tryz
set_option linter.all false
namespace Go.Proofs.YtaojdkijihbaoaaGreatDoor.P
open Go.Abs Go.Proofs
set_option maxRecDepth 100000
set_option maxHeartbeats 4000000
instance {a0 a1 a2}:LS (λa s=>GY a0 a1 a2 a s.1 s.2) 34 [3,22,23] (λs=>[(24,.i s.1)]) [] (λs=>[(3,.row 6 36 (List.map A3 s.2),1)]):=⟨trivial⟩
theorem Ti(d:Nat)(a:Ad->Option (List Ad))(ih:W1 prog 212 a):W1 prog 212 (D1 d a):=by
 intro b R h;refine uD func212 ?_;unfold D1 at h;exact Aq
theorem Nz:∀d:Nat,(W1 prog 212 (Dd d))
 | 0=>by
  exact z16
 | d+1=>by
  have ih:=Nz d;exact Ti d _ ih
instance condition_Atoms_w:CS prog 212 (∀(d:Nat),W1 prog 212 (Dd d)):=⟨λd=>Nz d⟩
instance condition_truth_w:CS prog 297 (W1 prog 297 Cy):=⟨λa R h=>by
 refine uD func297 ?_;unfold Cy at h;exact Aq⟩
instance codes_Under_w:CS prog 298 (W3 prog 298 Fb):=⟨λa b p2 R h=>by
 refine uD func298 ?_;unfold Fb at h;exact Aq⟩
instance condition_Atom_w:CS prog 267 (W3 prog 267 Bl):=⟨λa b p2 R h=>by
 refine uD func267 ?_;unfold Bl at h;exact Aq⟩
instance condition_width_w:CS prog 268 (W2 prog 268 EJ):=⟨λa b R h=>by
 refine uD func268 ?_;unfold EJ at h;exact Aq⟩
instance condition_down_w:CS prog 269 (W2 prog 269 C9):=⟨λa b R h=>by
 refine uD func269 ?_;unfold C9 at h;exact Aq⟩
instance condition_suffices_w:CS prog 213 (W3 prog 213 AB):=⟨λi j p2 R h=>by
 refine uD func213 ?_;unfold AB at h;refine Sk (f:=Am) h λk _ h=>?_;refine EA h (λh=>?_) λh=>?_
 ·refine Sk (f:=Ai) h λd _ h=>?_
  conv=>whnf
  refine z13 ?_;refine Fx h (λ_=>codes_Levels_w.h _ _) λl h=>?_;refine Fx h (λ_=>codes_At_w.h _ _ _) λc h=>?_
  conv=>whnf
  refine z7 h (λp=>Dk 134 [(2,.i p2),(3,.ptr 3 1 0),(4,.ptr 4 1 0),(8,.ptr 8 1 0),(9,.sl 34 1),(39,.l 1 D.z c),(40,.i (c.length:Int)),(41,.i p.1)] [(3,BN i,1),(4,P6 j,1),(8,KZ d,1),(34,.map (mV .i64 D.z p.2),1)]) Bq λ_ _ ⟨e,a⟩ h=>?_;simp only[FF]at h;refine EA h (λh=>?_) λh=>?_
  ·refine Sk (f:=D.z) h λm _ h=>?_
   conv=>whnf
   refine z13 ?_;refine Fx h (λ_=>codes_Up_w.h _ _ _ _) λb h=>?_;refine Fx h (λ_=>condition_Atom_w.h _ _ _ _) λg h=>?_
   conv=>whnf
   refine⟨⟨by kernel_rfl,Pq .i64 D.z b a⟩,?_⟩
   conv=>whnf
   refine UB (f:=D.z) (es:=a) (z:=0) ?_;refine EA h (λh=>?_) λh=>?_
   ·exact Aq
   conv=>whnf
   refine⟨⟨by rfl,by kernel_rfl,Pq .i64 D.z b a⟩,?_⟩
   conv=>whnf
   try rw[bu .i64 D.z b g]
   exact Aq
  exact Aq
 exact Aq⟩
instance {a0 a1 a2}:LS (λa s=>GZ a0 a1 a2 a s.1 s.2) 63 [2,5,21,22] (λs=>[(23,.i s.1)]) [2] (λs=>[(19,.row 1 3 (List.map D.z s.2),1)]):=⟨trivial⟩
instance {a0 a1 a2}:LS (λa s=>J3 a0 a1 a2 a s) 63 [2,5,7,21,22,23] (λs=>[(8,.i s)]) [2,7,19] (λs=>[]):=⟨trivial⟩
instance {a0 a1}:LS (λa s=>Ha a0 a1 a s.1 s.2) 63 [9,46,47] (λs=>[(48,.i s.1)]) [19] (λs=>[(9,.row 2 81 (List.map Ah s.2),1)]):=⟨trivial⟩
instance condition_Needs_w:CS prog 143 (∀d:Nat,W2 prog 143 (Bs d)):=⟨λd a b R h=>by
 refine uD func143 ?_;unfold Bs at h;exact Aq⟩
instance {a0 a1 a2}:LS (λa s=>LJ a0 a1 a2 a s) 31 [2,7,16,17] (λs=>[(18,.i s)]) [] (λs=>[]):=⟨trivial⟩
instance types_LevelOf_w:CS prog 158 (W3 prog 158 Ji):=⟨λa b p2 R h=>by
 refine uD func158 ?_;unfold Ji at h;exact Aq⟩
instance schema_Finest_w:CS prog 219 (W2 prog 219 Fi):=⟨λa b R h=>by
 refine uD func219 ?_;unfold Fi at h;exact Aq⟩
instance schema_blocks_w:CS prog 296 (W3 prog 296 AX):=⟨λa b p2 R h=>by
 refine uD func296 ?_;unfold AX at h;exact Aq⟩
instance {a0 a1 a2}:LS (λa s=>H3 a0 a1 a2 a s) 35 [1,3] (λs=>[(2,.i s)]) [3] (λs=>[]):=⟨trivial⟩
instance schema_Least_w:CS prog 266 (W3 prog 266 BF):=⟨λa b p2 R h=>by
 refine uD func266 ?_;unfold BF at h;exact Aq⟩
instance types_own_c1_w:CS prog 265 (∀(b:Int)(c:List Ac)(a:Aa)(R:List Ac)(h:Cv b c a=some R),VK prog 265 [.i b,.any,.d (.ptr [(Ao 2 Ai a.K),(Ao 7 Am a.A)])] 1 2 81 (List.map Ah c) (List.map Ah R)):=⟨λb c a R h=>by
 refine sN [] 0 func265 (by kernel_rfl) rfl rfl (by simp) (by decide) rfl ?_;unfold Cv at h
 conv=>whnf
 refine z13 ?_;refine Fx h (λ_=>schema_Finest_w.h _ _ _) λd h=>?_;refine Fx h (λ_=>schema_Least_w.h _ _ _ _) λe h=>?_
 conv=>whnf
 refine S3 h λhr h=>?_;refine z8 ?_
 try rw[Qc]
 conv=>whnf
 obtain rfl:=uc h;exact⟨rfl,rfl,rfl,rfl,by first|rfl|(simp only[ua];done)|(simp only[ua];rfl)⟩⟩
instance types_own_w:CS prog 209 (W2 prog 209 JV):=⟨λb a R h=>by
 refine Q7 [8,19] func209 (by kernel_rfl) ?_;unfold JV at h
 conv=>whnf
 refine⟨.inr ?_⟩;refine Gj {p:(List Ac) // KY a b p=some R} (λp=>Dk 78 [(2,.ptr 2 1 0),(3,.ptr 3 1 0),(5,.ptr 5 1 0),(6,.cc (some 265) [.sl 5 1,.d (.ptr [(Ao 2 Ai b.K),(Ao 7 Am b.A)])])] [(2,.fvar [(Ao 2 Ai b.K),(Ao 7 Am b.A)],1),(3,.var [.i a.Op,.i a.S,.t a.I,.i a.B,.l 1 D.z a.A,.l 2 Ah a.V,.i a.Ah.Op,.i a.Ah.B,.i a.Ah.Z,.i a.Ah.C,.i a.Ah.D,.l 6 A3 a.Ah.H,.i a.U.Op,.i a.U.B,.i a.U.Z,.i a.U.C,.i a.U.D,.l 6 A3 a.U.H,.l 19 CG a.H],1),(5,.var [.sl 30 1],1),(30,.row 2 81 (List.map Ah p.1),1)]) ?_ λp=>?_
 ·conv=>whnf
  refine Hq h λr s h=>?_;refine dA [(5,0,30,81)] {p:Nat×(Int×(List Ac)) // r p.1 p.2=some R} (λp=>Dk 78 [(2,.ptr 2 1 0),(3,.ptr 3 1 0),(5,.ptr 5 1 0),(6,.cc (some 265) [.sl 5 1,.d (.ptr [(Ao 2 Ai b.K),(Ao 7 Am b.A)])]),(13,.l 2 Ah a.V),(14,.i (a.V.length:Int)),(15,.i p.1.2.1)] [(2,.fvar [(Ao 2 Ai b.K),(Ao 7 Am b.A)],1),(3,.var [.i a.Op,.i a.S,.t a.I,.i a.B,.l 1 D.z a.A,.l 2 Ah a.V,.i a.Ah.Op,.i a.Ah.B,.i a.Ah.Z,.i a.Ah.C,.i a.Ah.D,.l 6 A3 a.Ah.H,.i a.U.Op,.i a.U.B,.i a.U.Z,.i a.U.C,.i a.U.D,.l 6 A3 a.U.H,.l 19 CG a.H],1),(5,.var [.sl 30 1],1),(30,.row 2 81 (List.map Ah p.1.2.2),1)]) (λp=>p.1.1) ⟨(_,(_,_)),h⟩ ?_ λp=>?_
  ·conv=>whnf
   exact rO
  obtain⟨⟨t,⟨k,l⟩⟩,h⟩:=p;obtain⟨t,rfl,h⟩:=s _ _ h;simp only[UY]at h;refine EA h (λh=>?_) λh=>?_
  ·refine Sk (f:=Ah) h λu _ h=>?_
   conv=>whnf
   refine z13 ?_;refine Fx h (λ_=>schema_Least_w.h _ _ _ _) λv h=>?_
   conv=>whnf
   refine S3 h λhr h=>?_;refine z8 ?_
   try rw[Qc]
   conv=>whnf
   exact kW ⟨(_,(_,_)),h⟩ Bq
  exact z22
 obtain⟨m,h⟩:=p;simp only[KY]at h;refine Gj {p:(List Ac) // Bi a b p=some R} (λp=>Dk 78 [(3,.ptr 3 1 0),(5,.ptr 5 1 0),(6,.cc (some 265) [.sl 5 1,.d (.ptr [(Ao 2 Ai b.K),(Ao 7 Am b.A)])])] [(3,.var [.i a.Op,.i a.S,.t a.I,.i a.B,.l 1 D.z a.A,.l 2 Ah a.V,.i a.Ah.Op,.i a.Ah.B,.i a.Ah.Z,.i a.Ah.C,.i a.Ah.D,.l 6 A3 a.Ah.H,.i a.U.Op,.i a.U.B,.i a.U.Z,.i a.U.C,.i a.U.D,.l 6 A3 a.U.H,.l 19 CG a.H],1),(5,.var [.sl 30 1],1),(30,.row 2 81 (List.map Ah p.1),1)]) ?_ λp=>?_
 ·conv=>whnf
  refine lH h Ld (λc h=>?_) (λc h=>?_)
  ·conv=>whnf
   refine oC Ld c ?_;refine EA h (λh=>?_) λh=>?_
   ·conv=>whnf
    exact z17
   exact z22
  conv=>whnf
  refine lH h Ld (λd h=>?_) (λd h=>?_)
  ·conv=>whnf
   refine oC Ld d ?_;refine EA h (λh=>?_) λh=>?_
   ·conv=>whnf
    exact z17
   exact z22
  conv=>whnf
  refine lH h Ld (λe h=>?_) (λe h=>?_)
  ·conv=>whnf
   refine oC Ld e ?_;refine EA h (λh=>?_) λh=>?_
   ·conv=>whnf
    exact z17
   exact z22
  conv=>whnf
  refine lH h Ld (λg h=>?_) (λg h=>?_)
  ·conv=>whnf
   refine oC Ld g ?_;refine EA h (λh=>?_) λh=>?_
   ·conv=>whnf
    exact z17
   exact z22
  conv=>whnf
  refine lH h Ld (λi h=>?_) (λi h=>?_)
  ·conv=>whnf
   refine oC Ld i ?_;refine EA h (λh=>?_) λh=>?_
   ·conv=>whnf
    exact z17
   exact z22
  refine EA h (λh=>?_) λh=>?_
  ·refine EA h (λh=>?_) λh=>?_
   ·conv=>whnf
    exact z17
   exact z22
  refine EA h (λh=>?_) λh=>?_
  ·conv=>whnf
   refine z13 ?_;refine Fx h (λ_=>types_LevelOf_w.h _ _ _ _) λw h=>?_;refine Fx h (λ_=>schema_Least_w.h _ _ _ _) λx h=>?_
   conv=>whnf
   refine S3 h λhr h=>?_;refine z8 ?_
   try rw[Qc]
   exact z22
  exact z22
 obtain⟨n,h⟩:=p;simp only[Bi]at h
 conv=>whnf
 refine z7 h (λp=>Dk 78 [(5,.ptr 5 1 0),(6,.cc (some 265) [.sl 5 1,.d (.ptr [(Ao 2 Ai b.K),(Ao 7 Am b.A)])]),(67,.l 1 D.z a.A),(68,.i (a.A.length:Int)),(69,.i p.1)] [(5,.var [.sl 30 1],1),(30,.row 2 81 (List.map Ah p.2),1)]) Bq λ_ _ ⟨o,q⟩ h=>?_;simp only[UZ]at h;refine EA h (λh=>?_) λh=>?_
 ·refine Sk (f:=D.z) h λy _ h=>?_
  conv=>whnf
  refine BD h λz j h=>?_;refine VX (types_own_c1_w.h _ _ _ _ j) ?_
  conv=>whnf
  exact kW ⟨(_,(_,_)),h⟩ Bq
 conv=>whnf
 obtain rfl:=uc h;refine⟨.inl ?_⟩
 conv=>whnf
 exact⟨P8⟩⟩
instance questions_Merge_w:CS prog 210 (W1 prog 210 EL):=⟨λj R h=>by
 refine uD func210 ?_;unfold EL at h
 conv=>whnf
 refine z7 h (λp=>Dk 59 [(3,.sl 11 1),(4,.i p.1),(12,.l 1 (Ao 2 Ah) j),(13,.i (j.length:Int)),(14,.i p.2.1)] [(11,.map (mV .i64 D.z p.2.2),1)]) EB λ_ _ ⟨g,e,a⟩ h=>?_;simp only[Em]at h;refine EA h (λh=>?_) λh=>?_
 ·refine Sk (f:=(Ao 2 Ah)) h λi _ h=>?_
  conv=>whnf
  refine z7 h (λp=>Dk 59 [(3,.sl 11 1),(4,.i p.1),(12,.l 1 (Ao 2 Ah) j),(13,.i (j.length:Int)),(14,.i e),(18,.l 2 Ah i),(19,.i (i.length:Int)),(20,.i p.2.1)] [(11,.map (mV .i64 D.z p.2.2),1)]) EB λ_ _ ⟨l,k,b⟩ h=>?_;simp only[Eo]at h;refine EA h (λh=>?_) λh=>?_
  ·refine Sk (f:=Ah) h λc _ h=>?_
   conv=>whnf
   refine z13 ?_
   conv=>whnf
   refine⟨⟨by kernel_rfl,Pq .i64 D.z c.B b⟩,?_⟩
   conv=>whnf
   refine UB (f:=D.z) (es:=b) (z:=0) ?_
   conv=>whnf
   refine⟨⟨by rfl,by kernel_rfl,Pq .i64 D.z c.B b⟩,?_⟩
   conv=>whnf
   try rw[bu .i64 D.z c.B (if c.J>((JY c.B b).getD 0)then c.J else((JY c.B b).getD 0))]
   exact Aq
  exact Aq
 conv=>whnf
 refine z7 h (λp=>Dk 59 [(3,.sl 11 1),(9,.sl 9 1),(41,.i (IntKind.i64.wrap (g+1))),(42,.i p.1)] [(9,.row 2 81 (List.map Ah p.2),1),(11,.map (mV .i64 D.z a),1)]) EB λ_ _ ⟨d,m⟩ h=>?_;simp only[Ep]at h;refine EA h (λh=>?_) λh=>?_
 ·conv=>whnf
  refine⟨⟨by kernel_rfl,Pq .i64 D.z d a⟩,?_⟩
  conv=>whnf
  refine UB (f:=D.z) (es:=a) (z:=0) ?_;refine EA h (λh=>?_) λh=>?_
  ·conv=>whnf
   refine⟨⟨by kernel_rfl,Pq .i64 D.z d a⟩,?_⟩
   conv=>whnf
   refine UB (f:=D.z) (es:=a) (z:=0) ?_;exact Aq
  exact Aq
 exact Aq⟩
instance {a0 a1 a2 a3}:LS (λa s=>Om a0 a1 a2 a3 a s.1 s.2) 36 [2,5,21,22] (λs=>[(23,.i s.1)]) [2] (λs=>[(19,.row 1 43 (List.map (Ao 2 Ah) s.2),1)]):=⟨trivial⟩
theorem Y7(d:Nat)(a:Aa->Av->Option (List Ac))(ih:W2 prog 141 a):W2 prog 141 (G2 d a):=by
 intro b c R h;refine uD func141 ?_;unfold G2 at h;exact Aq
theorem R2:∀d:Nat,(W2 prog 141 (CR d))
 | 0=>by
  exact z16
 | d+1=>by
  have ih:=R2 d;exact Y7 d _ ih
instance types_needs_w:CS prog 141 (∀(d:Nat),W2 prog 141 (CR d)):=⟨λd=>R2 d⟩
