/- WJ -/
import Derived.Test.YthifolbledpmkaaGreatDoorWH
open List renaming map → φ
open Go.Proofs.Tryz
set_option linter.all false
namespace Go.Proofs.YthifolbledpmkaaGreatDoor.P
open Go.Abs Go.Proofs
set_option maxRecDepth 100000
set_option maxHeartbeats 4000000
instance{b c d}:LS (λa s=>Se b c d a s.1 s.2) 162 [0,2,4,5,6,7,11,12] (λs=>[(13,.i s.1)]) [2,4,5] (λs=>[(81,.row 1 3 (φ D.z s.2),1)]):={}
instance{b c d e}:LS (λa s=>Sf b c d e a s.1 s.2) 162 [0,2,4,5,6,7,11,12,13] (λs=>[(14,.i s.1)]) [2,4,5] (λs=>[(81,.row 1 3 (φ D.z s.2),1)]):={}
instance:jb 257 W1 Vh:=⟨λd k R h=>by
 refine TC [3,13,22] func257 ?_;unfold Vh at h;refine Dd {p:Unit//Sg k d=some R} (λp=>C9 162 [(0,.l 1 (Aq 1 D.z) k),(2,.ptr 2 1 0)] [(2,.var zMV,1)]) ?_ λp=>?_
 ·refine E5 h (λ_=>fJ.h _ _) λx h=>?_
  conv=>whnf
  refine Afk h (λe g=>?_) (λe h=>?_)
  ·subst e;have h:=g;exact Ah
  rw[za _ e]
  conv=>whnf
  refine⟨λb y=>?_⟩;obtain rfl:b=false:=y (Adx e);exact Ah
 obtain⟨_,h⟩:=p;simp only[Sg]at h;refine Dd {p:(Int×Int×(Γ (Γ Int))×(Γ (Γ Int)))//Si k d p.1 p.2.1 p.2.2.1 p.2.2.2=some R} (λp=>C9 162 [(0,.l 1 (Aq 1 D.z) k),(2,.ptr 2 1 0),(4,.sl 4 1),(5,.sl 5 1),(6,.i p.1.1),(7,.i p.1.2.1)] [(2,.var zMV,1),(4,.row 1 35 (φ (Aq 1 D.z) p.1.2.2.1),1),(5,.row 1 35 (φ (Aq 1 D.z) p.1.2.2.2),1)]) ?_ λp=>?_
 ·conv=>whnf
  refine z11 h (λp=>C9 162 [(0,.l 1 (Aq 1 D.z) k),(2,.ptr 2 1 0),(4,.sl 4 1),(5,.sl 5 1),(6,.i p.1),(7,.i p.2.1),(8,.i p.2.2.1)] [(2,.var zMV,1),(4,.row 1 35 (φ (Aq 1 D.z) p.2.2.2.1),1),(5,.row 1 35 (φ (Aq 1 D.z) p.2.2.2.2),1)]) CC λ_ _ ⟨o,q,r,s,t⟩ h=>?_;simp only[Sd]at h;refine Dn h (λh=>?_) λh=>?_
  ·refine Ry (f:=(Aq 1 D.z)) h λz _ h=>?_;refine Ry (f:=D.z) h λB _ h=>?_;refine Ry (f:=(Aq 1 D.z)) h λx53 _ h=>?_
   conv=>whnf
   refine SU h λhr h=>?_;refine z15 ?_
   try simp only[Zac]
   rw[mU]
   conv=>whnf
   refine SU h λhr h=>?_;refine z12 ?_
   try rw[iQ]
   exact Ah
  conv=>whnf
  exact⟨⟨(_,_,_,_),h⟩,uL⟩
 obtain⟨⟨c,g,u,i⟩,h⟩:=p;simp only[Si]at h
 conv=>whnf
 refine By h λl j h=>?_;refine SU h λm h=>?_
 first|refine BU (XS m (fJ.h _ _ j)) ?_|(simp only[Zac];refine BU (XS m (fJ.h _ _ j)) ?_)
 conv=>whnf
 refine SU h λhr h=>?_;refine z14 ?_
 try rw[xO]
 refine Dd {p:(Γ Int)//Sj d l i k g c p=some R} (λp=>C9 162 [(0,.l 1 (Aq 1 D.z) k),(2,.ptr 2 1 0),(5,.sl 5 1),(6,.i c),(7,.i g),(11,.l 1 (Aq 1 D.z) l),(12,.sl 81 1)] [(2,.var zMV,1),(5,.row 1 35 (φ (Aq 1 D.z) i),1),(81,.row 1 3 (φ D.z p.1),1)]) ?_ λp=>?_
 ·exact Ah
 obtain⟨n,h⟩:=p;simp only[Sj]at h;refine E5 h (λ_=>Z1.h _ _ _ _) λv h=>?_;refine uJ h λh=>?_
 conv=>whnf
 refine By h λw a h=>?_;refine SU h λm h=>?_
 first|refine BU (XS m (fJ.h _ _ a)) ?_|(simp only[Zac];refine BU (XS m (fJ.h _ _ a)) ?_)
 exact Ah⟩
instance{b c d e f g}:LS (λa s=>Q2 b c d e f g a s.1 s.2) 102 [2,3,5,6,10,14,15,16] (λs=>[(17,.i s.1)]) [5,6,10,36] (λs=>[(16,.row 1 35 (φ (Aq 1 D.z) s.2),1)]):={}
instance{b c d e f g h}:LS (λa s=>Q3 b c d e f g h a s.1 s.2) 102 [2,3,5,6,10,14,15,16,17,18] (λs=>[(19,.i s.1)]) [5,6,10,16,36] (λs=>[(18,.row 1 3 (φ D.z s.2),1)]):={}
instance:jb 153 W5 PL:=⟨λd b c p2 p3 e R h=>by
 refine zaC func153 ?_;unfold PL at h;refine E5 h (λ_=>YaR.h _ _ _ _ _) λa h=>?_;refine uJ h λh=>?_
 conv=>whnf
 refine SU h λhr h=>?_;refine z12 ?_
 try rw[iQ]
 exact Ah⟩
instance{b}:LS (λa s=>Vf b a s.1 s.2) 12 [] (λs=>[(0,.i s.1),(1,.i s.2)]) [] (λs=>[]):={}
instance:ja 385 (W2 Qh):=⟨λ_ _ _ h=>uH func385⟩
instance:ja 334 (W1 Gz):=⟨λ_ _ h=>uH func334⟩
instance:ja 264 (W2 PI):=⟨λ_ _ _ h=>uH func264⟩
instance{b c d}:LS (λa s=>RY b c d a s.1 s.2.1 s.2.2) 46 [0,1,5] (λs=>[(6,.b s.1),(7,.i s.2.1)]) [] (λs=>[(5,.row 1 3 (φ D.z s.2.2),1)]):={}
instance:ja 330 (W2 N4):=⟨λ_ _ _ h=>uH func330⟩
instance{b c}:LS (λa s=>Li b c a s.1 s.2) 141 [0,1] (λs=>[(6,.l 1 D.z s.1),(7,.i s.2)]) [] (λs=>[]):={}
instance:CS prog 259 (∀(g:Γ Int)(i:Γ Ω)(R:(Γ Aj)×Int)(h:Lh g i=some R),A9 prog 259 [.l 1 D.z g,.l 1 D.bool i] (.tup [.l 6 AO R.1,.i R.2])):=⟨λg i R h=>by
 refine TC [12,20,23,25,27] func259 ?_;unfold Lh at h;refine uJ h λh=>?_
 refine uJ h λh=>?_
 refine Dd {p:(Γ Int)//OR g i p=some R} (λp=>C9 141 [(0,.l 1 D.z g),(1,.l 1 D.bool i),(6,.l 1 D.z p.1)] []) ?_ λp=>?_
 ·exact Ah
 obtain⟨c,h⟩:=p;simp only[OR]at h
 conv=>whnf
 refine z11 h (λp=>C9 141 [(0,.l 1 D.z g),(1,.l 1 D.bool i),(6,.l 1 D.z c),(8,.sl 8 1),(9,.ptr 9 1 0),(10,.i p.1)] [(8,.row 6 159 (φ AO p.2.1),1),(9,GW p.2.2,1)]) CC λr s ⟨a,d,e⟩ h=>?_;simp only[OQ]at h;refine Dn h (λh=>?_) λh=>?_
 ·refine Ry (f:=D.z) h λt _ h=>?_;refine Dd {p:Aj//Tw e d (r s) a p=some R} (λp=>C9 141 [(0,.l 1 D.z g),(1,.l 1 D.bool i),(6,.l 1 D.z c),(8,.sl 8 1),(9,.ptr 9 1 0),(10,.i a),(11,.ptr 11 1 0)] [(8,.row 6 159 (φ AO d),1),(9,GW e,1),(11,Ho p.1,1)]) ?_ λp=>?_
  ·conv=>whnf
   refine z11 h (λp=>C9 141 [(0,.l 1 D.z g),(1,.l 1 D.bool i),(6,.l 1 D.z c),(8,.sl 8 1),(9,.ptr 9 1 0),(10,.i a),(11,.ptr 11 1 0),(12,.i p.1)] [(8,.row 6 159 (φ AO d),1),(9,GW e,1),(11,Ho p.2,1)]) CC λj k ⟨b,l⟩ h=>?_;simp only[Lj]at h;refine Dn h (λh=>?_) λh=>?_
   ·refine Dd {p:Aj//Lk (j k) b p=some R} (λp=>C9 141 [(0,.l 1 D.z g),(1,.l 1 D.bool i),(6,.l 1 D.z c),(8,.sl 8 1),(9,.ptr 9 1 0),(10,.i a),(11,.ptr 11 1 0),(12,.i b)] [(8,.row 6 159 (φ AO d),1),(9,GW e,1),(11,Ho p.1,1)]) ?_ λp=>?_
    ·refine Dd {p:Aj//IG g b i (j k) p=some R} (λp=>C9 141 [(0,.l 1 D.z g),(1,.l 1 D.bool i),(6,.l 1 D.z c),(8,.sl 8 1),(9,.ptr 9 1 0),(10,.i a),(11,.ptr 11 1 0),(12,.i b)] [(8,.row 6 159 (φ AO d),1),(9,GW e,1),(11,Ho p.1,1)]) ?_ λp=>?_
     ·exact Ah
     obtain⟨m,h⟩:=p;simp only[IG]at h;refine Dd {p:Aj//Ll g b i (j k) p=some R} (λp=>C9 141 [(0,.l 1 D.z g),(1,.l 1 D.bool i),(6,.l 1 D.z c),(8,.sl 8 1),(9,.ptr 9 1 0),(10,.i a),(11,.ptr 11 1 0),(12,.i b)] [(8,.row 6 159 (φ AO d),1),(9,GW e,1),(11,Ho p.1,1)]) ?_ λp=>?_
     ·exact Ah
     obtain⟨n,h⟩:=p;exact Ah
    obtain⟨o,h⟩:=p;exact Ah
   exact Ah
  obtain⟨q,h⟩:=p;exact Ah
 exact Ah⟩
instance{b c d e f g h}:LS (λa s=>Kg b c d e f g h a s.1 s.2.1 s.2.2) 93 [2,5,6,8,14,15,16] (λs=>[(17,.i s.1)]) [5,6,8] (λs=>[(15,.row 1 3 (φ D.z s.2.1),1),(16,.row 1 4 (φ D.bool s.2.2),1)]):={}
instance:jb 154 W5 PM:=⟨λ_ _ _ _ _ _ _ h=>uH func154⟩
instance{b c}:LS (λa s=>OT b c a s) 33 [0] (λs=>[(5,.i s)]) [] (λs=>[]):={}
instance kZ:ja 331 (W2 NG):=⟨λ_ _ _ h=>uH func331⟩
instance{b c d}:LS (λa s=>Q5 b c d a s.1 s.2) 79 [0,1] (λs=>[(7,.l 1 D.z s.1),(8,.i s.2)]) [] (λs=>[]):={}
instance{b c d e}:LS (λa s=>Q6 b c d e a s.1 s.2) 79 [0,1,7,9] (λs=>[(10,.i s.1)]) [] (λs=>[(9,.row 2 162 (φ C7 s.2),1)]):={}
instance{b c d}:LS (λa s=>Q7 b c d a s.1 s.2) 79 [0,1,7,9,10,11] (λs=>[(12,.i s.1)]) [9] (λs=>[(11,.var [.i s.2.C,.i s.2.Z],1)]):={}
instance:ja 260 (W2 Lm):=⟨λa b R h=>by
 refine TC [9] func260 ?_;unfold Lm at h;refine E5 h (λ_=>kZ.h _ _ _) λd h=>?_;refine uJ h λh=>?_
 refine Dd {p:(Γ Int)//U3 a b p=some R} (λp=>C9 79 [(0,.l 1 D.z a),(1,.i b),(7,.l 1 D.z p.1)] []) ?_ λp=>?_
 ·exact Ah
 obtain⟨c,h⟩:=p;exact Ah⟩
instance{b c d e f g}:LS (λa s=>Mz b c d e f g a s.1 s.2.1 s.2.2) 86 [2,3,5,6,14,15,16] (λs=>[(17,.i s.1)]) [5,6] (λs=>[(15,.row 1 3 (φ D.z s.2.1),1),(16,.row 1 3 (φ D.z s.2.2),1)]):={}
instance:jb 155 W5 PO:=⟨λ_ _ _ _ _ _ _ h=>uH func155⟩
instance:ja 332 (W1 OU):=⟨λe R h=>by
 refine zaC func332 ?_;unfold OU at h
 conv=>whnf
 refine z11 h (λp=>C9 45 [(0,.l 1 D.z e),(3,.l 1 D.z p.1),(4,.i p.2)] []) CC λ_ _ ⟨a,b⟩ h=>?_;simp only[MP]at h;refine Dn h (λh=>?_) λh=>?_
 ·conv=>whnf
  refine z11 h (λp=>C9 45 [(0,.l 1 D.z e),(3,.l 1 D.z a),(4,.i b),(5,.i p)] []) CC λ_ _ g h=>?_;simp only[Ru]at h
  conv=>whnf
  refine z17 ?_;refine Dn h (λh=>?_) λh=>?_
  ·refine Ry (f:=D.z) h λi _ h=>?_;refine Ry (f:=D.z) h λj _ h=>?_;refine uJ h λh=>?_
   conv=>whnf
   try simp only[JO]at h
   refine z17 ?_
   conv=>whnf
   refine SU h λhr h=>?_;refine z15 ?_
   try simp only[Zac]
   rw[mU];refine Ry (f:=D.z) h λd c h=>?_
   conv=>whnf
   refine SU h λhr h=>?_;refine z15 ?_
   try simp only[Zac]
   rw[mU]
   conv=>whnf
   refine SU h λhr h=>?_;refine z12 ?_
   try rw[iQ]
   exact z25
  try simp only[JO]at h
  refine z17 ?_
  conv=>whnf
  refine SU h λhr h=>?_;refine z15 ?_
  try simp only[Zac]
  rw[mU];refine Ry (f:=D.z) h λd c h=>?_
  conv=>whnf
  refine SU h λhr h=>?_;refine z15 ?_
  try simp only[Zac]
  rw[mU]
  conv=>whnf
  refine SU h λhr h=>?_;refine z12 ?_
  try rw[iQ]
  exact z25
 exact Ah⟩
instance:ja 261 (W1 FX):=⟨λ_ _ h=>uH func261⟩
instance{b c d e f}:LS (λa s=>LG b c d e f a s.1 s.2) 72 [2,4,5,8,12,13] (λs=>[(14,.i s.1)]) [4,5,8] (λs=>[(13,.row 1 3 (φ D.z s.2),1)]):={}
instance:jb 156 W4 PN:=⟨λ_ _ _ _ _ _ h=>uH func156⟩
instance:ja 333 (W3 S7):=⟨λa b p2 R h=>by
 refine TC [3] func333 ?_;unfold S7 at h;refine Dd {p:Unit//VN a b p2=some R} (λp=>C9 60 [(2,.b p2),(3,.ptr 3 1 0),(4,.ptr 4 1 0),(6,.ptr 6 1 0)] [(3,GW a,1),(4,GW b,1),(6,.var [.i 0,.i 0],1)]) ?_ λp=>?_
 ·exact Ah
 obtain⟨_,h⟩:=p;exact Ah⟩
instance:ja 262 (W2 Vd):=⟨λ_ _ _ h=>uH func262⟩
instance:ja 263 (W2 Ve):=⟨λ_ _ _ h=>uH func263⟩
instance:ja 265 (W2 S6):=⟨λ_ _ _ h=>uH func265⟩
instance{b c}:LS (λa s=>Um b c a s.1 s.2) 18 [0] (λs=>[(3,.l 1 D.z s.1),(4,.i s.2)]) [] (λs=>[]):={}
instance:ja 336 (W1 Xs):=⟨λ_ _ h=>uH func336⟩
instance:ja 266 (W2 NC):=⟨λ_ _ _ h=>by unfold NC at h;exact uH func266⟩
instance:ja 157 (W3 Tz):=⟨λd a p2 R h=>by
 refine TC [11] func157 ?_;unfold Tz at h;refine Dd {p:(Int×A1)//Ej a p2 p.1 p.2=some R} (λp=>C9 60 [(4,.ptr 4 1 0),(5,.ptr 5 1 0),(6,.ptr 6 1 0),(8,.ptr 8 1 0),(9,.i p.1.1)] [(4,dQ a,1),(5,dQ p2,1),(6,.var zAV,1),(8,GW p.1.2,1)]) ?_ λp=>?_
 ·exact Ah
 obtain⟨⟨b,c⟩,h⟩:=p;exact Ah⟩
instance{b c d}:LS (λa s=>Lp b c d a s) 192 [2,7,8,10,11] (λs=>[(12,.i s)]) [2,7,8,10] (λs=>[]):={}
def gW(d:Nat)(a:Aa->Ad->(Γ Ar)->Ag->Δ (A4×Int))(ih:∀(s:Aa)(t:Ad)(p2:Γ Ar)(p3:Ag)(R:A4×Int) ,a s t p2 p3=some R->Et prog 70 [.d (Cr s),.d (Cm t),.own 26 74 (φ A2 p2),.d (AF p3)] [.any,.any,.own 26 74 (φ A2 p2),.any] (.tup [.d (Dg R.1),.i R.2]))(s:Aa)(t:Ad)(p2:Γ Ar)(p3:Ag)(R:A4×Int)(h:Ii d a s t p2 p3=some R):Et prog 70 [.d (Cr s),.d (Cm t),.own 26 74 (φ A2 p2),.d (AF p3)] [.any,.any,.own 26 74 (φ A2 p2),.any] (.tup [.d (Dg R.1),.i R.2]):=by
 refine uFJ [40] func70 ?_;unfold Ii at h;refine Dd {p:uq//ur CY p=some R} (λp=>C9 192 [(8,.ptr 8 1 0),(10,.ptr 10 1 0),(11,.i p.1.1)] [(2,.row 26 74 (φ A2 p2),0),(8,.var zAV,1),(10,.var (uQ p.1),1)]) ?_ λp=>?_
 ·exact Ah
 obtain⟨⟨C,u,v,w,x,y,z,A,B,b,c,e,f,g,i,j,k,l,m,n,o,q,r⟩,h⟩:=p;exact Ah
theorem X4:∀d:Nat,(∀(a:Aa)(b:Ad)(p2:Γ Ar)(p3:Ag)(R:A4×Int) ,E3 d a b p2 p3=some R->Et prog 70 [.d (Cr a),.d (Cm b),.own 26 74 (φ A2 p2),.d (AF p3)] [.any,.any,.own 26 74 (φ A2 p2),.any] (.tup [.d (Dg R.1),.i R.2]))
 | 0=>by exact z20
 | d+1=>gW d _ (X4 d)
instance:CS prog 70 (∀(d:Nat),∀(a:Aa)(b:Ad)(p2:Γ Ar)(p3:Ag)(R:A4×Int) ,E3 d a b p2 p3=some R->Et prog 70 [.d (Cr a),.d (Cm b),.own 26 74 (φ A2 p2),.d (AF p3)] [.any,.any,.own 26 74 (φ A2 p2),.any] (.tup [.d (Dg R.1),.i R.2])):=⟨X4⟩
instance:CS prog 28 (∀(d:Nat)(a:Aa)(b:Ad)(p2:Γ Ar)(p3:Ag)(R:A4×Int)(h:Tx d a b p2 p3=some R),Et prog 28 [.d (Cr a),.d (Cm b),.own 26 74 (φ A2 p2),.d (AF p3)] [.any,.any,.own 26 74 (φ A2 p2),.any] (.tup [.d (Dg R.1),.i R.2])):=⟨λ_ _ _ _ _ _ h=>uI func28⟩
instance{b c d e f}:LS (λa s=>Sn b c d e f a s.1 s.2) 76 [2,3,4,13] (λs=>[(14,.i s.1)]) [3,4] (λs=>[(13,.row 26 74 (φ A2 s.2),1)]):={}
instance YaT:jb 9 W3 NH:=⟨λ_ _ _ _ _ h=>uH func9⟩
instance{b c d}:LS (λa s=>Ti b c d a s) 26 [0,1] (λs=>[(5,.i s)]) [] (λs=>[]):={}
instance:ja 158 (W2 Rr):=⟨λ_ _ _ h=>uH func158⟩
instance:ja 159 (W2 OM):=⟨λ_ _ _ h=>uH func159⟩
instance{b c d}:LS (λa s=>Qr b c d a s) 47 [2,3] (λs=>[(5,.i s)]) [2,3] (λs=>[]):={}
instance:ja 71 (W2 VT):=⟨λ_ _ _ h=>uH func71⟩
instance{b c d}:LS (λa s=>YI b c d a s) 26 [0,1] (λs=>[(5,.i s)]) [] (λs=>[]):={}
instance:ja 160 (W2 Zr):=⟨λ_ _ _ h=>uH func160⟩
instance:ja 72 (W2 VU):=⟨λ_ _ _ h=>uH func72⟩
instance{b c d}:LS (λa s=>YO b c d a s) 26 [0,1] (λs=>[(5,.i s)]) [] (λs=>[]):={}
instance:ja 73 (W2 Zt):=⟨λ_ _ _ h=>uH func73⟩
instance{b c d}:LS (λa s=>YP b c d a s) 26 [0,1] (λs=>[(5,.i s)]) [] (λs=>[]):={}
instance:ja 74 (W2 Zu):=⟨λ_ _ _ h=>uH func74⟩
instance:ja 29 (W2 JP):=⟨λ_ _ _ h=>uH func29⟩
instance{b c d}:LS (λa s=>Q9 b c d a s) 55 [0,1] (λs=>[(5,.i s)]) [] (λs=>[]):={}
instance:ja 10 (W2 PP):=⟨λ_ _ _ h=>uH func10⟩
instance{b c}:LS (λa s=>Q8 b c a s.1 s.2) 24 [0,3] (λs=>[(4,.i s.1)]) [] (λs=>[(3,.row 26 74 (List.map A2 s.2),1)]):={}
instance:ja 12 (W1 Ty):=⟨λ_ _ h=>uH func12⟩
