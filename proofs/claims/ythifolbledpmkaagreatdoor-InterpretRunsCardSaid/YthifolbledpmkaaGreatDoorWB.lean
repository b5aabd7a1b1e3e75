/- WB -/
import Derived.Test.YthifolbledpmkaaGreatDoorW0
open Go.Proofs.Tryz
set_option linter.all false
namespace Go.Proofs.YthifolbledpmkaaGreatDoor.P
open Go.Abs Go.Proofs
set_option maxRecDepth 100000
set_option maxHeartbeats 4000000
instance{b c d}:LS (λa s=>Y9 b c d a s) 26 [0,1] (λs=>[(5,.i s)]) [] (λs=>[]):={}
instance:ja 13 (W2 KL):=⟨λ_ _ _ h=>uH func13⟩
instance{b c d}:LS (λa s=>Sa b c d a s.1 s.2.1 s.2.2) 56 [0,1,5] (λs=>[(6,.b s.1),(7,.i s.2.1)]) [] (λs=>[(5,.row 1 35 (List.map (Aq 1 D.z) s.2.2),1)]):={}
instance:ja 32 (W2 S5):=⟨λ_ _ _ h=>uH func32⟩
instance{b c}:LS (λa s=>Ml b c a s) 70 [0] (λs=>[(3,.i s)]) [] (λs=>[]):={}
instance Yay:ja 65 (W1 D8):=⟨λa R h=>by
 refine TC [3,8] func65 ?_;unfold D8 at h;refine Dd {p:Unit//Mm a=some R} (λp=>C9 70 [(0,.t a)] []) ?_ λp=>?_
 ·exact Ah
 obtain⟨_,h⟩:=p;simp only[Mm]at h;refine Dd {p:Unit//YA a=some R} (λp=>C9 70 [(0,.t a)] []) ?_ λp=>?_
 ·exact Ah
 obtain⟨_,h⟩:=p;exact Ah⟩
instance{b c}:LS (λa s=>Xf b c a s.1 s.2) 22 [2] (λs=>[(1,.i s.1),(5,.i s.2)]) [2] (λs=>[]):={}
instance:ja 161 (W2 Gv):=⟨λ_ _ _ h=>uH func161⟩
instance{b c d}:LS (λa s=>YB b c d a s) 21 [1,2] (λs=>[(5,.i s)]) [2] (λs=>[]):={}
instance:ja 232 (W2 Zq):=⟨λ_ _ _ h=>uH func232⟩
instance{b c}:LS (λa s=>Xa b c a s) 100 [1] (λs=>[(3,.i s)]) [1] (λs=>[]):={}
instance{b c d}:LS (λa s=>Xb b c d a s) 100 [1,3] (λs=>[(4,.i s)]) [1] (λs=>[]):={}
instance{b c}:LS (λa s=>Xd b c a s.1 s.2) 100 [1] (λs=>[(6,.i s.1),(7,.i s.2)]) [1] (λs=>[]):={}
instance:ja 140 (W1 H9):=⟨λa R h=>by
 refine TC [20] func140 ?_;unfold H9 at h;refine E5 h (λ_=>Yay.h _ _) λb h=>?_;refine uJ h λh=>?_
 refine uJ h λh=>?_
 refine uJ h λh=>?_
 refine Dd {p:Unit//Xe a=some R} (λp=>C9 100 [(1,.ptr 1 1 0)] [(1,Pi a,1)]) ?_ λp=>?_
 ·exact Ah
 obtain⟨_,h⟩:=p;exact Ah⟩
instance:ja 84 (W1 HA):=⟨λ_ _ h=>uH func84⟩
instance{b c d}:LS (λa s=>dJ b c d a s.1 s.2) 27 [1,2,5] (λs=>[(6,.i s.1)]) [2] (λs=>[(5,.row 1 3 (List.map D.z s.2),1)]):={}
instance vq:ja 234 (W2 Mk):=⟨λ_ _ _ h=>uH func234⟩
instance fv:ja 143 (W2 Dk):=⟨λ_ _ _ h=>uH func143⟩
instance Yav:ja 92 (W3 EL):=⟨λ_ _ _ _ h=>by unfold EL at h;exact uH func92⟩
instance{b c}:LS (λa s=>Vb b c a s) 79 [1] (λs=>[(3,.i s)]) [1] (λs=>[]):={}
instance:ja 233 (W1 Mn):=⟨λa R h=>by
 refine TC [3] func233 ?_;unfold Mn at h;refine Dd {p:Unit//PD a=some R} (λp=>C9 79 [(1,.ptr 1 1 0)] [(1,Sw a,1)]) ?_ λp=>?_
 ·exact Ah
 obtain⟨_,h⟩:=p;exact Ah⟩
instance{b c d e}:LS (λa s=>MF b c d e a s) 98 [1,2,5] (λs=>[(6,.i s)]) [2,5] (λs=>[]):={}
instance:ja 141 (W2 Oo):=⟨λb c R h=>by
 refine TC [9,13] func141 ?_;unfold Oo at h;refine Ry (f:=Aw) h λa _ h=>?_;refine E5 h (λ_=>Yay.h _ _) λd h=>?_;refine uJ h λh=>?_
 refine Dd {p:Unit//MG a c b=some R} (λp=>C9 98 [(1,.i c),(2,.ptr 2 1 0),(5,.ptr 5 1 0)] [(2,AI b,1),(5,Sw a,1)]) ?_ λp=>?_
 ·exact Ah
 obtain⟨_,h⟩:=p;simp only[MG]at h;refine E5 h (λ_=>Yav.h _ _ _ _) λe h=>?_;refine uJ h λh=>?_
 refine Dd {p:Unit//JK a=some R} (λp=>C9 98 [(5,.ptr 5 1 0)] [(5,Sw a,1)]) ?_ λp=>?_
 ·exact Ah
 obtain⟨_,h⟩:=p;exact Ah⟩
instance{b c}:LS (λa s=>Ol b c a s) 77 [1] (λs=>[(3,.i s)]) [1] (λs=>[]):={}
instance{b c d}:LS (λa s=>Om b c d a s) 77 [1,3] (λs=>[(5,.i s)]) [1] (λs=>[]):={}
instance{b c}:LS (λa s=>On b c a s) 77 [1] (λs=>[(6,.i s)]) [1] (λs=>[]):={}
instance Gf:ja 64 (W1 D9):=⟨λa R h=>by
 refine TC [14] func64 ?_;unfold D9 at h;refine uJ h λh=>?_
 refine Dd {p:Unit//Tg a=some R} (λp=>C9 77 [(1,.ptr 1 1 0)] [(1,AI a,1)]) ?_ λp=>?_
 ·exact Ah
 obtain⟨_,h⟩:=p;exact Ah⟩
instance Yam:ja 34 (W2 B3):=⟨λ_ _ _ h=>uH func34⟩
instance{b c d}:LS (λa s=>U1 b c d a s) 32 [1,2] (λs=>[(5,.i s)]) [2] (λs=>[]):={}
instance:ja 38 (W2 No):=⟨λ_ _ _ h=>uH func38⟩
instance:ja 168 (W2 KN):=⟨λ_ _ _ h=>uH func168⟩
instance:ja 93 (W3 N5):=⟨λ_ _ _ _ h=>uH func93⟩
instance{b c d}:LS (λa s=>RZ b c d a s) 32 [1,2] (λs=>[(6,.i s)]) [2] (λs=>[]):={}
instance:ja 85 (W2 P7):=⟨λ_ _ _ h=>uH func85⟩
instance{b c}:LS (λa s=>Oq b c a s) 118 [1] (λs=>[(3,.i s)]) [1] (λs=>[]):={}
instance{b c}:LS (λa s=>Tj b c a s) 118 [1] (λs=>[(4,.i s)]) [1] (λs=>[]):={}
instance YaP:ja 35 (W1 N6):=⟨λa R h=>by
 refine TC [8] func35 ?_;unfold N6 at h;refine E5 h (λ_=>Gf.h _ _) λb h=>?_;refine uJ h λh=>?_
 refine Dd {p:Unit//Tk a=some R} (λp=>C9 118 [(1,.ptr 1 1 0)] [(1,Wb a,1)]) ?_ λp=>?_
 ·exact Ah
 obtain⟨_,h⟩:=p;exact Ah⟩
instance:ja 142 (W2 FW):=⟨λ_ _ _ h=>uH func142⟩
instance{b c d}:LS (λa s=>IC b c d a s) 44 [1,2] (λs=>[(6,.i s)]) [2] (λs=>[]):={}
instance Yan:ja 66 (W2 DC):=⟨λ_ _ _ h=>uH func66⟩
instance{b c d e}:LS (λa s=>KQ b c d e a s.1 s.2) 31 [1,2] (λs=>[(5,.i s.1),(6,.i s.2)]) [2] (λs=>[]):={}
def gN(d:Nat)(a:Ae->Int->Δ Int)(ih:W2 a prog 267):W2 (Ic d a) prog 267:=by
 intro b c R h;refine zaC func267 ?_;unfold Ic at h;exact Ah
theorem Xj:∀d:Nat,W2 (IQ d) prog 267
 | 0=>by exact z20
 | d+1=>gN d _ (Xj d)
instance:jb 267 W2 IQ:=⟨Xj⟩
instance{b c d}:LS (λa s=>Xk b c d a s.1 s.2) 22 [1] (λs=>[(3,.i s.1),(4,.i s.2)]) [1] (λs=>[]):={}
def gO(d:Nat)(a:Ae->Δ Int)(ih:W1 a prog 268):W1 (Qg d a) prog 268:=by
 intro b R h;refine zaC func268 ?_;unfold Qg at h;exact Ah
theorem Xl:∀d:Nat,W1 (IR d) prog 268
 | 0=>by exact z20
 | d+1=>gO d _ (Xl d)
instance:jb 268 W1 IR:=⟨Xl⟩
instance YaG:ja 337 (W3 ID):=⟨λ_ _ _ _ h=>uH func337⟩
section
set_option maxHeartbeats 40000000
def iV(d:Nat)(a:Aa->Ae->Δ Int)(ih:W2 a prog 269):W2 (Eo d a) prog 269:=by
 intro c b R h;refine Vp [16,20,22] func269 (by kernel_rfl) ?_;unfold Eo at h
 conv=>whnf
 refine z17 ?_;refine Dd {p:(Int×Int×Int×Int×Int)//AH b c a p.1 p.2.1 p.2.2.1 p.2.2.2.1 p.2.2.2.2=some R} (λp=>C9 185 [(2,.ptr 2 1 0),(3,.ptr 3 1 0),(5,.i p.1.1),(6,.ptr 6 1 0)] [(2,AI c,1),(3,LW b,1),(6,.var [.i b.Op,.i p.1.2.1,.i p.1.2.2.1,.i p.1.2.2.2.1,.i p.1.2.2.2.2,.n 6],1)]) ?_ λp=>?_
 ·refine Dn h (λh=>?_) λh=>?_
  ·exact z33
  refine Dn h (λh=>?_) λh=>?_
  ·conv=>whnf
   refine z17 ?_;exact z33
  refine Dn h (λh=>?_) λh=>?_
  ·conv=>whnf
   refine z17 ?_;exact z33
  refine Dn h (λh=>?_) λh=>?_
  ·exact z33
  conv=>whnf
  refine vQ h GK (λi h=>?_) (λi h=>?_)
  ·conv=>whnf
   refine yL GK i ?_;exact z33
  refine Dn h (λh=>?_) λh=>?_
  ·exact z33
  refine sO h λh=>?_;exact z33
 obtain⟨⟨q,l,m,n,o⟩,h⟩:=p;simp only[AH]at h;refine Ky h λh=>?_;refine Dd {p:Unit//BW b c a=some R} (λp=>C9 185 [(2,.ptr 2 1 0),(3,.ptr 3 1 0)] [(2,AI c,1),(3,LW b,1)]) ?_ λp=>?_
 ·conv=>whnf
  refine vQ h GK (λg h=>?_) (λg h=>?_)
  ·refine E5 h (λ_=>YaG.h _ _ _ _) λx h=>?_;refine Ky h λh=>?_;refine brN GK (neB g) ?_;refine brN GK (neB g) ?_;exact⟨⟨(),h⟩,Bu⟩
  refine vQ h GK (λj h=>?_) (λj h=>?_)
  ·refine E5 h (λ_=>YaG.h _ _ _ _) λy h=>?_;refine Ky h λh=>?_;refine brN GK (neB j) ?_;exact⟨⟨(),h⟩,Bu⟩
  refine Dn h (λh=>?_) λh=>?_
  ·refine E5 h (λ_=>YaG.h _ _ _ _) λr h=>?_;refine Ky h λh=>?_;refine Ry (f:=Aw) h λs _ h=>?_;refine Ky h λh=>?_
   conv=>whnf
   exact⟨⟨(),h⟩,Bu⟩
  exact⟨⟨(),h⟩,Bu⟩
 obtain⟨_,h⟩:=p;simp only[BW]at h;refine Dd {p:Unit//C5 b a c=some R} (λp=>C9 185 [(2,.ptr 2 1 0),(3,.ptr 3 1 0)] [(2,AI c,1),(3,LW b,1)]) ?_ λp=>?_
 ·conv=>whnf
  refine z17 ?_;refine Dn h (λh=>?_) λh=>?_
  ·refine Ky h λh=>?_;refine Ry (f:=Aw) h λt _ h=>?_;refine Ry (f:=Ak) h λu _ h=>?_;refine Ky h λh=>?_
   conv=>whnf
   exact⟨⟨(),h⟩,Bu⟩
  exact⟨⟨(),h⟩,Bu⟩
 obtain⟨_,h⟩:=p;simp only[C5]at h;refine Ky h λh=>?_
 conv=>whnf
 refine z11 h (λp=>C9 185 [(2,.ptr 2 1 0),(3,.ptr 3 1 0),(7,.i p)] [(2,AI c,1),(3,LW b,1)]) Bu λ_ _ v h=>?_;simp only[Ie]at h;refine sO h λh=>?_
 conv=>whnf
 refine z17 ?_;refine Ry (f:=A8) h λk _ h=>?_;rw[AN k]
 conv=>whnf
 refine By h λw e h=>?_
 first|refine BU (ih _ _ _ e) ?_|(simp only[Zac];refine BU (ih _ _ _ e) ?_)
 refine Ky h λh=>?_
 conv=>whnf
 exact sP ⟨(_,_),h⟩ Bu
theorem YG:∀d:Nat,W2 (Fv d) prog 269
 | 0=>by exact z20
 | d+1=>iV d _ (YG d)
instance:jb 269 W2 Fv:=⟨YG⟩
instance:jb 162 W2 BY:=⟨λ_ _ _ _ h=>uH func162⟩
instance zT:ja 240 (W3 Mp):=⟨λ_ _ _ _ h=>uH func240⟩
instance{b c d}:LS (λa s=>Qi b c d a s) 55 [1,2] (λs=>[(5,.i s)]) [2] (λs=>[]):={}
instance{b c d}:LS (λa s=>Ig b c d a s) 55 [1,2,5] (λs=>[(7,.i s)]) [2] (λs=>[]):={}
instance:ja 241 (W2 KT):=⟨λ_ _ _ h=>uH func241⟩
instance{b c d}:LS (λa s=>RU b c d a s) 18 [0,1] (λs=>[(5,.i s)]) [] (λs=>[]):={}
instance:ja 243 (W2 N3):=⟨λ_ _ _ h=>uH func243⟩
instance{b c d e}:LS (λa s=>Xo b c d e a s) 45 [1,2,3] (λs=>[(7,.i s)]) [3] (λs=>[]):={}
instance:ja 242 (W3 NB):=⟨λ_ _ _ _ h=>uH func242⟩
instance:jb 270 W2 Ra:=⟨λ_ _ _ _ h=>uH func270⟩
instance{b c d e}:LS (λa s=>YC b c d e a s) 67 [2,3] (λs=>[(5,.i s)]) [2,3] (λs=>[]):={}
def iT(d:Nat)(a:Ae->Ae->Δ Ω)(ih:W2 a prog 338):W2 (Ow d a) prog 338:=by
 intro b c R h;refine zaC func338 ?_;unfold Ow at h;exact Ah
theorem YD:∀d:Nat,W2 (PE d) prog 338
 | 0=>by exact z20
 | d+1=>iT d _ (YD d)
instance:jb 338 W2 PE:=⟨YD⟩
instance:jb 271 W1 Zs:=⟨λ_ _ _ h=>uH func271⟩
instance fS:jb 163 W2 Ei:=⟨λ_ _ _ _ h=>uH func163⟩
instance{b c d e}:LS (λa s=>O6 b c d e a s) 110 [2,3] (λs=>[(8,.i s)]) [2,3] (λs=>[]):={}
instance{b c d}:LS (λa s=>Tq b c d a s) 110 [2,3,8] (λs=>[(10,.i s)]) [2,3] (λs=>[]):={}
instance:jb 86 W2 NA:=⟨λd a b R h=>by
 refine TC [6] func86 ?_;unfold NA at h;refine E5 h (λ_=>Gf.h _ _) λc h=>?_;refine uJ h λh=>?_
 refine Dd {p:Unit//Tr d a b=some R} (λp=>C9 110 [(2,.ptr 2 1 0),(3,.ptr 3 1 0)] [(2,AI a,1),(3,Ut b,1)]) ?_ λp=>?_
 ·exact Ah
 obtain⟨_,h⟩:=p;exact Ah⟩
instance{b c d}:LS (λa s=>MJ b c d a s) 49 [0,1] (λs=>[(5,.i s)]) [] (λs=>[]):={}
instance{b c d e}:LS (λa s=>MK b c d e a s.1 s.2) 49 [0,1,5] (λs=>[(6,.b s.1),(7,.i s.2)]) [] (λs=>[]):={}
instance k9:ja 147 (W2 F8):=⟨λ_ _ _ h=>uH func147⟩
instance{b c d e}:LS (λa s=>Ov b c d e a s.1 s.2.1 s.2.2) 59 [0,1,2,7] (λs=>[(8,.b s.1),(9,.i s.2.1)]) [] (λs=>[(7,.row 2 113 (List.map Af s.2.2),1)]):={}
instance:ja 245 (W3 DG):=⟨λ_ _ _ _ h=>uH func245⟩
instance{b c d}:LS (λa s=>dL b c d a s) 44 [2,3] (λs=>[(1,.i s)]) [3] (λs=>[]):={}
instance:ja 94 (W3 Oj):=⟨λ_ _ _ _ h=>uH func94⟩
instance Yau:ja 95 (W2 Ec):=⟨λ_ _ _ h=>uH func95⟩
instance:ja 96 (W2 Gx):=⟨λ_ _ _ h=>by unfold Gx at h;exact uH func96⟩
instance Ybc:ja 40 (W4 Bt):=⟨λ_ _ _ _ _ h=>uH func40⟩
instance{b c d e f g}:LS (λa s=>P8 b c d e f g a s) 121 [1,2,3,4,10] (λs=>[(11,.i s)]) [4] (λs=>[]):={}
instance{b c d e f g h}:LS (λa s=>P9 b c d e f g h a s) 121 [1,2,3,4,10,11] (λs=>[(12,.i s)]) [4] (λs=>[]):={}
instance{b c d e}:LS (λa s=>PC b c d e a s.1 s.2) 121 [2,9,13] (λs=>[(14,.i s.1),(15,.i s.2)]) [9] (λs=>[]):={}
instance:ja 322 (W4 F7):=⟨λ_ _ _ _ _ h=>uH func322⟩
end
