/- WD -/
import Derived.Test.YthifolbledpmkaaGreatDoorWB
open Go.Proofs.Tryz
set_option linter.all false
namespace Go.Proofs.YthifolbledpmkaaGreatDoor.P
open Go.Abs Go.Proofs
set_option maxRecDepth 100000
set_option maxHeartbeats 4000000
instance{b c d e}:LS (λa s=>GQ b c d e a s) 23 [1,2,3] (λs=>[(7,.i s)]) [3] (λs=>[]):={}
instance:ja 246 (W3 CE):=⟨λ_ _ _ _ h=>uH func246⟩
instance{b c d}:LS (λa s=>Ot b c d a s.1 s.2) 36 [1,3] (λs=>[(4,.i s.1)]) [1] (λs=>[(3,.row 6 53 (List.map A8 s.2),1)]):={}
def gM(d:Nat)(a:Ae->Δ (Γ Ae))(ih:W1 a prog 339):W1 (Mo d a) prog 339:=by
 intro b R h;refine zaC func339 ?_;unfold Mo at h;exact Ah
theorem Xg:∀d:Nat,W1 (N7 d) prog 339
 | 0=>by exact z20
 | d+1=>gM d _ (Xg d)
instance:jb 339 W1 N7:=⟨Xg⟩
instance:ja 341 (W3 Uk):=⟨λ_ _ _ _ h=>uH func341⟩
instance:ja 274 (W3 CX):=⟨λ_ _ _ _ h=>uH func274⟩
instance{b c d e f}:LS (λa s=>PF b c d e f a s) 140 [2,3,4,8] (λs=>[(9,.i s)]) [3,4] (λs=>[]):={}
instance{b c d e f g}:LS (λa s=>PH b c d e f g a s) 140 [2,3,4,8,9] (λs=>[(10,.i s)]) [3,4] (λs=>[]):={}
instance:ja 340 (W3 Eh):=⟨λ_ _ _ _ h=>uH func340⟩
instance{b c d}:LS (λa s=>Ou b c d a s.1 s.2) 40 [2,6] (λs=>[(5,.l 2 Af s.1),(7,.i s.2)]) [2] (λs=>[]):={}
instance{b c d e}:LS (λa s=>Tm b c d e a s) 40 [2,5,6,7] (λs=>[(8,.i s)]) [2] (λs=>[]):={}
instance Yaf:jb 272 W2 DF:=⟨λ_ _ _ _ h=>uH func272⟩
instance:ja 273 (W2 VO):=⟨λ_ _ _ h=>uH func273⟩
instance{b c}:LS (λa s=>Xp b c a s.1 s.2) 92 [2,3,6] (λs=>[(5,.l 2 Af s.1),(7,.i s.2)]) [2,3] (λs=>[]):={}
instance{b c d}:LS (λa s=>O7 b c d a s.1 s.2) 92 [2,3] (λs=>[(5,.l 2 Af s.1),(8,.i s.2)]) [2,3] (λs=>[]):={}
instance{b c d}:LS (λa s=>O8 b c d a s.1 s.2) 92 [2,3] (λs=>[(5,.l 2 Af s.1),(9,.i s.2)]) [2,3] (λs=>[]):={}
instance:jb 164 W2 Rb:=⟨λd a b R h=>by
 refine TC [10] func164 ?_;unfold Rb at h;refine E5 h (λ_=>fS.h _ _ _ _) λe h=>?_;refine uJ h λh=>?_
 refine E5 h (λ_=>Yaf.h _ _ _ _) λf h=>?_;refine Dd {p:(Γ Ab)//O9 b a p=some R} (λp=>C9 92 [(2,.ptr 2 1 0),(3,.ptr 3 1 0),(5,.l 2 Af p.1)] [(2,AI a,1),(3,XG b,1)]) ?_ λp=>?_
 ·exact Ah
 obtain⟨c,h⟩:=p;exact Ah⟩
instance:jb 87 W3 Qj:=⟨λ_ _ _ _ _ h=>uH func87⟩
instance{b c d e f}:LS (λa s=>OA b c d e f a s) 38 [2,3,4] (λs=>[(9,.i s)]) [3,4] (λs=>[]):={}
instance Yao:jb 36 W3 Rc:=⟨λ_ _ _ _ _ h=>uH func36⟩
instance:ja 275 (W2 Jq):=⟨λ_ _ _ h=>uH func275⟩
instance{b c d e f}:LS (λa s=>YE b c d e f a s.1 s.2) 52 [2,3,4,7] (λs=>[(8,.i s.1)]) [3,4] (λs=>[(7,.row 1 3 (List.map D.z s.2),1)]):={}
def iU(d:Nat)(a:Aa->Ae->(Γ Int)->Δ Int)(ih:W3 a prog 165):W3 (VM d a) prog 165:=by
 intro b c p2 R h;refine zaC func165 ?_;unfold VM at h;exact Ah
theorem YF:∀d:Nat,W3 (VL d) prog 165
 | 0=>by exact z20
 | d+1=>iU d _ (YF d)
instance:jb 165 W3 VL:=⟨YF⟩
instance:jb 88 W3 Tl:=⟨λ_ _ _ _ _ h=>uH func88⟩
instance:ja 166 (W1 Xq):=⟨λ_ _ h=>uH func166⟩
instance{b}:LS (λa s=>YJ b a s.1 s.2) 29 [] (λs=>[(5,.d (.int .u64 s.1)),(6,.i s.2)]) [] (λs=>[]):={}
instance:ja 167 (W2 VP):=⟨λ_ _ _ h=>uH func167⟩
instance:ja 89 (W2 Xr):=⟨λ_ _ _ h=>uH func89⟩
instance{b c d e}:LS (λa s=>ML b c d e a s.1 s.2) 58 [2,3,5] (λs=>[(6,.i s.1)]) [2,3] (λs=>[(5,.row 1 3 (List.map D.z s.2),1)]):={}
instance YaQ:jb 37 W2 OF:=⟨λd a b R h=>by
 refine TC [3] func37 ?_;unfold OF at h;refine Dd {p:Unit//Rt a d b=some R} (λp=>C9 58 [(2,.ptr 2 1 0),(3,.ptr 3 1 0)] [(2,Wb a,1),(3,Ut b,1)]) ?_ λp=>?_
 ·exact Ah
 obtain⟨_,h⟩:=p;exact Ah⟩
instance:ja 90 (W2 Ul):=⟨λ_ _ _ h=>by unfold Ul at h;exact uH func90⟩
instance{b}:LS (λa s=>OB b a s.1 s.2) 54 [] (λs=>[(7,.d (.int .u64 s.1)),(8,.i s.2)]) [] (λs=>[]):={}
instance:ja 91 (W3 Re):=⟨λ_ _ _ _ h=>uH func91⟩
instance{b c}:LS (λa s=>Sc b c a s.1 s.2.1 s.2.2) 31 [0] (λs=>[(5,.i s.1),(6,.i s.2.1),(7,.i s.2.2)]) [] (λs=>[]):={}
instance:ja 39 (W2 Vg):=⟨λ_ _ _ h=>uH func39⟩
instance{b c d e}:LS (λa s=>OC b c d e a s.1 s.2) 106 [2,3,4,8,11,12,13,14,15] (λs=>[(16,.i s.1)]) [4,8,11,42] (λs=>[(69,.row 1 3 (List.map D.z s.2),1)]):={}
instance:jb 16 W4 Rf:=⟨λd e f p2 p3 R h=>by
 refine zaC func16 ?_;unfold Rf at h;refine E5 h (λ_=>YaP.h _ _) λx18 h=>?_;refine uJ h λh=>?_
 refine E5 h (λ_=>Yao.h _ _ _ _ _) λg h=>?_;refine uJ h λh=>?_
 refine uJ h λh=>?_
 conv=>whnf
 refine z17 ?_
 conv=>whnf
 refine SU h λhr h=>?_;refine z12 ?_
 conv=>whnf
 refine⟨.inr ?_⟩;refine E5 h (λ_=>YaQ.h _ _ _ _) λb h=>?_
 conv=>whnf
 refine z11 h (λp=>C9 106 [(2,.l 2 Af p2),(3,.i p3),(4,.ptr 4 1 0),(8,.ptr 8 1 0),(11,.ptr 11 1 0),(12,.l 1 D.z b),(13,.i p.1)] [(4,Wb e,1),(8,.var [.t ByteArray.empty,.i 0,.n 2,.n 1],1),(11,.var [.t f.Aq,.i e.As,.sl 42 1,.l 1 (Aq 1 D.z) p.2],1),(42,.row 2 113 (List.map Af p2),1)]) CC λ_ _ ⟨c,a⟩ h=>?_;exact Ah⟩
instance yd:ja 144 (W3 Gw):=⟨λb c p2 R h=>by
 refine TC [6] func144 ?_;unfold Gw at h;refine uJ h λh=>?_
 refine E5 h (λ_=>Yau.h _ _ _) λa h=>?_;refine Dd {p:Unit//KO p2 b a=some R} (λp=>C9 52 [(2,.i p2),(3,.ptr 3 1 0),(9,.i a)] [(3,Sw b,1)]) ?_ λp=>?_
 ·exact Ah
 obtain⟨_,h⟩:=p;exact Ah⟩
instance{b c d e f g}:LS (λa s=>VK b c d e f g a s) 65 [1,2,3,4,10] (λs=>[(11,.i s)]) [4] (λs=>[]):={}
instance:ja 67 (W4 D5):=⟨λ_ _ _ _ _ h=>uH func67⟩
instance{b c d e}:LS (λa s=>IF b c d e a s) 112 [2,3,7,8] (λs=>[(9,.i s)]) [2,3] (λs=>[]):={}
instance YaM:ja 26 (W2 FI):=⟨λc d R h=>by
 refine TC [19] func26 ?_;unfold FI at h;refine E5 h (λ_=>Gf.h _ _) λe h=>?_;refine uJ h λh=>?_
 refine E5 h (λ_=>Yay.h _ _) λg h=>?_;refine uJ h λh=>?_
 refine uJ h λh=>?_
 refine E5 h (λ_=>Yan.h _ _ _) λi h=>?_;refine uJ h λh=>?_
 refine uJ h λh=>?_
 conv=>whnf
 refine z11 h (λp=>C9 112 [(2,.ptr 2 1 0),(3,.ptr 3 1 0),(7,.i p)] [(2,AI c,1),(3,Du d,1)]) CC λj k a h=>?_;simp only[OD]at h;refine Dn h (λh=>?_) λh=>?_
 ·refine Ry (f:=(Aq 1 D.z)) h λb _ h=>?_;refine Dd {p:Unit//KU d b c a (j k)=some R} (λp=>C9 112 [(2,.ptr 2 1 0),(3,.ptr 3 1 0),(7,.i a),(8,.l 1 D.z b)] [(2,AI c,1),(3,Du d,1)]) ?_ λp=>?_
  ·exact Ah
  obtain⟨_,h⟩:=p;exact Ah
 exact Ah⟩
instance:jb 321 W1 Nq:=⟨λ_ _ _ h=>uH func321⟩
def zz3{p:Prop}(h:p:=by(conv=>whnf);exact⟨⟨(_,_,_,_,_,_,_),h⟩,Bu⟩):p:=h
instance:jb 239 W1 DR:=⟨λd g R h=>by
 refine TC [27] func239 ?_;unfold DR at h;refine Dd {p:(Ω×Ω×Int×Θ×Int×(Γ Int)×(Γ Ab))//C0 g d p.1 p.2.1 p.2.2.1 p.2.2.2.1 p.2.2.2.2.1 p.2.2.2.2.2.1 p.2.2.2.2.2.2=some R} (λp=>C9 117 [(1,.ptr 1 1 0),(3,.ptr 3 1 0),(4,.b p.1.1),(5,.b p.1.2.1)] [(1,GE g,1),(3,.var [.i g.Op,.i p.1.2.2.1,.t p.1.2.2.2.1,.i p.1.2.2.2.2.1,.l 1 D.z p.1.2.2.2.2.2.1,.l 2 Af p.1.2.2.2.2.2.2,.i 0,.i 0,.i 0,.i 0,.i 0,.n 6,.i 0,.i 0,.i 0,.i 0,.i 0,.n 6,.n 19],1)]) ?_ λp=>?_
 ·refine Dn h (λh=>?_) λh=>?_
  ·exact zz3
  refine Dn h (λh=>?_) λh=>?_
  ·exact zz3
  refine Dn h (λh=>?_) λh=>?_
  ·exact zz3
  conv=>whnf
  refine vQ h GK (λc h=>?_) (λc h=>?_)
  ·conv=>whnf
   refine yL GK c ?_;exact zz3
  conv=>whnf
  refine vQ h GK (λe h=>?_) (λe h=>?_)
  ·conv=>whnf
   refine yL GK e ?_;exact zz3
  refine Dn h (λh=>?_) λh=>?_
  ·exact zz3
  conv=>whnf
  refine vQ h GK (λf h=>?_) (λf h=>?_)
  ·conv=>whnf
   refine yL GK f ?_;exact zz3
  conv=>whnf
  refine vQ h GK (λg h=>?_) (λg h=>?_)
  ·conv=>whnf
   refine yL GK g ?_;exact zz3
  conv=>whnf
  refine vQ h GK (λi h=>?_) (λi h=>?_)
  ·conv=>whnf
   refine yL GK i ?_;exact zz3
  refine Dn h (λh=>?_) λh=>?_
  ·exact zz3
  refine Dn h (λh=>?_) λh=>?_
  ·conv=>whnf
   refine z17 ?_;exact zz3
  refine Dn h (λh=>?_) λh=>?_
  ·conv=>whnf
   refine z17 ?_;exact zz3
  refine Dn h (λh=>?_) λh=>?_
  ·exact zz3
  refine sO h λh=>?_
  conv=>whnf
  refine z17 ?_;exact zz3
 obtain⟨⟨i,j,a,b,c,e,f⟩,h⟩:=p;exact Ah⟩
instance{b c d e}:LS (λa s=>KY b c d e a s) 152 [2,3,5] (λs=>[(6,.i s)]) [2,3] (λs=>[]):={}
def gR(d:Nat)(a:Aa->Ag->Δ Ω)(ih:W2 a prog 146):W2 (Mr d a) prog 146:=by
 intro c e R h;refine TC [3,6,13,38] func146 ?_;unfold Mr at h;refine Dd {p:Unit//OG e a c d=some R} (λp=>C9 152 [(2,.ptr 2 1 0),(3,.ptr 3 1 0)] [(2,AI c,1),(3,GE e,1)]) ?_ λp=>?_
 ·exact Ah
 obtain⟨_,h⟩:=p;simp only[OG]at h;refine Dd {p:Int//KZ e a c d p=some R} (λp=>C9 152 [(2,.ptr 2 1 0),(3,.ptr 3 1 0),(5,.i p.1)] [(2,AI c,1),(3,GE e,1)]) ?_ λp=>?_
 ·exact Ah
 obtain⟨b,h⟩:=p;simp only[KZ]at h;refine uJ h λh=>?_
 refine Dd {p:Unit//La c e b d=some R} (λp=>C9 152 [(2,.ptr 2 1 0),(3,.ptr 3 1 0),(5,.i b)] [(2,AI c,1),(3,GE e,1)]) ?_ λp=>?_
 ·exact Ah
 obtain⟨_,h⟩:=p;simp only[La]at h;refine E5 h (λ_=>zT.h _ _ _ _) λg h=>?_;refine Dd {p:Ω//BP b d c e p=some R} (λp=>C9 152 [(2,.ptr 2 1 0),(3,.ptr 3 1 0),(5,.i b),(7,.b p.1)] [(2,AI c,1),(3,GE e,1)]) ?_ λp=>?_
 ·exact Ah
 obtain⟨f,h⟩:=p;exact Ah
theorem Xv:∀d:Nat,W2 (FK d) prog 146
 | 0=>by exact z20
 | d+1=>gR d _ (Xv d)
instance K0:jb 146 W2 FK:=⟨Xv⟩
instance{b c d e}:LS (λa s=>MM b c d e a s) 20 [0,1,2] (λs=>[(7,.i s)]) [] (λs=>[]):={}
instance:ja 235 (W3 LE):=⟨λ_ _ _ _ h=>uH func235⟩
instance{b c d e}:LS (λa s=>Tt b c d e a s.1 s.2) 31 [1,2] (λs=>[(5,.i s.1),(6,.i s.2)]) [2] (λs=>[]):={}
def gS(d:Nat)(a:Ag->Int->Δ Int)(ih:W2 a prog 236):W2 (Mt d a) prog 236:=by
 intro b c R h;refine zaC func236 ?_;unfold Mt at h;exact Ah
theorem Xw:∀d:Nat,W2 (ND d) prog 236
 | 0=>by exact z20
 | d+1=>gS d _ (Xw d)
instance:jb 236 W2 ND:=⟨Xw⟩
instance{b c d}:LS (λa s=>Xx b c d a s.1 s.2) 22 [1] (λs=>[(3,.i s.1),(4,.i s.2)]) [1] (λs=>[]):={}
def gT(d:Nat)(a:Ag->Δ Int)(ih:W1 a prog 237):W1 (Qk d a) prog 237:=by
 intro b R h;refine zaC func237 ?_;unfold Qk at h;exact Ah
theorem Xy:∀d:Nat,W1 (Lb d) prog 237
 | 0=>by exact z20
 | d+1=>gT d _ (Xy d)
instance:jb 237 W1 Lb:=⟨Xy⟩
instance{b c d}:LS (λa s=>KX b c d a s.1 s.2) 27 [1,3] (λs=>[(4,.i s.1)]) [1] (λs=>[(3,.row 1 9 (List.map D.str s.2),1)]):={}
def gQ(d:Nat)(a:Ag->Δ (Γ Θ))(ih:∀(b:Ag)(R:Γ Θ) ,a b=some R->A9 prog 238 [.d (AF b)] (.l 1 D.str R))(b:Ag)(R:Γ Θ)(h:Mq d a b=some R):A9 prog 238 [.d (AF b)] (.l 1 D.str R):=by
 refine zaC func238 ?_;unfold Mq at h;exact Ah
theorem Xu:∀d:Nat,(∀(a:Ag)(R:Γ Θ) ,KW d a=some R->A9 prog 238 [.d (AF a)] (.l 1 D.str R))
 | 0=>by exact z20
 | d+1=>gQ d _ (Xu d)
instance:CS prog 238 (∀(d:Nat),∀(a:Ag)(R:Γ Θ) ,KW d a=some R->A9 prog 238 [.d (AF a)] (.l 1 D.str R)):=⟨Xu⟩
instance{b c d e}:LS (λa s=>Jr b c d e a s) 53 [1,2,8] (λs=>[(9,.i s)]) [] (λs=>[]):={}
instance:jb 145 W3 JN:=⟨λ_ _ _ _ _ h=>uH func145⟩
instance{b c d e}:LS (λa s=>Xt b c d e a s) 33 [1,2] (λs=>[(7,.i s)]) [2] (λs=>[]):={}
instance:jb 68 W2 Rh:=⟨λ_ _ _ _ h=>uH func68⟩
instance{b c}:LS (λa s=>VQ b c a s.1 s.2) 31 [7] (λs=>[(1,.l 2 Af s.1),(8,.i s.2)]) [] (λs=>[]):={}
instance Yat:jb 244 W3 NE:=⟨λ_ _ _ _ _ h=>uH func244⟩
instance:ja 247 (W3 EX):=⟨λ_ _ _ _ h=>uH func247⟩
instance{b c d}:LS (λa s=>Tu b c d a s) 33 [2,7] (λs=>[(8,.i s)]) [7] (λs=>[]):={}
instance:ja 248 (W3 Lf):=⟨λ_ _ _ _ h=>uH func248⟩
instance{b c d}:LS (λa s=>OH b c d a s.1 s.2) 139 [2,3] (λs=>[(5,.l 2 Af s.1),(6,.i s.2)]) [2,3] (λs=>[]):={}
instance{b c d}:LS (λa s=>OI b c d a s.1 s.2) 139 [2,3] (λs=>[(5,.l 2 Af s.1),(7,.i s.2)]) [2,3] (λs=>[]):={}
instance{b c d e}:LS (λa s=>OJ b c d e a s.1 s.2) 139 [2,3] (λs=>[(5,.l 2 Af s.1),(8,.i s.2)]) [2,3] (λs=>[]):={}
instance{b c}:LS (λa s=>Xz b c a s.1 s.2) 139 [2,3,8,9] (λs=>[(5,.l 2 Af s.1),(10,.i s.2)]) [2,3] (λs=>[]):={}
def gU(d:Nat)(a:Aa->Ag->Δ (Γ Ab))(ih:W2 a prog 148):W2 (Mu d a) prog 148:=by
 intro b c R h;refine TC [8,20,24] func148 ?_;unfold Mu at h;refine E5 h (λ_=>K0.h _ _ _ _) λi h=>?_;refine uJ h λh=>?_
 conv=>whnf
 refine z17 ?_;refine E5 h (λ_=>Yat.h _ _ _ _ _) λj h=>?_;refine E5 h (λ_=>Yat.h _ _ _ _ _) λk h=>?_;refine Dd {p:(Γ Ab)//OK c b a p=some R} (λp=>C9 139 [(2,.ptr 2 1 0),(3,.ptr 3 1 0),(5,.l 2 Af p.1)] [(2,AI b,1),(3,GE c,1)]) ?_ λp=>?_
 ·exact Ah
 obtain⟨e,h⟩:=p;simp only[OK]at h;refine Dd {p:(Γ Ab)//Ck c b a p=some R} (λp=>C9 139 [(2,.ptr 2 1 0),(3,.ptr 3 1 0),(5,.l 2 Af p.1)] [(2,AI b,1),(3,GE c,1)]) ?_ λp=>?_
 ·exact Ah
 obtain⟨f,h⟩:=p;simp only[Ck]at h;refine Dd {p:(Γ Ab)//OL c a b p=some R} (λp=>C9 139 [(2,.ptr 2 1 0),(3,.ptr 3 1 0),(5,.l 2 Af p.1)] [(2,AI b,1),(3,GE c,1)]) ?_ λp=>?_
 ·exact Ah
 obtain⟨g,h⟩:=p;exact Ah
theorem X2:∀d:Nat,W2 (G0 d) prog 148
 | 0=>by exact z20
 | d+1=>gU d _ (X2 d)
instance YaC:jb 148 W2 G0:=⟨X2⟩
instance{b c d}:LS (λa s=>Mw b c d a s) 21 [0,1] (λs=>[(5,.i s)]) [] (λs=>[]):={}
instance:ja 249 (W2 VR):=⟨λ_ _ _ h=>uH func249⟩
instance{b c d e}:LS (λa s=>Ql b c d e a s.1 s.2) 78 [0,3] (λs=>[(6,.i s.1),(7,.i s.2)]) [3] (λs=>[]):={}
def iW(d:Nat)(a:(Γ Ar)->Ag->Δ (Int×Int))(ih:W2 a prog 149):W2 (Gq d a) prog 149:=by
 intro b c R h;refine TC [12] func149 ?_;unfold Gq at h;refine Dd {p:Int//Ih c b p=some R} (λp=>C9 78 [(0,.l 26 A2 b),(3,.ptr 3 1 0),(6,.i p.1)] [(3,GE c,1)]) ?_ λp=>?_
 ·exact Ah
 obtain⟨e,h⟩:=p;exact Ah
theorem YK:∀d:Nat,W2 (Js d) prog 149
 | 0=>by exact z20
 | d+1=>iW d _ (YK d)
instance:jb 149 W2 Js:=⟨YK⟩
instance:jb 69 W4 Ld:=⟨λ_ _ _ _ _ _ h=>uH func69⟩
instance{b c d e f}:LS (λa s=>LF b c d e f a s.1 s.2.1 s.2.2) 66 [1,2,3,11,12] (λs=>[(13,.i s.1)]) [3] (λs=>[(11,.row 1 3 (List.map D.z s.2.1),1),(12,.row 26 74 (List.map A2 s.2.2),1)]):={}
instance:jb 27 W3 Mv:=⟨λ_ _ _ _ _ h=>uH func27⟩
instance:ja 150 (W2 Ri):=⟨λ_ _ _ h=>by unfold Ri at h;exact uH func150⟩
