/- WI -/
import Derived.Test.YthifolbledpmkaaGreatDoorWD
open List renaming map → φ
open List renaming length → Ξ
open Go.Proofs.Tryz
set_option linter.all false
namespace Go.Proofs.YthifolbledpmkaaGreatDoor.P
open Go.Abs Go.Proofs
set_option maxRecDepth 100000
set_option maxHeartbeats 4000000
instance Yas:CS prog 5 (∀(a:Γ Int)(R:Ac)(h:WF a=some R),A9 prog 5 [.l 1 (D.int .u8) a] (.optr [(Aq 1 (D.int .u8) R.Ay),(.j R.Aw)])):=⟨λ_ _ h=>by unfold WF at h;exact uH func5⟩
instance jd:ja 18 (V1 AB):=⟨λa b R h=>by
 refine uFJ [3] func18 ?_;unfold AB at h;refine Dd {p:Unit//Nj a b=some R} (λp=>C9 77 [(0,.ptr 0 0 0),(1,.i b)] [(0,Pj a,0)]) ?_ λp=>?_
 ·exact Ah
 obtain⟨_,h⟩:=p;exact Ah⟩
instance xv:ja 20 (V1 CW):=⟨λ_ _ _ h=>uI func20⟩
instance Yal:ja 81 (V2 Bw):=⟨λ_ _ _ _ h=>uI func81⟩
instance{b c}:LS (λa s=>Jf b c a s.1 s.2) 58 [0,4,5,6] (λs=>[(7,.i s.1)]) [0,4,5] (λs=>[(12,.row 2 236 (φ FE s.2),1)]):={}
instance{b c}:LS (λa s=>Jg b c a s.1 s.2.1 s.2.2) 58 [0,4,5,6] (λs=>[(8,.i s.1)]) [4,5] (λs=>[(0,Pj s.2.1,0),(12,.row 2 236 (φ FE s.2.2),1)]):={}
instance{b c}:LS (λa s=>Nh b c a s.1 s.2) 58 [0,4,5,6,8] (λs=>[(9,.i s.1)]) [0,4,5] (λs=>[(12,.row 2 236 (φ FE s.2),1)]):={}
instance Ybe:ja 80 (V1 He):=⟨λd c R h=>by
 refine uFJ [7] func80 ?_;unfold He at h
 conv=>whnf
 refine⟨.inr ?_⟩;refine iD h (λ_=>Yal.h _ _ _ _) λa h=>?_;refine Dd {p:(Γ Fx)//Ni a c p=some R} (λp=>C9 58 [(0,.ptr 0 0 0),(4,.ptr 4 1 0),(5,.ptr 5 1 0),(6,.i a.1)] [(0,Pj a.2,0),(4,.var [.t ByteArray.empty,.n 2],1),(5,.var [.t c,.sl 12 1],1),(12,.row 2 236 (φ FE p.1),1)]) ?_ λp=>?_
 ·exact Ah
 obtain⟨b,h⟩:=p;exact Ah⟩
instance YaB:ja 82 (V1 Fl):=⟨λg j R h=>by
 refine oi func82 (by kernel_rfl) rfl ?_ ?_
 ·intro i x y hx hy
  match i,hx,hy with
  | 0,hx,hy=>simp at hx hy;subst hx;subst hy;exact⟨_,rfl,rfl⟩
  | 1,hx,hy=>simp at hx hy;subst hx;subst hy;trivial
  | i+2,hx,hy=>simp at hx
 unfold Fl at h
 conv=>whnf
 refine z17 ?_;refine iD h (λ_=>Yal.h _ _ _ _) λk h=>?_;refine iD h (λ_=>jd.h _ _ _) λb h=>?_;refine T4 (f:=(Aq 1 D.z)) h GK λc a h=>?_;refine fk (f:=(Aq 1 D.z)) a GK ?_;refine iD h (λ_=>xv.h _ _ _) λd h=>?_
 conv=>whnf
 refine z17 ?_;refine iD h (λ_=>jd.h _ _ _) λe h=>?_
 conv=>whnf
 obtain rfl:=Zaf h;refine z16 ?_
 conv=>whnf
 exact⟨qv⟩⟩
instance:ja 31 (V0 Hy):=⟨λs R h=>by
 refine oi func31 (by kernel_rfl) rfl ?_ ?_
 ·intro i x y hx hy
  match i,hx,hy with
  | 0,hx,hy=>simp at hx hy;subst hx;subst hy;exact⟨_,rfl,rfl⟩
  | i+1,hx,hy=>simp at hx
 unfold Hy at h;refine iD h (λ_=>Ybe.h _ _ _) λk h=>?_;refine iD h (λ_=>Ybe.h _ _ _) λl h=>?_
 conv=>whnf
 refine⟨.inr ?_⟩;refine iD h (λ_=>xv.h _ _ _) λr h=>?_;refine Dn h (λh=>?_) λh=>?_
 ·conv=>whnf
  refine SU h λhr h=>?_;refine z12 ?_
  try rw[Sr]
  conv=>whnf
  refine By h λd b h=>?_;refine Ha (Yal.h _ _ _ _ b) ?_
  conv=>whnf
  refine z11 h (λp=>C9 41 [(0,.ptr 0 0 0),(2,.ptr 2 1 0),(3,.ptr 3 1 0),(4,.i p.1)] [(0,Pj p.2.1,0),(2,.var [.n 2,.n 7],1),(3,.var [.sl 9 1,.sl 12 1],1),(9,.row 2 165 (φ Ak [k.1,l.1]),1),(12,.row 7 50 (φ Aw p.2.2),1)]) CC λ_ _ ⟨m,n,e⟩ h=>?_;simp only[Hz]at h;refine Dn h (λh=>?_) λh=>?_
  ·conv=>whnf
   refine z17 ?_
   conv=>whnf
   refine By h λf a h=>?_
   first|refine BU (IJ _ _ a) ?_|(simp only[Zac];refine BU (IJ _ _ a) ?_)
   conv=>whnf
   refine SU h λhr h=>?_;refine⟨Zal hr,?_⟩
   conv=>whnf
   refine By h λg c h=>?_;refine Ha (YaB.h _ _ _ c) ?_
   conv=>whnf
   refine SU h λhr h=>?_;refine z12 ?_
   try rw[Sr]
   conv=>whnf
   exact sP ⟨(_,(_,_,_)),h⟩ CC
  conv=>whnf
  refine⟨.inl ?_⟩
  conv=>whnf
  obtain rfl:=Zaf h;refine z16 ?_
  conv=>whnf
  exact⟨qv⟩
 conv=>whnf
 refine By h λd b h=>?_;refine Ha (Yal.h _ _ _ _ b) ?_
 conv=>whnf
 refine z11 h (λp=>C9 41 [(0,.ptr 0 0 0),(2,.ptr 2 1 0),(3,.ptr 3 1 0),(4,.i p.1)] [(0,Pj p.2.1,0),(2,.var [.n 2,.n 7],1),(3,.var [.sl 9 1,.sl 12 1],1),(9,.row 2 165 (φ Ak [k.1,l.1]),1),(12,.row 7 50 (φ Aw p.2.2),1)]) CC λ_ _ ⟨o,q,j⟩ h=>?_;simp only[QM]at h;refine Dn h (λh=>?_) λh=>?_
 ·conv=>whnf
  refine z17 ?_
  conv=>whnf
  refine By h λf a h=>?_
  first|refine BU (IJ _ _ a) ?_|(simp only[Zac];refine BU (IJ _ _ a) ?_)
  conv=>whnf
  refine SU h λhr h=>?_;refine⟨Zal hr,?_⟩
  conv=>whnf
  refine By h λg c h=>?_;refine Ha (YaB.h _ _ _ c) ?_
  conv=>whnf
  refine SU h λhr h=>?_;refine z12 ?_
  try rw[Sr]
  conv=>whnf
  exact sP ⟨(_,(_,_,_)),h⟩ CC
 conv=>whnf
 refine⟨.inl ?_⟩
 conv=>whnf
 obtain rfl:=Zaf h;refine z16 ?_
 conv=>whnf
 exact⟨qv⟩⟩
instance:ja 83 (V2 I4):=⟨λ_ _ _ _ h=>uI func83⟩
instance:CS prog 33 (∀(b:Ac)(a:Aa)(R:(Γ Int)×Ac)(h:K9 b a=some R),Et prog 33 [.optr [(Aq 1 (D.int .u8) b.Ay),(.j b.Aw)],.d (Cr a)] [.optr [(Aq 1 (D.int .u8) R.2.Ay),(.j R.2.Aw)],.any] (.own 1 3 (φ D.z R.1))):=⟨λb a R h=>by
 refine uF func33 ?_;unfold K9 at h
 conv=>whnf
 refine z11 h (λp=>C9 22 [(0,.ptr 0 0 0),(3,.ptr 3 1 0),(5,.sl 5 1),(9,.i (Ξ a.A:Int)),(10,.i p.1)] [(0,Pj p.2.1,0),(3,AI a,1),(5,.row 1 3 (φ D.z p.2.2),1)]) CC λ_ _ ⟨c,d,e⟩ h=>?_;simp only[Kq]at h;refine uJ h λh=>?_
 conv=>whnf
 obtain rfl:=Zaf h;refine z16 ?_
 conv=>whnf
 refine⟨.inr ?_⟩
 conv=>whnf
 refine z13 ?_
 conv=>whnf
 exact⟨qv⟩⟩
instance{b c}:LS (λa s=>KA b c a s.1 s.2.1 s.2.2) 28 [0,4,5,6] (λs=>[(7,.i s.1)]) [4,5] (λs=>[(0,Pj s.2.1,0),(6,.var [.l 2 Ak b.1.S,.l 7 Aw b.1.A,.l 1 (Aq 1 D.z) s.2.2,.n 1,.i 0],1)]):={}
instance:ja 14 (V1 H3):=⟨λ_ _ _ h=>uI func14⟩
instance{b c}:LS (λa s=>TP b c a s.1 s.2) 33 [1,2,4,5] (λs=>[(6,.i s.1)]) [1,2,4] (λs=>[(5,.row 2 113 (φ Af s.2),1)]):={}
instance:ja 15 (W1 WC):=⟨λ_ _ h=>uH func15⟩
instance:ja 17 (V0 H1):=⟨λ_ _ h=>uI func17⟩
instance WR:CS prog 6 (∀(d:Nat)(a:Ac)(b:Int)(R:CH×Ad×Ac)(h:I5 d a b=some R),Et prog 6 [.optr [(Aq 1 (D.int .u8) a.Ay),(.j a.Aw)],.i b] [.optr [(Aq 1 (D.int .u8) R.2.2.Ay),(.j R.2.2.Aw)],.any] (.tup [.d (Nk R.1),.d (Cm R.2.1)])):=⟨λ_ _ _ _ h=>uI func6⟩
instance{b c d}:LS (λa s=>Hf b c d a s.1 s.2) 27 [1,2,5,9] (λs=>[(10,.i s.1)]) [2] (λs=>[(5,.row 1 3 (φ D.z s.2),1)]):={}
instance:ja 98 (W2 F1):=⟨λ_ _ _ h=>uH func98⟩
instance YaL:ja 42 (V1 BH):=⟨λ_ _ _ h=>uI func42⟩
instance{b c d e}:LS (λa s=>Jd b c d e a s.1 s.2.1 s.2.2) 42 [0,3,5,6,19] (λs=>[(20,.i s.1)]) [3] (λs=>[(0,Pj s.2.1,0),(5,.row 2 113 (φ Af s.2.2),1)]):={}
instance{b c d}:LS (λa s=>Je b c d a s.1 s.2.1 s.2.2) 42 [0,3,5,6,19] (λs=>[(20,.i s.1)]) [3] (λs=>[(0,Pj s.2.1,0),(5,.row 2 113 (φ Af s.2.2),1)]):={}
instance:ja 43 (V1 Hd):=⟨λ_ _ _ h=>uI func43⟩
instance:ja 99 (V1 I1):=⟨λ_ _ _ h=>uI func99⟩
def Zg(d:Nat)(a:Ac->Aa->Int->Δ (Ae×Ac))(ih:V2 a prog 44):V2 (EH d a) prog 44:=by
 intro e b p2 R h;refine uFJ [9] func44 ?_;unfold EH at h;refine Dd {p:Ac//GI b p=some R} (λp=>C9 111 [(0,.ptr 0 0 0),(4,.ptr 4 1 0),(6,.ptr 6 1 0)] [(0,Pj p.1,0),(4,AI b,1),(6,.var [.i 0,.i 0,.i 0,.i 0,.i 0,.n 6],1)]) ?_ λp=>?_
 ·exact Ah
 obtain⟨c,h⟩:=p;exact Ah
theorem SS:∀d:Nat,(V2 (B4 d) prog 44)
 | 0=>by exact z20
 | d+1=>Zg d _ (SS d)
instance fe:jb 44 V2 B4:=⟨SS⟩
instance{b c d}:LS (λa s=>Ir b c d a s.1 s.2.1 s.2.2) 41 [0,2,7,8,13] (λs=>[(14,.i s.1)]) [] (λs=>[(0,Pj s.2.1,0),(7,.row 1 3 (φ D.z s.2.2),1)]):={}
instance:ja 45 (V2 I3):=⟨λ_ _ _ _ h=>uI func45⟩
def WE(d:Nat)(a:Ac->Aa->(Γ Θ)->Int->Δ (Ag×Ac))(ih:∀(j:Ac)(c:Aa)(p2:Γ Θ)(p3:Int)(R:Ag×Ac) ,a j c p2 p3=some R->Et prog 46 [.optr [(Aq 1 (D.int .u8) j.Ay),(.j j.Aw)],.d (Cr c),.own 1 9 (φ D.str p2),.i p3] [.optr [(Aq 1 (D.int .u8) R.2.Ay),(.j R.2.Aw)],.any,.own 1 9 (φ D.str p2),.any] (.d (AF R.1)))(j:Ac)(c:Aa)(p2:Γ Θ)(p3:Int)(R:Ag×Ac)(h:Ga d a j c p2 p3=some R):Et prog 46 [.optr [(Aq 1 (D.int .u8) j.Ay),(.j j.Aw)],.d (Cr c),.own 1 9 (φ D.str p2),.i p3] [.optr [(Aq 1 (D.int .u8) R.2.Ay),(.j R.2.Aw)],.any,.own 1 9 (φ D.str p2),.any] (.d (AF R.1)):=by
 refine lH [3] func46 (by kernel_rfl) rfl ?_ ?_
 ·intro i x y hx hy
  match i,hx,hy with
  | 0,hx,hy=>simp at hx hy;subst hx;subst hy;exact⟨_,rfl,rfl⟩
  | 1,hx,hy=>simp at hx hy;subst hx;subst hy;trivial
  | 2,hx,hy=>cases Zaf hx;cases Zaf hy;exact⟨_,rfl⟩
  | 3,hx,hy=>simp at hx hy;subst hx;subst hy;trivial
  | i+4,hx,hy=>simp at hx
 unfold Ga at h;refine Dd {p:Ac//Ez p2 d c p=some R} (λp=>C9 73 [(0,.ptr 0 0 0),(2,.sl 2 0),(5,.ptr 5 1 0),(8,.ptr 8 1 0)] [(0,Pj p.1,0),(2,.row 1 9 (φ D.str p2),0),(5,AI c,1),(8,.var [.i 0,.i 0,.t ByteArray.empty,.i 0,.n 1,.n 2,.i 0,.i 0,.i 0,.i 0,.i 0,.n 6,.i 0,.i 0,.i 0,.i 0,.i 0,.n 6,.n 19],1)]) ?_ λp=>?_
 ·refine Dn h (λh=>?_) λh=>?_
  ·refine iD h (λ_=>xv.h _ _ _) λn h=>?_;refine Dn h (λh=>?_) λh=>?_
   ·conv=>whnf
    refine z17 ?_;refine iD h (λ_=>Yal.h _ _ _ _) λo h=>?_
    conv=>whnf
    refine By h λq e h=>?_
    first|refine Ha (ih _ _ _ _ _ e) ?_|(simp only[Zac];refine Ha (ih _ _ _ _ _ e) ?_)
    conv=>whnf
    refine By h λr g h=>?_
    first|refine Ha (ih _ _ _ _ _ g) ?_|(simp only[Zac];refine Ha (ih _ _ _ _ _ g) ?_)
    conv=>whnf
    refine⟨.inl ?_⟩;exact z28
   exact z30
  exact⟨⟨_,h⟩,Bu⟩
 obtain⟨m,h⟩:=p;simp only[Ez]at h;refine iD h (λ_=>jd.h _ _ _) λs h=>?_;refine Dn h (λh=>?_) λh=>?_
 ·refine iD h (λ_=>Yal.h _ _ _ _) λt h=>?_;exact z28
 refine Dn h (λh=>?_) λh=>?_
 ·refine Dn h (λh=>?_) λh=>?_
  ·conv=>whnf
   refine By h λx47 hx47 h=>?_
   first|refine Ha (jd.h _ _ _ hx47) ?_|(simp only[Zac];refine Ha (jd.h _ _ _ hx47) ?_)
   refine T4 (f:=D.str) h GK λu k h=>?_;refine fk (f:=D.str) k GK ?_;exact z28
  conv=>whnf
  refine By h λl b h=>?_;refine Ha (fe.h _ _ _ _ _ b) ?_;exact z28
 refine Dn h (λh=>?_) λh=>?_
 ·conv=>whnf
  refine z17 ?_;refine iD h (λ_=>YaL.h _ _ _) λv h=>?_;refine iD h (λ_=>fe.h _ _ _ _ _) λw h=>?_;exact z28
 refine Dn h (λh=>?_) λh=>?_
 ·conv=>whnf
  refine z17 ?_;refine iD h (λ_=>YaL.h _ _ _) λz h=>?_;refine iD h (λ_=>fe.h _ _ _ _ _) λx67 h=>?_;exact z28
 conv=>whnf
 refine By h λl b h=>?_;refine Ha (fe.h _ _ _ _ _ b) ?_;exact z28
theorem QL:∀d:Nat,(∀(a:Ac)(b:Aa)(p2:Γ Θ)(p3:Int)(R:Ag×Ac) ,D1 d a b p2 p3=some R->Et prog 46 [.optr [(Aq 1 (D.int .u8) a.Ay),(.j a.Aw)],.d (Cr b),.own 1 9 (φ D.str p2),.i p3] [.optr [(Aq 1 (D.int .u8) R.2.Ay),(.j R.2.Aw)],.any,.own 1 9 (φ D.str p2),.any] (.d (AF R.1)))
 | 0=>by exact z20
 | d+1=>WE d _ (QL d)
instance:CS prog 46 (∀(d:Nat),∀(a:Ac)(b:Aa)(p2:Γ Θ)(p3:Int)(R:Ag×Ac) ,D1 d a b p2 p3=some R->Et prog 46 [.optr [(Aq 1 (D.int .u8) a.Ay),(.j a.Aw)],.d (Cr b),.own 1 9 (φ D.str p2),.i p3] [.optr [(Aq 1 (D.int .u8) R.2.Ay),(.j R.2.Aw)],.any,.own 1 9 (φ D.str p2),.any] (.d (AF R.1))):=⟨QL⟩
instance:CS prog 21 (∀(d:Nat)(a:Ac)(b:Aa)(p2:Γ Θ)(R:Ag×Ac)(h:J8 d a b p2=some R),Et prog 21 [.optr [(Aq 1 (D.int .u8) a.Ay),(.j a.Aw)],.d (Cr b),.own 1 9 (φ D.str p2)] [.optr [(Aq 1 (D.int .u8) R.2.Ay),(.j R.2.Aw)],.any,.own 1 9 (φ D.str p2)] (.d (AF R.1))):=⟨λ_ _ _ _ _ h=>uI func21⟩
instance{b c d}:LS (λa s=>Kj b c d a s.1 s.2.1 s.2.2.1 s.2.2.2) 44 [0,4,7,8] (λs=>[(9,.i s.1)]) [4] (λs=>[(0,Pj s.2.1,0),(7,.row 21 58 (φ Bf s.2.2.1),1),(8,.row 1 9 (φ D.str s.2.2.2),1)]):={}
instance YaO:jb 7 V2 GJ:=⟨λ_ _ _ _ _ h=>uI func7⟩
