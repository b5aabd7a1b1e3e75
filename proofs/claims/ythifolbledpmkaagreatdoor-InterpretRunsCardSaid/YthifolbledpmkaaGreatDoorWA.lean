/- WA -/
import Derived.Test.YthifolbledpmkaaGreatDoorW0
open Option renaming some → θ
open List renaming length → Ξ
open Go.Proofs.Tryz
set_option linter.all false
open List renaming map → φ
namespace Go.Proofs.YthifolbledpmkaaGreatDoor.P
open Go.Abs Go.Proofs
set_option maxRecDepth 100000
set_option maxHeartbeats 4000000
instance{b c}:LS (λa s=>Ib b c a s) 62 [0,24,25] (λs=>[(26,.i s)]) [] (λs=>[]):={}
instance Yai:ja 48 (W1 CQ):=⟨λa R h=>by
 refine TC [3,9] func48 ?_;unfold CQ at h;refine Dd {p:Unit//JV a=θ R} (λp=>C9 62 [(0,.t a)] []) ?_ λp=>?_
 ·exact Ah
 obtain⟨_,h⟩:=p;simp only[JV]at h;refine Dd {p:Unit//Uv a=θ R} (λp=>C9 62 [(0,.t a)] []) ?_ λp=>?_
 ·exact Ah
 obtain⟨_,h⟩:=p;exact Ah⟩
instance{b c}:LS (λa s=>We b c a s.1 s.2) 31 [3,11,12] (λs=>[(13,.i s.1)]) [] (λs=>[(9,.row 1 3 (List.map D.z s.2),1)]):={}
instance:ja 173 (W1 IZ):=⟨λ_ _ h=>by unfold IZ at h;exact uH func173⟩
instance{b c d}:LS (λa s=>W8 b c d a s.1 s.2) 102 [4,82,83] (λs=>[(7,.i s.1),(84,.i s.2)]) [29] (λs=>[]):={}
instance:ja 100 (W1 IN):=⟨λc R h=>by
 refine TC [21] func100 ?_;unfold IN at h;refine E5 h (λ_=>Yai.h _ _) λi h=>?_;refine uJ h λh=>?_
 refine uJ h λh=>?_
 refine uJ h λh=>?_
 conv=>whnf
 refine z17 ?_
 conv=>whnf
 refine SU h λhr h=>?_;refine z14 ?_
 try rw[xO]
 refine Dd {p:(Γ Ω)//W9 c p=θ R} (λp=>C9 102 [(1,.ptr 1 1 0),(4,.sl 29 1)] [(1,Pi c,1),(29,.row 1 4 (List.map D.bool p.1),1)]) ?_ λp=>?_
 ·conv=>whnf
  refine z11 h (λp=>C9 102 [(1,.ptr 1 1 0),(3,.sl 25 1),(4,.sl 29 1),(31,.l 2 FE c.X),(32,.i (Ξ c.X:Int)),(33,.i p.1)] [(1,Pi c,1),(25,.map (mpS D.bool p.2.1),1),(29,.row 1 4 (List.map D.bool p.2.2),1)]) CC λ_ _ ⟨d,a,e⟩ h=>?_;simp only[W7]at h;refine Dn h (λh=>?_) λh=>?_
  ·refine Ry (f:=FE) h λb _ h=>?_;refine E5 h (λ_=>Yai.h _ _) λj h=>?_;refine uJ h λh=>?_
   conv=>whnf
   refine⟨⟨by kernel_rfl,nO D.bool b.J a⟩,?_⟩
   conv=>whnf
   refine wY (f:=D.bool) (es:=a) (z:=false) ?_;refine uJ h λh=>?_
   refine uJ h λh=>?_
   conv=>whnf
   refine⟨⟨by rfl,by kernel_rfl,nO D.bool b.J a⟩,?_⟩
   conv=>whnf
   try rw[sG D.bool b.J true]
   exact Ah
  exact Ah
 obtain⟨g,h⟩:=p;exact Ah⟩
instance{b c d}:LS (λa s=>Em b c d a s) 19 [0,1,7] (λs=>[(8,.i s)]) [] (λs=>[]):={}
instance YaZ:CS prog 174 (∀(c:Γ Am)(d:Am->Δ Ω)(a:FuncId)(b:Γ D)(R:Int)(h_p1:∀(a0:Am) r,d a0=θ r->A9 prog a ([.d (Ak a0)]++b.map .d) (.b r))(h:BZ c d=θ R),A9 prog 174 [.l 2 Ak c,.d (.fn a b)] (.i R)):=⟨λ_ _ _ _ _ h_p1 h=>uH func174⟩
instance:CS prog 101 (∀(c:Γ Am)(d:Am->Δ Ω)(a:FuncId)(b:Γ D)(R:Ω)(h_p1:∀(a0:Am) r,d a0=θ r->A9 prog a ([.d (Ak a0)]++b.map .d) (.b r))(h:Bz c d=θ R),A9 prog 101 [.l 2 Ak c,.d (.fn a b)] (.b R)):=⟨λc d a b R h_p1 h=>by
 refine zaC func101 ?_;unfold Bz at h;refine E5 h (λ_=>YaZ.h _ _ _ _ _ h_p1) λe h=>?_;exact Ah⟩
instance:CS prog 102 (∀(b a:Am)(R:Ω)(h:Rv b a=θ R),A9 prog 102 [.d (Ak b),.d (.ptr [(.str a.J),(Aq 2 FE a.X)])] (.b R)):=⟨λ_ _ _ h=>by unfold Rv at h;exact uH func102⟩
instance{b c d}:LS (λa s=>EO b c d a s) 19 [0,1,7] (λs=>[(8,.i s)]) [] (λs=>[]):={}
instance Yak:CS prog 281 (∀(c:Γ Ax)(d:Ax->Δ Ω)(a:FuncId)(b:Γ D)(R:Int)(h_p1:∀(a0:Ax) r,d a0=θ r->A9 prog a ([.d (Aw a0)]++b.map .d) (.b r))(h:Cp c d=θ R),A9 prog 281 [.l 7 Aw c,.d (.fn a b)] (.i R)):=⟨λ_ _ _ _ _ h_p1 h=>uH func281⟩
instance:CS prog 175 (∀(c:Γ Ax)(d:Ax->Δ Ω)(a:FuncId)(b:Γ D)(R:Ω)(h_p1:∀(a0:Ax) r,d a0=θ r->A9 prog a ([.d (Aw a0)]++b.map .d) (.b r))(h:BA c d=θ R),A9 prog 175 [.l 7 Aw c,.d (.fn a b)] (.b R)):=⟨λc d a b R h_p1 h=>by
 refine zaC func175 ?_;unfold BA at h;refine E5 h (λ_=>Yak.h _ _ _ _ _ h_p1) λe h=>?_;exact Ah⟩
instance:CS prog 176 (∀(b a:Ax)(R:Ω)(h:Kk b a=θ R),A9 prog 176 [.d (Aw b),.d (.ptr [(.str a.J),(.j a.Kind),(.j a.Al),(.j a.C),(.j a.E),(Aq 1 D.z a.L),(.bool a.An)])] (.b R)):=⟨λ_ _ _ h=>by unfold Kk at h;exact uH func176⟩
instance{b c}:LS (λa s=>Jw b c a s.1 s.2) 68 [34,35] (λs=>[(3,.i s.1),(36,.i s.2)]) [] (λs=>[]):={}
instance:ja 177 (W1 Gg):=⟨λ_ _ h=>uH func177⟩
instance:ja 178 (W1 G4):=⟨λ_ _ h=>uH func178⟩
instance:ja 103 (W2 GR):=⟨λ_ _ _ h=>uH func103⟩
instance{b c}:LS (λa s=>MR b c a s) 63 [1,19,20] (λs=>[(21,.i s)]) [1] (λs=>[]):={}
instance{b c}:LS (λa s=>MU b c a s) 63 [1,52] (λs=>[(53,.i s)]) [1] (λs=>[]):={}
instance:ja 47 (W1 DT):=⟨λa R h=>by
 refine TC [12] func47 ?_;unfold DT at h;refine uJ h λh=>?_
 refine Dd {p:Unit//Rw a=θ R} (λp=>C9 63 [(1,.ptr 1 1 0)] [(1,AI a,1)]) ?_ λp=>?_
 ·exact Ah
 obtain⟨_,h⟩:=p;exact Ah⟩
instance{b c}:LS (λa s=>Pf b c a s.1 s.2) 25 [0] (λs=>[(3,.i s.1),(4,.i s.2)]) [] (λs=>[]):={}
instance:ja 284 (W1 Mc):=⟨λa R h=>by
 refine zaC func284 ?_;unfold Mc at h;refine Dn h (λh=>?_) λh=>?_
 ·conv=>whnf
  cases h
 exact Ah⟩
instance q9:ja 182 (W1 Hr):=⟨λ_ _ h=>uH func182⟩
instance:ja 179 (W2 G2):=⟨λ_ _ _ h=>uH func179⟩
instance:ja 104 (W2 G3):=⟨λ_ _ _ h=>uH func104⟩
instance{b c d}:LS (λa s=>MW b c d a s) 41 [1,2,14,15] (λs=>[(16,.i s)]) [2] (λs=>[]):={}
instance:ja 49 (W2 HQ):=⟨λ_ _ _ h=>uH func49⟩
instance:ja 282 (W2 Jy):=⟨λ_ _ _ h=>uH func282⟩
instance:ja 283 (W2 G1):=⟨λ_ _ _ h=>by unfold G1 at h;exact uH func283⟩
instance:ja 180 (W3 IU):=⟨λ_ _ _ _ h=>uH func180⟩
instance{b c d}:LS (λa s=>de b c d a s.1 s.2) 28 [1,5,12,13] (λs=>[(14,.i s.1)]) [] (λs=>[(5,.row 1 3 (List.map D.z s.2),1)]):={}
instance YaF:ja 181 (W2 Ex):=⟨λ_ _ _ h=>uH func181⟩
instance:ja 285 (W2 UF):=⟨λ_ _ _ h=>uH func285⟩
instance{b c d}:LS (λa s=>dh b c d a s.1 s.2) 36 [2,3] (λs=>[(1,.i s.1),(7,.i s.2)]) [3] (λs=>[]):={}
instance vp:ja 183 (W3 J5):=⟨λ_ _ _ _ h=>uH func183⟩
instance{b c d e f}:LS (λa s=>T7 b c d e f a s) 68 [2,3,14,54,55] (λs=>[(56,.i s)]) [14] (λs=>[]):={}
instance:ja 105 (W4 Bi):=⟨λ_ _ _ _ _ h=>uH func105⟩
instance{b c d e}:LS (λa s=>Hh b c d e a s) 53 [2,3,29,30] (λs=>[(31,.i s)]) [3] (λs=>[]):={}
instance:ja 50 (W3 L1):=⟨λa b p2 R h=>by
 refine TC [3] func50 ?_;unfold L1 at h;refine Dd {p:Unit//J9 b p2 a=θ R} (λp=>C9 53 [(1,.l 2 Af b),(2,.l 1 D.z p2),(3,.ptr 3 1 0)] [(3,AI a,1)]) ?_ λp=>?_
 ·exact Ah
 obtain⟨_,h⟩:=p;exact Ah⟩
instance{b c d}:LS (λa s=>Lz b c d a s) 70 [2,3,40,41] (λs=>[(42,.i s)]) [2,3] (λs=>[]):={}
instance qw:ja 22 (W2 DK):=⟨λ_ _ _ h=>uH func22⟩
instance{b c d}:LS (λa s=>DV b c d a s) 19 [0,1,7] (λs=>[(8,.i s)]) [] (λs=>[]):={}
instance Z0:CS prog 184 (∀(c:Γ Az)(d:Az->Δ Ω)(a:FuncId)(b:Γ D)(R:Int)(h_p1:∀(a0:Az) r,d a0=θ r->A9 prog a ([.d (Bf a0)]++b.map .d) (.b r))(h:BS c d=θ R),A9 prog 184 [.l 21 Bf c,.d (.fn a b)] (.i R)):=⟨λ_ _ _ _ _ h_p1 h=>uH func184⟩
instance:CS prog 107 (∀(c:Γ Az)(d:Az->Δ Ω)(a:FuncId)(b:Γ D)(R:Ω)(h_p1:∀(a0:Az) r,d a0=θ r->A9 prog a ([.d (Bf a0)]++b.map .d) (.b r))(h:Bj c d=θ R),A9 prog 107 [.l 21 Bf c,.d (.fn a b)] (.b R)):=⟨λc d a b R h_p1 h=>by
 refine zaC func107 ?_;unfold Bj at h;refine E5 h (λ_=>Z0.h _ _ _ _ _ h_p1) λe h=>?_;exact Ah⟩
instance:CS prog 108 (∀(a:Az)(b:Θ)(R:Ω)(h:Gm a b=θ R),A9 prog 108 [.d (Bf a),.d (.ptr [(.str b)])] (.b R)):=⟨λ_ _ _ h=>by unfold Gm at h;exact uH func108⟩
instance:CS prog 106 (∀(a:Θ)(b:Γ Az)(R:Ω)(h:EP a b=θ R),A9 prog 106 [.t a,.d (.ptr [(Aq 21 Bf b)])] (.b R)):=⟨λ_ _ _ h=>uH func106⟩
instance{b c d e}:LS (λa s=>P6 b c d e a s.1 s.2) 27 [1,9,10] (λs=>[(5,.i s.1),(11,.i s.2)]) [] (λs=>[]):={}
def ca(d:Nat)(a:Ag->Int->Δ Int)(ih:W2 a prog 109):W2 (JG d a) prog 109:=by
 intro b c R h;refine zaC func109 ?_;unfold JG at h;exact Ah
theorem UZ:∀d:Nat,W2 (Ka d) prog 109
 | 0=>by exact z20
 | d+1=>ca d _ (UZ d)
instance:jb 109 W2 Ka:=⟨UZ⟩
instance{b c d}:LS (λa s=>MD b c d a s.1 s.2) 20 [7,8] (λs=>[(3,.i s.1),(9,.i s.2)]) [] (λs=>[]):={}
def em(d:Nat)(a:Ag->Δ Int)(ih:W1 a prog 110):W1 (IB d a) prog 110:=by
 intro b R h;refine zaC func110 ?_;unfold IB at h;exact Ah
theorem Wh:∀d:Nat,W1 (Gp d) prog 110
 | 0=>by exact z20
 | d+1=>em d _ (Wh d)
instance:jb 110 W1 Gp:=⟨Wh⟩
instance{b c d e}:LS (λa s=>GH b c d e a s.1 s.2) 27 [1,9,10] (λs=>[(5,.i s.1),(11,.i s.2)]) [] (λs=>[]):={}
def Za(d:Nat)(a:Ae->Int->Δ Int)(ih:W2 a prog 194):W2 (EG d a) prog 194:=by
 intro b c R h;refine zaC func194 ?_;unfold EG at h;exact Ah
theorem SR:∀d:Nat,W2 (EQ d) prog 194
 | 0=>by exact z20
 | d+1=>Za d _ (SR d)
instance:jb 194 W2 EQ:=⟨SR⟩
instance{b c d}:LS (λa s=>FP b c d a s.1 s.2) 20 [7,8] (λs=>[(3,.i s.1),(9,.i s.2)]) [] (λs=>[]):={}
def ZP(d:Nat)(a:Ae->Δ Int)(ih:W1 a prog 195):W1 (Ey d a) prog 195:=by
 intro b R h;refine zaC func195 ?_;unfold Ey at h;exact Ah
theorem TJ:∀d:Nat,W1 (D6 d) prog 195
 | 0=>by exact z20
 | d+1=>ZP d _ (TJ d)
instance:jb 195 W1 D6:=⟨TJ⟩
instance:ja 349 (W1 NV):=⟨λ_ _ h=>uH func349⟩
instance:ja 350 (W1 DN):=⟨λ_ _ h=>uH func350⟩
instance:ja 294 (W2 Bn):=⟨λa b R h=>by
 refine TC [9] func294 ?_;unfold Bn at h;refine Dd {p:Unit//Bh a b=some R} (λp=>C9 113 [(2,.ptr 2 1 0),(3,.ptr 3 1 0)] [(2,AI a,1),(3,LW b,1)]) ?_ λp=>?_
 ·exact Ah
 obtain⟨_,h⟩:=p;exact Ah⟩
instance{b c d e}:LS (λa s=>BV b c d e a s) 29 [2,16,17] (λs=>[(18,.i s)]) [2] (λs=>[]):={}
def Wp(d:Nat)(a:Aa->Ae->Δ Int)(ih:W2 a prog 196):W2 (Cv d a) prog 196:=by
 intro b c R h;refine zaC func196 ?_;unfold Cv at h;exact Ah
theorem Pp:∀d:Nat,W2 (C3 d) prog 196
 | 0=>by exact z20
 | d+1=>Wp d _ (Pp d)
instance:jb 196 W2 C3:=⟨Pp⟩
instance YaI:jb 116 W2 Bm:=⟨λ_ _ _ _ h=>uH func116⟩
instance{b c d}:LS (λa s=>FM b c d a s) 19 [0,1,7] (λs=>[(8,.i s)]) [] (λs=>[]):={}
instance YaN:CS prog 291 (∀(c:Γ Ag)(d:Ag->Δ Ω)(a:FuncId)(b:Γ D)(R:Int)(h_p1:∀(a0:Ag) r,d a0=some r->A9 prog a ([.d (AF a0)]++b.map .d) (.b r))(h:Da c d=some R),A9 prog 291 [.l 19 C8 c,.d (.fn a b)] (.i R)):=⟨λ_ _ _ _ _ h_p1 h=>uH func291⟩
instance Yap:CS prog 186 (∀(c:Γ Ag)(d:Ag->Δ Ω)(a:FuncId)(b:Γ D)(R:Ω)(h_p1:∀(a0:Ag) r,d a0=some r->A9 prog a ([.d (AF a0)]++b.map .d) (.b r))(h:A3 c d=some R),A9 prog 186 [.l 19 C8 c,.d (.fn a b)] (.b R)):=⟨λc d a b R h_p1 h=>by
 refine zaC func186 ?_;unfold A3 at h;refine E5 h (λ_=>YaN.h _ _ _ _ _ h_p1) λe h=>?_;exact Ah⟩
instance YaU:ja 286 (W1 EK):=⟨λa R h=>by
 refine TC [25] func286 ?_;unfold EK at h;refine Dd {p:Unit//H8=some R} (λp=>C9 38 [(2,.ptr 2 1 0)] [(2,.var [.b false,.b false,.b false,.b false,.b false,.b false,.b false],1)]) ?_ λp=>?_
 ·exact Ah
 obtain⟨_,h⟩:=p;exact Ah⟩
instance HP:ja 289 (W1 D3):=⟨λ_ _ h=>by unfold D3 at h;exact uH func289⟩
instance:ja 344 (W1 Kb):=⟨λ_ _ h=>by unfold Kb at h;exact uH func344⟩
instance:ja 287 (W2 KJ):=⟨λ_ _ _ h=>uH func287⟩
instance{b c d}:LS (λa s=>M1 b c d a s) 19 [0,1,7] (λs=>[(8,.i s)]) [] (λs=>[]):={}
instance:ja 218 (W2 GY):=⟨λ_ _ _ h=>uH func218⟩
instance:ja 129 (W2 Cd):=⟨λ_ _ _ h=>uH func129⟩
instance:ja 345 (W2 BJ):=⟨λ_ _ _ h=>uH func345⟩
instance{b c d}:LS (λa s=>FN b c d a s) 19 [0,1,7] (λs=>[(8,.i s)]) [] (λs=>[]):={}
instance gE:CS prog 208 (∀(c:Γ Ab)(d:Ab->Δ Ω)(a:FuncId)(b:Γ D)(R:Int)(h_p1:∀(a0:Ab) r,d a0=some r->A9 prog a ([.d (Af a0)]++b.map .d) (.b r))(h:AZ c d=some R),A9 prog 208 [.l 2 Af c,.d (.fn a b)] (.i R)):=⟨λ_ _ _ _ _ h_p1 h=>uH func208⟩
instance:CS prog 188 (∀(c:Γ Ab)(d:Ab->Δ Ω)(a:FuncId)(b:Γ D)(R:Ω)(h_p1:∀(a0:Ab) r,d a0=some r->A9 prog a ([.d (Af a0)]++b.map .d) (.b r))(h:AD c d=some R),A9 prog 188 [.l 2 Af c,.d (.fn a b)] (.b R)):=⟨λc d a b R h_p1 h=>by
 refine zaC func188 ?_;unfold AD at h;refine E5 h (λ_=>gE.h _ _ _ _ _ h_p1) λe h=>?_;exact Ah⟩
instance:ja 357 (W2 NI):=⟨λ_ _ _ h=>uH func357⟩
instance:CS prog 386 (∀(b a:Ab)(R:Ω)(h:ME b a=some R),A9 prog 386 [.d (Af b),.d (.ptr [(.j a.B),(.j a.H)])] (.b R)):=⟨λ_ _ _ h=>by unfold ME at h;exact uH func386⟩
instance{b c d}:LS (λa s=>Wi b c d a s) 42 [1,2,7,8] (λs=>[(9,.i s)]) [2] (λs=>[]):={}
instance:ja 346 (W2 Oh):=⟨λ_ _ _ h=>uH func346⟩
instance{b c d e}:LS (λa s=>Va b c d e a s) 41 [1,2,3,9,10] (λs=>[(11,.i s)]) [3] (λs=>[]):={}
instance:ja 347 (W3 Mi):=⟨λ_ _ _ _ h=>uH func347⟩
instance:ja 288 (W2 Oi):=⟨λ_ _ _ h=>uH func288⟩
instance:ja 193 (W1 I9):=⟨λ_ _ h=>by unfold I9 at h;exact uH func193⟩
def ce(d:Nat)(b:Aa->Ag->Δ Ω)(ih:W2 b prog 185)(a:Ag->Aa->Δ Ω)(ih1:∀(g:Ag)(j:Aa)(R:Ω) ,a g j=θ R->A9 prog 290 [.d (AF g),.d (.ptr [(Aq 2 Ak j.S),(Aq 7 Aw j.A)])] (.b R)):W2 (JI d b a) prog 185:=by
 intro g l R h;refine TC [4] func185 ?_;unfold JI at h;refine E5 h (λ_=>YaU.h _ _) λi h=>?_;refine Dd {p:Unit//LB i d g l a=θ R} (λp=>C9 61 [(2,.ptr 2 1 0),(3,.ptr 3 1 0),(5,.ptr 5 1 0)] [(2,AI g,1),(3,GE l,1),(5,cI i.1,1)]) ?_ λp=>?_
 ·exact Ah
 obtain⟨_,h⟩:=p;simp only[LB]at h;refine Dn h (λh=>?_) λh=>?_
 ·refine E5 h (λ_=>YaI.h _ _ _ _) λm h=>?_;refine uJ h λh=>?_
  refine Dn h (λh=>?_) λh=>?_
  ·refine By h λk e h=>?_;refine BU (YaI.h _ _ _ _ e) ?_;refine uJ h λh=>?_
   conv=>whnf
   refine By h λf c h=>?_;refine BU (HP.h _ _ c) ?_;refine uJ h λh=>?_
   exact z23
  refine By h λf c h=>?_;refine BU (HP.h _ _ c) ?_;refine uJ h λh=>?_
  exact z23
 refine Dn h (λh=>?_) λh=>?_
 ·refine By h λk e h=>?_;refine BU (YaI.h _ _ _ _ e) ?_;refine uJ h λh=>?_
  conv=>whnf
  refine By h λf c h=>?_;refine BU (HP.h _ _ c) ?_;refine uJ h λh=>?_
  exact z23
 refine By h λf c h=>?_;refine BU (HP.h _ _ c) ?_;refine uJ h λh=>?_
 exact z23
def Yq(d:Nat)(b:Aa->Ag->Δ Ω)(ih:W2 b prog 185)(a:Ag->Aa->Δ Ω)(ih1:∀(e:Ag)(c:Aa)(R:Ω) ,a e c=θ R->A9 prog 290 [.d (AF e),.d (.ptr [(Aq 2 Ak c.S),(Aq 7 Aw c.A)])] (.b R))(e:Ag)(c:Aa)(R:Ω)(h:GP d b a e c=θ R):A9 prog 290 [.d (AF e),.d (.ptr [(Aq 2 Ak c.S),(Aq 7 Aw c.A)])] (.b R):=by
 refine zaC func290 ?_;unfold GP at h;exact Ah
theorem EA:∀d:Nat,(W2 (Gu d) prog 185)/\(∀(b:Ag)(a:Aa)(R:Ω) ,Dr d b a=θ R->A9 prog 290 [.d (AF b),.d (.ptr [(Aq 2 Ak a.S),(Aq 7 Aw a.A)])] (.b R))
 | 0=>by
  refine⟨?_,?_⟩<;>((repeat intro _);rename_i h;cases h)
 | d+1=>by
  have ih:=EA d;exact⟨ce d _ (ih).1 _ (ih).2,Yq d _ (ih).1 _ (ih).2⟩
instance:jb 185 W2 Gu:=⟨λd=>(EA d).1⟩
instance:CS prog 290 (∀(d:Nat),∀(b:Ag)(a:Aa)(R:Ω) ,Dr d b a=θ R->A9 prog 290 [.d (AF b),.d (.ptr [(Aq 2 Ak a.S),(Aq 7 Aw a.A)])] (.b R)):=⟨λd=>(EA d).2⟩
instance Yar:jb 111 W2 Eg:=⟨λ_ _ _ _ h=>uH func111⟩
def cd(d:Nat)(b:Ag->(Θ->Δ Ω)->Δ Ω)(ih:∀(f:Ag)(j:Θ->Δ Ω)(c:FuncId)(e:Γ D)(R:Ω)(h_p1:∀(a0:Θ) r,j a0=θ r->A9 prog c ([.t a0]++e.map .d) (.b r)),b f j=θ R->A9 prog 112 [.d (AF f),.d (.fn c e)] (.b R))(a:Ag->(Θ->Δ Ω)->Δ Ω)(ih1:∀(f:Ag)(k:Θ->Δ Ω)(g:FuncId)(i:Γ D)(R:Ω)(l:∀(a0:Θ) r,k a0=θ r->A9 prog g ([.t a0]++i.map .d) (.b r)),a f k=θ R->A9 prog 187 [.d (AF f),.d (.ptr [.fn g i])] (.b R))(f:Ag)(j:Θ->Δ Ω)(c:FuncId)(e:Γ D)(R:Ω)(h_p1:∀(a0:Θ) r,j a0=θ r->A9 prog c ([.t a0]++e.map .d) (.b r))(h:JH d b a f j=θ R):A9 prog 112 [.d (AF f),.d (.fn c e)] (.b R):=by
 refine zaC func112 ?_;unfold JH at h;refine Dn h (λh=>?_) λh=>?_
 ·conv=>whnf
  rw[ZI];refine E5 h (λ_=>h_p1 _ _) λm h=>?_;refine uJ h λh=>?_
  conv=>whnf
  exact z39
 exact z39
def Yp(d:Nat)(b:Ag->(Θ->Δ Ω)->Δ Ω)(ih:∀(g:Ag)(m:Θ->Δ Ω)(i:FuncId)(j:Γ D)(R:Ω)(h_p1:∀(a0:Θ) r,m a0=θ r->A9 prog i ([.t a0]++j.map .d) (.b r)),b g m=θ R->A9 prog 112 [.d (AF g),.d (.fn i j)] (.b R))(a:Ag->(Θ->Δ Ω)->Δ Ω)(ih1:∀(g:Ag)(k:Θ->Δ Ω)(c:FuncId)(e:Γ D)(R:Ω)(f:∀(a0:Θ) r,k a0=θ r->A9 prog c ([.t a0]++e.map .d) (.b r)),a g k=θ R->A9 prog 187 [.d (AF g),.d (.ptr [.fn c e])] (.b R))(g:Ag)(k:Θ->Δ Ω)(c:FuncId)(e:Γ D)(R:Ω)(f:∀(a0:Θ) r,k a0=θ r->A9 prog c ([.t a0]++e.map .d) (.b r))(h:GO d b a g k=θ R):A9 prog 187 [.d (AF g),.d (.ptr [.fn c e])] (.b R):=by
 refine zaC func187 ?_;unfold GO at h
 conv=>whnf
 refine By h λn l h=>?_
 first|refine BU (ih _ _ _ _ _ f l) ?_|(simp only[Zac];refine BU (ih _ _ _ _ _ f l) ?_)
 exact Ah
theorem E9:∀d:Nat,(∀(f:Ag)(g:Θ->Δ Ω)(a:FuncId)(b:Γ D)(R:Ω)(h_p1:∀(a0:Θ) r,g a0=θ r->A9 prog a ([.t a0]++b.map .d) (.b r)),Gt d f g=θ R->A9 prog 112 [.d (AF f),.d (.fn a b)] (.b R))/\(∀(f:Ag)(i:Θ->Δ Ω)(c:FuncId)(e:Γ D)(R:Ω)(j:∀(a0:Θ) r,i a0=θ r->A9 prog c ([.t a0]++e.map .d) (.b r)),Fu d f i=θ R->A9 prog 187 [.d (AF f),.d (.ptr [.fn c e])] (.b R))
 | 0=>by
  refine⟨?_,?_⟩<;>((repeat intro _);rename_i h;cases h)
 | d+1=>by
  have ih:=E9 d;exact⟨cd d _ (ih).1 _ (ih).2,Yp d _ (ih).1 _ (ih).2⟩
instance:CS prog 112 (∀(d:Nat),∀(c:Ag)(e:Θ->Δ Ω)(a:FuncId)(b:Γ D)(R:Ω)(h_p1:∀(a0:Θ) r,e a0=θ r->A9 prog a ([.t a0]++b.map .d) (.b r)),Gt d c e=θ R->A9 prog 112 [.d (AF c),.d (.fn a b)] (.b R)):=⟨λd=>(E9 d).1⟩
instance:CS prog 187 (∀(d:Nat),∀(c:Ag)(e:Θ->Δ Ω)(a:FuncId)(b:Γ D)(R:Ω)(f:∀(a0:Θ) r,e a0=θ r->A9 prog a ([.t a0]++b.map .d) (.b r)),Fu d c e=θ R->A9 prog 187 [.d (AF c),.d (.ptr [.fn a b])] (.b R)):=⟨λd=>(E9 d).2⟩
instance:jb 51 W3 IA:=⟨λ_ _ _ _ _ h=>uH func51⟩
instance{b c d e}:LS (λa s=>UY b c d e a s) 38 [1,2,18,19] (λs=>[(20,.i s)]) [2] (λs=>[]):={}
instance hH:jb 23 W2 JZ:=⟨λ_ _ _ _ h=>uH func23⟩
instance:CS prog 190 (∀(b a:Ab)(R:Ω)(h:Gj b a=θ R),A9 prog 190 [.d (Af b),.d (.ptr [(.j a.B),(.j a.H)])] (.b R)):=⟨λ_ _ _ h=>by unfold Gj at h;exact uH func190⟩
instance:CS prog 189 (∀(a:Ab)(b:Γ Ab)(R:Ω)(h:Iq a b=θ R),A9 prog 189 [.d (Af a),.d (.ptr [(Aq 2 Af b)])] (.b R)):=⟨λ_ _ _ h=>uH func189⟩
instance vz:ja 113 (W2 CU):=⟨λ_ _ _ h=>uH func113⟩
instance{b c d}:LS (λa s=>Ja b c d a s.1 s.2) 34 [3,22,23] (λs=>[(24,.i s.1)]) [] (λs=>[(3,.row 6 53 (List.map A8 s.2),1)]):={}
def YZ(d:Nat)(a:Ae->Δ (Γ Ae))(ih:W1 a prog 197):W1 (Hs d a) prog 197:=by
 intro b R h;refine zaC func197 ?_;unfold Hs at h;exact Ah
theorem SP:∀d:Nat,W1 (Hc d) prog 197
 | 0=>by exact z20
 | d+1=>YZ d _ (SP d)
instance:jb 197 W1 Hc:=⟨SP⟩
instance:ja 351 (W1 ER):=⟨λ_ _ h=>uH func351⟩
instance:ja 352 (W3 QI):=⟨λ_ _ _ _ h=>uH func352⟩
instance ke:ja 295 (W3 Ca):=⟨λ_ _ _ _ h=>uH func295⟩
instance:ja 296 (W2 J7):=⟨λ_ _ _ h=>uH func296⟩
instance:ja 297 (W2 FD):=⟨λ_ _ _ h=>by unfold FD at h;exact uH func297⟩
instance:ja 198 (W3 B7):=⟨λi j p2 R h=>by
 refine zaC func198 ?_;unfold B7 at h;refine Ry (f:=Aw) h λk _ h=>?_;refine Dn h (λh=>?_) λh=>?_
 ·refine Ry (f:=Ak) h λd _ h=>?_
  conv=>whnf
  refine z17 ?_;refine E5 h (λ_=>q9.h _ _) λl h=>?_;refine E5 h (λ_=>YaF.h _ _ _) λc h=>?_
  conv=>whnf
  refine z11 h (λp=>C9 134 [(2,.i p2),(3,.ptr 3 1 0),(4,.ptr 4 1 0),(8,.ptr 8 1 0),(9,.sl 34 1),(39,.l 1 D.z c),(40,.i (Ξ c:Int)),(41,.i p.1)] [(3,AI i,1),(4,LW j,1),(8,Pi d,1),(34,.map (xg .i64 D.z p.2),1)]) Bu λ_ _ ⟨e,a⟩ h=>?_;simp only[Ki]at h;refine Dn h (λh=>?_) λh=>?_
  ·refine Ry (f:=D.z) h λm _ h=>?_
   conv=>whnf
   refine z17 ?_;refine E5 h (λ_=>vp.h _ _ _ _) λb h=>?_;refine E5 h (λ_=>ke.h _ _ _ _) λg h=>?_
   conv=>whnf
   refine⟨⟨by kernel_rfl,UV .i64 D.z b a⟩,?_⟩
   conv=>whnf
   refine aA (f:=D.z) (es:=a) (z:=0) ?_;refine uJ h λh=>?_
   conv=>whnf
   refine⟨⟨by rfl,by kernel_rfl,UV .i64 D.z b a⟩,?_⟩
   conv=>whnf
   try rw[mn .i64 D.z b g]
   exact Ah
  exact Ah
 exact Ah⟩
instance{b c d}:LS (λa s=>Jb b c d a s.1 s.2) 63 [2,5,21,22] (λs=>[(23,.i s.1)]) [2] (λs=>[(19,.row 1 3 (List.map D.z s.2),1)]):={}
instance{b c d}:LS (λa s=>Nf b c d a s) 63 [2,5,7,21,22,23] (λs=>[(8,.i s)]) [2,7,19] (λs=>[]):={}
instance{b c}:LS (λa s=>Jc b c a s.1 s.2) 63 [9,46,47] (λs=>[(48,.i s.1)]) [19] (λs=>[(9,.row 2 113 (List.map Af s.2),1)]):={}
instance hU:jb 117 W2 CP:=⟨λ_ _ _ _ h=>uH func117⟩
instance{b c d}:LS (λa s=>PX b c d a s) 31 [2,7,16,17] (λs=>[(18,.i s)]) [] (λs=>[]):={}
instance Fm:ja 132 (W3 G5):=⟨λ_ _ _ _ h=>uH func132⟩
instance zk:ja 204 (W2 Ek):=⟨λ_ _ _ h=>uH func204⟩
instance:ja 348 (W3 FA):=⟨λ_ _ _ _ h=>uH func348⟩
instance{b c d}:LS (λa s=>JR b c d a s) 35 [1,3] (λs=>[(2,.i s)]) [3] (λs=>[]):={}
instance HN:ja 293 (W3 CO):=⟨λ_ _ _ _ h=>uH func293⟩
instance YaD:CS prog 292 (∀(b:Int)(c:Γ Ab)(a:Aa)(R:Γ Ab)(h:Es b c a=some R),cN prog 292 [.i b,.any,.d (.ptr [(Aq 2 Ak a.S),(Aq 7 Aw a.A)])] 1 2 113 (φ Af c) (φ Af R)):=⟨λb c a R h=>by
 refine Aem [] 0 func292 (by kernel_rfl) rfl rfl zs j0 rfl ?_;unfold Es at h
 conv=>whnf
 refine z17 ?_;refine E5 h (λ_=>zk.h _ _ _) λd h=>?_;refine E5 h (λ_=>HN.h _ _ _ _) λe h=>?_
 conv=>whnf
 refine SU h λhr h=>?_;refine z12 ?_
 try rw[VY]
 conv=>whnf
 obtain rfl:=Zaf h;exact⟨rfl,rfl,rfl,rfl,by first|rfl|(simp only[Zac];done)|(simp only[Zac];rfl)⟩⟩
instance:ja 191 (W2 Vl):=⟨λb a R h=>by
 refine Vp [8,19] func191 (by kernel_rfl) ?_;unfold Vl at h
 conv=>whnf
 refine⟨.inr ?_⟩;refine Dd {p:(Γ Ab)//Sv a b p=some R} (λp=>C9 78 [(2,.ptr 2 1 0),(3,.ptr 3 1 0),(5,.ptr 5 1 0),(6,.cc (some 292) [.sl 5 1,.d (.ptr [(Aq 2 Ak b.S),(Aq 7 Aw b.A)])])] [(2,.fvar [(Aq 2 Ak b.S),(Aq 7 Aw b.A)],1),(3,GE a,1),(5,.var [.sl 30 1],1),(30,.row 2 113 (φ Af p.1),1)]) ?_ λp=>?_
 ·conv=>whnf
  refine ED h λr s h=>?_;refine og [(5,0,30,113)] {p:Nat×(Int×(Γ Ab))//r p.1 p.2=some R} (λp=>C9 78 [(2,.ptr 2 1 0),(3,.ptr 3 1 0),(5,.ptr 5 1 0),(6,.cc (some 292) [.sl 5 1,.d (.ptr [(Aq 2 Ak b.S),(Aq 7 Aw b.A)])]),(13,.l 2 Af a.V),(14,.i (Ξ a.V:Int)),(15,.i p.1.2.1)] [(2,.fvar [(Aq 2 Ak b.S),(Aq 7 Aw b.A)],1),(3,GE a,1),(5,.var [.sl 30 1],1),(30,.row 2 113 (φ Af p.1.2.2),1)]) (λp=>p.1.1) ⟨(_,(_,_)),h⟩ ?_ λp=>?_
  ·conv=>whnf
   exact wW
  obtain⟨⟨t,⟨k,l⟩⟩,h⟩:=p;obtain⟨t,rfl,h⟩:=s _ _ h;simp only[Ss]at h;refine Dn h (λh=>?_) λh=>?_
  ·refine Ry (f:=Af) h λu _ h=>?_
   conv=>whnf
   refine z17 ?_;refine E5 h (λ_=>HN.h _ _ _ _) λv h=>?_
   conv=>whnf
   refine SU h λhr h=>?_;refine z12 ?_
   try rw[VY]
   conv=>whnf
   exact sP ⟨(_,(_,_)),h⟩ Bu
  exact z30
 obtain⟨m,h⟩:=p;simp only[Sv]at h;refine Dd {p:(Γ Ab)//BK a b p=some R} (λp=>C9 78 [(3,.ptr 3 1 0),(5,.ptr 5 1 0),(6,.cc (some 292) [.sl 5 1,.d (.ptr [(Aq 2 Ak b.S),(Aq 7 Aw b.A)])])] [(3,GE a,1),(5,.var [.sl 30 1],1),(30,.row 2 113 (φ Af p.1),1)]) ?_ λp=>?_
 ·conv=>whnf
  refine vQ h GK (λc h=>?_) (λc h=>?_)
  ·conv=>whnf
   refine yL GK c ?_;refine Dn h (λh=>?_) λh=>?_
   ·conv=>whnf
    exact z21
   exact z30
  conv=>whnf
  refine vQ h GK (λd h=>?_) (λd h=>?_)
  ·conv=>whnf
   refine yL GK d ?_;refine Dn h (λh=>?_) λh=>?_
   ·conv=>whnf
    exact z21
   exact z30
  conv=>whnf
  refine vQ h GK (λe h=>?_) (λe h=>?_)
  ·conv=>whnf
   refine yL GK e ?_;refine Dn h (λh=>?_) λh=>?_
   ·conv=>whnf
    exact z21
   exact z30
  conv=>whnf
  refine vQ h GK (λg h=>?_) (λg h=>?_)
  ·conv=>whnf
   refine yL GK g ?_;refine Dn h (λh=>?_) λh=>?_
   ·conv=>whnf
    exact z21
   exact z30
  conv=>whnf
  refine vQ h GK (λi h=>?_) (λi h=>?_)
  ·conv=>whnf
   refine yL GK i ?_;refine Dn h (λh=>?_) λh=>?_
   ·conv=>whnf
    exact z21
   exact z30
  refine Dn h (λh=>?_) λh=>?_
  ·refine Dn h (λh=>?_) λh=>?_
   ·conv=>whnf
    exact z21
   exact z30
  refine Dn h (λh=>?_) λh=>?_
  ·conv=>whnf
   refine z17 ?_;refine E5 h (λ_=>Fm.h _ _ _ _) λw h=>?_;refine E5 h (λ_=>HN.h _ _ _ _) λx h=>?_
   conv=>whnf
   refine SU h λhr h=>?_;refine z12 ?_
   try rw[VY]
   exact z30
  exact z30
 obtain⟨n,h⟩:=p;simp only[BK]at h
 conv=>whnf
 refine z11 h (λp=>C9 78 [(5,.ptr 5 1 0),(6,.cc (some 292) [.sl 5 1,.d (.ptr [(Aq 2 Ak b.S),(Aq 7 Aw b.A)])]),(67,.l 1 D.z a.A),(68,.i (Ξ a.A:Int)),(69,.i p.1)] [(5,.var [.sl 30 1],1),(30,.row 2 113 (φ Af p.2),1)]) Bu λ_ _ ⟨o,q⟩ h=>?_;simp only[Su]at h;refine Dn h (λh=>?_) λh=>?_
 ·refine Ry (f:=D.z) h λy _ h=>?_
  conv=>whnf
  refine By h λz j h=>?_;refine da (YaD.h _ _ _ _ j) ?_
  conv=>whnf
  exact sP ⟨(_,(_,_)),h⟩ Bu
 conv=>whnf
 obtain rfl:=Zaf h;refine⟨.inl ?_⟩
 conv=>whnf
 exact⟨Kz⟩⟩
instance:ja 192 (W1 JJ):=⟨λj R h=>by
 refine zaC func192 ?_;unfold JJ at h
 conv=>whnf
 refine z11 h (λp=>C9 59 [(3,.sl 11 1),(4,.i p.1),(12,.l 1 (Aq 2 Af) j),(13,.i (Ξ j:Int)),(14,.i p.2.1)] [(11,.map (xg .i64 D.z p.2.2),1)]) CC λ_ _ ⟨g,e,a⟩ h=>?_;simp only[Jm]at h;refine Dn h (λh=>?_) λh=>?_
 ·refine Ry (f:=(Aq 2 Af)) h λi _ h=>?_
  conv=>whnf
  refine z11 h (λp=>C9 59 [(3,.sl 11 1),(4,.i p.1),(12,.l 1 (Aq 2 Af) j),(13,.i (Ξ j:Int)),(14,.i e),(18,.l 2 Af i),(19,.i (Ξ i:Int)),(20,.i p.2.1)] [(11,.map (xg .i64 D.z p.2.2),1)]) CC λ_ _ ⟨l,k,b⟩ h=>?_;simp only[Jn]at h;refine Dn h (λh=>?_) λh=>?_
  ·refine Ry (f:=Af) h λc _ h=>?_
   conv=>whnf
   refine z17 ?_
   conv=>whnf
   refine⟨⟨by kernel_rfl,UV .i64 D.z c.B b⟩,?_⟩
   conv=>whnf
   refine aA (f:=D.z) (es:=b) (z:=0) ?_
   conv=>whnf
   refine⟨⟨by rfl,by kernel_rfl,UV .i64 D.z c.B b⟩,?_⟩
   conv=>whnf
   try rw[mn .i64 D.z c.B (if c.H>((NZ c.B b).getD 0)then c.H else((NZ c.B b).getD 0))]
   exact Ah
  exact Ah
 conv=>whnf
 refine z11 h (λp=>C9 59 [(3,.sl 11 1),(9,.sl 9 1),(41,.i (IntKind.i64.wrap (g+1))),(42,.i p.1)] [(9,.row 2 113 (φ Af p.2),1),(11,.map (xg .i64 D.z a),1)]) CC λ_ _ ⟨d,m⟩ h=>?_;simp only[Jo]at h;refine Dn h (λh=>?_) λh=>?_
 ·conv=>whnf
  refine⟨⟨by kernel_rfl,UV .i64 D.z d a⟩,?_⟩
  conv=>whnf
  refine aA (f:=D.z) (es:=a) (z:=0) ?_;refine Dn h (λh=>?_) λh=>?_
  ·conv=>whnf
   refine⟨⟨by kernel_rfl,UV .i64 D.z d a⟩,?_⟩
   conv=>whnf
   refine aA (f:=D.z) (es:=a) (z:=0) ?_;exact Ah
  exact Ah
 exact Ah⟩
instance{b c d e}:LS (λa s=>Ph b c d e a s.1 s.2) 36 [2,5,21,22] (λs=>[(23,.i s.1)]) [2] (λs=>[(19,.row 1 24 (φ (Aq 2 Af) s.2),1)]):={}
def iw(d:Nat)(a:Aa->Ag->Δ (Γ Ab))(ih:W2 a prog 114):W2 (M2 d a) prog 114:=by
 intro b c R h;refine zaC func114 ?_;unfold M2 at h;exact Ah
theorem XF:∀d:Nat,W2 (IX d) prog 114
 | 0=>by exact z20
 | d+1=>iw d _ (XF d)
instance:jb 114 W2 IX:=⟨XF⟩
instance{b c d e}:LS (λa s=>QB b c d e a s.1 s.2) 70 [0,3,13,14] (λs=>[(6,.b s.1),(15,.i s.2)]) [3] (λs=>[]):={}
instance{b c d}:LS (λa s=>QC b c d a s) 70 [0,3] (λs=>[(11,.i s)]) [3] (λs=>[]):={}
def ji(d:Nat)(a:(Γ Ar)->Ag->Δ (Int×Int))(ih:W2 a prog 115):W2 (Gr d a) prog 115:=by
 intro b c R h;refine TC [10] func115 ?_;unfold Gr at h;refine Dd {p:Ω//Kh c b p=some R} (λp=>C9 70 [(0,.l 26 A2 b),(3,.ptr 3 1 0),(6,.b p.1)] [(3,GE c,1)]) ?_ λp=>?_
 ·exact Ah
 obtain⟨e,h⟩:=p;exact Ah
theorem YT:∀d:Nat,W2 (J3 d) prog 115
 | 0=>by exact z20
 | d+1=>ji d _ (YT d)
instance:jb 115 W2 J3:=⟨YT⟩
instance:jb 52 W4 TA:=⟨λ_ _ _ _ _ _ h=>uH func52⟩
instance{b c d e f}:LS (λa s=>LU b c d e f a s.1 s.2.1 s.2.2) 63 [1,2,3,11,12,27,28] (λs=>[(29,.i s.1)]) [3] (λs=>[(11,.row 1 3 (φ D.z s.2.1),1),(12,.row 26 74 (φ A2 s.2.2),1)]):={}
instance YaH:jb 24 W3 Il:=⟨λ_ _ _ _ _ h=>uH func24⟩
instance vD:ja 75 (W1 CB):=⟨λc R h=>by
 refine SU h λhr h=>?_;obtain rfl:=Zaf h;refine zaC func75 ?_
 conv=>whnf
 refine⟨λb d=>?_⟩
 cases b
 ·conv=>whnf
  refine z12 ?_;exact z38
 ·conv=>whnf
  have:c=[]:=by
   cases c with
   | nil=>rfl
   | cons a r=>exact absurd (d zs) zs
  subst this;refine⟨.inl ?_⟩
  conv=>whnf
  exact⟨rfl⟩⟩
instance Yba:CS prog 76 (∀(c R:Γ Ap)(h:Dq c=some R),A9 prog 76 [.l 7 A7 c] (.cc none [.own 7 140 (φ A7 R)])):=⟨λc R h=>by
 refine SU h λhr h=>?_;obtain rfl:=Zaf h;refine zaC func76 ?_
 conv=>whnf
 refine⟨λb d=>?_⟩
 cases b
 ·conv=>whnf
  refine z12 ?_
  conv=>whnf
  exact⟨rfl⟩
 ·conv=>whnf
  have:c=[]:=by
   cases c with
   | nil=>rfl
   | cons a r=>exact absurd (d zs) zs
  subst this;exact⟨rfl⟩⟩
instance Fd:ja 77 (W1 Fa):=⟨λc R h=>by
 refine SU h λhr h=>?_;obtain rfl:=Zaf h;refine zaC func77 ?_
 conv=>whnf
 refine⟨λb d=>?_⟩
 cases b
 ·conv=>whnf
  refine z12 ?_;exact z38
 ·conv=>whnf
  have:c=[]:=by
   cases c with
   | nil=>rfl
   | cons a r=>exact absurd (d zs) zs
  subst this;refine⟨.inl ?_⟩
  conv=>whnf
  exact⟨rfl⟩⟩
instance Yad:ja 78 (W1 Dp):=⟨λc R h=>by
 refine SU h λhr h=>?_;obtain rfl:=Zaf h;refine zaC func78 ?_
 conv=>whnf
 refine⟨λb d=>?_⟩
 cases b
 ·conv=>whnf
  refine z12 ?_;exact z38
 ·conv=>whnf
  have:c=[]:=by
   cases c with
   | nil=>rfl
   | cons a r=>exact absurd (d zs) zs
  subst this;refine⟨.inl ?_⟩
  conv=>whnf
  exact⟨rfl⟩⟩
instance Yaw:ja 79 (W1 FL):=⟨λc R h=>by
 refine SU h λhr h=>?_;obtain rfl:=Zaf h;refine zaC func79 ?_
 conv=>whnf
 refine⟨λb d=>?_⟩
 cases b
 ·conv=>whnf
  refine z12 ?_;exact z38
 ·conv=>whnf
  have:c=[]:=by
   cases c with
   | nil=>rfl
   | cons a r=>exact absurd (d zs) zs
  subst this;refine⟨.inl ?_⟩
  conv=>whnf
  exact⟨rfl⟩⟩
instance{b c d}:LS (λa s=>J1 b c d a s) 25 [0,7,8] (λs=>[(9,.i s)]) [] (λs=>[]):={}
instance hV:ja 212 (W2 DL):=⟨λa b R h=>by
 refine zaC Tryz.func212 ?_;unfold DL at h;exact Ah⟩
