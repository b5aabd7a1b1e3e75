/- WH -/
import Derived.Test.YthifolbledpmkaaGreatDoorWD
import Derived.Test.YthifolbledpmkaaGreatDoorW0
import Derived.WalkKit
import Derived.Deep.OwnRows
open List renaming map → φ
open Go.Proofs.Tryz
set_option linter.all false
namespace Go.Proofs.YthifolbledpmkaaGreatDoor.P
open Go Go.Abs Go.Proofs
set_option maxRecDepth 100000
set_option maxHeartbeats 40000000
section
instance{b c d e f g h}:LS (λa s=>Qe b c d e f g h a s.1 s.2) 116 [1,2,3,4,5,13] (λs=>[(14,.i s.1),(15,.i s.2)]) [5] (λs=>[]):={}
def adT{ρ:Type}{b a:Ω}{x y:Prop}{E R:ρ}{Y:Δ ρ}(h:(bif a then Y else some E)=some R)(h2:Y=some R->x)(h1:some E=some R->y:=by intro h;cases h;(conv=>whnf);exact⟨by first|rfl|(simp only[Zac];done)|(simp only[Zac];rfl)⟩)(e:b=a:=by first|rfl|simp only[Zac,Zav,Zaq]):Bool.rec y x b:=YX h e h2 h1
def z4T{p:Prop}(h:p:=by(conv=>whnf);exact sP ⟨(_,(_,_)),h⟩ CC):p:=h
instance:ja 323 (W5 KP):=⟨λa b p2 p3 c R h=>by
 refine TC [3] func323 ?_;unfold KP at h;refine Dd {p:Unit//Qf a b p2 p3 c=some R} (λp=>C9 116 [(1,.i b),(2,.i p2),(3,.i p3),(4,.i c),(5,.ptr 5 1 0)] [(5,AI a,1)]) ?_ λp=>?_
 ·exact Ah
 obtain⟨_,h⟩:=p;simp only[Qf]at h;refine Ry (f:=Aw) h λn _ h=>?_;refine Dn h (λh=>?_) λh=>?_
 ·refine E5 h (λ_=>fv.h _ _ _) λd h=>?_
  conv=>whnf
  refine z11 h (λp=>C9 116 [(1,.i b),(2,.i p2),(3,.i p3),(4,.i c),(5,.ptr 5 1 0),(13,.l 1 D.z d),(14,.i p.1),(15,.i p.2)] [(5,AI a,1)]) CC λ_ _ ⟨e,g⟩ h=>?_;simp only[Qe]at h;refine adT h λh=>?_
  conv=>whnf
  refine z17 ?_;refine Ry (f:=D.z) h λo _ h=>?_;refine E5 h (λ_=>Ybc.h _ _ _ _ _) λq h=>?_;refine Dn h (λh=>?_) λh=>?_
  ·exact z4T
  conv=>whnf
  refine z17 ?_;refine Ry (f:=D.z) h λr _ h=>?_;refine E5 h (λ_=>Ybc.h _ _ _ _ _) λs h=>?_;refine Wc h λh=>?_;exact z4T
 refine Wc h λh=>?_;refine Wc h λh=>?_;refine Wc h λh=>?_;refine E5 h (λ_=>yd.h _ _ _ _) λt h=>?_;exact Ah⟩
instance{b c d e f g}:LS (λa s=>FJ b c d e f g a s) 75 [2,3,4,5,6] (λs=>[(12,.i s)]) [5,6] (λs=>[]):={}
instance Yax:ja 252 (W5 Cz):=⟨λ_ _ _ _ _ _ h=>uH func252⟩
instance{b c d e f g}:LS (λa s=>U2 b c d e f g a s) 62 [1,2,3,4,10] (λs=>[(11,.i s)]) [4] (λs=>[]):={}
instance:ja 383 (W4 Ew):=⟨λ_ _ _ _ _ h=>uH func383⟩
instance{b c d e}:LS (λa s=>JL b c d e a s.1 s.2.1 s.2.2) 82 [2,3,4,5] (λs=>[(9,.i s.1),(10,.i s.2.1),(11,.i s.2.2)]) [4,5] (λs=>[]):={}
instance{b c d e f g}:LS (λa s=>EW b c d e f g a s.1 s.2) 82 [2,3,4,5,12] (λs=>[(13,.i s.1)]) [4,5] (λs=>[(12,.row 1 3 (φ D.z s.2),1)]):={}
def eo(d:Nat)(a:Aa->Ae->(Γ Ab)->(Γ Int)->Δ Int)(ih:W4 a prog 329):W4 (Cy d a) prog 329:=by
 intro b c p2 p3 R h;have ih:=λp {q r s R} h=>ih p q r s R h
 refine zaC func329 ?_;unfold Cy at h;exact Ah
theorem Wj:∀d:Nat,W4 (B9 d) prog 329
 | 0=>by exact z20
 | d+1=>eo d _ (Wj d)
instance:jb 329 W4 B9:=⟨Wj⟩
instance{b c d e}:LS (λa s=>MH b c d e a s) 63 [2,3,4,5] (λs=>[(9,.i s)]) [4,5] (λs=>[]):={}
instance:jb 258 W4 Jp:=⟨λd a b p2 p3 R h=>by
 refine TC [3] func258 ?_;unfold Jp at h;refine Dd {p:Unit//Rs p2 p3 a d b=some R} (λp=>C9 63 [(2,.l 2 Af p2),(3,.l 1 D.z p3),(4,.ptr 4 1 0),(5,.ptr 5 1 0)] [(4,AI a,1),(5,LW b,1)]) ?_ λp=>?_
 ·exact Ah
 obtain⟨_,h⟩:=p;exact Ah⟩
instance{b c d e f g}:LS (λa s=>Hk b c d e f g a s.1 s.2) 75 [3,4,5,6,9] (λs=>[(10,.i s.1)]) [4,5,6] (λs=>[(9,.row 1 3 (φ D.z s.2),1)]):={}
instance{b c d e f}:LS (λa s=>MN b c d e f a s.1 s.2) 75 [3,4,5,6,9,10] (λs=>[(11,.b s.1),(12,.i s.2)]) [4,5,6,9] (λs=>[]):={}
instance Yab:jb 250 W4 Dl:=⟨λ_ _ _ _ _ _ h=>uH func250⟩
instance{b c d}:LS (λa s=>YM b c d a s.1 s.2) 27 [1,2,5] (λs=>[(6,.i s.1)]) [2] (λs=>[(5,.row 1 3 (φ D.z s.2),1)]):={}
instance:ja 251 (W2 Jt):=⟨λ_ _ _ h=>uH func251⟩
attribute [local irreducible] IE E2 Tn Gy IS KR PK Ox BG
instance:ja 373 (W1 IE):=⟨λ_ _ h=>by unfold IE at h;exact uH func373⟩
instance:ja 374 (W2 E2):=⟨λe f R h=>by
 refine zaC func374 ?_;unfold E2 at h
 conv=>whnf
 refine By h λc a h=>?_;refine ZG (Uc _ _ _ _ a) ?_
 conv=>whnf
 refine By h λd b h=>?_;refine ZG (Uc _ _ _ _ b) ?_;exact Ah⟩
instance:ja 375 (W1 Tn):=⟨λ_ _ h=>by unfold Tn at h;exact uH func375⟩
instance:ja 378 (W2 Gy):=⟨λ_ _ _ h=>by unfold Gy at h;exact uH func378⟩
instance:ja 394 (W1 IS):=⟨λ_ _ h=>by unfold IS at h;exact uH func394⟩
instance{b c d}:LS (λa s=>YH b c d a s.1 s.2.1 s.2.2) 51 [2,3,4,5,6,7] (λs=>[(8,.i s.1)]) [2,3,4,5] (λs=>[(6,.var [.d (.int .u64 s.2.1.E),.d (.int .u64 s.2.1.C)],1),(7,.var [.d (.int .u64 s.2.2.E),.d (.int .u64 s.2.2.C)],1)]):={}
instance:ja 377 (W2 KR):=⟨λ_ _ _ h=>by unfold KR at h;exact uH func377⟩
instance:ja 382 (W1 PK):=⟨λ_ _ h=>by unfold PK at h;exact uH func382⟩
instance{b}:LS (λa s=>Wk b a s.1 s.2) 19 [2,3,4] (λs=>[]) [4] (λs=>[(2,.var [.d (.int .u64 s.1.E),.d (.int .u64 s.1.C)],1),(3,.var [.d (.int .u64 s.2.E),.d (.int .u64 s.2.C)],1)]):={}
instance:ja 376 (W2 Ox):=⟨λ_ _ _ h=>by unfold Ox at h;exact uH func376⟩
instance:ja 324 (W2 DO):=⟨λc d R h=>by
 refine TC [3] func324 ?_;unfold DO at h;refine Dd {p:(Au×Au)//JM p.1 p.2=some R} (λp=>C9 63 [(2,.ptr 2 1 0),(3,.ptr 3 1 0),(4,.ptr 4 1 0)] [(2,.var [.d (.int .u64 p.1.1.E),.d (.int .u64 p.1.1.C)],1),(3,.var [.d (.int .u64 p.1.2.E),.d (.int .u64 p.1.2.C)],1),(4,.var [.i 0,.i 0],1)]) ?_ λp=>?_
 ·exact Ah
 obtain⟨⟨a,b⟩,h⟩:=p;exact Ah⟩
instance:ja 325 (W1 BG):=⟨λ_ _ h=>by unfold BG at h;exact uH func325⟩
instance:ja 253 (W2 QY):=⟨λ_ _ _ h=>uH func253⟩
instance{b c d e f}:LS (λa s=>MQ b c d e f a s.1 s.2) 87 [3,4,5,6,9,10] (λs=>[(11,.i s.1),(12,.i s.2)]) [3,4,5,6] (λs=>[]):={}
instance:jb 151 W3 Dm:=⟨λd a b p2 R h=>by
 refine TC [4] func151 ?_;unfold Dm at h;refine Dd {p:(Γ Int)//Hl d a b p2 p=some R} (λp=>C9 87 [(3,.ptr 3 1 0),(4,.ptr 4 1 0),(5,.ptr 5 1 0),(6,.ptr 6 1 0),(8,.sl 8 1)] [(3,AI a,1),(4,Du b,1),(5,GE p2,1),(6,.var zAV,1),(8,.row 1 3 (φ D.z p.1),1)]) ?_ λp=>?_
 ·exact Ah
 obtain⟨c,h⟩:=p;exact Ah⟩
def emptyS {O : Nat → Prop} {w : Λ} {u : Ψ} {sz : Nat} (h : A5 O w u (.list sz [])) : ∃ a c, u = .slice a 0 c := by
  generalize hq : D.list sz [] = q at h
  cases h <;> cases hq
  · exact ⟨_, _, rfl⟩
  · exact absurd rfl (by assumption)
def lists0_w (a : Aa) : A9 prog 254 [.d (Cr a), .d (Aq 2 Af [])] (.d (Aq 1 (Aq 1 D.z) [[]])) := by
  refine ⟨by kernel_rfl, fun O w vs hO hG hlen hargs => ?_⟩
  obtain ⟨v, u, rfl⟩ : ∃ v u, vs = #[v, u] := by
    obtain ⟨l⟩ := vs
    match l, hlen with
    | [v, u], _ => exact ⟨v, u, rfl⟩
  obtain ⟨ga, gc, rfl⟩ := emptyS (hargs 1 u _ rfl rfl)
  have hv : A5 O w v (Cr a) := hargs 0 v _ rfl rfl
  obtain ⟨x, y, rfl⟩ : ∃ x y, v = .agg #[x, y] := by
    generalize hq : Cr a = q at hv
    cases hv <;> cases hq
    rename_i vs h0 h1 h2
    obtain ⟨l⟩ := vs
    match l, h2 with
    | [x, y], _ => exact ⟨x, y, rfl⟩
  clear hv hargs
  go_enter func254, ntmps254
  go_wp2
  go_ret
  refine ⟨_, rfl, ((RowKit.Below.refl _ _).alloc (Nat.le_refl _) _).alloc (by simp) _, ?_⟩
  have at0 : ∀ {i j : Nat} {x y : D}, [D.list 1 []][i]? = some x → x.cells[j]? = some y → i = 0 ∧ j = 0 ∧ y = .list 1 [] := by
    intro i j x y hx hy
    cases i with
    | zero=>
      obtain rfl := Option.some.inj hx
      cases j with
      | zero => exact ⟨rfl, rfl, (Option.some.inj hy).symm⟩
      | succ j => simp [D.cells] at hy
    | succ i => simp at hx
  refine A5.list _ _ _ 1 [D.list 1 []] (fun _ _ => .slice none 0 0) (by simp) (by simp) (fun h => by have := hO _ h; omega) (by simp) (fun x hx => by simp at hx; subst hx; rfl) (fun x hx y hy => by simp at hx; subst hx; simp [D.cells] at hy; subst hy; rfl) (fun i x j y hx hy => ?_) (fun i x j y hx hy => ?_)
  · obtain ⟨rfl, rfl, _⟩ := at0 hx hy
    exact World.cell?_alloc_at _ _ _ _ (by simp)
  · obtain ⟨_, _, rfl⟩ := at0 hx hy
    exact .emp _ _ _
def gV(d:Nat)(a:Aa->(Γ Ab)->Δ (Γ (Γ Int)))(ih:W2 a prog 254):W2 (My d a) prog 254:=by
 intro r s R h
 by_cases hz:s=[]
 ·subst hz;have h:some [[]]=some R:=h
  obtain rfl:=Option.some.inj h;exact lists0_w r
 refine zaC func254 ?_;unfold My at h;refine uE h (λg h=>?_) λ_ h=>?_
 ·exact absurd (by simpa using g) hz
 conv=>whnf
 refine z17 ?_
 conv=>whnf
 refine SU h λhr h=>?_;refine z15 ?_
 try simp only[Zac]
 rw[mU]
 conv=>whnf
 refine By h λc b h=>?_
 first|refine BU (ih _ _ _ b) ?_|(simp only[Zac];refine BU (ih _ _ _ b) ?_)
 conv=>whnf
 refine z17 ?_;refine Ry (f:=Af) h λl _ h=>?_;refine Ry (f:=Aw) h λm _ h=>?_;refine Ry (f:=Ak) h λn _ h=>?_;refine Ry (f:=Af) h λo _ h=>?_;refine E5 h (λ_=>vq.h _ _ _) λe h=>?_
 conv=>whnf
 refine SU h λhr h=>?_;refine z12 ?_
 try rw[iQ]
 conv=>whnf
 refine z11 h (λp=>C9 64 [(5,.l 1 (Aq 1 D.z) c),(6,.sl 18 1),(7,.sl 7 1),(8,.i p.1)] [(7,.row 1 35 (φ (Aq 1 D.z) p.2),1),(18,.row 1 3 (φ D.z ([(-1)]++e)),1)]) CC λ_ _ ⟨g,i⟩ h=>?_;simp only[ON]at h;refine Dn h (λh=>?_) λh=>?_
 ·conv=>whnf
  refine z11 h (λp=>C9 64 [(5,.l 1 (Aq 1 D.z) c),(6,.sl 18 1),(7,.sl 7 1),(8,.i g),(9,.i p.1)] [(7,.row 1 35 (φ (Aq 1 D.z) p.2),1),(18,.row 1 3 (φ D.z ([(-1)]++e)),1)]) CC λ_ _ ⟨j,k⟩ h=>?_;simp only[OP]at h;refine Dn h (λh=>?_) λh=>?_
  ·conv=>whnf
   refine z17 ?_;refine T4 (f:=D.z) h GK λx53 hx53 h=>?_;refine fk (f:=D.z) hx53 GK ?_;refine Ry (f:=(Aq 1 D.z)) h λq _ h=>?_
   conv=>whnf
   refine SU h λhr h=>?_;refine z12 ?_
   try rw[iQ]
   exact Ah
  exact Ah
 exact Ah
theorem X3:∀d:Nat,W2 (NF d) prog 254
 | 0=>by exact z20
 | d+1=>gV d _ (X3 d)
instance fu:jb 254 W2 NF:=⟨X3⟩
end
section
open Go.Abs Go.Proofs
instance{b c d e}:LS (λa s=>Qt b c d e a s.1 s.2) 103 [0,1,4,5,6] (λs=>[(7,.b s.1),(8,.i s.2)]) [4,5,61] (λs=>[]):={}
instance XC:ja 255 (W2 Tv):=⟨λj i R h=>by
 refine TC [10] func255 ?_;unfold Tv at h
 conv=>whnf
 refine ED h λk n h=>?_;refine og [(5,6,61,3)] {p:Nat×(Int×Int×Int×Int×Int×Int×(Γ Int))//k p.1 p.2=some R} (λp=>C9 103 [(0,.l 3 EI j),(1,.l 1 D.z i),(4,.ptr 4 1 0),(5,.ptr 5 1 0),(6,.i p.1.2.1)] [(4,.var [.n 1,.i 0,.i 0,.i 0,.i 0,.i 0,.n 1],1),(5,.var [.l 1 D.z i,.i p.1.2.2.1,.i p.1.2.2.2.1,.i p.1.2.2.2.2.1,.i p.1.2.2.2.2.2.1,.i p.1.2.2.2.2.2.2.1,.sl 61 1],1),(61,.row 1 3 (φ D.z p.1.2.2.2.2.2.2.2),1)]) (λp=>p.1.1) ⟨(_,(_,_,_,_,_,_,_)),h⟩ ?_ λp=>?_
 ·conv=>whnf
  exact lfF
 obtain⟨⟨l,⟨g,a,b,c,d,e,f⟩⟩,h⟩:=p;obtain⟨l,rfl,h⟩:=n _ _ h;simp only[Qs]at h;refine Dn h (λh=>?_) λh=>?_
 ·refine Dd {p:Ω//Qu (k l) g a b c d e f j p=some R} (λp=>C9 103 [(0,.l 3 EI j),(1,.l 1 D.z i),(4,.ptr 4 1 0),(5,.ptr 5 1 0),(6,.i g),(7,.b p.1)] [(4,.var [.n 1,.i 0,.i 0,.i 0,.i 0,.i 0,.n 1],1),(5,.var [.l 1 D.z i,.i a,.i b,.i c,.i d,.i e,.sl 61 1],1),(61,.row 1 3 (φ D.z f),1)]) ?_ λp=>?_
  ·exact Ah
  obtain⟨m,h⟩:=p;exact Ah
 exact Ah⟩
def zq28m{p:Prop}(h:p:=by(conv=>whnf);exact⟨⟨_,h⟩,Bu⟩):p:=h
def zq34m{p:Prop}(h:p:=by(conv=>whnf);exact sP ⟨(_,(_,_)),h⟩ Bu):p:=h
instance:jb 152 W5 Nr:=⟨λd c a p2 p3 b R h=>by
 refine Vp [14,20] func152 (by kernel_rfl) ?_;unfold Nr at h;refine E5 h (λ_=>YaM.h _ _ _) λG h=>?_;refine Ky h λh=>?_;refine E5 h (λ_=>fS.h _ _ _ _) λH h=>?_;refine Ky h λh=>?_
 conv=>whnf
 refine z17 ?_;refine E5 h (λ_=>YaC.h _ _ _ _) λI h=>?_;refine E5 h (λ_=>k9.h _ _ _) λJ h=>?_;refine Ky h λh=>?_;refine Dd {p:Int//Qq p3 d c a b p2 p=some R} (λp=>C9 193 [(2,.l 2 Af p2),(3,.i p3),(5,.ptr 5 1 0),(6,.ptr 6 1 0),(9,.ptr 9 1 0),(10,.ptr 10 1 0),(14,.i p.1)] [(5,AI c,1),(6,Du a,1),(9,LW b,1),(10,.var zTV,1)]) ?_ λp=>?_
 ·conv=>whnf
  refine z11 h (λp=>C9 193 [(2,.l 2 Af p2),(3,.i p3),(5,.ptr 5 1 0),(6,.ptr 6 1 0),(9,.ptr 9 1 0),(10,.ptr 10 1 0),(14,.i p.1),(15,.i p.2)] [(5,AI c,1),(6,Du a,1),(9,LW b,1),(10,.var zTV,1)]) Bu λ_ _ ⟨n,o⟩ h=>?_;simp only[Qm]at h;refine Dn h (λh=>?_) λh=>?_
  ·conv=>whnf
   refine z17 ?_;refine Ry (f:=Af) h λK _ h=>?_;refine Ry (f:=Aw) h λL _ h=>?_;refine Ry (f:=Ak) h λM _ h=>?_;refine Ry (f:=Af) h λN _ h=>?_;refine E5 h (λ_=>vq.h _ _ _) λO h=>?_;exact zq34m
  conv=>whnf
  try simp only[Ke,Kf]at h
  exact⟨⟨_,h⟩,Bu⟩
 obtain⟨q,h⟩:=p;simp only[Qq]at h;refine Ky h λh=>?_;refine Dd {p:(Γ Int)//Kd d c a b p2 p3 p=some R} (λp=>C9 193 [(2,.l 2 Af p2),(3,.i p3),(5,.ptr 5 1 0),(6,.ptr 6 1 0),(9,.ptr 9 1 0),(10,.ptr 10 1 0),(16,.ptr 16 1 0),(17,.sl 17 1)] [(5,AI c,1),(6,Du a,1),(9,LW b,1),(10,.var zTV,1),(16,.var [.l 2 Af p2,.i p3,.n 7],1),(17,.row 1 3 (φ D.z p.1),1)]) ?_ λp=>?_
 ·refine Dn h (λh=>?_) λh=>?_
  ·conv=>whnf
   refine SU h λhr h=>?_;refine z12 ?_
   try rw[ym]
   exact zq28m
  exact zq28m
 obtain⟨r,h⟩:=p;simp only[Kd]at h;refine E5 h (λ_=>Yab.h _ _ _ _ _ _) λg h=>?_
 conv=>whnf
 refine z11 h (λp=>C9 193 [(2,.l 2 Af p2),(3,.i p3),(5,.ptr 5 1 0),(6,.ptr 6 1 0),(10,.ptr 10 1 0),(16,.ptr 16 1 0),(18,.l 1 D.z g),(19,.sl 19 1),(20,.i p.1)] [(5,AI c,1),(6,Du a,1),(10,.var zTV,1),(16,.var [.l 2 Af p2,.i p3,.n 7],1),(19,.row 3 300 (φ EI p.2),1)]) Bu λ_ _ ⟨i,e⟩ h=>?_;simp only[Qn]at h;refine Dn h (λh=>?_) λh=>?_
 ·conv=>whnf
  refine z17 ?_;refine Ry (f:=D.z) h λu _ h=>?_;refine Ry (f:=(Aq 1 D.z)) h λv _ h=>?_;refine Ry (f:=D.z) h λj _ h=>?_
  conv=>whnf
  refine ED h λP Q h=>?_;refine og [(21,2,149,3)] {p:Nat×(Int×(Γ Int))//P p.1 p.2=some R} (λp=>C9 193 [(2,.l 2 Af p2),(3,.i p3),(5,.ptr 5 1 0),(6,.ptr 6 1 0),(10,.ptr 10 1 0),(16,.ptr 16 1 0),(18,.l 1 D.z g),(19,.sl 19 1),(20,.i i),(21,.ptr 21 1 0),(22,.i p.1.2.1)] [(5,AI c,1),(6,Du a,1),(10,.var zTV,1),(16,.var [.l 2 Af p2,.i p3,.n 7],1),(19,.row 3 300 (φ EI e),1),(21,.var [.i j,.i 0,.sl 149 1],1),(149,.row 1 3 (φ D.z p.1.2.2),1)]) (λp=>p.1.1) ⟨(_,(_,_)),h⟩ ?_ λp=>?_
  ·conv=>whnf
   exact wW
  obtain⟨⟨S,⟨s,l⟩⟩,h⟩:=p;obtain⟨S,rfl,h⟩:=Q _ _ h;simp only[Qo]at h;refine Dn h (λh=>?_) λh=>?_
  ·conv=>whnf
   refine z17 ?_;refine Ry (f:=D.z) h λw _ h=>?_;refine Ry (f:=Af) h λx _ h=>?_;refine Ry (f:=Af) h λy _ h=>?_;refine E5 h (λ_=>Yax.h _ _ _ _ _ _) λz h=>?_
   conv=>whnf
   refine SU h λhr h=>?_;refine z12 ?_
   try rw[ym]
   exact zq34m
  conv=>whnf
  try simp only[Ke,Kf]at h
  refine Dn h (λh=>?_) λh=>?_
  ·conv=>whnf
   refine z17 ?_;refine Ry (f:=D.z) h λA _ h=>?_;refine E5 h (λ_=>Yam.h _ _ _) λB h=>?_;refine E5 h (λ_=>Yax.h _ _ _ _ _ _) λC h=>?_
   conv=>whnf
   refine⟨.inl ?_⟩
   conv=>whnf
   refine SU h λhr h=>?_;refine z12 ?_
   try rw[it]
   exact zq34m
  conv=>whnf
  refine⟨.inl ?_⟩
  conv=>whnf
  refine SU h λhr h=>?_;refine z12 ?_
  try rw[it]
  exact zq34m
 conv=>whnf
 try simp only[Ke,Kf]at h
 refine E5 h (λ_=>fu.h _ _ _ _) λk h=>?_
 conv=>whnf
 refine ED h λT U h=>?_;refine og [(16,2,190,140)] {p:Nat×(Int×(Γ Ap))//T p.1 p.2=some R} (λp=>C9 193 [(10,.ptr 10 1 0),(16,.ptr 16 1 0),(19,.l 3 EI e),(25,.l 1 (Aq 1 D.z) k),(26,.i p.1.2.1)] [(10,.var zTV,1),(16,.var [.l 2 Af p2,.i p3,.sl 190 1],1),(190,.row 7 140 (φ A7 p.1.2.2),1)]) (λp=>p.1.1) ⟨(_,(_,_)),h⟩ ?_ λp=>?_
 ·conv=>whnf
  exact wW
 obtain⟨⟨V,⟨t,m⟩⟩,h⟩:=p;obtain⟨V,rfl,h⟩:=U _ _ h;simp only[Qp]at h;refine Dn h (λh=>?_) λh=>?_
 ·conv=>whnf
  refine z17 ?_;refine Ry (f:=(Aq 1 D.z)) h λE _ h=>?_;refine E5 h (λ_=>XC.h _ _ _) λF h=>?_
  conv=>whnf
  refine SU h λhr h=>?_;refine z12 ?_
  try rw[eE]
  exact zq34m
 conv=>whnf
 try simp only[Ke,Kf]at h
 refine⟨.inl ?_⟩
 conv=>whnf
 obtain rfl:=Zaf h;exact⟨Kz⟩⟩
instance YaR:jb 256 W3 Lg:=⟨λ_ _ _ _ _ h=>uH func256⟩
instance{b c}:LS (λa s=>Qv b c a s) 126 [0] (λs=>[(3,.i s)]) [] (λs=>[]):={}
instance{b c d}:LS (λa s=>Qw b c d a s) 126 [0,3] (λs=>[(4,.i s)]) [] (λs=>[]):={}
instance{b c d}:LS (λa s=>Qy b c d a s.1 s.2) 126 [0,5,6,7] (λs=>[(8,.i s.1)]) [5] (λs=>[(87,.row 1 3 (φ D.z s.2),1)]):={}
instance{b c d e}:LS (λa s=>Qz b c d e a s.1 s.2) 126 [0,5,6,7,8] (λs=>[(9,.i s.1)]) [5] (λs=>[(87,.row 1 3 (φ D.z s.2),1)]):={}
def zq21g{p:Prop}(h:p:=by obtain rfl:=Zaf h;refine⟨.inl ?_⟩;(conv=>whnf);refine⟨.inr ?_⟩;(conv=>whnf);exact⟨rfl⟩):p:=h
def zq36g{p:Prop}(h:p:=by(conv=>whnf);exact sP ⟨(_,(_,_)),h⟩ CC):p:=h
instance fJ:CS prog 326 (∀(a R:Γ (Γ Int))(h:Ns a=some R),A9 prog 326 [.l 1 (Aq 1 D.z) a] (.d (yZ (Aq 1 D.z) R))):=⟨λa R h=>by
 refine Vp [3,13] func326 (by kernel_rfl) ?_;unfold Ns at h
 conv=>whnf
 refine⟨.inl ?_⟩;refine Dd {p:Unit//Q0 a=some R} (λp=>C9 126 [(0,.l 1 (Aq 1 D.z) a)] []) ?_ λp=>?_
 ·refine Dn h (λh=>?_) λh=>?_
  ·exact zq21g
  refine Ry (f:=(Aq 1 D.z)) h λu _ h=>?_;refine Dn h (λh=>?_) λh=>?_
  ·exact zq21g
  refine Ry (f:=(Aq 1 D.z)) h λv _ h=>?_;refine Dn h (λh=>?_) λh=>?_
  ·conv=>whnf
   exact zq21g
  conv=>whnf
  exact⟨⟨(),h⟩,CC⟩
 obtain⟨_,h⟩:=p;simp only[Q0]at h;refine Dd {p:Unit//Q1 a=some R} (λp=>C9 126 [(0,.l 1 (Aq 1 D.z) a)] []) ?_ λp=>?_
 ·conv=>whnf
  refine z11 h (λp=>C9 126 [(0,.l 1 (Aq 1 D.z) a),(3,.i p)] []) CC λ_ _ g h=>?_;simp only[Qv]at h;refine Dn h (λh=>?_) λh=>?_
  ·conv=>whnf
   refine z17 ?_;refine Ry (f:=(Aq 1 D.z)) h λw _ h=>?_;refine Ry (f:=(Aq 1 D.z)) h λx _ h=>?_;refine Dn h (λh=>?_) λh=>?_
   ·conv=>whnf
    exact zq21g
   conv=>whnf
   refine z11 h (λp=>C9 126 [(0,.l 1 (Aq 1 D.z) a),(3,.i g),(4,.i p)] []) CC λ_ _ l h=>?_;simp only[Qw]at h;refine Ry (f:=(Aq 1 D.z)) h λy _ h=>?_;refine Dn h (λh=>?_) λh=>?_
   ·refine Ry (f:=(Aq 1 D.z)) h λx59 _ h=>?_;refine Ry (f:=D.z) h λz _ h=>?_;refine Dn h (λh=>?_) λh=>?_
    ·exact zq21g
    refine Ry (f:=(Aq 1 D.z)) h λA _ h=>?_;refine Ry (f:=D.z) h λB _ h=>?_;refine Dn h (λh=>?_) λh=>?_
    ·conv=>whnf
     exact zq21g
    conv=>whnf
    exact sP ⟨(_,_),h⟩ CC
   conv=>whnf
   exact sP ⟨(_,_),h⟩ CC
  conv=>whnf
  exact⟨⟨(),h⟩,CC⟩
 obtain⟨_,h⟩:=p;simp only[Q1]at h
 conv=>whnf
 refine z11 h (λp=>C9 126 [(0,.l 1 (Aq 1 D.z) a),(5,.sl 5 1),(6,.i p.1)] [(5,.row 1 35 (φ (Aq 1 D.z) p.2),1)]) CC λ_ _ ⟨b,c⟩ h=>?_;simp only[Qx]at h;refine Ry (f:=(Aq 1 D.z)) h λC _ h=>?_;refine Dn h (λh=>?_) λh=>?_
 ·refine Ry (f:=(Aq 1 D.z)) h λE _ h=>?_
  conv=>whnf
  refine SU h λhr h=>?_;refine z14 ?_
  try rw[xO]
  conv=>whnf
  refine z11 h (λp=>C9 126 [(0,.l 1 (Aq 1 D.z) a),(5,.sl 5 1),(6,.i b),(7,.sl 87 1),(8,.i p.1)] [(5,.row 1 35 (φ (Aq 1 D.z) c),1),(87,.row 1 3 (φ D.z p.2),1)]) CC λ_ _ ⟨i,j⟩ h=>?_;simp only[Qy]at h;refine Dn h (λh=>?_) λh=>?_
  ·conv=>whnf
   refine z11 h (λp=>C9 126 [(0,.l 1 (Aq 1 D.z) a),(5,.sl 5 1),(6,.i b),(7,.sl 87 1),(8,.i i),(9,.i p.1)] [(5,.row 1 35 (φ (Aq 1 D.z) c),1),(87,.row 1 3 (φ D.z p.2),1)]) CC λ_ _ ⟨m,k⟩ h=>?_;simp only[Qz]at h;refine Dn h (λh=>?_) λh=>?_
   ·conv=>whnf
    refine z17 ?_;refine T4 (f:=D.z) h GK λn d h=>?_;refine fk (f:=D.z) d GK ?_;refine Ry (f:=(Aq 1 D.z)) h λo _ h=>?_;refine Ry (f:=D.z) h λq _ h=>?_;refine Ry (f:=(Aq 1 D.z)) h λr _ h=>?_;refine Ry (f:=D.z) h λs _ h=>?_;refine T4 (f:=D.z) h GK λt e h=>?_;refine fk (f:=D.z) e GK ?_
    conv=>whnf
    try rw[Aeg]
    exact sP ⟨(_,(_,_)),h⟩ CC
   exact zq36g
  conv=>whnf
  refine SU h λhr h=>?_;refine z12 ?_
  try rw[s9]
  exact zq36g
 conv=>whnf
 refine SU h λF h=>?_;obtain rfl:=Zaf h;rw[nt _ F];refine⟨.inl ?_⟩
 conv=>whnf
 exact⟨qv⟩⟩
instance:ja 335 (W2 Ed):=⟨λ_ _ _ h=>uH func335⟩
instance{b c}:LS (λa s=>O4 b c a s.1 s.2) 61 [0,3,4] (λs=>[(5,.i s.1)]) [3] (λs=>[(4,.var [.d (.int .u64 s.2.E),.d (.int .u64 s.2.C)],1)]):={}
instance{b c d}:LS (λa s=>O5 b c d a s.1 s.2) 61 [0,3,4,5] (λs=>[(6,.i s.1),(7,.i s.2)]) [3,4] (λs=>[]):={}
instance:ja 395 (W1 QZ):=⟨λ_ _ h=>uH func395⟩
instance{b c}:LS (λa s=>Oy b c a s) 59 [0] (λs=>[(3,.i s)]) [] (λs=>[]):={}
instance{b c}:LS (λa s=>Oz b c a s) 59 [0] (λs=>[(4,.i s)]) [] (λs=>[]):={}
instance{b c d}:LS (λa s=>O0 b c d a s) 59 [0,4] (λs=>[(5,.i s)]) [] (λs=>[]):={}
instance wn:ja 379 (W1 IT):=⟨λa R h=>by
 refine TC [10] func379 ?_;unfold IT at h;refine uJ h λh=>?_
 refine uJ h λh=>?_
 refine Dd {p:Unit//To a=some R} (λp=>C9 59 [(0,.l 1 (Aq 1 D.z) a)] []) ?_ λp=>?_
 ·exact Ah
 obtain⟨_,h⟩:=p;exact Ah⟩
instance{b c d e}:LS (λa s=>Sb b c d e a s.1 s.2) 33 [0,1,2,7] (λs=>[(8,.i s.1)]) [] (λs=>[(7,.row 1 35 (φ (Aq 1 D.z) s.2),1)]):={}
instance:ja 380 (W3 S8):=⟨λ_ _ _ _ h=>uH func380⟩
instance:ja 384 (W2 Np):=⟨λe f R h=>by
 refine zaC func384 ?_;unfold Np at h
 conv=>whnf
 refine By h λc a h=>?_;refine ZG (H7 _ _ _ _ a) ?_
 conv=>whnf
 refine By h λd b h=>?_;refine ZG (H7 _ _ _ _ b) ?_;exact Ah⟩
instance{b c d e f}:LS (λa s=>O3 b c d e f a s.1 s.2) 59 [0,1,2,6,7] (λs=>[(8,.i s.1)]) [6] (λs=>[(7,.var [.d (.int .u64 s.2.E),.d (.int .u64 s.2.C)],1)]):={}
def gP(d:Nat)(a:(Γ (Γ Int))->(Γ Int)->(Γ Int)->Δ Au)(ih:W3 a prog 396):W3 (If d a) prog 396:=by
 intro b c p2 R h;refine zaC func396 ?_;unfold If at h;exact Ah
theorem Xm:∀d:Nat,W3 (KS d) prog 396
 | 0=>by exact z20
 | d+1=>gP d _ (Xm d)
instance:jb 396 W3 KS:=⟨Xm⟩
instance{b c}:LS (λa s=>LD b c a s.1 s.2) 15 [0,3] (λs=>[(4,.i s.1)]) [] (λs=>[(3,.row 1 3 (φ D.z s.2),1)]):={}
instance:ja 397 (W1 Kc):=⟨λ_ _ h=>uH func397⟩
instance:jb 381 W1 LC:=⟨λ_ _ _ h=>uH func381⟩
instance{b c d}:LS (λa s=>O1 b c d a s) 66 [0,1] (λs=>[(7,.i s)]) [] (λs=>[]):={}
instance{b c d e f}:LS (λa s=>O2 b c d e f a s.1 s.2) 66 [0,1,9,10] (λs=>[(11,.i s.1)]) [9] (λs=>[(10,.row 2 60 (φ De s.2),1)]):={}
instance Z1:jb 327 W2 N9:=⟨λd a b R h=>by
 refine TC [12] func327 ?_;unfold N9 at h;refine E5 h (λ_=>wn.h _ _) λc h=>?_;refine uJ h λh=>?_
 refine uJ h λh=>?_
 refine Dd {p:Unit//Tp d a b=some R} (λp=>C9 66 [(0,.l 1 (Aq 1 D.z) a),(1,.l 1 D.z b)] []) ?_ λp=>?_
 ·exact Ah
 obtain⟨_,h⟩:=p;exact Ah⟩
instance:jb 328 W2 N8:=⟨λ_ _ _ _ h=>uH func328⟩
end
