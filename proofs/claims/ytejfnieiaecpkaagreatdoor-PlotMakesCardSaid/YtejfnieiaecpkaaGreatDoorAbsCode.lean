/- The abstract machine: regions in the order of the text, code, functions. -/
import Derived.Test.YtejfnieiaecpkaaGreatDoorAbsOne
import Derived.Tactics
set_option linter.unusedVariables false
set_option linter.unusedSimpArgs false
namespace Go.Abs
open Go.RowKit (Below)
theorem UZ (v:AV) (K:AV→Prop):TF v K = K v:=by
 cases v <;> simp only [TF,Ls]
 case under t w x=>cases x <;> simp only [Ls]
theorem Wl (b:Ct) (K:Ct→Prop):Xf b K = K b:=by
 cases b <;> simp only [Xf,Ls]
theorem Im:∀ (S:AS) (K:AS→Prop),F9 S K = K S
 | [],_=>rfl
 | ⟨_,_,_⟩ :: r,K=>by rw [F9,Im r]; simp only [UZ,Wl,Ls]
theorem JX:∀ (l:List Nat) (K:List Nat→Prop),My l K = K l
 | [],_=>rfl
 | x :: r,K=>by rw [My,JX r]
theorem P6:∀ (S:AS) (d:Nat) (v:AV) (K:AS→Prop),OW S d v K = K (Eh S d v)
 | [],_,_,_=>rfl
 | ⟨_,_,_⟩ :: _,0,_,_=>rfl
 | s :: r,d + 1,v,K=>by rw [OW,P6 r]; rfl
theorem Up:∀ (S:AS) (d:Nat) (b:Ct) (n:Nat) (K:AS→Prop),TE S d b n K = K (AR S d b n)
 | [],_,_,_,_=>rfl
 | ⟨_,_,_⟩ :: _,0,_,_,_=>rfl
 | s :: r,d + 1,b,n,K=>by rw [TE,Up r]; rfl
theorem Nn:∀ (b:Bx) (S:AS) (K:AS→Prop),OH b S K = K (Bo b S)
 | [],_,_=>rfl
 | (id,b,n) :: r,S,K=>by rw [OH,Ls,Wl,Up,Nn r]; rfl
theorem WG (dst:Option Nat) (e:GD) (S:AS) (K:AS→Prop):aZ dst e S K = K (Wh dst e S):=by
 obtain ⟨v,bx,hm⟩:=e
 cases dst with
 | none=>simp only [aZ,Nn]; rfl
 | some d=>simp only [aZ,UZ,Nn,P6]; rfl
theorem M0:∀ (S:AS) (d:Nat) (K:Nat→Prop),SA S d K→d < S.length∧K (As S d).ver
 | [],_,_,h=>h.elim
 | ⟨_,_,_⟩ :: _,0,_,h=>⟨by simp,h⟩
 | s :: r,d + 1,K,h=>by
   obtain ⟨h1,h2⟩:=M0 r d K h
   exact ⟨by simpa using h1,h2⟩
theorem QU:∀ (l:List Oper) (j:Nat),SK l j = (l[j]?).bind (·.dst)
 | [],_=>rfl
 | _ :: _,0=>rfl
 | _ :: r,j + 1=>by simp only [SK,List.getElem?_cons_succ]; exact QU r j
section
variable {P:Program} {X:Cx} {G:Nat→Prop} {β:Nat→Value} {S:AS} {a:Act} {w:World} {o:Oper}
def Tv (X:Cx) (G:Nat→Prop) (S:AS) (a:Act) (e:GD) (v:Value) (w':World):Prop :=
 ∃ β',AB X G β' (Bo e.bx S) a w'∧J6 β' (AW (Bo e.bx S)) (OS β' X (Bo e.bx S)) w' a.tmps v e.av∧∀ u∈e.av.guards,G u
def bI (P:Program) (ops:Array Oper) (X:Cx) (G:Nat→Prop) (S:AS) (a:Act) (w:World) (o:Oper) (e:GD):Prop :=
 (Region.wanted o (yielded ops a.tmps) = true ∧
  ((∃ v w',(execOp a.eval o).run P w = .ok (.value v) w'∧Tv X G S a e v w') ∨
   (∃ w',(execOp a.eval o).run P w = .ok .skip w'∧Tv X G S a e undef w') ∨
   (∃ f args,(execOp a.eval o).run P w = .ok (.enter f args) w∧Calls P f args w fun e' w'=>∃ v,e' = .returned v∧Tv X G S a e v w'))) ∨
 (Region.wanted o (yielded ops a.tmps) = false∧Tv X G S a e undef w)
theorem Qj.toG {e:GD} {v:Value} {w':World} (h:Qj X G S a e v w'):Tv X G S a e v w':=by
 obtain ⟨β',h1,h2,h3⟩:=h
 exact ⟨β',h1,h2,by rw [h3]; simp⟩
theorem Qj.toU {e:GD} {v:Value} {w':World} {t:Nat} {want:Bool} (ht:G t) (hw:a.tmps[t]? = some (.bool want)) (h:Qj X G S a e v w'):Tv X G S a ⟨.under t want e.av,e.bx,[]⟩ v w':=by
 obtain ⟨β',h1,h2,h3⟩:=h
 refine ⟨β',h1,⟨fun _=>h2,fun hn=>absurd hw hn⟩,?_⟩
 intro u hu
 simp only [AV.guards,h3,List.mem_singleton] at hu
 rw [hu]; exact ht
theorem Dh.to {ops:Array Oper} {e e':GD} (hw:Region.wanted o (yielded ops a.tmps) = true) (hd:Dh P X G S a w o e)
 (hp:∀ v w',Qj X G S a e v w'→Tv X G S a e' v w'):bI P ops X G S a w o e':=by
 refine .inl ⟨hw,?_⟩
 rcases hd with ⟨v,w',h1,h2⟩ | ⟨w',h1,h2⟩ | ⟨f,args,h1,h2⟩
 ·exact .inl ⟨v,w',h1,hp v w' h2⟩
 ·exact .inr (.inl ⟨w',h1,hp _ w' h2⟩)
 ·exact .inr (.inr ⟨f,args,h1,h2.mono fun e' w' ⟨v,h3,h4⟩=>⟨v,h3,hp v w' h4⟩⟩)
theorem VV {x:Option Nat} {K:Nat→Prop} (h:dK x K):K (x.getD 0):=by cases x <;> exact h
theorem TO:∀ (S:AS) (t:Nat) (v:AV),(As S t).av = v→Eh S t v = S
 | [],_,_,_=>rfl
 | ⟨x,b,n⟩ :: r,0,v,h=>by simp only [As] at h; subst h; rfl
 | s :: r,t + 1,v,h=>by rw [Eh,TO r t v h]
theorem WY {t:Nat} {x:AV} (h:AB X G β S a w) (hx:(As S t).av = x) (hne:x≠.any):∃ v,a.tmps[t]? = some v∧J6 β (AW S) (OS β X S) w a.tmps v x:=by
 have hlt:t < S.length:=by
  rcases Nat.lt_or_ge t S.length with h' | h'
  ·exact h'
  ·rw [KZ S t h'] at hx; exact absurd hx.symm hne
 have hlt':t < a.tmps.size:=by rw [h.len]; exact hlt
 refine ⟨a.tmps[t],by simp [hlt'],?_⟩
 have:=h.slots t a.tmps[t] (by simp [hlt'])
 rwa [hx] at this
def ZY (lk:List Nat):Nat→Nat→AS→Option Bool→Prop
 | 0,_,_,_=>False
 | n + 1,t,S,r=>t∈lk∧((∃ b,(As S t).av = .d (.bool b)∧r = some b) ∨
     (∃ t' w' b r',(As S t).av = .under t' w' (.d (.bool b))∧ZY lk n t' S r'∧(r' = some w'∧r = some b∨r'≠some w'∧r = none)) ∨
     ∃ t' w',(As S t).av = .under t' w' .bot∧r = none)
theorem Mx {S:AS} {t:Nat} {mk:Bool→AV} {b:Bool} {K:AS→Option Bool→Prop} (hb:(As S t).av = mk b):VE S t mk b K↔K S (some b):=by
 unfold VE
 cases b <;> simp only [Th] <;> rw [P6,TO S t _ hb]
theorem Q7 {lk:List Nat}:∀ {n t:Nat} {S:AS} {K:AS→Option Bool→Prop},az lk n t S K→∃ r,K S r∧ZY lk n t S r
 | 0,_,_,_,h=>h.elim
 | n + 1,t,S,K,h=>by
   unfold az at h
   obtain ⟨hlk,h⟩:=Ar h
   have hlk:t∈lk:=by simpa using hlk
   split at h
   ·rename_i b hb
    exact ⟨some b,(Mx hb).1 h,hlk,.inl ⟨b,hb,rfl⟩⟩
   ·rename_i t' w' b hb
    obtain ⟨r,h,hd⟩:=Q7 h
    have yes:r = some w'→VE S t (fun b=>.under t' w' (.d (.bool b))) b K→∃ r,K S r∧ZY lk (n + 1) t S r:=fun e h =>
     ⟨some b,(Mx (mk:=fun b=>.under t' w' (.d (.bool b))) hb).1 h,hlk,.inr (.inl ⟨t',w',b,r,hb,hd,.inl ⟨e,rfl⟩⟩)⟩
    have no:r≠some w'→K S none→∃ r,K S r∧ZY lk (n + 1) t S r:=fun e h=>⟨none,h,hlk,.inr (.inl ⟨t',w',b,r,hb,hd,.inr ⟨e,rfl⟩⟩)⟩
    match r,w',h,yes,no with
    | none,_,h,_,no=>exact no (by simp) h
    | some true,true,h,yes,_=>exact yes rfl h
    | some true,false,h,_,no=>exact no (by simp) h
    | some false,true,h,_,no=>exact no (by simp) h
    | some false,false,h,yes,_=>exact yes rfl h
   ·rename_i t' w' hb
    exact ⟨none,h,hlk,.inr (.inr ⟨t',w',hb,rfl⟩)⟩
   ·exact h.elim
theorem Wn {lk:List Nat}:∀ {n t:Nat} {S:AS} {r:Option Bool} {K:AS→Option Bool→Prop},ZY lk n t S r→K S r→az lk n t S K
 | 0,_,_,_,_,h,_=>h.elim
 | n + 1,t,S,r,K,⟨hlk,h⟩,hK=>by
   unfold az
   rw [if_pos (by simpa using hlk)]
   rcases h with ⟨b,hb,rfl⟩ | ⟨t',w',b,r',hb,hd,h⟩ | ⟨t',w',hb,rfl⟩
   rotate_left 2
   ·rw [hb]; exact hK
   ·rw [hb]
    exact (Mx hb).2 hK
   ·rw [hb]
    refine Wn hd ?_
    rcases h with ⟨rfl,rfl⟩ | ⟨hne,rfl⟩
    ·cases w' <;> exact (Mx (mk:=fun b=>.under t' _ (.d (.bool b))) hb).2 hK
    ·match r',w',hne with
     | none,_,_=>exact hK
     | some true,false,_=>exact hK
     | some false,true,_=>exact hK
     | some true,true,h=>exact absurd rfl h
     | some false,false,h=>exact absurd rfl h
theorem ZY.tmp {lk:List Nat} (h:AB X G β S a w):∀ {n t:Nat} {r:Option Bool},ZY lk n t S r→(∀ b,r = some b→a.tmps[t]? = some (.bool b))∧(r = none→∀ b,a.tmps[t]?≠some (.bool b))
 | 0,_,_,hd=>hd.elim
 | n + 1,t,r,⟨_,hd⟩=>by
   rcases hd with ⟨b,hb,rfl⟩ | ⟨t',w',b,r',hb,hd,hr⟩ | ⟨t',w',hb,rfl⟩
   rotate_left 2
   ·obtain ⟨v,hv,hrep⟩:=WY h hb (by simp)
    refine ⟨fun b' e=>(by cases e),fun _ b'=>?_⟩
    by_cases hw:a.tmps[t']? = some (.bool w')
    ·exact (hrep.1 hw).elim
    ·rw [hv,hrep.2 hw]
     intro hh; cases hh
   ·obtain ⟨v,hv,hr⟩:=WY h hb (by simp)
    exact ⟨fun b' e=>by cases e; rw [hv,Ey hr],fun e=>by cases e⟩
   ·obtain ⟨v,hv,hrep⟩:=WY h hb (by simp)
    obtain ⟨h1,h2⟩:=ZY.tmp h hd
    rcases hr with ⟨rfl,rfl⟩ | ⟨hne,rfl⟩
    ·exact ⟨fun b' e=>by cases e; rw [hv,Ey (hrep.1 (h1 _ rfl))],fun e=>by cases e⟩
    ·refine ⟨fun b' e=>(by cases e),fun _ b'=>?_⟩
     have hnw:a.tmps[t']?≠some (.bool w'):=by
      cases r' with
      | none=>exact h2 rfl w'
      | some c=>rw [h1 c rfl]; intro hh; cases hh; exact hne rfl
     rw [hv,hrep.2 hnw]
     intro hh; cases hh
theorem IK {want:Bool} {r:Option Bool} {go skip:Prop}:TQ want r go skip↔(r = some want∧go)∨(r≠some want∧skip):=by
 unfold TQ
 match r,want with
 | none,_=>simp
 | some true,true=>simp
 | some true,false=>simp
 | some false,true=>simp
 | some false,false=>simp
theorem TV {g:Option (Nat × Bool)} {d n:Nat} {K:GD→Prop} (hy:yS P S g o d n K):(∃ x id v k,o.op = .move x∧ev S x = .ptr id v k∧K ⟨.ptr id v k,[],[]⟩)∨(Kt S o = false∧yA P (σOf S) (ρOf S) g o d n K):=by
 unfold yS at hy
 unfold Kt
 split at hy
 ·rename_i x ho
  split at hy
  ·rename_i id v k he
   exact .inl ⟨x,id,v,k,ho,he,hy⟩
  ·exact .inr ⟨rfl,hy⟩
 ·exact .inr ⟨rfl,hy⟩
theorem UG (h:AB X G β S a w) {g:Option (Nat × Bool)} (hg:BN g a) {d:Nat} (hd:d < S.length) {K:GD→Prop} (hy:yS P S g o d (As S d).ver K) :
 ∃ e,K e∧(FH S e.homes = true→Dh P X G S a w o e):=by
 rcases TV hy with ⟨x,id,v,k,ho,he,hK⟩ | ⟨_,hy⟩
 ·refine ⟨_,hK,fun _=>AQ h (v:=a.eval x) (by simp [execOp,ho]) ?_ rfl⟩
  cases x with
  | tmp t =>
    simp only [ev] at he
    simp only [Act.eval]
    by_cases ht:t < a.tmps.size
    ·have:=h.slots t a.tmps[t] (by simp [ht])
     rw [he] at this
     simpa [Array.getD,ht] using this
    ·have e:As S t = bS:=KZ S t (by rw [← h.len]; exact Nat.le_of_not_lt ht)
     rw [e] at he; cases he
  | const c=>simp only [ev] at he; unfold ac at he; split at he <;> cases he
  | global q=>simp only [ev] at he; split at he <;> cases he
  | func f=>cases he
 ·exact bH h hg hd hy
theorem XN {g:Option (Nat × Bool)} {d n:Nat} {K:GD→Prop} (hh:KA o.op = true) (hy:yS P S g o d n K):∃ e,K e∧e.av.guards = []:=by
 rcases TV hy with ⟨x,id,v,k,ho,he,hK⟩ | ⟨_,hy⟩
 ·exact ⟨_,hK,rfl⟩
 ·exact X1 hh hy
theorem VQ {ops:Array Oper} {done:List Nat} (h:AB X (·∈done) β S a w) {K:AS→GD→Prop} (hy:am P ops.toList done o S K) :
 ∃ e,K S e∧bI P ops X (·∈done) S a w o e:=by
 unfold am at hy
 split at hy
 ·rename_i hgd
  obtain ⟨hd,hy⟩:=M0 _ _ _ (VV hy)
  obtain ⟨e,hK,hdo⟩:=UG h (g:=none) (fun _ _ e=>by cases e) hd hy
  obtain ⟨hok,hK⟩:=Ar hK
  exact ⟨e,hK,(hdo hok).to (by simp [Region.wanted,hgd]) fun v w' hp=>hp.toG⟩
 ·rename_i j want hgd
  split at hy
  ·exact hy.elim
  ·rename_i t ht
   obtain ⟨hdone,hy⟩:=Ar hy
   have htd:t∈done:=by simpa using hdone
   have hyl:yielded ops a.tmps j = (match a.tmps[t]? with | some (.bool b)=>some b | _=>none):=by
    have:(ops[j]?).bind (·.dst) = some t:=by rw [← ht,QU]; simp
    simp only [yielded,this,Option.bind_some]
    cases a.tmps[t]? with
    | none=>rfl
    | some v=>cases v <;> rfl
   have hwant:Region.wanted o (yielded ops a.tmps) = true↔a.tmps[t]? = some (.bool want):=by
    simp only [Region.wanted,hgd,hyl]
    constructor
    ·intro hh
     split at hh
     ·rename_i b hb; simp at hh; rw [hb,hh]
     ·simp at hh
    ·intro hh; simp [hh]
   split at hy
   ·rename_i hh
    obtain ⟨hd,hy⟩:=M0 _ _ _ (VV hy)
    by_cases hw:a.tmps[t]? = some (.bool want)
    ·obtain ⟨e,hK,hdo⟩:=UG h (g:=some (t,want)) (fun _ _ e=>by cases e; exact hw) hd hy
     split at hK
     ·exact ⟨_,hK,(hdo rfl).to (hwant.2 hw) fun v w' hp=>hp.toU htd hw⟩
     ·exact hK.elim
    ·obtain ⟨e,hK,hgs⟩:=XN hh hy
     split at hK
     ·rename_i v
      refine ⟨_,hK,.inr ⟨by rw [Bool.eq_false_iff]; exact fun hh=>hw (hwant.1 hh),β,h,⟨fun hh=>absurd hh hw,fun _=>rfl⟩,?_⟩⟩
      intro u hu
      simp only at hgs
      simp only [AV.guards,hgs,List.mem_singleton] at hu
      rw [hu]; exact htd
     ·exact hK.elim
   ·obtain ⟨r,hy,hdec⟩:=Q7 hy
    obtain ⟨hs1,hs2⟩:=hdec.tmp h
    rcases IK.1 hy with ⟨hrw,hgo⟩ | ⟨hne,hK⟩
    ·have hbt:=hs1 want hrw
     obtain ⟨hd,hy⟩:=M0 _ _ _ (VV hgo)
     obtain ⟨e,hK,hdo⟩:=UG h (g:=some (t,want)) (fun _ _ e=>by cases e; exact hbt) hd hy
     obtain ⟨hok,hK⟩:=Ar hK
     exact ⟨e,hK,(hdo hok).to (hwant.2 hbt) fun v w' hp=>hp.toG⟩
    ·have hnw:a.tmps[t]?≠some (.bool want):=by
      cases r with
      | none=>exact hs2 rfl want
      | some c=>rw [hs1 c rfl]; intro hh; cases hh; exact hne rfl
     refine ⟨_,hK,.inr ⟨?_,β,h,⟨fun hh=>absurd hh hnw,fun _=>rfl⟩,fun u hu=>by simp [AV.guards] at hu; rw [hu]; exact htd⟩⟩
     rw [Bool.eq_false_iff]
     exact fun hh=>hnw (hwant.1 hh)
theorem AB.weaken {G':Nat→Prop} (h:AB X G β S a w) (hG:∀ t,G t→G' t):AB X G' β S a w :=
 { h with gds:=fun t u hu=>hG u (h.gds t u hu) }
theorem bI.step {ops:Array Oper} {e:GD} {K:Act→World→Prop} {Q:Exit→Act→World→Prop} {done:List Nat} (hd:∀ d,o.dst = some d→d ∉ done) (h:bI P ops X (·∈done) S a w o e)
 (hK:∀ β' a' w',AB X (·∈Dw o.dst++done) β' (Wh o.dst e S) a' w'→K a' w') :
 if Region.wanted o (yielded ops a.tmps) then o.wp P a w K Q else K (a.put o.dst undef) w:=by
 have fin:∀ v w',Tv X (·∈done) S a e v w'→K (a.put o.dst v) w':=by
  intro v w' hp
  obtain ⟨β',h1,h2,h3⟩:=hp
  refine hK β' _ w' ?_
  cases hdst:o.dst with
  | none=>exact h1
  | some d=>exact (h1.put (hd d hdst) h2 h3).weaken fun t ht=>by simp [ht]
 rcases h with ⟨hw,h⟩ | ⟨hw,h⟩
 ·rw [if_pos hw]
  unfold Oper.wp
  rcases h with ⟨v,w',h1,h2⟩ | ⟨w',h1,h2⟩ | ⟨f,args,h1,h2⟩
  ·rw [h1]; exact fin v w' h2
  ·rw [h1]; exact fin undef w' h2
  ·rw [h1]
   exact h2.mono fun e' w' ⟨v,h3,h4⟩=>by subst h3; exact fin v w' h4
 ·rw [if_neg (by simp [hw])]
  exact fin undef w h
theorem QP {pos:Bool} {x:Operand} (h:Rn P o = some (pos,x)):∃ op t y u e,o.op = .binOp op t x y u∧OU y = true∧o.guard = none∧P.underlying t = some (.slice e)∧(op = .eql∧pos = true∨op = .neq∧pos = false):=by
 unfold Rn at h
 split at h
 ·rename_i op t x' y u ho
  split at h
  ·rename_i e h1 h2 h3
   split at h
   ·simp at h; exact ⟨_,t,y,u,e,by rw [ho,h.2],h1,h2,h3,.inl ⟨rfl,h.1⟩⟩
   ·simp at h; exact ⟨_,t,y,u,e,by rw [ho,h.2],h1,h2,h3,.inr ⟨rfl,h.1⟩⟩
   ·cases h
  ·cases h
 ·cases h
theorem Xh (h:AB X G β S a w) {pos:Bool} {x:Operand} (ht:Rn P o = some (pos,x)) {K:Bool→Prop} (hy:MG (ρOf S none x) fun _ xs=>dO xs K) :
 ∃ b,K b∧Dh P X G S a w o ⟨.d (.bool (b==pos)),[],[]⟩:=by
 obtain ⟨op,t,y,u,e,ho,hn,_,hu,hop⟩:=QP ht
 obtain ⟨sz,xs,hK,ad,c,hv,hrest⟩:=P7 h (ρ_sound h (g:=none) (fun _ _ e=>by cases e) x) hy
 have ey:=PC hn
 have hev:a.eval y = .slice none 0 0:=by rw [ey]; rfl
 refine ⟨ad.isNone,hK.go _ (fun hne=>?_),?_⟩
 ·obtain ⟨ad',news,rfl,_⟩:=hrest.resolve_left hne
  rfl
 ·have heq:(Op.equalIn 10000 t (.slice ad xs.length c) (.slice none 0 0)).run P w = .ok ad.isNone w:=by
   have key:∀ m,(Op.equalIn (m + 1) t (.slice ad xs.length c) (.slice none 0 0)).run P w = .ok ad.isNone w:=by
    intro m
    cases ad with
    | none=>simp [Op.equalIn,run_underlying hu]
    | some q=>simp [Op.equalIn,run_underlying hu]
   exact key 9999
  refine AQ h (v:=.bool (ad.isNone==pos)) ?_ (.bool _) rfl
  rcases hop with ⟨rfl,rfl⟩ | ⟨rfl,rfl⟩
  ·simp [execOp,ho,hv,hev,eqGuard,binOp,Op.equal,Op.maxDepth,heq]
  ·simp [execOp,ho,hv,hev,eqGuard,binOp,Op.equal,Op.maxDepth,heq]
theorem Q5 {ops:Array Oper} {Q:Exit→Act→World→Prop}:∀ {l:List Oper} {done:List Nat} {S:AS} {β:Nat→Value} {a:Act} {w:World} {K:AS→Prop},
 e7 P ops.toList done l S K→AB X (·∈done) β S a w→(∀ β' S' a' w' (done':List Nat),K S'→AB X (·∈done') β' S' a' w'→Q .normal a' w')→wpList P ops Q l a w
 | [],done,S,β,a,w,K,hy,h,hQ=>wpList_nil (hQ β S a w done hy h)
 | o :: r,done,S,β,a,w,K,hy,h,hQ=>by
   obtain ⟨hnd,hy⟩:=Ar hy
   have hd:∀ d,o.dst = some d→d ∉ done:=by
    intro d hd hm
    rw [hd] at hnd
    simp [Dw] at hnd
    exact hnd hm
   cases ht:Rn P o with
   | some q =>
     obtain ⟨pos,x⟩:=q
     simp only [ht] at hy
     obtain ⟨b,hK,hdo⟩:=Xh h ht hy
     rw [WG,JX] at hK
     obtain ⟨_,_,_,_,_,_,_,hgd,_⟩:=QP ht
     have hok:bI P ops X (·∈done) S a w o ⟨.d (.bool (b==pos)),[],[]⟩:=hdo.to (by simp [Region.wanted,hgd]) fun v w' hp=>hp.toG
     exact wpList_step fun K' hK'=>hok.step hd fun β' a' w' h'=>hK' _ _ (Q5 hK h' hQ)
   | none =>
     simp only [ht] at hy
     obtain ⟨e,hK,hok⟩:=VQ h hy
     rw [WG,JX] at hK
     exact wpList_step fun K' hK'=>hok.step hd fun β' a' w' h'=>hK' _ _ (Q5 hK h' hQ)
def Ln (s:Sl):Sl:=match s with
 | ⟨.under _ _ _,b,n⟩=>⟨.any,b,n⟩
 | s=>s
theorem US:∀ (S:AS) (K:AS→Prop),plain S K = K (S.map Ln)
 | [],_=>rfl
 | s :: r,K=>by
   rw [plain,US r]
   obtain ⟨v,b,n⟩:=s
   cases v <;> rfl
theorem CB:∀ (S:AS) (i:Nat),As (S.map Ln) i = Ln (As S i)
 | [],_=>rfl
 | _ :: _,0=>rfl
 | _ :: r,i + 1=>CB r i
theorem Is (s:Sl):(Ln s).box = s.box:=by obtain ⟨v,b,n⟩:=s; cases v <;> rfl
theorem Tq (s:Sl):(Ln s).ver = s.ver:=by obtain ⟨v,b,n⟩:=s; cases v <;> rfl
theorem AB.plain (h:AB X G β S a w):AB X (fun _=>False) β (S.map Ln) a w:=by
 have hO:OS β X (S.map Ln) = OS β X S:=by funext b; simp only [OS,CB,Is]
 have hv:AW (S.map Ln) = AW S:=by funext i; simp only [AW,CB,Tq]
 refine ⟨by simp [h.len],h.df,h.below,h.hbase,h.o₀,h.rs,?_,?_,?_,?_,?_,?_⟩
 ·intro t v ht
  rw [hO,hv,CB]
  have:=h.slots t v ht
  generalize As S t = s at this ⊢
  obtain ⟨x,b,n⟩:=s
  cases x <;> first | exact this | trivial
 ·intro i; rw [hO,hv,CB,Is]; exact h.boxes i
 ·intro i b; rw [CB,Is]; exact h.mine i b
 ·intro i j b; rw [CB,CB,Is,Is]; exact h.inj i j b
 ·intro t u hu
  rw [CB] at hu
  generalize As S t = s at hu
  obtain ⟨x,b,n⟩:=s
  cases x <;> simp [Ln,AV.guards] at hu
 ·intro i; rw [CB,Is,Tq]; exact h.ini i
theorem VO {x y:D} {K:Prop} (h:bi x y K):K∧(x.one = true→y.one = true)∧∀ (O:Nat→Prop) (w:World) (u:Value),A9 O w u x→A9 O w u y:=by
 unfold bi at h
 split at h
 ·rename_i s
  obtain ⟨h,hK⟩:=h
  rcases h with rfl | rfl
  ·exact ⟨hK,fun h=>h,fun _ _ _ h=>h⟩
  ·refine ⟨hK,fun _=>rfl,fun O w u h=>?_⟩
   cases h
   exact .emp _ _ _
 ·obtain ⟨rfl,hK⟩:=h
  exact ⟨hK,fun h=>h,fun _ _ _ h=>h⟩
theorem c9 {x y:D} {K:Prop} (h:bi x y K):bi x y True:=by
 unfold bi at h ⊢
 split at h
 ·exact ⟨h.1,trivial⟩
 ·exact ⟨h.1,trivial⟩
def fJ (v v':Nat→Nat) (cs cs':List C):Prop:=cs.length = cs'.length∧∀ (β:Nat→Value) (O:Nat→Prop) (w:World) (j:Nat) (u:Value) c c',cs[j]? = some c→cs'[j]? = some c'→Ch β v O w u c→Ch β v' O w u c'
theorem Ke {v v':Nat→Nat} {K:Prop}:∀ {cs cs':List C},Hp v v' cs cs' K→K∧fJ v v' cs cs'
 | [],[],h=>⟨h,rfl,fun _ _ _ j u c c' hc=>by simp at hc⟩
 | [],_ :: _,h=>h.elim
 | .d x :: r,[],h=>h.elim
 | .sl _ _ :: r,[],h=>h.elim
 | .own _ _ _ :: r,[],h=>h.elim
 | .d x :: r,.d y :: q,h=>by
   obtain ⟨h,ho,hx⟩:=VO (show bi x y (Hp v v' r q K) from h)
   obtain ⟨h1,h2,h3⟩:=Ke h
   refine ⟨h1,by simp [h2],fun β O w j u c c' hc hc' hr=>?_⟩
   cases j with
   | zero=>simp at hc hc'; subst hc; subst hc'; exact ⟨hx O w u hr.1,ho hr.2⟩
   | succ j=>exact h3 β O w j u c c' (by simpa using hc) (by simpa using hc') hr
 | .sl id n :: r,.sl id' n' :: q,h=>by
   have h:if id = id'∧n = v id∧n' = v' id then Hp v v' r q K else False:=h
   obtain ⟨⟨e0,e1,e2⟩,h'⟩:=Ar h
   obtain ⟨h1,h2,h3⟩:=Ke h'
   subst e0
   refine ⟨h1,by simp [h2],fun β O w j u c c' hc hc' hr=>?_⟩
   cases j with
   | zero=>simp at hc hc'; subst hc; subst hc'; exact ⟨Nat.le_of_eq e2,fun _=>hr.2 e1⟩
   | succ j=>exact h3 β O w j u c c' (by simpa using hc) (by simpa using hc') hr
 | .d _ :: _,.sl _ _ :: _,h=>h.elim
 | .d _ :: _,.own _ _ _ :: _,h=>h.elim
 | .sl _ _ :: _,.d _ :: _,h=>h.elim
 | .sl _ _ :: _,.own _ _ _ :: _,h=>h.elim
 | .own _ _ _ :: _,.d _ :: _,h=>h.elim
 | .own _ _ _ :: _,.sl _ _ :: _,h=>h.elim
 | .own _ _ _ :: _,.own _ _ _ :: _,h=>h.elim
theorem Lj {v v':Nat→Nat} {K:Prop}:∀ {cs cs':List C},Hp v v' cs cs' K→Hp v v' cs cs' True
 | [],[],_=>trivial
 | [],_ :: _,h=>h.elim
 | .d x :: r,[],h=>h.elim
 | .sl _ _ :: r,[],h=>h.elim
 | .own _ _ _ :: r,[],h=>h.elim
 | .d x :: r,.d y :: q,h=>by
   have h:bi x y (Hp v v' r q K):=h
   show bi x y (Hp v v' r q True)
   unfold bi at h ⊢
   split at h
   ·exact ⟨h.1,Lj h.2⟩
   ·exact ⟨h.1,Lj h.2⟩
 | .sl id n :: r,.sl id' n' :: q,h=>by
   have h:if id = id'∧n = v id∧n' = v' id then Hp v v' r q K else False:=h
   obtain ⟨h1,h2⟩:=Ar h
   show if id = id'∧n = v id∧n' = v' id then Hp v v' r q True else False
   rw [if_pos h1]; exact Lj h2
 | .d _ :: _,.sl _ _ :: _,h=>h.elim
 | .d _ :: _,.own _ _ _ :: _,h=>h.elim
 | .sl _ _ :: _,.d _ :: _,h=>h.elim
 | .sl _ _ :: _,.own _ _ _ :: _,h=>h.elim
 | .own _ _ _ :: _,.d _ :: _,h=>h.elim
 | .own _ _ _ :: _,.sl _ _ :: _,h=>h.elim
 | .own _ _ _ :: _,.own _ _ _ :: _,h=>h.elim
theorem RA {v v':Nat→Nat} {y y':AV} {K:Prop} (h:M8 v v' y y' K) :
 K∧∀ (β:Nat→Value) (O:Nat→Prop) (w:World) (tm:Array Value) (u:Value),J6 β v O w tm u y→J6 β v' O w tm u y':=by
 cases y' <;> simp only [M8] at h
 case any=>exact ⟨h,fun _ _ _ _ _ _=>trivial⟩
 case d y =>
  split at h
  ·obtain ⟨h,_,h1⟩:=VO h; exact ⟨h,fun _ O w _ u hr=>h1 O w u hr⟩
  ·obtain ⟨rfl,h⟩:=h; exact ⟨h,fun _ _ _ _ _ hr=>hr.1⟩
  ·exact h.elim
 case lim sz xs=>obtain ⟨rfl,h⟩:=h; exact ⟨h,fun _ _ _ _ _ hr=>hr⟩
 case ptr id n o =>
  split at h
  ·rename_i id' n' o'
   obtain ⟨⟨rfl,h1,h2⟩,rfl,h3⟩:=Ar h
   exact ⟨h3,fun _ _ _ _ _ hr=>⟨Nat.le_of_eq h2,fun _=>hr.2 h1⟩⟩
  ·exact h.elim
 case sl id n =>
  split at h
  ·rename_i id' n'
   obtain ⟨⟨rfl,h1,h2⟩,h3⟩:=Ar h
   exact ⟨h3,fun _ _ _ _ _ hr=>⟨Nat.le_of_eq h2,fun _=>hr.2 h1⟩⟩
  ·exact h.elim
 case cc k xs' =>
  split at h
  ·rename_i k' xs
   obtain ⟨rfl,hh⟩:=Ar h
   obtain ⟨h1,h2,h3⟩:=Ke hh
   refine ⟨h1,fun β O w tm u hr=>?_⟩
   obtain ⟨vs,hv,hl,hr⟩:=hr
   refine ⟨vs,hv,by rw [hl,h2],fun i u' c hu hc=>?_⟩
   have hi:i < xs.length:=by rw [h2]; exact AI hc
   exact ⟨h3 β O w i u' xs[i] c (List.getElem?_eq_getElem hi) hc (hr i u' _ hu (List.getElem?_eq_getElem hi)).1,(hr i u' _ hu (List.getElem?_eq_getElem hi)).2⟩
  ·exact h.elim
theorem X4 {v v':Nat→Nat} {y y':AV} {K:Prop} (h:M8 v v' y y' K):M8 v v' y y' True:=by
 cases y' <;> simp only [M8] at h ⊢
 case d y =>
  split at h
  ·exact c9 h
  ·exact ⟨h.1,trivial⟩
  ·exact h.elim
 case lim sz xs=>exact ⟨h.1,trivial⟩
 case ptr id n o =>
  split at h
  ·obtain ⟨h1,h2⟩:=Ar h
   rw [if_pos h1]; exact ⟨h2.1,trivial⟩
  ·exact h.elim
 case sl id n =>
  split at h
  ·obtain ⟨h1,h2⟩:=Ar h
   rw [if_pos h1]; trivial
  ·exact h.elim
 case cc k xs' =>
  split at h
  ·obtain ⟨h1,h2⟩:=Ar h
   rw [if_pos h1]; exact Lj h2
  ·exact h.elim
 all_goals first | exact h.elim | trivial
def fN (v v':Nat→Nat) (b b':Ct):Prop:=b' = .none∨(b = b'∧∀ cs,b≠.var cs)∨(∃ sz e xs,b' = .frow sz xs∧b = .row sz e xs)∨∃ cs cs',b = .var cs∧b' = .var cs'∧fJ v v' cs cs'
theorem XX {v v':Nat→Nat} {b b':Ct} {K:Prop} (h:ZL v v' b b' K):K∧fN v v' b b':=by
 cases b' <;> simp only [ZL] at h
 case none=>exact ⟨h,.inl rfl⟩
 case frow sz xs =>
  rcases h.1 with h1 | ⟨e,h1⟩
  ·exact ⟨h.2,.inr (.inl ⟨h1,fun cs e=>by rw [h1] at e; cases e⟩)⟩
  ·exact ⟨h.2,.inr (.inr (.inl ⟨sz,e,xs,rfl,h1⟩))⟩
 case fvar cs=>exact ⟨h.2,.inr (.inl ⟨h.1,fun cs e=>by rw [h.1] at e; cases e⟩)⟩
 case map es=>exact ⟨h.2,.inr (.inl ⟨h.1,fun cs e=>by rw [h.1] at e; cases e⟩)⟩
 case row sz e xs=>exact ⟨h.2,.inr (.inl ⟨h.1,fun cs e=>by rw [h.1] at e; cases e⟩)⟩
 case var cs' =>
  cases b <;> try exact h.elim
  case var cs =>
   obtain ⟨h1,h2⟩:=Ke h
   exact ⟨h1,.inr (.inr (.inr ⟨cs,cs',rfl,rfl,h2⟩))⟩
theorem XD {b':Ct} {n n':Nat} {K:Prop} (h:Z6 b' n n' K):K∧(n' = 0→b'≠.none→n = 0):=by
 unfold Z6 at h
 split at h
 ·exact ⟨h,fun _ hh=>absurd rfl hh⟩
 ·split at h
  ·rename_i hh; exact ⟨h,fun e _=>hh e⟩
  ·exact h.elim
theorem SH {v v':Nat→Nat}:∀ {S S':AS},Yn v v' S S'→S.length = S'.length∧∀ i,M8 v v' (As S i).av (As S' i).av True∧fN v v' (As S i).box (As S' i).box∧((As S' i).ver = 0→(As S' i).box≠.none→(As S i).ver = 0)
 | [],[],_=>⟨rfl,fun i=>⟨by simp [As,bS,M8],.inl rfl,fun _ h=>absurd rfl h⟩⟩
 | ⟨sv,sb,sn⟩ :: r,⟨sv',sb',sn'⟩ :: r',h=>by
   have h0:M8 v v' sv sv' (Z6 sb' sn sn' (ZL v v' sb sb' (Yn v v' r r'))):=h
   have h1:=RA h0
   have h1':=XD h1.1
   have h2:=XX h1'.1
   obtain ⟨h3,h4⟩:=SH h2.1
   refine ⟨by simp [h3],fun i=>?_⟩
   cases i with
   | zero=>exact ⟨X4 h0,h2.2,h1'.2⟩
   | succ i=>exact h4 i
theorem AB.le0 (h:AB X (fun _=>False) β S a w) {S':AS} (hl:Yn (fun i=>(As S i).ver) (fun i=>(As S' i).ver) S S'):AB X (fun _=>False) β S' a w:=by
 obtain ⟨hlen,hall⟩:=SH hl
 have hbx:=fun i=>(hall i).2.1
 have hown:∀ i,(As S' i).box.owned = true→(As S i).box.owned = true:=by
  intro i ho
  rcases hbx i with h1 | ⟨h1,_⟩ | ⟨sz,e,xs,h1,_⟩ | ⟨cs,cs',h1,h2,_⟩
  ·rw [h1] at ho; cases ho
  ·rw [h1]; exact ho
  ·rw [h1] at ho; cases ho
  ·rw [h1]; rfl
 have hO:∀ b,OS β X S' b→OS β X S b:=by
  intro b hb
  rcases hb with hb | hb | ⟨i,h1,h2⟩
  ·exact .inl hb
  ·exact .inr (.inl hb)
  ·exact .inr (.inr ⟨i,hown i h1,h2⟩)
 have hk:Ck (OS β X S) (OS β X S') w w:=Ck.of_sub hO
 have same:∀ i,(fun i=>(As S i).ver) i < (fun i=>(As S i).ver) i∨((fun i=>(As S i).ver) i = (fun i=>(As S i).ver) i∧β i = β i):=fun i=>.inr ⟨rfl,rfl⟩
 refine ⟨by rw [← hlen]; exact h.len,h.df,h.below,h.hbase,h.o₀,h.rs,?_,?_,?_,?_,?_,?_⟩
 ·intro t u ht
  have hr:=(h.slots t u ht).mono hk (fun _=>.inr ⟨rfl,rfl⟩) (fun _ _=>rfl)
  exact (RA (hall t).1).2 β (OS β X S') w a.tmps u hr
 ·intro i
  have hno:(As S' i).box.owned = false→(As S i).box.owned = true→∀ b,Ax (β i) = some b→¬ OS β X S' b:=by
   intro h1 h2 b hb hh
   have hm:=h.mine i b h2 hb
   rcases hh with hh | hh | ⟨j,h3,h4⟩
   ·have:=h.o₀ b hh; rcases hm.1 with h5 | h5; omega; exact this.2 h5
   ·exact hm.2 hh
   ·have:=h.inj j i b (hown j h3) h2 h4 hb
    rw [this,h1] at h3; cases h3
  have hb:=h.boxes i
  rcases hbx i with h1 | ⟨h1,h2⟩ | ⟨sz,e,xs,h1,h2⟩ | ⟨cs,cs',h1,h2,h3⟩
  ·rw [h1]; trivial
  ·rw [← h1]
   cases hB:(As S i).box with
   | none=>trivial
   | var cs=>exact absurd hB (h2 cs)
   | row sz e xs =>
     rw [hB] at hb
     obtain ⟨k1,k2,vals,k3,k4⟩:=hb
     exact ⟨k1,k2,vals,k3,k4.mono hk⟩
   | fvar cs=>rw [hB] at hb; exact ⟨hb.1.mono hk,hb.2⟩
   | frow sz xs=>rw [hB] at hb; exact A9.mono hk hb
   | map es =>
     rw [hB] at hb
     obtain ⟨b,vs,clock,k1,k2,k3,k4⟩:=hb
     exact ⟨b,vs,clock,k1,k2,k3,fun i e p hv hc=>⟨(k4 i e p hv hc).1.mono hk,(k4 i e p hv hc).2.1.mono hk,(k4 i e p hv hc).2.2⟩⟩
  ·rw [h1]
   have hno':=hno (by rw [h1]; rfl) (by rw [h2]; rfl)
   rw [h2] at hb
   obtain ⟨k1,k2,vals,k3,k4⟩:=hb
   exact Ur k1 k2 k3 (k4.mono hk) hno'
  ·rw [h2]
   rw [h1] at hb
   obtain ⟨b,vals,T,k1,k2,k3,k4⟩:=hb
   refine ⟨b,vals,T,k1,k2,by rw [← h3.1]; exact k3,fun j u c hu hc=>?_⟩
   have hj:j < cs.length:=by rw [h3.1]; exact AI hc
   exact h3.2 β _ w j u cs[j] c (List.getElem?_eq_getElem hj) hc ((k4 j u cs[j] hu (List.getElem?_eq_getElem hj)).mono hk (fun _=>.inr ⟨rfl,rfl⟩))
 ·intro i b hi
  exact h.mine i b (hown i hi)
 ·intro i j b hi hj
  exact h.inj i j b (hown i hi) (hown j hj)
 ·intro t u hu
  have:=(hall t).1
  generalize (As S' t).av = y' at hu this
  cases y' <;> simp [AV.guards] at hu
  simp [M8] at this
 ·intro i h0 hne
  refine h.ini i ((hall i).2.2 h0 hne) fun hh=>?_
  rcases hbx i with h1 | ⟨h1,_⟩ | ⟨sz,e,xs,_,h1⟩ | ⟨cs,cs',h1,_,_⟩
  ·exact hne h1
  ·rw [hh] at h1; exact hne h1.symm
  ·rw [hh] at h1; cases h1
  ·rw [hh] at h1; cases h1
theorem AB.know (h:AB X G β S a w) {t:Nat} {x:D} (hx:∀ v,a.tmps[t]? = some v→A9 (OS β X S) w v x):AB X G β (Eh S t (.d x)) a w:=by
 have hb:∀ i,(As (Eh S t (.d x)) i).box = (As S i).box∧(As (Eh S t (.d x)) i).ver = (As S i).ver:=by
  intro i
  rw [C0]
  split
  ·rename_i e; rw [e.1]; exact ⟨rfl,rfl⟩
  ·exact ⟨rfl,rfl⟩
 have hO:OS β X (Eh S t (.d x)) = OS β X S:=by funext b; simp only [OS,hb]
 have hv:AW (Eh S t (.d x)) = AW S:=by funext i; simp only [AW,hb]
 refine ⟨by rw [Ho]; exact h.len,h.df,h.below,h.hbase,h.o₀,h.rs,?_,?_,?_,?_,?_,?_⟩
 ·intro i v hi
  rw [hO,hv,C0]
  split
  ·rename_i e; rw [e.1] at hi; exact hx v hi
  ·exact h.slots i v hi
 ·intro i; rw [hO,hv,(hb i).1]; exact h.boxes i
 ·intro i b; rw [(hb i).1]; exact h.mine i b
 ·intro i j b; rw [(hb i).1,(hb j).1]; exact h.inj i j b
 ·intro i u hu
  rw [C0] at hu
  split at hu
  ·simp [AV.guards] at hu
  ·exact h.gds i u hu
 ·intro i; rw [(hb i).1,(hb i).2]; exact h.ini i
theorem QC:∀ {frs:List Nat} {S:AS} {K:AS→Prop},Yf frs S K→AB X (fun _=>False) β S a w→∃ S',K S'∧AB X (fun _=>False) β S' a w
 | [],S,K,hy,h=>⟨S,hy,h⟩
 | t :: r,S,K,hy,h=>by
   have hy:VX (ρOf S none (.tmp t)) fun x b=>OH b S fun S=>OW S t (.d x) fun S=>Yf r S K:=hy
   obtain ⟨y,b,hK,hF,_,hh⟩:=I1 (x:=X) (G:=fun _=>False) (a:=a) (ρ_sound h (g:=none) (fun _ _ e=>by cases e) (.tmp t)) hy
   rw [Nn,P6] at hK
   have hr:=hh.now h hF
   refine QC hK ((hF.run h).1.know fun v hv=>?_)
   have:a.eval (.tmp t) = v:=by simp [Act.eval,Array.getD_eq_getD_getElem?,hv]
   rw [this] at hr
   exact hr
theorem AB.le (h:AB X (fun _=>False) β S a w) {S':AS} (hl:Le S S'):AB X (fun _=>False) β S' a w:=by
 obtain ⟨S1,h1,h2⟩:=QC hl h
 exact h2.le0 h1
theorem Tf:∀ {ads:List (Nat × Nat × Nat × TypeId)} {S:AS} {β:Nat→Value} {K:AS→Prop},UE ads S K→AB X (fun _=>False) β S a w→∃ β' S',K S'∧AB X (fun _=>False) β' S' a w
 | [],S,β,K,hy,h=>⟨β,S,hy,h⟩
 | (v,j,q,e) :: r,S,β,K,hy,h=>by
   unfold UE at hy
   split at hy
   ·rename_i av cs n hsv
    split at hy
    ·rename_i s hcj
     obtain ⟨⟨hs0,hvq⟩,hy⟩:=Ar hy
     obtain ⟨hq,hy⟩:=M0 _ _ _ hy
     rw [BG,Nn] at hy
     have hbv:(As S v).box = .var cs:=by rw [hsv]
     have hvv:(As S v).ver = n:=by rw [hsv]
     have hlv:v < S.length:=Od hbv (by simp)
     have hbx:=h.boxes v
     rw [hbv] at hbx
     obtain ⟨b,vals,T,k1,k2,k3,k4⟩:=hbx
     have hj:j < vals.size:=by rw [k3]; exact AI hcj
     have hcell:=k4 j vals[j] _ (by simp [hj]) hcj
     obtain ⟨ad,hval⟩:∃ ad,vals[j] = .slice ad 0 0:=by
      have:=hcell.1
      generalize vals[j] = u at this
      cases this
      exact ⟨_,rfl⟩
     obtain ⟨β',h1,hβ',_⟩:=bO h hq (n:=(As S q).ver + 1) (Nat.lt_succ_self _) (R':=X.R) (fun _ h=>h) (Below.refl _ _) (v:=.slice ad 0 0) (e:=e) (xs:=[]) (vals:=[]) hs0 (fun _ h=>by cases h)
      (by cases ad with
       | none=>exact .inl (World.ownsRow_nil w _ e _)
       | some p=>exact .inr ⟨rfl,rfl,p,rfl⟩) (fun b hb=>by cases ad <;> simp [Ax] at hb) BC.nil
     have h1:AB X (fun _=>False) β' (AR S q (.row s e []) ((As S q).ver + 1)) a w:=h1
     have hβv:β' v = β v:=by rw [hβ']; simp [Nq,hvq]
     have hβq:β' q = .slice ad 0 0:=by rw [hβ']; simp [Nq]
     have hg1:As (AR S q (.row s e []) ((As S q).ver + 1)) v = As S v:=by rw [Ip hq]; simp [hvq]
     have hgq:(As (AR S q (.row s e []) ((As S q).ver + 1)) q).ver = (As S q).ver + 1:=by rw [Ip hq]; simp
     have hbx1:=h1.boxes v
     rw [hg1,hbv] at hbx1
     obtain ⟨b',vals',T',j1,j2,j3,j4⟩:=hbx1
     rw [hβv,k1] at j1
     simp at j1
     subst j1
     rw [k2] at j2
     simp at j2
     obtain ⟨rfl,rfl⟩:=j2
     have hlj:j < cs.length:=AI hcj
     have h2:=h1.rebox (R':=X.R) (id:=v) (B:=.var (splice cs j [.sl q ((As S q).ver + 1)])) (v:=β' v) (n:=n) (w':=w) (fun _ h=>h) (by rw [C9]; exact hlv) (.inr ⟨by rw [hg1,hvv],rfl,by rw [hg1,hbv]; simp⟩) (Nat.le_refl _) (Br.refl _ _ _) (fun _ _ _=>rfl)
      (fun _ b hb=>⟨.inl ⟨hb,by rw [hg1,hbv]; rfl⟩,(h1.mine v b (by rw [hg1,hbv]; rfl) hb).2⟩)
      (fun k hv=>by
       rw [Gk] at k hv ⊢
       refine ⟨b,vals,T,by rw [hβv,k1],k2,?_,fun i u c hu hc=>?_⟩
       ·rw [E4 _ _ _ (by omega)]; simp; omega
       ·rw [E4 _ _ _ (by omega)] at hc
        have hlt:(cs.take j).length = j:=by simp; omega
        rcases Nat.lt_trichotomy i j with hi | hi | hi
        ·rw [List.append_assoc,List.getElem?_append_left (by rw [hlt]; exact hi),List.getElem?_take_of_lt hi] at hc
         exact (j4 i u c hu hc).mono k hv
        ·subst hi
         rw [List.append_assoc,List.getElem?_append_right (by rw [hlt]; exact Nat.le_refl _),hlt] at hc
         simp at hc
         subst hc
         refine Ch.mono k hv ?_
         have:u = vals[i]:=by simp [hj] at hu; exact hu.symm
         rw [this]
         exact ⟨by simp only [AW]; rw [hgq]; exact Nat.le_refl _,fun _=>by rw [hβq,hval]⟩
        ·rw [List.append_assoc,List.getElem?_append_right (by rw [hlt]; omega),hlt] at hc
         rw [show ([C.sl q ((As S q).ver + 1)]++cs.drop (j + [C.sl q ((As S q).ver + 1)].length)) = C.sl q ((As S q).ver + 1) :: cs.drop (j + 1) from rfl] at hc
         rw [show i - j = (i - j - 1) + 1 by omega,List.getElem?_cons_succ,List.getElem?_drop] at hc
         exact (j4 i u c hu (by rw [show i = j + 1 + (i - j - 1) by omega]; exact hc)).mono k hv)
     rw [Gk] at h2
     exact Tf hy h2
    ·exact hy.elim
   ·exact hy.elim
theorem aL (h:AB X (fun _=>False) β S a w) {c:Operand} {b:Bool} (hc:ρOf S none c = .d (.bool b)):a.eval c = .bool b:=by
 have:=ρ_sound h (g:=none) (fun _ _ e=>by cases e) c
 rw [hc] at this
 exact Ey this
def ft (X:Cx) (Q:Exit→AS→Prop) (e:Exit) (a:Act) (w:World):Prop:=∃ β S,Q e S∧AB X (fun _=>False) β S a w
def N7 (P:Program):Prop:=∀ (id:Nat) (ops:Array Oper) (Q:Exit→AS→Prop) (S:AS) (X:Cx) (β:Nat→Value) (a:Act) (w:World),
 aS P [] (.region id ops true) Q S→AB X (fun _=>False) β S a w→(Code.region id ops true).wp P (ft X Q) a w
theorem least (p:Nat→Prop):∀ n,p n→∃ m,p m∧∀ k,p k→m≤k:=by
 intro n
 induction n using Nat.strongRecOn with
 | _ n ih =>
   intro hn
   by_cases hk:∃ k,k < n∧p k
   ·obtain ⟨k,h1,h2⟩:=hk; exact ih k h1 h2
   ·exact ⟨n,hn,fun k hk'=>Nat.le_of_not_lt fun hlt=>hk ⟨k,hlt,hk'⟩⟩
theorem Fh {J:List Nat} (hdraw:N7 P):∀ (c:Code) {Q:Exit→AS→Prop} {S:AS} {β:Nat→Value} {a:Act} {w:World},aS P J c Q S→AB X (fun _=>False) β S a w→c.wp P (ft X Q) a w
 | .skip,Q,S,β,a,w,hy,h=>wp_skip ⟨β,S,hy,h⟩
 | .label _,Q,S,β,a,w,hy,h=>wp_label ⟨β,S,hy,h⟩
 | .region id ops draw,Q,S,β,a,w,hy,h=>by
   cases draw with
   | true=>exact hdraw id ops Q S X β a w hy h
   | false =>
     have hy:e7 P ops.toList [] ops.toList S fun S=>plain S (Q .normal):=hy
     refine wp_region_list (Q5 hy (h.weaken fun _ hf=>hf.elim) fun β' S' a' w' done' hK hs=>?_)
     rw [US] at hK
     exact ⟨β',_,hK,hs.plain⟩
 | .seq x y,Q,S,β,a,w,hy,h=>by
   have hy:match cb J y with
    | false=>aS P J x (fun e S=>match e with | .normal=>aS P J y Q S | e=>Q e S) S
    | true=>U7 S (aS P J x) (aS P J y) Q:=hy
   split at hy
   ·refine wp_seq (wp_mono (Fh hdraw x hy h) fun e a' w' hq=>?_)
    obtain ⟨β',S',hq,hs⟩:=hq
    cases e with
    | normal=>exact Fh hdraw y hq hs
    | exit id=>exact ⟨β',S',hq,hs⟩
    | goto l=>exact ⟨β',S',hq,hs⟩
    | ret=>exact ⟨β',S',hq,hs⟩
    | panic ch=>exact ⟨β',S',hq,hs⟩
    | outgrown=>exact ⟨β',S',hq,hs⟩
   ·obtain ⟨ι,Inv,hx,hall⟩:=hy.go
    simp only [Im] at hall
    refine wp_seq (wp_mono (Fh hdraw x hx h) fun e a' w' hq=>?_)
    obtain ⟨β',S',hq,hs⟩:=hq
    cases e with
    | normal =>
      obtain ⟨i,hle⟩:=hq
      exact Fh hdraw y (hall i) (hs.le hle)
    | exit id=>exact ⟨β',S',hq,hs⟩
    | goto l=>exact ⟨β',S',hq,hs⟩
    | ret=>exact ⟨β',S',hq,hs⟩
    | panic ch=>exact ⟨β',S',hq,hs⟩
    | outgrown=>exact ⟨β',S',hq,hs⟩
 | .cond c x y,Q,S,β,a,w,hy,h=>by
   have hy:match ρOf S none c with
    | .d (.bool b)=>Th b (aS P J x Q S) (aS P J y Q S)
    | _=>False:=hy
   split at hy
   ·rename_i b hb
    exact wp_cond_split (aL h hb) (fun ht=>Fh hdraw x (hy.pos ht) h) (fun hf=>Fh hdraw y (hy.neg hf) h)
   ·exact hy.elim
 | .ret,Q,S,β,a,w,hy,h=>wp_ret ⟨β,S,hy,h⟩
 | .block id c,Q,S,β,a,w,hy,h=>by
   have hy:aS P J c (fun e S=>match e with | .exit id'=>if id' = id then Q .normal S else Q (.exit id') S | e=>Q e S) S:=hy
   refine wp_block (wp_mono (Fh hdraw c hy h) fun e a' w' hq=>?_)
   obtain ⟨β',S',hq,hs⟩:=hq
   cases e with
   | exit id' =>
     simp only [Exit.inBlock] at hq ⊢
     split
     ·rename_i he; rw [if_pos he] at hq; exact ⟨β',S',hq,hs⟩
     ·rename_i he; rw [if_neg he] at hq; exact ⟨β',S',hq,hs⟩
   | normal=>exact ⟨β',S',hq,hs⟩
   | goto l=>exact ⟨β',S',hq,hs⟩
   | ret=>exact ⟨β',S',hq,hs⟩
   | panic ch=>exact ⟨β',S',hq,hs⟩
   | outgrown=>exact ⟨β',S',hq,hs⟩
 | .exit id,Q,S,β,a,w,hy,h=>wp_exit ⟨β,S,hy,h⟩
 | .loop c,Q,S,β,a,w,hy,h=>by
   have hy:Rx S (aS P J c) Q:=hy
   obtain ⟨ads,frs,ι,Inv,μ,i₀,hle,hround⟩:=hy.go
   simp only [Im] at hround
   obtain ⟨β,S,hle,h⟩:=Tf hle h
   obtain ⟨S,hle,h⟩:=QC hle h
   let I:Act→World→Nat→Prop:=fun a w n=>∃ i β,μ i = n∧AB X (fun _=>False) β (Inv i) a w
   have hex:∃ n,I a w n:=⟨_,i₀,β,rfl,h.le hle⟩
   have spec:∀ a w,(∃ n,I a w n)→I a w (Classical.epsilon fun m=>I a w m∧∀ k,I a w k→m≤k)∧∀ k,I a w k→(Classical.epsilon fun m=>I a w m∧∀ k,I a w k→m≤k)≤k :=
    fun a w ⟨n,hn⟩=>Classical.epsilon_spec (p:=fun m=>I a w m∧∀ k,I a w k→m≤k) (least (I a w) n hn)
   refine wp_loop (fun a w=>∃ n,I a w n) (fun a w=>Classical.epsilon fun m=>I a w m∧∀ k,I a w k→m≤k) hex fun a w hI=>?_
   obtain ⟨i,β,hi,hs⟩:=(spec a w hI).1
   refine wp_mono (Fh hdraw c (hround i) hs) fun e a' w' hq=>?_
   obtain ⟨β',S',hq,hs'⟩:=hq
   cases e with
   | normal =>
     obtain ⟨j,hlj,hlt⟩:=hq
     have hI':I a' w' (μ j):=⟨j,β',rfl,hs'.le hlj⟩
     refine ⟨⟨_,hI'⟩,?_⟩
     have:=(spec a' w' ⟨_,hI'⟩).2 _ hI'
     rw [← hi]
     exact Nat.lt_of_le_of_lt this hlt
   | exit id=>exact ⟨β',S',hq,hs'⟩
   | goto l=>exact ⟨β',S',hq,hs'⟩
   | ret=>exact ⟨β',S',hq,hs'⟩
   | panic ch=>exact ⟨β',S',hq,hs'⟩
   | outgrown=>exact ⟨β',S',hq,hs'⟩
 | .scope _,_,_,_,_,_,hy,_=>hy.elim
 | .goto _,_,_,_,_,_,hy,_=>hy.elim
 | .refuse _,_,_,_,_,_,hy,_=>hy.elim
 | .rangeFunc _ _ _ _,_,_,_,_,_,hy,_=>hy.elim
end
end Go.Abs
