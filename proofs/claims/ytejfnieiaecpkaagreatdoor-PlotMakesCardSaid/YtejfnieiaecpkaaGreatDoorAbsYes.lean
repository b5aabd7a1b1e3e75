/- The abstract machine: arguments, function values, calls. -/
import Derived.Test.YtejfnieiaecpkaaGreatDoorAbsCall
set_option linter.unusedVariables false
set_option linter.unusedSimpArgs false
namespace Go.Abs
open Go.RowKit (Below)
section
variable {P:Program} {X:Cx} {G:Nat→Prop} {β:Nat→Value} {S:AS} {a:Act} {w:World} {o:Oper}
theorem Qm {O O':Nat→Prop} {w w':World} {v:Value} {y:D} (h:A9 O w v y) (hb:y.bare = true):A9 O' w' v y:=by
 cases h with
 | bool b=>exact .bool b
 | int k n=>exact .int k n
 | str s=>exact .str s
 | fn f vs xs hl h1 h =>
   cases xs with
   | nil=>exact .fn f vs [] hl h1 fun i v y _ hy=>by simp at hy
   | cons q r=>simp [D.bare] at hb
 | ptr=>simp [D.bare] at hb
 | agg=>simp [D.bare] at hb
 | nil a sz=>exact .nil a sz
 | emp a cap sz=>exact .emp a cap sz
 | list b off cap sz xs c hne=>cases xs with
   | nil=>exact absurd rfl hne
   | cons q r=>simp [D.bare] at hb
theorem NG (h:AB X G β S a w) {cs:List C} {K:List D→Bx→Prop} (hy:Ev (σOf S) cs fun l b=>Ot l fun l=>K l b) :
 ∃ l b,K l b∧FZ S [] b∧(∀ z∈b,∃ sz xs,z.2.1 = .frow sz xs)∧JO S b cs l ∧
   ∀ vs:List Value,vs.length = cs.length→(∀ (j:Nat) v c,vs[j]? = some v→cs[j]? = some c→Ch β (AW S) (OS β X S) w v c)→JI X G β S a w b fun O=>BC O w vs l:=by
 obtain ⟨l,b,hK,hF,hfr,hl,hc,hh⟩:=Lf h hy
 rw [QR] at hK
 refine ⟨_,b,hK,hF,hfr,⟨by simp [hl],fun j c y hcj hyj=>?_⟩,fun vs hv hr=>(hh vs hv hr).mono (fun _ h=>h) fun O h=>h.norm⟩
 simp only [List.getElem?_map] at hyj
 cases hz:l[j]? with
 | none=>simp [hz] at hyj
 | some z =>
   simp [hz] at hyj
   subst hyj
   have:=hc j c z hcj hz
   cases c with
   | d q=>rw [this]
   | sl id n =>
     obtain ⟨sz,xs,h1,h2,h3⟩:=this
     exact ⟨sz,xs,by rw [h1]; rfl,h2,h3⟩
   | own _ _ _=>exact this
theorem Mr (h:AB X G β S a w) {r:RV} {v:Value} (hr:NN β (OS β X S) S w v r) {K:AV→Bx→Prop} (hy:Og (σOf S) r K) :
 ∃ y b,K y b∧FZ S [] b∧y.mut = false∧JI X G β S a w b fun O=>QY O w v y:=by
 cases r <;> simp only [Og] at hy
 case any=>exact ⟨_,[],hy,trivial,rfl,fun _ _ _ _ _=>trivial⟩
 case d y =>
  rw [RN] at hy
  exact ⟨_,[],hy,trivial,rfl,fun B _ _ _ hk=>(A9.mono (Ck.of_sub hk) hr).norm⟩
 case lim sz xs=>exact ⟨_,[],hy,trivial,rfl,fun B _ _ _ hk=>A9.mono (Ck.of_sub hk) hr.1⟩
 case vptr id n off cs =>
  obtain ⟨l,b,hK,hF,hfr,hcd,hh⟩:=NG h hy
  rw [BG] at hK
  obtain ⟨h1,h2,bb,h3,h4⟩:=hr
  have hF2:FZ S [] (b++[(id,.fvar l,n)]):=hF.snoc ⟨h2,.inr (.inl ⟨cs,l,h1,rfl,by simpa using hcd⟩)⟩
  refine ⟨_,_,hK,hF2,rfl,fun B hB hf hs hk=>?_⟩
  have hbx:=hs.boxes id
  rw [hf.mem (id,.fvar l,n) (hB _ (by simp))] at hbx
  obtain ⟨h5,_⟩:=hbx
  rw [h3] at h5
  have:=h5.drop off
  rw [Nat.zero_add] at this
  show A9 _ _ _ _
  rw [h4]; exact this
 case row id n sz e xs =>
  obtain ⟨h1,h2,h3⟩:=hr
  refine ⟨_,_,hy,⟨⟨h2,.inl ⟨sz,e,xs,h1,rfl⟩⟩,trivial⟩,rfl,fun B hB hf hs hk=>?_⟩
  have hbx:=hs.boxes id
  rw [hf.mem (id,.frow sz xs,n) (hB _ (by simp))] at hbx
  show A9 _ _ _ _
  rw [h3]; exact hbx
 case eptr id n sz e xs i off =>
  obtain ⟨h1,h2,bb,m,cap,h3,h4⟩:=hr
  obtain ⟨_,y,hy1,hK⟩:=hy.go
  simp only [Int.toNat_natCast] at hy1
  rw [BG] at hK
  refine ⟨_,_,hK,⟨⟨h2,.inl ⟨sz,e,xs,h1,rfl⟩⟩,trivial⟩,rfl,fun B hB hf hs hk=>?_⟩
  have hbx:=hs.boxes id
  rw [hf.mem (id,.frow sz xs,n) (hB _ (by simp))] at hbx
  show A9 _ _ _ _
  have hbx:A9 _ _ _ _:=hbx
  rw [h3] at hbx
  rw [h4]
  generalize hvv:Value.slice (some ⟨bb,0,none⟩) m cap = vv at hbx
  cases hbx with
  | emp=>simp at hy1
  | list b' off' cap' _ _ c hne hb hO hcap hszs h1' hcell hrep =>
    simp at hvv
    obtain ⟨⟨rfl,rfl⟩,_,_⟩:=hvv
    have:=A9.ptr (O:=OS β X (Bo B S)) (w:=w) bb (0 + i * sz) y.cells (fun j=>c i j) (fun _=>hb) (fun _=>hO) (fun z hz=>h1' y (List.mem_of_getElem? hy1) z hz) (fun j z hz=>hcell _ _ _ _ hy1 hz) (fun j z hz=>hrep _ _ _ _ hy1 hz)
    have:=this.drop off
    rwa [Nat.zero_add] at this
theorem SP {t:TypeId} {K:AV→Prop} (hy:VP P t K):∃ y,K (.d y)∧∀ (O:Nat→Prop) (w:World),A9 O w (.slice none 0 0) y:=by
 unfold VP at hy
 split at hy
 ·exact ⟨_,hy,fun _ _=>.emp _ _ _⟩
 ·exact hy.elim
theorem Li (h:AB X G β S a w) {g:Option (Nat × Bool)} (hg:BN g a):∀ {args:List Operand} {ts:List TypeId} {K:List AV→Bx→Prop},Hc P (σOf S) (ρOf S g) args ts K →
 ∃ vs b,K vs b∧FZ S [] b∧vs.length = args.length∧JI X G β S a w b fun O=>∀ (i:Nat) p y,args[i]? = some p→vs[i]? = some y→QY O w (a.eval p) y
 | [],ts,K,hy=>⟨[],[],hy,trivial,rfl,fun _ _ _ _ _ i p y hp _=>by simp at hp⟩
 | q :: r,ts,K,hy=>by
   unfold Hc at hy
   split at hy
   ·rename_i hnil
    cases ts with
    | nil=>exact hy.elim
    | cons t ts =>
      obtain ⟨y,hy,hrep⟩:=SP hy
      obtain ⟨vs,bs,hK,hFs,hl,hreps⟩:=Li h hg hy
      refine ⟨_,_,hK,hFs,by simp [hl],hreps.mono (fun _ h=>h) fun O hh i p z hp hz=>?_⟩
      cases i with
      | zero=>simp at hp hz; subst hp; subst hz; rw [PC hnil]; exact hrep O w
      | succ i=>exact hh i p z (by simpa using hp) (by simpa using hz)
   ·obtain ⟨y,b,hK,hF,_,hrep⟩:=Mr h (ρ_sound h hg q) hy
    obtain ⟨vs,bs,hK,hFs,hl,hreps⟩:=Li h hg hK
    refine ⟨_,_,hK,hF.append hFs,by simp [hl],(hrep.and hreps).mono (fun _ h=>h) fun O hh i p z hp hz=>?_⟩
    cases i with
    | zero=>simp at hp hz; subst hp; subst hz; exact hh.1
    | succ i=>exact hh.2 i p z (by simpa using hp) (by simpa using hz)
def TP (β:Nat→Value) (S:AS) (b:Bx) (v:Value) (id n:Nat):AV→Prop
 | .own sz e xs=>(As S id).box = .row sz e xs∧(As S id).ver = n∧v = β id
 | .optr l=>∃ cs,(As S id).box = .var cs∧(As S id).ver = n∧v = β id∧JO S b cs l
 | _=>False
theorem TP.mono {b b':Bx} (hb:∀ y∈b,y∈b') {v:Value} {id n:Nat} {y:AV} (h:TP β S b v id n y):TP β S b' v id n y:=by
 cases y <;> first | exact h | (obtain ⟨cs,h1,h2,h3,h4⟩:=h; exact ⟨cs,h1,h2,h3,h4.mono hb⟩)
theorem Xe (h:AB X G β S a w) {r:RV} {v:Value} (hr:NN β (OS β X S) S w v r) {K:AV→Bx→Option (Nat × Nat)→Prop} (hy:Q3 (σOf S) r K) :
 ∃ y b u,K y b u∧FZ S [] b∧match u with
   | none=>y.mut = false∧JI X G β S a w b fun O=>QY O w v y
   | some (id,n)=>TP β S b v id n y:=by
 unfold Q3 at hy
 split at hy
 ·rename_i id n sz e xs
  exact ⟨_,[],some (id,n),hy,trivial,hr⟩
 ·rename_i id n cs
  obtain ⟨l,b,hK,hF,hfr,hcd,hh⟩:=NG h hy
  obtain ⟨h1,h2,bb,h3,h4⟩:=hr
  exact ⟨_,b,some (id,n),hK,hF,cs,h1,h2,by rw [h4,h3],hcd⟩
 ·obtain ⟨y,b,hK,hF,hm,hrep⟩:=Mr h hr hy
  exact ⟨y,b,none,hK,hF,hm,hrep⟩
theorem MO (h:AB X G β S a w) {g:Option (Nat × Bool)} (hg:BN g a):∀ {args:List Operand} {ts:List TypeId} {K:List AV→Bx→List (Option (Nat × Nat))→Prop},FD P (σOf S) (ρOf S g) args ts K →
 ∃ vs b us,K vs b us∧FZ S [] b∧vs.length = args.length∧us.length = args.length ∧
   (∀ (i:Nat) p y id n,args[i]? = some p→vs[i]? = some y→us[i]? = some (some (id,n))→TP β S b (a.eval p) id n y) ∧
   (∀ (i:Nat) y,vs[i]? = some y→us[i]? = some none→y.mut = false) ∧
   JI X G β S a w b fun O=>∀ (i:Nat) p y,args[i]? = some p→vs[i]? = some y→us[i]? = some none→QY O w (a.eval p) y
 | [],ts,K,hy=>⟨[],[],[],hy,trivial,rfl,rfl,(fun i p y id n hp=>by simp at hp),(fun i y hy=>by simp at hy),fun _ _ _ _ _ i p y hp _=>by simp at hp⟩
 | q :: r,ts,K,hy=>by
   unfold FD at hy
   split at hy
   ·rename_i hnil
    cases ts with
    | nil=>exact hy.elim
    | cons t ts =>
      obtain ⟨y,hy,hrep⟩:=SP hy
      obtain ⟨vs,bs,us,hK,hFs,hl,hl2,hmut,hnm,hreps⟩:=MO h hg hy
      refine ⟨_,_,_,hK,hFs,by simp [hl],by simp [hl2],fun i p z id n hp hz hu=>?_,fun i z hz hu=>?_,hreps.mono (fun _ h=>h) fun O hh i p z hp hz hu=>?_⟩
      ·cases i with
       | zero=>simp at hu
       | succ i=>exact hmut i p z id n (by simpa using hp) (by simpa using hz) (by simpa using hu)
      ·cases i with
       | zero=>simp at hz; subst hz; rfl
       | succ i=>exact hnm i z (by simpa using hz) (by simpa using hu)
      ·cases i with
       | zero=>simp at hp hz; subst hp; subst hz; rw [PC hnil]; exact hrep O w
       | succ i=>exact hh i p z (by simpa using hp) (by simpa using hz) (by simpa using hu)
   ·obtain ⟨y,b,u,hK,hF,hu⟩:=Xe h (ρ_sound h hg q) hy
    obtain ⟨vs,bs,us,hK,hFs,hl,hl2,hmut,hnm,hreps⟩:=MO h hg hK
    refine ⟨_,_,_,hK,hF.append hFs,by simp [hl],by simp [hl2],fun i p z id n hp hz huu=>?_,fun i z hz huu=>?_,?_⟩
    ·cases i with
     | zero=>simp at hp hz huu; subst hp; subst hz; subst huu; exact hu.mono fun y hy=>by simp [hy]
     | succ i=>exact (hmut i p z id n (by simpa using hp) (by simpa using hz) (by simpa using huu)).mono fun y hy=>by simp [hy]
    ·cases i with
     | zero=>simp at hz huu; subst hz; subst huu; exact hu.1
     | succ i=>exact hnm i z (by simpa using hz) (by simpa using huu)
    ·intro B hB hf hs hk i p z hp hz huu
     cases i with
     | zero=>simp at hp hz huu; subst hp; subst hz; subst huu; exact hu.2 B (fun y hy=>hB y (by simp [hy])) hf hs hk
     | succ i=>exact hreps B (fun y hy=>hB y (by simp [hy])) hf hs hk i p z (by simpa using hp) (by simpa using hz) (by simpa using huu)
theorem R1 (h:AB X G β S a w) {g:Option (Nat × Bool)} (hg:BN g a):∀ {args:List Operand} {K:List D→Bx→Prop},Ib (σOf S) (ρOf S g) args K →
 ∃ l b,K l b∧FZ S [] b∧l.length = args.length∧(∀ y∈l,y.one = true)∧JI X G β S a w b fun O=>∀ (i:Nat) p y,args[i]? = some p→l[i]? = some y→A9 O w (a.eval p) y
 | [],K,hy=>⟨[],[],hy,trivial,rfl,(fun _ h=>by cases h),fun _ _ _ _ _ i p y hp _=>by simp at hp⟩
 | q :: r,K,hy=>by
   unfold Ib at hy
   obtain ⟨y,b,hK,hF,_,hrep⟩:=Mr h (ρ_sound h hg q) hy
   split at hK
   ·rename_i yd
    obtain ⟨h1,hK⟩:=Ar hK
    obtain ⟨l,bs,hK,hFs,hl,ho,hreps⟩:=R1 h hg hK
    refine ⟨_,_,hK,hF.append hFs,by simp [hl],fun z hz=>?_,(hrep.and hreps).mono (fun _ h=>h) fun O hh i p z hp hz=>?_⟩
    ·rcases List.mem_cons.1 hz with rfl | hz
     ·exact h1
     ·exact ho z hz
    ·cases i with
     | zero=>simp at hp hz; subst hp; subst hz; exact hh.1
     | succ i=>exact hh.2 i p z (by simpa using hp) (by simpa using hz)
   ·exact hK.elim
theorem VB (h:AB X G β S a w) {g:Option (Nat × Bool)} (hg:BN g a) {f:FuncId} {first caps:Array Operand} (ho:o.op = .makeFunc (.func f) first caps) (hf:first.toList = []) {K:GD→Prop}
 (hy:Ib (σOf S) (ρOf S g) caps.toList fun l b=>K ⟨.d (.fn f l),b,[]⟩):∃ e,K e∧Dh P X G S a w o e:=by
 obtain ⟨l,b,hK,hF,hl,ho1,hrep⟩:=R1 h hg hy
 obtain ⟨h1,_,_⟩:=hF.run h
 have hr:=hrep.now h hF
 refine ⟨_,hK,.inl ⟨.func (.func f) #[] (caps.map a.eval),w,?_,β,h1,?_,rfl⟩⟩
 ·have:first = #[]:=by cases first; simp_all
  simp [execOp,ho,Instr.makeFunc,this]
 ·refine .fn f _ _ (by simp [hl]) ho1 fun i v y hv hy=>?_
  rw [Array.getElem?_map] at hv
  cases hc:caps[i]? with
  | none=>simp [hc] at hv
  | some p=>simp [hc] at hv; subst hv; exact hr i p y (by simpa using hc) hy
theorem IQ {f:FuncId} (hc:GG P f = true) (args:Array Value):(callFunc f args).run P w = .ok (.enter f args) w:=by
 unfold GG at hc
 split at hc
 ·rename_i fn hf
  simp only [Bool.and_eq_true,Bool.not_eq_true'] at hc
  have hb:fn.body.isNone = false:=by cases hfb:fn.body <;> simp [hfb] at hc ⊢
  simp only [callFunc,Sem.run_bind,run_program,Result.andThen_ok,hf]
  simp only [hc.1,hb,Bool.false_eq_true,if_false,Sem.run_pure]
 ·cases hc
theorem Kv:∀ (l:List D) (K:List AV→Prop),UU l K = K (l.map .d)
 | [],_=>rfl
 | x :: r,K=>by rw [UU,Kv r]; rfl
theorem S4:∀ (b:Bx) (S:AS) (i:Nat),(∀ y∈b,y.1 < S.length)→(b.map (·.1)).Nodup→As (Bo b S) i = match b.find? (fun y=>y.1==i) with | some y=>⟨(As S i).av,y.2.1,y.2.2⟩ | none=>As S i
 | [],_,_,_,_=>rfl
 | (id,B,n) :: r,S,i,hl,hn=>by
   simp only [List.map_cons,List.nodup_cons] at hn
   have hid:id < S.length:=hl (id,B,n) (by simp)
   simp only [Bo]
   rw [S4 r _ i (fun y hy=>by rw [C9]; exact hl y (by simp [hy])) hn.2,Ip hid]
   by_cases he:id = i
   ·subst he
    have hnone:r.find? (fun y=>y.1==id) = none:=by
     rw [List.find?_eq_none]
     intro y hy hh
     simp at hh
     exact hn.1 (List.mem_map.2 ⟨y,hy,hh⟩)
    rw [hnone]
    simp
   ·have he':¬ i = id:=fun h=>he h.symm
    have hb:(id==i) = false:=by simp [he]
    simp only [List.find?_cons,hb,he',if_false]
end
end Go.Abs
