/- The abstract machine: calls. -/
import Derived.Test.YtejfnieiaecpkaaGreatDoorAbsPost
set_option linter.unusedVariables false
set_option linter.unusedSimpArgs false
namespace Go.Abs
open Go.RowKit (Below)
section
variable {P:Program} {X:Cx} {G:Nat→Prop} {β:Nat→Value} {S:AS} {a:Act} {w:World} {o:Oper}
theorem dJ {O O':Nat→Prop} {w w':World} {v:Value} {y:D} (h:A9 O w v y) (hb:(AV.d y).bare = true):A9 O' w' v y:=by
 cases h with
 | agg vs xs hl h1 h =>
   simp only [AV.bare,List.all_eq_true] at hb
   exact .agg vs xs hl h1 fun i v x hv hx=>Qm (h i v x hv hx) (hb x (List.mem_of_getElem? hx))
 | bool b=>exact .bool b
 | int k n=>exact .int k n
 | str s=>exact .str s
 | fn f vs xs hl h1 h=>exact Qm (.fn f vs xs hl h1 h) hb
 | ptr b off cs c hb' hO h1 hcell h=>simp [AV.bare,D.bare] at hb
 | nil a sz=>exact .nil a sz
 | emp a cap sz=>exact .emp a cap sz
 | list b off cap sz xs c hne hb' hO hcap hsz h1 hcell h=>exact Qm (.list b off cap sz xs c hne hb' hO hcap hsz h1 hcell h) hb
theorem DI.bare {mine O:Nat→Prop} {v:Value} {r:AV} (h:DI mine O w v r) (hb:r.bare = true):DI mine (fun _=>True) w v r:=by
 cases r <;> try (simp [AV.bare] at hb; done)
 case d x =>
  have h':A9 O w v x:=h
  clear h
  show A9 _ _ _ _
  exact dJ h' hb
 case tup xs =>
  simp only [AV.bare,List.all_eq_true] at hb
  obtain ⟨vs,h1,h2,h3,h4⟩:=h
  refine ⟨vs,h1,h2,fun i u c hu hc=>?_,h4⟩
  have:=h3 i u c hu hc
  have hbc:=hb c (List.mem_of_getElem? hc)
  cases c with
  | d y=>exact dJ this (by cases y <;> exact hbc)
  | own sz e ys=>exact this
  | sl _ _=>exact this
 case own sz e xs=>exact h
theorem DI.mono {mine mine' O O':Nat→Prop} {v:Value} {r:AV} (hm:∀ b,mine b→mine' b) (hO:∀ b,O' b→O b) (h:DI mine O w v r):DI mine' O' w v r:=by
 cases r with
 | own sz e xs=>exact ⟨h.1,h.2.1,fun b hb=>hm b (h.2.2.1 b hb),h.2.2.2⟩
 | optr cs =>
   refine ⟨fun b hb=>hm b (h.1 b hb),?_⟩
   obtain ⟨b,vals,T,h1,h2,h3⟩:=h.2
   exact ⟨b,vals,T,h1,h2,h3.mono (Ck.of_sub fun b hb=>hb.imp (hO b) (fun h=>h))⟩
 | tup xs =>
   obtain ⟨vs,h1,h2,h3,h4⟩:=h
   refine ⟨vs,h1,h2,fun i u c hu hc=>?_,h4⟩
   have:=h3 i u c hu hc
   cases c with
   | d y=>exact A9.mono (Ck.of_sub fun b hb=>hb.imp (hO b) (fun h=>h)) this
   | own sz e ys=>exact ⟨this.1,this.2.1,fun b hb=>hm b (this.2.2.1 b hb),this.2.2.2⟩
   | sl _ _=>exact this
 | cc _ _=>exact h.elim
 | any=>trivial
 | d x=>exact A9.mono (Ck.of_sub hO) (show A9 O w v x from h)
 | lim sz xs =>
   have h':A9 O w v (.list sz xs)∧PR v = xs.length:=h
   exact ⟨h'.1.mono (Ck.of_sub hO),h'.2⟩
 | bot | ptr _ _ _ | sl _ _ | eptr _ _ _ _ _ | under _ _ _=>exact h.elim
theorem S6 {b:Bx} {T:AS} (hf:Fr S b T) (h:AB X G β T a w) {cs:List C} {l:List D} (hcd:JO S b cs l) {vals:List Value} (hvl:vals.length = cs.length) (hvc:∀ (j:Nat) v c,vals[j]? = some v→cs[j]? = some c→Ch β (AW T) (OS β X T) w v c) :
 BC (OS β X T) w vals l:=by
 refine ⟨by rw [hvl]; exact hcd.1,fun j v z hv hz=>?_⟩
 have hj:j < cs.length:=by rw [hcd.1]; exact AI hz
 have hcc:=hvc j v cs[j] hv (List.getElem?_eq_getElem hj)
 have hc2:=hcd.2 j cs[j] z (List.getElem?_eq_getElem hj) hz
 generalize cs[j] = c at hcc hc2
 cases c with
 | d q=>rw [hc2]; exact ⟨hcc.1.norm1,P8 q hcc.2⟩
 | sl id n =>
   obtain ⟨sz,xs,k1,k2,k3⟩:=hc2
   have hfr:(As T id).box = .frow sz xs:=by
    rcases k3 with ⟨_,k3⟩ | k3
    ·exact hf.mem _ k3
    ·rw [hf.keepF id (by rw [k3]; rfl)]; exact k3
   have hbb:=h.boxes id
   rw [hfr] at hbb
   have hv2:=hcc.2 (by simp only [AW]; rw [hf.ver]; exact k2.symm)
   rw [k1,hv2]
   exact ⟨hbb,rfl⟩
 | own sz e xs=>exact hc2.elim
def Wk (y:Nat × Ct × Nat) (n:Nat):AV→Prop
 | .own sz e ys=>y.2.1 = .row sz e ys∧y.2.2 = n
 | .optr cs=>y.2.1 = .var (cs.map .d)∧y.2.2 = n
 | .any=>y.2.1 = .none∧y.2.2 = n + 1
 | _=>False
theorem Ph:∀ {us:List (Option (Nat × Nat))} {outs:List AV} {K:Bx→Prop},Lx us outs K →
 ∃ ub,K ub∧(ub.map (·.1)).Nodup∧(∀ (i id n:Nat),us[i]? = some (some (id,n))→∃ y∈ub,y.1 = id∧∃ q,outs[i]? = some q∧Wk y n q)∧(∀ y∈ub,∃ (i n:Nat) (q:AV),us[i]? = some (some (y.1,n))∧outs[i]? = some q∧Wk y n q) ∧
   ∀ (i j id n n':Nat),us[i]? = some (some (id,n))→us[j]? = some (some (id,n'))→i = j
 | [],[],K,hy=>⟨[],hy,by simp,(fun i id n h=>by simp at h),(fun y hy=>by cases hy),fun i j id n n' h=>by simp at h⟩
 | [],_ :: _,K,hy=>hy.elim
 | none :: us,[],K,hy=>hy.elim
 | none :: us,q :: os,K,hy=>by
   have hy:Lx us os K:=hy
   obtain ⟨ub,hK,h1,h2,h3,h4⟩:=Ph hy
   refine ⟨ub,hK,h1,fun i id n hi=>?_,fun y hy=>?_,fun i j id n n' hi hj=>?_⟩
   ·cases i with
    | zero=>simp at hi
    | succ i=>obtain ⟨y,hy,e,q',hq,ho⟩:=h2 i id n (by simpa using hi); exact ⟨y,hy,e,q',by simpa using hq,ho⟩
   ·obtain ⟨i,n,q',k1,k2,k3⟩:=h3 y hy
    exact ⟨i + 1,n,q',by simpa using k1,by simpa using k2,k3⟩
   ·cases i with
    | zero=>simp at hi
    | succ i=>cases j with
      | zero=>simp at hj
      | succ j=>rw [h4 i j id n n' (by simpa using hi) (by simpa using hj)]
 | some (id,n) :: us,[],K,hy=>hy.elim
 | some (id,n) :: us,q :: os,K,hy=>by
   have step:∀ (B:Ct) (m:Nat),Wk (id,B,m) n q→(Lx us os fun b=>if HB id b = true then K ((id,B,m) :: b) else False)→∃ ub,K ub∧(ub.map (·.1)).Nodup∧(∀ (i id' n':Nat),(some (id,n) :: us)[i]? = some (some (id',n'))→∃ y∈ub,y.1 = id'∧∃ p,(q :: os)[i]? = some p∧Wk y n' p)∧(∀ y∈ub,∃ (i n':Nat) (p:AV),(some (id,n) :: us)[i]? = some (some (y.1,n'))∧(q :: os)[i]? = some p∧Wk y n' p) ∧
    ∀ (i j id' n1 n':Nat),(some (id,n) :: us)[i]? = some (some (id',n1))→(some (id,n) :: us)[j]? = some (some (id',n'))→i = j:=by
    intro B m ho hy
    obtain ⟨ub,hK,h1,h2,h3,h4⟩:=Ph hy
    obtain ⟨hni,hK⟩:=Ar hK
    have notail:∀ (j n':Nat),us[j]?≠some (some (id,n')):=by
     intro j n' hj
     obtain ⟨y,hy,e,_⟩:=h2 j id n' hj
     exact EW hni y hy e
    refine ⟨_,hK,?_,fun i id' n' hi=>?_,fun y hy=>?_,fun i j id' n1 n' hi hj=>?_⟩
    ·simp only [List.map_cons,List.nodup_cons]
     refine ⟨fun hm=>?_,h1⟩
     obtain ⟨y,hy,e⟩:=List.mem_map.1 hm
     exact EW hni y hy e
    ·cases i with
     | zero =>
       simp at hi
       obtain ⟨rfl,rfl⟩:=hi
       exact ⟨_,by simp,rfl,q,rfl,ho⟩
     | succ i=>obtain ⟨y,hy,e,q',hq,ho'⟩:=h2 i id' n' (by simpa using hi); exact ⟨y,by simp [hy],e,q',by simpa using hq,ho'⟩
    ·rcases List.mem_cons.1 hy with rfl | hy
     ·exact ⟨0,n,q,rfl,rfl,ho⟩
     ·obtain ⟨i,n',q',k1,k2,k3⟩:=h3 y hy
      exact ⟨i + 1,n',q',by simpa using k1,by simpa using k2,k3⟩
    ·cases i with
     | zero=>cases j with
       | zero=>rfl
       | succ j=>simp at hi hj; rw [← hi.1] at hj; exact absurd hj (notail j n')
     | succ i=>cases j with
       | zero=>simp at hi hj; rw [← hj.1] at hi; exact absurd hi (notail i n1)
       | succ j=>rw [h4 i j id' n1 n' (by simpa using hi) (by simpa using hj)]
   cases q <;> try exact hy.elim
   case any=>exact step .none (n + 1) ⟨rfl,rfl⟩ hy
   case own sz e ys=>exact step (.row sz e ys) n ⟨rfl,rfl⟩ hy
   case optr cs =>
    have hy:Xq cs fun l=>Lx us os fun b=>if HB id b = true then K ((id,.var l,n) :: b) else False:=hy
    rw [O7] at hy
    exact step (.var (cs.map .d)) n ⟨rfl,rfl⟩ hy
theorem ZE {O:Nat→Prop} {v:Value} {f:FuncId} {cs:List D} (h:A9 O w v (.fn f cs)):∃ vs:Array Value,v = .func (.func f) #[] vs∧vs.size = cs.length∧∀ (i:Nat) u y,vs[i]? = some u→cs[i]? = some y→A9 O w u y:=by
 cases h with
 | fn _ vs _ hl h1 h=>exact ⟨vs,rfl,hl,h⟩
theorem ak (h:AB X G β S a w) {g:Option (Nat × Bool)} (hg:BN g a) {d:Nat} (hd:d < S.length) {c:Call} (ho:o.op = .call c) {fo:Operand} (hc:c.callee = .value fo) {f:FuncId} {caps:List D} (hf:ρOf S g fo = .d (.fn f caps))
 {K:GD→Prop} (hy:UU caps fun cv=>Hc P (σOf S) (ρOf S g) c.args.toList c.argTypes.toList fun vs bs=>FD P (σOf S) (ρOf S g) c.args.toList c.argTypes.toList fun ms mb us =>
  Mf P f (vs++cv) (fun r=>Yg r bs fun b=>ba d (As S d).ver r b K)
   (ms++cv) (fun outs r=>Lx (us++cv.map fun _=>none) outs fun ub=>if ub.all (fun x=>HB x.1 mb) = true then ba d (As S d).ver r (mb++ub) K else False)) :
 ∃ e,K e∧(FH S e.homes = true→Dh P X G S a w o e):=by
 rw [Kv] at hy
 obtain ⟨vs,bs,hy,hF,hlen,hrep⟩:=Li h hg hy
 obtain ⟨ms,mb,us,hK,hMF,hmlen,hulen,hmut,hnm,hmrep⟩:=MO h hg hy
 have hfv:=ρ_sound h hg fo
 rw [hf] at hfv
 obtain ⟨capv,hfe,hcl,hcr⟩:=ZE hfv
 have hrun:GG P f = true→(execOp a.eval o).run P w = .ok (.enter f (c.args.map a.eval++capv)) w:=by
  intro hcal
  simp only [execOp,ho,resolve,hc,hfe,Deferred.ofValue,Sem.run_bind,Sem.run_pure,Result.andThen_ok,invoke]
  simp only [Array.empty_append]
  rw [IQ hcal]
 have hval:∀ (i:Nat) v,(c.args.map a.eval++capv)[i]? = some v→(∃ p,c.args.toList[i]? = some p∧v = a.eval p)∨(c.args.size≤i∧capv[i - c.args.size]? = some v):=by
  intro i v hv
  rcases Nat.lt_or_ge i c.args.size with hi | hi
  ·rw [Array.getElem?_append_left (by simpa using hi)] at hv
   simp [hi] at hv
   exact .inl ⟨c.args[i],by simp [hi],hv.symm⟩
  ·rw [Array.getElem?_append_right (by simpa using hi)] at hv
   exact .inr ⟨hi,by simpa using hv⟩
 rcases hK.go with ⟨r,hcall,hK⟩ | ⟨outs,r,hcall,hK⟩
 ·
  obtain ⟨h1,h2,h3⟩:=hF.run h
  have hargs:=hrep.now h hF
  have hsize:(c.args.map a.eval++capv).size = (vs++caps.map AV.d).length:=by simp [hlen,hcl]
  have hreps:∀ (i:Nat) v y,(c.args.map a.eval++capv)[i]? = some v→(vs++caps.map AV.d)[i]? = some y→QY (OS β X (Bo bs S)) w v y:=(fun i v y hv hy=>by
   rcases hval i v hv with ⟨p,hp,rfl⟩ | ⟨hi,hv⟩
   ·rw [List.getElem?_append_left (by rw [hlen]; exact AI hp)] at hy
    exact hargs i p y hp hy
   ·rw [List.getElem?_append_right (by rw [hlen]; simpa using hi),hlen] at hy
    simp only [List.getElem?_map,Array.length_toList] at hy
    cases hz:caps[i - c.args.size]? with
    | none=>simp [hz] at hy
    | some z=>simp [hz] at hy; subst hy; exact (hcr _ v z hv hz).mono (Ck.of_sub h2))
  have hrunX:∀ v,(callFunc f (c.args.map a.eval++capv)).run P w = .ok (.value v) w→(execOp a.eval o).run P w = .ok (.value v) w:=by
   intro v hv
   simp only [execOp,ho,resolve,hc,hfe,Deferred.ofValue,Sem.run_bind,Sem.run_pure,Result.andThen_ok,invoke]
   simp only [Array.empty_append]
   rw [hv]
  have fin:∀ {e:GD},(∀ v w',Below w.heap.size w w'→DI (fun b=>w.heap.size≤b) (OS β X (Bo bs S)) w' v r→Qj X G S a e v w')→Dh P X G S a w o e:=by
   intro e hpost
   rcases hcall with hcall | hcall
   ·exact .inr (.inr ⟨f,_,hrun hcall.1,(hcall.2 (OS β X (Bo bs S)) w _ (fun b hb=>h1.os_lt hb) h1.glob hsize hreps).mono fun e' w' ⟨v,h4,h5,h6⟩=>⟨v,h4,hpost v w' h5 h6⟩⟩)
   ·obtain ⟨v,h4,h6⟩:=hcall (OS β X (Bo bs S)) w _ hsize hreps
    exact .inl ⟨v,w,hrunX v h4,hpost v w ⟨rfl,rfl,rfl,Nat.le_refl _,fun _ _=>rfl⟩ h6⟩
  have hK':(∃ A:Nat→Prop,(∀ b,OS β X S b→A b)∧(∀ v w',DI (fun b=>w.heap.size≤b) (OS β X (Bo bs S)) w' v r→DI (fun b=>w.heap.size≤b) A w' v r)∧ba d (As S d).ver r [] K)∨ba d (As S d).ver r bs K:=by
   unfold Yg at hK
   split at hK
   ·exact .inl ⟨OS β X S,fun _ h=>h,fun _ _ h=>h,hK⟩
   ·split at hK
    ·rename_i hbr; exact .inl ⟨fun _=>True,fun _ _=>trivial,fun v w' h=>h.bare hbr,hK⟩
    ·exact .inr hK
  rcases hK' with ⟨A,hA,hres,hK⟩ | hK
  ·obtain ⟨e,hKe,hpost⟩:=RX (X:=X) (G:=G) (β:=β) (a:=a) (w:=w) (S:=S) (S0:=S) (pre:=[]) (ub:=[]) rfl hd (Nat.le_refl _) (by simp) (fun _ h=>by cases h) (by simpa using hK) (fun _=>rfl)
   refine ⟨e,hKe,fun hok=>fin fun v w' h5 h6=>hpost A v w' ⟨h,(fun _ h=>by cases h),.of h5,fun b hb _=>hA b hb,(fun b y hy=>by cases hy),?_,fun y hy=>by cases hy⟩ hok⟩
   exact (hres v w' h6).mono (fun b hb=>.inl hb) (fun _ h=>h)
  ·obtain ⟨e,hKe,hpost⟩:=RX (X:=X) (G:=G) (β:=β) (a:=a) (w:=w) (S:=Bo bs S) (S0:=S) (pre:=bs) (ub:=[]) rfl (by rw [Cr]; exact hd) (dv:=(As S d).ver) (by rw [h3.ver]; exact Nat.le_refl _) (by simp) (fun _ h=>by cases h) (by simpa using hK) h3.ver
   refine ⟨e,hKe,fun hok=>fin fun v w' h5 h6=>hpost _ v w' ⟨h1,(fun _ h=>by cases h),.of h5,fun b hb _=>hb,(fun b y hy=>by cases hy),?_,fun y hy=>by cases hy⟩ hok⟩
   exact h6.mono (fun b hb=>.inl hb) (fun _ h=>h)
 ·
  obtain ⟨ub,hK,hund,hu1,hu2,hu3⟩:=Ph hK
  obtain ⟨hnot,hK⟩:=Ar hK
  obtain ⟨h1,h2,h3⟩:=hMF.run h
  have hargs:=hmrep.now h hMF
  have hpos:∀ (i id n:Nat),(us++(caps.map AV.d).map fun _=>(none:Option (Nat × Nat)))[i]? = some (some (id,n))→us[i]? = some (some (id,n))∧i < c.args.size:=by
   intro i id n hi
   rcases Nat.lt_or_ge i us.length with hl | hl
   ·rw [List.getElem?_append_left hl] at hi
    exact ⟨hi,by rw [hulen] at hl; simpa using hl⟩
   ·rw [List.getElem?_append_right hl] at hi
    simp only [List.getElem?_map] at hi
    cases caps[i - us.length]? <;> simp at hi
  have hback:∀ (i id n:Nat),us[i]? = some (some (id,n))→(us++(caps.map AV.d).map fun _=>(none:Option (Nat × Nat)))[i]? = some (some (id,n)):=by
   intro i id n hi
   rw [List.getElem?_append_left (AI hi)]; exact hi
  have hent:∀ y∈ub,∃ (i n:Nat) (q:AV) (p:Operand) (m:AV),us[i]? = some (some (y.1,n))∧outs[i]? = some q∧Wk y n q∧c.args.toList[i]? = some p∧ms[i]? = some m∧TP β S mb (a.eval p) y.1 n m:=by
   intro y hy
   obtain ⟨i,n,q,k1,k2,k3⟩:=hu2 y hy
   obtain ⟨k1,hi⟩:=hpos i y.1 n k1
   have hp:c.args.toList[i]? = some c.args.toList[i]:=List.getElem?_eq_getElem (by simpa using hi)
   have hm:ms[i]? = some (ms[i]'(by rw [hmlen]; simpa using hi)):=List.getElem?_eq_getElem _
   exact ⟨i,n,q,_,_,k1,k2,k3,hp,hm,hmut i _ _ y.1 n hp hm k1⟩
  have hsame:∀ y∈ub,(As (Bo mb S) y.1).box = (As S y.1).box:=fun y hy=>h3.other y.1 (EW (List.all_eq_true.1 hnot y hy))
  have hmv:∀ {v:Value} {id n:Nat} {m:AV},TP β S mb v id n m→v = β id∧(As S id).ver = n∧(As S id).box.owned = true∧m.mut = true:=by
   intro v id n m hmm
   cases m <;> try exact hmm.elim
   ·obtain ⟨k1,k2,k3⟩:=hmm; exact ⟨k3,k2,by rw [k1]; rfl,rfl⟩
   ·obtain ⟨cs,k1,k2,k3,_⟩:=hmm; exact ⟨k3,k2,by rw [k1]; rfl,rfl⟩
  have hown1:∀ y∈ub,(As (Bo mb S) y.1).box.owned = true:=by
   intro y hy
   obtain ⟨i,n,q,p,m,_,_,_,_,_,hmm⟩:=hent y hy
   rw [hsame y hy]; exact (hmv hmm).2.2.1
  have hMut:∀ b,Jn (c.args.map a.eval++capv) (ms++caps.map .d) b↔∃ y∈ub,Ax (β y.1) = some b:=by
   intro b
   constructor
   ·rintro ⟨i,v,x,hv,hx,hm,hb⟩
    rcases hval i v hv with ⟨p,hp,rfl⟩ | ⟨hi,hv⟩
    ·rw [List.getElem?_append_left (by rw [hmlen]; exact AI hp)] at hx
     have hui:us[i]? = some (us[i]'(by rw [hulen]; exact AI hp)):=List.getElem?_eq_getElem _
     cases hq:us[i]'(by rw [hulen]; exact AI hp) with
     | none=>rw [hq] at hui; rw [hnm i x hx hui] at hm; cases hm
     | some q =>
       obtain ⟨id,n⟩:=q
       rw [hq] at hui
       obtain ⟨y,hy,e,_⟩:=hu1 i id n (hback i id n hui)
       refine ⟨y,hy,?_⟩
       rw [e,← (hmv (hmut i p x id n hp hx hui)).1]; exact hb
    ·rw [List.getElem?_append_right (by rw [hmlen]; simpa using hi)] at hx
     simp only [List.getElem?_map] at hx
     cases hz:caps[i - ms.length]? with
     | none=>simp [hz] at hx
     | some z=>simp [hz] at hx; subst hx; cases hm
   ·rintro ⟨y,hy,hb⟩
    obtain ⟨i,n,q,p,m,k1,k2,k3,k4,k5,k6⟩:=hent y hy
    have hi:i < c.args.size:=by have:=AI k4; simpa using this
    refine ⟨i,a.eval p,m,?_,by rw [List.getElem?_append_left (AI k5)]; exact k5,(hmv k6).2.2.2,by rw [(hmv k6).1]; exact hb⟩
    rw [Array.getElem?_append_left (by simpa using hi)]
    have:c.args[i]? = some p:=by simpa using k4
    simp [this]
  have hMb:∀ b,(∃ y∈ub,Ax (β y.1) = some b)→OS β X (Bo mb S) b:=fun b ⟨y,hy,hb⟩=>.inr (.inr ⟨y.1,hown1 y hy,hb⟩)
  have hcl':=hcall.2.2 (fun b=>OS β X (Bo mb S) b∧¬ ∃ y∈ub,Ax (β y.1) = some b) w (c.args.map a.eval++capv) (fun b hb=>h1.os_lt hb.1) (fun g cs hg=>(h1.glob g cs hg).mono (Ck.of_sub fun b hb=>by
   rcases hb with hb | hb
   ·exact hb.1
   ·obtain ⟨y,hy,hb⟩:=(hMut b).1 hb
    exact .inr (.inr ⟨y.1,hown1 y hy,hb⟩))) (by simp [hmlen,hcl]) (fun b hb hO=>hO.2 ((hMut b).1 hb))
   (fun i j v v' x y b hv hv' hx hy hmx hmy hb hb'=>by
    have one:∀ (i:Nat) v x,(c.args.map a.eval++capv)[i]? = some v→(ms++caps.map .d)[i]? = some x→x.mut = true→∃ id n,us[i]? = some (some (id,n))∧v = β id:=by
     intro i v x hv hx hm
     rcases hval i v hv with ⟨p,hp,rfl⟩ | ⟨hi,hv⟩
     ·rw [List.getElem?_append_left (by rw [hmlen]; exact AI hp)] at hx
      have hui:us[i]? = some (us[i]'(by rw [hulen]; exact AI hp)):=List.getElem?_eq_getElem _
      cases hq:us[i]'(by rw [hulen]; exact AI hp) with
      | none=>rw [hq] at hui; rw [hnm i x hx hui] at hm; cases hm
      | some q =>
        obtain ⟨id,n⟩:=q
        rw [hq] at hui
        exact ⟨id,n,hui,(hmv (hmut i p x id n hp hx hui)).1⟩
     ·rw [List.getElem?_append_right (by rw [hmlen]; simpa using hi)] at hx
      simp only [List.getElem?_map] at hx
      cases hz:caps[i - ms.length]? with
      | none=>simp [hz] at hx
      | some z=>simp [hz] at hx; subst hx; cases hm
    obtain ⟨id,n,k1,rfl⟩:=one i v x hv hx hmx
    obtain ⟨id',n',k1',rfl⟩:=one j v' y hv' hy hmy
    obtain ⟨z,hz,e,_⟩:=hu1 i id n (hback i id n k1)
    obtain ⟨z',hz',e',_⟩:=hu1 j id' n' (hback j id' n' k1')
    have:=h1.inj id id' b (by rw [← e]; exact hown1 z hz) (by rw [← e']; exact hown1 z' hz') hb hb'
    subst this
    exact hu3 i j id n n' (hback i id n k1) (hback j id n' k1'))
   (fun i v x hv hx=>by
    have sub:∀ b,((OS β X (Bo mb S) b∧¬ ∃ y∈ub,Ax (β y.1) = some b)∨Jn (c.args.map a.eval++capv) (ms++caps.map .d) b)→OS β X (Bo mb S) b:=by
     intro b hb
     rcases hb with hb | hb
     ·exact hb.1
     ·exact hMb b ((hMut b).1 hb)
    rcases hval i v hv with ⟨p,hp,rfl⟩ | ⟨hi,hv⟩
    ·rw [List.getElem?_append_left (by rw [hmlen]; exact AI hp)] at hx
     have hui:us[i]? = some (us[i]'(by rw [hulen]; exact AI hp)):=List.getElem?_eq_getElem _
     cases hq:us[i]'(by rw [hulen]; exact AI hp) with
     | none =>
       rw [hq] at hui
       have hC:=(hargs i p x hp hx hui).mono (Ck.of_sub sub)
       have hnm':=hnm i x hx hui
       cases x <;> first | exact hC | cases hnm'
     | some q =>
       obtain ⟨id,n⟩:=q
       rw [hq] at hui
       have hmm:=hmut i p x id n hp hx hui
       obtain ⟨z,hz,e,_⟩:=hu1 i id n (hback i id n hui)
       have hsm:=hsame z hz
       rw [e] at hsm
       have hbx:=h1.boxes id
       rw [hsm] at hbx
       cases x <;> try exact hmm.elim
       ·obtain ⟨k1,k2,k3⟩:=hmm
        rw [k1] at hbx
        obtain ⟨j1,j2,vals,j3,j4⟩:=hbx
        exact ⟨j1,j2,vals,by rw [k3]; exact j3,j4.mono (Ck.of_sub sub)⟩
       ·obtain ⟨cs,k1,k2,k3,k4⟩:=hmm
        rw [k1] at hbx
        obtain ⟨b',vals,T,j1,j2,j3,j4⟩:=hbx
        exact ⟨b',vals,T,by rw [k3]; exact j1,j2,(S6 h3 h1 k4 (by simpa using j3) (fun j v c hv hc=>j4 j v c (by simpa using hv) hc)).mono (Ck.of_sub sub)⟩
    ·rw [List.getElem?_append_right (by rw [hmlen]; simpa using hi),hmlen] at hx
     simp only [List.getElem?_map,Array.length_toList] at hx
     cases hz:caps[i - c.args.size]? with
     | none=>simp [hz] at hx
     | some z =>
       simp [hz] at hx; subst hx
       exact (hcr _ v z hv hz).mono ((Ck.of_sub fun b hb=>h2 b (sub b hb))))
  obtain ⟨e,hKe,hpost⟩:=RX (X:=X) (G:=G) (β:=β) (a:=a) (w:=w) (S:=Bo mb S) (S0:=S) (pre:=mb) (ub:=ub) rfl (by rw [Cr]; exact hd) (dv:=(As S d).ver) (by rw [h3.ver]; exact Nat.le_refl _) hund
   (fun y hy=>by
    have:(As (Bo mb S) y.1).box≠.none:=by intro hh; have:=hown1 y hy; rw [hh] at this; cases this
    exact Od rfl this) hK h3.ver
  refine ⟨e,hKe,fun hok=>.inr (.inr ⟨f,_,hrun hcall.1,hcl'.mono fun e' w' ⟨v,h4,h5,h6,h7⟩=>⟨v,h4,hpost (fun b=>(OS β X (Bo mb S) b∧¬ ∃ y∈ub,Ax (β y.1) = some b)∨Jn (c.args.map a.eval++capv) outs b) v w' ⟨h1,fun y hy=>?_,?_,fun b hb hn=>.inl ⟨hb,fun ⟨y,hy,hyb⟩=>hn y hy hyb⟩,fun b y hy ho hb=>?_,?_,fun y hy ho=>?_⟩ hok⟩⟩)⟩
  ·
   obtain ⟨i,n,q,p,m,k1,k2,k3,k4,k5,k6⟩:=hent y hy
   refine ⟨hown1 y hy,?_⟩
   rw [h3.ver,(hmv k6).2.1]
   cases q <;> try exact k3.elim
   ·exact .inr ⟨k3.1,by rw [k3.2]; omega⟩
   ·exact .inl ⟨by rw [k3.1]; rfl,k3.2⟩
   ·exact .inl ⟨by rw [k3.1]; rfl,k3.2⟩
  ·exact h5.weaken (Nat.le_refl _) fun k _ hno hm=>hno ((hMut k).1 hm)
  ·
   obtain ⟨i,n,q,p,m,k1,k2,k3,k4,k5,k6⟩:=hent y hy
   have hi:i < c.args.size:=by have:=AI k4; simpa using this
   refine .inr ⟨i,a.eval p,q,?_,k2,?_,by rw [(hmv k6).1]; exact hb⟩
   ·rw [Array.getElem?_append_left (by simpa using hi)]
    have:c.args[i]? = some p:=by simpa using k4
    simp [this]
   ·cases q <;> try exact k3.elim
    ·rw [k3.1] at ho; cases ho
    ·rfl
    ·rfl
  ·refine h6.mono (fun b hb=>?_) (fun b hb=>hb)
   rcases hb with hb | ⟨hb,hno⟩
   ·exact .inl hb
   ·obtain ⟨y,hy,hyb⟩:=(hMut b).1 hb
    refine .inr ⟨y,hy,?_,hyb⟩
    obtain ⟨i,n,q,p,m,k1,k2,k3,k4,k5,k6⟩:=hent y hy
    have hi:i < c.args.size:=by have:=AI k4; simpa using this
    have hvi:(c.args.map a.eval++capv)[i]? = some (a.eval p):=by
     rw [Array.getElem?_append_left (by simpa using hi)]
     have:c.args[i]? = some p:=by simpa using k4
     simp [this]
    cases q <;> try exact k3.elim
    ·exact k3.1
    ·exact absurd ⟨i,a.eval p,_,hvi,k2,rfl,by rw [(hmv k6).1]; exact hyb⟩ hno
    ·exact absurd ⟨i,a.eval p,_,hvi,k2,rfl,by rw [(hmv k6).1]; exact hyb⟩ hno
  ·obtain ⟨i,n,q,p,m,k1,k2,k3,k4,k5,k6⟩:=hent y hy
   have hi:i < c.args.size:=by have:=AI k4; simpa using this
   have hvi:(c.args.map a.eval++capv)[i]? = some (a.eval p):=by
    rw [Array.getElem?_append_left (by simpa using hi)]
    have:c.args[i]? = some p:=by simpa using k4
    simp [this]
   have hro:=h7 i (a.eval p) m q hvi (by rw [List.getElem?_append_left (AI k5)]; exact k5) k2
   rw [(hmv k6).1] at hro
   have esub:∀ b,((((OS β X (Bo mb S) b∧¬ ∃ y∈ub,Ax (β y.1) = some b)∨Jn (c.args.map a.eval++capv) outs b)∨DL v r b)→((OS β X (Bo mb S) b∧¬ ∃ y∈ub,Ax (β y.1) = some b)∨Jn (c.args.map a.eval++capv) outs b∨DL v r b)):=by
    intro b hb; rcases hb with (hb | hb) | hb
    ·exact .inl hb
    ·exact .inr (.inl hb)
    ·exact .inr (.inr hb)
   cases q <;> try exact k3.elim
   ·rw [k3.1] at ho; cases ho
   ·rw [k3.1]
    obtain ⟨⟨j1,j2,vals,j3,j4⟩,_⟩:=hro
    exact ⟨j1,j2,vals,j3,j4.mono (Ck.of_sub esub)⟩
   ·rw [k3.1]
    obtain ⟨⟨b',vals,T,j1,j2,j3⟩,_⟩:=hro
    exact ⟨_,rfl,b',vals,T,j1,j2,j3.mono (Ck.of_sub esub)⟩
end
end Go.Abs
