/- The abstract machine: a list of boxes that are given up; operands as data. -/
import Derived.Test.YtejfnieiaecpkaaGreatDoorAbsRun
set_option linter.unusedVariables false
set_option linter.unusedSimpArgs false
namespace Go.Abs
open Go.RowKit (Below)
def JO (S:AS) (seen:Bx) (cs:List C) (ds:List D):Prop :=
 cs.length = ds.length∧∀ (j:Nat) c y,cs[j]? = some c→ds[j]? = some y→match c with
  | .d x=>y = norm1 x
  | .sl id n=>∃ sz xs,y = .list sz xs∧(As S id).ver = n∧(((∃ e,(As S id).box = .row sz e xs)∧(id,Ct.frow sz xs,n)∈seen)∨(As S id).box = .frow sz xs)
  | .own _ _ _=>False
def aq (S:AS) (seen:Bx) (y:Nat × Ct × Nat):Prop :=
 (As S y.1).ver = y.2.2∧((∃ sz e xs,(As S y.1).box = .row sz e xs∧y.2.1 = .frow sz xs)∨(∃ cs ds,(As S y.1).box = .var cs∧y.2.1 = .fvar ds∧JO S seen cs ds)∨((As S y.1).box = y.2.1∧y.2.1.isF = true))
def FZ (S:AS):Bx→Bx→Prop
 | _,[]=>True
 | seen,y :: r=>aq S seen y∧FZ S (seen++[y]) r
theorem JO.mono {S:AS} {seen seen':Bx} (hs:∀ y∈seen,y∈seen') {cs:List C} {ds:List D} (h:JO S seen cs ds):JO S seen' cs ds:=by
 refine ⟨h.1,fun j c y hc hy=>?_⟩
 have:=h.2 j c y hc hy
 cases c with
 | d x=>exact this
 | sl id n =>
   obtain ⟨sz,xs,h1,h2,h3⟩:=this
   exact ⟨sz,xs,h1,h2,h3.imp (fun h=>⟨h.1,hs _ h.2⟩) (fun h=>h)⟩
 | own sz e xs=>exact this
theorem aq.mono {S:AS} {seen seen':Bx} (hs:∀ y∈seen,y∈seen') {y:Nat × Ct × Nat} (h:aq S seen y):aq S seen' y:=by
 refine ⟨h.1,?_⟩
 rcases h.2 with h | ⟨cs,ds,h1,h2,h3⟩ | h
 ·exact .inl h
 ·exact .inr (.inl ⟨cs,ds,h1,h2,h3.mono hs⟩)
 ·exact .inr (.inr h)
theorem FZ.mono {S:AS}:∀ {b seen seen':Bx},(∀ y∈seen,y∈seen')→FZ S seen b→FZ S seen' b
 | [],_,_,_,_=>trivial
 | y :: r,seen,seen',hs,h=>⟨h.1.mono hs,h.2.mono (by
     intro z hz
     rcases List.mem_append.1 hz with hz | hz
     ·exact List.mem_append.2 (.inl (hs z hz))
     ·exact List.mem_append.2 (.inr hz))⟩
theorem FZ.append {S:AS}:∀ {b c seen:Bx},FZ S seen b→FZ S [] c→FZ S seen (b++c)
 | [],c,seen,_,h=>h.mono (by simp)
 | y :: r,c,seen,h,h'=>⟨h.1,FZ.append h.2 h'⟩
theorem FZ.snoc {S:AS}:∀ {b seen:Bx} {y:Nat × Ct × Nat},FZ S seen b→aq S (seen++b) y→FZ S seen (b++[y])
 | [],seen,y,_,h=>⟨by simpa using h,trivial⟩
 | z :: r,seen,y,h,h'=>⟨h.1,FZ.snoc h.2 (by simpa using h')⟩
theorem FZ.each {S:AS}:∀ {b seen:Bx},FZ S seen b→∀ y∈b,aq S (seen++b) y
 | [],_,_,_,h=>by cases h
 | z :: r,seen,h,y,hy=>by
   rcases List.mem_cons.1 hy with rfl | hy
   ·exact h.1.mono (by intro q hq; exact List.mem_append.2 (.inl hq))
   ·have:=FZ.each h.2 y hy
    simpa using this
theorem JO.unique {S:AS} {seen seen':Bx} {cs:List C} {ds ds':List D} (h:JO S seen cs ds) (h':JO S seen' cs ds'):ds = ds':=by
 apply List.ext_getElem?
 intro j
 rcases Nat.lt_or_ge j cs.length with hj | hj
 ·have e1:cs[j]? = some cs[j]:=List.getElem?_eq_getElem hj
  have e2:ds[j]? = some (ds[j]'(by rw [← h.1]; exact hj)):=List.getElem?_eq_getElem _
  have e3:ds'[j]? = some (ds'[j]'(by rw [← h'.1]; exact hj)):=List.getElem?_eq_getElem _
  have k1:=h.2 j _ _ e1 e2
  have k2:=h'.2 j _ _ e1 e3
  rw [e2,e3]
  generalize cs[j] = c at k1 k2
  cases c with
  | d x=>rw [k1,k2]
  | sl id n =>
    obtain ⟨sz,xs,h1,_,h3⟩:=k1
    obtain ⟨sz',xs',h1',_,h3'⟩:=k2
    rw [h1,h1']
    rcases h3 with ⟨⟨e,h3⟩,_⟩ | h3 <;> rcases h3' with ⟨⟨e',h3'⟩,_⟩ | h3' <;> rw [h3] at h3' <;> simp at h3'
    ·rw [h3'.1,h3'.2.2]
    ·rw [h3'.1,h3'.2]
  | own sz e xs=>exact k1.elim
 ·rw [List.getElem?_eq_none (by rw [← h.1]; exact hj),List.getElem?_eq_none (by rw [← h'.1]; exact hj)]
theorem aq.unique {S:AS} {seen seen':Bx} {y y':Nat × Ct × Nat} (h:aq S seen y) (h':aq S seen' y') (e:y.1 = y'.1):y.2.1 = y'.2.1:=by
 rcases h.2 with ⟨sz,e1,xs,h1,h2⟩ | ⟨cs,ds,h1,h2,h3⟩ | ⟨h1,h2⟩ <;> rcases h'.2 with ⟨sz',e1',xs',h1',h2'⟩ | ⟨cs',ds',h1',h2',h3'⟩ | ⟨h1',h2'⟩ <;> rw [← e,h1] at h1'
 ·simp at h1'; rw [h2,h2',h1'.1,h1'.2.2]
 ·cases h1'
 ·rw [← h1'] at h2'; cases h2'
 ·cases h1'
 ·simp at h1'; subst h1'; rw [h2,h2',h3.unique h3']
 ·rw [← h1'] at h2'; cases h2'
 ·rw [h1'] at h2; cases h2
 ·rw [h1'] at h2; cases h2
 ·exact h1'
structure Fr (S:AS) (seen:Bx) (T:AS):Prop where
 len:T.length = S.length
 ver:∀ i,(As T i).ver = (As S i).ver
 av:∀ i,(As T i).av = (As S i).av
 mem:∀ y∈seen,(As T y.1).box = y.2.1
 other:∀ i,(∀ y∈seen,y.1≠i)→(As T i).box = (As S i).box
 keepF:∀ i,(As S i).box.isF = true→(As T i).box = (As S i).box
theorem aq.lt {S:AS} {seen:Bx} {y:Nat × Ct × Nat} (h:aq S seen y):y.1 < S.length:=by
 have:(As S y.1).box≠.none:=by
  rcases h.2 with ⟨sz,e,xs,h1,_⟩ | ⟨cs,ds,h1,_⟩ | ⟨h1,h2⟩
  ·rw [h1]; simp
  ·rw [h1]; simp
  ·rw [h1]; exact Ct.isF_ne h2
 exact Od rfl this
section
variable {P:Program} {x:Cx} {G:Nat→Prop} {β:Nat→Value} {S:AS} {a:Act} {w:World}
theorem FZ.run_:∀ {b seen:Bx} {T:AS},(∀ y∈seen,aq S seen y)→FZ S seen b→Fr S seen T→AB x G β T a w→(∀ k,OS β x T k→OS β x S k) →
 AB x G β (Bo b T) a w∧(∀ k,OS β x (Bo b T) k→OS β x S k)∧Fr S (seen++b) (Bo b T)
 | [],seen,T,_,_,hf,h,hO=>⟨h,hO,by simpa [Bo] using hf⟩
 | y :: r,seen,T,hseen,hF,hf,h,hO=>by
   have hy:=hF.1
   have hlt:y.1 < T.length:=by rw [hf.len]; exact hy.lt
   have hstep:AB x G β (AR T y.1 y.2.1 y.2.2) a w∧(∀ k,OS β x (AR T y.1 y.2.1 y.2.2) k→OS β x T k):=by
    by_cases hin:∃ z∈seen,z.1 = y.1
    ·obtain ⟨z,hz,e⟩:=hin
     have h1:=hf.mem z hz
     have h2:=(hseen z hz).unique hy e
     rw [Ps T y.1 (by rw [← e,h1,h2]) (by rw [hf.ver,hy.1])]
     exact ⟨h,fun _ h=>h⟩
    ·have hbx:(As T y.1).box = (As S y.1).box:=hf.other _ fun z hz e=>hin ⟨z,hz,e⟩
     have hver:(As T y.1).ver = y.2.2:=by rw [hf.ver,hy.1]
     have sub:y.2.1.owned = false→∀ k,OS β x (AR T y.1 y.2.1 y.2.2) k→OS β x T k:=by
      intro hno k hk
      rcases hk with hk | hk | ⟨i,h1,h2⟩
      ·exact .inl hk
      ·exact .inr (.inl hk)
      ·rw [BI] at h1
       split at h1
       ·rw [hno] at h1; cases h1
       ·exact .inr (.inr ⟨i,h1,h2⟩)
     rcases hy.2 with ⟨sz,e,xs,h1,h2⟩ | ⟨cs,ds,h1,h2,h3⟩ | ⟨h1,h2⟩
     ·refine ⟨?_,sub (by rw [h2]; rfl)⟩
      rw [h2]
      exact YK h (by rw [hbx]; exact h1) hver
     ·refine ⟨?_,sub (by rw [h2]; rfl)⟩
      rw [h2]
      refine YF h (by rw [hbx]; exact h1) hver fun b vals T' hβ hh hl hc=>⟨by rw [Array.length_toList,hl]; exact h3.1,fun j v z hv hz=>?_⟩
      have hj:j < cs.length:=by rw [h3.1]; exact AI hz
      have hcc:=hc j v cs[j] (by simpa using hv) (List.getElem?_eq_getElem hj)
      have hcd:=h3.2 j cs[j] z (List.getElem?_eq_getElem hj) hz
      generalize cs[j] = c at hcc hcd
      cases c with
      | d q=>rw [hcd]; exact ⟨hcc.1.norm1,P8 q hcc.2⟩
      | sl id n =>
        obtain ⟨sz,xs,k1,k2,k3⟩:=hcd
        have hfr:(As T id).box = .frow sz xs:=by
         rcases k3 with ⟨_,k3⟩ | k3
         ·exact hf.mem _ k3
         ·by_cases hin:∃ q∈seen,q.1 = id
          ·obtain ⟨q,hq,e⟩:=hin
           have e1:=hf.mem q hq
           have e2:=(hseen q hq).unique (y':=(id,Ct.frow sz xs,n)) (seen':=seen) ⟨k2,.inr (.inr ⟨k3,rfl⟩)⟩ e
           rw [← e,e1,e2]
          ·rw [hf.other id fun q hq e=>hin ⟨q,hq,e⟩]; exact k3
        have hbb:=h.boxes id
        rw [hfr] at hbb
        have hv2:=hcc.2 (by simp only [AW]; rw [hf.ver]; exact k2.symm)
        rw [k1,hv2]
        exact ⟨hbb,rfl⟩
      | own sz e xs=>exact hcd.elim
     ·rw [Ps T y.1 (by rw [hbx,h1]) hver]
      exact ⟨h,fun _ h=>h⟩
   have hget:=Ip hlt y.2.1 y.2.2
   have hF1:Fr S (seen++[y]) (AR T y.1 y.2.1 y.2.2):=by
    refine ⟨by rw [C9]; exact hf.len,fun i=>?_,fun i=>?_,fun z hz=>?_,fun i hi=>?_,fun i hi=>?_⟩
    ·rw [hget]; split
     ·rename_i e; rw [e]; exact hy.1.symm
     ·exact hf.ver i
    ·rw [hget]; split
     ·rename_i e; rw [e]; exact hf.av _
     ·exact hf.av i
    ·rw [hget]; split
     ·rename_i e
      rcases List.mem_append.1 hz with hz | hz
      ·exact (hy.unique (hseen z hz) e.symm)
      ·simp at hz; rw [hz]
     ·rename_i e
      rcases List.mem_append.1 hz with hz | hz
      ·exact hf.mem z hz
      ·simp at hz; exact absurd (by rw [hz]) e
    ·rw [hget]; split
     ·rename_i e; exact absurd e.symm (hi y (by simp))
     ·exact hf.other i fun z hz=>hi z (by simp [hz])
    ·rw [hget]; split
     ·rename_i e
      rw [e] at hi ⊢
      rcases hy.2 with ⟨sz,e',xs,h1,h2⟩ | ⟨cs,ds,h1,h2,h3⟩ | ⟨h1,h2⟩
      ·rw [h1] at hi; cases hi
      ·rw [h1] at hi; cases hi
      ·exact h1.symm
     ·exact hf.keepF i hi
   have hs2:∀ z∈seen++[y],aq S (seen++[y]) z:=by
    intro z hz
    rcases List.mem_append.1 hz with hz | hz
    ·exact (hseen z hz).mono fun q hq=>List.mem_append.2 (.inl hq)
    ·simp at hz; rw [hz]; exact hy.mono fun q hq=>List.mem_append.2 (.inl hq)
   obtain ⟨k1,k2,k3⟩:=FZ.run_ hs2 hF.2 hF1 hstep.1 fun k hk=>hO k (hstep.2 k hk)
   exact ⟨k1,k2,by simpa [Bo] using k3⟩
theorem FZ.run (h:AB x G β S a w) {b:Bx} (hF:FZ S [] b):AB x G β (Bo b S) a w∧(∀ k,OS β x (Bo b S) k→OS β x S k)∧Fr S b (Bo b S):=by
 have:=FZ.run_ (x:=x) (G:=G) (β:=β) (a:=a) (w:=w) (S:=S) (b:=b) (seen:=[]) (T:=S) (fun _ h=>by cases h) hF ⟨rfl,fun _=>rfl,fun _=>rfl,(fun _ h=>by cases h),fun _ _=>rfl,fun _ _=>rfl⟩ h (fun _ h=>h)
 simpa using this
def JI (x:Cx) (G:Nat→Prop) (β:Nat→Value) (S:AS) (a:Act) (w:World) (b:Bx) (p:(Nat→Prop)→Prop):Prop :=
 ∀ B,(∀ y∈b,y∈B)→Fr S B (Bo B S)→AB x G β (Bo B S) a w→(∀ k,OS β x (Bo B S) k→OS β x S k)→p (OS β x (Bo B S))
theorem JI.mono {b b':Bx} {p q:(Nat→Prop)→Prop} (h:JI x G β S a w b p) (hb:∀ y∈b,y∈b') (hp:∀ O,p O→q O):JI x G β S a w b' q :=
 fun B hB hf hs hk=>hp _ (h B (fun y hy=>hB y (hb y hy)) hf hs hk)
theorem JI.and {b b':Bx} {p q:(Nat→Prop)→Prop} (h:JI x G β S a w b p) (h':JI x G β S a w b' q):JI x G β S a w (b++b') fun O=>p O∧q O :=
 fun B hB hf hs hk=>⟨h B (fun y hy=>hB y (by simp [hy])) hf hs hk,h' B (fun y hy=>hB y (by simp [hy])) hf hs hk⟩
theorem JI.now (hs:AB x G β S a w) {b:Bx} {p:(Nat→Prop)→Prop} (h:JI x G β S a w b p) (hF:FZ S [] b):p (OS β x (Bo b S)):=by
 obtain ⟨h1,h2,h3⟩:=hF.run hs
 exact h b (fun _ h=>h) h3 h1 h2
theorem I1 {r:RV} {v:Value} (hr:NN β (OS β x S) S w v r) {K:D→Bx→Prop} (hy:VX r K) :
 ∃ y b,K y b∧FZ S [] b∧(∀ z∈b,∃ sz xs,z.2.1 = .frow sz xs)∧JI x G β S a w b fun O=>A9 O w v y:=by
 cases r <;> simp only [VX] at hy
 case d y=>exact ⟨y,[],hy,trivial,(fun _ h=>by cases h),fun B _ _ _ hk=>A9.mono (Ck.of_sub hk) hr⟩
 case lim sz xs=>exact ⟨_,[],hy,trivial,(fun _ h=>by cases h),fun B _ _ _ hk=>A9.mono (Ck.of_sub hk) hr.1⟩
 case row id n sz e xs =>
  obtain ⟨h1,h2,h3⟩:=hr
  refine ⟨_,_,hy,⟨⟨h2,.inl ⟨sz,e,xs,h1,rfl⟩⟩,trivial⟩,(fun z hz=>⟨sz,xs,by simp at hz; subst hz; rfl⟩),fun B hB hF hS _=>?_⟩
  have:=hF.mem (id,.frow sz xs,n) (hB _ (by simp))
  have hb:=hS.boxes id
  simp only at this
  rw [this] at hb
  rw [h3]; exact hb
theorem S8 {r:RV} {v:Value} (hr:NN β (OS β x S) S w v r) {K:D→Bx→Prop} (hy:dI r K) :
 ∃ y b,K y b∧FZ S [] b∧(∀ z∈b,∃ sz xs,z.2.1 = .frow sz xs)∧JI x G β S a w b fun O=>A9 O w v y:=by
 obtain ⟨y,b,hK,hF,hfr,hh⟩:=I1 (x:=x) (G:=G) (a:=a) hr hy
 rw [RN] at hK
 exact ⟨_,b,hK,hF,hfr,hh.mono (fun _ h=>h) fun O h=>h.norm⟩
theorem Lf (h:AB x G β S a w):∀ {cs:List C} {K:List D→Bx→Prop},Ev (σOf S) cs K →
 ∃ l b,K l b∧FZ S [] b∧(∀ z∈b,∃ sz xs,z.2.1 = .frow sz xs)∧cs.length = l.length ∧
   (∀ (j:Nat) c y,cs[j]? = some c→l[j]? = some y→match c with
    | .d q=>y = q
    | .sl id n=>∃ sz xs,y = .list sz xs∧(As S id).ver = n∧(((∃ e,(As S id).box = .row sz e xs)∧(id,Ct.frow sz xs,n)∈b)∨(As S id).box = .frow sz xs)
    | .own _ _ _=>False) ∧
   ∀ vs:List Value,vs.length = cs.length→(∀ (j:Nat) v c,vs[j]? = some v→cs[j]? = some c→Ch β (AW S) (OS β x S) w v c)→JI x G β S a w b fun O=>BC O w vs l
 | [],K,hy=>⟨[],[],hy,trivial,(fun _ h=>by cases h),rfl,(fun j c y h=>by simp at h),fun vs hv _ B _ _ _ _=>⟨by simpa using hv,fun j v y _ hy=>by simp at hy⟩⟩
 | .d q :: r,K,hy=>by
   have hy:Ev (σOf S) r fun l b=>K (q :: l) b:=hy
   obtain ⟨l,b,hK,hF,hfr,hl,hc,hh⟩:=Lf h hy
   refine ⟨_,_,hK,hF,hfr,by simp [hl],fun j c y hcj hyj=>?_,fun vs hv hrep=>?_⟩
   ·cases j with
    | zero=>simp at hcj hyj; subst hcj; exact hyj.symm
    | succ j=>exact hc j c y (by simpa using hcj) (by simpa using hyj)
   ·cases vs with
    | nil=>simp at hv
    | cons v vs =>
      have h0:=hrep 0 v (.d q) rfl rfl
      have hr:=hh vs (by simpa using hv) fun j v c hv hc=>hrep (j + 1) v c (by simpa using hv) (by simpa using hc)
      intro B hB hf hs hk
      have hr':=hr B hB hf hs hk
      refine ⟨by simp [hr'.1],fun j u y hu hy=>?_⟩
      cases j with
      | zero=>simp at hu hy; subst hu; subst hy; exact ⟨h0.1.mono (Ck.of_sub hk),h0.2⟩
      | succ j=>exact hr'.2 j u y (by simpa using hu) (by simpa using hy)
 | .sl id n :: r,K,hy=>by
   simp only [Ev,σOf,res] at hy
   obtain ⟨sz,xs,b0,hst,hb0,hK0⟩:∃ sz xs b0,((As S id).ver = n∧(((∃ e,(As S id).box = .row sz e xs)∧b0 = [(id,Ct.frow sz xs,n)])∨((As S id).box = .frow sz xs∧b0 = [])))∧FZ S [] b0∧Ev (σOf S) r fun l b'=>K (.list sz xs :: l) (b0++b'):=by
    generalize hs:As S id = s at hy
    obtain ⟨av,B,m⟩:=s
    cases B with
    | none=>exact hy.elim
    | var cs=>exact hy.elim
    | fvar cs=>exact hy.elim
    | map es =>
      simp only at hy
      split at hy <;> exact hy.elim
    | row sz e xs =>
      simp only at hy
      split at hy
      ·rename_i e'
       exact ⟨sz,xs,_,⟨e'.symm,.inl ⟨⟨e,rfl⟩,rfl⟩⟩,⟨⟨by rw [hs]; exact e'.symm,.inl ⟨sz,e,xs,by rw [hs],rfl⟩⟩,trivial⟩,hy⟩
      ·exact hy.elim
    | frow sz xs =>
      simp only at hy
      split at hy
      ·rename_i e'
       exact ⟨sz,xs,[],⟨e'.symm,.inr ⟨rfl,rfl⟩⟩,trivial,hy⟩
      ·exact hy.elim
   obtain ⟨l,b,hK,hF,hfr,hl,hc,hh⟩:=Lf h hK0
   refine ⟨_,_,hK,hb0.append hF,fun z hz=>?_,by simp [hl],fun j c y hcj hyj=>?_,fun vs hv hrep=>?_⟩
   ·rcases List.mem_append.1 hz with hz | hz
    ·rcases hst.2 with ⟨_,h2⟩ | ⟨_,h2⟩
     ·rw [h2] at hz; simp at hz; exact ⟨sz,xs,by rw [hz]⟩
     ·rw [h2] at hz; cases hz
    ·exact hfr z hz
   ·cases j with
    | zero =>
      simp at hcj hyj
      subst hcj
      refine ⟨sz,xs,hyj.symm,hst.1,?_⟩
      rcases hst.2 with ⟨h1,h2⟩ | ⟨h1,h2⟩
      ·exact .inl ⟨h1,by rw [h2]; simp⟩
      ·exact .inr h1
    | succ j =>
      have:=hc j c y (by simpa using hcj) (by simpa using hyj)
      cases c with
      | d q=>exact this
      | sl id' n' =>
        obtain ⟨sz',xs',h1,h2,h3⟩:=this
        exact ⟨sz',xs',h1,h2,h3.imp (fun h=>⟨h.1,by simp [h.2]⟩) (fun h=>h)⟩
      | own _ _ _=>exact this
   ·cases vs with
    | nil=>simp at hv
    | cons v vs =>
      have h0:=hrep 0 v (.sl id n) rfl rfl
      have hr:=hh vs (by simpa using hv) fun j v c hv hc=>hrep (j + 1) v c (by simpa using hv) (by simpa using hc)
      intro B hB hf hs hk
      have hr':=hr B (fun y hy=>hB y (by simp [hy])) hf hs hk
      have hfrz:(As (Bo B S) id).box = .frow sz xs:=by
       rcases hst.2 with ⟨_,h2⟩ | ⟨h1,h2⟩
       ·exact hf.mem (id,.frow sz xs,n) (hB _ (by rw [h2]; simp))
       ·rw [hf.keepF id (by rw [h1]; rfl)]; exact h1
      have hbb:=hs.boxes id
      rw [hfrz] at hbb
      have hv2:=h0.2 (by simp only [AW]; exact hst.1.symm)
      refine ⟨by simp [hr'.1],fun j u y hu hy=>?_⟩
      cases j with
      | zero=>simp at hu hy; subst hu; subst hy; rw [hv2]; exact ⟨hbb,rfl⟩
      | succ j=>exact hr'.2 j u y (by simpa using hu) (by simpa using hy)
 | .own _ _ _ :: _,K,hy=>hy.elim
end
end Go.Abs
