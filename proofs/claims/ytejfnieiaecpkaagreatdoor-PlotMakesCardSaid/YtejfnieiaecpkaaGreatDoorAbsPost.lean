/- The abstract machine: behind a call. -/
import Derived.Test.YtejfnieiaecpkaaGreatDoorAbsYes
set_option linter.unusedVariables false
set_option linter.unusedSimpArgs false
namespace Go.Abs
open Go.RowKit (Below)
def Ty (A:Nat→Prop) (w:World) (v:Value):Ct→Prop
 | .row sz e xs=>0 < sz∧(∀ x∈xs,x.cells.length = sz)∧∃ vals,Ew w e sz v xs.length vals∧BC A w vals (xs.flatMap D.cells)
 | .var cs=>∃ ds,cs = ds.map .d∧YN A w v ds
 | _=>False
abbrev RB:=List (Nat × Ct × Nat × Value)
def PY (r:RB):Bx:=r.map fun y=>(y.1,y.2.1,y.2.2.1)
def ab (β:Nat→Value) (r:RB) (i:Nat):Value:=match List.find? (fun y=>y.1==i) r with | some y=>y.2.2.2 | none=>β i
section
variable {P:Program} {X:Cx} {G:Nat→Prop} {β:Nat→Value} {S:AS} {a:Act} {w:World} {o:Oper}
theorem Ty.rep {A:Nat→Prop} {v:Value} {B:Ct} (h:Ty A w v B) {O:Nat→Prop} (hO:∀ b,O b→A b) {β:Nat→Value} {n:Nat→Nat} {i:Nat} (hβ:β i = v):MC β n O w i B:=by
 cases B with
 | none=>trivial
 | row sz e xs =>
   obtain ⟨h1,h2,vals,h3,h4⟩:=h
   exact ⟨h1,h2,vals,by rw [hβ]; exact h3,h4.mono (Ck.of_sub hO)⟩
 | var cs =>
   obtain ⟨ds,rfl,b,vals,T,h1,h2,h3⟩:=h
   exact ⟨b,vals,T,by rw [hβ]; exact h1,h2,by have:=h3.1; simpa using this,fun j v c hv hc=>(h3.mono (Ck.of_sub hO)).cells j v c (by simpa using hv) hc⟩
 | fvar cs=>exact h.elim
 | frow sz xs=>exact h.elim
 | map es=>exact h.elim
theorem N1 {α:Type} {l:List α} {p:α→Bool} {y:α} (h:l.find? p = some y):y∈l∧p y = true:=⟨List.mem_of_find?_eq_some h,List.find?_some h⟩
theorem Sr:∀ {l:Bx},(l.map (·.1)).Nodup→∀ {y z:Nat × Ct × Nat},y∈l→z∈l→y.1 = z.1→y = z
 | [],_,_,_,h,_,_=>by cases h
 | q :: r,hn,y,z,hy,hz,e=>by
   simp only [List.map_cons,List.nodup_cons] at hn
   rcases List.mem_cons.1 hy with hy | hy <;> rcases List.mem_cons.1 hz with hz | hz
   ·rw [hy,hz]
   ·exact absurd (List.mem_map.2 ⟨z,hz,by rw [← e,hy]⟩) hn.1
   ·exact absurd (List.mem_map.2 ⟨y,hy,by rw [e,hz]⟩) hn.1
   ·exact Sr hn.2 hy hz e
theorem Q2 (h:AB X G β S a w) {ub:Bx} {rb:RB} {w':World} (hnd:((ub++PY rb).map (·.1)).Nodup) (hlt:∀ y∈ub++PY rb,y.1 < S.length)
 (hub:∀ y∈ub,(As S y.1).box.owned = true∧((y.2.1.owned = true∧y.2.2 = (As S y.1).ver)∨(y.2.1 = .none∧(As S y.1).ver < y.2.2)))
 (hrb:∀ y:Nat × Ct × Nat × Value,y∈rb→y.2.1.owned = true∧(As S y.1).ver < y.2.2.1)
 (hw:Br w.heap.size (fun b=>∃ y∈ub,Ax (β y.1) = some b) w w') (A:Nat→Prop)
 (hA1:∀ b,OS β X S b→(∀ y∈ub,Ax (β y.1)≠some b)→A b) (hA2:∀ b,∀ y∈ub,y.2.1.owned = true→Ax (β y.1) = some b→A b) (hA3:∀ b,∀ y:Nat × Ct × Nat × Value,y∈rb→Ax y.2.2.2 = some b→A b)
 (hmine:∀ y:Nat × Ct × Nat × Value,y∈rb→∀ b,Ax y.2.2.2 = some b→w.heap.size≤b∨∃ z∈ub,z.2.1 = .none∧Ax (β z.1) = some b)
 (hrinj:∀ y z:Nat × Ct × Nat × Value,y∈rb→z∈rb→∀ b,Ax y.2.2.2 = some b→Ax z.2.2.2 = some b→y.1 = z.1)
 (hubox:∀ y∈ub,y.2.1.owned = true→Ty A w' (β y.1) y.2.1) (hrbox:∀ y:Nat × Ct × Nat × Value,y∈rb→Ty A w' y.2.2.2 y.2.1) :
 AB X G (ab β rb) (Bo (ub++PY rb) S) a w'∧(∀ b,OS (ab β rb) X (Bo (ub++PY rb) S) b→A b):=by
 have hsg:=fun i=>S4 (ub++PY rb) S i hlt hnd
 have hfr:∀ i,List.find? (fun y=>y.1==i) (PY rb) = (List.find? (fun y=>y.1==i) rb).map fun y=>(y.1,y.2.1,y.2.2.1):=by
  intro i
  unfold PY
  rw [List.find?_map]
  rfl
 let E:Nat→Option (Ct × Nat × Value):=fun i=>match List.find? (fun y=>y.1==i) ub with
  | some y=>some (y.2.1,y.2.2,β i)
  | none=>match List.find? (fun y=>y.1==i) rb with
    | some y=>some (y.2.1,y.2.2.1,y.2.2.2)
    | none=>none
 have hEu:∀ i B n v,E i = some (B,n,v)→(∃ y∈ub,y.1 = i∧B = y.2.1∧n = y.2.2∧v = β i)∨(∃ y,y∈rb∧y.1 = i∧B = y.2.1∧n = y.2.2.1∧v = y.2.2.2):=by
  intro i B n v hE
  simp only [E] at hE
  split at hE
  ·rename_i y hy
   simp at hE
   have:=N1 hy
   exact .inl ⟨y,this.1,by simpa using this.2,hE.1.symm,hE.2.1.symm,hE.2.2.symm⟩
  ·split at hE
   ·rename_i y hy
    simp at hE
    have:=N1 hy
    exact .inr ⟨y,this.1,by simpa using this.2,hE.1.symm,hE.2.1.symm,hE.2.2.symm⟩
   ·cases hE
 have hEin:∀ y∈ub,∃ B n v,E y.1 = some (B,n,v):=by
  intro y hy
  simp only [E]
  cases hf:List.find? (fun z=>z.1==y.1) ub with
  | some z=>exact ⟨_,_,_,rfl⟩
  | none=>rw [List.find?_eq_none] at hf; exact absurd (by simp) (hf y hy)
 have hdis:∀ y∈ub,∀ z,z∈rb→y.1≠z.1:=by
  intro y hy z hz e
  rw [List.map_append,List.nodup_append] at hnd
  refine hnd.2.2 y.1 (List.mem_map.2 ⟨y,hy,rfl⟩) z.1 ?_ e
  exact List.mem_map.2 ⟨(z.1,z.2.1,z.2.2.1),List.mem_map.2 ⟨z,hz,rfl⟩,rfl⟩
 have huniq:∀ y∈ub,∀ z∈ub,y.1 = z.1→y = z:=by
  intro y hy z hz e
  rw [List.map_append,List.nodup_append] at hnd
  exact Sr hnd.1 hy hz e
 have hS:∀ i,As (Bo (ub++PY rb) S) i = match E i with | some (B,n,_)=>⟨(As S i).av,B,n⟩ | none=>As S i:=by
  intro i
  rw [hsg i,List.find?_append,hfr]
  simp only [E]
  cases List.find? (fun y=>y.1==i) ub with
  | some y=>rfl
  | none =>
    cases List.find? (fun y=>y.1==i) rb with
    | some y=>rfl
    | none=>rfl
 have hβ:∀ i,ab β rb i = match E i with | some (_,_,v)=>v | none=>β i:=by
  intro i
  simp only [ab,E]
  cases hu:List.find? (fun y=>y.1==i) ub with
  | some y =>
    have hy:=N1 hu
    have:List.find? (fun y=>y.1==i) rb = none:=by
     rw [List.find?_eq_none]
     intro z hz hh
     exact hdis y hy.1 z hz (by have h1:=hy.2; simp at h1 hh; rw [h1,hh])
    rw [this]
  | none=>cases List.find? (fun y=>y.1==i) rb <;> rfl
 have hOA:∀ b,OS (ab β rb) X (Bo (ub++PY rb) S) b→A b:=by
  intro b hb
  rcases hb with hb | hb | ⟨i,h1,h2⟩
  ·refine hA1 b (.inl hb) fun y hy hyb=>?_
   have:=h.o₀ b hb
   rcases (h.mine y.1 b (hub y hy).1 hyb).1 with h3 | h3
   ·omega
   ·exact this.2 h3
  ·exact hA1 b (.inr (.inl hb)) fun y hy hyb=>(h.mine y.1 b (hub y hy).1 hyb).2 hb
  ·rw [hS] at h1
   rw [hβ] at h2
   cases hE:E i with
   | none =>
     rw [hE] at h1 h2
     refine hA1 b (.inr (.inr ⟨i,h1,h2⟩)) fun y hy hyb=>?_
     have:=h.inj i y.1 b h1 (hub y hy).1 h2 hyb
     obtain ⟨B,n,v,hEy⟩:=hEin y hy
     rw [← this,hE] at hEy; cases hEy
   | some q =>
     obtain ⟨B,n,v⟩:=q
     rw [hE] at h1 h2
     simp only at h1 h2
     rcases hEu i B n v hE with ⟨y,hy,h3,h4,h5,h6⟩ | ⟨y,hy,h3,h4,h5,h6⟩
     ·exact hA2 b y hy (by rw [← h4]; exact h1) (by rw [h3,← h6]; exact h2)
     ·exact hA3 b y hy (by rw [← h6]; exact h2)
 refine ⟨h.multi E hS hβ (Cr _ _) hw.size (hw.weaken h.hbase fun k hk hm hh=>?_) ?_ ?_ ?_ ?_ ?_,hOA⟩
 ·obtain ⟨y,hy,hyb⟩:=hh
  rcases (h.mine y.1 k (hub y hy).1 hyb).1 with h3 | h3
  ·omega
  ·exact hm h3
 ·intro i B n v hE
  rcases hEu i B n v hE with ⟨y,hy,rfl,h4,h5,h6⟩ | ⟨y,hy,rfl,h4,h5,h6⟩
  ·rcases (hub y hy).2 with ⟨_,h7⟩ | ⟨_,h7⟩
   ·exact .inr ⟨by rw [h5,h7],h6,fun hh=>by have:=(hub y hy).1; rw [hh] at this; cases this⟩
   ·exact .inl (by rw [h5]; exact h7)
  ·exact .inl (by rw [h5]; exact (hrb y hy).2)
 ·intro b hb hno
  refine hw.block b hb fun ⟨y,hy,hyb⟩=>?_
  obtain ⟨B,n,v,hEy⟩:=hEin y hy
  exact hno y.1 B n v hEy (hub y hy).1 hyb
 ·intro i B n v b hE hB hv
  rcases hEu i B n v hE with ⟨y,hy,rfl,h4,h5,h6⟩ | ⟨y,hy,rfl,h4,h5,h6⟩
  ·exact .inl ⟨y.1,B,n,v,hE,(hub y hy).1,by rw [← h6]; exact hv⟩
  ·rcases hmine y hy b (by rw [← h6]; exact hv) with h7 | ⟨z,hz,_,hzb⟩
   ·exact .inr h7
   ·obtain ⟨B',n',v',hEz⟩:=hEin z hz
    exact .inl ⟨z.1,B',n',v',hEz,(hub z hz).1,hzb⟩
 ·intro i j B n v B' n' v' b hEi hEj hB hB' hv hv'
  have key:∀ i j B n v B' n' v',E i = some (B,n,v)→E j = some (B',n',v')→B.owned = true→Ax v = some b→Ax v' = some b→(∃ y∈ub,y.1 = i∧B = y.2.1∧n = y.2.2∧v = β i)→(∃ y,y∈rb∧y.1 = j∧B' = y.2.1∧n' = y.2.2.1∧v' = y.2.2.2)→False:=by
   intro i j B n v B' n' v' hEi hEj hB hv hv' ⟨y,hy,h3,h4,h5,h6⟩ ⟨z,hz,k3,k4,k5,k6⟩
   have hbi:Ax (β y.1) = some b:=by rw [h3,← h6]; exact hv
   rcases hmine z hz b (by rw [← k6]; exact hv') with h7 | ⟨q,hq,hqn,hqb⟩
   ·have:=h.blk (hub y hy).1 hbi; omega
   ·have:=h.inj y.1 q.1 b (hub y hy).1 (hub q hq).1 hbi hqb
    have e:=huniq y hy q hq this
    rw [h4,e,hqn] at hB
    cases hB
  rcases hEu i B n v hEi with hy | hy <;> rcases hEu j B' n' v' hEj with hz | hz
  ·obtain ⟨y,hy,rfl,h4,h5,h6⟩:=hy
   obtain ⟨z,hz,rfl,k4,k5,k6⟩:=hz
   exact h.inj y.1 z.1 b (hub y hy).1 (hub z hz).1 (by rw [← h6]; exact hv) (by rw [← k6]; exact hv')
  ·exact (key i j B n v B' n' v' hEi hEj hB hv hv' hy hz).elim
  ·exact (key j i B' n' v' B n v hEj hEi hB' hv' hv hz hy).elim
  ·obtain ⟨y,hy,rfl,h4,h5,h6⟩:=hy
   obtain ⟨z,hz,rfl,k4,k5,k6⟩:=hz
   exact hrinj y z hy hz b (by rw [← h6]; exact hv) (by rw [← k6]; exact hv')
 ·intro k hvv i B n v hE
  rcases hEu i B n v hE with ⟨y,hy,h3,h4,h5,h6⟩ | ⟨y,hy,h3,h4,h5,h6⟩
  ·by_cases hB:B.owned = true
   ·refine Ty.rep (v:=β y.1) (by rw [h4]; exact hubox y hy (by rw [← h4]; exact hB)) hOA ?_
    rw [hβ,hE]; simp only; rw [h6,h3]
   ·rcases (hub y hy).2 with ⟨h7,_⟩ | ⟨h7,_⟩
    ·rw [h4] at hB; exact absurd h7 hB
    ·rw [h4,h7]; trivial
  ·refine Ty.rep (v:=y.2.2.2) (by rw [h4]; exact hrbox y hy) hOA ?_
   rw [hβ,hE]; exact h6
theorem OK:∀ {xs:List C} {hs:List (Nat × Nat)} {K:List C→Bx→Prop},PL xs hs K →
 ∃ l b,K l b∧l.length = xs.length∧(b.map (·.1)).Nodup∧(b.map fun y=>(y.1,y.2.2)) = hs ∧
   (∀ (i:Nat) c c',xs[i]? = some c→l[i]? = some c'→match c with
    | .d y=>c' = .d y
    | .own sz e ys=>∃ h n,c' = .sl h n∧(h,Ct.row sz e ys,n)∈b
    | .sl _ _=>False) ∧
   (∀ y∈b,∃ (i:Nat) (sz:Nat) (e:TypeId) (ys:List D),xs[i]? = some (.own sz e ys)∧l[i]? = some (.sl y.1 y.2.2)∧y.2.1 = .row sz e ys) ∧
   (∀ (i j h n n':Nat),l[i]? = some (.sl h n)→l[j]? = some (.sl h n')→i = j)
 | [],[],K,hy=>⟨[],[],hy,rfl,by simp,rfl,(fun i c c' h=>by simp at h),(fun y hy=>by cases hy),fun i j h n n' h1=>by simp at h1⟩
 | [],_ :: _,K,hy=>hy.elim
 | .d x :: r,hs,K,hy=>by
   have hy:PL r hs fun l b=>K (.d x :: l) b:=by cases hs <;> exact hy
   obtain ⟨l,b,hK,h1,h2,h3,h4,h5,h6⟩:=OK hy
   refine ⟨_,_,hK,by simp [h1],h2,h3,fun i c c' hc hc'=>?_,fun y hy=>?_,fun i j h n n' hi hj=>?_⟩
   ·cases i with
    | zero=>simp at hc hc'; subst hc; exact hc'.symm
    | succ i=>exact h4 i c c' (by simpa using hc) (by simpa using hc')
   ·obtain ⟨i,sz,e,ys,k1,k2,k3⟩:=h5 y hy
    exact ⟨i + 1,sz,e,ys,by simpa using k1,by simpa using k2,k3⟩
   ·cases i with
    | zero=>simp at hi
    | succ i=>cases j with
      | zero=>simp at hj
      | succ j=>rw [h6 i j h n n' (by simpa using hi) (by simpa using hj)]
 | .own sz e ys :: r,[],K,hy=>hy.elim
 | .own sz e ys :: r,(h,n) :: hs,K,hy=>by
   have hy:PL r hs fun l b=>if HB h b = true then K (.sl h n :: l) ((h,.row sz e ys,n) :: b) else False:=hy
   obtain ⟨l,b,hK,h1,h2,h3,h4,h5,h6⟩:=OK hy
   obtain ⟨hni,hK⟩:=Ar hK
   have notail:∀ (j n':Nat),l[j]?≠some (.sl h n'):=by
    intro j n' hj
    have hjx:j < r.length:=by rw [← h1]; exact AI hj
    have:=h4 j r[j] _ (List.getElem?_eq_getElem hjx) hj
    generalize r[j] = q at this
    cases q with
    | d y=>cases this
    | own sz' e' ys'=>obtain ⟨h',n'',k1,k2⟩:=this; simp at k1; exact EW hni _ k2 k1.1.symm
    | sl _ _=>exact this
   refine ⟨_,_,hK,by simp [h1],?_,by simp [h3],fun i c c' hc hc'=>?_,fun y hy=>?_,fun i j h' n1 n' hi hj=>?_⟩
   ·simp only [List.map_cons,List.nodup_cons]
    refine ⟨fun hm=>?_,h2⟩
    obtain ⟨y,hy,e⟩:=List.mem_map.1 hm
    exact EW hni y hy e
   ·cases i with
    | zero=>simp at hc hc'; subst hc; exact ⟨h,n,hc'.symm,by simp⟩
    | succ i =>
      have:=h4 i c c' (by simpa using hc) (by simpa using hc')
      cases c with
      | d y=>exact this
      | own sz' e' ys'=>obtain ⟨h',n',k1,k2⟩:=this; exact ⟨h',n',k1,by simp [k2]⟩
      | sl _ _=>exact this
   ·rcases List.mem_cons.1 hy with rfl | hy
    ·exact ⟨0,sz,e,ys,rfl,rfl,rfl⟩
    ·obtain ⟨i,sz',e',ys',k1,k2,k3⟩:=h5 y hy
     exact ⟨i + 1,sz',e',ys',by simpa using k1,by simpa using k2,k3⟩
   ·cases i with
    | zero=>cases j with
      | zero=>rfl
      | succ j=>simp at hi hj; rw [← hi.1] at hj; exact absurd hj (notail j n')
    | succ i=>cases j with
      | zero=>simp at hi hj; rw [← hj.1] at hi; exact absurd hi (notail i n1)
      | succ j=>rw [h6 i j h' n1 n' (by simpa using hi) (by simpa using hj)]
 | .sl _ _ :: r,[],K,hy=>hy.elim
 | .sl _ _ :: r,_ :: _,K,hy=>hy.elim
theorem Lm:∀ {xs:List C},SB xs = false→∀ (i:Nat) sz e ys,xs[i]?≠some (.own sz e ys)
 | [],_,i,sz,e,ys=>by simp
 | .d x :: r,h,0,sz,e,ys=>by simp
 | .d x :: r,h,i + 1,sz,e,ys=>by simpa using Lm (show SB r = false from h) i sz e ys
 | .sl _ _ :: r,h,0,sz,e,ys=>by simp
 | .sl _ _ :: r,h,i + 1,sz,e,ys=>by simpa using Lm (show SB r = false from h) i sz e ys
 | .own _ _ _ :: r,h,_,_,_,_=>by simp [SB] at h
structure eE (X:Cx) (G:Nat→Prop) (β:Nat→Value) (S:AS) (a:Act) (w:World) (ub:Bx) (A:Nat→Prop) (r:AV) (v:Value) (w':World):Prop where
 sim:AB X G β S a w
 hub:∀ y∈ub,(As S y.1).box.owned = true∧((y.2.1.owned = true∧y.2.2 = (As S y.1).ver)∨(y.2.1 = .none∧(As S y.1).ver < y.2.2))
 hw:Br w.heap.size (fun b=>∃ y∈ub,Ax (β y.1) = some b) w w'
 hA1:∀ b,OS β X S b→(∀ y∈ub,Ax (β y.1)≠some b)→A b
 hA2:∀ b,∀ y∈ub,y.2.1.owned = true→Ax (β y.1) = some b→A b
 res:DI (fun b=>w.heap.size≤b∨∃ z∈ub,z.2.1 = .none∧Ax (β z.1) = some b) A w' v r
 outs:∀ y∈ub,y.2.1.owned = true→Ty (fun b=>A b∨DL v r b) w' (β y.1) y.2.1
theorem Uq {rb:RB} {ub:Bx} (hnd:((ub++PY rb).map (·.1)).Nodup) (hlt:∀ y∈ub++PY rb,y.1 < S.length) {y:Nat × Ct × Nat × Value} (hy:y∈rb):AW (Bo (ub++PY rb) S) y.1 = y.2.2.1∧ab β rb y.1 = y.2.2.2:=by
 have hmem:(y.1,y.2.1,y.2.2.1)∈ub++PY rb:=List.mem_append.2 (.inr (List.mem_map.2 ⟨y,hy,rfl⟩))
 constructor
 ·simp only [AW]
  rw [S4 _ S y.1 hlt hnd]
  cases hf:(ub++PY rb).find? (fun z=>z.1==y.1) with
  | none=>rw [List.find?_eq_none] at hf; exact absurd (by simp) (hf _ hmem)
  | some z =>
    have:=N1 hf
    have e:=Sr hnd this.1 hmem (by simpa using this.2)
    simp only [e]
 ·unfold ab
  cases hf:rb.find? (fun z=>z.1==y.1) with
  | none=>rw [List.find?_eq_none] at hf; exact absurd (by simp) (hf _ hy)
  | some z =>
    have hz:=N1 hf
    have e:z.1 = y.1:=by simpa using hz.2
    have:z = y:=by
     rw [List.map_append,List.nodup_append] at hnd
     have hn:((PY rb).map (·.1)).Nodup:=hnd.2.1
     clear hmem hlt hnd hf
     induction rb with
     | nil=>cases hy
     | cons q r ih =>
       simp only [PY,List.map_cons,List.nodup_cons] at hn
       rcases List.mem_cons.1 hy with hy' | hy' <;> rcases List.mem_cons.1 hz.1 with hz' | hz'
       ·rw [hy',hz']
       ·exact absurd (by rw [← hy',← e]; simpa using ⟨_,_,_,hz'⟩) hn.1
       ·exact absurd (by rw [← hz',e]; simpa using ⟨_,_,_,hy'⟩) hn.1
       ·exact ih hy' ⟨hz',hz.2⟩ hn.2
    rw [this]
theorem RX {pre ub:Bx} {S0:AS} (hS:S = Bo pre S0) {d:Nat} (hd:d < S.length) {dv:Nat} (hdv:(As S d).ver≤dv) {r:AV} {K:GD→Prop} (hnd:(ub.map (·.1)).Nodup) (hltu:∀ y∈ub,y.1 < S.length) (hy:ba d dv r (pre++ub) K) (hvp:∀ i,(As S i).ver = (As S0 i).ver) :
 ∃ e,K e∧∀ (A:Nat→Prop) v w',eE X G β S a w ub A r v w'→FH S0 e.homes = true→Qj X G S0 a e v w':=by
 have hlen:S.length = S0.length:=by rw [hS,Cr]
 have one:∀ (B:Ct) (A:Nat→Prop) (v:Value) (w':World),HB d (pre++ub) = true→eE X G β S a w ub A r v w'→B.owned = true→(∀ b,Ax v = some b→w.heap.size≤b∨∃ z∈ub,z.2.1 = .none∧Ax (β z.1) = some b)→(∀ b,Ax v = some b→DL v r b) →
  Ty (fun b=>A b∨DL v r b) w' v B→AB X G (ab β [(d,B,dv + 1,v)]) (Bo (ub++PY [(d,B,dv + 1,v)]) S) a w'∧AW (Bo (ub++PY [(d,B,dv + 1,v)]) S) d = dv + 1∧ab β [(d,B,dv + 1,v)] d = v:=by
  intro B A v w' hni hp hB hmine hres hbox
  have hnd2:((ub++PY [(d,B,dv + 1,v)]).map (·.1)).Nodup:=by
   simp only [PY,List.map_append,List.map_cons,List.map_nil]
   rw [List.nodup_append]
   refine ⟨hnd,by simp,fun p hp q hq e=>?_⟩
   simp at hq
   subst hq
   obtain ⟨y,hy,rfl⟩:=List.mem_map.1 hp
   exact EW hni y (by simp [hy]) e
  have hlt2:∀ y∈ub++PY [(d,B,dv + 1,v)],y.1 < S.length:=by
   intro y hy
   rcases List.mem_append.1 hy with hy | hy
   ·exact hltu y hy
   ·simp [PY] at hy; rw [hy]; exact hd
  have h1:=Q2 hp.sim hnd2 hlt2 hp.hub (fun y hy=>by simp at hy; subst hy; exact ⟨hB,by simp only; omega⟩) hp.hw (fun b=>A b∨DL v r b)
   (fun b hb hn=>.inl (hp.hA1 b hb hn)) (fun b y hy ho hb=>.inl (hp.hA2 b y hy ho hb)) (fun b y hy hb=>by simp at hy; subst hy; exact .inr (hres b hb))
   (fun y hy b hb=>by simp at hy; subst hy; exact hmine b hb) (fun y z hy hz b _ _=>by simp at hy hz; rw [hy,hz]) hp.outs (fun y hy=>by simp at hy; subst hy; exact hbox)
  have h2:=Uq (β:=β) hnd2 hlt2 (y:=(d,B,dv + 1,v)) (by simp)
  exact ⟨h1.1,h2.1,h2.2⟩
 have none_:∀ (A:Nat→Prop) (v:Value) (w':World),eE X G β S a w ub A r v w'→(∀ b,¬ DL v r b)→AB X G β (Bo ub S) a w'∧∀ b,OS β X (Bo ub S) b→A b:=by
  intro A v w' hp hno
  have h1:=Q2 (rb:=[]) hp.sim (by simpa [PY] using hnd) (by simpa [PY] using hltu) hp.hub (fun y hy=>by cases hy) hp.hw A hp.hA1 hp.hA2 (fun b y hy=>by cases hy) (fun y hy=>by cases hy) (fun y z hy=>by cases hy)
   (fun y hy ho=>by
    have:=hp.outs y hy ho
    have e:(fun b=>A b∨DL v r b) = A:=by funext b; apply propext; exact ⟨fun h=>h.resolve_right (hno b),.inl⟩
    rwa [e] at this) (fun y hy=>by cases hy)
  have e:ab β [] = β:=by funext i; rfl
  rw [e] at h1
  simpa [PY] using h1
 cases r with
 | own sz e xs =>
   simp only [ba] at hy
   obtain ⟨hni,hK⟩:=Ar hy
   refine ⟨_,hK,fun A v w' hp _=>?_⟩
   obtain ⟨h1,h2,h3,vals,h4,h5⟩:=hp.res
   obtain ⟨k1,k2,k3⟩:=one (.row sz e xs) A v w' hni hp rfl h3 (fun b hb=>hb) ⟨h1,h2,vals,h4,h5.mono (Ck.of_sub fun _ _=>trivial)⟩
   have ee:Bo ((pre++ub)++[(d,Ct.row sz e xs,dv + 1)]) S0 = Bo (ub++PY [(d,.row sz e xs,dv + 1,v)]) S:=by simp only [BH]; rw [← hS]; rfl
   refine ⟨ab β [(d,.row sz e xs,dv + 1,v)],?_,?_,rfl⟩
   ·simp only [ee]; exact k1
   ·simp only [ee]
    exact ⟨by rw [k2]; exact Nat.le_refl _,fun _=>k3.symm⟩
 | optr cs =>
   simp only [ba] at hy
   obtain ⟨hni,hK⟩:=Ar hy
   rw [O7] at hK
   refine ⟨_,hK,fun A v w' hp _=>?_⟩
   obtain ⟨h1,h2⟩:=hp.res
   obtain ⟨k1,k2,k3⟩:=one (.var (cs.map .d)) A v w' hni hp rfl h1 (fun b hb=>hb) ⟨cs,rfl,h2⟩
   have e:Bo ((pre++ub)++[(d,Ct.var (cs.map .d),dv + 1)]) S0 = Bo (ub++PY [(d,.var (cs.map .d),dv + 1,v)]) S:=by simp only [BH]; rw [← hS]; rfl
   refine ⟨ab β [(d,.var (cs.map .d),dv + 1,v)],?_,?_,rfl⟩
   ·simp only [e]; exact k1
   ·simp only [e]
    obtain ⟨b,vals,T,h3,_,_⟩:=h2
    exact ⟨by rw [k2]; exact Nat.le_refl _,fun _=>⟨b,by rw [k3,h3],h3⟩⟩
 | tup xs =>
   simp only [ba] at hy
   split at hy
   ·rename_i hno
    refine ⟨_,hy,fun A v w' hp _=>?_⟩
    have hnr:∀ b,¬ DL v (.tup xs) b:=by
     rintro b ⟨vs,i,u,sz,e,ys,_,_,h3,_⟩
     exact Lm hno i sz e ys h3
    obtain ⟨h1,h2⟩:=none_ A v w' hp hnr
    obtain ⟨vs,hv,hl,hr,_⟩:=hp.res
    refine ⟨β,?_,⟨vs,hv,hl,fun i u c hu hc=>?_⟩,rfl⟩
    ·simp only [BH]; rw [← hS]; exact h1
    ·have:=hr i u c hu hc
     cases c with
     | d y =>
       refine A9.mono (Ck.of_sub fun b hb=>.inl (h2 b ?_)) this
       simp only [BH] at hb; rw [← hS] at hb; exact hb
     | own sz e ys=>exact absurd hc (Lm hno i sz e ys)
     | sl _ _=>exact this.elim
   ·obtain ⟨hs,hy⟩:=hy.go
    obtain ⟨l,hb,hK,hl,hbn,hhs,hpt,hpb,hlinj⟩:=OK hy
    obtain ⟨hall,hK⟩:=Ar hK
    refine ⟨_,hK,fun A v w' hp hok=>?_⟩
    obtain ⟨vs,hv,hvl,hr,hri⟩:=hp.res
    have hx:∀ y∈hb,∃ (i:Nat) (sz:Nat) (e:TypeId) (ys:List D),xs[i]? = some (.own sz e ys)∧l[i]? = some (.sl y.1 y.2.2)∧y.2.1 = .row sz e ys:=hpb
    have hch:∃ f:Nat × Ct × Nat→Value,∀ y∈hb,∃ (i:Nat) (sz:Nat) (e:TypeId) (ys:List D),xs[i]? = some (.own sz e ys)∧l[i]? = some (.sl y.1 y.2.2)∧y.2.1 = .row sz e ys∧vs[i]? = some (f y):=by
     refine ⟨fun y=>Classical.epsilon fun u=>∃ (i:Nat) (sz:Nat) (e:TypeId) (ys:List D),xs[i]? = some (.own sz e ys)∧l[i]? = some (.sl y.1 y.2.2)∧y.2.1 = .row sz e ys∧vs[i]? = some u,fun y hyy=>?_⟩
     obtain ⟨i,sz,e,ys,k1,k2,k3⟩:=hx y hyy
     have hlt:i < vs.size:=by rw [hvl]; exact AI k1
     exact Classical.epsilon_spec (p:=fun u=>∃ (i:Nat) (sz:Nat) (e:TypeId) (ys:List D),xs[i]? = some (.own sz e ys)∧l[i]? = some (.sl y.1 y.2.2)∧y.2.1 = .row sz e ys∧vs[i]? = some u) ⟨vs[i],i,sz,e,ys,k1,k2,k3,by simp [hlt]⟩
    obtain ⟨f,hf⟩:=hch
    let rb:RB:=hb.map fun y=>(y.1,y.2.1,y.2.2,f y)
    have hrbx:PY rb = hb:=by simp [PY,rb,List.map_map,Function.comp_def]
    have hmemr:∀ y,y∈rb→∃ z∈hb,y = (z.1,z.2.1,z.2.2,f z):=by
     intro y hyy
     obtain ⟨z,hz,rfl⟩:=List.mem_map.1 hyy
     exact ⟨z,hz,rfl⟩
    have hnd2:((ub++PY rb).map (·.1)).Nodup:=by
     rw [hrbx,List.map_append,List.nodup_append]
     refine ⟨hnd,hbn,fun p hp' q hq e=>?_⟩
     obtain ⟨y,hyy,rfl⟩:=List.mem_map.1 hp'
     obtain ⟨z,hz,rfl⟩:=List.mem_map.1 hq
     have:=List.all_eq_true.1 hall z hz
     exact EW this y (by simp [hyy]) e
    have hhome:∀ y∈hb,y.1 < S.length∧(As S y.1).ver < y.2.2:=by
     intro y hyy
     have:(y.1,y.2.2)∈hs:=by rw [← hhs]; exact List.mem_map.2 ⟨y,hyy,rfl⟩
     have key:∀ (hs:List (Nat × Nat)),FH S0 hs = true→∀ p∈hs,p.1 < S0.length∧(As S0 p.1).ver < p.2:=by
      intro hs
      induction hs with
      | nil=>intro _ p hp'; cases hp'
      | cons q r ih =>
        intro hok p hp'
        obtain ⟨q1,q2⟩:=q
        simp [FH] at hok
        rcases List.mem_cons.1 hp' with rfl | hp'
        ·exact ⟨hok.1.1,hok.1.2⟩
        ·exact ih hok.2 p hp'
     have:=key hs hok _ this
     exact ⟨by rw [hlen]; exact this.1,by rw [hvp]; exact this.2⟩
    have hlt2:∀ y∈ub++PY rb,y.1 < S.length:=by
     intro y hyy
     rw [hrbx] at hyy
     rcases List.mem_append.1 hyy with hyy | hyy
     ·exact hltu y hyy
     ·exact (hhome y hyy).1
    have hrow:∀ z∈hb,∃ (i:Nat) (sz:Nat) (e:TypeId) (ys:List D),xs[i]? = some (.own sz e ys)∧l[i]? = some (.sl z.1 z.2.2)∧z.2.1 = .row sz e ys∧vs[i]? = some (f z)∧Um (fun b=>w.heap.size≤b∨∃ z∈ub,z.2.1 = .none∧Ax (β z.1) = some b) w' (f z) sz e ys:=by
     intro z hz
     obtain ⟨i,sz,e,ys,k1,k2,k3,k4⟩:=hf z hz
     exact ⟨i,sz,e,ys,k1,k2,k3,k4,hr i _ _ k4 k1⟩
    have h1:=Q2 (rb:=rb) hp.sim hnd2 hlt2 hp.hub
     (fun y hyy=>by
      obtain ⟨z,hz,rfl⟩:=hmemr y hyy
      obtain ⟨i,sz,e,ys,_,_,k3,_⟩:=hrow z hz
      exact ⟨by simp only [k3]; rfl,(hhome z hz).2⟩) hp.hw (fun b=>A b∨DL v (.tup xs) b)
     (fun b hb hn=>.inl (hp.hA1 b hb hn)) (fun b y hy ho hb=>.inl (hp.hA2 b y hy ho hb))
     (fun b y hyy hbb=>by
      obtain ⟨z,hz,rfl⟩:=hmemr y hyy
      obtain ⟨i,sz,e,ys,k1,_,_,k4,_⟩:=hrow z hz
      exact .inr ⟨vs,i,f z,sz,e,ys,hv,k4,k1,hbb⟩)
     (fun y hyy b hbb=>by
      obtain ⟨z,hz,rfl⟩:=hmemr y hyy
      obtain ⟨i,sz,e,ys,k1,_,_,k4,k5⟩:=hrow z hz
      exact k5.2.2.1 b hbb)
     (fun y z hyy hzz b hb1 hb2=>by
      obtain ⟨y',hy',rfl⟩:=hmemr y hyy
      obtain ⟨z',hz',rfl⟩:=hmemr z hzz
      obtain ⟨i,sz,e,ys,k1,k2,_,k4,_⟩:=hrow y' hy'
      obtain ⟨j,sz2,e2,ys2,q1,q2,_,q4,_⟩:=hrow z' hz'
      have:=hri i j _ _ sz e ys sz2 e2 ys2 b k4 q4 k1 q1 hb1 hb2
      subst this
      rw [k2] at q2
      simp at q2
      exact q2.1) hp.outs
     (fun y hyy=>by
      obtain ⟨z,hz,rfl⟩:=hmemr y hyy
      obtain ⟨i,sz,e,ys,k1,_,k3,k4,k5⟩:=hrow z hz
      simp only [k3]
      obtain ⟨j1,j2,j3,vals,j4,j5⟩:=k5
      exact ⟨j1,j2,vals,j4,j5.mono (Ck.of_sub fun _ _=>trivial)⟩)
    have hee:Bo ((pre++ub)++hb) S0 = Bo (ub++PY rb) S:=by rw [hrbx]; simp only [BH]; rw [← hS]
    refine ⟨ab β rb,?_,⟨vs,hv,by rw [hl]; exact hvl,fun i u c hu hc=>?_⟩,rfl⟩
    ·simp only [hee]; exact h1.1
    ·simp only [hee]
     have hix:i < xs.length:=by rw [← hl]; exact AI hc
     have hxi:xs[i]? = some xs[i]:=List.getElem?_eq_getElem hix
     have hp1:=hpt i xs[i] c hxi hc
     have hr1:=hr i u xs[i] hu hxi
     generalize xs[i] = q at hp1 hr1 hxi
     cases q with
     | d y=>subst hp1; exact A9.mono (Ck.of_sub fun b hb=>h1.2 b hb) hr1
     | own sz e ys =>
       obtain ⟨h,n,rfl,hmem⟩:=hp1
       have hy2:(h,Ct.row sz e ys,n,f (h,.row sz e ys,n))∈rb:=List.mem_map.2 ⟨_,hmem,rfl⟩
       have hvs:=Uq (β:=β) hnd2 hlt2 hy2
       obtain ⟨j,sz2,e2,ys2,q1,q2,_,q4,_⟩:=hrow _ hmem
       refine ⟨by simp only at hvs; rw [hvs.1]; exact Nat.le_refl _,fun _=>?_⟩
       simp only at hvs
       rw [hvs.2]
       have hij:i = j:=hlinj i j h n n hc q2
       subst hij
       rw [hu] at q4
       exact Option.some.inj q4
     | sl _ _=>exact hp1.elim
 | under t want y=>exact hy.elim
 | ptr id n off=>exact hy.elim
 | sl id n=>exact hy.elim
 | eptr id n sz i off=>exact hy.elim
 | cc _ _=>exact hy.elim
 | any =>
   refine ⟨_,hy,fun A v w' hp _=>?_⟩
   obtain ⟨h1,h2⟩:=none_ A v w' hp (fun b h=>h)
   refine ⟨β,?_,trivial,rfl⟩
   simp only [BH]; rw [← hS]; exact h1
 | bot =>
   refine ⟨_,hy,fun A v w' hp _=>?_⟩
   exact hp.res.elim
 | d y =>
   refine ⟨_,hy,fun A v w' hp _=>?_⟩
   obtain ⟨h1,h2⟩:=none_ A v w' hp (fun b h=>h)
   have hr:A9 A w' v y:=hp.res
   refine ⟨β,?_,?_,rfl⟩
   ·simp only [BH]; rw [← hS]; exact h1
   ·show A9 _ _ _ _
    simp only [BH]; rw [← hS]
    exact hr.mono (Ck.of_sub h2)
 | lim sz xs =>
   refine ⟨_,hy,fun A v w' hp _=>?_⟩
   obtain ⟨h1,h2⟩:=none_ A v w' hp (fun b h=>h)
   have hr:A9 A w' v (.list sz xs)∧PR v = xs.length:=hp.res
   refine ⟨β,?_,?_,rfl⟩
   ·simp only [BH]; rw [← hS]; exact h1
   ·show A9 _ _ _ _∧_
    simp only [BH]; rw [← hS]
    exact ⟨hr.1.mono (Ck.of_sub h2),hr.2⟩
end
end Go.Abs
