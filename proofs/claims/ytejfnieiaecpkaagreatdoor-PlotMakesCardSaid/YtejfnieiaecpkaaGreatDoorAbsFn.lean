/- The abstract machine: functions. A run of the machine is a contract of the function. -/
import Derived.Test.YtejfnieiaecpkaaGreatDoorAbsCode
set_option linter.unusedVariables false
set_option linter.unusedSimpArgs false
namespace Go.Abs
open Go.RowKit (Below)
section
variable {P:Program} {X:Cx} {β:Nat→Value} {S:AS} {a:Act} {w:World}
def Ri (tmps:Array Value):ResultVar→Sem Value
 | .tmp t=>pure (tmps.getD t undef)
 | .cell a t=>do loadVar t (← asAddr (tmps.getD a undef))
theorem no:BN none a:=fun _ _ e=>by cases e
def UF (X:Cx) (β:Nat→Value) (S:AS) (a:Act) (w:World) (used:List Nat) (frz:Bx) (v:Value):C→Prop
 | .d y=>JI X (fun _=>False) β S a w frz fun O=>A9 O w v y
 | .own sz e xs=>∃ id,id∈used∧v = β id∧(As S id).box = .row sz e xs∧∀ x∈xs,∀ y∈x.cells,y.bare = true
 | .sl _ _=>False
theorem UF.mono {used used':List Nat} {frz frz':Bx} (hu:∀ i∈used,i∈used') (hf:∀ y∈frz,y∈frz') {v:Value} {c:C} (h:UF X β S a w used frz v c):UF X β S a w used' frz' v c:=by
 cases c with
 | d y=>exact JI.mono (show JI X (fun _=>False) β S a w frz fun O=>A9 O w v y from h) hf fun _ h=>h
 | own sz e xs=>obtain ⟨id,h1,h2⟩:=h; exact ⟨id,hu id h1,h2⟩
 | sl _ _=>exact h
theorem VM:∀ {cs:List C} {K:List D→Prop},Xg cs K→∃ l,K l∧cs = l.map .d
 | [],K,h=>⟨[],h,rfl⟩
 | .d x :: r,K,h=>by
   have h:Xg r fun l=>K (x :: l):=h
   obtain ⟨l,h1,h2⟩:=VM h
   exact ⟨_,h1,by rw [h2]; rfl⟩
 | .sl _ _ :: r,K,h=>h.elim
 | .own _ _ _ :: r,K,h=>h.elim
theorem Mq (h:AB X (fun _=>False) β S a w):∀ {rs:List ResultVar} {used:List Nat} {frz:Bx} {K:List C→List Nat→Bx→Prop},Pj P S used frz rs K→FZ S [] frz→(∀ i∈used,(As S i).box.owned = true) →
 ∃ cs used' frz',K cs used' frz'∧FZ S [] frz'∧(∀ i∈used,i∈used')∧(∀ y∈frz,y∈frz')∧(∀ i∈used',(As S i).box.owned = true)∧∃ vs:List Value,(rs.mapM (Ri a.tmps)).run P w = .ok vs w∧vs.length = cs.length ∧
   (∀ (i:Nat) v c,vs[i]? = some v→cs[i]? = some c→UF X β S a w used' frz' v c) ∧
   (∀ (i:Nat) v sz e xs b,vs[i]? = some v→cs[i]? = some (.own sz e xs)→Ax v = some b→∀ j∈used,Ax (β j)≠some b) ∧
   (∀ (i j:Nat) v v' sz e xs sz' e' xs' b,vs[i]? = some v→vs[j]? = some v'→cs[i]? = some (.own sz e xs)→cs[j]? = some (.own sz' e' xs')→Ax v = some b→Ax v' = some b→i = j)
 | [],used,frz,K,hy,hF,hu=>⟨[],used,frz,hy,hF,(fun _ h=>h),(fun _ h=>h),hu,[],rfl,rfl,(fun i v c hv=>by simp at hv),(fun i v sz e xs b hv=>by simp at hv),fun i j v v' sz e xs sz' e' xs' b hv=>by simp at hv⟩
 | .tmp t :: r,used,frz,K,hy,hF,hu=>by
   have data:∀ (y:D) (b:Bx),FZ S [] b→JI X (fun _=>False) β S a w b (fun O=>A9 O w (a.eval (.tmp t)) y)→(Pj P S used (frz++b) r fun l u b=>K (.d y :: l) u b) →
    ∃ cs used' frz',K cs used' frz'∧FZ S [] frz'∧(∀ i∈used,i∈used')∧(∀ y∈frz,y∈frz')∧(∀ i∈used',(As S i).box.owned = true)∧∃ vs:List Value,((ResultVar.tmp t :: r).mapM (Ri a.tmps)).run P w = .ok vs w∧vs.length = cs.length ∧
    (∀ (i:Nat) v c,vs[i]? = some v→cs[i]? = some c→UF X β S a w used' frz' v c) ∧
    (∀ (i:Nat) v sz e xs b,vs[i]? = some v→cs[i]? = some (.own sz e xs)→Ax v = some b→∀ j∈used,Ax (β j)≠some b) ∧
    (∀ (i j:Nat) v v' sz e xs sz' e' xs' b,vs[i]? = some v→vs[j]? = some v'→cs[i]? = some (.own sz e xs)→cs[j]? = some (.own sz' e' xs')→Ax v = some b→Ax v' = some b→i = j):=by
    intro y b hFb hh hy
    obtain ⟨cs,used',frz',hK,k1,k2,k3,k3',vs,k4,k5,k6,k7,k8⟩:=Mq h hy (hF.append hFb) hu
    refine ⟨_,used',frz',hK,k1,k2,fun y hy=>k3 y (by simp [hy]),k3',a.eval (.tmp t) :: vs,?_,by simp [k5],fun i v c hv hc=>?_,fun i v sz e xs b hv hc=>?_,fun i j v v' sz e xs sz' e' xs' b hv hv' hc hc' hb hb'=>?_⟩
    ·simp only [List.mapM_cons,Ri,Sem.run_bind,Sem.run_pure,Result.andThen_ok,k4]
     rfl
    ·cases i with
     | zero=>simp at hv hc; subst hv; subst hc; exact hh.mono (fun y hy=>k3 y (by simp [hy])) fun _ h=>h
     | succ i=>exact k6 i v c (by simpa using hv) (by simpa using hc)
    ·cases i with
     | zero=>simp at hc
     | succ i=>exact k7 i v sz e xs b (by simpa using hv) (by simpa using hc)
    ·cases i with
     | zero=>simp at hc
     | succ i=>cases j with
       | zero=>simp at hc'
       | succ j=>rw [k8 i j v v' sz e xs sz' e' xs' b (by simpa using hv) (by simpa using hv') (by simpa using hc) (by simpa using hc') hb hb']
   unfold Pj at hy
   have hr:=ρ_sound h no (.tmp t)
   split at hy
   ·rename_i id n sz e xs hx
    rw [hx] at hr
    rcases hy.go with hy | hy
    ·obtain ⟨y,b,hK,hFb,_,hh⟩:=I1 (x:=X) (G:=fun _=>False) (a:=a) (K:=fun y b=>y = .list sz xs∧b = [(id,Ct.frow sz xs,n)]) hr ⟨rfl,rfl⟩
     obtain ⟨rfl,rfl⟩:=hK
     exact data _ _ hFb hh hy
    ·split at hy
     ·exact hy.elim
     rename_i hcon
     obtain ⟨hbare,hy⟩:=hy
     obtain ⟨hb1,hb2,hb3⟩:=hr
     have hown:(As S id).box.owned = true:=by rw [hb1]; rfl
     obtain ⟨cs,used',frz',hK,k1,k2,k3,k3',vs,k4,k5,k6,k7,k8⟩:=Mq h hy hF (fun i hi=>by
      rcases List.mem_cons.1 hi with rfl | hi
      ·exact hown
      ·exact hu i hi)
     refine ⟨_,used',frz',hK,k1,fun i hi=>k2 i (by simp [hi]),k3,k3',a.eval (.tmp t) :: vs,?_,by simp [k5],fun i v c hv hc=>?_,fun i v sz' e' xs' b hv hc hb j hj=>?_,fun i j v v' sz1 e1 xs1 sz' e' xs' b hv hv' hc hc' hb hb'=>?_⟩
     ·simp only [List.mapM_cons,Ri,Sem.run_bind,Sem.run_pure,Result.andThen_ok,k4]
      rfl
     ·cases i with
      | zero=>simp at hv hc; subst hv; subst hc; exact ⟨id,k2 id (by simp),hb3,hb1,hbare⟩
      | succ i=>exact k6 i v c (by simpa using hv) (by simpa using hc)
     ·cases i with
      | zero =>
        simp at hv hc
        subst hv
        intro hjb
        rw [hb3] at hb
        have:=h.inj id j b hown (hu j hj) hb hjb
        subst this
        exact hcon (by simpa using hj)
      | succ i=>exact k7 i v sz' e' xs' b (by simpa using hv) (by simpa using hc) hb j (by simp [hj])
     ·cases i with
      | zero=>cases j with
        | zero=>rfl
        | succ j =>
          simp at hv
          subst hv
          rw [hb3] at hb
          exact absurd hb (k7 j v' sz' e' xs' b (by simpa using hv') (by simpa using hc') hb' id (by simp))
      | succ i=>cases j with
        | zero =>
          simp at hv'
          subst hv'
          rw [hb3] at hb'
          exact absurd hb' (k7 i v sz1 e1 xs1 b (by simpa using hv) (by simpa using hc) hb id (by simp))
        | succ j=>rw [k8 i j v v' sz1 e1 xs1 sz' e' xs' b (by simpa using hv) (by simpa using hv') (by simpa using hc) (by simpa using hc') hb hb']
   ·obtain ⟨y,b,hK,hFb,_,hh⟩:=S8 (x:=X) (G:=fun _=>False) (a:=a) hr hy
    exact data y b hFb hh hK
 | .cell t ty :: r,used,frz,K,hy,hF,hu=>by
   unfold Pj at hy
   have hr:=ρ_sound h no (.tmp t)
   split at hy
   ·rename_i id n off cs0 hx
    rw [hx] at hr
    obtain ⟨hb,_,bb,hβ,hv⟩:=hr
    obtain ⟨l0,hy,hcs⟩:=VM hy
    obtain ⟨vals,T,h3,h4,h5⟩:=Lr h hb hβ
    obtain ⟨y,hy,v0,hl,hvr⟩:=SD (P:=P) (O:=OS β X S) (w:=w) (b:=bb) (off:=off) hy (fun j y hy=>by
     simp only [List.getElem?_drop] at hy
     have hc:cs0[off + j]? = some (.d y):=by rw [hcs]; simp [hy]
     have hlt:off + j < vals.size:=by rw [h4]; exact AI hc
     have:=h5 (off + j) vals[off + j] _ (by simp [hlt]) hc
     exact ⟨vals[off + j],by simp [World.cell?,h3,hlt],this.1,this.2⟩)
    rw [RN] at hy
    obtain ⟨cs,used',frz',hK,k1,k2,k3,k3',vs,k4,k5,k6,k7,k8⟩:=Mq h hy hF hu
    have hv':a.tmps.getD t undef = .pointer (some ⟨bb,off,none⟩):=hv
    refine ⟨_,used',frz',hK,k1,k2,k3,k3',v0 :: vs,?_,by simp [k5],fun i v c hv hc=>?_,fun i v sz e xs b hv hc=>?_,fun i j v v' sz e xs sz' e' xs' b hv hv' hc hc' hb hb'=>?_⟩
    ·simp only [List.mapM_cons,Ri,hv',asAddr,Sem.run_bind,Sem.run_pure,Result.andThen_ok,hl,k4]
    ·cases i with
     | zero=>simp at hv hc; subst hv; subst hc; exact fun B _ _ _ hk=>(hvr.mono (Ck.of_sub hk)).norm
     | succ i=>exact k6 i v c (by simpa using hv) (by simpa using hc)
    ·cases i with
     | zero=>simp at hc
     | succ i=>exact k7 i v sz e xs b (by simpa using hv) (by simpa using hc)
    ·cases i with
     | zero=>simp at hc
     | succ i=>cases j with
       | zero=>simp at hc'
       | succ j=>rw [k8 i j v v' sz e xs sz' e' xs' b (by simpa using hv) (by simpa using hv') (by simpa using hc) (by simpa using hc') hb hb']
   ·exact hy.elim
theorem ON {fn:Func} {vs:List Value} (h:(fn.results.toList.mapM (Ri a.tmps)).run P w = .ok vs w) :
 (results fn a.tmps).run P w = .ok (if h:vs.toArray.size = 1 then vs.toArray[0] else .tuple vs.toArray) w:=by
 have e:(fn.results.mapM (Ri a.tmps)).run P w = .ok vs.toArray w:=by
  rw [Array.mapM_eq_mapM_toList,Sem.run_map,h]
  simp
 have e2:results fn a.tmps = (do let vs ← fn.results.mapM (Ri a.tmps); pure (if h:vs.size = 1 then vs[0] else .tuple vs)):=by
  unfold results
  congr 2
 rw [e2,Sem.run_bind,e]
 rfl
theorem VF {used:List Nat} {frz:Bx} (h:used.all (fun i=>HB i frz) = true):∀ i∈used,∀ y∈frz,y.1≠i:=fun i hi=>EW (List.all_eq_true.1 h i hi)
theorem UD (h:AB X (fun _=>False) β S a w) {fn:Func} {used:List Nat} {frz:Bx} {r:AV} (hF:FZ S [] frz) (hu:∀ i∈used,(As S i).box.owned = true) (hy:aQ P fn.results.toList used frz S r) :
 ∃ v T,(results fn a.tmps).run P w = .ok v w∧AB X (fun _=>False) β T a w∧(∀ i∈used,As T i = As S i)∧(∀ z∈frz,(As T z.1).box = z.2.1)∧(∃ F,(∀ y∈frz,y∈F)∧Fr S F T) ∧
   DI (fun b=>X.mine b∧∀ i∈used,Ax (β i)≠some b) (OS β X T) w v r∧(∀ b,DL v r b→OS β X T b):=by
 have ownR:∀ {T:AS} {used':List Nat} {v:Value} {sz:Nat} {e:TypeId} {xs:List D},AB X (fun _=>False) β T a w→(∀ i∈used',As T i = As S i)→(∃ id,id∈used'∧v = β id∧(As S id).box = .row sz e xs∧∀ x∈xs,∀ y∈x.cells,y.bare = true) →
  (∀ b,Ax v = some b→∀ j∈used,Ax (β j)≠some b)→Um (fun b=>X.mine b∧∀ i∈used,Ax (β i)≠some b) w v sz e xs∧∀ b,Ax v = some b→OS β X T b:=by
  intro T used' v sz e xs hT hsame ⟨id,h1,h2,h3,h4⟩ hne
  have hbT:(As T id).box = .row sz e xs:=by rw [hsame id h1]; exact h3
  have hown:(As T id).box.owned = true:=by rw [hbT]; rfl
  have hb:=hT.boxes id
  rw [hbT] at hb
  obtain ⟨k1,k2,vals,k3,k4⟩:=hb
  refine ⟨⟨k1,k2,fun b hbb=>⟨(hT.mine id b hown (by rw [← h2]; exact hbb)).1,hne b hbb⟩,vals,by rw [h2]; exact k3,?_⟩,fun b hbb=>.inr (.inr ⟨id,hown,by rw [← h2]; exact hbb⟩)⟩
  refine ⟨k4.1,fun j u y hu hy=>?_⟩
  have:=k4.2 j u y hu hy
  refine ⟨Qm this.1 ?_,this.2⟩
  have hm:=List.mem_of_getElem? hy
  obtain ⟨x,hx,hyx⟩:=List.mem_flatMap.1 hm
  exact h4 x hx y hyx
 have rest:∀ {rs:List ResultVar},rs = fn.results.toList→(Pj P S used frz rs fun l u b=>dz l u b r)→∃ v T,(results fn a.tmps).run P w = .ok v w∧AB X (fun _=>False) β T a w∧(∀ i∈used,As T i = As S i)∧(∀ z∈frz,(As T z.1).box = z.2.1)∧(∃ F,(∀ y∈frz,y∈F)∧Fr S F T) ∧
  DI (fun b=>X.mine b∧∀ i∈used,Ax (β i)≠some b) (OS β X T) w v r∧(∀ b,DL v r b→OS β X T b):=by
  intro rs hrs hy
  obtain ⟨cs,used',frz',hK,k1,k2,k3,k3',vs,k4,k5,k6,k7,k8⟩:=Mq h hy hF hu
  unfold dz at hK
  obtain ⟨hall,hK2⟩:=Ar hK
  clear hK
  have hnot:=VF hall
  obtain ⟨t1,t2,t3⟩:=k1.run h
  have hsame:∀ i∈used',As (Bo frz' S) i = As S i:=by
   intro i hi
   have e1:=t3.other i (hnot i hi)
   have e2:=t3.ver i
   have e3:=t3.av i
   generalize As (Bo frz' S) i = p at e1 e2 e3
   generalize As S i = q at e1 e2 e3
   obtain ⟨_,_,_⟩:=p
   obtain ⟨_,_,_⟩:=q
   simp only at e1 e2 e3
   rw [e1,e2,e3]
  have hdat:∀ (i:Nat) v y,vs[i]? = some v→cs[i]? = some (.d y)→A9 (OS β X (Bo frz' S)) w v y:=fun i v y hv hc=>(show JI X (fun _=>False) β S a w frz' fun O=>A9 O w v y from k6 i v _ hv hc) frz' (fun _ h=>h) t3 t1 t2
  have hrow:∀ (i:Nat) v sz e xs,vs[i]? = some v→cs[i]? = some (.own sz e xs)→Um (fun b=>X.mine b∧∀ i∈used,Ax (β i)≠some b) w v sz e xs∧∀ b,Ax v = some b→OS β X (Bo frz' S) b:=by
   intro i v sz e xs hv hc
   exact ownR t1 hsame (k6 i v _ hv hc) (fun b hb=>k7 i v sz e xs b hv hc hb)
  have fin:∀ v,(results fn a.tmps).run P w = .ok v w→DI (fun b=>X.mine b∧∀ i∈used,Ax (β i)≠some b) (OS β X (Bo frz' S)) w v r→(∀ b,DL v r b→OS β X (Bo frz' S) b)→∃ v T,(results fn a.tmps).run P w = .ok v w∧AB X (fun _=>False) β T a w∧(∀ i∈used,As T i = As S i)∧(∀ z∈frz,(As T z.1).box = z.2.1)∧(∃ F,(∀ y∈frz,y∈F)∧Fr S F T) ∧
   DI (fun b=>X.mine b∧∀ i∈used,Ax (β i)≠some b) (OS β X T) w v r∧(∀ b,DL v r b→OS β X T b) :=
   fun v hv hr hb=>⟨v,_,hv,t1,fun i hi=>hsame i (k2 i hi),fun z hz=>t3.mem z (k3 z hz),⟨frz',k3,t3⟩,hr,hb⟩
  have hrun:=ON (P:=P) (w:=w) (a:=a) (fn:=fn) (vs:=vs) (by rw [← hrs]; exact k4)
  have tup:fy (.tup cs) r→cs.length≠1→∃ v T,(results fn a.tmps).run P w = .ok v w∧AB X (fun _=>False) β T a w∧(∀ i∈used,As T i = As S i)∧(∀ z∈frz,(As T z.1).box = z.2.1)∧(∃ F,(∀ y∈frz,y∈F)∧Fr S F T) ∧
   DI (fun b=>X.mine b∧∀ i∈used,Ax (β i)≠some b) (OS β X T) w v r∧(∀ b,DL v r b→OS β X T b):=by
   intro hr hne
   have hl:¬ vs.toArray.size = 1:=by intro hh; apply hne; rw [← k5]; simpa using hh
   rw [dif_neg hl] at hrun
   have hr:=hr.go
   subst hr
   have hres:∀ b,DL (.tuple vs.toArray) (.tup cs) b→OS β X (Bo frz' S) b:=by
    rintro b ⟨vs',i,u,sz,e,ys,h1,h2,h3,h4⟩
    cases h1
    exact (hrow i u sz e ys (by simpa using h2) h3).2 b h4
   refine fin _ hrun ⟨vs.toArray,rfl,by simpa using k5,fun i u c hu' hc=>?_,fun i j u u' sz e ys sz' e' ys' b h1 h2 h3 h4 h5 h6=>k8 i j u u' sz e ys sz' e' ys' b (by simpa using h1) (by simpa using h2) h3 h4 h5 h6⟩ hres
   cases c with
   | d y =>
     refine A9.mono (Ck.of_sub fun b hb=>?_) (hdat i u y (by simpa using hu') hc)
     rcases hb with hb | hb
     ·exact hb
     ·exact hres b hb
   | own sz e ys=>exact (hrow i u sz e ys (by simpa using hu') hc).1
   | sl _ _=>exact (k6 i u _ (by simpa using hu') hc).elim
  match cs,hK2,k5,k6,k7,k8,hdat,hrow,tup with
  | [],hK2,k5,k6,k7,k8,hdat,hrow,tup=>exact tup hK2 (by simp)
  | c1 :: c2 :: q,hK2,k5,k6,k7,k8,hdat,hrow,tup=>exact tup hK2 (by simp)
  | [c],hK2,k5,k6,k7,k8,hdat,hrow,tup =>
    have hl:vs.length = 1:=k5
    obtain ⟨v,rfl⟩:=List.length_eq_one_iff.1 hl
    have hrv:(results fn a.tmps).run P w = .ok v w:=by simpa using hrun
    have hr:=(show fy (fK c) r from hK2).go
    subst hr
    cases c with
    | d y=>exact fin v hrv (hdat 0 v y rfl rfl) (fun b hb=>hb.elim)
    | own sz e xs =>
      obtain ⟨j1,j2⟩:=hrow 0 v sz e xs rfl rfl
      exact fin v hrv j1 j2
    | sl _ _=>exact (k6 0 v _ rfl rfl).elim
 unfold aQ at hy
 split at hy
 ·rename_i t hrs
  split at hy
  ·rename_i id n cs hx
   have hr:=ρ_sound h no (.tmp t)
   rw [hx] at hr
   obtain ⟨hb1,hb2,bb,hβ,hv⟩:=hr
   split at hy
   ·exact hy.elim
   rename_i hcon
   obtain ⟨l,b,hK,hFb,hfr,hcd,hh⟩:=NG h hy
   obtain ⟨hall,hK⟩:=Ar hK
   obtain ⟨rfl⟩:=hK
   have hnot:=VF hall
   have hFF:=hF.append hFb
   obtain ⟨t1,t2,t3⟩:=hFF.run h
   have hsame:∀ i∈id :: used,As (Bo (frz++b) S) i = As S i:=by
    intro i hi
    have e1:=t3.other i (hnot i hi)
    have e2:=t3.ver i
    have e3:=t3.av i
    generalize As (Bo (frz++b) S) i = p at e1 e2 e3
    generalize As S i = q at e1 e2 e3
    obtain ⟨_,_,_⟩:=p
    obtain ⟨_,_,_⟩:=q
    simp only at e1 e2 e3
    rw [e1,e2,e3]
   have hbT:(As (Bo (frz++b) S) id).box = .var cs:=by rw [hsame id (by simp)]; exact hb1
   have hown:(As (Bo (frz++b) S) id).box.owned = true:=by rw [hbT]; rfl
   obtain ⟨vals,T,q1,q2,q3⟩:=Lr t1 hbT hβ
   have hcd':JO S (frz++b) cs l:=hcd.mono fun y hy=>by simp [hy]
   have hrep:=S6 t3 t1 hcd' (vals:=vals.toList) (by simpa using q2) (fun j v c hv hc=>q3 j v c (by simpa using hv) hc)
   have hblk:Ax (β id) = some bb:=by rw [hβ]; rfl
   have hvb:a.eval (.tmp t) = β id:=by rw [hv,hβ]
   have hrun:(results fn a.tmps).run P w = .ok (β id) w:=by
    have:=ON (P:=P) (w:=w) (a:=a) (fn:=fn) (vs:=[β id]) (by
     rw [hrs]
     simp only [List.mapM_cons,Ri,List.mapM_nil,Sem.run_bind,Sem.run_pure,Result.andThen_ok]
     rw [← hvb]; rfl)
    simpa using this
   refine ⟨β id,_,hrun,t1,fun i hi=>hsame i (by simp [hi]),fun z hz=>t3.mem z (by simp [hz]),⟨_,fun y hy=>by simp [hy],t3⟩,⟨fun b' hb'=>⟨(t1.mine id b' hown hb').1,fun i hi hbi=>?_⟩,bb,vals,T,hβ,q1,?_⟩,fun b' hb'=>.inr (.inr ⟨id,hown,hb'⟩)⟩
   ·have:=h.inj id i b' (by rw [hb1]; rfl) (hu i hi) hb' hbi
    subst this
    exact hcon (by simpa using hi)
   ·refine hrep.mono (Ck.of_sub fun b' hb'=>?_)
    rcases hb' with hb' | hb'
    ·exact hb'
    ·exact .inr (.inr ⟨id,hown,hb'⟩)
  ·exact rest rfl hy
 ·exact rest rfl hy
theorem KW:∀ (args:List AV) (k:Nat) (S:AS),(enter k args S).length = args.length + (S.length - args.length)
 | [],_,S=>by simp [enter]
 | x :: r,k,S=>by simp only [enter,List.length_cons,KW r,List.length_drop]; omega
theorem NS:∀ n,(EO n).length = n
 | 0=>rfl
 | n + 1=>by simp [EO,NS n]
theorem QB:∀ n i,As (EO n) i = bS
 | 0,_=>rfl
 | _ + 1,0=>rfl
 | n + 1,i + 1=>QB n i
theorem ZX (k:Nat):∀ (S:AS) (i:Nat),As (S.drop k) i = As S (k + i):=by
 induction k with
 | zero=>intro S i; simp
 | succ k ih =>
   intro S i
   cases S with
   | nil=>simp [As]
   | cons s r=>rw [List.drop_succ_cons,ih,show k + 1 + i = (k + i) + 1 by omega]; rfl
theorem Qt:∀ (args:List AV) (k:Nat) (S:AS) (i:Nat),As (enter k args S) i = match args[i]? with | some x=>Nf (k + i) x | none=>As S i
 | [],k,S,i=>by simp [enter]
 | x :: r,k,S,0=>by simp [enter,As]
 | x :: r,k,S,i + 1=>by
   simp only [enter,As,Qt r,List.getElem?_cons_succ]
   rw [show k + 1 + i = k + (i + 1) by omega]
   split
   ·rfl
   ·rw [ZX,Nat.add_comm]
theorem Wj {n:Nat} {args:List AV} {O M:Nat→Prop} {w:World} {vs:Array Value} (hO:∀ b,O b→b < w.heap.size) (hG:Vy (fun b=>O b∨Jn vs args b) w) (hlen:vs.size = args.length) (hMO:∀ b,Jn vs args b→¬ O b)
 (hinj:∀ (i j:Nat) v v' x y b,vs[i]? = some v→vs[j]? = some v'→args[i]? = some x→args[j]? = some y→x.mut = true→y.mut = true→Ax v = some b→Ax v' = some b→i = j)
 (hargs:∀ (i:Nat) v x,vs[i]? = some v→args[i]? = some x→Z7 (fun b=>O b∨Jn vs args b) w v x) :
 AB ⟨w.heap.size,Jn vs args,O,fun _=>False,w,fun i=>vs.getD i undef,UC hG⟩ (fun _=>False) (fun i=>vs.getD i undef) (enter 0 args (EO n)) { tmps:=vs++Array.replicate (n - vs.size) undef,defers:=[] } w:=by
 have hget:∀ i,As (enter 0 args (EO n)) i = match args[i]? with | some x=>Nf i x | none=>bS:=by
  intro i
  rw [Qt]
  simp only [Nat.zero_add,QB]
 have hver:∀ i,(As (enter 0 args (EO n)) i).ver = 0:=by
  intro i
  rw [hget]
  split
  ·rename_i x _; cases x <;> rfl
  ·rfl
 have hval:∀ (i:Nat) x,args[i]? = some x→vs[i]? = some (vs.getD i undef):=by
  intro i x hx
  have:i < vs.size:=by rw [hlen]; exact AI hx
  simp [Array.getD,this]
 have hown:∀ i,(As (enter 0 args (EO n)) i).box.owned = true→∃ x,args[i]? = some x∧x.mut = true:=by
  intro i ho
  rw [hget] at ho
  split at ho
  ·rename_i x hx
   refine ⟨x,hx,?_⟩
   cases x <;> first | rfl | simp [Nf,Ct.owned] at ho
  ·simp [bS,Ct.owned] at ho
 have hOS:∀ b,OS (fun i=>vs.getD i undef) ⟨w.heap.size,Jn vs args,O,fun _=>False,w,fun i=>vs.getD i undef,UC hG⟩ (enter 0 args (EO n)) b→O b∨Jn vs args b:=by
  intro b hb
  rcases hb with hb | hb | ⟨i,h1,h2⟩
  ·exact .inl hb
  ·exact hb.elim
  ·obtain ⟨x,hx,hm⟩:=hown i h1
   exact .inr ⟨i,_,x,hval i x hx,hx,hm,h2⟩
 refine ⟨?_,rfl,Br.refl _ _ _,Nat.le_refl _,fun b hb=>⟨hO b hb,fun hm=>hMO b hm hb⟩,(fun b hb=>hb.elim),?_,?_,?_,?_,?_,?_⟩
 ·rw [KW,NS]; simp [hlen]
 ·intro t v hv
  rw [hget]
  split
  ·rename_i x hx
   have hlt:t < vs.size:=by rw [hlen]; exact AI hx
   rw [Array.getElem?_append_left hlt] at hv
   have hr:=hargs t v x hv hx
   have hvd:v = vs.getD t undef:=by simp [hlt] at hv; simp [Array.getD,hlt,hv]
   cases x with
   | any=>trivial
   | d y=>exact A9.mono (Ck.of_sub hOS) (show A9 _ w v y from hr)
   | lim sz xs =>
     have hr':A9 (fun b=>O b∨Jn vs args b) w v (.list sz xs)∧PR v = xs.length:=hr
     exact ⟨hr'.1.mono (Ck.of_sub hOS),hr'.2⟩
   | own sz e xs=>exact ⟨Nat.zero_le _,fun _=>hvd⟩
   | optr cs =>
     obtain ⟨b,vals,T,h1,h2,h3⟩:=hr
     exact ⟨Nat.zero_le _,fun _=>⟨b,by show vs.getD t undef = _; rw [← hvd]; exact h1,h1⟩⟩
   | bot | ptr _ _ _ | sl _ _ | eptr _ _ _ _ _ | tup _ | under _ _ _ | cc _ _=>exact hr.elim
  ·trivial
 ·intro i
  rw [hget]
  split
  ·rename_i x hx
   have hr:=hargs i _ x (hval i x hx) hx
   cases x with
   | any | d _ | lim _ _ | bot | ptr _ _ _ | sl _ _ | eptr _ _ _ _ _ | tup _ | under _ _ _ | cc _ _=>trivial
   | own sz e xs =>
     obtain ⟨h1,h2,vals,h3,h4⟩:=hr
     exact ⟨h1,h2,vals,h3,h4.mono (Ck.of_sub hOS)⟩
   | optr cs =>
     obtain ⟨b,vals,T,h1,h2,h3⟩:=hr
     exact ⟨b,vals,T,h1,h2,by have:=h3.1; simpa using this,fun j v c hv hc=>(h3.mono (Ck.of_sub hOS)).cells j v c (by simpa using hv) hc⟩
  ·trivial
 ·intro i b ho hb
  obtain ⟨x,hx,hm⟩:=hown i ho
  exact ⟨.inr ⟨i,_,x,hval i x hx,hx,hm,hb⟩,fun h=>h⟩
 ·intro i j b hi hj hbi hbj
  obtain ⟨x,hx,hm⟩:=hown i hi
  obtain ⟨y,hy,hm'⟩:=hown j hj
  exact hinj i j _ _ x y b (hval i x hx) (hval j y hy) hx hy hm hm' hbi hbj
 ·intro t u hu
  rw [hget] at hu
  split at hu
  ·rename_i x hx
   have hr:=hargs t _ x (hval t x hx) hx
   cases x <;> simp [Nf,AV.guards] at hu
   exact hr.elim
  ·simp [bS,AV.guards] at hu
 ·intro i _ _; rfl
theorem OR {vs:Array Value} {args:List AV} (h:∀ x∈args,x.mut = false) (b:Nat):¬ Jn vs args b:=by
 rintro ⟨i,v,x,_,hx,hm,_⟩
 rw [h x (List.mem_of_getElem? hx)] at hm
 cases hm
theorem PG {J:List Nat} (hdraw:N7 P) {f:FuncId} {fn:Func} {args:List AV} {r:AV} (hf:P.funcs[f]? = some fn) (hname:(fn.name == "runtime.NumGoroutine") = false) (hr:Zq P J fn args r):Ao P f args r:=by
 unfold Zq at hr
 split at hr
 ·rename_i c hc
  refine ⟨by simp [GG,hf,hname,hc],fun O w vs hO hG0 hlen hargs=>?_⟩
  rw [Im] at hr
  refine calls_of_wp hf hc ?_
  have hnm:∀ x∈args,x.mut = false:=by
   intro x hx
   obtain ⟨i,hi⟩:=List.mem_iff_getElem?.1 hx
   have hlt:i < vs.size:=by rw [hlen]; exact AI hi
   have:=hargs i vs[i] x (by simp [hlt]) hi
   cases x <;> first | rfl | exact this.elim
  have hG:Vy (fun b=>O b∨Jn vs args b) w:=fun g cs hg=>(hG0 g cs hg).mono (Ck.of_sub fun b hb=>hb.resolve_right (OR hnm b))
  have hsim:=Wj (n:=fn.ntmps) (M:=fun _=>False) hO hG hlen (fun b hm=>absurd hm (OR hnm b)) (fun i j v v' x y b _ _ hx _ hm=>by rw [hnm x (List.mem_of_getElem? hx)] at hm; cases hm)
   (fun i v x hv hx=>by
    have h1:=(hargs i v x hv hx).mono (O':=fun b=>O b∨Jn vs args b) (Ck.of_sub fun b hb=>hb.resolve_right (OR hnm b))
    have h2:=hnm x (List.mem_of_getElem? hx)
    cases x <;> first | exact h1 | cases h2)
  refine wp_mono (Fh hdraw c hr hsim) fun e a' w' hq=>?_
  obtain ⟨β',S',hq,hs⟩:=hq
  have fin:aQ P fn.results.toList [] [] S' r→a'.defers = []∧∃ v,(results fn a'.tmps).run P w' = .ok v w'∧∃ v',Ending.returned v = .returned v'∧Below w.heap.size w w'∧DI (fun b=>w.heap.size≤b) O w' v' r:=by
   intro hq
   obtain ⟨v,T,h1,h2,_,_,_,h3,_⟩:=UD hs (frz:=[]) trivial (fun _ h=>by cases h) hq
   refine ⟨hs.df,v,h1,v,rfl,hs.below.below (OR hnm),h3.mono (fun b hb=>hb.1.resolve_right (OR hnm b)) (fun b hb=>.inl hb)⟩
  cases e with
  | normal=>exact fin hq
  | ret=>exact fin hq
  | exit id=>exact hq.elim
  | goto l=>exact hq.elim
  | panic ch=>exact hq.elim
  | outgrown=>exact hq.elim
 ·exact hr.elim
theorem M1 (h:AB X (fun _=>False) β S a w):∀ {outs:List AV} {k:Nat} {K:List Nat→Bx→Prop},RL S k outs K →
 ∃ used frz,K used frz∧FZ S [] frz∧(∀ i∈used,(As S i).box.owned = true) ∧
   ∀ (i:Nat) y,outs[i]? = some y→y.mut = true→k + i∈used∧(As S (k + i)).ver = 0∧match y with
     | .own sz e ys=>(As S (k + i)).box = .row sz e ys
     | .optr l=>∃ cs,(As S (k + i)).box = .var cs∧JO S frz cs l
     | _=>False
 | [],k,K,hy=>⟨[],[],hy,trivial,(fun _ h=>by cases h),fun i y h=>by simp at h⟩
 | q :: r,k,K,hy=>by
   have skip:RL S (k + 1) r K→q.mut = false→∃ used frz,K used frz∧FZ S [] frz∧(∀ i∈used,(As S i).box.owned = true) ∧
    ∀ (i:Nat) y,(q :: r)[i]? = some y→y.mut = true→k + i∈used∧(As S (k + i)).ver = 0∧match y with
      | .own sz e ys=>(As S (k + i)).box = .row sz e ys
      | .optr l=>∃ cs,(As S (k + i)).box = .var cs∧JO S frz cs l
      | _=>False:=by
    intro hy hm
    obtain ⟨used,frz,hK,h1,h2,h3⟩:=M1 h hy
    refine ⟨used,frz,hK,h1,h2,fun i y hi hmy=>?_⟩
    cases i with
    | zero=>simp at hi; subst hi; rw [hm] at hmy; cases hmy
    | succ i=>have:=h3 i y (by simpa using hi) hmy; rw [show k + (i + 1) = k + 1 + i by omega]; exact this
   cases q with
   | own sz e ys =>
     unfold RL at hy
     split at hy
     ·rename_i av sz' e' xs hs
      obtain ⟨⟨rfl,rfl,rfl⟩,hy⟩:=hy
      obtain ⟨used,frz,hK,h1,h2,h3⟩:=M1 h hy
      refine ⟨_,frz,hK,h1,fun i hi=>?_,fun i y hi hmy=>?_⟩
      ·rcases List.mem_cons.1 hi with rfl | hi
       ·rw [hs]; rfl
       ·exact h2 i hi
      ·cases i with
       | zero=>simp at hi; subst hi; simp only [Nat.add_zero]; exact ⟨by simp,by rw [hs],by simp only [hs]⟩
       | succ i=>have:=h3 i y (by simpa using hi) hmy; rw [show k + (i + 1) = k + 1 + i by omega]; exact ⟨by simp [this.1],this.2⟩
     ·exact hy.elim
   | optr l =>
     unfold RL at hy
     split at hy
     ·rename_i av cs hs
      obtain ⟨l',b,hy2,hFb,hfr,hcd,_⟩:=NG h hy
      obtain ⟨el,hy3⟩:=hy2
      subst el
      obtain ⟨used,frz,hK,h1,h2,h3⟩:=M1 h hy3
      refine ⟨_,_,hK,hFb.append h1,fun i hi=>?_,fun i y hi hmy=>?_⟩
      ·rcases List.mem_cons.1 hi with rfl | hi
       ·rw [hs]; rfl
       ·exact h2 i hi
      ·cases i with
       | zero=>simp at hi; subst hi; simp only [Nat.add_zero]; exact ⟨by simp,by rw [hs],cs,by rw [hs],hcd.mono fun y hy=>by simp [hy]⟩
       | succ i =>
         have:=h3 i y (by simpa using hi) hmy
         rw [show k + (i + 1) = k + 1 + i by omega]
         refine ⟨by simp [this.1],this.2.1,?_⟩
         have h4:=this.2.2
         cases y <;> first | exact h4 | (obtain ⟨cs',h5,h6⟩:=h4; exact ⟨cs',h5,h6.mono fun y hy=>by simp [hy]⟩)
     ·exact hy.elim
   | any=>exact skip hy rfl
   | bot=>exact skip hy rfl
   | d _=>exact skip hy rfl
   | lim _ _=>exact skip hy rfl
   | ptr _ _ _=>exact skip hy rfl
   | sl _ _=>exact skip hy rfl
   | eptr _ _ _ _ _=>exact skip hy rfl
   | tup _=>exact skip hy rfl
   | under _ _ _=>exact skip hy rfl
   | cc _ _=>exact skip hy rfl
theorem PV {J:List Nat} (hdraw:N7 P) {f:FuncId} {fn:Func} {args outs:List AV} {r:AV} (hf:P.funcs[f]? = some fn) (hname:(fn.name == "runtime.NumGoroutine") = false) (hol:outs.length = args.length)
 (hfit:∀ (i:Nat) x y,args[i]? = some x→outs[i]? = some y→match y with
  | .own sz e _=>∃ xs,x = .own sz e xs
  | .optr cs=>∃ cs',x = .optr cs'∧cs.length = cs'.length
  | _=>True) (hr:W9 P J fn args outs r):Ec P f args outs r:=by
 unfold W9 at hr
 split at hr
 ·rename_i c hc
  refine ⟨by simp [GG,hf,hname,hc],hol,fun O w vs hO hG hlen hMO hinj hargs=>?_⟩
  rw [Im] at hr
  refine calls_of_wp hf hc ?_
  have hsim:=Wj (n:=fn.ntmps) (M:=fun _=>False) hO hG hlen hMO hinj hargs
  refine wp_mono (Fh hdraw c hr hsim) fun e a' w' hq=>?_
  obtain ⟨β',S',hq,hs⟩:=hq
  have fin:(RL S' 0 outs fun u b=>aQ P fn.results.toList u b S' r)→a'.defers = []∧∃ v,(results fn a'.tmps).run P w' = .ok v w'∧∃ v',Ending.returned v = .returned v'∧Br w.heap.size (Jn vs args) w w' ∧
   DI (fun b=>w.heap.size≤b∨(Jn vs args b∧¬ Jn vs outs b)) (fun b=>O b∨Jn vs outs b) w' v' r ∧
   ∀ (i:Nat) u x y,vs[i]? = some u→args[i]? = some x→outs[i]? = some y→RU (fun b=>O b∨Jn vs outs b∨DL v' r b) w' u x y:=by
   intro hq
   obtain ⟨used,frz,hq,hF,hu,hk⟩:=M1 hs hq
   obtain ⟨v,T,h1,h2,h3,h4,⟨F,hFF,hFr⟩,h5,h6⟩:=UD hs hF hu hq
   have hβ:∀ (i:Nat) u y,vs[i]? = some u→outs[i]? = some y→y.mut = true→i∈used∧β' i = u:=by
    intro i u y hi hy hm
    have:=hk i y hy hm
    simp only [Nat.zero_add] at this
    refine ⟨this.1,?_⟩
    have hne:(As S' i).box≠.none:=by intro e; have:=hu i this.1; rw [e] at this; cases this
    have hini:=hs.ini i this.2.1 hne
    have hlt:=GH hi
    rw [hini]
    simp [hlt] at hi
    simp [Array.getD,hlt,hi]
   have hMo:∀ b,Jn vs outs b→∃ i∈used,Ax (β' i) = some b:=by
    rintro b ⟨i,u,y,hi,hy,hm,hb⟩
    obtain ⟨k1,k2⟩:=hβ i u y hi hy hm
    exact ⟨i,k1,by rw [k2]; exact hb⟩
   have hMT:∀ b,Jn vs outs b→OS β' ⟨w.heap.size,Jn vs args,O,fun _=>False,w,fun i=>vs.getD i undef,UC hG⟩ T b:=by
    intro b hb
    obtain ⟨i,hi,hb⟩:=hMo b hb
    exact .inr (.inr ⟨i,by rw [h3 i hi]; exact hu i hi,hb⟩)
   refine ⟨hs.df,v,h1,v,rfl,hs.below,h5.mono (fun b hb=>?_) (fun b hb=>?_),fun i u x y hu' hx hy=>?_⟩
   ·rcases hb.1 with hb' | hb'
    ·exact .inl hb'
    ·exact .inr ⟨hb',fun hm=>by obtain ⟨i,hi,hbi⟩:=hMo b hm; exact hb.2 i hi hbi⟩
   ·rcases hb with hb | hb
    ·exact .inl hb
    ·exact hMT b hb
   ·have hsub:∀ b,(O b∨Jn vs outs b∨DL v r b)→OS β' ⟨w.heap.size,Jn vs args,O,fun _=>False,w,fun i=>vs.getD i undef,UC hG⟩ T b:=by
     intro b hb
     rcases hb with hb | hb | hb
     ·exact .inl hb
     ·exact hMT b hb
     ·exact h6 b hb
    have hft:=hfit i x y hx hy
    cases y <;> try trivial
    ·rename_i sz e ys
     obtain ⟨k1,k2⟩:=hβ i u _ hu' hy rfl
     have hki:=(hk i _ hy rfl).2.2
     simp only [Nat.zero_add] at hki
     have hb:=h2.boxes i
     rw [h3 i k1,hki] at hb
     obtain ⟨j1,j2,vals,j3,j4⟩:=hb
     exact ⟨⟨j1,j2,vals,by rw [← k2]; exact j3,j4.mono (Ck.of_sub hsub)⟩,hft⟩
    ·rename_i l
     obtain ⟨k1,k2⟩:=hβ i u _ hu' hy rfl
     obtain ⟨cs,hkb,hcd⟩:=(hk i _ hy rfl).2.2
     simp only [Nat.zero_add] at hkb
     have hb:=h2.boxes i
     rw [h3 i k1,hkb] at hb
     obtain ⟨b,vals,T',j1,j2,j3,j4⟩:=hb
     refine ⟨⟨b,vals,T',by rw [← k2]; exact j1,j2,?_⟩,hft⟩
     refine (S6 hFr h2 (hcd.mono hFF) (vals:=vals.toList) (by simpa using j3) (fun j v c hv hc=>j4 j v c (by simpa using hv) hc)).mono (Ck.of_sub hsub)
  cases e with
  | normal=>exact fin hq
  | ret=>exact fin hq
  | exit id=>exact hq.elim
  | goto l=>exact hq.elim
  | panic ch=>exact hq.elim
  | outgrown=>exact hq.elim
 ·exact hr.elim
theorem XG {n k q sz:Nat} {e:TypeId} {xs:List D} {args:List AV} (hk:k < args.length) (hq:q < args.length) (hkq:q≠k) (i:Nat) :
 As (AR (AR (Eh (enter 0 args (EO n)) k (.ptr k 0 0)) k (.var [.sl q 0]) 0) q (.row sz e xs) 0) i =
  if i = q then ⟨(As (enter 0 args (EO n)) q).av,.row sz e xs,0⟩ else if i = k then ⟨.ptr k 0 0,.var [.sl q 0],0⟩ else As (enter 0 args (EO n)) i:=by
 have hl:args.length≤(enter 0 args (EO n)).length:=by rw [KW]; omega
 rw [BI,BI,BI,C0,C0,C0]
 simp only [C9,Ho]
 have h1:k < (enter 0 args (EO n)).length:=by omega
 have h2:q < (enter 0 args (EO n)).length:=by omega
 by_cases e1:i = q
 ·subst e1; simp [h1,h2,hkq]
 ·by_cases e2:i = k
  ·subst e2; simp [h1,h2,e1]
  ·simp [h1,h2,e1,e2]
theorem V8 {J:List Nat} (hdraw:N7 P) {f:FuncId} {fn:Func} {args:List AV} {k q sz:Nat} {e:TypeId} {xs ys:List D} (hf:P.funcs[f]? = some fn) (hname:(fn.name == "runtime.NumGoroutine") = false) (hres:fn.results = #[])
 (hk:args[k]? = some .any) (hq:q < args.length) (hkq:q≠k) (hmut:args.all (fun x=>!x.mut) = true) (hr:cC P J fn args k q sz e xs ys):XK P f args k sz e xs ys:=by
 unfold cC at hr
 split at hr
 ·rename_i c hc
  refine ⟨by simp [GG,hf,hname,hc],fun O w vs b u T hO hG hlen hvk hh hbO huO hsz hxs hrow hargs=>?_⟩
  rw [Im] at hr
  refine calls_of_wp hf hc ?_
  have hkl:k < args.length:=AI hk
  obtain ⟨rvals,hrr,hrl⟩:=hrow
  have hnm:∀ x∈args,x.mut = false:=by
   intro x hx
   have:=List.all_eq_true.1 hmut x hx
   simpa using this
  have hbw:b < w.heap.size:=by
   rcases Nat.lt_or_ge b w.heap.size with h | h
   ·exact h
   ·rw [Array.getElem?_eq_none h] at hh; cases hh
  let β:Nat→Value:=fun i=>if i = q then u else vs.getD i undef
  have hβq:β q = u:=if_pos rfl
  have hβ:∀ i,i≠q→β i = vs.getD i undef:=fun i hi=>if_neg hi
  have hkv:vs.getD k undef = .pointer (some ⟨b,0,none⟩):=by
   have:=GH hvk
   simp [this] at hvk
   simp [Array.getD,this,hvk]
  have hβk:β k = .pointer (some ⟨b,0,none⟩):=by rw [hβ k (fun h=>hkq h.symm)]; exact hkv
  have hget0:∀ i,As (enter 0 args (EO fn.ntmps)) i = match args[i]? with | some x=>Nf i x | none=>bS:=by
   intro i
   rw [Qt]
   simp only [Nat.zero_add,QB]
  have hbx0:∀ i,(As (enter 0 args (EO fn.ntmps)) i).box = .none∧(As (enter 0 args (EO fn.ntmps)) i).ver = 0:=by
   intro i
   rw [hget0]
   split
   ·rename_i x hx
    have:=hnm x (List.mem_of_getElem? hx)
    cases x <;> first | exact ⟨rfl,rfl⟩ | cases this
   ·exact ⟨rfl,rfl⟩
  have hget:=XG (n:=fn.ntmps) (sz:=sz) (e:=e) (xs:=xs) hkl hq hkq
  have hown:∀ i,(As (AR (AR (Eh (enter 0 args (EO fn.ntmps)) k (.ptr k 0 0)) k (.var [.sl q 0]) 0) q (.row sz e xs) 0) i).box.owned = true→i = q∨i = k:=by
   intro i hi
   rw [hget] at hi
   by_cases e1:i = q
   ·exact .inl e1
   ·by_cases e2:i = k
    ·exact .inr e2
    ·rw [if_neg e1,if_neg e2,(hbx0 i).1] at hi; cases hi
  have hver:∀ i,(As (AR (AR (Eh (enter 0 args (EO fn.ntmps)) k (.ptr k 0 0)) k (.var [.sl q 0]) 0) q (.row sz e xs) 0) i).ver = 0:=by
   intro i
   rw [hget]
   split
   ·rfl
   ·split
    ·rfl
    ·exact (hbx0 i).2
  let Xc:Cx:=⟨w.heap.size,fun c=>c = b∨Ax u = some c,O,fun _=>False,w,β,UC (M:=fun c=>c = b∨Ax u = some c) hG⟩
  have hOS:∀ c',OS β Xc (AR (AR (Eh (enter 0 args (EO fn.ntmps)) k (.ptr k 0 0)) k (.var [.sl q 0]) 0) q (.row sz e xs) 0) c'→O c'∨c' = b∨Ax u = some c':=by
   intro c' hc'
   rcases hc' with hc' | hc' | ⟨i,h1,h2⟩
   ·exact .inl hc'
   ·exact hc'.elim
   ·rcases hown i h1 with rfl | rfl
    ·rw [hβq] at h2; exact .inr (.inr h2)
    ·rw [hβk] at h2; simp [Ax] at h2; exact .inr (.inl h2.symm)
  have hsim:AB Xc (fun _=>False) β (AR (AR (Eh (enter 0 args (EO fn.ntmps)) k (.ptr k 0 0)) k (.var [.sl q 0]) 0) q (.row sz e xs) 0) { tmps:=vs++Array.replicate (fn.ntmps - vs.size) undef,defers:=[] } w:=by
   refine ⟨?_,rfl,Br.refl _ _ _,Nat.le_refl _,fun c' hc'=>⟨hO c' hc',fun hm=>?_⟩,(fun b hb=>hb.elim),?_,?_,?_,?_,?_,?_⟩
   ·rw [C9,C9,Ho,KW,NS]; simp [hlen]
   ·rcases hm with rfl | hm
    ·exact hbO hc'
    ·exact (huO c' hm).1 hc'
   ·intro t v hv
    rw [hget]
    have base:t≠k→J6 β (AW (AR (AR (Eh (enter 0 args (EO fn.ntmps)) k (.ptr k 0 0)) k (.var [.sl q 0]) 0) q (.row sz e xs) 0)) (OS β Xc (AR (AR (Eh (enter 0 args (EO fn.ntmps)) k (.ptr k 0 0)) k (.var [.sl q 0]) 0) q (.row sz e xs) 0)) w (vs++Array.replicate (fn.ntmps - vs.size) undef) v (As (enter 0 args (EO fn.ntmps)) t).av:=by
     intro _
     rw [hget0]
     split
     ·rename_i x hx
      have hlt:t < vs.size:=by rw [hlen]; exact AI hx
      rw [Array.getElem?_append_left hlt] at hv
      have hr:=hargs t v x hv hx
      cases x with
      | any=>trivial
      | d y=>exact A9.mono (Ck.of_sub hOS) (show A9 _ w v y from hr)
      | lim sz xs =>
        have hr':A9 (fun c=>O c∨c = b∨Ax u = some c) w v (.list sz xs)∧PR v = xs.length:=hr
        exact ⟨hr'.1.mono (Ck.of_sub hOS),hr'.2⟩
      | bot | ptr _ _ _ | sl _ _ | eptr _ _ _ _ _ | tup _ | under _ _ _ | cc _ _ | own _ _ _ | optr _=>exact hr.elim
     ·trivial
    by_cases e1:t = q
    ·subst e1
     rw [if_pos rfl]
     exact base hkq
    ·rw [if_neg e1]
     by_cases e2:t = k
     ·rw [if_pos e2]
      subst e2
      have hlt:t < vs.size:=by rw [hlen]; exact hkl
      rw [Array.getElem?_append_left hlt,hvk] at hv
      cases hv
      exact ⟨Nat.zero_le _,fun _=>⟨b,hβk,rfl⟩⟩
     ·rw [if_neg e2]
      exact base e2
   ·intro i
    rw [hget]
    by_cases e1:i = q
    ·rw [if_pos e1,e1]
     exact ⟨hsz,hxs,rvals,by rw [hβq]; exact hrr,hrl.mono (Ck.of_sub hOS)⟩
    ·rw [if_neg e1]
     by_cases e2:i = k
     ·rw [if_pos e2,e2]
      refine ⟨b,#[u],T,hβk,hh,rfl,fun j v c hv hc=>?_⟩
      cases j with
      | zero=>simp at hv hc; subst hv; subst hc; exact ⟨Nat.zero_le _,fun _=>hβq.symm⟩
      | succ j=>simp at hc
     ·rw [if_neg e2,(hbx0 i).1]
      trivial
   ·intro i c' ho hb
    refine ⟨.inr ?_,fun h=>h⟩
    rcases hown i ho with rfl | rfl
    ·rw [hβq] at hb; exact .inr hb
    ·rw [hβk] at hb; simp [Ax] at hb; exact .inl hb.symm
   ·intro i j c' hi hj hbi hbj
    rcases hown i hi with rfl | rfl <;> rcases hown j hj with rfl | rfl
    ·rfl
    ·rw [hβq] at hbi; rw [hβk] at hbj; simp [Ax] at hbj; exact ((huO c' hbi).2 hbj.symm).elim
    ·rw [hβq] at hbj; rw [hβk] at hbi; simp [Ax] at hbi; exact ((huO c' hbj).2 hbi.symm).elim
    ·rfl
   ·intro t g hg
    rw [hget] at hg
    have h0:∀ i,(As (enter 0 args (EO fn.ntmps)) i).av.guards = []:=by
     intro i
     rw [hget0]
     split
     ·rename_i x hx
      have hlt:i < vs.size:=by rw [hlen]; exact AI hx
      have hr:=hargs i vs[i] x (by simp [hlt]) hx
      cases x <;> first | rfl | exact hr.elim
     ·rfl
    by_cases e1:t = q
    ·rw [if_pos e1] at hg; rw [h0] at hg; cases hg
    ·rw [if_neg e1] at hg
     by_cases e2:t = k
     ·rw [if_pos e2] at hg; cases hg
     ·rw [if_neg e2,h0] at hg; cases hg
   ·intro i _ _; rfl
  refine wp_mono (Fh hdraw c hr hsim) fun e' a' w' hq'=>?_
  obtain ⟨β',S',hq',hs⟩:=hq'
  have fin:eG S' k q sz e ys→a'.defers = []∧∃ v,(results fn a'.tmps).run P w' = .ok v w'∧∃ v' u' T',Ending.returned v = .returned v'∧Br w.heap.size (fun c=>c = b∨Ax u = some c) w w' ∧
   w'.heap[b]? = some (.cells #[u'] T' (0,0))∧(∀ c,Ax u' = some c→Ax u = some c∨w.heap.size≤c)∧(∀ x∈ys,x.cells.length = sz) ∧
   ∃ vals,Ew w' e sz u' ys.length vals∧BC (fun c=>O c∨c = b∨Ax u' = some c) w' vals (ys.flatMap D.cells):=by
   intro hq'
   unfold eG at hq'
   split at hq' <;> try exact hq'.elim
   rename_i av1 q' n hk1
   split at hq' <;> try exact hq'.elim
   rename_i av2 sz' e2 xs' m hk2
   obtain ⟨rfl,rfl,rfl,rfl,rfl⟩:=hq'
   have hb1:=hs.boxes k
   rw [hk1] at hb1
   obtain ⟨b1,vals,T1,j1,j2,j3,j4⟩:=hb1
   have hini:=hs.ini k (by rw [hk1]) (by rw [hk1]; simp)
   have hini':β' k = β k:=hini
   rw [hini',hβk] at j1
   simp only [Value.pointer.injEq,Option.some.injEq,Addr.mk.injEq] at j1
   obtain ⟨rfl,_⟩:=j1
   obtain ⟨u',rfl⟩:∃ u',vals = #[u']:=by
    have:vals.size = 1:=j3
    exact ⟨vals[0],by apply Array.ext; simp [this]; intro i h1 h2; simp at h2; subst h2; rfl⟩
   have hcu:=j4 0 u' (.sl q' n) rfl rfl
   have hu':u' = β' q':=hcu.2 (by simp only [AW,hk2])
   have hb2:=hs.boxes q'
   rw [hk2] at hb2
   obtain ⟨l1,l2,vals2,l3,l4⟩:=hb2
   have o1:(As S' k).box.owned = true:=by rw [hk1]; rfl
   have o2:(As S' q').box.owned = true:=by rw [hk2]; rfl
   have hbk:Ax (β' k) = some b:=by rw [hini',hβk]; rfl
   refine ⟨hs.df,.tuple #[],?_,.tuple #[],u',T1,rfl,hs.below,j2,fun c' hc'=>?_,l2,vals2,by rw [hu']; exact l3,l4.mono (Ck.of_sub fun c' hc'=>?_)⟩
   ·have:=ON (P:=P) (w:=w') (a:=a') (fn:=fn) (vs:=[]) (by rw [hres]; rfl)
    simpa using this
   ·rw [hu'] at hc'
    have:=(hs.mine q' c' o2 hc').1
    rcases this with h1 | h1
    ·exact .inr h1
    ·rcases h1 with h1 | h1
     ·subst h1
      exact (hkq (hs.inj q' k c' o2 o1 hc' hbk)).elim
     ·exact .inl h1
   ·rcases hc' with hc' | rfl | hc'
    ·exact .inl hc'
    ·exact .inr (.inr ⟨k,o1,hbk⟩)
    ·exact .inr (.inr ⟨q',o2,by rw [← hu']; exact hc'⟩)
  cases e' with
  | normal=>exact fin hq'
  | ret=>exact fin hq'
  | exit id=>exact hq'.elim
  | goto l=>exact hq'.elim
  | panic ch=>exact hq'.elim
  | outgrown=>exact hq'.elim
 ·exact hr.elim
end
end Go.Abs
