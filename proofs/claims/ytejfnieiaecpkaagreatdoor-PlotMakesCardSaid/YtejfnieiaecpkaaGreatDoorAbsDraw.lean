/- The abstract machine: a region whose order is open comes to one end, whatever the order. -/
import Derived.Test.YtejfnieiaecpkaaGreatDoorAbsGood
set_option linter.unusedVariables false
set_option linter.unusedSimpArgs false
namespace Go.Abs
open Go.RowKit (Below)
def T7 (S T:AS) (t:Nat):Prop:=(As S t).av = (As T t).av
def RS (S T:AS) (b:Nat):Prop:=(As S b).box = (As T b).box∧(As S b).ver = (As T b).ver
theorem TG:∀ (S:AS) (d:Nat) (K:Nat→Prop),d < S.length→K (As S d).ver→SA S d K
 | [],_,_,h,_=>by simp at h
 | ⟨_,_,_⟩ :: _,0,_,_,h=>h
 | s :: r,d + 1,K,hd,h=>TG r d K (by simpa using hd) h
theorem cB {x:Option Nat} {K:Nat→Prop} (h:K (x.getD 0)):dK x K:=by cases x <;> exact h
theorem K5 (g:Option (Nat × Bool)) (v:AV):∀ i∈LK (eU g v),i∈LK v:=by
 cases v <;> try (intro i hi; exact hi)
 case under t w y =>
  intro i hi
  simp only [eU] at hi
  cases g with
  | none=>simp [LK] at hi
  | some p =>
    obtain ⟨t',w'⟩:=p
    simp only at hi
    split at hi
    ·exact hi
    ·simp [LK] at hi
theorem Lh:∀ {cs:List C} {id n:Nat},C.sl id n∈cs→id∈LY cs
 | [],_,_,h=>by simp at h
 | c :: r,id,n,h=>by
   rcases List.mem_cons.1 h with h | h
   ·subst h; simp [LY]
   ·have:=Lh h
    cases c <;> simp [LY,this]
theorem Nh {S T:AS} {v:AV} (h:∀ i∈LK v,RS S T i):res S v = res T v:=by
 cases v <;> try rfl
 case ptr id n o =>
  obtain ⟨h1,h2⟩:=h id (by simp [LK])
  simp only [res]
  generalize As S id = s at *
  generalize As T id = t at *
  obtain ⟨_,b,m⟩:=s
  obtain ⟨_,b',m'⟩:=t
  simp only at h1 h2
  subst h1; subst h2
  cases b <;> rfl
 case sl id n =>
  obtain ⟨h1,h2⟩:=h id (by simp [LK])
  simp only [res]
  generalize As S id = s at *
  generalize As T id = t at *
  obtain ⟨_,b,m⟩:=s
  obtain ⟨_,b',m'⟩:=t
  simp only at h1 h2
  subst h1; subst h2
  cases b <;> rfl
 case eptr id n sz i o =>
  obtain ⟨h1,h2⟩:=h id (by simp [LK])
  simp only [res]
  generalize As S id = s at *
  generalize As T id = t at *
  obtain ⟨_,b,m⟩:=s
  obtain ⟨_,b',m'⟩:=t
  simp only at h1 h2
  subst h1; subst h2
  cases b <;> rfl
 case cc k xs =>
  cases k with
  | none=>rfl
  | some f =>
    simp only [res]
    split
    ·rename_i j id n hat
     obtain ⟨h1,h2⟩:=h id (by simp only [LK]; exact Lh (List.mem_of_getElem? (Pn hat)))
     generalize As S id = s at *
     generalize As T id = t at *
     obtain ⟨_,b,m⟩:=s
     obtain ⟨_,b',m'⟩:=t
     simp only at h1 h2
     subst h1; subst h2
     cases b <;> try rfl
     rename_i cs
     match cs with
     | []=>rfl
     | [.d _]=>rfl
     | [.sl _ _]=>rfl
     | [.own _ _ _]=>rfl
     | .d _ :: _ :: _=>rfl
     | .sl _ _ :: _ :: _=>rfl
     | .own _ _ _ :: _ :: _=>rfl
    ·rfl
def RR (S:AS) (all:List Oper) (o:Oper) (e:GD):List Nat:=Xj S (Ea all o) o++e.homes.map (·.1)
theorem Qh {S T:AS} (hl:S.length = T.length):∀ {hs:List (Nat × Nat)},(∀ b∈hs.map (·.1),RS S T b)→FH S hs = FH T hs
 | [],_=>rfl
 | (h,n) :: r,hb=>by
   simp only [FH]
   rw [hl,(hb h (by simp)).2,Qh hl fun b hm=>hb b (by simp only [List.map_cons,List.mem_cons]; exact .inr hm)]
theorem NE:∀ {l:List Operand} {t:Nat},Operand.tmp t∈l→t∈Sk l
 | [],_,h=>by simp at h
 | x :: r,t,h=>by
   rcases List.mem_cons.1 h with h | h
   ·subst h; simp [Sk]
   ·have:=NE h
    cases x <;> simp [Sk,this]
section
variable {P:Program} {all:List Oper} {o:Oper}
theorem ρ_congr {S T:AS} (hm:Kt S o = false) (h1:∀ t∈Ea all o,T7 S T t) (h2:∀ b∈Xj S (Ea all o) o,RS S T b):∀ g x,x∈o.op.operands.toList→ρOf S g x = ρOf T g x:=by
 intro g x hx
 unfold ρOf
 cases x with
 | tmp t =>
   have ht:t∈Ea all o:=by simp only [Ea,List.mem_append]; exact .inr (NE hx)
   simp only [ev]
   have ha:=h1 t ht
   unfold T7 at ha
   rw [← ha]
   refine Nh fun i hi=>h2 i ?_
   simp only [Xj,hm,List.mem_append,List.mem_flatMap]
   exact .inr ⟨t,ht,i,K5 g _ i hi,by simp [bn]⟩
 | const v =>
   simp only [ev]
   refine Nh fun i hi=>?_
   have:=K5 g _ i hi
   exfalso
   revert this
   unfold ac
   split <;> simp [LK]
 | global q =>
   simp only [ev]
   refine Nh fun i hi=>?_
   have:=K5 g _ i hi
   exfalso
   revert this
   split <;> simp [LK]
 | func f =>
   simp only [ev]
   exact Nh fun i hi=>by have:=K5 g _ i hi; simp [LK] at this
theorem c8 {S:AS} {v:AV} {id n o:Nat} {cs:List C} (h:res S v = .vptr id n o cs):id∈LK v∧(As S id).box = .var cs:=by
 cases v <;> simp only [res] at h <;> try (cases h; done)
 case ptr id' n' o' =>
  split at h
  ·rename_i m hs
   split at h
   ·cases h; exact ⟨by simp [LK],by rw [hs]⟩
   ·cases h
  ·split at h <;> cases h
  ·cases h
 case sl id' n' =>
  split at h
  ·split at h <;> cases h
  ·split at h <;> cases h
  ·split at h <;> cases h
  ·cases h
 case eptr =>
  split at h
  ·split at h <;> cases h
  ·cases h
 case cc k' xs =>
  cases k' with
  | none=>cases h
  | some f' =>
    simp only at h
    split at h
    ·split at h
     ·split at h <;> cases h
     ·cases h
    ·cases h
theorem cU {S:AS} {v:AV} {f:FuncId} {cs:List C} {k id n rid rn:Nat} (h:res S v = .clo f cs k id n rid rn):id∈LK v∧(As S id).box = .var [.sl rid rn]:=by
 cases v <;> simp only [res] at h <;> try (cases h; done)
 case ptr id' n' o' =>
  split at h
  ·split at h <;> cases h
  ·split at h <;> cases h
  ·cases h
 case sl id' n' =>
  split at h
  ·split at h <;> cases h
  ·split at h <;> cases h
  ·split at h <;> cases h
  ·cases h
 case eptr =>
  split at h
  ·split at h <;> cases h
  ·cases h
 case cc k' xs =>
  cases k' with
  | none=>cases h
  | some f' =>
    simp only at h
    split at h
    ·rename_i j id' n' hat
     split at h
     ·rename_i av rid' rn' m hs
      split at h
      ·cases h
       exact ⟨by simp only [LK]; exact Lh (List.mem_of_getElem? (Pn hat)),by rw [hs]⟩
      ·cases h
     ·cases h
    ·cases h
theorem cZ {S T:AS} (hmv:Kt S o = false) (h1:∀ t∈Ea all o,T7 S T t) (h2:∀ b∈Xj S (Ea all o) o,RS S T b):∀ g x,x∈o.op.operands.toList→WB (σOf S) (σOf T) (ρOf T g x):=by
 intro g x hx
 have key:∀ (id:Nat) (cs:List C),id∈LK (eU g (ev S x))→(As S id).box = .var cs→∀ id' n',C.sl id' n'∈cs→σOf S id' n' = σOf T id' n':=by
  intro id cs h3 h4 id' n' hm
  refine Nh fun i hi=>?_
  simp only [LK,List.mem_singleton] at hi
  subst hi
  cases x with
  | tmp t =>
    have ht:t∈Ea all o:=by simp only [Ea,List.mem_append]; exact .inr (NE hx)
    refine h2 _ ?_
    simp only [Xj,hmv,List.mem_append,List.mem_flatMap]
    refine .inr ⟨t,ht,id,K5 g _ id h3,?_⟩
    simp only [bn,h4,List.mem_cons]
    exact .inr (Lh hm)
  | const v =>
    have:=K5 g _ id h3
    exfalso
    revert this
    simp only [ev]
    unfold ac
    split <;> simp [LK]
  | global q =>
    have:=K5 g _ id h3
    exfalso
    revert this
    simp only [ev]
    split <;> simp [LK]
  | func f=>have:=K5 g _ id h3; simp [ev,LK] at this
 refine ⟨fun id n of cs hr id' n' hm=>?_,fun f cs k id n rid rn hr=>?_⟩
 ·rw [← ρ_congr hmv h1 h2 g x hx] at hr
  obtain ⟨h3,h4⟩:=c8 hr
  exact key id cs h3 h4 id' n' hm
 ·rw [← ρ_congr hmv h1 h2 g x hx] at hr
  obtain ⟨h3,h4⟩:=cU hr
  exact key id _ h3 h4 rid rn (by simp)
theorem XM {S T:AS} (h1:∀ t∈Ea all o,T7 S T t) {x:Operand} (hx:x∈o.op.operands.toList):ev S x = ev T x:=by
 cases x with
 | tmp t =>
   have ht:t∈Ea all o:=by simp only [Ea,List.mem_append]; exact .inr (NE hx)
   exact h1 t ht
 | const v=>rfl
 | global q=>rfl
 | func f=>rfl
theorem Vf {S T:AS} (h1:∀ t∈Ea all o,T7 S T t):Kt S o = Kt T o:=by
 unfold Kt
 split
 ·rename_i x ho
  rw [XM h1 (x:=x) (by rw [ho]; simp [Op.operands])]
 ·rfl
theorem fr {S:AS} {g:Option (Nat × Bool)} {d n:Nat} {K:GD→Prop} (hm:Kt S o = false) (hy:yA P (σOf S) (ρOf S) g o d n K):yS P S g o d n K:=by
 unfold yS
 unfold Kt at hm
 split
 ·rename_i x ho
  rw [ho] at hm
  simp only at hm
  split
  ·rename_i he; rw [he] at hm; cases hm
  ·exact hy
 ·exact hy
theorem ZH (P:Program) (S:AS) (g:Option (Nat × Bool)) (o:Oper) (d n:Nat):Dp fun K=>yS P S g o d n K:=by
 unfold yS
 split
 ·split
  ·exact Ap _
  ·exact Z9 _ _ _ _ _ _ _
 ·exact Z9 _ _ _ _ _ _ _
theorem Wx {S T:AS} {g:Option (Nat × Bool)} {K:GD→Prop} (h1:∀ t∈Ea all o,T7 S T t) (h2:∀ b∈Xj S (Ea all o) o,RS S T b) (hl:S.length = T.length)
 (hy:dK o.dst fun d=>SA S d fun n=>yS P S g o d n K):dK o.dst fun d=>SA T d fun n=>yS P T g o d n K:=by
 obtain ⟨hd,hy⟩:=M0 _ _ _ (VV hy)
 refine cB (TG _ _ _ (by rw [← hl]; exact hd) ?_)
 rcases TV hy with ⟨x,id,v,k,ho,he,hK⟩ | ⟨hm,hy⟩
 ·unfold yS
  rw [ho]
  simp only
  rw [← XM h1 (x:=x) (by rw [ho]; simp [Op.operands]),he]
  exact hK
 ·refine fr (by rw [← Vf h1]; exact hm) (c4 (ρ_congr hm h1 h2) (cZ hm h1 h2) (fun hmk=>?_) hy)
  exact (h2 _ (by simp [Xj,hmk])).2
theorem ZY.move {lk:List Nat} {S T:AS} (h:∀ t∈lk,T7 S T t):∀ {n t:Nat} {r:Option Bool},ZY lk n t S r→ZY lk n t T r
 | 0,_,_,hd=>hd.elim
 | n + 1,t,r,⟨hlk,hd⟩=>by
   have e:=h t hlk
   unfold T7 at e
   refine ⟨hlk,?_⟩
   rcases hd with ⟨b,hb,hr⟩ | ⟨t',w',b,r',hb,hd,hr⟩ | ⟨t',w',hb,hr⟩
   ·exact .inl ⟨b,by rw [← e]; exact hb,hr⟩
   ·exact .inr (.inl ⟨t',w',b,r',by rw [← e]; exact hb,ZY.move h hd,hr⟩)
   ·exact .inr (.inr ⟨t',w',by rw [← e]; exact hb,hr⟩)
theorem bN {done:List Nat} {S:AS} {K:AS→GD→Prop} (hy:am P all done o S K) :
 ∃ e,K S e∧∀ (done':List Nat) (T:AS),(∀ t∈Ea all o,T7 S T t)→(∀ b∈RR S all o e,RS S T b)→S.length = T.length→(∀ j want t,o.guard = some (j,want)→SK all j = some t→t∈done') →
   am P all done' o T (fun T' f=>T' = T∧f = e):=by
 have ex:∀ {g:Option (Nat × Bool)} {F:GD→Prop},(dK o.dst fun d=>SA S d fun n=>yS P S g o d n F)→∃ e,F e∧dK o.dst fun d=>SA S d fun n=>yS P S g o d n fun f=>f = e:=by
  intro g F hy
  obtain ⟨hd,hy⟩:=M0 _ _ _ (VV hy)
  obtain ⟨e,he,hF⟩:=(ZH P S g o (o.dst.getD 0) (As S (o.dst.getD 0)).ver).2 _ hy
  exact ⟨e,hF,cB (TG _ _ _ hd he)⟩
 have mon:∀ {T:AS} {g:Option (Nat × Bool)} {F F':GD→Prop},(∀ e,F e→F' e)→(dK o.dst fun d=>SA T d fun n=>yS P T g o d n F)→dK o.dst fun d=>SA T d fun n=>yS P T g o d n F':=by
  intro T g F F' hF hy
  obtain ⟨hd,hy⟩:=M0 _ _ _ (VV hy)
  exact cB (TG _ _ _ hd ((ZH P T g o (o.dst.getD 0) (As T (o.dst.getD 0)).ver).1 _ _ hF hy))
 have sub:∀ {T:AS} {e:GD},(∀ b∈RR S all o e,RS S T b)→∀ b∈Xj S (Ea all o) o,RS S T b:=fun h b hb=>h b (by simp only [RR,List.mem_append]; exact .inl hb)
 have hom:∀ {T:AS} {e:GD},S.length = T.length→(∀ b∈RR S all o e,RS S T b)→FH S e.homes = FH T e.homes:=fun hl h=>Qh hl fun b hb=>h b (by simp only [RR,List.mem_append]; exact .inr hb)
 unfold am at hy
 split at hy
 ·rename_i hgd
  obtain ⟨e,hK,he⟩:=ex hy
  obtain ⟨hho,hK⟩:=Ar hK
  refine ⟨e,hK,fun _ T h1 h2 hl _=>?_⟩
  unfold am
  simp only [hgd]
  refine mon (fun f hf=>?_) (Wx h1 (sub h2) hl he)
  subst hf
  rw [if_pos (by rw [← hom hl h2]; exact hho)]
  first | exact ⟨rfl,rfl⟩ | exact ⟨trivial,rfl⟩
 ·rename_i j want hgd
  split at hy
  ·exact hy.elim
  ·rename_i t ht
   obtain ⟨hdone,hy⟩:=Ar hy
   split at hy
   ·rename_i hh
    obtain ⟨e,hK,he⟩:=ex hy
    split at hK
    ·rename_i v
     refine ⟨_,hK,fun _ T h1 h2 hl hdn=>?_⟩
     unfold am
     simp only [hgd,ht,hh]
     rw [if_pos (by simpa using hdn j want t hgd ht)]
     refine mon (fun f hf=>?_) (Wx h1 (sub h2) hl he)
     subst hf
     first | exact ⟨rfl,rfl⟩ | exact ⟨trivial,rfl⟩
    ·exact hK.elim
   ·rename_i hh
    obtain ⟨r,hy,hdec⟩:=Q7 hy
    have hdT:∀ T:AS,(∀ t∈Ea all o,T7 S T t)→ZY (Ea all o) 5 t T r:=fun T h1=>hdec.move h1
    rcases IK.1 hy with ⟨hrw,hgo⟩ | ⟨hne,hK⟩
    ·obtain ⟨e,hK,he⟩:=ex hgo
     obtain ⟨hho,hK⟩:=Ar hK
     refine ⟨e,hK,fun _ T h1 h2 hl hdn=>?_⟩
     unfold am
     simp only [hgd,ht,hh]
     rw [if_pos (by simpa using hdn j want t hgd ht)]
     refine Wn (hdT T h1) (IK.2 (.inl ⟨hrw,mon (fun f hf=>?_) (Wx h1 (sub h2) hl he)⟩))
     subst hf
     rw [if_pos (by rw [← hom hl h2]; exact hho)]
     exact ⟨rfl,rfl⟩
    ·refine ⟨_,hK,fun _ T h1 h2 hl hdn=>?_⟩
     unfold am
     simp only [hgd,ht,hh]
     rw [if_pos (by simpa using hdn j want t hgd ht)]
     exact Wn (hdT T h1) (IK.2 (.inr ⟨hne,by first | exact ⟨rfl,rfl⟩ | exact ⟨rfl,trivial⟩ | exact ⟨trivial,trivial⟩⟩))
structure Vz (P:Program) (all:List Oper) (S₀:AS) (St:Nat→AS) (E:Nat→GD):Prop where
 start:St 0 = S₀
 next:∀ (i:Nat) (o:Oper),all[i]? = some o→St (i + 1) = Wh o.dst (E i) (St i)
 once:∀ (i j:Nat) (o o':Oper),i < j→all[i]? = some o→all[j]? = some o'→∀ d,o.dst = some d→o'.dst≠some d
 does:∀ (i:Nat) (o:Oper),all[i]? = some o→∀ (T:AS) (done:List Nat),(∀ t∈Ea all o,T7 (St i) T t)→(∀ b∈RR (St i) all o (E i),RS (St i) T b)→(St i).length = T.length →
  (∀ j want t,o.guard = some (j,want)→SK all j = some t→t∈done)→am P all done o T (fun T' f=>T' = T∧f = E i)
 box:∀ (i j:Nat) (o o':Oper),i < j→all[i]? = some o→all[j]? = some o'→PH all o' i = false →
  T9 ((E i).bx.map (·.1)) (RR (St j) all o' (E j)++(E j).bx.map (·.1)) = true∧T9 (RR (St i) all o (E i)) ((E j).bx.map (·.1)) = true
theorem b9 (P:Program) (all:List Oper):∀ (l:List Oper) (k:Nat) (log:List (Nat × List Nat × List Nat)) (done:List Nat) (S:AS) (K:AS→Prop),(∀ j,l[j]? = all[k + j]?)→ed P all k log done l S K →
 ∃ (St:Nat→AS) (E:Nat→GD),St k = S∧K (St (k + l.length)) ∧
   (∀ (i:Nat) (o:Oper),k≤i→all[i]? = some o→St (i + 1) = Wh o.dst (E i) (St i)) ∧
   (∀ (i:Nat) (o:Oper),k≤i→all[i]? = some o→∀ d,o.dst = some d→d ∉ done) ∧
   (∀ (i j:Nat) (o o':Oper),k≤i→i < j→all[i]? = some o→all[j]? = some o'→∀ d,o.dst = some d→o'.dst≠some d) ∧
   (∀ (i:Nat) (o:Oper),k≤i→all[i]? = some o→∀ (T:AS) (done:List Nat),(∀ t∈Ea all o,T7 (St i) T t)→(∀ b∈RR (St i) all o (E i),RS (St i) T b)→(St i).length = T.length →
    (∀ j want t,o.guard = some (j,want)→SK all j = some t→t∈done)→am P all done o T (fun T' f=>T' = T∧f = E i)) ∧
   (∀ (i:Nat) (o:Oper),k≤i→all[i]? = some o→∀ x∈log,PH all o x.1 = false→T9 x.2.2 (RR (St i) all o (E i)++(E i).bx.map (·.1)) = true∧T9 x.2.1 ((E i).bx.map (·.1)) = true) ∧
   (∀ (i j:Nat) (o o':Oper),k≤i→i < j→all[i]? = some o→all[j]? = some o'→PH all o' i = false →
    T9 ((E i).bx.map (·.1)) (RR (St j) all o' (E j)++(E j).bx.map (·.1)) = true∧T9 (RR (St i) all o (E i)) ((E j).bx.map (·.1)) = true)
 | [],k,log,done,S,K,hall,hy=>by
   have none:∀ i,k≤i→all[i]? = none:=by
    intro i hi
    have hk:=hall 0
    simp at hk
    exact List.getElem?_eq_none (by omega)
   refine ⟨fun _=>S,fun _=>⟨.any,[],[]⟩,rfl,hy,?_,?_,?_,?_,?_,?_⟩
   ·intro i o hi ho; rw [none i hi] at ho; cases ho
   ·intro i o hi ho; rw [none i hi] at ho; cases ho
   ·intro i j o o' hi _ ho; rw [none i hi] at ho; cases ho
   ·intro i o hi ho; rw [none i hi] at ho; cases ho
   ·intro i o hi ho; rw [none i hi] at ho; cases ho
   ·intro i j o o' hi _ ho; rw [none i hi] at ho; cases ho
 | o :: r,k,log,done,S,K,hall,hy=>by
   obtain ⟨hnd,hy⟩:=Ar hy
   obtain ⟨e,hK,hmove'⟩:=bN hy
   rw [JX,JX] at hK
   obtain ⟨hok,hK⟩:=Ar hK
   rw [WG,JX] at hK
   have ho:all[k]? = some o:=by have:=hall 0; simpa using this.symm
   obtain ⟨St,E,hs,hKn,hnext,hnd',honce,hdoes,hlog,hbox⟩:=b9 P all r (k + 1) _ _ _ K (fun j=>by have:=hall (j + 1); rw [List.getElem?_cons_succ] at this; rw [this]; congr 1; omega) hK
   have hne:∀ i,k + 1≤i→i≠k:=fun i hi=>by omega
   refine ⟨fun i=>if i = k then S else St i,fun i=>if i = k then e else E i,by simp,?_,?_,?_,?_,?_,?_,?_⟩
   ·have:k + (o :: r).length≠k:=by simp
    simp only [this,if_false]
    rw [show k + (o :: r).length = k + 1 + r.length by simp; omega]
    exact hKn
   ·intro i o' hi ho'
    by_cases hik:i = k
    ·subst hik
     rw [ho] at ho'; cases ho'
     simp [hs]
    ·have h1:i + 1≠k:=by omega
     simp only [hik,h1,if_false]
     exact hnext i o' (by omega) ho'
   ·intro i o' hi ho' d hd
    by_cases hik:i = k
    ·subst hik
     rw [ho] at ho'; cases ho'
     simp [hd,Dw] at hnd
     exact hnd
    ·have:=hnd' i o' (by omega) ho' d hd
     intro hm; exact this (by simp [hm])
   ·intro i j o1 o2 hi hij h1 h2 d hd
    by_cases hik:i = k
    ·subst hik
     rw [ho] at h1; cases h1
     intro hd2
     exact hnd' j o2 (by omega) h2 d hd2 (by simp [hd,Dw])
    ·exact honce i j o1 o2 (by omega) hij h1 h2 d hd
   ·intro i o' hi ho'
    by_cases hik:i = k
    ·subst hik
     rw [ho] at ho'; cases ho'
     simp only [if_true]
     intro T done' h1 h2 hl hdn
     exact hmove' done' T h1 h2 hl hdn
    ·simp only [hik,if_false]
     exact hdoes i o' (by omega) ho'
   ·intro i o' hi ho' x hx hed
    by_cases hik:i = k
    ·subst hik
     rw [ho] at ho'; cases ho'
     simp only [if_true]
     simp only [dS,List.all_eq_true] at hok
     have:=hok x hx
     simp [hed] at this
     simp only [RR,List.append_assoc]
     exact this
    ·simp only [hik,if_false]
     exact hlog i o' (by omega) ho' x (by simp [hx]) hed
   ·intro i j o1 o2 hi hij h1 h2 hed
    have hjk:j≠k:=by omega
    by_cases hik:i = k
    ·subst hik
     rw [ho] at h1; cases h1
     simp only [if_true,hjk,if_false]
     exact hlog j o2 (by omega) h2 (i,RR S all o e,e.bx.map (·.1)) (by simp [RR]) hed
    ·simp only [hik,hjk,if_false]
     exact hbox i j o1 o2 (by omega) hij h1 h2 hed
theorem HM:∀ (b:Bx) (S:AS) (i:Nat),i ∉ b.map (·.1)→As (Bo b S) i = As S i
 | [],_,_,_=>rfl
 | (id,B,n) :: r,S,i,h=>by
   simp only [List.map_cons,List.mem_cons,not_or] at h
   simp only [Bo]
   rw [HM r _ i h.2,BI,if_neg (fun e=>h.1 e.1)]
theorem W6:∀ (b:Bx) (S:AS) (i:Nat),(As (Bo b S) i).av = (As S i).av
 | [],_,_=>rfl
 | (id,B,n) :: r,S,i=>by
   simp only [Bo]
   rw [W6 r,BI]
   split
   ·rename_i e; rw [e.1]
   ·rfl
theorem PO:∀ (b:Bx) (S T:AS) (i:Nat),S.length = T.length→i∈b.map (·.1)→RS (Bo b S) (Bo b T) i
 | [],_,_,_,_,h=>by simp at h
 | (id,B,n) :: r,S,T,i,hl,h=>by
   simp only [Bo]
   by_cases hr:i∈r.map (·.1)
   ·exact PO r _ _ i (by simp [C9,hl]) hr
   ·have hi:i = id:=by simp at h hr; rcases h with h | ⟨x,y,h⟩; exact h; exact absurd h (hr x y)
    unfold RS
    rw [HM r _ i hr,HM r _ i hr,BI,BI,hi,hl]
    split
    ·exact ⟨rfl,rfl⟩
    ·rename_i hn
     have h1:T.length≤id:=by
      rcases Nat.lt_or_ge id T.length with h | h
      ·exact absurd ⟨rfl,h⟩ hn
      ·exact h
     rw [KZ S id (by omega),KZ T id h1]
     exact ⟨rfl,rfl⟩
theorem Va (dst:Option Nat) (e:GD) (S:AS):(Wh dst e S).length = S.length:=by
 cases dst <;> simp [Wh,Ho,Cr]
theorem Rl {dst:Option Nat} {e:GD} {S:AS} {t:Nat} (h:dst≠some t):T7 (Wh dst e S) S t:=by
 unfold T7
 cases dst with
 | none=>simp [Wh,W6]
 | some d =>
   simp only [Wh]
   rw [C0,if_neg (fun hh=>h (by rw [hh.1])),W6]
theorem XH {dst:Option Nat} {e:GD} {S T:AS} {t:Nat} (hl:S.length = T.length) (h:dst = some t):T7 (Wh dst e S) (Wh dst e T) t:=by
 unfold T7
 subst h
 simp only [Wh]
 rw [C0,C0,Cr,Cr,hl]
 split
 ·rfl
 ·rename_i hn
  have h1:T.length≤t:=by
   rcases Nat.lt_or_ge t T.length with h | h
   ·exact absurd ⟨rfl,h⟩ hn
   ·exact h
  rw [KZ _ t (by rw [Cr]; omega),KZ _ t (by rw [Cr]; exact h1)]
theorem WW {dst:Option Nat} {e:GD} {S:AS} {b:Nat}:RS (Wh dst e S) (Bo e.bx S) b:=by
 unfold RS
 cases dst with
 | none=>exact ⟨rfl,rfl⟩
 | some d =>
   simp only [Wh]
   rw [C0]
   split
   ·rename_i hh; rw [hh.1]; exact ⟨rfl,rfl⟩
   ·exact ⟨rfl,rfl⟩
theorem PI {dst:Option Nat} {e:GD} {S:AS} {b:Nat} (h:b ∉ e.bx.map (·.1)):RS (Wh dst e S) S b:=by
 have:=WW (dst:=dst) (e:=e) (S:=S) (b:=b)
 unfold RS at *
 rw [this.1,this.2,HM _ _ _ h]
 exact ⟨rfl,rfl⟩
theorem WF {dst:Option Nat} {e:GD} {S T:AS} {b:Nat} (hl:S.length = T.length) (h:b∈e.bx.map (·.1)):RS (Wh dst e S) (Wh dst e T) b:=by
 have h1:=WW (dst:=dst) (e:=e) (S:=S) (b:=b)
 have h2:=WW (dst:=dst) (e:=e) (S:=T) (b:=b)
 have h3:=PO e.bx S T b hl h
 unfold RS at *
 rw [h1.1,h1.2,h2.1,h2.2]
 exact h3
theorem cO:∀ {S T:AS},S.length = T.length→(∀ t,T7 S T t)→(∀ b,RS S T b)→S = T
 | [],[],_,_,_=>rfl
 | s :: S,t :: T,hl,h1,h2=>by
   have e1:=h1 0
   have e2:=h2 0
   simp only [T7,RS,As] at e1 e2
   have:s = t:=by obtain ⟨_,_,_⟩:=s; obtain ⟨_,_,_⟩:=t; simp_all
   rw [this,cO (S:=S) (T:=T) (by simpa using hl) (fun i=>h1 (i + 1)) (fun i=>h2 (i + 1))]
 | [],_ :: _,hl,_,_=>by simp at hl
 | _ :: _,[],hl,_,_=>by simp at hl
theorem Nc {x y:List Nat} (h:T9 x y = true):∀ i∈x,i ∉ y:=by simpa [T9] using h
theorem N2:∀ (l:List Oper) (k:Nat),(∀ j,l[j]? = all[k + j]?)→YU all k l = true →
 ∀ i o,k≤i→all[i]? = some o→((∀ e∈o.after,Region.binds .any e = true→e.on < i)∧∀ j want,o.guard = some (j,want)→j < i) ∧
   ∀ j o',j < i→all[j]? = some o'→PH all o j = true∨((∀ d,o'.dst = some d→d ∉ Ea all o)∧(∀ d,o.dst = some d→d ∉ Ea all o'))
 | [],k,hall,_,i,o,hi,ho=>by
   have hk:=hall 0
   simp at hk
   rw [List.getElem?_eq_none (by omega)] at ho
   cases ho
 | x :: r,k,hall,h,i,o,hi,ho=>by
   simp only [YU,Bool.and_eq_true] at h
   obtain ⟨⟨⟨h1,h1g⟩,h2⟩,h3⟩:=h
   by_cases hik:i = k
   ·subst hik
    have hx:all[i]? = some x:=by have:=hall 0; simpa using this.symm
    rw [hx] at ho; cases ho
    refine ⟨⟨fun e he hb=>?_,fun j want hg=>by simpa [hg] using h1g⟩,fun j o' hj ho'=>?_⟩
    ·have:=List.all_eq_true.1 h1 e (by simpa using he)
     simpa [hb] using this
    ·have:=List.all_eq_true.1 h2 (o',j) (by
      rw [List.mem_iff_getElem?]
      refine ⟨j,?_⟩
      rw [List.getElem?_zipIdx,List.getElem?_take_of_lt hj,ho']
      simp)
     simp only [Bool.or_eq_true,Bool.and_eq_true] at this
     rcases this with ⟨h4,h5⟩ | h4
     ·refine .inr ⟨fun d hd=>Nc h4 d (by simp [hd,Dw]),fun d hd hm=>Nc h5 d hm (by simp [hd,Dw])⟩
     ·exact .inl h4
   ·exact N2 r (k + 1) (fun j=>by have:=hall (j + 1); rw [List.getElem?_cons_succ] at this; rw [this]; congr 1; omega) h3 i o (by omega) ho
end
structure cq (all:List Oper) (St:Nat→AS) (E:Nat→GD) (S₀:AS) (f:Nat→Bool) (T:AS):Prop where
 len:T.length = S₀.length
 dc:∀ (k:Nat) (o:Oper),all[k]? = some o→f k = true→∀ i,Vl o i = true→f i = true
 vs:∀ (t i:Nat),i≤all.length→(∀ (k:Nat) (o:Oper),all[k]? = some o→o.dst = some t→(f k = true↔k < i))→T7 T (St i) t
 vb:∀ (b i:Nat),i≤all.length→(∀ (k:Nat) (o:Oper),all[k]? = some o→b∈(E k).bx.map (·.1)→(f k = true↔k < i))→RS T (St i) b
section
variable {P:Program} {all:List Oper} {St:Nat→AS} {E:Nat→GD} {S₀:AS}
theorem Vz.len (h:Vz P all S₀ St E):∀ i,i≤all.length→(St i).length = S₀.length
 | 0,_=>by rw [h.start]
 | i + 1,hi=>by
   rw [h.next i all[i] (List.getElem?_eq_getElem (by omega)),Va]
   exact h.len i (by omega)
theorem Vz.keepS (h:Vz P all S₀ St E) {t i:Nat}:∀ j,i≤j→j≤all.length→(∀ (k:Nat) (o:Oper),i≤k→k < j→all[k]? = some o→o.dst≠some t)→T7 (St j) (St i) t:=by
 intro j
 induction j with
 | zero=>intro hij _ _; have:i = 0:=by omega
         subst this; exact rfl
 | succ j ih =>
   intro hij hj hk
   by_cases e:i = j + 1
   ·subst e; exact rfl
   ·have h1:=ih (by omega) (by omega) (fun k o h1 h2=>hk k o h1 (by omega))
    have h2:T7 (St (j + 1)) (St j) t:=by
     rw [h.next j all[j] (List.getElem?_eq_getElem (by omega))]
     exact Rl (hk j _ (by omega) (by omega) (List.getElem?_eq_getElem (by omega)))
    exact Eq.trans h2 h1
theorem Vz.keepB (h:Vz P all S₀ St E) {b i:Nat}:∀ j,i≤j→j≤all.length→(∀ (k:Nat) (o:Oper),i≤k→k < j→all[k]? = some o→b ∉ (E k).bx.map (·.1))→RS (St j) (St i) b:=by
 intro j
 induction j with
 | zero=>intro hij _ _; have:i = 0:=by omega
         subst this; exact ⟨rfl,rfl⟩
 | succ j ih =>
   intro hij hj hk
   by_cases e:i = j + 1
   ·subst e; exact ⟨rfl,rfl⟩
   ·have h1:=ih (by omega) (by omega) (fun k o h1 h2=>hk k o h1 (by omega))
    have h2:RS (St (j + 1)) (St j) b:=by
     rw [h.next j all[j] (List.getElem?_eq_getElem (by omega))]
     exact PI (hk j _ (by omega) (by omega) (List.getElem?_eq_getElem (by omega)))
    exact ⟨h2.1.trans h1.1,h2.2.trans h1.2⟩
theorem cq.readyN {f:Nat→Bool} {T:AS} (m:cq all St E S₀ f T):∀ (n:Nat) {o:Oper} {j:Nat},(∀ j,Vl o j = true→f j = true)→ZP all n o j = true→f j = true
 | 0,_,_,hready,h=>hready _ h
 | n + 1,o,j,hready,h=>by
   simp only [ZP,Bool.or_eq_true,List.any_eq_true,Bool.and_eq_true] at h
   rcases h with h | ⟨e,he,hb,hm⟩
   ·exact hready _ h
   ·split at hm
    ·rename_i om hom
     refine m.readyN n (fun i hi=>m.dc e.on om hom (hready e.on ?_) i hi) hm
     simp only [Vl,List.any_eq_true,Bool.and_eq_true,beq_iff_eq]
     exact ⟨e,he,rfl,hb⟩
    ·cases hm
theorem cq.ready2 {f:Nat→Bool} {T:AS} (m:cq all St E S₀ f T) {o:Oper} (hready:∀ j,Vl o j = true→f j = true) {j:Nat} (h:PH all o j = true):f j = true :=
 m.readyN 4 hready h
theorem cq.step (h:Vz P all S₀ St E) (hreg:YU all 0 all = true) {f:Nat→Bool} {T:AS} (m:cq all St E S₀ f T) {i:Nat} {o:Oper} (ho:all[i]? = some o) (hf:f i = false) (hready:∀ j,Vl o j = true→f j = true) :
 (∀ t∈Ea all o,T7 (St i) T t)∧(∀ b∈RR (St i) all o (E i),RS (St i) T b)∧cq all St E S₀ (fun k=>if k = i then true else f k) (Wh o.dst (E i) T):=by
 have hreg':=N2 all 0 (fun j=>by simp) hreg
 have hi:i < all.length:=by
  rcases Nat.lt_or_ge i all.length with h | h
  ·exact h
  ·simp [List.getElem?_eq_none h] at ho
 have later:∀ (k:Nat) (o':Oper),all[k]? = some o'→i < k→f k = true→PH all o' i = false:=by
  intro k o' ho' hik hfk
  cases he:PH all o' i with
  | false=>rfl
  | true=>have:=m.ready2 (fun j hj=>m.dc k o' ho' hfk j hj) he; rw [hf] at this; cases this
 have hlenT:(St i).length = T.length:=by rw [h.len i (by omega),m.len]
 have hS:∀ t∈Ea all o,T7 (St i) T t:=by
  intro t ht
  refine (m.vs t i (by omega) fun k o' ho' hd=>?_).symm
  rcases Nat.lt_trichotomy k i with hk | hk | hk
  ·refine ⟨fun _=>hk,fun _=>?_⟩
   rcases (hreg' i o (by omega) ho).2 k o' hk ho' with he | ⟨h1,_⟩
   ·exact m.ready2 hready he
   ·exact absurd ht (h1 t hd)
  ·subst hk; rw [hf]; simp
  ·refine ⟨fun hfk=>?_,fun hh=>by omega⟩
   rcases (hreg' k o' (by omega) ho').2 i o hk ho with he | ⟨_,h2⟩
   ·have:=m.ready2 (fun j hj=>m.dc k o' ho' hfk j hj) he
    rw [hf] at this; cases this
   ·exact absurd ht (h2 t hd)
 have hB:∀ b∈RR (St i) all o (E i),RS (St i) T b:=by
  intro b hb
  have key:=m.vb b i (by omega) fun k o' ho' hd=>?_
  ·exact ⟨key.1.symm,key.2.symm⟩
  ·rcases Nat.lt_trichotomy k i with hk | hk | hk
   ·refine ⟨fun _=>hk,fun _=>?_⟩
    cases he:PH all o k with
    | true=>exact m.ready2 hready he
    | false=>exact absurd (List.mem_append.2 (.inl hb)) (Nc (h.box k i o' o hk ho' ho he).1 b hd)
   ·subst hk; rw [hf]; simp
   ·refine ⟨fun hfk=>?_,fun hh=>by omega⟩
    exact absurd hd (Nc (h.box i k o o' hk ho ho' (later k o' ho' hk hfk)).2 b hb)
 refine ⟨hS,hB,?_⟩
 have hnx:=h.next i o ho
 refine ⟨by rw [Va]; exact m.len,?_,?_,?_⟩
 ·intro k o' ho' hk j hj
  by_cases hki:k = i
  ·subst hki
   rw [ho] at ho'; cases ho'
   have:=hready j hj
   simp [this]
  ·simp only [hki,if_false] at hk
   have:=m.dc k o' ho' hk j hj
   simp [this]
 ·intro t j hj hcut
  by_cases hd:o.dst = some t
  ·have hij:i < j:=(hcut i o ho hd).1 (by simp)
   have h1:T7 (St j) (St (i + 1)) t:=h.keepS j (by omega) hj fun k o' hk1 hk2 ho' hd'=>h.once i k o o' (by omega) ho ho' t hd hd'
   have h2:T7 (Wh o.dst (E i) T) (St (i + 1)) t:=by rw [hnx]; exact XH hlenT.symm hd
   exact h2.trans h1.symm
  ·have h1:=m.vs t j hj fun k o' ho' hd'=>by
    have:=hcut k o' ho' hd'
    by_cases hki:k = i
    ·subst hki; rw [ho] at ho'; cases ho'; exact absurd hd' hd
    ·simpa [hki] using this
   exact (Rl hd).trans h1
 ·intro b j hj hcut
  by_cases hd:b∈(E i).bx.map (·.1)
  ·have hij:i < j:=(hcut i o ho hd).1 (by simp)
   have h1:RS (St j) (St (i + 1)) b:=h.keepB j (by omega) hj fun k o' hk1 hk2 ho' hd'=>by
    have hfk:f k = true:=by
     have:=(hcut k o' ho' hd').2 hk2
     simpa [show k≠i by omega] using this
    have he:=later k o' ho' (by omega) hfk
    exact Nc (h.box i k o o' (by omega) ho ho' he).1 b hd (List.mem_append.2 (.inr hd'))
   have h2:RS (Wh o.dst (E i) T) (St (i + 1)) b:=by rw [hnx]; exact WF hlenT.symm hd
   exact ⟨h2.1.trans h1.1.symm,h2.2.trans h1.2.symm⟩
  ·have h1:=m.vb b j hj fun k o' ho' hd'=>by
    have:=hcut k o' ho' hd'
    by_cases hki:k = i
    ·subst hki; exact absurd hd' hd
    ·simpa [hki] using this
   have h2:=PI (dst:=o.dst) (e:=E i) (S:=T) hd
   exact ⟨h2.1.trans h1.1,h2.2.trans h1.2⟩
end
end Go.Abs
