/- The abstract machine: structs some of whose parts are rows of the frame's own; function values that catch a variable with such a row, and their calls. -/
import Derived.Test.YtejfnieiaecpkaaGreatDoorAbsTell
set_option linter.unusedVariables false
set_option linter.unusedSimpArgs false
namespace Go.Abs
open Go.RowKit (Below)
section
variable {P:Program} {X:Cx} {G:Nat→Prop} {β:Nat→Value} {S:AS} {a:Act} {w:World} {o:Oper}
def Fu (R:Value→C→Prop) (vs:List Value) (cs:List C):Prop:=vs.length = cs.length∧∀ (j:Nat) v c,vs[j]? = some v→cs[j]? = some c→R v c
theorem Fu.append {R:Value→C→Prop} {vs us:List Value} {xs ys:List C} (h:Fu R vs xs) (k:Fu R us ys):Fu R (vs++us) (xs++ys):=by
 refine ⟨by simp [h.1,k.1],fun j v y hv hy=>?_⟩
 by_cases hj:j < vs.length
 ·rw [List.getElem?_append_left hj] at hv
  rw [List.getElem?_append_left (by rw [← h.1]; exact hj)] at hy
  exact h.2 j v y hv hy
 ·rw [List.getElem?_append_right (by omega)] at hv
  rw [List.getElem?_append_right (by rw [← h.1]; omega)] at hy
  rw [← h.1] at hy
  exact k.2 _ v y hv hy
theorem Fu.take {R:Value→C→Prop} {vs:List Value} {xs:List C} (h:Fu R vs xs) (n:Nat):Fu R (vs.take n) (xs.take n):=by
 refine ⟨by simp [h.1],fun j v y hv hy=>?_⟩
 rw [List.getElem?_take] at hv hy
 split at hv
 ·rw [if_pos ‹_›] at hy; exact h.2 j v y hv hy
 ·cases hv
theorem Fu.drop {R:Value→C→Prop} {vs:List Value} {xs:List C} (h:Fu R vs xs) (n:Nat):Fu R (vs.drop n) (xs.drop n):=by
 refine ⟨by simp [h.1],fun j v y hv hy=>?_⟩
 rw [List.getElem?_drop] at hv hy
 exact h.2 _ v y hv hy
theorem Fu.splice {R:Value→C→Prop} {vs us:List Value} {xs ys:List C} (h:Fu R vs xs) (k:Fu R us ys) {o:Nat} (ho:o≤xs.length) :
 Fu R (vs.take o++us++vs.drop (o + us.length)) (splice xs o ys):=by
 rw [E4 xs o ys ho,k.1]
 exact ((h.take o).append k).append (h.drop _)
def Y3 (R:Value→C→Prop):List (Nat × Value)→List (Nat × List C)→Prop
 | [],[]=>True
 | (i,v) :: r,(j,c) :: s=>i = j∧Fu R v.cells.toList c∧Y3 R r s
 | _,_=>False
theorem Tg {R:Value→C→Prop} {place:Nat→Option (Nat × Nat)}:∀ {pv:List (Nat × Value)} {ps:List (Nat × List C)} {cells:Array Value} {cs l:List C},Y3 R pv ps→Fu R cells.toList cs→Wa place cs ps = some l →
 ∃ arr,Instr.fill place cells pv = some arr∧Fu R arr.toList l
 | [],[],cells,cs,l,_,hc,hf=>by simp [Wa] at hf; subst hf; exact ⟨cells,rfl,hc⟩
 | (i,v) :: r,(j,x) :: s,cells,cs,l,hp,hc,hf=>by
   obtain ⟨rfl,hv,hp⟩:=hp
   simp only [Wa] at hf
   split at hf
   ·cases hf
   ·rename_i off size hpl
    split at hf
    ·rename_i hcond
     have hsz:v.cells.size = x.length:=by simpa using hv.1
     have hcs:cells.size = cs.length:=by simpa using hc.1
     have hfold:=Rv off v.cells.toList 0 cells (by simp; omega)
     simp only [Nat.add_zero] at hfold
     have hrep:Fu R (v.cells.zipIdx.foldl (fun cs (x:Value × Nat)=>cs.setIfInBounds (off + x.2) x.1) cells).toList (splice cs off x):=by
      rw [← Array.foldl_toList,Array.toList_zipIdx,hfold]
      exact hc.splice hv (by omega)
     obtain ⟨arr,h1,h2⟩:=Tg hp hrep hf
     refine ⟨arr,?_,h2⟩
     simp only [Instr.fill,hpl]
     rw [if_neg (by simp; omega)]
     exact h1
    ·cases hf
 | [],_ :: _,_,_,_,hp,_,_=>hp.elim
 | (_,_) :: _,[],_,_,_,hp,_,_=>hp.elim
def ZB (β:Nat→Value) (n:Nat→Nat) (O:Nat→Prop) (w:World) (v:Value) (c:C):Prop:=Ch β n O w v c∧v.oneCell' = true
theorem BC.cellsC {O:Nat→Prop} {n:Nat→Nat} {vs:List Value} {ys:List D} (h:BC O w vs ys):Fu (ZB β n O w) vs (ys.map C.d):=⟨by simpa using h.1,fun j v c hv hc=>⟨h.cells j v c hv hc,h.oneCell v (List.mem_of_getElem? hv)⟩⟩
theorem aH (h:AB X G β S a w) {v:Value} {id n sz:Nat} {e:TypeId} {xs:List D} (hr:NN β (OS β X S) S w v (.row id n sz e xs)):v.cells = #[v]∧ZB β (AW S) (OS β X S) w v (.sl id n):=by
 obtain ⟨h1,h2,h3⟩:=hr
 have hb:=h.boxes id
 rw [h1] at hb
 obtain ⟨_,_,vals,hr,_⟩:=hb
 have key:v.cells = #[v]∧v.oneCell' = true:=by
  rw [h3]
  rcases hr with ⟨_,⟨hv,_⟩ | ⟨g',cap,cur,hv,_⟩⟩ | ⟨_,_,ad,hv⟩ <;> (rw [hv]; exact ⟨rfl,rfl⟩)
 exact ⟨key.1,⟨Nat.le_of_eq h2.symm,fun _=>h3⟩,key.2⟩
theorem V0 (h:AB X G β S a w) {r:RV} {v:Value} (hr:NN β (OS β X S) S w v r) {K:List C→Prop} (hy:cellsOf r K):∃ c,K c∧Fu (ZB β (AW S) (OS β X S) w) v.cells.toList c:=by
 cases r <;> simp only [cellsOf] at hy
 case d x =>
  rw [O7] at hy
  exact ⟨_,hy,(FO (show A9 _ w v x from hr)).cellsC⟩
 case lim sz xs=>exact ⟨_,hy,(FO (x:=.list sz xs) hr.1).cellsC⟩
 case row id n sz e xs =>
  obtain ⟨h1,h2⟩:=aH h hr
  refine ⟨_,hy,by rw [h1]; rfl,fun j v' c hv hc=>?_⟩
  rw [h1] at hv
  cases j with
  | zero=>simp at hv hc; subst hv; subst hc; exact h2
  | succ j=>simp at hc
theorem RH (h:AB X G β S a w) {g:Option (Nat × Bool)} (hg:BN g a):∀ {parts:List (Nat × Operand)} {K:List (Nat × List C)→Prop},LT (ρOf S g) parts K →
 ∃ ps,K ps∧Y3 (ZB β (AW S) (OS β X S) w) (parts.map fun x=>(x.1,a.eval x.2)) ps
 | [],K,hy=>⟨[],hy,trivial⟩
 | (i,x) :: r,K,hy=>by
   obtain ⟨c,hK,hc⟩:=V0 h (ρ_sound h hg x) hy
   obtain ⟨ps,hK,hps⟩:=RH h hg hK
   exact ⟨_,hK,rfl,hc,hps⟩
theorem Yr (h:AB X G β S a w) {g:Option (Nat × Bool)} (hg:BN g a) {t:TypeId} {parts:Array (Nat × Operand)} (ho:o.op = .build t parts) {fields:Array Field} (hu:P.underlying t = some (.struct fields))
 {zd:List D} (hzd:zeroCells P t = some zd) (hall:fields.toList.all (fun f=>(P.info? f.type).isSome) = true) {K:GD→Prop}
 (hy:Xq zd fun zc=>LT (ρOf S g) parts.toList fun ps=>match Wa (fun i=>match fields[i]? with | some f=>some (f.offset,AN P f.type) | none=>none) zc ps with
  | some l=>Cy l fun l=>K ⟨.cc none l,[],[]⟩
  | none=>False):∃ e,K e∧Dh P X G S a w o e:=by
 rw [O7] at hy
 obtain ⟨ps,hK,hp⟩:=RH h hg hy
 split at hK
 ·rename_i l hl
  rw [BG] at hK
  obtain ⟨i,z,hi,hz,hzr⟩:=Gu (O:=OS β X S) (w:=w) hzd
  obtain ⟨arr,h3,h4⟩:=Tg hp (hzr.cellsC (β:=β) (n:=AW S)) hl
  have hplace:(fun (i:Nat)=>match (fields[i]?:Option Field) with | some f=>some (f.offset,AN P f.type) | none=>none) = fun i=>(fields.map fun (f:Field)=>(f.offset,AN P f.type))[i]?:=by
   funext i
   rw [Array.getElem?_map]
   cases fields[i]? <;> rfl
  rw [hplace] at h3
  have hpl:(fields.mapM fun (f:Field)=>(do pure (f.offset,← sizeOf f.type):Sem (Nat × Nat))).run P w = .ok (fields.map fun (f:Field)=>(f.offset,AN P f.type)) w:=by
   rw [Array.mapM_eq_mapM_toList,Sem.run_map,Uj hall]
   simp only [Result.andThen_ok]
   congr 1
   apply Array.ext'
   simp
  refine ⟨_,hK,.inl ⟨.agg arr,w,?_,β,h,⟨arr,rfl,by simpa using h4.1,fun j u c hu hc=>h4.2 j u c (by simpa using hu) hc⟩,rfl⟩⟩
  simp only [execOp,ho,Instr.build,Sem.run_bind,zeroValue,typeInfo,run_program,hi,hz,Result.andThen_ok,Sem.run_pure,run_underlying hu,hpl,Array.toList_map]
  rw [h3]
  simp
 ·exact hK.elim
theorem NY (h:AB X G β S a w) {g:Option (Nat × Bool)} (hg:BN g a):∀ {args:List Operand} {K:List C→Bx→Prop},Il (σOf S) (ρOf S g) args K →
 ∃ l b,K l b∧FZ S [] b∧l.length = args.length∧(∀ (i:Nat) p id n,args[i]? = some p→l[i]? = some (.sl id n)→(As S id).ver = n∧a.eval p = β id∧(a.eval p).oneCell' = true)∧(∀ c∈l,∀ sz e xs,c≠.own sz e xs) ∧
   (∀ (i:Nat) y,l[i]? = some (.d y)→y.one = true)∧JI X G β S a w b fun O=>∀ (i:Nat) p y,args[i]? = some p→l[i]? = some (.d y)→A9 O w (a.eval p) y
 | [],K,hy=>⟨[],[],hy,trivial,rfl,(fun i p id n hp=>by simp at hp),(fun _ h=>by cases h),(fun i y hy=>by simp at hy),fun _ _ _ _ _ i p y hp _=>by simp at hp⟩
 | q :: r,K,hy=>by
   unfold Il at hy
   split at hy
   ·rename_i id n how
    have hr:=ρ_sound h hg q
    obtain ⟨l,bs,hK,hFs,hl,hsl,hno,hone,hreps⟩:=NY h hg hy
    have hq:(As S id).ver = n∧a.eval q = β id∧(a.eval q).oneCell' = true:=by
     unfold Zf at how
     split at how <;> try (cases how; done)
     ·rename_i hx
      cases how
      rw [hx] at hr
      obtain ⟨_,h2,b,h3,h4⟩:=hr
      exact ⟨h2,by rw [h4,h3],by rw [h4]; rfl⟩
     ·rename_i hx
      cases how
      rw [hx] at hr
      obtain ⟨_,h2,b,h3,h4⟩:=hr
      exact ⟨h2,by rw [h4,h3],by rw [h4]; rfl⟩
    refine ⟨_,_,hK,hFs,by simp [hl],fun i p id' n' hp hc=>?_,fun c hc=>?_,fun i y hy=>?_,hreps.mono (fun _ h=>h) fun O hh i p y hp hc=>?_⟩
    ·cases i with
     | zero=>simp at hp hc; subst hp; obtain ⟨rfl,rfl⟩:=hc; exact hq
     | succ i=>exact hsl i p id' n' (by simpa using hp) (by simpa using hc)
    ·rcases List.mem_cons.1 hc with rfl | hc
     ·intro _ _ _ e; cases e
     ·exact hno c hc
    ·cases i with
     | zero=>simp at hy
     | succ i=>exact hone i y (by simpa using hy)
    ·cases i with
     | zero=>simp at hc
     | succ i=>exact hh i p y (by simpa using hp) (by simpa using hc)
   ·obtain ⟨y,b,hK,hF,_,hrep⟩:=Mr h (ρ_sound h hg q) hy
    split at hK
    ·rename_i yd
     obtain ⟨h1,hK⟩:=Ar hK
     obtain ⟨l,bs,hK,hFs,hl,hsl,hno,hone,hreps⟩:=NY h hg hK
     refine ⟨_,_,hK,hF.append hFs,by simp [hl],fun i p id' n' hp hc=>?_,fun c hc=>?_,fun i y hy=>?_,(hrep.and hreps).mono (fun _ h=>h) fun O hh i p y hp hc=>?_⟩
     ·cases i with
      | zero=>simp at hc
      | succ i=>exact hsl i p id' n' (by simpa using hp) (by simpa using hc)
     ·rcases List.mem_cons.1 hc with rfl | hc
      ·intro _ _ _ e; cases e
      ·exact hno c hc
     ·cases i with
      | zero=>simp at hy; subst hy; exact h1
      | succ i=>exact hone i y (by simpa using hy)
     ·cases i with
      | zero=>simp at hp hc; subst hp; subst hc; exact hh.1
      | succ i=>exact hh.2 i p y (by simpa using hp) (by simpa using hc)
    ·exact hK.elim
theorem Y2 (h:AB X G β S a w) {g:Option (Nat × Bool)} (hg:BN g a) {f:FuncId} {first caps:Array Operand} (ho:o.op = .makeFunc (.func f) first caps) (hf:first.toList = []) {K:GD→Prop}
 (hy:Il (σOf S) (ρOf S g) caps.toList fun l b=>K ⟨.cc (some f) l,b,[]⟩):∃ e,K e∧Dh P X G S a w o e:=by
 obtain ⟨l,b,hK,hF,hl,hsl,hno,hone,hrep⟩:=NY h hg hy
 obtain ⟨h1,_,hfr⟩:=hF.run h
 have hr:=hrep.now h hF
 refine ⟨_,hK,.inl ⟨.func (.func f) #[] (caps.map a.eval),w,?_,β,h1,⟨caps.map a.eval,rfl,by simp [hl],fun i v c hv hc=>?_⟩,rfl⟩⟩
 ·have:first = #[]:=by cases first; simp_all
  simp [execOp,ho,Instr.makeFunc,this]
 ·rw [Array.getElem?_map] at hv
  cases hp:caps[i]? with
  | none=>simp [hp] at hv
  | some p =>
    simp [hp] at hv
    subst hv
    cases c with
    | d y=>exact ⟨⟨hr i p y (by simpa using hp) hc,hone i y hc⟩,XU (hr i p y (by simpa using hp) hc) (hone i y hc)⟩
    | sl id n =>
      obtain ⟨h2,h3,h4⟩:=hsl i p id n (by simpa using hp) hc
      have hv:=hfr.ver id
      exact ⟨⟨by simp only [AW]; rw [hv,h2]; exact Nat.le_refl _,fun _=>h3⟩,h4⟩
    | own sz e xs=>exact (hno _ (List.mem_of_getElem? hc) sz e xs rfl).elim
theorem Pn:∀ {cs:List C} {k id n:Nat},YC cs = some (k,id,n)→cs[k]? = some (.sl id n)
 | [],_,_,_,h=>by cases h
 | .sl id' n' :: r,k,id,n,h=>by simp [YC] at h; obtain ⟨rfl,rfl,rfl⟩:=h; rfl
 | .d y :: r,k,id,n,h=>by
   simp only [YC] at h
   split at h
   ·rename_i k' id' n' h'
    simp only [Option.some.injEq,Prod.mk.injEq] at h
    obtain ⟨rfl,rfl,rfl⟩:=h
    simpa using Pn h'
   ·cases h
 | .own _ _ _ :: r,k,id,n,h=>by
   simp only [YC] at h
   split at h
   ·rename_i k' id' n' h'
    simp only [Option.some.injEq,Prod.mk.injEq] at h
    obtain ⟨rfl,rfl,rfl⟩:=h
    simpa using Pn h'
   ·cases h
theorem VR:∀ {cs:List C} {i:Nat} {x:AV},(Pp cs)[i]? = some x→x = .any∨∃ y,x = .d y∧cs[i]? = some (.d y)
 | [],i,x,h=>by simp [Pp] at h
 | c :: r,0,x,h=>by
   cases c <;> simp [Pp] at h <;> subst h
   ·exact .inr ⟨_,rfl,rfl⟩
   ·exact .inl rfl
   ·exact .inl rfl
 | c :: r,i + 1,x,h=>by
   have h':(Pp r)[i]? = some x:=by cases c <;> simpa [Pp] using h
   rcases VR h' with h | ⟨y,h1,h2⟩
   ·exact .inl h
   ·exact .inr ⟨y,h1,by simpa using h2⟩
theorem Ro:∀ cs:List C,(Pp cs).length = cs.length
 | []=>rfl
 | c :: r=>by cases c <;> simp [Pp,Ro r]
theorem Zi (h:AB X G β S a w) {g:Option (Nat × Bool)} (hg:BN g a) {c:Call} (ho:o.op = .call c) {fo:Operand} (hc:c.callee = .value fo) {f:FuncId} {cs:List C} {k id n rid rn:Nat} (hf:ρOf S g fo = .clo f cs k id n rid rn)
 {rid' rn' sz:Nat} {e:TypeId} {xs:List D} (hr:σOf S rid rn = .row rid' rn' sz e xs) {K:GD→Prop} (hy:Hc P (σOf S) (ρOf S g) c.args.toList c.argTypes.toList fun vs bs=>match bs with
  | []=>Cy (Pp cs) fun cv=>Z4 P f (vs++cv) (vs.length + k) sz e xs fun ys=>if id = rid then False else K ⟨.any,[(rid,.row sz e ys,rn + 1),(id,.var [.sl rid (rn + 1)],n)],[]⟩
  | _=>False):∃ e,K e∧Dh P X G S a w o e:=by
 obtain ⟨vs,bs,hy,hF,hlen,hrep⟩:=Li h hg hy
 split at hy <;> try exact hy.elim
 rw [BG] at hy
 obtain ⟨ys,hcall,hy⟩:=hy.go
 split at hy
 ·exact hy.elim
 rename_i hne
 refine ⟨_,hy,?_⟩
 have hargs:=hrep.now h hF
 have hfv:=ρ_sound h hg fo
 rw [hf] at hfv
 obtain ⟨⟨capv,hfe,hcl,hcr⟩,hat,hbx,hver⟩:=hfv
 have hrun:(execOp a.eval o).run P w = .ok (.enter f (c.args.map a.eval++capv)) w:=by
  simp only [execOp,ho,resolve,hc,hfe,Deferred.ofValue,Sem.run_bind,Sem.run_pure,Result.andThen_ok,invoke]
  simp only [Array.empty_append]
  rw [IQ hcall.1]
 have hbv:=h.boxes id
 rw [hbx] at hbv
 obtain ⟨b,vals,T,hβ,hh,hvs,hcell⟩:=hbv
 obtain ⟨u,rfl⟩:∃ u,vals = #[u]:=by
  have:vals.size = 1:=hvs
  exact ⟨vals[0],by apply Array.ext; simp [this]; intro i h1 h2; simp at h2; subst h2; rfl⟩
 have hcu:=hcell 0 u (.sl rid rn) rfl rfl
 have hσ:=σ_sound h hcu
 rw [hr] at hσ
 obtain ⟨hrb,hrv,hru⟩:=hσ
 obtain ⟨rfl,rfl⟩:rid' = rid∧rn' = rn:=by
  simp only [σOf,res] at hr
  split at hr <;> (try (split at hr)) <;> cases hr <;> exact ⟨rfl,rfl⟩
 have hrbx:=h.boxes rid'
 rw [hrb] at hrbx
 obtain ⟨hsz,hxs,rvals,hrow,hrl⟩:=hrbx
 have ho1:(As S id).box.owned = true:=by rw [hbx]; rfl
 have ho2:(As S rid').box.owned = true:=by rw [hrb]; rfl
 have hbb:Ax (β id) = some b:=by rw [hβ]; rfl
 have hid:=Od hbx (by simp)
 have hrid:=Od hrb (by simp)
 have hlt:=h.blk ho1 hbb
 have hO:∀ c',(OS β X S c'∧c'≠b∧Ax u≠some c')∨c' = b∨Ax u = some c'→OS β X S c':=by
  intro c' hc'
  rcases hc' with hc' | rfl | hc'
  ·exact hc'.1
  ·exact .inr (.inr ⟨id,ho1,hbb⟩)
  ·exact .inr (.inr ⟨rid',ho2,by rw [← hru]; exact hc'⟩)
 have hval:∀ (i:Nat) v,(c.args.map a.eval++capv)[i]? = some v→(∃ p,c.args.toList[i]? = some p∧v = a.eval p)∨(c.args.size≤i∧capv[i - c.args.size]? = some v):=by
  intro i v hv
  rcases Nat.lt_or_ge i c.args.size with hi | hi
  ·rw [Array.getElem?_append_left (by simpa using hi)] at hv
   simp [hi] at hv
   exact .inl ⟨c.args[i],by simp [hi],hv.symm⟩
  ·rw [Array.getElem?_append_right (by simpa using hi)] at hv
   exact .inr ⟨hi,by simpa using hv⟩
 have hkv:(c.args.map a.eval++capv)[vs.length + k]? = some (.pointer (some ⟨b,0,none⟩)):=by
  have h1:=Pn hat
  have h2:k < capv.size:=by rw [hcl]; exact AI h1
  have h3:=hcr k capv[k] _ (by simp [h2]) h1
  have h4:capv[k] = β id:=h3.1.2 (by simp only [AW]; exact hver.symm)
  rw [Array.getElem?_append_right (by simp [hlen])]
  simp [hlen,h2,h4,hβ]
 have:=hcall.2 (fun c'=>OS β X S c'∧c'≠b∧Ax u≠some c') w (c.args.map a.eval++capv) b u T (fun c' hc'=>h.os_lt hc'.1) (fun q l hq=>(h.glob q l hq).mono (Ck.of_sub hO))
  (by simp [hlen,hcl,Ro]) hkv hh (fun hb=>hb.2.1 rfl) (fun c' hc'=>⟨fun hx=>hx.2.2 hc',fun e=>by
   subst e
   exact hne (h.inj id rid' c' ho1 ho2 hbb (by rw [← hru]; exact hc'))⟩) hsz hxs ⟨rvals,by rw [hru]; exact hrow,hrl.mono (Ck.of_sub hO)⟩
  (fun i v x hv hx=>by
   rcases hval i v hv with ⟨p,hp,rfl⟩ | ⟨hi,hv⟩
   ·rw [List.getElem?_append_left (by rw [hlen]; exact AI hp)] at hx
    exact (hargs i p x hp hx).mono (Ck.of_sub hO)
   ·rw [List.getElem?_append_right (by rw [hlen]; simpa using hi),hlen] at hx
    simp only [Array.length_toList] at hx
    rcases VR hx with rfl | ⟨y,rfl,hcy⟩
    ·trivial
    ·exact ((hcr _ v _ hv hcy).1.1).mono (Ck.of_sub hO))
 refine .inr (.inr ⟨f,_,hrun,this.mono fun e' w' ⟨v,u',T',h1,h2,h3,h4,h5,vals',h6,h7⟩=>⟨v,h1,?_⟩⟩)
 have hsz2:=h2.size
 let β':Nat→Value:=fun i=>if i = rid' then u' else β i
 have hgs:∀ i,As (Bo [(rid',.row sz e ys,rn' + 1),(id,.var [.sl rid' (rn' + 1)],n)] S) i = if i = rid' then ⟨(As S rid').av,.row sz e ys,rn' + 1⟩ else if i = id then ⟨(As S id).av,.var [.sl rid' (rn' + 1)],n⟩ else As S i:=by
  intro i
  simp only [Bo]
  rw [Ip (by rw [C9]; exact hid),Ip hrid,Ip hrid]
  by_cases e1:i = id
  ·subst e1
   simp [hne]
  ·simp [e1]
 have hsim:AB X G β' (Bo [(rid',.row sz e ys,rn' + 1),(id,.var [.sl rid' (rn' + 1)],n)] S) a w':=by
  refine h.multi (fun i=>if i = rid' then some (.row sz e ys,rn' + 1,u') else if i = id then some (.var [.sl rid' (rn' + 1)],n,β id) else none) (fun i=>?_) (fun i=>?_) (Cr _ _) hsz2 ?_ (fun i B m v hE=>?_) (fun b' hb' hk=>?_) (fun i B m v b' hE hB hbv=>?_) (fun i j B m v B' m' v' b' hE hE' hB hB' hbv hbv'=>?_) (fun hk hvv i B m v hE=>?_)
  ·rw [hgs]
   by_cases e1:i = rid'
   ·subst e1; simp
   ·by_cases e2:i = id
    ·simp [e2,hne]
    ·simp [e1,e2]
  ·show (if i = rid' then u' else β i) = _
   by_cases e1:i = rid'
   ·simp [e1]
   ·by_cases e2:i = id
    ·subst e2; simp only [if_neg e1,if_true]
    ·simp [e1,e2]
  ·refine h2.weaken h.hbase fun q hq hm hq'=>hm ?_
   rcases hq' with rfl | hq'
   ·exact ((h.mine id q ho1 hbb).1).resolve_left (by omega)
   ·exact ((h.mine rid' q ho2 (by rw [← hru]; exact hq')).1).resolve_left (by omega)
  ·split at hE
   ·rename_i e1; subst e1; cases hE; exact .inl (by rw [hrv]; omega)
   ·split at hE
    ·rename_i e2; subst e2; cases hE; exact .inr ⟨hver.symm,rfl,by rw [hbx]; simp⟩
    ·cases hE
  ·refine h2.block b' hb' fun hm=>?_
   rcases hm with rfl | hm
   ·exact hk id (.var [.sl rid' (rn' + 1)]) n (β id) (by simp [hne]) ho1 hbb
   ·exact hk rid' (.row sz e ys) (rn' + 1) u' (by simp) ho2 (by rw [← hru]; exact hm)
  ·split at hE
   ·rename_i e1
    subst e1
    cases hE
    rcases h4 b' hbv with h8 | h8
    ·exact .inl ⟨i,.row sz e ys,rn' + 1,u',by simp,ho2,by rw [← hru]; exact h8⟩
    ·exact .inr h8
   ·split at hE
    ·rename_i e1 e2
     subst e2
     cases hE
     exact .inl ⟨i,.var [.sl rid' (rn' + 1)],n,β i,by simp [hne],ho1,hbv⟩
    ·cases hE
  ·have hdis:∀ b',Ax u' = some b'→Ax (β id)≠some b':=by
    intro b' h8 h9
    rw [hbb] at h9
    cases h9
    rcases h4 b h8 with h9 | h9
    ·exact hne (h.inj id rid' b ho1 ho2 hbb (by rw [← hru]; exact h9))
    ·omega
   by_cases e1:i = rid' <;> by_cases e2:j = rid'
   ·rw [e1,e2]
   ·simp only [e1,e2,if_true,if_false] at hE hE'
    split at hE'
    ·cases hE; cases hE'; exact (hdis b' hbv hbv').elim
    ·cases hE'
   ·simp only [e1,e2,if_true,if_false] at hE hE'
    split at hE
    ·cases hE; cases hE'; exact (hdis b' hbv' hbv).elim
    ·cases hE
   ·simp only [e1,e2,if_false] at hE hE'
    split at hE
    ·split at hE'
     ·rename_i e3 e4; rw [e3,e4]
     ·cases hE'
    ·cases hE
  ·have hOS:∀ c',OS β' X (Bo [(rid',.row sz e ys,rn' + 1),(id,.var [.sl rid' (rn' + 1)],n)] S) c'→(OS β X S c'∧c'≠b∧Ax u≠some c')∨c' = b∨Ax u' = some c':=by
    intro c' hc'
    by_cases eb:c' = b
    ·exact .inr (.inl eb)
    by_cases eu:Ax u' = some c'
    ·exact .inr (.inr eu)
    have key:OS β X S c'∧Ax u≠some c':=by
     rcases hc' with hc' | hc' | ⟨i,hi1,hi2⟩
     ·refine ⟨.inl hc',fun e=>?_⟩
      have:=(h.mine rid' c' ho2 (by rw [← hru]; exact e)).1
      have h0:=h.o₀ c' hc'
      rcases this with this | this
      ·omega
      ·exact h0.2 this
     ·refine ⟨.inr (.inl hc'),fun e=>(h.mine rid' c' ho2 (by rw [← hru]; exact e)).2 hc'⟩
     ·rw [hgs] at hi1
      have hi2:Ax (if i = rid' then u' else β i) = some c':=hi2
      by_cases e1:i = rid'
      ·rw [if_pos e1] at hi2; exact (eu hi2).elim
      ·rw [if_neg e1] at hi1 hi2
       by_cases e2:i = id
       ·subst e2; rw [hbb] at hi2; cases hi2; exact (eb rfl).elim
       ·rw [if_neg e2] at hi1
        exact ⟨.inr (.inr ⟨i,hi1,hi2⟩),fun e=>e1 (h.inj i rid' c' hi1 ho2 hi2 (by rw [← hru]; exact e))⟩
    exact .inl ⟨key.1,eb,key.2⟩
   split at hE
   ·rename_i e1
    subst e1
    cases hE
    exact ⟨hsz,h5,vals',by show Ew w' e sz (if i = i then u' else β i) _ _; rw [if_pos rfl]; exact h6,h7.mono (Ck.of_sub hOS)⟩
   ·split at hE
    ·rename_i e1 e2
     subst e2
     cases hE
     refine ⟨b,#[u'],T',by show (if i = rid' then u' else β i) = _; rw [if_neg e1]; exact hβ,h3,rfl,fun j v c' hv hc'=>?_⟩
     cases j with
     | zero =>
       simp at hv hc'
       subst hv; subst hc'
       have hvr:AW (Bo [(rid',.row sz e ys,rn' + 1),(i,.var [.sl rid' (rn' + 1)],n)] S) rid' = rn' + 1:=by simp only [AW,hgs,if_true]
       exact ⟨by rw [hvr]; exact Nat.le_refl _,fun _=>by show _ = if rid' = rid' then u' else _; rw [if_pos rfl]⟩
     | succ j=>simp at hc'
    ·cases hE
 exact ⟨β',hsim,trivial,rfl⟩
end
end Go.Abs
