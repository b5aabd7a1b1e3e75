/- The abstract machine: the operations that make or write memory. -/
import Derived.Test.YtejfnieiaecpkaaGreatDoorAbsDo
import Derived.Laws.CopyOwn
import Derived.Laws.OwnMore
set_option linter.unusedVariables false
set_option linter.unusedSimpArgs false
namespace Go.Abs
open Go.RowKit (Below)
section lists
variable {O:Nat→Prop} {w:World}
theorem BC.append {vs us:List Value} {xs ys:List D} (h:BC O w vs xs) (k:BC O w us ys):BC O w (vs++us) (xs++ys):=by
 refine ⟨by simp [h.1,k.1],fun j v y hv hy=>?_⟩
 rcases Nat.lt_or_ge j vs.length with hj | hj
 ·rw [List.getElem?_append_left hj] at hv
  rw [List.getElem?_append_left (by rw [← h.1]; exact hj)] at hy
  exact h.2 j v y hv hy
 ·rw [List.getElem?_append_right hj] at hv
  rw [List.getElem?_append_right (by rw [← h.1]; exact hj),← h.1] at hy
  exact k.2 _ v y hv hy
theorem BC.take {vs:List Value} {xs:List D} (h:BC O w vs xs) (n:Nat):BC O w (vs.take n) (xs.take n):=by
 refine ⟨by simp [h.1],fun j v y hv hy=>?_⟩
 rw [List.getElem?_take] at hv hy
 split at hv
 ·rename_i hj; rw [if_pos hj] at hy; exact h.2 j v y hv hy
 ·cases hv
theorem BC.drop {vs:List Value} {xs:List D} (h:BC O w vs xs) (n:Nat):BC O w (vs.drop n) (xs.drop n):=by
 refine ⟨by simp [h.1],fun j v y hv hy=>?_⟩
 rw [List.getElem?_drop] at hv hy
 exact h.2 _ v y hv hy
theorem BC.nil:BC O w [] []:=⟨rfl,fun j v y h _=>by simp at h⟩
theorem BC.one {v:Value} {x:D} (h:A9 O w v x) (h1:x.one = true):BC O w [v] [x]:=by
 refine ⟨rfl,fun j u y hu hy=>?_⟩
 cases j with
 | zero=>simp at hu hy; subst hu; subst hy; exact ⟨h,h1⟩
 | succ j=>simp at hu
theorem FO {v:Value} {x:D} (h:A9 O w v x):BC O w v.cells.toList x.cells:=by
 cases h with
 | agg vs xs hl h1 h =>
   refine ⟨by simpa [Value.cells,D.cells] using hl,fun j v y hv hy=>?_⟩
   simp only [Value.cells,Array.getElem?_toList] at hv
   simp only [D.cells] at hy
   exact ⟨h j v y hv hy,h1 y (List.mem_of_getElem? hy)⟩
 | bool b=>exact BC.one (.bool b) rfl
 | int k n=>exact BC.one (.int k n) rfl
 | str s=>exact BC.one (.str s) rfl
 | fn f vs xs hl h1 h=>exact BC.one (.fn f vs xs hl h1 h) rfl
 | ptr b off cs c hb hO h1 hcell h=>exact BC.one (.ptr b off cs c hb hO h1 hcell h) rfl
 | nil a sz=>exact BC.one (.nil a sz) rfl
 | emp a cap sz=>exact BC.one (.emp a cap sz) rfl
 | list b off cap sz xs c hne hb hO hcap hsz h1 hcell h=>exact BC.one (.list b off cap sz xs c hne hb hO hcap hsz h1 hcell h) rfl
theorem BC.oneCell {vs:List Value} {xs:List D} (h:BC O w vs xs):∀ v∈vs,v.oneCell' = true:=by
 intro v hv
 obtain ⟨j,hj⟩:=List.mem_iff_getElem?.1 hv
 have hlt:j < xs.length:=by
  rw [← h.1]
  rcases Nat.lt_or_ge j vs.length with h | h
  ·exact h
  ·simp [List.getElem?_eq_none h] at hj
 have:=h.2 j v xs[j] hj (List.getElem?_eq_getElem hlt)
 exact XU this.1 this.2
theorem E4 {α:Type}:∀ (cs:List α) (o:Nat) (ys:List α),o≤cs.length→splice cs o ys = cs.take o++ys++cs.drop (o + ys.length)
 | cs,0,ys,_=>by simp [splice]
 | [],o + 1,ys,h=>by simp at h
 | c :: cs,o + 1,ys,h=>by
   rw [splice,E4 cs o ys (by simpa using h)]
   simp [show o + 1 + ys.length = (o + ys.length) + 1 by omega]
theorem BC.splice {vs us:List Value} {xs ys:List D} (h:BC O w vs xs) (k:BC O w us ys) {o:Nat} (ho:o≤xs.length) :
 BC O w (vs.take o++us++vs.drop (o + us.length)) (splice xs o ys):=by
 rw [E4 _ _ _ ho,k.1]
 exact ((h.take o).append k).append (h.drop _)
end lists
section
variable {P:Program} {X:Cx} {G:Nat→Prop} {β:Nat→Value} {S:AS} {a:Act} {w:World} {o:Oper}
theorem KC (ob:Obj):Below w.heap.size w (w.alloc ob):=(Below.refl _ _).alloc (Nat.le_refl _) _
theorem Xb (h:AB X G β S a w) {d:Nat} (hd:d < S.length) {vals:Array Value} {T:TypeId} {cs:List C} (hl:vals.size = cs.length) (hc:∀ (j:Nat) v c,vals[j]? = some v→cs[j]? = some c→Ch β (AW S) (OS β X S) w v c) :
 ∃ β',AB X G β' (AR S d (.var cs) ((As S d).ver + 1)) a (w.alloc (.cells vals T)) ∧
   J6 β' (AW (AR S d (.var cs) ((As S d).ver + 1))) (OS β' X (AR S d (.var cs) ((As S d).ver + 1))) (w.alloc (.cells vals T)) a.tmps (.pointer (some ⟨w.heap.size,0,none⟩)) (.ptr d ((As S d).ver + 1) 0):=by
 refine ⟨Nq β d (.pointer (some ⟨w.heap.size,0,none⟩)),h.rebox (R':=X.R) (fun _ h=>h) hd (.inl (Nat.lt_succ_self _)) (by simp) ((Br.of (KC _)).weaken h.hbase fun _ _ h=>h) (fun b hb _=>heap_alloc_old w _ b hb)
  (fun _ b hb=>⟨.inr (.inl (by simp [Ax] at hb; omega)),fun hr=>by simp [Ax] at hb; have:=(h.rs b hr).2; omega⟩) (fun k hv=>⟨w.heap.size,vals,T,by simp [Nq],heap_alloc_new w _,hl,fun j v c hv' hc'=>(hc j v c hv' hc').mono k hv⟩),?_⟩
 have hv:AW (AR S d (.var cs) ((As S d).ver + 1)) d = (As S d).ver + 1:=by simp [AW,BI,hd]
 exact ⟨by rw [hv]; exact Nat.le_refl _,fun _=>⟨w.heap.size,by simp [Nq],rfl⟩⟩
theorem bO (h:AB X G β S a w) {d:Nat} (hd:d < S.length) {n:Nat} (hn:(As S d).ver < n) {R':Nat→Prop} (hR:∀ b,R' b→X.R b) {w':World} (hw:Below w.heap.size w w') {v:Value} {sz:Nat} {e:TypeId} {xs:List D} {vals:List Value} (hsz:0 < sz)
 (hs:∀ x∈xs,x.cells.length = sz) (hr:Ew w' e sz v xs.length vals) (hb:∀ b,Ax v = some b→(w.heap.size≤b∨X.R b)∧¬ R' b) (hl:BC (fun b=>OS β X S b∨Ax v = some b) w' vals (xs.flatMap D.cells)) :
 ∃ β',AB (X.less R') G β' (AR S d (.row sz e xs) n) a w'∧β' = Nq β d v ∧
   J6 β' (AW (AR S d (.row sz e xs) n)) (OS β' (X.less R') (AR S d (.row sz e xs) n)) w' a.tmps v (.sl d n):=by
 refine ⟨Nq β d v,h.rebox hR hd (.inl hn) hw.size ((Br.of hw).weaken h.hbase fun _ _ h=>h) (fun b hb _=>hw.block b hb) (fun _ b hv=>⟨.inr (hb b hv).1,(hb b hv).2⟩) (fun k _=>⟨hsz,hs,vals,?_,?_⟩),rfl,?_⟩
 ·simp only [Nq,if_true]; exact hr
 ·refine hl.mono (Ck.of_sub fun b hb'=>?_)
  rcases hb' with hb' | hb' | ⟨i,h1,h2⟩
  ·exact .inl (.inl hb')
  ·exact .inl (.inr (.inl (hR b hb')))
  ·rw [BI] at h1
   split at h1
   ·rename_i e'
    rw [e'.1] at h2
    simp [Nq] at h2
    exact .inr h2
   ·rename_i e'
    have hi:i≠d:=fun hh=>e' ⟨hh,hd⟩
    simp [Nq,hi] at h2
    exact .inl (.inr (.inr ⟨i,h1,h2⟩))
 ·have hv:AW (AR S d (.row sz e xs) n) d = n:=by simp [AW,BI,hd]
  exact ⟨by rw [hv]; exact Nat.le_refl _,fun _=>by simp [Nq]⟩
theorem JQ (h:AB X G β S a w) {d:Nat} (hd:d < S.length) {w':World} (hw:Below w.heap.size w w') {v:Value} {sz:Nat} {e:TypeId} {xs:List D} {vals:List Value} (hsz:0 < sz)
 (hs:∀ x∈xs,x.cells.length = sz) (hr:Ew w' e sz v xs.length vals) (hb:∀ b,Ax v = some b→w.heap.size≤b) (hl:BC (fun b=>OS β X S b∨Ax v = some b) w' vals (xs.flatMap D.cells)) :
 ∃ β',AB X G β' (AR S d (.row sz e xs) ((As S d).ver + 1)) a w' ∧
   J6 β' (AW (AR S d (.row sz e xs) ((As S d).ver + 1))) (OS β' X (AR S d (.row sz e xs) ((As S d).ver + 1))) w' a.tmps v (.sl d ((As S d).ver + 1)):=by
 obtain ⟨β',h1,_,h2⟩:=bO h hd (n:=(As S d).ver + 1) (Nat.lt_succ_self _) (R':=X.R) (fun _ h=>h) hw hsz hs hr (fun b hv=>⟨.inl (hb b hv),fun hr=>by have:=(h.rs b hr).2; have:=hb b hv; omega⟩) hl
 exact ⟨β',h1,h2⟩
theorem BC.cells {O:Nat→Prop} {vs:List Value} {ys:List D} (h:BC O w vs ys) {n:Nat→Nat}:∀ (j:Nat) v c,vs[j]? = some v→(ys.map C.d)[j]? = some c→Ch β n O w v c:=by
 intro j v c hv hc
 simp only [List.getElem?_map] at hc
 cases hy:ys[j]? with
 | none=>simp [hy] at hc
 | some y=>simp [hy] at hc; subst hc; exact h.2 j v y hv hy
theorem c3 (h:AB X G β S a w) {g:Option (Nat × Bool)} (hg:BN g a) {d:Nat} (hd:d < S.length) {T:TypeId} {x:Operand} (ho:o.op = .box T x) {K:GD→Prop}
 (hy:match ρOf S g x with
  | .row id n _ _ _=>K ⟨.ptr d ((As S d).ver + 1) 0,[(d,.var [.sl id n],(As S d).ver + 1)],[]⟩
  | .cagg l=>K ⟨.ptr d ((As S d).ver + 1) 0,[(d,.var l,(As S d).ver + 1)],[]⟩
  | r=>VX r fun v b=>Xq v.cells fun l=>K ⟨.ptr d ((As S d).ver + 1) 0,b++[(d,.var l,(As S d).ver + 1)],[]⟩):∃ e,K e∧Dh P X G S a w o e:=by
 have hrx:=ρ_sound h hg x
 have hrun:(execOp a.eval o).run P w = .ok (.value (.pointer (some ⟨w.heap.size,0,none⟩))) (w.alloc (.cells (a.eval x).cells T)):=by simp [execOp,ho,Instr.box,newVar,newRow]
 split at hy
 ·rename_i id n sz e xs hx
  rw [hx] at hrx
  obtain ⟨h1,h2,h3⟩:=hrx
  have hone:(a.eval x).cells = #[a.eval x]:=by
   have hb:=h.boxes id
   rw [h1] at hb
   obtain ⟨_,_,vals,hr,_⟩:=hb
   rw [h3]
   rcases hr with ⟨_,⟨hv,_⟩ | ⟨g',cap,cur,hv,_⟩⟩ | ⟨_,_,ad,hv⟩ <;> (rw [hv]; rfl)
  obtain ⟨β',h4,h5⟩:=Xb h hd (T:=T) (vals:=(a.eval x).cells) (cs:=[.sl id n]) (by rw [hone]; rfl) (fun j v c hv hc=>by
   cases j with
   | zero=>rw [hone] at hv; simp at hv hc; subst hv; subst hc; exact ⟨Nat.le_of_eq h2.symm,fun _=>h3⟩
   | succ j=>simp at hc)
  exact ⟨_,hy,.inl ⟨_,_,hrun,β',h4,h5,rfl⟩⟩
 ·rename_i l hx
  rw [hx] at hrx
  obtain ⟨vs,hv,hl,hc⟩:=hrx
  have hcs:(a.eval x).cells = vs:=by rw [hv]; rfl
  obtain ⟨β',h4,h5⟩:=Xb h hd (T:=T) (vals:=(a.eval x).cells) (cs:=l) (by rw [hcs]; exact hl) (fun j v c hv hc'=>(hc j v c (by rw [← hcs]; exact hv) hc').1)
  exact ⟨_,hy,.inl ⟨_,_,hrun,β',h4,h5,rfl⟩⟩
 ·obtain ⟨xd,b,hK,hF,hfr,hrep⟩:=I1 (x:=X) (G:=G) (a:=a) hrx hy
  rw [O7] at hK
  obtain ⟨h1,h2,h3⟩:=hF.run h
  have hr:=hrep.now h hF
  obtain ⟨β',h4,h5⟩:=Xb h1 (d:=d) (by rw [Cr]; exact hd) (T:=T) (vals:=(a.eval x).cells) (cs:=xd.cells.map .d) (by have:=(FO hr).1; simpa using this) (fun j v c hv hc=>(FO hr).cells j v c (by simpa using hv) hc)
  rw [h3.ver] at h4 h5
  refine ⟨_,hK,.inl ⟨_,_,hrun,β',?_,?_,rfl⟩⟩
  ·simp only [BH,Bo]; exact h4
  ·simp only [BH,Bo]; exact h5
theorem XC {O:Nat→Prop} {w:World} {v:Value} {x:D} (h:zD v = some x):A9 O w v x∧x.one = true:=by
 unfold zD at h
 split at h <;> simp at h <;> subst h
 ·exact ⟨.int _ _,rfl⟩
 ·exact ⟨.bool _,rfl⟩
 ·exact ⟨.str _,rfl⟩
 ·exact ⟨.nil _ _,rfl⟩
theorem VW {O:Nat→Prop} {w:World}:∀ {vs:List Value} {xs:List D},fw vs = some xs→BC O w vs xs
 | [],xs,h=>by simp [fw] at h; subst h; exact BC.nil
 | v :: r,xs,h=>by
   simp only [fw] at h
   split at h
   ·rename_i x l hx hl
    simp at h
    subst h
    have h1:=XC (O:=O) (w:=w) hx
    exact (BC.one h1.1 h1.2).append (VW hl)
   ·cases h
theorem Ov {O:Nat→Prop} {w:World}:∀ {vs:List Value} {xs:List D} (ss:List Nat),BC O w vs xs→BC O w vs (JZ xs ss)
 | vs,[],ss,h=>by simpa [JZ] using h
 | [],x :: r,ss,h=>by have:=h.1; simp at this
 | v :: vs,x :: r,[],h=>by cases x <;> simpa [JZ] using h
 | v :: vs,x :: r,s :: q,h=>by
   have h0:=h.2 0 v x rfl rfl
   have ht:BC O w vs r:=⟨by simpa using h.1,fun j u y hu hy=>h.2 (j + 1) u y (by simpa using hu) (by simpa using hy)⟩
   have ih:=Ov q ht
   cases x <;> simp only [JZ]
   case nil s' =>
    have hv:∃ ad,v = .slice ad 0 0:=by cases h0.1; exact ⟨_,rfl⟩
    obtain ⟨ad,rfl⟩:=hv
    exact (BC.one (.nil ad s) rfl).append ih
   all_goals exact (BC.one h0.1 h0.2).append ih
theorem Gu {O:Nat→Prop} {w:World} {t:TypeId} {l:List D} (h:zeroCells P t = some l):∃ i z,P.info? t = some i∧i.zero = some z∧BC O w z.cells.toList l:=by
 unfold zeroCells at h
 split at h
 ·rename_i i hi
  split at h
  ·rename_i z hz
   split at h
   ·rename_i l' hl
    simp at h
    subst h
    exact ⟨i,z,hi,hz,Ov _ (VW hl)⟩
   ·cases h
  ·cases h
 ·cases h
theorem YE (h:AB X G β S a w) {d:Nat} (hd:d < S.length) {T:TypeId} (ho:o.op = .alloc T) {l:List D} (hz:zeroCells P T = some l) {K:GD→Prop}
 (hy:Xq l fun l=>K ⟨.ptr d ((As S d).ver + 1) 0,[(d,.var l,(As S d).ver + 1)],[]⟩):∃ e,K e∧Dh P X G S a w o e:=by
 rw [O7] at hy
 obtain ⟨i,z,hi,hz,hr⟩:=Gu (O:=OS β X S) (w:=w) hz
 obtain ⟨β',h3,h4⟩:=Xb h hd (T:=T) (vals:=z.cells) (cs:=l.map .d) (by have:=hr.1; simpa using this) (fun j v c hv hc=>hr.cells j v c (by simpa using hv) hc)
 refine ⟨_,hy,.inl ⟨.pointer (some ⟨w.heap.size,0,none⟩),w.alloc (.cells z.cells T),?_,β',h3,h4,rfl⟩⟩
 simp [execOp,ho,Instr.alloc,zeroValue,typeInfo,hi,hz,newVar,newRow]
theorem PC {x:Operand} (h:OU x = true):x = .const (.slice none 0 0):=by
 unfold OU at h
 split at h
 ·rfl
 ·cases h
theorem bk (h:AB X G β S a w) {d:Nat} (hd:d < S.length) {x:Operand} (ho:o.op = .assign x) (hx:OU x = true) {e:TypeId} (hsz:0 < AN P e) :
 Dh P X G S a w o ⟨.sl d ((As S d).ver + 1),[(d,.row (AN P e) e [],(As S d).ver + 1)],[]⟩:=by
 rw [PC hx] at ho
 obtain ⟨β',h3,h4⟩:=JQ h hd (Below.refl _ _) (v:=.slice none 0 0) (e:=e) (xs:=[]) (vals:=[]) hsz (fun _ h=>by cases h) (.inl (World.ownsRow_nil w _ e _)) (fun b hb=>by simp [Ax] at hb) BC.nil
 exact .inl ⟨_,w,by simp [execOp,ho,Act.eval],β',h3,h4,rfl⟩
theorem M3 {T:TypeId} {p x:Operand} (ho:o.op = .store T p x) {b off:Nat} (hp:a.eval p = .pointer (some ⟨b,off,none⟩)) {i:TypeInfo} (hi:P.info? T = some i)
 (hc:(a.eval x).cells.size = i.size) {cur:Array Value} {E:TypeId} (hh:w.heap[b]? = some (.cells cur E (0,0))) (hfit:off + (a.eval x).cells.size≤cur.size) (h1:∀ v∈(a.eval x).cells.toList,v.oneCell' = true) :
 (execOp a.eval o).run P w = .ok .skip (w.setRow b (cur.toList.take off++(a.eval x).cells.toList++cur.toList.drop (off + (a.eval x).cells.size)).toArray):=by
 have:=run_storeCells_at P b off E (a.eval x).cells.toList 0 cur w hh (by simpa using hfit) h1
 simp only [Nat.add_zero,Array.length_toList] at this
 simp [execOp,ho,Instr.storeAt,hp,Instr.sureAddr,storeVar,sizeOf,typeInfo,hi,hc,this]
theorem GQ {T:TypeId} {i:TypeInfo} (hi:P.info? T = some i):AN P T = i.size:=by simp [AN,hi]
theorem Sq (h:AB X G β S a w) {id n:Nat} {cs:List C} (hb:(As S id).box = .var cs) (hn:(As S id).ver = n) {b:Nat} (hβ:β id = .pointer (some ⟨b,0,none⟩)) {vals:Array Value} {E:TypeId} (hh:w.heap[b]? = some (.cells vals E (0,0)))
 (hvl:vals.size = cs.length) (hvc:∀ (j:Nat) v c,vals[j]? = some v→cs[j]? = some c→Ch β (AW S) (OS β X S) w v c) {off:Nat} {us:List Value} {ns:List C} (hl:us.length = ns.length) (hfit:off + ns.length≤cs.length)
 (hnew:∀ (j:Nat) v c,us[j]? = some v→ns[j]? = some c→Ch β (AW S) (OS β X S) w v c) :
 AB X G β (AR S id (.var (splice cs off ns)) n) a (w.setRow b (vals.toList.take off++us++vals.toList.drop (off + us.length)).toArray):=by
 have hid:=Od hb (by simp)
 have ho:(As S id).box.owned = true:=by rw [hb]; rfl
 have hbl:Ax (β id) = some b:=by rw [hβ]; rfl
 have h5:=h.rebox (R':=X.R) (id:=id) (B:=.var (splice cs off ns)) (v:=β id) (n:=n) (w':=w.setRow b (vals.toList.take off++us++vals.toList.drop (off + us.length)).toArray)
  (fun _ h=>h) hid (.inr ⟨hn.symm,rfl,by rw [hb]; simp⟩) (by simp) (Br.setRow _ _ _ (h.mine id b ho hbl).1)
  (fun k _ hk=>setRow_other w b k _ (fun e=>hk ho (by rw [hbl,e])))
  (fun _ k hk=>⟨.inl ⟨hk,ho⟩,(h.mine id k ho hk).2⟩)
  (fun k hv=>by
   rw [Gk] at k hv ⊢
   refine ⟨b,_,E,hβ,setRow_heap w b vals _ E _ hh,?_,fun j v c hv' hc=>?_⟩
   ·rw [E4 _ _ _ (by omega)]; simp; omega
   ·rw [E4 _ _ _ (by omega)] at hc
    simp only [List.getElem?_toArray] at hv'
    refine Ch.mono k hv ?_
    have hlen:(vals.toList.take off).length = (cs.take off).length:=by simp [hvl]
    rcases Nat.lt_or_ge j (cs.take off).length with hj | hj
    ·rw [List.append_assoc,List.getElem?_append_left (by rw [hlen]; exact hj),List.getElem?_take] at hv'
     rw [List.append_assoc,List.getElem?_append_left hj,List.getElem?_take] at hc
     split at hv'
     ·rename_i hjo; rw [if_pos hjo] at hc; exact hvc j v c (by simpa using hv') hc
     ·cases hv'
    ·rw [List.append_assoc,List.getElem?_append_right (by rw [hlen]; exact hj),hlen] at hv'
     rw [List.append_assoc,List.getElem?_append_right hj] at hc
     rcases Nat.lt_or_ge (j - (cs.take off).length) ns.length with hj2 | hj2
     ·rw [List.getElem?_append_left (by rw [hl]; exact hj2)] at hv'
      rw [List.getElem?_append_left hj2] at hc
      exact hnew _ v c hv' hc
     ·rw [List.getElem?_append_right (by rw [hl]; exact hj2),List.getElem?_drop,hl] at hv'
      rw [List.getElem?_append_right hj2,List.getElem?_drop] at hc
      exact hvc _ v c (by simpa using hv') hc)
 rw [Gk] at h5
 exact h5
theorem Wt (h:AB X G β S a w) {g:Option (Nat × Bool)} (hg:BN g a) {T:TypeId} {p x:Operand} (ho:o.op = .store T p x) {id n off:Nat} {cs:List C}
 (hp:NN β (OS β X S) S w (a.eval p) (.vptr id n off cs)) {i:TypeInfo} (hi:P.info? T = some i) {K:GD→Prop}
 (hy:match L6 P T with
  | some true=>match ρOf S g x with
    | .cagg l=>if l.length = AN P T∧off + l.length≤cs.length then Cy (splice cs off l) fun l=>K ⟨.any,[(id,.var l,n)],[]⟩ else False
    | r=>VX r fun v b =>
      if v.cells.length = AN P T∧off + v.cells.length≤cs.length then Xq v.cells fun l=>Cy (splice cs off l) fun l=>K ⟨.any,b++[(id,.var l,n)],[]⟩ else False
  | some false=>if AN P T = 1∧off < cs.length then match ρOf S g x with
   | .row id' n' _ _ _=>Cy (splice cs off [.sl id' n']) fun l=>K ⟨.any,[(id,.var l,n)],[]⟩
   | r=>VX r fun v b=>if v.one = true then Cy (splice cs off [.d v]) fun l=>K ⟨.any,b++[(id,.var l,n)],[]⟩ else False
   else False
  | none=>False) :
 ∃ e,K e∧Dh P X G S a w o e:=by
 obtain ⟨hb,hn,blk,hβ,hv⟩:=hp
 have data:∀ {v:D} {b:Bx},FZ S [] b→(∀ z∈b,∃ sz xs,z.2.1 = .frow sz xs)→JI X G β S a w b (fun O=>A9 O w (a.eval x) v)→v.cells.length = AN P T→off + v.cells.length≤cs.length →
  K ⟨.any,b++[(id,.var (splice cs off (v.cells.map .d)),n)],[]⟩→∃ e,K e∧Dh P X G S a w o e:=by
  intro v b hF hfr hrep hc1 hc2 hK
  obtain ⟨h1,h2,h3⟩:=hF.run h
  have hr:=FO (hrep.now h hF)
  have hsame:(As (Bo b S) id).box = .var cs:=by
   rw [h3.other id fun z hz e=>?_]
   ·exact hb
   ·obtain ⟨sz,xs,e2⟩:=hfr z hz
    rcases (hF.each z hz).2 with ⟨_,_,_,k1,_⟩ | ⟨_,_,k1,k2,_⟩ | ⟨k1,k2⟩
    ·rw [e,hb] at k1; cases k1
    ·rw [e2] at k2; cases k2
    ·rw [e,hb] at k1; rw [← k1] at k2; cases k2
  have hver:(As (Bo b S) id).ver = n:=by rw [h3.ver,hn]
  obtain ⟨vals,E,hh,hvl,hvc⟩:=Lr h1 hsame hβ
  have hcells:(a.eval x).cells.size = v.cells.length:=by have:=hr.1; simpa using this
  have hrun:=M3 (P:=P) ho hv hi (by rw [hcells,hc1,GQ hi]) hh (by rw [hcells,hvl]; exact hc2) hr.oneCell
  refine ⟨_,hK,.inr (.inl ⟨_,hrun,β,?_,trivial,rfl⟩)⟩
  have:=Sq h1 hsame hver hβ hh hvl hvc (off:=off) (us:=(a.eval x).cells.toList) (ns:=v.cells.map .d) (by rw [hr.1]; simp) (by simpa using hc2) hr.cells
  simp only [BH,Bo]
  simpa using this
 split at hy
 ·have hrx:=ρ_sound h hg x
  split at hy
  ·rename_i l hx
   rw [hx] at hrx
   obtain ⟨⟨hc1,hc2⟩,hK⟩:=Ar hy
   rw [BG] at hK
   obtain ⟨us,hu,hul,huc⟩:=hrx
   have hcs:(a.eval x).cells = us:=by rw [hu]; rfl
   obtain ⟨vals,E,hh,hvl,hvc⟩:=Lr h hb hβ
   have hone:∀ v∈us.toList,v.oneCell' = true:=by
    intro v hv'
    obtain ⟨j,hj⟩:=List.mem_iff_getElem?.1 hv'
    have hjl:j < l.length:=by rw [← hul]; have:=AI hj; simpa using this
    exact (huc j v l[j] (by simpa using hj) (List.getElem?_eq_getElem hjl)).2
   have hrun:=M3 (P:=P) ho hv hi (by rw [hcs,hul,hc1,GQ hi]) hh (by rw [hcs,hul,hvl]; exact hc2) (by rw [hcs]; exact hone)
   refine ⟨_,hK,.inr (.inl ⟨_,hrun,β,?_,trivial,rfl⟩)⟩
   have:=Sq h hb hn hβ hh hvl hvc (off:=off) (us:=(a.eval x).cells.toList) (ns:=l) (by rw [hcs]; simpa using hul) (by simpa using hc2) (fun j v c hv' hc=>(huc j v c (by rw [hcs] at hv'; simpa using hv') hc).1)
   simp only [Bo]
   simpa using this
  ·obtain ⟨xd,b,hK,hF,hfr,hrep⟩:=I1 (x:=X) (G:=G) (a:=a) hrx hy
   obtain ⟨⟨hc1,hc2⟩,hK⟩:=Ar hK
   rw [O7,BG] at hK
   exact data hF hfr hrep hc1 hc2 hK
 ·obtain ⟨⟨hs1,hof⟩,hy⟩:=Ar hy
  have hrx:=ρ_sound h hg x
  split at hy
  ·rename_i id' n' sz e xs hx
   rw [hx] at hrx
   rw [BG] at hy
   obtain ⟨k1,k2,k3⟩:=hrx
   have hone:(a.eval x).cells = #[a.eval x]∧(a.eval x).oneCell' = true:=by
    have hb':=h.boxes id'
    rw [k1] at hb'
    obtain ⟨_,_,vals,hr,_⟩:=hb'
    rw [k3]
    rcases hr with ⟨_,⟨hv,_⟩ | ⟨g',cap,cur,hv,_⟩⟩ | ⟨_,_,ad,hv⟩ <;> (rw [hv]; exact ⟨rfl,rfl⟩)
   obtain ⟨vals,E,hh,hvl,hvc⟩:=Lr h hb hβ
   have hrun:=M3 (P:=P) ho hv hi (by rw [hone.1,← GQ hi,hs1]; rfl) hh (by rw [hone.1,hvl]; exact hof) (by rw [hone.1]; simpa using hone.2)
   refine ⟨_,hy,.inr (.inl ⟨_,hrun,β,?_,trivial,rfl⟩)⟩
   have:=Sq h hb hn hβ hh hvl hvc (off:=off) (us:=(a.eval x).cells.toList) (ns:=[.sl id' n']) (by rw [hone.1]; rfl) hof (fun j v c hv' hc=>by
    cases j with
    | zero=>rw [hone.1] at hv'; simp at hv' hc; subst hv'; subst hc; exact ⟨Nat.le_of_eq k2.symm,fun _=>k3⟩
    | succ j=>simp at hc)
   simp only [Bo]
   simpa using this
  ·obtain ⟨xd,b,hK,hF,hfr,hrep⟩:=I1 (x:=X) (G:=G) (a:=a) hrx hy
   obtain ⟨hone,hK⟩:=Ar hK
   rw [BG] at hK
   have hx1:xd.cells = [xd]:=by cases xd <;> first | rfl | simp [D.one] at hone
   exact data hF hfr hrep (by rw [hx1,hs1]; rfl) (by rw [hx1]; exact hof) (by rw [hx1]; exact hK)
 ·exact hy.elim
theorem PW {α:Type}:∀ (A B:List α) (i:Nat) (ys:List α),splice (A++B) (A.length + i) ys = A++splice B i ys
 | [],B,i,ys=>by simp
 | c :: A,B,i,ys=>by
   rw [List.cons_append,List.length_cons,show A.length + 1 + i = (A.length + i) + 1 by omega,splice,PW A B i ys]
   rfl
theorem XT {sz:Nat}:∀ (xs:List D) (i:Nat) (x y:D),(∀ x∈xs,x.cells.length = sz)→xs[i]? = some x→y.cells.length = sz →
 (xs.set i y).flatMap D.cells = splice (xs.flatMap D.cells) (i * sz) y.cells
 | [],i,x,y,_,hx,_=>by simp at hx
 | z :: r,0,x,y,hs,hx,hy=>by
   have hz:z.cells.length = sz:=hs z (by simp)
   rw [E4 _ _ _ (by simp)]
   simp [hy,List.drop_append,← hz]
 | z :: r,i + 1,x,y,hs,hx,hy=>by
   have hz:z.cells.length = sz:=hs z (by simp)
   have ih:=XT r i x y (fun x hx=>hs x (by simp [hx])) (by simpa using hx) hy
   rw [List.set_cons_succ,List.flatMap_cons,ih,List.flatMap_cons,show (i + 1) * sz = z.cells.length + i * sz by rw [hz,Nat.add_mul]; omega,PW]
theorem V9 (L ys zs:List D) (i o:Nat) (hi:i + ys.length≤L.length) (ho:o + zs.length≤ys.length) (hL:(L.drop i).take ys.length = ys) :
 splice L i (splice ys o zs) = splice L (i + o) zs:=by
 rw [E4 ys o zs (by omega),E4 L i _ (by omega),E4 L (i + o) zs (by omega)]
 have hlen:(ys.take o++zs++ys.drop (o + zs.length)).length = ys.length:=by simp; omega
 rw [hlen]
 have e1:L.take (i + o) = L.take i++ys.take o:=by
  rw [List.take_add,← hL,List.take_take,Nat.min_eq_left (by omega)]
 have e2:L.drop (i + o + zs.length) = ys.drop (o + zs.length)++L.drop (i + ys.length):=by
  have:L.drop i = ys++L.drop (i + ys.length):=by
   conv=>lhs; rw [← List.take_append_drop ys.length (L.drop i),hL,List.drop_drop]
  rw [show i + o + zs.length = i + (o + zs.length) by omega,← List.drop_drop,this,List.drop_append_of_le_length ho]
 rw [e1,e2]
 simp
theorem EW {id:Nat}:∀ {b:Bx},HB id b = true→∀ z∈b,z.1≠id
 | [],_,_,h=>by cases h
 | q :: r,hq,z,hz=>by
   simp [HB] at hq
   rcases List.mem_cons.1 hz with rfl | hz
   ·exact hq.1
   ·exact EW hq.2 z hz
theorem WC (h:AB X G β S a w) {g:Option (Nat × Bool)} (hg:BN g a) {T:TypeId} {p x:Operand} (ho:o.op = .store T p x) {id n sz:Nat} {e:TypeId} {xs:List D} {k off:Nat}
 (hp:NN β (OS β X S) S w (a.eval p) (.eptr id n sz e xs k off)) {i:TypeInfo} (hi:P.info? T = some i) {K:GD→Prop}
 (hy:dI (ρOf S g x) fun v b=>At xs k fun y =>
  if v.cells.length = AN P T∧off + v.cells.length≤y.cells.length∧HB id b = true then
   match y with
   | .agg cs=>Cy (splice cs off v.cells) fun l=>K ⟨.any,b++[(id,.row sz e (xs.set k (.agg l)),n)],[]⟩
   | _=>if v.one then K ⟨.any,b++[(id,.row sz e (xs.set k v),n)],[]⟩ else False
  else False) :
 ∃ e,K e∧Dh P X G S a w o e:=by
 obtain ⟨xd,b,hK,hF,hfr,hrep⟩:=S8 (x:=X) (G:=G) (a:=a) (ρ_sound h hg x) hy
 obtain ⟨_,y,hy1,hK⟩:=hK.go
 simp only [Int.toNat_natCast] at hy1
 obtain ⟨⟨hc1,hc2,hnr⟩,hK⟩:=Ar hK
 obtain ⟨h1,h2,h3⟩:=hF.run h
 have hr:=FO (hrep.now h hF)
 obtain ⟨hb,hn,blk,m,cap,hβ,hv⟩:=hp
 have hsame:(As (Bo b S) id).box = .row sz e xs:=by rw [h3.other id (EW hnr)]; exact hb
 have hver:(As (Bo b S) id).ver = n:=by rw [h3.ver,hn]
 have hbx:=h1.boxes id
 rw [hsame] at hbx
 obtain ⟨hpos,hszs,vals,hrow,hl⟩:=hbx
 have hid:id < S.length:=Od hb (by simp)
 have hklt:=AI hy1
 have hysz:y.cells.length = sz:=hszs y (List.mem_of_getElem? hy1)
 obtain ⟨y',hy',hK⟩:∃ y',(y'.cells = splice y.cells off xd.cells∧y'.cells.length = sz)∧K ⟨.any,b++[(id,.row sz e (xs.set k y'),n)],[]⟩:=by
  have hlen:(splice y.cells off xd.cells).length = sz:=by rw [E4 _ _ _ (by omega)]; simp; omega
  cases y with
  | agg cs=>simp only [BG] at hK; exact ⟨.agg (splice cs off xd.cells),⟨rfl,hlen⟩,hK⟩
  | bool _ | int _ _ | str _ | fn _ _ | ptr _ | nil _ | list _ _ =>
    obtain ⟨hone,hK2⟩:=Ar (show (if xd.one = true then K ⟨.any,b++[(id,.row sz e (xs.set k xd),n)],[]⟩ else False) from hK)
    have hx1:xd.cells = [xd]:=by cases xd <;> first | rfl | simp [D.one] at hone
    rw [hx1] at hc2
    have hc2':off + 1≤1:=hc2
    have ho0:off = 0:=by omega
    subst ho0
    refine ⟨xd,⟨?_,?_⟩,hK2⟩
    ·rw [hx1]; rfl
    ·rw [hx1]; exact hysz
 rcases hrow with ⟨hlen,⟨hv',h0⟩ | ⟨gb,cap',cur,hv',hbg,hh,hnc,hm,hcs,ht⟩⟩ | ⟨h0,_⟩
 ·omega
 ·have hβb:=hβ
  rw [hv'] at hβb
  simp at hβb
  obtain ⟨rfl,rfl,rfl⟩:=hβb
  have hcells:(a.eval x).cells.size = xd.cells.length:=by have:=hr.1; simpa using this
  have hle:k * sz + sz≤xs.length * sz:=by rw [← Nat.succ_mul]; exact Nat.mul_le_mul_right _ hklt
  have hle2:xs.length * sz≤cur.size:=by rw [hcs]; exact Nat.mul_le_mul_right _ hnc
  have hfit:k * sz + off + (a.eval x).cells.size≤cur.size:=by rw [hcells]; omega
  have hrun:=M3 (P:=P) ho hv hi (by rw [hcells,hc1,GQ hi]) hh hfit hr.oneCell
  refine ⟨_,hK,.inr (.inl ⟨_,hrun,?_⟩)⟩
  have hflat:=DM xs hszs
  have hsp:(xs.set k y').flatMap D.cells = splice (xs.flatMap D.cells) (k * sz + off) xd.cells:=by
   rw [XT xs k y y' hszs hy1 hy'.2,hy'.1]
   refine V9 _ _ _ _ _ (by rw [hflat,hysz]; exact hle) hc2 ?_
   apply List.ext_getElem?
   intro j
   rw [List.getElem?_take]
   split
   ·rename_i hj
    rw [List.getElem?_drop,Nw xs hszs k y j _ hy1 (List.getElem?_eq_getElem hj),List.getElem?_eq_getElem hj]
   ·rename_i hj
    rw [List.getElem?_eq_none (by omega)]
  have hcap0:cap'≠0:=by omega
  have hown:(As (Bo b S) id).box.owned = true:=by rw [hsame]; rfl
  have hbl:Ax (β id) = some gb:=by rw [hv']; simp [Ax,hcap0]
  have h5:=h1.rebox (R':=X.R) (id:=id) (B:=.row sz e (xs.set k y')) (v:=β id) (n:=n)
   (w':=w.setRow gb (cur.toList.take (k * sz + off)++(a.eval x).cells.toList++cur.toList.drop (k * sz + off + (a.eval x).cells.size)).toArray)
   (fun _ h=>h) (by rw [Cr]; exact hid) (.inr ⟨hver.symm,rfl,by rw [hsame]; simp⟩) (by simp) (Br.setRow _ _ _ (h1.mine id gb hown hbl).1)
   (fun q _ hk=>setRow_other w gb q _ (fun e=>hk hown (by rw [hbl,e])))
   (fun _ q hq=>⟨.inl ⟨hq,hown⟩,(h1.mine id q hown hq).2⟩)
   (fun kp _=>by
    rw [Gk] at kp ⊢
    refine ⟨hpos,?_,vals.take (k * sz + off)++(a.eval x).cells.toList++vals.drop (k * sz + off + (a.eval x).cells.toList.length),.inl ⟨?_,.inr ⟨gb,cap',_,by rw [hv']; simp,hbg,setRow_heap w gb cur _ e _ hh,?_,hm,?_,?_⟩⟩,?_⟩
    ·intro z hz
     rcases List.mem_or_eq_of_mem_set hz with hz | hz
     ·exact hszs z hz
     ·rw [hz]; exact hy'.2
    ·simp only [List.length_append,List.length_take,List.length_drop,List.length_set,Array.length_toList]
     omega
    ·simpa using hnc
    ·simp only [List.size_toArray,List.length_append,List.length_take,List.length_drop,Array.length_toList]
     omega
    ·simp only [List.length_set]
     rw [← ht]
     apply List.ext_getElem?
     intro j
     simp only [List.getElem?_take,List.getElem?_append,List.getElem?_drop,List.length_append,List.length_take,Array.length_toList]
     split
     ·rename_i hj
      repeat' split
      all_goals first
       | rfl
       | omega
       | (congr 1; omega)
       | (rw [if_pos (by omega)]; congr 1; omega)
     ·rename_i hj
      repeat' split
      all_goals first
       | rfl
       | omega
       | (rw [List.getElem?_eq_none]; simp; omega)
       | (rw [if_neg (by omega)])
    ·rw [hsp]
     exact (hl.splice hr (o:=k * sz + off) (by rw [hflat]; omega)).mono kp)
  rw [Gk] at h5
  refine ⟨β,?_,trivial,rfl⟩
  simp only [BH,Bo]
  exact h5
 ·omega
end
end Go.Abs
