/- M2 -/
import Derived.Test.YtlpkhgkoihlghaaGreatDoorM1
import Derived.Laws.StructEq
import Derived.Laws.Concat
import Derived.Lib.ConvBytes
import Derived.Laws.CopyOwn
import Derived.Laws.OwnMore
import Derived.MapKept
set_option linter.unusedVariables false
set_option linter.unusedSimpArgs false
namespace Go.Abs
open Go.RowKit (Below)
theorem Au {c p:Prop} [Decidable c] (h:if c then p else False):c∧p:=by
 split at h
 ·exact ⟨‹_›,h⟩
 ·exact h.elim
section
variable {P:Program} {X:Cx} {G:Nat→Prop} {β:Nat→Value} {S:AS} {a:Act} {w:World} {o:Oper}
def Qo (X:Cx) (G:Nat→Prop) (S:AS) (a:Act) (e:F3) (v:Value) (w':World):Prop :=
 ∃ β',AE X G β' (Be e.bx S) a w'∧IZ β' (AU (Be e.bx S)) (OS β' X (Be e.bx S)) w' a.tmps v e.av∧e.av.guards = []
def Cw (P:Program) (X:Cx) (G:Nat→Prop) (S:AS) (a:Act) (w:World) (o:Oper) (e:F3):Prop :=
 (∃ v w',(execOp a.eval o).run P w = .ok (.value v) w'∧Qo X G S a e v w') ∨
 (∃ w',(execOp a.eval o).run P w = .ok .skip w'∧Qo X G S a e undef w') ∨
 (∃ f args,(execOp a.eval o).run P w = .ok (.enter f args) w∧Calls P f args w fun e' w'=>∃ v,e' = .returned v∧Qo X G S a e v w')
theorem AM (h:AE X G β S a w) {v:Value} {x:AV} (hrun:(execOp a.eval o).run P w = .ok (.value v) w)
 (hr:IZ β (AU S) (OS β X S) w a.tmps v x) (hg:x.guards = []):Cw P X G S a w o ⟨x,[],[]⟩ :=
 .inl ⟨v,w,hrun,β,h,hr,hg⟩
theorem Lc {O:Nat→Prop} {tm:Array Value} {v:Value} {r:RV} (h:MP β O S w v r):IZ β (AU S) O w tm v (back r)∧(back r).guards = []:=by
 cases r with
 | any=>exact ⟨trivial,rfl⟩
 | bot=>exact h.elim
 | d x=>exact ⟨h,rfl⟩
 | lim sz xs=>exact ⟨h,rfl⟩
 | vptr id n o cs=>obtain ⟨_,h2,h3⟩:=h; exact ⟨⟨Nat.le_of_eq h2.symm,fun _=>h3⟩,rfl⟩
 | row id n sz e xs=>obtain ⟨_,h2,h3⟩:=h; exact ⟨⟨Nat.le_of_eq h2.symm,fun _=>h3⟩,rfl⟩
 | eptr id n sz e xs i o=>obtain ⟨_,h2,h3⟩:=h; exact ⟨⟨Nat.le_of_eq h2.symm,fun _=>h3⟩,rfl⟩
 | tup xs=>exact ⟨h,rfl⟩
 | cagg xs=>exact ⟨h,rfl⟩
 | cfun f xs=>exact ⟨h,rfl⟩
 | clo f xs k id n rid rn=>exact ⟨h.1,rfl⟩
 | mp id n es=>obtain ⟨_,h2,h3⟩:=h; exact ⟨⟨Nat.le_of_eq h2.symm,fun _=>h3⟩,rfl⟩
theorem Ek {O:Nat→Prop} {v:Value} {b:Bool} (h:AB O w v (.bool b)):v = .bool b:=by cases h; rfl
theorem BR {O:Nat→Prop} {v:Value} {k:IntKind} {n:Int} (h:AB O w v (.int k n)):v = .int k n:=by cases h; rfl
theorem IU {O:Nat→Prop} {v:Value} {s:ByteArray} (h:AB O w v (.str s)):v = .string s:=by cases h; rfl
theorem SI {O:Nat→Prop} {v:Value} {x:D} (h:AB O w v x) (h1:x.one = true):v.oneCell' = true:=by cases h <;> first | rfl | (simp [D.one] at h1)
theorem W3 (h:AE X G β S a w) {g:Option (Nat × Bool)} (hg:BB g a) {x:Operand} (ho:o.op = .move x∨o.op = .assign x) :
 Cw P X G S a w o ⟨back (ρOf S g x),[],[]⟩:=by
 have hb:=Lc (tm:=a.tmps) (ρ_sound h hg x)
 refine AM h (v:=a.eval x) ?_ hb.1 hb.2
 rcases ho with ho | ho <;> simp [execOp,ho]
theorem aY (h:AE X G β S a w) {g:Option (Nat × Bool)} (hg:BB g a) {t:Nat} {x y:Operand} (ho:o.op = .pick (.tmp t) x y) {c b1 b2:Bool}
 (hc:ρOf S g (.tmp t) = .d (.bool c)) (hx:ρOf S (some (t,true)) x = .d (.bool b1)) (hy:ρOf S (some (t,false)) y = .d (.bool b2)) :
 Cw P X G S a w o ⟨.d (.bool (bif c then b1 else b2)),[],[]⟩:=by
 have h1:=ρ_sound h hg (.tmp t)
 rw [hc] at h1
 have e1:=Ek h1
 have ht:a.tmps[t]? = some (.bool c):=by
  simp only [Act.eval,Array.getD] at e1
  split at e1
  ·rename_i hlt; rw [← e1]; simp [hlt]
  ·simp [undef] at e1
 have hrun:(execOp a.eval o).run P w = .ok (.value (if c then a.eval x else a.eval y)) w:=by simp [execOp,ho,e1,asBool]
 cases c with
 | true =>
   have h2:=ρ_sound h (g:=some (t,true)) (fun t' w' e=>by cases e; exact ht) x
   rw [hx] at h2
   exact AM h (v:=a.eval x) (by rw [hrun]; rfl) h2 rfl
 | false =>
   have h2:=ρ_sound h (g:=some (t,false)) (fun t' w' e=>by cases e; exact ht) y
   rw [hy] at h2
   exact AM h (v:=a.eval y) (by rw [hrun]; rfl) h2 rfl
theorem Z2 (h:AE X G β S a w) {g:Option (Nat × Bool)} (hg:BB g a) {t:Nat} {x y:Operand} (ho:o.op = .pick (.tmp t) x y) {c b2:Bool}
 (hc:ρOf S g (.tmp t) = .d (.bool c)) (hx:ρOf S (some (t,true)) x = .bot) (hy:ρOf S (some (t,false)) y = .d (.bool b2)) :
 Cw P X G S a w o ⟨.d (.bool b2),[],[]⟩:=by
 have h1:=ρ_sound h hg (.tmp t)
 rw [hc] at h1
 have e1:=Ek h1
 have ht:a.tmps[t]? = some (.bool c):=by
  simp only [Act.eval,Array.getD] at e1
  split at e1
  ·rename_i hlt; rw [← e1]; simp [hlt]
  ·simp [undef] at e1
 have hrun:(execOp a.eval o).run P w = .ok (.value (if c then a.eval x else a.eval y)) w:=by simp [execOp,ho,e1,asBool]
 cases c with
 | true =>
   have h2:=ρ_sound h (g:=some (t,true)) (fun t' w' e=>by cases e; exact ht) x
   rw [hx] at h2
   exact h2.elim
 | false =>
   have h2:=ρ_sound h (g:=some (t,false)) (fun t' w' e=>by cases e; exact ht) y
   rw [hy] at h2
   exact AM h (v:=a.eval y) (by rw [hrun]; rfl) h2 rfl
theorem Z3 (h:AE X G β S a w) {g:Option (Nat × Bool)} (hg:BB g a) {t:Nat} {x y:Operand} (ho:o.op = .pick (.tmp t) x y) {c b1:Bool}
 (hc:ρOf S g (.tmp t) = .d (.bool c)) (hx:ρOf S (some (t,true)) x = .d (.bool b1)) (hy:ρOf S (some (t,false)) y = .bot) :
 Cw P X G S a w o ⟨.d (.bool b1),[],[]⟩:=by
 have h1:=ρ_sound h hg (.tmp t)
 rw [hc] at h1
 have e1:=Ek h1
 have ht:a.tmps[t]? = some (.bool c):=by
  simp only [Act.eval,Array.getD] at e1
  split at e1
  ·rename_i hlt; rw [← e1]; simp [hlt]
  ·simp [undef] at e1
 have hrun:(execOp a.eval o).run P w = .ok (.value (if c then a.eval x else a.eval y)) w:=by simp [execOp,ho,e1,asBool]
 cases c with
 | true =>
   have h2:=ρ_sound h (g:=some (t,true)) (fun t' w' e=>by cases e; exact ht) x
   rw [hx] at h2
   exact AM h (v:=a.eval x) (by rw [hrun]; rfl) h2 rfl
 | false =>
   have h2:=ρ_sound h (g:=some (t,false)) (fun t' w' e=>by cases e; exact ht) y
   rw [hy] at h2
   exact h2.elim
theorem F4 (b off j:Nat):(⟨b,off,none⟩:Addr).add j = ⟨b,off + j,none⟩:=by unfold Addr.add; split <;> simp_all
theorem RF {R:Nat→Value→D→Prop}:∀ (cs:List D) (n:Nat),(∀ (j:Nat) y,cs[j]? = some y→∃ c,R (n + j) c y) →
 ∃ vs:List Value,vs.length = cs.length∧∀ (j:Nat) v y,vs[j]? = some v→cs[j]? = some y→R (n + j) v y
 | [],n,_=>⟨[],rfl,fun j v y h _=>by simp at h⟩
 | c :: r,n,h=>by
   obtain ⟨v,hv⟩:=h 0 c (by simp)
   obtain ⟨vs,hl,hr⟩:=RF r (n + 1) (fun j y hy=>by have:=h (j + 1) y (by simpa using hy); rwa [show n + (j + 1) = n + 1 + j by omega] at this)
   refine ⟨v :: vs,by simp [hl],fun j u y hu hy=>?_⟩
   cases j with
   | zero=>simp at hu hy; subst hu; subst hy; exact hv
   | succ j=>have:=hr j u y (by simpa using hu) (by simpa using hy); rwa [show n + (j + 1) = n + 1 + j by omega]
theorem MQ {t:TypeId} (h:KZ P t = some true):(isAgg t).run P w = .ok true w:=by
 unfold KZ at h
 unfold isAgg
 split at h <;> simp_all [run_underlying]
theorem La {t:TypeId} (h:KZ P t = some false):(isAgg t).run P w = .ok false w:=by
 unfold KZ at h
 unfold isAgg
 split at h
 ·simp at h
 ·simp at h
 ·rename_i d hd _ _ hu
  simp only [Sem.run_bind,run_underlying hu,Result.andThen_ok]
  rfl
 ·simp at h
theorem Tc {O:Nat→Prop} {t:TypeId} {cs:List D} {b off:Nat} {K:D→Prop} (hy:YC P t cs K)
 (hc:∀ (j:Nat) y,cs[j]? = some y→∃ c,w.cell? ⟨b,off + j,none⟩ = some c∧AB O w c y∧y.one = true) :
 ∃ x,K x∧∃ v,(loadVar t ⟨b,off,none⟩).run P w = .ok v w∧AB O w v x:=by
 unfold YC at hy
 split at hy
 ·rename_i hagg
  split at hy
  ·rename_i i hi
   rw [B5] at hy
   split at hy
   ·rename_i hlen
    obtain ⟨vs,hl,hr⟩:=RF (R:=fun j c y=>w.cell? ⟨b,off + j,none⟩ = some c∧AB O w c y∧y.one = true) (cs.take i.size) 0
     (fun j y hy=>by
      rw [Nat.zero_add]
      refine hc j y ?_
      rw [List.getElem?_take] at hy
      split at hy
      ·exact hy
      ·cases hy)
    have hget:∀ j,j < vs.length→∃ y,(cs.take i.size)[j]? = some y:=fun j hj=>⟨_,List.getElem?_eq_getElem (by omega)⟩
    refine ⟨_,hy,.agg vs.toArray,?_,?_⟩
    ·have hld:=run_loadCells_list (P:=P) w ⟨b,off,none⟩ vs (fun j v hv=>by
      have hj:j < vs.length:=by
       rcases Nat.lt_or_ge j vs.length with h | h
       ·exact h
       ·simp [List.getElem?_eq_none h] at hv
      obtain ⟨y,hy⟩:=hget j hj
      have:=(hr j v y hv hy).1
      rw [Nat.zero_add] at this
      rw [F4]; exact this)
     rw [hl,hlen] at hld
     simp [loadVar,MQ hagg,sizeOf,typeInfo,hi,hld]
    ·refine .agg _ _ (by simpa using hl) ?_ ?_
     ·intro x hx
      obtain ⟨j,hj⟩:=List.mem_iff_getElem?.1 hx
      have hjl:j < vs.length:=by
       rcases Nat.lt_or_ge j (cs.take i.size).length with h | h
       ·omega
       ·simp [List.getElem?_eq_none h] at hj
      exact (hr j _ x (List.getElem?_eq_getElem hjl) hj).2.2
     ·intro j v x hv hx
      exact (hr j v x (by simpa using hv) hx).2.1
   ·exact hy.elim
  ·exact hy.elim
 ·rename_i hagg
  split at hy
  ·rename_i y r
   obtain ⟨c,h1,h2,_⟩:=hc 0 y (by simp)
   refine ⟨y,hy,c,?_,h2⟩
   rw [Nat.add_zero] at h1
   simp [loadVar,La hagg,run_load,h1]
  ·exact hy.elim
 ·exact hy.elim
theorem NV {t:TypeId} {x:Operand} {b off:Nat} {v:Value} (ho:o.op = .load t x) (hx:a.eval x = .pointer (some ⟨b,off,none⟩))
 (hl:(loadVar t ⟨b,off,none⟩).run P w = .ok v w):(execOp a.eval o).run P w = .ok (.value v) w:=by
 simp [execOp,ho,Instr.loadAt,hx,Instr.sureAddr,hl]
theorem Vs {O:Nat→Prop} {v:Value} {cs:List D} (h:AB O w v (.ptr cs)):∃ b off,v = .pointer (some ⟨b,off,none⟩)∧∀ (j:Nat) y,cs[j]? = some y→∃ c,w.cell? ⟨b,off + j,none⟩ = some c∧AB O w c y∧y.one = true:=by
 cases h with
 | ptr b off _ c hb hO h1 hcell hr=>exact ⟨b,off,rfl,fun j y hy=>⟨c j,hcell j y hy,hr j y hy,h1 y (List.mem_of_getElem? hy)⟩⟩
theorem Yr (h:AE X G β S a w) {t:TypeId} {x:Operand} (ho:o.op = .load t x) {cs:List D} (hr:AB (OS β X S) w (a.eval x) (.ptr cs))
 {K:F3→Prop} (hy:YC P t cs fun x=>K ⟨.d x,[],[]⟩):∃ e,K e∧Cw P X G S a w o e:=by
 obtain ⟨b,off,hv,hc⟩:=Vs hr
 obtain ⟨x',hK,v,hl,hx'⟩:=Tc hy hc
 exact ⟨_,hK,AM h (NV ho hv hl) hx' rfl⟩
theorem KX (h:AE X G β S a w) {id:Nat} {cs:List C} (hb:(Av S id).box = .var cs) {b:Nat} (hβ:β id = .pointer (some ⟨b,0,none⟩)) :
 ∃ vals T,w.heap[b]? = some (.cells vals T (0,0))∧vals.size = cs.length∧∀ (j:Nat) v c,vals[j]? = some v→cs[j]? = some c→BK β (AU S) (OS β X S) w v c:=by
 have hbx:=h.boxes id
 rw [hb] at hbx
 obtain ⟨b',vals,T,h1,h3,h4,h5⟩:=hbx
 rw [hβ] at h1
 simp at h1
 subst h1
 exact ⟨vals,T,h3,h4,h5⟩
theorem Rz (h:AE X G β S a w):∀ {l:List C},P8 (σOf S) l = true→∀ c∈l,∀ {v:Value},BK β (AU S) (OS β X S) w v c→v.oneCell' = true
 | [],_,_,hc,_,_=>by cases hc
 | .d x :: r,hr,c,hc,v,hv=>by
   rcases List.mem_cons.1 hc with rfl | hc
   ·exact SI hv.1 hv.2
   ·exact Rz h (l:=r) hr c hc hv
 | .sl id n :: r,hr,c,hc,v,hv=>by
   simp only [P8] at hr
   split at hr
   ·rename_i id' n' sz' e' xs' hs
    rcases List.mem_cons.1 hc with rfl | hc
    ·have hrr:=σ_sound h hv
     rw [hs] at hrr
     obtain ⟨hb,_,hvb⟩:=hrr
     have hbx:=h.boxes id'
     rw [hb] at hbx
     obtain ⟨_,_,vals,hro,_⟩:=hbx
     rw [hvb]
     rcases hro with ⟨_,⟨e1,_⟩ | ⟨_,_,_,e1,_⟩⟩ | ⟨_,_,_,e1⟩ <;> (rw [e1]; rfl)
    ·exact Rz h (l:=r) hr c hc hv
   ·cases hr
 | .own _ _ _ :: _,hr,_,_,_,_=>by cases hr
theorem Yt (h:AE X G β S a w) {t:TypeId} {x:Operand} (ho:o.op = .load t x) {id n off:Nat} {cs:List C} (hr:MP β (OS β X S) S w (a.eval x) (.vptr id n off cs))
 {K:F3→Prop} (hy:dh P (σOf S) t (cs.drop off) K):∃ e,K e∧Cw P X G S a w o e:=by
 obtain ⟨hb,_,b,hβ,hv⟩:=hr
 obtain ⟨vals,T,h3,h4,h5⟩:=KX h hb hβ
 unfold dh at hy
 split at hy
 ·rename_i hagg
  split at hy
  ·rename_i i hi
   rw [B5] at hy
   obtain ⟨hlen,hy⟩:=Au hy
   have hcell:∀ (j:Nat) v c,(((vals.toList).drop off).take i.size)[j]? = some v→((cs.drop off).take i.size)[j]? = some c→BK β (AU S) (OS β X S) w v c:=by
    intro j v c hv hc
    rw [List.getElem?_take] at hv hc
    split at hv
    ·rename_i hj
     rw [if_pos hj] at hc
     rw [List.getElem?_drop] at hv hc
     exact h5 _ v c (by simpa using hv) hc
    ·cases hv
   have hvl:(((vals.toList).drop off).take i.size).length = ((cs.drop off).take i.size).length:=by simp [h4]
   have hrun:(execOp a.eval o).run P w = .ok (.value (.agg (((vals.toList).drop off).take i.size).toArray)) w:=by
    refine NV ho hv ?_
    have hld:=run_loadCells_list (P:=P) w ⟨b,off,none⟩ (((vals.toList).drop off).take i.size) (fun j v hv=>by
     rw [List.getElem?_take] at hv
     split at hv
     ·rw [List.getElem?_drop] at hv
      rw [F4]
      simp [World.cell?,h3]
      simpa using hv
     ·cases hv)
    rw [hvl,hlen] at hld
    simp [loadVar,MQ hagg,sizeOf,typeInfo,hi,hld]
   have data:(CB (σOf S) ((cs.drop off).take i.size) fun l b=>K ⟨.d (.agg l),b,[]⟩)→∃ e,K e∧Cw P X G S a w o e:=by
    intro hy
    obtain ⟨l,bx,hK,hF,hfr,hl,hc,hh⟩:=Im h hy
    have hrep:=hh (((vals.toList).drop off).take i.size) hvl hcell
    obtain ⟨k1,k2,k3⟩:=hF.run h
    have hL:=hrep.now h hF
    refine ⟨_,hK,.inl ⟨_,w,hrun,β,k1,?_,rfl⟩⟩
    refine .agg _ _ (by simpa using hL.1) (fun y hy=>?_) (fun j v y hv hy=>(hL.2 j v y (by simpa using hv) hy).1)
    obtain ⟨j,hj⟩:=List.mem_iff_getElem?.1 hy
    have hlt:j < (((vals.toList).drop off).take i.size).length:=by rw [hL.1]; exact AD hj
    exact (hL.2 j _ y (List.getElem?_eq_getElem hlt) hj).2
   split at hy
   ·exact data hy
   ·rcases hy.go with hy | hy
    ·exact data hy
    ·obtain ⟨hrows,hK⟩:=Au hy
     refine ⟨_,hK,.inl ⟨_,w,hrun,β,h,⟨_,rfl,by simpa using hvl,fun j u c hu hc=>?_⟩,rfl⟩⟩
     have hcc:=hcell j u c (by simpa using hu) hc
     exact ⟨hcc,Rz h hrows c (List.mem_of_getElem? hc) hcc⟩
  ·exact hy.elim
 ·rename_i hagg
  have key:∀ c r,cs.drop off = c :: r→∃ v,(execOp a.eval o).run P w = .ok (.value v) w∧BK β (AU S) (OS β X S) w v c:=by
   intro c r hd
   have hc:cs[off]? = some c:=by
    have:(cs.drop off)[0]? = some c:=by rw [hd]; rfl
    simpa using this
   have hlt:off < vals.size:=by rw [h4]; exact AD hc
   have hv':vals[off]? = some vals[off]:=by simp [hlt]
   refine ⟨vals[off],NV ho hv ?_,h5 off _ c hv' hc⟩
   simp [loadVar,La hagg,run_load,World.cell?,h3,hlt]
  split at hy
  ·rename_i y r hd
   obtain ⟨v,h6,h7⟩:=key _ _ hd
   exact ⟨_,hy,AM h h6 h7.1 rfl⟩
  ·rename_i id' n' r hd
   obtain ⟨v,h6,h7⟩:=key _ _ hd
   exact ⟨_,hy,AM h h6 h7 rfl⟩
  ·exact hy.elim
 ·exact hy.elim
theorem cP (h:AE X G β S a w) {id sz:Nat} {e:TypeId} {xs:List D} (hb:(Av S id).box = .row sz e xs) {b m cap:Nat} (hβ:β id = .slice (some ⟨b,0,none⟩) m cap) {i:Nat} {x:D}
 (hx:xs[i]? = some x) {j:Nat} {y:D} (hy:x.cells[j]? = some y):∃ c,w.cell? ⟨b,i * sz + j,none⟩ = some c∧AB (OS β X S) w c y∧y.one = true:=by
 have hbx:=h.boxes id
 rw [hb] at hbx
 obtain ⟨h1,h2,vals,h3,h4⟩:=hbx
 have hpos:0 < xs.length:=by cases xs <;> simp at hx ⊢
 rcases h3 with ⟨hlen,⟨hv,h0⟩ | ⟨g,cap',cur,hv,hbg,hh,hn,hm,hcs,ht⟩⟩ | ⟨h0,_⟩
 ·omega
 ·rw [hβ] at hv
  simp at hv
  obtain ⟨rfl,rfl,rfl⟩:=hv
  have hf:=Nh xs h2 i x j y hx hy
  have hlt:i * sz + j < vals.length:=by rw [h4.1]; exact AD hf
  have hu:vals[i * sz + j]? = some vals[i * sz + j]:=List.getElem?_eq_getElem hlt
  refine ⟨vals[i * sz + j],?_,h4.2 _ _ _ hu hf⟩
  rw [← hu,← ht,List.getElem?_take_of_lt (by rw [← hlen]; exact hlt)]
  simp [World.cell?,hh]
 ·omega
theorem Ys (h:AE X G β S a w) {t:TypeId} {x:Operand} (ho:o.op = .load t x) {id n sz i off:Nat} {e:TypeId} {xs:List D} (hr:MP β (OS β X S) S w (a.eval x) (.eptr id n sz e xs i off))
 {K:F3→Prop} (hy:At xs i fun x=>YC P t (x.cells.drop off) fun x=>K ⟨.d x,[],[]⟩):∃ e,K e∧Cw P X G S a w o e:=by
 obtain ⟨hb,_,b,m,cap,hβ,hv⟩:=hr
 obtain ⟨_,y,hy1,hy⟩:=hy.go
 simp only [Int.toNat_natCast] at hy1
 obtain ⟨x',hK,v,hl,hx'⟩:=Tc (O:=OS β X S) (w:=w) (b:=b) (off:=i * sz + off) hy (fun j y' hy'=>by
  simp only [List.getElem?_drop] at hy'
  have:=cP h hb hβ hy1 hy'
  rwa [← Nat.add_assoc] at this)
 exact ⟨_,hK,AM h (NV ho hv hl) hx' rfl⟩
theorem X5 {t:TypeId} (h:ZI P t = true):P.underlying t = some .bool:=by
 unfold ZI at h
 split at h
 ·assumption
 ·cases h
def D.sv:D→Value
 | .bool b=>.bool b
 | .int k n=>.int k n
 | .str s=>.string s
 | _=>undef
theorem WV {α:Type} {l:List α} {n:Nat} {x:α} {r:List α} (h:l.take n = x :: r):l = x :: l.drop 1:=by
 cases l with
 | nil=>simp at h
 | cons y q=>cases n with
   | zero=>simp at h
   | succ n=>simp at h; simp [h.1]
def Ii (O:Nat→Prop) (w:World) (vs:Array Value) (off:Nat) (xs:List D):Prop:=∀ (j:Nat) y,xs[j]? = some y→∃ v,vs[off + j]? = some v∧AB O w v y
theorem Ii.drop {O:Nat→Prop} {vs:Array Value} {off:Nat} {xs:List D} (h:Ii O w vs off xs) (n:Nat):Ii O w vs (off + n) (xs.drop n):=by
 intro j y hy
 rw [List.getElem?_drop] at hy
 have:=h (n + j) y hy
 rwa [← Nat.add_assoc] at this
theorem Zb {t:TypeId} {vs:Array Value} {off:Nat} {xs:List D} {O:Nat→Prop} (h:Ii O w vs off xs) (hs:(P.info? t).isSome = true) (hl:AF P t≤xs.length) :
 (KZ P t = some true→(part t vs off).run P w = .ok (.agg (vs.extract off (off + AF P t))) w)∧(KZ P t = some false→∀ y r,xs = y :: r→∃ v,(part t vs off).run P w = .ok v w∧AB O w v y):=by
 obtain ⟨i,hi⟩:=Option.isSome_iff_exists.1 hs
 refine ⟨fun ha=>?_,fun ha y r hx=>?_⟩
 ·simp [part,MQ ha,sizeOf,typeInfo,hi,AF]
 ·obtain ⟨v,h1,h2⟩:=h 0 y (by rw [hx]; rfl)
  rw [Nat.add_zero] at h1
  exact ⟨v,by simp [part,La ha,h1],h2⟩
theorem Ii.extract {O:Nat→Prop} {vs:Array Value} {off n:Nat} {xs:List D} (h:Ii O w vs off xs):Ii O w (vs.extract off (off + n)) 0 (xs.take n):=by
 intro j y hy
 rw [List.getElem?_take] at hy
 split at hy
 ·rename_i hj
  obtain ⟨v,h1,h2⟩:=h j y hy
  refine ⟨v,?_,h2⟩
  rw [Nat.zero_add,Array.getElem?_extract,if_pos]
  ·exact h1
  ·have:=En h1; omega
 ·cases hy
theorem cj (n:Nat) {t:TypeId} {xs ys:List D} {K:Bool→Prop} (h:Yw P n t xs ys K):KZ P t≠none:=by
 cases n with
 | zero=>exact h.elim
 | succ n =>
   unfold Yw at h
   unfold KZ
   split at h <;> simp_all
theorem e8 (n:Nat) {t:TypeId} {xs ys:List D} {K:Bool→Prop} (ha:KZ P t = some false) (h:Yw P n t xs ys K):∃ x r y q,xs = x :: r∧ys = y :: q:=by
 cases n with
 | zero=>exact h.elim
 | succ n =>
   unfold Yw at h
   split at h
   ·split at h
    ·exact ⟨_,_,_,_,rfl,rfl⟩
    ·exact h.elim
   ·split at h
    ·exact ⟨_,_,_,_,rfl,rfl⟩
    ·exact h.elim
   ·split at h
    ·exact ⟨_,_,_,_,rfl,rfl⟩
    ·exact h.elim
   ·rename_i fs hu; unfold KZ at ha; rw [hu] at ha; simp at ha
   ·exact h.elim
theorem SZ {O:Nat→Prop}:∀ (n m:Nat),n < m→∀ {t:TypeId} {xs ys:List D} {vs us:Array Value} {K:Bool→Prop},Yw P n t xs ys K →
 (KZ P t = some true→Ii O w vs 0 xs→Ii O w us 0 ys→∃ b,K b∧(Op.equalIn m t (.agg vs) (.agg us)).run P w = .ok b w) ∧
 (KZ P t = some false→∀ x y r q v u,xs = x :: r→ys = y :: q→AB O w v x→AB O w u y→∃ b,K b∧(Op.equalIn m t v u).run P w = .ok b w)
 | 0,_,_,t,xs,ys,vs,us,K,h=>h.elim
 | n + 1,0,hm,t,xs,ys,vs,us,K,h=>by omega
 | n + 1,m + 1,hm,t,xs,ys,vs,us,K,h=>by
   unfold Yw at h
   split at h
   ·rename_i k hu
    refine ⟨fun ha=>by unfold KZ at ha; rw [hu] at ha; simp at ha,fun _ x y r q v u hx hy hv hu'=>?_⟩
    subst hx; subst hy
    split at h
    ·rename_i k1 a1 _ k2 b1 _ e1 e2
     simp at e1 e2
     obtain ⟨rfl,_⟩:=e1
     obtain ⟨rfl,_⟩:=e2
     obtain ⟨hkk,h6⟩:=Au h
     subst hkk
     rw [BR hv,BR hu']
     exact ⟨_,h6,run_equalIn_int w m t _ _ _ _ hu⟩
    ·exact h.elim
   ·rename_i hu
    refine ⟨fun ha=>by unfold KZ at ha; rw [hu] at ha; simp at ha,fun _ x y r q v u hx hy hv hu'=>?_⟩
    subst hx; subst hy
    split at h
    ·rename_i a1 _ b1 _ e1 e2
     simp at e1 e2
     obtain ⟨rfl,_⟩:=e1
     obtain ⟨rfl,_⟩:=e2
     rw [Ek hv,Ek hu']
     exact ⟨_,h,run_equalIn_bool' w m t _ _ hu⟩
    ·exact h.elim
   ·rename_i hu
    refine ⟨fun ha=>by unfold KZ at ha; rw [hu] at ha; simp at ha,fun _ x y r q v u hx hy hv hu'=>?_⟩
    subst hx; subst hy
    split at h
    ·rename_i a1 _ b1 _ e1 e2
     simp at e1 e2
     obtain ⟨rfl,_⟩:=e1
     obtain ⟨rfl,_⟩:=e2
     rw [IU hv,IU hu']
     exact ⟨_,h,run_equalIn_string w m t _ _ hu⟩
    ·exact h.elim
   ·rename_i fs hu
    refine ⟨fun _ hx hy=>?_,fun ha=>by unfold KZ at ha; rw [hu] at ha; simp at ha⟩
    obtain ⟨hok,h⟩:=h
    have hp:P.stoodInHeld t = false∧∀ f∈fs.toList,f.name ≠ "_"∧(P.info? f.type).isSome = true∧f.offset + AF P f.type≤xs.length∧f.offset + AF P f.type≤ys.length:=by
     simp only [fl,Bool.and_eq_true,Bool.not_eq_true',List.all_eq_true,decide_eq_true_eq,beq_eq_false_iff_ne] at hok
     exact hok
    ·have hf:P.fieldsOf t = fs:=by simp [Program.fieldsOf,hu]
     have key:∀ (l:List Field) (K:Bool→Prop),(∀ f∈l,f.name ≠ "_"∧(P.info? f.type).isSome = true∧f.offset + AF P f.type≤xs.length∧f.offset + AF P f.type≤ys.length)→List.rec (motive:=fun _=>(Bool→Prop)→Prop) (fun K=>K true)
      (fun f _ ih K=>Yw P n f.type ((xs.drop f.offset).take (AF P f.type)) ((ys.drop f.offset).take (AF P f.type)) fun a=>ih fun b=>K (a && b)) l K →
      ∃ b,K b∧(Op.eqFields m vs us l).run P w = .ok b w:=by
      intro l
      induction l with
      | nil=>intro K _ h; exact ⟨_,h,rfl⟩
      | cons f r ih =>
        intro K hl h
        obtain ⟨h1,h2,h3,h4⟩:=hl f (by simp)
        have h5:=h
        have hx':=hx.drop f.offset
        have hy':=hy.drop f.offset
        rw [Nat.zero_add] at hx' hy'
        have px:=Zb (P:=P) hx' h2 (by simp; omega)
        have py:=Zb (P:=P) hy' h2 (by simp; omega)
        have fld:∃ c pv pu,(part f.type vs f.offset).run P w = .ok pv w∧(part f.type us f.offset).run P w = .ok pu w∧(Op.equalIn m f.type pv pu).run P w = .ok c w∧List.rec (motive:=fun _=>(Bool→Prop)→Prop) (fun K=>K true)
         (fun f _ ih K=>Yw P n f.type ((xs.drop f.offset).take (AF P f.type)) ((ys.drop f.offset).take (AF P f.type)) fun a=>ih fun b=>K (a && b)) r fun b=>K (c && b):=by
         cases ha:KZ P f.type with
         | none =>
           exact absurd ha (cj n h5)
         | some ag =>
           cases ag with
           | true =>
             obtain ⟨c,hc,hr⟩:=(SZ n m (by omega) (vs:=vs.extract f.offset (f.offset + AF P f.type)) (us:=us.extract f.offset (f.offset + AF P f.type)) h5).1 ha hx'.extract hy'.extract
             exact ⟨c,_,_,px.1 ha,py.1 ha,hr,hc⟩
           | false =>
             obtain ⟨x0,r0,y0,q0,hx0,hy0⟩:=e8 n ha h5
             obtain ⟨pv,e1,e2⟩:=px.2 ha x0 _ (WV hx0)
             obtain ⟨pu,e3,e4⟩:=py.2 ha y0 _ (WV hy0)
             obtain ⟨c,hc,hr⟩:=(SZ n m (by omega) (vs:=#[]) (us:=#[]) h5).2 ha x0 y0 r0 q0 pv pu hx0 hy0 e2 e4
             exact ⟨c,pv,pu,e1,e3,hr,hc⟩
        obtain ⟨c,pv,pu,e1,e2,e3,h6⟩:=fld
        obtain ⟨b,hb1,hb2⟩:=ih _ (fun f hf=>hl f (by simp [hf])) h6
        refine ⟨c && b,hb1,?_⟩
        simp only [Op.eqFields]
        rw [if_pos h1]
        simp only [Sem.run_bind,e1,e2,e3,Result.andThen_ok]
        cases c with
        | true=>simpa using hb2
        | false=>simp
     obtain ⟨b,hb1,hb2⟩:=key _ _ hp.2 h
     refine ⟨b,hb1,?_⟩
     rw [run_equalIn_struct w m t vs us (by rw [hf]; exact hu) hp.1,hf]
     exact hb2
   ·exact h.elim
theorem ZY {op:BinOp} {T U:TypeId} {x y:Operand} (ho:o.op = .binOp op T x y U) {s t:ByteArray} (ex:a.eval x = .string s) (ey:a.eval y = .string t) {K:D→Prop} (hb:ZX op s t K) :
 ∃ z,K z∧(execOp a.eval o).run P w = .ok (.value z.sv) w∧(∀ O':Nat→Prop,∀ w':World,AB O' w' z.sv z):=by
 cases op <;> simp only [ZX] at hb <;> first
  | exact hb.elim
  | exact ⟨_,hb,by simp [D.sv,execOp,ho,ex,ey,eqGuard,binOp,Op.stringOp],fun _ _=>.bool _⟩
  | (obtain ⟨h0,hb⟩:=hb
     refine ⟨_,hb,?_,fun _ _=>.str _⟩
     simp only [execOp,ho,ex,ey,eqGuard,Sem.run_bind,binOp]
     simp [D.sv,run_string_add_sum _ s t h0])
theorem Zt {op:BinOp} {T U:TypeId} {x y:Operand} (ho:o.op = .binOp op T x y U) {O:Nat→Prop} {p q:D} (hx:AB O w (a.eval x) p) (hy:AB O w (a.eval y) q)
 {K:D→Prop} (hb:Yh P T op p q K) :
 ∃ z,K z∧(execOp a.eval o).run P w = .ok (.value z.sv) w∧(∀ O':Nat→Prop,∀ w':World,AB O' w' z.sv z):=by
 cases p <;> cases q <;> simp only [Yh] at hb
 case bool.bool b1 b2 =>
  have ex:=Ek hx
  have ey:=Ek hy
  split at hb
  ·rename_i hB
   have hu:=X5 hB
   cases op <;> first
    | exact hb.elim
    | exact ⟨_,hb,by simp [D.sv,execOp,ho,ex,ey,eqGuard,binOp,Op.equal,Op.maxDepth,run_equalIn_bool' w 9999 T b1 b2 hu],fun _ _=>.bool _⟩
  ·exact hb.elim
 case int.int k m k' n =>
  have ex:=BR hx
  have ey:=BR hy
  have sh:op = .shl∨op = .shr∨(op≠.shl∧op≠.shr):=by cases op <;> simp
  rcases sh with rfl | rfl | ⟨hs1,hs2⟩
  ·simp only [Tp] at hb
   obtain ⟨h0,hb⟩:=hb
   have h0':¬ n < 0:=by omega
   exact ⟨_,hb,by simp [D.sv,execOp,ho,ex,ey,eqGuard,binOp,Op.shift,h0'],fun _ _=>.int _ _⟩
  ·simp only [Tp] at hb
   obtain ⟨h0,hb⟩:=hb
   have h0':¬ n < 0:=by omega
   exact ⟨_,hb,by simp [D.sv,execOp,ho,ex,ey,eqGuard,binOp,Op.shift,h0'],fun _ _=>.int _ _⟩
  ·have hb':if k = k' then Tz op k m n K else False:=by cases op <;> first | exact hb | exact absurd rfl hs1 | exact absurd rfl hs2
   clear hb
   obtain ⟨rfl,hb⟩:=Au hb'
   clear hb'
   cases op <;> simp only [Tz] at hb
   all_goals first
    | exact hb.elim
    | exact ⟨_,hb,by simp [D.sv,execOp,ho,ex,ey,eqGuard,binOp,Op.intArith,Op.intCmp,Op.intBits],fun _ _=>by first | exact .int _ _ | exact .bool _⟩
    | (obtain ⟨h0,hb⟩:=hb
       exact ⟨_,hb,by simp [D.sv,execOp,ho,ex,ey,eqGuard,binOp,Op.intDiv,h0],fun _ _=>.int _ _⟩)
 case str.str s t=>exact ZY ho (IU hx) (IU hy) hb
 case agg.agg xs ys =>
  obtain ⟨hgt,hb⟩:=hb
  ·generalize ex:a.eval x = vx at hx
   generalize ey:a.eval y = vy at hy
   cases hx with
   | agg vs _ hl h1 hr =>
     cases hy with
     | agg us _ hl' h1' hr' =>
       have cx:Ii O w vs 0 xs:=fun j z hz=>⟨vs[j]'(by rw [hl]; exact AD hz),by simp [show j < vs.size by rw [hl]; exact AD hz],hr j _ z (by simp [show j < vs.size by rw [hl]; exact AD hz]) hz⟩
       have cy:Ii O w us 0 ys:=fun j z hz=>⟨us[j]'(by rw [hl']; exact AD hz),by simp [show j < us.size by rw [hl']; exact AD hz],hr' j _ z (by simp [show j < us.size by rw [hl']; exact AD hz]) hz⟩
       have hga:(eqGuard op T x y (.agg vs) (.agg us)).run P w = .ok () w:=run_eqGuard_agg w op T x y vs us hgt.1
       have agg:∀ {K:Bool→Prop},Yw P 12 T xs ys K→∃ b,K b∧(Op.equalIn 10000 T (.agg vs) (.agg us)).run P w = .ok b w:=by
        intro K hb
        exact (SZ 12 10000 (by omega) hb).1 hgt.2 cx cy
       cases op <;> first | exact hb.elim | skip
       ·obtain ⟨b,hK,hr⟩:=agg hb
        refine ⟨_,hK,?_,fun _ _=>.bool _⟩
        simp only [execOp,ho,ex,ey,Sem.run_bind,hga,Result.andThen_ok,run_eql_struct,hr,Sem.run_pure,D.sv]
       ·obtain ⟨b,hK,hr⟩:=agg hb
        refine ⟨_,hK,?_,fun _ _=>.bool _⟩
        simp only [execOp,ho,ex,ey,Sem.run_bind,hga,Result.andThen_ok,run_neq_struct,hr,Sem.run_pure,D.sv]
theorem Zy (h:AE X G β S a w) {op:BinOp} {T U:TypeId} {x y:Operand} (ho:o.op = .binOp op T x y U) {p q:D} (hx:AB (OS β X S) w (a.eval x) p) (hy:AB (OS β X S) w (a.eval y) q)
 {K:F3→Prop} (hb:Yh P T op p q fun x=>K ⟨.d x,[],[]⟩):∃ e,K e∧Cw P X G S a w o e:=by
 obtain ⟨z,hK,hrun,hz⟩:=Zt ho hx hy hb
 exact ⟨_,hK,AM h hrun (hz _ _) rfl⟩
theorem aZ (h:AE X G β S a w) {op:UnOp} {T:TypeId} {x:Operand} (ho:o.op = .unOp op T x) {p:D} (hx:AB (OS β X S) w (a.eval x) p)
 {K:F3→Prop} (hb:eT op p fun x=>K ⟨.d x,[],[]⟩):∃ e,K e∧Cw P X G S a w o e:=by
 cases op <;> cases p <;> simp only [eT] at hb
 case not.bool b =>
  have ex:=Ek hx
  exact ⟨_,hb,AM h (v:=.bool !b) (by simp [execOp,ho,ex,Op.unary]) (.bool _) rfl⟩
 case neg.int k n =>
  have ex:=BR hx
  exact ⟨_,hb,AM h (v:=.int k (k.wrap (0 - n))) (by simp [execOp,ho,ex,Op.unary,Op.intArith]) (.int _ _) rfl⟩
 case xor.int k n =>
  have ex:=BR hx
  exact ⟨_,hb,AM h (v:=.int k (k.wrap (BitVec.ofInt k.bits (if k.signed then -1 else k.max) ^^^ BitVec.ofInt k.bits n).toNat)) (by simp [execOp,ho,ex,Op.unary,Op.intBits]) (.int _ _) rfl⟩
theorem Xp (h:AE X G β S a w) {s t:TypeId} {x:Operand} (ho:o.op = .convert s t x) {k k':IntKind} {n:Int} (ht:P.underlying t = some (.int k)) (hs:∃ d,P.underlying s = some d)
 (hx:AB (OS β X S) w (a.eval x) (.int k' n)):Cw P X G S a w o ⟨.d (.int k (k.wrap n)),[],[]⟩:=by
 have ex:=BR hx
 obtain ⟨d,hd⟩:=hs
 exact AM h (v:=.int k (k.wrap n)) (by simp [execOp,ho,ex,convert,run_underlying ht,run_underlying hd,Conv.intToInt]) (.int _ _) rfl
theorem MK {s:TypeId} {x:Operand} {f:Nat} (ho:o.op = .fieldAddr s x f) {fields:Array Field} (hu:P.underlying s = some (.struct fields)) {fd:Field} (hf:fields[f]? = some fd)
 (hz:0 < AF P fd.type) {b off:Nat} (hx:a.eval x = .pointer (some ⟨b,off,none⟩)):(execOp a.eval o).run P w = .ok (.value (.pointer (some ⟨b,off + fd.offset,none⟩))) w:=by
 unfold AF at hz
 split at hz
 ·rename_i i hi
  have:i.size≠0:=by omega
  simp [execOp,ho,Instr.fieldAt,run_underlying hu,hf,hx,Instr.sureAddr,fieldPlace,sizeOf,typeInfo,hi,this,F4]
 ·omega
theorem Zz (h:AE X G β S a w) {s:TypeId} {x:Operand} {f:Nat} (ho:o.op = .field s x f) {fields:Array Field} (hu:P.underlying s = some (.struct fields)) {fd:Field} (hf:fields[f]? = some fd)
 {cs:List D} (hx:AB (OS β X S) w (a.eval x) (.agg cs)) {K:F3→Prop} (hy:YC P fd.type (cs.drop fd.offset) fun x=>K ⟨.d x,[],[]⟩):∃ e,K e∧Cw P X G S a w o e:=by
 generalize hv:a.eval x = v at hx
 cases hx with
 | agg vs _ hl h1 hr =>
   unfold YC at hy
   have hget:∀ (j:Nat) y,(cs.drop fd.offset)[j]? = some y→∃ c,vs[fd.offset + j]? = some c∧AB (OS β X S) w c y:=by
    intro j y hy
    simp only [List.getElem?_drop] at hy
    have hlt:fd.offset + j < vs.size:=by
     rw [hl]
     rcases Nat.lt_or_ge (fd.offset + j) cs.length with h | h
     ·exact h
     ·simp [List.getElem?_eq_none h] at hy
    exact ⟨vs[fd.offset + j],by simp [hlt],hr _ _ _ (by simp [hlt]) hy⟩
   split at hy
   ·rename_i hagg
    split at hy
    ·rename_i i hi
     rw [B5] at hy
     obtain ⟨hlen,hy⟩:=Au hy
     have hlen':fd.offset + i.size≤cs.length∨i.size = 0:=by simp at hlen; omega
     refine ⟨_,hy,AM h (v:=.agg (vs.extract fd.offset (fd.offset + i.size))) ?_ ?_ rfl⟩
     ·simp [execOp,ho,Instr.field,run_underlying hu,hf,hv,asAgg,part,MQ hagg,sizeOf,typeInfo,hi]
     ·refine .agg _ _ (by simp at hlen ⊢; omega) (fun y hy=>h1 y (List.mem_of_mem_drop (List.mem_of_mem_take hy))) (fun j u y hu hy=>?_)
      rw [List.getElem?_take] at hy
      split at hy
      ·obtain ⟨c,hc1,hc2⟩:=hget j y hy
       rw [Array.getElem?_extract] at hu
       split at hu
       ·rw [hc1] at hu; cases hu; exact hc2
       ·cases hu
      ·cases hy
    ·exact hy.elim
   ·rename_i hagg
    split at hy
    ·rename_i y r hd
     obtain ⟨c,hc1,hc2⟩:=hget 0 y (by rw [hd]; rfl)
     rw [Nat.add_zero] at hc1
     refine ⟨_,hy,AM h (v:=c) ?_ hc2 rfl⟩
     simp [execOp,ho,Instr.field,run_underlying hu,hf,hv,asAgg,part,La hagg,hc1]
    ·exact hy.elim
   ·exact hy.elim
theorem Jy {t:TypeId} (h:0 < AF P t):(sizeOf t).run P w = .ok (AF P t) w:=by
 unfold AF at h ⊢
 split at h
 ·rename_i i hi
  simp [sizeOf,typeInfo,hi]
 ·omega
theorem RS (h:AE X G β S a w) {t e:TypeId} {x ix:Operand} (ho:o.op = .indexAddr t x ix) (hu:P.underlying t = some (.slice e)) {sz:Nat} (hsz:sz = AF P e) (hpos:0 < sz) {k:IntKind} {i:Int}
 (hi:AB (OS β X S) w (a.eval ix) (.int k i)) {xs:List D} (hx:AB (OS β X S) w (a.eval x) (.list sz xs)) {K:F3→Prop} (hy:At xs i fun x=>Ci x.cells fun l=>K ⟨.d (.ptr l),[],[]⟩) :
 ∃ e,K e∧Cw P X G S a w o e:=by
 have ei:=BR hi
 obtain ⟨h0,y,hy1,hy⟩:=hy.go
 rw [B5] at hy
 have hlt:=AD hy1
 generalize hv:a.eval x = v at hx
 cases hx with
 | emp=>simp at hlt
 | list b off cap _ _ c hne hb hO hcap hszs h1 hcell hrep =>
   refine ⟨_,hy,?_⟩
   have hs:(sizeOf e).run P w = .ok sz w:=by rw [hsz] at hpos ⊢; exact Jy hpos
   have hlen:i < (xs.length:Int):=by omega
   refine AM h (v:=.pointer (some ⟨b,off + i.toNat * sz,none⟩)) ?_ ?_ rfl
   ·simp [execOp,ho,Instr.indexAt,ei,asIntOf,hv,run_underlying hu,h0,hlen,hs,F4]
   ·exact AB.ptr b (off + i.toNat * sz) y.cells (fun j=>c i.toNat j) (fun _=>hb) (fun _=>hO) (fun z hz=>h1 y (List.mem_of_getElem? hy1) z hz) (fun j z hz=>hcell _ _ _ _ hy1 hz) (fun j z hz=>hrep _ _ _ _ hy1 hz)
theorem UH (h:AE X G β S a w) {t e:TypeId} {n:Nat} {x ix:Operand} (ho:o.op = .indexAddr t x ix) (hu:P.underlying t = some (.array n e)) (hsz:AF P e = 1) {k:IntKind} {i:Int}
 (hi:AB (OS β X S) w (a.eval ix) (.int k i)) {cs:List D} (hx:AB (OS β X S) w (a.eval x) (.ptr cs)) (hn:i < n) {K:F3→Prop} (hy:At cs i fun y=>K ⟨.d (.ptr [y]),[],[]⟩) :
 ∃ e,K e∧Cw P X G S a w o e:=by
 have ei:=BR hi
 obtain ⟨h0,y,hy1,hy⟩:=hy.go
 generalize hv:a.eval x = v at hx
 cases hx with
 | ptr b off _ c hb hO h1 hcell hrep =>
   refine ⟨_,hy,?_⟩
   have hne:cs≠[]:=by rintro rfl; simp at hy1
   have hs:(sizeOf e).run P w = .ok 1 w:=by rw [← hsz]; exact Jy (by omega)
   refine AM h (v:=.pointer (some ⟨b,off + i.toNat,none⟩)) ?_ ?_ rfl
   ·simp [execOp,ho,Instr.indexAt,Instr.sureAddr,ei,asIntOf,hv,run_underlying hu,h0,hn,hs,F4]
   ·refine AB.ptr b (off + i.toNat) [y] (fun j=>c (i.toNat + j)) (fun _=>hb hne) (fun _=>hO hne) (fun z hz=>?_) (fun j z hz=>?_) (fun j z hz=>?_)
    ·simp at hz; subst hz; exact h1 _ (List.mem_of_getElem? hy1)
    ·match j,hz with
     | 0,hz=>simp at hz; subst hz; exact hcell _ _ hy1
     | j + 1,hz=>simp at hz
    ·match j,hz with
     | 0,hz=>simp at hz; subst hz; exact hrep _ _ hy1
     | j + 1,hz=>simp at hz
theorem TY (h:AE X G β S a w) {t e:TypeId} {n:Nat} {x ix:Operand} (ho:o.op = .indexAddr t x ix) (hu:P.underlying t = some (.array n e)) (hpos:0 < AF P e) {k:IntKind} {i:Int}
 (hi:AB (OS β X S) w (a.eval ix) (.int k i)) {id m off:Nat} {cs:List C} (hx:MP β (OS β X S) S w (a.eval x) (.vptr id m off cs)) (h0:0≤i) (hn:i < n) :
 Cw P X G S a w o ⟨.ptr id m (off + i.toNat * AF P e),[],[]⟩:=by
 have ei:=BR hi
 obtain ⟨hb,hver,bb,hβ,hv⟩:=hx
 have hs:(sizeOf e).run P w = .ok (AF P e) w:=Jy hpos
 refine AM h (v:=.pointer (some ⟨bb,off + i.toNat * AF P e,none⟩)) ?_ ⟨Nat.le_of_eq hver.symm,fun _=>⟨bb,hβ,rfl⟩⟩ rfl
 simp [execOp,ho,Instr.indexAt,Instr.sureAddr,ei,asIntOf,hv,run_underlying hu,h0,hn,hs,F4]
theorem UG (h:AE X G β S a w) {t e:TypeId} {n:Nat} {x ix:Operand} (ho:o.op = .index t x ix) (hu:P.underlying t = some (.array n e)) {k:IntKind} {i:Int}
 (hi:AB (OS β X S) w (a.eval ix) (.int k i)) {cs:List D} (hx:AB (OS β X S) w (a.eval x) (.agg cs)) (hpos:0 < AF P e) (h0:0≤i) (hn:i < n) {K:F3→Prop} (hy:YC P e (cs.drop (i.toNat * AF P e)) fun x=>K ⟨.d x,[],[]⟩):∃ e,K e∧Cw P X G S a w o e:=by
 have ei:=BR hi
 generalize hv:a.eval x = v at hx
 cases hx with
 | agg vs _ hl h1 hr =>
   unfold YC at hy
   have hget:∀ (j:Nat) y,(cs.drop (i.toNat * AF P e))[j]? = some y→∃ c,vs[i.toNat * AF P e + j]? = some c∧AB (OS β X S) w c y:=by
    intro j y hy
    simp only [List.getElem?_drop] at hy
    have hlt:i.toNat * AF P e + j < vs.size:=by
     rw [hl]
     rcases Nat.lt_or_ge (i.toNat * AF P e + j) cs.length with h | h
     ·exact h
     ·simp [List.getElem?_eq_none h] at hy
    exact ⟨vs[i.toNat * AF P e + j],by simp [hlt],hr _ _ _ (by simp [hlt]) hy⟩
   split at hy
   ·rename_i hagg
    split at hy
    ·rename_i ii hii
     rw [B5] at hy
     obtain ⟨hlen,hy⟩:=Au hy
     have hsz:AF P e = ii.size:=by unfold AF; rw [hii]
     rw [hsz] at hget hlen hy
     have hlen':i.toNat * ii.size + ii.size≤cs.length∨ii.size = 0:=by simp at hlen; omega
     refine ⟨_,hy,AM h (v:=.agg (vs.extract (i.toNat * ii.size) (i.toNat * ii.size + ii.size))) ?_ ?_ rfl⟩
     ·simp [execOp,ho,Instr.index,ei,asIntOf,run_underlying hu,hv,h0,hn,part,MQ hagg,sizeOf,typeInfo,hii]
     ·refine .agg _ _ (by simp at hlen ⊢; omega) (fun y hy=>h1 y (List.mem_of_mem_drop (List.mem_of_mem_take hy))) (fun j u y hu hy=>?_)
      rw [List.getElem?_take] at hy
      split at hy
      ·obtain ⟨c,hc1,hc2⟩:=hget j y hy
       rw [Array.getElem?_extract] at hu
       split at hu
       ·rw [hc1] at hu; cases hu; exact hc2
       ·cases hu
      ·cases hy
    ·exact hy.elim
   ·rename_i hagg
    split at hy
    ·rename_i y r hd
     obtain ⟨c,hc1,hc2⟩:=hget 0 y (by rw [hd]; rfl)
     rw [Nat.add_zero] at hc1
     have hs:(sizeOf e).run P w = .ok (AF P e) w:=Jy hpos
     refine ⟨_,hy,AM h (v:=c) ?_ hc2 rfl⟩
     simp [execOp,ho,Instr.index,ei,asIntOf,run_underlying hu,hv,h0,hn,part,La hagg,hs,hc1]
    ·exact hy.elim
   ·exact hy.elim
theorem UI (h:AE X G β S a w) {t e:TypeId} {x ix:Operand} (ho:o.op = .indexAddr t x ix) (hu:P.underlying t = some (.slice e)) {k:IntKind} {i:Int}
 (hi:AB (OS β X S) w (a.eval ix) (.int k i)) {id n sz:Nat} {e':TypeId} {xs:List D} (hsz:sz = AF P e) (hx:MP β (OS β X S) S w (a.eval x) (.row id n sz e' xs)) (h0:0≤i) (hlt:i.toNat < xs.length) :
 Cw P X G S a w o ⟨.eptr id n sz i.toNat 0,[],[]⟩:=by
 have ei:=BR hi
 obtain ⟨hb,hn,hv⟩:=hx
 have hbx:=h.boxes id
 rw [hb] at hbx
 obtain ⟨hpos,_,vals,hr,_⟩:=hbx
 rcases hr with ⟨hlen,⟨hv',h0'⟩ | ⟨g,cap',cur,hv',_⟩⟩ | ⟨h0',_⟩
 ·omega
 ·have hs:(sizeOf e).run P w = .ok sz w:=by rw [hsz] at hpos ⊢; exact Jy hpos
  have hlen:i < (xs.length:Int):=by omega
  refine AM h (v:=.pointer (some ⟨g,i.toNat * sz + 0,none⟩)) ?_ ⟨Nat.le_of_eq hn.symm,fun _=>⟨g,_,_,hv',rfl⟩⟩ rfl
  simp [execOp,ho,Instr.indexAt,ei,asIntOf,hv,hv',run_underlying hu,h0,hlen,hs,F4]
 ·omega
theorem bZ (h:AE X G β S a w) {x:Operand} {t:TypeId} (ho:o.op = .call ⟨.builtin .len,#[x],#[t]⟩) {n:Nat}
 (hl:∃ ad cap,a.eval x = .slice ad n cap) {e:TypeId} (hu:P.underlying t = some (.slice e)) :
 Cw P X G S a w o ⟨.d (.int .i64 n),[],[]⟩:=by
 obtain ⟨ad,cap,hl⟩:=hl
 refine AM h (v:=.int .i64 n) ?_ (.int _ _) rfl
 simp [execOp,ho,resolve,invoke,builtin,Builtin.len_,hl,run_underlying hu,goInt]
theorem aW (h:AE X G β S a w) {x:Operand} {t:TypeId} (ho:o.op = .call ⟨.builtin .len,#[x],#[t]⟩) {s:ByteArray}
 (hl:a.eval x = .string s) (hu:P.underlying t = some .string):Cw P X G S a w o ⟨.d (.int .i64 s.size),[],[]⟩:=by
 refine AM h (v:=.int .i64 s.size) ?_ (.int _ _) rfl
 simp [execOp,ho,resolve,invoke,builtin,Builtin.len_,hl,run_underlying hu,goInt]
theorem RQ (h:AE X G β S a w) {x:Operand} {i:Nat} (ho:o.op = .extract x i) {xs:List C} (hx:MP β (OS β X S) S w (a.eval x) (.tup xs)) {y:C} (hy:xs[i]? = some y) :
 (∀ z,y = .d z→Cw P X G S a w o ⟨.d z,[],[]⟩)∧(∀ id n,y = .sl id n→Cw P X G S a w o ⟨.sl id n,[],[]⟩):=by
 obtain ⟨vs,hv,hl,hr⟩:=hx
 have hlt:i < vs.size:=by rw [hl]; exact AD hy
 have hru:(execOp a.eval o).run P w = .ok (.value vs[i]) w:=by simp [execOp,ho,Instr.extract,hv,hlt]
 have hk:=hr i vs[i] y (by simp [hlt]) hy
 refine ⟨fun z e=>?_,fun id n e=>?_⟩
 ·subst e; exact AM h hru hk rfl
 ·subst e; exact AM h hru hk rfl
theorem J6 (h:AE X G β S a w) {x:Operand} (ho:o.op = .nilCheck x) (hx:(∃ ad:Addr,a.eval x = .pointer (some ad))∨∃ f cs,a.eval x = .func (.func f) #[] cs) {v:AV} (hr:IZ β (AU S) (OS β X S) w a.tmps (a.eval x) v) (hg:v.guards = []) :
 Cw P X G S a w o ⟨v,[],[]⟩:=by
 refine AM h (v:=a.eval x) ?_ hr hg
 rcases hx with ⟨ad,hx⟩ | ⟨f,cs,hx⟩ <;> simp [execOp,ho,hx]
theorem UF (h:AE X G β S a w) {g:Option (Nat × Bool)} (hgd:BB g a) {s:TypeId} {x:Operand} {f:Nat} (ho:o.op = .fieldAddr s x f) {fields:Array Field} (hu:P.underlying s = some (.struct fields)) {fd:Field} (hf:fields[f]? = some fd)
 (hz:0 < AF P fd.type) {K:F3→Prop} (hy:match ρOf S g x with
     | .bot=>K ⟨.bot,[],[]⟩
     | .vptr id n o _=>K ⟨.ptr id n (o + fd.offset),[],[]⟩
     | .d (.ptr cs)=>Ci (cs.drop fd.offset) fun l=>K ⟨.d (.ptr l),[],[]⟩
     | .eptr id n sz _ _ i o=>K ⟨.eptr id n sz i (o + fd.offset),[],[]⟩
     | _=>False):∃ e,K e∧Cw P X G S a w o e:=by
 have hr:=ρ_sound h hgd x
 split at hy
 ·rename_i hx; rw [hx] at hr; exact hr.elim
 ·rename_i id n off cs hx
  rw [hx] at hr
  obtain ⟨_,h2,b,h3,h4⟩:=hr
  exact ⟨_,hy,AM h (MK ho hu hf hz h4) ⟨Nat.le_of_eq h2.symm,fun _=>⟨b,h3,rfl⟩⟩ rfl⟩
 ·rename_i cs hx
  rw [hx] at hr
  rw [B5] at hy
  have hr:AB (OS β X S) w (a.eval x) (.ptr cs):=hr
  obtain ⟨b,off,h1,_⟩:=Vs hr
  refine ⟨_,hy,AM h (MK ho hu hf hz h1) ?_ rfl⟩
  rw [h1] at hr
  exact hr.drop _
 ·rename_i id n sz e xs i off hx
  rw [hx] at hr
  obtain ⟨_,h2,b,m,cap,h3,h4⟩:=hr
  exact ⟨_,hy,AM h (MK ho hu hf hz h4) ⟨Nat.le_of_eq h2.symm,fun _=>⟨b,m,cap,h3,by rw [Nat.add_assoc]⟩⟩ rfl⟩
 ·exact hy.elim
theorem Xq (h:AE X G β S a w) {s t:TypeId} {x:Operand} (ho:o.op = .convert s t x) {b:ByteArray} (ht:P.underlying t = some .string) (hs:∃ d,P.underlying s = some d)
 (hx:AB (OS β X S) w (a.eval x) (.str b)):Cw P X G S a w o ⟨.d (.str b),[],[]⟩:=by
 have ex:=IU hx
 obtain ⟨d,hd⟩:=hs
 refine AM h (v:=.string b) ?_ (.str _) rfl
 simp only [execOp,ho,ex,Sem.run_bind,convert,run_underlying ht,run_underlying hd,Result.andThen_ok]
 cases d <;> simp
theorem UE (h:AE X G β S a w) {s t e:TypeId} {x:Operand} (ho:o.op = .convert s t x) {b:ByteArray} (ht:P.underlying t = some (.slice e)) (he:P.underlying e = some (.int .u8)) (hs:∃ d,P.underlying s = some d)
 (hx:AB (OS β X S) w (a.eval x) (.str b)):Cw P X G S a w o ⟨.d (.list 1 ((J4 b).map (D.int .u8))),[],[]⟩:=by
 have ex:=IU hx
 obtain ⟨d,hd⟩:=hs
 have hbel:Below w.heap.size w (Lib.bytesWorld w e b):=⟨rfl,rfl,rfl,by rw [Lib.bytesWorld_size]; omega,fun k hk=>Lib.bytesWorld_at_old w e b k hk⟩
 have hlen:((J4 b).map (D.int .u8)).length = b.size:=by simp [J4]
 refine .inl ⟨.slice (some ⟨w.heap.size,0,none⟩) b.size (grownCap w b.size 0 e),Lib.bytesWorld w e b,?_,β,h.world hbel,?_,rfl⟩
 ·simp only [execOp,ho,ex,Sem.run_bind,Lib.run_convert_string_bytes w s t e b hd ht he,Result.andThen_ok]
  rfl
 ·show AB _ _ _ _
  by_cases hne:(J4 b).map (D.int .u8) = []
  ·have h0:b.size = 0:=by rw [← hlen,hne]; rfl
   rw [hne,h0]
   exact .emp _ _ _
  ·rw [← hlen]
   refine .list w.heap.size 0 _ 1 _ (fun i _=>.int .u8 (b.data.toList.getD i 0).toNat) hne (by rw [Lib.bytesWorld_size]; omega) (fun hO=>?_) (by rw [hlen]; exact grownCap_ge w _ _ _) ?_ ?_ ?_ ?_
   ·have:=h.os_lt hO
    omega
   ·intro y hy
    obtain ⟨n,_,rfl⟩:=List.mem_map.1 hy
    rfl
   ·intro y hy z hz
    obtain ⟨n,_,rfl⟩:=List.mem_map.1 hy
    simp [D.cells] at hz
    subst hz; rfl
   ·intro i y j z hy hz
    have hi:i < b.size:=by rw [← hlen]; exact AD hy
    simp only [List.getElem?_map] at hy
    obtain ⟨n,_,rfl⟩:=Option.map_eq_some_iff.1 hy
    have hj:j = 0:=by
     have:=AD hz
     simp [D.cells] at this; exact this
    subst hj
    rw [show 0 + i * 1 + 0 = i by omega]
    exact Lib.bytesWorld_cell w e b i hi
   ·intro i y j z hy hz
    simp only [List.getElem?_map,J4] at hy
    obtain ⟨n,hn,rfl⟩:=Option.map_eq_some_iff.1 hy
    obtain ⟨c,hc,rfl⟩:=Option.map_eq_some_iff.1 hn
    have hj:j = 0:=by
     have:=AD hz
     simp [D.cells] at this; exact this
    subst hj
    simp [D.cells] at hz
    subst hz
    rw [List.getD_eq_getElem?_getD,hc]
    exact .int _ _
theorem Xr (h:AE X G β S a w) {t:TypeId} {x ix:Operand} (ho:o.op = .index t x ix) (hu:P.underlying t = some .string) {k:IntKind} {i:Int}
 (hi:AB (OS β X S) w (a.eval ix) (.int k i)) {s:ByteArray} (hx:AB (OS β X S) w (a.eval x) (.str s)) (h0:0≤i) (hlt:i.toNat < s.size) :
 Cw P X G S a w o ⟨.d (.int .u8 (EY s i)),[],[]⟩:=by
 have ei:=BR hi
 have ex:=IU hx
 have hb:s[i.toNat]? = some (s[i.toNat]'hlt):=by simp [hlt]
 refine AM h (v:=.int .u8 (EY s i)) ?_ (.int _ _) rfl
 have e:EY s i = ((s[i.toNat]'hlt).toNat:Int):=by
  unfold EY
  congr 2
  have hl:i.toNat < s.data.toList.length:=by simpa using hlt
  rw [List.getD_eq_getElem?_getD,List.getElem?_eq_getElem hl]
  simp
  rfl
 simp [execOp,ho,Instr.index,ei,asIntOf,ex,run_underlying hu,h0,hb,e]
theorem Nl (h:AE X G β S a w) {g:Option (Nat × Bool)} (hg:BB g a) {y:Option Operand} {dflt:Int} {K:Int→Prop} (hy:Zk (ρOf S g) y dflt K) :
 ∃ i,K i∧(y = none∧i = dflt∨∃ q k,y = some q∧a.eval q = .int k i):=by
 unfold Zk at hy
 split at hy
 ·exact ⟨_,hy,.inl ⟨rfl,rfl⟩⟩
 ·rename_i q
  split at hy
  ·rename_i k i hq
   have:=ρ_sound h hg q
   rw [hq] at this
   exact ⟨i,hy,.inr ⟨q,k,rfl,BR this⟩⟩
  ·exact hy.elim
theorem Jx {k:IntKind} {i:Int} {y:Nat} {code:BoundsCode} (h0:0≤i) (h1:i≤y):(Instr.sliceBound (.int k i) y code).run P w = .ok i.toNat w:=by
 simp [Instr.sliceBound,asIntOf,h0,h1]
theorem R0 {isSlice:Bool} {len cap:Nat} {lo hi:Option Operand} {l h:Int} (hl:lo = none∧l = 0∨∃ q k,lo = some q∧a.eval q = .int k l) (hh:hi = none∧h = len∨∃ q k,hi = some q∧a.eval q = .int k h)
 (h0:0≤l) (h1:l≤h) (h2:h≤len) (hc:len≤cap) :
 (Instr.sliceBounds isSlice len cap (lo.map a.eval) (hi.map a.eval) none).run P w = .ok (l.toNat,h.toNat,cap) w:=by
 rcases hl with ⟨rfl,rfl⟩ | ⟨q,k,rfl,hq⟩ <;> rcases hh with ⟨rfl,rfl⟩ | ⟨q',k',rfl,hq'⟩
 ·simp [Instr.sliceBounds]
 ·have e:=Jx (P:=P) (w:=w) (k:=k') (i:=h) (y:=cap) (code:=if isSlice then .sliceAcap else .sliceAlen) (by omega) (by omega)
  simp [Instr.sliceBounds,hq',e]
 ·have e:=Jx (P:=P) (w:=w) (k:=k) (i:=l) (y:=len) (code:=.sliceB) h0 (by omega)
  simp [Instr.sliceBounds,hq,e]
 ·have e1:=Jx (P:=P) (w:=w) (k:=k') (i:=h) (y:=cap) (code:=if isSlice then .sliceAcap else .sliceAlen) (by omega) (by omega)
  have e2:=Jx (P:=P) (w:=w) (k:=k) (i:=l) (y:=h.toNat) (code:=.sliceB) h0 (by omega)
  simp [Instr.sliceBounds,hq,hq',e1,e2]
theorem Za {isSlice:Bool} {len cap:Nat} {lo hi:Option Operand} {l h:Int} {m:Operand} {km:IntKind} (hm:a.eval m = .int km h) (hl:lo = none∧l = 0∨∃ q k,lo = some q∧a.eval q = .int k l) (hh:∃ q k,hi = some q∧a.eval q = .int k h)
 (h0:0≤l) (h1:l≤h) (h2:h≤cap) :
 (Instr.sliceBounds isSlice len cap (lo.map a.eval) (hi.map a.eval) (some (a.eval m))).run P w = .ok (l.toNat,h.toNat,h.toNat) w:=by
 obtain ⟨q',k',rfl,hq'⟩:=hh
 have e0:=Jx (P:=P) (w:=w) (k:=km) (i:=h) (y:=cap) (code:=if isSlice then .slice3Acap else .slice3Alen) (by omega) h2
 have e1:=Jx (P:=P) (w:=w) (k:=k') (i:=h) (y:=h.toNat) (code:=.slice3B) (by omega) (by omega)
 rcases hl with ⟨rfl,rfl⟩ | ⟨q,k,rfl,hq⟩
 ·simp [Instr.sliceBounds,hq',hm,e0,e1]
 ·have e2:=Jx (P:=P) (w:=w) (k:=k) (i:=l) (y:=h.toNat) (code:=.slice3C) h0 (by omega)
  simp [Instr.sliceBounds,hq,hq',hm,e0,e1,e2]
theorem Xu (h:AE X G β S a w) {t:TypeId} {x:Operand} {lo hi:Option Operand} (ho:o.op = .slice t x lo hi none) (hu:P.underlying t = some .string) {s:ByteArray} (hx:AB (OS β X S) w (a.eval x) (.str s)) {l r:Int}
 (hl:lo = none∧l = 0∨∃ q k,lo = some q∧a.eval q = .int k l) (hh:hi = none∧r = (s.size:Int)∨∃ q k,hi = some q∧a.eval q = .int k r) (h0:0≤l) (h1:l≤r) (h2:r≤s.size) :
 Cw P X G S a w o ⟨.d (.str (s.extract l.toNat r.toNat)),[],[]⟩:=by
 have ex:=IU hx
 have hb:=R0 (P:=P) (w:=w) (a:=a) (isSlice:=false) (len:=s.size) (cap:=s.size) hl hh h0 h1 h2 (Nat.le_refl _)
 refine AM h (v:=.string (s.extract l.toNat r.toNat)) ?_ (.str _) rfl
 simp [execOp,ho,Instr.sliceAt,Instr.slice,ex,run_underlying hu,hb]
theorem PP {α:Type} {xs:List α} {l h:Int} {i:Nat} {y:α} (hy:(HR xs l h)[i]? = some y):xs[l.toNat + i]? = some y:=by
 unfold HR at hy
 rw [List.getElem?_take] at hy
 split at hy
 ·rw [List.getElem?_drop] at hy; exact hy
 ·cases hy
theorem UC {α:Type} {xs:List α} {l h:Int} (h0:0≤l) (h1:l≤h) (h2:h≤xs.length):(HR xs l h).length = h.toNat - l.toNat:=by
 unfold HR; simp; omega
theorem V3 {O:Nat→Prop} {ad:Option Addr} {sz:Nat} {xs:List D} {len cap m:Nat} (hx:AB O w (.slice ad len cap) (.list sz xs)) {l h:Int} (h0:0≤l) (h1:l≤h) (h2:h≤xs.length) (hm:h.toNat≤m) :
 AB O w (.slice (if m = l.toNat then ad else ad.map (·.add (l.toNat * sz))) (h.toNat - l.toNat) (m - l.toNat)) (.list sz (HR xs l h)):=by
 have hcl:=UC h0 h1 h2
 by_cases he:h.toNat - l.toNat = 0
 ·have:HR xs l h = []:=List.eq_nil_of_length_eq_zero (by rw [hcl]; exact he)
  rw [this,he]
  exact .emp _ _ _
 ·rw [if_neg (by omega)]
  cases hx with
  | emp=>simp at h2; omega
  | list b off _ _ _ c hne hb hO hcap hszs h1' hcell hrep =>
    simp only [Option.map_some,F4]
    rw [← hcl]
    refine AB.list b (off + l.toNat * sz) (m - l.toNat) sz (HR xs l h) (fun i j=>c (l.toNat + i) j) (by intro e; rw [e] at hcl; simp at hcl; omega) hb hO (by rw [hcl]; omega)
     (fun y hy=>hszs y (List.mem_of_mem_drop (List.mem_of_mem_take hy))) (fun y hy=>h1' y (List.mem_of_mem_drop (List.mem_of_mem_take hy))) (fun i y j z hy hz=>?_) (fun i y j z hy hz=>hrep _ _ _ _ (PP hy) hz)
    have:=hcell _ _ _ _ (PP hy) hz
    rw [Nat.add_mul,← Nat.add_assoc] at this
    exact this
theorem ZT {O:Nat→Prop} {v:Value} {sz:Nat} {xs:List D} (h:AB O w v (.list sz xs)):∃ ad cap,v = .slice ad xs.length cap∧xs.length≤cap:=by
 cases h with
 | emp a cap _=>exact ⟨a,cap,rfl,by simp⟩
 | list b off cap _ _ c hne hb hO hcap _ _ _ _=>exact ⟨_,cap,rfl,hcap⟩
theorem K4 (h:AE X G β S a w) {g:Option (Nat × Bool)} (hg:BB g a) {t e:TypeId} {x:Operand} {lo hi mx:Option Operand} (ho:o.op = .slice t x lo hi mx) (hu:P.underlying t = some (.slice e)) {sz:Nat} (hsz:sz = AF P e) (hpos:0 < sz) {xs:List D} {bx:Bx} (hF:FZ S [] bx)
 (hx:AB (OS β X (Be bx S)) w (a.eval x) (.list sz xs)) {K:F3→Prop} (hy:Kw (ρOf S g) sz xs lo hi mx bx K):∃ e,K e∧Cw P X G S a w o e:=by
 obtain ⟨k1,_,_⟩:=hF.run h
 obtain ⟨l,hy,hl⟩:=Nl h hg hy
 obtain ⟨r,hy,hr⟩:=Nl h hg hy
 obtain ⟨ad,cap,hv,hcap⟩:=ZT hx
 have hs:(sizeOf e).run P w = .ok sz w:=by rw [hsz] at hpos ⊢; exact Jy hpos
 cases mx with
 | none =>
   obtain ⟨⟨h0,h1,h2⟩,hK⟩:=hy
   have hb:=R0 (P:=P) (w:=w) (a:=a) (isSlice:=true) (len:=xs.length) (cap:=cap) hl hr h0 h1 h2 hcap
   rw [hv] at hx
   refine ⟨_,hK,.inl ⟨_,w,?_,β,k1,V3 (m:=cap) hx h0 h1 h2 (by omega),rfl⟩⟩
   simp [execOp,ho,Instr.sliceAt,Instr.slice,hv,run_underlying hu,hb,hs]
 | some m =>
   simp only at hy
   split at hy
   ·exact hy.elim
   rename_i hhi
   split at hy
   ·rename_i km mm hm
    obtain ⟨⟨h0,h1,h2,h3⟩,hK⟩:=hy
    subst h3
    have hmv:=ρ_sound h hg m
    rw [hm] at hmv
    have hmv:=BR hmv
    have hr':∃ q k,hi = some q∧a.eval q = .int k mm:=by
     rcases hr with ⟨rfl,rfl⟩ | hr
     ·exact absurd rfl hhi
     ·exact hr
    have hb:=Za (P:=P) (w:=w) (a:=a) (isSlice:=true) (len:=xs.length) (cap:=cap) hmv hl hr' h0 h1 (by omega)
    rw [hv] at hx
    have hd:=V3 (m:=mm.toNat) hx h0 h1 h2 (Nat.le_refl _)
    refine ⟨_,hK,.inl ⟨_,w,?_,β,k1,⟨hd,?_⟩,rfl⟩⟩
    ·simp [execOp,ho,Instr.sliceAt,Instr.slice,hv,run_underlying hu,hb,hs]
    ·simp only [Qu]; rw [UC h0 h1 h2]
   ·exact hy.elim
theorem T6 (h:AE X G β S a w) {x y:Operand} {ts:Array TypeId} {b:Builtin} (ho:o.op = .call ⟨.builtin b,#[x,y],ts⟩) {k k':IntKind} {m n:Int} (hx:AB (OS β X S) w (a.eval x) (.int k m)) (hy:AB (OS β X S) w (a.eval y) (.int k' n)) :
 (b = .min→Cw P X G S a w o ⟨.d (.int k (if n < m then n else m)),[],[]⟩)∧(b = .max→Cw P X G S a w o ⟨.d (.int k (if n > m then n else m)),[],[]⟩):=by
 have ex:=BR hx
 have ey:=BR hy
 refine ⟨fun e=>?_,fun e=>?_⟩
 ·subst e
  refine AM h (v:=.int k (if n < m then n else m)) ?_ (.int _ _) rfl
  simp [execOp,ho,resolve,invoke,builtin,Builtin.min_,Builtin.min2,ex,ey]
 ·subst e
  refine AM h (v:=.int k (if n > m then n else m)) ?_ (.int _ _) rfl
  simp [execOp,ho,resolve,invoke,builtin,Builtin.max_,Builtin.max2,ex,ey]
end
end Go.Abs
set_option linter.unusedVariables false
set_option linter.unusedSimpArgs false
namespace Go.Abs
open Go.RowKit (Below)
section lists
variable {O:Nat→Prop} {w:World}
theorem Bo.append {vs us:List Value} {xs ys:List D} (h:Bo O w vs xs) (k:Bo O w us ys):Bo O w (vs++us) (xs++ys):=by
 refine ⟨by simp [h.1,k.1],fun j v y hv hy=>?_⟩
 rcases Nat.lt_or_ge j vs.length with hj | hj
 ·rw [List.getElem?_append_left hj] at hv
  rw [List.getElem?_append_left (by rw [← h.1]; exact hj)] at hy
  exact h.2 j v y hv hy
 ·rw [List.getElem?_append_right hj] at hv
  rw [List.getElem?_append_right (by rw [← h.1]; exact hj),← h.1] at hy
  exact k.2 _ v y hv hy
theorem Bo.take {vs:List Value} {xs:List D} (h:Bo O w vs xs) (n:Nat):Bo O w (vs.take n) (xs.take n):=by
 refine ⟨by simp [h.1],fun j v y hv hy=>?_⟩
 rw [List.getElem?_take] at hv hy
 split at hv
 ·rename_i hj; rw [if_pos hj] at hy; exact h.2 j v y hv hy
 ·cases hv
theorem Bo.drop {vs:List Value} {xs:List D} (h:Bo O w vs xs) (n:Nat):Bo O w (vs.drop n) (xs.drop n):=by
 refine ⟨by simp [h.1],fun j v y hv hy=>?_⟩
 rw [List.getElem?_drop] at hv hy
 exact h.2 _ v y hv hy
theorem Bo.nil:Bo O w [] []:=⟨rfl,fun j v y h _=>by simp at h⟩
theorem Bo.one {v:Value} {x:D} (h:AB O w v x) (h1:x.one = true):Bo O w [v] [x]:=by
 refine ⟨rfl,fun j u y hu hy=>?_⟩
 cases j with
 | zero=>simp at hu hy; subst hu; subst hy; exact ⟨h,h1⟩
 | succ j=>simp at hu
theorem Fz {v:Value} {x:D} (h:AB O w v x):Bo O w v.cells.toList x.cells:=by
 cases h with
 | agg vs xs hl h1 h =>
   refine ⟨by simpa [Value.cells,D.cells] using hl,fun j v y hv hy=>?_⟩
   simp only [Value.cells,Array.getElem?_toList] at hv
   simp only [D.cells] at hy
   exact ⟨h j v y hv hy,h1 y (List.mem_of_getElem? hy)⟩
 | bool b=>exact Bo.one (.bool b) rfl
 | int k n=>exact Bo.one (.int k n) rfl
 | str s=>exact Bo.one (.str s) rfl
 | fn f vs xs hl h1 h=>exact Bo.one (.fn f vs xs hl h1 h) rfl
 | ptr b off cs c hb hO h1 hcell h=>exact Bo.one (.ptr b off cs c hb hO h1 hcell h) rfl
 | nil a sz=>exact Bo.one (.nil a sz) rfl
 | emp a cap sz=>exact Bo.one (.emp a cap sz) rfl
 | list b off cap sz xs c hne hb hO hcap hsz h1 hcell h=>exact Bo.one (.list b off cap sz xs c hne hb hO hcap hsz h1 hcell h) rfl
theorem Bo.oneCell {vs:List Value} {xs:List D} (h:Bo O w vs xs):∀ v∈vs,v.oneCell' = true:=by
 intro v hv
 obtain ⟨j,hj⟩:=List.mem_iff_getElem?.1 hv
 have hlt:j < xs.length:=by
  rw [← h.1]
  rcases Nat.lt_or_ge j vs.length with h | h
  ·exact h
  ·simp [List.getElem?_eq_none h] at hj
 have:=h.2 j v xs[j] hj (List.getElem?_eq_getElem hlt)
 exact SI this.1 this.2
theorem Em {α:Type}:∀ (cs:List α) (o:Nat) (ys:List α),o≤cs.length→splice cs o ys = cs.take o++ys++cs.drop (o + ys.length)
 | cs,0,ys,_=>by simp [splice]
 | [],o + 1,ys,h=>by simp at h
 | c :: cs,o + 1,ys,h=>by
   rw [splice,Em cs o ys (by simpa using h)]
   simp [show o + 1 + ys.length = (o + ys.length) + 1 by omega]
theorem Bo.splice {vs us:List Value} {xs ys:List D} (h:Bo O w vs xs) (k:Bo O w us ys) {o:Nat} (ho:o≤xs.length) :
 Bo O w (vs.take o++us++vs.drop (o + us.length)) (splice xs o ys):=by
 rw [Em _ _ _ ho,k.1]
 exact ((h.take o).append k).append (h.drop _)
end lists
section
variable {P:Program} {X:Cx} {G:Nat→Prop} {β:Nat→Value} {S:AS} {a:Act} {w:World} {o:Oper}
theorem HP (ob:Obj):Below w.heap.size w (w.alloc ob):=(Below.refl _ _).alloc (Nat.le_refl _) _
theorem XA (h:AE X G β S a w) {d:Nat} (hd:d < S.length) {vals:Array Value} {T:TypeId} {cs:List C} (hl:vals.size = cs.length) (hc:∀ (j:Nat) v c,vals[j]? = some v→cs[j]? = some c→BK β (AU S) (OS β X S) w v c) :
 ∃ β',AE X G β' (Bq S d (.var cs) ((Av S d).ver + 1)) a (w.alloc (.cells vals T)) ∧
   IZ β' (AU (Bq S d (.var cs) ((Av S d).ver + 1))) (OS β' X (Bq S d (.var cs) ((Av S d).ver + 1))) (w.alloc (.cells vals T)) a.tmps (.pointer (some ⟨w.heap.size,0,none⟩)) (.ptr d ((Av S d).ver + 1) 0):=by
 refine ⟨IY β d (.pointer (some ⟨w.heap.size,0,none⟩)),h.rebox (R':=X.R) (fun _ h=>h) hd (.inl (Nat.lt_succ_self _)) (by simp) ((AT.of (HP _)).weaken h.hbase fun _ _ h=>h) (fun b hb _=>heap_alloc_old w _ b hb)
  (fun _ b hb=>⟨.inr (.inl (by simp [A1] at hb; omega)),fun hr=>by simp [A1] at hb; have:=(h.rs b hr).2; omega⟩) (fun k hv=>⟨w.heap.size,vals,T,by simp [IY],heap_alloc_new w _,hl,fun j v c hv' hc'=>(hc j v c hv' hc').mono k hv⟩),?_⟩
 have hv:AU (Bq S d (.var cs) ((Av S d).ver + 1)) d = (Av S d).ver + 1:=by simp [AU,Cd,hd]
 exact ⟨by rw [hv]; exact Nat.le_refl _,fun _=>⟨w.heap.size,by simp [IY],rfl⟩⟩
theorem cF (h:AE X G β S a w) {d:Nat} (hd:d < S.length) {n:Nat} (hn:(Av S d).ver < n) {R':Nat→Prop} (hR:∀ b,R' b→X.R b) {w':World} (hw:Below w.heap.size w w') {v:Value} {sz:Nat} {e:TypeId} {xs:List D} {vals:List Value} (hsz:0 < sz)
 (hs:∀ x∈xs,x.cells.length = sz) (hr:Ca w' e sz v xs.length vals) (hb:∀ b,A1 v = some b→(w.heap.size≤b∨X.R b)∧¬ R' b) (hl:Bo (fun b=>OS β X S b∨A1 v = some b) w' vals (xs.flatMap D.cells)) :
 ∃ β',AE (X.less R') G β' (Bq S d (.row sz e xs) n) a w'∧β' = IY β d v ∧
   IZ β' (AU (Bq S d (.row sz e xs) n)) (OS β' (X.less R') (Bq S d (.row sz e xs) n)) w' a.tmps v (.sl d n):=by
 refine ⟨IY β d v,h.rebox hR hd (.inl hn) hw.size ((AT.of hw).weaken h.hbase fun _ _ h=>h) (fun b hb _=>hw.block b hb) (fun _ b hv=>⟨.inr (hb b hv).1,(hb b hv).2⟩) (fun k _=>⟨hsz,hs,vals,?_,?_⟩),rfl,?_⟩
 ·simp only [IY,if_true]; exact hr
 ·refine hl.mono (B4.of_sub fun b hb'=>?_)
  rcases hb' with hb' | hb' | ⟨i,h1,h2⟩
  ·exact .inl (.inl hb')
  ·exact .inl (.inr (.inl (hR b hb')))
  ·rw [Cd] at h1
   split at h1
   ·rename_i e'
    rw [e'.1] at h2
    simp [IY] at h2
    exact .inr h2
   ·rename_i e'
    have hi:i≠d:=fun hh=>e' ⟨hh,hd⟩
    simp [IY,hi] at h2
    exact .inl (.inr (.inr ⟨i,h1,h2⟩))
 ·have hv:AU (Bq S d (.row sz e xs) n) d = n:=by simp [AU,Cd,hd]
  exact ⟨by rw [hv]; exact Nat.le_refl _,fun _=>by simp [IY]⟩
theorem Js (h:AE X G β S a w) {d:Nat} (hd:d < S.length) {w':World} (hw:Below w.heap.size w w') {v:Value} {sz:Nat} {e:TypeId} {xs:List D} {vals:List Value} (hsz:0 < sz)
 (hs:∀ x∈xs,x.cells.length = sz) (hr:Ca w' e sz v xs.length vals) (hb:∀ b,A1 v = some b→w.heap.size≤b) (hl:Bo (fun b=>OS β X S b∨A1 v = some b) w' vals (xs.flatMap D.cells)) :
 ∃ β',AE X G β' (Bq S d (.row sz e xs) ((Av S d).ver + 1)) a w' ∧
   IZ β' (AU (Bq S d (.row sz e xs) ((Av S d).ver + 1))) (OS β' X (Bq S d (.row sz e xs) ((Av S d).ver + 1))) w' a.tmps v (.sl d ((Av S d).ver + 1)):=by
 obtain ⟨β',h1,_,h2⟩:=cF h hd (n:=(Av S d).ver + 1) (Nat.lt_succ_self _) (R':=X.R) (fun _ h=>h) hw hsz hs hr (fun b hv=>⟨.inl (hb b hv),fun hr=>by have:=(h.rs b hr).2; have:=hb b hv; omega⟩) hl
 exact ⟨β',h1,h2⟩
theorem Bo.cells {O:Nat→Prop} {vs:List Value} {ys:List D} (h:Bo O w vs ys) {n:Nat→Nat}:∀ (j:Nat) v c,vs[j]? = some v→(ys.map C.d)[j]? = some c→BK β n O w v c:=by
 intro j v c hv hc
 simp only [List.getElem?_map] at hc
 cases hy:ys[j]? with
 | none=>simp [hy] at hc
 | some y=>simp [hy] at hc; subst hc; exact h.2 j v y hv hy
theorem bX (h:AE X G β S a w) {g:Option (Nat × Bool)} (hg:BB g a) {d:Nat} (hd:d < S.length) {T:TypeId} {x:Operand} (ho:o.op = .box T x) {K:F3→Prop}
 (hy:match ρOf S g x with
  | .row id n _ _ _=>K ⟨.ptr d ((Av S d).ver + 1) 0,[(d,.var [.sl id n],(Av S d).ver + 1)],[]⟩
  | .cagg l=>K ⟨.ptr d ((Av S d).ver + 1) 0,[(d,.var l,(Av S d).ver + 1)],[]⟩
  | r=>Wt r fun v b=>Yc v.cells fun l=>K ⟨.ptr d ((Av S d).ver + 1) 0,b++[(d,.var l,(Av S d).ver + 1)],[]⟩):∃ e,K e∧Cw P X G S a w o e:=by
 have hrx:=ρ_sound h hg x
 have hrun:(execOp a.eval o).run P w = .ok (.value (.pointer (some ⟨w.heap.size,0,none⟩))) (w.alloc (.cells (a.eval x).cells T)):=by simp [execOp,ho,Instr.box,newVar,newRow]
 split at hy
 ·rename_i id n sz e xs hx
  rw [hx] at hrx
  obtain ⟨h1,h2,h3⟩:=hrx
  have hone:(a.eval x).cells = #[a.eval x]:=by
   have hb:=h.boxes id
   rw [h1] at hb
   obtain ⟨_,_,vals,hr,_⟩:=hb
   rw [h3]
   rcases hr with ⟨_,⟨hv,_⟩ | ⟨g',cap,cur,hv,_⟩⟩ | ⟨_,_,ad,hv⟩ <;> (rw [hv]; rfl)
  obtain ⟨β',h4,h5⟩:=XA h hd (T:=T) (vals:=(a.eval x).cells) (cs:=[.sl id n]) (by rw [hone]; rfl) (fun j v c hv hc=>by
   cases j with
   | zero=>rw [hone] at hv; simp at hv hc; subst hv; subst hc; exact ⟨Nat.le_of_eq h2.symm,fun _=>h3⟩
   | succ j=>simp at hc)
  exact ⟨_,hy,.inl ⟨_,_,hrun,β',h4,h5,rfl⟩⟩
 ·rename_i l hx
  rw [hx] at hrx
  obtain ⟨vs,hv,hl,hc⟩:=hrx
  have hcs:(a.eval x).cells = vs:=by rw [hv]; rfl
  obtain ⟨β',h4,h5⟩:=XA h hd (T:=T) (vals:=(a.eval x).cells) (cs:=l) (by rw [hcs]; exact hl) (fun j v c hv hc'=>(hc j v c (by rw [← hcs]; exact hv) hc').1)
  exact ⟨_,hy,.inl ⟨_,_,hrun,β',h4,h5,rfl⟩⟩
 ·obtain ⟨xd,b,hK,hF,hfr,hrep⟩:=HO (x:=X) (G:=G) (a:=a) hrx hy
  rw [NX] at hK
  obtain ⟨h1,h2,h3⟩:=hF.run h
  have hr:=hrep.now h hF
  obtain ⟨β',h4,h5⟩:=XA h1 (d:=d) (by rw [BP]; exact hd) (T:=T) (vals:=(a.eval x).cells) (cs:=xd.cells.map .d) (by have:=(Fz hr).1; simpa using this) (fun j v c hv hc=>(Fz hr).cells j v c (by simpa using hv) hc)
  rw [h3.ver] at h4 h5
  refine ⟨_,hK,.inl ⟨_,_,hrun,β',?_,?_,rfl⟩⟩
  ·simp only [Bz,Be]; exact h4
  ·simp only [Bz,Be]; exact h5
theorem Zi {O:Nat→Prop} {w:World} {v:Value} {x:D} (h:zD v = some x):AB O w v x∧x.one = true:=by
 unfold zD at h
 split at h <;> simp at h <;> subst h
 ·exact ⟨.int _ _,rfl⟩
 ·exact ⟨.bool _,rfl⟩
 ·exact ⟨.str _,rfl⟩
 ·exact ⟨.nil _ _,rfl⟩
theorem WZ {O:Nat→Prop} {w:World}:∀ {vs:List Value} {xs:List D},f5 vs = some xs→Bo O w vs xs
 | [],xs,h=>by simp [f5] at h; subst h; exact Bo.nil
 | v :: r,xs,h=>by
   simp only [f5] at h
   split at h
   ·rename_i x l hx hl
    simp at h
    subst h
    have h1:=Zi (O:=O) (w:=w) hx
    exact (Bo.one h1.1 h1.2).append (WZ hl)
   ·cases h
theorem Ot {O:Nat→Prop} {w:World}:∀ {vs:List Value} {xs:List D} (ss:List Nat),Bo O w vs xs→Bo O w vs (J1 xs ss)
 | vs,[],ss,h=>by simpa [J1] using h
 | [],x :: r,ss,h=>by have:=h.1; simp at this
 | v :: vs,x :: r,[],h=>by cases x <;> simpa [J1] using h
 | v :: vs,x :: r,s :: q,h=>by
   have h0:=h.2 0 v x rfl rfl
   have ht:Bo O w vs r:=⟨by simpa using h.1,fun j u y hu hy=>h.2 (j + 1) u y (by simpa using hu) (by simpa using hy)⟩
   have ih:=Ot q ht
   cases x <;> simp only [J1]
   case nil s' =>
    have hv:∃ ad,v = .slice ad 0 0:=by cases h0.1; exact ⟨_,rfl⟩
    obtain ⟨ad,rfl⟩:=hv
    exact (Bo.one (.nil ad s) rfl).append ih
   all_goals exact (Bo.one h0.1 h0.2).append ih
theorem FG {O:Nat→Prop} {w:World} {t:TypeId} {l:List D} (h:zeroCells P t = some l):∃ i z,P.info? t = some i∧i.zero = some z∧Bo O w z.cells.toList l:=by
 unfold zeroCells at h
 split at h
 ·rename_i i hi
  split at h
  ·rename_i z hz
   split at h
   ·rename_i l' hl
    simp at h
    subst h
    exact ⟨i,z,hi,hz,Ot _ (WZ hl)⟩
   ·cases h
  ·cases h
 ·cases h
theorem Zx (h:AE X G β S a w) {d:Nat} (hd:d < S.length) {T:TypeId} (ho:o.op = .alloc T) {l:List D} (hz:zeroCells P T = some l) {K:F3→Prop}
 (hy:Yc l fun l=>K ⟨.ptr d ((Av S d).ver + 1) 0,[(d,.var l,(Av S d).ver + 1)],[]⟩):∃ e,K e∧Cw P X G S a w o e:=by
 rw [NX] at hy
 obtain ⟨i,z,hi,hz,hr⟩:=FG (O:=OS β X S) (w:=w) hz
 obtain ⟨β',h3,h4⟩:=XA h hd (T:=T) (vals:=z.cells) (cs:=l.map .d) (by have:=hr.1; simpa using this) (fun j v c hv hc=>hr.cells j v c (by simpa using hv) hc)
 refine ⟨_,hy,.inl ⟨.pointer (some ⟨w.heap.size,0,none⟩),w.alloc (.cells z.cells T),?_,β',h3,h4,rfl⟩⟩
 simp [execOp,ho,Instr.alloc,zeroValue,typeInfo,hi,hz,newVar,newRow]
theorem Nk {x:Operand} (h:Lw x = true):x = .const (.slice none 0 0):=by
 unfold Lw at h
 split at h
 ·rfl
 ·cases h
theorem cd (h:AE X G β S a w) {d:Nat} (hd:d < S.length) {x:Operand} (ho:o.op = .assign x) (hx:Lw x = true) {e:TypeId} (hsz:0 < AF P e) :
 Cw P X G S a w o ⟨.sl d ((Av S d).ver + 1),[(d,.row (AF P e) e [],(Av S d).ver + 1)],[]⟩:=by
 rw [Nk hx] at ho
 obtain ⟨β',h3,h4⟩:=Js h hd (Below.refl _ _) (v:=.slice none 0 0) (e:=e) (xs:=[]) (vals:=[]) hsz (fun _ h=>by cases h) (.inl (World.ownsRow_nil w _ e _)) (fun b hb=>by simp [A1] at hb) Bo.nil
 exact .inl ⟨_,w,by simp [execOp,ho,Act.eval],β',h3,h4,rfl⟩
theorem Mt {T:TypeId} {p x:Operand} (ho:o.op = .store T p x) {b off:Nat} (hp:a.eval p = .pointer (some ⟨b,off,none⟩)) {i:TypeInfo} (hi:P.info? T = some i)
 (hc:(a.eval x).cells.size = i.size) {cur:Array Value} {E:TypeId} (hh:w.heap[b]? = some (.cells cur E (0,0))) (hfit:off + (a.eval x).cells.size≤cur.size) (h1:∀ v∈(a.eval x).cells.toList,v.oneCell' = true) :
 (execOp a.eval o).run P w = .ok .skip (w.setRow b (cur.toList.take off++(a.eval x).cells.toList++cur.toList.drop (off + (a.eval x).cells.size)).toArray):=by
 have:=run_storeCells_at P b off E (a.eval x).cells.toList 0 cur w hh (by simpa using hfit) h1
 simp only [Nat.add_zero,Array.length_toList] at this
 simp [execOp,ho,Instr.storeAt,hp,Instr.sureAddr,storeVar,sizeOf,typeInfo,hi,hc,this]
theorem Gz {T:TypeId} {i:TypeInfo} (hi:P.info? T = some i):AF P T = i.size:=by simp [AF,hi]
theorem Tj (h:AE X G β S a w) {id n:Nat} {cs:List C} (hb:(Av S id).box = .var cs) (hn:(Av S id).ver = n) {b:Nat} (hβ:β id = .pointer (some ⟨b,0,none⟩)) {vals:Array Value} {E:TypeId} (hh:w.heap[b]? = some (.cells vals E (0,0)))
 (hvl:vals.size = cs.length) (hvc:∀ (j:Nat) v c,vals[j]? = some v→cs[j]? = some c→BK β (AU S) (OS β X S) w v c) {off:Nat} {us:List Value} {ns:List C} (hl:us.length = ns.length) (hfit:off + ns.length≤cs.length)
 (hnew:∀ (j:Nat) v c,us[j]? = some v→ns[j]? = some c→BK β (AU S) (OS β X S) w v c) :
 AE X G β (Bq S id (.var (splice cs off ns)) n) a (w.setRow b (vals.toList.take off++us++vals.toList.drop (off + us.length)).toArray):=by
 have hid:=Lv hb (by simp)
 have ho:(Av S id).box.owned = true:=by rw [hb]; rfl
 have hbl:A1 (β id) = some b:=by rw [hβ]; rfl
 have h5:=h.rebox (R':=X.R) (id:=id) (B:=.var (splice cs off ns)) (v:=β id) (n:=n) (w':=w.setRow b (vals.toList.take off++us++vals.toList.drop (off + us.length)).toArray)
  (fun _ h=>h) hid (.inr ⟨hn.symm,rfl,by rw [hb]; simp⟩) (by simp) (AT.setRow _ _ _ (h.mine id b ho hbl).1)
  (fun k _ hk=>setRow_other w b k _ (fun e=>hk ho (by rw [hbl,e])))
  (fun _ k hk=>⟨.inl ⟨hk,ho⟩,(h.mine id k ho hk).2⟩)
  (fun k hv=>by
   rw [E3] at k hv ⊢
   refine ⟨b,_,E,hβ,setRow_heap w b vals _ E _ hh,?_,fun j v c hv' hc=>?_⟩
   ·rw [Em _ _ _ (by omega)]; simp; omega
   ·rw [Em _ _ _ (by omega)] at hc
    simp only [List.getElem?_toArray] at hv'
    refine BK.mono k hv ?_
    have hlen:(vals.toList.take off).length = (cs.take off).length:=by simp [hvl]
    rcases Nat.lt_or_ge j (cs.take off).length with hj | hj
    ·rw [List.append_assoc,List.getElem?_append_left (by rw [hlen]; exact hj),List.getElem?_take] at hv'
     rw [List.append_assoc,List.getElem?_append_left hj,List.getElem?_take] at hc
     split at hv'
     ·rename_i hjo; rw [if_pos hjo] at hc; exact hvc j v c (by simpa using hv') hc
     ·cases hv'
    ·rw [List.append_assoc,List.getElem?_append_right (by rw [hlen]; exact hj),hlen] at hv'
     rw [List.append_assoc,List.getElem?_append_right hj] at hc
     rcases Nat.lt_or_ge (j - (cs.take off).length) ns.length with hj2 | hj2
     ·rw [List.getElem?_append_left (by rw [hl]; exact hj2)] at hv'
      rw [List.getElem?_append_left hj2] at hc
      exact hnew _ v c hv' hc
     ·rw [List.getElem?_append_right (by rw [hl]; exact hj2),List.getElem?_drop,hl] at hv'
      rw [List.getElem?_append_right hj2,List.getElem?_drop] at hc
      exact hvc _ v c (by simpa using hv') hc)
 rw [E3] at h5
 exact h5
theorem cI {t:TypeId} {x:D} (h:x.one = true):(nilT P t x).one = true:=by
 unfold nilT
 split
 ·split <;> rfl
 ·exact h
theorem AB.nilT {O:Nat→Prop} {w:World} {v:Value} {t:TypeId} {y:D} (h:AB O w v y):AB O w v (nilT P t y):=by
 unfold Go.Abs.nilT
 split
 ·split
  ·cases h; exact .nil _ _
  ·exact h
 ·exact h
theorem Xw (h:AE X G β S a w) {g:Option (Nat × Bool)} (hg:BB g a) {T:TypeId} {p x:Operand} (ho:o.op = .store T p x) {id n off:Nat} {cs:List C}
 (hp:MP β (OS β X S) S w (a.eval p) (.vptr id n off cs)) {i:TypeInfo} (hi:P.info? T = some i) {K:F3→Prop}
 (hy:match KZ P T with
  | some true=>match ρOf S g x with
    | .cagg l=>if l.length = AF P T∧off + l.length≤cs.length then Ci (splice cs off l) fun l=>K ⟨.any,[(id,.var l,n)],[]⟩ else False
    | r=>Wt r fun v b =>
      if v.cells.length = AF P T∧off + v.cells.length≤cs.length then Yc v.cells fun l=>Ci (splice cs off l) fun l=>K ⟨.any,b++[(id,.var l,n)],[]⟩ else False
  | some false=>if AF P T = 1∧off < cs.length then match ρOf S g x with
   | .row id' n' _ _ _=>Ci (splice cs off [.sl id' n']) fun l=>K ⟨.any,[(id,.var l,n)],[]⟩
   | r=>Wt r fun v b=>if v.one = true then Ci (splice cs off [.d (nilT P T v)]) fun l=>K ⟨.any,b++[(id,.var l,n)],[]⟩ else False
   else False
  | none=>False) :
 ∃ e,K e∧Cw P X G S a w o e:=by
 obtain ⟨hb,hn,blk,hβ,hv⟩:=hp
 have data:∀ {v:D} {b:Bx},FZ S [] b→(∀ z∈b,∃ sz xs,z.2.1 = .frow sz xs)→Ji X G β S a w b (fun O=>AB O w (a.eval x) v)→v.cells.length = AF P T→off + v.cells.length≤cs.length →
  K ⟨.any,b++[(id,.var (splice cs off (v.cells.map .d)),n)],[]⟩→∃ e,K e∧Cw P X G S a w o e:=by
  intro v b hF hfr hrep hc1 hc2 hK
  obtain ⟨h1,h2,h3⟩:=hF.run h
  have hr:=Fz (hrep.now h hF)
  have hsame:(Av (Be b S) id).box = .var cs:=by
   rw [h3.other id fun z hz e=>?_]
   ·exact hb
   ·obtain ⟨sz,xs,e2⟩:=hfr z hz
    rcases (hF.each z hz).2 with ⟨_,_,_,k1,_⟩ | ⟨_,_,k1,k2,_⟩ | ⟨k1,k2⟩
    ·rw [e,hb] at k1; cases k1
    ·rw [e2] at k2; cases k2
    ·rw [e,hb] at k1; rw [← k1] at k2; cases k2
  have hver:(Av (Be b S) id).ver = n:=by rw [h3.ver,hn]
  obtain ⟨vals,E,hh,hvl,hvc⟩:=KX h1 hsame hβ
  have hcells:(a.eval x).cells.size = v.cells.length:=by have:=hr.1; simpa using this
  have hrun:=Mt (P:=P) ho hv hi (by rw [hcells,hc1,Gz hi]) hh (by rw [hcells,hvl]; exact hc2) hr.oneCell
  refine ⟨_,hK,.inr (.inl ⟨_,hrun,β,?_,trivial,rfl⟩)⟩
  have:=Tj h1 hsame hver hβ hh hvl hvc (off:=off) (us:=(a.eval x).cells.toList) (ns:=v.cells.map .d) (by rw [hr.1]; simp) (by simpa using hc2) hr.cells
  simp only [Bz,Be]
  simpa using this
 split at hy
 ·have hrx:=ρ_sound h hg x
  split at hy
  ·rename_i l hx
   rw [hx] at hrx
   obtain ⟨⟨hc1,hc2⟩,hK⟩:=Au hy
   rw [B5] at hK
   obtain ⟨us,hu,hul,huc⟩:=hrx
   have hcs:(a.eval x).cells = us:=by rw [hu]; rfl
   obtain ⟨vals,E,hh,hvl,hvc⟩:=KX h hb hβ
   have hone:∀ v∈us.toList,v.oneCell' = true:=by
    intro v hv'
    obtain ⟨j,hj⟩:=List.mem_iff_getElem?.1 hv'
    have hjl:j < l.length:=by rw [← hul]; have:=AD hj; simpa using this
    exact (huc j v l[j] (by simpa using hj) (List.getElem?_eq_getElem hjl)).2
   have hrun:=Mt (P:=P) ho hv hi (by rw [hcs,hul,hc1,Gz hi]) hh (by rw [hcs,hul,hvl]; exact hc2) (by rw [hcs]; exact hone)
   refine ⟨_,hK,.inr (.inl ⟨_,hrun,β,?_,trivial,rfl⟩)⟩
   have:=Tj h hb hn hβ hh hvl hvc (off:=off) (us:=(a.eval x).cells.toList) (ns:=l) (by rw [hcs]; simpa using hul) (by simpa using hc2) (fun j v c hv' hc=>(huc j v c (by rw [hcs] at hv'; simpa using hv') hc).1)
   simp only [Be]
   simpa using this
  ·obtain ⟨xd,b,hK,hF,hfr,hrep⟩:=HO (x:=X) (G:=G) (a:=a) hrx hy
   obtain ⟨⟨hc1,hc2⟩,hK⟩:=Au hK
   rw [NX,B5] at hK
   exact data hF hfr hrep hc1 hc2 hK
 ·obtain ⟨⟨hs1,hof⟩,hy⟩:=Au hy
  have hrx:=ρ_sound h hg x
  split at hy
  ·rename_i id' n' sz e xs hx
   rw [hx] at hrx
   rw [B5] at hy
   obtain ⟨k1,k2,k3⟩:=hrx
   have hone:(a.eval x).cells = #[a.eval x]∧(a.eval x).oneCell' = true:=by
    have hb':=h.boxes id'
    rw [k1] at hb'
    obtain ⟨_,_,vals,hr,_⟩:=hb'
    rw [k3]
    rcases hr with ⟨_,⟨hv,_⟩ | ⟨g',cap,cur,hv,_⟩⟩ | ⟨_,_,ad,hv⟩ <;> (rw [hv]; exact ⟨rfl,rfl⟩)
   obtain ⟨vals,E,hh,hvl,hvc⟩:=KX h hb hβ
   have hrun:=Mt (P:=P) ho hv hi (by rw [hone.1,← Gz hi,hs1]; rfl) hh (by rw [hone.1,hvl]; exact hof) (by rw [hone.1]; simpa using hone.2)
   refine ⟨_,hy,.inr (.inl ⟨_,hrun,β,?_,trivial,rfl⟩)⟩
   have:=Tj h hb hn hβ hh hvl hvc (off:=off) (us:=(a.eval x).cells.toList) (ns:=[.sl id' n']) (by rw [hone.1]; rfl) hof (fun j v c hv' hc=>by
    cases j with
    | zero=>rw [hone.1] at hv'; simp at hv' hc; subst hv'; subst hc; exact ⟨Nat.le_of_eq k2.symm,fun _=>k3⟩
    | succ j=>simp at hc)
   simp only [Be]
   simpa using this
  ·obtain ⟨xd,b,hK,hF,hfr,hrep⟩:=HO (x:=X) (G:=G) (a:=a) hrx hy
   obtain ⟨hone,hK⟩:=Au hK
   rw [B5] at hK
   have hx1:(nilT P T xd).cells = [nilT P T xd]:=by
    have:=cI (P:=P) (t:=T) hone
    generalize nilT P T xd = y at this
    cases y <;> first | rfl | simp [D.one] at this
   exact data hF hfr (v:=nilT P T xd) (fun B h1 h2 h3 h4=>(hrep B h1 h2 h3 h4).nilT) (by rw [hx1,hs1]; rfl) (by rw [hx1]; exact hof) (by rw [hx1]; exact hK)
 ·exact hy.elim
theorem QP {α:Type}:∀ (A B:List α) (i:Nat) (ys:List α),splice (A++B) (A.length + i) ys = A++splice B i ys
 | [],B,i,ys=>by simp
 | c :: A,B,i,ys=>by
   rw [List.cons_append,List.length_cons,show A.length + 1 + i = (A.length + i) + 1 by omega,splice,QP A B i ys]
   rfl
theorem Y0 {sz:Nat}:∀ (xs:List D) (i:Nat) (x y:D),(∀ x∈xs,x.cells.length = sz)→xs[i]? = some x→y.cells.length = sz →
 (xs.set i y).flatMap D.cells = splice (xs.flatMap D.cells) (i * sz) y.cells
 | [],i,x,y,_,hx,_=>by simp at hx
 | z :: r,0,x,y,hs,hx,hy=>by
   have hz:z.cells.length = sz:=hs z (by simp)
   rw [Em _ _ _ (by simp)]
   simp [hy,List.drop_append,← hz]
 | z :: r,i + 1,x,y,hs,hx,hy=>by
   have hz:z.cells.length = sz:=hs z (by simp)
   have ih:=Y0 r i x y (fun x hx=>hs x (by simp [hx])) (by simpa using hx) hy
   rw [List.set_cons_succ,List.flatMap_cons,ih,List.flatMap_cons,show (i + 1) * sz = z.cells.length + i * sz by rw [hz,Nat.add_mul]; omega,QP]
theorem Wo (L ys zs:List D) (i o:Nat) (hi:i + ys.length≤L.length) (ho:o + zs.length≤ys.length) (hL:(L.drop i).take ys.length = ys) :
 splice L i (splice ys o zs) = splice L (i + o) zs:=by
 rw [Em ys o zs (by omega),Em L i _ (by omega),Em L (i + o) zs (by omega)]
 have hlen:(ys.take o++zs++ys.drop (o + zs.length)).length = ys.length:=by simp; omega
 rw [hlen]
 have e1:L.take (i + o) = L.take i++ys.take o:=by
  rw [List.take_add,← hL,List.take_take,Nat.min_eq_left (by omega)]
 have e2:L.drop (i + o + zs.length) = ys.drop (o + zs.length)++L.drop (i + ys.length):=by
  have:L.drop i = ys++L.drop (i + ys.length):=by
   conv=>lhs; rw [← List.take_append_drop ys.length (L.drop i),hL,List.drop_drop]
  rw [show i + o + zs.length = i + (o + zs.length) by omega,← List.drop_drop,this,List.drop_append_of_le_length ho]
 rw [e1,e2]
 simp
theorem Do {id:Nat}:∀ {b:Bx},DX id b = true→∀ z∈b,z.1≠id
 | [],_,_,h=>by cases h
 | q :: r,hq,z,hz=>by
   simp [DX] at hq
   rcases List.mem_cons.1 hz with rfl | hz
   ·exact hq.1
   ·exact Do hq.2 z hz
theorem Xv (h:AE X G β S a w) {g:Option (Nat × Bool)} (hg:BB g a) {T:TypeId} {p x:Operand} (ho:o.op = .store T p x) {id n sz:Nat} {e:TypeId} {xs:List D} {k off:Nat}
 (hp:MP β (OS β X S) S w (a.eval p) (.eptr id n sz e xs k off)) {i:TypeInfo} (hi:P.info? T = some i) {K:F3→Prop}
 (hy:dP (ρOf S g x) fun v b=>At xs k fun y =>
  if v.cells.length = AF P T∧off + v.cells.length≤y.cells.length∧DX id b = true then
   match y with
   | .agg cs=>Ci (splice cs off v.cells) fun l=>K ⟨.any,b++[(id,.row sz e (xs.set k (.agg l)),n)],[]⟩
   | _=>if v.one then K ⟨.any,b++[(id,.row sz e (xs.set k v),n)],[]⟩ else False
  else False) :
 ∃ e,K e∧Cw P X G S a w o e:=by
 obtain ⟨xd,b,hK,hF,hfr,hrep⟩:=SS (x:=X) (G:=G) (a:=a) (ρ_sound h hg x) hy
 obtain ⟨_,y,hy1,hK⟩:=hK.go
 simp only [Int.toNat_natCast] at hy1
 obtain ⟨⟨hc1,hc2,hnr⟩,hK⟩:=Au hK
 obtain ⟨h1,h2,h3⟩:=hF.run h
 have hr:=Fz (hrep.now h hF)
 obtain ⟨hb,hn,blk,m,cap,hβ,hv⟩:=hp
 have hsame:(Av (Be b S) id).box = .row sz e xs:=by rw [h3.other id (Do hnr)]; exact hb
 have hver:(Av (Be b S) id).ver = n:=by rw [h3.ver,hn]
 have hbx:=h1.boxes id
 rw [hsame] at hbx
 obtain ⟨hpos,hszs,vals,hrow,hl⟩:=hbx
 have hid:id < S.length:=Lv hb (by simp)
 have hklt:=AD hy1
 have hysz:y.cells.length = sz:=hszs y (List.mem_of_getElem? hy1)
 obtain ⟨y',hy',hK⟩:∃ y',(y'.cells = splice y.cells off xd.cells∧y'.cells.length = sz)∧K ⟨.any,b++[(id,.row sz e (xs.set k y'),n)],[]⟩:=by
  have hlen:(splice y.cells off xd.cells).length = sz:=by rw [Em _ _ _ (by omega)]; simp; omega
  cases y with
  | agg cs=>simp only [B5] at hK; exact ⟨.agg (splice cs off xd.cells),⟨rfl,hlen⟩,hK⟩
  | bool _ | int _ _ | str _ | fn _ _ | ptr _ | nil _ | list _ _ =>
    obtain ⟨hone,hK2⟩:=Au (show (if xd.one = true then K ⟨.any,b++[(id,.row sz e (xs.set k xd),n)],[]⟩ else False) from hK)
    have hx1:xd.cells = [xd]:=by cases xd <;> first | rfl | simp [D.one] at hone
    rw [hx1] at hc2
    have hc2':off + 1≤1:=hc2
    have ho0:off = 0:=by omega
    subst ho0
    refine ⟨xd,⟨?_,?_⟩,hK2⟩
    ·rw [hx1]; rfl
    ·rw [hx1]; exact hysz
 rcases hrow with ⟨hlen,⟨hv',h0⟩ | ⟨gb,cap',cur,hv',hbg,hh,hnc,hm,hcs,ht⟩⟩ | ⟨h0,_⟩
 ·omega
 ·have hβb:=hβ
  rw [hv'] at hβb
  simp at hβb
  obtain ⟨rfl,rfl,rfl⟩:=hβb
  have hcells:(a.eval x).cells.size = xd.cells.length:=by have:=hr.1; simpa using this
  have hle:k * sz + sz≤xs.length * sz:=by rw [← Nat.succ_mul]; exact Nat.mul_le_mul_right _ hklt
  have hle2:xs.length * sz≤cur.size:=by rw [hcs]; exact Nat.mul_le_mul_right _ hnc
  have hfit:k * sz + off + (a.eval x).cells.size≤cur.size:=by rw [hcells]; omega
  have hrun:=Mt (P:=P) ho hv hi (by rw [hcells,hc1,Gz hi]) hh hfit hr.oneCell
  refine ⟨_,hK,.inr (.inl ⟨_,hrun,?_⟩)⟩
  have hflat:=Dw xs hszs
  have hsp:(xs.set k y').flatMap D.cells = splice (xs.flatMap D.cells) (k * sz + off) xd.cells:=by
   rw [Y0 xs k y y' hszs hy1 hy'.2,hy'.1]
   refine Wo _ _ _ _ _ (by rw [hflat,hysz]; exact hle) hc2 ?_
   apply List.ext_getElem?
   intro j
   rw [List.getElem?_take]
   split
   ·rename_i hj
    rw [List.getElem?_drop,Nh xs hszs k y j _ hy1 (List.getElem?_eq_getElem hj),List.getElem?_eq_getElem hj]
   ·rename_i hj
    rw [List.getElem?_eq_none (by omega)]
  have hcap0:cap'≠0:=by omega
  have hown:(Av (Be b S) id).box.owned = true:=by rw [hsame]; rfl
  have hbl:A1 (β id) = some gb:=by rw [hv']; simp [A1,hcap0]
  have h5:=h1.rebox (R':=X.R) (id:=id) (B:=.row sz e (xs.set k y')) (v:=β id) (n:=n)
   (w':=w.setRow gb (cur.toList.take (k * sz + off)++(a.eval x).cells.toList++cur.toList.drop (k * sz + off + (a.eval x).cells.size)).toArray)
   (fun _ h=>h) (by rw [BP]; exact hid) (.inr ⟨hver.symm,rfl,by rw [hsame]; simp⟩) (by simp) (AT.setRow _ _ _ (h1.mine id gb hown hbl).1)
   (fun q _ hk=>setRow_other w gb q _ (fun e=>hk hown (by rw [hbl,e])))
   (fun _ q hq=>⟨.inl ⟨hq,hown⟩,(h1.mine id q hown hq).2⟩)
   (fun kp _=>by
    rw [E3] at kp ⊢
    refine ⟨hpos,?_,vals.take (k * sz + off)++(a.eval x).cells.toList++vals.drop (k * sz + off + (a.eval x).cells.toList.length),.inl ⟨?_,.inr ⟨gb,cap',_,by rw [hv']; simp,hbg,setRow_heap w gb cur _ e _ hh,?_,hm,?_,?_⟩⟩,?_⟩
    ·intro z hz
     rcases List.mem_or_eq_of_mem_set hz with hz | hz
     ·exact hszs z hz
     ·rw [hz]; exact hy'.2
    ·simp only [List.length_append,List.length_take,List.length_drop,List.length_set,Array.length_toList]
     omega
    ·simpa using hnc
    ·simp only [List.size_toArray,List.length_append,List.length_take,List.length_drop,Array.length_toList]
     omega
    ·simp only [List.length_set]
     rw [← ht]
     apply List.ext_getElem?
     intro j
     simp only [List.getElem?_take,List.getElem?_append,List.getElem?_drop,List.length_append,List.length_take,Array.length_toList]
     split
     ·rename_i hj
      repeat' split
      all_goals first
       | rfl
       | omega
       | (congr 1; omega)
       | (rw [if_pos (by omega)]; congr 1; omega)
     ·rename_i hj
      repeat' split
      all_goals first
       | rfl
       | omega
       | (rw [List.getElem?_eq_none]; simp; omega)
       | (rw [if_neg (by omega)])
    ·rw [hsp]
     exact (hl.splice hr (o:=k * sz + off) (by rw [hflat]; omega)).mono kp)
  rw [E3] at h5
  refine ⟨β,?_,trivial,rfl⟩
  simp only [Bz,Be]
  exact h5
 ·omega
end
end Go.Abs
set_option linter.unusedVariables false
set_option linter.unusedSimpArgs false
namespace Go.Abs
open Go.RowKit (Below)
section
variable {P:Program} {X:Cx} {G:Nat→Prop} {β:Nat→Value} {S:AS} {a:Act} {w:World} {o:Oper}
theorem Sc (off:Nat):∀ (vs:List Value) (n:Nat) (cells:Array Value),off + n + vs.length≤cells.size →
 ((vs.zipIdx n).foldl (fun (cs:Array Value) (x:Value × Nat)=>cs.setIfInBounds (off + x.2) x.1) cells).toList = cells.toList.take (off + n)++vs++cells.toList.drop (off + n + vs.length)
 | [],n,cells,_=>by simp
 | v :: r,n,cells,h=>by
   simp only [List.length_cons] at h
   rw [List.zipIdx_cons,List.foldl_cons,Sc off r (n + 1) (cells.setIfInBounds (off + n) v) (by simp; omega)]
   have e:=list_seg_step cells.toList (off + n) v r (by simp; omega)
   simp only [Array.toList_setIfInBounds]
   rw [show off + (n + 1) = off + n + 1 by omega]
   simpa using e
def O1 (O:Nat→Prop) (w:World):List (Nat × Value)→List (Nat × D)→Prop
 | [],[]=>True
 | (i,v) :: r,(j,x) :: s=>i = j∧AB O w v x∧O1 O w r s
 | _,_=>False
theorem UM {O:Nat→Prop} {w:World} {place:Nat→Option (Nat × Nat)}:∀ {pv:List (Nat × Value)} {ps:List (Nat × D)} {cells:Array Value} {cs l:List D},O1 O w pv ps→Bo O w cells.toList cs→UK place cs ps = some l →
 ∃ arr,Instr.fill place cells pv = some arr∧Bo O w arr.toList l
 | [],[],cells,cs,l,_,hc,hf=>by simp [UK] at hf; subst hf; exact ⟨cells,rfl,hc⟩
 | (i,v) :: r,(j,x) :: s,cells,cs,l,hp,hc,hf=>by
   obtain ⟨rfl,hv,hp⟩:=hp
   simp only [UK] at hf
   split at hf
   ·cases hf
   ·rename_i off size hpl
    split at hf
    ·rename_i hcond
     have hcl:=Fz hv
     have hsz:v.cells.size = x.cells.length:=by simpa using hcl.1
     have hcs:cells.size = cs.length:=by simpa using hc.1
     have hfold:=Sc off v.cells.toList 0 cells (by simp; omega)
     simp only [Nat.add_zero] at hfold
     have hrep:Bo O w (v.cells.zipIdx.foldl (fun cs (x:Value × Nat)=>cs.setIfInBounds (off + x.2) x.1) cells).toList (splice cs off x.cells):=by
      rw [← Array.foldl_toList,Array.toList_zipIdx,hfold]
      exact hc.splice hcl (by omega)
     obtain ⟨arr,h1,h2⟩:=UM hp hrep hf
     refine ⟨arr,?_,h2⟩
     simp only [Instr.fill,hpl]
     rw [if_neg (by simp; omega)]
     exact h1
    ·cases hf
 | [],_ :: _,_,_,_,hp,_,_=>hp.elim
 | (_,_) :: _,[],_,_,_,hp,_,_=>hp.elim
theorem S3 (h:AE X G β S a w) {g:Option (Nat × Bool)} (hg:BB g a):∀ {BX:List (Nat × Operand)} {K:List (Nat × D)→Bx→Prop},Kp (ρOf S g) BX K →
 ∃ ps b,K ps b∧FZ S [] b∧Ji X G β S a w b fun O=>O1 O w (BX.map fun x=>(x.1,a.eval x.2)) ps
 | [],K,hy=>⟨[],[],hy,trivial,fun _ _ _ _ _=>trivial⟩
 | (i,x) :: r,K,hy=>by
   obtain ⟨xd,b,hK,hF,_,hrep⟩:=HO (x:=X) (G:=G) (a:=a) (ρ_sound h hg x) hy
   obtain ⟨ps,bs,hK,hFs,hreps⟩:=S3 h hg hK
   exact ⟨_,_,hK,hF.append hFs,(hrep.and hreps).mono (fun _ h=>h) fun O h=>⟨rfl,h.1,h.2⟩⟩
theorem S5 (h:AE X G β S a w) {g:Option (Nat × Bool)} (hg:BB g a):∀ {BX:List (Nat × Operand)} {K:List (Nat × D)→Bx→Prop},L3 (ρOf S g) BX K →
 ∃ ps b,K ps b∧FZ S [] b∧Ji X G β S a w b fun O=>O1 O w (BX.map fun x=>(x.1,a.eval x.2)) ps
 | [],K,hy=>⟨[],[],hy,trivial,fun _ _ _ _ _=>trivial⟩
 | (i,x) :: r,K,hy=>by
   obtain ⟨xd,b,hK,hF,_,hrep⟩:=SS (x:=X) (G:=G) (a:=a) (ρ_sound h hg x) hy
   obtain ⟨ps,bs,hK,hFs,hreps⟩:=S5 h hg hK
   exact ⟨_,_,hK,hF.append hFs,(hrep.and hreps).mono (fun _ h=>h) fun O h=>⟨rfl,h.1,h.2⟩⟩
theorem Vw {fields:List Field} (h:fields.all (fun f=>(P.info? f.type).isSome) = true) :
 (fields.mapM fun (f:Field)=>(do pure (f.offset,← sizeOf f.type):Sem (Nat × Nat))).run P w = .ok (fields.map fun (f:Field)=>(f.offset,AF P f.type)) w:=by
 induction fields with
 | nil=>simp
 | cons f r ih =>
   simp only [List.all_cons,Bool.and_eq_true] at h
   obtain ⟨h1,h2⟩:=h
   cases hi:P.info? f.type with
   | none=>simp [hi] at h1
   | some i =>
     have ih':=ih h2
     simp only [List.mapM_cons,Sem.run_bind,sizeOf,typeInfo,run_program,Result.andThen_ok,hi,Sem.run_pure,List.map_cons,AF] at ih' ⊢
     rw [ih']
     simp
theorem UD (h:AE X G β S a w) {g:Option (Nat × Bool)} (hg:BB g a) {t:TypeId} {BX:Array (Nat × Operand)} (ho:o.op = .build t BX) {fields:Array Field} (hu:P.underlying t = some (.struct fields))
 {zd:List D} (hzd:zeroCells P t = some zd) (hall:fields.toList.all (fun f=>(P.info? f.type).isSome) = true) {K:F3→Prop}
 (hy:Kp (ρOf S g) BX.toList fun ps b=>match UK (fun i=>match fields[i]? with | some f=>some (f.offset,AF P f.type) | none=>none) zd ps with
  | some l=>Ci l fun l=>K ⟨.d (.agg l),b,[]⟩
  | none=>False):∃ e,K e∧Cw P X G S a w o e:=by
 obtain ⟨ps,b,hK,hF,hrep⟩:=S3 h hg hy
 obtain ⟨h1,h2,_⟩:=hF.run h
 have hp:=hrep.now h hF
 split at hK
 ·rename_i l hl
  rw [B5] at hK
  obtain ⟨i,z,hi,hz,hzr⟩:=FG (O:=OS β X (Be b S)) (w:=w) hzd
  obtain ⟨arr,h3,h4⟩:=UM hp hzr hl
  have hplace:(fun (i:Nat)=>match (fields[i]?:Option Field) with | some f=>some (f.offset,AF P f.type) | none=>none) = fun i=>(fields.map fun (f:Field)=>(f.offset,AF P f.type))[i]?:=by
   funext i
   rw [Array.getElem?_map]
   cases fields[i]? <;> rfl
  rw [hplace] at h3
  have hpl:(fields.mapM fun (f:Field)=>(do pure (f.offset,← sizeOf f.type):Sem (Nat × Nat))).run P w = .ok (fields.map fun (f:Field)=>(f.offset,AF P f.type)) w:=by
   rw [Array.mapM_eq_mapM_toList,Sem.run_map,Vw hall]
   simp only [Result.andThen_ok]
   congr 1
   apply Array.ext'
   simp
  refine ⟨_,hK,.inl ⟨.agg arr,w,?_,β,h1,?_,rfl⟩⟩
  ·simp only [execOp,ho,Instr.build,Sem.run_bind,zeroValue,typeInfo,run_program,hi,hz,Result.andThen_ok,Sem.run_pure,run_underlying hu,hpl,Array.toList_map]
   rw [h3]
   simp
  ·refine .agg _ _ (by simpa using h4.1) (fun y hy=>?_) (fun j v y hv hy=>(h4.2 j v y (by simpa using hv) hy).1)
   obtain ⟨j,hj⟩:=List.mem_iff_getElem?.1 hy
   have hlt:j < arr.toList.length:=by rw [h4.1]; exact AD hj
   exact (h4.2 j _ y (List.getElem?_eq_getElem hlt) hj).2
 ·exact hK.elim
theorem UL {sz:Nat}:∀ (pv:List (Nat × Value)) (k:Nat) (cells:Array Value),(∀ (j:Nat) x,pv[j]? = some x→x.1 = k + j∧x.2.cells.size = sz)→cells.size = (k + pv.length) * sz →
 ∃ arr,Instr.fill (fun i=>some (i * sz,sz)) cells pv = some arr∧arr.toList = cells.toList.take (k * sz)++pv.flatMap (fun x=>x.2.cells.toList)
 | [],k,cells,_,hc=>⟨cells,rfl,by simp at hc ⊢; rw [← hc]; exact (List.take_of_length_le (by simp)).symm⟩
 | (i,v) :: r,k,cells,hp,hc=>by
   obtain ⟨h1,h2⟩:=hp 0 (i,v) (by simp)
   simp only [Nat.add_zero] at h1 h2
   subst h1
   simp only [List.length_cons] at hc
   have hsp:(i + (r.length + 1)) * sz = i * sz + sz + r.length * sz:=by rw [Nat.add_mul,Nat.add_mul]; omega
   have hfit:i * sz + v.cells.size≤cells.size:=by omega
   have hfold:=Sc (i * sz) v.cells.toList 0 cells (by simp; omega)
   simp only [Nat.add_zero,Array.length_toList] at hfold
   have hl:(v.cells.zipIdx.foldl (fun (cs:Array Value) (x:Value × Nat)=>cs.setIfInBounds (i * sz + x.2) x.1) cells).toList = cells.toList.take (i * sz)++v.cells.toList++cells.toList.drop (i * sz + v.cells.size):=by
    rw [← Array.foldl_toList,Array.toList_zipIdx]; exact hfold
   obtain ⟨arr,h3,h4⟩:=UL (sz:=sz) r (i + 1) (v.cells.zipIdx.foldl (fun (cs:Array Value) (x:Value × Nat)=>cs.setIfInBounds (i * sz + x.2) x.1) cells)
    (fun j x hx=>by have:=hp (j + 1) x (by simpa using hx); omega)
    (by rw [← Array.length_toList,hl]; simp; rw [show i + 1 + r.length = i + (r.length + 1) by omega]; omega)
   refine ⟨arr,?_,?_⟩
   ·simp only [Instr.fill]
    rw [if_neg (by simp; omega)]
    exact h3
   ·rw [h4,hl,List.flatMap_cons]
    rw [List.take_append_of_le_length (by simp [Nat.add_mul]; omega),List.take_of_length_le (by simp [Nat.add_mul]; omega)]
    simp
theorem Q0 {O:Nat→Prop} {w:World}:∀ {pv:List (Nat × Value)} {ps:List (Nat × D)} {k:Nat} {l:List D},O1 O w pv ps→PS k ps = some l →
 pv.length = l.length∧(∀ (j:Nat) x,pv[j]? = some x→x.1 = k + j∧∃ y,l[j]? = some y∧AB O w x.2 y)∧Bo O w (pv.flatMap (fun x=>x.2.cells.toList)) (l.flatMap D.cells)
 | [],[],k,l,_,hl=>by simp [PS] at hl; subst hl; exact ⟨rfl,fun j x hx=>by simp at hx,Bo.nil⟩
 | (i,v) :: r,(j,x) :: s,k,l,hp,hl=>by
   obtain ⟨rfl,hv,hp⟩:=hp
   simp only [PS] at hl
   split at hl
   ·rename_i hik
    subst hik
    simp at hl
    obtain ⟨l',h1,rfl⟩:=hl
    obtain ⟨h2,h3,h4⟩:=Q0 hp h1
    refine ⟨by simp [h2],fun j y hy=>?_,?_⟩
    ·cases j with
     | zero=>simp at hy; subst hy; exact ⟨rfl,x,rfl,hv⟩
     | succ j=>have:=h3 j y (by simpa using hy); exact ⟨by omega,by simpa using this.2⟩
    ·simp only [List.flatMap_cons]
     exact (Fz hv).append h4
   ·cases hl
 | [],_ :: _,_,_,hp,_=>hp.elim
 | (_,_) :: _,[],_,_,hp,_=>hp.elim
theorem Iy {e:TypeId} (h:J7 P e = true):∃ i z,P.info? e = some i∧i.zero = some z∧z.cells.size = i.size:=by
 unfold J7 at h
 split at h
 ·rename_i i hi
  split at h
  ·rename_i z hz
   exact ⟨i,z,hi,hz,by simpa using h⟩
  ·cases h
 ·cases h
theorem TX (h:AE X G β S a w) {g:Option (Nat × Bool)} (hg:BB g a) {d:Nat} (hd:d < S.length) {t e:TypeId} {n:Nat} {BX:Array (Nat × Operand)} (ho:o.op = .buildSlice t n BX) (hu:P.underlying t = some (.slice e))
 {K:F3→Prop} (hy:L3 (ρOf S g) BX.toList fun ps b=>match PS 0 ps with
  | some l=>Ci l fun l =>
    if l.length = n∧0 < AF P e∧J7 P e = true∧n * AF P e≤16777216∧l.all (fun x=>x.cells.length==AF P e) then K ⟨.sl d ((Av S d).ver + 1),b++[(d,.row (AF P e) e l,(Av S d).ver + 1)],[]⟩ else False
  | none=>False):∃ e,K e∧Cw P X G S a w o e:=by
 obtain ⟨ps,b,hK,hF,hrep⟩:=S5 h hg hy
 obtain ⟨h1,h2,hfr⟩:=hF.run h
 have hp:=hrep.now h hF
 split at hK
 ·rename_i l hl
  rw [B5] at hK
  obtain ⟨⟨hn,hs0,hz,hbound,hall⟩,hK2⟩:=Au hK
  clear hK
  obtain ⟨i,z,hi,hz,hzs⟩:=Iy hz
  have hsize:AF P e = i.size:=Gz hi
  obtain ⟨h3,h4,h5⟩:=Q0 hp hl
  have hcells:∀ x∈l,x.cells.length = AF P e:=by simpa using hall
  have hpl:BX.size = n:=by rw [← hn,← h3]; simp
  by_cases hn0:n = 0
  ·subst hn0
   have hl0:l = []:=List.eq_nil_of_length_eq_zero hn
   subst hl0
   have hps:BX.toList = []:=by apply List.eq_nil_of_length_eq_zero; simpa using hpl
   obtain ⟨β',h8,h9⟩:=Js h1 (d:=d) (by rw [BP]; exact hd) (HP (.cells #[] e)) (v:=.slice (some ⟨w.heap.size,0,none⟩) 0 0) (e:=e) (xs:=[]) (vals:=[]) hs0 (fun _ h=>by cases h)
    (.inr ⟨rfl,rfl,_,rfl⟩) (fun b hb=>by simp [A1] at hb) Bo.nil
   rw [hfr.ver] at h8 h9
   refine ⟨_,hK2,.inl ⟨.slice (some ⟨w.heap.size,0,none⟩) 0 0,w.alloc (.cells #[] e),?_,β',?_,?_,rfl⟩⟩
   ·simp [execOp,ho,Instr.buildSlice,run_underlying hu,sizeOf,typeInfo,hi,hps,Instr.fill,newRow,Array.range_zero']
   ·simp only [Bz,Be]; exact h8
   ·simp only [Bz,Be]; exact h9
  have hn0:0 < n:=Nat.pos_of_ne_zero hn0
  obtain ⟨arr,h6,h7⟩:=UL (sz:=i.size) (BX.toList.map fun x=>(x.1,a.eval x.2)) 0 ((Array.range (n * i.size)).map (z.cells[· % z.cells.size]!))
   (fun j x hx=>by
    obtain ⟨h8,y,h9,h10⟩:=h4 j x hx
    refine ⟨h8,?_⟩
    have:=(Fz h10).1
    rw [hcells y (List.mem_of_getElem? h9),hsize] at this
    simpa using this)
   (by simp [hpl])
  simp only [Nat.zero_mul,List.take_zero,List.nil_append] at h7
  have hlen:arr.size = n * i.size:=by
   have:=h5.1
   rw [← h7,Dw l hcells,hn,hsize] at this
   simpa using this
  obtain ⟨β',h8,h9⟩:=Js h1 (d:=d) (by rw [BP]; exact hd) (HP (.cells arr e)) (v:=.slice (some ⟨w.heap.size,0,none⟩) n n) (e:=e) (xs:=l) (vals:=arr.toList) hs0 hcells
   (.inl ⟨by rw [hn,hsize]; rw [Array.length_toList]; exact hlen,.inr ⟨w.heap.size,n,arr,by rw [hn],Nat.zero_le _,heap_alloc_new w _,by omega,by
    have:n≤n * AF P e:=Nat.le_mul_of_pos_right n hs0
    unfold maxLen; omega,by rw [hsize]; exact hlen,by rw [hn,hsize,← hlen]; exact List.take_of_length_le (by simp)⟩⟩)
   (fun b hb=>by simp [A1] at hb; omega)
   (by
    rw [h7]
    refine h5.mono ⟨by simp,fun b' hb' hO=>?_,fun b' hb' _=>heap_alloc_old w _ b' hb'⟩
    rcases hO with hO | hO
    ·exact hO
    ·simp [A1] at hO; omega)
  rw [hfr.ver] at h8 h9
  refine ⟨_,hK2,.inl ⟨.slice (some ⟨w.heap.size,0,none⟩) n n,w.alloc (.cells arr e),?_,β',?_,?_,rfl⟩⟩
  ·have hb2:¬ (n * i.size > 2 ^ 24):=by rw [← hsize]; omega
   have hb3:¬ (n * i.size = 0):=by
    rw [← hsize]
    have:=Nat.mul_pos hn0 hs0
    omega
   simp only [execOp,ho,Instr.buildSlice,Sem.run_bind,run_underlying hu,Result.andThen_ok,sizeOf,typeInfo,run_program,hi,Sem.run_pure,hb2,if_false,hb3,zeroValue,hz,Array.toList_map]
   rw [h6]
   simp [newRow]
  ·simp only [Bz,Be]; exact h8
  ·simp only [Bz,Be]; exact h9
 ·exact hK.elim
theorem cC {O:Nat→Prop} {z:Value} {sz:Nat} {x:D} (hx:Bo O w z.cells.toList x.cells) (hs:z.cells.size = sz) (h0:0 < sz) (n c:Nat) (hc:n≤c) :
 ((madeCells z.cells (c * sz)).toList.take (n * sz)).length = n * sz∧Bo O w ((madeCells z.cells (c * sz)).toList.take (n * sz)) ((List.replicate n x).flatMap D.cells):=by
 have hle:n * sz≤c * sz:=Nat.mul_le_mul_right _ hc
 have hlen:((madeCells z.cells (c * sz)).toList.take (n * sz)).length = n * sz:=by simp [size_madeCells,Nat.min_eq_left hc]
 have hxl:x.cells.length = sz:=by rw [← hx.1]; simpa using hs
 have hfl:=Dw (sz:=sz) (List.replicate n x) (fun y hy=>by rw [List.eq_of_mem_replicate hy]; exact hxl)
 refine ⟨hlen,by rw [hlen,hfl]; simp,fun j v y hv hy=>?_⟩
 have hj:j < n * sz:=by rw [← hlen]; exact AD hv
 have hdn:j / sz < n:=by rw [Nat.div_lt_iff_lt_mul h0]; exact hj
 have hm:j % sz < sz:=Nat.mod_lt _ h0
 have hyy:((List.replicate n x).flatMap D.cells)[j]? = some (x.cells[j % sz]'(by rw [hxl]; exact hm)):=by
  have:=Nh (sz:=sz) (List.replicate n x) (fun y hy=>by rw [List.eq_of_mem_replicate hy]; exact hxl) (j / sz) x (j % sz) _ (by simp [hdn]) (List.getElem?_eq_getElem (by rw [hxl]; exact hm))
  rwa [Nat.mul_comm,Nat.div_add_mod] at this
 rw [hyy] at hy
 cases hy
 rw [List.getElem?_take_of_lt hj] at hv
 have hv':v = z.cells.toList[j % sz]'(by simpa [hs] using hm):=by
  have hjc:j < c * sz:=by omega
  have hms:j % sz < z.cells.size:=by rw [hs]; exact hm
  simp [madeCells,hjc,hs] at hv
  rw [← hv]
  simp [hms]
 exact hx.2 (j % sz) v _ (by rw [hv']; exact List.getElem?_eq_getElem _) (List.getElem?_eq_getElem _)
theorem Zj {t:TypeId} {K:D→Prop} (hy:Xa P t K):∃ x,K x∧∃ i z,P.info? t = some i∧i.zero = some z∧∀ (O:Nat→Prop) (w:World),Bo O w z.cells.toList x.cells:=by
 unfold Xa at hy
 split at hy
 ·rename_i l hl
  obtain ⟨i,z,hi,hz,-⟩:=FG (O:=fun _=>True) (w:=default) hl
  have hr:∀ (O:Nat→Prop) (w:World),Bo O w z.cells.toList l:=by
   intro O w
   obtain ⟨i',z',hi',hz',hr⟩:=FG (O:=O) (w:=w) hl
   rw [hi] at hi'; cases hi'
   rw [hz] at hz'; cases hz'
   exact hr
  split at hy
  ·rw [Sv] at hy
   exact ⟨_,hy,i,z,hi,hz,fun O w=>(hr O w).norm⟩
  ·split at hy
   ·rename_i y
    rw [I0] at hy
    refine ⟨_,hy,i,z,hi,hz,fun O w=>?_⟩
    have h1:y.one = true:=((hr O w).2 0 _ y (List.getElem?_eq_getElem (by rw [(hr O w).1]; simp)) rfl).2
    have e:(norm y).cells = [norm1 y]:=by cases y <;> first | rfl | simp [D.one] at h1
    rw [e]
    exact (hr O w).norm
   ·exact hy.elim
  ·exact hy.elim
 ·exact hy.elim
theorem aX (h:AE X G β S a w) {g:Option (Nat × Bool)} (hg:BB g a) {d:Nat} (hd:d < S.length) {t e:TypeId} {x y:Operand} (ho:o.op = .makeSlice t x y) (hu:P.underlying t = some (.slice e)) (hs0:0 < AF P e) (hz:J7 P e = true)
 {k k':IntKind} {l c:Int} (hx:ρOf S g x = .d (.int k l)) (hy:ρOf S g y = .d (.int k' c)) {K:F3→Prop}
 (hyy:Xa P e fun z=>Ij (0≤l∧l≤c∧c≤maxLen∧(My P e:Int) * c≤281474976710656) (K ⟨.sl d ((Av S d).ver + 1),[(d,.row (AF P e) e (List.replicate l.toNat z),(Av S d).ver + 1)],[]⟩)):∃ e,K e∧Cw P X G S a w o e:=by
 have ex:=ρ_sound h hg x
 rw [hx] at ex
 have ex:=BR ex
 have ey:=ρ_sound h hg y
 rw [hy] at ey
 have ey:=BR ey
 obtain ⟨z,hyy,i,zv,hi,hzv,hzr⟩:=Zj hyy
 obtain ⟨⟨h0,h1,h2,h3⟩,hK⟩:=hyy
 obtain ⟨i',z',hi',hz',hzs⟩:=Iy hz
 rw [hi] at hi'; cases hi'
 rw [hzv] at hz'; cases hz'
 have hsize:AF P e = i.size:=Gz hi
 have hbytes:My P e = i.bytes:=by simp [My,hi]
 rw [hbytes] at h3
 have hm:maxLen≤9223372036854775807:=by unfold maxLen; omega
 have hrun:=run_make (P:=P) w t e i zv hu hi hzv k k' l c h0 h1 h3 (by omega)
 have hmr:=cC (w:=w.alloc (.cells (madeCells zv.cells (c.toNat * i.size)) e)) (hzr (fun b=>OS β X S b∨A1 (.slice (some ⟨w.heap.size,0,none⟩) l.toNat c.toNat) = some b) _) hzs (by rw [← hsize]; exact hs0) l.toNat c.toNat (by omega)
 have hzl:z.cells.length = i.size:=by have:=(hzr (fun _=>True) w).1; rw [← this]; simpa using hzs
 obtain ⟨β',h8,h9⟩:=Js h hd (HP (.cells (madeCells zv.cells (c.toNat * i.size)) e)) (v:=.slice (some ⟨w.heap.size,0,none⟩) l.toNat c.toNat) (e:=e) (sz:=AF P e) (xs:=List.replicate l.toNat z)
  (vals:=(madeCells zv.cells (c.toNat * i.size)).toList.take (l.toNat * i.size)) hs0 (fun y hy=>by rw [List.eq_of_mem_replicate hy,hsize]; exact hzl)
  (.inl ⟨by rw [hsize,hmr.1]; simp,.inr ⟨w.heap.size,c.toNat,_,by simp,Nat.zero_le _,heap_alloc_new w _,by simp; omega,by omega,by rw [size_madeCells,hsize],by rw [hsize]; simp⟩⟩)
  (fun b hb=>by simp [A1] at hb; omega) hmr.2
 refine ⟨_,hK,.inl ⟨_,_,?_,β',h8,h9,rfl⟩⟩
 simp [execOp,ho,ex,ey,hrun]
theorem WQ {f:Nat→Value} {N j:Nat} {u:Value} (h:((List.range N).map f)[j]? = some u):j < N∧f j = u:=by
 rw [List.getElem?_map] at h
 rcases Nat.lt_or_ge j N with hj | hj
 ·rw [List.getElem?_range hj] at h; simp at h; exact ⟨hj,h⟩
 ·rw [List.getElem?_eq_none (by simpa using hj)] at h; cases h
theorem Qb (h:AE X G β S a w) {r:RV} {v:Value} (hr:MP β (OS β X S) S w v r) {K:Nat→List D→Prop} (hy:M8 r K) :
 ∃ sz ys,K sz ys∧∃ ad c,v = .slice ad ys.length c∧(ys = []∨∃ ad' news,ad = some ad'∧Bo (OS β X S) w news (ys.flatMap D.cells)∧(∀ x∈ys,x.cells.length = sz)∧∀ (j:Nat) u,news[j]? = some u→w.cell? (ad'.add j) = some u):=by
 have key:∀ sz ys,AB (OS β X S) w v (.list sz ys)→∃ ad c,v = .slice ad ys.length c∧(ys = []∨∃ ad' news,ad = some ad'∧Bo (OS β X S) w news (ys.flatMap D.cells)∧(∀ x∈ys,x.cells.length = sz)∧∀ (j:Nat) u,news[j]? = some u→w.cell? (ad'.add j) = some u):=by
  intro sz ys hl
  cases hl with
  | emp ad cap _=>exact ⟨ad,cap,rfl,.inl rfl⟩
  | list b off cap _ _ c hne hb hO hcap hsz h1 hcell hrep =>
    refine ⟨_,cap,rfl,.inr ?_⟩
    have hpos:∀ j,j < (ys.flatMap D.cells).length→∃ x y,ys[j / sz]? = some x∧x.cells[j % sz]? = some y∧(ys.flatMap D.cells)[j]? = some y∧0 < sz:=by
     intro j hj
     rw [Dw ys hsz] at hj
     have hs0:0 < sz:=by
      rcases Nat.eq_zero_or_pos sz with h | h
      ·subst h; simp at hj
      ·exact h
     have hd:j / sz < ys.length:=by rw [Nat.div_lt_iff_lt_mul hs0]; exact hj
     have hm:j % sz < ys[j / sz].cells.length:=by rw [hsz _ (List.getElem_mem hd)]; exact Nat.mod_lt _ hs0
     refine ⟨ys[j / sz],ys[j / sz].cells[j % sz],List.getElem?_eq_getElem hd,List.getElem?_eq_getElem hm,?_,hs0⟩
     have:=Nh ys hsz (j / sz) _ (j % sz) _ (List.getElem?_eq_getElem hd) (List.getElem?_eq_getElem hm)
     rwa [Nat.mul_comm,Nat.div_add_mod] at this
    refine ⟨⟨b,off,none⟩,(List.range (ys.flatMap D.cells).length).map fun j=>c (j / sz) (j % sz),rfl,⟨by simp,fun j u y hu hy=>?_⟩,hsz,fun j u hu=>?_⟩
    ·obtain ⟨hj,rfl⟩:=WQ hu
     obtain ⟨x,y',h2,h3,h4,_⟩:=hpos j hj
     rw [h4] at hy
     cases hy
     exact ⟨hrep _ _ _ _ h2 h3,h1 x (List.mem_of_getElem? h2) y (List.mem_of_getElem? h3)⟩
    ·obtain ⟨hj,rfl⟩:=WQ hu
     obtain ⟨x,y',h2,h3,h4,_⟩:=hpos j hj
     rw [F4]
     have:=hcell _ _ _ _ h2 h3
     rwa [Nat.add_assoc,Nat.mul_comm,Nat.div_add_mod] at this
 cases r <;> simp only [M8] at hy
 case d x =>
  cases x <;> simp only at hy
  case nil sz =>
   have hr:AB (OS β X S) w v (.nil sz):=hr
   have:∃ ad,v = .slice ad 0 0:=by cases hr; exact ⟨_,rfl⟩
   obtain ⟨ad,hv⟩:=this
   exact ⟨sz,[],hy,ad,0,hv,.inl rfl⟩
  case list sz xs=>exact ⟨sz,xs,hy,key sz xs hr⟩
 case lim sz xs=>exact ⟨sz,xs,hy,key sz xs hr.1⟩
 case row id n sz e xs =>
  obtain ⟨hb,_,hv⟩:=hr
  have hbx:=h.boxes id
  rw [hb] at hbx
  obtain ⟨h1,h2,vals,h3,h4⟩:=hbx
  refine ⟨sz,xs,hy,?_⟩
  rcases h3 with ⟨hlen,⟨hv',h0⟩ | ⟨g,cap,cur,hv',hbg,hh,hn,hm,hcs,ht⟩⟩ | ⟨h0,_,ad,hv'⟩
  ·exact ⟨none,0,by rw [hv,hv',h0],.inl (List.eq_nil_of_length_eq_zero h0)⟩
  ·refine ⟨some ⟨g,0,none⟩,cap,by rw [hv,hv'],.inr ⟨_,vals,rfl,h4,h2,fun j u hu=>?_⟩⟩
   rw [F4,Nat.zero_add]
   rw [← ht,List.getElem?_take] at hu
   split at hu
   ·simp [World.cell?,hh]; simpa using hu
   ·cases hu
  ·exact ⟨some ad,0,by rw [hv,hv',h0],.inl (List.eq_nil_of_length_eq_zero h0)⟩
theorem Ol {t ty e:TypeId} {i:TypeInfo} (ht:P.underlying t = some (.slice e)) (hi:P.info? e = some i) (b ad:Option Addr) (n cap c:Nat) (hn:n≤cap) :
 (Builtin.append_ #[t,t] ty #[.slice b n cap,.slice ad 0 c]).run P w = .ok (.slice b n cap) w:=by
 cases b <;> cases ad <;> simp [Builtin.append_,run_underlying ht,sizeOf,typeInfo,hi,Builtin.lenOf,hn,Builtin.firstCells,loadCells,loadCellsFrom,storeCells]
theorem Ty (h:AE X G β S a w) {x y:Operand} {t e:TypeId} (ho:o.op = .call ⟨.builtin .append,#[x,y],#[t,t]⟩) (hu:P.underlying t = some (.slice e)) {sz:Nat} {ys:List D} (hsz:sz = AF P e) (hz:J7 P e = true)
 {sz':Nat} {ad:Option Addr} {c:Nat} (hy:a.eval y = .slice ad ys.length c)
 (hys:ys = []∨∃ ad' news,ad = some ad'∧Bo (OS β X S) w news (ys.flatMap D.cells)∧(∀ x∈ys,x.cells.length = sz')∧∀ (j:Nat) u,news[j]? = some u→w.cell? (ad'.add j) = some u)
 (hs':ys = []∨sz' = sz) {xs:List D} (hszs:∀ x∈xs,x.cells.length = sz) {vals:List Value} {O:Nat→Prop} (hO:∀ b,O b→OS β X S b) (hl:Bo O w vals (xs.flatMap D.cells))
 {b0:Option Addr} {cap:Nat} (hv:a.eval x = .slice b0 xs.length cap) (hcap:xs.length≤cap) (hold:xs.length = 0∧cap = 0∨∃ ad0,b0 = some ad0∧∀ (j:Nat) u,vals[j]? = some u→w.cell? (ad0.add j) = some u)
 (hm:xs.length + ys.length≤maxLen) (hb:(xs.length + ys.length) * My P e≤140737488355328) (hgrow:cap < xs.length + ys.length) :
 ∃ cp w',(execOp a.eval o).run P w = .ok (.value (.slice (some ⟨w.heap.size,0,none⟩) (xs.length + ys.length) cp)) w'∧Below w.heap.size w w' ∧
   ∃ vals',Ca w' e sz (.slice (some ⟨w.heap.size,0,none⟩) (xs.length + ys.length) cp) (xs++ys).length vals'∧Bo O w vals' ((xs++ys).flatMap D.cells)∧(∀ x∈ys,x.cells.length = sz):=by
 obtain ⟨i,z,hi,hz,hzs⟩:=Iy hz
 have hsize:sz = i.size:=by rw [hsz,Gz hi]
 have hbytes:My P e = i.bytes:=by simp [My,hi]
 rw [hbytes] at hb
 have hye:ys≠[]:=by intro e; subst e; simp at hgrow; omega
 obtain ⟨ad',news,rfl,hnl,hnsz,hnews⟩:=hys.resolve_left hye
 have hse:sz' = sz:=hs'.resolve_left hye
 subst hse
 have hm0:0 < ys.length:=List.length_pos_iff.2 hye
 have hnlen:news.length = ys.length * i.size:=by rw [hnl.1,Dw ys hnsz,hsize]
 have hvlen:vals.length = xs.length * i.size:=by rw [hl.1,Dw xs hszs,hsize]
 have h63:((xs.length + ys.length:Nat):Int)≤9223372036854775807:=by unfold maxLen at hm; omega
 have hflat:Bo O w (vals++news) ((xs++ys).flatMap D.cells):=by rw [List.flatMap_append]; exact hl.append (hnl.mono (B4.of_sub hO))
 have hexec:∀ v' w',(Builtin.append_ #[t,t] o.type #[a.eval x,a.eval y]).run P w = .ok v' w'→(execOp a.eval o).run P w = .ok (.value v') w':=by
  intro v' w' hr
  simp [execOp,ho,resolve,invoke,builtin,hr]
 have hge:xs.length + ys.length≤grownCap w (xs.length + ys.length) cap e:=grownCap_ge w _ cap e
 have hcm:grownCap w (xs.length + ys.length) cap e≤maxLen:=grownCap_le_maxLen w _ cap e hm
 have hr:(Builtin.append_ #[t,t] o.type #[a.eval x,a.eval y]).run P w = .ok (.slice (some ⟨w.heap.size,0,none⟩) (xs.length + ys.length) (grownCap w (xs.length + ys.length) cap e)) (w.drew.alloc (.cells (vals.toArray++news.toArray++Builtin.zeroCells z.cells (grownCap w (xs.length + ys.length) cap e - (xs.length + ys.length))) e)):=by
  rcases hold with ⟨hx0,hc0⟩ | ⟨ad0,rfl,hcells⟩
  ·subst hc0
   have hxe:xs = []:=List.eq_nil_of_length_eq_zero hx0
   subst hxe
   have hv00:vals = []:=List.eq_nil_of_length_eq_zero (by rw [hvlen]; simp)
   subst hv00
   rw [hv,hy]
   cases b0 with
   | none =>
     have:=run_append_nil (P:=P) w t o.type e i z hu hi hz ad' ys.length c news hnlen hnews hm0 (by simpa using h63) (by simp at hb; omega)
     simpa using this
   | some b0 =>
     have:=run_append_grow (P:=P) w t o.type e i z hu hi hz b0 0 0 [] (by simp) (fun j v hv=>by simp at hv) ad' ys.length c news hnlen hnews (by omega) (by simpa using h63) (growslice_fits (by omega) (by simpa using hb))
     simpa using this
  ·rw [hv,hy]
   exact run_append_grow (P:=P) w t o.type e i z hu hi hz ad0 xs.length cap vals hvlen hcells ad' ys.length c news hnlen hnews (by omega) h63 (growslice_fits (by omega) hb)
 refine ⟨_,_,hexec _ _ hr,(Below.refl _ _).drew.alloc (Nat.le_refl _) _,vals++news,.inl ⟨?_,.inr ⟨w.heap.size,grownCap w (xs.length + ys.length) cap e,_,by simp,Nat.zero_le _,heap_alloc_new w.drew _,by simpa using hge,hcm,?_,?_⟩⟩,hflat,hnsz⟩
 ·simp [hvlen,hnlen,hsize,Nat.add_mul]
 ·simp only [Array.size_append,List.size_toArray,size_zeroCells,hzs,hvlen,hnlen,← hsize,← Nat.add_mul]
  congr 1
  omega
 ·have:(xs++ys).length * sz' = (vals++news).length:=by simp [hvlen,hnlen,hsize,Nat.add_mul]
  rw [this]
  simp only [Array.toList_append,List.append_assoc]
  rw [← List.append_assoc]
  exact List.take_left
theorem Yp (h:AE X G β S a w) {x y:Operand} {t e:TypeId} (ho:o.op = .call ⟨.builtin .append,#[x,y],#[t,t]⟩) (hu:P.underlying t = some (.slice e)) {id n sz:Nat} {xs ys:List D}
 (hx:MP β (OS β X S) S w (a.eval x) (.row id n sz e xs)) (hsz:sz = AF P e) (hz:J7 P e = true) {sz':Nat} {ad:Option Addr} {c:Nat} (hy:a.eval y = .slice ad ys.length c)
 (hys:ys = []∨∃ ad' news,ad = some ad'∧Bo (OS β X S) w news (ys.flatMap D.cells)∧(∀ x∈ys,x.cells.length = sz')∧∀ (j:Nat) u,news[j]? = some u→w.cell? (ad'.add j) = some u)
 (hm:xs.length + ys.length≤maxLen) (hb:(xs.length + ys.length) * My P e≤140737488355328) (hs':ys = []∨sz' = sz) :
 Cw P X G S a w o ⟨.sl id (n + 1),[(id,.row sz e (xs++ys),n + 1)],[]⟩:=by
 obtain ⟨hbx,hver,hv⟩:=hx
 have hid:id < S.length:=Lv hbx (by simp)
 have hbox:=h.boxes id
 rw [hbx] at hbox
 obtain ⟨hpos,hszs,vals,hrow,hl⟩:=hbox
 have hown:(Av S id).box.owned = true:=by rw [hbx]; rfl
 have GD:∀ v' w',(execOp a.eval o).run P w = .ok (.value v') w'→w.heap.size≤w'.heap.size→AT X.base X.M w w' →
  (∀ b,b < w.heap.size→A1 (β id)≠some b→w'.heap[b]? = w.heap[b]?)→(∀ b,A1 v' = some b→A1 (β id) = some b∨w.heap.size≤b)→(∀ x∈ys,x.cells.length = sz) →
  (∃ vals',Ca w' e sz v' (xs++ys).length vals'∧Bo (OS β X S) w vals' ((xs++ys).flatMap D.cells)) →
  Cw P X G S a w o ⟨.sl id (n + 1),[(id,.row sz e (xs++ys),n + 1)],[]⟩:=by
  intro v' w' hr hs hbl hkeep hown' hyz hrw
  obtain ⟨vals',hr1,hr2⟩:=hrw
  refine .inl ⟨v',w',hr,IY β id v',?_,?_,rfl⟩
  ·exact h.rebox (R':=X.R) (fun _ h=>h) hid (.inl (by rw [hver]; omega)) hs hbl (fun b hb hk=>hkeep b hb (hk hown))
    (fun _ b hb=>by
     rcases hown' b hb with hh | hh
     ·exact ⟨.inl ⟨hh,hown⟩,(h.mine id b hown hh).2⟩
     ·exact ⟨.inr (.inl hh),fun hr=>by have:=(h.rs b hr).2; omega⟩)
    (fun k _=>⟨hpos,fun z hz=>by rcases List.mem_append.1 hz with hz | hz; exact hszs z hz; exact hyz z hz,vals',by simp only [IY,if_true]; exact hr1,hr2.mono k⟩)
  ·have:AU (Be [(id,.row sz e (xs++ys),n + 1)] S) id = n + 1:=by simp [Be,AU,Cd,hid]
   exact ⟨by rw [this]; exact Nat.le_refl _,fun _=>by simp [IY]⟩
 obtain ⟨i,z,hi,hz',hzs⟩:=Iy hz
 have hsize:sz = i.size:=by rw [hsz,Gz hi]
 obtain ⟨b0,cap,hv0,hle,hold⟩:∃ b0 cap,a.eval x = .slice b0 xs.length cap∧xs.length≤cap∧(xs.length = 0∧cap = 0∨∃ ad0,b0 = some ad0∧∀ (j:Nat) u,vals[j]? = some u→w.cell? (ad0.add j) = some u):=by
  rw [hv]
  rcases hrow with ⟨_,⟨hv',h0⟩ | ⟨g,cap,cur,hv',_,hh,hn,_,_,htk⟩⟩ | ⟨h0,_,ad',hv'⟩
  ·exact ⟨_,_,by rw [hv',h0],by omega,.inl ⟨h0,rfl⟩⟩
  ·refine ⟨_,cap,hv',hn,.inr ⟨_,rfl,fun j u hj=>?_⟩⟩
   rw [F4,Nat.zero_add]
   rw [← htk,List.getElem?_take] at hj
   split at hj
   ·simp [World.cell?,hh]; simpa using hj
   ·cases hj
  ·exact ⟨_,_,by rw [hv',h0],by omega,.inl ⟨h0,rfl⟩⟩
 by_cases hye:ys = []
 ·subst hye
  simp only [List.append_nil] at GD ⊢
  refine GD (a.eval x) w ?_ (Nat.le_refl _) (AT.refl _ _ _) (fun _ _ _=>rfl) (fun b hb=>.inl (by rw [← hv]; exact hb)) (fun _ h=>by cases h) ⟨vals,by rw [hv]; exact hrow,hl⟩
  have:=Ol (P:=P) (w:=w) (ty:=o.type) hu hi b0 ad xs.length cap c hle
  simp only [execOp,ho,resolve,invoke,builtin,Sem.run_bind,Sem.run_pure,Result.andThen_ok]
  simp only [List.map_toArray,List.map_cons,List.map_nil,hy,hv0,List.length_nil]
  rw [this]
  simp
 ·by_cases hroom:xs.length + ys.length≤cap
  ·
   obtain ⟨ad',news,rfl,hnl,hnsz,hnews⟩:=hys.resolve_left hye
   have hse:sz' = sz:=hs'.resolve_left hye
   subst hse
   have hm0:0 < ys.length:=List.length_pos_iff.2 hye
   have hnlen:news.length = ys.length * i.size:=by rw [hnl.1,Dw ys hnsz,hsize]
   have hvlen:vals.length = xs.length * i.size:=by rw [hl.1,Dw xs hszs,hsize]
   have hflat:Bo (OS β X S) w (vals++news) ((xs++ys).flatMap D.cells):=by rw [List.flatMap_append]; exact hl.append hnl
   rcases hrow with ⟨hlen,⟨hv',h0⟩ | ⟨g,cap',cur,hv',hbg,hh,hn,hcm,hcs,htk⟩⟩ | ⟨h0,_,a0,hv'⟩
   ·rw [hv,hv'] at hv0; simp at hv0; omega
   ·have hcc:cap' = cap:=by rw [hv,hv'] at hv0; simp at hv0; omega
    subst hcc
    have hc0:cap'≠0:=by omega
    have hfit:xs.length * i.size + news.length≤cur.size:=by rw [hnlen,hcs,hsize,← Nat.add_mul]; exact Nat.mul_le_mul_right _ hroom
    have hr:=run_append_room (P:=P) w t o.type e i hu hi g xs.length cap' cur hh ad' ys.length c news hnlen hnews hnl.oneCell hroom hfit
    have hβb:A1 (β id) = some g:=by rw [hv']; simp [A1,hc0]
    have hexec:∀ v' w',(Builtin.append_ #[t,t] o.type #[a.eval x,a.eval y]).run P w = .ok v' w'→(execOp a.eval o).run P w = .ok (.value v') w':=by
     intro v' w' hr
     simp [execOp,ho,resolve,invoke,builtin,hr]
    refine GD _ _ (hexec _ _ (by rw [hv,hv',hy]; exact hr)) (by simp) (AT.setRow _ _ _ (h.mine id g hown hβb).1) (fun b _ hk=>setRow_other w g b _ (fun e=>hk (by rw [hβb,e]))) (fun b hb=>.inl (by rw [hβb]; simp [A1,hc0] at hb; rw [hb])) hnsz
     ⟨vals++news,.inl ⟨by simp [hvlen,hnlen,hsize,Nat.add_mul],.inr ⟨g,cap',_,by simp,hbg,setRow_heap w g cur _ e _ hh,by simpa using hroom,hcm,?_,?_⟩⟩,hflat⟩
    ·simp only [List.size_toArray,List.length_append,List.length_take,List.length_drop,Array.length_toList]
     rw [hcs] at hfit ⊢
     omega
    ·have:(xs++ys).length * sz' = (vals++news).length:=by simp [hvlen,hnlen,hsize,Nat.add_mul]
     rw [this,← hsize,htk]
     exact List.take_left
   ·rw [hv,hv'] at hv0; simp at hv0; omega
  ·obtain ⟨cp,w',hr,hbl,vals',hr1,hr2,hyz⟩:=Ty h ho hu hsz hz hy hys hs' hszs (fun _ h=>h) hl hv0 hle hold hm hb (by omega)
   exact GD _ _ hr hbl.size ((AT.of hbl).weaken h.hbase fun _ _ h=>h) (fun b hb _=>hbl.block b hb) (fun b hb=>.inr (by simp [A1] at hb; omega)) hyz ⟨vals',hr1,hr2⟩
theorem Od (h:AE X G β S a w) {d:Nat} (hd:d < S.length) {x y:Operand} {t e:TypeId} (ho:o.op = .call ⟨.builtin .append,#[x,y],#[t,t]⟩) (hu:P.underlying t = some (.slice e)) {sz:Nat} {xs ys:List D}
 (hsz:sz = AF P e) (hs0:0 < sz) (hz:J7 P e = true) {sz':Nat} {ad:Option Addr} {c:Nat} (hy:a.eval y = .slice ad ys.length c)
 (hys:ys = []∨∃ ad' news,ad = some ad'∧Bo (OS β X S) w news (ys.flatMap D.cells)∧(∀ x∈ys,x.cells.length = sz')∧∀ (j:Nat) u,news[j]? = some u→w.cell? (ad'.add j) = some u)
 (hm:xs.length + ys.length≤maxLen) (hb:(xs.length + ys.length) * My P e≤140737488355328) (hs':ys = []∨sz' = sz)
 (hx:(∃ ad0,a.eval x = .slice ad0 0 0∧xs = [])∨(AB (OS β X S) w (a.eval x) (.list sz xs)∧Qu (a.eval x) = xs.length∧ys≠[])) :
 Cw P X G S a w o ⟨.sl d ((Av S d).ver + 1),[(d,.row sz e (xs++ys),(Av S d).ver + 1)],[]⟩:=by
 obtain ⟨i,z,hi,hz',hzs⟩:=Iy hz
 by_cases hye:ys = []
 ·subst hye
  obtain ⟨ad0,hv0,rfl⟩:=hx.resolve_right fun h=>h.2.2 rfl
  have hrun:(execOp a.eval o).run P w = .ok (.value (.slice ad0 0 0)) w:=by
   have:=Ol (P:=P) (w:=w) (ty:=o.type) hu hi ad0 ad 0 0 c (Nat.le_refl _)
   simp only [execOp,ho,resolve,invoke,builtin,Sem.run_bind,Sem.run_pure,Result.andThen_ok]
   simp only [List.map_toArray,List.map_cons,List.map_nil,hy,hv0,List.length_nil]
   rw [this]
   simp
  obtain ⟨β',h8,h9⟩:=Js h hd (Below.refl _ _) (v:=.slice ad0 0 0) (e:=e) (xs:=[]) (vals:=[]) hs0 (fun _ h=>by cases h)
   (by cases ad0 with
    | none=>exact .inl (World.ownsRow_nil w _ e _)
    | some q=>exact .inr ⟨rfl,rfl,q,rfl⟩) (fun b hb=>by cases ad0 <;> simp [A1] at hb) Bo.nil
  exact .inl ⟨_,w,hrun,β',h8,h9,rfl⟩
 ·have hpos:0 < ys.length:=List.length_pos_iff.2 hye
  obtain ⟨b0,cap,vals,hv0,hle,hold,hszs,hl,hcap⟩:∃ b0 cap,∃ vals:List Value,a.eval x = .slice b0 xs.length cap∧xs.length≤cap∧(xs.length = 0∧cap = 0∨∃ ad0,b0 = some ad0∧∀ (j:Nat) u,vals[j]? = some u→w.cell? (ad0.add j) = some u) ∧
   (∀ x∈xs,x.cells.length = sz)∧Bo (OS β X S) w vals (xs.flatMap D.cells)∧cap = xs.length:=by
   rcases hx with ⟨ad0,hv0,rfl⟩ | ⟨hr,hc,_⟩
   ·exact ⟨ad0,0,[],by simpa using hv0,by simp,.inl ⟨rfl,rfl⟩,(fun _ h=>by cases h),Bo.nil,rfl⟩
   ·obtain ⟨sz2,xs2,⟨rfl,rfl⟩,ad1,c1,hv1,hrest⟩:=Qb h (r:=.d (.list sz xs)) hr (K:=fun s l=>sz = s∧xs = l) ⟨rfl,rfl⟩
    have hc1:c1 = xs.length:=by rw [hv1] at hc; simpa [Qu] using hc
    rcases hrest with hxe | ⟨ad2,news,rfl,h3,h4,h5⟩
    ·subst hxe
     exact ⟨ad1,c1,[],hv1,by simp,.inl ⟨rfl,by simpa using hc1⟩,(fun _ h=>by cases h),Bo.nil,hc1⟩
    ·exact ⟨_,c1,news,hv1,by omega,.inr ⟨ad2,rfl,h5⟩,h4,h3,hc1⟩
  obtain ⟨cp,w',hr,hbl,vals',hr1,hr2,hyz⟩:=Ty h ho hu hsz hz hy hys hs' hszs (fun _ h=>h) hl hv0 hle hold hm hb (by omega)
  obtain ⟨β',h8,h9⟩:=Js h hd hbl (e:=e) (xs:=xs++ys) (vals:=vals') hs0 (fun q hq=>by rcases List.mem_append.1 hq with hq | hq; exact hszs q hq; exact hyz q hq) hr1 (fun b hb=>by simp [A1] at hb; omega)
   (hr2.mono ⟨hbl.size,fun b hb hO=>by
    rcases hO with hO | hO
    ·exact hO
    ·simp [A1] at hO; omega,fun b hb _=>hbl.block b hb⟩)
  exact .inl ⟨_,w',hr,β',h8,h9,rfl⟩
theorem bY (h:AE X G β S a w) {t e:TypeId} {x:Operand} {hi:Option Operand} (ho:o.op = .slice t x none hi none) (hu:P.underlying t = some (.slice e)) {sz:Nat} (hsz:sz = AF P e) (hpos:0 < sz) {id n:Nat} {e':TypeId} {xs:List D}
 (hx:MP β (OS β X S) S w (a.eval x) (.row id n sz e' xs)) {r:Int} (hh:hi = none∧r = (xs.length:Int)∨∃ q k,hi = some q∧a.eval q = .int k r) (h0:0≤r) (h2:r≤xs.length) :
 Cw P X G S a w o ⟨.sl id (n + 1),[(id,.row sz e' (xs.take r.toNat),n + 1)],[]⟩:=by
 obtain ⟨hbx,hver,hv⟩:=hx
 have hid:id < S.length:=Lv hbx (by simp)
 have hbox:=h.boxes id
 rw [hbx] at hbox
 obtain ⟨_,hszs,vals,hrow,hl⟩:=hbox
 have hown:(Av S id).box.owned = true:=by rw [hbx]; rfl
 have hs:(sizeOf e).run P w = .ok sz w:=by rw [hsz] at hpos ⊢; exact Jy hpos
 obtain ⟨ad,cap,hv0,hcap,hnil⟩:∃ ad cap,a.eval x = .slice ad xs.length cap∧xs.length≤cap∧(cap = 0∨∃ g,ad = some ⟨g,0,none⟩):=by
  rw [hv]
  rcases hrow with ⟨_,⟨hv',h0⟩ | ⟨g,cap,cur,hv',_,hh,hn,_,_,htk⟩⟩ | ⟨h0,_,ad',hv'⟩
  ·exact ⟨_,_,by rw [hv',h0],by omega,.inl rfl⟩
  ·exact ⟨_,cap,hv',hn,.inr ⟨g,rfl⟩⟩
  ·exact ⟨_,_,by rw [hv',h0],by omega,.inl rfl⟩
 have hb:=R0 (P:=P) (w:=w) (a:=a) (isSlice:=true) (len:=xs.length) (cap:=cap) (lo:=none) (l:=0) (.inl ⟨rfl,rfl⟩) hh (by omega) h0 h2 hcap
 have hrun:(execOp a.eval o).run P w = .ok (.value (.slice ad r.toNat cap)) w:=by
  simp only [Option.map_none,Int.toNat_zero] at hb
  simp [execOp,ho,Instr.sliceAt,Instr.slice,hv0,run_underlying hu,hb,hs]
  intro _
  cases ad <;> simp [Addr.add]
 have hlt:(xs.take r.toNat).length = r.toNat:=by simp; omega
 have hle:r.toNat * sz≤xs.length * sz:=Nat.mul_le_mul_right _ (by omega)
 refine .inl ⟨_,w,hrun,IY β id (.slice ad r.toNat cap),?_,?_,rfl⟩
 ·refine h.rebox (R':=X.R) (fun _ h=>h) hid (.inl (by rw [hver]; omega)) (Nat.le_refl _) (AT.refl _ _ _) (fun _ _ _=>rfl) (fun _ b hbb=>?_) (fun k _=>⟨hpos,fun z hz=>hszs z (List.mem_of_mem_take hz),vals.take (r.toNat * sz),?_,?_⟩)
  ·have:A1 (β id) = some b:=by rw [← hv,hv0]; cases ad <;> simp [A1] at hbb ⊢; exact hbb
   exact ⟨.inl ⟨this,hown⟩,(h.mine id b hown this).2⟩
  ·simp only [IY,if_true]
   rw [hlt]
   rcases hrow with ⟨hlen,⟨hv',h0'⟩ | ⟨g,cap',cur,hv',hbg,hh',hn,hcm,hcs,htk⟩⟩ | ⟨h0',hv0',a0,hv'⟩
   ·rw [hv,hv'] at hv0
    simp at hv0
    obtain ⟨rfl,_,rfl⟩:=hv0
    have:r.toNat = 0:=by omega
    rw [this]
    simp
    exact .inl (World.ownsRow_nil w _ _ _)
   ·rw [hv,hv'] at hv0
    simp at hv0
    obtain ⟨rfl,rfl⟩:=hv0
    refine .inl ⟨by simp [hlen,Nat.min_eq_left (show r.toNat≤xs.length by omega)],.inr ⟨g,cap',cur,rfl,hbg,hh',by omega,hcm,hcs,?_⟩⟩
    rw [← htk,List.take_take,Nat.min_eq_left hle]
   ·rw [hv,hv'] at hv0
    simp at hv0
    obtain ⟨rfl,_,rfl⟩:=hv0
    have:r.toNat = 0:=by omega
    rw [this]
    simp
    exact .inr ⟨rfl,rfl,a0,rfl⟩
  ·have e1:(xs.take r.toNat).flatMap D.cells = (xs.flatMap D.cells).take (r.toNat * sz):=by
    have h1:(xs.flatMap D.cells) = (xs.take r.toNat).flatMap D.cells++(xs.drop r.toNat).flatMap D.cells:=by rw [← List.flatMap_append,List.take_append_drop]
    rw [h1,List.take_left']
    rw [Dw _ (fun z hz=>hszs z (List.mem_of_mem_take hz)),hlt]
   rw [e1]
   exact (hl.take _).mono k
 ·have:AU (Be [(id,.row sz e' (xs.take r.toNat),n + 1)] S) id = n + 1:=by simp [Be,AU,Cd,hid]
  exact ⟨by rw [this]; exact Nat.le_refl _,fun _=>by simp [IY]⟩
end
end Go.Abs
set_option linter.unusedVariables false
set_option linter.unusedSimpArgs false
namespace Go.Abs
open Go.RowKit (Below)
section
variable {P:Program} {X:Cx} {G:Nat→Prop} {β:Nat→Value} {S:AS} {a:Act} {w:World} {o:Oper}
theorem Qr {O O':Nat→Prop} {w w':World} {v:Value} {y:D} (h:AB O w v y) (hb:y.bare = true):AB O' w' v y:=by
 cases h with
 | bool b=>exact .bool b
 | int k n=>exact .int k n
 | str s=>exact .str s
 | fn f vs xs hl h1 h =>
   cases xs with
   | nil=>exact .fn f vs [] hl h1 fun i v y _ hy=>by simp at hy
   | cons q r=>simp [D.bare] at hb
 | ptr=>simp [D.bare] at hb
 | agg=>simp [D.bare] at hb
 | nil a sz=>exact .nil a sz
 | emp a cap sz=>exact .emp a cap sz
 | list b off cap sz xs c hne=>cases xs with
   | nil=>exact absurd rfl hne
   | cons q r=>simp [D.bare] at hb
theorem Lf (h:AE X G β S a w) {cs:List C} {K:List D→Bx→Prop} (hy:CB (σOf S) cs fun l b=>No l fun l=>K l b) :
 ∃ l b,K l b∧FZ S [] b∧(∀ z∈b,∃ sz xs,z.2.1 = .frow sz xs)∧Jh S b cs l ∧
   ∀ vs:List Value,vs.length = cs.length→(∀ (j:Nat) v c,vs[j]? = some v→cs[j]? = some c→BK β (AU S) (OS β X S) w v c)→Ji X G β S a w b fun O=>Bo O w vs l:=by
 obtain ⟨l,b,hK,hF,hfr,hl,hc,hh⟩:=Im h hy
 rw [Sv] at hK
 refine ⟨_,b,hK,hF,hfr,⟨by simp [hl],fun j c y hcj hyj=>?_⟩,fun vs hv hr=>(hh vs hv hr).mono (fun _ h=>h) fun O h=>h.norm⟩
 simp only [List.getElem?_map] at hyj
 cases hz:l[j]? with
 | none=>simp [hz] at hyj
 | some z =>
   simp [hz] at hyj
   subst hyj
   have:=hc j c z hcj hz
   cases c with
   | d q=>rw [this]
   | sl id n =>
     obtain ⟨sz,xs,h1,h2,h3⟩:=this
     exact ⟨sz,xs,by rw [h1]; rfl,h2,h3⟩
   | own _ _ _=>exact this
theorem PO {b:Bx} {T:AS} (hf:Fr S b T) (h:AE X G β T a w) {cs:List C} {l:List D} (hcd:Jh S b cs l) {vals:List Value} (hvl:vals.length = cs.length) (hvc:∀ (j:Nat) v c,vals[j]? = some v→cs[j]? = some c→BK β (AU T) (OS β X T) w v c) :
 Bo (OS β X T) w vals l:=by
 refine ⟨by rw [hvl]; exact hcd.1,fun j v z hv hz=>?_⟩
 have hj:j < cs.length:=by rw [hcd.1]; exact AD hz
 have hcc:=hvc j v cs[j] hv (List.getElem?_eq_getElem hj)
 have hc2:=hcd.2 j cs[j] z (List.getElem?_eq_getElem hj) hz
 generalize cs[j] = c at hcc hc2
 cases c with
 | d q=>rw [hc2]; exact ⟨hcc.1.norm1,PV q hcc.2⟩
 | sl id n =>
   obtain ⟨sz,xs,k1,k2,k3⟩:=hc2
   have hfr:(Av T id).box = .frow sz xs:=by
    rcases k3 with ⟨_,k3⟩ | k3
    ·exact hf.mem _ k3
    ·rw [hf.keepF id (by rw [k3]; rfl)]; exact k3
   have hbb:=h.boxes id
   rw [hfr] at hbb
   have hv2:=hcc.2 (by simp only [AU]; rw [hf.ver]; exact k2.symm)
   rw [k1,hv2]
   exact ⟨hbb,rfl⟩
 | own sz e xs=>exact hc2.elim
theorem JM (h:AE X G β S a w) {r:RV} {v:Value} (hr:MP β (OS β X S) S w v r) {K:AV→Bx→Prop} (hy:Lb (σOf S) r K) :
 ∃ y b,K y b∧FZ S [] b∧y.mut = false∧Ji X G β S a w b fun O=>O2 O w v y:=by
 cases r <;> simp only [Lb] at hy
 case any=>exact ⟨_,[],hy,trivial,rfl,fun _ _ _ _ _=>trivial⟩
 case d y =>
  rw [I0] at hy
  exact ⟨_,[],hy,trivial,rfl,fun B _ _ _ hk=>(AB.mono (B4.of_sub hk) hr).norm⟩
 case lim sz xs=>exact ⟨_,[],hy,trivial,rfl,fun B _ _ _ hk=>AB.mono (B4.of_sub hk) hr.1⟩
 case vptr id n off cs =>
  obtain ⟨l,b,hK,hF,hfr,hcd,hh⟩:=Lf h hy
  rw [B5] at hK
  obtain ⟨h1,h2,bb,h3,h4⟩:=hr
  have hF2:FZ S [] (b++[(id,.fvar l,n)]):=hF.snoc ⟨h2,.inr (.inl ⟨cs,l,h1,rfl,by simpa using hcd⟩)⟩
  refine ⟨_,_,hK,hF2,rfl,fun B hB hf hs hk=>?_⟩
  have hbx:=hs.boxes id
  rw [hf.mem (id,.fvar l,n) (hB _ (by simp))] at hbx
  obtain ⟨h5,_⟩:=hbx
  rw [h3] at h5
  have:=h5.drop off
  rw [Nat.zero_add] at this
  show AB _ _ _ _
  rw [h4]; exact this
 case row id n sz e xs =>
  obtain ⟨h1,h2,h3⟩:=hr
  refine ⟨_,_,hy,⟨⟨h2,.inl ⟨sz,e,xs,h1,rfl⟩⟩,trivial⟩,rfl,fun B hB hf hs hk=>?_⟩
  have hbx:=hs.boxes id
  rw [hf.mem (id,.frow sz xs,n) (hB _ (by simp))] at hbx
  show AB _ _ _ _
  rw [h3]; exact hbx
 case eptr id n sz e xs i off =>
  obtain ⟨h1,h2,bb,m,cap,h3,h4⟩:=hr
  obtain ⟨_,y,hy1,hK⟩:=hy.go
  simp only [Int.toNat_natCast] at hy1
  rw [B5] at hK
  refine ⟨_,_,hK,⟨⟨h2,.inl ⟨sz,e,xs,h1,rfl⟩⟩,trivial⟩,rfl,fun B hB hf hs hk=>?_⟩
  have hbx:=hs.boxes id
  rw [hf.mem (id,.frow sz xs,n) (hB _ (by simp))] at hbx
  show AB _ _ _ _
  have hbx:AB _ _ _ _:=hbx
  rw [h3] at hbx
  rw [h4]
  generalize hvv:Value.slice (some ⟨bb,0,none⟩) m cap = vv at hbx
  cases hbx with
  | emp=>simp at hy1
  | list b' off' cap' _ _ c hne hb hO hcap hszs h1' hcell hrep =>
    simp at hvv
    obtain ⟨⟨rfl,rfl⟩,_,_⟩:=hvv
    have:=AB.ptr (O:=OS β X (Be B S)) (w:=w) bb (0 + i * sz) y.cells (fun j=>c i j) (fun _=>hb) (fun _=>hO) (fun z hz=>h1' y (List.mem_of_getElem? hy1) z hz) (fun j z hz=>hcell _ _ _ _ hy1 hz) (fun j z hz=>hrep _ _ _ _ hy1 hz)
    have:=this.drop off
    rwa [Nat.zero_add] at this
 case cagg cs =>
  obtain ⟨l,b,hK,hF,hfr,hcd,hh⟩:=Lf h hy
  obtain ⟨us,hu,hul,huc⟩:=hr
  refine ⟨_,_,hK,hF,rfl,fun B hB hf hs hk=>?_⟩
  have hrep:=PO hf hs (hcd.mono hB) (vals:=us.toList) (by simpa using hul) (fun j v c hv hc=>by
   have:=(huc j v c (by simpa using hv) hc).1
   cases c with
   | d x=>exact ⟨this.1.mono (B4.of_sub hk),this.2⟩
   | sl id n=>exact ⟨by have h1:=this.1; simp only [AU] at h1 ⊢; rw [hf.ver]; exact h1,fun e=>this.2 (by simp only [AU] at e ⊢; rw [hf.ver] at e; exact e)⟩
   | own _ _ _=>exact this)
  show AB _ _ _ _
  rw [hu]
  exact .agg us l (by have:=hrep.1; simpa using this) (fun y hy=>by
   obtain ⟨j,hj,rfl⟩:=List.mem_iff_getElem.1 hy
   have hj2:j < us.size:=by have:=hrep.1; simp at this; omega
   exact (hrep.2 j us[j] l[j] (by simp [hj2]) (List.getElem?_eq_getElem hj)).2) fun i v x hv hx=>(hrep.2 i v x (by simpa using hv) hx).1
theorem TL {t:TypeId} {K:AV→Prop} (hy:WK P t K):∃ y,K (.d y)∧∀ (O:Nat→Prop) (w:World),AB O w (.slice none 0 0) y:=by
 unfold WK at hy
 split at hy
 ·exact ⟨_,hy,fun _ _=>.emp _ _ _⟩
 ·exact hy.elim
theorem K2 (h:AE X G β S a w) {g:Option (Nat × Bool)} (hg:BB g a):∀ {args:List Operand} {ts:List TypeId} {K:List AV→Bx→Prop},Ga P (σOf S) (ρOf S g) args ts K →
 ∃ vs b,K vs b∧FZ S [] b∧vs.length = args.length∧Ji X G β S a w b fun O=>∀ (i:Nat) p y,args[i]? = some p→vs[i]? = some y→O2 O w (a.eval p) y
 | [],ts,K,hy=>⟨[],[],hy,trivial,rfl,fun _ _ _ _ _ i p y hp _=>by simp at hp⟩
 | q :: r,ts,K,hy=>by
   unfold Ga at hy
   split at hy
   ·rename_i hnil
    cases ts with
    | nil=>exact hy.elim
    | cons t ts =>
      obtain ⟨y,hy,hrep⟩:=TL hy
      obtain ⟨vs,bs,hK,hFs,hl,hreps⟩:=K2 h hg hy
      refine ⟨_,_,hK,hFs,by simp [hl],hreps.mono (fun _ h=>h) fun O hh i p z hp hz=>?_⟩
      cases i with
      | zero=>simp at hp hz; subst hp; subst hz; rw [Nk hnil]; exact hrep O w
      | succ i=>exact hh i p z (by simpa using hp) (by simpa using hz)
   ·obtain ⟨y,b,hK,hF,_,hrep⟩:=JM h (ρ_sound h hg q) hy
    obtain ⟨vs,bs,hK,hFs,hl,hreps⟩:=K2 h hg hK
    refine ⟨_,_,hK,hF.append hFs,by simp [hl],(hrep.and hreps).mono (fun _ h=>h) fun O hh i p z hp hz=>?_⟩
    cases i with
    | zero=>simp at hp hz; subst hp; subst hz; exact hh.1
    | succ i=>exact hh.2 i p z (by simpa using hp) (by simpa using hz)
def Uw (β:Nat→Value) (O:Nat→Prop) (w:World) (S:AS) (b:Bx) (v:Value) (id n:Nat):AV→Prop
 | .own sz e xs=>(Av S id).box = .row sz e xs∧(Av S id).ver = n∧v = β id
 | .optr l=>∃ cs,(Av S id).box = .var cs∧(Av S id).ver = n∧v = β id∧Jh S b cs l
 | .cc k l=>k = none∧∃ (vs:Array Value) (ds:List D) (sz:Nat) (e:TypeId) (xs:List D),l = ds.map .d++[.own sz e xs]∧v = .agg (vs.push (β id))∧Bo O w vs.toList ds∧(Av S id).box = .row sz e xs∧(Av S id).ver = n
 | _=>False
theorem Uw.mono {O:Nat→Prop} {b b':Bx} (hb:∀ y∈b,y∈b') {v:Value} {id n:Nat} {y:AV} (h:Uw β O w S b v id n y):Uw β O w S b' v id n y:=by
 cases y <;> first | exact h | (obtain ⟨cs,h1,h2,h3,h4⟩:=h; exact ⟨cs,h1,h2,h3,h4.mono hb⟩)
theorem σ_row {id n id' n' sz:Nat} {e:TypeId} {xs:List D} (h:σOf S id n = .row id' n' sz e xs):id' = id∧n' = n∧(Av S id).box = .row sz e xs∧(Av S id).ver = n:=by
 simp only [σOf,res] at h
 generalize Av S id = s at h
 obtain ⟨av,b,m⟩:=s
 cases b <;> simp only at h <;> try (cases h; done)
 all_goals (split at h <;> cases h)
 rename_i hm
 exact ⟨rfl,rfl,rfl,hm.symm⟩
theorem U1:∀ {cs:List C} {K:List C→Nat→Nat→Prop},Qf (σOf S) cs K→∀ {vs:List Value},vs.length = cs.length →
 (∀ (i:Nat) u x,vs[i]? = some u→cs[i]? = some x→BK β (AU S) (OS β X S) w u x∧u.oneCell' = true) →
 ∃ l id n,K l id n∧∃ (us:List Value) (ds:List D) (sz:Nat) (e:TypeId) (xs:List D),l = ds.map .d++[.own sz e xs]∧vs = us++[β id]∧Bo (OS β X S) w us ds∧(Av S id).box = .row sz e xs∧(Av S id).ver = n
 | [],_,hy,_,_,_=>hy.elim
 | .d x :: r,K,hy,vs,hl,hc=>by
   simp only [Qf,I0] at hy
   cases vs with
   | nil=>simp at hl
   | cons v vs =>
     obtain ⟨l,id,n,hK,us,ds,sz,e,xs,h1,h2,h3,h4⟩:=U1 hy (vs:=vs) (by simpa using hl) fun i u x hu hx=>hc (i + 1) u x (by simpa using hu) (by simpa using hx)
     have h0:=(hc 0 v (.d x) rfl rfl).1
     refine ⟨_,id,n,hK,v :: us,_ :: ds,sz,e,xs,by rw [h1]; rfl,by rw [h2]; rfl,⟨by simp [h3.1],fun j u y hu hy=>?_⟩,h4⟩
     cases j with
     | zero=>simp at hu hy; subst hu; subst hy; exact ⟨h0.1.norm,by cases x <;> first | rfl | exact h0.2⟩
     | succ j=>exact h3.2 j u y (by simpa using hu) (by simpa using hy)
 | .sl id n :: r,K,hy,vs,hl,hc=>by
   simp only [Qf] at hy
   split at hy
   ·split at hy
    ·rename_i id' n' sz e xs hr
     match vs,hl with
     | [v],_ =>
       have h0:=(hc 0 v (.sl id n) rfl rfl).1
       have h1:=σ_row hr
       obtain ⟨rfl,rfl,h2,h3⟩:=h1
       exact ⟨_,_,_,hy,[],[],sz,e,xs,rfl,by rw [h0.2 h3.symm]; rfl,Bo.nil,h2,h3⟩
    ·exact hy.elim
   ·exact hy.elim
 | .own _ _ _ :: _,_,hy,_,_,_=>hy.elim
theorem X9 (h:AE X G β S a w) {r:RV} {v:Value} (hr:MP β (OS β X S) S w v r) {K:AV→Bx→Option (Nat × Nat)→Prop} (hy:Rq (σOf S) r K) :
 ∃ y b u,K y b u∧FZ S [] b∧match u with
   | none=>y.mut = false∧Ji X G β S a w b fun O=>O2 O w v y
   | some (id,n)=>Uw β (OS β X S) w S b v id n y:=by
 unfold Rq at hy
 split at hy
 ·rename_i id n sz e xs
  exact ⟨_,[],some (id,n),hy,trivial,hr⟩
 ·rename_i id n cs
  obtain ⟨l,b,hK,hF,hfr,hcd,hh⟩:=Lf h hy
  obtain ⟨h1,h2,bb,h3,h4⟩:=hr
  exact ⟨_,b,some (id,n),hK,hF,cs,h1,h2,by rw [h4,h3],hcd⟩
 ·rename_i cs
  split at hy
  ·obtain ⟨vs,rfl,hl,hc⟩:=hr
   obtain ⟨l,id,n,hK,us,ds,sz,e,xs,h1,h2,h3,h4,h5⟩:=U1 hy (vs:=vs.toList) (by simpa using hl) fun i u x hu hx=>hc i u x (by simpa using hu) hx
   exact ⟨_,[],some (id,n),hK,trivial,rfl,us.toArray,ds,sz,e,xs,h1,by rw [show vs = us.toArray.push (β id) from by apply Array.ext'; simp [h2]],by simpa using h3,h4,h5⟩
  ·obtain ⟨y,b,hK,hF,hm,hrep⟩:=JM h hr hy
   exact ⟨y,b,none,hK,hF,hm,hrep⟩
 ·obtain ⟨y,b,hK,hF,hm,hrep⟩:=JM h hr hy
  exact ⟨y,b,none,hK,hF,hm,hrep⟩
theorem M9 (h:AE X G β S a w) {g:Option (Nat × Bool)} (hg:BB g a):∀ {args:List Operand} {ts:List TypeId} {K:List AV→Bx→List (Option (Nat × Nat))→Prop},Fq P (σOf S) (ρOf S g) args ts K →
 ∃ vs b us,K vs b us∧FZ S [] b∧vs.length = args.length∧us.length = args.length ∧
   (∀ (i:Nat) p y id n,args[i]? = some p→vs[i]? = some y→us[i]? = some (some (id,n))→Uw β (OS β X S) w S b (a.eval p) id n y) ∧
   (∀ (i:Nat) y,vs[i]? = some y→us[i]? = some none→y.mut = false) ∧
   Ji X G β S a w b fun O=>∀ (i:Nat) p y,args[i]? = some p→vs[i]? = some y→us[i]? = some none→O2 O w (a.eval p) y
 | [],ts,K,hy=>⟨[],[],[],hy,trivial,rfl,rfl,(fun i p y id n hp=>by simp at hp),(fun i y hy=>by simp at hy),fun _ _ _ _ _ i p y hp _=>by simp at hp⟩
 | q :: r,ts,K,hy=>by
   unfold Fq at hy
   split at hy
   ·rename_i hnil
    cases ts with
    | nil=>exact hy.elim
    | cons t ts =>
      obtain ⟨y,hy,hrep⟩:=TL hy
      obtain ⟨vs,bs,us,hK,hFs,hl,hl2,hmut,hnm,hreps⟩:=M9 h hg hy
      refine ⟨_,_,_,hK,hFs,by simp [hl],by simp [hl2],fun i p z id n hp hz hu=>?_,fun i z hz hu=>?_,hreps.mono (fun _ h=>h) fun O hh i p z hp hz hu=>?_⟩
      ·cases i with
       | zero=>simp at hu
       | succ i=>exact hmut i p z id n (by simpa using hp) (by simpa using hz) (by simpa using hu)
      ·cases i with
       | zero=>simp at hz; subst hz; rfl
       | succ i=>exact hnm i z (by simpa using hz) (by simpa using hu)
      ·cases i with
       | zero=>simp at hp hz; subst hp; subst hz; rw [Nk hnil]; exact hrep O w
       | succ i=>exact hh i p z (by simpa using hp) (by simpa using hz) (by simpa using hu)
   ·obtain ⟨y,b,u,hK,hF,hu⟩:=X9 h (ρ_sound h hg q) hy
    obtain ⟨vs,bs,us,hK,hFs,hl,hl2,hmut,hnm,hreps⟩:=M9 h hg hK
    refine ⟨_,_,_,hK,hF.append hFs,by simp [hl],by simp [hl2],fun i p z id n hp hz huu=>?_,fun i z hz huu=>?_,?_⟩
    ·cases i with
     | zero=>simp at hp hz huu; subst hp; subst hz; subst huu; exact hu.mono fun y hy=>by simp [hy]
     | succ i=>exact (hmut i p z id n (by simpa using hp) (by simpa using hz) (by simpa using huu)).mono fun y hy=>by simp [hy]
    ·cases i with
     | zero=>simp at hz huu; subst hz; subst huu; exact hu.1
     | succ i=>exact hnm i z (by simpa using hz) (by simpa using huu)
    ·intro B hB hf hs hk i p z hp hz huu
     cases i with
     | zero=>simp at hp hz huu; subst hp; subst hz; subst huu; exact hu.2 B (fun y hy=>hB y (by simp [hy])) hf hs hk
     | succ i=>exact hreps B (fun y hy=>hB y (by simp [hy])) hf hs hk i p z (by simpa using hp) (by simpa using hz) (by simpa using huu)
theorem RE (h:AE X G β S a w) {g:Option (Nat × Bool)} (hg:BB g a):∀ {args:List Operand} {K:List D→Bx→Prop},HF (σOf S) (ρOf S g) args K →
 ∃ l b,K l b∧FZ S [] b∧l.length = args.length∧(∀ y∈l,y.one = true)∧Ji X G β S a w b fun O=>∀ (i:Nat) p y,args[i]? = some p→l[i]? = some y→AB O w (a.eval p) y
 | [],K,hy=>⟨[],[],hy,trivial,rfl,(fun _ h=>by cases h),fun _ _ _ _ _ i p y hp _=>by simp at hp⟩
 | q :: r,K,hy=>by
   unfold HF at hy
   obtain ⟨y,b,hK,hF,_,hrep⟩:=JM h (ρ_sound h hg q) hy
   split at hK
   ·rename_i yd
    obtain ⟨h1,hK⟩:=Au hK
    obtain ⟨l,bs,hK,hFs,hl,ho,hreps⟩:=RE h hg hK
    refine ⟨_,_,hK,hF.append hFs,by simp [hl],fun z hz=>?_,(hrep.and hreps).mono (fun _ h=>h) fun O hh i p z hp hz=>?_⟩
    ·rcases List.mem_cons.1 hz with rfl | hz
     ·exact h1
     ·exact ho z hz
    ·cases i with
     | zero=>simp at hp hz; subst hp; subst hz; exact hh.1
     | succ i=>exact hh.2 i p z (by simpa using hp) (by simpa using hz)
   ·exact hK.elim
theorem W2 (h:AE X G β S a w) {g:Option (Nat × Bool)} (hg:BB g a) {f:FuncId} {first caps:Array Operand} (ho:o.op = .makeFunc (.func f) first caps) (hf:first.toList = []) {K:F3→Prop}
 (hy:HF (σOf S) (ρOf S g) caps.toList fun l b=>K ⟨.d (.fn f l),b,[]⟩):∃ e,K e∧Cw P X G S a w o e:=by
 obtain ⟨l,b,hK,hF,hl,ho1,hrep⟩:=RE h hg hy
 obtain ⟨h1,_,_⟩:=hF.run h
 have hr:=hrep.now h hF
 refine ⟨_,hK,.inl ⟨.func (.func f) #[] (caps.map a.eval),w,?_,β,h1,?_,rfl⟩⟩
 ·have:first = #[]:=by cases first; simp_all
  simp [execOp,ho,Instr.makeFunc,this]
 ·refine .fn f _ _ (by simp [hl]) ho1 fun i v y hv hy=>?_
  rw [Array.getElem?_map] at hv
  cases hc:caps[i]? with
  | none=>simp [hc] at hv
  | some p=>simp [hc] at hv; subst hv; exact hr i p y (by simpa using hc) hy
theorem KI {f:FuncId} (hc:EH P f = true) (args:Array Value):(callFunc f args).run P w = .ok (.enter f args) w:=by
 unfold EH at hc
 split at hc
 ·rename_i fn hf
  simp only [Bool.and_eq_true,Bool.not_eq_true'] at hc
  have hb:fn.body.isNone = false:=by cases hfb:fn.body <;> simp [hfb] at hc ⊢
  simp only [callFunc,Sem.run_bind,run_program,Result.andThen_ok,hf]
  simp only [hc.1,hb,Bool.false_eq_true,if_false,Sem.run_pure]
 ·cases hc
theorem F5:∀ (l:List D) (K:List AV→Prop),U6 l K = K (l.map .d)
 | [],_=>rfl
 | x :: r,K=>by rw [U6,F5 r]; rfl
theorem Qa:∀ (b:Bx) (S:AS) (i:Nat),(∀ y∈b,y.1 < S.length)→(b.map (·.1)).Nodup→Av (Be b S) i = match b.find? (fun y=>y.1==i) with | some y=>⟨(Av S i).av,y.2.1,y.2.2⟩ | none=>Av S i
 | [],_,_,_,_=>rfl
 | (id,B,n) :: r,S,i,hl,hn=>by
   simp only [List.map_cons,List.nodup_cons] at hn
   have hid:id < S.length:=hl (id,B,n) (by simp)
   simp only [Be]
   rw [Qa r _ i (fun y hy=>by rw [Dx]; exact hl y (by simp [hy])) hn.2,Ie hid]
   by_cases he:id = i
   ·subst he
    have hnone:r.find? (fun y=>y.1==id) = none:=by
     rw [List.find?_eq_none]
     intro y hy hh
     simp at hh
     exact hn.1 (List.mem_map.2 ⟨y,hy,hh⟩)
    rw [hnone]
    simp
   ·have he':¬ i = id:=fun h=>he h.symm
    have hb:(id==i) = false:=by simp [he]
    simp only [List.find?_cons,hb,he',if_false]
end
end Go.Abs
set_option linter.unusedVariables false
set_option linter.unusedSimpArgs false
namespace Go.Abs
open Go.RowKit (Below)
def Ts (A:Nat→Prop) (w:World) (v:Value):BJ→Prop
 | .row sz e xs=>0 < sz∧(∀ x∈xs,x.cells.length = sz)∧∃ vals,Ca w e sz v xs.length vals∧Bo A w vals (xs.flatMap D.cells)
 | .var cs=>∃ ds,cs = ds.map .d∧Zm A w v ds
 | _=>False
abbrev RB:=List (Nat × BJ × Nat × Value)
def Qn (r:RB):Bx:=r.map fun y=>(y.1,y.2.1,y.2.2.1)
def aL (β:Nat→Value) (r:RB) (i:Nat):Value:=match List.find? (fun y=>y.1==i) r with | some y=>y.2.2.2 | none=>β i
section
variable {P:Program} {X:Cx} {G:Nat→Prop} {β:Nat→Value} {S:AS} {a:Act} {w:World} {o:Oper}
theorem Ts.rep {A:Nat→Prop} {v:Value} {B:BJ} (h:Ts A w v B) {O:Nat→Prop} (hO:∀ b,O b→A b) {β:Nat→Value} {n:Nat→Nat} {i:Nat} (hβ:β i = v):Mw β n O w i B:=by
 cases B with
 | none=>trivial
 | row sz e xs =>
   obtain ⟨h1,h2,vals,h3,h4⟩:=h
   exact ⟨h1,h2,vals,by rw [hβ]; exact h3,h4.mono (B4.of_sub hO)⟩
 | var cs =>
   obtain ⟨ds,rfl,b,vals,T,h1,h2,h3⟩:=h
   exact ⟨b,vals,T,by rw [hβ]; exact h1,h2,by have:=h3.1; simpa using this,fun j v c hv hc=>(h3.mono (B4.of_sub hO)).cells j v c (by simpa using hv) hc⟩
 | fvar cs=>exact h.elim
 | frow sz xs=>exact h.elim
 | map es=>exact h.elim
theorem Jo {α:Type} {l:List α} {p:α→Bool} {y:α} (h:l.find? p = some y):y∈l∧p y = true:=⟨List.mem_of_find?_eq_some h,List.find?_some h⟩
theorem PU:∀ {l:Bx},(l.map (·.1)).Nodup→∀ {y z:Nat × BJ × Nat},y∈l→z∈l→y.1 = z.1→y = z
 | [],_,_,_,h,_,_=>by cases h
 | q :: r,hn,y,z,hy,hz,e=>by
   simp only [List.map_cons,List.nodup_cons] at hn
   rcases List.mem_cons.1 hy with hy | hy <;> rcases List.mem_cons.1 hz with hz | hz
   ·rw [hy,hz]
   ·exact absurd (List.mem_map.2 ⟨z,hz,by rw [← e,hy]⟩) hn.1
   ·exact absurd (List.mem_map.2 ⟨y,hy,by rw [e,hz]⟩) hn.1
   ·exact PU hn.2 hy hz e
theorem Rs (h:AE X G β S a w) {ub:Bx} {rb:RB} {w':World} (hnd:((ub++Qn rb).map (·.1)).Nodup) (hlt:∀ y∈ub++Qn rb,y.1 < S.length)
 (hub:∀ y∈ub,(Av S y.1).box.owned = true∧((y.2.1.owned = true∧y.2.2 = (Av S y.1).ver)∨(y.2.1 = .none∧(Av S y.1).ver < y.2.2)))
 (hrb:∀ y:Nat × BJ × Nat × Value,y∈rb→y.2.1.owned = true∧(Av S y.1).ver < y.2.2.1)
 (hw:AT w.heap.size (fun b=>∃ y∈ub,A1 (β y.1) = some b) w w') (A:Nat→Prop)
 (hA1:∀ b,OS β X S b→(∀ y∈ub,A1 (β y.1)≠some b)→A b) (hA2:∀ b,∀ y∈ub,y.2.1.owned = true→A1 (β y.1) = some b→A b) (hA3:∀ b,∀ y:Nat × BJ × Nat × Value,y∈rb→A1 y.2.2.2 = some b→A b)
 (hmine:∀ y:Nat × BJ × Nat × Value,y∈rb→∀ b,A1 y.2.2.2 = some b→w.heap.size≤b∨∃ z∈ub,z.2.1 = .none∧A1 (β z.1) = some b)
 (hrinj:∀ y z:Nat × BJ × Nat × Value,y∈rb→z∈rb→∀ b,A1 y.2.2.2 = some b→A1 z.2.2.2 = some b→y.1 = z.1)
 (hubox:∀ y∈ub,y.2.1.owned = true→Ts A w' (β y.1) y.2.1) (hrbox:∀ y:Nat × BJ × Nat × Value,y∈rb→Ts A w' y.2.2.2 y.2.1) :
 AE X G (aL β rb) (Be (ub++Qn rb) S) a w'∧(∀ b,OS (aL β rb) X (Be (ub++Qn rb) S) b→A b):=by
 have hsg:=fun i=>Qa (ub++Qn rb) S i hlt hnd
 have hfr:∀ i,List.find? (fun y=>y.1==i) (Qn rb) = (List.find? (fun y=>y.1==i) rb).map fun y=>(y.1,y.2.1,y.2.2.1):=by
  intro i
  unfold Qn
  rw [List.find?_map]
  rfl
 let E:Nat→Option (BJ × Nat × Value):=fun i=>match List.find? (fun y=>y.1==i) ub with
  | some y=>some (y.2.1,y.2.2,β i)
  | none=>match List.find? (fun y=>y.1==i) rb with
    | some y=>some (y.2.1,y.2.2.1,y.2.2.2)
    | none=>none
 have hEu:∀ i B n v,E i = some (B,n,v)→(∃ y∈ub,y.1 = i∧B = y.2.1∧n = y.2.2∧v = β i)∨(∃ y,y∈rb∧y.1 = i∧B = y.2.1∧n = y.2.2.1∧v = y.2.2.2):=by
  intro i B n v hE
  simp only [E] at hE
  split at hE
  ·rename_i y hy
   simp at hE
   have:=Jo hy
   exact .inl ⟨y,this.1,by simpa using this.2,hE.1.symm,hE.2.1.symm,hE.2.2.symm⟩
  ·split at hE
   ·rename_i y hy
    simp at hE
    have:=Jo hy
    exact .inr ⟨y,this.1,by simpa using this.2,hE.1.symm,hE.2.1.symm,hE.2.2.symm⟩
   ·cases hE
 have hEin:∀ y∈ub,∃ B n v,E y.1 = some (B,n,v):=by
  intro y hy
  simp only [E]
  cases hf:List.find? (fun z=>z.1==y.1) ub with
  | some z=>exact ⟨_,_,_,rfl⟩
  | none=>rw [List.find?_eq_none] at hf; exact absurd (by simp) (hf y hy)
 have hdis:∀ y∈ub,∀ z,z∈rb→y.1≠z.1:=by
  intro y hy z hz e
  rw [List.map_append,List.nodup_append] at hnd
  refine hnd.2.2 y.1 (List.mem_map.2 ⟨y,hy,rfl⟩) z.1 ?_ e
  exact List.mem_map.2 ⟨(z.1,z.2.1,z.2.2.1),List.mem_map.2 ⟨z,hz,rfl⟩,rfl⟩
 have huniq:∀ y∈ub,∀ z∈ub,y.1 = z.1→y = z:=by
  intro y hy z hz e
  rw [List.map_append,List.nodup_append] at hnd
  exact PU hnd.1 hy hz e
 have hS:∀ i,Av (Be (ub++Qn rb) S) i = match E i with | some (B,n,_)=>⟨(Av S i).av,B,n⟩ | none=>Av S i:=by
  intro i
  rw [hsg i,List.find?_append,hfr]
  simp only [E]
  cases List.find? (fun y=>y.1==i) ub with
  | some y=>rfl
  | none =>
    cases List.find? (fun y=>y.1==i) rb with
    | some y=>rfl
    | none=>rfl
 have hβ:∀ i,aL β rb i = match E i with | some (_,_,v)=>v | none=>β i:=by
  intro i
  simp only [aL,E]
  cases hu:List.find? (fun y=>y.1==i) ub with
  | some y =>
    have hy:=Jo hu
    have:List.find? (fun y=>y.1==i) rb = none:=by
     rw [List.find?_eq_none]
     intro z hz hh
     exact hdis y hy.1 z hz (by have h1:=hy.2; simp at h1 hh; rw [h1,hh])
    rw [this]
  | none=>cases List.find? (fun y=>y.1==i) rb <;> rfl
 have hOA:∀ b,OS (aL β rb) X (Be (ub++Qn rb) S) b→A b:=by
  intro b hb
  rcases hb with hb | hb | ⟨i,h1,h2⟩
  ·refine hA1 b (.inl hb) fun y hy hyb=>?_
   have:=h.o₀ b hb
   rcases (h.mine y.1 b (hub y hy).1 hyb).1 with h3 | h3
   ·omega
   ·exact this.2 h3
  ·exact hA1 b (.inr (.inl hb)) fun y hy hyb=>(h.mine y.1 b (hub y hy).1 hyb).2 hb
  ·rw [hS] at h1
   rw [hβ] at h2
   cases hE:E i with
   | none =>
     rw [hE] at h1 h2
     refine hA1 b (.inr (.inr ⟨i,h1,h2⟩)) fun y hy hyb=>?_
     have:=h.inj i y.1 b h1 (hub y hy).1 h2 hyb
     obtain ⟨B,n,v,hEy⟩:=hEin y hy
     rw [← this,hE] at hEy; cases hEy
   | some q =>
     obtain ⟨B,n,v⟩:=q
     rw [hE] at h1 h2
     simp only at h1 h2
     rcases hEu i B n v hE with ⟨y,hy,h3,h4,h5,h6⟩ | ⟨y,hy,h3,h4,h5,h6⟩
     ·exact hA2 b y hy (by rw [← h4]; exact h1) (by rw [h3,← h6]; exact h2)
     ·exact hA3 b y hy (by rw [← h6]; exact h2)
 refine ⟨h.multi E hS hβ (BP _ _) hw.size (hw.weaken h.hbase fun k hk hm hh=>?_) ?_ ?_ ?_ ?_ ?_,hOA⟩
 ·obtain ⟨y,hy,hyb⟩:=hh
  rcases (h.mine y.1 k (hub y hy).1 hyb).1 with h3 | h3
  ·omega
  ·exact hm h3
 ·intro i B n v hE
  rcases hEu i B n v hE with ⟨y,hy,rfl,h4,h5,h6⟩ | ⟨y,hy,rfl,h4,h5,h6⟩
  ·rcases (hub y hy).2 with ⟨_,h7⟩ | ⟨_,h7⟩
   ·exact .inr ⟨by rw [h5,h7],h6,fun hh=>by have:=(hub y hy).1; rw [hh] at this; cases this⟩
   ·exact .inl (by rw [h5]; exact h7)
  ·exact .inl (by rw [h5]; exact (hrb y hy).2)
 ·intro b hb hno
  refine hw.block b hb fun ⟨y,hy,hyb⟩=>?_
  obtain ⟨B,n,v,hEy⟩:=hEin y hy
  exact hno y.1 B n v hEy (hub y hy).1 hyb
 ·intro i B n v b hE hB hv
  rcases hEu i B n v hE with ⟨y,hy,rfl,h4,h5,h6⟩ | ⟨y,hy,rfl,h4,h5,h6⟩
  ·exact .inl ⟨y.1,B,n,v,hE,(hub y hy).1,by rw [← h6]; exact hv⟩
  ·rcases hmine y hy b (by rw [← h6]; exact hv) with h7 | ⟨z,hz,_,hzb⟩
   ·exact .inr h7
   ·obtain ⟨B',n',v',hEz⟩:=hEin z hz
    exact .inl ⟨z.1,B',n',v',hEz,(hub z hz).1,hzb⟩
 ·intro i j B n v B' n' v' b hEi hEj hB hB' hv hv'
  have key:∀ i j B n v B' n' v',E i = some (B,n,v)→E j = some (B',n',v')→B.owned = true→A1 v = some b→A1 v' = some b→(∃ y∈ub,y.1 = i∧B = y.2.1∧n = y.2.2∧v = β i)→(∃ y,y∈rb∧y.1 = j∧B' = y.2.1∧n' = y.2.2.1∧v' = y.2.2.2)→False:=by
   intro i j B n v B' n' v' hEi hEj hB hv hv' ⟨y,hy,h3,h4,h5,h6⟩ ⟨z,hz,k3,k4,k5,k6⟩
   have hbi:A1 (β y.1) = some b:=by rw [h3,← h6]; exact hv
   rcases hmine z hz b (by rw [← k6]; exact hv') with h7 | ⟨q,hq,hqn,hqb⟩
   ·have:=h.blk (hub y hy).1 hbi; omega
   ·have:=h.inj y.1 q.1 b (hub y hy).1 (hub q hq).1 hbi hqb
    have e:=huniq y hy q hq this
    rw [h4,e,hqn] at hB
    cases hB
  rcases hEu i B n v hEi with hy | hy <;> rcases hEu j B' n' v' hEj with hz | hz
  ·obtain ⟨y,hy,rfl,h4,h5,h6⟩:=hy
   obtain ⟨z,hz,rfl,k4,k5,k6⟩:=hz
   exact h.inj y.1 z.1 b (hub y hy).1 (hub z hz).1 (by rw [← h6]; exact hv) (by rw [← k6]; exact hv')
  ·exact (key i j B n v B' n' v' hEi hEj hB hv hv' hy hz).elim
  ·exact (key j i B' n' v' B n v hEj hEi hB' hv' hv hz hy).elim
  ·obtain ⟨y,hy,rfl,h4,h5,h6⟩:=hy
   obtain ⟨z,hz,rfl,k4,k5,k6⟩:=hz
   exact hrinj y z hy hz b (by rw [← h6]; exact hv) (by rw [← k6]; exact hv')
 ·intro k hvv i B n v hE
  rcases hEu i B n v hE with ⟨y,hy,h3,h4,h5,h6⟩ | ⟨y,hy,h3,h4,h5,h6⟩
  ·by_cases hB:B.owned = true
   ·refine Ts.rep (v:=β y.1) (by rw [h4]; exact hubox y hy (by rw [← h4]; exact hB)) hOA ?_
    rw [hβ,hE]; simp only; rw [h6,h3]
   ·rcases (hub y hy).2 with ⟨h7,_⟩ | ⟨h7,_⟩
    ·rw [h4] at hB; exact absurd h7 hB
    ·rw [h4,h7]; trivial
  ·refine Ts.rep (v:=y.2.2.2) (by rw [h4]; exact hrbox y hy) hOA ?_
   rw [hβ,hE]; exact h6
theorem OW:∀ {xs:List C} {hs:List (Nat × Nat)} {K:List C→Bx→Prop},Qy xs hs K →
 ∃ l b,K l b∧l.length = xs.length∧(b.map (·.1)).Nodup∧(b.map fun y=>(y.1,y.2.2)) = hs ∧
   (∀ (i:Nat) c c',xs[i]? = some c→l[i]? = some c'→match c with
    | .d y=>c' = .d y
    | .own sz e ys=>∃ h n,c' = .sl h n∧(h,BJ.row sz e ys,n)∈b
    | .sl _ _=>False) ∧
   (∀ y∈b,∃ (i:Nat) (sz:Nat) (e:TypeId) (ys:List D),xs[i]? = some (.own sz e ys)∧l[i]? = some (.sl y.1 y.2.2)∧y.2.1 = .row sz e ys) ∧
   (∀ (i j h n n':Nat),l[i]? = some (.sl h n)→l[j]? = some (.sl h n')→i = j)
 | [],[],K,hy=>⟨[],[],hy,rfl,by simp,rfl,(fun i c c' h=>by simp at h),(fun y hy=>by cases hy),fun i j h n n' h1=>by simp at h1⟩
 | [],_ :: _,K,hy=>hy.elim
 | .d x :: r,hs,K,hy=>by
   have hy:Qy r hs fun l b=>K (.d x :: l) b:=by cases hs <;> exact hy
   obtain ⟨l,b,hK,h1,h2,h3,h4,h5,h6⟩:=OW hy
   refine ⟨_,_,hK,by simp [h1],h2,h3,fun i c c' hc hc'=>?_,fun y hy=>?_,fun i j h n n' hi hj=>?_⟩
   ·cases i with
    | zero=>simp at hc hc'; subst hc; exact hc'.symm
    | succ i=>exact h4 i c c' (by simpa using hc) (by simpa using hc')
   ·obtain ⟨i,sz,e,ys,k1,k2,k3⟩:=h5 y hy
    exact ⟨i + 1,sz,e,ys,by simpa using k1,by simpa using k2,k3⟩
   ·cases i with
    | zero=>simp at hi
    | succ i=>cases j with
      | zero=>simp at hj
      | succ j=>rw [h6 i j h n n' (by simpa using hi) (by simpa using hj)]
 | .own sz e ys :: r,[],K,hy=>hy.elim
 | .own sz e ys :: r,(h,n) :: hs,K,hy=>by
   have hy:Qy r hs fun l b=>if DX h b = true then K (.sl h n :: l) ((h,.row sz e ys,n) :: b) else False:=hy
   obtain ⟨l,b,hK,h1,h2,h3,h4,h5,h6⟩:=OW hy
   obtain ⟨hni,hK⟩:=Au hK
   have notail:∀ (j n':Nat),l[j]?≠some (.sl h n'):=by
    intro j n' hj
    have hjx:j < r.length:=by rw [← h1]; exact AD hj
    have:=h4 j r[j] _ (List.getElem?_eq_getElem hjx) hj
    generalize r[j] = q at this
    cases q with
    | d y=>cases this
    | own sz' e' ys'=>obtain ⟨h',n'',k1,k2⟩:=this; simp at k1; exact Do hni _ k2 k1.1.symm
    | sl _ _=>exact this
   refine ⟨_,_,hK,by simp [h1],?_,by simp [h3],fun i c c' hc hc'=>?_,fun y hy=>?_,fun i j h' n1 n' hi hj=>?_⟩
   ·simp only [List.map_cons,List.nodup_cons]
    refine ⟨fun hm=>?_,h2⟩
    obtain ⟨y,hy,e⟩:=List.mem_map.1 hm
    exact Do hni y hy e
   ·cases i with
    | zero=>simp at hc hc'; subst hc; exact ⟨h,n,hc'.symm,by simp⟩
    | succ i =>
      have:=h4 i c c' (by simpa using hc) (by simpa using hc')
      cases c with
      | d y=>exact this
      | own sz' e' ys'=>obtain ⟨h',n',k1,k2⟩:=this; exact ⟨h',n',k1,by simp [k2]⟩
      | sl _ _=>exact this
   ·rcases List.mem_cons.1 hy with rfl | hy
    ·exact ⟨0,sz,e,ys,rfl,rfl,rfl⟩
    ·obtain ⟨i,sz',e',ys',k1,k2,k3⟩:=h5 y hy
     exact ⟨i + 1,sz',e',ys',by simpa using k1,by simpa using k2,k3⟩
   ·cases i with
    | zero=>cases j with
      | zero=>rfl
      | succ j=>simp at hi hj; rw [← hi.1] at hj; exact absurd hj (notail j n')
    | succ i=>cases j with
      | zero=>simp at hi hj; rw [← hj.1] at hi; exact absurd hi (notail i n1)
      | succ j=>rw [h6 i j h' n1 n' (by simpa using hi) (by simpa using hj)]
 | .sl _ _ :: r,[],K,hy=>hy.elim
 | .sl _ _ :: r,_ :: _,K,hy=>hy.elim
theorem K5:∀ {xs:List C},Tb xs = false→∀ (i:Nat) sz e ys,xs[i]?≠some (.own sz e ys)
 | [],_,i,sz,e,ys=>by simp
 | .d x :: r,h,0,sz,e,ys=>by simp
 | .d x :: r,h,i + 1,sz,e,ys=>by simpa using K5 (show Tb r = false from h) i sz e ys
 | .sl _ _ :: r,h,0,sz,e,ys=>by simp
 | .sl _ _ :: r,h,i + 1,sz,e,ys=>by simpa using K5 (show Tb r = false from h) i sz e ys
 | .own _ _ _ :: r,h,_,_,_,_=>by simp [Tb] at h
structure en (X:Cx) (G:Nat→Prop) (β:Nat→Value) (S:AS) (a:Act) (w:World) (ub:Bx) (A:Nat→Prop) (r:AV) (v:Value) (w':World):Prop where
 sim:AE X G β S a w
 hub:∀ y∈ub,(Av S y.1).box.owned = true∧((y.2.1.owned = true∧y.2.2 = (Av S y.1).ver)∨(y.2.1 = .none∧(Av S y.1).ver < y.2.2))
 hw:AT w.heap.size (fun b=>∃ y∈ub,A1 (β y.1) = some b) w w'
 hA1:∀ b,OS β X S b→(∀ y∈ub,A1 (β y.1)≠some b)→A b
 hA2:∀ b,∀ y∈ub,y.2.1.owned = true→A1 (β y.1) = some b→A b
 res:C9 (fun b=>w.heap.size≤b∨∃ z∈ub,z.2.1 = .none∧A1 (β z.1) = some b) A w' v r
 outs:∀ y∈ub,y.2.1.owned = true→Ts (fun b=>A b∨CC v r b) w' (β y.1) y.2.1
theorem VB {rb:RB} {ub:Bx} (hnd:((ub++Qn rb).map (·.1)).Nodup) (hlt:∀ y∈ub++Qn rb,y.1 < S.length) {y:Nat × BJ × Nat × Value} (hy:y∈rb):AU (Be (ub++Qn rb) S) y.1 = y.2.2.1∧aL β rb y.1 = y.2.2.2:=by
 have hmem:(y.1,y.2.1,y.2.2.1)∈ub++Qn rb:=List.mem_append.2 (.inr (List.mem_map.2 ⟨y,hy,rfl⟩))
 constructor
 ·simp only [AU]
  rw [Qa _ S y.1 hlt hnd]
  cases hf:(ub++Qn rb).find? (fun z=>z.1==y.1) with
  | none=>rw [List.find?_eq_none] at hf; exact absurd (by simp) (hf _ hmem)
  | some z =>
    have:=Jo hf
    have e:=PU hnd this.1 hmem (by simpa using this.2)
    simp only [e]
 ·unfold aL
  cases hf:rb.find? (fun z=>z.1==y.1) with
  | none=>rw [List.find?_eq_none] at hf; exact absurd (by simp) (hf _ hy)
  | some z =>
    have hz:=Jo hf
    have e:z.1 = y.1:=by simpa using hz.2
    have:z = y:=by
     rw [List.map_append,List.nodup_append] at hnd
     have hn:((Qn rb).map (·.1)).Nodup:=hnd.2.1
     clear hmem hlt hnd hf
     induction rb with
     | nil=>cases hy
     | cons q r ih =>
       simp only [Qn,List.map_cons,List.nodup_cons] at hn
       rcases List.mem_cons.1 hy with hy' | hy' <;> rcases List.mem_cons.1 hz.1 with hz' | hz'
       ·rw [hy',hz']
       ·exact absurd (by rw [← hy',← e]; simpa using ⟨_,_,_,hz'⟩) hn.1
       ·exact absurd (by rw [← hz',e]; simpa using ⟨_,_,_,hy'⟩) hn.1
       ·exact ih hy' ⟨hz',hz.2⟩ hn.2
    rw [this]
theorem Ta {pre ub:Bx} {S0:AS} (hS:S = Be pre S0) {d:Nat} (hd:d < S.length) {dv:Nat} (hdv:(Av S d).ver≤dv) {r:AV} {K:F3→Prop} (hnd:(ub.map (·.1)).Nodup) (hltu:∀ y∈ub,y.1 < S.length) (hy:bm d dv r (pre++ub) K) (hvp:∀ i,(Av S i).ver = (Av S0 i).ver) :
 ∃ e,K e∧∀ (A:Nat→Prop) v w',en X G β S a w ub A r v w'→Fp S0 e.homes = true→Qo X G S0 a e v w':=by
 have hlen:S.length = S0.length:=by rw [hS,BP]
 have one:∀ (B:BJ) (A:Nat→Prop) (v:Value) (w':World),DX d (pre++ub) = true→en X G β S a w ub A r v w'→B.owned = true→(∀ b,A1 v = some b→w.heap.size≤b∨∃ z∈ub,z.2.1 = .none∧A1 (β z.1) = some b)→(∀ b,A1 v = some b→CC v r b) →
  Ts (fun b=>A b∨CC v r b) w' v B→AE X G (aL β [(d,B,dv + 1,v)]) (Be (ub++Qn [(d,B,dv + 1,v)]) S) a w'∧AU (Be (ub++Qn [(d,B,dv + 1,v)]) S) d = dv + 1∧aL β [(d,B,dv + 1,v)] d = v:=by
  intro B A v w' hni hp hB hmine hres hbox
  have hnd2:((ub++Qn [(d,B,dv + 1,v)]).map (·.1)).Nodup:=by
   simp only [Qn,List.map_append,List.map_cons,List.map_nil]
   rw [List.nodup_append]
   refine ⟨hnd,by simp,fun p hp q hq e=>?_⟩
   simp at hq
   subst hq
   obtain ⟨y,hy,rfl⟩:=List.mem_map.1 hp
   exact Do hni y (by simp [hy]) e
  have hlt2:∀ y∈ub++Qn [(d,B,dv + 1,v)],y.1 < S.length:=by
   intro y hy
   rcases List.mem_append.1 hy with hy | hy
   ·exact hltu y hy
   ·simp [Qn] at hy; rw [hy]; exact hd
  have h1:=Rs hp.sim hnd2 hlt2 hp.hub (fun y hy=>by simp at hy; subst hy; exact ⟨hB,by simp only; omega⟩) hp.hw (fun b=>A b∨CC v r b)
   (fun b hb hn=>.inl (hp.hA1 b hb hn)) (fun b y hy ho hb=>.inl (hp.hA2 b y hy ho hb)) (fun b y hy hb=>by simp at hy; subst hy; exact .inr (hres b hb))
   (fun y hy b hb=>by simp at hy; subst hy; exact hmine b hb) (fun y z hy hz b _ _=>by simp at hy hz; rw [hy,hz]) hp.outs (fun y hy=>by simp at hy; subst hy; exact hbox)
  have h2:=VB (β:=β) hnd2 hlt2 (y:=(d,B,dv + 1,v)) (by simp)
  exact ⟨h1.1,h2.1,h2.2⟩
 have none_:∀ (A:Nat→Prop) (v:Value) (w':World),en X G β S a w ub A r v w'→(∀ b,¬ CC v r b)→AE X G β (Be ub S) a w'∧∀ b,OS β X (Be ub S) b→A b:=by
  intro A v w' hp hno
  have h1:=Rs (rb:=[]) hp.sim (by simpa [Qn] using hnd) (by simpa [Qn] using hltu) hp.hub (fun y hy=>by cases hy) hp.hw A hp.hA1 hp.hA2 (fun b y hy=>by cases hy) (fun y hy=>by cases hy) (fun y z hy=>by cases hy)
   (fun y hy ho=>by
    have:=hp.outs y hy ho
    have e:(fun b=>A b∨CC v r b) = A:=by funext b; apply propext; exact ⟨fun h=>h.resolve_right (hno b),.inl⟩
    rwa [e] at this) (fun y hy=>by cases hy)
  have e:aL β [] = β:=by funext i; rfl
  rw [e] at h1
  simpa [Qn] using h1
 cases r with
 | own sz e xs =>
   simp only [bm] at hy
   obtain ⟨hni,hK⟩:=Au hy
   refine ⟨_,hK,fun A v w' hp _=>?_⟩
   obtain ⟨h1,h2,h3,vals,h4,h5⟩:=hp.res
   obtain ⟨k1,k2,k3⟩:=one (.row sz e xs) A v w' hni hp rfl h3 (fun b hb=>hb) ⟨h1,h2,vals,h4,h5.mono (B4.of_sub fun _ _=>trivial)⟩
   have ee:Be ((pre++ub)++[(d,BJ.row sz e xs,dv + 1)]) S0 = Be (ub++Qn [(d,.row sz e xs,dv + 1,v)]) S:=by simp only [Bz]; rw [← hS]; rfl
   refine ⟨aL β [(d,.row sz e xs,dv + 1,v)],?_,?_,rfl⟩
   ·simp only [ee]; exact k1
   ·simp only [ee]
    exact ⟨by rw [k2]; exact Nat.le_refl _,fun _=>k3.symm⟩
 | cc k0 l =>
   simp only [bm] at hy
   split at hy <;> try exact hy.elim
   rename_i sz e xs
   obtain ⟨hni,hK⟩:=Au hy
   refine ⟨_,hK,fun A v w' hp _=>?_⟩
   obtain ⟨h1,h2,h3,vals,h4,h5⟩:R4 _ A w' v [.own sz e xs]:=hp.res
   obtain ⟨k1,k2,k3⟩:=one (.row sz e xs) A v w' hni hp rfl h3 (fun b hb=>hb) ⟨h1,h2,vals,h4,h5⟩
   have ee:Be ((pre++ub)++[(d,BJ.row sz e xs,dv + 1)]) S0 = Be (ub++Qn [(d,.row sz e xs,dv + 1,v)]) S:=by simp only [Bz]; rw [← hS]; rfl
   refine ⟨aL β [(d,.row sz e xs,dv + 1,v)],?_,?_,rfl⟩
   ·simp only [ee]; exact k1
   ·simp only [ee]
    exact ⟨by rw [k2]; exact Nat.le_refl _,fun _=>k3.symm⟩
 | optr cs =>
   simp only [bm] at hy
   obtain ⟨hni,hK⟩:=Au hy
   rw [NX] at hK
   refine ⟨_,hK,fun A v w' hp _=>?_⟩
   obtain ⟨h1,h2⟩:=hp.res
   obtain ⟨k1,k2,k3⟩:=one (.var (cs.map .d)) A v w' hni hp rfl h1 (fun b hb=>hb) ⟨cs,rfl,h2⟩
   have e:Be ((pre++ub)++[(d,BJ.var (cs.map .d),dv + 1)]) S0 = Be (ub++Qn [(d,.var (cs.map .d),dv + 1,v)]) S:=by simp only [Bz]; rw [← hS]; rfl
   refine ⟨aL β [(d,.var (cs.map .d),dv + 1,v)],?_,?_,rfl⟩
   ·simp only [e]; exact k1
   ·simp only [e]
    obtain ⟨b,vals,T,h3,_,_⟩:=h2
    exact ⟨by rw [k2]; exact Nat.le_refl _,fun _=>⟨b,by rw [k3,h3],h3⟩⟩
 | tup xs =>
   simp only [bm] at hy
   split at hy
   ·rename_i hno
    refine ⟨_,hy,fun A v w' hp _=>?_⟩
    have hnr:∀ b,¬ CC v (.tup xs) b:=by
     rintro b ⟨vs,i,u,sz,e,ys,_,_,h3,_⟩
     exact K5 hno i sz e ys h3
    obtain ⟨h1,h2⟩:=none_ A v w' hp hnr
    obtain ⟨vs,hv,hl,hr,_⟩:=hp.res
    refine ⟨β,?_,⟨vs,hv,hl,fun i u c hu hc=>?_⟩,rfl⟩
    ·simp only [Bz]; rw [← hS]; exact h1
    ·have:=hr i u c hu hc
     cases c with
     | d y =>
       refine AB.mono (B4.of_sub fun b hb=>.inl (h2 b ?_)) this
       simp only [Bz] at hb; rw [← hS] at hb; exact hb
     | own sz e ys=>exact absurd hc (K5 hno i sz e ys)
     | sl _ _=>exact this.elim
   ·obtain ⟨hs,hy⟩:=hy.go
    obtain ⟨l,hb,hK,hl,hbn,hhs,hpt,hpb,hlinj⟩:=OW hy
    obtain ⟨hall,hK⟩:=Au hK
    refine ⟨_,hK,fun A v w' hp hok=>?_⟩
    obtain ⟨vs,hv,hvl,hr,hri⟩:=hp.res
    have hx:∀ y∈hb,∃ (i:Nat) (sz:Nat) (e:TypeId) (ys:List D),xs[i]? = some (.own sz e ys)∧l[i]? = some (.sl y.1 y.2.2)∧y.2.1 = .row sz e ys:=hpb
    have hch:∃ f:Nat × BJ × Nat→Value,∀ y∈hb,∃ (i:Nat) (sz:Nat) (e:TypeId) (ys:List D),xs[i]? = some (.own sz e ys)∧l[i]? = some (.sl y.1 y.2.2)∧y.2.1 = .row sz e ys∧vs[i]? = some (f y):=by
     refine ⟨fun y=>Classical.epsilon fun u=>∃ (i:Nat) (sz:Nat) (e:TypeId) (ys:List D),xs[i]? = some (.own sz e ys)∧l[i]? = some (.sl y.1 y.2.2)∧y.2.1 = .row sz e ys∧vs[i]? = some u,fun y hyy=>?_⟩
     obtain ⟨i,sz,e,ys,k1,k2,k3⟩:=hx y hyy
     have hlt:i < vs.size:=by rw [hvl]; exact AD k1
     exact Classical.epsilon_spec (p:=fun u=>∃ (i:Nat) (sz:Nat) (e:TypeId) (ys:List D),xs[i]? = some (.own sz e ys)∧l[i]? = some (.sl y.1 y.2.2)∧y.2.1 = .row sz e ys∧vs[i]? = some u) ⟨vs[i],i,sz,e,ys,k1,k2,k3,by simp [hlt]⟩
    obtain ⟨f,hf⟩:=hch
    let rb:RB:=hb.map fun y=>(y.1,y.2.1,y.2.2,f y)
    have hrbx:Qn rb = hb:=by simp [Qn,rb,List.map_map,Function.comp_def]
    have hmemr:∀ y,y∈rb→∃ z∈hb,y = (z.1,z.2.1,z.2.2,f z):=by
     intro y hyy
     obtain ⟨z,hz,rfl⟩:=List.mem_map.1 hyy
     exact ⟨z,hz,rfl⟩
    have hnd2:((ub++Qn rb).map (·.1)).Nodup:=by
     rw [hrbx,List.map_append,List.nodup_append]
     refine ⟨hnd,hbn,fun p hp' q hq e=>?_⟩
     obtain ⟨y,hyy,rfl⟩:=List.mem_map.1 hp'
     obtain ⟨z,hz,rfl⟩:=List.mem_map.1 hq
     have:=List.all_eq_true.1 hall z hz
     exact Do this y (by simp [hyy]) e
    have hhome:∀ y∈hb,y.1 < S.length∧(Av S y.1).ver < y.2.2:=by
     intro y hyy
     have:(y.1,y.2.2)∈hs:=by rw [← hhs]; exact List.mem_map.2 ⟨y,hyy,rfl⟩
     have key:∀ (hs:List (Nat × Nat)),Fp S0 hs = true→∀ p∈hs,p.1 < S0.length∧(Av S0 p.1).ver < p.2:=by
      intro hs
      induction hs with
      | nil=>intro _ p hp'; cases hp'
      | cons q r ih =>
        intro hok p hp'
        obtain ⟨q1,q2⟩:=q
        simp [Fp] at hok
        rcases List.mem_cons.1 hp' with rfl | hp'
        ·exact ⟨hok.1.1,hok.1.2⟩
        ·exact ih hok.2 p hp'
     have:=key hs hok _ this
     exact ⟨by rw [hlen]; exact this.1,by rw [hvp]; exact this.2⟩
    have hlt2:∀ y∈ub++Qn rb,y.1 < S.length:=by
     intro y hyy
     rw [hrbx] at hyy
     rcases List.mem_append.1 hyy with hyy | hyy
     ·exact hltu y hyy
     ·exact (hhome y hyy).1
    have hrow:∀ z∈hb,∃ (i:Nat) (sz:Nat) (e:TypeId) (ys:List D),xs[i]? = some (.own sz e ys)∧l[i]? = some (.sl z.1 z.2.2)∧z.2.1 = .row sz e ys∧vs[i]? = some (f z)∧Ux (fun b=>w.heap.size≤b∨∃ z∈ub,z.2.1 = .none∧A1 (β z.1) = some b) w' (f z) sz e ys:=by
     intro z hz
     obtain ⟨i,sz,e,ys,k1,k2,k3,k4⟩:=hf z hz
     exact ⟨i,sz,e,ys,k1,k2,k3,k4,hr i _ _ k4 k1⟩
    have h1:=Rs (rb:=rb) hp.sim hnd2 hlt2 hp.hub
     (fun y hyy=>by
      obtain ⟨z,hz,rfl⟩:=hmemr y hyy
      obtain ⟨i,sz,e,ys,_,_,k3,_⟩:=hrow z hz
      exact ⟨by simp only [k3]; rfl,(hhome z hz).2⟩) hp.hw (fun b=>A b∨CC v (.tup xs) b)
     (fun b hb hn=>.inl (hp.hA1 b hb hn)) (fun b y hy ho hb=>.inl (hp.hA2 b y hy ho hb))
     (fun b y hyy hbb=>by
      obtain ⟨z,hz,rfl⟩:=hmemr y hyy
      obtain ⟨i,sz,e,ys,k1,_,_,k4,_⟩:=hrow z hz
      exact .inr ⟨vs,i,f z,sz,e,ys,hv,k4,k1,hbb⟩)
     (fun y hyy b hbb=>by
      obtain ⟨z,hz,rfl⟩:=hmemr y hyy
      obtain ⟨i,sz,e,ys,k1,_,_,k4,k5⟩:=hrow z hz
      exact k5.2.2.1 b hbb)
     (fun y z hyy hzz b hb1 hb2=>by
      obtain ⟨y',hy',rfl⟩:=hmemr y hyy
      obtain ⟨z',hz',rfl⟩:=hmemr z hzz
      obtain ⟨i,sz,e,ys,k1,k2,_,k4,_⟩:=hrow y' hy'
      obtain ⟨j,sz2,e2,ys2,q1,q2,_,q4,_⟩:=hrow z' hz'
      have:=hri i j _ _ sz e ys sz2 e2 ys2 b k4 q4 k1 q1 hb1 hb2
      subst this
      rw [k2] at q2
      simp at q2
      exact q2.1) hp.outs
     (fun y hyy=>by
      obtain ⟨z,hz,rfl⟩:=hmemr y hyy
      obtain ⟨i,sz,e,ys,k1,_,k3,k4,k5⟩:=hrow z hz
      simp only [k3]
      obtain ⟨j1,j2,j3,vals,j4,j5⟩:=k5
      exact ⟨j1,j2,vals,j4,j5.mono (B4.of_sub fun _ _=>trivial)⟩)
    have hee:Be ((pre++ub)++hb) S0 = Be (ub++Qn rb) S:=by rw [hrbx]; simp only [Bz]; rw [← hS]
    refine ⟨aL β rb,?_,⟨vs,hv,by rw [hl]; exact hvl,fun i u c hu hc=>?_⟩,rfl⟩
    ·simp only [hee]; exact h1.1
    ·simp only [hee]
     have hix:i < xs.length:=by rw [← hl]; exact AD hc
     have hxi:xs[i]? = some xs[i]:=List.getElem?_eq_getElem hix
     have hp1:=hpt i xs[i] c hxi hc
     have hr1:=hr i u xs[i] hu hxi
     generalize xs[i] = q at hp1 hr1 hxi
     cases q with
     | d y=>subst hp1; exact AB.mono (B4.of_sub fun b hb=>h1.2 b hb) hr1
     | own sz e ys =>
       obtain ⟨h,n,rfl,hmem⟩:=hp1
       have hy2:(h,BJ.row sz e ys,n,f (h,.row sz e ys,n))∈rb:=List.mem_map.2 ⟨_,hmem,rfl⟩
       have hvs:=VB (β:=β) hnd2 hlt2 hy2
       obtain ⟨j,sz2,e2,ys2,q1,q2,_,q4,_⟩:=hrow _ hmem
       refine ⟨by simp only at hvs; rw [hvs.1]; exact Nat.le_refl _,fun _=>?_⟩
       simp only at hvs
       rw [hvs.2]
       have hij:i = j:=hlinj i j h n n hc q2
       subst hij
       rw [hu] at q4
       exact Option.some.inj q4
     | sl _ _=>exact hp1.elim
 | under t want y=>exact hy.elim
 | ptr id n off=>exact hy.elim
 | sl id n=>exact hy.elim
 | eptr id n sz i off=>exact hy.elim
 | any =>
   refine ⟨_,hy,fun A v w' hp _=>?_⟩
   obtain ⟨h1,h2⟩:=none_ A v w' hp (fun b h=>h)
   refine ⟨β,?_,trivial,rfl⟩
   simp only [Bz]; rw [← hS]; exact h1
 | bot =>
   refine ⟨_,hy,fun A v w' hp _=>?_⟩
   exact hp.res.elim
 | d y =>
   refine ⟨_,hy,fun A v w' hp _=>?_⟩
   obtain ⟨h1,h2⟩:=none_ A v w' hp (fun b h=>h)
   have hr:AB A w' v y:=hp.res
   refine ⟨β,?_,?_,rfl⟩
   ·simp only [Bz]; rw [← hS]; exact h1
   ·show AB _ _ _ _
    simp only [Bz]; rw [← hS]
    exact hr.mono (B4.of_sub h2)
 | lim sz xs =>
   refine ⟨_,hy,fun A v w' hp _=>?_⟩
   obtain ⟨h1,h2⟩:=none_ A v w' hp (fun b h=>h)
   have hr:AB A w' v (.list sz xs)∧Qu v = xs.length:=hp.res
   refine ⟨β,?_,?_,rfl⟩
   ·simp only [Bz]; rw [← hS]; exact h1
   ·show AB _ _ _ _∧_
    simp only [Bz]; rw [← hS]
    exact ⟨hr.1.mono (B4.of_sub h2),hr.2⟩
end
end Go.Abs
set_option linter.unusedVariables false
set_option linter.unusedSimpArgs false
namespace Go.Abs
open Go.RowKit (Below)
section
variable {P:Program} {X:Cx} {G:Nat→Prop} {β:Nat→Value} {S:AS} {a:Act} {w:World} {o:Oper}
theorem dQ {O O':Nat→Prop} {w w':World} {v:Value} {y:D} (h:AB O w v y) (hb:(AV.d y).bare = true):AB O' w' v y:=by
 cases h with
 | agg vs xs hl h1 h =>
   simp only [AV.bare,List.all_eq_true] at hb
   exact .agg vs xs hl h1 fun i v x hv hx=>Qr (h i v x hv hx) (hb x (List.mem_of_getElem? hx))
 | bool b=>exact .bool b
 | int k n=>exact .int k n
 | str s=>exact .str s
 | fn f vs xs hl h1 h=>exact Qr (.fn f vs xs hl h1 h) hb
 | ptr b off cs c hb' hO h1 hcell h=>simp [AV.bare,D.bare] at hb
 | nil a sz=>exact .nil a sz
 | emp a cap sz=>exact .emp a cap sz
 | list b off cap sz xs c hne hb' hO hcap hsz h1 hcell h=>exact Qr (.list b off cap sz xs c hne hb' hO hcap hsz h1 hcell h) hb
theorem C9.bare {mine O:Nat→Prop} {v:Value} {r:AV} (h:C9 mine O w v r) (hb:r.bare = true):C9 mine (fun _=>True) w v r:=by
 cases r <;> try (simp [AV.bare] at hb; done)
 case d x =>
  have h':AB O w v x:=h
  clear h
  show AB _ _ _ _
  exact dQ h' hb
 case tup xs =>
  simp only [AV.bare,List.all_eq_true] at hb
  obtain ⟨vs,h1,h2,h3,h4⟩:=h
  refine ⟨vs,h1,h2,fun i u c hu hc=>?_,h4⟩
  have:=h3 i u c hu hc
  have hbc:=hb c (List.mem_of_getElem? hc)
  cases c with
  | d y=>exact dQ this (by cases y <;> exact hbc)
  | own sz e ys=>exact this
  | sl _ _=>exact this
 case own sz e xs=>exact h
theorem C9.mono {mine mine' O O':Nat→Prop} {v:Value} {r:AV} (hm:∀ b,mine b→mine' b) (hO:∀ b,O' b→O b) (h:C9 mine O w v r):C9 mine' O' w v r:=by
 cases r with
 | own sz e xs=>exact ⟨h.1,h.2.1,fun b hb=>hm b (h.2.2.1 b hb),h.2.2.2⟩
 | optr cs =>
   refine ⟨fun b hb=>hm b (h.1 b hb),?_⟩
   obtain ⟨b,vals,T,h1,h2,h3⟩:=h.2
   exact ⟨b,vals,T,h1,h2,h3.mono (B4.of_sub fun b hb=>hb.imp (hO b) (fun h=>h))⟩
 | tup xs =>
   obtain ⟨vs,h1,h2,h3,h4⟩:=h
   refine ⟨vs,h1,h2,fun i u c hu hc=>?_,h4⟩
   have:=h3 i u c hu hc
   cases c with
   | d y=>exact AB.mono (B4.of_sub fun b hb=>hb.imp (hO b) (fun h=>h)) this
   | own sz e ys=>exact ⟨this.1,this.2.1,fun b hb=>hm b (this.2.2.1 b hb),this.2.2.2⟩
   | sl _ _=>exact this
 | cc k0 l =>
   have h':R4 mine O w v l:=h
   show R4 mine' O' w v l
   unfold R4 at h' ⊢
   split at h' <;> try exact h'.elim
   exact ⟨h'.1,h'.2.1,fun b hb=>hm b (h'.2.2.1 b hb),by obtain ⟨vals,h1,h2⟩:=h'.2.2.2; exact ⟨vals,h1,h2.mono (B4.of_sub fun b hb=>hb.imp (hO b) (fun h=>h))⟩⟩
 | any=>trivial
 | d x=>exact AB.mono (B4.of_sub hO) (show AB O w v x from h)
 | lim sz xs =>
   have h':AB O w v (.list sz xs)∧Qu v = xs.length:=h
   exact ⟨h'.1.mono (B4.of_sub hO),h'.2⟩
 | bot | ptr _ _ _ | sl _ _ | eptr _ _ _ _ _ | under _ _ _=>exact h.elim
def Wr (y:Nat × BJ × Nat) (n:Nat):AV→Prop
 | .own sz e ys=>y.2.1 = .row sz e ys∧y.2.2 = n
 | .optr cs=>y.2.1 = .var (cs.map .d)∧y.2.2 = n
 | .any=>y.2.1 = .none∧y.2.2 = n + 1
 | .cc _ l=>(∃ (ds:List C) (sz:Nat) (e:TypeId) (ys:List D),l = ds++[.own sz e ys]∧y.2.1 = .row sz e ys)∧y.2.2 = n
 | _=>False
theorem Md:∀ {l:List C} {K:Nat→TypeId→List D→Prop},TH l K→∃ (ds:List C) (sz:Nat) (e:TypeId) (ys:List D),l = ds++[.own sz e ys]∧K sz e ys
 | [],_,h=>h.elim
 | .own sz e xs :: r,K,h=>by
   simp only [TH] at h
   cases r with
   | nil=>exact ⟨[],sz,e,xs,rfl,h⟩
   | cons _ _=>exact h.elim
 | .d x :: r,K,h=>by
   obtain ⟨ds,sz,e,ys,h1,h2⟩:=Md (l:=r) h
   exact ⟨.d x :: ds,sz,e,ys,by rw [h1]; rfl,h2⟩
 | .sl i n :: r,K,h=>by
   obtain ⟨ds,sz,e,ys,h1,h2⟩:=Md (l:=r) h
   exact ⟨.sl i n :: ds,sz,e,ys,by rw [h1]; rfl,h2⟩
theorem KH {e:TypeId} {sz n:Nat} {v:Value} {vals:List Value} (h:Ca w e sz v n vals):∃ ad m c,v = .slice ad m c:=by
 rcases h with ⟨_,⟨hv,_⟩ | ⟨_,_,_,hv,_⟩⟩ | ⟨_,_,_,hv⟩ <;> exact ⟨_,_,_,hv⟩
theorem Yj {vs:Array Value} {u:Value} (h:∃ ad m c,u = .slice ad m c):A1 (.agg (vs.push u)) = A1 u:=by
 obtain ⟨ad,m,c,rfl⟩:=h
 cases ad <;> simp [A1]
theorem Pd:∀ {us:List (Option (Nat × Nat))} {outs:List AV} {K:Bx→Prop},K0 us outs K →
 ∃ ub,K ub∧(ub.map (·.1)).Nodup∧(∀ (i id n:Nat),us[i]? = some (some (id,n))→∃ y∈ub,y.1 = id∧∃ q,outs[i]? = some q∧Wr y n q)∧(∀ y∈ub,∃ (i n:Nat) (q:AV),us[i]? = some (some (y.1,n))∧outs[i]? = some q∧Wr y n q) ∧
   ∀ (i j id n n':Nat),us[i]? = some (some (id,n))→us[j]? = some (some (id,n'))→i = j
 | [],[],K,hy=>⟨[],hy,by simp,(fun i id n h=>by simp at h),(fun y hy=>by cases hy),fun i j id n n' h=>by simp at h⟩
 | [],_ :: _,K,hy=>hy.elim
 | none :: us,[],K,hy=>hy.elim
 | none :: us,q :: os,K,hy=>by
   have hy:K0 us os K:=hy
   obtain ⟨ub,hK,h1,h2,h3,h4⟩:=Pd hy
   refine ⟨ub,hK,h1,fun i id n hi=>?_,fun y hy=>?_,fun i j id n n' hi hj=>?_⟩
   ·cases i with
    | zero=>simp at hi
    | succ i=>obtain ⟨y,hy,e,q',hq,ho⟩:=h2 i id n (by simpa using hi); exact ⟨y,hy,e,q',by simpa using hq,ho⟩
   ·obtain ⟨i,n,q',k1,k2,k3⟩:=h3 y hy
    exact ⟨i + 1,n,q',by simpa using k1,by simpa using k2,k3⟩
   ·cases i with
    | zero=>simp at hi
    | succ i=>cases j with
      | zero=>simp at hj
      | succ j=>rw [h4 i j id n n' (by simpa using hi) (by simpa using hj)]
 | some (id,n) :: us,[],K,hy=>hy.elim
 | some (id,n) :: us,q :: os,K,hy=>by
   have step:∀ (B:BJ) (m:Nat),Wr (id,B,m) n q→(K0 us os fun b=>if DX id b = true then K ((id,B,m) :: b) else False)→∃ ub,K ub∧(ub.map (·.1)).Nodup∧(∀ (i id' n':Nat),(some (id,n) :: us)[i]? = some (some (id',n'))→∃ y∈ub,y.1 = id'∧∃ p,(q :: os)[i]? = some p∧Wr y n' p)∧(∀ y∈ub,∃ (i n':Nat) (p:AV),(some (id,n) :: us)[i]? = some (some (y.1,n'))∧(q :: os)[i]? = some p∧Wr y n' p) ∧
    ∀ (i j id' n1 n':Nat),(some (id,n) :: us)[i]? = some (some (id',n1))→(some (id,n) :: us)[j]? = some (some (id',n'))→i = j:=by
    intro B m ho hy
    obtain ⟨ub,hK,h1,h2,h3,h4⟩:=Pd hy
    obtain ⟨hni,hK⟩:=Au hK
    have notail:∀ (j n':Nat),us[j]?≠some (some (id,n')):=by
     intro j n' hj
     obtain ⟨y,hy,e,_⟩:=h2 j id n' hj
     exact Do hni y hy e
    refine ⟨_,hK,?_,fun i id' n' hi=>?_,fun y hy=>?_,fun i j id' n1 n' hi hj=>?_⟩
    ·simp only [List.map_cons,List.nodup_cons]
     refine ⟨fun hm=>?_,h1⟩
     obtain ⟨y,hy,e⟩:=List.mem_map.1 hm
     exact Do hni y hy e
    ·cases i with
     | zero =>
       simp at hi
       obtain ⟨rfl,rfl⟩:=hi
       exact ⟨_,by simp,rfl,q,rfl,ho⟩
     | succ i=>obtain ⟨y,hy,e,q',hq,ho'⟩:=h2 i id' n' (by simpa using hi); exact ⟨y,by simp [hy],e,q',by simpa using hq,ho'⟩
    ·rcases List.mem_cons.1 hy with rfl | hy
     ·exact ⟨0,n,q,rfl,rfl,ho⟩
     ·obtain ⟨i,n',q',k1,k2,k3⟩:=h3 y hy
      exact ⟨i + 1,n',q',by simpa using k1,by simpa using k2,k3⟩
    ·cases i with
     | zero=>cases j with
       | zero=>rfl
       | succ j=>simp at hi hj; rw [← hi.1] at hj; exact absurd hj (notail j n')
     | succ i=>cases j with
       | zero=>simp at hi hj; rw [← hj.1] at hi; exact absurd hi (notail i n1)
       | succ j=>rw [h4 i j id' n1 n' (by simpa using hi) (by simpa using hj)]
   cases q <;> try exact hy.elim
   case any=>exact step .none (n + 1) ⟨rfl,rfl⟩ hy
   case own sz e ys=>exact step (.row sz e ys) n ⟨rfl,rfl⟩ hy
   case optr cs =>
    have hy:Yc cs fun l=>K0 us os fun b=>if DX id b = true then K ((id,.var l,n) :: b) else False:=hy
    rw [NX] at hy
    exact step (.var (cs.map .d)) n ⟨rfl,rfl⟩ hy
   case cc k l =>
    obtain ⟨ds,sz,e,ys,h1,hy⟩:=Md (show TH l _ from hy)
    exact step (.row sz e ys) n ⟨⟨ds,sz,e,ys,h1,rfl⟩,rfl⟩ hy
theorem aI {O:Nat→Prop} {v:Value} {f:FuncId} {cs:List D} (h:AB O w v (.fn f cs)):∃ vs:Array Value,v = .func (.func f) #[] vs∧vs.size = cs.length∧∀ (i:Nat) u y,vs[i]? = some u→cs[i]? = some y→AB O w u y:=by
 cases h with
 | fn _ vs _ hl h1 h=>exact ⟨vs,rfl,hl,h⟩
theorem Ve:∀ {l:List Operand} {n i:Nat},i∈Pb l n→∃ p,l[i - n]? = some p∧Lw p = true∧n≤i
 | [],_,_,h=>by simp [Pb] at h
 | x :: r,n,i,h=>by
   simp only [Pb] at h
   have next:i∈Pb r (n + 1)→∃ p,(x :: r)[i - n]? = some p∧Lw p = true∧n≤i:=by
    intro h
    obtain ⟨p,h1,h2,h3⟩:=Ve h
    exact ⟨p,by rw [show i - n = (i - (n + 1)) + 1 by omega,List.getElem?_cons_succ]; exact h1,h2,by omega⟩
   split at h
   ·rename_i hn
    rcases List.mem_cons.1 h with rfl | h
    ·exact ⟨x,by simp,hn,Nat.le_refl _⟩
    ·exact next h
   ·exact next h
theorem W0 (h:AE X G β S a w) {g:Option (Nat × Bool)} (hg:BB g a) {d:Nat} (hd:d < S.length) {c:Call} (ho:o.op = .call c) {fo:Operand} (hc:c.callee = .value fo) {f:FuncId} {caps:List D} (hf:ρOf S g fo = .d (.fn f caps))
 {K:F3→Prop} (hy:U6 caps fun cv=>Ga P (σOf S) (ρOf S g) c.args.toList c.argTypes.toList fun vs bs=>Fq P (σOf S) (ρOf S g) c.args.toList c.argTypes.toList fun ms mb us =>
  Oz P f (Pb c.args.toList 0) (vs++cv) (fun r=>YJ r bs fun b=>bm d (Av S d).ver r b K)
   (ms++cv) (fun outs r=>K0 (us++cv.map fun _=>none) outs fun ub=>if ub.all (fun x=>DX x.1 mb) = true then bm d (Av S d).ver r (mb++ub) K else False)) :
 ∃ e,K e∧(Fp S e.homes = true→Cw P X G S a w o e):=by
 rw [F5] at hy
 obtain ⟨vs,bs,hy,hF,hlen,hrep⟩:=K2 h hg hy
 obtain ⟨ms,mb,us,hK,hMF,hmlen,hulen,hmut,hnm,hmrep⟩:=M9 h hg hy
 have hfv:=ρ_sound h hg fo
 rw [hf] at hfv
 obtain ⟨capv,hfe,hcl,hcr⟩:=aI hfv
 have hrun:EH P f = true→(execOp a.eval o).run P w = .ok (.enter f (c.args.map a.eval++capv)) w:=by
  intro hcal
  simp only [execOp,ho,resolve,hc,hfe,Deferred.ofValue,Sem.run_bind,Sem.run_pure,Result.andThen_ok,invoke]
  simp only [Array.empty_append]
  rw [KI hcal]
 have hval:∀ (i:Nat) v,(c.args.map a.eval++capv)[i]? = some v→(∃ p,c.args.toList[i]? = some p∧v = a.eval p)∨(c.args.size≤i∧capv[i - c.args.size]? = some v):=by
  intro i v hv
  rcases Nat.lt_or_ge i c.args.size with hi | hi
  ·rw [Array.getElem?_append_left (by simpa using hi)] at hv
   simp [hi] at hv
   exact .inl ⟨c.args[i],by simp [hi],hv.symm⟩
  ·rw [Array.getElem?_append_right (by simpa using hi)] at hv
   exact .inr ⟨hi,by simpa using hv⟩
 rcases hK.go with ⟨r,hcall,hK⟩ | ⟨outs,r,hcall,hK⟩
 ·
  obtain ⟨h1,h2,h3⟩:=hF.run h
  have hargs:=hrep.now h hF
  have hsize:(c.args.map a.eval++capv).size = (vs++caps.map AV.d).length:=by simp [hlen,hcl]
  have hreps:∀ (i:Nat) v y,(c.args.map a.eval++capv)[i]? = some v→(vs++caps.map AV.d)[i]? = some y→O2 (OS β X (Be bs S)) w v y:=(fun i v y hv hy=>by
   rcases hval i v hv with ⟨p,hp,rfl⟩ | ⟨hi,hv⟩
   ·rw [List.getElem?_append_left (by rw [hlen]; exact AD hp)] at hy
    exact hargs i p y hp hy
   ·rw [List.getElem?_append_right (by rw [hlen]; simpa using hi),hlen] at hy
    simp only [List.getElem?_map,Array.length_toList] at hy
    cases hz:caps[i - c.args.size]? with
    | none=>simp [hz] at hy
    | some z=>simp [hz] at hy; subst hy; exact (hcr _ v z hv hz).mono (B4.of_sub h2))
  have hrunX:∀ v,(callFunc f (c.args.map a.eval++capv)).run P w = .ok (.value v) w→(execOp a.eval o).run P w = .ok (.value v) w:=by
   intro v hv
   simp only [execOp,ho,resolve,hc,hfe,Deferred.ofValue,Sem.run_bind,Sem.run_pure,Result.andThen_ok,invoke]
   simp only [Array.empty_append]
   rw [hv]
  have GD:∀ {e:F3},(∀ v w',Below w.heap.size w w'→C9 (fun b=>w.heap.size≤b) (OS β X (Be bs S)) w' v r→Qo X G S a e v w')→Cw P X G S a w o e:=by
   intro e hpost
   rcases hcall with hcall | hcall | hcall
   rotate_left
   rotate_left
   ·refine .inr (.inr ⟨f,_,hrun hcall.1,(hcall.2 (OS β X (Be bs S)) w _ (fun b hb=>h1.os_lt hb) h1.glob hsize (fun i hi=>?_) hreps).mono fun e' w' ⟨v,h4,h5,h6⟩=>⟨v,h4,hpost v w' h5 h6⟩⟩)
    obtain ⟨p,hp,hnil,_⟩:=Ve hi
    rw [Nat.sub_zero] at hp
    have hlt:i < c.args.size:=by have:=AD hp; simpa using this
    rw [Array.getElem?_append_left (by simpa using hlt)]
    have:c.args[i]? = some p:=by simpa using hp
    rw [Array.getElem?_map,this,Nk hnil]; rfl
   ·exact .inr (.inr ⟨f,_,hrun hcall.1,(hcall.2 (OS β X (Be bs S)) w _ (fun b hb=>h1.os_lt hb) h1.glob hsize hreps).mono fun e' w' ⟨v,h4,h5,h6⟩=>⟨v,h4,hpost v w' h5 h6⟩⟩)
   ·obtain ⟨v,h4,h6⟩:=hcall (OS β X (Be bs S)) w _ hsize hreps
    exact .inl ⟨v,w,hrunX v h4,hpost v w ⟨rfl,rfl,rfl,Nat.le_refl _,fun _ _=>rfl⟩ h6⟩
  have hK':(∃ A:Nat→Prop,(∀ b,OS β X S b→A b)∧(∀ v w',C9 (fun b=>w.heap.size≤b) (OS β X (Be bs S)) w' v r→C9 (fun b=>w.heap.size≤b) A w' v r)∧bm d (Av S d).ver r [] K)∨bm d (Av S d).ver r bs K:=by
   unfold YJ at hK
   split at hK
   ·exact .inl ⟨OS β X S,fun _ h=>h,fun _ _ h=>h,hK⟩
   ·split at hK
    ·rename_i hbr; exact .inl ⟨fun _=>True,fun _ _=>trivial,fun v w' h=>h.bare hbr,hK⟩
    ·exact .inr hK
  rcases hK' with ⟨A,hA,hres,hK⟩ | hK
  ·obtain ⟨e,hKe,hpost⟩:=Ta (X:=X) (G:=G) (β:=β) (a:=a) (w:=w) (S:=S) (S0:=S) (pre:=[]) (ub:=[]) rfl hd (Nat.le_refl _) (by simp) (fun _ h=>by cases h) (by simpa using hK) (fun _=>rfl)
   refine ⟨e,hKe,fun hok=>GD fun v w' h5 h6=>hpost A v w' ⟨h,(fun _ h=>by cases h),.of h5,fun b hb _=>hA b hb,(fun b y hy=>by cases hy),?_,fun y hy=>by cases hy⟩ hok⟩
   exact (hres v w' h6).mono (fun b hb=>.inl hb) (fun _ h=>h)
  ·obtain ⟨e,hKe,hpost⟩:=Ta (X:=X) (G:=G) (β:=β) (a:=a) (w:=w) (S:=Be bs S) (S0:=S) (pre:=bs) (ub:=[]) rfl (by rw [BP]; exact hd) (dv:=(Av S d).ver) (by rw [h3.ver]; exact Nat.le_refl _) (by simp) (fun _ h=>by cases h) (by simpa using hK) h3.ver
   refine ⟨e,hKe,fun hok=>GD fun v w' h5 h6=>hpost _ v w' ⟨h1,(fun _ h=>by cases h),.of h5,fun b hb _=>hb,(fun b y hy=>by cases hy),?_,fun y hy=>by cases hy⟩ hok⟩
   exact h6.mono (fun b hb=>.inl hb) (fun _ h=>h)
 ·
  obtain ⟨ub,hK,hund,hu1,hu2,hu3⟩:=Pd hK
  obtain ⟨hnot,hK⟩:=Au hK
  obtain ⟨h1,h2,h3⟩:=hMF.run h
  have hargs:=hmrep.now h hMF
  have hpos:∀ (i id n:Nat),(us++(caps.map AV.d).map fun _=>(none:Option (Nat × Nat)))[i]? = some (some (id,n))→us[i]? = some (some (id,n))∧i < c.args.size:=by
   intro i id n hi
   rcases Nat.lt_or_ge i us.length with hl | hl
   ·rw [List.getElem?_append_left hl] at hi
    exact ⟨hi,by rw [hulen] at hl; simpa using hl⟩
   ·rw [List.getElem?_append_right hl] at hi
    simp only [List.getElem?_map] at hi
    cases caps[i - us.length]? <;> simp at hi
  have hback:∀ (i id n:Nat),us[i]? = some (some (id,n))→(us++(caps.map AV.d).map fun _=>(none:Option (Nat × Nat)))[i]? = some (some (id,n)):=by
   intro i id n hi
   rw [List.getElem?_append_left (AD hi)]; exact hi
  have hent:∀ y∈ub,∃ (i n:Nat) (q:AV) (p:Operand) (m:AV),us[i]? = some (some (y.1,n))∧outs[i]? = some q∧Wr y n q∧c.args.toList[i]? = some p∧ms[i]? = some m∧Uw β (OS β X S) w S mb (a.eval p) y.1 n m:=by
   intro y hy
   obtain ⟨i,n,q,k1,k2,k3⟩:=hu2 y hy
   obtain ⟨k1,hi⟩:=hpos i y.1 n k1
   have hp:c.args.toList[i]? = some c.args.toList[i]:=List.getElem?_eq_getElem (by simpa using hi)
   have hm:ms[i]? = some (ms[i]'(by rw [hmlen]; simpa using hi)):=List.getElem?_eq_getElem _
   exact ⟨i,n,q,_,_,k1,k2,k3,hp,hm,hmut i _ _ y.1 n hp hm k1⟩
  have hsame:∀ y∈ub,(Av (Be mb S) y.1).box = (Av S y.1).box:=fun y hy=>h3.other y.1 (Do (List.all_eq_true.1 hnot y hy))
  have hsl:∀ {id sz:Nat} {e:TypeId} {xs:List D},(Av S id).box = .row sz e xs→∃ ad m c,β id = .slice ad m c:=by
   intro id sz e xs hb
   have hbx:=h.boxes id
   rw [hb] at hbx
   obtain ⟨_,_,vals,hr,_⟩:=hbx
   exact KH hr
  have hmv:∀ {v:Value} {id n:Nat} {m:AV},Uw β (OS β X S) w S mb v id n m→A1 v = A1 (β id)∧(Av S id).ver = n∧(Av S id).box.owned = true∧m.mut = true:=by
   intro v id n m hmm
   cases m <;> try exact hmm.elim
   ·obtain ⟨k1,k2,k3⟩:=hmm; exact ⟨by rw [k3],k2,by rw [k1]; rfl,rfl⟩
   ·obtain ⟨cs,k1,k2,k3,_⟩:=hmm; exact ⟨by rw [k3],k2,by rw [k1]; rfl,rfl⟩
   ·obtain ⟨_,vs,ds,sz,e,xs,_,k3,_,k1,k2⟩:=hmm; exact ⟨by rw [k3,Yj (hsl k1)],k2,by rw [k1]; rfl,rfl⟩
  have hown1:∀ y∈ub,(Av (Be mb S) y.1).box.owned = true:=by
   intro y hy
   obtain ⟨i,n,q,p,m,_,_,_,_,_,hmm⟩:=hent y hy
   rw [hsame y hy]; exact (hmv hmm).2.2.1
  have hMut:∀ b,DV (c.args.map a.eval++capv) (ms++caps.map .d) b↔∃ y∈ub,A1 (β y.1) = some b:=by
   intro b
   constructor
   ·rintro ⟨i,v,x,hv,hx,hm,hb⟩
    rcases hval i v hv with ⟨p,hp,rfl⟩ | ⟨hi,hv⟩
    ·rw [List.getElem?_append_left (by rw [hmlen]; exact AD hp)] at hx
     have hui:us[i]? = some (us[i]'(by rw [hulen]; exact AD hp)):=List.getElem?_eq_getElem _
     cases hq:us[i]'(by rw [hulen]; exact AD hp) with
     | none=>rw [hq] at hui; rw [hnm i x hx hui] at hm; cases hm
     | some q =>
       obtain ⟨id,n⟩:=q
       rw [hq] at hui
       obtain ⟨y,hy,e,_⟩:=hu1 i id n (hback i id n hui)
       refine ⟨y,hy,?_⟩
       rw [e,← (hmv (hmut i p x id n hp hx hui)).1]; exact hb
    ·rw [List.getElem?_append_right (by rw [hmlen]; simpa using hi)] at hx
     simp only [List.getElem?_map] at hx
     cases hz:caps[i - ms.length]? with
     | none=>simp [hz] at hx
     | some z=>simp [hz] at hx; subst hx; cases hm
   ·rintro ⟨y,hy,hb⟩
    obtain ⟨i,n,q,p,m,k1,k2,k3,k4,k5,k6⟩:=hent y hy
    have hi:i < c.args.size:=by have:=AD k4; simpa using this
    refine ⟨i,a.eval p,m,?_,by rw [List.getElem?_append_left (AD k5)]; exact k5,(hmv k6).2.2.2,by rw [(hmv k6).1]; exact hb⟩
    rw [Array.getElem?_append_left (by simpa using hi)]
    have:c.args[i]? = some p:=by simpa using k4
    simp [this]
  have hMb:∀ b,(∃ y∈ub,A1 (β y.1) = some b)→OS β X (Be mb S) b:=fun b ⟨y,hy,hb⟩=>.inr (.inr ⟨y.1,hown1 y hy,hb⟩)
  have hcl':=hcall.2.2 (fun b=>OS β X (Be mb S) b∧¬ ∃ y∈ub,A1 (β y.1) = some b) w (c.args.map a.eval++capv) (fun b hb=>h1.os_lt hb.1) (fun g cs hg=>(h1.glob g cs hg).mono (B4.of_sub fun b hb=>by
   rcases hb with hb | hb
   ·exact hb.1
   ·obtain ⟨y,hy,hb⟩:=(hMut b).1 hb
    exact .inr (.inr ⟨y.1,hown1 y hy,hb⟩))) (by simp [hmlen,hcl]) (fun b hb hO=>hO.2 ((hMut b).1 hb))
   (fun i j v v' x y b hv hv' hx hy hmx hmy hb hb'=>by
    have one:∀ (i:Nat) v x,(c.args.map a.eval++capv)[i]? = some v→(ms++caps.map .d)[i]? = some x→x.mut = true→∃ id n,us[i]? = some (some (id,n))∧A1 v = A1 (β id):=by
     intro i v x hv hx hm
     rcases hval i v hv with ⟨p,hp,rfl⟩ | ⟨hi,hv⟩
     ·rw [List.getElem?_append_left (by rw [hmlen]; exact AD hp)] at hx
      have hui:us[i]? = some (us[i]'(by rw [hulen]; exact AD hp)):=List.getElem?_eq_getElem _
      cases hq:us[i]'(by rw [hulen]; exact AD hp) with
      | none=>rw [hq] at hui; rw [hnm i x hx hui] at hm; cases hm
      | some q =>
        obtain ⟨id,n⟩:=q
        rw [hq] at hui
        exact ⟨id,n,hui,(hmv (hmut i p x id n hp hx hui)).1⟩
     ·rw [List.getElem?_append_right (by rw [hmlen]; simpa using hi)] at hx
      simp only [List.getElem?_map] at hx
      cases hz:caps[i - ms.length]? with
      | none=>simp [hz] at hx
      | some z=>simp [hz] at hx; subst hx; cases hm
    obtain ⟨id,n,k1,ev1⟩:=one i v x hv hx hmx
    obtain ⟨id',n',k1',ev2⟩:=one j v' y hv' hy hmy
    rw [ev1] at hb; rw [ev2] at hb'
    obtain ⟨z,hz,e,_⟩:=hu1 i id n (hback i id n k1)
    obtain ⟨z',hz',e',_⟩:=hu1 j id' n' (hback j id' n' k1')
    have:=h1.inj id id' b (by rw [← e]; exact hown1 z hz) (by rw [← e']; exact hown1 z' hz') hb hb'
    subst this
    exact hu3 i j id n n' (hback i id n k1) (hback j id n' k1'))
   (fun i v x hv hx=>by
    have sub:∀ b,((OS β X (Be mb S) b∧¬ ∃ y∈ub,A1 (β y.1) = some b)∨DV (c.args.map a.eval++capv) (ms++caps.map .d) b)→OS β X (Be mb S) b:=by
     intro b hb
     rcases hb with hb | hb
     ·exact hb.1
     ·exact hMb b ((hMut b).1 hb)
    rcases hval i v hv with ⟨p,hp,rfl⟩ | ⟨hi,hv⟩
    ·rw [List.getElem?_append_left (by rw [hmlen]; exact AD hp)] at hx
     have hui:us[i]? = some (us[i]'(by rw [hulen]; exact AD hp)):=List.getElem?_eq_getElem _
     cases hq:us[i]'(by rw [hulen]; exact AD hp) with
     | none =>
       rw [hq] at hui
       have hC:=(hargs i p x hp hx hui).mono (B4.of_sub sub)
       have hnm':=hnm i x hx hui
       cases x <;> first | exact hC | cases hnm'
     | some q =>
       obtain ⟨id,n⟩:=q
       rw [hq] at hui
       have hmm:=hmut i p x id n hp hx hui
       obtain ⟨z,hz,e,_⟩:=hu1 i id n (hback i id n hui)
       have hsm:=hsame z hz
       rw [e] at hsm
       have hbx:=h1.boxes id
       rw [hsm] at hbx
       cases x <;> try exact hmm.elim
       ·obtain ⟨k1,k2,k3⟩:=hmm
        rw [k1] at hbx
        obtain ⟨j1,j2,vals,j3,j4⟩:=hbx
        exact ⟨j1,j2,vals,by rw [k3]; exact j3,j4.mono (B4.of_sub sub)⟩
       ·obtain ⟨cs,k1,k2,k3,k4⟩:=hmm
        rw [k1] at hbx
        obtain ⟨b',vals,T,j1,j2,j3,j4⟩:=hbx
        exact ⟨b',vals,T,by rw [k3]; exact j1,j2,(PO h3 h1 k4 (by simpa using j3) (fun j v c hv hc=>j4 j v c (by simpa using hv) hc)).mono (B4.of_sub sub)⟩
       ·obtain ⟨k0,vs',ds,sz,e,xs,k1,k2,k3,k4,k5⟩:=hmm
        rw [k4] at hbx
        obtain ⟨j1,j2,vals,j3,j4⟩:=hbx
        exact ⟨k0,vs',β id,ds,sz,e,xs,⟨k1,k2,by simpa using k3.1,j1,j2,vals,j3,j4.mono (B4.of_sub sub)⟩,k3.mono (B4.of_sub fun b hb=>h2 b (sub b hb))⟩
    ·rw [List.getElem?_append_right (by rw [hmlen]; simpa using hi),hmlen] at hx
     simp only [List.getElem?_map,Array.length_toList] at hx
     cases hz:caps[i - c.args.size]? with
     | none=>simp [hz] at hx
     | some z =>
       simp [hz] at hx; subst hx
       exact (hcr _ v z hv hz).mono ((B4.of_sub fun b hb=>h2 b (sub b hb))))
  obtain ⟨e,hKe,hpost⟩:=Ta (X:=X) (G:=G) (β:=β) (a:=a) (w:=w) (S:=Be mb S) (S0:=S) (pre:=mb) (ub:=ub) rfl (by rw [BP]; exact hd) (dv:=(Av S d).ver) (by rw [h3.ver]; exact Nat.le_refl _) hund
   (fun y hy=>by
    have:(Av (Be mb S) y.1).box≠.none:=by intro hh; have:=hown1 y hy; rw [hh] at this; cases this
    exact Lv rfl this) hK h3.ver
  refine ⟨e,hKe,fun hok=>.inr (.inr ⟨f,_,hrun hcall.1,hcl'.mono fun e' w' ⟨v,h4,h5,h6,h7⟩=>⟨v,h4,hpost (fun b=>(OS β X (Be mb S) b∧¬ ∃ y∈ub,A1 (β y.1) = some b)∨DV (c.args.map a.eval++capv) outs b) v w' ⟨h1,fun y hy=>?_,?_,fun b hb hn=>.inl ⟨hb,fun ⟨y,hy,hyb⟩=>hn y hy hyb⟩,fun b y hy ho hb=>?_,?_,fun y hy ho=>?_⟩ hok⟩⟩)⟩
  ·
   obtain ⟨i,n,q,p,m,k1,k2,k3,k4,k5,k6⟩:=hent y hy
   refine ⟨hown1 y hy,?_⟩
   rw [h3.ver,(hmv k6).2.1]
   cases q <;> try exact k3.elim
   ·exact .inr ⟨k3.1,by rw [k3.2]; omega⟩
   ·exact .inl ⟨by rw [k3.1]; rfl,k3.2⟩
   ·exact .inl ⟨by rw [k3.1]; rfl,k3.2⟩
   ·obtain ⟨⟨_,_,_,_,_,k3⟩,k4⟩:=k3; exact .inl ⟨by rw [k3]; rfl,k4⟩
  ·exact h5.weaken (Nat.le_refl _) fun k _ hno hm=>hno ((hMut k).1 hm)
  ·
   obtain ⟨i,n,q,p,m,k1,k2,k3,k4,k5,k6⟩:=hent y hy
   have hi:i < c.args.size:=by have:=AD k4; simpa using this
   refine .inr ⟨i,a.eval p,q,?_,k2,?_,by rw [(hmv k6).1]; exact hb⟩
   ·rw [Array.getElem?_append_left (by simpa using hi)]
    have:c.args[i]? = some p:=by simpa using k4
    simp [this]
   ·cases q <;> try exact k3.elim
    ·rw [k3.1] at ho; cases ho
    ·rfl
    ·rfl
    ·rfl
  ·refine h6.mono (fun b hb=>?_) (fun b hb=>hb)
   rcases hb with hb | ⟨hb,hno⟩
   ·exact .inl hb
   ·obtain ⟨y,hy,hyb⟩:=(hMut b).1 hb
    refine .inr ⟨y,hy,?_,hyb⟩
    obtain ⟨i,n,q,p,m,k1,k2,k3,k4,k5,k6⟩:=hent y hy
    have hi:i < c.args.size:=by have:=AD k4; simpa using this
    have hvi:(c.args.map a.eval++capv)[i]? = some (a.eval p):=by
     rw [Array.getElem?_append_left (by simpa using hi)]
     have:c.args[i]? = some p:=by simpa using k4
     simp [this]
    cases q <;> try exact k3.elim
    ·exact k3.1
    ·exact absurd ⟨i,a.eval p,_,hvi,k2,rfl,by rw [(hmv k6).1]; exact hyb⟩ hno
    ·exact absurd ⟨i,a.eval p,_,hvi,k2,rfl,by rw [(hmv k6).1]; exact hyb⟩ hno
    ·exact absurd ⟨i,a.eval p,_,hvi,k2,rfl,by rw [(hmv k6).1]; exact hyb⟩ hno
  ·obtain ⟨i,n,q,p,m,k1,k2,k3,k4,k5,k6⟩:=hent y hy
   have hi:i < c.args.size:=by have:=AD k4; simpa using this
   have hvi:(c.args.map a.eval++capv)[i]? = some (a.eval p):=by
    rw [Array.getElem?_append_left (by simpa using hi)]
    have:c.args[i]? = some p:=by simpa using k4
    simp [this]
   have hro:=h7 i (a.eval p) m q hvi (by rw [List.getElem?_append_left (AD k5)]; exact k5) k2
   have esub:∀ b,((((OS β X (Be mb S) b∧¬ ∃ y∈ub,A1 (β y.1) = some b)∨DV (c.args.map a.eval++capv) outs b)∨CC v r b)→((OS β X (Be mb S) b∧¬ ∃ y∈ub,A1 (β y.1) = some b)∨DV (c.args.map a.eval++capv) outs b∨CC v r b)):=by
    intro b hb; rcases hb with (hb | hb) | hb
    ·exact .inl hb
    ·exact .inr (.inl hb)
    ·exact .inr (.inr hb)
   cases q <;> try exact k3.elim
   ·rw [k3.1] at ho; cases ho
   ·rw [k3.1]
    obtain ⟨⟨j1,j2,vals,j3,j4⟩,_,rfl⟩:=hro
    rw [k6.2.2] at j3
    exact ⟨j1,j2,vals,j3,j4.mono (B4.of_sub esub)⟩
   ·rw [k3.1]
    obtain ⟨⟨b',vals,T,j1,j2,j3⟩,_,rfl,_⟩:=hro
    obtain ⟨_,_,_,k7,_⟩:=k6
    rw [k7] at j1
    exact ⟨_,rfl,b',vals,T,j1,j2,j3.mono (B4.of_sub esub)⟩
   ·obtain ⟨⟨ds',sz',e',ys',q1,q2⟩,_⟩:=k3
    obtain ⟨vs,u,ds,sz,e,ys,q3,q4,q5,j1,j2,vals,j3,j4⟩:=hro
    rw [q3] at q1
    obtain ⟨_,q1⟩:=List.append_inj' q1 rfl
    simp at q1
    obtain ⟨rfl,rfl,rfl⟩:=q1
    rw [q2]
    have hu:u = β y.1:=by
     cases m <;> try exact k6.elim
     ·obtain ⟨z1,_,z3⟩:=k6
      obtain ⟨ad,m',c',z4⟩:=hsl z1
      rw [z3,z4] at q4; cases q4
     ·obtain ⟨cs,z1,_,z3,_⟩:=k6
      have hbx:=h.boxes y.1
      rw [z1] at hbx
      obtain ⟨_,_,_,z4,_⟩:=hbx
      rw [z3,z4] at q4; cases q4
     ·obtain ⟨_,vs',_,_,_,_,_,z2,_⟩:=k6
      rw [z2] at q4
      simp at q4
      exact (Array.push_eq_push.1 q4).1.symm
    rw [hu] at j3
    exact ⟨j1,j2,vals,j3,j4.mono (B4.of_sub esub)⟩
end
end Go.Abs
set_option linter.unusedVariables false
set_option linter.unusedSimpArgs false
namespace Go.Abs
open Go.RowKit (Below)
section
variable {P:Program} {X:Cx} {G:Nat→Prop} {β:Nat→Value} {S:AS} {a:Act} {w:World} {o:Oper}
def EG (R:Value→C→Prop) (vs:List Value) (cs:List C):Prop:=vs.length = cs.length∧∀ (j:Nat) v c,vs[j]? = some v→cs[j]? = some c→R v c
theorem EG.append {R:Value→C→Prop} {vs us:List Value} {xs ys:List C} (h:EG R vs xs) (k:EG R us ys):EG R (vs++us) (xs++ys):=by
 refine ⟨by simp [h.1,k.1],fun j v y hv hy=>?_⟩
 by_cases hj:j < vs.length
 ·rw [List.getElem?_append_left hj] at hv
  rw [List.getElem?_append_left (by rw [← h.1]; exact hj)] at hy
  exact h.2 j v y hv hy
 ·rw [List.getElem?_append_right (by omega)] at hv
  rw [List.getElem?_append_right (by rw [← h.1]; omega)] at hy
  rw [← h.1] at hy
  exact k.2 _ v y hv hy
theorem EG.take {R:Value→C→Prop} {vs:List Value} {xs:List C} (h:EG R vs xs) (n:Nat):EG R (vs.take n) (xs.take n):=by
 refine ⟨by simp [h.1],fun j v y hv hy=>?_⟩
 rw [List.getElem?_take] at hv hy
 split at hv
 ·rw [if_pos ‹_›] at hy; exact h.2 j v y hv hy
 ·cases hv
theorem EG.drop {R:Value→C→Prop} {vs:List Value} {xs:List C} (h:EG R vs xs) (n:Nat):EG R (vs.drop n) (xs.drop n):=by
 refine ⟨by simp [h.1],fun j v y hv hy=>?_⟩
 rw [List.getElem?_drop] at hv hy
 exact h.2 _ v y hv hy
theorem EG.splice {R:Value→C→Prop} {vs us:List Value} {xs ys:List C} (h:EG R vs xs) (k:EG R us ys) {o:Nat} (ho:o≤xs.length) :
 EG R (vs.take o++us++vs.drop (o + us.length)) (splice xs o ys):=by
 rw [Em xs o ys ho,k.1]
 exact ((h.take o).append k).append (h.drop _)
def Zn (R:Value→C→Prop):List (Nat × Value)→List (Nat × List C)→Prop
 | [],[]=>True
 | (i,v) :: r,(j,c) :: s=>i = j∧EG R v.cells.toList c∧Zn R r s
 | _,_=>False
theorem T9 {R:Value→C→Prop} {place:Nat→Option (Nat × Nat)}:∀ {pv:List (Nat × Value)} {ps:List (Nat × List C)} {cells:Array Value} {cs l:List C},Zn R pv ps→EG R cells.toList cs→W7 place cs ps = some l →
 ∃ arr,Instr.fill place cells pv = some arr∧EG R arr.toList l
 | [],[],cells,cs,l,_,hc,hf=>by simp [W7] at hf; subst hf; exact ⟨cells,rfl,hc⟩
 | (i,v) :: r,(j,x) :: s,cells,cs,l,hp,hc,hf=>by
   obtain ⟨rfl,hv,hp⟩:=hp
   simp only [W7] at hf
   split at hf
   ·cases hf
   ·rename_i off size hpl
    split at hf
    ·rename_i hcond
     have hsz:v.cells.size = x.length:=by simpa using hv.1
     have hcs:cells.size = cs.length:=by simpa using hc.1
     have hfold:=Sc off v.cells.toList 0 cells (by simp; omega)
     simp only [Nat.add_zero] at hfold
     have hrep:EG R (v.cells.zipIdx.foldl (fun cs (x:Value × Nat)=>cs.setIfInBounds (off + x.2) x.1) cells).toList (splice cs off x):=by
      rw [← Array.foldl_toList,Array.toList_zipIdx,hfold]
      exact hc.splice hv (by omega)
     obtain ⟨arr,h1,h2⟩:=T9 hp hrep hf
     refine ⟨arr,?_,h2⟩
     simp only [Instr.fill,hpl]
     rw [if_neg (by simp; omega)]
     exact h1
    ·cases hf
 | [],_ :: _,_,_,_,hp,_,_=>hp.elim
 | (_,_) :: _,[],_,_,_,hp,_,_=>hp.elim
def ae (β:Nat→Value) (n:Nat→Nat) (O:Nat→Prop) (w:World) (v:Value) (c:C):Prop:=BK β n O w v c∧v.oneCell' = true
theorem Bo.cellsC {O:Nat→Prop} {n:Nat→Nat} {vs:List Value} {ys:List D} (h:Bo O w vs ys):EG (ae β n O w) vs (ys.map C.d):=⟨by simpa using h.1,fun j v c hv hc=>⟨h.cells j v c hv hc,h.oneCell v (List.mem_of_getElem? hv)⟩⟩
theorem b7 (h:AE X G β S a w) {v:Value} {id n sz:Nat} {e:TypeId} {xs:List D} (hr:MP β (OS β X S) S w v (.row id n sz e xs)):v.cells = #[v]∧ae β (AU S) (OS β X S) w v (.sl id n):=by
 obtain ⟨h1,h2,h3⟩:=hr
 have hb:=h.boxes id
 rw [h1] at hb
 obtain ⟨_,_,vals,hr,_⟩:=hb
 have key:v.cells = #[v]∧v.oneCell' = true:=by
  rw [h3]
  rcases hr with ⟨_,⟨hv,_⟩ | ⟨g',cap,cur,hv,_⟩⟩ | ⟨_,_,ad,hv⟩ <;> (rw [hv]; exact ⟨rfl,rfl⟩)
 exact ⟨key.1,⟨Nat.le_of_eq h2.symm,fun _=>h3⟩,key.2⟩
theorem VH (h:AE X G β S a w) {r:RV} {v:Value} (hr:MP β (OS β X S) S w v r) {K:List C→Prop} (hy:cellsOf r K):∃ c,K c∧EG (ae β (AU S) (OS β X S) w) v.cells.toList c:=by
 cases r <;> simp only [cellsOf] at hy
 case d x =>
  rw [NX] at hy
  exact ⟨_,hy,(Fz (show AB _ w v x from hr)).cellsC⟩
 case lim sz xs=>exact ⟨_,hy,(Fz (x:=.list sz xs) hr.1).cellsC⟩
 case row id n sz e xs =>
  obtain ⟨h1,h2⟩:=b7 h hr
  refine ⟨_,hy,by rw [h1]; rfl,fun j v' c hv hc=>?_⟩
  rw [h1] at hv
  cases j with
  | zero=>simp at hv hc; subst hv; subst hc; exact h2
  | succ j=>simp at hc
theorem Sy (h:AE X G β S a w) {g:Option (Nat × Bool)} (hg:BB g a):∀ {BX:List (Nat × Operand)} {K:List (Nat × List C)→Prop},L2 (ρOf S g) BX K →
 ∃ ps,K ps∧Zn (ae β (AU S) (OS β X S) w) (BX.map fun x=>(x.1,a.eval x.2)) ps
 | [],K,hy=>⟨[],hy,trivial⟩
 | (i,x) :: r,K,hy=>by
   obtain ⟨c,hK,hc⟩:=VH h (ρ_sound h hg x) hy
   obtain ⟨ps,hK,hps⟩:=Sy h hg hK
   exact ⟨_,hK,rfl,hc,hps⟩
theorem Yq (h:AE X G β S a w) {g:Option (Nat × Bool)} (hg:BB g a) {t:TypeId} {BX:Array (Nat × Operand)} (ho:o.op = .build t BX) {fields:Array Field} (hu:P.underlying t = some (.struct fields))
 {zd:List D} (hzd:zeroCells P t = some zd) (hall:fields.toList.all (fun f=>(P.info? f.type).isSome) = true) {K:F3→Prop}
 (hy:Yc zd fun zc=>L2 (ρOf S g) BX.toList fun ps=>match W7 (fun i=>match fields[i]? with | some f=>some (f.offset,AF P f.type) | none=>none) zc ps with
  | some l=>Ci l fun l=>K ⟨.cc none l,[],[]⟩
  | none=>False):∃ e,K e∧Cw P X G S a w o e:=by
 rw [NX] at hy
 obtain ⟨ps,hK,hp⟩:=Sy h hg hy
 split at hK
 ·rename_i l hl
  rw [B5] at hK
  obtain ⟨i,z,hi,hz,hzr⟩:=FG (O:=OS β X S) (w:=w) hzd
  obtain ⟨arr,h3,h4⟩:=T9 hp (hzr.cellsC (β:=β) (n:=AU S)) hl
  have hplace:(fun (i:Nat)=>match (fields[i]?:Option Field) with | some f=>some (f.offset,AF P f.type) | none=>none) = fun i=>(fields.map fun (f:Field)=>(f.offset,AF P f.type))[i]?:=by
   funext i
   rw [Array.getElem?_map]
   cases fields[i]? <;> rfl
  rw [hplace] at h3
  have hpl:(fields.mapM fun (f:Field)=>(do pure (f.offset,← sizeOf f.type):Sem (Nat × Nat))).run P w = .ok (fields.map fun (f:Field)=>(f.offset,AF P f.type)) w:=by
   rw [Array.mapM_eq_mapM_toList,Sem.run_map,Vw hall]
   simp only [Result.andThen_ok]
   congr 1
   apply Array.ext'
   simp
  refine ⟨_,hK,.inl ⟨.agg arr,w,?_,β,h,⟨arr,rfl,by simpa using h4.1,fun j u c hu hc=>h4.2 j u c (by simpa using hu) hc⟩,rfl⟩⟩
  simp only [execOp,ho,Instr.build,Sem.run_bind,zeroValue,typeInfo,run_program,hi,hz,Result.andThen_ok,Sem.run_pure,run_underlying hu,hpl,Array.toList_map]
  rw [h3]
  simp
 ·exact hK.elim
theorem N8 (h:AE X G β S a w) {g:Option (Nat × Bool)} (hg:BB g a):∀ {args:List Operand} {K:List C→Bx→Prop},HE (σOf S) (ρOf S g) args K →
 ∃ l b,K l b∧FZ S [] b∧l.length = args.length∧(∀ (i:Nat) p id n,args[i]? = some p→l[i]? = some (.sl id n)→(Av S id).ver = n∧a.eval p = β id∧(a.eval p).oneCell' = true)∧(∀ c∈l,∀ sz e xs,c≠.own sz e xs) ∧
   (∀ (i:Nat) y,l[i]? = some (.d y)→y.one = true)∧Ji X G β S a w b fun O=>∀ (i:Nat) p y,args[i]? = some p→l[i]? = some (.d y)→AB O w (a.eval p) y
 | [],K,hy=>⟨[],[],hy,trivial,rfl,(fun i p id n hp=>by simp at hp),(fun _ h=>by cases h),(fun i y hy=>by simp at hy),fun _ _ _ _ _ i p y hp _=>by simp at hp⟩
 | q :: r,K,hy=>by
   unfold HE at hy
   split at hy
   ·rename_i id n how
    have hr:=ρ_sound h hg q
    obtain ⟨l,bs,hK,hFs,hl,hsl,hno,hone,hreps⟩:=N8 h hg hy
    have hq:(Av S id).ver = n∧a.eval q = β id∧(a.eval q).oneCell' = true:=by
     unfold ZM at how
     split at how <;> try (cases how; done)
     ·rename_i hx
      cases how
      rw [hx] at hr
      obtain ⟨_,h2,b,h3,h4⟩:=hr
      exact ⟨h2,by rw [h4,h3],by rw [h4]; rfl⟩
     ·rename_i hx
      cases how
      rw [hx] at hr
      obtain ⟨_,h2,b,h3,h4⟩:=hr
      exact ⟨h2,by rw [h4,h3],by rw [h4]; rfl⟩
    refine ⟨_,_,hK,hFs,by simp [hl],fun i p id' n' hp hc=>?_,fun c hc=>?_,fun i y hy=>?_,hreps.mono (fun _ h=>h) fun O hh i p y hp hc=>?_⟩
    ·cases i with
     | zero=>simp at hp hc; subst hp; obtain ⟨rfl,rfl⟩:=hc; exact hq
     | succ i=>exact hsl i p id' n' (by simpa using hp) (by simpa using hc)
    ·rcases List.mem_cons.1 hc with rfl | hc
     ·intro _ _ _ e; cases e
     ·exact hno c hc
    ·cases i with
     | zero=>simp at hy
     | succ i=>exact hone i y (by simpa using hy)
    ·cases i with
     | zero=>simp at hc
     | succ i=>exact hh i p y (by simpa using hp) (by simpa using hc)
   ·obtain ⟨y,b,hK,hF,_,hrep⟩:=JM h (ρ_sound h hg q) hy
    split at hK
    ·rename_i yd
     obtain ⟨h1,hK⟩:=Au hK
     obtain ⟨l,bs,hK,hFs,hl,hsl,hno,hone,hreps⟩:=N8 h hg hK
     refine ⟨_,_,hK,hF.append hFs,by simp [hl],fun i p id' n' hp hc=>?_,fun c hc=>?_,fun i y hy=>?_,(hrep.and hreps).mono (fun _ h=>h) fun O hh i p y hp hc=>?_⟩
     ·cases i with
      | zero=>simp at hc
      | succ i=>exact hsl i p id' n' (by simpa using hp) (by simpa using hc)
     ·rcases List.mem_cons.1 hc with rfl | hc
      ·intro _ _ _ e; cases e
      ·exact hno c hc
     ·cases i with
      | zero=>simp at hy; subst hy; exact h1
      | succ i=>exact hone i y (by simpa using hy)
     ·cases i with
      | zero=>simp at hp hc; subst hp; subst hc; exact hh.1
      | succ i=>exact hh.2 i p y (by simpa using hp) (by simpa using hc)
    ·exact hK.elim
theorem Z0 (h:AE X G β S a w) {g:Option (Nat × Bool)} (hg:BB g a) {f:FuncId} {first caps:Array Operand} (ho:o.op = .makeFunc (.func f) first caps) (hf:first.toList = []) {K:F3→Prop}
 (hy:HE (σOf S) (ρOf S g) caps.toList fun l b=>K ⟨.cc (some f) l,b,[]⟩):∃ e,K e∧Cw P X G S a w o e:=by
 obtain ⟨l,b,hK,hF,hl,hsl,hno,hone,hrep⟩:=N8 h hg hy
 obtain ⟨h1,_,hfr⟩:=hF.run h
 have hr:=hrep.now h hF
 refine ⟨_,hK,.inl ⟨.func (.func f) #[] (caps.map a.eval),w,?_,β,h1,⟨caps.map a.eval,rfl,by simp [hl],fun i v c hv hc=>?_⟩,rfl⟩⟩
 ·have:first = #[]:=by cases first; simp_all
  simp [execOp,ho,Instr.makeFunc,this]
 ·rw [Array.getElem?_map] at hv
  cases hp:caps[i]? with
  | none=>simp [hp] at hv
  | some p =>
    simp [hp] at hv
    subst hv
    cases c with
    | d y=>exact ⟨⟨hr i p y (by simpa using hp) hc,hone i y hc⟩,SI (hr i p y (by simpa using hp) hc) (hone i y hc)⟩
    | sl id n =>
      obtain ⟨h2,h3,h4⟩:=hsl i p id n (by simpa using hp) hc
      have hv:=hfr.ver id
      exact ⟨⟨by simp only [AU]; rw [hv,h2]; exact Nat.le_refl _,fun _=>h3⟩,h4⟩
    | own sz e xs=>exact (hno _ (List.mem_of_getElem? hc) sz e xs rfl).elim
theorem PH:∀ {cs:List C} {k id n:Nat},ZV cs = some (k,id,n)→cs[k]? = some (.sl id n)
 | [],_,_,_,h=>by cases h
 | .sl id' n' :: r,k,id,n,h=>by simp [ZV] at h; obtain ⟨rfl,rfl,rfl⟩:=h; rfl
 | .d y :: r,k,id,n,h=>by
   simp only [ZV] at h
   split at h
   ·rename_i k' id' n' h'
    simp only [Option.some.injEq,Prod.mk.injEq] at h
    obtain ⟨rfl,rfl,rfl⟩:=h
    simpa using PH h'
   ·cases h
 | .own _ _ _ :: r,k,id,n,h=>by
   simp only [ZV] at h
   split at h
   ·rename_i k' id' n' h'
    simp only [Option.some.injEq,Prod.mk.injEq] at h
    obtain ⟨rfl,rfl,rfl⟩:=h
    simpa using PH h'
   ·cases h
theorem Wv:∀ {cs:List C} {i:Nat} {x:AV},(O4 cs)[i]? = some x→x = .any∨∃ y,x = .d y∧cs[i]? = some (.d y)
 | [],i,x,h=>by simp [O4] at h
 | c :: r,0,x,h=>by
   cases c <;> simp [O4] at h <;> subst h
   ·exact .inr ⟨_,rfl,rfl⟩
   ·exact .inl rfl
   ·exact .inl rfl
 | c :: r,i + 1,x,h=>by
   have h':(O4 r)[i]? = some x:=by cases c <;> simpa [O4] using h
   rcases Wv h' with h | ⟨y,h1,h2⟩
   ·exact .inl h
   ·exact .inr ⟨y,h1,by simpa using h2⟩
theorem R9:∀ cs:List C,(O4 cs).length = cs.length
 | []=>rfl
 | c :: r=>by cases c <;> simp [O4,R9 r]
theorem Z4 (h:AE X G β S a w) {g:Option (Nat × Bool)} (hg:BB g a) {c:Call} (ho:o.op = .call c) {fo:Operand} (hc:c.callee = .value fo) {f:FuncId} {cs:List C} {k id n rid rn:Nat} (hf:ρOf S g fo = .clo f cs k id n rid rn)
 {rid' rn' sz:Nat} {e:TypeId} {xs:List D} (hr:σOf S rid rn = .row rid' rn' sz e xs) {K:F3→Prop} (hy:Ga P (σOf S) (ρOf S g) c.args.toList c.argTypes.toList fun vs bs=>match bs with
  | []=>Ci (O4 cs) fun cv=>bO P f (vs++cv) (vs.length + k) sz e xs fun ys=>if id = rid then False else K ⟨.any,[(rid,.row sz e ys,rn + 1),(id,.var [.sl rid (rn + 1)],n)],[]⟩
  | _=>False):∃ e,K e∧Cw P X G S a w o e:=by
 obtain ⟨vs,bs,hy,hF,hlen,hrep⟩:=K2 h hg hy
 split at hy <;> try exact hy.elim
 rw [B5] at hy
 obtain ⟨ys,hcall,hy⟩:=hy.go
 split at hy
 ·exact hy.elim
 rename_i hne
 refine ⟨_,hy,?_⟩
 have hargs:=hrep.now h hF
 have hfv:=ρ_sound h hg fo
 rw [hf] at hfv
 obtain ⟨⟨capv,hfe,hcl,hcr⟩,hat,hbx,hver⟩:=hfv
 have hrun:(execOp a.eval o).run P w = .ok (.enter f (c.args.map a.eval++capv)) w:=by
  simp only [execOp,ho,resolve,hc,hfe,Deferred.ofValue,Sem.run_bind,Sem.run_pure,Result.andThen_ok,invoke]
  simp only [Array.empty_append]
  rw [KI hcall.1]
 have hbv:=h.boxes id
 rw [hbx] at hbv
 obtain ⟨b,vals,T,hβ,hh,hvs,hcell⟩:=hbv
 obtain ⟨u,rfl⟩:∃ u,vals = #[u]:=by
  have:vals.size = 1:=hvs
  exact ⟨vals[0],by apply Array.ext; simp [this]; intro i h1 h2; simp at h2; subst h2; rfl⟩
 have hcu:=hcell 0 u (.sl rid rn) rfl rfl
 have hσ:=σ_sound h hcu
 rw [hr] at hσ
 obtain ⟨hrb,hrv,hru⟩:=hσ
 obtain ⟨rfl,rfl⟩:rid' = rid∧rn' = rn:=by
  simp only [σOf,res] at hr
  split at hr <;> (try (split at hr)) <;> cases hr <;> exact ⟨rfl,rfl⟩
 have hrbx:=h.boxes rid'
 rw [hrb] at hrbx
 obtain ⟨hsz,hxs,rvals,hrow,hrl⟩:=hrbx
 have ho1:(Av S id).box.owned = true:=by rw [hbx]; rfl
 have ho2:(Av S rid').box.owned = true:=by rw [hrb]; rfl
 have hbb:A1 (β id) = some b:=by rw [hβ]; rfl
 have hid:=Lv hbx (by simp)
 have hrid:=Lv hrb (by simp)
 have hlt:=h.blk ho1 hbb
 have hO:∀ c',(OS β X S c'∧c'≠b∧A1 u≠some c')∨c' = b∨A1 u = some c'→OS β X S c':=by
  intro c' hc'
  rcases hc' with hc' | rfl | hc'
  ·exact hc'.1
  ·exact .inr (.inr ⟨id,ho1,hbb⟩)
  ·exact .inr (.inr ⟨rid',ho2,by rw [← hru]; exact hc'⟩)
 have hval:∀ (i:Nat) v,(c.args.map a.eval++capv)[i]? = some v→(∃ p,c.args.toList[i]? = some p∧v = a.eval p)∨(c.args.size≤i∧capv[i - c.args.size]? = some v):=by
  intro i v hv
  rcases Nat.lt_or_ge i c.args.size with hi | hi
  ·rw [Array.getElem?_append_left (by simpa using hi)] at hv
   simp [hi] at hv
   exact .inl ⟨c.args[i],by simp [hi],hv.symm⟩
  ·rw [Array.getElem?_append_right (by simpa using hi)] at hv
   exact .inr ⟨hi,by simpa using hv⟩
 have hkv:(c.args.map a.eval++capv)[vs.length + k]? = some (.pointer (some ⟨b,0,none⟩)):=by
  have h1:=PH hat
  have h2:k < capv.size:=by rw [hcl]; exact AD h1
  have h3:=hcr k capv[k] _ (by simp [h2]) h1
  have h4:capv[k] = β id:=h3.1.2 (by simp only [AU]; exact hver.symm)
  rw [Array.getElem?_append_right (by simp [hlen])]
  simp [hlen,h2,h4,hβ]
 have:=hcall.2 (fun c'=>OS β X S c'∧c'≠b∧A1 u≠some c') w (c.args.map a.eval++capv) b u T (fun c' hc'=>h.os_lt hc'.1) (fun q l hq=>(h.glob q l hq).mono (B4.of_sub hO))
  (by simp [hlen,hcl,R9]) hkv hh (fun hb=>hb.2.1 rfl) (fun c' hc'=>⟨fun hx=>hx.2.2 hc',fun e=>by
   subst e
   exact hne (h.inj id rid' c' ho1 ho2 hbb (by rw [← hru]; exact hc'))⟩) hsz hxs ⟨rvals,by rw [hru]; exact hrow,hrl.mono (B4.of_sub hO)⟩
  (fun i v x hv hx=>by
   rcases hval i v hv with ⟨p,hp,rfl⟩ | ⟨hi,hv⟩
   ·rw [List.getElem?_append_left (by rw [hlen]; exact AD hp)] at hx
    exact (hargs i p x hp hx).mono (B4.of_sub hO)
   ·rw [List.getElem?_append_right (by rw [hlen]; simpa using hi),hlen] at hx
    simp only [Array.length_toList] at hx
    rcases Wv hx with rfl | ⟨y,rfl,hcy⟩
    ·trivial
    ·exact ((hcr _ v _ hv hcy).1.1).mono (B4.of_sub hO))
 refine .inr (.inr ⟨f,_,hrun,this.mono fun e' w' ⟨v,u',T',h1,h2,h3,h4,h5,vals',h6,h7⟩=>⟨v,h1,?_⟩⟩)
 have hsz2:=h2.size
 let β':Nat→Value:=fun i=>if i = rid' then u' else β i
 have hgs:∀ i,Av (Be [(rid',.row sz e ys,rn' + 1),(id,.var [.sl rid' (rn' + 1)],n)] S) i = if i = rid' then ⟨(Av S rid').av,.row sz e ys,rn' + 1⟩ else if i = id then ⟨(Av S id).av,.var [.sl rid' (rn' + 1)],n⟩ else Av S i:=by
  intro i
  simp only [Be]
  rw [Ie (by rw [Dx]; exact hid),Ie hrid,Ie hrid]
  by_cases e1:i = id
  ·subst e1
   simp [hne]
  ·simp [e1]
 have hsim:AE X G β' (Be [(rid',.row sz e ys,rn' + 1),(id,.var [.sl rid' (rn' + 1)],n)] S) a w':=by
  refine h.multi (fun i=>if i = rid' then some (.row sz e ys,rn' + 1,u') else if i = id then some (.var [.sl rid' (rn' + 1)],n,β id) else none) (fun i=>?_) (fun i=>?_) (BP _ _) hsz2 ?_ (fun i B m v hE=>?_) (fun b' hb' hk=>?_) (fun i B m v b' hE hB hbv=>?_) (fun i j B m v B' m' v' b' hE hE' hB hB' hbv hbv'=>?_) (fun hk hvv i B m v hE=>?_)
  ·rw [hgs]
   by_cases e1:i = rid'
   ·subst e1; simp
   ·by_cases e2:i = id
    ·simp [e2,hne]
    ·simp [e1,e2]
  ·show (if i = rid' then u' else β i) = _
   by_cases e1:i = rid'
   ·simp [e1]
   ·by_cases e2:i = id
    ·subst e2; simp only [if_neg e1,if_true]
    ·simp [e1,e2]
  ·refine h2.weaken h.hbase fun q hq hm hq'=>hm ?_
   rcases hq' with rfl | hq'
   ·exact ((h.mine id q ho1 hbb).1).resolve_left (by omega)
   ·exact ((h.mine rid' q ho2 (by rw [← hru]; exact hq')).1).resolve_left (by omega)
  ·split at hE
   ·rename_i e1; subst e1; cases hE; exact .inl (by rw [hrv]; omega)
   ·split at hE
    ·rename_i e2; subst e2; cases hE; exact .inr ⟨hver.symm,rfl,by rw [hbx]; simp⟩
    ·cases hE
  ·refine h2.block b' hb' fun hm=>?_
   rcases hm with rfl | hm
   ·exact hk id (.var [.sl rid' (rn' + 1)]) n (β id) (by simp [hne]) ho1 hbb
   ·exact hk rid' (.row sz e ys) (rn' + 1) u' (by simp) ho2 (by rw [← hru]; exact hm)
  ·split at hE
   ·rename_i e1
    subst e1
    cases hE
    rcases h4 b' hbv with h8 | h8
    ·exact .inl ⟨i,.row sz e ys,rn' + 1,u',by simp,ho2,by rw [← hru]; exact h8⟩
    ·exact .inr h8
   ·split at hE
    ·rename_i e1 e2
     subst e2
     cases hE
     exact .inl ⟨i,.var [.sl rid' (rn' + 1)],n,β i,by simp [hne],ho1,hbv⟩
    ·cases hE
  ·have hdis:∀ b',A1 u' = some b'→A1 (β id)≠some b':=by
    intro b' h8 h9
    rw [hbb] at h9
    cases h9
    rcases h4 b h8 with h9 | h9
    ·exact hne (h.inj id rid' b ho1 ho2 hbb (by rw [← hru]; exact h9))
    ·omega
   by_cases e1:i = rid' <;> by_cases e2:j = rid'
   ·rw [e1,e2]
   ·simp only [e1,e2,if_true,if_false] at hE hE'
    split at hE'
    ·cases hE; cases hE'; exact (hdis b' hbv hbv').elim
    ·cases hE'
   ·simp only [e1,e2,if_true,if_false] at hE hE'
    split at hE
    ·cases hE; cases hE'; exact (hdis b' hbv' hbv).elim
    ·cases hE
   ·simp only [e1,e2,if_false] at hE hE'
    split at hE
    ·split at hE'
     ·rename_i e3 e4; rw [e3,e4]
     ·cases hE'
    ·cases hE
  ·have hOS:∀ c',OS β' X (Be [(rid',.row sz e ys,rn' + 1),(id,.var [.sl rid' (rn' + 1)],n)] S) c'→(OS β X S c'∧c'≠b∧A1 u≠some c')∨c' = b∨A1 u' = some c':=by
    intro c' hc'
    by_cases eb:c' = b
    ·exact .inr (.inl eb)
    by_cases eu:A1 u' = some c'
    ·exact .inr (.inr eu)
    have key:OS β X S c'∧A1 u≠some c':=by
     rcases hc' with hc' | hc' | ⟨i,hi1,hi2⟩
     ·refine ⟨.inl hc',fun e=>?_⟩
      have:=(h.mine rid' c' ho2 (by rw [← hru]; exact e)).1
      have h0:=h.o₀ c' hc'
      rcases this with this | this
      ·omega
      ·exact h0.2 this
     ·refine ⟨.inr (.inl hc'),fun e=>(h.mine rid' c' ho2 (by rw [← hru]; exact e)).2 hc'⟩
     ·rw [hgs] at hi1
      have hi2:A1 (if i = rid' then u' else β i) = some c':=hi2
      by_cases e1:i = rid'
      ·rw [if_pos e1] at hi2; exact (eu hi2).elim
      ·rw [if_neg e1] at hi1 hi2
       by_cases e2:i = id
       ·subst e2; rw [hbb] at hi2; cases hi2; exact (eb rfl).elim
       ·rw [if_neg e2] at hi1
        exact ⟨.inr (.inr ⟨i,hi1,hi2⟩),fun e=>e1 (h.inj i rid' c' hi1 ho2 hi2 (by rw [← hru]; exact e))⟩
    exact .inl ⟨key.1,eb,key.2⟩
   split at hE
   ·rename_i e1
    subst e1
    cases hE
    exact ⟨hsz,h5,vals',by show Ca w' e sz (if i = i then u' else β i) _ _; rw [if_pos rfl]; exact h6,h7.mono (B4.of_sub hOS)⟩
   ·split at hE
    ·rename_i e1 e2
     subst e2
     cases hE
     refine ⟨b,#[u'],T',by show (if i = rid' then u' else β i) = _; rw [if_neg e1]; exact hβ,h3,rfl,fun j v c' hv hc'=>?_⟩
     cases j with
     | zero =>
       simp at hv hc'
       subst hv; subst hc'
       have hvr:AU (Be [(rid',.row sz e ys,rn' + 1),(i,.var [.sl rid' (rn' + 1)],n)] S) rid' = rn' + 1:=by simp only [AU,hgs,if_true]
       exact ⟨by rw [hvr]; exact Nat.le_refl _,fun _=>by show _ = if rid' = rid' then u' else _; rw [if_pos rfl]⟩
     | succ j=>simp at hc'
    ·cases hE
 exact ⟨β',hsim,trivial,rfl⟩
end
end Go.Abs
set_option linter.unusedVariables false
set_option linter.unusedSimpArgs false
namespace Go.Abs
open Go.RowKit (Below)
open Go.MapKept
section
variable {P:Program} {X:Cx} {G:Nat→Prop} {β:Nat→Value} {S:AS} {a:Act} {w:World} {o:Oper}
theorem Wk {O:Nat→Prop} {kd:TypeDesc} {v u:Value} {k q:D} (hk:AB O w v k) (hq:AB O w u q) (hkd:VO k = some kd) (hkk:GF k q = true) :
 Instr.sameNow kd v u = some (HT k q):=by
 cases k <;> simp only [VO,Option.some.injEq] at hkd <;> try (cases hkd; done)
 case int j n =>
  cases q <;> simp only [GF] at hkk <;> try (cases hkk; done)
  case int j' m =>
   cases hk; cases hq
   subst hkd
   have:=of_decide_eq_true hkk
   subst this
   simp [Instr.sameNow,HT]
 case str s =>
  cases q <;> simp only [GF] at hkk <;> try (cases hkk; done)
  case str s' =>
   cases hk; cases hq
   subst hkd
   simp [Instr.sameNow,HT]
theorem M3 {O:Nat→Prop} {kd:TypeDesc} {v:Value} {k:D} (hk:AB O w v k) (hkd:VO k = some kd) :
 ∀ (vs:List MapEntry) (es:List (D × D)) (i:Nat),vs.length = es.length→(∀ p∈es,GF k p.1 = true)→(∀ (j:Nat) (e:MapEntry) (p:D × D),vs[j]? = some e→es[j]? = some p→AB O w e.key p.1) →
   Instr.findNow kd v vs i = some (match OX k es with | some j=>(vs[j]?).map fun e=>(i + j,e.val) | none=>none)
 | [],[],_,_,_,_=>rfl
 | [],_ :: _,_,h,_,_=>by simp at h
 | _ :: _,[],_,h,_,_=>by simp at h
 | e :: vs,p :: es,i,hl,hkk,hr=>by
   have h1:=Wk hk (hr 0 e p rfl rfl) hkd (hkk p (by simp))
   unfold Instr.findNow OX
   rw [h1]
   cases HT k p.1 with
   | true=>simp
   | false =>
     simp only [cond_false]
     rw [M3 hk hkd vs es (i + 1) (by simpa using hl) (fun q hq=>hkk q (by simp [hq])) (fun j e' p' he hp=>hr (j + 1) e' p' (by simpa using he) (by simpa using hp))]
     cases OX k es with
     | none=>rfl
     | some j =>
       simp only [Option.map_some,List.getElem?_cons_succ]
       congr 2
       funext e'
       congr 1
       omega
theorem Xs (h:AE X G β S a w) {d:Nat} (hd:d < S.length) {t:TypeId} (ho:o.op = .makeMap t none) :
 Cw P X G S a w o ⟨.sl d ((Av S d).ver + 1),[(d,.map [],(Av S d).ver + 1)],[]⟩:=by
 refine .inl ⟨.map (some w.heap.size),w.alloc (.map #[] 0),?_,IY β d (.map (some w.heap.size)),?_,?_,rfl⟩
 ·simp [execOp,ho,Instr.makeMap]
 ·exact h.rebox (R':=X.R) (fun _ h=>h) hd (.inl (Nat.lt_succ_self _)) (by simp) ((AT.of (HP _)).weaken h.hbase fun _ _ h=>h) (fun b hb _=>heap_alloc_old w _ b hb)
   (fun _ b hb=>⟨.inr (.inl (by simp [A1] at hb; omega)),fun hr=>by simp [A1] at hb; have:=(h.rs b hr).2; omega⟩) (fun k hv=>⟨w.heap.size,#[],0,by simp [IY],heap_alloc_new w _,rfl,fun i e p he=>by simp at he⟩)
 ·have hv:AU (Bq S d (.map []) ((Av S d).ver + 1)) d = (Av S d).ver + 1:=by simp [AU,Cd,hd]
  exact ⟨by simp only [Be]; rw [hv]; exact Nat.le_refl _,fun _=>by simp [IY]⟩
theorem X4 {q:D}:∀ {es:List (D × D)} {j:Nat},OX q es = some j→j < es.length
 | [],j,h=>by cases h
 | p :: r,j,h=>by
   unfold OX at h
   cases hk:HT q p.1 with
   | true=>rw [hk] at h; cases h; simp
   | false =>
     rw [hk] at h
     simp only [cond_false] at h
     obtain ⟨i,hi,rfl⟩:=Option.map_eq_some_iff.1 h
     have:=X4 hi
     simp; omega
theorem W8 (q:D):∀ es:List (D × D),Ng q es = (OX q es).bind fun j=>(es[j]?).map (·.2)
 | []=>rfl
 | p :: r=>by
   unfold Ng OX
   cases HT q p.1 with
   | true=>rfl
   | false =>
     simp only [cond_false]
     rw [W8 q r]
     cases OX q r <;> simp
theorem Y9 {O:Nat→Prop} {kd:TypeDesc} {q:D} {u:Value} (hkq:VO q = some kd) (h:AB O w u q):IsKey kd u:=by
 cases q <;> simp only [VO,Option.some.injEq] at hkq <;> try (cases hkq; done)
 case int j n=>cases h; subst hkq; simp [IsKey]
 case str s=>cases h; subst hkq; simp [IsKey]
theorem Yu (h:AE X G β S a w) {g:Option (Nat × Bool)} (hg:BB g a) {t kt et:TypeId} {x ix:Operand} {ok:Bool} (ho:o.op = .lookup t x ix ok) (hu:P.underlying t = some (.map kt et)) {id n:Nat} {es:List (D × D)} (hx:ρOf S g x = .mp id n es) {q:D} (hq:ρOf S g ix = .d q)
 {kd:TypeDesc} (hkq:VO q = some kd) (hku:P.underlying kt = some kd) (hkk:∀ p∈es,GF q p.1 = true) {z:D} (hz:dd P et = some z) :
 Cw P X G S a w o ⟨if ok then .tup [.d ((Ng q es).getD z),.d (.bool (Ng q es).isSome)] else .d ((Ng q es).getD z),[],[]⟩:=by
 have h1:=ρ_sound h hg x
 rw [hx] at h1
 obtain ⟨hb,_,hv⟩:=h1
 have h2:=ρ_sound h hg ix
 rw [hq] at h2
 have hbx:=h.boxes id
 rw [hb] at hbx
 obtain ⟨b,vs,clock,hβ,hh,hl,hr⟩:=hbx
 have h2':AB (OS β X S) w (a.eval ix) q:=h2
 have hkey:=Y9 hkq h2'
 have hfind:=M3 h2' hkq vs.toList es 0 (by simpa using hl) hkk (fun j e p he hp=>(hr j e p (by simpa using he) hp).1)
 unfold dd at hz
 split at hz <;> try (cases hz; done)
 rename_i i hi
 split at hz <;> try (cases hz; done)
 rename_i zv hzv
 have hzr:=fun (O:Nat→Prop) (w:World)=>Zi (O:=O) (w:=w) hz
 have hx2:a.eval x = .map (some b):=by rw [hv,hβ]
 rw [W8]
 cases hj:OX q es with
 | none =>
   rw [hj] at hfind
   simp only at hfind
   cases ok with
   | false =>
     refine AM h (v:=zv) ?_ (hzr _ _).1 rfl
     simp [execOp,ho,Instr.lookup,run_underlying hu,hx2,MapKept.run_getObj_map hh,MapKept.run_checkKey hku hkey,MapKept.run_findKey hku hfind,zeroValue,typeInfo,hi,hzv,Result.andThen]
   | true =>
     refine AM h (v:=.tuple #[zv,.bool false]) ?_ ⟨#[zv,.bool false],rfl,rfl,fun k u c hu hc=>?_⟩ rfl
     ·simp [execOp,ho,Instr.lookup,run_underlying hu,hx2,MapKept.run_getObj_map hh,MapKept.run_checkKey hku hkey,MapKept.run_findKey hku hfind,zeroValue,typeInfo,hi,hzv,Result.andThen]
     ·match k,hu,hc with
      | 0,hu,hc=>simp at hu hc; subst hu; subst hc; exact (hzr _ _).1
      | 1,hu,hc=>simp at hu hc; subst hu; subst hc; exact .bool _
      | k + 2,hu,hc=>simp at hu
 | some j =>
   rw [hj] at hfind
   have hjl:=X4 hj
   have hjv:j < vs.size:=by omega
   have hrj:=hr j vs[j] es[j] (by simp [hjv]) (List.getElem?_eq_getElem hjl)
   simp only [List.getElem?_eq_getElem hjl,Option.bind_some,Option.map_some,Option.getD_some,Option.isSome_some] at hfind ⊢
   have hvj:vs.toList[j]? = some vs[j]:=by simp [hjv]
   rw [hvj] at hfind
   simp only [Option.map_some] at hfind
   cases ok with
   | false =>
     refine AM h (v:=vs[j].val) ?_ hrj.2.1 rfl
     simp [execOp,ho,Instr.lookup,run_underlying hu,hx2,MapKept.run_getObj_map hh,MapKept.run_checkKey hku hkey,MapKept.run_findKey hku hfind,Result.andThen]
   | true =>
     refine AM h (v:=.tuple #[vs[j].val,.bool true]) ?_ ⟨#[vs[j].val,.bool true],rfl,rfl,fun k u c hu hc=>?_⟩ rfl
     ·simp [execOp,ho,Instr.lookup,run_underlying hu,hx2,MapKept.run_getObj_map hh,MapKept.run_checkKey hku hkey,MapKept.run_findKey hku hfind,Result.andThen]
     ·match k,hu,hc with
      | 0,hu,hc=>simp at hu hc; subst hu; subst hc; exact hrj.2.1
      | 1,hu,hc=>simp at hu hc; subst hu; subst hc; exact .bool _
      | k + 2,hu,hc=>simp at hu
theorem WX {q:D} (v:D):∀ {es:List (D × D)},OX q es = none→VA q v es = es++[(q,v)]
 | [],_=>rfl
 | p :: r,h=>by
   unfold OX at h
   unfold VA
   cases hk:HT q p.1 with
   | true=>rw [hk] at h; cases h
   | false =>
     rw [hk] at h
     simp only [cond_false,Option.map_eq_none_iff] at h
     rw [cond_false,WX v h]; rfl
theorem WY {q:D} (v:D):∀ {es:List (D × D)} {j:Nat},OX q es = some j→VA q v es = es.set j (q,v)
 | [],j,h=>by cases h
 | p :: r,j,h=>by
   unfold OX at h
   unfold VA
   cases hk:HT q p.1 with
   | true=>rw [hk] at h; cases h; rfl
   | false =>
     rw [hk] at h
     simp only [cond_false] at h
     obtain ⟨i,hi,rfl⟩:=Option.map_eq_some_iff.1 h
     rw [cond_false,WY v hi]; rfl
theorem aE (h:AE X G β S a w) {id n:Nat} {es es':List (D × D)} (hb:(Av S id).box = .map es) (hn:(Av S id).ver = n) {b:Nat} (hβ:β id = .map (some b)) {vs vs':Array MapEntry} {clock clock':Nat} (hh:w.heap[b]? = some (.map vs clock))
 (hl:vs'.size = es'.length) (hr:∀ (i:Nat) (e:MapEntry) (p:D × D),vs'[i]? = some e→es'[i]? = some p→(∀ (O:Nat→Prop) (w:World),AB O w e.key p.1)∧(∀ (O:Nat→Prop) (w:World),AB O w e.val p.2)∧p.1.bare = true∧p.2.bare = true) :
 AE X G β (Bq S id (.map es') n) a { w with heap:=w.heap.setIfInBounds b (.map vs' clock') }:=by
 have hid:=Lv hb (by simp)
 have ho:(Av S id).box.owned = true:=by rw [hb]; rfl
 have hbl:A1 (β id) = some b:=by rw [hβ]; rfl
 obtain ⟨hs1,hs2⟩:=heap_set (o':=.map vs' clock') hh
 have h5:=h.rebox (R':=X.R) (id:=id) (B:=.map es') (v:=β id) (n:=n) (w':={ w with heap:=w.heap.setIfInBounds b (.map vs' clock') })
  (fun _ h=>h) hid (.inr ⟨hn.symm,rfl,by rw [hb]; simp⟩) (by simp)
  ⟨rfl,rfl,rfl,by simp,fun k hk hm=>hs2 k fun e=>by subst e; rcases (h.mine id k ho hbl).1 with h1 | h1; omega; exact hm h1⟩
  (fun k _ hk=>hs2 k fun e=>hk ho (by rw [hbl,e]))
  (fun _ k hk=>⟨.inl ⟨hk,ho⟩,(h.mine id k ho hk).2⟩)
  (fun k hv=>by
   rw [E3] at k hv ⊢
   exact ⟨b,vs',clock',hβ,hs1,hl,fun i e p he hp=>⟨(hr i e p he hp).1 _ _,(hr i e p he hp).2.1 _ _,(hr i e p he hp).2.2⟩⟩)
 rw [E3] at h5
 exact h5
theorem ax {q:D}:∀ {es:List (D × D)} {j:Nat},OX q es = some j→∀ h:j < es.length,HT q es[j].1 = true
 | [],j,h,hl=>by simp at hl
 | p :: r,j,h,hl=>by
   unfold OX at h
   cases hk:HT q p.1 with
   | true=>rw [hk] at h; cases h; exact hk
   | false =>
     rw [hk] at h
     simp only [cond_false] at h
     obtain ⟨i,hi,rfl⟩:=Option.map_eq_some_iff.1 h
     exact ax hi (by simpa using hl)
theorem cT {O:Nat→Prop} {q p:D} {u v:Value} (hk:GF q p = true) (he:HT q p = true) (hq:AB O w u q) (hp:AB O w v p):v = u:=by
 cases q <;> cases p <;> simp only [GF] at hk <;> try (cases hk; done)
 case int.int j n j' n' =>
  cases hq; cases hp
  have:=of_decide_eq_true hk
  subst this
  simp only [HT] at he
  rw [eq_of_beq he]
 case str.str s s' =>
  cases hq; cases hp
  simp only [HT] at he
  rw [(bytes_beq _ _).1 he]
theorem Yv (h:AE X G β S a w) {g:Option (Nat × Bool)} (hg:BB g a) {t kt et:TypeId} {m k x:Operand} (ho:o.op = .mapUpdate t m k x) (hu:P.underlying t = some (.map kt et)) {id n:Nat} {es:List (D × D)} (hm:ρOf S g m = .mp id n es) {q y:D} (hq:ρOf S g k = .d q) (hy:ρOf S g x = .d y) (hyb:y.bare = true)
 {kd:TypeDesc} (hkq:VO q = some kd) (hku:P.underlying kt = some kd) (hkk:∀ p∈es,GF q p.1 = true) :
 Cw P X G S a w o ⟨.any,[(id,.map (VA q y es),n)],[]⟩:=by
 have h1:=ρ_sound h hg m
 rw [hm] at h1
 obtain ⟨hb,hn,hv⟩:=h1
 have h2:=ρ_sound h hg k
 rw [hq] at h2
 have h2':AB (OS β X S) w (a.eval k) q:=h2
 have h3:=ρ_sound h hg x
 rw [hy] at h3
 have h3':AB (OS β X S) w (a.eval x) y:=h3
 have hbx:=h.boxes id
 rw [hb] at hbx
 obtain ⟨b,vs,clock,hβ,hh,hl,hr⟩:=hbx
 have hkey:=Y9 hkq h2'
 have hqb:q.bare = true:=by cases q <;> simp [VO] at hkq <;> rfl
 have hfind:=M3 h2' hkq vs.toList es 0 (by simpa using hl) hkk (fun j e p he hp=>(hr j e p (by simpa using he) hp).1)
 have hm2:a.eval m = .map (some b):=by rw [hv,hβ]
 have old:∀ (i:Nat) (e:MapEntry) (p:D × D),vs[i]? = some e→es[i]? = some p→(∀ (O:Nat→Prop) (w:World),AB O w e.key p.1)∧(∀ (O:Nat→Prop) (w:World),AB O w e.val p.2)∧p.1.bare = true∧p.2.bare = true:=fun i e p he hp =>
  ⟨fun _ _=>Qr (hr i e p he hp).1 (hr i e p he hp).2.2.1,fun _ _=>Qr (hr i e p he hp).2.1 (hr i e p he hp).2.2.2,(hr i e p he hp).2.2⟩
 cases hj:OX q es with
 | none =>
   rw [hj] at hfind
   simp only at hfind
   rw [WX y hj]
   refine .inr (.inl ⟨{ w with heap:=w.heap.setIfInBounds b (.map (vs.push { key:=a.eval k,val:=a.eval x,born:=clock }) (clock + 1)) },?_,β,?_,trivial,rfl⟩)
   ·simp [execOp,ho,Instr.mapUpdate,run_underlying hu,hm2,MapKept.run_getObj_map hh,MapKept.run_checkKey hku hkey,MapKept.run_findKey hku hfind,run_setObj_map _ hh,Result.andThen]
   ·refine aE h hb hn hβ hh (by simp [hl]) fun i e p he hp=>?_
    by_cases hi:i < vs.size
    ·exact old i e p (by rw [Array.getElem?_push] at he; rw [if_neg (by omega)] at he; exact he) (by rw [List.getElem?_append_left (by omega)] at hp; exact hp)
    ·have hi2:i = vs.size:=by
      have:=(List.getElem?_eq_some_iff.1 hp).1
      simp at this; omega
     subst hi2
     simp at he
     rw [List.getElem?_append_right (by omega)] at hp
     simp [hl] at hp
     subst he; subst hp
     exact ⟨fun _ _=>Qr h2' hqb,fun _ _=>Qr h3' hyb,hqb,hyb⟩
 | some j =>
   rw [hj] at hfind
   have hjl:=X4 hj
   have hjv:j < vs.size:=by omega
   have hvj:vs.toList[j]? = some vs[j]:=by simp [hjv]
   simp only [hvj,Option.map_some] at hfind
   rw [WY y hj]
   have hrj:=hr j vs[j] es[j] (by simp [hjv]) (List.getElem?_eq_getElem hjl)
   have hsame:vs[j].key = a.eval k:=cT (hkk _ (List.getElem_mem hjl)) (ax hj hjl) h2' hrj.1
   refine .inr (.inl ⟨{ w with heap:=w.heap.setIfInBounds b (.map (vs.modify j fun e=>{ e with key:=a.eval k,val:=a.eval x }) clock) },?_,β,?_,trivial,rfl⟩)
   ·simp [execOp,ho,Instr.mapUpdate,run_underlying hu,hm2,MapKept.run_getObj_map hh,MapKept.run_checkKey hku hkey,MapKept.run_findKey hku hfind,run_setObj_map _ hh,Result.andThen,hjv,hsame,run_keyThatStays hkey]
   ·refine aE h hb hn hβ hh (by simp [hl]) fun i e p he hp=>?_
    rw [Array.getElem?_modify] at he
    rw [List.getElem?_set] at hp
    by_cases hi:j = i
    ·subst hi
     rw [if_pos rfl] at he hp
     rw [if_pos hjl] at hp
     simp [hjv] at he
     cases hp
     subst he
     exact ⟨fun _ _=>Qr h2' hqb,fun _ _=>Qr h3' hyb,hqb,hyb⟩
    ·rw [if_neg hi] at he hp
     exact old i e p he hp
end
end Go.Abs
set_option linter.unusedVariables false
set_option linter.unusedSimpArgs false
namespace Go.Abs
open Go.RowKit (Below)
section
variable {P:Program} {X:Cx} {G:Nat→Prop} {β:Nat→Value} {S:AS} {a:Act} {w:World} {o:Oper}
theorem YO {x:D} (h:x.one = true):(norm x).one = true:=by cases x <;> first | rfl | exact h
theorem ON {ρ:Operand→RV}:∀ {l:List Operand} {i k id n:Nat} {cs:List C},Kz ρ l i = some (k,id,n,cs)→∃ j x,k = i + j∧l[j]? = some x∧ρ x = .vptr id n 0 cs
 | [],i,k,id,n,cs,h=>by simp [Kz] at h
 | x :: r,i,k,id,n,cs,h=>by
   have go:Kz ρ r (i + 1) = some (k,id,n,cs)→∃ j y,k = i + j∧(x :: r)[j]? = some y∧ρ y = .vptr id n 0 cs:=fun h=>by
    obtain ⟨j,y,h1,h2,h3⟩:=ON h
    exact ⟨j + 1,y,by omega,by simpa using h2,h3⟩
   unfold Kz at h
   split at h
   ·rename_i id' n' cs' hx
    split at h
    ·cases h; exact ⟨0,x,by omega,rfl,hx⟩
    ·exact go h
   ·exact go h
theorem OK (h:AE X G β S a w) {g:Option (Nat × Bool)} (hg:BB g a) {k:Nat}:∀ {l:List Operand} {i:Nat} {K:List AV→Prop},Ls (ρOf S g) k l i K→∃ vs,K vs∧vs.length = l.length∧∀ (j:Nat) p y,l[j]? = some p→vs[j]? = some y→O2 (OS β X S) w (a.eval p) y
 | [],i,K,hy=>⟨[],hy,rfl,fun j p y hp _=>by simp at hp⟩
 | x :: r,i,K,hy=>by
   unfold Ls at hy
   split at hy
   ·obtain ⟨vs,h1,h2,h3⟩:=OK h hg hy
    refine ⟨_,h1,by simp [h2],fun j p y hp hv=>?_⟩
    cases j with
    | zero=>simp at hv; subst hv; trivial
    | succ j=>exact h3 j p y (by simpa using hp) (by simpa using hv)
   ·split at hy <;> try exact hy.elim
    rename_i y hx
    rw [I0] at hy
    obtain ⟨vs,h1,h2,h3⟩:=OK h hg hy
    have hr:=ρ_sound h hg x
    rw [hx] at hr
    have hr:AB (OS β X S) w (a.eval x) y:=hr
    refine ⟨_,h1,by simp [h2],fun j p z hp hv=>?_⟩
    cases j with
    | zero=>simp at hp hv; subst hp; subst hv; exact hr.norm
    | succ j=>exact h3 j p z (by simpa using hp) (by simpa using hv)
structure GC (S:AS) (cl cs:List C):Prop where
 len:cl.length = cs.length
 at_:∀ (j:Nat) c c',cl[j]? = some c→cs[j]? = some c'→(∃ x,c = .d x∧c' = .d (norm x))∨(∃ rid rn i' n' sz e xs,c = .sl rid rn∧c' = .own sz e xs∧σOf S rid rn = .row i' n' sz e xs)
theorem NE:∀ {cl:List C} {K:List C→Prop},Hd (σOf S) cl K→∃ cs,K cs∧GC S cl cs
 | [],K,h=>⟨[],h,rfl,fun j c c' hc=>by simp at hc⟩
 | c :: r,K,h=>by
   unfold Hd at h
   split at h
   ·rename_i x
    rw [I0] at h
    obtain ⟨cs,h1,h2⟩:=NE h
    refine ⟨_,h1,by simp [h2.len],fun j c c' hc hc'=>?_⟩
    cases j with
    | zero=>simp at hc hc'; subst hc; subst hc'; exact .inl ⟨x,rfl,rfl⟩
    | succ j=>exact h2.at_ j c c' (by simpa using hc) (by simpa using hc')
   ·rename_i id n
    split at h <;> try exact h.elim
    rename_i i' n' sz e xs hr
    obtain ⟨cs,h1,h2⟩:=NE h
    refine ⟨_,h1,by simp [h2.len],fun j c c' hc hc'=>?_⟩
    cases j with
    | zero=>simp at hc hc'; subst hc; subst hc'; exact .inr ⟨id,n,i',n',sz,e,xs,rfl,rfl,hr⟩
    | succ j=>exact h2.at_ j c c' (by simpa using hc) (by simpa using hc')
   ·exact h.elim
structure GB (cl cs' l:List C) (ub:Bx):Prop where
 len:cl.length = cs'.length
 len2:l.length = cl.length
 at_:∀ (j:Nat) c c' d,cl[j]? = some c→cs'[j]? = some c'→l[j]? = some d→(∃ x y,c = .d x∧c' = .d y∧d = .d y)∨(∃ rid rn sz e ys,c = .sl rid rn∧c' = .own sz e ys∧d = .sl rid (rn + 1)∧(rid,BJ.row sz e ys,rn + 1)∈ub)
 of:∀ y∈ub,∃ (j rn sz:Nat) (e:TypeId) (ys:List D),cl[j]? = some (.sl y.1 rn)∧cs'[j]? = some (.own sz e ys)∧y = (y.1,BJ.row sz e ys,rn + 1)
 nodup:(ub.map (·.1)).Nodup
 inj:∀ (i j:Nat) q n n',cl[i]? = some (.sl q n)→cl[j]? = some (.sl q n')→i = j
theorem OL:∀ {cl cs':List C} {K:List C→Bx→Prop},Qx cl cs' K→∃ l ub,K l ub∧GB cl cs' l ub
 | [],[],K,h=>⟨[],[],h,rfl,rfl,(fun j c c' d hc=>by simp at hc),(fun y hy=>by cases hy),List.nodup_nil,(fun i j q n n' hi=>by simp at hi)⟩
 | [],c' :: r',K,h=>by cases c' <;> exact h.elim
 | c :: r,[],K,h=>by cases c <;> exact h.elim
 | c :: r,c' :: r',K,h=>by
   cases c with
   | own _ _ _=>cases c' <;> exact h.elim
   | d x =>
     cases c' with
     | sl _ _=>exact h.elim
     | own _ _ _=>exact h.elim
     | d y =>
       simp only [Qx] at h
       obtain ⟨l,ub,h1,h2⟩:=OL h
       refine ⟨_,ub,h1,by simp [h2.len],by simp [h2.len2],fun j c c' d hc hc' hd=>?_,fun z hz=>?_,h2.nodup,fun i j q n n' hi hj=>?_⟩
       ·cases j with
        | zero=>simp at hc hc' hd; subst hc; subst hc'; subst hd; exact .inl ⟨x,y,rfl,rfl,rfl⟩
        | succ j=>exact h2.at_ j c c' d (by simpa using hc) (by simpa using hc') (by simpa using hd)
       ·obtain ⟨j,rn,sz,e,ys,h3,h4,h5⟩:=h2.of z hz
        exact ⟨j + 1,rn,sz,e,ys,by simpa using h3,by simpa using h4,h5⟩
       ·cases i with
        | zero=>simp at hi
        | succ i=>cases j with
          | zero=>simp at hj
          | succ j=>rw [h2.inj i j q n n' (by simpa using hi) (by simpa using hj)]
   | sl q n =>
     cases c' with
     | sl _ _=>exact h.elim
     | d _=>exact h.elim
     | own sz e ys =>
       simp only [Qx] at h
       obtain ⟨l,ub,h1,h2⟩:=OL h
       split at h1
       ·rename_i hni
        have hni:=Do hni
        have hq:∀ (j n':Nat),r[j]? = some (.sl q n')→False:=by
         intro j n' hj
         have hjl:=AD hj
         have h3:r'[j]? = some (r'[j]'(by rw [← h2.len]; exact hjl)):=List.getElem?_eq_getElem _
         have h4:l[j]? = some (l[j]'(by rw [h2.len2]; exact hjl)):=List.getElem?_eq_getElem _
         rcases h2.at_ j _ _ _ hj h3 h4 with ⟨x,y,h5,_⟩ | ⟨rid,rn,sz',e',ys',h5,_,_,h6⟩
         ·cases h5
         ·cases h5; exact hni _ h6 rfl
        refine ⟨_,_,h1,by simp [h2.len],by simp [h2.len2],fun j c c' d hc hc' hd=>?_,fun z hz=>?_,?_,fun i j q' n' n2 hi hj=>?_⟩
        ·cases j with
         | zero=>simp at hc hc' hd; subst hc; subst hc'; subst hd; exact .inr ⟨q,n,sz,e,ys,rfl,rfl,rfl,List.mem_cons_self ..⟩
         | succ j =>
           rcases h2.at_ j c c' d (by simpa using hc) (by simpa using hc') (by simpa using hd) with h | ⟨rid,rn,sz',e',ys',h5,h6,h7,h8⟩
           ·exact .inl h
           ·exact .inr ⟨rid,rn,sz',e',ys',h5,h6,h7,List.mem_cons_of_mem _ h8⟩
        ·rcases List.mem_cons.1 hz with rfl | hz
         ·exact ⟨0,n,sz,e,ys,rfl,rfl,rfl⟩
         ·obtain ⟨j,rn,sz',e',ys',h3,h4,h5⟩:=h2.of z hz
          exact ⟨j + 1,rn,sz',e',ys',by simpa using h3,by simpa using h4,h5⟩
        ·simp only [List.map_cons,List.nodup_cons]
         refine ⟨fun hm=>?_,h2.nodup⟩
         obtain ⟨z,hz,e⟩:=List.mem_map.1 hm
         exact hni z hz e
        ·cases i with
         | zero=>cases j with
           | zero=>rfl
           | succ j =>
             simp at hi hj
             obtain ⟨rfl,rfl⟩:=hi
             exact (hq j n2 hj).elim
         | succ i=>cases j with
           | zero =>
             simp at hi hj
             obtain ⟨rfl,rfl⟩:=hj
             exact (hq i n' hi).elim
           | succ j=>rw [h2.inj i j q' n' n2 (by simpa using hi) (by simpa using hj)]
       ·exact h1.elim
def fA (cl:List C) (i:Nat):Option Nat:=(List.range cl.length).find? fun (j:Nat)=>match cl[j]? with | some (.sl q _)=>q==i | _=>false
theorem cr {cl:List C} {i j n:Nat} (hj:cl[j]? = some (.sl i n)) (hinj:∀ (i j:Nat) q n n',cl[i]? = some (.sl q n)→cl[j]? = some (.sl q n')→i = j):fA cl i = some j:=by
 unfold fA
 cases hf:(List.range cl.length).find? fun (j:Nat)=>match cl[j]? with | some (.sl q _)=>q==i | _=>false with
 | none =>
   rw [List.find?_eq_none] at hf
   have:=hf j (List.mem_range.2 (AD hj))
   rw [hj] at this
   simp at this
 | some j' =>
   have h1:=List.find?_some hf
   split at h1
   ·rename_i q n' hh
    have:q = i:=by simpa using h1
    subst this
    rw [hinj j' j q n' n hh hj]
   ·cases h1
theorem Z1 (h:AE X G β S a w) {g:Option (Nat × Bool)} (hg:BB g a) {c:Call} (ho:o.op = .call c) {fo:Operand} (hc:c.callee = .value fo) {f:FuncId} (hf:ρOf S g fo = .d (.fn f []))
 {k id n:Nat} {cl:List C} (hfind:Kz (ρOf S g) c.args.toList 0 = some (k,id,n,cl)) {K:F3→Prop}
 (hy:Ls (ρOf S g) k c.args.toList 0 fun vs=>Hd (σOf S) cl fun cs=>ah P f vs k cs fun cs' r=>Qx cl cs' fun l ub=>if DX id ub = true then K ⟨.d r,ub++[(id,.var l,n)],[]⟩ else False):∃ e,K e∧Cw P X G S a w o e:=by
 obtain ⟨vs,hy,hlen,hargs⟩:=OK h hg hy
 obtain ⟨cs,hy,hGC⟩:=NE hy
 obtain ⟨cs',r,hcall,hy⟩:=hy.go
 obtain ⟨l,ub,hy,hGB⟩:=OL hy
 obtain ⟨hni,hy⟩:DX id ub = true∧K ⟨.d r,ub++[(id,.var l,n)],[]⟩:=by
  split at hy
  ·rename_i h1; exact ⟨h1,hy⟩
  ·exact hy.elim
 have hni:=Do hni
 refine ⟨_,hy,?_⟩
 have hfv:=ρ_sound h hg fo
 rw [hf] at hfv
 have hfv:AB (OS β X S) w (a.eval fo) (.fn f []):=hfv
 obtain ⟨fvs,hfe,hfs⟩:∃ fvs:Array Value,a.eval fo = .func (.func f) #[] fvs∧fvs = #[]:=by
  generalize a.eval fo = v at hfv
  cases hfv with
  | fn _ fvs _ hl _ _=>exact ⟨fvs,rfl,by simpa using hl⟩
 subst hfs
 have hrun:(execOp a.eval o).run P w = .ok (.enter f (c.args.map a.eval)) w:=by
  simp only [execOp,ho,resolve,hc,hfe,Deferred.ofValue,Sem.run_bind,Sem.run_pure,Result.andThen_ok,invoke]
  simp only [Array.empty_append,Array.append_empty]
  rw [KI hcall.1]
 obtain ⟨kj,x,hkj,hxk,hxr⟩:=ON hfind
 obtain rfl:k = kj:=by omega
 have hpv:=ρ_sound h hg x
 rw [hxr] at hpv
 obtain ⟨hbx,hver,b,hβ,hpe⟩:=hpv
 have hbv:=h.boxes id
 rw [hbx] at hbv
 obtain ⟨b',vals,T,hβ',hh,hvs,hcell⟩:=hbv
 obtain rfl:b' = b:=by rw [hβ] at hβ'; simp at hβ'; exact hβ'.symm
 have ho1:(Av S id).box.owned = true:=by rw [hbx]; rfl
 have hbb:A1 (β id) = some b':=by rw [hβ]; rfl
 have hid:=Lv hbx (by simp)
 have hlt:=h.blk ho1 hbb
 have hcv:∀ {j:Nat} {c:C},cl[j]? = some c→∃ v,vals[j]? = some v:=fun {j c} hj=>by
  have:j < vals.size:=by rw [hvs]; exact AD hj
  exact ⟨vals[j],by simp [this]⟩
 have hcs:∀ {j:Nat} {c:C},cl[j]? = some c→∃ c',cs[j]? = some c':=fun {j c} hj=>⟨cs[j]'(by rw [← hGC.len]; exact AD hj),List.getElem?_eq_getElem _⟩
 have hrow:∀ (j rid rn:Nat),cl[j]? = some (.sl rid rn)→rid≠id∧∃ (sz:Nat) (e:TypeId) (xs:List D),cs[j]? = some (.own sz e xs)∧vals[j]? = some (β rid)∧(Av S rid).box = .row sz e xs∧(Av S rid).ver = rn:=by
  intro j rid rn hj
  obtain ⟨u,hu⟩:=hcv hj
  obtain ⟨c',hc'⟩:=hcs hj
  have hcu:=hcell j u _ hu hj
  rcases hGC.at_ j _ _ hj hc' with ⟨x,h1,_⟩ | ⟨rid',rn',i',n',sz,e,xs,h1,rfl,h3⟩
  ·cases h1
  ·cases h1
   have hσ:=σ_sound h hcu
   rw [h3] at hσ
   obtain ⟨hrb,hrv,hru⟩:=hσ
   obtain ⟨rfl,rfl⟩:i' = rid∧n' = rn:=by
    simp only [σOf,res] at h3
    split at h3 <;> (try (split at h3)) <;> cases h3 <;> exact ⟨rfl,rfl⟩
   refine ⟨fun e=>?_,sz,e,xs,hc',by rw [hu,hru],hrb,hrv⟩
   subst e
   rw [hbx] at hrb; cases hrb
 have hro:∀ {rid:Nat} {sz:Nat} {e:TypeId} {xs:List D},(Av S rid).box = .row sz e xs→(Av S rid).box.owned = true:=fun h=>by rw [h]; rfl
 have hblk:∀ c,Cj vals cs c→∃ (j rid rn:Nat),cl[j]? = some (.sl rid rn)∧(Av S rid).box.owned = true∧A1 (β rid) = some c∧rid≠id:=by
  rintro c ⟨j,u,sz,e,xs,h1,h2,h3⟩
  have hjl:j < cl.length:=by rw [hGC.len]; exact AD h2
  have hcl:cl[j]? = some cl[j]:=List.getElem?_eq_getElem hjl
  rcases hGC.at_ j _ _ hcl h2 with ⟨x,_,h4⟩ | ⟨rid,rn,i',n',sz',e',xs',h4,h5,_⟩
  ·cases h4
  ·rw [h4] at hcl
   obtain ⟨k1,sz2,e2,xs2,_,k3,k4,_⟩:=hrow j rid rn hcl
   rw [h1] at k3
   cases k3
   exact ⟨j,rid,rn,hcl,hro k4,h3,k1⟩
 have hrownblk:∀ (j rid rn c:Nat),cl[j]? = some (.sl rid rn)→A1 (β rid) = some c→Cj vals cs c:=by
  intro j rid rn c hj hb
  obtain ⟨_,sz,e,xs,k2,k3,_,_⟩:=hrow j rid rn hj
  exact ⟨j,_,sz,e,xs,k3,k2,hb⟩
 have hneb:∀ c,Cj vals cs c→c≠b':=by
  intro c hc e
  subst e
  obtain ⟨j,rid,rn,_,h2,h3,h4⟩:=hblk c hc
  exact h4 (h.inj rid id c h2 ho1 h3 hbb)
 have hO:∀ c,(OS β X S c∧c≠b'∧¬ Cj vals cs c)∨c = b'∨Cj vals cs c→OS β X S c:=by
  intro c hc
  rcases hc with hc | rfl | hc
  ·exact hc.1
  ·exact .inr (.inr ⟨id,ho1,hbb⟩)
  ·obtain ⟨j,rid,rn,_,h2,h3,_⟩:=hblk c hc
   exact .inr (.inr ⟨rid,h2,h3⟩)
 have:=hcall.2 (fun c=>OS β X S c∧c≠b'∧¬ Cj vals cs c) w (c.args.map a.eval) b' vals (fun c hc=>h.os_lt hc.1) (fun q l hq=>(h.glob q l hq).mono (B4.of_sub hO)) (by simp [hlen])
  (by
   rw [← Array.getElem?_toList]
   simp only [Array.toList_map,List.getElem?_map]
   have:c.args.toList[k]? = some x:=by simpa using hxk
   rw [this]
   simp [hpe])
  ⟨⟨T,hh⟩,by rw [hvs,hGC.len],fun j v c' hv hc'=>by
    have hjl:j < cl.length:=by rw [hGC.len]; exact AD hc'
    have hcl:cl[j]? = some cl[j]:=List.getElem?_eq_getElem hjl
    have hrc:=hcell j v _ hv hcl
    rcases hGC.at_ j _ _ hcl hc' with ⟨y,h1,rfl⟩ | ⟨rid,rn,i',n',sz,e,xs,h1,rfl,_⟩
    ·rw [h1] at hrc
     exact ⟨(hrc.1.mono (B4.of_sub hO)).norm,YO hrc.2⟩
    ·rw [h1] at hcl
     obtain ⟨_,sz2,e2,xs2,k2,k3,k4,_⟩:=hrow j rid rn hcl
     rw [hc'] at k2
     cases k2
     rw [hv] at k3
     cases k3
     have hb2:=h.boxes rid
     rw [k4] at hb2
     obtain ⟨l1,l2,rv,l3,l4⟩:=hb2
     exact ⟨l1,l2,rv,l3,l4.mono (B4.of_sub hO)⟩,hneb,fun i j u u' sz e xs sz' e' xs' c' hu hu' hci hcj hbi hbj=>by
    have g:∀ (i:Nat) u sz e xs,vals[i]? = some u→cs[i]? = some (.own sz e xs)→∃ rid rn,cl[i]? = some (.sl rid rn)∧u = β rid∧(Av S rid).box.owned = true:=by
     intro i u sz e xs hu hci
     have hjl:i < cl.length:=by rw [hGC.len]; exact AD hci
     have hcl:cl[i]? = some cl[i]:=List.getElem?_eq_getElem hjl
     rcases hGC.at_ i _ _ hcl hci with ⟨y,_,h1⟩ | ⟨rid,rn,i',n',sz',e',xs',h1,_,_⟩
     ·cases h1
     ·rw [h1] at hcl
      obtain ⟨_,sz2,e2,xs2,k2,k3,k4,_⟩:=hrow i rid rn hcl
      rw [hu] at k3
      exact ⟨rid,rn,hcl,Option.some.inj k3,hro k4⟩
    obtain ⟨r1,n1,g1,rfl,g2⟩:=g i u sz e xs hu hci
    obtain ⟨r2,n2,g3,rfl,g4⟩:=g j u' sz' e' xs' hu' hcj
    have:=h.inj r1 r2 c' g2 g4 hbi hbj
    subst this
    exact hGB.inj i j r1 n1 n2 g1 g3⟩ (fun c' hc' hx=>by
    rcases hc' with rfl | hc'
    ·exact hx.2.1 rfl
    ·exact hx.2.2 hc')
  (fun i v y hv hy=>by
   rw [← Array.getElem?_toList] at hv
   simp only [Array.toList_map,List.getElem?_map] at hv
   cases hp:c.args.toList[i]? with
   | none=>rw [hp] at hv; cases hv
   | some p =>
     rw [hp] at hv
     obtain rfl:a.eval p = v:=by simpa using hv
     exact (hargs i p y hp hy).mono (B4.of_sub hO))
 refine .inr (.inr ⟨f,_,hrun,this.mono fun e' w' ⟨v,vals',h1,h2,hV',h4,h5⟩=>⟨v,h1,?_⟩⟩)
 have hsz2:=h2.size
 obtain ⟨T',hh'⟩:=hV'.cells
 have hvat:∀ {j:Nat} {c:C},cs'[j]? = some c→∃ u,vals'[j]? = some u:=fun {j c} hj=>by
  have:j < vals'.size:=by rw [hV'.size]; exact AD hj
  exact ⟨vals'[j],by simp [this]⟩
 have hnd:((ub++[(id,BJ.var l,n)]).map (·.1)).Nodup:=by
  rw [List.map_append,List.nodup_append]
  refine ⟨hGB.nodup,by simp,fun p hp q hq e=>?_⟩
  obtain ⟨y,hy,rfl⟩:=List.mem_map.1 hp
  simp at hq
  exact hni y hy (by rw [e,hq])
 have hubr:∀ y∈ub,∃ (j rn sz:Nat) (e:TypeId) (ys:List D) (u:Value),cl[j]? = some (.sl y.1 rn)∧cs'[j]? = some (.own sz e ys)∧vals'[j]? = some u∧y = (y.1,BJ.row sz e ys,rn + 1)∧fA cl y.1 = some j:=by
  intro y hy
  obtain ⟨j,rn,sz,e,ys,g1,g2,g3⟩:=hGB.of y hy
  obtain ⟨u,hu⟩:=hvat g2
  exact ⟨j,rn,sz,e,ys,u,g1,g2,hu,g3,cr g1 hGB.inj⟩
 let E:Nat→Option (BJ × Nat × Value):=fun i=>if i = id then some (.var l,n,β id) else match ub.find? (fun y=>y.1==i) with
  | some y=>some (y.2.1,y.2.2,(((fA cl i).bind fun j=>vals'[j]?).getD undef))
  | none=>none
 let β':Nat→Value:=fun i=>match E i with | some (_,_,v)=>v | none=>β i
 have hEr:∀ i B m v,E i = some (B,m,v)→(i = id∧B = .var l∧m = n∧v = β id)∨(i≠id∧∃ (j rn sz:Nat) (e:TypeId) (ys:List D),cl[j]? = some (.sl i rn)∧cs'[j]? = some (.own sz e ys)∧vals'[j]? = some v∧B = .row sz e ys∧m = rn + 1):=by
  intro i B m v hE
  by_cases e:i = id
  ·simp only [E,if_pos e] at hE
   cases hE
   exact .inl ⟨e,rfl,rfl,rfl⟩
  ·simp only [E,if_neg e] at hE
   split at hE
   ·rename_i y hy
    have hy:=Jo hy
    have e2:y.1 = i:=by simpa using hy.2
    obtain ⟨j,rn,sz,e',ys,u,g1,g2,g3,g4,g5⟩:=hubr y hy.1
    rw [e2] at g1 g5
    rw [g5,g4] at hE
    simp only [Option.bind_some,g3,Option.getD_some,Option.some.injEq,Prod.mk.injEq] at hE
    obtain ⟨rfl,rfl,rfl⟩:=hE
    exact .inr ⟨e,j,rn,sz,e',ys,g1,g2,g3,rfl,rfl⟩
   ·cases hE
 have hEof:∀ (j rid rn:Nat),cl[j]? = some (.sl rid rn)→∃ B v,E rid = some (B,rn + 1,v)∧vals'[j]? = some v:=by
  intro j rid rn hj
  obtain ⟨hne,_⟩:=hrow j rid rn hj
  have hc':cs'[j]? = some (cs'[j]'(by rw [← hGB.len]; exact AD hj)):=List.getElem?_eq_getElem _
  have hl':l[j]? = some (l[j]'(by rw [hGB.len2]; exact AD hj)):=List.getElem?_eq_getElem _
  rcases hGB.at_ j _ _ _ hj hc' hl' with ⟨x,y,g1,_⟩ | ⟨rid',rn',sz,e,ys,g1,g2,g3,g4⟩
  ·cases g1
  ·cases g1
   obtain ⟨u,hu⟩:=hvat hc'
   have hfind:ub.find? (fun y=>y.1==rid) = some (rid,BJ.row sz e ys,rn + 1):=by
    cases hf:ub.find? (fun y=>y.1==rid) with
    | none =>
      rw [List.find?_eq_none] at hf
      exact absurd (by simp) (hf _ g4)
    | some y =>
      have hy:=Jo hf
      have:y.1 = rid:=by simpa using hy.2
      rw [PU hGB.nodup hy.1 g4 this]
   refine ⟨BJ.row sz e ys,u,?_,hu⟩
   simp only [E,if_neg hne,hfind,cr hj hGB.inj,Option.bind_some,hu,Option.getD_some]
 have hS:∀ i,Av (Be (ub++[(id,.var l,n)]) S) i = match E i with | some (B,m,_)=>⟨(Av S i).av,B,m⟩ | none=>Av S i:=by
  intro i
  rw [Qa _ S i (fun y hy=>by
   rcases List.mem_append.1 hy with hy | hy
   ·obtain ⟨j,rn,sz,e,ys,u,g1,_⟩:=hubr y hy
    obtain ⟨_,_,_,_,_,_,k4,_⟩:=hrow j y.1 rn g1
    exact Lv k4 (by simp)
   ·simp at hy; subst hy; exact hid) hnd,List.find?_append]
  by_cases e:i = id
  ·subst e
   have:ub.find? (fun y=>y.1==i) = none:=by
    rw [List.find?_eq_none]
    intro y hy hh
    exact hni y hy (by simpa using hh)
   simp [E,this]
  ·simp only [E,if_neg e]
   cases hf:ub.find? (fun y=>y.1==i) with
   | some y=>rfl
   | none =>
     have:([(id,BJ.var l,n)]:Bx).find? (fun y=>y.1==i) = none:=by
      rw [List.find?_eq_none]
      intro y hy hh
      simp at hy; subst hy
      exact e (by simpa using (by simpa using hh:id = i).symm)
     rw [this]; rfl
 have hOS:∀ c',OS β' X (Be (ub++[(id,.var l,n)]) S) c'→(OS β X S c'∧c'≠b'∧¬ Cj vals cs c')∨c' = b'∨Cj vals' cs' c':=by
  intro c' hc'
  by_cases eb:c' = b'
  ·exact .inr (.inl eb)
  by_cases eu:Cj vals' cs' c'
  ·exact .inr (.inr eu)
  have key:OS β X S c'∧¬ Cj vals cs c':=by
   have hx:∀ i,(Av S i).box.owned = true→A1 (β i) = some c'→E i = none→¬ Cj vals cs c':=by
    intro i hi hb hE hc
    obtain ⟨j,rid,rn,g1,g2,g3,_⟩:=hblk c' hc
    have:=h.inj i rid c' hi g2 hb g3
    subst this
    obtain ⟨B,v,hE',_⟩:=hEof j i rn g1
    rw [hE] at hE'; cases hE'
   rcases hc' with hc' | hc' | ⟨i,hi1,hi2⟩
   ·refine ⟨.inl hc',fun hc=>?_⟩
    obtain ⟨j,rid,rn,_,g2,g3,_⟩:=hblk c' hc
    have h0:=h.o₀ c' hc'
    rcases (h.mine rid c' g2 g3).1 with g4 | g4
    ·omega
    ·exact h0.2 g4
   ·refine ⟨.inr (.inl hc'),fun hc=>?_⟩
    obtain ⟨j,rid,rn,_,g2,g3,_⟩:=hblk c' hc
    exact (h.mine rid c' g2 g3).2 hc'
   ·rw [hS] at hi1
    have hi2:A1 (match E i with | some (_,_,v)=>v | none=>β i) = some c':=hi2
    cases hE:E i with
    | none =>
      rw [hE] at hi1 hi2
      exact ⟨.inr (.inr ⟨i,hi1,hi2⟩),hx i hi1 hi2 hE⟩
    | some q =>
      obtain ⟨B,m,v⟩:=q
      rw [hE] at hi1 hi2
      simp only at hi2
      rcases hEr i B m v hE with ⟨_,_,_,rfl⟩ | ⟨_,j,rn,sz,e,ys,g1,g2,g3,g4,_⟩
      ·rw [hbb] at hi2; cases hi2; exact (eb rfl).elim
      ·exact (eu ⟨j,v,sz,e,ys,g3,g2,hi2⟩).elim
  exact .inl ⟨key.1,eb,key.2⟩
 have hsim:AE X G β' (Be (ub++[(id,.var l,n)]) S) a w':=by
  refine h.multi E hS (fun i=>rfl) (BP _ _) hsz2 ?_ (fun i B m v hE=>?_) (fun c' hc' hk=>?_) (fun i B m v c' hE hB hbv=>?_) (fun i j B m v B2 m2 v2 c' hE hE2 hB hB2 hbv hbv2=>?_) (fun hkept hvv i B m v hE=>?_)
  ·refine h2.weaken h.hbase fun q hq hm hq'=>hm ?_
   rcases hq' with rfl | hq'
   ·exact ((h.mine id q ho1 hbb).1).resolve_left (by omega)
   ·obtain ⟨j,rid,rn,_,g2,g3,_⟩:=hblk q hq'
    exact ((h.mine rid q g2 g3).1).resolve_left (by omega)
  ·rcases hEr i B m v hE with ⟨rfl,_,rfl,rfl⟩ | ⟨_,j,rn,sz,e,ys,g1,_,_,_,rfl⟩
   ·exact .inr ⟨hver.symm,rfl,by rw [hbx]; simp⟩
   ·obtain ⟨_,_,_,_,_,_,_,k5⟩:=hrow j i rn g1
    exact .inl (by omega)
  ·refine h2.block c' hc' fun hm=>?_
   rcases hm with rfl | hm
   ·exact hk id (.var l) n (β id) (by simp [E]) ho1 hbb
   ·obtain ⟨j,rid,rn,g1,g2,g3,_⟩:=hblk c' hm
    obtain ⟨B,v,hE,_⟩:=hEof j rid rn g1
    exact hk rid B (rn + 1) v hE g2 g3
  ·rcases hEr i B m v hE with ⟨rfl,rfl,rfl,rfl⟩ | ⟨_,j,rn,sz,e,ys,g1,g2,g3,rfl,rfl⟩
   ·exact .inl ⟨i,_,_,_,hE,ho1,hbv⟩
   ·rcases h4 c' ⟨j,v,sz,e,ys,g3,g2,hbv⟩ with g6 | g6
    ·obtain ⟨j2,rid,rn2,g7,g8,g9,_⟩:=hblk c' g6
     obtain ⟨B2,v2,hE2,_⟩:=hEof j2 rid rn2 g7
     exact .inl ⟨rid,B2,_,v2,hE2,g8,g9⟩
    ·exact .inr g6
  ·rcases hEr i B m v hE with ⟨rfl,rfl,rfl,rfl⟩ | ⟨_,j1,rn,sz,e,ys,g1,g2,g3,rfl,rfl⟩ <;> rcases hEr j B2 m2 v2 hE2 with ⟨rfl,rfl,rfl,rfl⟩ | ⟨_,j2,rn2,sz2,e2,ys2,g1',g2',g3',rfl,rfl⟩
   ·rfl
   ·rw [hbb] at hbv; cases hbv
    exact absurd rfl (hV'.ne b' ⟨j2,v2,sz2,e2,ys2,g3',g2',hbv2⟩)
   ·rw [hbb] at hbv2; cases hbv2
    exact absurd rfl (hV'.ne b' ⟨j1,v,sz,e,ys,g3,g2,hbv⟩)
   ·have:=hV'.inj j1 j2 v v2 _ _ _ _ _ _ c' g3 g3' g2 g2' hbv hbv2
    subst this
    rw [g1] at g1'
    cases g1'; rfl
  ·rcases hEr i B m v hE with ⟨rfl,rfl,rfl,rfl⟩ | ⟨_,j,rn,sz,e,ys,g1,g2,g3,rfl,rfl⟩
   ·have hβi:β' i = β i:=by show (match E i with | some (_,_,v)=>v | none=>β i) = _; rw [hE]
    refine ⟨b',vals',T',by rw [hβi]; exact hβ,hh',by rw [hV'.size,← hGB.len,hGB.len2],fun j v c' hv hc'=>?_⟩
    have hjl:j < cl.length:=by rw [← hGB.len2]; exact AD hc'
    have hcl:cl[j]? = some cl[j]:=List.getElem?_eq_getElem hjl
    have hcs':cs'[j]? = some (cs'[j]'(by rw [← hGB.len]; exact hjl)):=List.getElem?_eq_getElem _
    have hg:=hV'.rep j v _ hv hcs'
    rcases hGB.at_ j _ _ _ hcl hcs' hc' with ⟨x,y,g1,g2,rfl⟩ | ⟨rid,rn,sz,e,ys,g1,g2,rfl,g4⟩
    ·rw [g2] at hg
     exact ⟨hg.1.mono (B4.of_sub hOS),hg.2⟩
    ·rw [g1] at hcl
     obtain ⟨B,v',hE',hv'⟩:=hEof j rid rn hcl
     rw [hv] at hv'
     cases hv'
     have hvr:AU (Be (ub++[(i,.var l,m)]) S) rid = rn + 1:=by simp only [AU,hS,hE']
     exact ⟨by rw [hvr]; exact Nat.le_refl _,fun _=>by show _ = (match E rid with | some (_,_,v)=>v | none=>β rid); rw [hE']⟩
   ·have hβi:β' i = v:=by show (match E i with | some (_,_,v)=>v | none=>β i) = _; rw [hE]
    obtain ⟨g4,g5,rv,g6,g7⟩:=hV'.rep j v _ g3 g2
    exact ⟨g4,g5,rv,by rw [hβi]; exact g6,g7.mono (B4.of_sub hOS)⟩
 exact ⟨β',hsim,AB.mono (B4.of_sub hOS) h5,rfl⟩
end
end Go.Abs
