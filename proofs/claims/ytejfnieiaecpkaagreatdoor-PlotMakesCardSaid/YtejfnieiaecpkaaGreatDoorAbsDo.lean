/- The abstract machine: each operation does what the model's does. First the operations that write no memory. -/
import Derived.Test.YtejfnieiaecpkaaGreatDoorAbsFz
import Derived.Laws.StructEq
import Derived.Laws.Concat
import Derived.Lib.ConvBytes
set_option linter.unusedVariables false
set_option linter.unusedSimpArgs false
namespace Go.Abs
open Go.RowKit (Below)
theorem Ar {c p:Prop} [Decidable c] (h:if c then p else False):c∧p:=by
 split at h
 ·exact ⟨‹_›,h⟩
 ·exact h.elim
section
variable {P:Program} {X:Cx} {G:Nat→Prop} {β:Nat→Value} {S:AS} {a:Act} {w:World} {o:Oper}
def Qj (X:Cx) (G:Nat→Prop) (S:AS) (a:Act) (e:GD) (v:Value) (w':World):Prop :=
 ∃ β',AB X G β' (Bo e.bx S) a w'∧J6 β' (AW (Bo e.bx S)) (OS β' X (Bo e.bx S)) w' a.tmps v e.av∧e.av.guards = []
def Dh (P:Program) (X:Cx) (G:Nat→Prop) (S:AS) (a:Act) (w:World) (o:Oper) (e:GD):Prop :=
 (∃ v w',(execOp a.eval o).run P w = .ok (.value v) w'∧Qj X G S a e v w') ∨
 (∃ w',(execOp a.eval o).run P w = .ok .skip w'∧Qj X G S a e undef w') ∨
 (∃ f args,(execOp a.eval o).run P w = .ok (.enter f args) w∧Calls P f args w fun e' w'=>∃ v,e' = .returned v∧Qj X G S a e v w')
theorem AQ (h:AB X G β S a w) {v:Value} {x:AV} (hrun:(execOp a.eval o).run P w = .ok (.value v) w)
 (hr:J6 β (AW S) (OS β X S) w a.tmps v x) (hg:x.guards = []):Dh P X G S a w o ⟨x,[],[]⟩ :=
 .inl ⟨v,w,hrun,β,h,hr,hg⟩
theorem Mc {O:Nat→Prop} {tm:Array Value} {v:Value} {r:RV} (h:NN β O S w v r):J6 β (AW S) O w tm v (ar r)∧(ar r).guards = []:=by
 cases r with
 | any=>exact ⟨trivial,rfl⟩
 | bot=>exact h.elim
 | d x=>exact ⟨h,rfl⟩
 | lim sz xs=>exact ⟨h,rfl⟩
 | vptr id n o cs=>obtain ⟨_,h2,h3⟩:=h; exact ⟨⟨Nat.le_of_eq h2.symm,fun _=>h3⟩,rfl⟩
 | row id n sz e xs=>obtain ⟨_,h2,h3⟩:=h; exact ⟨⟨Nat.le_of_eq h2.symm,fun _=>h3⟩,rfl⟩
 | eptr id n sz e xs i o=>obtain ⟨_,h2,h3⟩:=h; exact ⟨⟨Nat.le_of_eq h2.symm,fun _=>h3⟩,rfl⟩
 | tup xs=>exact ⟨h,rfl⟩
 | cagg xs=>exact ⟨h,rfl⟩
 | cfun f xs=>exact ⟨h,rfl⟩
 | clo f xs k id n rid rn=>exact ⟨h.1,rfl⟩
 | mp id n es=>obtain ⟨_,h2,h3⟩:=h; exact ⟨⟨Nat.le_of_eq h2.symm,fun _=>h3⟩,rfl⟩
theorem Ey {O:Nat→Prop} {v:Value} {b:Bool} (h:A9 O w v (.bool b)):v = .bool b:=by cases h; rfl
theorem CT {O:Nat→Prop} {v:Value} {k:IntKind} {n:Int} (h:A9 O w v (.int k n)):v = .int k n:=by cases h; rfl
theorem Je {O:Nat→Prop} {v:Value} {s:ByteArray} (h:A9 O w v (.str s)):v = .string s:=by cases h; rfl
theorem XU {O:Nat→Prop} {v:Value} {x:D} (h:A9 O w v x) (h1:x.one = true):v.oneCell' = true:=by cases h <;> first | rfl | (simp [D.one] at h1)
theorem Wb (h:AB X G β S a w) {g:Option (Nat × Bool)} (hg:BN g a) {x:Operand} (ho:o.op = .move x∨o.op = .assign x) :
 Dh P X G S a w o ⟨ar (ρOf S g x),[],[]⟩:=by
 have hb:=Mc (tm:=a.tmps) (ρ_sound h hg x)
 refine AQ h (v:=a.eval x) ?_ hb.1 hb.2
 rcases ho with ho | ho <;> simp [execOp,ho]
theorem aT (h:AB X G β S a w) {g:Option (Nat × Bool)} (hg:BN g a) {t:Nat} {x y:Operand} (ho:o.op = .pick (.tmp t) x y) {c b1 b2:Bool}
 (hc:ρOf S g (.tmp t) = .d (.bool c)) (hx:ρOf S (some (t,true)) x = .d (.bool b1)) (hy:ρOf S (some (t,false)) y = .d (.bool b2)) :
 Dh P X G S a w o ⟨.d (.bool (bif c then b1 else b2)),[],[]⟩:=by
 have h1:=ρ_sound h hg (.tmp t)
 rw [hc] at h1
 have e1:=Ey h1
 have ht:a.tmps[t]? = some (.bool c):=by
  simp only [Act.eval,Array.getD] at e1
  split at e1
  ·rename_i hlt; rw [← e1]; simp [hlt]
  ·simp [undef] at e1
 have hrun:(execOp a.eval o).run P w = .ok (.value (if c then a.eval x else a.eval y)) w:=by simp [execOp,ho,e1,asBool]
 cases c with
 | true =>
   have h2:=ρ_sound h (g:=some (t,true)) (fun t' w' e=>by cases e; exact ht) x
   rw [hx] at h2
   exact AQ h (v:=a.eval x) (by rw [hrun]; rfl) h2 rfl
 | false =>
   have h2:=ρ_sound h (g:=some (t,false)) (fun t' w' e=>by cases e; exact ht) y
   rw [hy] at h2
   exact AQ h (v:=a.eval y) (by rw [hrun]; rfl) h2 rfl
theorem Zl (h:AB X G β S a w) {g:Option (Nat × Bool)} (hg:BN g a) {t:Nat} {x y:Operand} (ho:o.op = .pick (.tmp t) x y) {c b2:Bool}
 (hc:ρOf S g (.tmp t) = .d (.bool c)) (hx:ρOf S (some (t,true)) x = .bot) (hy:ρOf S (some (t,false)) y = .d (.bool b2)) :
 Dh P X G S a w o ⟨.d (.bool b2),[],[]⟩:=by
 have h1:=ρ_sound h hg (.tmp t)
 rw [hc] at h1
 have e1:=Ey h1
 have ht:a.tmps[t]? = some (.bool c):=by
  simp only [Act.eval,Array.getD] at e1
  split at e1
  ·rename_i hlt; rw [← e1]; simp [hlt]
  ·simp [undef] at e1
 have hrun:(execOp a.eval o).run P w = .ok (.value (if c then a.eval x else a.eval y)) w:=by simp [execOp,ho,e1,asBool]
 cases c with
 | true =>
   have h2:=ρ_sound h (g:=some (t,true)) (fun t' w' e=>by cases e; exact ht) x
   rw [hx] at h2
   exact h2.elim
 | false =>
   have h2:=ρ_sound h (g:=some (t,false)) (fun t' w' e=>by cases e; exact ht) y
   rw [hy] at h2
   exact AQ h (v:=a.eval y) (by rw [hrun]; rfl) h2 rfl
theorem Zg (h:AB X G β S a w) {g:Option (Nat × Bool)} (hg:BN g a) {t:Nat} {x y:Operand} (ho:o.op = .pick (.tmp t) x y) {c b1:Bool}
 (hc:ρOf S g (.tmp t) = .d (.bool c)) (hx:ρOf S (some (t,true)) x = .d (.bool b1)) (hy:ρOf S (some (t,false)) y = .bot) :
 Dh P X G S a w o ⟨.d (.bool b1),[],[]⟩:=by
 have h1:=ρ_sound h hg (.tmp t)
 rw [hc] at h1
 have e1:=Ey h1
 have ht:a.tmps[t]? = some (.bool c):=by
  simp only [Act.eval,Array.getD] at e1
  split at e1
  ·rename_i hlt; rw [← e1]; simp [hlt]
  ·simp [undef] at e1
 have hrun:(execOp a.eval o).run P w = .ok (.value (if c then a.eval x else a.eval y)) w:=by simp [execOp,ho,e1,asBool]
 cases c with
 | true =>
   have h2:=ρ_sound h (g:=some (t,true)) (fun t' w' e=>by cases e; exact ht) x
   rw [hx] at h2
   exact AQ h (v:=a.eval x) (by rw [hrun]; rfl) h2 rfl
 | false =>
   have h2:=ρ_sound h (g:=some (t,false)) (fun t' w' e=>by cases e; exact ht) y
   rw [hy] at h2
   exact h2.elim
theorem GW (b off j:Nat):(⟨b,off,none⟩:Addr).add j = ⟨b,off + j,none⟩:=by unfold Addr.add; split <;> simp_all
theorem QL {R:Nat→Value→D→Prop}:∀ (cs:List D) (n:Nat),(∀ (j:Nat) y,cs[j]? = some y→∃ c,R (n + j) c y) →
 ∃ vs:List Value,vs.length = cs.length∧∀ (j:Nat) v y,vs[j]? = some v→cs[j]? = some y→R (n + j) v y
 | [],n,_=>⟨[],rfl,fun j v y h _=>by simp at h⟩
 | c :: r,n,h=>by
   obtain ⟨v,hv⟩:=h 0 c (by simp)
   obtain ⟨vs,hl,hr⟩:=QL r (n + 1) (fun j y hy=>by have:=h (j + 1) y (by simpa using hy); rwa [show n + (j + 1) = n + 1 + j by omega] at this)
   refine ⟨v :: vs,by simp [hl],fun j u y hu hy=>?_⟩
   cases j with
   | zero=>simp at hu hy; subst hu; subst hy; exact hv
   | succ j=>have:=hr j u y (by simpa using hu) (by simpa using hy); rwa [show n + (j + 1) = n + 1 + j by omega]
theorem PD {t:TypeId} (h:L6 P t = some true):(isAgg t).run P w = .ok true w:=by
 unfold L6 at h
 unfold isAgg
 split at h <;> simp_all [run_underlying]
theorem NC {t:TypeId} (h:L6 P t = some false):(isAgg t).run P w = .ok false w:=by
 unfold L6 at h
 unfold isAgg
 split at h
 ·simp at h
 ·simp at h
 ·rename_i d hd _ _ hu
  simp only [Sem.run_bind,run_underlying hu,Result.andThen_ok]
  rfl
 ·simp at h
theorem SD {O:Nat→Prop} {t:TypeId} {cs:List D} {b off:Nat} {K:D→Prop} (hy:Z5 P t cs K)
 (hc:∀ (j:Nat) y,cs[j]? = some y→∃ c,w.cell? ⟨b,off + j,none⟩ = some c∧A9 O w c y∧y.one = true) :
 ∃ x,K x∧∃ v,(loadVar t ⟨b,off,none⟩).run P w = .ok v w∧A9 O w v x:=by
 unfold Z5 at hy
 split at hy
 ·rename_i hagg
  split at hy
  ·rename_i i hi
   rw [BG] at hy
   split at hy
   ·rename_i hlen
    obtain ⟨vs,hl,hr⟩:=QL (R:=fun j c y=>w.cell? ⟨b,off + j,none⟩ = some c∧A9 O w c y∧y.one = true) (cs.take i.size) 0
     (fun j y hy=>by
      rw [Nat.zero_add]
      refine hc j y ?_
      rw [List.getElem?_take] at hy
      split at hy
      ·exact hy
      ·cases hy)
    have hget:∀ j,j < vs.length→∃ y,(cs.take i.size)[j]? = some y:=fun j hj=>⟨_,List.getElem?_eq_getElem (by omega)⟩
    refine ⟨_,hy,.agg vs.toArray,?_,?_⟩
    ·have hld:=run_loadCells_list (P:=P) w ⟨b,off,none⟩ vs (fun j v hv=>by
      have hj:j < vs.length:=by
       rcases Nat.lt_or_ge j vs.length with h | h
       ·exact h
       ·simp [List.getElem?_eq_none h] at hv
      obtain ⟨y,hy⟩:=hget j hj
      have:=(hr j v y hv hy).1
      rw [Nat.zero_add] at this
      rw [GW]; exact this)
     rw [hl,hlen] at hld
     simp [loadVar,PD hagg,sizeOf,typeInfo,hi,hld]
    ·refine .agg _ _ (by simpa using hl) ?_ ?_
     ·intro x hx
      obtain ⟨j,hj⟩:=List.mem_iff_getElem?.1 hx
      have hjl:j < vs.length:=by
       rcases Nat.lt_or_ge j (cs.take i.size).length with h | h
       ·omega
       ·simp [List.getElem?_eq_none h] at hj
      exact (hr j _ x (List.getElem?_eq_getElem hjl) hj).2.2
     ·intro j v x hv hx
      exact (hr j v x (by simpa using hv) hx).2.1
   ·exact hy.elim
  ·exact hy.elim
 ·rename_i hagg
  split at hy
  ·rename_i y r
   obtain ⟨c,h1,h2,_⟩:=hc 0 y (by simp)
   refine ⟨y,hy,c,?_,h2⟩
   rw [Nat.add_zero] at h1
   simp [loadVar,NC hagg,run_load,h1]
  ·exact hy.elim
 ·exact hy.elim
theorem NX {t:TypeId} {x:Operand} {b off:Nat} {v:Value} (ho:o.op = .load t x) (hx:a.eval x = .pointer (some ⟨b,off,none⟩))
 (hl:(loadVar t ⟨b,off,none⟩).run P w = .ok v w):(execOp a.eval o).run P w = .ok (.value v) w:=by
 simp [execOp,ho,Instr.loadAt,hx,Instr.sureAddr,hl]
theorem Vb {O:Nat→Prop} {v:Value} {cs:List D} (h:A9 O w v (.ptr cs)):∃ b off,v = .pointer (some ⟨b,off,none⟩)∧∀ (j:Nat) y,cs[j]? = some y→∃ c,w.cell? ⟨b,off + j,none⟩ = some c∧A9 O w c y∧y.one = true:=by
 cases h with
 | ptr b off _ c hb hO h1 hcell hr=>exact ⟨b,off,rfl,fun j y hy=>⟨c j,hcell j y hy,hr j y hy,h1 y (List.mem_of_getElem? hy)⟩⟩
theorem X0 (h:AB X G β S a w) {t:TypeId} {x:Operand} (ho:o.op = .load t x) {cs:List D} (hr:A9 (OS β X S) w (a.eval x) (.ptr cs))
 {K:GD→Prop} (hy:Z5 P t cs fun x=>K ⟨.d x,[],[]⟩):∃ e,K e∧Dh P X G S a w o e:=by
 obtain ⟨b,off,hv,hc⟩:=Vb hr
 obtain ⟨x',hK,v,hl,hx'⟩:=SD hy hc
 exact ⟨_,hK,AQ h (NX ho hv hl) hx' rfl⟩
theorem Lr (h:AB X G β S a w) {id:Nat} {cs:List C} (hb:(As S id).box = .var cs) {b:Nat} (hβ:β id = .pointer (some ⟨b,0,none⟩)) :
 ∃ vals T,w.heap[b]? = some (.cells vals T (0,0))∧vals.size = cs.length∧∀ (j:Nat) v c,vals[j]? = some v→cs[j]? = some c→Ch β (AW S) (OS β X S) w v c:=by
 have hbx:=h.boxes id
 rw [hb] at hbx
 obtain ⟨b',vals,T,h1,h3,h4,h5⟩:=hbx
 rw [hβ] at h1
 simp at h1
 subst h1
 exact ⟨vals,T,h3,h4,h5⟩
theorem XO (h:AB X G β S a w) {t:TypeId} {x:Operand} (ho:o.op = .load t x) {id n off:Nat} {cs:List C} (hr:NN β (OS β X S) S w (a.eval x) (.vptr id n off cs))
 {K:GD→Prop} (hy:cS P (σOf S) t (cs.drop off) K):∃ e,K e∧Dh P X G S a w o e:=by
 obtain ⟨hb,_,b,hβ,hv⟩:=hr
 obtain ⟨vals,T,h3,h4,h5⟩:=Lr h hb hβ
 unfold cS at hy
 split at hy
 ·rename_i hagg
  split at hy
  ·rename_i i hi
   rw [BG] at hy
   obtain ⟨hlen,hy⟩:=Ar hy
   obtain ⟨l,bx,hK,hF,hfr,hl,hc,hh⟩:=Lf h hy
   have hvl:(((vals.toList).drop off).take i.size).length = ((cs.drop off).take i.size).length:=by simp [h4]
   have hrep:=hh (((vals.toList).drop off).take i.size) hvl (fun j v c hv hc=>by
    rw [List.getElem?_take] at hv hc
    split at hv
    ·rename_i hj
     rw [if_pos hj] at hc
     rw [List.getElem?_drop] at hv hc
     exact h5 _ v c (by simpa using hv) hc
    ·cases hv)
   obtain ⟨k1,k2,k3⟩:=hF.run h
   have hL:=hrep.now h hF
   refine ⟨_,hK,.inl ⟨.agg (((vals.toList).drop off).take i.size).toArray,w,?_,β,k1,?_,rfl⟩⟩
   ·refine NX ho hv ?_
    have hld:=run_loadCells_list (P:=P) w ⟨b,off,none⟩ (((vals.toList).drop off).take i.size) (fun j v hv=>by
     rw [List.getElem?_take] at hv
     split at hv
     ·rw [List.getElem?_drop] at hv
      rw [GW]
      simp [World.cell?,h3]
      simpa using hv
     ·cases hv)
    rw [hvl,hlen] at hld
    simp [loadVar,PD hagg,sizeOf,typeInfo,hi,hld]
   ·refine .agg _ _ (by simpa using hL.1) (fun y hy=>?_) (fun j v y hv hy=>(hL.2 j v y (by simpa using hv) hy).1)
    obtain ⟨j,hj⟩:=List.mem_iff_getElem?.1 hy
    have hlt:j < (((vals.toList).drop off).take i.size).length:=by rw [hL.1]; exact AI hj
    exact (hL.2 j _ y (List.getElem?_eq_getElem hlt) hj).2
  ·exact hy.elim
 ·rename_i hagg
  have key:∀ c r,cs.drop off = c :: r→∃ v,(execOp a.eval o).run P w = .ok (.value v) w∧Ch β (AW S) (OS β X S) w v c:=by
   intro c r hd
   have hc:cs[off]? = some c:=by
    have:(cs.drop off)[0]? = some c:=by rw [hd]; rfl
    simpa using this
   have hlt:off < vals.size:=by rw [h4]; exact AI hc
   have hv':vals[off]? = some vals[off]:=by simp [hlt]
   refine ⟨vals[off],NX ho hv ?_,h5 off _ c hv' hc⟩
   simp [loadVar,NC hagg,run_load,World.cell?,h3,hlt]
  split at hy
  ·rename_i y r hd
   obtain ⟨v,h6,h7⟩:=key _ _ hd
   exact ⟨_,hy,AQ h h6 h7.1 rfl⟩
  ·rename_i id' n' r hd
   obtain ⟨v,h6,h7⟩:=key _ _ hd
   exact ⟨_,hy,AQ h h6 h7 rfl⟩
  ·exact hy.elim
 ·exact hy.elim
theorem c5 (h:AB X G β S a w) {id sz:Nat} {e:TypeId} {xs:List D} (hb:(As S id).box = .row sz e xs) {b m cap:Nat} (hβ:β id = .slice (some ⟨b,0,none⟩) m cap) {i:Nat} {x:D}
 (hx:xs[i]? = some x) {j:Nat} {y:D} (hy:x.cells[j]? = some y):∃ c,w.cell? ⟨b,i * sz + j,none⟩ = some c∧A9 (OS β X S) w c y∧y.one = true:=by
 have hbx:=h.boxes id
 rw [hb] at hbx
 obtain ⟨h1,h2,vals,h3,h4⟩:=hbx
 have hpos:0 < xs.length:=by cases xs <;> simp at hx ⊢
 rcases h3 with ⟨hlen,⟨hv,h0⟩ | ⟨g,cap',cur,hv,hbg,hh,hn,hm,hcs,ht⟩⟩ | ⟨h0,_⟩
 ·omega
 ·rw [hβ] at hv
  simp at hv
  obtain ⟨rfl,rfl,rfl⟩:=hv
  have hf:=Nw xs h2 i x j y hx hy
  have hlt:i * sz + j < vals.length:=by rw [h4.1]; exact AI hf
  have hu:vals[i * sz + j]? = some vals[i * sz + j]:=List.getElem?_eq_getElem hlt
  refine ⟨vals[i * sz + j],?_,h4.2 _ _ _ hu hf⟩
  rw [← hu,← ht,List.getElem?_take_of_lt (by rw [← hlen]; exact hlt)]
  simp [World.cell?,hh]
 ·omega
theorem Yy (h:AB X G β S a w) {t:TypeId} {x:Operand} (ho:o.op = .load t x) {id n sz i off:Nat} {e:TypeId} {xs:List D} (hr:NN β (OS β X S) S w (a.eval x) (.eptr id n sz e xs i off))
 {K:GD→Prop} (hy:At xs i fun x=>Z5 P t (x.cells.drop off) fun x=>K ⟨.d x,[],[]⟩):∃ e,K e∧Dh P X G S a w o e:=by
 obtain ⟨hb,_,b,m,cap,hβ,hv⟩:=hr
 obtain ⟨_,y,hy1,hy⟩:=hy.go
 simp only [Int.toNat_natCast] at hy1
 obtain ⟨x',hK,v,hl,hx'⟩:=SD (O:=OS β X S) (w:=w) (b:=b) (off:=i * sz + off) hy (fun j y' hy'=>by
  simp only [List.getElem?_drop] at hy'
  have:=c5 h hb hβ hy1 hy'
  rwa [← Nat.add_assoc] at this)
 exact ⟨_,hK,AQ h (NX ho hv hl) hx' rfl⟩
theorem WR {t:TypeId} (h:Za P t = true):P.underlying t = some .bool:=by
 unfold Za at h
 split at h
 ·assumption
 ·cases h
def D.sv:D→Value
 | .bool b=>.bool b
 | .int k n=>.int k n
 | .str s=>.string s
 | _=>undef
theorem Wd {α:Type} {l:List α} {n:Nat} {x:α} {r:List α} (h:l.take n = x :: r):l = x :: l.drop 1:=by
 cases l with
 | nil=>simp at h
 | cons y q=>cases n with
   | zero=>simp at h
   | succ n=>simp at h; simp [h.1]
def J3 (O:Nat→Prop) (w:World) (vs:Array Value) (off:Nat) (xs:List D):Prop:=∀ (j:Nat) y,xs[j]? = some y→∃ v,vs[off + j]? = some v∧A9 O w v y
theorem J3.drop {O:Nat→Prop} {vs:Array Value} {off:Nat} {xs:List D} (h:J3 O w vs off xs) (n:Nat):J3 O w vs (off + n) (xs.drop n):=by
 intro j y hy
 rw [List.getElem?_drop] at hy
 have:=h (n + j) y hy
 rwa [← Nat.add_assoc] at this
theorem Ym {t:TypeId} {vs:Array Value} {off:Nat} {xs:List D} {O:Nat→Prop} (h:J3 O w vs off xs) (hs:(P.info? t).isSome = true) (hl:AN P t≤xs.length) :
 (L6 P t = some true→(part t vs off).run P w = .ok (.agg (vs.extract off (off + AN P t))) w)∧(L6 P t = some false→∀ y r,xs = y :: r→∃ v,(part t vs off).run P w = .ok v w∧A9 O w v y):=by
 obtain ⟨i,hi⟩:=Option.isSome_iff_exists.1 hs
 refine ⟨fun ha=>?_,fun ha y r hx=>?_⟩
 ·simp [part,PD ha,sizeOf,typeInfo,hi,AN]
 ·obtain ⟨v,h1,h2⟩:=h 0 y (by rw [hx]; rfl)
  rw [Nat.add_zero] at h1
  exact ⟨v,by simp [part,NC ha,h1],h2⟩
theorem J3.extract {O:Nat→Prop} {vs:Array Value} {off n:Nat} {xs:List D} (h:J3 O w vs off xs):J3 O w (vs.extract off (off + n)) 0 (xs.take n):=by
 intro j y hy
 rw [List.getElem?_take] at hy
 split at hy
 ·rename_i hj
  obtain ⟨v,h1,h2⟩:=h j y hy
  refine ⟨v,?_,h2⟩
  rw [Nat.zero_add,Array.getElem?_extract,if_pos]
  ·exact h1
  ·have:=GH h1; omega
 ·cases hy
theorem bg (n:Nat) {t:TypeId} {xs ys:List D} {K:Bool→Prop} (h:XL P n t xs ys K):L6 P t≠none:=by
 cases n with
 | zero=>exact h.elim
 | succ n =>
   unfold XL at h
   unfold L6
   split at h <;> simp_all
theorem dZ (n:Nat) {t:TypeId} {xs ys:List D} {K:Bool→Prop} (ha:L6 P t = some false) (h:XL P n t xs ys K):∃ x r y q,xs = x :: r∧ys = y :: q:=by
 cases n with
 | zero=>exact h.elim
 | succ n =>
   unfold XL at h
   split at h
   ·split at h
    ·exact ⟨_,_,_,_,rfl,rfl⟩
    ·exact h.elim
   ·split at h
    ·exact ⟨_,_,_,_,rfl,rfl⟩
    ·exact h.elim
   ·split at h
    ·exact ⟨_,_,_,_,rfl,rfl⟩
    ·exact h.elim
   ·rename_i fs hu; unfold L6 at ha; rw [hu] at ha; simp at ha
   ·exact h.elim
theorem RT {O:Nat→Prop}:∀ (n m:Nat),n < m→∀ {t:TypeId} {xs ys:List D} {vs us:Array Value} {K:Bool→Prop},XL P n t xs ys K →
 (L6 P t = some true→J3 O w vs 0 xs→J3 O w us 0 ys→∃ b,K b∧(Op.equalIn m t (.agg vs) (.agg us)).run P w = .ok b w) ∧
 (L6 P t = some false→∀ x y r q v u,xs = x :: r→ys = y :: q→A9 O w v x→A9 O w u y→∃ b,K b∧(Op.equalIn m t v u).run P w = .ok b w)
 | 0,_,_,t,xs,ys,vs,us,K,h=>h.elim
 | n + 1,0,hm,t,xs,ys,vs,us,K,h=>by omega
 | n + 1,m + 1,hm,t,xs,ys,vs,us,K,h=>by
   unfold XL at h
   split at h
   ·rename_i k hu
    refine ⟨fun ha=>by unfold L6 at ha; rw [hu] at ha; simp at ha,fun _ x y r q v u hx hy hv hu'=>?_⟩
    subst hx; subst hy
    split at h
    ·rename_i k1 a1 _ k2 b1 _ e1 e2
     simp at e1 e2
     obtain ⟨rfl,_⟩:=e1
     obtain ⟨rfl,_⟩:=e2
     obtain ⟨hkk,h6⟩:=Ar h
     subst hkk
     rw [CT hv,CT hu']
     exact ⟨_,h6,run_equalIn_int w m t _ _ _ _ hu⟩
    ·exact h.elim
   ·rename_i hu
    refine ⟨fun ha=>by unfold L6 at ha; rw [hu] at ha; simp at ha,fun _ x y r q v u hx hy hv hu'=>?_⟩
    subst hx; subst hy
    split at h
    ·rename_i a1 _ b1 _ e1 e2
     simp at e1 e2
     obtain ⟨rfl,_⟩:=e1
     obtain ⟨rfl,_⟩:=e2
     rw [Ey hv,Ey hu']
     exact ⟨_,h,run_equalIn_bool' w m t _ _ hu⟩
    ·exact h.elim
   ·rename_i hu
    refine ⟨fun ha=>by unfold L6 at ha; rw [hu] at ha; simp at ha,fun _ x y r q v u hx hy hv hu'=>?_⟩
    subst hx; subst hy
    split at h
    ·rename_i a1 _ b1 _ e1 e2
     simp at e1 e2
     obtain ⟨rfl,_⟩:=e1
     obtain ⟨rfl,_⟩:=e2
     rw [Je hv,Je hu']
     exact ⟨_,h,run_equalIn_string w m t _ _ hu⟩
    ·exact h.elim
   ·rename_i fs hu
    refine ⟨fun _ hx hy=>?_,fun ha=>by unfold L6 at ha; rw [hu] at ha; simp at ha⟩
    obtain ⟨hok,h⟩:=h
    have hp:P.stoodInHeld t = false∧∀ f∈fs.toList,f.name ≠ "_"∧(P.info? f.type).isSome = true∧f.offset + AN P f.type≤xs.length∧f.offset + AN P f.type≤ys.length:=by
     simp only [fb,Bool.and_eq_true,Bool.not_eq_true',List.all_eq_true,decide_eq_true_eq,beq_eq_false_iff_ne] at hok
     exact hok
    ·have hf:P.fieldsOf t = fs:=by simp [Program.fieldsOf,hu]
     have key:∀ (l:List Field) (K:Bool→Prop),(∀ f∈l,f.name ≠ "_"∧(P.info? f.type).isSome = true∧f.offset + AN P f.type≤xs.length∧f.offset + AN P f.type≤ys.length)→List.rec (motive:=fun _=>(Bool→Prop)→Prop) (fun K=>K true)
      (fun f _ ih K=>XL P n f.type ((xs.drop f.offset).take (AN P f.type)) ((ys.drop f.offset).take (AN P f.type)) fun a=>ih fun b=>K (a && b)) l K →
      ∃ b,K b∧(Op.eqFields m vs us l).run P w = .ok b w:=by
      intro l
      induction l with
      | nil=>intro K _ h; exact ⟨_,h,rfl⟩
      | cons f r ih =>
        intro K hl h
        obtain ⟨h1,h2,h3,h4⟩:=hl f (by simp)
        have h5:=h
        have hx':=hx.drop f.offset
        have hy':=hy.drop f.offset
        rw [Nat.zero_add] at hx' hy'
        have px:=Ym (P:=P) hx' h2 (by simp; omega)
        have py:=Ym (P:=P) hy' h2 (by simp; omega)
        have fld:∃ c pv pu,(part f.type vs f.offset).run P w = .ok pv w∧(part f.type us f.offset).run P w = .ok pu w∧(Op.equalIn m f.type pv pu).run P w = .ok c w∧List.rec (motive:=fun _=>(Bool→Prop)→Prop) (fun K=>K true)
         (fun f _ ih K=>XL P n f.type ((xs.drop f.offset).take (AN P f.type)) ((ys.drop f.offset).take (AN P f.type)) fun a=>ih fun b=>K (a && b)) r fun b=>K (c && b):=by
         cases ha:L6 P f.type with
         | none =>
           exact absurd ha (bg n h5)
         | some ag =>
           cases ag with
           | true =>
             obtain ⟨c,hc,hr⟩:=(RT n m (by omega) (vs:=vs.extract f.offset (f.offset + AN P f.type)) (us:=us.extract f.offset (f.offset + AN P f.type)) h5).1 ha hx'.extract hy'.extract
             exact ⟨c,_,_,px.1 ha,py.1 ha,hr,hc⟩
           | false =>
             obtain ⟨x0,r0,y0,q0,hx0,hy0⟩:=dZ n ha h5
             obtain ⟨pv,e1,e2⟩:=px.2 ha x0 _ (Wd hx0)
             obtain ⟨pu,e3,e4⟩:=py.2 ha y0 _ (Wd hy0)
             obtain ⟨c,hc,hr⟩:=(RT n m (by omega) (vs:=#[]) (us:=#[]) h5).2 ha x0 y0 r0 q0 pv pu hx0 hy0 e2 e4
             exact ⟨c,pv,pu,e1,e3,hr,hc⟩
        obtain ⟨c,pv,pu,e1,e2,e3,h6⟩:=fld
        obtain ⟨b,hb1,hb2⟩:=ih _ (fun f hf=>hl f (by simp [hf])) h6
        refine ⟨c && b,hb1,?_⟩
        simp only [Op.eqFields]
        rw [if_pos h1]
        simp only [Sem.run_bind,e1,e2,e3,Result.andThen_ok]
        cases c with
        | true=>simpa using hb2
        | false=>simp
     obtain ⟨b,hb1,hb2⟩:=key _ _ hp.2 h
     refine ⟨b,hb1,?_⟩
     rw [run_equalIn_struct w m t vs us (by rw [hf]; exact hu) hp.1,hf]
     exact hb2
   ·exact h.elim
theorem Zh {op:BinOp} {T U:TypeId} {x y:Operand} (ho:o.op = .binOp op T x y U) {s t:ByteArray} (ex:a.eval x = .string s) (ey:a.eval y = .string t) {K:D→Prop} (hb:Y5 op s t K) :
 ∃ z,K z∧(execOp a.eval o).run P w = .ok (.value z.sv) w∧(∀ O':Nat→Prop,∀ w':World,A9 O' w' z.sv z):=by
 cases op <;> simp only [Y5] at hb <;> first
  | exact hb.elim
  | exact ⟨_,hb,by simp [D.sv,execOp,ho,ex,ey,eqGuard,binOp,Op.stringOp],fun _ _=>.bool _⟩
  | (obtain ⟨h0,hb⟩:=hb
     refine ⟨_,hb,?_,fun _ _=>.str _⟩
     simp only [execOp,ho,ex,ey,eqGuard,Sem.run_bind,binOp]
     simp [D.sv,run_string_add_sum _ s t h0])
theorem Y4 {op:BinOp} {T U:TypeId} {x y:Operand} (ho:o.op = .binOp op T x y U) {O:Nat→Prop} {p q:D} (hx:A9 O w (a.eval x) p) (hy:A9 O w (a.eval y) q)
 {K:D→Prop} (hb:Yd P T op p q K) :
 ∃ z,K z∧(execOp a.eval o).run P w = .ok (.value z.sv) w∧(∀ O':Nat→Prop,∀ w':World,A9 O' w' z.sv z):=by
 cases p <;> cases q <;> simp only [Yd] at hb
 case bool.bool b1 b2 =>
  have ex:=Ey hx
  have ey:=Ey hy
  split at hb
  ·rename_i hB
   have hu:=WR hB
   cases op <;> first
    | exact hb.elim
    | exact ⟨_,hb,by simp [D.sv,execOp,ho,ex,ey,eqGuard,binOp,Op.equal,Op.maxDepth,run_equalIn_bool' w 9999 T b1 b2 hu],fun _ _=>.bool _⟩
  ·exact hb.elim
 case int.int k m k' n =>
  have ex:=CT hx
  have ey:=CT hy
  have sh:op = .shl∨op = .shr∨(op≠.shl∧op≠.shr):=by cases op <;> simp
  rcases sh with rfl | rfl | ⟨hs1,hs2⟩
  ·simp only [Se] at hb
   obtain ⟨h0,hb⟩:=hb
   have h0':¬ n < 0:=by omega
   exact ⟨_,hb,by simp [D.sv,execOp,ho,ex,ey,eqGuard,binOp,Op.shift,h0'],fun _ _=>.int _ _⟩
  ·simp only [Se] at hb
   obtain ⟨h0,hb⟩:=hb
   have h0':¬ n < 0:=by omega
   exact ⟨_,hb,by simp [D.sv,execOp,ho,ex,ey,eqGuard,binOp,Op.shift,h0'],fun _ _=>.int _ _⟩
  ·have hb':if k = k' then SY op k m n K else False:=by cases op <;> first | exact hb | exact absurd rfl hs1 | exact absurd rfl hs2
   clear hb
   obtain ⟨rfl,hb⟩:=Ar hb'
   clear hb'
   cases op <;> simp only [SY] at hb
   all_goals first
    | exact hb.elim
    | exact ⟨_,hb,by simp [D.sv,execOp,ho,ex,ey,eqGuard,binOp,Op.intArith,Op.intCmp,Op.intBits],fun _ _=>by first | exact .int _ _ | exact .bool _⟩
    | (obtain ⟨h0,hb⟩:=hb
       exact ⟨_,hb,by simp [D.sv,execOp,ho,ex,ey,eqGuard,binOp,Op.intDiv,h0],fun _ _=>.int _ _⟩)
 case str.str s t=>exact Zh ho (Je hx) (Je hy) hb
 case agg.agg xs ys =>
  obtain ⟨hgt,hb⟩:=hb
  ·generalize ex:a.eval x = vx at hx
   generalize ey:a.eval y = vy at hy
   cases hx with
   | agg vs _ hl h1 hr =>
     cases hy with
     | agg us _ hl' h1' hr' =>
       have cx:J3 O w vs 0 xs:=fun j z hz=>⟨vs[j]'(by rw [hl]; exact AI hz),by simp [show j < vs.size by rw [hl]; exact AI hz],hr j _ z (by simp [show j < vs.size by rw [hl]; exact AI hz]) hz⟩
       have cy:J3 O w us 0 ys:=fun j z hz=>⟨us[j]'(by rw [hl']; exact AI hz),by simp [show j < us.size by rw [hl']; exact AI hz],hr' j _ z (by simp [show j < us.size by rw [hl']; exact AI hz]) hz⟩
       have hga:(eqGuard op T x y (.agg vs) (.agg us)).run P w = .ok () w:=run_eqGuard_agg w op T x y vs us hgt.1
       have agg:∀ {K:Bool→Prop},XL P 12 T xs ys K→∃ b,K b∧(Op.equalIn 10000 T (.agg vs) (.agg us)).run P w = .ok b w:=by
        intro K hb
        exact (RT 12 10000 (by omega) hb).1 hgt.2 cx cy
       cases op <;> first | exact hb.elim | skip
       ·obtain ⟨b,hK,hr⟩:=agg hb
        refine ⟨_,hK,?_,fun _ _=>.bool _⟩
        simp only [execOp,ho,ex,ey,Sem.run_bind,hga,Result.andThen_ok,run_eql_struct,hr,Sem.run_pure,D.sv]
       ·obtain ⟨b,hK,hr⟩:=agg hb
        refine ⟨_,hK,?_,fun _ _=>.bool _⟩
        simp only [execOp,ho,ex,ey,Sem.run_bind,hga,Result.andThen_ok,run_neq_struct,hr,Sem.run_pure,D.sv]
theorem YH (h:AB X G β S a w) {op:BinOp} {T U:TypeId} {x y:Operand} (ho:o.op = .binOp op T x y U) {p q:D} (hx:A9 (OS β X S) w (a.eval x) p) (hy:A9 (OS β X S) w (a.eval y) q)
 {K:GD→Prop} (hb:Yd P T op p q fun x=>K ⟨.d x,[],[]⟩):∃ e,K e∧Dh P X G S a w o e:=by
 obtain ⟨z,hK,hrun,hz⟩:=Y4 ho hx hy hb
 exact ⟨_,hK,AQ h hrun (hz _ _) rfl⟩
theorem aN (h:AB X G β S a w) {op:UnOp} {T:TypeId} {x:Operand} (ho:o.op = .unOp op T x) {p:D} (hx:A9 (OS β X S) w (a.eval x) p)
 {K:GD→Prop} (hb:e5 op p fun x=>K ⟨.d x,[],[]⟩):∃ e,K e∧Dh P X G S a w o e:=by
 cases op <;> cases p <;> simp only [e5] at hb
 case not.bool b =>
  have ex:=Ey hx
  exact ⟨_,hb,AQ h (v:=.bool !b) (by simp [execOp,ho,ex,Op.unary]) (.bool _) rfl⟩
 case neg.int k n =>
  have ex:=CT hx
  exact ⟨_,hb,AQ h (v:=.int k (k.wrap (0 - n))) (by simp [execOp,ho,ex,Op.unary,Op.intArith]) (.int _ _) rfl⟩
 case xor.int k n =>
  have ex:=CT hx
  exact ⟨_,hb,AQ h (v:=.int k (k.wrap (BitVec.ofInt k.bits (if k.signed then -1 else k.max) ^^^ BitVec.ofInt k.bits n).toNat)) (by simp [execOp,ho,ex,Op.unary,Op.intBits]) (.int _ _) rfl⟩
theorem W1 (h:AB X G β S a w) {s t:TypeId} {x:Operand} (ho:o.op = .convert s t x) {k k':IntKind} {n:Int} (ht:P.underlying t = some (.int k)) (hs:∃ d,P.underlying s = some d)
 (hx:A9 (OS β X S) w (a.eval x) (.int k' n)):Dh P X G S a w o ⟨.d (.int k (k.wrap n)),[],[]⟩:=by
 have ex:=CT hx
 obtain ⟨d,hd⟩:=hs
 exact AQ h (v:=.int k (k.wrap n)) (by simp [execOp,ho,ex,convert,run_underlying ht,run_underlying hd,Conv.intToInt]) (.int _ _) rfl
theorem M6 {s:TypeId} {x:Operand} {f:Nat} (ho:o.op = .fieldAddr s x f) {fields:Array Field} (hu:P.underlying s = some (.struct fields)) {fd:Field} (hf:fields[f]? = some fd)
 (hz:0 < AN P fd.type) {b off:Nat} (hx:a.eval x = .pointer (some ⟨b,off,none⟩)):(execOp a.eval o).run P w = .ok (.value (.pointer (some ⟨b,off + fd.offset,none⟩))) w:=by
 unfold AN at hz
 split at hz
 ·rename_i i hi
  have:i.size≠0:=by omega
  simp [execOp,ho,Instr.fieldAt,run_underlying hu,hf,hx,Instr.sureAddr,fieldPlace,sizeOf,typeInfo,hi,this,GW]
 ·omega
theorem Zc (h:AB X G β S a w) {s:TypeId} {x:Operand} {f:Nat} (ho:o.op = .field s x f) {fields:Array Field} (hu:P.underlying s = some (.struct fields)) {fd:Field} (hf:fields[f]? = some fd)
 {cs:List D} (hx:A9 (OS β X S) w (a.eval x) (.agg cs)) {K:GD→Prop} (hy:Z5 P fd.type (cs.drop fd.offset) fun x=>K ⟨.d x,[],[]⟩):∃ e,K e∧Dh P X G S a w o e:=by
 generalize hv:a.eval x = v at hx
 cases hx with
 | agg vs _ hl h1 hr =>
   unfold Z5 at hy
   have hget:∀ (j:Nat) y,(cs.drop fd.offset)[j]? = some y→∃ c,vs[fd.offset + j]? = some c∧A9 (OS β X S) w c y:=by
    intro j y hy
    simp only [List.getElem?_drop] at hy
    have hlt:fd.offset + j < vs.size:=by
     rw [hl]
     rcases Nat.lt_or_ge (fd.offset + j) cs.length with h | h
     ·exact h
     ·simp [List.getElem?_eq_none h] at hy
    exact ⟨vs[fd.offset + j],by simp [hlt],hr _ _ _ (by simp [hlt]) hy⟩
   split at hy
   ·rename_i hagg
    split at hy
    ·rename_i i hi
     rw [BG] at hy
     obtain ⟨hlen,hy⟩:=Ar hy
     have hlen':fd.offset + i.size≤cs.length∨i.size = 0:=by simp at hlen; omega
     refine ⟨_,hy,AQ h (v:=.agg (vs.extract fd.offset (fd.offset + i.size))) ?_ ?_ rfl⟩
     ·simp [execOp,ho,Instr.field,run_underlying hu,hf,hv,asAgg,part,PD hagg,sizeOf,typeInfo,hi]
     ·refine .agg _ _ (by simp at hlen ⊢; omega) (fun y hy=>h1 y (List.mem_of_mem_drop (List.mem_of_mem_take hy))) (fun j u y hu hy=>?_)
      rw [List.getElem?_take] at hy
      split at hy
      ·obtain ⟨c,hc1,hc2⟩:=hget j y hy
       rw [Array.getElem?_extract] at hu
       split at hu
       ·rw [hc1] at hu; cases hu; exact hc2
       ·cases hu
      ·cases hy
    ·exact hy.elim
   ·rename_i hagg
    split at hy
    ·rename_i y r hd
     obtain ⟨c,hc1,hc2⟩:=hget 0 y (by rw [hd]; rfl)
     rw [Nat.add_zero] at hc1
     refine ⟨_,hy,AQ h (v:=c) ?_ hc2 rfl⟩
     simp [execOp,ho,Instr.field,run_underlying hu,hf,hv,asAgg,part,NC hagg,hc1]
    ·exact hy.elim
   ·exact hy.elim
theorem MZ {t:TypeId} (h:0 < AN P t):(sizeOf t).run P w = .ok (AN P t) w:=by
 unfold AN at h ⊢
 split at h
 ·rename_i i hi
  simp [sizeOf,typeInfo,hi]
 ·omega
theorem QJ (h:AB X G β S a w) {t e:TypeId} {x ix:Operand} (ho:o.op = .indexAddr t x ix) (hu:P.underlying t = some (.slice e)) {sz:Nat} (hsz:sz = AN P e) (hpos:0 < sz) {k:IntKind} {i:Int}
 (hi:A9 (OS β X S) w (a.eval ix) (.int k i)) {xs:List D} (hx:A9 (OS β X S) w (a.eval x) (.list sz xs)) {K:GD→Prop} (hy:At xs i fun x=>Cy x.cells fun l=>K ⟨.d (.ptr l),[],[]⟩) :
 ∃ e,K e∧Dh P X G S a w o e:=by
 have ei:=CT hi
 obtain ⟨h0,y,hy1,hy⟩:=hy.go
 rw [BG] at hy
 have hlt:=AI hy1
 generalize hv:a.eval x = v at hx
 cases hx with
 | emp=>simp at hlt
 | list b off cap _ _ c hne hb hO hcap hszs h1 hcell hrep =>
   refine ⟨_,hy,?_⟩
   have hs:(sizeOf e).run P w = .ok sz w:=by rw [hsz] at hpos ⊢; exact MZ hpos
   have hlen:i < (xs.length:Int):=by omega
   refine AQ h (v:=.pointer (some ⟨b,off + i.toNat * sz,none⟩)) ?_ ?_ rfl
   ·simp [execOp,ho,Instr.indexAt,ei,asIntOf,hv,run_underlying hu,h0,hlen,hs,GW]
   ·exact A9.ptr b (off + i.toNat * sz) y.cells (fun j=>c i.toNat j) (fun _=>hb) (fun _=>hO) (fun z hz=>h1 y (List.mem_of_getElem? hy1) z hz) (fun j z hz=>hcell _ _ _ _ hy1 hz) (fun j z hz=>hrep _ _ _ _ hy1 hz)
theorem Uh (h:AB X G β S a w) {t e:TypeId} {n:Nat} {x ix:Operand} (ho:o.op = .indexAddr t x ix) (hu:P.underlying t = some (.array n e)) (hsz:AN P e = 1) {k:IntKind} {i:Int}
 (hi:A9 (OS β X S) w (a.eval ix) (.int k i)) {cs:List D} (hx:A9 (OS β X S) w (a.eval x) (.ptr cs)) (hn:i < n) {K:GD→Prop} (hy:At cs i fun y=>K ⟨.d (.ptr [y]),[],[]⟩) :
 ∃ e,K e∧Dh P X G S a w o e:=by
 have ei:=CT hi
 obtain ⟨h0,y,hy1,hy⟩:=hy.go
 generalize hv:a.eval x = v at hx
 cases hx with
 | ptr b off _ c hb hO h1 hcell hrep =>
   refine ⟨_,hy,?_⟩
   have hne:cs≠[]:=by rintro rfl; simp at hy1
   have hs:(sizeOf e).run P w = .ok 1 w:=by rw [← hsz]; exact MZ (by omega)
   refine AQ h (v:=.pointer (some ⟨b,off + i.toNat,none⟩)) ?_ ?_ rfl
   ·simp [execOp,ho,Instr.indexAt,Instr.sureAddr,ei,asIntOf,hv,run_underlying hu,h0,hn,hs,GW]
   ·refine A9.ptr b (off + i.toNat) [y] (fun j=>c (i.toNat + j)) (fun _=>hb hne) (fun _=>hO hne) (fun z hz=>?_) (fun j z hz=>?_) (fun j z hz=>?_)
    ·simp at hz; subst hz; exact h1 _ (List.mem_of_getElem? hy1)
    ·match j,hz with
     | 0,hz=>simp at hz; subst hz; exact hcell _ _ hy1
     | j + 1,hz=>simp at hz
    ·match j,hz with
     | 0,hz=>simp at hz; subst hz; exact hrep _ _ hy1
     | j + 1,hz=>simp at hz
theorem UB (h:AB X G β S a w) {t e:TypeId} {x ix:Operand} (ho:o.op = .indexAddr t x ix) (hu:P.underlying t = some (.slice e)) {k:IntKind} {i:Int}
 (hi:A9 (OS β X S) w (a.eval ix) (.int k i)) {id n sz:Nat} {e':TypeId} {xs:List D} (hsz:sz = AN P e) (hx:NN β (OS β X S) S w (a.eval x) (.row id n sz e' xs)) (h0:0≤i) (hlt:i.toNat < xs.length) :
 Dh P X G S a w o ⟨.eptr id n sz i.toNat 0,[],[]⟩:=by
 have ei:=CT hi
 obtain ⟨hb,hn,hv⟩:=hx
 have hbx:=h.boxes id
 rw [hb] at hbx
 obtain ⟨hpos,_,vals,hr,_⟩:=hbx
 rcases hr with ⟨hlen,⟨hv',h0'⟩ | ⟨g,cap',cur,hv',_⟩⟩ | ⟨h0',_⟩
 ·omega
 ·have hs:(sizeOf e).run P w = .ok sz w:=by rw [hsz] at hpos ⊢; exact MZ hpos
  have hlen:i < (xs.length:Int):=by omega
  refine AQ h (v:=.pointer (some ⟨g,i.toNat * sz + 0,none⟩)) ?_ ⟨Nat.le_of_eq hn.symm,fun _=>⟨g,_,_,hv',rfl⟩⟩ rfl
  simp [execOp,ho,Instr.indexAt,ei,asIntOf,hv,hv',run_underlying hu,h0,hlen,hs,GW]
 ·omega
theorem bP (h:AB X G β S a w) {x:Operand} {t:TypeId} (ho:o.op = .call ⟨.builtin .len,#[x],#[t]⟩) {n:Nat}
 (hl:∃ ad cap,a.eval x = .slice ad n cap) {e:TypeId} (hu:P.underlying t = some (.slice e)) :
 Dh P X G S a w o ⟨.d (.int .i64 n),[],[]⟩:=by
 obtain ⟨ad,cap,hl⟩:=hl
 refine AQ h (v:=.int .i64 n) ?_ (.int _ _) rfl
 simp [execOp,ho,resolve,invoke,builtin,Builtin.len_,hl,run_underlying hu,goInt]
theorem aE (h:AB X G β S a w) {x:Operand} {t:TypeId} (ho:o.op = .call ⟨.builtin .len,#[x],#[t]⟩) {s:ByteArray}
 (hl:a.eval x = .string s) (hu:P.underlying t = some .string):Dh P X G S a w o ⟨.d (.int .i64 s.size),[],[]⟩:=by
 refine AQ h (v:=.int .i64 s.size) ?_ (.int _ _) rfl
 simp [execOp,ho,resolve,invoke,builtin,Builtin.len_,hl,run_underlying hu,goInt]
theorem Re (h:AB X G β S a w) {x:Operand} {i:Nat} (ho:o.op = .extract x i) {xs:List C} (hx:NN β (OS β X S) S w (a.eval x) (.tup xs)) {y:C} (hy:xs[i]? = some y) :
 (∀ z,y = .d z→Dh P X G S a w o ⟨.d z,[],[]⟩)∧(∀ id n,y = .sl id n→Dh P X G S a w o ⟨.sl id n,[],[]⟩):=by
 obtain ⟨vs,hv,hl,hr⟩:=hx
 have hlt:i < vs.size:=by rw [hl]; exact AI hy
 have hru:(execOp a.eval o).run P w = .ok (.value vs[i]) w:=by simp [execOp,ho,Instr.extract,hv,hlt]
 have hk:=hr i vs[i] y (by simp [hlt]) hy
 refine ⟨fun z e=>?_,fun id n e=>?_⟩
 ·subst e; exact AQ h hru hk rfl
 ·subst e; exact AQ h hru hk rfl
theorem Kp (h:AB X G β S a w) {x:Operand} (ho:o.op = .nilCheck x) (hx:(∃ ad:Addr,a.eval x = .pointer (some ad))∨∃ f cs,a.eval x = .func (.func f) #[] cs) {v:AV} (hr:J6 β (AW S) (OS β X S) w a.tmps (a.eval x) v) (hg:v.guards = []) :
 Dh P X G S a w o ⟨v,[],[]⟩:=by
 refine AQ h (v:=a.eval x) ?_ hr hg
 rcases hx with ⟨ad,hx⟩ | ⟨f,cs,hx⟩ <;> simp [execOp,ho,hx]
theorem Ut (h:AB X G β S a w) {g:Option (Nat × Bool)} (hgd:BN g a) {s:TypeId} {x:Operand} {f:Nat} (ho:o.op = .fieldAddr s x f) {fields:Array Field} (hu:P.underlying s = some (.struct fields)) {fd:Field} (hf:fields[f]? = some fd)
 (hz:0 < AN P fd.type) {K:GD→Prop} (hy:match ρOf S g x with
     | .bot=>K ⟨.bot,[],[]⟩
     | .vptr id n o _=>K ⟨.ptr id n (o + fd.offset),[],[]⟩
     | .d (.ptr cs)=>Cy (cs.drop fd.offset) fun l=>K ⟨.d (.ptr l),[],[]⟩
     | .eptr id n sz _ _ i o=>K ⟨.eptr id n sz i (o + fd.offset),[],[]⟩
     | _=>False):∃ e,K e∧Dh P X G S a w o e:=by
 have hr:=ρ_sound h hgd x
 split at hy
 ·rename_i hx; rw [hx] at hr; exact hr.elim
 ·rename_i id n off cs hx
  rw [hx] at hr
  obtain ⟨_,h2,b,h3,h4⟩:=hr
  exact ⟨_,hy,AQ h (M6 ho hu hf hz h4) ⟨Nat.le_of_eq h2.symm,fun _=>⟨b,h3,rfl⟩⟩ rfl⟩
 ·rename_i cs hx
  rw [hx] at hr
  rw [BG] at hy
  have hr:A9 (OS β X S) w (a.eval x) (.ptr cs):=hr
  obtain ⟨b,off,h1,_⟩:=Vb hr
  refine ⟨_,hy,AQ h (M6 ho hu hf hz h1) ?_ rfl⟩
  rw [h1] at hr
  exact hr.drop _
 ·rename_i id n sz e xs i off hx
  rw [hx] at hr
  obtain ⟨_,h2,b,m,cap,h3,h4⟩:=hr
  exact ⟨_,hy,AQ h (M6 ho hu hf hz h4) ⟨Nat.le_of_eq h2.symm,fun _=>⟨b,m,cap,h3,by rw [Nat.add_assoc]⟩⟩ rfl⟩
 ·exact hy.elim
theorem WA (h:AB X G β S a w) {s t:TypeId} {x:Operand} (ho:o.op = .convert s t x) {b:ByteArray} (ht:P.underlying t = some .string) (hs:∃ d,P.underlying s = some d)
 (hx:A9 (OS β X S) w (a.eval x) (.str b)):Dh P X G S a w o ⟨.d (.str b),[],[]⟩:=by
 have ex:=Je hx
 obtain ⟨d,hd⟩:=hs
 refine AQ h (v:=.string b) ?_ (.str _) rfl
 simp only [execOp,ho,ex,Sem.run_bind,convert,run_underlying ht,run_underlying hd,Result.andThen_ok]
 cases d <;> simp
theorem TW (h:AB X G β S a w) {s t e:TypeId} {x:Operand} (ho:o.op = .convert s t x) {b:ByteArray} (ht:P.underlying t = some (.slice e)) (he:P.underlying e = some (.int .u8)) (hs:∃ d,P.underlying s = some d)
 (hx:A9 (OS β X S) w (a.eval x) (.str b)):Dh P X G S a w o ⟨.d (.list 1 ((Ko b).map (D.int .u8))),[],[]⟩:=by
 have ex:=Je hx
 obtain ⟨d,hd⟩:=hs
 have hbel:Below w.heap.size w (Lib.bytesWorld w e b):=⟨rfl,rfl,rfl,by rw [Lib.bytesWorld_size]; omega,fun k hk=>Lib.bytesWorld_at_old w e b k hk⟩
 have hlen:((Ko b).map (D.int .u8)).length = b.size:=by simp [Ko]
 refine .inl ⟨.slice (some ⟨w.heap.size,0,none⟩) b.size (grownCap w b.size 0 e),Lib.bytesWorld w e b,?_,β,h.world hbel,?_,rfl⟩
 ·simp only [execOp,ho,ex,Sem.run_bind,Lib.run_convert_string_bytes w s t e b hd ht he,Result.andThen_ok]
  rfl
 ·show A9 _ _ _ _
  by_cases hne:(Ko b).map (D.int .u8) = []
  ·have h0:b.size = 0:=by rw [← hlen,hne]; rfl
   rw [hne,h0]
   exact .emp _ _ _
  ·rw [← hlen]
   refine .list w.heap.size 0 _ 1 _ (fun i _=>.int .u8 (b.data.toList.getD i 0).toNat) hne (by rw [Lib.bytesWorld_size]; omega) (fun hO=>?_) (by rw [hlen]; exact grownCap_ge w _ _ _) ?_ ?_ ?_ ?_
   ·have:=h.os_lt hO
    omega
   ·intro y hy
    obtain ⟨n,_,rfl⟩:=List.mem_map.1 hy
    rfl
   ·intro y hy z hz
    obtain ⟨n,_,rfl⟩:=List.mem_map.1 hy
    simp [D.cells] at hz
    subst hz; rfl
   ·intro i y j z hy hz
    have hi:i < b.size:=by rw [← hlen]; exact AI hy
    simp only [List.getElem?_map] at hy
    obtain ⟨n,_,rfl⟩:=Option.map_eq_some_iff.1 hy
    have hj:j = 0:=by
     have:=AI hz
     simp [D.cells] at this; exact this
    subst hj
    rw [show 0 + i * 1 + 0 = i by omega]
    exact Lib.bytesWorld_cell w e b i hi
   ·intro i y j z hy hz
    simp only [List.getElem?_map,Ko] at hy
    obtain ⟨n,hn,rfl⟩:=Option.map_eq_some_iff.1 hy
    obtain ⟨c,hc,rfl⟩:=Option.map_eq_some_iff.1 hn
    have hj:j = 0:=by
     have:=AI hz
     simp [D.cells] at this; exact this
    subst hj
    simp [D.cells] at hz
    subst hz
    rw [List.getD_eq_getElem?_getD,hc]
    exact .int _ _
theorem WS (h:AB X G β S a w) {t:TypeId} {x ix:Operand} (ho:o.op = .index t x ix) (hu:P.underlying t = some .string) {k:IntKind} {i:Int}
 (hi:A9 (OS β X S) w (a.eval ix) (.int k i)) {s:ByteArray} (hx:A9 (OS β X S) w (a.eval x) (.str s)) (h0:0≤i) (hlt:i.toNat < s.size) :
 Dh P X G S a w o ⟨.d (.int .u8 (FW s i)),[],[]⟩:=by
 have ei:=CT hi
 have ex:=Je hx
 have hb:s[i.toNat]? = some (s[i.toNat]'hlt):=by simp [hlt]
 refine AQ h (v:=.int .u8 (FW s i)) ?_ (.int _ _) rfl
 have e:FW s i = ((s[i.toNat]'hlt).toNat:Int):=by
  unfold FW
  congr 2
  have hl:i.toNat < s.data.toList.length:=by simpa using hlt
  rw [List.getD_eq_getElem?_getD,List.getElem?_eq_getElem hl]
  simp
  rfl
 simp [execOp,ho,Instr.index,ei,asIntOf,ex,run_underlying hu,h0,hb,e]
theorem Nr (h:AB X G β S a w) {g:Option (Nat × Bool)} (hg:BN g a) {y:Option Operand} {dflt:Int} {K:Int→Prop} (hy:Y0 (ρOf S g) y dflt K) :
 ∃ i,K i∧(y = none∧i = dflt∨∃ q k,y = some q∧a.eval q = .int k i):=by
 unfold Y0 at hy
 split at hy
 ·exact ⟨_,hy,.inl ⟨rfl,rfl⟩⟩
 ·rename_i q
  split at hy
  ·rename_i k i hq
   have:=ρ_sound h hg q
   rw [hq] at this
   exact ⟨i,hy,.inr ⟨q,k,rfl,CT this⟩⟩
  ·exact hy.elim
theorem JR {k:IntKind} {i:Int} {y:Nat} {code:BoundsCode} (h0:0≤i) (h1:i≤y):(Instr.sliceBound (.int k i) y code).run P w = .ok i.toNat w:=by
 simp [Instr.sliceBound,asIntOf,h0,h1]
theorem Q9 {isSlice:Bool} {len cap:Nat} {lo hi:Option Operand} {l h:Int} (hl:lo = none∧l = 0∨∃ q k,lo = some q∧a.eval q = .int k l) (hh:hi = none∧h = len∨∃ q k,hi = some q∧a.eval q = .int k h)
 (h0:0≤l) (h1:l≤h) (h2:h≤len) (hc:len≤cap) :
 (Instr.sliceBounds isSlice len cap (lo.map a.eval) (hi.map a.eval) none).run P w = .ok (l.toNat,h.toNat,cap) w:=by
 rcases hl with ⟨rfl,rfl⟩ | ⟨q,k,rfl,hq⟩ <;> rcases hh with ⟨rfl,rfl⟩ | ⟨q',k',rfl,hq'⟩
 ·simp [Instr.sliceBounds]
 ·have e:=JR (P:=P) (w:=w) (k:=k') (i:=h) (y:=cap) (code:=if isSlice then .sliceAcap else .sliceAlen) (by omega) (by omega)
  simp [Instr.sliceBounds,hq',e]
 ·have e:=JR (P:=P) (w:=w) (k:=k) (i:=l) (y:=len) (code:=.sliceB) h0 (by omega)
  simp [Instr.sliceBounds,hq,e]
 ·have e1:=JR (P:=P) (w:=w) (k:=k') (i:=h) (y:=cap) (code:=if isSlice then .sliceAcap else .sliceAlen) (by omega) (by omega)
  have e2:=JR (P:=P) (w:=w) (k:=k) (i:=l) (y:=h.toNat) (code:=.sliceB) h0 (by omega)
  simp [Instr.sliceBounds,hq,hq',e1,e2]
theorem XI {isSlice:Bool} {len cap:Nat} {lo hi:Option Operand} {l h:Int} {m:Operand} {km:IntKind} (hm:a.eval m = .int km h) (hl:lo = none∧l = 0∨∃ q k,lo = some q∧a.eval q = .int k l) (hh:∃ q k,hi = some q∧a.eval q = .int k h)
 (h0:0≤l) (h1:l≤h) (h2:h≤cap) :
 (Instr.sliceBounds isSlice len cap (lo.map a.eval) (hi.map a.eval) (some (a.eval m))).run P w = .ok (l.toNat,h.toNat,h.toNat) w:=by
 obtain ⟨q',k',rfl,hq'⟩:=hh
 have e0:=JR (P:=P) (w:=w) (k:=km) (i:=h) (y:=cap) (code:=if isSlice then .slice3Acap else .slice3Alen) (by omega) h2
 have e1:=JR (P:=P) (w:=w) (k:=k') (i:=h) (y:=h.toNat) (code:=.slice3B) (by omega) (by omega)
 rcases hl with ⟨rfl,rfl⟩ | ⟨q,k,rfl,hq⟩
 ·simp [Instr.sliceBounds,hq',hm,e0,e1]
 ·have e2:=JR (P:=P) (w:=w) (k:=k) (i:=l) (y:=h.toNat) (code:=.slice3C) h0 (by omega)
  simp [Instr.sliceBounds,hq,hq',hm,e0,e1,e2]
theorem WN (h:AB X G β S a w) {t:TypeId} {x:Operand} {lo hi:Option Operand} (ho:o.op = .slice t x lo hi none) (hu:P.underlying t = some .string) {s:ByteArray} (hx:A9 (OS β X S) w (a.eval x) (.str s)) {l r:Int}
 (hl:lo = none∧l = 0∨∃ q k,lo = some q∧a.eval q = .int k l) (hh:hi = none∧r = (s.size:Int)∨∃ q k,hi = some q∧a.eval q = .int k r) (h0:0≤l) (h1:l≤r) (h2:r≤s.size) :
 Dh P X G S a w o ⟨.d (.str (s.extract l.toNat r.toNat)),[],[]⟩:=by
 have ex:=Je hx
 have hb:=Q9 (P:=P) (w:=w) (a:=a) (isSlice:=false) (len:=s.size) (cap:=s.size) hl hh h0 h1 h2 (Nat.le_refl _)
 refine AQ h (v:=.string (s.extract l.toNat r.toNat)) ?_ (.str _) rfl
 simp [execOp,ho,Instr.sliceAt,Instr.slice,ex,run_underlying hu,hb]
theorem Z1 {α:Type} {xs:List α} {l h:Int} {i:Nat} {y:α} (hy:(Mw xs l h)[i]? = some y):xs[l.toNat + i]? = some y:=by
 unfold Mw at hy
 rw [List.getElem?_take] at hy
 split at hy
 ·rw [List.getElem?_drop] at hy; exact hy
 ·cases hy
theorem TX {α:Type} {xs:List α} {l h:Int} (h0:0≤l) (h1:l≤h) (h2:h≤xs.length):(Mw xs l h).length = h.toNat - l.toNat:=by
 unfold Mw; simp; omega
theorem U8 {O:Nat→Prop} {ad:Option Addr} {sz:Nat} {xs:List D} {len cap m:Nat} (hx:A9 O w (.slice ad len cap) (.list sz xs)) {l h:Int} (h0:0≤l) (h1:l≤h) (h2:h≤xs.length) (hm:h.toNat≤m) :
 A9 O w (.slice (if m = l.toNat then ad else ad.map (·.add (l.toNat * sz))) (h.toNat - l.toNat) (m - l.toNat)) (.list sz (Mw xs l h)):=by
 have hcl:=TX h0 h1 h2
 by_cases he:h.toNat - l.toNat = 0
 ·have:Mw xs l h = []:=List.eq_nil_of_length_eq_zero (by rw [hcl]; exact he)
  rw [this,he]
  exact .emp _ _ _
 ·rw [if_neg (by omega)]
  cases hx with
  | emp=>simp at h2; omega
  | list b off _ _ _ c hne hb hO hcap hszs h1' hcell hrep =>
    simp only [Option.map_some,GW]
    rw [← hcl]
    refine A9.list b (off + l.toNat * sz) (m - l.toNat) sz (Mw xs l h) (fun i j=>c (l.toNat + i) j) (by intro e; rw [e] at hcl; simp at hcl; omega) hb hO (by rw [hcl]; omega)
     (fun y hy=>hszs y (List.mem_of_mem_drop (List.mem_of_mem_take hy))) (fun y hy=>h1' y (List.mem_of_mem_drop (List.mem_of_mem_take hy))) (fun i y j z hy hz=>?_) (fun i y j z hy hz=>hrep _ _ _ _ (Z1 hy) hz)
    have:=hcell _ _ _ _ (Z1 hy) hz
    rw [Nat.add_mul,← Nat.add_assoc] at this
    exact this
theorem YQ {O:Nat→Prop} {v:Value} {sz:Nat} {xs:List D} (h:A9 O w v (.list sz xs)):∃ ad cap,v = .slice ad xs.length cap∧xs.length≤cap:=by
 cases h with
 | emp a cap _=>exact ⟨a,cap,rfl,by simp⟩
 | list b off cap _ _ c hne hb hO hcap _ _ _ _=>exact ⟨_,cap,rfl,hcap⟩
theorem Lk (h:AB X G β S a w) {g:Option (Nat × Bool)} (hg:BN g a) {t e:TypeId} {x:Operand} {lo hi mx:Option Operand} (ho:o.op = .slice t x lo hi mx) (hu:P.underlying t = some (.slice e)) {sz:Nat} (hsz:sz = AN P e) (hpos:0 < sz) {xs:List D} {bx:Bx} (hF:FZ S [] bx)
 (hx:A9 (OS β X (Bo bx S)) w (a.eval x) (.list sz xs)) {K:GD→Prop} (hy:KF (ρOf S g) sz xs lo hi mx bx K):∃ e,K e∧Dh P X G S a w o e:=by
 obtain ⟨k1,_,_⟩:=hF.run h
 obtain ⟨l,hy,hl⟩:=Nr h hg hy
 obtain ⟨r,hy,hr⟩:=Nr h hg hy
 obtain ⟨ad,cap,hv,hcap⟩:=YQ hx
 have hs:(sizeOf e).run P w = .ok sz w:=by rw [hsz] at hpos ⊢; exact MZ hpos
 cases mx with
 | none =>
   obtain ⟨⟨h0,h1,h2⟩,hK⟩:=hy
   have hb:=Q9 (P:=P) (w:=w) (a:=a) (isSlice:=true) (len:=xs.length) (cap:=cap) hl hr h0 h1 h2 hcap
   rw [hv] at hx
   refine ⟨_,hK,.inl ⟨_,w,?_,β,k1,U8 (m:=cap) hx h0 h1 h2 (by omega),rfl⟩⟩
   simp [execOp,ho,Instr.sliceAt,Instr.slice,hv,run_underlying hu,hb,hs]
 | some m =>
   simp only at hy
   split at hy
   ·exact hy.elim
   rename_i hhi
   split at hy
   ·rename_i km mm hm
    obtain ⟨⟨h0,h1,h2,h3⟩,hK⟩:=hy
    subst h3
    have hmv:=ρ_sound h hg m
    rw [hm] at hmv
    have hmv:=CT hmv
    have hr':∃ q k,hi = some q∧a.eval q = .int k mm:=by
     rcases hr with ⟨rfl,rfl⟩ | hr
     ·exact absurd rfl hhi
     ·exact hr
    have hb:=XI (P:=P) (w:=w) (a:=a) (isSlice:=true) (len:=xs.length) (cap:=cap) hmv hl hr' h0 h1 (by omega)
    rw [hv] at hx
    have hd:=U8 (m:=mm.toNat) hx h0 h1 h2 (Nat.le_refl _)
    refine ⟨_,hK,.inl ⟨_,w,?_,β,k1,⟨hd,?_⟩,rfl⟩⟩
    ·simp [execOp,ho,Instr.sliceAt,Instr.slice,hv,run_underlying hu,hb,hs]
    ·simp only [PR]; rw [TX h0 h1 h2]
   ·exact hy.elim
theorem Ta (h:AB X G β S a w) {x y:Operand} {ts:Array TypeId} {b:Builtin} (ho:o.op = .call ⟨.builtin b,#[x,y],ts⟩) {k k':IntKind} {m n:Int} (hx:A9 (OS β X S) w (a.eval x) (.int k m)) (hy:A9 (OS β X S) w (a.eval y) (.int k' n)) :
 (b = .min→Dh P X G S a w o ⟨.d (.int k (if n < m then n else m)),[],[]⟩)∧(b = .max→Dh P X G S a w o ⟨.d (.int k (if n > m then n else m)),[],[]⟩):=by
 have ex:=CT hx
 have ey:=CT hy
 refine ⟨fun e=>?_,fun e=>?_⟩
 ·subst e
  refine AQ h (v:=.int k (if n < m then n else m)) ?_ (.int _ _) rfl
  simp [execOp,ho,resolve,invoke,builtin,Builtin.min_,Builtin.min2,ex,ey]
 ·subst e
  refine AQ h (v:=.int k (if n > m then n else m)) ?_ (.int _ _) rfl
  simp [execOp,ho,resolve,invoke,builtin,Builtin.max_,Builtin.max2,ex,ey]
end
end Go.Abs
