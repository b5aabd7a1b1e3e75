/-
  The abstract machine: each operation does what the model's does. First the operations that write no memory.
-/
import Derived.Test.YtejfnieiaecpkaaGreatDoorAbsFz
import Derived.Laws.StructEq
import Derived.Laws.Concat
import Derived.Lib.ConvBytes
set_option linter.unusedVariables false
set_option linter.unusedSimpArgs false
namespace Go.Abs
open Go.RowKit (Below)

theorem ite_false_prop {c p : Prop} [Decidable c] (h : if c then p else False) : c ∧ p := by
  split at h
  · exact ⟨‹_›, h⟩
  · exact h.elim

section
variable {P : Program} {X : Cx} {G : Nat → Prop} {β : Nat → Value} {S : AS} {a : Act} {w : World} {o : Oper}

def PostE (X : Cx) (G : Nat → Prop) (S : AS) (a : Act) (e : Eff) (v : Value) (w' : World) : Prop :=
  ∃ β', SimB X G β' (appB e.bx S) a w' ∧ RepA β' (verOf (appB e.bx S)) (OS β' X (appB e.bx S)) w' a.tmps v e.av ∧ e.av.guards = []

/-- The model's operation has the effect e. -/
def Does (P : Program) (X : Cx) (G : Nat → Prop) (S : AS) (a : Act) (w : World) (o : Oper) (e : Eff) : Prop :=
  (∃ v w', (execOp a.eval o).run P w = .ok (.value v) w' ∧ PostE X G S a e v w') ∨
  (∃ w', (execOp a.eval o).run P w = .ok .skip w' ∧ PostE X G S a e undef w') ∨
  (∃ f args, (execOp a.eval o).run P w = .ok (.enter f args) w ∧ Calls P f args w fun e' w' => ∃ v, e' = .returned v ∧ PostE X G S a e v w')

theorem does_pure (h : SimB X G β S a w) {v : Value} {x : AV} (hrun : (execOp a.eval o).run P w = .ok (.value v) w)
    (hr : RepA β (verOf S) (OS β X S) w a.tmps v x) (hg : x.guards = []) : Does P X G S a w o ⟨x, [], []⟩ :=
  .inl ⟨v, w, hrun, β, h, hr, hg⟩

theorem back_sound {O : Nat → Prop} {tm : Array Value} {v : Value} {r : RV} (h : RepR β O S w v r) : RepA β (verOf S) O w tm v (back r) ∧ (back r).guards = [] := by
  cases r with
  | any => exact ⟨trivial, rfl⟩
  | bot => exact h.elim
  | d x => exact ⟨h, rfl⟩
  | lim sz xs => exact ⟨h, rfl⟩
  | vptr id n o cs => obtain ⟨_, h2, h3⟩ := h; exact ⟨⟨Nat.le_of_eq h2.symm, fun _ => h3⟩, rfl⟩
  | row id n sz e xs => obtain ⟨_, h2, h3⟩ := h; exact ⟨⟨Nat.le_of_eq h2.symm, fun _ => h3⟩, rfl⟩
  | eptr id n sz e xs i o => obtain ⟨_, h2, h3⟩ := h; exact ⟨⟨Nat.le_of_eq h2.symm, fun _ => h3⟩, rfl⟩
  | tup xs => exact ⟨h, rfl⟩
  | cagg xs => exact ⟨h, rfl⟩
  | cfun f xs => exact ⟨h, rfl⟩
  | clo f xs k id n rid rn => exact ⟨h.1, rfl⟩
  | mp id n es => obtain ⟨_, h2, h3⟩ := h; exact ⟨⟨Nat.le_of_eq h2.symm, fun _ => h3⟩, rfl⟩

theorem repD_bool {O : Nat → Prop} {v : Value} {b : Bool} (h : RepD O w v (.bool b)) : v = .bool b := by cases h; rfl
theorem repD_int {O : Nat → Prop} {v : Value} {k : IntKind} {n : Int} (h : RepD O w v (.int k n)) : v = .int k n := by cases h; rfl
theorem repD_str {O : Nat → Prop} {v : Value} {s : ByteArray} (h : RepD O w v (.str s)) : v = .string s := by cases h; rfl
theorem repD_one {O : Nat → Prop} {v : Value} {x : D} (h : RepD O w v x) (h1 : x.one = true) : v.oneCell' = true := by cases h <;> first | rfl | (simp [D.one] at h1)

theorem does_move (h : SimB X G β S a w) {g : Option (Nat × Bool)} (hg : GuardOK g a) {x : Operand} (ho : o.op = .move x ∨ o.op = .assign x) :
    Does P X G S a w o ⟨back (ρOf S g x), [], []⟩ := by
  have hb := back_sound (tm := a.tmps) (ρ_sound h hg x)
  refine does_pure h (v := a.eval x) ?_ hb.1 hb.2
  rcases ho with ho | ho <;> simp [execOp, ho]

theorem does_pick (h : SimB X G β S a w) {g : Option (Nat × Bool)} (hg : GuardOK g a) {t : Nat} {x y : Operand} (ho : o.op = .pick (.tmp t) x y) {c b1 b2 : Bool}
    (hc : ρOf S g (.tmp t) = .d (.bool c)) (hx : ρOf S (some (t, true)) x = .d (.bool b1)) (hy : ρOf S (some (t, false)) y = .d (.bool b2)) :
    Does P X G S a w o ⟨.d (.bool (bif c then b1 else b2)), [], []⟩ := by
  have h1 := ρ_sound h hg (.tmp t)
  rw [hc] at h1
  have e1 := repD_bool h1
  have ht : a.tmps[t]? = some (.bool c) := by
    simp only [Act.eval, Array.getD] at e1
    split at e1
    · rename_i hlt; rw [← e1]; simp [hlt]
    · simp [undef] at e1
  have hrun : (execOp a.eval o).run P w = .ok (.value (if c then a.eval x else a.eval y)) w := by simp [execOp, ho, e1, asBool]
  cases c with
  | true =>
    have h2 := ρ_sound h (g := some (t, true)) (fun t' w' e => by cases e; exact ht) x
    rw [hx] at h2
    exact does_pure h (v := a.eval x) (by rw [hrun]; rfl) h2 rfl
  | false =>
    have h2 := ρ_sound h (g := some (t, false)) (fun t' w' e => by cases e; exact ht) y
    rw [hy] at h2
    exact does_pure h (v := a.eval y) (by rw [hrun]; rfl) h2 rfl

theorem does_pickL (h : SimB X G β S a w) {g : Option (Nat × Bool)} (hg : GuardOK g a) {t : Nat} {x y : Operand} (ho : o.op = .pick (.tmp t) x y) {c b2 : Bool}
    (hc : ρOf S g (.tmp t) = .d (.bool c)) (hx : ρOf S (some (t, true)) x = .bot) (hy : ρOf S (some (t, false)) y = .d (.bool b2)) :
    Does P X G S a w o ⟨.d (.bool b2), [], []⟩ := by
  have h1 := ρ_sound h hg (.tmp t)
  rw [hc] at h1
  have e1 := repD_bool h1
  have ht : a.tmps[t]? = some (.bool c) := by
    simp only [Act.eval, Array.getD] at e1
    split at e1
    · rename_i hlt; rw [← e1]; simp [hlt]
    · simp [undef] at e1
  have hrun : (execOp a.eval o).run P w = .ok (.value (if c then a.eval x else a.eval y)) w := by simp [execOp, ho, e1, asBool]
  cases c with
  | true =>
    have h2 := ρ_sound h (g := some (t, true)) (fun t' w' e => by cases e; exact ht) x
    rw [hx] at h2
    exact h2.elim
  | false =>
    have h2 := ρ_sound h (g := some (t, false)) (fun t' w' e => by cases e; exact ht) y
    rw [hy] at h2
    exact does_pure h (v := a.eval y) (by rw [hrun]; rfl) h2 rfl
theorem does_pickR (h : SimB X G β S a w) {g : Option (Nat × Bool)} (hg : GuardOK g a) {t : Nat} {x y : Operand} (ho : o.op = .pick (.tmp t) x y) {c b1 : Bool}
    (hc : ρOf S g (.tmp t) = .d (.bool c)) (hx : ρOf S (some (t, true)) x = .d (.bool b1)) (hy : ρOf S (some (t, false)) y = .bot) :
    Does P X G S a w o ⟨.d (.bool b1), [], []⟩ := by
  have h1 := ρ_sound h hg (.tmp t)
  rw [hc] at h1
  have e1 := repD_bool h1
  have ht : a.tmps[t]? = some (.bool c) := by
    simp only [Act.eval, Array.getD] at e1
    split at e1
    · rename_i hlt; rw [← e1]; simp [hlt]
    · simp [undef] at e1
  have hrun : (execOp a.eval o).run P w = .ok (.value (if c then a.eval x else a.eval y)) w := by simp [execOp, ho, e1, asBool]
  cases c with
  | true =>
    have h2 := ρ_sound h (g := some (t, true)) (fun t' w' e => by cases e; exact ht) x
    rw [hx] at h2
    exact does_pure h (v := a.eval x) (by rw [hrun]; rfl) h2 rfl
  | false =>
    have h2 := ρ_sound h (g := some (t, false)) (fun t' w' e => by cases e; exact ht) y
    rw [hy] at h2
    exact h2.elim

/-! ### Loads -/
theorem add_none (b off j : Nat) : (⟨b, off, none⟩ : Addr).add j = ⟨b, off + j, none⟩ := by unfold Addr.add; split <;> simp_all

theorem choose_cells {R : Nat → Value → D → Prop} : ∀ (cs : List D) (n : Nat), (∀ (j : Nat) y, cs[j]? = some y → ∃ c, R (n + j) c y) →
    ∃ vs : List Value, vs.length = cs.length ∧ ∀ (j : Nat) v y, vs[j]? = some v → cs[j]? = some y → R (n + j) v y
  | [], n, _ => ⟨[], rfl, fun j v y h _ => by simp at h⟩
  | c :: r, n, h => by
    obtain ⟨v, hv⟩ := h 0 c (by simp)
    obtain ⟨vs, hl, hr⟩ := choose_cells r (n + 1) (fun j y hy => by have := h (j + 1) y (by simpa using hy); rwa [show n + (j + 1) = n + 1 + j by omega] at this)
    refine ⟨v :: vs, by simp [hl], fun j u y hu hy => ?_⟩
    cases j with
    | zero => simp at hu hy; subst hu; subst hy; exact hv
    | succ j => have := hr j u y (by simpa using hu) (by simpa using hy); rwa [show n + (j + 1) = n + 1 + j by omega]

theorem aggT_true {t : TypeId} (h : aggT P t = some true) : (isAgg t).run P w = .ok true w := by
  unfold aggT at h
  unfold isAgg
  split at h <;> simp_all [run_underlying]
theorem aggT_false {t : TypeId} (h : aggT P t = some false) : (isAgg t).run P w = .ok false w := by
  unfold aggT at h
  unfold isAgg
  split at h
  · simp at h
  · simp at h
  · rename_i d hd _ _ hu
    simp only [Sem.run_bind, run_underlying hu, Result.andThen_ok]
    rfl
  · simp at h

theorem ldD_sound {O : Nat → Prop} {t : TypeId} {cs : List D} {b off : Nat} {K : D → Prop} (hy : ldD P t cs K)
    (hc : ∀ (j : Nat) y, cs[j]? = some y → ∃ c, w.cell? ⟨b, off + j, none⟩ = some c ∧ RepD O w c y ∧ y.one = true) :
    ∃ x, K x ∧ ∃ v, (loadVar t ⟨b, off, none⟩).run P w = .ok v w ∧ RepD O w v x := by
  unfold ldD at hy
  split at hy
  · rename_i hagg
    split at hy
    · rename_i i hi
      rw [forceS_eq] at hy
      split at hy
      · rename_i hlen
        obtain ⟨vs, hl, hr⟩ := choose_cells (R := fun j c y => w.cell? ⟨b, off + j, none⟩ = some c ∧ RepD O w c y ∧ y.one = true) (cs.take i.size) 0
          (fun j y hy => by
            rw [Nat.zero_add]
            refine hc j y ?_
            rw [List.getElem?_take] at hy
            split at hy
            · exact hy
            · cases hy)
        have hget : ∀ j, j < vs.length → ∃ y, (cs.take i.size)[j]? = some y := fun j hj => ⟨_, List.getElem?_eq_getElem (by omega)⟩
        refine ⟨_, hy, .agg vs.toArray, ?_, ?_⟩
        · have hld := run_loadCells_list (P := P) w ⟨b, off, none⟩ vs (fun j v hv => by
            have hj : j < vs.length := by
              rcases Nat.lt_or_ge j vs.length with h | h
              · exact h
              · simp [List.getElem?_eq_none h] at hv
            obtain ⟨y, hy⟩ := hget j hj
            have := (hr j v y hv hy).1
            rw [Nat.zero_add] at this
            rw [add_none]; exact this)
          rw [hl, hlen] at hld
          simp [loadVar, aggT_true hagg, sizeOf, typeInfo, hi, hld]
        · refine .agg _ _ (by simpa using hl) ?_ ?_
          · intro x hx
            obtain ⟨j, hj⟩ := List.mem_iff_getElem?.1 hx
            have hjl : j < vs.length := by
              rcases Nat.lt_or_ge j (cs.take i.size).length with h | h
              · omega
              · simp [List.getElem?_eq_none h] at hj
            exact (hr j _ x (List.getElem?_eq_getElem hjl) hj).2.2
          · intro j v x hv hx
            exact (hr j v x (by simpa using hv) hx).2.1
      · exact hy.elim
    · exact hy.elim
  · rename_i hagg
    split at hy
    · rename_i y r
      obtain ⟨c, h1, h2, _⟩ := hc 0 y (by simp)
      refine ⟨y, hy, c, ?_, h2⟩
      rw [Nat.add_zero] at h1
      simp [loadVar, aggT_false hagg, run_load, h1]
    · exact hy.elim
  · exact hy.elim

theorem run_loadAt {t : TypeId} {x : Operand} {b off : Nat} {v : Value} (ho : o.op = .load t x) (hx : a.eval x = .pointer (some ⟨b, off, none⟩))
    (hl : (loadVar t ⟨b, off, none⟩).run P w = .ok v w) : (execOp a.eval o).run P w = .ok (.value v) w := by
  simp [execOp, ho, Instr.loadAt, hx, Instr.sureAddr, hl]

theorem repD_ptr {O : Nat → Prop} {v : Value} {cs : List D} (h : RepD O w v (.ptr cs)) : ∃ b off, v = .pointer (some ⟨b, off, none⟩) ∧ ∀ (j : Nat) y, cs[j]? = some y → ∃ c, w.cell? ⟨b, off + j, none⟩ = some c ∧ RepD O w c y ∧ y.one = true := by
  cases h with
  | ptr b off _ c hb hO h1 hcell hr => exact ⟨b, off, rfl, fun j y hy => ⟨c j, hcell j y hy, hr j y hy, h1 y (List.mem_of_getElem? hy)⟩⟩
theorem does_load_c (h : SimB X G β S a w) {t : TypeId} {x : Operand} (ho : o.op = .load t x) {cs : List D} (hr : RepD (OS β X S) w (a.eval x) (.ptr cs))
    {K : Eff → Prop} (hy : ldD P t cs fun x => K ⟨.d x, [], []⟩) : ∃ e, K e ∧ Does P X G S a w o e := by
  obtain ⟨b, off, hv, hc⟩ := repD_ptr hr
  obtain ⟨x', hK, v, hl, hx'⟩ := ldD_sound hy hc
  exact ⟨_, hK, does_pure h (run_loadAt ho hv hl) hx' rfl⟩

/-- A variable of the frame's own, from an offset on. -/
theorem var_cells (h : SimB X G β S a w) {id : Nat} {cs : List C} (hb : (sget S id).box = .var cs) {b : Nat} (hβ : β id = .pointer (some ⟨b, 0, none⟩)) :
    ∃ vals T, w.heap[b]? = some (.cells vals T (0, 0)) ∧ vals.size = cs.length ∧ ∀ (j : Nat) v c, vals[j]? = some v → cs[j]? = some c → RepCell β (verOf S) (OS β X S) w v c := by
  have hbx := h.boxes id
  rw [hb] at hbx
  obtain ⟨b', vals, T, h1, h3, h4, h5⟩ := hbx
  rw [hβ] at h1
  simp at h1
  subst h1
  exact ⟨vals, T, h3, h4, h5⟩

theorem does_load_v (h : SimB X G β S a w) {t : TypeId} {x : Operand} (ho : o.op = .load t x) {id n off : Nat} {cs : List C} (hr : RepR β (OS β X S) S w (a.eval x) (.vptr id n off cs))
    {K : Eff → Prop} (hy : ldC P (σOf S) t (cs.drop off) K) : ∃ e, K e ∧ Does P X G S a w o e := by
  obtain ⟨hb, _, b, hβ, hv⟩ := hr
  obtain ⟨vals, T, h3, h4, h5⟩ := var_cells h hb hβ
  unfold ldC at hy
  split at hy
  · rename_i hagg
    split at hy
    · rename_i i hi
      rw [forceS_eq] at hy
      obtain ⟨hlen, hy⟩ := ite_false_prop hy
      obtain ⟨l, bx, hK, hF, hfr, hl, hc, hh⟩ := cellsK_sound h hy
      have hvl : (((vals.toList).drop off).take i.size).length = ((cs.drop off).take i.size).length := by simp [h4]
      have hrep := hh (((vals.toList).drop off).take i.size) hvl (fun j v c hv hc => by
        rw [List.getElem?_take] at hv hc
        split at hv
        · rename_i hj
          rw [if_pos hj] at hc
          rw [List.getElem?_drop] at hv hc
          exact h5 _ v c (by simpa using hv) hc
        · cases hv)
      obtain ⟨k1, k2, k3⟩ := hF.run h
      have hL := hrep.now h hF
      refine ⟨_, hK, .inl ⟨.agg (((vals.toList).drop off).take i.size).toArray, w, ?_, β, k1, ?_, rfl⟩⟩
      · refine run_loadAt ho hv ?_
        have hld := run_loadCells_list (P := P) w ⟨b, off, none⟩ (((vals.toList).drop off).take i.size) (fun j v hv => by
          rw [List.getElem?_take] at hv
          split at hv
          · rw [List.getElem?_drop] at hv
            rw [add_none]
            simp [World.cell?, h3]
            simpa using hv
          · cases hv)
        rw [hvl, hlen] at hld
        simp [loadVar, aggT_true hagg, sizeOf, typeInfo, hi, hld]
      · refine .agg _ _ (by simpa using hL.1) (fun y hy => ?_) (fun j v y hv hy => (hL.2 j v y (by simpa using hv) hy).1)
        obtain ⟨j, hj⟩ := List.mem_iff_getElem?.1 hy
        have hlt : j < (((vals.toList).drop off).take i.size).length := by rw [hL.1]; exact some_lt hj
        exact (hL.2 j _ y (List.getElem?_eq_getElem hlt) hj).2
    · exact hy.elim
  · rename_i hagg
    have key : ∀ c r, cs.drop off = c :: r → ∃ v, (execOp a.eval o).run P w = .ok (.value v) w ∧ RepCell β (verOf S) (OS β X S) w v c := by
      intro c r hd
      have hc : cs[off]? = some c := by
        have : (cs.drop off)[0]? = some c := by rw [hd]; rfl
        simpa using this
      have hlt : off < vals.size := by rw [h4]; exact some_lt hc
      have hv' : vals[off]? = some vals[off] := by simp [hlt]
      refine ⟨vals[off], run_loadAt ho hv ?_, h5 off _ c hv' hc⟩
      simp [loadVar, aggT_false hagg, run_load, World.cell?, h3, hlt]
    split at hy
    · rename_i y r hd
      obtain ⟨v, h6, h7⟩ := key _ _ hd
      exact ⟨_, hy, does_pure h h6 h7.1 rfl⟩
    · rename_i id' n' r hd
      obtain ⟨v, h6, h7⟩ := key _ _ hd
      exact ⟨_, hy, does_pure h h6 h7 rfl⟩
    · exact hy.elim
  · exact hy.elim

/-- The cells of an element of a row of the frame's own. -/
theorem row_cell (h : SimB X G β S a w) {id sz : Nat} {e : TypeId} {xs : List D} (hb : (sget S id).box = .row sz e xs) {b m cap : Nat} (hβ : β id = .slice (some ⟨b, 0, none⟩) m cap) {i : Nat} {x : D}
    (hx : xs[i]? = some x) {j : Nat} {y : D} (hy : x.cells[j]? = some y) : ∃ c, w.cell? ⟨b, i * sz + j, none⟩ = some c ∧ RepD (OS β X S) w c y ∧ y.one = true := by
  have hbx := h.boxes id
  rw [hb] at hbx
  obtain ⟨h1, h2, vals, h3, h4⟩ := hbx
  have hpos : 0 < xs.length := by cases xs <;> simp at hx ⊢
  rcases h3 with ⟨hlen, ⟨hv, h0⟩ | ⟨g, cap', cur, hv, hbg, hh, hn, hm, hcs, ht⟩⟩ | ⟨h0, _⟩
  · omega
  · rw [hβ] at hv
    simp at hv
    obtain ⟨rfl, rfl, rfl⟩ := hv
    have hf := flat_get xs h2 i x j y hx hy
    have hlt : i * sz + j < vals.length := by rw [h4.1]; exact some_lt hf
    have hu : vals[i * sz + j]? = some vals[i * sz + j] := List.getElem?_eq_getElem hlt
    refine ⟨vals[i * sz + j], ?_, h4.2 _ _ _ hu hf⟩
    rw [← hu, ← ht, List.getElem?_take_of_lt (by rw [← hlen]; exact hlt)]
    simp [World.cell?, hh]
  · omega

theorem does_load_e (h : SimB X G β S a w) {t : TypeId} {x : Operand} (ho : o.op = .load t x) {id n sz i off : Nat} {e : TypeId} {xs : List D} (hr : RepR β (OS β X S) S w (a.eval x) (.eptr id n sz e xs i off))
    {K : Eff → Prop} (hy : At xs i fun x => ldD P t (x.cells.drop off) fun x => K ⟨.d x, [], []⟩) : ∃ e, K e ∧ Does P X G S a w o e := by
  obtain ⟨hb, _, b, m, cap, hβ, hv⟩ := hr
  obtain ⟨_, y, hy1, hy⟩ := hy.go
  simp only [Int.toNat_natCast] at hy1
  obtain ⟨x', hK, v, hl, hx'⟩ := ldD_sound (O := OS β X S) (w := w) (b := b) (off := i * sz + off) hy (fun j y' hy' => by
    simp only [List.getElem?_drop] at hy'
    have := row_cell h hb hβ hy1 hy'
    rwa [← Nat.add_assoc] at this)
  exact ⟨_, hK, does_pure h (run_loadAt ho hv hl) hx' rfl⟩

/-! ### Arithmetic -/
theorem isBool_under {t : TypeId} (h : isBool P t = true) : P.underlying t = some .bool := by
  unfold isBool at h
  split at h
  · assumption
  · cases h

def D.sv : D → Value
  | .bool b => .bool b
  | .int k n => .int k n
  | .str s => .string s
  | _ => undef

theorem take_head {α : Type} {l : List α} {n : Nat} {x : α} {r : List α} (h : l.take n = x :: r) : l = x :: l.drop 1 := by
  cases l with
  | nil => simp at h
  | cons y q => cases n with
    | zero => simp at h
    | succ n => simp at h; simp [h.1]
/-- Where two variables of one type are held against each other. -/
def CellsAt (O : Nat → Prop) (w : World) (vs : Array Value) (off : Nat) (xs : List D) : Prop := ∀ (j : Nat) y, xs[j]? = some y → ∃ v, vs[off + j]? = some v ∧ RepD O w v y
theorem CellsAt.drop {O : Nat → Prop} {vs : Array Value} {off : Nat} {xs : List D} (h : CellsAt O w vs off xs) (n : Nat) : CellsAt O w vs (off + n) (xs.drop n) := by
  intro j y hy
  rw [List.getElem?_drop] at hy
  have := h (n + j) y hy
  rwa [← Nat.add_assoc] at this
theorem run_part {t : TypeId} {vs : Array Value} {off : Nat} {xs : List D} {O : Nat → Prop} (h : CellsAt O w vs off xs) (hs : (P.info? t).isSome = true) (hl : sizeT P t ≤ xs.length) :
    (aggT P t = some true → (part t vs off).run P w = .ok (.agg (vs.extract off (off + sizeT P t))) w) ∧ (aggT P t = some false → ∀ y r, xs = y :: r → ∃ v, (part t vs off).run P w = .ok v w ∧ RepD O w v y) := by
  obtain ⟨i, hi⟩ := Option.isSome_iff_exists.1 hs
  refine ⟨fun ha => ?_, fun ha y r hx => ?_⟩
  · simp [part, aggT_true ha, sizeOf, typeInfo, hi, sizeT]
  · obtain ⟨v, h1, h2⟩ := h 0 y (by rw [hx]; rfl)
    rw [Nat.add_zero] at h1
    exact ⟨v, by simp [part, aggT_false ha, h1], h2⟩
theorem CellsAt.extract {O : Nat → Prop} {vs : Array Value} {off n : Nat} {xs : List D} (h : CellsAt O w vs off xs) : CellsAt O w (vs.extract off (off + n)) 0 (xs.take n) := by
  intro j y hy
  rw [List.getElem?_take] at hy
  split at hy
  · rename_i hj
    obtain ⟨v, h1, h2⟩ := h j y hy
    refine ⟨v, ?_, h2⟩
    rw [Nat.zero_add, Array.getElem?_extract, if_pos]
    · exact h1
    · have := asome_lt h1; omega
  · cases hy

theorem eqC_mono : ∀ (n : Nat) {t : TypeId} {xs ys : List D} {K K' : Bool → Prop}, (∀ b, K b → K' b) → eqC P n t xs ys K → eqC P n t xs ys K'
  | 0, _, _, _, _, _, _, h => h
  | n + 1, t, xs, ys, K, K', hK, h => by
    unfold eqC at h ⊢
    split at h
    · split at h
      · obtain ⟨h1, h2⟩ := ite_false_prop h; rw [if_pos h1]; exact hK _ h2
      · exact h.elim
    · split at h
      · exact hK _ h
      · exact h.elim
    · split at h
      · exact hK _ h
      · exact h.elim
    · rename_i fs hu
      obtain ⟨hp, h⟩ := h
      refine ⟨hp, ?_⟩
      · have key : ∀ (l : List Field) (K K' : Bool → Prop), (∀ b, K b → K' b) → List.rec (motive := fun _ => (Bool → Prop) → Prop) (fun K => K true)
            (fun f _ ih K => eqC P n f.type ((xs.drop f.offset).take (sizeT P f.type)) ((ys.drop f.offset).take (sizeT P f.type)) fun a => ih fun b => K (a && b)) l K →
            List.rec (motive := fun _ => (Bool → Prop) → Prop) (fun K => K true)
            (fun f _ ih K => eqC P n f.type ((xs.drop f.offset).take (sizeT P f.type)) ((ys.drop f.offset).take (sizeT P f.type)) fun a => ih fun b => K (a && b)) l K' := by
          intro l
          induction l with
          | nil => intro K K' hK h; exact hK _ h
          | cons f r ih =>
            intro K K' hK h
            exact eqC_mono n (fun a ha => ih _ _ (fun b hb => hK _ hb) ha) h
        exact key _ _ _ hK h
    · exact h.elim

theorem eqC_some (n : Nat) {t : TypeId} {xs ys : List D} {K : Bool → Prop} (h : eqC P n t xs ys K) : aggT P t ≠ none := by
  cases n with
  | zero => exact h.elim
  | succ n =>
    unfold eqC at h
    unfold aggT
    split at h <;> simp_all
theorem eqC_ne (n : Nat) {t : TypeId} {xs ys : List D} {K : Bool → Prop} (ha : aggT P t = some false) (h : eqC P n t xs ys K) : ∃ x r y q, xs = x :: r ∧ ys = y :: q := by
  cases n with
  | zero => exact h.elim
  | succ n =>
    unfold eqC at h
    split at h
    · split at h
      · exact ⟨_, _, _, _, rfl, rfl⟩
      · exact h.elim
    · split at h
      · exact ⟨_, _, _, _, rfl, rfl⟩
      · exact h.elim
    · split at h
      · exact ⟨_, _, _, _, rfl, rfl⟩
      · exact h.elim
    · rename_i fs hu; unfold aggT at ha; rw [hu] at ha; simp at ha
    · exact h.elim
theorem eqC_sound {O : Nat → Prop} : ∀ (n m : Nat), n < m → ∀ {t : TypeId} {xs ys : List D} {vs us : Array Value} {K : Bool → Prop}, eqC P n t xs ys K →
    (aggT P t = some true → CellsAt O w vs 0 xs → CellsAt O w us 0 ys → ∃ b, K b ∧ (Op.equalIn m t (.agg vs) (.agg us)).run P w = .ok b w) ∧
    (aggT P t = some false → ∀ x y r q v u, xs = x :: r → ys = y :: q → RepD O w v x → RepD O w u y → ∃ b, K b ∧ (Op.equalIn m t v u).run P w = .ok b w)
  | 0, _, _, t, xs, ys, vs, us, K, h => h.elim
  | n + 1, 0, hm, t, xs, ys, vs, us, K, h => by omega
  | n + 1, m + 1, hm, t, xs, ys, vs, us, K, h => by
    unfold eqC at h
    split at h
    · rename_i k hu
      refine ⟨fun ha => by unfold aggT at ha; rw [hu] at ha; simp at ha, fun _ x y r q v u hx hy hv hu' => ?_⟩
      subst hx; subst hy
      split at h
      · rename_i k1 a1 _ k2 b1 _ e1 e2
        simp at e1 e2
        obtain ⟨rfl, _⟩ := e1
        obtain ⟨rfl, _⟩ := e2
        obtain ⟨hkk, h6⟩ := ite_false_prop h
        subst hkk
        rw [repD_int hv, repD_int hu']
        exact ⟨_, h6, run_equalIn_int w m t _ _ _ _ hu⟩
      · exact h.elim
    · rename_i hu
      refine ⟨fun ha => by unfold aggT at ha; rw [hu] at ha; simp at ha, fun _ x y r q v u hx hy hv hu' => ?_⟩
      subst hx; subst hy
      split at h
      · rename_i a1 _ b1 _ e1 e2
        simp at e1 e2
        obtain ⟨rfl, _⟩ := e1
        obtain ⟨rfl, _⟩ := e2
        rw [repD_bool hv, repD_bool hu']
        exact ⟨_, h, run_equalIn_bool' w m t _ _ hu⟩
      · exact h.elim
    · rename_i hu
      refine ⟨fun ha => by unfold aggT at ha; rw [hu] at ha; simp at ha, fun _ x y r q v u hx hy hv hu' => ?_⟩
      subst hx; subst hy
      split at h
      · rename_i a1 _ b1 _ e1 e2
        simp at e1 e2
        obtain ⟨rfl, _⟩ := e1
        obtain ⟨rfl, _⟩ := e2
        rw [repD_str hv, repD_str hu']
        exact ⟨_, h, run_equalIn_string w m t _ _ hu⟩
      · exact h.elim
    · rename_i fs hu
      refine ⟨fun _ hx hy => ?_, fun ha => by unfold aggT at ha; rw [hu] at ha; simp at ha⟩
      obtain ⟨hok, h⟩ := h
      have hp : P.stoodInHeld t = false ∧ ∀ f ∈ fs.toList, f.name ≠ "_" ∧ (P.info? f.type).isSome = true ∧ f.offset + sizeT P f.type ≤ xs.length ∧ f.offset + sizeT P f.type ≤ ys.length := by
        simp only [eqOK, Bool.and_eq_true, Bool.not_eq_true', List.all_eq_true, decide_eq_true_eq, beq_eq_false_iff_ne] at hok
        exact hok
      · have hf : P.fieldsOf t = fs := by simp [Program.fieldsOf, hu]
        have key : ∀ (l : List Field) (K : Bool → Prop), (∀ f ∈ l, f.name ≠ "_" ∧ (P.info? f.type).isSome = true ∧ f.offset + sizeT P f.type ≤ xs.length ∧ f.offset + sizeT P f.type ≤ ys.length) → List.rec (motive := fun _ => (Bool → Prop) → Prop) (fun K => K true)
            (fun f _ ih K => eqC P n f.type ((xs.drop f.offset).take (sizeT P f.type)) ((ys.drop f.offset).take (sizeT P f.type)) fun a => ih fun b => K (a && b)) l K →
            ∃ b, K b ∧ (Op.eqFields m vs us l).run P w = .ok b w := by
          intro l
          induction l with
          | nil => intro K _ h; exact ⟨_, h, rfl⟩
          | cons f r ih =>
            intro K hl h
            obtain ⟨h1, h2, h3, h4⟩ := hl f (by simp)
            have h5 := h
            have hx' := hx.drop f.offset
            have hy' := hy.drop f.offset
            rw [Nat.zero_add] at hx' hy'
            have px := run_part (P := P) hx' h2 (by simp; omega)
            have py := run_part (P := P) hy' h2 (by simp; omega)
            -- the field's own test
            have fld : ∃ c pv pu, (part f.type vs f.offset).run P w = .ok pv w ∧ (part f.type us f.offset).run P w = .ok pu w ∧ (Op.equalIn m f.type pv pu).run P w = .ok c w ∧ List.rec (motive := fun _ => (Bool → Prop) → Prop) (fun K => K true)
                (fun f _ ih K => eqC P n f.type ((xs.drop f.offset).take (sizeT P f.type)) ((ys.drop f.offset).take (sizeT P f.type)) fun a => ih fun b => K (a && b)) r fun b => K (c && b) := by
              cases ha : aggT P f.type with
              | none =>
                exact absurd ha (eqC_some n h5)
              | some ag =>
                cases ag with
                | true =>
                  obtain ⟨c, hc, hr⟩ := (eqC_sound n m (by omega) (vs := vs.extract f.offset (f.offset + sizeT P f.type)) (us := us.extract f.offset (f.offset + sizeT P f.type)) h5).1 ha hx'.extract hy'.extract
                  exact ⟨c, _, _, px.1 ha, py.1 ha, hr, hc⟩
                | false =>
                  obtain ⟨x0, r0, y0, q0, hx0, hy0⟩ := eqC_ne n ha h5
                  obtain ⟨pv, e1, e2⟩ := px.2 ha x0 _ (take_head hx0)
                  obtain ⟨pu, e3, e4⟩ := py.2 ha y0 _ (take_head hy0)
                  obtain ⟨c, hc, hr⟩ := (eqC_sound n m (by omega) (vs := #[]) (us := #[]) h5).2 ha x0 y0 r0 q0 pv pu hx0 hy0 e2 e4
                  exact ⟨c, pv, pu, e1, e3, hr, hc⟩
            obtain ⟨c, pv, pu, e1, e2, e3, h6⟩ := fld
            obtain ⟨b, hb1, hb2⟩ := ih _ (fun f hf => hl f (by simp [hf])) h6
            refine ⟨c && b, hb1, ?_⟩
            simp only [Op.eqFields]
            rw [if_pos h1]
            simp only [Sem.run_bind, e1, e2, e3, Result.andThen_ok]
            cases c with
            | true => simpa using hb2
            | false => simp
        obtain ⟨b, hb1, hb2⟩ := key _ _ hp.2 h
        refine ⟨b, hb1, ?_⟩
        rw [run_equalIn_struct w m t vs us (by rw [hf]; exact hu) hp.1, hf]
        exact hb2
    · exact h.elim

theorem strD_sound {op : BinOp} {T U : TypeId} {x y : Operand} (ho : o.op = .binOp op T x y U) {s t : ByteArray} (ex : a.eval x = .string s) (ey : a.eval y = .string t) {K : D → Prop} (hb : strD op s t K) :
    ∃ z, K z ∧ (execOp a.eval o).run P w = .ok (.value z.sv) w ∧ (∀ O' : Nat → Prop, ∀ w' : World, RepD O' w' z.sv z) := by
  cases op <;> simp only [strD] at hb <;> first
    | exact hb.elim
    | exact ⟨_, hb, by simp [D.sv, execOp, ho, ex, ey, eqGuard, binOp, Op.stringOp], fun _ _ => .bool _⟩
    | (obtain ⟨h0, hb⟩ := hb
       refine ⟨_, hb, ?_, fun _ _ => .str _⟩
       simp only [execOp, ho, ex, ey, eqGuard, Sem.run_bind, binOp]
       simp [D.sv, run_string_add_sum _ s t h0])

theorem binD_sound {op : BinOp} {T U : TypeId} {x y : Operand} (ho : o.op = .binOp op T x y U) {O : Nat → Prop} {p q : D} (hx : RepD O w (a.eval x) p) (hy : RepD O w (a.eval y) q)
    {K : D → Prop} (hb : binD P T op p q K) :
    ∃ z, K z ∧ (execOp a.eval o).run P w = .ok (.value z.sv) w ∧ (∀ O' : Nat → Prop, ∀ w' : World, RepD O' w' z.sv z) := by
  cases p <;> cases q <;> simp only [binD] at hb
  case bool.bool b1 b2 =>
    have ex := repD_bool hx
    have ey := repD_bool hy
    split at hb
    · rename_i hB
      have hu := isBool_under hB
      cases op <;> first
        | exact hb.elim
        | exact ⟨_, hb, by simp [D.sv, execOp, ho, ex, ey, eqGuard, binOp, Op.equal, Op.maxDepth, run_equalIn_bool' w 9999 T b1 b2 hu], fun _ _ => .bool _⟩
    · exact hb.elim
  case int.int k m k' n =>
    have ex := repD_int hx
    have ey := repD_int hy
    have sh : op = .shl ∨ op = .shr ∨ (op ≠ .shl ∧ op ≠ .shr) := by cases op <;> simp
    rcases sh with rfl | rfl | ⟨hs1, hs2⟩
    · simp only [shiftD] at hb
      obtain ⟨h0, hb⟩ := hb
      have h0' : ¬ n < 0 := by omega
      exact ⟨_, hb, by simp [D.sv, execOp, ho, ex, ey, eqGuard, binOp, Op.shift, h0'], fun _ _ => .int _ _⟩
    · simp only [shiftD] at hb
      obtain ⟨h0, hb⟩ := hb
      have h0' : ¬ n < 0 := by omega
      exact ⟨_, hb, by simp [D.sv, execOp, ho, ex, ey, eqGuard, binOp, Op.shift, h0'], fun _ _ => .int _ _⟩
    · have hb' : if k = k' then arith op k m n K else False := by cases op <;> first | exact hb | exact absurd rfl hs1 | exact absurd rfl hs2
      clear hb
      obtain ⟨rfl, hb⟩ := ite_false_prop hb'
      clear hb'
      cases op <;> simp only [arith] at hb
      all_goals first
        | exact hb.elim
        | exact ⟨_, hb, by simp [D.sv, execOp, ho, ex, ey, eqGuard, binOp, Op.intArith, Op.intCmp, Op.intBits], fun _ _ => by first | exact .int _ _ | exact .bool _⟩
        | (obtain ⟨h0, hb⟩ := hb
           exact ⟨_, hb, by simp [D.sv, execOp, ho, ex, ey, eqGuard, binOp, Op.intDiv, h0], fun _ _ => .int _ _⟩)
  case str.str s t => exact strD_sound ho (repD_str hx) (repD_str hy) hb
  case agg.agg xs ys =>
    obtain ⟨hgt, hb⟩ := hb
    · generalize ex : a.eval x = vx at hx
      generalize ey : a.eval y = vy at hy
      cases hx with
      | agg vs _ hl h1 hr =>
        cases hy with
        | agg us _ hl' h1' hr' =>
          have cx : CellsAt O w vs 0 xs := fun j z hz => ⟨vs[j]'(by rw [hl]; exact some_lt hz), by simp [show j < vs.size by rw [hl]; exact some_lt hz], hr j _ z (by simp [show j < vs.size by rw [hl]; exact some_lt hz]) hz⟩
          have cy : CellsAt O w us 0 ys := fun j z hz => ⟨us[j]'(by rw [hl']; exact some_lt hz), by simp [show j < us.size by rw [hl']; exact some_lt hz], hr' j _ z (by simp [show j < us.size by rw [hl']; exact some_lt hz]) hz⟩
          have hga : (eqGuard op T x y (.agg vs) (.agg us)).run P w = .ok () w := run_eqGuard_agg w op T x y vs us hgt.1
          have agg : ∀ {K : Bool → Prop}, eqC P 12 T xs ys K → ∃ b, K b ∧ (Op.equalIn 10000 T (.agg vs) (.agg us)).run P w = .ok b w := by
            intro K hb
            exact (eqC_sound 12 10000 (by omega) hb).1 hgt.2 cx cy
          cases op <;> first | exact hb.elim | skip
          · obtain ⟨b, hK, hr⟩ := agg hb
            refine ⟨_, hK, ?_, fun _ _ => .bool _⟩
            simp only [execOp, ho, ex, ey, Sem.run_bind, hga, Result.andThen_ok, run_eql_struct, hr, Sem.run_pure, D.sv]
          · obtain ⟨b, hK, hr⟩ := agg hb
            refine ⟨_, hK, ?_, fun _ _ => .bool _⟩
            simp only [execOp, ho, ex, ey, Sem.run_bind, hga, Result.andThen_ok, run_neq_struct, hr, Sem.run_pure, D.sv]

theorem does_binOp (h : SimB X G β S a w) {op : BinOp} {T U : TypeId} {x y : Operand} (ho : o.op = .binOp op T x y U) {p q : D} (hx : RepD (OS β X S) w (a.eval x) p) (hy : RepD (OS β X S) w (a.eval y) q)
    {K : Eff → Prop} (hb : binD P T op p q fun x => K ⟨.d x, [], []⟩) : ∃ e, K e ∧ Does P X G S a w o e := by
  obtain ⟨z, hK, hrun, hz⟩ := binD_sound ho hx hy hb
  exact ⟨_, hK, does_pure h hrun (hz _ _) rfl⟩

theorem does_unOp (h : SimB X G β S a w) {op : UnOp} {T : TypeId} {x : Operand} (ho : o.op = .unOp op T x) {p : D} (hx : RepD (OS β X S) w (a.eval x) p)
    {K : Eff → Prop} (hb : unD op p fun x => K ⟨.d x, [], []⟩) : ∃ e, K e ∧ Does P X G S a w o e := by
  cases op <;> cases p <;> simp only [unD] at hb
  case not.bool b =>
    have ex := repD_bool hx
    exact ⟨_, hb, does_pure h (v := .bool !b) (by simp [execOp, ho, ex, Op.unary]) (.bool _) rfl⟩
  case neg.int k n =>
    have ex := repD_int hx
    exact ⟨_, hb, does_pure h (v := .int k (k.wrap (0 - n))) (by simp [execOp, ho, ex, Op.unary, Op.intArith]) (.int _ _) rfl⟩
  case xor.int k n =>
    have ex := repD_int hx
    exact ⟨_, hb, does_pure h (v := .int k (k.wrap (BitVec.ofInt k.bits (if k.signed then -1 else k.max) ^^^ BitVec.ofInt k.bits n).toNat)) (by simp [execOp, ho, ex, Op.unary, Op.intBits]) (.int _ _) rfl⟩

theorem does_convert (h : SimB X G β S a w) {s t : TypeId} {x : Operand} (ho : o.op = .convert s t x) {k k' : IntKind} {n : Int} (ht : P.underlying t = some (.int k)) (hs : ∃ d, P.underlying s = some d)
    (hx : RepD (OS β X S) w (a.eval x) (.int k' n)) : Does P X G S a w o ⟨.d (.int k (k.wrap n)), [], []⟩ := by
  have ex := repD_int hx
  obtain ⟨d, hd⟩ := hs
  exact does_pure h (v := .int k (k.wrap n)) (by simp [execOp, ho, ex, convert, run_underlying ht, run_underlying hd, Conv.intToInt]) (.int _ _) rfl

/-! ### Addresses -/
theorem run_fieldAddr {s : TypeId} {x : Operand} {f : Nat} (ho : o.op = .fieldAddr s x f) {fields : Array Field} (hu : P.underlying s = some (.struct fields)) {fd : Field} (hf : fields[f]? = some fd)
    (hz : 0 < sizeT P fd.type) {b off : Nat} (hx : a.eval x = .pointer (some ⟨b, off, none⟩)) : (execOp a.eval o).run P w = .ok (.value (.pointer (some ⟨b, off + fd.offset, none⟩))) w := by
  unfold sizeT at hz
  split at hz
  · rename_i i hi
    have : i.size ≠ 0 := by omega
    simp [execOp, ho, Instr.fieldAt, run_underlying hu, hf, hx, Instr.sureAddr, fieldPlace, sizeOf, typeInfo, hi, this, add_none]
  · omega

theorem does_field (h : SimB X G β S a w) {s : TypeId} {x : Operand} {f : Nat} (ho : o.op = .field s x f) {fields : Array Field} (hu : P.underlying s = some (.struct fields)) {fd : Field} (hf : fields[f]? = some fd)
    {cs : List D} (hx : RepD (OS β X S) w (a.eval x) (.agg cs)) {K : Eff → Prop} (hy : ldD P fd.type (cs.drop fd.offset) fun x => K ⟨.d x, [], []⟩) : ∃ e, K e ∧ Does P X G S a w o e := by
  generalize hv : a.eval x = v at hx
  cases hx with
  | agg vs _ hl h1 hr =>
    unfold ldD at hy
    have hget : ∀ (j : Nat) y, (cs.drop fd.offset)[j]? = some y → ∃ c, vs[fd.offset + j]? = some c ∧ RepD (OS β X S) w c y := by
      intro j y hy
      simp only [List.getElem?_drop] at hy
      have hlt : fd.offset + j < vs.size := by
        rw [hl]
        rcases Nat.lt_or_ge (fd.offset + j) cs.length with h | h
        · exact h
        · simp [List.getElem?_eq_none h] at hy
      exact ⟨vs[fd.offset + j], by simp [hlt], hr _ _ _ (by simp [hlt]) hy⟩
    split at hy
    · rename_i hagg
      split at hy
      · rename_i i hi
        rw [forceS_eq] at hy
        obtain ⟨hlen, hy⟩ := ite_false_prop hy
        have hlen' : fd.offset + i.size ≤ cs.length ∨ i.size = 0 := by simp at hlen; omega
        refine ⟨_, hy, does_pure h (v := .agg (vs.extract fd.offset (fd.offset + i.size))) ?_ ?_ rfl⟩
        · simp [execOp, ho, Instr.field, run_underlying hu, hf, hv, asAgg, part, aggT_true hagg, sizeOf, typeInfo, hi]
        · refine .agg _ _ (by simp at hlen ⊢; omega) (fun y hy => h1 y (List.mem_of_mem_drop (List.mem_of_mem_take hy))) (fun j u y hu hy => ?_)
          rw [List.getElem?_take] at hy
          split at hy
          · obtain ⟨c, hc1, hc2⟩ := hget j y hy
            rw [Array.getElem?_extract] at hu
            split at hu
            · rw [hc1] at hu; cases hu; exact hc2
            · cases hu
          · cases hy
      · exact hy.elim
    · rename_i hagg
      split at hy
      · rename_i y r hd
        obtain ⟨c, hc1, hc2⟩ := hget 0 y (by rw [hd]; rfl)
        rw [Nat.add_zero] at hc1
        refine ⟨_, hy, does_pure h (v := c) ?_ hc2 rfl⟩
        simp [execOp, ho, Instr.field, run_underlying hu, hf, hv, asAgg, part, aggT_false hagg, hc1]
      · exact hy.elim
    · exact hy.elim

theorem sizeT_run {t : TypeId} (h : 0 < sizeT P t) : (sizeOf t).run P w = .ok (sizeT P t) w := by
  unfold sizeT at h ⊢
  split at h
  · rename_i i hi
    simp [sizeOf, typeInfo, hi]
  · omega

/-- An element of shared data. -/
theorem does_index_c (h : SimB X G β S a w) {t e : TypeId} {x ix : Operand} (ho : o.op = .indexAddr t x ix) (hu : P.underlying t = some (.slice e)) {sz : Nat} (hsz : sz = sizeT P e) (hpos : 0 < sz) {k : IntKind} {i : Int}
    (hi : RepD (OS β X S) w (a.eval ix) (.int k i)) {xs : List D} (hx : RepD (OS β X S) w (a.eval x) (.list sz xs)) {K : Eff → Prop} (hy : At xs i fun x => forceS x.cells fun l => K ⟨.d (.ptr l), [], []⟩) :
    ∃ e, K e ∧ Does P X G S a w o e := by
  have ei := repD_int hi
  obtain ⟨h0, y, hy1, hy⟩ := hy.go
  rw [forceS_eq] at hy
  have hlt := some_lt hy1
  generalize hv : a.eval x = v at hx
  cases hx with
  | emp => simp at hlt
  | list b off cap _ _ c hne hb hO hcap hszs h1 hcell hrep =>
    refine ⟨_, hy, ?_⟩
    have hs : (sizeOf e).run P w = .ok sz w := by rw [hsz] at hpos ⊢; exact sizeT_run hpos
    have hlen : i < (xs.length : Int) := by omega
    refine does_pure h (v := .pointer (some ⟨b, off + i.toNat * sz, none⟩)) ?_ ?_ rfl
    · simp [execOp, ho, Instr.indexAt, ei, asIntOf, hv, run_underlying hu, h0, hlen, hs, add_none]
    · exact RepD.ptr b (off + i.toNat * sz) y.cells (fun j => c i.toNat j) (fun _ => hb) (fun _ => hO) (fun z hz => h1 y (List.mem_of_getElem? hy1) z hz) (fun j z hz => hcell _ _ _ _ hy1 hz) (fun j z hz => hrep _ _ _ _ hy1 hz)

/-- A cell of an array that is data. -/
theorem does_index_arr (h : SimB X G β S a w) {t e : TypeId} {n : Nat} {x ix : Operand} (ho : o.op = .indexAddr t x ix) (hu : P.underlying t = some (.array n e)) (hsz : sizeT P e = 1) {k : IntKind} {i : Int}
    (hi : RepD (OS β X S) w (a.eval ix) (.int k i)) {cs : List D} (hx : RepD (OS β X S) w (a.eval x) (.ptr cs)) (hn : i < n) {K : Eff → Prop} (hy : At cs i fun y => K ⟨.d (.ptr [y]), [], []⟩) :
    ∃ e, K e ∧ Does P X G S a w o e := by
  have ei := repD_int hi
  obtain ⟨h0, y, hy1, hy⟩ := hy.go
  generalize hv : a.eval x = v at hx
  cases hx with
  | ptr b off _ c hb hO h1 hcell hrep =>
    refine ⟨_, hy, ?_⟩
    have hne : cs ≠ [] := by rintro rfl; simp at hy1
    have hs : (sizeOf e).run P w = .ok 1 w := by rw [← hsz]; exact sizeT_run (by omega)
    refine does_pure h (v := .pointer (some ⟨b, off + i.toNat, none⟩)) ?_ ?_ rfl
    · simp [execOp, ho, Instr.indexAt, Instr.sureAddr, ei, asIntOf, hv, run_underlying hu, h0, hn, hs, add_none]
    · refine RepD.ptr b (off + i.toNat) [y] (fun j => c (i.toNat + j)) (fun _ => hb hne) (fun _ => hO hne) (fun z hz => ?_) (fun j z hz => ?_) (fun j z hz => ?_)
      · simp at hz; subst hz; exact h1 _ (List.mem_of_getElem? hy1)
      · match j, hz with
        | 0, hz => simp at hz; subst hz; exact hcell _ _ hy1
        | j + 1, hz => simp at hz
      · match j, hz with
        | 0, hz => simp at hz; subst hz; exact hrep _ _ hy1
        | j + 1, hz => simp at hz

theorem does_index_row (h : SimB X G β S a w) {t e : TypeId} {x ix : Operand} (ho : o.op = .indexAddr t x ix) (hu : P.underlying t = some (.slice e)) {k : IntKind} {i : Int}
    (hi : RepD (OS β X S) w (a.eval ix) (.int k i)) {id n sz : Nat} {e' : TypeId} {xs : List D} (hsz : sz = sizeT P e) (hx : RepR β (OS β X S) S w (a.eval x) (.row id n sz e' xs)) (h0 : 0 ≤ i) (hlt : i.toNat < xs.length) :
    Does P X G S a w o ⟨.eptr id n sz i.toNat 0, [], []⟩ := by
  have ei := repD_int hi
  obtain ⟨hb, hn, hv⟩ := hx
  have hbx := h.boxes id
  rw [hb] at hbx
  obtain ⟨hpos, _, vals, hr, _⟩ := hbx
  rcases hr with ⟨hlen, ⟨hv', h0'⟩ | ⟨g, cap', cur, hv', _⟩⟩ | ⟨h0', _⟩
  · omega
  · have hs : (sizeOf e).run P w = .ok sz w := by rw [hsz] at hpos ⊢; exact sizeT_run hpos
    have hlen : i < (xs.length : Int) := by omega
    refine does_pure h (v := .pointer (some ⟨g, i.toNat * sz + 0, none⟩)) ?_ ⟨Nat.le_of_eq hn.symm, fun _ => ⟨g, _, _, hv', rfl⟩⟩ rfl
    simp [execOp, ho, Instr.indexAt, ei, asIntOf, hv, hv', run_underlying hu, h0, hlen, hs, add_none]
  · omega

theorem does_len (h : SimB X G β S a w) {x : Operand} {t : TypeId} (ho : o.op = .call ⟨.builtin .len, #[x], #[t]⟩) {n : Nat}
    (hl : ∃ ad cap, a.eval x = .slice ad n cap) {e : TypeId} (hu : P.underlying t = some (.slice e)) :
    Does P X G S a w o ⟨.d (.int .i64 n), [], []⟩ := by
  obtain ⟨ad, cap, hl⟩ := hl
  refine does_pure h (v := .int .i64 n) ?_ (.int _ _) rfl
  simp [execOp, ho, resolve, invoke, builtin, Builtin.len_, hl, run_underlying hu, goInt]
theorem does_lens (h : SimB X G β S a w) {x : Operand} {t : TypeId} (ho : o.op = .call ⟨.builtin .len, #[x], #[t]⟩) {s : ByteArray}
    (hl : a.eval x = .string s) (hu : P.underlying t = some .string) : Does P X G S a w o ⟨.d (.int .i64 s.size), [], []⟩ := by
  refine does_pure h (v := .int .i64 s.size) ?_ (.int _ _) rfl
  simp [execOp, ho, resolve, invoke, builtin, Builtin.len_, hl, run_underlying hu, goInt]
theorem does_extract (h : SimB X G β S a w) {x : Operand} {i : Nat} (ho : o.op = .extract x i) {xs : List C} (hx : RepR β (OS β X S) S w (a.eval x) (.tup xs)) {y : C} (hy : xs[i]? = some y) :
    (∀ z, y = .d z → Does P X G S a w o ⟨.d z, [], []⟩) ∧ (∀ id n, y = .sl id n → Does P X G S a w o ⟨.sl id n, [], []⟩) := by
  obtain ⟨vs, hv, hl, hr⟩ := hx
  have hlt : i < vs.size := by rw [hl]; exact some_lt hy
  have hru : (execOp a.eval o).run P w = .ok (.value vs[i]) w := by simp [execOp, ho, Instr.extract, hv, hlt]
  have hk := hr i vs[i] y (by simp [hlt]) hy
  refine ⟨fun z e => ?_, fun id n e => ?_⟩
  · subst e; exact does_pure h hru hk rfl
  · subst e; exact does_pure h hru hk rfl
theorem does_nilCheck (h : SimB X G β S a w) {x : Operand} (ho : o.op = .nilCheck x) (hx : (∃ ad : Addr, a.eval x = .pointer (some ad)) ∨ ∃ f cs, a.eval x = .func (.func f) #[] cs) {v : AV} (hr : RepA β (verOf S) (OS β X S) w a.tmps (a.eval x) v) (hg : v.guards = []) :
    Does P X G S a w o ⟨v, [], []⟩ := by
  refine does_pure h (v := a.eval x) ?_ hr hg
  rcases hx with ⟨ad, hx⟩ | ⟨f, cs, hx⟩ <;> simp [execOp, ho, hx]
theorem does_fieldAddr (h : SimB X G β S a w) {g : Option (Nat × Bool)} (hgd : GuardOK g a) {s : TypeId} {x : Operand} {f : Nat} (ho : o.op = .fieldAddr s x f) {fields : Array Field} (hu : P.underlying s = some (.struct fields)) {fd : Field} (hf : fields[f]? = some fd)
    (hz : 0 < sizeT P fd.type) {K : Eff → Prop} (hy : match ρOf S g x with
          | .bot => K ⟨.bot, [], []⟩
          | .vptr id n o _ => K ⟨.ptr id n (o + fd.offset), [], []⟩
          | .d (.ptr cs) => forceS (cs.drop fd.offset) fun l => K ⟨.d (.ptr l), [], []⟩
          | .eptr id n sz _ _ i o => K ⟨.eptr id n sz i (o + fd.offset), [], []⟩
          | _ => False) : ∃ e, K e ∧ Does P X G S a w o e := by
  have hr := ρ_sound h hgd x
  split at hy
  · rename_i hx; rw [hx] at hr; exact hr.elim
  · rename_i id n off cs hx
    rw [hx] at hr
    obtain ⟨_, h2, b, h3, h4⟩ := hr
    exact ⟨_, hy, does_pure h (run_fieldAddr ho hu hf hz h4) ⟨Nat.le_of_eq h2.symm, fun _ => ⟨b, h3, rfl⟩⟩ rfl⟩
  · rename_i cs hx
    rw [hx] at hr
    rw [forceS_eq] at hy
    have hr : RepD (OS β X S) w (a.eval x) (.ptr cs) := hr
    obtain ⟨b, off, h1, _⟩ := repD_ptr hr
    refine ⟨_, hy, does_pure h (run_fieldAddr ho hu hf hz h1) ?_ rfl⟩
    rw [h1] at hr
    exact hr.drop _
  · rename_i id n sz e xs i off hx
    rw [hx] at hr
    obtain ⟨_, h2, b, m, cap, h3, h4⟩ := hr
    exact ⟨_, hy, does_pure h (run_fieldAddr ho hu hf hz h4) ⟨Nat.le_of_eq h2.symm, fun _ => ⟨b, m, cap, h3, by rw [Nat.add_assoc]⟩⟩ rfl⟩
  · exact hy.elim

/-! ### Strings, slices of data, the lesser and the greater of two -/
theorem does_convstr (h : SimB X G β S a w) {s t : TypeId} {x : Operand} (ho : o.op = .convert s t x) {b : ByteArray} (ht : P.underlying t = some .string) (hs : ∃ d, P.underlying s = some d)
    (hx : RepD (OS β X S) w (a.eval x) (.str b)) : Does P X G S a w o ⟨.d (.str b), [], []⟩ := by
  have ex := repD_str hx
  obtain ⟨d, hd⟩ := hs
  refine does_pure h (v := .string b) ?_ (.str _) rfl
  simp only [execOp, ho, ex, Sem.run_bind, convert, run_underlying ht, run_underlying hd, Result.andThen_ok]
  cases d <;> simp
/-- The bytes of a string: a new row. -/
theorem does_convbytes (h : SimB X G β S a w) {s t e : TypeId} {x : Operand} (ho : o.op = .convert s t x) {b : ByteArray} (ht : P.underlying t = some (.slice e)) (he : P.underlying e = some (.int .u8)) (hs : ∃ d, P.underlying s = some d)
    (hx : RepD (OS β X S) w (a.eval x) (.str b)) : Does P X G S a w o ⟨.d (.list 1 ((bytesOf b).map (D.int .u8))), [], []⟩ := by
  have ex := repD_str hx
  obtain ⟨d, hd⟩ := hs
  have hbel : Below w.heap.size w (Lib.bytesWorld w e b) := ⟨rfl, rfl, rfl, by rw [Lib.bytesWorld_size]; omega, fun k hk => Lib.bytesWorld_at_old w e b k hk⟩
  have hlen : ((bytesOf b).map (D.int .u8)).length = b.size := by simp [bytesOf]
  refine .inl ⟨.slice (some ⟨w.heap.size, 0, none⟩) b.size (grownCap w b.size 0 e), Lib.bytesWorld w e b, ?_, β, h.world hbel, ?_, rfl⟩
  · simp only [execOp, ho, ex, Sem.run_bind, Lib.run_convert_string_bytes w s t e b hd ht he, Result.andThen_ok]
    rfl
  · show RepD _ _ _ _
    by_cases hne : (bytesOf b).map (D.int .u8) = []
    · have h0 : b.size = 0 := by rw [← hlen, hne]; rfl
      rw [hne, h0]
      exact .emp _ _ _
    · rw [← hlen]
      refine .list w.heap.size 0 _ 1 _ (fun i _ => .int .u8 (b.data.toList.getD i 0).toNat) hne (by rw [Lib.bytesWorld_size]; omega) (fun hO => ?_) (by rw [hlen]; exact grownCap_ge w _ _ _) ?_ ?_ ?_ ?_
      · have := h.os_lt hO
        omega
      · intro y hy
        obtain ⟨n, _, rfl⟩ := List.mem_map.1 hy
        rfl
      · intro y hy z hz
        obtain ⟨n, _, rfl⟩ := List.mem_map.1 hy
        simp [D.cells] at hz
        subst hz; rfl
      · intro i y j z hy hz
        have hi : i < b.size := by rw [← hlen]; exact some_lt hy
        simp only [List.getElem?_map] at hy
        obtain ⟨n, _, rfl⟩ := Option.map_eq_some_iff.1 hy
        have hj : j = 0 := by
          have := some_lt hz
          simp [D.cells] at this; exact this
        subst hj
        rw [show 0 + i * 1 + 0 = i by omega]
        exact Lib.bytesWorld_cell w e b i hi
      · intro i y j z hy hz
        simp only [List.getElem?_map, bytesOf] at hy
        obtain ⟨n, hn, rfl⟩ := Option.map_eq_some_iff.1 hy
        obtain ⟨c, hc, rfl⟩ := Option.map_eq_some_iff.1 hn
        have hj : j = 0 := by
          have := some_lt hz
          simp [D.cells] at this; exact this
        subst hj
        simp [D.cells] at hz
        subst hz
        rw [List.getD_eq_getElem?_getD, hc]
        exact .int _ _
theorem does_index_s (h : SimB X G β S a w) {t : TypeId} {x ix : Operand} (ho : o.op = .index t x ix) (hu : P.underlying t = some .string) {k : IntKind} {i : Int}
    (hi : RepD (OS β X S) w (a.eval ix) (.int k i)) {s : ByteArray} (hx : RepD (OS β X S) w (a.eval x) (.str s)) (h0 : 0 ≤ i) (hlt : i.toNat < s.size) :
    Does P X G S a w o ⟨.d (.int .u8 (byteAt s i)), [], []⟩ := by
  have ei := repD_int hi
  have ex := repD_str hx
  have hb : s[i.toNat]? = some (s[i.toNat]'hlt) := by simp [hlt]
  refine does_pure h (v := .int .u8 (byteAt s i)) ?_ (.int _ _) rfl
  have e : byteAt s i = ((s[i.toNat]'hlt).toNat : Int) := by
    unfold byteAt
    congr 2
    have hl : i.toNat < s.data.toList.length := by simpa using hlt
    rw [List.getD_eq_getElem?_getD, List.getElem?_eq_getElem hl]
    simp
    rfl
  simp [execOp, ho, Instr.index, ei, asIntOf, ex, run_underlying hu, h0, hb, e]
theorem ixK_sound (h : SimB X G β S a w) {g : Option (Nat × Bool)} (hg : GuardOK g a) {y : Option Operand} {dflt : Int} {K : Int → Prop} (hy : ixK (ρOf S g) y dflt K) :
    ∃ i, K i ∧ (y = none ∧ i = dflt ∨ ∃ q k, y = some q ∧ a.eval q = .int k i) := by
  unfold ixK at hy
  split at hy
  · exact ⟨_, hy, .inl ⟨rfl, rfl⟩⟩
  · rename_i q
    split at hy
    · rename_i k i hq
      have := ρ_sound h hg q
      rw [hq] at this
      exact ⟨i, hy, .inr ⟨q, k, rfl, repD_int this⟩⟩
    · exact hy.elim
theorem run_bound {k : IntKind} {i : Int} {y : Nat} {code : BoundsCode} (h0 : 0 ≤ i) (h1 : i ≤ y) : (Instr.sliceBound (.int k i) y code).run P w = .ok i.toNat w := by
  simp [Instr.sliceBound, asIntOf, h0, h1]
/-- The bounds, where they are told or left out. -/
theorem run_bounds {isSlice : Bool} {len cap : Nat} {lo hi : Option Operand} {l h : Int} (hl : lo = none ∧ l = 0 ∨ ∃ q k, lo = some q ∧ a.eval q = .int k l) (hh : hi = none ∧ h = len ∨ ∃ q k, hi = some q ∧ a.eval q = .int k h)
    (h0 : 0 ≤ l) (h1 : l ≤ h) (h2 : h ≤ len) (hc : len ≤ cap) :
    (Instr.sliceBounds isSlice len cap (lo.map a.eval) (hi.map a.eval) none).run P w = .ok (l.toNat, h.toNat, cap) w := by
  rcases hl with ⟨rfl, rfl⟩ | ⟨q, k, rfl, hq⟩ <;> rcases hh with ⟨rfl, rfl⟩ | ⟨q', k', rfl, hq'⟩
  · simp [Instr.sliceBounds]
  · have e := run_bound (P := P) (w := w) (k := k') (i := h) (y := cap) (code := if isSlice then .sliceAcap else .sliceAlen) (by omega) (by omega)
    simp [Instr.sliceBounds, hq', e]
  · have e := run_bound (P := P) (w := w) (k := k) (i := l) (y := len) (code := .sliceB) h0 (by omega)
    simp [Instr.sliceBounds, hq, e]
  · have e1 := run_bound (P := P) (w := w) (k := k') (i := h) (y := cap) (code := if isSlice then .sliceAcap else .sliceAlen) (by omega) (by omega)
    have e2 := run_bound (P := P) (w := w) (k := k) (i := l) (y := h.toNat) (code := .sliceB) h0 (by omega)
    simp [Instr.sliceBounds, hq, hq', e1, e2]
theorem run_bounds3 {isSlice : Bool} {len cap : Nat} {lo hi : Option Operand} {l h : Int} {m : Operand} {km : IntKind} (hm : a.eval m = .int km h) (hl : lo = none ∧ l = 0 ∨ ∃ q k, lo = some q ∧ a.eval q = .int k l) (hh : ∃ q k, hi = some q ∧ a.eval q = .int k h)
    (h0 : 0 ≤ l) (h1 : l ≤ h) (h2 : h ≤ cap) :
    (Instr.sliceBounds isSlice len cap (lo.map a.eval) (hi.map a.eval) (some (a.eval m))).run P w = .ok (l.toNat, h.toNat, h.toNat) w := by
  obtain ⟨q', k', rfl, hq'⟩ := hh
  have e0 := run_bound (P := P) (w := w) (k := km) (i := h) (y := cap) (code := if isSlice then .slice3Acap else .slice3Alen) (by omega) h2
  have e1 := run_bound (P := P) (w := w) (k := k') (i := h) (y := h.toNat) (code := .slice3B) (by omega) (by omega)
  rcases hl with ⟨rfl, rfl⟩ | ⟨q, k, rfl, hq⟩
  · simp [Instr.sliceBounds, hq', hm, e0, e1]
  · have e2 := run_bound (P := P) (w := w) (k := k) (i := l) (y := h.toNat) (code := .slice3C) h0 (by omega)
    simp [Instr.sliceBounds, hq, hq', hm, e0, e1, e2]
theorem does_slice_s (h : SimB X G β S a w) {t : TypeId} {x : Operand} {lo hi : Option Operand} (ho : o.op = .slice t x lo hi none) (hu : P.underlying t = some .string) {s : ByteArray} (hx : RepD (OS β X S) w (a.eval x) (.str s)) {l r : Int}
    (hl : lo = none ∧ l = 0 ∨ ∃ q k, lo = some q ∧ a.eval q = .int k l) (hh : hi = none ∧ r = (s.size : Int) ∨ ∃ q k, hi = some q ∧ a.eval q = .int k r) (h0 : 0 ≤ l) (h1 : l ≤ r) (h2 : r ≤ s.size) :
    Does P X G S a w o ⟨.d (.str (s.extract l.toNat r.toNat)), [], []⟩ := by
  have ex := repD_str hx
  have hb := run_bounds (P := P) (w := w) (a := a) (isSlice := false) (len := s.size) (cap := s.size) hl hh h0 h1 h2 (Nat.le_refl _)
  refine does_pure h (v := .string (s.extract l.toNat r.toNat)) ?_ (.str _) rfl
  simp [execOp, ho, Instr.sliceAt, Instr.slice, ex, run_underlying hu, hb]

theorem cut_get {α : Type} {xs : List α} {l h : Int} {i : Nat} {y : α} (hy : (cut xs l h)[i]? = some y) : xs[l.toNat + i]? = some y := by
  unfold cut at hy
  rw [List.getElem?_take] at hy
  split at hy
  · rw [List.getElem?_drop] at hy; exact hy
  · cases hy
theorem cut_length {α : Type} {xs : List α} {l h : Int} (h0 : 0 ≤ l) (h1 : l ≤ h) (h2 : h ≤ xs.length) : (cut xs l h).length = h.toNat - l.toNat := by
  unfold cut; simp; omega
/-- A part of a slice of data. -/
theorem slice_data {O : Nat → Prop} {ad : Option Addr} {sz : Nat} {xs : List D} {len cap m : Nat} (hx : RepD O w (.slice ad len cap) (.list sz xs)) {l h : Int} (h0 : 0 ≤ l) (h1 : l ≤ h) (h2 : h ≤ xs.length) (hm : h.toNat ≤ m) :
    RepD O w (.slice (if m = l.toNat then ad else ad.map (·.add (l.toNat * sz))) (h.toNat - l.toNat) (m - l.toNat)) (.list sz (cut xs l h)) := by
  have hcl := cut_length h0 h1 h2
  by_cases he : h.toNat - l.toNat = 0
  · have : cut xs l h = [] := List.eq_nil_of_length_eq_zero (by rw [hcl]; exact he)
    rw [this, he]
    exact .emp _ _ _
  · rw [if_neg (by omega)]
    cases hx with
    | emp => simp at h2; omega
    | list b off _ _ _ c hne hb hO hcap hszs h1' hcell hrep =>
      simp only [Option.map_some, add_none]
      rw [← hcl]
      refine RepD.list b (off + l.toNat * sz) (m - l.toNat) sz (cut xs l h) (fun i j => c (l.toNat + i) j) (by intro e; rw [e] at hcl; simp at hcl; omega) hb hO (by rw [hcl]; omega)
        (fun y hy => hszs y (List.mem_of_mem_drop (List.mem_of_mem_take hy))) (fun y hy => h1' y (List.mem_of_mem_drop (List.mem_of_mem_take hy))) (fun i y j z hy hz => ?_) (fun i y j z hy hz => hrep _ _ _ _ (cut_get hy) hz)
      have := hcell _ _ _ _ (cut_get hy) hz
      rw [Nat.add_mul, ← Nat.add_assoc] at this
      exact this
theorem repD_slice {O : Nat → Prop} {v : Value} {sz : Nat} {xs : List D} (h : RepD O w v (.list sz xs)) : ∃ ad cap, v = .slice ad xs.length cap ∧ xs.length ≤ cap := by
  cases h with
  | emp a cap _ => exact ⟨a, cap, rfl, by simp⟩
  | list b off cap _ _ c hne hb hO hcap _ _ _ _ => exact ⟨_, cap, rfl, hcap⟩
theorem does_slice_d (h : SimB X G β S a w) {g : Option (Nat × Bool)} (hg : GuardOK g a) {t e : TypeId} {x : Operand} {lo hi mx : Option Operand} (ho : o.op = .slice t x lo hi mx) (hu : P.underlying t = some (.slice e)) {sz : Nat} (hsz : sz = sizeT P e) (hpos : 0 < sz) {xs : List D} {bx : Bx} (hF : FZ S [] bx)
    (hx : RepD (OS β X (appB bx S)) w (a.eval x) (.list sz xs)) {K : Eff → Prop} (hy : sliceK (ρOf S g) sz xs lo hi mx bx K) : ∃ e, K e ∧ Does P X G S a w o e := by
  obtain ⟨k1, _, _⟩ := hF.run h
  obtain ⟨l, hy, hl⟩ := ixK_sound h hg hy
  obtain ⟨r, hy, hr⟩ := ixK_sound h hg hy
  obtain ⟨ad, cap, hv, hcap⟩ := repD_slice hx
  have hs : (sizeOf e).run P w = .ok sz w := by rw [hsz] at hpos ⊢; exact sizeT_run hpos
  cases mx with
  | none =>
    obtain ⟨⟨h0, h1, h2⟩, hK⟩ := hy
    have hb := run_bounds (P := P) (w := w) (a := a) (isSlice := true) (len := xs.length) (cap := cap) hl hr h0 h1 h2 hcap
    rw [hv] at hx
    refine ⟨_, hK, .inl ⟨_, w, ?_, β, k1, slice_data (m := cap) hx h0 h1 h2 (by omega), rfl⟩⟩
    simp [execOp, ho, Instr.sliceAt, Instr.slice, hv, run_underlying hu, hb, hs]
  | some m =>
    simp only at hy
    split at hy
    · exact hy.elim
    rename_i hhi
    split at hy
    · rename_i km mm hm
      obtain ⟨⟨h0, h1, h2, h3⟩, hK⟩ := hy
      subst h3
      have hmv := ρ_sound h hg m
      rw [hm] at hmv
      have hmv := repD_int hmv
      have hr' : ∃ q k, hi = some q ∧ a.eval q = .int k mm := by
        rcases hr with ⟨rfl, rfl⟩ | hr
        · exact absurd rfl hhi
        · exact hr
      have hb := run_bounds3 (P := P) (w := w) (a := a) (isSlice := true) (len := xs.length) (cap := cap) hmv hl hr' h0 h1 (by omega)
      rw [hv] at hx
      have hd := slice_data (m := mm.toNat) hx h0 h1 h2 (Nat.le_refl _)
      refine ⟨_, hK, .inl ⟨_, w, ?_, β, k1, ⟨hd, ?_⟩, rfl⟩⟩
      · simp [execOp, ho, Instr.sliceAt, Instr.slice, hv, run_underlying hu, hb, hs]
      · simp only [capOf]; rw [cut_length h0 h1 h2]
    · exact hy.elim
theorem does_minmax (h : SimB X G β S a w) {x y : Operand} {ts : Array TypeId} {b : Builtin} (ho : o.op = .call ⟨.builtin b, #[x, y], ts⟩) {k k' : IntKind} {m n : Int} (hx : RepD (OS β X S) w (a.eval x) (.int k m)) (hy : RepD (OS β X S) w (a.eval y) (.int k' n)) :
    (b = .min → Does P X G S a w o ⟨.d (.int k (if n < m then n else m)), [], []⟩) ∧ (b = .max → Does P X G S a w o ⟨.d (.int k (if n > m then n else m)), [], []⟩) := by
  have ex := repD_int hx
  have ey := repD_int hy
  refine ⟨fun e => ?_, fun e => ?_⟩
  · subst e
    refine does_pure h (v := .int k (if n < m then n else m)) ?_ (.int _ _) rfl
    simp [execOp, ho, resolve, invoke, builtin, Builtin.min_, Builtin.min2, ex, ey]
  · subst e
    refine does_pure h (v := .int k (if n > m then n else m)) ?_ (.int _ _) rfl
    simp [execOp, ho, resolve, invoke, builtin, Builtin.max_, Builtin.max2, ex, ey]
end
end Go.Abs
