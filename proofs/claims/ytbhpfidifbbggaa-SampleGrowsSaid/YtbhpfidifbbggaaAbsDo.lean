/-
  The abstract machine: each operation does what the model's does. First the operations that write no memory.
-/
import Derived.Test.YtbhpfidifbbggaaAbsRun
import Derived.Laws.StructEq
namespace Go.Abs
open Go.RowKit (Below)

theorem forceN_eq : ∀ (n : Nat) (K : Nat → Prop), forceN n K = K n
  | 0, _ => rfl
  | n + 1, K => by rw [forceN, forceN_eq n]
theorem forceS_eq : ∀ (l : List D) (K : List D → Prop), forceS l K = K l
  | [], _ => rfl
  | x :: r, K => by rw [forceS, forceS_eq r]

section
variable {P : Program} {base : Nat} {O₀ : Nat → Prop} {w₀ : World} {G : Nat → Prop} {β : Nat → Value} {S : AS} {a : Act} {w : World} {o : Oper}

def PostE (base : Nat) (O₀ : Nat → Prop) (w₀ : World) (G : Nat → Prop) (S : AS) (a : Act) (e : Eff) (v : Value) (w' : World) : Prop :=
  ∃ β', SimB base O₀ w₀ G β' (appB e.bx S) a w' ∧ RepA β' (verOf (appB e.bx S)) (OS β' O₀ (appB e.bx S)) w' a.tmps v e.av ∧ e.av.guards = []

/-- The model's operation has the effect e. -/
def Does (P : Program) (base : Nat) (O₀ : Nat → Prop) (w₀ : World) (G : Nat → Prop) (S : AS) (a : Act) (w : World) (o : Oper) (e : Eff) : Prop :=
  (∃ v w', (execOp a.eval o).run P w = .ok (.value v) w' ∧ PostE base O₀ w₀ G S a e v w') ∨
  (∃ w', (execOp a.eval o).run P w = .ok .skip w' ∧ PostE base O₀ w₀ G S a e undef w') ∨
  (∃ f args, (execOp a.eval o).run P w = .ok (.enter f args) w ∧ Calls P f args w fun e' w' => ∃ v, e' = .returned v ∧ PostE base O₀ w₀ G S a e v w')

theorem does_pure (h : SimB base O₀ w₀ G β S a w) {v : Value} {x : AV} (hrun : (execOp a.eval o).run P w = .ok (.value v) w)
    (hr : RepA β (verOf S) (OS β O₀ S) w a.tmps v x) (hg : x.guards = []) : Does P base O₀ w₀ G S a w o ⟨x, []⟩ :=
  .inl ⟨v, w, hrun, β, h, hr, hg⟩

theorem back_sound {O : Nat → Prop} {tm : Array Value} {v : Value} {r : RV} (h : RepR β O S w v r) : RepA β (verOf S) O w tm v (back r) ∧ (back r).guards = [] := by
  cases r with
  | any => exact ⟨trivial, rfl⟩
  | bot => exact h.elim
  | d x => exact ⟨h, rfl⟩
  | lim sz xs => exact ⟨h, rfl⟩
  | cptr cs => exact ⟨h, rfl⟩
  | vptr id n o cs => obtain ⟨_, h2, h3⟩ := h; exact ⟨⟨Nat.le_of_eq h2.symm, fun _ => h3⟩, rfl⟩
  | row id n sz e xs => obtain ⟨_, h2, h3⟩ := h; exact ⟨⟨Nat.le_of_eq h2.symm, fun _ => h3⟩, rfl⟩
  | eptr id n sz e xs i o => obtain ⟨_, h2, h3⟩ := h; exact ⟨⟨Nat.le_of_eq h2.symm, fun _ => h3⟩, rfl⟩
  | tup xs => exact ⟨h, rfl⟩

theorem repD_bool {O : Nat → Prop} {v : Value} {b : Bool} (h : RepD O w v (.bool b)) : v = .bool b := by cases h; rfl
theorem repD_int {O : Nat → Prop} {v : Value} {k : IntKind} {n : Int} (h : RepD O w v (.int k n)) : v = .int k n := by cases h; rfl
theorem repD_str {O : Nat → Prop} {v : Value} {s : ByteArray} (h : RepD O w v (.str s)) : v = .string s := by cases h; rfl
theorem repD_func {O : Nat → Prop} {v : Value} {f : FuncId} (h : RepD O w v (.func f)) : v = .func (.func f) #[] #[] := by cases h; rfl
theorem repD_one {O : Nat → Prop} {v : Value} {x : D} (h : RepD O w v x) (h1 : x.one = true) : v.oneCell' = true := by cases h <;> first | rfl | (simp [D.one] at h1)

theorem does_move (h : SimB base O₀ w₀ G β S a w) {g : Option (Nat × Bool)} (hg : GuardOK g a) {x : Operand} (ho : o.op = .move x ∨ o.op = .assign x) :
    Does P base O₀ w₀ G S a w o ⟨back (ρOf S g x), []⟩ := by
  have hb := back_sound (tm := a.tmps) (ρ_sound h hg x)
  refine does_pure h (v := a.eval x) ?_ hb.1 hb.2
  rcases ho with ho | ho <;> simp [execOp, ho]

theorem does_pick (h : SimB base O₀ w₀ G β S a w) {g : Option (Nat × Bool)} (hg : GuardOK g a) {t : Nat} {x y : Operand} (ho : o.op = .pick (.tmp t) x y) {c b1 b2 : Bool}
    (hc : ρOf S g (.tmp t) = .d (.bool c)) (hx : ρOf S (some (t, true)) x = .d (.bool b1)) (hy : ρOf S (some (t, false)) y = .d (.bool b2)) :
    Does P base O₀ w₀ G S a w o ⟨.d (.bool (bif c then b1 else b2)), []⟩ := by
  have h1 := ρ_sound h hg (.tmp t)
  rw [hc] at h1
  have e1 := repD_bool h1
  have ht : a.tmps[t]? = some (.bool c) := by
    simp only [Act.eval, Array.getD] at e1
    split at e1
    · rename_i hlt; rw [← e1]; simp [hlt]
    · simp [undef] at e1
  have hrun : (execOp a.eval o).run P w = .ok (.value (if c then a.eval x else a.eval y)) w := by simp [execOp, ho, e1, asBool]
  cases c with
  | true =>
    have h2 := ρ_sound h (g := some (t, true)) (fun t' w' e => by cases e; exact ht) x
    rw [hx] at h2
    exact does_pure h (v := a.eval x) (by rw [hrun]; rfl) h2 rfl
  | false =>
    have h2 := ρ_sound h (g := some (t, false)) (fun t' w' e => by cases e; exact ht) y
    rw [hy] at h2
    exact does_pure h (v := a.eval y) (by rw [hrun]; rfl) h2 rfl

theorem does_pickL (h : SimB base O₀ w₀ G β S a w) {g : Option (Nat × Bool)} (hg : GuardOK g a) {t : Nat} {x y : Operand} (ho : o.op = .pick (.tmp t) x y) {c b2 : Bool}
    (hc : ρOf S g (.tmp t) = .d (.bool c)) (hx : ρOf S (some (t, true)) x = .bot) (hy : ρOf S (some (t, false)) y = .d (.bool b2)) :
    Does P base O₀ w₀ G S a w o ⟨.d (.bool b2), []⟩ := by
  have h1 := ρ_sound h hg (.tmp t)
  rw [hc] at h1
  have e1 := repD_bool h1
  have ht : a.tmps[t]? = some (.bool c) := by
    simp only [Act.eval, Array.getD] at e1
    split at e1
    · rename_i hlt; rw [← e1]; simp [hlt]
    · simp [undef] at e1
  have hrun : (execOp a.eval o).run P w = .ok (.value (if c then a.eval x else a.eval y)) w := by simp [execOp, ho, e1, asBool]
  cases c with
  | true =>
    have h2 := ρ_sound h (g := some (t, true)) (fun t' w' e => by cases e; exact ht) x
    rw [hx] at h2
    exact h2.elim
  | false =>
    have h2 := ρ_sound h (g := some (t, false)) (fun t' w' e => by cases e; exact ht) y
    rw [hy] at h2
    exact does_pure h (v := a.eval y) (by rw [hrun]; rfl) h2 rfl
theorem does_pickR (h : SimB base O₀ w₀ G β S a w) {g : Option (Nat × Bool)} (hg : GuardOK g a) {t : Nat} {x y : Operand} (ho : o.op = .pick (.tmp t) x y) {c b1 : Bool}
    (hc : ρOf S g (.tmp t) = .d (.bool c)) (hx : ρOf S (some (t, true)) x = .d (.bool b1)) (hy : ρOf S (some (t, false)) y = .bot) :
    Does P base O₀ w₀ G S a w o ⟨.d (.bool b1), []⟩ := by
  have h1 := ρ_sound h hg (.tmp t)
  rw [hc] at h1
  have e1 := repD_bool h1
  have ht : a.tmps[t]? = some (.bool c) := by
    simp only [Act.eval, Array.getD] at e1
    split at e1
    · rename_i hlt; rw [← e1]; simp [hlt]
    · simp [undef] at e1
  have hrun : (execOp a.eval o).run P w = .ok (.value (if c then a.eval x else a.eval y)) w := by simp [execOp, ho, e1, asBool]
  cases c with
  | true =>
    have h2 := ρ_sound h (g := some (t, true)) (fun t' w' e => by cases e; exact ht) x
    rw [hx] at h2
    exact does_pure h (v := a.eval x) (by rw [hrun]; rfl) h2 rfl
  | false =>
    have h2 := ρ_sound h (g := some (t, false)) (fun t' w' e => by cases e; exact ht) y
    rw [hy] at h2
    exact h2.elim

/-! ### Loads -/
theorem add_none (b off j : Nat) : (⟨b, off, none⟩ : Addr).add j = ⟨b, off + j, none⟩ := by unfold Addr.add; split <;> simp_all

theorem choose_cells {R : Nat → Value → D → Prop} : ∀ (cs : List D) (n : Nat), (∀ (j : Nat) y, cs[j]? = some y → ∃ c, R (n + j) c y) →
    ∃ vs : List Value, vs.length = cs.length ∧ ∀ (j : Nat) v y, vs[j]? = some v → cs[j]? = some y → R (n + j) v y
  | [], n, _ => ⟨[], rfl, fun j v y h _ => by simp at h⟩
  | c :: r, n, h => by
    obtain ⟨v, hv⟩ := h 0 c (by simp)
    obtain ⟨vs, hl, hr⟩ := choose_cells r (n + 1) (fun j y hy => by have := h (j + 1) y (by simpa using hy); rwa [show n + (j + 1) = n + 1 + j by omega] at this)
    refine ⟨v :: vs, by simp [hl], fun j u y hu hy => ?_⟩
    cases j with
    | zero => simp at hu hy; subst hu; subst hy; exact hv
    | succ j => have := hr j u y (by simpa using hu) (by simpa using hy); rwa [show n + (j + 1) = n + 1 + j by omega]

theorem aggT_true {t : TypeId} (h : aggT P t = some true) : (isAgg t).run P w = .ok true w := by
  unfold aggT at h
  unfold isAgg
  split at h <;> simp_all [run_underlying]
theorem aggT_false {t : TypeId} (h : aggT P t = some false) : (isAgg t).run P w = .ok false w := by
  unfold aggT at h
  unfold isAgg
  split at h
  · simp at h
  · simp at h
  · rename_i d hd _ _ hu
    simp only [Sem.run_bind, run_underlying hu, Result.andThen_ok]
    rfl
  · simp at h

theorem ldD_sound {O : Nat → Prop} {t : TypeId} {cs : List D} {b off : Nat} {K : D → Prop} (hy : ldD P t cs K)
    (hc : ∀ (j : Nat) y, cs[j]? = some y → ∃ c, w.cell? ⟨b, off + j, none⟩ = some c ∧ RepD O w c y ∧ y.one = true) :
    ∃ x, K x ∧ ∃ v, (loadVar t ⟨b, off, none⟩).run P w = .ok v w ∧ RepD O w v x := by
  unfold ldD at hy
  split at hy
  · rename_i hagg
    split at hy
    · rename_i i hi
      rw [forceS_eq] at hy
      split at hy
      · rename_i hlen
        obtain ⟨vs, hl, hr⟩ := choose_cells (R := fun j c y => w.cell? ⟨b, off + j, none⟩ = some c ∧ RepD O w c y ∧ y.one = true) (cs.take i.size) 0
          (fun j y hy => by
            rw [Nat.zero_add]
            refine hc j y ?_
            rw [List.getElem?_take] at hy
            split at hy
            · exact hy
            · cases hy)
        have hget : ∀ j, j < vs.length → ∃ y, (cs.take i.size)[j]? = some y := fun j hj => ⟨_, List.getElem?_eq_getElem (by omega)⟩
        refine ⟨_, hy, .agg vs.toArray, ?_, ?_⟩
        · have hld := run_loadCells_list (P := P) w ⟨b, off, none⟩ vs (fun j v hv => by
            have hj : j < vs.length := by
              rcases Nat.lt_or_ge j vs.length with h | h
              · exact h
              · simp [List.getElem?_eq_none h] at hv
            obtain ⟨y, hy⟩ := hget j hj
            have := (hr j v y hv hy).1
            rw [Nat.zero_add] at this
            rw [add_none]; exact this)
          rw [hl, hlen] at hld
          simp [loadVar, aggT_true hagg, sizeOf, typeInfo, hi, hld]
        · refine .agg _ _ (by simpa using hl) ?_ ?_
          · intro x hx
            obtain ⟨j, hj⟩ := List.mem_iff_getElem?.1 hx
            have hjl : j < vs.length := by
              rcases Nat.lt_or_ge j (cs.take i.size).length with h | h
              · omega
              · simp [List.getElem?_eq_none h] at hj
            exact (hr j _ x (List.getElem?_eq_getElem hjl) hj).2.2
          · intro j v x hv hx
            exact (hr j v x (by simpa using hv) hx).2.1
      · exact hy.elim
    · exact hy.elim
  · rename_i hagg
    split at hy
    · rename_i y r
      obtain ⟨c, h1, h2, _⟩ := hc 0 y (by simp)
      refine ⟨y, hy, c, ?_, h2⟩
      rw [Nat.add_zero] at h1
      simp [loadVar, aggT_false hagg, run_load, h1]
    · exact hy.elim
  · exact hy.elim

theorem run_loadAt {t : TypeId} {x : Operand} {b off : Nat} {v : Value} (ho : o.op = .load t x) (hx : a.eval x = .pointer (some ⟨b, off, none⟩))
    (hl : (loadVar t ⟨b, off, none⟩).run P w = .ok v w) : (execOp a.eval o).run P w = .ok (.value v) w := by
  simp [execOp, ho, Instr.loadAt, hx, Instr.sureAddr, hl]

theorem does_load_c (h : SimB base O₀ w₀ G β S a w) {t : TypeId} {x : Operand} (ho : o.op = .load t x) {cs : List D} (hr : RepP (OS β O₀ S) w (a.eval x) cs)
    {K : Eff → Prop} (hy : ldD P t cs fun x => K ⟨.d x, []⟩) : ∃ e, K e ∧ Does P base O₀ w₀ G S a w o e := by
  obtain ⟨b, off, hv, hc⟩ := hr
  obtain ⟨x', hK, v, hl, hx'⟩ := ldD_sound hy (fun j y hy => (hc j y hy).2.2)
  exact ⟨_, hK, does_pure h (run_loadAt ho hv hl) hx' rfl⟩

theorem does_load_v (h : SimB base O₀ w₀ G β S a w) {t : TypeId} {x : Operand} (ho : o.op = .load t x) {id n off : Nat} {cs : List D} (hr : RepR β (OS β O₀ S) S w (a.eval x) (.vptr id n off cs))
    {K : Eff → Prop} (hy : ldD P t (cs.drop off) fun x => K ⟨.d x, []⟩) : ∃ e, K e ∧ Does P base O₀ w₀ G S a w o e := by
  obtain ⟨hb, _, b, hβ, hv⟩ := hr
  have hbx := h.boxes id
  rw [hb] at hbx
  obtain ⟨b', vals, T, h1, _, h3, h4⟩ := hbx
  rw [hβ] at h1
  simp at h1
  subst h1
  obtain ⟨x', hK, v, hl, hx'⟩ := ldD_sound (O := OS β O₀ S) (w := w) (b := b) (off := off) hy (fun j y hy => by
    simp only [List.getElem?_drop] at hy
    have hj : off + j < vals.toList.length := by
      rw [h4.1]
      rcases Nat.lt_or_ge (off + j) cs.length with h | h
      · exact h
      · simp [List.getElem?_eq_none h] at hy
    have hv := h4.2 (off + j) vals.toList[off + j] y (List.getElem?_eq_getElem hj) hy
    exact ⟨vals.toList[off + j], by simp [World.cell?, h3, Array.getElem?_eq_getElem (by simpa using hj)], hv⟩)
  exact ⟨_, hK, does_pure h (run_loadAt ho hv hl) hx' rfl⟩

/-- The cells of an element of a row of the frame's own. -/
theorem row_cell (h : SimB base O₀ w₀ G β S a w) {id sz : Nat} {e : TypeId} {xs : List D} (hb : (sget S id).box = .row sz e xs) {b m cap : Nat} (hβ : β id = .slice (some ⟨b, 0, none⟩) m cap) {i : Nat} {x : D}
    (hx : xs[i]? = some x) {j : Nat} {y : D} (hy : x.cells[j]? = some y) : ∃ c, w.cell? ⟨b, i * sz + j, none⟩ = some c ∧ RepD (OS β O₀ S) w c y ∧ y.one = true := by
  have hbx := h.boxes id
  rw [hb] at hbx
  obtain ⟨h1, h2, vals, h3, h4⟩ := hbx
  have hpos : 0 < xs.length := by cases xs <;> simp at hx ⊢
  rcases h3 with ⟨hlen, ⟨hv, h0⟩ | ⟨g, cap', cur, hv, hbg, hh, hn, hm, hcs, ht⟩⟩ | ⟨h0, _⟩
  · omega
  · rw [hβ] at hv
    simp at hv
    obtain ⟨rfl, rfl, rfl⟩ := hv
    have hf := flat_get xs h2 i x j y hx hy
    have hlt : i * sz + j < vals.length := by
      rw [h4.1]
      rcases Nat.lt_or_ge (i * sz + j) (xs.flatMap D.cells).length with h | h
      · exact h
      · simp [List.getElem?_eq_none h] at hf
    have hu : vals[i * sz + j]? = some vals[i * sz + j] := List.getElem?_eq_getElem hlt
    refine ⟨vals[i * sz + j], ?_, h4.2 _ _ _ hu hf⟩
    rw [← hu, ← ht, List.getElem?_take_of_lt (by rw [← hlen]; exact hlt)]
    simp [World.cell?, hh]
  · omega

theorem does_load_e (h : SimB base O₀ w₀ G β S a w) {t : TypeId} {x : Operand} (ho : o.op = .load t x) {id n sz i off : Nat} {e : TypeId} {xs : List D} (hr : RepR β (OS β O₀ S) S w (a.eval x) (.eptr id n sz e xs i off))
    {K : Eff → Prop} (hy : At xs i fun x => ldD P t (x.cells.drop off) fun x => K ⟨.d x, []⟩) : ∃ e, K e ∧ Does P base O₀ w₀ G S a w o e := by
  obtain ⟨hb, _, b, m, cap, hβ, hv⟩ := hr
  obtain ⟨_, y, hy1, hy⟩ := hy.go
  simp only [Int.toNat_natCast] at hy1
  obtain ⟨x', hK, v, hl, hx'⟩ := ldD_sound (O := OS β O₀ S) (w := w) (b := b) (off := i * sz + off) hy (fun j y' hy' => by
    simp only [List.getElem?_drop] at hy'
    have := row_cell h hb hβ hy1 hy'
    rwa [← Nat.add_assoc] at this)
  exact ⟨_, hK, does_pure h (run_loadAt ho hv hl) hx' rfl⟩

/-! ### Arithmetic -/
theorem ite_false_prop {c p : Prop} [Decidable c] (h : if c then p else False) : c ∧ p := by
  split at h
  · exact ⟨‹_›, h⟩
  · exact h.elim

theorem isBool_under {t : TypeId} (h : isBool P t = true) : P.underlying t = some .bool := by
  unfold isBool at h
  split at h
  · assumption
  · cases h

def D.sv : D → Value
  | .bool b => .bool b
  | .int k n => .int k n
  | .str s => .string s
  | .func f => .func (.func f) #[] #[]
  | _ => undef

theorem binD_sound {op : BinOp} {T U : TypeId} {x y : Operand} (ho : o.op = .binOp op T x y U) {O : Nat → Prop} {p q : D} (hx : RepD O w (a.eval x) p) (hy : RepD O w (a.eval y) q)
    {K : D → Prop} (hb : binD (isBool P T) op p q K) :
    ∃ z, K z ∧ (execOp a.eval o).run P w = .ok (.value z.sv) w ∧ (∀ O' : Nat → Prop, ∀ w' : World, RepD O' w' z.sv z) := by
  cases p <;> cases q <;> simp only [binD] at hb
  case bool.bool b1 b2 =>
    have ex := repD_bool hx
    have ey := repD_bool hy
    split at hb
    · rename_i hB
      have hu := isBool_under hB
      cases op <;> first
        | exact hb.elim
        | exact ⟨_, hb, by simp [D.sv, execOp, ho, ex, ey, eqGuard, binOp, Op.equal, Op.maxDepth, run_equalIn_bool' w 9999 T b1 b2 hu], fun _ _ => .bool _⟩
    · exact hb.elim
  case int.int k m k' n =>
    have ex := repD_int hx
    have ey := repD_int hy
    have sh : op = .shl ∨ op = .shr ∨ (op ≠ .shl ∧ op ≠ .shr) := by cases op <;> simp
    rcases sh with rfl | rfl | ⟨hs1, hs2⟩
    · simp only [shiftD] at hb
      obtain ⟨h0, hb⟩ := hb
      have h0' : ¬ n < 0 := by omega
      exact ⟨_, hb, by simp [D.sv, execOp, ho, ex, ey, eqGuard, binOp, Op.shift, h0'], fun _ _ => .int _ _⟩
    · simp only [shiftD] at hb
      obtain ⟨h0, hb⟩ := hb
      have h0' : ¬ n < 0 := by omega
      exact ⟨_, hb, by simp [D.sv, execOp, ho, ex, ey, eqGuard, binOp, Op.shift, h0'], fun _ _ => .int _ _⟩
    · have hb' : if k = k' then arith op k m n K else False := by cases op <;> first | exact hb | exact absurd rfl hs1 | exact absurd rfl hs2
      clear hb
      obtain ⟨rfl, hb⟩ := ite_false_prop hb'
      clear hb'
      cases op <;> simp only [arith] at hb
      all_goals first
        | exact hb.elim
        | exact ⟨_, hb, by simp [D.sv, execOp, ho, ex, ey, eqGuard, binOp, Op.intArith, Op.intCmp, Op.intBits], fun _ _ => by first | exact .int _ _ | exact .bool _⟩
        | (obtain ⟨h0, hb⟩ := hb
           exact ⟨_, hb, by simp [D.sv, execOp, ho, ex, ey, eqGuard, binOp, Op.intDiv, h0], fun _ _ => .int _ _⟩)
  case str.str s t =>
    have ex := repD_str hx
    have ey := repD_str hy
    cases op <;> first
      | exact hb.elim
      | exact ⟨_, hb, by simp [D.sv, execOp, ho, ex, ey, eqGuard, binOp, Op.stringOp], fun _ _ => .bool _⟩

theorem does_binOp (h : SimB base O₀ w₀ G β S a w) {op : BinOp} {T U : TypeId} {x y : Operand} (ho : o.op = .binOp op T x y U) {p q : D} (hx : RepD (OS β O₀ S) w (a.eval x) p) (hy : RepD (OS β O₀ S) w (a.eval y) q)
    {K : Eff → Prop} (hb : binD (isBool P T) op p q fun x => K ⟨.d x, []⟩) : ∃ e, K e ∧ Does P base O₀ w₀ G S a w o e := by
  obtain ⟨z, hK, hrun, hz⟩ := binD_sound ho hx hy hb
  exact ⟨_, hK, does_pure h hrun (hz _ _) rfl⟩

theorem does_unOp (h : SimB base O₀ w₀ G β S a w) {op : UnOp} {T : TypeId} {x : Operand} (ho : o.op = .unOp op T x) {p : D} (hx : RepD (OS β O₀ S) w (a.eval x) p)
    {K : Eff → Prop} (hb : unD op p fun x => K ⟨.d x, []⟩) : ∃ e, K e ∧ Does P base O₀ w₀ G S a w o e := by
  cases op <;> cases p <;> simp only [unD] at hb
  case not.bool b =>
    have ex := repD_bool hx
    exact ⟨_, hb, does_pure h (v := .bool !b) (by simp [execOp, ho, ex, Op.unary]) (.bool _) rfl⟩
  case neg.int k n =>
    have ex := repD_int hx
    exact ⟨_, hb, does_pure h (v := .int k (k.wrap (0 - n))) (by simp [execOp, ho, ex, Op.unary, Op.intArith]) (.int _ _) rfl⟩

theorem does_convert (h : SimB base O₀ w₀ G β S a w) {s t : TypeId} {x : Operand} (ho : o.op = .convert s t x) {k k' : IntKind} {n : Int} (ht : P.underlying t = some (.int k)) (hs : ∃ d, P.underlying s = some d)
    (hx : RepD (OS β O₀ S) w (a.eval x) (.int k' n)) : Does P base O₀ w₀ G S a w o ⟨.d (.int k (k.wrap n)), []⟩ := by
  have ex := repD_int hx
  obtain ⟨d, hd⟩ := hs
  exact does_pure h (v := .int k (k.wrap n)) (by simp [execOp, ho, ex, convert, run_underlying ht, run_underlying hd, Conv.intToInt]) (.int _ _) rfl

/-! ### Addresses -/
theorem run_fieldAddr {s : TypeId} {x : Operand} {f : Nat} (ho : o.op = .fieldAddr s x f) {fields : Array Field} (hu : P.underlying s = some (.struct fields)) {fd : Field} (hf : fields[f]? = some fd)
    (hz : 0 < sizeT P fd.type) {b off : Nat} (hx : a.eval x = .pointer (some ⟨b, off, none⟩)) : (execOp a.eval o).run P w = .ok (.value (.pointer (some ⟨b, off + fd.offset, none⟩))) w := by
  unfold sizeT at hz
  split at hz
  · rename_i i hi
    have : i.size ≠ 0 := by omega
    simp [execOp, ho, Instr.fieldAt, run_underlying hu, hf, hx, Instr.sureAddr, fieldPlace, sizeOf, typeInfo, hi, this, add_none]
  · omega

theorem does_field (h : SimB base O₀ w₀ G β S a w) {s : TypeId} {x : Operand} {f : Nat} (ho : o.op = .field s x f) {fields : Array Field} (hu : P.underlying s = some (.struct fields)) {fd : Field} (hf : fields[f]? = some fd)
    {cs : List D} (hx : RepD (OS β O₀ S) w (a.eval x) (.agg cs)) {K : Eff → Prop} (hy : ldD P fd.type (cs.drop fd.offset) fun x => K ⟨.d x, []⟩) : ∃ e, K e ∧ Does P base O₀ w₀ G S a w o e := by
  generalize hv : a.eval x = v at hx
  cases hx with
  | agg vs _ hl h1 hr =>
    unfold ldD at hy
    have hget : ∀ (j : Nat) y, (cs.drop fd.offset)[j]? = some y → ∃ c, vs[fd.offset + j]? = some c ∧ RepD (OS β O₀ S) w c y := by
      intro j y hy
      simp only [List.getElem?_drop] at hy
      have hlt : fd.offset + j < vs.size := by
        rw [hl]
        rcases Nat.lt_or_ge (fd.offset + j) cs.length with h | h
        · exact h
        · simp [List.getElem?_eq_none h] at hy
      exact ⟨vs[fd.offset + j], by simp [hlt], hr _ _ _ (by simp [hlt]) hy⟩
    split at hy
    · rename_i hagg
      split at hy
      · rename_i i hi
        rw [forceS_eq] at hy
        obtain ⟨hlen, hy⟩ := ite_false_prop hy
        have hlen' : fd.offset + i.size ≤ cs.length ∨ i.size = 0 := by simp at hlen; omega
        refine ⟨_, hy, does_pure h (v := .agg (vs.extract fd.offset (fd.offset + i.size))) ?_ ?_ rfl⟩
        · simp [execOp, ho, Instr.field, run_underlying hu, hf, hv, asAgg, part, aggT_true hagg, sizeOf, typeInfo, hi]
        · refine .agg _ _ (by simp at hlen ⊢; omega) (fun y hy => h1 y (List.mem_of_mem_drop (List.mem_of_mem_take hy))) (fun j u y hu hy => ?_)
          rw [List.getElem?_take] at hy
          split at hy
          · obtain ⟨c, hc1, hc2⟩ := hget j y hy
            rw [Array.getElem?_extract] at hu
            split at hu
            · rw [hc1] at hu; cases hu; exact hc2
            · cases hu
          · cases hy
      · exact hy.elim
    · rename_i hagg
      split at hy
      · rename_i y r hd
        obtain ⟨c, hc1, hc2⟩ := hget 0 y (by rw [hd]; rfl)
        rw [Nat.add_zero] at hc1
        refine ⟨_, hy, does_pure h (v := c) ?_ hc2 rfl⟩
        simp [execOp, ho, Instr.field, run_underlying hu, hf, hv, asAgg, part, aggT_false hagg, hc1]
      · exact hy.elim
    · exact hy.elim

theorem sizeT_run {t : TypeId} (h : 0 < sizeT P t) : (sizeOf t).run P w = .ok (sizeT P t) w := by
  unfold sizeT at h ⊢
  split at h
  · rename_i i hi
    simp [sizeOf, typeInfo, hi]
  · omega

/-- An element of shared data. -/
theorem does_index_c (h : SimB base O₀ w₀ G β S a w) {t e : TypeId} {x ix : Operand} (ho : o.op = .indexAddr t x ix) (hu : P.underlying t = some (.slice e)) {sz : Nat} (hsz : sz = sizeT P e) (hpos : 0 < sz) {k : IntKind} {i : Int}
    (hi : RepD (OS β O₀ S) w (a.eval ix) (.int k i)) {xs : List D} (hx : RepD (OS β O₀ S) w (a.eval x) (.list sz xs)) {K : Eff → Prop} (hy : At xs i fun x => forceS x.cells fun l => K ⟨.cptr l, []⟩) :
    ∃ e, K e ∧ Does P base O₀ w₀ G S a w o e := by
  have ei := repD_int hi
  obtain ⟨h0, y, hy1, hy⟩ := hy.go
  rw [forceS_eq] at hy
  have hlt : i.toNat < xs.length := by
    rcases Nat.lt_or_ge i.toNat xs.length with h | h
    · exact h
    · simp [List.getElem?_eq_none h] at hy1
  generalize hv : a.eval x = v at hx
  cases hx with
  | emp => simp at hlt
  | list b off cap _ _ c hne hb hO hcap hszs h1 hcell hrep =>
    refine ⟨_, hy, ?_⟩
    have hs : (sizeOf e).run P w = .ok sz w := by rw [hsz] at hpos ⊢; exact sizeT_run hpos
    have hlen : i < (xs.length : Int) := by omega
    refine does_pure h (v := .pointer (some ⟨b, off + i.toNat * sz, none⟩)) ?_ ⟨b, off + i.toNat * sz, rfl, fun j z hz => ⟨hb, hO, c i.toNat j, hcell _ _ _ _ hy1 hz, hrep _ _ _ _ hy1 hz, h1 y (List.mem_of_getElem? hy1) z (List.mem_of_getElem? hz)⟩⟩ rfl
    simp [execOp, ho, Instr.indexAt, ei, asIntOf, hv, run_underlying hu, h0, hlen, hs, add_none]

theorem does_index_row (h : SimB base O₀ w₀ G β S a w) {t e : TypeId} {x ix : Operand} (ho : o.op = .indexAddr t x ix) (hu : P.underlying t = some (.slice e)) {k : IntKind} {i : Int}
    (hi : RepD (OS β O₀ S) w (a.eval ix) (.int k i)) {id n sz : Nat} {e' : TypeId} {xs : List D} (hsz : sz = sizeT P e) (hx : RepR β (OS β O₀ S) S w (a.eval x) (.row id n sz e' xs)) (h0 : 0 ≤ i) (hlt : i.toNat < xs.length) :
    Does P base O₀ w₀ G S a w o ⟨.eptr id n sz i.toNat 0, []⟩ := by
  have ei := repD_int hi
  obtain ⟨hb, hn, hv⟩ := hx
  have hbx := h.boxes id
  rw [hb] at hbx
  obtain ⟨hpos, _, vals, hr, _⟩ := hbx
  rcases hr with ⟨hlen, ⟨hv', h0'⟩ | ⟨g, cap', cur, hv', _⟩⟩ | ⟨h0', _⟩
  · omega
  · have hs : (sizeOf e).run P w = .ok sz w := by rw [hsz] at hpos ⊢; exact sizeT_run hpos
    have hlen : i < (xs.length : Int) := by omega
    refine does_pure h (v := .pointer (some ⟨g, i.toNat * sz + 0, none⟩)) ?_ ⟨Nat.le_of_eq hn.symm, fun _ => ⟨g, _, _, hv', rfl⟩⟩ rfl
    simp [execOp, ho, Instr.indexAt, ei, asIntOf, hv, hv', run_underlying hu, h0, hlen, hs, add_none]
  · omega

theorem does_len (h : SimB base O₀ w₀ G β S a w) {x : Operand} {t : TypeId} (ho : o.op = .call ⟨.builtin .len, #[x], #[t]⟩) {n : Nat}
    (hl : ∃ ad cap, a.eval x = .slice ad n cap) {e : TypeId} (hu : P.underlying t = some (.slice e)) :
    Does P base O₀ w₀ G S a w o ⟨.d (.int .i64 n), []⟩ := by
  obtain ⟨ad, cap, hl⟩ := hl
  refine does_pure h (v := .int .i64 n) ?_ (.int _ _) rfl
  simp [execOp, ho, resolve, invoke, builtin, Builtin.len_, hl, run_underlying hu, goInt]
theorem does_lens (h : SimB base O₀ w₀ G β S a w) {x : Operand} {t : TypeId} (ho : o.op = .call ⟨.builtin .len, #[x], #[t]⟩) {s : ByteArray}
    (hl : a.eval x = .string s) (hu : P.underlying t = some .string) : Does P base O₀ w₀ G S a w o ⟨.d (.int .i64 s.size), []⟩ := by
  refine does_pure h (v := .int .i64 s.size) ?_ (.int _ _) rfl
  simp [execOp, ho, resolve, invoke, builtin, Builtin.len_, hl, run_underlying hu, goInt]
theorem does_extract (h : SimB base O₀ w₀ G β S a w) {x : Operand} {i : Nat} (ho : o.op = .extract x i) {xs : List D} (hx : RepR β (OS β O₀ S) S w (a.eval x) (.tup xs)) {y : D} (hy : xs[i]? = some y) :
    Does P base O₀ w₀ G S a w o ⟨.d y, []⟩ := by
  obtain ⟨vs, hv, hl, hr⟩ := hx
  have hlt : i < vs.size := by
    rw [hl]
    rcases Nat.lt_or_ge i xs.length with h | h
    · exact h
    · simp [List.getElem?_eq_none h] at hy
  refine does_pure h (v := vs[i]) ?_ (hr i _ y (by simp [hlt]) hy) rfl
  simp [execOp, ho, Instr.extract, hv, hlt]
theorem does_nilCheck (h : SimB base O₀ w₀ G β S a w) {x : Operand} (ho : o.op = .nilCheck x) {ad : Addr} (hx : a.eval x = .pointer (some ad)) {v : AV} (hr : RepA β (verOf S) (OS β O₀ S) w a.tmps (a.eval x) v) (hg : v.guards = []) :
    Does P base O₀ w₀ G S a w o ⟨v, []⟩ := by
  refine does_pure h (v := a.eval x) ?_ hr hg
  simp [execOp, ho, hx]
theorem RepP.drop {O : Nat → Prop} {b off : Nat} {cs : List D} (h : RepP O w (.pointer (some ⟨b, off, none⟩)) cs) (n : Nat) : RepP O w (.pointer (some ⟨b, off + n, none⟩)) (cs.drop n) := by
  obtain ⟨b', off', h1, h2⟩ := h
  simp at h1
  obtain ⟨rfl, rfl⟩ := h1
  refine ⟨b, off + n, rfl, fun j y hy => ?_⟩
  simp only [List.getElem?_drop] at hy
  have := h2 (n + j) y hy
  rwa [← Nat.add_assoc] at this
theorem does_fieldAddr (h : SimB base O₀ w₀ G β S a w) {g : Option (Nat × Bool)} (hgd : GuardOK g a) {s : TypeId} {x : Operand} {f : Nat} (ho : o.op = .fieldAddr s x f) {fields : Array Field} (hu : P.underlying s = some (.struct fields)) {fd : Field} (hf : fields[f]? = some fd)
    (hz : 0 < sizeT P fd.type) {K : Eff → Prop} (hy : match ρOf S g x with
          | .bot => K ⟨.bot, []⟩
          | .vptr id n o _ => K ⟨.ptr id n (o + fd.offset), []⟩
          | .cptr cs => forceS (cs.drop fd.offset) fun l => K ⟨.cptr l, []⟩
          | .eptr id n sz _ _ i o => K ⟨.eptr id n sz i (o + fd.offset), []⟩
          | _ => False) : ∃ e, K e ∧ Does P base O₀ w₀ G S a w o e := by
  have hr := ρ_sound h hgd x
  split at hy
  · rename_i hx; rw [hx] at hr; exact hr.elim
  · rename_i id n off cs hx
    rw [hx] at hr
    obtain ⟨_, h2, b, h3, h4⟩ := hr
    exact ⟨_, hy, does_pure h (run_fieldAddr ho hu hf hz h4) ⟨Nat.le_of_eq h2.symm, fun _ => ⟨b, h3, rfl⟩⟩ rfl⟩
  · rename_i cs hx
    rw [hx] at hr
    rw [forceS_eq] at hy
    have hr' := hr
    obtain ⟨b, off, h1, _⟩ := hr
    refine ⟨_, hy, does_pure h (run_fieldAddr ho hu hf hz h1) ?_ rfl⟩
    exact RepP.drop (by rw [← h1]; exact hr') _
  · rename_i id n sz e xs i off hx
    rw [hx] at hr
    obtain ⟨_, h2, b, m, cap, h3, h4⟩ := hr
    exact ⟨_, hy, does_pure h (run_fieldAddr ho hu hf hz h4) ⟨Nat.le_of_eq h2.symm, fun _ => ⟨b, m, cap, h3, by rw [Nat.add_assoc]⟩⟩ rfl⟩
  · exact hy.elim
end
end Go.Abs
