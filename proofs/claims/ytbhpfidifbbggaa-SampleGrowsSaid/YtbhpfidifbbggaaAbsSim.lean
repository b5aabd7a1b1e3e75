/-
  The abstract machine and the memory: the relation between them, and what each change of the one asks of the other.
-/
import Derived.Test.YtbhpfidifbbggaaAbsOp
namespace Go.Abs
open Go.RowKit (Below)

section mono
variable {O O' : Nat → Prop} {w w' : World}

/-- What has been kept: the blocks that are looked at. -/
structure Kept (O O' : Nat → Prop) (w w' : World) : Prop where
  size : w.heap.size ≤ w'.heap.size
  own : ∀ b, b < w.heap.size → O' b → O b
  same : ∀ b, b < w.heap.size → ¬ O b → w'.heap[b]? = w.heap[b]?

theorem Kept.cell (k : Kept O O' w w') {b o : Nat} (hb : b < w.heap.size) (hO : ¬ O b) : w'.cell? ⟨b, o, none⟩ = w.cell? ⟨b, o, none⟩ :=
  World.cell?_of_block (k.same b hb hO)

theorem RepD.mono (k : Kept O O' w w') {v : Value} {x : D} (h : RepD O w v x) : RepD O' w' v x := by
  induction h with
  | bool b => exact .bool b
  | int kd n => exact .int kd n
  | str s => exact .str s
  | func f => exact .func f
  | agg vs xs hl h1 h ih => exact .agg vs xs hl h1 ih
  | emp a cap sz => exact .emp a cap sz
  | list b off cap sz xs c hne hb hO hcap hsz h1 hcell h ih =>
    exact .list b off cap sz xs c hne (Nat.lt_of_lt_of_le hb k.size) (fun h' => hO (k.own b hb h')) hcap hsz h1
      (fun i x j y hx hy => by rw [← hcell i x j y hx hy]; exact k.cell hb hO) ih

theorem RepL.mono (k : Kept O O' w w') {vs : List Value} {ys : List D} (h : RepL O w vs ys) : RepL O' w' vs ys :=
  ⟨h.1, fun j v y hv hy => ⟨(h.2 j v y hv hy).1.mono k, (h.2 j v y hv hy).2⟩⟩

theorem RepP.mono (k : Kept O O' w w') {v : Value} {cs : List D} (h : RepP O w v cs) : RepP O' w' v cs := by
  obtain ⟨b, off, hv, h⟩ := h
  refine ⟨b, off, hv, fun j y hy => ?_⟩
  obtain ⟨hb, hO, c, hc, hr, h1⟩ := h j y hy
  exact ⟨Nat.lt_of_lt_of_le hb k.size, fun h' => hO (k.own b hb h'), c, by rw [← hc]; exact k.cell hb hO, hr.mono k, h1⟩

theorem RepC.mono (k : Kept O O' w w') {v : Value} {x : AV} (h : RepC O w v x) : RepC O' w' v x := by
  cases x <;> simp only [RepC] at h ⊢
  case d x => exact h.mono k
  case lim sz xs => exact ⟨h.1.mono k, h.2⟩
  case cptr cs => exact h.mono k
  case tup xs =>
    obtain ⟨vs, hv, hl, h⟩ := h
    exact ⟨vs, hv, hl, fun i u x hu hx => (h i u x hu hx).mono k⟩

def AV.guards : AV → List Nat
  | .under t _ x => t :: x.guards
  | _ => []

theorem RepA.mono (k : Kept O O' w w') {β β' : Nat → Value} {n n' : Nat → Nat} {tm tm' : Array Value} {v : Value}
    (hn : ∀ i, n i < n' i ∨ (n' i = n i ∧ β' i = β i)) : ∀ {x : AV}, (∀ u ∈ x.guards, tm'[u]? = tm[u]?) → RepA β n O w tm v x → RepA β' n' O' w' tm' v x := by
  intro x
  induction x with
  | any => intro _ h; exact h
  | bot => intro _ h; exact h
  | d x => intro _ h; exact RepD.mono k h
  | lim sz xs => intro _ h; exact ⟨RepD.mono k h.1, h.2⟩
  | cptr cs => intro _ h; exact RepP.mono k h
  | ptr id m o =>
    intro _ h
    simp only [RepA] at h ⊢
    rcases hn id with h1 | ⟨h1, h2⟩
    · exact ⟨by omega, fun e => by omega⟩
    · rw [h1, h2]; exact h
  | sl id m =>
    intro _ h
    simp only [RepA] at h ⊢
    rcases hn id with h1 | ⟨h1, h2⟩
    · exact ⟨by omega, fun e => by omega⟩
    · rw [h1, h2]; exact h
  | eptr id m sz i o =>
    intro _ h
    simp only [RepA] at h ⊢
    rcases hn id with h1 | ⟨h1, h2⟩
    · exact ⟨by omega, fun e => by omega⟩
    · rw [h1, h2]; exact h
  | tup xs =>
    intro _ h
    obtain ⟨vs, hv, hl, h⟩ := h
    exact ⟨vs, hv, hl, fun i u x hu hx => (h i u x hu hx).mono k⟩
  | own sz e xs => intro _ h; exact h
  | under t want x ih =>
    intro hg h ht
    refine ih (fun u hu => hg u (by simp [AV.guards, hu])) (h ?_)
    rw [← hg t (by simp [AV.guards])]
    exact ht
end mono

/-! ### The state's parts -/
theorem sget_setAV : ∀ (S : AS) (d : Nat) (v : AV) (i : Nat), sget (setAV S d v) i = if i = d ∧ d < S.length then ⟨v, (sget S d).box, (sget S d).ver⟩ else sget S i
  | [], d, v, i => by simp [setAV, sget]
  | s :: r, 0, v, 0 => by simp [setAV, sget]
  | s :: r, 0, v, i + 1 => by simp [setAV, sget]
  | s :: r, d + 1, v, 0 => by simp [setAV, sget]
  | s :: r, d + 1, v, i + 1 => by simp [setAV, sget, sget_setAV r d v i]
theorem sget_setBox : ∀ (S : AS) (d : Nat) (b : Body) (n i : Nat), sget (setBox S d b n) i = if i = d ∧ d < S.length then ⟨(sget S d).av, b, n⟩ else sget S i
  | [], d, b, n, i => by simp [setBox, sget]
  | s :: r, 0, b, n, 0 => by simp [setBox, sget]
  | s :: r, 0, b, n, i + 1 => by simp [setBox, sget]
  | s :: r, d + 1, b, n, 0 => by simp [setBox, sget]
  | s :: r, d + 1, b, n, i + 1 => by simp [setBox, sget, sget_setBox r d b n i]
theorem length_setAV : ∀ (S : AS) (d : Nat) (v : AV), (setAV S d v).length = S.length
  | [], _, _ => rfl
  | _ :: _, 0, _ => rfl
  | _ :: r, d + 1, v => by simp [setAV, length_setAV r d v]
theorem length_setBox : ∀ (S : AS) (d : Nat) (b : Body) (n : Nat), (setBox S d b n).length = S.length
  | [], _, _, _ => rfl
  | _ :: _, 0, _, _ => rfl
  | _ :: r, d + 1, b, n => by simp [setBox, length_setBox r d b n]
theorem sget_ge : ∀ (S : AS) (i : Nat), S.length ≤ i → sget S i = sl0
  | [], _, _ => rfl
  | _ :: r, 0, h => by simp at h
  | _ :: r, i + 1, h => by simp only [sget]; exact sget_ge r i (by simpa using h)

def verOf (S : AS) (i : Nat) : Nat := (sget S i).ver
/-- What the frame (and whoever called it) owns. -/
def OS (β : Nat → Value) (O₀ : Nat → Prop) (S : AS) (b : Nat) : Prop := O₀ b ∨ ∃ i, (sget S i).box.owned = true ∧ blkOf (β i) = some b

/-- THE RELATION. -/
structure SimB (base : Nat) (O₀ : Nat → Prop) (w₀ : World) (G : Nat → Prop) (β : Nat → Value) (S : AS) (a : Act) (w : World) : Prop where
  len : a.tmps.size = S.length
  df : a.defers = []
  below : Below base w₀ w
  hbase : base ≤ w.heap.size
  o₀ : ∀ b, O₀ b → b < base
  slots : ∀ (t : Nat) v, a.tmps[t]? = some v → RepA β (verOf S) (OS β O₀ S) w a.tmps v (sget S t).av
  boxes : ∀ i, RepBox β (OS β O₀ S) w base i (sget S i).box
  inj : ∀ i j b, (sget S i).box.owned = true → (sget S j).box.owned = true → blkOf (β i) = some b → blkOf (β j) = some b → i = j
  gds : ∀ t, ∀ u ∈ (sget S t).av.guards, G u

theorem Kept.refl (O : Nat → Prop) (w : World) : Kept O O w w := ⟨Nat.le_refl _, fun _ _ h => h, fun _ _ _ => rfl⟩
theorem Kept.world {O : Nat → Prop} {w w' : World} (h : Below w.heap.size w w') : Kept O O w w' := ⟨h.size, fun _ _ h => h, fun b hb _ => h.block b hb⟩

section sim
variable {base : Nat} {O₀ : Nat → Prop} {w₀ : World} {G : Nat → Prop} {β : Nat → Value} {S : AS} {a : Act} {w : World}

theorem RowRep.mono {w w' : World} {base : Nat} {e : TypeId} {sz n : Nat} {v : Value} {vals : List Value} (h : RowRep w base e sz v n vals)
    (hk : ∀ b, b < w.heap.size → blkOf v = some b → w'.heap[b]? = w.heap[b]?) : RowRep w' base e sz v n vals := by
  rcases h with ⟨hl, h⟩ | h
  · rcases h with h | ⟨g, cap, cur, hv, hb, hh, hn, hm, hs, ht⟩
    · exact .inl ⟨hl, .inl h⟩
    · by_cases hc : cap = 0
      · subst hc
        have hn0 : n = 0 := by omega
        subst hn0
        exact .inr ⟨rfl, by simpa using hl, _, hv⟩
      · have hlt : g < w.heap.size := by
          rcases Nat.lt_or_ge g w.heap.size with h' | h'
          · exact h'
          · simp [Array.getElem?_eq_none h'] at hh
        exact .inl ⟨hl, .inr ⟨g, cap, cur, hv, hb, by rw [hk g hlt (by rw [hv]; simp [blkOf, hc])]; exact hh, hn, hm, hs, ht⟩⟩
  · exact .inr h

/-- The block that an owned box lies in. -/
theorem SimB.blk (h : SimB base O₀ w₀ G β S a w) {i b : Nat} (ho : (sget S i).box.owned = true) (hb : blkOf (β i) = some b) : base ≤ b ∧ b < w.heap.size := by
  have hx := h.boxes i
  generalize (sget S i).box = B at hx ho
  cases B <;> simp [Body.owned] at ho
  case var cs =>
    obtain ⟨b', vals, T, hβ, h1, h2, _⟩ := hx
    rw [hβ] at hb
    simp [blkOf] at hb
    subst hb
    refine ⟨h1, ?_⟩
    rcases Nat.lt_or_ge b' w.heap.size with h' | h'
    · exact h'
    · simp [Array.getElem?_eq_none h'] at h2
  case row sz e xs =>
    obtain ⟨_, _, vals, hr, _⟩ := hx
    rcases hr with ⟨_, ⟨hv, _⟩ | ⟨g, cap, cur, hv, hbg, hh, _⟩⟩ | ⟨_, _, ad, hv⟩
    · rw [hv] at hb; simp [blkOf] at hb
    · rw [hv] at hb
      simp [blkOf] at hb
      obtain ⟨_, rfl⟩ := hb
      refine ⟨hbg, ?_⟩
      rcases Nat.lt_or_ge g w.heap.size with h' | h'
      · exact h'
      · simp [Array.getElem?_eq_none h'] at hh
    · rw [hv] at hb; simp [blkOf] at hb

theorem RepBox.mono {O O' : Nat → Prop} {w w' : World} (k : Kept O O' w w') {β β' : Nat → Value} {base id : Nat} {B : Body} (hβ : β' id = β id)
    (hk : ∀ b, b < w.heap.size → B.owned = true → blkOf (β id) = some b → w'.heap[b]? = w.heap[b]?) (h : RepBox β O w base id B) : RepBox β' O' w' base id B := by
  cases B with
  | none => exact h
  | var cs =>
    obtain ⟨b, vals, T, h1, h2, h3, h4⟩ := h
    have hlt : b < w.heap.size := by
      rcases Nat.lt_or_ge b w.heap.size with h' | h'
      · exact h'
      · simp [Array.getElem?_eq_none h'] at h3
    exact ⟨b, vals, T, by rw [hβ]; exact h1, h2, by rw [hk b hlt rfl (by rw [h1]; rfl)]; exact h3, h4.mono k⟩
  | row sz e xs =>
    obtain ⟨h1, h2, vals, h3, h4⟩ := h
    exact ⟨h1, h2, vals, by rw [hβ]; exact h3.mono fun b hb hv => hk b hb rfl hv, h4.mono k⟩
  | fvar cs => exact ⟨by rw [hβ]; exact RepP.mono k h.1, by rw [hβ]; exact h.2⟩
  | frow sz xs => simp only [RepBox]; rw [hβ]; exact RepD.mono k h

/-- The world has grown: new blocks alone. -/
theorem SimB.world (h : SimB base O₀ w₀ G β S a w) {w' : World} (hw : Below w.heap.size w w') : SimB base O₀ w₀ G β S a w' where
  len := h.len
  df := h.df
  below := h.below.trans (hw.mono h.hbase)
  hbase := Nat.le_trans h.hbase hw.size
  o₀ := h.o₀
  slots := fun t v hv => (h.slots t v hv).mono (Kept.world hw) (fun _ => .inr ⟨rfl, rfl⟩) (fun _ _ => rfl)
  boxes := fun i => (h.boxes i).mono (Kept.world hw) rfl (fun b hb _ _ => hw.block b hb)
  inj := h.inj
  gds := h.gds

theorem OS_setAV (d : Nat) (v : AV) : OS β O₀ (setAV S d v) = OS β O₀ S := by
  funext b
  simp only [OS, sget_setAV]
  congr 1
  apply propext
  constructor
  · rintro ⟨i, h1, h2⟩
    refine ⟨i, ?_, h2⟩
    split at h1
    · rename_i hh; rw [hh.1]; exact h1
    · exact h1
  · rintro ⟨i, h1, h2⟩
    refine ⟨i, ?_, h2⟩
    split
    · rename_i hh; rw [hh.1] at h1; exact h1
    · exact h1
theorem verOf_setAV (d : Nat) (v : AV) : verOf (setAV S d v) = verOf S := by
  funext i
  simp only [verOf, sget_setAV]
  split
  · rename_i hh; rw [hh.1]
  · rfl
theorem box_setAV (d : Nat) (v : AV) (i : Nat) : (sget (setAV S d v) i).box = (sget S i).box := by
  rw [sget_setAV]
  split
  · rename_i hh; rw [hh.1]
  · rfl

/-- A slot is written. -/
theorem SimB.put (h : SimB base O₀ w₀ G β S a w) {d : Nat} {v : Value} {x : AV} (hd : ¬ G d) (hr : RepA β (verOf S) (OS β O₀ S) w a.tmps v x) (hg : ∀ u ∈ x.guards, G u) :
    SimB base O₀ w₀ G β (setAV S d x) (a.put (some d) v) w where
  len := by simp [Act.put, length_setAV, h.len]
  df := h.df
  below := h.below
  hbase := h.hbase
  o₀ := h.o₀
  slots := by
    intro t u hu
    rw [OS_setAV, verOf_setAV, sget_setAV]
    have keep : ∀ (y : AV), (∀ u ∈ y.guards, G u) → ∀ z ∈ y.guards, (a.put (some d) v).tmps[z]? = a.tmps[z]? := by
      intro y hy z hz
      have : d ≠ z := fun e => hd (e ▸ hy z hz)
      simp [Act.put, Array.getElem?_setIfInBounds_ne this]
    simp only [Act.put, Array.getElem?_setIfInBounds] at hu
    split at hu
    · rename_i e
      subst e
      split at hu
      · rename_i hlt
        cases hu
        rw [if_pos ⟨rfl, by rw [← h.len]; exact hlt⟩]
        exact hr.mono (Kept.refl _ _) (fun _ => .inr ⟨rfl, rfl⟩) (keep x hg)
      · cases hu
    · rename_i e
      rw [if_neg (fun hh => e hh.1.symm)]
      exact (h.slots t u hu).mono (Kept.refl _ _) (fun _ => .inr ⟨rfl, rfl⟩) (keep _ (h.gds t))
  boxes := by intro i; rw [OS_setAV, box_setAV]; exact h.boxes i
  inj := by intro i j b; rw [box_setAV, box_setAV]; exact h.inj i j b
  gds := by
    intro t u hu
    rw [sget_setAV] at hu
    split at hu
    · exact hg u hu
    · exact h.gds t u hu

def upd (β : Nat → Value) (id : Nat) (v : Value) (i : Nat) : Value := if i = id then v else β i

/-- A box is made, written, given up. -/
theorem SimB.rebox (h : SimB base O₀ w₀ G β S a w) {id : Nat} {B : Body} {v : Value} {n : Nat} {w' : World} (hid : id < S.length)
    (hver : (sget S id).ver < n ∨ (n = (sget S id).ver ∧ v = β id)) (hs : w.heap.size ≤ w'.heap.size) (hb : Below base w w')
    (hkeep : ∀ b, b < w.heap.size → ((sget S id).box.owned = true → blkOf (β id) ≠ some b) → w'.heap[b]? = w.heap[b]?)
    (hown : B.owned = true → ∀ b, blkOf v = some b → (blkOf (β id) = some b ∧ (sget S id).box.owned = true) ∨ w.heap.size ≤ b)
    (hbox : Kept (OS β O₀ S) (OS (upd β id v) O₀ (setBox S id B n)) w w' → RepBox (upd β id v) (OS (upd β id v) O₀ (setBox S id B n)) w' base id B) :
    SimB base O₀ w₀ G (upd β id v) (setBox S id B n) a w' := by
  have hget : ∀ i, sget (setBox S id B n) i = if i = id then ⟨(sget S id).av, B, n⟩ else sget S i := by
    intro i; rw [sget_setBox]; simp [hid]
  have hO : ∀ b, b < w.heap.size → OS (upd β id v) O₀ (setBox S id B n) b → OS β O₀ S b := by
    intro b hb h'
    rcases h' with h' | ⟨i, h1, h2⟩
    · exact .inl h'
    · rw [hget] at h1
      by_cases hi : i = id
      · subst hi
        simp [upd] at h1 h2
        rcases hown h1 b h2 with ⟨h3, h4⟩ | h3
        · exact .inr ⟨i, h4, h3⟩
        · omega
      · simp [upd, hi] at h1 h2
        exact .inr ⟨i, h1, h2⟩
  have hk : Kept (OS β O₀ S) (OS (upd β id v) O₀ (setBox S id B n)) w w' :=
    ⟨hs, hO, fun b hb hno => hkeep b hb fun ho hbk => hno (.inr ⟨id, ho, hbk⟩)⟩
  refine ⟨by rw [length_setBox]; exact h.len, h.df, h.below.trans hb, Nat.le_trans h.hbase hs, h.o₀, ?_, ?_, ?_, ?_⟩
  · intro t u hu
    have hav : (sget (setBox S id B n) t).av = (sget S t).av := by rw [hget]; split <;> simp_all
    rw [hav]
    refine (h.slots t u hu).mono hk (fun i => ?_) (fun _ _ => rfl)
    simp only [verOf, hget, upd]
    by_cases hi : i = id
    · subst hi
      simp only [if_true]
      rcases hver with h1 | ⟨h1, h2⟩
      · exact .inl h1
      · exact .inr ⟨h1, h2⟩
    · simp [hi]
  · intro i
    rw [hget]
    by_cases hi : i = id
    · subst hi
      simp only [if_true]
      exact hbox hk
    · simp only [hi, if_false]
      refine (h.boxes i).mono hk (by simp [upd, hi]) fun b hb ho hbk => hkeep b hb fun ho' hbk' => hi (h.inj i id b ho ho' hbk hbk')
  · intro i j b hi hj hbi hbj
    rw [hget] at hi hj
    by_cases ei : i = id
    · by_cases ej : j = id
      · rw [ei, ej]
      · subst ei
        simp [upd, ej] at hi hj hbi hbj
        rcases hown hi b hbi with ⟨h3, h4⟩ | h3
        · exact h.inj _ _ b h4 hj h3 hbj
        · have := (h.blk hj hbj).2; omega
    · by_cases ej : j = id
      · subst ej
        simp [upd, ei] at hi hj hbi hbj
        rcases hown hj b hbj with ⟨h3, h4⟩ | h3
        · exact h.inj _ _ b hi h4 hbi h3
        · have := (h.blk hi hbi).2; omega
      · simp [upd, ei, ej] at hi hj hbi hbj
        exact h.inj i j b hi hj hbi hbj
  · intro t u hu
    have hav : (sget (setBox S id B n) t).av = (sget S t).av := by rw [hget]; split <;> simp_all
    rw [hav] at hu
    exact h.gds t u hu

theorem upd_same (β : Nat → Value) (id : Nat) : upd β id (β id) = β := by funext i; simp only [upd]; split <;> simp_all
end sim
end Go.Abs
