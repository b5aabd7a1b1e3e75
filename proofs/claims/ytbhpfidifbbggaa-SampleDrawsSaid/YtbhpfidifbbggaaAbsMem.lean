/-
  The abstract machine: the operations that make or write memory.
-/
import Derived.Test.YtbhpfidifbbggaaAbsDo
import Derived.Laws.CopyOwn
namespace Go.Abs
open Go.RowKit (Below)

section lists
variable {O : Nat → Prop} {w : World}
theorem RepL.append {vs us : List Value} {xs ys : List D} (h : RepL O w vs xs) (k : RepL O w us ys) : RepL O w (vs ++ us) (xs ++ ys) := by
  refine ⟨by simp [h.1, k.1], fun j v y hv hy => ?_⟩
  rcases Nat.lt_or_ge j vs.length with hj | hj
  · rw [List.getElem?_append_left hj] at hv
    rw [List.getElem?_append_left (by rw [← h.1]; exact hj)] at hy
    exact h.2 j v y hv hy
  · rw [List.getElem?_append_right hj] at hv
    rw [List.getElem?_append_right (by rw [← h.1]; exact hj), ← h.1] at hy
    exact k.2 _ v y hv hy
theorem RepL.take {vs : List Value} {xs : List D} (h : RepL O w vs xs) (n : Nat) : RepL O w (vs.take n) (xs.take n) := by
  refine ⟨by simp [h.1], fun j v y hv hy => ?_⟩
  rw [List.getElem?_take] at hv hy
  split at hv
  · rename_i hj; rw [if_pos hj] at hy; exact h.2 j v y hv hy
  · cases hv
theorem RepL.drop {vs : List Value} {xs : List D} (h : RepL O w vs xs) (n : Nat) : RepL O w (vs.drop n) (xs.drop n) := by
  refine ⟨by simp [h.1], fun j v y hv hy => ?_⟩
  rw [List.getElem?_drop] at hv hy
  exact h.2 _ v y hv hy
theorem RepL.nil : RepL O w [] [] := ⟨rfl, fun j v y h _ => by simp at h⟩
theorem RepL.one {v : Value} {x : D} (h : RepD O w v x) (h1 : x.one = true) : RepL O w [v] [x] := by
  refine ⟨rfl, fun j u y hu hy => ?_⟩
  cases j with
  | zero => simp at hu hy; subst hu; subst hy; exact ⟨h, h1⟩
  | succ j => simp at hu
theorem repD_cells {v : Value} {x : D} (h : RepD O w v x) : RepL O w v.cells.toList x.cells := by
  cases h with
  | agg vs xs hl h1 h =>
    refine ⟨by simpa [Value.cells, D.cells] using hl, fun j v y hv hy => ?_⟩
    simp only [Value.cells, Array.getElem?_toList] at hv
    simp only [D.cells] at hy
    exact ⟨h j v y hv hy, h1 y (List.mem_of_getElem? hy)⟩
  | bool b => exact RepL.one (.bool b) rfl
  | int k n => exact RepL.one (.int k n) rfl
  | str s => exact RepL.one (.str s) rfl
  | func f => exact RepL.one (.func f) rfl
  | emp a cap sz => exact RepL.one (.emp a cap sz) rfl
  | list b off cap sz xs c hne hb hO hcap hsz h1 hcell h => exact RepL.one (.list b off cap sz xs c hne hb hO hcap hsz h1 hcell h) rfl
theorem RepL.oneCell {vs : List Value} {xs : List D} (h : RepL O w vs xs) : ∀ v ∈ vs, v.oneCell' = true := by
  intro v hv
  obtain ⟨j, hj⟩ := List.mem_iff_getElem?.1 hv
  have hlt : j < xs.length := by
    rw [← h.1]
    rcases Nat.lt_or_ge j vs.length with h | h
    · exact h
    · simp [List.getElem?_eq_none h] at hj
  have := h.2 j v xs[j] hj (List.getElem?_eq_getElem hlt)
  exact repD_one this.1 this.2
theorem splice_eq : ∀ (cs : List D) (o : Nat) (ys : List D), o ≤ cs.length → splice cs o ys = cs.take o ++ ys ++ cs.drop (o + ys.length)
  | cs, 0, ys, _ => by simp [splice]
  | [], o + 1, ys, h => by simp at h
  | c :: cs, o + 1, ys, h => by
    rw [splice, splice_eq cs o ys (by simpa using h)]
    simp [show o + 1 + ys.length = (o + ys.length) + 1 by omega]
theorem RepL.splice {vs us : List Value} {xs ys : List D} (h : RepL O w vs xs) (k : RepL O w us ys) {o : Nat} (ho : o ≤ xs.length) :
    RepL O w (vs.take o ++ us ++ vs.drop (o + us.length)) (splice xs o ys) := by
  rw [splice_eq _ _ _ ho, k.1]
  exact ((h.take o).append k).append (h.drop _)
end lists

section
variable {P : Program} {base : Nat} {O₀ : Nat → Prop} {w₀ : World} {G : Nat → Prop} {β : Nat → Value} {S : AS} {a : Act} {w : World} {o : Oper}

theorem below_alloc (ob : Obj) : Below w.heap.size w (w.alloc ob) := (Below.refl _ _).alloc (Nat.le_refl _) _

/-- A new variable. -/
theorem mk_var (h : SimB base O₀ w₀ G β S a w) {d : Nat} (hd : d < S.length) {vals : Array Value} {T : TypeId} {cs : List D} (hl : RepL (OS β O₀ S) w vals.toList cs) :
    ∃ β', SimB base O₀ w₀ G β' (setBox S d (.var cs) ((sget S d).ver + 1)) a (w.alloc (.cells vals T)) ∧
      RepA β' (verOf (setBox S d (.var cs) ((sget S d).ver + 1))) (OS β' O₀ (setBox S d (.var cs) ((sget S d).ver + 1))) (w.alloc (.cells vals T)) a.tmps (.pointer (some ⟨w.heap.size, 0, none⟩)) (.ptr d ((sget S d).ver + 1) 0) := by
  refine ⟨upd β d (.pointer (some ⟨w.heap.size, 0, none⟩)), h.rebox hd (.inl (Nat.lt_succ_self _)) (by simp) ((below_alloc _).mono h.hbase) (fun b hb _ => heap_alloc_old w _ b hb)
    (fun _ b hb => .inr (by simp [blkOf] at hb; omega)) (fun k => ⟨w.heap.size, vals, T, by simp [upd], h.hbase, heap_alloc_new w _, hl.mono k⟩), ?_⟩
  have hv : verOf (setBox S d (.var cs) ((sget S d).ver + 1)) d = (sget S d).ver + 1 := by simp [verOf, sget_setBox, hd]
  exact ⟨by rw [hv]; exact Nat.le_refl _, fun _ => ⟨w.heap.size, by simp [upd], rfl⟩⟩

theorem ownsRow_base {w : World} {b b' : Nat} {e : TypeId} {sz n : Nat} {v : Value} {vals : List Value} (h : w.ownsRow b e sz v n vals) (hb : b' ≤ b) : w.ownsRow b' e sz v n vals := by
  obtain ⟨hl, h⟩ := h
  refine ⟨hl, ?_⟩
  rcases h with h | ⟨g, cap, cur, hv, hbg, r⟩
  · exact .inl h
  · exact .inr ⟨g, cap, cur, hv, by omega, r⟩
theorem RowRep.lower {w : World} {b b' : Nat} {e : TypeId} {sz n : Nat} {v : Value} {vals : List Value} (h : RowRep w b e sz v n vals) (hb : b' ≤ b) : RowRep w b' e sz v n vals := by
  rcases h with h | h
  · exact .inl (ownsRow_base h hb)
  · exact .inr h
theorem RowRep.blk {w : World} {b : Nat} {e : TypeId} {sz n : Nat} {v : Value} {vals : List Value} (h : RowRep w b e sz v n vals) {g : Nat} (hg : blkOf v = some g) : b ≤ g := by
  rcases h with ⟨_, ⟨hv, _⟩ | ⟨g', cap, cur, hv, hbg, _⟩⟩ | ⟨_, _, ad, hv⟩
  · rw [hv] at hg; simp [blkOf] at hg
  · rw [hv] at hg; simp [blkOf] at hg; omega
  · rw [hv] at hg; simp [blkOf] at hg

/-- A new row. -/
theorem mk_row (h : SimB base O₀ w₀ G β S a w) {d : Nat} (hd : d < S.length) {w' : World} (hw : Below w.heap.size w w') {v : Value} {sz : Nat} {e : TypeId} {xs : List D} {vals : List Value} (hsz : 0 < sz)
    (hs : ∀ x ∈ xs, x.cells.length = sz) (hr : RowRep w' w.heap.size e sz v xs.length vals) (hl : RepL (fun b => OS β O₀ S b ∨ blkOf v = some b) w' vals (xs.flatMap D.cells)) :
    ∃ β', SimB base O₀ w₀ G β' (setBox S d (.row sz e xs) ((sget S d).ver + 1)) a w' ∧
      RepA β' (verOf (setBox S d (.row sz e xs) ((sget S d).ver + 1))) (OS β' O₀ (setBox S d (.row sz e xs) ((sget S d).ver + 1))) w' a.tmps v (.sl d ((sget S d).ver + 1)) := by
  refine ⟨upd β d v, h.rebox hd (.inl (Nat.lt_succ_self _)) hw.size (hw.mono h.hbase) (fun b hb _ => hw.block b hb) (fun _ b hb => .inr (hr.blk hb)) (fun k => ⟨hsz, hs, vals, ?_, ?_⟩), ?_⟩
  · simp only [upd, if_true]; exact hr.lower h.hbase
  · refine hl.mono (Kept.of_sub fun b hb => ?_)
    rcases hb with hb | ⟨i, h1, h2⟩
    · exact .inl (.inl hb)
    · rw [sget_setBox] at h1
      split at h1
      · rename_i e'
        rw [e'.1] at h2
        simp [upd] at h2
        exact .inr h2
      · rename_i e'
        have hi : i ≠ d := fun hh => e' ⟨hh, hd⟩
        simp [upd, hi] at h2
        exact .inl (.inr ⟨i, h1, h2⟩)
  · have hv : verOf (setBox S d (.row sz e xs) ((sget S d).ver + 1)) d = (sget S d).ver + 1 := by simp [verOf, sget_setBox, hd]
    exact ⟨by rw [hv]; exact Nat.le_refl _, fun _ => by simp [upd]⟩

theorem does_box (h : SimB base O₀ w₀ G β S a w) {g : Option (Nat × Bool)} (hg : GuardOK g a) {d : Nat} (hd : d < S.length) {T : TypeId} {x : Operand} (ho : o.op = .box T x) {K : Eff → Prop}
    (hy : asD (ρOf S g x) fun v b => forceS v.cells fun l => K ⟨.ptr d ((sget S d).ver + 1) 0, b ++ [(d, .var l, (sget S d).ver + 1)]⟩) : ∃ e, K e ∧ Does P base O₀ w₀ G S a w o e := by
  obtain ⟨xd, b, hK, hF, hfr, hrep⟩ := asD_sound (base := base) (w₀ := w₀) (G := G) (a := a) (ρ_sound h hg x) hy
  rw [forceS_eq] at hK
  obtain ⟨h1, h2⟩ := hF.sim h
  have hr := hrep b (fun _ h => h) hF h1 h2
  obtain ⟨β', h3, h4⟩ := mk_var h1 (d := d) (by rw [length_appB]; exact hd) (T := T) (repD_cells hr)
  rw [hF.ver] at h3 h4
  refine ⟨_, hK, .inl ⟨.pointer (some ⟨w.heap.size, 0, none⟩), w.alloc (.cells (a.eval x).cells T), ?_, β', ?_, ?_, rfl⟩⟩
  · simp [execOp, ho, Instr.box, newVar, newRow]
  · simp only [appB_append, appB]; exact h3
  · simp only [appB_append, appB]; exact h4

theorem zD_sound {O : Nat → Prop} {w : World} {v : Value} {x : D} (h : zD v = some x) : RepD O w v x ∧ x.one = true := by
  unfold zD at h
  split at h <;> simp at h <;> subst h
  · exact ⟨.int _ _, rfl⟩
  · exact ⟨.bool _, rfl⟩
  · exact ⟨.str _, rfl⟩
  · exact ⟨.emp _ _ _, rfl⟩
theorem zDs_sound {O : Nat → Prop} {w : World} : ∀ {vs : List Value} {xs : List D}, zDs vs = some xs → RepL O w vs xs
  | [], xs, h => by simp [zDs] at h; subst h; exact RepL.nil
  | v :: r, xs, h => by
    simp only [zDs] at h
    split at h
    · rename_i x l hx hl
      simp at h
      subst h
      have h1 := zD_sound (O := O) (w := w) hx
      exact (RepL.one h1.1 h1.2).append (zDs_sound hl)
    · cases h
theorem zeroD_sound {O : Nat → Prop} {w : World} {v : Value} {x : D} (h : zeroD v = some x) : RepD O w v x := by
  unfold zeroD at h
  split at h
  · rename_i cs
    simp at h
    obtain ⟨l, h1, rfl⟩ := h
    have hl := zDs_sound (O := O) (w := w) h1
    refine .agg cs l (by simpa using hl.1) (fun y hy => ?_) (fun j v y hv hy => (hl.2 j v y (by simpa using hv) hy).1)
    obtain ⟨j, hj⟩ := List.mem_iff_getElem?.1 hy
    have hlt : j < cs.toList.length := by
      rw [hl.1]
      rcases Nat.lt_or_ge j l.length with h | h
      · exact h
      · simp [List.getElem?_eq_none h] at hj
    exact (hl.2 j _ y (List.getElem?_eq_getElem hlt) hj).2
  · exact (zD_sound h).1

theorem does_alloc (h : SimB base O₀ w₀ G β S a w) {d : Nat} (hd : d < S.length) {T : TypeId} (ho : o.op = .alloc T) {i : TypeInfo} (hi : P.info? T = some i) {z : Value} (hz : i.zero = some z) {x : D} (hx : zeroD z = some x) {K : Eff → Prop}
    (hy : forceS x.cells fun l => K ⟨.ptr d ((sget S d).ver + 1) 0, [(d, .var l, (sget S d).ver + 1)]⟩) : ∃ e, K e ∧ Does P base O₀ w₀ G S a w o e := by
  rw [forceS_eq] at hy
  obtain ⟨β', h3, h4⟩ := mk_var h hd (T := T) (repD_cells (zeroD_sound (O := OS β O₀ S) (w := w) hx))
  refine ⟨_, hy, .inl ⟨.pointer (some ⟨w.heap.size, 0, none⟩), w.alloc (.cells z.cells T), ?_, β', h3, h4, rfl⟩⟩
  simp [execOp, ho, Instr.alloc, zeroValue, typeInfo, hi, hz, newVar, newRow]

theorem does_nil (h : SimB base O₀ w₀ G β S a w) {d : Nat} (hd : d < S.length) (ho : o.op = .assign (.const (.slice none 0 0))) {e : TypeId} (hsz : 0 < sizeT P e) :
    Does P base O₀ w₀ G S a w o ⟨.sl d ((sget S d).ver + 1), [(d, .row (sizeT P e) e [], (sget S d).ver + 1)]⟩ := by
  obtain ⟨β', h3, h4⟩ := mk_row h hd (Below.refl _ _) (v := .slice none 0 0) (e := e) (xs := []) (vals := []) hsz (fun _ h => by cases h) (.inl (World.ownsRow_nil w _ e _)) RepL.nil
  exact .inl ⟨_, w, by simp [execOp, ho, Act.eval], β', h3, h4, rfl⟩

/-! ### Stores -/
theorem not_frozen {b : List (Nat × Body × Nat)} (hF : FZ S b) (hfr : ∀ y ∈ b, ∃ sz xs, y.2.1 = .frow sz xs) {id : Nat} {cs : List D} (hb : (sget S id).box = .var cs) : sget (appB b S) id = sget S id :=
  hF.other id fun y hy e => by
    have h1 := (hF y hy).2
    obtain ⟨sz, xs, h2⟩ := hfr y hy
    rw [e, hb, h2] at h1
    rcases h1 with ⟨_, _, _, h3, _⟩ | ⟨_, h3, h4⟩ | ⟨h3, h4⟩
    · cases h3
    · cases h4
    · cases h3

theorem run_storeAt {T : TypeId} {p x : Operand} (ho : o.op = .store T p x) {b off : Nat} (hp : a.eval p = .pointer (some ⟨b, off, none⟩)) {i : TypeInfo} (hi : P.info? T = some i)
    (hc : (a.eval x).cells.size = i.size) {cur : Array Value} {E : TypeId} (hh : w.heap[b]? = some (.cells cur E (0, 0))) (hfit : off + (a.eval x).cells.size ≤ cur.size) (h1 : ∀ v ∈ (a.eval x).cells.toList, v.oneCell' = true) :
    (execOp a.eval o).run P w = .ok .skip (w.setRow b (cur.toList.take off ++ (a.eval x).cells.toList ++ cur.toList.drop (off + (a.eval x).cells.size)).toArray) := by
  have := run_storeCells_at P b off E (a.eval x).cells.toList 0 cur w hh (by simpa using hfit) h1
  simp only [Nat.add_zero, Array.length_toList] at this
  simp [execOp, ho, Instr.storeAt, hp, Instr.sureAddr, storeVar, sizeOf, typeInfo, hi, hc, this]

theorem sizeT_some {T : TypeId} {i : TypeInfo} (hi : P.info? T = some i) : sizeT P T = i.size := by simp [sizeT, hi]

theorem does_store_v (h : SimB base O₀ w₀ G β S a w) {g : Option (Nat × Bool)} (hg : GuardOK g a) {T : TypeId} {p x : Operand} (ho : o.op = .store T p x) {id n off : Nat} {cs : List D}
    (hp : RepR β (OS β O₀ S) S w (a.eval p) (.vptr id n off cs)) {i : TypeInfo} (hi : P.info? T = some i) {K : Eff → Prop}
    (hy : asD (ρOf S g x) fun v b => if v.cells.length = sizeT P T ∧ off + v.cells.length ≤ cs.length then forceS (splice cs off v.cells) fun l => K ⟨.any, b ++ [(id, .var l, n)]⟩ else False) :
    ∃ e, K e ∧ Does P base O₀ w₀ G S a w o e := by
  obtain ⟨xd, b, hK, hF, hfr, hrep⟩ := asD_sound (base := base) (w₀ := w₀) (G := G) (a := a) (ρ_sound h hg x) hy
  obtain ⟨⟨hc1, hc2⟩, hK⟩ := ite_false_prop hK
  rw [forceS_eq] at hK
  obtain ⟨h1, h2⟩ := hF.sim h
  have hr := repD_cells (hrep b (fun _ h => h) hF h1 h2)
  obtain ⟨hb, hn, blk, hβ, hv⟩ := hp
  have hsame := not_frozen hF hfr hb
  have hbx := h1.boxes id
  rw [hsame, hb] at hbx
  obtain ⟨blk', vals, E, hβ', hbase, hh, hl⟩ := hbx
  rw [hβ] at hβ'
  simp at hβ'
  subst hβ'
  have hid : id < S.length := id_lt hb (by simp)
  have hcells : (a.eval x).cells.size = xd.cells.length := by have := hr.1; simpa using this
  have hvals : vals.size = cs.length := by have := hl.1; simpa using this
  have hrun := run_storeAt (P := P) ho hv hi (by rw [hcells, hc1, sizeT_some hi]) hh (by rw [hcells, hvals]; exact hc2) hr.oneCell
  refine ⟨_, hK, .inr (.inl ⟨_, hrun, ?_⟩)⟩
  have h5 := h1.rebox (id := id) (B := .var (splice cs off xd.cells)) (v := β id) (n := n)
    (w' := w.setRow blk (vals.toList.take off ++ (a.eval x).cells.toList ++ vals.toList.drop (off + (a.eval x).cells.size)).toArray)
    (by rw [length_appB]; exact hid) (.inr ⟨by rw [hsame, hn], rfl⟩) (by simp) (below_setRow (Below.refl _ _) hbase _)
    (fun k _ hk => setRow_other w blk k _ (fun e => hk (by rw [hsame, hb]; rfl) (by rw [hβ, e]; rfl)))
    (fun _ k hk => .inl ⟨hk, by rw [hsame, hb]; rfl⟩)
    (fun k => by
      rw [upd_same] at k ⊢
      refine ⟨blk, _, E, hβ, hbase, setRow_heap w blk vals _ E _ hh, ?_⟩
      have := (hl.splice hr (o := off) (by omega)).mono k
      simpa using this)
  rw [upd_same] at h5
  refine ⟨β, ?_, trivial, rfl⟩
  simp only [appB_append, appB]
  exact h5

theorem splice_append : ∀ (A B : List D) (i : Nat) (ys : List D), splice (A ++ B) (A.length + i) ys = A ++ splice B i ys
  | [], B, i, ys => by simp
  | c :: A, B, i, ys => by
    rw [List.cons_append, List.length_cons, show A.length + 1 + i = (A.length + i) + 1 by omega, splice, splice_append A B i ys]
    rfl
theorem flat_set {sz : Nat} : ∀ (xs : List D) (i : Nat) (x y : D), (∀ x ∈ xs, x.cells.length = sz) → xs[i]? = some x → y.cells.length = sz →
    (xs.set i y).flatMap D.cells = splice (xs.flatMap D.cells) (i * sz) y.cells
  | [], i, x, y, _, hx, _ => by simp at hx
  | z :: r, 0, x, y, hs, hx, hy => by
    have hz : z.cells.length = sz := hs z (by simp)
    rw [splice_eq _ _ _ (by simp)]
    simp [hy, List.drop_append, ← hz]
  | z :: r, i + 1, x, y, hs, hx, hy => by
    have hz : z.cells.length = sz := hs z (by simp)
    have ih := flat_set r i x y (fun x hx => hs x (by simp [hx])) (by simpa using hx) hy
    rw [List.set_cons_succ, List.flatMap_cons, ih, List.flatMap_cons, show (i + 1) * sz = z.cells.length + i * sz by rw [hz, Nat.add_mul]; omega, splice_append]

theorem splice_splice (L ys zs : List D) (i o : Nat) (hi : i + ys.length ≤ L.length) (ho : o + zs.length ≤ ys.length) (hL : (L.drop i).take ys.length = ys) :
    splice L i (splice ys o zs) = splice L (i + o) zs := by
  rw [splice_eq ys o zs (by omega), splice_eq L i _ (by omega), splice_eq L (i + o) zs (by omega)]
  have hlen : (ys.take o ++ zs ++ ys.drop (o + zs.length)).length = ys.length := by simp; omega
  rw [hlen]
  have e1 : L.take (i + o) = L.take i ++ ys.take o := by
    rw [List.take_add, ← hL, List.take_take, Nat.min_eq_left (by omega)]
  have e2 : L.drop (i + o + zs.length) = ys.drop (o + zs.length) ++ L.drop (i + ys.length) := by
    have : L.drop i = ys ++ L.drop (i + ys.length) := by
      conv => lhs; rw [← List.take_append_drop ys.length (L.drop i), hL, List.drop_drop]
    rw [show i + o + zs.length = i + (o + zs.length) by omega, ← List.drop_drop, this, List.drop_append_of_le_length ho]
  rw [e1, e2]
  simp

theorem does_store_e (h : SimB base O₀ w₀ G β S a w) {g : Option (Nat × Bool)} (hg : GuardOK g a) {T : TypeId} {p x : Operand} (ho : o.op = .store T p x) {id n sz : Nat} {e : TypeId} {xs : List D} {k off : Nat}
    (hp : RepR β (OS β O₀ S) S w (a.eval p) (.eptr id n sz e xs k off)) {i : TypeInfo} (hi : P.info? T = some i) {K : Eff → Prop}
    (hy : asD (ρOf S g x) fun v b => At xs k fun y =>
      if v.cells.length = sizeT P T ∧ off + v.cells.length ≤ y.cells.length ∧ notRow id b = true then
        match y with
        | .agg cs => forceS (splice cs off v.cells) fun l => K ⟨.any, b ++ [(id, .row sz e (xs.set k (.agg l)), n)]⟩
        | _ => if v.one then K ⟨.any, b ++ [(id, .row sz e (xs.set k v), n)]⟩ else False
      else False) :
    ∃ e, K e ∧ Does P base O₀ w₀ G S a w o e := by
  obtain ⟨xd, b, hK, hF, hfr, hrep⟩ := asD_sound (base := base) (w₀ := w₀) (G := G) (a := a) (ρ_sound h hg x) hy
  obtain ⟨_, y, hy1, hK⟩ := hK.go
  simp only [Int.toNat_natCast] at hy1
  obtain ⟨⟨hc1, hc2, hnr⟩, hK⟩ := ite_false_prop hK
  obtain ⟨h1, h2⟩ := hF.sim h
  have hr := repD_cells (hrep b (fun _ h => h) hF h1 h2)
  obtain ⟨hb, hn, blk, m, cap, hβ, hv⟩ := hp
  have hsame : sget (appB b S) id = sget S id := hF.other id fun z hz e => by
    have : ∀ (b : List (Nat × Body × Nat)), notRow id b = true → ∀ z ∈ b, z.1 ≠ id := by
      intro b
      induction b with
      | nil => intro _ z hz; cases hz
      | cons q r ih =>
        intro hq z hz
        simp [notRow] at hq
        rcases List.mem_cons.1 hz with rfl | hz
        · exact hq.1
        · exact ih hq.2 z hz
    exact this b hnr z hz e
  have hbx := h1.boxes id
  rw [hsame, hb] at hbx
  obtain ⟨hpos, hszs, vals, hrow, hl⟩ := hbx
  have hid : id < S.length := id_lt hb (by simp)
  have hklt : k < xs.length := by
    rcases Nat.lt_or_ge k xs.length with h | h
    · exact h
    · simp [List.getElem?_eq_none h] at hy1
  have hysz : y.cells.length = sz := hszs y (List.mem_of_getElem? hy1)
  -- the new element
  obtain ⟨y', hy', hK⟩ : ∃ y', (y'.cells = splice y.cells off xd.cells ∧ y'.cells.length = sz) ∧ K ⟨.any, b ++ [(id, .row sz e (xs.set k y'), n)]⟩ := by
    have hlen : (splice y.cells off xd.cells).length = sz := by rw [splice_eq _ _ _ (by omega)]; simp; omega
    cases y with
    | agg cs => simp only [forceS_eq] at hK; exact ⟨.agg (splice cs off xd.cells), ⟨rfl, hlen⟩, hK⟩
    | bool _ | int _ _ | str _ | func _ | list _ _ =>
      obtain ⟨hone, hK2⟩ := ite_false_prop (show (if xd.one = true then K ⟨.any, b ++ [(id, .row sz e (xs.set k xd), n)]⟩ else False) from hK)
      have hx1 : xd.cells = [xd] := by cases xd <;> first | rfl | simp [D.one] at hone
      rw [hx1] at hc2
      have hc2' : off + 1 ≤ 1 := hc2
      have ho0 : off = 0 := by omega
      subst ho0
      refine ⟨xd, ⟨?_, ?_⟩, hK2⟩
      · rw [hx1]; rfl
      · rw [hx1]; exact hysz
  rcases hrow with ⟨hlen, ⟨hv', h0⟩ | ⟨gb, cap', cur, hv', hbg, hh, hnc, hm, hcs, ht⟩⟩ | ⟨h0, _⟩
  · omega
  · have hβb := hβ
    rw [hv'] at hβb
    simp at hβb
    obtain ⟨rfl, rfl, rfl⟩ := hβb
    have hcells : (a.eval x).cells.size = xd.cells.length := by have := hr.1; simpa using this
    have hle : k * sz + sz ≤ xs.length * sz := by rw [← Nat.succ_mul]; exact Nat.mul_le_mul_right _ hklt
    have hle2 : xs.length * sz ≤ cur.size := by rw [hcs]; exact Nat.mul_le_mul_right _ hnc
    have hfit : k * sz + off + (a.eval x).cells.size ≤ cur.size := by rw [hcells]; omega
    have hrun := run_storeAt (P := P) ho hv hi (by rw [hcells, hc1, sizeT_some hi]) hh hfit hr.oneCell
    refine ⟨_, hK, .inr (.inl ⟨_, hrun, ?_⟩)⟩
    have hflat := flat_length xs hszs
    have hsp : (xs.set k y').flatMap D.cells = splice (xs.flatMap D.cells) (k * sz + off) xd.cells := by
      rw [flat_set xs k y y' hszs hy1 hy'.2, hy'.1]
      refine splice_splice _ _ _ _ _ (by rw [hflat, hysz]; exact hle) hc2 ?_
      apply List.ext_getElem?
      intro j
      rw [List.getElem?_take]
      split
      · rename_i hj
        rw [List.getElem?_drop, flat_get xs hszs k y j _ hy1 (List.getElem?_eq_getElem hj), List.getElem?_eq_getElem hj]
      · rename_i hj
        rw [List.getElem?_eq_none (by omega)]
    have h5 := h1.rebox (id := id) (B := .row sz e (xs.set k y')) (v := β id) (n := n)
      (w' := w.setRow gb (cur.toList.take (k * sz + off) ++ (a.eval x).cells.toList ++ cur.toList.drop (k * sz + off + (a.eval x).cells.size)).toArray)
      (by rw [length_appB]; exact hid) (.inr ⟨by rw [hsame, hn], rfl⟩) (by simp) (below_setRow (Below.refl _ _) hbg _)
      (fun q _ hk => setRow_other w gb q _ (fun e => hk (by rw [hsame, hb]; rfl) (by rw [hβ, e]; simp [blkOf]; omega)))
      (fun _ q hq => .inl ⟨hq, by rw [hsame, hb]; rfl⟩)
      (fun kp => by
        rw [upd_same] at kp ⊢
        refine ⟨hpos, ?_, vals.take (k * sz + off) ++ (a.eval x).cells.toList ++ vals.drop (k * sz + off + (a.eval x).cells.toList.length), .inl ⟨?_, .inr ⟨gb, cap', _, by rw [hv']; simp, hbg, setRow_heap w gb cur _ e _ hh, ?_, hm, ?_, ?_⟩⟩, ?_⟩
        · intro z hz
          rcases List.mem_or_eq_of_mem_set hz with hz | hz
          · exact hszs z hz
          · rw [hz]; exact hy'.2
        · simp only [List.length_append, List.length_take, List.length_drop, List.length_set, Array.length_toList]
          omega
        · simpa using hnc
        · simp only [List.size_toArray, List.length_append, List.length_take, List.length_drop, Array.length_toList]
          omega
        · simp only [List.length_set]
          rw [← ht]
          apply List.ext_getElem?
          intro j
          simp only [List.getElem?_take, List.getElem?_append, List.getElem?_drop, List.length_append, List.length_take, Array.length_toList]
          split
          · rename_i hj
            repeat' split
            all_goals first
              | rfl
              | omega
              | (congr 1; omega)
              | (rw [if_pos (by omega)]; congr 1; omega)
          · rename_i hj
            repeat' split
            all_goals first
              | rfl
              | omega
              | (rw [List.getElem?_eq_none]; simp; omega)
              | (rw [if_neg (by omega)])
        · rw [hsp]
          exact (hl.splice hr (o := k * sz + off) (by rw [hflat]; omega)).mono kp)
    rw [upd_same] at h5
    refine ⟨β, ?_, trivial, rfl⟩
    simp only [appB_append, appB]
    exact h5
  · omega
end
end Go.Abs
