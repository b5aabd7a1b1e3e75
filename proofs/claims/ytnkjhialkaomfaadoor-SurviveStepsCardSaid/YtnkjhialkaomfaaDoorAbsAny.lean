/-
  An argument of any plain type (bools, integers, strings, slices, structs of such), as data.
-/
import Derived.Test.YtnkjhialkaomfaaDoorAbsArg
namespace Go.Abs
open Go.ChangeShapes Go.WideShapes

/-- An element of some cells: of a struct its cells, else the one cell. -/
def mkD (agg : Bool) (ys : List D) : D := if agg then .agg ys else ys.headD (.nil 0)
def isAggT (P : Program) (t : TypeId) : Bool := match P.underlying t with | some (.struct _) => true | _ => false
/-- The cells of a variable of type t. -/
def Fits (P : Program) : Nat → TypeId → List D → Prop
  | 0, _, _ => False
  | n + 1, t, ys => match P.underlying t with
    | some .bool => ∃ b, ys = [.bool b]
    | some (.int k) => ∃ m, ys = [.int k m] ∧ (Lit.int k m).wf = true
    | some .string => ∃ s : ByteArray, ys = [.str s] ∧ s.size ≤ maxLen
    | some (.slice e) => ∃ xs : List (List D), ys = [.list (P.cellsOf e) (xs.map (mkD (isAggT P e)))] ∧ xs.length ≤ maxLen ∧ ∀ x ∈ xs, Fits P n e x
    | some (.struct fs) => ys.length = P.cellsOf t ∧ ∀ f ∈ fs.toList, Fits P n f.type ((ys.drop f.offset).take (P.cellsOf f.type))
    | _ => False
/-- The fields lie one behind the other, from this offset on; so many cells. -/
def laidFs (P : Program) : Nat → List Field → Option Nat
  | o, [] => some o
  | o, f :: r => if f.offset = o then laidFs P (o + P.cellsOf f.type) r else none
/-- Types of bools, integers, strings, slices and structs of types of the list. -/
def closedT (P : Program) (ts : List TypeId) : Bool := ts.all fun t => match P.underlying t with
  | some .bool | some (.int _) | some .string => P.cellsOf t == 1
  | some (.slice e) => P.cellsOf t == 1 && (ts.contains e && decide (0 < P.cellsOf e))
  | some (.struct fs) => fs.toList.all (fun f => ts.contains f.type) && (laidFs P 0 fs.toList == some (P.cellsOf t))
  | _ => false

section
variable {H : Type} {enc : TypeId × Value → H} {P : Program} {w : World} {base : Nat} {spare : Nat → Bool} {held : Bool}

theorem fits_len {ts : List TypeId} (hc : closedT P ts = true) {n : Nat} {t : TypeId} (ht : ts.contains t = true) {ys : List D} (h : Fits P n t ys) : ys.length = P.cellsOf t := by
  have := List.all_eq_true.1 hc t (by simpa using ht)
  cases n with
  | zero => exact h.elim
  | succ n =>
    unfold Fits at h
    split at h <;> rename_i hu <;> simp only [hu] at this
    · obtain ⟨b, rfl⟩ := h; simp at this; rw [this]; rfl
    · obtain ⟨b, rfl, _⟩ := h; simp at this; rw [this]; rfl
    · obtain ⟨b, rfl, _⟩ := h; simp at this; rw [this]; rfl
    · obtain ⟨b, rfl, _⟩ := h; simp at this; rw [this.1]; rfl
    · exact h.1
    · exact h.elim

theorem cells_mk {ts : List TypeId} (hc : closedT P ts = true) {n : Nat} {t : TypeId} (ht : ts.contains t = true) {ys : List D} (h : Fits P n t ys) (h1 : ∀ y ∈ ys, y.one = true) : (mkD (isAggT P t) ys).cells = ys := by
  have hl := fits_len hc ht h
  have := List.all_eq_true.1 hc t (by simpa using ht)
  unfold mkD isAggT
  split <;> rename_i hu
  · rfl
  · have h2 : ys.length = 1 := by
      rw [hl]
      split at this <;> simp_all
    match ys, h2 with
    | [y], _ =>
      have := h1 y (by simp)
      cases y <;> first | rfl | cases this

theorem fields_rep {ts : List TypeId} (hc : closedT P ts = true) {n : Nat} (ih : ∀ t cs (x : DataW H × List MemPlace), ts.contains t = true → DataW.trod enc P w base spare held n t cs = some x → ∃ ys, RepL (fun _ => False) w cs ys ∧ Fits P n t ys) :
    ∀ (fs : List Field) (o m : Nat) (cs : List Value), laidFs P o fs = some m → cs.length = m → (∀ f ∈ fs, ts.contains f.type = true) →
      (∀ f ∈ fs, ∃ x, DataW.trod enc P w base spare held n f.type ((cs.drop f.offset).take (P.cellsOf f.type)) = some x) →
      ∃ ys, o + ys.length = m ∧ RepL (fun _ => False) w (cs.drop o) ys ∧ ∀ f ∈ fs, o ≤ f.offset ∧ Fits P n f.type ((ys.drop (f.offset - o)).take (P.cellsOf f.type))
  | [], o, m, cs, hl, hm, _, _ => by
    simp only [laidFs, Option.some.injEq] at hl
    subst hl
    exact ⟨[], rfl, by rw [List.drop_eq_nil_of_le (by omega)]; exact ⟨rfl, fun j v y hv => by simp at hv⟩, fun f hf => by simp at hf⟩
  | f :: r, o, m, cs, hl, hm, hT, hx => by
    unfold laidFs at hl
    split at hl
    · rename_i ho
      obtain ⟨x, hx0⟩ := hx f (by simp)
      obtain ⟨y0, hr0, hf0⟩ := ih _ _ _ (hT f (by simp)) hx0
      obtain ⟨ys, e, hr, hf⟩ := fields_rep hc ih r _ m cs hl hm (fun g hg => hT g (by simp [hg])) (fun g hg => hx g (by simp [hg]))
      have hy0 := fits_len hc (hT f (by simp)) hf0
      refine ⟨y0 ++ ys, by rw [List.length_append, hy0]; omega, ?_, fun g hg => ?_⟩
      · have : cs.drop o = (cs.drop f.offset).take (P.cellsOf f.type) ++ cs.drop (o + P.cellsOf f.type) := by
          rw [ho, ← List.drop_drop, List.take_append_drop]
        rw [this]
        exact hr0.append hr
      · rcases List.mem_cons.1 hg with rfl | hg
        · refine ⟨by omega, ?_⟩
          rw [ho, Nat.sub_self, List.drop_zero, ← hy0, List.take_left]
          exact hf0
        · obtain ⟨h1, h2⟩ := hf g hg
          refine ⟨by omega, ?_⟩
          rw [show g.offset - o = y0.length + (g.offset - (o + P.cellsOf f.type)) by omega, ← List.drop_drop, List.drop_left]
          exact h2
    · cases hl

theorem fits_of {ts : List TypeId} (hc : closedT P ts = true) : ∀ (n : Nat) (t : TypeId) (cs : List Value) (x : DataW H × List MemPlace), ts.contains t = true → DataW.trod enc P w base spare held n t cs = some x →
    ∃ ys, RepL (fun _ => False) w cs ys ∧ Fits P n t ys
  | 0, _, _, _, _, h => by simp [DataW.trod] at h
  | n + 1, t, cs, x, ht, h => by
    have hcl := List.all_eq_true.1 hc t (by simpa using ht)
    have one : ∀ (v : Value) (y : D), RepD (fun _ => False) w v y → y.one = true → RepL (fun _ => False) w [v] [y] := fun v y h1 h2 => ⟨rfl, fun j v' y' hv hy => by
      cases j with
      | zero => simp at hv hy; subst hv; subst hy; exact ⟨h1, h2⟩
      | succ j => simp at hv⟩
    unfold Fits
    split at hcl <;> rename_i hu
    · obtain ⟨b, rfl, _⟩ := DataW.trod_bool hu h
      exact ⟨_, one _ _ (.bool b) rfl, by exact ⟨b, rfl⟩⟩
    · obtain ⟨m, rfl, _, hw⟩ := DataW.trod_int hu h
      exact ⟨_, one _ _ (.int _ m) rfl, by exact ⟨m, rfl, hw⟩⟩
    · obtain ⟨s, rfl, _, hw⟩ := DataW.trod_string hu h
      exact ⟨_, one _ _ (.str s) rfl, by exact ⟨s, rfl, hw⟩⟩
    · rename_i e
      simp only [Bool.and_eq_true, decide_eq_true_eq] at hcl
      obtain ⟨_, hce, hsz⟩ := hcl
      rcases DataW.trod_slice hu h with ⟨rfl, _⟩ | ⟨a, len, cap, elems, rest, n', en, rfl, _, hb, hl, hm, hlen, hel, _, _⟩
      · exact ⟨_, one _ _ (.emp _ 0 (P.cellsOf e)) rfl, by exact ⟨[], rfl, by simp [maxLen], fun x hx => by simp at hx⟩⟩
      obtain rfl : n = n' := by omega
      have each : ∀ i, i < len → ∃ cs ys, w.cells? base (a.add (i * P.cellsOf e)) (P.cellsOf e) = some cs ∧ RepL (fun _ => False) w cs ys ∧ Fits P n e ys := by
        intro i hi
        have h1 := hel i hi
        rw [List.getElem?_eq_getElem (by omega), Option.bind_eq_some_iff] at h1
        obtain ⟨cs, h2, h3⟩ := h1
        obtain ⟨ys, h4, h5⟩ := fits_of hc n e cs _ hce h3
        exact ⟨cs, ys, h2, h4, h5⟩
      have hex : ∃ xs : List (List D), xs.length = len ∧ ∀ i (hi : i < xs.length), ∃ cs, w.cells? base (a.add (i * P.cellsOf e)) (P.cellsOf e) = some cs ∧ RepL (fun _ => False) w cs xs[i] ∧ Fits P n e xs[i] := by
        have : ∀ k, k ≤ len → ∃ xs : List (List D), xs.length = k ∧ ∀ i (hi : i < xs.length), ∃ cs, w.cells? base (a.add (i * P.cellsOf e)) (P.cellsOf e) = some cs ∧ RepL (fun _ => False) w cs xs[i] ∧ Fits P n e xs[i] := by
          intro k
          induction k with
          | zero => exact fun _ => ⟨[], rfl, fun i hi => by simp at hi⟩
          | succ k ihk =>
            intro hk
            obtain ⟨xs, h1, h2⟩ := ihk (by omega)
            obtain ⟨cs, ys, h3, h4, h5⟩ := each k (by omega)
            refine ⟨xs ++ [ys], by simp [h1], fun i hi => ?_⟩
            by_cases hik : i < xs.length
            · rw [List.getElem_append_left hik]; exact h2 i hik
            · have : i = k := by simp at hi; omega
              subst this
              have he : (xs ++ [ys])[i] = ys := by simp [List.getElem_append_right, h1]
              rw [he]
              exact ⟨cs, h3, h4, h5⟩
        exact this len (Nat.le_refl _)
      obtain ⟨xs, hxl, hxs⟩ := hex
      have hones : ∀ x ∈ xs, (∀ y ∈ x, y.one = true) ∧ (mkD (isAggT P e) x).cells = x ∧ x.length = P.cellsOf e ∧ Fits P n e x := by
        intro x hx
        obtain ⟨i, hi, rfl⟩ := List.getElem_of_mem hx
        obtain ⟨cs, h1, h2, h3⟩ := hxs i hi
        have h4 : ∀ y ∈ xs[i], y.one = true := by
          intro y hy
          obtain ⟨j, hj, rfl⟩ := List.getElem_of_mem hy
          exact (h2.2 j (cs[j]'(by rw [h2.1]; exact hj)) _ (List.getElem?_eq_getElem _) (List.getElem?_eq_getElem hj)).2
        exact ⟨h4, cells_mk hc hce h3 h4, fits_len hc hce h3, h3⟩
      refine ⟨[.list (P.cellsOf e) (xs.map (mkD (isAggT P e)))], one _ _ ?_ rfl, by exact ⟨xs, rfl, by omega, fun x hx => (hones x hx).2.2.2⟩⟩
      by_cases h0 : len = 0
      · subst h0
        obtain rfl : xs = [] := List.length_eq_zero_iff.1 hxl
        exact .emp _ _ _
      obtain ⟨b, off, spot⟩ := a
      have hsp : spot = none := by
        have hz : 0 < xs.length := by omega
        obtain ⟨cs, h1, _, _⟩ := hxs 0 hz
        obtain ⟨_, h5, h6⟩ := World.cells?_some h1
        have := h6 0 hsz
        rw [List.getElem?_eq_getElem (by omega)] at this
        have := World.cell?_spot this
        simpa [Addr.add] using this
      subst hsp
      have cell0 : ∀ i (hi : i < xs.length) (j : Nat) y, xs[i][j]? = some y → ∃ v, w.cell? ((⟨b, off, none⟩ : Addr).add (i * P.cellsOf e + j)) = some v ∧ RepD (fun _ => False) w v y := by
        intro i hi j y hy
        obtain ⟨cs, h1, h2, h3⟩ := hxs i hi
        obtain ⟨_, h5, h6⟩ := World.cells?_some h1
        have hj : j < P.cellsOf e := by
          have := (List.getElem?_eq_some_iff.1 hy).1
          rw [fits_len hc hce h3] at this
          exact this
        have h7 := h6 j hj
        rw [List.getElem?_eq_getElem (by omega)] at h7
        refine ⟨cs[j], ?_, (h2.2 j _ _ (List.getElem?_eq_getElem (by omega)) hy).1⟩
        rw [← h7]
        rw [add_none, add_none, add_none, Nat.add_assoc]
      have hbl : b < w.heap.size := by
        have hz : 0 < xs.length := by omega
        obtain ⟨cs, h1, _, _⟩ := hxs 0 hz
        obtain ⟨_, h5, h6⟩ := World.cells?_some h1
        have h7 := h6 0 hsz
        rw [List.getElem?_eq_getElem (by omega)] at h7
        rcases Nat.lt_or_ge b w.heap.size with h | h
        · exact h
        · simp [World.cell?, Addr.add, Array.getElem?_eq_none h] at h7
      have hget : ∀ (i : Nat) (z : D), (xs.map (mkD (isAggT P e)))[i]? = some z → ∃ hi : i < xs.length, z = mkD (isAggT P e) xs[i] ∧ z.cells = xs[i] := by
        intro i z hz
        rw [List.getElem?_map] at hz
        obtain ⟨x, hx, rfl⟩ := Option.map_eq_some_iff.1 hz
        obtain ⟨hi, rfl⟩ := List.getElem?_eq_some_iff.1 hx
        exact ⟨hi, rfl, (hones _ (List.getElem_mem hi)).2.1⟩
      have key := RepD.list (O := fun _ => False) (w := w) b off cap (P.cellsOf e) (xs.map (mkD (isAggT P e))) (fun i j => (w.cell? ⟨b, off + i * P.cellsOf e + j, none⟩).getD undef)
        (fun h => by have := congrArg List.length h; rw [List.length_map, List.length_nil] at this; omega) hbl (fun h => h) (by simp; omega)
        (fun z hz => by obtain ⟨x, hx, rfl⟩ := List.mem_map.1 hz; rw [(hones x hx).2.1]; exact (hones x hx).2.2.1)
        (fun z hz y hy => by obtain ⟨x, hx, rfl⟩ := List.mem_map.1 hz; rw [(hones x hx).2.1] at hy; exact (hones x hx).1 y hy)
        (fun i z j y hz hy => by
          obtain ⟨hi, _, h2⟩ := hget i z hz
          rw [h2] at hy
          obtain ⟨v, h3, _⟩ := cell0 i hi j y hy
          rw [add_none, ← Nat.add_assoc] at h3
          rw [h3]; rfl)
        (fun i z j y hz hy => by
          obtain ⟨hi, _, h2⟩ := hget i z hz
          rw [h2] at hy
          obtain ⟨v, h3, h4⟩ := cell0 i hi j y hy
          rw [add_none, ← Nat.add_assoc] at h3
          rw [h3]
          exact h4)
      rw [show (xs.map (mkD (isAggT P e))).length = len by simp [hxl]] at key
      exact key
    · rename_i fs
      simp only [Bool.and_eq_true, beq_iff_eq] at hcl
      obtain ⟨hT, hlay⟩ := hcl
      obtain ⟨xs, n', en, _, hlen, hxl, hxs⟩ := DataW.trod_struct hu h
      obtain rfl : n = n' := by omega
      obtain ⟨ys, hy1, hy2, hy3⟩ := fields_rep hc (fun t cs x => fits_of hc n t cs x) fs.toList 0 _ cs hlay hlen (fun f hf => List.all_eq_true.1 hT f hf) (fun f hf => by
        obtain ⟨i, hi, e⟩ := List.getElem_of_mem hf
        have hi' : i < fs.size := by simpa using hi
        have := hxs i f (by rw [← e]; simp [hi'])
        rw [List.getElem?_eq_getElem (by omega)] at this
        exact ⟨_, this⟩)
      refine ⟨ys, by simpa using hy2, ?_⟩
      exact ⟨by omega, fun f hf => by simpa using (hy3 f hf).2⟩
    · cases hcl

/-- An argument. -/
theorem any_arg {ts : List TypeId} (hc : closedT P ts = true) {t : TypeId} (ht : ts.contains t = true) {v : Value} (hv : isAggT P t = true → ∃ cs, v = .agg cs) (hv1 : isAggT P t = false → v.cells = #[v]) {d : DataW H} {p : List MemPlace} (h : DataW.Trod enc P w base spare held t v d p) :
    ∃ n ys, Fits P n t ys ∧ RepD (fun _ => False) w v (mkD (isAggT P t) ys) := by
  obtain ⟨n, h⟩ := h
  obtain ⟨ys, h1, h2⟩ := fits_of hc n t _ _ ht h
  refine ⟨n, ys, h2, ?_⟩
  cases ha : isAggT P t with
  | true =>
    obtain ⟨cs, rfl⟩ := hv ha
    have h1 : RepL (fun _ => False) w cs.toList ys := h1
    refine .agg cs ys (by simpa using h1.1) (fun y hy => ?_) fun i v y hi hy => (h1.2 i v y (by simpa using hi) hy).1
    obtain ⟨j, hj, rfl⟩ := List.getElem_of_mem hy
    exact (h1.2 j (cs.toList[j]'(by rw [h1.1]; exact hj)) _ (List.getElem?_eq_getElem _) (List.getElem?_eq_getElem hj)).2
  | false =>
    have h1 : RepL (fun _ => False) w v.cells.toList ys := h1
    rw [hv1 ha] at h1
    have hl := h1.1
    match ys, hl with
    | [y], _ => exact (h1.2 0 v y rfl rfl).1

theorem fits_slice {α : Type} {n : Nat} {t e : TypeId} {ys : List D} (ht : P.underlying t = some (.slice e)) (h : Fits P n t ys) {f : α → D} {p : α → Prop} (h1 : ∀ m x, Fits P m e x → ∃ a, mkD (isAggT P e) x = f a ∧ p a) :
    ∃ l : List α, ys = [.list (P.cellsOf e) (l.map f)] ∧ l.length ≤ maxLen ∧ ∀ a ∈ l, p a := by
  cases n with
  | zero => exact h.elim
  | succ n =>
    unfold Fits at h
    rw [ht] at h
    obtain ⟨xs, rfl, hl, hx⟩ := h
    have : ∃ l : List α, xs.map (mkD (isAggT P e)) = l.map f ∧ l.length = xs.length ∧ ∀ a ∈ l, p a := by
      clear hl
      induction xs with
      | nil => exact ⟨[], rfl, rfl, fun a ha => by simp at ha⟩
      | cons x r ih =>
        obtain ⟨a, h2, h3⟩ := h1 n x (hx x (by simp))
        obtain ⟨l, h4, h5, h6⟩ := ih fun y hy => hx y (by simp [hy])
        refine ⟨a :: l, by rw [List.map_cons, h2, h4]; rfl, by simp [h5], fun b hb => ?_⟩
        rcases List.mem_cons.1 hb with rfl | hb
        · exact h3
        · exact h6 b hb
    obtain ⟨l, h2, h3, h4⟩ := this
    exact ⟨l, by rw [h2], by omega, h4⟩
end
end Go.Abs
