/-
  The abstract machine: operands; what is given up; the effect of an operation.
-/
import Derived.Test.YtbhpfidifbbggaaAbsSim
import Derived.Laws.Cells
import Derived.Laws.Build
namespace Go.Abs
open Go.RowKit (Below)

section
variable {P : Program} {base : Nat} {O₀ : Nat → Prop} {w₀ : World} {G : Nat → Prop} {β : Nat → Value} {S : AS} {a : Act} {w : World}

def RepR (β : Nat → Value) (O : Nat → Prop) (S : AS) (w : World) (v : Value) : RV → Prop
  | .any => True
  | .bot => False
  | .d x => RepD O w v x
  | .lim sz xs => RepD O w v (.list sz xs) ∧ capOf v = xs.length
  | .cptr cs => RepP O w v cs
  | .vptr id n o cs => (sget S id).box = .var cs ∧ (sget S id).ver = n ∧ ∃ b, β id = .pointer (some ⟨b, 0, none⟩) ∧ v = .pointer (some ⟨b, o, none⟩)
  | .row id n sz e xs => (sget S id).box = .row sz e xs ∧ (sget S id).ver = n ∧ v = β id
  | .eptr id n sz e xs i o => (sget S id).box = .row sz e xs ∧ (sget S id).ver = n ∧ ∃ b m cap, β id = .slice (some ⟨b, 0, none⟩) m cap ∧ v = .pointer (some ⟨b, i * sz + o, none⟩)
  | .tup xs => ∃ vs : Array Value, v = .tuple vs ∧ vs.size = xs.length ∧ ∀ (i : Nat) u x, vs[i]? = some u → xs[i]? = some x → RepD O w u x

theorem id_lt {id : Nat} {B : Body} (h : (sget S id).box = B) (hB : B ≠ .none) : id < S.length := by
  rcases Nat.lt_or_ge id S.length with h' | h'
  · exact h'
  · rw [sget_ge S id h'] at h; exact absurd h.symm hB

theorem res_sound (h : SimB base O₀ w₀ G β S a w) {v : Value} {x : AV} (hx : RepA β (verOf S) (OS β O₀ S) w a.tmps v x) : RepR β (OS β O₀ S) S w v (res S x) := by
  cases x with
  | any => trivial
  | bot => exact hx
  | d x => exact hx
  | lim sz xs => exact hx
  | cptr cs => exact hx
  | ptr id n o =>
    simp only [RepA, verOf] at hx
    have hb := h.boxes id
    simp only [res]
    generalize hs : sget S id = s at hx hb
    obtain ⟨av, B, m⟩ := s
    cases B with
    | none => trivial
    | row sz e xs => trivial
    | frow sz xs => trivial
    | var cs =>
      simp only at hx ⊢
      split
      · rename_i e
        exact ⟨by rw [hs], by rw [hs]; exact e.symm, hx.2 e⟩
      · trivial
    | fvar cs =>
      simp only at hx ⊢
      split
      · rename_i e
        obtain ⟨b, h1, h2⟩ := hx.2 e
        obtain ⟨⟨b', off', h3, h4⟩, b'', h5⟩ := hb
        rw [h1] at h3
        simp at h3
        obtain ⟨rfl, rfl⟩ := h3
        refine ⟨b, o, h2, fun j y hy => ?_⟩
        simp only [List.getElem?_drop] at hy
        have := h4 (o + j) y hy
        simpa using this
      · trivial
  | sl id n =>
    simp only [RepA, verOf] at hx
    have hb := h.boxes id
    simp only [res]
    generalize hs : sget S id = s at hx hb
    obtain ⟨av, B, m⟩ := s
    cases B with
    | none => trivial
    | var cs => trivial
    | fvar cs => trivial
    | row sz e xs =>
      simp only at hx ⊢
      split
      · rename_i e
        exact ⟨by rw [hs], by rw [hs]; exact e.symm, hx.2 e⟩
      · trivial
    | frow sz xs =>
      simp only at hx ⊢
      split
      · rename_i e
        show RepD _ _ _ _
        rw [hx.2 e]; exact hb
      · trivial
  | eptr id n sz i o =>
    simp only [RepA, verOf] at hx
    simp only [res]
    generalize hs : sget S id = s at hx
    obtain ⟨av, B, m⟩ := s
    cases B with
    | none => trivial
    | var cs => trivial
    | fvar cs => trivial
    | frow sz xs => trivial
    | row sz' e xs =>
      simp only at hx ⊢
      split
      · rename_i e
        obtain ⟨e, rfl⟩ := e
        exact ⟨by rw [hs], by rw [hs]; exact e.symm, hx.2 e⟩
      · trivial
  | tup xs => exact hx
  | own sz e xs => trivial
  | under t want x => trivial

def GuardOK (g : Option (Nat × Bool)) (a : Act) : Prop := ∀ t want, g = some (t, want) → a.tmps[t]? = some (.bool want)

theorem cval_sound (v : Value) {O : Nat → Prop} {n : Nat → Nat} {tm : Array Value} : RepA β n O w tm v (cval v) := by
  unfold cval
  split
  · exact .int _ _
  · exact .bool _
  · exact .str _
  · exact ⟨.emp _ _ _, rfl⟩
  · trivial

theorem unw_sound {g : Option (Nat × Bool)} (hg : GuardOK g a) {O : Nat → Prop} {n : Nat → Nat} {v : Value} {x : AV} (h : RepA β n O w a.tmps v x) : RepA β n O w a.tmps v (unw g x) := by
  cases x <;> try exact h
  case under t want x =>
    simp only [unw]
    cases g with
    | none => trivial
    | some p =>
      obtain ⟨t', w'⟩ := p
      simp only
      split
      · rename_i e
        obtain ⟨rfl, rfl⟩ := e
        exact h (hg t want rfl)
      · trivial

theorem ρ_sound (h : SimB base O₀ w₀ G β S a w) {g : Option (Nat × Bool)} (hg : GuardOK g a) (x : Operand) : RepR β (OS β O₀ S) S w (a.eval x) (ρOf S g x) := by
  refine res_sound h (unw_sound hg ?_)
  cases x with
  | tmp t =>
    simp only [ev, Act.eval]
    by_cases ht : t < a.tmps.size
    · have := h.slots t a.tmps[t] (by simp [ht])
      simpa [Array.getD, ht] using this
    · have e : sget S t = sl0 := sget_ge S t (by rw [← h.len]; exact Nat.le_of_not_lt ht)
      rw [e]
      trivial
  | const v => exact cval_sound v
  | global g => trivial
  | func f => exact .func f

/-! ### What is given up -/
def Body.isF : Body → Bool
  | .frow _ _ | .fvar _ => true
  | _ => false
theorem Body.isF_ne {B : Body} (h : B.isF = true) : B ≠ .none := by cases B <;> simp [Body.isF] at h ⊢
def FZ (S : AS) (b : List (Nat × Body × Nat)) : Prop :=
  ∀ x ∈ b, (sget S x.1).ver = x.2.2 ∧ ((∃ sz e xs, (sget S x.1).box = .row sz e xs ∧ x.2.1 = .frow sz xs) ∨ (∃ cs, (sget S x.1).box = .var cs ∧ x.2.1 = .fvar cs) ∨ ((sget S x.1).box = x.2.1 ∧ x.2.1.isF = true))

theorem appB_append (b c : List (Nat × Body × Nat)) : ∀ S, appB (b ++ c) S = appB c (appB b S) := by
  induction b with
  | nil => intro S; rfl
  | cons x r ih => intro S; exact ih _

theorem flat_get {sz : Nat} : ∀ (xs : List D), (∀ x ∈ xs, x.cells.length = sz) → ∀ (i : Nat) x (j : Nat) y, xs[i]? = some x → x.cells[j]? = some y → (xs.flatMap D.cells)[i * sz + j]? = some y
  | [], _, i, x, j, y, hx, _ => by simp at hx
  | z :: r, hs, 0, x, j, y, hx, hy => by
    simp at hx
    subst hx
    have hl : j < z.cells.length := by
      rcases Nat.lt_or_ge j z.cells.length with h | h
      · exact h
      · simp [List.getElem?_eq_none h] at hy
    simp [List.flatMap_cons, List.getElem?_append_left hl, hy]
  | z :: r, hs, i + 1, x, j, y, hx, hy => by
    have hz : z.cells.length = sz := hs z (by simp)
    have ih := flat_get r (fun x hx => hs x (by simp [hx])) i x j y (by simpa using hx) hy
    rw [List.flatMap_cons, List.getElem?_append_right (by rw [hz, Nat.add_mul]; omega), ← ih]
    congr 1
    rw [hz, Nat.add_mul]
    omega

theorem flat_length {sz : Nat} : ∀ (xs : List D), (∀ x ∈ xs, x.cells.length = sz) → (xs.flatMap D.cells).length = xs.length * sz
  | [], _ => by simp
  | z :: r, hs => by
    rw [List.flatMap_cons, List.length_append, hs z (by simp), flat_length r (fun x hx => hs x (by simp [hx])), List.length_cons, Nat.add_mul]
    omega

/-- A row of the frame's own, as data. -/
theorem row_list {O O' : Nat → Prop} {w w' : World} {base : Nat} {e : TypeId} {sz : Nat} {v : Value} {xs : List D} {vals : List Value} (k : Kept O O' w w') (hsz : 0 < sz)
    (hs : ∀ x ∈ xs, x.cells.length = sz) (hr : RowRep w' base e sz v xs.length vals) (hl : RepL O' w' vals (xs.flatMap D.cells)) (hO : ∀ b, blkOf v = some b → ¬ O' b) :
    RepD O' w' v (.list sz xs) := by
  by_cases hx : xs = []
  · subst hx
    rcases hr with ⟨_, ⟨hv, _⟩ | ⟨g, cap, cur, hv, _⟩⟩ | ⟨_, _, ad, hv⟩ <;> (rw [hv]; exact .emp _ _ _)
  · have hpos : 0 < xs.length := List.length_pos_iff.2 hx
    rcases hr with ⟨hlen, ⟨hv, h0⟩ | ⟨g, cap, cur, hv, hbg, hh, hn, hm, hcs, ht⟩⟩ | ⟨h0, _⟩
    · omega
    · have hcap : cap ≠ 0 := by omega
      have hlt : g < w'.heap.size := by
        rcases Nat.lt_or_ge g w'.heap.size with h' | h'
        · exact h'
        · simp [Array.getElem?_eq_none h'] at hh
      subst hv
      have key : ∀ (i : Nat) x (j : Nat) y, xs[i]? = some x → x.cells[j]? = some y → ∃ u, vals[i * sz + j]? = some u ∧ w'.cell? ⟨g, 0 + i * sz + j, none⟩ = some u ∧ RepD O' w' u y ∧ y.one = true := by
        intro i x j y hx hy
        have hf := flat_get xs hs i x j y hx hy
        have hlt : i * sz + j < vals.length := by
          rw [hl.1]
          rcases Nat.lt_or_ge (i * sz + j) (xs.flatMap D.cells).length with h | h
          · exact h
          · simp [List.getElem?_eq_none h] at hf
        have hu : vals[i * sz + j]? = some vals[i * sz + j] := List.getElem?_eq_getElem hlt
        refine ⟨_, hu, ?_, hl.2 _ _ _ hu hf⟩
        rw [← hu, ← ht, List.getElem?_take_of_lt (by rw [← hlen]; exact hlt)]
        simp [World.cell?, hh]
      refine .list g 0 cap sz xs (fun i j => vals.getD (i * sz + j) undef) hx hlt (hO g (by simp [blkOf, hcap])) hn hs ?_ ?_ ?_
      · intro x hx y hy
        obtain ⟨i, hi⟩ := List.mem_iff_getElem?.1 hx
        obtain ⟨j, hj⟩ := List.mem_iff_getElem?.1 hy
        obtain ⟨u, _, _, _, h1⟩ := key i x j y hi hj
        exact h1
      · intro i x j y hx hy
        obtain ⟨u, h1, h2, h3, _⟩ := key i x j y hx hy
        rw [h2]; simp [List.getD, h1]
      · intro i x j y hx hy
        obtain ⟨u, h1, h2, h3, _⟩ := key i x j y hx hy
        simpa [List.getD, h1] using h3
    · omega

theorem var_ptr {O' : Nat → Prop} {w : World} {b : Nat} {vals : Array Value} {T : TypeId} {cs : List D} (hh : w.heap[b]? = some (.cells vals T (0, 0))) (hl : RepL O' w vals.toList cs) (hO : ¬ O' b) (o : Nat) :
    RepP O' w (.pointer (some ⟨b, o, none⟩)) (cs.drop o) := by
  refine ⟨b, o, rfl, fun j y hy => ?_⟩
  have hlt : b < w.heap.size := by
    rcases Nat.lt_or_ge b w.heap.size with h' | h'
    · exact h'
    · simp [Array.getElem?_eq_none h'] at hh
  simp only [List.getElem?_drop] at hy
  have hj : o + j < vals.toList.length := by
    rw [hl.1]
    rcases Nat.lt_or_ge (o + j) cs.length with h | h
    · exact h
    · simp [List.getElem?_eq_none h] at hy
  have hv := hl.2 (o + j) vals.toList[o + j] y (List.getElem?_eq_getElem hj) hy
  refine ⟨hlt, hO, vals.toList[o + j], ?_, hv⟩
  simp [World.cell?, hh, Array.getElem?_eq_getElem (by simpa using hj)]

theorem freeze_one (h : SimB base O₀ w₀ G β S a w) {x : Nat × Body × Nat} (hx : (sget S x.1).ver = x.2.2 ∧ ((∃ sz e xs, (sget S x.1).box = .row sz e xs ∧ x.2.1 = .frow sz xs) ∨ (∃ cs, (sget S x.1).box = .var cs ∧ x.2.1 = .fvar cs) ∨ ((sget S x.1).box = x.2.1 ∧ x.2.1.isF = true))) :
    SimB base O₀ w₀ G β (setBox S x.1 x.2.1 x.2.2) a w ∧ ∀ b, OS β O₀ (setBox S x.1 x.2.1 x.2.2) b → OS β O₀ S b := by
  obtain ⟨id, B, n⟩ := x
  simp only at hx ⊢
  obtain ⟨hn, hx⟩ := hx
  have hid : id < S.length := by
    rcases hx with ⟨sz, e, xs, h1, _⟩ | ⟨cs, h1, _⟩ | ⟨h1, h2⟩
    · exact id_lt h1 (by simp)
    · exact id_lt h1 (by simp)
    · exact id_lt h1 (Body.isF_ne h2)
  have hO : ∀ b, OS β O₀ (setBox S id B n) b → OS β O₀ S b := by
    intro b h'
    rcases h' with h' | ⟨i, h1, h2⟩
    · exact .inl h'
    · refine .inr ⟨i, ?_, h2⟩
      rw [sget_setBox] at h1
      split at h1
      · rename_i e
        rw [e.1]
        rcases hx with ⟨sz, e, xs, h3, h4⟩ | ⟨cs, h3, h4⟩ | ⟨h3, _⟩
        · simp [h4, Body.owned] at h1
        · simp [h4, Body.owned] at h1
        · rw [h3]; exact h1
      · exact h1
  refine ⟨?_, hO⟩
  rcases hx with ⟨sz, e, xs, h3, h4⟩ | ⟨cs, h3, h4⟩ | ⟨h3, h4⟩
  · subst h4
    have hno : ∀ b, blkOf (β id) = some b → ¬ OS β O₀ (setBox S id (.frow sz xs) n) b := by
      intro b hb h'
      rcases h' with h' | ⟨i, h1, h2⟩
      · have := h.o₀ b h'; have := (h.blk (i := id) (by rw [h3]; rfl) hb).1; omega
      · rw [sget_setBox] at h1
        split at h1
        · simp [Body.owned] at h1
        · rename_i e
          exact e ⟨h.inj i id b h1 (by rw [h3]; rfl) h2 hb, hid⟩
    have hr := h.rebox (id := id) (B := .frow sz xs) (v := β id) (n := n) (w' := w) hid (.inr ⟨hn.symm, rfl⟩) (Nat.le_refl _) (Below.refl _ _) (fun _ _ _ => rfl) (by simp [Body.owned])
      (fun k => by
        rw [upd_same] at k ⊢
        have hb := h.boxes id
        rw [h3] at hb
        obtain ⟨h1, h2, vals, h5, h6⟩ := hb
        exact row_list k h1 h2 h5 (h6.mono k) hno)
    rw [upd_same] at hr
    exact hr
  · subst h4
    have hb := h.boxes id
    rw [h3] at hb
    obtain ⟨b, vals, T, h5, h6, h7, h8⟩ := hb
    have hno : ¬ OS β O₀ (setBox S id (.fvar cs) n) b := by
      intro h'
      rcases h' with h' | ⟨i, h1, h2⟩
      · have := h.o₀ b h'; omega
      · rw [sget_setBox] at h1
        split at h1
        · simp [Body.owned] at h1
        · rename_i e
          exact e ⟨h.inj i id b h1 (by rw [h3]; rfl) h2 (by rw [h5]; rfl), hid⟩
    have hr := h.rebox (id := id) (B := .fvar cs) (v := β id) (n := n) (w' := w) hid (.inr ⟨hn.symm, rfl⟩) (Nat.le_refl _) (Below.refl _ _) (fun _ _ _ => rfl) (by simp [Body.owned])
      (fun k => by
        rw [upd_same] at k ⊢
        refine ⟨?_, b, h5⟩
        rw [h5]
        exact var_ptr h7 (h8.mono k) hno 0)
    rw [upd_same] at hr
    exact hr
  · have e : setBox S id B n = S := by
      apply List.ext_getElem?
      intro i
      have key : ∀ (S : AS) (id i : Nat), (sget S id).box = B → (sget S id).ver = n → (setBox S id B n)[i]? = S[i]? := by
        intro S
        induction S with
        | nil => intro id i _ _; rfl
        | cons s r ih =>
          intro id i hb hv
          cases id with
          | zero => simp only [sget] at hb hv; subst hb; subst hv; rfl
          | succ id =>
            cases i with
            | zero => rfl
            | succ i => simp only [setBox, List.getElem?_cons_succ]; exact ih id i hb hv
      exact key S id i h3 hn
    rw [e]
    exact h

theorem FZ.keep {b : List (Nat × Body × Nat)} {x : Nat × Body × Nat} (hx : FZ S (x :: b)) : FZ (setBox S x.1 x.2.1 x.2.2) b := by
  intro y hy
  have h1 := hx x (by simp)
  have h2 := hx y (by simp [hy])
  rw [sget_setBox]
  split
  · rename_i e
    rw [e.1] at h2
    simp only
    refine ⟨h1.1.symm.trans h2.1, .inr (.inr ?_)⟩
    rcases h1.2 with ⟨sz, e', xs, h3, h4⟩ | ⟨cs, h3, h4⟩ | ⟨h3, h4⟩ <;> rcases h2.2 with ⟨sz', e'', xs', h5, h6⟩ | ⟨cs', h5, h6⟩ | ⟨h5, h6⟩ <;> simp_all [Body.isF]
    all_goals first | (subst_vars; simp_all [Body.isF]; done) | (rw [← h5] at *; simp_all [Body.isF]; done) | (rw [← h3] at *; simp_all [Body.isF]; done)
  · exact h2

theorem FZ.sim (h : SimB base O₀ w₀ G β S a w) : ∀ {b : List (Nat × Body × Nat)}, FZ S b → SimB base O₀ w₀ G β (appB b S) a w ∧ ∀ k, OS β O₀ (appB b S) k → OS β O₀ S k := by
  intro b
  induction b generalizing S with
  | nil => intro _; exact ⟨h, fun _ h => h⟩
  | cons x r ih =>
    intro hx
    obtain ⟨h1, h2⟩ := freeze_one h (hx x (by simp))
    obtain ⟨h3, h4⟩ := ih h1 hx.keep
    exact ⟨h3, fun k hk => h2 k (h4 k hk)⟩

theorem FZ.mem {b : List (Nat × Body × Nat)} : ∀ {S : AS}, FZ S b → ∀ x ∈ b, (∃ sz xs, x.2.1 = .frow sz xs) ∨ (∃ cs, x.2.1 = .fvar cs) → (sget (appB b S) x.1).box = x.2.1 := by
  induction b with
  | nil => intro S _ x hx; cases hx
  | cons y r ih =>
    intro S hf x hx hfr
    simp only [appB]
    rcases List.mem_cons.1 hx with rfl | hx
    · -- it stays as it is
      have stay : ∀ (r : List (Nat × Body × Nat)) (S : AS), FZ S r → (sget S x.1).box = x.2.1 → (sget (appB r S) x.1).box = x.2.1 := by
        intro r
        induction r with
        | nil => intro S _ h; exact h
        | cons z r ih =>
          intro S hf h
          refine ih _ hf.keep ?_
          rw [sget_setBox]
          split
          · rename_i e
            have h1 := (hf z (by simp)).2
            rw [← e.1] at h1
            simp only
            rcases h1 with ⟨sz, e', xs, h3, h4⟩ | ⟨cs, h3, h4⟩ | ⟨h3, h4⟩
            · rcases hfr with ⟨_, _, h5⟩ | ⟨_, h5⟩ <;> simp_all
            · rcases hfr with ⟨_, _, h5⟩ | ⟨_, h5⟩ <;> simp_all
            · rw [← h3, h]
          · exact h
      refine stay r _ hf.keep ?_
      rw [sget_setBox]
      have hid : x.1 < S.length := by
        rcases (hf x (by simp)).2 with ⟨sz, e, xs, h1, _⟩ | ⟨cs, h1, _⟩ | ⟨h1, h2⟩
        · exact id_lt h1 (by simp)
        · exact id_lt h1 (by simp)
        · exact id_lt h1 (Body.isF_ne h2)
      simp [hid]
    · exact ih hf.keep x hx hfr

theorem FZ.ver {b : List (Nat × Body × Nat)} : ∀ {S : AS}, FZ S b → ∀ i, (sget (appB b S) i).ver = (sget S i).ver := by
  induction b with
  | nil => intro S _ i; rfl
  | cons y r ih =>
    intro S hf i
    simp only [appB]
    rw [ih hf.keep i, sget_setBox]
    split
    · rename_i e
      rw [e.1]; exact (hf y (by simp)).1.symm
    · rfl
theorem FZ.other {b : List (Nat × Body × Nat)} : ∀ {S : AS}, FZ S b → ∀ i, (∀ x ∈ b, x.1 ≠ i) → sget (appB b S) i = sget S i := by
  induction b with
  | nil => intro S _ i _; rfl
  | cons y r ih =>
    intro S hf i hi
    simp only [appB]
    rw [ih hf.keep i (fun x hx => hi x (by simp [hx])), sget_setBox, if_neg (fun e => hi y (by simp) e.1.symm)]
theorem length_appB : ∀ (b : List (Nat × Body × Nat)) (S : AS), (appB b S).length = S.length
  | [], _ => rfl
  | x :: r, S => by simp only [appB]; rw [length_appB r, length_setBox]

theorem Kept.of_sub {O O' : Nat → Prop} {w : World} (h : ∀ b, O' b → O b) : Kept O O' w w := ⟨Nat.le_refl _, fun b _ hb => h b hb, fun _ _ _ => rfl⟩

/-- As data, with what is given up for it. -/
theorem asD_sound {r : RV} {v : Value} (hr : RepR β (OS β O₀ S) S w v r) {K : D → List (Nat × Body × Nat) → Prop} (hy : asD r K) :
    ∃ x b, K x b ∧ FZ S b ∧ (∀ y ∈ b, ∃ sz xs, y.2.1 = .frow sz xs) ∧ ∀ B, (∀ y ∈ b, y ∈ B) → FZ S B → SimB base O₀ w₀ G β (appB B S) a w → (∀ k, OS β O₀ (appB B S) k → OS β O₀ S k) → RepD (OS β O₀ (appB B S)) w v x := by
  cases r <;> simp only [asD] at hy
  case d x => exact ⟨x, [], hy, fun _ h => by simp at h, fun _ h => by simp at h, fun B _ _ _ hk => RepD.mono (Kept.of_sub hk) hr⟩
  case lim sz xs => exact ⟨_, [], hy, fun _ h => by simp at h, fun _ h => by simp at h, fun B _ _ _ hk => RepD.mono (Kept.of_sub hk) hr.1⟩
  case row id n sz e xs =>
    obtain ⟨h1, h2, h3⟩ := hr
    refine ⟨_, _, hy, fun x hx => ?_, fun x hx => ⟨sz, xs, by simp at hx; subst hx; rfl⟩, fun B hB hF hS _ => ?_⟩
    · simp at hx; subst hx; exact ⟨h2, .inl ⟨sz, e, xs, h1, rfl⟩⟩
    · have := hF.mem (id, .frow sz xs, n) (hB _ (by simp)) (.inl ⟨sz, xs, rfl⟩)
      have hb := hS.boxes id
      simp only at this
      rw [this] at hb
      rw [h3]; exact hb
end
end Go.Abs
