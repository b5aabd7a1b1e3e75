/-
  The abstract machine: regions in the order of the text, code, functions.
-/
import Derived.Test.YtbhpfidifbbggaaAbsOne
import Derived.Tactics
namespace Go.Abs
open Go.RowKit (Below)

theorem forceAV_eq (v : AV) (K : AV → Prop) : forceAV v K = K v := by
  cases v <;> simp only [forceAV, forceN_eq]
  case under t w x => cases x <;> simp only [forceN_eq]
theorem forceB_eq (b : Body) (K : Body → Prop) : forceB b K = K b := by
  cases b <;> simp only [forceB, forceN_eq]
theorem forceAS_eq : ∀ (S : AS) (K : AS → Prop), forceAS S K = K S
  | [], _ => rfl
  | ⟨_, _, _⟩ :: r, K => by rw [forceAS, forceAS_eq r]; simp only [forceAV_eq, forceB_eq, forceN_eq]
theorem forceNL_eq : ∀ (l : List Nat) (K : List Nat → Prop), forceNL l K = K l
  | [], _ => rfl
  | x :: r, K => by rw [forceNL, forceNL_eq r]
theorem setAVK_eq : ∀ (S : AS) (d : Nat) (v : AV) (K : AS → Prop), setAVK S d v K = K (setAV S d v)
  | [], _, _, _ => rfl
  | ⟨_, _, _⟩ :: _, 0, _, _ => rfl
  | s :: r, d + 1, v, K => by rw [setAVK, setAVK_eq r]; rfl
theorem setBoxK_eq : ∀ (S : AS) (d : Nat) (b : Body) (n : Nat) (K : AS → Prop), setBoxK S d b n K = K (setBox S d b n)
  | [], _, _, _, _ => rfl
  | ⟨_, _, _⟩ :: _, 0, _, _, _ => rfl
  | s :: r, d + 1, b, n, K => by rw [setBoxK, setBoxK_eq r]; rfl
theorem boxesK_eq : ∀ (b : List (Nat × Body × Nat)) (S : AS) (K : AS → Prop), boxesK b S K = K (appB b S)
  | [], _, _ => rfl
  | (id, b, n) :: r, S, K => by rw [boxesK, forceN_eq, forceB_eq, setBoxK_eq, boxesK_eq r]; rfl
theorem appK_eq (dst : Option Nat) (e : Eff) (S : AS) (K : AS → Prop) : appK dst e S K = K (app dst e S) := by
  obtain ⟨v, bx⟩ := e
  cases dst with
  | none => simp only [appK, boxesK_eq]; rfl
  | some d => simp only [appK, forceAV_eq, boxesK_eq, setAVK_eq]; rfl
theorem verK_eq : ∀ (S : AS) (d : Nat) (K : Nat → Prop), verK S d K → d < S.length ∧ K (sget S d).ver
  | [], _, _, h => h.elim
  | ⟨_, _, _⟩ :: _, 0, _, h => ⟨by simp, h⟩
  | s :: r, d + 1, K, h => by
    obtain ⟨h1, h2⟩ := verK_eq r d K h
    exact ⟨by simpa using h1, h2⟩
theorem dstOf_eq : ∀ (l : List Oper) (j : Nat), dstOf l j = (l[j]?).bind (·.dst)
  | [], _ => rfl
  | _ :: _, 0 => rfl
  | _ :: r, j + 1 => by simp only [dstOf, List.getElem?_cons_succ]; exact dstOf_eq r j

section
variable {P : Program} {base : Nat} {O₀ : Nat → Prop} {w₀ : World} {G : Nat → Prop} {β : Nat → Value} {S : AS} {a : Act} {w : World} {o : Oper}

def PostG (base : Nat) (O₀ : Nat → Prop) (w₀ : World) (G : Nat → Prop) (S : AS) (a : Act) (e : Eff) (v : Value) (w' : World) : Prop :=
  ∃ β', SimB base O₀ w₀ G β' (appB e.bx S) a w' ∧ RepA β' (verOf (appB e.bx S)) (OS β' O₀ (appB e.bx S)) w' a.tmps v e.av ∧ ∀ u ∈ e.av.guards, G u

/-- The model's operation, guard and all, has the effect e. -/
def OpOK (P : Program) (ops : Array Oper) (base : Nat) (O₀ : Nat → Prop) (w₀ : World) (G : Nat → Prop) (S : AS) (a : Act) (w : World) (o : Oper) (e : Eff) : Prop :=
  (Region.wanted o (yielded ops a.tmps) = true ∧
    ((∃ v w', (execOp a.eval o).run P w = .ok (.value v) w' ∧ PostG base O₀ w₀ G S a e v w') ∨
     (∃ w', (execOp a.eval o).run P w = .ok .skip w' ∧ PostG base O₀ w₀ G S a e undef w') ∨
     (∃ f args, (execOp a.eval o).run P w = .ok (.enter f args) w ∧ Calls P f args w fun e' w' => ∃ v, e' = .returned v ∧ PostG base O₀ w₀ G S a e v w'))) ∨
  (Region.wanted o (yielded ops a.tmps) = false ∧ PostG base O₀ w₀ G S a e undef w)

theorem PostE.toG {e : Eff} {v : Value} {w' : World} (h : PostE base O₀ w₀ G S a e v w') : PostG base O₀ w₀ G S a e v w' := by
  obtain ⟨β', h1, h2, h3⟩ := h
  exact ⟨β', h1, h2, by rw [h3]; simp⟩
theorem PostE.toU {e : Eff} {v : Value} {w' : World} {t : Nat} {want : Bool} (ht : G t) (h : PostE base O₀ w₀ G S a e v w') : PostG base O₀ w₀ G S a ⟨.under t want e.av, e.bx⟩ v w' := by
  obtain ⟨β', h1, h2, h3⟩ := h
  refine ⟨β', h1, fun _ => h2, ?_⟩
  intro u hu
  simp only [AV.guards, h3, List.mem_singleton] at hu
  rw [hu]; exact ht

theorem Does.to {ops : Array Oper} {e e' : Eff} (hw : Region.wanted o (yielded ops a.tmps) = true) (hd : Does P base O₀ w₀ G S a w o e)
    (hp : ∀ v w', PostE base O₀ w₀ G S a e v w' → PostG base O₀ w₀ G S a e' v w') : OpOK P ops base O₀ w₀ G S a w o e' := by
  refine .inl ⟨hw, ?_⟩
  rcases hd with ⟨v, w', h1, h2⟩ | ⟨w', h1, h2⟩ | ⟨f, args, h1, h2⟩
  · exact .inl ⟨v, w', h1, hp v w' h2⟩
  · exact .inr (.inl ⟨w', h1, hp _ w' h2⟩)
  · exact .inr (.inr ⟨f, args, h1, h2.mono fun e' w' ⟨v, h3, h4⟩ => ⟨v, h3, hp v w' h4⟩⟩)

theorem dK_eq {x : Option Nat} {K : Nat → Prop} (h : dK x K) : K (x.getD 0) := by cases x <;> exact h
theorem setAV_same : ∀ (S : AS) (t : Nat) (v : AV), (sget S t).av = v → setAV S t v = S
  | [], _, _, _ => rfl
  | ⟨x, b, n⟩ :: r, 0, v, h => by simp only [sget] at h; subst h; rfl
  | s :: r, t + 1, v, h => by rw [setAV, setAV_same r t v h]

/-- The operation, guard and all: what the machine finds. -/
theorem opY_sound {ops : Array Oper} {done : List Nat} (h : SimB base O₀ w₀ (· ∈ done) β S a w) {K : AS → Eff → Prop} (hy : opY P ops.toList done o S K) :
    ∃ e, K S e ∧ OpOK P ops base O₀ w₀ (· ∈ done) S a w o e := by
  unfold opY at hy
  split at hy
  · rename_i hgd
    obtain ⟨hd, hy⟩ := verK_eq _ _ _ (dK_eq hy)
    obtain ⟨e, hK, hdo⟩ := yA_sound h (g := none) (fun _ _ e => by cases e) hd hy
    exact ⟨e, hK, hdo.to (by simp [Region.wanted, hgd]) fun v w' hp => hp.toG⟩
  · rename_i j want hgd
    split at hy
    · exact hy.elim
    · rename_i t ht
      obtain ⟨hdone, hy⟩ := ite_false_prop hy
      have htd : t ∈ done := by simpa using hdone
      have hyl : yielded ops a.tmps j = (match a.tmps[t]? with | some (.bool b) => some b | _ => none) := by
        have : (ops[j]?).bind (·.dst) = some t := by rw [← ht, dstOf_eq]; simp
        simp only [yielded, this, Option.bind_some]
        cases a.tmps[t]? with
        | none => rfl
        | some v => cases v <;> rfl
      have hwant : Region.wanted o (yielded ops a.tmps) = true ↔ a.tmps[t]? = some (.bool want) := by
        simp only [Region.wanted, hgd, hyl]
        constructor
        · intro hh
          split at hh
          · rename_i b hb; simp at hh; rw [hb, hh]
          · simp at hh
        · intro hh; simp [hh]
      split at hy
      · rename_i hh
        obtain ⟨hd, hy⟩ := verK_eq _ _ _ (dK_eq hy)
        by_cases hw : a.tmps[t]? = some (.bool want)
        · obtain ⟨e, hK, hdo⟩ := yA_sound h (g := some (t, want)) (fun _ _ e => by cases e; exact hw) hd hy
          split at hK
          · exact ⟨_, hK, hdo.to (hwant.2 hw) fun v w' hp => hp.toU htd⟩
          · exact hK.elim
        · obtain ⟨e, hK, hgs⟩ := yA_harmless hh hy
          split at hK
          · rename_i v
            refine ⟨_, hK, .inr ⟨by rw [Bool.eq_false_iff]; exact fun hh => hw (hwant.1 hh), β, h, fun hh => absurd hh hw, ?_⟩⟩
            intro u hu
            simp only at hgs
            simp only [AV.guards, hgs, List.mem_singleton] at hu
            rw [hu]; exact htd
          · exact hK.elim
      · split at hy
        · rename_i b hb
          have hlt : t < S.length := by
            rcases Nat.lt_or_ge t S.length with h' | h'
            · exact h'
            · rw [sget_ge S t h'] at hb; simp [sl0] at hb
          have hlt' : t < a.tmps.size := by rw [h.len]; exact hlt
          have hs := h.slots t a.tmps[t] (by simp [hlt'])
          rw [hb] at hs
          have hbt : a.tmps[t]? = some (.bool b) := by rw [← repD_bool hs]; simp [hlt']
          -- the two ways
          have yes : b = want → dK o.dst (fun d => verK S d fun n => yA P (ρOf S) (some (t, want)) o d n (K S)) → ∃ e, K S e ∧ OpOK P ops base O₀ w₀ (· ∈ done) S a w o e := by
            intro hbw hy
            rw [hbw] at hbt
            obtain ⟨hd, hy⟩ := verK_eq _ _ _ (dK_eq hy)
            obtain ⟨e, hK, hdo⟩ := yA_sound h (g := some (t, want)) (fun _ _ e => by cases e; exact hbt) hd hy
            exact ⟨e, hK, hdo.to (hwant.2 hbt) fun v w' hp => hp.toG⟩
          have no : b ≠ want → K S ⟨.under t want .bot, []⟩ → ∃ e, K S e ∧ OpOK P ops base O₀ w₀ (· ∈ done) S a w o e := by
            intro hbw hK
            have hnw : a.tmps[t]? ≠ some (.bool want) := by rw [hbt]; simpa using hbw
            refine ⟨_, hK, .inr ⟨?_, β, h, fun hh => absurd hh hnw, fun u hu => by simp [AV.guards] at hu; rw [hu]; exact htd⟩⟩
            rw [Bool.eq_false_iff]
            exact fun hh => hnw (hwant.1 hh)
          cases want <;> cases b <;> simp only [bcase] at hy <;> rw [setAVK_eq, setAV_same S t _ hb] at hy
          · exact yes rfl hy
          · exact no (by simp) hy
          · exact no (by simp) hy
          · exact yes rfl hy
        · exact hy.elim

theorem SimB.weaken {G' : Nat → Prop} (h : SimB base O₀ w₀ G β S a w) (hG : ∀ t, G t → G' t) : SimB base O₀ w₀ G' β S a w :=
  { h with gds := fun t u hu => hG u (h.gds t u hu) }

/-- What a region's walk asks at an operation. -/
theorem OpOK.step {ops : Array Oper} {e : Eff} {K : Act → World → Prop} {Q : Exit → Act → World → Prop} {done : List Nat} (hd : ∀ d, o.dst = some d → d ∉ done) (h : OpOK P ops base O₀ w₀ (· ∈ done) S a w o e)
    (hK : ∀ β' a' w', SimB base O₀ w₀ (· ∈ dstList o.dst ++ done) β' (app o.dst e S) a' w' → K a' w') :
    if Region.wanted o (yielded ops a.tmps) then o.wp P a w K Q else K (a.put o.dst undef) w := by
  have fin : ∀ v w', PostG base O₀ w₀ (· ∈ done) S a e v w' → K (a.put o.dst v) w' := by
    intro v w' hp
    obtain ⟨β', h1, h2, h3⟩ := hp
    refine hK β' _ w' ?_
    cases hdst : o.dst with
    | none => exact h1
    | some d => exact (h1.put (hd d hdst) h2 h3).weaken fun t ht => by simp [ht]
  rcases h with ⟨hw, h⟩ | ⟨hw, h⟩
  · rw [if_pos hw]
    unfold Oper.wp
    rcases h with ⟨v, w', h1, h2⟩ | ⟨w', h1, h2⟩ | ⟨f, args, h1, h2⟩
    · rw [h1]; exact fin v w' h2
    · rw [h1]; exact fin undef w' h2
    · rw [h1]
      exact h2.mono fun e' w' ⟨v, h3, h4⟩ => by subst h3; exact fin v w' h4
  · rw [if_neg (by simp [hw])]
    exact fin undef w h

theorem opsA_sound {ops : Array Oper} {Q : Exit → Act → World → Prop} : ∀ {l : List Oper} {done : List Nat} {S : AS} {β : Nat → Value} {a : Act} {w : World} {K : AS → Prop},
    opsA P ops.toList done l S K → SimB base O₀ w₀ (· ∈ done) β S a w → (∀ β' S' a' w' (done' : List Nat), K S' → SimB base O₀ w₀ (· ∈ done') β' S' a' w' → Q .normal a' w') → wpList P ops Q l a w
  | [], done, S, β, a, w, K, hy, h, hQ => wpList_nil (hQ β S a w done hy h)
  | o :: r, done, S, β, a, w, K, hy, h, hQ => by
    obtain ⟨hnd, hy⟩ := ite_false_prop hy
    obtain ⟨e, hK, hok⟩ := opY_sound h hy
    rw [appK_eq, forceNL_eq] at hK
    refine wpList_step fun K' hK' => hok.step (fun d hd hm => ?_) fun β' a' w' h' => hK' _ _ (opsA_sound hK h' hQ)
    rw [hd] at hnd
    simp [dstList] at hnd
    exact hnd hm

/-! ### Behind a region -/
def plainSl (s : Sl) : Sl := match s with
  | ⟨.under _ _ _, b, n⟩ => ⟨.any, b, n⟩
  | s => s
theorem plain_eq : ∀ (S : AS) (K : AS → Prop), plain S K = K (S.map plainSl)
  | [], _ => rfl
  | s :: r, K => by
    rw [plain, plain_eq r]
    obtain ⟨v, b, n⟩ := s
    cases v <;> rfl
theorem sget_map_plain : ∀ (S : AS) (i : Nat), sget (S.map plainSl) i = plainSl (sget S i)
  | [], _ => rfl
  | _ :: _, 0 => rfl
  | _ :: r, i + 1 => sget_map_plain r i
theorem plainSl_box (s : Sl) : (plainSl s).box = s.box := by obtain ⟨v, b, n⟩ := s; cases v <;> rfl
theorem plainSl_ver (s : Sl) : (plainSl s).ver = s.ver := by obtain ⟨v, b, n⟩ := s; cases v <;> rfl

theorem SimB.plain (h : SimB base O₀ w₀ G β S a w) : SimB base O₀ w₀ (fun _ => False) β (S.map plainSl) a w := by
  have hO : OS β O₀ (S.map plainSl) = OS β O₀ S := by funext b; simp only [OS, sget_map_plain, plainSl_box]
  have hv : verOf (S.map plainSl) = verOf S := by funext i; simp only [verOf, sget_map_plain, plainSl_ver]
  refine ⟨by simp [h.len], h.df, h.below, h.hbase, h.o₀, ?_, ?_, ?_, ?_⟩
  · intro t v ht
    rw [hO, hv, sget_map_plain]
    have := h.slots t v ht
    generalize sget S t = s at this ⊢
    obtain ⟨x, b, n⟩ := s
    cases x <;> first | exact this | trivial
  · intro i; rw [hO, sget_map_plain, plainSl_box]; exact h.boxes i
  · intro i j b; rw [sget_map_plain, sget_map_plain, plainSl_box, plainSl_box]; exact h.inj i j b
  · intro t u hu
    rw [sget_map_plain] at hu
    generalize sget S t = s at hu
    obtain ⟨x, b, n⟩ := s
    cases x <;> simp [plainSl, AV.guards] at hu

/-! ### Weakening -/
theorem leSlot_sound {v v' : Nat → Nat} {x x' : AV} {K : Prop} (h : leSlot v v' x x' K) :
    K ∧ ∀ (β : Nat → Value) (O : Nat → Prop) (w : World) (tm : Array Value) (u : Value), RepA β v O w tm u x → RepA β v' O w tm u x' := by
  cases x' <;> simp only [leSlot] at h
  case any => exact ⟨h, fun _ _ _ _ _ _ => trivial⟩
  case d y =>
    split at h
    · obtain ⟨rfl, h⟩ := h; exact ⟨h, fun _ _ _ _ _ hr => hr⟩
    · obtain ⟨rfl, h⟩ := h; exact ⟨h, fun _ _ _ _ _ hr => hr.1⟩
    · exact h.elim
  case lim sz xs => obtain ⟨rfl, h⟩ := h; exact ⟨h, fun _ _ _ _ _ hr => hr⟩
  case cptr cs => obtain ⟨rfl, h⟩ := h; exact ⟨h, fun _ _ _ _ _ hr => hr⟩
  case tup xs => obtain ⟨rfl, h⟩ := h; exact ⟨h, fun _ _ _ _ _ hr => hr⟩
  case ptr id n o =>
    split at h
    · rename_i id' n' o'
      obtain ⟨⟨rfl, h1, h2⟩, rfl, h3⟩ := ite_false_prop h
      exact ⟨h3, fun _ _ _ _ _ hr => ⟨Nat.le_of_eq h2, fun _ => hr.2 h1⟩⟩
    · exact h.elim
  case sl id n =>
    split at h
    · rename_i id' n'
      obtain ⟨⟨rfl, h1, h2⟩, h3⟩ := ite_false_prop h
      exact ⟨h3, fun _ _ _ _ _ hr => ⟨Nat.le_of_eq h2, fun _ => hr.2 h1⟩⟩
    · exact h.elim

def leB (b b' : Body) : Prop := b' = .none ∨ b = b' ∨ (∃ sz e xs, b' = .frow sz xs ∧ b = .row sz e xs) ∨ ∃ cs, b' = .fvar cs ∧ b = .var cs
theorem leBox_sound {b b' : Body} {K : Prop} (h : leBox b b' K) : K ∧ leB b b' := by
  cases b' <;> simp only [leBox] at h
  case none => exact ⟨h, .inl rfl⟩
  case frow sz xs =>
    rcases h.1 with h1 | ⟨e, h1⟩
    · exact ⟨h.2, .inr (.inl h1)⟩
    · exact ⟨h.2, .inr (.inr (.inl ⟨sz, e, xs, rfl, h1⟩))⟩
  case fvar cs =>
    rcases h.1 with h1 | h1
    · exact ⟨h.2, .inr (.inl h1)⟩
    · exact ⟨h.2, .inr (.inr (.inr ⟨cs, rfl, h1⟩))⟩
  all_goals exact ⟨h.2, .inr (.inl h.1)⟩
theorem leBox_mk {b b' : Body} (h : leB b b') : leBox b b' True := by
  rcases h with h | h | ⟨sz, e, xs, h1, h2⟩ | ⟨cs, h1, h2⟩
  · rw [h]; trivial
  · subst h; cases b <;> simp [leBox]
  · subst h1; subst h2; exact ⟨.inr ⟨e, rfl⟩, trivial⟩
  · subst h1; subst h2; exact ⟨.inr rfl, trivial⟩

theorem leAll_sound {v v' : Nat → Nat} : ∀ {S S' : AS}, leAll v v' S S' → S.length = S'.length ∧ ∀ i, leSlot v v' (sget S i).av (sget S' i).av True ∧ leBox (sget S i).box (sget S' i).box True
  | [], [], _ => ⟨rfl, fun i => ⟨by simp [sget, sl0, leSlot], by simp [sget, sl0, leBox]⟩⟩
  | s :: r, s' :: r', h => by
    simp only [leAll] at h
    have h1 := leSlot_sound h
    have h2 := leBox_sound h1.1
    obtain ⟨h3, h4⟩ := leAll_sound h2.1
    refine ⟨by simp [h3], fun i => ?_⟩
    cases i with
    | zero =>
      simp only [sget]
      constructor
      · revert h
        cases s'.av <;> simp only [leSlot]
        case any => exact fun _ => trivial
        case d y =>
          split
          · exact fun h => ⟨h.1, trivial⟩
          · exact fun h => ⟨h.1, trivial⟩
          · exact fun h => h.elim
        case lim => exact fun h => ⟨h.1, trivial⟩
        case cptr => exact fun h => ⟨h.1, trivial⟩
        case tup => exact fun h => ⟨h.1, trivial⟩
        case ptr =>
          split
          · split
            · exact fun h => ⟨h.1, trivial⟩
            · exact fun h => h.elim
          · exact fun h => h.elim
        case sl =>
          split
          · split
            · exact fun _ => trivial
            · exact fun h => h.elim
          · exact fun h => h.elim
        all_goals exact fun h => h.elim
      · exact leBox_mk h2.2
    | succ i => exact h4 i

theorem SimB.le (h : SimB base O₀ w₀ (fun _ => False) β S a w) {S' : AS} (hl : Le S S') : SimB base O₀ w₀ (fun _ => False) β S' a w := by
  obtain ⟨hlen, hall⟩ := leAll_sound hl
  have hbx : ∀ i, leB (sget S i).box (sget S' i).box := fun i => (leBox_sound (hall i).2).2
  have hown : ∀ i, (sget S' i).box.owned = true → (sget S i).box.owned = true ∧ (sget S i).box = (sget S' i).box := by
    intro i ho
    rcases hbx i with h1 | h1 | ⟨sz, e, xs, h1, _⟩ | ⟨cs, h1, _⟩
    · rw [h1] at ho; cases ho
    · exact ⟨by rw [h1]; exact ho, h1⟩
    · rw [h1] at ho; cases ho
    · rw [h1] at ho; cases ho
  have hO : ∀ b, OS β O₀ S' b → OS β O₀ S b := by
    intro b hb
    rcases hb with hb | ⟨i, h1, h2⟩
    · exact .inl hb
    · exact .inr ⟨i, (hown i h1).1, h2⟩
  have hk : Kept (OS β O₀ S) (OS β O₀ S') w w := Kept.of_sub hO
  refine ⟨by rw [← hlen]; exact h.len, h.df, h.below, h.hbase, h.o₀, ?_, ?_, ?_, ?_⟩
  · intro t v ht
    have hr := h.slots t v ht
    have hs := (leSlot_sound (hall t).1).2 β (OS β O₀ S) w a.tmps v hr
    exact RepA.mono hk (fun _ => .inr ⟨rfl, rfl⟩) (fun _ _ => rfl) hs
  · intro i
    have hno : (sget S' i).box.owned = false → (sget S i).box.owned = true → ∀ b, blkOf (β i) = some b → ¬ OS β O₀ S' b := by
      intro h1 h2 b hb hh
      rcases hh with hh | ⟨j, h3, h4⟩
      · have := h.o₀ b hh; have := (h.blk h2 hb).1; omega
      · have := h.inj j i b (hown j h3).1 h2 h4 hb
        rw [this, h1] at h3; cases h3
    rcases hbx i with h1 | h1 | ⟨sz, e, xs, h1, h2⟩ | ⟨cs, h1, h2⟩
    · rw [h1]; trivial
    · rw [← h1]; exact (h.boxes i).mono hk rfl (fun _ _ _ _ => rfl)
    · have hb := h.boxes i
      rw [h1]
      have hno' := hno (by rw [h1]; rfl) (by rw [h2]; rfl)
      rw [h2] at hb
      obtain ⟨h3, h4, vals, h5, h6⟩ := hb
      exact row_list hk h3 h4 h5 (h6.mono hk) hno'
    · have hb := h.boxes i
      rw [h1]
      have hno' := hno (by rw [h1]; rfl) (by rw [h2]; rfl)
      rw [h2] at hb
      obtain ⟨b, vals, T, h3, _, h5, h6⟩ := hb
      refine ⟨?_, b, h3⟩
      rw [h3]
      exact var_ptr h5 (h6.mono hk) (hno' b (by rw [h3]; rfl)) 0
  · intro i j b hi hj
    exact h.inj i j b (hown i hi).1 (hown j hj).1
  · intro t u hu
    have := (hall t).1
    generalize (sget S' t).av = x' at hu this
    cases x' <;> simp [AV.guards] at hu
    simp [leSlot] at this

/-! ### Code -/
theorem cond_eval (h : SimB base O₀ w₀ (fun _ => False) β S a w) {c : Operand} {b : Bool} (hc : ρOf S none c = .d (.bool b)) : a.eval c = .bool b := by
  have := ρ_sound h (g := none) (fun _ _ e => by cases e) c
  rw [hc] at this
  exact repD_bool this

def SimQ (base : Nat) (O₀ : Nat → Prop) (w₀ : World) (Q : Exit → AS → Prop) (e : Exit) (a : Act) (w : World) : Prop := ∃ β S, Q e S ∧ SimB base O₀ w₀ (fun _ => False) β S a w

/-- Which regions the machine may take in the order of the text. -/
def RegionLaw (P : Program) : Prop := ∀ (id : Nat) (ops : Array Oper) (Q : Exit → AS → Prop) (S : AS) (base : Nat) (O₀ : Nat → Prop) (w₀ : World) (β : Nat → Value) (a : Act) (w : World),
  wpA P (.region id ops true) Q S → SimB base O₀ w₀ (fun _ => False) β S a w → (Code.region id ops true).wp P (SimQ base O₀ w₀ Q) a w

theorem least (p : Nat → Prop) : ∀ n, p n → ∃ m, p m ∧ ∀ k, p k → m ≤ k := by
  intro n
  induction n using Nat.strongRecOn with
  | _ n ih =>
    intro hn
    by_cases hk : ∃ k, k < n ∧ p k
    · obtain ⟨k, h1, h2⟩ := hk; exact ih k h1 h2
    · exact ⟨n, hn, fun k hk' => Nat.le_of_not_lt fun hlt => hk ⟨k, hlt, hk'⟩⟩

theorem wpA_sound (hdraw : RegionLaw P) : ∀ (c : Code) {Q : Exit → AS → Prop} {S : AS} {β : Nat → Value} {a : Act} {w : World}, wpA P c Q S → SimB base O₀ w₀ (fun _ => False) β S a w → c.wp P (SimQ base O₀ w₀ Q) a w
  | .skip, Q, S, β, a, w, hy, h => wp_skip ⟨β, S, hy, h⟩
  | .label _, Q, S, β, a, w, hy, h => wp_label ⟨β, S, hy, h⟩
  | .region id ops draw, Q, S, β, a, w, hy, h => by
    cases draw with
    | true => exact hdraw id ops Q S base O₀ w₀ β a w hy h
    | false =>
      have hy : opsA P ops.toList [] ops.toList S fun S => plain S (Q .normal) := hy
      refine wp_region_list (opsA_sound hy (h.weaken fun _ hf => hf.elim) fun β' S' a' w' done' hK hs => ?_)
      rw [plain_eq] at hK
      exact ⟨β', _, hK, hs.plain⟩
  | .seq x y, Q, S, β, a, w, hy, h => by
    have hy : wpA P x (fun e S => match e with | .normal => wpA P y Q S | e => Q e S) S := hy
    refine wp_seq (wp_mono (wpA_sound hdraw x hy h) fun e a' w' hq => ?_)
    obtain ⟨β', S', hq, hs⟩ := hq
    cases e with
    | normal => exact wpA_sound hdraw y hq hs
    | exit id => exact ⟨β', S', hq, hs⟩
    | goto l => exact ⟨β', S', hq, hs⟩
    | ret => exact ⟨β', S', hq, hs⟩
    | panic ch => exact ⟨β', S', hq, hs⟩
    | outgrown => exact ⟨β', S', hq, hs⟩
  | .cond c x y, Q, S, β, a, w, hy, h => by
    have hy : match ρOf S none c with
      | .d (.bool b) => bcase b (wpA P x Q S) (wpA P y Q S)
      | _ => False := hy
    split at hy
    · rename_i b hb
      exact wp_cond_split (cond_eval h hb) (fun ht => wpA_sound hdraw x (hy.pos ht) h) (fun hf => wpA_sound hdraw y (hy.neg hf) h)
    · exact hy.elim
  | .ret, Q, S, β, a, w, hy, h => wp_ret ⟨β, S, hy, h⟩
  | .block id c, Q, S, β, a, w, hy, h => by
    have hy : wpA P c (fun e S => match e with | .exit id' => if id' = id then Q .normal S else Q (.exit id') S | e => Q e S) S := hy
    refine wp_block (wp_mono (wpA_sound hdraw c hy h) fun e a' w' hq => ?_)
    obtain ⟨β', S', hq, hs⟩ := hq
    cases e with
    | exit id' =>
      simp only [Exit.inBlock] at hq ⊢
      split
      · rename_i he; rw [if_pos he] at hq; exact ⟨β', S', hq, hs⟩
      · rename_i he; rw [if_neg he] at hq; exact ⟨β', S', hq, hs⟩
    | normal => exact ⟨β', S', hq, hs⟩
    | goto l => exact ⟨β', S', hq, hs⟩
    | ret => exact ⟨β', S', hq, hs⟩
    | panic ch => exact ⟨β', S', hq, hs⟩
    | outgrown => exact ⟨β', S', hq, hs⟩
  | .exit id, Q, S, β, a, w, hy, h => wp_exit ⟨β, S, hy, h⟩
  | .loop c, Q, S, β, a, w, hy, h => by
    have hy : Hold (∃ (ι : Type) (Inv : ι → AS) (μ : ι → Nat) (i : ι), Le S (Inv i) ∧
      ∀ i, forceAS (Inv i) (wpA P c (fun e S => match e with | .normal => ∃ j, Le S (Inv j) ∧ μ j < μ i | e => Q e S))) := hy
    obtain ⟨ι, Inv, μ, i₀, hle, hround⟩ := hy.go
    simp only [forceAS_eq] at hround
    let I : Act → World → Nat → Prop := fun a w n => ∃ i β, μ i = n ∧ SimB base O₀ w₀ (fun _ => False) β (Inv i) a w
    have hex : ∃ n, I a w n := ⟨_, i₀, β, rfl, h.le hle⟩
    have spec : ∀ a w, (∃ n, I a w n) → I a w (Classical.epsilon fun m => I a w m ∧ ∀ k, I a w k → m ≤ k) ∧ ∀ k, I a w k → (Classical.epsilon fun m => I a w m ∧ ∀ k, I a w k → m ≤ k) ≤ k :=
      fun a w ⟨n, hn⟩ => Classical.epsilon_spec (p := fun m => I a w m ∧ ∀ k, I a w k → m ≤ k) (least (I a w) n hn)
    refine wp_loop (fun a w => ∃ n, I a w n) (fun a w => Classical.epsilon fun m => I a w m ∧ ∀ k, I a w k → m ≤ k) hex fun a w hI => ?_
    obtain ⟨i, β, hi, hs⟩ := (spec a w hI).1
    refine wp_mono (wpA_sound hdraw c (hround i) hs) fun e a' w' hq => ?_
    obtain ⟨β', S', hq, hs'⟩ := hq
    cases e with
    | normal =>
      obtain ⟨j, hlj, hlt⟩ := hq
      have hI' : I a' w' (μ j) := ⟨j, β', rfl, hs'.le hlj⟩
      refine ⟨⟨_, hI'⟩, ?_⟩
      have := (spec a' w' ⟨_, hI'⟩).2 _ hI'
      rw [← hi]
      exact Nat.lt_of_le_of_lt this hlt
    | exit id => exact ⟨β', S', hq, hs'⟩
    | goto l => exact ⟨β', S', hq, hs'⟩
    | ret => exact ⟨β', S', hq, hs'⟩
    | panic ch => exact ⟨β', S', hq, hs'⟩
    | outgrown => exact ⟨β', S', hq, hs'⟩
  | .scope _, _, _, _, _, _, hy, _ => hy.elim
  | .goto _, _, _, _, _, _, hy, _ => hy.elim
  | .refuse _, _, _, _, _, _, hy, _ => hy.elim
  | .rangeFunc _ _ _ _, _, _, _, _, _, hy, _ => hy.elim
end
end Go.Abs
