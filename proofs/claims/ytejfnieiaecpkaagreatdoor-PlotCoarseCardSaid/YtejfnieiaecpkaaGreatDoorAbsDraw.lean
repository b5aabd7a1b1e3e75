/-
  The abstract machine: a region whose order is open comes to one end, whatever the order.
-/
import Derived.Test.YtejfnieiaecpkaaGreatDoorAbsGood
set_option linter.unusedVariables false
set_option linter.unusedSimpArgs false
namespace Go.Abs
open Go.RowKit (Below)

def agS (S T : AS) (t : Nat) : Prop := (sget S t).av = (sget T t).av
def agB (S T : AS) (b : Nat) : Prop := (sget S b).box = (sget T b).box ∧ (sget S b).ver = (sget T b).ver

theorem verK_mk : ∀ (S : AS) (d : Nat) (K : Nat → Prop), d < S.length → K (sget S d).ver → verK S d K
  | [], _, _, h, _ => by simp at h
  | ⟨_, _, _⟩ :: _, 0, _, _, h => h
  | s :: r, d + 1, K, hd, h => verK_mk r d K (by simpa using hd) h
theorem dK_mk {x : Option Nat} {K : Nat → Prop} (h : K (x.getD 0)) : dK x K := by cases x <;> exact h

theorem refs_unw (g : Option (Nat × Bool)) (v : AV) : ∀ i ∈ refs (unw g v), i ∈ refs v := by
  cases v <;> try (intro i hi; exact hi)
  case under t w y =>
    intro i hi
    simp only [unw] at hi
    cases g with
    | none => simp [refs] at hi
    | some p =>
      obtain ⟨t', w'⟩ := p
      simp only at hi
      split at hi
      · exact hi
      · simp [refs] at hi

theorem cellRefs_mem : ∀ {cs : List C} {id n : Nat}, C.sl id n ∈ cs → id ∈ cellRefs cs
  | [], _, _, h => by simp at h
  | c :: r, id, n, h => by
    rcases List.mem_cons.1 h with h | h
    · subst h; simp [cellRefs]
    · have := cellRefs_mem h
      cases c <;> simp [cellRefs, this]
theorem res_congr {S T : AS} {v : AV} (h : ∀ i ∈ refs v, agB S T i) : res S v = res T v := by
  cases v <;> try rfl
  case ptr id n o =>
    obtain ⟨h1, h2⟩ := h id (by simp [refs])
    simp only [res]
    generalize sget S id = s at *
    generalize sget T id = t at *
    obtain ⟨_, b, m⟩ := s
    obtain ⟨_, b', m'⟩ := t
    simp only at h1 h2
    subst h1; subst h2
    cases b <;> rfl
  case sl id n =>
    obtain ⟨h1, h2⟩ := h id (by simp [refs])
    simp only [res]
    generalize sget S id = s at *
    generalize sget T id = t at *
    obtain ⟨_, b, m⟩ := s
    obtain ⟨_, b', m'⟩ := t
    simp only at h1 h2
    subst h1; subst h2
    cases b <;> rfl
  case eptr id n sz i o =>
    obtain ⟨h1, h2⟩ := h id (by simp [refs])
    simp only [res]
    generalize sget S id = s at *
    generalize sget T id = t at *
    obtain ⟨_, b, m⟩ := s
    obtain ⟨_, b', m'⟩ := t
    simp only at h1 h2
    subst h1; subst h2
    cases b <;> rfl
  case cc k xs =>
    cases k with
    | none => rfl
    | some f =>
      simp only [res]
      split
      · rename_i j id n hat
        obtain ⟨h1, h2⟩ := h id (by simp only [refs]; exact cellRefs_mem (List.mem_of_getElem? (slAt_get hat)))
        generalize sget S id = s at *
        generalize sget T id = t at *
        obtain ⟨_, b, m⟩ := s
        obtain ⟨_, b', m'⟩ := t
        simp only at h1 h2
        subst h1; subst h2
        cases b <;> try rfl
        rename_i cs
        match cs with
        | [] => rfl
        | [.d _] => rfl
        | [.sl _ _] => rfl
        | [.own _ _ _] => rfl
        | .d _ :: _ :: _ => rfl
        | .sl _ _ :: _ :: _ => rfl
        | .own _ _ _ :: _ :: _ => rfl
      · rfl

/-- All that an operation with this effect looks at, of boxes. -/
def RR (S : AS) (all : List Oper) (o : Oper) (e : Eff) : List Nat := boxR S (looks all o) o ++ e.homes.map (·.1)

theorem homesOK_congr {S T : AS} (hl : S.length = T.length) : ∀ {hs : List (Nat × Nat)}, (∀ b ∈ hs.map (·.1), agB S T b) → homesOK S hs = homesOK T hs
  | [], _ => rfl
  | (h, n) :: r, hb => by
    simp only [homesOK]
    rw [hl, (hb h (by simp)).2, homesOK_congr hl fun b hm => hb b (by simp only [List.map_cons, List.mem_cons]; exact .inr hm)]

theorem mem_opTmps : ∀ {l : List Operand} {t : Nat}, Operand.tmp t ∈ l → t ∈ opTmps l
  | [], _, h => by simp at h
  | x :: r, t, h => by
    rcases List.mem_cons.1 h with h | h
    · subst h; simp [opTmps]
    · have := mem_opTmps h
      cases x <;> simp [opTmps, this]

section
variable {P : Program} {all : List Oper} {o : Oper}

theorem ρ_congr {S T : AS} (hm : ptrMove S o = false) (h1 : ∀ t ∈ looks all o, agS S T t) (h2 : ∀ b ∈ boxR S (looks all o) o, agB S T b) : ∀ g x, x ∈ o.op.operands.toList → ρOf S g x = ρOf T g x := by
  intro g x hx
  unfold ρOf
  cases x with
  | tmp t =>
    have ht : t ∈ looks all o := by simp only [looks, List.mem_append]; exact .inr (mem_opTmps hx)
    simp only [ev]
    have ha := h1 t ht
    unfold agS at ha
    rw [← ha]
    refine res_congr fun i hi => h2 i ?_
    simp only [boxR, hm, List.mem_append, List.mem_flatMap]
    exact .inr ⟨t, ht, i, refs_unw g _ i hi, by simp [refs2]⟩
  | const v =>
    simp only [ev]
    refine res_congr fun i hi => ?_
    have := refs_unw g _ i hi
    exfalso
    revert this
    unfold cval
    split <;> simp [refs]
  | global q =>
    simp only [ev]
    refine res_congr fun i hi => ?_
    have := refs_unw g _ i hi
    exfalso
    revert this
    split <;> simp [refs]
  | func f =>
    simp only [ev]
    exact res_congr fun i hi => by have := refs_unw g _ i hi; simp [refs] at this

theorem res_vptr {S : AS} {v : AV} {id n o : Nat} {cs : List C} (h : res S v = .vptr id n o cs) : id ∈ refs v ∧ (sget S id).box = .var cs := by
  cases v <;> simp only [res] at h <;> try (cases h; done)
  case ptr id' n' o' =>
    split at h
    · rename_i m hs
      split at h
      · cases h; exact ⟨by simp [refs], by rw [hs]⟩
      · cases h
    · split at h <;> cases h
    · cases h
  case sl id' n' =>
    split at h
    · split at h <;> cases h
    · split at h <;> cases h
    · split at h <;> cases h
    · cases h
  case eptr =>
    split at h
    · split at h <;> cases h
    · cases h
  case cc k' xs =>
    cases k' with
    | none => cases h
    | some f' =>
      simp only at h
      split at h
      · split at h
        · split at h <;> cases h
        · cases h
      · cases h

theorem res_clo {S : AS} {v : AV} {f : FuncId} {cs : List C} {k id n rid rn : Nat} (h : res S v = .clo f cs k id n rid rn) : id ∈ refs v ∧ (sget S id).box = .var [.sl rid rn] := by
  cases v <;> simp only [res] at h <;> try (cases h; done)
  case ptr id' n' o' =>
    split at h
    · split at h <;> cases h
    · split at h <;> cases h
    · cases h
  case sl id' n' =>
    split at h
    · split at h <;> cases h
    · split at h <;> cases h
    · split at h <;> cases h
    · cases h
  case eptr =>
    split at h
    · split at h <;> cases h
    · cases h
  case cc k' xs =>
    cases k' with
    | none => cases h
    | some f' =>
      simp only at h
      split at h
      · rename_i j id' n' hat
        split at h
        · rename_i av rid' rn' m hs
          split at h
          · cases h
            exact ⟨by simp only [refs]; exact cellRefs_mem (List.mem_of_getElem? (slAt_get hat)), by rw [hs]⟩
          · cases h
        · cases h
      · cases h

theorem same_of {S T : AS} (hmv : ptrMove S o = false) (h1 : ∀ t ∈ looks all o, agS S T t) (h2 : ∀ b ∈ boxR S (looks all o) o, agB S T b) : ∀ g x, x ∈ o.op.operands.toList → Same (σOf S) (σOf T) (ρOf T g x) := by
  intro g x hx
  have key : ∀ (id : Nat) (cs : List C), id ∈ refs (unw g (ev S x)) → (sget S id).box = .var cs → ∀ id' n', C.sl id' n' ∈ cs → σOf S id' n' = σOf T id' n' := by
    intro id cs h3 h4 id' n' hm
    refine res_congr fun i hi => ?_
    simp only [refs, List.mem_singleton] at hi
    subst hi
    cases x with
    | tmp t =>
      have ht : t ∈ looks all o := by simp only [looks, List.mem_append]; exact .inr (mem_opTmps hx)
      refine h2 _ ?_
      simp only [boxR, hmv, List.mem_append, List.mem_flatMap]
      refine .inr ⟨t, ht, id, refs_unw g _ id h3, ?_⟩
      simp only [refs2, h4, List.mem_cons]
      exact .inr (cellRefs_mem hm)
    | const v =>
      have := refs_unw g _ id h3
      exfalso
      revert this
      simp only [ev]
      unfold cval
      split <;> simp [refs]
    | global q =>
      have := refs_unw g _ id h3
      exfalso
      revert this
      simp only [ev]
      split <;> simp [refs]
    | func f => have := refs_unw g _ id h3; simp [ev, refs] at this
  refine ⟨fun id n of cs hr id' n' hm => ?_, fun f cs k id n rid rn hr => ?_⟩
  · rw [← ρ_congr hmv h1 h2 g x hx] at hr
    obtain ⟨h3, h4⟩ := res_vptr hr
    exact key id cs h3 h4 id' n' hm
  · rw [← ρ_congr hmv h1 h2 g x hx] at hr
    obtain ⟨h3, h4⟩ := res_clo hr
    exact key id _ h3 h4 rid rn (by simp)

theorem ev_congr {S T : AS} (h1 : ∀ t ∈ looks all o, agS S T t) {x : Operand} (hx : x ∈ o.op.operands.toList) : ev S x = ev T x := by
  cases x with
  | tmp t =>
    have ht : t ∈ looks all o := by simp only [looks, List.mem_append]; exact .inr (mem_opTmps hx)
    exact h1 t ht
  | const v => rfl
  | global q => rfl
  | func f => rfl
theorem ptrMove_congr {S T : AS} (h1 : ∀ t ∈ looks all o, agS S T t) : ptrMove S o = ptrMove T o := by
  unfold ptrMove
  split
  · rename_i x ho
    rw [ev_congr h1 (x := x) (by rw [ho]; simp [Op.operands])]
  · rfl
theorem yS_of {S : AS} {g : Option (Nat × Bool)} {d n : Nat} {K : Eff → Prop} (hm : ptrMove S o = false) (hy : yA P (σOf S) (ρOf S) g o d n K) : yS P S g o d n K := by
  unfold yS
  unfold ptrMove at hm
  split
  · rename_i x ho
    rw [ho] at hm
    simp only at hm
    split
    · rename_i he; rw [he] at hm; cases hm
    · exact hy
  · exact hy
theorem good_yS (P : Program) (S : AS) (g : Option (Nat × Bool)) (o : Oper) (d n : Nat) : Good fun K => yS P S g o d n K := by
  unfold yS
  split
  · split
    · exact good_pure _
    · exact good_yA _ _ _ _ _ _ _
  · exact good_yA _ _ _ _ _ _ _
theorem yS_move {S T : AS} {g : Option (Nat × Bool)} {K : Eff → Prop} (h1 : ∀ t ∈ looks all o, agS S T t) (h2 : ∀ b ∈ boxR S (looks all o) o, agB S T b) (hl : S.length = T.length)
    (hy : dK o.dst fun d => verK S d fun n => yS P S g o d n K) : dK o.dst fun d => verK T d fun n => yS P T g o d n K := by
  obtain ⟨hd, hy⟩ := verK_eq _ _ _ (dK_eq hy)
  refine dK_mk (verK_mk _ _ _ (by rw [← hl]; exact hd) ?_)
  rcases yS_cases hy with ⟨x, id, v, k, ho, he, hK⟩ | ⟨hm, hy⟩
  · unfold yS
    rw [ho]
    simp only
    rw [← ev_congr h1 (x := x) (by rw [ho]; simp [Op.operands]), he]
    exact hK
  · refine yS_of (by rw [← ptrMove_congr h1]; exact hm) (yA_congr (ρ_congr hm h1 h2) (same_of hm h1 h2) (fun hmk => ?_) hy)
    exact (h2 _ (by simp [boxR, hmk])).2

theorem Dec.move {lk : List Nat} {S T : AS} (h : ∀ t ∈ lk, agS S T t) : ∀ {n t : Nat} {r : Option Bool}, Dec lk n t S r → Dec lk n t T r
  | 0, _, _, hd => hd.elim
  | n + 1, t, r, ⟨hlk, hd⟩ => by
    have e := h t hlk
    unfold agS at e
    refine ⟨hlk, ?_⟩
    rcases hd with ⟨b, hb, hr⟩ | ⟨t', w', b, r', hb, hd, hr⟩ | ⟨t', w', hb, hr⟩
    · exact .inl ⟨b, by rw [← e]; exact hb, hr⟩
    · exact .inr (.inl ⟨t', w', b, r', by rw [← e]; exact hb, Dec.move h hd, hr⟩)
    · exact .inr (.inr ⟨t', w', by rw [← e]; exact hb, hr⟩)

/-- What the machine finds at an operation is one effect, and stays so where what it looks at is the same. -/
theorem opY_move {done : List Nat} {S : AS} {K : AS → Eff → Prop} (hy : opY P all done o S K) :
    ∃ e, K S e ∧ ∀ (done' : List Nat) (T : AS), (∀ t ∈ looks all o, agS S T t) → (∀ b ∈ RR S all o e, agB S T b) → S.length = T.length → (∀ j want t, o.guard = some (j, want) → dstOf all j = some t → t ∈ done') →
      opY P all done' o T (fun T' f => T' = T ∧ f = e) := by
  have ex : ∀ {g : Option (Nat × Bool)} {F : Eff → Prop}, (dK o.dst fun d => verK S d fun n => yS P S g o d n F) → ∃ e, F e ∧ dK o.dst fun d => verK S d fun n => yS P S g o d n fun f => f = e := by
    intro g F hy
    obtain ⟨hd, hy⟩ := verK_eq _ _ _ (dK_eq hy)
    obtain ⟨e, he, hF⟩ := (good_yS P S g o (o.dst.getD 0) (sget S (o.dst.getD 0)).ver).2 _ hy
    exact ⟨e, hF, dK_mk (verK_mk _ _ _ hd he)⟩
  have mon : ∀ {T : AS} {g : Option (Nat × Bool)} {F F' : Eff → Prop}, (∀ e, F e → F' e) → (dK o.dst fun d => verK T d fun n => yS P T g o d n F) → dK o.dst fun d => verK T d fun n => yS P T g o d n F' := by
    intro T g F F' hF hy
    obtain ⟨hd, hy⟩ := verK_eq _ _ _ (dK_eq hy)
    exact dK_mk (verK_mk _ _ _ hd ((good_yS P T g o (o.dst.getD 0) (sget T (o.dst.getD 0)).ver).1 _ _ hF hy))
  have sub : ∀ {T : AS} {e : Eff}, (∀ b ∈ RR S all o e, agB S T b) → ∀ b ∈ boxR S (looks all o) o, agB S T b := fun h b hb => h b (by simp only [RR, List.mem_append]; exact .inl hb)
  have hom : ∀ {T : AS} {e : Eff}, S.length = T.length → (∀ b ∈ RR S all o e, agB S T b) → homesOK S e.homes = homesOK T e.homes := fun hl h => homesOK_congr hl fun b hb => h b (by simp only [RR, List.mem_append]; exact .inr hb)
  unfold opY at hy
  split at hy
  · rename_i hgd
    obtain ⟨e, hK, he⟩ := ex hy
    obtain ⟨hho, hK⟩ := ite_false_prop hK
    refine ⟨e, hK, fun _ T h1 h2 hl _ => ?_⟩
    unfold opY
    simp only [hgd]
    refine mon (fun f hf => ?_) (yS_move h1 (sub h2) hl he)
    subst hf
    rw [if_pos (by rw [← hom hl h2]; exact hho)]
    first | exact ⟨rfl, rfl⟩ | exact ⟨trivial, rfl⟩
  · rename_i j want hgd
    split at hy
    · exact hy.elim
    · rename_i t ht
      obtain ⟨hdone, hy⟩ := ite_false_prop hy
      split at hy
      · rename_i hh
        obtain ⟨e, hK, he⟩ := ex hy
        split at hK
        · rename_i v
          refine ⟨_, hK, fun _ T h1 h2 hl hdn => ?_⟩
          unfold opY
          simp only [hgd, ht, hh]
          rw [if_pos (by simpa using hdn j want t hgd ht)]
          refine mon (fun f hf => ?_) (yS_move h1 (sub h2) hl he)
          subst hf
          first | exact ⟨rfl, rfl⟩ | exact ⟨trivial, rfl⟩
        · exact hK.elim
      · rename_i hh
        obtain ⟨r, hy, hdec⟩ := decK_cases hy
        have hdT : ∀ T : AS, (∀ t ∈ looks all o, agS S T t) → Dec (looks all o) 5 t T r := fun T h1 => hdec.move h1
        rcases asWanted_cases.1 hy with ⟨hrw, hgo⟩ | ⟨hne, hK⟩
        · obtain ⟨e, hK, he⟩ := ex hgo
          obtain ⟨hho, hK⟩ := ite_false_prop hK
          refine ⟨e, hK, fun _ T h1 h2 hl hdn => ?_⟩
          unfold opY
          simp only [hgd, ht, hh]
          rw [if_pos (by simpa using hdn j want t hgd ht)]
          refine decK_mk (hdT T h1) (asWanted_cases.2 (.inl ⟨hrw, mon (fun f hf => ?_) (yS_move h1 (sub h2) hl he)⟩))
          subst hf
          rw [if_pos (by rw [← hom hl h2]; exact hho)]
          exact ⟨rfl, rfl⟩
        · refine ⟨_, hK, fun _ T h1 h2 hl hdn => ?_⟩
          unfold opY
          simp only [hgd, ht, hh]
          rw [if_pos (by simpa using hdn j want t hgd ht)]
          exact decK_mk (hdT T h1) (asWanted_cases.2 (.inr ⟨hne, by first | exact ⟨rfl, rfl⟩ | exact ⟨rfl, trivial⟩ | exact ⟨trivial, trivial⟩⟩))

/-! ### The run in the order of the text -/
structure TRun (P : Program) (all : List Oper) (S₀ : AS) (St : Nat → AS) (E : Nat → Eff) : Prop where
  start : St 0 = S₀
  next : ∀ (i : Nat) (o : Oper), all[i]? = some o → St (i + 1) = app o.dst (E i) (St i)
  once : ∀ (i j : Nat) (o o' : Oper), i < j → all[i]? = some o → all[j]? = some o' → ∀ d, o.dst = some d → o'.dst ≠ some d
  does : ∀ (i : Nat) (o : Oper), all[i]? = some o → ∀ (T : AS) (done : List Nat), (∀ t ∈ looks all o, agS (St i) T t) → (∀ b ∈ RR (St i) all o (E i), agB (St i) T b) → (St i).length = T.length →
    (∀ j want t, o.guard = some (j, want) → dstOf all j = some t → t ∈ done) → opY P all done o T (fun T' f => T' = T ∧ f = E i)
  box : ∀ (i j : Nat) (o o' : Oper), i < j → all[i]? = some o → all[j]? = some o' → edge2 all o' i = false →
    disj ((E i).bx.map (·.1)) (RR (St j) all o' (E j) ++ (E j).bx.map (·.1)) = true ∧ disj (RR (St i) all o (E i)) ((E j).bx.map (·.1)) = true

theorem run_of (P : Program) (all : List Oper) : ∀ (l : List Oper) (k : Nat) (log : List (Nat × List Nat × List Nat)) (done : List Nat) (S : AS) (K : AS → Prop), (∀ j, l[j]? = all[k + j]?) → opsD P all k log done l S K →
    ∃ (St : Nat → AS) (E : Nat → Eff), St k = S ∧ K (St (k + l.length)) ∧
      (∀ (i : Nat) (o : Oper), k ≤ i → all[i]? = some o → St (i + 1) = app o.dst (E i) (St i)) ∧
      (∀ (i : Nat) (o : Oper), k ≤ i → all[i]? = some o → ∀ d, o.dst = some d → d ∉ done) ∧
      (∀ (i j : Nat) (o o' : Oper), k ≤ i → i < j → all[i]? = some o → all[j]? = some o' → ∀ d, o.dst = some d → o'.dst ≠ some d) ∧
      (∀ (i : Nat) (o : Oper), k ≤ i → all[i]? = some o → ∀ (T : AS) (done : List Nat), (∀ t ∈ looks all o, agS (St i) T t) → (∀ b ∈ RR (St i) all o (E i), agB (St i) T b) → (St i).length = T.length →
        (∀ j want t, o.guard = some (j, want) → dstOf all j = some t → t ∈ done) → opY P all done o T (fun T' f => T' = T ∧ f = E i)) ∧
      (∀ (i : Nat) (o : Oper), k ≤ i → all[i]? = some o → ∀ x ∈ log, edge2 all o x.1 = false → disj x.2.2 (RR (St i) all o (E i) ++ (E i).bx.map (·.1)) = true ∧ disj x.2.1 ((E i).bx.map (·.1)) = true) ∧
      (∀ (i j : Nat) (o o' : Oper), k ≤ i → i < j → all[i]? = some o → all[j]? = some o' → edge2 all o' i = false →
        disj ((E i).bx.map (·.1)) (RR (St j) all o' (E j) ++ (E j).bx.map (·.1)) = true ∧ disj (RR (St i) all o (E i)) ((E j).bx.map (·.1)) = true)
  | [], k, log, done, S, K, hall, hy => by
    have none : ∀ i, k ≤ i → all[i]? = none := by
      intro i hi
      have hk := hall 0
      simp at hk
      exact List.getElem?_eq_none (by omega)
    refine ⟨fun _ => S, fun _ => ⟨.any, [], []⟩, rfl, hy, ?_, ?_, ?_, ?_, ?_, ?_⟩
    · intro i o hi ho; rw [none i hi] at ho; cases ho
    · intro i o hi ho; rw [none i hi] at ho; cases ho
    · intro i j o o' hi _ ho; rw [none i hi] at ho; cases ho
    · intro i o hi ho; rw [none i hi] at ho; cases ho
    · intro i o hi ho; rw [none i hi] at ho; cases ho
    · intro i j o o' hi _ ho; rw [none i hi] at ho; cases ho
  | o :: r, k, log, done, S, K, hall, hy => by
    obtain ⟨hnd, hy⟩ := ite_false_prop hy
    obtain ⟨e, hK, hmove'⟩ := opY_move hy
    rw [forceNL_eq, forceNL_eq] at hK
    obtain ⟨hok, hK⟩ := ite_false_prop hK
    rw [appK_eq, forceNL_eq] at hK
    have ho : all[k]? = some o := by have := hall 0; simpa using this.symm
    obtain ⟨St, E, hs, hKn, hnext, hnd', honce, hdoes, hlog, hbox⟩ := run_of P all r (k + 1) _ _ _ K (fun j => by have := hall (j + 1); rw [List.getElem?_cons_succ] at this; rw [this]; congr 1; omega) hK
    have hne : ∀ i, k + 1 ≤ i → i ≠ k := fun i hi => by omega
    refine ⟨fun i => if i = k then S else St i, fun i => if i = k then e else E i, by simp, ?_, ?_, ?_, ?_, ?_, ?_, ?_⟩
    · have : k + (o :: r).length ≠ k := by simp
      simp only [this, if_false]
      rw [show k + (o :: r).length = k + 1 + r.length by simp; omega]
      exact hKn
    · intro i o' hi ho'
      by_cases hik : i = k
      · subst hik
        rw [ho] at ho'; cases ho'
        simp [hs]
      · have h1 : i + 1 ≠ k := by omega
        simp only [hik, h1, if_false]
        exact hnext i o' (by omega) ho'
    · intro i o' hi ho' d hd
      by_cases hik : i = k
      · subst hik
        rw [ho] at ho'; cases ho'
        simp [hd, dstList] at hnd
        exact hnd
      · have := hnd' i o' (by omega) ho' d hd
        intro hm; exact this (by simp [hm])
    · intro i j o1 o2 hi hij h1 h2 d hd
      by_cases hik : i = k
      · subst hik
        rw [ho] at h1; cases h1
        intro hd2
        exact hnd' j o2 (by omega) h2 d hd2 (by simp [hd, dstList])
      · exact honce i j o1 o2 (by omega) hij h1 h2 d hd
    · intro i o' hi ho'
      by_cases hik : i = k
      · subst hik
        rw [ho] at ho'; cases ho'
        simp only [if_true]
        intro T done' h1 h2 hl hdn
        exact hmove' done' T h1 h2 hl hdn
      · simp only [hik, if_false]
        exact hdoes i o' (by omega) ho'
    · intro i o' hi ho' x hx hed
      by_cases hik : i = k
      · subst hik
        rw [ho] at ho'; cases ho'
        simp only [if_true]
        simp only [okBox, List.all_eq_true] at hok
        have := hok x hx
        simp [hed] at this
        simp only [RR, List.append_assoc]
        exact this
      · simp only [hik, if_false]
        exact hlog i o' (by omega) ho' x (by simp [hx]) hed
    · intro i j o1 o2 hi hij h1 h2 hed
      have hjk : j ≠ k := by omega
      by_cases hik : i = k
      · subst hik
        rw [ho] at h1; cases h1
        simp only [if_true, hjk, if_false]
        exact hlog j o2 (by omega) h2 (i, RR S all o e, e.bx.map (·.1)) (by simp [RR]) hed
      · simp only [hik, hjk, if_false]
        exact hbox i j o1 o2 (by omega) hij h1 h2 hed

/-! ### Any order -/
theorem sget_appB_other : ∀ (b : Bx) (S : AS) (i : Nat), i ∉ b.map (·.1) → sget (appB b S) i = sget S i
  | [], _, _, _ => rfl
  | (id, B, n) :: r, S, i, h => by
    simp only [List.map_cons, List.mem_cons, not_or] at h
    simp only [appB]
    rw [sget_appB_other r _ i h.2, sget_setBox, if_neg (fun e => h.1 e.1)]
theorem av_appB : ∀ (b : Bx) (S : AS) (i : Nat), (sget (appB b S) i).av = (sget S i).av
  | [], _, _ => rfl
  | (id, B, n) :: r, S, i => by
    simp only [appB]
    rw [av_appB r, sget_setBox]
    split
    · rename_i e; rw [e.1]
    · rfl
theorem box_appB_same : ∀ (b : Bx) (S T : AS) (i : Nat), S.length = T.length → i ∈ b.map (·.1) → agB (appB b S) (appB b T) i
  | [], _, _, _, _, h => by simp at h
  | (id, B, n) :: r, S, T, i, hl, h => by
    simp only [appB]
    by_cases hr : i ∈ r.map (·.1)
    · exact box_appB_same r _ _ i (by simp [length_setBox, hl]) hr
    · have hi : i = id := by simp at h hr; rcases h with h | ⟨x, y, h⟩; exact h; exact absurd h (hr x y)
      unfold agB
      rw [sget_appB_other r _ i hr, sget_appB_other r _ i hr, sget_setBox, sget_setBox, hi, hl]
      split
      · exact ⟨rfl, rfl⟩
      · rename_i hn
        have h1 : T.length ≤ id := by
          rcases Nat.lt_or_ge id T.length with h | h
          · exact absurd ⟨rfl, h⟩ hn
          · exact h
        rw [sget_ge S id (by omega), sget_ge T id h1]
        exact ⟨rfl, rfl⟩

theorem length_app (dst : Option Nat) (e : Eff) (S : AS) : (app dst e S).length = S.length := by
  cases dst <;> simp [app, length_setAV, length_appB]
theorem app_av_other {dst : Option Nat} {e : Eff} {S : AS} {t : Nat} (h : dst ≠ some t) : agS (app dst e S) S t := by
  unfold agS
  cases dst with
  | none => simp [app, av_appB]
  | some d =>
    simp only [app]
    rw [sget_setAV, if_neg (fun hh => h (by rw [hh.1])), av_appB]
theorem app_av_same {dst : Option Nat} {e : Eff} {S T : AS} {t : Nat} (hl : S.length = T.length) (h : dst = some t) : agS (app dst e S) (app dst e T) t := by
  unfold agS
  subst h
  simp only [app]
  rw [sget_setAV, sget_setAV, length_appB, length_appB, hl]
  split
  · rfl
  · rename_i hn
    have h1 : T.length ≤ t := by
      rcases Nat.lt_or_ge t T.length with h | h
      · exact absurd ⟨rfl, h⟩ hn
      · exact h
    rw [sget_ge _ t (by rw [length_appB]; omega), sget_ge _ t (by rw [length_appB]; exact h1)]
theorem app_box {dst : Option Nat} {e : Eff} {S : AS} {b : Nat} : agB (app dst e S) (appB e.bx S) b := by
  unfold agB
  cases dst with
  | none => exact ⟨rfl, rfl⟩
  | some d =>
    simp only [app]
    rw [sget_setAV]
    split
    · rename_i hh; rw [hh.1]; exact ⟨rfl, rfl⟩
    · exact ⟨rfl, rfl⟩
theorem app_box_other {dst : Option Nat} {e : Eff} {S : AS} {b : Nat} (h : b ∉ e.bx.map (·.1)) : agB (app dst e S) S b := by
  have := app_box (dst := dst) (e := e) (S := S) (b := b)
  unfold agB at *
  rw [this.1, this.2, sget_appB_other _ _ _ h]
  exact ⟨rfl, rfl⟩
theorem app_box_same {dst : Option Nat} {e : Eff} {S T : AS} {b : Nat} (hl : S.length = T.length) (h : b ∈ e.bx.map (·.1)) : agB (app dst e S) (app dst e T) b := by
  have h1 := app_box (dst := dst) (e := e) (S := S) (b := b)
  have h2 := app_box (dst := dst) (e := e) (S := T) (b := b)
  have h3 := box_appB_same e.bx S T b hl h
  unfold agB at *
  rw [h1.1, h1.2, h2.1, h2.2]
  exact h3

theorem ext_as : ∀ {S T : AS}, S.length = T.length → (∀ t, agS S T t) → (∀ b, agB S T b) → S = T
  | [], [], _, _, _ => rfl
  | s :: S, t :: T, hl, h1, h2 => by
    have e1 := h1 0
    have e2 := h2 0
    simp only [agS, agB, sget] at e1 e2
    have : s = t := by obtain ⟨_, _, _⟩ := s; obtain ⟨_, _, _⟩ := t; simp_all
    rw [this, ext_as (S := S) (T := T) (by simpa using hl) (fun i => h1 (i + 1)) (fun i => h2 (i + 1))]
  | [], _ :: _, hl, _, _ => by simp at hl
  | _ :: _, [], hl, _, _ => by simp at hl

theorem disj_spec {x y : List Nat} (h : disj x y = true) : ∀ i ∈ x, i ∉ y := by simpa [disj] using h

theorem regS_spec : ∀ (l : List Oper) (k : Nat), (∀ j, l[j]? = all[k + j]?) → regS all k l = true →
    ∀ i o, k ≤ i → all[i]? = some o → ((∀ e ∈ o.after, Region.binds .any e = true → e.on < i) ∧ ∀ j want, o.guard = some (j, want) → j < i) ∧
      ∀ j o', j < i → all[j]? = some o' → edge2 all o j = true ∨ ((∀ d, o'.dst = some d → d ∉ looks all o) ∧ (∀ d, o.dst = some d → d ∉ looks all o'))
  | [], k, hall, _, i, o, hi, ho => by
    have hk := hall 0
    simp at hk
    rw [List.getElem?_eq_none (by omega)] at ho
    cases ho
  | x :: r, k, hall, h, i, o, hi, ho => by
    simp only [regS, Bool.and_eq_true] at h
    obtain ⟨⟨⟨h1, h1g⟩, h2⟩, h3⟩ := h
    by_cases hik : i = k
    · subst hik
      have hx : all[i]? = some x := by have := hall 0; simpa using this.symm
      rw [hx] at ho; cases ho
      refine ⟨⟨fun e he hb => ?_, fun j want hg => by simpa [hg] using h1g⟩, fun j o' hj ho' => ?_⟩
      · have := List.all_eq_true.1 h1 e (by simpa using he)
        simpa [hb] using this
      · have := List.all_eq_true.1 h2 (o', j) (by
          rw [List.mem_iff_getElem?]
          refine ⟨j, ?_⟩
          rw [List.getElem?_zipIdx, List.getElem?_take_of_lt hj, ho']
          simp)
        simp only [Bool.or_eq_true, Bool.and_eq_true] at this
        rcases this with ⟨h4, h5⟩ | h4
        · refine .inr ⟨fun d hd => disj_spec h4 d (by simp [hd, dstList]), fun d hd hm => disj_spec h5 d hm (by simp [hd, dstList])⟩
        · exact .inl h4
    · exact regS_spec r (k + 1) (fun j => by have := hall (j + 1); rw [List.getElem?_cons_succ] at this; rw [this]; congr 1; omega) h3 i o (by omega) ho
end

/-- What holds in the middle of any order. -/
structure Mid (all : List Oper) (St : Nat → AS) (E : Nat → Eff) (S₀ : AS) (f : Nat → Bool) (T : AS) : Prop where
  len : T.length = S₀.length
  dc : ∀ (k : Nat) (o : Oper), all[k]? = some o → f k = true → ∀ i, edge o i = true → f i = true
  vs : ∀ (t i : Nat), i ≤ all.length → (∀ (k : Nat) (o : Oper), all[k]? = some o → o.dst = some t → (f k = true ↔ k < i)) → agS T (St i) t
  vb : ∀ (b i : Nat), i ≤ all.length → (∀ (k : Nat) (o : Oper), all[k]? = some o → b ∈ (E k).bx.map (·.1) → (f k = true ↔ k < i)) → agB T (St i) b

section
variable {P : Program} {all : List Oper} {St : Nat → AS} {E : Nat → Eff} {S₀ : AS}

theorem TRun.len (h : TRun P all S₀ St E) : ∀ i, i ≤ all.length → (St i).length = S₀.length
  | 0, _ => by rw [h.start]
  | i + 1, hi => by
    rw [h.next i all[i] (List.getElem?_eq_getElem (by omega)), length_app]
    exact h.len i (by omega)
theorem TRun.keepS (h : TRun P all S₀ St E) {t i : Nat} : ∀ j, i ≤ j → j ≤ all.length → (∀ (k : Nat) (o : Oper), i ≤ k → k < j → all[k]? = some o → o.dst ≠ some t) → agS (St j) (St i) t := by
  intro j
  induction j with
  | zero => intro hij _ _; have : i = 0 := by omega
            subst this; exact rfl
  | succ j ih =>
    intro hij hj hk
    by_cases e : i = j + 1
    · subst e; exact rfl
    · have h1 := ih (by omega) (by omega) (fun k o h1 h2 => hk k o h1 (by omega))
      have h2 : agS (St (j + 1)) (St j) t := by
        rw [h.next j all[j] (List.getElem?_eq_getElem (by omega))]
        exact app_av_other (hk j _ (by omega) (by omega) (List.getElem?_eq_getElem (by omega)))
      exact Eq.trans h2 h1
theorem TRun.keepB (h : TRun P all S₀ St E) {b i : Nat} : ∀ j, i ≤ j → j ≤ all.length → (∀ (k : Nat) (o : Oper), i ≤ k → k < j → all[k]? = some o → b ∉ (E k).bx.map (·.1)) → agB (St j) (St i) b := by
  intro j
  induction j with
  | zero => intro hij _ _; have : i = 0 := by omega
            subst this; exact ⟨rfl, rfl⟩
  | succ j ih =>
    intro hij hj hk
    by_cases e : i = j + 1
    · subst e; exact ⟨rfl, rfl⟩
    · have h1 := ih (by omega) (by omega) (fun k o h1 h2 => hk k o h1 (by omega))
      have h2 : agB (St (j + 1)) (St j) b := by
        rw [h.next j all[j] (List.getElem?_eq_getElem (by omega))]
        exact app_box_other (hk j _ (by omega) (by omega) (List.getElem?_eq_getElem (by omega)))
      exact ⟨h2.1.trans h1.1, h2.2.trans h1.2⟩

theorem Mid.readyN {f : Nat → Bool} {T : AS} (m : Mid all St E S₀ f T) : ∀ (n : Nat) {o : Oper} {j : Nat}, (∀ j, edge o j = true → f j = true) → edgeN all n o j = true → f j = true
  | 0, _, _, hready, h => hready _ h
  | n + 1, o, j, hready, h => by
    simp only [edgeN, Bool.or_eq_true, List.any_eq_true, Bool.and_eq_true] at h
    rcases h with h | ⟨e, he, hb, hm⟩
    · exact hready _ h
    · split at hm
      · rename_i om hom
        refine m.readyN n (fun i hi => m.dc e.on om hom (hready e.on ?_) i hi) hm
        simp only [edge, List.any_eq_true, Bool.and_eq_true, beq_iff_eq]
        exact ⟨e, he, rfl, hb⟩
      · cases hm
theorem Mid.ready2 {f : Nat → Bool} {T : AS} (m : Mid all St E S₀ f T) {o : Oper} (hready : ∀ j, edge o j = true → f j = true) {j : Nat} (h : edge2 all o j = true) : f j = true :=
  m.readyN 4 hready h
/-- One operation more. -/
theorem Mid.step (h : TRun P all S₀ St E) (hreg : regS all 0 all = true) {f : Nat → Bool} {T : AS} (m : Mid all St E S₀ f T) {i : Nat} {o : Oper} (ho : all[i]? = some o) (hf : f i = false) (hready : ∀ j, edge o j = true → f j = true) :
    (∀ t ∈ looks all o, agS (St i) T t) ∧ (∀ b ∈ RR (St i) all o (E i), agB (St i) T b) ∧ Mid all St E S₀ (fun k => if k = i then true else f k) (app o.dst (E i) T) := by
  have hreg' := regS_spec all 0 (fun j => by simp) hreg
  have hi : i < all.length := by
    rcases Nat.lt_or_ge i all.length with h | h
    · exact h
    · simp [List.getElem?_eq_none h] at ho
  have later : ∀ (k : Nat) (o' : Oper), all[k]? = some o' → i < k → f k = true → edge2 all o' i = false := by
    intro k o' ho' hik hfk
    cases he : edge2 all o' i with
    | false => rfl
    | true => have := m.ready2 (fun j hj => m.dc k o' ho' hfk j hj) he; rw [hf] at this; cases this
  have hlenT : (St i).length = T.length := by rw [h.len i (by omega), m.len]
  -- what it looks at
  have hS : ∀ t ∈ looks all o, agS (St i) T t := by
    intro t ht
    refine (m.vs t i (by omega) fun k o' ho' hd => ?_).symm
    rcases Nat.lt_trichotomy k i with hk | hk | hk
    · refine ⟨fun _ => hk, fun _ => ?_⟩
      rcases (hreg' i o (by omega) ho).2 k o' hk ho' with he | ⟨h1, _⟩
      · exact m.ready2 hready he
      · exact absurd ht (h1 t hd)
    · subst hk; rw [hf]; simp
    · refine ⟨fun hfk => ?_, fun hh => by omega⟩
      rcases (hreg' k o' (by omega) ho').2 i o hk ho with he | ⟨_, h2⟩
      · have := m.ready2 (fun j hj => m.dc k o' ho' hfk j hj) he
        rw [hf] at this; cases this
      · exact absurd ht (h2 t hd)
  have hB : ∀ b ∈ RR (St i) all o (E i), agB (St i) T b := by
    intro b hb
    have key := m.vb b i (by omega) fun k o' ho' hd => ?_
    · exact ⟨key.1.symm, key.2.symm⟩
    · rcases Nat.lt_trichotomy k i with hk | hk | hk
      · refine ⟨fun _ => hk, fun _ => ?_⟩
        cases he : edge2 all o k with
        | true => exact m.ready2 hready he
        | false => exact absurd (List.mem_append.2 (.inl hb)) (disj_spec (h.box k i o' o hk ho' ho he).1 b hd)
      · subst hk; rw [hf]; simp
      · refine ⟨fun hfk => ?_, fun hh => by omega⟩
        exact absurd hd (disj_spec (h.box i k o o' hk ho ho' (later k o' ho' hk hfk)).2 b hb)
  refine ⟨hS, hB, ?_⟩
  have hnx := h.next i o ho
  refine ⟨by rw [length_app]; exact m.len, ?_, ?_, ?_⟩
  · intro k o' ho' hk j hj
    by_cases hki : k = i
    · subst hki
      rw [ho] at ho'; cases ho'
      have := hready j hj
      simp [this]
    · simp only [hki, if_false] at hk
      have := m.dc k o' ho' hk j hj
      simp [this]
  · intro t j hj hcut
    by_cases hd : o.dst = some t
    · have hij : i < j := (hcut i o ho hd).1 (by simp)
      have h1 : agS (St j) (St (i + 1)) t := h.keepS j (by omega) hj fun k o' hk1 hk2 ho' hd' => h.once i k o o' (by omega) ho ho' t hd hd'
      have h2 : agS (app o.dst (E i) T) (St (i + 1)) t := by rw [hnx]; exact app_av_same hlenT.symm hd
      exact h2.trans h1.symm
    · have h1 := m.vs t j hj fun k o' ho' hd' => by
        have := hcut k o' ho' hd'
        by_cases hki : k = i
        · subst hki; rw [ho] at ho'; cases ho'; exact absurd hd' hd
        · simpa [hki] using this
      exact (app_av_other hd).trans h1
  · intro b j hj hcut
    by_cases hd : b ∈ (E i).bx.map (·.1)
    · have hij : i < j := (hcut i o ho hd).1 (by simp)
      have h1 : agB (St j) (St (i + 1)) b := h.keepB j (by omega) hj fun k o' hk1 hk2 ho' hd' => by
        have hfk : f k = true := by
          have := (hcut k o' ho' hd').2 hk2
          simpa [show k ≠ i by omega] using this
        have he := later k o' ho' (by omega) hfk
        exact disj_spec (h.box i k o o' (by omega) ho ho' he).1 b hd (List.mem_append.2 (.inr hd'))
      have h2 : agB (app o.dst (E i) T) (St (i + 1)) b := by rw [hnx]; exact app_box_same hlenT.symm hd
      exact ⟨h2.1.trans h1.1.symm, h2.2.trans h1.2.symm⟩
    · have h1 := m.vb b j hj fun k o' ho' hd' => by
        have := hcut k o' ho' hd'
        by_cases hki : k = i
        · subst hki; exact absurd hd' hd
        · simpa [hki] using this
      have h2 := app_box_other (dst := o.dst) (e := E i) (S := T) hd
      exact ⟨h2.1.trans h1.1, h2.2.trans h1.2⟩
end
end Go.Abs
