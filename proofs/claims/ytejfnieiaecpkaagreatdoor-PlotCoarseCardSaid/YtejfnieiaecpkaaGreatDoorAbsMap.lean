/-
  The abstract machine: maps of the frame's own.
-/
import Derived.Test.YtejfnieiaecpkaaGreatDoorAbsYes
import Derived.MapKept
set_option linter.unusedVariables false
set_option linter.unusedSimpArgs false
namespace Go.Abs
open Go.RowKit (Below)
open Go.MapKept

section
variable {P : Program} {X : Cx} {G : Nat → Prop} {β : Nat → Value} {S : AS} {a : Act} {w : World} {o : Oper}

theorem sameNow_sound {O : Nat → Prop} {kd : TypeDesc} {v u : Value} {k q : D} (hk : RepD O w v k) (hq : RepD O w u q) (hkd : kdOf k = some kd) (hkk : keyKind k q = true) :
    Instr.sameNow kd v u = some (keyEq k q) := by
  cases k <;> simp only [kdOf, Option.some.injEq] at hkd <;> try (cases hkd; done)
  case int j n =>
    cases q <;> simp only [keyKind] at hkk <;> try (cases hkk; done)
    case int j' m =>
      cases hk; cases hq
      subst hkd
      have := of_decide_eq_true hkk
      subst this
      simp [Instr.sameNow, keyEq]
  case str s =>
    cases q <;> simp only [keyKind] at hkk <;> try (cases hkk; done)
    case str s' =>
      cases hk; cases hq
      subst hkd
      simp [Instr.sameNow, keyEq]

theorem findNow_sound {O : Nat → Prop} {kd : TypeDesc} {v : Value} {k : D} (hk : RepD O w v k) (hkd : kdOf k = some kd) :
    ∀ (vs : List MapEntry) (es : List (D × D)) (i : Nat), vs.length = es.length → (∀ p ∈ es, keyKind k p.1 = true) → (∀ (j : Nat) (e : MapEntry) (p : D × D), vs[j]? = some e → es[j]? = some p → RepD O w e.key p.1) →
      Instr.findNow kd v vs i = some (match idxD k es with | some j => (vs[j]?).map fun e => (i + j, e.val) | none => none)
  | [], [], _, _, _, _ => rfl
  | [], _ :: _, _, h, _, _ => by simp at h
  | _ :: _, [], _, h, _, _ => by simp at h
  | e :: vs, p :: es, i, hl, hkk, hr => by
    have h1 := sameNow_sound hk (hr 0 e p rfl rfl) hkd (hkk p (by simp))
    unfold Instr.findNow idxD
    rw [h1]
    cases keyEq k p.1 with
    | true => simp
    | false =>
      simp only [cond_false]
      rw [findNow_sound hk hkd vs es (i + 1) (by simpa using hl) (fun q hq => hkk q (by simp [hq])) (fun j e' p' he hp => hr (j + 1) e' p' (by simpa using he) (by simpa using hp))]
      cases idxD k es with
      | none => rfl
      | some j =>
        simp only [Option.map_some, List.getElem?_cons_succ]
        congr 2
        funext e'
        congr 1
        omega

/-- A new map. -/
theorem does_makeMap (h : SimB X G β S a w) {d : Nat} (hd : d < S.length) {t : TypeId} (ho : o.op = .makeMap t none) :
    Does P X G S a w o ⟨.sl d ((sget S d).ver + 1), [(d, .map [], (sget S d).ver + 1)], []⟩ := by
  refine .inl ⟨.map (some w.heap.size), w.alloc (.map #[] 0), ?_, upd β d (.map (some w.heap.size)), ?_, ?_, rfl⟩
  · simp [execOp, ho, Instr.makeMap]
  · exact h.rebox (R' := X.R) (fun _ h => h) hd (.inl (Nat.lt_succ_self _)) (by simp) ((BelowM.of (below_alloc _)).weaken h.hbase fun _ _ h => h) (fun b hb _ => heap_alloc_old w _ b hb)
      (fun _ b hb => ⟨.inr (.inl (by simp [blkOf] at hb; omega)), fun hr => by simp [blkOf] at hb; have := (h.rs b hr).2; omega⟩) (fun k hv => ⟨w.heap.size, #[], 0, by simp [upd], heap_alloc_new w _, rfl, fun i e p he => by simp at he⟩)
  · have hv : verOf (setBox S d (.map []) ((sget S d).ver + 1)) d = (sget S d).ver + 1 := by simp [verOf, sget_setBox, hd]
    exact ⟨by simp only [appB]; rw [hv]; exact Nat.le_refl _, fun _ => by simp [upd]⟩
theorem idxD_lt {q : D} : ∀ {es : List (D × D)} {j : Nat}, idxD q es = some j → j < es.length
  | [], j, h => by cases h
  | p :: r, j, h => by
    unfold idxD at h
    cases hk : keyEq q p.1 with
    | true => rw [hk] at h; cases h; simp
    | false =>
      rw [hk] at h
      simp only [cond_false] at h
      obtain ⟨i, hi, rfl⟩ := Option.map_eq_some_iff.1 h
      have := idxD_lt hi
      simp; omega
theorem findD_idx (q : D) : ∀ es : List (D × D), findD q es = (idxD q es).bind fun j => (es[j]?).map (·.2)
  | [] => rfl
  | p :: r => by
    unfold findD idxD
    cases keyEq q p.1 with
    | true => rfl
    | false =>
      simp only [cond_false]
      rw [findD_idx q r]
      cases idxD q r <;> simp
theorem isKey_of {O : Nat → Prop} {kd : TypeDesc} {q : D} {u : Value} (hkq : kdOf q = some kd) (h : RepD O w u q) : IsKey kd u := by
  cases q <;> simp only [kdOf, Option.some.injEq] at hkq <;> try (cases hkq; done)
  case int j n => cases h; subst hkq; simp [IsKey]
  case str s => cases h; subst hkq; simp [IsKey]
/-- A look into a map. -/
theorem does_lookup (h : SimB X G β S a w) {g : Option (Nat × Bool)} (hg : GuardOK g a) {t kt et : TypeId} {x ix : Operand} {ok : Bool} (ho : o.op = .lookup t x ix ok) (hu : P.underlying t = some (.map kt et)) {id n : Nat} {es : List (D × D)} (hx : ρOf S g x = .mp id n es) {q : D} (hq : ρOf S g ix = .d q)
    {kd : TypeDesc} (hkq : kdOf q = some kd) (hku : P.underlying kt = some kd) (hkk : ∀ p ∈ es, keyKind q p.1 = true) {z : D} (hz : zeroS P et = some z) :
    Does P X G S a w o ⟨if ok then .tup [.d ((findD q es).getD z), .d (.bool (findD q es).isSome)] else .d ((findD q es).getD z), [], []⟩ := by
  have h1 := ρ_sound h hg x
  rw [hx] at h1
  obtain ⟨hb, _, hv⟩ := h1
  have h2 := ρ_sound h hg ix
  rw [hq] at h2
  have hbx := h.boxes id
  rw [hb] at hbx
  obtain ⟨b, vs, clock, hβ, hh, hl, hr⟩ := hbx
  have h2' : RepD (OS β X S) w (a.eval ix) q := h2
  have hkey := isKey_of hkq h2'
  have hfind := findNow_sound h2' hkq vs.toList es 0 (by simpa using hl) hkk (fun j e p he hp => (hr j e p (by simpa using he) hp).1)
  unfold zeroS at hz
  split at hz <;> try (cases hz; done)
  rename_i i hi
  split at hz <;> try (cases hz; done)
  rename_i zv hzv
  have hzr := fun (O : Nat → Prop) (w : World) => zD_sound (O := O) (w := w) hz
  have hx2 : a.eval x = .map (some b) := by rw [hv, hβ]
  rw [findD_idx]
  cases hj : idxD q es with
  | none =>
    rw [hj] at hfind
    simp only at hfind
    cases ok with
    | false =>
      refine does_pure h (v := zv) ?_ (hzr _ _).1 rfl
      simp [execOp, ho, Instr.lookup, run_underlying hu, hx2, MapKept.run_getObj_map hh, MapKept.run_checkKey hku hkey, MapKept.run_findKey hku hfind, zeroValue, typeInfo, hi, hzv, Result.andThen]
    | true =>
      refine does_pure h (v := .tuple #[zv, .bool false]) ?_ ⟨#[zv, .bool false], rfl, rfl, fun k u c hu hc => ?_⟩ rfl
      · simp [execOp, ho, Instr.lookup, run_underlying hu, hx2, MapKept.run_getObj_map hh, MapKept.run_checkKey hku hkey, MapKept.run_findKey hku hfind, zeroValue, typeInfo, hi, hzv, Result.andThen]
      · match k, hu, hc with
        | 0, hu, hc => simp at hu hc; subst hu; subst hc; exact (hzr _ _).1
        | 1, hu, hc => simp at hu hc; subst hu; subst hc; exact .bool _
        | k + 2, hu, hc => simp at hu
  | some j =>
    rw [hj] at hfind
    have hjl := idxD_lt hj
    have hjv : j < vs.size := by omega
    have hrj := hr j vs[j] es[j] (by simp [hjv]) (List.getElem?_eq_getElem hjl)
    simp only [List.getElem?_eq_getElem hjl, Option.bind_some, Option.map_some, Option.getD_some, Option.isSome_some] at hfind ⊢
    have hvj : vs.toList[j]? = some vs[j] := by simp [hjv]
    rw [hvj] at hfind
    simp only [Option.map_some] at hfind
    cases ok with
    | false =>
      refine does_pure h (v := vs[j].val) ?_ hrj.2.1 rfl
      simp [execOp, ho, Instr.lookup, run_underlying hu, hx2, MapKept.run_getObj_map hh, MapKept.run_checkKey hku hkey, MapKept.run_findKey hku hfind, Result.andThen]
    | true =>
      refine does_pure h (v := .tuple #[vs[j].val, .bool true]) ?_ ⟨#[vs[j].val, .bool true], rfl, rfl, fun k u c hu hc => ?_⟩ rfl
      · simp [execOp, ho, Instr.lookup, run_underlying hu, hx2, MapKept.run_getObj_map hh, MapKept.run_checkKey hku hkey, MapKept.run_findKey hku hfind, Result.andThen]
      · match k, hu, hc with
        | 0, hu, hc => simp at hu hc; subst hu; subst hc; exact hrj.2.1
        | 1, hu, hc => simp at hu hc; subst hu; subst hc; exact .bool _
        | k + 2, hu, hc => simp at hu
theorem updD_none {q : D} (v : D) : ∀ {es : List (D × D)}, idxD q es = none → updD q v es = es ++ [(q, v)]
  | [], _ => rfl
  | p :: r, h => by
    unfold idxD at h
    unfold updD
    cases hk : keyEq q p.1 with
    | true => rw [hk] at h; cases h
    | false =>
      rw [hk] at h
      simp only [cond_false, Option.map_eq_none_iff] at h
      rw [cond_false, updD_none v h]; rfl
theorem updD_some {q : D} (v : D) : ∀ {es : List (D × D)} {j : Nat}, idxD q es = some j → updD q v es = es.set j (q, v)
  | [], j, h => by cases h
  | p :: r, j, h => by
    unfold idxD at h
    unfold updD
    cases hk : keyEq q p.1 with
    | true => rw [hk] at h; cases h; rfl
    | false =>
      rw [hk] at h
      simp only [cond_false] at h
      obtain ⟨i, hi, rfl⟩ := Option.map_eq_some_iff.1 h
      rw [cond_false, updD_some v hi]; rfl
/-- The block of a map of the frame's own holds something else. -/
theorem put_map (h : SimB X G β S a w) {id n : Nat} {es es' : List (D × D)} (hb : (sget S id).box = .map es) (hn : (sget S id).ver = n) {b : Nat} (hβ : β id = .map (some b)) {vs vs' : Array MapEntry} {clock clock' : Nat} (hh : w.heap[b]? = some (.map vs clock))
    (hl : vs'.size = es'.length) (hr : ∀ (i : Nat) (e : MapEntry) (p : D × D), vs'[i]? = some e → es'[i]? = some p → (∀ (O : Nat → Prop) (w : World), RepD O w e.key p.1) ∧ (∀ (O : Nat → Prop) (w : World), RepD O w e.val p.2) ∧ p.1.bare = true ∧ p.2.bare = true) :
    SimB X G β (setBox S id (.map es') n) a { w with heap := w.heap.setIfInBounds b (.map vs' clock') } := by
  have hid := id_lt hb (by simp)
  have ho : (sget S id).box.owned = true := by rw [hb]; rfl
  have hbl : blkOf (β id) = some b := by rw [hβ]; rfl
  obtain ⟨hs1, hs2⟩ := heap_set (o' := .map vs' clock') hh
  have h5 := h.rebox (R' := X.R) (id := id) (B := .map es') (v := β id) (n := n) (w' := { w with heap := w.heap.setIfInBounds b (.map vs' clock') })
    (fun _ h => h) hid (.inr ⟨hn.symm, rfl, by rw [hb]; simp⟩) (by simp)
    ⟨rfl, rfl, rfl, by simp, fun k hk hm => hs2 k fun e => by subst e; rcases (h.mine id k ho hbl).1 with h1 | h1; omega; exact hm h1⟩
    (fun k _ hk => hs2 k fun e => hk ho (by rw [hbl, e]))
    (fun _ k hk => ⟨.inl ⟨hk, ho⟩, (h.mine id k ho hk).2⟩)
    (fun k hv => by
      rw [upd_same] at k hv ⊢
      exact ⟨b, vs', clock', hβ, hs1, hl, fun i e p he hp => ⟨(hr i e p he hp).1 _ _, (hr i e p he hp).2.1 _ _, (hr i e p he hp).2.2⟩⟩)
  rw [upd_same] at h5
  exact h5
theorem idxD_eq {q : D} : ∀ {es : List (D × D)} {j : Nat}, idxD q es = some j → ∀ h : j < es.length, keyEq q es[j].1 = true
  | [], j, h, hl => by simp at hl
  | p :: r, j, h, hl => by
    unfold idxD at h
    cases hk : keyEq q p.1 with
    | true => rw [hk] at h; cases h; exact hk
    | false =>
      rw [hk] at h
      simp only [cond_false] at h
      obtain ⟨i, hi, rfl⟩ := Option.map_eq_some_iff.1 h
      exact idxD_eq hi (by simpa using hl)
theorem same_key {O : Nat → Prop} {q p : D} {u v : Value} (hk : keyKind q p = true) (he : keyEq q p = true) (hq : RepD O w u q) (hp : RepD O w v p) : v = u := by
  cases q <;> cases p <;> simp only [keyKind] at hk <;> try (cases hk; done)
  case int.int j n j' n' =>
    cases hq; cases hp
    have := of_decide_eq_true hk
    subst this
    simp only [keyEq] at he
    rw [eq_of_beq he]
  case str.str s s' =>
    cases hq; cases hp
    simp only [keyEq] at he
    rw [(bytes_beq _ _).1 he]
/-- A map is written. -/
theorem does_update (h : SimB X G β S a w) {g : Option (Nat × Bool)} (hg : GuardOK g a) {t kt et : TypeId} {m k x : Operand} (ho : o.op = .mapUpdate t m k x) (hu : P.underlying t = some (.map kt et)) {id n : Nat} {es : List (D × D)} (hm : ρOf S g m = .mp id n es) {q y : D} (hq : ρOf S g k = .d q) (hy : ρOf S g x = .d y) (hyb : y.bare = true)
    {kd : TypeDesc} (hkq : kdOf q = some kd) (hku : P.underlying kt = some kd) (hkk : ∀ p ∈ es, keyKind q p.1 = true) :
    Does P X G S a w o ⟨.any, [(id, .map (updD q y es), n)], []⟩ := by
  have h1 := ρ_sound h hg m
  rw [hm] at h1
  obtain ⟨hb, hn, hv⟩ := h1
  have h2 := ρ_sound h hg k
  rw [hq] at h2
  have h2' : RepD (OS β X S) w (a.eval k) q := h2
  have h3 := ρ_sound h hg x
  rw [hy] at h3
  have h3' : RepD (OS β X S) w (a.eval x) y := h3
  have hbx := h.boxes id
  rw [hb] at hbx
  obtain ⟨b, vs, clock, hβ, hh, hl, hr⟩ := hbx
  have hkey := isKey_of hkq h2'
  have hqb : q.bare = true := by cases q <;> simp [kdOf] at hkq <;> rfl
  have hfind := findNow_sound h2' hkq vs.toList es 0 (by simpa using hl) hkk (fun j e p he hp => (hr j e p (by simpa using he) hp).1)
  have hm2 : a.eval m = .map (some b) := by rw [hv, hβ]
  have old : ∀ (i : Nat) (e : MapEntry) (p : D × D), vs[i]? = some e → es[i]? = some p → (∀ (O : Nat → Prop) (w : World), RepD O w e.key p.1) ∧ (∀ (O : Nat → Prop) (w : World), RepD O w e.val p.2) ∧ p.1.bare = true ∧ p.2.bare = true := fun i e p he hp =>
    ⟨fun _ _ => bareD (hr i e p he hp).1 (hr i e p he hp).2.2.1, fun _ _ => bareD (hr i e p he hp).2.1 (hr i e p he hp).2.2.2, (hr i e p he hp).2.2⟩
  cases hj : idxD q es with
  | none =>
    rw [hj] at hfind
    simp only at hfind
    rw [updD_none y hj]
    refine .inr (.inl ⟨{ w with heap := w.heap.setIfInBounds b (.map (vs.push { key := a.eval k, val := a.eval x, born := clock }) (clock + 1)) }, ?_, β, ?_, trivial, rfl⟩)
    · simp [execOp, ho, Instr.mapUpdate, run_underlying hu, hm2, MapKept.run_getObj_map hh, MapKept.run_checkKey hku hkey, MapKept.run_findKey hku hfind, run_setObj_map _ hh, Result.andThen]
    · refine put_map h hb hn hβ hh (by simp [hl]) fun i e p he hp => ?_
      by_cases hi : i < vs.size
      · exact old i e p (by rw [Array.getElem?_push] at he; rw [if_neg (by omega)] at he; exact he) (by rw [List.getElem?_append_left (by omega)] at hp; exact hp)
      · have hi2 : i = vs.size := by
          have := (List.getElem?_eq_some_iff.1 hp).1
          simp at this; omega
        subst hi2
        simp at he
        rw [List.getElem?_append_right (by omega)] at hp
        simp [hl] at hp
        subst he; subst hp
        exact ⟨fun _ _ => bareD h2' hqb, fun _ _ => bareD h3' hyb, hqb, hyb⟩
  | some j =>
    rw [hj] at hfind
    have hjl := idxD_lt hj
    have hjv : j < vs.size := by omega
    have hvj : vs.toList[j]? = some vs[j] := by simp [hjv]
    simp only [hvj, Option.map_some] at hfind
    rw [updD_some y hj]
    have hrj := hr j vs[j] es[j] (by simp [hjv]) (List.getElem?_eq_getElem hjl)
    have hsame : vs[j].key = a.eval k := same_key (hkk _ (List.getElem_mem hjl)) (idxD_eq hj hjl) h2' hrj.1
    refine .inr (.inl ⟨{ w with heap := w.heap.setIfInBounds b (.map (vs.modify j fun e => { e with key := a.eval k, val := a.eval x }) clock) }, ?_, β, ?_, trivial, rfl⟩)
    · simp [execOp, ho, Instr.mapUpdate, run_underlying hu, hm2, MapKept.run_getObj_map hh, MapKept.run_checkKey hku hkey, MapKept.run_findKey hku hfind, run_setObj_map _ hh, Result.andThen, hjv, hsame, run_keyThatStays hkey]
    · refine put_map h hb hn hβ hh (by simp [hl]) fun i e p he hp => ?_
      rw [Array.getElem?_modify] at he
      rw [List.getElem?_set] at hp
      by_cases hi : j = i
      · subst hi
        rw [if_pos rfl] at he hp
        rw [if_pos hjl] at hp
        simp [hjv] at he
        cases hp
        subst he
        exact ⟨fun _ _ => bareD h2' hqb, fun _ _ => bareD h3' hyb, hqb, hyb⟩
      · rw [if_neg hi] at he hp
        exact old i e p he hp
end
end Go.Abs
