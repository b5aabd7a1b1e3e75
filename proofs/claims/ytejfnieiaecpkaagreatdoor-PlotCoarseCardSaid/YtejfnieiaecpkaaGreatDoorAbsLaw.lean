/-
  The abstract machine: the law of a region whose order is open; a run is a contract.
-/
import Derived.Test.YtejfnieiaecpkaaGreatDoorAbsDraw
set_option linter.unusedVariables false
set_option linter.unusedSimpArgs false
namespace Go.Abs
open Go.RowKit (Below)

section
variable {P : Program} {X : Cx} {ops : Array Oper} {St : Nat → AS} {E : Nat → Eff} {S₀ : AS}

def fOf (listed : Array Bool) (k : Nat) : Bool := listed.getD k false
def doneOf (all : List Oper) (f : Nat → Bool) : List Nat := ((List.range all.length).filter f).flatMap fun k => dstList ((all[k]?).bind (·.dst))

theorem mem_doneOf {all : List Oper} {f : Nat → Bool} {t : Nat} : t ∈ doneOf all f ↔ ∃ (k : Nat) (o : Oper), all[k]? = some o ∧ f k = true ∧ o.dst = some t := by
  simp only [doneOf, List.mem_flatMap, List.mem_filter, List.mem_range]
  constructor
  · rintro ⟨k, ⟨hk, hf⟩, ht⟩
    refine ⟨k, all[k], List.getElem?_eq_getElem hk, hf, ?_⟩
    rw [List.getElem?_eq_getElem hk] at ht
    simp only [Option.bind_some] at ht
    cases hd : all[k].dst with
    | none => simp [hd, dstList] at ht
    | some d => simp [hd, dstList] at ht; rw [ht]
  · rintro ⟨k, o, ho, hf, hd⟩
    have hk : k < all.length := by
      rcases Nat.lt_or_ge k all.length with h | h
      · exact h
      · simp [List.getElem?_eq_none h] at ho
    exact ⟨k, ⟨hk, hf⟩, by simp [ho, hd, dstList]⟩

theorem filter_less {p p' : Nat → Bool} {i : Nat} (h1 : p i = true) (h2 : p' i = false) (h3 : ∀ x, x ≠ i → p' x = p x) : ∀ l : List Nat, (l.filter p').length + l.count i = (l.filter p).length
  | [] => rfl
  | x :: r => by
    have ih := filter_less h1 h2 h3 r
    by_cases e : x = i
    · subst e; simp [List.filter_cons, h1, h2, ← ih]; omega
    · have hb : (x == i) = false := by simp [e]
      rw [List.count_cons, hb]
      by_cases hp : p x = true
      · simp [List.filter_cons, hp, h3 x e]; omega
      · simp [List.filter_cons, hp, h3 x e]; omega

theorem Mid.all_done (h : TRun P ops.toList S₀ St E) {f : Nat → Bool} {T : AS} (m : Mid ops.toList St E S₀ f T) (hf : ∀ k, k < ops.size → f k = true) : T = St ops.size := by
  have hk : ∀ (k : Nat) (o : Oper), ops.toList[k]? = some o → k < ops.size := by
    intro k o ho
    rcases Nat.lt_or_ge k ops.size with h | h
    · exact h
    · simp [h] at ho
  have hle : ops.size ≤ ops.toList.length := by simp
  refine ext_as (by rw [m.len, h.len _ hle]) (fun t => m.vs t _ hle fun k o ho _ => ?_) (fun b => m.vb b _ hle fun k o ho _ => ?_)
  · exact ⟨fun _ => hk k o ho, fun hh => hf k hh⟩
  · exact ⟨fun _ => hk k o ho, fun hh => hf k hh⟩

theorem edge_iff {o : Oper} {i : Nat} : edge o i = true ↔ ∃ e ∈ o.after, e.on = i ∧ Region.binds .any e = true := by
  simp only [edge, List.any_eq_true, Array.mem_toList_iff, Bool.and_eq_true, beq_iff_eq]

theorem any_sound (h : TRun P ops.toList S₀ St E) (hreg : regS ops.toList 0 ops.toList = true) {Q : Exit → Act → World → Prop}
    (hQ : ∀ β a w (done : List Nat), SimB X (· ∈ done) β (St ops.size) a w → Q .normal a w) :
    ∀ (fuel : Nat) (listed : Array Bool) (T : AS) (β : Nat → Value) (a : Act) (w : World), listed.size = ops.size → Mid ops.toList St E S₀ (fOf listed) T → SimB X (· ∈ doneOf ops.toList (fOf listed)) β T a w →
      ((List.range ops.size).filter fun k => !fOf listed k).length ≤ fuel → wpAny P .any ops Q fuel listed a w := by
  -- where nothing is ready, all is done
  have stop : ∀ (listed : Array Bool) (T : AS) (β : Nat → Value) (a : Act) (w : World), listed.size = ops.size → Mid ops.toList St E S₀ (fOf listed) T → SimB X (· ∈ doneOf ops.toList (fOf listed)) β T a w →
      Region.ready .any ops listed = [] → Q .normal a w := by
    intro listed T β a w hsz m hs hr
    have all_ : ∀ k, k < ops.size → fOf listed k = true := by
      intro k
      induction k using Nat.strongRecOn with
      | _ k ih =>
        intro hk
        cases hfk : fOf listed k with
        | true => rfl
        | false =>
          exfalso
          have hmem : k ∈ Region.ready .any ops listed := by
            refine mem_ready.2 ⟨?_, ops[k], by simp [hk], fun e he hb => ?_⟩
            · simp only [fOf, Array.getD] at hfk ⊢
              rw [dif_pos (by omega)] at hfk ⊢
              exact hfk
            · have hlt := (regS_spec (all := ops.toList) ops.toList 0 (fun j => by simp) hreg k ops[k] (by omega) (by simp [hk])).1.1 e he hb
              exact ih e.on hlt (by omega)
          rw [hr] at hmem
          cases hmem
    rw [m.all_done h all_] at hs
    exact hQ β a w _ hs
  intro fuel
  induction fuel with
  | zero =>
    intro listed T β a w hsz m hs hc
    have hr : Region.ready .any ops listed = [] := by
      cases hr : Region.ready .any ops listed with
      | nil => rfl
      | cons i r =>
        exfalso
        have hi := (mem_ready.1 (show i ∈ Region.ready .any ops listed by rw [hr]; simp))
        obtain ⟨h1, o, ho, _⟩ := hi
        have hlt : i < ops.size := by
          rcases Nat.lt_or_ge i ops.size with h | h
          · exact h
          · simp [Array.getElem?_eq_none h] at ho
        have : i ∈ (List.range ops.size).filter fun k => !fOf listed k := by
          simp only [List.mem_filter, List.mem_range, Bool.not_eq_true']
          refine ⟨hlt, ?_⟩
          simp only [fOf, Array.getD] at h1 ⊢
          rw [dif_pos (by omega)] at h1 ⊢
          exact h1
        have := List.length_pos_of_mem this
        omega
    exact ⟨hr, stop listed T β a w hsz m hs hr⟩
  | succ fuel ih =>
    intro listed T β a w hsz m hs hc
    refine ⟨fun hr => stop listed T β a w hsz m hs hr, fun i hi => ?_⟩
    obtain ⟨h1, o, ho, hall⟩ := mem_ready.1 hi
    have hlt : i < ops.size := by
      rcases Nat.lt_or_ge i ops.size with h | h
      · exact h
      · simp [Array.getElem?_eq_none h] at ho
    have hol : ops.toList[i]? = some o := by simpa using ho
    have hfi : fOf listed i = false := by
      simp only [fOf, Array.getD] at h1 ⊢
      rw [dif_pos (by omega)] at h1 ⊢
      exact h1
    have hready : ∀ j, edge o j = true → fOf listed j = true := by
      intro j hj
      obtain ⟨e, he, hon, hb⟩ := edge_iff.1 hj
      rw [← hon]
      exact hall e he hb
    obtain ⟨hS, hB, m'⟩ := m.step h hreg hol hfi hready
    have hlenT : (St i).length = T.length := by rw [h.len i (by simp; omega), m.len]
    have hy := h.does i o hol T (doneOf ops.toList (fOf listed)) hS hB hlenT (fun j want t hg ht => by
      rw [dstOf_eq] at ht
      cases hoj : ops.toList[j]? with
      | none => simp [hoj] at ht
      | some oj =>
        simp [hoj] at ht
        refine mem_doneOf.2 ⟨j, oj, hoj, ?_, ht⟩
        -- the guard's own operation has been carried out
        have hin : t ∈ looks ops.toList o := by simp [looks, guardsOf, hg, dstOf_eq, hoj, ht, dstList]
        have hji := (regS_spec (all := ops.toList) ops.toList 0 (fun j => by simp) hreg i o (by omega) hol).1.2 j want hg
        rcases (regS_spec (all := ops.toList) ops.toList 0 (fun j => by simp) hreg i o (by omega) hol).2 j oj hji hoj with hed | ⟨hno, _⟩
        · exact m.ready2 hready hed
        · exact absurd hin (hno t ht))
    obtain ⟨e, ⟨_, he⟩, hok⟩ := opY_sound hs hy
    subst he
    have hstep := hok.step (Q := Q) (K := wpAny P .any ops Q fuel (listed.setIfInBounds i true)) (fun d hd hm => by
        obtain ⟨k, ok, hok', hfk, hdk⟩ := mem_doneOf.1 hm
        rcases Nat.lt_trichotomy k i with hk | hk | hk
        · exact h.once k i ok o hk hok' hol d hdk hd
        · subst hk; rw [hfi] at hfk; cases hfk
        · exact h.once i k o ok hk hol hok' d hd hdk)
      (fun β' a' w' hs' => by
        have hf' : fOf (listed.setIfInBounds i true) = fun k => if k = i then true else fOf listed k := by
          funext k
          simp only [fOf, Array.getD_eq_getD_getElem?, Array.getElem?_setIfInBounds]
          by_cases hki : k = i
          · subst hki; simp [hsz, hlt]
          · simp [Ne.symm hki, hki]
        refine ih _ _ β' a' w' (by simp [hsz]) (by rw [hf']; exact m') (hs'.weaken fun t ht => ?_) ?_
        · rw [hf']
          rcases List.mem_append.1 ht with ht | ht
          · refine mem_doneOf.2 ⟨i, o, hol, by simp, ?_⟩
            cases hd : o.dst with
            | none => simp [hd, dstList] at ht
            | some d => simp [hd, dstList] at ht; rw [ht]
          · obtain ⟨k, ok, hok', hfk, hdk⟩ := mem_doneOf.1 ht
            exact mem_doneOf.2 ⟨k, ok, hok', by simp [hfk], hdk⟩
        · have := filter_less (p := fun k => !fOf listed k) (p' := fun k => !fOf (listed.setIfInBounds i true) k) (i := i) (by simp [hfi]) (by simp [hf']) (fun x hx => by simp [hf', hx]) (List.range ops.size)
          have hpos : 0 < (List.range ops.size).count i := List.count_pos_iff.2 (by simp [hlt])
          omega)
    unfold wpOp
    simp only [ho]
    split
    · rename_i hw; rw [if_pos hw] at hstep; exact .inl hstep
    · rename_i hw; rw [if_neg hw] at hstep; exact hstep

theorem region_law (P : Program) : RegionLaw P := by
  intro id ops Q S X β a w hy hs
  have hy : Need (regS ops.toList 0 ops.toList = true ∧ P.follows .mixedOrders = true) (opsD P ops.toList 0 [] [] ops.toList S fun S => plain S (Q .normal)) := hy
  obtain ⟨⟨hreg, hm⟩, hy⟩ := hy
  obtain ⟨St, E, h0, hK, hnext, _, honce, hdoes, _, hbox⟩ := run_of P ops.toList ops.toList 0 [] [] S _ (fun j => by simp) hy
  have hrun : TRun P ops.toList S St E := ⟨h0, fun i o ho => hnext i o (by omega) ho, fun i j o o' hij h1 h2 => honce i j o o' (by omega) hij h1 h2, fun i o ho => hdoes i o (by omega) ho, fun i j o o' hij h1 h2 => hbox i j o o' (by omega) hij h1 h2⟩
  refine wp_region_any hm ?_
  have hw : SimB X (fun _ => False) β S a { w with drawn := w.drawn + 1 } := hs.world ⟨rfl, rfl, rfl, Nat.le_refl _, fun _ _ => rfl⟩
  refine any_sound hrun hreg (fun β' a' w' done hs' => ?_) ops.size _ S β a _ (by simp) ?_ (hw.weaken fun _ hf => hf.elim) ?_
  · rw [plain_eq] at hK
    simp only [Nat.zero_add, Array.length_toList] at hK
    exact ⟨β', _, hK, hs'.plain⟩
  · have hf : ∀ k, fOf (Array.replicate ops.size false) k = false := by
      intro k
      simp only [fOf, Array.getD]
      split <;> simp
    refine ⟨rfl, (fun k o _ hk => by rw [hf k] at hk; cases hk), fun t i hi hcut => ?_, fun b i hi hcut => ?_⟩
    · rw [← h0]
      refine (hrun.keepS (i := 0) i (by omega) hi fun k o _ hk ho hd => ?_).symm
      have := (hcut k o ho hd).2 hk
      rw [hf k] at this; cases this
    · rw [← h0]
      have := hrun.keepB (b := b) (i := 0) i (by omega) hi fun k o _ hk ho hd => by
        have := (hcut k o ho hd).2 hk
        rw [hf k] at this; cases this
      exact ⟨this.1.symm, this.2.symm⟩
  · exact Nat.le_trans (List.length_filter_le _ _) (by simp)

/-- A RUN OF THE MACHINE IS A CONTRACT. -/
theorem acall {f : FuncId} {fn : Func} {args : List AV} {r : AV} (hf : P.funcs[f]? = some fn) (hname : (fn.name == "runtime.NumGoroutine") = false) (hr : Runs P fn args r) : ACall P f args r :=
  acall_of_runs (region_law P) hf hname hr
/-- The same, for one that is handed rows or variables. -/
theorem mcall {f : FuncId} {fn : Func} {args outs : List AV} {r : AV} (hf : P.funcs[f]? = some fn) (hname : (fn.name == "runtime.NumGoroutine") = false) (hol : outs.length = args.length)
    (hfit : ∀ (i : Nat) x y, args[i]? = some x → outs[i]? = some y → match y with
      | .own sz e _ => ∃ xs, x = .own sz e xs
      | .optr cs => ∃ cs', x = .optr cs' ∧ cs.length = cs'.length
      | _ => True) (hr : RunsM P fn args outs r) : MCall P f args outs r :=
  mcall_of_runs (region_law P) hf hname hol hfit hr
/-- The same two, with places where ways come together. -/
theorem acallJ (J : List Nat) {f : FuncId} {fn : Func} {args : List AV} {r : AV} (hf : P.funcs[f]? = some fn) (hname : (fn.name == "runtime.NumGoroutine") = false) (hr : RunsJ P J fn args r) : ACall P f args r :=
  acall_of_runs (region_law P) hf hname hr
theorem mcallJ (J : List Nat) {f : FuncId} {fn : Func} {args outs : List AV} {r : AV} (hf : P.funcs[f]? = some fn) (hname : (fn.name == "runtime.NumGoroutine") = false) (hol : outs.length = args.length)
    (hfit : ∀ (i : Nat) x y, args[i]? = some x → outs[i]? = some y → match y with
      | .own sz e _ => ∃ xs, x = .own sz e xs
      | .optr cs => ∃ cs', x = .optr cs' ∧ cs.length = cs'.length
      | _ => True) (hr : RunsMJ P J fn args outs r) : MCall P f args outs r :=
  mcall_of_runs (region_law P) hf hname hol hfit hr
/-- The same for a closure that catches a variable with a row of the frame's own. -/
theorem wcall (J : List Nat) {f : FuncId} {fn : Func} {args : List AV} {k sz : Nat} {e : TypeId} {xs ys : List D} (q : Nat) (hf : P.funcs[f]? = some fn) (hname : (fn.name == "runtime.NumGoroutine") = false) (hres : fn.results = #[])
    (hk : args[k]? = some .any) (hq : q < args.length) (hkq : q ≠ k) (hmut : args.all (fun x => !x.mut) = true) (hr : RunsW P J fn args k q sz e xs ys) : WCall P f args k sz e xs ys :=
  wcall_of_runs (region_law P) hf hname hres hk hq hkq hmut hr
end
end Go.Abs
