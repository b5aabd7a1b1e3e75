/-
  The abstract machine: calls; an operation, whatever it is.
-/
import Derived.Test.YtbhpfidifbbggaaAbsCall
namespace Go.Abs
open Go.RowKit (Below)

section
variable {P : Program} {base : Nat} {O₀ : Nat → Prop} {w₀ : World} {G : Nat → Prop} {β : Nat → Value} {S : AS} {a : Act} {w : World} {o : Oper}

theorem argOf_sound {r : RV} {v : Value} (hr : RepR β (OS β O₀ S) S w v r) {K : AV → List (Nat × Body × Nat) → Prop} (hy : argOf r K) :
    ∃ x b, K x b ∧ FZ S b ∧ ∀ B, (∀ y ∈ b, y ∈ B) → FZ S B → SimB base O₀ w₀ G β (appB B S) a w → (∀ k, OS β O₀ (appB B S) k → OS β O₀ S k) → RepC (OS β O₀ (appB B S)) w v x := by
  cases r <;> simp only [argOf] at hy
  case any => exact ⟨_, [], hy, fun _ h => by simp at h, fun _ _ _ _ _ => trivial⟩
  case d x => exact ⟨_, [], hy, fun _ h => by simp at h, fun B _ _ _ hk => RepD.mono (Kept.of_sub hk) hr⟩
  case lim sz xs => exact ⟨_, [], hy, fun _ h => by simp at h, fun B _ _ _ hk => RepD.mono (Kept.of_sub hk) hr.1⟩
  case cptr cs => exact ⟨_, [], hy, fun _ h => by simp at h, fun B _ _ _ hk => RepP.mono (Kept.of_sub hk) hr⟩
  case vptr id n off cs =>
    rw [forceS_eq] at hy
    obtain ⟨h1, h2, b, h3, h4⟩ := hr
    refine ⟨_, _, hy, fun x hx => ?_, fun B hB hF hS _ => ?_⟩
    · simp at hx; subst hx; exact ⟨h2, .inr (.inl ⟨cs, h1, rfl⟩)⟩
    · have := hF.mem (id, .fvar cs, n) (hB _ (by simp)) (.inr ⟨cs, rfl⟩)
      have hb := hS.boxes id
      simp only at this
      rw [this] at hb
      obtain ⟨⟨b', off', h5, h6⟩, _⟩ := hb
      rw [h3] at h5
      simp at h5
      obtain ⟨rfl, rfl⟩ := h5
      refine ⟨b, off, h4, fun j y hy => ?_⟩
      simp only [List.getElem?_drop] at hy
      have := h6 (off + j) y hy
      simpa using this
  case row id n sz e xs =>
    obtain ⟨h1, h2, h3⟩ := hr
    refine ⟨_, _, hy, fun x hx => ?_, fun B hB hF hS _ => ?_⟩
    · simp at hx; subst hx; exact ⟨h2, .inl ⟨sz, e, xs, h1, rfl⟩⟩
    · have := hF.mem (id, .frow sz xs, n) (hB _ (by simp)) (.inl ⟨sz, xs, rfl⟩)
      have hb := hS.boxes id
      simp only at this
      rw [this] at hb
      rw [h3]; exact hb

theorem argsOf_sound (h : SimB base O₀ w₀ G β S a w) {g : Option (Nat × Bool)} (hg : GuardOK g a) : ∀ {args : List Operand} {K : List AV → List (Nat × Body × Nat) → Prop}, argsOf (ρOf S g) args K →
    ∃ vs b, K vs b ∧ FZ S b ∧ vs.length = args.length ∧ ∀ B, (∀ y ∈ b, y ∈ B) → FZ S B → SimB base O₀ w₀ G β (appB B S) a w → (∀ k, OS β O₀ (appB B S) k → OS β O₀ S k) →
      ∀ (i : Nat) p x, args[i]? = some p → vs[i]? = some x → RepC (OS β O₀ (appB B S)) w (a.eval p) x
  | [], K, hy => ⟨[], [], hy, fun _ h => by simp at h, rfl, fun _ _ _ _ _ i p x hp _ => by simp at hp⟩
  | y :: r, K, hy => by
    obtain ⟨x, b, hK, hF, hrep⟩ := argOf_sound (base := base) (w₀ := w₀) (G := G) (a := a) (ρ_sound h hg y) hy
    obtain ⟨vs, bs, hK, hFs, hl, hreps⟩ := argsOf_sound h hg hK
    refine ⟨_, _, hK, fun z hz => ?_, by simp [hl], fun B hB hFB hS hk i p q hp hq => ?_⟩
    · rcases List.mem_append.1 hz with h | h
      · exact hF z h
      · exact hFs z h
    · cases i with
      | zero => simp at hp hq; subst hp; subst hq; exact hrep B (fun y hy => hB y (by simp [hy])) hFB hS hk
      | succ i => exact hreps B (fun y hy => hB y (by simp [hy])) hFB hS hk i p q (by simpa using hp) (by simpa using hq)

theorem repC_repA {O : Nat → Prop} {w : World} {n : Nat → Nat} {tm : Array Value} {v : Value} {r : AV} (h : RepC O w v r) : RepA β n O w tm v r ∧ r.guards = [] := by
  cases r <;> simp only [RepC] at h <;> first | exact ⟨h, rfl⟩ | exact ⟨trivial, rfl⟩

theorem bareD {O O' : Nat → Prop} {w w' : World} {v : Value} {x : D} (h : RepD O w v x) (hb : x.bare = true) : RepD O' w' v x := by
  cases h <;> simp [D.bare] at hb <;> constructor
theorem bareC {O O' : Nat → Prop} {w w' : World} {v : Value} {r : AV} (h : RepC O w v r) (hb : r.bare = true) : RepC O' w' v r := by
  cases r <;> simp only [RepC] at h <;> try (simp [AV.bare] at hb; done)
  case d x =>
    cases x
    case agg xs =>
      simp only [AV.bare, List.all_eq_true] at hb
      cases h with
      | agg vs _ hl h1 h => exact .agg vs xs hl h1 fun i v x hv hx => bareD (h i v x hv hx) (hb x (List.mem_of_getElem? hx))
    all_goals exact bareD h hb
  case tup xs =>
    simp only [AV.bare, List.all_eq_true] at hb
    obtain ⟨vs, h1, h2, h3⟩ := h
    exact ⟨vs, h1, h2, fun i u x hu hx => bareD (h3 i u x hu hx) (hb x (List.mem_of_getElem? hx))⟩

theorem repRes_repC {O : Nat → Prop} {w w' : World} {v : Value} {r : AV} (h : RepRes O w w' v r) (hr : ∀ sz e xs, r ≠ .own sz e xs) : RepC O w' v r := by
  cases r <;> first | exact h | exact absurd rfl (hr _ _ _)

theorem run_callFunc {f : FuncId} (hc : callable P f = true) (args : Array Value) : (callFunc f args).run P w = .ok (.enter f args) w := by
  unfold callable at hc
  split at hc
  · rename_i fn hf
    simp only [Bool.and_eq_true, Bool.not_eq_true'] at hc
    have hb : fn.body.isNone = false := by cases hfb : fn.body <;> simp [hfb] at hc ⊢
    simp only [callFunc, Sem.run_bind, run_program, Result.andThen_ok, hf]
    simp only [hc.1, hb, Bool.false_eq_true, if_false, Sem.run_pure]
  · cases hc

theorem does_call (h : SimB base O₀ w₀ G β S a w) {g : Option (Nat × Bool)} (hg : GuardOK g a) {d : Nat} (hd : d < S.length) {c : Call} (ho : o.op = .call c) {fo : Operand} (hc : c.callee = .value fo) {f : FuncId} (hf : ρOf S g fo = .d (.func f))
    {K : Eff → Prop} (hy : argsOf (ρOf S g) c.args.toList fun vs bs => CallStop P f vs fun r => got d (sget S d).ver r bs K) : ∃ e, K e ∧ Does P base O₀ w₀ G S a w o e := by
  obtain ⟨vs, b, hK, hF, hlen, hrep⟩ := argsOf_sound h hg hy
  obtain ⟨r, hcall, hK⟩ := hK.go
  obtain ⟨h1, h2⟩ := hF.sim h
  have hargs := hrep b (fun _ h => h) hF h1 h2
  have hfv := ρ_sound h hg fo
  rw [hf] at hfv
  have hfe := repD_func hfv
  have hrun : (execOp a.eval o).run P w = .ok (.enter f (c.args.map a.eval)) w := by
    simp only [execOp, ho, resolve, hc, hfe, Deferred.ofValue, Sem.run_bind, Sem.run_pure, Result.andThen_ok, invoke]
    rw [run_callFunc hcall.1]
    simp
  have hlt : ∀ k, OS β O₀ (appB b S) k → k < w.heap.size := by
    intro k hk
    rcases hk with hk | ⟨i, h3, h4⟩
    · exact Nat.lt_of_lt_of_le (h.o₀ k hk) h.hbase
    · exact (h1.blk h3 h4).2
  have hcl := hcall.2 (OS β O₀ (appB b S)) w (c.args.map a.eval) hlt (by simp [hlen]) (fun i v x hv hx => by
    simp only [Array.getElem?_map] at hv
    cases hp : c.args[i]? with
    | none => simp [hp] at hv
    | some p => simp [hp] at hv; subst hv; exact hargs i p x (by simpa using hp) hx)
  have close : ∀ e, K e → (∀ v w', Below w.heap.size w w' → RepRes (OS β O₀ (appB b S)) w w' v r → PostE base O₀ w₀ G S a e v w') → ∃ e, K e ∧ Does P base O₀ w₀ G S a w o e :=
    fun e he hp => ⟨e, he, .inr (.inr ⟨f, _, hrun, hcl.mono fun e' w' ⟨v, h3, h4, h5⟩ => ⟨v, h3, hp v w' h4 h5⟩⟩)⟩
  have plainCase : (∀ sz e xs, r ≠ .own sz e xs) → lentK r b K → ∃ e, K e ∧ Does P base O₀ w₀ G S a w o e := by
    intro hno hK
    have hK' : K ⟨r, []⟩ ∧ b = [] ∨ r.bare = true ∧ K ⟨r, []⟩ ∨ K ⟨r, b⟩ := by
      unfold lentK at hK
      split at hK
      · exact .inl ⟨hK, rfl⟩
      · split at hK
        · rename_i hbr; exact .inr (.inl ⟨hbr, hK⟩)
        · exact .inr (.inr hK)
    rcases hK' with ⟨hK, hb0⟩ | hK
    · subst hb0
      refine close _ hK fun v w' hb hr => ⟨β, h.world hb, ?_, ?_⟩
      · exact (repC_repA (repRes_repC hr hno)).1
      · exact (repC_repA (β := β) (n := verOf S) (tm := a.tmps) (repRes_repC hr hno)).2
    · rcases hK with ⟨hbare, hK⟩ | hK
      · refine close _ hK fun v w' hb hr => ⟨β, h.world hb, ?_, ?_⟩
        · exact (repC_repA (bareC (repRes_repC hr hno) hbare)).1
        · exact (repC_repA (β := β) (n := verOf S) (tm := a.tmps) (repRes_repC hr hno)).2
      · refine close _ hK fun v w' hb hr => ⟨β, h1.world hb, ?_, ?_⟩
        · exact (repC_repA (repRes_repC hr hno)).1
        · exact (repC_repA (β := β) (n := verOf S) (tm := a.tmps) (repRes_repC hr hno)).2
  unfold got at hK
  split at hK
  · rename_i sz e xs
    refine close _ hK fun v w' hb hr => ?_
    obtain ⟨h3, h4, vals, h5, h6⟩ := hr
    obtain ⟨β', h7, h8⟩ := mk_row h1 (d := d) (by rw [length_appB]; exact hd) hb h3 h4 h5 h6
    rw [hF.ver] at h7 h8
    refine ⟨β', ?_, ?_, rfl⟩
    · simp only [appB_append, appB]; exact h7
    · simp only [appB_append, appB]; exact h8
  · exact hK.elim
  · exact hK.elim
  · exact hK.elim
  · exact hK.elim
  · rename_i hno _ _ _ _
    exact plainCase (fun sz e xs e' => hno sz e xs e') hK
end
end Go.Abs
