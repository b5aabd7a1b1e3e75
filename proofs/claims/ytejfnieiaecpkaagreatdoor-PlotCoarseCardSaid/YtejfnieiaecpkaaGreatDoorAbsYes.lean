/-
  The abstract machine: arguments, function values, calls.
-/
import Derived.Test.YtejfnieiaecpkaaGreatDoorAbsCall
set_option linter.unusedVariables false
set_option linter.unusedSimpArgs false
namespace Go.Abs
open Go.RowKit (Below)

section
variable {P : Program} {X : Cx} {G : Nat → Prop} {β : Nat → Value} {S : AS} {a : Act} {w : World} {o : Oper}

theorem bareD {O O' : Nat → Prop} {w w' : World} {v : Value} {y : D} (h : RepD O w v y) (hb : y.bare = true) : RepD O' w' v y := by
  cases h with
  | bool b => exact .bool b
  | int k n => exact .int k n
  | str s => exact .str s
  | fn f vs xs hl h1 h =>
    cases xs with
    | nil => exact .fn f vs [] hl h1 fun i v y _ hy => by simp at hy
    | cons q r => simp [D.bare] at hb
  | ptr => simp [D.bare] at hb
  | agg => simp [D.bare] at hb
  | nil a sz => exact .nil a sz
  | emp a cap sz => exact .emp a cap sz
  | list b off cap sz xs c hne => cases xs with
    | nil => exact absurd rfl hne
    | cons q r => simp [D.bare] at hb

theorem cells_norm (h : SimB X G β S a w) {cs : List C} {K : List D → Bx → Prop} (hy : cellsK (σOf S) cs fun l b => normC l fun l => K l b) :
    ∃ l b, K l b ∧ FZ S [] b ∧ (∀ z ∈ b, ∃ sz xs, z.2.1 = .frow sz xs) ∧ CellsD S b cs l ∧
      ∀ vs : List Value, vs.length = cs.length → (∀ (j : Nat) v c, vs[j]? = some v → cs[j]? = some c → RepCell β (verOf S) (OS β X S) w v c) → Held X G β S a w b fun O => RepL O w vs l := by
  obtain ⟨l, b, hK, hF, hfr, hl, hc, hh⟩ := cellsK_sound h hy
  rw [normC_eq] at hK
  refine ⟨_, b, hK, hF, hfr, ⟨by simp [hl], fun j c y hcj hyj => ?_⟩, fun vs hv hr => (hh vs hv hr).mono (fun _ h => h) fun O h => h.norm⟩
  simp only [List.getElem?_map] at hyj
  cases hz : l[j]? with
  | none => simp [hz] at hyj
  | some z =>
    simp [hz] at hyj
    subst hyj
    have := hc j c z hcj hz
    cases c with
    | d q => rw [this]
    | sl id n =>
      obtain ⟨sz, xs, h1, h2, h3⟩ := this
      exact ⟨sz, xs, by rw [h1]; rfl, h2, h3⟩
    | own _ _ _ => exact this

theorem argOf_sound (h : SimB X G β S a w) {r : RV} {v : Value} (hr : RepR β (OS β X S) S w v r) {K : AV → Bx → Prop} (hy : argOf (σOf S) r K) :
    ∃ y b, K y b ∧ FZ S [] b ∧ y.mut = false ∧ Held X G β S a w b fun O => RepC O w v y := by
  cases r <;> simp only [argOf] at hy
  case any => exact ⟨_, [], hy, trivial, rfl, fun _ _ _ _ _ => trivial⟩
  case d y =>
    rw [normK_eq] at hy
    exact ⟨_, [], hy, trivial, rfl, fun B _ _ _ hk => (RepD.mono (Kept.of_sub hk) hr).norm⟩
  case lim sz xs => exact ⟨_, [], hy, trivial, rfl, fun B _ _ _ hk => RepD.mono (Kept.of_sub hk) hr.1⟩
  case vptr id n off cs =>
    obtain ⟨l, b, hK, hF, hfr, hcd, hh⟩ := cells_norm h hy
    rw [forceS_eq] at hK
    obtain ⟨h1, h2, bb, h3, h4⟩ := hr
    have hF2 : FZ S [] (b ++ [(id, .fvar l, n)]) := hF.snoc ⟨h2, .inr (.inl ⟨cs, l, h1, rfl, by simpa using hcd⟩)⟩
    refine ⟨_, _, hK, hF2, rfl, fun B hB hf hs hk => ?_⟩
    have hbx := hs.boxes id
    rw [hf.mem (id, .fvar l, n) (hB _ (by simp))] at hbx
    obtain ⟨h5, _⟩ := hbx
    rw [h3] at h5
    have := h5.drop off
    rw [Nat.zero_add] at this
    show RepD _ _ _ _
    rw [h4]; exact this
  case row id n sz e xs =>
    obtain ⟨h1, h2, h3⟩ := hr
    refine ⟨_, _, hy, ⟨⟨h2, .inl ⟨sz, e, xs, h1, rfl⟩⟩, trivial⟩, rfl, fun B hB hf hs hk => ?_⟩
    have hbx := hs.boxes id
    rw [hf.mem (id, .frow sz xs, n) (hB _ (by simp))] at hbx
    show RepD _ _ _ _
    rw [h3]; exact hbx
  case eptr id n sz e xs i off =>
    obtain ⟨h1, h2, bb, m, cap, h3, h4⟩ := hr
    obtain ⟨_, y, hy1, hK⟩ := hy.go
    simp only [Int.toNat_natCast] at hy1
    rw [forceS_eq] at hK
    refine ⟨_, _, hK, ⟨⟨h2, .inl ⟨sz, e, xs, h1, rfl⟩⟩, trivial⟩, rfl, fun B hB hf hs hk => ?_⟩
    have hbx := hs.boxes id
    rw [hf.mem (id, .frow sz xs, n) (hB _ (by simp))] at hbx
    show RepD _ _ _ _
    have hbx : RepD _ _ _ _ := hbx
    rw [h3] at hbx
    rw [h4]
    generalize hvv : Value.slice (some ⟨bb, 0, none⟩) m cap = vv at hbx
    cases hbx with
    | emp => simp at hy1
    | list b' off' cap' _ _ c hne hb hO hcap hszs h1' hcell hrep =>
      simp at hvv
      obtain ⟨⟨rfl, rfl⟩, _, _⟩ := hvv
      have := RepD.ptr (O := OS β X (appB B S)) (w := w) bb (0 + i * sz) y.cells (fun j => c i j) (fun _ => hb) (fun _ => hO) (fun z hz => h1' y (List.mem_of_getElem? hy1) z hz) (fun j z hz => hcell _ _ _ _ hy1 hz) (fun j z hz => hrep _ _ _ _ hy1 hz)
      have := this.drop off
      rwa [Nat.zero_add] at this

theorem nilOf_sound {t : TypeId} {K : AV → Prop} (hy : nilOf P t K) : ∃ y, K (.d y) ∧ ∀ (O : Nat → Prop) (w : World), RepD O w (.slice none 0 0) y := by
  unfold nilOf at hy
  split at hy
  · exact ⟨_, hy, fun _ _ => .emp _ _ _⟩
  · exact hy.elim

theorem argsOf_sound (h : SimB X G β S a w) {g : Option (Nat × Bool)} (hg : GuardOK g a) : ∀ {args : List Operand} {ts : List TypeId} {K : List AV → Bx → Prop}, argsOf P (σOf S) (ρOf S g) args ts K →
    ∃ vs b, K vs b ∧ FZ S [] b ∧ vs.length = args.length ∧ Held X G β S a w b fun O => ∀ (i : Nat) p y, args[i]? = some p → vs[i]? = some y → RepC O w (a.eval p) y
  | [], ts, K, hy => ⟨[], [], hy, trivial, rfl, fun _ _ _ _ _ i p y hp _ => by simp at hp⟩
  | q :: r, ts, K, hy => by
    unfold argsOf at hy
    split at hy
    · rename_i hnil
      cases ts with
      | nil => exact hy.elim
      | cons t ts =>
        obtain ⟨y, hy, hrep⟩ := nilOf_sound hy
        obtain ⟨vs, bs, hK, hFs, hl, hreps⟩ := argsOf_sound h hg hy
        refine ⟨_, _, hK, hFs, by simp [hl], hreps.mono (fun _ h => h) fun O hh i p z hp hz => ?_⟩
        cases i with
        | zero => simp at hp hz; subst hp; subst hz; rw [isNilC_eq hnil]; exact hrep O w
        | succ i => exact hh i p z (by simpa using hp) (by simpa using hz)
    · obtain ⟨y, b, hK, hF, _, hrep⟩ := argOf_sound h (ρ_sound h hg q) hy
      obtain ⟨vs, bs, hK, hFs, hl, hreps⟩ := argsOf_sound h hg hK
      refine ⟨_, _, hK, hF.append hFs, by simp [hl], (hrep.and hreps).mono (fun _ h => h) fun O hh i p z hp hz => ?_⟩
      cases i with
      | zero => simp at hp hz; subst hp; subst hz; exact hh.1
      | succ i => exact hh.2 i p z (by simpa using hp) (by simpa using hz)

/-- What an argument that is handed over is. -/
def MutIs (β : Nat → Value) (S : AS) (b : Bx) (v : Value) (id n : Nat) : AV → Prop
  | .own sz e xs => (sget S id).box = .row sz e xs ∧ (sget S id).ver = n ∧ v = β id
  | .optr l => ∃ cs, (sget S id).box = .var cs ∧ (sget S id).ver = n ∧ v = β id ∧ CellsD S b cs l
  | _ => False
theorem MutIs.mono {b b' : Bx} (hb : ∀ y ∈ b, y ∈ b') {v : Value} {id n : Nat} {y : AV} (h : MutIs β S b v id n y) : MutIs β S b' v id n y := by
  cases y <;> first | exact h | (obtain ⟨cs, h1, h2, h3, h4⟩ := h; exact ⟨cs, h1, h2, h3, h4.mono hb⟩)

theorem margOf_sound (h : SimB X G β S a w) {r : RV} {v : Value} (hr : RepR β (OS β X S) S w v r) {K : AV → Bx → Option (Nat × Nat) → Prop} (hy : margOf (σOf S) r K) :
    ∃ y b u, K y b u ∧ FZ S [] b ∧ match u with
      | none => y.mut = false ∧ Held X G β S a w b fun O => RepC O w v y
      | some (id, n) => MutIs β S b v id n y := by
  unfold margOf at hy
  split at hy
  · rename_i id n sz e xs
    exact ⟨_, [], some (id, n), hy, trivial, hr⟩
  · rename_i id n cs
    obtain ⟨l, b, hK, hF, hfr, hcd, hh⟩ := cells_norm h hy
    obtain ⟨h1, h2, bb, h3, h4⟩ := hr
    exact ⟨_, b, some (id, n), hK, hF, cs, h1, h2, by rw [h4, h3], hcd⟩
  · obtain ⟨y, b, hK, hF, hm, hrep⟩ := argOf_sound h hr hy
    exact ⟨y, b, none, hK, hF, hm, hrep⟩

theorem margsOf_sound (h : SimB X G β S a w) {g : Option (Nat × Bool)} (hg : GuardOK g a) : ∀ {args : List Operand} {ts : List TypeId} {K : List AV → Bx → List (Option (Nat × Nat)) → Prop}, margsOf P (σOf S) (ρOf S g) args ts K →
    ∃ vs b us, K vs b us ∧ FZ S [] b ∧ vs.length = args.length ∧ us.length = args.length ∧
      (∀ (i : Nat) p y id n, args[i]? = some p → vs[i]? = some y → us[i]? = some (some (id, n)) → MutIs β S b (a.eval p) id n y) ∧
      (∀ (i : Nat) y, vs[i]? = some y → us[i]? = some none → y.mut = false) ∧
      Held X G β S a w b fun O => ∀ (i : Nat) p y, args[i]? = some p → vs[i]? = some y → us[i]? = some none → RepC O w (a.eval p) y
  | [], ts, K, hy => ⟨[], [], [], hy, trivial, rfl, rfl, (fun i p y id n hp => by simp at hp), (fun i y hy => by simp at hy), fun _ _ _ _ _ i p y hp _ => by simp at hp⟩
  | q :: r, ts, K, hy => by
    unfold margsOf at hy
    split at hy
    · rename_i hnil
      cases ts with
      | nil => exact hy.elim
      | cons t ts =>
        obtain ⟨y, hy, hrep⟩ := nilOf_sound hy
        obtain ⟨vs, bs, us, hK, hFs, hl, hl2, hmut, hnm, hreps⟩ := margsOf_sound h hg hy
        refine ⟨_, _, _, hK, hFs, by simp [hl], by simp [hl2], fun i p z id n hp hz hu => ?_, fun i z hz hu => ?_, hreps.mono (fun _ h => h) fun O hh i p z hp hz hu => ?_⟩
        · cases i with
          | zero => simp at hu
          | succ i => exact hmut i p z id n (by simpa using hp) (by simpa using hz) (by simpa using hu)
        · cases i with
          | zero => simp at hz; subst hz; rfl
          | succ i => exact hnm i z (by simpa using hz) (by simpa using hu)
        · cases i with
          | zero => simp at hp hz; subst hp; subst hz; rw [isNilC_eq hnil]; exact hrep O w
          | succ i => exact hh i p z (by simpa using hp) (by simpa using hz) (by simpa using hu)
    · obtain ⟨y, b, u, hK, hF, hu⟩ := margOf_sound h (ρ_sound h hg q) hy
      obtain ⟨vs, bs, us, hK, hFs, hl, hl2, hmut, hnm, hreps⟩ := margsOf_sound h hg hK
      refine ⟨_, _, _, hK, hF.append hFs, by simp [hl], by simp [hl2], fun i p z id n hp hz huu => ?_, fun i z hz huu => ?_, ?_⟩
      · cases i with
        | zero => simp at hp hz huu; subst hp; subst hz; subst huu; exact hu.mono fun y hy => by simp [hy]
        | succ i => exact (hmut i p z id n (by simpa using hp) (by simpa using hz) (by simpa using huu)).mono fun y hy => by simp [hy]
      · cases i with
        | zero => simp at hz huu; subst hz; subst huu; exact hu.1
        | succ i => exact hnm i z (by simpa using hz) (by simpa using huu)
      · intro B hB hf hs hk i p z hp hz huu
        cases i with
        | zero => simp at hp hz huu; subst hp; subst hz; subst huu; exact hu.2 B (fun y hy => hB y (by simp [hy])) hf hs hk
        | succ i => exact hreps B (fun y hy => hB y (by simp [hy])) hf hs hk i p z (by simpa using hp) (by simpa using hz) (by simpa using huu)

theorem catchK_sound (h : SimB X G β S a w) {g : Option (Nat × Bool)} (hg : GuardOK g a) : ∀ {args : List Operand} {K : List D → Bx → Prop}, catchK (σOf S) (ρOf S g) args K →
    ∃ l b, K l b ∧ FZ S [] b ∧ l.length = args.length ∧ (∀ y ∈ l, y.one = true) ∧ Held X G β S a w b fun O => ∀ (i : Nat) p y, args[i]? = some p → l[i]? = some y → RepD O w (a.eval p) y
  | [], K, hy => ⟨[], [], hy, trivial, rfl, (fun _ h => by cases h), fun _ _ _ _ _ i p y hp _ => by simp at hp⟩
  | q :: r, K, hy => by
    unfold catchK at hy
    obtain ⟨y, b, hK, hF, _, hrep⟩ := argOf_sound h (ρ_sound h hg q) hy
    split at hK
    · rename_i yd
      obtain ⟨h1, hK⟩ := ite_false_prop hK
      obtain ⟨l, bs, hK, hFs, hl, ho, hreps⟩ := catchK_sound h hg hK
      refine ⟨_, _, hK, hF.append hFs, by simp [hl], fun z hz => ?_, (hrep.and hreps).mono (fun _ h => h) fun O hh i p z hp hz => ?_⟩
      · rcases List.mem_cons.1 hz with rfl | hz
        · exact h1
        · exact ho z hz
      · cases i with
        | zero => simp at hp hz; subst hp; subst hz; exact hh.1
        | succ i => exact hh.2 i p z (by simpa using hp) (by simpa using hz)
    · exact hK.elim

theorem does_func (h : SimB X G β S a w) {g : Option (Nat × Bool)} (hg : GuardOK g a) {f : FuncId} {first caps : Array Operand} (ho : o.op = .makeFunc (.func f) first caps) (hf : first.toList = []) {K : Eff → Prop}
    (hy : catchK (σOf S) (ρOf S g) caps.toList fun l b => K ⟨.d (.fn f l), b, []⟩) : ∃ e, K e ∧ Does P X G S a w o e := by
  obtain ⟨l, b, hK, hF, hl, ho1, hrep⟩ := catchK_sound h hg hy
  obtain ⟨h1, _, _⟩ := hF.run h
  have hr := hrep.now h hF
  refine ⟨_, hK, .inl ⟨.func (.func f) #[] (caps.map a.eval), w, ?_, β, h1, ?_, rfl⟩⟩
  · have : first = #[] := by cases first; simp_all
    simp [execOp, ho, Instr.makeFunc, this]
  · refine .fn f _ _ (by simp [hl]) ho1 fun i v y hv hy => ?_
    rw [Array.getElem?_map] at hv
    cases hc : caps[i]? with
    | none => simp [hc] at hv
    | some p => simp [hc] at hv; subst hv; exact hr i p y (by simpa using hc) hy

theorem run_callFunc {f : FuncId} (hc : callable P f = true) (args : Array Value) : (callFunc f args).run P w = .ok (.enter f args) w := by
  unfold callable at hc
  split at hc
  · rename_i fn hf
    simp only [Bool.and_eq_true, Bool.not_eq_true'] at hc
    have hb : fn.body.isNone = false := by cases hfb : fn.body <;> simp [hfb] at hc ⊢
    simp only [callFunc, Sem.run_bind, run_program, Result.andThen_ok, hf]
    simp only [hc.1, hb, Bool.false_eq_true, if_false, Sem.run_pure]
  · cases hc

theorem capsK_eq : ∀ (l : List D) (K : List AV → Prop), capsK l K = K (l.map .d)
  | [], _ => rfl
  | x :: r, K => by rw [capsK, capsK_eq r]; rfl

/-! ### What the result is to the caller -/
theorem sget_appB : ∀ (b : Bx) (S : AS) (i : Nat), (∀ y ∈ b, y.1 < S.length) → (b.map (·.1)).Nodup → sget (appB b S) i = match b.find? (fun y => y.1 == i) with | some y => ⟨(sget S i).av, y.2.1, y.2.2⟩ | none => sget S i
  | [], _, _, _, _ => rfl
  | (id, B, n) :: r, S, i, hl, hn => by
    simp only [List.map_cons, List.nodup_cons] at hn
    have hid : id < S.length := hl (id, B, n) (by simp)
    simp only [appB]
    rw [sget_appB r _ i (fun y hy => by rw [length_setBox]; exact hl y (by simp [hy])) hn.2, sget_set1 hid]
    by_cases he : id = i
    · subst he
      have hnone : r.find? (fun y => y.1 == id) = none := by
        rw [List.find?_eq_none]
        intro y hy hh
        simp at hh
        exact hn.1 (List.mem_map.2 ⟨y, hy, hh⟩)
      rw [hnone]
      simp
    · have he' : ¬ i = id := fun h => he h.symm
      have hb : (id == i) = false := by simp [he]
      simp only [List.find?_cons, hb, he', if_false]
end
end Go.Abs
