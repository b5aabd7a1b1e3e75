/-
  The abstract machine: functions. A run of the machine is a contract of the function.
-/
import Derived.Test.YtbhpfidifbbggaaAbsCode
namespace Go.Abs
open Go.RowKit (Below)

section
variable {P : Program} {base : Nat} {O₀ : Nat → Prop} {w₀ : World} {β : Nat → Value} {S : AS} {a : Act} {w : World}

theorem OS_base (b : Nat) (h : O₀ b) : OS β O₀ S b := .inl h

theorem asD_ret (h : SimB base O₀ w₀ (fun _ => False) β S a w) {x : Operand} {K : D → List (Nat × Body × Nat) → Prop} (hy : asD (ρOf S none x) K) : ∃ y b, K y b ∧ RepD O₀ w (a.eval x) y := by
  obtain ⟨y, b, hK, hF, _, hrep⟩ := asD_sound (base := base) (w₀ := w₀) (G := fun _ => False) (a := a) (ρ_sound h (g := none) (fun _ _ e => by cases e) x) hy
  obtain ⟨h1, h2⟩ := hF.sim h
  exact ⟨y, b, hK, (hrep b (fun _ h => h) hF h1 h2).mono (Kept.of_sub fun b hb => OS_base b hb)⟩

/-- One result. -/
def resOf (tmps : Array Value) : ResultVar → Sem Value
  | .tmp t => pure (tmps.getD t undef)
  | .cell a t => do loadVar t (← asAddr (tmps.getD a undef))

theorem retOf_sound (h : SimB base O₀ w₀ (fun _ => False) β S a w) : ∀ {rs : List ResultVar} {K : List D → Prop}, retOf P S rs K →
    ∃ xs, K xs ∧ ∃ vs : List Value, (rs.mapM (resOf a.tmps)).run P w = .ok vs w ∧ vs.length = xs.length ∧ ∀ (i : Nat) v x, vs[i]? = some v → xs[i]? = some x → RepD O₀ w v x
  | [], K, hy => ⟨[], hy, [], rfl, rfl, fun i v x hv _ => by simp at hv⟩
  | .tmp t :: r, K, hy => by
    obtain ⟨y, b, hK, hr⟩ := asD_ret h hy
    obtain ⟨xs, hK, vs, h1, h2, h3⟩ := retOf_sound h hK
    refine ⟨_, hK, a.eval (.tmp t) :: vs, ?_, by simp [h2], fun i v x hv hx => ?_⟩
    · simp only [List.mapM_cons, resOf, Sem.run_bind, Sem.run_pure, Result.andThen_ok, h1]
      rfl
    · cases i with
      | zero => simp at hv hx; subst hv; subst hx; exact hr
      | succ i => exact h3 i v x (by simpa using hv) (by simpa using hx)
  | .cell t ty :: r, K, hy => by
    simp only [retOf] at hy
    have hrr := ρ_sound h (g := none) (fun _ _ e => by cases e) (.tmp t)
    split at hy
    · rename_i id n off cs hx
      rw [hx] at hrr
      obtain ⟨hb, _, b, hβ, hv⟩ := hrr
      have hbx := h.boxes id
      rw [hb] at hbx
      obtain ⟨b', vals, T, h1, _, h3, h4⟩ := hbx
      rw [hβ] at h1
      simp at h1
      subst h1
      obtain ⟨x, hK, v, hl, hxr⟩ := ldD_sound (O := OS β O₀ S) (w := w) (b := b) (off := off) hy (fun j y hy => by
        simp only [List.getElem?_drop] at hy
        have hj : off + j < vals.toList.length := by
          rw [h4.1]
          rcases Nat.lt_or_ge (off + j) cs.length with h | h
          · exact h
          · simp [List.getElem?_eq_none h] at hy
        have hv := h4.2 (off + j) vals.toList[off + j] y (List.getElem?_eq_getElem hj) hy
        exact ⟨vals.toList[off + j], by simp [World.cell?, h3, Array.getElem?_eq_getElem (by simpa using hj)], hv⟩)
      obtain ⟨xs, hK, vs, h5, h6, h7⟩ := retOf_sound h hK
      refine ⟨_, hK, v :: vs, ?_, by simp [h6], fun i u y hu hy => ?_⟩
      · have hv' : a.tmps.getD t undef = .pointer (some ⟨b, off, none⟩) := hv
        simp only [List.mapM_cons, resOf, hv', asAddr, Sem.run_bind, Sem.run_pure, Result.andThen_ok, hl, h5]
      · cases i with
        | zero => simp at hu hy; subst hu; subst hy; exact hxr.mono (Kept.of_sub fun b hb => OS_base b hb)
        | succ i => exact h7 i u y (by simpa using hu) (by simpa using hy)
    · exact hy.elim

theorem run_results {fn : Func} {vs : List Value} (h : (fn.results.toList.mapM (resOf a.tmps)).run P w = .ok vs w) :
    (results fn a.tmps).run P w = .ok (if h : vs.toArray.size = 1 then vs.toArray[0] else .tuple vs.toArray) w := by
  have e : (fn.results.mapM (resOf a.tmps)).run P w = .ok vs.toArray w := by
    rw [Array.mapM_eq_mapM_toList, Sem.run_map, h]
    simp
  have e2 : results fn a.tmps = (do let vs ← fn.results.mapM (resOf a.tmps); pure (if h : vs.size = 1 then vs[0] else .tuple vs)) := by
    unfold results
    congr 2
  rw [e2, Sem.run_bind, e]
  rfl

theorem retA_sound (hbw : base = w₀.heap.size) (h : SimB base O₀ w₀ (fun _ => False) β S a w) {fn : Func} {r : AV} (hy : retA P fn.results.toList S r) : ∃ v, (results fn a.tmps).run P w = .ok v w ∧ RepRes O₀ w₀ w v r := by
  have one : ∀ {x : AV} {v : Value}, Ret x r → RepRes O₀ w₀ w v x → RepRes O₀ w₀ w v r := fun hr h => by rw [← hr.go]; exact h
  unfold retA at hy
  split at hy
  · rename_i t hrs
    have single : ∀ v, a.eval (.tmp t) = v → (results fn a.tmps).run P w = .ok v w := by
      intro v hv
      have := run_results (P := P) (w := w) (a := a) (fn := fn) (vs := [v]) (by
        rw [hrs]
        simp only [List.mapM_cons, resOf, List.mapM_nil, Sem.run_bind, Sem.run_pure, Result.andThen_ok]
        rw [← hv]; rfl)
      simpa using this
    split at hy
    · rename_i id n sz e xs hx
      have hrr := ρ_sound h (g := none) (fun _ _ e => by cases e) (.tmp t)
      rw [hx] at hrr
      obtain ⟨hb, hn, hv⟩ := hrr
      rcases hy.go with ⟨hown, _⟩ | hret
      · refine ⟨β id, single _ hv, ?_⟩
        rw [← hown]
        have hbx := h.boxes id
        rw [hb] at hbx
        obtain ⟨h1, h2, vals, h3, h4⟩ := hbx
        refine ⟨h1, h2, vals, by rw [← hbw]; exact h3, h4.mono (Kept.of_sub fun b hbb => ?_)⟩
        rcases hbb with hbb | hbb
        · exact .inl hbb
        · exact .inr ⟨id, by rw [hb]; rfl, hbb⟩
      · have hy' : asD (ρOf S none (.tmp t)) fun x _ => Ret (.d x) r := by rw [hx]; exact hret
        obtain ⟨y, _, hK, hr⟩ := asD_ret h hy'
        exact ⟨_, single _ rfl, one hK hr⟩
    · obtain ⟨y, _, hK, hr⟩ := asD_ret h hy
      exact ⟨_, single _ rfl, one hK hr⟩
  · obtain ⟨xs, hK, vs, h1, h2, h3⟩ := retOf_sound h hy
    refine ⟨_, run_results h1, ?_⟩
    split at hK
    · rename_i x
      have hl : vs.length = 1 := h2
      obtain ⟨v, rfl⟩ := List.length_eq_one_iff.1 hl
      refine one hK ?_
      have := h3 0 v x rfl rfl
      show RepD _ _ _ _
      simpa using this
    · rename_i hne
      have hl : ¬ vs.toArray.size = 1 := by
        intro hh
        obtain ⟨x, hx⟩ := List.length_eq_one_iff.1 (show xs.length = 1 by rw [← h2]; simpa using hh)
        exact hne x hx
      rw [dif_neg hl]
      refine one hK ⟨vs.toArray, rfl, by simpa using h2, fun i u x hu hx => h3 i u x (by simpa using hu) hx⟩

theorem length_enter : ∀ (args : List AV) (S : AS), (enter args S).length = args.length + (S.length - args.length)
  | [], S => by simp [enter]
  | x :: r, S => by simp only [enter, List.length_cons, length_enter r, List.length_drop]; omega
theorem length_blank : ∀ n, (blank n).length = n
  | 0 => rfl
  | n + 1 => by simp [blank, length_blank n]
theorem sget_blank : ∀ n i, sget (blank n) i = sl0
  | 0, _ => rfl
  | _ + 1, 0 => rfl
  | n + 1, i + 1 => sget_blank n i
theorem sget_drop (k : Nat) : ∀ (S : AS) (i : Nat), sget (S.drop k) i = sget S (k + i) := by
  induction k with
  | zero => intro S i; simp
  | succ k ih =>
    intro S i
    cases S with
    | nil => simp [sget]
    | cons s r => rw [List.drop_succ_cons, ih, show k + 1 + i = (k + i) + 1 by omega]; rfl
theorem sget_enter : ∀ (args : List AV) (S : AS) (i : Nat), sget (enter args S) i = match args[i]? with | some x => ⟨x, .none, 0⟩ | none => sget S i
  | [], S, i => by simp [enter]
  | x :: r, S, 0 => by simp [enter, sget]
  | x :: r, S, i + 1 => by
    simp only [enter, sget, sget_enter r, List.getElem?_cons_succ]
    split
    · rfl
    · rw [sget_drop, Nat.add_comm]

/-- A RUN OF THE MACHINE IS A CONTRACT. -/
theorem acall_of_runs (hdraw : RegionLaw P) {f : FuncId} {fn : Func} {args : List AV} {r : AV} (hf : P.funcs[f]? = some fn) (hname : (fn.name == "runtime.NumGoroutine") = false) (hr : Runs P fn args r) : ACall P f args r := by
  unfold Runs at hr
  split at hr
  · rename_i c hc
    refine ⟨by simp [callable, hf, hname, hc], fun O w vs hO hlen hargs => ?_⟩
    rw [forceAS_eq] at hr
    refine calls_of_wp hf hc ?_
    have hsim : SimB w.heap.size O w (fun _ => False) (fun _ => undef) (enter args (blank fn.ntmps)) { tmps := vs ++ Array.replicate (fn.ntmps - vs.size) undef, defers := [] } w := by
      have hbox : ∀ i, (sget (enter args (blank fn.ntmps)) i).box = .none := by
        intro i
        rw [sget_enter]
        split
        · rfl
        · rw [sget_blank]; rfl
      refine ⟨?_, rfl, Below.refl _ _, Nat.le_refl _, hO, ?_, fun i => by rw [hbox]; trivial, (fun i j b hi => by rw [hbox] at hi; cases hi), fun t u hu => ?_⟩
      · rw [length_enter, length_blank]; simp [hlen]
      · intro t v hv
        rw [sget_enter]
        split
        · rename_i x hx
          have hlt : t < vs.size := by
            rw [hlen]
            rcases Nat.lt_or_ge t args.length with h | h
            · exact h
            · simp [List.getElem?_eq_none h] at hx
          rw [Array.getElem?_append_left hlt] at hv
          have := hargs t v x hv hx
          exact (repC_repA (this.mono (Kept.of_sub fun b hb => by
            rcases hb with hb | ⟨i, h1, _⟩
            · exact hb
            · rw [hbox] at h1; cases h1))).1
        · rw [sget_blank]; trivial
      · rw [sget_enter] at hu
        split at hu
        · rename_i x hx
          have hlt : t < vs.size := by
            rw [hlen]
            rcases Nat.lt_or_ge t args.length with h | h
            · exact h
            · simp [List.getElem?_eq_none h] at hx
          have := hargs t vs[t] x (by simp [hlt]) hx
          rw [(repC_repA (β := fun _ => undef) (n := fun _ => 0) (tm := #[]) this).2] at hu
          simp at hu
        · rw [sget_blank] at hu; simp [sl0, AV.guards] at hu
    refine wp_mono (wpA_sound hdraw c hr hsim) fun e a' w' hq => ?_
    obtain ⟨β', S', hq, hs⟩ := hq
    cases e with
    | normal =>
      obtain ⟨v, h1, h2⟩ := retA_sound rfl hs hq
      exact ⟨hs.df, v, h1, v, rfl, hs.below, h2⟩
    | ret =>
      obtain ⟨v, h1, h2⟩ := retA_sound rfl hs hq
      exact ⟨hs.df, v, h1, v, rfl, hs.below, h2⟩
    | exit id => exact hq.elim
    | goto l => exact hq.elim
    | panic ch => exact hq.elim
    | outgrown => exact hq.elim
  · exact hr.elim
end
end Go.Abs
