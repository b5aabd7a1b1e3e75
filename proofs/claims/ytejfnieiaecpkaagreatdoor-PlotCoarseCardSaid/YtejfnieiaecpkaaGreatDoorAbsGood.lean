/-
  The abstract machine: an operation's effect is one, and hangs on what the operation looks at.
-/
import Derived.Test.YtejfnieiaecpkaaGreatDoorAbsFn
set_option linter.unusedVariables false
set_option linter.unusedSimpArgs false
namespace Go.Abs

/-- A walk with a continuation that comes to one value. -/
def Good {α : Type} (F : (α → Prop) → Prop) : Prop := (∀ K K' : α → Prop, (∀ x, K x → K' x) → F K → F K') ∧ ∀ K, F K → ∃ x, F (fun y => y = x) ∧ K x
def Good2 {α γ : Type} (F : (α → γ → Prop) → Prop) : Prop := (∀ K K' : α → γ → Prop, (∀ x y, K x y → K' x y) → F K → F K') ∧ ∀ K, F K → ∃ x y, F (fun x' y' => x' = x ∧ y' = y) ∧ K x y

section
variable {α γ δ : Type}
theorem good_pure (x : α) : Good fun K : α → Prop => K x := ⟨fun _ _ h hk => h _ hk, fun _ hk => ⟨x, rfl, hk⟩⟩
theorem good_false : Good fun _ : α → Prop => False := ⟨fun _ _ _ h => h, fun _ h => h.elim⟩
theorem good2_pure (x : α) (y : γ) : Good2 fun K : α → γ → Prop => K x y := ⟨fun _ _ h hk => h _ _ hk, fun _ hk => ⟨x, y, ⟨rfl, rfl⟩, hk⟩⟩
theorem good2_false : Good2 fun _ : α → γ → Prop => False := ⟨fun _ _ _ h => h, fun _ h => h.elim⟩
theorem good_bind {F : (α → Prop) → Prop} {Gf : α → (γ → Prop) → Prop} (hF : Good F) (hG : ∀ x, Good (Gf x)) : Good fun K : γ → Prop => F fun x => Gf x K := by
  refine ⟨fun K K' h hk => hF.1 _ _ (fun x hx => (hG x).1 _ _ h hx) hk, fun K hk => ?_⟩
  obtain ⟨x, h1, h2⟩ := hF.2 _ hk
  obtain ⟨y, h3, h4⟩ := (hG x).2 _ h2
  exact ⟨y, hF.1 _ _ (fun z hz => by subst hz; exact h3) h1, h4⟩
theorem good_bind2 {F : (α → γ → Prop) → Prop} {Gf : α → γ → (δ → Prop) → Prop} (hF : Good2 F) (hG : ∀ x y, Good (Gf x y)) : Good fun K : δ → Prop => F fun x y => Gf x y K := by
  refine ⟨fun K K' h hk => hF.1 _ _ (fun x y hx => (hG x y).1 _ _ h hx) hk, fun K hk => ?_⟩
  obtain ⟨x, y, h1, h2⟩ := hF.2 _ hk
  obtain ⟨z, h3, h4⟩ := (hG x y).2 _ h2
  exact ⟨z, hF.1 _ _ (fun u v huv => by obtain ⟨rfl, rfl⟩ := huv; exact h3) h1, h4⟩
theorem good2_bind2 {ε : Type} {F : (α → γ → Prop) → Prop} {Gf : α → γ → (δ → ε → Prop) → Prop} (hF : Good2 F) (hG : ∀ x y, Good2 (Gf x y)) : Good2 fun K : δ → ε → Prop => F fun x y => Gf x y K := by
  refine ⟨fun K K' h hk => hF.1 _ _ (fun x y hx => (hG x y).1 _ _ h hx) hk, fun K hk => ?_⟩
  obtain ⟨x, y, h1, h2⟩ := hF.2 _ hk
  obtain ⟨z, z', h3, h4⟩ := (hG x y).2 _ h2
  exact ⟨z, z', hF.1 _ _ (fun u v huv => by obtain ⟨rfl, rfl⟩ := huv; exact h3) h1, h4⟩
theorem good_need {F : (α → Prop) → Prop} (p : Prop) (hF : Good F) : Good fun K : α → Prop => Need p (F K) := by
  refine ⟨fun K K' h hk => ⟨hk.1, hF.1 _ _ h hk.2⟩, fun K hk => ?_⟩
  obtain ⟨x, h1, h2⟩ := hF.2 _ hk.2
  exact ⟨x, ⟨hk.1, h1⟩, h2⟩
theorem good_ite {F : (α → Prop) → Prop} (c : Prop) [Decidable c] (hF : Good F) : Good fun K : α → Prop => if c then F K else False := by
  by_cases h : c
  · simp only [h, if_true]; exact hF
  · simp only [h, if_false]; exact good_false
theorem good_At (xs : List D) (i : Int) : Good fun K : D → Prop => At xs i K :=
  ⟨fun _ _ h hk => by obtain ⟨h0, x, h1, h2⟩ := hk.go; exact ⟨⟨h0, x, h1, h _ h2⟩⟩, fun _ hk => by obtain ⟨h0, x, h1, h2⟩ := hk.go; exact ⟨x, ⟨⟨h0, x, h1, rfl⟩⟩, h2⟩⟩
theorem good_either {F F' : (α → Prop) → Prop} (hF : Good F) (hF' : Good F') : Good fun K : α → Prop => Either (F K) (F' K) := by
  refine ⟨fun K K' h hk => ⟨hk.go.imp (hF.1 _ _ h) (hF'.1 _ _ h)⟩, fun K hk => ?_⟩
  rcases hk.go with hk | hk
  · obtain ⟨x, h1, h2⟩ := hF.2 _ hk; exact ⟨x, ⟨.inl h1⟩, h2⟩
  · obtain ⟨x, h1, h2⟩ := hF'.2 _ hk; exact ⟨x, ⟨.inr h1⟩, h2⟩
theorem good_homes {F : List (Nat × Nat) → (α → Prop) → Prop} (hF : ∀ hs, Good (F hs)) : Good fun K : α → Prop => Homes fun hs => F hs K := by
  refine ⟨fun K K' h hk => ?_, fun K hk => ?_⟩
  · obtain ⟨hs, hk⟩ := hk.go; exact ⟨⟨hs, (hF hs).1 _ _ h hk⟩⟩
  · obtain ⟨hs, hk⟩ := hk.go
    obtain ⟨x, h1, h2⟩ := (hF hs).2 _ hk
    exact ⟨x, ⟨⟨hs, h1⟩⟩, h2⟩
theorem good_call {P : Program} {f : FuncId} {vs ms : List AV} {F : AV → (α → Prop) → Prop} {F' : List AV → AV → (α → Prop) → Prop} (hF : ∀ r, Good (F r)) (hF' : ∀ o r, Good (F' o r)) :
    Good fun K : α → Prop => CallStop P f vs (fun r => F r K) ms (fun o r => F' o r K) := by
  refine ⟨fun K K' h hk => ?_, fun K hk => ?_⟩
  · rcases hk.go with ⟨r, h1, h2⟩ | ⟨o, r, h1, h2⟩
    · exact ⟨.inl ⟨r, h1, (hF r).1 _ _ h h2⟩⟩
    · exact ⟨.inr ⟨o, r, h1, (hF' o r).1 _ _ h h2⟩⟩
  · rcases hk.go with ⟨r, h1, h2⟩ | ⟨o, r, h1, h2⟩
    · obtain ⟨x, h3, h4⟩ := (hF r).2 _ h2; exact ⟨x, ⟨.inl ⟨r, h1, h3⟩⟩, h4⟩
    · obtain ⟨x, h3, h4⟩ := (hF' o r).2 _ h2; exact ⟨x, ⟨.inr ⟨o, r, h1, h3⟩⟩, h4⟩
theorem good2_bind {F : (α → Prop) → Prop} {Gf : α → (γ → δ → Prop) → Prop} (hF : Good F) (hG : ∀ x, Good2 (Gf x)) : Good2 fun K : γ → δ → Prop => F fun x => Gf x K := by
  refine ⟨fun K K' h hk => hF.1 _ _ (fun x hx => (hG x).1 _ _ h hx) hk, fun K hk => ?_⟩
  obtain ⟨x, h1, h2⟩ := hF.2 _ hk
  obtain ⟨y, z, h3, h4⟩ := (hG x).2 _ h2
  exact ⟨y, z, hF.1 _ _ (fun u hu => by subst hu; exact h3) h1, h4⟩
theorem good2_ite {F : (α → γ → Prop) → Prop} (c : Prop) [Decidable c] (hF : Good2 F) : Good2 fun K : α → γ → Prop => if c then F K else False := by
  by_cases h : c
  · simp only [h, if_true]; exact hF
  · simp only [h, if_false]; exact good2_false
/-- With three. -/
def Good3 {α γ δ : Type} (F : (α → γ → δ → Prop) → Prop) : Prop := (∀ K K' : α → γ → δ → Prop, (∀ x y z, K x y z → K' x y z) → F K → F K') ∧ ∀ K, F K → ∃ x y z, F (fun x' y' z' => x' = x ∧ y' = y ∧ z' = z) ∧ K x y z
theorem good3_pure (x : α) (y : γ) (z : δ) : Good3 fun K : α → γ → δ → Prop => K x y z := ⟨fun _ _ h hk => h _ _ _ hk, fun _ hk => ⟨x, y, z, ⟨rfl, rfl, rfl⟩, hk⟩⟩
theorem good3_false : Good3 fun _ : α → γ → δ → Prop => False := ⟨fun _ _ _ h => h, fun _ h => h.elim⟩
theorem good_bind3 {ε : Type} {F : (α → γ → δ → Prop) → Prop} {Gf : α → γ → δ → (ε → Prop) → Prop} (hF : Good3 F) (hG : ∀ x y z, Good (Gf x y z)) : Good fun K : ε → Prop => F fun x y z => Gf x y z K := by
  refine ⟨fun K K' h hk => hF.1 _ _ (fun x y z hx => (hG x y z).1 _ _ h hx) hk, fun K hk => ?_⟩
  obtain ⟨x, y, z, h1, h2⟩ := hF.2 _ hk
  obtain ⟨u, h3, h4⟩ := (hG x y z).2 _ h2
  exact ⟨u, hF.1 _ _ (fun a b c h => by obtain ⟨rfl, rfl, rfl⟩ := h; exact h3) h1, h4⟩
theorem good3_bind3 {ε ζ η : Type} {F : (α → γ → δ → Prop) → Prop} {Gf : α → γ → δ → (ε → ζ → η → Prop) → Prop} (hF : Good3 F) (hG : ∀ x y z, Good3 (Gf x y z)) : Good3 fun K : ε → ζ → η → Prop => F fun x y z => Gf x y z K := by
  refine ⟨fun K K' h hk => hF.1 _ _ (fun x y z hx => (hG x y z).1 _ _ h hx) hk, fun K hk => ?_⟩
  obtain ⟨x, y, z, h1, h2⟩ := hF.2 _ hk
  obtain ⟨u, v, t, h3, h4⟩ := (hG x y z).2 _ h2
  exact ⟨u, v, t, hF.1 _ _ (fun a b c h => by obtain ⟨rfl, rfl, rfl⟩ := h; exact h3) h1, h4⟩
theorem good3_bind2 {ε ζ η : Type} {F : (α → γ → Prop) → Prop} {Gf : α → γ → (ε → ζ → η → Prop) → Prop} (hF : Good2 F) (hG : ∀ x y, Good3 (Gf x y)) : Good3 fun K : ε → ζ → η → Prop => F fun x y => Gf x y K := by
  refine ⟨fun K K' h hk => hF.1 _ _ (fun x y hx => (hG x y).1 _ _ h hx) hk, fun K hk => ?_⟩
  obtain ⟨x, y, h1, h2⟩ := hF.2 _ hk
  obtain ⟨u, v, t, h3, h4⟩ := (hG x y).2 _ h2
  exact ⟨u, v, t, hF.1 _ _ (fun a b h => by obtain ⟨rfl, rfl⟩ := h; exact h3) h1, h4⟩
theorem good3_bind {ε ζ η : Type} {F : (α → Prop) → Prop} {Gf : α → (ε → ζ → η → Prop) → Prop} (hF : Good F) (hG : ∀ x, Good3 (Gf x)) : Good3 fun K : ε → ζ → η → Prop => F fun x => Gf x K := by
  refine ⟨fun K K' h hk => hF.1 _ _ (fun x hx => (hG x).1 _ _ h hx) hk, fun K hk => ?_⟩
  obtain ⟨x, h1, h2⟩ := hF.2 _ hk
  obtain ⟨u, v, t, h3, h4⟩ := (hG x).2 _ h2
  exact ⟨u, v, t, hF.1 _ _ (fun a h => by subst h; exact h3) h1, h4⟩
theorem good_forceS {β : Type} (l : List β) : Good fun K : List β → Prop => forceS l K := by simp only [forceS_eq]; exact good_pure l
end

theorem good_normC : ∀ l : List D, Good fun K => normC l K
  | [] => good_pure _
  | x :: r => by
    unfold normC
    refine good_bind (good_normC r) fun r => ?_
    split <;> exact good_pure _
theorem good_normK (x : D) : Good fun K => normK x K := by
  cases x <;> simp only [normK] <;> first | exact good_pure _ | exact good_bind (good_normC _) fun l => good_pure _
theorem good_asD (r : RV) : Good2 fun K => asD r K := by cases r <;> simp only [asD] <;> first | exact good2_pure _ _ | exact good2_false
theorem good_asN (r : RV) : Good2 fun K => asN r K := by
  unfold asN
  exact good2_bind2 (good_asD r) fun x b => good2_bind (good_normK x) fun y => good2_pure _ _
theorem good_cellsK (σ : Nat → Nat → RV) : ∀ l, Good2 fun K => cellsK σ l K
  | [] => good2_pure _ _
  | .d x :: r => by
    show Good2 fun K => cellsK σ r fun l b => K (x :: l) b
    exact good2_bind2 (good_cellsK σ r) fun l b => good2_pure _ _
  | .sl id n :: r => by
    show Good2 fun K => asD (σ id n) fun x b => cellsK σ r fun l b' => K (x :: l) (b ++ b')
    exact good2_bind2 (good_asD _) fun x b => good2_bind2 (good_cellsK σ r) fun l b => good2_pure _ _
  | .own _ _ _ :: _ => good2_false
theorem good_toC : ∀ l : List D, Good fun K => toC l K
  | [] => good_pure _
  | x :: r => by
    show Good fun K => toC r fun r => K (.d x :: r)
    exact good_bind (good_toC r) fun r => good_pure _
theorem good_capsK : ∀ l : List D, Good fun K => capsK l K
  | [] => good_pure _
  | x :: r => by
    show Good fun K => capsK r fun r => K (.d x :: r)
    exact good_bind (good_capsK r) fun r => good_pure _
theorem good_argOf (σ : Nat → Nat → RV) (r : RV) : Good2 fun K => argOf σ r K := by
  cases r <;> simp only [argOf] <;> first | exact good2_pure _ _ | exact good2_false | skip
  · exact good2_bind (good_normK _) fun x => good2_pure _ _
  · exact good2_bind2 (good_cellsK σ _) fun l b => good2_bind (good_normC _) fun l => good2_bind (good_forceS _) fun l' => good2_pure _ _
  · exact good2_bind (good_At _ _) fun x => good2_bind (good_forceS _) fun l => good2_pure _ _
theorem good_nilOf (P : Program) (t : TypeId) : Good fun K => nilOf P t K := by
  unfold nilOf
  split
  · exact good_pure _
  · exact good_false
theorem good_argsOf (P : Program) (σ : Nat → Nat → RV) (ρ : Operand → RV) : ∀ l ts, Good2 fun K => argsOf P σ ρ l ts K
  | [], _ => good2_pure _ _
  | x :: r, ts => by
    unfold argsOf
    split
    · split
      · exact good2_bind (good_nilOf _ _) fun v => good2_bind2 (good_argsOf P σ ρ r _) fun vs bs => good2_pure _ _
      · exact good2_false
    · exact good2_bind2 (good_argOf _ _) fun v b => good2_bind2 (good_argsOf P σ ρ r _) fun vs bs => good2_pure _ _
theorem good_margOf (σ : Nat → Nat → RV) (r : RV) : Good3 fun K => margOf σ r K := by
  unfold margOf
  split
  · exact good3_pure _ _ _
  · exact good3_bind2 (good_cellsK σ _) fun l b => good3_bind (good_normC _) fun l => good3_pure _ _ _
  · exact good3_bind2 (good_argOf σ _) fun v b => good3_pure _ _ _
theorem good_margsOf (P : Program) (σ : Nat → Nat → RV) (ρ : Operand → RV) : ∀ l ts, Good3 fun K => margsOf P σ ρ l ts K
  | [], _ => good3_pure _ _ _
  | x :: r, ts => by
    unfold margsOf
    split
    · split
      · exact good3_bind (good_nilOf _ _) fun v => good3_bind3 (good_margsOf P σ ρ r _) fun vs bs us => good3_pure _ _ _
      · exact good3_false
    · exact good3_bind3 (good_margOf _ _) fun v b u => good3_bind3 (good_margsOf P σ ρ r _) fun vs bs us => good3_pure _ _ _
theorem good_partsD (ρ : Operand → RV) : ∀ l, Good2 fun K => partsD ρ l K
  | [] => good2_pure _ _
  | (i, x) :: r => by
    show Good2 fun K => asD (ρ x) fun v b => partsD ρ r fun vs bs => K ((i, v) :: vs) (b ++ bs)
    exact good2_bind2 (good_asD (ρ x)) fun v b => good2_bind2 (good_partsD ρ r) fun vs bs => good2_pure _ _
theorem good_partsN (ρ : Operand → RV) : ∀ l, Good2 fun K => partsN ρ l K
  | [] => good2_pure _ _
  | (i, x) :: r => by
    show Good2 fun K => asN (ρ x) fun v b => partsN ρ r fun vs bs => K ((i, v) :: vs) (b ++ bs)
    exact good2_bind2 (good_asN (ρ x)) fun v b => good2_bind2 (good_partsN ρ r) fun vs bs => good2_pure _ _
theorem good_catchK (σ : Nat → Nat → RV) (ρ : Operand → RV) : ∀ l, Good2 fun K => catchK σ ρ l K
  | [] => good2_pure _ _
  | x :: r => by
    unfold catchK
    refine good2_bind2 (good_argOf σ (ρ x)) fun v b => ?_
    split
    · exact good2_ite _ (good2_bind2 (good_catchK σ ρ r) fun l bs => good2_pure _ _)
    · exact good2_false
theorem good_catchC (σ : Nat → Nat → RV) (ρ : Operand → RV) : ∀ l, Good2 fun K => catchC σ ρ l K
  | [] => good2_pure _ _
  | x :: r => by
    unfold catchC
    split
    · exact good2_bind2 (good_catchC σ ρ r) fun l bs => good2_pure _ _
    · refine good2_bind2 (good_argOf σ (ρ x)) fun v b => ?_
      split
      · exact good2_ite _ (good2_bind2 (good_catchC σ ρ r) fun l bs => good2_pure _ _)
      · exact good2_false
theorem good_cellsOf (r : RV) : Good fun K => cellsOf r K := by
  cases r <;> simp only [cellsOf] <;> first | exact good_pure _ | exact good_false | exact good_toC _
theorem good_partsC (ρ : Operand → RV) : ∀ l, Good fun K => partsC ρ l K
  | [] => good_pure _
  | (i, x) :: r => by
    unfold partsC
    exact good_bind (good_cellsOf _) fun c => good_bind (good_partsC ρ r) fun ps => good_pure _
theorem good_wstop (P : Program) (f : FuncId) (args : List AV) (k sz : Nat) (e : TypeId) (xs : List D) : Good fun K => WStop P f args k sz e xs K :=
  ⟨fun _ _ h hk => by obtain ⟨ys, h1, h2⟩ := hk.go; exact ⟨⟨ys, h1, h _ h2⟩⟩, fun _ hk => by obtain ⟨ys, h1, h2⟩ := hk.go; exact ⟨ys, ⟨⟨ys, h1, rfl⟩⟩, h2⟩⟩
theorem good_nif {α : Type} {F : (α → Prop) → Prop} (c : Prop) [Decidable c] (hF : Good F) : Good fun K : α → Prop => if c then False else F K := by
  by_cases h : c
  · simp only [h, if_true]; exact good_false
  · simp only [h, if_false]; exact hF
theorem good_listOf (r : RV) : Good2 fun K => listOf r K := by
  unfold listOf
  split <;> first | exact good2_pure _ _ | exact good2_false
theorem good_ldD (P : Program) (t : TypeId) (cs : List D) : Good fun K => ldD P t cs K := by
  unfold ldD
  split
  · split
    · exact good_bind (good_forceS _) fun l => good_ite _ (good_pure _)
    · exact good_false
  · split
    · exact good_pure _
    · exact good_false
  · exact good_false
theorem good_ldC (P : Program) (σ : Nat → Nat → RV) (t : TypeId) (cs : List C) : Good fun K => ldC P σ t cs K := by
  unfold ldC
  split
  · split
    · exact good_bind (good_forceS _) fun l => good_ite _ (good_bind2 (good_cellsK σ _) fun l b => good_pure _)
    · exact good_false
  · split <;> first | exact good_pure _ | exact good_false
  · exact good_false
theorem good_arith (op : BinOp) (k : IntKind) (a b : Int) : Good fun K => arith op k a b K := by
  cases op <;> simp only [arith] <;> first | exact good_pure _ | exact good_false | exact good_need _ (good_pure _)
theorem good_shiftD (op : BinOp) (k : IntKind) (a b : Int) : Good fun K => shiftD op k a b K := by
  cases op <;> simp only [shiftD] <;> first | exact good_need _ (good_pure _) | exact good_false
theorem good_strD (op : BinOp) (a b : ByteArray) : Good fun K => strD op a b K := by
  cases op <;> simp only [strD] <;> first | exact good_pure _ | exact good_false | exact good_need _ (good_pure _)
theorem good_eqC (P : Program) : ∀ (n : Nat) (t : TypeId) (xs ys : List D), Good fun K => eqC P n t xs ys K
  | 0, _, _, _ => good_false
  | n + 1, t, xs, ys => by
    unfold eqC
    split
    · split
      · exact good_ite _ (good_pure _)
      · exact good_false
    · split
      · exact good_pure _
      · exact good_false
    · split
      · exact good_pure _
      · exact good_false
    · rename_i fs _
      refine good_need _ ?_
      generalize fs.toList = l
      induction l with
      | nil => exact good_pure _
      | cons f r ih => exact good_bind (good_eqC P n f.type _ _) fun a => good_bind ih fun b => good_pure _
    · exact good_false
theorem good_binD (P : Program) (t : TypeId) (op : BinOp) (x y : D) : Good fun K => binD P t op x y K := by
  unfold binD
  split
  · split
    · exact good_shiftD _ _ _ _
    · exact good_shiftD _ _ _ _
    · exact good_ite _ (good_arith _ _ _ _)
  · exact good_strD _ _ _
  · split
    · split <;> first | exact good_pure _ | exact good_false
    · exact good_false
  · refine good_need _ ?_
    split
    · exact good_bind (good_eqC _ _ _ _ _) fun b => good_pure _
    · exact good_bind (good_eqC _ _ _ _ _) fun b => good_pure _
    · exact good_false
  · exact good_false
theorem good_unD (op : UnOp) (x : D) : Good fun K => unD op x K := by
  cases op <;> cases x <;> simp only [unD] <;> first | exact good_pure _ | exact good_false
theorem good_lentB (r : AV) (b : Bx) : Good fun K => lentB r b K := by
  unfold lentB
  split
  · exact good_pure _
  · split <;> exact good_pure _
theorem good_homeK : ∀ (l : List C) (hs : List (Nat × Nat)), Good2 fun K => homeK l hs K
  | [], [] => good2_pure _ _
  | .d x :: r, hs => by
    unfold homeK
    exact good2_bind2 (good_homeK r hs) fun l b => good2_pure _ _
  | .own sz e xs :: r, (h, n) :: hs => by
    unfold homeK
    exact good2_bind2 (good_homeK r hs) fun l b => good2_ite _ (good2_pure _ _)
  | [], _ :: _ => good2_false
  | .own _ _ _ :: _, [] => good2_false
  | .sl _ _ :: _, hs => by unfold homeK; exact good2_false
theorem good_got (d n : Nat) (r : AV) (b : Bx) : Good fun K => got d n r b K := by
  unfold got
  split
  · exact good_ite _ (good_pure _)
  · exact good_ite _ (good_bind (good_toC _) fun l => good_pure _)
  · split
    · exact good_pure _
    · exact good_homes fun hs => good_bind2 (good_homeK _ _) fun l hb => good_ite _ (good_pure _)
  all_goals first | exact good_pure _ | exact good_false
theorem good_outsK : ∀ (us : List (Option (Nat × Nat))) (os : List AV), Good fun K => outsK us os K
  | [], [] => good_pure _
  | none :: us, o :: os => by
    unfold outsK
    exact good_outsK us os
  | some (id, n) :: us, o :: os => by
    cases o <;> simp only [outsK] <;> first | exact good_false | exact good_bind (good_outsK us os) (fun b => good_ite _ (good_pure _)) | exact good_bind (good_toC _) fun l => good_bind (good_outsK us os) (fun b => good_ite _ (good_pure _))
  | [], _ :: _ => by simp only [outsK]; exact good_false
  | _ :: _, [] => by simp only [outsK]; exact good_false
theorem good_zeroE (P : Program) (t : TypeId) : Good fun K => zeroE P t K := by
  unfold zeroE
  split
  · split
    · exact good_bind (good_normC _) fun l => good_pure _
    · split
      · exact good_normK _
      · exact good_false
    · exact good_false
  · exact good_false
theorem good_ixK (ρ : Operand → RV) (x : Option Operand) (n : Int) : Good fun K => ixK ρ x n K := by
  unfold ixK
  split
  · exact good_pure _
  · split
    · exact good_pure _
    · exact good_false
theorem good_sliceK (ρ : Operand → RV) (sz : Nat) (xs : List D) (lo hi mx : Option Operand) (b : Bx) : Good fun K => sliceK ρ sz xs lo hi mx b K := by
  unfold sliceK
  refine good_bind (good_ixK _ _ _) fun l => good_bind (good_ixK _ _ _) fun h => ?_
  split
  · exact good_need _ (good_pure _)
  · by_cases hh : hi.isNone = true
    · simp only [hh, if_true]; exact good_false
    · simp only [hh, Bool.false_eq_true, if_false]
      split
      · exact good_need _ (good_pure _)
      · exact good_false

theorem good_LookStop (r : Option D) (z : D) : Good2 fun K => LookStop r z K :=
  ⟨fun _ _ h hk => by obtain ⟨v, b, h1, h2, h3⟩ := hk.go; exact ⟨⟨v, b, h1, h2, h _ _ h3⟩⟩, fun _ hk => by obtain ⟨v, b, h1, h2, h3⟩ := hk.go; exact ⟨v, b, ⟨⟨v, b, h1, h2, ⟨rfl, rfl⟩⟩⟩, h3⟩⟩
theorem good_lookK (P : Program) (kt et : TypeId) (x ix : RV) (ok : Bool) : Good fun K => lookK P kt et x ix ok K := by
  unfold lookK
  split
  · split
    · split
      · refine good_need _ ?_
        split
        · refine good_bind2 (good_LookStop _ _) fun v b => ?_
          split
          · exact good_pure _
          · exact good_pure _
        · exact good_false
      · exact good_false
    · exact good_false
  · exact good_false
theorem good_updK (P : Program) (kt : TypeId) (m k x : RV) : Good fun K => updK P kt m k x K := by
  unfold updK
  split
  · split
    · split
      · split
        · exact good_need _ (good_pure _)
        · exact good_false
      · exact good_false
    · exact good_false
  · exact good_false

set_option maxHeartbeats 1000000 in
theorem good_yA (P : Program) (σ : Nat → Nat → RV) (ρ : Option (Nat × Bool) → Operand → RV) (g : Option (Nat × Bool)) (o : Oper) (d n : Nat) : Good fun K => yA P σ ρ g o d n K := by
  unfold yA
  split
  · exact good_pure _
  · split
    · split
      · exact good_ite _ (good_pure _)
      · exact good_false
    · exact good_pure _
  · split
    · exact good_pure _
    · split
      · split
        · exact good_pure _
        · exact good_false
      · split
        · exact good_pure _
        · exact good_pure _
        · exact good_false
      · exact good_false
    · exact good_false
  · split
    · exact good_pure _
    · exact good_pure _
    · exact good_bind2 (good_asD _) fun v b => good_bind (good_toC _) fun l => good_pure _
  · split
    · exact good_bind (good_toC _) fun l => good_pure _
    · exact good_false
  · split
    · split
      · refine good_ite _ ?_
        split
        · refine good_bind2 (good_partsD _ _) fun ps b => ?_
          split
          · exact good_bind (good_forceS _) fun l => good_pure _
          · exact good_false
        · refine good_either ?_ ?_
          · refine good_bind2 (good_partsD _ _) fun ps b => ?_
            split
            · exact good_bind (good_forceS _) fun l => good_pure _
            · exact good_false
          · refine good_bind (good_toC _) fun zc => good_bind (good_partsC _ _) fun ps => ?_
            split
            · exact good_bind (good_forceS _) fun l => good_pure _
            · exact good_false
      · exact good_false
    · exact good_false
  · split
    · refine good_bind2 (good_partsN _ _) fun ps b => ?_
      split
      · exact good_bind (good_forceS _) fun l => good_ite _ (good_pure _)
      · exact good_false
    · exact good_false
  · split
    · split
      · split
        · exact good_ite _ (good_bind (good_zeroE _ _) fun z => good_need _ (good_pure _))
        · exact good_false
      · exact good_false
    · exact good_false
  · split
    · split
      · exact good_bind2 (good_catchK _ _ _) fun l b => good_pure _
      · exact good_either (good_bind2 (good_catchK _ _ _) fun l b => good_pure _) (good_bind2 (good_catchC _ _ _) fun l b => good_pure _)
    · exact good_false
  · split
    · exact good_pure _
    · exact good_ldC _ _ _ _
    · exact good_bind (good_ldD _ _ _) fun x => good_pure _
    · exact good_bind (good_At _ _) fun x => good_bind (good_ldD _ _ _) fun x => good_pure _
    · exact good_false
  · refine good_ite _ ?_
    split
    · split
      · split
        · exact good_ite _ (good_bind (good_forceS _) fun l => good_pure _)
        · exact good_bind2 (good_asD _) fun v b => good_ite _ (good_bind (good_toC _) fun l => good_bind (good_forceS _) fun l => good_pure _)
      · refine good_ite _ ?_
        split
        · exact good_bind (good_forceS _) fun l => good_pure _
        · exact good_bind2 (good_asD _) fun v b => good_ite _ (good_bind (good_forceS _) fun l => good_pure _)
      · exact good_false
    · refine good_bind2 (good_asN _) fun v b => good_bind (good_At _ _) fun y => good_ite _ ?_
      split
      · exact good_bind (good_forceS _) fun l => good_pure _
      · exact good_ite _ (good_pure _)
    · exact good_false
  · split <;> first | exact good_pure _ | exact good_false
  · split
    · exact good_pure _
    · split
      · exact good_pure _
      · exact good_bind (good_binD _ _ _ _ _) fun x => good_pure _
      · exact good_false
    · exact good_false
  · split
    · exact good_pure _
    · exact good_bind (good_unD _ _) fun x => good_pure _
    · exact good_false
  · split
    · split
      · split <;> first | exact good_pure _ | exact good_false
      · split <;> first | exact good_pure _ | exact good_false
      · split
        · split <;> first | exact good_pure _ | exact good_false
        · exact good_false
      · exact good_false
    · exact good_false
  · split
    · split
      · refine good_ite _ ?_
        split
        · exact good_pure _
        · exact good_pure _
        · exact good_bind (good_forceS _) fun l => good_pure _
        · exact good_pure _
        · exact good_false
      · exact good_false
    · exact good_false
  · split
    · split
      · split
        · exact good_pure _
        · exact good_bind (good_ldD _ _ _) fun x => good_pure _
        · exact good_false
      · exact good_false
    · exact good_false
  · split
    · split
      · split
        · exact good_ite _ (good_bind (good_At _ _) fun x => good_bind (good_forceS _) fun l => good_pure _)
        · exact good_ite _ (good_bind (good_At _ _) fun x => good_bind (good_forceS _) fun l => good_pure _)
        · exact good_ite _ (good_need _ (good_pure _))
        · exact good_false
      · exact good_false
    · split
      · split
        · exact good_ite _ (good_need _ (good_bind (good_At _ _) fun x => good_pure _))
        · exact good_false
      · exact good_false
    · exact good_false
  · split
    · split
      · split
        · exact good_need _ (good_pure _)
        · exact good_false
      · exact good_false
    · exact good_false
  · split
    · split
      · split
        · exact good_bind (good_ixK _ _ _) fun l => good_bind (good_ixK _ _ _) fun h => good_need _ (good_pure _)
        · exact good_false
      · exact good_false
    · split
      · exact good_ite _ (good_sliceK _ _ _ _ _ _ _)
      · exact good_ite _ (good_sliceK _ _ _ _ _ _ _)
      · exact good_ite _ (good_sliceK _ _ _ _ _ _ _)
      · refine good_ite _ (good_either (good_sliceK _ _ _ _ _ _ _) ?_)
        split
        · split
          · exact good_bind (good_ixK _ _ _) fun h => good_need _ (good_pure _)
          · exact good_false
        · exact good_false
      · exact good_false
    · exact good_false
  · split
    · split
      · refine good_bind (good_capsK _) fun cv => good_bind2 (good_argsOf _ _ _ _ _) fun vs bs => good_bind3 (good_margsOf _ _ _ _ _) fun ms mb us => ?_
        refine good_call (fun r => good_bind (good_lentB _ _) fun b => good_got _ _ _ _) fun o r => good_bind (good_outsK _ _) fun ub => good_ite _ (good_got _ _ _ _)
      · split
        · refine good_bind2 (good_argsOf _ _ _ _ _) fun vs bs => ?_
          split
          · exact good_bind (good_forceS _) fun cv => good_bind (good_wstop _ _ _ _ _ _ _) fun ys => good_nif _ (good_pure _)
          · exact good_false
        · exact good_false
      · exact good_false
    · split
      · split
        · split <;> first | exact good_pure _ | exact good_false
        · split
          · exact good_pure _
          · exact good_bind2 (good_listOf _) fun _ xs => good_pure _
        · exact good_false
      · exact good_false
    · split
      · split
        · split <;> first | exact good_pure _ | exact good_false
        · exact good_false
      · exact good_false
    · split
      · split
        · split <;> first | exact good_pure _ | exact good_false
        · exact good_false
      · exact good_false
    · split
      · split
        · refine good_ite _ (good_bind2 (good_listOf _) fun sz' ys => ?_)
          dsimp only
          split
          · exact good_ite _ (good_need _ (good_pure _))
          · exact good_need _ (good_pure _)
          · exact good_ite _ (good_need _ (good_pure _))
          · exact good_false
        · exact good_false
      · exact good_false
    · exact good_false
  · split
    · split <;> first | exact good_pure _ | exact good_false
    · exact good_false
  · split
    · exact good_pure _
    · exact good_false
  · split
    · exact good_lookK _ _ _ _ _ _
    · exact good_false
  · split
    · exact good_updK _ _ _ _ _
    · exact good_false
  · exact good_false

/-! ### What it hangs on -/
/-- Where two states see the same in the cells of a variable. -/
def Same (σ σ' : Nat → Nat → RV) (r : RV) : Prop := (∀ id n o cs, r = .vptr id n o cs → ∀ id' n', C.sl id' n' ∈ cs → σ id' n' = σ' id' n') ∧ ∀ f cs k id n rid rn, r = .clo f cs k id n rid rn → σ rid rn = σ' rid rn
section
variable {P : Program} {σ σ' : Nat → Nat → RV} {ρ ρ' : Operand → RV}
theorem cellsK_congr : ∀ {l : List C} {K : List D → Bx → Prop}, (∀ id n, C.sl id n ∈ l → σ id n = σ' id n) → cellsK σ l K = cellsK σ' l K
  | [], _, _ => rfl
  | .d x :: r, K, h => by
    simp only [cellsK]
    exact cellsK_congr fun id n hm => h id n (by simp [hm])
  | .sl id n :: r, K, h => by
    simp only [cellsK]
    rw [h id n (by simp)]
    congr 1
    funext x b
    exact cellsK_congr fun id n hm => h id n (by simp [hm])
  | .own _ _ _ :: _, _, _ => rfl
theorem argOf_congr {r : RV} {K : AV → Bx → Prop} (h : Same σ σ' r) : argOf σ r K = argOf σ' r K := by
  cases r <;> try rfl
  case vptr id n o cs => exact cellsK_congr (h.1 id n o cs rfl)
theorem margOf_congr {r : RV} {K : AV → Bx → Option (Nat × Nat) → Prop} (h : Same σ σ' r) : margOf σ r K = margOf σ' r K := by
  cases r <;> try rfl
  case vptr id n o cs =>
    cases o with
    | zero => exact cellsK_congr (h.1 id n 0 cs rfl)
    | succ o =>
      show argOf σ (.vptr id n (o + 1) cs) (fun v b => K v b none) = argOf σ' (.vptr id n (o + 1) cs) (fun v b => K v b none)
      exact argOf_congr h
theorem argsOf_congr : ∀ {l : List Operand} {ts : List TypeId} {K : List AV → Bx → Prop}, (∀ x ∈ l, ρ x = ρ' x ∧ Same σ σ' (ρ' x)) → argsOf P σ ρ l ts K = argsOf P σ' ρ' l ts K
  | [], _, _, _ => rfl
  | x :: r, ts, K, h => by
    have ih : ∀ {ts : List TypeId} {K : List AV → Bx → Prop}, argsOf P σ ρ r ts K = argsOf P σ' ρ' r ts K := argsOf_congr fun y hy => h y (by simp [hy])
    simp only [argsOf, ih]
    rw [(h x (by simp)).1, argOf_congr (h x (by simp)).2]
theorem margsOf_congr : ∀ {l : List Operand} {ts : List TypeId} {K : List AV → Bx → List (Option (Nat × Nat)) → Prop}, (∀ x ∈ l, ρ x = ρ' x ∧ Same σ σ' (ρ' x)) → margsOf P σ ρ l ts K = margsOf P σ' ρ' l ts K
  | [], _, _, _ => rfl
  | x :: r, ts, K, h => by
    have ih : ∀ {ts : List TypeId} {K : List AV → Bx → List (Option (Nat × Nat)) → Prop}, margsOf P σ ρ r ts K = margsOf P σ' ρ' r ts K := margsOf_congr fun y hy => h y (by simp [hy])
    simp only [margsOf, ih]
    rw [(h x (by simp)).1, margOf_congr (h x (by simp)).2]
theorem catchK_congr : ∀ {l : List Operand} {K : List D → Bx → Prop}, (∀ x ∈ l, ρ x = ρ' x ∧ Same σ σ' (ρ' x)) → catchK σ ρ l K = catchK σ' ρ' l K
  | [], _, _ => rfl
  | x :: r, K, h => by
    have ih : ∀ {K : List D → Bx → Prop}, catchK σ ρ r K = catchK σ' ρ' r K := catchK_congr fun y hy => h y (by simp [hy])
    simp only [catchK, ih]
    rw [(h x (by simp)).1, argOf_congr (h x (by simp)).2]
theorem ownIn_congr : ∀ {l : List Operand}, (∀ x ∈ l, ρ x = ρ' x) → ownIn ρ l = ownIn ρ' l
  | [], _ => rfl
  | x :: r, h => by
    have ih : ownIn ρ r = ownIn ρ' r := ownIn_congr fun y hy => h y (by simp [hy])
    simp only [ownIn, ih, h x (by simp)]
theorem catchC_congr : ∀ {l : List Operand} {K : List C → Bx → Prop}, (∀ x ∈ l, ρ x = ρ' x ∧ Same σ σ' (ρ' x)) → catchC σ ρ l K = catchC σ' ρ' l K
  | [], _, _ => rfl
  | x :: r, K, h => by
    have ih : ∀ {K : List C → Bx → Prop}, catchC σ ρ r K = catchC σ' ρ' r K := catchC_congr fun y hy => h y (by simp [hy])
    simp only [catchC, ih]
    rw [(h x (by simp)).1, argOf_congr (h x (by simp)).2]
theorem ldC_congr {t : TypeId} {cs : List C} {K : Eff → Prop} (h : ∀ id n, C.sl id n ∈ cs → σ id n = σ' id n) : ldC P σ t cs K = ldC P σ' t cs K := by
  unfold ldC
  split
  · split
    · rw [forceS_eq, forceS_eq]
      congr 1
      exact cellsK_congr fun id n hm => h id n (List.mem_of_mem_take hm)
    · rfl
  · rfl
  · rfl
theorem partsD_congr : ∀ {l : List (Nat × Operand)} {K : List (Nat × D) → Bx → Prop}, (∀ x ∈ l, ρ x.2 = ρ' x.2) → partsD ρ l K = partsD ρ' l K
  | [], _, _ => rfl
  | (i, x) :: r, K, h => by
    simp only [partsD]
    rw [h (i, x) (by simp)]
    congr 1
    funext v b
    exact partsD_congr fun y hy => h y (by simp [hy])
theorem rowIn_congr : ∀ {l : List (Nat × Operand)}, (∀ x ∈ l, ρ x.2 = ρ' x.2) → rowIn ρ l = rowIn ρ' l
  | [], _ => rfl
  | (i, x) :: r, h => by
    have ih : rowIn ρ r = rowIn ρ' r := rowIn_congr fun y hy => h y (by simp [hy])
    simp only [rowIn, ih, h (i, x) (by simp)]
theorem partsC_congr : ∀ {l : List (Nat × Operand)} {K : List (Nat × List C) → Prop}, (∀ x ∈ l, ρ x.2 = ρ' x.2) → partsC ρ l K = partsC ρ' l K
  | [], _, _ => rfl
  | (i, x) :: r, K, h => by
    simp only [partsC]
    rw [h (i, x) (by simp)]
    congr 1
    funext c
    exact partsC_congr fun y hy => h y (by simp [hy])
theorem partsN_congr : ∀ {l : List (Nat × Operand)} {K : List (Nat × D) → Bx → Prop}, (∀ x ∈ l, ρ x.2 = ρ' x.2) → partsN ρ l K = partsN ρ' l K
  | [], _, _ => rfl
  | (i, x) :: r, K, h => by
    simp only [partsN]
    rw [h (i, x) (by simp)]
    congr 1
    funext v b
    exact partsN_congr fun y hy => h y (by simp [hy])
theorem ixK_congr {x : Option Operand} {n : Int} {K : Int → Prop} (h : ∀ y, x = some y → ρ y = ρ' y) : ixK ρ x n K = ixK ρ' x n K := by
  cases x with
  | none => rfl
  | some x => unfold ixK; simp only; rw [h x rfl]
theorem sliceK_congr {sz : Nat} {xs : List D} {lo hi mx : Option Operand} {b : Bx} {K : Eff → Prop} (h1 : ∀ y, lo = some y → ρ y = ρ' y) (h2 : ∀ y, hi = some y → ρ y = ρ' y) (h3 : ∀ y, mx = some y → ρ y = ρ' y) :
    sliceK ρ sz xs lo hi mx b K = sliceK ρ' sz xs lo hi mx b K := by
  unfold sliceK
  rw [ixK_congr h1]
  congr 1
  funext l
  rw [ixK_congr h2]
  congr 1
  funext h
  cases mx with
  | none => rfl
  | some m => simp only; rw [h3 m rfl]
end

set_option maxHeartbeats 1000000 in
theorem yA_congr {P : Program} {σ σ' : Nat → Nat → RV} {ρ ρ' : Option (Nat × Bool) → Operand → RV} {g : Option (Nat × Bool)} {o : Oper} {d n n' : Nat} {K : Eff → Prop}
    (h : ∀ g' x, x ∈ o.op.operands.toList → ρ g' x = ρ' g' x) (hs : ∀ g' x, x ∈ o.op.operands.toList → Same σ σ' (ρ' g' x)) (hn : makes o.op = true → n = n') (hy : yA P σ ρ g o d n K) : yA P σ' ρ' g o d n' K := by
  have hn' : ∀ {c : Bool}, makes o.op = c → c = true → n = n' := fun e1 e2 => hn (e1.trans e2)
  unfold yA at hy ⊢
  split at hy
  · rename_i x ho
    simp only [ho] at h ⊢
    rw [h g x (by simp [Op.operands])] at hy; exact hy
  · rename_i x ho
    have := hn' (by rw [ho]; rfl) rfl
    subst this
    simp only [ho] at h ⊢
    rw [h g x (by simp [Op.operands])] at hy; exact hy
  · rename_i t x y ho
    simp only [ho] at h ⊢
    rw [h g (.tmp t) (by simp [Op.operands]), h (some (t, true)) x (by simp [Op.operands]), h (some (t, false)) y (by simp [Op.operands])] at hy; exact hy
  · rename_i T x ho
    have := hn' (by rw [ho]; rfl) rfl
    subst this
    simp only [ho] at h ⊢
    rw [h g x (by simp [Op.operands])] at hy; exact hy
  · rename_i T ho
    have := hn' (by rw [ho]; rfl) rfl
    subst this
    first | exact hy | (simp only [ho]; exact hy)
  · rename_i t parts ho
    simp only [ho] at h ⊢
    have e : ∀ (K' : List (Nat × D) → Bx → Prop), partsD (ρ g) parts.toList K' = partsD (ρ' g) parts.toList K' := fun K' => partsD_congr fun x hx => h g x.2 (by simp only [Op.operands]; simp; exact ⟨x.1, by simpa using hx⟩)
    have e2 : ∀ (K' : List (Nat × List C) → Prop), partsC (ρ g) parts.toList K' = partsC (ρ' g) parts.toList K' := fun K' => partsC_congr fun x hx => h g x.2 (by simp only [Op.operands]; simp; exact ⟨x.1, by simpa using hx⟩)
    have e3 : rowIn (ρ g) parts.toList = rowIn (ρ' g) parts.toList := rowIn_congr fun x hx => h g x.2 (by simp only [Op.operands]; simp; exact ⟨x.1, by simpa using hx⟩)
    simp only [e, e2, e3] at hy; exact hy
  · rename_i t m parts ho
    have := hn' (by rw [ho]; rfl) rfl
    subst this
    simp only [ho] at h ⊢
    have e : ∀ (K' : List (Nat × D) → Bx → Prop), partsN (ρ g) parts.toList K' = partsN (ρ' g) parts.toList K' := fun K' => partsN_congr fun x hx => h g x.2 (by simp only [Op.operands]; simp; exact ⟨x.1, by simpa using hx⟩)
    simp only [e] at hy; exact hy
  · rename_i t l c ho
    have := hn' (by rw [ho]; rfl) rfl
    subst this
    simp only [ho] at h ⊢
    rw [h g l (by simp [Op.operands]), h g c (by simp [Op.operands])] at hy; exact hy
  · rename_i f first caps ho
    simp only [ho] at h hs ⊢
    have e : ∀ (K' : List D → Bx → Prop), catchK σ (ρ g) caps.toList K' = catchK σ' (ρ' g) caps.toList K' := fun K' => catchK_congr fun x hx => by
      have hx' : x ∈ caps := by simpa using hx
      have hm : x ∈ (Op.makeFunc (.func f) first caps).operands.toList := by simp [Op.operands, hx']
      exact ⟨h g x hm, hs g x hm⟩
    have e2 : ∀ (K' : List C → Bx → Prop), catchC σ (ρ g) caps.toList K' = catchC σ' (ρ' g) caps.toList K' := fun K' => catchC_congr fun x hx => by
      have hx' : x ∈ caps := by simpa using hx
      have hm : x ∈ (Op.makeFunc (.func f) first caps).operands.toList := by simp [Op.operands, hx']
      exact ⟨h g x hm, hs g x hm⟩
    have e3 : ownIn (ρ g) caps.toList = ownIn (ρ' g) caps.toList := ownIn_congr fun x hx => by
      have hx' : x ∈ caps := by simpa using hx
      exact h g x (by simp [Op.operands, hx'])
    simp only [e, e2, e3] at hy; exact hy
  · rename_i t x ho
    simp only [ho] at h hs ⊢
    have h2 := (hs g x (by simp [Op.operands])).1
    rw [h g x (by simp [Op.operands])] at hy
    split at hy
    · rename_i e; first | exact hy | (simp only [e]; exact hy)
    · rename_i id n' o' cs e
      try simp only [e]
      rw [ldC_congr (σ' := σ') fun i m hm => h2 _ _ _ _ e i m (List.mem_of_mem_drop hm)] at hy
      exact hy
    · rename_i e; first | exact hy | (simp only [e]; exact hy)
    · rename_i e; first | exact hy | (simp only [e]; exact hy)
    · exact hy.elim
  · rename_i t p x ho
    simp only [ho] at h ⊢
    rw [h g p (by simp [Op.operands]), h g x (by simp [Op.operands])] at hy; exact hy
  · rename_i x ho
    simp only [ho] at h ⊢
    rw [h g x (by simp [Op.operands])] at hy; exact hy
  · rename_i op t x y U ho
    simp only [ho] at h ⊢
    rw [h g x (by simp [Op.operands]), h g y (by simp [Op.operands])] at hy; exact hy
  · rename_i op t x ho
    simp only [ho] at h ⊢
    rw [h g x (by simp [Op.operands])] at hy; exact hy
  · rename_i s t x ho
    simp only [ho] at h ⊢
    rw [h g x (by simp [Op.operands])] at hy; exact hy
  · rename_i s x f ho
    simp only [ho] at h ⊢
    rw [h g x (by simp [Op.operands])] at hy; exact hy
  · rename_i s x f ho
    simp only [ho] at h ⊢
    rw [h g x (by simp [Op.operands])] at hy; exact hy
  · rename_i t x ix ho
    simp only [ho] at h ⊢
    rw [h g x (by simp [Op.operands]), h g ix (by simp [Op.operands])] at hy; exact hy
  · rename_i t x ix ho
    simp only [ho] at h ⊢
    rw [h g x (by simp [Op.operands]), h g ix (by simp [Op.operands])] at hy; exact hy
  · rename_i t x lo hi mx ho
    simp only [ho] at h ⊢
    have h1 : ∀ y, lo = some y → ρ g y = ρ' g y := fun y e => h g y (by subst e; simp [Op.operands])
    have h2 : ∀ y, hi = some y → ρ g y = ρ' g y := fun y e => h g y (by subst e; simp [Op.operands])
    have h3 : ∀ y, mx = some y → ρ g y = ρ' g y := fun y e => h g y (by subst e; simp [Op.operands])
    rw [h g x (by simp [Op.operands])] at hy
    have e1 : ∀ {sz : Nat} {xs : List D} {b : Bx} {K : Eff → Prop}, sliceK (ρ g) sz xs lo hi mx b K = sliceK (ρ' g) sz xs lo hi mx b K := sliceK_congr h1 h2 h3
    have e2 : ∀ {n : Int} {K : Int → Prop}, ixK (ρ g) lo n K = ixK (ρ' g) lo n K := ixK_congr h1
    have e3 : ∀ {n : Int} {K : Int → Prop}, ixK (ρ g) hi n K = ixK (ρ' g) hi n K := ixK_congr h2
    simp only [e1, e2, e3] at hy
    exact hy
  · rename_i c ho
    simp only [ho] at h hs ⊢
    split at hy
    · rename_i fo hc
      have := hn' (by rw [ho]; simp only [makes, hc]) rfl
      subst this
      have h1 := h g fo (by simp [Op.operands, Call.operands, hc])
      have hx : ∀ x ∈ c.args.toList, ρ g x = ρ' g x ∧ Same σ σ' (ρ' g x) := fun x hx => by
        have hm : x ∈ (Op.call c).operands.toList := by simp [Op.operands, Call.operands]; exact .inr (by simpa using hx)
        exact ⟨h g x hm, hs g x hm⟩
      have e : ∀ (K' : List AV → Bx → Prop), argsOf P σ (ρ g) c.args.toList c.argTypes.toList K' = argsOf P σ' (ρ' g) c.args.toList c.argTypes.toList K' := fun K' => argsOf_congr hx
      have e' : ∀ (K' : List AV → Bx → List (Option (Nat × Nat)) → Prop), margsOf P σ (ρ g) c.args.toList c.argTypes.toList K' = margsOf P σ' (ρ' g) c.args.toList c.argTypes.toList K' := fun K' => margsOf_congr hx
      have h2 := (hs g fo (by simp [Op.operands, Call.operands, hc])).2
      simp only [h1, e, e'] at hy
      try simp only [hc]
      split at hy
      · rename_i hfo; first | exact hy | (simp only [hfo]; exact hy)
      · rename_i hfo
        rw [h2 _ _ _ _ _ _ _ hfo] at hy
        first | exact hy | (simp only [hfo]; exact hy)
      · exact hy.elim
    · rename_i hc
      try simp only [hc]
      split at hy
      · rename_i x t hx ht
        have h1 := h g x (by simp only [Op.operands, Call.operands, hc]; rw [arr_one hx]; simp)
        simp only [h1] at hy
        try simp only [hx, ht]
        exact hy
      · exact hy.elim
    · rename_i hc
      try simp only [hc]
      split at hy
      · rename_i x y hx
        have h1 := h g x (by simp only [Op.operands, Call.operands, hc]; rw [arr_two hx]; simp)
        have h2 := h g y (by simp only [Op.operands, Call.operands, hc]; rw [arr_two hx]; simp)
        simp only [h1, h2] at hy
        try simp only [hx]
        exact hy
      · exact hy.elim
    · rename_i hc
      try simp only [hc]
      split at hy
      · rename_i x y hx
        have h1 := h g x (by simp only [Op.operands, Call.operands, hc]; rw [arr_two hx]; simp)
        have h2 := h g y (by simp only [Op.operands, Call.operands, hc]; rw [arr_two hx]; simp)
        simp only [h1, h2] at hy
        try simp only [hx]
        exact hy
      · exact hy.elim
    · rename_i hc
      have := hn' (by rw [ho]; simp only [makes, hc]) rfl
      subst this
      try simp only [hc]
      split at hy
      · rename_i x y t u hx ht
        have h1 := h g x (by simp only [Op.operands, Call.operands, hc]; rw [arr_two hx]; simp)
        have h2 := h g y (by simp only [Op.operands, Call.operands, hc]; rw [arr_two hx]; simp)
        simp only [h1, h2] at hy
        try simp only [hx, ht]
        exact hy
      · exact hy.elim
    · exact hy.elim
  · rename_i t i ho
    simp only [ho] at h ⊢
    rw [h g t (by simp [Op.operands])] at hy; exact hy
  · rename_i t ho
    have := hn' (by rw [ho]; rfl) rfl
    subst this
    exact hy
  · rename_i t x ix ok ho
    simp only [ho] at h ⊢
    rw [h g x (by simp [Op.operands]), h g ix (by simp [Op.operands])] at hy; exact hy
  · rename_i t m k x ho
    simp only [ho] at h ⊢
    rw [h g m (by simp [Op.operands]), h g k (by simp [Op.operands]), h g x (by simp [Op.operands])] at hy; exact hy
  · exact hy.elim
end Go.Abs
