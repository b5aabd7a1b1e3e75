/-
  The abstract machine: an operation's effect is one, and hangs on what the operation looks at.
-/
import Derived.Test.YtbhpfidifbbggaaAbsFn
namespace Go.Abs

/-- A walk with a continuation that comes to one value. -/
def Good {α : Type} (F : (α → Prop) → Prop) : Prop := (∀ K K' : α → Prop, (∀ x, K x → K' x) → F K → F K') ∧ ∀ K, F K → ∃ x, F (fun y => y = x) ∧ K x
def Good2 {α γ : Type} (F : (α → γ → Prop) → Prop) : Prop := (∀ K K' : α → γ → Prop, (∀ x y, K x y → K' x y) → F K → F K') ∧ ∀ K, F K → ∃ x y, F (fun x' y' => x' = x ∧ y' = y) ∧ K x y

section
variable {α γ δ : Type}
theorem good_pure (x : α) : Good fun K : α → Prop => K x := ⟨fun _ _ h hk => h _ hk, fun _ hk => ⟨x, rfl, hk⟩⟩
theorem good_false : Good fun _ : α → Prop => False := ⟨fun _ _ _ h => h, fun _ h => h.elim⟩
theorem good2_pure (x : α) (y : γ) : Good2 fun K : α → γ → Prop => K x y := ⟨fun _ _ h hk => h _ _ hk, fun _ hk => ⟨x, y, ⟨rfl, rfl⟩, hk⟩⟩
theorem good2_false : Good2 fun _ : α → γ → Prop => False := ⟨fun _ _ _ h => h, fun _ h => h.elim⟩
theorem good_bind {F : (α → Prop) → Prop} {Gf : α → (γ → Prop) → Prop} (hF : Good F) (hG : ∀ x, Good (Gf x)) : Good fun K : γ → Prop => F fun x => Gf x K := by
  refine ⟨fun K K' h hk => hF.1 _ _ (fun x hx => (hG x).1 _ _ h hx) hk, fun K hk => ?_⟩
  obtain ⟨x, h1, h2⟩ := hF.2 _ hk
  obtain ⟨y, h3, h4⟩ := (hG x).2 _ h2
  exact ⟨y, hF.1 _ _ (fun z hz => by subst hz; exact h3) h1, h4⟩
theorem good_bind2 {F : (α → γ → Prop) → Prop} {Gf : α → γ → (δ → Prop) → Prop} (hF : Good2 F) (hG : ∀ x y, Good (Gf x y)) : Good fun K : δ → Prop => F fun x y => Gf x y K := by
  refine ⟨fun K K' h hk => hF.1 _ _ (fun x y hx => (hG x y).1 _ _ h hx) hk, fun K hk => ?_⟩
  obtain ⟨x, y, h1, h2⟩ := hF.2 _ hk
  obtain ⟨z, h3, h4⟩ := (hG x y).2 _ h2
  exact ⟨z, hF.1 _ _ (fun u v huv => by obtain ⟨rfl, rfl⟩ := huv; exact h3) h1, h4⟩
theorem good2_bind2 {ε : Type} {F : (α → γ → Prop) → Prop} {Gf : α → γ → (δ → ε → Prop) → Prop} (hF : Good2 F) (hG : ∀ x y, Good2 (Gf x y)) : Good2 fun K : δ → ε → Prop => F fun x y => Gf x y K := by
  refine ⟨fun K K' h hk => hF.1 _ _ (fun x y hx => (hG x y).1 _ _ h hx) hk, fun K hk => ?_⟩
  obtain ⟨x, y, h1, h2⟩ := hF.2 _ hk
  obtain ⟨z, z', h3, h4⟩ := (hG x y).2 _ h2
  exact ⟨z, z', hF.1 _ _ (fun u v huv => by obtain ⟨rfl, rfl⟩ := huv; exact h3) h1, h4⟩
theorem good_need {F : (α → Prop) → Prop} (p : Prop) (hF : Good F) : Good fun K : α → Prop => Need p (F K) := by
  refine ⟨fun K K' h hk => ⟨hk.1, hF.1 _ _ h hk.2⟩, fun K hk => ?_⟩
  obtain ⟨x, h1, h2⟩ := hF.2 _ hk.2
  exact ⟨x, ⟨hk.1, h1⟩, h2⟩
theorem good_ite {F : (α → Prop) → Prop} (c : Prop) [Decidable c] (hF : Good F) : Good fun K : α → Prop => if c then F K else False := by
  by_cases h : c
  · simp only [h, if_true]; exact hF
  · simp only [h, if_false]; exact good_false
theorem good_At (xs : List D) (i : Int) : Good fun K : D → Prop => At xs i K :=
  ⟨fun _ _ h hk => by obtain ⟨h0, x, h1, h2⟩ := hk.go; exact ⟨⟨h0, x, h1, h _ h2⟩⟩, fun _ hk => by obtain ⟨h0, x, h1, h2⟩ := hk.go; exact ⟨x, ⟨⟨h0, x, h1, rfl⟩⟩, h2⟩⟩
theorem good_call (P : Program) (f : FuncId) (vs : List AV) : Good fun K : AV → Prop => CallStop P f vs K :=
  ⟨fun _ _ h hk => by obtain ⟨r, h1, h2⟩ := hk.go; exact ⟨⟨r, h1, h _ h2⟩⟩, fun _ hk => by obtain ⟨r, h1, h2⟩ := hk.go; exact ⟨r, ⟨⟨r, h1, rfl⟩⟩, h2⟩⟩
theorem good_forceS (l : List D) : Good fun K : List D → Prop => forceS l K := by simp only [forceS_eq]; exact good_pure l
end

theorem good_asD (r : RV) : Good2 fun K => asD r K := by cases r <;> simp only [asD] <;> first | exact good2_pure _ _ | exact good2_false
theorem good_argOf (r : RV) : Good2 fun K => argOf r K := by
  cases r <;> simp only [argOf, forceS_eq] <;> first | exact good2_pure _ _ | exact good2_false
theorem good_argsOf (ρ : Operand → RV) : ∀ l, Good2 fun K => argsOf ρ l K
  | [] => good2_pure _ _
  | x :: r => by
    show Good2 fun K => argOf (ρ x) fun v b => argsOf ρ r fun vs bs => K (v :: vs) (b ++ bs)
    exact good2_bind2 (good_argOf (ρ x)) fun v b => good2_bind2 (good_argsOf ρ r) fun vs bs => good2_pure _ _
theorem good_partsD (ρ : Operand → RV) : ∀ l, Good2 fun K => partsD ρ l K
  | [] => good2_pure _ _
  | (i, x) :: r => by
    show Good2 fun K => asD (ρ x) fun v b => partsD ρ r fun vs bs => K ((i, v) :: vs) (b ++ bs)
    exact good2_bind2 (good_asD (ρ x)) fun v b => good2_bind2 (good_partsD ρ r) fun vs bs => good2_pure _ _
theorem good_listOf (r : RV) : Good2 fun K => listOf r K := by
  cases r <;> simp only [listOf] <;> try exact good2_false
  case d x => cases x <;> simp only <;> first | exact good2_pure _ _ | exact good2_false
  case lim => exact good2_pure _ _
  case row => exact good2_pure _ _
theorem good_ldD (P : Program) (t : TypeId) (cs : List D) : Good fun K => ldD P t cs K := by
  unfold ldD
  split
  · split
    · exact good_bind (good_forceS _) fun l => good_ite _ (good_pure _)
    · exact good_false
  · split
    · exact good_pure _
    · exact good_false
  · exact good_false
theorem good_arith (op : BinOp) (k : IntKind) (a b : Int) : Good fun K => arith op k a b K := by
  cases op <;> simp only [arith] <;> first | exact good_pure _ | exact good_false | exact good_need _ (good_pure _)
theorem good_shiftD (op : BinOp) (k : IntKind) (a b : Int) : Good fun K => shiftD op k a b K := by
  cases op <;> simp only [shiftD] <;> first | exact good_need _ (good_pure _) | exact good_false
theorem good_binD (B : Bool) (op : BinOp) (x y : D) : Good fun K => binD B op x y K := by
  cases x <;> cases y <;> simp only [binD] <;> try exact good_false
  · cases B <;> simp only
    · exact good_false
    · cases op <;> simp only <;> first | exact good_pure _ | exact good_false
  · cases op <;> simp only <;> first | exact good_shiftD _ _ _ _ | exact good_ite _ (good_arith _ _ _ _)
  · cases op <;> simp only <;> first | exact good_pure _ | exact good_false
theorem good_unD (op : UnOp) (x : D) : Good fun K => unD op x K := by
  cases op <;> cases x <;> simp only [unD] <;> first | exact good_pure _ | exact good_false
theorem good_lentK (r : AV) (b : List (Nat × Body × Nat)) : Good fun K => lentK r b K := by
  unfold lentK
  split
  · exact good_pure _
  · split <;> exact good_pure _
theorem good_got (d n : Nat) (r : AV) (b : List (Nat × Body × Nat)) : Good fun K => got d n r b K := by
  cases r <;> simp only [got] <;> first | exact good_pure _ | exact good_false | exact good_lentK _ _

set_option maxHeartbeats 1000000 in
theorem good_yA (P : Program) (ρ : Option (Nat × Bool) → Operand → RV) (g : Option (Nat × Bool)) (o : Oper) (d n : Nat) : Good fun K => yA P ρ g o d n K := by
  unfold yA
  split
  · exact good_pure _
  · split
    · exact good_ite _ (good_pure _)
    · exact good_false
  · exact good_pure _
  · split
    · exact good_pure _
    · split
      · split
        · exact good_pure _
        · exact good_false
      · split
        · exact good_pure _
        · exact good_pure _
        · exact good_false
      · exact good_false
    · exact good_false
  · exact good_bind2 (good_asD _) fun v b => good_bind (good_forceS _) fun l => good_pure _
  · split
    · split
      · split
        · exact good_bind (good_forceS _) fun l => good_pure _
        · exact good_false
      · exact good_false
    · exact good_false
  · split
    · split
      · split
        · split
          · refine good_ite _ (good_bind2 (good_partsD _ _) fun ps b => ?_)
            split
            · exact good_bind (good_forceS _) fun l => good_pure _
            · exact good_false
          · exact good_false
        · exact good_false
      · exact good_false
    · exact good_false
  · split
    · refine good_bind2 (good_partsD _ _) fun ps b => ?_
      split
      · exact good_bind (good_forceS _) fun l => good_ite _ (good_pure _)
      · exact good_false
    · exact good_false
  · split
    · exact good_pure _
    · exact good_bind (good_ldD _ _ _) fun x => good_pure _
    · exact good_bind (good_ldD _ _ _) fun x => good_pure _
    · exact good_bind (good_At _ _) fun x => good_bind (good_ldD _ _ _) fun x => good_pure _
    · exact good_false
  · refine good_ite _ ?_
    split
    · exact good_bind2 (good_asD _) fun v b => good_ite _ (good_bind (good_forceS _) fun l => good_pure _)
    · refine good_bind2 (good_asD _) fun v b => good_bind (good_At _ _) fun y => good_ite _ ?_
      split
      · exact good_bind (good_forceS _) fun l => good_pure _
      · exact good_ite _ (good_pure _)
    · exact good_false
  · split <;> first | exact good_pure _ | exact good_false
  · split
    · exact good_pure _
    · split
      · exact good_pure _
      · exact good_bind (good_binD _ _ _ _) fun x => good_pure _
      · exact good_false
    · exact good_false
  · split
    · exact good_pure _
    · exact good_bind (good_unD _ _) fun x => good_pure _
    · exact good_false
  · split
    · split
      · split
        · exact good_pure _
        · exact good_pure _
        · exact good_false
      · exact good_false
    · exact good_false
  · split
    · split
      · refine good_ite _ ?_
        split
        · exact good_pure _
        · exact good_pure _
        · exact good_bind (good_forceS _) fun l => good_pure _
        · exact good_pure _
        · exact good_false
      · exact good_false
    · exact good_false
  · split
    · split
      · split
        · exact good_pure _
        · exact good_bind (good_ldD _ _ _) fun x => good_pure _
        · exact good_false
      · exact good_false
    · exact good_false
  · split
    · split
      · split
        · exact good_ite _ (good_bind (good_At _ _) fun x => good_bind (good_forceS _) fun l => good_pure _)
        · exact good_ite _ (good_bind (good_At _ _) fun x => good_bind (good_forceS _) fun l => good_pure _)
        · exact good_ite _ (good_need _ (good_pure _))
        · exact good_false
      · exact good_false
    · exact good_false
  · split
    · split
      · exact good_bind2 (good_argsOf _ _) fun vs bs => good_bind (good_call _ _ _) fun r => good_got _ _ _ _
      · exact good_false
    · split
      · split
        · split
          · exact good_pure _
          · exact good_pure _
          · exact good_false
        · split
          · exact good_pure _
          · exact good_bind2 (good_listOf _) fun _ xs => good_pure _
        · exact good_false
      · exact good_false
    · split
      · split
        · refine good_ite _ (good_bind2 (good_listOf _) fun sz' ys => ?_)
          split
          · exact good_ite _ (good_need _ (good_pure _))
          · exact good_false
        · exact good_false
      · exact good_false
    · exact good_false
  · split
    · split
      · exact good_pure _
      · exact good_false
    · exact good_false
  · exact good_false

/-! ### What it hangs on -/
theorem argsOf_congr {ρ ρ' : Operand → RV} : ∀ {l : List Operand} {K : List AV → List (Nat × Body × Nat) → Prop}, (∀ x ∈ l, ρ x = ρ' x) → argsOf ρ l K = argsOf ρ' l K
  | [], _, _ => rfl
  | x :: r, K, h => by
    simp only [argsOf]
    rw [h x (by simp)]
    congr 1
    funext v b
    exact argsOf_congr fun y hy => h y (by simp [hy])
theorem partsD_congr {ρ ρ' : Operand → RV} : ∀ {l : List (Nat × Operand)} {K : List (Nat × D) → List (Nat × Body × Nat) → Prop}, (∀ x ∈ l, ρ x.2 = ρ' x.2) → partsD ρ l K = partsD ρ' l K
  | [], _, _ => rfl
  | (i, x) :: r, K, h => by
    simp only [partsD]
    rw [h (i, x) (by simp)]
    congr 1
    funext v b
    exact partsD_congr fun y hy => h y (by simp [hy])

set_option maxHeartbeats 1000000 in
theorem yA_congr {P : Program} {ρ ρ' : Option (Nat × Bool) → Operand → RV} {g : Option (Nat × Bool)} {o : Oper} {d n n' : Nat} {K : Eff → Prop}
    (h : ∀ g' x, x ∈ o.op.operands.toList → ρ g' x = ρ' g' x) (hn : makes o.op = true → n = n') (hy : yA P ρ g o d n K) : yA P ρ' g o d n' K := by
  have hn' : ∀ {c : Bool}, makes o.op = c → c = true → n = n' := fun e1 e2 => hn (e1.trans e2)
  unfold yA at hy ⊢
  split at hy
  · rename_i x ho
    simp only [ho] at h ⊢
    rw [h g x (by simp [Op.operands])] at hy; exact hy
  · rename_i ho
    have := hn' (by rw [ho]; rfl) rfl
    subst this
    first | exact hy | (simp only [ho]; exact hy)
  · rename_i x hne ho
    simp only [ho] at h ⊢
    rw [h g x (by simp [Op.operands])] at hy; exact hy
  · rename_i t x y ho
    simp only [ho] at h ⊢
    rw [h g (.tmp t) (by simp [Op.operands]), h (some (t, true)) x (by simp [Op.operands]), h (some (t, false)) y (by simp [Op.operands])] at hy; exact hy
  · rename_i T x ho
    have := hn' (by rw [ho]; rfl) rfl
    subst this
    simp only [ho] at h ⊢
    rw [h g x (by simp [Op.operands])] at hy; exact hy
  · rename_i T ho
    have := hn' (by rw [ho]; rfl) rfl
    subst this
    first | exact hy | (simp only [ho]; exact hy)
  · rename_i t parts ho
    simp only [ho] at h ⊢
    have e : ∀ (K' : List (Nat × D) → List (Nat × Body × Nat) → Prop), partsD (ρ g) parts.toList K' = partsD (ρ' g) parts.toList K' := fun K' => partsD_congr fun x hx => h g x.2 (by simp only [Op.operands]; simp; exact ⟨x.1, by simpa using hx⟩)
    simp only [e] at hy; exact hy
  · rename_i t m parts ho
    have := hn' (by rw [ho]; rfl) rfl
    subst this
    simp only [ho] at h ⊢
    have e : ∀ (K' : List (Nat × D) → List (Nat × Body × Nat) → Prop), partsD (ρ g) parts.toList K' = partsD (ρ' g) parts.toList K' := fun K' => partsD_congr fun x hx => h g x.2 (by simp only [Op.operands]; simp; exact ⟨x.1, by simpa using hx⟩)
    simp only [e] at hy; exact hy
  · rename_i t x ho
    simp only [ho] at h ⊢
    rw [h g x (by simp [Op.operands])] at hy; exact hy
  · rename_i t p x ho
    simp only [ho] at h ⊢
    rw [h g p (by simp [Op.operands]), h g x (by simp [Op.operands])] at hy; exact hy
  · rename_i x ho
    simp only [ho] at h ⊢
    rw [h g x (by simp [Op.operands])] at hy; exact hy
  · rename_i op t x y U ho
    simp only [ho] at h ⊢
    rw [h g x (by simp [Op.operands]), h g y (by simp [Op.operands])] at hy; exact hy
  · rename_i op t x ho
    simp only [ho] at h ⊢
    rw [h g x (by simp [Op.operands])] at hy; exact hy
  · rename_i s t x ho
    simp only [ho] at h ⊢
    rw [h g x (by simp [Op.operands])] at hy; exact hy
  · rename_i s x f ho
    simp only [ho] at h ⊢
    rw [h g x (by simp [Op.operands])] at hy; exact hy
  · rename_i s x f ho
    simp only [ho] at h ⊢
    rw [h g x (by simp [Op.operands])] at hy; exact hy
  · rename_i t x ix ho
    simp only [ho] at h ⊢
    rw [h g x (by simp [Op.operands]), h g ix (by simp [Op.operands])] at hy; exact hy
  · rename_i c ho
    simp only [ho] at h ⊢
    split at hy
    · rename_i fo hc
      have := hn' (by rw [ho]; simp only [makes, hc]) rfl
      subst this
      have h1 := h g fo (by simp [Op.operands, Call.operands, hc])
      have e : ∀ (K' : List AV → List (Nat × Body × Nat) → Prop), argsOf (ρ g) c.args.toList K' = argsOf (ρ' g) c.args.toList K' := fun K' => argsOf_congr fun x hx => h g x (by simp [Op.operands, Call.operands]; exact .inr (by simpa using hx))
      simp only [h1, e] at hy
      try simp only [hc]
      exact hy
    · rename_i hc
      try simp only [hc]
      split at hy
      · rename_i x t hx ht
        have h1 := h g x (by simp only [Op.operands, Call.operands, hc]; rw [arr_one hx]; simp)
        simp only [h1] at hy
        try simp only [hx, ht]
        exact hy
      · exact hy.elim
    · rename_i hc
      try simp only [hc]
      split at hy
      · rename_i x y t u hx ht
        have h1 := h g x (by simp only [Op.operands, Call.operands, hc]; rw [arr_two hx]; simp)
        have h2 := h g y (by simp only [Op.operands, Call.operands, hc]; rw [arr_two hx]; simp)
        simp only [h1, h2] at hy
        try simp only [hx, ht]
        exact hy
      · exact hy.elim
    · exact hy.elim
  · rename_i t i ho
    simp only [ho] at h ⊢
    rw [h g t (by simp [Op.operands])] at hy; exact hy
  · exact hy.elim
end Go.Abs
