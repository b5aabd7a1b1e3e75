/-
  The life table: plain laws.
-/
import Derived.Test.YtnkjhialkaomfaaDoorSurv2
namespace Go.Proofs.YtnkjhialkaomfaaDoor.P
open Go.Abs Go.Proofs

/-! ### Lowest terms -/
theorem red_scale (k : Nat) (hk : 0 < k) (n : Int) (d : Nat) : redF ((k : Int) * n) (k * d) = redF n d ∧ okR ((k : Int) * n) (k * d) = okR n d := by
  have e1 : ((k : Int) * n).natAbs = k * n.natAbs := by rw [Int.natAbs_mul, Int.natAbs_natCast]
  have e2 : Nat.gcd (k * d) (k * n.natAbs) = k * Nat.gcd d n.natAbs := Nat.gcd_mul_left _ _ _
  have e3 : ((k : Int) * n).sign = n.sign := by rw [Int.sign_mul, Int.sign_natCast_of_ne_zero (by omega), Int.one_mul]
  have e4 : okR ((k : Int) * n) (k * d) = okR n d := by
    unfold okR
    rw [e1, e2, Nat.mul_div_mul_left _ _ hk, Nat.mul_div_mul_left _ _ hk]
  refine ⟨?_, e4⟩
  unfold redF
  rw [e4, e1, e2, Nat.mul_div_mul_left _ _ hk, Nat.mul_div_mul_left _ _ hk, e3]
theorem red_ratio {n n' : Int} {d d' : Nat} (hd : 0 < d) (hd' : 0 < d') (h : n * d' = n' * d) : redF n d = redF n' d' ∧ okR n d = okR n' d' := by
  have h1 := red_scale d' hd' n d
  have h2 := red_scale d hd n' d'
  rw [show (d' : Int) * n = (d : Int) * n' by rw [Int.mul_comm, h, Int.mul_comm], Nat.mul_comm d' d] at h1
  exact ⟨h1.1.symm.trans h2.1, h1.2.symm.trans h2.2⟩
theorem red_self (d : Nat) (hd : 0 < d) : redF d d = (1, 1) := by
  have := (red_scale d hd 1 1).1
  rw [Int.mul_one, Nat.mul_one] at this
  rw [this]; rfl

/-! ### Ascending lists -/
theorem asc_ext : ∀ (a b : List Int), a.Pairwise (· < ·) → b.Pairwise (· < ·) → (∀ x, x ∈ a ↔ x ∈ b) → a = b
  | [], [], _, _, _ => rfl
  | [], y :: b, _, _, h => by have := (h y).2 (.head _); cases this
  | x :: a, [], _, _, h => by have := (h x).1 (.head _); cases this
  | x :: a, y :: b, ha, hb, h => by
    have ha' := List.pairwise_cons.1 ha
    have hb' := List.pairwise_cons.1 hb
    have hxy : x = y := by
      have h1 := (h x).1 (.head _)
      have h2 := (h y).2 (.head _)
      rcases List.mem_cons.1 h1 with e | h1
      · exact e
      · rcases List.mem_cons.1 h2 with e | h2
        · exact e.symm
        · have := hb'.1 x h1
          have := ha'.1 y h2
          omega
    subst hxy
    rw [asc_ext a b ha'.2 hb'.2 fun z => ?_]
    constructor
    · intro hz
      rcases List.mem_cons.1 ((h z).1 (.tail _ hz)) with e | h1
      · subst e; have := ha'.1 _ hz; omega
      · exact h1
    · intro hz
      rcases List.mem_cons.1 ((h z).2 (.tail _ hz)) with e | h1
      · subst e; have := hb'.1 _ hz; omega
      · exact h1
theorem set_ext {xs ys : List Int} (h : ∀ x, x ∈ xs ↔ x ∈ ys) : setI xs = setI ys := by
  obtain ⟨h1, h2⟩ := setI_spec xs
  obtain ⟨h3, h4⟩ := setI_spec ys
  exact asc_ext _ _ h1 h3 fun x => by rw [h2, h4, h]

/-! ### The steps -/
theorem stepGo_congr {ps qs : PS} : ∀ (l : List Int) (left : Int) (s : Int × Int) (acc : List St), (∀ t ∈ l, evC t ps = evC t qs ∧ lfC t ps = lfC t qs) → stepGo ps l left s acc = stepGo qs l left s acc
  | [], _, _, _, _ => rfl
  | t :: r, left, s, acc, h => by
    have h1 := h t (.head _)
    unfold stepGo
    rw [h1.1, h1.2, stepGo_congr r _ _ _ fun x hx => h x (.tail _ hx)]
theorem stepGo_err (ps : PS) : ∀ (l : List Int) (left : Int) (s : Int × Int) (acc : List St), (stepGo ps l left s acc).2 = 0 ∨ stepGo ps l left s acc = ([], 14)
  | [], _, _, _ => .inl rfl
  | t :: r, left, s, acc => by
    unfold stepGo
    generalize okR _ _ = b
    cases b with
    | true => exact stepGo_err ps r _ _ _
    | false => exact .inr rfl
theorem stepGo_pre (ps : PS) : ∀ (l : List Int) (left : Int) (s : Int × Int) (pre acc : List St), stepGo ps l left s (pre ++ acc) = if (stepGo ps l left s acc).2 = 0 then (pre ++ (stepGo ps l left s acc).1, 0) else ([], 14)
  | [], _, _, _, _ => rfl
  | t :: r, left, s, pre, acc => by
    unfold stepGo
    generalize okR _ _ = b
    cases b with
    | true =>
      simp only [cond_true]
      rw [List.append_assoc]
      exact stepGo_pre ps r _ _ pre _
    | false => rfl
theorem tot_nonneg (ps : PS) : ∀ l : List Int, 0 ≤ tot ps l := by
  intro l
  unfold tot
  induction l with
  | nil => simp
  | cons x r ih => have := evC_nonneg x ps; have := lfC_nonneg x ps; simp only [List.map_cons, List.sum_cons]; omega
theorem tot_step (ps : PS) (t : Int) (r : List Int) : tot ps (t :: r) = evC t ps + lfC t ps + tot ps r := rfl
/-- The numbers of a step are those of persons. -/
def Bd (n : Int) (s : St) : Prop := (0 ≤ s.risk ∧ s.risk ≤ n) ∧ (0 ≤ s.ev ∧ s.ev ≤ n) ∧ 0 ≤ s.lf ∧ s.lf ≤ n
theorem stepGo_bd (ps : PS) (n : Int) : ∀ (l : List Int) (left : Int) (s : Int × Int) (acc : List St), left = tot ps l → left ≤ n → (∀ x ∈ acc, Bd n x) → (∀ x ∈ (stepGo ps l left s acc).1, Bd n x) ∧ (stepGo ps l left s acc).1.length ≤ l.length + acc.length
  | [], _, _, acc, _, _, h => ⟨h, by simp [stepGo]⟩
  | t :: r, left, s, acc, hl, hn, h => by
    have h1 := evC_nonneg t ps
    have h2 := lfC_nonneg t ps
    have h3 := tot_nonneg ps r
    rw [tot_step] at hl
    unfold stepGo
    generalize redF _ _ = q
    generalize okR _ _ = b
    cases b with
    | true =>
      simp only [cond_true]
      have := stepGo_bd ps n r (left - (evC t ps + lfC t ps)) (redF (s.1 * q.1) (s.2 * q.2).toNat) (acc ++ [⟨t, left, evC t ps, lfC t ps, redF (s.1 * q.1) (s.2 * q.2).toNat⟩]) (by omega) (by omega) (fun x hx => by
        rcases List.mem_append.1 hx with hx | hx
        · exact h x hx
        · simp at hx; subst hx; exact ⟨⟨by simp only; omega, by simp only; omega⟩, ⟨by simp only; omega, by simp only; omega⟩, by simp only; omega, by simp only; omega⟩)
      refine ⟨this.1, Nat.le_trans this.2 ?_⟩
      simp; omega
    | false => exact ⟨fun x hx => (List.not_mem_nil hx).elim, Nat.zero_le _⟩
theorem tot_set (ps : PS) : tot ps (setI (tm ps)) = ps.length := by
  obtain ⟨h1, h2⟩ := setI_spec (tm ps)
  exact tot_all _ h1 ps fun p hp => (h2 _).2 (List.mem_map_of_mem (f := fun p : Int × Bool => p.1) hp)
theorem stepsF_bd (ps : PS) : (∀ x ∈ (stepsF ps).1, Bd ps.length x) ∧ (stepsF ps).1.length ≤ ps.length := by
  have h := stepGo_bd ps ps.length (setI (tm ps)) ps.length (1, 1) [] (tot_set ps).symm (Int.le_refl _) (fun x hx => by cases hx)
  refine ⟨h.1, Nat.le_trans h.2 ?_⟩
  have := setI_len (tm ps)
  simp only [List.length_nil, Nat.add_zero]
  simpa [tm] using this

/-! ### Twice -/
def dbl (s : St) : St := ⟨s.time, 2 * s.risk, 2 * s.ev, 2 * s.lf, s.fr⟩
theorem evC_dbl (t : Int) (ps : PS) : evC t (ps ++ ps) = 2 * evC t ps ∧ lfC t (ps ++ ps) = 2 * lfC t ps := by
  unfold evC lfC
  rw [List.filter_append, List.filter_append, List.length_append, List.length_append]
  omega
theorem stepGo_dbl (ps : PS) : ∀ (l : List Int) (left : Int) (s : Int × Int) (acc : List St), stepGo (ps ++ ps) l (2 * left) s (acc.map dbl) = ((stepGo ps l left s acc).1.map dbl, (stepGo ps l left s acc).2)
  | [], _, _, _ => rfl
  | t :: r, left, s, acc => by
    unfold stepGo
    rw [(evC_dbl t ps).1, (evC_dbl t ps).2]
    have e : redF (2 * left - 2 * evC t ps) (2 * left).toNat = redF (left - evC t ps) left.toNat := by
      have := (red_scale 2 (by omega) (left - evC t ps) left.toNat).1
      rw [← this]
      congr 1
      · omega
      · omega
    rw [e]
    generalize redF (left - evC t ps) left.toNat = p
    generalize okR _ _ = b
    cases b with
    | true =>
      simp only [cond_true]
      have ih := stepGo_dbl ps r (left - (evC t ps + lfC t ps)) (redF (s.1 * p.1) (s.2 * p.2).toNat) (acc ++ [⟨t, left, evC t ps, lfC t ps, redF (s.1 * p.1) (s.2 * p.2).toNat⟩])
      rw [← ih, List.map_append]
      congr 1
      omega
    | false => rfl
theorem stepsF_dbl (ps : PS) : stepsF (ps ++ ps) = ((stepsF ps).1.map dbl, (stepsF ps).2) := by
  unfold stepsF
  have := stepGo_dbl ps (setI (tm ps)) ps.length (1, 1) []
  rw [← this, set_ext (xs := tm (ps ++ ps)) (ys := tm ps) (fun x => by simp [tm])]
  congr 1
  simp; omega
end Go.Proofs.YtnkjhialkaomfaaDoor.P
