/-
  SurviveFalls: the plain law and the law's walk.
-/
import Derived.Test.YtnkjhialkaomfaaDoorSurvWholeLaw
import Derived.Test.YtnkjhialkaomfaaDoorRef06c
namespace Go.Proofs.YtnkjhialkaomfaaDoor.P
open Go.Abs Go.Proofs
set_option maxRecDepth 10000

theorem crossed_ (p q : Int × Int) (hp : VF p) (hq : VF q) : ACall Tryd.prog 30 [.d (frD p), .d (frD q)] (.tup [.d (W (p.1 * q.2)), .d (W (q.1 * p.2))]) := by
  obtain ⟨a, b⟩ := p
  obtain ⟨c, d⟩ := q
  obtain ⟨⟨h1, h2⟩, h3, _⟩ := hp
  obtain ⟨⟨k1, k2⟩, k3, _⟩ := hq
  simp only at h1 h2 h3 k1 k2 k3
  refine acall Tryd.func30 (by kernel_rfl) ?_
  conv => whnf
  refine ⟨⟨by decide +kernel, by kernel_rfl⟩, ?_⟩
  conv => whnf
  refine callA (whole_ a (by omega) (by omega)) ?_
  conv => whnf
  refine callA (whole_ d (by omega) (by omega)) ?_
  conv => whnf
  refine callA (times_ a d) ?_
  conv => whnf
  refine callA (whole_ c (by omega) (by omega)) ?_
  conv => whnf
  refine callA (whole_ b (by omega) (by omega)) ?_
  conv => whnf
  refine callA (times_ c b) ?_
  conv => whnf
  exact ⟨rfl⟩
theorem less_ (p q : Int × Int) (hp : VF p) (hq : VF q) (h : ¬ p.1 * q.2 < q.1 * p.2) : ACall Tryd.prog 17 [.d (frD p), .d (frD q)] (.d (.bool false)) := by
  have vp := valid_ p hp
  have vq := valid_ q hq
  have cr := crossed_ p q hp hq
  have hB : B127 = 170141183460469231731687303715884105728 := rfl
  have b1 := prod_bound (a := p.1) (b := q.2) hp.2.1 (by have := hq.1; omega)
  have b2 := prod_bound (a := q.1) (b := p.2) hq.2.1 (by have := hp.1; omega)
  have hs : ¬ ((p.1 * q.2 - q.1 * p.2).sign < 0) := fun hh => by have := Int.sign_neg_iff.1 hh; omega
  have sg := sign_ (p.1 * q.2 - q.1 * p.2) (by omega) (by omega)
  have mn := minus_ (p.1 * q.2) (q.1 * p.2)
  generalize p.1 * q.2 - q.1 * p.2 = z at *
  generalize p.1 * q.2 = x at *
  generalize q.1 * p.2 = y at *
  obtain ⟨a, b⟩ := p
  obtain ⟨c, d⟩ := q
  refine acall Tryd.func17 (by kernel_rfl) ?_
  conv => whnf
  refine callA cr ?_
  conv => whnf
  refine callA vp ?_
  conv => whnf
  refine callA vq ?_
  conv => whnf
  refine callA mn ?_
  conv => whnf
  refine callA sg ?_
  generalize z.sign = s at hs
  conv => whnf
  refine ⟨?_⟩
  rw [decide_eq_false hs]; rfl

theorem part_ (x : St) (h0 : 0 < x.risk) (h1 : x.risk ≤ 1000000) (h2 : 0 ≤ x.ev) (h3 : x.ev ≤ 1000000) : ACall Tryd.prog 19 [.d (encS x)] (.d (frD (redF (x.risk - x.ev) x.risk.toNat))) := by
  have hof := rOf (x.risk - x.ev) x.risk (by omega) (by omega) (by omega)
  rw [show nn (x.risk - x.ev) x.risk = x.risk - x.ev from if_neg (by omega), show x.risk.natAbs = x.risk.toNat by omega] at hof
  have e : IntKind.i64.wrap (x.risk - x.ev) = x.risk - x.ev := wrap_small (by omega) (by omega)
  generalize redF (x.risk - x.ev) x.risk.toNat = p at *
  generalize redE (x.risk - x.ev) x.risk.toNat = er at *
  obtain ⟨p1, p2⟩ := p
  refine acall Tryd.func19 (by kernel_rfl) ?_
  conv => whnf
  rw [e]
  refine callA hof ?_
  conv => whnf
  exact ⟨rfl⟩

/-- Steps that follow one another. -/
def Chain : List St → Int → Int × Int → Prop
  | [], left, _ => left = 0
  | x :: r, left, b => x.risk = left ∧ (1 ≤ left ∧ left ≤ 200) ∧ (0 ≤ x.ev ∧ 0 ≤ x.lf ∧ 1 ≤ x.ev + x.lf ∧ x.ev + x.lf ≤ left) ∧
      okR (b.1 * (redF (x.risk - x.ev) x.risk.toNat).1) (b.2 * (redF (x.risk - x.ev) x.risk.toNat).2).toNat = true ∧
      x.fr = redF (b.1 * (redF (x.risk - x.ev) x.risk.toNat).1) (b.2 * (redF (x.risk - x.ev) x.risk.toNat).2).toNat ∧ Chain r (left - (x.ev + x.lf)) x.fr
theorem stepGo_chain (ps : PS) : ∀ (l : List Int) (left : Int) (s : Int × Int) (acc : List St), left = tot ps l → left ≤ 200 → (∀ t ∈ l, 1 ≤ evC t ps + lfC t ps) → (stepGo ps l left s acc).2 = 0 →
    ∃ r, (stepGo ps l left s acc).1 = acc ++ r ∧ Chain r left s ∧ r.map (fun x => x.time) = l
  | [], left, _, acc, hl, _, _, _ => ⟨[], by simp [stepGo], hl, rfl⟩
  | t :: r, left, s, acc, hl, hn, hp, h => by
    have h1 := evC_nonneg t ps
    have h2 := lfC_nonneg t ps
    have h3 := tot_nonneg ps r
    have h4 := hp t (.head _)
    rw [tot_step] at hl
    unfold stepGo at h ⊢
    cases hok : okR (s.1 * (redF (left - evC t ps) left.toNat).1) (s.2 * (redF (left - evC t ps) left.toNat).2).toNat with
    | false => rw [hok] at h; cases h
    | true =>
      rw [hok] at h
      simp only [cond_true] at h ⊢
      obtain ⟨q, e1, e2, e3⟩ := stepGo_chain ps r _ _ _ (by omega) (by omega) (fun x hx => hp x (.tail _ hx)) h
      refine ⟨⟨t, left, evC t ps, lfC t ps, _⟩ :: q, ?_, ⟨rfl, ⟨by omega, hn⟩, ⟨h1, h2, h4, by show evC t ps + lfC t ps ≤ left; omega⟩, hok, rfl, e2⟩, by simp [e3]⟩
      rw [e1, List.append_assoc]; rfl

theorem falls {b p : Int × Int} (hb : VF b) (hb0 : 0 ≤ b.1) (hp0 : 0 ≤ p.1) (hp : VF p) (hpp : p.1 ≤ p.2) (hok : okR (b.1 * p.1) (b.2 * p.2).toNat = true) :
    0 ≤ (redF (b.1 * p.1) (b.2 * p.2).toNat).1 ∧ ¬ b.1 * (redF (b.1 * p.1) (b.2 * p.2).toNat).2 < (redF (b.1 * p.1) (b.2 * p.2).toNat).1 * b.2 := by
  have hd : 0 < b.2 * p.2 := Int.mul_pos (by have := hb.1.1; omega) (by have := hp.1.1; omega)
  have h := frac_ratio (n := b.1 * p.1) (d := (b.2 * p.2).toNat) (Int.mul_nonneg hb0 hp0) (by omega) hok
  rw [show (((b.2 * p.2).toNat : Nat) : Int) = b.2 * p.2 by omega] at h
  generalize redF (b.1 * p.1) (b.2 * p.2).toNat = f at h
  obtain ⟨h1, h2, h3⟩ := h
  refine ⟨h3, fun hlt => ?_⟩
  have hp2 := hp.1.1
  have k1 : b.1 * f.2 * p.2 < f.1 * b.2 * p.2 := Int.mul_lt_mul_of_pos_right hlt (by omega)
  have k2 : f.1 * b.2 * p.2 = b.1 * p.1 * f.2 := by rw [Int.mul_assoc]; exact h1
  have k3 : b.1 * f.2 * p.1 ≤ b.1 * f.2 * p.2 := Int.mul_le_mul_of_nonneg_left hpp (Int.mul_nonneg hb0 (by omega))
  have k4 : b.1 * p.1 * f.2 = b.1 * f.2 * p.1 := by grind
  omega

set_option maxHeartbeats 4000000 in
theorem fallsLaw (hS : SortC) (hC : CompactC) (codes : List Int) (hc : ∀ x ∈ codes, 0 ≤ x ∧ x ≤ 255) : ACall Tryd.prog 7 [.d (bytesD codes)] (.d (.bool true)) := by
  refine acall Tryd.func7 (by kernel_rfl) ?_
  conv => whnf
  refine callA (timesL codes 30 hc (by omega)) ?_
  have hb := pers_bounds codes 30
  have hl := pers_len codes 30
  generalize pers codes 30 = ps at hb hl
  have hst := steps_ hS hC ps (by omega) fun p hp => by have := hb p hp; omega
  have herr := stepGo_err ps (setI (tm ps)) ps.length (1, 1) []
  have hch := stepGo_chain ps (setI (tm ps)) ps.length (1, 1) [] (tot_set ps).symm (by omega) (fun t ht => cnt_pos t ps (((setI_spec (tm ps)).2 t).1 ht))
  have hasc := (setI_spec (tm ps)).1
  have hbd := (stepsF_bd ps).2
  rw [show stepGo ps (setI (tm ps)) ps.length (1, 1) [] = stepsF ps from rfl] at herr hch
  generalize stepsF ps = R at *
  generalize setI (tm ps) = D0 at *
  obtain ⟨l, e⟩ := R
  simp only [List.nil_append] at herr hch hbd
  conv => whnf
  refine ⟨⟨[(0, 1), (1, 1)], ?_⟩⟩
  conv => whnf
  refine callA hst ?_
  by_cases he : e = 0
  · subst he
    obtain ⟨r, rfl, hchain, htimes⟩ := hch rfl
    have htm : (tm ps).length = ps.length := by simp [tm]
    conv => whnf
    rw [show (List.map (D.int .i64) (tm ps)).length = ps.length from by simp; exact htm]
    refine loop {s : Nat × Int × (Int × Int) // s.1 ≤ l.length ∧ Chain (l.drop s.1) s.2.1 s.2.2 ∧ VF s.2.2 ∧ 0 ≤ s.2.2.1} (fun s => mkS 110 [(5, .d (sts l)), (7, .d (.int .i64 s.1.2.1)), (8, .ptr 8 1 0), (34, .d (sts l)), (35, .d (.int .i64 l.length)), (36, .d (.int .i64 s.1.1))]
      [(8, .var [.d (.int .i64 s.1.2.2.1), .d (.int .i64 s.1.2.2.2)], 1)]) (fun s => l.length - s.1.1) ⟨(0, ps.length, (1, 1)), by simp, hchain, VF_one, Int.le_of_lt Int.one_pos⟩ ?_ fun s => ?_
    · refine leF ?_
      conv => whnf
      rw [show (List.map encS l).length = l.length from by simp]
      repeat (first | exact trivial | refine And.intro (by first | with_reducible rfl | (rw [next (by first | omega | (simp only; omega))]) | rfl) ?_)
    obtain ⟨⟨i, left, b⟩, hi, hcn, hvb, hb0⟩ := s
    simp only at hi hcn hvb hb0
    conv => whnf
    refine br (fun h => ?_) (fun h => ?_)
    · have hlt : i < l.length := by simpa using h
      rw [List.drop_eq_getElem_cons hlt] at hcn
      have htime : ∀ (h0 : 0 < i), ¬ (l[i].time ≤ (l[i - 1]'(by omega)).time) := by
        intro h0 hle
        have hpw : (l.map fun x => x.time).Pairwise (· < ·) := by rw [htimes]; exact hasc
        have := List.pairwise_iff_getElem.1 hpw (i - 1) i (by simp; omega) (by simpa using hlt) (by omega)
        simp only [List.getElem_map] at this
        omega
      have ga : (l.map encS)[((i : Nat) : Int).toNat]? = some (encS l[i]) := by simp [hlt]
      have gb : ∀ (h0 : 0 < i), (l.map encS)[(((i - 1 : Nat) : Nat) : Int).toNat]? = some (encS (l[i - 1]'(by omega))) := fun h0 => by simp [show i - 1 < l.length by omega]
      generalize l[i] = x at hcn htime ga
      obtain ⟨c1, c2, c3, c4, c5, c6⟩ := hcn
      have hpart := part_ x (by omega) (by omega) (by omega) (by omega)
      have hvp : VF (redF (x.risk - x.ev) x.risk.toNat) := redF_valid (by omega) (okR_small (by omega) (by omega) (by omega))
      have hrat := frac_ratio (n := x.risk - x.ev) (d := x.risk.toNat) (by omega) (by omega) (okR_small (by omega) (by omega) (by omega))
      generalize redF (x.risk - x.ev) x.risk.toNat = p at *
      have hpp : p.1 ≤ p.2 := by
        have h1 := hrat.1
        rw [show ((x.risk.toNat : Nat) : Int) = x.risk by omega] at h1
        have h2 : (x.risk - x.ev) * p.2 ≤ x.risk * p.2 := Int.mul_le_mul_of_nonneg_right (by omega) (by omega)
        have h3 : p.1 * x.risk ≤ p.2 * x.risk := by rw [h1, Int.mul_comm p.2]; exact h2
        exact Int.le_of_mul_le_mul_right h3 (by omega)
      have hf := falls hvb hb0 hrat.2.2 hvp hpp c4
      have hmul := mul_ b p hvb hvp
      have hd : 0 < b.2 * p.2 := Int.mul_pos (by have := hvb.1.1; omega) (by have := hvp.1.1; omega)
      have hvf := redF_valid (n := b.1 * p.1) (d := (b.2 * p.2).toNat) (by omega) c4
      rw [(redE_eq _ _).2 c4] at hmul
      rw [← c5] at hf hmul hvf
      have l1 := less_ b x.fr hvb hvf hf.2
      have l2 := less_ x.fr (0, 1) hvf ⟨by decide, by decide, by decide⟩ (by have := hf.1; simp only; omega)
      obtain ⟨x1, x2, x3, x4, ⟨x5, x6⟩⟩ := x
      obtain ⟨b1, b2⟩ := b
      simp only at c1 c2 c3 c6 htime hf hvf
      subst c1
      have e1 : IntKind.i64.wrap (x3 + x4) = x3 + x4 := wrap_small (by omega) (by omega)
      have e2 : IntKind.i64.wrap (x2 - (x3 + x4)) = x2 - (x3 + x4) := wrap_small (by omega) (by omega)
      conv => whnf
      refine ⟨⟨by first | omega | (simp only; omega), _, ga, ?_⟩⟩
      conv => whnf
      refine ⟨⟨by decide +kernel, by kernel_rfl⟩, ?_⟩
      conv => whnf
      refine br (fun q => ?_) (fun q => ?_)
      · simp at q
      conv => whnf
      refine br (fun q => ?_) (fun q => ?_)
      · have h0 : 0 < i := by have := of_decide_eq_true q; simp only at this; omega
        have ew : IntKind.i64.wrap ((i : Int) - 1) = ((i - 1 : Nat) : Int) := by rw [wrap_small (by omega) (by omega)]; omega
        have hg := gb h0
        have ht := htime h0
        generalize l[i - 1] = y at hg ht
        obtain ⟨y1, y2, y3, y4, ⟨y5, y6⟩⟩ := y
        simp only at ht
        conv => whnf
        rw [ew]
        refine ⟨⟨by first | omega | (simp only; omega), _, hg, ?_⟩⟩
        conv => whnf
        refine br (fun q => ?_) (fun q => ?_)
        · exfalso
          have hx : decide (x1 ≤ y1) = false := decide_eq_false ht
          simp only [hx, cond_false, cond_true] at q
          cases q
        conv => whnf
        refine br (fun q => ?_) (fun q => ?_)
        · exfalso
          have hx : decide (IntKind.i64.wrap (x3 + x4) < 1) = false := by rw [e1]; exact decide_eq_false (by omega)
          simp only [hx, cond_false, cond_true] at q
          cases q
        conv => whnf
        refine callA l1 ?_
        conv => whnf
        refine callA l2 ?_
        conv => whnf
        refine ⟨⟨by decide +kernel, by kernel_rfl⟩, ?_⟩
        conv => whnf
        refine callA hpart ?_
        conv => whnf
        refine callA hmul ?_
        conv => whnf
        refine ⟨⟨by kernel_rfl, by kernel_rfl⟩, ?_⟩
        conv => whnf
        refine ⟨by kernel_rfl, ?_⟩
        conv => whnf
        refine br (fun q => ?_) (fun q => ?_)
        · simp at q
        conv => whnf
        rw [e1, e2]
        refine ⟨⟨(i + 1, x2 - (x3 + x4), (x5, x6)), hlt, c6, hvf, hf.1⟩, ?_, by show l.length - (i + 1) < l.length - i; omega⟩
        refine leF ?_
        conv => whnf
        repeat (first | exact trivial | refine And.intro (by first | with_reducible rfl | (rw [next (by first | omega | (simp only; omega))]) | rfl) ?_)
      · conv => whnf
        refine br (fun q => ?_) (fun q => ?_)
        · exfalso
          have hx : decide (IntKind.i64.wrap (x3 + x4) < 1) = false := by rw [e1]; exact decide_eq_false (by omega)
          simp only [hx, cond_false, cond_true] at q
          cases q
        conv => whnf
        refine callA l1 ?_
        conv => whnf
        refine callA l2 ?_
        conv => whnf
        refine ⟨⟨by decide +kernel, by kernel_rfl⟩, ?_⟩
        conv => whnf
        refine callA hpart ?_
        conv => whnf
        refine callA hmul ?_
        conv => whnf
        refine ⟨⟨by kernel_rfl, by kernel_rfl⟩, ?_⟩
        conv => whnf
        refine ⟨by kernel_rfl, ?_⟩
        conv => whnf
        refine br (fun q => ?_) (fun q => ?_)
        · simp at q
        conv => whnf
        rw [e1, e2]
        refine ⟨⟨(i + 1, x2 - (x3 + x4), (x5, x6)), hlt, c6, hvf, hf.1⟩, ?_, by show l.length - (i + 1) < l.length - i; omega⟩
        refine leF ?_
        conv => whnf
        repeat (first | exact trivial | refine And.intro (by first | with_reducible rfl | (rw [next (by first | omega | (simp only; omega))]) | rfl) ?_)
    · have hge : l.length ≤ i := by simpa using h
      rw [List.drop_eq_nil_of_le hge] at hcn
      have hcn : left = 0 := hcn
      subst hcn
      conv => whnf
      refine callA (awake20 hS hC) ?_
      conv => whnf
      exact ⟨rfl⟩
  · have he14 : e = 14 := by
      rcases herr with h | h
      · exact absurd h he
      · exact (Prod.mk.inj h).2
    subst he14
    conv => whnf
    refine callA (awake20 hS hC) ?_
    conv => whnf
    exact ⟨rfl⟩
end Go.Proofs.YtnkjhialkaomfaaDoor.P
