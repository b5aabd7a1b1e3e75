/-
  ref20.Steps, and both Steps with their errors, by the abstract machine.
-/
import Derived.Test.YtnkjhialkaomfaaDoorRef20
namespace Go.Proofs.YtnkjhialkaomfaaDoor.P
open Go.Abs Go.Proofs
set_option maxRecDepth 10000

theorem zip_ex : ∀ (ts : List Int) (evs : List Bool), ts.length = evs.length → ∃ ps : PS, tm ps = ts ∧ es ps = evs
  | [], [], _ => ⟨[], rfl, rfl⟩
  | t :: ts, e :: evs, h => by
    obtain ⟨ps, h1, h2⟩ := zip_ex ts evs (by simpa using h)
    exact ⟨(t, e) :: ps, by rw [← h1]; rfl, by rw [← h2]; rfl⟩
  | [], _ :: _, h => by simp at h
  | _ :: _, [], h => by simp at h
def rkC (t : Int) (ps : PS) : Int := ((ps.filter fun p => decide (p.1 ≥ t)).length : Nat)
theorem rkC_snoc (t : Int) (ps : PS) (p : Int × Bool) : rkC t (ps ++ [p]) = rkC t ps + (if p.1 ≥ t then 1 else 0) := by
  unfold rkC
  rw [List.filter_append, List.length_append]
  by_cases h : p.1 ≥ t
  · rw [if_pos h, List.filter_cons_of_pos (by simpa using h)]; simp
  · rw [if_neg h, List.filter_cons_of_neg (by simpa using h)]; simp
theorem rkC_le (t : Int) (ps : PS) : rkC t ps ≤ ps.length := by unfold rkC; have := List.length_filter_le (fun p : Int × Bool => decide (p.1 ≥ t)) ps; omega
theorem rkC_nonneg (t : Int) (ps : PS) : 0 ≤ rkC t ps := Int.natCast_nonneg _
/-- Those at risk are those whose times are still to come. -/
theorem rkC_tot (ps : PS) (l : List Int) (hl : l.Pairwise (· < ·)) (hm : ∀ p ∈ ps, p.1 ∈ l) (k : Nat) (hk : k < l.length) : rkC l[k] ps = tot ps (l.drop k) := by
  rw [tot_mem _ (hl.drop (i := k))]
  unfold rkC
  congr 2
  apply List.filter_congr
  intro p hp
  rw [Bool.eq_iff_iff, decide_eq_true_iff, decide_eq_true_iff]
  obtain ⟨j, hj, e⟩ := List.getElem_of_mem (hm p hp)
  rw [← e]
  constructor
  · intro h
    have : k ≤ j := by
      rcases Nat.lt_or_ge j k with q | q
      · have := List.pairwise_iff_getElem.1 hl j k hj hk q; omega
      · exact q
    rw [List.mem_iff_getElem]
    exact ⟨j - k, by simp; omega, by simp [show k + (j - k) = j by omega]⟩
  · intro h
    obtain ⟨i, hi, e2⟩ := List.getElem_of_mem h
    rw [List.getElem_drop] at e2
    rcases Nat.eq_zero_or_pos i with q | q
    · subst q; simp only [Nat.add_zero] at e2; omega
    · have := List.pairwise_iff_getElem.1 hl k (k + i) hk (by simp at hi; omega) (by omega); omega

/-- P20.1, with its errors. -/
def stepsG (ts : List Int) (evs : List Bool) (R : List St × Int) : Prop :=
  (ts.length ≠ evs.length → R = ([], 17)) ∧ (ts.length = evs.length → ts.length > 200 → R = ([], 1)) ∧ (ts.length = evs.length → ts.length ≤ 200 → ts.any lrgT = true → R = ([], 2)) ∧
  ∀ ps, tm ps = ts → es ps = evs → ts.length ≤ 200 → ts.any lrgT = false → R = stepsF ps
theorem lrgT_iff (v : Int) : lrgT v = false ↔ 0 ≤ v ∧ v ≤ 1000000 := by
  unfold lrgT
  by_cases h : v < 0 <;> simp [h] <;> omega
theorem stepsAll (hS : SortC) (hC : CompactC) (ts : List Int) (evs : List Bool) (R : List St × Int) (hR : stepsG ts evs R) (h1 : ts.length ≤ 100000) :
    ACall Tryd.prog 9 [.d (ints ts), .d (bl evs)] (.tup [.d (sts R.1), .d (.int .i64 R.2)]) := by
  by_cases c : ts.length = evs.length ∧ ts.length ≤ 200 ∧ ts.any lrgT = false
  · obtain ⟨c1, c2, c3⟩ := c
    obtain ⟨ps, rfl, rfl⟩ := zip_ex ts evs c1
    rw [hR.2.2.2 ps rfl rfl c2 c3]
    refine steps_ hS hC ps (by simpa [tm] using c2) fun p hp => ?_
    have := List.any_eq_false.1 c3 p.1 (List.mem_map_of_mem (f := fun p : Int × Bool => p.1) hp)
    exact (lrgT_iff _).1 (by simpa using this)
  refine acall Tryd.func9 (by kernel_rfl) ?_
  conv => whnf
  refine br (fun h => ?_) (fun h => ?_)
  · have : ts.length ≠ evs.length := by simp at h; omega
    rw [hR.1 this]
    conv => whnf
    refine ⟨.inl ?_⟩
    conv => whnf
    exact ⟨rfl⟩
  have q1 : ts.length = evs.length := by simp at h; omega
  conv => whnf
  refine br (fun h => ?_) (fun h => ?_)
  · have : ts.length > 200 := by simp at h; omega
    rw [hR.2.1 q1 this]
    conv => whnf
    refine ⟨.inl ?_⟩
    conv => whnf
    exact ⟨rfl⟩
  have q2 : ts.length ≤ 200 := by simp at h; omega
  have q3 : ts.any lrgT = true := by
    cases q : ts.any lrgT with
    | true => rfl
    | false => exact absurd ⟨q1, q2, q⟩ c
  conv => whnf
  refine callA (contains _ lrgT ts (by omega) fun x _ => steps1 x) ?_
  rw [q3, hR.2.2.1 q1 q2 q3]
  conv => whnf
  refine ⟨.inl ?_⟩
  conv => whnf
  exact ⟨rfl⟩

set_option maxHeartbeats 4000000 in
theorem rStepsAll (ts : List Int) (evs : List Bool) (R : List St × Int) (hR : stepsG ts evs R) (h1 : ts.length ≤ 100000) :
    ACall Tryd.prog 15 [.d (ints ts), .d (bl evs)] (.tup [.d (sts R.1), .d (.int .i64 R.2)]) := by
  refine acall Tryd.func15 (by kernel_rfl) ?_
  conv => whnf
  refine br (fun h => ?_) (fun h => ?_)
  · have : ts.length ≠ evs.length := by simp at h; omega
    rw [hR.1 this]
    conv => whnf
    refine ⟨.inl ?_⟩
    conv => whnf
    exact ⟨rfl⟩
  have q1 : ts.length = evs.length := by simp at h; omega
  conv => whnf
  refine br (fun h => ?_) (fun h => ?_)
  · have : ts.length > 200 := by simp at h; omega
    rw [hR.2.1 q1 this]
    conv => whnf
    refine ⟨.inl ?_⟩
    conv => whnf
    exact ⟨rfl⟩
  have q2 : ts.length ≤ 200 := by simp at h; omega
  conv => whnf
  refine loop {s : Nat × List Int // s.1 ≤ ts.length ∧ (∀ x ∈ ts.take s.1, lrgT x = false) ∧ s.2.Pairwise (· < ·) ∧ (∀ x, x ∈ s.2 ↔ x ∈ ts.take s.1) ∧ s.2.length ≤ s.1} (fun s => mkS 141 [(0, .d (ints ts)), (1, .d (bl evs)), (6, .d (ints s.1.2)), (7, .d (.int .i64 s.1.1))] []) (fun s => ts.length - s.1.1) ⟨(0, []), by simp⟩ ?_ fun s => ?_
  · refine leF ?_
    conv => whnf
    repeat (first | exact trivial | refine And.intro (by first | with_reducible rfl | (rw [next (by first | omega | (simp only; omega))]) | rfl) ?_)
  obtain ⟨⟨i, A⟩, hi, hok, hasc, hmem, hAl⟩ := s
  simp only at hi hok hasc hmem hAl
  conv => whnf
  refine br (fun h => ?_) (fun h => ?_)
  · have hlt : i < ts.length := by simpa using h
    have gx := ints_get ts i hlt
    have hsn := take_snoc ts i hlt
    have hin : ts[i] ∈ ts := List.getElem_mem hlt
    conv => whnf
    refine ⟨⟨by first | omega | (simp only; omega), _, gx, ?_⟩⟩
    generalize ts[i] = x at gx hsn hin
    have hbad : lrgT x = true → R = ([], 2) := fun hx => hR.2.2.1 q1 q2 (List.any_eq_true.2 ⟨x, hin, hx⟩)
    conv => whnf
    refine br (fun q => ?_) (fun q => ?_)
    · have q := of_decide_eq_true q
      rw [hbad (by cases hh : lrgT x with | true => rfl | false => have := (lrgT_iff x).1 hh; omega)]
      conv => whnf
      refine ⟨.inl ?_⟩
      conv => whnf
      exact ⟨rfl⟩
    have q := of_decide_eq_false q
    conv => whnf
    refine ⟨⟨by first | omega | (simp only; omega), _, gx, ?_⟩⟩
    conv => whnf
    refine br (fun q4 => ?_) (fun q4 => ?_)
    · have q4 : x > 1000000 := by simpa using q4
      rw [hbad (by cases hh : lrgT x with | true => rfl | false => have := (lrgT_iff x).1 hh; omega)]
      conv => whnf
      refine ⟨.inl ?_⟩
      conv => whnf
      exact ⟨rfl⟩
    have q4 : ¬ x > 1000000 := by simpa using q4
    conv => whnf
    refine ⟨⟨by first | omega | (simp only; omega), _, gx, ?_⟩⟩
    conv => whnf
    refine callA (rPut A x (by omega)) ?_
    conv => whnf
    refine ⟨⟨(i + 1, putF A x), hlt, ?_, ?_, ?_, ?_⟩, ?_, by show ts.length - (i + 1) < ts.length - i; omega⟩
    · intro y hy
      simp only [hsn] at hy
      rcases List.mem_append.1 hy with hy | hy
      · exact hok y hy
      · simp at hy; subst hy; exact (lrgT_iff y).2 (by omega)
    · unfold putF
      split
      · exact hasc
      · rename_i hn; exact asc_putG x A hasc hn
    · intro y
      simp only [hsn]
      unfold putF
      rw [List.mem_append, ← hmem]
      split
      · rename_i hn
        constructor
        · intro h; exact .inl h
        · rintro (h | h)
          · exact h
          · simp at h; subst h; exact hn
      · rw [mem_putG]
        simp only [List.mem_singleton]
        exact Or.comm
    · show (putF A x).length ≤ i + 1
      unfold putF
      split
      · omega
      · rw [putG_len]; omega
    · refine leF ?_
      conv => whnf
      repeat (first | exact trivial | refine And.intro (by first | with_reducible rfl | (rw [next (by first | omega | (simp only; omega))]) | rfl) ?_)
  · have hge : ts.length ≤ i := by simpa using h
    rw [List.take_of_length_le hge] at hok hmem
    obtain ⟨ps, rfl, rfl⟩ := zip_ex ts evs q1
    have q3 : (tm ps).any lrgT = false := by
      rw [List.any_eq_false]
      intro x hx
      simp [hok x hx]
    have hRS := hR.2.2.2 ps rfl rfl q2 q3
    have hA : A = setI (tm ps) := by
      obtain ⟨h3, h4⟩ := setI_spec (tm ps)
      exact asc_ext _ _ hasc h3 fun x => by rw [hmem, h4]
    have hlen : (tm ps).length = ps.length := by simp [tm]
    have hR2 : stepGo ps A ps.length (1, 1) [] = R := by rw [hA, hRS]; rfl
    have hall : ∀ p ∈ ps, p.1 ∈ A := fun p hp => (hmem _).2 (List.mem_map_of_mem (f := fun p : Int × Bool => p.1) hp)
    have htot : tot ps A = ps.length := tot_all _ hasc ps hall
    have hcnt : ∀ t ∈ A, 1 ≤ evC t ps + lfC t ps := fun t ht => cnt_pos t ps ((hmem t).1 ht)
    have hrk := fun (k : Nat) (hk : k < A.length) => rkC_tot ps A hasc hall k hk
    have gt : ∀ i (hi : i < ps.length), ((tm ps).map (D.int .i64))[((i : Nat) : Int).toNat]? = some (D.int .i64 ps[i].1) := fun i hi => by simp [tm, hi]
    have ge : ∀ i (hi : i < ps.length), ((es ps).map D.bool)[((i : Nat) : Int).toNat]? = some (D.bool ps[i].2) := fun i hi => by simp [es, hi]
    have hn : ps.length ≤ 200 := by omega
    clear hR hRS hA hmem hok hge q3 h q1 q2 h1
    generalize tm ps = ts at *
    generalize es ps = evs at *
    conv => whnf
    refine loop {s : Nat × Int × (Int × Int) × List St // s.1 ≤ A.length ∧ VF s.2.2.1 ∧ stepGo ps (A.drop s.1) s.2.1 s.2.2.1 s.2.2.2 = R ∧ s.2.1 = tot ps (A.drop s.1) ∧ s.2.2.2.length ≤ s.1}
      (fun s => mkS 141 [(0, .d (ints ts)), (1, .d (bl evs)), (6, .d (ints A)), (8, .sl 8 1), (9, .ptr 9 1 0), (10, .d (.int .i64 s.1.1))]
        [(8, .row 6 41 (s.1.2.2.2.map encS), 1), (9, .var [.d (.int .i64 s.1.2.2.1.1), .d (.int .i64 s.1.2.2.1.2)], 1)]) (fun s => A.length - s.1.1) ⟨(0, ps.length, (1, 1), []), by simp, VF_one, hR2, htot.symm, by simp⟩ ?_ fun s => ?_
    · refine leF ?_
      conv => whnf
      repeat (first | exact trivial | refine And.intro (by first | with_reducible rfl | (rw [next (by first | omega | (simp only; omega))]) | rfl) ?_)
    obtain ⟨⟨k, left, s, acc⟩, hk, hv, hgo, hleft, hacc⟩ := s
    simp only at hk hv hgo hleft hacc
    conv => whnf
    refine br (fun h => ?_) (fun h => ?_)
    · have hlt : k < A.length := by simpa using h
      have hm1 := hcnt A[k] (List.getElem_mem hlt)
      have hrisk := hrk k hlt
      rw [← hleft] at hrisk
      rw [List.drop_eq_getElem_cons hlt] at hgo hleft
      conv => whnf
      refine ⟨⟨by first | omega | (simp only; omega), _, ints_get A k hlt, ?_⟩⟩
      generalize A[k] = t at *
      have hev := evC_nonneg t ps
      have hlf := lfC_nonneg t ps
      have hrest := tot_nonneg ps (A.drop (k + 1))
      have hleft2 : left = evC t ps + lfC t ps + tot ps (A.drop (k + 1)) := by rw [hleft]; rfl
      have hrkle := rkC_le t ps
      conv => whnf
      refine loop {i : Nat // i ≤ ps.length} (fun i => mkS 141 [(0, .d (ints ts)), (1, .d (bl evs)), (6, .d (ints A)), (8, .sl 8 1), (9, .ptr 9 1 0), (10, .d (.int .i64 k)), (11, .ptr 11 1 0), (12, .d (.int .i64 i.1))]
        [(8, .row 6 41 (acc.map encS), 1), (9, .var [.d (.int .i64 s.1), .d (.int .i64 s.2)], 1), (11, .var [.d (.int .i64 t), .d (.int .i64 (rkC t (ps.take i.1))), .d (.int .i64 (evC t (ps.take i.1))), .d (.int .i64 (lfC t (ps.take i.1))), .d (.int .i64 0), .d (.int .i64 0)], 1)]) (fun i => ps.length - i.1) ⟨0, by omega⟩ ?_ fun i => ?_
      · refine leF ?_
        conv => whnf
        rw [show rkC t (List.take 0 ps) = 0 from rfl, show evC t (List.take 0 ps) = 0 from rfl, show lfC t (List.take 0 ps) = 0 from rfl]
        repeat (first | exact trivial | refine And.intro (by first | with_reducible rfl | (rw [next (by first | omega | (simp only; omega))]) | rfl) ?_)
      obtain ⟨i, hi⟩ := i
      have hle1 := evC_le t (ps.take i)
      have hle2 := lfC_le t (ps.take i)
      have hle3 := rkC_le t (ps.take i)
      have hb0 := evC_nonneg t (ps.take i)
      have hb1 := lfC_nonneg t (ps.take i)
      have hb2 := rkC_nonneg t (ps.take i)
      have htl : (ps.take i).length ≤ 200 := by simp; omega
      conv => whnf
      refine br (fun h => ?_) (fun h => ?_)
      · have hlt2 : i < ps.length := by have : i < ts.length := by simpa using h
                                        omega
        have hn1 := evC_snoc t (ps.take i) ps[i]
        have hn2 := lfC_snoc t (ps.take i) ps[i]
        have hn3 := rkC_snoc t (ps.take i) ps[i]
        rw [← take_snoc ps i hlt2] at hn1 hn2 hn3
        have gt' := gt i hlt2
        have ge' := ge i hlt2
        have w1 : IntKind.i64.wrap (rkC t (ps.take i) + 1) = rkC t (ps.take i) + 1 := wrap_small (by omega) (by omega)
        have w2 : IntKind.i64.wrap (evC t (ps.take i) + 1) = evC t (ps.take i) + 1 := wrap_small (by omega) (by omega)
        have w3 : IntKind.i64.wrap (lfC t (ps.take i) + 1) = lfC t (ps.take i) + 1 := wrap_small (by omega) (by omega)
        conv => whnf
        refine ⟨⟨by decide +kernel, by kernel_rfl⟩, ?_⟩
        conv => whnf
        refine ⟨⟨by first | omega | (simp only; omega), _, gt', ?_⟩⟩
        generalize ps[i] = p at hn1 hn2 hn3 gt' ge'
        obtain ⟨x, b⟩ := p
        simp only at hn1 hn2 hn3 gt' ge'
        rcases Int.lt_trichotomy x t with c | c | c
        · rw [if_neg (by omega)] at hn1 hn2 hn3
          conv => whnf
          refine br (fun q => ?_) (fun q => ?_)
          · exfalso; have := of_decide_eq_true q; omega
          conv => whnf
          refine ⟨⟨by decide +kernel, by kernel_rfl⟩, ?_⟩
          conv => whnf
          refine ⟨⟨by first | omega | (simp only; omega), _, gt', ?_⟩⟩
          conv => whnf
          refine br (fun q => ?_) (fun q => ?_)
          · exfalso; simp at q; omega
          conv => whnf
          refine ⟨⟨by decide +kernel, by kernel_rfl⟩, ?_⟩
          conv => whnf
          refine ⟨⟨by first | omega | (simp only; omega), _, gt', ?_⟩⟩
          conv => whnf
          refine br (fun q => ?_) (fun q => ?_)
          · exfalso; simp at q; omega
          conv => whnf
          refine ⟨⟨i + 1, hlt2⟩, ?_, by show ps.length - (i + 1) < ps.length - i; omega⟩
          refine leF ?_
          conv => whnf
          rw [hn1, hn2, hn3, Int.add_zero, Int.add_zero, Int.add_zero]
          repeat (first | exact trivial | refine And.intro (by first | with_reducible rfl | (rw [next (by first | omega | (simp only; omega))]) | rfl) ?_)
        · subst c
          rw [if_pos (Int.le_refl _)] at hn3
          conv => whnf
          refine br (fun q => ?_) (fun q => ?_)
          rotate_left
          · exfalso; have := of_decide_eq_false q; omega
          cases b with
          | true =>
            rw [if_pos ⟨rfl, rfl⟩] at hn1
            rw [if_neg (fun h => by cases h.2)] at hn2
            conv => whnf
            refine ⟨⟨by decide +kernel, by kernel_rfl⟩, ?_⟩
            conv => whnf
            refine ⟨⟨by first | omega | (simp only; omega), _, gt', ?_⟩⟩
            conv => whnf
            refine br (fun q => ?_) (fun q => ?_)
            rotate_left
            · exfalso; simp at q
            conv => whnf
            refine ⟨⟨by first | omega | (simp only; omega), _, ge', ?_⟩⟩
            conv => whnf
            refine ⟨⟨by decide +kernel, by kernel_rfl⟩, ?_⟩
            conv => whnf
            refine ⟨⟨by first | omega | (simp only; omega), _, gt', ?_⟩⟩
            conv => whnf
            refine br (fun q => ?_) (fun q => ?_)
            rotate_left
            · exfalso; simp at q
            conv => whnf
            refine ⟨⟨by first | omega | (simp only; omega), _, ge', ?_⟩⟩
            conv => whnf
            refine ⟨⟨i + 1, hlt2⟩, ?_, by show ps.length - (i + 1) < ps.length - i; omega⟩
            refine leF ?_
            conv => whnf
            rw [hn1, hn2, hn3, Int.add_zero, w1, w2]
            repeat (first | exact trivial | refine And.intro (by first | with_reducible rfl | (rw [next (by first | omega | (simp only; omega))]) | rfl) ?_)
          | false =>
            rw [if_neg (fun h => by cases h.2)] at hn1
            rw [if_pos ⟨rfl, rfl⟩] at hn2
            conv => whnf
            refine ⟨⟨by decide +kernel, by kernel_rfl⟩, ?_⟩
            conv => whnf
            refine ⟨⟨by first | omega | (simp only; omega), _, gt', ?_⟩⟩
            conv => whnf
            refine br (fun q => ?_) (fun q => ?_)
            rotate_left
            · exfalso; simp at q
            conv => whnf
            refine ⟨⟨by first | omega | (simp only; omega), _, ge', ?_⟩⟩
            conv => whnf
            refine ⟨⟨by decide +kernel, by kernel_rfl⟩, ?_⟩
            conv => whnf
            refine ⟨⟨by first | omega | (simp only; omega), _, gt', ?_⟩⟩
            conv => whnf
            refine br (fun q => ?_) (fun q => ?_)
            rotate_left
            · exfalso; simp at q
            conv => whnf
            refine ⟨⟨by first | omega | (simp only; omega), _, ge', ?_⟩⟩
            conv => whnf
            refine ⟨⟨i + 1, hlt2⟩, ?_, by show ps.length - (i + 1) < ps.length - i; omega⟩
            refine leF ?_
            conv => whnf
            rw [hn1, hn2, hn3, Int.add_zero, w1, w3]
            repeat (first | exact trivial | refine And.intro (by first | with_reducible rfl | (rw [next (by first | omega | (simp only; omega))]) | rfl) ?_)
        · rw [if_neg (by omega)] at hn1 hn2
          rw [if_pos (by omega)] at hn3
          conv => whnf
          refine br (fun q => ?_) (fun q => ?_)
          rotate_left
          · exfalso; have := of_decide_eq_false q; omega
          conv => whnf
          refine ⟨⟨by decide +kernel, by kernel_rfl⟩, ?_⟩
          conv => whnf
          refine ⟨⟨by first | omega | (simp only; omega), _, gt', ?_⟩⟩
          conv => whnf
          refine br (fun q => ?_) (fun q => ?_)
          · exfalso; simp at q; omega
          conv => whnf
          refine ⟨⟨by decide +kernel, by kernel_rfl⟩, ?_⟩
          conv => whnf
          refine ⟨⟨by first | omega | (simp only; omega), _, gt', ?_⟩⟩
          conv => whnf
          refine br (fun q => ?_) (fun q => ?_)
          · exfalso; simp at q; omega
          conv => whnf
          refine ⟨⟨i + 1, hlt2⟩, ?_, by show ps.length - (i + 1) < ps.length - i; omega⟩
          refine leF ?_
          conv => whnf
          rw [hn1, hn2, hn3, Int.add_zero, Int.add_zero, w1]
          repeat (first | exact trivial | refine And.intro (by first | with_reducible rfl | (rw [next (by first | omega | (simp only; omega))]) | rfl) ?_)
      · have hge : ps.length ≤ i := by have : ts.length ≤ i := by simpa using h
                                       omega
        rw [List.take_of_length_le hge]
        clear hle1 hle2 hle3 hb0 hb1 hb2 htl
        have hle1 := evC_le t ps
        have hle2 := lfC_le t ps
        rw [hrisk]
        have e1 : IntKind.i64.wrap (left - evC t ps) = left - evC t ps := wrap_small (by omega) (by omega)
        conv => whnf
        rw [e1]
        refine callA (rOf (left - evC t ps) left (by omega) (by omega) (by omega)) ?_
        rw [show nn (left - evC t ps) left = left - evC t ps from if_neg (by omega), show left.natAbs = left.toNat by omega]
        have hvp : VF (redF (left - evC t ps) left.toNat) := redF_valid (by omega) (okR_small (by omega) (by omega) (by omega))
        unfold stepGo at hgo
        generalize redF (left - evC t ps) left.toNat = p at hgo hvp
        generalize redE (left - evC t ps) left.toNat = e0
        have hmul := rMul s p hv hvp
        have hdpos : 0 < s.2 * p.2 := Int.mul_pos (by have := hv.1.1; omega) (by have := hvp.1.1; omega)
        have hval := redF_valid (n := s.1 * p.1) (d := (s.2 * p.2).toNat) (by omega)
        have hE : redE (s.1 * p.1) (s.2 * p.2).toNat = bif okR (s.1 * p.1) (s.2 * p.2).toNat then 0 else 14 := rfl
        have hleft3 : left - (evC t ps + lfC t ps) = tot ps (A.drop (k + 1)) := by omega
        generalize evC t ps = ev at *
        generalize lfC t ps = lf at *
        obtain ⟨p1, p2⟩ := p
        obtain ⟨s1, s2⟩ := s
        conv => whnf
        refine callA hmul ?_
        rw [hE]
        generalize redF ((s1, s2).1 * (p1, p2).1) ((s1, s2).2 * (p1, p2).2).toNat = r at *
        cases hok : okR ((s1, s2).1 * (p1, p2).1) ((s1, s2).2 * (p1, p2).2).toNat with
        | false =>
          rw [hok] at hgo
          have hgo : (([] : List St), (14 : Int)) = R := hgo
          subst hgo
          obtain ⟨r1, r2⟩ := r
          conv => whnf
          refine ⟨.inl ?_⟩
          conv => whnf
          exact ⟨rfl⟩
        | true =>
          rw [hok] at hgo
          have hgo : stepGo ps (List.drop (k + 1) A) (left - (ev + lf)) r (acc ++ [⟨t, left, ev, lf, r⟩]) = R := hgo
          have hval := hval hok
          obtain ⟨r1, r2⟩ := r
          conv => whnf
          refine ⟨⟨by decide +kernel, by kernel_rfl⟩, ?_⟩
          conv => whnf
          refine ⟨room_st acc _ (by omega), ?_⟩
          rw [show List.map encS acc ++ [D.agg [D.int .i64 t, D.int .i64 left, D.int .i64 ev, D.int .i64 lf, D.int .i64 (r1, r2).1, D.int .i64 (r1, r2).2]] = (acc ++ [(⟨t, left, ev, lf, (r1, r2)⟩ : St)]).map encS from by simp [encS]]
          conv => whnf
          refine ⟨⟨(k + 1, left - (ev + lf), (r1, r2), acc ++ [⟨t, left, ev, lf, (r1, r2)⟩]), hlt, hval, hgo, hleft3, by simp; omega⟩, ?_, by show A.length - (k + 1) < A.length - k; omega⟩
          refine leF ?_
          conv => whnf
          repeat (first | exact trivial | refine And.intro (by first | with_reducible rfl | (rw [next (by first | omega | (simp only; omega))]) | rfl) ?_)
    · have hge : A.length ≤ k := by simpa using h
      rw [List.drop_eq_nil_of_le hge] at hgo
      have hgo : (acc, (0 : Int)) = R := hgo
      subst hgo
      conv => whnf
      refine ⟨.inl ?_⟩
      conv => whnf
      exact ⟨rfl⟩
end Go.Proofs.YtnkjhialkaomfaaDoor.P
