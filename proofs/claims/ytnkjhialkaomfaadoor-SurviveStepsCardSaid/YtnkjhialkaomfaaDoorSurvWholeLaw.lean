/-
  SurviveWhole: the plain law and the law's walk.
-/
import Derived.Test.YtnkjhialkaomfaaDoorSurvTwiceLaw
namespace Go.Proofs.YtnkjhialkaomfaaDoor.P
open Go.Abs Go.Proofs
set_option maxRecDepth 10000

/-- Persons of whom none left. -/
def allTrue (ts : List Int) : PS := ts.map fun t => (t, true)
theorem lfC_all (t : Int) (ts : List Int) : lfC t (allTrue ts) = 0 := by
  unfold lfC allTrue
  rw [List.filter_eq_nil_iff.2]
  · rfl
  · intro p hp
    obtain ⟨x, _, rfl⟩ := List.mem_map.1 hp
    simp
theorem tm_all (ts : List Int) : tm (allTrue ts) = ts := by
  unfold tm allTrue
  rw [List.map_map]
  induction ts with
  | nil => rfl
  | cons t r ih => simp only [List.map_cons, ih, Function.comp]
/-- Those whose time is in an ascending list. -/
theorem tot_mem (l : List Int) (hl : l.Pairwise (· < ·)) : ∀ ps : PS, tot ps l = ((ps.filter fun p => decide (p.1 ∈ l)).length : Nat)
  | [] => tot_nil l
  | p :: ps => by
    rw [tot_cons p ps l hl, tot_mem l hl ps]
    by_cases h : p.1 ∈ l
    · rw [if_pos h, List.filter_cons_of_pos (by simpa using h), List.length_cons]; omega
    · rw [if_neg h, List.filter_cons_of_neg (by simpa using h)]; omega
def wl (ps : PS) (N : Nat) : List Int → List St
  | [] => []
  | t :: r => ⟨t, tot ps (t :: r), evC t ps, lfC t ps, redF (tot ps r) N⟩ :: wl ps N r
theorem frac_ratio {n : Int} {d : Nat} (h0 : 0 ≤ n) (hd : 0 < d) (hok : okR n d = true) : (redF n d).1 * d = n * (redF n d).2 ∧ 1 ≤ (redF n d).2 ∧ 0 ≤ (redF n d).1 := by
  have hv := redF_valid hd hok
  unfold redF at hv ⊢
  rw [hok] at hv ⊢
  simp only [cond_true] at hv ⊢
  have hg : 0 < Nat.gcd d n.natAbs := Nat.gcd_pos_of_pos_left _ hd
  have e1 := Nat.div_mul_cancel (Nat.gcd_dvd_left d n.natAbs)
  have e2 := Nat.div_mul_cancel (Nat.gcd_dvd_right d n.natAbs)
  generalize Nat.gcd d n.natAbs = g at *
  generalize n.natAbs / g = a at *
  generalize hb : d / g = b at *
  have hs : (a : Int) * n.sign = a := by
    rcases Int.lt_or_eq_of_le h0 with h | h
    · rw [Int.sign_eq_one_of_pos h, Int.mul_one]
    · subst h
      have : a = 0 := by
        rcases Nat.mul_eq_zero.1 (show a * g = 0 by simpa using e2) with h | h
        · exact h
        · omega
      rw [this]; rfl
  rw [hs]
  refine ⟨?_, hv.1.1, by omega⟩
  have : n = ((a * g : Nat) : Int) := by omega
  rw [this, ← e1]
  simp only [Int.natCast_mul]
  rw [Int.mul_comm (b : Int) g, ← Int.mul_assoc]
theorem wholeGo (ts : List Int) (N : Nat) (hN : 0 < N) (hN2 : N ≤ 1000) : ∀ (l : List Int) (acc : List St), tot (allTrue ts) l ≤ N → (∀ t ∈ l, 1 ≤ evC t (allTrue ts)) →
    stepGo (allTrue ts) l (tot (allTrue ts) l) (redF (tot (allTrue ts) l) N) acc = (acc ++ wl (allTrue ts) N l, 0)
  | [], acc, _, _ => by simp [stepGo, wl]
  | t :: r, acc, hle, hpos => by
    have h1 := hpos t (.head _)
    have h2 := tot_nonneg (allTrue ts) r
    have h3 := lfC_all t ts
    have h4 := tot_step (allTrue ts) t r
    have e1 : tot (allTrue ts) (t :: r) - evC t (allTrue ts) = tot (allTrue ts) r := by omega
    have e2 : tot (allTrue ts) (t :: r) - (evC t (allTrue ts) + lfC t (allTrue ts)) = tot (allTrue ts) r := by omega
    have ih := wholeGo ts N hN hN2 r (acc ++ [⟨t, tot (allTrue ts) (t :: r), evC t (allTrue ts), lfC t (allTrue ts), redF (tot (allTrue ts) r) N⟩]) (by omega) (fun x hx => hpos x (.tail _ hx))
    have hs := frac_ratio (n := tot (allTrue ts) (t :: r)) (d := N) (by omega) hN (okR_small (by omega) (by omega) (by omega))
    have hp := frac_ratio (n := tot (allTrue ts) r) (d := (tot (allTrue ts) (t :: r)).toNat) (by omega) (by omega) (okR_small (by omega) (by omega) (by omega))
    have hokN : okR (tot (allTrue ts) r) N = true := okR_small (by omega) (by omega) (by omega)
    unfold stepGo
    rw [e1, e2]
    generalize hS : redF (tot (allTrue ts) (t :: r)) N = s at *
    generalize hP : redF (tot (allTrue ts) r) (tot (allTrue ts) (t :: r)).toNat = p at *
    have hd : 0 < s.2 * p.2 := Int.mul_pos (by omega) (by omega)
    have hr := red_ratio (n := s.1 * p.1) (d := (s.2 * p.2).toNat) (n' := tot (allTrue ts) r) (d' := N) (by omega) hN (by
      rw [show (((s.2 * p.2).toNat : Nat) : Int) = s.2 * p.2 by omega]
      have a1 := hs.1
      have a2 := hp.1
      rw [show (((tot (allTrue ts) (t :: r)).toNat : Nat) : Int) = tot (allTrue ts) (t :: r) by omega] at a2
      generalize tot (allTrue ts) (t :: r) = u at *
      generalize tot (allTrue ts) r = v at *
      have : s.1 * p.1 * N = (s.1 * N) * p.1 := by grind
      rw [this, a1]
      have : u * s.2 * p.1 = s.2 * (p.1 * u) := by grind
      rw [this, a2]
      grind)
    rw [hr.1, hr.2, hokN, cond_true, ih, List.append_assoc]
    rfl

theorem atF_wl (ps : PS) (N : Nat) (k : Int) : ∀ (l : List Int), l.Pairwise (· < ·) → ∀ out : Int × Int, (wl ps N l).foldl (fun out s => if s.time ≤ k then s.fr else out) out = if l.any (fun t => decide (t ≤ k)) then redF (tot ps (l.filter fun t => decide (k < t))) N else out
  | [], _, out => rfl
  | t :: r, h, out => by
    have h' := List.pairwise_cons.1 h
    have ih := atF_wl ps N k r h'.2
    simp only [wl, List.foldl_cons]
    by_cases q : t ≤ k
    · rw [if_pos q, ih, List.filter_cons_of_neg (by simp; omega)]
      simp only [List.any_cons, decide_eq_true q, Bool.true_or, if_true]
      split
      · rfl
      · rename_i hn
        rw [List.filter_eq_self.2]
        intro x hx
        have : ¬ x ≤ k := fun hxk => hn (List.any_eq_true.2 ⟨x, hx, decide_eq_true hxk⟩)
        simp; omega
    · have hn : r.any (fun t => decide (t ≤ k)) = false := by
        rw [List.any_eq_false]
        intro x hx
        have := h'.1 x hx
        simp; omega
      rw [if_neg q, ih, hn]
      simp [hn, q]

theorem whole_plain (ts : List Int) (k : Int) (h0 : ts ≠ []) (hl : ts.length ≤ 1000) :
    (stepsF (allTrue ts)).2 = 0 ∧ atF (stepsF (allTrue ts)).1 k = redF ((ts.filter fun t => decide (k < t)).length : Nat) ts.length := by
  have hlen : (allTrue ts).length = ts.length := by simp [allTrue]
  have hpos : 0 < ts.length := List.length_pos_iff.2 h0
  have htm : tm (allTrue ts) = ts := tm_all ts
  obtain ⟨hs1, hs2⟩ := setI_spec ts
  have htot := tot_set (allTrue ts)
  rw [htm, hlen] at htot
  have hgo : stepsF (allTrue ts) = (wl (allTrue ts) ts.length (setI ts), 0) := by
    have := wholeGo ts ts.length hpos hl (setI ts) [] (by omega) (fun t ht => by
      have := cnt_pos t (allTrue ts) (by rw [htm]; exact (hs2 t).1 ht)
      rw [lfC_all] at this; omega)
    rw [htot, red_self _ hpos, List.nil_append] at this
    unfold stepsF
    rw [htm, hlen]; exact this
  refine ⟨by rw [hgo], ?_⟩
  rw [hgo]
  unfold atF
  have hcnt : tot (allTrue ts) ((setI ts).filter fun t => decide (k < t)) = ((ts.filter fun t => decide (k < t)).length : Nat) := by
    rw [tot_mem _ (hs1.filter _)]
    congr 1
    unfold allTrue
    rw [List.filter_map, List.length_map]
    congr 1
    apply List.filter_congr
    intro x hx
    simp [hs2, hx]
  rw [atF_wl _ _ k _ hs1, hcnt]
  split
  · rfl
  · rename_i hn
    have : (setI ts).filter (fun t => decide (k < t)) = setI ts := by
      rw [List.filter_eq_self]
      intro x hx
      have : ¬ x ≤ k := fun hxk => hn (List.any_eq_true.2 ⟨x, hx, decide_eq_true hxk⟩)
      simp; omega
    rw [this, htot] at hcnt
    rw [← hcnt, red_self _ hpos]

theorem stepsF_nil : stepsF [] = ([], 0) := by
  unfold stepsF
  have h := setI_len (tm [])
  have : setI (tm []) = [] := List.eq_nil_of_length_eq_zero (by simpa [tm] using h)
  rw [this]; rfl
theorem set_true (i n : Nat) (h : i < n) : ((List.replicate i true ++ List.replicate (n - i) false).map D.bool).set i (D.bool true) = (List.replicate (i + 1) true ++ List.replicate (n - (i + 1)) false).map D.bool := by
  rw [← List.map_set, List.set_append, if_neg (by simp), List.length_replicate, Nat.sub_self, show n - i = (n - (i + 1)) + 1 by omega, List.replicate_succ, List.set_cons_zero, List.replicate_succ', List.append_assoc]
  rfl
theorem es_all (ts : List Int) : es (allTrue ts) = List.replicate ts.length true := by
  unfold es allTrue
  rw [List.map_map]
  induction ts with
  | nil => rfl
  | cons t r ih => simp [List.replicate_succ, ih]

set_option maxHeartbeats 4000000 in
theorem wholeLaw (hS : SortC) (hC : CompactC) (codes : List Int) (time : Int) (hc : ∀ x ∈ codes, 0 ≤ x ∧ x ≤ 255) : ACall Tryd.prog 3 [.d (bytesD codes), .d (.int .i64 time)] (.d (.bool true)) := by
  refine acall Tryd.func3 (by kernel_rfl) ?_
  conv => whnf
  refine callA (timesL codes 40 hc (by omega)) ?_
  have hb : ∀ t ∈ tm (pers codes 40), 0 ≤ t ∧ t ≤ 15 := fun t ht => by
    obtain ⟨p, hp, rfl⟩ := List.mem_map.1 ht
    exact pers_bounds codes 40 p hp
  have hl : (tm (pers codes 40)).length ≤ 40 := by have := pers_len codes 40; simpa [tm] using this
  generalize tm (pers codes 40) = ts at hb hl
  generalize es (pers codes 40) = ev0
  have htm : tm (allTrue ts) = ts := tm_all ts
  have hst := steps_ hS hC (allTrue ts) (by simp [allTrue]; omega) (fun p hp => by
    obtain ⟨t, ht, rfl⟩ := List.mem_map.1 hp
    have := hb t ht
    simp only; omega)
  rw [htm, es_all] at hst
  conv => whnf
  refine ⟨⟨[(2, 1), (3, 1)], ?_⟩⟩
  conv => whnf
  refine ⟨⟨by simp, by simp, by simp only [List.length_map]; unfold maxLen; omega, by rw [bytes_bool]; simp only [List.length_map]; omega⟩, ?_⟩
  have hrep : List.replicate (((ts.map (D.int .i64)).length : Nat) : Int).toNat (D.bool false) = (List.replicate 0 true ++ List.replicate (ts.length - 0) false).map D.bool := by simp
  rw [hrep]
  conv => whnf
  refine loop {i : Nat // i ≤ ts.length} (fun i => mkS 85 [(1, .d (.int .i64 time)), (5, .sl 2 1), (7, .sl 24 1), (26, .d (.int .i64 ts.length)), (27, .d (.int .i64 i.1))]
    [(2, .row 1 3 (ts.map (D.int .i64)), 1), (24, .row 1 4 ((List.replicate i.1 true ++ List.replicate (ts.length - i.1) false).map D.bool), 1)]) (fun i => ts.length - i.1) ⟨0, by omega⟩ ?_ fun i => ?_
  · refine leF ?_
    conv => whnf
    rw [show ((List.replicate 0 true ++ List.replicate (ts.length - 0) false).map D.bool).length = ts.length from by simp]
    repeat (first | exact trivial | refine And.intro (by first | with_reducible rfl | (rw [next (by first | omega | (simp only; omega))]) | rfl) ?_)
  obtain ⟨i, hi⟩ := i
  conv => whnf
  refine br (fun h => ?_) (fun h => ?_)
  · have hlt : i < ts.length := by simpa using h
    conv => whnf
    refine ⟨⟨by first | omega | (simp only; omega), by simp; omega⟩, ?_⟩
    conv => whnf
    refine ⟨⟨by first | omega | (simp only; omega), D.bool false, by
      show ((List.replicate i true ++ List.replicate (ts.length - i) false).map D.bool)[((i : Nat) : Int).toNat]? = _
      rw [List.getElem?_map, Int.toNat_natCast, List.getElem?_append_right (by simp), List.length_replicate, Nat.sub_self, List.getElem?_replicate, if_pos (by omega)]; rfl, ?_⟩⟩
    rw [show (((i : Nat) : Int)).toNat = i from rfl, set_true i ts.length hlt]
    conv => whnf
    refine ⟨⟨i + 1, hlt⟩, ?_, by show ts.length - (i + 1) < ts.length - i; omega⟩
    refine leF ?_
    conv => whnf
    repeat (first | exact trivial | refine And.intro (by first | with_reducible rfl | (rw [next (by first | omega | (simp only; omega))]) | rfl) ?_)
  · have hge : i = ts.length := by have : ts.length ≤ i := by simpa using h
                                   omega
    subst hge
    rw [show List.replicate ts.length true ++ List.replicate (ts.length - ts.length) false = List.replicate ts.length true from by simp]
    conv => whnf
    refine callA hst ?_
    have hR : (stepsF (allTrue ts)).2 = 0 ∧ (ts = [] → (stepsF (allTrue ts)).1 = []) ∧ ∀ k, ts ≠ [] → atF (stepsF (allTrue ts)).1 k = redF ((ts.filter fun t => decide (k < t)).length : Nat) ts.length := by
      by_cases h0 : ts = []
      · subst h0
        have h00 : stepsF (allTrue []) = ([], 0) := stepsF_nil
        rw [h00]
        exact ⟨rfl, fun _ => rfl, fun k h => absurd rfl h⟩
      · exact ⟨(whole_plain ts 0 h0 (by omega)).1, fun h => absurd h h0, fun k _ => (whole_plain ts k h0 (by omega)).2⟩
    have hRl : (stepsF (allTrue ts)).1.length ≤ 1000000 := by
      have := (stepsF_bd (allTrue ts)).2
      have : (allTrue ts).length = ts.length := by simp [allTrue]
      omega
    generalize stepsF (allTrue ts) = R at hR hRl
    obtain ⟨l, e⟩ := R
    obtain ⟨he, hnil, hat⟩ := hR
    simp only at he hnil hat hRl
    subst he
    conv => whnf
    refine callA (mod_ time 20 (by omega) (by omega)) ?_
    have hm : 0 ≤ time % 20 ∧ time % 20 < 20 := by omega
    generalize time % 20 = k0 at hm
    have e1 : IntKind.i64.wrap (k0 - 2) = k0 - 2 := wrap_small (by omega) (by omega)
    conv => whnf
    rw [e1]
    generalize k0 - 2 = k
    refine loop {i : Nat // i ≤ ts.length} (fun i => mkS 85 [(5, .d (ints ts)), (9, .d (sts l)), (11, .d (.int .i64 k)), (12, .d (.int .i64 (((ts.take i.1).filter fun t => decide (k < t)).length : Nat))), (45, .d (ints ts)), (46, .d (.int .i64 ts.length)), (47, .d (.int .i64 i.1))] []) (fun i => ts.length - i.1) ⟨0, by omega⟩ ?_ fun i => ?_
    · refine leF ?_
      conv => whnf
      rw [show (List.map (D.int .i64) ts).length = ts.length from by simp]
      repeat (first | exact trivial | refine And.intro (by first | with_reducible rfl | (rw [next (by first | omega | (simp only; omega))]) | rfl) ?_)
    obtain ⟨i, hi⟩ := i
    conv => whnf
    refine br (fun h => ?_) (fun h => ?_)
    · have hlt : i < ts.length := by simpa using h
      have hcl := List.length_filter_le (fun t => decide (k < t)) (ts.take i)
      have hcl2 : (ts.take i).length ≤ 40 := by simp; omega
      have hsn : (ts.take (i + 1)).filter (fun t => decide (k < t)) = (ts.take i).filter (fun t => decide (k < t)) ++ [ts[i]].filter (fun t => decide (k < t)) := by rw [take_snoc ts i hlt, List.filter_append]
      conv => whnf
      refine ⟨⟨by first | omega | (simp only; omega), _, ints_get ts i hlt, ?_⟩⟩
      generalize ts[i] = x at hsn
      conv => whnf
      refine br (fun q => ?_) (fun q => ?_)
      · have q : x > k := of_decide_eq_true q
        have hn : ((ts.take (i + 1)).filter (fun t => decide (k < t))).length = ((ts.take i).filter (fun t => decide (k < t))).length + 1 := by rw [hsn, List.length_append, List.filter_cons_of_pos (by simp; omega)]; rfl
        conv => whnf
        refine ⟨⟨i + 1, hlt⟩, ?_, by show ts.length - (i + 1) < ts.length - i; omega⟩
        refine leF ?_
        conv => whnf
        rw [hn]
        repeat (first | exact trivial | refine And.intro (by first | with_reducible rfl | (rw [next (by first | omega | (simp only; omega))]) | rfl) ?_)
      · have q : ¬ x > k := of_decide_eq_false q
        have hn : ((ts.take (i + 1)).filter (fun t => decide (k < t))).length = ((ts.take i).filter (fun t => decide (k < t))).length := by rw [hsn, List.length_append, List.filter_cons_of_neg (by simp; omega)]; rfl
        conv => whnf
        refine ⟨⟨i + 1, hlt⟩, ?_, by show ts.length - (i + 1) < ts.length - i; omega⟩
        refine leF ?_
        conv => whnf
        rw [hn]
        repeat (first | exact trivial | refine And.intro (by first | with_reducible rfl | (rw [next (by first | omega | (simp only; omega))]) | rfl) ?_)
    · have hge : ts.length ≤ i := by simpa using h
      have hat' := hat k
      rw [List.take_of_length_le hge]
      have hcl := List.length_filter_le (fun t => decide (k < t)) ts
      generalize (ts.filter fun t => decide (k < t)).length = later at hcl hat'
      conv => whnf
      refine br (fun q => ?_) (fun q => ?_)
      · have q : ts = [] := by
          cases ts with
          | nil => rfl
          | cons t r => simp at q; omega
        obtain rfl := hnil q
        conv => whnf
        refine callA (awake20 hS hC) ?_
        conv => whnf
        exact ⟨rfl⟩
      · have q : ts ≠ [] := by rintro rfl; simp at q
        have hpos : 0 < ts.length := List.length_pos_iff.2 q
        have hof := of_ (later : Int) (ts.length : Int) (by omega) (by omega) (by omega)
        rw [show nn (later : Int) (ts.length : Int) = later from if_neg (by omega), Int.natAbs_natCast, (redE_eq _ _).2 (okR_small (by omega) (by omega) (by omega)), ← hat' q] at hof
        conv => whnf
        rw [show (List.map (D.int .i64) ts).length = ts.length from by simp]
        refine callA hof ?_
        have hatc := at_ l k hRl
        generalize atF l k = r at hatc
        obtain ⟨r1, r2⟩ := r
        conv => whnf
        refine ⟨⟨by decide +kernel, by kernel_rfl⟩, ?_⟩
        conv => whnf
        refine callA hatc ?_
        conv => whnf
        refine ⟨⟨by kernel_rfl, by kernel_rfl⟩, ?_⟩
        conv => whnf
        refine ⟨by kernel_rfl, ?_⟩
        conv => whnf
        have hrr : (r1 == r1 && (r2 == r2 && true)) = true := by simp
        rw [hrr]
        conv => whnf
        refine callA (awake20 hS hC) ?_
        conv => whnf
        exact ⟨rfl⟩
end Go.Proofs.YtnkjhialkaomfaaDoor.P
