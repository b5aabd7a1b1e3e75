/-
  survive.Steps, by the abstract machine.
-/
import Derived.Test.YtnkjhialkaomfaaDoorInts
import Derived.Test.YtnkjhialkaomfaaDoorFrac8
namespace Go.Proofs.YtnkjhialkaomfaaDoor.P
open Go.Abs Go.Proofs
set_option maxRecDepth 10000

structure St where
  time : Int
  risk : Int
  ev : Int
  lf : Int
  fr : Int × Int
def encS (s : St) : D := .agg [.int .i64 s.time, .int .i64 s.risk, .int .i64 s.ev, .int .i64 s.lf, .int .i64 s.fr.1, .int .i64 s.fr.2]
def sts (l : List St) : D := .list 6 (l.map encS)
def bl (es : List Bool) : D := .list 1 (es.map D.bool)
abbrev PS := List (Int × Bool)
def evC (t : Int) (ps : PS) : Int := ((ps.filter fun p => p.1 == t && p.2).length : Nat)
def lfC (t : Int) (ps : PS) : Int := ((ps.filter fun p => p.1 == t && !p.2).length : Nat)
def stepGo (ps : PS) : List Int → Int → Int × Int → List St → List St × Int
  | [], _, _, acc => (acc, 0)
  | t :: r, left, s, acc =>
    bif okR (s.1 * (redF (left - evC t ps) left.toNat).1) (s.2 * (redF (left - evC t ps) left.toNat).2).toNat then
      stepGo ps r (left - (evC t ps + lfC t ps)) (redF (s.1 * (redF (left - evC t ps) left.toNat).1) (s.2 * (redF (left - evC t ps) left.toNat).2).toNat)
        (acc ++ [⟨t, left, evC t ps, lfC t ps, redF (s.1 * (redF (left - evC t ps) left.toNat).1) (s.2 * (redF (left - evC t ps) left.toNat).2).toNat⟩])
    else ([], 14)
def tm (ps : PS) : List Int := ps.map fun p => p.1
def es (ps : PS) : List Bool := ps.map fun p => p.2
def stepsF (ps : PS) : List St × Int := stepGo ps (setI (tm ps)) ps.length (1, 1) []
def tot (ps : PS) (l : List Int) : Int := (l.map fun t => evC t ps + lfC t ps).sum

theorem okR_small {n : Int} {d : Nat} (h0 : 0 ≤ n) (h1 : n ≤ 1152921504606846976) (h2 : d ≤ 1152921504606846976) : okR n d = true := by
  unfold okR
  have a1 := Nat.div_le_self n.natAbs (Nat.gcd d n.natAbs)
  have a2 := Nat.div_le_self d (Nat.gcd d n.natAbs)
  rw [Bool.and_eq_true]
  exact ⟨decide_eq_true (by omega), decide_eq_true (by omega)⟩
theorem evC_nonneg (t : Int) (ps : PS) : 0 ≤ evC t ps := Int.natCast_nonneg _
theorem lfC_nonneg (t : Int) (ps : PS) : 0 ≤ lfC t ps := Int.natCast_nonneg _
theorem cnt_cons (t : Int) (p : Int × Bool) (ps : PS) : evC t (p :: ps) + lfC t (p :: ps) = (if p.1 = t then 1 else 0) + (evC t ps + lfC t ps) := by
  obtain ⟨x, b⟩ := p
  unfold evC lfC
  by_cases h : x = t
  · cases b <;> simp [h] <;> omega
  · simp [h]
theorem tot_nil (l : List Int) : tot [] l = 0 := by
  unfold tot
  induction l with
  | nil => rfl
  | cons t r ih => simp only [List.map_cons, List.sum_cons, ih]; rfl
theorem tot_cons (p : Int × Bool) (ps : PS) : ∀ (l : List Int), l.Pairwise (· < ·) → tot (p :: ps) l = (if p.1 ∈ l then 1 else 0) + tot ps l
  | [], _ => by simp [tot]
  | t :: r, h => by
    have ih := tot_cons p ps r (List.pairwise_cons.1 h).2
    unfold tot at ih ⊢
    simp only [List.map_cons, List.sum_cons]
    rw [ih, cnt_cons]
    by_cases e : p.1 = t
    · have hm : p.1 ∉ r := fun hm => by have := (List.pairwise_cons.1 h).1 _ hm; omega
      rw [if_pos e, if_neg hm, if_pos (by simp [e])]; omega
    · by_cases hm : p.1 ∈ r
      · rw [if_neg e, if_pos hm, if_pos (List.mem_cons_of_mem _ hm)]; omega
      · rw [if_neg e, if_neg hm, if_neg (by simp [e, hm])]; omega
theorem tot_all (l : List Int) (hl : l.Pairwise (· < ·)) : ∀ ps : PS, (∀ p ∈ ps, p.1 ∈ l) → tot ps l = ps.length
  | [], _ => tot_nil l
  | p :: ps, h => by
    rw [tot_cons p ps l hl, tot_all l hl ps (fun q hq => h q (.tail _ hq)), if_pos (h p (.head _)), List.length_cons]
    omega
theorem cnt_pos (t : Int) : ∀ ps : PS, t ∈ tm ps → 1 ≤ evC t ps + lfC t ps
  | [], h => by cases h
  | p :: ps, h => by
    rw [cnt_cons]
    have := evC_nonneg t ps
    have := lfC_nonneg t ps
    rcases List.mem_cons.1 h with h | h
    · rw [if_pos h.symm]; omega
    · have := cnt_pos t ps h
      split <;> omega
theorem evC_snoc (t : Int) (ps : PS) (p : Int × Bool) : evC t (ps ++ [p]) = evC t ps + (if p.1 = t ∧ p.2 = true then 1 else 0) := by
  unfold evC
  rw [List.filter_append, List.length_append]
  obtain ⟨x, b⟩ := p
  by_cases h : x = t <;> cases b <;> simp [h]
theorem lfC_snoc (t : Int) (ps : PS) (p : Int × Bool) : lfC t (ps ++ [p]) = lfC t ps + (if p.1 = t ∧ p.2 = false then 1 else 0) := by
  unfold lfC
  rw [List.filter_append, List.length_append]
  obtain ⟨x, b⟩ := p
  by_cases h : x = t <;> cases b <;> simp [h]
theorem evC_le (t : Int) (ps : PS) : evC t ps ≤ ps.length := by unfold evC; have := List.length_filter_le (fun p : Int × Bool => p.1 == t && p.2) ps; omega
theorem lfC_le (t : Int) (ps : PS) : lfC t ps ≤ ps.length := by unfold lfC; have := List.length_filter_le (fun p : Int × Bool => p.1 == t && !p.2) ps; omega

def lrgT (v : Int) : Bool := bif decide (v < 0) then true else decide (v > 1000000)
theorem steps1 (v : Int) : ACall Tryd.prog 21 [.d (.int .i64 v)] (.d (.bool (lrgT v))) := by
  refine acall Tryd.func21 (by kernel_rfl) ?_
  conv => whnf
  exact ⟨by rfl⟩
theorem bytes_st : bytesT Tryd.prog 41 = 48 := by kernel_rfl
theorem size_st : sizeT Tryd.prog 41 = 6 := by kernel_rfl
theorem room_st (B : List St) (y : D) (h : B.length ≤ 1000000) : (fun n : Nat => n + [y].length ≤ maxLen ∧ (n + [y].length) * bytesT Tryd.prog 41 ≤ 140737488355328 ∧ ([y] = [] ∨ 0 + 1 + 1 + 1 + 1 + 1 + 1 = sizeT Tryd.prog 41)) (B.map encS).length := by
  rw [bytes_st, size_st]
  simp only [List.length_map, List.length_cons, List.length_nil]
  exact ⟨by unfold maxLen; omega, by omega, .inr (by trivial)⟩
theorem snoc_st (B : List St) (t l e f : Int) (r : Int × Int) : B.map encS ++ [D.agg [.int .i64 t, .int .i64 l, .int .i64 e, .int .i64 f, .int .i64 r.1, .int .i64 r.2]] = (B ++ [(⟨t, l, e, f, r⟩ : St)]).map encS := by simp [encS]

set_option maxHeartbeats 4000000 in
theorem steps_ (hS : SortC) (hC : CompactC) (ps : PS) (hn : ps.length ≤ 200) (hr : ∀ p ∈ ps, 0 ≤ p.1 ∧ p.1 ≤ 1000000) :
    ACall Tryd.prog 9 [.d (ints (tm ps)), .d (bl (es ps))] (.tup [.d (sts (stepsF ps).1), .d (.int .i64 (stepsF ps).2)]) := by
  refine acall Tryd.func9 (by kernel_rfl) ?_
  conv => whnf
  refine br (fun h => ?_) (fun _ => ?_)
  · simp [tm, es] at h
  conv => whnf
  refine br (fun h => ?_) (fun _ => ?_)
  · simp [tm] at h; omega
  have hlen : (tm ps).length = ps.length := by simp [tm]
  have hlenE : (es ps).length = ps.length := by simp [es]
  conv => whnf
  refine callA (contains _ lrgT (tm ps) (by omega) fun x _ => steps1 x) ?_
  rw [show (tm ps).any lrgT = false from by
    rw [List.any_eq_false]
    intro x hx
    obtain ⟨p, hp, rfl⟩ := List.mem_map.1 hx
    have := hr p hp
    unfold lrgT
    simp [show ¬ p.1 < 0 by omega, show ¬ p.1 > 1000000 by omega]]
  conv => whnf
  refine callA (clone (tm ps) (by omega)) ?_
  conv => whnf
  refine callM (hS (tm ps) (by omega)) ?_
  conv => whnf
  refine callM (hC (sortI (tm ps)) (by rw [length_sortI]; omega)) ?_
  rw [show Go.Lib.compact (sortI (tm ps)) = setI (tm ps) from rfl]
  obtain ⟨hs1, hs2⟩ := setI_spec (tm ps)
  have hsl := setI_len (tm ps)
  have htot : tot ps (setI (tm ps)) = ps.length := tot_all _ hs1 ps fun p hp => (hs2 _).2 (List.mem_map_of_mem (f := fun p : Int × Bool => p.1) hp)
  generalize hR : stepsF ps = R
  have hR2 : stepGo ps (setI (tm ps)) ps.length (1, 1) [] = R := hR
  have hmem : ∀ t ∈ setI (tm ps), 1 ≤ evC t ps + lfC t ps := fun t ht => cnt_pos t ps ((hs2 t).1 ht)
  generalize setI (tm ps) = D0 at *
  clear hR hs1 hs2
  have gt : ∀ i (hi : i < ps.length), ((tm ps).map (D.int .i64))[((i : Nat) : Int).toNat]? = some (D.int .i64 ps[i].1) := fun i hi => by simp [tm, hi]
  have ge : ∀ i (hi : i < ps.length), ((es ps).map D.bool)[((i : Nat) : Int).toNat]? = some (D.bool ps[i].2) := fun i hi => by simp [es, hi]
  generalize hts : tm ps = ts at *
  generalize hes : es ps = evs at *
  conv => whnf
  refine loop {s : Nat × Int × (Int × Int) × List St // s.1 ≤ D0.length ∧ VF s.2.2.1 ∧ stepGo ps (D0.drop s.1) s.2.1 s.2.2.1 s.2.2.2 = R ∧ (s.2.1 = tot ps (D0.drop s.1) ∧ s.2.1 ≤ 200) ∧ s.2.2.2.length ≤ s.1}
    (fun s => mkS 108 [(0, .d (ints ts)), (1, .d (bl evs)), (7, .sl 7 1), (8, .d (.int .i64 s.1.2.1)), (9, .ptr 9 1 0), (40, .d (ints D0)), (41, .d (.int .i64 D0.length)), (42, .d (.int .i64 s.1.1))]
      [(7, .row 6 41 (s.1.2.2.2.map encS), 1), (9, .var [.d (.int .i64 s.1.2.2.1.1), .d (.int .i64 s.1.2.2.1.2)], 1)]) (fun s => D0.length - s.1.1) ⟨(0, ps.length, (1, 1), []), by simp, VF_one, hR2, ⟨htot.symm, by simp only; omega⟩, by simp⟩ ?_ fun s => ?_
  · refine leF ?_
    conv => whnf
    rw [show (List.map (D.int .i64) D0).length = D0.length from by simp, show (List.map (D.int .i64) ts).length = ps.length from by simp; exact hlen]
    repeat (first | exact trivial | refine And.intro (by first | with_reducible rfl | (rw [next (by first | omega | (simp only; omega))]) | rfl) ?_)
  obtain ⟨⟨k, left, s, acc⟩, hk, hv, hgo, ⟨hleft, hl200⟩, hacc⟩ := s
  simp only at hk hv hgo hleft hl200 hacc
  conv => whnf
  refine br (fun h => ?_) (fun h => ?_)
  · have hlt : k < D0.length := by simpa using h
    have hm1 := hmem D0[k] (List.getElem_mem hlt)
    rw [List.drop_eq_getElem_cons hlt] at hgo hleft
    conv => whnf
    refine ⟨⟨by first | omega | (simp only; omega), _, ints_get D0 k hlt, ?_⟩⟩
    generalize D0[k] = t at *
    have hev := evC_nonneg t ps
    have hlf := lfC_nonneg t ps
    have hrest : 0 ≤ tot ps (D0.drop (k + 1)) := by
      unfold tot
      have : ∀ l : List Int, 0 ≤ (l.map fun t => evC t ps + lfC t ps).sum := by
        intro l
        induction l with
        | nil => simp
        | cons x r ih => have := evC_nonneg x ps; have := lfC_nonneg x ps; simp only [List.map_cons, List.sum_cons]; omega
      exact this _
    have hleft2 : left = evC t ps + lfC t ps + tot ps (D0.drop (k + 1)) := by rw [hleft]; rfl
    conv => whnf
    refine loop {i : Nat // i ≤ ps.length} (fun i => mkS 108 [(0, .d (ints ts)), (1, .d (bl evs)), (7, .sl 7 1), (8, .d (.int .i64 left)), (9, .ptr 9 1 0), (11, .d (.int .i64 t)), (12, .ptr 12 1 0), (40, .d (ints D0)), (41, .d (.int .i64 D0.length)), (42, .d (.int .i64 k)), (49, .d (ints ts)), (50, .d (.int .i64 ps.length)), (51, .d (.int .i64 i.1))]
      [(7, .row 6 41 (acc.map encS), 1), (9, .var [.d (.int .i64 s.1), .d (.int .i64 s.2)], 1), (12, .var [.d (.int .i64 t), .d (.int .i64 left), .d (.int .i64 (evC t (ps.take i.1))), .d (.int .i64 (lfC t (ps.take i.1))), .d (.int .i64 0), .d (.int .i64 0)], 1)]) (fun i => ps.length - i.1) ⟨0, by omega⟩ ?_ fun i => ?_
    · refine leF ?_
      conv => whnf
      rw [show (List.map (D.int .i64) ts).length = ps.length from by simp; exact hlen, show evC t (List.take 0 ps) = 0 from rfl, show lfC t (List.take 0 ps) = 0 from rfl]
      repeat (first | exact trivial | refine And.intro (by first | with_reducible rfl | (rw [next (by first | omega | (simp only; omega))]) | rfl) ?_)
    obtain ⟨i, hi⟩ := i
    have hle1 := evC_le t (ps.take i)
    have hle2 := lfC_le t (ps.take i)
    have htl : (ps.take i).length ≤ 200 := by simp; omega
    conv => whnf
    refine br (fun h => ?_) (fun h => ?_)
    · have hlt2 : i < ps.length := by simpa using h
      have hn1 := evC_snoc t (ps.take i) ps[i]
      have hn2 := lfC_snoc t (ps.take i) ps[i]
      rw [← take_snoc ps i hlt2] at hn1 hn2
      have hb0 := evC_nonneg t (ps.take i)
      have hb1 := lfC_nonneg t (ps.take i)
      have gt' := gt i hlt2
      have ge' := ge i hlt2
      conv => whnf
      refine ⟨⟨by first | omega | (simp only; omega), _, gt', ?_⟩⟩
      generalize ps[i] = p at hn1 hn2 ge'
      obtain ⟨x, b⟩ := p
      simp only at hn1 hn2 ge'
      conv => whnf
      refine br (fun q => ?_) (fun q => ?_)
      · have q : x ≠ t := by simpa using q
        rw [if_neg (fun h => q h.1)] at hn1 hn2
        conv => whnf
        refine ⟨⟨i + 1, hlt2⟩, ?_, by show ps.length - (i + 1) < ps.length - i; omega⟩
        refine leF ?_
        conv => whnf
        rw [hn1, hn2, Int.add_zero, Int.add_zero]
        repeat (first | exact trivial | refine And.intro (by first | with_reducible rfl | (rw [next (by first | omega | (simp only; omega))]) | rfl) ?_)
      · have qe : x = t := by simpa using q
        conv => whnf
        refine ⟨⟨by first | omega | (simp only; omega), _, ge', ?_⟩⟩
        cases b with
        | true =>
          rw [if_pos ⟨qe, rfl⟩] at hn1
          rw [if_neg (fun h => by cases h.2)] at hn2
          conv => whnf
          refine ⟨⟨i + 1, hlt2⟩, ?_, by show ps.length - (i + 1) < ps.length - i; omega⟩
          refine leF ?_
          conv => whnf
          rw [hn1, hn2, Int.add_zero, wrap_small (n := evC t (List.take i ps) + 1) (by omega) (by omega)]
          repeat (first | exact trivial | refine And.intro (by first | with_reducible rfl | (rw [next (by first | omega | (simp only; omega))]) | rfl) ?_)
        | false =>
          rw [if_neg (fun h => by cases h.2)] at hn1
          rw [if_pos ⟨qe, rfl⟩] at hn2
          conv => whnf
          refine ⟨⟨i + 1, hlt2⟩, ?_, by show ps.length - (i + 1) < ps.length - i; omega⟩
          refine leF ?_
          conv => whnf
          rw [hn1, hn2, Int.add_zero, wrap_small (n := lfC t (List.take i ps) + 1) (by omega) (by omega)]
          repeat (first | exact trivial | refine And.intro (by first | with_reducible rfl | (rw [next (by first | omega | (simp only; omega))]) | rfl) ?_)
    · have hge : ps.length ≤ i := by simpa using h
      rw [List.take_of_length_le hge]
      clear hle1 hle2
      have hle1 := evC_le t ps
      have hle2 := lfC_le t ps
      have e1 : IntKind.i64.wrap (left - evC t ps) = left - evC t ps := wrap_small (by omega) (by omega)
      conv => whnf
      rw [e1]
      refine callA (of_ (left - evC t ps) left (by omega) (by omega) (by omega)) ?_
      rw [show nn (left - evC t ps) left = left - evC t ps from if_neg (by omega), show left.natAbs = left.toNat by omega]
      have hvp : VF (redF (left - evC t ps) left.toNat) := redF_valid (by omega) (okR_small (by omega) (by omega) (by omega))
      unfold stepGo at hgo
      generalize redF (left - evC t ps) left.toNat = p at hgo hvp
      generalize redE (left - evC t ps) left.toNat = e0
      have hmul := mul_ s p hv hvp
      have hdpos : 0 < s.2 * p.2 := Int.mul_pos (by have := hv.1.1; omega) (by have := hvp.1.1; omega)
      have hval := redF_valid (n := s.1 * p.1) (d := (s.2 * p.2).toNat) (by omega)
      have hE : redE (s.1 * p.1) (s.2 * p.2).toNat = bif okR (s.1 * p.1) (s.2 * p.2).toNat then 0 else 14 := rfl
      generalize evC t ps = ev at *
      generalize lfC t ps = lf at *
      obtain ⟨p1, p2⟩ := p
      obtain ⟨s1, s2⟩ := s
      conv => whnf
      refine callA hmul ?_
      rw [hE]
      generalize redF ((s1, s2).1 * (p1, p2).1) ((s1, s2).2 * (p1, p2).2).toNat = r at *
      cases hok : okR ((s1, s2).1 * (p1, p2).1) ((s1, s2).2 * (p1, p2).2).toNat with
      | false =>
        rw [hok] at hgo
        have hgo : (([] : List St), (14 : Int)) = R := hgo
        subst hgo
        obtain ⟨r1, r2⟩ := r
        conv => whnf
        refine ⟨.inl ?_⟩
        conv => whnf
        exact ⟨rfl⟩
      | true =>
        rw [hok] at hgo
        have hgo : stepGo ps (List.drop (k + 1) D0) (left - (ev + lf)) r (acc ++ [⟨t, left, ev, lf, r⟩]) = R := hgo
        have hval := hval hok
        have e2 : IntKind.i64.wrap (ev + lf) = ev + lf := wrap_small (by omega) (by omega)
        have e3 : IntKind.i64.wrap (left - (ev + lf)) = left - (ev + lf) := wrap_small (by omega) (by omega)
        obtain ⟨r1, r2⟩ := r
        conv => whnf
        refine ⟨⟨by decide +kernel, by kernel_rfl⟩, ?_⟩
        conv => whnf
        rw [e2, e3]
        refine ⟨room_st acc _ (by omega), ?_⟩
        rw [show List.map encS acc ++ [D.agg [D.int .i64 t, D.int .i64 left, D.int .i64 ev, D.int .i64 lf, D.int .i64 (r1, r2).1, D.int .i64 (r1, r2).2]] = (acc ++ [(⟨t, left, ev, lf, (r1, r2)⟩ : St)]).map encS from by simp [encS]]
        conv => whnf
        refine ⟨⟨(k + 1, left - (ev + lf), (r1, r2), acc ++ [⟨t, left, ev, lf, (r1, r2)⟩]), hlt, hval, hgo, ⟨by simp only; omega, by simp only; omega⟩, by simp; omega⟩, ?_, by show D0.length - (k + 1) < D0.length - k; omega⟩
        refine leF ?_
        conv => whnf
        repeat (first | exact trivial | refine And.intro (by first | with_reducible rfl | (rw [next (by first | omega | (simp only; omega))]) | rfl) ?_)
  · have hge : D0.length ≤ k := by simpa using h
    rw [List.drop_eq_nil_of_le hge] at hgo
    have hgo : (acc, (0 : Int)) = R := hgo
    subst hgo
    conv => whnf
    refine ⟨.inl ?_⟩
    conv => whnf
    exact ⟨rfl⟩
end Go.Proofs.YtnkjhialkaomfaaDoor.P
