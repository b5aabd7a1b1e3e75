/-
  SurviveOrder: the plain law, and the law's walk.
-/
import Derived.Test.YtnkjhialkaomfaaDoorSurvTwiceLaw
namespace Go.Proofs.YtnkjhialkaomfaaDoor.P
open Go.Abs Go.Proofs
set_option maxRecDepth 10000

def shiftP (ps : PS) : PS := ps.map fun p => (p.1 + 1, p.2)
theorem stepsF_rev (ps : PS) : stepsF ps.reverse = stepsF ps := by
  unfold stepsF
  rw [show setI (tm ps.reverse) = setI (tm ps) from set_ext fun x => by simp [tm], List.length_reverse]
  exact stepGo_congr _ _ _ _ fun t _ => by
    unfold evC lfC
    simp only [List.filter_reverse, List.length_reverse]
    exact ⟨trivial, trivial⟩
theorem stepsF_zero (qs : PS) (h : ∀ p ∈ qs, 1 ≤ p.1) : stepsF ((0, false) :: qs) = if (stepsF qs).2 = 0 then (⟨0, qs.length + 1, 0, 1, (1, 1)⟩ :: (stepsF qs).1, 0) else ([], 14) := by
  have hset : setI (tm ((0, false) :: qs)) = 0 :: setI (tm qs) := by
    obtain ⟨h1, h2⟩ := setI_spec (tm ((0, false) :: qs))
    obtain ⟨h3, h4⟩ := setI_spec (tm qs)
    refine asc_ext _ _ h1 (List.pairwise_cons.2 ⟨fun x hx => ?_, h3⟩) fun x => ?_
    · obtain ⟨p, hp, rfl⟩ := List.mem_map.1 ((h4 x).1 hx)
      have := h p hp
      omega
    · rw [h2, List.mem_cons, h4]
      simp [tm]
  have hev : evC 0 ((0, false) :: qs) = 0 := by
    unfold evC
    rw [List.filter_eq_nil_iff.2 fun p hp => ?_]
    · rfl
    · rcases List.mem_cons.1 hp with rfl | hp
      · simp
      · have := h p hp
        simp only [Bool.and_eq_true, beq_iff_eq]
        intro hh
        omega
  have hlf : lfC 0 ((0, false) :: qs) = 1 := by
    unfold lfC
    rw [List.filter_cons_of_pos (by rfl), List.filter_eq_nil_iff.2 fun p hp => ?_]
    · rfl
    · have := h p hp
      simp only [Bool.and_eq_true, beq_iff_eq]
      intro hh
      omega
  have hcg : ∀ t ∈ setI (tm qs), evC t ((0, false) :: qs) = evC t qs ∧ lfC t ((0, false) :: qs) = lfC t qs := by
    intro t ht
    obtain ⟨p, hp, rfl⟩ := List.mem_map.1 (((setI_spec (tm qs)).2 t).1 ht)
    have := h p hp
    unfold evC lfC
    have hne : ((0 : Int) == p.1) = false := by simp; omega
    rw [List.filter_cons_of_neg (by simp [hne]), List.filter_cons_of_neg (by simp [hne])]
    exact ⟨rfl, rfl⟩
  have e1 : redF ((((qs.length : Nat) : Int) + 1) - 0) ((((qs.length : Nat) : Int) + 1)).toNat = (1, 1) := by
    have := red_self (qs.length + 1) (by omega)
    rw [Int.sub_zero, show ((((qs.length : Nat) : Int) + 1)).toNat = qs.length + 1 by omega]
    exact_mod_cast this
  unfold stepsF
  rw [hset]
  rw [List.length_cons, show (((qs.length + 1 : Nat)) : Int) = ((qs.length : Nat) : Int) + 1 from by omega]
  rw [show stepGo ((0, false) :: qs) (0 :: setI (tm qs)) (((qs.length : Nat) : Int) + 1) (1, 1) [] = stepGo ((0, false) :: qs) (setI (tm qs)) ((((qs.length : Nat) : Int) + 1) - (0 + 1)) (1, 1) ([⟨0, qs.length + 1, 0, 1, (1, 1)⟩] ++ []) from by
    rw [stepGo, hev, hlf, e1]
    rfl]
  rw [stepGo_congr _ _ _ _ hcg, stepGo_pre, show (((qs.length : Nat) : Int) + 1) - (0 + 1) = ((qs.length : Nat) : Int) by omega]
  rfl

/-- Half shifted. -/
def half (ts : List Int) (m : Nat) : List Int := ts.take m ++ (ts.drop m).map (· + 1)
theorem half_len (ts : List Int) (m : Nat) : (half ts m).length = ts.length := by unfold half; rw [List.length_append, List.length_map, ← List.length_append, List.take_append_drop]
theorem half_get (ts : List Int) (k : Nat) (hk : k < ts.length) : (half ts (k + 1))[k]? = some ts[k] := by
  unfold half
  rw [List.getElem?_append_left (by simp; omega), List.getElem?_take_of_lt (by omega), List.getElem?_eq_getElem hk]
theorem half_set (ts : List Int) (k : Nat) (hk : k < ts.length) : (half ts (k + 1)).set k (ts[k] + 1) = half ts k := by
  unfold half
  rw [take_snoc ts k hk, List.drop_eq_getElem_cons hk, List.map_cons, List.append_assoc, List.set_append_right _ _ (by simp; omega)]
  simp [Nat.min_eq_left (Nat.le_of_lt hk)]

set_option maxHeartbeats 4000000 in
theorem orderLaw (hS : SortC) (hC : CompactC) (codes : List Int) (hc : ∀ x ∈ codes, 0 ≤ x ∧ x ≤ 255) : ACall Tryd.prog 4 [.d (bytesD codes)] (.d (.bool true)) := by
  refine acall Tryd.func4 (by kernel_rfl) ?_
  conv => whnf
  refine callA (timesL codes 25 hc (by omega)) ?_
  have hb := pers_bounds codes 25
  have hl := pers_len codes 25
  generalize pers codes 25 = ps at hb hl
  conv => whnf
  refine ⟨⟨[(0, 1), (1, 1)], ?_⟩⟩
  have hn : (tm ps).length = ps.length := by simp [tm]
  have hne : (es ps).length = ps.length := by simp [es]
  have htb : ∀ x ∈ tm ps, 0 ≤ x ∧ x ≤ 15 := by
    intro x hx
    obtain ⟨p, hp, rfl⟩ := List.mem_map.1 hx
    exact hb p hp
  have hT0 : half (tm ps) 0 = tm (shiftP ps) := by simp [half, tm, shiftP]
  have hB0 : (tm ps).map (· + 1) = tm (shiftP ps) := by simp [tm, shiftP]
  have hE0 : es (shiftP ps) = es ps := by simp [es, shiftP]
  have hTn : half (tm ps) ps.length = tm ps := by unfold half; rw [List.take_of_length_le (by omega), List.drop_eq_nil_of_le (by omega)]; simp
  conv => whnf
  refine loop {m : Nat // m ≤ ps.length} (fun m => mkS 113 [(3, .sl 0 1), (4, .d (bl (es ps))), (5, .sl 5 1), (6, .sl 6 1), (7, .d (.int .i64 (((m.1 : Nat) : Int) - 1)))]
    [(0, .row 1 3 ((half (tm ps) m.1).map (D.int .i64)), 1), (5, .row 1 3 ((((tm ps).drop m.1).map (· + 1)).reverse.map (D.int .i64)), 1), (6, .row 1 4 (((es ps).drop m.1).reverse.map D.bool), 1)]) (fun m => m.1) ⟨ps.length, by omega⟩ ?_ fun m => ?_
  · refine leF ?_
    conv => whnf
    rw [hTn, List.drop_eq_nil_of_le (by simp only; omega), List.drop_eq_nil_of_le (by simp only; omega), show IntKind.i64.wrap ((((tm ps).map (D.int .i64)).length : Nat) - 1 : Int) = ((ps.length : Nat) : Int) - 1 from by rw [List.length_map, hn]; exact wrap_small (by omega) (by omega)]
    repeat (first | exact trivial | refine And.intro (by first | with_reducible rfl | (rw [next (by first | omega | (simp only; omega))]) | rfl) ?_)
  obtain ⟨m, hm⟩ := m
  conv => whnf
  refine br (fun h => ?_) (fun h => ?_)
  · have h := of_decide_eq_true h
    obtain ⟨k, rfl⟩ : ∃ k, m = k + 1 := ⟨m - 1, by simp only at h; omega⟩
    have hk : k < (tm ps).length := by omega
    have hke : k < (es ps).length := by omega
    have hg := half_get (tm ps) k hk
    have hst := half_set (tm ps) k hk
    have hxb := htb _ (List.getElem_mem hk)
    have hdr : ((tm ps).drop k).map (· + 1) = ((tm ps)[k] + 1) :: ((tm ps).drop (k + 1)).map (· + 1) := by rw [List.drop_eq_getElem_cons hk]; rfl
    have hde : (es ps).drop k = (es ps)[k] :: (es ps).drop (k + 1) := List.drop_eq_getElem_cons hke
    have gt : ((half (tm ps) (k + 1)).map (D.int .i64))[((k : Nat) : Int).toNat]? = some (.int .i64 (tm ps)[k]) := by simp [hg]
    have ge : ((es ps).map D.bool)[((k : Nat) : Int).toNat]? = some (.bool (es ps)[k]) := by simp [hke]
    have hlen := half_len (tm ps) (k + 1)
    have hl1 : (((tm ps).drop (k + 1)).map (· + 1)).length ≤ 100 := by simp; omega
    have hl2 : ((es ps).drop (k + 1)).length ≤ 100 := by simp; omega
    generalize (tm ps)[k] = x at *
    generalize (es ps)[k] = b at *
    have hw : IntKind.i64.wrap (x + 1) = x + 1 := wrap_small (by omega) (by omega)
    simp only [show (((k + 1 : Nat)) : Int) - 1 = ((k : Nat) : Int) from by omega]
    conv => whnf
    refine ⟨⟨by decide +kernel, by kernel_rfl⟩, ?_⟩
    conv => whnf
    refine ⟨⟨by first | omega | (simp only; omega), by simp only [List.length_map]; omega⟩, ?_⟩
    conv => whnf
    refine ⟨⟨by first | omega | (simp only; omega), _, gt, ?_⟩⟩
    conv => whnf
    rw [hw]
    refine ⟨room_int _ _ (by simp only [List.length_reverse]; omega), ?_⟩
    rw [snoc_int]
    conv => whnf
    refine ⟨⟨by first | omega | (simp only; omega), _, ge, ?_⟩⟩
    conv => whnf
    refine ⟨room_bool _ _ (by simp only [List.length_reverse]; omega), ?_⟩
    rw [snoc_bool]
    conv => whnf
    refine ⟨⟨by first | omega | (simp only; omega), by simp only [List.length_map]; omega⟩, ?_⟩
    conv => whnf
    refine ⟨⟨by first | omega | (simp only; omega), _, gt, ?_⟩⟩
    conv => whnf
    refine ⟨⟨by first | omega | (simp only; omega), by simp only [List.length_map]; omega⟩, ?_⟩
    conv => whnf
    refine ⟨⟨by first | omega | (simp only; omega), _, gt, ?_⟩⟩
    conv => whnf
    refine ⟨⟨k, by omega⟩, ?_, by show k < k + 1; omega⟩
    refine leF ?_
    conv => whnf
    rw [hw, show (List.map (D.int .i64) (half (tm ps) (k + 1))).set ((k : Nat) : Int).toNat (D.int .i64 (x + 1)) = List.map (D.int .i64) (half (tm ps) k) from by rw [← hst, List.map_set]; rfl, hdr, hde, List.reverse_cons, List.reverse_cons, show IntKind.i64.wrap (((k : Nat) : Int) - 1) = ((k : Nat) : Int) - 1 from wrap_small (by omega) (by omega)]
    repeat (first | exact trivial | refine And.intro (by first | with_reducible rfl | (rw [next (by first | omega | (simp only; omega))]) | rfl) ?_)
  · have h := of_decide_eq_false h
    obtain rfl : m = 0 := by simp only at h; omega
    have hrt : tm (shiftP ps).reverse = (tm (shiftP ps)).reverse := by simp [tm]
    have hre : es (shiftP ps).reverse = (es (shiftP ps)).reverse := by simp [es]
    have hq : ∀ p ∈ shiftP ps, 1 ≤ p.1 ∧ p.1 ≤ 16 := by
      intro p hp
      obtain ⟨p', hp', rfl⟩ := List.mem_map.1 hp
      have := hb p' hp'
      simp only
      omega
    have hql : (shiftP ps).length ≤ 25 := by simp [shiftP]; omega
    simp only [hT0, List.drop_zero, hB0, ← hE0, ← hrt, ← hre]
    generalize shiftP ps = qs at *
    clear hn hne htb hT0 hB0 hE0 hTn hl hb hrt hre
    have hz := stepsF_zero qs fun p hp => (hq p hp).1
    have c1 := steps_ hS hC qs (by omega) fun p hp => by have := hq p hp; omega
    have c2 := steps_ hS hC qs.reverse (by simp; omega) fun p hp => by have := hq p (by simpa using hp); omega
    have c3 := steps_ hS hC ((0, false) :: qs) (by simp; omega) fun p hp => by
      rcases List.mem_cons.1 hp with rfl | hp
      · simp
      · have := hq p hp; omega
    rw [stepsF_rev] at c2
    rw [hz] at c3
    have hbd := stepsF_bd qs
    have herr : (stepsF qs).2 = 0 ∨ stepsF qs = ([], 14) := stepGo_err qs _ _ _ _
    generalize stepsF qs = R at *
    obtain ⟨a, e⟩ := R
    simp only at hbd herr
    conv => whnf
    refine callA c1 ?_
    conv => whnf
    refine callA c2 ?_
    conv => whnf
    refine br (fun h => by simp at h) (fun _ => ?_)
    conv => whnf
    refine callA (same20 a a true (by simp) (by omega)) ?_
    conv => whnf
    refine ⟨by rw [bytes_int]; simp only [List.length_map, List.length_nil, List.length_append, List.length_cons, tm, es]; exact ⟨by unfold maxLen; omega, by omega, .inr (by kernel_rfl)⟩, ?_⟩
    conv => whnf
    refine ⟨by rw [bytes_bool]; simp only [List.length_map, List.length_nil, List.length_append, List.length_cons, tm, es]; exact ⟨by unfold maxLen; omega, by omega, .inr (by kernel_rfl)⟩, ?_⟩
    rcases herr with he | he
    · subst he
      rw [if_pos rfl] at c3
      simp only at c3
      have hal : a.length ≤ 25 := by have := hbd.2; omega
      conv => whnf
      refine callA c3 ?_
      have hw1 : IntKind.i64.wrap ((((a.map encS).length : Nat) : Int) + 1) = ((a.length : Nat) : Int) + 1 := by rw [List.length_map]; exact wrap_small (by omega) (by omega)
      have hw2 : IntKind.i64.wrap (((((tm qs).map (D.int .i64)).length : Nat) : Int) + 1) = ((qs.length : Nat) : Int) + 1 := by rw [List.length_map, show (tm qs).length = qs.length from by simp [tm]]; exact wrap_small (by omega) (by omega)
      conv => whnf
      refine br (fun q => ?_) (fun q => by exfalso; rw [hw1] at q; simp at q)
      conv => whnf
      refine ⟨⟨by decide, _, rfl, ?_⟩⟩
      conv => whnf
      refine ⟨⟨by kernel_rfl, by kernel_rfl⟩, ?_⟩
      conv => whnf
      refine ⟨by kernel_rfl, ?_⟩
      conv => whnf
      refine ⟨by kernel_rfl, ?_⟩
      conv => whnf
      refine br (fun q => ?_) (fun q => by exfalso; rw [hw2] at q; simp at q)
      conv => whnf
      refine ⟨by refine ⟨by omega, ?_, ?_⟩ <;> simp only [List.length_map, List.length_cons] <;> omega, ?_⟩
      rw [show cut (List.map encS (⟨0, ((qs.length : Nat) : Int) + 1, 0, 1, (1, 1)⟩ :: a)) 1 (((List.map encS (⟨0, ((qs.length : Nat) : Int) + 1, 0, 1, (1, 1)⟩ :: a)).length : Nat) : Int) = a.map encS from by simp [cut, List.take_of_length_le]]
      conv => whnf
      refine callA (same20 a a true (by simp) (by omega)) ?_
      conv => whnf
      refine callA (awake20 hS hC) ?_
      conv => whnf
      exact ⟨rfl⟩
    · cases he
      rw [if_neg (by decide)] at c3
      simp only at c3
      conv => whnf
      refine callA c3 ?_
      conv => whnf
      refine callA (awake20 hS hC) ?_
      conv => whnf
      exact ⟨rfl⟩
end Go.Proofs.YtnkjhialkaomfaaDoor.P
