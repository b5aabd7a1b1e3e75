/-
  CorrectionsParts: the law's walk.
-/
import Derived.Test.YtnkjhialkaomfaaCorrPlain
namespace Go.Proofs.Ytnkjhialkaomfaa.P
open Go.Abs Go.Proofs
set_option maxRecDepth 10000

/-- Keys as the law draws them. -/
def Small (ks : List Int) : Prop := Proper ks ∧ ks.length ≤ 40
theorem proper_snoc {ks : List Int} {k : Int} (h : Proper ks) (hk : ∀ x ∈ ks, x < k) (h0 : 0 ≤ k) (h1 : k ≤ 1000) : Proper (ks ++ [k]) := by
  refine ⟨h.1.snoc hk, fun x hx => ?_⟩
  rcases List.mem_append.1 hx with hx | hx
  · exact h.2 x hx
  · simp at hx; omega

set_option maxHeartbeats 4000000 in
theorem partsLaw (hS : SortC) (hC : CompactC) (l a b : List Int) (hl : ∀ x ∈ l, 0 ≤ x ∧ x ≤ 255) : ACall Try.prog 7 [.d (bytesD l), .d (ints a), .d (ints b)] (.d (.bool true)) := by
  refine acall Try.func7 (by kernel_rfl) ?_
  conv => whnf
  refine br (fun h => ?_) (fun h => ?_)
  · conv => whnf
    refine callA (awake40 hS hC) ?_
    conv => whnf
    exact ⟨rfl⟩
  have hab : a.length ≤ 30 ∧ b.length ≤ 30 := by
    by_cases q : (a.length : Int) > 30
    · simp [q] at h
    · simp [q] at h; exact ⟨by omega, by omega⟩
  obtain ⟨hal, hbl⟩ := hab
  conv => whnf
  refine callA (new_ l) ?_
  have hc : ∀ x ∈ l.take 400, 0 ≤ x ∧ x ≤ 255 := fun x hx => hl x (List.mem_of_mem_take hx)
  have hcl : (l.take 400).length ≤ 400 := by simp; omega
  generalize l.take 400 = c at hc hcl
  conv => whnf
  refine callM (next_ c 0 6 hc hcl (by omega)) ?_
  have hn1 := nx_bound c 0 6 hc
  have hn2 := nx_at c 0 6 (by omega)
  generalize nxV c 0 6 = n0 at hn1
  generalize nxA c 0 6 = a0 at hn2
  conv => whnf
  refine loop {s : Int × Nat × List CN // (0 ≤ s.1 ∧ s.1 + s.2.2.length ≤ 5) ∧ s.2.1 ≤ c.length ∧ ∀ p ∈ s.2.2, Small p.2} (fun s => mkS 127 [(1, .d (ints a)), (2, .d (ints b)), (7, .ptr 32 1 0), (8, .sl 8 1), (9, .d (.int .i64 s.1.1))]
    [(8, .row 2 50 (s.1.2.2.map encC), 1), (32, .var [.d (bytesD c), .d (.int .i64 s.1.2.1)], 1)]) (fun s => s.1.1.toNat) ⟨(n0, a0, []), ⟨hn1.1, by have := hn1.2 (by omega); simp; omega⟩, hn2.2, by simp⟩ ?_ fun s => ?_
  · refine leF ?_
    conv => whnf
    repeat (first | exact trivial | refine And.intro (by first | with_reducible rfl | (rw [next (by first | omega | (simp only; omega))]) | rfl) ?_)
  obtain ⟨⟨n, at_, list⟩, ⟨hn0, hnl⟩, hat, hsm⟩ := s
  simp only at hn0 hnl hat hsm
  conv => whnf
  refine br (fun h => ?_) (fun h => ?_)
  · have hpos : 0 < n := of_decide_eq_true h
    have hlen : list.length ≤ 5 := by omega
    conv => whnf
    refine callM (next_ c at_ 4 hc hcl hat) ?_
    have hm1 := nx_bound c at_ 4 hc
    have hm2 := nx_at c at_ 4 hat
    generalize nxV c at_ 4 = k0 at hm1
    generalize nxA c at_ 4 = a1 at hm2
    obtain ⟨o, ho⟩ : ∃ o, o = IntKind.i64.wrap ((((list.map encC).length : Nat) : Int) + 1) := ⟨_, rfl⟩
    conv => whnf
    refine loopA [(10, 1, 3, 3)] {s : Int × Nat × List Int // (0 ≤ s.1 ∧ s.1 ≤ 40) ∧ s.2.1 ≤ c.length ∧ Proper s.2.2 ∧ (∀ x ∈ s.2.2, x < s.1) ∧ s.2.2.length ≤ s.1.toNat} (fun s => mkS 127 [(1, .d (ints a)), (2, .d (ints b)), (7, .ptr 32 1 0), (8, .sl 8 1), (9, .d (.int .i64 n)), (10, .ptr 10 1 0), (11, .d (.int .i64 s.1.1))]
      [(3, .row 1 3 (s.1.2.2.map (D.int .i64)), 1), (8, .row 2 50 (list.map encC), 1), (10, .var [.d (.int .i64 o), .sl 3 1], 1), (32, .var [.d (bytesD c), .d (.int .i64 s.1.2.1)], 1)]) (fun s => (40 - s.1.1).toNat) ⟨(k0, a1, []), ⟨hm1.1, by have := hm1.2 (by omega); simp only; omega⟩, hm2.2, ⟨fun i hi => by simp at hi, by simp⟩, by simp, by simp⟩ ?_ fun s => ?_
    · conv => whnf
      subst ho
      repeat (first | exact trivial | refine And.intro (by first | with_reducible rfl | (rw [next (by first | omega | (simp only; omega))]) | rfl) ?_)
    obtain ⟨⟨k, at2, ks⟩, ⟨hk0, hk1⟩, hat2, hpr, hlk, hkl⟩ := s
    simp only at hk0 hk1 hat2 hpr hlk hkl
    clear ho
    conv => whnf
    refine br (fun h => ?_) (fun h => ?_)
    · have hk20 : k < 20 := of_decide_eq_true h
      conv => whnf
      refine ⟨room_int ks _ (by omega), ?_⟩
      rw [snoc_int]
      conv => whnf
      refine callM (range_ c at2 1 6 hc hcl hat2 (by omega) (by omega) (by omega)) ?_
      have hm1 := nx_bound c at2 (6 - 1 + 1) hc
      have hm2 := nx_at c at2 (6 - 1 + 1) hat2
      have hm3 := hm1.2 (by omega)
      generalize nxV c at2 (6 - 1 + 1) = d at hm1 hm3
      generalize nxA c at2 (6 - 1 + 1) = a2 at hm2
      have e2 : IntKind.i64.wrap (k + (1 + d)) = k + (1 + d) := wrap_small (by omega) (by omega)
      conv => whnf
      refine ⟨⟨(k + (1 + d), a2, ks ++ [k]), ⟨by simp only; omega, by simp only; omega⟩, hm2.2, proper_snoc hpr hlk hk0 (by omega), fun x hx => ?_, by simp; omega⟩, ?_, by simp only; omega⟩
      · rcases List.mem_append.1 hx with hx | hx
        · have := hlk x hx; simp only; omega
        · simp at hx; simp only; omega
      · refine leF ?_
        conv => whnf
        repeat (first | exact trivial | refine And.intro (by first | with_reducible rfl | (rw [e2]) | rfl) ?_)
    · have hk20 : ¬ k < 20 := of_decide_eq_false h
      conv => whnf
      refine ⟨room_con list _ (by omega), ?_⟩
      rw [show List.map encC list ++ [D.agg [D.int .i64 o, D.list 1 (List.map (D.int .i64) ks)]] = (list ++ [(o, ks)]).map encC from by simp [encC, ints]]
      conv => whnf
      refine ⟨⟨(n - 1, at2, list ++ [(o, ks)]), ⟨by simp only; omega, by simp; omega⟩, hat2, fun p hp => ?_⟩, ?_, by simp only; omega⟩
      · rcases List.mem_append.1 hp with hp | hp
        · exact hsm p hp
        · simp at hp; subst hp; exact ⟨hpr, by simp only; omega⟩
      · have e3 : IntKind.i64.wrap (n - 1) = n - 1 := wrap_small (by omega) (by omega)
        refine leF ?_
        conv => whnf
        repeat (first | exact trivial | refine And.intro (by first | with_reducible rfl | (rw [e3]) | rfl) ?_)
  · have hl40 : list.length ≤ 40 := by omega
    have hasc : ∀ p ∈ list, Asc p.2 := fun p hp => (hsm p hp).1.1
    have hpr : ∀ p ∈ list, Proper p.2 ∧ p.2.length ≤ 1000000 := fun p hp => ⟨(hsm p hp).1, by have := (hsm p hp).2; omega⟩
    have hpl : ∀ p ∈ list, p.2.length ≤ 1000000 := fun p hp => (hpr p hp).2
    conv => whnf
    refine callA (concernedOK hS hC list a hl40 hpr (by omega)) ?_
    have hP := hasK_conF a list hasc
    have hPl := conF_len (setI a) list
    have hPk := conF_keys (setI a) list 1000000 hpl
    generalize conF (setI a) list = P at hP hPl hPk
    conv => whnf
    refine callA (concernedOK hS hC list b hl40 hpr (by omega)) ?_
    have hQ := hasK_conF b list hasc
    have hQl := conF_len (setI b) list
    have hQk := conF_keys (setI b) list 1000000 hpl
    generalize conF (setI b) list = Q at hQ hQl hQk
    conv => whnf
    refine ⟨by rw [bytes_int]; simp only [List.length_map, List.length_nil]; exact ⟨by unfold maxLen; omega, by omega, .inr (by kernel_rfl)⟩, ?_⟩
    conv => whnf
    refine ⟨by rw [bytes_int]; simp only [List.length_map, List.length_nil, List.length_append]; exact ⟨by unfold maxLen; omega, by omega, .inr (by kernel_rfl)⟩, ?_⟩
    rw [show [] ++ List.map (D.int .i64) a ++ List.map (D.int .i64) b = List.map (D.int .i64) (a ++ b) from by simp]
    conv => whnf
    refine callA (concernedOK hS hC list (a ++ b) hl40 hpr (by simp; omega)) ?_
    have hR := hasK_conF (a ++ b) list hasc
    have hRl := conF_len (setI (a ++ b)) list
    have hRk := conF_keys (setI (a ++ b)) list 1000000 hpl
    generalize conF (setI (a ++ b)) list = R at hR hRl hRk
    conv => whnf
    refine loop {k : Nat // k ≤ list.length} (fun k => mkS 127 [(12, .d (cons P)), (14, .d (cons Q)), (16, .d (cons R)), (93, .d (cons list)), (94, .d (.int .i64 list.length)), (95, .d (.int .i64 k.1))] []) (fun k => list.length - k.1) ⟨0, by omega⟩ ?_ fun k => ?_
    · refine leF ?_
      conv => whnf
      rw [show (List.map encC list).length = list.length from by simp]
      repeat (first | exact trivial | refine And.intro (by first | with_reducible rfl | (rw [next (by first | omega | (simp only; omega))]) | rfl) ?_)
    obtain ⟨k, hk⟩ := k
    conv => whnf
    refine br (fun h => ?_) (fun h => ?_)
    · have hlt : k < list.length := by simpa using h
      have hmem : list[k] ∈ list := List.getElem_mem hlt
      conv => whnf
      refine ⟨⟨by first | omega | (simp only; omega), encC list[k], by simp [hlt], ?_⟩⟩
      generalize list[k] = p at hmem
      obtain ⟨o, ks⟩ := p
      have hksl := hpl _ hmem
      simp only at hksl
      conv => whnf
      refine loop {i : Nat // i ≤ ks.length} (fun i => mkS 127 [(12, .d (cons P)), (14, .d (cons Q)), (16, .d (cons R)), (19, .ptr 19 1 0), (93, .d (cons list)), (94, .d (.int .i64 list.length)), (95, .d (.int .i64 k)), (100, .d (ints ks)), (101, .d (.int .i64 ks.length)), (102, .d (.int .i64 i.1))] [(19, .var [.d (.int .i64 o), .d (ints ks)], 1)]) (fun i => ks.length - i.1) ⟨0, by omega⟩ ?_ fun i => ?_
      · refine leF ?_
        conv => whnf
        rw [show (List.map (D.int .i64) (o, ks).2).length = ks.length from by simp]
        repeat (first | exact trivial | refine And.intro (by first | with_reducible rfl | (rw [next (by first | omega | (simp only; omega))]) | rfl) ?_)
      obtain ⟨i, hi⟩ := i
      conv => whnf
      refine br (fun h => ?_) (fun h => ?_)
      · have hlt2 : i < ks.length := by simpa using h
        conv => whnf
        refine ⟨⟨by first | omega | (simp only; omega), _, ints_get ks i hlt2, ?_⟩⟩
        generalize ks[i] = key
        obtain ⟨rR, hrR⟩ : ∃ r : Bool, r = true ↔ HasK R o key := by
          by_cases q : HasK R o key
          · exact ⟨true, by simp [q]⟩
          · exact ⟨false, by simp [q]⟩
        obtain ⟨rP, hrP⟩ : ∃ r : Bool, r = true ↔ HasK P o key := by
          by_cases q : HasK P o key
          · exact ⟨true, by simp [q]⟩
          · exact ⟨false, by simp [q]⟩
        obtain ⟨rQ, hrQ⟩ : ∃ r : Bool, r = true ↔ HasK Q o key := by
          by_cases q : HasK Q o key
          · exact ⟨true, by simp [q]⟩
          · exact ⟨false, by simp [q]⟩
        have hall : rR = (rP || rQ) := by
          rw [Bool.eq_iff_iff, Bool.or_eq_true, hrR, hrP, hrQ, hR, hP, hQ]
          constructor
          · rintro ⟨p, h1, h2, h3, h4⟩
            rcases List.mem_append.1 h4 with h4 | h4
            · exact .inl ⟨p, h1, h2, h3, h4⟩
            · exact .inr ⟨p, h1, h2, h3, h4⟩
          · rintro (⟨p, h1, h2, h3, h4⟩ | ⟨p, h1, h2, h3, h4⟩)
            · exact ⟨p, h1, h2, h3, List.mem_append.2 (.inl h4)⟩
            · exact ⟨p, h1, h2, h3, List.mem_append.2 (.inr h4)⟩
        conv => whnf
        refine ⟨⟨by decide +kernel, by kernel_rfl⟩, ?_⟩
        conv => whnf
        refine callA (has40 R o key rR hrR (by omega) hRk) ?_
        conv => whnf
        refine callA (has40 P o key rP hrP (by omega) hPk) ?_
        subst hall
        cases rP with
        | true =>
          conv => whnf
          refine ⟨⟨i + 1, hlt2⟩, ?_, by show ks.length - (i + 1) < ks.length - i; omega⟩
          refine leF ?_
          conv => whnf
          repeat (first | exact trivial | refine And.intro (by first | with_reducible rfl | (rw [next (by first | omega | (simp only; omega))]) | rfl) ?_)
        | false =>
          conv => whnf
          refine callA (has40 Q o key rQ hrQ (by omega) hQk) ?_
          cases rQ <;>
          · conv => whnf
            refine ⟨⟨i + 1, hlt2⟩, ?_, by show ks.length - (i + 1) < ks.length - i; omega⟩
            refine leF ?_
            conv => whnf
            repeat (first | exact trivial | refine And.intro (by first | with_reducible rfl | (rw [next (by first | omega | (simp only; omega))]) | rfl) ?_)
      · conv => whnf
        refine ⟨⟨k + 1, hlt⟩, ?_, by show list.length - (k + 1) < list.length - k; omega⟩
        refine leF ?_
        conv => whnf
        repeat (first | exact trivial | refine And.intro (by first | with_reducible rfl | (rw [next (by first | omega | (simp only; omega))]) | rfl) ?_)
    · conv => whnf
      refine callA (awake40 hS hC) ?_
      conv => whnf
      exact ⟨rfl⟩
end Go.Proofs.Ytnkjhialkaomfaa.P
