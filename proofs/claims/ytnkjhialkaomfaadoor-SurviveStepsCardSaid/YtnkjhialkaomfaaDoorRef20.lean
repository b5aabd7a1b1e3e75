/-
  The reference of survive: what it calls, by the abstract machine.
-/
import Derived.Test.YtnkjhialkaomfaaDoorSurvFallsLaw
namespace Go.Proofs.YtnkjhialkaomfaaDoor.P
open Go.Abs Go.Proofs
set_option maxRecDepth 10000

theorem rDivisor (a b : Int) (ha : 0 ≤ a ∧ a ≤ 4611686018427387904) (hb : 0 ≤ b ∧ b ≤ 4611686018427387904) :
    ACall Tryd.prog 71 [.d (.int .i64 a), .d (.int .i64 b)] (.d (.int .i64 (Nat.gcd a.natAbs b.natAbs : Nat))) := by
  refine acall Tryd.func71 (by kernel_rfl) ?_
  generalize hg : Nat.gcd a.natAbs b.natAbs = g
  conv => whnf
  refine loop {s : Int × Int // (0 ≤ s.1 ∧ s.1 ≤ 4611686018427387904) ∧ (0 ≤ s.2 ∧ s.2 ≤ 4611686018427387904) ∧ Nat.gcd s.1.natAbs s.2.natAbs = g} (fun s => mkS 12 [(0, .d (.int .i64 s.1.1)), (1, .d (.int .i64 s.1.2))] []) (fun s => s.1.2.natAbs) ⟨(a, b), ha, hb, hg⟩ ?_ fun s => ?_
  · refine leF ?_
    conv => whnf
    repeat (first | exact trivial | refine And.intro (by first | with_reducible rfl | (rw [next (by first | omega | (simp only; omega))]) | rfl) ?_)
  obtain ⟨⟨x, y⟩, hx, hy, hxy⟩ := s
  simp only at hx hy hxy
  conv => whnf
  refine br (fun h => ?_) (fun h => ?_)
  · have h : y ≠ 0 := by simpa using h
    have hlt : (x.tmod y).natAbs < y.natAbs := by rw [Int.natAbs_tmod]; exact Nat.mod_lt _ (by omega)
    have hnn : 0 ≤ x.tmod y := Int.tmod_nonneg _ hx.1
    conv => whnf
    refine ⟨⟨by decide +kernel, by kernel_rfl⟩, ?_⟩
    conv => whnf
    refine ⟨h, ?_⟩
    conv => whnf
    refine ⟨⟨(y, x.tmod y), hy, by simp only; omega, ?_⟩, ?_, hlt⟩
    · show Nat.gcd y.natAbs (x.tmod y).natAbs = g
      rw [Int.natAbs_tmod, ← hxy, Nat.gcd_comm y.natAbs, ← Nat.gcd_rec, Nat.gcd_comm]
    · refine leF ?_
      conv => whnf
      repeat (first | exact trivial | refine And.intro (by first | with_reducible rfl | (rw [next (by first | omega | (simp only; omega))]) | rfl) ?_)
  · have h : y = 0 := by simpa using h
    subst h
    simp only [Int.natAbs_zero, Nat.gcd_zero_right] at hxy
    conv => whnf
    refine ⟨?_⟩
    simp only [cAV]
    congr 2
    omega
theorem rValid (p : Int × Int) (hp : VF p) : ACall Tryd.prog 45 [.d (frD p)] (.d (.bool true)) := by
  obtain ⟨n, d⟩ := p
  obtain ⟨⟨h1, h2⟩, ⟨h3, h4⟩, h5⟩ := hp
  simp only at h1 h2 h3 h4 h5
  have e1 : decide (d < 1) = false := decide_eq_false (by omega)
  have e2 : decide (d > 1152921504606846976) = false := decide_eq_false (by omega)
  have e3 : decide (n < -1152921504606846976) = false := decide_eq_false (by omega)
  have e4 : decide (n > 1152921504606846976) = false := decide_eq_false (by omega)
  have e5 : IntKind.i64.wrap (0 - n) = 0 - n := wrap_small (by omega) (by omega)
  refine acall Tryd.func45 (by kernel_rfl) ?_
  conv => whnf
  refine br (fun h => ?_) (fun _ => ?_)
  · exfalso
    simp only [e1, e2, e3, e4, cond_false] at h
    cases h
  conv => whnf
  rw [e5]
  have hm : (if 0 - n > n then 0 - n else n) = ((n.natAbs : Nat) : Int) := by split <;> omega
  rw [show (if 0 - n > (n, d).fst then 0 - n else (n, d).fst) = ((n.natAbs : Nat) : Int) from hm]
  refine callA (rDivisor d ((n.natAbs : Nat) : Int) (by omega) (by omega)) ?_
  rw [Int.natAbs_natCast, Nat.gcd_comm, h5]
  conv => whnf
  exact ⟨rfl⟩

theorem rMul (p q : Int × Int) (hp : VF p) (hq : VF q) : ACall Tryd.prog 29 [.d (frD p), .d (frD q)]
    (.tup [.d (frD (redF (p.1 * q.1) (p.2 * q.2).toNat)), .d (.int .i64 (redE (p.1 * q.1) (p.2 * q.2).toNat))]) := by
  have vp := rValid p hp
  have vq := rValid q hq
  obtain ⟨a, b⟩ := p
  obtain ⟨c, d⟩ := q
  have hB : B127 = 170141183460469231731687303715884105728 := rfl
  obtain ⟨⟨h1, h2⟩, h3, _⟩ := hp
  obtain ⟨⟨k1, k2⟩, k3, _⟩ := hq
  simp only at h1 h2 h3 k1 k2 k3
  have hac := prod_bound h3 k3
  have hbd := prod_bound (a := b) (b := d) (by omega) (by omega)
  have hbd0 : 0 < b * d := Int.mul_pos (by omega) (by omega)
  have hred := rReduce (a * c) (b * d) (by omega) (by omega) (by omega)
  rw [show nn (a * c) (b * d) = a * c from if_neg (by omega), show (b * d).natAbs = (b * d).toNat by omega] at hred
  refine acall Tryd.func29 (by kernel_rfl) ?_
  conv => whnf
  refine callA vp ?_
  conv => whnf
  refine callA vq ?_
  conv => whnf
  refine ⟨⟨by decide +kernel, by kernel_rfl⟩, ?_⟩
  conv => whnf
  refine callA (rFrom a (by omega) (by omega)) ?_
  conv => whnf
  refine callA (rFrom c (by omega) (by omega)) ?_
  conv => whnf
  refine callA (rTimes a c) ?_
  conv => whnf
  refine callA (rFrom b (by omega) (by omega)) ?_
  conv => whnf
  refine callA (rFrom d (by omega) (by omega)) ?_
  conv => whnf
  refine callA (rTimes b d) ?_
  conv => whnf
  refine callA hred ?_
  generalize redF (a * c) (b * d).toNat = r
  generalize redE (a * c) (b * d).toNat = e
  obtain ⟨r1, r2⟩ := r
  conv => whnf
  exact ⟨rfl⟩

theorem rHas (xs : List Int) (n : Int) (hx : xs.length ≤ 1000000) : ACall Tryd.prog 42 [.d (ints xs), .d (.int .i64 n)] (.d (.bool (decide (n ∈ xs)))) := by
  refine acall Tryd.func42 (by kernel_rfl) ?_
  conv => whnf
  refine loop {k : Nat // ∀ j (hj : j < xs.length), j < k → xs[j] ≠ n} (fun k => mkS 18 [(0, .d (ints xs)), (1, .d (.int .i64 n)), (5, .d (.int .i64 k.1))] []) (fun k => xs.length - k.1) ⟨0, by simp⟩ ?_ fun k => ?_
  · exact And.intro rfl (And.intro rfl (And.intro rfl trivial))
  · obtain ⟨k, hk⟩ := k
    conv => whnf
    refine br (fun h => ?_) (fun h => ?_)
    · have hlt : k < xs.length := by simpa using h
      conv => whnf
      refine ⟨⟨by first | omega | (simp only; omega), _, ints_get xs k hlt, ?_⟩⟩
      conv => whnf
      refine br (fun hp => ?_) (fun hp => ?_)
      · have hp' : xs[k] = n := by simpa using hp
        conv => whnf
        refine ⟨?_⟩
        have : n ∈ xs := by rw [← hp']; exact List.getElem_mem hlt
        simp [this]; rfl
      · have hp' : xs[k] ≠ n := by simpa using hp
        conv => whnf
        refine ⟨⟨k + 1, fun j hj hjk => ?_⟩, ?_, by show xs.length - (k + 1) < xs.length - k; omega⟩
        · by_cases e : j = k
          · subst e; exact hp'
          · exact hk j hj (by omega)
        · exact And.intro rfl (And.intro rfl (And.intro (by rw [next (by first | omega | (simp only; omega))]) trivial))
    · have hge : xs.length ≤ k := by simpa using h
      conv => whnf
      refine ⟨?_⟩
      have : n ∉ xs := by
        intro hm
        obtain ⟨j, hj, hjn⟩ := List.getElem_of_mem hm
        exact hk j hj (by omega) hjn
      simp [this]; rfl

/-- n ahead of the first number that is greater. -/
def putG (n : Int) : List Int → List Int
  | [] => [n]
  | x :: r => if x > n then n :: x :: r else x :: putG n r
def putF (xs : List Int) (n : Int) : List Int := if n ∈ xs then xs else putG n xs
theorem putG_len (n : Int) : ∀ xs : List Int, (putG n xs).length = xs.length + 1
  | [] => rfl
  | x :: r => by unfold putG; split <;> simp [putG_len n r]
theorem mem_putG (n x : Int) : ∀ xs : List Int, x ∈ putG n xs ↔ x = n ∨ x ∈ xs
  | [] => by simp [putG]
  | y :: r => by
    unfold putG
    split
    · simp
    · simp only [List.mem_cons, mem_putG n x r]
      constructor
      · rintro (h | h | h)
        · exact .inr (.inl h)
        · exact .inl h
        · exact .inr (.inr h)
      · rintro (h | h | h)
        · exact .inr (.inl h)
        · exact .inl h
        · exact .inr (.inr h)
theorem asc_putG (n : Int) : ∀ xs : List Int, xs.Pairwise (· < ·) → n ∉ xs → (putG n xs).Pairwise (· < ·)
  | [], _, _ => by simp [putG]
  | y :: r, h, hn => by
    have h' := List.pairwise_cons.1 h
    have hny : n ≠ y := fun e => hn (by simp [e])
    unfold putG
    split
    · rename_i hy
      refine List.pairwise_cons.2 ⟨fun z hz => ?_, h⟩
      rcases List.mem_cons.1 hz with rfl | hz
      · omega
      · have := h'.1 z hz; omega
    · rename_i hy
      refine List.pairwise_cons.2 ⟨fun z hz => ?_, asc_putG n r h'.2 (fun hm => hn (.tail _ hm))⟩
      rcases (mem_putG n z r).1 hz with rfl | hz
      · omega
      · exact h'.1 z hz
theorem rPut (xs : List Int) (n : Int) (hx : xs.length ≤ 100000) : ACall Tryd.prog 27 [.d (ints xs), .d (.int .i64 n)] (.d (ints (putF xs n))) := by
  refine acall Tryd.func27 (by kernel_rfl) ?_
  conv => whnf
  refine callA (rHas xs n (by omega)) ?_
  by_cases hm : n ∈ xs
  · rw [decide_eq_true hm, show putF xs n = xs from if_pos hm]
    conv => whnf
    exact ⟨rfl⟩
  rw [decide_eq_false hm, show putF xs n = putG n xs from if_neg hm]
  generalize hR : putG n xs = R
  have hRl : R.length = xs.length + 1 := by rw [← hR, putG_len]
  conv => whnf
  refine loop {s : Nat × Bool × List Int // s.1 ≤ xs.length ∧ s.2.2 ++ (bif s.2.1 then xs.drop s.1 else putG n (xs.drop s.1)) = R} (fun s => mkS 46 [(0, .d (ints xs)), (1, .d (.int .i64 n)), (5, .sl 5 1), (6, .d (.bool s.1.2.1)), (7, .d (.int .i64 s.1.1))]
    [(5, .row 1 3 (s.1.2.2.map (D.int .i64)), 1)]) (fun s => xs.length - s.1.1) ⟨(0, false, []), by simp, hR⟩ ?_ fun s => ?_
  · refine leF ?_
    conv => whnf
    repeat (first | exact trivial | refine And.intro (by first | with_reducible rfl | (rw [next (by first | omega | (simp only; omega))]) | rfl) ?_)
  obtain ⟨⟨i, done, out⟩, hi, ho⟩ := s
  simp only at hi ho
  have hol : out.length ≤ xs.length + 1 := by
    have := congrArg List.length ho
    rw [List.length_append, hRl] at this
    omega
  conv => whnf
  refine br (fun h => ?_) (fun h => ?_)
  · have hlt : i < xs.length := by simpa using h
    rw [List.drop_eq_getElem_cons hlt] at ho
    conv => whnf
    refine ⟨⟨by first | omega | (simp only; omega), _, ints_get xs i hlt, ?_⟩⟩
    have gx := ints_get xs i hlt
    generalize xs[i] = x at ho gx
    by_cases c : x > n ∧ done = false
    · obtain ⟨c1, rfl⟩ := c
      have ho : out ++ n :: x :: List.drop (i + 1) xs = R := by simpa [putG, c1] using ho
      have hdc : decide (x > n) = true := decide_eq_true c1
      conv => whnf
      rw [hdc]
      conv => whnf
      refine ⟨room_int out _ (by omega), ?_⟩
      rw [snoc_int]
      conv => whnf
      refine ⟨⟨by first | omega | (simp only; omega), _, gx, ?_⟩⟩
      conv => whnf
      refine ⟨room_int (out ++ [n]) _ (by simp; omega), ?_⟩
      rw [snoc_int]
      conv => whnf
      refine ⟨⟨(i + 1, true, out ++ [n] ++ [x]), hlt, by simpa using ho⟩, ?_, by show xs.length - (i + 1) < xs.length - i; omega⟩
      refine leF ?_
      conv => whnf
      repeat (first | exact trivial | refine And.intro (by first | with_reducible rfl | (rw [next (by first | omega | (simp only; omega))]) | rfl) ?_)
    · have hcond : (bif decide (x > n) then !done else false) = false := by
        by_cases c1 : x > n
        · have : done = true := by
            cases done with
            | true => rfl
            | false => exact absurd ⟨c1, rfl⟩ c
          simp [this]
        · simp [c1]
      have ho : out ++ [x] ++ (bif done then List.drop (i + 1) xs else putG n (List.drop (i + 1) xs)) = R := by
        cases done with
        | true => simpa using ho
        | false =>
          have c1 : ¬ x > n := fun h => c ⟨h, rfl⟩
          simpa [putG, c1] using ho
      conv => whnf
      refine br (fun q => ?_) (fun q => ?_)
      · exact absurd q (by rw [hcond]; simp)
      conv => whnf
      refine ⟨⟨by first | omega | (simp only; omega), _, gx, ?_⟩⟩
      conv => whnf
      refine ⟨room_int out _ (by omega), ?_⟩
      rw [snoc_int]
      conv => whnf
      refine ⟨⟨(i + 1, done, out ++ [x]), hlt, ho⟩, ?_, by show xs.length - (i + 1) < xs.length - i; omega⟩
      refine leF ?_
      conv => whnf
      repeat (first | exact trivial | refine And.intro (by first | with_reducible rfl | (rw [next (by first | omega | (simp only; omega))]) | rfl) ?_)
  · have hge : xs.length ≤ i := by simpa using h
    rw [List.drop_eq_nil_of_le hge] at ho
    cases done with
    | true =>
      have ho : out = R := by simpa using ho
      subst ho
      conv => whnf
      refine ⟨.inl ?_⟩
      conv => whnf
      exact ⟨rfl⟩
    | false =>
      have ho : out ++ [n] = R := ho
      conv => whnf
      refine ⟨room_int out _ (by omega), ?_⟩
      rw [snoc_int, ho]
      conv => whnf
      refine ⟨.inl ?_⟩
      conv => whnf
      exact ⟨rfl⟩

theorem rAt (l : List St) (k : Int) (hl : l.length ≤ 1000000) : ACall Tryd.prog 16 [.d (sts l), .d (.int .i64 k)] (.d (frD (atF l k))) := by
  refine acall Tryd.func16 (by kernel_rfl) ?_
  conv => whnf
  refine loop {i : Nat // i ≤ l.length} (fun i => mkS 27 [(0, .d (sts l)), (1, .d (.int .i64 k)), (4, .ptr 4 1 0), (5, .ptr 5 1 0), (6, .d (.int .i64 i.1))]
    [(4, .var [.d (.int .i64 0), .d (.int .i64 0)], 1), (5, .var [.d (.int .i64 (atF (l.take i.1) k).1), .d (.int .i64 (atF (l.take i.1) k).2)], 1)]) (fun i => l.length - i.1) ⟨0, by omega⟩ ?_ fun i => ?_
  · refine leF ?_
    conv => whnf
    rw [show atF (List.take 0 l) k = (1, 1) from rfl]
    repeat (first | exact trivial | refine And.intro (by first | with_reducible rfl | (rw [next (by first | omega | (simp only; omega))]) | rfl) ?_)
  obtain ⟨i, hi⟩ := i
  conv => whnf
  refine br (fun h => ?_) (fun h => ?_)
  · have hlt : i < l.length := by simpa using h
    have hsn := atF_snoc (l.take i) l[i] k
    rw [← take_snoc l i hlt] at hsn
    have ga : (l.map encS)[((i : Nat) : Int).toNat]? = some (encS l[i]) := by simp [hlt]
    generalize l[i] = s at hsn ga
    obtain ⟨t, a, b, c, ⟨n, d⟩⟩ := s
    simp only at hsn
    conv => whnf
    refine ⟨⟨by first | omega | (simp only; omega), _, ga, ?_⟩⟩
    conv => whnf
    refine br (fun q => ?_) (fun q => ?_)
    · have q : t ≤ k := of_decide_eq_true q
      rw [if_pos q] at hsn
      conv => whnf
      refine ⟨⟨by first | omega | (simp only; omega), _, ga, ?_⟩⟩
      conv => whnf
      refine ⟨⟨i + 1, hlt⟩, ?_, by show l.length - (i + 1) < l.length - i; omega⟩
      refine leF ?_
      conv => whnf
      rw [hsn]
      repeat (first | exact trivial | refine And.intro (by first | with_reducible rfl | (rw [next (by first | omega | (simp only; omega))]) | rfl) ?_)
    · have q : ¬ t ≤ k := of_decide_eq_false q
      rw [if_neg q] at hsn
      conv => whnf
      refine ⟨⟨i + 1, hlt⟩, ?_, by show l.length - (i + 1) < l.length - i; omega⟩
      refine leF ?_
      conv => whnf
      rw [hsn]
      repeat (first | exact trivial | refine And.intro (by first | with_reducible rfl | (rw [next (by first | omega | (simp only; omega))]) | rfl) ?_)
  · have hge : l.length ≤ i := by simpa using h
    rw [List.take_of_length_le hge]
    conv => whnf
    exact ⟨rfl⟩
end Go.Proofs.YtnkjhialkaomfaaDoor.P
