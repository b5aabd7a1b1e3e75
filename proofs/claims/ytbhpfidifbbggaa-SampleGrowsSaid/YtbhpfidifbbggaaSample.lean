/-
  The functions of the package sample, and of its reference, by the abstract machine.
-/
import Derived.Test.YtbhpfidifbbggaaAbsLaw
import Derived.Test.YtbhpfidifbbggaaProg
import Derived.KernelRfl
import Derived.IntWalk
namespace Go.Proofs.Ytbhpfidifbbggaa.S
open Go.Abs Go.Proofs
set_option maxRecDepth 10000

def encS (p o s : Int) : D := .agg [.int .i64 p, .int .i64 o, .int .i64 s]
def ints (xs : List Int) : D := .list 1 (xs.map (D.int .i64))

/-! ### What the functions compute -/
def chkB (p o s : Int) : Bool := bif bif bif bif bif decide (o < 1) then true else decide (o > 1000) then true else decide (p < 1) then true else decide (p > o) then true else decide (s < 0) then true else decide (s > 1099511627776)
def chk (p o s : Int) : Int := bif chkB p o s then 2 else 0
def seed0 (s i : Int) : Int := IntKind.u64.wrap (IntKind.u64.wrap (IntKind.u64.wrap (IntKind.u64.wrap s * 2654435761) + IntKind.u64.wrap (IntKind.u64.wrap i * 40503)) + 97)
def mix1 (h : Int) : Int := IntKind.u64.wrap (IntKind.u64.wrap (h * 6364136223846793005) + 1442695040888963407)
def mix (h : Int) : Int := IntKind.u64.wrap (BitVec.ofInt IntKind.u64.bits (mix1 h) ^^^ BitVec.ofInt IntKind.u64.bits ((mix1 h).fdiv (2 ^ (min (29 : Int).toNat IntKind.u64.bits)))).toNat
def mixes (s i : Int) : Nat → Int
  | 0 => seed0 s i
  | k + 1 => mix (mixes s i k)
def drw (s i : Int) : Int := IntKind.i64.wrap ((mixes s i 3).fdiv (2 ^ (min (32 : Int).toNat IntKind.u64.bits)))

theorem check9 (p o s : Int) : ACall Try.prog 9 [.d (encS p o s)] (.d (.int .i64 (chk p o s))) := by
  refine acall Try.func9 (by kernel_rfl) ?_
  conv => whnf
  refine br (fun h => ?_) (fun h => ?_)
  · conv => whnf
    exact ⟨by rw [chk, show chkB p o s = true from h]; rfl⟩
  · conv => whnf
    exact ⟨by rw [chk, show chkB p o s = false from h]; rfl⟩
theorem check10 (p o s : Int) : ACall Try.prog 10 [.d (encS p o s)] (.d (.int .i64 (chk p o s))) := by
  refine acall Try.func10 (by kernel_rfl) ?_
  conv => whnf
  refine br (fun h => ?_) (fun h => ?_)
  · conv => whnf
    exact ⟨by rw [chk, show chkB p o s = true from h]; rfl⟩
  · conv => whnf
    exact ⟨by rw [chk, show chkB p o s = false from h]; rfl⟩

theorem wrap_small {n : Int} (h0 : -9223372036854775808 ≤ n) (h1 : n ≤ 9223372036854775807) : IntKind.i64.wrap n = n := IntWalk.i64_in n ⟨h0, h1⟩

theorem draw16 (s i : Int) : ACall Try.prog 16 [.d (.int .i64 s), .d (.int .i64 i)] (.d (.int .i64 (drw s i))) := by
  refine acall Try.func16 (by kernel_rfl) ?_
  conv => whnf
  refine ⟨⟨{k : Nat // k ≤ 3}, fun k => mkS 27 [(5, .d (.int .u64 (mixes s i k.1))), (14, .d (.int .i64 k.1))] [], fun k => 3 - k.1, ⟨0, by omega⟩, ?_, fun k => ?_⟩⟩
  · exact And.intro rfl (And.intro rfl trivial)
  · obtain ⟨k, hk⟩ := k
    conv => whnf
    refine br (fun h => ?_) (fun h => ?_)
    · have hlt : k < 3 := by have := of_decide_eq_true h; simp only at this; omega
      conv => whnf
      refine ⟨by omega, ?_⟩
      conv => whnf
      refine ⟨⟨k + 1, by omega⟩, ?_, by show 3 - (k + 1) < 3 - k; omega⟩
      exact And.intro rfl (And.intro (by rw [wrap_small (by simp only; omega) (by simp only; omega)]; rfl) trivial)
    · have hge : k = 3 := by have := of_decide_eq_false h; simp only at this; omega
      conv => whnf
      refine ⟨by omega, ?_⟩
      conv => whnf
      exact ⟨by subst hge; rfl⟩
theorem draw17 (s i : Int) : ACall Try.prog 17 [.d (.int .i64 s), .d (.int .i64 i)] (.d (.int .i64 (drw s i))) := by
  refine acall Try.func17 (by kernel_rfl) ?_
  conv => whnf
  refine ⟨⟨{k : Nat // k ≤ 3}, fun k => mkS 29 [(5, .d (.int .u64 (mixes s i k.1))), (6, .d (.int .i64 k.1))] [], fun k => 3 - k.1, ⟨0, by omega⟩, ?_, fun k => ?_⟩⟩
  · exact And.intro rfl (And.intro rfl trivial)
  · obtain ⟨k, hk⟩ := k
    conv => whnf
    refine br (fun h => ?_) (fun h => ?_)
    · have hlt : k < 3 := by have := of_decide_eq_true h; simp only at this; omega
      conv => whnf
      refine ⟨by omega, ?_⟩
      conv => whnf
      refine ⟨⟨k + 1, by omega⟩, ?_, by show 3 - (k + 1) < 3 - k; omega⟩
      exact And.intro rfl (And.intro (by rw [wrap_small (by simp only; omega) (by simp only; omega)]; rfl) trivial)
    · have hge : k = 3 := by have := of_decide_eq_false h; simp only at this; omega
      conv => whnf
      refine ⟨by omega, ?_⟩
      conv => whnf
      exact ⟨by subst hge; rfl⟩

/-- In a sample. -/
def inB (p o s i : Int) : Bool := !chkB p o s && decide (i ≥ 1) && decide (i ≤ 1048575) && decide ((drw s i).tmod o < p)

theorem in11 (p o s i : Int) : ACall Try.prog 11 [.d (encS p o s), .d (.int .i64 i)] (.d (.bool (inB p o s i))) := by
  refine acall Try.func11 (by kernel_rfl) ?_
  conv => whnf
  refine ⟨⟨by decide +kernel, by kernel_rfl⟩, ?_⟩
  conv => whnf
  refine ⟨⟨_, check9 p o s, ?_⟩⟩
  cases hc : chkB p o s with
  | true =>
    have e : chk p o s = 2 := by rw [chk, hc]; rfl
    rw [e]
    conv => whnf
    exact ⟨by simp [inB, hc]⟩
  | false =>
    have e : chk p o s = 0 := by rw [chk, hc]; rfl
    rw [e]
    conv => whnf
    refine br (fun h => ?_) (fun h => ?_)
    · conv => whnf
      refine ⟨⟨_, draw16 s i, ?_⟩⟩
      conv => whnf
      refine ⟨by intro h0; subst h0; simp [chkB] at hc, ?_⟩
      conv => whnf
      refine ⟨?_⟩
      have h' : decide (i ≥ 1) = true ∧ decide (i ≤ 1048575) = true := by simpa using h
      simp only [inB, hc, h'.1, h'.2]
      rfl
    · conv => whnf
      refine ⟨?_⟩
      have h' : (decide (i ≥ 1) && decide (i ≤ 1048575)) = false := by simpa using h
      simp only [inB, hc, Bool.not_false, Bool.true_and, h', Bool.false_and]
theorem in12 (p o s i : Int) : ACall Try.prog 12 [.d (encS p o s), .d (.int .i64 i)] (.d (.bool (inB p o s i))) := by
  refine acall Try.func12 (by kernel_rfl) ?_
  conv => whnf
  refine ⟨⟨by decide +kernel, by kernel_rfl⟩, ?_⟩
  conv => whnf
  refine ⟨⟨_, check10 p o s, ?_⟩⟩
  cases hc : chkB p o s with
  | true =>
    have e : chk p o s = 2 := by rw [chk, hc]; rfl
    rw [e]
    conv => whnf
    exact ⟨by simp [inB, hc]⟩
  | false =>
    have e : chk p o s = 0 := by rw [chk, hc]; rfl
    rw [e]
    conv => whnf
    refine br (fun h => ?_) (fun h => ?_)
    · conv => whnf
      refine ⟨⟨_, draw17 s i, ?_⟩⟩
      conv => whnf
      refine ⟨by intro h0; subst h0; simp [chkB] at hc, ?_⟩
      conv => whnf
      refine ⟨?_⟩
      have h' : decide (i ≥ 1) = true ∧ decide (i ≤ 1048575) = true := by simpa using h
      simp only [inB, hc, h'.1, h'.2]
      rfl
    · conv => whnf
      refine ⟨?_⟩
      have h' : (decide (i ≥ 1) && decide (i ≤ 1048575)) = false := by simpa using h
      simp only [inB, hc, Bool.not_false, Bool.true_and, h', Bool.false_and]

theorem take_snoc {α : Type} (xs : List α) (k : Nat) (h : k < xs.length) : xs.take (k + 1) = xs.take k ++ [xs[k]] := List.take_succ_eq_append_getElem h
theorem ints_get (xs : List Int) (k : Nat) (h : k < xs.length) : (xs.map (D.int .i64))[((k : Nat) : Int).toNat]? = some (D.int .i64 xs[k]) := by simp [h]

def chosen (p o s : Int) (xs : List Int) : List Int := xs.filter (inB p o s)

theorem chosen_room (p o s : Int) (xs : List Int) (k : Nat) (y : D) (hx : xs.length ≤ 1000000) : ((chosen p o s (xs.take k)).map (D.int .i64)).length + [y].length ≤ maxLen ∧
    (((chosen p o s (xs.take k)).map (D.int .i64)).length + [y].length) * bytesT Try.prog 3 ≤ 140737488355328 ∧ ([y] = [] ∨ 0 + 1 = 0 + 1) := by
  have h1 : (chosen p o s (xs.take k)).length ≤ xs.length := Nat.le_trans (List.length_filter_le _ _) (List.length_take_le' _ _)
  have hb : bytesT Try.prog 3 = 8 := by kernel_rfl
  rw [hb]
  simp only [List.length_map, List.length_cons, List.length_nil]
  exact ⟨by unfold maxLen; omega, by omega, .inr (by trivial)⟩

theorem chosen_yes {p o s : Int} {xs : List Int} {k : Nat} (h : k < xs.length) (hb : inB p o s xs[k] = true) : (chosen p o s (xs.take (k + 1))).map (D.int .i64) = (chosen p o s (xs.take k)).map (D.int .i64) ++ [D.int .i64 xs[k]] := by
  rw [take_snoc xs k h, chosen, List.filter_append, List.filter_cons, hb]; simp [chosen]
theorem chosen_no {p o s : Int} {xs : List Int} {k : Nat} (h : k < xs.length) (hb : inB p o s xs[k] = false) : (chosen p o s (xs.take (k + 1))).map (D.int .i64) = (chosen p o s (xs.take k)).map (D.int .i64) := by
  rw [take_snoc xs k h, chosen, List.filter_append, List.filter_cons, hb]; simp [chosen]

theorem chosen14 (p o s : Int) (xs : List Int) (hx : xs.length ≤ 1000000) : ACall Try.prog 14 [.d (encS p o s), .d (ints xs)] (.d (ints (chosen p o s xs))) := by
  refine acall Try.func14 (by kernel_rfl) ?_
  conv => whnf
  refine ⟨⟨Nat, fun k => mkS 23 [(1, .d (ints xs)), (2, .ptr 2 1 0), (5, .sl 5 1), (8, .d (ints xs)), (9, .d (.int .i64 xs.length)), (10, .d (.int .i64 k))] [(2, .var [.int .i64 p, .int .i64 o, .int .i64 s], 1), (5, .row 1 3 ((chosen p o s (xs.take k)).map (D.int .i64)), 1)], fun k => xs.length - k, 0, ?_, fun k => ?_⟩⟩
  · exact And.intro rfl (And.intro rfl (And.intro rfl (And.intro rfl (And.intro rfl (And.intro (by simp) (And.intro rfl trivial))))))
  · conv => whnf
    refine br (fun h => ?_) (fun h => ?_)
    · have hlt : k < xs.length := by simpa using h
      conv => whnf
      refine ⟨⟨by omega, _, ints_get xs k hlt, ?_⟩⟩
      conv => whnf
      refine ⟨⟨_, in11 p o s _, ?_⟩⟩
      conv => whnf
      have hw : IntKind.i64.wrap ((k : Int) + 1) = ((k + 1 : Nat) : Int) := by rw [wrap_small (by omega) (by omega)]; rfl
      refine br (fun hb => ?_) (fun hb => ?_)
      · conv => whnf
        refine ⟨chosen_room p o s xs k _ hx, ?_⟩
        conv => whnf
        refine ⟨k + 1, ?_, by show xs.length - (k + 1) < xs.length - k; omega⟩
        refine And.intro rfl (And.intro rfl (And.intro rfl (And.intro ?_ (And.intro rfl (And.intro rfl (And.intro (by rw [hw]) trivial))))))
        show Body.row _ _ _ = Body.row _ _ _
        rw [chosen_yes hlt hb]
      · conv => whnf
        refine ⟨k + 1, ?_, by show xs.length - (k + 1) < xs.length - k; omega⟩
        refine And.intro rfl (And.intro rfl (And.intro rfl (And.intro ?_ (And.intro rfl (And.intro rfl (And.intro (by rw [hw]) trivial))))))
        show Body.row _ _ _ = Body.row _ _ _
        rw [chosen_no hlt hb]
    · conv => whnf
      refine ⟨.inr ⟨?_⟩⟩
      have hge : xs.length ≤ k := by simpa using h
      rw [List.take_of_length_le hge]
      rfl

theorem chosen15 (p o s : Int) (xs : List Int) (hx : xs.length ≤ 1000000) : ACall Try.prog 15 [.d (encS p o s), .d (ints xs)] (.d (ints (chosen p o s xs))) := by
  refine acall Try.func15 (by kernel_rfl) ?_
  conv => whnf
  refine ⟨⟨Nat, fun k => mkS 27 [(1, .d (ints xs)), (2, .ptr 2 1 0), (5, .sl 5 1), (6, .d (.int .i64 k))] [(2, .var [.int .i64 p, .int .i64 o, .int .i64 s], 1), (5, .row 1 3 ((chosen p o s (xs.take k)).map (D.int .i64)), 1)], fun k => xs.length - k, 0, ?_, fun k => ?_⟩⟩
  · exact And.intro rfl (And.intro rfl (And.intro rfl (And.intro rfl (And.intro rfl trivial))))
  · conv => whnf
    refine br (fun h => ?_) (fun h => ?_)
    · have hlt : k < xs.length := by simpa using h
      conv => whnf
      refine ⟨⟨by decide +kernel, by kernel_rfl⟩, ?_⟩
      conv => whnf
      refine ⟨⟨by omega, _, ints_get xs k hlt, ?_⟩⟩
      conv => whnf
      refine ⟨⟨_, in12 p o s _, ?_⟩⟩
      conv => whnf
      have hw : IntKind.i64.wrap ((k : Int) + 1) = ((k + 1 : Nat) : Int) := by rw [wrap_small (by omega) (by omega)]; rfl
      refine br (fun hb => ?_) (fun hb => ?_)
      · conv => whnf
        refine ⟨⟨by omega, _, ints_get xs k hlt, ?_⟩⟩
        conv => whnf
        refine ⟨chosen_room p o s xs k _ hx, ?_⟩
        conv => whnf
        refine ⟨k + 1, ?_, by show xs.length - (k + 1) < xs.length - k; omega⟩
        refine And.intro rfl (And.intro rfl (And.intro rfl (And.intro ?_ (And.intro (by rw [hw]) trivial))))
        show Body.row _ _ _ = Body.row _ _ _
        rw [chosen_yes hlt hb]
      · conv => whnf
        refine ⟨k + 1, ?_, by show xs.length - (k + 1) < xs.length - k; omega⟩
        refine And.intro rfl (And.intro rfl (And.intro rfl (And.intro ?_ (And.intro (by rw [hw]) trivial))))
        show Body.row _ _ _ = Body.row _ _ _
        rw [chosen_no hlt hb]
    · conv => whnf
      refine ⟨.inr ⟨?_⟩⟩
      have hge : xs.length ≤ k := by simpa using h
      rw [List.take_of_length_le hge]
      rfl

theorem ints13 (xs ys : List Int) (hx : xs.length ≤ 1000000) : ACall Try.prog 13 [.d (ints xs), .d (ints ys)] (.d (.bool (decide (xs = ys)))) := by
  refine acall Try.func13 (by kernel_rfl) ?_
  conv => whnf
  refine br (fun h => ?_) (fun h => ?_)
  · conv => whnf
    refine ⟨?_⟩
    have hl : ¬ xs = ys := by rintro rfl; simp at h
    simp [hl]
  · have hl : xs.length = ys.length := by simp at h; omega
    conv => whnf
    refine ⟨⟨{k : Nat // xs.take k = ys.take k}, fun k => mkS 26 [(0, .d (ints xs)), (1, .d (ints ys)), (5, .d (.int .i64 k.1))] [], fun k => xs.length - k.1, ⟨0, by simp⟩, ?_, fun k => ?_⟩⟩
    · exact And.intro rfl (And.intro rfl (And.intro rfl trivial))
    · obtain ⟨k, hk⟩ := k
      conv => whnf
      refine br (fun h => ?_) (fun h => ?_)
      · have hlt : k < xs.length := by have := of_decide_eq_true h; simp only [List.length_map] at this; omega
        have hlt2 : k < ys.length := by omega
        conv => whnf
        refine ⟨⟨by decide +kernel, by kernel_rfl⟩, ?_⟩
        conv => whnf
        refine ⟨⟨by omega, _, ints_get xs k hlt, ?_⟩⟩
        conv => whnf
        refine ⟨⟨by omega, _, ints_get ys k hlt2, ?_⟩⟩
        conv => whnf
        refine br (fun hb => ?_) (fun hb => ?_)
        · conv => whnf
          refine ⟨?_⟩
          have hne : ¬ xs = ys := by rintro rfl; simp at hb
          simp [hne]
        · conv => whnf
          have he : xs[k] = ys[k] := by simpa using hb
          refine ⟨⟨k + 1, by rw [take_snoc xs k hlt, take_snoc ys k hlt2, hk, he]⟩, ?_, by show xs.length - (k + 1) < xs.length - k; omega⟩
          exact And.intro rfl (And.intro rfl (And.intro (by rw [wrap_small (by simp only; omega) (by simp only; omega)]; rfl) trivial))
      · conv => whnf
        refine ⟨?_⟩
        have hge : xs.length ≤ k := by have := of_decide_eq_false h; simp only [List.length_map] at this; omega
        rw [List.take_of_length_le hge, List.take_of_length_le (by omega)] at hk
        simp [hk]

/-- The sanity check. -/
theorem awake7 : ACall Try.prog 7 [] (.d (.bool true)) := by
  refine acall Try.func7 (by kernel_rfl) ?_
  conv => whnf
  refine ⟨⟨_, check9 2 2 0, ?_⟩⟩
  rw [show chk 2 2 0 = 0 from by decide +kernel]
  conv => whnf
  refine ⟨⟨_, in11 3 3 5 77, ?_⟩⟩
  rw [show inB 3 3 5 77 = true from by decide +kernel]
  conv => whnf
  refine ⟨⟨_, in11 3 3 5 0, ?_⟩⟩
  rw [show inB 3 3 5 0 = false from by decide +kernel]
  conv => whnf
  refine ⟨⟨_, draw16 1 2, ?_⟩⟩
  conv => whnf
  refine ⟨⟨_, draw16 1 3, ?_⟩⟩
  conv => whnf
  refine ⟨⟨_, chosen14 1 1 0 [5, 0, 4] (by simp), ?_⟩⟩
  rw [show chosen 1 1 0 [5, 0, 4] = [5, 4] from by decide +kernel]
  conv => whnf
  refine ⟨⟨_, ints13 [5, 4] [5, 4] (by simp), ?_⟩⟩
  conv => whnf
  exact ⟨by rfl⟩

theorem tmod_pos {x n : Int} (hn : 0 < n) : -n < x.tmod n ∧ x.tmod n < n := ⟨by have := Int.lt_tmod_of_pos x hn; omega, Int.tmod_lt_of_pos x hn⟩

/-- A sample within its limits. -/
theorem limited8 (p o s a : Int) (hs0 : -9223372036854775808 ≤ s) (hs1 : s ≤ 9223372036854775807) (ha0 : 0 ≤ a) (ha1 : a ≤ 65535) :
    ∃ p' o' s', ACall Try.prog 8 [.d (encS p o s), .d (.int .u16 a)] (.d (encS p' o' s')) ∧ 1 ≤ p' ∧ p' ≤ o' ∧ o' ≤ 9 ∧ 0 ≤ s' ∧ s' ≤ 1099511627776 := by
  have ea : IntKind.i64.wrap a = a := wrap_small (by omega) (by omega)
  have em := tmod_pos (x := a) (n := 9) (by omega)
  have em0 : 0 ≤ a.tmod 9 := Int.tmod_nonneg 9 ha0
  have en : IntKind.i64.wrap (1 + a.tmod 9) = 1 + a.tmod 9 := wrap_small (by omega) (by omega)
  have hn0 : (0 : Int) < 1 + a.tmod 9 := by omega
  have ep := tmod_pos (x := p) hn0
  generalize hn : 1 + a.tmod 9 = n at *
  -- the seed
  obtain ⟨s1, hs, h1, h2⟩ : ∃ s1, (s < 0 → IntKind.i64.wrap (0 - IntKind.i64.wrap (s + 1)) = s1) ∧ 0 ≤ s1 ∧ s1 ≤ 9223372036854775807 ∧ (¬ s < 0 → s = s1) := by
    by_cases h : s < 0
    · refine ⟨-(s + 1), fun _ => ?_, by omega, by omega, fun h' => absurd h h'⟩
      rw [wrap_small (n := s + 1) (by omega) (by omega), wrap_small (by omega) (by omega)]; omega
    · exact ⟨s, fun h' => absurd h' h, by omega, by omega, fun _ => rfl⟩
  have e3 := tmod_pos (x := s1) (n := 1099511627777) (by omega)
  have e30 : 0 ≤ s1.tmod 1099511627777 := Int.tmod_nonneg _ h1
  obtain ⟨q, hq, hq0, hqn⟩ : ∃ q, (p.tmod n < 0 → IntKind.i64.wrap (p.tmod n + n) = q) ∧ 0 ≤ q ∧ q < n ∧ (¬ p.tmod n < 0 → p.tmod n = q) := by
    by_cases h : p.tmod n < 0
    · exact ⟨p.tmod n + n, fun _ => wrap_small (by omega) (by omega), by omega, by omega, fun h' => absurd h h'⟩
    · exact ⟨p.tmod n, fun h' => absurd h' h, by omega, by omega, fun _ => rfl⟩
  have eq : IntKind.i64.wrap (1 + q.tmod n) = 1 + q := by rw [Int.tmod_eq_of_lt hq0 hqn.1]; exact wrap_small (by omega) (by omega)
  refine ⟨1 + q, n, s1.tmod 1099511627777, ?_, by omega, by omega, by omega, by omega, by omega⟩
  refine acall Try.func8 (by kernel_rfl) ?_
  conv => whnf
  refine ⟨by omega, ?_⟩
  rw [ea]
  conv => whnf
  rw [hn, en]
  refine ⟨by omega, ?_⟩
  conv => whnf
  refine br (fun hp => ?_) (fun hp => ?_)
  · have hp' : p.tmod n < 0 := of_decide_eq_true hp
    conv => whnf
    refine br (fun hh => ?_) (fun hh => ?_)
    · have hh' : s < 0 := of_decide_eq_true hh
      conv => whnf
      refine ⟨by omega, ?_⟩
      conv => whnf
      refine ⟨by omega, ?_⟩
      conv => whnf
      exact ⟨by rw [hq hp', hs hh', eq]; rfl⟩
    · have hh' : ¬ s < 0 := of_decide_eq_false hh
      conv => whnf
      refine ⟨by omega, ?_⟩
      conv => whnf
      refine ⟨by omega, ?_⟩
      conv => whnf
      exact ⟨by rw [hq hp', h2.2 hh', eq]; rfl⟩
  · have hp' : ¬ p.tmod n < 0 := of_decide_eq_false hp
    conv => whnf
    refine br (fun hh => ?_) (fun hh => ?_)
    · have hh' : s < 0 := of_decide_eq_true hh
      conv => whnf
      refine ⟨by omega, ?_⟩
      conv => whnf
      refine ⟨by omega, ?_⟩
      conv => whnf
      exact ⟨by rw [hqn.2 hp', hs hh', eq]; rfl⟩
    · have hh' : ¬ s < 0 := of_decide_eq_false hh
      conv => whnf
      refine ⟨by omega, ?_⟩
      conv => whnf
      refine ⟨by omega, ?_⟩
      conv => whnf
      exact ⟨by rw [hqn.2 hp', h2.2 hh', eq]; rfl⟩
end Go.Proofs.Ytbhpfidifbbggaa.S
