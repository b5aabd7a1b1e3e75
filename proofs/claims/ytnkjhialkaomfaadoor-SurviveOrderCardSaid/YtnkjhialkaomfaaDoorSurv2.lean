/-
  What the laws of survive share: At, Same, times, the sanity check.
-/
import Derived.Test.YtnkjhialkaomfaaDoorSurv1
namespace Go.Proofs.YtnkjhialkaomfaaDoor.P
open Go.Abs Go.Proofs
set_option maxRecDepth 10000

def atF (l : List St) (k : Int) : Int × Int := l.foldl (fun out s => if s.time ≤ k then s.fr else out) (1, 1)
theorem atF_snoc (l : List St) (s : St) (k : Int) : atF (l ++ [s]) k = if s.time ≤ k then s.fr else atF l k := by simp [atF]
theorem at_ (l : List St) (k : Int) (hl : l.length ≤ 1000000) : ACall Tryd.prog 13 [.d (sts l), .d (.int .i64 k)] (.d (frD (atF l k))) := by
  refine acall Tryd.func13 (by kernel_rfl) ?_
  conv => whnf
  refine loop {i : Nat // i ≤ l.length} (fun i => mkS 23 [(1, .d (.int .i64 k)), (4, .ptr 4 1 0), (5, .ptr 5 1 0), (9, .d (sts l)), (10, .d (.int .i64 l.length)), (11, .d (.int .i64 i.1))]
    [(4, .var [.d (.int .i64 0), .d (.int .i64 0)], 1), (5, .var [.d (.int .i64 (atF (l.take i.1) k).1), .d (.int .i64 (atF (l.take i.1) k).2)], 1)]) (fun i => l.length - i.1) ⟨0, by omega⟩ ?_ fun i => ?_
  · refine leF ?_
    conv => whnf
    rw [show atF (List.take 0 l) k = (1, 1) from rfl, show (List.map encS l).length = l.length from by simp]
    repeat (first | exact trivial | refine And.intro (by first | with_reducible rfl | (rw [next (by first | omega | (simp only; omega))]) | rfl) ?_)
  obtain ⟨i, hi⟩ := i
  conv => whnf
  refine br (fun h => ?_) (fun h => ?_)
  · have hlt : i < l.length := by simpa using h
    have hsn := atF_snoc (l.take i) l[i] k
    rw [← take_snoc l i hlt] at hsn
    conv => whnf
    refine ⟨⟨by first | omega | (simp only; omega), encS l[i], by simp [hlt], ?_⟩⟩
    generalize l[i] = s at hsn
    obtain ⟨t, a, b, c, ⟨n, d⟩⟩ := s
    simp only at hsn
    conv => whnf
    refine br (fun q => ?_) (fun q => ?_)
    · have q : t ≤ k := of_decide_eq_true q
      rw [if_pos q] at hsn
      conv => whnf
      refine ⟨⟨i + 1, hlt⟩, ?_, by show l.length - (i + 1) < l.length - i; omega⟩
      refine leF ?_
      conv => whnf
      rw [hsn]
      repeat (first | exact trivial | refine And.intro (by first | with_reducible rfl | (rw [next (by first | omega | (simp only; omega))]) | rfl) ?_)
    · have q : ¬ t ≤ k := of_decide_eq_false q
      rw [if_neg q] at hsn
      conv => whnf
      refine ⟨⟨i + 1, hlt⟩, ?_, by show l.length - (i + 1) < l.length - i; omega⟩
      refine leF ?_
      conv => whnf
      rw [hsn]
      repeat (first | exact trivial | refine And.intro (by first | with_reducible rfl | (rw [next (by first | omega | (simp only; omega))]) | rfl) ?_)
  · have hge : l.length ≤ i := by simpa using h
    rw [List.take_of_length_le hge]
    conv => whnf
    exact ⟨rfl⟩

theorem same20 (a b : List St) (r : Bool) (hr : r = true ↔ a = b) (ha : a.length ≤ 1000000) : ACall Tryd.prog 14 [.d (sts a), .d (sts b)] (.d (.bool r)) := by
  have hno : a ≠ b → r = false := fun h => by
    cases r with
    | false => rfl
    | true => exact absurd (hr.1 rfl) h
  refine acall Tryd.func14 (by kernel_rfl) ?_
  conv => whnf
  refine br (fun h => ?_) (fun h => ?_)
  · conv => whnf
    exact ⟨by rw [hno (by rintro rfl; simp at h)]; rfl⟩
  have hl : a.length = b.length := by simp at h; omega
  conv => whnf
  refine loop {k : Nat // ∀ j (hj : j < a.length), j < k → a[j] = b[j]} (fun k => mkS 26 [(0, .d (sts a)), (1, .d (sts b)), (5, .d (.int .i64 k.1))] []) (fun k => a.length - k.1) ⟨0, fun j hj h => by omega⟩ ?_ fun k => ?_
  · refine leF ?_
    conv => whnf
    repeat (first | exact trivial | refine And.intro (by first | with_reducible rfl | (rw [next (by first | omega | (simp only; omega))]) | rfl) ?_)
  obtain ⟨k, hk1⟩ := k
  conv => whnf
  refine br (fun h => ?_) (fun h => ?_)
  · have hlt : k < a.length := by have := of_decide_eq_true h; simp only [List.length_map] at this; omega
    have hlt2 : k < b.length := by omega
    have hne : a[k] ≠ b[k] → a ≠ b := fun h e => h (by subst e; rfl)
    have hnx : a[k] = b[k] → ∀ j (hj : j < a.length), j < k + 1 → a[j] = b[j] := by
      intro hn j hj hjk
      by_cases e : j = k
      · subst e; exact hn
      · exact hk1 j hj (by omega)
    have ga : (a.map encS)[((k : Nat) : Int).toNat]? = some (encS a[k]) := by simp [hlt]
    have gb : (b.map encS)[((k : Nat) : Int).toNat]? = some (encS b[k]) := by simp [hlt2]
    generalize a[k] = p at hne hnx ga
    generalize b[k] = q at hne hnx gb
    obtain ⟨x1, x2, x3, x4, ⟨x5, x6⟩⟩ := p
    obtain ⟨y1, y2, y3, y4, ⟨y5, y6⟩⟩ := q
    conv => whnf
    refine ⟨⟨by decide +kernel, by kernel_rfl⟩, ?_⟩
    conv => whnf
    refine ⟨⟨by first | omega | (simp only; omega), _, ga, ?_⟩⟩
    conv => whnf
    refine ⟨⟨by first | omega | (simp only; omega), _, gb, ?_⟩⟩
    conv => whnf
    refine ⟨⟨by kernel_rfl, by kernel_rfl⟩, ?_⟩
    conv => whnf
    refine ⟨by kernel_rfl, ?_⟩
    conv => whnf
    refine ⟨by kernel_rfl, ?_⟩
    conv => whnf
    refine br (fun q => ?_) (fun q => ?_)
    · conv => whnf
      exact ⟨by rw [hno (hne fun e => by cases e; simp at q)]; rfl⟩
    · have q : x1 = y1 ∧ x2 = y2 ∧ x3 = y3 ∧ x4 = y4 ∧ x5 = y5 ∧ x6 = y6 := by simpa using q
      obtain ⟨rfl, rfl, rfl, rfl, rfl, rfl⟩ := q
      conv => whnf
      refine ⟨⟨k + 1, hnx rfl⟩, ?_, by show a.length - (k + 1) < a.length - k; omega⟩
      refine leF ?_
      conv => whnf
      repeat (first | exact trivial | refine And.intro (by first | with_reducible rfl | (rw [next (by first | omega | (simp only; omega))]) | rfl) ?_)
  · have hge : a.length ≤ k := by have := of_decide_eq_false h; simp only [List.length_map] at this; omega
    conv => whnf
    refine ⟨?_⟩
    rw [hr.2 (List.ext_getElem hl fun j h1 h2 => hk1 j h1 (by omega))]; rfl

def pers (codes : List Int) (n : Nat) : PS := (codes.take n).map fun c => (c / 2 % 16, c % 2 == 1)
theorem bytes_bool : bytesT Tryd.prog 4 = 1 := by kernel_rfl
theorem room_bool (B : List Bool) (y : D) (h : B.length ≤ 1000000) : (fun n : Nat => n + [y].length ≤ maxLen ∧ (n + [y].length) * bytesT Tryd.prog 4 ≤ 140737488355328 ∧ ([y] = [] ∨ 0 + 1 = sizeT Tryd.prog 4)) (B.map D.bool).length := by
  rw [bytes_bool]
  simp only [List.length_map, List.length_cons, List.length_nil]
  exact ⟨by unfold maxLen; omega, by omega, .inr (by kernel_rfl)⟩
theorem snoc_bool (B : List Bool) (x : Bool) : B.map D.bool ++ [D.bool x] = (B ++ [x]).map D.bool := by simp
theorem bare_bools (xs : List Bool) : ∀ x ∈ xs.map D.bool, ∀ y ∈ x.cells, y.bare = true := by
  intro x hx y hy
  obtain ⟨n, _, rfl⟩ := List.mem_map.1 hx
  simp [D.cells] at hy
  subst hy; rfl
theorem and1 (x : Int) (h0 : 0 ≤ x) (h1 : x ≤ 255) : IntKind.u8.wrap ((BitVec.ofInt IntKind.u8.bits x &&& BitVec.ofInt IntKind.u8.bits 1).toNat : Int) = x % 2 := by
  have e : (BitVec.ofInt IntKind.u8.bits x &&& BitVec.ofInt IntKind.u8.bits 1).toNat = (x % 256).toNat &&& 1 := by
    rw [BitVec.toNat_and, BitVec.toNat_ofInt, BitVec.toNat_ofInt]; rfl
  rw [e, Nat.and_one_is_mod, wrapB]; omega
theorem timesL (codes : List Int) (n : Nat) (hc : ∀ x ∈ codes, 0 ≤ x ∧ x ≤ 255) (hn : n ≤ 1000) :
    ACall Tryd.prog 8 [.d (bytesD codes), .d (.int .i64 n)] (.tup [.own 1 3 ((tm (pers codes n)).map (D.int .i64)), .own 1 4 ((es (pers codes n)).map D.bool)]) := by
  refine acall Tryd.func8 (by kernel_rfl) ?_
  conv => whnf
  refine loop {i : Nat // i ≤ n} (fun i => mkS 41 [(0, .d (bytesD codes)), (1, .d (.int .i64 n)), (6, .sl 6 1), (7, .sl 7 1), (8, .d (.int .i64 i.1))]
    [(6, .row 1 3 ((tm (pers codes i.1)).map (D.int .i64)), 1), (7, .row 1 4 ((es (pers codes i.1)).map D.bool), 1)]) (fun i => n - i.1) ⟨0, by omega⟩ ?_ fun i => ?_
  · refine leF ?_
    conv => whnf
    repeat (first | exact trivial | refine And.intro (by first | with_reducible rfl | (rw [next (by first | omega | (simp only; omega))]) | rfl) ?_)
  obtain ⟨i, hi⟩ := i
  conv => whnf
  refine br (fun h => ?_) (fun h => ?_)
  · have hlt : i < codes.length ∧ i < n := by
      by_cases q : i < codes.length
      · simp [q] at h; exact ⟨q, h⟩
      · simp [q] at h
    obtain ⟨hlt, hltn⟩ := hlt
    have hb := hc _ (List.getElem_mem hlt)
    have hsn : pers codes (i + 1) = pers codes i ++ [(codes[i] / 2 % 16, codes[i] % 2 == 1)] := by unfold pers; rw [take_snoc codes i hlt, List.map_append]; rfl
    have hpl : (pers codes i).length ≤ 1000 := by simp [pers]; omega
    have hg : (codes.map (D.int .u8))[((i : Nat) : Int).toNat]? = some (.int .u8 codes[i]) := by simp [hlt]
    generalize codes[i] = c at hb hsn hg
    have e1 : c.fdiv (2 ^ min (Int.toNat 1) IntKind.u8.bits) = c / 2 := fdivP c 1
    have e2 : IntKind.i64.wrap (c / 2) = c / 2 := wrap_small (by omega) (by omega)
    have e3 : (c / 2).tmod 16 = c / 2 % 16 := Int.tmod_eq_emod_of_nonneg (by omega)
    generalize pers codes i = B at *
    conv => whnf
    refine ⟨⟨by decide +kernel, by kernel_rfl⟩, ?_⟩
    conv => whnf
    refine ⟨⟨by first | omega | (simp only; omega), _, hg, ?_⟩⟩
    conv => whnf
    refine ⟨by omega, ?_⟩
    conv => whnf
    refine ⟨by omega, ?_⟩
    rw [e1, e2, e3]
    conv => whnf
    refine ⟨room_int (tm B) _ (by simp [tm]; omega), ?_⟩
    rw [snoc_int]
    conv => whnf
    refine ⟨⟨by first | omega | (simp only; omega), _, hg, ?_⟩⟩
    conv => whnf
    rw [and1 c hb.1 hb.2]
    refine ⟨room_bool (es B) _ (by simp [es]; omega), ?_⟩
    rw [snoc_bool]
    conv => whnf
    refine ⟨⟨i + 1, hltn⟩, ?_, by show n - (i + 1) < n - i; omega⟩
    refine leF ?_
    conv => whnf
    rw [hsn, show tm (B ++ [(c / 2 % 16, c % 2 == 1)]) = tm B ++ [c / 2 % 16] from by simp [tm], show es (B ++ [(c / 2 % 16, c % 2 == 1)]) = es B ++ [c % 2 == 1] from by simp [es]]
    repeat (first | exact trivial | refine And.intro (by first | with_reducible rfl | (rw [next (by first | omega | (simp only; omega))]) | rfl) ?_)
  · have hge : pers codes i = pers codes n := by
      unfold pers
      by_cases q : i < codes.length
      · simp [q] at h
        rw [show i = n by omega]
      · rw [List.take_of_length_le (by omega), List.take_of_length_le (by omega)]
    rw [hge]
    generalize pers codes n = B
    conv => whnf
    refine ⟨.inr ?_⟩
    conv => whnf
    refine ⟨bare_ints _, ?_⟩
    conv => whnf
    refine ⟨.inr ?_⟩
    conv => whnf
    refine ⟨bare_bools _, ?_⟩
    conv => whnf
    exact ⟨rfl⟩

theorem mod_ (k n : Int) (hn : 1 ≤ n) (hn2 : n ≤ 1000000) : ACall Tryd.prog 10 [.d (.int .i64 k), .d (.int .i64 n)] (.d (.int .i64 (k % n))) := by
  have h1 := Int.lt_tmod_of_pos k (show 0 < n by omega)
  have h2 := Int.tmod_lt_of_pos k (show 0 < n by omega)
  have h3 := Int.emod_nonneg k (show n ≠ 0 by omega)
  have h4 := Int.emod_lt_of_pos k (show 0 < n by omega)
  have h5 := Int.mul_tdiv_add_tmod k n
  have h6 := Int.mul_ediv_add_emod k n
  have key : k % n = if k.tmod n < 0 then k.tmod n + n else k.tmod n := by
    have he : (k.tmod n - k % n) = n * (k / n - k.tdiv n) := by rw [Int.mul_sub]; omega
    generalize k / n - k.tdiv n = q at he
    generalize k.tmod n = a at *
    generalize k % n = b at *
    have hq : -2 < q ∧ q < 2 := by
      constructor
      · rcases Int.lt_trichotomy (-2) q with h | h | h
        · exact h
        · rw [← h] at he; omega
        · have := Int.mul_le_mul_of_nonneg_left (show q ≤ -2 by omega) (show 0 ≤ n by omega); omega
      · rcases Int.lt_trichotomy q 2 with h | h | h
        · exact h
        · rw [h] at he; omega
        · have := Int.mul_le_mul_of_nonneg_left (show 2 ≤ q by omega) (show 0 ≤ n by omega); omega
    rcases (show q = -1 ∨ q = 0 ∨ q = 1 by omega) with h | h | h <;> subst h <;> split <;> omega
  refine acall Tryd.func10 (by kernel_rfl) ?_
  conv => whnf
  refine br (fun h => ?_) (fun h => ?_)
  · have := of_decide_eq_true h; omega
  conv => whnf
  refine ⟨by omega, ?_⟩
  conv => whnf
  refine br (fun h => ?_) (fun h => ?_)
  · have h := of_decide_eq_true h
    rw [key, if_pos h]
    conv => whnf
    exact ⟨by rw [wrap_small (by omega) (by omega)]; rfl⟩
  · have h := of_decide_eq_false h
    rw [key, if_neg h]
    conv => whnf
    exact ⟨rfl⟩

def demo : PS := [(1, true), (2, false), (2, true)]
theorem demo_steps : stepsF demo = ([⟨1, 3, 1, 0, (2, 3)⟩, ⟨2, 2, 1, 1, (1, 3)⟩], 0) := by
  unfold stepsF
  rw [show setI (tm demo) = [1, 2] from by
    rw [setI, sortI_eq (ys := [1, 2, 2]) (by decide +kernel) (by decide +kernel)]; decide +kernel]
  kernel_rfl
theorem awake20 (hS : SortC) (hC : CompactC) : ACall Tryd.prog 11 [] (.d (.bool true)) := by
  refine acall Tryd.func11 (by kernel_rfl) ?_
  conv => whnf
  refine callA (steps_ hS hC demo (by decide) (by decide +kernel)) ?_
  rw [demo_steps]
  conv => whnf
  refine ⟨⟨by decide +kernel, by kernel_rfl⟩, ?_⟩
  conv => whnf
  refine ⟨⟨by omega, _, rfl, ?_⟩⟩
  conv => whnf
  refine ⟨⟨by kernel_rfl, by kernel_rfl⟩, ?_⟩
  conv => whnf
  refine ⟨by kernel_rfl, ?_⟩
  conv => whnf
  refine ⟨by kernel_rfl, ?_⟩
  conv => whnf
  refine ⟨⟨by omega, _, rfl, ?_⟩⟩
  conv => whnf
  refine ⟨⟨by kernel_rfl, by kernel_rfl⟩, ?_⟩
  conv => whnf
  refine ⟨by kernel_rfl, ?_⟩
  conv => whnf
  refine ⟨by kernel_rfl, ?_⟩
  conv => whnf
  refine callA (at_ [⟨1, 3, 1, 0, (2, 3)⟩, ⟨2, 2, 1, 1, (1, 3)⟩] 0 (by simp)) ?_
  rw [show atF [⟨1, 3, 1, 0, (2, 3)⟩, ⟨2, 2, 1, 1, (1, 3)⟩] 0 = (1, 1) from rfl]
  conv => whnf
  refine ⟨⟨by kernel_rfl, by kernel_rfl⟩, ?_⟩
  conv => whnf
  refine ⟨by kernel_rfl, ?_⟩
  conv => whnf
  refine callA (at_ [⟨1, 3, 1, 0, (2, 3)⟩, ⟨2, 2, 1, 1, (1, 3)⟩] 9 (by simp)) ?_
  rw [show atF [⟨1, 3, 1, 0, (2, 3)⟩, ⟨2, 2, 1, 1, (1, 3)⟩] 9 = (1, 3) from rfl]
  conv => whnf
  refine ⟨⟨by omega, _, rfl, ?_⟩⟩
  conv => whnf
  refine ⟨⟨by kernel_rfl, by kernel_rfl⟩, ?_⟩
  conv => whnf
  refine ⟨by kernel_rfl, ?_⟩
  conv => whnf
  exact ⟨rfl⟩
end Go.Proofs.YtnkjhialkaomfaaDoor.P
