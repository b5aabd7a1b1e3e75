/-
  Slices of integers: what the library does with them, by the abstract machine; sort and compact are taken as given.
-/
import Derived.Test.YtnkjhialkaomfaaDoorFrac1
import Derived.Test.YtnkjhialkaomfaaDoorAbsCompact
namespace Go.Proofs.YtnkjhialkaomfaaDoor.P
open Go.Abs Go.Proofs
set_option maxRecDepth 10000

def ints (xs : List Int) : D := .list 1 (xs.map (D.int .i64))
theorem take_snoc {α : Type} (xs : List α) (k : Nat) (h : k < xs.length) : xs.take (k + 1) = xs.take k ++ [xs[k]] := List.take_succ_eq_append_getElem h
theorem ints_get (xs : List Int) (k : Nat) (h : k < xs.length) : (xs.map (D.int .i64))[((k : Nat) : Int).toNat]? = some (D.int .i64 xs[k]) := by simp [h]
theorem bytes_int : bytesT Tryd.prog 3 = 8 := by kernel_rfl
theorem bare_ints (xs : List Int) : ∀ x ∈ xs.map (D.int .i64), ∀ y ∈ x.cells, y.bare = true := by
  intro x hx y hy
  obtain ⟨n, _, rfl⟩ := List.mem_map.1 hx
  simp [D.cells] at hy
  subst hy; rfl
def firstI (p : Int → Bool) (xs : List Int) : Int := match xs.findIdx? p with | some i => i | none => -1
theorem firstI_ge (p : Int → Bool) (xs : List Int) : decide (firstI p xs ≥ 0) = xs.any p := by
  unfold firstI
  cases h : xs.findIdx? p with
  | none =>
    have := List.findIdx?_eq_none_iff.1 h
    simp only [ge_iff_le, Int.reduceNeg, Int.reduceLE, decide_false]
    symm
    rw [List.any_eq_false]
    intro x hx; simp [this x hx]
  | some i =>
    obtain ⟨hi, hp, _⟩ := List.findIdx?_eq_some_iff_getElem.1 h
    simp only [ge_iff_le, Int.natCast_nonneg, decide_true]
    symm
    rw [List.any_eq_true]
    exact ⟨_, List.getElem_mem hi, hp⟩

theorem firstI_at {p : Int → Bool} {xs : List Int} {k : Nat} (hk : k < xs.length) (h : ∀ j (hj : j < k), p (xs[j]'(by omega)) = false) (hp : p xs[k] = true) : firstI p xs = k := by
  unfold firstI
  rw [List.findIdx?_eq_some_iff_getElem.2 ⟨hk, hp, fun j hj => by simp [h j hj]⟩]

theorem firstI_none {p : Int → Bool} {xs : List Int} (h : ∀ j (hj : j < xs.length), p xs[j] = false) : firstI p xs = -1 := by
  unfold firstI
  rw [List.findIdx?_eq_none_iff.2 fun x hx => by obtain ⟨j, hj, rfl⟩ := List.getElem_of_mem hx; exact h j hj]

theorem index (f : FuncId) (p : Int → Bool) (xs : List Int) (hx : xs.length ≤ 1000000) (hf : ∀ x ∈ xs, ACall Tryd.prog f [.d (.int .i64 x)] (.d (.bool (p x)))) :
    ACall Tryd.prog 35 [.d (ints xs), .d (.fn f [])] (.d (.int .i64 (firstI p xs))) := by
  refine acall Tryd.func35 (by kernel_rfl) ?_
  conv => whnf
  refine loop {k : Nat // ∀ j (hj : j < xs.length), j < k → p xs[j] = false} (fun k => mkS 19 [(0, .d (ints xs)), (1, .d (.fn f [])), (7, .d (.int .i64 xs.length)), (8, .d (.int .i64 k.1))] []) (fun k => xs.length - k.1) ⟨0, by simp⟩ ?_ fun k => ?_
  · exact And.intro rfl (And.intro rfl (And.intro (by simp) (And.intro rfl trivial)))
  · obtain ⟨k, hk⟩ := k
    conv => whnf
    refine br (fun h => ?_) (fun h => ?_)
    · have hlt : k < xs.length := by simpa using h
      conv => whnf
      refine ⟨⟨by simp only; omega, _, ints_get xs k hlt, ?_⟩⟩
      conv => whnf
      refine callA (hf xs[k] (List.getElem_mem hlt)) ?_
      conv => whnf
      refine br (fun hp => ?_) (fun hp => ?_)
      · conv => whnf
        exact ⟨by rw [firstI_at hlt (fun j hj => hk j (by omega) hj) hp]; rfl⟩
      · conv => whnf
        refine ⟨⟨k + 1, fun j hj hjk => ?_⟩, ?_, by show xs.length - (k + 1) < xs.length - k; omega⟩
        · by_cases e : j = k
          · subst e; exact hp
          · exact hk j hj (by omega)
        · exact And.intro rfl (And.intro rfl (And.intro rfl (And.intro (by rw [next (by first | omega | (simp only; omega))]) trivial)))
    · have hge : xs.length ≤ k := by simpa using h
      conv => whnf
      exact ⟨by rw [firstI_none fun j hj => hk j hj (by omega)]; rfl⟩

theorem contains (f : FuncId) (p : Int → Bool) (xs : List Int) (hx : xs.length ≤ 1000000) (hf : ∀ x ∈ xs, ACall Tryd.prog f [.d (.int .i64 x)] (.d (.bool (p x)))) :
    ACall Tryd.prog 20 [.d (ints xs), .d (.fn f [])] (.d (.bool (xs.any p))) := by
  refine acall Tryd.func20 (by kernel_rfl) ?_
  conv => whnf
  refine callA (index f p xs hx hf) ?_
  conv => whnf
  exact ⟨by rw [firstI_ge]; rfl⟩

theorem clone (xs : List Int) (hx : xs.length ≤ 1000000) : ACall Tryd.prog 22 [.d (ints xs)] (.own 1 3 (xs.map (D.int .i64))) := by
  refine acall Tryd.func22 (by kernel_rfl) ?_
  conv => whnf
  refine ⟨fun b hb => ?_⟩
  cases b with
  | true =>
    have : xs = [] := by
      cases xs with
      | nil => rfl
      | cons x r => have := hb (by simp); simp at this
    subst this
    conv => whnf
    refine ⟨.inr ?_⟩
    conv => whnf
    refine ⟨fun x hx => by simp at hx, ?_⟩
    conv => whnf
    exact ⟨rfl⟩
  | false =>
    conv => whnf
    refine ⟨?_, ?_⟩
    · rw [bytes_int]
      simp only [List.length_map, List.length_nil]
      exact ⟨by unfold maxLen; omega, by omega, .inr (by trivial)⟩
    conv => whnf
    refine ⟨.inr ?_⟩
    conv => whnf
    refine ⟨by rw [List.nil_append]; exact bare_ints xs, ?_⟩
    conv => whnf
    exact ⟨rfl⟩

def bytesD (l : List Int) : D := .list 1 (l.map (D.int .u8))
theorem room_int (B : List Int) (y : D) (h : B.length ≤ 1000000) : (fun n : Nat => n + [y].length ≤ maxLen ∧ (n + [y].length) * bytesT Tryd.prog 3 ≤ 140737488355328 ∧ ([y] = [] ∨ 0 + 1 = sizeT Tryd.prog 3)) (B.map (D.int .i64)).length := by
  rw [bytes_int]
  simp only [List.length_map, List.length_cons, List.length_nil]
  exact ⟨by unfold maxLen; omega, by omega, .inr (by kernel_rfl)⟩
theorem snoc_int (B : List Int) (x : Int) : B.map (D.int .i64) ++ [D.int .i64 x] = (B ++ [x]).map (D.int .i64) := by simp
def sortI (xs : List Int) : List Int := xs.mergeSort fun x y => decide (x ≤ y)
def SortC : Prop := ∀ xs : List Int, xs.length < 4611686018427387904 → MCall Tryd.prog 23 [.own 1 3 (xs.map (D.int .i64))] [.own 1 3 ((sortI xs).map (D.int .i64))] (.tup [])
theorem length_sortI (xs : List Int) : (sortI xs).length = xs.length := by simp [sortI, List.length_mergeSort]
theorem mem_sortI {x : Int} {xs : List Int} : x ∈ sortI xs ↔ x ∈ xs := by simp [sortI, List.mem_mergeSort]
theorem sortI_eq {xs ys : List Int} (hp : xs.Perm ys) (hs : ys.Pairwise (· ≤ ·)) : sortI xs = ys := by
  refine List.Perm.eq_of_pairwise (le := (· ≤ ·)) (fun a b _ _ h1 h2 => Int.le_antisymm h1 h2) ?_ hs ((List.mergeSort_perm xs _).trans hp)
  have := List.pairwise_mergeSort (le := fun x y : Int => decide (x ≤ y)) (fun a b c h1 h2 => by simp at *; omega) (fun a b => by simp; omega) xs
  exact this.imp (by simp)
def setI (xs : List Int) : List Int := Go.Lib.compact (sortI xs)
def CompactC : Prop := ∀ xs : List Int, xs.length < 4611686018427387904 → MCall Tryd.prog 24 [.own 1 3 (xs.map (D.int .i64))] [.any] (.own 1 3 ((Go.Lib.compact xs).map (D.int .i64)))
theorem compact_len (xs : List Int) : (Go.Lib.compact xs).length ≤ xs.length := by
  unfold Go.Lib.compact Go.Lib.compactUpTo
  rw [List.length_map]
  exact Nat.le_trans (List.length_filter_le _ _) (by simp)
theorem setI_len (xs : List Int) : (setI xs).length ≤ xs.length := by
  have := compact_len (sortI xs)
  rw [length_sortI] at this
  exact this
theorem compactUpTo_sorted (d : Array Int) (hd : ∀ i, i + 1 < d.size → d[i]! ≤ d[i + 1]!) : ∀ m, m ≤ d.size → (Go.Lib.compactUpTo d m).Pairwise (· < ·) ∧ (∀ x, x ∈ Go.Lib.compactUpTo d m ↔ ∃ j, j < m ∧ d[j]! = x) ∧ ∀ x ∈ Go.Lib.compactUpTo d m, x ≤ d[m - 1]! := by
  intro m
  induction m with
  | zero => intro _; simp [Go.Lib.compactUpTo]
  | succ m ih =>
    intro hm
    obtain ⟨h1, h2, h3⟩ := ih (by omega)
    rw [Go.Lib.compactUpTo_succ]
    by_cases hz : m = 0
    · subst hz
      have : Go.Lib.compactUpTo d 0 = [] := rfl
      rw [this]
      have hk : Go.Lib.keeps d 0 = true := Go.Lib.keeps_lt_one d 0 (by omega)
      rw [if_pos hk]
      refine ⟨by simp, fun x => ?_, by simp⟩
      constructor
      · intro h; simp at h; exact ⟨0, by omega, h.symm⟩
      · rintro ⟨j, hj, rfl⟩; have : j = 0 := by omega
        subst this; simp
    have hle := hd (m - 1) (by omega)
    rw [show m - 1 + 1 = m by omega] at hle
    by_cases he : d[m]! = d[m - 1]!
    · rw [Go.Lib.keeps_neg (by omega) he]
      simp only [Bool.false_eq_true, if_false, List.append_nil]
      refine ⟨h1, fun x => ?_, fun x hx => ?_⟩
      · rw [h2]
        constructor
        · rintro ⟨j, hj, rfl⟩; exact ⟨j, by omega, rfl⟩
        · rintro ⟨j, hj, rfl⟩
          by_cases e : j = m
          · subst e; exact ⟨j - 1, by omega, he.symm⟩
          · exact ⟨j, by omega, rfl⟩
      · have := h3 x hx
        rw [show m + 1 - 1 = m by omega, he]; exact this
    · rw [Go.Lib.keeps_pos he, if_pos rfl]
      refine ⟨List.pairwise_append.2 ⟨h1, by simp, fun a ha b hb => ?_⟩, fun x => ?_, fun x hx => ?_⟩
      · simp at hb; subst hb
        have := h3 a ha; omega
      · rw [List.mem_append, h2]
        constructor
        · rintro (⟨j, hj, rfl⟩ | h)
          · exact ⟨j, by omega, rfl⟩
          · simp at h; exact ⟨m, by omega, h.symm⟩
        · rintro ⟨j, hj, rfl⟩
          by_cases e : j = m
          · subst e; exact .inr (by simp)
          · exact .inl ⟨j, by omega, rfl⟩
      · rw [show m + 1 - 1 = m by omega]
        rcases List.mem_append.1 hx with hx | hx
        · have := h3 x hx; omega
        · simp at hx; omega
theorem sorted_sortI (xs : List Int) : (sortI xs).Pairwise (· ≤ ·) := by
  have := List.pairwise_mergeSort (le := fun x y : Int => decide (x ≤ y)) (fun a b c h1 h2 => by simp at *; omega) (fun a b => by simp; omega) xs
  exact this.imp (by simp)
theorem setI_spec (xs : List Int) : (setI xs).Pairwise (· < ·) ∧ ∀ x, x ∈ setI xs ↔ x ∈ xs := by
  have hs := sorted_sortI xs
  have hm : ∀ x, x ∈ sortI xs ↔ x ∈ xs := fun x => mem_sortI
  unfold setI
  generalize sortI xs = s at hs hm
  have hg : ∀ i (h : i < s.length), s.toArray[i]! = s[i] := fun i h => by simp [h]
  obtain ⟨h1, h2, _⟩ := compactUpTo_sorted s.toArray (fun i hi => by
    have hi : i + 1 < s.length := by simpa using hi
    rw [hg i (by omega), hg (i + 1) hi]
    exact List.pairwise_iff_getElem.1 hs i (i + 1) (by omega) hi (by omega)) s.length (by simp)
  refine ⟨h1, fun x => ?_⟩
  unfold Go.Lib.compact
  rw [h2, ← hm]
  constructor
  · rintro ⟨j, hj, rfl⟩; rw [hg j hj]; exact List.getElem_mem hj
  · intro h
    obtain ⟨j, hj, rfl⟩ := List.getElem_of_mem h
    exact ⟨j, hj, hg j hj⟩
end Go.Proofs.YtnkjhialkaomfaaDoor.P
