/-
  The package corrections (Concerned), and what it calls, by the abstract machine; sort and compact are taken as given.
-/
import Derived.Test.YtnkjhialkaomfaaDraw
import Derived.Test.YtnkjhialkaomfaaAbsCompact
namespace Go.Proofs.Ytnkjhialkaomfaa.P
open Go.Abs Go.Proofs
set_option maxRecDepth 10000

/-- Strictly ascending. -/
def Asc (xs : List Int) : Prop := ∀ i (h : i + 1 < xs.length), xs[i] < xs[i + 1]
theorem valid_ (xs : List Int) (b : Bool) (hb : b = true ↔ Asc xs) (hx : xs.length ≤ 1000000) : ACall Try.prog 42 [.d (ints xs)] (.d (.bool b)) := by
  refine acall Try.func42 (by kernel_rfl) ?_
  conv => whnf
  refine loop {k : Nat // 1 ≤ k ∧ ∀ i (h : i + 1 < xs.length), i + 1 < k → xs[i] < xs[i + 1]} (fun k => mkS 20 [(0, .d (ints xs)), (3, .d (.int .i64 k.1))] []) (fun k => xs.length - k.1) ⟨1, by omega, fun i h h2 => by omega⟩ ?_ fun k => ?_
  · exact And.intro rfl (And.intro rfl trivial)
  · obtain ⟨k, hk1, hk⟩ := k
    conv => whnf
    refine br (fun h => ?_) (fun h => ?_)
    · have hlt : k < xs.length := by simpa using h
      have e : IntKind.i64.wrap ((k : Int) - 1) = ((k - 1 : Nat) : Int) := by rw [wrap_small (by omega) (by omega)]; omega
      conv => whnf
      refine ⟨⟨by decide +kernel, by kernel_rfl⟩, ?_⟩
      conv => whnf
      refine ⟨⟨by first | omega | (simp only; omega), _, ints_get xs k hlt, ?_⟩⟩
      conv => whnf
      rw [e]
      refine ⟨⟨by first | omega | (simp only; omega), _, ints_get xs (k - 1) (by omega), ?_⟩⟩
      conv => whnf
      refine br (fun hp => ?_) (fun hp => ?_)
      · have hp := of_decide_eq_true hp
        conv => whnf
        refine ⟨?_⟩
        have : b = false := by
          cases b with
          | false => rfl
          | true =>
            have := hb.1 rfl (k - 1) (by omega)
            simp only [show k - 1 + 1 = k by omega] at this
            omega
        rw [this]; rfl
      · have hp := of_decide_eq_false hp
        conv => whnf
        refine ⟨⟨k + 1, by omega, fun i hi hik => ?_⟩, ?_, by show xs.length - (k + 1) < xs.length - k; omega⟩
        · by_cases e : i + 1 = k
          · subst e; simp at hp; exact hp
          · exact hk i hi (by omega)
        · exact And.intro rfl (And.intro (by rw [next (by first | omega | (simp only; omega))]) trivial)
    · have hge : xs.length ≤ k := by simpa using h
      conv => whnf
      refine ⟨?_⟩
      have : b = true := hb.2 fun i hi => hk i hi (by omega)
      rw [this]; rfl

def lrgK (v : Int) : Bool := bif decide (v < 0) then true else decide (v > 1048575)
theorem lrgK_iff (v : Int) : lrgK v = false ↔ 0 ≤ v ∧ v ≤ 1048575 := by
  unfold lrgK
  by_cases h : v < 0 <;> simp [h] <;> omega
theorem proper1 (v : Int) : ACall Try.prog 43 [.d (.int .i64 v)] (.d (.bool (lrgK v))) := by
  refine acall Try.func43 (by kernel_rfl) ?_
  conv => whnf
  exact ⟨by rfl⟩

abbrev CN := Int × List Int
def encC (p : CN) : D := .agg [.int .i64 p.1, ints p.2]
def cons (l : List CN) : D := .list 2 (l.map encC)
/-- An output that depends on keys. -/
def Proper (xs : List Int) : Prop := Asc xs ∧ ∀ x ∈ xs, 0 ≤ x ∧ x ≤ 1048575

theorem proper_ (p : CN) (b : Bool) (hb : b = true ↔ Proper p.2) (hx : p.2.length ≤ 1000000) : ACall Try.prog 35 [.d (encC p)] (.d (.bool b)) := by
  obtain ⟨o, xs⟩ := p
  refine acall Try.func35 (by kernel_rfl) ?_
  obtain ⟨v, hv⟩ : ∃ v : Bool, v = true ↔ Asc xs := by
    by_cases h : Asc xs
    · exact ⟨true, by simp [h]⟩
    · exact ⟨false, by simp [h]⟩
  conv => whnf
  refine callA (valid_ xs v hv hx) ?_
  conv => whnf
  refine br (fun h => ?_) (fun h => ?_)
  · conv => whnf
    refine callA (contains _ lrgK xs hx fun x _ => proper1 x) ?_
    conv => whnf
    refine ⟨?_⟩
    have : b = !xs.any lrgK := by
      rw [Bool.eq_iff_iff, hb]
      unfold Proper
      simp [hv.1 h, lrgK_iff]
    rw [this]; rfl
  · conv => whnf
    refine ⟨?_⟩
    have : b = false := by
      cases b with
      | false => rfl
      | true => have := hv.2 (hb.1 rfl).1; rw [h] at this; cases this
    rw [this]; rfl

theorem firstB_ge {α : Type} (p : α → Bool) (xs : List α) (r : Int) (hr : r = match xs.findIdx? p with | some i => (i : Int) | none => -1) : decide (r ≥ 0) = xs.any p := by
  subst hr
  cases h : xs.findIdx? p with
  | none =>
    have := List.findIdx?_eq_none_iff.1 h
    simp only [ge_iff_le, Int.reduceNeg, Int.reduceLE, decide_false]
    symm
    rw [List.any_eq_false]
    intro x hx; simp [this x hx]
  | some i =>
    obtain ⟨hi, hp, _⟩ := List.findIdx?_eq_some_iff_getElem.1 h
    simp only [ge_iff_le, Int.natCast_nonneg, decide_true]
    symm
    rw [List.any_eq_true]
    exact ⟨_, List.getElem_mem hi, hp⟩
def firstG {α : Type} (p : α → Bool) (xs : List α) : Int := match xs.findIdx? p with | some i => i | none => -1

theorem indexC (f : FuncId) (p : CN → Bool) (xs : List CN) (hx : xs.length ≤ 1000000) (hf : ∀ x ∈ xs, ACall Try.prog f [.d (encC x)] (.d (.bool (p x)))) :
    ACall Try.prog 41 [.d (cons xs), .d (.fn f [])] (.d (.int .i64 (firstG p xs))) := by
  refine acall Try.func41 (by kernel_rfl) ?_
  conv => whnf
  refine loop {k : Nat // ∀ j (hj : j < xs.length), j < k → p xs[j] = false} (fun k => mkS 19 [(0, .d (cons xs)), (1, .d (.fn f [])), (7, .d (.int .i64 xs.length)), (8, .d (.int .i64 k.1))] []) (fun k => xs.length - k.1) ⟨0, by simp⟩ ?_ fun k => ?_
  · exact And.intro rfl (And.intro rfl (And.intro (by simp) (And.intro rfl trivial)))
  · obtain ⟨k, hk⟩ := k
    conv => whnf
    refine br (fun h => ?_) (fun h => ?_)
    · have hlt : k < xs.length := by simpa using h
      conv => whnf
      refine ⟨⟨by first | omega | (simp only; omega), encC xs[k], by simp [hlt], ?_⟩⟩
      conv => whnf
      refine callA (hf xs[k] (List.getElem_mem hlt)) ?_
      conv => whnf
      refine br (fun hp => ?_) (fun hp => ?_)
      · conv => whnf
        refine ⟨?_⟩
        unfold firstG
        rw [List.findIdx?_eq_some_iff_getElem.2 ⟨hlt, hp, fun j hj => by simp [hk j (by omega) hj]⟩]
        rfl
      · conv => whnf
        refine ⟨⟨k + 1, fun j hj hjk => ?_⟩, ?_, by show xs.length - (k + 1) < xs.length - k; omega⟩
        · by_cases e : j = k
          · subst e; exact hp
          · exact hk j hj (by omega)
        · exact And.intro rfl (And.intro rfl (And.intro rfl (And.intro (by rw [next (by first | omega | (simp only; omega))]) trivial)))
    · have hge : xs.length ≤ k := by simpa using h
      conv => whnf
      refine ⟨?_⟩
      unfold firstG
      rw [List.findIdx?_eq_none_iff.2 fun x hx => by obtain ⟨j, hj, rfl⟩ := List.getElem_of_mem hx; exact hk j hj (by omega)]
      rfl
theorem containsC (f : FuncId) (p : CN → Bool) (xs : List CN) (hx : xs.length ≤ 1000000) (hf : ∀ x ∈ xs, ACall Try.prog f [.d (encC x)] (.d (.bool (p x)))) :
    ACall Try.prog 33 [.d (cons xs), .d (.fn f [])] (.d (.bool (xs.any p))) := by
  refine acall Try.func33 (by kernel_rfl) ?_
  conv => whnf
  refine callA (indexC f p xs hx hf) ?_
  conv => whnf
  exact ⟨by rw [firstB_ge p xs (firstG p xs) rfl]; rfl⟩

theorem concerned1 (p : CN) (b : Bool) (hb : b = true ↔ Proper p.2) (hx : p.2.length ≤ 1000000) : ACall Try.prog 34 [.d (encC p)] (.d (.bool !b)) := by
  refine acall Try.func34 (by kernel_rfl) ?_
  have h := proper_ p b hb hx
  obtain ⟨o, xs⟩ := p
  conv => whnf
  refine callA h ?_
  conv => whnf
  exact ⟨rfl⟩

/-- What is in two ascending lists. -/
def bothF : List Int → List Int → List Int
  | x :: a, y :: b => if x < y then bothF a (y :: b) else if x > y then bothF (x :: a) b else x :: bothF a b
  | _, _ => []
termination_by a b => a.length + b.length
theorem bothF_nil1 (b : List Int) : bothF [] b = [] := by unfold bothF; rfl
theorem bothF_nil2 (a : List Int) : bothF a [] = [] := by cases a <;> (unfold bothF; rfl)
theorem bothF_cons (x y : Int) (a b : List Int) : bothF (x :: a) (y :: b) = if x < y then bothF a (y :: b) else if x > y then bothF (x :: a) b else x :: bothF a b := by rw [bothF]
theorem bothF_len (a b : List Int) : (bothF a b).length ≤ a.length := by
  fun_induction bothF a b with
  | case1 x a y b h ih => simp; omega
  | case2 x a y b h h2 ih => simpa using ih
  | case3 x a y b h h2 ih => simp; omega
  | case4 => simp

theorem both_ (a b : List Int) (ha : a.length ≤ 1000000) (hb : b.length ≤ 1000000) : ACall Try.prog 37 [.d (ints a), .d (ints b)] (.d (ints (bothF a b))) := by
  refine acall Try.func37 (by kernel_rfl) ?_
  conv => whnf
  refine loop {s : Nat × Nat × List Int // s.1 ≤ a.length ∧ s.2.1 ≤ b.length ∧ s.2.2 ++ bothF (a.drop s.1) (b.drop s.2.1) = bothF a b} (fun s => mkS 54 [(0, .d (ints a)), (1, .d (ints b)), (5, .sl 5 1), (6, .d (.int .i64 s.1.1)), (7, .d (.int .i64 s.1.2.1))] [(5, .row 1 3 (s.1.2.2.map (D.int .i64)), 1)])
    (fun s => (a.length - s.1.1) + (b.length - s.1.2.1)) ⟨(0, 0, []), by simp⟩ ?_ fun s => ?_
  · repeat (first | exact trivial | refine And.intro (by first | with_reducible rfl | (rw [next (by first | omega | (simp only; omega))]) | rfl) ?_)
  · obtain ⟨⟨i, k, out⟩, h1, h2, h3⟩ := s
    simp only at h1 h2 h3
    conv => whnf
    refine br (fun h => ?_) (fun h => ?_)
    · have hlt : i < a.length ∧ k < b.length := by
        by_cases q : i < a.length
        · simp [q] at h; exact ⟨q, h⟩
        · simp [q] at h
      obtain ⟨hi, hk⟩ := hlt
      rw [List.drop_eq_getElem_cons hi, List.drop_eq_getElem_cons hk, bothF_cons] at h3
      conv => whnf
      refine ⟨⟨by decide +kernel, by kernel_rfl⟩, ?_⟩
      conv => whnf
      refine ⟨⟨by first | omega | (simp only; omega), _, ints_get a i hi, ?_⟩⟩
      conv => whnf
      refine ⟨⟨by first | omega | (simp only; omega), _, ints_get b k hk, ?_⟩⟩
      conv => whnf
      refine br (fun q => ?_) (fun q => ?_)
      · have q := of_decide_eq_true q
        rw [if_pos q, ← List.drop_eq_getElem_cons hk] at h3
        conv => whnf
        refine ⟨⟨(i + 1, k, out), by simp only; omega, by simp only; omega, h3⟩, ?_, by simp only; omega⟩
        repeat (first | exact trivial | refine And.intro (by first | with_reducible rfl | (rw [next (by first | omega | (simp only; omega))]) | rfl) ?_)
      have q := of_decide_eq_false q
      rw [if_neg q] at h3
      conv => whnf
      refine ⟨⟨by decide +kernel, by kernel_rfl⟩, ?_⟩
      conv => whnf
      refine ⟨⟨by first | omega | (simp only; omega), _, ints_get a i hi, ?_⟩⟩
      conv => whnf
      refine ⟨⟨by first | omega | (simp only; omega), _, ints_get b k hk, ?_⟩⟩
      conv => whnf
      refine br (fun q2 => ?_) (fun q2 => ?_)
      · have q2 := of_decide_eq_true q2
        rw [if_pos q2, ← List.drop_eq_getElem_cons hi] at h3
        conv => whnf
        refine ⟨⟨(i, k + 1, out), by simp only; omega, by simp only; omega, h3⟩, ?_, by simp only; omega⟩
        repeat (first | exact trivial | refine And.intro (by first | with_reducible rfl | (rw [next (by first | omega | (simp only; omega))]) | rfl) ?_)
      have q2 := of_decide_eq_false q2
      rw [if_neg q2] at h3
      conv => whnf
      refine ⟨⟨by first | omega | (simp only; omega), _, ints_get a i hi, ?_⟩⟩
      have hout : out.length ≤ 1000000 := by
        have := congrArg List.length h3
        have := bothF_len a b
        simp at *; omega
      conv => whnf
      refine ⟨room_int _ _ hout, ?_⟩
      rw [snoc_int]
      conv => whnf
      refine ⟨⟨(i + 1, k + 1, out ++ [a[i]]), by simp only; omega, by simp only; omega, by simpa using h3⟩, ?_, by simp only; omega⟩
      repeat (first | exact trivial | refine And.intro (by first | with_reducible rfl | (rw [next (by first | omega | (simp only; omega))]) | rfl) ?_)
    · have hge : bothF (a.drop i) (b.drop k) = [] := by
        by_cases q : i < a.length
        · simp [q] at h
          rw [show b.drop k = [] from List.drop_eq_nil_of_le h, bothF_nil2]
        · rw [show a.drop i = [] from List.drop_eq_nil_of_le (by omega), bothF_nil1]
      rw [hge, List.append_nil] at h3
      conv => whnf
      refine ⟨.inl ?_⟩
      conv => whnf
      exact ⟨by subst h3; rfl⟩

/-! ### The set of a list -/
def setI (xs : List Int) : List Int := Go.Lib.compact (sortI xs)
def CompactC : Prop := ∀ xs : List Int, xs.length < 4611686018427387904 → MCall Try.prog 56 [.own 1 3 (xs.map (D.int .i64))] [.any] (.own 1 3 ((Go.Lib.compact xs).map (D.int .i64)))

theorem set_ (hS : SortC) (hC : CompactC) (xs : List Int) (hx : xs.length ≤ 1000000) : ACall Try.prog 44 [.d (ints xs)] (.own 1 3 ((setI xs).map (D.int .i64))) := by
  refine acall Try.func44 (by kernel_rfl) ?_
  conv => whnf
  refine callA (clone xs hx) ?_
  conv => whnf
  refine callM (hS xs (by omega)) ?_
  conv => whnf
  refine callM (hC (sortI xs) (by rw [length_sortI]; omega)) ?_
  rw [show Go.Lib.compact (sortI xs) = setI xs from rfl]
  generalize setI xs = s
  conv => whnf
  refine ⟨.inr ?_⟩
  conv => whnf
  refine ⟨bare_ints s, ?_⟩
  conv => whnf
  exact ⟨rfl⟩
theorem of_ (hS : SortC) (hC : CompactC) (xs : List Int) (hx : xs.length ≤ 1000000) : ACall Try.prog 36 [.d (ints xs)] (.own 1 3 ((setI xs).map (D.int .i64))) := by
  refine acall Try.func36 (by kernel_rfl) ?_
  conv => whnf
  refine callA (set_ hS hC xs hx) ?_
  generalize setI xs = s
  conv => whnf
  refine ⟨.inr ?_⟩
  conv => whnf
  refine ⟨bare_ints s, ?_⟩
  conv => whnf
  exact ⟨rfl⟩

/-! ### Concerned -/
def conS (c : List Int) (p : CN) : Option CN := if bothF p.2 c = [] then none else some (p.1, bothF p.2 c)
def conF (c : List Int) (l : List CN) : List CN := l.filterMap (conS c)
theorem bytes_con : bytesT Try.prog 50 = 32 := by kernel_rfl
theorem size_con : sizeT Try.prog 50 = 2 := by kernel_rfl
theorem room_con (B : List CN) (y : D) (h : B.length ≤ 1000000) : (fun n : Nat => n + [y].length ≤ maxLen ∧ (n + [y].length) * bytesT Try.prog 50 ≤ 140737488355328 ∧ ([y] = [] ∨ 0 + 1 + 1 = sizeT Try.prog 50)) (B.map encC).length := by
  rw [bytes_con, size_con]
  simp only [List.length_map, List.length_cons, List.length_nil]
  exact ⟨by unfold maxLen; omega, by omega, .inr (by trivial)⟩
theorem snoc_con (B : List CN) (o : Int) (ks : List Int) : B.map encC ++ [D.agg [D.int .i64 o, ints ks]] = (B ++ [(o, ks)]).map encC := by simp [encC]
theorem conF_snoc (c : List Int) (l : List CN) (p : CN) : conF c (l ++ [p]) = conF c l ++ (conS c p).toList := by
  unfold conF
  rw [List.filterMap_append]
  congr 1
theorem conF_len (c : List Int) (l : List CN) : (conF c l).length ≤ l.length := List.length_filterMap_le _ _
theorem compact_len (xs : List Int) : (Go.Lib.compact xs).length ≤ xs.length := by
  unfold Go.Lib.compact Go.Lib.compactUpTo
  rw [List.length_map]
  exact Nat.le_trans (List.length_filter_le _ _) (by simp)
theorem setI_len (xs : List Int) : (setI xs).length ≤ xs.length := by
  have := compact_len (sortI xs)
  rw [length_sortI] at this
  exact this

/-- Concerned, where nothing is wrong with the list. -/
theorem concernedOK (hS : SortC) (hC : CompactC) (l : List CN) (keys : List Int) (hl : l.length ≤ 40) (hp : ∀ p ∈ l, Proper p.2 ∧ p.2.length ≤ 1000000) (hk : keys.length ≤ 1000000) :
    ACall Try.prog 21 [.d (cons l), .d (ints keys)] (.tup [.d (cons (conF (setI keys) l)), .d (.int .i64 0)]) := by
  refine acall Try.func21 (by kernel_rfl) ?_
  conv => whnf
  refine br (fun h => ?_) (fun h => ?_)
  · simp at h; omega
  conv => whnf
  refine callA (containsC _ (fun p => !true) l (by omega) fun p hp' => concerned1 p true (by simp [(hp p hp').1]) (hp p hp').2) ?_
  rw [show l.any (fun p => !true) = false from by simp]
  conv => whnf
  refine callA (of_ hS hC keys hk) ?_
  have hsl := setI_len keys
  generalize setI keys = c at hsl
  conv => whnf
  refine loop {k : Nat // k ≤ l.length} (fun k => mkS 40 [(6, .d (ints c)), (7, .sl 7 1), (18, .d (cons l)), (19, .d (.int .i64 l.length)), (20, .d (.int .i64 k.1))] [(7, .row 2 50 ((conF c (l.take k.1)).map encC), 1)]) (fun k => l.length - k.1) ⟨0, by omega⟩ ?_ fun k => ?_
  · refine leF ?_
    conv => whnf
    rw [show conF c (List.take 0 l) = [] from rfl, show (List.map encC l).length = l.length from by simp]
    repeat (first | exact trivial | refine And.intro (by first | with_reducible rfl | (rw [next (by first | omega | (simp only; omega))]) | rfl) ?_)
  obtain ⟨k, hkl⟩ := k
  conv => whnf
  refine br (fun h => ?_) (fun h => ?_)
  · have hlt : k < l.length := by simpa using h
    have hpk := hp l[k] (List.getElem_mem hlt)
    have hlen := conF_len c (l.take k)
    have hlen2 : (l.take k).length ≤ 40 := by simp; omega
    have hsn : conF c (l.take (k + 1)) = conF c (l.take k) ++ (conS c l[k]).toList := by rw [take_snoc l k hlt, conF_snoc]
    conv => whnf
    refine ⟨⟨by first | omega | (simp only; omega), encC l[k], by simp [hlt], ?_⟩⟩
    unfold conS at hsn
    generalize l[k] = p at hpk hsn
    obtain ⟨o, ks⟩ := p
    simp only at hpk hsn
    conv => whnf
    refine callA (both_ ks c hpk.2 (by omega)) ?_
    have hbl := bothF_len ks c
    generalize bothF ks c = r at hsn hbl
    conv => whnf
    refine br (fun q => ?_) (fun q => ?_)
    · have q : r ≠ [] := by rintro rfl; simp at q
      rw [if_neg q] at hsn
      generalize conF c (List.take k l) = B at hsn hlen
      conv => whnf
      refine ⟨room_con B _ (by omega), ?_⟩
      rw [snoc_con]
      conv => whnf
      refine ⟨⟨k + 1, hlt⟩, ?_, by show l.length - (k + 1) < l.length - k; omega⟩
      refine leF ?_
      conv => whnf
      rw [hsn]
      repeat (first | exact trivial | refine And.intro (by first | with_reducible rfl | (rw [next (by first | omega | (simp only; omega))]) | rfl) ?_)
    · have q : r = [] := by
        cases r with
        | nil => rfl
        | cons x r => simp at q
      rw [if_pos q] at hsn
      simp only [Option.toList_none, List.append_nil] at hsn
      conv => whnf
      refine ⟨⟨k + 1, hlt⟩, ?_, by show l.length - (k + 1) < l.length - k; omega⟩
      refine leF ?_
      conv => whnf
      rw [hsn]
      repeat (first | exact trivial | refine And.intro (by first | with_reducible rfl | (rw [next (by first | omega | (simp only; omega))]) | rfl) ?_)
  · have hge : l.length ≤ k := by simpa using h
    rw [List.take_of_length_le hge]
    conv => whnf
    refine ⟨.inl ?_⟩
    conv => whnf
    exact ⟨rfl⟩
end Go.Proofs.Ytnkjhialkaomfaa.P
