/-
  What CorrectionsParts calls beside Concerned: has, Same, the sanity check.
-/
import Derived.Test.YtnkjhialkaomfaaCorr
namespace Go.Proofs.Ytnkjhialkaomfaa.P
open Go.Abs Go.Proofs
set_option maxRecDepth 10000

def HasK (l : List CN) (o k : Int) : Prop := ∃ p ∈ l, p.1 = o ∧ k ∈ p.2
theorem has40 (l : List CN) (o key : Int) (b : Bool) (hb : b = true ↔ HasK l o key) (hl : l.length ≤ 1000000) (hk : ∀ p ∈ l, p.2.length ≤ 1000000) :
    ACall Try.prog 22 [.d (cons l), .d (.int .i64 o), .d (.int .i64 key)] (.d (.bool b)) := by
  refine acall Try.func22 (by kernel_rfl) ?_
  conv => whnf
  refine loop {k : Nat // ∀ j (hj : j < l.length), j < k → ¬ (l[j].1 = o ∧ key ∈ l[j].2)} (fun k => mkS 35 [(1, .d (.int .i64 o)), (2, .d (.int .i64 key)), (11, .d (cons l)), (12, .d (.int .i64 l.length)), (13, .d (.int .i64 k.1))] []) (fun k => l.length - k.1) ⟨0, fun j hj h => by omega⟩ ?_ fun k => ?_
  · exact And.intro rfl (And.intro rfl (And.intro rfl (And.intro (by simp) (And.intro rfl trivial))))
  obtain ⟨k, hk1⟩ := k
  conv => whnf
  refine br (fun h => ?_) (fun h => ?_)
  · have hlt : k < l.length := by simpa using h
    have hpk := hk l[k] (List.getElem_mem hlt)
    have hmem : l[k] ∈ l := List.getElem_mem hlt
    conv => whnf
    refine ⟨⟨by first | omega | (simp only; omega), encC l[k], by simp [hlt], ?_⟩⟩
    have hnx : ¬ (l[k].1 = o ∧ key ∈ l[k].2) → ∀ j (hj : j < l.length), j < k + 1 → ¬ (l[j].1 = o ∧ key ∈ l[j].2) := by
      intro hn j hj hjk
      by_cases e : j = k
      · subst e; exact hn
      · exact hk1 j hj (by omega)
    generalize l[k] = p at hpk hmem hnx
    obtain ⟨x, ks⟩ := p
    simp only at hpk hnx
    conv => whnf
    refine loop {i : Nat // ∀ j (hj : j < ks.length), j < i → ¬ (x = o ∧ ks[j] = key)} (fun i => mkS 35 [(1, .d (.int .i64 o)), (2, .d (.int .i64 key)), (8, .ptr 8 1 0), (11, .d (cons l)), (12, .d (.int .i64 l.length)), (13, .d (.int .i64 k)), (18, .d (ints ks)), (19, .d (.int .i64 ks.length)), (20, .d (.int .i64 i.1))] [(8, .var [.d (.int .i64 x), .d (ints ks)], 1)]) (fun i => ks.length - i.1) ⟨0, fun j hj h => by omega⟩ ?_ fun i => ?_
    · refine leF ?_
      conv => whnf
      rw [show (List.map (D.int .i64) (x, ks).2).length = ks.length from by simp]
      repeat (first | exact trivial | refine And.intro (by first | with_reducible rfl | (rw [next (by first | omega | (simp only; omega))]) | rfl) ?_)
    obtain ⟨i, hi1⟩ := i
    conv => whnf
    refine br (fun h => ?_) (fun h => ?_)
    · have hlt2 : i < ks.length := by simpa using h
      conv => whnf
      refine ⟨⟨by first | omega | (simp only; omega), _, ints_get ks i hlt2, ?_⟩⟩
      conv => whnf
      refine br (fun q => ?_) (fun q => ?_)
      · have q : x = o ∧ ks[i] = key := by
          by_cases e : x = o
          · simp [e] at q; exact ⟨e, q⟩
          · simp [e] at q
        conv => whnf
        refine ⟨?_⟩
        rw [hb.2 ⟨(x, ks), hmem, q.1, q.2 ▸ List.getElem_mem hlt2⟩]; rfl
      · have q : ¬ (x = o ∧ ks[i] = key) := by
          rintro ⟨e, e2⟩
          simp [e, e2] at q
        conv => whnf
        refine ⟨⟨i + 1, fun j hj hji => ?_⟩, ?_, by show ks.length - (i + 1) < ks.length - i; omega⟩
        · by_cases e : j = i
          · subst e; exact q
          · exact hi1 j hj (by omega)
        · refine leF ?_
          conv => whnf
          repeat (first | exact trivial | refine And.intro (by first | with_reducible rfl | (rw [next (by first | omega | (simp only; omega))]) | rfl) ?_)
    · have hge : ks.length ≤ i := by simpa using h
      conv => whnf
      refine ⟨⟨k + 1, hnx ?_⟩, ?_, by show l.length - (k + 1) < l.length - k; omega⟩
      · rintro ⟨e, hm⟩
        obtain ⟨j, hj, hjk⟩ := List.getElem_of_mem hm
        exact hi1 j hj (by omega) ⟨e, hjk⟩
      · refine leF ?_
        conv => whnf
        repeat (first | exact trivial | refine And.intro (by first | with_reducible rfl | (rw [next (by first | omega | (simp only; omega))]) | rfl) ?_)
  · have hge : l.length ≤ k := by simpa using h
    conv => whnf
    refine ⟨?_⟩
    have : b = false := by
      cases b with
      | false => rfl
      | true =>
        obtain ⟨p, hp, h1, h2⟩ := hb.1 rfl
        obtain ⟨j, hj, rfl⟩ := List.getElem_of_mem hp
        exact absurd ⟨h1, h2⟩ (hk1 j hj (by omega))
    rw [this]; rfl

theorem same40 (a b : List CN) (r : Bool) (hr : r = true ↔ a = b) (ha : a.length ≤ 1000000) (hk : ∀ p ∈ a, p.2.length ≤ 1000000) :
    ACall Try.prog 32 [.d (cons a), .d (cons b)] (.d (.bool r)) := by
  have hno : a ≠ b → r = false := fun h => by
    cases r with
    | false => rfl
    | true => exact absurd (hr.1 rfl) h
  refine acall Try.func32 (by kernel_rfl) ?_
  conv => whnf
  refine br (fun h => ?_) (fun h => ?_)
  · conv => whnf
    exact ⟨by rw [hno (by rintro rfl; simp at h)]; rfl⟩
  have hl : a.length = b.length := by simp at h; omega
  conv => whnf
  refine loop {k : Nat // ∀ j (hj : j < a.length), j < k → a[j] = b[j]} (fun k => mkS 71 [(0, .d (cons a)), (1, .d (cons b)), (13, .d (.int .i64 a.length)), (14, .d (.int .i64 k.1))] []) (fun k => a.length - k.1) ⟨0, fun j hj h => by omega⟩ ?_ fun k => ?_
  · exact And.intro rfl (And.intro rfl (And.intro (by simp) (And.intro rfl trivial)))
  obtain ⟨k, hk1⟩ := k
  conv => whnf
  refine br (fun h => ?_) (fun h => ?_)
  · have hlt : k < a.length := by simpa using h
    have hlt2 : k < b.length := by omega
    have hpk := hk a[k] (List.getElem_mem hlt)
    have hne : a[k] ≠ b[k] → a ≠ b := fun h e => h (by subst e; rfl)
    have hnx : a[k] = b[k] → ∀ j (hj : j < a.length), j < k + 1 → a[j] = b[j] := by
      intro hn j hj hjk
      by_cases e : j = k
      · subst e; exact hn
      · exact hk1 j hj (by omega)
    have ga : (a.map encC)[((k : Nat) : Int).toNat]? = some (encC a[k]) := by simp [hlt]
    have gb : (b.map encC)[((k : Nat) : Int).toNat]? = some (encC b[k]) := by simp [hlt2]
    generalize a[k] = p at hpk hne hnx ga
    generalize b[k] = q at hne hnx gb
    obtain ⟨x, xs⟩ := p
    obtain ⟨y, ys⟩ := q
    simp only [Prod.mk.injEq] at hpk hnx hne
    conv => whnf
    refine ⟨⟨by decide +kernel, by kernel_rfl⟩, ?_⟩
    conv => whnf
    refine ⟨⟨by first | omega | (simp only; omega), _, ga, ?_⟩⟩
    conv => whnf
    refine ⟨⟨by first | omega | (simp only; omega), _, gb, ?_⟩⟩
    conv => whnf
    refine br (fun q => ?_) (fun q => ?_)
    · have q : x ≠ y := by simpa using q
      conv => whnf
      exact ⟨by rw [hno (hne fun e => q (Prod.mk.inj e).1)]; rfl⟩
    have q : x = y := by simpa using q
    conv => whnf
    refine ⟨⟨by first | omega | (simp only; omega), _, ga, ?_⟩⟩
    conv => whnf
    refine ⟨⟨by first | omega | (simp only; omega), _, gb, ?_⟩⟩
    conv => whnf
    refine br (fun q2 => ?_) (fun q2 => ?_)
    · conv => whnf
      exact ⟨by rw [hno (hne fun e => by rw [(Prod.mk.inj e).2] at q2; simp at q2)]; rfl⟩
    have q2 : xs.length = ys.length := by simp at q2; omega
    conv => whnf
    refine ⟨⟨by first | omega | (simp only; omega), _, ga, ?_⟩⟩
    conv => whnf
    refine loop {i : Nat // ∀ j (hj : j < xs.length), j < i → xs[j] = ys[j]} (fun i => mkS 71 [(0, .d (cons a)), (1, .d (cons b)), (5, .d (.int .i64 k)), (13, .d (.int .i64 a.length)), (14, .d (.int .i64 k)), (48, .d (.int .i64 xs.length)), (49, .d (.int .i64 i.1))] []) (fun i => xs.length - i.1) ⟨0, fun j hj h => by omega⟩ ?_ fun i => ?_
    · refine leF ?_
      conv => whnf
      rw [show (List.map (D.int .i64) (x, xs).2).length = xs.length from by simp]
      repeat (first | exact trivial | refine And.intro (by first | with_reducible rfl | (rw [next (by first | omega | (simp only; omega))]) | rfl) ?_)
    obtain ⟨i, hi1⟩ := i
    conv => whnf
    refine br (fun h => ?_) (fun h => ?_)
    · have hi : i < xs.length := by simpa using h
      have hi2 : i < ys.length := by omega
      conv => whnf
      refine ⟨⟨by decide +kernel, by kernel_rfl⟩, ?_⟩
      conv => whnf
      refine ⟨⟨by first | omega | (simp only; omega), _, ga, ?_⟩⟩
      conv => whnf
      refine ⟨⟨by first | omega | (simp only; omega), _, ints_get xs i hi, ?_⟩⟩
      conv => whnf
      refine ⟨⟨by first | omega | (simp only; omega), _, gb, ?_⟩⟩
      conv => whnf
      refine ⟨⟨by first | omega | (simp only; omega), _, ints_get ys i hi2, ?_⟩⟩
      conv => whnf
      refine br (fun q3 => ?_) (fun q3 => ?_)
      · conv => whnf
        refine ⟨?_⟩
        rw [hno (hne fun e => ?_)]
        · rfl
        · have e2 := (Prod.mk.inj e).2
          subst e2
          simp at q3
      · have q3 : xs[i] = ys[i] := by simpa using q3
        conv => whnf
        refine ⟨⟨i + 1, fun j hj hji => ?_⟩, ?_, by show xs.length - (i + 1) < xs.length - i; omega⟩
        · by_cases e : j = i
          · subst e; exact q3
          · exact hi1 j hj (by omega)
        · refine leF ?_
          conv => whnf
          repeat (first | exact trivial | refine And.intro (by first | with_reducible rfl | (rw [next (by first | omega | (simp only; omega))]) | rfl) ?_)
    · have hge : xs.length ≤ i := by simpa using h
      conv => whnf
      refine ⟨⟨k + 1, hnx ⟨q, List.ext_getElem q2 fun j h1 h2 => hi1 j h1 (by omega)⟩⟩, ?_, by show a.length - (k + 1) < a.length - k; omega⟩
      refine leF ?_
      conv => whnf
      repeat (first | exact trivial | refine And.intro (by first | with_reducible rfl | (rw [next (by first | omega | (simp only; omega))]) | rfl) ?_)
  · have hge : a.length ≤ k := by simpa using h
    conv => whnf
    refine ⟨?_⟩
    rw [hr.2 (List.ext_getElem hl fun j h1 h2 => hk1 j h1 (by omega))]; rfl

theorem asc_of (xs : List Int) (h : ∀ i, i < xs.length - 1 → xs.getD i 0 < xs.getD (i + 1) 0) : Asc xs := by
  intro i hi
  have := h i (by omega)
  simpa [List.getD, hi, show i < xs.length by omega] using this

theorem awake40 (hS : SortC) (hC : CompactC) : ACall Try.prog 17 [] (.d (.bool true)) := by
  refine acall Try.func17 (by kernel_rfl) ?_
  conv => whnf
  refine callA (concernedOK hS hC [(1, [3, 5]), (2, [4])] [5, 6] (by simp) (fun p hp => ?_) (by simp)) ?_
  · simp at hp
    rcases hp with rfl | rfl
    · exact ⟨⟨asc_of _ (by decide +kernel), by decide +kernel⟩, by simp⟩
    · exact ⟨⟨asc_of _ (by decide +kernel), by decide +kernel⟩, by simp⟩
  rw [show setI [5, 6] = [5, 6] from by
    rw [setI, sortI_eq (ys := [5, 6]) (List.Perm.refl _) (by decide +kernel)]; decide +kernel]
  rw [show conF [5, 6] [(1, [3, 5]), (2, [4])] = [(1, [5])] from by decide +kernel]
  conv => whnf
  refine callA (same40 [(1, [5])] [(1, [5])] true (by simp) (by simp) (by simp)) ?_
  conv => whnf
  exact ⟨rfl⟩
end Go.Proofs.Ytnkjhialkaomfaa.P
