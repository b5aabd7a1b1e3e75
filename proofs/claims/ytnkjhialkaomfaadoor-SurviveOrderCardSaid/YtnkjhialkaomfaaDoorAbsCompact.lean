/-
  slices.Compact at []int: the library's contract, as the machine has it.
-/
import Derived.Test.YtnkjhialkaomfaaDoorAbsSort
import Derived.Shelf.Slices.CompactI
namespace Go.Abs
open Go.Proofs Go.Shelf Go.Sort

theorem grow_none (w : World) : grow w #[] = w := by simp [grow]
theorem length_compact (xs : List Int) : (Lib.compact xs).length ≤ xs.length := by
  unfold Lib.compact Lib.compactUpTo
  rw [List.length_map]
  exact Nat.le_trans (List.length_filter_le _ _) (by simp)

theorem mcompact {P : Program} {ρ : Ren} (Ly : Lays2.n20 P ρ) (hc : callable P (ρ.f 20) = true) (e : TypeId) (xs : List Int) (hl : xs.length < 4611686018427387904) :
    MCall P (ρ.f 20) [.own 1 e (xs.map (D.int .i64))] [.any] (.own 1 e ((Lib.compact xs).map (D.int .i64))) := by
  refine ⟨hc, rfl, fun O w vs hO _ hlen hMO hinj hargs => ?_⟩
  obtain ⟨v, rfl⟩ : ∃ v, vs = #[v] := by
    obtain ⟨l⟩ := vs
    match l, hlen with
    | [v], _ => exact ⟨v, rfl⟩
  obtain ⟨_, _, vals, hrow, hL⟩ := hargs 0 v _ rfl rfl
  rw [flat_ints] at hL
  obtain rfl := vals_ints hL
  have hmut : ∀ b, blkOf v = some b → Mut #[v] [.own 1 e (xs.map (D.int .i64))] b := fun b hb => ⟨0, v, _, rfl, rfl, rfl, hb⟩
  have hnot : ∀ b, ¬ Mut #[v] [.any] b := by
    rintro b ⟨i, u, x, h1, h2, h3, _⟩
    match i, h1, h2 with
    | 0, h1, h2 => simp at h2; subst h2; simp [AV.mut] at h3
    | i + 1, h1, h2 => simp at h1
  have fin : ∀ {w' : World} {e' : Ending} {u : Value}, e' = .returned u → (∀ b, blkOf u = some b → blkOf v = some b) → BelowM w.heap.size (Mut #[v] [.own 1 e (xs.map (D.int .i64))]) w w' → RowRep w' e 1 u (Lib.compact xs).length ((Lib.compact xs).map (Value.int .i64)) →
      ∃ u, e' = .returned u ∧ BelowM w.heap.size (Mut #[v] [.own 1 e (xs.map (D.int .i64))]) w w' ∧
      RepRes (fun b => w.heap.size ≤ b ∨ (Mut #[v] [.own 1 e (xs.map (D.int .i64))] b ∧ ¬ Mut #[v] [.any] b)) (fun b => O b ∨ Mut #[v] [.any] b) w' u (.own 1 e ((Lib.compact xs).map (D.int .i64))) ∧
      ∀ (i : Nat) u' x y, #[v][i]? = some u' → [AV.own 1 e (xs.map (D.int .i64))][i]? = some x → [AV.any][i]? = some y → RepOut (fun b => O b ∨ Mut #[v] [.any] b ∨ resBlk u (.own 1 e ((Lib.compact xs).map (D.int .i64))) b) w' u' x y := by
    intro w' e' u he hbl hb hr
    refine ⟨u, he, hb, ⟨by omega, fun x hx => ?_, fun b hb' => .inr ⟨hmut b (hbl b hb'), hnot b⟩, _, by simpa using hr, by rw [flat_ints]; exact repL_ints _ _ _⟩, fun i u' x y h1 h2 h3 => ?_⟩
    · obtain ⟨n, _, rfl⟩ := List.mem_map.1 hx
      rfl
    · match i, h3 with
      | 0, h3 => simp at h3; subst h3; trivial
      | i + 1, h3 => simp at h3
  have none : xs = [] → ∀ p cap, v = .slice p 0 cap → Calls P (ρ.f 20) #[v] w fun e' w' => ∃ u, e' = .returned u ∧ BelowM w.heap.size (Mut #[v] [.own 1 e (xs.map (D.int .i64))]) w w' ∧
      RepRes (fun b => w.heap.size ≤ b ∨ (Mut #[v] [.own 1 e (xs.map (D.int .i64))] b ∧ ¬ Mut #[v] [.any] b)) (fun b => O b ∨ Mut #[v] [.any] b) w' u (.own 1 e ((Lib.compact xs).map (D.int .i64))) ∧
      ∀ (i : Nat) u' x y, #[v][i]? = some u' → [AV.own 1 e (xs.map (D.int .i64))][i]? = some x → [AV.any][i]? = some y → RepOut (fun b => O b ∨ Mut #[v] [.any] b ∨ resBlk u (.own 1 e ((Lib.compact xs).map (D.int .i64))) b) w' u' x y := by
    intro h0 p cap hv
    subst h0
    have hc := Any.slices_Compact_int_empty Ly p cap w
    rw [← hv] at hc
    refine hc.mono fun e' w' ⟨he, hw⟩ => ?_
    subst hw
    refine fin he (fun _ h => h) ⟨rfl, rfl, rfl, Nat.le_refl _, fun _ _ _ => rfl⟩ ?_
    simpa [Lib.compact, Lib.compactUpTo] using hrow
  rcases hrow with hrow' | ⟨h0, _, a, hv⟩
  · rcases hrow'.2 with ⟨hv, h0⟩ | ⟨g, cap, cur, hv, hbase, hb, h1, h2, h3, h4⟩
    · exact none (by simpa using h0) _ _ hv
    · rw [List.length_map] at h1 hv
      by_cases h00 : cap = 0
      · have hx : xs = [] := List.eq_nil_of_length_eq_zero (by omega)
        exact none hx (some ⟨g, 0, Option.none⟩) cap (by rw [hv, hx]; rfl)
      have hH : Holds (Value.int .i64) w g 0 xs.toArray := holds_of_blockI hb (by simpa using h4)
      have hc := Any.slices_Compact_int Ly g 0 cap xs w hH (by omega) h1
      rw [← hv] at hc
      refine hc.mono fun e' w' ⟨he, n, hw⟩ => ?_
      have hcl := length_compact xs
      generalize hts : Lib.compact xs ++ List.replicate (xs.length - (Lib.compact xs).length) 0 = ts at hw
      have htl : ts.length = xs.length := by rw [← hts]; simp; omega
      have hgr := grownBy_sortedI (w := w) (g := g) (n := n) (os := #[]) ts.toArray
      rw [grow_none, ← hw] at hgr
      refine fin he (fun b hb' => ?_) ⟨hgr.os, hgr.tape, hgr.output, hgr.size, fun k hk hm => hgr.block k hk fun hkg => ?_⟩ (.inl ?_)
      · rw [hv]; simpa [blkOf] using hb'
      · refine hm ⟨0, v, _, rfl, rfl, rfl, ?_⟩
        rw [hv]
        simp only [blkOf, h00, if_false]
        exact hkg.symm
      · have ho := ownsRow_sortedI (w := w) (base := 0) (g := g) (cap := cap) (n := n) (e := e) (os := #[]) (cur := cur) (ss := xs) (ts := ts) htl hbase hb h1 h2 h3
        rw [grow_none, ← hw] at ho
        refine ⟨by simp, .inr ?_⟩
        rcases ho.2 with ⟨h, _⟩ | ⟨g', cap', cur', hv', hb', hh', hn', hc', hs', ht'⟩
        · cases h
        cases hv'
        refine ⟨g, cap, cur', rfl, hb', hh', by omega, hc', hs', ?_⟩
        have : cur'.toList.take ((Lib.compact xs).length * 1) = (cur'.toList.take (xs.length * 1)).take ((Lib.compact xs).length * 1) := by
          rw [List.take_take, Nat.min_eq_left (by omega)]
        rw [this, ht', ← hts]
        simp
  · exact none (by simpa using h0) _ _ hv
end Go.Abs
