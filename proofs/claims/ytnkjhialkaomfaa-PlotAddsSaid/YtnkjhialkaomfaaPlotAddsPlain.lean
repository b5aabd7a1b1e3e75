/-
  Bins add up. No program in sight.
-/
import Derived.Test.YtnkjhialkaomfaaPlotSpec
namespace Go.Proofs.Ytnkjhialkaomfaa.P
open Go.Abs Go.Proofs

theorem low_ge {w K y : Int} (hw : 0 < w) (hK : w ∣ K) : K ≤ low w y ↔ K ≤ y := by
  have h1 := low_le w y hw
  constructor
  · intro h; omega
  · intro h
    have := low_mono hw h
    rw [(low_unique (x := K) hw hK).2 ⟨by omega, by omega⟩] at this
    exact this
/-- What the bins with q hold. -/
def sumQ (q : Int → Bool) (B : BL) : Int := (B.map fun p => if q p.1 = true then p.2 else 0).sum
theorem sumQ_snoc (q : Int → Bool) (B : BL) (p : Int × Int) : sumQ q (B ++ [p]) = sumQ q B + if q p.1 = true then p.2 else 0 := by simp [sumQ]
theorem sumQ_bound (q : Int → Bool) (B : BL) (hB : ∀ p ∈ B, 0 ≤ p.2) (k : Nat) : 0 ≤ sumQ q (B.take k) ∧ sumQ q (B.take k) ≤ sumQ (fun _ => true) B := by
  have nn : ∀ (q : Int → Bool) (B : BL), (∀ p ∈ B, 0 ≤ p.2) → 0 ≤ sumQ q B := by
    intro q B h
    induction B with
    | nil => simp [sumQ]
    | cons p r ih =>
      have := ih fun p hp => h p (by simp [hp])
      have := h p (by simp)
      simp only [sumQ, List.map_cons, List.sum_cons] at *
      split <;> omega
  have le : ∀ (B : BL), (∀ p ∈ B, 0 ≤ p.2) → sumQ q B ≤ sumQ (fun _ => true) B := by
    intro B h
    induction B with
    | nil => simp [sumQ]
    | cons p r ih =>
      have := ih fun p hp => h p (by simp [hp])
      have := h p (by simp)
      simp only [sumQ, List.map_cons, List.sum_cons, if_true] at *
      split <;> omega
  have ht : ∀ p ∈ B.take k, 0 ≤ p.2 := fun p hp => hB p (List.mem_of_mem_take hp)
  refine ⟨nn q _ ht, Int.le_trans (le _ ht) ?_⟩
  have e : sumQ (fun _ => true) B = sumQ (fun _ => true) (B.take k) + sumQ (fun _ => true) (B.drop k) := by
    conv => lhs; rw [← List.take_append_drop k B]
    simp only [sumQ, List.map_append, List.sum_append]
  have := nn (fun _ => true) (B.drop k) fun p hp => hB p (List.mem_of_mem_drop hp)
  omega
theorem sumL {w : Int} (q : Int → Bool) {L : List Int} (hL : L.Pairwise (· < ·)) : ∀ v : List Int, (∀ y ∈ v, low w y ∈ L) →
    (L.map fun m => if q m = true then cntB w m v else 0).sum = ((v.countP fun y => q (low w y) : Nat) : Int)
  | [], _ => by
    have : ∀ L : List Int, (L.map fun m => if q m = true then cntB w m [] else 0).sum = 0 := by
      intro L
      induction L with
      | nil => rfl
      | cons m r ih => simp only [List.map_cons, List.sum_cons, ih]; simp [cntB]
    simpa using this L
  | y :: v, h => by
    have ih := sumL q hL v fun z hz => h z (by simp [hz])
    have hc : ∀ m, cntB w m (y :: v) = cntB w m v + if low w y = m then 1 else 0 := by
      intro m
      unfold cntB
      rw [List.countP_cons]
      by_cases e : low w y = m <;> simp [e]
    have key : ∀ L : List Int, L.Pairwise (· < ·) → (L.map fun m => if q m = true then cntB w m (y :: v) else 0).sum = (L.map fun m => if q m = true then cntB w m v else 0).sum + if low w y ∈ L ∧ q (low w y) = true then 1 else 0 := by
      intro L
      induction L with
      | nil => intro _; simp
      | cons m r ih =>
        intro hp
        rw [List.pairwise_cons] at hp
        rw [List.map_cons, List.sum_cons, ih hp.2, List.map_cons, List.sum_cons, hc m]
        simp only [List.mem_cons]
        by_cases e : low w y = m
        · have hn : m ∉ r := fun hm => by have := hp.1 m hm; omega
          subst e
          by_cases hq : q (low w y) = true <;> simp [hq, hn] <;> omega
        · by_cases hq : q m = true <;> simp [hq, e] <;> omega
    rw [key L hL, ih, List.countP_cons]
    have hm := h y (by simp)
    by_cases hq : q (low w y) = true <;> simp [hq, hm]
theorem sumQ_bins {w : Int} {v : List Int} {B : BL} (hB : IsBins w v B) (q : Int → Bool) : sumQ q B = ((v.countP fun y => q (low w y) : Nat) : Int) := by
  rw [← sumL q hB.asc v fun y hy => by obtain ⟨c, hc⟩ := hB.all y hy; exact List.mem_map.2 ⟨_, hc, rfl⟩]
  unfold sumQ
  rw [List.map_map]
  congr 1
  refine List.map_congr_left fun p hp => ?_
  simp only [Function.comp]
  rw [hB.cnt p hp]
theorem sumQ_all {w : Int} {v : List Int} {B : BL} (hB : IsBins w v B) : sumQ (fun _ => true) B = v.length := by
  rw [sumQ_bins hB]; simp
/-- The bins of a multiple of the width are sums. -/
theorem sumQ_coarse {w n M : Int} {v : List Int} {B : BL} (hw : 0 < w) (hn : 0 < n) (hB : IsBins w v B) (hM : w * n ∣ M) : sumQ (fun m => decide (M ≤ m ∧ m < M + w * n)) B = cntB (w * n) M v := by
  rw [sumQ_bins hB, cntB]
  congr 1
  congr 1
  funext y
  have hwn : 0 < w * n := Int.mul_pos hw hn
  have h1 : w ∣ M := Int.dvd_trans (Int.dvd_mul_right w n) hM
  have h2 : w ∣ M + w * n := Int.dvd_add h1 (Int.dvd_mul_right w n)
  have e1 := low_ge (y := y) hw h1
  have e2 := low_ge (y := y) hw h2
  have e3 := low_unique (x := y) hwn hM
  rw [decide_eq_decide]
  constructor
  · intro h; exact e3.2 ⟨e1.1 h.1, by omega⟩
  · intro h; have := e3.1 h; exact ⟨e1.2 this.1, by omega⟩
end Go.Proofs.Ytnkjhialkaomfaa.P
