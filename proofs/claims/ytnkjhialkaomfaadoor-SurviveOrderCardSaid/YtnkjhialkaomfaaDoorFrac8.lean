/-
  fraction: what is valid; products, by the abstract machine.
-/
import Derived.Test.YtnkjhialkaomfaaDoorFrac7
namespace Go.Proofs.YtnkjhialkaomfaaDoor.P
open Go.Abs Go.Proofs
set_option maxRecDepth 10000

/-- In lowest terms, and not too large. -/
def VF (p : Int × Int) : Prop := (1 ≤ p.2 ∧ p.2 ≤ 1152921504606846976) ∧ (-1152921504606846976 ≤ p.1 ∧ p.1 ≤ 1152921504606846976) ∧ Nat.gcd p.1.natAbs p.2.natAbs = 1
theorem valid_ (p : Int × Int) (hp : VF p) : ACall Tryd.prog 31 [.d (frD p)] (.d (.bool true)) := by
  obtain ⟨n, d⟩ := p
  obtain ⟨⟨h1, h2⟩, ⟨h3, h4⟩, h5⟩ := hp
  simp only at h1 h2 h3 h4 h5
  refine acall Tryd.func31 (by kernel_rfl) ?_
  conv => whnf
  refine br (fun _ => ?_) (fun h => ?_)
  rotate_left
  · exfalso
    have e1 : decide (d ≥ 1) = true := decide_eq_true h1
    have e2 : decide (d ≤ 1152921504606846976) = true := decide_eq_true h2
    have e3 : decide (n ≥ -1152921504606846976) = true := decide_eq_true h3
    have e4 : decide (n ≤ 1152921504606846976) = true := decide_eq_true h4
    simp only [e1, e2, e3, e4, cond_true] at h
    cases h
  conv => whnf
  refine callA (gcd_ n d (by omega) (by omega)) ?_
  rw [h5]
  conv => whnf
  exact ⟨rfl⟩

theorem prod_bound {a b : Int} (ha : -1152921504606846976 ≤ a ∧ a ≤ 1152921504606846976) (hb : -1152921504606846976 ≤ b ∧ b ≤ 1152921504606846976) : -1329227995784915872903807060280344576 ≤ a * b ∧ a * b ≤ 1329227995784915872903807060280344576 := by
  have h1 : (a * b).natAbs ≤ 1329227995784915872903807060280344576 := by
    rw [Int.natAbs_mul]
    exact Nat.mul_le_mul (show a.natAbs ≤ 1152921504606846976 by omega) (show b.natAbs ≤ 1152921504606846976 by omega)
  omega
theorem mul_ (p q : Int × Int) (hp : VF p) (hq : VF q) : ACall Tryd.prog 18 [.d (frD p), .d (frD q)]
    (.tup [.d (frD (redF (p.1 * q.1) (p.2 * q.2).toNat)), .d (.int .i64 (redE (p.1 * q.1) (p.2 * q.2).toNat))]) := by
  have vp := valid_ p hp
  have vq := valid_ q hq
  obtain ⟨a, b⟩ := p
  obtain ⟨c, d⟩ := q
  have hB : B127 = 170141183460469231731687303715884105728 := rfl
  obtain ⟨⟨h1, h2⟩, h3, _⟩ := hp
  obtain ⟨⟨k1, k2⟩, k3, _⟩ := hq
  simp only at h1 h2 h3 k1 k2 k3
  have hac := prod_bound h3 k3
  have hbd := prod_bound (a := b) (b := d) (by omega) (by omega)
  have hbd0 : 0 < b * d := Int.mul_pos (by omega) (by omega)
  have hred := reduced_ (a * c) (b * d) (by omega) (by omega) (by omega)
  rw [show nn (a * c) (b * d) = a * c from if_neg (by omega), show (b * d).natAbs = (b * d).toNat by omega] at hred
  refine acall Tryd.func18 (by kernel_rfl) ?_
  conv => whnf
  refine callA vp ?_
  conv => whnf
  refine callA vq ?_
  conv => whnf
  refine ⟨⟨by decide +kernel, by kernel_rfl⟩, ?_⟩
  conv => whnf
  refine callA (whole_ a (by omega) (by omega)) ?_
  conv => whnf
  refine callA (whole_ c (by omega) (by omega)) ?_
  conv => whnf
  refine callA (times_ a c) ?_
  conv => whnf
  refine callA (whole_ b (by omega) (by omega)) ?_
  conv => whnf
  refine callA (whole_ d (by omega) (by omega)) ?_
  conv => whnf
  refine callA (times_ b d) ?_
  conv => whnf
  refine callA hred ?_
  generalize redF (a * c) (b * d).toNat = r
  generalize redE (a * c) (b * d).toNat = e
  obtain ⟨r1, r2⟩ := r
  conv => whnf
  exact ⟨rfl⟩

/-! ### Lowest terms -/
theorem redE_eq (n : Int) (d : Nat) : redE n d = 0 ↔ okR n d = true := by
  unfold redE
  cases okR n d <;> simp
theorem redF_valid {n : Int} {d : Nat} (hd : 0 < d) (h : okR n d = true) : VF (redF n d) := by
  unfold redF
  rw [h]
  unfold okR at h
  rw [Bool.and_eq_true] at h
  have h1 := of_decide_eq_true h.1
  have h2 := of_decide_eq_true h.2
  have hg : 0 < Nat.gcd d n.natAbs := Nat.gcd_pos_of_pos_left _ hd
  have hcop : Nat.Coprime (d / Nat.gcd d n.natAbs) (n.natAbs / Nat.gcd d n.natAbs) := Nat.coprime_div_gcd_div_gcd hg
  have hd1 : 0 < d / Nat.gcd d n.natAbs := Nat.div_pos (Nat.gcd_le_left _ hd) hg
  have hn0 : n = 0 → n.natAbs / Nat.gcd d n.natAbs = 0 := by rintro rfl; simp
  generalize n.natAbs / Nat.gcd d n.natAbs = a at *
  generalize d / Nat.gcd d n.natAbs = b at *
  have hs : ((a : Int) * n.sign).natAbs = a := by
    rcases Int.sign_trichotomy n with hs | hs | hs
    · rw [hs]; omega
    · have := hn0 (Int.sign_eq_zero_iff_zero.1 hs)
      rw [hs]; omega
    · rw [hs]; omega
  refine ⟨⟨by simp only [cond_true]; omega, h2⟩, ?_, ?_⟩
  · simp only [cond_true]
    omega
  · simp only [cond_true]
    rw [hs, Int.natAbs_natCast, Nat.gcd_comm]; exact hcop
theorem VF_one : VF (1, 1) := ⟨by decide, by decide, by decide⟩
end Go.Proofs.YtnkjhialkaomfaaDoor.P
