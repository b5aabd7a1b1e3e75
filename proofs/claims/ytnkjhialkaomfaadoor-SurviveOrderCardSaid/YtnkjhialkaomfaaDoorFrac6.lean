/-
  fraction: division, lowest terms, by the abstract machine.
-/
import Derived.Test.YtnkjhialkaomfaaDoorFrac5
namespace Go.Proofs.YtnkjhialkaomfaaDoor.P
open Go.Abs Go.Proofs
set_option maxRecDepth 10000

def M60 : Int := 1152921504606846976
theorem IsLen.le {x n m : Nat} (h : IsLen x n) (hx : x < 2 ^ m) : n ≤ m := by
  rcases h.2 with h0 | h0
  · omega
  · rcases Nat.lt_or_ge m n with k | k
    · have := Nat.pow_le_pow_right (n := 2) (by omega) (show m ≤ n - 1 by omega)
      omega
    · exact k
theorem isLen_of (x : Nat) : ∃ n, IsLen x n := by
  by_cases h : x = 0
  · subst h; exact ⟨0, by decide, .inl rfl⟩
  · exact ⟨x.log2 + 1, Nat.lt_log2_self, .inr (Nat.log2_self_le h)⟩

/-- What 'over' returns beside whether it fits. -/
def ovV (a b : Nat) (v : Int) : Prop := ((a / b : Nat) : Int) ≤ M60 → v = ((a / b : Nat) : Int)

set_option maxHeartbeats 1000000 in
theorem over_ (a b : Nat) (hb0 : 0 < b) (ha2 : (a : Int) < B127) (hb2 : (b : Int) < B127) :
    ∃ v, ovV a b v ∧ ACall Tryd.prog 41 [.d (W a), .d (W b)] (.tup [.d (.int .i64 v), .d (.bool (decide (((a / b : Nat) : Int) ≤ 1152921504606846976)))]) := by
  obtain ⟨la, hla⟩ := isLen_of a
  obtain ⟨lb, hlb⟩ := isLen_of b
  have hB : B127 = 170141183460469231731687303715884105728 := rfl
  have hla7 : la ≤ 127 := hla.le (by omega)
  have hlb7 : lb ≤ 127 := hlb.le (by omega)
  have hlb1 : 1 ≤ lb := by
    have := hlb.1
    rcases Nat.eq_zero_or_pos lb with h | h
    · subst h; rw [Nat.pow_zero] at this; omega
    · exact h
  have hlb2 : 2 ^ (lb - 1) ≤ b := hlb.2.resolve_left (by omega)
  refine ⟨if (la : Int) - lb > 61 then 0 else ((a / b : Nat) : Int), ?_, ?_⟩
  · intro h
    split
    · rename_i hn
      exfalso
      have h1 : 2 ^ (la - 1) ≤ a := hla.2.resolve_left (by omega)
      have h2 : 2 ^ (61 + lb) ≤ 2 ^ (la - 1) := Nat.pow_le_pow_right (by omega) (by omega)
      rw [Nat.pow_add] at h2
      have h3 := hlb.1
      have h4 : 2 ^ 61 * b ≤ 2 ^ 61 * 2 ^ lb := Nat.mul_le_mul_left _ (by omega)
      have h5 : 2 ^ 61 ≤ a / b := (Nat.le_div_iff_mul_le hb0).2 (by omega)
      unfold M60 at h
      omega
    · rfl
  refine acall Tryd.func41 (by kernel_rfl) ?_
  conv => whnf
  refine ⟨⟨by decide +kernel, by kernel_rfl⟩, ?_⟩
  conv => whnf
  refine callA (length_ a la ha2 hla) ?_
  conv => whnf
  refine callA (length_ b lb hb2 hlb) ?_
  have e : IntKind.i64.wrap ((la : Int) - lb) = (la : Int) - lb := wrap_small (by omega) (by omega)
  conv => whnf
  rw [e]
  refine br (fun h => ?_) (fun h => ?_)
  · have hn := of_decide_eq_true h
    have : decide (((a / b : Nat) : Int) ≤ 1152921504606846976) = false := by
      apply decide_eq_false
      intro h
      have h1 : 2 ^ (la - 1) ≤ a := hla.2.resolve_left (by omega)
      have h2 : 2 ^ (61 + lb) ≤ 2 ^ (la - 1) := Nat.pow_le_pow_right (by omega) (by omega)
      rw [Nat.pow_add] at h2
      have h3 := hlb.1
      have h4 : 2 ^ 61 * b ≤ 2 ^ 61 * 2 ^ lb := Nat.mul_le_mul_left _ (by omega)
      have h5 : 2 ^ 61 ≤ a / b := (Nat.le_div_iff_mul_le hb0).2 (by omega)
      omega
    rw [this, if_pos hn]
    conv => whnf
    exact ⟨rfl⟩
  have hn := of_decide_eq_false h
  rw [if_neg hn]
  have hA : a < 2 ^ 62 * b := by
    have h1 := hla.1
    have h2 : 2 ^ la ≤ 2 ^ (62 + (lb - 1)) := Nat.pow_le_pow_right (by omega) (by omega)
    rw [Nat.pow_add] at h2
    have h4 : 2 ^ 62 * 2 ^ (lb - 1) ≤ 2 ^ 62 * b := Nat.mul_le_mul_left _ hlb2
    omega
  have hInit : a < 2 ^ ((la : Int) - lb + 1).toNat * b := by
    have h1 := hla.1
    by_cases q : lb ≤ la + 1
    · have h2 : 2 ^ la = 2 ^ ((la : Int) - lb + 1).toNat * 2 ^ (lb - 1) := by rw [← Nat.pow_add]; congr 1; omega
      have h4 : 2 ^ ((la : Int) - lb + 1).toNat * 2 ^ (lb - 1) ≤ 2 ^ ((la : Int) - lb + 1).toNat * b := Nat.mul_le_mul_left _ hlb2
      omega
    · rw [show ((la : Int) - lb + 1).toNat = 0 by omega, Nat.pow_zero, Nat.one_mul]
      have := Nat.pow_le_pow_right (n := 2) (by omega) (show la ≤ lb - 1 by omega)
      omega
  conv => whnf
  refine loop {s : Int × Nat × Nat // (s.1 ≤ (la : Int) - lb ∧ -200 ≤ s.1) ∧ s.2.1 * (2 ^ (s.1 + 1).toNat * b) + s.2.2 = a ∧ s.2.2 < 2 ^ (s.1 + 1).toNat * b} (fun s => mkS 38 [(2, .ptr 2 1 0), (3, .ptr 3 1 0), (7, .d (.int .i64 s.1.2.1)), (8, .d (.int .i64 s.1.1))]
    [(2, .var [.d (.int .u64 (Hi s.1.2.2)), .d (.int .u64 (Lo s.1.2.2))], 1), (3, .var [.d (.int .u64 (Hi b)), .d (.int .u64 (Lo b))], 1)]) (fun s => (s.1.1 + 1).toNat) ⟨((la : Int) - lb, 0, a), ⟨by simp only; omega, by simp only; omega⟩, by simp, hInit⟩ ?_ fun s => ?_
  · refine leF ?_
    conv => whnf
    repeat (first | exact trivial | refine And.intro (by first | with_reducible rfl | (rw [next (by first | omega | (simp only; omega))]) | rfl) ?_)
  obtain ⟨⟨k, q, r⟩, ⟨hk1, hk0⟩, hqr, hr⟩ := s
  simp only at hk1 hk0 hqr hr
  have hq62 : q * 2 ^ (k + 1).toNat < 2 ^ 62 := by
    have : q * 2 ^ (k + 1).toNat * b < 2 ^ 62 * b := by rw [Nat.mul_assoc]; omega
    exact Nat.lt_of_mul_lt_mul_right this
  have hp := Nat.two_pow_pos (k + 1).toNat
  conv => whnf
  refine br (fun h => ?_) (fun h => ?_)
  · have hk : k ≥ 0 := of_decide_eq_true h
    obtain ⟨j, hj⟩ : ∃ j : Nat, k = j := ⟨k.toNat, by omega⟩
    subst hj
    have hpw : 2 ^ ((j : Int) + 1).toNat = 2 * 2 ^ j := by rw [show ((j : Int) + 1).toNat = j + 1 by omega, Nat.pow_succ, Nat.mul_comm]
    rw [hpw] at hqr hr hq62 hp
    have hpj := Nat.two_pow_pos j
    have hq2 : 2 * q < 2 ^ 62 := by
      have : 2 * q ≤ q * (2 * 2 ^ j) := by
        rw [← Nat.mul_assoc, Nat.mul_comm q 2]; exact Nat.le_mul_of_pos_right _ hpj
      omega
    have e2 : IntKind.i64.wrap ((q : Int) * 2) = ((2 * q : Nat) : Int) := by rw [wrap_small (by omega) (by omega)]; omega
    have e3 : IntKind.i64.wrap ((j : Int) - 1) = (j : Int) - 1 := wrap_small (by omega) (by omega)
    have hbj : b * 2 ^ j < 2 ^ 127 := by
      have h1 := hlb.1
      have h2 : b * 2 ^ j < 2 ^ lb * 2 ^ j := Nat.mul_lt_mul_of_pos_right h1 hpj
      rw [← Nat.pow_add] at h2
      have := Nat.pow_le_pow_right (n := 2) (by omega) (show lb + j ≤ 127 by omega)
      omega
    have hra : r ≤ a := by omega
    conv => whnf
    rw [e2]
    refine ⟨⟨by decide +kernel, by kernel_rfl⟩, ?_⟩
    conv => whnf
    refine callA (left_ b j (by omega)) ?_
    conv => whnf
    refine callA (minus_ r ((b * 2 ^ j : Nat) : Int)) ?_
    rw [show 2 * 2 ^ j * b = 2 * (b * 2 ^ j) from by rw [Nat.mul_assoc, Nat.mul_comm (2 ^ j) b]] at hqr hr
    have hpj1 : ((j : Int) - 1 + 1).toNat = j := by omega
    generalize hd : b * 2 ^ j = d at *
    conv => whnf
    refine callA (sign_ ((r : Int) - d) (by omega) (by omega)) ?_
    by_cases hs : (r : Int) - d < 0
    · rw [Int.sign_eq_neg_one_of_neg hs]
      conv => whnf
      refine ⟨⟨((j : Int) - 1, 2 * q, r), ⟨by simp only; omega, by simp only; omega⟩, ?_, ?_⟩, ?_, by simp only; omega⟩
      · simp only [hpj1]
        rw [Nat.mul_comm (2 ^ j) b, hd, Nat.mul_comm 2 q, Nat.mul_assoc]; exact hqr
      · simp only [hpj1]
        rw [Nat.mul_comm (2 ^ j) b, hd]; omega
      · refine leF ?_
        conv => whnf
        rw [e3]
        repeat (first | exact trivial | refine And.intro (by first | with_reducible rfl | (rw [next (by first | omega | (simp only; omega))]) | rfl) ?_)
    · have hge : ¬ (((r : Int) - d).sign < 0) := fun h => hs (Int.sign_neg_iff.1 h)
      have e4 : IntKind.i64.wrap (((2 * q : Nat) : Int) + 1) = ((2 * q + 1 : Nat) : Int) := by rw [wrap_small (by omega) (by omega)]; omega
      rw [show (r : Int) - d = ((r - d : Nat) : Int) by omega] at hge ⊢
      generalize Int.sign ((r - d : Nat) : Int) = sg at hge
      conv => whnf
      refine br (fun _ => ?_) (fun h => ?_)
      · conv => whnf
        rw [e4]
        refine ⟨⟨((j : Int) - 1, 2 * q + 1, r - d), ⟨by simp only; omega, by simp only; omega⟩, ?_, ?_⟩, ?_, by simp only; omega⟩
        · simp only [hpj1]
          rw [Nat.mul_comm (2 ^ j) b, hd, Nat.add_mul, Nat.one_mul, Nat.mul_comm 2 q, Nat.mul_assoc]; omega
        · simp only [hpj1]
          rw [Nat.mul_comm (2 ^ j) b, hd]; omega
        · refine leF ?_
          conv => whnf
          rw [e3]
          repeat (first | exact trivial | refine And.intro (by first | with_reducible rfl | (rw [next (by first | omega | (simp only; omega))]) | rfl) ?_)
      · have := of_decide_eq_false h
        omega
  · have hk : ¬ k ≥ 0 := of_decide_eq_false h
    have hk1 : (k + 1).toNat = 0 := by omega
    rw [hk1, Nat.pow_zero, Nat.one_mul] at hqr hr
    have hdiv : a / b = q := Nat.div_eq_of_lt_le (by omega) (by rw [Nat.add_mul, Nat.one_mul]; omega)
    rw [hdiv]
    conv => whnf
    exact ⟨rfl⟩
end Go.Proofs.YtnkjhialkaomfaaDoor.P
