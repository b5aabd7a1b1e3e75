/-
  The laws of chapter 11: what the walk of each comes to.
-/
import Derived.Test.YtbhpfidifbbggaaSample
namespace Go.Proofs.Ytbhpfidifbbggaa.S
open Go.Abs Go.Proofs
set_option maxRecDepth 10000

theorem wrap_u64_bd (n : Int) : 0 ≤ IntKind.u64.wrap n ∧ IntKind.u64.wrap n < 18446744073709551616 := by
  unfold IntKind.wrap
  simp only [IntKind.signed, Bool.false_and, Bool.false_eq_true, if_false, IntKind.bits]
  exact ⟨Int.emod_nonneg _ (by decide), Int.emod_lt_of_pos _ (by decide)⟩
theorem drw_bd (s i : Int) : 0 ≤ drw s i ∧ drw s i < 4294967296 := by
  have h := wrap_u64_bd (BitVec.ofInt IntKind.u64.bits (mix1 (mixes s i 2)) ^^^ BitVec.ofInt IntKind.u64.bits ((mix1 (mixes s i 2)).fdiv (2 ^ (min (29 : Int).toNat IntKind.u64.bits)))).toNat
  have e : mixes s i 3 = IntKind.u64.wrap (BitVec.ofInt IntKind.u64.bits (mix1 (mixes s i 2)) ^^^ BitVec.ofInt IntKind.u64.bits ((mix1 (mixes s i 2)).fdiv (2 ^ (min (29 : Int).toNat IntKind.u64.bits)))).toNat := rfl
  unfold drw
  rw [e]
  generalize IntKind.u64.wrap _ = m at h
  have e2 : (2 : Int) ^ (min (32 : Int).toNat IntKind.u64.bits) = 4294967296 := by decide
  rw [e2, Int.fdiv_eq_ediv_of_nonneg _ (by omega)]
  have : m / 4294967296 < 4294967296 := by omega
  have : 0 ≤ m / 4294967296 := by omega
  rw [wrap_small (by omega) (by omega)]
  omega

theorem inB_yes {p o s i : Int} (h1 : 1 ≤ p) (h2 : p ≤ o) (h3 : o ≤ 9) (h4 : 0 ≤ s) (h5 : s ≤ 1099511627776) (h6 : 1 ≤ i) (h7 : i ≤ 1048575) : inB p o s i = decide ((drw s i).tmod o < p) := by
  have : chkB p o s = false := by simp [chkB]; omega
  have a1 : decide (i ≥ 1) = true := by simpa using h6
  have a2 : decide (i ≤ 1048575) = true := by simpa using h7
  simp [inB, this, a1, a2]
theorem inB_out {p o s i : Int} (h : i < 1 ∨ 1048575 < i) : inB p o s i = false := by
  rcases h with h | h
  · have : decide (i ≥ 1) = false := by simpa using h
    simp [inB, this]
  · have : decide (i ≤ 1048575) = false := by simpa using h
    simp [inB, this]

theorem means_core (p o s a i p' o' s' D k k2 k3 : Int) (b : Bool) (hlim : ACall Try.prog 8 [.d (encS p o s), .d (.int .u16 a)] (.d (encS p' o' s')))
    (hk : IntKind.i64.wrap (1 + IntKind.i64.wrap i) = k) (hk2 : IntKind.i64.wrap (0 - k) = k2) (hk3 : IntKind.i64.wrap (1048575 + k) = k3)
    (c1 : ACall Try.prog 16 [.d (.int .i64 s'), .d (.int .i64 k)] (.d (.int .i64 D)))
    (c2 : ACall Try.prog 11 [.d (encS p' o' s'), .d (.int .i64 k)] (.d (.bool b)))
    (c3 : ACall Try.prog 11 [.d (encS p' o' s'), .d (.int .i64 k2)] (.d (.bool false)))
    (c4 : ACall Try.prog 11 [.d (encS p' o' s'), .d (.int .i64 k3)] (.d (.bool false)))
    (c5 : ACall Try.prog 7 [] (.d (.bool true)))
    (b1 : decide (D ≥ 0) = true) (b2 : decide (D < 4294967296) = true) (ho : o' ≠ 0) (hb : decide (D.tmod o' < p') = b) :
    ACall Try.prog 6 [.d (encS p o s), .d (.int .u16 a), .d (.int .u16 i)] (.d (.bool true)) := by
  refine acall Try.func6 (by kernel_rfl) ?_
  conv => whnf
  refine ⟨⟨_, hlim, ?_⟩⟩
  conv => whnf
  rw [hk]
  refine ⟨⟨_, c1, ?_⟩⟩
  conv => whnf
  refine ⟨⟨by decide +kernel, by kernel_rfl⟩, ?_⟩
  conv => whnf
  refine br (fun _ => ?_) (fun h => by rw [b1, b2] at h; cases h)
  conv => whnf
  refine ⟨⟨_, c2, ?_⟩⟩
  conv => whnf
  refine ⟨ho, ?_⟩
  conv => whnf
  refine br (fun _ => ?_) (fun h => by rw [hb] at h; simp at h)
  conv => whnf
  rw [hk2]
  refine ⟨⟨_, c3, ?_⟩⟩
  conv => whnf
  rw [hk3]
  refine ⟨⟨_, c4, ?_⟩⟩
  conv => whnf
  refine ⟨⟨_, c5, ?_⟩⟩
  conv => whnf
  exact ⟨by first | rfl | (simp [b1, b2, hb])⟩

theorem means6 (p o s a i : Int) (hs0 : -9223372036854775808 ≤ s) (hs1 : s ≤ 9223372036854775807) (ha0 : 0 ≤ a) (ha1 : a ≤ 65535) (hi0 : 0 ≤ i) (hi1 : i ≤ 65535) :
    ACall Try.prog 6 [.d (encS p o s), .d (.int .u16 a), .d (.int .u16 i)] (.d (.bool true)) := by
  obtain ⟨p', o', s', hlim, h1, h2, h3, h4, h5⟩ := limited8 p o s a hs0 hs1 ha0 ha1
  have ei : IntKind.i64.wrap i = i := wrap_small (by omega) (by omega)
  have ek : IntKind.i64.wrap (1 + i) = 1 + i := wrap_small (by omega) (by omega)
  have en : IntKind.i64.wrap (0 - (1 + i)) = -(1 + i) := by rw [wrap_small (by omega) (by omega)]; omega
  have em : IntKind.i64.wrap (1048575 + (1 + i)) = 1048576 + i := by rw [wrap_small (by omega) (by omega)]; omega
  have hd := drw_bd s' (1 + i)
  have c1 := draw16 s' (1 + i)
  have c2 := in11 p' o' s' (1 + i)
  rw [inB_yes h1 h2 h3 h4 h5 (by omega) (by omega)] at c2
  have c3 := in11 p' o' s' (-(1 + i))
  rw [inB_out (.inl (by omega))] at c3
  have c4 := in11 p' o' s' (1048576 + i)
  rw [inB_out (.inr (by omega))] at c4
  exact means_core p o s a i p' o' s' _ (1 + i) (-(1 + i)) (1048576 + i) _ hlim (by rw [ei, ek]) en em c1 c2 c3 c4 awake7 (by simpa using hd.1) (by simpa using hd.2) (by omega) rfl
end Go.Proofs.Ytbhpfidifbbggaa.S
