/-
  The law PlotAdds, by the abstract machine.
-/
import Derived.Test.YtnkjhialkaomfaaPlotAddsPlain
import Derived.Test.YtnkjhialkaomfaaAbsLe
namespace Go.Proofs.Ytnkjhialkaomfaa.P
open Go.Abs Go.Proofs
set_option maxRecDepth 100000
set_option maxHeartbeats 4000000

theorem bins_small (hS : SortC) (v : List Int) (w : Int) (hw : 1 ≤ w) (hw2 : w ≤ 1000) (hb : ∀ x ∈ v, -10 ≤ x ∧ x ≤ 39) (hn : v.length ≤ 60) :
    ∃ A, IsBins w v A ∧ A.length ≤ 60 ∧ ACall Try.prog 11 [.d (ints v), .d (.int .i64 w)] (.tup [.d (bins A), .d (.int .i64 0)]) := by
  have e0 : errB v w = 0 := by
    have : v.any lrg = false := by
      rw [List.any_eq_false]
      intro x hx
      have := hb x hx
      simp [(lrg_iff x).2 (by omega)]
    unfold errB; rw [if_neg (by omega), if_neg (by rw [this]; simp; omega)]
  refine ⟨binsF w (sortI v), isBins (by omega) v, Nat.le_trans (binsF_len w _).1 (by rw [length_sortI]; omega), ?_⟩
  have := plotBins hS v w (by omega)
  rw [e0, show binsO v w = binsF w (sortI v) from by simp [binsO, e0]] at this
  exact this

theorem addsLaw (hS : SortC) (l : List Int) (wd tm : Int) (hl : ∀ x ∈ l, 0 ≤ x ∧ x ≤ 255) (hw0 : 0 ≤ wd) (hw1 : wd ≤ 255) (ht0 : 0 ≤ tm) (ht1 : tm ≤ 255) :
    ACall Try.prog 4 [.d (bytesD l), .d (.int .u8 wd), .d (.int .u8 tm)] (.d (.bool true)) := by
  refine acall Try.func4 (by kernel_rfl) ?_
  conv => whnf
  refine callA (values l hl) ?_
  have hb := @vals_bounds l
  have hn := vals_len l
  generalize vals l = v at hb hn
  conv => whnf
  refine ⟨by omega, ?_⟩
  conv => whnf
  refine ⟨by omega, ?_⟩
  obtain ⟨w, hw, hwa, hwb⟩ : ∃ w, IntKind.i64.wrap (1 + (IntKind.i64.wrap wd).tmod 9) = w ∧ 1 ≤ w ∧ w ≤ 9 := by
    refine ⟨_, rfl, ?_⟩
    rw [wrap_small (n := wd) (by omega) (by omega), Int.tmod_eq_emod_of_nonneg hw0, wrap_small (by omega) (by omega)]
    omega
  obtain ⟨n, hnn, hna, hnb⟩ : ∃ n, IntKind.i64.wrap (1 + (IntKind.i64.wrap tm).tmod 5) = n ∧ 1 ≤ n ∧ n ≤ 5 := by
    refine ⟨_, rfl, ?_⟩
    rw [wrap_small (n := tm) (by omega) (by omega), Int.tmod_eq_emod_of_nonneg ht0, wrap_small (by omega) (by omega)]
    omega
  have hwn : 1 ≤ w * n ∧ w * n ≤ 45 := by
    have h1 : w * n ≤ 9 * 5 := Int.mul_le_mul hwb hnb (by omega) (by omega)
    have h2 := Int.mul_pos (show 0 < w by omega) (show 0 < n by omega)
    omega
  have hwn' : IntKind.i64.wrap (w * n) = w * n := wrap_small (by omega) (by omega)
  obtain ⟨A, hA, hAl, cA⟩ := bins_small hS v w hwa (by omega) hb hn
  obtain ⟨B, hB, hBl, cB⟩ := bins_small hS v (w * n) hwn.1 (by omega) hb hn
  conv => whnf
  rw [hw, hnn]
  refine callA cA ?_
  conv => whnf
  rw [hwn']
  refine callA cB ?_
  have hAn : ∀ p ∈ A, 0 ≤ p.2 := fun p hp => by rw [hA.cnt p hp]; unfold cntB; omega
  have hBn : ∀ p ∈ B, 0 ≤ p.2 := fun p hp => by rw [hB.cnt p hp]; unfold cntB; omega
  have sA := sumQ_all hA
  have sB := sumQ_all hB
  conv => whnf
  refine loop {k : Nat // k ≤ A.length} (fun k => mkS 165 [(7, .d (ints v)), (8, .d (.int .i64 w)), (9, .d (.int .i64 n)), (10, .d (bins A)), (12, .d (bins B)), (14, .d (.int .i64 (sumQ (fun _ => true) (A.take k.1)))), (55, .d (bins A)), (56, .d (.int .i64 A.length)), (57, .d (.int .i64 k.1))] []) (fun k => A.length - k.1) ⟨0, by omega⟩ ?_ fun k => ?_
  · repeat (first | exact trivial | refine And.intro (by first | rfl | simp) ?_)
  obtain ⟨k, hk⟩ := k
  have bA := sumQ_bound (fun _ => true) A hAn k
  conv => whnf
  refine br (fun h => ?_) (fun h => ?_)
  · have hlt : k < A.length := by simp at h; omega
    have eS : sumQ (fun _ => true) (A.take (k + 1)) = sumQ (fun _ => true) (A.take k) + A[k].2 := by rw [take_snoc A k hlt, sumQ_snoc]; simp
    have bA2 := sumQ_bound (fun _ => true) A hAn (k + 1)
    have hc := hA.cnt _ (List.getElem_mem hlt)
    obtain ⟨x0, hx0, e0⟩ := hA.src _ (List.getElem_mem hlt)
    have hdv : w ∣ A[k].1 := by rw [← e0]; exact low_dvd w x0
    have hlb := low_le w x0 (by omega)
    have hxb := hb x0 hx0
    have hpos : 0 < A[k].2 := by
      rw [hc]; unfold cntB
      have : 0 < v.countP fun x => decide (low w x = A[k].1) := List.countP_pos_iff.2 ⟨x0, hx0, by simp [e0]⟩
      omega
    have hprev : 0 < k → ∃ lp cp, A[k - 1]? = some (lp, cp) ∧ lp < A[k].1 := by
      intro h0
      have hk1 : k - 1 < A.length := by omega
      refine ⟨A[k - 1].1, A[k - 1].2, by simp [hk1], ?_⟩
      have := List.pairwise_iff_getElem.1 hA.asc (k - 1) k (by simpa using hk1) (by simpa using hlt) (by omega)
      simpa using this
    conv => whnf
    refine ⟨⟨by simp only; omega, .agg [.int .i64 A[k].1, .int .i64 A[k].2], by simp [hlt, encB], ?_⟩⟩
    generalize A[k] = p at *
    obtain ⟨lo, c⟩ := p
    simp only at hc e0 hdv hpos hprev eS
    have hco : (lo.tmod w != 0) = false := by simp [Int.tmod_eq_zero_of_dvd hdv]
    conv => whnf
    refine loop {j : Nat // j ≤ v.length} (fun j => mkS 165 [(7, .d (ints v)), (8, .d (.int .i64 w)), (9, .d (.int .i64 n)), (10, .d (bins A)), (12, .d (bins B)), (14, .d (.int .i64 (sumQ (fun _ => true) (A.take k)))), (15, .d (.int .i64 k)), (16, .ptr 16 1 0), (17, .d (.int .i64 (cntB w lo (v.take j.1)))), (55, .d (bins A)), (56, .d (.int .i64 A.length)), (57, .d (.int .i64 k)), (62, .d (ints v)), (63, .d (.int .i64 v.length)), (64, .d (.int .i64 j.1))] [(16, .var [.d (.int .i64 lo), .d (.int .i64 c)], 1)]) (fun j => v.length - j.1) ⟨0, by omega⟩ ?_ fun j => ?_
    · repeat (first | exact trivial | refine And.intro (by first | rfl | simp) ?_)
    obtain ⟨j, hj⟩ := j
    have hcb : 0 ≤ cntB w lo (v.take j) ∧ cntB w lo (v.take j) ≤ j := by
      unfold cntB
      have : (v.take j).countP (fun x => decide (low w x = lo)) ≤ j := Nat.le_trans List.countP_le_length (by simp; omega)
      omega
    conv => whnf
    refine br (fun h => ?_) (fun h => ?_)
    · have hlj : j < v.length := by simp at h; omega
      have hxi := hb _ (List.getElem_mem hlj)
      have hcn : cntB w lo (v.take (j + 1)) = cntB w lo (v.take j) + if low w v[j] = lo then 1 else 0 := by rw [take_snoc v j hlj, cntB_snoc]
      have hu := low_unique (x := v[j]) (show 0 < w by omega) hdv
      conv => whnf
      refine ⟨⟨by simp only; omega, _, ints_get v j hlj, ?_⟩⟩
      generalize v[j] = y at *
      have ew : IntKind.i64.wrap (lo + w) = lo + w := wrap_small (by omega) (by omega)
      have step : ∀ (b : Bool) (e : Int), (b = true ↔ low w y = lo) → e = cntB w lo (v.take j) + (if b = true then 1 else 0) → cntB w lo (v.take (j + 1)) = e := by
        intro b e h1 h2
        rw [hcn, h2]
        by_cases hb' : b = true
        · rw [if_pos hb', if_pos (h1.1 hb')]
        · rw [if_neg hb', if_neg (fun h => hb' (h1.2 h))]
      conv => whnf
      refine br (fun h => ?_) (fun h => ?_)
      · have h := of_decide_eq_true h
        conv => whnf
        rw [ew]
        refine br (fun h2 => ?_) (fun h2 => ?_)
        · have h2 := of_decide_eq_true h2
          have eN := step true _ (by simp; omega) rfl
          conv => whnf
          refine ⟨⟨j + 1, by omega⟩, ?_, by show v.length - (j + 1) < v.length - j; omega⟩
          repeat (first | exact trivial | refine And.intro (by first | with_reducible rfl | (rw [next (by first | omega | (simp only; omega))]) | (rw [wrap_small (by simp only; omega) (by simp only; omega)]; simp only [eN, if_true])) ?_)
        · have h2 := of_decide_eq_false h2
          have eN := step false _ (by simp; omega) rfl
          conv => whnf
          refine ⟨⟨j + 1, by omega⟩, ?_, by show v.length - (j + 1) < v.length - j; omega⟩
          repeat (first | exact trivial | refine And.intro (by first | with_reducible rfl | (rw [next (by first | omega | (simp only; omega))]) | (simp [eN])) ?_)
      · have h := of_decide_eq_false h
        have eN := step false _ (by simp; omega) rfl
        conv => whnf
        refine ⟨⟨j + 1, by omega⟩, ?_, by show v.length - (j + 1) < v.length - j; omega⟩
        repeat (first | exact trivial | refine And.intro (by first | with_reducible rfl | (rw [next (by first | omega | (simp only; omega))]) | (simp [eN])) ?_)
    · conv => whnf
      refine ⟨⟨by decide +kernel, by kernel_rfl⟩, ?_⟩
      have hej : v.take j = v := List.take_of_length_le (by simp at h; omega)
      rw [hej, ← hc]
      conv => whnf
      refine br (fun h => absurd h (by simp; omega)) (fun _ => ?_)
      conv => whnf
      refine ⟨by omega, ?_⟩
      conv => whnf
      refine br (fun h => absurd h (by rw [hco]; simp)) (fun _ => ?_)
      conv => whnf
      refine br (fun h => ?_) (fun h => ?_)
      · have h0 : 0 < k := by simp at h; omega
        obtain ⟨lp, cp, hg, hlt'⟩ := hprev h0
        have ek : IntKind.i64.wrap ((k : Int) - 1) = ((k - 1 : Nat) : Int) := by rw [wrap_small (by omega) (by omega)]; omega
        conv => whnf
        rw [ek]
        refine ⟨⟨by omega, .agg [.int .i64 lp, .int .i64 cp], by simp [hg, encB], ?_⟩⟩
        conv => whnf
        refine br (fun h => absurd h (by simp; omega)) (fun _ => ?_)
        conv => whnf
        refine ⟨⟨k + 1, by omega⟩, ?_, by show A.length - (k + 1) < A.length - k; omega⟩
        repeat (first | exact trivial | refine And.intro (by first | with_reducible rfl | (rw [next (by first | omega | (simp only; omega))]) | (rw [wrap_small (by first | omega | (simp only; omega)) (by first | omega | (simp only; omega))]; simp only [eS])) ?_)
      · conv => whnf
        refine ⟨⟨k + 1, by omega⟩, ?_, by show A.length - (k + 1) < A.length - k; omega⟩
        repeat (first | exact trivial | refine And.intro (by first | with_reducible rfl | (rw [next (by first | omega | (simp only; omega))]) | (rw [wrap_small (by first | omega | (simp only; omega)) (by first | omega | (simp only; omega))]; simp only [eS])) ?_)
  have hk' : A.take k = A := List.take_of_length_le (by simp at h; omega)
  rw [hk', sA]
  clear h bA hk'
  conv => whnf
  refine loop {k : Nat // k ≤ B.length} (fun k => mkS 165 [(8, .d (.int .i64 w)), (9, .d (.int .i64 n)), (10, .d (bins A)), (14, .d (.int .i64 (v.length - sumQ (fun _ => true) (B.take k.1)))), (118, .d (bins B)), (119, .d (.int .i64 B.length)), (120, .d (.int .i64 k.1))] []) (fun k => B.length - k.1) ⟨0, Nat.zero_le _⟩ ?_ fun k => ?_
  · repeat (first | exact trivial | refine And.intro (by first | with_reducible rfl | simp [sumQ]) ?_)
  obtain ⟨k, hk⟩ := k
  have bB := sumQ_bound (fun _ => true) B hBn k
  conv => whnf
  refine br (fun h => ?_) (fun h => ?_)
  · have hlt : k < B.length := by simp at h; omega
    have eS : sumQ (fun _ => true) (B.take (k + 1)) = sumQ (fun _ => true) (B.take k) + B[k].2 := by rw [take_snoc B k hlt, sumQ_snoc]; simp
    have hc := hB.cnt _ (List.getElem_mem hlt)
    obtain ⟨x0, hx0, e0⟩ := hB.src _ (List.getElem_mem hlt)
    have hdv : w * n ∣ B[k].1 := by rw [← e0]; exact low_dvd (w * n) x0
    have hlb := low_le (w * n) x0 (by omega)
    have hxb := hb x0 hx0
    have hco := sumQ_coarse (show 0 < w by omega) (show 0 < n by omega) hA hdv
    rw [← hc] at hco
    have bB2 := sumQ_bound (fun _ => true) B hBn (k + 1)
    have hcn := hBn _ (List.getElem_mem hlt)
    conv => whnf
    refine ⟨⟨by simp only; omega, .agg [.int .i64 B[k].1, .int .i64 B[k].2], by simp [hlt, encB], ?_⟩⟩
    generalize B[k] = p at *
    obtain ⟨M, c⟩ := p
    simp only at hc e0 hdv hco eS hcn
    have ew : IntKind.i64.wrap (M + w * n) = M + w * n := wrap_small (by omega) (by omega)
    generalize hq : (fun m => decide (M ≤ m ∧ m < M + w * n)) = q at *
    conv => whnf
    refine loop {j : Nat // j ≤ A.length} (fun j => mkS 165 [(8, .d (.int .i64 w)), (9, .d (.int .i64 n)), (10, .d (bins A)), (14, .d (.int .i64 (v.length - sumQ (fun _ => true) (B.take k)))), (21, .ptr 21 1 0), (22, .d (.int .i64 (sumQ q (A.take j.1)))), (118, .d (bins B)), (119, .d (.int .i64 B.length)), (120, .d (.int .i64 k)), (124, .d (bins A)), (125, .d (.int .i64 A.length)), (126, .d (.int .i64 j.1))] [(21, .var [.d (.int .i64 M), .d (.int .i64 c)], 1)]) (fun j => A.length - j.1) ⟨0, Nat.zero_le _⟩ ?_ fun j => ?_
    · repeat (first | exact trivial | refine And.intro (by first | with_reducible rfl | simp [sumQ]) ?_)
    obtain ⟨j, hj⟩ := j
    have bj := sumQ_bound q A hAn j
    conv => whnf
    refine br (fun h => ?_) (fun h => ?_)
    · have hlj : j < A.length := by simp at h; omega
      have bj2 := sumQ_bound q A hAn (j + 1)
      have eN : sumQ q (A.take (j + 1)) = sumQ q (A.take j) + if q A[j].1 = true then A[j].2 else 0 := by rw [take_snoc A j hlj, sumQ_snoc]
      have eq : q A[j].1 = decide (M ≤ A[j].1 ∧ A[j].1 < M + w * n) := by rw [← hq]
      conv => whnf
      refine ⟨⟨by simp only; omega, .agg [.int .i64 A[j].1, .int .i64 A[j].2], by simp [hlj, encB], ?_⟩⟩
      generalize A[j] = p at *
      obtain ⟨lo, a⟩ := p
      simp only at eN eq
      conv => whnf
      refine br (fun h => ?_) (fun h => ?_)
      · have h := of_decide_eq_true h
        conv => whnf
        rw [hwn', ew]
        refine br (fun h2 => ?_) (fun h2 => ?_)
        · have h2 := of_decide_eq_true h2
          rw [eq, decide_eq_true (by omega), if_pos rfl] at eN
          conv => whnf
          refine ⟨⟨j + 1, by omega⟩, ?_, by show A.length - (j + 1) < A.length - j; omega⟩
          repeat (first | exact trivial | refine And.intro (by first | with_reducible rfl | (rw [next (by first | omega | (simp only; omega))]) | (rw [wrap_small (by simp only; omega) (by simp only; omega)]; simp only [eN])) ?_)
        · have h2 := of_decide_eq_false h2
          rw [eq, decide_eq_false (by omega), if_neg (by simp)] at eN
          conv => whnf
          refine ⟨⟨j + 1, by omega⟩, ?_, by show A.length - (j + 1) < A.length - j; omega⟩
          repeat (first | exact trivial | refine And.intro (by first | with_reducible rfl | (rw [next (by first | omega | (simp only; omega))]) | (simp [eN])) ?_)
      · have h := of_decide_eq_false h
        rw [eq, decide_eq_false (by omega), if_neg (by simp)] at eN
        conv => whnf
        refine ⟨⟨j + 1, by omega⟩, ?_, by show A.length - (j + 1) < A.length - j; omega⟩
        repeat (first | exact trivial | refine And.intro (by first | with_reducible rfl | (rw [next (by first | omega | (simp only; omega))]) | (simp [eN])) ?_)
    · have hej : A.take j = A := List.take_of_length_le (by simp at h; omega)
      rw [hej, hco]
      conv => whnf
      refine br (fun h => absurd h (by simp)) (fun _ => ?_)
      conv => whnf
      refine ⟨⟨k + 1, by omega⟩, ?_, by show B.length - (k + 1) < B.length - k; omega⟩
      repeat (first | exact trivial | refine And.intro (by first | with_reducible rfl | (rw [next (by first | omega | (simp only; omega))]) | (rw [wrap_small (by first | omega | (simp only; omega)) (by first | omega | (simp only; omega))]; simp only [eS, Int.sub_sub])) ?_)
  have hk' : B.take k = B := List.take_of_length_le (by simp at h; omega)
  rw [hk', sB, show (v.length : Int) - v.length = 0 by omega]
  conv => whnf
  refine callA (awake hS) ?_
  conv => whnf
  exact ⟨by rfl⟩
end Go.Proofs.Ytnkjhialkaomfaa.P
