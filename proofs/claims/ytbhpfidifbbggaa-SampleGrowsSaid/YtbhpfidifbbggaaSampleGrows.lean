/-
  SampleGrows: the walk.
-/
import Derived.Test.YtbhpfidifbbggaaSampleLaws
namespace Go.Proofs.Ytbhpfidifbbggaa.S
open Go.Abs Go.Proofs
set_option maxRecDepth 10000

def parts (r q : Int) : Int := if r < q - 1 then 1 else 0

theorem grows_core (p o s a i p' o' s' k r : Int) (hlim : ACall Try.prog 8 [.d (encS p o s), .d (.int .u16 a)] (.d (encS p' o' s')))
    (hk : IntKind.i64.wrap (1 + IntKind.i64.wrap i) = k) (ho1 : 1 ≤ o') (ho2 : o' ≤ 9) (hr0 : 0 ≤ r) (hr1 : r < o')
    (c1 : ∀ q, 1 ≤ q → q ≤ o' → ACall Try.prog 11 [.d (encS q o' s'), .d (.int .i64 k)] (.d (.bool (decide (r < q)))))
    (c5 : ACall Try.prog 7 [] (.d (.bool true))) :
    ACall Try.prog 4 [.d (encS p o s), .d (.int .u16 a), .d (.int .u16 i)] (.d (.bool true)) := by
  refine acall Try.func4 (by kernel_rfl) ?_
  conv => whnf
  refine ⟨⟨_, hlim, ?_⟩⟩
  conv => whnf
  refine ⟨⟨{q : Int // 1 ≤ q ∧ q ≤ o' + 1}, fun q => mkS 67 [(7, .ptr 7 1 0), (8, .d (.int .i64 k)), (9, .d (.int .i64 (parts r q.1))), (10, .d (.int .i64 q.1))] [(7, .var [.int .i64 p', .int .i64 o', .int .i64 s'], 1)], fun q => (o' + 1 - q.1).toNat, ⟨1, by omega⟩, ?_, fun q => ?_⟩⟩
  · exact And.intro rfl (And.intro rfl (And.intro (by rw [hk]) (And.intro (by simp [parts]; omega) (And.intro rfl trivial))))
  · obtain ⟨q, hq1, hq2⟩ := q
    conv => whnf
    refine br (fun h => ?_) (fun h => ?_)
    · have hle : q ≤ o' := of_decide_eq_true h
      conv => whnf
      refine ⟨⟨by decide +kernel, by kernel_rfl⟩, ?_⟩
      conv => whnf
      refine ⟨⟨_, c1 q hq1 hle, ?_⟩⟩
      have ew : IntKind.i64.wrap (q - 1) = q - 1 := wrap_small (by omega) (by omega)
      have ew1 : IntKind.i64.wrap (q + 1) = q + 1 := wrap_small (by omega) (by omega)
      have ewp : IntKind.i64.wrap (parts r q + 1) = parts r q + 1 := wrap_small (by unfold parts; split <;> omega) (by unfold parts; split <;> omega)
      conv => whnf
      refine br (fun h1 => ?_) (fun h1 => ?_)
      · have hq : q > 1 := of_decide_eq_true h1
        conv => whnf
        rw [ew]
        refine ⟨⟨_, c1 (q - 1) (by omega) (by omega), ?_⟩⟩
        conv => whnf
        refine br (fun hb => ?_) (fun hb => ?_)
        · exfalso
          simp at hb
          omega
        · conv => whnf
          refine br (fun hc => ?_) (fun hc => ?_)
          · conv => whnf
            refine ⟨⟨q + 1, by omega⟩, ?_, by simp only; omega⟩
            exact And.intro rfl (And.intro rfl (And.intro rfl (And.intro (by rw [ewp]; simp at hc; simp only [parts]; rw [if_neg (by omega), if_pos (by omega)]; rfl) (And.intro (by rw [ew1]) trivial))))
          · conv => whnf
            refine ⟨⟨q + 1, by omega⟩, ?_, by simp only; omega⟩
            exact And.intro rfl (And.intro rfl (And.intro rfl (And.intro (by simp at hc; simp only [parts]; congr 1; split <;> split <;> omega) (And.intro (by rw [ew1]) trivial))))
      · have hq : ¬ q > 1 := of_decide_eq_false h1
        have hq' : q = 1 := by omega
        subst hq'
        conv => whnf
        refine br (fun hb => ?_) (fun hb => ?_)
        · conv => whnf
          refine ⟨⟨2, by omega⟩, ?_, by simp only; omega⟩
          exact And.intro rfl (And.intro rfl (And.intro rfl (And.intro (by rw [ewp]; simp at hb; simp only [parts]; rw [if_neg (by omega), if_pos (by omega)]; rfl) (And.intro (by rw [ew1]; rfl) trivial))))
        · conv => whnf
          refine ⟨⟨2, by omega⟩, ?_, by simp only; omega⟩
          exact And.intro rfl (And.intro rfl (And.intro rfl (And.intro (by simp at hb; simp only [parts]; rw [if_neg (by omega), if_neg (by omega)]) (And.intro (by rw [ew1]; rfl) trivial))))
    · have hq : ¬ q ≤ o' := of_decide_eq_false h
      have hp : parts r q = 1 := by simp only [parts]; rw [if_pos (by omega)]
      rw [show (⟨q, hq1, hq2⟩ : {q : Int // 1 ≤ q ∧ q ≤ o' + 1}).1 = q from rfl, hp]
      conv => whnf
      refine ⟨⟨_, c5, ?_⟩⟩
      conv => whnf
      exact ⟨by rfl⟩

theorem grows4 (p o s a i : Int) (hs0 : -9223372036854775808 ≤ s) (hs1 : s ≤ 9223372036854775807) (ha0 : 0 ≤ a) (ha1 : a ≤ 65535) (hi0 : 0 ≤ i) (hi1 : i ≤ 65535) :
    ACall Try.prog 4 [.d (encS p o s), .d (.int .u16 a), .d (.int .u16 i)] (.d (.bool true)) := by
  obtain ⟨p', o', s', hlim, h1, h2, h3, h4, h5⟩ := limited8 p o s a hs0 hs1 ha0 ha1
  have ei : IntKind.i64.wrap i = i := wrap_small (by omega) (by omega)
  have ek : IntKind.i64.wrap (1 + i) = 1 + i := wrap_small (by omega) (by omega)
  have hd := drw_bd s' (1 + i)
  refine grows_core p o s a i p' o' s' (1 + i) ((drw s' (1 + i)).tmod o') hlim (by rw [ei, ek]) (by omega) h3 (Int.tmod_nonneg _ hd.1) (Int.tmod_lt_of_pos _ (by omega)) (fun q hq1 hq2 => ?_) awake7
  have c2 := in11 q o' s' (1 + i)
  rwa [inB_yes hq1 hq2 h3 h4 h5 (by omega) (by omega)] at c2
end Go.Proofs.Ytbhpfidifbbggaa.S
