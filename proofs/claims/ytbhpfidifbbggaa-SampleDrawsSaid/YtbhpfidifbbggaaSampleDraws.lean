/-
  SampleDraws: the walk.
-/
import Derived.Test.YtbhpfidifbbggaaSampleLaws
namespace Go.Proofs.Ytbhpfidifbbggaa.S
open Go.Abs Go.Proofs
set_option maxRecDepth 10000

def dS (n : Nat) (near : Body) (xs : List Int) (p o s p' o' s' i k k1 : Int) : AS :=
  mkS 106 [(2, .d (.int .i64 i)), (3, .d (ints xs)), (9, .ptr 9 1 0), (10, .d (.int .i64 k)), (11, .sl 29 1), (32, .sl 32 1), (33, .d (.int .i64 2)), (34, .d (.int .i64 n))]
    [(9, .var [.int .i64 p', .int .i64 o', .int .i64 s'], 1), (29, near, 1), (32, .row 3 23 [encS p o s, encS p' o' s'], 1)]

set_option maxHeartbeats 1000000 in
theorem draws_core (p o s a i p' o' s' k k1 : Int) (xs : List Int) (ck : Int → Int → Int → Int) (inn : Int → Int → Int → Int → Bool) (ch : Int → Int → Int → List Int → List Int) (dr : Int → Int → Int)
    (hlim : ACall Try.prog 8 [.d (encS p o s), .d (.int .u16 a)] (.d (encS p' o' s')))
    (hk : IntKind.i64.wrap (1 + (IntKind.i64.wrap (IntKind.i64.wrap a * 7)).tmod 1048575) = k) (hk1 : IntKind.i64.wrap (k + 1) = k1)
    (cK : ∀ p o s, ACall Try.prog 9 [.d (encS p o s)] (.d (.int .i64 (ck p o s))) ∧ ACall Try.prog 10 [.d (encS p o s)] (.d (.int .i64 (ck p o s))))
    (cI : ∀ p o s i, ACall Try.prog 11 [.d (encS p o s), .d (.int .i64 i)] (.d (.bool (inn p o s i))) ∧ ACall Try.prog 12 [.d (encS p o s), .d (.int .i64 i)] (.d (.bool (inn p o s i))))
    (cC : ∀ p o s (ys : List Int), ys.length ≤ 1000 → ACall Try.prog 14 [.d (encS p o s), .d (ints ys)] (.d (ints (ch p o s ys))) ∧ ACall Try.prog 15 [.d (encS p o s), .d (ints ys)] (.d (ints (ch p o s ys))) ∧ (ch p o s ys).length ≤ 1000)
    (c2 : ∀ ys : List Int, ys.length ≤ 1000 → ACall Try.prog 13 [.d (ints ys), .d (ints ys)] (.d (.bool true)))
    (cD : ∀ s i, ACall Try.prog 16 [.d (.int .i64 s), .d (.int .i64 i)] (.d (.int .i64 (dr s i))) ∧ ACall Try.prog 17 [.d (.int .i64 s), .d (.int .i64 i)] (.d (.int .i64 (dr s i))))
    (c5 : ACall Try.prog 7 [] (.d (.bool true))) :
    ACall Try.prog 3 [.d (encS p o s), .d (.int .u16 a), .d (.int .i64 i), .d (ints xs)] (.d (.bool true)) := by
  refine acall Try.func3 (by kernel_rfl) ?_
  conv => whnf
  refine br (fun h => ?_) (fun h => ?_)
  · conv => whnf
    refine ⟨⟨_, c5, ?_⟩⟩
    conv => whnf
    exact ⟨by rfl⟩
  · have hx : xs.length ≤ 300 := by have := of_decide_eq_false h; simp only [List.length_map] at this; omega
    conv => whnf
    refine ⟨⟨_, hlim, ?_⟩⟩
    conv => whnf
    refine ⟨by omega, ?_⟩
    conv => whnf
    refine ⟨⟨{n : Nat // n ≤ 2}, fun n => dS n.1 (.frow 1 [.int .i64 k, .int .i64 k1, .int .i64 1, .int .i64 1048575, .int .i64 1048576, .int .i64 0]) xs p o s p' o' s' i k k1, fun n => 2 - n.1, ⟨0, by omega⟩, ?_, fun n => ?_⟩⟩
    · exact And.intro rfl (And.intro rfl (And.intro rfl (And.intro rfl (And.intro (by rw [hk]) (And.intro (.inr ⟨_, by rw [hk, hk1]⟩) (And.intro rfl (And.intro rfl (And.intro rfl trivial))))))))
    · obtain ⟨n, hn⟩ := n
      match n, hn with
      | 0, hn =>
        conv => whnf
        refine ⟨⟨Int.natCast_nonneg _, by simp⟩, ?_⟩
        conv => whnf
        refine ⟨⟨Int.natCast_nonneg _, _, rfl, ?_⟩⟩
        conv => whnf
        refine ⟨⟨by decide +kernel, by kernel_rfl⟩, ?_⟩
        conv => whnf
        refine ⟨⟨_, (cK p o s).1, ?_⟩⟩
        conv => whnf
        refine ⟨⟨_, (cK p o s).2, ?_⟩⟩
        conv => whnf
        refine br (fun h => by simp at h) (fun _ => ?_)
        conv => whnf
        refine ⟨⟨_, (cI p o s i).1, ?_⟩⟩
        conv => whnf
        refine ⟨⟨_, (cI p o s i).2, ?_⟩⟩
        conv => whnf
        refine br (fun h => by simp at h) (fun _ => ?_)
        conv => whnf
        refine ⟨⟨_, (cI p o s k).1, ?_⟩⟩
        conv => whnf
        refine ⟨⟨_, (cI p o s k).2, ?_⟩⟩
        conv => whnf
        refine br (fun h => by simp at h) (fun _ => ?_)
        conv => whnf
        refine ⟨⟨_, (cC p o s xs (by omega)).1, ?_⟩⟩
        conv => whnf
        refine ⟨⟨_, (cC p o s xs (by omega)).2.1, ?_⟩⟩
        conv => whnf
        refine ⟨⟨_, c2 _ ((cC p o s xs (by omega)).2.2), ?_⟩⟩
        conv => whnf
        refine ⟨⟨_, (cC p o s [k, k1, 1, 1048575, 1048576, 0] (by simp)).1, ?_⟩⟩
        conv => whnf
        refine ⟨⟨_, (cC p o s [k, k1, 1, 1048575, 1048576, 0] (by simp)).2.1, ?_⟩⟩
        conv => whnf
        refine ⟨⟨_, c2 _ ((cC p o s [k, k1, 1, 1048575, 1048576, 0] (by simp)).2.2), ?_⟩⟩
        conv => whnf
        refine ⟨⟨1, by omega⟩, ?_, by simp only; omega⟩
        exact And.intro rfl (And.intro rfl (And.intro rfl (And.intro rfl (And.intro rfl (And.intro (.inl rfl) (And.intro rfl (And.intro rfl (And.intro rfl trivial))))))))
      | 1, hn =>
        conv => whnf
        refine ⟨⟨Int.natCast_nonneg _, by simp⟩, ?_⟩
        conv => whnf
        refine ⟨⟨Int.natCast_nonneg _, _, rfl, ?_⟩⟩
        conv => whnf
        refine ⟨⟨by decide +kernel, by kernel_rfl⟩, ?_⟩
        conv => whnf
        refine ⟨⟨_, (cK p' o' s').1, ?_⟩⟩
        conv => whnf
        refine ⟨⟨_, (cK p' o' s').2, ?_⟩⟩
        conv => whnf
        refine br (fun h => by simp at h) (fun _ => ?_)
        conv => whnf
        refine ⟨⟨_, (cI p' o' s' i).1, ?_⟩⟩
        conv => whnf
        refine ⟨⟨_, (cI p' o' s' i).2, ?_⟩⟩
        conv => whnf
        refine br (fun h => by simp at h) (fun _ => ?_)
        conv => whnf
        refine ⟨⟨_, (cI p' o' s' k).1, ?_⟩⟩
        conv => whnf
        refine ⟨⟨_, (cI p' o' s' k).2, ?_⟩⟩
        conv => whnf
        refine br (fun h => by simp at h) (fun _ => ?_)
        conv => whnf
        refine ⟨⟨_, (cC p' o' s' xs (by omega)).1, ?_⟩⟩
        conv => whnf
        refine ⟨⟨_, (cC p' o' s' xs (by omega)).2.1, ?_⟩⟩
        conv => whnf
        refine ⟨⟨_, c2 _ ((cC p' o' s' xs (by omega)).2.2), ?_⟩⟩
        conv => whnf
        refine ⟨⟨_, (cC p' o' s' [k, k1, 1, 1048575, 1048576, 0] (by simp)).1, ?_⟩⟩
        conv => whnf
        refine ⟨⟨_, (cC p' o' s' [k, k1, 1, 1048575, 1048576, 0] (by simp)).2.1, ?_⟩⟩
        conv => whnf
        refine ⟨⟨_, c2 _ ((cC p' o' s' [k, k1, 1, 1048575, 1048576, 0] (by simp)).2.2), ?_⟩⟩
        conv => whnf
        refine ⟨⟨2, by omega⟩, ?_, by simp only; omega⟩
        exact And.intro rfl (And.intro rfl (And.intro rfl (And.intro rfl (And.intro rfl (And.intro (.inl rfl) (And.intro rfl (And.intro rfl (And.intro rfl trivial))))))))
      | 2, hn =>
        conv => whnf
        refine ⟨⟨by decide +kernel, by kernel_rfl⟩, ?_⟩
        conv => whnf
        refine ⟨⟨_, (cD s' k).1, ?_⟩⟩
        conv => whnf
        refine ⟨⟨_, (cD s' k).2, ?_⟩⟩
        conv => whnf
        refine br (fun _ => ?_) (fun h => by simp at h)
        conv => whnf
        refine ⟨⟨_, (cD 1099511627776 k).1, ?_⟩⟩
        conv => whnf
        refine ⟨⟨_, (cD 1099511627776 k).2, ?_⟩⟩
        conv => whnf
        refine br (fun _ => ?_) (fun h => by simp at h)
        conv => whnf
        refine ⟨⟨_, (cD 0 0).1, ?_⟩⟩
        conv => whnf
        refine ⟨⟨_, (cD 0 0).2, ?_⟩⟩
        conv => whnf
        refine br (fun _ => ?_) (fun h => by simp at h)
        conv => whnf
        refine ⟨⟨_, c5, ?_⟩⟩
        conv => whnf
        exact ⟨by rfl⟩

theorem draws3 (p o s a i : Int) (xs : List Int) (hs0 : -9223372036854775808 ≤ s) (hs1 : s ≤ 9223372036854775807) (ha0 : 0 ≤ a) (ha1 : a ≤ 65535) :
    ACall Try.prog 3 [.d (encS p o s), .d (.int .u16 a), .d (.int .i64 i), .d (ints xs)] (.d (.bool true)) := by
  obtain ⟨p', o', s', hlim, _, _, _, _, _⟩ := limited8 p o s a hs0 hs1 ha0 ha1
  refine draws_core p o s a i p' o' s' _ _ xs chk inB chosen drw hlim rfl rfl (fun p o s => ⟨check9 p o s, check10 p o s⟩) (fun p o s i => ⟨in11 p o s i, in12 p o s i⟩)
    (fun p o s ys h => ⟨chosen14 p o s ys (by omega), chosen15 p o s ys (by omega), Nat.le_trans (List.length_filter_le _ _) h⟩) (fun ys h => ?_) (fun s i => ⟨draw16 s i, draw17 s i⟩) awake7
  have := ints13 ys ys (by omega)
  simpa using this
end Go.Proofs.Ytbhpfidifbbggaa.S
