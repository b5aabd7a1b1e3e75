/-
  SampleAlone: the walk.
-/
import Derived.Test.YtbhpfidifbbggaaSampleLaws
namespace Go.Proofs.Ytbhpfidifbbggaa.S
open Go.Abs Go.Proofs
set_option maxRecDepth 10000

theorem alone_core (p o s a p' o' s' : Int) (xs : List Int) (ch : List Int → List Int) (hlim : ACall Try.prog 8 [.d (encS p o s), .d (.int .u16 a)] (.d (encS p' o' s')))
    (c1 : ∀ ys : List Int, ys.length ≤ 1000 → ACall Try.prog 14 [.d (encS p' o' s'), .d (ints ys)] (.d (ints (ch ys))))
    (hc1 : ∀ x, (ch [x]).length ≤ 1) (hc2 : ∀ ys, ch ys = ys.flatMap fun x => ch [x])
    (c2 : ∀ ys : List Int, ys.length ≤ 1000 → ACall Try.prog 13 [.d (ints ys), .d (ints ys)] (.d (.bool true)))
    (c5 : ACall Try.prog 7 [] (.d (.bool true))) :
    ACall Try.prog 5 [.d (encS p o s), .d (.int .u16 a), .d (ints xs)] (.d (.bool true)) := by
  refine acall Try.func5 (by kernel_rfl) ?_
  conv => whnf
  refine br (fun h => ?_) (fun h => ?_)
  · conv => whnf
    refine ⟨⟨_, c5, ?_⟩⟩
    conv => whnf
    exact ⟨by rfl⟩
  · have hx : xs.length ≤ 100 := by have := of_decide_eq_false h; simp only [List.length_map] at this; omega
    conv => whnf
    refine ⟨⟨_, hlim, ?_⟩⟩
    conv => whnf
    have hbd : ∀ k, ((xs.take k).flatMap fun x => ch [x]).length ≤ xs.length := by
      intro k
      have : ∀ ys : List Int, (ys.flatMap fun x => ch [x]).length ≤ ys.length := by
        intro ys
        induction ys with
        | nil => simp
        | cons y r ih => simp only [List.flatMap_cons, List.length_append, List.length_cons]; have := hc1 y; omega
      exact Nat.le_trans (this _) (List.length_take_le' _ _)
    have hb8 : bytesT Try.prog 3 = 8 := by kernel_rfl
    refine ⟨⟨Nat, fun k => mkS 39 [(2, .d (ints xs)), (7, .ptr 7 1 0), (8, .sl 8 1), (18, .d (ints xs)), (19, .d (.int .i64 xs.length)), (20, .d (.int .i64 k))] [(7, .var [.int .i64 p', .int .i64 o', .int .i64 s'], 1), (8, .row 1 3 (((xs.take k).flatMap fun x => ch [x]).map (D.int .i64)), 1)], fun k => xs.length - k, 0, ?_, fun k => ?_⟩⟩
    · exact And.intro rfl (And.intro rfl (And.intro rfl (And.intro (by simp) (And.intro rfl (And.intro (by simp) (And.intro rfl trivial))))))
    · conv => whnf
      refine br (fun h => ?_) (fun h => ?_)
      · have hlt : k < xs.length := by simpa using h
        conv => whnf
        refine ⟨⟨by omega, _, ints_get xs k hlt, ?_⟩⟩
        conv => whnf
        refine ⟨⟨_, c1 [xs[k]] (by simp), ?_⟩⟩
        conv => whnf
        have hroom : (((xs.take k).flatMap fun x => ch [x]).map (D.int .i64)).length + ((ch [xs[k]]).map (D.int .i64)).length ≤ 101 := by
          have h1 := hbd k
          have h2 := hc1 xs[k]
          simp only [List.length_map]; omega
        refine ⟨⟨by unfold maxLen; omega, by rw [hb8]; omega, .inr rfl⟩, ?_⟩
        conv => whnf
        have hw : IntKind.i64.wrap ((k : Int) + 1) = ((k + 1 : Nat) : Int) := by rw [wrap_small (by omega) (by omega)]; rfl
        refine ⟨k + 1, ?_, by show xs.length - (k + 1) < xs.length - k; omega⟩
        refine And.intro rfl (And.intro rfl (And.intro rfl (And.intro ?_ (And.intro rfl (And.intro rfl (And.intro (by rw [hw]) trivial))))))
        show Body.row _ _ _ = Body.row _ _ _
        rw [take_snoc xs k hlt, List.flatMap_append, List.map_append]
        simp
      · conv => whnf
        have hge : xs.length ≤ k := by simpa using h
        refine ⟨⟨_, c1 xs (by omega), ?_⟩⟩
        rw [List.take_of_length_le hge, ← hc2]
        conv => whnf
        refine ⟨⟨_, c2 (ch xs) (by rw [hc2]; have := hbd xs.length; simp only [List.take_length] at this; omega), ?_⟩⟩
        conv => whnf
        refine ⟨⟨_, c5, ?_⟩⟩
        conv => whnf
        exact ⟨by rfl⟩

theorem alone5 (p o s a : Int) (xs : List Int) (hs0 : -9223372036854775808 ≤ s) (hs1 : s ≤ 9223372036854775807) (ha0 : 0 ≤ a) (ha1 : a ≤ 65535) :
    ACall Try.prog 5 [.d (encS p o s), .d (.int .u16 a), .d (ints xs)] (.d (.bool true)) := by
  obtain ⟨p', o', s', hlim, _, _, _, _, _⟩ := limited8 p o s a hs0 hs1 ha0 ha1
  refine alone_core p o s a p' o' s' xs (chosen p' o' s') hlim (fun ys h => chosen14 p' o' s' ys (by omega)) (fun x => ?_) (fun ys => ?_) (fun ys h => ?_) awake7
  · exact Nat.le_trans (List.length_filter_le _ _) (by simp)
  · induction ys with
    | nil => rfl
    | cons y r ih => rw [List.flatMap_cons, ← ih]; unfold chosen; rw [show y :: r = [y] ++ r from rfl, List.filter_append]
  · have := ints13 ys ys (by omega)
    simpa using this
end Go.Proofs.Ytbhpfidifbbggaa.S
