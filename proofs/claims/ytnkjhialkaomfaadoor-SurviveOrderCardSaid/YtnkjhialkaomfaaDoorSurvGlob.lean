/-
  The listed variable (math/bits.deBruijn64tab): from the row's condition to what the machine wants.
-/
import Derived.Test.YtnkjhialkaomfaaDoorRows
import Derived.Test.YtnkjhialkaomfaaDoorSurv2
import Derived.ProofKit
import Derived.LaidMore
import Derived.OpenShut
import Derived.Stop.Joined
namespace Go.Proofs.YtnkjhialkaomfaaDoor.P
open Go.ChangeShapes Go.WideShapes Go.ChangeAt Go.WideMaps Go.WideElems Go.RowKit Go.Abs Go.Proofs
set_option maxRecDepth 100000

def laid1 : List (String × DataW Unit) := [("math/bits.deBruijn64tab", Rows.laid_math_bits_deBruijn64tab)]
theorem gTab : Tryd.prog.globalNamed "math/bits.deBruijn64tab" = some 0 := by kernel_rfl
theorem tTab : (Tryd.prog.globals[0]?).map (·.type) = some 105 := by kernel_rfl
theorem door_met (os : Os) (args : Array Value) : laidMetH Tryd.prog laid1 ((World.doorLaid Tryd.prog 400 os).forCall (fun _ _ => 0) ⟨#[], args, []⟩).memory :=
  laidMetH_of_parts3 (fuel := 8) (laidMet_of_run' 8 (by kernel_rfl) (by kernel_rfl)) (by kernel_rfl) (by kernel_rfl)

theorem laid_list : ∀ {H : Type}, (Rows.laid_math_bits_deBruijn64tab : DataW H) = .agg (deBruijn.map fun n => .lit (.int .u8 n)) := rfl
theorem glob_of_laid {W : World} (h : laidMetH Tryd.prog laid1 W) : Glob (fun _ => False) W := by
  rw [MakeChecks.laidMetH_plain _ _ _ (by kernel_rfl)] at h
  obtain ⟨ps, ⟨g0, t0, cs0, f0, p0, q0, hg0, ht0, hv0, hd0, _⟩, _, _⟩ := h
  obtain rfl := Option.some.inj (gTab.symm.trans hg0)
  obtain rfl := Option.some.inj (tTab.symm.trans ht0)
  obtain ⟨xs, m1, rfl, hx1, hlen, hn3, hel⟩ := DataW.trod_array Tryd.underlying105 hd0
  have c5 : Tryd.prog.cellsOf 5 = 1 := by kernel_rfl
  have hxs : xs.map (fun x => x.1) = deBruijn.map fun n => DataW.lit (.int .u8 n) := by
    rw [laid_list] at hx1
    simp only [Prod.mk.injEq, DataW.agg.injEq] at hx1
    exact hx1.1.symm
  have hcell : ∀ i (hi : i < 64), W.cell? ⟨0, i, none⟩ = some (.int .u8 (deBruijn.getD i 0)) := by
    intro i hi
    have h1 := hel i hi
    have hlt : i < xs.length := by omega
    rw [List.getElem?_eq_getElem hlt] at h1
    obtain ⟨k, e1, e2, _⟩ := DataW.trod_int Tryd.underlying5 h1
    have h2 := congrArg (fun l => l[i]?) hxs
    have hd : i < deBruijn.length := hi
    simp only [List.getElem?_map, List.getElem?_eq_getElem hlt, List.getElem?_eq_getElem hd, Option.map_some, Option.some.injEq] at h2
    rw [e2] at h2
    rw [World.var?_cell hg0 hv0 i]
    rw [c5, Nat.mul_one] at e1
    have h3 : cs0.toList[i]? = some (.int .u8 k) := by
      have := congrArg (fun l => l[0]?) e1
      simpa using this
    rw [← Array.getElem?_toList, h3]
    have hk : k = deBruijn[i] := by simpa using h2
    rw [hk]
    simp [List.getD, hd]
  intro g cs hg
  unfold gtab at hg
  match g, hg with
  | g + 1, hg => simp [gtabN] at hg
  | 0, hg =>
    have hg : some (deBruijn.map fun n => D.int .u8 n) = some cs := hg
    obtain rfl := Option.some.inj hg
    have h0 := hcell 0 (by omega)
    refine RepD.ptr 0 0 _ (fun j => .int .u8 (deBruijn.getD j 0)) (fun _ => ?_) (fun _ h => h) (fun x hx => ?_) (fun j y hy => ?_) (fun j y hy => ?_)
    · rcases Nat.eq_zero_or_pos W.heap.size with hz | hz
      · unfold World.cell? at h0
        have : W.heap[0]? = none := Array.getElem?_eq_none (by omega)
        simp [this] at h0
      · exact hz
    · obtain ⟨n, _, rfl⟩ := List.mem_map.1 hx
      rfl
    · have hj : j < 64 := by have := some_lt hy; simpa [deBruijn] using this
      rw [Nat.zero_add]; exact hcell j hj
    · rw [List.getElem?_map] at hy
      cases hq : deBruijn[j]? with
      | none => simp [hq] at hy
      | some n =>
        simp [hq] at hy
        subst hy
        simp only [List.getD, hq, Option.getD_some]
        exact .int _ _
end Go.Proofs.YtnkjhialkaomfaaDoor.P
