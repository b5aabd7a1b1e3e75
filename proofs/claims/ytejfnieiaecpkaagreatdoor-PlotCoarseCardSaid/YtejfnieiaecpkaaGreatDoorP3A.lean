/-
  Printed by wip/tools/short.py: proofs that are said again and again, each as a theorem's default proof.
-/
import Derived.Test.YtejfnieiaecpkaaGreatDoorP3T
set_option linter.unusedSimpArgs false
namespace Go.Proofs.YtejfnieiaecpkaaGreatDoor.P
open Go.Abs Go.Proofs
set_option linter.unusedVariables false

theorem ebF {p : Prop} (h : p := by first | rfl | simp only [List.length_map, cond_true, cond_false]) : p := h
theorem rtF {p : Prop} (h : p := by first | rfl | (simp only [List.length_map]; rfl)) : p := h
theorem lfF {p : Prop} (h : p := by repeat (first | exact trivial | refine And.intro (by first | with_reducible rfl | rfl | exact .inl rfl | exact .inr rfl | (simp only [List.length_map]; done) | (simp only [List.length_map]; rfl) | (simp only [List.map_append, List.map_cons, List.map_nil]; rfl)) ?_)) : p := h
theorem lg0 {p : Prop} (h : p := by repeat (first | exact trivial | refine And.intro (by first | with_reducible rfl | rfl | exact .inl rfl | exact .inr rfl | (simp only [List.length_map]; done) | (simp only [List.length_map]; rfl) | (simp only [opACond, encACond_op, opAExpr, encAExpr_op, lst, List.map_cons, List.map_nil, List.length_map]; done) | (simp only [opACond, encACond_op, opAExpr, encAExpr_op, lst, List.map_cons, List.map_nil, List.length_map]; rfl) | (simp only [List.map_append, List.map_cons, List.map_nil]; rfl)) ?_)) : p := h
theorem rg0 {p : Prop} (h : p := by first | rfl | (simp only [List.length_map]; rfl) | (simp only [opACond, encACond_op, opAExpr, encAExpr_op, lst, List.map_cons, List.map_nil, List.length_map]; rfl)) : p := h
theorem lg1 {p : Prop} (h : p := by repeat (first | exact trivial | refine And.intro (by first | with_reducible rfl | rfl | exact .inl rfl | exact .inr rfl | (simp only [List.length_map]; done) | (simp only [List.length_map]; rfl) | (simp only [eta_ACond]; rfl) | (simp only [List.map_append, List.map_cons, List.map_nil]; rfl)) ?_)) : p := h
end Go.Proofs.YtejfnieiaecpkaaGreatDoor.P
