/-
  The abstract machine: weakening, both states evaluated first.
-/
import Derived.Test.YtejfnieiaecpkaaGreatDoorAbsLaw
set_option linter.unusedVariables false
set_option linter.unusedSimpArgs false
namespace Go.Abs
theorem leF {S S' : AS} (h : forceAS S' (fun S' => Le S S')) : Le S S' := by rw [forceAS_eq] at h; exact h
end Go.Abs
