/- The abstract machine: weakening, both states evaluated first. -/
import Derived.Test.YtejfnieiaecpkaaGreatDoorAbsLaw
set_option linter.unusedVariables false
set_option linter.unusedSimpArgs false
namespace Go.Abs
theorem fD {S S':AS} (h:F9 S' (fun S'=>Le S S')):Le S S':=by rw [Im] at h; exact h
end Go.Abs
