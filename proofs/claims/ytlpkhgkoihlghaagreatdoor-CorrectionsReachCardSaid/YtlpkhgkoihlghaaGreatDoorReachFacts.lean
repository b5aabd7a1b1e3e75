/- ReachFacts -/
import Derived.Test.YtlpkhgkoihlghaaGreatDoorRows
import Derived.Test.YtlpkhgkoihlghaaGreatDoorChecked
import Derived.SevenTiedAt
import Derived.KernelRfl
set_option linter.unusedVariables false
set_option linter.unusedSimpArgs false
namespace Go.Proofs.YtlpkhgkoihlghaaGreatDoor.correctionsReach
theorem fm:joinedFacts Tryz.checked.prog 3 Tryz.f3 Rows.correctionsReachSpec Rows.correctionsReachRow = true:=by kernel_rfl
end Go.Proofs.YtlpkhgkoihlghaaGreatDoor.correctionsReach
