/- LineageFacts -/
import Derived.Test.YtkjijhldfdplgaaGreatDoorRows
import Derived.Test.YtkjijhldfdplgaaGreatDoorChecked
import Derived.SevenTiedAt
import Derived.KernelRfl
set_option linter.all false
namespace Go.Proofs.YtkjijhldfdplgaaGreatDoor.interpretLineage
theorem rE:joinedFacts Tryz.checked.prog 3 Tryz.f3 Rows.interpretLineageSpec Rows.interpretLineageRow=true:=by kernel_rfl
