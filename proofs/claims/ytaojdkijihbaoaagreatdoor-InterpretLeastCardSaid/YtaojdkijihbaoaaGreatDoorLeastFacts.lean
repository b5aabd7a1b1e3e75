/- LeastFacts -/
import Derived.Test.YtaojdkijihbaoaaGreatDoorRows
import Derived.Test.YtaojdkijihbaoaaGreatDoorChecked
import Derived.SevenTiedAt
import Derived.KernelRfl
set_option linter.all false
namespace Go.Proofs.YtaojdkijihbaoaaGreatDoor.interpretLeast
theorem sd:joinedFacts Tryz.checked.prog 3 Tryz.f3 Rows.interpretLeastSpec Rows.interpretLeastRow=true:=by kernel_rfl
