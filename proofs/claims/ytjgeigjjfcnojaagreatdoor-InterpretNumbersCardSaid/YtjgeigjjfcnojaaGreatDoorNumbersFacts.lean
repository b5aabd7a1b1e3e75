/- What the row asks of the program's text, apart (it wants much memory). -/
import Derived.Test.YtjgeigjjfcnojaaGreatDoorRows
import Derived.Test.YtjgeigjjfcnojaaGreatDoorChecked
import Derived.SevenTiedAt
import Derived.KernelRfl
namespace Go.Proofs.YtjgeigjjfcnojaaGreatDoor.interpretNumbers
theorem facts : joinedFacts Tryz.checked.prog 3 Tryz.f3 Rows.interpretNumbersSpec Rows.interpretNumbersRow = true := by kernel_rfl
end Go.Proofs.YtjgeigjjfcnojaaGreatDoor.interpretNumbers
