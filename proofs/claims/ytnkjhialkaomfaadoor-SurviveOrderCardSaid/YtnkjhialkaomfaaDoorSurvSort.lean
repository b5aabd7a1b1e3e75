/-
  The contracts of slices.Sort and slices.Compact at []int, laid at this program.
-/
import Derived.Test.YtnkjhialkaomfaaDoorAbsCompact
import Derived.Test.YtnkjhialkaomfaaDoorInts
import Derived.Test.YtnkjhialkaomfaaDoorLaid
namespace Go.Proofs.YtnkjhialkaomfaaDoor.P
open Go.Abs Go.Proofs

theorem sortC : SortC := fun xs hl => msort Tryd.lays189 (by kernel_rfl) 3 xs hl
theorem compactC : CompactC := fun xs hl => mcompact Tryd.lays20 (by kernel_rfl) 3 xs hl
#print axioms sortC
#print axioms compactC
end Go.Proofs.YtnkjhialkaomfaaDoor.P
