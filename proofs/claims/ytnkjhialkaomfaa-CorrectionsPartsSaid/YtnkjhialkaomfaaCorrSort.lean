/-
  The contracts of slices.Sort and slices.Compact at []int, laid at this program.
-/
import Derived.Test.YtnkjhialkaomfaaAbsCompact
import Derived.Test.YtnkjhialkaomfaaPlotSort
import Derived.Test.YtnkjhialkaomfaaCorr
import Derived.Test.YtnkjhialkaomfaaChecked
import Derived.Shelf.Lay
namespace Go.Proofs
open Go.Shelf
shelf_lay Lays2.n20 Nm2 20 at Try as Try.lays20
end Go.Proofs
namespace Go.Proofs.Ytnkjhialkaomfaa.P
open Go.Abs Go.Proofs

theorem compactC : CompactC := fun xs hl => mcompact Try.lays20 (by kernel_rfl) 3 xs hl
#print axioms compactC
end Go.Proofs.Ytnkjhialkaomfaa.P
