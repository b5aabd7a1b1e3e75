/-
  The contracts of slices.Sort and slices.Compact at []int, laid at this program.
-/
import Derived.Test.YtnkjhialkaomfaaAbsCompact
import Derived.Test.YtnkjhialkaomfaaPlotSort
import Derived.Test.YtnkjhialkaomfaaCorr
import Derived.Test.YtnkjhialkaomfaaLaid
namespace Go.Proofs.Ytnkjhialkaomfaa.P
open Go.Abs Go.Proofs

theorem compactC : CompactC := fun xs hl => mcompact Try.lays20 (by kernel_rfl) 3 xs hl
#print axioms compactC
end Go.Proofs.Ytnkjhialkaomfaa.P
