/-
  The sort's contract, laid at this program.
-/
import Derived.Test.YtnkjhialkaomfaaAbsSort
import Derived.Test.YtnkjhialkaomfaaPlotBins
import Derived.Test.YtnkjhialkaomfaaLaid
namespace Go.Proofs.Ytnkjhialkaomfaa.P
open Go.Abs Go.Proofs

theorem sortC : SortC := fun xs hl => msort Try.lays189 (by kernel_rfl) 3 xs hl
#print axioms sortC
end Go.Proofs.Ytnkjhialkaomfaa.P
