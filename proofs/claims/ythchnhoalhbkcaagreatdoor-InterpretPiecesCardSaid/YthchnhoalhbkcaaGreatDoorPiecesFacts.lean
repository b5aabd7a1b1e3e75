/- PiecesFacts -/
import Derived.Test.YthchnhoalhbkcaaGreatDoorRows
import Derived.Test.YthchnhoalhbkcaaGreatDoorChecked
import Derived.SevenTiedAt
import Derived.KernelRfl
namespace Go.Proofs.YthchnhoalhbkcaaGreatDoor.interpretPieces
theorem facts:joinedFacts Tryz.checked.prog 3 Tryz.f3 Rows.interpretPiecesSpec Rows.interpretPiecesRow=true:=by kernel_rfl
end Go.Proofs.YthchnhoalhbkcaaGreatDoor.interpretPieces
