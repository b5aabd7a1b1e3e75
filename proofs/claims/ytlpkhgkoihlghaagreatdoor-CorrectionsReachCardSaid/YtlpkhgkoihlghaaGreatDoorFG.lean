/- FG -/
import Derived.Test.YtlpkhgkoihlghaaGreatDoorRows
import Derived.Test.YtlpkhgkoihlghaaGreatDoorM1
import Derived.Test.YtlpkhgkoihlghaaGreatDoorChecked
import Derived.ProofKit
import Derived.LaidMore
import Derived.OpenShut
import Derived.Stop.Joined
set_option linter.unusedVariables false
set_option linter.unusedSimpArgs false
namespace Go.Proofs.YtlpkhgkoihlghaaGreatDoor.P
open Go.ChangeShapes Go.WideShapes Go.ChangeAt Go.WideMaps Go.WideElems Go.RowKit Go.Abs Go.Proofs
set_option maxRecDepth 100000
def YB:List (String × DataW Unit):=[("math/bits.deBruijn32tab",Rows.laid_math_bits_deBruijn32tab),("math/bits.deBruijn64tab",Rows.laid_math_bits_deBruijn64tab),("internal/strconv.uint64pow10",Rows.laid_internal_strconv_uint64pow10)]
theorem ce (os:Os) (args:Array Value):laidMetH Tryz.prog YB ((World.doorLaid Tryz.prog 400 os).forCall (fun _ _=>0) ⟨#[],args,[]⟩).memory :=
 laidMetH_of_parts3 (fuel:=8) (laidMet_of_run' 8 (by kernel_rfl) (by kernel_rfl)) (by kernel_rfl) (by kernel_rfl)
theorem X1 {W:World} (h:laidMetH Tryz.prog YB W):TT (fun _=>False) W:=by
 intro g cs hg
 unfold dx dS at hg
 cases hg
end Go.Proofs.YtlpkhgkoihlghaaGreatDoor.P
