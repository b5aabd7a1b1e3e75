/- The listed variables: the law reads none of them; an input that fits the row's condition. -/
import Derived.Test.YtejfnieiaecpkaaGreatDoorRows
import Derived.Test.YtejfnieiaecpkaaGreatDoorAbs
import Derived.Test.YtejfnieiaecpkaaGreatDoorChecked
import Derived.ProofKit
import Derived.LaidMore
import Derived.OpenShut
import Derived.Stop.Joined
set_option linter.unusedVariables false
set_option linter.unusedSimpArgs false
namespace Go.Proofs.YtejfnieiaecpkaaGreatDoor.P
open Go.ChangeShapes Go.WideShapes Go.ChangeAt Go.WideMaps Go.WideElems Go.RowKit Go.Abs Go.Proofs
set_option maxRecDepth 100000
def Yl:List (String × DataW Unit):=[("math/bits.deBruijn32tab",Rows.laid_math_bits_deBruijn32tab),("math/bits.deBruijn64tab",Rows.laid_math_bits_deBruijn64tab),("internal/strconv.uint64pow10",Rows.laid_internal_strconv_uint64pow10)]
theorem bX (os:Os) (args:Array Value):laidMetH Tryz.prog Yl ((World.doorLaid Tryz.prog 400 os).forCall (fun _ _=>0) ⟨#[],args,[]⟩).memory :=
 laidMetH_of_parts3 (fuel:=8) (laidMet_of_run' 8 (by kernel_rfl) (by kernel_rfl)) (by kernel_rfl) (by kernel_rfl)
theorem WL {W:World} (h:laidMetH Tryz.prog Yl W):Vy (fun _=>False) W:=by
 intro g cs hg
 unfold de dU at hg
 cases hg
end Go.Proofs.YtejfnieiaecpkaaGreatDoor.P
