/-
  Plain forms of library functions, by hand.
-/
import Derived.Test.YtejfnieiaecpkaaGreatDoorPure
import Derived.Lib.ItoaNum
set_option linter.unusedVariables false
set_option linter.unusedSimpArgs false
namespace Go.Proofs.YtejfnieiaecpkaaGreatDoor.P

def slices_Clone_Lint_int (p0 : List Int) : Option (List Int) := bif rm 0 p0.length then some p0 else none
def sortP (xs : List Int) : List Int := xs.mergeSort fun x y => decide (x ≤ y)
def slices_Sort_Lint_int (p0 : List Int) : Option (List Int) := bif rm 0 p0.length then some (sortP p0) else none
def strconv_Itoa (p0 : Int) : Option ByteArray := bif decide (0 ≤ p0 ∧ p0 < 100) then some ⟨(Go.Lib.decDigits p0.toNat).toArray⟩ else none
end Go.Proofs.YtejfnieiaecpkaaGreatDoor.P
