/- Plain forms of library functions, by hand. -/
import Derived.Test.YtejfnieiaecpkaaGreatDoorPure
import Derived.Lib.ItoaNum
set_option linter.unusedVariables false
set_option linter.unusedSimpArgs false
namespace Go.Proofs.YtejfnieiaecpkaaGreatDoor.P
def Bl (p0:List Int):Option (List Int):=bif rm 0 p0.length then some p0 else none
def H1 (xs:List Int):List Int:=xs.mergeSort fun x y=>decide (x≤y)
def Bs (p0:List Int):Option (List Int):=bif rm 0 p0.length then some (H1 p0) else none
def CJ (p0:Int):Option ByteArray:=bif decide (0≤p0∧p0 < 100) then some ⟨(Go.Lib.decDigits p0.toNat).toArray⟩ else none
def CU (p0:List Int) (p1:Int→Option Bool):Option (List Int):=bif (rm 0 p0.length && p0.all fun x=>(p1 x).isSome) then some (p0.filter fun x=>p1 x==some false) else none
end Go.Proofs.YtejfnieiaecpkaaGreatDoor.P
