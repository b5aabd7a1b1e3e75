/- P3W9 -/
import Derived.Test.YthchnhoalhbkcaaGreatDoorP3HW
set_option linter.unusedSimpArgs false
set_option linter.unusedVariables false
namespace Go.Proofs.YthchnhoalhbkcaaGreatDoor.P
open Go.Abs Go.Proofs
set_option maxRecDepth 100000
set_option maxHeartbeats 4000000
instance {a0 a1 a2}:LS (λrec1 s=>N0 a0 a1 a2 rec1 s) 25 [0,7,8] (λs=>[(9,.d (.int .i64 s))]) [] (λs=>[]):=⟨trivial⟩
instance tabulate_inside_w:CS Tryz.prog 190 (W2 Tryz.prog 190 Ct):=⟨λp0 p1 R h=>by
 refine uD Tryz.func190 ?_;unfold Ct at h;exact Ao⟩
end Go.Proofs.YthchnhoalhbkcaaGreatDoor.P
