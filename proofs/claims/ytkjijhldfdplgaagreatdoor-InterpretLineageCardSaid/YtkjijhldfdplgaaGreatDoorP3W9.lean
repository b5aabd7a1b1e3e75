/- P3W9 -/
import Derived.Test.YtkjijhldfdplgaaGreatDoorP3HW
set_option linter.all false
namespace Go.Proofs.YtkjijhldfdplgaaGreatDoor.P
open Go.Abs Go.Proofs
set_option maxRecDepth 100000
set_option maxHeartbeats 4000000
instance {a0 a1 a2}:LS (λa s=>Ox a0 a1 a2 a s) 25 [0,7,8] (λs=>[(9,.i s)]) [] (λs=>[]):=⟨trivial⟩
instance tabulate_inside_w:CS Tryz.prog 207 (W2 Tryz.prog 207 Ci):=⟨λa b R h=>by
 refine uD Tryz.func207 ?_;unfold Ci at h;exact As⟩
