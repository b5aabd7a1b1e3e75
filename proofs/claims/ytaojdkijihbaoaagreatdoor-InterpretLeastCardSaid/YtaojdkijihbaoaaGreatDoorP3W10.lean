/- P3W10 -/
import Derived.Test.YtaojdkijihbaoaaGreatDoorP3HW
set_option linter.all false
namespace Go.Proofs.YtaojdkijihbaoaaGreatDoor.P
open Go.Abs Go.Proofs
set_option maxRecDepth 100000
set_option maxHeartbeats 4000000
instance {a0 a1 a2}:LS (λa s=>Oj a0 a1 a2 a s) 25 [0,7,8] (λs=>[(9,.i s)]) [] (λs=>[]):=⟨trivial⟩
instance tabulate_inside_w:CS Tryz.prog 226 (W2 Tryz.prog 226 Cl):=⟨λa b R h=>by
 refine uD Tryz.func226 ?_;unfold Cl at h;exact Aq⟩
