/- InterpretRuns: for every input the law returns true, and its arguments read as they did. No conditions. -/
import Derived.Test.YthifolbledpmkaaGreatDoorRL
import Derived.Test.YthifolbledpmkaaGreatDoorRunsFacts
import Derived.Test.YthifolbledpmkaaGreatDoorRunsGoes
import Derived.Test.YthifolbledpmkaaGreatDoorCards
import Derived.Test.YthifolbledpmkaaGreatDoorTie
open Go.Proofs.Tryz
set_option linter.all false
namespace Go.Proofs.YthifolbledpmkaaGreatDoor.interpretRuns
open Go.ChangeShapes Go.WideShapes Go.ChangeAt Go.RowKit Go.Joins Go.Abs Go.Proofs.YthifolbledpmkaaGreatDoor.P
theorem Afm:Rows.interpretRunsRow.holds Tryz.pinned (OpenSpec.ofChange Rows.interpretRunsSpec):=
 OpenClaim.holds_of_wide 3 f3 rfl rfl rfl rfl rfl rfl rfl ⟨rfl,rfl,rfl,rfl,rfl⟩ rfl rfl rfl rfl rfl (by kernel_rfl) func3 Ado
  (Zal (by kernel_rfl)) (by unfold Func.isWrapper;first|(rw[Zai (by decide +kernel)];kernel_rfl)|(rw[Zah (by decide +kernel)];exact⟨rfl,rfl⟩))
  (λos a H enc _=>Ab2 os a H enc)
theorem proved:Rows.InterpretRunsCardSaid:=
 Claim7.holds_tied_plain_at .later [] [.data,.data,.data] true (true, "c374be4fced6b84bfb2c82d10299032e0b8984ba9725c6af9978fa57f90dc024") false
  Afm (λ_ h=>by cases h) (by kernel_rfl) (λ_ h=>by cases h) interpretRuns_row_tie rfl ⟨rfl,rfl⟩ (by kernel_rfl) rfl
  (λf fn d b=>by
   obtain rfl:f=3:=Zaf ((show prog.funcNamed "dataenclave/dataenclavelaw22.InterpretRuns" = some 3 by kernel_rfl).symm.trans d) |>.symm
   obtain rfl:fn=f3:=(Zaf (func3.symm.trans b)).symm
   exact⟨by kernel_rfl,λj t c=>by
    rw[params3]at c;have e:t∈[22,23,27]:=by simpa using Array.mem_of_getElem? c
    have a:([22,23,27].all λu=>!prog.wantsStandIn u)=true:=by kernel_rfl
    exact(show prog.wantsStandIn t=false by simpa using List.all_eq_true.1 a t e)⟩)
  Ae9
#print axioms proved
