/- InterpretLineage: for every input the law returns true, and its arguments read as they did. No conditions. -/
import Derived.Test.YtkjijhldfdplgaaGreatDoorLineageLift
import Derived.Test.YtkjijhldfdplgaaGreatDoorLineageFacts
import Derived.Test.YtkjijhldfdplgaaGreatDoorCards
import Derived.Test.YtkjijhldfdplgaaGreatDoorTie
open Go.Proofs.Tryz
set_option linter.all false
namespace Go.Proofs.YtkjijhldfdplgaaGreatDoor.interpretLineage
open Go.ChangeShapes Go.WideShapes Go.ChangeAt Go.RowKit Go.Joins Go.Abs Go.Proofs.YtkjijhldfdplgaaGreatDoor.P
theorem sE:Rows.interpretLineageRow.holds Tryz.pinned (OpenSpec.ofChange Rows.interpretLineageSpec) :=
 OpenClaim.holds_of_wide 3 f3 rfl rfl rfl rfl rfl rfl rfl ⟨rfl,rfl,rfl,rfl,rfl⟩ rfl rfl rfl rfl rfl (by kernel_rfl) func3 rE
  (tb (by kernel_rfl)) (by unfold Func.isWrapper;first|(rw[tf (by decide +kernel)];kernel_rfl)|(rw[tn (by decide +kernel)];exact⟨rfl,rfl⟩))
  (λos a H enc _=>qM os a H enc)
theorem q6:false=Rows.interpretLineageRow.goesBy Tryz.pinned.checked.prog:=by kernel_rfl
theorem proved:Rows.InterpretLineageCardSaid :=
 Claim7.holds_tied_plain_at .later [] [.data,.data,.data] true (true, "b32ebc44db82c91a9ddb9bbfc0609cc87d6d061e8a41392259c04bca06eb3d82") false
  sE (λ_ h=>by cases h) (by kernel_rfl) (λ_ h=>by cases h) interpretLineage_row_tie rfl ⟨rfl,rfl⟩ (by kernel_rfl) rfl
  (λf fn d b=>by
   obtain rfl:f=3:=sY ((show prog.funcNamed "dataenclave/dataenclavelaw22.InterpretLineage" = some 3 by kernel_rfl).symm.trans d) |>.symm
   obtain rfl:fn=f3:=(sY (func3.symm.trans b)).symm
   exact⟨by kernel_rfl,λj t c=>by
    rw[params3]at c;have e:t∈[22,23]:=by simpa using Array.mem_of_getElem? c
    have a:([22,23].all λu=>!prog.wantsStandIn u)=true:=by kernel_rfl
    exact(show prog.wantsStandIn t=false by simpa using List.all_eq_true.1 a t e)⟩)
  q6
#print axioms proved
