/- InterpretLeast: for every input the law returns true, and its arguments read as they did. No conditions. -/
import Derived.Test.YtaojdkijihbaoaaGreatDoorLeastLift
import Derived.Test.YtaojdkijihbaoaaGreatDoorLeastFacts
import Derived.Test.YtaojdkijihbaoaaGreatDoorCards
import Derived.Test.YtaojdkijihbaoaaGreatDoorTie
open Go.Proofs.Tryz
set_option linter.all false
namespace Go.Proofs.YtaojdkijihbaoaaGreatDoor.interpretLeast
open Go.ChangeShapes Go.WideShapes Go.ChangeAt Go.RowKit Go.Joins Go.Abs Go.Proofs.YtaojdkijihbaoaaGreatDoor.P
theorem tx:Rows.interpretLeastRow.holds Tryz.pinned (OpenSpec.ofChange Rows.interpretLeastSpec) :=
 OpenClaim.holds_of_wide 3 f3 rfl rfl rfl rfl rfl rfl rfl ⟨rfl,rfl,rfl,rfl,rfl⟩ rfl rfl rfl rfl rfl (by kernel_rfl) func3 sd
  (uf (by kernel_rfl)) (by unfold Func.isWrapper;first|(rw[uk (by decide +kernel)];kernel_rfl)|(rw[uo (by decide +kernel)];exact⟨rfl,rfl⟩))
  (λos a H enc _=>rl os a H enc)
theorem tj:false=Rows.interpretLeastRow.goesBy Tryz.pinned.checked.prog:=by kernel_rfl
theorem proved:Rows.InterpretLeastCardSaid :=
 Claim7.holds_tied_plain_at .later [] [.data,.data,.data] true (true, "2183ffe88b16957194ffe8584551cbb3bf7ed6574608838cdebd8bfcb5a4fada") false
  tx (λ_ h=>by cases h) (by kernel_rfl) (λ_ h=>by cases h) interpretLeast_row_tie rfl ⟨rfl,rfl⟩ (by kernel_rfl) rfl
  (λf fn d b=>by
   obtain rfl:f=3:=uc ((show prog.funcNamed "dataenclave/dataenclavelaw22.InterpretLeast" = some 3 by kernel_rfl).symm.trans d) |>.symm
   obtain rfl:fn=f3:=(uc (func3.symm.trans b)).symm
   exact⟨by kernel_rfl,λj t c=>by
    rw[params3]at c;have e:t∈[22]:=by simpa using Array.mem_of_getElem? c
    have a:([22].all λu=>!prog.wantsStandIn u)=true:=by kernel_rfl
    exact(show prog.wantsStandIn t=false by simpa using List.all_eq_true.1 a t e)⟩)
  tj
#print axioms proved
