/- CorrectionsReach: for every input the law returns true, and its arguments read as they did. No conditions. -/
import Derived.Test.YtlpkhgkoihlghaaGreatDoorReachLift
import Derived.Test.YtlpkhgkoihlghaaGreatDoorReachFacts
import Derived.Test.YtlpkhgkoihlghaaGreatDoorCards
import Derived.Test.YtlpkhgkoihlghaaGreatDoorTie
set_option linter.unusedSimpArgs false
namespace Go.Proofs.YtlpkhgkoihlghaaGreatDoor.correctionsReach
open Go.ChangeShapes Go.WideShapes Go.ChangeAt Go.RowKit Go.Joins Go.Abs Go.Proofs.YtlpkhgkoihlghaaGreatDoor.P
set_option linter.unusedVariables false
theorem fJ:Rows.correctionsReachRow.holds Tryz.pinned (OpenSpec.ofChange Rows.correctionsReachSpec) :=
 OpenClaim.holds_of_wide 3 Tryz.f3 rfl rfl rfl rfl rfl rfl rfl ⟨rfl,rfl,rfl,rfl,rfl⟩ rfl rfl rfl rfl rfl (by kernel_rfl) Tryz.func3 fm
  (of_decide_eq_true (by kernel_rfl)) (by unfold Func.isWrapper; first | (rw [if_pos (by decide +kernel)]; kernel_rfl) | (rw [if_neg (by decide +kernel)]; exact ⟨rfl,rfl⟩))
  (fun os started H enc _=>eF os started H enc)
theorem proved:Rows.CorrectionsReachCardSaid :=
 Claim7.holds_tied_plain_at .later [] [.data,.data,.data] true (true, "6b689ae11472ef1fd28697807c9133c73c22ab719cfa4bdbc0163fdeed20aeaf") false
  fJ (fun _ h=>by cases h) (by kernel_rfl) (fun _ h=>by cases h) correctionsReach_row_tie rfl ⟨rfl,rfl⟩ (by kernel_rfl) rfl
  (fun f fn hf hfn=>by
   obtain rfl:f = 3:=Option.some.inj ((show Tryz.prog.funcNamed "dataenclave/dataenclavelaw40.CorrectionsReach" = some 3 by kernel_rfl).symm.trans hf) |>.symm
   obtain rfl:fn = Tryz.f3:=(Option.some.inj (Tryz.func3.symm.trans hfn)).symm
   exact ⟨by kernel_rfl,fun j t ht=>by
    rw [Tryz.params3] at ht
    have hm:t∈[22,5,5]:=by simpa using Array.mem_of_getElem? ht
    have hall:([22,5,5].all fun u=>!Tryz.prog.wantsStandIn u) = true:=by kernel_rfl
    exact (show Tryz.prog.wantsStandIn t = false by simpa using List.all_eq_true.1 hall t hm)⟩)
  (by kernel_rfl)
#print axioms proved
end Go.Proofs.YtlpkhgkoihlghaaGreatDoor.correctionsReach
