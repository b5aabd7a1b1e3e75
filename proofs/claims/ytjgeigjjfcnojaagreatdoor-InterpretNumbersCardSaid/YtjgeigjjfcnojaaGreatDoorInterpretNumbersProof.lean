/- InterpretNumbers: for every input the law returns true, and its arguments read as they did. No conditions. -/
import Derived.Test.YtjgeigjjfcnojaaGreatDoorNumbersLift
import Derived.Test.YtjgeigjjfcnojaaGreatDoorNumbersFacts
import Derived.Test.YtjgeigjjfcnojaaGreatDoorCards
import Derived.Test.YtjgeigjjfcnojaaGreatDoorTie
import Derived.SevenTiedAt
set_option linter.unusedSimpArgs false
namespace Go.Proofs.YtjgeigjjfcnojaaGreatDoor.interpretNumbers
open Go.ChangeShapes Go.WideShapes Go.ChangeAt Go.RowKit Go.Joins Go.Abs Go.Proofs.YtjgeigjjfcnojaaGreatDoor.P
set_option linter.unusedVariables false
theorem eB:Rows.interpretNumbersRow.holds Tryz.pinned (OpenSpec.ofChange Rows.interpretNumbersSpec) :=
 OpenClaim.holds_of_wide 3 Tryz.f3 rfl rfl rfl rfl rfl rfl rfl ⟨rfl,rfl,rfl,rfl,rfl⟩ rfl rfl rfl rfl rfl (by kernel_rfl) Tryz.func3 facts
  (of_decide_eq_true (by kernel_rfl)) (by unfold Func.isWrapper; first | (rw [if_pos (by decide +kernel)]; kernel_rfl) | (rw [if_neg (by decide +kernel)]; exact ⟨rfl,rfl⟩))
  (fun os started H enc _=>da os started H enc)
theorem proved:Rows.InterpretNumbersCardSaid :=
 Claim7.holds_tied_plain_at .later [] [.data,.data,.data] true (true, "f4d98be36fa31f42bbf191781135aad0b5c8a881810338839f0be19bb5c9e7d0") false
  eB (fun _ h=>by cases h) (by kernel_rfl) (fun _ h=>by cases h) interpretNumbers_row_tie rfl ⟨rfl,rfl⟩ (by kernel_rfl) rfl
  (fun f fn hf hfn=>by
   obtain rfl:f = 3:=Option.some.inj ((show Tryz.prog.funcNamed "dataenclave/dataenclavelaw22.InterpretNumbers" = some 3 by kernel_rfl).symm.trans hf) |>.symm
   obtain rfl:fn = Tryz.f3:=(Option.some.inj (Tryz.func3.symm.trans hfn)).symm
   exact ⟨by kernel_rfl,fun j t ht=>by
    rw [Tryz.params3] at ht
    have hm:t∈[22]:=by simpa using Array.mem_of_getElem? ht
    have hall:([22].all fun u=>!Tryz.prog.wantsStandIn u) = true:=by kernel_rfl
    exact (show Tryz.prog.wantsStandIn t = false by simpa using List.all_eq_true.1 hall t hm)⟩)
  (by kernel_rfl)
#print axioms proved
end Go.Proofs.YtjgeigjjfcnojaaGreatDoor.interpretNumbers
