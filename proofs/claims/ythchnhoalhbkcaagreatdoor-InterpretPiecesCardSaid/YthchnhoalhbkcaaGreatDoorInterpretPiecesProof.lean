/- InterpretPieces: for every input the law returns true, and its arguments read as they did. No conditions. -/
import Derived.Test.YthchnhoalhbkcaaGreatDoorPiecesLift
import Derived.Test.YthchnhoalhbkcaaGreatDoorPiecesFacts
import Derived.Test.YthchnhoalhbkcaaGreatDoorCards
import Derived.Test.YthchnhoalhbkcaaGreatDoorTie
import Derived.SevenTiedAt
open Go.Proofs.Tryz
namespace Go.Proofs.YthchnhoalhbkcaaGreatDoor.interpretPieces
open Go.ChangeShapes Go.WideShapes Go.ChangeAt Go.RowKit Go.Joins Go.Abs Go.Proofs.YthchnhoalhbkcaaGreatDoor.P
theorem pF:Rows.interpretPiecesRow.holds Tryz.pinned (OpenSpec.ofChange Rows.interpretPiecesSpec) :=
 OpenClaim.holds_of_wide 3 f3 rfl rfl rfl rfl rfl rfl rfl ⟨rfl,rfl,rfl,rfl,rfl⟩ rfl rfl rfl rfl rfl (by kernel_rfl) func3 facts
  (pZ (by kernel_rfl)) (by unfold Func.isWrapper;first|(rw[qf (by decide +kernel)];kernel_rfl)|(rw[qi (by decide +kernel)];exact⟨rfl,rfl⟩))
  (λos started H enc _=>nV os started H enc)
theorem proved:Rows.InterpretPiecesCardSaid :=
 Claim7.holds_tied_plain_at .later [] [.data,.data,.data] true (true, "3173744bfb4ee09eecbc930c6242a14ea60ef84ce5369e490572336e57465f81") false
  pF (λ_ h=>by cases h) (by kernel_rfl) (λ_ h=>by cases h) interpretPieces_row_tie rfl ⟨rfl,rfl⟩ (by kernel_rfl) rfl
  (λf fn hf hfn=>by
   obtain rfl:f=3:=P3 ((show prog.funcNamed "dataenclave/dataenclavelaw22.InterpretPieces" = some 3 by kernel_rfl).symm.trans hf) |>.symm
   obtain rfl:fn=f3:=(P3 (func3.symm.trans hfn)).symm
   exact⟨by kernel_rfl,λj t ht=>by
    rw[params3]at ht;have hm:t∈[22]:=by simpa using Array.mem_of_getElem? ht
    have hall:([22].all λu=>!prog.wantsStandIn u)=true:=by kernel_rfl
    exact(show prog.wantsStandIn t=false by simpa using List.all_eq_true.1 hall t hm)⟩)
  (by kernel_rfl)
#print axioms proved
end Go.Proofs.YthchnhoalhbkcaaGreatDoor.interpretPieces
