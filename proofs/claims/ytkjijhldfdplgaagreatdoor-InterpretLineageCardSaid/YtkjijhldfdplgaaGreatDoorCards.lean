/-
  DERIVED. GIVEN WITH THE SEED: THE CARDS: each row of YtkjijhldfdplgaaGreatDoorRows.lean that lists a variable, with what it lists TIED to the program's text (the seventh form; the later family's looks); each row that meets fmt, with fmt's text TOLD by the authors' own Lean function (tested against real Go, not proved from fmt's source: count such statements apart). THE CARD IS WHAT COUNTS. Prove the row's statement (the work); the ties are given (YtkjijhldfdplgaaGreatDoorTie.lean); close each card by the builder's one call (the guide's Derived/Test/ToyasCard.lean, 'card_holds'). Laid BY PROGRAM, IN A SANDBOX (cutbox-door.mjs). By AI agents, Wed Nov 11 2026. No macro, syntax, notation, axiom, sorry.
-/
import Derived.Test.YtkjijhldfdplgaaGreatDoorRows
import GoSem.ClaimSeven
namespace Go.Proofs.YtkjijhldfdplgaaGreatDoor
namespace Rows

/-- THE TIED CARD OF 'dataenclavelaw22.InterpretLineage'. -/
def interpretLineageCard : Claim7 := { stood := { row := interpretLineageRow, standIns := [], harness := (true, "b32ebc44db82c91a9ddb9bbfc0609cc87d6d061e8a41392259c04bca06eb3d82"), looks := false }, kinds := [], alts := [], laidByText := true, laidKinds := [.data, .data, .data], laidTests := true, laidLooks := .later }
def InterpretLineageCardSaid : Prop := Claim7.holds Tryz.pinned (.plain (OpenSpec.ofChange interpretLineageSpec)) interpretLineageCard

/-- THE SECOND FORM's CARD OF 'dataenclavelaw22.InterpretLineage'. -/
def interpretLineageUptoCard : Claim7 := { stood := { row := interpretLineageUptoRow, standIns := [], harness := (true, "b32ebc44db82c91a9ddb9bbfc0609cc87d6d061e8a41392259c04bca06eb3d82"), looks := false }, kinds := [], alts := [], laidByText := true, laidKinds := [.data, .data, .data], laidTests := true, laidLooks := .later }
def InterpretLineageUptoCardSaid : Prop := Claim7.holds Tryz.pinned (.plain (OpenSpec.upto interpretLineageSpec)) interpretLineageUptoCard
end Rows
end Go.Proofs.YtkjijhldfdplgaaGreatDoor
