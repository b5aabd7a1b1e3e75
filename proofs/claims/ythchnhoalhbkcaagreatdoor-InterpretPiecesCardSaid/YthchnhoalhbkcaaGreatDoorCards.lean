/-
  DERIVED. GIVEN WITH THE SEED: THE CARDS: each row of YthchnhoalhbkcaaGreatDoorRows.lean that lists a variable, with what it lists TIED to the program's text (the seventh form; the later family's looks); each row that meets fmt, with fmt's text TOLD by the authors' own Lean function (tested against real Go, not proved from fmt's source: count such statements apart). THE CARD IS WHAT COUNTS. Prove the row's statement (the work); the ties are given (YthchnhoalhbkcaaGreatDoorTie.lean); close each card by the builder's one call (the guide's Derived/Test/ToyasCard.lean, 'card_holds'). Laid BY PROGRAM, IN A SANDBOX (cutbox-door.mjs). By AI agents, Wed Nov 11 2026. No macro, syntax, notation, axiom, sorry.
-/
import Derived.Test.YthchnhoalhbkcaaGreatDoorRows
import GoSem.ClaimSeven
namespace Go.Proofs.YthchnhoalhbkcaaGreatDoor
namespace Rows

/-- THE TIED CARD OF 'dataenclavelaw22.InterpretPieces'. -/
def interpretPiecesCard : Claim7 := { stood := { row := interpretPiecesRow, standIns := [], harness := (true, "3173744bfb4ee09eecbc930c6242a14ea60ef84ce5369e490572336e57465f81"), looks := false }, kinds := [], alts := [], laidByText := true, laidKinds := [.data, .data, .data], laidTests := true, laidLooks := .later }
def InterpretPiecesCardSaid : Prop := Claim7.holds Tryz.pinned (.plain (OpenSpec.ofChange interpretPiecesSpec)) interpretPiecesCard

/-- THE SECOND FORM's CARD OF 'dataenclavelaw22.InterpretPieces'. -/
def interpretPiecesUptoCard : Claim7 := { stood := { row := interpretPiecesUptoRow, standIns := [], harness := (true, "3173744bfb4ee09eecbc930c6242a14ea60ef84ce5369e490572336e57465f81"), looks := false }, kinds := [], alts := [], laidByText := true, laidKinds := [.data, .data, .data], laidTests := true, laidLooks := .later }
def InterpretPiecesUptoCardSaid : Prop := Claim7.holds Tryz.pinned (.plain (OpenSpec.upto interpretPiecesSpec)) interpretPiecesUptoCard
end Rows
end Go.Proofs.YthchnhoalhbkcaaGreatDoor
