/-
  DERIVED. GIVEN WITH THE SEED: THE CARDS: each row of YthifolbledpmkaaGreatDoorRows.lean that lists a variable, with what it lists TIED to the program's text (the seventh form; the later family's looks); each row that meets fmt, with fmt's text TOLD by the authors' own Lean function (tested against real Go, not proved from fmt's source: count such statements apart). THE CARD IS WHAT COUNTS. Prove the row's statement (the work); the ties are given (YthifolbledpmkaaGreatDoorTie.lean); close each card by the builder's one call (the guide's Derived/Test/ToyasCard.lean, 'card_holds'). Laid BY PROGRAM, IN A SANDBOX (cutbox-door.mjs). By AI agents, Wed Nov 11 2026. No macro, syntax, notation, axiom, sorry.
-/
import Derived.Test.YthifolbledpmkaaGreatDoorRows
import GoSem.ClaimSeven
namespace Go.Proofs.YthifolbledpmkaaGreatDoor
namespace Rows

/-- THE TIED CARD OF 'dataenclavelaw22.InterpretRuns'. -/
def interpretRunsCard : Claim7 := { stood := { row := interpretRunsRow, standIns := [], harness := (true, "c374be4fced6b84bfb2c82d10299032e0b8984ba9725c6af9978fa57f90dc024"), looks := false }, kinds := [], alts := [], laidByText := true, laidKinds := [.data, .data, .data], laidTests := true, laidLooks := .later }
def InterpretRunsCardSaid : Prop := Claim7.holds Tryz.pinned (.plain (OpenSpec.ofChange interpretRunsSpec)) interpretRunsCard

/-- THE SECOND FORM's CARD OF 'dataenclavelaw22.InterpretRuns'. -/
def interpretRunsUptoCard : Claim7 := { stood := { row := interpretRunsUptoRow, standIns := [], harness := (true, "c374be4fced6b84bfb2c82d10299032e0b8984ba9725c6af9978fa57f90dc024"), looks := false }, kinds := [], alts := [], laidByText := true, laidKinds := [.data, .data, .data], laidTests := true, laidLooks := .later }
def InterpretRunsUptoCardSaid : Prop := Claim7.holds Tryz.pinned (.plain (OpenSpec.upto interpretRunsSpec)) interpretRunsUptoCard
end Rows
end Go.Proofs.YthifolbledpmkaaGreatDoor
