/-
  DERIVED. GIVEN WITH THE SEED: THE CARDS: each row of YtjghjdokjgcehaaGreatDoorRows.lean that lists a variable, with what it lists TIED to the program's text (the seventh form; the later family's looks); each row that meets fmt, with fmt's text TOLD by the authors' own Lean function (tested against real Go, not proved from fmt's source: count such statements apart). THE CARD IS WHAT COUNTS. Prove the row's statement (the work); the ties are given (YtjghjdokjgcehaaGreatDoorTie.lean); close each card by the builder's one call (the guide's Derived/Test/ToyasCard.lean, 'card_holds'). Laid BY PROGRAM, IN A SANDBOX (cutbox-door.mjs). By AI agents, Wed Nov 11 2026. No macro, syntax, notation, axiom, sorry.
-/
import Derived.Test.YtjghjdokjgcehaaGreatDoorRows
import GoSem.ClaimSeven
namespace Go.Proofs.YtjghjdokjgcehaaGreatDoor
namespace Rows

/-- THE TIED CARD OF 'dataenclavelaw22.InterpretAsks'. -/
def interpretAsksCard : Claim7 := { stood := { row := interpretAsksRow, standIns := [], harness := (true, "701b2fc55606d9008e43fc9ca985c1034a8670f78392ee9926ef330913570d78"), looks := false }, kinds := [], alts := [], laidByText := true, laidKinds := [.data, .data, .data], laidTests := true, laidLooks := .later }
def InterpretAsksCardSaid : Prop := Claim7.holds Tryz.pinned (.plain (OpenSpec.ofChange interpretAsksSpec)) interpretAsksCard

/-- THE SECOND FORM's CARD OF 'dataenclavelaw22.InterpretAsks'. -/
def interpretAsksUptoCard : Claim7 := { stood := { row := interpretAsksUptoRow, standIns := [], harness := (true, "701b2fc55606d9008e43fc9ca985c1034a8670f78392ee9926ef330913570d78"), looks := false }, kinds := [], alts := [], laidByText := true, laidKinds := [.data, .data, .data], laidTests := true, laidLooks := .later }
def InterpretAsksUptoCardSaid : Prop := Claim7.holds Tryz.pinned (.plain (OpenSpec.upto interpretAsksSpec)) interpretAsksUptoCard
end Rows
end Go.Proofs.YtjghjdokjgcehaaGreatDoor
