/-
  DERIVED. GIVEN WITH THE SEED: THE CARDS: each row of YtjgeigjjfcnojaaGreatDoorRows.lean that lists a variable, with what it lists TIED to the program's text (the seventh form; the later family's looks); each row that meets fmt, with fmt's text TOLD by the authors' own Lean function (tested against real Go, not proved from fmt's source: count such statements apart). THE CARD IS WHAT COUNTS. Prove the row's statement (the work); the ties are given (YtjgeigjjfcnojaaGreatDoorTie.lean); close each card by the builder's one call (the guide's Derived/Test/ToyasCard.lean, 'card_holds'). Laid BY PROGRAM, IN A SANDBOX (cutbox-door.mjs). By AI agents, Wed Nov 11 2026. No macro, syntax, notation, axiom, sorry.
-/
import Derived.Test.YtjgeigjjfcnojaaGreatDoorRows
import GoSem.ClaimSeven
namespace Go.Proofs.YtjgeigjjfcnojaaGreatDoor
namespace Rows

/-- THE TIED CARD OF 'dataenclavelaw22.InterpretNumbers'. -/
def interpretNumbersCard : Claim7 := { stood := { row := interpretNumbersRow, standIns := [], harness := (true, "f4d98be36fa31f42bbf191781135aad0b5c8a881810338839f0be19bb5c9e7d0"), looks := false }, kinds := [], alts := [], laidByText := true, laidKinds := [.data, .data, .data], laidTests := true, laidLooks := .later }
def InterpretNumbersCardSaid : Prop := Claim7.holds Tryz.pinned (.plain (OpenSpec.ofChange interpretNumbersSpec)) interpretNumbersCard

/-- THE SECOND FORM's CARD OF 'dataenclavelaw22.InterpretNumbers'. -/
def interpretNumbersUptoCard : Claim7 := { stood := { row := interpretNumbersUptoRow, standIns := [], harness := (true, "f4d98be36fa31f42bbf191781135aad0b5c8a881810338839f0be19bb5c9e7d0"), looks := false }, kinds := [], alts := [], laidByText := true, laidKinds := [.data, .data, .data], laidTests := true, laidLooks := .later }
def InterpretNumbersUptoCardSaid : Prop := Claim7.holds Tryz.pinned (.plain (OpenSpec.upto interpretNumbersSpec)) interpretNumbersUptoCard
end Rows
end Go.Proofs.YtjgeigjjfcnojaaGreatDoor
