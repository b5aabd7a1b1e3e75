/-
  DERIVED. GIVEN WITH THE SEED: THE CARDS: each row of YtaojdkijihbaoaaGreatDoorRows.lean that lists a variable, with what it lists TIED to the program's text (the seventh form; the later family's looks); each row that meets fmt, with fmt's text TOLD by the authors' own Lean function (tested against real Go, not proved from fmt's source: count such statements apart). THE CARD IS WHAT COUNTS. Prove the row's statement (the work); the ties are given (YtaojdkijihbaoaaGreatDoorTie.lean); close each card by the builder's one call (the guide's Derived/Test/ToyasCard.lean, 'card_holds'). Laid BY PROGRAM, IN A SANDBOX (cutbox-door.mjs). By AI agents, Wed Nov 11 2026. No macro, syntax, notation, axiom, sorry.
-/
import Derived.Test.YtaojdkijihbaoaaGreatDoorRows
import GoSem.ClaimSeven
namespace Go.Proofs.YtaojdkijihbaoaaGreatDoor
namespace Rows

/-- THE TIED CARD OF 'dataenclavelaw22.InterpretLeast'. -/
def interpretLeastCard : Claim7 := { stood := { row := interpretLeastRow, standIns := [], harness := (true, "2183ffe88b16957194ffe8584551cbb3bf7ed6574608838cdebd8bfcb5a4fada"), looks := false }, kinds := [], alts := [], laidByText := true, laidKinds := [.data, .data, .data], laidTests := true, laidLooks := .later }
def InterpretLeastCardSaid : Prop := Claim7.holds Tryz.pinned (.plain (OpenSpec.ofChange interpretLeastSpec)) interpretLeastCard

/-- THE SECOND FORM's CARD OF 'dataenclavelaw22.InterpretLeast'. -/
def interpretLeastUptoCard : Claim7 := { stood := { row := interpretLeastUptoRow, standIns := [], harness := (true, "2183ffe88b16957194ffe8584551cbb3bf7ed6574608838cdebd8bfcb5a4fada"), looks := false }, kinds := [], alts := [], laidByText := true, laidKinds := [.data, .data, .data], laidTests := true, laidLooks := .later }
def InterpretLeastUptoCardSaid : Prop := Claim7.holds Tryz.pinned (.plain (OpenSpec.upto interpretLeastSpec)) interpretLeastUptoCard
end Rows
end Go.Proofs.YtaojdkijihbaoaaGreatDoor
