/-
  DERIVED. GIVEN WITH THE SEED: THE CARDS: each row of YtlpkhgkoihlghaaGreatDoorRows.lean that lists a variable, with what it lists TIED to the program's text (the seventh form; the later family's looks); each row that meets fmt, with fmt's text TOLD by the authors' own Lean function (tested against real Go, not proved from fmt's source: count such statements apart). THE CARD IS WHAT COUNTS. Prove the row's statement (the work); the ties are given (YtlpkhgkoihlghaaGreatDoorTie.lean); close each card by the builder's one call (the guide's Derived/Test/ToyasCard.lean, 'card_holds'). Laid BY PROGRAM, IN A SANDBOX (cutbox-door.mjs). By AI agents, Wed Nov 11 2026. No macro, syntax, notation, axiom, sorry.
-/
import Derived.Test.YtlpkhgkoihlghaaGreatDoorRows
import GoSem.ClaimSeven
namespace Go.Proofs.YtlpkhgkoihlghaaGreatDoor
namespace Rows

/-- THE TIED CARD OF 'dataenclavelaw40.CorrectionsReach'. -/
def correctionsReachCard : Claim7 := { stood := { row := correctionsReachRow, standIns := [], harness := (true, "6b689ae11472ef1fd28697807c9133c73c22ab719cfa4bdbc0163fdeed20aeaf"), looks := false }, kinds := [], alts := [], laidByText := true, laidKinds := [.data, .data, .data], laidTests := true, laidLooks := .later }
def CorrectionsReachCardSaid : Prop := Claim7.holds Tryz.pinned (.plain (OpenSpec.ofChange correctionsReachSpec)) correctionsReachCard

/-- THE SECOND FORM's CARD OF 'dataenclavelaw40.CorrectionsReach'. -/
def correctionsReachUptoCard : Claim7 := { stood := { row := correctionsReachUptoRow, standIns := [], harness := (true, "6b689ae11472ef1fd28697807c9133c73c22ab719cfa4bdbc0163fdeed20aeaf"), looks := false }, kinds := [], alts := [], laidByText := true, laidKinds := [.data, .data, .data], laidTests := true, laidLooks := .later }
def CorrectionsReachUptoCardSaid : Prop := Claim7.holds Tryz.pinned (.plain (OpenSpec.upto correctionsReachSpec)) correctionsReachUptoCard
end Rows
end Go.Proofs.YtlpkhgkoihlghaaGreatDoor
