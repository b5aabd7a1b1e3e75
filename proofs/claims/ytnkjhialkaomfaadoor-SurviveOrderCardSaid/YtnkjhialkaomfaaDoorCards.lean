/-
  DERIVED. GIVEN WITH THE SEED: THE CARDS: each row of YtnkjhialkaomfaaDoorRows.lean that lists a variable, with what it lists TIED to the program's text (the seventh form; the later family's looks); each row that meets fmt, with fmt's text TOLD by the authors' own Lean function (tested against real Go, not proved from fmt's source: count such statements apart). THE CARD IS WHAT COUNTS. Prove the row's statement (the work); the ties are given (YtnkjhialkaomfaaDoorTie.lean); close each card by the builder's one call (the guide's Derived/Test/ToyasCard.lean, 'card_holds'). Laid BY PROGRAM, IN A SANDBOX (cutbox-door.mjs). By AI agents, Wed Nov 11 2026. No macro, syntax, notation, axiom, sorry.
-/
import Derived.Test.YtnkjhialkaomfaaDoorRows
import GoSem.ClaimSeven
namespace Go.Proofs.YtnkjhialkaomfaaDoor
namespace Rows

/-- THE TIED CARD OF 'dataenclavelaw20.SurviveWhole'. -/
def surviveWholeCard : Claim7 := { stood := { row := surviveWholeRow, standIns := [], harness := (true, "eafee35450e4d3ab716a3b1802ee477993f445650c3096e53f7e8980000eedd3"), looks := false }, kinds := [], alts := [], laidByText := true, laidKinds := [.data], laidTests := true, laidLooks := .later }
def SurviveWholeCardSaid : Prop := Claim7.holds Tryd.pinned (.plain (OpenSpec.ofChange surviveWholeSpec)) surviveWholeCard

/-- THE TIED CARD OF 'dataenclavelaw20.SurviveOrder'. -/
def surviveOrderCard : Claim7 := { stood := { row := surviveOrderRow, standIns := [], harness := (true, "eafee35450e4d3ab716a3b1802ee477993f445650c3096e53f7e8980000eedd3"), looks := false }, kinds := [], alts := [], laidByText := true, laidKinds := [.data], laidTests := true, laidLooks := .later }
def SurviveOrderCardSaid : Prop := Claim7.holds Tryd.pinned (.plain (OpenSpec.ofChange surviveOrderSpec)) surviveOrderCard

/-- THE TIED CARD OF 'dataenclavelaw20.SurviveTwice'. -/
def surviveTwiceCard : Claim7 := { stood := { row := surviveTwiceRow, standIns := [], harness := (true, "eafee35450e4d3ab716a3b1802ee477993f445650c3096e53f7e8980000eedd3"), looks := false }, kinds := [], alts := [], laidByText := true, laidKinds := [.data], laidTests := true, laidLooks := .later }
def SurviveTwiceCardSaid : Prop := Claim7.holds Tryd.pinned (.plain (OpenSpec.ofChange surviveTwiceSpec)) surviveTwiceCard

/-- THE TIED CARD OF 'dataenclavelaw20.SurviveSteps'. -/
def surviveStepsCard : Claim7 := { stood := { row := surviveStepsRow, standIns := [], harness := (true, "eafee35450e4d3ab716a3b1802ee477993f445650c3096e53f7e8980000eedd3"), looks := false }, kinds := [], alts := [], laidByText := true, laidKinds := [.data], laidTests := true, laidLooks := .later }
def SurviveStepsCardSaid : Prop := Claim7.holds Tryd.pinned (.plain (OpenSpec.ofChange surviveStepsSpec)) surviveStepsCard

/-- THE TIED CARD OF 'dataenclavelaw20.SurviveFalls'. -/
def surviveFallsCard : Claim7 := { stood := { row := surviveFallsRow, standIns := [], harness := (true, "eafee35450e4d3ab716a3b1802ee477993f445650c3096e53f7e8980000eedd3"), looks := false }, kinds := [], alts := [], laidByText := true, laidKinds := [.data], laidTests := true, laidLooks := .later }
def SurviveFallsCardSaid : Prop := Claim7.holds Tryd.pinned (.plain (OpenSpec.ofChange surviveFallsSpec)) surviveFallsCard

/-- THE SECOND FORM's CARD OF 'dataenclavelaw20.SurviveWhole'. -/
def surviveWholeUptoCard : Claim7 := { stood := { row := surviveWholeUptoRow, standIns := [], harness := (true, "eafee35450e4d3ab716a3b1802ee477993f445650c3096e53f7e8980000eedd3"), looks := false }, kinds := [], alts := [], laidByText := true, laidKinds := [.data], laidTests := true, laidLooks := .later }
def SurviveWholeUptoCardSaid : Prop := Claim7.holds Tryd.pinned (.plain (OpenSpec.upto surviveWholeSpec)) surviveWholeUptoCard

/-- THE SECOND FORM's CARD OF 'dataenclavelaw20.SurviveOrder'. -/
def surviveOrderUptoCard : Claim7 := { stood := { row := surviveOrderUptoRow, standIns := [], harness := (true, "eafee35450e4d3ab716a3b1802ee477993f445650c3096e53f7e8980000eedd3"), looks := false }, kinds := [], alts := [], laidByText := true, laidKinds := [.data], laidTests := true, laidLooks := .later }
def SurviveOrderUptoCardSaid : Prop := Claim7.holds Tryd.pinned (.plain (OpenSpec.upto surviveOrderSpec)) surviveOrderUptoCard

/-- THE SECOND FORM's CARD OF 'dataenclavelaw20.SurviveTwice'. -/
def surviveTwiceUptoCard : Claim7 := { stood := { row := surviveTwiceUptoRow, standIns := [], harness := (true, "eafee35450e4d3ab716a3b1802ee477993f445650c3096e53f7e8980000eedd3"), looks := false }, kinds := [], alts := [], laidByText := true, laidKinds := [.data], laidTests := true, laidLooks := .later }
def SurviveTwiceUptoCardSaid : Prop := Claim7.holds Tryd.pinned (.plain (OpenSpec.upto surviveTwiceSpec)) surviveTwiceUptoCard

/-- THE SECOND FORM's CARD OF 'dataenclavelaw20.SurviveSteps'. -/
def surviveStepsUptoCard : Claim7 := { stood := { row := surviveStepsUptoRow, standIns := [], harness := (true, "eafee35450e4d3ab716a3b1802ee477993f445650c3096e53f7e8980000eedd3"), looks := false }, kinds := [], alts := [], laidByText := true, laidKinds := [.data], laidTests := true, laidLooks := .later }
def SurviveStepsUptoCardSaid : Prop := Claim7.holds Tryd.pinned (.plain (OpenSpec.upto surviveStepsSpec)) surviveStepsUptoCard

/-- THE SECOND FORM's CARD OF 'dataenclavelaw20.SurviveFalls'. -/
def surviveFallsUptoCard : Claim7 := { stood := { row := surviveFallsUptoRow, standIns := [], harness := (true, "eafee35450e4d3ab716a3b1802ee477993f445650c3096e53f7e8980000eedd3"), looks := false }, kinds := [], alts := [], laidByText := true, laidKinds := [.data], laidTests := true, laidLooks := .later }
def SurviveFallsUptoCardSaid : Prop := Claim7.holds Tryd.pinned (.plain (OpenSpec.upto surviveFallsSpec)) surviveFallsUptoCard
end Rows
end Go.Proofs.YtnkjhialkaomfaaDoor
