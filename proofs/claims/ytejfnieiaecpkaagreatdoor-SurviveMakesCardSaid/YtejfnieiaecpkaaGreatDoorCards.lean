/-
  DERIVED. GIVEN WITH THE SEED: THE CARDS: each row of YtejfnieiaecpkaaGreatDoorRows.lean that lists a variable, with what it lists TIED to the program's text (the seventh form; the later family's looks); each row that meets fmt, with fmt's text TOLD by the authors' own Lean function (tested against real Go, not proved from fmt's source: count such statements apart). THE CARD IS WHAT COUNTS. Prove the row's statement (the work); the ties are given (YtejfnieiaecpkaaGreatDoorTie.lean); close each card by the builder's one call (the guide's Derived/Test/ToyasCard.lean, 'card_holds'). Laid BY PROGRAM, IN A SANDBOX (cutbox-door.mjs). By AI agents, Wed Nov 11 2026. No macro, syntax, notation, axiom, sorry.
-/
import Derived.Test.YtejfnieiaecpkaaGreatDoorRows
import GoSem.ClaimSeven
namespace Go.Proofs.YtejfnieiaecpkaaGreatDoor
namespace Rows

/-- THE TIED CARD OF 'dataenclavelaw21.PlotCoarse'. -/
def plotCoarseCard : Claim7 := { stood := { row := plotCoarseRow, standIns := [], harness := (true, "2c767906b9d3df5c19f023f2e1d998dfc4660df4236239d1666c7876dbefe2f4"), looks := false }, kinds := [], alts := [], laidByText := true, laidKinds := [.data, .data, .data], laidTests := true, laidLooks := .later }
def PlotCoarseCardSaid : Prop := Claim7.holds Tryz.pinned (.plain (OpenSpec.ofChange plotCoarseSpec)) plotCoarseCard

/-- THE TIED CARD OF 'dataenclavelaw21.PlotMakes'. -/
def plotMakesCard : Claim7 := { stood := { row := plotMakesRow, standIns := [], harness := (true, "2c767906b9d3df5c19f023f2e1d998dfc4660df4236239d1666c7876dbefe2f4"), looks := false }, kinds := [], alts := [], laidByText := true, laidKinds := [.data, .data, .data], laidTests := true, laidLooks := .later }
def PlotMakesCardSaid : Prop := Claim7.holds Tryz.pinned (.plain (OpenSpec.ofChange plotMakesSpec)) plotMakesCard

/-- THE TIED CARD OF 'dataenclavelaw20.SurviveMakes'. -/
def surviveMakesCard : Claim7 := { stood := { row := surviveMakesRow, standIns := [], harness := (true, "2c767906b9d3df5c19f023f2e1d998dfc4660df4236239d1666c7876dbefe2f4"), looks := false }, kinds := [], alts := [], laidByText := true, laidKinds := [.data, .data, .data], laidTests := true, laidLooks := .later }
def SurviveMakesCardSaid : Prop := Claim7.holds Tryz.pinned (.plain (OpenSpec.ofChange surviveMakesSpec)) surviveMakesCard

/-- THE SECOND FORM's CARD OF 'dataenclavelaw21.PlotCoarse'. -/
def plotCoarseUptoCard : Claim7 := { stood := { row := plotCoarseUptoRow, standIns := [], harness := (true, "2c767906b9d3df5c19f023f2e1d998dfc4660df4236239d1666c7876dbefe2f4"), looks := false }, kinds := [], alts := [], laidByText := true, laidKinds := [.data, .data, .data], laidTests := true, laidLooks := .later }
def PlotCoarseUptoCardSaid : Prop := Claim7.holds Tryz.pinned (.plain (OpenSpec.upto plotCoarseSpec)) plotCoarseUptoCard

/-- THE SECOND FORM's CARD OF 'dataenclavelaw21.PlotMakes'. -/
def plotMakesUptoCard : Claim7 := { stood := { row := plotMakesUptoRow, standIns := [], harness := (true, "2c767906b9d3df5c19f023f2e1d998dfc4660df4236239d1666c7876dbefe2f4"), looks := false }, kinds := [], alts := [], laidByText := true, laidKinds := [.data, .data, .data], laidTests := true, laidLooks := .later }
def PlotMakesUptoCardSaid : Prop := Claim7.holds Tryz.pinned (.plain (OpenSpec.upto plotMakesSpec)) plotMakesUptoCard

/-- THE SECOND FORM's CARD OF 'dataenclavelaw20.SurviveMakes'. -/
def surviveMakesUptoCard : Claim7 := { stood := { row := surviveMakesUptoRow, standIns := [], harness := (true, "2c767906b9d3df5c19f023f2e1d998dfc4660df4236239d1666c7876dbefe2f4"), looks := false }, kinds := [], alts := [], laidByText := true, laidKinds := [.data, .data, .data], laidTests := true, laidLooks := .later }
def SurviveMakesUptoCardSaid : Prop := Claim7.holds Tryz.pinned (.plain (OpenSpec.upto surviveMakesSpec)) surviveMakesUptoCard
end Rows
end Go.Proofs.YtejfnieiaecpkaaGreatDoor
