/-
  No cell of these rows narrows 'for every input' (looked for: loops, veiled, ifaces, maps, wideKeys, modest, calm, conditions, laid).
  DERIVED. THE GIVEN ROWS OF THIS SEAT. 4 by the template 'for every input the law returns true; each argument reads behind the call as it read before'; 0 by the template 'total and deterministic' (their statements: YtbhpfidifbbggaaTotals.lean).
  GIVEN WITH THE SEED: the statements are not yours to turn. If you find one false, say at which input.
  Laid BY PROGRAM, IN A SANDBOX (cutbox-rows.mjs): the forced cells as the released guide's own fill.sh prints them over the translation fde2514bf3c0f67b… (all of the seat's roots in one cut). By AI agents, Wed Nov 11 2026. No macro, syntax, notation, axiom, sorry.
-/
import Derived.Test.YtbhpfidifbbggaaChecked
import GoSem.Claim
import GoSem.ClaimJoined
import GoSem.ClaimMapViews
import Derived.JoinedTies
import Derived.KernelRfl
namespace Go.Proofs.Ytbhpfidifbbggaa
/- THE CELL 'sum', in the pinned program and in every row, IS THE sha256 OF THE DUMP (.gsa) THAT YtbhpfidifbbggaaProg.lean LOADS. Nothing in Lean hashes anything: it is a label: what it is worth is what the hold of that sum in a sandbox is worth. -/
noncomputable def Try.pinned : Pinned := { name := "ytbhpfidifbbggaa", sum := "fde2514bf3c0f67bf451f579491ce075610fa3efc3db0db28886d3ac153e9ee7", checked := Try.checked }
namespace Rows
def none {H : Type} : Left H := { results := [], args := [] }

/-- 'dataenclavelaw11.SampleDraws': WHATEVER THE INPUT: true; the input reads as it did. -/
def sampleDrawsSpec : ChangeSpec := { name := "sampleDraws", fn := fun _ => fun
  | [d1, d2, d3, d4] => { results := [.lit (.bool true)], args := [d1, d2, d3, d4] }
  | _ => none }
def sampleDrawsRow : OpenClaim := { program := "ytbhpfidifbbggaa", sum := "fde2514bf3c0f67bf451f579491ce075610fa3efc3db0db28886d3ac153e9ee7", func := "dataenclave/dataenclavelaw11.SampleDraws", spec := "sampleDraws", apart := false }
def SampleDrawsSaid : Prop := sampleDrawsRow.holds Try.pinned (OpenSpec.ofChange sampleDrawsSpec)

/-- ITS FALSE NEIGHBOUR: 'it returns false'. Refute it at one input. -/
def sampleDrawsWrong : ChangeSpec := { name := "sampleDraws", fn := fun _ => fun
  | [d1, d2, d3, d4] => { results := [.lit (.bool false)], args := [d1, d2, d3, d4] }
  | _ => none }
def SampleDrawsWrongFalsely : Prop := sampleDrawsRow.holds Try.pinned (OpenSpec.ofChange sampleDrawsWrong)

/-- 'dataenclavelaw11.SampleGrows': WHATEVER THE INPUT: true; the input reads as it did. -/
def sampleGrowsSpec : ChangeSpec := { name := "sampleGrows", fn := fun _ => fun
  | [d1, d2, d3] => { results := [.lit (.bool true)], args := [d1, d2, d3] }
  | _ => none }
def sampleGrowsRow : OpenClaim := { program := "ytbhpfidifbbggaa", sum := "fde2514bf3c0f67bf451f579491ce075610fa3efc3db0db28886d3ac153e9ee7", func := "dataenclave/dataenclavelaw11.SampleGrows", spec := "sampleGrows", apart := false }
def SampleGrowsSaid : Prop := sampleGrowsRow.holds Try.pinned (OpenSpec.ofChange sampleGrowsSpec)

/-- ITS FALSE NEIGHBOUR: 'it returns false'. Refute it at one input. -/
def sampleGrowsWrong : ChangeSpec := { name := "sampleGrows", fn := fun _ => fun
  | [d1, d2, d3] => { results := [.lit (.bool false)], args := [d1, d2, d3] }
  | _ => none }
def SampleGrowsWrongFalsely : Prop := sampleGrowsRow.holds Try.pinned (OpenSpec.ofChange sampleGrowsWrong)

/-- 'dataenclavelaw11.SampleAlone': WHATEVER THE INPUT: true; the input reads as it did. -/
def sampleAloneSpec : ChangeSpec := { name := "sampleAlone", fn := fun _ => fun
  | [d1, d2, d3] => { results := [.lit (.bool true)], args := [d1, d2, d3] }
  | _ => none }
def sampleAloneRow : OpenClaim := { program := "ytbhpfidifbbggaa", sum := "fde2514bf3c0f67bf451f579491ce075610fa3efc3db0db28886d3ac153e9ee7", func := "dataenclave/dataenclavelaw11.SampleAlone", spec := "sampleAlone", apart := false }
def SampleAloneSaid : Prop := sampleAloneRow.holds Try.pinned (OpenSpec.ofChange sampleAloneSpec)

/-- ITS FALSE NEIGHBOUR: 'it returns false'. Refute it at one input. -/
def sampleAloneWrong : ChangeSpec := { name := "sampleAlone", fn := fun _ => fun
  | [d1, d2, d3] => { results := [.lit (.bool false)], args := [d1, d2, d3] }
  | _ => none }
def SampleAloneWrongFalsely : Prop := sampleAloneRow.holds Try.pinned (OpenSpec.ofChange sampleAloneWrong)

/-- 'dataenclavelaw11.SampleMeans': WHATEVER THE INPUT: true; the input reads as it did. -/
def sampleMeansSpec : ChangeSpec := { name := "sampleMeans", fn := fun _ => fun
  | [d1, d2, d3] => { results := [.lit (.bool true)], args := [d1, d2, d3] }
  | _ => none }
def sampleMeansRow : OpenClaim := { program := "ytbhpfidifbbggaa", sum := "fde2514bf3c0f67bf451f579491ce075610fa3efc3db0db28886d3ac153e9ee7", func := "dataenclave/dataenclavelaw11.SampleMeans", spec := "sampleMeans", apart := false }
def SampleMeansSaid : Prop := sampleMeansRow.holds Try.pinned (OpenSpec.ofChange sampleMeansSpec)

/-- ITS FALSE NEIGHBOUR: 'it returns false'. Refute it at one input. -/
def sampleMeansWrong : ChangeSpec := { name := "sampleMeans", fn := fun _ => fun
  | [d1, d2, d3] => { results := [.lit (.bool false)], args := [d1, d2, d3] }
  | _ => none }
def SampleMeansWrongFalsely : Prop := sampleMeansRow.holds Try.pinned (OpenSpec.ofChange sampleMeansWrong)

/- THE SECOND FORM. 'bulk': how many values and letters a reading holds, each counted each time it is reached (what is shared counts as often as it is met; a slice's spare places count too). A statement '..UptoSaid' is the law's where the arguments, and the package variables that the reading takes, are together of bulk at most 1048576: NARROWER than '..Said'. Prove '..Said' where nothing that the law and all that it calls make is longer than what came in: it says more and counts as full. Else prove '..UptoSaid'. A law counts once. -/
mutual
def uptoBulk {H : Type} : DataW H → Nat
  | .lit (.string bytes) => bytes.length + 1
  | .lit _ => 1
  | .nil => 1
  | .ptr d => uptoBulk d + 1
  | .slice elems spare => uptoBulkAll elems + uptoBulkAll spare + 1
  | .agg parts => uptoBulkAll parts + 1
  | .iface _ d => uptoBulk d + 1
  | .map entries => uptoBulkEntries entries + 1
  | .held _ => 1
def uptoBulkAll {H : Type} : List (DataW H) → Nat
  | [] => 0
  | d :: r => uptoBulk d + uptoBulkAll r
def uptoBulkEntries {H : Type} : List (Lit × DataW H) → Nat
  | [] => 0
  | x :: r => uptoBulkEntry x + uptoBulkEntries r
def uptoBulkEntry {H : Type} : Lit × DataW H → Nat
  | (.string bytes, d) => bytes.length + uptoBulk d + 1
  | (_, d) => uptoBulk d + 1
 end
def uptoSmall : (H : Type) → List (DataW H) → Bool := fun _ ds => decide (uptoBulkAll ds ≤ 1048576)
def OpenSpec.upto (s : _root_.Go.ChangeSpec) : _root_.Go.OpenSpec := { _root_.Go.OpenSpec.ofChange s with cond := some uptoSmall }

/-- 'dataenclavelaw11.SampleDraws', WHERE WHAT IT READS IS OF BULK AT MOST 1048576: true; the input reads as it did. -/
def sampleDrawsUptoRow : OpenClaim := { program := "ytbhpfidifbbggaa", sum := "fde2514bf3c0f67bf451f579491ce075610fa3efc3db0db28886d3ac153e9ee7", func := "dataenclave/dataenclavelaw11.SampleDraws", spec := "sampleDraws", apart := false, narrowed := true }
def SampleDrawsUptoSaid : Prop := sampleDrawsUptoRow.holds Try.pinned (OpenSpec.upto sampleDrawsSpec)

/-- 'dataenclavelaw11.SampleGrows', WHERE WHAT IT READS IS OF BULK AT MOST 1048576: true; the input reads as it did. -/
def sampleGrowsUptoRow : OpenClaim := { program := "ytbhpfidifbbggaa", sum := "fde2514bf3c0f67bf451f579491ce075610fa3efc3db0db28886d3ac153e9ee7", func := "dataenclave/dataenclavelaw11.SampleGrows", spec := "sampleGrows", apart := false, narrowed := true }
def SampleGrowsUptoSaid : Prop := sampleGrowsUptoRow.holds Try.pinned (OpenSpec.upto sampleGrowsSpec)

/-- 'dataenclavelaw11.SampleAlone', WHERE WHAT IT READS IS OF BULK AT MOST 1048576: true; the input reads as it did. -/
def sampleAloneUptoRow : OpenClaim := { program := "ytbhpfidifbbggaa", sum := "fde2514bf3c0f67bf451f579491ce075610fa3efc3db0db28886d3ac153e9ee7", func := "dataenclave/dataenclavelaw11.SampleAlone", spec := "sampleAlone", apart := false, narrowed := true }
def SampleAloneUptoSaid : Prop := sampleAloneUptoRow.holds Try.pinned (OpenSpec.upto sampleAloneSpec)

/-- 'dataenclavelaw11.SampleMeans', WHERE WHAT IT READS IS OF BULK AT MOST 1048576: true; the input reads as it did. -/
def sampleMeansUptoRow : OpenClaim := { program := "ytbhpfidifbbggaa", sum := "fde2514bf3c0f67bf451f579491ce075610fa3efc3db0db28886d3ac153e9ee7", func := "dataenclave/dataenclavelaw11.SampleMeans", spec := "sampleMeans", apart := false, narrowed := true }
def SampleMeansUptoSaid : Prop := sampleMeansUptoRow.holds Try.pinned (OpenSpec.upto sampleMeansSpec)

end Rows
end Go.Proofs.Ytbhpfidifbbggaa
