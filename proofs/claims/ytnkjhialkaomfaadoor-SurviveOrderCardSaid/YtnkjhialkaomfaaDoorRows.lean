/-
  NARROWER THAN 'FOR EVERY INPUT', by the rows' own cells (each row's printed sentence says how): SurviveWhole: laid · SurviveOrder: laid · SurviveTwice: laid · SurviveSteps: laid · SurviveFalls: laid.
  DERIVED. THE GIVEN ROWS OF THIS SEAT. 5 by the template 'for every input the law returns true; each argument reads behind the call as it read before'; 0 by the template 'total and deterministic' (their statements: YtnkjhialkaomfaaDoorTotals.lean).
  GIVEN WITH THE SEED: the statements are not yours to turn. If you find one false, say at which input.
  Laid BY PROGRAM, IN A SANDBOX (cutbox-rows.mjs): the forced cells as the released guide's own fill.sh prints them over the translation 0543ac7d8e3ee213… (all of the seat's roots in one cut). By AI agents, Wed Nov 11 2026. No macro, syntax, notation, axiom, sorry.
-/
import Derived.Test.YtnkjhialkaomfaaDoorChecked
import GoSem.Claim
import GoSem.ClaimJoined
import GoSem.ClaimMapViews
import Derived.JoinedTies
import Derived.KernelRfl
namespace Go.Proofs.YtnkjhialkaomfaaDoor
/- THE CELL 'sum', in the pinned program and in every row, IS THE sha256 OF THE DUMP (.gsa) THAT YtnkjhialkaomfaaDoorProg.lean LOADS. Nothing in Lean hashes anything: it is a label: what it is worth is what the hold of that sum in a sandbox is worth. -/
noncomputable def Tryd.pinned : Pinned := { name := "ytnkjhialkaomfaadoor", sum := "0543ac7d8e3ee2135b16a787da56af849291aed35e9fba52daf9f58d7dc00c0f", checked := Tryd.checked }
namespace Rows
def none {H : Type} : Left H := { results := [], args := [] }

/- WHAT THE LISTED PACKAGE-LEVEL VARIABLES READ AS WHEN THE CALL BEGINS. Each datum BY PROGRAM (the guide's laid-datum.mjs) off the statement by which the dump's own 'gosem.cut.vars' lays the variable. In a bare row this is a premise. The card (YtnkjhialkaomfaaDoorCards.lean) ties it to the program's text. -/
def laid_math_bits_deBruijn64tab {H : Type} : DataW H := .agg [.lit (.int .u8 0), .lit (.int .u8 1), .lit (.int .u8 56), .lit (.int .u8 2), .lit (.int .u8 57), .lit (.int .u8 49), .lit (.int .u8 28), .lit (.int .u8 3), .lit (.int .u8 61), .lit (.int .u8 58), .lit (.int .u8 42), .lit (.int .u8 50), .lit (.int .u8 38), .lit (.int .u8 29), .lit (.int .u8 17), .lit (.int .u8 4), .lit (.int .u8 62), .lit (.int .u8 47), .lit (.int .u8 59), .lit (.int .u8 36), .lit (.int .u8 45), .lit (.int .u8 43), .lit (.int .u8 51), .lit (.int .u8 22), .lit (.int .u8 53), .lit (.int .u8 39), .lit (.int .u8 33), .lit (.int .u8 30), .lit (.int .u8 24), .lit (.int .u8 18), .lit (.int .u8 12), .lit (.int .u8 5), .lit (.int .u8 63), .lit (.int .u8 55), .lit (.int .u8 48), .lit (.int .u8 27), .lit (.int .u8 60), .lit (.int .u8 41), .lit (.int .u8 37), .lit (.int .u8 16), .lit (.int .u8 46), .lit (.int .u8 35), .lit (.int .u8 44), .lit (.int .u8 21), .lit (.int .u8 52), .lit (.int .u8 32), .lit (.int .u8 23), .lit (.int .u8 11), .lit (.int .u8 54), .lit (.int .u8 26), .lit (.int .u8 40), .lit (.int .u8 15), .lit (.int .u8 34), .lit (.int .u8 20), .lit (.int .u8 31), .lit (.int .u8 10), .lit (.int .u8 25), .lit (.int .u8 14), .lit (.int .u8 19), .lit (.int .u8 9), .lit (.int .u8 13), .lit (.int .u8 8), .lit (.int .u8 7), .lit (.int .u8 6)]

/-- 'dataenclavelaw20.SurviveWhole': WHATEVER THE INPUT: true; the input reads as it did. -/
def surviveWholeSpec : ChangeSpec := { name := "surviveWhole", fn := fun _ => fun
  | [d1, d2] => { results := [.lit (.bool true)], args := [d1, d2] }
  | _ => none }
def surviveWholeRow : OpenClaim := { program := "ytnkjhialkaomfaadoor", sum := "0543ac7d8e3ee2135b16a787da56af849291aed35e9fba52daf9f58d7dc00c0f", func := "dataenclave/dataenclavelaw20.SurviveWhole", spec := "surviveWhole", inPlace := ["math/bits.Add64"], unfollowed := true, recurses := true, named := ["math/bits.deBruijn64tab"], apart := false, laid := [("math/bits.deBruijn64tab", laid_math_bits_deBruijn64tab)] }
def SurviveWholeSaid : Prop := surviveWholeRow.holds Tryd.pinned (OpenSpec.ofChange surviveWholeSpec)

/-- ITS FALSE NEIGHBOUR: 'it returns false'. Refute it at one input. -/
def surviveWholeWrong : ChangeSpec := { name := "surviveWhole", fn := fun _ => fun
  | [d1, d2] => { results := [.lit (.bool false)], args := [d1, d2] }
  | _ => none }
def SurviveWholeWrongFalsely : Prop := surviveWholeRow.holds Tryd.pinned (OpenSpec.ofChange surviveWholeWrong)

/-- 'dataenclavelaw20.SurviveOrder': WHATEVER THE INPUT: true; the input reads as it did. -/
def surviveOrderSpec : ChangeSpec := { name := "surviveOrder", fn := fun _ => fun
  | [d] => { results := [.lit (.bool true)], args := [d] }
  | _ => none }
def surviveOrderRow : OpenClaim := { program := "ytnkjhialkaomfaadoor", sum := "0543ac7d8e3ee2135b16a787da56af849291aed35e9fba52daf9f58d7dc00c0f", func := "dataenclave/dataenclavelaw20.SurviveOrder", spec := "surviveOrder", inPlace := ["math/bits.Add64"], unfollowed := true, recurses := true, named := ["math/bits.deBruijn64tab"], apart := false, laid := [("math/bits.deBruijn64tab", laid_math_bits_deBruijn64tab)] }
def SurviveOrderSaid : Prop := surviveOrderRow.holds Tryd.pinned (OpenSpec.ofChange surviveOrderSpec)

/-- ITS FALSE NEIGHBOUR: 'it returns false'. Refute it at one input. -/
def surviveOrderWrong : ChangeSpec := { name := "surviveOrder", fn := fun _ => fun
  | [d] => { results := [.lit (.bool false)], args := [d] }
  | _ => none }
def SurviveOrderWrongFalsely : Prop := surviveOrderRow.holds Tryd.pinned (OpenSpec.ofChange surviveOrderWrong)

/-- 'dataenclavelaw20.SurviveTwice': WHATEVER THE INPUT: true; the input reads as it did. -/
def surviveTwiceSpec : ChangeSpec := { name := "surviveTwice", fn := fun _ => fun
  | [d] => { results := [.lit (.bool true)], args := [d] }
  | _ => none }
def surviveTwiceRow : OpenClaim := { program := "ytnkjhialkaomfaadoor", sum := "0543ac7d8e3ee2135b16a787da56af849291aed35e9fba52daf9f58d7dc00c0f", func := "dataenclave/dataenclavelaw20.SurviveTwice", spec := "surviveTwice", inPlace := ["math/bits.Add64"], unfollowed := true, recurses := true, named := ["math/bits.deBruijn64tab"], apart := false, laid := [("math/bits.deBruijn64tab", laid_math_bits_deBruijn64tab)] }
def SurviveTwiceSaid : Prop := surviveTwiceRow.holds Tryd.pinned (OpenSpec.ofChange surviveTwiceSpec)

/-- ITS FALSE NEIGHBOUR: 'it returns false'. Refute it at one input. -/
def surviveTwiceWrong : ChangeSpec := { name := "surviveTwice", fn := fun _ => fun
  | [d] => { results := [.lit (.bool false)], args := [d] }
  | _ => none }
def SurviveTwiceWrongFalsely : Prop := surviveTwiceRow.holds Tryd.pinned (OpenSpec.ofChange surviveTwiceWrong)

/-- 'dataenclavelaw20.SurviveSteps': WHATEVER THE INPUT: true; the input reads as it did. -/
def surviveStepsSpec : ChangeSpec := { name := "surviveSteps", fn := fun _ => fun
  | [d1, d2, d3, d4, d5] => { results := [.lit (.bool true)], args := [d1, d2, d3, d4, d5] }
  | _ => none }
def surviveStepsRow : OpenClaim := { program := "ytnkjhialkaomfaadoor", sum := "0543ac7d8e3ee2135b16a787da56af849291aed35e9fba52daf9f58d7dc00c0f", func := "dataenclave/dataenclavelaw20.SurviveSteps", spec := "surviveSteps", inPlace := ["math/bits.Add64", "math/bits.Sub64"], unfollowed := true, recurses := true, named := ["math/bits.deBruijn64tab"], apart := false, laid := [("math/bits.deBruijn64tab", laid_math_bits_deBruijn64tab)] }
def SurviveStepsSaid : Prop := surviveStepsRow.holds Tryd.pinned (OpenSpec.ofChange surviveStepsSpec)

/-- ITS FALSE NEIGHBOUR: 'it returns false'. Refute it at one input. -/
def surviveStepsWrong : ChangeSpec := { name := "surviveSteps", fn := fun _ => fun
  | [d1, d2, d3, d4, d5] => { results := [.lit (.bool false)], args := [d1, d2, d3, d4, d5] }
  | _ => none }
def SurviveStepsWrongFalsely : Prop := surviveStepsRow.holds Tryd.pinned (OpenSpec.ofChange surviveStepsWrong)

/-- 'dataenclavelaw20.SurviveFalls': WHATEVER THE INPUT: true; the input reads as it did. -/
def surviveFallsSpec : ChangeSpec := { name := "surviveFalls", fn := fun _ => fun
  | [d] => { results := [.lit (.bool true)], args := [d] }
  | _ => none }
def surviveFallsRow : OpenClaim := { program := "ytnkjhialkaomfaadoor", sum := "0543ac7d8e3ee2135b16a787da56af849291aed35e9fba52daf9f58d7dc00c0f", func := "dataenclave/dataenclavelaw20.SurviveFalls", spec := "surviveFalls", inPlace := ["math/bits.Add64", "math/bits.Sub64"], unfollowed := true, recurses := true, named := ["math/bits.deBruijn64tab"], apart := false, laid := [("math/bits.deBruijn64tab", laid_math_bits_deBruijn64tab)] }
def SurviveFallsSaid : Prop := surviveFallsRow.holds Tryd.pinned (OpenSpec.ofChange surviveFallsSpec)

/-- ITS FALSE NEIGHBOUR: 'it returns false'. Refute it at one input. -/
def surviveFallsWrong : ChangeSpec := { name := "surviveFalls", fn := fun _ => fun
  | [d] => { results := [.lit (.bool false)], args := [d] }
  | _ => none }
def SurviveFallsWrongFalsely : Prop := surviveFallsRow.holds Tryd.pinned (OpenSpec.ofChange surviveFallsWrong)

/- THE SECOND FORM. 'bulk': how many values and letters a reading holds, each counted each time it is reached (what is shared counts as often as it is met; a slice's spare places count too). A statement '..UptoSaid' is the law's where the arguments, and the package variables that the reading takes, are together of bulk at most 1048576: NARROWER than '..Said'. Prove '..Said' where nothing that the law and all that it calls make is longer than what came in: it says more and counts as full. Else prove '..UptoSaid'. A law counts once. -/
mutual
def uptoBulk {H : Type} : DataW H → Nat
  | .lit (.string bytes) => bytes.length + 1
  | .lit _ => 1
  | .nil => 1
  | .ptr d => uptoBulk d + 1
  | .slice elems spare => uptoBulkAll elems + uptoBulkAll spare + 1
  | .agg parts => uptoBulkAll parts + 1
  | .iface _ d => uptoBulk d + 1
  | .map entries => uptoBulkEntries entries + 1
  | .held _ => 1
def uptoBulkAll {H : Type} : List (DataW H) → Nat
  | [] => 0
  | d :: r => uptoBulk d + uptoBulkAll r
def uptoBulkEntries {H : Type} : List (Lit × DataW H) → Nat
  | [] => 0
  | x :: r => uptoBulkEntry x + uptoBulkEntries r
def uptoBulkEntry {H : Type} : Lit × DataW H → Nat
  | (.string bytes, d) => bytes.length + uptoBulk d + 1
  | (_, d) => uptoBulk d + 1
 end
def uptoSmall : (H : Type) → List (DataW H) → Bool := fun _ ds => decide (uptoBulkAll ds ≤ 1048576)
def OpenSpec.upto (s : _root_.Go.ChangeSpec) : _root_.Go.OpenSpec := { _root_.Go.OpenSpec.ofChange s with cond := some uptoSmall }

/-- 'dataenclavelaw20.SurviveWhole', WHERE WHAT IT READS IS OF BULK AT MOST 1048576: true; the input reads as it did. -/
def surviveWholeUptoRow : OpenClaim := { program := "ytnkjhialkaomfaadoor", sum := "0543ac7d8e3ee2135b16a787da56af849291aed35e9fba52daf9f58d7dc00c0f", func := "dataenclave/dataenclavelaw20.SurviveWhole", spec := "surviveWhole", inPlace := ["math/bits.Add64"], unfollowed := true, recurses := true, named := ["math/bits.deBruijn64tab"], apart := false, laid := [("math/bits.deBruijn64tab", laid_math_bits_deBruijn64tab)], narrowed := true }
def SurviveWholeUptoSaid : Prop := surviveWholeUptoRow.holds Tryd.pinned (OpenSpec.upto surviveWholeSpec)

/-- 'dataenclavelaw20.SurviveOrder', WHERE WHAT IT READS IS OF BULK AT MOST 1048576: true; the input reads as it did. -/
def surviveOrderUptoRow : OpenClaim := { program := "ytnkjhialkaomfaadoor", sum := "0543ac7d8e3ee2135b16a787da56af849291aed35e9fba52daf9f58d7dc00c0f", func := "dataenclave/dataenclavelaw20.SurviveOrder", spec := "surviveOrder", inPlace := ["math/bits.Add64"], unfollowed := true, recurses := true, named := ["math/bits.deBruijn64tab"], apart := false, laid := [("math/bits.deBruijn64tab", laid_math_bits_deBruijn64tab)], narrowed := true }
def SurviveOrderUptoSaid : Prop := surviveOrderUptoRow.holds Tryd.pinned (OpenSpec.upto surviveOrderSpec)

/-- 'dataenclavelaw20.SurviveTwice', WHERE WHAT IT READS IS OF BULK AT MOST 1048576: true; the input reads as it did. -/
def surviveTwiceUptoRow : OpenClaim := { program := "ytnkjhialkaomfaadoor", sum := "0543ac7d8e3ee2135b16a787da56af849291aed35e9fba52daf9f58d7dc00c0f", func := "dataenclave/dataenclavelaw20.SurviveTwice", spec := "surviveTwice", inPlace := ["math/bits.Add64"], unfollowed := true, recurses := true, named := ["math/bits.deBruijn64tab"], apart := false, laid := [("math/bits.deBruijn64tab", laid_math_bits_deBruijn64tab)], narrowed := true }
def SurviveTwiceUptoSaid : Prop := surviveTwiceUptoRow.holds Tryd.pinned (OpenSpec.upto surviveTwiceSpec)

/-- 'dataenclavelaw20.SurviveSteps', WHERE WHAT IT READS IS OF BULK AT MOST 1048576: true; the input reads as it did. -/
def surviveStepsUptoRow : OpenClaim := { program := "ytnkjhialkaomfaadoor", sum := "0543ac7d8e3ee2135b16a787da56af849291aed35e9fba52daf9f58d7dc00c0f", func := "dataenclave/dataenclavelaw20.SurviveSteps", spec := "surviveSteps", inPlace := ["math/bits.Add64", "math/bits.Sub64"], unfollowed := true, recurses := true, named := ["math/bits.deBruijn64tab"], apart := false, laid := [("math/bits.deBruijn64tab", laid_math_bits_deBruijn64tab)], narrowed := true }
def SurviveStepsUptoSaid : Prop := surviveStepsUptoRow.holds Tryd.pinned (OpenSpec.upto surviveStepsSpec)

/-- 'dataenclavelaw20.SurviveFalls', WHERE WHAT IT READS IS OF BULK AT MOST 1048576: true; the input reads as it did. -/
def surviveFallsUptoRow : OpenClaim := { program := "ytnkjhialkaomfaadoor", sum := "0543ac7d8e3ee2135b16a787da56af849291aed35e9fba52daf9f58d7dc00c0f", func := "dataenclave/dataenclavelaw20.SurviveFalls", spec := "surviveFalls", inPlace := ["math/bits.Add64", "math/bits.Sub64"], unfollowed := true, recurses := true, named := ["math/bits.deBruijn64tab"], apart := false, laid := [("math/bits.deBruijn64tab", laid_math_bits_deBruijn64tab)], narrowed := true }
def SurviveFallsUptoSaid : Prop := surviveFallsUptoRow.holds Tryd.pinned (OpenSpec.upto surviveFallsSpec)

end Rows
end Go.Proofs.YtnkjhialkaomfaaDoor
