/- RunsFacts -/
import Derived.Test.YthifolbledpmkaaGreatDoorRows
import Derived.Test.YthifolbledpmkaaGreatDoorChecked
import Derived.SevenTiedAt
import Derived.KernelRfl
namespace Go.Proofs.YthifolbledpmkaaGreatDoor.interpretRuns
open Go
set_option linter.all false
noncomputable abbrev P := Tryz.checked.prog
noncomputable abbrev c := Rows.interpretRunsRow
noncomputable abbrev s := Rows.interpretRunsSpec
noncomputable abbrev fn := Tryz.f3
theorem an {a b : Bool} (h : a = true) (k : b = true) : (a&&b) = true := by rw [h, k]; rfl
theorem a0 : (c.wf (OpenSpec.ofChange s)) = true := by kernel_rfl
theorem a1 : (laidOutB P) = true := by kernel_rfl
theorem a2 : (mapsRowed P) = true := by kernel_rfl
theorem a3 : (fn.params.all (P.readableRec ·)) = true := by kernel_rfl
theorem a4 : (namedTie P c.named s.vars) = true := by kernel_rfl
theorem a5 : ((c.stops==[])) = true := by kernel_rfl
theorem a6 : ((P.stops==[])) = true := by kernel_rfl
theorem a7 : ((c.knobs==[])) = true := by kernel_rfl
theorem a8 : ((P.stopKnobs==[])) = true := by kernel_rfl
theorem a9 : ((c.inPlace==P.inPlace 3)) = true := by kernel_rfl
theorem a10 : ((c.unfollowed==P.unfollowed 3)) = true := by kernel_rfl
theorem a11 : ((c.recurses==P.recurses 3)) = true := by kernel_rfl
theorem a12 : ((c.named==P.varsNamed 3)) = true := by kernel_rfl
theorem a13 : ((c.maps==(fn.params.toList++s.plain.varTypes P).any (P.mapsRec ·))) = true := by kernel_rfl
theorem a14 : ((c.ifaces==(fn.params.toList++s.plain.varTypes P).any (P.ifacesRec ·))) = true := by kernel_rfl
theorem a15 : ((c.mapsOut==P.mapsAmong fn.resultTypes.toList)) = true := by kernel_rfl
theorem a16 : ((c.loops==(fn.params.toList++s.plain.varTypes P).any (P.loopsFrom ·))) = true := by kernel_rfl
theorem a17 : ((c.wideKeys==(fn.params.toList++s.plain.varTypes P++fn.resultTypes.toList).any (P.wideKeysFrom ·))) = true := by kernel_rfl
theorem a18 : (s.vars.all (P.varReadable ·)) = true := by kernel_rfl
theorem a19 : (fn.resultTypes.all (fun t => P.readableRec t&&decide (t < P.types.size))) = true := by kernel_rfl
theorem a20 : ((c.ifacesOut==fn.resultTypes.toList.any (P.ifacesRec ·))) = true := by kernel_rfl
theorem a21 : ((c.loopsOut==fn.resultTypes.toList.any (P.loopsFrom ·))) = true := by kernel_rfl
theorem a22 : ((c.plainKeys==P.plainKeys)) = true := by kernel_rfl
theorem a23 : (c.shortTexts.isNone) = true := by kernel_rfl
theorem a24 : (P.stopsHeard) = true := by kernel_rfl
theorem a25 : (P.mayEnter) = true := by kernel_rfl
theorem a26 : ((c.lifted==P.liftsFinal)) = true := by kernel_rfl
theorem a27 : ((P.make==some c.make)) = true := by kernel_rfl
theorem a28 : ((c.kinds==(if c.domain.isEmpty then [] else fn.params.toList.map fun t => match P.underlying t with | some (.int k) => some k | _ => none))) = true := by kernel_rfl
theorem a29 : ((c.pinned==c.pinnedBy)) = true := by kernel_rfl
theorem a30 : ((c.veiled==(fn.params.toList++s.plain.varTypes P++fn.resultTypes.toList).any (P.veiledRec ·))) = true := by kernel_rfl
theorem a31 : (c.veiledFits P fn.params.toList (fn.params.toList++s.plain.varTypes P++fn.resultTypes.toList)) = true := by kernel_rfl
set_option maxRecDepth 1000000 in
theorem Ado : joinedFacts P 3 fn s c = true := an (an (an (an (an (an (an (an (an (an (an (an (an (an (an (an (an (an (an (an (an (an (an (an (an (an (an (an (an (an (an (a0) a1) a2) a3) a4) a5) a6) a7) a8) a9) a10) a11) a12) a13) a14) a15) a16) a17) a18) a19) a20) a21) a22) a23) a24) a25) a26) a27) a28) a29) a30) a31
end Go.Proofs.YthifolbledpmkaaGreatDoor.interpretRuns
