/-
  DERIVED: THE SHELF's CONTRACTS AT THIS DUMP, IN PLAIN WORDS (tools/lay-plain.mjs out of 'YtnkjhialkaomfaaDoorLays.lean', which tools/lay-shelf.mjs wrote): THE SAME DECLARATIONS UNDER THE SAME NAMES: 'import', 'namespace', 'open', 'def', 'theorem' AND NOTHING ELSE: no command of the shelf's: FOR A HAND-IN. Each laying: the table of numbers ('.._ren') and one theorem, a field a fact of the dump's own or the kernel's comparison; each contract: ONE APPLICATION.
-/
import Derived.Test.YtnkjhialkaomfaaDoorChecked
import Derived.Shelf.Lays
import Derived.Shelf.Lays2
namespace Go.Proofs
open Go.Shelf
def Tryd.lays189_ren : Go.Shelf.Ren := ⟨fun | 189 => 23 | 125 => 37 | 257 => 36 | 128 => 59 | 129 => 60 | 294 => 50 | 295 => 51 | 296 => 52 | 297 => 53 | 298 => 54 | 299 => 55 | 216 => 56 | 300 => 57 | 301 => 58 | 328 => 73 | 329 => 74 | 330 => 75 | 331 => 76 | 332 => 77 | 215 => 78 | 343 => 83 | n => n, fun | 28 => 23 | 3 => 3 | 46 => 49 | 0 => 0 | 51 => 88 | 53 => 55 | 4 => 4 | 183 => 81 | 182 => 80 | 131 => 70 | 5 => 5 | 9 => 9 | 218 => 96 | 222 => 100 | 228 => 102 | 229 => 103 | n => n, fun | n => n⟩
theorem Tryd.lays189 : Go.Proofs.Lays.n189 Tryd.prog Tryd.lays189_ren := {
  mixed := by kernel_rfl
  f125 := Tryd.func37.trans (congrArg some (by kernel_rfl))
  f128 := Tryd.func59.trans (congrArg some (by kernel_rfl))
  f129 := Tryd.func60.trans (congrArg some (by kernel_rfl))
  f189 := Tryd.func23.trans (congrArg some (by kernel_rfl))
  f215 := Tryd.func78.trans (congrArg some (by kernel_rfl))
  f216 := Tryd.func56.trans (congrArg some (by kernel_rfl))
  f257 := Tryd.func36.trans (congrArg some (by kernel_rfl))
  f294 := Tryd.func50.trans (congrArg some (by kernel_rfl))
  f295 := Tryd.func51.trans (congrArg some (by kernel_rfl))
  f296 := Tryd.func52.trans (congrArg some (by kernel_rfl))
  f297 := Tryd.func53.trans (congrArg some (by kernel_rfl))
  f298 := Tryd.func54.trans (congrArg some (by kernel_rfl))
  f299 := Tryd.func55.trans (congrArg some (by kernel_rfl))
  f300 := Tryd.func57.trans (congrArg some (by kernel_rfl))
  f301 := Tryd.func58.trans (congrArg some (by kernel_rfl))
  f328 := Tryd.func73.trans (congrArg some (by kernel_rfl))
  f329 := Tryd.func74.trans (congrArg some (by kernel_rfl))
  f330 := Tryd.func75.trans (congrArg some (by kernel_rfl))
  f331 := Tryd.func76.trans (congrArg some (by kernel_rfl))
  f332 := Tryd.func77.trans (congrArg some (by kernel_rfl))
  f343 := Tryd.func83.trans (congrArg some (by kernel_rfl))
  t0 := Tryd.underlying0
  a0 := Tryd.isAgg0
  z0 := Tryd.sizeOf0
  v0 := Tryd.zeroValue0
  t3 := Tryd.underlying3
  a3 := Tryd.isAgg3
  z3 := Tryd.sizeOf3
  v3 := Tryd.zeroValue3
  t4 := Tryd.underlying4
  a4 := Tryd.isAgg4
  z4 := Tryd.sizeOf4
  v4 := Tryd.zeroValue4
  t5 := Tryd.underlying5
  a5 := Tryd.isAgg5
  z5 := Tryd.sizeOf5
  v5 := Tryd.zeroValue5
  t9 := Tryd.underlying9
  a9 := Tryd.isAgg9
  z9 := Tryd.sizeOf9
  v9 := Tryd.zeroValue9
  t28 := Tryd.underlying23
  a28 := Tryd.isAgg23
  z28 := Tryd.sizeOf23
  v28 := Tryd.zeroValue23
  t46 := Tryd.underlying49
  a46 := Tryd.isAgg49
  z46 := Tryd.sizeOf49
  v46 := Tryd.zeroValue49
  t51 := Tryd.underlying88
  a51 := Tryd.isAgg88
  z51 := Tryd.sizeOf88
  v51 := Tryd.zeroValue88
  t53 := Tryd.underlying55
  a53 := Tryd.isAgg55
  z53 := Tryd.sizeOf55
  v53 := Tryd.zeroValue55
  t131 := Tryd.underlying70
  a131 := Tryd.isAgg70
  z131 := Tryd.sizeOf70
  v131 := Tryd.zeroValue70
  t182 := Tryd.underlying80
  a182 := Tryd.isAgg80
  z182 := Tryd.sizeOf80
  v182 := Tryd.zeroValue80
  t183 := Tryd.underlying81
  a183 := Tryd.isAgg81
  z183 := Tryd.sizeOf81
  v183 := Tryd.zeroValue81
  t218 := Tryd.underlying96
  a218 := Tryd.isAgg96
  z218 := Tryd.sizeOf96
  v218 := Tryd.zeroValue96
  t222 := Tryd.underlying100
  a222 := Tryd.isAgg100
  z222 := Tryd.sizeOf100
  v222 := Tryd.zeroValue100
  t228 := Tryd.underlying102
  a228 := Tryd.isAgg102
  z228 := Tryd.sizeOf102
  v228 := Tryd.zeroValue102
  t229 := Tryd.underlying103
  a229 := Tryd.isAgg103
  z229 := Tryd.sizeOf103
  v229 := Tryd.zeroValue103 }
def Tryd.lays20_ren : Go.Shelf.Ren := ⟨fun | 20 => 24 | n => n, fun | 22 => 23 | 3 => 3 | 4 => 4 | 0 => 0 | n => n, fun | n => n⟩
theorem Tryd.lays20 : Go.Proofs.Lays2.n20 Tryd.prog Tryd.lays20_ren := {
  mixed := by kernel_rfl
  f20 := Tryd.func24.trans (congrArg some (by kernel_rfl))
  t0 := Tryd.underlying0
  a0 := Tryd.isAgg0
  z0 := Tryd.sizeOf0
  v0 := Tryd.zeroValue0
  t3 := Tryd.underlying3
  a3 := Tryd.isAgg3
  z3 := Tryd.sizeOf3
  v3 := Tryd.zeroValue3
  t4 := Tryd.underlying4
  a4 := Tryd.isAgg4
  z4 := Tryd.sizeOf4
  v4 := Tryd.zeroValue4
  t22 := Tryd.underlying23
  a22 := Tryd.isAgg23
  z22 := Tryd.sizeOf23
  v22 := Tryd.zeroValue23
  i3 := by kernel_rfl }
end Go.Proofs
