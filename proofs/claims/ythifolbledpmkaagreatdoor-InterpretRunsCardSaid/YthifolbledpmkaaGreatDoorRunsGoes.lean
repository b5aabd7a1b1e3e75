/- RunsGoes: no function of the program starts a goroutine. -/
import Derived.Test.YthifolbledpmkaaGreatDoorRows
import Derived.Test.YthifolbledpmkaaGreatDoorChecked
import Derived.KernelRfl
import Derived.SevenTiedAt
set_option linter.all false
set_option maxRecDepth 100000
namespace Go.Proofs.YthifolbledpmkaaGreatDoor.interpretRuns
theorem ng{P:Program}(h:P.funcs.all (λf=>!f.goes)=true)f:P.goes f=false:=by
 have a:∀(i:Nat)(h:i<P.funcs.size),P.funcs[i].goes=false:=by simpa[Array.all_eq_true]using h
 have b:∀g:Nat,(P.funcs[g]?).any Func.goes=false:=λg=>by
  cases k:P.funcs[g]? with
  | none=>rfl
  | some x=>
    obtain⟨i,rfl⟩:=Array.getElem?_eq_some_iff.1 k
    exact a g i
 have c:P.funcs.any Func.goes=false:=by simpa[Array.any_eq_false]using a
 simp[Program.goes,b,c]
theorem Ae9:false=Rows.interpretRunsRow.goesBy Tryz.pinned.checked.prog:=by
 have h:=ng (P:=Tryz.pinned.checked.prog) (by kernel_rfl)
 unfold OpenClaim.goesBy Program.goesAt Program.goesFrom
 have e:∀x:Option FuncId,x.any Tryz.pinned.checked.prog.goes=false:=λx=>by cases x<;>simp[h]
 rw[e];split<;>simp[h]
