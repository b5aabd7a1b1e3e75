/- An argument that is a slice of integers, as data. -/
import Derived.Test.YtejfnieiaecpkaaGreatDoorAbsLaw
import Derived.ChangeSlices
import Derived.OpenShut
set_option linter.unusedVariables false
set_option linter.unusedSimpArgs false
namespace Go.Abs
open Go.ChangeShapes Go.WideShapes
theorem cH {H:Type} {enc:TypeId × Value→H} {P:Program} {W:World} {base:Nat} {spare:Nat→Bool} {held:Bool} {t e:TypeId} {k:IntKind} {v:Value} {d:DataW H} {p:List MemPlace}
 (ht:P.underlying t = some (.slice e)) (he:P.underlying e = some (.int k)) (hc:P.cellsOf e = 1) (hv:∃ a n c,v = .slice a n c) (h:DataW.Trod enc P W base spare held t v d p) :
 ∃ xs:List Int,A9 (fun _=>False) W v (.list 1 (xs.map (D.int k)))∧xs.length≤maxLen∧∀ n∈xs,(Lit.int k n).wf = true:=by
 obtain ⟨fuel,hf⟩:=h
 obtain ⟨a0,n0,c0,rfl⟩:=hv
 rcases open_ints ht he hc hf with ⟨hcs,_⟩ | ⟨x,l,c,zs,hcs,_,hl,hm,hz,_,hcell,hwz⟩
 ·simp [Value.cells] at hcs
  obtain ⟨rfl,rfl,rfl⟩:=hcs
  exact ⟨[],.emp _ _ _,by simp [maxLen],fun n hn=>by simp at hn⟩
 ·simp [Value.cells] at hcs
  obtain ⟨rfl,rfl,rfl⟩:=hcs
  have hln:n0≤zs.length:=by rw [hz]; split <;> omega
  refine ⟨zs.take n0,?_,by simp; omega,fun n hn=>hwz n (List.mem_of_mem_take hn)⟩
  have hlen:(zs.take n0).length = n0:=by simp; omega
  by_cases h0:n0 = 0
  ·subst h0; exact .emp _ _ _
  ·obtain ⟨b,off,spot⟩:=x
   have hc0:=hcell 0 (by omega)
   have hspot:spot = none:=by simpa [Addr.add] using World.cell?_spot hc0
   subst hspot
   have hb:b < W.heap.size:=by
    rcases Nat.lt_or_ge b W.heap.size with h | h
    ·exact h
    ·simp [World.cell?,Addr.add,Array.getElem?_eq_none h] at hc0
   have hlm:((zs.take n0).map (D.int k)).length = n0:=by rw [List.length_map,hlen]
   have hget:∀ (i:Nat) (y:D),((zs.take n0).map (D.int k))[i]? = some y→i < n0∧y = .int k (zs.getD i 0):=by
    intro i y hy
    simp only [List.getElem?_map,List.getElem?_take] at hy
    split at hy
    ·rename_i hi
     refine ⟨hi,?_⟩
     have hi':i < zs.length:=by omega
     simp [List.getElem?_eq_getElem hi'] at hy
     simp [List.getD,List.getElem?_eq_getElem hi',hy]
    ·simp at hy
   have key:=A9.list (O:=fun _=>False) (w:=W) b off c0 1 ((zs.take n0).map (D.int k)) (fun i _=>.int k (zs.getD i 0)) (by intro h; rw [← List.length_eq_zero_iff,hlm] at h; exact h0 h) hb (fun h=>h) (by rw [hlm]; exact hl)
    (fun y hy=>by obtain ⟨m,_,rfl⟩:=List.mem_map.1 hy; rfl) (fun y hy z hz=>by obtain ⟨m,_,rfl⟩:=List.mem_map.1 hy; simp [D.cells] at hz; subst hz; rfl)
    (fun i y j z hy hz=>by
     obtain ⟨hi,rfl⟩:=hget i y hy
     have hj:j = 0:=by cases j with | zero=>rfl | succ j=>simp [D.cells] at hz
     subst hj
     have:=hcell i (by omega)
     rw [GW] at this
     simpa using this)
    (fun i y j z hy hz=>by
     obtain ⟨hi,rfl⟩:=hget i y hy
     have hj:j = 0:=by cases j with | zero=>rfl | succ j=>simp [D.cells] at hz
     subst hj
     simp [D.cells] at hz
     subst hz
     exact .int _ _)
   rw [hlm] at key
   exact key
end Go.Abs
