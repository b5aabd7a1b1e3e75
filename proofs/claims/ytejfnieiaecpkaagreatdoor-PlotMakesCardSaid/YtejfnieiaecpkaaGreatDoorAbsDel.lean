/- A row of numbers that is written in place while calls are made: what is known of the memory (for slices.DeleteFunc). -/
import Derived.Test.YtejfnieiaecpkaaGreatDoorAbsLaw
import Derived.Lib.SlKept
import Derived.Lib.SliceRun
import Derived.Sort.OwnSortedInts
set_option linter.unusedVariables false
set_option linter.unusedSimpArgs false
namespace Go.Abs
open Go Go.Proofs Go.Lib Go.Sort
open Go.RowKit (Below)
structure DW (w:World) (g cap n:Nat) (T:TypeId) (wr:World) (dk:Array Int):Prop where
 below:Br w.heap.size (fun b=>b = g) w wr
 size:dk.size = n
 cells:∃ cur,wr.heap[g]? = some (.cells cur T (0,0))∧cur.size = cap * 1∧cur.toList.take n = dk.toList.map (Value.int .i64)
theorem DW.holds {w wr:World} {g cap n:Nat} {T:TypeId} {dk:Array Int} (h:DW w g cap n T wr dk):Holds (Value.int .i64) wr g 0 dk:=by
 obtain ⟨cur,h1,_,h3⟩:=h.cells
 have:=holds_of_blockI (ss:=dk.toList) h1 (by rw [show dk.toList.length = n from by simpa using h.size]; exact h3)
 rwa [Array.toArray_toList] at this
theorem DW.lt {w wr:World} {g cap n:Nat} {T:TypeId} {dk:Array Int} (h:DW w g cap n T wr dk):g < wr.heap.size:=by
 obtain ⟨cur,h1,_,_⟩:=h.cells
 exact (Array.getElem?_eq_some_iff.1 h1).1
theorem DW.call {w wr w':World} {g cap n:Nat} {T:TypeId} {dk:Array Int} (h:DW w g cap n T wr dk) (hb:Below wr.heap.size wr w'):DW w g cap n T w' dk:=by
 refine ⟨h.below.trans ((Br.of hb).weaken h.below.size fun _ _ hk=>hk),h.size,?_⟩
 obtain ⟨cur,h1,h2,h3⟩:=h.cells
 exact ⟨cur,by rw [hb.block g h.lt]; exact h1,h2,h3⟩
theorem DW.store {w wr:World} {g cap n:Nat} {T:TypeId} {dk:Array Int} (h:DW w g cap n T wr dk) {i:Nat} (hi:i < n) (hn:n≤cap) (u:Int):DW w g cap n T (wr.setCell ⟨g,i,none⟩ (.int .i64 u)) (dk.setIfInBounds i u):=by
 obtain ⟨cur,h1,h2,h3⟩:=h.cells
 have hg:=h.lt
 refine ⟨⟨h.below.os,h.below.tape,h.below.output,by show w.heap.size≤(Array.modify _ _ _).size; rw [Array.size_modify]; exact h.below.size,fun k hk hm=>?_⟩,by simp [h.size],cur.setIfInBounds i (.int .i64 u),?_,by simp [h2],?_⟩
 ·show (Array.modify _ _ _)[k]? = _
  rw [Array.getElem?_modify,if_neg (fun e=>hm e.symm)]
  exact h.below.block k hk hm
 ·show (Array.modify _ _ _)[g]? = _
  rw [Array.getElem?_modify,if_pos rfl,h1]
  rfl
 ·rw [Array.toList_setIfInBounds,Array.toList_setIfInBounds,List.map_set,← h3,List.take_set]
theorem DW.clear {w:World} {g cap n:Nat} {T:TypeId} (hn:n≤cap):∀ (zs:List Int) {wr:World} {dk:Array Int} (k:Nat),DW w g cap n T wr dk→k + zs.length≤n→DW w g cap n T (wr.setCells g k (zs.map (Value.int .i64))) (lay dk k zs)
 | [],_,_,_,h,_=>h
 | z :: r,wr,dk,k,h,hk=>by
   simp only [List.length_cons] at hk
   exact DW.clear hn r (k + 1) (h.store (by omega) hn z) (by omega)
theorem DW.row {w wr:World} {g cap n:Nat} {T:TypeId} {dk:Array Int} (h:DW w g cap n T wr dk) {R:List Int} (hR:R.length≤n) (hd:dk.toList.take R.length = R) (hn:n≤cap) (hcap:cap≤maxLen):Ew wr T 1 (.slice (some ⟨g,0,none⟩) R.length cap) R.length (R.map (Value.int .i64)):=by
 obtain ⟨cur,h1,h2,h3⟩:=h.cells
 refine .inl ⟨by simp,.inr ⟨g,cap,cur,rfl,Nat.zero_le _,h1,by omega,hcap,h2,?_⟩⟩
 have e:cur.toList.take (R.length * 1) = (cur.toList.take n).take R.length:=by rw [List.take_take,Nat.min_eq_left hR,Nat.mul_one]
 rw [e,h3,← List.map_take,hd]
end Go.Abs
