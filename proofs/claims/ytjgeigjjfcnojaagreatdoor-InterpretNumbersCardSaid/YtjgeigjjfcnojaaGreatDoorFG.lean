/- FG -/
import Derived.Test.YtjgeigjjfcnojaaGreatDoorRows
import Derived.Test.YtjgeigjjfcnojaaGreatDoorFA
import Derived.ProofKit
import Derived.LaidMore
import Derived.Stop.Joined
set_option linter.unusedVariables false
set_option linter.unusedSimpArgs false
namespace Go.Proofs.YtjgeigjjfcnojaaGreatDoor.P
open Go.ChangeShapes Go.WideShapes Go.ChangeAt Go.WideMaps Go.WideElems Go.RowKit Go.Abs Go.Proofs
set_option maxRecDepth 100000
def Xa:List (String × DataW Unit):=[("math/bits.deBruijn32tab",Rows.laid_math_bits_deBruijn32tab),("math/bits.deBruijn64tab",Rows.laid_math_bits_deBruijn64tab),("internal/strconv.uint64pow10",Rows.laid_internal_strconv_uint64pow10)]
theorem e6:Tryz.prog.globalNamed "math/bits.deBruijn64tab" = some 1:=by kernel_rfl
theorem eH:(Tryz.prog.globals[1]?).map (·.type) = some 337:=by kernel_rfl
theorem az (os:Os) (args:Array Value):laidMetH Tryz.prog Xa ((World.doorLaid Tryz.prog 400 os).forCall (fun _ _=>0) ⟨#[],args,[]⟩).memory :=
 laidMetH_of_parts3 (fuel:=8) (laidMet_of_run' 8 (by kernel_rfl) (by kernel_rfl)) (by kernel_rfl) (by kernel_rfl)
theorem Z8:∀ {H:Type},(Rows.laid_math_bits_deBruijn64tab:DataW H) = .agg (FS.map fun n=>.lit (.int .u8 n)):=rfl
theorem VU {W:World} (h:laidMetH Tryz.prog Xa W):Tn (fun _=>False) W:=by
 rw [MakeChecks.laidMetH_plain _ _ _ (by kernel_rfl)] at h
 obtain ⟨ps,⟨_,_,_,_,_,_,_,_,_,_,⟨g0,t0,cs0,f0,p0,q0,hg0,ht0,hv0,hd0,_⟩,_⟩,_,_⟩:=h
 obtain rfl:=Option.some.inj (e6.symm.trans hg0)
 obtain rfl:=Option.some.inj (eH.symm.trans ht0)
 obtain ⟨xs,m1,rfl,hx1,hlen,hn3,hel⟩:=DataW.trod_array Tryz.underlying337 hd0
 have c5:Tryz.prog.cellsOf 5 = 1:=by kernel_rfl
 have hxs:xs.map (fun x=>x.1) = FS.map fun n=>DataW.lit (.int .u8 n):=by
  rw [Z8] at hx1
  simp only [Prod.mk.injEq,DataW.agg.injEq] at hx1
  exact hx1.1.symm
 have hcell:∀ i (hi:i < 64),W.cell? ⟨1,i,none⟩ = some (.int .u8 (FS.getD i 0)):=by
  intro i hi
  have h1:=hel i hi
  have hlt:i < xs.length:=by omega
  rw [List.getElem?_eq_getElem hlt] at h1
  obtain ⟨k,e1,e2,_⟩:=DataW.trod_int Tryz.underlying5 h1
  have h2:=congrArg (fun l=>l[i]?) hxs
  have hd:i < FS.length:=hi
  simp only [List.getElem?_map,List.getElem?_eq_getElem hlt,List.getElem?_eq_getElem hd,Option.map_some,Option.some.injEq] at h2
  rw [e2] at h2
  rw [World.var?_cell hg0 hv0 i]
  rw [c5,Nat.mul_one] at e1
  have h3:cs0.toList[i]? = some (.int .u8 k):=by
   have:=congrArg (fun l=>l[0]?) e1
   simpa using this
  rw [← Array.getElem?_toList,h3]
  have hk:k = FS[i]:=by simpa using h2
  rw [hk]
  simp [List.getD,hd]
 intro g cs hg
 unfold bM at hg
 match g,hg with
 | 0,hg=>simp [aN] at hg
 | g + 2,hg=>simp [aN] at hg
 | 1,hg =>
   have hg:some (FS.map fun n=>D.int .u8 n) = some cs:=hg
   obtain rfl:=Option.some.inj hg
   have h0:=hcell 0 (by omega)
   refine AB.ptr 1 0 _ (fun j=>.int .u8 (FS.getD j 0)) (fun _=>?_) (fun _ h=>h) (fun x hx=>?_) (fun j y hy=>?_) (fun j y hy=>?_)
   ·rcases Nat.lt_or_ge 1 W.heap.size with hz | hz
    ·exact hz
    ·unfold World.cell? at h0
     have:W.heap[1]? = none:=Array.getElem?_eq_none hz
     simp [this] at h0
   ·obtain ⟨n,_,rfl⟩:=List.mem_map.1 hx
    rfl
   ·have hj:j < 64:=by have:=AH hy; simpa [FS] using this
    rw [Nat.zero_add]; exact hcell j hj
   ·rw [List.getElem?_map] at hy
    cases hq:FS[j]? with
    | none=>simp [hq] at hy
    | some n =>
      simp [hq] at hy
      subst hy
      simp only [List.getD,hq,Option.getD_some]
      exact .int _ _
end Go.Proofs.YtjgeigjjfcnojaaGreatDoor.P
