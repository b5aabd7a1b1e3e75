/- FG -/
import Derived.Test.YthchnhoalhbkcaaGreatDoorRows
import Derived.Test.YthchnhoalhbkcaaGreatDoorFA
import Derived.ProofKit
import Derived.LaidMore
import Derived.Stop.Joined
open Go.Proofs.Tryz
set_option linter.unusedVariables false
set_option linter.unusedSimpArgs false
namespace Go.Proofs.YthchnhoalhbkcaaGreatDoor.P
open Go.ChangeShapes Go.WideShapes Go.ChangeAt Go.WideMaps Go.WideElems Go.RowKit Go.Abs Go.Proofs
set_option maxRecDepth 100000
def b9:List (String×DataW Unit):=[("math/bits.deBruijn32tab",Rows.laid_math_bits_deBruijn32tab),("math/bits.deBruijn64tab",Rows.laid_math_bits_deBruijn64tab),("internal/strconv.uint64pow10",Rows.laid_internal_strconv_uint64pow10)]
theorem pz:prog.globalNamed "math/bits.deBruijn64tab" = some 2:=by kernel_rfl
theorem pJ:(prog.globals[2]?).map (·.type)=some 335:=by kernel_rfl
theorem jo(os:Os)(args:Array Value):laidMetH prog b9 ((World.doorLaid prog 400 os).forCall (λ_ _=>0) ⟨#[],args,[]⟩).memory :=
 laidMetH_of_parts3 (fuel:=8) (laidMet_of_run' 8 (by kernel_rfl) (by kernel_rfl)) (by kernel_rfl) (by kernel_rfl)
theorem gU:∀{H:Type},(Rows.laid_math_bits_deBruijn64tab:DataW H)=.agg (H1.map λn=>.lit (.int .u8 n)):=rfl
theorem Zx{W:World}(h:laidMetH prog b9 W):Oq (λ_=>False) W:=by
 rw[MakeChecks.laidMetH_plain _ _ _ (by kernel_rfl)]at h;obtain⟨ps,⟨_,_,_,_,_,_,_,_,_,_,⟨g0,t0,cs0,f0,p0,q0,hg0,ht0,hv0,hd0,_⟩,_⟩,_,_⟩:=h;obtain rfl:=P3 (pz.symm.trans hg0);obtain rfl:=P3 (pJ.symm.trans ht0);obtain⟨xs,m1,rfl,hx1,hlen,hn3,hel⟩:=DataW.trod_array underlying335 hd0;have c5:prog.cellsOf 5=1:=by kernel_rfl
 have hxs:xs.map (λx=>x.1)=H1.map λn=>DataW.lit (.int .u8 n):=by
  rw[gU]at hx1;simp only[Prod.mk.injEq,DataW.agg.injEq]at hx1;exact hx1.1.symm
 have hcell:∀i (hi:i<64),W.cell? ⟨2,i,none⟩=some (.int .u8 (H1.getD i 0)):=by
  intro i hi;have h1:=hel i hi;have hlt:i<xs.length:=by omega
  rw[P2 hlt]at h1;obtain⟨k,e1,e2,_⟩:=DataW.trod_int underlying5 h1;have h2:=congrArg (λl=>l[i]?) hxs;have hd:i<H1.length:=hi;simp only[ql,P2 hlt,P2 hd,rO,Option.some.injEq]at h2;rw[e2]at h2;rw[World.var?_cell hg0 hv0 i];rw[c5,ry]at e1
  have h3:cs0.toList[i]?=some (.int .u8 k):=by
   have:=congrArg (λl=>l[0]?) e1
   simpa using this
  rw[<-qJ,h3];have hk:k=H1[i]:=by simpa using h2
  rw[hk];simp[List.getD,hd]
 intro g cs hg;unfold lW at hg
 match g,hg with
 | 0,hg=>simp[fj]at hg
 | 1,hg=>simp[fj]at hg
 | g+3,hg=>simp[fj]at hg
 | 2,hg =>
   have hg:some (H1.map λn=>D.int .u8 n)=some cs:=hg;obtain rfl:=P3 hg;have h0:=hcell 0 (by omega);refine Aw.ptr 2 0 _ (λj=>.int .u8 (H1.getD j 0)) (λ_=>?_) (λ_ h=>h) (λx hx=>?_) (λj y hy=>?_) (λj y hy=>?_)
   ·rcases qw 2 W.heap.size with hz|hz
    ·exact hz
    ·unfold World.cell? at h0;have:W.heap[2]?=none:=qT hz;simp[this]at h0
   ·obtain⟨n,_,rfl⟩:=List.mem_map.1 hx;rfl
   ·have hj:j<64:=by have:=A5 hy;simpa [H1] using this
    rw[qy];exact hcell j hj
   ·rw[ql]at hy
    cases hq:H1[j]? with
    | none=>simp[hq]at hy
    | some n =>
      simp[hq]at hy;subst hy;simp only[List.getD,hq,rt];exact .int _ _
end Go.Proofs.YthchnhoalhbkcaaGreatDoor.P
