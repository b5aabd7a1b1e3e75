/- FG -/
import Derived.Test.YtkjijhldfdplgaaGreatDoorRows
import Derived.Test.YtkjijhldfdplgaaGreatDoorFA
import Derived.ProofKit
import Derived.LaidMore
import Derived.Stop.Joined
open Go.Proofs.Tryz
set_option linter.all false
namespace Go.Proofs.YtkjijhldfdplgaaGreatDoor.P
open Go.ChangeShapes Go.WideShapes Go.ChangeAt Go.WideMaps Go.WideElems Go.RowKit Go.Abs Go.Proofs
set_option maxRecDepth 100000
def dY:List (String×DataW Unit):=[("math/bits.deBruijn32tab",Rows.laid_math_bits_deBruijn32tab),("math/bits.deBruijn64tab",Rows.laid_math_bits_deBruijn64tab),("internal/strconv.uint64pow10",Rows.laid_internal_strconv_uint64pow10)]
theorem sw:prog.globalNamed "math/bits.deBruijn64tab" = some 2:=by kernel_rfl
theorem sI:(prog.globals[2]?).map (·.type)=some 348:=by kernel_rfl
theorem lX(os:Os)(args:Array Value):laidMetH prog dY ((World.doorLaid prog 400 os).forCall (λ_ _=>0) ⟨#[],args,[]⟩).memory :=
 laidMetH_of_parts3 (fuel:=8) (laidMet_of_run' 8 (by kernel_rfl) (by kernel_rfl)) (by kernel_rfl) (by kernel_rfl)
theorem kk:∀{H:Type},(Rows.laid_math_bits_deBruijn64tab:DataW H)=.agg (I1.map λn=>.lit (.int .u8 n)):=rfl
theorem bp{W:World}(h:laidMetH prog dY W):Pq (λ_=>False) W:=by
 rw[MakeChecks.laidMetH_plain _ _ _ (by kernel_rfl)]at h;obtain⟨H,⟨_,_,_,_,_,_,_,_,_,_,⟨I,t0,f,f0,J,K,d,m,o,p,_⟩,_⟩,_,_⟩:=h;obtain rfl:=sY (sw.symm.trans d);obtain rfl:=sY (sI.symm.trans m);obtain⟨xs,L,rfl,c,v,B,q⟩:=DataW.trod_array underlying348 p;have C:prog.cellsOf 5=1:=by kernel_rfl
 have r:xs.map (λx=>x.1)=I1.map λn=>DataW.lit (.int .u8 n):=by
  rw[kk]at c;simp only[Prod.mk.injEq,DataW.agg.injEq]at c;exact c.1.symm
 have b:∀i (s:i<64),W.cell? ⟨2,i,none⟩=some (.int .u8 (I1.getD i 0)):=by
  intro i s;have w:=q i s;have e:i<xs.length:=by omega
  rw[P3 e]at w;obtain⟨k,z,E,_⟩:=DataW.trod_int underlying5 w;have t:=congrArg (λl=>l[i]?) r;have hd:i<I1.length:=s;simp only[tr,P3 e,P3 hd,ve,Option.some.injEq]at t;rw[E]at t;rw[World.var?_cell d o i];rw[C,u4]at z
  have F:f.toList[i]?=some (.int .u8 k):=by
   have:=congrArg (λl=>l[0]?) z
   simpa using this
  rw[<-tU,F];have hk:k=I1[i]:=by simpa using t
  rw[hk];simp[List.getD,hd]
 intro g cs a;unfold oM at a
 match g,a with
 | 0,a=>simp[iM]at a
 | 1,a=>simp[iM]at a
 | g+3,a=>simp[iM]at a
 | 2,a =>
   have a:some (I1.map λn=>D.int .u8 n)=some cs:=a;obtain rfl:=sY a;have A:=b 0 (by omega);refine Ax.ptr 2 0 _ (λj=>.int .u8 (I1.getD j 0)) (λ_=>?_) (λ_ h=>h) (λx hx=>?_) (λj y hy=>?_) (λj y hy=>?_)
   ·rcases tG 2 W.heap.size with u|u
    ·exact u
    ·unfold World.cell? at A;have:W.heap[2]?=none:=uj u;simp[this]at A
   ·obtain⟨n,_,rfl⟩:=List.mem_map.1 hx;rfl
   ·have G:j<64:=by have:=A7 hy;simpa [I1] using this
    rw[tE];exact b j G
   ·rw[tr]at hy
    cases hq:I1[j]? with
    | none=>simp[hq]at hy
    | some n =>
      simp[hq]at hy;subst hy;simp only[List.getD,hq,uz];exact .int _ _
