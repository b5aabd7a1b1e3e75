/- FG -/
import Derived.Test.YtaojdkijihbaoaaGreatDoorRows
import Derived.Test.YtaojdkijihbaoaaGreatDoorFA
import Derived.ProofKit
import Derived.LaidMore
import Derived.Stop.Joined
open Go.Proofs.Tryz
set_option linter.all false
namespace Go.Proofs.YtaojdkijihbaoaaGreatDoor.P
open Go.ChangeShapes Go.WideShapes Go.ChangeAt Go.WideMaps Go.WideElems Go.RowKit Go.Abs Go.Proofs
set_option maxRecDepth 100000
def di:List (String×DataW Unit):=[("math/bits.deBruijn32tab",Rows.laid_math_bits_deBruijn32tab),("math/bits.deBruijn64tab",Rows.laid_math_bits_deBruijn64tab),("internal/strconv.uint64pow10",Rows.laid_internal_strconv_uint64pow10)]
theorem te:prog.globalNamed "math/bits.deBruijn64tab" = some 2:=by kernel_rfl
theorem tD:(prog.globals[2]?).map (·.type)=some 339:=by kernel_rfl
theorem lV(os:Os)(args:Array Value):laidMetH prog di ((World.doorLaid prog 400 os).forCall (λ_ _=>0) ⟨#[],args,[]⟩).memory :=
 laidMetH_of_parts3 (fuel:=8) (laidMet_of_run' 8 (by kernel_rfl) (by kernel_rfl)) (by kernel_rfl) (by kernel_rfl)
theorem jR:∀{H:Type},(Rows.laid_math_bits_deBruijn64tab:DataW H)=.agg (Im.map λn=>.lit (.int .u8 n)):=rfl
theorem ax{W:World}(h:laidMetH prog di W):OY (λ_=>False) W:=by
 rw[MakeChecks.laidMetH_plain _ _ _ (by kernel_rfl)]at h;obtain⟨H,⟨_,_,_,_,_,_,_,_,_,_,⟨I,t0,f,f0,J,K,d,m,o,p,_⟩,_⟩,_,_⟩:=h;obtain rfl:=uc (te.symm.trans d);obtain rfl:=uc (tD.symm.trans m);obtain⟨xs,L,rfl,c,v,B,q⟩:=DataW.trod_array underlying339 p;have C:prog.cellsOf 5=1:=by kernel_rfl
 have r:xs.map (λx=>x.1)=Im.map λn=>DataW.lit (.int .u8 n):=by
  rw[jR]at c;simp only[Prod.mk.injEq,DataW.agg.injEq]at c;exact c.1.symm
 have b:∀i (s:i<64),W.cell? ⟨2,i,none⟩=some (.int .u8 (Im.getD i 0)):=by
  intro i s;have w:=q i s;have e:i<xs.length:=by omega
  rw[P3 e]at w;obtain⟨k,z,E,_⟩:=DataW.trod_int underlying5 w;have t:=congrArg (λl=>l[i]?) r;have hd:i<Im.length:=s;simp only[uu,P3 e,P3 hd,w8,Option.some.injEq]at t;rw[E]at t;rw[World.var?_cell d o i];rw[C,vV]at z
  have F:f.toList[i]?=some (.int .u8 k):=by
   have:=congrArg (λl=>l[0]?) z
   simpa using this
  rw[<-vr,F];have hk:k=Im[i]:=by simpa using t
  rw[hk];simp[List.getD,hd]
 intro g cs a;unfold pb at a
 match g,a with
 | 0,a=>simp[iA]at a
 | 1,a=>simp[iA]at a
 | g+3,a=>simp[iA]at a
 | 2,a =>
   have a:some (Im.map λn=>D.int .u8 n)=some cs:=a;obtain rfl:=uc a;have A:=b 0 (by omega);refine Ay.ptr 2 0 _ (λj=>.int .u8 (Im.getD j 0)) (λ_=>?_) (λ_ h=>h) (λx hx=>?_) (λj y hy=>?_) (λj y hy=>?_)
   ·rcases uZ 2 W.heap.size with u|u
    ·exact u
    ·unfold World.cell? at A;have:W.heap[2]?=none:=vH u;simp[this]at A
   ·obtain⟨n,_,rfl⟩:=List.mem_map.1 hx;rfl
   ·have G:j<64:=by have:=A6 hy;simpa [Im] using this
    rw[uQ];exact b j G
   ·rw[uu]at hy
    cases hq:Im[j]? with
    | none=>simp[hq]at hy
    | some n =>
      simp[hq]at hy;subst hy;simp only[List.getD,hq,vT];exact .int _ _
