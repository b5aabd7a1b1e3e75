/- FG -/
import Derived.Test.YtejfnieiaecpkaaGreatDoorChecked
import Derived.Test.YtejfnieiaecpkaaGreatDoorRows
import Derived.Test.YtejfnieiaecpkaaGreatDoorFA
import Derived.ProofKit
import Derived.LaidMore
import Derived.Stop.Joined
set_option linter.unusedSimpArgs false
namespace Go.Proofs.YtejfnieiaecpkaaGreatDoor.P
open Go Go.Abs Go.Proofs
set_option linter.unusedVariables false
set_option maxRecDepth 100000 in
theorem O9 {m:Nat} {x:List D} (h:Mk Tryz.prog m 3 x):∃ a:Int,x = [.int .i64 a]:=by
 cases m with
 | zero=>exact h.elim
 | succ m =>
   unfold Mk at h
   rw [Tryz.underlying3] at h
   obtain ⟨b,h,_⟩:=h
   exact ⟨b,h⟩
theorem XP {P:Program} {α:Type} {n:Nat} {t e:TypeId} {ys:List D} (ht:P.underlying t = some (.slice e)) (h:Mk P (n + 1) t ys) {f:α→D} (h1:∀ x,Mk P n e x→∃ a,d8 (GQ P e) x = f a) :
 ∃ l:List α,ys = [.list (P.cellsOf e) (l.map f)]:=by
 unfold Mk at h
 rw [ht] at h
 obtain ⟨xs,rfl,hlen,hx⟩:=h
 clear hlen
 have:∃ l:List α,xs.map (d8 (GQ P e)) = l.map f:=by
  induction xs with
  | nil=>exact ⟨[],rfl⟩
  | cons x r ih =>
    obtain ⟨a,h2⟩:=h1 x (hx x (by simp))
    obtain ⟨l,h4⟩:=ih fun y hy=>hx y (by simp [hy])
    exact ⟨a :: l,by rw [List.map_cons,h2,h4]; rfl⟩
 obtain ⟨l,h2⟩:=this
 exact ⟨l,by rw [h2]⟩
set_option maxRecDepth 100000 in
theorem WL:∀ (m:Nat) (x:List D),Mk Tryz.prog m 47 x→∃ a:Af,D.agg x = Ao a
 | 0,x,h=>h.elim
 | 1,x,h=>by
   unfold Mk at h
   rw [Tryz.underlying47] at h
   exact (h.2 _ (List.mem_cons_self)).elim
 | m + 2,x,h=>by
   unfold Mk at h
   rw [Tryz.underlying47,show Tryz.prog.cellsOf 47 = 6 from by kernel_rfl] at h
   obtain ⟨hl,hf⟩:=h
   match x,hl with
   | [a,b,c,d,e,f],_ =>
     simp only [List.mem_cons,List.not_mem_nil,or_false,forall_eq_or_imp,forall_eq,show Tryz.prog.cellsOf 3 = 1 from by kernel_rfl,show Tryz.prog.cellsOf 45 = 1 from by kernel_rfl] at hf
     obtain ⟨p1,h1⟩:=O9 hf.1
     obtain ⟨p2,h2⟩:=O9 hf.2.1
     obtain ⟨p3,h3⟩:=O9 hf.2.2.1
     obtain ⟨p4,h4⟩:=O9 hf.2.2.2.1
     obtain ⟨p5,h5⟩:=O9 hf.2.2.2.2.1
     obtain ⟨l,h6⟩:=XP (f:=Ao) Tryz.underlying45 hf.2.2.2.2.2 fun y hy=>by
      obtain ⟨a,ha⟩:=WL m y hy
      exact ⟨a,by rw [show GQ Tryz.prog 47 = true from by kernel_rfl]; exact ha⟩
     simp at h1 h2 h3 h4 h5 h6
     refine ⟨⟨p1,p2,p3,p4,p5,l⟩,?_⟩
     rw [h1,h2,h3,h4,h5,h6,A9,show Tryz.prog.cellsOf 47 = 6 from by kernel_rfl]
     rfl
end Go.Proofs.YtejfnieiaecpkaaGreatDoor.P
set_option linter.unusedVariables false
set_option linter.unusedSimpArgs false
namespace Go.Proofs.YtejfnieiaecpkaaGreatDoor.P
open Go.ChangeShapes Go.WideShapes Go.ChangeAt Go.WideMaps Go.WideElems Go.RowKit Go.Abs Go.Proofs
set_option maxRecDepth 100000
def Z0:List (String × DataW Unit):=[("math/bits.deBruijn32tab",Rows.laid_math_bits_deBruijn32tab),("math/bits.deBruijn64tab",Rows.laid_math_bits_deBruijn64tab),("internal/strconv.uint64pow10",Rows.laid_internal_strconv_uint64pow10)]
theorem j8:Tryz.prog.globalNamed "math/bits.deBruijn64tab" = some 1:=by kernel_rfl
theorem jF:(Tryz.prog.globals[1]?).map (·.type) = some 280:=by kernel_rfl
theorem fI (os:Os) (args:Array Value):laidMetH Tryz.prog Z0 ((World.doorLaid Tryz.prog 400 os).forCall (fun _ _=>0) ⟨#[],args,[]⟩).memory :=
 laidMetH_of_parts3 (fuel:=8) (laidMet_of_run' 8 (by kernel_rfl) (by kernel_rfl)) (by kernel_rfl) (by kernel_rfl)
theorem ct:∀ {H:Type},(Rows.laid_math_bits_deBruijn64tab:DataW H) = .agg (Hn.map fun n=>.lit (.int .u8 n)):=rfl
theorem XM {W:World} (h:laidMetH Tryz.prog Z0 W):VY (fun _=>False) W:=by
 rw [MakeChecks.laidMetH_plain _ _ _ (by kernel_rfl)] at h
 obtain ⟨ps,⟨_,_,_,_,_,_,_,_,_,_,⟨g0,t0,cs0,f0,p0,q0,hg0,ht0,hv0,hd0,_⟩,_⟩,_,_⟩:=h
 obtain rfl:=Option.some.inj (j8.symm.trans hg0)
 obtain rfl:=Option.some.inj (jF.symm.trans ht0)
 obtain ⟨xs,m1,rfl,hx1,hlen,hn3,hel⟩:=DataW.trod_array Tryz.underlying280 hd0
 have c5:Tryz.prog.cellsOf 5 = 1:=by kernel_rfl
 have hxs:xs.map (fun x=>x.1) = Hn.map fun n=>DataW.lit (.int .u8 n):=by
  rw [ct] at hx1
  simp only [Prod.mk.injEq,DataW.agg.injEq] at hx1
  exact hx1.1.symm
 have hcell:∀ i (hi:i < 64),W.cell? ⟨1,i,none⟩ = some (.int .u8 (Hn.getD i 0)):=by
  intro i hi
  have h1:=hel i hi
  have hlt:i < xs.length:=by omega
  rw [List.getElem?_eq_getElem hlt] at h1
  obtain ⟨k,e1,e2,_⟩:=DataW.trod_int Tryz.underlying5 h1
  have h2:=congrArg (fun l=>l[i]?) hxs
  have hd:i < Hn.length:=hi
  simp only [List.getElem?_map,List.getElem?_eq_getElem hlt,List.getElem?_eq_getElem hd,Option.map_some,Option.some.injEq] at h2
  rw [e2] at h2
  rw [World.var?_cell hg0 hv0 i]
  rw [c5,Nat.mul_one] at e1
  have h3:cs0.toList[i]? = some (.int .u8 k):=by
   have:=congrArg (fun l=>l[0]?) e1
   simpa using this
  rw [← Array.getElem?_toList,h3]
  have hk:k = Hn[i]:=by simpa using h2
  rw [hk]
  simp [List.getD,hd]
 intro g cs hg
 unfold g8 at hg
 match g,hg with
 | 0,hg=>simp [eE] at hg
 | g + 2,hg=>simp [eE] at hg
 | 1,hg =>
   have hg:some (Hn.map fun n=>D.int .u8 n) = some cs:=hg
   obtain rfl:=Option.some.inj hg
   have h0:=hcell 0 (by omega)
   refine AA.ptr 1 0 _ (fun j=>.int .u8 (Hn.getD j 0)) (fun _=>?_) (fun _ h=>h) (fun x hx=>?_) (fun j y hy=>?_) (fun j y hy=>?_)
   ·rcases Nat.lt_or_ge 1 W.heap.size with hz | hz
    ·exact hz
    ·unfold World.cell? at h0
     have:W.heap[1]? = none:=Array.getElem?_eq_none hz
     simp [this] at h0
   ·obtain ⟨n,_,rfl⟩:=List.mem_map.1 hx
    rfl
   ·have hj:j < 64:=by have:=AH hy; simpa [Hn] using this
    rw [Nat.zero_add]; exact hcell j hj
   ·rw [List.getElem?_map] at hy
    cases hq:Hn[j]? with
    | none=>simp [hq] at hy
    | some n =>
      simp [hq] at hy
      subst hy
      simp only [List.getD,hq,Option.getD_some]
      exact .int _ _
end Go.Proofs.YtejfnieiaecpkaaGreatDoor.P
