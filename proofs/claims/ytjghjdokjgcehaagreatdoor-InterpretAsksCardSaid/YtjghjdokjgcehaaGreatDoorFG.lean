/- FG -/
import Derived.Test.YtjghjdokjgcehaaGreatDoorChecked
import Derived.Test.YtjghjdokjgcehaaGreatDoorRows
import Derived.Test.YtjghjdokjgcehaaGreatDoorFA
import Derived.ProofKit
import Derived.LaidMore
import Derived.Stop.Joined
set_option linter.unusedSimpArgs false
namespace Go.Proofs.YtjghjdokjgcehaaGreatDoor.P
open Go Go.Abs Go.Proofs
set_option linter.unusedVariables false
set_option maxRecDepth 100000 in
theorem Ft {m:Nat} {x:List D} (h:G0 Tryz.prog m 3 x):∃ a:Int,x = [.int .i64 a]:=by
 cases m with
 | zero=>exact h.elim
 | succ m =>
   unfold G0 at h
   rw [Tryz.underlying3] at h
   obtain ⟨b,h,_⟩:=h
   exact ⟨b,h⟩
theorem Wg {P:Program} {α:Type} {n:Nat} {t e:TypeId} {ys:List D} (ht:P.underlying t = some (.slice e)) (h:G0 P (n + 1) t ys) {f:α→D} (h1:∀ x,G0 P n e x→∃ a,Zo (Em P e) x = f a) :
 ∃ l:List α,ys = [.list (P.cellsOf e) (l.map f)]:=by
 unfold G0 at h
 rw [ht] at h
 obtain ⟨xs,rfl,hlen,hx⟩:=h
 clear hlen
 have:∃ l:List α,xs.map (Zo (Em P e)) = l.map f:=by
  induction xs with
  | nil=>exact ⟨[],rfl⟩
  | cons x r ih =>
    obtain ⟨a,h2⟩:=h1 x (hx x (by simp))
    obtain ⟨l,h4⟩:=ih fun y hy=>hx y (by simp [hy])
    exact ⟨a :: l,by rw [List.map_cons,h2,h4]; rfl⟩
 obtain ⟨l,h2⟩:=this
 exact ⟨l,by rw [h2]⟩
set_option maxRecDepth 100000 in
theorem OQ:∀ (m:Nat) (x:List D),G0 Tryz.prog m 25 x→∃ a:Aj,D.agg x = Ap a
 | 0,x,h=>h.elim
 | 1,x,h=>by
   unfold G0 at h
   rw [Tryz.underlying25] at h
   exact (h.2 _ (List.mem_cons_self)).elim
 | m + 2,x,h=>by
   unfold G0 at h
   rw [Tryz.underlying25,show Tryz.prog.cellsOf 25 = 6 from by kernel_rfl] at h
   obtain ⟨hl,hf⟩:=h
   match x,hl with
   | [a,b,c,d,e,f],_ =>
     simp only [List.mem_cons,List.not_mem_nil,or_false,forall_eq_or_imp,forall_eq,show Tryz.prog.cellsOf 3 = 1 from by kernel_rfl,show Tryz.prog.cellsOf 23 = 1 from by kernel_rfl] at hf
     obtain ⟨p1,h1⟩:=Ft hf.1
     obtain ⟨p2,h2⟩:=Ft hf.2.1
     obtain ⟨p3,h3⟩:=Ft hf.2.2.1
     obtain ⟨p4,h4⟩:=Ft hf.2.2.2.1
     obtain ⟨p5,h5⟩:=Ft hf.2.2.2.2.1
     obtain ⟨l,h6⟩:=Wg (f:=Ap) Tryz.underlying23 hf.2.2.2.2.2 fun y hy=>by
      obtain ⟨a,ha⟩:=OQ m y hy
      exact ⟨a,by rw [show Em Tryz.prog 25 = true from by kernel_rfl]; exact ha⟩
     simp at h1 h2 h3 h4 h5 h6
     refine ⟨⟨p1,p2,p3,p4,p5,l⟩,?_⟩
     rw [h1,h2,h3,h4,h5,h6,Aa,show Tryz.prog.cellsOf 25 = 6 from by kernel_rfl]
     rfl
end Go.Proofs.YtjghjdokjgcehaaGreatDoor.P
set_option linter.unusedSimpArgs false
namespace Go.Proofs.YtjghjdokjgcehaaGreatDoor.P
open Go Go.Abs Go.Proofs
set_option linter.unusedVariables false
set_option maxRecDepth 100000 in
theorem TG {m:Nat} {x:List D} (h:G0 Tryz.prog m 9 x):∃ a:ByteArray,x = [.str a]:=by
 cases m with
 | zero=>exact h.elim
 | succ m =>
   unfold G0 at h
   rw [Tryz.underlying9] at h
   obtain ⟨b,h,_⟩:=h
   exact ⟨b,h⟩
theorem PN {a b c d e f:D} {x:Aj} (h:D.agg [a,b,c,d,e,f] = Ap x):a = .int .i64 x.Op∧b = .int .i64 x.Column∧c = .int .i64 x.Code∧d = .int .i64 x.Low∧e = .int .i64 x.High∧f = Ah 6 Ap x.Kids:=by
 rw [Aa] at h
 unfold Ad at h
 simpa using h
set_option maxRecDepth 100000 in
theorem ZR {m:Nat} {x:List D} (h:G0 Tryz.prog m 101 x):∃ a:Aw,D.agg x = Ak a:=by
 cases m with
 | zero=>exact h.elim
 | succ m =>
   unfold G0 at h
   rw [Tryz.underlying101,show Tryz.prog.cellsOf 101 = 2 from by kernel_rfl] at h
   obtain ⟨hl,hf⟩:=h
   match x,hl with
   | [a,b],_ =>
     simp only [List.mem_cons,List.not_mem_nil,or_false,forall_eq_or_imp,forall_eq,show Tryz.prog.cellsOf 3 = 1 from by kernel_rfl] at hf
     obtain ⟨p1,h1⟩:=Ft hf.1
     obtain ⟨p2,h2⟩:=Ft hf.2
     simp at h1 h2
     exact ⟨⟨p1,p2⟩,by rw [h1,h2]; rfl⟩
set_option maxRecDepth 100000 in
theorem Xn {m:Nat} {x:List D} (h:G0 Tryz.prog m 27 x):∃ a:OJ,x = [.int .i64 a.Part,.int .i64 a.Of,.int .i64 a.Seed]:=by
 cases m with
 | zero=>exact h.elim
 | succ m =>
   unfold G0 at h
   rw [Tryz.underlying27,show Tryz.prog.cellsOf 27 = 3 from by kernel_rfl] at h
   obtain ⟨hl,hf⟩:=h
   match x,hl with
   | [a,b,c],_ =>
     simp only [List.mem_cons,List.not_mem_nil,or_false,forall_eq_or_imp,forall_eq,show Tryz.prog.cellsOf 3 = 1 from by kernel_rfl] at hf
     obtain ⟨p1,h1⟩:=Ft hf.1
     obtain ⟨p2,h2⟩:=Ft hf.2.1
     obtain ⟨p3,h3⟩:=Ft hf.2.2
     simp at h1 h2 h3
     exact ⟨⟨p1,p2,p3⟩,by rw [h1,h2,h3]⟩
set_option maxRecDepth 100000 in
theorem UE {m:Nat} {x:List D} (h:G0 Tryz.prog m 95 x):∃ a:Az,D.agg x = AA a:=by
 cases m with
 | zero=>exact h.elim
 | succ m =>
   unfold G0 at h
   rw [Tryz.underlying95,show Tryz.prog.cellsOf 95 = 17 from by kernel_rfl] at h
   obtain ⟨hl,hf⟩:=h
   match x,hl with
   | [a,b,c1,c2,c3,c4,c5,c6,d,e,f,g1,g2,g3,g4,g5,g6],_ =>
     simp only [List.mem_cons,List.not_mem_nil,or_false,forall_eq_or_imp,forall_eq,show Tryz.prog.cellsOf 3 = 1 from by kernel_rfl,show Tryz.prog.cellsOf 9 = 1 from by kernel_rfl,show Tryz.prog.cellsOf 25 = 6 from by kernel_rfl,show Tryz.prog.cellsOf 53 = 1 from by kernel_rfl,show Tryz.prog.cellsOf 49 = 1 from by kernel_rfl] at hf
     obtain ⟨k1,k2,k3,k4,k5,k6,k7⟩:=hf
     obtain ⟨p1,h1⟩:=TG k1
     obtain ⟨p2,h2⟩:=Ft k2
     obtain ⟨p3,h3⟩:=OQ _ _ k3
     obtain ⟨p4,h4,-⟩:=Qa (f:=Ak) (p:=fun _=>True) Tryz.underlying53 k4 fun m y hy=>by
      obtain ⟨a,ha⟩:=ZR hy
      exact ⟨a,by rw [show Em Tryz.prog 101 = true from by kernel_rfl]; exact ha,trivial⟩
     obtain ⟨p5,h5⟩:=Ft k5
     obtain ⟨p6,h6,-⟩:=Qa (f:=D.int .i64) (p:=fun _=>True) Tryz.underlying49 k6 fun m y hy=>by
      obtain ⟨a,ha⟩:=Ft hy
      exact ⟨a,by rw [show Em Tryz.prog 3 = false from by kernel_rfl,ha]; rfl,trivial⟩
     obtain ⟨p7,h7⟩:=OQ _ _ k7
     obtain ⟨rfl,rfl,rfl,rfl,rfl,rfl⟩:=PN h3
     obtain ⟨rfl,rfl,rfl,rfl,rfl,rfl⟩:=PN h7
     simp at h1 h2 h4 h5 h6
     refine ⟨⟨p1,p2,p3,p4,p5,p6,p7⟩,?_⟩
     rw [h1,h2,h4,h5,h6,show Tryz.prog.cellsOf 101 = 2 from by kernel_rfl,show Tryz.prog.cellsOf 3 = 1 from by kernel_rfl]
     rfl
set_option maxRecDepth 100000 in
theorem ZQ {m:Nat} {x:List D} (h:G0 Tryz.prog m 30 x):∃ a:A3,D.agg x = BZ a:=by
 cases m with
 | zero=>exact h.elim
 | succ m =>
   unfold G0 at h
   rw [Tryz.underlying30,show Tryz.prog.cellsOf 30 = 12 from by kernel_rfl] at h
   obtain ⟨hl,hf⟩:=h
   match x,hl with
   | [a,b,c1,c2,c3,c4,c5,c6,d1,d2,d3,e],_ =>
     simp only [List.mem_cons,List.not_mem_nil,or_false,forall_eq_or_imp,forall_eq,show Tryz.prog.cellsOf 9 = 1 from by kernel_rfl,show Tryz.prog.cellsOf 25 = 6 from by kernel_rfl,show Tryz.prog.cellsOf 27 = 3 from by kernel_rfl,show Tryz.prog.cellsOf 28 = 1 from by kernel_rfl] at hf
     obtain ⟨k1,k2,k3,k4,k5⟩:=hf
     obtain ⟨p1,h1⟩:=TG k1
     obtain ⟨p2,h2⟩:=TG k2
     obtain ⟨p3,h3⟩:=OQ _ _ k3
     obtain ⟨p4,h4⟩:=Xn k4
     obtain ⟨p5,h5,-⟩:=Qa (f:=AA) (p:=fun _=>True) Tryz.underlying28 k5 fun m y hy=>by
      obtain ⟨a,ha⟩:=UE hy
      exact ⟨a,by rw [show Em Tryz.prog 95 = true from by kernel_rfl]; exact ha,trivial⟩
     obtain ⟨rfl,rfl,rfl,rfl,rfl,rfl⟩:=PN h3
     simp at h1 h2 h4 h5
     obtain ⟨h4,h6,h7⟩:=h4
     refine ⟨⟨p1,p2,p3,p4,p5⟩,?_⟩
     rw [h1,h2,h4,h5,h6,h7,show Tryz.prog.cellsOf 95 = 17 from by kernel_rfl]
     rfl
end Go.Proofs.YtjghjdokjgcehaaGreatDoor.P
set_option linter.unusedVariables false
set_option linter.unusedSimpArgs false
namespace Go.Proofs.YtjghjdokjgcehaaGreatDoor.P
open Go.ChangeShapes Go.WideShapes Go.ChangeAt Go.WideMaps Go.WideElems Go.RowKit Go.Abs Go.Proofs
set_option maxRecDepth 100000
def Xy:List (String × DataW Unit):=[("math/bits.deBruijn32tab",Rows.laid_math_bits_deBruijn32tab),("math/bits.deBruijn64tab",Rows.laid_math_bits_deBruijn64tab),("internal/strconv.uint64pow10",Rows.laid_internal_strconv_uint64pow10)]
theorem eY:Tryz.prog.globalNamed "math/bits.deBruijn64tab" = some 2:=by kernel_rfl
theorem fp:(Tryz.prog.globals[2]?).map (·.type) = some 312:=by kernel_rfl
theorem be (os:Os) (args:Array Value):laidMetH Tryz.prog Xy ((World.doorLaid Tryz.prog 400 os).forCall (fun _ _=>0) ⟨#[],args,[]⟩).memory :=
 laidMetH_of_parts3 (fuel:=8) (laidMet_of_run' 8 (by kernel_rfl) (by kernel_rfl)) (by kernel_rfl) (by kernel_rfl)
theorem ZX:∀ {H:Type},(Rows.laid_math_bits_deBruijn64tab:DataW H) = .agg (G7.map fun n=>.lit (.int .u8 n)):=rfl
theorem Wj {W:World} (h:laidMetH Tryz.prog Xy W):Tk (fun _=>False) W:=by
 rw [MakeChecks.laidMetH_plain _ _ _ (by kernel_rfl)] at h
 obtain ⟨ps,⟨_,_,_,_,_,_,_,_,_,_,⟨g0,t0,cs0,f0,p0,q0,hg0,ht0,hv0,hd0,_⟩,_⟩,_,_⟩:=h
 obtain rfl:=Option.some.inj (eY.symm.trans hg0)
 obtain rfl:=Option.some.inj (fp.symm.trans ht0)
 obtain ⟨xs,m1,rfl,hx1,hlen,hn3,hel⟩:=DataW.trod_array Tryz.underlying312 hd0
 have c5:Tryz.prog.cellsOf 5 = 1:=by kernel_rfl
 have hxs:xs.map (fun x=>x.1) = G7.map fun n=>DataW.lit (.int .u8 n):=by
  rw [ZX] at hx1
  simp only [Prod.mk.injEq,DataW.agg.injEq] at hx1
  exact hx1.1.symm
 have hcell:∀ i (hi:i < 64),W.cell? ⟨2,i,none⟩ = some (.int .u8 (G7.getD i 0)):=by
  intro i hi
  have h1:=hel i hi
  have hlt:i < xs.length:=by omega
  rw [List.getElem?_eq_getElem hlt] at h1
  obtain ⟨k,e1,e2,_⟩:=DataW.trod_int Tryz.underlying5 h1
  have h2:=congrArg (fun l=>l[i]?) hxs
  have hd:i < G7.length:=hi
  simp only [List.getElem?_map,List.getElem?_eq_getElem hlt,List.getElem?_eq_getElem hd,Option.map_some,Option.some.injEq] at h2
  rw [e2] at h2
  rw [World.var?_cell hg0 hv0 i]
  rw [c5,Nat.mul_one] at e1
  have h3:cs0.toList[i]? = some (.int .u8 k):=by
   have:=congrArg (fun l=>l[0]?) e1
   simpa using this
  rw [← Array.getElem?_toList,h3]
  have hk:k = G7[i]:=by simpa using h2
  rw [hk]
  simp [List.getD,hd]
 intro g cs hg
 unfold ct at hg
 match g,hg with
 | 0,hg=>simp [Zb] at hg
 | 1,hg=>simp [Zb] at hg
 | g + 3,hg=>simp [Zb] at hg
 | 2,hg =>
   have hg:some (G7.map fun n=>D.int .u8 n) = some cs:=hg
   obtain rfl:=Option.some.inj hg
   have h0:=hcell 0 (by omega)
   refine AB.ptr 2 0 _ (fun j=>.int .u8 (G7.getD j 0)) (fun _=>?_) (fun _ h=>h) (fun x hx=>?_) (fun j y hy=>?_) (fun j y hy=>?_)
   ·rcases Nat.lt_or_ge 2 W.heap.size with hz | hz
    ·exact hz
    ·unfold World.cell? at h0
     have:W.heap[2]? = none:=Array.getElem?_eq_none hz
     simp [this] at h0
   ·obtain ⟨n,_,rfl⟩:=List.mem_map.1 hx
    rfl
   ·have hj:j < 64:=by have:=AL hy; simpa [G7] using this
    rw [Nat.zero_add]; exact hcell j hj
   ·rw [List.getElem?_map] at hy
    cases hq:G7[j]? with
    | none=>simp [hq] at hy
    | some n =>
      simp [hq] at hy
      subst hy
      simp only [List.getD,hq,Option.getD_some]
      exact .int _ _
end Go.Proofs.YtjghjdokjgcehaaGreatDoor.P
