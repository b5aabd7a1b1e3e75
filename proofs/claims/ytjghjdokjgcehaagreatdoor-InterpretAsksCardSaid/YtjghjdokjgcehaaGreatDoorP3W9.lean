/- P3W9 -/
import Derived.Test.YtjghjdokjgcehaaGreatDoorP3W8
set_option linter.unusedSimpArgs false
namespace Go.Proofs.YtjghjdokjgcehaaGreatDoor.P
open Go.Abs Go.Proofs
set_option maxRecDepth 100000
set_option maxHeartbeats 4000000
set_option linter.unusedVariables false
theorem Ri (p0:Ae) (p1:(List Aw)) (R:Int) (h:Eo p0 p1 = some R):Al Tryz.prog 102 [.d (Au p0),.d (Ah 2 Ak p1)] (.d (.int .i64 R)):=by
 refine Cn Tryz.func102 ?_
 unfold Eo at h
 refine An h fun h=>?_
 refine z5 h (fun p=>Cd 55 [(1,.d (Ah 2 Ak p1)),(2,.ptr 2 1 0),(5,.d (.int .i64 p))] [(2,.var [.d (Ah 2 Af p0.Lists),.d (Ah 7 Ai p0.Columns)],1)]) As fun _ _ v5_1 h=>?_
 simp only [C3] at h
 refine AM h (fun h=>?_) fun h=>?_
 ·conv=>whnf
  refine z13 ?_
  refine B6 (f:=Ak) h fun x25 _ h=>?_
  refine AU h (fun _=>Ww _ _ _) fun x27 h=>?_
  refine An h fun h=>?_
  conv=>whnf
  refine z13 ?_
  refine B6 (f:=Ak) h fun x34 _ h=>?_
  refine AU h (fun _=>Nk _ _ _ _) fun x37 h=>?_
  refine An h fun h=>?_
  refine z5 h (fun p=>Cd 55 [(1,.d (Ah 2 Ak p1)),(2,.ptr 2 1 0),(5,.d (.int .i64 v5_1)),(7,.d (.int .i64 p))] [(2,.var [.d (Ah 2 Af p0.Lists),.d (Ah 7 Ai p0.Columns)],1)]) As fun _ _ v7_2 h=>?_
  simp only [EZ] at h
  refine AM h (fun h=>?_) fun h=>?_
  ·conv=>whnf
   refine z13 ?_
   refine B6 (f:=Ak) h fun x46 _ h=>?_
   refine B6 (f:=Ak) h fun x51 _ h=>?_
   exact z17
  conv=>whnf
  try simp only [ref08_Dims_k1] at h
  exact Cw ⟨(_,_),h⟩ As
 conv=>whnf
 try simp only [ref08_Dims_k1] at h
 exact AD h
theorem SE (p0:(List Int)) (p1:Int) (R:Bool) (h:Js p0 p1 = some R):Al Tryz.prog 104 [.d (Ah 1 (D.int .i64) p0),.d (.int .i64 p1)] (.d (.bool R)):=by
 refine Cn Tryz.func104 ?_
 unfold Js at h
 refine z5 h (fun p=>Cd 18 [(0,.d (Ah 1 (D.int .i64) p0)),(1,.d (.int .i64 p1)),(5,.d (.int .i64 p))] []) As fun _ _ v5_1 h=>?_
 simp only [Kx] at h
 refine B0 h fun h=>?_
 refine B6 (f:=(D.int .i64)) h fun x14 _ h=>?_
 exact z17
theorem PC (p0:Ae) (p1:Int) (p2:(List Int)) (R:Int) (h:D6 p0 p1 p2 = some R):Al Tryz.prog 103 [.d (Au p0),.d (.int .i64 p1),.d (Ah 1 (D.int .i64) p2)] (.d (.int .i64 R)):=by
 refine Cn Tryz.func103 ?_
 unfold D6 at h
 refine An h fun h=>?_
 refine z5 h (fun p=>Cd 45 [(1,.d (.int .i64 p1)),(2,.d (Ah 1 (D.int .i64) p2)),(3,.ptr 3 1 0),(7,.d (.int .i64 p))] [(3,.var [.d (Ah 2 Af p0.Lists),.d (Ah 7 Ai p0.Columns)],1)]) As fun _ _ v7_1 h=>?_
 simp only [Cl] at h
 refine B0 h fun h=>?_
 conv=>whnf
 refine z13 ?_
 refine B6 (f:=(D.int .i64)) h fun x25 _ h=>?_
 refine AU h (fun _=>Nk _ _ _ _) fun x27 h=>?_
 refine An h fun h=>?_
 conv=>whnf
 refine z13 ?_
 refine B6 (f:=(D.int .i64)) h fun x31 _ h=>?_
 refine An h fun h=>?_
 obtain ⟨hr,h⟩:=E0 h
 refine z9 ?_
 try simp only [List.length_map]
 rw [SO]
 refine B6 (f:=(D.int .i64)) h fun x41 _ h=>?_
 refine AU h (fun _=>SE _ _ _) fun x43 h=>?_
 exact z17
theorem UQ (d:Nat) (p0:Ae) (p1:Az) (R:Int) (h:Ee d p0 p1 = some R):Al Tryz.prog 94 [.d (Au p0),.d (AA p1)] (.d (.int .i64 R)):=by
 refine Cn Tryz.func94 ?_
 unfold Ee at h
 refine AU h (fun _=>Nk _ _ _ _) fun x10 h=>?_
 refine AM h (fun h=>?_) fun h=>?_
 ·refine AU h (fun _=>Ri _ _ _) fun x32 h=>?_
  refine An h fun h=>?_
  exact Eb h
 refine AM h (fun h=>?_) fun h=>?_
 ·refine An h fun h=>?_
  refine AU h (fun _=>PC _ _ _ _) fun x52 h=>?_
  exact AD h
 refine An h fun h=>?_
 refine B6 (f:=Ai) h fun x19 _ h=>?_
 refine An h fun h=>?_
 refine AU h (fun _=>Hq _ _ _ _) fun x26 h=>?_
 exact AD h
theorem UL (d:Nat) (self_ref05_Same:(Aj→Aj→Option Bool)) (ih_ref05_Same:∀ (p0:Aj) (p1:Aj) (R:Bool) ,self_ref05_Same p0 p1 = some R→Al Tryz.prog 51 [.d (Ad p0),.d (Ad p1)] (.d (.bool R))) (p0:Aj) (p1:Aj) (R:Bool) (h:FS d self_ref05_Same p0 p1 = some R):Al Tryz.prog 51 [.d (Ad p0),.d (Ad p1)] (.d (.bool R)):=by
 refine Cn Tryz.func51 ?_
 unfold FS at h
 refine AM h (fun h=>?_) fun h=>?_
 ·exact z16
 refine z5 h (fun p=>Cd 67 [(2,.ptr 2 1 0),(3,.ptr 3 1 0),(5,.d (.int .i64 p))] [(2,.var [.d (.int .i64 p0.Op),.d (.int .i64 p0.Column),.d (.int .i64 p0.Code),.d (.int .i64 p0.Low),.d (.int .i64 p0.High),.d (Ah 6 Ap p0.Kids)],1),(3,.var [.d (.int .i64 p1.Op),.d (.int .i64 p1.Column),.d (.int .i64 p1.Code),.d (.int .i64 p1.Low),.d (.int .i64 p1.High),.d (Ah 6 Ap p1.Kids)],1)]) A0 fun _ _ v5_1 h=>?_
 simp only [JB] at h
 refine AM h (fun h=>?_) fun h=>?_
 ·conv=>whnf
  refine z13 ?_
  refine B6 (f:=Ap) h fun x58 _ h=>?_
  rw [Aa x58]
  refine B6 (f:=Ap) h fun x63 _ h=>?_
  rw [Aa x63]
  conv=>whnf
  obtain ⟨x65,hx65,h⟩:=A9 h
  first | refine A1 (ih_ref05_Same _ _ _ hx65) ?_ | (simp only [List.length_map]; refine A1 (ih_ref05_Same _ _ _ hx65) ?_)
  refine AM h (fun h=>?_) fun h=>?_
  ·exact z16
  exact z43
 exact z16
theorem P8:∀ d:Nat,(∀ (p0:Aj) (p1:Aj) (R:Bool) ,Dr d p0 p1 = some R→Al Tryz.prog 51 [.d (Ad p0),.d (Ad p1)] (.d (.bool R)))
 | 0=>by
  exact z24
 | d + 1=>by
  have ih:=P8 d
  exact UL d _ ih
theorem Ky (d:Nat):∀ (p0:Aj) (p1:Aj) (R:Bool) ,Dr d p0 p1 = some R→Al Tryz.prog 51 [.d (Ad p0),.d (Ad p1)] (.d (.bool R)):=P8 d
theorem Wy (d:Nat) (p0:Aj) (R:Bool) (h:HP d p0 = some R):Al Tryz.prog 95 [.d (Ad p0)] (.d (.bool R)):=by
 refine Cn Tryz.func95 ?_
 unfold HP at h
 refine AU h (fun _=>Ky _ _ _ _) fun x5 h=>?_
 exact z16
theorem RS (d:Nat) (p0:Ae) (p1:Az) (R:Int) (h:Ck d p0 p1 = some R):Al Tryz.prog 49 [.d (Au p0),.d (AA p1)] (.d (.int .i64 R)):=by
 refine Cn Tryz.func49 ?_
 unfold Ck at h
 refine AU h (fun _=>EV _ _) fun x9 h=>?_
 refine An h fun h=>?_
 refine AU h (fun _=>EP _ _) fun x15 h=>?_
 refine An h fun h=>?_
 refine An h fun h=>?_
 refine AU h (fun _=>Hq _ _ _ _) fun x28 h=>?_
 refine An h fun h=>?_
 refine AU h (fun _=>UQ _ _ _ _) fun x34 h=>?_
 refine An h fun h=>?_
 refine An h fun h=>?_
 refine B0 h fun h=>?_
 refine AU h (fun _=>Wy _ _ _) fun x65 h=>?_
 exact Eb h
theorem UP (d:Nat) (p0:Ae) (p1:A3) (R:Int) (h:Db d p0 p1 = some R):Al Tryz.prog 27 [.d (Au p0),.d (BZ p1)] (.d (.int .i64 R)):=by
 refine Ek [6] Tryz.func27 (by kernel_rfl) ?_
 unfold Db at h
 refine AU h (fun _=>EV _ _) fun x12 h=>?_
 refine An h fun h=>?_
 refine Ga {p:Unit // D5 d p0 p1 = some R} (fun p=>Cd 110 [(2,.ptr 2 1 0),(3,.ptr 3 1 0)] [(2,.var [.d (Ah 2 Af p0.Lists),.d (Ah 7 Ai p0.Columns)],1),(3,.var [.d (.str p1.Project),.d (.str p1.Source),.d (.int .i64 p1.Cohort.Op),.d (.int .i64 p1.Cohort.Column),.d (.int .i64 p1.Cohort.Code),.d (.int .i64 p1.Cohort.Low),.d (.int .i64 p1.Cohort.High),.d (Ah 6 Ap p1.Cohort.Kids),.d (.int .i64 p1.Sample.Part),.d (.int .i64 p1.Sample.Of),.d (.int .i64 p1.Sample.Seed),.d (Ah 17 AA p1.Questions)],1)]) ?_ fun p=>?_
 ·refine AU h (fun _=>EP _ _) fun x18 h=>?_
  refine An h fun h=>?_
  refine AU h (fun _=>EP _ _) fun x23 h=>?_
  exact z33
 obtain ⟨_,h⟩:=p
 simp only [D5] at h
 refine AU h (fun _=>Hq _ _ _ _) fun x29 h=>?_
 refine An h fun h=>?_
 refine An h fun h=>?_
 refine An h fun h=>?_
 refine z5 h (fun p=>Cd 110 [(2,.ptr 2 1 0),(3,.ptr 3 1 0),(8,.d (.int .i64 p))] [(2,.var [.d (Ah 2 Af p0.Lists),.d (Ah 7 Ai p0.Columns)],1),(3,.var [.d (.str p1.Project),.d (.str p1.Source),.d (.int .i64 p1.Cohort.Op),.d (.int .i64 p1.Cohort.Column),.d (.int .i64 p1.Cohort.Code),.d (.int .i64 p1.Cohort.Low),.d (.int .i64 p1.Cohort.High),.d (Ah 6 Ap p1.Cohort.Kids),.d (.int .i64 p1.Sample.Part),.d (.int .i64 p1.Sample.Of),.d (.int .i64 p1.Sample.Seed),.d (Ah 17 AA p1.Questions)],1)]) As fun _ _ v8_1 h=>?_
 simp only [B3] at h
 refine AM h (fun h=>?_) fun h=>?_
 ·conv=>whnf
  refine z13 ?_
  refine B6 (f:=AA) h fun x86 _ h=>?_
  refine AU h (fun _=>RS _ _ _ _) fun x88 h=>?_
  refine An h fun h=>?_
  refine z5 h (fun p=>Cd 110 [(2,.ptr 2 1 0),(3,.ptr 3 1 0),(8,.d (.int .i64 v8_1)),(10,.d (.int .i64 p))] [(2,.var [.d (Ah 2 Af p0.Lists),.d (Ah 7 Ai p0.Columns)],1),(3,.var [.d (.str p1.Project),.d (.str p1.Source),.d (.int .i64 p1.Cohort.Op),.d (.int .i64 p1.Cohort.Column),.d (.int .i64 p1.Cohort.Code),.d (.int .i64 p1.Cohort.Low),.d (.int .i64 p1.Cohort.High),.d (Ah 6 Ap p1.Cohort.Kids),.d (.int .i64 p1.Sample.Part),.d (.int .i64 p1.Sample.Of),.d (.int .i64 p1.Sample.Seed),.d (Ah 17 AA p1.Questions)],1)]) As fun _ _ v10_2 h=>?_
  simp only [En] at h
  refine AM h (fun h=>?_) fun h=>?_
  ·conv=>whnf
   refine z13 ?_
   refine B6 (f:=AA) h fun x100 _ h=>?_
   refine B6 (f:=AA) h fun x106 _ h=>?_
   exact z17
  conv=>whnf
  try simp only [ref08_Check_k1] at h
  exact Cw ⟨(_,_),h⟩ As
 conv=>whnf
 try simp only [ref08_Check_k1] at h
 exact AD h
theorem Rl (d:Nat) (p0:Ae) (p1:A3) (R:((List Ax) × Int)) (h:Dc d p0 p1 = some R):Al Tryz.prog 9 [.d (Au p0),.d (BZ p1)] (.tup [.d (Ah 21 A5 R.1),.d (.int .i64 R.2)]):=by
 refine Cn Tryz.func9 ?_
 unfold Dc at h
 refine AU h (fun _=>UP _ _ _ _) fun x13 h=>?_
 refine AM h (fun h=>?_) fun h=>?_
 ·exact z37
 refine z5 h (fun p=>Cd 60 [(3,.ptr 3 1 0),(7,.sl 7 1),(8,.d (.int .i64 p.1))] [(3,.var [.d (.str p1.Project),.d (.str p1.Source),.d (.int .i64 p1.Cohort.Op),.d (.int .i64 p1.Cohort.Column),.d (.int .i64 p1.Cohort.Code),.d (.int .i64 p1.Cohort.Low),.d (.int .i64 p1.Cohort.High),.d (Ah 6 Ap p1.Cohort.Kids),.d (.int .i64 p1.Sample.Part),.d (.int .i64 p1.Sample.Of),.d (.int .i64 p1.Sample.Seed),.d (Ah 17 AA p1.Questions)],1),(7,.row 21 60 (List.map A5 p.2),1)]) LJ fun _ _ ⟨v8_1,b7_1⟩ h=>?_
 simp only [Er] at h
 refine AM h (fun h=>?_) fun h=>?_
 ·refine B6 (f:=AA) h fun x27 _ h=>?_
  refine AM h (fun h=>?_) fun h=>?_
  ·conv=>whnf
   refine z13 ?_
   exact z42
  refine AM h (fun h=>?_) fun h=>?_
  ·conv=>whnf
   refine z13 ?_
   exact z42
  conv=>whnf
  refine z13 ?_
  exact z42
 exact z37
theorem Rh (p0:(List Aw)) (p1:(List Aw)) (R:Bool) (h:Gb p0 p1 = some R):Al Tryz.prog 50 [.d (Ah 2 Ak p0),.d (Ah 2 Ak p1)] (.d (.bool R)):=by
 refine Cn Tryz.func50 ?_
 unfold Gb at h
 refine An h fun h=>?_
 refine z5 h (fun p=>Cd 26 [(0,.d (Ah 2 Ak p0)),(1,.d (Ah 2 Ak p1)),(5,.d (.int .i64 p))] []) As fun _ _ v5_1 h=>?_
 simp only [FR] at h
 refine B0 h fun h=>?_
 conv=>whnf
 refine z13 ?_
 refine B6 (f:=Ak) h fun x19 _ h=>?_
 refine B6 (f:=Ak) h fun x23 _ h=>?_
 conv=>whnf
 refine ⟨⟨by kernel_rfl,by kernel_rfl⟩,?_⟩
 conv=>whnf
 refine ⟨by kernel_rfl,?_⟩
 exact z17
theorem Rj (d:Nat) (self_ref16_SameExpr:(Av→Av→Option Bool)) (ih_ref16_SameExpr:∀ (p0:Av) (p1:Av) (R:Bool) ,self_ref16_SameExpr p0 p1 = some R→Al Tryz.prog 28 [.d (Ac p0),.d (Ac p1)] (.d (.bool R))) (p0:Av) (p1:Av) (R:Bool) (h:Fy d self_ref16_SameExpr p0 p1 = some R):Al Tryz.prog 28 [.d (Ac p0),.d (Ac p1)] (.d (.bool R)):=by
 refine Ek [3] Tryz.func28 (by kernel_rfl) ?_
 unfold Fy at h
 refine Ga {p:Unit // Gx p0 p1 self_ref16_SameExpr = some R} (fun p=>Cd 92 [(2,.ptr 2 1 0),(3,.ptr 3 1 0)] [(2,.var [.d (.int .i64 p0.Op),.d (.int .i64 p0.Num),.d (.str p0.Name),.d (.int .i64 p0.Column),.d (Ah 1 (D.int .i64) p0.Columns),.d (Ah 2 Ak p0.Dims),.d (.int .i64 p0.Cond.Op),.d (.int .i64 p0.Cond.Column),.d (.int .i64 p0.Cond.Code),.d (.int .i64 p0.Cond.Low),.d (.int .i64 p0.Cond.High),.d (Ah 6 Ap p0.Cond.Kids),.d (.int .i64 p0.Event.Op),.d (.int .i64 p0.Event.Column),.d (.int .i64 p0.Event.Code),.d (.int .i64 p0.Event.Low),.d (.int .i64 p0.Event.High),.d (Ah 6 Ap p0.Event.Kids),.d (Ah 19 AP p0.Kids)],1),(3,.var [.d (.int .i64 p1.Op),.d (.int .i64 p1.Num),.d (.str p1.Name),.d (.int .i64 p1.Column),.d (Ah 1 (D.int .i64) p1.Columns),.d (Ah 2 Ak p1.Dims),.d (.int .i64 p1.Cond.Op),.d (.int .i64 p1.Cond.Column),.d (.int .i64 p1.Cond.Code),.d (.int .i64 p1.Cond.Low),.d (.int .i64 p1.Cond.High),.d (Ah 6 Ap p1.Cond.Kids),.d (.int .i64 p1.Event.Op),.d (.int .i64 p1.Event.Column),.d (.int .i64 p1.Event.Code),.d (.int .i64 p1.Event.Low),.d (.int .i64 p1.Event.High),.d (Ah 6 Ap p1.Event.Kids),.d (Ah 19 AP p1.Kids)],1)]) ?_ fun p=>?_
 ·refine AM h (fun h=>?_) fun h=>?_
  ·exact z20
  refine AU h (fun _=>Rf _ _ _) fun x37 h=>?_
  refine AM h (fun h=>?_) fun h=>?_
  ·exact z20
  refine AU h (fun _=>Rh _ _ _) fun x45 h=>?_
  refine AM h (fun h=>?_) fun h=>?_
  ·exact z20
  refine AU h (fun _=>Ky _ _ _ _) fun x53 h=>?_
  refine AM h (fun h=>?_) fun h=>?_
  ·exact z20
  refine AU h (fun _=>Ky _ _ _ _) fun x61 h=>?_
  refine AM h (fun h=>?_) fun h=>?_
  ·exact z16
  exact z50
 obtain ⟨_,h⟩:=p
 simp only [Gx] at h
 refine z5 h (fun p=>Cd 92 [(2,.ptr 2 1 0),(3,.ptr 3 1 0),(5,.d (.int .i64 p))] [(2,.var [.d (.int .i64 p0.Op),.d (.int .i64 p0.Num),.d (.str p0.Name),.d (.int .i64 p0.Column),.d (Ah 1 (D.int .i64) p0.Columns),.d (Ah 2 Ak p0.Dims),.d (.int .i64 p0.Cond.Op),.d (.int .i64 p0.Cond.Column),.d (.int .i64 p0.Cond.Code),.d (.int .i64 p0.Cond.Low),.d (.int .i64 p0.Cond.High),.d (Ah 6 Ap p0.Cond.Kids),.d (.int .i64 p0.Event.Op),.d (.int .i64 p0.Event.Column),.d (.int .i64 p0.Event.Code),.d (.int .i64 p0.Event.Low),.d (.int .i64 p0.Event.High),.d (Ah 6 Ap p0.Event.Kids),.d (Ah 19 AP p0.Kids)],1),(3,.var [.d (.int .i64 p1.Op),.d (.int .i64 p1.Num),.d (.str p1.Name),.d (.int .i64 p1.Column),.d (Ah 1 (D.int .i64) p1.Columns),.d (Ah 2 Ak p1.Dims),.d (.int .i64 p1.Cond.Op),.d (.int .i64 p1.Cond.Column),.d (.int .i64 p1.Cond.Code),.d (.int .i64 p1.Cond.Low),.d (.int .i64 p1.Cond.High),.d (Ah 6 Ap p1.Cond.Kids),.d (.int .i64 p1.Event.Op),.d (.int .i64 p1.Event.Column),.d (.int .i64 p1.Event.Code),.d (.int .i64 p1.Event.Low),.d (.int .i64 p1.Event.High),.d (Ah 6 Ap p1.Event.Kids),.d (Ah 19 AP p1.Kids)],1)]) A0 fun _ _ v5_1 h=>?_
 simp only [IP] at h
 refine AM h (fun h=>?_) fun h=>?_
 ·conv=>whnf
  refine z13 ?_
  refine B6 (f:=AP) h fun x83 _ h=>?_
  rw [Ab x83]
  refine B6 (f:=AP) h fun x88 _ h=>?_
  rw [Ab x88]
  conv=>whnf
  obtain ⟨x90,hx90,h⟩:=A9 h
  first | refine A1 (ih_ref16_SameExpr _ _ _ hx90) ?_ | (simp only [List.length_map]; refine A1 (ih_ref16_SameExpr _ _ _ hx90) ?_)
  refine AM h (fun h=>?_) fun h=>?_
  ·exact z16
  exact z43
 exact z16
theorem LE:∀ d:Nat,(∀ (p0:Av) (p1:Av) (R:Bool) ,D8 d p0 p1 = some R→Al Tryz.prog 28 [.d (Ac p0),.d (Ac p1)] (.d (.bool R)))
 | 0=>by
  exact z24
 | d + 1=>by
  have ih:=LE d
  exact Rj d _ ih
theorem RU (d:Nat):∀ (p0:Av) (p1:Av) (R:Bool) ,D8 d p0 p1 = some R→Al Tryz.prog 28 [.d (Ac p0),.d (Ac p1)] (.d (.bool R)):=LE d
theorem Wz (d:Nat) (p0:(List Ax)) (p1:(List Ax)) (R:Bool) (h:HQ d p0 p1 = some R):Al Tryz.prog 10 [.d (Ah 21 A5 p0),.d (Ah 21 A5 p1)] (.d (.bool R)):=by
 refine Cn Tryz.func10 ?_
 unfold HQ at h
 refine An h fun h=>?_
 refine z5 h (fun p=>Cd 55 [(0,.d (Ah 21 A5 p0)),(1,.d (Ah 21 A5 p1)),(5,.d (.int .i64 p))] []) As fun _ _ v5_1 h=>?_
 simp only [JD] at h
 refine B0 h fun h=>?_
 conv=>whnf
 refine z13 ?_
 refine B6 (f:=A5) h fun x19 _ h=>?_
 refine B6 (f:=A5) h fun x24 _ h=>?_
 refine An h fun h=>?_
 refine B6 (f:=A5) h fun x31 _ h=>?_
 refine B6 (f:=A5) h fun x36 _ h=>?_
 refine An h fun h=>?_
 refine B6 (f:=A5) h fun x44 _ h=>?_
 refine B6 (f:=A5) h fun x49 _ h=>?_
 refine AU h (fun _=>RU _ _ _ _) fun x52 h=>?_
 exact z17
theorem O0 (p0:(List Ax)) (p1:Int) (p2:ByteArray) (R:Bool) (h:GP p0 p1 p2 = some R):Al Tryz.prog 54 [.d (Ah 21 A5 p0),.d (.int .i64 p1),.d (.str p2)] (.d (.bool R)):=by
 refine Cn Tryz.func54 ?_
 unfold GP at h
 refine z5 h (fun p=>Cd 20 [(0,.d (Ah 21 A5 p0)),(1,.d (.int .i64 p1)),(2,.d (.str p2)),(7,.d (.int .i64 p))] []) As fun _ _ v7_1 h=>?_
 simp only [H5] at h
 refine B0 h fun h=>?_
 refine B6 (f:=A5) h fun x15 _ h=>?_
 exact z17
theorem Uq (d:Nat) (self_ref16_count:(Av→Int→Option Int)) (ih_ref16_count:∀ (p0:Av) (p1:Int) (R:Int) ,self_ref16_count p0 p1 = some R→Al Tryz.prog 55 [.d (Ac p0),.d (.int .i64 p1)] (.d (.int .i64 R))) (p0:Av) (p1:Int) (R:Int) (h:Hs d self_ref16_count p0 p1 = some R):Al Tryz.prog 55 [.d (Ac p0),.d (.int .i64 p1)] (.d (.int .i64 R)):=by
 refine Cn Tryz.func55 ?_
 unfold Hs at h
 refine z5 h (fun p=>Cd 31 [(1,.d (.int .i64 p1)),(2,.ptr 2 1 0),(5,.d (.int .i64 p.1)),(6,.d (.int .i64 p.2))] [(2,.var [.d (.int .i64 p0.Op),.d (.int .i64 p0.Num),.d (.str p0.Name),.d (.int .i64 p0.Column),.d (Ah 1 (D.int .i64) p0.Columns),.d (Ah 2 Ak p0.Dims),.d (.int .i64 p0.Cond.Op),.d (.int .i64 p0.Cond.Column),.d (.int .i64 p0.Cond.Code),.d (.int .i64 p0.Cond.Low),.d (.int .i64 p0.Cond.High),.d (Ah 6 Ap p0.Cond.Kids),.d (.int .i64 p0.Event.Op),.d (.int .i64 p0.Event.Column),.d (.int .i64 p0.Event.Code),.d (.int .i64 p0.Event.Low),.d (.int .i64 p0.Event.High),.d (Ah 6 Ap p0.Event.Kids),.d (Ah 19 AP p0.Kids)],1)]) A0 fun _ _ ⟨v5_1,v6_1⟩ h=>?_
 simp only [Lh] at h
 refine AM h (fun h=>?_) fun h=>?_
 ·refine B6 (f:=AP) h fun x23 _ h=>?_
  rw [Ab x23]
  conv=>whnf
  obtain ⟨x28,hx28,h⟩:=A9 h
  first | refine A1 (ih_ref16_count _ _ _ hx28) ?_ | (simp only [List.length_map]; refine A1 (ih_ref16_count _ _ _ hx28) ?_)
  exact z27
 exact z16
theorem O1:∀ d:Nat,(∀ (p0:Av) (p1:Int) (R:Int) ,Ig d p0 p1 = some R→Al Tryz.prog 55 [.d (Ac p0),.d (.int .i64 p1)] (.d (.int .i64 R)))
 | 0=>by
  exact z24
 | d + 1=>by
  have ih:=O1 d
  exact Uq d _ ih
theorem UU (d:Nat):∀ (p0:Av) (p1:Int) (R:Int) ,Ig d p0 p1 = some R→Al Tryz.prog 55 [.d (Ac p0),.d (.int .i64 p1)] (.d (.int .i64 R)):=O1 d
theorem Ur (d:Nat) (self_ref16_depth:(Av→Option Int)) (ih_ref16_depth:∀ (p0:Av) (R:Int) ,self_ref16_depth p0 = some R→Al Tryz.prog 56 [.d (Ac p0)] (.d (.int .i64 R))) (p0:Av) (R:Int) (h:Ht d self_ref16_depth p0 = some R):Al Tryz.prog 56 [.d (Ac p0)] (.d (.int .i64 R)):=by
 refine Cn Tryz.func56 ?_
 unfold Ht at h
 refine z5 h (fun p=>Cd 22 [(1,.ptr 1 1 0),(3,.d (.int .i64 p.1)),(4,.d (.int .i64 p.2))] [(1,.var [.d (.int .i64 p0.Op),.d (.int .i64 p0.Num),.d (.str p0.Name),.d (.int .i64 p0.Column),.d (Ah 1 (D.int .i64) p0.Columns),.d (Ah 2 Ak p0.Dims),.d (.int .i64 p0.Cond.Op),.d (.int .i64 p0.Cond.Column),.d (.int .i64 p0.Cond.Code),.d (.int .i64 p0.Cond.Low),.d (.int .i64 p0.Cond.High),.d (Ah 6 Ap p0.Cond.Kids),.d (.int .i64 p0.Event.Op),.d (.int .i64 p0.Event.Column),.d (.int .i64 p0.Event.Code),.d (.int .i64 p0.Event.Low),.d (.int .i64 p0.Event.High),.d (Ah 6 Ap p0.Event.Kids),.d (Ah 19 AP p0.Kids)],1)]) A0 fun _ _ ⟨v3_1,v4_1⟩ h=>?_
 simp only [Li] at h
 refine AM h (fun h=>?_) fun h=>?_
 ·refine B6 (f:=AP) h fun x16 _ h=>?_
  rw [Ab x16]
  conv=>whnf
  obtain ⟨x18,hx18,h⟩:=A9 h
  first | refine A1 (ih_ref16_depth _ _ hx18) ?_ | (simp only [List.length_map]; refine A1 (ih_ref16_depth _ _ hx18) ?_)
  exact z27
 exact z16
theorem O2:∀ d:Nat,(∀ (p0:Av) (R:Int) ,Ih d p0 = some R→Al Tryz.prog 56 [.d (Ac p0)] (.d (.int .i64 R)))
 | 0=>by
  exact z24
 | d + 1=>by
  have ih:=O2 d
  exact Ur d _ ih
theorem UV (d:Nat):∀ (p0:Av) (R:Int) ,Ih d p0 = some R→Al Tryz.prog 56 [.d (Ac p0)] (.d (.int .i64 R)):=O2 d
theorem Nl (d:Nat) (p0:Aj) (R:Bool) (h:Lj d p0 = some R):Al Tryz.prog 158 [.d (Ad p0)] (.d (.bool R)):=by
 refine Cn Tryz.func158 ?_
 unfold Lj at h
 refine AU h (fun _=>Ky _ _ _ _) fun x5 h=>?_
 exact z16
end Go.Proofs.YtjghjdokjgcehaaGreatDoor.P
