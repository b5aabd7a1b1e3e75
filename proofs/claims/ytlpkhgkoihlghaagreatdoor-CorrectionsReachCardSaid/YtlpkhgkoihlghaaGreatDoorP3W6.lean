/- P3W6 -/
import Derived.Test.YtlpkhgkoihlghaaGreatDoorP3W5
import Derived.Test.YtlpkhgkoihlghaaGreatDoorP3CW
set_option linter.unusedSimpArgs false
namespace Go.Proofs.YtlpkhgkoihlghaaGreatDoor.P
open Go.Abs Go.Proofs
set_option maxRecDepth 100000
set_option maxHeartbeats 4000000
set_option linter.unusedVariables false
theorem RI (d:Nat) (p0:Af) (p1:As) (p2:(List Int)) (R:Int) (h:Kn d p0 p1 p2 = some R):Aw Tryz.prog 105 [.d (Ay p0),.d (Ac p1),.d (Aj 1 (D.int .i64) p2)] (.d (.int .i64 R)):=by
 refine BA Tryz.func105 ?_
 unfold Kn at h
 conv=>whnf
 refine Ag h fun x9 hx9 h=>?_
 refine Ak (SY _ _ _ _ _ _ (fun a0 _ h=>OA a0 _ _ _ h) hx9) ?_
 exact z17
theorem TZ (d:Nat) (p0:Aq) (p1:A6) (R:(List (List Int))) (h:Hg d p0 p1 = some R):Aw Tryz.prog 52 [.d (B8 p0),.d (BF p1)] (.d (Aj 1 (Aj 1 (D.int .i64)) R)):=by
 refine BA Tryz.func52 ?_
 unfold Hg at h
 conv=>whnf
 refine z5 h (fun p=>B0 36 [(2,.ptr 2 1 0),(3,.ptr 3 1 0),(5,.sl 5 1),(9,.d (Aj 1 (Aj 1 (D.int .i64)) p0.Rows)),(10,.d (.int .i64 ((p0.Rows.length:Nat):Int))),(11,.d (.int .i64 p.1))] [(2,.var [.d (Aj 2 Ah p0.Schema.Lists),.d (Aj 7 Al p0.Schema.Columns),.d (Aj 1 (Aj 1 (D.int .i64)) p0.Rows),.d (Aj 1 (D.int .i64) p0.Gone),.d (.int .i64 p0.Version)],1),(3,.var [.d (.str p1.Project),.d (.str p1.Source),.d (.int .i64 p1.Cohort.Op),.d (.int .i64 p1.Cohort.Column),.d (.int .i64 p1.Cohort.Code),.d (.int .i64 p1.Cohort.Low),.d (.int .i64 p1.Cohort.High),.d (Aj 6 Az p1.Cohort.Kids),.d (.int .i64 p1.Sample.Part),.d (.int .i64 p1.Sample.Of),.d (.int .i64 p1.Sample.Seed),.d (Aj 17 AA p1.Questions)],1),(5,.row 1 30 (List.map (Aj 1 (D.int .i64)) p.2),1)]) Ai fun _ _ ⟨v11_1,b5_1⟩ h=>?_
 simp only [GA] at h
 refine AH h (fun h=>?_) fun h=>?_
 ·refine AJ (f:=(Aj 1 (D.int .i64))) h fun x13 _ h=>?_
  conv=>whnf
  refine z13 ?_
  refine AJ (f:=(D.int .i64)) h fun x18 _ h=>?_
  conv=>whnf
  refine Ag h fun x20 hx20 h=>?_
  refine Ak (Zc _ _ _ hx20) ?_
  refine AH h (fun h=>?_) fun h=>?_
  ·refine Ag h fun x27 hx27 h=>?_
   refine Ak (RI _ _ _ _ _ hx27) ?_
   refine AH h (fun h=>?_) fun h=>?_
   ·conv=>whnf
    exact z33
   exact z19
  exact Bn ⟨(_,(_,_)),h⟩ Ai
 exact z35
theorem Uj (p0:Af) (p1:Int) (p2:Int) (p3:Int) (R:Int) (h:Hn p0 p1 p2 p3 = some R):Aw Tryz.prog 53 [.d (Ay p0),.d (.int .i64 p1),.d (.int .i64 p2),.d (.int .i64 p3)] (.d (.int .i64 R)):=by
 refine BA Tryz.func53 ?_
 unfold Hn at h
 conv=>whnf
 refine Ag h fun x13 hx13 h=>?_
 refine Ak (Kt _ _ _ hx13) ?_
 refine Am h fun h=>?_
 refine AJ (f:=Al) h fun x24 _ h=>?_
 conv=>whnf
 refine Qt h E4 (fun e2 h=>?_) (fun e2 h=>?_)
 ·refine Ag h fun x34 hx34 h=>?_
  refine Ak (QN _ _ _ _ hx34) ?_
  refine Am h fun h=>?_
  conv=>whnf
  refine R1 E4 e2 ?_
  refine AJ (f:=Ah) h fun x45 _ h=>?_
  conv=>whnf
  refine Ag h fun x49 hx49 h=>?_
  refine Ak (QS _ _ _ _ hx49) ?_
  exact z60
 refine f9 E4 e2 ?_
 refine Am h fun h=>?_
 refine Am h fun h=>?_
 refine Am h fun h=>?_
 conv=>whnf
 refine Ag h fun x70 hx70 h=>?_
 refine Ak (PE _ _ _ hx70) ?_
 conv=>whnf
 refine Ag h fun x71 hx71 h=>?_
 refine Ak (ML _ _ _ hx71) ?_
 exact z60
theorem Rh (p0:(List Int)) (p1:(List Int)) (R:Int) (h:Cf p0 p1 = some R):Aw Tryz.prog 55 [.d (Aj 1 (D.int .i64) p0),.d (Aj 1 (D.int .i64) p1)] (.d (.int .i64 R)):=by
 refine BA Tryz.func55 ?_
 unfold Cf at h
 conv=>whnf
 refine z13 ?_
 refine AJ (f:=(D.int .i64)) h fun x6 _ h=>?_
 refine AJ (f:=(D.int .i64)) h fun x9 _ h=>?_
 exact z60
theorem Oe (d:Nat) (p0:Aq) (p1:A6) (p2:(List Ap)) (p3:Int) (R:(A0 × Int)) (h:Dc d p0 p1 p2 p3 = some R):Aw Tryz.prog 19 [.d (B8 p0),.d (BF p1),.d (Aj 2 An p2),.d (.int .i64 p3)] (.tup [.d (HS R.1),.d (.int .i64 R.2)]):=by
 refine BA Tryz.func19 ?_
 unfold Dc at h
 conv=>whnf
 refine Ag h fun x18 hx18 h=>?_
 refine Ak (PI _ _ hx18) ?_
 refine Am h fun h=>?_
 conv=>whnf
 refine Ag h fun x25 hx25 h=>?_
 refine Ak (Td _ _ _ _ _ hx25) ?_
 refine Am h fun h=>?_
 conv=>whnf
 refine Ag h fun x31 hx31 h=>?_
 refine Ak (Kq _ _ _ hx31) ?_
 refine Am h fun h=>?_
 conv=>whnf
 refine z13 ?_
 conv=>whnf
 refine Ag h fun x39 hx39 h=>?_
 refine Ak (Ig _ _ hx39) ?_
 conv=>whnf
 refine Ag h fun x43 hx43 h=>?_
 refine Ak (TZ _ _ _ _ hx43) ?_
 conv=>whnf
 refine A7 h fun P1 i1 h=>?_
 refine WI [(11,3,81,30)] {p:Nat × (Int × (List (List Int))) // P1 p.1 p.2 = some R} (fun p=>B0 88 [(2,.d (Aj 2 An p2)),(3,.d (.int .i64 p3)),(4,.ptr 4 1 0),(8,.ptr 8 1 0),(11,.ptr 11 1 0),(43,.d (Aj 1 (Aj 1 (D.int .i64)) x43)),(44,.d (.int .i64 ((x43.length:Nat):Int))),(45,.d (.int .i64 p.1.2.1))] [(4,.var [.d (Aj 2 Ah p0.Schema.Lists),.d (Aj 7 Al p0.Schema.Columns),.d (Aj 1 (Aj 1 (D.int .i64)) p0.Rows),.d (Aj 1 (D.int .i64) p0.Gone),.d (.int .i64 p0.Version)],1),(8,.var [.d (.str ByteArray.empty),.d (.int .i64 0),.d (.nil 2),.d (.nil 1)],1),(11,.var [.d (.str p1.Project),.d (.int .i64 p0.Version),.d (Aj 2 An x39),.sl 81 1],1),(81,.row 1 30 (List.map (Aj 1 (D.int .i64)) p.1.2.2),1)]) (fun p=>p.1.1) ⟨(_,(_,_)),h⟩ ?_ fun p=>?_
 ·conv=>whnf
  exact eW
 obtain ⟨⟨k1,⟨v45_1,b81_1⟩⟩,h⟩:=p
 obtain ⟨k1,rfl,h⟩:=i1 _ _ h
 simp only [G7] at h
 refine AH h (fun h=>?_) fun h=>?_
 ·refine AJ (f:=(Aj 1 (D.int .i64))) h fun x47 _ h=>?_
  refine AJ (f:=(D.int .i64)) h fun x51 _ h=>?_
  conv=>whnf
  refine Ag h fun x53 hx53 h=>?_
  refine Ak (Kq _ _ _ hx53) ?_
  conv=>whnf
  refine z5 h (fun p=>B0 88 [(2,.d (Aj 2 An p2)),(3,.d (.int .i64 p3)),(4,.ptr 4 1 0),(8,.ptr 8 1 0),(11,.ptr 11 1 0),(13,.d (Aj 1 (D.int .i64) x47)),(14,.sl 54 1),(43,.d (Aj 1 (Aj 1 (D.int .i64)) x43)),(44,.d (.int .i64 ((x43.length:Nat):Int))),(45,.d (.int .i64 v45_1)),(55,.d (Aj 2 An p2)),(56,.d (.int .i64 ((p2.length:Nat):Int))),(57,.d (.int .i64 p.1))] [(4,.var [.d (Aj 2 Ah p0.Schema.Lists),.d (Aj 7 Al p0.Schema.Columns),.d (Aj 1 (Aj 1 (D.int .i64)) p0.Rows),.d (Aj 1 (D.int .i64) p0.Gone),.d (.int .i64 p0.Version)],1),(8,.var [.d (.str ByteArray.empty),.d (.int .i64 0),.d (.nil 2),.d (.nil 1)],1),(11,.var [.d (.str p1.Project),.d (.int .i64 p0.Version),.d (Aj 2 An x39),.sl 81 1],1),(54,.row 1 3 (List.map (D.int .i64) p.2),1),(81,.row 1 30 (List.map (Aj 1 (D.int .i64)) b81_1),1)]) Ai fun _ _ ⟨v57_2,b54_2⟩ h=>?_
  simp only [G8] at h
  refine AH h (fun h=>?_) fun h=>?_
  ·refine AJ (f:=An) h fun x59 _ h=>?_
   conv=>whnf
   refine z13 ?_
   refine AJ (f:=(D.int .i64)) h fun x71 _ h=>?_
   conv=>whnf
   refine Ag h fun x73 hx73 h=>?_
   refine Ak (Uj _ _ _ _ _ hx73) ?_
   exact z55
  conv=>whnf
  try simp only [G9] at h
  exact z33
 conv=>whnf
 try simp only [G9] at h
 refine Ag h fun x86 hx86 h=>?_
 refine AC (Kx _ _ _ _ _ (fun a0 a1 _ h=>Rh a0 a1  _ h) hx86) ?_
 conv=>whnf
 refine ⟨.inl ?_⟩
 exact z60
theorem Mp (p0:(List (List Int))) (R:Bool) (h:Ej p0 = some R):Aw Tryz.prog 56 [.d (Aj 1 (Aj 1 (D.int .i64)) p0)] (.d (.bool R)):=by
 refine BA Tryz.func56 ?_
 unfold Ej at h
 conv=>whnf
 refine z5 h (fun p=>B0 33 [(0,.d (Aj 1 (Aj 1 (D.int .i64)) p0)),(5,.d (Aj 1 (Aj 1 (D.int .i64)) p0)),(6,.d (.int .i64 ((p0.length:Nat):Int))),(7,.d (.int .i64 p))] []) Ai fun _ _ v7_1 h=>?_
 simp only [Fy] at h
 refine AQ h fun h=>?_
 refine AJ (f:=(Aj 1 (D.int .i64))) h fun x10 _ h=>?_
 conv=>whnf
 refine z13 ?_
 refine Am h fun h=>?_
 refine AH h (fun h=>?_) fun h=>?_
 ·refine AJ (f:=(D.int .i64)) h fun x20 _ h=>?_
  refine AJ (f:=(Aj 1 (D.int .i64))) h fun x25 _ h=>?_
  refine AJ (f:=(D.int .i64)) h fun x27 _ h=>?_
  exact z18
 exact z42
theorem Ih (p0:(List Ap)) (p1:(List Ap)) (R:Bool) (h:BC p0 p1 = some R):Aw Tryz.prog 57 [.d (Aj 2 An p0),.d (Aj 2 An p1)] (.d (.bool R)):=by
 refine BA Tryz.func57 ?_
 unfold BC at h
 refine Am h fun h=>?_
 conv=>whnf
 refine z5 h (fun p=>B0 26 [(0,.d (Aj 2 An p0)),(1,.d (Aj 2 An p1)),(12,.d (.int .i64 ((p0.length:Nat):Int))),(13,.d (.int .i64 p))] []) Ai fun _ _ v13_1 h=>?_
 simp only [BQ] at h
 refine AQ h fun h=>?_
 conv=>whnf
 refine z13 ?_
 refine AJ (f:=An) h fun x18 _ h=>?_
 refine AJ (f:=An) h fun x22 _ h=>?_
 conv=>whnf
 refine ⟨⟨by kernel_rfl,by kernel_rfl⟩,?_⟩
 conv=>whnf
 refine ⟨by kernel_rfl,?_⟩
 exact z18
theorem SH (p0:(List Int)) (p1:Int) (R:Int) (h:Ei p0 p1 = some R):Aw Tryz.prog 114 [.d (Aj 1 (D.int .i64) p0),.d (.int .i64 p1)] (.d (.int .i64 R)):=by
 refine BA Tryz.func114 ?_
 unfold Ei at h
 refine AJ (f:=(D.int .i64)) h fun x7 _ h=>?_
 refine Am h fun h=>?_
 refine AJ (f:=(D.int .i64)) h fun x13 _ h=>?_
 exact Dm h
theorem P0 (p0:(List (List Int))) (p1:Int) (R:(Int × Bool)) (h:GO p0 p1 = some R):Aw Tryz.prog 58 [.d (Aj 1 (Aj 1 (D.int .i64)) p0),.d (.int .i64 p1)] (.tup [.d (.int .i64 R.1),.d (.bool R.2)]):=by
 refine BA Tryz.func58 ?_
 unfold GO at h
 conv=>whnf
 refine Ag h fun x8 hx8 h=>?_
 refine Ak (CO _ _ _ _ _ _ (fun a0 a1 _ h=>SH a0 a1  _ h) hx8) ?_
 exact z60
theorem N1 (p0:(List Int)) (p1:(List Int)) (R:Bool) (h:CP p0 p1 = some R):Aw Tryz.prog 59 [.d (Aj 1 (D.int .i64) p0),.d (Aj 1 (D.int .i64) p1)] (.d (.bool R)):=by
 refine BA Tryz.func59 ?_
 unfold CP at h
 refine Am h fun h=>?_
 conv=>whnf
 refine z5 h (fun p=>B0 26 [(0,.d (Aj 1 (D.int .i64) p0)),(1,.d (Aj 1 (D.int .i64) p1)),(12,.d (.int .i64 ((p0.length:Nat):Int))),(13,.d (.int .i64 p))] []) Ai fun _ _ v13_1 h=>?_
 simp only [Df] at h
 refine AQ h fun h=>?_
 conv=>whnf
 refine z13 ?_
 refine AJ (f:=(D.int .i64)) h fun x18 _ h=>?_
 refine AJ (f:=(D.int .i64)) h fun x22 _ h=>?_
 exact z18
theorem Vr (p0:A0) (p1:A0) (R:(Bd × Int)) (h:GN p0 p1 = some R):Aw Tryz.prog 20 [.d (HS p0),.d (HS p1)] (.tup [.d (NC R.1),.d (.int .i64 R.2)]):=by
 refine DY [5,13] Tryz.func20 (by kernel_rfl) ?_
 unfold GN at h
 refine Th {p:Unit // H3 p0 p1 = some R} (fun p=>B0 109 [(2,.ptr 2 1 0),(3,.ptr 3 1 0),(4,.ptr 4 1 0)] [(2,.var [.d (.str p0.Project),.d (.int .i64 p0.Version),.d (Aj 2 An p0.Picks),.d (Aj 1 (Aj 1 (D.int .i64)) p0.Rows)],1),(3,.var [.d (.str p1.Project),.d (.int .i64 p1.Version),.d (Aj 2 An p1.Picks),.d (Aj 1 (Aj 1 (D.int .i64)) p1.Rows)],1),(4,.var [.d (.int .i64 0),.d (.nil 1),.d (.nil 1)],1)]) ?_ fun p=>?_
 ·conv=>whnf
  refine Ag h fun x18 hx18 h=>?_
  refine Ak (Mp _ _ hx18) ?_
  refine Am h fun h=>?_
  refine Ag h fun x23 hx23 h=>?_
  refine Ak (Mp _ _ hx23) ?_
  refine Am h fun h=>?_
  refine Am h fun h=>?_
  refine Ag h fun x38 hx38 h=>?_
  refine Ak (Ih _ _ _ hx38) ?_
  exact z52
 obtain ⟨_,h⟩:=p
 simp only [H3] at h
 refine Th {p:(List Int) // H4 p1 p0 p = some R} (fun p=>B0 109 [(2,.ptr 2 1 0),(3,.ptr 3 1 0),(4,.ptr 4 1 0),(6,.ptr 6 1 0)] [(2,.var [.d (.str p0.Project),.d (.int .i64 p0.Version),.d (Aj 2 An p0.Picks),.d (Aj 1 (Aj 1 (D.int .i64)) p0.Rows)],1),(3,.var [.d (.str p1.Project),.d (.int .i64 p1.Version),.d (Aj 2 An p1.Picks),.d (Aj 1 (Aj 1 (D.int .i64)) p1.Rows)],1),(4,.var [.d (.int .i64 0),.d (.nil 1),.d (.nil 1)],1),(6,.var [.d (.int .i64 p1.Version),.sl 69 1,.d (.nil 1)],1),(69,.row 1 3 (List.map (D.int .i64) p.1),1)]) ?_ fun p=>?_
 ·conv=>whnf
  refine A7 h fun P1 i1 h=>?_
  refine WI [(6,1,69,3)] {p:Nat × (Int × (List Int)) // P1 p.1 p.2 = some R} (fun p=>B0 109 [(2,.ptr 2 1 0),(3,.ptr 3 1 0),(4,.ptr 4 1 0),(6,.ptr 6 1 0),(46,.d (Aj 1 (Aj 1 (D.int .i64)) p0.Rows)),(47,.d (.int .i64 ((p0.Rows.length:Nat):Int))),(48,.d (.int .i64 p.1.2.1))] [(2,.var [.d (.str p0.Project),.d (.int .i64 p0.Version),.d (Aj 2 An p0.Picks),.d (Aj 1 (Aj 1 (D.int .i64)) p0.Rows)],1),(3,.var [.d (.str p1.Project),.d (.int .i64 p1.Version),.d (Aj 2 An p1.Picks),.d (Aj 1 (Aj 1 (D.int .i64)) p1.Rows)],1),(4,.var [.d (.int .i64 0),.d (.nil 1),.d (.nil 1)],1),(6,.var [.d (.int .i64 p1.Version),.sl 69 1,.d (.nil 1)],1),(69,.row 1 3 (List.map (D.int .i64) p.1.2.2),1)]) (fun p=>p.1.1) ⟨(_,(_,_)),h⟩ ?_ fun p=>?_
  ·conv=>whnf
   exact eW
  obtain ⟨⟨k1,⟨v48_1,b69_1⟩⟩,h⟩:=p
  obtain ⟨k1,rfl,h⟩:=i1 _ _ h
  simp only [H1] at h
  refine AH h (fun h=>?_) fun h=>?_
  ·refine AJ (f:=(Aj 1 (D.int .i64))) h fun x50 _ h=>?_
   conv=>whnf
   refine z13 ?_
   refine AJ (f:=(D.int .i64)) h fun x56 _ h=>?_
   conv=>whnf
   refine Ag h fun x58 hx58 h=>?_
   refine Ak (P0 _ _ _ hx58) ?_
   refine AH h (fun h=>?_) fun h=>?_
   ·conv=>whnf
    refine z13 ?_
    refine AJ (f:=(D.int .i64)) h fun x66 _ h=>?_
    exact z55
   exact z19
  conv=>whnf
  exact ⟨⟨_,h⟩,Ai⟩
 obtain ⟨k69_2,h⟩:=p
 simp only [H4] at h
 conv=>whnf
 refine A7 h fun P2 i2 h=>?_
 refine WI [(6,2,105,30)] {p:Nat × (Int × (List (List Int))) // P2 p.1 p.2 = some R} (fun p=>B0 109 [(2,.ptr 2 1 0),(4,.ptr 4 1 0),(6,.ptr 6 1 0),(73,.d (Aj 1 (Aj 1 (D.int .i64)) p1.Rows)),(74,.d (.int .i64 ((p1.Rows.length:Nat):Int))),(75,.d (.int .i64 p.1.2.1))] [(2,.var [.d (.str p0.Project),.d (.int .i64 p0.Version),.d (Aj 2 An p0.Picks),.d (Aj 1 (Aj 1 (D.int .i64)) p0.Rows)],1),(4,.var [.d (.int .i64 0),.d (.nil 1),.d (.nil 1)],1),(6,.var [.d (.int .i64 p1.Version),.sl 69 1,.sl 105 1],1),(69,.row 1 3 (List.map (D.int .i64) k69_2),1),(105,.row 1 30 (List.map (Aj 1 (D.int .i64)) p.1.2.2),1)]) (fun p=>p.1.1) ⟨(_,(_,_)),h⟩ ?_ fun p=>?_
 ·conv=>whnf
  exact eW
 obtain ⟨⟨k2,⟨v75_2,b105_2⟩⟩,h⟩:=p
 obtain ⟨k2,rfl,h⟩:=i2 _ _ h
 simp only [H2] at h
 refine AH h (fun h=>?_) fun h=>?_
 ·refine AJ (f:=(Aj 1 (D.int .i64))) h fun x77 _ h=>?_
  conv=>whnf
  refine z13 ?_
  refine AJ (f:=(D.int .i64)) h fun x83 _ h=>?_
  conv=>whnf
  refine Ag h fun x85 hx85 h=>?_
  refine Ak (P0 _ _ _ hx85) ?_
  refine AH h (fun h=>?_) fun h=>?_
  ·refine z13 ?_
   conv=>whnf
   refine Ag h fun x103 hx103 h=>?_
   refine Ak (Bp _ _ hx103) ?_
   conv=>whnf
   exact z33
  refine AJ (f:=(Aj 1 (D.int .i64))) h fun x94 _ h=>?_
  conv=>whnf
  refine Ag h fun x97 hx97 h=>?_
  refine Ak (N1 _ _ _ hx97) ?_
  refine AH h (fun h=>?_) fun h=>?_
  ·conv=>whnf
   refine z13 ?_
   conv=>whnf
   refine Ag h fun x103 hx103 h=>?_
   refine Ak (Bp _ _ hx103) ?_
   conv=>whnf
   exact z33
  exact z19
 conv=>whnf
 refine ⟨.inl ?_⟩
 exact z60
def zeroExt0:A0:={Project:=ByteArray.empty,Version:=0,Picks:=[],Rows:=[]}
def zeroSrc0:Aq:={Schema:={Lists:=[],Columns:=[]},Rows:=[],Gone:=[],Version:=0}
theorem JO (d:Nat) (p0:Aq) (p1:List B1) (p2 p3:Int) (p4:A6) (p5:List Ap) (p6:Int) (R:Bd × Int) (h:CQ d p0 p1 p2 p3 p4 p5 p6 = some R):Aw Tryz.prog 6 [.d (B8 p0),.d (Aj 3 Cc p1),.d (.int .i64 p2),.d (.int .i64 p3),.d (BF p4),.d (Aj 2 An p5),.d (.int .i64 p6)] (.tup [.d (NC R.1),.d (.int .i64 R.2)]):=by
 refine BA Tryz.func6 ?_
 refine loop {p:Nat × Aq × Aq // (p.1 = 0∧p.2.1 = zeroSrc0∧p.2.2 = zeroSrc0∧CQ d p0 p1 p2 p3 p4 p5 p6 = some R)∨(p.1 = 1∧p.2.2 = zeroSrc0∧DL d p0 p1 p3 p4 p5 p6 p.2.1 = some R)∨(p.1 = 2∧CM d p4 p5 p6 p.2.1 p.2.2 = some R)} (fun p=>B0 78 [(1,.d (Aj 3 Cc p1)),(5,.d (Aj 2 An p5)),(6,.d (.int .i64 p6)),(7,.ptr 7 1 0),(11,.ptr 11 1 0),(14,.ptr 14 1 0),(16,.ptr 16 1 0),(28,.sl 28 1),(29,.d (.int .i64 2)),(30,.d (.int .i64 ((p.1.1:Nat):Int)))] [(7,.var [.d (Aj 2 Ah p0.Schema.Lists),.d (Aj 7 Al p0.Schema.Columns),.d (Aj 1 (Aj 1 (D.int .i64)) p0.Rows),.d (Aj 1 (D.int .i64) p0.Gone),.d (.int .i64 p0.Version)],1),(11,.var [.d (.str p4.Project),.d (.str p4.Source),.d (.int .i64 p4.Cohort.Op),.d (.int .i64 p4.Cohort.Column),.d (.int .i64 p4.Cohort.Code),.d (.int .i64 p4.Cohort.Low),.d (.int .i64 p4.Cohort.High),.d (Aj 6 Az p4.Cohort.Kids),.d (.int .i64 p4.Sample.Part),.d (.int .i64 p4.Sample.Of),.d (.int .i64 p4.Sample.Seed),.d (Aj 17 AA p4.Questions)],1),(14,.var [.d (.int .i64 0),.d (.nil 1),.d (.nil 1)],1),(16,.var [.d (Aj 2 Ah p.1.2.1.Schema.Lists),.d (Aj 7 Al p.1.2.1.Schema.Columns),.d (Aj 1 (Aj 1 (D.int .i64)) p.1.2.1.Rows),.d (Aj 1 (D.int .i64) p.1.2.1.Gone),.d (.int .i64 p.1.2.1.Version),.d (Aj 2 Ah p.1.2.2.Schema.Lists),.d (Aj 7 Al p.1.2.2.Schema.Columns),.d (Aj 1 (Aj 1 (D.int .i64)) p.1.2.2.Rows),.d (Aj 1 (D.int .i64) p.1.2.2.Gone),.d (.int .i64 p.1.2.2.Version)],1),(28,.row 1 3 [.int .i64 p2,.int .i64 p3],1)]) (fun p=>2 - p.1.1) ⟨(0,zeroSrc0,zeroSrc0),.inl ⟨rfl,rfl,rfl,h⟩⟩ ?_ fun p=>?_
 ·exact Ai
 clear h
 obtain ⟨⟨k,x,y⟩,h⟩:=p
 dsimp only at h
 rcases h with ⟨rfl,rfl,rfl,h⟩ | ⟨rfl,rfl,h⟩ | ⟨rfl,h⟩
 ·unfold CQ at h
  conv=>whnf
  refine ⟨⟨(by decide:(0:Int)≤((0:Nat):Int)),(by decide:(((0:Nat):Int)).toNat < 2)⟩,?_⟩
  conv=>whnf
  refine ⟨⟨(by decide:(0:Int)≤((0:Nat):Int)),.int .i64 p2,rfl,?_⟩⟩
  conv=>whnf
  refine Ag h fun v hv h=>?_
  refine Ak (TS _ _ _ _ hv) ?_
  refine Am h fun h=>?_
  conv=>whnf
  refine ⟨⟨(by decide:(0:Int)≤((0:Nat):Int)),(by decide:((0:Nat):Int) < ((2:Nat):Int))⟩,?_⟩
  conv=>whnf
  refine ⟨⟨(1,v.1,zeroSrc0),.inr (.inl ⟨rfl,rfl,h⟩)⟩,?_,(by decide:2 - 1 < 2 - 0)⟩
  exact Ai
 ·unfold DL at h
  conv=>whnf
  refine ⟨⟨(by decide:(0:Int)≤((1:Nat):Int)),(by decide:(((1:Nat):Int)).toNat < 2)⟩,?_⟩
  conv=>whnf
  refine ⟨⟨(by decide:(0:Int)≤((1:Nat):Int)),.int .i64 p3,rfl,?_⟩⟩
  conv=>whnf
  refine Ag h fun v hv h=>?_
  refine Ak (TS _ _ _ _ hv) ?_
  refine Am h fun h=>?_
  conv=>whnf
  refine ⟨⟨(by decide:(0:Int)≤((1:Nat):Int)),(by decide:((1:Nat):Int) < ((2:Nat):Int))⟩,?_⟩
  conv=>whnf
  refine ⟨⟨(2,x,v.1),.inr (.inr ⟨rfl,h⟩)⟩,?_,(by decide:2 - 2 < 2 - 1)⟩
  exact Ai
 ·refine loop {p:Nat × A0 × A0 // (p.1 = 0∧p.2.1 = zeroExt0∧p.2.2 = zeroExt0∧CM d p4 p5 p6 x y = some R)∨(p.1 = 1∧p.2.2 = zeroExt0∧DN d p4 p5 p6 y p.2.1 = some R)∨(p.1 = 2∧GN p.2.1 p.2.2 = some R)} (fun p=>B0 78 [(5,.d (Aj 2 An p5)),(6,.d (.int .i64 p6)),(11,.ptr 11 1 0),(14,.ptr 14 1 0),(21,.ptr 21 1 0),(50,.d (.agg [(Aj 2 Ah x.Schema.Lists),(Aj 7 Al x.Schema.Columns),(Aj 1 (Aj 1 (D.int .i64)) x.Rows),(Aj 1 (D.int .i64) x.Gone),(D.int .i64 x.Version),(Aj 2 Ah y.Schema.Lists),(Aj 7 Al y.Schema.Columns),(Aj 1 (Aj 1 (D.int .i64)) y.Rows),(Aj 1 (D.int .i64) y.Gone),(D.int .i64 y.Version)])),(51,.d (.int .i64 ((p.1.1:Nat):Int)))] [(11,.var [.d (.str p4.Project),.d (.str p4.Source),.d (.int .i64 p4.Cohort.Op),.d (.int .i64 p4.Cohort.Column),.d (.int .i64 p4.Cohort.Code),.d (.int .i64 p4.Cohort.Low),.d (.int .i64 p4.Cohort.High),.d (Aj 6 Az p4.Cohort.Kids),.d (.int .i64 p4.Sample.Part),.d (.int .i64 p4.Sample.Of),.d (.int .i64 p4.Sample.Seed),.d (Aj 17 AA p4.Questions)],1),(14,.var [.d (.int .i64 0),.d (.nil 1),.d (.nil 1)],1),(21,.var [.d (.str p.1.2.1.Project),.d (.int .i64 p.1.2.1.Version),.d (Aj 2 An p.1.2.1.Picks),.d (Aj 1 (Aj 1 (D.int .i64)) p.1.2.1.Rows),.d (.str p.1.2.2.Project),.d (.int .i64 p.1.2.2.Version),.d (Aj 2 An p.1.2.2.Picks),.d (Aj 1 (Aj 1 (D.int .i64)) p.1.2.2.Rows)],1)]) (fun p=>2 - p.1.1) ⟨(0,zeroExt0,zeroExt0),.inl ⟨rfl,rfl,rfl,h⟩⟩ ?_ fun p=>?_
  ·exact Ai
  clear h
  obtain ⟨⟨k,u,w⟩,h⟩:=p
  dsimp only at h
  rcases h with ⟨rfl,rfl,rfl,h⟩ | ⟨rfl,rfl,h⟩ | ⟨rfl,h⟩
  ·unfold CM at h
   conv=>whnf
   refine ⟨⟨(by decide:(0:Int)≤((0:Nat):Int)),(by decide:((0:Nat):Int) < ((2:Nat):Int))⟩,?_⟩
   conv=>whnf
   refine Ag h fun v hv h=>?_
   refine Ak (Oe _ _ _ _ _ _ hv) ?_
   refine Am h fun h=>?_
   conv=>whnf
   refine ⟨⟨(by decide:(0:Int)≤((0:Nat):Int)),(by decide:((0:Nat):Int) < ((2:Nat):Int))⟩,?_⟩
   conv=>whnf
   refine ⟨⟨(1,v.1,zeroExt0),.inr (.inl ⟨rfl,rfl,h⟩)⟩,?_,(by decide:2 - 1 < 2 - 0)⟩
   exact Ai
  ·unfold DN at h
   conv=>whnf
   refine ⟨⟨(by decide:(0:Int)≤((1:Nat):Int)),(by decide:((1:Nat):Int) < ((2:Nat):Int))⟩,?_⟩
   conv=>whnf
   refine Ag h fun v hv h=>?_
   refine Ak (Oe _ _ _ _ _ _ hv) ?_
   refine Am h fun h=>?_
   conv=>whnf
   refine ⟨⟨(by decide:(0:Int)≤((1:Nat):Int)),(by decide:((1:Nat):Int) < ((2:Nat):Int))⟩,?_⟩
   conv=>whnf
   refine ⟨⟨(2,u,v.1),.inr (.inr ⟨rfl,h⟩)⟩,?_,(by decide:2 - 2 < 2 - 1)⟩
   exact Ai
  ·conv=>whnf
   refine ⟨by decide,?_⟩
   conv=>whnf
   refine ⟨by decide,?_⟩
   conv=>whnf
   refine Ak (Vr _ _ _ h) ?_
   conv=>whnf
   exact ⟨ET⟩
theorem Tq (p0:(List B1)) (p1:Int) (p2:Int) (R:(List Int)) (h:G1 p0 p1 p2 = some R):Aw Tryz.prog 60 [.d (Aj 3 Cc p0),.d (.int .i64 p1),.d (.int .i64 p2)] (.d (Aj 1 (D.int .i64) R)):=by
 refine BA Tryz.func60 ?_
 unfold G1 at h
 refine AH h (fun h=>?_) fun h=>?_
 ·exact z35
 conv=>whnf
 refine C4 h fun hr h=>?_
 refine z8 ?_
 try simp only [List.length_map]
 rw [VJ]
 conv=>whnf
 refine z5 h (fun p=>B0 61 [(7,.sl 7 1),(26,.d (Aj 3 Cc (HR p0 p1 p2))),(27,.d (.int .i64 (((HR p0 p1 p2).length:Nat):Int))),(28,.d (.int .i64 p.1))] [(7,.row 1 3 (List.map (D.int .i64) p.2),1)]) Ai fun _ _ ⟨v28_1,b7_1⟩ h=>?_
 simp only [FY] at h
 refine AH h (fun h=>?_) fun h=>?_
 ·refine AJ (f:=Cc) h fun x30 _ h=>?_
  conv=>whnf
  refine Qt h E4 (fun e17 h=>?_) (fun e17 h=>?_)
  ·conv=>whnf
   refine R1 E4 e17 ?_
   refine AH h (fun h=>?_) fun h=>?_
   ·refine AJ (f:=(D.int .i64)) h fun x44 hx44 h=>?_
    exact z55
   exact z19
  refine AH h (fun h=>?_) fun h=>?_
  ·refine AH h (fun h=>?_) fun h=>?_
   ·refine AJ (f:=(D.int .i64)) h fun x44 hx44 h=>?_
    exact z55
   exact z19
  conv=>whnf
  refine Qt h E4 (fun e21 h=>?_) (fun e21 h=>?_)
  ·conv=>whnf
   refine R1 E4 e21 ?_
   exact z55
  refine AH h (fun h=>?_) fun h=>?_
  ·exact z55
  exact z19
 conv=>whnf
 refine Ag h fun x58 hx58 h=>?_
 refine AC (F1 _ _ hx58) ?_
 conv=>whnf
 refine Ag h fun x60 hx60 h=>?_
 refine AC (DZ _ _ hx60) ?_
 exact z35
theorem Wj (p0:(List Int)) (R:(List Int)) (h:Kk p0 = some R):Ck Tryz.prog 61 [.own 1 3 (List.map (D.int .i64) p0)] [.any] (.own 1 3 (List.map (D.int .i64) R)):=by
 refine Kc Tryz.func61 (by kernel_rfl) rfl ?_ ?_
 ·intro i x y hx hy
  match i,hx,hy with
  | 0,hx,hy=>simp at hx hy; subst hx; subst hy; trivial
  | i + 1,hx,hy=>simp at hx
 unfold Kk at h
 conv=>whnf
 refine Ag h fun x4 hx4 h=>?_
 refine AC (F1 _ _ hx4) ?_
 conv=>whnf
 refine Ag h fun x6 hx6 h=>?_
 refine AC (DZ _ _ hx6) ?_
 conv=>whnf
 obtain rfl:=Option.some.inj h
 refine ⟨.inr ?_⟩
 exact z47
theorem SG (p0:(List B1)) (p1:Int) (p2:Int) (p3:Int) (R:(List Int)) (h:H5 p0 p1 p2 p3 = some R):Aw Tryz.prog 21 [.d (Aj 3 Cc p0),.d (.int .i64 p1),.d (.int .i64 p2),.d (.int .i64 p3)] (.d (Aj 1 (D.int .i64) R)):=by
 refine BA Tryz.func21 ?_
 unfold H5 at h
 conv=>whnf
 refine Ag h fun x16 hx16 h=>?_
 refine Ak (Tq _ _ _ _ hx16) ?_
 conv=>whnf
 refine z5 h (fun p=>B0 34 [(3,.d (.int .i64 p3)),(9,.sl 9 1),(16,.d (Aj 1 (D.int .i64) x16)),(17,.d (.int .i64 ((x16.length:Nat):Int))),(18,.d (.int .i64 p.1))] [(9,.row 1 3 (List.map (D.int .i64) p.2),1)]) Ai fun _ _ ⟨v18_1,b9_1⟩ h=>?_
 simp only [Fx] at h
 refine AH h (fun h=>?_) fun h=>?_
 ·refine AJ (f:=(D.int .i64)) h fun x20 _ h=>?_
  conv=>whnf
  refine Ag h fun x24 hx24 h=>?_
  refine Ak (Kq _ _ _ hx24) ?_
  refine AH h (fun h=>?_) fun h=>?_
  ·exact z55
  exact z19
 conv=>whnf
 refine Ag h fun x33 hx33 h=>?_
 refine AC (Wj _ _ hx33) ?_
 exact z35
end Go.Proofs.YtlpkhgkoihlghaaGreatDoor.P
