/- P3W13 -/
import Derived.Test.YtlpkhgkoihlghaaGreatDoorP3W12
set_option linter.unusedSimpArgs false
namespace Go.Proofs.YtlpkhgkoihlghaaGreatDoor.P
open Go.Abs Go.Proofs
set_option maxRecDepth 100000
set_option maxHeartbeats 40000000
set_option linter.unusedVariables false
theorem YV (p0:Int) (p1:Int) (R:Int) (h:Nx p0 p1 = some R):Aw Tryz.prog 27 [.d (.int .i64 p0),.d (.int .i64 p1)] (.d (.int .i64 R)):=by
 refine BA Tryz.func27 ?_
 unfold Nx at h
 conv=>whnf
 refine Ag h fun x10 hx10 h=>?_
 refine Ak (Wh _ _ _ hx10) ?_
 refine Am h fun h=>?_
 conv=>whnf
 refine z11 ?_
 conv=>whnf
 refine z11 ?_
 conv=>whnf
 refine z5 h (fun p=>B0 31 [(0,.d (.int .i64 p0)),(5,.d (.int .i64 p.1)),(6,.d (.int .i64 p.2.1)),(7,.d (.int .i64 p.2.2))] []) Ai fun _ _ ⟨v5_1,v6_1,v7_1⟩ h=>?_
 simp only [KG] at h
 refine AQ h fun h=>?_
 conv=>whnf
 refine Ag h fun x25 hx25 h=>?_
 refine Ak (Wg _ _ _ _ hx25) ?_
 exact z22
theorem QI (d:Nat) (p0:Aq) (p1:A6) (p2:(List Ap)) (p3:Int) (R:(A0 × Int)) (h:Gt d p0 p1 p2 p3 = some R):Aw Tryz.prog 9 [.d (B8 p0),.d (BF p1),.d (Aj 2 An p2),.d (.int .i64 p3)] (.tup [.d (HS R.1),.d (.int .i64 R.2)]):=by
 refine BA Tryz.func9 ?_
 unfold Gt at h
 conv=>whnf
 refine Ag h fun x18 hx18 h=>?_
 refine Ak (ME _ _ hx18) ?_
 refine Am h fun h=>?_
 conv=>whnf
 refine Ag h fun x25 hx25 h=>?_
 refine Ak (Wd _ _ _ _ _ hx25) ?_
 refine Am h fun h=>?_
 refine Am h fun h=>?_
 conv=>whnf
 refine z13 ?_
 conv=>whnf
 refine C4 h fun hr h=>?_
 refine z6 ?_
 conv=>whnf
 refine ⟨.inr ?_⟩
 conv=>whnf
 refine Ag h fun x46 hx46 h=>?_
 refine Ak (Vq _ _ _ _ hx46) ?_
 conv=>whnf
 refine z5 h (fun p=>B0 106 [(2,.d (Aj 2 An p2)),(3,.d (.int .i64 p3)),(4,.ptr 4 1 0),(8,.ptr 8 1 0),(11,.ptr 11 1 0),(12,.d (Aj 1 (D.int .i64) x46)),(13,.d (.int .i64 p.1))] [(4,.var [.d (Aj 2 Ah p0.Schema.Lists),.d (Aj 7 Al p0.Schema.Columns),.d (Aj 1 (Aj 1 (D.int .i64)) p0.Rows),.d (Aj 1 (D.int .i64) p0.Gone),.d (.int .i64 p0.Version)],1),(8,.var [.d (.str ByteArray.empty),.d (.int .i64 0),.d (.nil 2),.d (.nil 1)],1),(11,.var [.d (.str p1.Project),.d (.int .i64 p0.Version),.sl 42 1,.d (Aj 1 (Aj 1 (D.int .i64)) p.2)],1),(42,.row 2 85 (List.map An p2),1)]) Ai fun _ _ ⟨v13_1,c11_3_1⟩ h=>?_
 simp only [IH] at h
 refine AH h (fun h=>?_) fun h=>?_
 ·conv=>whnf
  refine z13 ?_
  refine AJ (f:=(D.int .i64)) h fun x58 _ h=>?_
  conv=>whnf
  refine Ag h fun x60 hx60 h=>?_
  refine Ak (GL _ _ _ hx60) ?_
  refine AJ (f:=(Aj 1 (D.int .i64))) h fun x61 _ h=>?_
  refine AJ (f:=(D.int .i64)) h fun x66 _ h=>?_
  conv=>whnf
  refine Ag h fun x68 hx68 h=>?_
  refine Ak (YV _ _ _ hx68) ?_
  conv=>whnf
  refine z5 h (fun p=>B0 106 [(2,.d (Aj 2 An p2)),(3,.d (.int .i64 p3)),(4,.ptr 4 1 0),(8,.ptr 8 1 0),(11,.ptr 11 1 0),(12,.d (Aj 1 (D.int .i64) x46)),(13,.d (.int .i64 v13_1)),(14,.d (Aj 1 (D.int .i64) x61)),(15,.sl 69 1),(16,.d (.int .i64 p.1))] [(4,.var [.d (Aj 2 Ah p0.Schema.Lists),.d (Aj 7 Al p0.Schema.Columns),.d (Aj 1 (Aj 1 (D.int .i64)) p0.Rows),.d (Aj 1 (D.int .i64) p0.Gone),.d (.int .i64 p0.Version)],1),(8,.var [.d (.str ByteArray.empty),.d (.int .i64 0),.d (.nil 2),.d (.nil 1)],1),(11,.var [.d (.str p1.Project),.d (.int .i64 p0.Version),.sl 42 1,.d (Aj 1 (Aj 1 (D.int .i64)) c11_3_1)],1),(42,.row 2 85 (List.map An p2),1),(69,.row 1 3 (List.map (D.int .i64) p.2),1)]) Ai fun _ _ ⟨v16_2,b69_2⟩ h=>?_
  simp only [II] at h
  refine AH h (fun h=>?_) fun h=>?_
  ·conv=>whnf
   refine z13 ?_
   refine AJ (f:=An) h fun x81 _ h=>?_
   refine AJ (f:=An) h fun x86 _ h=>?_
   refine AJ (f:=An) h fun x92 _ h=>?_
   refine AJ (f:=(D.int .i64)) h fun x95 _ h=>?_
   conv=>whnf
   refine Ag h fun x97 hx97 h=>?_
   refine Ak (D9 _ _ _ _ _ hx97) ?_
   exact z55
  conv=>whnf
  refine Ag h fun x103 hx103 h=>?_
  refine Ak (Kf _ _ _ hx103) ?_
  exact z19
 conv=>whnf
 refine ⟨.inl ?_⟩
 exact z60
theorem XO (p0:Bd) (R:(List Int)) (h:LM p0 = some R):Aw Tryz.prog 10 [.d (NC p0)] (.d (Aj 1 (D.int .i64) R)):=by
 refine DY [6] Tryz.func10 (by kernel_rfl) ?_
 unfold LM at h
 refine Th {p:(List Int) // JI p0 p = some R} (fun p=>B0 44 [(1,.ptr 1 1 0),(3,.d (Aj 1 (D.int .i64) p.1))] [(1,.var [.d (.int .i64 p0.Version),.d (Aj 1 (D.int .i64) p0.Gone),.d (Aj 1 (Aj 1 (D.int .i64)) p0.Rows)],1)]) ?_ fun p=>?_
 ·conv=>whnf
  refine z5 h (fun p=>B0 44 [(1,.ptr 1 1 0),(3,.d (Aj 1 (D.int .i64) p.1)),(4,.d (.int .i64 p.2))] [(1,.var [.d (.int .i64 p0.Version),.d (Aj 1 (D.int .i64) p0.Gone),.d (Aj 1 (Aj 1 (D.int .i64)) p0.Rows)],1)]) Ai fun _ _ ⟨v3_1,v4_1⟩ h=>?_
  simp only [JG] at h
  refine AH h (fun h=>?_) fun h=>?_
  ·refine AJ (f:=(D.int .i64)) h fun x17 _ h=>?_
   conv=>whnf
   refine Ag h fun x19 hx19 h=>?_
   refine Ak (Ph _ _ _ hx19) ?_
   exact z19
  conv=>whnf
  exact ⟨⟨_,h⟩,Ai⟩
 obtain ⟨j3_1,h⟩:=p
 simp only [JI] at h
 conv=>whnf
 refine z5 h (fun p=>B0 44 [(1,.ptr 1 1 0),(3,.d (Aj 1 (D.int .i64) p.1)),(5,.d (.int .i64 p.2))] [(1,.var [.d (.int .i64 p0.Version),.d (Aj 1 (D.int .i64) p0.Gone),.d (Aj 1 (Aj 1 (D.int .i64)) p0.Rows)],1)]) Ai fun _ _ ⟨v3_2,v5_2⟩ h=>?_
 simp only [JH] at h
 refine AQ h fun h=>?_
 refine AJ (f:=(Aj 1 (D.int .i64))) h fun x30 _ h=>?_
 refine AH h (fun h=>?_) fun h=>?_
 ·refine AJ (f:=(Aj 1 (D.int .i64))) h fun x38 _ h=>?_
  refine AJ (f:=(D.int .i64)) h fun x40 _ h=>?_
  conv=>whnf
  refine Ag h fun x42 hx42 h=>?_
  refine Ak (Ph _ _ _ hx42) ?_
  exact z19
 exact z19
theorem Oj (p0:(List (List Int))) (R:Bool) (h:FM p0 = some R):Aw Tryz.prog 31 [.d (Aj 1 (Aj 1 (D.int .i64)) p0)] (.d (.bool R)):=by
 refine BA Tryz.func31 ?_
 unfold FM at h
 conv=>whnf
 refine z5 h (fun p=>B0 36 [(0,.d (Aj 1 (Aj 1 (D.int .i64)) p0)),(3,.d (.int .i64 p))] []) Ai fun _ _ v3_1 h=>?_
 simp only [GM] at h
 refine AQ h fun h=>?_
 conv=>whnf
 refine z13 ?_
 refine AJ (f:=(Aj 1 (D.int .i64))) h fun x12 _ h=>?_
 refine Am h fun h=>?_
 refine AH h (fun h=>?_) fun h=>?_
 ·refine AJ (f:=(Aj 1 (D.int .i64))) h fun x22 _ h=>?_
  refine AJ (f:=(D.int .i64)) h fun x24 _ h=>?_
  refine AJ (f:=(Aj 1 (D.int .i64))) h fun x29 _ h=>?_
  refine AJ (f:=(D.int .i64)) h fun x31 _ h=>?_
  exact z18
 exact z42
theorem SF (p0:(List (List Int))) (p1:Int) (R:Int) (h:HN p0 p1 = some R):Aw Tryz.prog 32 [.d (Aj 1 (Aj 1 (D.int .i64)) p0),.d (.int .i64 p1)] (.d (.int .i64 R)):=by
 refine BA Tryz.func32 ?_
 unfold HN at h
 conv=>whnf
 refine z5 h (fun p=>B0 21 [(0,.d (Aj 1 (Aj 1 (D.int .i64)) p0)),(1,.d (.int .i64 p1)),(5,.d (.int .i64 p))] []) Ai fun _ _ v5_1 h=>?_
 simp only [JJ] at h
 refine AQ h fun h=>?_
 refine AJ (f:=(Aj 1 (D.int .i64))) h fun x14 _ h=>?_
 refine AJ (f:=(D.int .i64)) h fun x16 _ h=>?_
 exact z18
theorem Wi (p0:A0) (p1:Bd) (R:(A0 × Int)) (h:Kj p0 p1 = some R):Aw Tryz.prog 11 [.d (HS p0),.d (NC p1)] (.tup [.d (HS R.1),.d (.int .i64 R.2)]):=by
 refine DY [3,8,13,18,23] Tryz.func11 (by kernel_rfl) ?_
 unfold Kj at h
 refine Th {p:Unit // IQ p1 p0 = some R} (fun p=>B0 149 [(2,.ptr 2 1 0),(3,.ptr 3 1 0),(4,.ptr 4 1 0)] [(2,.var [.d (.str p0.Project),.d (.int .i64 p0.Version),.d (Aj 2 An p0.Picks),.d (Aj 1 (Aj 1 (D.int .i64)) p0.Rows)],1),(3,.var [.d (.int .i64 p1.Version),.d (Aj 1 (D.int .i64) p1.Gone),.d (Aj 1 (Aj 1 (D.int .i64)) p1.Rows)],1),(4,.var [.d (.str ByteArray.empty),.d (.int .i64 0),.d (.nil 2),.d (.nil 1)],1)]) ?_ fun p=>?_
 ·conv=>whnf
  refine Ag h fun x15 hx15 h=>?_
  refine Ak (Oj _ _ hx15) ?_
  refine Am h fun h=>?_
  refine Ag h fun x20 hx20 h=>?_
  refine Ak (Oj _ _ hx20) ?_
  exact z52
 obtain ⟨_,h⟩:=p
 simp only [IQ] at h
 refine Th {p:Unit // Gv p1 p0 = some R} (fun p=>B0 149 [(2,.ptr 2 1 0),(3,.ptr 3 1 0),(4,.ptr 4 1 0)] [(2,.var [.d (.str p0.Project),.d (.int .i64 p0.Version),.d (Aj 2 An p0.Picks),.d (Aj 1 (Aj 1 (D.int .i64)) p0.Rows)],1),(3,.var [.d (.int .i64 p1.Version),.d (Aj 1 (D.int .i64) p1.Gone),.d (Aj 1 (Aj 1 (D.int .i64)) p1.Rows)],1),(4,.var [.d (.str ByteArray.empty),.d (.int .i64 0),.d (.nil 2),.d (.nil 1)],1)]) ?_ fun p=>?_
 ·conv=>whnf
  refine z5 h (fun p=>B0 149 [(2,.ptr 2 1 0),(3,.ptr 3 1 0),(4,.ptr 4 1 0),(6,.d (.int .i64 p))] [(2,.var [.d (.str p0.Project),.d (.int .i64 p0.Version),.d (Aj 2 An p0.Picks),.d (Aj 1 (Aj 1 (D.int .i64)) p0.Rows)],1),(3,.var [.d (.int .i64 p1.Version),.d (Aj 1 (D.int .i64) p1.Gone),.d (Aj 1 (Aj 1 (D.int .i64)) p1.Rows)],1),(4,.var [.d (.str ByteArray.empty),.d (.int .i64 0),.d (.nil 2),.d (.nil 1)],1)]) Ai fun _ _ v6_1 h=>?_
  simp only [Gu] at h
  refine AH h (fun h=>?_) fun h=>?_
  ·conv=>whnf
   refine z13 ?_
   refine AJ (f:=(D.int .i64)) h fun x34 _ h=>?_
   refine AJ (f:=(D.int .i64)) h fun x40 _ h=>?_
   exact z18
  exact z57
 obtain ⟨_,h⟩:=p
 simp only [Gv] at h
 refine Th {p:Unit // IR p1 p0 = some R} (fun p=>B0 149 [(2,.ptr 2 1 0),(3,.ptr 3 1 0),(4,.ptr 4 1 0)] [(2,.var [.d (.str p0.Project),.d (.int .i64 p0.Version),.d (Aj 2 An p0.Picks),.d (Aj 1 (Aj 1 (D.int .i64)) p0.Rows)],1),(3,.var [.d (.int .i64 p1.Version),.d (Aj 1 (D.int .i64) p1.Gone),.d (Aj 1 (Aj 1 (D.int .i64)) p1.Rows)],1),(4,.var [.d (.str ByteArray.empty),.d (.int .i64 0),.d (.nil 2),.d (.nil 1)],1)]) ?_ fun p=>?_
 ·conv=>whnf
  refine z5 h (fun p=>B0 149 [(2,.ptr 2 1 0),(3,.ptr 3 1 0),(4,.ptr 4 1 0),(7,.d (.int .i64 p))] [(2,.var [.d (.str p0.Project),.d (.int .i64 p0.Version),.d (Aj 2 An p0.Picks),.d (Aj 1 (Aj 1 (D.int .i64)) p0.Rows)],1),(3,.var [.d (.int .i64 p1.Version),.d (Aj 1 (D.int .i64) p1.Gone),.d (Aj 1 (Aj 1 (D.int .i64)) p1.Rows)],1),(4,.var [.d (.str ByteArray.empty),.d (.int .i64 0),.d (.nil 2),.d (.nil 1)],1)]) Ai fun _ _ v7_2 h=>?_
  simp only [IK] at h
  refine AH h (fun h=>?_) fun h=>?_
  ·conv=>whnf
   refine z13 ?_
   refine AJ (f:=(Aj 1 (D.int .i64))) h fun x54 _ h=>?_
   exact z18
  exact z57
 obtain ⟨_,h⟩:=p
 simp only [IR] at h
 refine Th {p:Unit // IS p1 p0 = some R} (fun p=>B0 149 [(2,.ptr 2 1 0),(3,.ptr 3 1 0),(4,.ptr 4 1 0)] [(2,.var [.d (.str p0.Project),.d (.int .i64 p0.Version),.d (Aj 2 An p0.Picks),.d (Aj 1 (Aj 1 (D.int .i64)) p0.Rows)],1),(3,.var [.d (.int .i64 p1.Version),.d (Aj 1 (D.int .i64) p1.Gone),.d (Aj 1 (Aj 1 (D.int .i64)) p1.Rows)],1),(4,.var [.d (.str ByteArray.empty),.d (.int .i64 0),.d (.nil 2),.d (.nil 1)],1)]) ?_ fun p=>?_
 ·conv=>whnf
  refine z5 h (fun p=>B0 149 [(2,.ptr 2 1 0),(3,.ptr 3 1 0),(4,.ptr 4 1 0),(8,.d (.int .i64 p))] [(2,.var [.d (.str p0.Project),.d (.int .i64 p0.Version),.d (Aj 2 An p0.Picks),.d (Aj 1 (Aj 1 (D.int .i64)) p0.Rows)],1),(3,.var [.d (.int .i64 p1.Version),.d (Aj 1 (D.int .i64) p1.Gone),.d (Aj 1 (Aj 1 (D.int .i64)) p1.Rows)],1),(4,.var [.d (.str ByteArray.empty),.d (.int .i64 0),.d (.nil 2),.d (.nil 1)],1)]) Ai fun _ _ v8_3 h=>?_
  simp only [IL] at h
  refine AH h (fun h=>?_) fun h=>?_
  ·conv=>whnf
   refine z13 ?_
   refine AJ (f:=(D.int .i64)) h fun x75 _ h=>?_
   conv=>whnf
   refine Ag h fun x77 hx77 h=>?_
   refine Ak (SF _ _ _ hx77) ?_
   exact z18
  exact z57
 obtain ⟨_,h⟩:=p
 simp only [IS] at h
 refine Th {p:Unit // IT p0 p1 = some R} (fun p=>B0 149 [(2,.ptr 2 1 0),(3,.ptr 3 1 0),(4,.ptr 4 1 0)] [(2,.var [.d (.str p0.Project),.d (.int .i64 p0.Version),.d (Aj 2 An p0.Picks),.d (Aj 1 (Aj 1 (D.int .i64)) p0.Rows)],1),(3,.var [.d (.int .i64 p1.Version),.d (Aj 1 (D.int .i64) p1.Gone),.d (Aj 1 (Aj 1 (D.int .i64)) p1.Rows)],1),(4,.var [.d (.str ByteArray.empty),.d (.int .i64 0),.d (.nil 2),.d (.nil 1)],1)]) ?_ fun p=>?_
 ·conv=>whnf
  refine z5 h (fun p=>B0 149 [(2,.ptr 2 1 0),(3,.ptr 3 1 0),(4,.ptr 4 1 0),(9,.d (.int .i64 p))] [(2,.var [.d (.str p0.Project),.d (.int .i64 p0.Version),.d (Aj 2 An p0.Picks),.d (Aj 1 (Aj 1 (D.int .i64)) p0.Rows)],1),(3,.var [.d (.int .i64 p1.Version),.d (Aj 1 (D.int .i64) p1.Gone),.d (Aj 1 (Aj 1 (D.int .i64)) p1.Rows)],1),(4,.var [.d (.str ByteArray.empty),.d (.int .i64 0),.d (.nil 2),.d (.nil 1)],1)]) Ai fun _ _ v9_4 h=>?_
  simp only [IM] at h
  refine AH h (fun h=>?_) fun h=>?_
  ·conv=>whnf
   refine z13 ?_
   refine AJ (f:=(D.int .i64)) h fun x92 _ h=>?_
   conv=>whnf
   refine Ag h fun x94 hx94 h=>?_
   refine Ak (SF _ _ _ hx94) ?_
   exact z18
  exact z57
 obtain ⟨_,h⟩:=p
 simp only [IT] at h
 conv=>whnf
 refine A7 h fun P5 i5 h=>?_
 refine WI [(10,3,130,30)] {p:Nat × (Int × (List (List Int))) // P5 p.1 p.2 = some R} (fun p=>B0 149 [(2,.ptr 2 1 0),(3,.ptr 3 1 0),(4,.ptr 4 1 0),(10,.ptr 10 1 0),(11,.d (.int .i64 p.1.2.1))] [(2,.var [.d (.str p0.Project),.d (.int .i64 p0.Version),.d (Aj 2 An p0.Picks),.d (Aj 1 (Aj 1 (D.int .i64)) p0.Rows)],1),(3,.var [.d (.int .i64 p1.Version),.d (Aj 1 (D.int .i64) p1.Gone),.d (Aj 1 (Aj 1 (D.int .i64)) p1.Rows)],1),(4,.var [.d (.str ByteArray.empty),.d (.int .i64 0),.d (.nil 2),.d (.nil 1)],1),(10,.var [.d (.str p0.Project),.d (.int .i64 p1.Version),.d (Aj 2 An p0.Picks),.sl 130 1],1),(130,.row 1 30 (List.map (Aj 1 (D.int .i64)) p.1.2.2),1)]) (fun p=>p.1.1) ⟨(_,(_,_)),h⟩ ?_ fun p=>?_
 ·conv=>whnf
  exact eW
 obtain ⟨⟨k5,⟨v11_5,b130_5⟩⟩,h⟩:=p
 obtain ⟨k5,rfl,h⟩:=i5 _ _ h
 simp only [IN] at h
 refine AH h (fun h=>?_) fun h=>?_
 ·conv=>whnf
  refine z13 ?_
  refine AJ (f:=(Aj 1 (D.int .i64))) h fun x116 _ h=>?_
  refine AJ (f:=(D.int .i64)) h fun x118 _ h=>?_
  conv=>whnf
  refine Ag h fun x120 hx120 h=>?_
  refine Ak (Gn _ _ _ hx120) ?_
  refine AH h (fun h=>?_) fun h=>?_
  ·conv=>whnf
   refine z13 ?_
   refine AJ (f:=(Aj 1 (D.int .i64))) h fun x127 _ h=>?_
   conv=>whnf
   exact z33
  exact z19
 conv=>whnf
 try simp only [Dj] at h
 refine z5 h (fun p=>B0 149 [(3,.ptr 3 1 0),(4,.ptr 4 1 0),(10,.ptr 10 1 0),(12,.d (.int .i64 p.1))] [(3,.var [.d (.int .i64 p1.Version),.d (Aj 1 (D.int .i64) p1.Gone),.d (Aj 1 (Aj 1 (D.int .i64)) p1.Rows)],1),(4,.var [.d (.str ByteArray.empty),.d (.int .i64 0),.d (.nil 2),.d (.nil 1)],1),(10,.var [.d (.str p0.Project),.d (.int .i64 p1.Version),.d (Aj 2 An p0.Picks),.d (Aj 1 (Aj 1 (D.int .i64)) p.2)],1)]) Ai fun _ _ ⟨v12_6,c10_3_6⟩ h=>?_
 simp only [IP] at h
 refine AH h (fun h=>?_) fun h=>?_
 ·conv=>whnf
  refine z13 ?_
  refine AJ (f:=(Aj 1 (D.int .i64))) h fun x144 _ h=>?_
  conv=>whnf
  refine Ag h fun x146 hx146 h=>?_
  refine Ak (Kf _ _ _ hx146) ?_
  exact z19
 conv=>whnf
 try simp only [Dj] at h
 exact z60
theorem XP (p0:(List AL)) (p1:(List AL)) (R:Bool) (h:Ry p0 p1 = some R):Aw Tryz.prog 35 [.d (Aj 2 AX p0),.d (Aj 2 AX p1)] (.d (.bool R)):=by
 refine BA Tryz.func35 ?_
 unfold Ry at h
 refine Am h fun h=>?_
 conv=>whnf
 refine z5 h (fun p=>B0 71 [(0,.d (Aj 2 AX p0)),(1,.d (Aj 2 AX p1)),(13,.d (.int .i64 ((p0.length:Nat):Int))),(14,.d (.int .i64 p))] []) Ai fun _ _ v14_1 h=>?_
 simp only [QJ] at h
 refine AQ h fun h=>?_
 conv=>whnf
 refine z13 ?_
 refine AJ (f:=AX) h fun x19 _ h=>?_
 refine AJ (f:=AX) h fun x24 _ h=>?_
 refine Am h fun h=>?_
 refine AJ (f:=AX) h fun x31 _ h=>?_
 refine AJ (f:=AX) h fun x37 _ h=>?_
 refine Am h fun h=>?_
 refine AJ (f:=AX) h fun x45 _ h=>?_
 conv=>whnf
 refine z5 h (fun p=>B0 71 [(0,.d (Aj 2 AX p0)),(1,.d (Aj 2 AX p1)),(5,.d (.int .i64 v14_1)),(13,.d (.int .i64 ((p0.length:Nat):Int))),(14,.d (.int .i64 v14_1)),(48,.d (.int .i64 ((x45.Keys.length:Nat):Int))),(49,.d (.int .i64 p))] []) Ai fun _ _ v49_2 h=>?_
 simp only [QK] at h
 refine AH h (fun h=>?_) fun h=>?_
 ·conv=>whnf
  refine z13 ?_
  refine AJ (f:=AX) h fun x54 _ h=>?_
  refine AJ (f:=(D.int .i64)) h fun x58 _ h=>?_
  refine AJ (f:=AX) h fun x62 _ h=>?_
  refine AJ (f:=(D.int .i64)) h fun x66 _ h=>?_
  exact z18
 conv=>whnf
 exact z42
end Go.Proofs.YtlpkhgkoihlghaaGreatDoor.P
