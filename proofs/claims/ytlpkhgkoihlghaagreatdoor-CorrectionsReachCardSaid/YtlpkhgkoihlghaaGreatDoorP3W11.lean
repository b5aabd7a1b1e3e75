/- P3W11 -/
import Derived.Test.YtlpkhgkoihlghaaGreatDoorP3W10
set_option linter.unusedSimpArgs false
namespace Go.Proofs.YtlpkhgkoihlghaaGreatDoor.P
open Go.Abs Go.Proofs
set_option maxRecDepth 100000
set_option maxHeartbeats 4000000
set_option linter.unusedVariables false
theorem QG (d:Nat) (p0:Af) (p1:A6) (R:Int) (h:Ia d p0 p1 = some R):Aw Tryz.prog 65 [.d (Ay p0),.d (BF p1)] (.d (.int .i64 R)):=by
 refine DY [6] Tryz.func65 (by kernel_rfl) ?_
 unfold Ia at h
 conv=>whnf
 refine Ag h fun x12 hx12 h=>?_
 refine Ak (D1 _ _ hx12) ?_
 refine Am h fun h=>?_
 refine Th {p:Unit // ID d p0 p1 = some R} (fun p=>B0 110 [(2,.ptr 2 1 0),(3,.ptr 3 1 0)] [(2,.var [.d (Aj 2 Ah p0.Lists),.d (Aj 7 Al p0.Columns)],1),(3,.var [.d (.str p1.Project),.d (.str p1.Source),.d (.int .i64 p1.Cohort.Op),.d (.int .i64 p1.Cohort.Column),.d (.int .i64 p1.Cohort.Code),.d (.int .i64 p1.Cohort.Low),.d (.int .i64 p1.Cohort.High),.d (Aj 6 Az p1.Cohort.Kids),.d (.int .i64 p1.Sample.Part),.d (.int .i64 p1.Sample.Of),.d (.int .i64 p1.Sample.Seed),.d (Aj 17 AA p1.Questions)],1)]) ?_ fun p=>?_
 ·conv=>whnf
  refine Ag h fun x18 hx18 h=>?_
  refine Ak (GJ _ _ hx18) ?_
  refine Am h fun h=>?_
  refine Ag h fun x23 hx23 h=>?_
  refine Ak (GJ _ _ hx23) ?_
  exact z52
 obtain ⟨_,h⟩:=p
 simp only [ID] at h
 conv=>whnf
 refine Ag h fun x29 hx29 h=>?_
 refine Ak (Hm _ _ _ _ hx29) ?_
 refine Am h fun h=>?_
 refine Am h fun h=>?_
 refine Am h fun h=>?_
 conv=>whnf
 refine z5 h (fun p=>B0 110 [(2,.ptr 2 1 0),(3,.ptr 3 1 0),(8,.d (.int .i64 p))] [(2,.var [.d (Aj 2 Ah p0.Lists),.d (Aj 7 Al p0.Columns)],1),(3,.var [.d (.str p1.Project),.d (.str p1.Source),.d (.int .i64 p1.Cohort.Op),.d (.int .i64 p1.Cohort.Column),.d (.int .i64 p1.Cohort.Code),.d (.int .i64 p1.Cohort.Low),.d (.int .i64 p1.Cohort.High),.d (Aj 6 Az p1.Cohort.Kids),.d (.int .i64 p1.Sample.Part),.d (.int .i64 p1.Sample.Of),.d (.int .i64 p1.Sample.Seed),.d (Aj 17 AA p1.Questions)],1)]) Ai fun _ _ v8_1 h=>?_
 simp only [IC] at h
 refine AH h (fun h=>?_) fun h=>?_
 ·conv=>whnf
  refine z13 ?_
  refine AJ (f:=AA) h fun x86 _ h=>?_
  conv=>whnf
  refine Ag h fun x88 hx88 h=>?_
  refine Ak (Jw _ _ _ _ hx88) ?_
  refine Am h fun h=>?_
  conv=>whnf
  refine z5 h (fun p=>B0 110 [(2,.ptr 2 1 0),(3,.ptr 3 1 0),(8,.d (.int .i64 v8_1)),(10,.d (.int .i64 p))] [(2,.var [.d (Aj 2 Ah p0.Lists),.d (Aj 7 Al p0.Columns)],1),(3,.var [.d (.str p1.Project),.d (.str p1.Source),.d (.int .i64 p1.Cohort.Op),.d (.int .i64 p1.Cohort.Column),.d (.int .i64 p1.Cohort.Code),.d (.int .i64 p1.Cohort.Low),.d (.int .i64 p1.Cohort.High),.d (Aj 6 Az p1.Cohort.Kids),.d (.int .i64 p1.Sample.Part),.d (.int .i64 p1.Sample.Of),.d (.int .i64 p1.Sample.Seed),.d (Aj 17 AA p1.Questions)],1)]) Ai fun _ _ v10_2 h=>?_
  simp only [LI] at h
  refine AH h (fun h=>?_) fun h=>?_
  ·conv=>whnf
   refine z13 ?_
   refine AJ (f:=AA) h fun x100 _ h=>?_
   refine AJ (f:=AA) h fun x106 _ h=>?_
   exact z18
  conv=>whnf
  try simp only [ref08_Check_k1] at h
  exact z42
 conv=>whnf
 try simp only [ref08_Check_k1] at h
 exact z60
theorem Q7 (p0:Af) (p1:(List Ap)) (R:Int) (h:HX p0 p1 = some R):Aw Tryz.prog 66 [.d (Ay p0),.d (Aj 2 An p1)] (.d (.int .i64 R)):=by
 refine BA Tryz.func66 ?_
 unfold HX at h
 conv=>whnf
 refine Ag h fun x9 hx9 h=>?_
 refine Ak (D1 _ _ hx9) ?_
 refine Am h fun h=>?_
 conv=>whnf
 refine z5 h (fun p=>B0 44 [(1,.d (Aj 2 An p1)),(2,.ptr 2 1 0),(6,.d (.int .i64 p))] [(2,.var [.d (Aj 2 Ah p0.Lists),.d (Aj 7 Al p0.Columns)],1)]) Ai fun _ _ v6_1 h=>?_
 simp only [I7] at h
 refine AQ h fun h=>?_
 conv=>whnf
 refine z13 ?_
 refine AJ (f:=An) h fun x22 _ h=>?_
 conv=>whnf
 refine Ag h fun x24 hx24 h=>?_
 refine Ak (SD _ _ _ hx24) ?_
 refine Am h fun h=>?_
 conv=>whnf
 refine z13 ?_
 refine AH h (fun h=>?_) fun h=>?_
 ·refine AJ (f:=An) h fun x33 _ h=>?_
  refine AJ (f:=An) h fun x39 _ h=>?_
  exact z18
 exact z42
theorem Vn (p0:(List Ap)) (p1:(List Ap)) (R:Bool) (h:NL p0 p1 = some R):Aw Tryz.prog 123 [.d (Aj 2 An p0),.d (Aj 2 An p1)] (.d (.bool R)):=by
 refine BA Tryz.func123 ?_
 unfold NL at h
 conv=>whnf
 refine z5 h (fun p=>B0 49 [(0,.d (Aj 2 An p0)),(1,.d (Aj 2 An p1)),(5,.d (.int .i64 p))] []) Ai fun _ _ v5_1 h=>?_
 simp only [Oh] at h
 refine AQ h fun h=>?_
 conv=>whnf
 refine z5 h (fun p=>B0 49 [(0,.d (Aj 2 An p0)),(1,.d (Aj 2 An p1)),(5,.d (.int .i64 v5_1)),(6,.d (.bool p.1)),(7,.d (.int .i64 p.2))] []) Ai fun _ _ ⟨v6_2,v7_2⟩ h=>?_
 simp only [Oi] at h
 refine AH h (fun h=>?_) fun h=>?_
 ·conv=>whnf
  refine z13 ?_
  refine AH h (fun h=>?_) fun h=>?_
  ·exact Bn ⟨(_,(_,_)),h⟩ Ai
  refine AJ (f:=An) h fun x24 _ h=>?_
  refine AJ (f:=An) h fun x29 _ h=>?_
  refine AH h (fun h=>?_) fun h=>?_
  ·refine AJ (f:=An) h fun x36 _ h=>?_
   refine AJ (f:=An) h fun x41 _ h=>?_
   exact z19
  exact Bn ⟨(_,(_,_)),h⟩ Ai
 exact z18
theorem JC (p0:(List Ap)) (p1:Int) (p2:Int) (R:(List Ap)) (h:HZ p0 p1 p2 = some R):Aw Tryz.prog 187 [.d (Aj 2 An p0),.d (.int .i64 p1),.d (.int .i64 p2)] (.d (Aj 2 An R)):=by
 refine BA Tryz.func187 ?_
 unfold HZ at h
 conv=>whnf
 refine z5 h (fun p=>B0 59 [(0,.d (Aj 2 An p0)),(1,.d (.int .i64 p1)),(2,.d (.int .i64 p2)),(7,.sl 7 1),(8,.d (.bool p.1)),(9,.d (.int .i64 p.2.1))] [(7,.row 2 85 (List.map An p.2.2),1)]) Ai fun _ _ ⟨v8_1,v9_1,b7_1⟩ h=>?_
 simp only [Po] at h
 refine AH h (fun h=>?_) fun h=>?_
 ·refine AJ (f:=An) h fun x21 _ h=>?_
  refine AH h (fun h=>?_) fun h=>?_
  ·conv=>whnf
   refine C4 h fun hr h=>?_
   refine z6 ?_
   try rw [CY]
   refine AH h (fun h=>?_) fun h=>?_
   ·conv=>whnf
    exact z40
   conv=>whnf
   exact z40
  refine AH h (fun h=>?_) fun h=>?_
  ·conv=>whnf
   exact z40
  conv=>whnf
  exact z40
 conv=>whnf
 try simp only [Pp] at h
 refine AH h (fun h=>?_) fun h=>?_
 ·conv=>whnf
  refine C4 h fun hr h=>?_
  refine z6 ?_
  try rw [CY]
  exact z35
 exact z35
theorem Vm (d:Nat) (self_ref05_Atoms:(As→Option (List As))) (ih_ref05_Atoms:∀ (p0:As) (R:(List As)) ,self_ref05_Atoms p0 = some R→Aw Tryz.prog 245 [.d (Ac p0)] (.d (Aj 6 Az R))) (p0:As) (R:(List As)) (h:MF d self_ref05_Atoms p0 = some R):Aw Tryz.prog 245 [.d (Ac p0)] (.d (Aj 6 Az R)):=by
 refine BA Tryz.func245 ?_
 unfold MF at h
 refine AH h (fun h=>?_) fun h=>?_
 ·conv=>whnf
  exact z30
 conv=>whnf
 refine z5 h (fun p=>B0 36 [(1,.ptr 1 1 0),(3,.sl 3 1),(4,.d (.int .i64 p.1))] [(1,.var [.d (.int .i64 p0.Op),.d (.int .i64 p0.Column),.d (.int .i64 p0.Code),.d (.int .i64 p0.Low),.d (.int .i64 p0.High),.d (Aj 6 Az p0.Kids)],1),(3,.row 6 36 (List.map Az p.2),1)]) Ut fun _ _ ⟨v4_1,b3_1⟩ h=>?_
 simp only [Pk] at h
 refine AH h (fun h=>?_) fun h=>?_
 ·refine AJ (f:=Az) h fun x31 _ h=>?_
  rw [Aa x31]
  conv=>whnf
  refine Ag h fun x33 hx33 h=>?_
  first | refine Ak (ih_ref05_Atoms _ _ hx33) ?_ | (simp only [List.length_map]; refine Ak (ih_ref05_Atoms _ _ hx33) ?_)
  conv=>whnf
  refine C4 h fun hr h=>?_
  refine z6 ?_
  try rw [fh]
  conv=>whnf
  exact Bn ⟨(_,(_,_)),h⟩ Ut
 conv=>whnf
 exact z30
theorem Pl:∀ d:Nat,(∀ (p0:As) (R:(List As)) ,Mk d p0 = some R→Aw Tryz.prog 245 [.d (Ac p0)] (.d (Aj 6 Az R)))
 | 0=>by
  exact z37
 | d + 1=>by
  have ih:=Pl d
  exact Vm d _ ih
theorem VU (d:Nat):∀ (p0:As) (R:(List As)) ,Mk d p0 = some R→Aw Tryz.prog 245 [.d (Ac p0)] (.d (Aj 6 Az R)):=Pl d
theorem Vk (p0:Ax) (p1:Int) (p2:Int) (R:Int) (h:LC p0 p1 p2 = some R):Aw Tryz.prog 74 [.d (Ah p0),.d (.int .i64 p1),.d (.int .i64 p2)] (.d (.int .i64 R)):=by
 refine BA Tryz.func74 ?_
 unfold LC at h
 conv=>whnf
 refine Ag h fun x8 hx8 h=>?_
 refine Ak (Hi _ _ hx8) ?_
 refine Am h fun h=>?_
 refine Ag h fun x29 hx29 h=>?_
 refine Ak (Dd _ _ _ hx29) ?_
 refine Am h fun h=>?_
 conv=>whnf
 refine z5 h (fun p=>B0 44 [(1,.d (.int .i64 p)),(2,.d (.int .i64 p2)),(3,.ptr 3 1 0)] [(3,.var [.d (.str p0.Name),.d (Aj 2 AW p0.Codes)],1)]) Ai fun _ _ v1_1 h=>?_
 simp only [TP] at h
 conv=>whnf
 refine Ag h fun x34 hx34 h=>?_
 refine Ak (Dd _ _ _ hx34) ?_
 refine AQ h fun h=>?_
 refine AJ (f:=AW) h fun x40 _ h=>?_
 conv=>whnf
 exact z42
theorem Hj (p0:A3) (p1:Int) (R:Int) (h:E1 p0 p1 = some R):Aw Tryz.prog 75 [.d (Al p0),.d (.int .i64 p1)] (.d (.int .i64 R)):=by
 refine BA Tryz.func75 ?_
 unfold E1 at h
 refine AJ (f:=(D.int .i64)) h fun x12 _ h=>?_
 exact z60
theorem MD (p0:Int) (p1:Int) (R:Int) (h:Gq p0 p1 = some R):Aw Tryz.prog 76 [.d (.int .i64 p0),.d (.int .i64 p1)] (.d (.int .i64 R)):=by
 refine BA Tryz.func76 ?_
 unfold Gq at h
 conv=>whnf
 refine C4 h fun hr h=>?_
 refine z12 ?_
 exact z49
theorem D9 (p0:Af) (p1:Int) (p2:Int) (p3:Int) (R:Int) (h:Cz p0 p1 p2 p3 = some R):Aw Tryz.prog 28 [.d (Ay p0),.d (.int .i64 p1),.d (.int .i64 p2),.d (.int .i64 p3)] (.d (.int .i64 R)):=by
 refine BA Tryz.func28 ?_
 unfold Cz at h
 conv=>whnf
 refine Ag h fun x14 hx14 h=>?_
 refine Ak (DC _ _ _ hx14) ?_
 conv=>whnf
 refine Ag h fun x15 hx15 h=>?_
 refine Ak (CU _ _ _ _ hx15) ?_
 refine Am h fun h=>?_
 refine AJ (f:=Al) h fun x20 _ h=>?_
 refine AH h (fun h=>?_) fun h=>?_
 ·conv=>whnf
  refine Ag h fun x28 hx28 h=>?_
  refine Ak (Q5 _ _ _ _ hx28) ?_
  refine Am h fun h=>?_
  refine AJ (f:=Ah) h fun x34 _ h=>?_
  conv=>whnf
  refine Ag h fun x38 hx38 h=>?_
  refine Ak (Vk _ _ _ _ hx38) ?_
  exact z60
 refine AH h (fun h=>?_) fun h=>?_
 ·refine Ag h fun x43 hx43 h=>?_
  refine Ak (CU _ _ _ _ hx43) ?_
  refine Am h fun h=>?_
  refine Am h fun h=>?_
  refine Am h fun h=>?_
  conv=>whnf
  refine Ag h fun x53 hx53 h=>?_
  refine Ak (Hj _ _ _ hx53) ?_
  conv=>whnf
  refine Ag h fun x56 hx56 h=>?_
  refine Ak (MD _ _ _ hx56) ?_
  exact z60
 refine Am h fun h=>?_
 refine Am h fun h=>?_
 conv=>whnf
 refine Ag h fun x53 hx53 h=>?_
 refine Ak (Hj _ _ _ hx53) ?_
 conv=>whnf
 refine Ag h fun x56 hx56 h=>?_
 refine Ak (MD _ _ _ hx56) ?_
 exact z60
theorem VT (p0:Ax) (p1:Int) (p2:Int) (R:Bool) (h:Pi p0 p1 p2 = some R):Aw Tryz.prog 248 [.d (Ah p0),.d (.int .i64 p1),.d (.int .i64 p2)] (.d (.bool R)):=by
 refine BA Tryz.func248 ?_
 unfold Pi at h
 conv=>whnf
 refine Ag h fun x10 hx10 h=>?_
 refine Ak (MA _ _ _ hx10) ?_
 refine AQ h fun h=>?_
 refine Ag h fun x16 hx16 h=>?_
 refine Ak (MA _ _ _ hx16) ?_
 refine AQ h fun h=>?_
 refine Ag h fun x24 hx24 h=>?_
 refine Ak (Vk _ _ _ _ hx24) ?_
 exact z60
theorem NK (p0:Af) (p1:As) (p2:Int) (R:Int) (h:LF p0 p1 p2 = some R):Aw Tryz.prog 190 [.d (Ay p0),.d (Ac p1),.d (.int .i64 p2)] (.d (.int .i64 R)):=by
 refine BA Tryz.func190 ?_
 unfold LF at h
 refine AH h (fun h=>?_) fun h=>?_
 ·conv=>whnf
  refine z13 ?_
  refine AJ (f:=Al) h fun x18 _ h=>?_
  refine AJ (f:=Ah) h fun x21 _ h=>?_
  conv=>whnf
  refine Ag h fun x26 hx26 h=>?_
  refine Ak (VT _ _ _ _ hx26) ?_
  refine AH h (fun h=>?_) fun h=>?_
  ·exact z17
  exact z17
 refine AH h (fun h=>?_) fun h=>?_
 ·refine AH h (fun h=>?_) fun h=>?_
  ·exact z17
  refine AH h (fun h=>?_) fun h=>?_
  ·exact z17
  exact z17
 refine AH h (fun h=>?_) fun h=>?_
 ·refine AH h (fun h=>?_) fun h=>?_
  ·exact z17
  exact z17
 exact z17
theorem Uh (p0:Af) (p1:As) (p2:Int) (R:Bool) (h:MH p0 p1 p2 = some R):Aw Tryz.prog 246 [.d (Ay p0),.d (Ac p1),.d (.int .i64 p2)] (.d (.bool R)):=by
 refine BA Tryz.func246 ?_
 unfold MH at h
 refine AJ (f:=Al) h fun x18 _ h=>?_
 refine AH h (fun h=>?_) fun h=>?_
 ·conv=>whnf
  refine Ag h fun x26 hx26 h=>?_
  refine Ak (LE _ _ _ hx26) ?_
  conv=>whnf
  refine z5 h (fun p=>B0 140 [(2,.d (.int .i64 p2)),(3,.ptr 3 1 0),(4,.ptr 4 1 0),(8,.d (Aj 1 (D.int .i64) x26)),(9,.d (.int .i64 p))] [(3,.var [.d (Aj 2 Ah p0.Lists),.d (Aj 7 Al p0.Columns)],1),(4,.var [.d (.int .i64 p1.Op),.d (.int .i64 p1.Column),.d (.int .i64 p1.Code),.d (.int .i64 p1.Low),.d (.int .i64 p1.High),.d (Aj 6 Az p1.Kids)],1)]) AZ fun _ _ v9_1 h=>?_
  simp only [Nv] at h
  refine AH h (fun h=>?_) fun h=>?_
  ·conv=>whnf
   refine z5 h (fun p=>B0 140 [(2,.d (.int .i64 p2)),(3,.ptr 3 1 0),(4,.ptr 4 1 0),(8,.d (Aj 1 (D.int .i64) x26)),(9,.d (.int .i64 v9_1)),(10,.d (.int .i64 p))] [(3,.var [.d (Aj 2 Ah p0.Lists),.d (Aj 7 Al p0.Columns)],1),(4,.var [.d (.int .i64 p1.Op),.d (.int .i64 p1.Column),.d (.int .i64 p1.Code),.d (.int .i64 p1.Low),.d (.int .i64 p1.High),.d (Aj 6 Az p1.Kids)],1)]) AZ fun _ _ v10_2 h=>?_
   simp only [Nw] at h
   refine AH h (fun h=>?_) fun h=>?_
   ·conv=>whnf
    refine z13 ?_
    refine AJ (f:=(D.int .i64)) h fun x44 _ h=>?_
    conv=>whnf
    refine Ag h fun x46 hx46 h=>?_
    refine Ak (D9 _ _ _ _ _ hx46) ?_
    refine AJ (f:=(D.int .i64)) h fun x53 _ h=>?_
    conv=>whnf
    refine Ag h fun x55 hx55 h=>?_
    refine Ak (D9 _ _ _ _ _ hx55) ?_
    refine AH h (fun h=>?_) fun h=>?_
    ·refine AJ (f:=(D.int .i64)) h fun x62 _ h=>?_
     conv=>whnf
     refine Ag h fun x64 hx64 h=>?_
     refine Ak (NK _ _ _ _ hx64) ?_
     refine AJ (f:=(D.int .i64)) h fun x69 _ h=>?_
     conv=>whnf
     refine Ag h fun x71 hx71 h=>?_
     refine Ak (NK _ _ _ _ hx71) ?_
     refine AH h (fun h=>?_) fun h=>?_
     ·exact z17
     exact z59
    exact Bn ⟨(_,_),h⟩ AZ
   conv=>whnf
   try simp only [ref05_decides_k1] at h
   exact Bn ⟨(_,_),h⟩ AZ
  conv=>whnf
  try simp only [ref05_decides_k1] at h
  exact z34
 refine AH h (fun h=>?_) fun h=>?_
 ·exact z17
 conv=>whnf
 refine z13 ?_
 refine AH h (fun h=>?_) fun h=>?_
 ·exact z17
 conv=>whnf
 refine Ag h fun x118 hx118 h=>?_
 refine Ak (Hj _ _ _ hx118) ?_
 refine AH h (fun h=>?_) fun h=>?_
 ·refine AH h (fun h=>?_) fun h=>?_
  ·exact z34
  refine C4 h fun hr h=>?_
  refine z12 ?_
  exact z17
 refine C4 h fun hr h=>?_
 refine z12 ?_
 refine AH h (fun h=>?_) fun h=>?_
 ·refine AH h (fun h=>?_) fun h=>?_
  ·exact z34
  refine C4 h fun hr h=>?_
  refine z12 ?_
  exact z17
 exact z34
end Go.Proofs.YtlpkhgkoihlghaaGreatDoor.P
