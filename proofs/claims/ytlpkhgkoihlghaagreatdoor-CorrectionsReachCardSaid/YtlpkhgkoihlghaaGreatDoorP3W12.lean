/- P3W12 -/
import Derived.Test.YtlpkhgkoihlghaaGreatDoorP3W11
set_option linter.unusedSimpArgs false
namespace Go.Proofs.YtlpkhgkoihlghaaGreatDoor.P
open Go.Abs Go.Proofs
set_option maxRecDepth 100000
set_option maxHeartbeats 40000000
set_option linter.unusedVariables false
theorem Q9 (d:Nat) (p0:Af) (p1:As) (R:(List Ap)) (h:HY d p0 p1 = some R):Aw Tryz.prog 186 [.d (Ay p0),.d (Ac p1)] (.d (Aj 2 An R)):=by
 refine BA Tryz.func186 ?_
 unfold HY at h
 conv=>whnf
 refine Ag h fun x11 hx11 h=>?_
 refine Ak (Hm _ _ _ _ hx11) ?_
 refine AH h (fun h=>?_) fun h=>?_
 ·conv=>whnf
  exact z30
 conv=>whnf
 refine Ag h fun x14 hx14 h=>?_
 refine Ak (VU _ _ _ hx14) ?_
 conv=>whnf
 refine z5 h (fun p=>B0 40 [(2,.ptr 2 1 0),(5,.d (Aj 2 An p.1)),(6,.d (Aj 6 Az x14)),(7,.d (.int .i64 p.2))] [(2,.var [.d (Aj 2 Ah p0.Lists),.d (Aj 7 Al p0.Columns)],1)]) AZ fun _ _ ⟨v5_1,v7_1⟩ h=>?_
 simp only [Pm] at h
 refine AH h (fun h=>?_) fun h=>?_
 ·conv=>whnf
  refine z5 h (fun p=>B0 40 [(2,.ptr 2 1 0),(5,.d (Aj 2 An v5_1)),(6,.d (Aj 6 Az x14)),(7,.d (.int .i64 v7_1)),(8,.d (.int .i64 p))] [(2,.var [.d (Aj 2 Ah p0.Lists),.d (Aj 7 Al p0.Columns)],1)]) AZ fun _ _ v8_2 h=>?_
  simp only [Pn] at h
  conv=>whnf
  refine z13 ?_
  refine AJ (f:=Az) h fun x24 _ h=>?_
  rw [Aa x24]
  conv=>whnf
  refine Ag h fun x27 hx27 h=>?_
  refine Ak (Uh _ _ _ _ hx27) ?_
  refine AH h (fun h=>?_) fun h=>?_
  ·exact z59
  conv=>whnf
  try simp only [LH] at h
  refine AJ (f:=Az) h fun x34 _ h=>?_
  rw [Aa x34]
  conv=>whnf
  refine Ag h fun x38 hx38 h=>?_
  refine Ak (JC _ _ _ _ hx38) ?_
  exact z41
 conv=>whnf
 try simp only [LH] at h
 exact z34
theorem Uf (p0:Af) (p1:Int) (p2:Int) (p3:Int) (R:Bool) (h:JA p0 p1 p2 p3 = some R):Aw Tryz.prog 247 [.d (Ay p0),.d (.int .i64 p1),.d (.int .i64 p2),.d (.int .i64 p3)] (.d (.bool R)):=by
 refine BA Tryz.func247 ?_
 unfold JA at h
 refine AJ (f:=Al) h fun x19 _ h=>?_
 refine Am h fun h=>?_
 refine AH h (fun h=>?_) fun h=>?_
 ·conv=>whnf
  refine Ag h fun x33 hx33 h=>?_
  refine Ak (LE _ _ _ hx33) ?_
  conv=>whnf
  refine z5 h (fun p=>B0 121 [(1,.d (.int .i64 p1)),(2,.d (.int .i64 p2)),(3,.d (.int .i64 p3)),(4,.ptr 4 1 0),(10,.d (Aj 1 (D.int .i64) x33)),(11,.d (.int .i64 p))] [(4,.var [.d (Aj 2 Ah p0.Lists),.d (Aj 7 Al p0.Columns)],1)]) Ai fun _ _ v11_1 h=>?_
  simp only [Nq] at h
  refine AH h (fun h=>?_) fun h=>?_
  ·conv=>whnf
   refine z5 h (fun p=>B0 121 [(1,.d (.int .i64 p1)),(2,.d (.int .i64 p2)),(3,.d (.int .i64 p3)),(4,.ptr 4 1 0),(10,.d (Aj 1 (D.int .i64) x33)),(11,.d (.int .i64 v11_1)),(12,.d (.int .i64 p))] [(4,.var [.d (Aj 2 Ah p0.Lists),.d (Aj 7 Al p0.Columns)],1)]) Ai fun _ _ v12_2 h=>?_
   simp only [Nr] at h
   refine AH h (fun h=>?_) fun h=>?_
   ·conv=>whnf
    refine z13 ?_
    refine AJ (f:=(D.int .i64)) h fun x50 _ h=>?_
    conv=>whnf
    refine Ag h fun x52 hx52 h=>?_
    refine Ak (D9 _ _ _ _ _ hx52) ?_
    refine AJ (f:=(D.int .i64)) h fun x58 _ h=>?_
    conv=>whnf
    refine Ag h fun x60 hx60 h=>?_
    refine Ak (D9 _ _ _ _ _ hx60) ?_
    refine AH h (fun h=>?_) fun h=>?_
    ·refine AJ (f:=(D.int .i64)) h fun x68 _ h=>?_
     conv=>whnf
     refine Ag h fun x70 hx70 h=>?_
     refine Ak (D9 _ _ _ _ _ hx70) ?_
     refine AJ (f:=(D.int .i64)) h fun x76 _ h=>?_
     conv=>whnf
     refine Ag h fun x78 hx78 h=>?_
     refine Ak (D9 _ _ _ _ _ hx78) ?_
     exact z18
    exact z42
   conv=>whnf
   try simp only [ref02_divides_k1] at h
   exact z42
  conv=>whnf
  try simp only [ref02_divides_k1] at h
  exact z60
 conv=>whnf
 refine Ag h fun x83 hx83 h=>?_
 refine Ak (Hj _ _ _ hx83) ?_
 conv=>whnf
 refine Ag h fun x87 hx87 h=>?_
 refine Ak (MD _ _ _ hx87) ?_
 refine Am h fun h=>?_
 conv=>whnf
 refine z5 h (fun p=>B0 121 [(2,.d (.int .i64 p2)),(9,.ptr 9 1 0),(13,.d (.int .i64 x83)),(14,.d (.int .i64 p.1)),(15,.d (.int .i64 p.2))] [(9,.var [.d (.str x19.Name),.d (.int .i64 x19.Kind),.d (.int .i64 x19.List_),.d (.int .i64 x19.Low),.d (.int .i64 x19.High),.d (Aj 1 (D.int .i64) x19.Widths),.d (.bool x19.Optional)],1)]) Ai fun _ _ ⟨v14_3,v15_3⟩ h=>?_
 simp only [Ns] at h
 refine AH h (fun h=>?_) fun h=>?_
 ·conv=>whnf
  refine Ag h fun x115 hx115 h=>?_
  refine Ak (Hj _ _ _ hx115) ?_
  conv=>whnf
  refine C4 h fun hr h=>?_
  refine z12 ?_
  refine Am h fun h=>?_
  exact z19
 conv=>whnf
 try simp only [ref02_divides_k1] at h
 exact z60
theorem Q6 (p0:Af) (p1:Int) (p2:Int) (R:Int) (h:HW p0 p1 p2 = some R):Aw Tryz.prog 188 [.d (Ay p0),.d (.int .i64 p1),.d (.int .i64 p2)] (.d (.int .i64 R)):=by
 refine BA Tryz.func188 ?_
 unfold HW at h
 conv=>whnf
 refine Ag h fun x11 hx11 h=>?_
 refine Ak (DC _ _ _ hx11) ?_
 conv=>whnf
 refine Ag h fun x12 hx12 h=>?_
 refine Ak (CU _ _ _ _ hx12) ?_
 refine Am h fun h=>?_
 conv=>whnf
 refine z5 h (fun p=>B0 23 [(1,.d (.int .i64 p1)),(2,.d (.int .i64 p2)),(3,.ptr 3 1 0),(7,.d (.int .i64 p))] [(3,.var [.d (Aj 2 Ah p0.Lists),.d (Aj 7 Al p0.Columns)],1)]) Ai fun _ _ v7_1 h=>?_
 simp only [LD] at h
 conv=>whnf
 refine Ag h fun x18 hx18 h=>?_
 refine Ak (Uf _ _ _ _ _ hx18) ?_
 refine AQ h fun h=>?_
 conv=>whnf
 exact z42
theorem XM (p0:A9) (p1:Int) (R:Bool) (h:NS p0 p1 = some R):Aw Tryz.prog 189 [.d (AA p0),.d (.int .i64 p1)] (.d (.bool R)):=by
 refine BA Tryz.func189 ?_
 unfold NS at h
 refine Am h fun h=>?_
 refine Ag h fun x13 hx13 h=>?_
 refine Ak (Gn _ _ _ hx13) ?_
 exact z60
theorem Wc (d:Nat) (p0:Af) (p1:A9) (R:(List Ap)) (h:Kg d p0 p1 = some R):Aw Tryz.prog 124 [.d (Ay p0),.d (AA p1)] (.d (Aj 2 An R)):=by
 refine DY [10] Tryz.func124 (by kernel_rfl) ?_
 unfold Kg at h
 conv=>whnf
 refine Ag h fun x12 hx12 h=>?_
 refine Ak (Jw _ _ _ _ hx12) ?_
 refine AH h (fun h=>?_) fun h=>?_
 ·exact z35
 conv=>whnf
 refine Ag h fun x17 hx17 h=>?_
 refine Ak (Q9 _ _ _ _ hx17) ?_
 refine Th {p:(List Ap) // Gs p1 p0 p = some R} (fun p=>B0 92 [(2,.ptr 2 1 0),(3,.ptr 3 1 0),(5,.d (Aj 2 An p.1))] [(2,.var [.d (Aj 2 Ah p0.Lists),.d (Aj 7 Al p0.Columns)],1),(3,.var [.d (.str p1.Name),.d (.int .i64 p1.Kind),.d (.int .i64 p1.Filter.Op),.d (.int .i64 p1.Filter.Column),.d (.int .i64 p1.Filter.Code),.d (.int .i64 p1.Filter.Low),.d (.int .i64 p1.Filter.High),.d (Aj 6 Az p1.Filter.Kids),.d (Aj 2 An p1.Dims),.d (.int .i64 p1.Measure),.d (Aj 1 (D.int .i64) p1.Terms),.d (.int .i64 p1.Event.Op),.d (.int .i64 p1.Event.Column),.d (.int .i64 p1.Event.Code),.d (.int .i64 p1.Event.Low),.d (.int .i64 p1.Event.High),.d (Aj 6 Az p1.Event.Kids)],1)]) ?_ fun p=>?_
 ·refine AH h (fun h=>?_) fun h=>?_
  ·conv=>whnf
   refine Ag h fun x24 hx24 h=>?_
   refine Ak (Q9 _ _ _ _ hx24) ?_
   conv=>whnf
   refine z5 h (fun p=>B0 92 [(2,.ptr 2 1 0),(3,.ptr 3 1 0),(5,.d (Aj 2 An p.1)),(6,.d (Aj 2 An x24)),(7,.d (.int .i64 p.2))] [(2,.var [.d (Aj 2 Ah p0.Lists),.d (Aj 7 Al p0.Columns)],1),(3,.var [.d (.str p1.Name),.d (.int .i64 p1.Kind),.d (.int .i64 p1.Filter.Op),.d (.int .i64 p1.Filter.Column),.d (.int .i64 p1.Filter.Code),.d (.int .i64 p1.Filter.Low),.d (.int .i64 p1.Filter.High),.d (Aj 6 Az p1.Filter.Kids),.d (Aj 2 An p1.Dims),.d (.int .i64 p1.Measure),.d (Aj 1 (D.int .i64) p1.Terms),.d (.int .i64 p1.Event.Op),.d (.int .i64 p1.Event.Column),.d (.int .i64 p1.Event.Code),.d (.int .i64 p1.Event.Low),.d (.int .i64 p1.Event.High),.d (Aj 6 Az p1.Event.Kids)],1)]) Ai fun _ _ ⟨v5_1,v7_1⟩ h=>?_
   simp only [Px] at h
   refine AH h (fun h=>?_) fun h=>?_
   ·conv=>whnf
    refine z13 ?_
    refine AJ (f:=An) h fun x34 _ h=>?_
    refine AJ (f:=An) h fun x39 _ h=>?_
    conv=>whnf
    refine Ag h fun x42 hx42 h=>?_
    refine Ak (JC _ _ _ _ hx42) ?_
    exact z19
   conv=>whnf
   exact ⟨⟨_,h⟩,Ai⟩
  conv=>whnf
  exact ⟨⟨_,h⟩,Ai⟩
 obtain ⟨j5_1,h⟩:=p
 simp only [Gs] at h
 conv=>whnf
 refine z5 h (fun p=>B0 92 [(2,.ptr 2 1 0),(3,.ptr 3 1 0),(5,.d (Aj 2 An p.1)),(8,.d (.int .i64 p.2))] [(2,.var [.d (Aj 2 Ah p0.Lists),.d (Aj 7 Al p0.Columns)],1),(3,.var [.d (.str p1.Name),.d (.int .i64 p1.Kind),.d (.int .i64 p1.Filter.Op),.d (.int .i64 p1.Filter.Column),.d (.int .i64 p1.Filter.Code),.d (.int .i64 p1.Filter.Low),.d (.int .i64 p1.Filter.High),.d (Aj 6 Az p1.Filter.Kids),.d (Aj 2 An p1.Dims),.d (.int .i64 p1.Measure),.d (Aj 1 (D.int .i64) p1.Terms),.d (.int .i64 p1.Event.Op),.d (.int .i64 p1.Event.Column),.d (.int .i64 p1.Event.Code),.d (.int .i64 p1.Event.Low),.d (.int .i64 p1.Event.High),.d (Aj 6 Az p1.Event.Kids)],1)]) Ai fun _ _ ⟨v5_2,v8_2⟩ h=>?_
 simp only [IE] at h
 refine AH h (fun h=>?_) fun h=>?_
 ·conv=>whnf
  refine z13 ?_
  refine AJ (f:=An) h fun x54 _ h=>?_
  refine AJ (f:=An) h fun x61 _ h=>?_
  refine AJ (f:=An) h fun x67 _ h=>?_
  conv=>whnf
  refine Ag h fun x70 hx70 h=>?_
  refine Ak (Q6 _ _ _ _ hx70) ?_
  conv=>whnf
  refine Ag h fun x71 hx71 h=>?_
  refine Ak (JC _ _ _ _ hx71) ?_
  exact z19
 conv=>whnf
 refine z5 h (fun p=>B0 92 [(2,.ptr 2 1 0),(3,.ptr 3 1 0),(5,.d (Aj 2 An p.1)),(9,.d (.int .i64 p.2))] [(2,.var [.d (Aj 2 Ah p0.Lists),.d (Aj 7 Al p0.Columns)],1),(3,.var [.d (.str p1.Name),.d (.int .i64 p1.Kind),.d (.int .i64 p1.Filter.Op),.d (.int .i64 p1.Filter.Column),.d (.int .i64 p1.Filter.Code),.d (.int .i64 p1.Filter.Low),.d (.int .i64 p1.Filter.High),.d (Aj 6 Az p1.Filter.Kids),.d (Aj 2 An p1.Dims),.d (.int .i64 p1.Measure),.d (Aj 1 (D.int .i64) p1.Terms),.d (.int .i64 p1.Event.Op),.d (.int .i64 p1.Event.Column),.d (.int .i64 p1.Event.Code),.d (.int .i64 p1.Event.Low),.d (.int .i64 p1.Event.High),.d (Aj 6 Az p1.Event.Kids)],1)]) Ai fun _ _ ⟨v5_3,v9_3⟩ h=>?_
 simp only [IF] at h
 refine AQ h fun h=>?_
 conv=>whnf
 refine Ag h fun x81 hx81 h=>?_
 refine Ak (XM _ _ _ hx81) ?_
 refine AH h (fun h=>?_) fun h=>?_
 ·conv=>whnf
  refine z13 ?_
  conv=>whnf
  refine Ag h fun x88 hx88 h=>?_
  refine Ak (DC _ _ _ hx88) ?_
  conv=>whnf
  refine Ag h fun x89 hx89 h=>?_
  refine Ak (Q6 _ _ _ _ hx89) ?_
  conv=>whnf
  refine Ag h fun x90 hx90 h=>?_
  refine Ak (JC _ _ _ _ hx90) ?_
  exact z19
 exact z19
theorem Ui (d:Nat) (p0:Af) (p1:A9) (p2:(List Ap)) (R:Bool) (h:JF d p0 p1 p2 = some R):Aw Tryz.prog 67 [.d (Ay p0),.d (AA p1),.d (Aj 2 An p2)] (.d (.bool R)):=by
 refine BA Tryz.func67 ?_
 unfold JF at h
 conv=>whnf
 refine Ag h fun x9 hx9 h=>?_
 refine Ak (Jw _ _ _ _ hx9) ?_
 refine AQ h fun h=>?_
 refine Ag h fun x14 hx14 h=>?_
 refine Ak (Q7 _ _ _ hx14) ?_
 refine AQ h fun h=>?_
 refine Ag h fun x20 hx20 h=>?_
 refine Ak (Wc _ _ _ _ hx20) ?_
 conv=>whnf
 refine Ag h fun x22 hx22 h=>?_
 refine Ak (Vn _ _ _ hx22) ?_
 exact z60
theorem Wd (d:Nat) (p0:Af) (p1:A6) (p2:(List Ap)) (R:Int) (h:Kh d p0 p1 p2 = some R):Aw Tryz.prog 24 [.d (Ay p0),.d (BF p1),.d (Aj 2 An p2)] (.d (.int .i64 R)):=by
 refine BA Tryz.func24 ?_
 unfold Kh at h
 conv=>whnf
 refine Ag h fun x12 hx12 h=>?_
 refine Ak (QG _ _ _ _ hx12) ?_
 refine Am h fun h=>?_
 conv=>whnf
 refine Ag h fun x18 hx18 h=>?_
 refine Ak (Q7 _ _ _ hx18) ?_
 refine Am h fun h=>?_
 conv=>whnf
 refine z5 h (fun p=>B0 38 [(2,.d (Aj 2 An p2)),(3,.ptr 3 1 0),(4,.ptr 4 1 0),(9,.d (.int .i64 p))] [(3,.var [.d (Aj 2 Ah p0.Lists),.d (Aj 7 Al p0.Columns)],1),(4,.var [.d (.str p1.Project),.d (.str p1.Source),.d (.int .i64 p1.Cohort.Op),.d (.int .i64 p1.Cohort.Column),.d (.int .i64 p1.Cohort.Code),.d (.int .i64 p1.Cohort.Low),.d (.int .i64 p1.Cohort.High),.d (Aj 6 Az p1.Cohort.Kids),.d (.int .i64 p1.Sample.Part),.d (.int .i64 p1.Sample.Of),.d (.int .i64 p1.Sample.Seed),.d (Aj 17 AA p1.Questions)],1)]) Ai fun _ _ v9_1 h=>?_
 simp only [IG] at h
 refine AQ h fun h=>?_
 conv=>whnf
 refine z13 ?_
 refine AJ (f:=AA) h fun x33 _ h=>?_
 conv=>whnf
 refine Ag h fun x36 hx36 h=>?_
 refine Ak (Ui _ _ _ _ _ hx36) ?_
 exact z18
theorem XI (p0:Int) (p1:(List Int)) (R:Int) (h:Rv p0 p1 = some R):Aw Tryz.prog 191 [.d (.int .i64 p0),.d (Aj 1 (D.int .i64) p1)] (.d (.int .i64 R)):=by
 refine BA Tryz.func191 ?_
 unfold Rv at h
 refine AH h (fun h=>?_) fun h=>?_
 ·refine AJ (f:=(D.int .i64)) h fun x9 _ h=>?_
  exact z60
 refine AH h (fun h=>?_) fun h=>?_
 ·conv=>whnf
  refine z13 ?_
  refine AJ (f:=(D.int .i64)) h fun x15 _ h=>?_
  refine AJ (f:=(D.int .i64)) h fun x18 _ h=>?_
  exact z60
 refine AQ h fun h=>?_
 conv=>whnf
 refine z13 ?_
 refine AJ (f:=(D.int .i64)) h fun x24 _ h=>?_
 refine AJ (f:=(D.int .i64)) h fun x27 _ h=>?_
 exact z60
theorem VY (d:Nat) (self_ref05_eval:(Af→As→(List Int)→Option Int)) (ih_ref05_eval:∀ (p0:Af) (p1:As) (p2:(List Int)) (R:Int) ,self_ref05_eval p0 p1 p2 = some R→Aw Tryz.prog 125 [.d (Ay p0),.d (Ac p1),.d (Aj 1 (D.int .i64) p2)] (.d (.int .i64 R))) (p0:Af) (p1:As) (p2:(List Int)) (R:Int) (h:NP d self_ref05_eval p0 p1 p2 = some R):Aw Tryz.prog 125 [.d (Ay p0),.d (Ac p1),.d (Aj 1 (D.int .i64) p2)] (.d (.int .i64 R)):=by
 refine BA Tryz.func125 ?_
 unfold NP at h
 refine AH h (fun h=>?_) fun h=>?_
 ·conv=>whnf
  refine z13 ?_
  refine AJ (f:=(D.int .i64)) h fun x27 _ h=>?_
  conv=>whnf
  refine Ag h fun x29 hx29 h=>?_
  refine Ak (NK _ _ _ _ hx29) ?_
  exact z17
 conv=>whnf
 refine z5 h (fun p=>B0 52 [(2,.d (Aj 1 (D.int .i64) p2)),(3,.ptr 3 1 0),(4,.ptr 4 1 0),(7,.sl 7 1),(8,.d (.int .i64 p.1))] [(3,.var [.d (Aj 2 Ah p0.Lists),.d (Aj 7 Al p0.Columns)],1),(4,.var [.d (.int .i64 p1.Op),.d (.int .i64 p1.Column),.d (.int .i64 p1.Code),.d (.int .i64 p1.Low),.d (.int .i64 p1.High),.d (Aj 6 Az p1.Kids)],1),(7,.row 1 3 (List.map (D.int .i64) p.2),1)]) AZ fun _ _ ⟨v8_1,b7_1⟩ h=>?_
 simp only [QC] at h
 refine AH h (fun h=>?_) fun h=>?_
 ·conv=>whnf
  refine z13 ?_
  refine AJ (f:=Az) h fun x42 _ h=>?_
  rw [Aa x42]
  conv=>whnf
  refine Ag h fun x45 hx45 h=>?_
  first | refine Ak (ih_ref05_eval _ _ _ _ hx45) ?_ | (simp only [List.length_map]; refine Ak (ih_ref05_eval _ _ _ _ hx45) ?_)
  conv=>whnf
  refine C4 h fun hr h=>?_
  refine z6 ?_
  try rw [Hp]
  exact z41
 conv=>whnf
 refine Ag h fun x51 hx51 h=>?_
 refine Ak (XI _ _ _ hx51) ?_
 exact z17
theorem QD:∀ d:Nat,(∀ (p0:Af) (p1:As) (p2:(List Int)) (R:Int) ,NO d p0 p1 p2 = some R→Aw Tryz.prog 125 [.d (Ay p0),.d (Ac p1),.d (Aj 1 (D.int .i64) p2)] (.d (.int .i64 R)))
 | 0=>by
  exact z37
 | d + 1=>by
  have ih:=QD d
  exact VY d _ ih
theorem XH (d:Nat):∀ (p0:Af) (p1:As) (p2:(List Int)) (R:Int) ,NO d p0 p1 p2 = some R→Aw Tryz.prog 125 [.d (Ay p0),.d (Ac p1),.d (Aj 1 (D.int .i64) p2)] (.d (.int .i64 R)):=QD d
theorem XF (d:Nat) (p0:Af) (p1:As) (p2:(List Int)) (R:Int) (h:LG d p0 p1 p2 = some R):Aw Tryz.prog 68 [.d (Ay p0),.d (Ac p1),.d (Aj 1 (D.int .i64) p2)] (.d (.int .i64 R)):=by
 refine BA Tryz.func68 ?_
 unfold LG at h
 conv=>whnf
 refine Ag h fun x9 hx9 h=>?_
 refine Ak (Hm _ _ _ _ hx9) ?_
 refine AH h (fun h=>?_) fun h=>?_
 ·exact z34
 refine Ag h fun x14 hx14 h=>?_
 refine Ak (Mi _ _ _ hx14) ?_
 refine AH h (fun h=>?_) fun h=>?_
 ·exact z17
 conv=>whnf
 refine Ag h fun x20 hx20 h=>?_
 refine Ak (XH _ _ _ _ _ hx20) ?_
 exact z17
theorem We (p0:G2) (R:Int) (h:Py p0 = some R):Aw Tryz.prog 126 [.d (ND p0)] (.d (.int .i64 R)):=by
 refine BA Tryz.func126 ?_
 unfold Py at h
 exact Dm h
theorem XN (p0:Int) (p1:Int) (R:Int) (h:NT p0 p1 = some R):Aw Tryz.prog 127 [.d (.int .i64 p0),.d (.int .i64 p1)] (.d (.int .i64 R)):=by
 refine BA Tryz.func127 ?_
 unfold NT at h
 conv=>whnf
 refine z5 h (fun p=>B0 29 [(5,.d (.int .u64 p.1)),(6,.d (.int .i64 p.2))] []) Ai fun _ _ ⟨v5_1,v6_1⟩ h=>?_
 simp only [QH] at h
 refine AH h (fun h=>?_) fun h=>?_
 ·conv=>whnf
  refine z11 ?_
  exact z19
 conv=>whnf
 refine z11 ?_
 exact z60
theorem ZR (p0:G2) (p1:Int) (R:Bool) (h:Pz p0 p1 = some R):Aw Tryz.prog 69 [.d (ND p0),.d (.int .i64 p1)] (.d (.bool R)):=by
 refine BA Tryz.func69 ?_
 unfold Pz at h
 conv=>whnf
 refine z13 ?_
 conv=>whnf
 refine Ag h fun x6 hx6 h=>?_
 refine Ak (We _ _ hx6) ?_
 refine AQ h fun h=>?_
 refine Ag h fun x20 hx20 h=>?_
 refine Ak (XN _ _ _ hx20) ?_
 conv=>whnf
 refine C4 h fun hr h=>?_
 refine z12 ?_
 exact z60
theorem Vq (d:Nat) (p0:Aq) (p1:A6) (R:(List Int)) (h:IJ d p0 p1 = some R):Aw Tryz.prog 25 [.d (B8 p0),.d (BF p1)] (.d (Aj 1 (D.int .i64) R)):=by
 refine DY [3] Tryz.func25 (by kernel_rfl) ?_
 unfold IJ at h
 refine Th {p:Unit // H0 p0 d p1 = some R} (fun p=>B0 58 [(2,.ptr 2 1 0),(3,.ptr 3 1 0)] [(2,.var [.d (Aj 2 Ah p0.Schema.Lists),.d (Aj 7 Al p0.Schema.Columns),.d (Aj 1 (Aj 1 (D.int .i64)) p0.Rows),.d (Aj 1 (D.int .i64) p0.Gone),.d (.int .i64 p0.Version)],1),(3,.var [.d (.str p1.Project),.d (.str p1.Source),.d (.int .i64 p1.Cohort.Op),.d (.int .i64 p1.Cohort.Column),.d (.int .i64 p1.Cohort.Code),.d (.int .i64 p1.Cohort.Low),.d (.int .i64 p1.Cohort.High),.d (Aj 6 Az p1.Cohort.Kids),.d (.int .i64 p1.Sample.Part),.d (.int .i64 p1.Sample.Of),.d (.int .i64 p1.Sample.Seed),.d (Aj 17 AA p1.Questions)],1)]) ?_ fun p=>?_
 ·conv=>whnf
  refine Ag h fun x8 hx8 h=>?_
  refine Ak (ME _ _ hx8) ?_
  refine AH h (fun h=>?_) fun h=>?_
  ·exact z20
  refine Ag h fun x14 hx14 h=>?_
  refine Ak (QG _ _ _ _ hx14) ?_
  refine AH h (fun h=>?_) fun h=>?_
  ·exact z35
  exact z36
 obtain ⟨_,h⟩:=p
 simp only [H0] at h
 conv=>whnf
 refine z5 h (fun p=>B0 58 [(2,.ptr 2 1 0),(3,.ptr 3 1 0),(5,.sl 5 1),(6,.d (.int .i64 p.1))] [(2,.var [.d (Aj 2 Ah p0.Schema.Lists),.d (Aj 7 Al p0.Schema.Columns),.d (Aj 1 (Aj 1 (D.int .i64)) p0.Rows),.d (Aj 1 (D.int .i64) p0.Gone),.d (.int .i64 p0.Version)],1),(3,.var [.d (.str p1.Project),.d (.str p1.Source),.d (.int .i64 p1.Cohort.Op),.d (.int .i64 p1.Cohort.Column),.d (.int .i64 p1.Cohort.Code),.d (.int .i64 p1.Cohort.Low),.d (.int .i64 p1.Cohort.High),.d (Aj 6 Az p1.Cohort.Kids),.d (.int .i64 p1.Sample.Part),.d (.int .i64 p1.Sample.Of),.d (.int .i64 p1.Sample.Seed),.d (Aj 17 AA p1.Questions)],1),(5,.row 1 3 (List.map (D.int .i64) p.2),1)]) Ai fun _ _ ⟨v6_1,b5_1⟩ h=>?_
 simp only [Hz] at h
 refine AH h (fun h=>?_) fun h=>?_
 ·conv=>whnf
  refine z13 ?_
  refine AJ (f:=(Aj 1 (D.int .i64))) h fun x31 _ h=>?_
  conv=>whnf
  refine Ag h fun x33 hx33 h=>?_
  refine Ak (XF _ _ _ _ _ hx33) ?_
  refine AH h (fun h=>?_) fun h=>?_
  ·refine AJ (f:=(Aj 1 (D.int .i64))) h fun x41 _ h=>?_
   refine AJ (f:=(D.int .i64)) h fun x43 _ h=>?_
   conv=>whnf
   refine Ag h fun x45 hx45 h=>?_
   refine Ak (ZR _ _ _ hx45) ?_
   refine AH h (fun h=>?_) fun h=>?_
   ·refine AJ (f:=(Aj 1 (D.int .i64))) h fun x51 _ h=>?_
    refine AJ (f:=(D.int .i64)) h fun x53 _ h=>?_
    exact z55
   exact z19
  exact Bn ⟨(_,(_,_)),h⟩ Ai
 exact z35
theorem Wh (p0:Int) (p1:Int) (R:Bool) (h:Mo p0 p1 = some R):Aw Tryz.prog 70 [.d (.int .i64 p0),.d (.int .i64 p1)] (.d (.bool R)):=by
 refine BA Tryz.func70 ?_
 unfold Mo at h
 exact z60
theorem Wg (p0:Int) (p1:Int) (p2:Int) (R:Int) (h:Ki p0 p1 p2 = some R):Aw Tryz.prog 71 [.d (.int .i64 p0),.d (.int .i64 p1),.d (.int .i64 p2)] (.d (.int .i64 R)):=by
 refine BA Tryz.func71 ?_
 unfold Ki at h
 refine Am h fun h=>?_
 conv=>whnf
 refine z5 h (fun p=>B0 54 [(7,.d (.int .u64 p.1)),(8,.d (.int .i64 p.2))] []) Ai fun _ _ ⟨v7_1,v8_1⟩ h=>?_
 simp only [LL] at h
 refine AH h (fun h=>?_) fun h=>?_
 ·conv=>whnf
  refine z11 ?_
  exact z19
 conv=>whnf
 refine z11 ?_
 exact z60
end Go.Proofs.YtlpkhgkoihlghaaGreatDoor.P
