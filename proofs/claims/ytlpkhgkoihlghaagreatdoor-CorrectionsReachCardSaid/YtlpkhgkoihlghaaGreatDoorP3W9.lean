/- P3W9 -/
import Derived.Test.YtlpkhgkoihlghaaGreatDoorP3W8
set_option linter.unusedSimpArgs false
namespace Go.Proofs.YtlpkhgkoihlghaaGreatDoor.P
open Go.Abs Go.Proofs
set_option maxRecDepth 100000
set_option maxHeartbeats 40000000
set_option linter.unusedVariables false
theorem ME (p0:Aq) (R:Bool) (h:Gr p0 = some R):Aw Tryz.prog 23 [.d (B8 p0)] (.d (.bool R)):=by
 refine DY [8] Tryz.func23 (by kernel_rfl) ?_
 unfold Gr at h
 conv=>whnf
 refine Ag h fun x7 hx7 h=>?_
 refine Ak (D1 _ _ hx7) ?_
 refine Am h fun h=>?_
 refine Th {p:Unit // IB p0 = some R} (fun p=>B0 118 [(1,.ptr 1 1 0)] [(1,.var [.d (Aj 2 Ah p0.Schema.Lists),.d (Aj 7 Al p0.Schema.Columns),.d (Aj 1 (Aj 1 (D.int .i64)) p0.Rows),.d (Aj 1 (D.int .i64) p0.Gone),.d (.int .i64 p0.Version)],1)]) ?_ fun p=>?_
 ·conv=>whnf
  refine z5 h (fun p=>B0 118 [(1,.ptr 1 1 0),(3,.d (.int .i64 p))] [(1,.var [.d (Aj 2 Ah p0.Schema.Lists),.d (Aj 7 Al p0.Schema.Columns),.d (Aj 1 (Aj 1 (D.int .i64)) p0.Rows),.d (Aj 1 (D.int .i64) p0.Gone),.d (.int .i64 p0.Version)],1)]) Ai fun _ _ v3_1 h=>?_
  simp only [I9] at h
  refine AH h (fun h=>?_) fun h=>?_
  ·conv=>whnf
   refine z13 ?_
   refine AJ (f:=(Aj 1 (D.int .i64))) h fun x43 _ h=>?_
   conv=>whnf
   refine Ag h fun x45 hx45 h=>?_
   refine Ak (Mi _ _ _ hx45) ?_
   refine Am h fun h=>?_
   refine AH h (fun h=>?_) fun h=>?_
   ·refine AJ (f:=(Aj 1 (D.int .i64))) h fun x54 _ h=>?_
    refine AJ (f:=(D.int .i64)) h fun x56 _ h=>?_
    refine AJ (f:=(Aj 1 (D.int .i64))) h fun x62 _ h=>?_
    refine AJ (f:=(D.int .i64)) h fun x64 _ h=>?_
    exact z18
   exact z42
  exact z36
 obtain ⟨_,h⟩:=p
 simp only [IB] at h
 conv=>whnf
 refine z5 h (fun p=>B0 118 [(1,.ptr 1 1 0),(4,.d (.int .i64 p))] [(1,.var [.d (Aj 2 Ah p0.Schema.Lists),.d (Aj 7 Al p0.Schema.Columns),.d (Aj 1 (Aj 1 (D.int .i64)) p0.Rows),.d (Aj 1 (D.int .i64) p0.Gone),.d (.int .i64 p0.Version)],1)]) Ai fun _ _ v4_2 h=>?_
 simp only [IA] at h
 refine AQ h fun h=>?_
 conv=>whnf
 refine z13 ?_
 refine AJ (f:=(D.int .i64)) h fun x79 _ h=>?_
 refine Am h fun h=>?_
 refine AJ (f:=(D.int .i64)) h fun x86 _ h=>?_
 refine Am h fun h=>?_
 refine AH h (fun h=>?_) fun h=>?_
 ·refine AJ (f:=(D.int .i64)) h fun x97 _ h=>?_
  refine AJ (f:=(D.int .i64)) h fun x103 _ h=>?_
  refine Am h fun h=>?_
  refine AJ (f:=(D.int .i64)) h fun x113 hx113 h=>?_
  conv=>whnf
  refine Ag h fun x115 hx115 h=>?_
  refine Ak (GL _ _ _ hx115) ?_
  exact z18
 refine AJ (f:=(D.int .i64)) h fun x113 hx113 h=>?_
 conv=>whnf
 refine Ag h fun x115 hx115 h=>?_
 refine Ak (GL _ _ _ hx115) ?_
 exact z18
theorem Gn (p0:(List Int)) (p1:Int) (R:Bool) (h:Eg p0 p1 = some R):Aw Tryz.prog 33 [.d (Aj 1 (D.int .i64) p0),.d (.int .i64 p1)] (.d (.bool R)):=by
 refine BA Tryz.func33 ?_
 unfold Eg at h
 conv=>whnf
 refine z5 h (fun p=>B0 18 [(0,.d (Aj 1 (D.int .i64) p0)),(1,.d (.int .i64 p1)),(5,.d (.int .i64 p))] []) Ai fun _ _ v5_1 h=>?_
 simp only [KC] at h
 refine AQ h fun h=>?_
 refine AJ (f:=(D.int .i64)) h fun x14 _ h=>?_
 exact z18
theorem Ph (p0:(List Int)) (p1:Int) (R:(List Int)) (h:Jt p0 p1 = some R):Aw Tryz.prog 30 [.d (Aj 1 (D.int .i64) p0),.d (.int .i64 p1)] (.d (Aj 1 (D.int .i64) R)):=by
 refine BA Tryz.func30 ?_
 unfold Jt at h
 conv=>whnf
 refine Ag h fun x10 hx10 h=>?_
 refine Ak (Gn _ _ _ hx10) ?_
 refine Am h fun h=>?_
 conv=>whnf
 refine z5 h (fun p=>B0 46 [(0,.d (Aj 1 (D.int .i64) p0)),(1,.d (.int .i64 p1)),(5,.sl 5 1),(6,.d (.bool p.1)),(7,.d (.int .i64 p.2.1))] [(5,.row 1 3 (List.map (D.int .i64) p.2.2),1)]) Ai fun _ _ ⟨v6_1,v7_1,b5_1⟩ h=>?_
 simp only [KD] at h
 refine AH h (fun h=>?_) fun h=>?_
 ·refine AJ (f:=(D.int .i64)) h fun x20 _ h=>?_
  refine AH h (fun h=>?_) fun h=>?_
  ·conv=>whnf
   refine C4 h fun hr h=>?_
   refine z6 ?_
   try rw [Hp]
   exact z43
  exact z43
 refine AH h (fun h=>?_) fun h=>?_
 ·conv=>whnf
  refine C4 h fun hr h=>?_
  refine z6 ?_
  try rw [Hp]
  exact z35
 exact z35
theorem SE (p0:(List (List Int))) (p1:Int) (R:(List (List Int))) (h:Jv p0 p1 = some R):Aw Tryz.prog 63 [.d (Aj 1 (Aj 1 (D.int .i64)) p0),.d (.int .i64 p1)] (.d (Aj 1 (Aj 1 (D.int .i64)) R)):=by
 refine BA Tryz.func63 ?_
 unfold Jv at h
 conv=>whnf
 refine z5 h (fun p=>B0 29 [(0,.d (Aj 1 (Aj 1 (D.int .i64)) p0)),(1,.d (.int .i64 p1)),(5,.sl 5 1),(6,.d (.int .i64 p.1))] [(5,.row 1 30 (List.map (Aj 1 (D.int .i64)) p.2),1)]) Ai fun _ _ ⟨v6_1,b5_1⟩ h=>?_
 simp only [JB] at h
 refine AH h (fun h=>?_) fun h=>?_
 ·refine AJ (f:=(Aj 1 (D.int .i64))) h fun x15 _ h=>?_
  refine AJ (f:=(D.int .i64)) h fun x17 _ h=>?_
  refine AH h (fun h=>?_) fun h=>?_
  ·refine AJ (f:=(Aj 1 (D.int .i64))) h fun x24 _ h=>?_
   conv=>whnf
   exact z33
  exact z19
 exact z35
theorem Q8 (p0:Aq) (p1:B1) (R:(Aq × Int)) (h:EW p0 p1 = some R):Aw Tryz.prog 22 [.d (B8 p0),.d (Cc p1)] (.tup [.d (B8 R.1),.d (.int .i64 R.2)]):=by
 refine BA Tryz.func22 ?_
 unfold EW at h
 conv=>whnf
 refine Ag h fun x10 hx10 h=>?_
 refine Ak (ME _ _ hx10) ?_
 refine Am h fun h=>?_
 conv=>whnf
 refine Qt h E4 (fun e2 h=>?_) (fun e2 h=>?_)
 ·conv=>whnf
  refine R1 E4 e2 ?_
  conv=>whnf
  refine Ag h fun x38 hx38 h=>?_
  refine Ak (Mi _ _ _ hx38) ?_
  refine Am h fun h=>?_
  conv=>whnf
  refine z13 ?_
  refine AJ (f:=(D.int .i64)) h fun x47 hx47 h=>?_
  conv=>whnf
  refine Ag h fun x49 hx49 h=>?_
  refine Ak (Gn _ _ _ hx49) ?_
  refine Am h fun h=>?_
  conv=>whnf
  refine z13 ?_
  refine AJ (f:=(D.int .i64)) h fun x54 hx54 h=>?_
  conv=>whnf
  refine Ag h fun x56 hx56 h=>?_
  refine Ak (GL _ _ _ hx56) ?_
  refine Am h fun h=>?_
  refine Am h fun h=>?_
  refine Am h fun h=>?_
  conv=>whnf
  refine z13 ?_
  conv=>whnf
  refine C4 h fun hr h=>?_
  refine z6 ?_
  conv=>whnf
  refine Ag h fun x88 hx88 h=>?_
  refine Ak (Kf _ _ _ hx88) ?_
  exact z60
 refine AH h (fun h=>?_) fun h=>?_
 ·conv=>whnf
  refine Ag h fun x38 hx38 h=>?_
  refine Ak (Mi _ _ _ hx38) ?_
  refine Am h fun h=>?_
  conv=>whnf
  refine z13 ?_
  refine AJ (f:=(D.int .i64)) h fun x47 hx47 h=>?_
  conv=>whnf
  refine Ag h fun x49 hx49 h=>?_
  refine Ak (Gn _ _ _ hx49) ?_
  refine Am h fun h=>?_
  conv=>whnf
  refine z13 ?_
  refine AJ (f:=(D.int .i64)) h fun x54 hx54 h=>?_
  conv=>whnf
  refine Ag h fun x56 hx56 h=>?_
  refine Ak (GL _ _ _ hx56) ?_
  refine Am h fun h=>?_
  refine Am h fun h=>?_
  refine Am h fun h=>?_
  conv=>whnf
  refine z13 ?_
  conv=>whnf
  refine C4 h fun hr h=>?_
  refine z6 ?_
  conv=>whnf
  refine Ag h fun x88 hx88 h=>?_
  refine Ak (Kf _ _ _ hx88) ?_
  exact z60
 refine AH h (fun h=>?_) fun h=>?_
 ·conv=>whnf
  refine Ag h fun x95 hx95 h=>?_
  refine Ak (GL _ _ _ hx95) ?_
  refine Am h fun h=>?_
  conv=>whnf
  refine Ag h fun x102 hx102 h=>?_
  refine Ak (SE _ _ _ hx102) ?_
  exact z60
 refine AQ h fun h=>?_
 refine Am h fun h=>?_
 conv=>whnf
 refine Ag h fun x119 hx119 h=>?_
 refine Ak (Gn _ _ _ hx119) ?_
 refine Am h fun h=>?_
 conv=>whnf
 refine Ag h fun x125 hx125 h=>?_
 refine Ak (SE _ _ _ hx125) ?_
 conv=>whnf
 refine Ag h fun x131 hx131 h=>?_
 refine Ak (Ph _ _ _ hx131) ?_
 exact z60
theorem DC (p0:Af) (p1:Int) (R:Int) (h:Cg p0 p1 = some R):Aw Tryz.prog 40 [.d (Ay p0),.d (.int .i64 p1)] (.d (.int .i64 R)):=by
 refine BA Tryz.func40 ?_
 unfold Cg at h
 conv=>whnf
 refine Ag h fun x7 hx7 h=>?_
 refine Ak (D1 _ _ hx7) ?_
 refine Am h fun h=>?_
 refine AJ (f:=Al) h fun x23 _ h=>?_
 refine AQ h fun h=>?_
 refine AJ (f:=Ah) h fun x32 _ h=>?_
 conv=>whnf
 refine Ag h fun x34 hx34 h=>?_
 refine Ak (LB _ _ hx34) ?_
 exact z60
theorem NJ (p0:Aq) (p1:(List B1)) (p2:Int) (R:(Aq × Int)) (h:Nu p0 p1 p2 = some R):Aw Tryz.prog 8 [.d (B8 p0),.d (Aj 3 Cc p1),.d (.int .i64 p2)] (.tup [.d (B8 R.1),.d (.int .i64 R.2)]):=by
 refine BA Tryz.func8 ?_
 unfold Nu at h
 refine Am h fun h=>?_
 conv=>whnf
 refine z5 h (fun p=>B0 40 [(1,.d (Aj 3 Cc p1)),(2,.d (.int .i64 p2)),(3,.ptr 3 1 0),(6,.ptr 6 1 0),(8,.d (.int .i64 p.1))] [(3,.var [.d (Aj 2 Ah p.2.Schema.Lists),.d (Aj 7 Al p.2.Schema.Columns),.d (Aj 1 (Aj 1 (D.int .i64)) p.2.Rows),.d (Aj 1 (D.int .i64) p.2.Gone),.d (.int .i64 p.2.Version)],1),(6,.var [.d (.nil 2),.d (.nil 7),.d (.nil 1),.d (.nil 1),.d (.int .i64 0)],1)]) Ai fun _ _ ⟨v8_1,w3_1⟩ h=>?_
 simp only [Mj] at h
 refine AQ h fun h=>?_
 conv=>whnf
 refine z13 ?_
 refine AJ (f:=Cc) h fun x29 _ h=>?_
 conv=>whnf
 refine Ag h fun x31 hx31 h=>?_
 refine Ak (Q8 _ _ _ hx31) ?_
 refine Am h fun h=>?_
 exact z19
theorem Vo (d:Nat) (self_ref05_count:(As→Int→Option Int)) (ih_ref05_count:∀ (p0:As) (p1:Int) (R:Int) ,self_ref05_count p0 p1 = some R→Aw Tryz.prog 181 [.d (Ac p0),.d (.int .i64 p1)] (.d (.int .i64 R))) (p0:As) (p1:Int) (R:Int) (h:MG d self_ref05_count p0 p1 = some R):Aw Tryz.prog 181 [.d (Ac p0),.d (.int .i64 p1)] (.d (.int .i64 R)):=by
 refine BA Tryz.func181 ?_
 unfold MG at h
 conv=>whnf
 refine z5 h (fun p=>B0 31 [(1,.d (.int .i64 p1)),(2,.ptr 2 1 0),(5,.d (.int .i64 p.1)),(6,.d (.int .i64 p.2))] [(2,.var [.d (.int .i64 p0.Op),.d (.int .i64 p0.Column),.d (.int .i64 p0.Code),.d (.int .i64 p0.Low),.d (.int .i64 p0.High),.d (Aj 6 Az p0.Kids)],1)]) AZ fun _ _ ⟨v5_1,v6_1⟩ h=>?_
 simp only [Pq] at h
 refine AH h (fun h=>?_) fun h=>?_
 ·refine AJ (f:=Az) h fun x23 _ h=>?_
  rw [Aa x23]
  conv=>whnf
  refine Ag h fun x28 hx28 h=>?_
  first | refine Ak (ih_ref05_count _ _ _ hx28) ?_ | (simp only [List.length_map]; refine Ak (ih_ref05_count _ _ _ hx28) ?_)
  exact z41
 exact z17
theorem Pr:∀ d:Nat,(∀ (p0:As) (p1:Int) (R:Int) ,Ml d p0 p1 = some R→Aw Tryz.prog 181 [.d (Ac p0),.d (.int .i64 p1)] (.d (.int .i64 R)))
 | 0=>by
  exact z37
 | d + 1=>by
  have ih:=Pr d
  exact Vo d _ ih
theorem VW (d:Nat):∀ (p0:As) (p1:Int) (R:Int) ,Ml d p0 p1 = some R→Aw Tryz.prog 181 [.d (Ac p0),.d (.int .i64 p1)] (.d (.int .i64 R)):=Pr d
theorem Vp (d:Nat) (self_ref05_depth:(As→Option Int)) (ih_ref05_depth:∀ (p0:As) (R:Int) ,self_ref05_depth p0 = some R→Aw Tryz.prog 182 [.d (Ac p0)] (.d (.int .i64 R))) (p0:As) (R:Int) (h:MI d self_ref05_depth p0 = some R):Aw Tryz.prog 182 [.d (Ac p0)] (.d (.int .i64 R)):=by
 refine BA Tryz.func182 ?_
 unfold MI at h
 conv=>whnf
 refine z5 h (fun p=>B0 22 [(1,.ptr 1 1 0),(3,.d (.int .i64 p.1)),(4,.d (.int .i64 p.2))] [(1,.var [.d (.int .i64 p0.Op),.d (.int .i64 p0.Column),.d (.int .i64 p0.Code),.d (.int .i64 p0.Low),.d (.int .i64 p0.High),.d (Aj 6 Az p0.Kids)],1)]) AZ fun _ _ ⟨v3_1,v4_1⟩ h=>?_
 simp only [Ps] at h
 refine AH h (fun h=>?_) fun h=>?_
 ·refine AJ (f:=Az) h fun x16 _ h=>?_
  rw [Aa x16]
  conv=>whnf
  refine Ag h fun x18 hx18 h=>?_
  first | refine Ak (ih_ref05_depth _ _ hx18) ?_ | (simp only [List.length_map]; refine Ak (ih_ref05_depth _ _ hx18) ?_)
  exact z41
 exact z17
theorem Pt:∀ d:Nat,(∀ (p0:As) (R:Int) ,Mm d p0 = some R→Aw Tryz.prog 182 [.d (Ac p0)] (.d (.int .i64 R)))
 | 0=>by
  exact z37
 | d + 1=>by
  have ih:=Pt d
  exact Vp d _ ih
theorem VX (d:Nat):∀ (p0:As) (R:Int) ,Mm d p0 = some R→Aw Tryz.prog 182 [.d (Ac p0)] (.d (.int .i64 R)):=Pt d
theorem Ru (p0:Af) (p1:Int) (p2:Int) (R:Bool) (h:Pu p0 p1 p2 = some R):Aw Tryz.prog 240 [.d (Ay p0),.d (.int .i64 p1),.d (.int .i64 p2)] (.d (.bool R)):=by
 refine BA Tryz.func240 ?_
 unfold Pu at h
 refine AQ h fun h=>?_
 refine AJ (f:=Al) h fun x20 _ h=>?_
 exact z60
end Go.Proofs.YtlpkhgkoihlghaaGreatDoor.P
