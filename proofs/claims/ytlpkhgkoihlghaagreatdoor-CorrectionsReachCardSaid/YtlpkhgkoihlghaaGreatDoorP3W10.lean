/- P3W10 -/
import Derived.Test.YtlpkhgkoihlghaaGreatDoorP3W9
set_option linter.unusedSimpArgs false
namespace Go.Proofs.YtlpkhgkoihlghaaGreatDoor.P
open Go.Abs Go.Proofs
set_option maxRecDepth 100000
set_option maxHeartbeats 40000000
set_option linter.unusedVariables false
theorem VZ (d:Nat) (self_ref05_node:(Af→As→Option Int)) (ih_ref05_node:∀ (p0:Af) (p1:As) (R:Int) ,self_ref05_node p0 p1 = some R→Aw Tryz.prog 183 [.d (Ay p0),.d (Ac p1)] (.d (.int .i64 R))) (p0:Af) (p1:As) (R:Int) (h:NR d self_ref05_node p0 p1 = some R):Aw Tryz.prog 183 [.d (Ay p0),.d (Ac p1)] (.d (.int .i64 R)):=by
 refine DY [16,20,22] Tryz.func183 (by kernel_rfl) ?_
 unfold NR at h
 conv=>whnf
 refine z13 ?_
 refine Th {p:(Int × Int × Int × Int × Int) // De p1 p0 self_ref05_node p.1 p.2.1 p.2.2.1 p.2.2.2.1 p.2.2.2.2 = some R} (fun p=>B0 185 [(2,.ptr 2 1 0),(3,.ptr 3 1 0),(5,.d (.int .i64 p.1.1)),(6,.ptr 6 1 0)] [(2,.var [.d (Aj 2 Ah p0.Lists),.d (Aj 7 Al p0.Columns)],1),(3,.var [.d (.int .i64 p1.Op),.d (.int .i64 p1.Column),.d (.int .i64 p1.Code),.d (.int .i64 p1.Low),.d (.int .i64 p1.High),.d (Aj 6 Az p1.Kids)],1),(6,.var [.d (.int .i64 p1.Op),.d (.int .i64 p.1.2.1),.d (.int .i64 p.1.2.2.1),.d (.int .i64 p.1.2.2.2.1),.d (.int .i64 p.1.2.2.2.2),.d (.nil 6)],1)]) ?_ fun p=>?_
 ·refine AH h (fun h=>?_) fun h=>?_
  ·exact z46
  refine AH h (fun h=>?_) fun h=>?_
  ·conv=>whnf
   refine z13 ?_
   exact z46
  refine AH h (fun h=>?_) fun h=>?_
  ·conv=>whnf
   refine z13 ?_
   exact z46
  refine AH h (fun h=>?_) fun h=>?_
  ·exact z46
  conv=>whnf
  refine Qt h E4 (fun e40 h=>?_) (fun e40 h=>?_)
  ·conv=>whnf
   refine R1 E4 e40 ?_
   exact z46
  refine AH h (fun h=>?_) fun h=>?_
  ·exact z46
  refine AH h (fun h=>?_) fun h=>?_
  ·exact z46
  exact z17
 obtain ⟨⟨j5_1,k6_1_1,k6_2_1,k6_3_1,k6_4_1⟩,h⟩:=p
 simp only [De] at h
 refine AH h (fun h=>?_) fun h=>?_
 ·exact z17
 refine Th {p:Unit // FL p1 p0 self_ref05_node = some R} (fun p=>B0 185 [(2,.ptr 2 1 0),(3,.ptr 3 1 0)] [(2,.var [.d (Aj 2 Ah p0.Lists),.d (Aj 7 Al p0.Columns)],1),(3,.var [.d (.int .i64 p1.Op),.d (.int .i64 p1.Column),.d (.int .i64 p1.Code),.d (.int .i64 p1.Low),.d (.int .i64 p1.High),.d (Aj 6 Az p1.Kids)],1)]) ?_ fun p=>?_
 ·conv=>whnf
  refine Qt h E4 (fun e29 h=>?_) (fun e29 h=>?_)
  ·refine Ag h fun x85 hx85 h=>?_
   refine Ak (Ru _ _ _ _ hx85) ?_
   refine AH h (fun h=>?_) fun h=>?_
   ·exact z34
   refine f9 E4 (fI e29) ?_
   refine f9 E4 (fI e29) ?_
   exact ⟨⟨(),h⟩,AZ⟩
  refine Qt h E4 (fun e31 h=>?_) (fun e31 h=>?_)
  ·refine Ag h fun x96 hx96 h=>?_
   refine Ak (Ru _ _ _ _ hx96) ?_
   refine AH h (fun h=>?_) fun h=>?_
   ·exact z34
   refine f9 E4 (fI e31) ?_
   exact ⟨⟨(),h⟩,AZ⟩
  refine AH h (fun h=>?_) fun h=>?_
  ·refine Ag h fun x108 hx108 h=>?_
   refine Ak (Ru _ _ _ _ hx108) ?_
   refine AH h (fun h=>?_) fun h=>?_
   ·exact z34
   refine AJ (f:=Al) h fun x115 _ h=>?_
   refine AH h (fun h=>?_) fun h=>?_
   ·exact z17
   conv=>whnf
   exact ⟨⟨(),h⟩,AZ⟩
  exact ⟨⟨(),h⟩,AZ⟩
 obtain ⟨_,h⟩:=p
 simp only [FL] at h
 refine Th {p:Unit // JD p1 self_ref05_node p0 = some R} (fun p=>B0 185 [(2,.ptr 2 1 0),(3,.ptr 3 1 0)] [(2,.var [.d (Aj 2 Ah p0.Lists),.d (Aj 7 Al p0.Columns)],1),(3,.var [.d (.int .i64 p1.Op),.d (.int .i64 p1.Column),.d (.int .i64 p1.Code),.d (.int .i64 p1.Low),.d (.int .i64 p1.High),.d (Aj 6 Az p1.Kids)],1)]) ?_ fun p=>?_
 ·conv=>whnf
  refine z13 ?_
  refine AH h (fun h=>?_) fun h=>?_
  ·refine AH h (fun h=>?_) fun h=>?_
   ·exact z34
   refine AJ (f:=Al) h fun x138 _ h=>?_
   refine AJ (f:=Ah) h fun x141 _ h=>?_
   refine AH h (fun h=>?_) fun h=>?_
   ·exact z17
   conv=>whnf
   exact ⟨⟨(),h⟩,AZ⟩
  exact ⟨⟨(),h⟩,AZ⟩
 obtain ⟨_,h⟩:=p
 simp only [JD] at h
 refine AH h (fun h=>?_) fun h=>?_
 ·exact z17
 conv=>whnf
 refine z5 h (fun p=>B0 185 [(2,.ptr 2 1 0),(3,.ptr 3 1 0),(7,.d (.int .i64 p))] [(2,.var [.d (Aj 2 Ah p0.Lists),.d (Aj 7 Al p0.Columns)],1),(3,.var [.d (.int .i64 p1.Op),.d (.int .i64 p1.Column),.d (.int .i64 p1.Code),.d (.int .i64 p1.Low),.d (.int .i64 p1.High),.d (Aj 6 Az p1.Kids)],1)]) AZ fun _ _ v7_1 h=>?_
 simp only [QE] at h
 refine AH h (fun h=>?_) fun h=>?_
 ·conv=>whnf
  refine z13 ?_
  refine AJ (f:=Az) h fun x179 _ h=>?_
  rw [Aa x179]
  conv=>whnf
  refine Ag h fun x181 hx181 h=>?_
  first | refine Ak (ih_ref05_node _ _ _ hx181) ?_ | (simp only [List.length_map]; refine Ak (ih_ref05_node _ _ _ hx181) ?_)
  refine AH h (fun h=>?_) fun h=>?_
  ·exact z17
  exact z59
 exact z17
theorem QF:∀ d:Nat,(∀ (p0:Af) (p1:As) (R:Int) ,NQ d p0 p1 = some R→Aw Tryz.prog 183 [.d (Ay p0),.d (Ac p1)] (.d (.int .i64 R)))
 | 0=>by
  exact z37
 | d + 1=>by
  have ih:=QF d
  exact VZ d _ ih
theorem XJ (d:Nat):∀ (p0:Af) (p1:As) (R:Int) ,NQ d p0 p1 = some R→Aw Tryz.prog 183 [.d (Ay p0),.d (Ac p1)] (.d (.int .i64 R)):=QF d
theorem Hm (d:Nat) (p0:Af) (p1:As) (R:Int) (h:E2 d p0 p1 = some R):Aw Tryz.prog 120 [.d (Ay p0),.d (Ac p1)] (.d (.int .i64 R)):=by
 refine BA Tryz.func120 ?_
 unfold E2 at h
 conv=>whnf
 refine Ag h fun x7 hx7 h=>?_
 refine Ak (D1 _ _ hx7) ?_
 refine AH h (fun h=>?_) fun h=>?_
 ·exact z17
 conv=>whnf
 refine Ag h fun x12 hx12 h=>?_
 refine Ak (VW _ _ _ _ hx12) ?_
 refine AH h (fun h=>?_) fun h=>?_
 ·exact z17
 conv=>whnf
 refine Ag h fun x15 hx15 h=>?_
 refine Ak (VX _ _ _ hx15) ?_
 refine AH h (fun h=>?_) fun h=>?_
 ·exact z17
 conv=>whnf
 refine Ag h fun x19 hx19 h=>?_
 refine Ak (XJ _ _ _ _ hx19) ?_
 exact z17
theorem Rw (p0:Af) (p1:Int) (p2:Int) (R:Bool) (h:LK p0 p1 p2 = some R):Aw Tryz.prog 241 [.d (Ay p0),.d (.int .i64 p1),.d (.int .i64 p2)] (.d (.bool R)):=by
 refine BA Tryz.func241 ?_
 unfold LK at h
 refine AQ h fun h=>?_
 refine AJ (f:=Al) h fun x20 _ h=>?_
 exact z60
theorem SD (p0:Af) (p1:Ap) (R:Int) (h:Ju p0 p1 = some R):Aw Tryz.prog 122 [.d (Ay p0),.d (An p1)] (.d (.int .i64 R)):=by
 refine BA Tryz.func122 ?_
 unfold Ju at h
 conv=>whnf
 refine Ag h fun x7 hx7 h=>?_
 refine Ak (D1 _ _ hx7) ?_
 refine Am h fun h=>?_
 refine Am h fun h=>?_
 conv=>whnf
 refine z13 ?_
 conv=>whnf
 refine Ag h fun x27 hx27 h=>?_
 refine Ak (DC _ _ _ hx27) ?_
 conv=>whnf
 refine Ag h fun x28 hx28 h=>?_
 refine Ak (CU _ _ _ _ hx28) ?_
 exact Dm h
theorem XK (p0:Af) (p1:(List Ap)) (R:Int) (h:LJ p0 p1 = some R):Aw Tryz.prog 242 [.d (Ay p0),.d (Aj 2 An p1)] (.d (.int .i64 R)):=by
 refine BA Tryz.func242 ?_
 unfold LJ at h
 refine Am h fun h=>?_
 conv=>whnf
 refine z5 h (fun p=>B0 55 [(1,.d (Aj 2 An p1)),(2,.ptr 2 1 0),(5,.d (.int .i64 p))] [(2,.var [.d (Aj 2 Ah p0.Lists),.d (Aj 7 Al p0.Columns)],1)]) Ai fun _ _ v5_1 h=>?_
 simp only [JE] at h
 refine AH h (fun h=>?_) fun h=>?_
 ·conv=>whnf
  refine z13 ?_
  refine AJ (f:=An) h fun x25 _ h=>?_
  conv=>whnf
  refine Ag h fun x27 hx27 h=>?_
  refine Ak (SD _ _ _ hx27) ?_
  refine Am h fun h=>?_
  conv=>whnf
  refine z13 ?_
  refine AJ (f:=An) h fun x34 _ h=>?_
  conv=>whnf
  refine Ag h fun x37 hx37 h=>?_
  refine Ak (Rw _ _ _ _ hx37) ?_
  refine Am h fun h=>?_
  conv=>whnf
  refine z5 h (fun p=>B0 55 [(1,.d (Aj 2 An p1)),(2,.ptr 2 1 0),(5,.d (.int .i64 v5_1)),(7,.d (.int .i64 p))] [(2,.var [.d (Aj 2 Ah p0.Lists),.d (Aj 7 Al p0.Columns)],1)]) Ai fun _ _ v7_2 h=>?_
  simp only [MJ] at h
  refine AH h (fun h=>?_) fun h=>?_
  ·conv=>whnf
   refine z13 ?_
   refine AJ (f:=An) h fun x46 _ h=>?_
   refine AJ (f:=An) h fun x51 _ h=>?_
   exact z18
  conv=>whnf
  try simp only [ref08_Dims_k1] at h
  exact z42
 conv=>whnf
 try simp only [ref08_Dims_k1] at h
 exact z60
theorem Wa (p0:Af) (p1:Int) (p2:(List Int)) (R:Int) (h:Pv p0 p1 p2 = some R):Aw Tryz.prog 243 [.d (Ay p0),.d (.int .i64 p1),.d (Aj 1 (D.int .i64) p2)] (.d (.int .i64 R)):=by
 refine BA Tryz.func243 ?_
 unfold Pv at h
 refine Am h fun h=>?_
 conv=>whnf
 refine z5 h (fun p=>B0 45 [(1,.d (.int .i64 p1)),(2,.d (Aj 1 (D.int .i64) p2)),(3,.ptr 3 1 0),(7,.d (.int .i64 p))] [(3,.var [.d (Aj 2 Ah p0.Lists),.d (Aj 7 Al p0.Columns)],1)]) Ai fun _ _ v7_1 h=>?_
 simp only [Pw] at h
 refine AQ h fun h=>?_
 conv=>whnf
 refine z13 ?_
 refine AJ (f:=(D.int .i64)) h fun x25 _ h=>?_
 conv=>whnf
 refine Ag h fun x27 hx27 h=>?_
 refine Ak (Rw _ _ _ _ hx27) ?_
 refine Am h fun h=>?_
 conv=>whnf
 refine z13 ?_
 refine AJ (f:=(D.int .i64)) h fun x31 _ h=>?_
 refine Am h fun h=>?_
 refine C4 h fun hr h=>?_
 refine z8 ?_
 try simp only [List.length_map]
 rw [VJ]
 refine AJ (f:=(D.int .i64)) h fun x41 _ h=>?_
 conv=>whnf
 refine Ag h fun x43 hx43 h=>?_
 refine Ak (Gn _ _ _ hx43) ?_
 exact z18
theorem Wb (d:Nat) (p0:Af) (p1:A9) (R:Int) (h:Mn d p0 p1 = some R):Aw Tryz.prog 184 [.d (Ay p0),.d (AA p1)] (.d (.int .i64 R)):=by
 refine BA Tryz.func184 ?_
 unfold Mn at h
 conv=>whnf
 refine Ag h fun x10 hx10 h=>?_
 refine Ak (Rw _ _ _ _ hx10) ?_
 refine AH h (fun h=>?_) fun h=>?_
 ·conv=>whnf
  refine Ag h fun x32 hx32 h=>?_
  refine Ak (XK _ _ _ hx32) ?_
  refine Am h fun h=>?_
  exact Dm h
 refine AH h (fun h=>?_) fun h=>?_
 ·refine Am h fun h=>?_
  conv=>whnf
  refine Ag h fun x52 hx52 h=>?_
  refine Ak (Wa _ _ _ _ hx52) ?_
  exact z60
 refine Am h fun h=>?_
 refine AJ (f:=Al) h fun x19 _ h=>?_
 refine Am h fun h=>?_
 conv=>whnf
 refine Ag h fun x26 hx26 h=>?_
 refine Ak (Hm _ _ _ _ hx26) ?_
 exact z60
theorem VV (d:Nat) (self_ref05_Same:(As→As→Option Bool)) (ih_ref05_Same:∀ (p0:As) (p1:As) (R:Bool) ,self_ref05_Same p0 p1 = some R→Aw Tryz.prog 244 [.d (Ac p0),.d (Ac p1)] (.d (.bool R))) (p0:As) (p1:As) (R:Bool) (h:NN d self_ref05_Same p0 p1 = some R):Aw Tryz.prog 244 [.d (Ac p0),.d (Ac p1)] (.d (.bool R)):=by
 refine BA Tryz.func244 ?_
 unfold NN at h
 refine AH h (fun h=>?_) fun h=>?_
 ·exact z17
 conv=>whnf
 refine z5 h (fun p=>B0 67 [(2,.ptr 2 1 0),(3,.ptr 3 1 0),(5,.d (.int .i64 p))] [(2,.var [.d (.int .i64 p0.Op),.d (.int .i64 p0.Column),.d (.int .i64 p0.Code),.d (.int .i64 p0.Low),.d (.int .i64 p0.High),.d (Aj 6 Az p0.Kids)],1),(3,.var [.d (.int .i64 p1.Op),.d (.int .i64 p1.Column),.d (.int .i64 p1.Code),.d (.int .i64 p1.Low),.d (.int .i64 p1.High),.d (Aj 6 Az p1.Kids)],1)]) AZ fun _ _ v5_1 h=>?_
 simp only [QA] at h
 refine AH h (fun h=>?_) fun h=>?_
 ·conv=>whnf
  refine z13 ?_
  refine AJ (f:=Az) h fun x58 _ h=>?_
  rw [Aa x58]
  refine AJ (f:=Az) h fun x63 _ h=>?_
  rw [Aa x63]
  conv=>whnf
  refine Ag h fun x65 hx65 h=>?_
  first | refine Ak (ih_ref05_Same _ _ _ hx65) ?_ | (simp only [List.length_map]; refine Ak (ih_ref05_Same _ _ _ hx65) ?_)
  refine AH h (fun h=>?_) fun h=>?_
  ·exact z17
  exact z59
 exact z17
theorem QB:∀ d:Nat,(∀ (p0:As) (p1:As) (R:Bool) ,NM d p0 p1 = some R→Aw Tryz.prog 244 [.d (Ac p0),.d (Ac p1)] (.d (.bool R)))
 | 0=>by
  exact z37
 | d + 1=>by
  have ih:=QB d
  exact VV d _ ih
theorem XG (d:Nat):∀ (p0:As) (p1:As) (R:Bool) ,NM d p0 p1 = some R→Aw Tryz.prog 244 [.d (Ac p0),.d (Ac p1)] (.d (.bool R)):=QB d
theorem XL (d:Nat) (p0:As) (R:Bool) (h:Rx d p0 = some R):Aw Tryz.prog 185 [.d (Ac p0)] (.d (.bool R)):=by
 refine BA Tryz.func185 ?_
 unfold Rx at h
 conv=>whnf
 refine Ag h fun x5 hx5 h=>?_
 refine Ak (XG _ _ _ _ hx5) ?_
 exact z17
theorem Jw (d:Nat) (p0:Af) (p1:A9) (R:Int) (h:DG d p0 p1 = some R):Aw Tryz.prog 121 [.d (Ay p0),.d (AA p1)] (.d (.int .i64 R)):=by
 refine BA Tryz.func121 ?_
 unfold DG at h
 conv=>whnf
 refine Ag h fun x9 hx9 h=>?_
 refine Ak (D1 _ _ hx9) ?_
 refine Am h fun h=>?_
 conv=>whnf
 refine Ag h fun x15 hx15 h=>?_
 refine Ak (GJ _ _ hx15) ?_
 refine Am h fun h=>?_
 refine Am h fun h=>?_
 conv=>whnf
 refine Ag h fun x28 hx28 h=>?_
 refine Ak (Hm _ _ _ _ hx28) ?_
 refine Am h fun h=>?_
 conv=>whnf
 refine Ag h fun x34 hx34 h=>?_
 refine Ak (Wb _ _ _ _ hx34) ?_
 refine Am h fun h=>?_
 refine Am h fun h=>?_
 refine AQ h fun h=>?_
 refine Ag h fun x65 hx65 h=>?_
 refine Ak (XL _ _ _ hx65) ?_
 exact Dm h
end Go.Proofs.YtlpkhgkoihlghaaGreatDoor.P
