/- P3W8 -/
import Derived.Test.YtlpkhgkoihlghaaGreatDoorP3HW
set_option linter.unusedSimpArgs false
namespace Go.Proofs.YtlpkhgkoihlghaaGreatDoor.P
open Go.Abs Go.Proofs
set_option maxRecDepth 100000
set_option maxHeartbeats 4000000
set_option linter.unusedVariables false
theorem Kf (p0:(List (List Int))) (p1:(List Int)) (R:(List (List Int))) (h:FK p0 p1 = some R):Aw Tryz.prog 29 [.d (Aj 1 (Aj 1 (D.int .i64)) p0),.d (Aj 1 (D.int .i64) p1)] (.d (Aj 1 (Aj 1 (D.int .i64)) R)):=by
 refine BA Tryz.func29 ?_
 unfold FK at h
 conv=>whnf
 refine z5 h (fun p=>B0 56 [(0,.d (Aj 1 (Aj 1 (D.int .i64)) p0)),(1,.d (Aj 1 (D.int .i64) p1)),(5,.sl 5 1),(6,.d (.bool p.1)),(7,.d (.int .i64 p.2.1))] [(5,.row 1 30 (List.map (Aj 1 (D.int .i64)) p.2.2),1)]) Ai fun _ _ ⟨v6_1,v7_1,b5_1⟩ h=>?_
 simp only [KF] at h
 refine AH h (fun h=>?_) fun h=>?_
 ·conv=>whnf
  refine z13 ?_
  refine AJ (f:=(Aj 1 (D.int .i64))) h fun x16 _ h=>?_
  refine AJ (f:=(D.int .i64)) h fun x18 _ h=>?_
  refine AJ (f:=(D.int .i64)) h fun x21 _ h=>?_
  refine AH h (fun h=>?_) fun h=>?_
  ·exact z22
  conv=>whnf
  refine z13 ?_
  refine AJ (f:=(Aj 1 (D.int .i64))) h fun x26 _ h=>?_
  refine AJ (f:=(D.int .i64)) h fun x28 _ h=>?_
  refine AJ (f:=(D.int .i64)) h fun x31 _ h=>?_
  refine AH h (fun h=>?_) fun h=>?_
  ·conv=>whnf
   refine C4 h fun hr h=>?_
   refine z6 ?_
   try rw [N3]
   refine AJ (f:=(Aj 1 (D.int .i64))) h fun x45 hx45 h=>?_
   conv=>whnf
   refine C4 h fun hr h=>?_
   refine z6 ?_
   try rw [N3]
   exact z22
  refine AJ (f:=(Aj 1 (D.int .i64))) h fun x45 hx45 h=>?_
  conv=>whnf
  refine C4 h fun hr h=>?_
  refine z6 ?_
  try rw [N3]
  exact z22
 refine AH h (fun h=>?_) fun h=>?_
 ·conv=>whnf
  refine C4 h fun hr h=>?_
  refine z6 ?_
  try rw [N3]
  exact z35
 exact z35
theorem GJ (p0:ByteArray) (R:Bool) (h:D8 p0 = some R):Aw Tryz.prog 119 [.d (.str p0)] (.d (.bool R)):=by
 refine DY [3,8] Tryz.func119 (by kernel_rfl) ?_
 unfold D8 at h
 refine Th {p:Unit // MB p0 = some R} (fun p=>B0 70 [(0,.d (.str p0))] []) ?_ fun p=>?_
 ·refine Am h fun h=>?_
  refine C4 h fun hr h=>?_
  refine z12 ?_
  refine Am h fun h=>?_
  refine C4 h fun hr h=>?_
  refine z12 ?_
  exact z52
 obtain ⟨_,h⟩:=p
 simp only [MB] at h
 refine Th {p:Unit // MC p0 = some R} (fun p=>B0 70 [(0,.d (.str p0))] []) ?_ fun p=>?_
 ·conv=>whnf
  refine z5 h (fun p=>B0 70 [(0,.d (.str p0)),(3,.d (.int .i64 p))] []) Ai fun _ _ v3_1 h=>?_
  simp only [Q3] at h
  refine AH h (fun h=>?_) fun h=>?_
  ·conv=>whnf
   refine C4 h fun hr h=>?_
   refine z12 ?_
   refine AH h (fun h=>?_) fun h=>?_
   ·refine C4 h fun hr h=>?_
    refine z12 ?_
    refine AH h (fun h=>?_) fun h=>?_
    ·exact z42
    refine C4 h fun hr h=>?_
    refine z12 ?_
    refine AH h (fun h=>?_) fun h=>?_
    ·refine C4 h fun hr h=>?_
     refine z12 ?_
     refine AH h (fun h=>?_) fun h=>?_
     ·exact z42
     exact z50
    exact z50
   refine C4 h fun hr h=>?_
   refine z12 ?_
   refine AH h (fun h=>?_) fun h=>?_
   ·refine C4 h fun hr h=>?_
    refine z12 ?_
    refine AH h (fun h=>?_) fun h=>?_
    ·exact z42
    exact z50
   exact z50
  exact z36
 obtain ⟨_,h⟩:=p
 simp only [MC] at h
 conv=>whnf
 refine Qt h E4 (fun e37 h=>?_) (fun e37 h=>?_)
 ·conv=>whnf
  refine R1 E4 e37 ?_
  exact z60
 conv=>whnf
 refine Qt h E4 (fun e38 h=>?_) (fun e38 h=>?_)
 ·conv=>whnf
  refine R1 E4 e38 ?_
  exact z60
 conv=>whnf
 refine Qt h E4 (fun e39 h=>?_) (fun e39 h=>?_)
 ·conv=>whnf
  refine R1 E4 e39 ?_
  exact z60
 conv=>whnf
 refine Qt h E4 (fun e40 h=>?_) (fun e40 h=>?_)
 ·conv=>whnf
  refine R1 E4 e40 ?_
  exact z60
 conv=>whnf
 refine Qt h E4 (fun e41 h=>?_) (fun e41 h=>?_)
 ·conv=>whnf
  refine R1 E4 e41 ?_
  exact z60
 conv=>whnf
 refine Qt h E4 (fun e42 h=>?_) (fun e42 h=>?_)
 ·conv=>whnf
  refine R1 E4 e42 ?_
  exact z60
 conv=>whnf
 refine Qt h E4 (fun e43 h=>?_) (fun e43 h=>?_)
 ·conv=>whnf
  refine R1 E4 e43 ?_
  exact z60
 conv=>whnf
 refine Qt h E4 (fun e44 h=>?_) (fun e44 h=>?_)
 ·conv=>whnf
  refine R1 E4 e44 ?_
  exact z60
 conv=>whnf
 refine Qt h E4 (fun e45 h=>?_) (fun e45 h=>?_)
 ·conv=>whnf
  refine R1 E4 e45 ?_
  exact z60
 conv=>whnf
 refine Qt h E4 (fun e46 h=>?_) (fun e46 h=>?_)
 ·conv=>whnf
  refine R1 E4 e46 ?_
  exact z60
 exact Dm h
theorem Dd (p0:Ax) (p1:Int) (R:Int) (h:Dz p0 p1 = some R):Aw Tryz.prog 129 [.d (Ah p0),.d (.int .i64 p1)] (.d (.int .i64 R)):=by
 refine BA Tryz.func129 ?_
 unfold Dz at h
 conv=>whnf
 refine z5 h (fun p=>B0 22 [(1,.d (.int .i64 p.1)),(2,.ptr 2 1 0),(5,.d (.int .i64 p.2))] [(2,.var [.d (.str p0.Name),.d (Aj 2 AW p0.Codes)],1)]) Ai fun _ _ ⟨v1_1,v5_1⟩ h=>?_
 simp only [Pj] at h
 refine AJ (f:=AW) h fun x9 _ h=>?_
 refine AQ h fun h=>?_
 refine AJ (f:=AW) h fun x16 _ h=>?_
 exact z19
theorem XE (p0:Ax) (p1:Int) (R:Bool) (h:Rt p0 p1 = some R):Aw Tryz.prog 179 [.d (Ah p0),.d (.int .i64 p1)] (.d (.bool R)):=by
 refine BA Tryz.func179 ?_
 unfold Rt at h
 conv=>whnf
 refine z5 h (fun p=>B0 21 [(1,.d (.int .i64 p1)),(2,.ptr 2 1 0),(5,.d (.int .i64 p))] [(2,.var [.d (.str p0.Name),.d (Aj 2 AW p0.Codes)],1)]) Ai fun _ _ v5_1 h=>?_
 simp only [Q4] at h
 refine AQ h fun h=>?_
 refine AJ (f:=AW) h fun x16 _ h=>?_
 exact z18
theorem Hi (p0:Ax) (R:Int) (h:Ez p0 = some R):Aw Tryz.prog 117 [.d (Ah p0)] (.d (.int .i64 R)):=by
 refine DY [20] Tryz.func117 (by kernel_rfl) ?_
 unfold Ez at h
 conv=>whnf
 refine Ag h fun x10 hx10 h=>?_
 refine Ak (GJ _ _ hx10) ?_
 refine Am h fun h=>?_
 refine Am h fun h=>?_
 refine Am h fun h=>?_
 refine Th {p:Unit // LA p0 = some R} (fun p=>B0 100 [(1,.ptr 1 1 0)] [(1,.var [.d (.str p0.Name),.d (Aj 2 AW p0.Codes)],1)]) ?_ fun p=>?_
 ·conv=>whnf
  refine z5 h (fun p=>B0 100 [(1,.ptr 1 1 0),(3,.d (.int .i64 p))] [(1,.var [.d (.str p0.Name),.d (Aj 2 AW p0.Codes)],1)]) Ai fun _ _ v3_1 h=>?_
  simp only [Pe] at h
  refine AH h (fun h=>?_) fun h=>?_
  ·refine AJ (f:=AW) h fun x30 _ h=>?_
   conv=>whnf
   refine Ag h fun x33 hx33 h=>?_
   refine Ak (GJ _ _ hx33) ?_
   refine Am h fun h=>?_
   conv=>whnf
   refine z5 h (fun p=>B0 100 [(1,.ptr 1 1 0),(3,.d (.int .i64 v3_1)),(4,.d (.int .i64 p))] [(1,.var [.d (.str p0.Name),.d (Aj 2 AW p0.Codes)],1)]) Ai fun _ _ v4_2 h=>?_
   simp only [Pf] at h
   refine AH h (fun h=>?_) fun h=>?_
   ·conv=>whnf
    refine z13 ?_
    refine AJ (f:=AW) h fun x43 _ h=>?_
    refine AJ (f:=AW) h fun x49 _ h=>?_
    exact z18
   conv=>whnf
   try simp only [I2] at h
   refine AJ (f:=AW) h fun x56 _ h=>?_
   exact z18
  conv=>whnf
  try simp only [I2] at h
  exact ⟨⟨(),h⟩,Ai⟩
 obtain ⟨_,h⟩:=p
 simp only [LA] at h
 conv=>whnf
 refine z5 h (fun p=>B0 100 [(1,.ptr 1 1 0),(6,.d (.int .i64 p.1)),(7,.d (.int .i64 p.2))] [(1,.var [.d (.str p0.Name),.d (Aj 2 AW p0.Codes)],1)]) Ai fun _ _ ⟨v6_3,v7_3⟩ h=>?_
 simp only [Pg] at h
 refine AH h (fun h=>?_) fun h=>?_
 ·conv=>whnf
  refine Ag h fun x87 hx87 h=>?_
  refine Ak (XE _ _ _ hx87) ?_
  refine AH h (fun h=>?_) fun h=>?_
  ·refine AH h (fun h=>?_) fun h=>?_
   ·refine Ag h fun x93 hx93 h=>?_
    refine Ak (Dd _ _ _ hx93) ?_
    refine Am h fun h=>?_
    conv=>whnf
    refine Ag h fun x99 hx99 h=>?_
    refine Ak (Dd _ _ _ hx99) ?_
    exact z19
   refine Ag h fun x99 hx99 h=>?_
   refine Ak (Dd _ _ _ hx99) ?_
   exact z19
  exact z19
 conv=>whnf
 try simp only [I2] at h
 exact z60
theorem LB (p0:Ax) (R:Int) (h:E0 p0 = some R):Aw Tryz.prog 86 [.d (Ah p0)] (.d (.int .i64 R)):=by
 refine BA Tryz.func86 ?_
 unfold E0 at h
 conv=>whnf
 refine Ag h fun x4 hx4 h=>?_
 refine Ak (Hi _ _ hx4) ?_
 refine Am h fun h=>?_
 conv=>whnf
 refine Ag h fun x11 hx11 h=>?_
 first | refine Ak (Dd _ _ _ hx11) ?_ | (simp only [List.length_map]; refine Ak (Dd _ _ _ hx11) ?_)
 exact z60
theorem ZQ (p0:Ax) (p1:Int) (R:(List Int)) (h:Np p0 p1 = some R):Aw Tryz.prog 193 [.d (Ah p0),.d (.int .i64 p1)] (.d (Aj 1 (D.int .i64) R)):=by
 refine BA Tryz.func193 ?_
 unfold Np at h
 conv=>whnf
 refine Ag h fun x8 hx8 h=>?_
 refine Ak (Hi _ _ hx8) ?_
 refine AH h (fun h=>?_) fun h=>?_
 ·exact z35
 conv=>whnf
 refine z5 h (fun p=>B0 27 [(1,.d (.int .i64 p1)),(2,.ptr 2 1 0),(5,.sl 5 1),(6,.d (.int .i64 p.1))] [(2,.var [.d (.str p0.Name),.d (Aj 2 AW p0.Codes)],1),(5,.row 1 3 (List.map (D.int .i64) p.2),1)]) Ai fun _ _ ⟨v6_1,b5_1⟩ h=>?_
 simp only [TO] at h
 refine AH h (fun h=>?_) fun h=>?_
 ·conv=>whnf
  refine Ag h fun x19 hx19 h=>?_
  refine Ak (Dd _ _ _ hx19) ?_
  refine AH h (fun h=>?_) fun h=>?_
  ·exact z55
  exact z19
 exact z35
theorem LE (p0:Af) (p1:Int) (R:(List Int)) (h:Fw p0 p1 = some R):Aw Tryz.prog 135 [.d (Ay p0),.d (.int .i64 p1)] (.d (Aj 1 (D.int .i64) R)):=by
 refine BA Tryz.func135 ?_
 unfold Fw at h
 conv=>whnf
 refine z13 ?_
 refine AJ (f:=Al) h fun x11 _ h=>?_
 refine AJ (f:=Ah) h fun x14 _ h=>?_
 conv=>whnf
 refine z13 ?_
 conv=>whnf
 refine Ag h fun x18 hx18 h=>?_
 refine Ak (LB _ _ hx18) ?_
 conv=>whnf
 refine Ag h fun x20 hx20 h=>?_
 refine Ak (ZQ _ _ _ hx20) ?_
 exact z60
theorem GL (p0:Aq) (p1:Int) (R:Int) (h:Cr p0 p1 = some R):Aw Tryz.prog 26 [.d (B8 p0),.d (.int .i64 p1)] (.d (.int .i64 R)):=by
 refine BA Tryz.func26 ?_
 unfold Cr at h
 conv=>whnf
 refine z5 h (fun p=>B0 32 [(1,.d (.int .i64 p1)),(2,.ptr 2 1 0),(5,.d (.int .i64 p))] [(2,.var [.d (Aj 2 Ah p0.Schema.Lists),.d (Aj 7 Al p0.Schema.Columns),.d (Aj 1 (Aj 1 (D.int .i64)) p0.Rows),.d (Aj 1 (D.int .i64) p0.Gone),.d (.int .i64 p0.Version)],1)]) Ai fun _ _ v5_1 h=>?_
 simp only [Hl] at h
 refine AQ h fun h=>?_
 refine AJ (f:=(Aj 1 (D.int .i64))) h fun x16 _ h=>?_
 refine AH h (fun h=>?_) fun h=>?_
 ·refine AJ (f:=(Aj 1 (D.int .i64))) h fun x24 _ h=>?_
  refine AJ (f:=(D.int .i64)) h fun x26 _ h=>?_
  exact z18
 exact z42
theorem CU (p0:Int) (p1:Int) (p2:Int) (R:Bool) (h:DF p0 p1 p2 = some R):Aw Tryz.prog 72 [.d (.int .i64 p0),.d (.int .i64 p1),.d (.int .i64 p2)] (.d (.bool R)):=by
 refine BA Tryz.func72 ?_
 unfold DF at h
 exact z60
theorem Ug (p0:A3) (R:Int) (h:Hk p0 = some R):Aw Tryz.prog 180 [.d (Al p0)] (.d (.int .i64 R)):=by
 refine DY [3] Tryz.func180 (by kernel_rfl) ?_
 unfold Hk at h
 refine Th {p:Unit // GK p0 = some R} (fun p=>B0 79 [(1,.ptr 1 1 0)] [(1,.var [.d (.str p0.Name),.d (.int .i64 p0.Kind),.d (.int .i64 p0.List_),.d (.int .i64 p0.Low),.d (.int .i64 p0.High),.d (Aj 1 (D.int .i64) p0.Widths),.d (.bool p0.Optional)],1)]) ?_ fun p=>?_
 ·conv=>whnf
  refine Ag h fun x7 hx7 h=>?_
  refine Ak (CU _ _ _ _ hx7) ?_
  refine Am h fun h=>?_
  refine Ag h fun x12 hx12 h=>?_
  refine Ak (CU _ _ _ _ hx12) ?_
  exact z52
 obtain ⟨_,h⟩:=p
 simp only [GK] at h
 refine Am h fun h=>?_
 conv=>whnf
 refine z5 h (fun p=>B0 79 [(1,.ptr 1 1 0),(3,.d (.int .i64 p))] [(1,.var [.d (.str p0.Name),.d (.int .i64 p0.Kind),.d (.int .i64 p0.List_),.d (.int .i64 p0.Low),.d (.int .i64 p0.High),.d (Aj 1 (D.int .i64) p0.Widths),.d (.bool p0.Optional)],1)]) Ai fun _ _ v3_1 h=>?_
 simp only [Nt] at h
 refine AQ h fun h=>?_
 refine AJ (f:=(D.int .i64)) h fun x42 _ h=>?_
 refine Am h fun h=>?_
 refine AH h (fun h=>?_) fun h=>?_
 ·refine AJ (f:=(D.int .i64)) h fun x59 _ h=>?_
  refine Am h fun h=>?_
  refine AJ (f:=(D.int .i64)) h fun x72 _ h=>?_
  conv=>whnf
  exact z50
 exact z42
theorem Vl (p0:Af) (p1:Int) (R:Int) (h:I8 p0 p1 = some R):Aw Tryz.prog 118 [.d (Ay p0),.d (.int .i64 p1)] (.d (.int .i64 R)):=by
 refine DY [9,13] Tryz.func118 (by kernel_rfl) ?_
 unfold I8 at h
 refine AJ (f:=Al) h fun x11 _ h=>?_
 conv=>whnf
 refine Ag h fun x15 hx15 h=>?_
 refine Ak (GJ _ _ hx15) ?_
 refine Am h fun h=>?_
 refine Th {p:Unit // Hy x11 p1 p0 = some R} (fun p=>B0 98 [(1,.d (.int .i64 p1)),(2,.ptr 2 1 0),(5,.ptr 5 1 0)] [(2,.var [.d (Aj 2 Ah p0.Lists),.d (Aj 7 Al p0.Columns)],1),(5,.var [.d (.str x11.Name),.d (.int .i64 x11.Kind),.d (.int .i64 x11.List_),.d (.int .i64 x11.Low),.d (.int .i64 x11.High),.d (Aj 1 (D.int .i64) x11.Widths),.d (.bool x11.Optional)],1)]) ?_ fun p=>?_
 ·conv=>whnf
  refine z5 h (fun p=>B0 98 [(1,.d (.int .i64 p1)),(2,.ptr 2 1 0),(5,.ptr 5 1 0),(6,.d (.int .i64 p))] [(2,.var [.d (Aj 2 Ah p0.Lists),.d (Aj 7 Al p0.Columns)],1),(5,.var [.d (.str x11.Name),.d (.int .i64 x11.Kind),.d (.int .i64 x11.List_),.d (.int .i64 x11.Low),.d (.int .i64 x11.High),.d (Aj 1 (D.int .i64) x11.Widths),.d (.bool x11.Optional)],1)]) Ai fun _ _ v6_1 h=>?_
  simp only [Hx] at h
  refine AH h (fun h=>?_) fun h=>?_
  ·conv=>whnf
   refine z13 ?_
   refine AJ (f:=Al) h fun x25 _ h=>?_
   exact z18
  exact z36
 obtain ⟨_,h⟩:=p
 simp only [Hy] at h
 conv=>whnf
 refine Ag h fun x33 hx33 h=>?_
 refine Ak (CU _ _ _ _ hx33) ?_
 refine Am h fun h=>?_
 refine Th {p:Unit // Eh x11 = some R} (fun p=>B0 98 [(5,.ptr 5 1 0)] [(5,.var [.d (.str x11.Name),.d (.int .i64 x11.Kind),.d (.int .i64 x11.List_),.d (.int .i64 x11.Low),.d (.int .i64 x11.High),.d (Aj 1 (D.int .i64) x11.Widths),.d (.bool x11.Optional)],1)]) ?_ fun p=>?_
 ·refine AH h (fun h=>?_) fun h=>?_
  ·refine Ag h fun x54 hx54 h=>?_
   first | refine Ak (CU _ _ _ _ hx54) ?_ | (simp only [List.length_map]; refine Ak (CU _ _ _ _ hx54) ?_)
   exact z52
  exact ⟨⟨(),h⟩,Ai⟩
 obtain ⟨_,h⟩:=p
 simp only [Eh] at h
 refine AH h (fun h=>?_) fun h=>?_
 ·conv=>whnf
  refine Ag h fun x61 hx61 h=>?_
  refine Ak (Ug _ _ hx61) ?_
  refine Am h fun h=>?_
  exact Dm h
 exact Dm h
theorem D1 (p0:Af) (R:Int) (h:C8 p0 = some R):Aw Tryz.prog 64 [.d (Ay p0)] (.d (.int .i64 R)):=by
 refine DY [14] Tryz.func64 (by kernel_rfl) ?_
 unfold C8 at h
 refine Am h fun h=>?_
 refine Th {p:Unit // I6 p0 = some R} (fun p=>B0 77 [(1,.ptr 1 1 0)] [(1,.var [.d (Aj 2 Ah p0.Lists),.d (Aj 7 Al p0.Columns)],1)]) ?_ fun p=>?_
 ·conv=>whnf
  refine z5 h (fun p=>B0 77 [(1,.ptr 1 1 0),(3,.d (.int .i64 p))] [(1,.var [.d (Aj 2 Ah p0.Lists),.d (Aj 7 Al p0.Columns)],1)]) Ai fun _ _ v3_1 h=>?_
  simp only [I3] at h
  refine AH h (fun h=>?_) fun h=>?_
  ·refine AJ (f:=Ah) h fun x28 _ h=>?_
   conv=>whnf
   refine Ag h fun x30 hx30 h=>?_
   refine Ak (Hi _ _ hx30) ?_
   refine Am h fun h=>?_
   conv=>whnf
   refine z5 h (fun p=>B0 77 [(1,.ptr 1 1 0),(3,.d (.int .i64 v3_1)),(5,.d (.int .i64 p))] [(1,.var [.d (Aj 2 Ah p0.Lists),.d (Aj 7 Al p0.Columns)],1)]) Ai fun _ _ v5_2 h=>?_
   simp only [I4] at h
   refine AH h (fun h=>?_) fun h=>?_
   ·conv=>whnf
    refine z13 ?_
    refine AJ (f:=Ah) h fun x42 _ h=>?_
    refine AJ (f:=Ah) h fun x48 _ h=>?_
    exact z18
   conv=>whnf
   try simp only [ref02_Check_k1] at h
   exact z42
  conv=>whnf
  try simp only [ref02_Check_k1] at h
  exact ⟨⟨(),h⟩,Ai⟩
 obtain ⟨_,h⟩:=p
 simp only [I6] at h
 refine Am h fun h=>?_
 refine AJ (f:=Al) h fun x59 _ h=>?_
 refine Am h fun h=>?_
 conv=>whnf
 refine z5 h (fun p=>B0 77 [(1,.ptr 1 1 0),(6,.d (.int .i64 p))] [(1,.var [.d (Aj 2 Ah p0.Lists),.d (Aj 7 Al p0.Columns)],1)]) Ai fun _ _ v6_3 h=>?_
 simp only [I5] at h
 refine AH h (fun h=>?_) fun h=>?_
 ·conv=>whnf
  refine Ag h fun x73 hx73 h=>?_
  refine Ak (Vl _ _ _ hx73) ?_
  exact z18
 conv=>whnf
 try simp only [ref02_Check_k1] at h
 exact z60
theorem MA (p0:Ax) (p1:Int) (R:Int) (h:Gp p0 p1 = some R):Aw Tryz.prog 128 [.d (Ah p0),.d (.int .i64 p1)] (.d (.int .i64 R)):=by
 refine BA Tryz.func128 ?_
 unfold Gp at h
 conv=>whnf
 refine Ag h fun x6 hx6 h=>?_
 refine Ak (Hi _ _ hx6) ?_
 refine Am h fun h=>?_
 conv=>whnf
 refine Ag h fun x21 hx21 h=>?_
 refine Ak (Dd _ _ _ hx21) ?_
 exact z60
theorem Q5 (p0:Af) (p1:Int) (p2:Int) (R:Bool) (h:HV p0 p1 p2 = some R):Aw Tryz.prog 73 [.d (Ay p0),.d (.int .i64 p1),.d (.int .i64 p2)] (.d (.bool R)):=by
 refine BA Tryz.func73 ?_
 unfold HV at h
 refine AJ (f:=Al) h fun x12 _ h=>?_
 refine AH h (fun h=>?_) fun h=>?_
 ·conv=>whnf
  refine Ag h fun x19 hx19 h=>?_
  refine Ak (CU _ _ _ _ hx19) ?_
  exact z60
 refine AH h (fun h=>?_) fun h=>?_
 ·refine AJ (f:=Ah) h fun x26 _ h=>?_
  conv=>whnf
  refine z13 ?_
  conv=>whnf
  refine Ag h fun x33 hx33 h=>?_
  first | refine Ak (CU _ _ _ _ hx33) ?_ | (simp only [List.length_map]; refine Ak (CU _ _ _ _ hx33) ?_)
  refine AQ h fun h=>?_
  refine Ag h fun x37 hx37 h=>?_
  refine Ak (MA _ _ _ hx37) ?_
  conv=>whnf
  refine Ag h fun x39 hx39 h=>?_
  refine Ak (LB _ _ hx39) ?_
  exact z60
 refine Am h fun h=>?_
 refine Ag h fun x55 hx55 h=>?_
 refine Ak (CU _ _ _ _ hx55) ?_
 exact z60
theorem Mi (p0:Af) (p1:(List Int)) (R:Int) (h:FJ p0 p1 = some R):Aw Tryz.prog 62 [.d (Ay p0),.d (Aj 1 (D.int .i64) p1)] (.d (.int .i64 R)):=by
 refine BA Tryz.func62 ?_
 unfold FJ at h
 conv=>whnf
 refine Ag h fun x8 hx8 h=>?_
 refine Ak (D1 _ _ hx8) ?_
 refine Am h fun h=>?_
 refine Am h fun h=>?_
 conv=>whnf
 refine z5 h (fun p=>B0 32 [(1,.d (Aj 1 (D.int .i64) p1)),(2,.ptr 2 1 0),(6,.d (.int .i64 p))] [(2,.var [.d (Aj 2 Ah p0.Lists),.d (Aj 7 Al p0.Columns)],1)]) Ai fun _ _ v6_1 h=>?_
 simp only [KE] at h
 refine AQ h fun h=>?_
 conv=>whnf
 refine z13 ?_
 refine AJ (f:=(D.int .i64)) h fun x28 _ h=>?_
 conv=>whnf
 refine Ag h fun x30 hx30 h=>?_
 refine Ak (Q5 _ _ _ _ hx30) ?_
 exact z18
end Go.Proofs.YtlpkhgkoihlghaaGreatDoor.P
