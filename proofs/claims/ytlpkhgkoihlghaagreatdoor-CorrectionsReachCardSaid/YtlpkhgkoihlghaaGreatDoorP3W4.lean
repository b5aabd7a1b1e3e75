/- P3W4 -/
import Derived.Test.YtlpkhgkoihlghaaGreatDoorP3W3
set_option linter.unusedSimpArgs false
namespace Go.Proofs.YtlpkhgkoihlghaaGreatDoor.P
open Go.Abs Go.Proofs
set_option maxRecDepth 100000
set_option maxHeartbeats 4000000
set_option linter.unusedVariables false
theorem Qg (d:Nat) (p0:Af) (p1:A6) (R:Int) (h:Eo d p0 p1 = some R):Aw Tryz.prog 98 [.d (Ay p0),.d (BF p1)] (.d (.int .i64 R)):=by
 refine DY [6] Tryz.func98 (by kernel_rfl) ?_
 unfold Eo at h
 conv=>whnf
 refine Ag h fun x12 hx12 h=>?_
 refine Ak (DI _ _ hx12) ?_
 refine Am h fun h=>?_
 refine Th {p:Unit // Er d p0 p1 = some R} (fun p=>B0 98 [(2,.ptr 2 1 0),(3,.ptr 3 1 0)] [(2,.var [.d (Aj 2 Ah p0.Lists),.d (Aj 7 Al p0.Columns)],1),(3,.var [.d (.str p1.Project),.d (.str p1.Source),.d (.int .i64 p1.Cohort.Op),.d (.int .i64 p1.Cohort.Column),.d (.int .i64 p1.Cohort.Code),.d (.int .i64 p1.Cohort.Low),.d (.int .i64 p1.Cohort.High),.d (Aj 6 Az p1.Cohort.Kids),.d (.int .i64 p1.Sample.Part),.d (.int .i64 p1.Sample.Of),.d (.int .i64 p1.Sample.Seed),.d (Aj 17 AA p1.Questions)],1)]) ?_ fun p=>?_
 ·conv=>whnf
  refine Ag h fun x18 hx18 h=>?_
  refine Ak (G5 _ _ hx18) ?_
  refine Am h fun h=>?_
  refine Ag h fun x23 hx23 h=>?_
  refine Ak (G5 _ _ hx23) ?_
  exact z52
 obtain ⟨_,h⟩:=p
 simp only [Er] at h
 conv=>whnf
 refine Ag h fun x29 hx29 h=>?_
 refine Ak (FV _ _ _ _ hx29) ?_
 refine Am h fun h=>?_
 refine Am h fun h=>?_
 refine Am h fun h=>?_
 conv=>whnf
 refine z5 h (fun p=>B0 98 [(2,.ptr 2 1 0),(3,.ptr 3 1 0),(78,.d (Aj 17 AA p1.Questions)),(79,.d (.int .i64 ((p1.Questions.length:Nat):Int))),(80,.d (.int .i64 p))] [(2,.var [.d (Aj 2 Ah p0.Lists),.d (Aj 7 Al p0.Columns)],1),(3,.var [.d (.str p1.Project),.d (.str p1.Source),.d (.int .i64 p1.Cohort.Op),.d (.int .i64 p1.Cohort.Column),.d (.int .i64 p1.Cohort.Code),.d (.int .i64 p1.Cohort.Low),.d (.int .i64 p1.Cohort.High),.d (Aj 6 Az p1.Cohort.Kids),.d (.int .i64 p1.Sample.Part),.d (.int .i64 p1.Sample.Of),.d (.int .i64 p1.Sample.Seed),.d (Aj 17 AA p1.Questions)],1)]) Ai fun _ _ v80_1 h=>?_
 simp only [Ep] at h
 refine AQ h fun h=>?_
 refine AJ (f:=AA) h fun x83 _ h=>?_
 conv=>whnf
 refine Ag h fun x87 hx87 h=>?_
 refine Ak (Iu _ _ _ _ hx87) ?_
 refine Am h fun h=>?_
 conv=>whnf
 refine C4 h fun hr h=>?_
 refine z8 ?_
 try simp only [List.length_map]
 rw [VJ]
 conv=>whnf
 refine Ag h fun x96 hx96 h=>?_
 refine Ak (Eb _ _ _ _ _ (fun a0 _ h=>NA a0 _ _ h) hx96) ?_
 exact z18
theorem Vy (p0:Af) (p1:(List Ap)) (R:Int) (h:IW p0 p1 = some R):Aw Tryz.prog 99 [.d (Ay p0),.d (Aj 2 An p1)] (.d (.int .i64 R)):=by
 refine BA Tryz.func99 ?_
 unfold IW at h
 conv=>whnf
 refine Ag h fun x10 hx10 h=>?_
 refine Ak (DI _ _ hx10) ?_
 refine Am h fun h=>?_
 conv=>whnf
 refine z5 h (fun p=>B0 41 [(1,.d (Aj 2 An p1)),(2,.ptr 2 1 0),(14,.d (Aj 2 An p1)),(15,.d (.int .i64 ((p1.length:Nat):Int))),(16,.d (.int .i64 p))] [(2,.var [.d (Aj 2 Ah p0.Lists),.d (Aj 7 Al p0.Columns)],1)]) Ai fun _ _ v16_1 h=>?_
 simp only [H9] at h
 refine AQ h fun h=>?_
 refine AJ (f:=An) h fun x19 _ h=>?_
 conv=>whnf
 refine Ag h fun x23 hx23 h=>?_
 refine Ak (QO _ _ _ hx23) ?_
 refine Am h fun h=>?_
 conv=>whnf
 refine z13 ?_
 refine AH h (fun h=>?_) fun h=>?_
 ·refine AJ (f:=An) h fun x35 _ h=>?_
  exact z18
 exact z42
theorem M1 (p0:Ap) (q0:Ap) (R:Bool) (h:Fa p0 q0 = some R):Aw Tryz.prog 218 [.d (An p0),.d (.ptr [(.int .i64 q0.Column),(.int .i64 q0.Level)])] (.d (.bool R)):=by
 refine BA Tryz.func218 ?_
 unfold Fa at h
 exact z60
theorem Ou (p0:Ap) (q0:(List Ap)) (R:Bool) (h:GZ p0 q0 = some R):Aw Tryz.prog 217 [.d (An p0),.d (.ptr [(Aj 2 An q0)])] (.d (.bool R)):=by
 refine BA Tryz.func217 ?_
 unfold GZ at h
 conv=>whnf
 refine Ag h fun x6 hx6 h=>?_
 refine Ak (BW _ _ _ _ _ (fun a0 _ h=>M1 a0 _ _ h) hx6) ?_
 exact z60
theorem QU (p0:(List Ap)) (p1:(List Ap)) (R:Bool) (h:G6 p0 p1 = some R):Aw Tryz.prog 155 [.d (Aj 2 An p0),.d (Aj 2 An p1)] (.d (.bool R)):=by
 refine BA Tryz.func155 ?_
 unfold G6 at h
 conv=>whnf
 refine Ag h fun x7 hx7 h=>?_
 refine Ak (BW _ _ _ _ _ (fun a0 _ h=>Ou a0 _ _ h) hx7) ?_
 exact z60
theorem Sr (p0:(List Ap)) (p1:(List Ap)) (R:Bool) (h:Hu p0 p1 = some R):Aw Tryz.prog 100 [.d (Aj 2 An p0),.d (Aj 2 An p1)] (.d (.bool R)):=by
 refine BA Tryz.func100 ?_
 unfold Hu at h
 conv=>whnf
 refine Ag h fun x7 hx7 h=>?_
 refine Ak (QU _ _ _ hx7) ?_
 exact z60
theorem Kt (p0:Af) (p1:Int) (R:Int) (h:E7 p0 p1 = some R):Aw Tryz.prog 106 [.d (Ay p0),.d (.int .i64 p1)] (.d (.int .i64 R)):=by
 refine BA Tryz.func106 ?_
 unfold E7 at h
 conv=>whnf
 refine Ag h fun x6 hx6 h=>?_
 refine Ak (DI _ _ hx6) ?_
 refine Am h fun h=>?_
 conv=>whnf
 refine Ag h fun x10 hx10 h=>?_
 refine Ak (On _ _ _ hx10) ?_
 exact z60
theorem Mh (p0:(List (List Ap))) (R:(List Ap)) (h:Hw p0 = some R):Aw Tryz.prog 157 [.d (Aj 1 (Aj 2 An) p0)] (.d (Aj 2 An R)):=by
 refine BA Tryz.func157 ?_
 unfold Hw at h
 conv=>whnf
 refine z5 h (fun p=>B0 59 [(3,.sl 11 1),(4,.d (.int .i64 p.1)),(12,.d (Aj 1 (Aj 2 An) p0)),(13,.d (.int .i64 ((p0.length:Nat):Int))),(14,.d (.int .i64 p.2.1))] [(11,.map (cH .i64 (D.int .i64) p.2.2),1)]) Ai fun _ _ ⟨v4_1,v14_1,b11_1⟩ h=>?_
 simp only [L6] at h
 refine AH h (fun h=>?_) fun h=>?_
 ·refine AJ (f:=(Aj 2 An)) h fun x16 _ h=>?_
  conv=>whnf
  refine z5 h (fun p=>B0 59 [(3,.sl 11 1),(4,.d (.int .i64 p.1)),(12,.d (Aj 1 (Aj 2 An) p0)),(13,.d (.int .i64 ((p0.length:Nat):Int))),(14,.d (.int .i64 v14_1)),(18,.d (Aj 2 An x16)),(19,.d (.int .i64 ((x16.length:Nat):Int))),(20,.d (.int .i64 p.2.1))] [(11,.map (cH .i64 (D.int .i64) p.2.2),1)]) Ai fun _ _ ⟨v4_2,v20_2,b11_2⟩ h=>?_
  simp only [L8] at h
  refine AH h (fun h=>?_) fun h=>?_
  ·refine AJ (f:=An) h fun x22 _ h=>?_
   conv=>whnf
   refine z13 ?_
   conv=>whnf
   refine ⟨⟨by kernel_rfl,Nm .i64 (D.int .i64) x22.Column b11_2⟩,?_⟩
   conv=>whnf
   refine Sq (f:=(D.int .i64)) (es:=b11_2) (z:=0) ?_
   conv=>whnf
   refine ⟨⟨by rfl,by kernel_rfl,Nm .i64 (D.int .i64) x22.Column b11_2⟩,?_⟩
   conv=>whnf
   try rw [XY .i64 (D.int .i64) x22.Column (if x22.Level > ((OO x22.Column b11_2).getD 0) then x22.Level else ((OO x22.Column b11_2).getD 0))]
   exact Bn ⟨(_,(_,_,_)),h⟩ Ai
  exact z22
 conv=>whnf
 refine z5 h (fun p=>B0 59 [(3,.sl 11 1),(9,.sl 9 1),(41,.d (.int .i64 (IntKind.i64.wrap (v4_1 + 1)))),(42,.d (.int .i64 p.1))] [(9,.row 2 85 (List.map An p.2),1),(11,.map (cH .i64 (D.int .i64) b11_1),1)]) Ai fun _ _ ⟨v42_3,b9_3⟩ h=>?_
 simp only [L9] at h
 refine AH h (fun h=>?_) fun h=>?_
 ·conv=>whnf
  refine ⟨⟨by kernel_rfl,Nm .i64 (D.int .i64) v42_3 b11_1⟩,?_⟩
  conv=>whnf
  refine Sq (f:=(D.int .i64)) (es:=b11_1) (z:=0) ?_
  refine AH h (fun h=>?_) fun h=>?_
  ·conv=>whnf
   refine ⟨⟨by kernel_rfl,Nm .i64 (D.int .i64) v42_3 b11_1⟩,?_⟩
   conv=>whnf
   refine Sq (f:=(D.int .i64)) (es:=b11_1) (z:=0) ?_
   conv=>whnf
   exact z51
  exact z19
 exact z35
theorem ML (p0:Int) (p1:Int) (R:Int) (h:Gw p0 p1 = some R):Aw Tryz.prog 109 [.d (.int .i64 p0),.d (.int .i64 p1)] (.d (.int .i64 R)):=by
 refine BA Tryz.func109 ?_
 unfold Gw at h
 exact z49
theorem PE (p0:A3) (p1:Int) (R:Int) (h:GQ p0 p1 = some R):Aw Tryz.prog 110 [.d (Al p0),.d (.int .i64 p1)] (.d (.int .i64 R)):=by
 refine BA Tryz.func110 ?_
 unfold GQ at h
 refine AJ (f:=(D.int .i64)) h fun x12 _ h=>?_
 exact z60
theorem UA (p0:Ax) (p1:Int) (R:(List Int)) (h:MS p0 p1 = some R):Aw Tryz.prog 278 [.d (Ah p0),.d (.int .i64 p1)] (.d (Aj 1 (D.int .i64) R)):=by
 refine BA Tryz.func278 ?_
 unfold MS at h
 conv=>whnf
 refine Ag h fun x9 hx9 h=>?_
 refine Ak (J5 _ _ hx9) ?_
 refine AH h (fun h=>?_) fun h=>?_
 ·exact z35
 conv=>whnf
 refine Ag h fun x12 hx12 h=>?_
 refine Ak (Gb _ _ hx12) ?_
 conv=>whnf
 refine z5 h (fun p=>B0 28 [(1,.d (.int .i64 p1)),(5,.sl 5 1),(12,.d (Aj 1 (D.int .i64) x12)),(13,.d (.int .i64 ((x12.length:Nat):Int))),(14,.d (.int .i64 p.1))] [(5,.row 1 3 (List.map (D.int .i64) p.2),1)]) Ai fun _ _ ⟨v14_1,b5_1⟩ h=>?_
 simp only [T4] at h
 refine AH h (fun h=>?_) fun h=>?_
 ·refine AJ (f:=(D.int .i64)) h fun x17 _ h=>?_
  refine AH h (fun h=>?_) fun h=>?_
  ·exact z55
  exact z19
 exact z35
theorem Om (p0:Af) (p1:Int) (p2:Int) (R:Int) (h:JK p0 p1 p2 = some R):Aw Tryz.prog 264 [.d (Ay p0),.d (.int .i64 p1),.d (.int .i64 p2)] (.d (.int .i64 R)):=by
 refine BA Tryz.func264 ?_
 unfold JK at h
 refine AJ (f:=Al) h fun x13 _ h=>?_
 refine AH h (fun h=>?_) fun h=>?_
 ·refine AJ (f:=Ah) h fun x22 _ h=>?_
  conv=>whnf
  refine Ag h fun x25 hx25 h=>?_
  refine Ak (UA _ _ _ hx25) ?_
  exact z60
 refine Am h fun h=>?_
 conv=>whnf
 refine Ag h fun x31 hx31 h=>?_
 refine Ak (PE _ _ _ hx31) ?_
 conv=>whnf
 refine z13 ?_
 conv=>whnf
 refine Ag h fun x35 hx35 h=>?_
 refine Ak (ML _ _ _ hx35) ?_
 conv=>whnf
 refine Ag h fun x39 hx39 h=>?_
 refine Ak (ML _ _ _ hx39) ?_
 exact z49
theorem PC (p0:Af) (p1:Int) (p2:Int) (R:Int) (h:GP p0 p1 p2 = some R):Aw Tryz.prog 219 [.d (Ay p0),.d (.int .i64 p1),.d (.int .i64 p2)] (.d (.int .i64 R)):=by
 refine BA Tryz.func219 ?_
 unfold GP at h
 conv=>whnf
 refine Ag h fun x10 hx10 h=>?_
 refine Ak (Kt _ _ _ hx10) ?_
 refine Am h fun h=>?_
 conv=>whnf
 refine z5 h (fun p=>B0 35 [(1,.d (.int .i64 p1)),(2,.d (.int .i64 p)),(3,.ptr 3 1 0)] [(3,.var [.d (Aj 2 Ah p0.Lists),.d (Aj 7 Al p0.Columns)],1)]) Ai fun _ _ v2_1 h=>?_
 simp only [Ku] at h
 conv=>whnf
 refine z13 ?_
 refine AQ h fun h=>?_
 refine Ag h fun x25 hx25 h=>?_
 refine Ak (Om _ _ _ _ hx25) ?_
 conv=>whnf
 refine Ag h fun x29 hx29 h=>?_
 refine Ak (Om _ _ _ _ hx29) ?_
 refine AQ h fun h=>?_
 conv=>whnf
 exact z42
theorem Tk (p0:A9) (p1:Int) (R:Bool) (h:I1 p0 p1 = some R):Aw Tryz.prog 220 [.d (AA p0),.d (.int .i64 p1)] (.d (.bool R)):=by
 refine BA Tryz.func220 ?_
 unfold I1 at h
 refine AQ h fun h=>?_
 refine Am h fun h=>?_
 refine Ag h fun x16 hx16 h=>?_
 refine Ak (DK _ _ _ hx16) ?_
 exact z60
theorem SB (p0:A9) (R:(List As)) (h:Kr p0 = some R):Aw Tryz.prog 221 [.d (AA p0)] (.d (Aj 6 Az R)):=by
 refine BA Tryz.func221 ?_
 unfold Kr at h
 refine AH h (fun h=>?_) fun h=>?_
 ·conv=>whnf
  exact z30
 conv=>whnf
 exact z30
theorem QT (d:Nat) (self_condition_Atoms:(As→Option (List As))) (ih_condition_Atoms:∀ (p0:As) (R:(List As)) ,self_condition_Atoms p0 = some R→Aw Tryz.prog 265 [.d (Ac p0)] (.d (Aj 6 Az R))) (p0:As) (R:(List As)) (h:Ip d self_condition_Atoms p0 = some R):Aw Tryz.prog 265 [.d (Ac p0)] (.d (Aj 6 Az R)):=by
 refine BA Tryz.func265 ?_
 unfold Ip at h
 refine AH h (fun h=>?_) fun h=>?_
 ·conv=>whnf
  exact z30
 conv=>whnf
 refine z5 h (fun p=>B0 34 [(3,.sl 3 1),(22,.d (Aj 6 Az p0.Kids)),(23,.d (.int .i64 ((p0.Kids.length:Nat):Int))),(24,.d (.int .i64 p.1))] [(3,.row 6 36 (List.map Az p.2),1)]) Ut fun _ _ ⟨v24_1,b3_1⟩ h=>?_
 simp only [Li] at h
 refine AH h (fun h=>?_) fun h=>?_
 ·refine AJ (f:=Az) h fun x26 _ h=>?_
  rw [Aa x26]
  conv=>whnf
  refine Ag h fun x30 hx30 h=>?_
  first | refine Ak (ih_condition_Atoms _ _ hx30) ?_ | (simp only [List.length_map]; refine Ak (ih_condition_Atoms _ _ hx30) ?_)
  conv=>whnf
  refine C4 h fun hr h=>?_
  refine z6 ?_
  try rw [fh]
  conv=>whnf
  exact Bn ⟨(_,(_,_)),h⟩ Ut
 conv=>whnf
 exact z30
theorem Lj:∀ d:Nat,(∀ (p0:As) (R:(List As)) ,Hr d p0 = some R→Aw Tryz.prog 265 [.d (Ac p0)] (.d (Aj 6 Az R)))
 | 0=>by
  exact z37
 | d + 1=>by
  have ih:=Lj d
  exact QT d _ ih
theorem RH (d:Nat):∀ (p0:As) (R:(List As)) ,Hr d p0 = some R→Aw Tryz.prog 265 [.d (Ac p0)] (.d (Aj 6 Az R)):=Lj d
theorem O9 (p0:Ax) (p1:Int) (R:Bool) (h:MU p0 p1 = some R):Aw Tryz.prog 166 [.d (Ah p0),.d (.int .i64 p1)] (.d (.bool R)):=by
 refine BA Tryz.func166 ?_
 unfold MU at h
 refine AQ h fun h=>?_
 refine Ag h fun x16 hx16 h=>?_
 refine Ak (J5 _ _ hx16) ?_
 exact z60
theorem QS (p0:Ax) (p1:Int) (p2:Int) (R:Int) (h:Lh p0 p1 p2 = some R):Aw Tryz.prog 108 [.d (Ah p0),.d (.int .i64 p1),.d (.int .i64 p2)] (.d (.int .i64 R)):=by
 refine BA Tryz.func108 ?_
 unfold Lh at h
 conv=>whnf
 refine Ag h fun x10 hx10 h=>?_
 refine Ak (O9 _ _ _ hx10) ?_
 refine Am h fun h=>?_
 conv=>whnf
 refine Ag h fun x17 hx17 h=>?_
 refine Ak (Gb _ _ hx17) ?_
 refine AJ (f:=(D.int .i64)) h fun x19 _ h=>?_
 conv=>whnf
 refine z5 h (fun p=>B0 36 [(1,.d (.int .i64 p.1)),(2,.d (.int .i64 p2)),(3,.ptr 3 1 0),(7,.d (.int .i64 p.2))] [(3,.var [.d (.str p0.Name),.d (Aj 2 AW p0.Codes)],1)]) Ai fun _ _ ⟨v1_1,v7_1⟩ h=>?_
 simp only [T5] at h
 refine AQ h fun h=>?_
 refine Am h fun h=>?_
 refine AJ (f:=AW) h fun x33 _ h=>?_
 exact z19
theorem It (p0:Bool) (R:Int) (h:F7 p0 = some R):Aw Tryz.prog 223 [.d (.bool p0)] (.d (.int .i64 R)):=by
 refine BA Tryz.func223 ?_
 unfold F7 at h
 exact Dm h
theorem VI (p0:Ax) (p1:Int) (p2:Int) (R:Bool) (h:O8 p0 p1 p2 = some R):Aw Tryz.prog 224 [.d (Ah p0),.d (.int .i64 p1),.d (.int .i64 p2)] (.d (.bool R)):=by
 refine BA Tryz.func224 ?_
 unfold O8 at h
 conv=>whnf
 refine Ag h fun x9 hx9 h=>?_
 refine Ak (O9 _ _ _ hx9) ?_
 refine Am h fun h=>?_
 refine Ag h fun x14 hx14 h=>?_
 refine Ak (O9 _ _ _ hx14) ?_
 refine Am h fun h=>?_
 conv=>whnf
 refine z13 ?_
 conv=>whnf
 refine Ag h fun x20 hx20 h=>?_
 refine Ak (Gb _ _ hx20) ?_
 refine AJ (f:=(D.int .i64)) h fun x22 _ h=>?_
 conv=>whnf
 refine Ag h fun x24 hx24 h=>?_
 refine Ak (QS _ _ _ _ hx24) ?_
 exact z60
theorem MV (p0:Af) (p1:As) (p2:Int) (R:Int) (h:Io p0 p1 p2 = some R):Aw Tryz.prog 162 [.d (Ay p0),.d (Ac p1),.d (.int .i64 p2)] (.d (.int .i64 R)):=by
 refine BA Tryz.func162 ?_
 unfold Io at h
 refine AH h (fun h=>?_) fun h=>?_
 ·conv=>whnf
  refine z13 ?_
  refine AJ (f:=Al) h fun x17 _ h=>?_
  refine AJ (f:=Ah) h fun x20 _ h=>?_
  conv=>whnf
  refine Ag h fun x25 hx25 h=>?_
  refine Ak (VI _ _ _ _ hx25) ?_
  conv=>whnf
  refine Ag h fun x26 hx26 h=>?_
  refine Ak (It _ _ hx26) ?_
  exact z17
 refine AH h (fun h=>?_) fun h=>?_
 ·conv=>whnf
  refine Ag h fun x33 hx33 h=>?_
  refine Ak (It _ _ hx33) ?_
  exact z17
 refine AH h (fun h=>?_) fun h=>?_
 ·exact z17
 conv=>whnf
 refine Ag h fun x47 hx47 h=>?_
 refine Ak (It _ _ hx47) ?_
 exact z17
theorem RP (p0:A3) (p1:Int) (R:Int) (h:Ko p0 p1 = some R):Aw Tryz.prog 279 [.d (Al p0),.d (.int .i64 p1)] (.d (.int .i64 R)):=by
 refine BA Tryz.func279 ?_
 unfold Ko at h
 refine AJ (f:=(D.int .i64)) h fun x12 _ h=>?_
 exact z60
theorem Jk (p0:Int) (p1:Int) (R:Int) (h:Gd p0 p1 = some R):Aw Tryz.prog 280 [.d (.int .i64 p0),.d (.int .i64 p1)] (.d (.int .i64 R)):=by
 refine BA Tryz.func280 ?_
 unfold Gd at h
 exact z49
end Go.Proofs.YtlpkhgkoihlghaaGreatDoor.P
