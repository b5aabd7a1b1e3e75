/- P3W5 -/
import Derived.Test.YtlpkhgkoihlghaaGreatDoorP3W4
set_option linter.unusedSimpArgs false
namespace Go.Proofs.YtlpkhgkoihlghaaGreatDoor.P
open Go.Abs Go.Proofs
set_option maxRecDepth 100000
set_option maxHeartbeats 4000000
set_option linter.unusedVariables false
theorem OD (p0:Af) (p1:As) (p2:Int) (R:Bool) (h:HJ p0 p1 p2 = some R):Aw Tryz.prog 266 [.d (Ay p0),.d (Ac p1),.d (.int .i64 p2)] (.d (.bool R)):=by
 refine BA Tryz.func266 ?_
 unfold HJ at h
 refine AJ (f:=Al) h fun x23 _ h=>?_
 refine AH h (fun h=>?_) fun h=>?_
 ·refine AJ (f:=Ah) h fun x32 _ h=>?_
  conv=>whnf
  refine z13 ?_
  conv=>whnf
  refine Ag h fun x37 hx37 h=>?_
  refine Ak (O7 _ _ hx37) ?_
  conv=>whnf
  refine Ag h fun x39 hx39 h=>?_
  refine Ak (UA _ _ _ hx39) ?_
  conv=>whnf
  refine z5 h (fun p=>B0 134 [(2,.d (.int .i64 p2)),(3,.ptr 3 1 0),(4,.ptr 4 1 0),(8,.ptr 8 1 0),(9,.sl 34 1),(39,.d (Aj 1 (D.int .i64) x39)),(40,.d (.int .i64 ((x39.length:Nat):Int))),(41,.d (.int .i64 p.1))] [(3,.var [.d (Aj 2 Ah p0.Lists),.d (Aj 7 Al p0.Columns)],1),(4,.var [.d (.int .i64 p1.Op),.d (.int .i64 p1.Column),.d (.int .i64 p1.Code),.d (.int .i64 p1.Low),.d (.int .i64 p1.High),.d (Aj 6 Az p1.Kids)],1),(8,.var [.d (.str x32.Name),.d (Aj 2 AW x32.Codes)],1),(34,.map (cH .i64 (D.int .i64) p.2),1)]) AZ fun _ _ ⟨v41_1,b34_1⟩ h=>?_
  simp only [Jf] at h
  refine AH h (fun h=>?_) fun h=>?_
  ·refine AJ (f:=(D.int .i64)) h fun x43 _ h=>?_
   conv=>whnf
   refine z13 ?_
   conv=>whnf
   refine Ag h fun x48 hx48 h=>?_
   refine Ak (QS _ _ _ _ hx48) ?_
   conv=>whnf
   refine Ag h fun x52 hx52 h=>?_
   refine Ak (MV _ _ _ _ hx52) ?_
   conv=>whnf
   refine ⟨⟨by kernel_rfl,Nm .i64 (D.int .i64) x48 b34_1⟩,?_⟩
   conv=>whnf
   refine Sq (f:=(D.int .i64)) (es:=b34_1) (z:=0) ?_
   refine AH h (fun h=>?_) fun h=>?_
   ·exact z17
   conv=>whnf
   refine ⟨⟨by rfl,by kernel_rfl,Nm .i64 (D.int .i64) x48 b34_1⟩,?_⟩
   conv=>whnf
   try rw [XY .i64 (D.int .i64) x48 x52]
   exact Bn ⟨(_,(_,_)),h⟩ AZ
  exact z17
 refine AH h (fun h=>?_) fun h=>?_
 ·exact z17
 refine AH h (fun h=>?_) fun h=>?_
 ·exact z17
 conv=>whnf
 refine z13 ?_
 refine AH h (fun h=>?_) fun h=>?_
 ·exact z17
 refine AH h (fun h=>?_) fun h=>?_
 ·exact z17
 conv=>whnf
 refine Ag h fun x107 hx107 h=>?_
 refine Ak (RP _ _ _ hx107) ?_
 refine AH h (fun h=>?_) fun h=>?_
 ·refine AH h (fun h=>?_) fun h=>?_
  ·exact z34
  refine Ag h fun x128 hx128 h=>?_
  refine Ak (Jk _ _ _ hx128) ?_
  exact z17
 refine Ag h fun x115 hx115 h=>?_
 refine Ak (Jk _ _ _ hx115) ?_
 refine AH h (fun h=>?_) fun h=>?_
 ·refine AH h (fun h=>?_) fun h=>?_
  ·exact z34
  refine Ag h fun x128 hx128 h=>?_
  refine Ak (Jk _ _ _ hx128) ?_
  exact z17
 exact z34
theorem RJ (d:Nat) (p0:Af) (p1:As) (R:(List Ap)) (h:F6 d p0 p1 = some R):Aw Tryz.prog 222 [.d (Ay p0),.d (Ac p1)] (.d (Aj 2 An R)):=by
 refine BA Tryz.func222 ?_
 unfold F6 at h
 conv=>whnf
 refine Ag h fun x14 hx14 h=>?_
 refine Ak (FV _ _ _ _ hx14) ?_
 refine AH h (fun h=>?_) fun h=>?_
 ·conv=>whnf
  exact z30
 conv=>whnf
 refine C4 h fun hr h=>?_
 refine z7 ?_
 try rw [eM]
 conv=>whnf
 refine Ag h fun x21 hx21 h=>?_
 refine Ak (RH _ _ _ hx21) ?_
 conv=>whnf
 refine z5 h (fun p=>B0 63 [(2,.ptr 2 1 0),(5,.sl 19 1),(21,.d (Aj 6 Az x21)),(22,.d (.int .i64 ((x21.length:Nat):Int))),(23,.d (.int .i64 p.1))] [(2,.var [.d (Aj 2 Ah p0.Lists),.d (Aj 7 Al p0.Columns)],1),(19,.row 1 3 (List.map (D.int .i64) p.2),1)]) AZ fun _ _ ⟨v23_1,b19_1⟩ h=>?_
 simp only [HH] at h
 refine AH h (fun h=>?_) fun h=>?_
 ·refine AJ (f:=Az) h fun x25 _ h=>?_
  rw [Aa x25]
  conv=>whnf
  refine z5 h (fun p=>B0 63 [(2,.ptr 2 1 0),(5,.sl 19 1),(7,.ptr 7 1 0),(8,.d (.int .i64 p)),(21,.d (Aj 6 Az x21)),(22,.d (.int .i64 ((x21.length:Nat):Int))),(23,.d (.int .i64 v23_1))] [(2,.var [.d (Aj 2 Ah p0.Lists),.d (Aj 7 Al p0.Columns)],1),(7,.var [.d (.int .i64 x25.Op),.d (.int .i64 x25.Column),.d (.int .i64 x25.Code),.d (.int .i64 x25.Low),.d (.int .i64 x25.High),.d (Aj 6 Az x25.Kids)],1),(19,.row 1 3 (List.map (D.int .i64) b19_1),1)]) AZ fun _ _ v8_2 h=>?_
  simp only [Lk] at h
  conv=>whnf
  refine Ag h fun x30 hx30 h=>?_
  refine Ak (OD _ _ _ _ hx30) ?_
  refine AH h (fun h=>?_) fun h=>?_
  ·exact z59
  conv=>whnf
  try simp only [Fc] at h
  refine z13 ?_
  refine Vu (f:=(D.int .i64)) h E4 fun x40 hx40 h=>?_
  refine bR (f:=(D.int .i64)) hx40 E4 ?_
  refine Vu (f:=(D.int .i64)) h E4 fun x44 hx44 h=>?_
  refine bR (f:=(D.int .i64)) hx44 E4 ?_
  conv=>whnf
  try rw [cU]
  exact Bn ⟨(_,(_,_)),h⟩ AZ
 conv=>whnf
 try simp only [Fc] at h
 refine z5 h (fun p=>B0 63 [(9,.sl 9 1),(46,.sl 19 1),(47,.d (.int .i64 ((b19_1.length:Nat):Int))),(48,.d (.int .i64 p.1))] [(9,.row 2 85 (List.map An p.2),1),(19,.row 1 3 (List.map (D.int .i64) b19_1),1)]) AZ fun _ _ ⟨v48_3,b9_3⟩ h=>?_
 simp only [Fb] at h
 refine AH h (fun h=>?_) fun h=>?_
 ·refine Vu (f:=(D.int .i64)) h E4 fun x51 hx51 h=>?_
  refine bR (f:=(D.int .i64)) hx51 E4 ?_
  refine AH h (fun h=>?_) fun h=>?_
  ·conv=>whnf
   refine C4 h fun hr h=>?_
   refine z6 ?_
   try rw [CY]
   exact z41
  exact z41
 conv=>whnf
 try simp only [Fc] at h
 exact z30
theorem SA (d:Nat) (p0:Af) (p1:A9) (R:(List Ap)) (h:FB d p0 p1 = some R):Aw Tryz.prog 156 [.d (Ay p0),.d (AA p1)] (.d (Aj 2 An R)):=by
 refine DY [9] Tryz.func156 (by kernel_rfl) ?_
 unfold FB at h
 conv=>whnf
 refine Ag h fun x14 hx14 h=>?_
 refine Ak (Iu _ _ _ _ hx14) ?_
 refine AH h (fun h=>?_) fun h=>?_
 ·exact z35
 refine Th {p:(List Ap) // Fv p0 p1 d p = some R} (fun p=>B0 75 [(2,.ptr 2 1 0),(3,.ptr 3 1 0),(5,.sl 5 1)] [(2,.var [.d (Aj 2 Ah p0.Lists),.d (Aj 7 Al p0.Columns)],1),(3,.var [.d (.str p1.Name),.d (.int .i64 p1.Kind),.d (.int .i64 p1.Filter.Op),.d (.int .i64 p1.Filter.Column),.d (.int .i64 p1.Filter.Code),.d (.int .i64 p1.Filter.Low),.d (.int .i64 p1.Filter.High),.d (Aj 6 Az p1.Filter.Kids),.d (Aj 2 An p1.Dims),.d (.int .i64 p1.Measure),.d (Aj 1 (D.int .i64) p1.Terms),.d (.int .i64 p1.Event.Op),.d (.int .i64 p1.Event.Column),.d (.int .i64 p1.Event.Code),.d (.int .i64 p1.Event.Low),.d (.int .i64 p1.Event.High),.d (Aj 6 Az p1.Event.Kids)],1),(5,.row 2 85 (List.map An p.1),1)]) ?_ fun p=>?_
 ·conv=>whnf
  refine z5 h (fun p=>B0 75 [(2,.ptr 2 1 0),(3,.ptr 3 1 0),(5,.sl 5 1),(17,.d (Aj 2 An p1.Dims)),(18,.d (.int .i64 ((p1.Dims.length:Nat):Int))),(19,.d (.int .i64 p.1))] [(2,.var [.d (Aj 2 Ah p0.Lists),.d (Aj 7 Al p0.Columns)],1),(3,.var [.d (.str p1.Name),.d (.int .i64 p1.Kind),.d (.int .i64 p1.Filter.Op),.d (.int .i64 p1.Filter.Column),.d (.int .i64 p1.Filter.Code),.d (.int .i64 p1.Filter.Low),.d (.int .i64 p1.Filter.High),.d (Aj 6 Az p1.Filter.Kids),.d (Aj 2 An p1.Dims),.d (.int .i64 p1.Measure),.d (Aj 1 (D.int .i64) p1.Terms),.d (.int .i64 p1.Event.Op),.d (.int .i64 p1.Event.Column),.d (.int .i64 p1.Event.Code),.d (.int .i64 p1.Event.Low),.d (.int .i64 p1.Event.High),.d (Aj 6 Az p1.Event.Kids)],1),(5,.row 2 85 (List.map An p.2),1)]) Ai fun _ _ ⟨v19_1,b5_1⟩ h=>?_
  simp only [Fs] at h
  refine AH h (fun h=>?_) fun h=>?_
  ·refine AJ (f:=An) h fun x21 _ h=>?_
   conv=>whnf
   refine z13 ?_
   conv=>whnf
   refine Ag h fun x31 hx31 h=>?_
   refine Ak (PC _ _ _ _ hx31) ?_
   conv=>whnf
   exact z51
  conv=>whnf
  try simp only [D7] at h
  exact ⟨⟨_,h⟩,Ai⟩
 obtain ⟨k5_1,h⟩:=p
 simp only [Fv] at h
 conv=>whnf
 refine z5 h (fun p=>B0 75 [(2,.ptr 2 1 0),(3,.ptr 3 1 0),(5,.sl 5 1),(38,.d (.int .i64 ((p0.Columns.length:Nat):Int))),(39,.d (.int .i64 p.1))] [(2,.var [.d (Aj 2 Ah p0.Lists),.d (Aj 7 Al p0.Columns)],1),(3,.var [.d (.str p1.Name),.d (.int .i64 p1.Kind),.d (.int .i64 p1.Filter.Op),.d (.int .i64 p1.Filter.Column),.d (.int .i64 p1.Filter.Code),.d (.int .i64 p1.Filter.Low),.d (.int .i64 p1.Filter.High),.d (Aj 6 Az p1.Filter.Kids),.d (Aj 2 An p1.Dims),.d (.int .i64 p1.Measure),.d (Aj 1 (D.int .i64) p1.Terms),.d (.int .i64 p1.Event.Op),.d (.int .i64 p1.Event.Column),.d (.int .i64 p1.Event.Code),.d (.int .i64 p1.Event.Low),.d (.int .i64 p1.Event.High),.d (Aj 6 Az p1.Event.Kids)],1),(5,.row 2 85 (List.map An p.2),1)]) Ai fun _ _ ⟨v39_2,b5_2⟩ h=>?_
 simp only [Ft] at h
 refine AH h (fun h=>?_) fun h=>?_
 ·conv=>whnf
  refine Ag h fun x44 hx44 h=>?_
  refine Ak (Tk _ _ _ hx44) ?_
  refine AH h (fun h=>?_) fun h=>?_
  ·conv=>whnf
   refine z13 ?_
   conv=>whnf
   refine Ag h fun x51 hx51 h=>?_
   refine Ak (Kt _ _ _ hx51) ?_
   conv=>whnf
   refine Ag h fun x52 hx52 h=>?_
   refine Ak (PC _ _ _ _ hx52) ?_
   conv=>whnf
   exact z51
  exact z19
 conv=>whnf
 try simp only [D7] at h
 refine Ag h fun x60 hx60 h=>?_
 refine Ak (SB _ _ hx60) ?_
 conv=>whnf
 refine z5 h (fun p=>B0 75 [(2,.ptr 2 1 0),(9,.sl 58 1),(60,.d (Aj 6 Az x60)),(61,.d (.int .i64 ((x60.length:Nat):Int))),(62,.d (.int .i64 p.1))] [(2,.var [.d (Aj 2 Ah p0.Lists),.d (Aj 7 Al p0.Columns)],1),(58,.row 1 42 (List.map (Aj 2 An) p.2),1)]) Ai fun _ _ ⟨v62_3,b58_3⟩ h=>?_
 simp only [Fu] at h
 refine AH h (fun h=>?_) fun h=>?_
 ·refine AJ (f:=Az) h fun x64 _ h=>?_
  rw [Aa x64]
  conv=>whnf
  refine Ag h fun x69 hx69 h=>?_
  refine Ak (RJ _ _ _ _ hx69) ?_
  conv=>whnf
  exact z33
 conv=>whnf
 try simp only [D7] at h
 refine Ag h fun x74 hx74 h=>?_
 refine Ak (Mh _ _ hx74) ?_
 exact z60
theorem Uc (d:Nat) (p0:Af) (p1:A6) (R:(List Ap)) (h:Hh d p0 p1 = some R):Aw Tryz.prog 101 [.d (Ay p0),.d (BF p1)] (.d (Aj 2 An R)):=by
 refine BA Tryz.func101 ?_
 unfold Hh at h
 conv=>whnf
 refine z5 h (fun p=>B0 24 [(2,.ptr 2 1 0),(5,.sl 5 1),(9,.d (Aj 17 AA p1.Questions)),(10,.d (.int .i64 ((p1.Questions.length:Nat):Int))),(11,.d (.int .i64 p.1))] [(2,.var [.d (Aj 2 Ah p0.Lists),.d (Aj 7 Al p0.Columns)],1),(5,.row 1 42 (List.map (Aj 2 An) p.2),1)]) Ai fun _ _ ⟨v11_1,b5_1⟩ h=>?_
 simp only [GH] at h
 refine AH h (fun h=>?_) fun h=>?_
 ·refine AJ (f:=AA) h fun x13 _ h=>?_
  conv=>whnf
  refine Ag h fun x18 hx18 h=>?_
  refine Ak (SA _ _ _ _ hx18) ?_
  conv=>whnf
  exact z33
 conv=>whnf
 refine Ag h fun x23 hx23 h=>?_
 refine Ak (Mh _ _ hx23) ?_
 exact z60
theorem Td (d:Nat) (p0:Af) (p1:A6) (p2:(List Ap)) (R:Int) (h:Gm d p0 p1 p2 = some R):Aw Tryz.prog 49 [.d (Ay p0),.d (BF p1),.d (Aj 2 An p2)] (.d (.int .i64 R)):=by
 refine BA Tryz.func49 ?_
 unfold Gm at h
 conv=>whnf
 refine Ag h fun x11 hx11 h=>?_
 refine Ak (Qg _ _ _ _ hx11) ?_
 refine Am h fun h=>?_
 conv=>whnf
 refine Ag h fun x17 hx17 h=>?_
 refine Ak (Vy _ _ _ hx17) ?_
 refine Am h fun h=>?_
 conv=>whnf
 refine Ag h fun x23 hx23 h=>?_
 refine Ak (Uc _ _ _ _ hx23) ?_
 conv=>whnf
 refine Ag h fun x25 hx25 h=>?_
 refine Ak (Sr _ _ _ hx25) ?_
 exact Dm h
theorem S8 (p0:Int) (p1:Int) (R:Bool) (h:Hv p0 p1 = some R):Aw Tryz.prog 102 [.d (.int .i64 p0),.d (.int .i64 p1)] (.d (.bool R)):=by
 refine BA Tryz.func102 ?_
 unfold Hv at h
 exact z60
theorem Ue (p0:Int) (p1:Int) (p2:Int) (R:Int) (h:Dy p0 p1 p2 = some R):Aw Tryz.prog 103 [.d (.int .i64 p0),.d (.int .i64 p1),.d (.int .i64 p2)] (.d (.int .i64 R)):=by
 refine BA Tryz.func103 ?_
 unfold Dy at h
 conv=>whnf
 refine z5 h (fun p=>B0 30 [(7,.d (.int .u64 p.1)),(18,.d (.int .i64 p.2))] []) Ai fun _ _ ⟨v7_1,v18_1⟩ h=>?_
 simp only [EN] at h
 refine AH h (fun h=>?_) fun h=>?_
 ·conv=>whnf
  refine z11 ?_
  exact z19
 conv=>whnf
 refine z11 ?_
 exact z60
theorem Kq (p0:Int) (p1:Int) (R:Int) (h:E6 p0 p1 = some R):Aw Tryz.prog 50 [.d (.int .i64 p0),.d (.int .i64 p1)] (.d (.int .i64 R)):=by
 refine BA Tryz.func50 ?_
 unfold E6 at h
 conv=>whnf
 refine Ag h fun x10 hx10 h=>?_
 refine Ak (S8 _ _ _ hx10) ?_
 refine Am h fun h=>?_
 conv=>whnf
 refine z11 ?_
 conv=>whnf
 refine z11 ?_
 conv=>whnf
 refine z5 h (fun p=>B0 31 [(0,.d (.int .i64 p0)),(5,.d (.int .i64 p.1)),(6,.d (.int .i64 p.2.1)),(16,.d (.int .i64 p.2.2))] []) Ai fun _ _ ⟨v5_1,v6_1,v16_1⟩ h=>?_
 simp only [GI] at h
 refine AQ h fun h=>?_
 conv=>whnf
 refine Ag h fun x24 hx24 h=>?_
 refine Ak (Ue _ _ _ _ hx24) ?_
 exact z22
theorem Ig (p0:(List Ap)) (R:(List Ap)) (h:CG p0 = some R):Aw Tryz.prog 51 [.d (Aj 2 An p0)] (.d (Aj 2 An R)):=by
 refine C4 h fun hr h=>?_
 obtain rfl:=Option.some.inj h
 refine BA Tryz.func51 ?_
 conv=>whnf
 refine ⟨fun b hb=>?_⟩
 cases b
 ·conv=>whnf
  refine z6 ?_
  conv=>whnf
  refine ⟨.inl ?_⟩
  conv=>whnf
  exact ⟨rfl⟩
 ·conv=>whnf
  have:p0 = []:=by
   cases p0 with
   | nil=>rfl
   | cons a r=>exact absurd (hb (by simp)) (by simp)
  subst this
  refine ⟨.inl ?_⟩
  conv=>whnf
  exact ⟨rfl⟩
theorem Vx (p0:G2) (R:Int) (h:NW p0 = some R):Aw Tryz.prog 158 [.d (ND p0)] (.d (.int .i64 R)):=by
 refine BA Tryz.func158 ?_
 unfold NW at h
 exact Dm h
theorem Wl (p0:Int) (p1:Int) (R:Int) (h:Mu p0 p1 = some R):Aw Tryz.prog 159 [.d (.int .i64 p0),.d (.int .i64 p1)] (.d (.int .i64 R)):=by
 refine BA Tryz.func159 ?_
 unfold Mu at h
 conv=>whnf
 refine z5 h (fun p=>B0 27 [(5,.d (.int .u64 p.1)),(14,.d (.int .i64 p.2))] []) Ai fun _ _ ⟨v5_1,v14_1⟩ h=>?_
 simp only [P9] at h
 refine AH h (fun h=>?_) fun h=>?_
 ·conv=>whnf
  refine z11 ?_
  exact z19
 conv=>whnf
 refine z11 ?_
 exact z60
theorem Zc (p0:G2) (p1:Int) (R:Bool) (h:Nz p0 p1 = some R):Aw Tryz.prog 104 [.d (ND p0),.d (.int .i64 p1)] (.d (.bool R)):=by
 refine BA Tryz.func104 ?_
 unfold Nz at h
 conv=>whnf
 refine z13 ?_
 conv=>whnf
 refine Ag h fun x6 hx6 h=>?_
 refine Ak (Vx _ _ hx6) ?_
 refine AQ h fun h=>?_
 refine Ag h fun x20 hx20 h=>?_
 refine Ak (Wl _ _ _ hx20) ?_
 conv=>whnf
 refine C4 h fun hr h=>?_
 refine z12 ?_
 exact z60
theorem RO (d:Nat) (self_condition_tell:(As→(As→Option Int)→Option Int)) (ih_condition_tell:∀ (p0:As) (p1:(As→Option Int)) (f_p1:FuncId) (c_p1:List D) (R:Int) (h_p1:∀ (a0:As) r,p1 a0 = some r→Aw Tryz.prog f_p1 ([.d (Ac a0)]++c_p1.map .d) (.d (.int .i64 r))),self_condition_tell p0 p1 = some R→Aw Tryz.prog 160 [.d (Ac p0),.d (.fn f_p1 c_p1)] (.d (.int .i64 R))) (p0:As) (p1:(As→Option Int)) (f_p1:FuncId) (c_p1:List D) (R:Int) (h_p1:∀ (a0:As) r,p1 a0 = some r→Aw Tryz.prog f_p1 ([.d (Ac a0)]++c_p1.map .d) (.d (.int .i64 r))) (h:Jl d self_condition_tell p0 p1 = some R):Aw Tryz.prog 160 [.d (Ac p0),.d (.fn f_p1 c_p1)] (.d (.int .i64 R)):=by
 refine BA Tryz.func160 ?_
 unfold Jl at h
 refine AH h (fun h=>?_) fun h=>?_
 ·exact z17
 refine AH h (fun h=>?_) fun h=>?_
 ·conv=>whnf
  refine z13 ?_
  refine AJ (f:=Az) h fun x13 _ h=>?_
  rw [Aa x13]
  conv=>whnf
  refine Ag h fun x16 hx16 h=>?_
  first | refine Ak (ih_condition_tell _ _ _ _ _ h_p1 hx16) ?_ | (simp only [List.length_map]; refine Ak (ih_condition_tell _ _ _ _ _ h_p1 hx16) ?_)
  refine AJ (f:=Az) h fun x19 _ h=>?_
  rw [Aa x19]
  conv=>whnf
  refine Ag h fun x22 hx22 h=>?_
  first | refine Ak (ih_condition_tell _ _ _ _ _ h_p1 hx22) ?_ | (simp only [List.length_map]; refine Ak (ih_condition_tell _ _ _ _ _ h_p1 hx22) ?_)
  exact z17
 refine AH h (fun h=>?_) fun h=>?_
 ·conv=>whnf
  refine z13 ?_
  refine AJ (f:=Az) h fun x28 _ h=>?_
  rw [Aa x28]
  conv=>whnf
  refine Ag h fun x31 hx31 h=>?_
  first | refine Ak (ih_condition_tell _ _ _ _ _ h_p1 hx31) ?_ | (simp only [List.length_map]; refine Ak (ih_condition_tell _ _ _ _ _ h_p1 hx31) ?_)
  refine AJ (f:=Az) h fun x34 _ h=>?_
  rw [Aa x34]
  conv=>whnf
  refine Ag h fun x37 hx37 h=>?_
  first | refine Ak (ih_condition_tell _ _ _ _ _ h_p1 hx37) ?_ | (simp only [List.length_map]; refine Ak (ih_condition_tell _ _ _ _ _ h_p1 hx37) ?_)
  exact z17
 refine AH h (fun h=>?_) fun h=>?_
 ·refine AJ (f:=Az) h fun x43 _ h=>?_
  rw [Aa x43]
  conv=>whnf
  refine Ag h fun x46 hx46 h=>?_
  first | refine Ak (ih_condition_tell _ _ _ _ _ h_p1 hx46) ?_ | (simp only [List.length_map]; refine Ak (ih_condition_tell _ _ _ _ _ h_p1 hx46) ?_)
  exact z17
 conv=>whnf
 rw [F5]
 conv=>whnf
 refine Ag h fun x50 hx50 h=>?_
 refine Ak (h_p1 _ _ hx50) ?_
 exact z17
theorem LW:∀ d:Nat,(∀ (p0:As) (p1:(As→Option Int)) (f_p1:FuncId) (c_p1:List D) (R:Int) (h_p1:∀ (a0:As) r,p1 a0 = some r→Aw Tryz.prog f_p1 ([.d (Ac a0)]++c_p1.map .d) (.d (.int .i64 r))),Is d p0 p1 = some R→Aw Tryz.prog 160 [.d (Ac p0),.d (.fn f_p1 c_p1)] (.d (.int .i64 R)))
 | 0=>by
  exact z37
 | d + 1=>by
  have ih:=LW d
  exact RO d _ ih
theorem SY (d:Nat):∀ (p0:As) (p1:(As→Option Int)) (f_p1:FuncId) (c_p1:List D) (R:Int) (h_p1:∀ (a0:As) r,p1 a0 = some r→Aw Tryz.prog f_p1 ([.d (Ac a0)]++c_p1.map .d) (.d (.int .i64 r))),Is d p0 p1 = some R→Aw Tryz.prog 160 [.d (Ac p0),.d (.fn f_p1 c_p1)] (.d (.int .i64 R)):=LW d
theorem OA (p0:As) (q0:Af) (q1:(List Int)) (R:Int) (h:HG p0 q0 q1 = some R):Aw Tryz.prog 161 [.d (Ac p0),.d (.ptr [(Aj 2 Ah q0.Lists),(Aj 7 Al q0.Columns)]),.d (.ptr [(Aj 1 (D.int .i64) q1)])] (.d (.int .i64 R)):=by
 refine BA Tryz.func161 ?_
 unfold HG at h
 conv=>whnf
 refine z13 ?_
 refine AJ (f:=(D.int .i64)) h fun x10 _ h=>?_
 conv=>whnf
 refine Ag h fun x12 hx12 h=>?_
 refine Ak (MV _ _ _ _ hx12) ?_
 exact z17
end Go.Proofs.YtlpkhgkoihlghaaGreatDoor.P
