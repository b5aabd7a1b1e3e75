/- P3W2 -/
import Derived.Test.YtlpkhgkoihlghaaGreatDoorP3W1
import Derived.Test.YtlpkhgkoihlghaaGreatDoorP3IW
set_option linter.unusedSimpArgs false
namespace Go.Proofs.YtlpkhgkoihlghaaGreatDoor.P
open Go.Abs Go.Proofs
set_option maxRecDepth 100000
set_option maxHeartbeats 4000000
set_option linter.unusedVariables false
theorem PI (p0:Aq) (R:Bool) (h:GV p0 = some R):Aw Tryz.prog 48 [.d (B8 p0)] (.d (.bool R)):=by
 refine DY [9] Tryz.func48 (by kernel_rfl) ?_
 unfold GV at h
 conv=>whnf
 refine Ag h fun x11 hx11 h=>?_
 refine Ak (DI _ _ hx11) ?_
 refine Am h fun h=>?_
 refine Th {p:Unit // HD p0 = some R} (fun p=>B0 106 [(1,.ptr 1 1 0)] [(1,.var [.d (Aj 2 Ah p0.Schema.Lists),.d (Aj 7 Al p0.Schema.Columns),.d (Aj 1 (Aj 1 (D.int .i64)) p0.Rows),.d (Aj 1 (D.int .i64) p0.Gone),.d (.int .i64 p0.Version)],1)]) ?_ fun p=>?_
 ·conv=>whnf
  refine z5 h (fun p=>B0 106 [(1,.ptr 1 1 0),(36,.d (Aj 1 (D.int .i64) p0.Gone)),(37,.d (.int .i64 ((p0.Gone.length:Nat):Int))),(38,.d (.int .i64 p))] [(1,.var [.d (Aj 2 Ah p0.Schema.Lists),.d (Aj 7 Al p0.Schema.Columns),.d (Aj 1 (Aj 1 (D.int .i64)) p0.Rows),.d (Aj 1 (D.int .i64) p0.Gone),.d (.int .i64 p0.Version)],1)]) Ai fun _ _ v38_1 h=>?_
  simp only [HB] at h
  refine AH h (fun h=>?_) fun h=>?_
  ·refine AJ (f:=(D.int .i64)) h fun x41 _ h=>?_
   refine Am h fun h=>?_
   refine AH h (fun h=>?_) fun h=>?_
   ·refine AJ (f:=(D.int .i64)) h fun x58 _ h=>?_
    exact z18
   exact z42
  exact z36
 obtain ⟨_,h⟩:=p
 simp only [HD] at h
 conv=>whnf
 refine z5 h (fun p=>B0 106 [(1,.ptr 1 1 0),(65,.d (Aj 1 (Aj 1 (D.int .i64)) p0.Rows)),(66,.d (.int .i64 ((p0.Rows.length:Nat):Int))),(67,.d (.int .i64 p))] [(1,.var [.d (Aj 2 Ah p0.Schema.Lists),.d (Aj 7 Al p0.Schema.Columns),.d (Aj 1 (Aj 1 (D.int .i64)) p0.Rows),.d (Aj 1 (D.int .i64) p0.Gone),.d (.int .i64 p0.Version)],1)]) Ai fun _ _ v67_2 h=>?_
 simp only [HC] at h
 refine AQ h fun h=>?_
 refine AJ (f:=(Aj 1 (D.int .i64))) h fun x70 _ h=>?_
 conv=>whnf
 refine z13 ?_
 conv=>whnf
 refine Ag h fun x75 hx75 h=>?_
 refine Ak (QM _ _ _ hx75) ?_
 refine Am h fun h=>?_
 refine AH h (fun h=>?_) fun h=>?_
 ·refine AJ (f:=(D.int .i64)) h fun x82 _ h=>?_
  refine AJ (f:=(Aj 1 (D.int .i64))) h fun x88 _ h=>?_
  refine AJ (f:=(D.int .i64)) h fun x90 _ h=>?_
  refine Am h fun h=>?_
  conv=>whnf
  refine z13 ?_
  refine AJ (f:=(D.int .i64)) h fun x99 hx99 h=>?_
  conv=>whnf
  refine Ag h fun x101 hx101 h=>?_
  refine Ak (CX _ _ _ hx101) ?_
  exact z18
 refine z13 ?_
 refine AJ (f:=(D.int .i64)) h fun x99 hx99 h=>?_
 conv=>whnf
 refine Ag h fun x101 hx101 h=>?_
 refine Ak (CX _ _ _ hx101) ?_
 exact z18
theorem CO (p0:(List (List Int))) (p1:Int) (p2:((List Int)→Int→Option Int)) (f_p2:FuncId) (c_p2:List D) (R:(Int × Bool)) (h_p2:∀ (a0:(List Int)) (a1:Int) r,p2 a0 a1 = some r→Aw Tryz.prog f_p2 ([.d (Aj 1 (D.int .i64) a0),.d (.int .i64 a1)]++c_p2.map .d) (.d (.int .i64 r))) (h:AO p0 p1 p2 = some R):Aw Tryz.prog 113 [.d (Aj 1 (Aj 1 (D.int .i64)) p0),.d (.int .i64 p1),.d (.fn f_p2 c_p2)] (.tup [.d (.int .i64 R.1),.d (.bool R.2)]):=by
 refine BA Tryz.func113 ?_
 unfold AO at h
 conv=>whnf
 refine z5 h (fun p=>B0 49 [(0,.d (Aj 1 (Aj 1 (D.int .i64)) p0)),(1,.d (.int .i64 p1)),(2,.d (.fn f_p2 c_p2)),(8,.d (.int .i64 ((p0.length:Nat):Int))),(9,.d (.int .i64 p.1)),(10,.d (.int .i64 p.2))] []) Ai fun _ _ ⟨v9_1,v10_1⟩ h=>?_
 simp only [Bv] at h
 refine AH h (fun h=>?_) fun h=>?_
 ·conv=>whnf
  refine z11 ?_
  refine AJ (f:=(Aj 1 (D.int .i64))) h fun x27 _ h=>?_
  conv=>whnf
  rw [F5]
  conv=>whnf
  refine Ag h fun x30 hx30 h=>?_
  refine Ak (h_p2 _ _ _ hx30) ?_
  refine AH h (fun h=>?_) fun h=>?_
  ·exact z19
  exact z19
 conv=>whnf
 try simp only [Bw] at h
 refine AQ h fun h=>?_
 refine AJ (f:=(Aj 1 (D.int .i64))) h fun x43 _ h=>?_
 conv=>whnf
 rw [F5]
 conv=>whnf
 refine Ag h fun x46 hx46 h=>?_
 refine Ak (h_p2 _ _ _ hx46) ?_
 exact z60
theorem SO (p0:(List Int)) (p1:Int) (R:Int) (h:El p0 p1 = some R):Aw Tryz.prog 198 [.d (Aj 1 (D.int .i64) p0),.d (.int .i64 p1)] (.d (.int .i64 R)):=by
 refine BA Tryz.func198 ?_
 unfold El at h
 refine AJ (f:=(D.int .i64)) h fun x6 _ h=>?_
 exact z60
theorem PK (p0:Aq) (p1:Int) (R:(Int × Bool)) (h:GW p0 p1 = some R):Aw Tryz.prog 139 [.d (B8 p0),.d (.int .i64 p1)] (.tup [.d (.int .i64 R.1),.d (.bool R.2)]):=by
 refine BA Tryz.func139 ?_
 unfold GW at h
 conv=>whnf
 refine Ag h fun x9 hx9 h=>?_
 refine Ak (CO _ _ _ _ _ _ (fun a0 a1 _ h=>SO a0 a1  _ h) hx9) ?_
 exact z60
theorem N2 (p0:(List Int)) (p1:Int) (R:Int) (h:DO p0 p1 = some R):Aw Tryz.prog 253 [.d (Aj 1 (D.int .i64) p0),.d (.int .i64 p1)] (.d (.int .i64 R)):=by
 refine BA Tryz.func253 ?_
 unfold DO at h
 conv=>whnf
 refine z5 h (fun p=>B0 19 [(0,.d (Aj 1 (D.int .i64) p0)),(1,.d (.int .i64 p1)),(7,.d (.int .i64 ((p0.length:Nat):Int))),(8,.d (.int .i64 p))] []) Ai fun _ _ v8_1 h=>?_
 simp only [Ho] at h
 refine AQ h fun h=>?_
 refine AJ (f:=(D.int .i64)) h fun x14 _ h=>?_
 exact z18
theorem DK (p0:(List Int)) (p1:Int) (R:Bool) (h:B9 p0 p1 = some R):Aw Tryz.prog 199 [.d (Aj 1 (D.int .i64) p0),.d (.int .i64 p1)] (.d (.bool R)):=by
 refine BA Tryz.func199 ?_
 unfold B9 at h
 conv=>whnf
 refine Ag h fun x7 hx7 h=>?_
 refine Ak (N2 _ _ _ hx7) ?_
 exact z60
theorem SP (p0:Aq) (p1:(List Int)) (p2:Bool) (R:(Int × Aq)) (h:J0 p0 p1 p2 = some R):Wq Tryz.prog 140 [.any,.d (Aj 1 (D.int .i64) p1),.d (.bool p2)] 0 [.d (Aj 2 Ah p0.Schema.Lists),.d (Aj 7 Al p0.Schema.Columns),.own 1 30 (List.map (Aj 1 (D.int .i64)) p0.Rows),.own 1 3 (List.map (D.int .i64) p0.Gone),.d (.int .i64 p0.Version)] [.d (Aj 2 Ah R.2.Schema.Lists),.d (Aj 7 Al R.2.Schema.Columns),.own 1 30 (List.map (Aj 1 (D.int .i64)) R.2.Rows),.own 1 3 (List.map (D.int .i64) R.2.Gone),.d (.int .i64 R.2.Version)] ((.int .i64 R.1)):=by
 refine dR [] [0,0,11,15,0] Tryz.func140 (by kernel_rfl) (WO [false,false,true,true,false] rfl rfl (by kernel_rfl)) rfl ?_
 unfold J0 at h
 conv=>whnf
 refine Ag h fun x14 hx14 h=>?_
 refine Ak (QM _ _ _ hx14) ?_
 refine AH h (fun h=>?_) fun h=>?_
 ·exact z28
 conv=>whnf
 refine z13 ?_
 refine AJ (f:=(D.int .i64)) h fun x21 _ h=>?_
 conv=>whnf
 refine Ag h fun x23 hx23 h=>?_
 refine Ak (DK _ _ _ hx23) ?_
 refine AH h (fun h=>?_) fun h=>?_
 ·exact z28
 conv=>whnf
 refine z13 ?_
 conv=>whnf
 refine ⟨.inr ?_⟩
 refine AJ (f:=(D.int .i64)) h fun x29 _ h=>?_
 conv=>whnf
 refine Ag h fun x31 hx31 h=>?_
 refine Ak (PK _ _ _ hx31) ?_
 refine AH h (fun h=>?_) fun h=>?_
 ·exact z28
 refine AH h (fun h=>?_) fun h=>?_
 ·conv=>whnf
  refine z13 ?_
  conv=>whnf
  refine Ag h fun x60 hx60 h=>?_
  refine Ak (Bp _ _ hx60) ?_
  refine Vu (f:=(Aj 1 (D.int .i64))) h E4 fun x61 hx61 h=>?_
  refine bR (f:=(Aj 1 (D.int .i64))) hx61 E4 ?_
  conv=>whnf
  try rw [cU]
  obtain rfl:=Option.some.inj h
  refine z9 ?_
  exact z27
 refine AH h (fun h=>?_) fun h=>?_
 ·exact z28
 refine AH h (fun h=>?_) fun h=>?_
 ·exact z28
 conv=>whnf
 refine z13 ?_
 conv=>whnf
 refine Ag h fun x41 hx41 h=>?_
 refine Ak (Bp _ _ hx41) ?_
 conv=>whnf
 refine Ag h fun x43 hx43 h=>?_
 refine AC (LP _ _ _ _ hx43) ?_
 exact z28
theorem Uk (p0:Aq) (p1:B1) (R:(Int × Aq)) (h:E9 p0 p1 = some R):Wq Tryz.prog 94 [.any,.d (Cc p1)] 0 [.d (Aj 2 Ah p0.Schema.Lists),.d (Aj 7 Al p0.Schema.Columns),.own 1 30 (List.map (Aj 1 (D.int .i64)) p0.Rows),.own 1 3 (List.map (D.int .i64) p0.Gone),.d (.int .i64 p0.Version)] [.d (Aj 2 Ah R.2.Schema.Lists),.d (Aj 7 Al R.2.Schema.Columns),.own 1 30 (List.map (Aj 1 (D.int .i64)) R.2.Rows),.own 1 3 (List.map (D.int .i64) R.2.Gone),.d (.int .i64 R.2.Version)] ((.int .i64 R.1)):=by
 refine dR [] [0,0,13,18,0] Tryz.func94 (by kernel_rfl) (WO [false,false,true,true,false] rfl rfl (by kernel_rfl)) rfl ?_
 unfold E9 at h
 conv=>whnf
 refine z13 ?_
 conv=>whnf
 refine ⟨.inr ?_⟩
 conv=>whnf
 refine Ag h fun x15 hx15 h=>?_
 refine Ak (PK _ _ _ hx15) ?_
 conv=>whnf
 refine Qt h E4 (fun e1 h=>?_) (fun e1 h=>?_)
 ·conv=>whnf
  refine R1 E4 e1 ?_
  conv=>whnf
  refine Ag h fun x29 hx29 h=>?_
  refine ⟨.inl ?_⟩
  conv=>whnf
  refine bT (SP _ _ _ _ hx29) ?_
  exact z28
 refine AH h (fun h=>?_) fun h=>?_
 ·conv=>whnf
  refine Ag h fun x29 hx29 h=>?_
  refine ⟨.inl ?_⟩
  conv=>whnf
  refine bT (SP _ _ _ _ hx29) ?_
  exact z28
 refine AH h (fun h=>?_) fun h=>?_
 ·refine AH h (fun h=>?_) fun h=>?_
  ·exact z28
  refine AH h (fun h=>?_) fun h=>?_
  ·conv=>whnf
   refine Ag h fun x76 hx76 h=>?_
   refine AC (G0 _ _ _ _ hx76) ?_
   exact z28
  exact z28
 refine AH h (fun h=>?_) fun h=>?_
 ·refine AH h (fun h=>?_) fun h=>?_
  ·exact z28
  conv=>whnf
  refine z13 ?_
  conv=>whnf
  refine Ag h fun x51 hx51 h=>?_
  refine Ak (CX _ _ _ hx51) ?_
  refine AH h (fun h=>?_) fun h=>?_
  ·exact z28
  conv=>whnf
  refine z13 ?_
  conv=>whnf
  refine Ag h fun x64 hx64 h=>?_
  refine AC (MN _ _ _ _ hx64) ?_
  refine AH h (fun h=>?_) fun h=>?_
  ·conv=>whnf
   refine Ag h fun x76 hx76 h=>?_
   refine AC (G0 _ _ _ _ hx76) ?_
   exact z28
  exact z28
 exact z28
theorem V7 (p0:Aq) (p1:B1) (R:(Aq × Int)) (h:F2 p0 p1 = some R):Aw Tryz.prog 47 [.d (B8 p0),.d (Cc p1)] (.tup [.d (B8 R.1),.d (.int .i64 R.2)]):=by
 refine BA Tryz.func47 ?_
 unfold F2 at h
 conv=>whnf
 refine Ag h fun x9 hx9 h=>?_
 refine Ak (PI _ _ hx9) ?_
 refine Am h fun h=>?_
 conv=>whnf
 refine z13 ?_
 conv=>whnf
 refine Ag h fun x19 hx19 h=>?_
 refine Ak (Km _ _ hx19) ?_
 conv=>whnf
 refine Ag h fun x22 hx22 h=>?_
 refine Ak (Oq _ _ hx22) ?_
 conv=>whnf
 refine Ag h fun x25 hx25 h=>?_
 refine Ak (Bp _ _ hx25) ?_
 conv=>whnf
 refine ⟨.inr ?_⟩
 conv=>whnf
 refine Ag h fun x31 hx31 h=>?_
 refine ⟨.inl ?_⟩
 conv=>whnf
 refine bT (Uk _ _ _ hx31) ?_
 refine Am h fun h=>?_
 conv=>whnf
 refine ⟨.inl ?_⟩
 exact z60
theorem TS (p0:Aq) (p1:(List B1)) (p2:Int) (R:(Aq × Int)) (h:KW p0 p1 p2 = some R):Aw Tryz.prog 18 [.d (B8 p0),.d (Aj 3 Cc p1),.d (.int .i64 p2)] (.tup [.d (B8 R.1),.d (.int .i64 R.2)]):=by
 refine BA Tryz.func18 ?_
 unfold KW at h
 refine Am h fun h=>?_
 conv=>whnf
 refine z13 ?_
 conv=>whnf
 refine Ag h fun x24 hx24 h=>?_
 refine Ak (Km _ _ hx24) ?_
 conv=>whnf
 refine Ag h fun x27 hx27 h=>?_
 refine Ak (Oq _ _ hx27) ?_
 conv=>whnf
 refine Ag h fun x30 hx30 h=>?_
 refine Ak (Bp _ _ hx30) ?_
 conv=>whnf
 refine ⟨.inl ?_⟩
 conv=>whnf
 refine C4 h fun hr h=>?_
 refine z8 ?_
 try simp only [List.length_map]
 rw [VJ]
 conv=>whnf
 refine z5 h (fun p=>B0 55 [(6,.ptr 6 1 0),(8,.ptr 8 1 0),(36,.d (Aj 3 Cc (HR p1 0 p2))),(37,.d (.int .i64 (((HR p1 0 p2).length:Nat):Int))),(38,.d (.int .i64 p.1))] [(6,.var [.d (.nil 2),.d (.nil 7),.d (.nil 1),.d (.nil 1),.d (.int .i64 0)],1),(8,.var [.d (Aj 2 Ah p.2.Schema.Lists),.d (Aj 7 Al p.2.Schema.Columns),.d (Aj 1 (Aj 1 (D.int .i64)) p.2.Rows),.d (Aj 1 (D.int .i64) p.2.Gone),.d (.int .i64 p.2.Version)],1)]) Ai fun _ _ ⟨v38_1,w8_1⟩ h=>?_
 simp only [KO] at h
 refine AQ h fun h=>?_
 refine AJ (f:=Cc) h fun x40 _ h=>?_
 conv=>whnf
 refine Ag h fun x45 hx45 h=>?_
 refine Ak (V7 _ _ _ hx45) ?_
 refine Am h fun h=>?_
 exact z19
theorem QV (d:Nat) (self_condition_count:(As→Int→Option Int)) (ih_condition_count:∀ (p0:As) (p1:Int) (R:Int) ,self_condition_count p0 p1 = some R→Aw Tryz.prog 209 [.d (Ac p0),.d (.int .i64 p1)] (.d (.int .i64 R))) (p0:As) (p1:Int) (R:Int) (h:Iq d self_condition_count p0 p1 = some R):Aw Tryz.prog 209 [.d (Ac p0),.d (.int .i64 p1)] (.d (.int .i64 R)):=by
 refine BA Tryz.func209 ?_
 unfold Iq at h
 conv=>whnf
 refine z5 h (fun p=>B0 27 [(1,.d (.int .i64 p1)),(5,.d (.int .i64 p.1)),(9,.d (Aj 6 Az p0.Kids)),(10,.d (.int .i64 ((p0.Kids.length:Nat):Int))),(11,.d (.int .i64 p.2))] []) AZ fun _ _ ⟨v5_1,v11_1⟩ h=>?_
 simp only [Ll] at h
 refine AH h (fun h=>?_) fun h=>?_
 ·refine AJ (f:=Az) h fun x13 _ h=>?_
  rw [Aa x13]
  refine AH h (fun h=>?_) fun h=>?_
  ·exact z17
  conv=>whnf
  refine Ag h fun x23 hx23 h=>?_
  first | refine Ak (ih_condition_count _ _ _ hx23) ?_ | (simp only [List.length_map]; refine Ak (ih_condition_count _ _ _ hx23) ?_)
  exact z41
 exact z17
theorem Lm:∀ d:Nat,(∀ (p0:As) (p1:Int) (R:Int) ,Hs d p0 p1 = some R→Aw Tryz.prog 209 [.d (Ac p0),.d (.int .i64 p1)] (.d (.int .i64 R)))
 | 0=>by
  exact z37
 | d + 1=>by
  have ih:=Lm d
  exact QV d _ ih
theorem RL (d:Nat):∀ (p0:As) (p1:Int) (R:Int) ,Hs d p0 p1 = some R→Aw Tryz.prog 209 [.d (Ac p0),.d (.int .i64 p1)] (.d (.int .i64 R)):=Lm d
theorem RN (d:Nat) (self_condition_deep:(As→Option Int)) (ih_condition_deep:∀ (p0:As) (R:Int) ,self_condition_deep p0 = some R→Aw Tryz.prog 210 [.d (Ac p0)] (.d (.int .i64 R))) (p0:As) (R:Int) (h:Jj d self_condition_deep p0 = some R):Aw Tryz.prog 210 [.d (Ac p0)] (.d (.int .i64 R)):=by
 refine BA Tryz.func210 ?_
 unfold Jj at h
 conv=>whnf
 refine z5 h (fun p=>B0 20 [(3,.d (.int .i64 p.1)),(7,.d (Aj 6 Az p0.Kids)),(8,.d (.int .i64 ((p0.Kids.length:Nat):Int))),(9,.d (.int .i64 p.2))] []) AZ fun _ _ ⟨v3_1,v9_1⟩ h=>?_
 simp only [LU] at h
 refine AH h (fun h=>?_) fun h=>?_
 ·refine AJ (f:=Az) h fun x11 _ h=>?_
  rw [Aa x11]
  conv=>whnf
  refine Ag h fun x15 hx15 h=>?_
  first | refine Ak (ih_condition_deep _ _ hx15) ?_ | (simp only [List.length_map]; refine Ak (ih_condition_deep _ _ hx15) ?_)
  exact z41
 exact z17
theorem LV:∀ d:Nat,(∀ (p0:As) (R:Int) ,Ir d p0 = some R→Aw Tryz.prog 210 [.d (Ac p0)] (.d (.int .i64 R)))
 | 0=>by
  exact z37
 | d + 1=>by
  have ih:=LV d
  exact RN d _ ih
theorem SV (d:Nat):∀ (p0:As) (R:Int) ,Ir d p0 = some R→Aw Tryz.prog 210 [.d (Ac p0)] (.d (.int .i64 R)):=LV d
theorem SX (p0:Int) (R:Int) (h:Ln p0 = some R):Aw Tryz.prog 276 [.d (.int .i64 p0)] (.d (.int .i64 R)):=by
 refine BA Tryz.func276 ?_
 unfold Ln at h
 conv=>whnf
 refine Qt h E4 (fun e1 h=>?_) (fun e1 h=>?_)
 ·conv=>whnf
  refine R1 E4 e1 ?_
  exact z60
 refine Am h fun h=>?_
 exact Dm h
theorem QW (p0:As) (R:Bool) (h:Jm p0 = some R):Aw Tryz.prog 277 [.d (Ac p0)] (.d (.bool R)):=by
 refine BA Tryz.func277 ?_
 unfold Jm at h
 conv=>whnf
 refine Qt h E4 (fun e1 h=>?_) (fun e1 h=>?_)
 ·conv=>whnf
  refine R1 E4 e1 ?_
  exact z17
 refine AH h (fun h=>?_) fun h=>?_
 ·exact z17
 exact z17
end Go.Proofs.YtlpkhgkoihlghaaGreatDoor.P
