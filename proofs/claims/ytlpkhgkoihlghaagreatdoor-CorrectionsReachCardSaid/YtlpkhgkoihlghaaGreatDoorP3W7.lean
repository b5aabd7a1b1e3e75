/- P3W7 -/
import Derived.Test.YtlpkhgkoihlghaaGreatDoorP3W6
set_option linter.unusedSimpArgs false
namespace Go.Proofs.YtlpkhgkoihlghaaGreatDoor.P
open Go.Abs Go.Proofs
set_option maxRecDepth 100000
set_option maxHeartbeats 4000000
set_option linter.unusedVariables false
theorem Jg (p0:(List B1)) (p1:Int) (p2:Int) (p3:Int) (R:((List Int) × Int)) (h:Dq p0 p1 p2 p3 = some R):Aw Tryz.prog 7 [.d (Aj 3 Cc p0),.d (.int .i64 p1),.d (.int .i64 p2),.d (.int .i64 p3)] (.tup [.d (Aj 1 (D.int .i64) R.1),.d (.int .i64 R.2)]):=by
 refine BA Tryz.func7 ?_
 unfold Dq at h
 refine AH h (fun h=>?_) fun h=>?_
 ·exact z35
 refine AH h (fun h=>?_) fun h=>?_
 ·exact z35
 conv=>whnf
 refine Ag h fun x33 hx33 h=>?_
 refine Ak (SG _ _ _ _ _ hx33) ?_
 exact z60
theorem EU (p0:(List AL)) (p1:(AL→Option Bool)) (f_p1:FuncId) (c_p1:List D) (R:Int) (h_p1:∀ (a0:AL) r,p1 a0 = some r→Aw Tryz.prog f_p1 ([.d (AX a0)]++c_p1.map .d) (.d (.bool r))) (h:BS p0 p1 = some R):Aw Tryz.prog 130 [.d (Aj 2 AX p0),.d (.fn f_p1 c_p1)] (.d (.int .i64 R)):=by
 refine BA Tryz.func130 ?_
 unfold BS at h
 conv=>whnf
 refine z5 h (fun p=>B0 19 [(0,.d (Aj 2 AX p0)),(1,.d (.fn f_p1 c_p1)),(7,.d (.int .i64 ((p0.length:Nat):Int))),(8,.d (.int .i64 p))] []) Ai fun _ _ v8_1 h=>?_
 simp only [Cu] at h
 refine AQ h fun h=>?_
 refine AJ (f:=AX) h fun x14 _ h=>?_
 exact z56
theorem E8 (p0:(List AL)) (p1:(AL→Option Bool)) (f_p1:FuncId) (c_p1:List D) (R:Bool) (h_p1:∀ (a0:AL) r,p1 a0 = some r→Aw Tryz.prog f_p1 ([.d (AX a0)]++c_p1.map .d) (.d (.bool r))) (h:BI p0 p1 = some R):Aw Tryz.prog 77 [.d (Aj 2 AX p0),.d (.fn f_p1 c_p1)] (.d (.bool R)):=by
 refine BA Tryz.func77 ?_
 unfold BI at h
 conv=>whnf
 refine Ag h fun x7 hx7 h=>?_
 refine Ak (EU _ _ _ _ _ h_p1 hx7) ?_
 exact z60
theorem Ub (p0:(List Int)) (R:Bool) (h:M7 p0 = some R):Aw Tryz.prog 131 [.d (Aj 1 (D.int .i64) p0)] (.d (.bool R)):=by
 refine BA Tryz.func131 ?_
 unfold M7 at h
 conv=>whnf
 refine z5 h (fun p=>B0 20 [(0,.d (Aj 1 (D.int .i64) p0)),(3,.d (.int .i64 p))] []) Ai fun _ _ v3_1 h=>?_
 simp only [Nn] at h
 refine AQ h fun h=>?_
 conv=>whnf
 refine z13 ?_
 refine AJ (f:=(D.int .i64)) h fun x12 _ h=>?_
 refine AJ (f:=(D.int .i64)) h fun x17 _ h=>?_
 exact z18
theorem KL (p0:(List Int)) (p1:(Int→Option Bool)) (f_p1:FuncId) (c_p1:List D) (R:Int) (h_p1:∀ (a0:Int) r,p1 a0 = some r→Aw Tryz.prog f_p1 ([.d (.int .i64 a0)]++c_p1.map .d) (.d (.bool r))) (h:Ec p0 p1 = some R):Aw Tryz.prog 192 [.d (Aj 1 (D.int .i64) p0),.d (.fn f_p1 c_p1)] (.d (.int .i64 R)):=by
 refine BA Tryz.func192 ?_
 unfold Ec at h
 conv=>whnf
 refine z5 h (fun p=>B0 19 [(0,.d (Aj 1 (D.int .i64) p0)),(1,.d (.fn f_p1 c_p1)),(7,.d (.int .i64 ((p0.length:Nat):Int))),(8,.d (.int .i64 p))] []) Ai fun _ _ v8_1 h=>?_
 simp only [FF] at h
 refine AQ h fun h=>?_
 refine AJ (f:=(D.int .i64)) h fun x14 _ h=>?_
 exact z56
theorem Jz (p0:(List Int)) (p1:(Int→Option Bool)) (f_p1:FuncId) (c_p1:List D) (R:Bool) (h_p1:∀ (a0:Int) r,p1 a0 = some r→Aw Tryz.prog f_p1 ([.d (.int .i64 a0)]++c_p1.map .d) (.d (.bool r))) (h:Dp p0 p1 = some R):Aw Tryz.prog 132 [.d (Aj 1 (D.int .i64) p0),.d (.fn f_p1 c_p1)] (.d (.bool R)):=by
 refine BA Tryz.func132 ?_
 unfold Dp at h
 conv=>whnf
 refine Ag h fun x7 hx7 h=>?_
 refine Ak (KL _ _ _ _ _ h_p1 hx7) ?_
 exact z60
theorem MX (p0:Int) (R:Bool) (h:FQ p0 = some R):Aw Tryz.prog 133 [.d (.int .i64 p0)] (.d (.bool R)):=by
 refine BA Tryz.func133 ?_
 unfold FQ at h
 exact z60
theorem OE (p0:AL) (R:Bool) (h:HK p0 = some R):Aw Tryz.prog 79 [.d (AX p0)] (.d (.bool R)):=by
 refine BA Tryz.func79 ?_
 unfold HK at h
 conv=>whnf
 refine Ag h fun x5 hx5 h=>?_
 refine Ak (Ub _ _ hx5) ?_
 refine AQ h fun h=>?_
 refine Ag h fun x9 hx9 h=>?_
 refine Ak (Jz _ _ _ _ _ (fun a0 _ h=>MX a0  _ h) hx9) ?_
 exact z60
theorem Lo (p0:AL) (R:Bool) (h:E5 p0 = some R):Aw Tryz.prog 78 [.d (AX p0)] (.d (.bool R)):=by
 refine BA Tryz.func78 ?_
 unfold E5 at h
 conv=>whnf
 refine Ag h fun x4 hx4 h=>?_
 refine Ak (OE _ _ hx4) ?_
 exact z60
theorem Sp (p0:(List Int)) (R:(List Int)) (h:Ht p0 = some R):Aw Tryz.prog 134 [.d (Aj 1 (D.int .i64) p0)] (.d (Aj 1 (D.int .i64) R)):=by
 refine BA Tryz.func134 ?_
 unfold Ht at h
 conv=>whnf
 refine Ag h fun x5 hx5 h=>?_
 refine Ak (Bp _ _ hx5) ?_
 conv=>whnf
 refine Ag h fun x7 hx7 h=>?_
 refine AC (F1 _ _ hx7) ?_
 conv=>whnf
 refine Ag h fun x9 hx9 h=>?_
 refine AC (DZ _ _ hx9) ?_
 exact z35
theorem X7 (p0:(List Int)) (R:(List Int)) (h:Lx p0 = some R):Aw Tryz.prog 80 [.d (Aj 1 (D.int .i64) p0)] (.d (Aj 1 (D.int .i64) R)):=by
 refine BA Tryz.func80 ?_
 unfold Lx at h
 conv=>whnf
 refine Ag h fun x4 hx4 h=>?_
 refine Ak (Sp _ _ hx4) ?_
 exact z60
theorem QX (p0:(List Int)) (p1:(List Int)) (R:(List Int)) (h:Jn p0 p1 = some R):Aw Tryz.prog 81 [.d (Aj 1 (D.int .i64) p0),.d (Aj 1 (D.int .i64) p1)] (.d (Aj 1 (D.int .i64) R)):=by
 refine BA Tryz.func81 ?_
 unfold Jn at h
 conv=>whnf
 refine z5 h (fun p=>B0 54 [(0,.d (Aj 1 (D.int .i64) p0)),(1,.d (Aj 1 (D.int .i64) p1)),(5,.sl 5 1),(6,.d (.int .i64 p.1)),(7,.d (.int .i64 p.2.1))] [(5,.row 1 3 (List.map (D.int .i64) p.2.2),1)]) Ai fun _ _ ⟨v6_1,v7_1,b5_1⟩ h=>?_
 simp only [Ky] at h
 refine AH h (fun h=>?_) fun h=>?_
 ·conv=>whnf
  refine z13 ?_
  refine AJ (f:=(D.int .i64)) h fun x32 _ h=>?_
  refine AJ (f:=(D.int .i64)) h fun x36 _ h=>?_
  refine AH h (fun h=>?_) fun h=>?_
  ·exact z22
  conv=>whnf
  refine z13 ?_
  refine AJ (f:=(D.int .i64)) h fun x44 _ h=>?_
  refine AJ (f:=(D.int .i64)) h fun x48 _ h=>?_
  refine AH h (fun h=>?_) fun h=>?_
  ·exact z22
  refine AJ (f:=(D.int .i64)) h fun x21 _ h=>?_
  conv=>whnf
  exact z39
 exact z35
theorem MW (p0:(List AL)) (p1:(List Int)) (R:((List AL) × Int)) (h:CN p0 p1 = some R):Aw Tryz.prog 34 [.d (Aj 2 AX p0),.d (Aj 1 (D.int .i64) p1)] (.tup [.d (Aj 2 AX R.1),.d (.int .i64 R.2)]):=by
 refine BA Tryz.func34 ?_
 unfold CN at h
 refine AH h (fun h=>?_) fun h=>?_
 ·exact z35
 conv=>whnf
 refine Ag h fun x15 hx15 h=>?_
 refine Ak (E8 _ _ _ _ _ (fun a0 _ h=>Lo a0  _ h) hx15) ?_
 refine AH h (fun h=>?_) fun h=>?_
 ·exact z35
 conv=>whnf
 refine Ag h fun x17 hx17 h=>?_
 refine Ak (X7 _ _ hx17) ?_
 conv=>whnf
 refine z5 h (fun p=>B0 40 [(6,.d (Aj 1 (D.int .i64) x17)),(7,.sl 7 1),(18,.d (Aj 2 AX p0)),(19,.d (.int .i64 ((p0.length:Nat):Int))),(20,.d (.int .i64 p.1))] [(7,.row 2 95 (List.map AX p.2),1)]) Ai fun _ _ ⟨v20_1,b7_1⟩ h=>?_
 simp only [Hf] at h
 refine AH h (fun h=>?_) fun h=>?_
 ·refine AJ (f:=AX) h fun x22 _ h=>?_
  conv=>whnf
  refine Ag h fun x27 hx27 h=>?_
  refine Ak (QX _ _ _ hx27) ?_
  refine AH h (fun h=>?_) fun h=>?_
  ·conv=>whnf
   refine C4 h fun hr h=>?_
   refine z6 ?_
   try rw [Wn]
   exact z19
  exact z19
 exact z35
end Go.Proofs.YtlpkhgkoihlghaaGreatDoor.P
