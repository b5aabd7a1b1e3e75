/- P3W3 -/
import Derived.Test.YtlpkhgkoihlghaaGreatDoorP3W2
set_option linter.unusedSimpArgs false
namespace Go.Proofs.YtlpkhgkoihlghaaGreatDoor.P
open Go.Abs Go.Proofs
set_option maxRecDepth 100000
set_option maxHeartbeats 4000000
set_option linter.unusedVariables false
theorem OC (p0:Af) (p1:As) (R:Int) (h:HI p0 p1 = some R):Aw Tryz.prog 258 [.d (Ay p0),.d (Ac p1)] (.d (.int .i64 R)):=by
 refine DY [9] Tryz.func258 (by kernel_rfl) ?_
 unfold HI at h
 refine Th {p:Unit // FP p0 p1 = some R} (fun p=>B0 113 [(2,.ptr 2 1 0),(3,.ptr 3 1 0)] [(2,.var [.d (Aj 2 Ah p0.Lists),.d (Aj 7 Al p0.Columns)],1),(3,.var [.d (.int .i64 p1.Op),.d (.int .i64 p1.Column),.d (.int .i64 p1.Code),.d (.int .i64 p1.Low),.d (.int .i64 p1.High),.d (Aj 6 Az p1.Kids)],1)]) ?_ fun p=>?_
 ·refine AH h (fun h=>?_) fun h=>?_
  ·exact z17
  conv=>whnf
  refine z13 ?_
  conv=>whnf
  refine Ag h fun x21 hx21 h=>?_
  refine Ak (SX _ _ hx21) ?_
  refine AH h (fun h=>?_) fun h=>?_
  ·exact z34
  refine Ag h fun x25 hx25 h=>?_
  refine Ak (QW _ _ hx25) ?_
  refine AH h (fun h=>?_) fun h=>?_
  ·exact z17
  refine AH h (fun h=>?_) fun h=>?_
  ·exact z17
  refine AH h (fun h=>?_) fun h=>?_
  ·exact z17
  conv=>whnf
  exact ⟨⟨(),h⟩,AZ⟩
 obtain ⟨_,h⟩:=p
 simp only [FP] at h
 refine AJ (f:=Al) h fun x58 _ h=>?_
 refine AH h (fun h=>?_) fun h=>?_
 ·refine AH h (fun h=>?_) fun h=>?_
  ·exact z17
  conv=>whnf
  refine z13 ?_
  refine AH h (fun h=>?_) fun h=>?_
  ·exact z34
  refine AJ (f:=Ah) h fun x77 _ h=>?_
  refine AH h (fun h=>?_) fun h=>?_
  ·exact z17
  exact z17
 refine AH h (fun h=>?_) fun h=>?_
 ·refine AH h (fun h=>?_) fun h=>?_
  ·exact z17
  refine AH h (fun h=>?_) fun h=>?_
  ·exact z17
  exact z17
 refine AH h (fun h=>?_) fun h=>?_
 ·refine AH h (fun h=>?_) fun h=>?_
  ·exact z17
  exact z17
 exact z17
theorem Ov (d:Nat) (self_condition_checkAll:(Af→As→Option Int)) (ih_condition_checkAll:∀ (p0:Af) (p1:As) (R:Int) ,self_condition_checkAll p0 p1 = some R→Aw Tryz.prog 211 [.d (Ay p0),.d (Ac p1)] (.d (.int .i64 R))) (p0:Af) (p1:As) (R:Int) (h:Gc d self_condition_checkAll p0 p1 = some R):Aw Tryz.prog 211 [.d (Ay p0),.d (Ac p1)] (.d (.int .i64 R)):=by
 refine BA Tryz.func211 ?_
 unfold Gc at h
 conv=>whnf
 refine Ag h fun x11 hx11 h=>?_
 refine Ak (OC _ _ _ hx11) ?_
 refine AH h (fun h=>?_) fun h=>?_
 ·exact z17
 conv=>whnf
 refine z5 h (fun p=>B0 29 [(2,.ptr 2 1 0),(16,.d (Aj 6 Az p1.Kids)),(17,.d (.int .i64 ((p1.Kids.length:Nat):Int))),(18,.d (.int .i64 p))] [(2,.var [.d (Aj 2 Ah p0.Lists),.d (Aj 7 Al p0.Columns)],1)]) AZ fun _ _ v18_1 h=>?_
 simp only [Jd] at h
 refine AH h (fun h=>?_) fun h=>?_
 ·refine AJ (f:=Az) h fun x20 _ h=>?_
  rw [Aa x20]
  conv=>whnf
  refine Ag h fun x24 hx24 h=>?_
  first | refine Ak (ih_condition_checkAll _ _ _ hx24) ?_ | (simp only [List.length_map]; refine Ak (ih_condition_checkAll _ _ _ hx24) ?_)
  refine AH h (fun h=>?_) fun h=>?_
  ·exact z17
  exact z59
 exact z17
theorem Je:∀ d:Nat,(∀ (p0:Af) (p1:As) (R:Int) ,Fe d p0 p1 = some R→Aw Tryz.prog 211 [.d (Ay p0),.d (Ac p1)] (.d (.int .i64 R)))
 | 0=>by
  exact z37
 | d + 1=>by
  have ih:=Je d
  exact Ov d _ ih
theorem OB (d:Nat):∀ (p0:Af) (p1:As) (R:Int) ,Fe d p0 p1 = some R→Aw Tryz.prog 211 [.d (Ay p0),.d (Ac p1)] (.d (.int .i64 R)):=Je d
theorem FV (d:Nat) (p0:Af) (p1:As) (R:Int) (h:C7 d p0 p1 = some R):Aw Tryz.prog 150 [.d (Ay p0),.d (Ac p1)] (.d (.int .i64 R)):=by
 refine BA Tryz.func150 ?_
 unfold C7 at h
 conv=>whnf
 refine Ag h fun x7 hx7 h=>?_
 refine Ak (DI _ _ hx7) ?_
 refine AH h (fun h=>?_) fun h=>?_
 ·exact z17
 conv=>whnf
 refine Ag h fun x14 hx14 h=>?_
 refine Ak (RL _ _ _ _ hx14) ?_
 refine AH h (fun h=>?_) fun h=>?_
 ·exact z17
 conv=>whnf
 refine Ag h fun x18 hx18 h=>?_
 refine Ak (SV _ _ _ hx18) ?_
 refine AH h (fun h=>?_) fun h=>?_
 ·exact z17
 conv=>whnf
 refine Ag h fun x22 hx22 h=>?_
 refine Ak (OB _ _ _ _ hx22) ?_
 exact z17
theorem GU (p0:(List Ap)) (p1:(Ap→Option Bool)) (f_p1:FuncId) (c_p1:List D) (R:Int) (h_p1:∀ (a0:Ap) r,p1 a0 = some r→Aw Tryz.prog f_p1 ([.d (An a0)]++c_p1.map .d) (.d (.bool r))) (h:BN p0 p1 = some R):Aw Tryz.prog 263 [.d (Aj 2 An p0),.d (.fn f_p1 c_p1)] (.d (.int .i64 R)):=by
 refine BA Tryz.func263 ?_
 unfold BN at h
 conv=>whnf
 refine z5 h (fun p=>B0 19 [(0,.d (Aj 2 An p0)),(1,.d (.fn f_p1 c_p1)),(7,.d (.int .i64 ((p0.length:Nat):Int))),(8,.d (.int .i64 p))] []) Ai fun _ _ v8_1 h=>?_
 simp only [Dl] at h
 refine AQ h fun h=>?_
 refine AJ (f:=An) h fun x14 _ h=>?_
 exact z56
theorem BW (p0:(List Ap)) (p1:(Ap→Option Bool)) (f_p1:FuncId) (c_p1:List D) (R:Bool) (h_p1:∀ (a0:Ap) r,p1 a0 = some r→Aw Tryz.prog f_p1 ([.d (An a0)]++c_p1.map .d) (.d (.bool r))) (h:AP p0 p1 = some R):Aw Tryz.prog 216 [.d (Aj 2 An p0),.d (.fn f_p1 c_p1)] (.d (.bool R)):=by
 refine BA Tryz.func216 ?_
 unfold AP at h
 conv=>whnf
 refine Ag h fun x7 hx7 h=>?_
 refine Ak (GU _ _ _ _ _ h_p1 hx7) ?_
 exact z60
theorem Oy (p0:(List Int)) (R:Int) (h:He p0 = some R):Aw Tryz.prog 267 [.d (Aj 1 (D.int .i64) p0)] (.d (.int .i64 R)):=by
 refine BA Tryz.func267 ?_
 unfold He at h
 refine AH h (fun h=>?_) fun h=>?_
 ·conv=>whnf
  cases h
 refine AJ (f:=(D.int .i64)) h fun x10 _ h=>?_
 conv=>whnf
 refine z5 h (fun p=>B0 25 [(0,.d (Aj 1 (D.int .i64) p0)),(3,.d (.int .i64 p.1)),(4,.d (.int .i64 p.2))] []) Ai fun _ _ ⟨v3_1,v4_1⟩ h=>?_
 simp only [IX] at h
 refine AQ h fun h=>?_
 refine AJ (f:=(D.int .i64)) h fun x21 _ h=>?_
 exact z19
theorem O7 (p0:Ax) (R:Int) (h:G4 p0 = some R):Aw Tryz.prog 225 [.d (Ah p0)] (.d (.int .i64 R)):=by
 refine BA Tryz.func225 ?_
 unfold G4 at h
 conv=>whnf
 refine Ag h fun x4 hx4 h=>?_
 refine Ak (J5 _ _ hx4) ?_
 refine Am h fun h=>?_
 conv=>whnf
 refine Ag h fun x7 hx7 h=>?_
 refine Ak (Gb _ _ hx7) ?_
 conv=>whnf
 refine Ag h fun x8 hx8 h=>?_
 refine Ak (Oy _ _ hx8) ?_
 exact z60
theorem On (p0:Af) (p1:Int) (R:Int) (h:FN p0 p1 = some R):Aw Tryz.prog 163 [.d (Ay p0),.d (.int .i64 p1)] (.d (.int .i64 R)):=by
 refine BA Tryz.func163 ?_
 unfold FN at h
 refine Am h fun h=>?_
 refine AJ (f:=Al) h fun x18 _ h=>?_
 refine AQ h fun h=>?_
 refine AJ (f:=Ah) h fun x27 _ h=>?_
 conv=>whnf
 refine Ag h fun x29 hx29 h=>?_
 refine Ak (O7 _ _ hx29) ?_
 exact z60
theorem QO (p0:Af) (p1:Ap) (R:Int) (h:Gx p0 p1 = some R):Aw Tryz.prog 154 [.d (Ay p0),.d (An p1)] (.d (.int .i64 R)):=by
 refine BA Tryz.func154 ?_
 unfold Gx at h
 conv=>whnf
 refine Ag h fun x9 hx9 h=>?_
 refine Ak (On _ _ _ hx9) ?_
 refine Am h fun h=>?_
 exact Dm h
theorem Wm (p0:Af) (p1:Ap) (R:Int) (h:Kl p0 p1 = some R):Aw Tryz.prog 259 [.d (Ay p0),.d (An p1)] (.d (.int .i64 R)):=by
 refine BA Tryz.func259 ?_
 unfold Kl at h
 conv=>whnf
 refine Ag h fun x7 hx7 h=>?_
 refine Ak (DI _ _ hx7) ?_
 refine Am h fun h=>?_
 conv=>whnf
 refine Ag h fun x13 hx13 h=>?_
 refine Ak (QO _ _ _ hx13) ?_
 exact z60
theorem Di (p0:Af) (p1:Int) (R:Int) (h:Cb p0 p1 = some R):Aw Tryz.prog 260 [.d (Ay p0),.d (.int .i64 p1)] (.d (.int .i64 R)):=by
 refine BA Tryz.func260 ?_
 unfold Cb at h
 refine Am h fun h=>?_
 refine AJ (f:=Al) h fun x17 _ h=>?_
 exact z60
theorem NB (p0:Ap) (q0:Ap) (R:Bool) (h:Gg p0 q0 = some R):Aw Tryz.prog 261 [.d (An p0),.d (.ptr [(.int .i64 q0.Column),(.int .i64 q0.Level)])] (.d (.bool R)):=by
 refine BA Tryz.func261 ?_
 unfold Gg at h
 exact z60
theorem Ha (p0:As) (R:Bool) (h:Es p0 = some R):Aw Tryz.prog 262 [.d (Ac p0)] (.d (.bool R)):=by
 refine BA Tryz.func262 ?_
 unfold Es at h
 exact z17
theorem Qj (p0:Af) (p1:A9) (R:Int) (h:FW p0 p1 = some R):Aw Tryz.prog 212 [.d (Ay p0),.d (AA p1)] (.d (.int .i64 R)):=by
 refine DY [14] Tryz.func212 (by kernel_rfl) ?_
 unfold FW at h
 refine Am h fun h=>?_
 refine Th {p:Unit // Gh p1 p0 = some R} (fun p=>B0 64 [(2,.ptr 2 1 0),(3,.ptr 3 1 0)] [(2,.var [.d (Aj 2 Ah p0.Lists),.d (Aj 7 Al p0.Columns)],1),(3,.var [.d (.str p1.Name),.d (.int .i64 p1.Kind),.d (.int .i64 p1.Filter.Op),.d (.int .i64 p1.Filter.Column),.d (.int .i64 p1.Filter.Code),.d (.int .i64 p1.Filter.Low),.d (.int .i64 p1.Filter.High),.d (Aj 6 Az p1.Filter.Kids),.d (Aj 2 An p1.Dims),.d (.int .i64 p1.Measure),.d (Aj 1 (D.int .i64) p1.Terms),.d (.int .i64 p1.Event.Op),.d (.int .i64 p1.Event.Column),.d (.int .i64 p1.Event.Code),.d (.int .i64 p1.Event.Low),.d (.int .i64 p1.Event.High),.d (Aj 6 Az p1.Event.Kids)],1)]) ?_ fun p=>?_
 ·conv=>whnf
  refine z5 h (fun p=>B0 64 [(2,.ptr 2 1 0),(3,.ptr 3 1 0),(19,.d (Aj 2 An p1.Dims)),(20,.d (.int .i64 ((p1.Dims.length:Nat):Int))),(21,.d (.int .i64 p))] [(2,.var [.d (Aj 2 Ah p0.Lists),.d (Aj 7 Al p0.Columns)],1),(3,.var [.d (.str p1.Name),.d (.int .i64 p1.Kind),.d (.int .i64 p1.Filter.Op),.d (.int .i64 p1.Filter.Column),.d (.int .i64 p1.Filter.Code),.d (.int .i64 p1.Filter.Low),.d (.int .i64 p1.Filter.High),.d (Aj 6 Az p1.Filter.Kids),.d (Aj 2 An p1.Dims),.d (.int .i64 p1.Measure),.d (Aj 1 (D.int .i64) p1.Terms),.d (.int .i64 p1.Event.Op),.d (.int .i64 p1.Event.Column),.d (.int .i64 p1.Event.Code),.d (.int .i64 p1.Event.Low),.d (.int .i64 p1.Event.High),.d (Aj 6 Az p1.Event.Kids)],1)]) Ai fun _ _ v21_1 h=>?_
  simp only [Et] at h
  refine AH h (fun h=>?_) fun h=>?_
  ·refine AJ (f:=An) h fun x24 _ h=>?_
   conv=>whnf
   refine Ag h fun x28 hx28 h=>?_
   refine Ak (Wm _ _ _ hx28) ?_
   refine Am h fun h=>?_
   conv=>whnf
   refine Ag h fun x35 hx35 h=>?_
   refine Ak (Di _ _ _ hx35) ?_
   refine Am h fun h=>?_
   conv=>whnf
   refine C4 h fun hr h=>?_
   refine z8 ?_
   try simp only [List.length_map]
   rw [VJ]
   conv=>whnf
   refine Ag h fun x42 hx42 h=>?_
   refine Ak (BW _ _ _ _ _ (fun a0 _ h=>NB a0 _ _ h) hx42) ?_
   exact z18
  exact z36
 obtain ⟨_,h⟩:=p
 simp only [Gh] at h
 refine AH h (fun h=>?_) fun h=>?_
 ·refine Ag h fun x51 hx51 h=>?_
  refine Ak (Di _ _ _ hx51) ?_
  refine Am h fun h=>?_
  refine Am h fun h=>?_
  refine Ag h fun x61 hx61 h=>?_
  refine Ak (Ha _ _ hx61) ?_
  exact Dm h
 refine Am h fun h=>?_
 refine Ag h fun x61 hx61 h=>?_
 refine Ak (Ha _ _ hx61) ?_
 exact Dm h
theorem Qi (p0:Af) (p1:A9) (R:Int) (h:Iw p0 p1 = some R):Aw Tryz.prog 213 [.d (Ay p0),.d (AA p1)] (.d (.int .i64 R)):=by
 refine BA Tryz.func213 ?_
 unfold Iw at h
 conv=>whnf
 refine Ag h fun x11 hx11 h=>?_
 refine Ak (Di _ _ _ hx11) ?_
 refine Am h fun h=>?_
 refine Am h fun h=>?_
 conv=>whnf
 refine z5 h (fun p=>B0 59 [(2,.ptr 2 1 0),(3,.ptr 3 1 0),(25,.d (Aj 1 (D.int .i64) p1.Terms)),(26,.d (.int .i64 ((p1.Terms.length:Nat):Int))),(27,.d (.int .i64 p))] [(2,.var [.d (Aj 2 Ah p0.Lists),.d (Aj 7 Al p0.Columns)],1),(3,.var [.d (.str p1.Name),.d (.int .i64 p1.Kind),.d (.int .i64 p1.Filter.Op),.d (.int .i64 p1.Filter.Column),.d (.int .i64 p1.Filter.Code),.d (.int .i64 p1.Filter.Low),.d (.int .i64 p1.Filter.High),.d (Aj 6 Az p1.Filter.Kids),.d (Aj 2 An p1.Dims),.d (.int .i64 p1.Measure),.d (Aj 1 (D.int .i64) p1.Terms),.d (.int .i64 p1.Event.Op),.d (.int .i64 p1.Event.Column),.d (.int .i64 p1.Event.Code),.d (.int .i64 p1.Event.Low),.d (.int .i64 p1.Event.High),.d (Aj 6 Az p1.Event.Kids)],1)]) Ai fun _ _ v27_1 h=>?_
 simp only [JP] at h
 refine AH h (fun h=>?_) fun h=>?_
 ·refine AJ (f:=(D.int .i64)) h fun x30 _ h=>?_
  conv=>whnf
  refine Ag h fun x34 hx34 h=>?_
  refine Ak (Di _ _ _ hx34) ?_
  refine Am h fun h=>?_
  refine Am h fun h=>?_
  refine C4 h fun hr h=>?_
  refine z8 ?_
  try simp only [List.length_map]
  rw [VJ]
  conv=>whnf
  refine Ag h fun x46 hx46 h=>?_
  refine Ak (DK _ _ _ hx46) ?_
  exact z18
 conv=>whnf
 try simp only [JQ] at h
 refine Am h fun h=>?_
 refine Ag h fun x56 hx56 h=>?_
 refine Ak (Ha _ _ hx56) ?_
 exact Dm h
theorem Qh (d:Nat) (p0:Af) (p1:A9) (R:Int) (h:Iv d p0 p1 = some R):Aw Tryz.prog 214 [.d (Ay p0),.d (AA p1)] (.d (.int .i64 R)):=by
 refine BA Tryz.func214 ?_
 unfold Iv at h
 conv=>whnf
 refine Ag h fun x10 hx10 h=>?_
 refine Ak (Di _ _ _ hx10) ?_
 refine Am h fun h=>?_
 refine AJ (f:=Al) h fun x17 _ h=>?_
 refine Am h fun h=>?_
 conv=>whnf
 refine Ag h fun x24 hx24 h=>?_
 refine Ak (FV _ _ _ _ hx24) ?_
 refine Am h fun h=>?_
 exact Dm h
theorem Iu (d:Nat) (p0:Af) (p1:A9) (R:Int) (h:Cs d p0 p1 = some R):Aw Tryz.prog 151 [.d (Ay p0),.d (AA p1)] (.d (.int .i64 R)):=by
 refine BA Tryz.func151 ?_
 unfold Cs at h
 conv=>whnf
 refine Ag h fun x8 hx8 h=>?_
 refine Ak (DI _ _ hx8) ?_
 refine Am h fun h=>?_
 conv=>whnf
 refine Ag h fun x16 hx16 h=>?_
 refine Ak (G5 _ _ hx16) ?_
 refine Am h fun h=>?_
 refine Am h fun h=>?_
 conv=>whnf
 refine Ag h fun x30 hx30 h=>?_
 refine Ak (FV _ _ _ _ hx30) ?_
 refine Am h fun h=>?_
 refine AH h (fun h=>?_) fun h=>?_
 ·conv=>whnf
  refine Ag h fun x40 hx40 h=>?_
  refine Ak (Qj _ _ _ hx40) ?_
  exact z60
 refine AH h (fun h=>?_) fun h=>?_
 ·conv=>whnf
  refine Ag h fun x45 hx45 h=>?_
  refine Ak (Qi _ _ _ hx45) ?_
  exact z60
 conv=>whnf
 refine Ag h fun x48 hx48 h=>?_
 refine Ak (Qh _ _ _ _ hx48) ?_
 exact z60
theorem EC (p0:(List A9)) (p1:(A9→Option Bool)) (f_p1:FuncId) (c_p1:List D) (R:Int) (h_p1:∀ (a0:A9) r,p1 a0 = some r→Aw Tryz.prog f_p1 ([.d (AA a0)]++c_p1.map .d) (.d (.bool r))) (h:Bu p0 p1 = some R):Aw Tryz.prog 215 [.d (Aj 17 AA p0),.d (.fn f_p1 c_p1)] (.d (.int .i64 R)):=by
 refine BA Tryz.func215 ?_
 unfold Bu at h
 conv=>whnf
 refine z5 h (fun p=>B0 19 [(0,.d (Aj 17 AA p0)),(1,.d (.fn f_p1 c_p1)),(7,.d (.int .i64 ((p0.length:Nat):Int))),(8,.d (.int .i64 p))] []) Ai fun _ _ v8_1 h=>?_
 simp only [Cp] at h
 refine AQ h fun h=>?_
 refine AJ (f:=AA) h fun x14 _ h=>?_
 exact z56
theorem Eb (p0:(List A9)) (p1:(A9→Option Bool)) (f_p1:FuncId) (c_p1:List D) (R:Bool) (h_p1:∀ (a0:A9) r,p1 a0 = some r→Aw Tryz.prog f_p1 ([.d (AA a0)]++c_p1.map .d) (.d (.bool r))) (h:Bb p0 p1 = some R):Aw Tryz.prog 152 [.d (Aj 17 AA p0),.d (.fn f_p1 c_p1)] (.d (.bool R)):=by
 refine BA Tryz.func152 ?_
 unfold Bb at h
 conv=>whnf
 refine Ag h fun x7 hx7 h=>?_
 refine Ak (EC _ _ _ _ _ h_p1 hx7) ?_
 exact z60
theorem NA (p0:A9) (q0:A9) (R:Bool) (h:Ge p0 q0 = some R):Aw Tryz.prog 153 [.d (AA p0),.d (.ptr [(.str q0.Name),(.int .i64 q0.Kind),(.int .i64 q0.Filter.Op),(.int .i64 q0.Filter.Column),(.int .i64 q0.Filter.Code),(.int .i64 q0.Filter.Low),(.int .i64 q0.Filter.High),(Aj 6 Az q0.Filter.Kids),(Aj 2 An q0.Dims),(.int .i64 q0.Measure),(Aj 1 (D.int .i64) q0.Terms),(.int .i64 q0.Event.Op),(.int .i64 q0.Event.Column),(.int .i64 q0.Event.Code),(.int .i64 q0.Event.Low),(.int .i64 q0.Event.High),(Aj 6 Az q0.Event.Kids)])] (.d (.bool R)):=by
 refine BA Tryz.func153 ?_
 unfold Ge at h
 exact z60
end Go.Proofs.YtlpkhgkoihlghaaGreatDoor.P
