/- P3W1 -/
import Derived.Test.YtlpkhgkoihlghaaGreatDoorP3HW
set_option linter.unusedSimpArgs false
namespace Go.Proofs.YtlpkhgkoihlghaaGreatDoor.P
open Go.Abs Go.Proofs
set_option maxRecDepth 100000
set_option maxHeartbeats 4000000
set_option linter.unusedVariables false
theorem If (p0:(List BD)) (R:(List BD)) (h:CF p0 = some R):Aw Tryz.prog 93 [.d (Aj 2 AW p0)] (.d (Aj 2 AW R)):=by
 refine C4 h fun hr h=>?_
 obtain rfl:=Option.some.inj h
 refine BA Tryz.func93 ?_
 conv=>whnf
 refine ⟨fun b hb=>?_⟩
 cases b
 ·conv=>whnf
  refine z6 ?_
  conv=>whnf
  refine ⟨.inl ?_⟩
  conv=>whnf
  exact ⟨rfl⟩
 ·conv=>whnf
  have:p0 = []:=by
   cases p0 with
   | nil=>rfl
   | cons a r=>exact absurd (hb (by simp)) (by simp)
  subst this
  refine ⟨.inl ?_⟩
  conv=>whnf
  exact ⟨rfl⟩
theorem Km (p0:Af) (R:Af) (h:CZ p0 = some R):Aw Tryz.prog 44 [.d (Ay p0)] (.d (Ay R)):=by
 refine BA Tryz.func44 ?_
 unfold CZ at h
 conv=>whnf
 refine A7 h fun P1 i1 h=>?_
 refine WI [(3,0,23,142)] {p:Nat × (Int × (List Ax)) // P1 p.1 p.2 = some R} (fun p=>B0 45 [(1,.ptr 1 1 0),(2,.ptr 2 1 0),(3,.ptr 3 1 0),(9,.d (Aj 2 Ah p0.Lists)),(10,.d (.int .i64 ((p0.Lists.length:Nat):Int))),(11,.d (.int .i64 p.1.2.1))] [(1,.var [.d (Aj 2 Ah p0.Lists),.d (Aj 7 Al p0.Columns)],1),(2,.var [.d (.nil 2),.d (.nil 7)],1),(3,.var [.sl 23 1,.d (.nil 7)],1),(23,.row 2 142 (List.map Ah p.1.2.2),1)]) (fun p=>p.1.1) ⟨(_,(_,_)),h⟩ ?_ fun p=>?_
 ·conv=>whnf
  exact eW
 obtain ⟨⟨k1,⟨v11_1,b23_1⟩⟩,h⟩:=p
 obtain ⟨k1,rfl,h⟩:=i1 _ _ h
 simp only [DR] at h
 refine AH h (fun h=>?_) fun h=>?_
 ·refine AJ (f:=Ah) h fun x13 _ h=>?_
  conv=>whnf
  refine Ag h fun x17 hx17 h=>?_
  refine Ak (If _ _ hx17) ?_
  conv=>whnf
  refine C4 h fun hr h=>?_
  refine z6 ?_
  try rw [V5]
  exact z19
 conv=>whnf
 try simp only [DU] at h
 refine A7 h fun P2 i2 h=>?_
 refine WI [(3,1,41,137)] {p:Nat × (Int × (List A3)) // P2 p.1 p.2 = some R} (fun p=>B0 45 [(2,.ptr 2 1 0),(3,.ptr 3 1 0),(27,.d (Aj 7 Al p0.Columns)),(28,.d (.int .i64 ((p0.Columns.length:Nat):Int))),(29,.d (.int .i64 p.1.2.1))] [(2,.var [.d (.nil 2),.d (.nil 7)],1),(3,.var [.sl 23 1,.sl 41 1],1),(23,.row 2 142 (List.map Ah b23_1),1),(41,.row 7 137 (List.map Al p.1.2.2),1)]) (fun p=>p.1.1) ⟨(_,(_,_)),h⟩ ?_ fun p=>?_
 ·conv=>whnf
  exact eW
 obtain ⟨⟨k2,⟨v29_2,b41_2⟩⟩,h⟩:=p
 obtain ⟨k2,rfl,h⟩:=i2 _ _ h
 simp only [DT] at h
 refine AH h (fun h=>?_) fun h=>?_
 ·refine AJ (f:=Al) h fun x31 _ h=>?_
  conv=>whnf
  refine Ag h fun x35 hx35 h=>?_
  refine Ak (Bp _ _ hx35) ?_
  conv=>whnf
  refine ⟨.inl ?_⟩
  conv=>whnf
  refine C4 h fun hr h=>?_
  refine z6 ?_
  try rw [KN]
  exact z19
 conv=>whnf
 try simp only [DU] at h
 refine ⟨.inl ?_⟩
 exact z60
theorem Oq (p0:(List (List Int))) (R:(List (List Int))) (h:FO p0 = some R):Aw Tryz.prog 45 [.d (Aj 1 (Aj 1 (D.int .i64)) p0)] (.cc none [.own 1 30 (List.map (Aj 1 (D.int .i64)) R)]):=by
 refine BA Tryz.func45 ?_
 unfold FO at h
 conv=>whnf
 refine z5 h (fun p=>B0 19 [(3,.sl 3 1),(6,.d (Aj 1 (Aj 1 (D.int .i64)) p0)),(7,.d (.int .i64 ((p0.length:Nat):Int))),(8,.d (.int .i64 p.1))] [(3,.row 1 30 (List.map (Aj 1 (D.int .i64)) p.2),1)]) Ai fun _ _ ⟨v8_1,b3_1⟩ h=>?_
 simp only [GY] at h
 refine AQ h fun h=>?_
 refine AJ (f:=(Aj 1 (D.int .i64))) h fun x10 _ h=>?_
 conv=>whnf
 refine Ag h fun x14 hx14 h=>?_
 refine Ak (Bp _ _ hx14) ?_
 conv=>whnf
 exact z33
theorem G5 (p0:ByteArray) (R:Bool) (h:D4 p0 = some R):Aw Tryz.prog 149 [.d (.str p0)] (.d (.bool R)):=by
 refine DY [3,9] Tryz.func149 (by kernel_rfl) ?_
 unfold D4 at h
 refine Th {p:Unit // Mz p0 = some R} (fun p=>B0 62 [(0,.d (.str p0))] []) ?_ fun p=>?_
 ·refine Am h fun h=>?_
  refine C4 h fun hr h=>?_
  refine z12 ?_
  refine Am h fun h=>?_
  refine C4 h fun hr h=>?_
  refine z12 ?_
  exact z52
 obtain ⟨_,h⟩:=p
 simp only [Mz] at h
 refine Th {p:Unit // M0 p0 = some R} (fun p=>B0 62 [(0,.d (.str p0))] []) ?_ fun p=>?_
 ·conv=>whnf
  refine z5 h (fun p=>B0 62 [(0,.d (.str p0)),(24,.d (Aj 1 (D.int .u8) (J4 p0))),(25,.d (.int .i64 (((J4 p0).length:Nat):Int))),(26,.d (.int .i64 p))] []) Ai fun _ _ v26_1 h=>?_
  simp only [Qv] at h
  refine AH h (fun h=>?_) fun h=>?_
  ·refine AJ (f:=(D.int .u8)) h fun x28 _ h=>?_
   exact z18
  exact z36
 obtain ⟨_,h⟩:=p
 simp only [M0] at h
 conv=>whnf
 refine Qt h E4 (fun e10 h=>?_) (fun e10 h=>?_)
 ·conv=>whnf
  refine R1 E4 e10 ?_
  exact z60
 conv=>whnf
 refine Qt h E4 (fun e11 h=>?_) (fun e11 h=>?_)
 ·conv=>whnf
  refine R1 E4 e11 ?_
  exact z60
 conv=>whnf
 refine Qt h E4 (fun e12 h=>?_) (fun e12 h=>?_)
 ·conv=>whnf
  refine R1 E4 e12 ?_
  exact z60
 conv=>whnf
 refine Qt h E4 (fun e13 h=>?_) (fun e13 h=>?_)
 ·conv=>whnf
  refine R1 E4 e13 ?_
  exact z60
 conv=>whnf
 refine Qt h E4 (fun e14 h=>?_) (fun e14 h=>?_)
 ·conv=>whnf
  refine R1 E4 e14 ?_
  exact z60
 conv=>whnf
 refine Qt h E4 (fun e15 h=>?_) (fun e15 h=>?_)
 ·conv=>whnf
  refine R1 E4 e15 ?_
  exact z60
 conv=>whnf
 refine Qt h E4 (fun e16 h=>?_) (fun e16 h=>?_)
 ·conv=>whnf
  refine R1 E4 e16 ?_
  exact z60
 conv=>whnf
 refine Qt h E4 (fun e17 h=>?_) (fun e17 h=>?_)
 ·conv=>whnf
  refine R1 E4 e17 ?_
  exact z60
 conv=>whnf
 refine Qt h E4 (fun e18 h=>?_) (fun e18 h=>?_)
 ·conv=>whnf
  refine R1 E4 e18 ?_
  exact z60
 conv=>whnf
 refine Qt h E4 (fun e19 h=>?_) (fun e19 h=>?_)
 ·conv=>whnf
  refine R1 E4 e19 ?_
  exact z60
 exact Dm h
theorem Gb (p0:Ax) (R:(List Int)) (h:EZ p0 = some R):Aw Tryz.prog 167 [.d (Ah p0)] (.d (Aj 1 (D.int .i64) R)):=by
 refine BA Tryz.func167 ?_
 unfold EZ at h
 conv=>whnf
 refine C4 h fun hr h=>?_
 refine z7 ?_
 try rw [eM]
 conv=>whnf
 refine z5 h (fun p=>B0 31 [(3,.sl 9 1),(11,.d (Aj 2 AW p0.Codes)),(12,.d (.int .i64 ((p0.Codes.length:Nat):Int))),(13,.d (.int .i64 p.1))] [(9,.row 1 3 (List.map (D.int .i64) p.2),1)]) Ai fun _ _ ⟨v13_1,b9_1⟩ h=>?_
 simp only [Oc] at h
 refine AH h (fun h=>?_) fun h=>?_
 ·refine AJ (f:=AW) h fun x16 _ h=>?_
  refine AH h (fun h=>?_) fun h=>?_
  ·refine Vu (f:=(D.int .i64)) h E4 fun x25 hx25 h=>?_
   refine bR (f:=(D.int .i64)) hx25 E4 ?_
   refine Vu (f:=(D.int .i64)) h E4 fun x28 hx28 h=>?_
   refine bR (f:=(D.int .i64)) hx28 E4 ?_
   conv=>whnf
   try rw [cU]
   exact Bn ⟨(_,(_,_)),h⟩ Ai
  exact z19
 exact z35
theorem J5 (p0:Ax) (R:Int) (h:EV p0 = some R):Aw Tryz.prog 143 [.d (Ah p0)] (.d (.int .i64 R)):=by
 refine DY [21] Tryz.func143 (by kernel_rfl) ?_
 unfold EV at h
 conv=>whnf
 refine Ag h fun x13 hx13 h=>?_
 refine Ak (G5 _ _ hx13) ?_
 refine Am h fun h=>?_
 refine Am h fun h=>?_
 refine Am h fun h=>?_
 conv=>whnf
 refine z13 ?_
 conv=>whnf
 refine C4 h fun hr h=>?_
 refine z7 ?_
 try rw [eM]
 refine Th {p:(List Bool) // Lg p0 p = some R} (fun p=>B0 102 [(1,.ptr 1 1 0),(4,.sl 29 1)] [(1,.var [.d (.str p0.Name),.d (Aj 2 AW p0.Codes)],1),(29,.row 1 4 (List.map D.bool p.1),1)]) ?_ fun p=>?_
 ·conv=>whnf
  refine z5 h (fun p=>B0 102 [(1,.ptr 1 1 0),(3,.sl 25 1),(4,.sl 29 1),(31,.d (Aj 2 AW p0.Codes)),(32,.d (.int .i64 ((p0.Codes.length:Nat):Int))),(33,.d (.int .i64 p.1))] [(1,.var [.d (.str p0.Name),.d (Aj 2 AW p0.Codes)],1),(25,.map (dX D.bool p.2.1),1),(29,.row 1 4 (List.map D.bool p.2.2),1)]) Ai fun _ _ ⟨v33_1,b25_1,b29_1⟩ h=>?_
  simp only [O5] at h
  refine AH h (fun h=>?_) fun h=>?_
  ·refine AJ (f:=AW) h fun x36 _ h=>?_
   conv=>whnf
   refine Ag h fun x41 hx41 h=>?_
   refine Ak (G5 _ _ hx41) ?_
   refine Am h fun h=>?_
   conv=>whnf
   refine ⟨⟨by kernel_rfl,YA D.bool x36.Name b25_1⟩,?_⟩
   conv=>whnf
   refine cB (f:=D.bool) (es:=b25_1) (z:=false) ?_
   refine Am h fun h=>?_
   refine Am h fun h=>?_
   conv=>whnf
   refine ⟨⟨by rfl,by kernel_rfl,YA D.bool x36.Name b25_1⟩,?_⟩
   conv=>whnf
   try rw [aM D.bool x36.Name true]
   refine AH h (fun h=>?_) fun h=>?_
   ·refine Vu (f:=D.bool) h E4 fun x79 hx79 h=>?_
    refine bR (f:=D.bool) hx79 E4 ?_
    conv=>whnf
    try rw [cU]
    exact Bn ⟨(_,(_,_,_)),h⟩ Ai
   exact z22
  conv=>whnf
  exact ⟨⟨_,h⟩,Ai⟩
 obtain ⟨k29_1,h⟩:=p
 simp only [Lg] at h
 conv=>whnf
 refine Ag h fun x82 hx82 h=>?_
 refine Ak (Gb _ _ hx82) ?_
 conv=>whnf
 refine z5 h (fun p=>B0 102 [(4,.sl 29 1),(7,.d (.int .i64 p.1)),(82,.d (Aj 1 (D.int .i64) x82)),(83,.d (.int .i64 ((x82.length:Nat):Int))),(84,.d (.int .i64 p.2))] [(29,.row 1 4 (List.map D.bool k29_1),1)]) Ai fun _ _ ⟨v7_2,v84_2⟩ h=>?_
 simp only [O6] at h
 refine AQ h fun h=>?_
 refine AJ (f:=(D.int .i64)) h fun x87 _ h=>?_
 refine Vu (f:=D.bool) h E4 fun x91 hx91 h=>?_
 refine bR (f:=D.bool) hx91 E4 ?_
 refine AH h (fun h=>?_) fun h=>?_
 ·exact z19
 refine Am h fun h=>?_
 exact z19
theorem EB (p0:(List Ax)) (p1:(Ax→Option Bool)) (f_p1:FuncId) (c_p1:List D) (R:Int) (h_p1:∀ (a0:Ax) r,p1 a0 = some r→Aw Tryz.prog f_p1 ([.d (Ah a0)]++c_p1.map .d) (.d (.bool r))) (h:Bt p0 p1 = some R):Aw Tryz.prog 203 [.d (Aj 2 Ah p0),.d (.fn f_p1 c_p1)] (.d (.int .i64 R)):=by
 refine BA Tryz.func203 ?_
 unfold Bt at h
 conv=>whnf
 refine z5 h (fun p=>B0 19 [(0,.d (Aj 2 Ah p0)),(1,.d (.fn f_p1 c_p1)),(7,.d (.int .i64 ((p0.length:Nat):Int))),(8,.d (.int .i64 p))] []) Ai fun _ _ v8_1 h=>?_
 simp only [Co] at h
 refine AQ h fun h=>?_
 refine AJ (f:=Ah) h fun x14 _ h=>?_
 exact z56
theorem Ea (p0:(List Ax)) (p1:(Ax→Option Bool)) (f_p1:FuncId) (c_p1:List D) (R:Bool) (h_p1:∀ (a0:Ax) r,p1 a0 = some r→Aw Tryz.prog f_p1 ([.d (Ah a0)]++c_p1.map .d) (.d (.bool r))) (h:Ba p0 p1 = some R):Aw Tryz.prog 144 [.d (Aj 2 Ah p0),.d (.fn f_p1 c_p1)] (.d (.bool R)):=by
 refine BA Tryz.func144 ?_
 unfold Ba at h
 conv=>whnf
 refine Ag h fun x7 hx7 h=>?_
 refine Ak (EB _ _ _ _ _ h_p1 hx7) ?_
 exact z60
theorem SL (p0:Ax) (q0:Ax) (R:Bool) (h:Ks p0 q0 = some R):Aw Tryz.prog 145 [.d (Ah p0),.d (.ptr [(.str q0.Name),(Aj 2 AW q0.Codes)])] (.d (.bool R)):=by
 refine BA Tryz.func145 ?_
 unfold Ks at h
 exact z60
theorem FE (p0:(List A3)) (p1:(A3→Option Bool)) (f_p1:FuncId) (c_p1:List D) (R:Int) (h_p1:∀ (a0:A3) r,p1 a0 = some r→Aw Tryz.prog f_p1 ([.d (Al a0)]++c_p1.map .d) (.d (.bool r))) (h:B3 p0 p1 = some R):Aw Tryz.prog 257 [.d (Aj 7 Al p0),.d (.fn f_p1 c_p1)] (.d (.int .i64 R)):=by
 refine BA Tryz.func257 ?_
 unfold B3 at h
 conv=>whnf
 refine z5 h (fun p=>B0 19 [(0,.d (Aj 7 Al p0)),(1,.d (.fn f_p1 c_p1)),(7,.d (.int .i64 ((p0.length:Nat):Int))),(8,.d (.int .i64 p))] []) Ai fun _ _ v8_1 h=>?_
 simp only [C1] at h
 refine AQ h fun h=>?_
 refine AJ (f:=Al) h fun x14 _ h=>?_
 exact z56
theorem EO (p0:(List A3)) (p1:(A3→Option Bool)) (f_p1:FuncId) (c_p1:List D) (R:Bool) (h_p1:∀ (a0:A3) r,p1 a0 = some r→Aw Tryz.prog f_p1 ([.d (Al a0)]++c_p1.map .d) (.d (.bool r))) (h:Bi p0 p1 = some R):Aw Tryz.prog 204 [.d (Aj 7 Al p0),.d (.fn f_p1 c_p1)] (.d (.bool R)):=by
 refine BA Tryz.func204 ?_
 unfold Bi at h
 conv=>whnf
 refine Ag h fun x7 hx7 h=>?_
 refine Ak (FE _ _ _ _ _ h_p1 hx7) ?_
 exact z60
theorem N0 (p0:A3) (q0:A3) (R:Bool) (h:FT p0 q0 = some R):Aw Tryz.prog 205 [.d (Al p0),.d (.ptr [(.str q0.Name),(.int .i64 q0.Kind),(.int .i64 q0.List_),(.int .i64 q0.Low),(.int .i64 q0.High),(Aj 1 (D.int .i64) q0.Widths),(.bool q0.Optional)])] (.d (.bool R)):=by
 refine BA Tryz.func205 ?_
 unfold FT at h
 exact z60
theorem Ox (p0:A3) (R:Int) (h:Dt p0 = some R):Aw Tryz.prog 206 [.d (Al p0)] (.d (.int .i64 R)):=by
 refine BA Tryz.func206 ?_
 unfold Dt at h
 refine Am h fun h=>?_
 refine Am h fun h=>?_
 conv=>whnf
 refine z5 h (fun p=>B0 68 [(3,.d (.int .i64 p.1)),(34,.d (Aj 1 (D.int .i64) p0.Widths)),(35,.d (.int .i64 ((p0.Widths.length:Nat):Int))),(36,.d (.int .i64 p.2))] []) Ai fun _ _ ⟨v3_1,v36_1⟩ h=>?_
 simp only [F0] at h
 refine AQ h fun h=>?_
 refine AJ (f:=(D.int .i64)) h fun x39 _ h=>?_
 refine Am h fun h=>?_
 refine AH h (fun h=>?_) fun h=>?_
 ·refine Am h fun h=>?_
  refine C4 h fun hr h=>?_
  refine z12 ?_
  refine Am h fun h=>?_
  exact z19
 exact Bn ⟨(_,(_,_)),h⟩ Ai
theorem Kv (p0:A3) (R:Bool) (h:D2 p0 = some R):Aw Tryz.prog 207 [.d (Al p0)] (.d (.bool R)):=by
 refine BA Tryz.func207 ?_
 unfold D2 at h
 exact Dm h
theorem PD (p0:Af) (p1:Int) (R:Int) (h:DJ p0 p1 = some R):Aw Tryz.prog 146 [.d (Ay p0),.d (.int .i64 p1)] (.d (.int .i64 R)):=by
 refine BA Tryz.func146 ?_
 unfold DJ at h
 refine AJ (f:=Al) h fun x10 _ h=>?_
 conv=>whnf
 refine Ag h fun x14 hx14 h=>?_
 refine Ak (G5 _ _ hx14) ?_
 refine Am h fun h=>?_
 conv=>whnf
 refine C4 h fun hr h=>?_
 refine z8 ?_
 try simp only [List.length_map]
 rw [VJ]
 conv=>whnf
 refine Ag h fun x21 hx21 h=>?_
 refine Ak (EO _ _ _ _ _ (fun a0 _ h=>N0 a0 _ _ h) hx21) ?_
 refine Am h fun h=>?_
 refine AH h (fun h=>?_) fun h=>?_
 ·refine Am h fun h=>?_
  exact z54
 refine AH h (fun h=>?_) fun h=>?_
 ·refine Am h fun h=>?_
  exact z54
 refine AQ h fun h=>?_
 conv=>whnf
 refine Ag h fun x44 hx44 h=>?_
 refine Ak (Ox _ _ hx44) ?_
 refine Am h fun h=>?_
 exact z54
theorem DI (p0:Af) (R:Int) (h:C0 p0 = some R):Aw Tryz.prog 95 [.d (Ay p0)] (.d (.int .i64 R)):=by
 refine DY [12] Tryz.func95 (by kernel_rfl) ?_
 unfold C0 at h
 refine Am h fun h=>?_
 refine Th {p:Unit // H8 p0 = some R} (fun p=>B0 63 [(1,.ptr 1 1 0)] [(1,.var [.d (Aj 2 Ah p0.Lists),.d (Aj 7 Al p0.Columns)],1)]) ?_ fun p=>?_
 ·conv=>whnf
  refine z5 h (fun p=>B0 63 [(1,.ptr 1 1 0),(19,.d (Aj 2 Ah p0.Lists)),(20,.d (.int .i64 ((p0.Lists.length:Nat):Int))),(21,.d (.int .i64 p))] [(1,.var [.d (Aj 2 Ah p0.Lists),.d (Aj 7 Al p0.Columns)],1)]) Ai fun _ _ v21_1 h=>?_
  simp only [H6] at h
  refine AH h (fun h=>?_) fun h=>?_
  ·refine AJ (f:=Ah) h fun x24 _ h=>?_
   conv=>whnf
   refine Ag h fun x27 hx27 h=>?_
   refine Ak (J5 _ _ hx27) ?_
   refine Am h fun h=>?_
   conv=>whnf
   refine C4 h fun hr h=>?_
   refine z8 ?_
   try simp only [List.length_map]
   rw [VJ]
   conv=>whnf
   refine Ag h fun x36 hx36 h=>?_
   refine Ak (Ea _ _ _ _ _ (fun a0 _ h=>SL a0 _ _ h) hx36) ?_
   exact z18
  exact z36
 obtain ⟨_,h⟩:=p
 simp only [H8] at h
 refine Am h fun h=>?_
 refine AJ (f:=Al) h fun x45 _ h=>?_
 refine Am h fun h=>?_
 conv=>whnf
 refine z5 h (fun p=>B0 63 [(1,.ptr 1 1 0),(52,.d (.int .i64 ((p0.Columns.length:Nat):Int))),(53,.d (.int .i64 p))] [(1,.var [.d (Aj 2 Ah p0.Lists),.d (Aj 7 Al p0.Columns)],1)]) Ai fun _ _ v53_2 h=>?_
 simp only [H7] at h
 refine AQ h fun h=>?_
 conv=>whnf
 refine Ag h fun x58 hx58 h=>?_
 refine Ak (PD _ _ _ hx58) ?_
 exact z18
theorem GT (p0:(List BD)) (p1:(BD→Option Bool)) (f_p1:FuncId) (c_p1:List D) (R:Int) (h_p1:∀ (a0:BD) r,p1 a0 = some r→Aw Tryz.prog f_p1 ([.d (AW a0)]++c_p1.map .d) (.d (.bool r))) (h:BM p0 p1 = some R):Aw Tryz.prog 226 [.d (Aj 2 AW p0),.d (.fn f_p1 c_p1)] (.d (.int .i64 R)):=by
 refine BA Tryz.func226 ?_
 unfold BM at h
 conv=>whnf
 refine z5 h (fun p=>B0 19 [(0,.d (Aj 2 AW p0)),(1,.d (.fn f_p1 c_p1)),(7,.d (.int .i64 ((p0.length:Nat):Int))),(8,.d (.int .i64 p))] []) Ai fun _ _ v8_1 h=>?_
 simp only [Dk] at h
 refine AQ h fun h=>?_
 refine AJ (f:=AW) h fun x14 _ h=>?_
 exact z56
theorem FU (p0:(List BD)) (p1:(BD→Option Bool)) (f_p1:FuncId) (c_p1:List D) (R:Bool) (h_p1:∀ (a0:BD) r,p1 a0 = some r→Aw Tryz.prog f_p1 ([.d (AW a0)]++c_p1.map .d) (.d (.bool r))) (h:Bm p0 p1 = some R):Aw Tryz.prog 164 [.d (Aj 2 AW p0),.d (.fn f_p1 c_p1)] (.d (.bool R)):=by
 refine BA Tryz.func164 ?_
 unfold Bm at h
 conv=>whnf
 refine Ag h fun x7 hx7 h=>?_
 refine Ak (GT _ _ _ _ _ h_p1 hx7) ?_
 exact z60
theorem To (p0:BD) (q0:Int) (R:Bool) (h:LO p0 q0 = some R):Aw Tryz.prog 165 [.d (AW p0),.d (.ptr [(.int .i64 q0)])] (.d (.bool R)):=by
 refine BA Tryz.func165 ?_
 unfold LO at h
 exact z60
theorem QN (p0:Af) (p1:A3) (p2:Int) (R:Bool) (h:Ic p0 p1 p2 = some R):Aw Tryz.prog 107 [.d (Ay p0),.d (Al p1),.d (.int .i64 p2)] (.d (.bool R)):=by
 refine BA Tryz.func107 ?_
 unfold Ic at h
 refine Am h fun h=>?_
 refine AQ h fun h=>?_
 refine AJ (f:=Ah) h fun x24 _ h=>?_
 refine AQ h fun h=>?_
 refine Ag h fun x38 hx38 h=>?_
 refine Ak (FU _ _ _ _ _ (fun a0 _ h=>To a0 _ _ h) hx38) ?_
 exact z60
theorem QM (p0:Af) (p1:(List Int)) (R:Bool) (h:Ib p0 p1 = some R):Aw Tryz.prog 96 [.d (Ay p0),.d (Aj 1 (D.int .i64) p1)] (.d (.bool R)):=by
 refine BA Tryz.func96 ?_
 unfold Ib at h
 refine Am h fun h=>?_
 conv=>whnf
 refine z5 h (fun p=>B0 30 [(1,.d (Aj 1 (D.int .i64) p1)),(2,.ptr 2 1 0),(14,.d (Aj 7 Al p0.Columns)),(15,.d (.int .i64 ((p0.Columns.length:Nat):Int))),(16,.d (.int .i64 p))] [(2,.var [.d (Aj 2 Ah p0.Lists),.d (Aj 7 Al p0.Columns)],1)]) Ai fun _ _ v16_1 h=>?_
 simp only [IV] at h
 refine AQ h fun h=>?_
 refine AJ (f:=Al) h fun x19 _ h=>?_
 conv=>whnf
 refine z13 ?_
 refine AJ (f:=(D.int .i64)) h fun x25 _ h=>?_
 conv=>whnf
 refine Ag h fun x27 hx27 h=>?_
 refine Ak (QN _ _ _ _ hx27) ?_
 exact z18
theorem Ob (p0:Int) (R:Bool) (h:FH p0 = some R):Aw Tryz.prog 208 [.d (.int .i64 p0)] (.d (.bool R)):=by
 refine BA Tryz.func208 ?_
 unfold FH at h
 exact z60
theorem U8 (p0:Int) (p1:Int) (R:Bool) (h:K3 p0 p1 = some R):Aw Tryz.prog 147 [.d (.int .i64 p0),.d (.int .i64 p1)] (.d (.bool R)):=by
 refine BA Tryz.func147 ?_
 unfold K3 at h
 conv=>whnf
 refine Ag h fun x6 hx6 h=>?_
 refine Ak (Ob _ _ hx6) ?_
 refine AQ h fun h=>?_
 refine Ag h fun x9 hx9 h=>?_
 refine Ak (Ob _ _ hx9) ?_
 exact z60
theorem LQ (p0:Int) (R:Bool) (h:EP p0 = some R):Aw Tryz.prog 148 [.d (.int .i64 p0)] (.d (.bool R)):=by
 refine BA Tryz.func148 ?_
 unfold EP at h
 exact z60
theorem CX (p0:(List Int)) (p1:Int) (R:(Int × Bool)) (h:Bc p0 p1 = some R):Aw Tryz.prog 97 [.d (Aj 1 (D.int .i64) p0),.d (.int .i64 p1)] (.tup [.d (.int .i64 R.1),.d (.bool R.2)]):=by
 refine BA Tryz.func97 ?_
 unfold Bc at h
 conv=>whnf
 refine z5 h (fun p=>B0 54 [(0,.d (Aj 1 (D.int .i64) p0)),(1,.d (.int .i64 p1)),(6,.d (.int .i64 ((p0.length:Nat):Int))),(7,.d (.int .i64 p.1)),(8,.d (.int .i64 p.2))] []) Ai fun _ _ ⟨v7_1,v8_1⟩ h=>?_
 simp only [EA] at h
 refine AH h (fun h=>?_) fun h=>?_
 ·conv=>whnf
  refine z11 ?_
  refine AJ (f:=(D.int .i64)) h fun x24 _ h=>?_
  conv=>whnf
  refine Ag h fun x27 hx27 h=>?_
  refine Ak (U8 _ _ _ hx27) ?_
  refine AH h (fun h=>?_) fun h=>?_
  ·exact z19
  exact z19
 conv=>whnf
 try simp only [CE] at h
 refine AQ h fun h=>?_
 refine AJ (f:=(D.int .i64)) h fun x38 _ h=>?_
 refine Am h fun h=>?_
 refine AJ (f:=(D.int .i64)) h fun x45 _ h=>?_
 conv=>whnf
 refine Ag h fun x47 hx47 h=>?_
 refine Ak (LQ _ _ hx47) ?_
 refine AQ h fun h=>?_
 refine Ag h fun x50 hx50 h=>?_
 refine Ak (LQ _ _ hx50) ?_
 exact z60
end Go.Proofs.YtlpkhgkoihlghaaGreatDoor.P
