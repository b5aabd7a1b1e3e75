/- P3W2 -/
import Derived.Test.YtjgeigjjfcnojaaGreatDoorP3W1
set_option linter.unusedSimpArgs false
namespace Go.Proofs.YtjgeigjjfcnojaaGreatDoor.P
open Go.Abs Go.Proofs
set_option maxRecDepth 100000
set_option maxHeartbeats 4000000
set_option linter.unusedVariables false
theorem NN (p0:Af) (p1:Ar) (R:Int) (h:GR p0 p1 = some R):Aj Tryz.prog 237 [.d (Au p0),.d (Ac p1)] (.d (.int .i64 R)):=by
 refine Dk [9] Tryz.func237 (by kernel_rfl) ?_
 unfold GR at h
 refine FW {p:Unit // F9 p0 p1 = some R} (fun p=>BB 113 [(2,.ptr 2 1 0),(3,.ptr 3 1 0)] [(2,.var [.d (Ah 2 Ae p0.Lists),.d (Ah 7 Ag p0.Columns)],1),(3,.var [.d (.int .i64 p1.Op),.d (.int .i64 p1.Column),.d (.int .i64 p1.Code),.d (.int .i64 p1.Low),.d (.int .i64 p1.High),.d (Ah 6 Ax p1.Kids)],1)]) ?_ fun p=>?_
 ·refine AE h (fun h=>?_) fun h=>?_
  ·exact z16
  conv=>whnf
  refine z12 ?_
  refine AF h (fun _=>Rw _ _) fun x21 h=>?_
  refine AE h (fun h=>?_) fun h=>?_
  ·exact z22
  refine AF h (fun _=>PV _ _) fun x25 h=>?_
  refine AE h (fun h=>?_) fun h=>?_
  ·exact z16
  refine AE h (fun h=>?_) fun h=>?_
  ·exact z16
  refine AE h (fun h=>?_) fun h=>?_
  ·exact z16
  conv=>whnf
  exact ⟨⟨(),h⟩,A4⟩
 obtain ⟨_,h⟩:=p
 simp only [F9] at h
 refine Bd (f:=Ag) h fun x58 _ h=>?_
 refine AE h (fun h=>?_) fun h=>?_
 ·refine AE h (fun h=>?_) fun h=>?_
  ·exact z16
  conv=>whnf
  refine z12 ?_
  refine AE h (fun h=>?_) fun h=>?_
  ·exact z22
  refine Bd (f:=Ae) h fun x77 _ h=>?_
  refine AE h (fun h=>?_) fun h=>?_
  ·exact z16
  exact z16
 refine AE h (fun h=>?_) fun h=>?_
 ·refine AE h (fun h=>?_) fun h=>?_
  ·exact z16
  refine AE h (fun h=>?_) fun h=>?_
  ·exact z16
  exact z16
 refine AE h (fun h=>?_) fun h=>?_
 ·refine AE h (fun h=>?_) fun h=>?_
  ·exact z16
  exact z16
 exact z16
theorem N8 (d:Nat) (self_condition_checkAll:(Af→Ar→Option Int)) (ih_condition_checkAll:∀ (p0:Af) (p1:Ar) (R:Int) ,self_condition_checkAll p0 p1 = some R→Aj Tryz.prog 170 [.d (Au p0),.d (Ac p1)] (.d (.int .i64 R))) (p0:Af) (p1:Ar) (R:Int) (h:FQ d self_condition_checkAll p0 p1 = some R):Aj Tryz.prog 170 [.d (Au p0),.d (Ac p1)] (.d (.int .i64 R)):=by
 refine BF Tryz.func170 ?_
 unfold FQ at h
 refine AF h (fun _=>NN _ _ _) fun x11 h=>?_
 refine AE h (fun h=>?_) fun h=>?_
 ·exact z16
 refine z5 h (fun p=>BB 29 [(2,.ptr 2 1 0),(16,.d (Ah 6 Ax p1.Kids)),(17,.d (.int .i64 ((p1.Kids.length:Nat):Int))),(18,.d (.int .i64 p))] [(2,.var [.d (Ah 2 Ae p0.Lists),.d (Ah 7 Ag p0.Columns)],1)]) A4 fun _ _ v18_1 h=>?_
 simp only [Ip] at h
 refine AE h (fun h=>?_) fun h=>?_
 ·refine Bd (f:=Ax) h fun x20 _ h=>?_
  rw [Aa x20]
  conv=>whnf
  obtain ⟨x24,hx24,h⟩:=A8 h
  first | refine Av (ih_condition_checkAll _ _ _ hx24) ?_ | (simp only [List.length_map]; refine Av (ih_condition_checkAll _ _ _ hx24) ?_)
  refine AE h (fun h=>?_) fun h=>?_
  ·exact z16
  exact z40
 exact z16
theorem Iq:∀ d:Nat,(∀ (p0:Af) (p1:Ar) (R:Int) ,EQ d p0 p1 = some R→Aj Tryz.prog 170 [.d (Au p0),.d (Ac p1)] (.d (.int .i64 R)))
 | 0=>by
  exact z26
 | d + 1=>by
  have ih:=Iq d
  exact N8 d _ ih
theorem NM (d:Nat):∀ (p0:Af) (p1:Ar) (R:Int) ,EQ d p0 p1 = some R→Aj Tryz.prog 170 [.d (Au p0),.d (Ac p1)] (.d (.int .i64 R)):=Iq d
theorem Ea (d:Nat) (p0:Af) (p1:Ar) (R:Int) (h:BJ d p0 p1 = some R):Aj Tryz.prog 98 [.d (Au p0),.d (Ac p1)] (.d (.int .i64 R)):=by
 refine BF Tryz.func98 ?_
 unfold BJ at h
 refine AF h (fun _=>D8 _ _) fun x7 h=>?_
 refine AE h (fun h=>?_) fun h=>?_
 ·exact z16
 refine AF h (fun _=>Q5 _ _ _ _) fun x14 h=>?_
 refine AE h (fun h=>?_) fun h=>?_
 ·exact z16
 refine AF h (fun _=>Rv _ _ _) fun x18 h=>?_
 refine AE h (fun h=>?_) fun h=>?_
 ·exact z16
 refine AF h (fun _=>NM _ _ _ _) fun x22 h=>?_
 exact z16
theorem RE (p0:Int) (R:(Be × Bool)) (h:Kz p0 = some R):Aj Tryz.prog 156 [.d (.int .i64 p0)] (.tup [.d (NR R.1),.d (.bool R.2)]):=by
 refine Dk [25] Tryz.func156 (by kernel_rfl) ?_
 unfold Kz at h
 refine FW {p:Unit // HL = some R} (fun p=>BB 38 [(2,.ptr 2 1 0)] [(2,.var [.d (.bool false),.d (.bool false),.d (.bool false),.d (.bool false),.d (.bool false),.d (.bool false),.d (.bool false)],1)]) ?_ fun p=>?_
 ·refine Ap h fun h=>?_
  refine Ap h fun h=>?_
  refine Ap h fun h=>?_
  conv=>whnf
  refine MB h Cj (fun e18 h=>?_) (fun e18 h=>?_)
  ·conv=>whnf
   refine N6 Cj e18 ?_
   exact A5 h
  conv=>whnf
  refine MB h Cj (fun e19 h=>?_) (fun e19 h=>?_)
  ·conv=>whnf
   refine N6 Cj e19 ?_
   exact A5 h
  refine Ap h fun h=>?_
  conv=>whnf
  refine MB h Cj (fun e21 h=>?_) (fun e21 h=>?_)
  ·conv=>whnf
   refine N6 Cj e21 ?_
   exact A5 h
  conv=>whnf
  refine MB h Cj (fun e22 h=>?_) (fun e22 h=>?_)
  ·conv=>whnf
   refine N6 Cj e22 ?_
   exact A5 h
  conv=>whnf
  refine MB h Cj (fun e23 h=>?_) (fun e23 h=>?_)
  ·conv=>whnf
   refine N6 Cj e23 ?_
   exact A5 h
  refine Ap h fun h=>?_
  refine Ap h fun h=>?_
  refine Ap h fun h=>?_
  refine Ap h fun h=>?_
  exact z31
 obtain ⟨_,h⟩:=p
 simp only [HL] at h
 exact A5 h
theorem CQ (p0:Int) (R:Bool) (h:CE p0 = some R):Aj Tryz.prog 159 [.d (.int .i64 p0)] (.d (.bool R)):=by
 refine BF Tryz.func159 ?_
 unfold CE at h
 exact A5 h
theorem Jw (p0:Ar) (R:Bool) (h:Gy p0 = some R):Aj Tryz.prog 228 [.d (Ac p0)] (.d (.bool R)):=by
 refine BF Tryz.func228 ?_
 unfold Gy at h
 exact z16
theorem RH (p0:A2) (p1:Be) (R:Bool) (h:EC p0 p1 = some R):Aj Tryz.prog 157 [.d (Ad p0),.d (NR p1)] (.d (.bool R)):=by
 refine BF Tryz.func157 ?_
 unfold EC at h
 refine AE h (fun h=>?_) fun h=>?_
 ·refine AE h (fun h=>?_) fun h=>?_
  ·refine AE h (fun h=>?_) fun h=>?_
   ·exact z41
   obtain ⟨x65,hx65,h⟩:=A8 h
   refine Av (Jw _ _ hx65) ?_
   refine AE h (fun h=>?_) fun h=>?_
   ·exact z41
   exact z22
  refine AF h (fun _=>Jw _ _) fun x56 h=>?_
  refine AE h (fun h=>?_) fun h=>?_
  ·refine AE h (fun h=>?_) fun h=>?_
   ·exact z41
   obtain ⟨x65,hx65,h⟩:=A8 h
   refine Av (Jw _ _ hx65) ?_
   refine AE h (fun h=>?_) fun h=>?_
   ·exact z41
   exact z22
  exact z22
 exact z22
theorem M0 (p0:(List Int)) (p1:Int) (R:Int) (h:FB p0 p1 = some R):Aj Tryz.prog 188 [.d (Ah 1 (D.int .i64) p0),.d (.int .i64 p1)] (.d (.int .i64 R)):=by
 refine BF Tryz.func188 ?_
 unfold FB at h
 refine z5 h (fun p=>BB 19 [(0,.d (Ah 1 (D.int .i64) p0)),(1,.d (.int .i64 p1)),(7,.d (.int .i64 ((p0.length:Nat):Int))),(8,.d (.int .i64 p))] []) Ak fun _ _ v8_1 h=>?_
 simp only [G4] at h
 refine AY h fun h=>?_
 refine Bd (f:=(D.int .i64)) h fun x14 _ h=>?_
 exact z17
theorem Gd (p0:(List Int)) (p1:Int) (R:Bool) (h:CI p0 p1 = some R):Aj Tryz.prog 111 [.d (Ah 1 (D.int .i64) p0),.d (.int .i64 p1)] (.d (.bool R)):=by
 refine BF Tryz.func111 ?_
 unfold CI at h
 refine AF h (fun _=>M0 _ _ _) fun x7 h=>?_
 exact A5 h
theorem Cc (p0:Af) (p1:Int) (R:Bool) (h:B5 p0 p1 = some R):Aj Tryz.prog 229 [.d (Au p0),.d (.int .i64 p1)] (.d (.bool R)):=by
 refine BF Tryz.func229 ?_
 unfold B5 at h
 refine AY h fun h=>?_
 refine Bd (f:=Ag) h fun x18 _ h=>?_
 exact A5 h
theorem Db (p0:(List An)) (p1:(An→Option Bool)) (f_p1:FuncId) (c_p1:List D) (R:Int) (h_p1:∀ (a0:An) r,p1 a0 = some r→Aj Tryz.prog f_p1 ([.d (Ai a0)]++c_p1.map .d) (.d (.bool r))) (h:AU p0 p1 = some R):Aj Tryz.prog 162 [.d (Ah 2 Ai p0),.d (.fn f_p1 c_p1)] (.d (.int .i64 R)):=by
 refine BF Tryz.func162 ?_
 unfold AU at h
 refine z5 h (fun p=>BB 19 [(0,.d (Ah 2 Ai p0)),(1,.d (.fn f_p1 c_p1)),(7,.d (.int .i64 ((p0.length:Nat):Int))),(8,.d (.int .i64 p))] []) Ak fun _ _ v8_1 h=>?_
 simp only [CW] at h
 refine AY h fun h=>?_
 refine Bd (f:=Ai) h fun x14 _ h=>?_
 exact z33
theorem BN (p0:(List An)) (p1:(An→Option Bool)) (f_p1:FuncId) (c_p1:List D) (R:Bool) (h_p1:∀ (a0:An) r,p1 a0 = some r→Aj Tryz.prog f_p1 ([.d (Ai a0)]++c_p1.map .d) (.d (.bool r))) (h:AK p0 p1 = some R):Aj Tryz.prog 91 [.d (Ah 2 Ai p0),.d (.fn f_p1 c_p1)] (.d (.bool R)):=by
 refine BF Tryz.func91 ?_
 unfold AK at h
 refine AF h (fun _=>Db _ _ _ _ _ h_p1) fun x7 h=>?_
 exact A5 h
theorem UQ (p0:Af) (p1:An) (R:Int) (h:OC p0 p1 = some R):Aj Tryz.prog 277 [.d (Au p0),.d (Ai p1)] (.d (.int .i64 R)):=by
 refine BF Tryz.func277 ?_
 unfold OC at h
 refine AF h (fun _=>D8 _ _) fun x7 h=>?_
 refine Ap h fun h=>?_
 refine AF h (fun _=>PI _ _ _) fun x13 h=>?_
 exact A5 h
theorem Rb (p0:An) (q0:An) (R:Bool) (h:Jv p0 q0 = some R):Aj Tryz.prog 278 [.d (Ai p0),.d (.ptr [(.int .i64 q0.Column),(.int .i64 q0.Level)])] (.d (.bool R)):=by
 refine BF Tryz.func278 ?_
 unfold Jv at h
 exact A5 h
theorem TY (p0:Af) (p1:(List An)) (R:Bool) (h:MR p0 p1 = some R):Aj Tryz.prog 230 [.d (Au p0),.d (Ah 2 Ai p1)] (.d (.bool R)):=by
 refine BF Tryz.func230 ?_
 unfold MR at h
 refine z5 h (fun p=>BB 42 [(1,.d (Ah 2 Ai p1)),(2,.ptr 2 1 0),(7,.d (Ah 2 Ai p1)),(8,.d (.int .i64 ((p1.length:Nat):Int))),(9,.d (.int .i64 p))] [(2,.var [.d (Ah 2 Ae p0.Lists),.d (Ah 7 Ag p0.Columns)],1)]) Ak fun _ _ v9_1 h=>?_
 simp only [Ny] at h
 refine AY h fun h=>?_
 refine Bd (f:=Ai) h fun x12 _ h=>?_
 refine AF h (fun _=>UQ _ _ _) fun x16 h=>?_
 refine Ap h fun h=>?_
 refine Bd (f:=Ag) h fun x23 _ h=>?_
 refine Ap h fun h=>?_
 conv=>whnf
 obtain ⟨hr,h⟩:=Dm h
 refine z9 ?_
 try simp only [List.length_map]
 rw [WE]
 refine AF h (fun _=>BN _ _ _ _ _ (fun a0 _ h=>Rb a0 _ _ h)) fun x32 h=>?_
 exact z17
theorem SX (p0:Af) (p1:Int) (p2:(List Int)) (R:Bool) (h:L0 p0 p1 p2 = some R):Aj Tryz.prog 231 [.d (Au p0),.d (.int .i64 p1),.d (Ah 1 (D.int .i64) p2)] (.d (.bool R)):=by
 refine BF Tryz.func231 ?_
 unfold L0 at h
 refine z5 h (fun p=>BB 41 [(1,.d (.int .i64 p1)),(2,.d (Ah 1 (D.int .i64) p2)),(3,.ptr 3 1 0),(9,.d (Ah 1 (D.int .i64) p2)),(10,.d (.int .i64 ((p2.length:Nat):Int))),(11,.d (.int .i64 p))] [(3,.var [.d (Ah 2 Ae p0.Lists),.d (Ah 7 Ag p0.Columns)],1)]) Ak fun _ _ v11_1 h=>?_
 simp only [Mn] at h
 refine AY h fun h=>?_
 refine Bd (f:=(D.int .i64)) h fun x14 _ h=>?_
 refine AF h (fun _=>Cc _ _ _) fun x18 h=>?_
 refine Ap h fun h=>?_
 obtain ⟨hr,h⟩:=Dm h
 refine z9 ?_
 try simp only [List.length_map]
 rw [WE]
 refine AF h (fun _=>Gd _ _ _) fun x30 h=>?_
 exact z17
theorem TZ (p0:Af) (p1:A2) (R:Bool) (h:JJ p0 p1 = some R):Aj Tryz.prog 158 [.d (Au p0),.d (Ad p1)] (.d (.bool R)):=by
 refine BF Tryz.func158 ?_
 unfold JJ at h
 refine AE h (fun h=>?_) fun h=>?_
 ·exact z16
 refine AE h (fun h=>?_) fun h=>?_
 ·refine AF h (fun _=>Gg _ _) fun x21 h=>?_
  exact z16
 conv=>whnf
 refine MB h Cj (fun e3 h=>?_) (fun e3 h=>?_)
 ·conv=>whnf
  refine N6 Cj e3 ?_
  exact z48
 conv=>whnf
 refine MB h Cj (fun e4 h=>?_) (fun e4 h=>?_)
 ·conv=>whnf
  refine N6 Cj e4 ?_
  exact z48
 refine AE h (fun h=>?_) fun h=>?_
 ·exact z48
 refine AE h (fun h=>?_) fun h=>?_
 ·refine AF h (fun _=>TY _ _ _) fun x35 h=>?_
  refine AE h (fun h=>?_) fun h=>?_
  ·refine AE h (fun h=>?_) fun h=>?_
   ·exact z22
   refine AF h (fun _=>Cc _ _ _) fun x44 h=>?_
   exact z16
  exact z22
 refine AE h (fun h=>?_) fun h=>?_
 ·refine AF h (fun _=>Cc _ _ _) fun x52 h=>?_
  refine AE h (fun h=>?_) fun h=>?_
  ·refine AF h (fun _=>SX _ _ _ _) fun x59 h=>?_
   exact z16
  exact z22
 refine AE h (fun h=>?_) fun h=>?_
 ·refine AF h (fun _=>Cc _ _ _) fun x66 h=>?_
  refine AE h (fun h=>?_) fun h=>?_
  ·refine Bd (f:=Ag) h fun x72 _ h=>?_
   exact z16
  exact z22
 refine AE h (fun h=>?_) fun h=>?_
 ·conv=>whnf
  refine z12 ?_
  refine AF h (fun _=>Cc _ _ _) fun x82 h=>?_
  refine AE h (fun h=>?_) fun h=>?_
  ·refine Bd (f:=Ag) h fun x88 _ h=>?_
   refine AF h (fun _=>Gd _ _ _) fun x93 h=>?_
   exact z16
  exact z22
 exact z16
theorem Gr (p0:(List A2)) (p1:(A2→Option Bool)) (f_p1:FuncId) (c_p1:List D) (R:Int) (h_p1:∀ (a0:A2) r,p1 a0 = some r→Aj Tryz.prog f_p1 ([.d (Ad a0)]++c_p1.map .d) (.d (.bool r))) (h:BA p0 p1 = some R):Aj Tryz.prog 232 [.d (Ah 19 Bn p0),.d (.fn f_p1 c_p1)] (.d (.int .i64 R)):=by
 refine BF Tryz.func232 ?_
 unfold BA at h
 refine z5 h (fun p=>BB 19 [(0,.d (Ah 19 Bn p0)),(1,.d (.fn f_p1 c_p1)),(7,.d (.int .i64 ((p0.length:Nat):Int))),(8,.d (.int .i64 p))] []) A4 fun _ _ v8_1 h=>?_
 simp only [CU] at h
 refine AE h (fun h=>?_) fun h=>?_
 ·refine Bd (f:=Bn) h fun x14 _ h=>?_
  rw [Ab x14]
  conv=>whnf
  rw [Gx]
  refine AF h (fun _=>h_p1 _ _) fun x16 h=>?_
  refine AE h (fun h=>?_) fun h=>?_
  ·exact z16
  exact z40
 exact z16
theorem AQ (p0:(List A2)) (p1:(A2→Option Bool)) (f_p1:FuncId) (c_p1:List D) (R:Bool) (h_p1:∀ (a0:A2) r,p1 a0 = some r→Aj Tryz.prog f_p1 ([.d (Ad a0)]++c_p1.map .d) (.d (.bool r))) (h:A7 p0 p1 = some R):Aj Tryz.prog 160 [.d (Ah 19 Bn p0),.d (.fn f_p1 c_p1)] (.d (.bool R)):=by
 refine BF Tryz.func160 ?_
 unfold A7 at h
 refine AF h (fun _=>Gr _ _ _ _ _ h_p1) fun x7 h=>?_
 exact z16
theorem Mk (p0:Int) (R:Bool) (h:HJ p0 = some R):Aj Tryz.prog 97 [.d (.int .i64 p0)] (.d (.bool R)):=by
 refine BF Tryz.func97 ?_
 unfold HJ at h
 exact A5 h
theorem RG (d:Nat) (self_program_right:(Af→A2→Option Bool)) (ih_program_right:∀ (p0:Af) (p1:A2) (R:Bool) ,self_program_right p0 p1 = some R→Aj Tryz.prog 90 [.d (Au p0),.d (Ad p1)] (.d (.bool R))) (self_program_right_c1:(A2→Af→Option Bool)) (ih_program_right_c1:∀ (p0:A2) (q0:Af) (R:Bool) ,self_program_right_c1 p0 q0 = some R→Aj Tryz.prog 161 [.d (Ad p0),.d (.ptr [(Ah 2 Ae q0.Lists),(Ah 7 Ag q0.Columns)])] (.d (.bool R))) (p0:Af) (p1:A2) (R:Bool) (h:Cm d self_program_right self_program_right_c1 p0 p1 = some R):Aj Tryz.prog 90 [.d (Au p0),.d (Ad p1)] (.d (.bool R)):=by
 refine Dk [4] Tryz.func90 (by kernel_rfl) ?_
 unfold Cm at h
 refine AF h (fun _=>RE _ _) fun x10 h=>?_
 refine FW {p:Unit // Dy x10 d p0 p1 self_program_right_c1 = some R} (fun p=>BB 61 [(2,.ptr 2 1 0),(3,.ptr 3 1 0),(5,.ptr 5 1 0)] [(2,.var [.d (Ah 2 Ae p0.Lists),.d (Ah 7 Ag p0.Columns)],1),(3,.var [.d (.int .i64 p1.Op),.d (.int .i64 p1.Num),.d (.str p1.Name),.d (.int .i64 p1.Column),.d (Ah 1 (D.int .i64) p1.Columns),.d (Ah 2 Ai p1.Dims),.d (.int .i64 p1.Cond.Op),.d (.int .i64 p1.Cond.Column),.d (.int .i64 p1.Cond.Code),.d (.int .i64 p1.Cond.Low),.d (.int .i64 p1.Cond.High),.d (Ah 6 Ax p1.Cond.Kids),.d (.int .i64 p1.Event.Op),.d (.int .i64 p1.Event.Column),.d (.int .i64 p1.Event.Code),.d (.int .i64 p1.Event.Low),.d (.int .i64 p1.Event.High),.d (Ah 6 Ax p1.Event.Kids),.d (Ah 19 Bn p1.Kids)],1),(5,.var [.d (.bool x10.1.f_num),.d (.bool x10.1.f_name),.d (.bool x10.1.f_column),.d (.bool x10.1.f_columns),.d (.bool x10.1.f_dims),.d (.bool x10.1.f_cond),.d (.bool x10.1.f_event)],1)]) ?_ fun p=>?_
 ·refine AE h (fun h=>?_) fun h=>?_
  ·exact z22
  refine AF h (fun _=>RH _ _ _) fun x18 h=>?_
  refine AE h (fun h=>?_) fun h=>?_
  ·exact z22
  refine AF h (fun _=>TZ _ _ _) fun x24 h=>?_
  refine AE h (fun h=>?_) fun h=>?_
  ·exact z16
  conv=>whnf
  exact ⟨⟨(),h⟩,A4⟩
 obtain ⟨_,h⟩:=p
 simp only [Dy] at h
 refine AE h (fun h=>?_) fun h=>?_
 ·refine AF h (fun _=>Ea _ _ _ _) fun x33 h=>?_
  refine AE h (fun h=>?_) fun h=>?_
  ·exact z22
  refine AE h (fun h=>?_) fun h=>?_
  ·obtain ⟨x43,hx43,h⟩:=A8 h
   refine Av (Ea _ _ _ _ hx43) ?_
   refine AE h (fun h=>?_) fun h=>?_
   ·exact z16
   conv=>whnf
   obtain ⟨x49,hx49,h⟩:=A8 h
   refine Av (CQ _ _ hx49) ?_
   refine AE h (fun h=>?_) fun h=>?_
   ·exact z16
   exact z29
  obtain ⟨x49,hx49,h⟩:=A8 h
  refine Av (CQ _ _ hx49) ?_
  refine AE h (fun h=>?_) fun h=>?_
  ·exact z16
  exact z29
 refine AE h (fun h=>?_) fun h=>?_
 ·obtain ⟨x43,hx43,h⟩:=A8 h
  refine Av (Ea _ _ _ _ hx43) ?_
  refine AE h (fun h=>?_) fun h=>?_
  ·exact z16
  conv=>whnf
  obtain ⟨x49,hx49,h⟩:=A8 h
  refine Av (CQ _ _ hx49) ?_
  refine AE h (fun h=>?_) fun h=>?_
  ·exact z16
  exact z29
 obtain ⟨x49,hx49,h⟩:=A8 h
 refine Av (CQ _ _ hx49) ?_
 refine AE h (fun h=>?_) fun h=>?_
 ·exact z16
 exact z29
theorem Ph (d:Nat) (self_program_right:(Af→A2→Option Bool)) (ih_program_right:∀ (p0:Af) (p1:A2) (R:Bool) ,self_program_right p0 p1 = some R→Aj Tryz.prog 90 [.d (Au p0),.d (Ad p1)] (.d (.bool R))) (self_program_right_c1:(A2→Af→Option Bool)) (ih_program_right_c1:∀ (p0:A2) (q0:Af) (R:Bool) ,self_program_right_c1 p0 q0 = some R→Aj Tryz.prog 161 [.d (Ad p0),.d (.ptr [(Ah 2 Ae q0.Lists),(Ah 7 Ag q0.Columns)])] (.d (.bool R))) (p0:A2) (q0:Af) (R:Bool) (h:D3 d self_program_right self_program_right_c1 p0 q0 = some R):Aj Tryz.prog 161 [.d (Ad p0),.d (.ptr [(Ah 2 Ae q0.Lists),(Ah 7 Ag q0.Columns)])] (.d (.bool R)):=by
 refine BF Tryz.func161 ?_
 unfold D3 at h
 refine AF h (fun _=>Mk _ _) fun x6 h=>?_
 refine AE h (fun h=>?_) fun h=>?_
 ·exact z22
 obtain ⟨x11,hx11,h⟩:=A8 h
 first | refine Av (ih_program_right _ _ _ hx11) ?_ | (simp only [List.length_map]; refine Av (ih_program_right _ _ _ hx11) ?_)
 exact z16
theorem DL:∀ d:Nat,(∀ (p0:Af) (p1:A2) (R:Bool) ,B9 d p0 p1 = some R→Aj Tryz.prog 90 [.d (Au p0),.d (Ad p1)] (.d (.bool R)))∧(∀ (p0:A2) (q0:Af) (R:Bool) ,C9 d p0 q0 = some R→Aj Tryz.prog 161 [.d (Ad p0),.d (.ptr [(Ah 2 Ae q0.Lists),(Ah 7 Ag q0.Columns)])] (.d (.bool R)))
 | 0=>by
  refine ⟨?_,?_⟩ <;> (intros; rename_i h; cases h)
 | d + 1=>by
  have ih:=DL d
  exact ⟨RG d _ (ih).1 _ (ih).2,Ph d _ (ih).1 _ (ih).2⟩
theorem SV (d:Nat):∀ (p0:Af) (p1:A2) (R:Bool) ,B9 d p0 p1 = some R→Aj Tryz.prog 90 [.d (Au p0),.d (Ad p1)] (.d (.bool R)):=(DL d).1
end Go.Proofs.YtjgeigjjfcnojaaGreatDoor.P
