/- P3W3 -/
import Derived.Test.YtjghjdokjgcehaaGreatDoorP3W2
set_option linter.unusedSimpArgs false
namespace Go.Proofs.YtjghjdokjgcehaaGreatDoor.P
open Go.Abs Go.Proofs
set_option maxRecDepth 100000
set_option maxHeartbeats 4000000
set_option linter.unusedVariables false
theorem RO (d:Nat) (self_program_right:(Ae→Av→Option Bool)) (ih_program_right:∀ (p0:Ae) (p1:Av) (R:Bool) ,self_program_right p0 p1 = some R→Al Tryz.prog 166 [.d (Au p0),.d (Ac p1)] (.d (.bool R))) (self_program_right_c1:(Av→Ae→Option Bool)) (ih_program_right_c1:∀ (p0:Av) (q0:Ae) (R:Bool) ,self_program_right_c1 p0 q0 = some R→Al Tryz.prog 224 [.d (Ac p0),.d (.ptr [(Ah 2 Af q0.Lists),(Ah 7 Ai q0.Columns)])] (.d (.bool R))) (p0:Ae) (p1:Av) (R:Bool) (h:JY d self_program_right self_program_right_c1 p0 p1 = some R):Al Tryz.prog 166 [.d (Au p0),.d (Ac p1)] (.d (.bool R)):=by
 refine Ek [4] Tryz.func166 (by kernel_rfl) ?_
 unfold JY at h
 refine AU h (fun _=>RL _ _) fun x10 h=>?_
 refine Ga {p:Unit // Jr x10 d p0 p1 self_program_right_c1 = some R} (fun p=>Cd 61 [(2,.ptr 2 1 0),(3,.ptr 3 1 0),(5,.ptr 5 1 0)] [(2,.var [.d (Ah 2 Af p0.Lists),.d (Ah 7 Ai p0.Columns)],1),(3,.var [.d (.int .i64 p1.Op),.d (.int .i64 p1.Num),.d (.str p1.Name),.d (.int .i64 p1.Column),.d (Ah 1 (D.int .i64) p1.Columns),.d (Ah 2 Ak p1.Dims),.d (.int .i64 p1.Cond.Op),.d (.int .i64 p1.Cond.Column),.d (.int .i64 p1.Cond.Code),.d (.int .i64 p1.Cond.Low),.d (.int .i64 p1.Cond.High),.d (Ah 6 Ap p1.Cond.Kids),.d (.int .i64 p1.Event.Op),.d (.int .i64 p1.Event.Column),.d (.int .i64 p1.Event.Code),.d (.int .i64 p1.Event.Low),.d (.int .i64 p1.Event.High),.d (Ah 6 Ap p1.Event.Kids),.d (Ah 19 AP p1.Kids)],1),(5,.var [.d (.bool x10.1.f_num),.d (.bool x10.1.f_name),.d (.bool x10.1.f_column),.d (.bool x10.1.f_columns),.d (.bool x10.1.f_dims),.d (.bool x10.1.f_cond),.d (.bool x10.1.f_event)],1)]) ?_ fun p=>?_
 ·refine AM h (fun h=>?_) fun h=>?_
  ·exact z20
  refine AU h (fun _=>RP _ _ _) fun x18 h=>?_
  refine AM h (fun h=>?_) fun h=>?_
  ·exact z20
  refine AU h (fun _=>Ug _ _ _) fun x24 h=>?_
  refine AM h (fun h=>?_) fun h=>?_
  ·exact z16
  exact z50
 obtain ⟨_,h⟩:=p
 simp only [Jr] at h
 refine AM h (fun h=>?_) fun h=>?_
 ·refine AU h (fun _=>Ct _ _ _ _) fun x33 h=>?_
  refine AM h (fun h=>?_) fun h=>?_
  ·exact z20
  refine AM h (fun h=>?_) fun h=>?_
  ·obtain ⟨x43,hx43,h⟩:=A9 h
   refine A1 (Ct _ _ _ _ hx43) ?_
   refine AM h (fun h=>?_) fun h=>?_
   ·exact z16
   conv=>whnf
   obtain ⟨x49,hx49,h⟩:=A9 h
   refine A1 (D4 _ _ hx49) ?_
   refine AM h (fun h=>?_) fun h=>?_
   ·exact z16
   exact z31
  obtain ⟨x49,hx49,h⟩:=A9 h
  refine A1 (D4 _ _ hx49) ?_
  refine AM h (fun h=>?_) fun h=>?_
  ·exact z16
  exact z31
 refine AM h (fun h=>?_) fun h=>?_
 ·obtain ⟨x43,hx43,h⟩:=A9 h
  refine A1 (Ct _ _ _ _ hx43) ?_
  refine AM h (fun h=>?_) fun h=>?_
  ·exact z16
  conv=>whnf
  obtain ⟨x49,hx49,h⟩:=A9 h
  refine A1 (D4 _ _ hx49) ?_
  refine AM h (fun h=>?_) fun h=>?_
  ·exact z16
  exact z31
 obtain ⟨x49,hx49,h⟩:=A9 h
 refine A1 (D4 _ _ hx49) ?_
 refine AM h (fun h=>?_) fun h=>?_
 ·exact z16
 exact z31
theorem Pl (d:Nat) (self_program_right:(Ae→Av→Option Bool)) (ih_program_right:∀ (p0:Ae) (p1:Av) (R:Bool) ,self_program_right p0 p1 = some R→Al Tryz.prog 166 [.d (Au p0),.d (Ac p1)] (.d (.bool R))) (self_program_right_c1:(Av→Ae→Option Bool)) (ih_program_right_c1:∀ (p0:Av) (q0:Ae) (R:Bool) ,self_program_right_c1 p0 q0 = some R→Al Tryz.prog 224 [.d (Ac p0),.d (.ptr [(Ah 2 Af q0.Lists),(Ah 7 Ai q0.Columns)])] (.d (.bool R))) (p0:Av) (q0:Ae) (R:Bool) (h:HO d self_program_right self_program_right_c1 p0 q0 = some R):Al Tryz.prog 224 [.d (Ac p0),.d (.ptr [(Ah 2 Af q0.Lists),(Ah 7 Ai q0.Columns)])] (.d (.bool R)):=by
 refine Cn Tryz.func224 ?_
 unfold HO at h
 refine AU h (fun _=>M6 _ _) fun x6 h=>?_
 refine AM h (fun h=>?_) fun h=>?_
 ·exact z20
 obtain ⟨x11,hx11,h⟩:=A9 h
 first | refine A1 (ih_program_right _ _ _ hx11) ?_ | (simp only [List.length_map]; refine A1 (ih_program_right _ _ _ hx11) ?_)
 exact z16
theorem E2:∀ d:Nat,(∀ (p0:Ae) (p1:Av) (R:Bool) ,Hk d p0 p1 = some R→Al Tryz.prog 166 [.d (Au p0),.d (Ac p1)] (.d (.bool R)))∧(∀ (p0:Av) (q0:Ae) (R:Bool) ,Jq d p0 q0 = some R→Al Tryz.prog 224 [.d (Ac p0),.d (.ptr [(Ah 2 Af q0.Lists),(Ah 7 Ai q0.Columns)])] (.d (.bool R)))
 | 0=>by
  refine ⟨?_,?_⟩ <;> (intros; rename_i h; cases h)
 | d + 1=>by
  have ih:=E2 d
  exact ⟨RO d _ (ih).1 _ (ih).2,Pl d _ (ih).1 _ (ih).2⟩
theorem SX (d:Nat):∀ (p0:Ae) (p1:Av) (R:Bool) ,Hk d p0 p1 = some R→Al Tryz.prog 166 [.d (Au p0),.d (Ac p1)] (.d (.bool R)):=(E2 d).1
theorem N1 (d:Nat) (p0:Ae) (p1:Av) (R:Bool) (h:J7 d p0 p1 = some R):Al Tryz.prog 112 [.d (Au p0),.d (Ac p1)] (.d (.bool R)):=by
 refine Cn Tryz.func112 ?_
 unfold J7 at h
 refine AU h (fun _=>CS _ _) fun x6 h=>?_
 refine AM h (fun h=>?_) fun h=>?_
 ·refine AU h (fun _=>SX _ _ _ _) fun x11 h=>?_
  exact z16
 exact z20
theorem RN (d:Nat) (self_program_named:(Av→(ByteArray→Option Bool)→Option Bool)) (ih_program_named:∀ (p0:Av) (p1:(ByteArray→Option Bool)) (f_p1:FuncId) (c_p1:List D) (R:Bool) (h_p1:∀ (a0:ByteArray) r,p1 a0 = some r→Al Tryz.prog f_p1 ([.d (.str a0)]++c_p1.map .d) (.d (.bool r))),self_program_named p0 p1 = some R→Al Tryz.prog 113 [.d (Ac p0),.d (.fn f_p1 c_p1)] (.d (.bool R))) (self_program_named_c1:(Av→(ByteArray→Option Bool)→Option Bool)) (ih_program_named_c1:∀ (p0:Av) (q0:(ByteArray→Option Bool)) (f_q0:FuncId) (c_q0:List D) (R:Bool) (h_q0:∀ (a0:ByteArray) r,q0 a0 = some r→Al Tryz.prog f_q0 ([.d (.str a0)]++c_q0.map .d) (.d (.bool r))),self_program_named_c1 p0 q0 = some R→Al Tryz.prog 168 [.d (Ac p0),.d (.ptr [.fn f_q0 c_q0])] (.d (.bool R))) (p0:Av) (p1:(ByteArray→Option Bool)) (f_p1:FuncId) (c_p1:List D) (R:Bool) (h_p1:∀ (a0:ByteArray) r,p1 a0 = some r→Al Tryz.prog f_p1 ([.d (.str a0)]++c_p1.map .d) (.d (.bool r))) (h:JX d self_program_named self_program_named_c1 p0 p1 = some R):Al Tryz.prog 113 [.d (Ac p0),.d (.fn f_p1 c_p1)] (.d (.bool R)):=by
 refine Cn Tryz.func113 ?_
 unfold JX at h
 refine AM h (fun h=>?_) fun h=>?_
 ·conv=>whnf
  rw [G3]
  refine AU h (fun _=>h_p1 _ _) fun x12 h=>?_
  refine AM h (fun h=>?_) fun h=>?_
  ·exact z16
  conv=>whnf
  exact z54
 exact z54
theorem Pk (d:Nat) (self_program_named:(Av→(ByteArray→Option Bool)→Option Bool)) (ih_program_named:∀ (p0:Av) (p1:(ByteArray→Option Bool)) (f_p1:FuncId) (c_p1:List D) (R:Bool) (h_p1:∀ (a0:ByteArray) r,p1 a0 = some r→Al Tryz.prog f_p1 ([.d (.str a0)]++c_p1.map .d) (.d (.bool r))),self_program_named p0 p1 = some R→Al Tryz.prog 113 [.d (Ac p0),.d (.fn f_p1 c_p1)] (.d (.bool R))) (self_program_named_c1:(Av→(ByteArray→Option Bool)→Option Bool)) (ih_program_named_c1:∀ (p0:Av) (q0:(ByteArray→Option Bool)) (f_q0:FuncId) (c_q0:List D) (R:Bool) (h_q0:∀ (a0:ByteArray) r,q0 a0 = some r→Al Tryz.prog f_q0 ([.d (.str a0)]++c_q0.map .d) (.d (.bool r))),self_program_named_c1 p0 q0 = some R→Al Tryz.prog 168 [.d (Ac p0),.d (.ptr [.fn f_q0 c_q0])] (.d (.bool R))) (p0:Av) (q0:(ByteArray→Option Bool)) (f_q0:FuncId) (c_q0:List D) (R:Bool) (h_q0:∀ (a0:ByteArray) r,q0 a0 = some r→Al Tryz.prog f_q0 ([.d (.str a0)]++c_q0.map .d) (.d (.bool r))) (h:HM d self_program_named self_program_named_c1 p0 q0 = some R):Al Tryz.prog 168 [.d (Ac p0),.d (.ptr [.fn f_q0 c_q0])] (.d (.bool R)):=by
 refine Cn Tryz.func168 ?_
 unfold HM at h
 conv=>whnf
 obtain ⟨x6,hx6,h⟩:=A9 h
 first | refine A1 (ih_program_named _ _ _ _ _ h_q0 hx6) ?_ | (simp only [List.length_map]; refine A1 (ih_program_named _ _ _ _ _ h_q0 hx6) ?_)
 exact z16
theorem E1:∀ d:Nat,(∀ (p0:Av) (p1:(ByteArray→Option Bool)) (f_p1:FuncId) (c_p1:List D) (R:Bool) (h_p1:∀ (a0:ByteArray) r,p1 a0 = some r→Al Tryz.prog f_p1 ([.d (.str a0)]++c_p1.map .d) (.d (.bool r))),Hj d p0 p1 = some R→Al Tryz.prog 113 [.d (Ac p0),.d (.fn f_p1 c_p1)] (.d (.bool R)))∧(∀ (p0:Av) (q0:(ByteArray→Option Bool)) (f_q0:FuncId) (c_q0:List D) (R:Bool) (h_q0:∀ (a0:ByteArray) r,q0 a0 = some r→Al Tryz.prog f_q0 ([.d (.str a0)]++c_q0.map .d) (.d (.bool r))),Jp d p0 q0 = some R→Al Tryz.prog 168 [.d (Ac p0),.d (.ptr [.fn f_q0 c_q0])] (.d (.bool R)))
 | 0=>by
  refine ⟨?_,?_⟩ <;> (intros; rename_i h; cases h)
 | d + 1=>by
  have ih:=E1 d
  exact ⟨RN d _ (ih).1 _ (ih).2,Pk d _ (ih).1 _ (ih).2⟩
theorem SV (d:Nat):∀ (p0:Av) (p1:(ByteArray→Option Bool)) (f_p1:FuncId) (c_p1:List D) (R:Bool) (h_p1:∀ (a0:ByteArray) r,p1 a0 = some r→Al Tryz.prog f_p1 ([.d (.str a0)]++c_p1.map .d) (.d (.bool r))),Hj d p0 p1 = some R→Al Tryz.prog 113 [.d (Ac p0),.d (.fn f_p1 c_p1)] (.d (.bool R)):=(E1 d).1
theorem Qj (d:Nat) (p0:Ae) (p1:(List Ax)) (p2:Ax) (R:Int) (h:Jo d p0 p1 p2 = some R):Al Tryz.prog 61 [.d (Au p0),.d (Ah 21 A5 p1),.d (A5 p2)] (.d (.int .i64 R)):=by
 refine Cn Tryz.func61 ?_
 unfold Jo at h
 refine AU h (fun _=>DY _ _) fun x12 h=>?_
 refine An h fun h=>?_
 refine AU h (fun _=>Jd _ _ _) fun x18 h=>?_
 refine An h fun h=>?_
 refine AU h (fun _=>SS _ _ _ _) fun x22 h=>?_
 refine An h fun h=>?_
 refine AU h (fun _=>Ue _ _ _) fun x27 h=>?_
 refine An h fun h=>?_
 refine AU h (fun _=>N1 _ _ _ _) fun x33 h=>?_
 refine An h fun h=>?_
 refine AU h (fun _=>SV _ _ _ _ _ _ (fun a0 _ h=>Jd a0 _ _ h)) fun x39 h=>?_
 exact Eb h
theorem N0 (d:Nat) (p0:Ae) (p1:(List Ax)) (R:(Int × Int)) (h:J6 d p0 p1 = some R):Al Tryz.prog 32 [.d (Au p0),.d (Ah 21 A5 p1)] (.tup [.d (.int .i64 R.1),.d (.int .i64 R.2)]):=by
 refine Cn Tryz.func32 ?_
 unfold J6 at h
 refine AU h (fun _=>CS _ _) fun x11 h=>?_
 refine An h fun h=>?_
 refine An h fun h=>?_
 refine z5 h (fun p=>Cd 38 [(1,.d (Ah 21 A5 p1)),(2,.ptr 2 1 0),(18,.d (Ah 21 A5 p1)),(19,.d (.int .i64 ((p1.length:Nat):Int))),(20,.d (.int .i64 p))] [(2,.var [.d (Ah 2 Af p0.Lists),.d (Ah 7 Ai p0.Columns)],1)]) As fun _ _ v20_1 h=>?_
 simp only [M5] at h
 refine B0 h fun h=>?_
 refine B6 (f:=A5) h fun x23 _ h=>?_
 conv=>whnf
 refine z13 ?_
 conv=>whnf
 obtain ⟨hr,h⟩:=E0 h
 refine z9 ?_
 try simp only [List.length_map]
 rw [SO]
 refine AU h (fun _=>Qj _ _ _ _ _) fun x30 h=>?_
 exact z17
theorem LM (p0:Aw) (q0:Aw) (R:Bool) (h:FA p0 q0 = some R):Al Tryz.prog 170 [.d (Ak p0),.d (.ptr [(.int .i64 q0.Column),(.int .i64 q0.Level)])] (.d (.bool R)):=by
 refine Cn Tryz.func170 ?_
 unfold FA at h
 exact AD h
theorem NB (p0:Aw) (q0:(List Aw)) (R:Bool) (h:GZ p0 q0 = some R):Al Tryz.prog 169 [.d (Ak p0),.d (.ptr [(Ah 2 Ak q0)])] (.d (.bool R)):=by
 refine Cn Tryz.func169 ?_
 unfold GZ at h
 refine AU h (fun _=>B5 _ _ _ _ _ (fun a0 _ h=>LM a0 _ _ h)) fun x6 h=>?_
 exact AD h
theorem KE (p0:(List Aw)) (p1:(List Aw)) (R:Bool) (h:GH p0 p1 = some R):Al Tryz.prog 114 [.d (Ah 2 Ak p0),.d (Ah 2 Ak p1)] (.d (.bool R)):=by
 refine Cn Tryz.func114 ?_
 unfold GH at h
 refine AU h (fun _=>B5 _ _ _ _ _ (fun a0 _ h=>NB a0 _ _ h)) fun x7 h=>?_
 exact AD h
theorem PO (d:Nat) (self_condition_Atoms:(Aj→Option (List Aj))) (ih_condition_Atoms:∀ (p0:Aj) (R:(List Aj)) ,self_condition_Atoms p0 = some R→Al Tryz.prog 174 [.d (Ad p0)] (.d (Ah 6 Ap R))) (p0:Aj) (R:(List Aj)) (h:Iy d self_condition_Atoms p0 = some R):Al Tryz.prog 174 [.d (Ad p0)] (.d (Ah 6 Ap R)):=by
 refine Cn Tryz.func174 ?_
 unfold Iy at h
 refine AM h (fun h=>?_) fun h=>?_
 ·conv=>whnf
  exact z25
 refine z5 h (fun p=>Cd 34 [(3,.sl 3 1),(22,.d (Ah 6 Ap p0.Kids)),(23,.d (.int .i64 ((p0.Kids.length:Nat):Int))),(24,.d (.int .i64 p.1))] [(3,.row 6 25 (List.map Ap p.2),1)]) Ns fun _ _ ⟨v24_1,b3_1⟩ h=>?_
 simp only [KC] at h
 refine AM h (fun h=>?_) fun h=>?_
 ·refine B6 (f:=Ap) h fun x26 _ h=>?_
  rw [Aa x26]
  conv=>whnf
  obtain ⟨x30,hx30,h⟩:=A9 h
  first | refine A1 (ih_condition_Atoms _ _ hx30) ?_ | (simp only [List.length_map]; refine A1 (ih_condition_Atoms _ _ hx30) ?_)
  conv=>whnf
  obtain ⟨hr,h⟩:=E0 h
  refine z6 ?_
  try rw [dX]
  conv=>whnf
  exact Cw ⟨(_,(_,_)),h⟩ Ns
 conv=>whnf
 exact z25
theorem KD:∀ d:Nat,(∀ (p0:Aj) (R:(List Aj)) ,Hw d p0 = some R→Al Tryz.prog 174 [.d (Ad p0)] (.d (Ah 6 Ap R)))
 | 0=>by
  exact z24
 | d + 1=>by
  have ih:=KD d
  exact PO d _ ih
theorem Q2 (d:Nat):∀ (p0:Aj) (R:(List Aj)) ,Hw d p0 = some R→Al Tryz.prog 174 [.d (Ad p0)] (.d (Ah 6 Ap R)):=KD d
theorem I4 (p0:Bool) (R:Int) (h:FY p0 = some R):Al Tryz.prog 258 [.d (.bool p0)] (.d (.int .i64 R)):=by
 refine Cn Tryz.func258 ?_
 unfold FY at h
 exact Eb h
theorem UB (p0:Ay) (p1:Int) (p2:Int) (R:Bool) (h:NM p0 p1 p2 = some R):Al Tryz.prog 259 [.d (Af p0),.d (.int .i64 p1),.d (.int .i64 p2)] (.d (.bool R)):=by
 refine Cn Tryz.func259 ?_
 unfold NM at h
 refine AU h (fun _=>NN _ _ _) fun x9 h=>?_
 refine An h fun h=>?_
 refine AU h (fun _=>NN _ _ _) fun x14 h=>?_
 refine An h fun h=>?_
 conv=>whnf
 refine z13 ?_
 refine AU h (fun _=>G5 _ _) fun x20 h=>?_
 refine B6 (f:=(D.int .i64)) h fun x22 _ h=>?_
 refine AU h (fun _=>KB _ _ _ _) fun x24 h=>?_
 exact AD h
theorem Ml (p0:Ae) (p1:Aj) (p2:Int) (R:Int) (h:Ix p0 p1 p2 = some R):Al Tryz.prog 228 [.d (Au p0),.d (Ad p1),.d (.int .i64 p2)] (.d (.int .i64 R)):=by
 refine Cn Tryz.func228 ?_
 unfold Ix at h
 refine AM h (fun h=>?_) fun h=>?_
 ·conv=>whnf
  refine z13 ?_
  refine B6 (f:=Ai) h fun x17 _ h=>?_
  refine B6 (f:=Af) h fun x20 _ h=>?_
  refine AU h (fun _=>UB _ _ _ _) fun x25 h=>?_
  refine AU h (fun _=>I4 _ _) fun x26 h=>?_
  exact z16
 refine AM h (fun h=>?_) fun h=>?_
 ·refine AU h (fun _=>I4 _ _) fun x33 h=>?_
  exact z16
 refine AM h (fun h=>?_) fun h=>?_
 ·exact z16
 refine AU h (fun _=>I4 _ _) fun x47 h=>?_
 exact z16
theorem Q7 (p0:A4) (p1:Int) (R:Int) (h:JR p0 p1 = some R):Al Tryz.prog 229 [.d (Ai p0),.d (.int .i64 p1)] (.d (.int .i64 R)):=by
 refine Cn Tryz.func229 ?_
 unfold JR at h
 refine B6 (f:=(D.int .i64)) h fun x12 _ h=>?_
 exact AD h
theorem Jh (p0:Int) (p1:Int) (R:Int) (h:G6 p0 p1 = some R):Al Tryz.prog 230 [.d (.int .i64 p0),.d (.int .i64 p1)] (.d (.int .i64 R)):=by
 refine Cn Tryz.func230 ?_
 unfold G6 at h
 conv=>whnf
 obtain ⟨hr,h⟩:=E0 h
 refine z12 ?_
 exact Eb h
theorem NT (p0:Ae) (p1:Aj) (p2:Int) (R:Bool) (h:FC p0 p1 p2 = some R):Al Tryz.prog 175 [.d (Au p0),.d (Ad p1),.d (.int .i64 p2)] (.d (.bool R)):=by
 refine Cn Tryz.func175 ?_
 unfold FC at h
 refine B6 (f:=Ai) h fun x23 _ h=>?_
 refine AM h (fun h=>?_) fun h=>?_
 ·refine B6 (f:=Af) h fun x32 _ h=>?_
  conv=>whnf
  refine z13 ?_
  refine AU h (fun _=>Iw _ _) fun x37 h=>?_
  refine AU h (fun _=>MR _ _ _) fun x39 h=>?_
  refine z5 h (fun p=>Cd 134 [(2,.d (.int .i64 p2)),(3,.ptr 3 1 0),(4,.ptr 4 1 0),(8,.ptr 8 1 0),(9,.sl 34 1),(39,.d (Ah 1 (D.int .i64) x39)),(40,.d (.int .i64 ((x39.length:Nat):Int))),(41,.d (.int .i64 p.1))] [(3,.var [.d (Ah 2 Af p0.Lists),.d (Ah 7 Ai p0.Columns)],1),(4,.var [.d (.int .i64 p1.Op),.d (.int .i64 p1.Column),.d (.int .i64 p1.Code),.d (.int .i64 p1.Low),.d (.int .i64 p1.High),.d (Ah 6 Ap p1.Kids)],1),(8,.var [.d (.str x32.Name),.d (Ah 2 By x32.Codes)],1),(34,.map (bC .i64 (D.int .i64) p.2),1)]) A0 fun _ _ ⟨v41_1,b34_1⟩ h=>?_
  simp only [IZ] at h
  refine AM h (fun h=>?_) fun h=>?_
  ·refine B6 (f:=(D.int .i64)) h fun x43 _ h=>?_
   conv=>whnf
   refine z13 ?_
   refine AU h (fun _=>KB _ _ _ _) fun x48 h=>?_
   refine AU h (fun _=>Ml _ _ _ _) fun x52 h=>?_
   conv=>whnf
   refine ⟨⟨by kernel_rfl,M3 .i64 (D.int .i64) x48 b34_1⟩,?_⟩
   conv=>whnf
   refine QM (f:=(D.int .i64)) (es:=b34_1) (z:=0) ?_
   refine AM h (fun h=>?_) fun h=>?_
   ·exact z16
   conv=>whnf
   refine ⟨⟨by rfl,by kernel_rfl,M3 .i64 (D.int .i64) x48 b34_1⟩,?_⟩
   conv=>whnf
   try rw [WA .i64 (D.int .i64) x48 x52]
   exact Cw ⟨(_,(_,_)),h⟩ A0
  exact z16
 refine AM h (fun h=>?_) fun h=>?_
 ·exact z16
 refine AM h (fun h=>?_) fun h=>?_
 ·exact z16
 conv=>whnf
 refine z13 ?_
 refine AM h (fun h=>?_) fun h=>?_
 ·exact z16
 refine AM h (fun h=>?_) fun h=>?_
 ·exact z16
 refine AU h (fun _=>Q7 _ _ _) fun x107 h=>?_
 refine AM h (fun h=>?_) fun h=>?_
 ·refine AM h (fun h=>?_) fun h=>?_
  ·exact z20
  obtain ⟨x128,hx128,h⟩:=A9 h
  refine A1 (Jh _ _ _ hx128) ?_
  exact z16
 refine AU h (fun _=>Jh _ _ _) fun x115 h=>?_
 refine AM h (fun h=>?_) fun h=>?_
 ·refine AM h (fun h=>?_) fun h=>?_
  ·exact z20
  obtain ⟨x128,hx128,h⟩:=A9 h
  refine A1 (Jh _ _ _ hx128) ?_
  exact z16
 exact z20
theorem Iz (d:Nat) (p0:Ae) (p1:Aj) (R:(List Aw)) (h:FX d p0 p1 = some R):Al Tryz.prog 117 [.d (Au p0),.d (Ad p1)] (.d (Ah 2 Ak R)):=by
 refine Cn Tryz.func117 ?_
 unfold FX at h
 refine AU h (fun _=>Ct _ _ _ _) fun x14 h=>?_
 refine AM h (fun h=>?_) fun h=>?_
 ·conv=>whnf
  exact z25
 conv=>whnf
 obtain ⟨hr,h⟩:=E0 h
 refine z8 ?_
 try rw [cD]
 refine AU h (fun _=>Q2 _ _ _) fun x21 h=>?_
 refine z5 h (fun p=>Cd 63 [(2,.ptr 2 1 0),(5,.sl 19 1),(21,.d (Ah 6 Ap x21)),(22,.d (.int .i64 ((x21.length:Nat):Int))),(23,.d (.int .i64 p.1))] [(2,.var [.d (Ah 2 Af p0.Lists),.d (Ah 7 Ai p0.Columns)],1),(19,.row 1 3 (List.map (D.int .i64) p.2),1)]) A0 fun _ _ ⟨v23_1,b19_1⟩ h=>?_
 simp only [KF] at h
 refine AM h (fun h=>?_) fun h=>?_
 ·refine B6 (f:=Ap) h fun x25 _ h=>?_
  rw [Aa x25]
  refine z5 h (fun p=>Cd 63 [(2,.ptr 2 1 0),(5,.sl 19 1),(7,.ptr 7 1 0),(8,.d (.int .i64 p)),(21,.d (Ah 6 Ap x21)),(22,.d (.int .i64 ((x21.length:Nat):Int))),(23,.d (.int .i64 v23_1))] [(2,.var [.d (Ah 2 Af p0.Lists),.d (Ah 7 Ai p0.Columns)],1),(7,.var [.d (.int .i64 x25.Op),.d (.int .i64 x25.Column),.d (.int .i64 x25.Code),.d (.int .i64 x25.Low),.d (.int .i64 x25.High),.d (Ah 6 Ap x25.Kids)],1),(19,.row 1 3 (List.map (D.int .i64) b19_1),1)]) A0 fun _ _ v8_2 h=>?_
  simp only [KG] at h
  refine AU h (fun _=>NT _ _ _ _) fun x30 h=>?_
  refine AM h (fun h=>?_) fun h=>?_
  ·exact z43
  conv=>whnf
  try simp only [FB] at h
  refine z13 ?_
  refine RX (f:=(D.int .i64)) h Cc fun x40 hx40 h=>?_
  refine Z7 (f:=(D.int .i64)) hx40 Cc ?_
  refine RX (f:=(D.int .i64)) h Cc fun x44 hx44 h=>?_
  refine Z7 (f:=(D.int .i64)) hx44 Cc ?_
  conv=>whnf
  try rw [bR]
  exact Cw ⟨(_,(_,_)),h⟩ A0
 conv=>whnf
 try simp only [FB] at h
 refine z5 h (fun p=>Cd 63 [(9,.sl 9 1),(46,.sl 19 1),(47,.d (.int .i64 ((b19_1.length:Nat):Int))),(48,.d (.int .i64 p.1))] [(9,.row 2 101 (List.map Ak p.2),1),(19,.row 1 3 (List.map (D.int .i64) b19_1),1)]) A0 fun _ _ ⟨v48_3,b9_3⟩ h=>?_
 simp only [KH] at h
 refine AM h (fun h=>?_) fun h=>?_
 ·refine RX (f:=(D.int .i64)) h Cc fun x51 hx51 h=>?_
  refine Z7 (f:=(D.int .i64)) hx51 Cc ?_
  refine AM h (fun h=>?_) fun h=>?_
  ·conv=>whnf
   obtain ⟨hr,h⟩:=E0 h
   refine z6 ?_
   try rw [HT]
   exact z27
  exact z27
 conv=>whnf
 try simp only [FB] at h
 exact z25
theorem Ta (p0:Ae) (p1:Int) (p2:Int) (R:Int) (h:Mb p0 p1 p2 = some R):Al Tryz.prog 132 [.d (Au p0),.d (.int .i64 p1),.d (.int .i64 p2)] (.d (.int .i64 R)):=by
 refine Cn Tryz.func132 ?_
 unfold Mb at h
 refine B6 (f:=Ai) h fun x13 _ h=>?_
 refine z5 h (fun p=>Cd 31 [(2,.d (.int .i64 p2)),(7,.d (Ah 1 (D.int .i64) x13.Widths)),(16,.d (Ah 1 (D.int .i64) x13.Widths)),(17,.d (.int .i64 ((x13.Widths.length:Nat):Int))),(18,.d (.int .i64 p))] []) As fun _ _ v18_1 h=>?_
 simp only [MH] at h
 refine B0 h fun h=>?_
 refine B6 (f:=(D.int .i64)) h fun x21 _ h=>?_
 exact z17
theorem H9 (p0:Ae) (p1:Int) (R:Int) (h:Gm p0 p1 = some R):Al Tryz.prog 181 [.d (Au p0),.d (.int .i64 p1)] (.d (.int .i64 R)):=by
 refine Cn Tryz.func181 ?_
 unfold Gm at h
 refine AU h (fun _=>CS _ _) fun x6 h=>?_
 refine An h fun h=>?_
 refine AU h (fun _=>Kb _ _ _) fun x10 h=>?_
 exact AD h
theorem N9 (p0:Ae) (p1:Int) (p2:Int) (R:Int) (h:JF p0 p1 p2 = some R):Al Tryz.prog 257 [.d (Au p0),.d (.int .i64 p1),.d (.int .i64 p2)] (.d (.int .i64 R)):=by
 refine Cn Tryz.func257 ?_
 unfold JF at h
 refine B6 (f:=Ai) h fun x13 _ h=>?_
 refine AM h (fun h=>?_) fun h=>?_
 ·refine B6 (f:=Af) h fun x22 _ h=>?_
  refine AU h (fun _=>MR _ _ _) fun x25 h=>?_
  exact AD h
 refine An h fun h=>?_
 refine AU h (fun _=>Lq _ _ _) fun x31 h=>?_
 conv=>whnf
 refine z13 ?_
 refine AU h (fun _=>Gn _ _ _) fun x35 h=>?_
 refine AU h (fun _=>Gn _ _ _) fun x39 h=>?_
 conv=>whnf
 obtain ⟨hr,h⟩:=E0 h
 refine z12 ?_
 exact Eb h
end Go.Proofs.YtjghjdokjgcehaaGreatDoor.P
