/- P3W2 -/
import Derived.Test.YtejfnieiaecpkaaGreatDoorP3W1
set_option linter.unusedSimpArgs false
namespace Go.Proofs.YtejfnieiaecpkaaGreatDoor.P
open Go.Abs Go.Proofs
set_option maxRecDepth 100000
set_option maxHeartbeats 4000000
set_option linter.unusedVariables false
theorem Sf (d:Nat) (self_condition_deep:(Af→Option Int)) (ih_condition_deep:∀ (p0:Af) (R:Int) ,self_condition_deep p0 = some R→Aj Tryz.prog 141 [.d (Ax p0)] (.d (.int .i64 R))) (p0:Af) (R:Int) (h:Dc d self_condition_deep p0 = some R):Aj Tryz.prog 141 [.d (Ax p0)] (.d (.int .i64 R)):=by
 refine Ch Tryz.func141 ?_
 unfold Dc at h
 refine z3 h (fun p=>B8 20 [(3,.d (.int .i64 p.1)),(7,.d (Al 6 Ao p0.Kids)),(8,.d (.int .i64 ((p0.Kids.length:Nat):Int))),(9,.d (.int .i64 p.2))] []) Aq fun _ _ ⟨v3_1,v9_1⟩ h=>?_
 simp only [Ec] at h
 refine Cb h fun h=>?_
 refine AO (f:=Ao) h fun x11 _ h=>?_
 rw [A9 x11]
 conv=>whnf
 obtain ⟨x15,hx15,h⟩:=AB h
 first | refine Au (ih_condition_deep _ _ hx15) ?_ | (simp only [List.length_map]; refine Au (ih_condition_deep _ _ hx15) ?_)
 exact z19
theorem M3:∀ d:Nat,(∀ (p0:Af) (R:Int) ,Cv d p0 = some R→Aj Tryz.prog 141 [.d (Ax p0)] (.d (.int .i64 R)))
 | 0=>by
  exact z22
 | d + 1=>by
  have ih:=M3 d
  exact Sf d _ ih
theorem SG (d:Nat):∀ (p0:Af) (R:Int) ,Cv d p0 = some R→Aj Tryz.prog 141 [.d (Ax p0)] (.d (.int .i64 R)):=M3 d
theorem Tc (p0:Int) (R:Int) (h:JC p0 = some R):Aj Tryz.prog 261 [.d (.int .i64 p0)] (.d (.int .i64 R)):=by
 refine Ch Tryz.func261 ?_
 unfold JC at h
 conv=>whnf
 refine KG h Db (fun e1 h=>?_) (fun e1 h=>?_)
 ·conv=>whnf
  refine Lp Db e1 ?_
  exact A3 h
 refine An h fun h=>?_
 exact EC h
theorem QG (p0:Af) (R:Bool) (h:C3 p0 = some R):Aj Tryz.prog 262 [.d (Ax p0)] (.d (.bool R)):=by
 refine Ch Tryz.func262 ?_
 unfold C3 at h
 conv=>whnf
 refine KG h Db (fun e1 h=>?_) (fun e1 h=>?_)
 ·conv=>whnf
  refine Lp Db e1 ?_
  exact AM h
 exact M4 h
theorem OK (p0:Aa) (p1:Af) (R:Int) (h:AR p0 p1 = some R):Aj Tryz.prog 203 [.d (Ai p0),.d (Ax p1)] (.d (.int .i64 R)):=by
 refine Dt [9] Tryz.func203 (by kernel_rfl) ?_
 unfold AR at h
 refine F0 {p:Unit // AF p0 p1 = some R} (fun p=>B8 113 [(2,.ptr 2 1 0),(3,.ptr 3 1 0)] [(2,.var [.d (Al 2 Ac p0.Lists),.d (Al 7 Ad p0.Columns)],1),(3,.var [.d (.int .i64 p1.Op),.d (.int .i64 p1.Column),.d (.int .i64 p1.Code),.d (.int .i64 p1.Low),.d (.int .i64 p1.High),.d (Al 6 Ao p1.Kids)],1)]) ?_ fun p=>?_
 ·refine A2 h fun h=>?_
  conv=>whnf
  refine z11 ?_
  refine A7 h (fun _=>Tc _ _) fun x21 h=>?_
  refine A2 h fun h=>?_
  refine A7 h (fun _=>QG _ _) fun x25 h=>?_
  refine A2 h fun h=>?_
  refine A2 h fun h=>?_
  exact z35
 obtain ⟨_,h⟩:=p
 simp only [AF] at h
 refine AO (f:=Ad) h fun x58 _ h=>?_
 refine AW h (fun h=>?_) fun h=>?_
 ·refine A2 h fun h=>?_
  conv=>whnf
  refine z11 ?_
  refine A2 h fun h=>?_
  refine AO (f:=Ac) h fun x77 _ h=>?_
  exact M4 h
 refine AW h (fun h=>?_) fun h=>?_
 ·refine A2 h fun h=>?_
  exact M4 h
 refine Cb h fun h=>?_
 exact M4 h
theorem O5 (d:Nat) (self_condition_checkAll:(Aa→Af→Option Int)) (ih_condition_checkAll:∀ (p0:Aa) (p1:Af) (R:Int) ,self_condition_checkAll p0 p1 = some R→Aj Tryz.prog 142 [.d (Ai p0),.d (Ax p1)] (.d (.int .i64 R))) (p0:Aa) (p1:Af) (R:Int) (h:BI d self_condition_checkAll p0 p1 = some R):Aj Tryz.prog 142 [.d (Ai p0),.d (Ax p1)] (.d (.int .i64 R)):=by
 refine Ch Tryz.func142 ?_
 unfold BI at h
 refine A7 h (fun _=>OK _ _ _) fun x11 h=>?_
 refine A2 h fun h=>?_
 refine z3 h (fun p=>B8 29 [(2,.ptr 2 1 0),(16,.d (Al 6 Ao p1.Kids)),(17,.d (.int .i64 ((p1.Kids.length:Nat):Int))),(18,.d (.int .i64 p))] [(2,.var [.d (Al 2 Ac p0.Lists),.d (Al 7 Ad p0.Columns)],1)]) Aq fun _ _ v18_1 h=>?_
 simp only [Bw] at h
 refine Cb h fun h=>?_
 refine AO (f:=Ao) h fun x20 _ h=>?_
 rw [A9 x20]
 conv=>whnf
 obtain ⟨x24,hx24,h⟩:=AB h
 first | refine Au (ih_condition_checkAll _ _ _ hx24) ?_ | (simp only [List.length_map]; refine Au (ih_condition_checkAll _ _ _ hx24) ?_)
 exact z28
theorem JH:∀ d:Nat,(∀ (p0:Aa) (p1:Af) (R:Int) ,BK d p0 p1 = some R→Aj Tryz.prog 142 [.d (Ai p0),.d (Ax p1)] (.d (.int .i64 R)))
 | 0=>by
  exact z22
 | d + 1=>by
  have ih:=JH d
  exact O5 d _ ih
theorem OZ (d:Nat):∀ (p0:Aa) (p1:Af) (R:Int) ,BK d p0 p1 = some R→Aj Tryz.prog 142 [.d (Ai p0),.d (Ax p1)] (.d (.int .i64 R)):=JH d
theorem Fe (d:Nat) (p0:Aa) (p1:Af) (R:Int) (h:B7 d p0 p1 = some R):Aj Tryz.prog 80 [.d (Ai p0),.d (Ax p1)] (.d (.int .i64 R)):=by
 refine Ch Tryz.func80 ?_
 unfold B7 at h
 refine A7 h (fun _=>E4 _ _) fun x7 h=>?_
 refine A2 h fun h=>?_
 refine A7 h (fun _=>Sb _ _ _ _) fun x14 h=>?_
 refine A2 h fun h=>?_
 refine A7 h (fun _=>SG _ _ _) fun x18 h=>?_
 refine A2 h fun h=>?_
 refine A7 h (fun _=>OZ _ _ _ _) fun x22 h=>?_
 exact AM h
theorem SA (p0:Int) (R:(Bt × Bool)) (h:LR p0 = some R):Aj Tryz.prog 186 [.d (.int .i64 p0)] (.tup [.d (ON R.1),.d (.bool R.2)]):=by
 refine Dt [25] Tryz.func186 (by kernel_rfl) ?_
 unfold LR at h
 refine F0 {p:Unit // IT = some R} (fun p=>B8 38 [(2,.ptr 2 1 0)] [(2,.var [.d (.bool false),.d (.bool false),.d (.bool false),.d (.bool false),.d (.bool false),.d (.bool false),.d (.bool false)],1)]) ?_ fun p=>?_
 ·refine An h fun h=>?_
  refine An h fun h=>?_
  refine An h fun h=>?_
  conv=>whnf
  refine KG h Db (fun e18 h=>?_) (fun e18 h=>?_)
  ·conv=>whnf
   refine Lp Db e18 ?_
   exact A3 h
  conv=>whnf
  refine KG h Db (fun e19 h=>?_) (fun e19 h=>?_)
  ·conv=>whnf
   refine Lp Db e19 ?_
   exact A3 h
  refine An h fun h=>?_
  conv=>whnf
  refine KG h Db (fun e21 h=>?_) (fun e21 h=>?_)
  ·conv=>whnf
   refine Lp Db e21 ?_
   exact A3 h
  conv=>whnf
  refine KG h Db (fun e22 h=>?_) (fun e22 h=>?_)
  ·conv=>whnf
   refine Lp Db e22 ?_
   exact A3 h
  conv=>whnf
  refine KG h Db (fun e23 h=>?_) (fun e23 h=>?_)
  ·conv=>whnf
   refine Lp Db e23 ?_
   exact A3 h
  refine An h fun h=>?_
  refine An h fun h=>?_
  refine An h fun h=>?_
  refine An h fun h=>?_
  exact z23
 obtain ⟨_,h⟩:=p
 simp only [IT] at h
 exact A3 h
theorem DU (p0:Int) (R:Bool) (h:DI p0 = some R):Aj Tryz.prog 189 [.d (.int .i64 p0)] (.d (.bool R)):=by
 refine Ch Tryz.func189 ?_
 unfold DI at h
 exact A3 h
theorem KH (p0:Af) (R:Bool) (h:HZ p0 = some R):Aj Tryz.prog 247 [.d (Ax p0)] (.d (.bool R)):=by
 refine Ch Tryz.func247 ?_
 unfold HZ at h
 exact AM h
theorem Tj (p0:AD) (p1:Bt) (R:Bool) (h:Jo p0 p1 = some R):Aj Tryz.prog 187 [.d (Bb p0),.d (ON p1)] (.d (.bool R)):=by
 refine Ch Tryz.func187 ?_
 unfold Jo at h
 refine Cb h fun h=>?_
 refine AW h (fun h=>?_) fun h=>?_
 ·refine AW h (fun h=>?_) fun h=>?_
  ·exact z41
  obtain ⟨x65,hx65,h⟩:=AB h
  refine Au (KH _ _ hx65) ?_
  refine Cb h fun h=>?_
  exact z41
 refine A7 h (fun _=>KH _ _) fun x56 h=>?_
 refine Cb h fun h=>?_
 refine AW h (fun h=>?_) fun h=>?_
 ·exact z41
 obtain ⟨x65,hx65,h⟩:=AB h
 refine Au (KH _ _ hx65) ?_
 refine Cb h fun h=>?_
 exact z41
theorem CE (p0:Aa) (p1:Int) (R:Bool) (h:By p0 p1 = some R):Aj Tryz.prog 248 [.d (Ai p0),.d (.int .i64 p1)] (.d (.bool R)):=by
 refine Ch Tryz.func248 ?_
 unfold By at h
 refine Bj h fun h=>?_
 refine AO (f:=Ad) h fun x18 _ h=>?_
 exact A3 h
theorem VP (p0:Aa) (p1:Ae) (R:Int) (h:OV p0 p1 = some R):Aj Tryz.prog 285 [.d (Ai p0),.d (Ag p1)] (.d (.int .i64 R)):=by
 refine Ch Tryz.func285 ?_
 unfold OV at h
 refine A7 h (fun _=>E4 _ _) fun x7 h=>?_
 refine An h fun h=>?_
 refine A7 h (fun _=>Qy _ _ _) fun x13 h=>?_
 exact A3 h
theorem Rk (p0:Ae) (q0:Ae) (R:Bool) (h:KQ p0 q0 = some R):Aj Tryz.prog 286 [.d (Ag p0),.d (.ptr [(.int .i64 q0.Column),(.int .i64 q0.Level)])] (.d (.bool R)):=by
 refine Ch Tryz.func286 ?_
 unfold KQ at h
 exact A3 h
theorem V6 (p0:Aa) (p1:(List Ae)) (R:Bool) (h:NQ p0 p1 = some R):Aj Tryz.prog 249 [.d (Ai p0),.d (Al 2 Ag p1)] (.d (.bool R)):=by
 refine Ch Tryz.func249 ?_
 unfold NQ at h
 refine z3 h (fun p=>B8 42 [(1,.d (Al 2 Ag p1)),(2,.ptr 2 1 0),(7,.d (Al 2 Ag p1)),(8,.d (.int .i64 ((p1.length:Nat):Int))),(9,.d (.int .i64 p))] [(2,.var [.d (Al 2 Ac p0.Lists),.d (Al 7 Ad p0.Columns)],1)]) Ah fun _ _ v9_1 h=>?_
 simp only [Oj] at h
 refine Bj h fun h=>?_
 refine AO (f:=Ag) h fun x12 _ h=>?_
 refine A7 h (fun _=>VP _ _ _) fun x16 h=>?_
 refine An h fun h=>?_
 refine AO (f:=Ad) h fun x23 _ h=>?_
 refine An h fun h=>?_
 conv=>whnf
 obtain ⟨hr,h⟩:=Eg h
 refine z7 ?_
 try simp only [List.length_map]
 rw [Wd]
 refine A7 h (fun _=>Cj _ _ _ _ _ (fun a0 _ h=>Rk a0 _ _ h)) fun x32 h=>?_
 exact z12
theorem Uh (p0:Aa) (p1:Int) (p2:(List Int)) (R:Bool) (h:MU p0 p1 p2 = some R):Aj Tryz.prog 250 [.d (Ai p0),.d (.int .i64 p1),.d (Al 1 (D.int .i64) p2)] (.d (.bool R)):=by
 refine Ch Tryz.func250 ?_
 unfold MU at h
 refine z3 h (fun p=>B8 41 [(1,.d (.int .i64 p1)),(2,.d (Al 1 (D.int .i64) p2)),(3,.ptr 3 1 0),(9,.d (Al 1 (D.int .i64) p2)),(10,.d (.int .i64 ((p2.length:Nat):Int))),(11,.d (.int .i64 p))] [(3,.var [.d (Al 2 Ac p0.Lists),.d (Al 7 Ad p0.Columns)],1)]) Ah fun _ _ v11_1 h=>?_
 simp only [N4] at h
 refine Bj h fun h=>?_
 refine AO (f:=(D.int .i64)) h fun x14 _ h=>?_
 refine A7 h (fun _=>CE _ _ _) fun x18 h=>?_
 refine An h fun h=>?_
 obtain ⟨hr,h⟩:=Eg h
 refine z7 ?_
 try simp only [List.length_map]
 rw [Wd]
 refine A7 h (fun _=>E7 _ _ _) fun x30 h=>?_
 exact z12
theorem UY (p0:Aa) (p1:AD) (R:Bool) (h:Hy p0 p1 = some R):Aj Tryz.prog 188 [.d (Ai p0),.d (Bb p1)] (.d (.bool R)):=by
 refine Ch Tryz.func188 ?_
 unfold Hy at h
 refine A2 h fun h=>?_
 refine AW h (fun h=>?_) fun h=>?_
 ·refine A7 h (fun _=>JD _ _) fun x21 h=>?_
  exact AM h
 conv=>whnf
 refine KG h Db (fun e3 h=>?_) (fun e3 h=>?_)
 ·conv=>whnf
  refine Lp Db e3 ?_
  exact z47
 conv=>whnf
 refine KG h Db (fun e4 h=>?_) (fun e4 h=>?_)
 ·conv=>whnf
  refine Lp Db e4 ?_
  exact z47
 refine AW h (fun h=>?_) fun h=>?_
 ·exact z47
 refine AW h (fun h=>?_) fun h=>?_
 ·refine A7 h (fun _=>V6 _ _ _) fun x35 h=>?_
  refine Cb h fun h=>?_
  refine A2 h fun h=>?_
  refine A7 h (fun _=>CE _ _ _) fun x44 h=>?_
  exact AM h
 refine AW h (fun h=>?_) fun h=>?_
 ·refine A7 h (fun _=>CE _ _ _) fun x52 h=>?_
  refine Cb h fun h=>?_
  refine A7 h (fun _=>Uh _ _ _ _) fun x59 h=>?_
  exact AM h
 refine AW h (fun h=>?_) fun h=>?_
 ·refine A7 h (fun _=>CE _ _ _) fun x66 h=>?_
  refine Cb h fun h=>?_
  refine AO (f:=Ad) h fun x72 _ h=>?_
  exact AM h
 refine Cb h fun h=>?_
 conv=>whnf
 refine z11 ?_
 refine A7 h (fun _=>CE _ _ _) fun x82 h=>?_
 refine Cb h fun h=>?_
 refine AO (f:=Ad) h fun x88 _ h=>?_
 refine A7 h (fun _=>E7 _ _ _) fun x93 h=>?_
 exact AM h
theorem S9 (p0:Int) (R:Bool) (h:Lz p0 = some R):Aj Tryz.prog 192 [.d (.int .i64 p0)] (.d (.bool R)):=by
 refine Ch Tryz.func192 ?_
 unfold Lz at h
 exact A3 h
theorem SP (d:Nat) (self_program_right:(Aa→AD→Option Bool)) (ih_program_right:∀ (p0:Aa) (p1:AD) (R:Bool) ,self_program_right p0 p1 = some R→Aj Tryz.prog 121 [.d (Ai p0),.d (Bb p1)] (.d (.bool R))) (self_program_right_c1:(AD→Aa→Option Bool)) (ih_program_right_c1:∀ (p0:AD) (q0:Aa) (R:Bool) ,self_program_right_c1 p0 q0 = some R→Aj Tryz.prog 191 [.d (Bb p0),.d (.ptr [(Al 2 Ac q0.Lists),(Al 7 Ad q0.Columns)])] (.d (.bool R))) (p0:Aa) (p1:AD) (R:Bool) (h:G4 d self_program_right self_program_right_c1 p0 p1 = some R):Aj Tryz.prog 121 [.d (Ai p0),.d (Bb p1)] (.d (.bool R)):=by
 refine Dt [4] Tryz.func121 (by kernel_rfl) ?_
 unfold G4 at h
 refine A7 h (fun _=>SA _ _) fun x10 h=>?_
 refine F0 {p:Unit // H3 x10 d p0 p1 self_program_right_c1 = some R} (fun p=>B8 61 [(2,.ptr 2 1 0),(3,.ptr 3 1 0),(5,.ptr 5 1 0)] [(2,.var [.d (Al 2 Ac p0.Lists),.d (Al 7 Ad p0.Columns)],1),(3,.var [.d (.int .i64 p1.Op),.d (.int .i64 p1.Num),.d (.str p1.Name),.d (.int .i64 p1.Column),.d (Al 1 (D.int .i64) p1.Columns),.d (Al 2 Ag p1.Dims),.d (.int .i64 p1.Cond.Op),.d (.int .i64 p1.Cond.Column),.d (.int .i64 p1.Cond.Code),.d (.int .i64 p1.Cond.Low),.d (.int .i64 p1.Cond.High),.d (Al 6 Ao p1.Cond.Kids),.d (.int .i64 p1.Event.Op),.d (.int .i64 p1.Event.Column),.d (.int .i64 p1.Event.Code),.d (.int .i64 p1.Event.Low),.d (.int .i64 p1.Event.High),.d (Al 6 Ao p1.Event.Kids),.d (Al 19 B9 p1.Kids)],1),(5,.var [.d (.bool x10.1.f_num),.d (.bool x10.1.f_name),.d (.bool x10.1.f_column),.d (.bool x10.1.f_columns),.d (.bool x10.1.f_dims),.d (.bool x10.1.f_cond),.d (.bool x10.1.f_event)],1)]) ?_ fun p=>?_
 ·refine A2 h fun h=>?_
  refine A7 h (fun _=>Tj _ _ _) fun x18 h=>?_
  refine A2 h fun h=>?_
  refine A7 h (fun _=>UY _ _ _) fun x24 h=>?_
  exact z35
 obtain ⟨_,h⟩:=p
 simp only [H3] at h
 refine AW h (fun h=>?_) fun h=>?_
 ·refine A7 h (fun _=>Fe _ _ _ _) fun x33 h=>?_
  refine A2 h fun h=>?_
  refine AW h (fun h=>?_) fun h=>?_
  ·obtain ⟨x43,hx43,h⟩:=AB h
   refine Au (Fe _ _ _ _ hx43) ?_
   refine A2 h fun h=>?_
   conv=>whnf
   exact z32
  exact z32
 refine AW h (fun h=>?_) fun h=>?_
 ·obtain ⟨x43,hx43,h⟩:=AB h
  refine Au (Fe _ _ _ _ hx43) ?_
  refine A2 h fun h=>?_
  conv=>whnf
  exact z32
 exact z32
theorem PY (d:Nat) (self_program_right:(Aa→AD→Option Bool)) (ih_program_right:∀ (p0:Aa) (p1:AD) (R:Bool) ,self_program_right p0 p1 = some R→Aj Tryz.prog 121 [.d (Ai p0),.d (Bb p1)] (.d (.bool R))) (self_program_right_c1:(AD→Aa→Option Bool)) (ih_program_right_c1:∀ (p0:AD) (q0:Aa) (R:Bool) ,self_program_right_c1 p0 q0 = some R→Aj Tryz.prog 191 [.d (Bb p0),.d (.ptr [(Al 2 Ac q0.Lists),(Al 7 Ad q0.Columns)])] (.d (.bool R))) (p0:AD) (q0:Aa) (R:Bool) (h:I6 d self_program_right self_program_right_c1 p0 q0 = some R):Aj Tryz.prog 191 [.d (Bb p0),.d (.ptr [(Al 2 Ac q0.Lists),(Al 7 Ad q0.Columns)])] (.d (.bool R)):=by
 refine Ch Tryz.func191 ?_
 unfold I6 at h
 refine A7 h (fun _=>S9 _ _) fun x6 h=>?_
 refine A2 h fun h=>?_
 obtain ⟨x11,hx11,h⟩:=AB h
 first | refine Au (ih_program_right _ _ _ hx11) ?_ | (simp only [List.length_map]; refine Au (ih_program_right _ _ _ hx11) ?_)
 exact AM h
theorem EG:∀ d:Nat,(∀ (p0:Aa) (p1:AD) (R:Bool) ,GL d p0 p1 = some R→Aj Tryz.prog 121 [.d (Ai p0),.d (Bb p1)] (.d (.bool R)))∧(∀ (p0:AD) (q0:Aa) (R:Bool) ,H6 d p0 q0 = some R→Aj Tryz.prog 191 [.d (Bb p0),.d (.ptr [(Al 2 Ac q0.Lists),(Al 7 Ad q0.Columns)])] (.d (.bool R)))
 | 0=>by
  refine ⟨?_,?_⟩ <;> (intros; rename_i h; cases h)
 | d + 1=>by
  have ih:=EG d
  exact ⟨SP d _ (ih).1 _ (ih).2,PY d _ (ih).1 _ (ih).2⟩
theorem Ud (d:Nat):∀ (p0:Aa) (p1:AD) (R:Bool) ,GL d p0 p1 = some R→Aj Tryz.prog 121 [.d (Ai p0),.d (Bb p1)] (.d (.bool R)):=(EG d).1
theorem Oi (d:Nat) (p0:Aa) (p1:AD) (R:Bool) (h:Eu d p0 p1 = some R):Aj Tryz.prog 62 [.d (Ai p0),.d (Bb p1)] (.d (.bool R)):=by
 refine Ch Tryz.func62 ?_
 unfold Eu at h
 refine A7 h (fun _=>E4 _ _) fun x6 h=>?_
 refine Cb h fun h=>?_
 refine A7 h (fun _=>Ud _ _ _ _) fun x11 h=>?_
 exact AM h
theorem ME (p0:Ae) (q0:Ae) (R:Bool) (h:El p0 q0 = some R):Aj Tryz.prog 124 [.d (Ag p0),.d (.ptr [(.int .i64 q0.Column),(.int .i64 q0.Level)])] (.d (.bool R)):=by
 refine Ch Tryz.func124 ?_
 unfold El at h
 exact A3 h
theorem O2 (p0:Ae) (q0:(List Ae)) (R:Bool) (h:F3 p0 q0 = some R):Aj Tryz.prog 123 [.d (Ag p0),.d (.ptr [(Al 2 Ag q0)])] (.d (.bool R)):=by
 refine Ch Tryz.func123 ?_
 unfold F3 at h
 refine A7 h (fun _=>Cj _ _ _ _ _ (fun a0 _ h=>ME a0 _ _ h)) fun x6 h=>?_
 exact A3 h
theorem Mf (p0:(List Ae)) (p1:(List Ae)) (R:Bool) (h:Ey p0 p1 = some R):Aj Tryz.prog 63 [.d (Al 2 Ag p0),.d (Al 2 Ag p1)] (.d (.bool R)):=by
 refine Ch Tryz.func63 ?_
 unfold Ey at h
 refine A7 h (fun _=>Cj _ _ _ _ _ (fun a0 _ h=>O2 a0 _ _ h)) fun x7 h=>?_
 exact A3 h
theorem QF (d:Nat) (self_condition_Atoms:(Af→Option (List Af))) (ih_condition_Atoms:∀ (p0:Af) (R:(List Af)) ,self_condition_Atoms p0 = some R→Aj Tryz.prog 143 [.d (Ax p0)] (.d (Al 6 Ao R))) (p0:Af) (R:(List Af)) (h:Fa d self_condition_Atoms p0 = some R):Aj Tryz.prog 143 [.d (Ax p0)] (.d (Al 6 Ao R)):=by
 refine Ch Tryz.func143 ?_
 unfold Fa at h
 refine AW h (fun h=>?_) fun h=>?_
 ·exact z46
 refine z3 h (fun p=>B8 34 [(3,.sl 3 1),(22,.d (Al 6 Ao p0.Kids)),(23,.d (.int .i64 ((p0.Kids.length:Nat):Int))),(24,.d (.int .i64 p.1))] [(3,.row 6 47 (List.map Ao p.2),1)]) Mx fun _ _ ⟨v24_1,b3_1⟩ h=>?_
 simp only [Gm] at h
 refine AW h (fun h=>?_) fun h=>?_
 ·refine AO (f:=Ao) h fun x26 _ h=>?_
  rw [A9 x26]
  conv=>whnf
  obtain ⟨x30,hx30,h⟩:=AB h
  first | refine Au (ih_condition_Atoms _ _ hx30) ?_ | (simp only [List.length_map]; refine Au (ih_condition_Atoms _ _ hx30) ?_)
  conv=>whnf
  obtain ⟨hr,h⟩:=Eg h
  refine z4 ?_
  try rw [jg]
  conv=>whnf
  exact BE ⟨(_,(_,_)),h⟩ Mx
 exact z46
theorem LM:∀ d:Nat,(∀ (p0:Af) (R:(List Af)) ,EU d p0 = some R→Aj Tryz.prog 143 [.d (Ax p0)] (.d (Al 6 Ao R)))
 | 0=>by
  exact z22
 | d + 1=>by
  have ih:=LM d
  exact QF d _ ih
theorem Sd (d:Nat):∀ (p0:Af) (R:(List Af)) ,EU d p0 = some R→Aj Tryz.prog 143 [.d (Ax p0)] (.d (Al 6 Ao R)):=LM d
theorem J8 (p0:Bool) (R:Int) (h:Dp p0 = some R):Aj Tryz.prog 265 [.d (.bool p0)] (.d (.int .i64 R)):=by
 refine Ch Tryz.func265 ?_
 unfold Dp at h
 exact EC h
theorem Wr (p0:Am) (p1:Int) (p2:Int) (R:Bool) (h:K9 p0 p1 p2 = some R):Aj Tryz.prog 266 [.d (Ac p0),.d (.int .i64 p1),.d (.int .i64 p2)] (.d (.bool R)):=by
 refine Ch Tryz.func266 ?_
 unfold K9 at h
 refine A7 h (fun _=>Pj _ _ _) fun x9 h=>?_
 refine An h fun h=>?_
 refine A7 h (fun _=>Pj _ _ _) fun x14 h=>?_
 refine An h fun h=>?_
 conv=>whnf
 refine z11 ?_
 refine A7 h (fun _=>Ho _ _) fun x20 h=>?_
 refine AO (f:=(D.int .i64)) h fun x22 _ h=>?_
 refine A7 h (fun _=>L4 _ _ _ _) fun x24 h=>?_
 exact A3 h
theorem N1 (p0:Aa) (p1:Af) (p2:Int) (R:Int) (h:B2 p0 p1 p2 = some R):Aj Tryz.prog 207 [.d (Ai p0),.d (Ax p1),.d (.int .i64 p2)] (.d (.int .i64 R)):=by
 refine Ch Tryz.func207 ?_
 unfold B2 at h
 refine AW h (fun h=>?_) fun h=>?_
 ·conv=>whnf
  refine z11 ?_
  refine AO (f:=Ad) h fun x17 _ h=>?_
  refine AO (f:=Ac) h fun x20 _ h=>?_
  refine A7 h (fun _=>Wr _ _ _ _) fun x25 h=>?_
  refine A7 h (fun _=>J8 _ _) fun x26 h=>?_
  exact AM h
 refine AW h (fun h=>?_) fun h=>?_
 ·refine A7 h (fun _=>J8 _ _) fun x33 h=>?_
  exact AM h
 refine A2 h fun h=>?_
 refine A7 h (fun _=>J8 _ _) fun x47 h=>?_
 exact AM h
theorem Rl (p0:Av) (p1:Int) (R:Int) (h:GA p0 p1 = some R):Aj Tryz.prog 208 [.d (Ad p0),.d (.int .i64 p1)] (.d (.int .i64 R)):=by
 refine Ch Tryz.func208 ?_
 unfold GA at h
 refine AO (f:=(D.int .i64)) h fun x12 _ h=>?_
 exact A3 h
end Go.Proofs.YtejfnieiaecpkaaGreatDoor.P
