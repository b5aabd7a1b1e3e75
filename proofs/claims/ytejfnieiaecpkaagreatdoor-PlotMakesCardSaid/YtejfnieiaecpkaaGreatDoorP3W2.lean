/- Printed by wip/tools/mkw.py: walks: condition_deep condition_kids condition_unused condition_checkOne condition_checkAll condition_Check program_fields program_Pair program_empty program_unused program_measure schema_Pick program_dims_c1 program_dims program_terms program_part program_Number program_right program_right_c1 program_Right condition_Covers_c1_c1 condition_Covers_c1 condition_Covers condition_Atoms condition_truth codes_Under condition_Atom condition_width -/
import Derived.Test.YtejfnieiaecpkaaGreatDoorChecked
import Derived.Test.YtejfnieiaecpkaaGreatDoorP3F
import Derived.Test.YtejfnieiaecpkaaGreatDoorP3A
import Derived.Test.YtejfnieiaecpkaaGreatDoorP3HW
import Derived.Test.YtejfnieiaecpkaaGreatDoorP3W1
set_option linter.unusedSimpArgs false
namespace Go.Proofs.YtejfnieiaecpkaaGreatDoor.P
open Go.Abs Go.Proofs
set_option maxRecDepth 100000
set_option maxHeartbeats 4000000
set_option linter.unusedVariables false
theorem QW (d:Nat) (self_condition_deep:(Ag→Option Int)) (ih_condition_deep:∀ (p0:Ag) (R:Int) ,self_condition_deep p0 = some R→Ao Tryz.prog 141 [.d (Aw p0)] (.d (.int .i64 R))) (p0:Ag) (R:Int) (h:Fl d self_condition_deep p0 = some R):Ao Tryz.prog 141 [.d (Aw p0)] (.d (.int .i64 R)):=by
 refine BP Tryz.func141 ?_
 unfold Fl at h
 obtain ⟨P1,i1,h⟩:=Az h
 refine loop {p:Nat × (Int × Int) // P1 p.1 p.2 = some R} (fun p=>B5 20 [(3,.d (.int .i64 p.1.2.1)),(7,.d (Aj 6 An p0.Kids)),(8,.d (.int .i64 ((p0.Kids.length:Nat):Int))),(9,.d (.int .i64 p.1.2.2))] []) (fun p=>p.1.1) ⟨(_,(_,_)),h⟩ ?_ fun p=>?_
 ·exact Aq
 obtain ⟨⟨k1,⟨v3_1,v9_1⟩⟩,h⟩:=p
 obtain ⟨k1,rfl,h⟩:=i1 _ _ h
 simp only [GB] at h
 refine BY h fun h=>?_
 refine AF (f:=An) h fun x11 _ h=>?_
 rw [A8 x11]
 conv=>whnf
 obtain ⟨x15,hx15,h⟩:=A7 h
 first | refine AD (ih_condition_deep _ _ hx15) ?_ | (simp only [List.length_map]; refine AD (ih_condition_deep _ _ hx15) ?_)
 conv=>whnf
 exact B1 ⟨(_,(_,_)),h⟩ Aq
theorem Mk:∀ d:Nat,(∀ (p0:Ag) (R:Int) ,Fm d p0 = some R→Ao Tryz.prog 141 [.d (Aw p0)] (.d (.int .i64 R)))
 | 0=>by
  refine (by intros; rename_i h; cases h)
 | d + 1=>by
  have ih:=Mk d
  exact QW d _ ih
theorem Sb (d:Nat):∀ (p0:Ag) (R:Int) ,Fm d p0 = some R→Ao Tryz.prog 141 [.d (Aw p0)] (.d (.int .i64 R)):=Mk d
theorem S3 (p0:Int) (R:Int) (h:Mb p0 = some R):Ao Tryz.prog 261 [.d (.int .i64 p0)] (.d (.int .i64 R)):=by
 refine BP Tryz.func261 ?_
 unfold Mb at h
 conv=>whnf
 refine KI h BU (fun e1 h=>?_) (fun e1 h=>?_)
 ·conv=>whnf
  refine Ld BU e1 ?_
  exact A0 h
 refine Ak h fun h=>?_
 exact DJ h
theorem Qv (p0:Ag) (R:Bool) (h:JB p0 = some R):Ao Tryz.prog 262 [.d (Aw p0)] (.d (.bool R)):=by
 refine BP Tryz.func262 ?_
 unfold JB at h
 conv=>whnf
 refine KI h BU (fun e1 h=>?_) (fun e1 h=>?_)
 ·conv=>whnf
  refine Ld BU e1 ?_
  exact AK h
 exact Lg h
theorem O8 (p0:Aa) (p1:Ag) (R:Int) (h:Ee p0 p1 = some R):Ao Tryz.prog 203 [.d (Ai p0),.d (Aw p1)] (.d (.int .i64 R)):=by
 refine CO [9] Tryz.func203 (by kernel_rfl) ?_
 unfold Ee at h
 refine Er {p:Unit // C8 p0 p1 = some R} (fun p=>B5 113 [(2,.ptr 2 1 0),(3,.ptr 3 1 0)] [(2,.var [.d (Aj 2 Ac p0.Lists),.d (Aj 7 Ad p0.Columns)],1),(3,.var [.d (.int .i64 p1.Op),.d (.int .i64 p1.Column),.d (.int .i64 p1.Code),.d (.int .i64 p1.Low),.d (.int .i64 p1.High),.d (Aj 6 An p1.Kids)],1)]) ?_ fun p=>?_
 ·refine A2 h fun h=>?_
  conv=>whnf
  refine ⟨⟨by decide +kernel,by kernel_rfl⟩,?_⟩
  refine A3 h (fun _=>S3 _ _) fun x21 h=>?_
  refine A2 h fun h=>?_
  refine A3 h (fun _=>Qv _ _) fun x25 h=>?_
  refine A2 h fun h=>?_
  refine A2 h fun h=>?_
  refine A2 h fun h=>?_
  conv=>whnf
  exact ⟨⟨(),h⟩,Aq⟩
 obtain ⟨_,h⟩:=p
 simp only [C8] at h
 refine AF (f:=Ad) h fun x58 _ h=>?_
 refine AH h (fun h=>?_) fun h=>?_
 ·refine A2 h fun h=>?_
  conv=>whnf
  refine ⟨⟨by decide +kernel,by kernel_rfl⟩,?_⟩
  refine A2 h fun h=>?_
  refine AF (f:=Ac) h fun x77 _ h=>?_
  exact Lg h
 refine AH h (fun h=>?_) fun h=>?_
 ·refine A2 h fun h=>?_
  exact Lg h
 refine BY h fun h=>?_
 exact Lg h
theorem Oy (d:Nat) (self_condition_checkAll:(Aa→Ag→Option Int)) (ih_condition_checkAll:∀ (p0:Aa) (p1:Ag) (R:Int) ,self_condition_checkAll p0 p1 = some R→Ao Tryz.prog 142 [.d (Ai p0),.d (Aw p1)] (.d (.int .i64 R))) (p0:Aa) (p1:Ag) (R:Int) (h:D6 d self_condition_checkAll p0 p1 = some R):Ao Tryz.prog 142 [.d (Ai p0),.d (Aw p1)] (.d (.int .i64 R)):=by
 refine BP Tryz.func142 ?_
 unfold D6 at h
 refine A3 h (fun _=>O8 _ _ _) fun x11 h=>?_
 refine A2 h fun h=>?_
 obtain ⟨P1,i1,h⟩:=Az h
 refine loop {p:Nat × Int // P1 p.1 p.2 = some R} (fun p=>B5 29 [(2,.ptr 2 1 0),(16,.d (Aj 6 An p1.Kids)),(17,.d (.int .i64 ((p1.Kids.length:Nat):Int))),(18,.d (.int .i64 p.1.2))] [(2,.var [.d (Aj 2 Ac p0.Lists),.d (Aj 7 Ad p0.Columns)],1)]) (fun p=>p.1.1) ⟨(_,_),h⟩ ?_ fun p=>?_
 ·exact Aq
 obtain ⟨⟨k1,v18_1⟩,h⟩:=p
 obtain ⟨k1,rfl,h⟩:=i1 _ _ h
 simp only [Eo] at h
 refine BY h fun h=>?_
 refine AF (f:=An) h fun x20 _ h=>?_
 rw [A8 x20]
 conv=>whnf
 obtain ⟨x24,hx24,h⟩:=A7 h
 first | refine AD (ih_condition_checkAll _ _ _ hx24) ?_ | (simp only [List.length_map]; refine AD (ih_condition_checkAll _ _ _ hx24) ?_)
 refine A2 h fun h=>?_
 conv=>whnf
 exact B1 ⟨(_,_),h⟩ Aq
theorem J7:∀ d:Nat,(∀ (p0:Aa) (p1:Ag) (R:Int) ,Do d p0 p1 = some R→Ao Tryz.prog 142 [.d (Ai p0),.d (Aw p1)] (.d (.int .i64 R)))
 | 0=>by
  refine (by intros; rename_i h; cases h)
 | d + 1=>by
  have ih:=J7 d
  exact Oy d _ ih
theorem OP (d:Nat):∀ (p0:Aa) (p1:Ag) (R:Int) ,Do d p0 p1 = some R→Ao Tryz.prog 142 [.d (Ai p0),.d (Aw p1)] (.d (.int .i64 R)):=J7 d
theorem EF (d:Nat) (p0:Aa) (p1:Ag) (R:Int) (h:BW d p0 p1 = some R):Ao Tryz.prog 80 [.d (Ai p0),.d (Aw p1)] (.d (.int .i64 R)):=by
 refine BP Tryz.func80 ?_
 unfold BW at h
 refine A3 h (fun _=>Eb _ _) fun x7 h=>?_
 refine A2 h fun h=>?_
 refine A3 h (fun _=>Ru _ _ _ _) fun x14 h=>?_
 refine A2 h fun h=>?_
 refine A3 h (fun _=>Sb _ _ _) fun x18 h=>?_
 refine A2 h fun h=>?_
 refine A3 h (fun _=>OP _ _ _ _) fun x22 h=>?_
 exact AK h
theorem RY (p0:Int) (R:(Bn × Bool)) (h:Ma p0 = some R):Ao Tryz.prog 186 [.d (.int .i64 p0)] (.tup [.d (OM R.1),.d (.bool R.2)]):=by
 refine CO [25] Tryz.func186 (by kernel_rfl) ?_
 unfold Ma at h
 refine Er {p:Unit // IE = some R} (fun p=>B5 38 [(2,.ptr 2 1 0)] [(2,.var [.d (.bool false),.d (.bool false),.d (.bool false),.d (.bool false),.d (.bool false),.d (.bool false),.d (.bool false)],1)]) ?_ fun p=>?_
 ·refine Ak h fun h=>?_
  refine Ak h fun h=>?_
  refine Ak h fun h=>?_
  conv=>whnf
  refine KI h BU (fun e18 h=>?_) (fun e18 h=>?_)
  ·conv=>whnf
   refine Ld BU e18 ?_
   exact A0 h
  conv=>whnf
  refine KI h BU (fun e19 h=>?_) (fun e19 h=>?_)
  ·conv=>whnf
   refine Ld BU e19 ?_
   exact A0 h
  refine Ak h fun h=>?_
  conv=>whnf
  refine KI h BU (fun e21 h=>?_) (fun e21 h=>?_)
  ·conv=>whnf
   refine Ld BU e21 ?_
   exact A0 h
  conv=>whnf
  refine KI h BU (fun e22 h=>?_) (fun e22 h=>?_)
  ·conv=>whnf
   refine Ld BU e22 ?_
   exact A0 h
  conv=>whnf
  refine KI h BU (fun e23 h=>?_) (fun e23 h=>?_)
  ·conv=>whnf
   refine Ld BU e23 ?_
   exact A0 h
  refine Ak h fun h=>?_
  refine Ak h fun h=>?_
  refine Ak h fun h=>?_
  refine Ak h fun h=>?_
  refine Ak h fun h=>?_
  conv=>whnf
  exact ⟨⟨(),h⟩,Ah⟩
 obtain ⟨_,h⟩:=p
 simp only [IE] at h
 exact A0 h
theorem D7 (p0:Int) (R:Bool) (h:Du p0 = some R):Ao Tryz.prog 189 [.d (.int .i64 p0)] (.d (.bool R)):=by
 refine BP Tryz.func189 ?_
 unfold Du at h
 exact A0 h
theorem KH (p0:Ag) (R:Bool) (h:Hv p0 = some R):Ao Tryz.prog 247 [.d (Aw p0)] (.d (.bool R)):=by
 refine BP Tryz.func247 ?_
 unfold Hv at h
 exact AK h
theorem Sm (p0:AA) (p1:Bn) (R:Bool) (h:GT p0 p1 = some R):Ao Tryz.prog 187 [.d (AX p0),.d (OM p1)] (.d (.bool R)):=by
 refine BP Tryz.func187 ?_
 unfold GT at h
 refine BY h fun h=>?_
 refine AH h (fun h=>?_) fun h=>?_
 ·refine AH h (fun h=>?_) fun h=>?_
  ·obtain ⟨x71,hx71,h⟩:=A7 h
   refine AD (D7 _ _ hx71) ?_
   exact AK h
  obtain ⟨x65,hx65,h⟩:=A7 h
  refine AD (KH _ _ hx65) ?_
  refine BY h fun h=>?_
  obtain ⟨x71,hx71,h⟩:=A7 h
  refine AD (D7 _ _ hx71) ?_
  exact AK h
 refine A3 h (fun _=>KH _ _) fun x56 h=>?_
 refine BY h fun h=>?_
 refine AH h (fun h=>?_) fun h=>?_
 ·obtain ⟨x71,hx71,h⟩:=A7 h
  refine AD (D7 _ _ hx71) ?_
  exact AK h
 obtain ⟨x65,hx65,h⟩:=A7 h
 refine AD (KH _ _ hx65) ?_
 refine BY h fun h=>?_
 obtain ⟨x71,hx71,h⟩:=A7 h
 refine AD (D7 _ _ hx71) ?_
 exact AK h
theorem C5 (p0:Aa) (p1:Int) (R:Bool) (h:Bi p0 p1 = some R):Ao Tryz.prog 248 [.d (Ai p0),.d (.int .i64 p1)] (.d (.bool R)):=by
 refine BP Tryz.func248 ?_
 unfold Bi at h
 refine Ba h fun h=>?_
 refine AF (f:=Ad) h fun x18 _ h=>?_
 exact A0 h
theorem Vs (p0:Aa) (p1:Ae) (R:Int) (h:OO p0 p1 = some R):Ao Tryz.prog 285 [.d (Ai p0),.d (Af p1)] (.d (.int .i64 R)):=by
 refine BP Tryz.func285 ?_
 unfold OO at h
 refine A3 h (fun _=>Eb _ _) fun x7 h=>?_
 refine Ak h fun h=>?_
 refine A3 h (fun _=>PK _ _ _) fun x13 h=>?_
 exact A0 h
theorem QN (p0:Ae) (q0:Ae) (R:Bool) (h:KJ p0 q0 = some R):Ao Tryz.prog 286 [.d (Af p0),.d (.ptr [(.int .i64 q0.Column),(.int .i64 q0.Level)])] (.d (.bool R)):=by
 refine BP Tryz.func286 ?_
 unfold KJ at h
 exact A0 h
theorem Un (p0:Aa) (p1:(List Ae)) (R:Bool) (h:NL p0 p1 = some R):Ao Tryz.prog 249 [.d (Ai p0),.d (Aj 2 Af p1)] (.d (.bool R)):=by
 refine BP Tryz.func249 ?_
 unfold NL at h
 obtain ⟨P1,i1,h⟩:=Az h
 refine loop {p:Nat × Int // P1 p.1 p.2 = some R} (fun p=>B5 42 [(1,.d (Aj 2 Af p1)),(2,.ptr 2 1 0),(7,.d (Aj 2 Af p1)),(8,.d (.int .i64 ((p1.length:Nat):Int))),(9,.d (.int .i64 p.1.2))] [(2,.var [.d (Aj 2 Ac p0.Lists),.d (Aj 7 Ad p0.Columns)],1)]) (fun p=>p.1.1) ⟨(_,_),h⟩ ?_ fun p=>?_
 ·exact Ah
 obtain ⟨⟨k1,v9_1⟩,h⟩:=p
 obtain ⟨k1,rfl,h⟩:=i1 _ _ h
 simp only [Oo] at h
 refine Ba h fun h=>?_
 refine AF (f:=Af) h fun x12 _ h=>?_
 refine A3 h (fun _=>Vs _ _ _) fun x16 h=>?_
 refine Ak h fun h=>?_
 refine AF (f:=Ad) h fun x23 _ h=>?_
 refine Ak h fun h=>?_
 conv=>whnf
 obtain ⟨hr,h⟩:=CS h
 refine ⟨by first | exact of_decide_eq_true hr | (simp only [List.length_map]; exact of_decide_eq_true hr),?_⟩
 try simp only [List.length_map]
 rw [SC]
 refine A3 h (fun _=>Cf _ _ _ _ _ (fun a0 _ h=>QN a0 _ _ h)) fun x32 h=>?_
 refine Ak h fun h=>?_
 conv=>whnf
 exact B1 ⟨(_,_),h⟩ Ah
theorem T2 (p0:Aa) (p1:Int) (p2:(List Int)) (R:Bool) (h:ML p0 p1 p2 = some R):Ao Tryz.prog 250 [.d (Ai p0),.d (.int .i64 p1),.d (Aj 1 (D.int .i64) p2)] (.d (.bool R)):=by
 refine BP Tryz.func250 ?_
 unfold ML at h
 obtain ⟨P1,i1,h⟩:=Az h
 refine loop {p:Nat × Int // P1 p.1 p.2 = some R} (fun p=>B5 41 [(1,.d (.int .i64 p1)),(2,.d (Aj 1 (D.int .i64) p2)),(3,.ptr 3 1 0),(9,.d (Aj 1 (D.int .i64) p2)),(10,.d (.int .i64 ((p2.length:Nat):Int))),(11,.d (.int .i64 p.1.2))] [(3,.var [.d (Aj 2 Ac p0.Lists),.d (Aj 7 Ad p0.Columns)],1)]) (fun p=>p.1.1) ⟨(_,_),h⟩ ?_ fun p=>?_
 ·exact Ah
 obtain ⟨⟨k1,v11_1⟩,h⟩:=p
 obtain ⟨k1,rfl,h⟩:=i1 _ _ h
 simp only [Ns] at h
 refine Ba h fun h=>?_
 refine AF (f:=(D.int .i64)) h fun x14 _ h=>?_
 refine A3 h (fun _=>C5 _ _ _) fun x18 h=>?_
 refine Ak h fun h=>?_
 obtain ⟨hr,h⟩:=CS h
 refine ⟨by first | exact of_decide_eq_true hr | (simp only [List.length_map]; exact of_decide_eq_true hr),?_⟩
 try simp only [List.length_map]
 rw [SC]
 refine A3 h (fun _=>GI _ _ _) fun x30 h=>?_
 refine Ak h fun h=>?_
 conv=>whnf
 exact B1 ⟨(_,_),h⟩ Ah
theorem Ve (p0:Aa) (p1:AA) (R:Bool) (h:IZ p0 p1 = some R):Ao Tryz.prog 188 [.d (Ai p0),.d (AX p1)] (.d (.bool R)):=by
 refine BP Tryz.func188 ?_
 unfold IZ at h
 refine A2 h fun h=>?_
 refine AH h (fun h=>?_) fun h=>?_
 ·refine A3 h (fun _=>IL _ _) fun x21 h=>?_
  exact AK h
 conv=>whnf
 refine KI h BU (fun e3 h=>?_) (fun e3 h=>?_)
 ·conv=>whnf
  refine Ld BU e3 ?_
  conv=>whnf
  obtain ⟨x29,hx29,h⟩:=A7 h
  refine AD (C5 _ _ _ hx29) ?_
  exact AK h
 conv=>whnf
 refine KI h BU (fun e4 h=>?_) (fun e4 h=>?_)
 ·conv=>whnf
  refine Ld BU e4 ?_
  conv=>whnf
  obtain ⟨x29,hx29,h⟩:=A7 h
  refine AD (C5 _ _ _ hx29) ?_
  exact AK h
 refine AH h (fun h=>?_) fun h=>?_
 ·conv=>whnf
  obtain ⟨x29,hx29,h⟩:=A7 h
  refine AD (C5 _ _ _ hx29) ?_
  exact AK h
 refine AH h (fun h=>?_) fun h=>?_
 ·refine A3 h (fun _=>Un _ _ _) fun x35 h=>?_
  refine BY h fun h=>?_
  refine A2 h fun h=>?_
  refine A3 h (fun _=>C5 _ _ _) fun x44 h=>?_
  exact AK h
 refine AH h (fun h=>?_) fun h=>?_
 ·refine A3 h (fun _=>C5 _ _ _) fun x52 h=>?_
  refine BY h fun h=>?_
  refine A3 h (fun _=>T2 _ _ _ _) fun x59 h=>?_
  exact AK h
 refine AH h (fun h=>?_) fun h=>?_
 ·refine A3 h (fun _=>C5 _ _ _) fun x66 h=>?_
  refine BY h fun h=>?_
  refine AF (f:=Ad) h fun x72 _ h=>?_
  exact AK h
 refine BY h fun h=>?_
 conv=>whnf
 refine ⟨⟨by decide +kernel,by kernel_rfl⟩,?_⟩
 refine A3 h (fun _=>C5 _ _ _) fun x82 h=>?_
 refine BY h fun h=>?_
 refine AF (f:=Ad) h fun x88 _ h=>?_
 refine A3 h (fun _=>GI _ _ _) fun x93 h=>?_
 exact AK h
theorem Sv (p0:Int) (R:Bool) (h:LU p0 = some R):Ao Tryz.prog 192 [.d (.int .i64 p0)] (.d (.bool R)):=by
 refine BP Tryz.func192 ?_
 unfold LU at h
 exact A0 h
theorem S5 (d:Nat) (self_program_right:(Aa→AA→Option Bool)) (ih_program_right:∀ (p0:Aa) (p1:AA) (R:Bool) ,self_program_right p0 p1 = some R→Ao Tryz.prog 121 [.d (Ai p0),.d (AX p1)] (.d (.bool R))) (self_program_right_c1:(AA→Aa→Option Bool)) (ih_program_right_c1:∀ (p0:AA) (q0:Aa) (R:Bool) ,self_program_right_c1 p0 q0 = some R→Ao Tryz.prog 191 [.d (AX p0),.d (.ptr [(Aj 2 Ac q0.Lists),(Aj 7 Ad q0.Columns)])] (.d (.bool R))) (p0:Aa) (p1:AA) (R:Bool) (h:DC d self_program_right self_program_right_c1 p0 p1 = some R):Ao Tryz.prog 121 [.d (Ai p0),.d (AX p1)] (.d (.bool R)):=by
 refine CO [4] Tryz.func121 (by kernel_rfl) ?_
 unfold DC at h
 refine A3 h (fun _=>RY _ _) fun x10 h=>?_
 refine Er {p:Unit // F2 x10 d p0 p1 self_program_right_c1 = some R} (fun p=>B5 61 [(2,.ptr 2 1 0),(3,.ptr 3 1 0),(5,.ptr 5 1 0)] [(2,.var [.d (Aj 2 Ac p0.Lists),.d (Aj 7 Ad p0.Columns)],1),(3,.var [.d (.int .i64 p1.Op),.d (.int .i64 p1.Num),.d (.str p1.Name),.d (.int .i64 p1.Column),.d (Aj 1 (D.int .i64) p1.Columns),.d (Aj 2 Af p1.Dims),.d (.int .i64 p1.Cond.Op),.d (.int .i64 p1.Cond.Column),.d (.int .i64 p1.Cond.Code),.d (.int .i64 p1.Cond.Low),.d (.int .i64 p1.Cond.High),.d (Aj 6 An p1.Cond.Kids),.d (.int .i64 p1.Event.Op),.d (.int .i64 p1.Event.Column),.d (.int .i64 p1.Event.Code),.d (.int .i64 p1.Event.Low),.d (.int .i64 p1.Event.High),.d (Aj 6 An p1.Event.Kids),.d (Aj 19 B6 p1.Kids)],1),(5,.var [.d (.bool x10.1.f_num),.d (.bool x10.1.f_name),.d (.bool x10.1.f_column),.d (.bool x10.1.f_columns),.d (.bool x10.1.f_dims),.d (.bool x10.1.f_cond),.d (.bool x10.1.f_event)],1)]) ?_ fun p=>?_
 ·refine A2 h fun h=>?_
  refine A3 h (fun _=>Sm _ _ _) fun x18 h=>?_
  refine A2 h fun h=>?_
  refine A3 h (fun _=>Ve _ _ _) fun x24 h=>?_
  refine A2 h fun h=>?_
  conv=>whnf
  exact ⟨⟨(),h⟩,Aq⟩
 obtain ⟨_,h⟩:=p
 simp only [F2] at h
 refine AH h (fun h=>?_) fun h=>?_
 ·refine A3 h (fun _=>EF _ _ _ _) fun x33 h=>?_
  refine A2 h fun h=>?_
  refine AH h (fun h=>?_) fun h=>?_
  ·obtain ⟨x43,hx43,h⟩:=A7 h
   refine AD (EF _ _ _ _ hx43) ?_
   refine A2 h fun h=>?_
   conv=>whnf
   obtain ⟨x49,hx49,h⟩:=A7 h
   refine AD (D7 _ _ hx49) ?_
   refine A2 h fun h=>?_
   conv=>whnf
   obtain ⟨x59,hx59,h⟩:=A7 h
   refine AD (B9 _ _ _ _ _ (fun a0 _ h=>ih_program_right_c1 a0 _ _ h) hx59) ?_
   exact AK h
  obtain ⟨x49,hx49,h⟩:=A7 h
  refine AD (D7 _ _ hx49) ?_
  refine A2 h fun h=>?_
  conv=>whnf
  obtain ⟨x59,hx59,h⟩:=A7 h
  refine AD (B9 _ _ _ _ _ (fun a0 _ h=>ih_program_right_c1 a0 _ _ h) hx59) ?_
  exact AK h
 refine AH h (fun h=>?_) fun h=>?_
 ·obtain ⟨x43,hx43,h⟩:=A7 h
  refine AD (EF _ _ _ _ hx43) ?_
  refine A2 h fun h=>?_
  conv=>whnf
  obtain ⟨x49,hx49,h⟩:=A7 h
  refine AD (D7 _ _ hx49) ?_
  refine A2 h fun h=>?_
  conv=>whnf
  obtain ⟨x59,hx59,h⟩:=A7 h
  refine AD (B9 _ _ _ _ _ (fun a0 _ h=>ih_program_right_c1 a0 _ _ h) hx59) ?_
  exact AK h
 obtain ⟨x49,hx49,h⟩:=A7 h
 refine AD (D7 _ _ hx49) ?_
 refine A2 h fun h=>?_
 conv=>whnf
 obtain ⟨x59,hx59,h⟩:=A7 h
 refine AD (B9 _ _ _ _ _ (fun a0 _ h=>ih_program_right_c1 a0 _ _ h) hx59) ?_
 exact AK h
theorem PF (d:Nat) (self_program_right:(Aa→AA→Option Bool)) (ih_program_right:∀ (p0:Aa) (p1:AA) (R:Bool) ,self_program_right p0 p1 = some R→Ao Tryz.prog 121 [.d (Ai p0),.d (AX p1)] (.d (.bool R))) (self_program_right_c1:(AA→Aa→Option Bool)) (ih_program_right_c1:∀ (p0:AA) (q0:Aa) (R:Bool) ,self_program_right_c1 p0 q0 = some R→Ao Tryz.prog 191 [.d (AX p0),.d (.ptr [(Aj 2 Ac q0.Lists),(Aj 7 Ad q0.Columns)])] (.d (.bool R))) (p0:AA) (q0:Aa) (R:Bool) (h:Ic d self_program_right self_program_right_c1 p0 q0 = some R):Ao Tryz.prog 191 [.d (AX p0),.d (.ptr [(Aj 2 Ac q0.Lists),(Aj 7 Ad q0.Columns)])] (.d (.bool R)):=by
 refine BP Tryz.func191 ?_
 unfold Ic at h
 refine A3 h (fun _=>Sv _ _) fun x6 h=>?_
 refine A2 h fun h=>?_
 obtain ⟨x11,hx11,h⟩:=A7 h
 first | refine AD (ih_program_right _ _ _ hx11) ?_ | (simp only [List.length_map]; refine AD (ih_program_right _ _ _ hx11) ?_)
 exact AK h
theorem Ep:∀ d:Nat,(∀ (p0:Aa) (p1:AA) (R:Bool) ,EY d p0 p1 = some R→Ao Tryz.prog 121 [.d (Ai p0),.d (AX p1)] (.d (.bool R)))∧(∀ (p0:AA) (q0:Aa) (R:Bool) ,Fy d p0 q0 = some R→Ao Tryz.prog 191 [.d (AX p0),.d (.ptr [(Aj 2 Ac q0.Lists),(Aj 7 Ad q0.Columns)])] (.d (.bool R)))
 | 0=>by
  refine ⟨?_,?_⟩ <;> (intros; rename_i h; cases h)
 | d + 1=>by
  have ih:=Ep d
  exact ⟨S5 d _ (ih).1 _ (ih).2,PF d _ (ih).1 _ (ih).2⟩
theorem TA (d:Nat):∀ (p0:Aa) (p1:AA) (R:Bool) ,EY d p0 p1 = some R→Ao Tryz.prog 121 [.d (Ai p0),.d (AX p1)] (.d (.bool R)):=(Ep d).1
theorem Oc (d:Nat) (p0:Aa) (p1:AA) (R:Bool) (h:DT d p0 p1 = some R):Ao Tryz.prog 62 [.d (Ai p0),.d (AX p1)] (.d (.bool R)):=by
 refine BP Tryz.func62 ?_
 unfold DT at h
 refine A3 h (fun _=>Eb _ _) fun x6 h=>?_
 refine BY h fun h=>?_
 refine A3 h (fun _=>TA _ _ _ _) fun x11 h=>?_
 exact AK h
theorem MF (p0:Ae) (q0:Ae) (R:Bool) (h:DK p0 q0 = some R):Ao Tryz.prog 124 [.d (Af p0),.d (.ptr [(.int .i64 q0.Column),(.int .i64 q0.Level)])] (.d (.bool R)):=by
 refine BP Tryz.func124 ?_
 unfold DK at h
 exact A0 h
theorem O0 (p0:Ae) (q0:(List Ae)) (R:Bool) (h:Fb p0 q0 = some R):Ao Tryz.prog 123 [.d (Af p0),.d (.ptr [(Aj 2 Af q0)])] (.d (.bool R)):=by
 refine BP Tryz.func123 ?_
 unfold Fb at h
 refine A3 h (fun _=>Cf _ _ _ _ _ (fun a0 _ h=>MF a0 _ _ h)) fun x6 h=>?_
 exact A0 h
theorem L1 (p0:(List Ae)) (p1:(List Ae)) (R:Bool) (h:DY p0 p1 = some R):Ao Tryz.prog 63 [.d (Aj 2 Af p0),.d (Aj 2 Af p1)] (.d (.bool R)):=by
 refine BP Tryz.func63 ?_
 unfold DY at h
 refine A3 h (fun _=>Cf _ _ _ _ _ (fun a0 _ h=>O0 a0 _ _ h)) fun x7 h=>?_
 exact A0 h
theorem Qx (d:Nat) (self_condition_Atoms:(Ag→Option (List Ag))) (ih_condition_Atoms:∀ (p0:Ag) (R:(List Ag)) ,self_condition_Atoms p0 = some R→Ao Tryz.prog 143 [.d (Aw p0)] (.d (Aj 6 An R))) (p0:Ag) (R:(List Ag)) (h:EK d self_condition_Atoms p0 = some R):Ao Tryz.prog 143 [.d (Aw p0)] (.d (Aj 6 An R)):=by
 refine BP Tryz.func143 ?_
 unfold EK at h
 refine AH h (fun h=>?_) fun h=>?_
 ·conv=>whnf
  obtain rfl:=Option.some.inj h
  refine ⟨.inl ?_⟩
  conv=>whnf
  exact ⟨Pl⟩
 obtain ⟨P1,i1,h⟩:=Az h
 refine loop {p:Nat × (Int × (List Ag)) // P1 p.1 p.2 = some R} (fun p=>B5 34 [(3,.sl 3 1),(22,.d (Aj 6 An p0.Kids)),(23,.d (.int .i64 ((p0.Kids.length:Nat):Int))),(24,.d (.int .i64 p.1.2.1))] [(3,.row 6 47 (List.map An p.1.2.2),1)]) (fun p=>p.1.1) ⟨(_,(_,_)),h⟩ ?_ fun p=>?_
 ·exact Mo
 obtain ⟨⟨k1,⟨v24_1,b3_1⟩⟩,h⟩:=p
 obtain ⟨k1,rfl,h⟩:=i1 _ _ h
 simp only [FE] at h
 refine AH h (fun h=>?_) fun h=>?_
 ·refine AF (f:=An) h fun x26 _ h=>?_
  rw [A8 x26]
  conv=>whnf
  obtain ⟨x30,hx30,h⟩:=A7 h
  first | refine AD (ih_condition_Atoms _ _ hx30) ?_ | (simp only [List.length_map]; refine AD (ih_condition_Atoms _ _ hx30) ?_)
  conv=>whnf
  obtain ⟨hr,h⟩:=CS h
  refine ⟨by (simp only [List.length_map]; exact AE hr (of_decide_eq_true (by kernel_rfl)) (.inr (by kernel_rfl))),?_⟩
  try rw [cY]
  conv=>whnf
  exact B1 ⟨(_,(_,_)),h⟩ Mo
 conv=>whnf
 obtain rfl:=Option.some.inj h
 refine ⟨.inl ?_⟩
 conv=>whnf
 exact ⟨Pl⟩
theorem L8:∀ d:Nat,(∀ (p0:Ag) (R:(List Ag)) ,E3 d p0 = some R→Ao Tryz.prog 143 [.d (Aw p0)] (.d (Aj 6 An R)))
 | 0=>by
  refine (by intros; rename_i h; cases h)
 | d + 1=>by
  have ih:=L8 d
  exact Qx d _ ih
theorem R5 (d:Nat):∀ (p0:Ag) (R:(List Ag)) ,E3 d p0 = some R→Ao Tryz.prog 143 [.d (Aw p0)] (.d (Aj 6 An R)):=L8 d
theorem IV (p0:Bool) (R:Int) (h:Dg p0 = some R):Ao Tryz.prog 265 [.d (.bool p0)] (.d (.int .i64 R)):=by
 refine BP Tryz.func265 ?_
 unfold Dg at h
 exact DJ h
theorem Vr (p0:Am) (p1:Int) (p2:Int) (R:Bool) (h:K3 p0 p1 p2 = some R):Ao Tryz.prog 266 [.d (Ac p0),.d (.int .i64 p1),.d (.int .i64 p2)] (.d (.bool R)):=by
 refine BP Tryz.func266 ?_
 unfold K3 at h
 refine A3 h (fun _=>O3 _ _ _) fun x9 h=>?_
 refine Ak h fun h=>?_
 refine A3 h (fun _=>O3 _ _ _) fun x14 h=>?_
 refine Ak h fun h=>?_
 conv=>whnf
 refine ⟨⟨by decide +kernel,by kernel_rfl⟩,?_⟩
 refine A3 h (fun _=>GJ _ _) fun x20 h=>?_
 refine AF (f:=(D.int .i64)) h fun x22 _ h=>?_
 refine A3 h (fun _=>LL _ _ _ _) fun x24 h=>?_
 exact A0 h
theorem Nb (p0:Aa) (p1:Ag) (p2:Int) (R:Int) (h:By p0 p1 p2 = some R):Ao Tryz.prog 207 [.d (Ai p0),.d (Aw p1),.d (.int .i64 p2)] (.d (.int .i64 R)):=by
 refine BP Tryz.func207 ?_
 unfold By at h
 refine AH h (fun h=>?_) fun h=>?_
 ·conv=>whnf
  refine ⟨⟨by decide +kernel,by kernel_rfl⟩,?_⟩
  refine AF (f:=Ad) h fun x17 _ h=>?_
  refine AF (f:=Ac) h fun x20 _ h=>?_
  refine A3 h (fun _=>Vr _ _ _ _) fun x25 h=>?_
  refine A3 h (fun _=>IV _ _) fun x26 h=>?_
  exact AK h
 refine AH h (fun h=>?_) fun h=>?_
 ·refine A3 h (fun _=>IV _ _) fun x33 h=>?_
  exact AK h
 refine A2 h fun h=>?_
 refine A3 h (fun _=>IV _ _) fun x47 h=>?_
 exact AK h
theorem QS (p0:Av) (p1:Int) (R:Int) (h:Gt p0 p1 = some R):Ao Tryz.prog 208 [.d (Ad p0),.d (.int .i64 p1)] (.d (.int .i64 R)):=by
 refine BP Tryz.func208 ?_
 unfold Gt at h
 refine AF (f:=(D.int .i64)) h fun x12 _ h=>?_
 exact A0 h
end Go.Proofs.YtejfnieiaecpkaaGreatDoor.P
