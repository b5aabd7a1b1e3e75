/- P3W6 -/
import Derived.Test.YtjghjdokjgcehaaGreatDoorP3W4
import Derived.Test.YtjghjdokjgcehaaGreatDoorP3DW
import Derived.Test.YtjghjdokjgcehaaGreatDoorFB
set_option linter.unusedSimpArgs false
namespace Go.Proofs.YtjghjdokjgcehaaGreatDoor.P
open Go.Abs Go.Proofs
set_option maxRecDepth 100000
set_option maxHeartbeats 4000000
set_option linter.unusedVariables false
theorem z14q {A B:Prop} (b:B) (a:A:=by exact ⟨rfl,rfl,by first | rfl | (simp only [List.length_map]; done) | (simp only [List.length_map]; rfl) | (simp only [Ad,Aa,Ac,Ab,Ah,List.map_cons,List.map_nil,List.length_map]; done) | (simp only [Ad,Aa,Ac,Ab,Ah,List.map_cons,List.map_nil,List.length_map]; rfl)⟩):A∧B:=⟨a,b⟩
theorem z21q {p:Prop} (h:p:=by obtain rfl:=Option.some.inj h; refine z14q ?_; (conv=>whnf); exact z15):p:=h
theorem z38q {p:Prop} (h:p:=by (conv=>whnf); exact z21q):p:=h
theorem z39q {p:Prop} (h:p:=by (conv=>whnf); obtain ⟨x63,hx63,h⟩:=A9 h; refine A1 (H1 _ _ _ hx63) ?_; exact z38q):p:=h
theorem z52q {p:Prop} (h:p:=by (conv=>whnf); obtain ⟨x53,hx53,h⟩:=A9 h; (first | refine BN (EN _ _ _ _ hx53) ?_ | (simp only [List.length_map]; refine BN (EN _ _ _ _ hx53) ?_)); exact z38q):p:=h
theorem PY (p0:Aw) (q0:Int) (R:Bool) (h:Jj p0 q0 = some R):Al Tryz.prog 185 [.d (Ak p0),.d (.ptr [(.int .i64 q0)])] (.d (.bool R)):=by
 refine Cn Tryz.func185 ?_
 unfold Jj at h
 exact AD h
theorem Rq (p0:Ay) (p1:Int) (p2:Int) (p3:Int) (R:(Int × Bool)) (h:Kc p0 p1 p2 p3 = some R):Al Tryz.prog 239 [.d (Af p0),.d (.int .i64 p1),.d (.int .i64 p2),.d (.int .i64 p3)] (.tup [.d (.int .i64 R.1),.d (.bool R.2)]):=by
 refine Cn Tryz.func239 ?_
 unfold Kc at h
 conv=>whnf
 refine z13 ?_
 refine AU h (fun _=>Iw _ _) fun x17 h=>?_
 refine AU h (fun _=>MR _ _ _) fun x19 h=>?_
 refine z5 h (fun p=>Cd 45 [(1,.d (.int .i64 p1)),(2,.d (.int .i64 p2)),(3,.d (.int .i64 p3)),(4,.ptr 4 1 0),(10,.d (.int .i64 p.1)),(11,.d (.bool p.2.1)),(19,.d (Ah 1 (D.int .i64) x19)),(20,.d (.int .i64 ((x19.length:Nat):Int))),(21,.d (.int .i64 p.2.2))] [(4,.var [.d (.str p0.Name),.d (Ah 2 By p0.Codes)],1)]) As fun _ _ ⟨v10_1,v11_1,v21_1⟩ h=>?_
 simp only [Lp] at h
 refine B0 h fun h=>?_
 refine B6 (f:=(D.int .i64)) h fun x23 _ h=>?_
 refine AU h (fun _=>KB _ _ _ _) fun x28 h=>?_
 refine AM h (fun h=>?_) fun h=>?_
 ·exact z30
 refine AU h (fun _=>KB _ _ _ _) fun x34 h=>?_
 refine An h fun h=>?_
 exact z30
theorem O8 (p0:A4) (p1:Int) (p2:Int) (p3:Int) (R:(Int × Bool)) (h:HS p0 p1 p2 p3 = some R):Al Tryz.prog 240 [.d (Ai p0),.d (.int .i64 p1),.d (.int .i64 p2),.d (.int .i64 p3)] (.tup [.d (.int .i64 R.1),.d (.bool R.2)]):=by
 refine Cn Tryz.func240 ?_
 unfold HS at h
 refine AM h (fun h=>?_) fun h=>?_
 ·refine AM h (fun h=>?_) fun h=>?_
  ·conv=>whnf
   refine z13 ?_
   exact AD h
  conv=>whnf
  refine z13 ?_
  exact AD h
 refine AU h (fun _=>PF _ _ _ _) fun x31 h=>?_
 refine An h fun h=>?_
 refine An h fun h=>?_
 refine An h fun h=>?_
 refine AU h (fun _=>Lq _ _ _) fun x50 h=>?_
 refine AU h (fun _=>Gn _ _ _) fun x53 h=>?_
 refine AU h (fun _=>Gn _ _ _) fun x56 h=>?_
 refine AU h (fun _=>Gn _ _ _) fun x59 h=>?_
 exact AD h
theorem N8 (p0:Ae) (p1:Int) (p2:Int) (p3:Int) (p4:Int) (R:(Int × Bool)) (h:JE p0 p1 p2 p3 p4 = some R):Al Tryz.prog 186 [.d (Au p0),.d (.int .i64 p1),.d (.int .i64 p2),.d (.int .i64 p3),.d (.int .i64 p4)] (.tup [.d (.int .i64 R.1),.d (.bool R.2)]):=by
 refine Cn Tryz.func186 ?_
 unfold JE at h
 refine AU h (fun _=>Kb _ _ _) fun x18 h=>?_
 refine An h fun h=>?_
 refine B6 (f:=Ai) h fun x38 _ h=>?_
 refine AM h (fun h=>?_) fun h=>?_
 ·refine B6 (f:=Af) h fun x48 _ h=>?_
  refine AU h (fun _=>Rq _ _ _ _ _) fun x53 h=>?_
  exact Eb h
 refine AU h (fun _=>O8 _ _ _ _ _) fun x61 h=>?_
 exact Eb h
theorem Nx (p0:Ae) (p1:Bn) (p2:Int) (p3:Int) (p4:Int) (R:(Int × Bool)) (h:Hf p0 p1 p2 p3 p4 = some R):Al Tryz.prog 125 [.d (Au p0),.d (G8 p1),.d (.int .i64 p2),.d (.int .i64 p3),.d (.int .i64 p4)] (.tup [.d (.int .i64 R.1),.d (.bool R.2)]):=by
 refine Cn Tryz.func125 ?_
 unfold Hf at h
 refine AU h (fun _=>DL _ _ _ _ _ (fun a0 _ h=>PY a0 _ _ h)) fun x16 h=>?_
 refine AM h (fun h=>?_) fun h=>?_
 ·refine AU h (fun _=>N8 _ _ _ _ _ _) fun x22 h=>?_
  exact AD h
 conv=>whnf
 refine z13 ?_
 refine B6 (f:=Ak) h fun x30 _ h=>?_
 refine B6 (f:=(Ah 1 (D.int .i64))) h fun x36 _ h=>?_
 refine B6 (f:=(D.int .i64)) h fun x40 _ h=>?_
 refine AU h (fun _=>N8 _ _ _ _ _ _) fun x43 h=>?_
 exact AD h
theorem MF (p0:Int) (q0:Ae) (q1:Bn) (q2:Int) (R:Bool) (h:Gt p0 q0 q1 q2 = some R):Al Tryz.prog 180 [.d (.int .i64 p0),.d (.ptr [(Ah 2 Af q0.Lists),(Ah 7 Ai q0.Columns)]),.d (.ptr [(.str q1.Project),(.int .i64 q1.Version),(Ah 2 Ak q1.Picks),(Ah 1 (Ah 1 (D.int .i64)) q1.Rows)]),.d (.ptr [(.int .i64 q2)])] (.d (.bool R)):=by
 refine Cn Tryz.func180 ?_
 unfold Gt at h
 conv=>whnf
 refine z13 ?_
 refine AU h (fun _=>H9 _ _ _) fun x15 h=>?_
 refine AU h (fun _=>Nx _ _ _ _ _ _) fun x16 h=>?_
 exact AD h
theorem OE (p0:Int) (q0:(List Int)) (q1:Ae) (q2:Bn) (R:Bool) (h:HU p0 q0 q1 q2 = some R):Al Tryz.prog 178 [.d (.int .i64 p0),.d (.ptr [(Ah 1 (D.int .i64) q0)]),.d (.ptr [(Ah 2 Af q1.Lists),(Ah 7 Ai q1.Columns)]),.d (.ptr [(.str q2.Project),(.int .i64 q2.Version),(Ah 2 Ak q2.Picks),(Ah 1 (Ah 1 (D.int .i64)) q2.Rows)])] (.d (.bool R)):=by
 refine Cn Tryz.func178 ?_
 unfold HU at h
 refine AU h (fun _=>Jw _ _ _ _ _ (fun a0 _ h=>MF a0 _ _ _ _ h)) fun x8 h=>?_
 exact AD h
theorem Rr (d:Nat) (p0:Ae) (p1:Bn) (p2:Aj) (p3:(List Int)) (R:(List Int)) (h:Kg d p0 p1 p2 p3 = some R):Al Tryz.prog 119 [.d (Au p0),.d (G8 p1),.d (Ad p2),.d (Ah 1 (D.int .i64) p3)] (.d (Ah 1 (D.int .i64) R)):=by
 refine Cn Tryz.func119 ?_
 unfold Kg at h
 refine AU h (fun _=>Nw _ _ _) fun x11 h=>?_
 refine AM h (fun h=>?_) fun h=>?_
 ·conv=>whnf
  exact z25
 refine AU h (fun _=>Lr _ _ _ _ _) fun x16 h=>?_
 refine Pe h (fun _=>Kf _ _ _ _ _ (fun a0 _ h=>OE a0 _ _ _ _ h)) fun x18 h=>?_
 conv=>whnf
 exact z25
theorem Rs (p0:Ae) (p1:Bn) (p2:(List Int)) (p3:Int) (R:(List Int)) (h:Ki p0 p1 p2 p3 = some R):Al Tryz.prog 120 [.d (Au p0),.d (G8 p1),.d (Ah 1 (D.int .i64) p2),.d (.int .i64 p3)] (.d (Ah 1 (D.int .i64) R)):=by
 refine Cn Tryz.func120 ?_
 unfold Ki at h
 refine z5 h (fun p=>Cd 37 [(3,.d (.int .i64 p3)),(4,.ptr 4 1 0),(5,.ptr 5 1 0),(9,.sl 9 1),(14,.d (Ah 1 (D.int .i64) p2)),(15,.d (.int .i64 ((p2.length:Nat):Int))),(16,.d (.int .i64 p.1))] [(4,.var [.d (Ah 2 Af p0.Lists),.d (Ah 7 Ai p0.Columns)],1),(5,.var [.d (.str p1.Project),.d (.int .i64 p1.Version),.d (Ah 2 Ak p1.Picks),.d (Ah 1 (Ah 1 (D.int .i64)) p1.Rows)],1),(9,.row 1 3 (List.map (D.int .i64) p.2),1)]) As fun _ _ ⟨v16_1,b9_1⟩ h=>?_
 simp only [Ls] at h
 refine AM h (fun h=>?_) fun h=>?_
 ·refine B6 (f:=(D.int .i64)) h fun x18 _ h=>?_
  conv=>whnf
  refine z13 ?_
  refine AU h (fun _=>H9 _ _ _) fun x27 h=>?_
  refine AU h (fun _=>Nx _ _ _ _ _ _) fun x28 h=>?_
  conv=>whnf
  exact z48
 exact z37
theorem EN (d:Nat) (p0:AK) (p1:Av) (R:(Bd × Int))  (h:FL d p0 p1 = some R):CY Tryz.prog 66 [.cc none [.d (Ah 2 Af p0.f_plan.f_s.Lists),.d (Ah 7 Ai p0.f_plan.f_s.Columns),.d (.str p0.f_plan.f_x.Project),.d (.int .i64 p0.f_plan.f_x.Version),.d (Ah 2 Ak p0.f_plan.f_x.Picks),.d (Ah 1 (Ah 1 (D.int .i64)) p0.f_plan.f_x.Rows),.own 26 79 (List.map A7 p0.f_before)],.d (Ac p1)] [.cc none [.d (Ah 2 Af p0.f_plan.f_s.Lists),.d (Ah 7 Ai p0.f_plan.f_s.Columns),.d (.str p0.f_plan.f_x.Project),.d (.int .i64 p0.f_plan.f_x.Version),.d (Ah 2 Ak p0.f_plan.f_x.Picks),.d (Ah 1 (Ah 1 (D.int .i64)) p0.f_plan.f_x.Rows),.own 26 79 (List.map A7 p0.f_before)],.any] (.tup [.d (Ej R.1),.d (.int .i64 R.2)]):=by
 refine RF [8] Tryz.func66 (by kernel_rfl) rfl ?_ ?_
 ·intro i x y hx hy
  match i,hx,hy with
  | 0,hx,hy=>cases Option.some.inj hx; cases Option.some.inj hy; exact ⟨[_,_,_,_,_,_],_,_,_,_,rfl,rfl⟩
  | 1,hx,hy=>simp at hx hy; subst hx; subst hy; trivial
  | i + 2,hx,hy=>simp at hx
 unfold FL at h
 conv=>whnf
 obtain ⟨x24,hx24,h⟩:=A9 h
 refine A1 (Rr _ _ _ _ _ _ hx24) ?_
 conv=>whnf
 refine Ga {p:Int // Gr p1 x24 p0 p = some R} (fun p=>Cd 66 [(2,.ptr 2 1 0),(3,.ptr 3 1 0),(4,.ptr 4 1 0),(6,.d (Ah 1 (D.int .i64) x24)),(7,.d (.int .i64 p.1)),(8,.d (.int .i64 1))] [(0,.row 26 79 (List.map A7 p0.f_before),0),(2,.var [.d (Ah 2 Af p0.f_plan.f_s.Lists),.d (Ah 7 Ai p0.f_plan.f_s.Columns),.d (.str p0.f_plan.f_x.Project),.d (.int .i64 p0.f_plan.f_x.Version),.d (Ah 2 Ak p0.f_plan.f_x.Picks),.d (Ah 1 (Ah 1 (D.int .i64)) p0.f_plan.f_x.Rows),.sl 0 0],1),(3,.var [.d (.int .i64 p1.Op),.d (.int .i64 p1.Num),.d (.str p1.Name),.d (.int .i64 p1.Column),.d (Ah 1 (D.int .i64) p1.Columns),.d (Ah 2 Ak p1.Dims),.d (.int .i64 p1.Cond.Op),.d (.int .i64 p1.Cond.Column),.d (.int .i64 p1.Cond.Code),.d (.int .i64 p1.Cond.Low),.d (.int .i64 p1.Cond.High),.d (Ah 6 Ap p1.Cond.Kids),.d (.int .i64 p1.Event.Op),.d (.int .i64 p1.Event.Column),.d (.int .i64 p1.Event.Code),.d (.int .i64 p1.Event.Low),.d (.int .i64 p1.Event.High),.d (Ah 6 Ap p1.Event.Kids),.d (Ah 19 AP p1.Kids)],1),(4,.var [.d (.int .i64 0),.d (.int .i64 0),.d (.int .i64 0),.d (.nil 2),.d (.int .i64 0),.d (.nil 7),.d (.int .i64 0),.d (.nil 1),.d (.nil 2),.d (.int .i64 0),.d (.int .i64 0),.d (.int .i64 0),.d (.int .i64 0),.d (.int .i64 0),.d (.int .i64 0),.d (.nil 6),.d (.nil 2),.d (.int .i64 0),.d (.int .i64 0),.d (.int .i64 0),.d (.int .i64 0),.d (.int .i64 0),.d (.int .i64 0),.d (.nil 1)],1)]) ?_ fun p=>?_
 ·conv=>whnf
  obtain ⟨x34,hx34,h⟩:=A9 h
  refine A1 (Rs _ _ _ _ _ hx34) ?_
  conv=>whnf
  obtain ⟨P1,i1,h⟩:=AI h
  refine loop {p:Nat × (Int × Int) // P1 p.1 p.2 = some R} (fun p=>Cd 66 [(2,.ptr 2 1 0),(3,.ptr 3 1 0),(4,.ptr 4 1 0),(6,.d (Ah 1 (D.int .i64) x24)),(7,.d (.int .i64 p.1.2.1)),(8,.d (.int .i64 1)),(34,.d (Ah 1 (D.int .i64) x34)),(35,.d (.int .i64 ((x34.length:Nat):Int))),(36,.d (.int .i64 p.1.2.2))] [(0,.row 26 79 (List.map A7 p0.f_before),0),(2,.var [.d (Ah 2 Af p0.f_plan.f_s.Lists),.d (Ah 7 Ai p0.f_plan.f_s.Columns),.d (.str p0.f_plan.f_x.Project),.d (.int .i64 p0.f_plan.f_x.Version),.d (Ah 2 Ak p0.f_plan.f_x.Picks),.d (Ah 1 (Ah 1 (D.int .i64)) p0.f_plan.f_x.Rows),.sl 0 0],1),(3,.var [.d (.int .i64 p1.Op),.d (.int .i64 p1.Num),.d (.str p1.Name),.d (.int .i64 p1.Column),.d (Ah 1 (D.int .i64) p1.Columns),.d (Ah 2 Ak p1.Dims),.d (.int .i64 p1.Cond.Op),.d (.int .i64 p1.Cond.Column),.d (.int .i64 p1.Cond.Code),.d (.int .i64 p1.Cond.Low),.d (.int .i64 p1.Cond.High),.d (Ah 6 Ap p1.Cond.Kids),.d (.int .i64 p1.Event.Op),.d (.int .i64 p1.Event.Column),.d (.int .i64 p1.Event.Code),.d (.int .i64 p1.Event.Low),.d (.int .i64 p1.Event.High),.d (Ah 6 Ap p1.Event.Kids),.d (Ah 19 AP p1.Kids)],1),(4,.var [.d (.int .i64 0),.d (.int .i64 0),.d (.int .i64 0),.d (.nil 2),.d (.int .i64 0),.d (.nil 7),.d (.int .i64 0),.d (.nil 1),.d (.nil 2),.d (.int .i64 0),.d (.int .i64 0),.d (.int .i64 0),.d (.int .i64 0),.d (.int .i64 0),.d (.int .i64 0),.d (.nil 6),.d (.nil 2),.d (.int .i64 0),.d (.int .i64 0),.d (.int .i64 0),.d (.int .i64 0),.d (.int .i64 0),.d (.int .i64 0),.d (.nil 1)],1)]) (fun p=>p.1.1) ⟨(_,(_,_)),h⟩ ?_ fun p=>?_
  ·refine TW ?_
   conv=>whnf
   exact eU
  obtain ⟨⟨k1,⟨v7_1,v36_1⟩⟩,h⟩:=p
  obtain ⟨k1,rfl,h⟩:=i1 _ _ h
  simp only [Jc] at h
  conv=>whnf
  refine Rw h Cc (fun h=>?_) (fun h=>?_)
  ·conv=>whnf
   refine eT (f:=(D.int .i64)) h Cc fun x38 hx38 h=>?_
   conv=>whnf
   refine ⟨⟨(_,(_,_)),h⟩,?_,Nat.lt_succ_self _⟩
   refine TW ?_
   conv=>whnf
   exact eU
  conv=>whnf
  refine ⟨⟨_,h⟩,?_⟩
  refine TW ?_
  conv=>whnf
  exact eU
 obtain ⟨j7_1,h⟩:=p
 simp only [Gr] at h
 conv=>whnf
 refine Rw h Cc (fun h=>?_) (fun h=>?_)
 ·conv=>whnf
  obtain ⟨x52,hx52,h⟩:=A9 h
  first | refine A1 (J3 _ _ _ hx52) ?_ | (simp only [List.length_map]; refine A1 (J3 _ _ _ hx52) ?_)
  conv=>whnf
  refine Rw h Cc (fun h=>?_) (fun h=>?_)
  ·exact z38q
  conv=>whnf
  refine z13 ?_
  conv=>whnf
  obtain ⟨x64,hx64,h⟩:=A9 h
  refine A1 (Kh _ _ _ hx64) ?_
  exact z38q
 conv=>whnf
 obtain ⟨x52,hx52,h⟩:=A9 h
 first | refine A1 (J3 _ _ _ hx52) ?_ | (simp only [List.length_map]; refine A1 (J3 _ _ _ hx52) ?_)
 conv=>whnf
 refine Rw h Cc (fun h=>?_) (fun h=>?_)
 ·exact z38q
 conv=>whnf
 refine z13 ?_
 conv=>whnf
 obtain ⟨x64,hx64,h⟩:=A9 h
 refine A1 (Kh _ _ _ hx64) ?_
 exact z38q
theorem M0 (d:Nat) (self_interpret_room_value:(AK→Av→Option (Bd × Int))) (ih_interpret_room_value:∀ (p0:AK) (p1:Av) (R:(Bd × Int)) ,self_interpret_room_value p0 p1 = some R→CY Tryz.prog 34 [.cc none [.d (Ah 2 Af p0.f_plan.f_s.Lists),.d (Ah 7 Ai p0.f_plan.f_s.Columns),.d (.str p0.f_plan.f_x.Project),.d (.int .i64 p0.f_plan.f_x.Version),.d (Ah 2 Ak p0.f_plan.f_x.Picks),.d (Ah 1 (Ah 1 (D.int .i64)) p0.f_plan.f_x.Rows),.own 26 79 (List.map A7 p0.f_before)],.d (Ac p1)] [.cc none [.d (Ah 2 Af p0.f_plan.f_s.Lists),.d (Ah 7 Ai p0.f_plan.f_s.Columns),.d (.str p0.f_plan.f_x.Project),.d (.int .i64 p0.f_plan.f_x.Version),.d (Ah 2 Ak p0.f_plan.f_x.Picks),.d (Ah 1 (Ah 1 (D.int .i64)) p0.f_plan.f_x.Rows),.own 26 79 (List.map A7 p0.f_before)],.any] (.tup [.d (Ej R.1),.d (.int .i64 R.2)])) (self_interpret_room_pair:(AK→Av→Option (Bd × Int))) (ih_interpret_room_pair:∀ (p0:AK) (p1:Av) (R:(Bd × Int)) ,self_interpret_room_pair p0 p1 = some R→CY Tryz.prog 72 [.cc none [.d (Ah 2 Af p0.f_plan.f_s.Lists),.d (Ah 7 Ai p0.f_plan.f_s.Columns),.d (.str p0.f_plan.f_x.Project),.d (.int .i64 p0.f_plan.f_x.Version),.d (Ah 2 Ak p0.f_plan.f_x.Picks),.d (Ah 1 (Ah 1 (D.int .i64)) p0.f_plan.f_x.Rows),.own 26 79 (List.map A7 p0.f_before)],.d (Ac p1)] [.cc none [.d (Ah 2 Af p0.f_plan.f_s.Lists),.d (Ah 7 Ai p0.f_plan.f_s.Columns),.d (.str p0.f_plan.f_x.Project),.d (.int .i64 p0.f_plan.f_x.Version),.d (Ah 2 Ak p0.f_plan.f_x.Picks),.d (Ah 1 (Ah 1 (D.int .i64)) p0.f_plan.f_x.Rows),.own 26 79 (List.map A7 p0.f_before)],.any] (.tup [.d (Ej R.1),.d (.int .i64 R.2)])) (p0:AK) (p1:Av) (R:(Bd × Int))  (h:FM d self_interpret_room_value self_interpret_room_pair p0 p1 = some R):CY Tryz.prog 34 [.cc none [.d (Ah 2 Af p0.f_plan.f_s.Lists),.d (Ah 7 Ai p0.f_plan.f_s.Columns),.d (.str p0.f_plan.f_x.Project),.d (.int .i64 p0.f_plan.f_x.Version),.d (Ah 2 Ak p0.f_plan.f_x.Picks),.d (Ah 1 (Ah 1 (D.int .i64)) p0.f_plan.f_x.Rows),.own 26 79 (List.map A7 p0.f_before)],.d (Ac p1)] [.cc none [.d (Ah 2 Af p0.f_plan.f_s.Lists),.d (Ah 7 Ai p0.f_plan.f_s.Columns),.d (.str p0.f_plan.f_x.Project),.d (.int .i64 p0.f_plan.f_x.Version),.d (Ah 2 Ak p0.f_plan.f_x.Picks),.d (Ah 1 (Ah 1 (D.int .i64)) p0.f_plan.f_x.Rows),.own 26 79 (List.map A7 p0.f_before)],.any] (.tup [.d (Ej R.1),.d (.int .i64 R.2)]):=by
 refine RF [32] Tryz.func34 (by kernel_rfl) rfl ?_ ?_
 ·intro i x y hx hy
  match i,hx,hy with
  | 0,hx,hy=>cases Option.some.inj hx; cases Option.some.inj hy; exact ⟨[_,_,_,_,_,_],_,_,_,_,rfl,rfl⟩
  | 1,hx,hy=>simp at hx hy; subst hx; subst hy; trivial
  | i + 2,hx,hy=>simp at hx
 unfold FM at h
 conv=>whnf
 refine Ga Empty (fun p=>p.elim) ?_ (fun p=>p.elim)
 conv=>whnf
 refine Rw h Cc (fun h=>?_) (fun h=>?_)
 ·exact z38q
 conv=>whnf
 refine Rw h Cc (fun h=>?_) (fun h=>?_)
 ·conv=>whnf
  refine ⟨.inr ?_⟩
  conv=>whnf
  obtain ⟨x27,hx27,h⟩:=A9 h
  first | refine BN (IA _ _ _ hx27) ?_ | (simp only [List.length_map]; refine BN (IA _ _ _ hx27) ?_)
  exact z38q
 conv=>whnf
 refine Rw h Cc (fun h=>?_) (fun h=>?_)
 ·conv=>whnf
  obtain ⟨x38,hx38,h⟩:=A9 h
  refine A1 (Lr _ _ _ _ _ hx38) ?_
  conv=>whnf
  obtain ⟨x46,hx46,h⟩:=A9 h
  refine A1 (Kh _ _ _ hx46) ?_
  exact z38q
 conv=>whnf
 refine K1 h Cc (fun e14 h=>?_) (fun e14 h=>?_)
 ·conv=>whnf
  refine Lt Cc e14 ?_
  conv=>whnf
  refine ⟨.inr ?_⟩
  exact z52q
 conv=>whnf
 refine Rw h Cc (fun h=>?_) (fun h=>?_)
 ·conv=>whnf
  refine ⟨.inr ?_⟩
  exact z52q
 conv=>whnf
 refine Rw h Cc (fun h=>?_) (fun h=>?_)
 ·conv=>whnf
  cases h
 conv=>whnf
 refine Rw h Cc (fun h=>?_) (fun h=>?_)
 ·conv=>whnf
  cases h
 conv=>whnf
 refine Rw h Cc (fun h=>?_) (fun h=>?_)
 ·conv=>whnf
  cases h
 conv=>whnf
 refine Rw h Cc (fun h=>?_) (fun h=>?_)
 ·conv=>whnf
  cases h
 conv=>whnf
 refine Rw h Cc (fun h=>?_) (fun h=>?_)
 ·conv=>whnf
  cases h
 conv=>whnf
 refine ⟨.inr ?_⟩
 conv=>whnf
 obtain ⟨x13,hx13,h⟩:=A9 h
 first | refine BN (ih_interpret_room_pair _ _ _ hx13) ?_ | (simp only [List.length_map]; refine BN (ih_interpret_room_pair _ _ _ hx13) ?_)
 exact z38q
theorem Nb (d:Nat) (self_interpret_room_value:(AK→Av→Option (Bd × Int))) (ih_interpret_room_value:∀ (p0:AK) (p1:Av) (R:(Bd × Int)) ,self_interpret_room_value p0 p1 = some R→CY Tryz.prog 34 [.cc none [.d (Ah 2 Af p0.f_plan.f_s.Lists),.d (Ah 7 Ai p0.f_plan.f_s.Columns),.d (.str p0.f_plan.f_x.Project),.d (.int .i64 p0.f_plan.f_x.Version),.d (Ah 2 Ak p0.f_plan.f_x.Picks),.d (Ah 1 (Ah 1 (D.int .i64)) p0.f_plan.f_x.Rows),.own 26 79 (List.map A7 p0.f_before)],.d (Ac p1)] [.cc none [.d (Ah 2 Af p0.f_plan.f_s.Lists),.d (Ah 7 Ai p0.f_plan.f_s.Columns),.d (.str p0.f_plan.f_x.Project),.d (.int .i64 p0.f_plan.f_x.Version),.d (Ah 2 Ak p0.f_plan.f_x.Picks),.d (Ah 1 (Ah 1 (D.int .i64)) p0.f_plan.f_x.Rows),.own 26 79 (List.map A7 p0.f_before)],.any] (.tup [.d (Ej R.1),.d (.int .i64 R.2)])) (self_interpret_room_pair:(AK→Av→Option (Bd × Int))) (ih_interpret_room_pair:∀ (p0:AK) (p1:Av) (R:(Bd × Int)) ,self_interpret_room_pair p0 p1 = some R→CY Tryz.prog 72 [.cc none [.d (Ah 2 Af p0.f_plan.f_s.Lists),.d (Ah 7 Ai p0.f_plan.f_s.Columns),.d (.str p0.f_plan.f_x.Project),.d (.int .i64 p0.f_plan.f_x.Version),.d (Ah 2 Ak p0.f_plan.f_x.Picks),.d (Ah 1 (Ah 1 (D.int .i64)) p0.f_plan.f_x.Rows),.own 26 79 (List.map A7 p0.f_before)],.d (Ac p1)] [.cc none [.d (Ah 2 Af p0.f_plan.f_s.Lists),.d (Ah 7 Ai p0.f_plan.f_s.Columns),.d (.str p0.f_plan.f_x.Project),.d (.int .i64 p0.f_plan.f_x.Version),.d (Ah 2 Ak p0.f_plan.f_x.Picks),.d (Ah 1 (Ah 1 (D.int .i64)) p0.f_plan.f_x.Rows),.own 26 79 (List.map A7 p0.f_before)],.any] (.tup [.d (Ej R.1),.d (.int .i64 R.2)])) (p0:AK) (p1:Av) (R:(Bd × Int))  (h:Gq d self_interpret_room_value self_interpret_room_pair p0 p1 = some R):CY Tryz.prog 72 [.cc none [.d (Ah 2 Af p0.f_plan.f_s.Lists),.d (Ah 7 Ai p0.f_plan.f_s.Columns),.d (.str p0.f_plan.f_x.Project),.d (.int .i64 p0.f_plan.f_x.Version),.d (Ah 2 Ak p0.f_plan.f_x.Picks),.d (Ah 1 (Ah 1 (D.int .i64)) p0.f_plan.f_x.Rows),.own 26 79 (List.map A7 p0.f_before)],.d (Ac p1)] [.cc none [.d (Ah 2 Af p0.f_plan.f_s.Lists),.d (Ah 7 Ai p0.f_plan.f_s.Columns),.d (.str p0.f_plan.f_x.Project),.d (.int .i64 p0.f_plan.f_x.Version),.d (Ah 2 Ak p0.f_plan.f_x.Picks),.d (Ah 1 (Ah 1 (D.int .i64)) p0.f_plan.f_x.Rows),.own 26 79 (List.map A7 p0.f_before)],.any] (.tup [.d (Ej R.1),.d (.int .i64 R.2)]):=by
 refine Oe Tryz.func72 (by kernel_rfl) rfl ?_ ?_
 ·intro i x y hx hy
  match i,hx,hy with
  | 0,hx,hy=>cases Option.some.inj hx; cases Option.some.inj hy; exact ⟨[_,_,_,_,_,_],_,_,_,_,rfl,rfl⟩
  | 1,hx,hy=>simp at hx hy; subst hx; subst hy; trivial
  | i + 2,hx,hy=>simp at hx
 unfold Gq at h
 conv=>whnf
 refine z13 ?_
 conv=>whnf
 refine ⟨.inr ?_⟩
 conv=>whnf
 refine eT (f:=AP) h Cc fun x15 hx15 h=>?_
 rw [Ab x15]
 conv=>whnf
 obtain ⟨x17,hx17,h⟩:=A9 h
 first | refine BN (ih_interpret_room_value _ _ _ hx17) ?_ | (simp only [List.length_map]; refine BN (ih_interpret_room_value _ _ _ hx17) ?_)
 conv=>whnf
 refine Rw h Cc (fun h=>?_) (fun h=>?_)
 ·exact z38q
 conv=>whnf
 refine z13 ?_
 conv=>whnf
 refine ⟨.inr ?_⟩
 conv=>whnf
 refine eT (f:=AP) h Cc fun x28 hx28 h=>?_
 rw [Ab x28]
 conv=>whnf
 obtain ⟨x30,hx30,h⟩:=A9 h
 first | refine BN (ih_interpret_room_value _ _ _ hx30) ?_ | (simp only [List.length_map]; refine BN (ih_interpret_room_value _ _ _ hx30) ?_)
 conv=>whnf
 refine Rw h Cc (fun h=>?_) (fun h=>?_)
 ·exact z38q
 conv=>whnf
 refine Rw h Cc (fun h=>?_) (fun h=>?_)
 ·conv=>whnf
  obtain ⟨x51,hx51,h⟩:=A9 h
  refine A1 (TL _ _ _ hx51) ?_
  conv=>whnf
  refine Rw h Cc (fun h=>?_) (fun h=>?_)
  ·exact z38q
  conv=>whnf
  refine z13 ?_
  exact z39q
 conv=>whnf
 refine Rw h Cc (fun h=>?_) (fun h=>?_)
 ·conv=>whnf
  obtain ⟨x51,hx51,h⟩:=A9 h
  refine A1 (TK _ _ _ hx51) ?_
  conv=>whnf
  refine Rw h Cc (fun h=>?_) (fun h=>?_)
  ·exact z38q
  conv=>whnf
  refine z13 ?_
  exact z39q
 conv=>whnf
 refine Rw h Cc (fun h=>?_) (fun h=>?_)
 ·conv=>whnf
  obtain ⟨x51,hx51,h⟩:=A9 h
  refine A1 (TJ _ _ _ hx51) ?_
  conv=>whnf
  refine Rw h Cc (fun h=>?_) (fun h=>?_)
  ·exact z38q
  conv=>whnf
  refine z13 ?_
  exact z39q
 conv=>whnf
 obtain ⟨x51,hx51,h⟩:=A9 h
 refine A1 (TI _ _ _ hx51) ?_
 conv=>whnf
 refine Rw h Cc (fun h=>?_) (fun h=>?_)
 ·exact z38q
 conv=>whnf
 refine z13 ?_
 exact z39q
theorem CM:∀ d:Nat,(∀ (p0:AK) (p1:Av) (R:(Bd × Int)) ,D3 d p0 p1 = some R→CY Tryz.prog 34 [.cc none [.d (Ah 2 Af p0.f_plan.f_s.Lists),.d (Ah 7 Ai p0.f_plan.f_s.Columns),.d (.str p0.f_plan.f_x.Project),.d (.int .i64 p0.f_plan.f_x.Version),.d (Ah 2 Ak p0.f_plan.f_x.Picks),.d (Ah 1 (Ah 1 (D.int .i64)) p0.f_plan.f_x.Rows),.own 26 79 (List.map A7 p0.f_before)],.d (Ac p1)] [.cc none [.d (Ah 2 Af p0.f_plan.f_s.Lists),.d (Ah 7 Ai p0.f_plan.f_s.Columns),.d (.str p0.f_plan.f_x.Project),.d (.int .i64 p0.f_plan.f_x.Version),.d (Ah 2 Ak p0.f_plan.f_x.Picks),.d (Ah 1 (Ah 1 (D.int .i64)) p0.f_plan.f_x.Rows),.own 26 79 (List.map A7 p0.f_before)],.any] (.tup [.d (Ej R.1),.d (.int .i64 R.2)]))∧(∀ (p0:AK) (p1:Av) (R:(Bd × Int)) ,Hb d p0 p1 = some R→CY Tryz.prog 72 [.cc none [.d (Ah 2 Af p0.f_plan.f_s.Lists),.d (Ah 7 Ai p0.f_plan.f_s.Columns),.d (.str p0.f_plan.f_x.Project),.d (.int .i64 p0.f_plan.f_x.Version),.d (Ah 2 Ak p0.f_plan.f_x.Picks),.d (Ah 1 (Ah 1 (D.int .i64)) p0.f_plan.f_x.Rows),.own 26 79 (List.map A7 p0.f_before)],.d (Ac p1)] [.cc none [.d (Ah 2 Af p0.f_plan.f_s.Lists),.d (Ah 7 Ai p0.f_plan.f_s.Columns),.d (.str p0.f_plan.f_x.Project),.d (.int .i64 p0.f_plan.f_x.Version),.d (Ah 2 Ak p0.f_plan.f_x.Picks),.d (Ah 1 (Ah 1 (D.int .i64)) p0.f_plan.f_x.Rows),.own 26 79 (List.map A7 p0.f_before)],.any] (.tup [.d (Ej R.1),.d (.int .i64 R.2)]))
 | 0=>by
  refine ⟨?_,?_⟩ <;> (intros; rename_i h; cases h)
 | d + 1=>by
  have ih:=CM d
  exact ⟨M0 d _ (ih).1 _ (ih).2,Nb d _ (ih).1 _ (ih).2⟩
theorem IB (d:Nat):∀ (p0:AK) (p1:Av) (R:(Bd × Int)) ,D3 d p0 p1 = some R→CY Tryz.prog 34 [.cc none [.d (Ah 2 Af p0.f_plan.f_s.Lists),.d (Ah 7 Ai p0.f_plan.f_s.Columns),.d (.str p0.f_plan.f_x.Project),.d (.int .i64 p0.f_plan.f_x.Version),.d (Ah 2 Ak p0.f_plan.f_x.Picks),.d (Ah 1 (Ah 1 (D.int .i64)) p0.f_plan.f_x.Rows),.own 26 79 (List.map A7 p0.f_before)],.d (Ac p1)] [.cc none [.d (Ah 2 Af p0.f_plan.f_s.Lists),.d (Ah 7 Ai p0.f_plan.f_s.Columns),.d (.str p0.f_plan.f_x.Project),.d (.int .i64 p0.f_plan.f_x.Version),.d (Ah 2 Ak p0.f_plan.f_x.Picks),.d (Ah 1 (Ah 1 (D.int .i64)) p0.f_plan.f_x.Rows),.own 26 79 (List.map A7 p0.f_before)],.any] (.tup [.d (Ej R.1),.d (.int .i64 R.2)]):=(CM d).1
end Go.Proofs.YtjghjdokjgcehaaGreatDoor.P
