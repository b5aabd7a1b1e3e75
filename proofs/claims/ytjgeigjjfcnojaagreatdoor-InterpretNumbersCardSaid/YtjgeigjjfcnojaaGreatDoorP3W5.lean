/- P3W5 -/
import Derived.Test.YtjgeigjjfcnojaaGreatDoorP3DW
import Derived.Test.YtjgeigjjfcnojaaGreatDoorFB
set_option linter.unusedSimpArgs false
namespace Go.Proofs.YtjgeigjjfcnojaaGreatDoor.P
open Go.Abs Go.Proofs
set_option maxRecDepth 100000
set_option maxHeartbeats 4000000
set_option linter.unusedVariables false
theorem z14q {A B:Prop} (b:B) (a:A:=by exact ⟨rfl,rfl,by first | rfl | (simp only [List.length_map]; done) | (simp only [List.length_map]; rfl) | (simp only [Ac,Aa,Ad,Ab,Ah,List.map_cons,List.map_nil,List.length_map]; done) | (simp only [Ac,Aa,Ad,Ab,Ah,List.map_cons,List.map_nil,List.length_map]; rfl)⟩):A∧B:=⟨a,b⟩
theorem z20q {p:Prop} (h:p:=by obtain rfl:=Option.some.inj h; refine z14q ?_; (conv=>whnf); exact z15):p:=h
theorem z34q {p:Prop} (h:p:=by (conv=>whnf); exact z20q):p:=h
theorem z38q {p:Prop} (h:p:=by (conv=>whnf); obtain ⟨x63,hx63,h⟩:=A8 h; refine Av (Cy _ _ _ hx63) ?_; exact z34q):p:=h
theorem z49q {p:Prop} (h:p:=by (conv=>whnf); obtain ⟨x53,hx53,h⟩:=A8 h; (first | refine E5 (Ef _ _ _ _ hx53) ?_ | (simp only [List.length_map]; refine E5 (Ef _ _ _ _ hx53) ?_)); exact z34q):p:=h
theorem OF (p0:Az) (p1:Int) (p2:Int) (p3:Int) (R:(Int × Bool)) (h:Fi p0 p1 p2 p3 = some R):Aj Tryz.prog 250 [.d (Ag p0),.d (.int .i64 p1),.d (.int .i64 p2),.d (.int .i64 p3)] (.tup [.d (.int .i64 R.1),.d (.bool R.2)]):=by
 refine BF Tryz.func250 ?_
 unfold Fi at h
 refine AE h (fun h=>?_) fun h=>?_
 ·refine AE h (fun h=>?_) fun h=>?_
  ·conv=>whnf
   refine z12 ?_
   exact A5 h
  conv=>whnf
  refine z12 ?_
  exact A5 h
 refine AF h (fun _=>PK _ _ _ _) fun x31 h=>?_
 refine Ap h fun h=>?_
 refine Ap h fun h=>?_
 refine Ap h fun h=>?_
 refine AF h (fun _=>KG _ _ _) fun x50 h=>?_
 refine AF h (fun _=>F8 _ _ _) fun x53 h=>?_
 refine AF h (fun _=>F8 _ _ _) fun x56 h=>?_
 refine AF h (fun _=>F8 _ _ _) fun x59 h=>?_
 exact A5 h
theorem N2 (p0:Af) (p1:Int) (p2:Int) (p3:Int) (p4:Int) (R:(Int × Bool)) (h:F6 p0 p1 p2 p3 p4 = some R):Aj Tryz.prog 180 [.d (Au p0),.d (.int .i64 p1),.d (.int .i64 p2),.d (.int .i64 p3),.d (.int .i64 p4)] (.tup [.d (.int .i64 R.1),.d (.bool R.2)]):=by
 refine BF Tryz.func180 ?_
 unfold F6 at h
 refine AF h (fun _=>J0 _ _ _) fun x18 h=>?_
 refine Ap h fun h=>?_
 refine Bd (f:=Ag) h fun x38 _ h=>?_
 refine AE h (fun h=>?_) fun h=>?_
 ·refine Bd (f:=Ae) h fun x48 _ h=>?_
  refine AF h (fun _=>Rn _ _ _ _ _) fun x53 h=>?_
  exact DO h
 refine AF h (fun _=>OF _ _ _ _ _) fun x61 h=>?_
 exact DO h
theorem Nq (p0:Af) (p1:A1) (p2:Int) (p3:Int) (p4:Int) (R:(Int × Bool)) (h:Ep p0 p1 p2 p3 p4 = some R):Aj Tryz.prog 107 [.d (Au p0),.d (CM p1),.d (.int .i64 p2),.d (.int .i64 p3),.d (.int .i64 p4)] (.tup [.d (.int .i64 R.1),.d (.bool R.2)]):=by
 refine BF Tryz.func107 ?_
 unfold Ep at h
 refine AF h (fun _=>Db _ _ _ _ _ (fun a0 _ h=>Qa a0 _ _ h)) fun x16 h=>?_
 refine AE h (fun h=>?_) fun h=>?_
 ·refine AF h (fun _=>N2 _ _ _ _ _ _) fun x22 h=>?_
  exact A5 h
 conv=>whnf
 refine z12 ?_
 refine Bd (f:=Ai) h fun x30 _ h=>?_
 refine Bd (f:=(Ah 1 (D.int .i64))) h fun x36 _ h=>?_
 refine Bd (f:=(D.int .i64)) h fun x40 _ h=>?_
 refine AF h (fun _=>N2 _ _ _ _ _ _) fun x43 h=>?_
 exact A5 h
theorem M2 (p0:Int) (q0:Af) (q1:A1) (q2:Int) (R:Bool) (h:C6 p0 q0 q1 q2 = some R):Aj Tryz.prog 175 [.d (.int .i64 p0),.d (.ptr [(Ah 2 Ae q0.Lists),(Ah 7 Ag q0.Columns)]),.d (.ptr [(.str q1.Project),(.int .i64 q1.Version),(Ah 2 Ai q1.Picks),(Ah 1 (Ah 1 (D.int .i64)) q1.Rows)]),.d (.ptr [(.int .i64 q2)])] (.d (.bool R)):=by
 refine BF Tryz.func175 ?_
 unfold C6 at h
 conv=>whnf
 refine z12 ?_
 refine AF h (fun _=>GJ _ _ _) fun x15 h=>?_
 refine AF h (fun _=>Nq _ _ _ _ _ _) fun x16 h=>?_
 exact A5 h
theorem OK (p0:Int) (q0:(List Int)) (q1:Af) (q2:A1) (R:Bool) (h:Fo p0 q0 q1 q2 = some R):Aj Tryz.prog 173 [.d (.int .i64 p0),.d (.ptr [(Ah 1 (D.int .i64) q0)]),.d (.ptr [(Ah 2 Ae q1.Lists),(Ah 7 Ag q1.Columns)]),.d (.ptr [(.str q2.Project),(.int .i64 q2.Version),(Ah 2 Ai q2.Picks),(Ah 1 (Ah 1 (D.int .i64)) q2.Rows)])] (.d (.bool R)):=by
 refine BF Tryz.func173 ?_
 unfold Fo at h
 refine AF h (fun _=>ID _ _ _ _ _ (fun a0 _ h=>M2 a0 _ _ _ _ h)) fun x8 h=>?_
 exact A5 h
theorem Lj (d:Nat) (p0:Af) (p1:A1) (p2:Ar) (p3:(List Int)) (R:(List Int)) (h:Fz d p0 p1 p2 p3 = some R):Aj Tryz.prog 100 [.d (Au p0),.d (CM p1),.d (Ac p2),.d (Ah 1 (D.int .i64) p3)] (.d (Ah 1 (D.int .i64) R)):=by
 refine BF Tryz.func100 ?_
 unfold Fz at h
 refine AF h (fun _=>Jr _ _ _) fun x11 h=>?_
 refine AE h (fun h=>?_) fun h=>?_
 ·conv=>whnf
  exact z23
 refine AF h (fun _=>Ha _ _ _ _ _) fun x16 h=>?_
 refine SK h (fun _=>J4 _ _ _ _ _ (fun a0 _ h=>OK a0 _ _ _ _ h)) fun x18 h=>?_
 conv=>whnf
 exact z23
theorem Lk (p0:Af) (p1:A1) (p2:(List Int)) (p3:Int) (R:(List Int)) (h:F0 p0 p1 p2 p3 = some R):Aj Tryz.prog 101 [.d (Au p0),.d (CM p1),.d (Ah 1 (D.int .i64) p2),.d (.int .i64 p3)] (.d (Ah 1 (D.int .i64) R)):=by
 refine BF Tryz.func101 ?_
 unfold F0 at h
 refine z5 h (fun p=>BB 37 [(3,.d (.int .i64 p3)),(4,.ptr 4 1 0),(5,.ptr 5 1 0),(9,.sl 9 1),(14,.d (Ah 1 (D.int .i64) p2)),(15,.d (.int .i64 ((p2.length:Nat):Int))),(16,.d (.int .i64 p.1))] [(4,.var [.d (Ah 2 Ae p0.Lists),.d (Ah 7 Ag p0.Columns)],1),(5,.var [.d (.str p1.Project),.d (.int .i64 p1.Version),.d (Ah 2 Ai p1.Picks),.d (Ah 1 (Ah 1 (D.int .i64)) p1.Rows)],1),(9,.row 1 3 (List.map (D.int .i64) p.2),1)]) Ak fun _ _ ⟨v16_1,b9_1⟩ h=>?_
 simp only [Fp] at h
 refine AE h (fun h=>?_) fun h=>?_
 ·refine Bd (f:=(D.int .i64)) h fun x18 _ h=>?_
  conv=>whnf
  refine z12 ?_
  refine AF h (fun _=>GJ _ _ _) fun x27 h=>?_
  refine AF h (fun _=>Nq _ _ _ _ _ _) fun x28 h=>?_
  conv=>whnf
  exact z28
 exact z30
theorem Jh (d:Nat) (p0:A3) (p1:A2) (R:(AA × Int)) (h:Ba d p0 p1 = some R):Aj Tryz.prog 46 [.d (B6 p0),.d (Ad p1)] (.tup [.d (Bv R.1),.d (.int .i64 R.2)]):=by
 refine Dk [8] Tryz.func46 (by kernel_rfl) ?_
 unfold Ba at h
 refine AF h (fun _=>Lj _ _ _ _ _ _) fun x24 h=>?_
 refine FW {p:Int // Bs p1 x24 p0 p = some R} (fun p=>BB 66 [(2,.ptr 2 1 0),(3,.ptr 3 1 0),(4,.ptr 4 1 0),(6,.d (Ah 1 (D.int .i64) x24)),(7,.d (.int .i64 p.1)),(8,.d (.int .i64 1))] [(2,.var [.d (Ah 2 Ae p0.f_plan.f_s.Lists),.d (Ah 7 Ag p0.f_plan.f_s.Columns),.d (.str p0.f_plan.f_x.Project),.d (.int .i64 p0.f_plan.f_x.Version),.d (Ah 2 Ai p0.f_plan.f_x.Picks),.d (Ah 1 (Ah 1 (D.int .i64)) p0.f_plan.f_x.Rows),.d (Ah 26 A0 p0.f_before)],1),(3,.var [.d (.int .i64 p1.Op),.d (.int .i64 p1.Num),.d (.str p1.Name),.d (.int .i64 p1.Column),.d (Ah 1 (D.int .i64) p1.Columns),.d (Ah 2 Ai p1.Dims),.d (.int .i64 p1.Cond.Op),.d (.int .i64 p1.Cond.Column),.d (.int .i64 p1.Cond.Code),.d (.int .i64 p1.Cond.Low),.d (.int .i64 p1.Cond.High),.d (Ah 6 Ax p1.Cond.Kids),.d (.int .i64 p1.Event.Op),.d (.int .i64 p1.Event.Column),.d (.int .i64 p1.Event.Code),.d (.int .i64 p1.Event.Low),.d (.int .i64 p1.Event.High),.d (Ah 6 Ax p1.Event.Kids),.d (Ah 19 Bn p1.Kids)],1),(4,.var [.d (.int .i64 0),.d (.int .i64 0),.d (.int .i64 0),.d (.nil 2),.d (.int .i64 0),.d (.nil 7),.d (.int .i64 0),.d (.nil 1),.d (.nil 2),.d (.int .i64 0),.d (.int .i64 0),.d (.int .i64 0),.d (.int .i64 0),.d (.int .i64 0),.d (.int .i64 0),.d (.nil 6),.d (.nil 2),.d (.int .i64 0),.d (.int .i64 0),.d (.int .i64 0),.d (.int .i64 0),.d (.int .i64 0),.d (.int .i64 0),.d (.nil 1)],1)]) ?_ fun p=>?_
 ·refine AF h (fun _=>Lk _ _ _ _ _) fun x34 h=>?_
  refine z5 h (fun p=>BB 66 [(2,.ptr 2 1 0),(3,.ptr 3 1 0),(4,.ptr 4 1 0),(6,.d (Ah 1 (D.int .i64) x24)),(7,.d (.int .i64 p.1)),(8,.d (.int .i64 1)),(34,.d (Ah 1 (D.int .i64) x34)),(35,.d (.int .i64 ((x34.length:Nat):Int))),(36,.d (.int .i64 p.2))] [(2,.var [.d (Ah 2 Ae p0.f_plan.f_s.Lists),.d (Ah 7 Ag p0.f_plan.f_s.Columns),.d (.str p0.f_plan.f_x.Project),.d (.int .i64 p0.f_plan.f_x.Version),.d (Ah 2 Ai p0.f_plan.f_x.Picks),.d (Ah 1 (Ah 1 (D.int .i64)) p0.f_plan.f_x.Rows),.d (Ah 26 A0 p0.f_before)],1),(3,.var [.d (.int .i64 p1.Op),.d (.int .i64 p1.Num),.d (.str p1.Name),.d (.int .i64 p1.Column),.d (Ah 1 (D.int .i64) p1.Columns),.d (Ah 2 Ai p1.Dims),.d (.int .i64 p1.Cond.Op),.d (.int .i64 p1.Cond.Column),.d (.int .i64 p1.Cond.Code),.d (.int .i64 p1.Cond.Low),.d (.int .i64 p1.Cond.High),.d (Ah 6 Ax p1.Cond.Kids),.d (.int .i64 p1.Event.Op),.d (.int .i64 p1.Event.Column),.d (.int .i64 p1.Event.Code),.d (.int .i64 p1.Event.Low),.d (.int .i64 p1.Event.High),.d (Ah 6 Ax p1.Event.Kids),.d (Ah 19 Bn p1.Kids)],1),(4,.var [.d (.int .i64 0),.d (.int .i64 0),.d (.int .i64 0),.d (.nil 2),.d (.int .i64 0),.d (.nil 7),.d (.int .i64 0),.d (.nil 1),.d (.nil 2),.d (.int .i64 0),.d (.int .i64 0),.d (.int .i64 0),.d (.int .i64 0),.d (.int .i64 0),.d (.int .i64 0),.d (.nil 6),.d (.nil 2),.d (.int .i64 0),.d (.int .i64 0),.d (.int .i64 0),.d (.int .i64 0),.d (.int .i64 0),.d (.int .i64 0),.d (.nil 1)],1)]) A4 fun _ _ ⟨v7_1,v36_1⟩ h=>?_
  simp only [Ce] at h
  refine AE h (fun h=>?_) fun h=>?_
  ·refine Bd (f:=(D.int .i64)) h fun x38 _ h=>?_
   exact z25
  exact z36
 obtain ⟨j7_1,h⟩:=p
 simp only [Bs] at h
 refine AE h (fun h=>?_) fun h=>?_
 ·conv=>whnf
  obtain ⟨x52,hx52,h⟩:=A8 h
  first | refine Av (Dp _ _ _ hx52) ?_ | (simp only [List.length_map]; refine Av (Dp _ _ _ hx52) ?_)
  refine AE h (fun h=>?_) fun h=>?_
  ·exact z16
  conv=>whnf
  refine z12 ?_
  conv=>whnf
  obtain ⟨x64,hx64,h⟩:=A8 h
  refine Av (DX _ _ _ hx64) ?_
  exact z16
 conv=>whnf
 obtain ⟨x52,hx52,h⟩:=A8 h
 first | refine Av (Dp _ _ _ hx52) ?_ | (simp only [List.length_map]; refine Av (Dp _ _ _ hx52) ?_)
 refine AE h (fun h=>?_) fun h=>?_
 ·exact z16
 conv=>whnf
 refine z12 ?_
 conv=>whnf
 obtain ⟨x64,hx64,h⟩:=A8 h
 refine Av (DX _ _ _ hx64) ?_
 exact z16
theorem Ef (d:Nat) (p0:A3) (p1:A2) (R:(AA × Int))  (h:Ba d p0 p1 = some R):CZ Tryz.prog 46 [.cc none [.d (Ah 2 Ae p0.f_plan.f_s.Lists),.d (Ah 7 Ag p0.f_plan.f_s.Columns),.d (.str p0.f_plan.f_x.Project),.d (.int .i64 p0.f_plan.f_x.Version),.d (Ah 2 Ai p0.f_plan.f_x.Picks),.d (Ah 1 (Ah 1 (D.int .i64)) p0.f_plan.f_x.Rows),.own 26 100 (List.map A0 p0.f_before)],.d (Ad p1)] [.cc none [.d (Ah 2 Ae p0.f_plan.f_s.Lists),.d (Ah 7 Ag p0.f_plan.f_s.Columns),.d (.str p0.f_plan.f_x.Project),.d (.int .i64 p0.f_plan.f_x.Version),.d (Ah 2 Ai p0.f_plan.f_x.Picks),.d (Ah 1 (Ah 1 (D.int .i64)) p0.f_plan.f_x.Rows),.own 26 100 (List.map A0 p0.f_before)],.any] (.tup [.d (Bv R.1),.d (.int .i64 R.2)]):=by
 refine Wc [8] Tryz.func46 (by kernel_rfl) rfl ?_ ?_
 ·intro i x y hx hy
  match i,hx,hy with
  | 0,hx,hy=>cases Option.some.inj hx; cases Option.some.inj hy; exact ⟨[_,_,_,_,_,_],_,_,_,_,rfl,rfl⟩
  | 1,hx,hy=>simp at hx hy; subst hx; subst hy; trivial
  | i + 2,hx,hy=>simp at hx
 unfold Ba at h
 conv=>whnf
 obtain ⟨x24,hx24,h⟩:=A8 h
 refine Av (Lj _ _ _ _ _ _ hx24) ?_
 conv=>whnf
 refine FW {p:Int // Bs p1 x24 p0 p = some R} (fun p=>BB 66 [(2,.ptr 2 1 0),(3,.ptr 3 1 0),(4,.ptr 4 1 0),(6,.d (Ah 1 (D.int .i64) x24)),(7,.d (.int .i64 p.1)),(8,.d (.int .i64 1))] [(0,.row 26 100 (List.map A0 p0.f_before),0),(2,.var [.d (Ah 2 Ae p0.f_plan.f_s.Lists),.d (Ah 7 Ag p0.f_plan.f_s.Columns),.d (.str p0.f_plan.f_x.Project),.d (.int .i64 p0.f_plan.f_x.Version),.d (Ah 2 Ai p0.f_plan.f_x.Picks),.d (Ah 1 (Ah 1 (D.int .i64)) p0.f_plan.f_x.Rows),.sl 0 0],1),(3,.var [.d (.int .i64 p1.Op),.d (.int .i64 p1.Num),.d (.str p1.Name),.d (.int .i64 p1.Column),.d (Ah 1 (D.int .i64) p1.Columns),.d (Ah 2 Ai p1.Dims),.d (.int .i64 p1.Cond.Op),.d (.int .i64 p1.Cond.Column),.d (.int .i64 p1.Cond.Code),.d (.int .i64 p1.Cond.Low),.d (.int .i64 p1.Cond.High),.d (Ah 6 Ax p1.Cond.Kids),.d (.int .i64 p1.Event.Op),.d (.int .i64 p1.Event.Column),.d (.int .i64 p1.Event.Code),.d (.int .i64 p1.Event.Low),.d (.int .i64 p1.Event.High),.d (Ah 6 Ax p1.Event.Kids),.d (Ah 19 Bn p1.Kids)],1),(4,.var [.d (.int .i64 0),.d (.int .i64 0),.d (.int .i64 0),.d (.nil 2),.d (.int .i64 0),.d (.nil 7),.d (.int .i64 0),.d (.nil 1),.d (.nil 2),.d (.int .i64 0),.d (.int .i64 0),.d (.int .i64 0),.d (.int .i64 0),.d (.int .i64 0),.d (.int .i64 0),.d (.nil 6),.d (.nil 2),.d (.int .i64 0),.d (.int .i64 0),.d (.int .i64 0),.d (.int .i64 0),.d (.int .i64 0),.d (.int .i64 0),.d (.nil 1)],1)]) ?_ fun p=>?_
 ·conv=>whnf
  obtain ⟨x34,hx34,h⟩:=A8 h
  refine Av (Lk _ _ _ _ _ hx34) ?_
  conv=>whnf
  obtain ⟨P1,i1,h⟩:=A9 h
  refine loop {p:Nat × (Int × Int) // P1 p.1 p.2 = some R} (fun p=>BB 66 [(2,.ptr 2 1 0),(3,.ptr 3 1 0),(4,.ptr 4 1 0),(6,.d (Ah 1 (D.int .i64) x24)),(7,.d (.int .i64 p.1.2.1)),(8,.d (.int .i64 1)),(34,.d (Ah 1 (D.int .i64) x34)),(35,.d (.int .i64 ((x34.length:Nat):Int))),(36,.d (.int .i64 p.1.2.2))] [(0,.row 26 100 (List.map A0 p0.f_before),0),(2,.var [.d (Ah 2 Ae p0.f_plan.f_s.Lists),.d (Ah 7 Ag p0.f_plan.f_s.Columns),.d (.str p0.f_plan.f_x.Project),.d (.int .i64 p0.f_plan.f_x.Version),.d (Ah 2 Ai p0.f_plan.f_x.Picks),.d (Ah 1 (Ah 1 (D.int .i64)) p0.f_plan.f_x.Rows),.sl 0 0],1),(3,.var [.d (.int .i64 p1.Op),.d (.int .i64 p1.Num),.d (.str p1.Name),.d (.int .i64 p1.Column),.d (Ah 1 (D.int .i64) p1.Columns),.d (Ah 2 Ai p1.Dims),.d (.int .i64 p1.Cond.Op),.d (.int .i64 p1.Cond.Column),.d (.int .i64 p1.Cond.Code),.d (.int .i64 p1.Cond.Low),.d (.int .i64 p1.Cond.High),.d (Ah 6 Ax p1.Cond.Kids),.d (.int .i64 p1.Event.Op),.d (.int .i64 p1.Event.Column),.d (.int .i64 p1.Event.Code),.d (.int .i64 p1.Event.Low),.d (.int .i64 p1.Event.High),.d (Ah 6 Ax p1.Event.Kids),.d (Ah 19 Bn p1.Kids)],1),(4,.var [.d (.int .i64 0),.d (.int .i64 0),.d (.int .i64 0),.d (.nil 2),.d (.int .i64 0),.d (.nil 7),.d (.int .i64 0),.d (.nil 1),.d (.nil 2),.d (.int .i64 0),.d (.int .i64 0),.d (.int .i64 0),.d (.int .i64 0),.d (.int .i64 0),.d (.int .i64 0),.d (.nil 6),.d (.nil 2),.d (.int .i64 0),.d (.int .i64 0),.d (.int .i64 0),.d (.int .i64 0),.d (.int .i64 0),.d (.int .i64 0),.d (.nil 1)],1)]) (fun p=>p.1.1) ⟨(_,(_,_)),h⟩ ?_ fun p=>?_
  ·refine QM ?_
   conv=>whnf
   exact ep
  obtain ⟨⟨k1,⟨v7_1,v36_1⟩⟩,h⟩:=p
  obtain ⟨k1,rfl,h⟩:=i1 _ _ h
  simp only [Ce] at h
  conv=>whnf
  refine Rq h Cj (fun h=>?_) (fun h=>?_)
  ·conv=>whnf
   refine eo (f:=(D.int .i64)) h Cj fun x38 hx38 h=>?_
   conv=>whnf
   refine ⟨⟨(_,(_,_)),h⟩,?_,Nat.lt_succ_self _⟩
   refine QM ?_
   conv=>whnf
   exact ep
  conv=>whnf
  refine ⟨⟨_,h⟩,?_⟩
  refine QM ?_
  conv=>whnf
  exact ep
 obtain ⟨j7_1,h⟩:=p
 simp only [Bs] at h
 conv=>whnf
 refine Rq h Cj (fun h=>?_) (fun h=>?_)
 ·conv=>whnf
  obtain ⟨x52,hx52,h⟩:=A8 h
  first | refine Av (Dp _ _ _ hx52) ?_ | (simp only [List.length_map]; refine Av (Dp _ _ _ hx52) ?_)
  conv=>whnf
  refine Rq h Cj (fun h=>?_) (fun h=>?_)
  ·exact z34q
  conv=>whnf
  refine z12 ?_
  conv=>whnf
  obtain ⟨x64,hx64,h⟩:=A8 h
  refine Av (DX _ _ _ hx64) ?_
  exact z34q
 conv=>whnf
 obtain ⟨x52,hx52,h⟩:=A8 h
 first | refine Av (Dp _ _ _ hx52) ?_ | (simp only [List.length_map]; refine Av (Dp _ _ _ hx52) ?_)
 conv=>whnf
 refine Rq h Cj (fun h=>?_) (fun h=>?_)
 ·exact z34q
 conv=>whnf
 refine z12 ?_
 conv=>whnf
 obtain ⟨x64,hx64,h⟩:=A8 h
 refine Av (DX _ _ _ hx64) ?_
 exact z34q
theorem Mc (d:Nat) (self_interpret_room_value:(A3→A2→Option (AA × Int))) (ih_interpret_room_value:∀ (p0:A3) (p1:A2) (R:(AA × Int)) ,self_interpret_room_value p0 p1 = some R→Aj Tryz.prog 20 [.d (B6 p0),.d (Ad p1)] (.tup [.d (Bv R.1),.d (.int .i64 R.2)])) (self_interpret_room_pair:(A3→A2→Option (AA × Int))) (ih_interpret_room_pair:∀ (p0:A3) (p1:A2) (R:(AA × Int)) ,self_interpret_room_pair p0 p1 = some R→Aj Tryz.prog 53 [.d (B6 p0),.d (Ad p1)] (.tup [.d (Bv R.1),.d (.int .i64 R.2)])) (p0:A3) (p1:A2) (R:(AA × Int)) (h:AW d self_interpret_room_value self_interpret_room_pair p0 p1 = some R):Aj Tryz.prog 20 [.d (B6 p0),.d (Ad p1)] (.tup [.d (Bv R.1),.d (.int .i64 R.2)]):=by
 refine Dk [32] Tryz.func20 (by kernel_rfl) ?_
 unfold AW at h
 refine FW Empty (fun p=>p.elim) ?_ (fun p=>p.elim)
 refine AE h (fun h=>?_) fun h=>?_
 ·exact z16
 refine AE h (fun h=>?_) fun h=>?_
 ·refine AF h (fun _=>MK _ _ _) fun x27 h=>?_
  exact z16
 refine AE h (fun h=>?_) fun h=>?_
 ·refine AF h (fun _=>Ha _ _ _ _ _) fun x38 h=>?_
  refine AF h (fun _=>DX _ _ _) fun x46 h=>?_
  exact z16
 conv=>whnf
 refine MB h Cj (fun e14 h=>?_) (fun e14 h=>?_)
 ·conv=>whnf
  refine N6 Cj e14 ?_
  conv=>whnf
  obtain ⟨x53,hx53,h⟩:=A8 h
  refine Av (Jh _ _ _ _ hx53) ?_
  exact z16
 refine AE h (fun h=>?_) fun h=>?_
 ·conv=>whnf
  obtain ⟨x53,hx53,h⟩:=A8 h
  refine Av (Jh _ _ _ _ hx53) ?_
  exact z16
 refine AE h (fun h=>?_) fun h=>?_
 ·exact z52
 refine AE h (fun h=>?_) fun h=>?_
 ·exact z52
 refine AE h (fun h=>?_) fun h=>?_
 ·exact z52
 refine AE h (fun h=>?_) fun h=>?_
 ·exact z52
 refine AE h (fun h=>?_) fun h=>?_
 ·exact z52
 conv=>whnf
 obtain ⟨x13,hx13,h⟩:=A8 h
 first | refine Av (ih_interpret_room_pair _ _ _ hx13) ?_ | (simp only [List.length_map]; refine Av (ih_interpret_room_pair _ _ _ hx13) ?_)
 exact z16
theorem Mb (d:Nat) (self_interpret_room_value:(A3→A2→Option (AA × Int))) (ih_interpret_room_value:∀ (p0:A3) (p1:A2) (R:(AA × Int)) ,self_interpret_room_value p0 p1 = some R→CZ Tryz.prog 20 [.cc none [.d (Ah 2 Ae p0.f_plan.f_s.Lists),.d (Ah 7 Ag p0.f_plan.f_s.Columns),.d (.str p0.f_plan.f_x.Project),.d (.int .i64 p0.f_plan.f_x.Version),.d (Ah 2 Ai p0.f_plan.f_x.Picks),.d (Ah 1 (Ah 1 (D.int .i64)) p0.f_plan.f_x.Rows),.own 26 100 (List.map A0 p0.f_before)],.d (Ad p1)] [.cc none [.d (Ah 2 Ae p0.f_plan.f_s.Lists),.d (Ah 7 Ag p0.f_plan.f_s.Columns),.d (.str p0.f_plan.f_x.Project),.d (.int .i64 p0.f_plan.f_x.Version),.d (Ah 2 Ai p0.f_plan.f_x.Picks),.d (Ah 1 (Ah 1 (D.int .i64)) p0.f_plan.f_x.Rows),.own 26 100 (List.map A0 p0.f_before)],.any] (.tup [.d (Bv R.1),.d (.int .i64 R.2)])) (self_interpret_room_pair:(A3→A2→Option (AA × Int))) (ih_interpret_room_pair:∀ (p0:A3) (p1:A2) (R:(AA × Int)) ,self_interpret_room_pair p0 p1 = some R→CZ Tryz.prog 53 [.cc none [.d (Ah 2 Ae p0.f_plan.f_s.Lists),.d (Ah 7 Ag p0.f_plan.f_s.Columns),.d (.str p0.f_plan.f_x.Project),.d (.int .i64 p0.f_plan.f_x.Version),.d (Ah 2 Ai p0.f_plan.f_x.Picks),.d (Ah 1 (Ah 1 (D.int .i64)) p0.f_plan.f_x.Rows),.own 26 100 (List.map A0 p0.f_before)],.d (Ad p1)] [.cc none [.d (Ah 2 Ae p0.f_plan.f_s.Lists),.d (Ah 7 Ag p0.f_plan.f_s.Columns),.d (.str p0.f_plan.f_x.Project),.d (.int .i64 p0.f_plan.f_x.Version),.d (Ah 2 Ai p0.f_plan.f_x.Picks),.d (Ah 1 (Ah 1 (D.int .i64)) p0.f_plan.f_x.Rows),.own 26 100 (List.map A0 p0.f_before)],.any] (.tup [.d (Bv R.1),.d (.int .i64 R.2)])) (p0:A3) (p1:A2) (R:(AA × Int))  (h:AW d self_interpret_room_value self_interpret_room_pair p0 p1 = some R):CZ Tryz.prog 20 [.cc none [.d (Ah 2 Ae p0.f_plan.f_s.Lists),.d (Ah 7 Ag p0.f_plan.f_s.Columns),.d (.str p0.f_plan.f_x.Project),.d (.int .i64 p0.f_plan.f_x.Version),.d (Ah 2 Ai p0.f_plan.f_x.Picks),.d (Ah 1 (Ah 1 (D.int .i64)) p0.f_plan.f_x.Rows),.own 26 100 (List.map A0 p0.f_before)],.d (Ad p1)] [.cc none [.d (Ah 2 Ae p0.f_plan.f_s.Lists),.d (Ah 7 Ag p0.f_plan.f_s.Columns),.d (.str p0.f_plan.f_x.Project),.d (.int .i64 p0.f_plan.f_x.Version),.d (Ah 2 Ai p0.f_plan.f_x.Picks),.d (Ah 1 (Ah 1 (D.int .i64)) p0.f_plan.f_x.Rows),.own 26 100 (List.map A0 p0.f_before)],.any] (.tup [.d (Bv R.1),.d (.int .i64 R.2)]):=by
 refine Wc [32] Tryz.func20 (by kernel_rfl) rfl ?_ ?_
 ·intro i x y hx hy
  match i,hx,hy with
  | 0,hx,hy=>cases Option.some.inj hx; cases Option.some.inj hy; exact ⟨[_,_,_,_,_,_],_,_,_,_,rfl,rfl⟩
  | 1,hx,hy=>simp at hx hy; subst hx; subst hy; trivial
  | i + 2,hx,hy=>simp at hx
 unfold AW at h
 conv=>whnf
 refine FW Empty (fun p=>p.elim) ?_ (fun p=>p.elim)
 conv=>whnf
 refine Rq h Cj (fun h=>?_) (fun h=>?_)
 ·exact z34q
 conv=>whnf
 refine Rq h Cj (fun h=>?_) (fun h=>?_)
 ·conv=>whnf
  refine ⟨.inr ?_⟩
  conv=>whnf
  obtain ⟨x27,hx27,h⟩:=A8 h
  first | refine E5 (HG _ _ _ hx27) ?_ | (simp only [List.length_map]; refine E5 (HG _ _ _ hx27) ?_)
  exact z34q
 conv=>whnf
 refine Rq h Cj (fun h=>?_) (fun h=>?_)
 ·conv=>whnf
  obtain ⟨x38,hx38,h⟩:=A8 h
  refine Av (Ha _ _ _ _ _ hx38) ?_
  conv=>whnf
  obtain ⟨x46,hx46,h⟩:=A8 h
  refine Av (DX _ _ _ hx46) ?_
  exact z34q
 conv=>whnf
 refine MB h Cj (fun e14 h=>?_) (fun e14 h=>?_)
 ·conv=>whnf
  refine N6 Cj e14 ?_
  conv=>whnf
  refine ⟨.inr ?_⟩
  exact z49q
 conv=>whnf
 refine Rq h Cj (fun h=>?_) (fun h=>?_)
 ·conv=>whnf
  refine ⟨.inr ?_⟩
  exact z49q
 conv=>whnf
 refine Rq h Cj (fun h=>?_) (fun h=>?_)
 ·exact z52
 conv=>whnf
 refine Rq h Cj (fun h=>?_) (fun h=>?_)
 ·exact z52
 conv=>whnf
 refine Rq h Cj (fun h=>?_) (fun h=>?_)
 ·exact z52
 conv=>whnf
 refine Rq h Cj (fun h=>?_) (fun h=>?_)
 ·exact z52
 conv=>whnf
 refine Rq h Cj (fun h=>?_) (fun h=>?_)
 ·exact z52
 conv=>whnf
 refine ⟨.inr ?_⟩
 conv=>whnf
 obtain ⟨x13,hx13,h⟩:=A8 h
 first | refine E5 (ih_interpret_room_pair _ _ _ hx13) ?_ | (simp only [List.length_map]; refine E5 (ih_interpret_room_pair _ _ _ hx13) ?_)
 exact z34q
theorem MM (d:Nat) (self_interpret_room_value:(A3→A2→Option (AA × Int))) (ih_interpret_room_value:∀ (p0:A3) (p1:A2) (R:(AA × Int)) ,self_interpret_room_value p0 p1 = some R→Aj Tryz.prog 20 [.d (B6 p0),.d (Ad p1)] (.tup [.d (Bv R.1),.d (.int .i64 R.2)])) (self_interpret_room_pair:(A3→A2→Option (AA × Int))) (ih_interpret_room_pair:∀ (p0:A3) (p1:A2) (R:(AA × Int)) ,self_interpret_room_pair p0 p1 = some R→Aj Tryz.prog 53 [.d (B6 p0),.d (Ad p1)] (.tup [.d (Bv R.1),.d (.int .i64 R.2)])) (p0:A3) (p1:A2) (R:(AA × Int)) (h:BM d self_interpret_room_value self_interpret_room_pair p0 p1 = some R):Aj Tryz.prog 53 [.d (B6 p0),.d (Ad p1)] (.tup [.d (Bv R.1),.d (.int .i64 R.2)]):=by
 refine BF Tryz.func53 ?_
 unfold BM at h
 conv=>whnf
 refine z12 ?_
 refine Bd (f:=Bn) h fun x15 _ h=>?_
 rw [Ab x15]
 conv=>whnf
 obtain ⟨x17,hx17,h⟩:=A8 h
 first | refine Av (ih_interpret_room_value _ _ _ hx17) ?_ | (simp only [List.length_map]; refine Av (ih_interpret_room_value _ _ _ hx17) ?_)
 refine AE h (fun h=>?_) fun h=>?_
 ·exact z16
 conv=>whnf
 refine z12 ?_
 refine Bd (f:=Bn) h fun x28 _ h=>?_
 rw [Ab x28]
 conv=>whnf
 obtain ⟨x30,hx30,h⟩:=A8 h
 first | refine Av (ih_interpret_room_value _ _ _ hx30) ?_ | (simp only [List.length_map]; refine Av (ih_interpret_room_value _ _ _ hx30) ?_)
 refine AE h (fun h=>?_) fun h=>?_
 ·exact z16
 refine AE h (fun h=>?_) fun h=>?_
 ·conv=>whnf
  obtain ⟨x51,hx51,h⟩:=A8 h
  refine Av (NV _ _ _ hx51) ?_
  refine AE h (fun h=>?_) fun h=>?_
  ·exact z16
  conv=>whnf
  refine z12 ?_
  exact z37
 refine AE h (fun h=>?_) fun h=>?_
 ·conv=>whnf
  obtain ⟨x51,hx51,h⟩:=A8 h
  refine Av (NU _ _ _ hx51) ?_
  refine AE h (fun h=>?_) fun h=>?_
  ·exact z16
  conv=>whnf
  refine z12 ?_
  exact z37
 refine AE h (fun h=>?_) fun h=>?_
 ·conv=>whnf
  obtain ⟨x51,hx51,h⟩:=A8 h
  refine Av (NT _ _ _ hx51) ?_
  refine AE h (fun h=>?_) fun h=>?_
  ·exact z16
  conv=>whnf
  refine z12 ?_
  exact z37
 conv=>whnf
 obtain ⟨x51,hx51,h⟩:=A8 h
 refine Av (NS _ _ _ hx51) ?_
 refine AE h (fun h=>?_) fun h=>?_
 ·exact z16
 conv=>whnf
 refine z12 ?_
 exact z37
theorem ML (d:Nat) (self_interpret_room_value:(A3→A2→Option (AA × Int))) (ih_interpret_room_value:∀ (p0:A3) (p1:A2) (R:(AA × Int)) ,self_interpret_room_value p0 p1 = some R→CZ Tryz.prog 20 [.cc none [.d (Ah 2 Ae p0.f_plan.f_s.Lists),.d (Ah 7 Ag p0.f_plan.f_s.Columns),.d (.str p0.f_plan.f_x.Project),.d (.int .i64 p0.f_plan.f_x.Version),.d (Ah 2 Ai p0.f_plan.f_x.Picks),.d (Ah 1 (Ah 1 (D.int .i64)) p0.f_plan.f_x.Rows),.own 26 100 (List.map A0 p0.f_before)],.d (Ad p1)] [.cc none [.d (Ah 2 Ae p0.f_plan.f_s.Lists),.d (Ah 7 Ag p0.f_plan.f_s.Columns),.d (.str p0.f_plan.f_x.Project),.d (.int .i64 p0.f_plan.f_x.Version),.d (Ah 2 Ai p0.f_plan.f_x.Picks),.d (Ah 1 (Ah 1 (D.int .i64)) p0.f_plan.f_x.Rows),.own 26 100 (List.map A0 p0.f_before)],.any] (.tup [.d (Bv R.1),.d (.int .i64 R.2)])) (self_interpret_room_pair:(A3→A2→Option (AA × Int))) (ih_interpret_room_pair:∀ (p0:A3) (p1:A2) (R:(AA × Int)) ,self_interpret_room_pair p0 p1 = some R→CZ Tryz.prog 53 [.cc none [.d (Ah 2 Ae p0.f_plan.f_s.Lists),.d (Ah 7 Ag p0.f_plan.f_s.Columns),.d (.str p0.f_plan.f_x.Project),.d (.int .i64 p0.f_plan.f_x.Version),.d (Ah 2 Ai p0.f_plan.f_x.Picks),.d (Ah 1 (Ah 1 (D.int .i64)) p0.f_plan.f_x.Rows),.own 26 100 (List.map A0 p0.f_before)],.d (Ad p1)] [.cc none [.d (Ah 2 Ae p0.f_plan.f_s.Lists),.d (Ah 7 Ag p0.f_plan.f_s.Columns),.d (.str p0.f_plan.f_x.Project),.d (.int .i64 p0.f_plan.f_x.Version),.d (Ah 2 Ai p0.f_plan.f_x.Picks),.d (Ah 1 (Ah 1 (D.int .i64)) p0.f_plan.f_x.Rows),.own 26 100 (List.map A0 p0.f_before)],.any] (.tup [.d (Bv R.1),.d (.int .i64 R.2)])) (p0:A3) (p1:A2) (R:(AA × Int))  (h:BM d self_interpret_room_value self_interpret_room_pair p0 p1 = some R):CZ Tryz.prog 53 [.cc none [.d (Ah 2 Ae p0.f_plan.f_s.Lists),.d (Ah 7 Ag p0.f_plan.f_s.Columns),.d (.str p0.f_plan.f_x.Project),.d (.int .i64 p0.f_plan.f_x.Version),.d (Ah 2 Ai p0.f_plan.f_x.Picks),.d (Ah 1 (Ah 1 (D.int .i64)) p0.f_plan.f_x.Rows),.own 26 100 (List.map A0 p0.f_before)],.d (Ad p1)] [.cc none [.d (Ah 2 Ae p0.f_plan.f_s.Lists),.d (Ah 7 Ag p0.f_plan.f_s.Columns),.d (.str p0.f_plan.f_x.Project),.d (.int .i64 p0.f_plan.f_x.Version),.d (Ah 2 Ai p0.f_plan.f_x.Picks),.d (Ah 1 (Ah 1 (D.int .i64)) p0.f_plan.f_x.Rows),.own 26 100 (List.map A0 p0.f_before)],.any] (.tup [.d (Bv R.1),.d (.int .i64 R.2)]):=by
 refine Ns Tryz.func53 (by kernel_rfl) rfl ?_ ?_
 ·intro i x y hx hy
  match i,hx,hy with
  | 0,hx,hy=>cases Option.some.inj hx; cases Option.some.inj hy; exact ⟨[_,_,_,_,_,_],_,_,_,_,rfl,rfl⟩
  | 1,hx,hy=>simp at hx hy; subst hx; subst hy; trivial
  | i + 2,hx,hy=>simp at hx
 unfold BM at h
 conv=>whnf
 refine z12 ?_
 conv=>whnf
 refine ⟨.inr ?_⟩
 conv=>whnf
 refine eo (f:=Bn) h Cj fun x15 hx15 h=>?_
 rw [Ab x15]
 conv=>whnf
 obtain ⟨x17,hx17,h⟩:=A8 h
 first | refine E5 (ih_interpret_room_value _ _ _ hx17) ?_ | (simp only [List.length_map]; refine E5 (ih_interpret_room_value _ _ _ hx17) ?_)
 conv=>whnf
 refine Rq h Cj (fun h=>?_) (fun h=>?_)
 ·exact z34q
 conv=>whnf
 refine z12 ?_
 conv=>whnf
 refine ⟨.inr ?_⟩
 conv=>whnf
 refine eo (f:=Bn) h Cj fun x28 hx28 h=>?_
 rw [Ab x28]
 conv=>whnf
 obtain ⟨x30,hx30,h⟩:=A8 h
 first | refine E5 (ih_interpret_room_value _ _ _ hx30) ?_ | (simp only [List.length_map]; refine E5 (ih_interpret_room_value _ _ _ hx30) ?_)
 conv=>whnf
 refine Rq h Cj (fun h=>?_) (fun h=>?_)
 ·exact z34q
 conv=>whnf
 refine Rq h Cj (fun h=>?_) (fun h=>?_)
 ·conv=>whnf
  obtain ⟨x51,hx51,h⟩:=A8 h
  refine Av (NV _ _ _ hx51) ?_
  conv=>whnf
  refine Rq h Cj (fun h=>?_) (fun h=>?_)
  ·exact z34q
  conv=>whnf
  refine z12 ?_
  exact z38q
 conv=>whnf
 refine Rq h Cj (fun h=>?_) (fun h=>?_)
 ·conv=>whnf
  obtain ⟨x51,hx51,h⟩:=A8 h
  refine Av (NU _ _ _ hx51) ?_
  conv=>whnf
  refine Rq h Cj (fun h=>?_) (fun h=>?_)
  ·exact z34q
  conv=>whnf
  refine z12 ?_
  exact z38q
 conv=>whnf
 refine Rq h Cj (fun h=>?_) (fun h=>?_)
 ·conv=>whnf
  obtain ⟨x51,hx51,h⟩:=A8 h
  refine Av (NT _ _ _ hx51) ?_
  conv=>whnf
  refine Rq h Cj (fun h=>?_) (fun h=>?_)
  ·exact z34q
  conv=>whnf
  refine z12 ?_
  exact z38q
 conv=>whnf
 obtain ⟨x51,hx51,h⟩:=A8 h
 refine Av (NS _ _ _ hx51) ?_
 conv=>whnf
 refine Rq h Cj (fun h=>?_) (fun h=>?_)
 ·exact z34q
 conv=>whnf
 refine z12 ?_
 exact z38q
theorem Cq:∀ d:Nat,(∀ (p0:A3) (p1:A2) (R:(AA × Int)) ,AD d p0 p1 = some R→Aj Tryz.prog 20 [.d (B6 p0),.d (Ad p1)] (.tup [.d (Bv R.1),.d (.int .i64 R.2)]))∧(∀ (p0:A3) (p1:A2) (R:(AA × Int)) ,B4 d p0 p1 = some R→Aj Tryz.prog 53 [.d (B6 p0),.d (Ad p1)] (.tup [.d (Bv R.1),.d (.int .i64 R.2)]))
 | 0=>by
  refine ⟨?_,?_⟩ <;> (intros; rename_i h; cases h)
 | d + 1=>by
  have ih:=Cq d
  exact ⟨Mc d _ (ih).1 _ (ih).2,MM d _ (ih).1 _ (ih).2⟩
theorem MN (d:Nat):∀ (p0:A3) (p1:A2) (R:(AA × Int)) ,AD d p0 p1 = some R→Aj Tryz.prog 20 [.d (B6 p0),.d (Ad p1)] (.tup [.d (Bv R.1),.d (.int .i64 R.2)]):=(Cq d).1
theorem Cp:∀ d:Nat,(∀ (p0:A3) (p1:A2) (R:(AA × Int)) ,AD d p0 p1 = some R→CZ Tryz.prog 20 [.cc none [.d (Ah 2 Ae p0.f_plan.f_s.Lists),.d (Ah 7 Ag p0.f_plan.f_s.Columns),.d (.str p0.f_plan.f_x.Project),.d (.int .i64 p0.f_plan.f_x.Version),.d (Ah 2 Ai p0.f_plan.f_x.Picks),.d (Ah 1 (Ah 1 (D.int .i64)) p0.f_plan.f_x.Rows),.own 26 100 (List.map A0 p0.f_before)],.d (Ad p1)] [.cc none [.d (Ah 2 Ae p0.f_plan.f_s.Lists),.d (Ah 7 Ag p0.f_plan.f_s.Columns),.d (.str p0.f_plan.f_x.Project),.d (.int .i64 p0.f_plan.f_x.Version),.d (Ah 2 Ai p0.f_plan.f_x.Picks),.d (Ah 1 (Ah 1 (D.int .i64)) p0.f_plan.f_x.Rows),.own 26 100 (List.map A0 p0.f_before)],.any] (.tup [.d (Bv R.1),.d (.int .i64 R.2)]))∧(∀ (p0:A3) (p1:A2) (R:(AA × Int)) ,B4 d p0 p1 = some R→CZ Tryz.prog 53 [.cc none [.d (Ah 2 Ae p0.f_plan.f_s.Lists),.d (Ah 7 Ag p0.f_plan.f_s.Columns),.d (.str p0.f_plan.f_x.Project),.d (.int .i64 p0.f_plan.f_x.Version),.d (Ah 2 Ai p0.f_plan.f_x.Picks),.d (Ah 1 (Ah 1 (D.int .i64)) p0.f_plan.f_x.Rows),.own 26 100 (List.map A0 p0.f_before)],.d (Ad p1)] [.cc none [.d (Ah 2 Ae p0.f_plan.f_s.Lists),.d (Ah 7 Ag p0.f_plan.f_s.Columns),.d (.str p0.f_plan.f_x.Project),.d (.int .i64 p0.f_plan.f_x.Version),.d (Ah 2 Ai p0.f_plan.f_x.Picks),.d (Ah 1 (Ah 1 (D.int .i64)) p0.f_plan.f_x.Rows),.own 26 100 (List.map A0 p0.f_before)],.any] (.tup [.d (Bv R.1),.d (.int .i64 R.2)]))
 | 0=>by
  refine ⟨?_,?_⟩ <;> (intros; rename_i h; cases h)
 | d + 1=>by
  have ih:=Cp d
  exact ⟨Mb d _ (ih).1 _ (ih).2,ML d _ (ih).1 _ (ih).2⟩
theorem HH (d:Nat):∀ (p0:A3) (p1:A2) (R:(AA × Int)) ,AD d p0 p1 = some R→CZ Tryz.prog 20 [.cc none [.d (Ah 2 Ae p0.f_plan.f_s.Lists),.d (Ah 7 Ag p0.f_plan.f_s.Columns),.d (.str p0.f_plan.f_x.Project),.d (.int .i64 p0.f_plan.f_x.Version),.d (Ah 2 Ai p0.f_plan.f_x.Picks),.d (Ah 1 (Ah 1 (D.int .i64)) p0.f_plan.f_x.Rows),.own 26 100 (List.map A0 p0.f_before)],.d (Ad p1)] [.cc none [.d (Ah 2 Ae p0.f_plan.f_s.Lists),.d (Ah 7 Ag p0.f_plan.f_s.Columns),.d (.str p0.f_plan.f_x.Project),.d (.int .i64 p0.f_plan.f_x.Version),.d (Ah 2 Ai p0.f_plan.f_x.Picks),.d (Ah 1 (Ah 1 (D.int .i64)) p0.f_plan.f_x.Rows),.own 26 100 (List.map A0 p0.f_before)],.any] (.tup [.d (Bv R.1),.d (.int .i64 R.2)]):=(Cp d).1
end Go.Proofs.YtjgeigjjfcnojaaGreatDoor.P
