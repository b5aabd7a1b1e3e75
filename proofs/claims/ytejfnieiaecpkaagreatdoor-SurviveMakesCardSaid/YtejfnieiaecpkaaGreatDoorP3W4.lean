/- P3W4 -/
import Derived.Test.YtejfnieiaecpkaaGreatDoorP3W3
import Derived.Test.YtejfnieiaecpkaaGreatDoorP3DW
import Derived.Test.YtejfnieiaecpkaaGreatDoorFB
set_option linter.unusedSimpArgs false
namespace Go.Proofs.YtejfnieiaecpkaaGreatDoor.P
open Go.Abs Go.Proofs
set_option maxRecDepth 100000
set_option maxHeartbeats 4000000
set_option linter.unusedVariables false
theorem N5 (d:Nat) (p0:Aa) (p1:Af) (p2:(List Ae)) (p3:(List Int)) (R:Int) (h:E5 d p0 p1 p2 p3 = some R):Aj Tryz.prog 82 [.d (Ai p0),.d (Ax p1),.d (Al 2 Ag p2),.d (Al 1 (D.int .i64) p3)] (.d (.int .i64 R)):=by
 refine Dt [6] Tryz.func82 (by kernel_rfl) ?_
 unfold E5 at h
 conv=>whnf
 obtain ⟨hr,h⟩:=Eg h
 refine z6 ?_
 try rw [fL]
 refine F0 {p:(List Int) // Fl p2 p3 p0 d p1 p = some R} (fun p=>B8 66 [(2,.d (Al 2 Ag p2)),(3,.d (Al 1 (D.int .i64) p3)),(4,.ptr 4 1 0),(5,.ptr 5 1 0),(9,.sl 18 1)] [(4,.var [.d (Al 2 Ac p0.Lists),.d (Al 7 Ad p0.Columns)],1),(5,.var [.d (.int .i64 p1.Op),.d (.int .i64 p1.Column),.d (.int .i64 p1.Code),.d (.int .i64 p1.Low),.d (.int .i64 p1.High),.d (Al 6 Ao p1.Kids)],1),(18,.row 1 3 (List.map (D.int .i64) p.1),1)]) ?_ fun p=>?_
 ·refine z3 h (fun p=>B8 66 [(2,.d (Al 2 Ag p2)),(3,.d (Al 1 (D.int .i64) p3)),(4,.ptr 4 1 0),(5,.ptr 5 1 0),(9,.sl 18 1),(10,.d (.int .i64 p.1))] [(4,.var [.d (Al 2 Ac p0.Lists),.d (Al 7 Ad p0.Columns)],1),(5,.var [.d (.int .i64 p1.Op),.d (.int .i64 p1.Column),.d (.int .i64 p1.Code),.d (.int .i64 p1.Low),.d (.int .i64 p1.High),.d (Al 6 Ao p1.Kids)],1),(18,.row 1 3 (List.map (D.int .i64) p.2),1)]) Aq fun _ _ ⟨v10_1,b18_1⟩ h=>?_
  simp only [Fi] at h
  refine AW h (fun h=>?_) fun h=>?_
  ·refine A7 h (fun _=>MN _ _ _ _ _) fun x30 h=>?_
   refine UT (f:=(D.int .i64)) h Db fun x33 hx33 h=>?_
   refine eO (f:=(D.int .i64)) hx33 Db ?_
   exact z51
  exact z17
 obtain ⟨k18_1,h⟩:=p
 simp only [Fl] at h
 refine z3 h (fun p=>B8 66 [(3,.d (Al 1 (D.int .i64) p3)),(4,.ptr 4 1 0),(5,.ptr 5 1 0),(9,.sl 18 1),(34,.d (Al 2 Ag p2)),(35,.d (.int .i64 ((p2.length:Nat):Int))),(36,.d (.int .i64 p.1))] [(4,.var [.d (Al 2 Ac p0.Lists),.d (Al 7 Ad p0.Columns)],1),(5,.var [.d (.int .i64 p1.Op),.d (.int .i64 p1.Column),.d (.int .i64 p1.Code),.d (.int .i64 p1.Low),.d (.int .i64 p1.High),.d (Al 6 Ao p1.Kids)],1),(18,.row 1 3 (List.map (D.int .i64) p.2),1)]) Aq fun _ _ ⟨v36_2,b18_2⟩ h=>?_
 simp only [Fc] at h
 refine AW h (fun h=>?_) fun h=>?_
 ·refine AO (f:=Ag) h fun x39 _ h=>?_
  conv=>whnf
  refine z11 ?_
  refine AO (f:=(D.int .i64)) h fun x49 _ h=>?_
  refine A7 h (fun _=>MN _ _ _ _ _) fun x51 h=>?_
  refine A2 h fun h=>?_
  refine UT (f:=(D.int .i64)) h Db fun x60 hx60 h=>?_
  refine eO (f:=(D.int .i64)) hx60 Db ?_
  exact z51
 refine A7 h (fun _=>Sv _ _ _ _ _) fun x65 h=>?_
 exact AM h
theorem L2 (d:Nat) (p0:Aa) (p1:Aw) (p2:Af) (R:(List Int)) (h:D7 d p0 p1 p2 = some R):Aj Tryz.prog 39 [.d (Ai p0),.d (Ci p1),.d (Ax p2)] (.own 1 3 (List.map (D.int .i64) R)):=by
 refine Dt [3] Tryz.func39 (by kernel_rfl) ?_
 unfold D7 at h
 refine F0 {p:Unit // F5 p1 d p0 p2 = some R} (fun p=>B8 45 [(3,.ptr 3 1 0),(4,.ptr 4 1 0),(5,.ptr 5 1 0)] [(3,.var [.d (Al 2 Ac p0.Lists),.d (Al 7 Ad p0.Columns)],1),(4,.var [.d (.str p1.Project),.d (.int .i64 p1.Version),.d (Al 2 Ag p1.Picks),.d (Al 1 (Al 1 (D.int .i64)) p1.Rows)],1),(5,.var [.d (.int .i64 p2.Op),.d (.int .i64 p2.Column),.d (.int .i64 p2.Code),.d (.int .i64 p2.Low),.d (.int .i64 p2.High),.d (Al 6 Ao p2.Kids)],1)]) ?_ fun p=>?_
 ·conv=>whnf
  refine z11 ?_
  refine A7 h (fun _=>Fe _ _ _ _) fun x12 h=>?_
  refine AW h (fun h=>?_) fun h=>?_
  ·obtain rfl:=Option.some.inj h
   refine ⟨.inr ?_⟩
   conv=>whnf
   refine z5 ?_
   conv=>whnf
   exact ⟨PZ⟩
  refine A7 h (fun _=>J1 _ _ _ _) fun x19 h=>?_
  refine A7 h (fun _=>Mf _ _ _) fun x20 h=>?_
  refine AW h (fun h=>?_) fun h=>?_
  ·conv=>whnf
   obtain rfl:=Option.some.inj h
   refine ⟨.inr ?_⟩
   conv=>whnf
   refine z5 ?_
   conv=>whnf
   exact ⟨PZ⟩
  conv=>whnf
  exact ⟨⟨(),h⟩,Aq⟩
 obtain ⟨_,h⟩:=p
 simp only [F5] at h
 refine z3 h (fun p=>B8 45 [(3,.ptr 3 1 0),(4,.ptr 4 1 0),(5,.ptr 5 1 0),(7,.sl 7 1),(24,.d (Al 1 (Al 1 (D.int .i64)) p1.Rows)),(25,.d (.int .i64 ((p1.Rows.length:Nat):Int))),(26,.d (.int .i64 p.1))] [(3,.var [.d (Al 2 Ac p0.Lists),.d (Al 7 Ad p0.Columns)],1),(4,.var [.d (.str p1.Project),.d (.int .i64 p1.Version),.d (Al 2 Ag p1.Picks),.d (Al 1 (Al 1 (D.int .i64)) p1.Rows)],1),(5,.var [.d (.int .i64 p2.Op),.d (.int .i64 p2.Column),.d (.int .i64 p2.Code),.d (.int .i64 p2.Low),.d (.int .i64 p2.High),.d (Al 6 Ao p2.Kids)],1),(7,.row 1 3 (List.map (D.int .i64) p.2),1)]) Aq fun _ _ ⟨v26_1,b7_1⟩ h=>?_
 simp only [F4] at h
 refine AW h (fun h=>?_) fun h=>?_
 ·refine AO (f:=(Al 1 (D.int .i64))) h fun x29 _ h=>?_
  conv=>whnf
  refine z11 ?_
  conv=>whnf
  obtain ⟨hr,h⟩:=Eg h
  refine z7 ?_
  try simp only [List.length_map]
  rw [Wd]
  conv=>whnf
  obtain ⟨x37,hx37,h⟩:=AB h
  first | refine Au (N5 _ _ _ _ _ _ hx37) ?_ | (simp only [List.length_map]; refine Au (N5 _ _ _ _ _ _ hx37) ?_)
  refine AW h (fun h=>?_) fun h=>?_
  ·conv=>whnf
   exact z43
  exact z19
 conv=>whnf
 obtain rfl:=Option.some.inj h
 refine ⟨.inr ?_⟩
 conv=>whnf
 refine z5 ?_
 conv=>whnf
 exact ⟨PZ⟩
theorem QQ (p0:Ae) (q0:Int) (R:Bool) (h:Hw p0 q0 = some R):Aj Tryz.prog 84 [.d (Ag p0),.d (.ptr [(.int .i64 q0)])] (.d (.bool R)):=by
 refine Ch Tryz.func84 ?_
 unfold Hw at h
 exact A3 h
theorem Rs (p0:Am) (p1:Int) (p2:Int) (p3:Int) (R:(Int × Bool)) (h:KJ p0 p1 p2 p3 = some R):Aj Tryz.prog 148 [.d (Ac p0),.d (.int .i64 p1),.d (.int .i64 p2),.d (.int .i64 p3)] (.tup [.d (.int .i64 R.1),.d (.bool R.2)]):=by
 refine Ch Tryz.func148 ?_
 unfold KJ at h
 conv=>whnf
 refine z11 ?_
 refine A7 h (fun _=>Jk _ _) fun x17 h=>?_
 refine A7 h (fun _=>Od _ _ _) fun x19 h=>?_
 refine z3 h (fun p=>B8 45 [(1,.d (.int .i64 p1)),(2,.d (.int .i64 p2)),(3,.d (.int .i64 p3)),(4,.ptr 4 1 0),(10,.d (.int .i64 p.1)),(11,.d (.bool p.2.1)),(19,.d (Al 1 (D.int .i64) x19)),(20,.d (.int .i64 ((x19.length:Nat):Int))),(21,.d (.int .i64 p.2.2))] [(4,.var [.d (.str p0.Name),.d (Al 2 Br p0.Codes)],1)]) Ah fun _ _ ⟨v10_1,v11_1,v21_1⟩ h=>?_
 simp only [LL] at h
 refine Bj h fun h=>?_
 refine AO (f:=(D.int .i64)) h fun x23 _ h=>?_
 refine A7 h (fun _=>L4 _ _ _ _) fun x28 h=>?_
 refine AW h (fun h=>?_) fun h=>?_
 ·exact z18
 refine A7 h (fun _=>L4 _ _ _ _) fun x34 h=>?_
 refine An h fun h=>?_
 exact z18
theorem Pd (p0:Av) (p1:Int) (p2:Int) (p3:Int) (R:(Int × Bool)) (h:Cu p0 p1 p2 p3 = some R):Aj Tryz.prog 149 [.d (Ad p0),.d (.int .i64 p1),.d (.int .i64 p2),.d (.int .i64 p3)] (.tup [.d (.int .i64 R.1),.d (.bool R.2)]):=by
 refine Ch Tryz.func149 ?_
 unfold Cu at h
 refine AW h (fun h=>?_) fun h=>?_
 ·refine AW h (fun h=>?_) fun h=>?_
  ·exact z44
  exact z44
 refine A7 h (fun _=>Qv _ _ _ _) fun x31 h=>?_
 refine An h fun h=>?_
 refine An h fun h=>?_
 refine An h fun h=>?_
 refine A7 h (fun _=>LC _ _ _) fun x50 h=>?_
 refine A7 h (fun _=>GN _ _ _) fun x53 h=>?_
 refine A7 h (fun _=>GN _ _ _) fun x56 h=>?_
 refine A7 h (fun _=>GN _ _ _) fun x59 h=>?_
 exact A3 h
theorem Ot (p0:Aa) (p1:Int) (p2:Int) (p3:Int) (p4:Int) (R:(Int × Bool)) (h:Fz p0 p1 p2 p3 p4 = some R):Aj Tryz.prog 85 [.d (Ai p0),.d (.int .i64 p1),.d (.int .i64 p2),.d (.int .i64 p3),.d (.int .i64 p4)] (.tup [.d (.int .i64 R.1),.d (.bool R.2)]):=by
 refine Ch Tryz.func85 ?_
 unfold Fz at h
 refine A7 h (fun _=>KI _ _ _) fun x18 h=>?_
 refine An h fun h=>?_
 refine AO (f:=Ad) h fun x38 _ h=>?_
 refine AW h (fun h=>?_) fun h=>?_
 ·refine AO (f:=Ac) h fun x48 _ h=>?_
  refine A7 h (fun _=>Rs _ _ _ _ _) fun x53 h=>?_
  exact EC h
 refine A7 h (fun _=>Pd _ _ _ _ _) fun x61 h=>?_
 exact EC h
theorem Ol (p0:Aa) (p1:Aw) (p2:Int) (p3:Int) (p4:Int) (R:(Int × Bool)) (h:DJ p0 p1 p2 p3 p4 = some R):Aj Tryz.prog 40 [.d (Ai p0),.d (Ci p1),.d (.int .i64 p2),.d (.int .i64 p3),.d (.int .i64 p4)] (.tup [.d (.int .i64 R.1),.d (.bool R.2)]):=by
 refine Ch Tryz.func40 ?_
 unfold DJ at h
 refine A7 h (fun _=>Ea _ _ _ _ _ (fun a0 _ h=>QQ a0 _ _ h)) fun x16 h=>?_
 refine AW h (fun h=>?_) fun h=>?_
 ·refine A7 h (fun _=>Ot _ _ _ _ _ _) fun x22 h=>?_
  exact A3 h
 conv=>whnf
 refine z11 ?_
 refine AO (f:=Ag) h fun x30 _ h=>?_
 refine AO (f:=(Al 1 (D.int .i64))) h fun x36 _ h=>?_
 refine AO (f:=(D.int .i64)) h fun x40 _ h=>?_
 refine A7 h (fun _=>Ot _ _ _ _ _ _) fun x43 h=>?_
 exact A3 h
theorem Ui (p0:Aw) (p1:(List Int)) (R:(List Int)) (h:HR p0 p1 = some R):Aj Tryz.prog 43 [.d (Ci p0),.d (Al 1 (D.int .i64) p1)] (.d (Al 1 (D.int .i64) R)):=by
 refine Ch Tryz.func43 ?_
 unfold HR at h
 refine z3 h (fun p=>B8 26 [(2,.ptr 2 1 0),(5,.sl 5 1),(8,.d (Al 1 (D.int .i64) p1)),(9,.d (.int .i64 ((p1.length:Nat):Int))),(10,.d (.int .i64 p.1))] [(2,.var [.d (.str p0.Project),.d (.int .i64 p0.Version),.d (Al 2 Ag p0.Picks),.d (Al 1 (Al 1 (D.int .i64)) p0.Rows)],1),(5,.row 1 3 (List.map (D.int .i64) p.2),1)]) Ah fun _ _ ⟨v10_1,b5_1⟩ h=>?_
 simp only [Hx] at h
 refine AW h (fun h=>?_) fun h=>?_
 ·refine AO (f:=(D.int .i64)) h fun x12 _ h=>?_
  refine AO (f:=(Al 1 (D.int .i64))) h fun x18 _ h=>?_
  refine AO (f:=(D.int .i64)) h fun x20 _ h=>?_
  conv=>whnf
  exact z26
 exact z31
theorem N0 (p0:Int) (q0:Aa) (q1:Aw) (q2:Int) (R:Bool) (h:D1 p0 q0 q1 q2 = some R):Aj Tryz.prog 110 [.d (.int .i64 p0),.d (.ptr [(Al 2 Ac q0.Lists),(Al 7 Ad q0.Columns)]),.d (.ptr [(.str q1.Project),(.int .i64 q1.Version),(Al 2 Ag q1.Picks),(Al 1 (Al 1 (D.int .i64)) q1.Rows)]),.d (.ptr [(.int .i64 q2)])] (.d (.bool R)):=by
 refine Ch Tryz.func110 ?_
 unfold D1 at h
 conv=>whnf
 refine z11 ?_
 refine A7 h (fun _=>Iu _ _ _) fun x15 h=>?_
 refine A7 h (fun _=>Ol _ _ _ _ _ _) fun x16 h=>?_
 exact A3 h
theorem OL (p0:Int) (q0:(List Int)) (q1:Aa) (q2:Aw) (R:Bool) (h:Gj p0 q0 q1 q2 = some R):Aj Tryz.prog 109 [.d (.int .i64 p0),.d (.ptr [(Al 1 (D.int .i64) q0)]),.d (.ptr [(Al 2 Ac q1.Lists),(Al 7 Ad q1.Columns)]),.d (.ptr [(.str q2.Project),(.int .i64 q2.Version),(Al 2 Ag q2.Picks),(Al 1 (Al 1 (D.int .i64)) q2.Rows)])] (.d (.bool R)):=by
 refine Ch Tryz.func109 ?_
 unfold Gj at h
 refine A7 h (fun _=>JQ _ _ _ _ _ (fun a0 _ h=>N0 a0 _ _ _ _ h)) fun x8 h=>?_
 exact A3 h
theorem Rt (d:Nat) (p0:Aa) (p1:Aw) (p2:Af) (p3:(List Int)) (R:(List Int)) (h:ER d p0 p1 p2 p3 = some R):Aj Tryz.prog 56 [.d (Ai p0),.d (Ci p1),.d (Ax p2),.d (Al 1 (D.int .i64) p3)] (.d (Al 1 (D.int .i64) R)):=by
 refine Ch Tryz.func56 ?_
 unfold ER at h
 refine A7 h (fun _=>Om _ _ _) fun x11 h=>?_
 refine AW h (fun h=>?_) fun h=>?_
 ·exact z46
 refine A7 h (fun _=>L2 _ _ _ _ _) fun x16 h=>?_
 refine KP h (fun _=>KS _ _ _ _ _ (fun a0 _ h=>OL a0 _ _ _ _ h)) fun x18 h=>?_
 exact z46
theorem Sm (p0:Aa) (p1:Aw) (p2:(List Int)) (p3:Int) (R:(List Int)) (h:GF p0 p1 p2 p3 = some R):Aj Tryz.prog 57 [.d (Ai p0),.d (Ci p1),.d (Al 1 (D.int .i64) p2),.d (.int .i64 p3)] (.d (Al 1 (D.int .i64) R)):=by
 refine Ch Tryz.func57 ?_
 unfold GF at h
 refine z3 h (fun p=>B8 37 [(3,.d (.int .i64 p3)),(4,.ptr 4 1 0),(5,.ptr 5 1 0),(9,.sl 9 1),(14,.d (Al 1 (D.int .i64) p2)),(15,.d (.int .i64 ((p2.length:Nat):Int))),(16,.d (.int .i64 p.1))] [(4,.var [.d (Al 2 Ac p0.Lists),.d (Al 7 Ad p0.Columns)],1),(5,.var [.d (.str p1.Project),.d (.int .i64 p1.Version),.d (Al 2 Ag p1.Picks),.d (Al 1 (Al 1 (D.int .i64)) p1.Rows)],1),(9,.row 1 3 (List.map (D.int .i64) p.2),1)]) Ah fun _ _ ⟨v16_1,b9_1⟩ h=>?_
 simp only [Gt] at h
 refine AW h (fun h=>?_) fun h=>?_
 ·refine AO (f:=(D.int .i64)) h fun x18 _ h=>?_
  conv=>whnf
  refine z11 ?_
  refine A7 h (fun _=>Iu _ _ _) fun x27 h=>?_
  refine A7 h (fun _=>Ol _ _ _ _ _ _) fun x28 h=>?_
  conv=>whnf
  exact z26
 exact z31
theorem LS (d:Nat) (p0:Aa) (p1:Aw) (p2:Int) (p3:Af) (p4:Af) (R:((List Be) × (List Int) × Int)) (h:C4 d p0 p1 p2 p3 p4 = some R):Aj Tryz.prog 23 [.d (Ai p0),.d (Ci p1),.d (.int .i64 p2),.d (Ax p3),.d (Ax p4)] (.tup [.d (Al 6 CR R.1),.d (Al 1 (D.int .i64) R.2.1),.d (.int .i64 R.2.2)]):=by
 refine Ch Tryz.func23 ?_
 unfold C4 at h
 refine A7 h (fun _=>Om _ _ _) fun x24 h=>?_
 refine AW h (fun h=>?_) fun h=>?_
 ·exact z34
 refine A7 h (fun _=>Oi _ _ _ _) fun x35 h=>?_
 refine AW h (fun h=>?_) fun h=>?_
 ·exact z34
 conv=>whnf
 refine z11 ?_
 refine A7 h (fun _=>Ww _ _ _ _) fun x42 h=>?_
 refine A7 h (fun _=>Mf _ _ _) fun x43 h=>?_
 refine AW h (fun h=>?_) fun h=>?_
 ·exact z34
 refine A7 h (fun _=>Rt _ _ _ _ _ _) fun x50 h=>?_
 refine A7 h (fun _=>L2 _ _ _ _ _) fun x54 h=>?_
 conv=>whnf
 obtain ⟨hr,h⟩:=Eg h
 refine z6 ?_
 try rw [fL]
 refine z3 h (fun p=>B8 89 [(2,.d (.int .i64 p2)),(5,.ptr 5 1 0),(6,.ptr 6 1 0),(15,.d (Al 1 (D.int .i64) x50)),(16,.d (Al 1 (D.int .i64) x54)),(17,.sl 57 1),(58,.d (Al 1 (D.int .i64) x50)),(59,.d (.int .i64 ((x50.length:Nat):Int))),(60,.d (.int .i64 p.1))] [(5,.var [.d (Al 2 Ac p0.Lists),.d (Al 7 Ad p0.Columns)],1),(6,.var [.d (.str p1.Project),.d (.int .i64 p1.Version),.d (Al 2 Ag p1.Picks),.d (Al 1 (Al 1 (D.int .i64)) p1.Rows)],1),(57,.row 1 4 (List.map D.bool p.2),1)]) Aq fun _ _ ⟨v60_1,b57_1⟩ h=>?_
 simp only [Ee] at h
 refine AW h (fun h=>?_) fun h=>?_
 ·refine AO (f:=(D.int .i64)) h fun x63 _ h=>?_
  refine A7 h (fun _=>E7 _ _ _) fun x69 h=>?_
  refine UT (f:=D.bool) h Db fun x70 hx70 h=>?_
  refine eO (f:=D.bool) hx70 Db ?_
  exact z51
 conv=>whnf
 try simp only [EO] at h
 refine A7 h (fun _=>Sm _ _ _ _ _) fun x77 h=>?_
 refine A7 h (fun _=>Ug _ _ _) fun x79 h=>?_
 refine AW h (fun h=>?_) fun h=>?_
 ·exact z34
 refine A7 h (fun _=>Ui _ _ _) fun x88 h=>?_
 exact AM h
end Go.Proofs.YtejfnieiaecpkaaGreatDoor.P
