/- P3W5 -/
import Derived.Test.YtjghjdokjgcehaaGreatDoorP3W3
set_option linter.unusedSimpArgs false
namespace Go.Proofs.YtjghjdokjgcehaaGreatDoor.P
open Go.Abs Go.Proofs
set_option maxRecDepth 100000
set_option maxHeartbeats 4000000
set_option linter.unusedVariables false
theorem Q6 (d:Nat) (self_condition_tell:(Aj→(Aj→Option Int)→Option Int)) (ih_condition_tell:∀ (p0:Aj) (p1:(Aj→Option Int)) (f_p1:FuncId) (c_p1:List D) (R:Int) (h_p1:∀ (a0:Aj) r,p1 a0 = some r→Al Tryz.prog f_p1 ([.d (Ad a0)]++c_p1.map .d) (.d (.int .i64 r))),self_condition_tell p0 p1 = some R→Al Tryz.prog 231 [.d (Ad p0),.d (.fn f_p1 c_p1)] (.d (.int .i64 R))) (p0:Aj) (p1:(Aj→Option Int)) (f_p1:FuncId) (c_p1:List D) (R:Int) (h_p1:∀ (a0:Aj) r,p1 a0 = some r→Al Tryz.prog f_p1 ([.d (Ad a0)]++c_p1.map .d) (.d (.int .i64 r))) (h:Ji d self_condition_tell p0 p1 = some R):Al Tryz.prog 231 [.d (Ad p0),.d (.fn f_p1 c_p1)] (.d (.int .i64 R)):=by
 refine Cn Tryz.func231 ?_
 unfold Ji at h
 refine AM h (fun h=>?_) fun h=>?_
 ·exact z16
 refine AM h (fun h=>?_) fun h=>?_
 ·conv=>whnf
  refine z13 ?_
  refine B6 (f:=Ap) h fun x13 _ h=>?_
  rw [Aa x13]
  conv=>whnf
  obtain ⟨x16,hx16,h⟩:=A9 h
  first | refine A1 (ih_condition_tell _ _ _ _ _ h_p1 hx16) ?_ | (simp only [List.length_map]; refine A1 (ih_condition_tell _ _ _ _ _ h_p1 hx16) ?_)
  refine B6 (f:=Ap) h fun x19 _ h=>?_
  rw [Aa x19]
  conv=>whnf
  obtain ⟨x22,hx22,h⟩:=A9 h
  first | refine A1 (ih_condition_tell _ _ _ _ _ h_p1 hx22) ?_ | (simp only [List.length_map]; refine A1 (ih_condition_tell _ _ _ _ _ h_p1 hx22) ?_)
  exact z16
 refine AM h (fun h=>?_) fun h=>?_
 ·conv=>whnf
  refine z13 ?_
  refine B6 (f:=Ap) h fun x28 _ h=>?_
  rw [Aa x28]
  conv=>whnf
  obtain ⟨x31,hx31,h⟩:=A9 h
  first | refine A1 (ih_condition_tell _ _ _ _ _ h_p1 hx31) ?_ | (simp only [List.length_map]; refine A1 (ih_condition_tell _ _ _ _ _ h_p1 hx31) ?_)
  refine B6 (f:=Ap) h fun x34 _ h=>?_
  rw [Aa x34]
  conv=>whnf
  obtain ⟨x37,hx37,h⟩:=A9 h
  first | refine A1 (ih_condition_tell _ _ _ _ _ h_p1 hx37) ?_ | (simp only [List.length_map]; refine A1 (ih_condition_tell _ _ _ _ _ h_p1 hx37) ?_)
  exact z16
 refine AM h (fun h=>?_) fun h=>?_
 ·refine B6 (f:=Ap) h fun x43 _ h=>?_
  rw [Aa x43]
  conv=>whnf
  obtain ⟨x46,hx46,h⟩:=A9 h
  first | refine A1 (ih_condition_tell _ _ _ _ _ h_p1 hx46) ?_ | (simp only [List.length_map]; refine A1 (ih_condition_tell _ _ _ _ _ h_p1 hx46) ?_)
  exact z16
 conv=>whnf
 rw [G3]
 refine AU h (fun _=>h_p1 _ _) fun x50 h=>?_
 exact z16
theorem L1:∀ d:Nat,(∀ (p0:Aj) (p1:(Aj→Option Int)) (f_p1:FuncId) (c_p1:List D) (R:Int) (h_p1:∀ (a0:Aj) r,p1 a0 = some r→Al Tryz.prog f_p1 ([.d (Ad a0)]++c_p1.map .d) (.d (.int .i64 r))),I3 d p0 p1 = some R→Al Tryz.prog 231 [.d (Ad p0),.d (.fn f_p1 c_p1)] (.d (.int .i64 R)))
 | 0=>by
  exact z24
 | d + 1=>by
  have ih:=L1 d
  exact Q6 d _ ih
theorem R3 (d:Nat):∀ (p0:Aj) (p1:(Aj→Option Int)) (f_p1:FuncId) (c_p1:List D) (R:Int) (h_p1:∀ (a0:Aj) r,p1 a0 = some r→Al Tryz.prog f_p1 ([.d (Ad a0)]++c_p1.map .d) (.d (.int .i64 r))),I3 d p0 p1 = some R→Al Tryz.prog 231 [.d (Ad p0),.d (.fn f_p1 c_p1)] (.d (.int .i64 R)):=L1 d
theorem NQ (p0:Aj) (q0:Ae) (q1:(List Int)) (R:Int) (h:HH p0 q0 q1 = some R):Al Tryz.prog 232 [.d (Ad p0),.d (.ptr [(Ah 2 Af q0.Lists),(Ah 7 Ai q0.Columns)]),.d (.ptr [(Ah 1 (D.int .i64) q1)])] (.d (.int .i64 R)):=by
 refine Cn Tryz.func232 ?_
 unfold HH at h
 conv=>whnf
 refine z13 ?_
 refine B6 (f:=(D.int .i64)) h fun x10 _ h=>?_
 refine AU h (fun _=>Ml _ _ _ _) fun x12 h=>?_
 exact z16
theorem Q3 (d:Nat) (p0:Ae) (p1:Aj) (p2:(List Int)) (R:Int) (h:JQ d p0 p1 p2 = some R):Al Tryz.prog 176 [.d (Au p0),.d (Ad p1),.d (Ah 1 (D.int .i64) p2)] (.d (.int .i64 R)):=by
 refine Cn Tryz.func176 ?_
 unfold JQ at h
 refine AU h (fun _=>R3 _ _ _ _ _ _ (fun a0 _ h=>NQ a0 _ _ _ h)) fun x9 h=>?_
 exact z16
theorem Mm (d:Nat) (p0:Ae) (p1:Aj) (p2:(List Aw)) (p3:(List Int)) (R:Int) (h:KI d p0 p1 p2 p3 = some R):Al Tryz.prog 118 [.d (Au p0),.d (Ad p1),.d (Ah 2 Ak p2),.d (Ah 1 (D.int .i64) p3)] (.d (.int .i64 R)):=by
 refine Ek [6] Tryz.func118 (by kernel_rfl) ?_
 unfold KI at h
 conv=>whnf
 obtain ⟨hr,h⟩:=E0 h
 refine z8 ?_
 try rw [cD]
 refine Ga {p:(List Int) // I0 p2 p3 p0 d p1 p = some R} (fun p=>Cd 66 [(2,.d (Ah 2 Ak p2)),(3,.d (Ah 1 (D.int .i64) p3)),(4,.ptr 4 1 0),(5,.ptr 5 1 0),(9,.sl 18 1)] [(4,.var [.d (Ah 2 Af p0.Lists),.d (Ah 7 Ai p0.Columns)],1),(5,.var [.d (.int .i64 p1.Op),.d (.int .i64 p1.Column),.d (.int .i64 p1.Code),.d (.int .i64 p1.Low),.d (.int .i64 p1.High),.d (Ah 6 Ap p1.Kids)],1),(18,.row 1 3 (List.map (D.int .i64) p.1),1)]) ?_ fun p=>?_
 ·refine z5 h (fun p=>Cd 66 [(2,.d (Ah 2 Ak p2)),(3,.d (Ah 1 (D.int .i64) p3)),(4,.ptr 4 1 0),(5,.ptr 5 1 0),(9,.sl 18 1),(10,.d (.int .i64 p.1))] [(4,.var [.d (Ah 2 Af p0.Lists),.d (Ah 7 Ai p0.Columns)],1),(5,.var [.d (.int .i64 p1.Op),.d (.int .i64 p1.Column),.d (.int .i64 p1.Code),.d (.int .i64 p1.Low),.d (.int .i64 p1.High),.d (Ah 6 Ap p1.Kids)],1),(18,.row 1 3 (List.map (D.int .i64) p.2),1)]) A0 fun _ _ ⟨v10_1,b18_1⟩ h=>?_
  simp only [Lx] at h
  refine AM h (fun h=>?_) fun h=>?_
  ·refine AU h (fun _=>LY _ _ _ _ _) fun x30 h=>?_
   refine RX (f:=(D.int .i64)) h Cc fun x33 hx33 h=>?_
   refine Z7 (f:=(D.int .i64)) hx33 Cc ?_
   conv=>whnf
   try rw [bR]
   exact Cw ⟨(_,(_,_)),h⟩ A0
  exact z23
 obtain ⟨k18_1,h⟩:=p
 simp only [I0] at h
 refine z5 h (fun p=>Cd 66 [(3,.d (Ah 1 (D.int .i64) p3)),(4,.ptr 4 1 0),(5,.ptr 5 1 0),(9,.sl 18 1),(34,.d (Ah 2 Ak p2)),(35,.d (.int .i64 ((p2.length:Nat):Int))),(36,.d (.int .i64 p.1))] [(4,.var [.d (Ah 2 Af p0.Lists),.d (Ah 7 Ai p0.Columns)],1),(5,.var [.d (.int .i64 p1.Op),.d (.int .i64 p1.Column),.d (.int .i64 p1.Code),.d (.int .i64 p1.Low),.d (.int .i64 p1.High),.d (Ah 6 Ap p1.Kids)],1),(18,.row 1 3 (List.map (D.int .i64) p.2),1)]) A0 fun _ _ ⟨v36_2,b18_2⟩ h=>?_
 simp only [Lz] at h
 refine AM h (fun h=>?_) fun h=>?_
 ·refine B6 (f:=Ak) h fun x39 _ h=>?_
  conv=>whnf
  refine z13 ?_
  refine B6 (f:=(D.int .i64)) h fun x49 _ h=>?_
  refine AU h (fun _=>LY _ _ _ _ _) fun x51 h=>?_
  refine AM h (fun h=>?_) fun h=>?_
  ·exact z16
  refine RX (f:=(D.int .i64)) h Cc fun x60 hx60 h=>?_
  refine Z7 (f:=(D.int .i64)) hx60 Cc ?_
  conv=>whnf
  try rw [bR]
  exact Cw ⟨(_,(_,_)),h⟩ A0
 refine AU h (fun _=>Q3 _ _ _ _ _) fun x65 h=>?_
 exact z16
theorem Lr (d:Nat) (p0:Ae) (p1:Bn) (p2:Aj) (R:(List Int)) (h:GU d p0 p1 p2 = some R):Al Tryz.prog 64 [.d (Au p0),.d (G8 p1),.d (Ad p2)] (.own 1 3 (List.map (D.int .i64) R)):=by
 refine Ek [3] Tryz.func64 (by kernel_rfl) ?_
 unfold GU at h
 refine Ga {p:Unit // He p1 d p0 p2 = some R} (fun p=>Cd 45 [(3,.ptr 3 1 0),(4,.ptr 4 1 0),(5,.ptr 5 1 0)] [(3,.var [.d (Ah 2 Af p0.Lists),.d (Ah 7 Ai p0.Columns)],1),(4,.var [.d (.str p1.Project),.d (.int .i64 p1.Version),.d (Ah 2 Ak p1.Picks),.d (Ah 1 (Ah 1 (D.int .i64)) p1.Rows)],1),(5,.var [.d (.int .i64 p2.Op),.d (.int .i64 p2.Column),.d (.int .i64 p2.Code),.d (.int .i64 p2.Low),.d (.int .i64 p2.High),.d (Ah 6 Ap p2.Kids)],1)]) ?_ fun p=>?_
 ·conv=>whnf
  refine z13 ?_
  refine AU h (fun _=>Ct _ _ _ _) fun x12 h=>?_
  refine AM h (fun h=>?_) fun h=>?_
  ·obtain rfl:=Option.some.inj h
   refine ⟨.inr ?_⟩
   conv=>whnf
   refine z7 ?_
   conv=>whnf
   exact z15
  refine AU h (fun _=>Iz _ _ _ _) fun x19 h=>?_
  refine AU h (fun _=>KE _ _ _) fun x20 h=>?_
  refine AM h (fun h=>?_) fun h=>?_
  ·conv=>whnf
   obtain rfl:=Option.some.inj h
   refine ⟨.inr ?_⟩
   conv=>whnf
   refine z7 ?_
   conv=>whnf
   exact z15
  exact z50
 obtain ⟨_,h⟩:=p
 simp only [He] at h
 refine z5 h (fun p=>Cd 45 [(3,.ptr 3 1 0),(4,.ptr 4 1 0),(5,.ptr 5 1 0),(7,.sl 7 1),(24,.d (Ah 1 (Ah 1 (D.int .i64)) p1.Rows)),(25,.d (.int .i64 ((p1.Rows.length:Nat):Int))),(26,.d (.int .i64 p.1))] [(3,.var [.d (Ah 2 Af p0.Lists),.d (Ah 7 Ai p0.Columns)],1),(4,.var [.d (.str p1.Project),.d (.int .i64 p1.Version),.d (Ah 2 Ak p1.Picks),.d (Ah 1 (Ah 1 (D.int .i64)) p1.Rows)],1),(5,.var [.d (.int .i64 p2.Op),.d (.int .i64 p2.Column),.d (.int .i64 p2.Code),.d (.int .i64 p2.Low),.d (.int .i64 p2.High),.d (Ah 6 Ap p2.Kids)],1),(7,.row 1 3 (List.map (D.int .i64) p.2),1)]) A0 fun _ _ ⟨v26_1,b7_1⟩ h=>?_
 simp only [Km] at h
 refine AM h (fun h=>?_) fun h=>?_
 ·refine B6 (f:=(Ah 1 (D.int .i64))) h fun x29 _ h=>?_
  conv=>whnf
  refine z13 ?_
  conv=>whnf
  obtain ⟨hr,h⟩:=E0 h
  refine z9 ?_
  try simp only [List.length_map]
  rw [SO]
  conv=>whnf
  obtain ⟨x37,hx37,h⟩:=A9 h
  first | refine A1 (Mm _ _ _ _ _ _ hx37) ?_ | (simp only [List.length_map]; refine A1 (Mm _ _ _ _ _ _ hx37) ?_)
  refine AM h (fun h=>?_) fun h=>?_
  ·conv=>whnf
   obtain ⟨hr,h⟩:=E0 h
   refine z6 ?_
   try rw [SK]
   exact z27
  exact z27
 conv=>whnf
 obtain rfl:=Option.some.inj h
 refine ⟨.inr ?_⟩
 conv=>whnf
 refine z7 ?_
 conv=>whnf
 exact z15
theorem Kh (p0:Bn) (p1:(List Int)) (R:(List Int)) (h:Hv p0 p1 = some R):Al Tryz.prog 65 [.d (G8 p0),.d (Ah 1 (D.int .i64) p1)] (.d (Ah 1 (D.int .i64) R)):=by
 refine Cn Tryz.func65 ?_
 unfold Hv at h
 refine z5 h (fun p=>Cd 26 [(2,.ptr 2 1 0),(5,.sl 5 1),(8,.d (Ah 1 (D.int .i64) p1)),(9,.d (.int .i64 ((p1.length:Nat):Int))),(10,.d (.int .i64 p.1))] [(2,.var [.d (.str p0.Project),.d (.int .i64 p0.Version),.d (Ah 2 Ak p0.Picks),.d (Ah 1 (Ah 1 (D.int .i64)) p0.Rows)],1),(5,.row 1 3 (List.map (D.int .i64) p.2),1)]) As fun _ _ ⟨v10_1,b5_1⟩ h=>?_
 simp only [MG] at h
 refine AM h (fun h=>?_) fun h=>?_
 ·refine B6 (f:=(D.int .i64)) h fun x12 _ h=>?_
  refine B6 (f:=(Ah 1 (D.int .i64))) h fun x18 _ h=>?_
  refine B6 (f:=(D.int .i64)) h fun x20 _ h=>?_
  conv=>whnf
  exact z48
 exact z37
theorem Gy (p0:(List Int)) (p1:(Int→Option Bool)) (f_p1:FuncId) (c_p1:List D) (R:Int) (h_p1:∀ (a0:Int) r,p1 a0 = some r→Al Tryz.prog f_p1 ([.d (.int .i64 a0)]++c_p1.map .d) (.d (.bool r))) (h:Dl p0 p1 = some R):Al Tryz.prog 233 [.d (Ah 1 (D.int .i64) p0),.d (.fn f_p1 c_p1)] (.d (.int .i64 R)):=by
 refine Cn Tryz.func233 ?_
 unfold Dl at h
 refine z5 h (fun p=>Cd 19 [(0,.d (Ah 1 (D.int .i64) p0)),(1,.d (.fn f_p1 c_p1)),(7,.d (.int .i64 ((p0.length:Nat):Int))),(8,.d (.int .i64 p))] []) As fun _ _ v8_1 h=>?_
 simp only [Gg] at h
 refine B0 h fun h=>?_
 refine B6 (f:=(D.int .i64)) h fun x14 _ h=>?_
 exact z32
theorem Jw (p0:(List Int)) (p1:(Int→Option Bool)) (f_p1:FuncId) (c_p1:List D) (R:Bool) (h_p1:∀ (a0:Int) r,p1 a0 = some r→Al Tryz.prog f_p1 ([.d (.int .i64 a0)]++c_p1.map .d) (.d (.bool r))) (h:DN p0 p1 = some R):Al Tryz.prog 179 [.d (Ah 1 (D.int .i64) p0),.d (.fn f_p1 c_p1)] (.d (.bool R)):=by
 refine Cn Tryz.func179 ?_
 unfold DN at h
 refine AU h (fun _=>Gy _ _ _ _ _ h_p1) fun x7 h=>?_
 exact AD h
end Go.Proofs.YtjghjdokjgcehaaGreatDoor.P
