/- P3W10 -/
import Derived.Test.YtjghjdokjgcehaaGreatDoorP3W9
set_option linter.unusedSimpArgs false
namespace Go.Proofs.YtjghjdokjgcehaaGreatDoor.P
open Go.Abs Go.Proofs
set_option maxRecDepth 100000
set_option maxHeartbeats 4000000
set_option linter.unusedVariables false
theorem XC (d:Nat) (p0:Av) (R:Bool) (h:GQ d p0 = some R):Al Tryz.prog 100 [.d (Ac p0)] (.d (.bool R)):=by
 refine Ek [27] Tryz.func100 (by kernel_rfl) ?_
 unfold GQ at h
 refine Ga {p:(Bool × Bool × Int × ByteArray × Int × (List Int) × (List Aw)) // Bz p0 d p.1 p.2.1 p.2.2.1 p.2.2.2.1 p.2.2.2.2.1 p.2.2.2.2.2.1 p.2.2.2.2.2.2 = some R} (fun p=>Cd 117 [(1,.ptr 1 1 0),(3,.ptr 3 1 0),(4,.d (.bool p.1.1)),(5,.d (.bool p.1.2.1))] [(1,.var [.d (.int .i64 p0.Op),.d (.int .i64 p0.Num),.d (.str p0.Name),.d (.int .i64 p0.Column),.d (Ah 1 (D.int .i64) p0.Columns),.d (Ah 2 Ak p0.Dims),.d (.int .i64 p0.Cond.Op),.d (.int .i64 p0.Cond.Column),.d (.int .i64 p0.Cond.Code),.d (.int .i64 p0.Cond.Low),.d (.int .i64 p0.Cond.High),.d (Ah 6 Ap p0.Cond.Kids),.d (.int .i64 p0.Event.Op),.d (.int .i64 p0.Event.Column),.d (.int .i64 p0.Event.Code),.d (.int .i64 p0.Event.Low),.d (.int .i64 p0.Event.High),.d (Ah 6 Ap p0.Event.Kids),.d (Ah 19 AP p0.Kids)],1),(3,.var [.d (.int .i64 p0.Op),.d (.int .i64 p.1.2.2.1),.d (.str p.1.2.2.2.1),.d (.int .i64 p.1.2.2.2.2.1),.d (Ah 1 (D.int .i64) p.1.2.2.2.2.2.1),.d (Ah 2 Ak p.1.2.2.2.2.2.2),.d (.int .i64 0),.d (.int .i64 0),.d (.int .i64 0),.d (.int .i64 0),.d (.int .i64 0),.d (.nil 6),.d (.int .i64 0),.d (.int .i64 0),.d (.int .i64 0),.d (.int .i64 0),.d (.int .i64 0),.d (.nil 6),.d (.nil 19)],1)]) ?_ fun p=>?_
 ·refine AM h (fun h=>?_) fun h=>?_
  ·exact z28
  refine AM h (fun h=>?_) fun h=>?_
  ·exact z28
  refine AM h (fun h=>?_) fun h=>?_
  ·exact z28
  conv=>whnf
  refine K1 h Cc (fun e23 h=>?_) (fun e23 h=>?_)
  ·conv=>whnf
   refine Lt Cc e23 ?_
   exact z28
  conv=>whnf
  refine K1 h Cc (fun e24 h=>?_) (fun e24 h=>?_)
  ·conv=>whnf
   refine Lt Cc e24 ?_
   exact z28
  refine AM h (fun h=>?_) fun h=>?_
  ·exact z28
  conv=>whnf
  refine K1 h Cc (fun e26 h=>?_) (fun e26 h=>?_)
  ·conv=>whnf
   refine Lt Cc e26 ?_
   exact z28
  conv=>whnf
  refine K1 h Cc (fun e27 h=>?_) (fun e27 h=>?_)
  ·conv=>whnf
   refine Lt Cc e27 ?_
   exact z28
  conv=>whnf
  refine K1 h Cc (fun e28 h=>?_) (fun e28 h=>?_)
  ·conv=>whnf
   refine Lt Cc e28 ?_
   exact z28
  refine AM h (fun h=>?_) fun h=>?_
  ·exact z28
  refine AM h (fun h=>?_) fun h=>?_
  ·conv=>whnf
   refine z13 ?_
   exact z28
  refine AM h (fun h=>?_) fun h=>?_
  ·conv=>whnf
   refine z13 ?_
   exact z28
  refine AM h (fun h=>?_) fun h=>?_
  ·exact z28
  refine AM h (fun h=>?_) fun h=>?_
  ·conv=>whnf
   refine z13 ?_
   exact z28
  exact z16
 obtain ⟨⟨j4_1,j5_1,k3_1_1,k3_2_1,k3_3_1,k3_4_1,k3_5_1⟩,h⟩:=p
 simp only [Bz] at h
 refine AM h (fun h=>?_) fun h=>?_
 ·refine AM h (fun h=>?_) fun h=>?_
  ·refine AM h (fun h=>?_) fun h=>?_
   ·exact z20
   obtain ⟨x114,hx114,h⟩:=A9 h
   refine A1 (Nl _ _ _ hx114) ?_
   exact z16
  refine AU h (fun _=>Nl _ _ _) fun x106 h=>?_
  refine AM h (fun h=>?_) fun h=>?_
  ·refine AM h (fun h=>?_) fun h=>?_
   ·exact z20
   obtain ⟨x114,hx114,h⟩:=A9 h
   refine A1 (Nl _ _ _ hx114) ?_
   exact z16
  exact z20
 exact z20
theorem Up (d:Nat) (self_ref16_Right:(Ae→Av→Option Bool)) (ih_ref16_Right:∀ (p0:Ae) (p1:Av) (R:Bool) ,self_ref16_Right p0 p1 = some R→Al Tryz.prog 57 [.d (Au p0),.d (Ac p1)] (.d (.bool R))) (p0:Ae) (p1:Av) (R:Bool) (h:Dw d self_ref16_Right p0 p1 = some R):Al Tryz.prog 57 [.d (Au p0),.d (Ac p1)] (.d (.bool R)):=by
 refine Ek [3,6,13,38] Tryz.func57 (by kernel_rfl) ?_
 unfold Dw at h
 refine Ga {p:Unit // Fw p1 self_ref16_Right p0 d = some R} (fun p=>Cd 152 [(2,.ptr 2 1 0),(3,.ptr 3 1 0)] [(2,.var [.d (Ah 2 Af p0.Lists),.d (Ah 7 Ai p0.Columns)],1),(3,.var [.d (.int .i64 p1.Op),.d (.int .i64 p1.Num),.d (.str p1.Name),.d (.int .i64 p1.Column),.d (Ah 1 (D.int .i64) p1.Columns),.d (Ah 2 Ak p1.Dims),.d (.int .i64 p1.Cond.Op),.d (.int .i64 p1.Cond.Column),.d (.int .i64 p1.Cond.Code),.d (.int .i64 p1.Cond.Low),.d (.int .i64 p1.Cond.High),.d (Ah 6 Ap p1.Cond.Kids),.d (.int .i64 p1.Event.Op),.d (.int .i64 p1.Event.Column),.d (.int .i64 p1.Event.Code),.d (.int .i64 p1.Event.Low),.d (.int .i64 p1.Event.High),.d (Ah 6 Ap p1.Event.Kids),.d (Ah 19 AP p1.Kids)],1)]) ?_ fun p=>?_
 ·refine AU h (fun _=>EV _ _) fun x9 h=>?_
  refine AM h (fun h=>?_) fun h=>?_
  ·exact z20
  refine AU h (fun _=>XC _ _ _) fun x13 h=>?_
  refine AM h (fun h=>?_) fun h=>?_
  ·exact z16
  exact z50
 obtain ⟨_,h⟩:=p
 simp only [Fw] at h
 refine Ga {p:Int // Ep p1 self_ref16_Right p0 d p = some R} (fun p=>Cd 152 [(2,.ptr 2 1 0),(3,.ptr 3 1 0),(5,.d (.int .i64 p.1))] [(2,.var [.d (Ah 2 Af p0.Lists),.d (Ah 7 Ai p0.Columns)],1),(3,.var [.d (.int .i64 p1.Op),.d (.int .i64 p1.Num),.d (.str p1.Name),.d (.int .i64 p1.Column),.d (Ah 1 (D.int .i64) p1.Columns),.d (Ah 2 Ak p1.Dims),.d (.int .i64 p1.Cond.Op),.d (.int .i64 p1.Cond.Column),.d (.int .i64 p1.Cond.Code),.d (.int .i64 p1.Cond.Low),.d (.int .i64 p1.Cond.High),.d (Ah 6 Ap p1.Cond.Kids),.d (.int .i64 p1.Event.Op),.d (.int .i64 p1.Event.Column),.d (.int .i64 p1.Event.Code),.d (.int .i64 p1.Event.Low),.d (.int .i64 p1.Event.High),.d (Ah 6 Ap p1.Event.Kids),.d (Ah 19 AP p1.Kids)],1)]) ?_ fun p=>?_
 ·refine AM h (fun h=>?_) fun h=>?_
  ·exact z23
  exact z23
 obtain ⟨j5_2,h⟩:=p
 simp only [Ep] at h
 refine AM h (fun h=>?_) fun h=>?_
 ·exact z16
 refine Ga {p:Unit // Fx p0 p1 j5_2 d = some R} (fun p=>Cd 152 [(2,.ptr 2 1 0),(3,.ptr 3 1 0),(5,.d (.int .i64 j5_2))] [(2,.var [.d (Ah 2 Af p0.Lists),.d (Ah 7 Ai p0.Columns)],1),(3,.var [.d (.int .i64 p1.Op),.d (.int .i64 p1.Num),.d (.str p1.Name),.d (.int .i64 p1.Column),.d (Ah 1 (D.int .i64) p1.Columns),.d (Ah 2 Ak p1.Dims),.d (.int .i64 p1.Cond.Op),.d (.int .i64 p1.Cond.Column),.d (.int .i64 p1.Cond.Code),.d (.int .i64 p1.Cond.Low),.d (.int .i64 p1.Cond.High),.d (Ah 6 Ap p1.Cond.Kids),.d (.int .i64 p1.Event.Op),.d (.int .i64 p1.Event.Column),.d (.int .i64 p1.Event.Code),.d (.int .i64 p1.Event.Low),.d (.int .i64 p1.Event.High),.d (Ah 6 Ap p1.Event.Kids),.d (Ah 19 AP p1.Kids)],1)]) ?_ fun p=>?_
 ·refine z5 h (fun p=>Cd 152 [(2,.ptr 2 1 0),(3,.ptr 3 1 0),(5,.d (.int .i64 j5_2)),(6,.d (.int .i64 p))] [(2,.var [.d (Ah 2 Af p0.Lists),.d (Ah 7 Ai p0.Columns)],1),(3,.var [.d (.int .i64 p1.Op),.d (.int .i64 p1.Num),.d (.str p1.Name),.d (.int .i64 p1.Column),.d (Ah 1 (D.int .i64) p1.Columns),.d (Ah 2 Ak p1.Dims),.d (.int .i64 p1.Cond.Op),.d (.int .i64 p1.Cond.Column),.d (.int .i64 p1.Cond.Code),.d (.int .i64 p1.Cond.Low),.d (.int .i64 p1.Cond.High),.d (Ah 6 Ap p1.Cond.Kids),.d (.int .i64 p1.Event.Op),.d (.int .i64 p1.Event.Column),.d (.int .i64 p1.Event.Code),.d (.int .i64 p1.Event.Low),.d (.int .i64 p1.Event.High),.d (Ah 6 Ap p1.Event.Kids),.d (Ah 19 AP p1.Kids)],1)]) A0 fun _ _ v6_1 h=>?_
  simp only [GD] at h
  refine AM h (fun h=>?_) fun h=>?_
  ·conv=>whnf
   refine z13 ?_
   refine B6 (f:=AP) h fun x39 _ h=>?_
   rw [Ab x39]
   refine AM h (fun h=>?_) fun h=>?_
   ·exact z20
   refine B6 (f:=AP) h fun x48 _ h=>?_
   rw [Ab x48]
   conv=>whnf
   obtain ⟨x50,hx50,h⟩:=A9 h
   first | refine A1 (ih_ref16_Right _ _ _ hx50) ?_ | (simp only [List.length_map]; refine A1 (ih_ref16_Right _ _ _ hx50) ?_)
   refine AM h (fun h=>?_) fun h=>?_
   ·exact z16
   exact z43
  exact z50
 obtain ⟨_,h⟩:=p
 simp only [Fx] at h
 refine AU h (fun _=>Nk _ _ _ _) fun x56 h=>?_
 refine Ga {p:Bool // B4 j5_2 d p0 p1 p = some R} (fun p=>Cd 152 [(2,.ptr 2 1 0),(3,.ptr 3 1 0),(5,.d (.int .i64 j5_2)),(7,.d (.bool p.1))] [(2,.var [.d (Ah 2 Af p0.Lists),.d (Ah 7 Ai p0.Columns)],1),(3,.var [.d (.int .i64 p1.Op),.d (.int .i64 p1.Num),.d (.str p1.Name),.d (.int .i64 p1.Column),.d (Ah 1 (D.int .i64) p1.Columns),.d (Ah 2 Ak p1.Dims),.d (.int .i64 p1.Cond.Op),.d (.int .i64 p1.Cond.Column),.d (.int .i64 p1.Cond.Code),.d (.int .i64 p1.Cond.Low),.d (.int .i64 p1.Cond.High),.d (Ah 6 Ap p1.Cond.Kids),.d (.int .i64 p1.Event.Op),.d (.int .i64 p1.Event.Column),.d (.int .i64 p1.Event.Code),.d (.int .i64 p1.Event.Low),.d (.int .i64 p1.Event.High),.d (Ah 6 Ap p1.Event.Kids),.d (Ah 19 AP p1.Kids)],1)]) ?_ fun p=>?_
 ·refine AM h (fun h=>?_) fun h=>?_
  ·exact z16
  refine AM h (fun h=>?_) fun h=>?_
  ·refine AU h (fun _=>EP _ _) fun x73 h=>?_
   exact z16
  conv=>whnf
  refine K1 h Cc (fun e36 h=>?_) (fun e36 h=>?_)
  ·conv=>whnf
   refine Lt Cc e36 ?_
   exact z23
  conv=>whnf
  refine K1 h Cc (fun e37 h=>?_) (fun e37 h=>?_)
  ·conv=>whnf
   refine Lt Cc e37 ?_
   exact z23
  conv=>whnf
  refine K1 h Cc (fun e38 h=>?_) (fun e38 h=>?_)
  ·conv=>whnf
   refine Lt Cc e38 ?_
   exact z23
  conv=>whnf
  refine K1 h Cc (fun e39 h=>?_) (fun e39 h=>?_)
  ·conv=>whnf
   refine Lt Cc e39 ?_
   exact z23
  refine AM h (fun h=>?_) fun h=>?_
  ·exact z23
  refine AM h (fun h=>?_) fun h=>?_
  ·refine AU h (fun _=>Ri _ _ _) fun x85 h=>?_
   refine AM h (fun h=>?_) fun h=>?_
   ·exact z16
   exact z23
  refine AM h (fun h=>?_) fun h=>?_
  ·refine AU h (fun _=>PC _ _ _ _) fun x100 h=>?_
   refine AM h (fun h=>?_) fun h=>?_
   ·exact z16
   exact z23
  refine AM h (fun h=>?_) fun h=>?_
  ·refine AM h (fun h=>?_) fun h=>?_
   ·exact z20
   refine B6 (f:=Ai) h fun x111 _ h=>?_
   refine AM h (fun h=>?_) fun h=>?_
   ·exact z20
   refine AU h (fun _=>Hq _ _ _ _) fun x120 h=>?_
   refine AM h (fun h=>?_) fun h=>?_
   ·exact z16
   exact z23
  refine AM h (fun h=>?_) fun h=>?_
  ·conv=>whnf
   refine z13 ?_
   refine AM h (fun h=>?_) fun h=>?_
   ·exact z20
   refine B6 (f:=Ai) h fun x132 _ h=>?_
   refine AU h (fun _=>SE _ _ _) fun x137 h=>?_
   refine AM h (fun h=>?_) fun h=>?_
   ·exact z16
   exact z23
  exact z23
 obtain ⟨j7_4,h⟩:=p
 simp only [B4] at h
 refine AM h (fun h=>?_) fun h=>?_
 ·refine AM h (fun h=>?_) fun h=>?_
  ·exact z20
  refine AU h (fun _=>Hq _ _ _ _) fun x148 h=>?_
  exact z16
 exact z20
theorem Oz:∀ d:Nat,(∀ (p0:Ae) (p1:Av) (R:Bool) ,D7 d p0 p1 = some R→Al Tryz.prog 57 [.d (Au p0),.d (Ac p1)] (.d (.bool R)))
 | 0=>by
  exact z24
 | d + 1=>by
  have ih:=Oz d
  exact Up d _ ih
theorem UT (d:Nat):∀ (p0:Ae) (p1:Av) (R:Bool) ,D7 d p0 p1 = some R→Al Tryz.prog 57 [.d (Au p0),.d (Ac p1)] (.d (.bool R)):=Oz d
theorem Uo (d:Nat) (self_ref16_Names:(Av→Option (List ByteArray))) (ih_ref16_Names:∀ (p0:Av) (R:(List ByteArray)) ,self_ref16_Names p0 = some R→Al Tryz.prog 58 [.d (Ac p0)] (.d (Ah 1 D.str R))) (p0:Av) (R:(List ByteArray)) (h:Hr d self_ref16_Names p0 = some R):Al Tryz.prog 58 [.d (Ac p0)] (.d (Ah 1 D.str R)):=by
 refine Cn Tryz.func58 ?_
 unfold Hr at h
 refine AM h (fun h=>?_) fun h=>?_
 ·conv=>whnf
  exact z25
 refine z5 h (fun p=>Cd 27 [(1,.ptr 1 1 0),(3,.sl 3 1),(4,.d (.int .i64 p.1))] [(1,.var [.d (.int .i64 p0.Op),.d (.int .i64 p0.Num),.d (.str p0.Name),.d (.int .i64 p0.Column),.d (Ah 1 (D.int .i64) p0.Columns),.d (Ah 2 Ak p0.Dims),.d (.int .i64 p0.Cond.Op),.d (.int .i64 p0.Cond.Column),.d (.int .i64 p0.Cond.Code),.d (.int .i64 p0.Cond.Low),.d (.int .i64 p0.Cond.High),.d (Ah 6 Ap p0.Cond.Kids),.d (.int .i64 p0.Event.Op),.d (.int .i64 p0.Event.Column),.d (.int .i64 p0.Event.Code),.d (.int .i64 p0.Event.Low),.d (.int .i64 p0.Event.High),.d (Ah 6 Ap p0.Event.Kids),.d (Ah 19 AP p0.Kids)],1),(3,.row 1 9 (List.map D.str p.2),1)]) A0 fun _ _ ⟨v4_1,b3_1⟩ h=>?_
 simp only [Lg] at h
 refine AM h (fun h=>?_) fun h=>?_
 ·refine B6 (f:=AP) h fun x22 _ h=>?_
  rw [Ab x22]
  conv=>whnf
  obtain ⟨x24,hx24,h⟩:=A9 h
  first | refine A1 (ih_ref16_Names _ _ hx24) ?_ | (simp only [List.length_map]; refine A1 (ih_ref16_Names _ _ hx24) ?_)
  conv=>whnf
  obtain ⟨hr,h⟩:=E0 h
  refine z6 ?_
  try rw [dX]
  exact z27
 conv=>whnf
 exact z25
theorem Oy:∀ d:Nat,(∀ (p0:Av) (R:(List ByteArray)) ,If d p0 = some R→Al Tryz.prog 58 [.d (Ac p0)] (.d (Ah 1 D.str R)))
 | 0=>by
  exact z24
 | d + 1=>by
  have ih:=Oy d
  exact Uo d _ ih
theorem US (d:Nat):∀ (p0:Av) (R:(List ByteArray)) ,If d p0 = some R→Al Tryz.prog 58 [.d (Ac p0)] (.d (Ah 1 D.str R)):=Oy d
theorem Rk (d:Nat) (p0:Ae) (p1:(List Ax)) (p2:Int) (R:Int) (h:Gc d p0 p1 p2 = some R):Al Tryz.prog 30 [.d (Au p0),.d (Ah 21 A5 p1),.d (.int .i64 p2)] (.d (.int .i64 R)):=by
 refine Cn Tryz.func30 ?_
 unfold Gc at h
 refine B6 (f:=A5) h fun x12 _ h=>?_
 refine AU h (fun _=>EP _ _) fun x16 h=>?_
 refine An h fun h=>?_
 refine AU h (fun _=>O0 _ _ _ _) fun x22 h=>?_
 refine An h fun h=>?_
 refine AU h (fun _=>UU _ _ _ _) fun x25 h=>?_
 refine An h fun h=>?_
 refine AU h (fun _=>UV _ _ _) fun x29 h=>?_
 refine An h fun h=>?_
 refine AU h (fun _=>UT _ _ _ _) fun x34 h=>?_
 refine An h fun h=>?_
 refine AU h (fun _=>US _ _ _) fun x38 h=>?_
 refine z5 h (fun p=>Cd 53 [(1,.d (Ah 21 A5 p1)),(2,.d (.int .i64 p2)),(8,.d (Ah 1 D.str x38)),(9,.d (.int .i64 p))] []) As fun _ _ v9_1 h=>?_
 simp only [HR] at h
 refine B0 h fun h=>?_
 refine B6 (f:=D.str) h fun x49 _ h=>?_
 refine AU h (fun _=>O0 _ _ _ _) fun x51 h=>?_
 exact z17
theorem UR (d:Nat) (p0:Ae) (p1:(List Ax)) (R:(Int × Int)) (h:JP d p0 p1 = some R):Al Tryz.prog 11 [.d (Au p0),.d (Ah 21 A5 p1)] (.tup [.d (.int .i64 R.1),.d (.int .i64 R.2)]):=by
 refine Cn Tryz.func11 ?_
 unfold JP at h
 refine AU h (fun _=>EV _ _) fun x10 h=>?_
 refine An h fun h=>?_
 refine An h fun h=>?_
 refine z5 h (fun p=>Cd 33 [(1,.d (Ah 21 A5 p1)),(2,.ptr 2 1 0),(7,.d (.int .i64 p))] [(2,.var [.d (Ah 2 Af p0.Lists),.d (Ah 7 Ai p0.Columns)],1)]) As fun _ _ v7_1 h=>?_
 simp only [IN] at h
 refine B0 h fun h=>?_
 refine AU h (fun _=>Rk _ _ _ _ _) fun x26 h=>?_
 exact z17
end Go.Proofs.YtjghjdokjgcehaaGreatDoor.P
