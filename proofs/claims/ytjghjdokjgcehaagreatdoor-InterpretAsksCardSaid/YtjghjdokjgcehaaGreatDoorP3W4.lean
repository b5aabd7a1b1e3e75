/- P3W4 -/
import Derived.Test.YtjghjdokjgcehaaGreatDoorP3W3
set_option linter.unusedSimpArgs false
namespace Go.Proofs.YtjghjdokjgcehaaGreatDoor.P
open Go.Abs Go.Proofs
set_option maxRecDepth 100000
set_option maxHeartbeats 4000000
set_option linter.unusedVariables false
theorem Lm (p0:Ae) (p1:Int) (p2:Int) (R:Int) (h:IS p0 p1 p2 = some R):Al Tryz.prog 227 [.d (Au p0),.d (.int .i64 p1),.d (.int .i64 p2)] (.d (.int .i64 R)):=by
 refine Cn Tryz.func227 ?_
 unfold IS at h
 refine AU h (fun _=>H9 _ _ _) fun x10 h=>?_
 refine An h fun h=>?_
 refine z5 h (fun p=>Cd 35 [(1,.d (.int .i64 p1)),(2,.d (.int .i64 p)),(3,.ptr 3 1 0)] [(3,.var [.d (Ah 2 Af p0.Lists),.d (Ah 7 Ai p0.Columns)],1)]) As fun _ _ v2_1 h=>?_
 simp only [N7] at h
 conv=>whnf
 refine z13 ?_
 refine B0 h fun h=>?_
 refine AU h (fun _=>N9 _ _ _ _) fun x25 h=>?_
 refine AU h (fun _=>N9 _ _ _ _) fun x29 h=>?_
 refine B0 h fun h=>?_
 conv=>whnf
 exact Cw ⟨(_,_),h⟩ As
theorem Ew (p0:Int) (q0:(List Aw)) (q1:Ae) (R:(List Aw)) (h:Ea p0 q0 q1 = some R):WG Tryz.prog 226 [.d (.int .i64 p0),.any,.d (.ptr [(Ah 2 Af q1.Lists),(Ah 7 Ai q1.Columns)])] 1 2 101 (List.map Ak q0) (List.map Ak R):=by
 refine eP [] 0 Tryz.func226 (by kernel_rfl) rfl rfl (by simp) (by decide) rfl ?_
 unfold Ea at h
 conv=>whnf
 refine z13 ?_
 refine AU h (fun _=>H9 _ _ _) fun x10 h=>?_
 refine AU h (fun _=>Lm _ _ _ _) fun x11 h=>?_
 conv=>whnf
 obtain ⟨hr,h⟩:=E0 h
 refine z6 ?_
 try rw [HT]
 conv=>whnf
 obtain rfl:=Option.some.inj h
 exact ⟨rfl,rfl,rfl,rfl,by first | rfl | (simp only [List.length_map]; done) | (simp only [List.length_map]; rfl)⟩
theorem XM (p0:Ae) (p1:Av) (R:(List Aw)) (h:Sc p0 p1 = some R):Al Tryz.prog 171 [.d (Au p0),.d (Ac p1)] (.d (Ah 2 Ak R)):=by
 refine Ek [8,19] Tryz.func171 (by kernel_rfl) ?_
 unfold Sc at h
 conv=>whnf
 refine ⟨.inr ?_⟩
 refine Ga {p:(List Aw) // Nr p1 p0 p = some R} (fun p=>Cd 78 [(2,.ptr 2 1 0),(3,.ptr 3 1 0),(5,.ptr 5 1 0),(6,.cc (some 226) [.sl 5 1,.d (.ptr [(Ah 2 Af p0.Lists),(Ah 7 Ai p0.Columns)])])] [(2,.fvar [(Ah 2 Af p0.Lists),(Ah 7 Ai p0.Columns)],1),(3,.var [.d (.int .i64 p1.Op),.d (.int .i64 p1.Num),.d (.str p1.Name),.d (.int .i64 p1.Column),.d (Ah 1 (D.int .i64) p1.Columns),.d (Ah 2 Ak p1.Dims),.d (.int .i64 p1.Cond.Op),.d (.int .i64 p1.Cond.Column),.d (.int .i64 p1.Cond.Code),.d (.int .i64 p1.Cond.Low),.d (.int .i64 p1.Cond.High),.d (Ah 6 Ap p1.Cond.Kids),.d (.int .i64 p1.Event.Op),.d (.int .i64 p1.Event.Column),.d (.int .i64 p1.Event.Code),.d (.int .i64 p1.Event.Low),.d (.int .i64 p1.Event.High),.d (Ah 6 Ap p1.Event.Kids),.d (Ah 19 AP p1.Kids)],1),(5,.var [.sl 30 1],1),(30,.row 2 101 (List.map Ak p.1),1)]) ?_ fun p=>?_
 ·conv=>whnf
  obtain ⟨P1,i1,h⟩:=AI h
  refine Zn [(5,0,30,101)] {p:Nat × (Int × (List Aw)) // P1 p.1 p.2 = some R} (fun p=>Cd 78 [(2,.ptr 2 1 0),(3,.ptr 3 1 0),(5,.ptr 5 1 0),(6,.cc (some 226) [.sl 5 1,.d (.ptr [(Ah 2 Af p0.Lists),(Ah 7 Ai p0.Columns)])]),(13,.d (Ah 2 Ak p1.Dims)),(14,.d (.int .i64 ((p1.Dims.length:Nat):Int))),(15,.d (.int .i64 p.1.2.1))] [(2,.fvar [(Ah 2 Af p0.Lists),(Ah 7 Ai p0.Columns)],1),(3,.var [.d (.int .i64 p1.Op),.d (.int .i64 p1.Num),.d (.str p1.Name),.d (.int .i64 p1.Column),.d (Ah 1 (D.int .i64) p1.Columns),.d (Ah 2 Ak p1.Dims),.d (.int .i64 p1.Cond.Op),.d (.int .i64 p1.Cond.Column),.d (.int .i64 p1.Cond.Code),.d (.int .i64 p1.Cond.Low),.d (.int .i64 p1.Cond.High),.d (Ah 6 Ap p1.Cond.Kids),.d (.int .i64 p1.Event.Op),.d (.int .i64 p1.Event.Column),.d (.int .i64 p1.Event.Code),.d (.int .i64 p1.Event.Low),.d (.int .i64 p1.Event.High),.d (Ah 6 Ap p1.Event.Kids),.d (Ah 19 AP p1.Kids)],1),(5,.var [.sl 30 1],1),(30,.row 2 101 (List.map Ak p.1.2.2),1)]) (fun p=>p.1.1) ⟨(_,(_,_)),h⟩ ?_ fun p=>?_
  ·conv=>whnf
   exact eU
  obtain ⟨⟨k1,⟨v15_1,b30_1⟩⟩,h⟩:=p
  obtain ⟨k1,rfl,h⟩:=i1 _ _ h
  simp only [Rt] at h
  refine AM h (fun h=>?_) fun h=>?_
  ·refine B6 (f:=Ak) h fun x17 _ h=>?_
   conv=>whnf
   refine z13 ?_
   refine AU h (fun _=>Lm _ _ _ _) fun x27 h=>?_
   conv=>whnf
   obtain ⟨hr,h⟩:=E0 h
   refine z6 ?_
   try rw [HT]
   exact z27
  exact z23
 obtain ⟨k30_1,h⟩:=p
 simp only [Nr] at h
 refine Ga {p:(List Aw) // BM p1 p0 p = some R} (fun p=>Cd 78 [(3,.ptr 3 1 0),(5,.ptr 5 1 0),(6,.cc (some 226) [.sl 5 1,.d (.ptr [(Ah 2 Af p0.Lists),(Ah 7 Ai p0.Columns)])])] [(3,.var [.d (.int .i64 p1.Op),.d (.int .i64 p1.Num),.d (.str p1.Name),.d (.int .i64 p1.Column),.d (Ah 1 (D.int .i64) p1.Columns),.d (Ah 2 Ak p1.Dims),.d (.int .i64 p1.Cond.Op),.d (.int .i64 p1.Cond.Column),.d (.int .i64 p1.Cond.Code),.d (.int .i64 p1.Cond.Low),.d (.int .i64 p1.Cond.High),.d (Ah 6 Ap p1.Cond.Kids),.d (.int .i64 p1.Event.Op),.d (.int .i64 p1.Event.Column),.d (.int .i64 p1.Event.Code),.d (.int .i64 p1.Event.Low),.d (.int .i64 p1.Event.High),.d (Ah 6 Ap p1.Event.Kids),.d (Ah 19 AP p1.Kids)],1),(5,.var [.sl 30 1],1),(30,.row 2 101 (List.map Ak p.1),1)]) ?_ fun p=>?_
 ·conv=>whnf
  refine K1 h Cc (fun e21 h=>?_) (fun e21 h=>?_)
  ·conv=>whnf
   refine Lt Cc e21 ?_
   refine AM h (fun h=>?_) fun h=>?_
   ·exact z29
   exact z23
  conv=>whnf
  refine K1 h Cc (fun e23 h=>?_) (fun e23 h=>?_)
  ·conv=>whnf
   refine Lt Cc e23 ?_
   refine AM h (fun h=>?_) fun h=>?_
   ·exact z29
   exact z23
  conv=>whnf
  refine K1 h Cc (fun e25 h=>?_) (fun e25 h=>?_)
  ·conv=>whnf
   refine Lt Cc e25 ?_
   refine AM h (fun h=>?_) fun h=>?_
   ·exact z29
   exact z23
  conv=>whnf
  refine K1 h Cc (fun e27 h=>?_) (fun e27 h=>?_)
  ·conv=>whnf
   refine Lt Cc e27 ?_
   refine AM h (fun h=>?_) fun h=>?_
   ·exact z29
   exact z23
  conv=>whnf
  refine K1 h Cc (fun e29 h=>?_) (fun e29 h=>?_)
  ·conv=>whnf
   refine Lt Cc e29 ?_
   refine AM h (fun h=>?_) fun h=>?_
   ·exact z29
   exact z23
  refine AM h (fun h=>?_) fun h=>?_
  ·refine AM h (fun h=>?_) fun h=>?_
   ·exact z29
   exact z23
  refine AM h (fun h=>?_) fun h=>?_
  ·conv=>whnf
   refine z13 ?_
   refine AU h (fun _=>Ta _ _ _ _) fun x61 h=>?_
   refine AU h (fun _=>Lm _ _ _ _) fun x62 h=>?_
   conv=>whnf
   obtain ⟨hr,h⟩:=E0 h
   refine z6 ?_
   try rw [HT]
   exact z23
  exact z23
 obtain ⟨k30_2,h⟩:=p
 simp only [BM] at h
 refine z5 h (fun p=>Cd 78 [(5,.ptr 5 1 0),(6,.cc (some 226) [.sl 5 1,.d (.ptr [(Ah 2 Af p0.Lists),(Ah 7 Ai p0.Columns)])]),(67,.d (Ah 1 (D.int .i64) p1.Columns)),(68,.d (.int .i64 ((p1.Columns.length:Nat):Int))),(69,.d (.int .i64 p.1))] [(5,.var [.sl 30 1],1),(30,.row 2 101 (List.map Ak p.2),1)]) A0 fun _ _ ⟨v69_2,b30_2⟩ h=>?_
 simp only [Ru] at h
 refine AM h (fun h=>?_) fun h=>?_
 ·refine B6 (f:=(D.int .i64)) h fun x71 _ h=>?_
  conv=>whnf
  obtain ⟨x75,hx75,h⟩:=A9 h
  refine Tv (Ew _ _ _ _ hx75) ?_
  exact z27
 conv=>whnf
 exact z25
theorem Re (p0:(List (List Aw))) (R:(List Aw)) (h:JZ p0 = some R):Al Tryz.prog 172 [.d (Ah 1 (Ah 2 Ak) p0)] (.d (Ah 2 Ak R)):=by
 refine Cn Tryz.func172 ?_
 unfold JZ at h
 refine z5 h (fun p=>Cd 59 [(3,.sl 11 1),(4,.d (.int .i64 p.1)),(12,.d (Ah 1 (Ah 2 Ak) p0)),(13,.d (.int .i64 ((p0.length:Nat):Int))),(14,.d (.int .i64 p.2.1))] [(11,.map (bC .i64 (D.int .i64) p.2.2),1)]) As fun _ _ ⟨v4_1,v14_1,b11_1⟩ h=>?_
 simp only [La] at h
 refine AM h (fun h=>?_) fun h=>?_
 ·refine B6 (f:=(Ah 2 Ak)) h fun x16 _ h=>?_
  refine z5 h (fun p=>Cd 59 [(3,.sl 11 1),(4,.d (.int .i64 p.1)),(12,.d (Ah 1 (Ah 2 Ak) p0)),(13,.d (.int .i64 ((p0.length:Nat):Int))),(14,.d (.int .i64 v14_1)),(18,.d (Ah 2 Ak x16)),(19,.d (.int .i64 ((x16.length:Nat):Int))),(20,.d (.int .i64 p.2.1))] [(11,.map (bC .i64 (D.int .i64) p.2.2),1)]) As fun _ _ ⟨v4_2,v20_2,b11_2⟩ h=>?_
  simp only [Lb] at h
  refine AM h (fun h=>?_) fun h=>?_
  ·refine B6 (f:=Ak) h fun x22 _ h=>?_
   conv=>whnf
   refine z13 ?_
   conv=>whnf
   refine ⟨⟨by kernel_rfl,M3 .i64 (D.int .i64) x22.Column b11_2⟩,?_⟩
   conv=>whnf
   refine QM (f:=(D.int .i64)) (es:=b11_2) (z:=0) ?_
   conv=>whnf
   refine ⟨⟨by rfl,by kernel_rfl,M3 .i64 (D.int .i64) x22.Column b11_2⟩,?_⟩
   conv=>whnf
   try rw [WA .i64 (D.int .i64) x22.Column (if x22.Level > ((Jm x22.Column b11_2).getD 0) then x22.Level else ((Jm x22.Column b11_2).getD 0))]
   exact Cw ⟨(_,(_,_,_)),h⟩ As
  exact z30
 refine z5 h (fun p=>Cd 59 [(3,.sl 11 1),(9,.sl 9 1),(41,.d (.int .i64 (IntKind.i64.wrap (v4_1 + 1)))),(42,.d (.int .i64 p.1))] [(9,.row 2 101 (List.map Ak p.2),1),(11,.map (bC .i64 (D.int .i64) b11_1),1)]) As fun _ _ ⟨v42_3,b9_3⟩ h=>?_
 simp only [Lc] at h
 refine AM h (fun h=>?_) fun h=>?_
 ·conv=>whnf
  refine ⟨⟨by kernel_rfl,M3 .i64 (D.int .i64) v42_3 b11_1⟩,?_⟩
  conv=>whnf
  refine QM (f:=(D.int .i64)) (es:=b11_1) (z:=0) ?_
  refine AM h (fun h=>?_) fun h=>?_
  ·conv=>whnf
   refine ⟨⟨by kernel_rfl,M3 .i64 (D.int .i64) v42_3 b11_1⟩,?_⟩
   conv=>whnf
   refine QM (f:=(D.int .i64)) (es:=b11_1) (z:=0) ?_
   conv=>whnf
   obtain ⟨hr,h⟩:=E0 h
   refine z6 ?_
   try rw [HT]
   exact z22
  exact z22
 exact z37
theorem U2 (d:Nat) (self_types_needs:(Ae→Av→Option (List Aw))) (ih_types_needs:∀ (p0:Ae) (p1:Av) (R:(List Aw)) ,self_types_needs p0 p1 = some R→Al Tryz.prog 115 [.d (Au p0),.d (Ac p1)] (.d (Ah 2 Ak R))) (p0:Ae) (p1:Av) (R:(List Aw)) (h:Me d self_types_needs p0 p1 = some R):Al Tryz.prog 115 [.d (Au p0),.d (Ac p1)] (.d (Ah 2 Ak R)):=by
 refine Cn Tryz.func115 ?_
 unfold Me at h
 conv=>whnf
 refine z13 ?_
 refine AU h (fun _=>XM _ _ _) fun x10 h=>?_
 refine AU h (fun _=>Iz _ _ _ _) fun x14 h=>?_
 refine AU h (fun _=>Iz _ _ _ _) fun x18 h=>?_
 refine z5 h (fun p=>Cd 36 [(2,.ptr 2 1 0),(5,.sl 19 1),(21,.d (Ah 19 AP p1.Kids)),(22,.d (.int .i64 ((p1.Kids.length:Nat):Int))),(23,.d (.int .i64 p.1))] [(2,.var [.d (Ah 2 Af p0.Lists),.d (Ah 7 Ai p0.Columns)],1),(19,.row 1 53 (List.map (Ah 2 Ak) p.2),1)]) A0 fun _ _ ⟨v23_1,b19_1⟩ h=>?_
 simp only [OG] at h
 refine AM h (fun h=>?_) fun h=>?_
 ·refine B6 (f:=AP) h fun x25 _ h=>?_
  rw [Ab x25]
  conv=>whnf
  obtain ⟨x30,hx30,h⟩:=A9 h
  first | refine A1 (ih_types_needs _ _ _ hx30) ?_ | (simp only [List.length_map]; refine A1 (ih_types_needs _ _ _ hx30) ?_)
  conv=>whnf
  obtain ⟨hr,h⟩:=E0 h
  refine z6 ?_
  try rw [eM]
  exact z27
 refine AU h (fun _=>Re _ _) fun x35 h=>?_
 exact z16
theorem OH:∀ d:Nat,(∀ (p0:Ae) (p1:Av) (R:(List Aw)) ,LH d p0 p1 = some R→Al Tryz.prog 115 [.d (Au p0),.d (Ac p1)] (.d (Ah 2 Ak R)))
 | 0=>by
  exact z24
 | d + 1=>by
  have ih:=OH d
  exact U2 d _ ih
theorem UZ (d:Nat):∀ (p0:Ae) (p1:Av) (R:(List Aw)) ,LH d p0 p1 = some R→Al Tryz.prog 115 [.d (Au p0),.d (Ac p1)] (.d (Ah 2 Ak R)):=OH d
theorem UY (d:Nat) (self_types_kind:((List AR)→Av→Option (Int × Int))) (ih_types_kind:∀ (p0:(List AR)) (p1:Av) (R:(Int × Int)) ,self_types_kind p0 p1 = some R→Al Tryz.prog 116 [.d (Ah 26 A7 p0),.d (Ac p1)] (.tup [.d (.int .i64 R.1),.d (.int .i64 R.2)])) (p0:(List AR)) (p1:Av) (R:(Int × Int)) (h:Nq d self_types_kind p0 p1 = some R):Al Tryz.prog 116 [.d (Ah 26 A7 p0),.d (Ac p1)] (.tup [.d (.int .i64 R.1),.d (.int .i64 R.2)]):=by
 refine Ek [10] Tryz.func116 (by kernel_rfl) ?_
 unfold Nq at h
 refine Ga {p:Bool // Md p1 p0 p = some R} (fun p=>Cd 70 [(0,.d (Ah 26 A7 p0)),(3,.ptr 3 1 0),(6,.d (.bool p.1))] [(3,.var [.d (.int .i64 p1.Op),.d (.int .i64 p1.Num),.d (.str p1.Name),.d (.int .i64 p1.Column),.d (Ah 1 (D.int .i64) p1.Columns),.d (Ah 2 Ak p1.Dims),.d (.int .i64 p1.Cond.Op),.d (.int .i64 p1.Cond.Column),.d (.int .i64 p1.Cond.Code),.d (.int .i64 p1.Cond.Low),.d (.int .i64 p1.Cond.High),.d (Ah 6 Ap p1.Cond.Kids),.d (.int .i64 p1.Event.Op),.d (.int .i64 p1.Event.Column),.d (.int .i64 p1.Event.Code),.d (.int .i64 p1.Event.Low),.d (.int .i64 p1.Event.High),.d (Ah 6 Ap p1.Event.Kids),.d (Ah 19 AP p1.Kids)],1)]) ?_ fun p=>?_
 ·refine z5 h (fun p=>Cd 70 [(0,.d (Ah 26 A7 p0)),(3,.ptr 3 1 0),(6,.d (.bool p.1)),(13,.d (Ah 19 AP p1.Kids)),(14,.d (.int .i64 ((p1.Kids.length:Nat):Int))),(15,.d (.int .i64 p.2))] [(3,.var [.d (.int .i64 p1.Op),.d (.int .i64 p1.Num),.d (.str p1.Name),.d (.int .i64 p1.Column),.d (Ah 1 (D.int .i64) p1.Columns),.d (Ah 2 Ak p1.Dims),.d (.int .i64 p1.Cond.Op),.d (.int .i64 p1.Cond.Column),.d (.int .i64 p1.Cond.Code),.d (.int .i64 p1.Cond.Low),.d (.int .i64 p1.Cond.High),.d (Ah 6 Ap p1.Cond.Kids),.d (.int .i64 p1.Event.Op),.d (.int .i64 p1.Event.Column),.d (.int .i64 p1.Event.Code),.d (.int .i64 p1.Event.Low),.d (.int .i64 p1.Event.High),.d (Ah 6 Ap p1.Event.Kids),.d (Ah 19 AP p1.Kids)],1)]) A0 fun _ _ ⟨v6_1,v15_1⟩ h=>?_
  simp only [PH] at h
  refine AM h (fun h=>?_) fun h=>?_
  ·refine B6 (f:=AP) h fun x17 _ h=>?_
   rw [Ab x17]
   conv=>whnf
   obtain ⟨x22,hx22,h⟩:=A9 h
   first | refine A1 (ih_types_kind _ _ _ hx22) ?_ | (simp only [List.length_map]; refine A1 (ih_types_kind _ _ _ hx22) ?_)
   refine AM h (fun h=>?_) fun h=>?_
   ·exact z16
   exact z27
  exact z23
 obtain ⟨j6_1,h⟩:=p
 simp only [Md] at h
 refine AM h (fun h=>?_) fun h=>?_
 ·refine z5 h (fun p=>Cd 70 [(0,.d (Ah 26 A7 p0)),(3,.ptr 3 1 0),(11,.d (.int .i64 p))] [(3,.var [.d (.int .i64 p1.Op),.d (.int .i64 p1.Num),.d (.str p1.Name),.d (.int .i64 p1.Column),.d (Ah 1 (D.int .i64) p1.Columns),.d (Ah 2 Ak p1.Dims),.d (.int .i64 p1.Cond.Op),.d (.int .i64 p1.Cond.Column),.d (.int .i64 p1.Cond.Code),.d (.int .i64 p1.Cond.Low),.d (.int .i64 p1.Cond.High),.d (Ah 6 Ap p1.Cond.Kids),.d (.int .i64 p1.Event.Op),.d (.int .i64 p1.Event.Column),.d (.int .i64 p1.Event.Code),.d (.int .i64 p1.Event.Low),.d (.int .i64 p1.Event.High),.d (Ah 6 Ap p1.Event.Kids),.d (Ah 19 AP p1.Kids)],1)]) A0 fun _ _ v11_2 h=>?_
  simp only [PI] at h
  refine AM h (fun h=>?_) fun h=>?_
  ·conv=>whnf
   refine z13 ?_
   refine B6 (f:=A7) h fun x47 _ h=>?_
   refine AM h (fun h=>?_) fun h=>?_
   ·refine B6 (f:=A7) h fun x55 _ h=>?_
    exact z16
   exact z43
  exact z16
 refine AM h (fun h=>?_) fun h=>?_
 ·exact z16
 refine AU h (fun _=>M6 _ _) fun x65 h=>?_
 refine AM h (fun h=>?_) fun h=>?_
 ·exact z16
 exact z16
theorem PK:∀ d:Nat,(∀ (p0:(List AR)) (p1:Av) (R:(Int × Int)) ,Np d p0 p1 = some R→Al Tryz.prog 116 [.d (Ah 26 A7 p0),.d (Ac p1)] (.tup [.d (.int .i64 R.1),.d (.int .i64 R.2)]))
 | 0=>by
  exact z24
 | d + 1=>by
  have ih:=PK d
  exact UY d _ ih
theorem W9 (d:Nat):∀ (p0:(List AR)) (p1:Av) (R:(Int × Int)) ,Np d p0 p1 = some R→Al Tryz.prog 116 [.d (Ah 26 A7 p0),.d (Ac p1)] (.tup [.d (.int .i64 R.1),.d (.int .i64 R.2)]):=PK d
theorem W8 (d:Nat) (p0:Ae) (p1:(List Aw)) (p2:(List AR)) (p3:Av) (R:(Int × Int)) (h:Qq d p0 p1 p2 p3 = some R):Al Tryz.prog 62 [.d (Au p0),.d (Ah 2 Ak p1),.d (Ah 26 A7 p2),.d (Ac p3)] (.tup [.d (.int .i64 R.1),.d (.int .i64 R.2)]):=by
 refine Cn Tryz.func62 ?_
 unfold Qq at h
 refine AU h (fun _=>N1 _ _ _ _) fun x12 h=>?_
 refine AM h (fun h=>?_) fun h=>?_
 ·exact z16
 refine AU h (fun _=>O6 _ _ _) fun x16 h=>?_
 refine AM h (fun h=>?_) fun h=>?_
 ·exact z20
 refine AU h (fun _=>UZ _ _ _ _) fun x22 h=>?_
 refine AU h (fun _=>KE _ _ _) fun x23 h=>?_
 refine AM h (fun h=>?_) fun h=>?_
 ·exact z16
 refine AU h (fun _=>W9 _ _ _ _) fun x28 h=>?_
 exact z16
theorem Tb (d:Nat) (p0:Ae) (p1:(List Aw)) (p2:(List Ax)) (R:((List Int) × Int × Int)) (h:Mc d p0 p1 p2 = some R):Al Tryz.prog 33 [.d (Au p0),.d (Ah 2 Ak p1),.d (Ah 21 A5 p2)] (.tup [.d (Ah 1 (D.int .i64) R.1),.d (.int .i64 R.2.1),.d (.int .i64 R.2.2)]):=by
 refine Cn Tryz.func33 ?_
 unfold Mc at h
 refine AU h (fun _=>N0 _ _ _ _) fun x20 h=>?_
 refine AM h (fun h=>?_) fun h=>?_
 ·exact z37
 refine z5 h (fun p=>Cd 63 [(1,.d (Ah 2 Ak p1)),(2,.d (Ah 21 A5 p2)),(3,.ptr 3 1 0),(11,.sl 11 1),(12,.sl 12 1),(27,.d (Ah 21 A5 p2)),(28,.d (.int .i64 ((p2.length:Nat):Int))),(29,.d (.int .i64 p.1))] [(3,.var [.d (Ah 2 Af p0.Lists),.d (Ah 7 Ai p0.Columns)],1),(11,.row 1 3 (List.map (D.int .i64) p.2.1),1),(12,.row 26 79 (List.map A7 p.2.2),1)]) As fun _ _ ⟨v29_1,b11_1,b12_1⟩ h=>?_
 simp only [MJ] at h
 refine AM h (fun h=>?_) fun h=>?_
 ·refine B6 (f:=A5) h fun x32 _ h=>?_
  refine AU h (fun _=>W8 _ _ _ _ _ _) fun x40 h=>?_
  refine AM h (fun h=>?_) fun h=>?_
  ·exact z37
  conv=>whnf
  obtain ⟨hr,h⟩:=E0 h
  refine z6 ?_
  try rw [SK]
  conv=>whnf
  obtain ⟨hr,h⟩:=E0 h
  refine z6 ?_
  try rw [Ma]
  exact z30
 exact z37
theorem E3 (p0:(List Aw)) (R:(List Aw)) (h:Cf p0 = some R):Al Tryz.prog 25 [.d (Ah 2 Ak p0)] (.d (Ah 2 Ak R)):=by
 obtain ⟨hr,h⟩:=E0 h
 obtain rfl:=Option.some.inj h
 refine Cn Tryz.func25 ?_
 conv=>whnf
 refine ⟨fun b hb=>?_⟩
 cases b
 ·exact z46
 ·conv=>whnf
  have:p0 = []:=by
   cases p0 with
   | nil=>rfl
   | cons a r=>exact absurd (hb (by simp)) (by simp)
  subst this
  exact z34
theorem F2 (p0:(List F7)) (R:(List F7)) (h:Df p0 = some R):Al Tryz.prog 73 [.d (Ah 7 Du p0)] (.d (Ah 7 Du R)):=by
 obtain ⟨hr,h⟩:=E0 h
 obtain rfl:=Option.some.inj h
 refine Cn Tryz.func73 ?_
 conv=>whnf
 refine ⟨fun b hb=>?_⟩
 cases b
 ·exact z46
 ·conv=>whnf
  have:p0 = []:=by
   cases p0 with
   | nil=>rfl
   | cons a r=>exact absurd (hb (by simp)) (by simp)
  subst this
  exact z34
theorem Io (p0:(List AX)) (R:(List AX)) (h:Fa p0 = some R):Al Tryz.prog 74 [.d (Ah 2 CQ p0)] (.d (Ah 2 CQ R)):=by
 obtain ⟨hr,h⟩:=E0 h
 obtain rfl:=Option.some.inj h
 refine Cn Tryz.func74 ?_
 conv=>whnf
 refine ⟨fun b hb=>?_⟩
 cases b
 ·exact z46
 ·conv=>whnf
  have:p0 = []:=by
   cases p0 with
   | nil=>rfl
   | cons a r=>exact absurd (hb (by simp)) (by simp)
  subst this
  exact z34
theorem F1 (p0:(List HD)) (R:(List HD)) (h:De p0 = some R):Al Tryz.prog 75 [.d (Ah 6 Gk p0)] (.d (Ah 6 Gk R)):=by
 obtain ⟨hr,h⟩:=E0 h
 obtain rfl:=Option.some.inj h
 refine Cn Tryz.func75 ?_
 conv=>whnf
 refine ⟨fun b hb=>?_⟩
 cases b
 ·exact z46
 ·conv=>whnf
  have:p0 = []:=by
   cases p0 with
   | nil=>rfl
   | cons a r=>exact absurd (hb (by simp)) (by simp)
  subst this
  exact z34
theorem IX (p0:(List XS)) (R:(List XS)) (h:F6 p0 = some R):Al Tryz.prog 76 [.d (Ah 2 ON p0)] (.d (Ah 2 ON R)):=by
 obtain ⟨hr,h⟩:=E0 h
 obtain rfl:=Option.some.inj h
 refine Cn Tryz.func76 ?_
 conv=>whnf
 refine ⟨fun b hb=>?_⟩
 cases b
 ·exact z46
 ·conv=>whnf
  have:p0 = []:=by
   cases p0 with
   | nil=>rfl
   | cons a r=>exact absurd (hb (by simp)) (by simp)
  subst this
  exact z34
theorem LA (p0:Bd) (R:Bd) (h:Hz p0 = some R):Al Tryz.prog 35 [.d (Ej p0)] (.d (Ej R)):=by
 refine Cn Tryz.func35 ?_
 unfold Hz at h
 refine AU h (fun _=>E3 _ _) fun x8 h=>?_
 refine AU h (fun _=>F2 _ _) fun x14 h=>?_
 obtain ⟨P1,i1,h⟩:=AI h
 refine loop {p:Nat × Unit // P1 p.1 p.2 = some R} (fun p=>Cd 70 [(1,.ptr 1 1 0),(2,.ptr 2 1 0),(19,.d (Ah 7 Du x14)),(20,.d (.int .i64 ((x14.length:Nat):Int))),(21,.d (.int .i64 0))] [(1,.var [.d (.int .i64 p0.Kind),.d (.int .i64 p0.Number.Num),.d (.int .i64 p0.Number.Den),.d (Ah 2 Ak x8),.d (.int .i64 p0.Table.Measure),.d (Ah 7 Du x14),.d (.int .i64 p0.Model.Measure),.d (Ah 1 (D.int .i64) p0.Model.Terms),.d (Ah 2 CQ p0.Model.Coefs),.d (.int .i64 p0.Model.Residual.Num),.d (.int .i64 p0.Model.Residual.Den),.d (.int .i64 p0.Model.Total.Num),.d (.int .i64 p0.Model.Total.Den),.d (.int .i64 p0.Model.Count),.d (.int .i64 p0.Model.Free),.d (Ah 6 Gk p0.Curve),.d (Ah 2 ON p0.Hist),.d (.int .i64 p0.Box.Count),.d (.int .i64 p0.Box.Least),.d (.int .i64 p0.Box.Lower),.d (.int .i64 p0.Box.Middle),.d (.int .i64 p0.Box.Upper),.d (.int .i64 p0.Box.Greatest),.d (Ah 1 (D.int .i64) p0.Lineage)],1),(2,.var [.d (.int .i64 0),.d (.int .i64 0),.d (.int .i64 0),.d (.nil 2),.d (.int .i64 0),.d (.nil 7),.d (.int .i64 0),.d (.nil 1),.d (.nil 2),.d (.int .i64 0),.d (.int .i64 0),.d (.int .i64 0),.d (.int .i64 0),.d (.int .i64 0),.d (.int .i64 0),.d (.nil 6),.d (.nil 2),.d (.int .i64 0),.d (.int .i64 0),.d (.int .i64 0),.d (.int .i64 0),.d (.int .i64 0),.d (.int .i64 0),.d (.nil 1)],1)]) (fun p=>p.1.1) ⟨(_,()),h⟩ ?_ fun p=>?_
 ·exact As
 obtain ⟨⟨k1,_⟩,h⟩:=p
 obtain ⟨k1,rfl,hF2⟩:=i1 _ _ h
 have h:=hF2
 simp only [KP] at h
 refine AM h (fun h=>?_) fun h=>?_
 ·refine B6 (f:=Du) h fun x24 _ h=>?_
  conv=>whnf
  refine z13 ?_
  refine AU h (fun _=>CJ _ _) fun x36 h=>?_
  refine AU h (fun _=>CJ _ _) fun x39 h=>?_
  refine B6 (f:=Du) h fun x40 _ h=>?_
  conv=>whnf
  cases h
 conv=>whnf
 try simp only [KQ] at h
 refine z13 ?_
 refine AU h (fun _=>CJ _ _) fun x48 h=>?_
 refine AU h (fun _=>Io _ _) fun x52 h=>?_
 conv=>whnf
 refine z13 ?_
 refine AU h (fun _=>F1 _ _) fun x59 h=>?_
 refine AU h (fun _=>IX _ _) fun x62 h=>?_
 refine AU h (fun _=>CJ _ _) fun x65 h=>?_
 conv=>whnf
 refine ⟨.inl ?_⟩
 exact AD h
theorem IA (p0:AK) (p1:ByteArray) (R:Bd)  (h:GA p0 p1 = some R):CY Tryz.prog 63 [.cc none [.d (Ah 2 Af p0.f_plan.f_s.Lists),.d (Ah 7 Ai p0.f_plan.f_s.Columns),.d (.str p0.f_plan.f_x.Project),.d (.int .i64 p0.f_plan.f_x.Version),.d (Ah 2 Ak p0.f_plan.f_x.Picks),.d (Ah 1 (Ah 1 (D.int .i64)) p0.f_plan.f_x.Rows),.own 26 79 (List.map A7 p0.f_before)],.d (.str p1)] [.cc none [.d (Ah 2 Af p0.f_plan.f_s.Lists),.d (Ah 7 Ai p0.f_plan.f_s.Columns),.d (.str p0.f_plan.f_x.Project),.d (.int .i64 p0.f_plan.f_x.Version),.d (Ah 2 Ak p0.f_plan.f_x.Picks),.d (Ah 1 (Ah 1 (D.int .i64)) p0.f_plan.f_x.Rows),.own 26 79 (List.map A7 p0.f_before)],.any] (.d (Ej R)):=by
 refine Oe Tryz.func63 (by kernel_rfl) rfl ?_ ?_
 ·intro i x y hx hy
  match i,hx,hy with
  | 0,hx,hy=>cases Option.some.inj hx; cases Option.some.inj hy; exact ⟨[_,_,_,_,_,_],_,_,_,_,rfl,rfl⟩
  | 1,hx,hy=>simp at hx hy; subst hx; subst hy; trivial
  | i + 2,hx,hy=>simp at hx
 unfold GA at h
 conv=>whnf
 obtain ⟨P1,i1,h⟩:=AI h
 refine loop {p:Nat × Int // P1 p.1 p.2 = some R} (fun p=>Cd 30 [(1,.d (.str p1)),(2,.ptr 2 1 0),(4,.ptr 4 1 0),(5,.d (.int .i64 p.1.2))] [(0,.row 26 79 (List.map A7 p0.f_before),0),(2,.var [.d (Ah 2 Af p0.f_plan.f_s.Lists),.d (Ah 7 Ai p0.f_plan.f_s.Columns),.d (.str p0.f_plan.f_x.Project),.d (.int .i64 p0.f_plan.f_x.Version),.d (Ah 2 Ak p0.f_plan.f_x.Picks),.d (Ah 1 (Ah 1 (D.int .i64)) p0.f_plan.f_x.Rows),.sl 0 0],1),(4,.var [.d (.int .i64 0),.d (.int .i64 0),.d (.int .i64 0),.d (.nil 2),.d (.int .i64 0),.d (.nil 7),.d (.int .i64 0),.d (.nil 1),.d (.nil 2),.d (.int .i64 0),.d (.int .i64 0),.d (.int .i64 0),.d (.int .i64 0),.d (.int .i64 0),.d (.int .i64 0),.d (.nil 6),.d (.nil 2),.d (.int .i64 0),.d (.int .i64 0),.d (.int .i64 0),.d (.int .i64 0),.d (.int .i64 0),.d (.int .i64 0),.d (.nil 1)],1)]) (fun p=>p.1.1) ⟨(_,_),h⟩ ?_ fun p=>?_
 ·refine TW ?_
  conv=>whnf
  exact f6
 obtain ⟨⟨k1,v5_1⟩,h⟩:=p
 obtain ⟨k1,rfl,h⟩:=i1 _ _ h
 simp only [HX] at h
 conv=>whnf
 refine Rw h Cc (fun h=>?_) (fun h=>?_)
 ·conv=>whnf
  refine RX (f:=A7) h Cc fun x17 hx17 h=>?_
  conv=>whnf
  refine Z7 (f:=A7) hx17 Cc ?_
  conv=>whnf
  refine Rw h Cc (fun h=>?_) (fun h=>?_)
  ·conv=>whnf
   refine RX (f:=A7) h Cc fun x25 hx25 h=>?_
   conv=>whnf
   refine Z7 (f:=A7) hx25 Cc ?_
   conv=>whnf
   obtain ⟨x28,hx28,h⟩:=A9 h
   refine A1 (LA _ _ hx28) ?_
   conv=>whnf
   exact z47
  conv=>whnf
  refine ⟨⟨(_,_),h⟩,?_,Nat.lt_succ_self _⟩
  refine TW ?_
  conv=>whnf
  exact f6
 conv=>whnf
 try simp only [HY] at h
 exact z47
end Go.Proofs.YtjghjdokjgcehaaGreatDoor.P
