/- P3W4 -/
import Derived.Test.YtjgeigjjfcnojaaGreatDoorP3W3
set_option linter.unusedSimpArgs false
namespace Go.Proofs.YtjgeigjjfcnojaaGreatDoor.P
open Go.Abs Go.Proofs
set_option maxRecDepth 100000
set_option maxHeartbeats 4000000
set_option linter.unusedVariables false
theorem Uu (d:Nat) (self_types_needs:(Af→A2→Option (List An))) (ih_types_needs:∀ (p0:Af) (p1:A2) (R:(List An)) ,self_types_needs p0 p1 = some R→Aj Tryz.prog 41 [.d (Au p0),.d (Ad p1)] (.d (Ah 2 Ai R))) (p0:Af) (p1:A2) (R:(List An)) (h:CJ d self_types_needs p0 p1 = some R):Aj Tryz.prog 41 [.d (Au p0),.d (Ad p1)] (.d (Ah 2 Ai R)):=by
 refine BF Tryz.func41 ?_
 unfold CJ at h
 conv=>whnf
 refine z12 ?_
 refine AF h (fun _=>X2 _ _ _) fun x10 h=>?_
 refine AF h (fun _=>H3 _ _ _ _) fun x14 h=>?_
 refine AF h (fun _=>H3 _ _ _ _) fun x18 h=>?_
 refine z5 h (fun p=>BB 36 [(2,.ptr 2 1 0),(5,.sl 19 1),(21,.d (Ah 19 Bn p1.Kids)),(22,.d (.int .i64 ((p1.Kids.length:Nat):Int))),(23,.d (.int .i64 p.1))] [(2,.var [.d (Ah 2 Ae p0.Lists),.d (Ah 7 Ag p0.Columns)],1),(19,.row 1 33 (List.map (Ah 2 Ai) p.2),1)]) A4 fun _ _ ⟨v23_1,b19_1⟩ h=>?_
 simp only [EE] at h
 refine AE h (fun h=>?_) fun h=>?_
 ·refine Bd (f:=Bn) h fun x25 _ h=>?_
  rw [Ab x25]
  conv=>whnf
  obtain ⟨x30,hx30,h⟩:=A8 h
  first | refine Av (ih_types_needs _ _ _ hx30) ?_ | (simp only [List.length_map]; refine Av (ih_types_needs _ _ _ hx30) ?_)
  conv=>whnf
  obtain ⟨hr,h⟩:=Dm h
  refine z6 ?_
  try rw [Xy]
  exact z25
 refine AF h (fun _=>Rc _ _) fun x35 h=>?_
 exact z16
theorem OM:∀ d:Nat,(∀ (p0:Af) (p1:A2) (R:(List An)) ,CX d p0 p1 = some R→Aj Tryz.prog 41 [.d (Au p0),.d (Ad p1)] (.d (Ah 2 Ai R)))
 | 0=>by
  exact z26
 | d + 1=>by
  have ih:=OM d
  exact Uu d _ ih
theorem UT (d:Nat):∀ (p0:Af) (p1:A2) (R:(List An)) ,CX d p0 p1 = some R→Aj Tryz.prog 41 [.d (Au p0),.d (Ad p1)] (.d (Ah 2 Ai R)):=OM d
theorem US (d:Nat) (self_types_kind:((List AC)→A2→Option (Int × Int))) (ih_types_kind:∀ (p0:(List AC)) (p1:A2) (R:(Int × Int)) ,self_types_kind p0 p1 = some R→Aj Tryz.prog 42 [.d (Ah 26 A0 p0),.d (Ad p1)] (.tup [.d (.int .i64 R.1),.d (.int .i64 R.2)])) (p0:(List AC)) (p1:A2) (R:(Int × Int)) (h:Nk d self_types_kind p0 p1 = some R):Aj Tryz.prog 42 [.d (Ah 26 A0 p0),.d (Ad p1)] (.tup [.d (.int .i64 R.1),.d (.int .i64 R.2)]):=by
 refine Dk [10] Tryz.func42 (by kernel_rfl) ?_
 unfold Nk at h
 refine FW {p:Bool // LI p1 p0 p = some R} (fun p=>BB 70 [(0,.d (Ah 26 A0 p0)),(3,.ptr 3 1 0),(6,.d (.bool p.1))] [(3,.var [.d (.int .i64 p1.Op),.d (.int .i64 p1.Num),.d (.str p1.Name),.d (.int .i64 p1.Column),.d (Ah 1 (D.int .i64) p1.Columns),.d (Ah 2 Ai p1.Dims),.d (.int .i64 p1.Cond.Op),.d (.int .i64 p1.Cond.Column),.d (.int .i64 p1.Cond.Code),.d (.int .i64 p1.Cond.Low),.d (.int .i64 p1.Cond.High),.d (Ah 6 Ax p1.Cond.Kids),.d (.int .i64 p1.Event.Op),.d (.int .i64 p1.Event.Column),.d (.int .i64 p1.Event.Code),.d (.int .i64 p1.Event.Low),.d (.int .i64 p1.Event.High),.d (Ah 6 Ax p1.Event.Kids),.d (Ah 19 Bn p1.Kids)],1)]) ?_ fun p=>?_
 ·refine z5 h (fun p=>BB 70 [(0,.d (Ah 26 A0 p0)),(3,.ptr 3 1 0),(6,.d (.bool p.1)),(13,.d (Ah 19 Bn p1.Kids)),(14,.d (.int .i64 ((p1.Kids.length:Nat):Int))),(15,.d (.int .i64 p.2))] [(3,.var [.d (.int .i64 p1.Op),.d (.int .i64 p1.Num),.d (.str p1.Name),.d (.int .i64 p1.Column),.d (Ah 1 (D.int .i64) p1.Columns),.d (Ah 2 Ai p1.Dims),.d (.int .i64 p1.Cond.Op),.d (.int .i64 p1.Cond.Column),.d (.int .i64 p1.Cond.Code),.d (.int .i64 p1.Cond.Low),.d (.int .i64 p1.Cond.High),.d (Ah 6 Ax p1.Cond.Kids),.d (.int .i64 p1.Event.Op),.d (.int .i64 p1.Event.Column),.d (.int .i64 p1.Event.Code),.d (.int .i64 p1.Event.Low),.d (.int .i64 p1.Event.High),.d (Ah 6 Ax p1.Event.Kids),.d (Ah 19 Bn p1.Kids)],1)]) A4 fun _ _ ⟨v6_1,v15_1⟩ h=>?_
  simp only [PM] at h
  refine AE h (fun h=>?_) fun h=>?_
  ·refine Bd (f:=Bn) h fun x17 _ h=>?_
   rw [Ab x17]
   conv=>whnf
   obtain ⟨x22,hx22,h⟩:=A8 h
   first | refine Av (ih_types_kind _ _ _ hx22) ?_ | (simp only [List.length_map]; refine Av (ih_types_kind _ _ _ hx22) ?_)
   refine AE h (fun h=>?_) fun h=>?_
   ·exact z16
   exact z25
  exact z36
 obtain ⟨j6_1,h⟩:=p
 simp only [LI] at h
 refine AE h (fun h=>?_) fun h=>?_
 ·refine z5 h (fun p=>BB 70 [(0,.d (Ah 26 A0 p0)),(3,.ptr 3 1 0),(11,.d (.int .i64 p))] [(3,.var [.d (.int .i64 p1.Op),.d (.int .i64 p1.Num),.d (.str p1.Name),.d (.int .i64 p1.Column),.d (Ah 1 (D.int .i64) p1.Columns),.d (Ah 2 Ai p1.Dims),.d (.int .i64 p1.Cond.Op),.d (.int .i64 p1.Cond.Column),.d (.int .i64 p1.Cond.Code),.d (.int .i64 p1.Cond.Low),.d (.int .i64 p1.Cond.High),.d (Ah 6 Ax p1.Cond.Kids),.d (.int .i64 p1.Event.Op),.d (.int .i64 p1.Event.Column),.d (.int .i64 p1.Event.Code),.d (.int .i64 p1.Event.Low),.d (.int .i64 p1.Event.High),.d (Ah 6 Ax p1.Event.Kids),.d (Ah 19 Bn p1.Kids)],1)]) A4 fun _ _ v11_2 h=>?_
  simp only [PN] at h
  refine AE h (fun h=>?_) fun h=>?_
  ·conv=>whnf
   refine z12 ?_
   refine Bd (f:=A0) h fun x47 _ h=>?_
   refine AE h (fun h=>?_) fun h=>?_
   ·refine Bd (f:=A0) h fun x55 _ h=>?_
    exact z16
   exact z40
  exact z16
 refine AE h (fun h=>?_) fun h=>?_
 ·exact z16
 refine AF h (fun _=>Mk _ _) fun x65 h=>?_
 refine AE h (fun h=>?_) fun h=>?_
 ·exact z16
 exact z16
theorem PO:∀ d:Nat,(∀ (p0:(List AC)) (p1:A2) (R:(Int × Int)) ,Ge d p0 p1 = some R→Aj Tryz.prog 42 [.d (Ah 26 A0 p0),.d (Ad p1)] (.tup [.d (.int .i64 R.1),.d (.int .i64 R.2)]))
 | 0=>by
  exact z26
 | d + 1=>by
  have ih:=PO d
  exact US d _ ih
theorem Wv (d:Nat):∀ (p0:(List AC)) (p1:A2) (R:(Int × Int)) ,Ge d p0 p1 = some R→Aj Tryz.prog 42 [.d (Ah 26 A0 p0),.d (Ad p1)] (.tup [.d (.int .i64 R.1),.d (.int .i64 R.2)]):=PO d
theorem Ro (d:Nat) (p0:Af) (p1:(List An)) (p2:(List AC)) (p3:A2) (R:(Int × Int)) (h:Hb d p0 p1 p2 p3 = some R):Aj Tryz.prog 19 [.d (Au p0),.d (Ah 2 Ai p1),.d (Ah 26 A0 p2),.d (Ad p3)] (.tup [.d (.int .i64 R.1),.d (.int .i64 R.2)]):=by
 refine BF Tryz.func19 ?_
 unfold Hb at h
 refine AF h (fun _=>Nv _ _ _ _) fun x12 h=>?_
 refine AE h (fun h=>?_) fun h=>?_
 ·exact z16
 refine AF h (fun _=>OD _ _ _) fun x16 h=>?_
 refine AE h (fun h=>?_) fun h=>?_
 ·exact z22
 refine AF h (fun _=>UT _ _ _ _) fun x22 h=>?_
 refine AF h (fun _=>Kk _ _ _) fun x23 h=>?_
 refine AE h (fun h=>?_) fun h=>?_
 ·exact z16
 refine AF h (fun _=>Wv _ _ _ _) fun x28 h=>?_
 exact z16
theorem Ht (p0:(List An)) (R:(List An)) (h:Ew p0 = some R):Aj Tryz.prog 106 [.d (Ah 2 Ai p0)] (.d (Ah 2 Ai R)):=by
 obtain ⟨hr,h⟩:=Dm h
 obtain rfl:=Option.some.inj h
 refine BF Tryz.func106 ?_
 conv=>whnf
 refine ⟨fun b hb=>?_⟩
 cases b
 ·exact z42
 ·conv=>whnf
  have:p0 = []:=by
   cases p0 with
   | nil=>rfl
   | cons a r=>exact absurd (hb (by simp)) (by simp)
  subst this
  exact z32
theorem EH (p0:(List EM)) (R:(List EM)) (h:C1 p0 = some R):Aj Tryz.prog 123 [.d (Ah 7 Cr p0)] (.d (Ah 7 Cr R)):=by
 obtain ⟨hr,h⟩:=Dm h
 obtain rfl:=Option.some.inj h
 refine BF Tryz.func123 ?_
 conv=>whnf
 refine ⟨fun b hb=>?_⟩
 cases b
 ·exact z42
 ·conv=>whnf
  have:p0 = []:=by
   cases p0 with
   | nil=>rfl
   | cons a r=>exact absurd (hb (by simp)) (by simp)
  subst this
  exact z32
theorem Hs (p0:(List AI)) (R:(List AI)) (h:Ev p0 = some R):Aj Tryz.prog 124 [.d (Ah 2 Cf p0)] (.d (Ah 2 Cf R)):=by
 obtain ⟨hr,h⟩:=Dm h
 obtain rfl:=Option.some.inj h
 refine BF Tryz.func124 ?_
 conv=>whnf
 refine ⟨fun b hb=>?_⟩
 cases b
 ·exact z42
 ·conv=>whnf
  have:p0 = []:=by
   cases p0 with
   | nil=>rfl
   | cons a r=>exact absurd (hb (by simp)) (by simp)
  subst this
  exact z32
theorem EG (p0:(List GM)) (R:(List GM)) (h:C0 p0 = some R):Aj Tryz.prog 125 [.d (Ah 6 En p0)] (.d (Ah 6 En R)):=by
 obtain ⟨hr,h⟩:=Dm h
 obtain rfl:=Option.some.inj h
 refine BF Tryz.func125 ?_
 conv=>whnf
 refine ⟨fun b hb=>?_⟩
 cases b
 ·exact z42
 ·conv=>whnf
  have:p0 = []:=by
   cases p0 with
   | nil=>rfl
   | cons a r=>exact absurd (hb (by simp)) (by simp)
  subst this
  exact z32
theorem Io (p0:(List X9)) (R:(List X9)) (h:EL p0 = some R):Aj Tryz.prog 126 [.d (Ah 2 MG p0)] (.d (Ah 2 MG R)):=by
 obtain ⟨hr,h⟩:=Dm h
 obtain rfl:=Option.some.inj h
 refine BF Tryz.func126 ?_
 conv=>whnf
 refine ⟨fun b hb=>?_⟩
 cases b
 ·exact z42
 ·conv=>whnf
  have:p0 = []:=by
   cases p0 with
   | nil=>rfl
   | cons a r=>exact absurd (hb (by simp)) (by simp)
  subst this
  exact z32
theorem HE (p0:AA) (R:AA) (h:GA p0 = some R):Aj Tryz.prog 56 [.d (Bv p0)] (.d (Bv R)):=by
 refine BF Tryz.func56 ?_
 unfold GA at h
 refine AF h (fun _=>Ht _ _) fun x8 h=>?_
 refine AF h (fun _=>EH _ _) fun x14 h=>?_
 obtain ⟨P1,i1,h⟩:=A9 h
 refine loop {p:Nat × Unit // P1 p.1 p.2 = some R} (fun p=>BB 70 [(1,.ptr 1 1 0),(2,.ptr 2 1 0),(19,.d (Ah 7 Cr x14)),(20,.d (.int .i64 ((x14.length:Nat):Int))),(21,.d (.int .i64 0))] [(1,.var [.d (.int .i64 p0.Kind),.d (.int .i64 p0.Number.Num),.d (.int .i64 p0.Number.Den),.d (Ah 2 Ai x8),.d (.int .i64 p0.Table.Measure),.d (Ah 7 Cr x14),.d (.int .i64 p0.Model.Measure),.d (Ah 1 (D.int .i64) p0.Model.Terms),.d (Ah 2 Cf p0.Model.Coefs),.d (.int .i64 p0.Model.Residual.Num),.d (.int .i64 p0.Model.Residual.Den),.d (.int .i64 p0.Model.Total.Num),.d (.int .i64 p0.Model.Total.Den),.d (.int .i64 p0.Model.Count),.d (.int .i64 p0.Model.Free),.d (Ah 6 En p0.Curve),.d (Ah 2 MG p0.Hist),.d (.int .i64 p0.Box.Count),.d (.int .i64 p0.Box.Least),.d (.int .i64 p0.Box.Lower),.d (.int .i64 p0.Box.Middle),.d (.int .i64 p0.Box.Upper),.d (.int .i64 p0.Box.Greatest),.d (Ah 1 (D.int .i64) p0.Lineage)],1),(2,.var [.d (.int .i64 0),.d (.int .i64 0),.d (.int .i64 0),.d (.nil 2),.d (.int .i64 0),.d (.nil 7),.d (.int .i64 0),.d (.nil 1),.d (.nil 2),.d (.int .i64 0),.d (.int .i64 0),.d (.int .i64 0),.d (.int .i64 0),.d (.int .i64 0),.d (.int .i64 0),.d (.nil 6),.d (.nil 2),.d (.int .i64 0),.d (.int .i64 0),.d (.int .i64 0),.d (.int .i64 0),.d (.int .i64 0),.d (.int .i64 0),.d (.nil 1)],1)]) (fun p=>p.1.1) ⟨(_,()),h⟩ ?_ fun p=>?_
 ·exact Ak
 obtain ⟨⟨k1,_⟩,h⟩:=p
 obtain ⟨k1,rfl,hF2⟩:=i1 _ _ h
 have h:=hF2
 simp only [Kr] at h
 refine AE h (fun h=>?_) fun h=>?_
 ·refine Bd (f:=Cr) h fun x24 _ h=>?_
  conv=>whnf
  refine z12 ?_
  refine AF h (fun _=>Da _ _) fun x36 h=>?_
  refine AF h (fun _=>Da _ _) fun x39 h=>?_
  refine Bd (f:=Cr) h fun x40 _ h=>?_
  exact z52
 conv=>whnf
 try simp only [Ks] at h
 refine z12 ?_
 refine AF h (fun _=>Da _ _) fun x48 h=>?_
 refine AF h (fun _=>Hs _ _) fun x52 h=>?_
 conv=>whnf
 refine z12 ?_
 refine AF h (fun _=>EG _ _) fun x59 h=>?_
 refine AF h (fun _=>Io _ _) fun x62 h=>?_
 refine AF h (fun _=>Da _ _) fun x65 h=>?_
 conv=>whnf
 refine ⟨.inl ?_⟩
 exact A5 h
theorem MK (p0:A3) (p1:ByteArray) (R:AA) (h:CP p0 p1 = some R):Aj Tryz.prog 43 [.d (B6 p0),.d (.str p1)] (.d (Bv R)):=by
 refine BF Tryz.func43 ?_
 unfold CP at h
 refine z5 h (fun p=>BB 30 [(1,.d (.str p1)),(2,.ptr 2 1 0),(4,.ptr 4 1 0),(5,.d (.int .i64 p))] [(2,.var [.d (Ah 2 Ae p0.f_plan.f_s.Lists),.d (Ah 7 Ag p0.f_plan.f_s.Columns),.d (.str p0.f_plan.f_x.Project),.d (.int .i64 p0.f_plan.f_x.Version),.d (Ah 2 Ai p0.f_plan.f_x.Picks),.d (Ah 1 (Ah 1 (D.int .i64)) p0.f_plan.f_x.Rows),.d (Ah 26 A0 p0.f_before)],1),(4,.var [.d (.int .i64 0),.d (.int .i64 0),.d (.int .i64 0),.d (.nil 2),.d (.int .i64 0),.d (.nil 7),.d (.int .i64 0),.d (.nil 1),.d (.nil 2),.d (.int .i64 0),.d (.int .i64 0),.d (.int .i64 0),.d (.int .i64 0),.d (.int .i64 0),.d (.int .i64 0),.d (.nil 6),.d (.nil 2),.d (.int .i64 0),.d (.int .i64 0),.d (.int .i64 0),.d (.int .i64 0),.d (.int .i64 0),.d (.int .i64 0),.d (.nil 1)],1)]) Ak fun _ _ v5_1 h=>?_
 simp only [EA] at h
 refine AE h (fun h=>?_) fun h=>?_
 ·refine Bd (f:=A0) h fun x17 _ h=>?_
  refine AE h (fun h=>?_) fun h=>?_
  ·refine Bd (f:=A0) h fun x25 _ h=>?_
   refine AF h (fun _=>HE _ _) fun x28 h=>?_
   exact A5 h
  conv=>whnf
  exact z43
 conv=>whnf
 try simp only [EB] at h
 exact A5 h
theorem HG (p0:A3) (p1:ByteArray) (R:AA)  (h:CP p0 p1 = some R):CZ Tryz.prog 43 [.cc none [.d (Ah 2 Ae p0.f_plan.f_s.Lists),.d (Ah 7 Ag p0.f_plan.f_s.Columns),.d (.str p0.f_plan.f_x.Project),.d (.int .i64 p0.f_plan.f_x.Version),.d (Ah 2 Ai p0.f_plan.f_x.Picks),.d (Ah 1 (Ah 1 (D.int .i64)) p0.f_plan.f_x.Rows),.own 26 100 (List.map A0 p0.f_before)],.d (.str p1)] [.cc none [.d (Ah 2 Ae p0.f_plan.f_s.Lists),.d (Ah 7 Ag p0.f_plan.f_s.Columns),.d (.str p0.f_plan.f_x.Project),.d (.int .i64 p0.f_plan.f_x.Version),.d (Ah 2 Ai p0.f_plan.f_x.Picks),.d (Ah 1 (Ah 1 (D.int .i64)) p0.f_plan.f_x.Rows),.own 26 100 (List.map A0 p0.f_before)],.any] (.d (Bv R)):=by
 refine Ns Tryz.func43 (by kernel_rfl) rfl ?_ ?_
 ·intro i x y hx hy
  match i,hx,hy with
  | 0,hx,hy=>cases Option.some.inj hx; cases Option.some.inj hy; exact ⟨[_,_,_,_,_,_],_,_,_,_,rfl,rfl⟩
  | 1,hx,hy=>simp at hx hy; subst hx; subst hy; trivial
  | i + 2,hx,hy=>simp at hx
 unfold CP at h
 conv=>whnf
 obtain ⟨P1,i1,h⟩:=A9 h
 refine loop {p:Nat × Int // P1 p.1 p.2 = some R} (fun p=>BB 30 [(1,.d (.str p1)),(2,.ptr 2 1 0),(4,.ptr 4 1 0),(5,.d (.int .i64 p.1.2))] [(0,.row 26 100 (List.map A0 p0.f_before),0),(2,.var [.d (Ah 2 Ae p0.f_plan.f_s.Lists),.d (Ah 7 Ag p0.f_plan.f_s.Columns),.d (.str p0.f_plan.f_x.Project),.d (.int .i64 p0.f_plan.f_x.Version),.d (Ah 2 Ai p0.f_plan.f_x.Picks),.d (Ah 1 (Ah 1 (D.int .i64)) p0.f_plan.f_x.Rows),.sl 0 0],1),(4,.var [.d (.int .i64 0),.d (.int .i64 0),.d (.int .i64 0),.d (.nil 2),.d (.int .i64 0),.d (.nil 7),.d (.int .i64 0),.d (.nil 1),.d (.nil 2),.d (.int .i64 0),.d (.int .i64 0),.d (.int .i64 0),.d (.int .i64 0),.d (.int .i64 0),.d (.int .i64 0),.d (.nil 6),.d (.nil 2),.d (.int .i64 0),.d (.int .i64 0),.d (.int .i64 0),.d (.int .i64 0),.d (.int .i64 0),.d (.int .i64 0),.d (.nil 1)],1)]) (fun p=>p.1.1) ⟨(_,_),h⟩ ?_ fun p=>?_
 ·refine QM ?_
  conv=>whnf
  exact eN
 obtain ⟨⟨k1,v5_1⟩,h⟩:=p
 obtain ⟨k1,rfl,h⟩:=i1 _ _ h
 simp only [EA] at h
 conv=>whnf
 refine Rq h Cj (fun h=>?_) (fun h=>?_)
 ·conv=>whnf
  refine Tc (f:=A0) h Cj fun x17 hx17 h=>?_
  conv=>whnf
  refine ZV (f:=A0) hx17 Cj ?_
  conv=>whnf
  refine Rq h Cj (fun h=>?_) (fun h=>?_)
  ·conv=>whnf
   refine Tc (f:=A0) h Cj fun x25 hx25 h=>?_
   conv=>whnf
   refine ZV (f:=A0) hx25 Cj ?_
   conv=>whnf
   obtain ⟨x28,hx28,h⟩:=A8 h
   refine Av (HE _ _ hx28) ?_
   conv=>whnf
   exact z45
  conv=>whnf
  refine ⟨⟨(_,_),h⟩,?_,Nat.lt_succ_self _⟩
  refine QM ?_
  conv=>whnf
  exact eN
 conv=>whnf
 try simp only [EB] at h
 exact z45
theorem Q7 (d:Nat) (self_condition_tell:(Ar→(Ar→Option Int)→Option Int)) (ih_condition_tell:∀ (p0:Ar) (p1:(Ar→Option Int)) (f_p1:FuncId) (c_p1:List D) (R:Int) (h_p1:∀ (a0:Ar) r,p1 a0 = some r→Aj Tryz.prog f_p1 ([.d (Ac a0)]++c_p1.map .d) (.d (.int .i64 r))),self_condition_tell p0 p1 = some R→Aj Tryz.prog 238 [.d (Ac p0),.d (.fn f_p1 c_p1)] (.d (.int .i64 R))) (p0:Ar) (p1:(Ar→Option Int)) (f_p1:FuncId) (c_p1:List D) (R:Int) (h_p1:∀ (a0:Ar) r,p1 a0 = some r→Aj Tryz.prog f_p1 ([.d (Ac a0)]++c_p1.map .d) (.d (.int .i64 r))) (h:Iy d self_condition_tell p0 p1 = some R):Aj Tryz.prog 238 [.d (Ac p0),.d (.fn f_p1 c_p1)] (.d (.int .i64 R)):=by
 refine BF Tryz.func238 ?_
 unfold Iy at h
 refine AE h (fun h=>?_) fun h=>?_
 ·exact z16
 refine AE h (fun h=>?_) fun h=>?_
 ·conv=>whnf
  refine z12 ?_
  refine Bd (f:=Ax) h fun x13 _ h=>?_
  rw [Aa x13]
  conv=>whnf
  obtain ⟨x16,hx16,h⟩:=A8 h
  first | refine Av (ih_condition_tell _ _ _ _ _ h_p1 hx16) ?_ | (simp only [List.length_map]; refine Av (ih_condition_tell _ _ _ _ _ h_p1 hx16) ?_)
  refine Bd (f:=Ax) h fun x19 _ h=>?_
  rw [Aa x19]
  conv=>whnf
  obtain ⟨x22,hx22,h⟩:=A8 h
  first | refine Av (ih_condition_tell _ _ _ _ _ h_p1 hx22) ?_ | (simp only [List.length_map]; refine Av (ih_condition_tell _ _ _ _ _ h_p1 hx22) ?_)
  exact z16
 refine AE h (fun h=>?_) fun h=>?_
 ·conv=>whnf
  refine z12 ?_
  refine Bd (f:=Ax) h fun x28 _ h=>?_
  rw [Aa x28]
  conv=>whnf
  obtain ⟨x31,hx31,h⟩:=A8 h
  first | refine Av (ih_condition_tell _ _ _ _ _ h_p1 hx31) ?_ | (simp only [List.length_map]; refine Av (ih_condition_tell _ _ _ _ _ h_p1 hx31) ?_)
  refine Bd (f:=Ax) h fun x34 _ h=>?_
  rw [Aa x34]
  conv=>whnf
  obtain ⟨x37,hx37,h⟩:=A8 h
  first | refine Av (ih_condition_tell _ _ _ _ _ h_p1 hx37) ?_ | (simp only [List.length_map]; refine Av (ih_condition_tell _ _ _ _ _ h_p1 hx37) ?_)
  exact z16
 refine AE h (fun h=>?_) fun h=>?_
 ·refine Bd (f:=Ax) h fun x43 _ h=>?_
  rw [Aa x43]
  conv=>whnf
  obtain ⟨x46,hx46,h⟩:=A8 h
  first | refine Av (ih_condition_tell _ _ _ _ _ h_p1 hx46) ?_ | (simp only [List.length_map]; refine Av (ih_condition_tell _ _ _ _ _ h_p1 hx46) ?_)
  exact z16
 conv=>whnf
 rw [Gx]
 refine AF h (fun _=>h_p1 _ _) fun x50 h=>?_
 exact z16
theorem KQ:∀ d:Nat,(∀ (p0:Ar) (p1:(Ar→Option Int)) (f_p1:FuncId) (c_p1:List D) (R:Int) (h_p1:∀ (a0:Ar) r,p1 a0 = some r→Aj Tryz.prog f_p1 ([.d (Ac a0)]++c_p1.map .d) (.d (.int .i64 r))),H6 d p0 p1 = some R→Aj Tryz.prog 238 [.d (Ac p0),.d (.fn f_p1 c_p1)] (.d (.int .i64 R)))
 | 0=>by
  exact z26
 | d + 1=>by
  have ih:=KQ d
  exact Q7 d _ ih
theorem Rx (d:Nat):∀ (p0:Ar) (p1:(Ar→Option Int)) (f_p1:FuncId) (c_p1:List D) (R:Int) (h_p1:∀ (a0:Ar) r,p1 a0 = some r→Aj Tryz.prog f_p1 ([.d (Ac a0)]++c_p1.map .d) (.d (.int .i64 r))),H6 d p0 p1 = some R→Aj Tryz.prog 238 [.d (Ac p0),.d (.fn f_p1 c_p1)] (.d (.int .i64 R)):=KQ d
theorem NL (p0:Ar) (q0:Af) (q1:(List Int)) (R:Int) (h:GP p0 q0 q1 = some R):Aj Tryz.prog 239 [.d (Ac p0),.d (.ptr [(Ah 2 Ae q0.Lists),(Ah 7 Ag q0.Columns)]),.d (.ptr [(Ah 1 (D.int .i64) q1)])] (.d (.int .i64 R)):=by
 refine BF Tryz.func239 ?_
 unfold GP at h
 conv=>whnf
 refine z12 ?_
 refine Bd (f:=(D.int .i64)) h fun x10 _ h=>?_
 refine AF h (fun _=>LO _ _ _ _) fun x12 h=>?_
 exact z16
theorem Q4 (d:Nat) (p0:Af) (p1:Ar) (p2:(List Int)) (R:Int) (h:Jp d p0 p1 p2 = some R):Aj Tryz.prog 171 [.d (Au p0),.d (Ac p1),.d (Ah 1 (D.int .i64) p2)] (.d (.int .i64 R)):=by
 refine BF Tryz.func171 ?_
 unfold Jp at h
 refine AF h (fun _=>Rx _ _ _ _ _ _ (fun a0 _ h=>NL a0 _ _ _ h)) fun x9 h=>?_
 exact z16
theorem LP (d:Nat) (p0:Af) (p1:Ar) (p2:(List An)) (p3:(List Int)) (R:Int) (h:FP d p0 p1 p2 p3 = some R):Aj Tryz.prog 99 [.d (Au p0),.d (Ac p1),.d (Ah 2 Ai p2),.d (Ah 1 (D.int .i64) p3)] (.d (.int .i64 R)):=by
 refine Dk [6] Tryz.func99 (by kernel_rfl) ?_
 unfold FP at h
 conv=>whnf
 obtain ⟨hr,h⟩:=Dm h
 refine z8 ?_
 try rw [bZ]
 refine FW {p:(List Int) // FF p2 p3 p0 d p1 p = some R} (fun p=>BB 66 [(2,.d (Ah 2 Ai p2)),(3,.d (Ah 1 (D.int .i64) p3)),(4,.ptr 4 1 0),(5,.ptr 5 1 0),(9,.sl 18 1)] [(4,.var [.d (Ah 2 Ae p0.Lists),.d (Ah 7 Ag p0.Columns)],1),(5,.var [.d (.int .i64 p1.Op),.d (.int .i64 p1.Column),.d (.int .i64 p1.Code),.d (.int .i64 p1.Low),.d (.int .i64 p1.High),.d (Ah 6 Ax p1.Kids)],1),(18,.row 1 3 (List.map (D.int .i64) p.1),1)]) ?_ fun p=>?_
 ·refine z5 h (fun p=>BB 66 [(2,.d (Ah 2 Ai p2)),(3,.d (Ah 1 (D.int .i64) p3)),(4,.ptr 4 1 0),(5,.ptr 5 1 0),(9,.sl 18 1),(10,.d (.int .i64 p.1))] [(4,.var [.d (Ah 2 Ae p0.Lists),.d (Ah 7 Ag p0.Columns)],1),(5,.var [.d (.int .i64 p1.Op),.d (.int .i64 p1.Column),.d (.int .i64 p1.Code),.d (.int .i64 p1.Low),.d (.int .i64 p1.High),.d (Ah 6 Ax p1.Kids)],1),(18,.row 1 3 (List.map (D.int .i64) p.2),1)]) A4 fun _ _ ⟨v10_1,b18_1⟩ h=>?_
  simp only [FD] at h
  refine AE h (fun h=>?_) fun h=>?_
  ·refine AF h (fun _=>LD _ _ _ _ _) fun x30 h=>?_
   refine Tc (f:=(D.int .i64)) h Cj fun x33 hx33 h=>?_
   refine ZV (f:=(D.int .i64)) hx33 Cj ?_
   conv=>whnf
   try rw [bv]
   exact BI ⟨(_,(_,_)),h⟩ A4
  exact z36
 obtain ⟨k18_1,h⟩:=p
 simp only [FF] at h
 refine z5 h (fun p=>BB 66 [(3,.d (Ah 1 (D.int .i64) p3)),(4,.ptr 4 1 0),(5,.ptr 5 1 0),(9,.sl 18 1),(34,.d (Ah 2 Ai p2)),(35,.d (.int .i64 ((p2.length:Nat):Int))),(36,.d (.int .i64 p.1))] [(4,.var [.d (Ah 2 Ae p0.Lists),.d (Ah 7 Ag p0.Columns)],1),(5,.var [.d (.int .i64 p1.Op),.d (.int .i64 p1.Column),.d (.int .i64 p1.Code),.d (.int .i64 p1.Low),.d (.int .i64 p1.High),.d (Ah 6 Ax p1.Kids)],1),(18,.row 1 3 (List.map (D.int .i64) p.2),1)]) A4 fun _ _ ⟨v36_2,b18_2⟩ h=>?_
 simp only [FE] at h
 refine AE h (fun h=>?_) fun h=>?_
 ·refine Bd (f:=Ai) h fun x39 _ h=>?_
  conv=>whnf
  refine z12 ?_
  refine Bd (f:=(D.int .i64)) h fun x49 _ h=>?_
  refine AF h (fun _=>LD _ _ _ _ _) fun x51 h=>?_
  refine AE h (fun h=>?_) fun h=>?_
  ·exact z16
  refine Tc (f:=(D.int .i64)) h Cj fun x60 hx60 h=>?_
  refine ZV (f:=(D.int .i64)) hx60 Cj ?_
  conv=>whnf
  try rw [bv]
  exact BI ⟨(_,(_,_)),h⟩ A4
 refine AF h (fun _=>Q4 _ _ _ _ _) fun x65 h=>?_
 exact z16
theorem Ha (d:Nat) (p0:Af) (p1:A1) (p2:Ar) (R:(List Int)) (h:Dz d p0 p1 p2 = some R):Aj Tryz.prog 44 [.d (Au p0),.d (CM p1),.d (Ac p2)] (.own 1 3 (List.map (D.int .i64) R)):=by
 refine Dk [3] Tryz.func44 (by kernel_rfl) ?_
 unfold Dz at h
 refine FW {p:Unit // E2 p1 d p0 p2 = some R} (fun p=>BB 45 [(3,.ptr 3 1 0),(4,.ptr 4 1 0),(5,.ptr 5 1 0)] [(3,.var [.d (Ah 2 Ae p0.Lists),.d (Ah 7 Ag p0.Columns)],1),(4,.var [.d (.str p1.Project),.d (.int .i64 p1.Version),.d (Ah 2 Ai p1.Picks),.d (Ah 1 (Ah 1 (D.int .i64)) p1.Rows)],1),(5,.var [.d (.int .i64 p2.Op),.d (.int .i64 p2.Column),.d (.int .i64 p2.Code),.d (.int .i64 p2.Low),.d (.int .i64 p2.High),.d (Ah 6 Ax p2.Kids)],1)]) ?_ fun p=>?_
 ·conv=>whnf
  refine z12 ?_
  refine AF h (fun _=>Ea _ _ _ _) fun x12 h=>?_
  refine AE h (fun h=>?_) fun h=>?_
  ·obtain rfl:=Option.some.inj h
   refine ⟨.inr ?_⟩
   conv=>whnf
   refine z7 ?_
   conv=>whnf
   exact z15
  refine AF h (fun _=>H3 _ _ _ _) fun x19 h=>?_
  refine AF h (fun _=>Kk _ _ _) fun x20 h=>?_
  refine AE h (fun h=>?_) fun h=>?_
  ·conv=>whnf
   obtain rfl:=Option.some.inj h
   refine ⟨.inr ?_⟩
   conv=>whnf
   refine z7 ?_
   conv=>whnf
   exact z15
  conv=>whnf
  exact ⟨⟨(),h⟩,A4⟩
 obtain ⟨_,h⟩:=p
 simp only [E2] at h
 refine z5 h (fun p=>BB 45 [(3,.ptr 3 1 0),(4,.ptr 4 1 0),(5,.ptr 5 1 0),(7,.sl 7 1),(24,.d (Ah 1 (Ah 1 (D.int .i64)) p1.Rows)),(25,.d (.int .i64 ((p1.Rows.length:Nat):Int))),(26,.d (.int .i64 p.1))] [(3,.var [.d (Ah 2 Ae p0.Lists),.d (Ah 7 Ag p0.Columns)],1),(4,.var [.d (.str p1.Project),.d (.int .i64 p1.Version),.d (Ah 2 Ai p1.Picks),.d (Ah 1 (Ah 1 (D.int .i64)) p1.Rows)],1),(5,.var [.d (.int .i64 p2.Op),.d (.int .i64 p2.Column),.d (.int .i64 p2.Code),.d (.int .i64 p2.Low),.d (.int .i64 p2.High),.d (Ah 6 Ax p2.Kids)],1),(7,.row 1 3 (List.map (D.int .i64) p.2),1)]) A4 fun _ _ ⟨v26_1,b7_1⟩ h=>?_
 simp only [E1] at h
 refine AE h (fun h=>?_) fun h=>?_
 ·refine Bd (f:=(Ah 1 (D.int .i64))) h fun x29 _ h=>?_
  conv=>whnf
  refine z12 ?_
  conv=>whnf
  obtain ⟨hr,h⟩:=Dm h
  refine z9 ?_
  try simp only [List.length_map]
  rw [WE]
  conv=>whnf
  obtain ⟨x37,hx37,h⟩:=A8 h
  first | refine Av (LP _ _ _ _ _ _ hx37) ?_ | (simp only [List.length_map]; refine Av (LP _ _ _ _ _ _ hx37) ?_)
  refine AE h (fun h=>?_) fun h=>?_
  ·conv=>whnf
   obtain ⟨hr,h⟩:=Dm h
   refine z6 ?_
   try rw [M1]
   exact z25
  exact z25
 conv=>whnf
 obtain rfl:=Option.some.inj h
 refine ⟨.inr ?_⟩
 conv=>whnf
 refine z7 ?_
 conv=>whnf
 exact z15
theorem DX (p0:A1) (p1:(List Int)) (R:(List Int)) (h:Dv p0 p1 = some R):Aj Tryz.prog 45 [.d (CM p0),.d (Ah 1 (D.int .i64) p1)] (.d (Ah 1 (D.int .i64) R)):=by
 refine BF Tryz.func45 ?_
 unfold Dv at h
 refine z5 h (fun p=>BB 26 [(2,.ptr 2 1 0),(5,.sl 5 1),(8,.d (Ah 1 (D.int .i64) p1)),(9,.d (.int .i64 ((p1.length:Nat):Int))),(10,.d (.int .i64 p.1))] [(2,.var [.d (.str p0.Project),.d (.int .i64 p0.Version),.d (Ah 2 Ai p0.Picks),.d (Ah 1 (Ah 1 (D.int .i64)) p0.Rows)],1),(5,.row 1 3 (List.map (D.int .i64) p.2),1)]) Ak fun _ _ ⟨v10_1,b5_1⟩ h=>?_
 simp only [Gs] at h
 refine AE h (fun h=>?_) fun h=>?_
 ·refine Bd (f:=(D.int .i64)) h fun x12 _ h=>?_
  refine Bd (f:=(Ah 1 (D.int .i64))) h fun x18 _ h=>?_
  refine Bd (f:=(D.int .i64)) h fun x20 _ h=>?_
  conv=>whnf
  exact z28
 exact z30
theorem FI (p0:(List Int)) (p1:(Int→Option Bool)) (f_p1:FuncId) (c_p1:List D) (R:Int) (h_p1:∀ (a0:Int) r,p1 a0 = some r→Aj Tryz.prog f_p1 ([.d (.int .i64 a0)]++c_p1.map .d) (.d (.bool r))) (h:BX p0 p1 = some R):Aj Tryz.prog 240 [.d (Ah 1 (D.int .i64) p0),.d (.fn f_p1 c_p1)] (.d (.int .i64 R)):=by
 refine BF Tryz.func240 ?_
 unfold BX at h
 refine z5 h (fun p=>BB 19 [(0,.d (Ah 1 (D.int .i64) p0)),(1,.d (.fn f_p1 c_p1)),(7,.d (.int .i64 ((p0.length:Nat):Int))),(8,.d (.int .i64 p))] []) Ak fun _ _ v8_1 h=>?_
 simp only [Fy] at h
 refine AY h fun h=>?_
 refine Bd (f:=(D.int .i64)) h fun x14 _ h=>?_
 exact z33
theorem ID (p0:(List Int)) (p1:(Int→Option Bool)) (f_p1:FuncId) (c_p1:List D) (R:Bool) (h_p1:∀ (a0:Int) r,p1 a0 = some r→Aj Tryz.prog f_p1 ([.d (.int .i64 a0)]++c_p1.map .d) (.d (.bool r))) (h:BK p0 p1 = some R):Aj Tryz.prog 174 [.d (Ah 1 (D.int .i64) p0),.d (.fn f_p1 c_p1)] (.d (.bool R)):=by
 refine BF Tryz.func174 ?_
 unfold BK at h
 refine AF h (fun _=>FI _ _ _ _ _ h_p1) fun x7 h=>?_
 exact A5 h
theorem Qa (p0:An) (q0:Int) (R:Bool) (h:E9 p0 q0 = some R):Aj Tryz.prog 179 [.d (Ai p0),.d (.ptr [(.int .i64 q0)])] (.d (.bool R)):=by
 refine BF Tryz.func179 ?_
 unfold E9 at h
 exact A5 h
theorem Rn (p0:Aw) (p1:Int) (p2:Int) (p3:Int) (R:(Int × Bool)) (h:J1 p0 p1 p2 p3 = some R):Aj Tryz.prog 249 [.d (Ae p0),.d (.int .i64 p1),.d (.int .i64 p2),.d (.int .i64 p3)] (.tup [.d (.int .i64 R.1),.d (.bool R.2)]):=by
 refine BF Tryz.func249 ?_
 unfold J1 at h
 conv=>whnf
 refine z12 ?_
 refine AF h (fun _=>Hz _ _) fun x17 h=>?_
 refine AF h (fun _=>ME _ _ _) fun x19 h=>?_
 refine z5 h (fun p=>BB 45 [(1,.d (.int .i64 p1)),(2,.d (.int .i64 p2)),(3,.d (.int .i64 p3)),(4,.ptr 4 1 0),(10,.d (.int .i64 p.1)),(11,.d (.bool p.2.1)),(19,.d (Ah 1 (D.int .i64) x19)),(20,.d (.int .i64 ((x19.length:Nat):Int))),(21,.d (.int .i64 p.2.2))] [(4,.var [.d (.str p0.Name),.d (Ah 2 Bh p0.Codes)],1)]) Ak fun _ _ ⟨v10_1,v11_1,v21_1⟩ h=>?_
 simp only [KF] at h
 refine AY h fun h=>?_
 refine Bd (f:=(D.int .i64)) h fun x23 _ h=>?_
 refine AF h (fun _=>Kh _ _ _ _) fun x28 h=>?_
 refine AE h (fun h=>?_) fun h=>?_
 ·exact z24
 refine AF h (fun _=>Kh _ _ _ _) fun x34 h=>?_
 refine Ap h fun h=>?_
 exact z24
end Go.Proofs.YtjgeigjjfcnojaaGreatDoor.P
