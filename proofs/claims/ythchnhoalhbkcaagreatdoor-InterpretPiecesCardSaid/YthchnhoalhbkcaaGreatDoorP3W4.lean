/- P3W4 -/
import Derived.Test.YthchnhoalhbkcaaGreatDoorP3W3
open Go.Proofs.Tryz
set_option linter.unusedSimpArgs false
set_option linter.unusedVariables false
namespace Go.Proofs.YthchnhoalhbkcaaGreatDoor.P
open Go.Abs Go.Proofs
set_option maxRecDepth 100000
set_option maxHeartbeats 4000000
instance types_own_w:CS prog 137 (W2 prog 137 M3):=⟨λp0 p1 R h=>by
 refine Ux [8,19] func137 (by kernel_rfl) ?_;unfold M3 at h
 conv=>whnf
 refine⟨.inr ?_⟩;refine Fl {p:(List Ad) // Mv p1 p0 p=some R} (λp=>CJ 78 [(2,.ptr 2 1 0),(3,.ptr 3 1 0),(5,.ptr 5 1 0),(6,.cc (some 215) [.sl 5 1,.d (.ptr [(An 2 Ah p0.J),(An 7 Al p0.A)])])] [(2,.fvar [(An 2 Ah p0.J),(An 7 Al p0.A)],1),(3,.var [.d (.int .i64 p1.Op),.d (.int .i64 p1.L),.d (.str p1.H),.d (.int .i64 p1.B),.d (An 1 (D.int .i64) p1.A),.d (An 2 Ag p1.Ac),.d (.int .i64 p1.V.Op),.d (.int .i64 p1.V.B),.d (.int .i64 p1.V.Z),.d (.int .i64 p1.V.C),.d (.int .i64 p1.V.D),.d (An 6 A4 p1.V.E),.d (.int .i64 p1.U.Op),.d (.int .i64 p1.U.B),.d (.int .i64 p1.U.Z),.d (.int .i64 p1.U.C),.d (.int .i64 p1.U.D),.d (An 6 A4 p1.U.E),.d (An 19 Cg p1.E)],1),(5,.var [.sl 30 1],1),(30,.row 2 115 (List.map Ag p.1),1)]) ?_ λp=>?_
 ·conv=>whnf
  refine GN h λP1 i1 h=>?_;refine nd [(5,0,30,115)] {p:Nat×(Int×(List Ad)) // P1 p.1 p.2=some R} (λp=>CJ 78 [(2,.ptr 2 1 0),(3,.ptr 3 1 0),(5,.ptr 5 1 0),(6,.cc (some 215) [.sl 5 1,.d (.ptr [(An 2 Ah p0.J),(An 7 Al p0.A)])]),(13,.d (An 2 Ag p1.Ac)),(14,.d (.int .i64 (p1.Ac.length:Int))),(15,.d (.int .i64 p.1.2.1))] [(2,.fvar [(An 2 Ah p0.J),(An 7 Al p0.A)],1),(3,.var [.d (.int .i64 p1.Op),.d (.int .i64 p1.L),.d (.str p1.H),.d (.int .i64 p1.B),.d (An 1 (D.int .i64) p1.A),.d (An 2 Ag p1.Ac),.d (.int .i64 p1.V.Op),.d (.int .i64 p1.V.B),.d (.int .i64 p1.V.Z),.d (.int .i64 p1.V.C),.d (.int .i64 p1.V.D),.d (An 6 A4 p1.V.E),.d (.int .i64 p1.U.Op),.d (.int .i64 p1.U.B),.d (.int .i64 p1.U.Z),.d (.int .i64 p1.U.C),.d (.int .i64 p1.U.D),.d (An 6 A4 p1.U.E),.d (An 19 Cg p1.E)],1),(5,.var [.sl 30 1],1),(30,.row 2 115 (List.map Ag p.1.2.2),1)]) (λp=>p.1.1) ⟨(_,(_,_)),h⟩ ?_ λp=>?_
  ·conv=>whnf
   exact jO
  obtain⟨⟨k1,⟨v15_1,b30_1⟩⟩,h⟩:=p;obtain⟨k1,rfl,h⟩:=i1 _ _ h;simp only[Ur]at h;refine DI h (λh=>?_) λh=>?_
  ·refine Sy (f:=Ag) h λx17 _ h=>?_
   conv=>whnf
   refine z14 ?_;refine FV h (λ_=>schema_Least_w.h _ _ _ _) λx27 h=>?_
   conv=>whnf
   refine Te h λhr h=>?_;refine z8 ?_
   try rw[P5]
   conv=>whnf
   exact fZ ⟨(_,(_,_)),h⟩ Bw
  exact z23
 obtain⟨k30_1,h⟩:=p;simp only[Mv]at h;refine Fl {p:(List Ad) // Bu p1 p0 p=some R} (λp=>CJ 78 [(3,.ptr 3 1 0),(5,.ptr 5 1 0),(6,.cc (some 215) [.sl 5 1,.d (.ptr [(An 2 Ah p0.J),(An 7 Al p0.A)])])] [(3,.var [.d (.int .i64 p1.Op),.d (.int .i64 p1.L),.d (.str p1.H),.d (.int .i64 p1.B),.d (An 1 (D.int .i64) p1.A),.d (An 2 Ag p1.Ac),.d (.int .i64 p1.V.Op),.d (.int .i64 p1.V.B),.d (.int .i64 p1.V.Z),.d (.int .i64 p1.V.C),.d (.int .i64 p1.V.D),.d (An 6 A4 p1.V.E),.d (.int .i64 p1.U.Op),.d (.int .i64 p1.U.B),.d (.int .i64 p1.U.Z),.d (.int .i64 p1.U.C),.d (.int .i64 p1.U.D),.d (An 6 A4 p1.U.E),.d (An 19 Cg p1.E)],1),(5,.var [.sl 30 1],1),(30,.row 2 115 (List.map Ag p.1),1)]) ?_ λp=>?_
 ·conv=>whnf
  refine lC h FK (λe21 h=>?_) (λe21 h=>?_)
  ·conv=>whnf
   refine lL FK e21 ?_;refine DI h (λh=>?_) λh=>?_
   ·conv=>whnf
    exact z18
   exact z23
  conv=>whnf
  refine lC h FK (λe23 h=>?_) (λe23 h=>?_)
  ·conv=>whnf
   refine lL FK e23 ?_;refine DI h (λh=>?_) λh=>?_
   ·conv=>whnf
    exact z18
   exact z23
  conv=>whnf
  refine lC h FK (λe25 h=>?_) (λe25 h=>?_)
  ·conv=>whnf
   refine lL FK e25 ?_;refine DI h (λh=>?_) λh=>?_
   ·conv=>whnf
    exact z18
   exact z23
  conv=>whnf
  refine lC h FK (λe27 h=>?_) (λe27 h=>?_)
  ·conv=>whnf
   refine lL FK e27 ?_;refine DI h (λh=>?_) λh=>?_
   ·conv=>whnf
    exact z18
   exact z23
  conv=>whnf
  refine lC h FK (λe29 h=>?_) (λe29 h=>?_)
  ·conv=>whnf
   refine lL FK e29 ?_;refine DI h (λh=>?_) λh=>?_
   ·conv=>whnf
    exact z18
   exact z23
  refine DI h (λh=>?_) λh=>?_
  ·refine DI h (λh=>?_) λh=>?_
   ·conv=>whnf
    exact z18
   exact z23
  refine DI h (λh=>?_) λh=>?_
  ·conv=>whnf
   refine z14 ?_;refine FV h (λ_=>types_LevelOf_w.h _ _ _ _) λx61 h=>?_;refine FV h (λ_=>schema_Least_w.h _ _ _ _) λx62 h=>?_
   conv=>whnf
   refine Te h λhr h=>?_;refine z8 ?_
   try rw[P5]
   exact z23
  exact z23
 obtain⟨k30_2,h⟩:=p;simp only[Bu]at h
 conv=>whnf
 refine z7 h (λp=>CJ 78 [(5,.ptr 5 1 0),(6,.cc (some 215) [.sl 5 1,.d (.ptr [(An 2 Ah p0.J),(An 7 Al p0.A)])]),(67,.d (An 1 (D.int .i64) p1.A)),(68,.d (.int .i64 (p1.A.length:Int))),(69,.d (.int .i64 p.1))] [(5,.var [.sl 30 1],1),(30,.row 2 115 (List.map Ag p.2),1)]) Bw λ_ _ ⟨v69_2,b30_2⟩ h=>?_;simp only[Us]at h;refine DI h (λh=>?_) λh=>?_
 ·refine Sy (f:=(D.int .i64)) h λx71 _ h=>?_
  conv=>whnf
  refine Bp h λx75 hx75 h=>?_;refine Vk (types_own_c1_w.h _ _ _ _ hx75) ?_
  conv=>whnf
  exact fZ ⟨(_,(_,_)),h⟩ Bw
 conv=>whnf
 obtain rfl:=P3 h;refine⟨.inl ?_⟩
 conv=>whnf
 exact⟨Nv⟩⟩
instance questions_Merge_w:CS prog 138 (W1 prog 138 GV):=⟨λp0 R h=>by
 refine uD func138 ?_;unfold GV at h
 conv=>whnf
 refine z7 h (λp=>CJ 59 [(3,.sl 11 1),(4,.d (.int .i64 p.1)),(12,.d (An 1 (An 2 Ag) p0)),(13,.d (.int .i64 (p0.length:Int))),(14,.d (.int .i64 p.2.1))] [(11,.map (jZ .i64 (D.int .i64) p.2.2),1)]) CC λ_ _ ⟨v4_1,v14_1,b11_1⟩ h=>?_;simp only[G6]at h;refine DI h (λh=>?_) λh=>?_
 ·refine Sy (f:=(An 2 Ag)) h λx16 _ h=>?_
  conv=>whnf
  refine z7 h (λp=>CJ 59 [(3,.sl 11 1),(4,.d (.int .i64 p.1)),(12,.d (An 1 (An 2 Ag) p0)),(13,.d (.int .i64 (p0.length:Int))),(14,.d (.int .i64 v14_1)),(18,.d (An 2 Ag x16)),(19,.d (.int .i64 (x16.length:Int))),(20,.d (.int .i64 p.2.1))] [(11,.map (jZ .i64 (D.int .i64) p.2.2),1)]) CC λ_ _ ⟨v4_2,v20_2,b11_2⟩ h=>?_;simp only[G7]at h;refine DI h (λh=>?_) λh=>?_
  ·refine Sy (f:=Ag) h λx22 _ h=>?_
   conv=>whnf
   refine z14 ?_
   conv=>whnf
   refine⟨⟨by kernel_rfl,O8 .i64 (D.int .i64) x22.B b11_2⟩,?_⟩
   conv=>whnf
   refine TR (f:=(D.int .i64)) (es:=b11_2) (z:=0) ?_
   conv=>whnf
   refine⟨⟨by rfl,by kernel_rfl,O8 .i64 (D.int .i64) x22.B b11_2⟩,?_⟩
   conv=>whnf
   try rw[ZP .i64 (D.int .i64) x22.B (if x22.S>((Lu x22.B b11_2).getD 0)then x22.S else((Lu x22.B b11_2).getD 0))]
   exact Ao
  exact Ao
 conv=>whnf
 refine z7 h (λp=>CJ 59 [(3,.sl 11 1),(9,.sl 9 1),(41,.d (.int .i64 (IntKind.i64.wrap (v4_1+1)))),(42,.d (.int .i64 p.1))] [(9,.row 2 115 (List.map Ag p.2),1),(11,.map (jZ .i64 (D.int .i64) b11_1),1)]) CC λ_ _ ⟨v42_3,b9_3⟩ h=>?_;simp only[G8]at h;refine DI h (λh=>?_) λh=>?_
 ·conv=>whnf
  refine⟨⟨by kernel_rfl,O8 .i64 (D.int .i64) v42_3 b11_1⟩,?_⟩
  conv=>whnf
  refine TR (f:=(D.int .i64)) (es:=b11_1) (z:=0) ?_;refine DI h (λh=>?_) λh=>?_
  ·conv=>whnf
   refine⟨⟨by kernel_rfl,O8 .i64 (D.int .i64) v42_3 b11_1⟩,?_⟩
   conv=>whnf
   refine TR (f:=(D.int .i64)) (es:=b11_1) (z:=0) ?_;exact Ao
  exact Ao
 exact Ao⟩
instance {a0 a1 a2 a3}:LS (λrec1 s=>QY a0 a1 a2 a3 rec1 s.1 s.2) 36 [2,5,21,22] (λs=>[(23,.d (.int .i64 s.1))]) [2] (λs=>[(19,.row 1 33 (List.map (An 2 Ag) s.2),1)]):=⟨trivial⟩
theorem XE(d:Nat)(self_types_needs:Aa->Ap->Option (List Ad))(ih:W2 prog 65 self_types_needs):W2 prog 65 (IL d self_types_needs):=by
 intro p0 p1 R h;refine uD func65 ?_;unfold IL at h;exact Ao
theorem QZ:∀d:Nat,(W2 prog 65 (C4 d))
 | 0=>by
  exact z17
 | d+1=>by
  have ih:=QZ d;exact XE d _ ih
instance types_needs_w:CS prog 65 (∀(d:Nat),W2 prog 65 (C4 d)):=⟨λd=>QZ d⟩
instance {a0 a1 a2 a3}:LS (λrec1 s=>IK a0 a1 a2 a3 rec1 s.1 s.2) 70 [0,3,13,14] (λs=>[(6,.d (.bool s.1)),(15,.d (.int .i64 s.2))]) [3] (λs=>[]):=⟨trivial⟩
instance {a0 a1 a2}:LS (λrec2 s=>Sv a0 a1 a2 rec2 s) 70 [0,3] (λs=>[(11,.d (.int .i64 s))]) [3] (λs=>[]):=⟨trivial⟩
theorem Yi(d:Nat)(self_types_kind:(List A9)->Ap->Option (Int×Int))(ih:W2 prog 66 self_types_kind):W2 prog 66 (GI d self_types_kind):=by
 intro p0 p1 R h;refine Uv [10] func66 ?_;unfold GI at h;refine Fl {p:Bool // Om p1 p0 p=some R} (λp=>CJ 70 [(0,.d (An 26 A3 p0)),(3,.ptr 3 1 0),(6,.d (.bool p.1))] [(3,UV p1,1)]) ?_ λp=>?_
 ·exact Ao
 obtain⟨j6_1,h⟩:=p;exact Ao
theorem Sw:∀d:Nat,(W2 prog 66 (Ig d))
 | 0=>by
  exact z17
 | d+1=>by
  have ih:=Sw d;exact Yi d _ ih
instance types_kind_w:CS prog 66 (∀(d:Nat),W2 prog 66 (Ig d)):=⟨λd=>Sw d⟩
instance types_Expr_w:CS prog 25 (∀d:Nat,W4 prog 25 (KS d)):=⟨λd p0 p1 p2 p3 R h=>by
 refine uD func25 ?_;unfold KS at h;exact Ao⟩
instance {a0 a1 a2 a3 a4}:LS (λrec1 s=>I0 a0 a1 a2 a3 a4 rec1 s.1 s.2.1 s.2.2) 63 [1,2,3,11,12,27,28] (λs=>[(29,.d (.int .i64 s.1))]) [3] (λs=>[(11,.row 1 3 (List.map (D.int .i64) s.2.1),1),(12,.row 26 70 (List.map A3 s.2.2),1)]):=⟨trivial⟩
instance types_Program_w:CS prog 21 (∀d:Nat,W3 prog 21 (IJ d)):=⟨λd p0 p1 p2 R h=>by
 refine uD func21 ?_;unfold IJ at h;exact Ao⟩
instance slices_Clone_Lapi_Pick_api_Pick_w:CS prog 113 (W1 prog 113 Dx):=⟨λp0 R h=>by
 refine Te h λhr h=>?_;obtain rfl:=P3 h;refine o7 func113 ?_
 conv=>whnf
 refine⟨λb hb=>?_⟩
 cases b
 ·conv=>whnf
  refine z8 ?_;exact z31
 ·conv=>whnf
  have:p0=[]:=by
   cases p0 with
   | nil=>rfl
   | cons a r=>exact absurd (hb (by simp)) (by simp)
  subst this;refine⟨.inl ?_⟩
  conv=>whnf
  exact⟨rfl⟩⟩
instance slices_Clone_Lapi_TableCell_api_TableCell_w:CS prog 129 (∀(p0:List Aq)(R:List Aq)(h:Du p0=some R),Ax prog 129 [.d (An 7 A6 p0)] (.cc none [.own 7 141 (List.map A6 R)])):=⟨λp0 R h=>by
 refine Te h λhr h=>?_;obtain rfl:=P3 h;refine o7 func129 ?_
 conv=>whnf
 refine⟨λb hb=>?_⟩
 cases b
 ·conv=>whnf
  refine z8 ?_
  conv=>whnf
  exact⟨rfl⟩
 ·conv=>whnf
  have:p0=[]:=by
   cases p0 with
   | nil=>rfl
   | cons a r=>exact absurd (hb (by simp)) (by simp)
  subst this;exact⟨rfl⟩⟩
instance slices_Clone_Lapi_Frac_api_Frac_w:CS prog 130 (W1 prog 130 FP):=⟨λp0 R h=>by
 refine Te h λhr h=>?_;obtain rfl:=P3 h;refine o7 func130 ?_
 conv=>whnf
 refine⟨λb hb=>?_⟩
 cases b
 ·conv=>whnf
  refine z8 ?_;exact z31
 ·conv=>whnf
  have:p0=[]:=by
   cases p0 with
   | nil=>rfl
   | cons a r=>exact absurd (hb (by simp)) (by simp)
  subst this;refine⟨.inl ?_⟩
  conv=>whnf
  exact⟨rfl⟩⟩
instance slices_Clone_Lapi_CurveStep_api_CurveStep_w:CS prog 131 (W1 prog 131 Dt):=⟨λp0 R h=>by
 refine Te h λhr h=>?_;obtain rfl:=P3 h;refine o7 func131 ?_
 conv=>whnf
 refine⟨λb hb=>?_⟩
 cases b
 ·conv=>whnf
  refine z8 ?_;exact z31
 ·conv=>whnf
  have:p0=[]:=by
   cases p0 with
   | nil=>rfl
   | cons a r=>exact absurd (hb (by simp)) (by simp)
  subst this;refine⟨.inl ?_⟩
  conv=>whnf
  exact⟨rfl⟩⟩
instance slices_Clone_Lapi_Bin_api_Bin_w:CS prog 132 (W1 prog 132 Gw):=⟨λp0 R h=>by
 refine Te h λhr h=>?_;obtain rfl:=P3 h;refine o7 func132 ?_
 conv=>whnf
 refine⟨λb hb=>?_⟩
 cases b
 ·conv=>whnf
  refine z8 ?_;exact z31
 ·conv=>whnf
  have:p0=[]:=by
   cases p0 with
   | nil=>rfl
   | cons a r=>exact absurd (hb (by simp)) (by simp)
  subst this;refine⟨.inl ?_⟩
  conv=>whnf
  exact⟨rfl⟩⟩
end Go.Proofs.YthchnhoalhbkcaaGreatDoor.P
