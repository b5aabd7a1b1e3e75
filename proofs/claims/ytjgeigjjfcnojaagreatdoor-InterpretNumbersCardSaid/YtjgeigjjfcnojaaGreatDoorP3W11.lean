/- P3W11 -/
import Derived.Test.YtjgeigjjfcnojaaGreatDoorP3W10
set_option linter.unusedSimpArgs false
namespace Go.Proofs.YtjgeigjjfcnojaaGreatDoor.P
open Go.Abs Go.Proofs
set_option maxRecDepth 100000
set_option maxHeartbeats 4000000
set_option linter.unusedVariables false
theorem XR (p0:(List Int)) (R:Am) (h:NQ p0 = some R):Aj Tryz.prog 4 [.d (Ah 1 (D.int .u8) p0)] (.optr [(Ah 1 (D.int .u8) R.f_l),(.int .i64 R.f_at)]):=by
 refine BF Tryz.func4 ?_
 unfold NQ at h
 conv=>whnf
 obtain ⟨hr,h⟩:=Dm h
 refine z9 ?_
 try simp only [List.length_map]
 rw [WE]
 exact A5 h
theorem Br (p0:Am) (p1:Int) (R:(Int × Am)) (h:Bq p0 p1 = some R):CZ Tryz.prog 17 [.optr [(Ah 1 (D.int .u8) p0.f_l),(.int .i64 p0.f_at)],.d (.int .i64 p1)] [.optr [(Ah 1 (D.int .u8) R.2.f_l),(.int .i64 R.2.f_at)],.any] (.d (.int .i64 R.1)):=by
 refine Wc [3] Tryz.func17 (by kernel_rfl) rfl ?_ ?_
 ·intro i x y hx hy
  match i,hx,hy with
  | 0,hx,hy=>simp at hx hy; subst hx; subst hy; exact ⟨_,rfl,rfl⟩
  | 1,hx,hy=>simp at hx hy; subst hx; subst hy; trivial
  | i + 2,hx,hy=>simp at hx
 unfold Bq at h
 refine FW {p:Unit // EU p0 p1 = some R} (fun p=>BB 77 [(0,.ptr 0 0 0),(1,.d (.int .i64 p1))] [(0,.var [.d (Ah 1 (D.int .u8) p0.f_l),.d (.int .i64 p0.f_at)],0)]) ?_ fun p=>?_
 ·conv=>whnf
  refine z12 ?_
  refine AE h (fun h=>?_) fun h=>?_
  ·exact z19
  refine AE h (fun h=>?_) fun h=>?_
  ·exact z35
  exact z51
 obtain ⟨_,h⟩:=p
 simp only [EU] at h
 conv=>whnf
 refine z12 ?_
 refine Bd (f:=(D.int .u8)) h fun x36 _ h=>?_
 conv=>whnf
 refine z12 ?_
 refine AE h (fun h=>?_) fun h=>?_
 ·refine AE h (fun h=>?_) fun h=>?_
  ·conv=>whnf
   refine z12 ?_
   refine Bd (f:=(D.int .u8)) h fun x63 _ h=>?_
   conv=>whnf
   obtain ⟨hr,h⟩:=Dm h
   refine z11 ?_
   exact z35
  conv=>whnf
  obtain ⟨hr,h⟩:=Dm h
  refine z11 ?_
  exact z35
 obtain ⟨hr,h⟩:=Dm h
 refine z11 ?_
 exact z35
theorem Gh (p0:Am) (p1:Int) (R:(Bool × Am)) (h:D2 p0 p1 = some R):CZ Tryz.prog 64 [.optr [(Ah 1 (D.int .u8) p0.f_l),(.int .i64 p0.f_at)],.d (.int .i64 p1)] [.optr [(Ah 1 (D.int .u8) R.2.f_l),(.int .i64 R.2.f_at)],.any] (.d (.bool R.1)):=by
 refine Ns Tryz.func64 (by kernel_rfl) rfl ?_ ?_
 ·intro i x y hx hy
  match i,hx,hy with
  | 0,hx,hy=>simp at hx hy; subst hx; subst hy; exact ⟨_,rfl,rfl⟩
  | 1,hx,hy=>simp at hx hy; subst hx; subst hy; trivial
  | i + 2,hx,hy=>simp at hx
 unfold D2 at h
 refine SK h (fun _=>Br _ _ _) fun x7 h=>?_
 exact z35
theorem BQ (p0:Am) (p1:Int) (p2:Int) (R:(Int × Am)) (h:Bp p0 p1 p2 = some R):CZ Tryz.prog 65 [.optr [(Ah 1 (D.int .u8) p0.f_l),(.int .i64 p0.f_at)],.d (.int .i64 p1),.d (.int .i64 p2)] [.optr [(Ah 1 (D.int .u8) R.2.f_l),(.int .i64 R.2.f_at)],.any,.any] (.d (.int .i64 R.1)):=by
 refine Ns Tryz.func65 (by kernel_rfl) rfl ?_ ?_
 ·intro i x y hx hy
  match i,hx,hy with
  | 0,hx,hy=>simp at hx hy; subst hx; subst hy; exact ⟨_,rfl,rfl⟩
  | 1,hx,hy=>simp at hx hy; subst hx; subst hy; trivial
  | 2,hx,hy=>simp at hx hy; subst hx; subst hy; trivial
  | i + 3,hx,hy=>simp at hx
 unfold Bp at h
 refine SK h (fun _=>Br _ _ _) fun x13 h=>?_
 exact z35
theorem KS (p0:Am) (p1:ByteArray) (R:(Aw × Am)) (h:DR p0 p1 = some R):CZ Tryz.prog 63 [.optr [(Ah 1 (D.int .u8) p0.f_l),(.int .i64 p0.f_at)],.d (.str p1)] [.optr [(Ah 1 (D.int .u8) R.2.f_l),(.int .i64 R.2.f_at)],.any] (.d (Ae R.1)):=by
 refine Wc [7] Tryz.func63 (by kernel_rfl) rfl ?_ ?_
 ·intro i x y hx hy
  match i,hx,hy with
  | 0,hx,hy=>simp at hx hy; subst hx; subst hy; exact ⟨_,rfl,rfl⟩
  | 1,hx,hy=>simp at hx hy; subst hx; subst hy; trivial
  | i + 2,hx,hy=>simp at hx
 unfold DR at h
 conv=>whnf
 refine ⟨.inr ?_⟩
 refine SK h (fun _=>BQ _ _ _ _) fun x15 h=>?_
 refine FW {p:(List CY) // ET x15 p1 p = some R} (fun p=>BB 58 [(0,.ptr 0 0 0),(4,.ptr 4 1 0),(5,.ptr 5 1 0),(6,.d (.int .i64 x15.1))] [(0,.var [.d (Ah 1 (D.int .u8) x15.2.f_l),.d (.int .i64 x15.2.f_at)],0),(4,.var [.d (.str ByteArray.empty),.d (.nil 2)],1),(5,.var [.d (.str p1),.sl 12 1],1),(12,.row 2 227 (List.map Bh p.1),1)]) ?_ fun p=>?_
 ·refine z5 h (fun p=>BB 58 [(0,.ptr 0 0 0),(4,.ptr 4 1 0),(5,.ptr 5 1 0),(6,.d (.int .i64 x15.1)),(7,.d (.int .i64 p.1))] [(0,.var [.d (Ah 1 (D.int .u8) x15.2.f_l),.d (.int .i64 x15.2.f_at)],0),(4,.var [.d (.str ByteArray.empty),.d (.nil 2)],1),(5,.var [.d (.str p1),.sl 12 1],1),(12,.row 2 227 (List.map Bh p.2),1)]) Ak fun _ _ ⟨v7_1,b12_1⟩ h=>?_
  simp only [ER] at h
  refine AE h (fun h=>?_) fun h=>?_
  ·conv=>whnf
   refine z12 ?_
   refine AF h (fun _=>DG _ _) fun x24 h=>?_
   conv=>whnf
   obtain ⟨hr,h⟩:=Dm h
   refine z11 ?_
   conv=>whnf
   obtain ⟨hr,h⟩:=Dm h
   refine z6 ?_
   try rw [Us]
   exact z21
  conv=>whnf
  exact ⟨⟨_,h⟩,Ak⟩
 obtain ⟨k12_1,h⟩:=p
 simp only [ET] at h
 refine SK h (fun _=>Gh _ _ _) fun x31 h=>?_
 refine AE h (fun h=>?_) fun h=>?_
 ·conv=>whnf
  refine ⟨.inl ?_⟩
  exact z35
 refine z5 h (fun p=>BB 58 [(0,.ptr 0 0 0),(4,.ptr 4 1 0),(5,.ptr 5 1 0),(6,.d (.int .i64 x15.1)),(8,.d (.int .i64 p.1))] [(0,.var [.d (Ah 1 (D.int .u8) p.2.1.f_l),.d (.int .i64 p.2.1.f_at)],0),(4,.var [.d (.str ByteArray.empty),.d (.nil 2)],1),(5,.var [.d (.str p1),.sl 12 1],1),(12,.row 2 227 (List.map Bh p.2.2),1)]) Ak fun _ _ ⟨v8_2,w0_2,b12_2⟩ h=>?_
 simp only [ES] at h
 refine AE h (fun h=>?_) fun h=>?_
 ·refine SK h (fun _=>BQ _ _ _ _) fun x39 h=>?_
  refine z5 h (fun p=>BB 58 [(0,.ptr 0 0 0),(4,.ptr 4 1 0),(5,.ptr 5 1 0),(6,.d (.int .i64 x15.1)),(8,.d (.int .i64 v8_2)),(9,.d (.int .i64 p.1))] [(0,.var [.d (Ah 1 (D.int .u8) x39.2.f_l),.d (.int .i64 x39.2.f_at)],0),(4,.var [.d (.str ByteArray.empty),.d (.nil 2)],1),(5,.var [.d (.str p1),.sl 12 1],1),(12,.row 2 227 (List.map Bh p.2),1)]) Ak fun _ _ ⟨v9_3,b12_3⟩ h=>?_
  simp only [GU] at h
  refine AE h (fun h=>?_) fun h=>?_
  ·conv=>whnf
   refine z12 ?_
   conv=>whnf
   obtain ⟨x49,hx49,h⟩:=A8 h
   first | refine Av (DG _ _ hx49) ?_ | (simp only [List.length_map]; refine Av (DG _ _ hx49) ?_)
   conv=>whnf
   obtain ⟨hr,h⟩:=Dm h
   refine z11 ?_
   conv=>whnf
   obtain ⟨hr,h⟩:=Dm h
   refine z6 ?_
   try rw [Us]
   exact z21
  exact z24
 conv=>whnf
 refine ⟨.inl ?_⟩
 exact z35
theorem Jb (p0:Am) (p1:ByteArray) (R:(Az × Am)) (h:C8 p0 p1 = some R):CZ Tryz.prog 66 [.optr [(Ah 1 (D.int .u8) p0.f_l),(.int .i64 p0.f_at)],.d (.str p1)] [.optr [(Ah 1 (D.int .u8) R.2.f_l),(.int .i64 R.2.f_at)],.any] (.d (Ag R.1)):=by
 refine Ns Tryz.func66 (by kernel_rfl) rfl ?_ ?_
 ·intro i x y hx hy
  match i,hx,hy with
  | 0,hx,hy=>simp at hx hy; subst hx; subst hy; exact ⟨_,rfl,rfl⟩
  | 1,hx,hy=>simp at hx hy; subst hx; subst hy; trivial
  | i + 2,hx,hy=>simp at hx
 unfold C8 at h
 conv=>whnf
 refine z12 ?_
 refine SK h (fun _=>BQ _ _ _ _) fun x8 h=>?_
 refine SK h (fun _=>Br _ _ _) fun x15 h=>?_
 refine Tc (f:=(Ah 1 (D.int .i64))) h Cj fun x16 hx16 h=>?_
 refine ZV (f:=(Ah 1 (D.int .i64))) hx16 Cj ?_
 refine SK h (fun _=>Gh _ _ _) fun x19 h=>?_
 conv=>whnf
 refine z12 ?_
 refine SK h (fun _=>Br _ _ _) fun x24 h=>?_
 exact z35
theorem Pd (p0:Am) (R:(Af × Am)) (h:Eb p0 = some R):CZ Tryz.prog 25 [.optr [(Ah 1 (D.int .u8) p0.f_l),(.int .i64 p0.f_at)]] [.optr [(Ah 1 (D.int .u8) R.2.f_l),(.int .i64 R.2.f_at)]] (.d (Au R.1)):=by
 refine Ns Tryz.func25 (by kernel_rfl) rfl ?_ ?_
 ·intro i x y hx hy
  match i,hx,hy with
  | 0,hx,hy=>simp at hx hy; subst hx; subst hy; exact ⟨_,rfl,rfl⟩
  | i + 1,hx,hy=>simp at hx
 unfold Eb at h
 refine SK h (fun _=>KS _ _ _) fun x6 h=>?_
 refine SK h (fun _=>KS _ _ _) fun x8 h=>?_
 conv=>whnf
 refine ⟨.inr ?_⟩
 refine SK h (fun _=>Gh _ _ _) fun x15 h=>?_
 refine AE h (fun h=>?_) fun h=>?_
 ·conv=>whnf
  obtain ⟨hr,h⟩:=Dm h
  refine z6 ?_
  try rw [Nj]
  conv=>whnf
  obtain ⟨x23,hx23,h⟩:=A8 h
  refine E5 (BQ _ _ _ _ hx23) ?_
  refine z5 h (fun p=>BB 41 [(0,.ptr 0 0 0),(2,.ptr 2 1 0),(3,.ptr 3 1 0),(4,.d (.int .i64 p.1))] [(0,.var [.d (Ah 1 (D.int .u8) p.2.1.f_l),.d (.int .i64 p.2.1.f_at)],0),(2,.var [.d (.nil 2),.d (.nil 7)],1),(3,.var [.sl 9 1,.sl 12 1],1),(9,.row 2 157 (List.map Ae [x6.1,x8.1]),1),(12,.row 7 93 (List.map Ag p.2.2),1)]) Ak fun _ _ ⟨v4_1,w0_1,b12_1⟩ h=>?_
  simp only [Ec] at h
  refine AE h (fun h=>?_) fun h=>?_
  ·conv=>whnf
   refine z12 ?_
   conv=>whnf
   obtain ⟨x34,hx34,h⟩:=A8 h
   first | refine Av (DG _ _ hx34) ?_ | (simp only [List.length_map]; refine Av (DG _ _ hx34) ?_)
   conv=>whnf
   obtain ⟨hr,h⟩:=Dm h
   refine z11 ?_
   conv=>whnf
   obtain ⟨x36,hx36,h⟩:=A8 h
   refine E5 (Jb _ _ _ hx36) ?_
   conv=>whnf
   obtain ⟨hr,h⟩:=Dm h
   refine z6 ?_
   try rw [Nj]
   exact z24
  conv=>whnf
  refine ⟨.inl ?_⟩
  exact z35
 conv=>whnf
 obtain ⟨x23,hx23,h⟩:=A8 h
 refine E5 (BQ _ _ _ _ hx23) ?_
 refine z5 h (fun p=>BB 41 [(0,.ptr 0 0 0),(2,.ptr 2 1 0),(3,.ptr 3 1 0),(4,.d (.int .i64 p.1))] [(0,.var [.d (Ah 1 (D.int .u8) p.2.1.f_l),.d (.int .i64 p.2.1.f_at)],0),(2,.var [.d (.nil 2),.d (.nil 7)],1),(3,.var [.sl 9 1,.sl 12 1],1),(9,.row 2 157 (List.map Ae [x6.1,x8.1]),1),(12,.row 7 93 (List.map Ag p.2.2),1)]) Ak fun _ _ ⟨v4_2,w0_2,b12_2⟩ h=>?_
 simp only [Jc] at h
 refine AE h (fun h=>?_) fun h=>?_
 ·conv=>whnf
  refine z12 ?_
  conv=>whnf
  obtain ⟨x34,hx34,h⟩:=A8 h
  first | refine Av (DG _ _ hx34) ?_ | (simp only [List.length_map]; refine Av (DG _ _ hx34) ?_)
  conv=>whnf
  obtain ⟨hr,h⟩:=Dm h
  refine z11 ?_
  conv=>whnf
  obtain ⟨x36,hx36,h⟩:=A8 h
  refine E5 (Jb _ _ _ hx36) ?_
  conv=>whnf
  obtain ⟨hr,h⟩:=Dm h
  refine z6 ?_
  try rw [Nj]
  exact z24
 conv=>whnf
 refine ⟨.inl ?_⟩
 exact z35
theorem PY (p0:Am) (p1:Af) (p2:Int) (R:(Int × Am)) (h:E7 p0 p1 p2 = some R):CZ Tryz.prog 68 [.optr [(Ah 1 (D.int .u8) p0.f_l),(.int .i64 p0.f_at)],.d (Au p1),.d (.int .i64 p2)] [.optr [(Ah 1 (D.int .u8) R.2.f_l),(.int .i64 R.2.f_at)],.any,.any] (.d (.int .i64 R.1)):=by
 refine Ns Tryz.func68 (by kernel_rfl) rfl ?_ ?_
 ·intro i x y hx hy
  match i,hx,hy with
  | 0,hx,hy=>simp at hx hy; subst hx; subst hy; exact ⟨_,rfl,rfl⟩
  | 1,hx,hy=>simp at hx hy; subst hx; subst hy; trivial
  | 2,hx,hy=>simp at hx hy; subst hx; subst hy; trivial
  | i + 3,hx,hy=>simp at hx
 unfold E7 at h
 refine Bd (f:=Ag) h fun x12 _ h=>?_
 refine AE h (fun h=>?_) fun h=>?_
 ·refine SK h (fun _=>BQ _ _ _ _) fun x19 h=>?_
  exact z35
 refine AE h (fun h=>?_) fun h=>?_
 ·refine AF h (fun _=>K4 _ _ _) fun x24 h=>?_
  conv=>whnf
  obtain ⟨x29,hx29,h⟩:=A8 h
  first | refine E5 (Br _ _ _ hx29) ?_ | (simp only [List.length_map]; refine E5 (Br _ _ _ hx29) ?_)
  refine Bd (f:=(D.int .i64)) h fun x30 _ h=>?_
  exact z35
 refine AE h (fun h=>?_) fun h=>?_
 ·refine SK h (fun _=>Gh _ _ _) fun x36 h=>?_
  refine AE h (fun h=>?_) fun h=>?_
  ·exact z35
  conv=>whnf
  obtain ⟨x43,hx43,h⟩:=A8 h
  refine E5 (BQ _ _ _ _ hx43) ?_
  exact z35
 obtain ⟨x43,hx43,h⟩:=A8 h
 refine E5 (BQ _ _ _ _ hx43) ?_
 exact z35
theorem Ry (p0:Am) (p1:Af) (R:((List Int) × Am)) (h:FT p0 p1 = some R):CZ Tryz.prog 27 [.optr [(Ah 1 (D.int .u8) p0.f_l),(.int .i64 p0.f_at)],.d (Au p1)] [.optr [(Ah 1 (D.int .u8) R.2.f_l),(.int .i64 R.2.f_at)],.any] (.d (Ah 1 (D.int .i64) R.1)):=by
 refine Ns Tryz.func27 (by kernel_rfl) rfl ?_ ?_
 ·intro i x y hx hy
  match i,hx,hy with
  | 0,hx,hy=>simp at hx hy; subst hx; subst hy; exact ⟨_,rfl,rfl⟩
  | 1,hx,hy=>simp at hx hy; subst hx; subst hy; trivial
  | i + 2,hx,hy=>simp at hx
 unfold FT at h
 refine z5 h (fun p=>BB 22 [(0,.ptr 0 0 0),(3,.ptr 3 1 0),(5,.sl 5 1),(9,.d (.int .i64 ((p1.Columns.length:Nat):Int))),(10,.d (.int .i64 p.1))] [(0,.var [.d (Ah 1 (D.int .u8) p.2.1.f_l),.d (.int .i64 p.2.1.f_at)],0),(3,.var [.d (Ah 2 Ae p1.Lists),.d (Ah 7 Ag p1.Columns)],1),(5,.row 1 3 (List.map (D.int .i64) p.2.2),1)]) Ak fun _ _ ⟨v10_1,w0_1,b5_1⟩ h=>?_
 simp only [FG] at h
 refine AE h (fun h=>?_) fun h=>?_
 ·refine SK h (fun _=>PY _ _ _ _) fun x17 h=>?_
  conv=>whnf
  obtain ⟨hr,h⟩:=Dm h
  refine z6 ?_
  try rw [M1]
  exact z24
 conv=>whnf
 obtain rfl:=Option.some.inj h
 refine z10 ?_
 conv=>whnf
 refine ⟨.inl ?_⟩
 conv=>whnf
 exact ⟨Jo⟩
theorem Pf (p0:Am) (p1:Int) (R:(B2 × Am)) (h:Ee p0 p1 = some R):CZ Tryz.prog 12 [.optr [(Ah 1 (D.int .u8) p0.f_l),(.int .i64 p0.f_at)],.d (.int .i64 p1)] [.optr [(Ah 1 (D.int .u8) R.2.f_l),(.int .i64 R.2.f_at)],.any] (.d (I0 R.1)):=by
 refine Ns Tryz.func12 (by kernel_rfl) rfl ?_ ?_
 ·intro i x y hx hy
  match i,hx,hy with
  | 0,hx,hy=>simp at hx hy; subst hx; subst hy; exact ⟨_,rfl,rfl⟩
  | 1,hx,hy=>simp at hx hy; subst hx; subst hy; trivial
  | i + 2,hx,hy=>simp at hx
 unfold Ee at h
 refine SK h (fun _=>Pd _ _) fun x9 h=>?_
 refine SK h (fun _=>Br _ _ _) fun x15 h=>?_
 refine z5 h (fun p=>BB 28 [(0,.ptr 0 0 0),(4,.ptr 4 1 0),(5,.ptr 5 1 0),(6,.ptr 6 1 0),(7,.d (.int .i64 p.1))] [(0,.var [.d (Ah 1 (D.int .u8) p.2.1.f_l),.d (.int .i64 p.2.1.f_at)],0),(4,.var [.d (.nil 2),.d (.nil 7),.d (.nil 1),.d (.nil 1),.d (.int .i64 0)],1),(5,.var [.d (Ah 2 Ae x9.1.Lists),.d (Ah 7 Ag x9.1.Columns)],1),(6,.var [.d (Ah 2 Ae x9.1.Lists),.d (Ah 7 Ag x9.1.Columns),.d (Ah 1 (Ah 1 (D.int .i64)) p.2.2),.d (.nil 1),.d (.int .i64 0)],1)]) Ak fun _ _ ⟨v7_1,w0_1,c6_2_1⟩ h=>?_
 simp only [FU] at h
 refine AE h (fun h=>?_) fun h=>?_
 ·conv=>whnf
  refine z12 ?_
  refine SK h (fun _=>Ry _ _ _) fun x24 h=>?_
  refine AF h (fun _=>SE _ _ _) fun x25 h=>?_
  exact z24
 exact z35
theorem XQ (p0:Af) (R:(AZ × (List An))) (h:NP p0 = some R):Aj Tryz.prog 13 [.d (Au p0)] (.tup [.d (Fu R.1),.d (Ah 2 Ai R.2)]):=by
 refine BF Tryz.func13 ?_
 unfold NP at h
 refine z5 h (fun p=>BB 33 [(1,.ptr 1 1 0),(2,.ptr 2 1 0),(4,.ptr 4 1 0),(5,.sl 5 1),(6,.d (.int .i64 p.1))] [(1,.var [.d (Ah 2 Ae p0.Lists),.d (Ah 7 Ag p0.Columns)],1),(2,.var [.d (.str ByteArray.empty),.d (.str ByteArray.empty),.d (.int .i64 0),.d (.int .i64 0),.d (.int .i64 0),.d (.int .i64 0),.d (.int .i64 0),.d (.nil 6),.d (.int .i64 0),.d (.int .i64 0),.d (.int .i64 0),.d (.nil 17)],1),(4,.var [.d (.str ({ data:=#[97,108,108,95,114,111,119,115] }:ByteArray)),.d (.str ({ data:=#[115,114,99] }:ByteArray)),.d (.int .i64 1),.d (.int .i64 0),.d (.int .i64 0),.d (.int .i64 0),.d (.int .i64 0),.d (.nil 6),.d (.int .i64 1),.d (.int .i64 1),.d (.int .i64 0),.d (.nil 17)],1),(5,.row 2 112 (List.map Ai p.2),1)]) Ak fun _ _ ⟨v6_1,b5_1⟩ h=>?_
 simp only [KR] at h
 refine AE h (fun h=>?_) fun h=>?_
 ·refine AF h (fun _=>Ga _ _ _) fun x21 h=>?_
  conv=>whnf
  obtain ⟨hr,h⟩:=Dm h
  refine z6 ?_
  try rw [Df]
  exact z21
 conv=>whnf
 try simp only [Sp] at h
 refine ⟨.inl ?_⟩
 conv=>whnf
 refine ⟨.inl ?_⟩
 exact z30
theorem Pe (p0:Am) (R:(Int × Am)) (h:Ed p0 = some R):CZ Tryz.prog 15 [.optr [(Ah 1 (D.int .u8) p0.f_l),(.int .i64 p0.f_at)]] [.optr [(Ah 1 (D.int .u8) R.2.f_l),(.int .i64 R.2.f_at)]] (.d (.int .i64 R.1)):=by
 refine Ns Tryz.func15 (by kernel_rfl) rfl ?_ ?_
 ·intro i x y hx hy
  match i,hx,hy with
  | 0,hx,hy=>simp at hx hy; subst hx; subst hy; exact ⟨_,rfl,rfl⟩
  | i + 1,hx,hy=>simp at hx
 unfold Ed at h
 refine SK h (fun _=>Br _ _ _) fun x4 h=>?_
 refine SK h (fun _=>Br _ _ _) fun x6 h=>?_
 refine SK h (fun _=>Br _ _ _) fun x9 h=>?_
 exact z35
theorem PZ (d:Nat) (p0:Am) (p1:Int) (R:(B2 × A1 × Am)) (h:E8 d p0 p1 = some R):CZ Tryz.prog 5 [.optr [(Ah 1 (D.int .u8) p0.f_l),(.int .i64 p0.f_at)],.d (.int .i64 p1)] [.optr [(Ah 1 (D.int .u8) R.2.2.f_l),(.int .i64 R.2.2.f_at)],.any] (.tup [.d (I0 R.1),.d (CM R.2.1)]):=by
 refine Ns Tryz.func5 (by kernel_rfl) rfl ?_ ?_
 ·intro i x y hx hy
  match i,hx,hy with
  | 0,hx,hy=>simp at hx hy; subst hx; subst hy; exact ⟨_,rfl,rfl⟩
  | 1,hx,hy=>simp at hx hy; subst hx; subst hy; trivial
  | i + 2,hx,hy=>simp at hx
 unfold E8 at h
 refine SK h (fun _=>Pf _ _ _) fun x13 h=>?_
 refine AF h (fun _=>XQ _ _) fun x17 h=>?_
 conv=>whnf
 refine z12 ?_
 refine SK h (fun _=>Pe _ _) fun x25 h=>?_
 refine AF h (fun _=>UO _ _ _ _ _ _) fun x26 h=>?_
 conv=>whnf
 refine z12 ?_
 exact z35
theorem T8 (p0:Af) (p1:Int) (R:(List Int)) (h:H8 p0 p1 = some R):Aj Tryz.prog 16 [.d (Au p0),.d (.int .i64 p1)] (.d (Ah 1 (D.int .i64) R)):=by
 refine BF Tryz.func16 ?_
 unfold H8 at h
 refine z5 h (fun p=>BB 27 [(1,.d (.int .i64 p1)),(2,.ptr 2 1 0),(5,.sl 5 1),(9,.d (.int .i64 ((p0.Columns.length:Nat):Int))),(10,.d (.int .i64 p.1))] [(2,.var [.d (Ah 2 Ae p0.Lists),.d (Ah 7 Ag p0.Columns)],1),(5,.row 1 3 (List.map (D.int .i64) p.2),1)]) Ak fun _ _ ⟨v10_1,b5_1⟩ h=>?_
 simp only [G7] at h
 refine AE h (fun h=>?_) fun h=>?_
 ·refine Bd (f:=Ag) h fun x16 _ h=>?_
  refine AE h (fun h=>?_) fun h=>?_
  ·conv=>whnf
   exact z28
  exact z21
 exact z30
theorem N9 (p0:Am) (p1:Af) (R:(Int × Am)) (h:Dh p0 p1 = some R):CZ Tryz.prog 6 [.optr [(Ah 1 (D.int .u8) p0.f_l),(.int .i64 p0.f_at)],.d (Au p1)] [.optr [(Ah 1 (D.int .u8) R.2.f_l),(.int .i64 R.2.f_at)],.any] (.d (.int .i64 R.1)):=by
 refine Ns Tryz.func6 (by kernel_rfl) rfl ?_ ?_
 ·intro i x y hx hy
  match i,hx,hy with
  | 0,hx,hy=>simp at hx hy; subst hx; subst hy; exact ⟨_,rfl,rfl⟩
  | 1,hx,hy=>simp at hx hy; subst hx; subst hy; trivial
  | i + 2,hx,hy=>simp at hx
 unfold Dh at h
 refine AF h (fun _=>T8 _ _ _) fun x7 h=>?_
 conv=>whnf
 obtain ⟨x12,hx12,h⟩:=A8 h
 first | refine E5 (Br _ _ _ hx12) ?_ | (simp only [List.length_map]; refine E5 (Br _ _ _ hx12) ?_)
 refine Bd (f:=(D.int .i64)) h fun x13 _ h=>?_
 exact z35
end Go.Proofs.YtjgeigjjfcnojaaGreatDoor.P
