/- P3W11 -/
import Derived.Test.YtjghjdokjgcehaaGreatDoorP3W8
set_option linter.unusedSimpArgs false
namespace Go.Proofs.YtjghjdokjgcehaaGreatDoor.P
open Go.Abs Go.Proofs
set_option maxRecDepth 100000
set_option maxHeartbeats 4000000
set_option linter.unusedVariables false
theorem Yn (p0:(List Int)) (R:Ag) (h:NU p0 = some R):Al Tryz.prog 5 [.d (Ah 1 (D.int .u8) p0)] (.optr [(Ah 1 (D.int .u8) R.f_l),(.int .i64 R.f_at)]):=by
 refine Cn Tryz.func5 ?_
 unfold NU at h
 conv=>whnf
 obtain ⟨hr,h⟩:=E0 h
 refine z9 ?_
 try simp only [List.length_map]
 rw [SO]
 exact AD h
theorem AF (p0:Ag) (p1:Int) (R:(Int × Ag)) (h:AH p0 p1 = some R):CY Tryz.prog 20 [.optr [(Ah 1 (D.int .u8) p0.f_l),(.int .i64 p0.f_at)],.d (.int .i64 p1)] [.optr [(Ah 1 (D.int .u8) R.2.f_l),(.int .i64 R.2.f_at)],.any] (.d (.int .i64 R.1)):=by
 refine RF [3] Tryz.func20 (by kernel_rfl) rfl ?_ ?_
 ·intro i x y hx hy
  match i,hx,hy with
  | 0,hx,hy=>simp at hx hy; subst hx; subst hy; exact ⟨_,rfl,rfl⟩
  | 1,hx,hy=>simp at hx hy; subst hx; subst hy; trivial
  | i + 2,hx,hy=>simp at hx
 unfold AH at h
 refine Ga {p:Unit // FI p0 p1 = some R} (fun p=>Cd 77 [(0,.ptr 0 0 0),(1,.d (.int .i64 p1))] [(0,.var [.d (Ah 1 (D.int .u8) p0.f_l),.d (.int .i64 p0.f_at)],0)]) ?_ fun p=>?_
 ·conv=>whnf
  refine z13 ?_
  refine AM h (fun h=>?_) fun h=>?_
  ·exact z18
  refine AM h (fun h=>?_) fun h=>?_
  ·exact z36
  conv=>whnf
  exact ⟨⟨(),h⟩,As⟩
 obtain ⟨_,h⟩:=p
 simp only [FI] at h
 conv=>whnf
 refine z13 ?_
 refine B6 (f:=(D.int .u8)) h fun x36 _ h=>?_
 conv=>whnf
 refine z13 ?_
 refine AM h (fun h=>?_) fun h=>?_
 ·refine AM h (fun h=>?_) fun h=>?_
  ·conv=>whnf
   refine z13 ?_
   refine B6 (f:=(D.int .u8)) h fun x63 _ h=>?_
   conv=>whnf
   obtain ⟨hr,h⟩:=E0 h
   refine z12 ?_
   exact z36
  conv=>whnf
  obtain ⟨hr,h⟩:=E0 h
  refine z12 ?_
  exact z36
 obtain ⟨hr,h⟩:=E0 h
 refine z12 ?_
 exact z36
theorem Dq (p0:Ag) (p1:Int) (R:(Bool × Ag)) (h:Cz p0 p1 = some R):CY Tryz.prog 16 [.optr [(Ah 1 (D.int .u8) p0.f_l),(.int .i64 p0.f_at)],.d (.int .i64 p1)] [.optr [(Ah 1 (D.int .u8) R.2.f_l),(.int .i64 R.2.f_at)],.any] (.d (.bool R.1)):=by
 refine Oe Tryz.func16 (by kernel_rfl) rfl ?_ ?_
 ·intro i x y hx hy
  match i,hx,hy with
  | 0,hx,hy=>simp at hx hy; subst hx; subst hy; exact ⟨_,rfl,rfl⟩
  | 1,hx,hy=>simp at hx hy; subst hx; subst hy; trivial
  | i + 2,hx,hy=>simp at hx
 unfold Cz at h
 refine Pe h (fun _=>AF _ _ _) fun x7 h=>?_
 exact z36
theorem B2 (p0:Ag) (p1:Int) (p2:Int) (R:(Int × Ag)) (h:Bh p0 p1 p2 = some R):CY Tryz.prog 17 [.optr [(Ah 1 (D.int .u8) p0.f_l),(.int .i64 p0.f_at)],.d (.int .i64 p1),.d (.int .i64 p2)] [.optr [(Ah 1 (D.int .u8) R.2.f_l),(.int .i64 R.2.f_at)],.any,.any] (.d (.int .i64 R.1)):=by
 refine Oe Tryz.func17 (by kernel_rfl) rfl ?_ ?_
 ·intro i x y hx hy
  match i,hx,hy with
  | 0,hx,hy=>simp at hx hy; subst hx; subst hy; exact ⟨_,rfl,rfl⟩
  | 1,hx,hy=>simp at hx hy; subst hx; subst hy; trivial
  | 2,hx,hy=>simp at hx hy; subst hx; subst hy; trivial
  | i + 3,hx,hy=>simp at hx
 unfold Bh at h
 refine Pe h (fun _=>AF _ _ _) fun x13 h=>?_
 exact z36
theorem L2 (p0:Ag) (p1:ByteArray) (R:(Ay × Ag)) (h:E8 p0 p1 = some R):CY Tryz.prog 15 [.optr [(Ah 1 (D.int .u8) p0.f_l),(.int .i64 p0.f_at)],.d (.str p1)] [.optr [(Ah 1 (D.int .u8) R.2.f_l),(.int .i64 R.2.f_at)],.any] (.d (Af R.1)):=by
 refine RF [7] Tryz.func15 (by kernel_rfl) rfl ?_ ?_
 ·intro i x y hx hy
  match i,hx,hy with
  | 0,hx,hy=>simp at hx hy; subst hx; subst hy; exact ⟨_,rfl,rfl⟩
  | 1,hx,hy=>simp at hx hy; subst hx; subst hy; trivial
  | i + 2,hx,hy=>simp at hx
 unfold E8 at h
 conv=>whnf
 refine ⟨.inr ?_⟩
 refine Pe h (fun _=>B2 _ _ _ _) fun x15 h=>?_
 refine Ga {p:(List DG) // FH x15 p1 p = some R} (fun p=>Cd 58 [(0,.ptr 0 0 0),(4,.ptr 4 1 0),(5,.ptr 5 1 0),(6,.d (.int .i64 x15.1))] [(0,.var [.d (Ah 1 (D.int .u8) x15.2.f_l),.d (.int .i64 x15.2.f_at)],0),(4,.var [.d (.str ByteArray.empty),.d (.nil 2)],1),(5,.var [.d (.str p1),.sl 12 1],1),(12,.row 2 117 (List.map By p.1),1)]) ?_ fun p=>?_
 ·refine z5 h (fun p=>Cd 58 [(0,.ptr 0 0 0),(4,.ptr 4 1 0),(5,.ptr 5 1 0),(6,.d (.int .i64 x15.1)),(7,.d (.int .i64 p.1))] [(0,.var [.d (Ah 1 (D.int .u8) x15.2.f_l),.d (.int .i64 x15.2.f_at)],0),(4,.var [.d (.str ByteArray.empty),.d (.nil 2)],1),(5,.var [.d (.str p1),.sl 12 1],1),(12,.row 2 117 (List.map By p.2),1)]) As fun _ _ ⟨v7_1,b12_1⟩ h=>?_
  simp only [FF] at h
  refine AM h (fun h=>?_) fun h=>?_
  ·conv=>whnf
   refine z13 ?_
   refine AU h (fun _=>C8 _ _) fun x24 h=>?_
   conv=>whnf
   obtain ⟨hr,h⟩:=E0 h
   refine z12 ?_
   conv=>whnf
   obtain ⟨hr,h⟩:=E0 h
   refine z6 ?_
   try rw [Uz]
   exact z22
  conv=>whnf
  exact ⟨⟨_,h⟩,As⟩
 obtain ⟨k12_1,h⟩:=p
 simp only [FH] at h
 refine Pe h (fun _=>Dq _ _ _) fun x31 h=>?_
 refine AM h (fun h=>?_) fun h=>?_
 ·conv=>whnf
  refine ⟨.inl ?_⟩
  exact z36
 refine z5 h (fun p=>Cd 58 [(0,.ptr 0 0 0),(4,.ptr 4 1 0),(5,.ptr 5 1 0),(6,.d (.int .i64 x15.1)),(8,.d (.int .i64 p.1))] [(0,.var [.d (Ah 1 (D.int .u8) p.2.1.f_l),.d (.int .i64 p.2.1.f_at)],0),(4,.var [.d (.str ByteArray.empty),.d (.nil 2)],1),(5,.var [.d (.str p1),.sl 12 1],1),(12,.row 2 117 (List.map By p.2.2),1)]) As fun _ _ ⟨v8_2,w0_2,b12_2⟩ h=>?_
 simp only [FG] at h
 refine AM h (fun h=>?_) fun h=>?_
 ·refine Pe h (fun _=>B2 _ _ _ _) fun x39 h=>?_
  refine z5 h (fun p=>Cd 58 [(0,.ptr 0 0 0),(4,.ptr 4 1 0),(5,.ptr 5 1 0),(6,.d (.int .i64 x15.1)),(8,.d (.int .i64 v8_2)),(9,.d (.int .i64 p.1))] [(0,.var [.d (Ah 1 (D.int .u8) x39.2.f_l),.d (.int .i64 x39.2.f_at)],0),(4,.var [.d (.str ByteArray.empty),.d (.nil 2)],1),(5,.var [.d (.str p1),.sl 12 1],1),(12,.row 2 117 (List.map By p.2),1)]) As fun _ _ ⟨v9_3,b12_3⟩ h=>?_
  simp only [HI] at h
  refine AM h (fun h=>?_) fun h=>?_
  ·conv=>whnf
   refine z13 ?_
   conv=>whnf
   obtain ⟨x49,hx49,h⟩:=A9 h
   first | refine A1 (C8 _ _ hx49) ?_ | (simp only [List.length_map]; refine A1 (C8 _ _ hx49) ?_)
   conv=>whnf
   obtain ⟨hr,h⟩:=E0 h
   refine z12 ?_
   conv=>whnf
   obtain ⟨hr,h⟩:=E0 h
   refine z6 ?_
   try rw [Uz]
   exact z22
  exact z30
 conv=>whnf
 refine ⟨.inl ?_⟩
 exact z36
theorem JI (p0:Ag) (p1:ByteArray) (R:(A4 × Ag)) (h:Dp p0 p1 = some R):CY Tryz.prog 18 [.optr [(Ah 1 (D.int .u8) p0.f_l),(.int .i64 p0.f_at)],.d (.str p1)] [.optr [(Ah 1 (D.int .u8) R.2.f_l),(.int .i64 R.2.f_at)],.any] (.d (Ai R.1)):=by
 refine Oe Tryz.func18 (by kernel_rfl) rfl ?_ ?_
 ·intro i x y hx hy
  match i,hx,hy with
  | 0,hx,hy=>simp at hx hy; subst hx; subst hy; exact ⟨_,rfl,rfl⟩
  | 1,hx,hy=>simp at hx hy; subst hx; subst hy; trivial
  | i + 2,hx,hy=>simp at hx
 unfold Dp at h
 conv=>whnf
 refine z13 ?_
 refine Pe h (fun _=>B2 _ _ _ _) fun x8 h=>?_
 refine Pe h (fun _=>AF _ _ _) fun x15 h=>?_
 refine RX (f:=(Ah 1 (D.int .i64))) h Cc fun x16 hx16 h=>?_
 refine Z7 (f:=(Ah 1 (D.int .i64))) hx16 Cc ?_
 refine Pe h (fun _=>Dq _ _ _) fun x19 h=>?_
 conv=>whnf
 refine z13 ?_
 refine Pe h (fun _=>AF _ _ _) fun x24 h=>?_
 exact z36
theorem Pj (p0:Ag) (R:(Ae × Ag)) (h:EL p0 = some R):CY Tryz.prog 6 [.optr [(Ah 1 (D.int .u8) p0.f_l),(.int .i64 p0.f_at)]] [.optr [(Ah 1 (D.int .u8) R.2.f_l),(.int .i64 R.2.f_at)]] (.d (Au R.1)):=by
 refine Oe Tryz.func6 (by kernel_rfl) rfl ?_ ?_
 ·intro i x y hx hy
  match i,hx,hy with
  | 0,hx,hy=>simp at hx hy; subst hx; subst hy; exact ⟨_,rfl,rfl⟩
  | i + 1,hx,hy=>simp at hx
 unfold EL at h
 refine Pe h (fun _=>L2 _ _ _) fun x6 h=>?_
 refine Pe h (fun _=>L2 _ _ _) fun x8 h=>?_
 conv=>whnf
 refine ⟨.inr ?_⟩
 refine Pe h (fun _=>Dq _ _ _) fun x15 h=>?_
 refine AM h (fun h=>?_) fun h=>?_
 ·conv=>whnf
  obtain ⟨hr,h⟩:=E0 h
  refine z6 ?_
  try rw [No]
  conv=>whnf
  obtain ⟨x23,hx23,h⟩:=A9 h
  refine BN (B2 _ _ _ _ hx23) ?_
  refine z5 h (fun p=>Cd 41 [(0,.ptr 0 0 0),(2,.ptr 2 1 0),(3,.ptr 3 1 0),(4,.d (.int .i64 p.1))] [(0,.var [.d (Ah 1 (D.int .u8) p.2.1.f_l),.d (.int .i64 p.2.1.f_at)],0),(2,.var [.d (.nil 2),.d (.nil 7)],1),(3,.var [.sl 9 1,.sl 12 1],1),(9,.row 2 86 (List.map Af [x6.1,x8.1]),1),(12,.row 7 51 (List.map Ai p.2.2),1)]) As fun _ _ ⟨v4_1,w0_1,b12_1⟩ h=>?_
  simp only [EM] at h
  refine AM h (fun h=>?_) fun h=>?_
  ·conv=>whnf
   refine z13 ?_
   conv=>whnf
   obtain ⟨x34,hx34,h⟩:=A9 h
   first | refine A1 (C8 _ _ hx34) ?_ | (simp only [List.length_map]; refine A1 (C8 _ _ hx34) ?_)
   conv=>whnf
   obtain ⟨hr,h⟩:=E0 h
   refine z12 ?_
   conv=>whnf
   obtain ⟨x36,hx36,h⟩:=A9 h
   refine BN (JI _ _ _ hx36) ?_
   conv=>whnf
   obtain ⟨hr,h⟩:=E0 h
   refine z6 ?_
   try rw [No]
   exact z30
  conv=>whnf
  refine ⟨.inl ?_⟩
  exact z36
 conv=>whnf
 obtain ⟨x23,hx23,h⟩:=A9 h
 refine BN (B2 _ _ _ _ hx23) ?_
 refine z5 h (fun p=>Cd 41 [(0,.ptr 0 0 0),(2,.ptr 2 1 0),(3,.ptr 3 1 0),(4,.d (.int .i64 p.1))] [(0,.var [.d (Ah 1 (D.int .u8) p.2.1.f_l),.d (.int .i64 p.2.1.f_at)],0),(2,.var [.d (.nil 2),.d (.nil 7)],1),(3,.var [.sl 9 1,.sl 12 1],1),(9,.row 2 86 (List.map Af [x6.1,x8.1]),1),(12,.row 7 51 (List.map Ai p.2.2),1)]) As fun _ _ ⟨v4_2,w0_2,b12_2⟩ h=>?_
 simp only [JJ] at h
 refine AM h (fun h=>?_) fun h=>?_
 ·conv=>whnf
  refine z13 ?_
  conv=>whnf
  obtain ⟨x34,hx34,h⟩:=A9 h
  first | refine A1 (C8 _ _ hx34) ?_ | (simp only [List.length_map]; refine A1 (C8 _ _ hx34) ?_)
  conv=>whnf
  obtain ⟨hr,h⟩:=E0 h
  refine z12 ?_
  conv=>whnf
  obtain ⟨x36,hx36,h⟩:=A9 h
  refine BN (JI _ _ _ hx36) ?_
  conv=>whnf
  obtain ⟨hr,h⟩:=E0 h
  refine z6 ?_
  try rw [No]
  exact z30
 conv=>whnf
 refine ⟨.inl ?_⟩
 exact z36
theorem I6 (p0:Ae) (p1:Int) (R:(List Int)) (h:Ce p0 p1 = some R):Al Tryz.prog 78 [.d (Au p0),.d (.int .i64 p1)] (.d (Ah 1 (D.int .i64) R)):=by
 refine Cn Tryz.func78 ?_
 unfold Ce at h
 refine z5 h (fun p=>Cd 27 [(1,.d (.int .i64 p1)),(2,.ptr 2 1 0),(5,.sl 5 1),(9,.d (.int .i64 ((p0.Columns.length:Nat):Int))),(10,.d (.int .i64 p.1))] [(2,.var [.d (Ah 2 Af p0.Lists),.d (Ah 7 Ai p0.Columns)],1),(5,.row 1 3 (List.map (D.int .i64) p.2),1)]) As fun _ _ ⟨v10_1,b5_1⟩ h=>?_
 simp only [Da] at h
 refine AM h (fun h=>?_) fun h=>?_
 ·refine B6 (f:=Ai) h fun x16 _ h=>?_
  refine AM h (fun h=>?_) fun h=>?_
  ·conv=>whnf
   exact z48
  exact z22
 exact z37
theorem PV (p0:Ag) (p1:Ae) (R:(Int × Ag)) (h:Fq p0 p1 = some R):CY Tryz.prog 37 [.optr [(Ah 1 (D.int .u8) p0.f_l),(.int .i64 p0.f_at)],.d (Au p1)] [.optr [(Ah 1 (D.int .u8) R.2.f_l),(.int .i64 R.2.f_at)],.any] (.d (.int .i64 R.1)):=by
 refine Oe Tryz.func37 (by kernel_rfl) rfl ?_ ?_
 ·intro i x y hx hy
  match i,hx,hy with
  | 0,hx,hy=>simp at hx hy; subst hx; subst hy; exact ⟨_,rfl,rfl⟩
  | 1,hx,hy=>simp at hx hy; subst hx; subst hy; trivial
  | i + 2,hx,hy=>simp at hx
 unfold Fq at h
 refine AU h (fun _=>I6 _ _ _) fun x7 h=>?_
 conv=>whnf
 exact z44
theorem Ex (p0:Ag) (p1:Ae) (R:(Int × Ag)) (h:B7 p0 p1 = some R):CY Tryz.prog 38 [.optr [(Ah 1 (D.int .u8) p0.f_l),(.int .i64 p0.f_at)],.d (Au p1)] [.optr [(Ah 1 (D.int .u8) R.2.f_l),(.int .i64 R.2.f_at)],.any] (.d (.int .i64 R.1)):=by
 refine Oe Tryz.func38 (by kernel_rfl) rfl ?_ ?_
 ·intro i x y hx hy
  match i,hx,hy with
  | 0,hx,hy=>simp at hx hy; subst hx; subst hy; exact ⟨_,rfl,rfl⟩
  | 1,hx,hy=>simp at hx hy; subst hx; subst hy; trivial
  | i + 2,hx,hy=>simp at hx
 unfold B7 at h
 refine AU h (fun _=>I6 _ _ _) fun x7 h=>?_
 conv=>whnf
 exact z44
theorem PW (d:Nat) (self_draw_Codes_Cond:(Ag→Ae→Int→Option (Aj × Ag))) (ih_draw_Codes_Cond:∀ (p0:Ag) (p1:Ae) (p2:Int) (R:(Aj × Ag)) ,self_draw_Codes_Cond p0 p1 p2 = some R→CY Tryz.prog 21 [.optr [(Ah 1 (D.int .u8) p0.f_l),(.int .i64 p0.f_at)],.d (Au p1),.d (.int .i64 p2)] [.optr [(Ah 1 (D.int .u8) R.2.f_l),(.int .i64 R.2.f_at)],.any,.any] (.d (Ad R.1))) (p0:Ag) (p1:Ae) (p2:Int) (R:(Aj × Ag)) (h:CO d self_draw_Codes_Cond p0 p1 p2 = some R):CY Tryz.prog 21 [.optr [(Ah 1 (D.int .u8) p0.f_l),(.int .i64 p0.f_at)],.d (Au p1),.d (.int .i64 p2)] [.optr [(Ah 1 (D.int .u8) R.2.f_l),(.int .i64 R.2.f_at)],.any,.any] (.d (Ad R.1)):=by
 refine RF [9] Tryz.func21 (by kernel_rfl) rfl ?_ ?_
 ·intro i x y hx hy
  match i,hx,hy with
  | 0,hx,hy=>simp at hx hy; subst hx; subst hy; exact ⟨_,rfl,rfl⟩
  | 1,hx,hy=>simp at hx hy; subst hx; subst hy; trivial
  | 2,hx,hy=>simp at hx hy; subst hx; subst hy; trivial
  | i + 3,hx,hy=>simp at hx
 unfold CO at h
 refine Ga {p:Ag // Do p1 p = some R} (fun p=>Cd 111 [(0,.ptr 0 0 0),(4,.ptr 4 1 0),(6,.ptr 6 1 0)] [(0,.var [.d (Ah 1 (D.int .u8) p.1.f_l),.d (.int .i64 p.1.f_at)],0),(4,.var [.d (Ah 2 Af p1.Lists),.d (Ah 7 Ai p1.Columns)],1),(6,.var [.d (.int .i64 0),.d (.int .i64 0),.d (.int .i64 0),.d (.int .i64 0),.d (.int .i64 0),.d (.nil 6)],1)]) ?_ fun p=>?_
 ·refine AM h (fun h=>?_) fun h=>?_
  ·refine Pe h (fun _=>AF _ _ _) fun x14 h=>?_
   refine AM h (fun h=>?_) fun h=>?_
   ·conv=>whnf
    obtain ⟨x21,hx21,h⟩:=A9 h
    first | refine BN (ih_draw_Codes_Cond _ _ _ _ hx21) ?_ | (simp only [List.length_map]; refine BN (ih_draw_Codes_Cond _ _ _ _ hx21) ?_)
    conv=>whnf
    refine ⟨.inl ?_⟩
    conv=>whnf
    exact z26
   refine AM h (fun h=>?_) fun h=>?_
   ·conv=>whnf
    refine z13 ?_
    conv=>whnf
    obtain ⟨x30,hx30,h⟩:=A9 h
    first | refine BN (ih_draw_Codes_Cond _ _ _ _ hx30) ?_ | (simp only [List.length_map]; refine BN (ih_draw_Codes_Cond _ _ _ _ hx30) ?_)
    conv=>whnf
    obtain ⟨x35,hx35,h⟩:=A9 h
    first | refine BN (ih_draw_Codes_Cond _ _ _ _ hx35) ?_ | (simp only [List.length_map]; refine BN (ih_draw_Codes_Cond _ _ _ _ hx35) ?_)
    conv=>whnf
    refine ⟨.inl ?_⟩
    conv=>whnf
    exact z26
   refine AM h (fun h=>?_) fun h=>?_
   ·conv=>whnf
    refine z13 ?_
    conv=>whnf
    obtain ⟨x44,hx44,h⟩:=A9 h
    first | refine BN (ih_draw_Codes_Cond _ _ _ _ hx44) ?_ | (simp only [List.length_map]; refine BN (ih_draw_Codes_Cond _ _ _ _ hx44) ?_)
    conv=>whnf
    obtain ⟨x49,hx49,h⟩:=A9 h
    first | refine BN (ih_draw_Codes_Cond _ _ _ _ hx49) ?_ | (simp only [List.length_map]; refine BN (ih_draw_Codes_Cond _ _ _ _ hx49) ?_)
    conv=>whnf
    refine ⟨.inl ?_⟩
    conv=>whnf
    exact z26
   exact z23
  exact z23
 obtain ⟨k0_1,h⟩:=p
 simp only [Do] at h
 refine Pe h (fun _=>AF _ _ _) fun x53 h=>?_
 refine AM h (fun h=>?_) fun h=>?_
 ·refine Pe h (fun _=>PV _ _ _) fun x58 h=>?_
  conv=>whnf
  refine z13 ?_
  refine B6 (f:=Ai) h fun x66 _ h=>?_
  refine B6 (f:=Af) h fun x69 _ h=>?_
  conv=>whnf
  obtain ⟨x73,hx73,h⟩:=A9 h
  first | refine BN (AF _ _ _ hx73) ?_ | (simp only [List.length_map]; refine BN (AF _ _ _ hx73) ?_)
  conv=>whnf
  exact z26
 conv=>whnf
 refine K1 h Cc (fun e6 h=>?_) (fun e6 h=>?_)
 ·conv=>whnf
  refine Lt Cc e6 ?_
  conv=>whnf
  obtain ⟨x80,hx80,h⟩:=A9 h
  refine BN (Ex _ _ _ hx80) ?_
  conv=>whnf
  refine z13 ?_
  refine B6 (f:=Ai) h fun x84 hx84 h=>?_
  conv=>whnf
  obtain ⟨x88,hx88,h⟩:=A9 h
  refine BN (B2 _ _ _ _ hx88) ?_
  conv=>whnf
  obtain ⟨x94,hx94,h⟩:=A9 h
  refine BN (AF _ _ _ hx94) ?_
  conv=>whnf
  exact z26
 refine AM h (fun h=>?_) fun h=>?_
 ·conv=>whnf
  obtain ⟨x80,hx80,h⟩:=A9 h
  refine BN (Ex _ _ _ hx80) ?_
  conv=>whnf
  refine z13 ?_
  refine B6 (f:=Ai) h fun x84 hx84 h=>?_
  conv=>whnf
  obtain ⟨x88,hx88,h⟩:=A9 h
  refine BN (B2 _ _ _ _ hx88) ?_
  conv=>whnf
  obtain ⟨x94,hx94,h⟩:=A9 h
  refine BN (AF _ _ _ hx94) ?_
  conv=>whnf
  exact z26
 refine AM h (fun h=>?_) fun h=>?_
 ·refine Pe h (fun _=>Ex _ _ _) fun x101 h=>?_
  refine B6 (f:=Ai) h fun x105 _ h=>?_
  refine AM h (fun h=>?_) fun h=>?_
  ·conv=>whnf
   exact z26
  conv=>whnf
  exact z26
 conv=>whnf
 exact z26
theorem KL:∀ d:Nat,(∀ (p0:Ag) (p1:Ae) (p2:Int) (R:(Aj × Ag)) ,C9 d p0 p1 p2 = some R→CY Tryz.prog 21 [.optr [(Ah 1 (D.int .u8) p0.f_l),(.int .i64 p0.f_at)],.d (Au p1),.d (.int .i64 p2)] [.optr [(Ah 1 (D.int .u8) R.2.f_l),(.int .i64 R.2.f_at)],.any,.any] (.d (Ad R.1)))
 | 0=>by
  exact z24
 | d + 1=>by
  have ih:=KL d
  exact PW d _ ih
theorem I5 (d:Nat):∀ (p0:Ag) (p1:Ae) (p2:Int) (R:(Aj × Ag)) ,C9 d p0 p1 p2 = some R→CY Tryz.prog 21 [.optr [(Ah 1 (D.int .u8) p0.f_l),(.int .i64 p0.f_at)],.d (Au p1),.d (.int .i64 p2)] [.optr [(Ah 1 (D.int .u8) R.2.f_l),(.int .i64 R.2.f_at)],.any,.any] (.d (Ad R.1)):=KL d
theorem PX (p0:Ag) (p1:Ae) (p2:Int) (R:((List Int) × Ag)) (h:Fs p0 p1 p2 = some R):CY Tryz.prog 39 [.optr [(Ah 1 (D.int .u8) p0.f_l),(.int .i64 p0.f_at)],.d (Au p1),.d (.int .i64 p2)] [.optr [(Ah 1 (D.int .u8) R.2.f_l),(.int .i64 R.2.f_at)],.any,.any] (.d (Ah 1 (D.int .i64) R.1)):=by
 refine Oe Tryz.func39 (by kernel_rfl) rfl ?_ ?_
 ·intro i x y hx hy
  match i,hx,hy with
  | 0,hx,hy=>simp at hx hy; subst hx; subst hy; exact ⟨_,rfl,rfl⟩
  | 1,hx,hy=>simp at hx hy; subst hx; subst hy; trivial
  | 2,hx,hy=>simp at hx hy; subst hx; subst hy; trivial
  | i + 3,hx,hy=>simp at hx
 unfold Fs at h
 refine AU h (fun _=>I6 _ _ _) fun x11 h=>?_
 refine z5 h (fun p=>Cd 41 [(0,.ptr 0 0 0),(2,.d (.int .i64 p2)),(7,.sl 7 1),(8,.d (Ah 1 (D.int .i64) x11)),(13,.d (.int .i64 ((x11.length:Nat):Int))),(14,.d (.int .i64 p.1))] [(0,.var [.d (Ah 1 (D.int .u8) p.2.1.f_l),.d (.int .i64 p.2.1.f_at)],0),(7,.row 1 3 (List.map (D.int .i64) p.2.2),1)]) As fun _ _ ⟨v14_1,w0_1,b7_1⟩ h=>?_
 simp only [Ff] at h
 refine AM h (fun h=>?_) fun h=>?_
 ·refine B6 (f:=(D.int .i64)) h fun x19 _ h=>?_
  refine AM h (fun h=>?_) fun h=>?_
  ·refine AM h (fun h=>?_) fun h=>?_
   ·refine B6 (f:=(D.int .i64)) h fun x35 hx35 h=>?_
    conv=>whnf
    obtain ⟨hr,h⟩:=E0 h
    refine z6 ?_
    try rw [SK]
    exact z30
   refine Pe h (fun _=>Dq _ _ _) fun x29 h=>?_
   refine AM h (fun h=>?_) fun h=>?_
   ·refine B6 (f:=(D.int .i64)) h fun x35 hx35 h=>?_
    conv=>whnf
    obtain ⟨hr,h⟩:=E0 h
    refine z6 ?_
    try rw [SK]
    exact z30
   exact z30
  exact Cw ⟨(_,(_,_,_)),h⟩ As
 conv=>whnf
 obtain rfl:=Option.some.inj h
 refine z10 ?_
 conv=>whnf
 refine ⟨.inl ?_⟩
 conv=>whnf
 exact ⟨Ll⟩
theorem Gv (p0:Ag) (p1:Ae) (R:((List Aw) × Ag)) (h:CB p0 p1 = some R):CY Tryz.prog 40 [.optr [(Ah 1 (D.int .u8) p0.f_l),(.int .i64 p0.f_at)],.d (Au p1)] [.optr [(Ah 1 (D.int .u8) R.2.f_l),(.int .i64 R.2.f_at)],.any] (.d (Ah 2 Ak R.1)):=by
 refine Oe Tryz.func40 (by kernel_rfl) rfl ?_ ?_
 ·intro i x y hx hy
  match i,hx,hy with
  | 0,hx,hy=>simp at hx hy; subst hx; subst hy; exact ⟨_,rfl,rfl⟩
  | 1,hx,hy=>simp at hx hy; subst hx; subst hy; trivial
  | i + 2,hx,hy=>simp at hx
 unfold CB at h
 refine AU h (fun _=>I6 _ _ _) fun x9 h=>?_
 refine Pe h (fun _=>Dq _ _ _) fun x11 h=>?_
 refine AM h (fun h=>?_) fun h=>?_
 ·conv=>whnf
  obtain ⟨x16,hx16,h⟩:=A9 h
  first | refine BN (AF _ _ _ hx16) ?_ | (simp only [List.length_map]; refine BN (AF _ _ _ hx16) ?_)
  conv=>whnf
  obtain ⟨hr,h⟩:=E0 h
  refine z9 ?_
  try simp only [List.length_map]
  rw [SO]
  refine z5 h (fun p=>Cd 42 [(0,.ptr 0 0 0),(3,.ptr 3 1 0),(5,.sl 5 1),(6,.d (Ah 1 (D.int .i64) (Im x9 x16.1 ((x9.length:Nat):Int)))),(19,.d (.int .i64 (((Im x9 x16.1 ((x9.length:Nat):Int)).length:Nat):Int))),(20,.d (.int .i64 p.1))] [(0,.var [.d (Ah 1 (D.int .u8) p.2.1.f_l),.d (.int .i64 p.2.1.f_at)],0),(3,.var [.d (Ah 2 Af p1.Lists),.d (Ah 7 Ai p1.Columns)],1),(5,.row 2 101 (List.map Ak p.2.2),1)]) As fun _ _ ⟨v20_1,w0_1,b5_1⟩ h=>?_
  simp only [FD] at h
  refine AM h (fun h=>?_) fun h=>?_
  ·conv=>whnf
   refine z13 ?_
   refine B6 (f:=(D.int .i64)) h fun x26 hx26 h=>?_
   refine B6 (f:=(D.int .i64)) h fun x32 hx32 h=>?_
   conv=>whnf
   obtain ⟨x34,hx34,h⟩:=A9 h
   refine A1 (Lf _ _ _ hx34) ?_
   conv=>whnf
   obtain ⟨x36,hx36,h⟩:=A9 h
   refine BN (AF _ _ _ hx36) ?_
   conv=>whnf
   obtain ⟨hr,h⟩:=E0 h
   refine z6 ?_
   try rw [HT]
   exact z30
  conv=>whnf
  obtain rfl:=Option.some.inj h
  refine z10 ?_
  conv=>whnf
  refine ⟨.inl ?_⟩
  conv=>whnf
  exact ⟨Ll⟩
 refine z5 h (fun p=>Cd 42 [(0,.ptr 0 0 0),(3,.ptr 3 1 0),(5,.sl 5 1),(6,.d (Ah 1 (D.int .i64) x9)),(19,.d (.int .i64 ((x9.length:Nat):Int))),(20,.d (.int .i64 p.1))] [(0,.var [.d (Ah 1 (D.int .u8) p.2.1.f_l),.d (.int .i64 p.2.1.f_at)],0),(3,.var [.d (Ah 2 Af p1.Lists),.d (Ah 7 Ai p1.Columns)],1),(5,.row 2 101 (List.map Ak p.2.2),1)]) As fun _ _ ⟨v20_2,w0_2,b5_2⟩ h=>?_
 simp only [FE] at h
 refine AM h (fun h=>?_) fun h=>?_
 ·conv=>whnf
  refine z13 ?_
  refine B6 (f:=(D.int .i64)) h fun x26 hx26 h=>?_
  refine B6 (f:=(D.int .i64)) h fun x32 hx32 h=>?_
  conv=>whnf
  obtain ⟨x34,hx34,h⟩:=A9 h
  refine A1 (Lf _ _ _ hx34) ?_
  conv=>whnf
  obtain ⟨x36,hx36,h⟩:=A9 h
  refine BN (AF _ _ _ hx36) ?_
  conv=>whnf
  obtain ⟨hr,h⟩:=E0 h
  refine z6 ?_
  try rw [HT]
  exact z30
 conv=>whnf
 obtain rfl:=Option.some.inj h
 refine z10 ?_
 conv=>whnf
 refine ⟨.inl ?_⟩
 conv=>whnf
 exact ⟨Ll⟩
theorem Ja (d:Nat) (p0:Ag) (p1:Ae) (p2:ByteArray) (R:(Az × Ag)) (h:CW d p0 p1 p2 = some R):CY Tryz.prog 22 [.optr [(Ah 1 (D.int .u8) p0.f_l),(.int .i64 p0.f_at)],.d (Au p1),.d (.str p2)] [.optr [(Ah 1 (D.int .u8) R.2.f_l),(.int .i64 R.2.f_at)],.any,.any] (.d (AA R.1)):=by
 refine Oe Tryz.func22 (by kernel_rfl) rfl ?_ ?_
 ·intro i x y hx hy
  match i,hx,hy with
  | 0,hx,hy=>simp at hx hy; subst hx; subst hy; exact ⟨_,rfl,rfl⟩
  | 1,hx,hy=>simp at hx hy; subst hx; subst hy; trivial
  | 2,hx,hy=>simp at hx hy; subst hx; subst hy; trivial
  | i + 3,hx,hy=>simp at hx
 unfold CW at h
 conv=>whnf
 refine z13 ?_
 refine Pe h (fun _=>AF _ _ _) fun x14 h=>?_
 refine Pe h (fun _=>I5 _ _ _ _ _) fun x15 h=>?_
 refine Pe h (fun _=>Ex _ _ _) fun x19 h=>?_
 refine Pe h (fun _=>AF _ _ _) fun x21 h=>?_
 refine AM h (fun h=>?_) fun h=>?_
 ·exact z40
 refine AM h (fun h=>?_) fun h=>?_
 ·refine Pe h (fun _=>PX _ _ _ _) fun x31 h=>?_
  refine AM h (fun h=>?_) fun h=>?_
  ·exact z36
  exact z40
 refine AM h (fun h=>?_) fun h=>?_
 ·refine B6 (f:=Ai) h fun x46 _ h=>?_
  refine AM h (fun h=>?_) fun h=>?_
  ·refine Pe h (fun _=>I5 _ _ _ _ _) fun x53 h=>?_
   exact z36
  exact z40
 exact z40
theorem LN (d:Nat) (p0:Ag) (p1:Ae) (R:(A3 × Ag)) (h:CP d p0 p1 = some R):CY Tryz.prog 7 [.optr [(Ah 1 (D.int .u8) p0.f_l),(.int .i64 p0.f_at)],.d (Au p1)] [.optr [(Ah 1 (D.int .u8) R.2.f_l),(.int .i64 R.2.f_at)],.any] (.d (BZ R.1)):=by
 refine RF [4] Tryz.func7 (by kernel_rfl) rfl ?_ ?_
 ·intro i x y hx hy
  match i,hx,hy with
  | 0,hx,hy=>simp at hx hy; subst hx; subst hy; exact ⟨_,rfl,rfl⟩
  | 1,hx,hy=>simp at hx hy; subst hx; subst hy; trivial
  | i + 2,hx,hy=>simp at hx
 unfold CP at h
 conv=>whnf
 refine z13 ?_
 refine Pe h (fun _=>AF _ _ _) fun x8 h=>?_
 refine AU h (fun _=>C8 _ _) fun x9 h=>?_
 conv=>whnf
 obtain ⟨hr,h⟩:=E0 h
 refine z12 ?_
 refine Pe h (fun _=>I5 _ _ _ _ _) fun x13 h=>?_
 refine Pe h (fun _=>AF _ _ _) fun x15 h=>?_
 refine Ga {p:(Ag × Int × Int × Int × Int × Int × (List Aj)) // BX d p1 x9 x15 p.1 p.2.1 p.2.2.1 p.2.2.2.1 p.2.2.2.2.1 p.2.2.2.2.2.1 p.2.2.2.2.2.2 = some R} (fun p=>Cd 53 [(0,.ptr 0 0 0),(3,.ptr 3 1 0),(4,.ptr 4 1 0),(5,.ptr 5 1 0)] [(0,.var [.d (Ah 1 (D.int .u8) p.1.1.f_l),.d (.int .i64 p.1.1.f_at)],0),(3,.var [.d (Ah 2 Af p1.Lists),.d (Ah 7 Ai p1.Columns)],1),(4,.var [.d (.str ByteArray.empty),.d (.str ByteArray.empty),.d (.int .i64 0),.d (.int .i64 0),.d (.int .i64 0),.d (.int .i64 0),.d (.int .i64 0),.d (.nil 6),.d (.int .i64 0),.d (.int .i64 0),.d (.int .i64 0),.d (.nil 17)],1),(5,.var [.d (.str (({ data:=#[112] }:ByteArray)++x9)),.d (.str ({ data:=#[115,114,99] }:ByteArray)),.d (.int .i64 p.1.2.1),.d (.int .i64 p.1.2.2.1),.d (.int .i64 p.1.2.2.2.1),.d (.int .i64 p.1.2.2.2.2.1),.d (.int .i64 p.1.2.2.2.2.2.1),.d (Ah 6 Ap p.1.2.2.2.2.2.2),.d (.int .i64 1),.d (.int .i64 1),.d (.int .i64 x15.1),.d (.nil 17)],1)]) ?_ fun p=>?_
 ·refine Pe h (fun _=>Dq _ _ _) fun x19 h=>?_
  refine AM h (fun h=>?_) fun h=>?_
  ·conv=>whnf
   exact ⟨⟨(_,_,_,_,_,_,_),h⟩,Ns⟩
  conv=>whnf
  exact ⟨⟨(_,_,_,_,_,_,_),h⟩,Ns⟩
 obtain ⟨⟨k0_1,k5_2_1,k5_3_1,k5_4_1,k5_5_1,k5_6_1,k5_7_1⟩,h⟩:=p
 simp only [BX] at h
 refine Pe h (fun _=>Dq _ _ _) fun x23 h=>?_
 refine AM h (fun h=>?_) fun h=>?_
 ·refine Pe h (fun _=>B2 _ _ _ _) fun x25 h=>?_
  refine Pe h (fun _=>B2 _ _ _ _) fun x32 h=>?_
  conv=>whnf
  obtain ⟨x36,hx36,h⟩:=A9 h
  refine BN (B2 _ _ _ _ hx36) ?_
  conv=>whnf
  obtain ⟨P1,i1,h⟩:=AI h
  refine Zn [(5,11,50,95)] {p:Nat × (Int × Ag × (List Az)) // P1 p.1 p.2 = some R} (fun p=>Cd 53 [(0,.ptr 0 0 0),(3,.ptr 3 1 0),(4,.ptr 4 1 0),(5,.ptr 5 1 0),(6,.d (.int .i64 p.1.2.1))] [(0,.var [.d (Ah 1 (D.int .u8) p.1.2.2.1.f_l),.d (.int .i64 p.1.2.2.1.f_at)],0),(3,.var [.d (Ah 2 Af p1.Lists),.d (Ah 7 Ai p1.Columns)],1),(4,.var [.d (.str ByteArray.empty),.d (.str ByteArray.empty),.d (.int .i64 0),.d (.int .i64 0),.d (.int .i64 0),.d (.int .i64 0),.d (.int .i64 0),.d (.nil 6),.d (.int .i64 0),.d (.int .i64 0),.d (.int .i64 0),.d (.nil 17)],1),(5,.var [.d (.str (({ data:=#[112] }:ByteArray)++x9)),.d (.str ({ data:=#[115,114,99] }:ByteArray)),.d (.int .i64 k5_2_1),.d (.int .i64 k5_3_1),.d (.int .i64 k5_4_1),.d (.int .i64 k5_5_1),.d (.int .i64 k5_6_1),.d (Ah 6 Ap k5_7_1),.d (.int .i64 x32.1),.d (.int .i64 x25.1),.d (.int .i64 x15.1),.sl 50 1],1),(50,.row 17 95 (List.map AA p.1.2.2.2),1)]) (fun p=>p.1.1) ⟨(_,(_,_,_)),h⟩ ?_ fun p=>?_
  ·conv=>whnf
   exact fg
  obtain ⟨⟨k1,⟨v6_1,w0_1,b50_1⟩⟩,h⟩:=p
  obtain ⟨k1,rfl,h⟩:=i1 _ _ h
  simp only [Di] at h
  refine AM h (fun h=>?_) fun h=>?_
  ·conv=>whnf
   refine z13 ?_
   conv=>whnf
   obtain ⟨x46,hx46,h⟩:=A9 h
   refine A1 (C8 _ _ hx46) ?_
   conv=>whnf
   obtain ⟨hr,h⟩:=E0 h
   refine z12 ?_
   conv=>whnf
   obtain ⟨x48,hx48,h⟩:=A9 h
   refine BN (Ja _ _ _ _ _ hx48) ?_
   conv=>whnf
   obtain ⟨hr,h⟩:=E0 h
   refine z6 ?_
   try rw [OD]
   conv=>whnf
   exact Cw ⟨(_,(_,_,_)),h⟩ Ns
  conv=>whnf
  try simp only [Dj,Dk] at h
  refine ⟨.inl ?_⟩
  exact z36
 conv=>whnf
 obtain ⟨x36,hx36,h⟩:=A9 h
 refine BN (B2 _ _ _ _ hx36) ?_
 conv=>whnf
 obtain ⟨P2,i2,h⟩:=AI h
 refine Zn [(5,11,50,95)] {p:Nat × (Int × Ag × (List Az)) // P2 p.1 p.2 = some R} (fun p=>Cd 53 [(0,.ptr 0 0 0),(3,.ptr 3 1 0),(4,.ptr 4 1 0),(5,.ptr 5 1 0),(6,.d (.int .i64 p.1.2.1))] [(0,.var [.d (Ah 1 (D.int .u8) p.1.2.2.1.f_l),.d (.int .i64 p.1.2.2.1.f_at)],0),(3,.var [.d (Ah 2 Af p1.Lists),.d (Ah 7 Ai p1.Columns)],1),(4,.var [.d (.str ByteArray.empty),.d (.str ByteArray.empty),.d (.int .i64 0),.d (.int .i64 0),.d (.int .i64 0),.d (.int .i64 0),.d (.int .i64 0),.d (.nil 6),.d (.int .i64 0),.d (.int .i64 0),.d (.int .i64 0),.d (.nil 17)],1),(5,.var [.d (.str (({ data:=#[112] }:ByteArray)++x9)),.d (.str ({ data:=#[115,114,99] }:ByteArray)),.d (.int .i64 k5_2_1),.d (.int .i64 k5_3_1),.d (.int .i64 k5_4_1),.d (.int .i64 k5_5_1),.d (.int .i64 k5_6_1),.d (Ah 6 Ap k5_7_1),.d (.int .i64 1),.d (.int .i64 1),.d (.int .i64 x15.1),.sl 50 1],1),(50,.row 17 95 (List.map AA p.1.2.2.2),1)]) (fun p=>p.1.1) ⟨(_,(_,_,_)),h⟩ ?_ fun p=>?_
 ·conv=>whnf
  exact fg
 obtain ⟨⟨k2,⟨v6_2,w0_2,b50_2⟩⟩,h⟩:=p
 obtain ⟨k2,rfl,h⟩:=i2 _ _ h
 simp only [GV] at h
 refine AM h (fun h=>?_) fun h=>?_
 ·conv=>whnf
  refine z13 ?_
  conv=>whnf
  obtain ⟨x46,hx46,h⟩:=A9 h
  refine A1 (C8 _ _ hx46) ?_
  conv=>whnf
  obtain ⟨hr,h⟩:=E0 h
  refine z12 ?_
  conv=>whnf
  obtain ⟨x48,hx48,h⟩:=A9 h
  refine BN (Ja _ _ _ _ _ hx48) ?_
  conv=>whnf
  obtain ⟨hr,h⟩:=E0 h
  refine z6 ?_
  try rw [OD]
  conv=>whnf
  exact Cw ⟨(_,(_,_,_)),h⟩ Ns
 conv=>whnf
 try simp only [Dj,Dk] at h
 refine ⟨.inl ?_⟩
 exact z36
end Go.Proofs.YtjghjdokjgcehaaGreatDoor.P
