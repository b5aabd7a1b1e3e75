/- P3W14 -/
import Derived.Test.YtlpkhgkoihlghaaGreatDoorP3W9
set_option linter.unusedSimpArgs false
namespace Go.Proofs.YtlpkhgkoihlghaaGreatDoor.P
open Go.Abs Go.Proofs
set_option maxRecDepth 100000
set_option maxHeartbeats 4000000
set_option linter.unusedVariables false
theorem Z6 (p0:(List Int)) (R:Ae) (h:OI p0 = some R):Aw Tryz.prog 4 [.d (Aj 1 (D.int .u8) p0)] (.optr [(Aj 1 (D.int .u8) R.f_l),(.int .i64 R.f_at)]):=by
 refine BA Tryz.func4 ?_
 unfold OI at h
 conv=>whnf
 refine C4 h fun hr h=>?_
 refine z8 ?_
 try simp only [List.length_map]
 rw [VJ]
 exact z60
theorem A2 (p0:Ae) (p1:Int) (R:(Int × Ae)) (h:A8 p0 p1 = some R):Ck Tryz.prog 37 [.optr [(Aj 1 (D.int .u8) p0.f_l),(.int .i64 p0.f_at)],.d (.int .i64 p1)] [.optr [(Aj 1 (D.int .u8) R.2.f_l),(.int .i64 R.2.f_at)],.any] (.d (.int .i64 R.1)):=by
 refine Vd [3] Tryz.func37 (by kernel_rfl) rfl ?_ ?_
 ·intro i x y hx hy
  match i,hx,hy with
  | 0,hx,hy=>simp at hx hy; subst hx; subst hy; exact ⟨_,rfl,rfl⟩
  | 1,hx,hy=>simp at hx hy; subst hx; subst hy; trivial
  | i + 2,hx,hy=>simp at hx
 unfold A8 at h
 refine Th {p:Unit // Fl p0 p1 = some R} (fun p=>B0 77 [(0,.ptr 0 0 0),(1,.d (.int .i64 p1))] [(0,.var [.d (Aj 1 (D.int .u8) p0.f_l),.d (.int .i64 p0.f_at)],0)]) ?_ fun p=>?_
 ·conv=>whnf
  refine z13 ?_
  refine AH h (fun h=>?_) fun h=>?_
  ·exact z21
  refine AH h (fun h=>?_) fun h=>?_
  ·exact z38
  exact z36
 obtain ⟨_,h⟩:=p
 simp only [Fl] at h
 conv=>whnf
 refine z13 ?_
 refine AJ (f:=(D.int .u8)) h fun x36 _ h=>?_
 conv=>whnf
 refine z13 ?_
 refine AH h (fun h=>?_) fun h=>?_
 ·refine AH h (fun h=>?_) fun h=>?_
  ·conv=>whnf
   refine z13 ?_
   refine AJ (f:=(D.int .u8)) h fun x63 _ h=>?_
   conv=>whnf
   refine C4 h fun hr h=>?_
   refine z12 ?_
   exact z38
  conv=>whnf
  refine C4 h fun hr h=>?_
  refine z12 ?_
  exact z38
 refine C4 h fun hr h=>?_
 refine z12 ?_
 exact z38
theorem BG (p0:Ae) (p1:Int) (R:(Bool × Ae)) (h:B7 p0 p1 = some R):Ck Tryz.prog 42 [.optr [(Aj 1 (D.int .u8) p0.f_l),(.int .i64 p0.f_at)],.d (.int .i64 p1)] [.optr [(Aj 1 (D.int .u8) R.2.f_l),(.int .i64 R.2.f_at)],.any] (.d (.bool R.1)):=by
 refine Kc Tryz.func42 (by kernel_rfl) rfl ?_ ?_
 ·intro i x y hx hy
  match i,hx,hy with
  | 0,hx,hy=>simp at hx hy; subst hx; subst hy; exact ⟨_,rfl,rfl⟩
  | 1,hx,hy=>simp at hx hy; subst hx; subst hy; trivial
  | i + 2,hx,hy=>simp at hx
 unfold B7 at h
 conv=>whnf
 refine Ag h fun x7 hx7 h=>?_
 refine AC (A2 _ _ _ hx7) ?_
 exact z38
theorem Bf (p0:Ae) (p1:Int) (p2:Int) (R:(Int × Ae)) (h:AN p0 p1 p2 = some R):Ck Tryz.prog 83 [.optr [(Aj 1 (D.int .u8) p0.f_l),(.int .i64 p0.f_at)],.d (.int .i64 p1),.d (.int .i64 p2)] [.optr [(Aj 1 (D.int .u8) R.2.f_l),(.int .i64 R.2.f_at)],.any,.any] (.d (.int .i64 R.1)):=by
 refine Kc Tryz.func83 (by kernel_rfl) rfl ?_ ?_
 ·intro i x y hx hy
  match i,hx,hy with
  | 0,hx,hy=>simp at hx hy; subst hx; subst hy; exact ⟨_,rfl,rfl⟩
  | 1,hx,hy=>simp at hx hy; subst hx; subst hy; trivial
  | 2,hx,hy=>simp at hx hy; subst hx; subst hy; trivial
  | i + 3,hx,hy=>simp at hx
 unfold AN at h
 conv=>whnf
 refine Ag h fun x13 hx13 h=>?_
 refine AC (A2 _ _ _ hx13) ?_
 exact z38
theorem LZ (p0:Ae) (p1:ByteArray) (R:(Ax × Ae)) (h:Ee p0 p1 = some R):Ck Tryz.prog 82 [.optr [(Aj 1 (D.int .u8) p0.f_l),(.int .i64 p0.f_at)],.d (.str p1)] [.optr [(Aj 1 (D.int .u8) R.2.f_l),(.int .i64 R.2.f_at)],.any] (.d (Ah R.1)):=by
 refine Vd [7] Tryz.func82 (by kernel_rfl) rfl ?_ ?_
 ·intro i x y hx hy
  match i,hx,hy with
  | 0,hx,hy=>simp at hx hy; subst hx; subst hy; exact ⟨_,rfl,rfl⟩
  | 1,hx,hy=>simp at hx hy; subst hx; subst hy; trivial
  | i + 2,hx,hy=>simp at hx
 unfold Ee at h
 conv=>whnf
 refine ⟨.inr ?_⟩
 conv=>whnf
 refine Ag h fun x15 hx15 h=>?_
 refine AC (Bf _ _ _ _ hx15) ?_
 refine Th {p:(List BD) // Fj x15 p1 p = some R} (fun p=>B0 58 [(0,.ptr 0 0 0),(4,.ptr 4 1 0),(5,.ptr 5 1 0),(6,.d (.int .i64 x15.1))] [(0,.var [.d (Aj 1 (D.int .u8) x15.2.f_l),.d (.int .i64 x15.2.f_at)],0),(4,.var [.d (.str ByteArray.empty),.d (.nil 2)],1),(5,.var [.d (.str p1),.sl 12 1],1),(12,.row 2 157 (List.map AW p.1),1)]) ?_ fun p=>?_
 ·conv=>whnf
  refine z5 h (fun p=>B0 58 [(0,.ptr 0 0 0),(4,.ptr 4 1 0),(5,.ptr 5 1 0),(6,.d (.int .i64 x15.1)),(7,.d (.int .i64 p.1))] [(0,.var [.d (Aj 1 (D.int .u8) x15.2.f_l),.d (.int .i64 x15.2.f_at)],0),(4,.var [.d (.str ByteArray.empty),.d (.nil 2)],1),(5,.var [.d (.str p1),.sl 12 1],1),(12,.row 2 157 (List.map AW p.2),1)]) Ai fun _ _ ⟨v7_1,b12_1⟩ h=>?_
  simp only [Fh] at h
  refine AH h (fun h=>?_) fun h=>?_
  ·conv=>whnf
   refine z13 ?_
   conv=>whnf
   refine Ag h fun x24 hx24 h=>?_
   refine Ak (C3 _ _ hx24) ?_
   conv=>whnf
   refine C4 h fun hr h=>?_
   refine z12 ?_
   conv=>whnf
   refine C4 h fun hr h=>?_
   refine z6 ?_
   try rw [V4]
   exact z19
  conv=>whnf
  exact ⟨⟨_,h⟩,Ai⟩
 obtain ⟨k12_1,h⟩:=p
 simp only [Fj] at h
 conv=>whnf
 refine Ag h fun x31 hx31 h=>?_
 refine AC (BG _ _ _ hx31) ?_
 refine AH h (fun h=>?_) fun h=>?_
 ·exact z58
 conv=>whnf
 refine z5 h (fun p=>B0 58 [(0,.ptr 0 0 0),(4,.ptr 4 1 0),(5,.ptr 5 1 0),(6,.d (.int .i64 x15.1)),(8,.d (.int .i64 p.1))] [(0,.var [.d (Aj 1 (D.int .u8) p.2.1.f_l),.d (.int .i64 p.2.1.f_at)],0),(4,.var [.d (.str ByteArray.empty),.d (.nil 2)],1),(5,.var [.d (.str p1),.sl 12 1],1),(12,.row 2 157 (List.map AW p.2.2),1)]) Ai fun _ _ ⟨v8_2,w0_2,b12_2⟩ h=>?_
 simp only [Fi] at h
 refine AH h (fun h=>?_) fun h=>?_
 ·conv=>whnf
  refine Ag h fun x39 hx39 h=>?_
  refine AC (Bf _ _ _ _ hx39) ?_
  conv=>whnf
  refine z5 h (fun p=>B0 58 [(0,.ptr 0 0 0),(4,.ptr 4 1 0),(5,.ptr 5 1 0),(6,.d (.int .i64 x15.1)),(8,.d (.int .i64 v8_2)),(9,.d (.int .i64 p.1))] [(0,.var [.d (Aj 1 (D.int .u8) x39.2.f_l),.d (.int .i64 x39.2.f_at)],0),(4,.var [.d (.str ByteArray.empty),.d (.nil 2)],1),(5,.var [.d (.str p1),.sl 12 1],1),(12,.row 2 157 (List.map AW p.2),1)]) Ai fun _ _ ⟨v9_3,b12_3⟩ h=>?_
  simp only [HL] at h
  refine AH h (fun h=>?_) fun h=>?_
  ·conv=>whnf
   refine z13 ?_
   conv=>whnf
   refine Ag h fun x49 hx49 h=>?_
   first | refine Ak (C3 _ _ hx49) ?_ | (simp only [List.length_map]; refine Ak (C3 _ _ hx49) ?_)
   conv=>whnf
   refine C4 h fun hr h=>?_
   refine z12 ?_
   conv=>whnf
   refine C4 h fun hr h=>?_
   refine z6 ?_
   try rw [V4]
   exact z19
  exact z22
 exact z58
theorem JR (p0:Ae) (p1:ByteArray) (R:(A3 × Ae)) (h:CS p0 p1 = some R):Ck Tryz.prog 84 [.optr [(Aj 1 (D.int .u8) p0.f_l),(.int .i64 p0.f_at)],.d (.str p1)] [.optr [(Aj 1 (D.int .u8) R.2.f_l),(.int .i64 R.2.f_at)],.any] (.d (Al R.1)):=by
 refine Kc Tryz.func84 (by kernel_rfl) rfl ?_ ?_
 ·intro i x y hx hy
  match i,hx,hy with
  | 0,hx,hy=>simp at hx hy; subst hx; subst hy; exact ⟨_,rfl,rfl⟩
  | 1,hx,hy=>simp at hx hy; subst hx; subst hy; trivial
  | i + 2,hx,hy=>simp at hx
 unfold CS at h
 conv=>whnf
 refine z13 ?_
 conv=>whnf
 refine Ag h fun x8 hx8 h=>?_
 refine AC (Bf _ _ _ _ hx8) ?_
 conv=>whnf
 refine Ag h fun x15 hx15 h=>?_
 refine AC (A2 _ _ _ hx15) ?_
 refine Vu (f:=(Aj 1 (D.int .i64))) h E4 fun x16 hx16 h=>?_
 refine bR (f:=(Aj 1 (D.int .i64))) hx16 E4 ?_
 conv=>whnf
 refine Ag h fun x19 hx19 h=>?_
 refine AC (BG _ _ _ hx19) ?_
 conv=>whnf
 refine z13 ?_
 conv=>whnf
 refine Ag h fun x24 hx24 h=>?_
 refine AC (A2 _ _ _ hx24) ?_
 exact z38
theorem Qk (p0:Ae) (R:(Af × Ae)) (h:Eu p0 = some R):Ck Tryz.prog 36 [.optr [(Aj 1 (D.int .u8) p0.f_l),(.int .i64 p0.f_at)]] [.optr [(Aj 1 (D.int .u8) R.2.f_l),(.int .i64 R.2.f_at)]] (.d (Ay R.1)):=by
 refine Kc Tryz.func36 (by kernel_rfl) rfl ?_ ?_
 ·intro i x y hx hy
  match i,hx,hy with
  | 0,hx,hy=>simp at hx hy; subst hx; subst hy; exact ⟨_,rfl,rfl⟩
  | i + 1,hx,hy=>simp at hx
 unfold Eu at h
 conv=>whnf
 refine Ag h fun x6 hx6 h=>?_
 refine AC (LZ _ _ _ hx6) ?_
 conv=>whnf
 refine Ag h fun x8 hx8 h=>?_
 refine AC (LZ _ _ _ hx8) ?_
 conv=>whnf
 refine ⟨.inr ?_⟩
 conv=>whnf
 refine Ag h fun x15 hx15 h=>?_
 refine AC (BG _ _ _ hx15) ?_
 refine AH h (fun h=>?_) fun h=>?_
 ·conv=>whnf
  refine C4 h fun hr h=>?_
  refine z6 ?_
  try rw [KN]
  conv=>whnf
  refine Ag h fun x23 hx23 h=>?_
  refine AC (Bf _ _ _ _ hx23) ?_
  conv=>whnf
  refine z5 h (fun p=>B0 41 [(0,.ptr 0 0 0),(2,.ptr 2 1 0),(3,.ptr 3 1 0),(4,.d (.int .i64 p.1))] [(0,.var [.d (Aj 1 (D.int .u8) p.2.1.f_l),.d (.int .i64 p.2.1.f_at)],0),(2,.var [.d (.nil 2),.d (.nil 7)],1),(3,.var [.sl 9 1,.sl 12 1],1),(9,.row 2 142 (List.map Ah [x6.1,x8.1]),1),(12,.row 7 137 (List.map Al p.2.2),1)]) Ai fun _ _ ⟨v4_1,w0_1,b12_1⟩ h=>?_
  simp only [Ev] at h
  refine AH h (fun h=>?_) fun h=>?_
  ·conv=>whnf
   refine z13 ?_
   conv=>whnf
   refine Ag h fun x34 hx34 h=>?_
   first | refine Ak (C3 _ _ hx34) ?_ | (simp only [List.length_map]; refine Ak (C3 _ _ hx34) ?_)
   conv=>whnf
   refine C4 h fun hr h=>?_
   refine z12 ?_
   conv=>whnf
   refine Ag h fun x36 hx36 h=>?_
   refine AC (JR _ _ _ hx36) ?_
   conv=>whnf
   refine C4 h fun hr h=>?_
   refine z6 ?_
   try rw [KN]
   exact z22
  exact z58
 conv=>whnf
 refine Ag h fun x23 hx23 h=>?_
 refine AC (Bf _ _ _ _ hx23) ?_
 conv=>whnf
 refine z5 h (fun p=>B0 41 [(0,.ptr 0 0 0),(2,.ptr 2 1 0),(3,.ptr 3 1 0),(4,.d (.int .i64 p.1))] [(0,.var [.d (Aj 1 (D.int .u8) p.2.1.f_l),.d (.int .i64 p.2.1.f_at)],0),(2,.var [.d (.nil 2),.d (.nil 7)],1),(3,.var [.sl 9 1,.sl 12 1],1),(9,.row 2 142 (List.map Ah [x6.1,x8.1]),1),(12,.row 7 137 (List.map Al p.2.2),1)]) Ai fun _ _ ⟨v4_2,w0_2,b12_2⟩ h=>?_
 simp only [JU] at h
 refine AH h (fun h=>?_) fun h=>?_
 ·conv=>whnf
  refine z13 ?_
  conv=>whnf
  refine Ag h fun x34 hx34 h=>?_
  first | refine Ak (C3 _ _ hx34) ?_ | (simp only [List.length_map]; refine Ak (C3 _ _ hx34) ?_)
  conv=>whnf
  refine C4 h fun hr h=>?_
  refine z12 ?_
  conv=>whnf
  refine Ag h fun x36 hx36 h=>?_
  refine AC (JR _ _ _ hx36) ?_
  conv=>whnf
  refine C4 h fun hr h=>?_
  refine z6 ?_
  try rw [KN]
  exact z22
 exact z58
theorem Rf (p0:Ae) (p1:Af) (p2:Int) (R:(Int × Ae)) (h:EM p0 p1 p2 = some R):Ck Tryz.prog 85 [.optr [(Aj 1 (D.int .u8) p0.f_l),(.int .i64 p0.f_at)],.d (Ay p1),.d (.int .i64 p2)] [.optr [(Aj 1 (D.int .u8) R.2.f_l),(.int .i64 R.2.f_at)],.any,.any] (.d (.int .i64 R.1)):=by
 refine Kc Tryz.func85 (by kernel_rfl) rfl ?_ ?_
 ·intro i x y hx hy
  match i,hx,hy with
  | 0,hx,hy=>simp at hx hy; subst hx; subst hy; exact ⟨_,rfl,rfl⟩
  | 1,hx,hy=>simp at hx hy; subst hx; subst hy; trivial
  | 2,hx,hy=>simp at hx hy; subst hx; subst hy; trivial
  | i + 3,hx,hy=>simp at hx
 unfold EM at h
 refine AJ (f:=Al) h fun x12 _ h=>?_
 refine AH h (fun h=>?_) fun h=>?_
 ·conv=>whnf
  refine Ag h fun x19 hx19 h=>?_
  refine AC (Bf _ _ _ _ hx19) ?_
  exact z38
 refine AH h (fun h=>?_) fun h=>?_
 ·conv=>whnf
  refine Ag h fun x24 hx24 h=>?_
  refine Ak (LE _ _ _ hx24) ?_
  conv=>whnf
  refine Ag h fun x29 hx29 h=>?_
  first | refine AC (A2 _ _ _ hx29) ?_ | (simp only [List.length_map]; refine AC (A2 _ _ _ hx29) ?_)
  refine AJ (f:=(D.int .i64)) h fun x30 _ h=>?_
  exact z38
 refine AH h (fun h=>?_) fun h=>?_
 ·refine Ag h fun x36 hx36 h=>?_
  refine AC (BG _ _ _ hx36) ?_
  refine AH h (fun h=>?_) fun h=>?_
  ·exact z38
  conv=>whnf
  refine Ag h fun x43 hx43 h=>?_
  refine AC (Bf _ _ _ _ hx43) ?_
  exact z38
 refine Ag h fun x43 hx43 h=>?_
 refine AC (Bf _ _ _ _ hx43) ?_
 exact z38
theorem MZ (p0:Ae) (p1:Af) (R:((List Int) × Ae)) (h:EK p0 p1 = some R):Ck Tryz.prog 38 [.optr [(Aj 1 (D.int .u8) p0.f_l),(.int .i64 p0.f_at)],.d (Ay p1)] [.optr [(Aj 1 (D.int .u8) R.2.f_l),(.int .i64 R.2.f_at)],.any] (.own 1 3 (List.map (D.int .i64) R.1)):=by
 refine Kc Tryz.func38 (by kernel_rfl) rfl ?_ ?_
 ·intro i x y hx hy
  match i,hx,hy with
  | 0,hx,hy=>simp at hx hy; subst hx; subst hy; exact ⟨_,rfl,rfl⟩
  | 1,hx,hy=>simp at hx hy; subst hx; subst hy; trivial
  | i + 2,hx,hy=>simp at hx
 unfold EK at h
 conv=>whnf
 refine z5 h (fun p=>B0 22 [(0,.ptr 0 0 0),(3,.ptr 3 1 0),(5,.sl 5 1),(9,.d (.int .i64 ((p1.Columns.length:Nat):Int))),(10,.d (.int .i64 p.1))] [(0,.var [.d (Aj 1 (D.int .u8) p.2.1.f_l),.d (.int .i64 p.2.1.f_at)],0),(3,.var [.d (Aj 2 Ah p1.Lists),.d (Aj 7 Al p1.Columns)],1),(5,.row 1 3 (List.map (D.int .i64) p.2.2),1)]) Ai fun _ _ ⟨v10_1,w0_1,b5_1⟩ h=>?_
 simp only [FX] at h
 refine AH h (fun h=>?_) fun h=>?_
 ·conv=>whnf
  refine Ag h fun x17 hx17 h=>?_
  refine AC (Rf _ _ _ _ hx17) ?_
  conv=>whnf
  exact z39
 conv=>whnf
 obtain rfl:=Option.some.inj h
 refine z9 ?_
 conv=>whnf
 refine ⟨.inr ?_⟩
 exact z47
theorem Qm (p0:Ae) (p1:Int) (R:(Aq × Ae)) (h:Ex p0 p1 = some R):Ck Tryz.prog 13 [.optr [(Aj 1 (D.int .u8) p0.f_l),(.int .i64 p0.f_at)],.d (.int .i64 p1)] [.optr [(Aj 1 (D.int .u8) R.2.f_l),(.int .i64 R.2.f_at)],.any] (.d (B8 R.1)):=by
 refine Kc Tryz.func13 (by kernel_rfl) rfl ?_ ?_
 ·intro i x y hx hy
  match i,hx,hy with
  | 0,hx,hy=>simp at hx hy; subst hx; subst hy; exact ⟨_,rfl,rfl⟩
  | 1,hx,hy=>simp at hx hy; subst hx; subst hy; trivial
  | i + 2,hx,hy=>simp at hx
 unfold Ex at h
 conv=>whnf
 refine Ag h fun x9 hx9 h=>?_
 refine AC (Qk _ _ hx9) ?_
 conv=>whnf
 refine Ag h fun x15 hx15 h=>?_
 refine AC (A2 _ _ _ hx15) ?_
 conv=>whnf
 refine z5 h (fun p=>B0 28 [(0,.ptr 0 0 0),(4,.ptr 4 1 0),(5,.ptr 5 1 0),(6,.ptr 6 1 0),(7,.d (.int .i64 p.1))] [(0,.var [.d (Aj 1 (D.int .u8) p.2.1.f_l),.d (.int .i64 p.2.1.f_at)],0),(4,.var [.d (.nil 2),.d (.nil 7),.d (.nil 1),.d (.nil 1),.d (.int .i64 0)],1),(5,.var [.d (Aj 2 Ah x9.1.Lists),.d (Aj 7 Al x9.1.Columns)],1),(6,.var [.d (Aj 2 Ah x9.1.Lists),.d (Aj 7 Al x9.1.Columns),.d (Aj 1 (Aj 1 (D.int .i64)) p.2.2),.d (.nil 1),.d (.int .i64 0)],1)]) Ai fun _ _ ⟨v7_1,w0_1,c6_2_1⟩ h=>?_
 simp only [Gi] at h
 refine AH h (fun h=>?_) fun h=>?_
 ·conv=>whnf
  refine z13 ?_
  conv=>whnf
  refine Ag h fun x24 hx24 h=>?_
  refine AC (MZ _ _ _ hx24) ?_
  conv=>whnf
  refine Ag h fun x25 hx25 h=>?_
  refine Ak (Kf _ _ _ hx25) ?_
  exact z22
 exact z38
theorem RU (p0:Ae) (p1:Aq) (R:(B1 × Ae)) (h:F8 p0 p1 = some R):Ck Tryz.prog 39 [.optr [(Aj 1 (D.int .u8) p0.f_l),(.int .i64 p0.f_at)],.d (B8 p1)] [.optr [(Aj 1 (D.int .u8) R.2.f_l),(.int .i64 R.2.f_at)],.any] (.d (Cc R.1)):=by
 refine Vd [4] Tryz.func39 (by kernel_rfl) rfl ?_ ?_
 ·intro i x y hx hy
  match i,hx,hy with
  | 0,hx,hy=>simp at hx hy; subst hx; subst hy; exact ⟨_,rfl,rfl⟩
  | 1,hx,hy=>simp at hx hy; subst hx; subst hy; trivial
  | i + 2,hx,hy=>simp at hx
 unfold F8 at h
 conv=>whnf
 refine Ag h fun x7 hx7 h=>?_
 refine AC (Bf _ _ _ _ hx7) ?_
 conv=>whnf
 refine Ag h fun x9 hx9 h=>?_
 refine AC (Bf _ _ _ _ hx9) ?_
 refine Th {p:(Ae × Int) // Cq x7 p1 p.1 p.2 = some R} (fun p=>B0 49 [(0,.ptr 0 0 0),(3,.ptr 3 1 0),(4,.ptr 4 1 0),(5,.ptr 5 1 0)] [(0,.var [.d (Aj 1 (D.int .u8) p.1.1.f_l),.d (.int .i64 p.1.1.f_at)],0),(3,.var [.d (Aj 2 Ah p1.Schema.Lists),.d (Aj 7 Al p1.Schema.Columns),.d (Aj 1 (Aj 1 (D.int .i64)) p1.Rows),.d (Aj 1 (D.int .i64) p1.Gone),.d (.int .i64 p1.Version)],1),(4,.var [.d (.int .i64 0),.d (.nil 1),.d (.int .i64 0)],1),(5,.var [.d (.int .i64 x7.1),.d (.nil 1),.d (.int .i64 p.1.2)],1)]) ?_ fun p=>?_
 ·refine AH h (fun h=>?_) fun h=>?_
  ·refine Ag h fun x17 hx17 h=>?_
   refine AC (BG _ _ _ hx17) ?_
   refine AH h (fun h=>?_) fun h=>?_
   ·conv=>whnf
    refine z13 ?_
    conv=>whnf
    refine Ag h fun x25 hx25 h=>?_
    first | refine AC (A2 _ _ _ hx25) ?_ | (simp only [List.length_map]; refine AC (A2 _ _ _ hx25) ?_)
    refine AJ (f:=(Aj 1 (D.int .i64))) h fun x26 _ h=>?_
    refine AJ (f:=(D.int .i64)) h fun x28 _ h=>?_
    conv=>whnf
    exact ⟨⟨(_,_),h⟩,Ai⟩
   conv=>whnf
   exact ⟨⟨(_,_),h⟩,Ai⟩
  exact ⟨⟨(_,_),h⟩,Ai⟩
 obtain ⟨⟨k0_1,k5_2_1⟩,h⟩:=p
 simp only [Cq] at h
 refine AH h (fun h=>?_) fun h=>?_
 ·conv=>whnf
  refine Ag h fun x37 hx37 h=>?_
  refine AC (MZ _ _ _ hx37) ?_
  refine AH h (fun h=>?_) fun h=>?_
  ·refine Vu (f:=(D.int .i64)) h E4 fun x46 hx46 h=>?_
   refine bR (f:=(D.int .i64)) hx46 E4 ?_
   conv=>whnf
   try rw [cU]
   refine ⟨.inl ?_⟩
   exact z38
  exact z58
 exact z38
theorem Rc (p0:Ae) (p1:Aq) (p2:Int) (R:((List B1) × Ae)) (h:EJ p0 p1 p2 = some R):Ck Tryz.prog 14 [.optr [(Aj 1 (D.int .u8) p0.f_l),(.int .i64 p0.f_at)],.d (B8 p1),.d (.int .i64 p2)] [.optr [(Aj 1 (D.int .u8) R.2.f_l),(.int .i64 R.2.f_at)],.any,.any] (.d (Aj 3 Cc R.1)):=by
 refine Kc Tryz.func14 (by kernel_rfl) rfl ?_ ?_
 ·intro i x y hx hy
  match i,hx,hy with
  | 0,hx,hy=>simp at hx hy; subst hx; subst hy; exact ⟨_,rfl,rfl⟩
  | 1,hx,hy=>simp at hx hy; subst hx; subst hy; trivial
  | 2,hx,hy=>simp at hx hy; subst hx; subst hy; trivial
  | i + 3,hx,hy=>simp at hx
 unfold EJ at h
 conv=>whnf
 refine Ag h fun x15 hx15 h=>?_
 refine AC (A2 _ _ _ hx15) ?_
 conv=>whnf
 refine z5 h (fun p=>B0 37 [(0,.ptr 0 0 0),(4,.ptr 4 1 0),(7,.sl 7 1),(8,.d (.int .i64 p.1))] [(0,.var [.d (Aj 1 (D.int .u8) p.2.1.f_l),.d (.int .i64 p.2.1.f_at)],0),(4,.var [.d (Aj 2 Ah p.2.2.1.Schema.Lists),.d (Aj 7 Al p.2.2.1.Schema.Columns),.d (Aj 1 (Aj 1 (D.int .i64)) p.2.2.1.Rows),.d (Aj 1 (D.int .i64) p.2.2.1.Gone),.d (.int .i64 p.2.2.1.Version)],1),(7,.row 3 77 (List.map Cc p.2.2.2),1)]) Ai fun _ _ ⟨v8_1,w0_1,w4_1,b7_1⟩ h=>?_
 simp only [Hb] at h
 refine AH h (fun h=>?_) fun h=>?_
 ·conv=>whnf
  refine Ag h fun x22 hx22 h=>?_
  refine AC (RU _ _ _ hx22) ?_
  conv=>whnf
  refine Ag h fun x26 hx26 h=>?_
  refine Ak (Q8 _ _ _ hx26) ?_
  refine AH h (fun h=>?_) fun h=>?_
  ·conv=>whnf
   refine C4 h fun hr h=>?_
   refine z6 ?_
   try rw [ZW]
   conv=>whnf
   exact Bn ⟨(_,(_,_,_,_)),h⟩ Ai
  conv=>whnf
  exact Bn ⟨(_,(_,_,_,_)),h⟩ Ai
 exact z45
theorem Z5 (p0:Af) (R:(A6 × (List Ap))) (h:OF p0 = some R):Aw Tryz.prog 15 [.d (Ay p0)] (.tup [.d (BF R.1),.d (Aj 2 An R.2)]):=by
 refine BA Tryz.func15 ?_
 unfold OF at h
 conv=>whnf
 refine z5 h (fun p=>B0 33 [(1,.ptr 1 1 0),(2,.ptr 2 1 0),(4,.ptr 4 1 0),(5,.sl 5 1),(6,.d (.int .i64 p.1))] [(1,.var [.d (Aj 2 Ah p0.Lists),.d (Aj 7 Al p0.Columns)],1),(2,.var [.d (.str ByteArray.empty),.d (.str ByteArray.empty),.d (.int .i64 0),.d (.int .i64 0),.d (.int .i64 0),.d (.int .i64 0),.d (.int .i64 0),.d (.nil 6),.d (.int .i64 0),.d (.int .i64 0),.d (.int .i64 0),.d (.nil 17)],1),(4,.var [.d (.str ({ data:=#[97,108,108,95,114,111,119,115] }:ByteArray)),.d (.str ({ data:=#[115,114,99] }:ByteArray)),.d (.int .i64 1),.d (.int .i64 0),.d (.int .i64 0),.d (.int .i64 0),.d (.int .i64 0),.d (.nil 6),.d (.int .i64 1),.d (.int .i64 1),.d (.int .i64 0),.d (.nil 17)],1),(5,.row 2 85 (List.map An p.2),1)]) Ai fun _ _ ⟨v6_1,b5_1⟩ h=>?_
 simp only [LX] at h
 refine AH h (fun h=>?_) fun h=>?_
 ·conv=>whnf
  refine Ag h fun x21 hx21 h=>?_
  refine Ak (DC _ _ _ hx21) ?_
  conv=>whnf
  exact z51
 conv=>whnf
 try simp only [T7] at h
 refine ⟨.inl ?_⟩
 conv=>whnf
 refine ⟨.inl ?_⟩
 exact z35
theorem Ql (p0:Ae) (R:(Int × Ae)) (h:Ew p0 = some R):Ck Tryz.prog 16 [.optr [(Aj 1 (D.int .u8) p0.f_l),(.int .i64 p0.f_at)]] [.optr [(Aj 1 (D.int .u8) R.2.f_l),(.int .i64 R.2.f_at)]] (.d (.int .i64 R.1)):=by
 refine Kc Tryz.func16 (by kernel_rfl) rfl ?_ ?_
 ·intro i x y hx hy
  match i,hx,hy with
  | 0,hx,hy=>simp at hx hy; subst hx; subst hy; exact ⟨_,rfl,rfl⟩
  | i + 1,hx,hy=>simp at hx
 unfold Ew at h
 conv=>whnf
 refine Ag h fun x4 hx4 h=>?_
 refine AC (A2 _ _ _ hx4) ?_
 conv=>whnf
 refine Ag h fun x6 hx6 h=>?_
 refine AC (A2 _ _ _ hx6) ?_
 conv=>whnf
 refine Ag h fun x9 hx9 h=>?_
 refine AC (A2 _ _ _ hx9) ?_
 exact z38
theorem Ix (p0:Af) (p1:Int) (R:(List Int)) (h:Da p0 p1 = some R):Aw Tryz.prog 137 [.d (Ay p0),.d (.int .i64 p1)] (.d (Aj 1 (D.int .i64) R)):=by
 refine BA Tryz.func137 ?_
 unfold Da at h
 conv=>whnf
 refine z5 h (fun p=>B0 27 [(1,.d (.int .i64 p1)),(2,.ptr 2 1 0),(5,.sl 5 1),(9,.d (.int .i64 ((p0.Columns.length:Nat):Int))),(10,.d (.int .i64 p.1))] [(2,.var [.d (Aj 2 Ah p0.Lists),.d (Aj 7 Al p0.Columns)],1),(5,.row 1 3 (List.map (D.int .i64) p.2),1)]) Ai fun _ _ ⟨v10_1,b5_1⟩ h=>?_
 simp only [Ef] at h
 refine AH h (fun h=>?_) fun h=>?_
 ·refine AJ (f:=Al) h fun x16 _ h=>?_
  refine AH h (fun h=>?_) fun h=>?_
  ·exact z55
  exact z19
 exact z35
theorem Cl (p0:Ae) (p1:Af) (R:(Int × Ae)) (h:Bl p0 p1 = some R):Ck Tryz.prog 88 [.optr [(Aj 1 (D.int .u8) p0.f_l),(.int .i64 p0.f_at)],.d (Ay p1)] [.optr [(Aj 1 (D.int .u8) R.2.f_l),(.int .i64 R.2.f_at)],.any] (.d (.int .i64 R.1)):=by
 refine Kc Tryz.func88 (by kernel_rfl) rfl ?_ ?_
 ·intro i x y hx hy
  match i,hx,hy with
  | 0,hx,hy=>simp at hx hy; subst hx; subst hy; exact ⟨_,rfl,rfl⟩
  | 1,hx,hy=>simp at hx hy; subst hx; subst hy; trivial
  | i + 2,hx,hy=>simp at hx
 unfold Bl at h
 conv=>whnf
 refine Ag h fun x7 hx7 h=>?_
 refine Ak (Ix _ _ _ hx7) ?_
 conv=>whnf
 exact z48
end Go.Proofs.YtlpkhgkoihlghaaGreatDoor.P
