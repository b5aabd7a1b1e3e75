/- P3W15 -/
import Derived.Test.YtlpkhgkoihlghaaGreatDoorP3W14
set_option linter.unusedSimpArgs false
namespace Go.Proofs.YtlpkhgkoihlghaaGreatDoor.P
open Go.Abs Go.Proofs
set_option maxRecDepth 100000
set_option maxHeartbeats 4000000
set_option linter.unusedVariables false
theorem LY (p0:Ae) (p1:Af) (R:((List Ap) × Ae)) (h:Ed p0 p1 = some R):Ck Tryz.prog 89 [.optr [(Aj 1 (D.int .u8) p0.f_l),(.int .i64 p0.f_at)],.d (Ay p1)] [.optr [(Aj 1 (D.int .u8) R.2.f_l),(.int .i64 R.2.f_at)],.any] (.d (Aj 2 An R.1)):=by
 refine Kc Tryz.func89 (by kernel_rfl) rfl ?_ ?_
 ·intro i x y hx hy
  match i,hx,hy with
  | 0,hx,hy=>simp at hx hy; subst hx; subst hy; exact ⟨_,rfl,rfl⟩
  | 1,hx,hy=>simp at hx hy; subst hx; subst hy; trivial
  | i + 2,hx,hy=>simp at hx
 unfold Ed at h
 conv=>whnf
 refine Ag h fun x9 hx9 h=>?_
 refine Ak (Ix _ _ _ hx9) ?_
 conv=>whnf
 refine Ag h fun x11 hx11 h=>?_
 refine AC (BG _ _ _ hx11) ?_
 refine AH h (fun h=>?_) fun h=>?_
 ·conv=>whnf
  refine Ag h fun x16 hx16 h=>?_
  first | refine AC (A2 _ _ _ hx16) ?_ | (simp only [List.length_map]; refine AC (A2 _ _ _ hx16) ?_)
  conv=>whnf
  refine C4 h fun hr h=>?_
  refine z8 ?_
  try simp only [List.length_map]
  rw [VJ]
  conv=>whnf
  refine z5 h (fun p=>B0 42 [(0,.ptr 0 0 0),(3,.ptr 3 1 0),(5,.sl 5 1),(6,.d (Aj 1 (D.int .i64) (HR x9 x16.1 ((x9.length:Nat):Int)))),(19,.d (.int .i64 (((HR x9 x16.1 ((x9.length:Nat):Int)).length:Nat):Int))),(20,.d (.int .i64 p.1))] [(0,.var [.d (Aj 1 (D.int .u8) p.2.1.f_l),.d (.int .i64 p.2.1.f_at)],0),(3,.var [.d (Aj 2 Ah p1.Lists),.d (Aj 7 Al p1.Columns)],1),(5,.row 2 85 (List.map An p.2.2),1)]) Ai fun _ _ ⟨v20_1,w0_1,b5_1⟩ h=>?_
  simp only [Ff] at h
  refine AH h (fun h=>?_) fun h=>?_
  ·conv=>whnf
   refine z13 ?_
   refine AJ (f:=(D.int .i64)) h fun x26 hx26 h=>?_
   refine AJ (f:=(D.int .i64)) h fun x32 hx32 h=>?_
   conv=>whnf
   refine Ag h fun x34 hx34 h=>?_
   refine Ak (DC _ _ _ hx34) ?_
   conv=>whnf
   refine Ag h fun x36 hx36 h=>?_
   refine AC (A2 _ _ _ hx36) ?_
   conv=>whnf
   exact z40
  exact z45
 conv=>whnf
 refine z5 h (fun p=>B0 42 [(0,.ptr 0 0 0),(3,.ptr 3 1 0),(5,.sl 5 1),(6,.d (Aj 1 (D.int .i64) x9)),(19,.d (.int .i64 ((x9.length:Nat):Int))),(20,.d (.int .i64 p.1))] [(0,.var [.d (Aj 1 (D.int .u8) p.2.1.f_l),.d (.int .i64 p.2.1.f_at)],0),(3,.var [.d (Aj 2 Ah p1.Lists),.d (Aj 7 Al p1.Columns)],1),(5,.row 2 85 (List.map An p.2.2),1)]) Ai fun _ _ ⟨v20_2,w0_2,b5_2⟩ h=>?_
 simp only [Fg] at h
 refine AH h (fun h=>?_) fun h=>?_
 ·conv=>whnf
  refine z13 ?_
  refine AJ (f:=(D.int .i64)) h fun x26 hx26 h=>?_
  refine AJ (f:=(D.int .i64)) h fun x32 hx32 h=>?_
  conv=>whnf
  refine Ag h fun x34 hx34 h=>?_
  refine Ak (DC _ _ _ hx34) ?_
  conv=>whnf
  refine Ag h fun x36 hx36 h=>?_
  refine AC (A2 _ _ _ hx36) ?_
  conv=>whnf
  exact z40
 exact z45
theorem Ra (p0:Ae) (p1:Af) (R:(Int × Ae)) (h:EI p0 p1 = some R):Ck Tryz.prog 138 [.optr [(Aj 1 (D.int .u8) p0.f_l),(.int .i64 p0.f_at)],.d (Ay p1)] [.optr [(Aj 1 (D.int .u8) R.2.f_l),(.int .i64 R.2.f_at)],.any] (.d (.int .i64 R.1)):=by
 refine Kc Tryz.func138 (by kernel_rfl) rfl ?_ ?_
 ·intro i x y hx hy
  match i,hx,hy with
  | 0,hx,hy=>simp at hx hy; subst hx; subst hy; exact ⟨_,rfl,rfl⟩
  | 1,hx,hy=>simp at hx hy; subst hx; subst hy; trivial
  | i + 2,hx,hy=>simp at hx
 unfold EI at h
 conv=>whnf
 refine Ag h fun x7 hx7 h=>?_
 refine Ak (Ix _ _ _ hx7) ?_
 conv=>whnf
 exact z48
theorem Rb (d:Nat) (self_draw_Codes_Cond:(Ae→Af→Int→Option (As × Ae))) (ih_draw_Codes_Cond:∀ (p0:Ae) (p1:Af) (p2:Int) (R:(As × Ae)) ,self_draw_Codes_Cond p0 p1 p2 = some R→Ck Tryz.prog 90 [.optr [(Aj 1 (D.int .u8) p0.f_l),(.int .i64 p0.f_at)],.d (Ay p1),.d (.int .i64 p2)] [.optr [(Aj 1 (D.int .u8) R.2.f_l),(.int .i64 R.2.f_at)],.any,.any] (.d (Ac R.1))) (p0:Ae) (p1:Af) (p2:Int) (R:(As × Ae)) (h:Cy d self_draw_Codes_Cond p0 p1 p2 = some R):Ck Tryz.prog 90 [.optr [(Aj 1 (D.int .u8) p0.f_l),(.int .i64 p0.f_at)],.d (Ay p1),.d (.int .i64 p2)] [.optr [(Aj 1 (D.int .u8) R.2.f_l),(.int .i64 R.2.f_at)],.any,.any] (.d (Ac R.1)):=by
 refine Vd [9] Tryz.func90 (by kernel_rfl) rfl ?_ ?_
 ·intro i x y hx hy
  match i,hx,hy with
  | 0,hx,hy=>simp at hx hy; subst hx; subst hy; exact ⟨_,rfl,rfl⟩
  | 1,hx,hy=>simp at hx hy; subst hx; subst hy; trivial
  | 2,hx,hy=>simp at hx hy; subst hx; subst hy; trivial
  | i + 3,hx,hy=>simp at hx
 unfold Cy at h
 refine Th {p:Ae // CR p1 p = some R} (fun p=>B0 111 [(0,.ptr 0 0 0),(4,.ptr 4 1 0),(6,.ptr 6 1 0)] [(0,.var [.d (Aj 1 (D.int .u8) p.1.f_l),.d (.int .i64 p.1.f_at)],0),(4,.var [.d (Aj 2 Ah p1.Lists),.d (Aj 7 Al p1.Columns)],1),(6,.var [.d (.int .i64 0),.d (.int .i64 0),.d (.int .i64 0),.d (.int .i64 0),.d (.int .i64 0),.d (.nil 6)],1)]) ?_ fun p=>?_
 ·refine AH h (fun h=>?_) fun h=>?_
  ·conv=>whnf
   refine Ag h fun x14 hx14 h=>?_
   refine AC (A2 _ _ _ hx14) ?_
   refine AH h (fun h=>?_) fun h=>?_
   ·conv=>whnf
    refine Ag h fun x21 hx21 h=>?_
    first | refine AC (ih_draw_Codes_Cond _ _ _ _ hx21) ?_ | (simp only [List.length_map]; refine AC (ih_draw_Codes_Cond _ _ _ _ hx21) ?_)
    conv=>whnf
    refine ⟨.inl ?_⟩
    conv=>whnf
    exact z31
   refine AH h (fun h=>?_) fun h=>?_
   ·conv=>whnf
    refine z13 ?_
    conv=>whnf
    refine Ag h fun x30 hx30 h=>?_
    first | refine AC (ih_draw_Codes_Cond _ _ _ _ hx30) ?_ | (simp only [List.length_map]; refine AC (ih_draw_Codes_Cond _ _ _ _ hx30) ?_)
    conv=>whnf
    refine Ag h fun x35 hx35 h=>?_
    first | refine AC (ih_draw_Codes_Cond _ _ _ _ hx35) ?_ | (simp only [List.length_map]; refine AC (ih_draw_Codes_Cond _ _ _ _ hx35) ?_)
    conv=>whnf
    refine ⟨.inl ?_⟩
    conv=>whnf
    exact z31
   refine AH h (fun h=>?_) fun h=>?_
   ·conv=>whnf
    refine z13 ?_
    conv=>whnf
    refine Ag h fun x44 hx44 h=>?_
    first | refine AC (ih_draw_Codes_Cond _ _ _ _ hx44) ?_ | (simp only [List.length_map]; refine AC (ih_draw_Codes_Cond _ _ _ _ hx44) ?_)
    conv=>whnf
    refine Ag h fun x49 hx49 h=>?_
    first | refine AC (ih_draw_Codes_Cond _ _ _ _ hx49) ?_ | (simp only [List.length_map]; refine AC (ih_draw_Codes_Cond _ _ _ _ hx49) ?_)
    conv=>whnf
    refine ⟨.inl ?_⟩
    conv=>whnf
    exact z31
   conv=>whnf
   exact ⟨⟨_,h⟩,AZ⟩
  conv=>whnf
  exact ⟨⟨_,h⟩,AZ⟩
 obtain ⟨k0_1,h⟩:=p
 simp only [CR] at h
 conv=>whnf
 refine Ag h fun x53 hx53 h=>?_
 refine AC (A2 _ _ _ hx53) ?_
 refine AH h (fun h=>?_) fun h=>?_
 ·conv=>whnf
  refine Ag h fun x58 hx58 h=>?_
  refine AC (Ra _ _ _ hx58) ?_
  conv=>whnf
  refine z13 ?_
  refine AJ (f:=Al) h fun x66 _ h=>?_
  refine AJ (f:=Ah) h fun x69 _ h=>?_
  conv=>whnf
  refine Ag h fun x73 hx73 h=>?_
  first | refine AC (A2 _ _ _ hx73) ?_ | (simp only [List.length_map]; refine AC (A2 _ _ _ hx73) ?_)
  conv=>whnf
  exact z31
 conv=>whnf
 refine Qt h E4 (fun e6 h=>?_) (fun e6 h=>?_)
 ·conv=>whnf
  refine R1 E4 e6 ?_
  conv=>whnf
  refine Ag h fun x80 hx80 h=>?_
  refine AC (Cl _ _ _ hx80) ?_
  conv=>whnf
  refine z13 ?_
  refine AJ (f:=Al) h fun x84 hx84 h=>?_
  conv=>whnf
  refine Ag h fun x88 hx88 h=>?_
  refine AC (Bf _ _ _ _ hx88) ?_
  conv=>whnf
  refine Ag h fun x94 hx94 h=>?_
  refine AC (A2 _ _ _ hx94) ?_
  conv=>whnf
  exact z31
 refine AH h (fun h=>?_) fun h=>?_
 ·conv=>whnf
  refine Ag h fun x80 hx80 h=>?_
  refine AC (Cl _ _ _ hx80) ?_
  conv=>whnf
  refine z13 ?_
  refine AJ (f:=Al) h fun x84 hx84 h=>?_
  conv=>whnf
  refine Ag h fun x88 hx88 h=>?_
  refine AC (Bf _ _ _ _ hx88) ?_
  conv=>whnf
  refine Ag h fun x94 hx94 h=>?_
  refine AC (A2 _ _ _ hx94) ?_
  conv=>whnf
  exact z31
 refine AH h (fun h=>?_) fun h=>?_
 ·conv=>whnf
  refine Ag h fun x101 hx101 h=>?_
  refine AC (Cl _ _ _ hx101) ?_
  refine AJ (f:=Al) h fun x105 _ h=>?_
  refine AH h (fun h=>?_) fun h=>?_
  ·conv=>whnf
   exact z31
  conv=>whnf
  exact z31
 conv=>whnf
 exact z31
theorem Lp:∀ d:Nat,(∀ (p0:Ae) (p1:Af) (p2:Int) (R:(As × Ae)) ,AR d p0 p1 p2 = some R→Ck Tryz.prog 90 [.optr [(Aj 1 (D.int .u8) p0.f_l),(.int .i64 p0.f_at)],.d (Ay p1),.d (.int .i64 p2)] [.optr [(Aj 1 (D.int .u8) R.2.f_l),(.int .i64 R.2.f_at)],.any,.any] (.d (Ac R.1)))
 | 0=>by
  exact z37
 | d + 1=>by
  have ih:=Lp d
  exact Rb d _ ih
theorem B6 (d:Nat):∀ (p0:Ae) (p1:Af) (p2:Int) (R:(As × Ae)) ,AR d p0 p1 p2 = some R→Ck Tryz.prog 90 [.optr [(Aj 1 (D.int .u8) p0.f_l),(.int .i64 p0.f_at)],.d (Ay p1),.d (.int .i64 p2)] [.optr [(Aj 1 (D.int .u8) R.2.f_l),(.int .i64 R.2.f_at)],.any,.any] (.d (Ac R.1)):=Lp d
theorem Re (p0:Ae) (p1:Af) (p2:Int) (R:((List Int) × Ae)) (h:EL p0 p1 p2 = some R):Ck Tryz.prog 91 [.optr [(Aj 1 (D.int .u8) p0.f_l),(.int .i64 p0.f_at)],.d (Ay p1),.d (.int .i64 p2)] [.optr [(Aj 1 (D.int .u8) R.2.f_l),(.int .i64 R.2.f_at)],.any,.any] (.d (Aj 1 (D.int .i64) R.1)):=by
 refine Kc Tryz.func91 (by kernel_rfl) rfl ?_ ?_
 ·intro i x y hx hy
  match i,hx,hy with
  | 0,hx,hy=>simp at hx hy; subst hx; subst hy; exact ⟨_,rfl,rfl⟩
  | 1,hx,hy=>simp at hx hy; subst hx; subst hy; trivial
  | 2,hx,hy=>simp at hx hy; subst hx; subst hy; trivial
  | i + 3,hx,hy=>simp at hx
 unfold EL at h
 conv=>whnf
 refine Ag h fun x11 hx11 h=>?_
 refine Ak (Ix _ _ _ hx11) ?_
 conv=>whnf
 refine z5 h (fun p=>B0 41 [(0,.ptr 0 0 0),(2,.d (.int .i64 p2)),(7,.sl 7 1),(8,.d (Aj 1 (D.int .i64) x11)),(13,.d (.int .i64 ((x11.length:Nat):Int))),(14,.d (.int .i64 p.1))] [(0,.var [.d (Aj 1 (D.int .u8) p.2.1.f_l),.d (.int .i64 p.2.1.f_at)],0),(7,.row 1 3 (List.map (D.int .i64) p.2.2),1)]) Ai fun _ _ ⟨v14_1,w0_1,b7_1⟩ h=>?_
 simp only [ED] at h
 refine AH h (fun h=>?_) fun h=>?_
 ·refine AJ (f:=(D.int .i64)) h fun x19 _ h=>?_
  refine AH h (fun h=>?_) fun h=>?_
  ·refine AH h (fun h=>?_) fun h=>?_
   ·exact z43
   refine Ag h fun x29 hx29 h=>?_
   refine AC (BG _ _ _ hx29) ?_
   refine AH h (fun h=>?_) fun h=>?_
   ·exact z43
   exact z22
  exact Bn ⟨(_,(_,_,_)),h⟩ Ai
 exact z45
theorem OG (d:Nat) (self_draw_Codes_Number:(Ae→Af→(List ByteArray)→Int→Option (C6 × Ae))) (ih_draw_Codes_Number:∀ (p0:Ae) (p1:Af) (p2:(List ByteArray)) (p3:Int) (R:(C6 × Ae)) ,self_draw_Codes_Number p0 p1 p2 p3 = some R→Ck Tryz.prog 92 [.optr [(Aj 1 (D.int .u8) p0.f_l),(.int .i64 p0.f_at)],.d (Ay p1),.own 1 9 (List.map D.str p2),.d (.int .i64 p3)] [.optr [(Aj 1 (D.int .u8) R.2.f_l),(.int .i64 R.2.f_at)],.any,.own 1 9 (List.map D.str p2),.any] (.d (Ad R.1))) (p0:Ae) (p1:Af) (p2:(List ByteArray)) (p3:Int) (R:(C6 × Ae)) (h:Dr d self_draw_Codes_Number p0 p1 p2 p3 = some R):Ck Tryz.prog 92 [.optr [(Aj 1 (D.int .u8) p0.f_l),(.int .i64 p0.f_at)],.d (Ay p1),.own 1 9 (List.map D.str p2),.d (.int .i64 p3)] [.optr [(Aj 1 (D.int .u8) R.2.f_l),(.int .i64 R.2.f_at)],.any,.own 1 9 (List.map D.str p2),.any] (.d (Ad R.1)):=by
 refine Vd [3] Tryz.func92 (by kernel_rfl) rfl ?_ ?_
 ·intro i x y hx hy
  match i,hx,hy with
  | 0,hx,hy=>simp at hx hy; subst hx; subst hy; exact ⟨_,rfl,rfl⟩
  | 1,hx,hy=>simp at hx hy; subst hx; subst hy; trivial
  | 2,hx,hy=>cases Option.some.inj hx; cases Option.some.inj hy; exact ⟨_,rfl⟩
  | 3,hx,hy=>simp at hx hy; subst hx; subst hy; trivial
  | i + 4,hx,hy=>simp at hx
 unfold Dr at h
 refine Th {p:Ae // Ct p2 d p1 p = some R} (fun p=>B0 73 [(0,.ptr 0 0 0),(2,.sl 2 0),(5,.ptr 5 1 0),(8,.ptr 8 1 0)] [(0,.var [.d (Aj 1 (D.int .u8) p.1.f_l),.d (.int .i64 p.1.f_at)],0),(2,.row 1 9 (List.map D.str p2),0),(5,.var [.d (Aj 2 Ah p1.Lists),.d (Aj 7 Al p1.Columns)],1),(8,.var [.d (.int .i64 0),.d (.int .i64 0),.d (.str ByteArray.empty),.d (.int .i64 0),.d (.nil 1),.d (.nil 2),.d (.int .i64 0),.d (.int .i64 0),.d (.int .i64 0),.d (.int .i64 0),.d (.int .i64 0),.d (.nil 6),.d (.int .i64 0),.d (.int .i64 0),.d (.int .i64 0),.d (.int .i64 0),.d (.int .i64 0),.d (.nil 6),.d (.nil 19)],1)]) ?_ fun p=>?_
 ·refine AH h (fun h=>?_) fun h=>?_
  ·refine Ag h fun x13 hx13 h=>?_
   refine AC (BG _ _ _ hx13) ?_
   refine AH h (fun h=>?_) fun h=>?_
   ·conv=>whnf
    refine z13 ?_
    conv=>whnf
    refine Ag h fun x16 hx16 h=>?_
    refine AC (Bf _ _ _ _ hx16) ?_
    conv=>whnf
    refine Ag h fun x22 hx22 h=>?_
    first | refine AC (ih_draw_Codes_Number _ _ _ _ _ hx22) ?_ | (simp only [List.length_map]; refine AC (ih_draw_Codes_Number _ _ _ _ _ hx22) ?_)
    conv=>whnf
    refine Ag h fun x28 hx28 h=>?_
    first | refine AC (ih_draw_Codes_Number _ _ _ _ _ hx28) ?_ | (simp only [List.length_map]; refine AC (ih_draw_Codes_Number _ _ _ _ _ hx28) ?_)
    conv=>whnf
    refine ⟨.inl ?_⟩
    exact z24
   conv=>whnf
   exact ⟨⟨_,h⟩,AZ⟩
  exact ⟨⟨_,h⟩,AZ⟩
 obtain ⟨k0_1,h⟩:=p
 simp only [Ct] at h
 conv=>whnf
 refine Ag h fun x32 hx32 h=>?_
 refine AC (A2 _ _ _ hx32) ?_
 refine AH h (fun h=>?_) fun h=>?_
 ·conv=>whnf
  refine Ag h fun x36 hx36 h=>?_
  refine AC (Bf _ _ _ _ hx36) ?_
  exact z24
 refine AH h (fun h=>?_) fun h=>?_
 ·refine AH h (fun h=>?_) fun h=>?_
  ·conv=>whnf
   refine Ag h fun x47 hx47 h=>?_
   first | refine AC (A2 _ _ _ hx47) ?_ | (simp only [List.length_map]; refine AC (A2 _ _ _ hx47) ?_)
   refine Vu (f:=D.str) h E4 fun x48 hx48 h=>?_
   refine bR (f:=D.str) hx48 E4 ?_
   exact z24
  conv=>whnf
  refine Ag h fun x71 hx71 h=>?_
  refine AC (B6 _ _ _ _ _ hx71) ?_
  exact z24
 refine AH h (fun h=>?_) fun h=>?_
 ·conv=>whnf
  refine z13 ?_
  conv=>whnf
  refine Ag h fun x55 hx55 h=>?_
  refine AC (Cl _ _ _ hx55) ?_
  conv=>whnf
  refine Ag h fun x58 hx58 h=>?_
  refine AC (B6 _ _ _ _ _ hx58) ?_
  exact z24
 refine AH h (fun h=>?_) fun h=>?_
 ·conv=>whnf
  refine z13 ?_
  conv=>whnf
  refine Ag h fun x64 hx64 h=>?_
  refine AC (Cl _ _ _ hx64) ?_
  conv=>whnf
  refine Ag h fun x67 hx67 h=>?_
  refine AC (B6 _ _ _ _ _ hx67) ?_
  exact z24
 conv=>whnf
 refine Ag h fun x71 hx71 h=>?_
 refine AC (B6 _ _ _ _ _ hx71) ?_
 exact z24
theorem JS:∀ d:Nat,(∀ (p0:Ae) (p1:Af) (p2:(List ByteArray)) (p3:Int) (R:(C6 × Ae)) ,BL d p0 p1 p2 p3 = some R→Ck Tryz.prog 92 [.optr [(Aj 1 (D.int .u8) p0.f_l),(.int .i64 p0.f_at)],.d (Ay p1),.own 1 9 (List.map D.str p2),.d (.int .i64 p3)] [.optr [(Aj 1 (D.int .u8) R.2.f_l),(.int .i64 R.2.f_at)],.any,.own 1 9 (List.map D.str p2),.any] (.d (Ad R.1)))
 | 0=>by
  exact z37
 | d + 1=>by
  have ih:=JS d
  exact OG d _ ih
theorem Hc (d:Nat):∀ (p0:Ae) (p1:Af) (p2:(List ByteArray)) (p3:Int) (R:(C6 × Ae)) ,BL d p0 p1 p2 p3 = some R→Ck Tryz.prog 92 [.optr [(Aj 1 (D.int .u8) p0.f_l),(.int .i64 p0.f_at)],.d (Ay p1),.own 1 9 (List.map D.str p2),.d (.int .i64 p3)] [.optr [(Aj 1 (D.int .u8) R.2.f_l),(.int .i64 R.2.f_at)],.any,.own 1 9 (List.map D.str p2),.any] (.d (Ad R.1)):=JS d
end Go.Proofs.YtlpkhgkoihlghaaGreatDoor.P
