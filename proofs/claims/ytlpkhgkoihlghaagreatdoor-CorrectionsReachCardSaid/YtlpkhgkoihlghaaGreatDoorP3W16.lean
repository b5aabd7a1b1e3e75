/- P3W16 -/
import Derived.Test.YtlpkhgkoihlghaaGreatDoorP3W15
set_option linter.unusedSimpArgs false
namespace Go.Proofs.YtlpkhgkoihlghaaGreatDoor.P
open Go.Abs Go.Proofs
set_option maxRecDepth 100000
set_option maxHeartbeats 4000000
set_option linter.unusedVariables false
theorem RY (d:Nat) (p0:Ae) (p1:Af) (p2:(List ByteArray)) (R:(C6 × Ae)) (h:F9 d p0 p1 p2 = some R):Ck Tryz.prog 43 [.optr [(Aj 1 (D.int .u8) p0.f_l),(.int .i64 p0.f_at)],.d (Ay p1),.own 1 9 (List.map D.str p2)] [.optr [(Aj 1 (D.int .u8) R.2.f_l),(.int .i64 R.2.f_at)],.any,.own 1 9 (List.map D.str p2)] (.d (Ad R.1)):=by
 refine Kc Tryz.func43 (by kernel_rfl) rfl ?_ ?_
 ·intro i x y hx hy
  match i,hx,hy with
  | 0,hx,hy=>simp at hx hy; subst hx; subst hy; exact ⟨_,rfl,rfl⟩
  | 1,hx,hy=>simp at hx hy; subst hx; subst hy; trivial
  | 2,hx,hy=>cases Option.some.inj hx; cases Option.some.inj hy; exact ⟨_,rfl⟩
  | i + 3,hx,hy=>simp at hx
 unfold F9 at h
 conv=>whnf
 refine Ag h fun x13 hx13 h=>?_
 refine AC (Cl _ _ _ hx13) ?_
 conv=>whnf
 refine Ag h fun x15 hx15 h=>?_
 refine AC (A2 _ _ _ hx15) ?_
 conv=>whnf
 refine Qt h E4 (fun e1 h=>?_) (fun e1 h=>?_)
 ·conv=>whnf
  refine R1 E4 e1 ?_
  conv=>whnf
  refine z13 ?_
  conv=>whnf
  refine Ag h fun x21 hx21 h=>?_
  refine AC (LY _ _ _ hx21) ?_
  conv=>whnf
  refine Ag h fun x24 hx24 h=>?_
  refine AC (B6 _ _ _ _ _ hx24) ?_
  conv=>whnf
  refine Ag h fun x27 hx27 h=>?_
  refine AC (BG _ _ _ hx27) ?_
  refine AH h (fun h=>?_) fun h=>?_
  ·exact z24
  exact z24
 refine AH h (fun h=>?_) fun h=>?_
 ·conv=>whnf
  refine z13 ?_
  conv=>whnf
  refine Ag h fun x21 hx21 h=>?_
  refine AC (LY _ _ _ hx21) ?_
  conv=>whnf
  refine Ag h fun x24 hx24 h=>?_
  refine AC (B6 _ _ _ _ _ hx24) ?_
  conv=>whnf
  refine Ag h fun x27 hx27 h=>?_
  refine AC (BG _ _ _ hx27) ?_
  refine AH h (fun h=>?_) fun h=>?_
  ·exact z24
  exact z24
 refine AH h (fun h=>?_) fun h=>?_
 ·conv=>whnf
  refine Ag h fun x36 hx36 h=>?_
  refine AC (Re _ _ _ _ hx36) ?_
  refine AH h (fun h=>?_) fun h=>?_
  ·conv=>whnf
   refine Ag h fun x44 hx44 h=>?_
   refine AC (B6 _ _ _ _ _ hx44) ?_
   exact z24
  exact z53
 refine AH h (fun h=>?_) fun h=>?_
 ·refine AJ (f:=Al) h fun x51 _ h=>?_
  refine AH h (fun h=>?_) fun h=>?_
  ·conv=>whnf
   refine z13 ?_
   conv=>whnf
   refine Ag h fun x58 hx58 h=>?_
   refine AC (B6 _ _ _ _ _ hx58) ?_
   conv=>whnf
   refine Ag h fun x61 hx61 h=>?_
   refine AC (B6 _ _ _ _ _ hx61) ?_
   exact z24
  exact z53
 refine AH h (fun h=>?_) fun h=>?_
 ·refine AJ (f:=Al) h fun x68 _ h=>?_
  conv=>whnf
  refine z13 ?_
  conv=>whnf
  refine Ag h fun x76 hx76 h=>?_
  first | refine AC (A2 _ _ _ hx76) ?_ | (simp only [List.length_map]; refine AC (A2 _ _ _ hx76) ?_)
  refine AJ (f:=(D.int .i64)) h fun x77 _ h=>?_
  conv=>whnf
  refine Ag h fun x81 hx81 h=>?_
  refine AC (B6 _ _ _ _ _ hx81) ?_
  exact z24
 refine AH h (fun h=>?_) fun h=>?_
 ·conv=>whnf
  refine Ag h fun x88 hx88 h=>?_
  refine AC (B6 _ _ _ _ _ hx88) ?_
  exact z24
 exact z53
theorem OH (d:Nat) (p0:Ae) (p1:Af) (p2:Int) (R:((List BU) × Ae)) (h:D5 d p0 p1 p2 = some R):Ck Tryz.prog 17 [.optr [(Aj 1 (D.int .u8) p0.f_l),(.int .i64 p0.f_at)],.d (Ay p1),.d (.int .i64 p2)] [.optr [(Aj 1 (D.int .u8) R.2.f_l),(.int .i64 R.2.f_at)],.any,.any] (.d (Aj 21 FI R.1)):=by
 refine Kc Tryz.func17 (by kernel_rfl) rfl ?_ ?_
 ·intro i x y hx hy
  match i,hx,hy with
  | 0,hx,hy=>simp at hx hy; subst hx; subst hy; exact ⟨_,rfl,rfl⟩
  | 1,hx,hy=>simp at hx hy; subst hx; subst hy; trivial
  | 2,hx,hy=>simp at hx hy; subst hx; subst hy; trivial
  | i + 3,hx,hy=>simp at hx
 unfold D5 at h
 conv=>whnf
 refine Ag h fun x14 hx14 h=>?_
 refine AC (A2 _ _ _ hx14) ?_
 conv=>whnf
 refine z5 h (fun p=>B0 44 [(0,.ptr 0 0 0),(4,.ptr 4 1 0),(7,.sl 7 1),(8,.sl 8 1),(9,.d (.int .i64 p.1))] [(0,.var [.d (Aj 1 (D.int .u8) p.2.1.f_l),.d (.int .i64 p.2.1.f_at)],0),(4,.var [.d (Aj 2 Ah p1.Lists),.d (Aj 7 Al p1.Columns)],1),(7,.row 21 112 (List.map FI p.2.2.1),1),(8,.row 1 9 (List.map D.str p.2.2.2),1)]) Ya fun _ _ ⟨v9_1,w0_1,b7_1,b8_1⟩ h=>?_
 simp only [FR] at h
 refine AH h (fun h=>?_) fun h=>?_
 ·conv=>whnf
  refine z13 ?_
  conv=>whnf
  refine Ag h fun x21 hx21 h=>?_
  first | refine Ak (C3 _ _ hx21) ?_ | (simp only [List.length_map]; refine Ak (C3 _ _ hx21) ?_)
  conv=>whnf
  refine C4 h fun hr h=>?_
  refine z12 ?_
  conv=>whnf
  refine Ag h fun x24 hx24 h=>?_
  refine AC (BG _ _ _ hx24) ?_
  conv=>whnf
  refine Ag h fun x28 hx28 h=>?_
  refine AC (RY _ _ _ _ _ hx28) ?_
  refine AH h (fun h=>?_) fun h=>?_
  ·conv=>whnf
   refine C4 h fun hr h=>?_
   refine z6 ?_
   try rw [fz]
   conv=>whnf
   refine C4 h fun hr h=>?_
   refine z6 ?_
   try rw [Oo]
   conv=>whnf
   exact Bn ⟨(_,(_,_,_,_)),h⟩ Ya
  conv=>whnf
  refine C4 h fun hr h=>?_
  refine z6 ?_
  try rw [Oo]
  conv=>whnf
  exact Bn ⟨(_,(_,_,_,_)),h⟩ Ya
 exact z45
end Go.Proofs.YtlpkhgkoihlghaaGreatDoor.P
