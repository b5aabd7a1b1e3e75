/- P3W17 -/
import Derived.Test.YtlpkhgkoihlghaaGreatDoorP3W7
import Derived.Test.YtlpkhgkoihlghaaGreatDoorP3W13
import Derived.Test.YtlpkhgkoihlghaaGreatDoorP3W16
set_option linter.unusedSimpArgs false
namespace Go.Proofs.YtlpkhgkoihlghaaGreatDoor.P
open Go.Abs Go.Proofs
set_option maxRecDepth 100000
set_option maxHeartbeats 4000000
set_option linter.unusedVariables false
theorem VQ (d:Nat) (p0:Ae) (R:(Aq × (List B1) × A6 × (List Ap) × Int × (List BU) × Ae)) (h:Kb d p0 = some R):Ck Tryz.prog 5 [.optr [(Aj 1 (D.int .u8) p0.f_l),(.int .i64 p0.f_at)]] [.optr [(Aj 1 (D.int .u8) R.2.2.2.2.2.2.f_l),(.int .i64 R.2.2.2.2.2.2.f_at)]] (.tup [.d (B8 R.1),.d (Aj 3 Cc R.2.1),.d (BF R.2.2.1),.d (Aj 2 An R.2.2.2.1),.d (.int .i64 R.2.2.2.2.1),.d (Aj 21 FI R.2.2.2.2.2.1)]):=by
 refine Kc Tryz.func5 (by kernel_rfl) rfl ?_ ?_
 ·intro i x y hx hy
  match i,hx,hy with
  | 0,hx,hy=>simp at hx hy; subst hx; subst hy; exact ⟨_,rfl,rfl⟩
  | i + 1,hx,hy=>simp at hx
 unfold Kb at h
 conv=>whnf
 refine Ag h fun x13 hx13 h=>?_
 refine AC (Qm _ _ _ hx13) ?_
 conv=>whnf
 refine Ag h fun x16 hx16 h=>?_
 refine AC (Rc _ _ _ _ hx16) ?_
 conv=>whnf
 refine Ag h fun x20 hx20 h=>?_
 refine Ak (Z5 _ _ hx20) ?_
 conv=>whnf
 refine z13 ?_
 conv=>whnf
 refine Ag h fun x28 hx28 h=>?_
 refine AC (Ql _ _ hx28) ?_
 conv=>whnf
 refine Ag h fun x32 hx32 h=>?_
 refine AC (OH _ _ _ _ _ hx32) ?_
 exact z38
theorem VP (R:Bool) (h:Ka = some R):Aw Tryz.prog 12 [] (.d (.bool R)):=by
 refine BA Tryz.func12 ?_
 unfold Ka at h
 conv=>whnf
 refine ⟨.inl ?_⟩
 conv=>whnf
 refine ⟨.inl ?_⟩
 conv=>whnf
 refine Ag h fun x10 hx10 h=>?_
 refine Ak (MW _ _ _ hx10) ?_
 refine AQ h fun h=>?_
 refine ⟨.inl ?_⟩
 conv=>whnf
 refine Ag h fun x20 hx20 h=>?_
 refine Ak (XP _ _ _ hx20) ?_
 exact z60
theorem M4 (d:Nat) (p0:(List Int)) (p1:Int) (p2:Int) (R:Bool) (h:Du d p0 p1 p2 = some R):Aw Tryz.prog 3 [.d (Aj 1 (D.int .u8) p0),.d (.int .u8 p1),.d (.int .u8 p2)] (.d (.bool R)):=by
 refine DY [25] Tryz.func3 (by kernel_rfl) ?_
 unfold Du at h
 conv=>whnf
 refine Ag h fun x39 hx39 h=>?_
 refine Ak (Z6 _ _ hx39) ?_
 conv=>whnf
 refine Ag h fun x42 hx42 h=>?_
 refine AC (VQ _ _ _ hx42) ?_
 conv=>whnf
 refine z13 ?_
 conv=>whnf
 refine C4 h fun hr h=>?_
 first | refine ⟨of_decide_eq_true hr,?_⟩ | (simp only [List.length_map]; refine ⟨of_decide_eq_true hr,?_⟩)
 conv=>whnf
 refine C4 h fun hr h=>?_
 first | refine ⟨of_decide_eq_true hr,?_⟩ | (simp only [List.length_map]; refine ⟨of_decide_eq_true hr,?_⟩)
 conv=>whnf
 refine C4 h fun hr h=>?_
 first | refine ⟨of_decide_eq_true hr,?_⟩ | (simp only [List.length_map]; refine ⟨of_decide_eq_true hr,?_⟩)
 conv=>whnf
 refine C4 h fun hr h=>?_
 first | refine ⟨of_decide_eq_true hr,?_⟩ | (simp only [List.length_map]; refine ⟨of_decide_eq_true hr,?_⟩)
 conv=>whnf
 refine Ag h fun x78 hx78 h=>?_
 first | refine Ak (JO _ _ _ _ _ _ _ _ _ hx78) ?_ | (simp only [List.length_map]; refine Ak (JO _ _ _ _ _ _ _ _ _ hx78) ?_)
 conv=>whnf
 refine Ag h fun x86 hx86 h=>?_
 first | refine Ak (Jg _ _ _ _ _ hx86) ?_ | (simp only [List.length_map]; refine Ak (Jg _ _ _ _ _ hx86) ?_)
 conv=>whnf
 refine Ag h fun x93 hx93 h=>?_
 first | refine Ak (NJ _ _ _ _ hx93) ?_ | (simp only [List.length_map]; refine Ak (NJ _ _ _ _ hx93) ?_)
 conv=>whnf
 refine Ag h fun x100 hx100 h=>?_
 first | refine Ak (NJ _ _ _ _ hx100) ?_ | (simp only [List.length_map]; refine Ak (NJ _ _ _ _ hx100) ?_)
 conv=>whnf
 refine Ag h fun x108 hx108 h=>?_
 refine Ak (QI _ _ _ _ _ _ hx108) ?_
 conv=>whnf
 refine Ag h fun x116 hx116 h=>?_
 refine Ak (QI _ _ _ _ _ _ hx116) ?_
 refine Am h fun h=>?_
 refine Th {p:Unit // Ch x108 x78 x116 = some R} (fun p=>B0 228 [(17,.ptr 17 1 0),(25,.ptr 25 1 0),(27,.ptr 27 1 0)] [(17,.var [.d (.int .i64 x78.1.Version),.d (Aj 1 (D.int .i64) x78.1.Gone),.d (Aj 1 (Aj 1 (D.int .i64)) x78.1.Rows)],1),(25,.var [.d (.str x108.1.Project),.d (.int .i64 x108.1.Version),.d (Aj 2 An x108.1.Picks),.d (Aj 1 (Aj 1 (D.int .i64)) x108.1.Rows)],1),(27,.var [.d (.str x116.1.Project),.d (.int .i64 x116.1.Version),.d (Aj 2 An x116.1.Picks),.d (Aj 1 (Aj 1 (D.int .i64)) x116.1.Rows)],1)]) ?_ fun p=>?_
 ·conv=>whnf
  refine Ag h fun x134 hx134 h=>?_
  refine Ak (XO _ _ hx134) ?_
  conv=>whnf
  refine z5 h (fun p=>B0 228 [(17,.ptr 17 1 0),(19,.d (Aj 1 (D.int .i64) x86.1)),(25,.ptr 25 1 0),(27,.ptr 27 1 0),(134,.d (Aj 1 (D.int .i64) x134)),(135,.d (.int .i64 ((x134.length:Nat):Int))),(136,.d (.int .i64 p))] [(17,.var [.d (.int .i64 x78.1.Version),.d (Aj 1 (D.int .i64) x78.1.Gone),.d (Aj 1 (Aj 1 (D.int .i64)) x78.1.Rows)],1),(25,.var [.d (.str x108.1.Project),.d (.int .i64 x108.1.Version),.d (Aj 2 An x108.1.Picks),.d (Aj 1 (Aj 1 (D.int .i64)) x108.1.Rows)],1),(27,.var [.d (.str x116.1.Project),.d (.int .i64 x116.1.Version),.d (Aj 2 An x116.1.Picks),.d (Aj 1 (Aj 1 (D.int .i64)) x116.1.Rows)],1)]) Ai fun _ _ v136_1 h=>?_
  simp only [CH] at h
  refine AH h (fun h=>?_) fun h=>?_
  ·refine AJ (f:=(D.int .i64)) h fun x138 _ h=>?_
   conv=>whnf
   refine z5 h (fun p=>B0 228 [(17,.ptr 17 1 0),(19,.d (Aj 1 (D.int .i64) x86.1)),(25,.ptr 25 1 0),(27,.ptr 27 1 0),(30,.d (.int .i64 x138)),(31,.d (.bool p.1)),(134,.d (Aj 1 (D.int .i64) x134)),(135,.d (.int .i64 ((x134.length:Nat):Int))),(136,.d (.int .i64 v136_1)),(140,.d (Aj 1 (D.int .i64) x86.1)),(141,.d (.int .i64 ((x86.1.length:Nat):Int))),(142,.d (.int .i64 p.2))] [(17,.var [.d (.int .i64 x78.1.Version),.d (Aj 1 (D.int .i64) x78.1.Gone),.d (Aj 1 (Aj 1 (D.int .i64)) x78.1.Rows)],1),(25,.var [.d (.str x108.1.Project),.d (.int .i64 x108.1.Version),.d (Aj 2 An x108.1.Picks),.d (Aj 1 (Aj 1 (D.int .i64)) x108.1.Rows)],1),(27,.var [.d (.str x116.1.Project),.d (.int .i64 x116.1.Version),.d (Aj 2 An x116.1.Picks),.d (Aj 1 (Aj 1 (D.int .i64)) x116.1.Rows)],1)]) Ai fun _ _ ⟨v31_2,v142_2⟩ h=>?_
   simp only [CI] at h
   refine AH h (fun h=>?_) fun h=>?_
   ·refine AJ (f:=(D.int .i64)) h fun x144 _ h=>?_
    exact z19
   exact z18
  exact z36
 obtain ⟨_,h⟩:=p
 simp only [Ch] at h
 conv=>whnf
 refine Ag h fun x159 hx159 h=>?_
 refine Ak (Wi _ _ _ hx159) ?_
 refine Am h fun h=>?_
 conv=>whnf
 refine z5 h (fun p=>B0 228 [(27,.ptr 27 1 0),(34,.ptr 34 1 0),(182,.d (.int .i64 ((x159.1.Rows.length:Nat):Int))),(183,.d (.int .i64 p))] [(27,.var [.d (.str x116.1.Project),.d (.int .i64 x116.1.Version),.d (Aj 2 An x116.1.Picks),.d (Aj 1 (Aj 1 (D.int .i64)) x116.1.Rows)],1),(34,.var [.d (.str x159.1.Project),.d (.int .i64 x159.1.Version),.d (Aj 2 An x159.1.Picks),.d (Aj 1 (Aj 1 (D.int .i64)) x159.1.Rows)],1)]) Ai fun _ _ v183_3 h=>?_
 simp only [CJ] at h
 refine AH h (fun h=>?_) fun h=>?_
 ·conv=>whnf
  refine z13 ?_
  refine AJ (f:=(Aj 1 (D.int .i64))) h fun x189 _ h=>?_
  refine AJ (f:=(Aj 1 (D.int .i64))) h fun x195 _ h=>?_
  refine Am h fun h=>?_
  refine AJ (f:=(Aj 1 (D.int .i64))) h fun x202 _ h=>?_
  conv=>whnf
  refine z5 h (fun p=>B0 228 [(27,.ptr 27 1 0),(34,.ptr 34 1 0),(36,.d (.int .i64 v183_3)),(182,.d (.int .i64 ((x159.1.Rows.length:Nat):Int))),(183,.d (.int .i64 v183_3)),(204,.d (.int .i64 ((x202.length:Nat):Int))),(205,.d (.int .i64 p))] [(27,.var [.d (.str x116.1.Project),.d (.int .i64 x116.1.Version),.d (Aj 2 An x116.1.Picks),.d (Aj 1 (Aj 1 (D.int .i64)) x116.1.Rows)],1),(34,.var [.d (.str x159.1.Project),.d (.int .i64 x159.1.Version),.d (Aj 2 An x159.1.Picks),.d (Aj 1 (Aj 1 (D.int .i64)) x159.1.Rows)],1)]) Ai fun _ _ v205_4 h=>?_
  simp only [CK] at h
  refine AH h (fun h=>?_) fun h=>?_
  ·conv=>whnf
   refine z13 ?_
   refine AJ (f:=(Aj 1 (D.int .i64))) h fun x211 _ h=>?_
   refine AJ (f:=(D.int .i64)) h fun x214 _ h=>?_
   refine AJ (f:=(Aj 1 (D.int .i64))) h fun x219 _ h=>?_
   refine AJ (f:=(D.int .i64)) h fun x222 _ h=>?_
   exact z18
  conv=>whnf
  exact z42
 conv=>whnf
 refine Ag h fun x227 hx227 h=>?_
 refine Ak (VP  _ hx227) ?_
 exact z60
end Go.Proofs.YtlpkhgkoihlghaaGreatDoor.P
