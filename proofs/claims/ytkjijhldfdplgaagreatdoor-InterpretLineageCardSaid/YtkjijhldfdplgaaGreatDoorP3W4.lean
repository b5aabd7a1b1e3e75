/- P3W4 -/
import Derived.Test.YtkjijhldfdplgaaGreatDoorP3W3
open Go.Proofs.Tryz
set_option linter.all false
namespace Go.Proofs.YtkjijhldfdplgaaGreatDoor.P
open Go.Abs Go.Proofs
set_option maxRecDepth 100000
set_option maxHeartbeats 4000000
instance {a0 a1 a2 a3}:LS (λa s=>So a0 a1 a2 a3 a s.1 s.2) 36 [2,5,21,22] (λs=>[(23,.i s.1)]) [2] (λs=>[(19,.row 1 42 (List.map (Am 2 Ad) s.2),1)]):=⟨trivial⟩
theorem YR(d:Nat)(a:Aa->Ar->Option (List Ac))(ih:W2 prog 63 a):W2 prog 63 (Ju d a):=by
 intro b c R h;refine uD func63 ?_;unfold Ju at h;exact As
theorem Sq:∀d:Nat,(W2 prog 63 (CZ d))
 | 0=>by
  exact z16
 | d+1=>by
  have ih:=Sq d;exact YR d _ ih
instance types_needs_w:CS prog 63 (∀(d:Nat),W2 prog 63 (CZ d)):=⟨λd=>Sq d⟩
instance {a0 a1 a2 a3}:LS (λa s=>Jt a0 a1 a2 a3 a s.1 s.2) 70 [0,3,13,14] (λs=>[(6,.b s.1),(15,.i s.2)]) [3] (λs=>[]):=⟨trivial⟩
instance {a0 a1 a2}:LS (λa s=>TD a0 a1 a2 a s) 70 [0,3] (λs=>[(11,.i s)]) [3] (λs=>[]):=⟨trivial⟩
theorem Zy(d:Nat)(a:(List AH)->Ar->Option (Int×Int))(ih:W2 prog 64 a):W2 prog 64 (Hx d a):=by
 intro b c R h;refine Xr [10] func64 ?_;unfold Hx at h;refine F3 {p:Bool // Pm c b p=some R} (λp=>CY 70 [(0,.l 26 A8 b),(3,.ptr 3 1 0),(6,.b p.1)] [(3,Wd c,1)]) ?_ λp=>?_
 ·exact As
 obtain⟨e,h⟩:=p;exact As
theorem TE:∀d:Nat,(W2 prog 64 (Hw d))
 | 0=>by
  exact z16
 | d+1=>by
  have ih:=TE d;exact Zy d _ ih
instance types_kind_w:CS prog 64 (∀(d:Nat),W2 prog 64 (Hw d)):=⟨λd=>TE d⟩
instance types_Expr_w:CS prog 28 (∀d:Nat,W4 prog 28 (L9 d)):=⟨λd a b p2 p3 R h=>by
 refine uD func28 ?_;unfold L9 at h;exact As⟩
instance slices_Clone_Lapi_Pick_api_Pick_w:CS prog 129 (W1 prog 129 BZ):=⟨λc R h=>by
 refine QW h λhr h=>?_;obtain rfl:=sY h;refine rj func129 ?_
 conv=>whnf
 refine⟨λb d=>?_⟩
 cases b
 ·conv=>whnf
  refine z8 ?_;exact z32
 ·conv=>whnf
  have:c=[]:=by
   cases c with
   | nil=>rfl
   | cons a r=>exact absurd (d (by simp)) (by simp)
  subst this;refine⟨.inl ?_⟩
  conv=>whnf
  exact⟨rfl⟩⟩
instance slices_Clone_Lapi_TableCell_api_TableCell_w:CS prog 146 (∀(c:List Ap)(R:List Ap)(h:Ee c=some R),Ay prog 146 [.l 7 A5 c] (.cc none [.own 7 157 (List.map A5 R)])):=⟨λc R h=>by
 refine QW h λhr h=>?_;obtain rfl:=sY h;refine rj func146 ?_
 conv=>whnf
 refine⟨λb d=>?_⟩
 cases b
 ·conv=>whnf
  refine z8 ?_
  conv=>whnf
  exact⟨rfl⟩
 ·conv=>whnf
  have:c=[]:=by
   cases c with
   | nil=>rfl
   | cons a r=>exact absurd (d (by simp)) (by simp)
  subst this;exact⟨rfl⟩⟩
instance slices_Clone_Lapi_Frac_api_Frac_w:CS prog 147 (W1 prog 147 G7):=⟨λc R h=>by
 refine QW h λhr h=>?_;obtain rfl:=sY h;refine rj func147 ?_
 conv=>whnf
 refine⟨λb d=>?_⟩
 cases b
 ·conv=>whnf
  refine z8 ?_;exact z32
 ·conv=>whnf
  have:c=[]:=by
   cases c with
   | nil=>rfl
   | cons a r=>exact absurd (d (by simp)) (by simp)
  subst this;refine⟨.inl ?_⟩
  conv=>whnf
  exact⟨rfl⟩⟩
instance slices_Clone_Lapi_CurveStep_api_CurveStep_w:CS prog 148 (W1 prog 148 Ed):=⟨λc R h=>by
 refine QW h λhr h=>?_;obtain rfl:=sY h;refine rj func148 ?_
 conv=>whnf
 refine⟨λb d=>?_⟩
 cases b
 ·conv=>whnf
  refine z8 ?_;exact z32
 ·conv=>whnf
  have:c=[]:=by
   cases c with
   | nil=>rfl
   | cons a r=>exact absurd (d (by simp)) (by simp)
  subst this;refine⟨.inl ?_⟩
  conv=>whnf
  exact⟨rfl⟩⟩
instance slices_Clone_Lapi_Bin_api_Bin_w:CS prog 149 (W1 prog 149 Hd):=⟨λc R h=>by
 refine QW h λhr h=>?_;obtain rfl:=sY h;refine rj func149 ?_
 conv=>whnf
 refine⟨λb d=>?_⟩
 cases b
 ·conv=>whnf
  refine z8 ?_;exact z32
 ·conv=>whnf
  have:c=[]:=by
   cases c with
   | nil=>rfl
   | cons a r=>exact absurd (d (by simp)) (by simp)
  subst this;refine⟨.inl ?_⟩
  conv=>whnf
  exact⟨rfl⟩⟩
