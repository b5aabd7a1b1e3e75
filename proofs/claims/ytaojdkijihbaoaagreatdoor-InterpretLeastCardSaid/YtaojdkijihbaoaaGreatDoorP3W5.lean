/- P3W5 -/
import Derived.Test.YtaojdkijihbaoaaGreatDoorP3W3
import Derived.Test.YtaojdkijihbaoaaGreatDoorP3W4
open Go.Proofs.Tryz
set_option linter.all false
namespace Go.Proofs.YtaojdkijihbaoaaGreatDoor.P
open Go.Abs Go.Proofs
set_option maxRecDepth 100000
set_option maxHeartbeats 4000000
instance {a0 a1 a2 a3}:LS (λa s=>OV a0 a1 a2 a3 a s.1 s.2) 70 [0,3,13,14] (λs=>[(6,.b s.1),(15,.i s.2)]) [3] (λs=>[]):=⟨trivial⟩
instance {a0 a1 a2}:LS (λa s=>Ta a0 a1 a2 a s) 70 [0,3] (λs=>[(11,.i s)]) [3] (λs=>[]):=⟨trivial⟩
theorem YZ(d:Nat)(a:(List AF)->Av->Option (Int×Int))(ih:W2 prog 142 a):W2 prog 142 (KX d a):=by
 intro b c R h;refine WA [10] func142 ?_;unfold KX at h;refine Gj {p:Bool // Tb c b p=some R} (λp=>Dk 70 [(0,.l 26 AC b),(3,.ptr 3 1 0),(6,.b p.1)] [(3,ZI c,1)]) ?_ λp=>?_
 ·exact Aq
 obtain⟨e,h⟩:=p;exact Aq
theorem Tc:∀d:Nat,(W2 prog 142 (LK d))
 | 0=>by
  exact z16
 | d+1=>by
  have ih:=Tc d;exact YZ d _ ih
instance types_kind_w:CS prog 142 (∀(d:Nat),W2 prog 142 (LK d)):=⟨λd=>Tc d⟩
instance types_Expr_w:CS prog 83 (∀d:Nat,W4 prog 83 (Ol d)):=⟨λd a b p2 p3 R h=>by
 refine uD func83 ?_;unfold Ol at h;exact Aq⟩
instance {a0 a1 a2 a3 a4}:LS (λa s=>IQ a0 a1 a2 a3 a4 a s.1 s.2.1 s.2.2) 63 [1,2,3,11,12,27,28] (λs=>[(29,.i s.1)]) [3] (λs=>[(11,.row 1 3 (List.map D.z s.2.1),1),(12,.row 26 122 (List.map AC s.2.2),1)]):=⟨trivial⟩
instance types_Program_w:CS prog 41 (∀d:Nat,W3 prog 41 (Jj d)):=⟨λd a b p2 R h=>by
 refine uD func41 ?_;unfold Jj at h;exact Aq⟩
instance slices_Clone_Lapi_TableCell_api_TableCell_w:CS prog 168 (∀(c:List An)(R:List An)(h:DY c=some R),Ax prog 168 [.l 7 A5 c] (.cc none [.own 7 166 (List.map A5 R)])):=⟨λc R h=>by
 refine S3 h λhr h=>?_;obtain rfl:=uc h;refine rP func168 ?_
 conv=>whnf
 refine⟨λb d=>?_⟩
 cases b
 ·conv=>whnf
  refine z8 ?_
  conv=>whnf
  exact⟨rfl⟩
 ·conv=>whnf
  have:c=[]:=by
   cases c with
   | nil=>rfl
   | cons a r=>exact absurd (d (by simp)) (by simp)
  subst this;exact⟨rfl⟩⟩
instance slices_Clone_Lapi_Frac_api_Frac_w:CS prog 169 (W1 prog 169 G4):=⟨λc R h=>by
 refine S3 h λhr h=>?_;obtain rfl:=uc h;refine rP func169 ?_
 conv=>whnf
 refine⟨λb d=>?_⟩
 cases b
 ·conv=>whnf
  refine z8 ?_;exact z27
 ·conv=>whnf
  have:c=[]:=by
   cases c with
   | nil=>rfl
   | cons a r=>exact absurd (d (by simp)) (by simp)
  subst this;refine⟨.inl ?_⟩
  conv=>whnf
  exact⟨rfl⟩⟩
instance slices_Clone_Lapi_CurveStep_api_CurveStep_w:CS prog 170 (W1 prog 170 DX):=⟨λc R h=>by
 refine S3 h λhr h=>?_;obtain rfl:=uc h;refine rP func170 ?_
 conv=>whnf
 refine⟨λb d=>?_⟩
 cases b
 ·conv=>whnf
  refine z8 ?_;exact z27
 ·conv=>whnf
  have:c=[]:=by
   cases c with
   | nil=>rfl
   | cons a r=>exact absurd (d (by simp)) (by simp)
  subst this;refine⟨.inl ?_⟩
  conv=>whnf
  exact⟨rfl⟩⟩
instance slices_Clone_Lapi_Bin_api_Bin_w:CS prog 171 (W1 prog 171 GU):=⟨λc R h=>by
 refine S3 h λhr h=>?_;obtain rfl:=uc h;refine rP func171 ?_
 conv=>whnf
 refine⟨λb d=>?_⟩
 cases b
 ·conv=>whnf
  refine z8 ?_;exact z27
 ·conv=>whnf
  have:c=[]:=by
   cases c with
   | nil=>rfl
   | cons a r=>exact absurd (d (by simp)) (by simp)
  subst this;refine⟨.inl ?_⟩
  conv=>whnf
  exact⟨rfl⟩⟩
