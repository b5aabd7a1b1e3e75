/- P3W14 -/
import Derived.Test.YtaojdkijihbaoaaGreatDoorP3W11
import Derived.Test.YtaojdkijihbaoaaGreatDoorP3W13
open Go.Proofs.Tryz
set_option linter.all false
namespace Go.Proofs.YtaojdkijihbaoaaGreatDoor.P
open Go.Abs Go.Proofs
set_option maxRecDepth 100000
set_option maxHeartbeats 4000000
instance {a0 a1 a2}:LS (λa s=>FP a0 a1 a2 a s.1 s.2) 89 [2,5,6,15,16,17,58,59] (λs=>[(60,.i s.1)]) [5,6,54] (λs=>[(57,.row 1 4 (List.map D.bool s.2),1)]):=⟨trivial⟩
instance survive_Make_w:CS prog 90 (∀d:Nat,W5 prog 90 (E2 d)):=⟨λd a b p2 p3 c R h=>by
 refine uD func90 ?_;unfold E2 at h;exact Aq⟩
theorem Pn(d:Nat)(a:A7->Av->Option (AR×Int))(ih:W2 prog 42 a)(b:A7->Av->Option (AR×Int))(ih1:W2 prog 93 b):W2 prog 42 (Cu d a b):=by
 intro I J R h;refine Q7 [32] func42 (by kernel_rfl) ?_;unfold Cu at h;refine Gj {p:(Int×Int×(List Ac)×Int×(List An)×Int×(List Int)×(List AO)×Int×Int×Int×Int×Int×Int×(List Bb)×(List Int)) // BP p.1 p.2.1 p.2.2.1 p.2.2.2.1 p.2.2.2.2.1 p.2.2.2.2.2.1 p.2.2.2.2.2.2.1 p.2.2.2.2.2.2.2.1 p.2.2.2.2.2.2.2.2.1 p.2.2.2.2.2.2.2.2.2.1 p.2.2.2.2.2.2.2.2.2.2.1 p.2.2.2.2.2.2.2.2.2.2.2.1 p.2.2.2.2.2.2.2.2.2.2.2.2.1 p.2.2.2.2.2.2.2.2.2.2.2.2.2.1 p.2.2.2.2.2.2.2.2.2.2.2.2.2.2.1 p.2.2.2.2.2.2.2.2.2.2.2.2.2.2.2=some R} (λp=>Dk 177 [(4,.ptr 4 1 0),(6,.ptr 6 1 0),(7,.i p.1.1)] [(4,.var [.i 0,.i 0,.i 0,.n 2,.i 0,.n 7,.i 0,.n 1,.n 2,.i 0,.i 0,.i 0,.i 0,.i 0,.i 0,.n 6,.n 2,.i 0,.i 0,.i 0,.i 0,.i 0,.i 0,.n 1],1),(6,.var [.i p.1.2.1,.i 0,.i 0,.l 2 Ah p.1.2.2.1,.i p.1.2.2.2.1,.l 7 A5 p.1.2.2.2.2.1,.i p.1.2.2.2.2.2.1,.l 1 D.z p.1.2.2.2.2.2.2.1,.l 2 B6 p.1.2.2.2.2.2.2.2.1,.i p.1.2.2.2.2.2.2.2.2.1,.i p.1.2.2.2.2.2.2.2.2.2.1,.i p.1.2.2.2.2.2.2.2.2.2.2.1,.i p.1.2.2.2.2.2.2.2.2.2.2.2.1,.i p.1.2.2.2.2.2.2.2.2.2.2.2.2.1,.i p.1.2.2.2.2.2.2.2.2.2.2.2.2.2.1,.l 6 B7 p.1.2.2.2.2.2.2.2.2.2.2.2.2.2.2.1,.n 2,.i 0,.i 0,.i 0,.i 0,.i 0,.i 0,.l 1 D.z p.1.2.2.2.2.2.2.2.2.2.2.2.2.2.2.2],1)]) ?_ λp=>?_
 ·refine Ih h λh=>?_;refine EA h (λh=>?_) λh=>?_
  ·refine Fx h (λ_=>interpret_room_named_w.h _ _ _) λA h=>?_;exact bB h
  refine EA h (λh=>?_) λh=>?_
  ·refine Fx h (λ_=>tabulate_Holding_w.h _ _ _ _ _) λB h=>?_;refine Fx h (λ_=>tabulate_Keys_w.h _ _ _) λC h=>?_;exact bB h
  conv=>whnf
  refine lH h Ld (λe h=>?_) (λe h=>?_)
  ·conv=>whnf
   refine oC Ld e ?_
   conv=>whnf
   cases h
  refine EA h (λh=>?_) λh=>?_
  ·conv=>whnf
   cases h
  refine EA h (λh=>?_) λh=>?_
  ·refine Fx h (λ_=>tabulate_Make_w.h _ _ _ _ _ _ _) λE h=>?_;refine EA h (λh=>?_) λh=>?_
   ·refine Sk (f:=A5) h λF _ h=>?_;refine Fx h (λ_=>Bg _ _) λG h=>?_;exact z25
   exact z25
  refine EA h (λh=>?_) λh=>?_
  ·refine Fx h (λ_=>regress_Make_w.h _ _ _ _ _ _ _) λx h=>?_;exact z25
  refine EA h (λh=>?_) λh=>?_
  ·refine Fx h (λ_=>survive_Make_w.h _ _ _ _ _ _ _) λy h=>?_;exact z25
  refine EA h (λh=>?_) λh=>?_
  ·conv=>whnf
   cases h
  refine EA h (λh=>?_) λh=>?_
  ·conv=>whnf
   cases h
  conv=>whnf
  refine BD h λH c h=>?_
  first|refine A4 (ih1 _ _ _ c) ?_|(simp only[ua];refine A4 (ih1 _ _ _ c) ?_)
  exact bB h
 obtain⟨⟨z,o,q,r,s,t,u,v,w,g,i,j,k,l,m,n⟩,h⟩:=p;simp only[BP]at h;exact qf h
theorem Pm(d:Nat)(a:A7->Av->Option (AR×Int))(g:∀(e:A7)(j:Av)(R:AR×Int) ,a e j=some R->Fz prog 42 [.cc none [.l 2 Ai e.L.Ao.K,.l 7 Am e.L.Ao.A,.t e.L.X.Ae,.i e.L.X.Ag,.l 2 Ah e.L.X.E,.l 1 (Ao 1 D.z) e.L.X.G,.own 26 122 (List.map AC e.A3)],.d (AW j)] [.cc none [.l 2 Ai e.L.Ao.K,.l 7 Am e.L.Ao.A,.t e.L.X.Ae,.i e.L.X.Ag,.l 2 Ah e.L.X.E,.l 1 (Ao 1 D.z) e.L.X.G,.own 26 122 (List.map AC e.A3)],.any] (.tup [.d (DG R.1),.i R.2]))(b:A7->Av->Option (AR×Int))(c:∀(e:A7)(j:Av)(R:AR×Int) ,b e j=some R->Fz prog 93 [.cc none [.l 2 Ai e.L.Ao.K,.l 7 Am e.L.Ao.A,.t e.L.X.Ae,.i e.L.X.Ag,.l 2 Ah e.L.X.E,.l 1 (Ao 1 D.z) e.L.X.G,.own 26 122 (List.map AC e.A3)],.d (AW j)] [.cc none [.l 2 Ai e.L.Ao.K,.l 7 Am e.L.Ao.A,.t e.L.X.Ae,.i e.L.X.Ag,.l 2 Ah e.L.X.E,.l 1 (Ao 1 D.z) e.L.X.G,.own 26 122 (List.map AC e.A3)],.any] (.tup [.d (DG R.1),.i R.2]))(e:A7)(j:Av)(R:AR×Int)  (h:Cu d a b e j=some R):Fz prog 42 [.cc none [.l 2 Ai e.L.Ao.K,.l 7 Am e.L.Ao.A,.t e.L.X.Ae,.i e.L.X.Ag,.l 2 Ah e.L.X.E,.l 1 (Ao 1 D.z) e.L.X.G,.own 26 122 (List.map AC e.A3)],.d (AW j)] [.cc none [.l 2 Ai e.L.Ao.K,.l 7 Am e.L.Ao.A,.t e.L.X.Ae,.i e.L.X.Ag,.l 2 Ah e.L.X.E,.l 1 (Ao 1 D.z) e.L.X.G,.own 26 122 (List.map AC e.A3)],.any] (.tup [.d (DG R.1),.i R.2]):=by
 refine fS [32] func42 (by kernel_rfl) rfl ?_ ?_
 ·intro i x y hx hy
  match i,hx,hy with
  | 0,hx,hy=>cases uc hx;cases uc hy;exact⟨[_,_,_,_,_,_],_,_,_,_,rfl,rfl⟩
  | 1,hx,hy=>simp at hx hy;subst hx;subst hy;trivial
  | i+2,hx,hy=>simp at hx
 unfold Cu at h
 conv=>whnf
 refine Gj {p:(Int×Int×(List Ac)×Int×(List An)×Int×(List Int)×(List AO)×Int×Int×Int×Int×Int×Int×(List Bb)×(List Int)) // BP p.1 p.2.1 p.2.2.1 p.2.2.2.1 p.2.2.2.2.1 p.2.2.2.2.2.1 p.2.2.2.2.2.2.1 p.2.2.2.2.2.2.2.1 p.2.2.2.2.2.2.2.2.1 p.2.2.2.2.2.2.2.2.2.1 p.2.2.2.2.2.2.2.2.2.2.1 p.2.2.2.2.2.2.2.2.2.2.2.1 p.2.2.2.2.2.2.2.2.2.2.2.2.1 p.2.2.2.2.2.2.2.2.2.2.2.2.2.1 p.2.2.2.2.2.2.2.2.2.2.2.2.2.2.1 p.2.2.2.2.2.2.2.2.2.2.2.2.2.2.2=some R} (λp=>Dk 177 [(4,.ptr 4 1 0),(6,.ptr 6 1 0),(7,.i p.1.1)] [(0,.row 26 122 (List.map AC e.A3),0),(4,.var [.i 0,.i 0,.i 0,.n 2,.i 0,.n 7,.i 0,.n 1,.n 2,.i 0,.i 0,.i 0,.i 0,.i 0,.i 0,.n 6,.n 2,.i 0,.i 0,.i 0,.i 0,.i 0,.i 0,.n 1],1),(6,.var [.i p.1.2.1,.i 0,.i 0,.l 2 Ah p.1.2.2.1,.i p.1.2.2.2.1,.l 7 A5 p.1.2.2.2.2.1,.i p.1.2.2.2.2.2.1,.l 1 D.z p.1.2.2.2.2.2.2.1,.l 2 B6 p.1.2.2.2.2.2.2.2.1,.i p.1.2.2.2.2.2.2.2.2.1,.i p.1.2.2.2.2.2.2.2.2.2.1,.i p.1.2.2.2.2.2.2.2.2.2.2.1,.i p.1.2.2.2.2.2.2.2.2.2.2.2.1,.i p.1.2.2.2.2.2.2.2.2.2.2.2.2.1,.i p.1.2.2.2.2.2.2.2.2.2.2.2.2.2.1,.l 6 B7 p.1.2.2.2.2.2.2.2.2.2.2.2.2.2.2.1,.n 2,.i 0,.i 0,.i 0,.i 0,.i 0,.i 0,.l 1 D.z p.1.2.2.2.2.2.2.2.2.2.2.2.2.2.2.2],1)]) ?_ λp=>?_
 ·conv=>whnf
  refine Vh h Ld (λh=>?_) (λh=>?_)
  ·exact z26
  conv=>whnf
  refine Vh h Ld (λh=>?_) (λh=>?_)
  ·conv=>whnf
   refine⟨.inr ?_⟩
   conv=>whnf
   refine BD h λQ k h=>?_
   first|refine HW (Ki _ _ _ k) ?_|(simp only[ua];refine HW (Ki _ _ _ k) ?_)
   exact z26
  conv=>whnf
  refine Vh h Ld (λh=>?_) (λh=>?_)
  ·conv=>whnf
   refine BD h λS o h=>?_;refine A4 (tabulate_Holding_w.h _ _ _ _ _ o) ?_
   conv=>whnf
   refine BD h λT q h=>?_;refine A4 (tabulate_Keys_w.h _ _ _ q) ?_;exact z26
  conv=>whnf
  refine lH h Ld (λr h=>?_) (λr h=>?_)
  ·conv=>whnf
   refine oC Ld r ?_
   conv=>whnf
   refine⟨.inr ?_⟩
   conv=>whnf
   cases h
  conv=>whnf
  refine Vh h Ld (λh=>?_) (λh=>?_)
  ·conv=>whnf
   refine⟨.inr ?_⟩
   conv=>whnf
   cases h
  conv=>whnf
  refine Vh h Ld (λh=>?_) (λh=>?_)
  ·conv=>whnf
   refine BD h λU s h=>?_;refine A4 (tabulate_Make_w.h _ _ _ _ _ _ _ s) ?_
   conv=>whnf
   refine Vh h Ld (λh=>?_) (λh=>?_)
   ·conv=>whnf
    refine rV (f:=A5) h Ld λV M h=>?_
    conv=>whnf
    refine BD h λW t h=>?_;refine A4 (Bg _ _ t) ?_
    conv=>whnf
    exact z20
   conv=>whnf
   exact z20
  conv=>whnf
  refine Vh h Ld (λh=>?_) (λh=>?_)
  ·conv=>whnf
   refine BD h λN m h=>?_;refine A4 (regress_Make_w.h _ _ _ _ _ _ _ m) ?_
   conv=>whnf
   exact z20
  conv=>whnf
  refine Vh h Ld (λh=>?_) (λh=>?_)
  ·conv=>whnf
   refine BD h λO n h=>?_;refine A4 (survive_Make_w.h _ _ _ _ _ _ _ n) ?_
   conv=>whnf
   exact z20
  conv=>whnf
  refine Vh h Ld (λh=>?_) (λh=>?_)
  ·conv=>whnf
   cases h
  conv=>whnf
  refine Vh h Ld (λh=>?_) (λh=>?_)
  ·conv=>whnf
   cases h
  conv=>whnf
  refine⟨.inr ?_⟩
  conv=>whnf
  refine BD h λX l h=>?_
  first|refine HW (c _ _ _ l) ?_|(simp only[ua];refine HW (c _ _ _ l) ?_)
  exact z26
 obtain⟨⟨P,E,F,G,H,I,J,K,L,u,v,w,z,A,B,C⟩,h⟩:=p;simp only[BP]at h
 conv=>whnf
 refine Vh h Ld (λh=>?_) (λh=>?_)
 ·exact z26
 exact z26
theorem PP(d:Nat)(a:A7->Av->Option (AR×Int))(ih:W2 prog 42 a)(b:A7->Av->Option (AR×Int))(ih1:W2 prog 93 b):W2 prog 93 (Eg d a b):=by
 intro c e R h;refine uD func93 ?_;unfold Eg at h;exact Aq
theorem PO(d:Nat)(b:A7->Av->Option (AR×Int))(a:∀(e:A7)(k:Av)(R:AR×Int) ,b e k=some R->Fz prog 42 [.cc none [.l 2 Ai e.L.Ao.K,.l 7 Am e.L.Ao.A,.t e.L.X.Ae,.i e.L.X.Ag,.l 2 Ah e.L.X.E,.l 1 (Ao 1 D.z) e.L.X.G,.own 26 122 (List.map AC e.A3)],.d (AW k)] [.cc none [.l 2 Ai e.L.Ao.K,.l 7 Am e.L.Ao.A,.t e.L.X.Ae,.i e.L.X.Ag,.l 2 Ah e.L.X.E,.l 1 (Ao 1 D.z) e.L.X.G,.own 26 122 (List.map AC e.A3)],.any] (.tup [.d (DG R.1),.i R.2]))(c:A7->Av->Option (AR×Int))(j:∀(e:A7)(k:Av)(R:AR×Int) ,c e k=some R->Fz prog 93 [.cc none [.l 2 Ai e.L.Ao.K,.l 7 Am e.L.Ao.A,.t e.L.X.Ae,.i e.L.X.Ag,.l 2 Ah e.L.X.E,.l 1 (Ao 1 D.z) e.L.X.G,.own 26 122 (List.map AC e.A3)],.d (AW k)] [.cc none [.l 2 Ai e.L.Ao.K,.l 7 Am e.L.Ao.A,.t e.L.X.Ae,.i e.L.X.Ag,.l 2 Ah e.L.X.E,.l 1 (Ao 1 D.z) e.L.X.G,.own 26 122 (List.map AC e.A3)],.any] (.tup [.d (DG R.1),.i R.2]))(e:A7)(k:Av)(R:AR×Int)  (h:Eg d b c e k=some R):Fz prog 93 [.cc none [.l 2 Ai e.L.Ao.K,.l 7 Am e.L.Ao.A,.t e.L.X.Ae,.i e.L.X.Ag,.l 2 Ah e.L.X.E,.l 1 (Ao 1 D.z) e.L.X.G,.own 26 122 (List.map AC e.A3)],.d (AW k)] [.cc none [.l 2 Ai e.L.Ao.K,.l 7 Am e.L.Ao.A,.t e.L.X.Ae,.i e.L.X.Ag,.l 2 Ah e.L.X.E,.l 1 (Ao 1 D.z) e.L.X.G,.own 26 122 (List.map AC e.A3)],.any] (.tup [.d (DG R.1),.i R.2]):=by
 refine dC func93 (by kernel_rfl) rfl ?_ ?_
 ·intro i x y hx hy
  match i,hx,hy with
  | 0,hx,hy=>cases uc hx;cases uc hy;exact⟨[_,_,_,_,_,_],_,_,_,_,rfl,rfl⟩
  | 1,hx,hy=>simp at hx hy;subst hx;subst hy;trivial
  | i+2,hx,hy=>simp at hx
 unfold Eg at h
 conv=>whnf
 refine z13 ?_
 conv=>whnf
 refine⟨.inr ?_⟩
 conv=>whnf
 refine rV (f:=CG) h Ld λo q h=>?_;rw[AZ o]
 conv=>whnf
 refine BD h λs l h=>?_
 first|refine HW (a _ _ _ l) ?_|(simp only[ua];refine HW (a _ _ _ l) ?_)
 conv=>whnf
 refine Vh h Ld (λh=>?_) (λh=>?_)
 ·exact z26
 conv=>whnf
 refine z13 ?_
 conv=>whnf
 refine⟨.inr ?_⟩
 conv=>whnf
 refine rV (f:=CG) h Ld λp r h=>?_;rw[AZ p]
 conv=>whnf
 refine BD h λt m h=>?_
 first|refine HW (a _ _ _ m) ?_|(simp only[ua];refine HW (a _ _ _ m) ?_)
 conv=>whnf
 refine Vh h Ld (λh=>?_) (λh=>?_)
 ·exact z26
 conv=>whnf
 refine Vh h Ld (λh=>?_) (λh=>?_)
 ·conv=>whnf
  refine BD h λn g h=>?_;refine A4 (N8 _ _ _ g) ?_
  conv=>whnf
  refine Vh h Ld (λh=>?_) (λh=>?_)
  ·exact z26
  exact z29
 conv=>whnf
 refine Vh h Ld (λh=>?_) (λh=>?_)
 ·conv=>whnf
  refine BD h λn g h=>?_;refine A4 (N6 _ _ _ g) ?_
  conv=>whnf
  refine Vh h Ld (λh=>?_) (λh=>?_)
  ·exact z26
  exact z29
 conv=>whnf
 refine Vh h Ld (λh=>?_) (λh=>?_)
 ·conv=>whnf
  refine BD h λn g h=>?_;refine A4 (N5 _ _ _ g) ?_
  conv=>whnf
  refine Vh h Ld (λh=>?_) (λh=>?_)
  ·exact z26
  exact z29
 conv=>whnf
 refine BD h λn g h=>?_;refine A4 (N4 _ _ _ g) ?_
 conv=>whnf
 refine Vh h Ld (λh=>?_) (λh=>?_)
 ·exact z26
 exact z29
theorem Cp:∀d:Nat,(W2 prog 42 (B0 d))/\(W2 prog 93 (DJ d))
 | 0=>by
  refine⟨?_,?_⟩<;>((repeat intro _);rename_i h;cases h)
 | d+1=>by
  have ih:=Cp d;exact⟨Pn d _ (ih).1 _ (ih).2,PP d _ (ih).1 _ (ih).2⟩
instance interpret_room_value_w:CS prog 42 (∀(d:Nat),W2 prog 42 (B0 d)):=⟨λd=>(Cp d).1⟩
instance interpret_room_pair_w:CS prog 93 (∀(d:Nat),W2 prog 93 (DJ d)):=⟨λd=>(Cp d).2⟩
theorem Dv:∀d:Nat,(∀(a:A7)(b:Av)(R:AR×Int) ,B0 d a b=some R->Fz prog 42 [.cc none [.l 2 Ai a.L.Ao.K,.l 7 Am a.L.Ao.A,.t a.L.X.Ae,.i a.L.X.Ag,.l 2 Ah a.L.X.E,.l 1 (Ao 1 D.z) a.L.X.G,.own 26 122 (List.map AC a.A3)],.d (AW b)] [.cc none [.l 2 Ai a.L.Ao.K,.l 7 Am a.L.Ao.A,.t a.L.X.Ae,.i a.L.X.Ag,.l 2 Ah a.L.X.E,.l 1 (Ao 1 D.z) a.L.X.G,.own 26 122 (List.map AC a.A3)],.any] (.tup [.d (DG R.1),.i R.2]))/\(∀(a:A7)(b:Av)(R:AR×Int) ,DJ d a b=some R->Fz prog 93 [.cc none [.l 2 Ai a.L.Ao.K,.l 7 Am a.L.Ao.A,.t a.L.X.Ae,.i a.L.X.Ag,.l 2 Ah a.L.X.E,.l 1 (Ao 1 D.z) a.L.X.G,.own 26 122 (List.map AC a.A3)],.d (AW b)] [.cc none [.l 2 Ai a.L.Ao.K,.l 7 Am a.L.Ao.A,.t a.L.X.Ae,.i a.L.X.Ag,.l 2 Ah a.L.X.E,.l 1 (Ao 1 D.z) a.L.X.G,.own 26 122 (List.map AC a.A3)],.any] (.tup [.d (DG R.1),.i R.2]))
 | 0=>by
  refine⟨?_,?_⟩<;>(intros;rename_i h;cases h)
 | d+1=>by
  have ih:=Dv d;exact⟨Pm d _ (ih).1 _ (ih).2,PO d _ (ih).1 _ (ih).2⟩
theorem Kj(d:Nat):∀(a:A7)(b:Av)(R:AR×Int) ,B0 d a b=some R->Fz prog 42 [.cc none [.l 2 Ai a.L.Ao.K,.l 7 Am a.L.Ao.A,.t a.L.X.Ae,.i a.L.X.Ag,.l 2 Ah a.L.X.E,.l 1 (Ao 1 D.z) a.L.X.G,.own 26 122 (List.map AC a.A3)],.d (AW b)] [.cc none [.l 2 Ai a.L.Ao.K,.l 7 Am a.L.Ao.A,.t a.L.X.Ae,.i a.L.X.Ag,.l 2 Ah a.L.X.E,.l 1 (Ao 1 D.z) a.L.X.G,.own 26 122 (List.map AC a.A3)],.any] (.tup [.d (DG R.1),.i R.2]):=(Dv d).1
