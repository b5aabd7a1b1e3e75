/- P3W21 -/
import Derived.Test.YtaojdkijihbaoaaGreatDoorP3W20
open Go.Proofs.Tryz
set_option linter.all false
namespace Go.Proofs.YtaojdkijihbaoaaGreatDoor.P
open Go.Abs Go.Proofs
set_option maxRecDepth 100000
set_option maxHeartbeats 4000000
instance draw_Codes_Declaration_w:CS prog 6 (∀d:Nat,V1 prog 6 (D4 d)):=⟨λd O n R h=>by
 refine fS [4] func6 (by kernel_rfl) rfl ?_ ?_
 ·intro i x y hx hy
  match i,hx,hy with
  | 0,hx,hy=>simp at hx hy;subst hx;subst hy;exact⟨_,rfl,rfl⟩
  | 1,hx,hy=>simp at hx hy;subst hx;subst hy;trivial
  | i+2,hx,hy=>simp at hx
 unfold D4 at h
 conv=>whnf
 refine z13 ?_;refine b7 h (λ_=>draw_Codes_Next_w.h _ _ _) λP h=>?_;refine Fx h (λ_=>DC _ _) λo h=>?_
 conv=>whnf
 refine S3 h λhr h=>?_;refine⟨uf hr,?_⟩;refine b7 h (λ_=>draw_Codes_Cond_w.h _ _ _ _ _) λF h=>?_;refine b7 h (λ_=>draw_Codes_Next_w.h _ _ _) λm h=>?_;refine Gj {p:(Ab×Int×Int×Int×Int×Int×(List Ad)) // Cs d n o m p.1 p.2.1 p.2.2.1 p.2.2.2.1 p.2.2.2.2.1 p.2.2.2.2.2.1 p.2.2.2.2.2.2=some R} (λp=>Dk 53 [(0,.ptr 0 0 0),(3,.ptr 3 1 0),(4,.ptr 4 1 0),(5,.ptr 5 1 0)] [(0,.var [.l 1 (D.int .u8) p.1.1.A0,.i p.1.1.Ax],0),(3,.var [.l 2 Ai n.K,.l 7 Am n.A],1),(4,.var [.t ByteArray.empty,.t ByteArray.empty,.i 0,.i 0,.i 0,.i 0,.i 0,.n 6,.i 0,.i 0,.i 0,.n 17],1),(5,.var [.t (({ data:=#[112] }:ByteArray)++o),.t ({ data:=#[115,114,99] }:ByteArray),.i p.1.2.1,.i p.1.2.2.1,.i p.1.2.2.2.1,.i p.1.2.2.2.2.1,.i p.1.2.2.2.2.2.1,.l 6 A3 p.1.2.2.2.2.2.2,.i 1,.i 1,.i m.1,.n 17],1)]) ?_ λp=>?_
 ·refine b7 h (λ_=>draw_Codes_One_w.h _ _ _) λG h=>?_;refine EA h (λh=>?_) λh=>?_
  ·conv=>whnf
   exact⟨⟨(_,_,_,_,_,_,_),h⟩,Xi⟩
  conv=>whnf
  exact⟨⟨(_,_,_,_,_,_,_),h⟩,Xi⟩
 obtain⟨⟨z,a,b,c,e,f,g⟩,h⟩:=p;simp only[Cs]at h;refine b7 h (λ_=>draw_Codes_One_w.h _ _ _) λH h=>?_;refine EA h (λh=>?_) λh=>?_
 ·refine b7 h (λ_=>draw_Codes_Range_w.h _ _ _ _) λq h=>?_;refine b7 h (λ_=>draw_Codes_Range_w.h _ _ _ _) λr h=>?_
  conv=>whnf
  refine BD h λs j h=>?_;refine HW (draw_Codes_Range_w.h _ _ _ _ j) ?_
  conv=>whnf
  refine Hq h λI J h=>?_;refine dA [(5,11,50,75)] {p:Nat×(Int×Ab×(List Ap)) // I p.1 p.2=some R} (λp=>Dk 53 [(0,.ptr 0 0 0),(3,.ptr 3 1 0),(4,.ptr 4 1 0),(5,.ptr 5 1 0),(6,.i p.1.2.1)] [(0,.var [.l 1 (D.int .u8) p.1.2.2.1.A0,.i p.1.2.2.1.Ax],0),(3,.var [.l 2 Ai n.K,.l 7 Am n.A],1),(4,.var [.t ByteArray.empty,.t ByteArray.empty,.i 0,.i 0,.i 0,.i 0,.i 0,.n 6,.i 0,.i 0,.i 0,.n 17],1),(5,.var [.t (({ data:=#[112] }:ByteArray)++o),.t ({ data:=#[115,114,99] }:ByteArray),.i a,.i b,.i c,.i e,.i f,.l 6 A3 g,.i r.1,.i q.1,.i m.1,.sl 50 1],1),(50,.row 17 75 (List.map BZ p.1.2.2.2),1)]) (λp=>p.1.1) ⟨(_,(_,_,_)),h⟩ ?_ λp=>?_
  ·conv=>whnf
   exact tQ
  obtain⟨⟨K,⟨A,B,t⟩⟩,h⟩:=p;obtain⟨K,rfl,h⟩:=J _ _ h;simp only[Ec]at h;refine EA h (λh=>?_) λh=>?_
  ·conv=>whnf
   refine z13 ?_
   conv=>whnf
   refine BD h λu k h=>?_;refine A4 (DC _ _ k) ?_
   conv=>whnf
   refine S3 h λhr h=>?_;refine⟨uf hr,?_⟩
   conv=>whnf
   refine BD h λv l h=>?_;refine HW (draw_Codes_Question_w.h _ _ _ _ _ l) ?_
   conv=>whnf
   refine S3 h λhr h=>?_;refine z8 ?_
   try rw[Oe]
   conv=>whnf
   exact kW ⟨(_,(_,_,_)),h⟩ Xi
  conv=>whnf
  try simp only[Ed,Ee]at h
  refine⟨.inl ?_⟩
  conv=>whnf
  obtain rfl:=uc h;refine z12 ?_
  conv=>whnf
  exact⟨kX⟩
 conv=>whnf
 refine BD h λs j h=>?_;refine HW (draw_Codes_Range_w.h _ _ _ _ j) ?_
 conv=>whnf
 refine Hq h λL M h=>?_;refine dA [(5,11,50,75)] {p:Nat×(Int×Ab×(List Ap)) // L p.1 p.2=some R} (λp=>Dk 53 [(0,.ptr 0 0 0),(3,.ptr 3 1 0),(4,.ptr 4 1 0),(5,.ptr 5 1 0),(6,.i p.1.2.1)] [(0,.var [.l 1 (D.int .u8) p.1.2.2.1.A0,.i p.1.2.2.1.Ax],0),(3,.var [.l 2 Ai n.K,.l 7 Am n.A],1),(4,.var [.t ByteArray.empty,.t ByteArray.empty,.i 0,.i 0,.i 0,.i 0,.i 0,.n 6,.i 0,.i 0,.i 0,.n 17],1),(5,.var [.t (({ data:=#[112] }:ByteArray)++o),.t ({ data:=#[115,114,99] }:ByteArray),.i a,.i b,.i c,.i e,.i f,.l 6 A3 g,.i 1,.i 1,.i m.1,.sl 50 1],1),(50,.row 17 75 (List.map BZ p.1.2.2.2),1)]) (λp=>p.1.1) ⟨(_,(_,_,_)),h⟩ ?_ λp=>?_
 ·conv=>whnf
  exact tQ
 obtain⟨⟨N,⟨C,E,w⟩⟩,h⟩:=p;obtain⟨N,rfl,h⟩:=M _ _ h;simp only[IS]at h;refine EA h (λh=>?_) λh=>?_
 ·conv=>whnf
  refine z13 ?_
  conv=>whnf
  refine BD h λu k h=>?_;refine A4 (DC _ _ k) ?_
  conv=>whnf
  refine S3 h λhr h=>?_;refine⟨uf hr,?_⟩
  conv=>whnf
  refine BD h λv l h=>?_;refine HW (draw_Codes_Question_w.h _ _ _ _ _ l) ?_
  conv=>whnf
  refine S3 h λhr h=>?_;refine z8 ?_
  try rw[Oe]
  conv=>whnf
  exact kW ⟨(_,(_,_,_)),h⟩ Xi
 conv=>whnf
 try simp only[Ed,Ee]at h
 refine⟨.inl ?_⟩
 conv=>whnf
 obtain rfl:=uc h;refine z12 ?_
 conv=>whnf
 exact⟨kX⟩⟩
instance {a0 a1}:LS (λa s=>Ox a0 a1 a s.1 s.2) 33 [1,2,4,5] (λs=>[(6,.i s.1)]) [1,2,4] (λs=>[(5,.row 2 81 (List.map Ah s.2),1)]):=⟨trivial⟩
instance draw_All_w:CS prog 8 (W1 prog 8 QD):=⟨λa R h=>by
 refine uD func8 ?_;unfold QD at h;exact Aq⟩
instance draw_Codes_Secret_w:CS prog 9 (V0 prog 9 Gh):=⟨λa R h=>by
 refine uF func9 ?_;unfold Gh at h;exact Aq⟩
