/- P3W20 -/
import Derived.Test.YtkjijhldfdplgaaGreatDoorP3W18
import Derived.Test.YtkjijhldfdplgaaGreatDoorP3W19
open Go.Proofs.Tryz
set_option linter.all false
namespace Go.Proofs.YtkjijhldfdplgaaGreatDoor.P
open Go.Abs Go.Proofs
set_option maxRecDepth 100000
set_option maxHeartbeats 4000000
instance draw_Codes_Declaration_w:CS prog 15 (∀d:Nat,V1 prog 15 (DF d)):=⟨λd O n R h=>by
 refine Yw [4] func15 (by kernel_rfl) rfl ?_ ?_
 ·intro i x y hx hy
  match i,hx,hy with
  | 0,hx,hy=>simp at hx hy;subst hx;subst hy;exact⟨_,rfl,rfl⟩
  | 1,hx,hy=>simp at hx hy;subst hx;subst hy;trivial
  | i+2,hx,hy=>simp at hx
 unfold DF at h
 conv=>whnf
 refine z13 ?_;refine Vw h (λ_=>draw_Codes_Next_w.h _ _ _) λP h=>?_;refine E9 h (λ_=>DN _ _) λo h=>?_
 conv=>whnf
 refine QW h λhr h=>?_;refine⟨tb hr,?_⟩;refine Vw h (λ_=>draw_Codes_Cond_w.h _ _ _ _ _) λF h=>?_;refine Vw h (λ_=>draw_Codes_Next_w.h _ _ _) λm h=>?_;refine F3 {p:(Ab×Int×Int×Int×Int×Int×(List Ah)) // Cq d n o m p.1 p.2.1 p.2.2.1 p.2.2.2.1 p.2.2.2.2.1 p.2.2.2.2.2.1 p.2.2.2.2.2.2=some R} (λp=>CY 53 [(0,.ptr 0 0 0),(3,.ptr 3 1 0),(4,.ptr 4 1 0),(5,.ptr 5 1 0)] [(0,.var [.l 1 (D.int .u8) p.1.1.Ak,.i p.1.1.Aj],0),(3,.var [.l 2 Ae n.K,.l 7 Ak n.A],1),(4,.var [.t ByteArray.empty,.t ByteArray.empty,.i 0,.i 0,.i 0,.i 0,.i 0,.n 6,.i 0,.i 0,.i 0,.n 17],1),(5,.var [.t (({ data:=#[112] }:ByteArray)++o),.t ({ data:=#[115,114,99] }:ByteArray),.i p.1.2.1,.i p.1.2.2.1,.i p.1.2.2.2.1,.i p.1.2.2.2.2.1,.i p.1.2.2.2.2.2.1,.l 6 Az p.1.2.2.2.2.2.2,.i 1,.i 1,.i m.1,.n 17],1)]) ?_ λp=>?_
 ·refine Vw h (λ_=>draw_Codes_One_w.h _ _ _) λG h=>?_;refine Do h (λh=>?_) λh=>?_
  ·conv=>whnf
   exact⟨⟨(_,_,_,_,_,_,_),h⟩,Xx⟩
  conv=>whnf
  exact⟨⟨(_,_,_,_,_,_,_),h⟩,Xx⟩
 obtain⟨⟨z,a,b,c,e,f,g⟩,h⟩:=p;simp only[Cq]at h;refine Vw h (λ_=>draw_Codes_One_w.h _ _ _) λH h=>?_;refine Do h (λh=>?_) λh=>?_
 ·refine Vw h (λ_=>draw_Codes_Range_w.h _ _ _ _) λq h=>?_;refine Vw h (λ_=>draw_Codes_Range_w.h _ _ _ _) λr h=>?_
  conv=>whnf
  refine Bi h λs j h=>?_;refine Ew (draw_Codes_Range_w.h _ _ _ _ j) ?_
  conv=>whnf
  refine Gl h λI J h=>?_;refine e9 [(5,11,50,126)] {p:Nat×(Int×Ab×(List AE)) // I p.1 p.2=some R} (λp=>CY 53 [(0,.ptr 0 0 0),(3,.ptr 3 1 0),(4,.ptr 4 1 0),(5,.ptr 5 1 0),(6,.i p.1.2.1)] [(0,.var [.l 1 (D.int .u8) p.1.2.2.1.Ak,.i p.1.2.2.1.Aj],0),(3,.var [.l 2 Ae n.K,.l 7 Ak n.A],1),(4,.var [.t ByteArray.empty,.t ByteArray.empty,.i 0,.i 0,.i 0,.i 0,.i 0,.n 6,.i 0,.i 0,.i 0,.n 17],1),(5,.var [.t (({ data:=#[112] }:ByteArray)++o),.t ({ data:=#[115,114,99] }:ByteArray),.i a,.i b,.i c,.i e,.i f,.l 6 Az g,.i r.1,.i q.1,.i m.1,.sl 50 1],1),(50,.row 17 126 (List.map Dh p.1.2.2.2),1)]) (λp=>p.1.1) ⟨(_,(_,_,_)),h⟩ ?_ λp=>?_
  ·conv=>whnf
   exact sP
  obtain⟨⟨K,⟨A,B,t⟩⟩,h⟩:=p;obtain⟨K,rfl,h⟩:=J _ _ h;simp only[Eh]at h;refine Do h (λh=>?_) λh=>?_
  ·conv=>whnf
   refine z13 ?_
   conv=>whnf
   refine Bi h λu k h=>?_;refine A3 (DN _ _ k) ?_
   conv=>whnf
   refine QW h λhr h=>?_;refine⟨tb hr,?_⟩
   conv=>whnf
   refine Bi h λv l h=>?_;refine Ew (draw_Codes_Question_w.h _ _ _ _ _ l) ?_
   conv=>whnf
   refine QW h λhr h=>?_;refine z8 ?_
   try rw[Ou]
   conv=>whnf
   exact cz ⟨(_,(_,_,_)),h⟩ Xx
  conv=>whnf
  try simp only[FI,FJ]at h
  refine⟨.inl ?_⟩
  conv=>whnf
  obtain rfl:=sY h;refine z12 ?_
  conv=>whnf
  exact⟨c9⟩
 conv=>whnf
 refine Bi h λs j h=>?_;refine Ew (draw_Codes_Range_w.h _ _ _ _ j) ?_
 conv=>whnf
 refine Gl h λL M h=>?_;refine e9 [(5,11,50,126)] {p:Nat×(Int×Ab×(List AE)) // L p.1 p.2=some R} (λp=>CY 53 [(0,.ptr 0 0 0),(3,.ptr 3 1 0),(4,.ptr 4 1 0),(5,.ptr 5 1 0),(6,.i p.1.2.1)] [(0,.var [.l 1 (D.int .u8) p.1.2.2.1.Ak,.i p.1.2.2.1.Aj],0),(3,.var [.l 2 Ae n.K,.l 7 Ak n.A],1),(4,.var [.t ByteArray.empty,.t ByteArray.empty,.i 0,.i 0,.i 0,.i 0,.i 0,.n 6,.i 0,.i 0,.i 0,.n 17],1),(5,.var [.t (({ data:=#[112] }:ByteArray)++o),.t ({ data:=#[115,114,99] }:ByteArray),.i a,.i b,.i c,.i e,.i f,.l 6 Az g,.i 1,.i 1,.i m.1,.sl 50 1],1),(50,.row 17 126 (List.map Dh p.1.2.2.2),1)]) (λp=>p.1.1) ⟨(_,(_,_,_)),h⟩ ?_ λp=>?_
 ·conv=>whnf
  exact sP
 obtain⟨⟨N,⟨C,E,w⟩⟩,h⟩:=p;obtain⟨N,rfl,h⟩:=M _ _ h;simp only[Je]at h;refine Do h (λh=>?_) λh=>?_
 ·conv=>whnf
  refine z13 ?_
  conv=>whnf
  refine Bi h λu k h=>?_;refine A3 (DN _ _ k) ?_
  conv=>whnf
  refine QW h λhr h=>?_;refine⟨tb hr,?_⟩
  conv=>whnf
  refine Bi h λv l h=>?_;refine Ew (draw_Codes_Question_w.h _ _ _ _ _ l) ?_
  conv=>whnf
  refine QW h λhr h=>?_;refine z8 ?_
  try rw[Ou]
  conv=>whnf
  exact cz ⟨(_,(_,_,_)),h⟩ Xx
 conv=>whnf
 try simp only[FI,FJ]at h
 refine⟨.inl ?_⟩
 conv=>whnf
 obtain rfl:=sY h;refine z12 ?_
 conv=>whnf
 exact⟨c9⟩⟩
instance {a0 a1}:LS (λa s=>O6 a0 a1 a s.1 s.2) 33 [1,2,4,5] (λs=>[(6,.i s.1)]) [1,2,4] (λs=>[(5,.row 2 132 (List.map Ad s.2),1)]):=⟨trivial⟩
instance draw_All_w:CS prog 18 (W1 prog 18 Rk):=⟨λa R h=>by
 refine uD func18 ?_;unfold Rk at h;exact As⟩
instance draw_Codes_Secret_w:CS prog 20 (V0 prog 20 EB):=⟨λa R h=>by
 refine uF func20 ?_;unfold EB at h;exact As⟩
instance draw_Codes_Extract_w:CS prog 5 (∀(d:Nat)(a:Ab)(b:Int)(R:BQ×Av×Ao×Ab)(h:Fy d a b=some R),DU prog 5 [.optr [(Am 1 (D.int .u8) a.Ak),(.j a.Aj)],.i b] [.optr [(Am 1 (D.int .u8) R.2.2.2.Ak),(.j R.2.2.2.Aj)],.any] (.tup [.d (JG R.1),.d (EG R.2.1),.d (DY R.2.2.1)])):=⟨λd a b R h=>by
 refine uF func5 ?_;unfold Fy at h;exact As⟩
theorem Rl(d:Nat)(a:Ab->Aa->(List ByteArray)->Int->Option (Ar×Ab))(ih:∀(j:Ab)(c:Aa)(p2:List ByteArray)(p3:Int)(R:Ar×Ab) ,a j c p2 p3=some R->DU prog 26 [.optr [(Am 1 (D.int .u8) j.Ak),(.j j.Aj)],.d (CG c),.l 1 D.str p2,.i p3] [.optr [(Am 1 (D.int .u8) R.2.Ak),(.j R.2.Aj)],.any,.any,.any] (.d (AR R.1)))(j:Ab)(c:Aa)(p2:List ByteArray)(p3:Int)(R:Ar×Ab)(h:EM d a j c p2 p3=some R):DU prog 26 [.optr [(Am 1 (D.int .u8) j.Ak),(.j j.Aj)],.d (CG c),.l 1 D.str p2,.i p3] [.optr [(Am 1 (D.int .u8) R.2.Ak),(.j R.2.Aj)],.any,.any,.any] (.d (AR R.1)):=by
 refine Yw [3] func26 (by kernel_rfl) rfl ?_ ?_
 ·intro i x y hx hy
  match i,hx,hy with
  | 0,hx,hy=>simp at hx hy;subst hx;subst hy;exact⟨_,rfl,rfl⟩
  | 1,hx,hy=>simp at hx hy;subst hx;subst hy;trivial
  | 2,hx,hy=>simp at hx hy;subst hx;subst hy;trivial
  | 3,hx,hy=>simp at hx hy;subst hx;subst hy;trivial
  | i+4,hx,hy=>simp at hx
 unfold EM at h;refine F3 {p:Ab // Dr p2 d c p=some R} (λp=>CY 73 [(0,.ptr 0 0 0),(2,.l 1 D.str p2),(5,.ptr 5 1 0),(8,.ptr 8 1 0)] [(0,.var [.l 1 (D.int .u8) p.1.Ak,.i p.1.Aj],0),(5,.var [.l 2 Ae c.K,.l 7 Ak c.A],1),(8,.var [.i 0,.i 0,.t ByteArray.empty,.i 0,.n 1,.n 2,.i 0,.i 0,.i 0,.i 0,.i 0,.n 6,.i 0,.i 0,.i 0,.i 0,.i 0,.n 6,.n 19],1)]) ?_ λp=>?_
 ·refine Do h (λh=>?_) λh=>?_
  ·refine Vw h (λ_=>draw_Codes_One_w.h _ _ _) λm h=>?_;refine Do h (λh=>?_) λh=>?_
   ·conv=>whnf
    refine z13 ?_;refine Vw h (λ_=>draw_Codes_Range_w.h _ _ _ _) λn h=>?_
    conv=>whnf
    refine Bi h λo e h=>?_
    first|refine Ew (ih _ _ _ _ _ e) ?_|(simp only[sX];refine Ew (ih _ _ _ _ _ e) ?_)
    conv=>whnf
    refine Bi h λq g h=>?_
    first|refine Ew (ih _ _ _ _ _ g) ?_|(simp only[sX];refine Ew (ih _ _ _ _ _ g) ?_)
    conv=>whnf
    refine⟨.inl ?_⟩
    conv=>whnf
    exact z20
   exact z24
  exact⟨⟨_,h⟩,Bh⟩
 obtain⟨l,h⟩:=p;simp only[Dr]at h;refine Vw h (λ_=>draw_Codes_Next_w.h _ _ _) λr h=>?_;refine Do h (λh=>?_) λh=>?_
 ·refine Vw h (λ_=>draw_Codes_Range_w.h _ _ _ _) λs h=>?_
  conv=>whnf
  exact z20
 refine Do h (λh=>?_) λh=>?_
 ·refine Do h (λh=>?_) λh=>?_
  ·conv=>whnf
   refine Bi h λx47 hx47 h=>?_
   first|refine Ew (draw_Codes_Next_w.h _ _ _ hx47) ?_|(simp only[sX];refine Ew (draw_Codes_Next_w.h _ _ _ hx47) ?_)
   refine QX (f:=D.str) h λt _ h=>?_
   conv=>whnf
   exact z20
  conv=>whnf
  refine Bi h λk b h=>?_;refine Ew (draw_Codes_Cond_w.h _ _ _ _ _ b) ?_
  conv=>whnf
  exact z20
 refine Do h (λh=>?_) λh=>?_
 ·conv=>whnf
  refine z13 ?_;refine Vw h (λ_=>draw_Codes_Measured_w.h _ _ _) λu h=>?_;refine Vw h (λ_=>draw_Codes_Cond_w.h _ _ _ _ _) λv h=>?_
  conv=>whnf
  exact z20
 refine Do h (λh=>?_) λh=>?_
 ·conv=>whnf
  refine z13 ?_;refine Vw h (λ_=>draw_Codes_Measured_w.h _ _ _) λw h=>?_;refine Vw h (λ_=>draw_Codes_Cond_w.h _ _ _ _ _) λx67 h=>?_
  conv=>whnf
  exact z20
 conv=>whnf
 refine Bi h λk b h=>?_;refine Ew (draw_Codes_Cond_w.h _ _ _ _ _ b) ?_
 conv=>whnf
 exact z20
theorem Md:∀d:Nat,(∀(a:Ab)(b:Aa)(p2:List ByteArray)(p3:Int)(R:Ar×Ab) ,C5 d a b p2 p3=some R->DU prog 26 [.optr [(Am 1 (D.int .u8) a.Ak),(.j a.Aj)],.d (CG b),.l 1 D.str p2,.i p3] [.optr [(Am 1 (D.int .u8) R.2.Ak),(.j R.2.Aj)],.any,.any,.any] (.d (AR R.1)))
 | 0=>by
  exact z16
 | d+1=>by
  have ih:=Md d;exact Rl d _ ih
instance draw_Codes_Number_w:CS prog 26 (∀(d:Nat),∀(a:Ab)(b:Aa)(p2:List ByteArray)(p3:Int)(R:Ar×Ab) ,C5 d a b p2 p3=some R->DU prog 26 [.optr [(Am 1 (D.int .u8) a.Ak),(.j a.Aj)],.d (CG b),.l 1 D.str p2,.i p3] [.optr [(Am 1 (D.int .u8) R.2.Ak),(.j R.2.Aj)],.any,.any,.any] (.d (AR R.1))):=⟨λd=>Md d⟩
instance draw_Codes_Expr_w:CS prog 6 (∀(d:Nat)(a:Ab)(b:Aa)(p2:List ByteArray)(R:Ar×Ab)(h:H4 d a b p2=some R),DU prog 6 [.optr [(Am 1 (D.int .u8) a.Ak),(.j a.Aj)],.d (CG b),.l 1 D.str p2] [.optr [(Am 1 (D.int .u8) R.2.Ak),(.j R.2.Aj)],.any,.any] (.d (AR R.1))):=⟨λd a b p2 R h=>by
 refine uF func6 ?_;unfold H4 at h;exact As⟩
