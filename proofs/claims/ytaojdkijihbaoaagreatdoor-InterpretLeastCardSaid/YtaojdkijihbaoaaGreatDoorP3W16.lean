/- P3W16 -/
import Derived.Test.YtaojdkijihbaoaaGreatDoorP3HW
open Go.Proofs.Tryz
set_option linter.all false
namespace Go.Proofs.YtaojdkijihbaoaaGreatDoor.P
open Go.Abs Go.Proofs
set_option maxRecDepth 100000
set_option maxHeartbeats 40000000
instance {a0 a1 a2}:LS (λa s=>Na a0 a1 a2 a s.1 s.2.1 s.2.2) 56 [0,1,5] (λs=>[(6,.b s.1),(7,.i s.2.1)]) [] (λs=>[(5,.row 1 30 (List.map (Ao 1 D.z) s.2.2),1)]):=⟨trivial⟩
instance ref04_Put_w:CS prog 18 (W2 prog 18 Nn):=⟨λa b R h=>by
 refine uD func18 ?_;unfold Nn at h;exact Aq⟩
instance {a0 a1}:LS (λa s=>SC a0 a1 a s) 70 [0] (λs=>[(3,.i s)]) [] (λs=>[]):=⟨trivial⟩
instance ref01_Name_w:CS prog 55 (W1 prog 55 BU):=⟨λa R h=>by
 refine WA [3,8] func55 ?_;unfold BU at h;refine Gj {p:Unit // OM a=some R} (λp=>Dk 70 [(0,.t a)] []) ?_ λp=>?_
 ·exact Aq
 obtain⟨_,h⟩:=p;simp only[OM]at h;refine Gj {p:Unit // SD a=some R} (λp=>Dk 70 [(0,.t a)] []) ?_ λp=>?_
 ·exact Aq
 obtain⟨_,h⟩:=p;exact Aq⟩
instance {a0 a1}:LS (λa s=>Ri a0 a1 a s.1 s.2) 22 [2] (λs=>[(1,.i s.1),(5,.i s.2)]) [2] (λs=>[]):=⟨trivial⟩
instance ref01_depth_w:CS prog 113 (W2 prog 113 Ff):=⟨λa b R h=>by
 refine uD func113 ?_;unfold Ff at h;exact Aq⟩
instance {a0 a1 a2}:LS (λa s=>SE a0 a1 a2 a s) 21 [1,2] (λs=>[(5,.i s)]) [2] (λs=>[]):=⟨trivial⟩
instance ref01_leaf_w:CS prog 177 (W2 prog 177 T8):=⟨λa b R h=>by
 refine uD func177 ?_;unfold T8 at h;exact Aq⟩
instance {a0 a1}:LS (λa s=>Rc a0 a1 a s) 100 [1] (λs=>[(3,.i s)]) [1] (λs=>[]):=⟨trivial⟩
instance {a0 a1 a2}:LS (λa s=>Re a0 a1 a2 a s) 100 [1,3] (λs=>[(4,.i s)]) [1] (λs=>[]):=⟨trivial⟩
instance {a0 a1}:LS (λa s=>Rf a0 a1 a s.1 s.2) 100 [1] (λs=>[(6,.i s.1),(7,.i s.2)]) [1] (λs=>[]):=⟨trivial⟩
instance ref01_Check_w:CS prog 102 (W1 prog 102 Gp):=⟨λa R h=>by
 refine WA [20] func102 ?_;unfold Gp at h;refine Fx h (λ_=>ref01_Name_w.h _ _) λb h=>?_;refine EA h (λh=>?_) λh=>?_
 ·exact Aq
 refine EA h (λh=>?_) λh=>?_
 ·exact Aq
 refine EA h (λh=>?_) λh=>?_
 ·exact Aq
 refine Gj {p:Unit // Rh a=some R} (λp=>Dk 100 [(1,.ptr 1 1 0)] [(1,KZ a,1)]) ?_ λp=>?_
 ·exact Aq
 obtain⟨_,h⟩:=p;exact Aq⟩
instance ref01_Levels_w:CS prog 61 (W1 prog 61 Gq):=⟨λa R h=>by
 refine uD func61 ?_;unfold Gq at h;exact Aq⟩
instance {a0 a1 a2}:LS (λa s=>Wx a0 a1 a2 a s.1 s.2) 27 [1,2,5] (λs=>[(6,.i s.1)]) [2] (λs=>[(5,.row 1 3 (List.map D.z s.2),1)]):=⟨trivial⟩
instance ref01_At_w:CS prog 172 (W2 prog 172 Pw):=⟨λa b R h=>by
 refine uD func172 ?_;unfold Pw at h;exact Aq⟩
instance ref02_Leaves_w:CS prog 99 (W2 prog 99 D6):=⟨λa b R h=>by
 refine uD func99 ?_;unfold D6 at h;exact Aq⟩
instance ref02_in_w:CS prog 69 (W3 prog 69 F8):=⟨λa b p2 R h=>by
 refine uD func69 ?_;unfold F8 at h;exact Aq⟩
instance {a0 a1}:LS (λa s=>Py a0 a1 a s) 79 [1] (λs=>[(3,.i s)]) [1] (λs=>[]):=⟨trivial⟩
instance ref02_measure_w:CS prog 178 (W1 prog 178 Jc):=⟨λa R h=>by
 refine WA [3] func178 ?_;unfold Jc at h;refine Gj {p:Unit // LA a=some R} (λp=>Dk 79 [(1,.ptr 1 1 0)] [(1,Qe a,1)]) ?_ λp=>?_
 ·exact Aq
 obtain⟨_,h⟩:=p;exact Aq⟩
instance {a0 a1 a2 a3}:LS (λa s=>Js a0 a1 a2 a3 a s) 98 [1,2,5] (λs=>[(6,.i s)]) [2,5] (λs=>[]):=⟨trivial⟩
instance ref02_column_w:CS prog 103 (W2 prog 103 Kw):=⟨λb c R h=>by
 refine WA [9,13] func103 ?_;unfold Kw at h;refine Sk (f:=Am) h λa _ h=>?_;refine Fx h (λ_=>ref01_Name_w.h _ _) λd h=>?_;refine EA h (λh=>?_) λh=>?_
 ·exact Aq
 refine Gj {p:Unit // Jt a c b=some R} (λp=>Dk 98 [(1,.i c),(2,.ptr 2 1 0),(5,.ptr 5 1 0)] [(2,BN b,1),(5,Qe a,1)]) ?_ λp=>?_
 ·exact Aq
 obtain⟨_,h⟩:=p;simp only[Jt]at h;refine Fx h (λ_=>ref02_in_w.h _ _ _ _) λe h=>?_;refine EA h (λh=>?_) λh=>?_
 ·exact Aq
 refine Gj {p:Unit // Hy a=some R} (λp=>Dk 98 [(5,.ptr 5 1 0)] [(5,Qe a,1)]) ?_ λp=>?_
 ·exact Aq
 obtain⟨_,h⟩:=p;exact Aq⟩
instance {a0 a1}:LS (λa s=>Ks a0 a1 a s) 77 [1] (λs=>[(3,.i s)]) [1] (λs=>[]):=⟨trivial⟩
instance {a0 a1 a2}:LS (λa s=>Kt a0 a1 a2 a s) 77 [1,3] (λs=>[(5,.i s)]) [1] (λs=>[]):=⟨trivial⟩
instance {a0 a1}:LS (λa s=>Ku a0 a1 a s) 77 [1] (λs=>[(6,.i s)]) [1] (λs=>[]):=⟨trivial⟩
instance ref02_Check_w:CS prog 54 (W1 prog 54 DO):=⟨λa R h=>by
 refine WA [14] func54 ?_;unfold DO at h;refine EA h (λh=>?_) λh=>?_
 ·exact Aq
 refine Gj {p:Unit // NK a=some R} (λp=>Dk 77 [(1,.ptr 1 1 0)] [(1,BN a,1)]) ?_ λp=>?_
 ·exact Aq
 obtain⟨_,h⟩:=p;exact Aq⟩
instance ref02_Finest_w:CS prog 28 (W2 prog 28 Df):=⟨λa b R h=>by
 refine uD func28 ?_;unfold Df at h;exact Aq⟩
instance {a0 a1 a2 a3}:LS (λa s=>K4 a0 a1 a2 a3 a s.1 s.2) 31 [1,2] (λs=>[(5,.i s.1),(6,.i s.2)]) [2] (λs=>[]):=⟨trivial⟩
theorem Yp(d:Nat)(a:Ad->Int->Option Int)(ih:W2 prog 104 a):W2 prog 104 (Je d a):=by
 intro b c R h;refine uD func104 ?_;unfold Je at h;exact Aq
theorem Rl:∀d:Nat,(W2 prog 104 (JN d))
 | 0=>by
  exact z16
 | d+1=>by
  have ih:=Rl d;exact Yp d _ ih
instance ref05_count_w:CS prog 104 (∀(d:Nat),W2 prog 104 (JN d)):=⟨λd=>Rl d⟩
instance {a0 a1 a2}:LS (λa s=>Rm a0 a1 a2 a s.1 s.2) 22 [1] (λs=>[(3,.i s.1),(4,.i s.2)]) [1] (λs=>[]):=⟨trivial⟩
theorem Yq(d:Nat)(a:Ad->Option Int)(ih:W1 prog 105 a):W1 prog 105 (LW d a):=by
 intro b R h;refine uD func105 ?_;unfold LW at h;exact Aq
theorem Rn:∀d:Nat,(W1 prog 105 (I1 d))
 | 0=>by
  exact z16
 | d+1=>by
  have ih:=Rn d;exact Yq d _ ih
instance ref05_depth_w:CS prog 105 (∀(d:Nat),W1 prog 105 (I1 d)):=⟨λd=>Rn d⟩
instance ref05_is_w:CS prog 179 (W3 prog 179 NU):=⟨λa b p2 R h=>by
 refine uD func179 ?_;unfold NU at h;exact Aq⟩
theorem YQ(d:Nat)(a:Aa->Ad->Option Int)(ih:W2 prog 106 a):W2 prog 106 (K6 d a):=by
 intro c b R h;refine Q7 [16,20,22] func106 (by kernel_rfl) ?_;unfold K6 at h
 conv=>whnf
 refine z13 ?_;refine Gj {p:(Int×Int×Int×Int×Int) // BR b c a p.1 p.2.1 p.2.2.1 p.2.2.2.1 p.2.2.2.2=some R} (λp=>Dk 185 [(2,.ptr 2 1 0),(3,.ptr 3 1 0),(5,.i p.1.1),(6,.ptr 6 1 0)] [(2,.var [.l 2 Ai c.K,.l 7 Am c.A],1),(3,.var [.i b.Op,.i b.B,.i b.Z,.i b.C,.i b.D,.l 6 A3 b.H],1),(6,.var [.i b.Op,.i p.1.2.1,.i p.1.2.2.1,.i p.1.2.2.2.1,.i p.1.2.2.2.2,.n 6],1)]) ?_ λp=>?_
 ·refine EA h (λh=>?_) λh=>?_
  ·exact z23
  refine EA h (λh=>?_) λh=>?_
  ·conv=>whnf
   refine z13 ?_;exact z23
  refine EA h (λh=>?_) λh=>?_
  ·conv=>whnf
   refine z13 ?_;exact z23
  refine EA h (λh=>?_) λh=>?_
  ·exact z23
  conv=>whnf
  refine lH h Ld (λi h=>?_) (λi h=>?_)
  ·conv=>whnf
   refine oC Ld i ?_;exact z23
  refine EA h (λh=>?_) λh=>?_
  ·exact z23
  refine jk h λh=>?_;exact z23
 obtain⟨⟨q,l,m,n,o⟩,h⟩:=p;simp only[BR]at h;refine Ih h λh=>?_;refine Gj {p:Unit // Cz b c a=some R} (λp=>Dk 185 [(2,.ptr 2 1 0),(3,.ptr 3 1 0)] [(2,.var [.l 2 Ai c.K,.l 7 Am c.A],1),(3,.var [.i b.Op,.i b.B,.i b.Z,.i b.C,.i b.D,.l 6 A3 b.H],1)]) ?_ λp=>?_
 ·conv=>whnf
  refine lH h Ld (λg h=>?_) (λg h=>?_)
  ·refine Fx h (λ_=>ref05_is_w.h _ _ _ _) λx h=>?_;refine Ih h λh=>?_;refine rW Ld (sU g) ?_;refine rW Ld (sU g) ?_;exact⟨⟨(),h⟩,Bq⟩
  refine lH h Ld (λj h=>?_) (λj h=>?_)
  ·refine Fx h (λ_=>ref05_is_w.h _ _ _ _) λy h=>?_;refine Ih h λh=>?_;refine rW Ld (sU j) ?_;exact⟨⟨(),h⟩,Bq⟩
  refine EA h (λh=>?_) λh=>?_
  ·refine Fx h (λ_=>ref05_is_w.h _ _ _ _) λr h=>?_;refine Ih h λh=>?_;refine Sk (f:=Am) h λs _ h=>?_;refine Ih h λh=>?_
   conv=>whnf
   exact⟨⟨(),h⟩,Bq⟩
  exact⟨⟨(),h⟩,Bq⟩
 obtain⟨_,h⟩:=p;simp only[Cz]at h;refine Gj {p:Unit // CY b a c=some R} (λp=>Dk 185 [(2,.ptr 2 1 0),(3,.ptr 3 1 0)] [(2,.var [.l 2 Ai c.K,.l 7 Am c.A],1),(3,.var [.i b.Op,.i b.B,.i b.Z,.i b.C,.i b.D,.l 6 A3 b.H],1)]) ?_ λp=>?_
 ·conv=>whnf
  refine z13 ?_;refine EA h (λh=>?_) λh=>?_
  ·refine Ih h λh=>?_;refine Sk (f:=Am) h λt _ h=>?_;refine Sk (f:=Ai) h λu _ h=>?_;refine Ih h λh=>?_
   conv=>whnf
   exact⟨⟨(),h⟩,Bq⟩
  exact⟨⟨(),h⟩,Bq⟩
 obtain⟨_,h⟩:=p;simp only[CY]at h;refine Ih h λh=>?_
 conv=>whnf
 refine z7 h (λp=>Dk 185 [(2,.ptr 2 1 0),(3,.ptr 3 1 0),(7,.i p)] [(2,.var [.l 2 Ai c.K,.l 7 Am c.A],1),(3,.var [.i b.Op,.i b.B,.i b.Z,.i b.C,.i b.D,.l 6 A3 b.H],1)]) Bq λ_ _ v h=>?_;simp only[Jf]at h;refine jk h λh=>?_
 conv=>whnf
 refine z13 ?_;refine Sk (f:=A3) h λk _ h=>?_;rw[AI k]
 conv=>whnf
 refine BD h λw e h=>?_
 first|refine A4 (ih _ _ _ e) ?_|(simp only[ua];refine A4 (ih _ _ _ e) ?_)
 refine Ih h λh=>?_
 conv=>whnf
 exact kW ⟨(_,_),h⟩ Bq
theorem SK:∀d:Nat,(W2 prog 106 (I3 d))
 | 0=>by
  exact z16
 | d+1=>by
  have ih:=SK d;exact YQ d _ ih
instance ref05_node_w:CS prog 106 (∀(d:Nat),W2 prog 106 (I3 d)):=⟨λd=>SK d⟩
