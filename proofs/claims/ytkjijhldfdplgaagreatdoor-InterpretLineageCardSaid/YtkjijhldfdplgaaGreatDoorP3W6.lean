/- P3W6 -/
import Derived.Test.YtkjijhldfdplgaaGreatDoorP3W5
open Go.Proofs.Tryz
set_option linter.all false
namespace Go.Proofs.YtkjijhldfdplgaaGreatDoor.P
open Go.Abs Go.Proofs
set_option maxRecDepth 100000
set_option maxHeartbeats 4000000
instance {a0 a1 a2}:LS (λa s=>GO a0 a1 a2 a s) 30 [1,2,4] (λs=>[(5,.i s)]) [2,4] (λs=>[]):=⟨trivial⟩
instance interpret_room_named_w:CS prog 65 (W2 prog 65 E3):=⟨λa b R h=>by
 refine uD func65 ?_;unfold E3 at h;exact As⟩
theorem Km(a:A0)(e:ByteArray)(R:A9)  (h:E3 a e=some R):DU prog 65 [.cc none [.l 2 Ae a.I.Ai.K,.l 7 Ak a.I.Ai.A,.t a.I.Q.Ae,.i a.I.Q.Af,.l 2 Ad a.I.Q.H,.l 1 (Am 1 D.z) a.I.Q.C,.own 26 112 (List.map A8 a.Aw)],.t e] [.cc none [.l 2 Ae a.I.Ai.K,.l 7 Ak a.I.Ai.A,.t a.I.Q.Ae,.i a.I.Q.Af,.l 2 Ad a.I.Q.H,.l 1 (Am 1 D.z) a.I.Q.C,.own 26 112 (List.map A8 a.Aw)],.any] (.d (Dt R)):=by
 refine eC func65 (by kernel_rfl) rfl ?_ ?_
 ·intro i x y hx hy
  match i,hx,hy with
  | 0,hx,hy=>cases sY hx;cases sY hy;exact⟨[_,_,_,_,_,_],_,_,_,_,rfl,rfl⟩
  | 1,hx,hy=>simp at hx hy;subst hx;subst hy;trivial
  | i+2,hx,hy=>simp at hx
 unfold E3 at h
 conv=>whnf
 refine Gl h λj k h=>?_;refine loop {p:Nat×Int // j p.1 p.2=some R} (λp=>CY 30 [(1,.t e),(2,.ptr 2 1 0),(4,.ptr 4 1 0),(5,.i p.1.2)] [(0,.row 26 112 (List.map A8 a.Aw),0),(2,.var [.l 2 Ae a.I.Ai.K,.l 7 Ak a.I.Ai.A,.t a.I.Q.Ae,.i a.I.Q.Af,.l 2 Ad a.I.Q.H,.l 1 (Am 1 D.z) a.I.Q.C,.sl 0 0],1),(4,.var [.i 0,.i 0,.i 0,.n 2,.i 0,.n 7,.i 0,.n 1,.n 2,.i 0,.i 0,.i 0,.i 0,.i 0,.i 0,.n 6,.n 2,.i 0,.i 0,.i 0,.i 0,.i 0,.i 0,.n 1],1)]) (λp=>p.1.1) ⟨(_,_),h⟩ ?_ λp=>?_
 ·refine R1 ?_
  conv=>whnf
  exact s9
 obtain⟨⟨l,g⟩,h⟩:=p;obtain⟨l,rfl,h⟩:=k _ _ h;simp only[GO]at h
 conv=>whnf
 refine Td h FK (λh=>?_) (λh=>?_)
 ·conv=>whnf
  refine Ph (f:=A8) h FK λm b h=>?_
  conv=>whnf
  refine Zc (f:=A8) b FK ?_
  conv=>whnf
  refine Td h FK (λh=>?_) (λh=>?_)
  ·conv=>whnf
   refine Ph (f:=A8) h FK λn c h=>?_
   conv=>whnf
   refine Zc (f:=A8) c FK ?_
   conv=>whnf
   refine Bi h λo d h=>?_;refine A3 (interpret_clone_w.h _ _ d) ?_
   conv=>whnf
   exact z28
  conv=>whnf
  refine⟨⟨(_,_),h⟩,?_,u3 _⟩;refine R1 ?_
  conv=>whnf
  exact s9
 conv=>whnf
 try simp only[JL]at h
 exact z28
theorem UB(d:Nat)(a:Ah->(Ah->Option Int)->Option Int)(ih:∀(l:Ah)(m:Ah->Option Int)(b:FuncId)(c:List D)(R:Int)(h_p1:∀(a0:Ah) r,m a0=some r->Ay prog b ([.d (BC a0)]++c.map .d) (.i r)),a l m=some R->Ay prog 262 [.d (BC l),.d (.fn b c)] (.i R))(l:Ah)(m:Ah->Option Int)(b:FuncId)(c:List D)(R:Int)(h_p1:∀(a0:Ah) r,m a0=some r->Ay prog b ([.d (BC a0)]++c.map .d) (.i r))(h:GH d a l m=some R):Ay prog 262 [.d (BC l),.d (.fn b c)] (.i R):=by
 refine uD func262 ?_;unfold GH at h;refine Do h (λh=>?_) λh=>?_
 ·exact As
 refine Do h (λh=>?_) λh=>?_
 ·conv=>whnf
  refine z13 ?_;refine QX (f:=Az) h λn _ h=>?_;rw[AQ n]
  conv=>whnf
  refine Bi h λt e h=>?_
  first|refine A3 (ih _ _ _ _ _ h_p1 e) ?_|(simp only[sX];refine A3 (ih _ _ _ _ _ h_p1 e) ?_)
  refine QX (f:=Az) h λo _ h=>?_;rw[AQ o]
  conv=>whnf
  refine Bi h λu g h=>?_
  first|refine A3 (ih _ _ _ _ _ h_p1 g) ?_|(simp only[sX];refine A3 (ih _ _ _ _ _ h_p1 g) ?_)
  exact As
 refine Do h (λh=>?_) λh=>?_
 ·conv=>whnf
  refine z13 ?_;refine QX (f:=Az) h λp _ h=>?_;rw[AQ p]
  conv=>whnf
  refine Bi h λv i h=>?_
  first|refine A3 (ih _ _ _ _ _ h_p1 i) ?_|(simp only[sX];refine A3 (ih _ _ _ _ _ h_p1 i) ?_)
  refine QX (f:=Az) h λq _ h=>?_;rw[AQ q]
  conv=>whnf
  refine Bi h λw j h=>?_
  first|refine A3 (ih _ _ _ _ _ h_p1 j) ?_|(simp only[sX];refine A3 (ih _ _ _ _ _ h_p1 j) ?_)
  exact As
 refine Do h (λh=>?_) λh=>?_
 ·refine QX (f:=Az) h λs _ h=>?_;rw[AQ s]
  conv=>whnf
  refine Bi h λx k h=>?_
  first|refine A3 (ih _ _ _ _ _ h_p1 k) ?_|(simp only[sX];refine A3 (ih _ _ _ _ _ h_p1 k) ?_)
  exact As
 exact As
theorem O5:∀d:Nat,(∀(c:Ah)(e:Ah->Option Int)(a:FuncId)(b:List D)(R:Int)(h_p1:∀(a0:Ah) r,e a0=some r->Ay prog a ([.d (BC a0)]++b.map .d) (.i r)),GG d c e=some R->Ay prog 262 [.d (BC c),.d (.fn a b)] (.i R))
 | 0=>by
  exact z16
 | d+1=>by
  have ih:=O5 d;exact UB d _ ih
instance condition_tell_w:CS prog 262 (∀(d:Nat),∀(c:Ah)(e:Ah->Option Int)(a:FuncId)(b:List D)(R:Int)(h_p1:∀(a0:Ah) r,e a0=some r->Ay prog a ([.d (BC a0)]++b.map .d) (.i r)),GG d c e=some R->Ay prog 262 [.d (BC c),.d (.fn a b)] (.i R)):=⟨λd=>O5 d⟩
instance condition_Holds_c1_w:CS prog 263 (∀(b:Ah)(a:Aa)(c:List Int)(R:Int)(h:JB b a c=some R),Ay prog 263 [.d (BC b),.d (.ptr [(Am 2 Ae a.K),(Am 7 Ak a.A)]),.d (.ptr [(Am 1 D.z c)])] (.i R)):=⟨λb a c R h=>by
 refine uD func263 ?_;unfold JB at h;exact As⟩
instance condition_Holds_w:CS prog 196 (∀d:Nat,W3 prog 196 (Jv d)):=⟨λd a b p2 R h=>by
 refine uD func196 ?_;unfold Jv at h;exact As⟩
instance {a0 a1}:LS (λa s=>Iq a0 a1 a s.1 s.2) 66 [2,3,4,5,9] (λs=>[(10,.i s.1)]) [4,5] (λs=>[(18,.row 1 3 (List.map D.z s.2),1)]):=⟨trivial⟩
instance {a0 a1 a2 a3}:LS (λa s=>O2 a0 a1 a2 a3 a s.1 s.2) 66 [3,4,5,9,34,35] (λs=>[(36,.i s.1)]) [4,5] (λs=>[(18,.row 1 3 (List.map D.z s.2),1)]):=⟨trivial⟩
instance condition_Told_w:CS prog 122 (∀d:Nat,W4 prog 122 (Fu d)):=⟨λd b c p2 p3 R h=>by
 refine Xr [6] func122 ?_;unfold Fu at h
 conv=>whnf
 refine QW h λhr h=>?_;refine z11 ?_
 try rw[pk]
 refine F3 {p:(List Int) // O3 p2 p3 b d c p=some R} (λp=>CY 66 [(2,.l 2 Ad p2),(3,.l 1 D.z p3),(4,.ptr 4 1 0),(5,.ptr 5 1 0),(9,.sl 18 1)] [(4,Cg b,1),(5,PX c,1),(18,.row 1 3 (List.map D.z p.1),1)]) ?_ λp=>?_
 ·exact As
 obtain⟨a,h⟩:=p;exact As⟩
instance tabulate_Holding_w:CS prog 66 (∀(d:Nat)(b:Aa)(a:Ao)(p2:Ah)(R:List Int)(h:Ck d b a p2=some R),Ay prog 66 [.d (CG b),.d (DY a),.d (BC p2)] (.own 1 3 (List.map D.z R))):=⟨λd b a p2 R h=>by
 refine Xr [3] func66 ?_;unfold Ck at h;refine F3 {p:Unit // GD a d b p2=some R} (λp=>CY 45 [(3,.ptr 3 1 0),(4,.ptr 4 1 0),(5,.ptr 5 1 0)] [(3,Cg b,1),(4,LW a,1),(5,PX p2,1)]) ?_ λp=>?_
 ·conv=>whnf
  refine z13 ?_;refine E9 h (λ_=>condition_Check_w.h _ _ _ _) λf h=>?_;refine Do h (λh=>?_) λh=>?_
  ·obtain rfl:=sY h;refine⟨.inr ?_⟩
   conv=>whnf
   refine z9 ?_;exact As
  refine E9 h (λ_=>condition_Needs_w.h _ _ _ _) λg h=>?_;refine E9 h (λ_=>condition_Covers_w.h _ _ _) λi h=>?_;refine Do h (λh=>?_) λh=>?_
  ·conv=>whnf
   obtain rfl:=sY h;refine⟨.inr ?_⟩
   conv=>whnf
   refine z9 ?_;exact As
  exact As
 obtain⟨_,h⟩:=p;simp only[GD]at h
 conv=>whnf
 refine z7 h (λp=>CY 45 [(3,.ptr 3 1 0),(4,.ptr 4 1 0),(5,.ptr 5 1 0),(7,.sl 7 1),(24,.l 1 (Am 1 D.z) a.C),(25,.i (a.C.length:Int)),(26,.i p.1)] [(3,Cg b,1),(4,LW a,1),(5,PX p2,1),(7,.row 1 3 (List.map D.z p.2),1)]) Bh λ_ _ ⟨c,e⟩ h=>?_;simp only[MF]at h;refine Do h (λh=>?_) λh=>?_
 ·exact As
 conv=>whnf
 obtain rfl:=sY h;refine⟨.inr ?_⟩
 conv=>whnf
 refine z9 ?_;exact As⟩
instance {a0 a1 a2}:LS (λa s=>PU a0 a1 a2 a s.1 s.2) 26 [2,5,8,9] (λs=>[(10,.i s.1)]) [2] (λs=>[(5,.row 1 3 (List.map D.z s.2),1)]):=⟨trivial⟩
instance tabulate_Keys_w:CS prog 67 (W2 prog 67 BV):=⟨λa b R h=>by
 refine uD func67 ?_;unfold BV at h;exact As⟩
instance {a0 a1 a2}:LS (λa s=>Ie a0 a1 a2 a s) 19 [0,1,7] (λs=>[(8,.i s)]) [] (λs=>[]):=⟨trivial⟩
instance slices_IndexFunc_Lint_int_w:CS prog 264 (∀(c:List Int)(d:Int->Option Bool)(a:FuncId)(b:List D)(R:Int)(h_p1:∀(a0:Int) r,d a0=some r->Ay prog a ([.i a0]++b.map .d) (.b r))(h:CR c d=some R),Ay prog 264 [.l 1 D.z c,.d (.fn a b)] (.i R)):=⟨λc d a b R h_p1 h=>by
 refine uD func264 ?_;unfold CR at h;exact As⟩
instance slices_ContainsFunc_Lint_int_w:CS prog 199 (∀(c:List Int)(d:Int->Option Bool)(a:FuncId)(b:List D)(R:Bool)(h_p1:∀(a0:Int) r,d a0=some r->Ay prog a ([.i a0]++b.map .d) (.b r))(h:Bt c d=some R),Ay prog 199 [.l 1 D.z c,.d (.fn a b)] (.b R)):=⟨λc d a b R h_p1 h=>by
 refine uD func199 ?_;unfold Bt at h;refine E9 h (λ_=>slices_IndexFunc_Lint_int_w.h _ _ _ _ _ h_p1) λe h=>?_;exact As⟩
