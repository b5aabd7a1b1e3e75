/- P3W7 -/
import Derived.Test.YtaojdkijihbaoaaGreatDoorP3W6
open Go.Proofs.Tryz
set_option linter.all false
namespace Go.Proofs.YtaojdkijihbaoaaGreatDoor.P
open Go.Abs Go.Proofs
set_option maxRecDepth 100000
set_option maxHeartbeats 4000000
instance {a0 a1 a2}:LS (λa s=>GL a0 a1 a2 a s) 30 [1,2,4] (λs=>[(5,.i s)]) [2,4] (λs=>[]):=⟨trivial⟩
instance interpret_room_named_w:CS prog 84 (W2 prog 84 E6):=⟨λa b R h=>by
 refine uD func84 ?_;unfold E6 at h;exact Aq⟩
theorem Ki(a:A7)(e:ByteArray)(R:AR)  (h:E6 a e=some R):Fz prog 84 [.cc none [.l 2 Ai a.L.Ao.K,.l 7 Am a.L.Ao.A,.t a.L.X.Ae,.i a.L.X.Ag,.l 2 Ah a.L.X.E,.l 1 (Ao 1 D.z) a.L.X.G,.own 26 122 (List.map AC a.A3)],.t e] [.cc none [.l 2 Ai a.L.Ao.K,.l 7 Am a.L.Ao.A,.t a.L.X.Ae,.i a.L.X.Ag,.l 2 Ah a.L.X.E,.l 1 (Ao 1 D.z) a.L.X.G,.own 26 122 (List.map AC a.A3)],.any] (.d (DG R)):=by
 refine dC func84 (by kernel_rfl) rfl ?_ ?_
 ·intro i x y hx hy
  match i,hx,hy with
  | 0,hx,hy=>cases uc hx;cases uc hy;exact⟨[_,_,_,_,_,_],_,_,_,_,rfl,rfl⟩
  | 1,hx,hy=>simp at hx hy;subst hx;subst hy;trivial
  | i+2,hx,hy=>simp at hx
 unfold E6 at h
 conv=>whnf
 refine Hq h λj k h=>?_;refine loop {p:Nat×Int // j p.1 p.2=some R} (λp=>Dk 30 [(1,.t e),(2,.ptr 2 1 0),(4,.ptr 4 1 0),(5,.i p.1.2)] [(0,.row 26 122 (List.map AC a.A3),0),(2,.var [.l 2 Ai a.L.Ao.K,.l 7 Am a.L.Ao.A,.t a.L.X.Ae,.i a.L.X.Ag,.l 2 Ah a.L.X.E,.l 1 (Ao 1 D.z) a.L.X.G,.sl 0 0],1),(4,.var [.i 0,.i 0,.i 0,.n 2,.i 0,.n 7,.i 0,.n 1,.n 2,.i 0,.i 0,.i 0,.i 0,.i 0,.i 0,.n 6,.n 2,.i 0,.i 0,.i 0,.i 0,.i 0,.i 0,.n 1],1)]) (λp=>p.1.1) ⟨(_,_),h⟩ ?_ λp=>?_
 ·refine TL ?_
  conv=>whnf
  exact tP
 obtain⟨⟨l,g⟩,h⟩:=p;obtain⟨l,rfl,h⟩:=k _ _ h;simp only[GL]at h
 conv=>whnf
 refine Vh h Ld (λh=>?_) (λh=>?_)
 ·conv=>whnf
  refine gm (f:=AC) h Ld λm b h=>?_
  conv=>whnf
  refine qP (f:=AC) b Ld ?_
  conv=>whnf
  refine Vh h Ld (λh=>?_) (λh=>?_)
  ·conv=>whnf
   refine gm (f:=AC) h Ld λn c h=>?_
   conv=>whnf
   refine qP (f:=AC) c Ld ?_
   conv=>whnf
   refine BD h λo d h=>?_;refine A4 (interpret_clone_w.h _ _ d) ?_
   conv=>whnf
   exact z24
  conv=>whnf
  refine⟨⟨(_,_),h⟩,?_,wm _⟩;refine TL ?_
  conv=>whnf
  exact tP
 conv=>whnf
 try simp only[JF]at h
 exact z24
theorem Uj(d:Nat)(a:Ad->(Ad->Option Int)->Option Int)(ih:∀(l:Ad)(m:Ad->Option Int)(b:FuncId)(c:List D)(R:Int)(h_p1:∀(a0:Ad) r,m a0=some r->Ax prog b ([.d (BI a0)]++c.map .d) (.i r)),a l m=some R->Ax prog 270 [.d (BI l),.d (.fn b c)] (.i R))(l:Ad)(m:Ad->Option Int)(b:FuncId)(c:List D)(R:Int)(h_p1:∀(a0:Ad) r,m a0=some r->Ax prog b ([.d (BI a0)]++c.map .d) (.i r))(h:Dm d a l m=some R):Ax prog 270 [.d (BI l),.d (.fn b c)] (.i R):=by
 refine uD func270 ?_;unfold Dm at h;refine EA h (λh=>?_) λh=>?_
 ·exact Aq
 refine EA h (λh=>?_) λh=>?_
 ·conv=>whnf
  refine z13 ?_;refine Sk (f:=A3) h λn _ h=>?_;rw[AI n]
  conv=>whnf
  refine BD h λt e h=>?_
  first|refine A4 (ih _ _ _ _ _ h_p1 e) ?_|(simp only[ua];refine A4 (ih _ _ _ _ _ h_p1 e) ?_)
  refine Sk (f:=A3) h λo _ h=>?_;rw[AI o]
  conv=>whnf
  refine BD h λu g h=>?_
  first|refine A4 (ih _ _ _ _ _ h_p1 g) ?_|(simp only[ua];refine A4 (ih _ _ _ _ _ h_p1 g) ?_)
  exact Aq
 refine EA h (λh=>?_) λh=>?_
 ·conv=>whnf
  refine z13 ?_;refine Sk (f:=A3) h λp _ h=>?_;rw[AI p]
  conv=>whnf
  refine BD h λv i h=>?_
  first|refine A4 (ih _ _ _ _ _ h_p1 i) ?_|(simp only[ua];refine A4 (ih _ _ _ _ _ h_p1 i) ?_)
  refine Sk (f:=A3) h λq _ h=>?_;rw[AI q]
  conv=>whnf
  refine BD h λw j h=>?_
  first|refine A4 (ih _ _ _ _ _ h_p1 j) ?_|(simp only[ua];refine A4 (ih _ _ _ _ _ h_p1 j) ?_)
  exact Aq
 refine EA h (λh=>?_) λh=>?_
 ·refine Sk (f:=A3) h λs _ h=>?_;rw[AI s]
  conv=>whnf
  refine BD h λx k h=>?_
  first|refine A4 (ih _ _ _ _ _ h_p1 k) ?_|(simp only[ua];refine A4 (ih _ _ _ _ _ h_p1 k) ?_)
  exact Aq
 exact Aq
theorem Ow:∀d:Nat,(∀(c:Ad)(e:Ad->Option Int)(a:FuncId)(b:List D)(R:Int)(h_p1:∀(a0:Ad) r,e a0=some r->Ax prog a ([.d (BI a0)]++b.map .d) (.i r)),AE d c e=some R->Ax prog 270 [.d (BI c),.d (.fn a b)] (.i R))
 | 0=>by
  exact z16
 | d+1=>by
  have ih:=Ow d;exact Uj d _ ih
instance condition_tell_w:CS prog 270 (∀(d:Nat),∀(c:Ad)(e:Ad->Option Int)(a:FuncId)(b:List D)(R:Int)(h_p1:∀(a0:Ad) r,e a0=some r->Ax prog a ([.d (BI a0)]++b.map .d) (.i r)),AE d c e=some R->Ax prog 270 [.d (BI c),.d (.fn a b)] (.i R)):=⟨λd=>Ow d⟩
instance condition_Holds_c1_w:CS prog 271 (∀(b:Ad)(a:Aa)(c:List Int)(R:Int)(h:Ct b a c=some R),Ax prog 271 [.d (BI b),.d (.ptr [(Ao 2 Ai a.K),(Ao 7 Am a.A)]),.d (.ptr [(Ao 1 D.z c)])] (.i R)):=⟨λb a c R h=>by
 refine uD func271 ?_;unfold Ct at h;exact Aq⟩
instance condition_Holds_w:CS prog 214 (∀d:Nat,W3 prog 214 (FI d)):=⟨λd a b p2 R h=>by
 refine uD func214 ?_;unfold FI at h;exact Aq⟩
instance {a0 a1}:LS (λa s=>ED a0 a1 a s.1 s.2) 66 [2,3,4,5,9] (λs=>[(10,.i s.1)]) [4,5] (λs=>[(18,.row 1 3 (List.map D.z s.2),1)]):=⟨trivial⟩
instance {a0 a1 a2 a3}:LS (λa s=>FU a0 a1 a2 a3 a s.1 s.2) 66 [3,4,5,9,34,35] (λs=>[(36,.i s.1)]) [4,5] (λs=>[(18,.row 1 3 (List.map D.z s.2),1)]):=⟨trivial⟩
instance condition_Told_w:CS prog 144 (∀d:Nat,W4 prog 144 (C8 d)):=⟨λd b c p2 p3 R h=>by
 refine WA [6] func144 ?_;unfold C8 at h
 conv=>whnf
 refine S3 h λhr h=>?_;refine z11 ?_
 try rw[pF]
 refine Gj {p:(List Int) // Ia p2 p3 b d c p=some R} (λp=>Dk 66 [(2,.l 2 Ah p2),(3,.l 1 D.z p3),(4,.ptr 4 1 0),(5,.ptr 5 1 0),(9,.sl 18 1)] [(4,BN b,1),(5,P6 c,1),(18,.row 1 3 (List.map D.z p.1),1)]) ?_ λp=>?_
 ·exact Aq
 obtain⟨a,h⟩:=p;exact Aq⟩
instance tabulate_Holding_w:CS prog 85 (∀(d:Nat)(b:Aa)(a:Au)(p2:Ad)(R:List Int)(h:Do d b a p2=some R),Ax prog 85 [.d (EK b),.d (E5 a),.d (BI p2)] (.own 1 3 (List.map D.z R))):=⟨λd b a p2 R h=>by
 refine WA [3] func85 ?_;unfold Do at h;refine Gj {p:Unit // G8 a d b p2=some R} (λp=>Dk 45 [(3,.ptr 3 1 0),(4,.ptr 4 1 0),(5,.ptr 5 1 0)] [(3,BN b,1),(4,Jk a,1),(5,P6 p2,1)]) ?_ λp=>?_
 ·conv=>whnf
  refine z13 ?_;refine Fx h (λ_=>condition_Check_w.h _ _ _ _) λf h=>?_;refine EA h (λh=>?_) λh=>?_
  ·obtain rfl:=uc h;refine⟨.inr ?_⟩
   conv=>whnf
   refine z9 ?_;exact Aq
  refine Fx h (λ_=>condition_Needs_w.h _ _ _ _) λg h=>?_;refine Fx h (λ_=>condition_Covers_w.h _ _ _) λi h=>?_;refine EA h (λh=>?_) λh=>?_
  ·conv=>whnf
   obtain rfl:=uc h;refine⟨.inr ?_⟩
   conv=>whnf
   refine z9 ?_;exact Aq
  exact Aq
 obtain⟨_,h⟩:=p;simp only[G8]at h
 conv=>whnf
 refine z7 h (λp=>Dk 45 [(3,.ptr 3 1 0),(4,.ptr 4 1 0),(5,.ptr 5 1 0),(7,.sl 7 1),(24,.l 1 (Ao 1 D.z) a.G),(25,.i (a.G.length:Int)),(26,.i p.1)] [(3,BN b,1),(4,Jk a,1),(5,P6 p2,1),(7,.row 1 3 (List.map D.z p.2),1)]) Bq λ_ _ ⟨c,e⟩ h=>?_;simp only[MK]at h;refine EA h (λh=>?_) λh=>?_
 ·exact Aq
 conv=>whnf
 obtain rfl:=uc h;refine⟨.inr ?_⟩
 conv=>whnf
 refine z9 ?_;exact Aq⟩
instance {a0 a1 a2}:LS (λa s=>P0 a0 a1 a2 a s.1 s.2) 26 [2,5,8,9] (λs=>[(10,.i s.1)]) [2] (λs=>[(5,.row 1 3 (List.map D.z s.2),1)]):=⟨trivial⟩
instance tabulate_Keys_w:CS prog 86 (W2 prog 86 Fo):=⟨λa b R h=>by
 refine uD func86 ?_;unfold Fo at h;exact Aq⟩
instance {a0 a1 a2}:LS (λa s=>H4 a0 a1 a2 a s) 19 [0,1,7] (λs=>[(8,.i s)]) [] (λs=>[]):=⟨trivial⟩
instance slices_IndexFunc_Lint_int_w:CS prog 272 (∀(c:List Int)(d:Int->Option Bool)(a:FuncId)(b:List D)(R:Int)(h_p1:∀(a0:Int) r,d a0=some r->Ax prog a ([.i a0]++b.map .d) (.b r))(h:CK c d=some R),Ax prog 272 [.l 1 D.z c,.d (.fn a b)] (.i R)):=⟨λc d a b R h_p1 h=>by
 refine uD func272 ?_;unfold CK at h;exact Aq⟩
instance slices_ContainsFunc_Lint_int_w:CS prog 217 (∀(c:List Int)(d:Int->Option Bool)(a:FuncId)(b:List D)(R:Bool)(h_p1:∀(a0:Int) r,d a0=some r->Ax prog a ([.i a0]++b.map .d) (.b r))(h:BY c d=some R),Ax prog 217 [.l 1 D.z c,.d (.fn a b)] (.b R)):=⟨λc d a b R h_p1 h=>by
 refine uD func217 ?_;unfold BY at h;refine Fx h (λ_=>slices_IndexFunc_Lint_int_w.h _ _ _ _ _ h_p1) λe h=>?_;exact Aq⟩
