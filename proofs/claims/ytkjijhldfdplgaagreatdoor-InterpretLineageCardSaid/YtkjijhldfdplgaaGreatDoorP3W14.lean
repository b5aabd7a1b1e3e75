/- P3W14 -/
import Derived.Test.YtkjijhldfdplgaaGreatDoorP3W13
open Go.Proofs.Tryz
set_option linter.all false
namespace Go.Proofs.YtkjijhldfdplgaaGreatDoor.P
open Go.Abs Go.Proofs
set_option maxRecDepth 100000
set_option maxHeartbeats 4000000
instance interpret_Eval_w:CS prog 7 (∀d:Nat,W4 prog 7 (CH d)):=⟨λd a b p2 p3 R h=>by
 refine uD func7 ?_;unfold CH at h;exact As⟩
instance {a0 a1 a2}:LS (λa s=>CQ a0 a1 a2 a s) 19 [0,1,7] (λs=>[(8,.i s)]) [] (λs=>[]):=⟨trivial⟩
instance slices_IndexFunc_Lapi_Statement_api_Statement_w:CS prog 285 (∀(c:List AB)(d:AB->Option Bool)(a:FuncId)(b:List D)(R:Int)(h_p1:∀(a0:AB) r,d a0=some r->Ay prog a ([.d (BR a0)]++b.map .d) (.b r))(h:B4 c d=some R),Ay prog 285 [.l 21 BR c,.d (.fn a b)] (.i R)):=⟨λc d a b R h_p1 h=>by
 refine uD func285 ?_;unfold B4 at h;exact As⟩
instance slices_ContainsFunc_Lapi_Statement_api_Statement_w:CS prog 228 (∀(c:List AB)(d:AB->Option Bool)(a:FuncId)(b:List D)(R:Bool)(h_p1:∀(a0:AB) r,d a0=some r->Ay prog a ([.d (BR a0)]++b.map .d) (.b r))(h:AZ c d=some R),Ay prog 228 [.l 21 BR c,.d (.fn a b)] (.b R)):=⟨λc d a b R h_p1 h=>by
 refine uD func228 ?_;unfold AZ at h;refine E9 h (λ_=>slices_IndexFunc_Lapi_Statement_api_Statement_w.h _ _ _ _ _ h_p1) λe h=>?_;exact As⟩
instance program_checkOne_c1_c1_w:CS prog 229 (∀(a:AB)(b:ByteArray)(R:Bool)(h:EZ a b=some R),Ay prog 229 [.d (BR a),.d (.ptr [(.str b)])] (.b R)):=⟨λa b R h=>by
 refine uD func229 ?_;unfold EZ at h;exact As⟩
instance program_checkOne_c1_w:CS prog 227 (∀(a:ByteArray)(b:List AB)(R:Bool)(h:CW a b=some R),Ay prog 227 [.t a,.d (.ptr [(Am 21 BR b)])] (.b R)):=⟨λa b R h=>by
 refine uD func227 ?_;unfold CW at h;exact As⟩
instance {a0 a1 a2 a3}:LS (λa s=>GP a0 a1 a2 a3 a s.1 s.2) 27 [1,9,10] (λs=>[(5,.i s.1),(11,.i s.2)]) [] (λs=>[]):=⟨trivial⟩
theorem VP(d:Nat)(a:Ar->Int->Option Int)(ih:W2 prog 230 a):W2 prog 230 (EH d a):=by
 intro b c R h;refine uD func230 ?_;unfold EH at h;exact As
theorem PF:∀d:Nat,(W2 prog 230 (Fc d))
 | 0=>by
  exact z16
 | d+1=>by
  have ih:=PF d;exact VP d _ ih
instance program_count_w:CS prog 230 (∀(d:Nat),W2 prog 230 (Fc d)):=⟨λd=>PF d⟩
instance {a0 a1 a2}:LS (λa s=>HA a0 a1 a2 a s.1 s.2) 20 [7,8] (λs=>[(3,.i s.1),(9,.i s.2)]) [] (λs=>[]):=⟨trivial⟩
theorem Xk(d:Nat)(a:Ar->Option Int)(ih:W1 prog 231 a):W1 prog 231 (F4 d a):=by
 intro b R h;refine uD func231 ?_;unfold F4 at h;exact As
theorem QL:∀d:Nat,(W1 prog 231 (Gp d))
 | 0=>by
  exact z16
 | d+1=>by
  have ih:=QL d;exact Xk d _ ih
instance program_deep_w:CS prog 231 (∀(d:Nat),W1 prog 231 (Gp d)):=⟨λd=>QL d⟩
theorem VQ(d:Nat)(b:Ar->(ByteArray->Option Bool)->Option Bool)(ih:∀(f:Ar)(j:ByteArray->Option Bool)(c:FuncId)(e:List D)(R:Bool)(h_p1:∀(a0:ByteArray) r,j a0=some r->Ay prog c ([.t a0]++e.map .d) (.b r)),b f j=some R->Ay prog 232 [.d (AR f),.d (.fn c e)] (.b R))(a:Ar->(ByteArray->Option Bool)->Option Bool)(ih1:∀(f:Ar)(k:ByteArray->Option Bool)(g:FuncId)(i:List D)(R:Bool)(l:∀(a0:ByteArray) r,k a0=some r->Ay prog g ([.t a0]++i.map .d) (.b r)),a f k=some R->Ay prog 286 [.d (AR f),.d (.ptr [.fn g i])] (.b R))(f:Ar)(j:ByteArray->Option Bool)(c:FuncId)(e:List D)(R:Bool)(h_p1:∀(a0:ByteArray) r,j a0=some r->Ay prog c ([.t a0]++e.map .d) (.b r))(h:EI d b a f j=some R):Ay prog 232 [.d (AR f),.d (.fn c e)] (.b R):=by
 refine uD func232 ?_;unfold EI at h;refine Do h (λh=>?_) λh=>?_
 ·conv=>whnf
  rw[U3];refine E9 h (λ_=>h_p1 _ _) λm h=>?_;refine Do h (λh=>?_) λh=>?_
  ·exact As
  conv=>whnf
  exact z33
 exact z33
theorem SS(d:Nat)(b:Ar->(ByteArray->Option Bool)->Option Bool)(ih:∀(g:Ar)(m:ByteArray->Option Bool)(i:FuncId)(j:List D)(R:Bool)(h_p1:∀(a0:ByteArray) r,m a0=some r->Ay prog i ([.t a0]++j.map .d) (.b r)),b g m=some R->Ay prog 232 [.d (AR g),.d (.fn i j)] (.b R))(a:Ar->(ByteArray->Option Bool)->Option Bool)(ih1:∀(g:Ar)(k:ByteArray->Option Bool)(c:FuncId)(e:List D)(R:Bool)(f:∀(a0:ByteArray) r,k a0=some r->Ay prog c ([.t a0]++e.map .d) (.b r)),a g k=some R->Ay prog 286 [.d (AR g),.d (.ptr [.fn c e])] (.b R))(g:Ar)(k:ByteArray->Option Bool)(c:FuncId)(e:List D)(R:Bool)(f:∀(a0:ByteArray) r,k a0=some r->Ay prog c ([.t a0]++e.map .d) (.b r))(h:F5 d b a g k=some R):Ay prog 286 [.d (AR g),.d (.ptr [.fn c e])] (.b R):=by
 refine uD func286 ?_;unfold F5 at h
 conv=>whnf
 refine Bi h λn l h=>?_
 first|refine A3 (ih _ _ _ _ _ f l) ?_|(simp only[sX];refine A3 (ih _ _ _ _ _ f l) ?_)
 exact As
theorem Dz:∀d:Nat,(∀(f:Ar)(g:ByteArray->Option Bool)(a:FuncId)(b:List D)(R:Bool)(h_p1:∀(a0:ByteArray) r,g a0=some r->Ay prog a ([.t a0]++b.map .d) (.b r)),D5 d f g=some R->Ay prog 232 [.d (AR f),.d (.fn a b)] (.b R))/\(∀(f:Ar)(i:ByteArray->Option Bool)(c:FuncId)(e:List D)(R:Bool)(j:∀(a0:ByteArray) r,i a0=some r->Ay prog c ([.t a0]++e.map .d) (.b r)),CK d f i=some R->Ay prog 286 [.d (AR f),.d (.ptr [.fn c e])] (.b R))
 | 0=>by
  refine⟨?_,?_⟩<;>((repeat intro _);rename_i h;cases h)
 | d+1=>by
  have ih:=Dz d;exact⟨VQ d _ (ih).1 _ (ih).2,SS d _ (ih).1 _ (ih).2⟩
instance program_named_w:CS prog 232 (∀(d:Nat),∀(c:Ar)(e:ByteArray->Option Bool)(a:FuncId)(b:List D)(R:Bool)(h_p1:∀(a0:ByteArray) r,e a0=some r->Ay prog a ([.t a0]++b.map .d) (.b r)),D5 d c e=some R->Ay prog 232 [.d (AR c),.d (.fn a b)] (.b R)):=⟨λd=>(Dz d).1⟩
instance program_named_c1_w:CS prog 286 (∀(d:Nat),∀(c:Ar)(e:ByteArray->Option Bool)(a:FuncId)(b:List D)(R:Bool)(f:∀(a0:ByteArray) r,e a0=some r->Ay prog a ([.t a0]++b.map .d) (.b r)),CK d c e=some R->Ay prog 286 [.d (AR c),.d (.ptr [.fn a b])] (.b R)):=⟨λd=>(Dz d).2⟩
instance program_checkOne_w:CS prog 145 (∀d:Nat,W3 prog 145 (IY d)):=⟨λd a b p2 R h=>by
 refine uD func145 ?_;unfold IY at h;exact As⟩
instance {a0 a1 a2 a3}:LS (λa s=>PE a0 a1 a2 a3 a s) 38 [1,2,18,19] (λs=>[(20,.i s)]) [2] (λs=>[]):=⟨trivial⟩
instance program_Check_w:CS prog 76 (∀d:Nat,W2 prog 76 (Ii d)):=⟨λd a b R h=>by
 refine uD func76 ?_;unfold Ii at h;exact As⟩
instance {a0 a1 a2 a3 a4}:LS (λa s=>PW a0 a1 a2 a3 a4 a s.1 s.2.1 s.2.2) 63 [1,2,3,11,12,27,28] (λs=>[(29,.i s.1)]) [3] (λs=>[(11,.row 1 3 (List.map D.z s.2.1),1),(12,.row 26 112 (List.map A8 s.2.2),1)]):=⟨trivial⟩
instance types_Program_w:CS prog 77 (∀d:Nat,W3 prog 77 (Pl d)):=⟨λd a b p2 R h=>by
 refine uD func77 ?_;unfold Pl at h;exact As⟩
instance interpret_Run_w:CS prog 30 (∀d:Nat,W3 prog 30 (OW d)):=⟨λd e g p2 R h=>by
 refine uD func30 ?_;unfold OW at h;refine E9 h (λ_=>extract_Check_w.h _ _ _) λi h=>?_;refine Do h (λh=>?_) λh=>?_
 ·exact As
 refine E9 h (λ_=>program_Check_w.h _ _ _ _) λj h=>?_;refine Do h (λh=>?_) λh=>?_
 ·exact As
 refine E9 h (λ_=>types_Program_w.h _ _ _ _ _) λk h=>?_;refine Do h (λh=>?_) λh=>?_
 ·exact As
 conv=>whnf
 refine z7 h (λp=>CY 84 [(2,.l 21 BR p2),(3,.ptr 3 1 0),(4,.ptr 4 1 0),(15,.sl 15 1),(49,.l 21 BR p2),(50,.i (p2.length:Int)),(51,.i p.1)] [(3,Cg e,1),(4,LW g,1),(15,.row 26 112 (List.map A8 p.2),1)]) C3 λ_ _ ⟨b,c⟩ h=>?_;simp only[P5]at h;refine Do h (λh=>?_) λh=>?_
 ·refine QX (f:=BR) h λl _ h=>?_
  conv=>whnf
  refine⟨.inr ?_⟩
  conv=>whnf
  refine Bi h λm a h=>?_
  first|refine Ew (Kn _ _ _ _ a) ?_|(simp only[sX];refine Ew (Kn _ _ _ _ a) ?_)
  exact As
 exact As⟩
instance {a0 a1}:LS (λa s=>OA a0 a1 a s.1 s.2) 24 [3,6,7] (λs=>[(8,.i s.1)]) [] (λs=>[(3,.row 26 112 (List.map A8 s.2),1)]):=⟨trivial⟩
instance interpret_Outs_w:CS prog 32 (W1 prog 32 Kl):=⟨λa R h=>by
 refine uD func32 ?_;unfold Kl at h;exact As⟩
