/- P3W3 -/
import Derived.Test.YtaojdkijihbaoaaGreatDoorP3W2
open Go.Proofs.Tryz
set_option linter.all false
namespace Go.Proofs.YtaojdkijihbaoaaGreatDoor.P
open Go.Abs Go.Proofs
set_option maxRecDepth 100000
set_option maxHeartbeats 4000000
instance {a0 a1 a2}:LS (λa s=>E8 a0 a1 a2 a s) 19 [0,1,7] (λs=>[(8,.i s)]) [] (λs=>[]):=⟨trivial⟩
instance slices_IndexFunc_Lapi_Expr_api_Expr_w:CS prog 264 (∀(c:List Av)(d:Av->Option Bool)(a:FuncId)(b:List D)(R:Int)(h_p1:∀(a0:Av) r,d a0=some r->Ax prog a ([.d (AW a0)]++b.map .d) (.b r))(h:Co c d=some R),Ax prog 264 [.l 19 CG c,.d (.fn a b)] (.i R)):=⟨λc d a b R h_p1 h=>by
 refine uD func264 ?_;unfold Co at h;exact Aq⟩
instance slices_ContainsFunc_Lapi_Expr_api_Expr_w:CS prog 205 (∀(c:List Av)(d:Av->Option Bool)(a:FuncId)(b:List D)(R:Bool)(h_p1:∀(a0:Av) r,d a0=some r->Ax prog a ([.d (AW a0)]++b.map .d) (.b r))(h:Aw c d=some R),Ax prog 205 [.l 19 CG c,.d (.fn a b)] (.b R)):=⟨λc d a b R h_p1 h=>by
 refine uD func205 ?_;unfold Aw at h;refine Fx h (λ_=>slices_IndexFunc_Lapi_Expr_api_Expr_w.h _ _ _ _ _ h_p1) λe h=>?_;exact Aq⟩
instance program_fields_w:CS prog 259 (W1 prog 259 Kq):=⟨λa R h=>by
 refine WA [25] func259 ?_;unfold Kq at h;refine Gj {p:Unit // O7=some R} (λp=>Dk 38 [(2,.ptr 2 1 0)] [(2,.var [.b false,.b false,.b false,.b false,.b false,.b false,.b false],1)]) ?_ λp=>?_
 ·exact Aq
 obtain⟨_,h⟩:=p;exact Aq⟩
instance program_Pair_w:CS prog 262 (W1 prog 262 Ca):=⟨λa R h=>by
 refine uD func262 ?_;unfold Ca at h;exact Aq⟩
instance program_empty_w:CS prog 292 (W1 prog 292 Gz):=⟨λa R h=>by
 refine uD func292 ?_;unfold Gz at h;exact Aq⟩
instance program_unused_w:CS prog 260 (W2 prog 260 GM):=⟨λa b R h=>by
 refine uD func260 ?_;unfold GM at h;exact Aq⟩
instance program_measure_w:CS prog 293 (W2 prog 293 BX):=⟨λa b R h=>by
 refine uD func293 ?_;unfold BX at h;exact Aq⟩
instance program_dims_c1_w:CS prog 315 (∀(b:Ac)(a:Ac)(R:Bool)(h:Jr b a=some R),Ax prog 315 [.d (Ah b),.d (.ptr [(.j a.B),(.j a.J)])] (.b R)):=⟨λb a R h=>by
 refine uD func315 ?_;unfold Jr at h;exact Aq⟩
instance {a0 a1 a2}:LS (λa s=>Qu a0 a1 a2 a s) 42 [1,2,7,8] (λs=>[(9,.i s)]) [2] (λs=>[]):=⟨trivial⟩
instance program_dims_w:CS prog 294 (W2 prog 294 Ko):=⟨λa b R h=>by
 refine uD func294 ?_;unfold Ko at h;exact Aq⟩
instance {a0 a1 a2 a3}:LS (λa s=>Pv a0 a1 a2 a3 a s) 41 [1,2,3,9,10] (λs=>[(11,.i s)]) [3] (λs=>[]):=⟨trivial⟩
instance program_terms_w:CS prog 295 (W3 prog 295 Jb):=⟨λa b p2 R h=>by
 refine uD func295 ?_;unfold Jb at h;exact Aq⟩
instance program_part_w:CS prog 261 (W2 prog 261 MW):=⟨λa b R h=>by
 refine uD func261 ?_;unfold MW at h;exact Aq⟩
instance program_Number_w:CS prog 211 (W1 prog 211 Kn):=⟨λa R h=>by
 refine uD func211 ?_;unfold Kn at h;exact Aq⟩
theorem Vx(d:Nat)(b:Aa->Av->Option Bool)(ih:W2 prog 204 b)(a:Av->Aa->Option Bool)(ih1:∀(g:Av)(j:Aa)(R:Bool) ,a g j=some R->Ax prog 263 [.d (AW g),.d (.ptr [(Ao 2 Ai j.K),(Ao 7 Am j.A)])] (.b R)):W2 prog 204 (Hw d b a):=by
 intro g l R h;refine WA [4] func204 ?_;unfold Hw at h;refine Fx h (λ_=>program_fields_w.h _ _) λi h=>?_;refine Gj {p:Unit // II i d g l a=some R} (λp=>Dk 61 [(2,.ptr 2 1 0),(3,.ptr 3 1 0),(5,.ptr 5 1 0)] [(2,BN g,1),(3,ZI l,1),(5,VE i.1,1)]) ?_ λp=>?_
 ·exact Aq
 obtain⟨_,h⟩:=p;simp only[II]at h;refine EA h (λh=>?_) λh=>?_
 ·refine Fx h (λ_=>condition_Check_w.h _ _ _ _) λm h=>?_;refine EA h (λh=>?_) λh=>?_
  ·exact Aq
  refine EA h (λh=>?_) λh=>?_
  ·refine BD h λk e h=>?_;refine A4 (condition_Check_w.h _ _ _ _ e) ?_;refine EA h (λh=>?_) λh=>?_
   ·exact Aq
   conv=>whnf
   refine BD h λf c h=>?_;refine A4 (program_Pair_w.h _ _ c) ?_;refine EA h (λh=>?_) λh=>?_
   ·exact Aq
   exact z18
  refine BD h λf c h=>?_;refine A4 (program_Pair_w.h _ _ c) ?_;refine EA h (λh=>?_) λh=>?_
  ·exact Aq
  exact z18
 refine EA h (λh=>?_) λh=>?_
 ·refine BD h λk e h=>?_;refine A4 (condition_Check_w.h _ _ _ _ e) ?_;refine EA h (λh=>?_) λh=>?_
  ·exact Aq
  conv=>whnf
  refine BD h λf c h=>?_;refine A4 (program_Pair_w.h _ _ c) ?_;refine EA h (λh=>?_) λh=>?_
  ·exact Aq
  exact z18
 refine BD h λf c h=>?_;refine A4 (program_Pair_w.h _ _ c) ?_;refine EA h (λh=>?_) λh=>?_
 ·exact Aq
 exact z18
theorem Sg(d:Nat)(b:Aa->Av->Option Bool)(ih:W2 prog 204 b)(a:Av->Aa->Option Bool)(ih1:∀(e:Av)(c:Aa)(R:Bool) ,a e c=some R->Ax prog 263 [.d (AW e),.d (.ptr [(Ao 2 Ai c.K),(Ao 7 Am c.A)])] (.b R))(e:Av)(c:Aa)(R:Bool)(h:JA d b a e c=some R):Ax prog 263 [.d (AW e),.d (.ptr [(Ao 2 Ai c.K),(Ao 7 Am c.A)])] (.b R):=by
 refine uD func263 ?_;unfold JA at h;exact Aq
theorem Dt:∀d:Nat,(W2 prog 204 (Fe d))/\(∀(b:Av)(a:Aa)(R:Bool) ,Fu d b a=some R->Ax prog 263 [.d (AW b),.d (.ptr [(Ao 2 Ai a.K),(Ao 7 Am a.A)])] (.b R))
 | 0=>by
  refine⟨?_,?_⟩<;>((repeat intro _);rename_i h;cases h)
 | d+1=>by
  have ih:=Dt d;exact⟨Vx d _ (ih).1 _ (ih).2,Sg d _ (ih).1 _ (ih).2⟩
instance program_right_w:CS prog 204 (∀(d:Nat),W2 prog 204 (Fe d)):=⟨λd=>(Dt d).1⟩
instance program_right_c1_w:CS prog 263 (∀(d:Nat),∀(b:Av)(a:Aa)(R:Bool) ,Fu d b a=some R->Ax prog 263 [.d (AW b),.d (.ptr [(Ao 2 Ai a.K),(Ao 7 Am a.A)])] (.b R)):=⟨λd=>(Dt d).2⟩
instance program_Right_w:CS prog 138 (∀d:Nat,W2 prog 138 (Ez d)):=⟨λd a b R h=>by
 refine uD func138 ?_;unfold Ez at h;exact Aq⟩
theorem Vw(d:Nat)(b:Av->(ByteArray->Option Bool)->Option Bool)(ih:∀(f:Av)(j:ByteArray->Option Bool)(c:FuncId)(e:List D)(R:Bool)(h_p1:∀(a0:ByteArray) r,j a0=some r->Ax prog c ([.t a0]++e.map .d) (.b r)),b f j=some R->Ax prog 139 [.d (AW f),.d (.fn c e)] (.b R))(a:Av->(ByteArray->Option Bool)->Option Bool)(ih1:∀(f:Av)(k:ByteArray->Option Bool)(g:FuncId)(i:List D)(R:Bool)(l:∀(a0:ByteArray) r,k a0=some r->Ax prog g ([.t a0]++i.map .d) (.b r)),a f k=some R->Ax prog 206 [.d (AW f),.d (.ptr [.fn g i])] (.b R))(f:Av)(j:ByteArray->Option Bool)(c:FuncId)(e:List D)(R:Bool)(h_p1:∀(a0:ByteArray) r,j a0=some r->Ax prog c ([.t a0]++e.map .d) (.b r))(h:Hv d b a f j=some R):Ax prog 139 [.d (AW f),.d (.fn c e)] (.b R):=by
 refine uD func139 ?_;unfold Hv at h;refine EA h (λh=>?_) λh=>?_
 ·conv=>whnf
  rw[Ub];refine Fx h (λ_=>h_p1 _ _) λm h=>?_;refine EA h (λh=>?_) λh=>?_
  ·exact Aq
  conv=>whnf
  exact z28
 exact z28
theorem Sf(d:Nat)(b:Av->(ByteArray->Option Bool)->Option Bool)(ih:∀(g:Av)(m:ByteArray->Option Bool)(i:FuncId)(j:List D)(R:Bool)(h_p1:∀(a0:ByteArray) r,m a0=some r->Ax prog i ([.t a0]++j.map .d) (.b r)),b g m=some R->Ax prog 139 [.d (AW g),.d (.fn i j)] (.b R))(a:Av->(ByteArray->Option Bool)->Option Bool)(ih1:∀(g:Av)(k:ByteArray->Option Bool)(c:FuncId)(e:List D)(R:Bool)(f:∀(a0:ByteArray) r,k a0=some r->Ax prog c ([.t a0]++e.map .d) (.b r)),a g k=some R->Ax prog 206 [.d (AW g),.d (.ptr [.fn c e])] (.b R))(g:Av)(k:ByteArray->Option Bool)(c:FuncId)(e:List D)(R:Bool)(f:∀(a0:ByteArray) r,k a0=some r->Ax prog c ([.t a0]++e.map .d) (.b r))(h:J9 d b a g k=some R):Ax prog 206 [.d (AW g),.d (.ptr [.fn c e])] (.b R):=by
 refine uD func206 ?_;unfold J9 at h
 conv=>whnf
 refine BD h λn l h=>?_
 first|refine A4 (ih _ _ _ _ _ f l) ?_|(simp only[ua];refine A4 (ih _ _ _ _ _ f l) ?_)
 exact Aq
theorem Dr:∀d:Nat,(∀(f:Av)(g:ByteArray->Option Bool)(a:FuncId)(b:List D)(R:Bool)(h_p1:∀(a0:ByteArray) r,g a0=some r->Ax prog a ([.t a0]++b.map .d) (.b r)),G0 d f g=some R->Ax prog 139 [.d (AW f),.d (.fn a b)] (.b R))/\(∀(f:Av)(i:ByteArray->Option Bool)(c:FuncId)(e:List D)(R:Bool)(j:∀(a0:ByteArray) r,i a0=some r->Ax prog c ([.t a0]++e.map .d) (.b r)),Ft d f i=some R->Ax prog 206 [.d (AW f),.d (.ptr [.fn c e])] (.b R))
 | 0=>by
  refine⟨?_,?_⟩<;>((repeat intro _);rename_i h;cases h)
 | d+1=>by
  have ih:=Dr d;exact⟨Vw d _ (ih).1 _ (ih).2,Sf d _ (ih).1 _ (ih).2⟩
instance program_named_w:CS prog 139 (∀(d:Nat),∀(c:Av)(e:ByteArray->Option Bool)(a:FuncId)(b:List D)(R:Bool)(h_p1:∀(a0:ByteArray) r,e a0=some r->Ax prog a ([.t a0]++b.map .d) (.b r)),G0 d c e=some R->Ax prog 139 [.d (AW c),.d (.fn a b)] (.b R)):=⟨λd=>(Dr d).1⟩
instance program_named_c1_w:CS prog 206 (∀(d:Nat),∀(c:Av)(e:ByteArray->Option Bool)(a:FuncId)(b:List D)(R:Bool)(f:∀(a0:ByteArray) r,e a0=some r->Ax prog a ([.t a0]++b.map .d) (.b r)),Ft d c e=some R->Ax prog 206 [.d (AW c),.d (.ptr [.fn a b])] (.b R)):=⟨λd=>(Dr d).2⟩
instance program_checkOne_w:CS prog 82 (∀d:Nat,W3 prog 82 (IG d)):=⟨λd a b p2 R h=>by
 refine uD func82 ?_;unfold IG at h;exact Aq⟩
instance {a0 a1 a2 a3}:LS (λa s=>Pt a0 a1 a2 a3 a s) 38 [1,2,18,19] (λs=>[(20,.i s)]) [2] (λs=>[]):=⟨trivial⟩
instance program_Check_w:CS prog 40 (∀d:Nat,W2 prog 40 (H7 d)):=⟨λd a b R h=>by
 refine uD func40 ?_;unfold H7 at h;exact Aq⟩
instance condition_Covers_c1_c1_w:CS prog 208 (∀(b:Ac)(a:Ac)(R:Bool)(h:EX b a=some R),Ax prog 208 [.d (Ah b),.d (.ptr [(.j a.B),(.j a.J)])] (.b R)):=⟨λb a R h=>by
 refine uD func208 ?_;unfold EX at h;exact Aq⟩
instance condition_Covers_c1_w:CS prog 207 (∀(a:Ac)(b:List Ac)(R:Bool)(h:G5 a b=some R),Ax prog 207 [.d (Ah a),.d (.ptr [(Ao 2 Ah b)])] (.b R)):=⟨λa b R h=>by
 refine uD func207 ?_;unfold G5 at h;exact Aq⟩
instance condition_Covers_w:CS prog 140 (W2 prog 140 B5):=⟨λa b R h=>by
 refine uD func140 ?_;unfold B5 at h;exact Aq⟩
