/- P3W2 -/
import Derived.Test.YtkjijhldfdplgaaGreatDoorP3W1
open Go.Proofs.Tryz
set_option linter.all false
namespace Go.Proofs.YtkjijhldfdplgaaGreatDoor.P
open Go.Abs Go.Proofs
set_option maxRecDepth 100000
set_option maxHeartbeats 4000000
instance condition_checkOne_w:CS prog 261 (W2 prog 261 Fv):=⟨λa b R h=>by
 refine Xr [9] func261 ?_;unfold Fv at h;refine F3 {p:Unit // Ej a b=some R} (λp=>CY 113 [(2,.ptr 2 1 0),(3,.ptr 3 1 0)] [(2,Cg a,1),(3,PX b,1)]) ?_ λp=>?_
 ·exact As
 obtain⟨_,h⟩:=p;exact As⟩
instance {a0 a1 a2 a3}:LS (λa s=>FF a0 a1 a2 a3 a s) 29 [2,16,17] (λs=>[(18,.i s)]) [2] (λs=>[]):=⟨trivial⟩
theorem QU(d:Nat)(a:Aa->Ah->Option Int)(ih:W2 prog 195 a):W2 prog 195 (E0 d a):=by
 intro b c R h;refine uD func195 ?_;unfold E0 at h;exact As
theorem Li:∀d:Nat,(W2 prog 195 (Em d))
 | 0=>by
  exact z16
 | d+1=>by
  have ih:=Li d;exact QU d _ ih
instance condition_checkAll_w:CS prog 195 (∀(d:Nat),W2 prog 195 (Em d)):=⟨λd=>Li d⟩
instance condition_Check_w:CS prog 121 (∀d:Nat,W2 prog 121 (BK d)):=⟨λd a b R h=>by
 refine uD func121 ?_;unfold BK at h;exact As⟩
instance program_fields_w:CS prog 181 (W1 prog 181 Kx):=⟨λa R h=>by
 refine Xr [25] func181 ?_;unfold Kx at h;refine F3 {p:Unit // OE=some R} (λp=>CY 38 [(2,.ptr 2 1 0)] [(2,.var [.b false,.b false,.b false,.b false,.b false,.b false,.b false],1)]) ?_ λp=>?_
 ·exact As
 obtain⟨_,h⟩:=p;exact As⟩
instance program_Pair_w:CS prog 184 (W1 prog 184 BF):=⟨λa R h=>by
 refine uD func184 ?_;unfold BF at h;exact As⟩
instance program_empty_w:CS prog 252 (W1 prog 252 G1):=⟨λa R h=>by
 refine uD func252 ?_;unfold G1 at h;exact As⟩
instance program_unused_w:CS prog 182 (W2 prog 182 GQ):=⟨λa b R h=>by
 refine uD func182 ?_;unfold GQ at h;exact As⟩
instance {a0 a1 a2}:LS (λa s=>Ez a0 a1 a2 a s) 19 [0,1,7] (λs=>[(8,.i s)]) [] (λs=>[]):=⟨trivial⟩
instance slices_Index_Lint_int_w:CS prog 213 (W2 prog 213 Cd):=⟨λa b R h=>by
 refine uD func213 ?_;unfold Cd at h;exact As⟩
instance slices_Contains_Lint_int_w:CS prog 134 (W2 prog 134 AP):=⟨λa b R h=>by
 refine uD func134 ?_;unfold AP at h;exact As⟩
instance program_measure_w:CS prog 253 (W2 prog 253 BO):=⟨λa b R h=>by
 refine uD func253 ?_;unfold BO at h;exact As⟩
instance {a0 a1 a2}:LS (λa s=>E8 a0 a1 a2 a s) 19 [0,1,7] (λs=>[(8,.i s)]) [] (λs=>[]):=⟨trivial⟩
instance slices_IndexFunc_Lapi_Pick_api_Pick_w:CS prog 187 (∀(c:List Ac)(d:Ac->Option Bool)(a:FuncId)(b:List D)(R:Int)(h_p1:∀(a0:Ac) r,d a0=some r->Ay prog a ([.d (Ad a0)]++b.map .d) (.b r))(h:By c d=some R),Ay prog 187 [.l 2 Ad c,.d (.fn a b)] (.i R)):=⟨λc d a b R h_p1 h=>by
 refine uD func187 ?_;unfold By at h;exact As⟩
instance slices_ContainsFunc_Lapi_Pick_api_Pick_w:CS prog 114 (∀(c:List Ac)(d:Ac->Option Bool)(a:FuncId)(b:List D)(R:Bool)(h_p1:∀(a0:Ac) r,d a0=some r->Ay prog a ([.d (Ad a0)]++b.map .d) (.b r))(h:AI c d=some R),Ay prog 114 [.l 2 Ad c,.d (.fn a b)] (.b R)):=⟨λc d a b R h_p1 h=>by
 refine uD func114 ?_;unfold AI at h;refine E9 h (λ_=>slices_IndexFunc_Lapi_Pick_api_Pick_w.h _ _ _ _ _ h_p1) λe h=>?_;exact As⟩
instance schema_Pick_w:CS prog 293 (W2 prog 293 Mw):=⟨λa b R h=>by
 refine uD func293 ?_;unfold Mw at h;exact As⟩
instance program_dims_c1_w:CS prog 294 (∀(b:Ac)(a:Ac)(R:Bool)(h:J1 b a=some R),Ay prog 294 [.d (Ad b),.d (.ptr [(.j a.B),(.j a.T)])] (.b R)):=⟨λb a R h=>by
 refine uD func294 ?_;unfold J1 at h;exact As⟩
instance {a0 a1 a2}:LS (λa s=>QM a0 a1 a2 a s) 42 [1,2,7,8] (λs=>[(9,.i s)]) [2] (λs=>[]):=⟨trivial⟩
instance program_dims_w:CS prog 254 (W2 prog 254 Kw):=⟨λa b R h=>by
 refine uD func254 ?_;unfold Kw at h;exact As⟩
instance {a0 a1 a2 a3}:LS (λa s=>PG a0 a1 a2 a3 a s) 41 [1,2,3,9,10] (λs=>[(11,.i s)]) [3] (λs=>[]):=⟨trivial⟩
instance program_terms_w:CS prog 255 (W3 prog 255 Jn):=⟨λa b p2 R h=>by
 refine uD func255 ?_;unfold Jn at h;exact As⟩
instance program_part_w:CS prog 183 (W2 prog 183 MZ):=⟨λa b R h=>by
 refine uD func183 ?_;unfold MZ at h;exact As⟩
instance {a0 a1 a2}:LS (λa s=>E7 a0 a1 a2 a s) 19 [0,1,7] (λs=>[(8,.i s)]) [] (λs=>[]):=⟨trivial⟩
instance slices_IndexFunc_Lapi_Expr_api_Expr_w:CS prog 256 (∀(c:List Ar)(d:Ar->Option Bool)(a:FuncId)(b:List D)(R:Int)(h_p1:∀(a0:Ar) r,d a0=some r->Ay prog a ([.d (AR a0)]++b.map .d) (.b r))(h:Cm c d=some R),Ay prog 256 [.l 19 BY c,.d (.fn a b)] (.i R)):=⟨λc d a b R h_p1 h=>by
 refine uD func256 ?_;unfold Cm at h;exact As⟩
instance slices_ContainsFunc_Lapi_Expr_api_Expr_w:CS prog 185 (∀(c:List Ar)(d:Ar->Option Bool)(a:FuncId)(b:List D)(R:Bool)(h_p1:∀(a0:Ar) r,d a0=some r->Ay prog a ([.d (AR a0)]++b.map .d) (.b r))(h:Aw c d=some R),Ay prog 185 [.l 19 BY c,.d (.fn a b)] (.b R)):=⟨λc d a b R h_p1 h=>by
 refine uD func185 ?_;unfold Aw at h;refine E9 h (λ_=>slices_IndexFunc_Lapi_Expr_api_Expr_w.h _ _ _ _ _ h_p1) λe h=>?_;exact As⟩
instance program_Number_w:CS prog 120 (W1 prog 120 E5):=⟨λa R h=>by
 refine uD func120 ?_;unfold E5 at h;exact As⟩
theorem VR(d:Nat)(b:Aa->Ar->Option Bool)(ih:W2 prog 113 b)(a:Ar->Aa->Option Bool)(ih1:∀(g:Ar)(j:Aa)(R:Bool) ,a g j=some R->Ay prog 186 [.d (AR g),.d (.ptr [(Am 2 Ae j.K),(Am 7 Ak j.A)])] (.b R)):W2 prog 113 (HQ d b a):=by
 intro g l R h;refine Xr [4] func113 ?_;unfold HQ at h;refine E9 h (λ_=>program_fields_w.h _ _) λi h=>?_;refine F3 {p:Unit // IZ i d g l a=some R} (λp=>CY 61 [(2,.ptr 2 1 0),(3,.ptr 3 1 0),(5,.ptr 5 1 0)] [(2,Cg g,1),(3,Wd l,1),(5,Wc i.1,1)]) ?_ λp=>?_
 ·exact As
 obtain⟨_,h⟩:=p;simp only[IZ]at h;refine Do h (λh=>?_) λh=>?_
 ·refine E9 h (λ_=>condition_Check_w.h _ _ _ _) λm h=>?_;refine Do h (λh=>?_) λh=>?_
  ·exact As
  refine Do h (λh=>?_) λh=>?_
  ·refine Bi h λk e h=>?_;refine A3 (condition_Check_w.h _ _ _ _ e) ?_;refine Do h (λh=>?_) λh=>?_
   ·exact As
   conv=>whnf
   refine Bi h λf c h=>?_;refine A3 (program_Pair_w.h _ _ c) ?_;refine Do h (λh=>?_) λh=>?_
   ·exact As
   exact z19
  refine Bi h λf c h=>?_;refine A3 (program_Pair_w.h _ _ c) ?_;refine Do h (λh=>?_) λh=>?_
  ·exact As
  exact z19
 refine Do h (λh=>?_) λh=>?_
 ·refine Bi h λk e h=>?_;refine A3 (condition_Check_w.h _ _ _ _ e) ?_;refine Do h (λh=>?_) λh=>?_
  ·exact As
  conv=>whnf
  refine Bi h λf c h=>?_;refine A3 (program_Pair_w.h _ _ c) ?_;refine Do h (λh=>?_) λh=>?_
  ·exact As
  exact z19
 refine Bi h λf c h=>?_;refine A3 (program_Pair_w.h _ _ c) ?_;refine Do h (λh=>?_) λh=>?_
 ·exact As
 exact z19
theorem SU(d:Nat)(b:Aa->Ar->Option Bool)(ih:W2 prog 113 b)(a:Ar->Aa->Option Bool)(ih1:∀(e:Ar)(c:Aa)(R:Bool) ,a e c=some R->Ay prog 186 [.d (AR e),.d (.ptr [(Am 2 Ae c.K),(Am 7 Ak c.A)])] (.b R))(e:Ar)(c:Aa)(R:Bool)(h:F6 d b a e c=some R):Ay prog 186 [.d (AR e),.d (.ptr [(Am 2 Ae c.K),(Am 7 Ak c.A)])] (.b R):=by
 refine uD func186 ?_;unfold F6 at h;exact As
theorem D1:∀d:Nat,(W2 prog 113 (Cl d))/\(∀(b:Ar)(a:Aa)(R:Bool) ,Eu d b a=some R->Ay prog 186 [.d (AR b),.d (.ptr [(Am 2 Ae a.K),(Am 7 Ak a.A)])] (.b R))
 | 0=>by
  refine⟨?_,?_⟩<;>((repeat intro _);rename_i h;cases h)
 | d+1=>by
  have ih:=D1 d;exact⟨VR d _ (ih).1 _ (ih).2,SU d _ (ih).1 _ (ih).2⟩
instance program_right_w:CS prog 113 (∀(d:Nat),W2 prog 113 (Cl d)):=⟨λd=>(D1 d).1⟩
instance program_right_c1_w:CS prog 186 (∀(d:Nat),∀(b:Ar)(a:Aa)(R:Bool) ,Eu d b a=some R->Ay prog 186 [.d (AR b),.d (.ptr [(Am 2 Ae a.K),(Am 7 Ak a.A)])] (.b R)):=⟨λd=>(D1 d).2⟩
