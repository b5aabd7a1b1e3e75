/- P3W2 -/
import Derived.Test.YthchnhoalhbkcaaGreatDoorP3W1
open Go.Proofs.Tryz
set_option linter.unusedSimpArgs false
set_option linter.unusedVariables false
namespace Go.Proofs.YthchnhoalhbkcaaGreatDoor.P
open Go.Abs Go.Proofs
set_option maxRecDepth 100000
set_option maxHeartbeats 4000000
instance condition_checkOne_w:CS prog 242 (W2 prog 242 EH):=⟨λp0 p1 R h=>by
 refine Uv [9] func242 ?_;unfold EH at h;refine Fl {p:Unit // D1 p0 p1=some R} (λp=>CJ 113 [(2,.ptr 2 1 0),(3,.ptr 3 1 0)] [(2,Bh p0,1),(3,OU p1,1)]) ?_ λp=>?_
 ·exact Ao
 obtain⟨_,h⟩:=p;exact Ao⟩
instance {a0 a1 a2 a3}:LS (λrec1 s=>Ff a0 a1 a2 a3 rec1 s) 29 [2,16,17] (λs=>[(18,.d (.int .i64 s))]) [2] (λs=>[]):=⟨trivial⟩
theorem Qb(d:Nat)(self_condition_checkAll:Aa->Aj->Option Int)(ih:W2 prog 174 self_condition_checkAll):W2 prog 174 (DN d self_condition_checkAll):=by
 intro p0 p1 R h;refine uD func174 ?_;unfold DN at h;exact Ao
theorem K3:∀d:Nat,(W2 prog 174 (D6 d))
 | 0=>by
  exact z17
 | d+1=>by
  have ih:=K3 d;exact Qb d _ ih
instance condition_checkAll_w:CS prog 174 (∀(d:Nat),W2 prog 174 (D6 d)):=⟨λd=>K3 d⟩
instance condition_Check_w:CS prog 104 (∀d:Nat,W2 prog 104 (BG d)):=⟨λd p0 p1 R h=>by
 refine uD func104 ?_;unfold BG at h;exact Ao⟩
instance {a0 a1 a2}:LS (λrec1 s=>DZ a0 a1 a2 rec1 s) 19 [0,1,7] (λs=>[(8,.d (.int .i64 s))]) [] (λs=>[]):=⟨trivial⟩
instance slices_IndexFunc_Lapi_Expr_api_Expr_w:CS prog 241 (∀(p0:List Ap)(p1:Ap->Option Bool)(f_p1:FuncId)(c_p1:List D)(R:Int)(h_p1:∀(a0:Ap) r,p1 a0=some r->Ax prog f_p1 ([.d (AO a0)]++c_p1.map .d) (.d (.bool r)))(h:BZ p0 p1=some R),Ax prog 241 [.d (An 19 Cg p0),.d (.fn f_p1 c_p1)] (.d (.int .i64 R))):=⟨λp0 p1 f_p1 c_p1 R h_p1 h=>by
 refine uD func241 ?_;unfold BZ at h;exact Ao⟩
instance slices_ContainsFunc_Lapi_Expr_api_Expr_w:CS prog 170 (∀(p0:List Ap)(p1:Ap->Option Bool)(f_p1:FuncId)(c_p1:List D)(R:Bool)(h_p1:∀(a0:Ap) r,p1 a0=some r->Ax prog f_p1 ([.d (AO a0)]++c_p1.map .d) (.d (.bool r)))(h:Av p0 p1=some R),Ax prog 170 [.d (An 19 Cg p0),.d (.fn f_p1 c_p1)] (.d (.bool R))):=⟨λp0 p1 f_p1 c_p1 R h_p1 h=>by
 refine uD func170 ?_;unfold Av at h;refine FV h (λ_=>slices_IndexFunc_Lapi_Expr_api_Expr_w.h _ _ _ _ _ h_p1) λx7 h=>?_;exact Ao⟩
instance program_fields_w:CS prog 210 (W1 prog 210 JP):=⟨λp0 R h=>by
 refine Uv [25] func210 ?_;unfold JP at h;refine Fl {p:Unit // NJ=some R} (λp=>CJ 38 [(2,.ptr 2 1 0)] [(2,.var [.d (.bool false),.d (.bool false),.d (.bool false),.d (.bool false),.d (.bool false),.d (.bool false),.d (.bool false)],1)]) ?_ λp=>?_
 ·exact Ao
 obtain⟨_,h⟩:=p;exact Ao⟩
instance program_Pair_w:CS prog 213 (W1 prog 213 B8):=⟨λp0 R h=>by
 refine uD func213 ?_;unfold B8 at h;exact Ao⟩
instance program_empty_w:CS prog 269 (W1 prog 269 FM):=⟨λp0 R h=>by
 refine uD func269 ?_;unfold FM at h;exact Ao⟩
instance program_unused_w:CS prog 211 (W2 prog 211 Gp):=⟨λp0 p1 R h=>by
 refine uD func211 ?_;unfold Gp at h;exact Ao⟩
instance {a0 a1 a2}:LS (λrec1 s=>IH a0 a1 a2 rec1 s) 19 [0,1,7] (λs=>[(8,.d (.int .i64 s))]) [] (λs=>[]):=⟨trivial⟩
instance slices_Index_Lint_int_w:CS prog 196 (W2 prog 196 Ck):=⟨λp0 p1 R h=>by
 refine uD func196 ?_;unfold Ck at h;exact Ao⟩
instance slices_Contains_Lint_int_w:CS prog 118 (W2 prog 118 AU):=⟨λp0 p1 R h=>by
 refine uD func118 ?_;unfold AU at h;exact Ao⟩
instance program_measure_w:CS prog 270 (W2 prog 270 BJ):=⟨λp0 p1 R h=>by
 refine uD func270 ?_;unfold BJ at h;exact Ao⟩
instance {a0 a1 a2}:LS (λrec1 s=>Ea a0 a1 a2 rec1 s) 19 [0,1,7] (λs=>[(8,.d (.int .i64 s))]) [] (λs=>[]):=⟨trivial⟩
instance slices_IndexFunc_Lapi_Pick_api_Pick_w:CS prog 186 (∀(p0:List Ad)(p1:Ad->Option Bool)(f_p1:FuncId)(c_p1:List D)(R:Int)(h_p1:∀(a0:Ad) r,p1 a0=some r->Ax prog f_p1 ([.d (Ag a0)]++c_p1.map .d) (.d (.bool r)))(h:Bg p0 p1=some R),Ax prog 186 [.d (An 2 Ag p0),.d (.fn f_p1 c_p1)] (.d (.int .i64 R))):=⟨λp0 p1 f_p1 c_p1 R h_p1 h=>by
 refine uD func186 ?_;unfold Bg at h;exact Ao⟩
instance slices_ContainsFunc_Lapi_Pick_api_Pick_w:CS prog 134 (∀(p0:List Ad)(p1:Ad->Option Bool)(f_p1:FuncId)(c_p1:List D)(R:Bool)(h_p1:∀(a0:Ad) r,p1 a0=some r->Ax prog f_p1 ([.d (Ag a0)]++c_p1.map .d) (.d (.bool r)))(h:AF p0 p1=some R),Ax prog 134 [.d (An 2 Ag p0),.d (.fn f_p1 c_p1)] (.d (.bool R))):=⟨λp0 p1 f_p1 c_p1 R h_p1 h=>by
 refine uD func134 ?_;unfold AF at h;refine FV h (λ_=>slices_IndexFunc_Lapi_Pick_api_Pick_w.h _ _ _ _ _ h_p1) λx7 h=>?_;exact Ao⟩
instance schema_Pick_w:CS prog 294 (W2 prog 294 LC):=⟨λp0 p1 R h=>by
 refine uD func294 ?_;unfold LC at h;exact Ao⟩
instance program_dims_c1_w:CS prog 310 (∀(p0:Ad)(q0:Ad)(R:Bool)(h:IT p0 q0=some R),Ax prog 310 [.d (Ag p0),.d (.ptr [(.int .i64 q0.B),(.int .i64 q0.S)])] (.d (.bool R))):=⟨λp0 q0 R h=>by
 refine uD func310 ?_;unfold IT at h;exact Ao⟩
instance {a0 a1 a2}:LS (λrec1 s=>PT a0 a1 a2 rec1 s) 42 [1,2,7,8] (λs=>[(9,.d (.int .i64 s))]) [2] (λs=>[]):=⟨trivial⟩
instance program_dims_w:CS prog 271 (W2 prog 271 JO):=⟨λp0 p1 R h=>by
 refine uD func271 ?_;unfold JO at h;exact Ao⟩
instance {a0 a1 a2 a3}:LS (λrec1 s=>OE a0 a1 a2 a3 rec1 s) 41 [1,2,3,9,10] (λs=>[(11,.d (.int .i64 s))]) [3] (λs=>[]):=⟨trivial⟩
instance program_terms_w:CS prog 272 (W3 prog 272 IA):=⟨λp0 p1 p2 R h=>by
 refine uD func272 ?_;unfold IA at h;exact Ao⟩
instance program_part_w:CS prog 212 (W2 prog 212 Mn):=⟨λp0 p1 R h=>by
 refine uD func212 ?_;unfold Mn at h;exact Ao⟩
instance program_Number_w:CS prog 139 (W1 prog 139 DX):=⟨λp0 R h=>by
 refine uD func139 ?_;unfold DX at h;exact Ao⟩
theorem UH(d:Nat)(self_program_right:Aa->Ap->Option Bool)(ih:W2 prog 133 self_program_right)(self_program_right_c1:Ap->Aa->Option Bool)(ih1:∀(p0:Ap)(q0:Aa)(R:Bool) ,self_program_right_c1 p0 q0=some R->Ax prog 214 [.d (AO p0),.d (.ptr [(An 2 Ah q0.J),(An 7 Al q0.A)])] (.d (.bool R))):W2 prog 133 (GU d self_program_right self_program_right_c1):=by
 intro p0 p1 R h;refine Uv [4] func133 ?_;unfold GU at h;refine FV h (λ_=>program_fields_w.h _ _) λx10 h=>?_;refine Fl {p:Unit // Iu x10 d p0 p1 self_program_right_c1=some R} (λp=>CJ 61 [(2,.ptr 2 1 0),(3,.ptr 3 1 0),(5,.ptr 5 1 0)] [(2,Bh p0,1),(3,UV p1,1),(5,UU x10.1,1)]) ?_ λp=>?_
 ·exact Ao
 obtain⟨_,h⟩:=p;simp only[Iu]at h;refine DI h (λh=>?_) λh=>?_
 ·refine FV h (λ_=>condition_Check_w.h _ _ _ _) λx33 h=>?_;refine DI h (λh=>?_) λh=>?_
  ·exact Ao
  refine DI h (λh=>?_) λh=>?_
  ·refine Bp h λx43 hx43 h=>?_;refine A0 (condition_Check_w.h _ _ _ _ hx43) ?_;refine DI h (λh=>?_) λh=>?_
   ·exact Ao
   conv=>whnf
   refine Bp h λx49 hx49 h=>?_;refine A0 (program_Pair_w.h _ _ hx49) ?_;refine DI h (λh=>?_) λh=>?_
   ·exact Ao
   exact z19
  refine Bp h λx49 hx49 h=>?_;refine A0 (program_Pair_w.h _ _ hx49) ?_;refine DI h (λh=>?_) λh=>?_
  ·exact Ao
  exact z19
 refine DI h (λh=>?_) λh=>?_
 ·refine Bp h λx43 hx43 h=>?_;refine A0 (condition_Check_w.h _ _ _ _ hx43) ?_;refine DI h (λh=>?_) λh=>?_
  ·exact Ao
  conv=>whnf
  refine Bp h λx49 hx49 h=>?_;refine A0 (program_Pair_w.h _ _ hx49) ?_;refine DI h (λh=>?_) λh=>?_
  ·exact Ao
  exact z19
 refine Bp h λx49 hx49 h=>?_;refine A0 (program_Pair_w.h _ _ hx49) ?_;refine DI h (λh=>?_) λh=>?_
 ·exact Ao
 exact z19
theorem R4(d:Nat)(self_program_right:Aa->Ap->Option Bool)(ih:W2 prog 133 self_program_right)(self_program_right_c1:Ap->Aa->Option Bool)(ih1:∀(p0:Ap)(q0:Aa)(R:Bool) ,self_program_right_c1 p0 q0=some R->Ax prog 214 [.d (AO p0),.d (.ptr [(An 2 Ah q0.J),(An 7 Al q0.A)])] (.d (.bool R)))(p0:Ap)(q0:Aa)(R:Bool)(h:EW d self_program_right self_program_right_c1 p0 q0=some R):Ax prog 214 [.d (AO p0),.d (.ptr [(An 2 Ah q0.J),(An 7 Al q0.A)])] (.d (.bool R)):=by
 refine uD func214 ?_;unfold EW at h;exact Ao
theorem CZ:∀d:Nat,(W2 prog 133 (BY d))/\(∀(p0:Ap)(q0:Aa)(R:Bool) ,DC d p0 q0=some R->Ax prog 214 [.d (AO p0),.d (.ptr [(An 2 Ah q0.J),(An 7 Al q0.A)])] (.d (.bool R)))
 | 0=>by
  refine⟨?_,?_⟩<;>((repeat intro _);rename_i h;cases h)
 | d+1=>by
  have ih:=CZ d;exact⟨UH d _ (ih).1 _ (ih).2,R4 d _ (ih).1 _ (ih).2⟩
instance program_right_w:CS prog 133 (∀(d:Nat),W2 prog 133 (BY d)):=⟨λd=>(CZ d).1⟩
instance program_right_c1_w:CS prog 214 (∀(d:Nat),∀(p0:Ap)(q0:Aa)(R:Bool) ,DC d p0 q0=some R->Ax prog 214 [.d (AO p0),.d (.ptr [(An 2 Ah q0.J),(An 7 Al q0.A)])] (.d (.bool R))):=⟨λd=>(CZ d).2⟩
end Go.Proofs.YthchnhoalhbkcaaGreatDoor.P
