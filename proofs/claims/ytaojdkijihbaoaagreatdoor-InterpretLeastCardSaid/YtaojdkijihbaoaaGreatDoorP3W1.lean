/- P3W1 -/
import Derived.Test.YtaojdkijihbaoaaGreatDoorP3HW
open Go.Proofs.Tryz
set_option linter.all false
namespace Go.Proofs.YtaojdkijihbaoaaGreatDoor.P
open Go.Abs Go.Proofs
set_option maxRecDepth 100000
set_option maxHeartbeats 4000000
instance {a0 a1}:LS (λa s=>Sv a0 a1 a s) 62 [0,24,25] (λs=>[(26,.i s)]) [] (λs=>[]):=⟨trivial⟩
instance codes_Name_w:CS prog 75 (W1 prog 75 Bz):=⟨λa R h=>by
 refine WA [3,9] func75 ?_;unfold Bz at h;refine Gj {p:Unit // OH a=some R} (λp=>Dk 62 [(0,.t a)] []) ?_ λp=>?_
 ·exact Aq
 obtain⟨_,h⟩:=p;simp only[OH]at h;refine Gj {p:Unit // Sw a=some R} (λp=>Dk 62 [(0,.t a)] []) ?_ λp=>?_
 ·exact Aq
 obtain⟨_,h⟩:=p;exact Aq⟩
instance {a0 a1}:LS (λa s=>Qj a0 a1 a s.1 s.2) 31 [3,11,12] (λs=>[(13,.i s.1)]) [] (λs=>[(9,.row 1 3 (List.map D.z s.2),1)]):=⟨trivial⟩
instance codes_depths_w:CS prog 186 (W1 prog 186 GW):=⟨λa R h=>by
 refine uD func186 ?_;unfold GW at h;exact Aq⟩
instance {a0 a1 a2}:LS (λa s=>QA a0 a1 a2 a s.1 s.2) 102 [4,82,83] (λs=>[(7,.i s.1),(84,.i s.2)]) [29] (λs=>[]):=⟨trivial⟩
instance codes_Check_w:CS prog 120 (W1 prog 120 GR):=⟨λc R h=>by
 refine WA [21] func120 ?_;unfold GR at h;refine Fx h (λ_=>codes_Name_w.h _ _) λi h=>?_;refine EA h (λh=>?_) λh=>?_
 ·exact Aq
 refine EA h (λh=>?_) λh=>?_
 ·exact Aq
 refine EA h (λh=>?_) λh=>?_
 ·exact Aq
 conv=>whnf
 refine z13 ?_
 conv=>whnf
 refine S3 h λhr h=>?_;refine z11 ?_
 try rw[pF]
 refine Gj {p:(List Bool) // QB c p=some R} (λp=>Dk 102 [(1,.ptr 1 1 0),(4,.sl 29 1)] [(1,KZ c,1),(29,.row 1 4 (List.map D.bool p.1),1)]) ?_ λp=>?_
 ·conv=>whnf
  refine z7 h (λp=>Dk 102 [(1,.ptr 1 1 0),(3,.sl 25 1),(4,.sl 29 1),(31,.l 2 E4 c.Q),(32,.i (c.Q.length:Int)),(33,.i p.1)] [(1,KZ c,1),(25,.map (q7 D.bool p.2.1),1),(29,.row 1 4 (List.map D.bool p.2.2),1)]) EB λ_ _ ⟨d,a,e⟩ h=>?_;simp only[Q9]at h;refine EA h (λh=>?_) λh=>?_
  ·refine Sk (f:=E4) h λb _ h=>?_;refine Fx h (λ_=>codes_Name_w.h _ _) λj h=>?_;refine EA h (λh=>?_) λh=>?_
   ·exact Aq
   conv=>whnf
   refine⟨⟨by kernel_rfl,dh D.bool b.I a⟩,?_⟩
   conv=>whnf
   refine mM (f:=D.bool) (es:=a) (z:=false) ?_;refine EA h (λh=>?_) λh=>?_
   ·exact Aq
   refine EA h (λh=>?_) λh=>?_
   ·exact Aq
   conv=>whnf
   refine⟨⟨by rfl,by kernel_rfl,dh D.bool b.I a⟩,?_⟩
   conv=>whnf
   try rw[jh D.bool b.I true]
   exact Aq
  exact Aq
 obtain⟨g,h⟩:=p;exact Aq⟩
instance {a0 a1 a2}:LS (λa s=>Da a0 a1 a2 a s) 19 [0,1,7] (λs=>[(8,.i s)]) [] (λs=>[]):=⟨trivial⟩
instance slices_IndexFunc_Lapi_CodeList_api_CodeList_w:CS prog 187 (∀(c:List Aj)(d:Aj->Option Bool)(a:FuncId)(b:List D)(R:Int)(h_p1:∀(a0:Aj) r,d a0=some r->Ax prog a ([.d (Ai a0)]++b.map .d) (.b r))(h:BB c d=some R),Ax prog 187 [.l 2 Ai c,.d (.fn a b)] (.i R)):=⟨λc d a b R h_p1 h=>by
 refine uD func187 ?_;unfold BB at h;exact Aq⟩
instance slices_ContainsFunc_Lapi_CodeList_api_CodeList_w:CS prog 121 (∀(c:List Aj)(d:Aj->Option Bool)(a:FuncId)(b:List D)(R:Bool)(h_p1:∀(a0:Aj) r,d a0=some r->Ax prog a ([.d (Ai a0)]++b.map .d) (.b r))(h:Bd c d=some R),Ax prog 121 [.l 2 Ai c,.d (.fn a b)] (.b R)):=⟨λc d a b R h_p1 h=>by
 refine uD func121 ?_;unfold Bd at h;refine Fx h (λ_=>slices_IndexFunc_Lapi_CodeList_api_CodeList_w.h _ _ _ _ _ h_p1) λe h=>?_;exact Aq⟩
instance schema_Check_c1_w:CS prog 122 (∀(b:Aj)(a:Aj)(R:Bool)(h:M7 b a=some R),Ax prog 122 [.d (Ai b),.d (.ptr [(.str a.I),(Ao 2 E4 a.Q)])] (.b R)):=⟨λb a R h=>by
 refine uD func122 ?_;unfold M7 at h;exact Aq⟩
instance {a0 a1 a2}:LS (λa s=>D9 a0 a1 a2 a s) 19 [0,1,7] (λs=>[(8,.i s)]) [] (λs=>[]):=⟨trivial⟩
instance slices_IndexFunc_Lapi_Column_api_Column_w:CS prog 252 (∀(c:List As)(d:As->Option Bool)(a:FuncId)(b:List D)(R:Int)(h_p1:∀(a0:As) r,d a0=some r->Ax prog a ([.d (Am a0)]++b.map .d) (.b r))(h:BS c d=some R),Ax prog 252 [.l 7 Am c,.d (.fn a b)] (.i R)):=⟨λc d a b R h_p1 h=>by
 refine uD func252 ?_;unfold BS at h;exact Aq⟩
instance slices_ContainsFunc_Lapi_Column_api_Column_w:CS prog 188 (∀(c:List As)(d:As->Option Bool)(a:FuncId)(b:List D)(R:Bool)(h_p1:∀(a0:As) r,d a0=some r->Ax prog a ([.d (Am a0)]++b.map .d) (.b r))(h:Bp c d=some R),Ax prog 188 [.l 7 Am c,.d (.fn a b)] (.b R)):=⟨λc d a b R h_p1 h=>by
 refine uD func188 ?_;unfold Bp at h;refine Fx h (λ_=>slices_IndexFunc_Lapi_Column_api_Column_w.h _ _ _ _ _ h_p1) λe h=>?_;exact Aq⟩
instance schema_checkColumn_c1_w:CS prog 189 (∀(b:As)(a:As)(R:Bool)(h:H9 b a=some R),Ax prog 189 [.d (Am b),.d (.ptr [(.str a.I),(.j a.Kind),(.j a.Ak),(.j a.C),(.j a.D),(Ao 1 D.z a.N),(.bool a.Al)])] (.b R)):=⟨λb a R h=>by
 refine uD func189 ?_;unfold H9 at h;exact Aq⟩
instance {a0 a1}:LS (λa s=>Hl a0 a1 a s.1 s.2) 68 [34,35] (λs=>[(3,.i s.1),(36,.i s.2)]) [] (λs=>[]):=⟨trivial⟩
instance schema_checkMeasure_w:CS prog 190 (W1 prog 190 ER):=⟨λa R h=>by
 refine uD func190 ?_;unfold ER at h;exact Aq⟩
instance schema_unused_w:CS prog 191 (W1 prog 191 Fl):=⟨λa R h=>by
 refine uD func191 ?_;unfold Fl at h;exact Aq⟩
instance schema_checkColumn_w:CS prog 123 (W2 prog 123 F9):=⟨λa b R h=>by
 refine uD func123 ?_;unfold F9 at h;exact Aq⟩
instance {a0 a1}:LS (λa s=>Jw a0 a1 a s) 63 [1,19,20] (λs=>[(21,.i s)]) [1] (λs=>[]):=⟨trivial⟩
instance {a0 a1}:LS (λa s=>Jy a0 a1 a s) 63 [1,52] (λs=>[(53,.i s)]) [1] (λs=>[]):=⟨trivial⟩
instance schema_Check_w:CS prog 74 (W1 prog 74 C4):=⟨λa R h=>by
 refine WA [12] func74 ?_;unfold C4 at h;refine EA h (λh=>?_) λh=>?_
 ·exact Aq
 refine Gj {p:Unit // M8 a=some R} (λp=>Dk 63 [(1,.ptr 1 1 0)] [(1,BN a,1)]) ?_ λp=>?_
 ·exact Aq
 obtain⟨_,h⟩:=p;exact Aq⟩
instance {a0 a1 a2 a3}:LS (λa s=>Hc a0 a1 a2 a3 a s.1 s.2) 27 [1,9,10] (λs=>[(5,.i s.1),(11,.i s.2)]) [] (λs=>[]):=⟨trivial⟩
theorem Tj(d:Nat)(a:Ad->Int->Option Int)(ih:W2 prog 124 a):W2 prog 124 (FV d a):=by
 intro b c R h;refine uD func124 ?_;unfold FV at h;exact Aq
theorem N0:∀d:Nat,(W2 prog 124 (FJ d))
 | 0=>by
  exact z16
 | d+1=>by
  have ih:=N0 d;exact Tj d _ ih
instance condition_count_w:CS prog 124 (∀(d:Nat),W2 prog 124 (FJ d)):=⟨λd=>N0 d⟩
instance {a0 a1 a2}:LS (λa s=>Ib a0 a1 a2 a s.1 s.2) 20 [7,8] (λs=>[(3,.i s.1),(9,.i s.2)]) [] (λs=>[]):=⟨trivial⟩
theorem Ui(d:Nat)(a:Ad->Option Int)(ih:W1 prog 125 a):W1 prog 125 (Fp d a):=by
 intro b R h;refine uD func125 ?_;unfold Fp at h;exact Aq
theorem Ov:∀d:Nat,(W1 prog 125 (D2 d))
 | 0=>by
  exact z16
 | d+1=>by
  have ih:=Ov d;exact Ui d _ ih
instance condition_deep_w:CS prog 125 (∀(d:Nat),W1 prog 125 (D2 d)):=⟨λd=>Ov d⟩
instance condition_kids_w:CS prog 253 (W1 prog 253 N1):=⟨λa R h=>by
 refine uD func253 ?_;unfold N1 at h;exact Aq⟩
instance condition_unused_w:CS prog 254 (W1 prog 254 Lr):=⟨λa R h=>by
 refine uD func254 ?_;unfold Lr at h;exact Aq⟩
instance condition_checkOne_w:CS prog 192 (W2 prog 192 F2):=⟨λa b R h=>by
 refine WA [9] func192 ?_;unfold F2 at h;refine Gj {p:Unit // Ef a b=some R} (λp=>Dk 113 [(2,.ptr 2 1 0),(3,.ptr 3 1 0)] [(2,BN a,1),(3,P6 b,1)]) ?_ λp=>?_
 ·exact Aq
 obtain⟨_,h⟩:=p;exact Aq⟩
instance {a0 a1 a2 a3}:LS (λa s=>FE a0 a1 a2 a3 a s) 29 [2,16,17] (λs=>[(18,.i s)]) [2] (λs=>[]):=⟨trivial⟩
theorem Qz(d:Nat)(a:Aa->Ad->Option Int)(ih:W2 prog 126 a):W2 prog 126 (E3 d a):=by
 intro b c R h;refine uD func126 ?_;unfold E3 at h;exact Aq
theorem Li:∀d:Nat,(W2 prog 126 (Ej d))
 | 0=>by
  exact z16
 | d+1=>by
  have ih:=Li d;exact Qz d _ ih
instance condition_checkAll_w:CS prog 126 (∀(d:Nat),W2 prog 126 (Ej d)):=⟨λd=>Li d⟩
instance condition_Check_w:CS prog 76 (∀d:Nat,W2 prog 76 (B8 d)):=⟨λd a b R h=>by
 refine uD func76 ?_;unfold B8 at h;exact Aq⟩
instance {a0 a1}:LS (λa s=>KT a0 a1 a s.1 s.2) 25 [0] (λs=>[(3,.i s.1),(4,.i s.2)]) [] (λs=>[]):=⟨trivial⟩
instance slices_Max_Lint_int_w:CS prog 257 (W1 prog 257 IY):=⟨λa R h=>by
 refine uD func257 ?_;unfold IY at h;refine EA h (λh=>?_) λh=>?_
 ·conv=>whnf
  cases h
 exact Aq⟩
instance codes_Levels_w:CS prog 201 (W1 prog 201 EW):=⟨λa R h=>by
 refine uD func201 ?_;unfold EW at h;exact Aq⟩
instance schema_finest_w:CS prog 198 (W2 prog 198 G1):=⟨λa b R h=>by
 refine uD func198 ?_;unfold G1 at h;exact Aq⟩
instance schema_pick_w:CS prog 131 (W2 prog 131 JQ):=⟨λa b R h=>by
 refine uD func131 ?_;unfold JQ at h;exact Aq⟩
instance schema_Pick_w:CS prog 193 (W2 prog 193 Mz):=⟨λa b R h=>by
 refine uD func193 ?_;unfold Mz at h;exact Aq⟩
instance declaration_kindOf_w:CS prog 194 (W2 prog 194 BK):=⟨λa b R h=>by
 refine uD func194 ?_;unfold BK at h;exact Aq⟩
instance {a0 a1 a2}:LS (λa s=>E9 a0 a1 a2 a s) 19 [0,1,7] (λs=>[(8,.i s)]) [] (λs=>[]):=⟨trivial⟩
instance slices_IndexFunc_Lapi_Pick_api_Pick_w:CS prog 222 (∀(c:List Ac)(d:Ac->Option Bool)(a:FuncId)(b:List D)(R:Int)(h_p1:∀(a0:Ac) r,d a0=some r->Ax prog a ([.d (Ah a0)]++b.map .d) (.b r))(h:BH c d=some R),Ax prog 222 [.l 2 Ah c,.d (.fn a b)] (.i R)):=⟨λc d a b R h_p1 h=>by
 refine uD func222 ?_;unfold BH at h;exact Aq⟩
instance slices_ContainsFunc_Lapi_Pick_api_Pick_w:CS prog 195 (∀(c:List Ac)(d:Ac->Option Bool)(a:FuncId)(b:List D)(R:Bool)(h_p1:∀(a0:Ac) r,d a0=some r->Ax prog a ([.d (Ah a0)]++b.map .d) (.b r))(h:AG c d=some R),Ax prog 195 [.l 2 Ah c,.d (.fn a b)] (.b R)):=⟨λc d a b R h_p1 h=>by
 refine uD func195 ?_;unfold AG at h;refine Fx h (λ_=>slices_IndexFunc_Lapi_Pick_api_Pick_w.h _ _ _ _ _ h_p1) λe h=>?_;exact Aq⟩
instance declaration_table_c1_w:CS prog 196 (∀(b:Ac)(a:Ac)(R:Bool)(h:Gd b a=some R),Ax prog 196 [.d (Ah b),.d (.ptr [(.j a.B),(.j a.J)])] (.b R)):=⟨λb a R h=>by
 refine uD func196 ?_;unfold Gd at h;exact Aq⟩
instance declaration_empty_w:CS prog 197 (W1 prog 197 EE):=⟨λa R h=>by
 refine uD func197 ?_;unfold EE at h;exact Aq⟩
