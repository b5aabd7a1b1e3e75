/- P3W2 -/
import Derived.Test.YtaojdkijihbaoaaGreatDoorP3W1
open Go.Proofs.Tryz
set_option linter.all false
namespace Go.Proofs.YtaojdkijihbaoaaGreatDoor.P
open Go.Abs Go.Proofs
set_option maxRecDepth 100000
set_option maxHeartbeats 4000000
instance {a0 a1 a2}:LS (λa s=>Mg a0 a1 a2 a s) 64 [2,3,19,20] (λs=>[(21,.i s)]) [2,3] (λs=>[]):=⟨trivial⟩
instance declaration_table_w:CS prog 127 (W2 prog 127 Gb):=⟨λa b R h=>by
 refine WA [14] func127 ?_;unfold Gb at h;refine EA h (λh=>?_) λh=>?_
 ·exact Aq
 refine Gj {p:Unit // Ip b a=some R} (λp=>Dk 64 [(2,.ptr 2 1 0),(3,.ptr 3 1 0)] [(2,BN a,1),(3,R3 b,1)]) ?_ λp=>?_
 ·exact Aq
 obtain⟨_,h⟩:=p;exact Aq⟩
instance {a0 a1 a2}:LS (λa s=>E1 a0 a1 a2 a s) 19 [0,1,7] (λs=>[(8,.i s)]) [] (λs=>[]):=⟨trivial⟩
instance slices_Index_Lint_int_w:CS prog 232 (W2 prog 232 CU):=⟨λa b R h=>by
 refine uD func232 ?_;unfold CU at h;exact Aq⟩
instance slices_Contains_Lint_int_w:CS prog 155 (W2 prog 155 Bj):=⟨λa b R h=>by
 refine uD func155 ?_;unfold Bj at h;exact Aq⟩
instance {a0 a1 a2}:LS (λa s=>Me a0 a1 a2 a s) 59 [2,3,25,26] (λs=>[(27,.i s)]) [2,3] (λs=>[]):=⟨trivial⟩
instance declaration_model_w:CS prog 128 (W2 prog 128 Ga):=⟨λa b R h=>by
 refine uD func128 ?_;unfold Ga at h;exact Aq⟩
instance declaration_curve_w:CS prog 129 (∀d:Nat,W2 prog 129 (FY d)):=⟨λd a b R h=>by
 refine uD func129 ?_;unfold FY at h;exact Aq⟩
instance declaration_Question_w:CS prog 77 (∀d:Nat,W2 prog 77 (CB d)):=⟨λd a b R h=>by
 refine uD func77 ?_;unfold CB at h;exact Aq⟩
instance {a0 a1 a2}:LS (λa s=>Db a0 a1 a2 a s) 19 [0,1,7] (λs=>[(8,.i s)]) [] (λs=>[]):=⟨trivial⟩
instance slices_IndexFunc_Lapi_Question_api_Question_w:CS prog 130 (∀(c:List Ap)(d:Ap->Option Bool)(a:FuncId)(b:List D)(R:Int)(h_p1:∀(a0:Ap) r,d a0=some r->Ax prog a ([.d (BZ a0)]++b.map .d) (.b r))(h:BC c d=some R),Ax prog 130 [.l 17 BZ c,.d (.fn a b)] (.i R)):=⟨λc d a b R h_p1 h=>by
 refine uD func130 ?_;unfold BC at h;exact Aq⟩
instance slices_ContainsFunc_Lapi_Question_api_Question_w:CS prog 78 (∀(c:List Ap)(d:Ap->Option Bool)(a:FuncId)(b:List D)(R:Bool)(h_p1:∀(a0:Ap) r,d a0=some r->Ax prog a ([.d (BZ a0)]++b.map .d) (.b r))(h:Be c d=some R),Ax prog 78 [.l 17 BZ c,.d (.fn a b)] (.b R)):=⟨λc d a b R h_p1 h=>by
 refine uD func78 ?_;unfold Be at h;refine Fx h (λ_=>slices_IndexFunc_Lapi_Question_api_Question_w.h _ _ _ _ _ h_p1) λe h=>?_;exact Aq⟩
instance declaration_Check_c1_w:CS prog 79 (∀(b:Ap)(a:Ap)(R:Bool)(h:FX b a=some R),Ax prog 79 [.d (BZ b),.d (.ptr [(.str a.I),(.j a.Kind),(.j a.Ay.Op),(.j a.Ay.B),(.j a.Ay.Z),(.j a.Ay.C),(.j a.Ay.D),(Ao 6 A3 a.Ay.H),(Ao 2 Ah a.V),(.j a.Y),(Ao 1 D.z a.Ai),(.j a.U.Op),(.j a.U.B),(.j a.U.Z),(.j a.U.C),(.j a.U.D),(Ao 6 A3 a.U.H)])] (.b R)):=⟨λb a R h=>by
 refine uD func79 ?_;unfold FX at h;exact Aq⟩
instance {a0 a1 a2 a3}:LS (λa s=>Md a0 a1 a2 a3 a s) 98 [2,3,78,79] (λs=>[(80,.i s)]) [2,3] (λs=>[]):=⟨trivial⟩
instance declaration_Check_w:CS prog 35 (∀d:Nat,W2 prog 35 (FW d)):=⟨λd a b R h=>by
 refine WA [6] func35 ?_;unfold FW at h;refine Fx h (λ_=>schema_Check_w.h _ _) λc h=>?_;refine EA h (λh=>?_) λh=>?_
 ·exact Aq
 refine Gj {p:Unit // Io d a b=some R} (λp=>Dk 98 [(2,.ptr 2 1 0),(3,.ptr 3 1 0)] [(2,BN a,1),(3,La b,1)]) ?_ λp=>?_
 ·exact Aq
 obtain⟨_,h⟩:=p;exact Aq⟩
theorem U3(d:Nat)(a:Ad->Option Ad)(ih:W1 prog 36 a):W1 prog 36 (GK d a):=by
 intro b R h;refine rP func36 ?_;unfold GK at h
 conv=>whnf
 refine Hq h λi j h=>?_;refine dA [(1,5,20,36)] {p:Nat×(Int×(List Ad)) // i p.1 p.2=some R} (λp=>Dk 24 [(1,.ptr 1 1 0),(2,.ptr 2 1 0),(9,.l 6 A3 b.H),(10,.i (b.H.length:Int)),(11,.i p.1.2.1)] [(1,.var [.i b.Op,.i b.B,.i b.Z,.i b.C,.i b.D,.sl 20 1],1),(2,.var [.i 0,.i 0,.i 0,.i 0,.i 0,.n 6],1),(20,.row 6 36 (List.map A3 p.1.2.2),1)]) (λp=>p.1.1) ⟨(_,(_,_)),h⟩ ?_ λp=>?_
 ·conv=>whnf
  exact tQ
 obtain⟨⟨k,⟨c,e⟩⟩,h⟩:=p;obtain⟨k,rfl,h⟩:=j _ _ h;simp only[U2]at h;refine EA h (λh=>?_) λh=>?_
 ·refine Sk (f:=A3) h λg _ h=>?_;rw[AI g]
  conv=>whnf
  refine z13 ?_
  conv=>whnf
  refine BD h λx18 hx18 h=>?_
  first|refine A4 (ih _ _ hx18) ?_|(simp only[ua];refine A4 (ih _ _ hx18) ?_)
  conv=>whnf
  refine S3 h λhr h=>?_;refine z8 ?_
  rw[gA,Zt x18]
  conv=>whnf
  exact kW ⟨(_,(_,_)),h⟩ Xi
 conv=>whnf
 refine⟨.inl ?_⟩;exact bB h
theorem O2:∀d:Nat,(W1 prog 36 (D5 d))
 | 0=>by
  exact z16
 | d+1=>by
  have ih:=O2 d;exact U3 d _ ih
instance interpret_cond_w:CS prog 36 (∀(d:Nat),W1 prog 36 (D5 d)):=⟨λd=>O2 d⟩
instance slices_Clone_Lapi_Pick_api_Pick_w:CS prog 37 (W1 prog 37 BE):=⟨λc R h=>by
 refine S3 h λhr h=>?_;obtain rfl:=uc h;refine rP func37 ?_
 conv=>whnf
 refine⟨λb d=>?_⟩
 cases b
 ·conv=>whnf
  refine z8 ?_;exact z27
 ·conv=>whnf
  have:c=[]:=by
   cases c with
   | nil=>rfl
   | cons a r=>exact absurd (d (by simp)) (by simp)
  subst this;refine⟨.inl ?_⟩
  conv=>whnf
  exact⟨rfl⟩⟩
instance {a0 a1 a2}:LS (λa s=>Kh a0 a1 a2 a s.1 s.2) 58 [7,18,19] (λs=>[(20,.i s.1)]) [] (λs=>[(7,.row 21 95 (List.map BG s.2),1)]):=⟨trivial⟩
instance interpret_Questions_w:CS prog 11 (∀d:Nat,W2 prog 11 (EP d)):=⟨λd a b R h=>by
 refine uD func11 ?_;unfold EP at h;exact Aq⟩
instance {a0 a1 a2}:LS (λa s=>Jz a0 a1 a2 a s) 41 [1,2,14,15] (λs=>[(16,.i s)]) [2] (λs=>[]):=⟨trivial⟩
instance schema_Picks_w:CS prog 80 (W2 prog 80 IN):=⟨λa b R h=>by
 refine uD func80 ?_;unfold IN at h;exact Aq⟩
instance schema_width_w:CS prog 255 (W2 prog 255 Hm):=⟨λa b R h=>by
 refine uD func255 ?_;unfold Hm at h;exact Aq⟩
instance schema_down_w:CS prog 256 (W2 prog 256 Fj):=⟨λa b R h=>by
 refine uD func256 ?_;unfold Fj at h;exact Aq⟩
instance schema_span_w:CS prog 199 (W3 prog 199 JR):=⟨λa b p2 R h=>by
 refine uD func199 ?_;unfold JR at h;exact Aq⟩
instance {a0 a1 a2}:LS (λa s=>VZ a0 a1 a2 a s.1 s.2) 28 [1,5,12,13] (λs=>[(14,.i s.1)]) [] (λs=>[(5,.row 1 3 (List.map D.z s.2),1)]):=⟨trivial⟩
instance codes_At_w:CS prog 200 (W2 prog 200 FT):=⟨λa b R h=>by
 refine uD func200 ?_;unfold FT at h;exact Aq⟩
instance codes_has_w:CS prog 258 (W2 prog 258 Lq):=⟨λa b R h=>by
 refine uD func258 ?_;unfold Lq at h;exact Aq⟩
instance {a0 a1 a2}:LS (λa s=>Wa a0 a1 a2 a s.1 s.2) 36 [2,3] (λs=>[(1,.i s.1),(7,.i s.2)]) [3] (λs=>[]):=⟨trivial⟩
instance codes_Up_w:CS prog 202 (W3 prog 202 Hp):=⟨λa b p2 R h=>by
 refine uD func202 ?_;unfold Hp at h;exact Aq⟩
instance {a0 a1 a2 a3 a4}:LS (λa s=>Oc a0 a1 a2 a3 a4 a s) 68 [2,3,14,54,55] (λs=>[(56,.i s)]) [14] (λs=>[]):=⟨trivial⟩
instance schema_Some_w:CS prog 132 (W4 prog 132 B3):=⟨λa b p2 p3 R h=>by
 refine uD func132 ?_;unfold B3 at h;exact Aq⟩
instance {a0 a1 a2 a3}:LS (λa s=>Jm a0 a1 a2 a3 a s) 53 [2,3,29,30] (λs=>[(31,.i s)]) [3] (λs=>[]):=⟨trivial⟩
instance extract_fits_w:CS prog 81 (W3 prog 81 Ke):=⟨λa b p2 R h=>by
 refine WA [3] func81 ?_;unfold Ke at h;refine Gj {p:Unit // M2 b p2 a=some R} (λp=>Dk 53 [(1,.l 2 Ah b),(2,.l 1 D.z p2),(3,.ptr 3 1 0)] [(3,BN a,1)]) ?_ λp=>?_
 ·exact Aq
 obtain⟨_,h⟩:=p;exact Aq⟩
instance {a0 a1 a2}:LS (λa s=>IA a0 a1 a2 a s) 70 [2,3,40,41] (λs=>[(42,.i s)]) [2,3] (λs=>[]):=⟨trivial⟩
instance extract_Check_w:CS prog 39 (W2 prog 39 Ex):=⟨λa b R h=>by
 refine uD func39 ?_;unfold Ex at h;exact Aq⟩
instance {a0 a1 a2}:LS (λa s=>CJ a0 a1 a2 a s) 19 [0,1,7] (λs=>[(8,.i s)]) [] (λs=>[]):=⟨trivial⟩
instance slices_IndexFunc_Lapi_Statement_api_Statement_w:CS prog 203 (∀(c:List Az)(d:Az->Option Bool)(a:FuncId)(b:List D)(R:Int)(h_p1:∀(a0:Az) r,d a0=some r->Ax prog a ([.d (BG a0)]++b.map .d) (.b r))(h:B4 c d=some R),Ax prog 203 [.l 21 BG c,.d (.fn a b)] (.i R)):=⟨λc d a b R h_p1 h=>by
 refine uD func203 ?_;unfold B4 at h;exact Aq⟩
instance slices_ContainsFunc_Lapi_Statement_api_Statement_w:CS prog 134 (∀(c:List Az)(d:Az->Option Bool)(a:FuncId)(b:List D)(R:Bool)(h_p1:∀(a0:Az) r,d a0=some r->Ax prog a ([.d (BG a0)]++b.map .d) (.b r))(h:AU c d=some R),Ax prog 134 [.l 21 BG c,.d (.fn a b)] (.b R)):=⟨λc d a b R h_p1 h=>by
 refine uD func134 ?_;unfold AU at h;refine Fx h (λ_=>slices_IndexFunc_Lapi_Statement_api_Statement_w.h _ _ _ _ _ h_p1) λe h=>?_;exact Aq⟩
instance program_checkOne_c1_c1_w:CS prog 135 (∀(a:Az)(b:ByteArray)(R:Bool)(h:EZ a b=some R),Ax prog 135 [.d (BG a),.d (.ptr [(.str b)])] (.b R)):=⟨λa b R h=>by
 refine uD func135 ?_;unfold EZ at h;exact Aq⟩
instance program_checkOne_c1_w:CS prog 133 (∀(a:ByteArray)(b:List Az)(R:Bool)(h:CP a b=some R),Ax prog 133 [.t a,.d (.ptr [(Ao 21 BG b)])] (.b R)):=⟨λa b R h=>by
 refine uD func133 ?_;unfold CP at h;exact Aq⟩
instance {a0 a1 a2 a3}:LS (λa s=>L6 a0 a1 a2 a3 a s.1 s.2) 27 [1,9,10] (λs=>[(5,.i s.1),(11,.i s.2)]) [] (λs=>[]):=⟨trivial⟩
theorem Vv(d:Nat)(a:Av->Int->Option Int)(ih:W2 prog 136 a):W2 prog 136 (Hu d a):=by
 intro b c R h;refine uD func136 ?_;unfold Hu at h;exact Aq
theorem Pu:∀d:Nat,(W2 prog 136 (H8 d))
 | 0=>by
  exact z16
 | d+1=>by
  have ih:=Pu d;exact Vv d _ ih
instance program_count_w:CS prog 136 (∀(d:Nat),W2 prog 136 (H8 d)):=⟨λd=>Pu d⟩
instance {a0 a1 a2}:LS (λa s=>M5 a0 a1 a2 a s.1 s.2) 20 [7,8] (λs=>[(3,.i s.1),(9,.i s.2)]) [] (λs=>[]):=⟨trivial⟩
theorem WO(d:Nat)(a:Av->Option Int)(ih:W1 prog 137 a):W1 prog 137 (Iw d a):=by
 intro b R h;refine uD func137 ?_;unfold Iw at h;exact Aq
theorem Qt:∀d:Nat,(W1 prog 137 (IH d))
 | 0=>by
  exact z16
 | d+1=>by
  have ih:=Qt d;exact WO d _ ih
instance program_deep_w:CS prog 137 (∀(d:Nat),W1 prog 137 (IH d)):=⟨λd=>Qt d⟩
