/- P3W1 -/
import Derived.Test.YtkjijhldfdplgaaGreatDoorP3HW
open Go.Proofs.Tryz
set_option linter.all false
namespace Go.Proofs.YtkjijhldfdplgaaGreatDoor.P
open Go.Abs Go.Proofs
set_option maxRecDepth 100000
set_option maxHeartbeats 4000000
instance {a0 a1}:LS (λa s=>Tf a0 a1 a s) 62 [0,24,25] (λs=>[(26,.i s)]) [] (λs=>[]):=⟨trivial⟩
instance codes_Name_w:CS prog 58 (W1 prog 58 Cz):=⟨λa R h=>by
 refine Xr [3,9] func58 ?_;unfold Cz at h;refine F3 {p:Unit // OU a=some R} (λp=>CY 62 [(0,.t a)] []) ?_ λp=>?_
 ·exact As
 obtain⟨_,h⟩:=p;simp only[OU]at h;refine F3 {p:Unit // Tg a=some R} (λp=>CY 62 [(0,.t a)] []) ?_ λp=>?_
 ·exact As
 obtain⟨_,h⟩:=p;exact As⟩
instance {a0 a1}:LS (λa s=>Q9 a0 a1 a s.1 s.2) 31 [3,11,12] (λs=>[(13,.i s.1)]) [] (λs=>[(9,.row 1 3 (List.map D.z s.2),1)]):=⟨trivial⟩
instance codes_depths_w:CS prog 170 (W1 prog 170 Hh):=⟨λa R h=>by
 refine uD func170 ?_;unfold Hh at h;exact As⟩
instance {a0 a1 a2}:LS (λa s=>Ri a0 a1 a2 a s.1 s.2) 102 [4,82,83] (λs=>[(7,.i s.1),(84,.i s.2)]) [29] (λs=>[]):=⟨trivial⟩
instance codes_Check_w:CS prog 107 (W1 prog 107 GY):=⟨λc R h=>by
 refine Xr [21] func107 ?_;unfold GY at h;refine E9 h (λ_=>codes_Name_w.h _ _) λi h=>?_;refine Do h (λh=>?_) λh=>?_
 ·exact As
 refine Do h (λh=>?_) λh=>?_
 ·exact As
 refine Do h (λh=>?_) λh=>?_
 ·exact As
 conv=>whnf
 refine z13 ?_
 conv=>whnf
 refine QW h λhr h=>?_;refine z11 ?_
 try rw[pk]
 refine F3 {p:(List Bool) // Rj c p=some R} (λp=>CY 102 [(1,.ptr 1 1 0),(4,.sl 29 1)] [(1,La c,1),(29,.row 1 4 (List.map D.bool p.1),1)]) ?_ λp=>?_
 ·conv=>whnf
  refine z7 h (λp=>CY 102 [(1,.ptr 1 1 0),(3,.sl 25 1),(4,.sl 29 1),(31,.l 2 E2 c.U),(32,.i (c.U.length:Int)),(33,.i p.1)] [(1,La c,1),(25,.map (qa D.bool p.2.1),1),(29,.row 1 4 (List.map D.bool p.2.2),1)]) C3 λ_ _ ⟨d,a,e⟩ h=>?_;simp only[Rh]at h;refine Do h (λh=>?_) λh=>?_
  ·refine QX (f:=E2) h λb _ h=>?_;refine E9 h (λ_=>codes_Name_w.h _ _) λj h=>?_;refine Do h (λh=>?_) λh=>?_
   ·exact As
   conv=>whnf
   refine⟨⟨by kernel_rfl,dT D.bool b.J a⟩,?_⟩
   conv=>whnf
   refine mK (f:=D.bool) (es:=a) (z:=false) ?_;refine Do h (λh=>?_) λh=>?_
   ·exact As
   refine Do h (λh=>?_) λh=>?_
   ·exact As
   conv=>whnf
   refine⟨⟨by rfl,by kernel_rfl,dT D.bool b.J a⟩,?_⟩
   conv=>whnf
   try rw[jt D.bool b.J true]
   exact As
  exact As
 obtain⟨g,h⟩:=p;exact As⟩
instance {a0 a1 a2}:LS (λa s=>Dg a0 a1 a2 a s) 19 [0,1,7] (λs=>[(8,.i s)]) [] (λs=>[]):=⟨trivial⟩
instance slices_IndexFunc_Lapi_CodeList_api_CodeList_w:CS prog 171 (∀(c:List Aq)(d:Aq->Option Bool)(a:FuncId)(b:List D)(R:Int)(h_p1:∀(a0:Aq) r,d a0=some r->Ay prog a ([.d (Ae a0)]++b.map .d) (.b r))(h:B8 c d=some R),Ay prog 171 [.l 2 Ae c,.d (.fn a b)] (.i R)):=⟨λc d a b R h_p1 h=>by
 refine uD func171 ?_;unfold B8 at h;exact As⟩
instance slices_ContainsFunc_Lapi_CodeList_api_CodeList_w:CS prog 108 (∀(c:List Aq)(d:Aq->Option Bool)(a:FuncId)(b:List D)(R:Bool)(h_p1:∀(a0:Aq) r,d a0=some r->Ay prog a ([.d (Ae a0)]++b.map .d) (.b r))(h:Bf c d=some R),Ay prog 108 [.l 2 Ae c,.d (.fn a b)] (.b R)):=⟨λc d a b R h_p1 h=>by
 refine uD func108 ?_;unfold Bf at h;refine E9 h (λ_=>slices_IndexFunc_Lapi_CodeList_api_CodeList_w.h _ _ _ _ _ h_p1) λe h=>?_;exact As⟩
instance schema_Check_c1_w:CS prog 109 (∀(b:Aq)(a:Aq)(R:Bool)(h:M4 b a=some R),Ay prog 109 [.d (Ae b),.d (.ptr [(.str a.J),(Am 2 E2 a.U)])] (.b R)):=⟨λb a R h=>by
 refine uD func109 ?_;unfold M4 at h;exact As⟩
instance {a0 a1 a2}:LS (λa s=>DL a0 a1 a2 a s) 19 [0,1,7] (λs=>[(8,.i s)]) [] (λs=>[]):=⟨trivial⟩
instance slices_IndexFunc_Lapi_Column_api_Column_w:CS prog 247 (∀(c:List Au)(d:Au->Option Bool)(a:FuncId)(b:List D)(R:Int)(h_p1:∀(a0:Au) r,d a0=some r->Ay prog a ([.d (Ak a0)]++b.map .d) (.b r))(h:BJ c d=some R),Ay prog 247 [.l 7 Ak c,.d (.fn a b)] (.i R)):=⟨λc d a b R h_p1 h=>by
 refine uD func247 ?_;unfold BJ at h;exact As⟩
instance slices_ContainsFunc_Lapi_Column_api_Column_w:CS prog 172 (∀(c:List Au)(d:Au->Option Bool)(a:FuncId)(b:List D)(R:Bool)(h_p1:∀(a0:Au) r,d a0=some r->Ay prog a ([.d (Ak a0)]++b.map .d) (.b r))(h:Bq c d=some R),Ay prog 172 [.l 7 Ak c,.d (.fn a b)] (.b R)):=⟨λc d a b R h_p1 h=>by
 refine uD func172 ?_;unfold Bq at h;refine E9 h (λ_=>slices_IndexFunc_Lapi_Column_api_Column_w.h _ _ _ _ _ h_p1) λe h=>?_;exact As⟩
instance schema_checkColumn_c1_w:CS prog 173 (∀(b:Au)(a:Au)(R:Bool)(h:Im b a=some R),Ay prog 173 [.d (Ak b),.d (.ptr [(.str a.J),(.j a.Kind),(.j a.Am),(.j a.D),(.j a.E),(Am 1 D.z a.S),(.bool a.A2)])] (.b R)):=⟨λb a R h=>by
 refine uD func173 ?_;unfold Im at h;exact As⟩
instance {a0 a1}:LS (λa s=>Hu a0 a1 a s.1 s.2) 68 [34,35] (λs=>[(3,.i s.1),(36,.i s.2)]) [] (λs=>[]):=⟨trivial⟩
instance schema_checkMeasure_w:CS prog 174 (W1 prog 174 EP):=⟨λa R h=>by
 refine uD func174 ?_;unfold EP at h;exact As⟩
instance schema_unused_w:CS prog 175 (W1 prog 175 Fi):=⟨λa R h=>by
 refine uD func175 ?_;unfold Fi at h;exact As⟩
instance schema_checkColumn_w:CS prog 110 (W2 prog 110 F8):=⟨λa b R h=>by
 refine uD func110 ?_;unfold F8 at h;exact As⟩
instance {a0 a1}:LS (λa s=>J5 a0 a1 a s) 63 [1,19,20] (λs=>[(21,.i s)]) [1] (λs=>[]):=⟨trivial⟩
instance {a0 a1}:LS (λa s=>J6 a0 a1 a s) 63 [1,52] (λs=>[(53,.i s)]) [1] (λs=>[]):=⟨trivial⟩
instance schema_Check_w:CS prog 57 (W1 prog 57 CN):=⟨λa R h=>by
 refine Xr [12] func57 ?_;unfold CN at h;refine Do h (λh=>?_) λh=>?_
 ·exact As
 refine F3 {p:Unit // M5 a=some R} (λp=>CY 63 [(1,.ptr 1 1 0)] [(1,Cg a,1)]) ?_ λp=>?_
 ·exact As
 obtain⟨_,h⟩:=p;exact As⟩
instance {a0 a1}:LS (λa s=>KY a0 a1 a s.1 s.2) 25 [0] (λs=>[(3,.i s.1),(4,.i s.2)]) [] (λs=>[]):=⟨trivial⟩
instance slices_Max_Lint_int_w:CS prog 250 (W1 prog 250 Jk):=⟨λa R h=>by
 refine uD func250 ?_;unfold Jk at h;refine Do h (λh=>?_) λh=>?_
 ·conv=>whnf
  cases h
 exact As⟩
instance codes_Levels_w:CS prog 179 (W1 prog 179 EW):=⟨λa R h=>by
 refine uD func179 ?_;unfold EW at h;exact As⟩
instance schema_finest_w:CS prog 176 (W2 prog 176 G4):=⟨λa b R h=>by
 refine uD func176 ?_;unfold G4 at h;exact As⟩
instance schema_pick_w:CS prog 111 (W2 prog 111 JX):=⟨λa b R h=>by
 refine uD func111 ?_;unfold JX at h;exact As⟩
instance {a0 a1 a2}:LS (λa s=>J7 a0 a1 a2 a s) 41 [1,2,14,15] (λs=>[(16,.i s)]) [2] (λs=>[]):=⟨trivial⟩
instance schema_Picks_w:CS prog 59 (W2 prog 59 Jd):=⟨λa b R h=>by
 refine uD func59 ?_;unfold Jd at h;exact As⟩
instance schema_width_w:CS prog 248 (W2 prog 248 Hv):=⟨λa b R h=>by
 refine uD func248 ?_;unfold Hv at h;exact As⟩
instance schema_down_w:CS prog 249 (W2 prog 249 Fh):=⟨λa b R h=>by
 refine uD func249 ?_;unfold Fh at h;exact As⟩
instance schema_span_w:CS prog 177 (W3 prog 177 JY):=⟨λa b p2 R h=>by
 refine uD func177 ?_;unfold JY at h;exact As⟩
instance {a0 a1 a2}:LS (λa s=>Wx a0 a1 a2 a s.1 s.2) 28 [1,5,12,13] (λs=>[(14,.i s.1)]) [] (λs=>[(5,.row 1 3 (List.map D.z s.2),1)]):=⟨trivial⟩
instance codes_At_w:CS prog 178 (W2 prog 178 Iz):=⟨λa b R h=>by
 refine uD func178 ?_;unfold Iz at h;exact As⟩
instance codes_has_w:CS prog 251 (W2 prog 251 Lp):=⟨λa b R h=>by
 refine uD func251 ?_;unfold Lp at h;exact As⟩
instance {a0 a1 a2}:LS (λa s=>Wy a0 a1 a2 a s.1 s.2) 36 [2,3] (λs=>[(1,.i s.1),(7,.i s.2)]) [3] (λs=>[]):=⟨trivial⟩
instance codes_Up_w:CS prog 180 (W3 prog 180 I0):=⟨λa b p2 R h=>by
 refine uD func180 ?_;unfold I0 at h;exact As⟩
instance {a0 a1 a2 a3 a4}:LS (λa s=>Oq a0 a1 a2 a3 a4 a s) 68 [2,3,14,54,55] (λs=>[(56,.i s)]) [14] (λs=>[]):=⟨trivial⟩
instance schema_Some_w:CS prog 112 (W4 prog 112 Cy):=⟨λa b p2 p3 R h=>by
 refine uD func112 ?_;unfold Cy at h;exact As⟩
instance {a0 a1 a2 a3}:LS (λa s=>Jw a0 a1 a2 a3 a s) 53 [2,3,29,30] (λs=>[(31,.i s)]) [3] (λs=>[]):=⟨trivial⟩
instance extract_fits_w:CS prog 60 (W3 prog 60 Kj):=⟨λa b p2 R h=>by
 refine Xr [3] func60 ?_;unfold Kj at h;refine F3 {p:Unit // Mz b p2 a=some R} (λp=>CY 53 [(1,.l 2 Ad b),(2,.l 1 D.z p2),(3,.ptr 3 1 0)] [(3,Cg a,1)]) ?_ λp=>?_
 ·exact As
 obtain⟨_,h⟩:=p;exact As⟩
instance {a0 a1 a2}:LS (λa s=>IQ a0 a1 a2 a s) 70 [2,3,40,41] (λs=>[(42,.i s)]) [2,3] (λs=>[]):=⟨trivial⟩
instance extract_Check_w:CS prog 27 (W2 prog 27 Cv):=⟨λa b R h=>by
 refine uD func27 ?_;unfold Cv at h;exact As⟩
instance {a0 a1 a2 a3}:LS (λa s=>Hj a0 a1 a2 a3 a s.1 s.2) 27 [1,9,10] (λs=>[(5,.i s.1),(11,.i s.2)]) [] (λs=>[]):=⟨trivial⟩
theorem TO(d:Nat)(a:Ah->Int->Option Int)(ih:W2 prog 193 a):W2 prog 193 (FY d a):=by
 intro b c R h;refine uD func193 ?_;unfold FY at h;exact As
theorem N7:∀d:Nat,(W2 prog 193 (FM d))
 | 0=>by
  exact z16
 | d+1=>by
  have ih:=N7 d;exact TO d _ ih
instance condition_count_w:CS prog 193 (∀(d:Nat),W2 prog 193 (FM d)):=⟨λd=>N7 d⟩
instance {a0 a1 a2}:LS (λa s=>Ir a0 a1 a2 a s.1 s.2) 20 [7,8] (λs=>[(3,.i s.1),(9,.i s.2)]) [] (λs=>[]):=⟨trivial⟩
theorem UA(d:Nat)(a:Ah->Option Int)(ih:W1 prog 194 a):W1 prog 194 (Fl d a):=by
 intro b R h;refine uD func194 ?_;unfold Fl at h;exact As
theorem O4:∀d:Nat,(W1 prog 194 (D9 d))
 | 0=>by
  exact z16
 | d+1=>by
  have ih:=O4 d;exact UA d _ ih
instance condition_deep_w:CS prog 194 (∀(d:Nat),W1 prog 194 (D9 d)):=⟨λd=>O4 d⟩
instance condition_kids_w:CS prog 297 (W1 prog 297 N8):=⟨λa R h=>by
 refine uD func297 ?_;unfold N8 at h;exact As⟩
instance condition_unused_w:CS prog 298 (W1 prog 298 Lq):=⟨λa R h=>by
 refine uD func298 ?_;unfold Lq at h;exact As⟩
