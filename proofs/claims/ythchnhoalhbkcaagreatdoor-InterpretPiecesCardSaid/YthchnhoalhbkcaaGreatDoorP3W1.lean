/- P3W1 -/
import Derived.Test.YthchnhoalhbkcaaGreatDoorP3HW
open Go.Proofs.Tryz
set_option linter.unusedSimpArgs false
set_option linter.unusedVariables false
namespace Go.Proofs.YthchnhoalhbkcaaGreatDoor.P
open Go.Abs Go.Proofs
set_option maxRecDepth 100000
set_option maxHeartbeats 4000000
instance {a0 a1}:LS (λrec1 s=>RF a0 a1 rec1 s) 62 [0,24,25] (λs=>[(26,.d (.int .i64 s))]) [] (λs=>[]):=⟨trivial⟩
instance codes_Name_w:CS prog 47 (W1 prog 47 CN):=⟨λp0 R h=>by
 refine Uv [3,9] func47 ?_;unfold CN at h;refine Fl {p:Unit // NX p0=some R} (λp=>CJ 62 [(0,.d (.str p0))] []) ?_ λp=>?_
 ·exact Ao
 obtain⟨_,h⟩:=p;simp only[NX]at h;refine Fl {p:Unit // RG p0=some R} (λp=>CJ 62 [(0,.d (.str p0))] []) ?_ λp=>?_
 ·exact Ao
 obtain⟨_,h⟩:=p;exact Ao⟩
instance {a0 a1}:LS (λrec1 s=>PF a0 a1 rec1 s.1 s.2) 31 [3,11,12] (λs=>[(13,.d (.int .i64 s.1))]) [] (λs=>[(9,.row 1 3 (List.map (D.int .i64) s.2),1)]):=⟨trivial⟩
instance codes_depths_w:CS prog 158 (W1 prog 158 Gz):=⟨λp0 R h=>by
 refine uD func158 ?_;unfold Gz at h;exact Ao⟩
instance {a0 a1 a2}:LS (λrec2 s=>Qk a0 a1 a2 rec2 s.1 s.2) 102 [4,82,83] (λs=>[(7,.d (.int .i64 s.1)),(84,.d (.int .i64 s.2))]) [29] (λs=>[]):=⟨trivial⟩
instance codes_Check_w:CS prog 92 (W1 prog 92 Gu):=⟨λp0 R h=>by
 refine Uv [21] func92 ?_;unfold Gu at h;refine FV h (λ_=>codes_Name_w.h _ _) λx13 h=>?_;refine DI h (λh=>?_) λh=>?_
 ·exact Ao
 refine DI h (λh=>?_) λh=>?_
 ·exact Ao
 refine DI h (λh=>?_) λh=>?_
 ·exact Ao
 conv=>whnf
 refine z14 ?_
 conv=>whnf
 refine Te h λhr h=>?_;refine z11 ?_
 try rw[mw]
 refine Fl {p:(List Bool) // Ql p0 p=some R} (λp=>CJ 102 [(1,.ptr 1 1 0),(4,.sl 29 1)] [(1,Kx p0,1),(29,.row 1 4 (List.map D.bool p.1),1)]) ?_ λp=>?_
 ·conv=>whnf
  refine z7 h (λp=>CJ 102 [(1,.ptr 1 1 0),(3,.sl 25 1),(4,.sl 29 1),(31,.d (An 2 DT p0.Q)),(32,.d (.int .i64 (p0.Q.length:Int))),(33,.d (.int .i64 p.1))] [(1,Kx p0,1),(25,.map (nh D.bool p.2.1),1),(29,.row 1 4 (List.map D.bool p.2.2),1)]) CC λ_ _ ⟨v33_1,b25_1,b29_1⟩ h=>?_;simp only[Qj]at h;refine DI h (λh=>?_) λh=>?_
  ·refine Sy (f:=DT) h λx36 _ h=>?_;refine FV h (λ_=>codes_Name_w.h _ _) λx41 h=>?_;refine DI h (λh=>?_) λh=>?_
   ·exact Ao
   conv=>whnf
   refine⟨⟨by kernel_rfl,bu D.bool x36.H b25_1⟩,?_⟩
   conv=>whnf
   refine jQ (f:=D.bool) (es:=b25_1) (z:=false) ?_;refine DI h (λh=>?_) λh=>?_
   ·exact Ao
   refine DI h (λh=>?_) λh=>?_
   ·exact Ao
   conv=>whnf
   refine⟨⟨by rfl,by kernel_rfl,bu D.bool x36.H b25_1⟩,?_⟩
   conv=>whnf
   try rw[fT D.bool x36.H true]
   exact Ao
  exact Ao
 obtain⟨k29_1,h⟩:=p;exact Ao⟩
instance {a0 a1 a2}:LS (λrec1 s=>CB a0 a1 a2 rec1 s) 19 [0,1,7] (λs=>[(8,.d (.int .i64 s))]) [] (λs=>[]):=⟨trivial⟩
instance slices_IndexFunc_Lapi_CodeList_api_CodeList_w:CS prog 159 (∀(p0:List Am)(p1:Am->Option Bool)(f_p1:FuncId)(c_p1:List D)(R:Int)(h_p1:∀(a0:Am) r,p1 a0=some r->Ax prog f_p1 ([.d (Ah a0)]++c_p1.map .d) (.d (.bool r)))(h:B3 p0 p1=some R),Ax prog 159 [.d (An 2 Ah p0),.d (.fn f_p1 c_p1)] (.d (.int .i64 R))):=⟨λp0 p1 f_p1 c_p1 R h_p1 h=>by
 refine uD func159 ?_;unfold B3 at h;exact Ao⟩
instance slices_ContainsFunc_Lapi_CodeList_api_CodeList_w:CS prog 93 (∀(p0:List Am)(p1:Am->Option Bool)(f_p1:FuncId)(c_p1:List D)(R:Bool)(h_p1:∀(a0:Am) r,p1 a0=some r->Ax prog f_p1 ([.d (Ah a0)]++c_p1.map .d) (.d (.bool r)))(h:AT p0 p1=some R),Ax prog 93 [.d (An 2 Ah p0),.d (.fn f_p1 c_p1)] (.d (.bool R))):=⟨λp0 p1 f_p1 c_p1 R h_p1 h=>by
 refine uD func93 ?_;unfold AT at h;refine FV h (λ_=>slices_IndexFunc_Lapi_CodeList_api_CodeList_w.h _ _ _ _ _ h_p1) λx7 h=>?_;exact Ao⟩
instance schema_Check_c1_w:CS prog 94 (∀(p0:Am)(q0:Am)(R:Bool)(h:LJ p0 q0=some R),Ax prog 94 [.d (Ah p0),.d (.ptr [(.str q0.H),(An 2 DT q0.Q)])] (.d (.bool R))):=⟨λp0 q0 R h=>by
 refine uD func94 ?_;unfold LJ at h;exact Ao⟩
instance {a0 a1 a2}:LS (λrec1 s=>Dj a0 a1 a2 rec1 s) 19 [0,1,7] (λs=>[(8,.d (.int .i64 s))]) [] (λs=>[]):=⟨trivial⟩
instance slices_IndexFunc_Lapi_Column_api_Column_w:CS prog 236 (∀(p0:List Ar)(p1:Ar->Option Bool)(f_p1:FuncId)(c_p1:List D)(R:Int)(h_p1:∀(a0:Ar) r,p1 a0=some r->Ax prog f_p1 ([.d (Al a0)]++c_p1.map .d) (.d (.bool r)))(h:BF p0 p1=some R),Ax prog 236 [.d (An 7 Al p0),.d (.fn f_p1 c_p1)] (.d (.int .i64 R))):=⟨λp0 p1 f_p1 c_p1 R h_p1 h=>by
 refine uD func236 ?_;unfold BF at h;exact Ao⟩
instance slices_ContainsFunc_Lapi_Column_api_Column_w:CS prog 160 (∀(p0:List Ar)(p1:Ar->Option Bool)(f_p1:FuncId)(c_p1:List D)(R:Bool)(h_p1:∀(a0:Ar) r,p1 a0=some r->Ax prog f_p1 ([.d (Al a0)]++c_p1.map .d) (.d (.bool r)))(h:Be p0 p1=some R),Ax prog 160 [.d (An 7 Al p0),.d (.fn f_p1 c_p1)] (.d (.bool R))):=⟨λp0 p1 f_p1 c_p1 R h_p1 h=>by
 refine uD func160 ?_;unfold Be at h;refine FV h (λ_=>slices_IndexFunc_Lapi_Column_api_Column_w.h _ _ _ _ _ h_p1) λx7 h=>?_;exact Ao⟩
instance schema_checkColumn_c1_w:CS prog 161 (∀(p0:Ar)(q0:Ar)(R:Bool)(h:Hk p0 q0=some R),Ax prog 161 [.d (Al p0),.d (.ptr [(.str q0.H),(.int .i64 q0.Kind),(.int .i64 q0.Al),(.int .i64 q0.C),(.int .i64 q0.D),(An 1 (D.int .i64) q0.T),(.bool q0.Az)])] (.d (.bool R))):=⟨λp0 q0 R h=>by
 refine uD func161 ?_;unfold Hk at h;exact Ao⟩
instance {a0 a1}:LS (λrec1 s=>GD a0 a1 rec1 s.1 s.2) 68 [34,35] (λs=>[(3,.d (.int .i64 s.1)),(36,.d (.int .i64 s.2))]) [] (λs=>[]):=⟨trivial⟩
instance schema_checkMeasure_w:CS prog 162 (W1 prog 162 El):=⟨λp0 R h=>by
 refine uD func162 ?_;unfold El at h;exact Ao⟩
instance schema_unused_w:CS prog 163 (W1 prog 163 E6):=⟨λp0 R h=>by
 refine uD func163 ?_;unfold E6 at h;exact Ao⟩
instance schema_checkColumn_w:CS prog 95 (W2 prog 95 Fa):=⟨λp0 p1 R h=>by
 refine uD func95 ?_;unfold Fa at h;exact Ao⟩
instance {a0 a1}:LS (λrec1 s=>IY a0 a1 rec1 s) 63 [1,19,20] (λs=>[(21,.d (.int .i64 s))]) [1] (λs=>[]):=⟨trivial⟩
instance {a0 a1}:LS (λrec2 s=>IZ a0 a1 rec2 s) 63 [1,52] (λs=>[(53,.d (.int .i64 s))]) [1] (λs=>[]):=⟨trivial⟩
instance schema_Check_w:CS prog 46 (W1 prog 46 Cw):=⟨λp0 R h=>by
 refine Uv [12] func46 ?_;unfold Cw at h;refine DI h (λh=>?_) λh=>?_
 ·exact Ao
 refine Fl {p:Unit // LK p0=some R} (λp=>CJ 63 [(1,.ptr 1 1 0)] [(1,Bh p0,1)]) ?_ λp=>?_
 ·exact Ao
 obtain⟨_,h⟩:=p;exact Ao⟩
instance {a0 a1}:LS (λrec1 s=>Ku a0 a1 rec1 s.1 s.2) 25 [0] (λs=>[(3,.d (.int .i64 s.1)),(4,.d (.int .i64 s.2))]) [] (λs=>[]):=⟨trivial⟩
instance slices_Max_Lint_int_w:CS prog 239 (W1 prog 239 I6):=⟨λp0 R h=>by
 refine uD func239 ?_;unfold I6 at h;refine DI h (λh=>?_) λh=>?_
 ·conv=>whnf
  cases h
 exact Ao⟩
instance codes_Levels_w:CS prog 167 (W1 prog 167 Eo):=⟨λp0 R h=>by
 refine uD func167 ?_;unfold Eo at h;exact Ao⟩
instance schema_finest_w:CS prog 164 (W2 prog 164 FN):=⟨λp0 p1 R h=>by
 refine uD func164 ?_;unfold FN at h;exact Ao⟩
instance schema_pick_w:CS prog 96 (W2 prog 96 J5):=⟨λp0 p1 R h=>by
 refine uD func96 ?_;unfold J5 at h;exact Ao⟩
instance {a0 a1 a2}:LS (λrec1 s=>Ja a0 a1 a2 rec1 s) 41 [1,2,14,15] (λs=>[(16,.d (.int .i64 s))]) [2] (λs=>[]):=⟨trivial⟩
instance schema_Picks_w:CS prog 48 (W2 prog 48 Iy):=⟨λp0 p1 R h=>by
 refine uD func48 ?_;unfold Iy at h;exact Ao⟩
instance schema_width_w:CS prog 237 (W2 prog 237 GG):=⟨λp0 p1 R h=>by
 refine uD func237 ?_;unfold GG at h;exact Ao⟩
instance schema_down_w:CS prog 238 (W2 prog 238 E5):=⟨λp0 p1 R h=>by
 refine uD func238 ?_;unfold E5 at h;exact Ao⟩
instance schema_span_w:CS prog 165 (W3 prog 165 J6):=⟨λp0 p1 p2 R h=>by
 refine uD func165 ?_;unfold J6 at h;exact Ao⟩
instance {a0 a1 a2}:LS (λrec1 s=>Vm a0 a1 a2 rec1 s.1 s.2) 28 [1,5,12,13] (λs=>[(14,.d (.int .i64 s.1))]) [] (λs=>[(5,.row 1 3 (List.map (D.int .i64) s.2),1)]):=⟨trivial⟩
instance codes_At_w:CS prog 166 (W2 prog 166 Hx):=⟨λp0 p1 R h=>by
 refine uD func166 ?_;unfold Hx at h;exact Ao⟩
instance codes_has_w:CS prog 240 (W2 prog 240 K8):=⟨λp0 p1 R h=>by
 refine uD func240 ?_;unfold K8 at h;exact Ao⟩
instance {a0 a1 a2}:LS (λrec1 s=>Vn a0 a1 a2 rec1 s.1 s.2) 36 [2,3] (λs=>[(1,.d (.int .i64 s.1)),(7,.d (.int .i64 s.2))]) [3] (λs=>[]):=⟨trivial⟩
instance codes_Up_w:CS prog 168 (W3 prog 168 Hy):=⟨λp0 p1 p2 R h=>by
 refine uD func168 ?_;unfold Hy at h;exact Ao⟩
instance {a0 a1 a2 a3 a4}:LS (λrec1 s=>Nw a0 a1 a2 a3 a4 rec1 s) 68 [2,3,14,54,55] (λs=>[(56,.d (.int .i64 s))]) [14] (λs=>[]):=⟨trivial⟩
instance schema_Some_w:CS prog 97 (W4 prog 97 Ci):=⟨λp0 p1 p2 p3 R h=>by
 refine uD func97 ?_;unfold Ci at h;exact Ao⟩
instance {a0 a1 a2 a3}:LS (λrec1 s=>IP a0 a1 a2 a3 rec1 s) 53 [2,3,29,30] (λs=>[(31,.d (.int .i64 s))]) [3] (λs=>[]):=⟨trivial⟩
instance extract_fits_w:CS prog 49 (W3 prog 49 JG):=⟨λp0 p1 p2 R h=>by
 refine Uv [3] func49 ?_;unfold JG at h;refine Fl {p:Unit // LE p1 p2 p0=some R} (λp=>CJ 53 [(1,.d (An 2 Ag p1)),(2,.d (An 1 (D.int .i64) p2)),(3,.ptr 3 1 0)] [(3,Bh p0,1)]) ?_ λp=>?_
 ·exact Ao
 obtain⟨_,h⟩:=p;exact Ao⟩
instance {a0 a1 a2}:LS (λrec1 s=>Il a0 a1 a2 rec1 s) 70 [2,3,40,41] (λs=>[(42,.d (.int .i64 s))]) [2,3] (λs=>[]):=⟨trivial⟩
instance extract_Check_w:CS prog 19 (W2 prog 19 C5):=⟨λp0 p1 R h=>by
 refine uD func19 ?_;unfold C5 at h;exact Ao⟩
instance {a0 a1 a2 a3}:LS (λrec1 s=>G0 a0 a1 a2 a3 rec1 s.1 s.2) 27 [1,9,10] (λs=>[(5,.d (.int .i64 s.1)),(11,.d (.int .i64 s.2))]) [] (λs=>[]):=⟨trivial⟩
theorem S7(d:Nat)(self_condition_count:Aj->Int->Option Int)(ih:W2 prog 172 self_condition_count):W2 prog 172 (F1 d self_condition_count):=by
 intro p0 p1 R h;refine uD func172 ?_;unfold F1 at h;exact Ao
theorem MK:∀d:Nat,(W2 prog 172 (Fq d))
 | 0=>by
  exact z17
 | d+1=>by
  have ih:=MK d;exact S7 d _ ih
instance condition_count_w:CS prog 172 (∀(d:Nat),W2 prog 172 (Fq d)):=⟨λd=>MK d⟩
instance {a0 a1 a2}:LS (λrec1 s=>Ho a0 a1 a2 rec1 s.1 s.2) 20 [7,8] (λs=>[(3,.d (.int .i64 s.1)),(9,.d (.int .i64 s.2))]) [] (λs=>[]):=⟨trivial⟩
theorem Tz(d:Nat)(self_condition_deep:Aj->Option Int)(ih:W1 prog 173 self_condition_deep):W1 prog 173 (E9 d self_condition_deep):=by
 intro p0 R h;refine uD func173 ?_;unfold E9 at h;exact Ao
theorem N7:∀d:Nat,(W1 prog 173 (De d))
 | 0=>by
  exact z17
 | d+1=>by
  have ih:=N7 d;exact Tz d _ ih
instance condition_deep_w:CS prog 173 (∀(d:Nat),W1 prog 173 (De d)):=⟨λd=>N7 d⟩
instance condition_kids_w:CS prog 286 (W1 prog 286 ML):=⟨λp0 R h=>by
 refine uD func286 ?_;unfold ML at h;exact Ao⟩
instance condition_unused_w:CS prog 287 (W1 prog 287 K9):=⟨λp0 R h=>by
 refine uD func287 ?_;unfold K9 at h;exact Ao⟩
end Go.Proofs.YthchnhoalhbkcaaGreatDoor.P
