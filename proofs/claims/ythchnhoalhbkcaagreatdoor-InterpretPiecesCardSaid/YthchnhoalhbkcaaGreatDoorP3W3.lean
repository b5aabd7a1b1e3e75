/- P3W3 -/
import Derived.Test.YthchnhoalhbkcaaGreatDoorP3W2
open Go.Proofs.Tryz
set_option linter.unusedSimpArgs false
set_option linter.unusedVariables false
namespace Go.Proofs.YthchnhoalhbkcaaGreatDoor.P
open Go.Abs Go.Proofs
set_option maxRecDepth 100000
set_option maxHeartbeats 4000000
instance program_Right_w:CS prog 63 (∀d:Nat,W2 prog 63 (C7 d)):=⟨λd p0 p1 R h=>by
 refine uD func63 ?_;unfold C7 at h;exact Ao⟩
instance {a0 a1 a2}:LS (λrec1 s=>Cy a0 a1 a2 rec1 s) 19 [0,1,7] (λs=>[(8,.d (.int .i64 s))]) [] (λs=>[]):=⟨trivial⟩
instance slices_IndexFunc_Lapi_Statement_api_Statement_w:CS prog 169 (∀(p0:List Au)(p1:Au->Option Bool)(f_p1:FuncId)(c_p1:List D)(R:Int)(h_p1:∀(a0:Au) r,p1 a0=some r->Ax prog f_p1 ([.d (B5 a0)]++c_p1.map .d) (.d (.bool r)))(h:Bn p0 p1=some R),Ax prog 169 [.d (An 21 B5 p0),.d (.fn f_p1 c_p1)] (.d (.int .i64 R))):=⟨λp0 p1 f_p1 c_p1 R h_p1 h=>by
 refine uD func169 ?_;unfold Bn at h;exact Ao⟩
instance slices_ContainsFunc_Lapi_Statement_api_Statement_w:CS prog 99 (∀(p0:List Au)(p1:Au->Option Bool)(f_p1:FuncId)(c_p1:List D)(R:Bool)(h_p1:∀(a0:Au) r,p1 a0=some r->Ax prog f_p1 ([.d (B5 a0)]++c_p1.map .d) (.d (.bool r)))(h:AN p0 p1=some R),Ax prog 99 [.d (An 21 B5 p0),.d (.fn f_p1 c_p1)] (.d (.bool R))):=⟨λp0 p1 f_p1 c_p1 R h_p1 h=>by
 refine uD func99 ?_;unfold AN at h;refine FV h (λ_=>slices_IndexFunc_Lapi_Statement_api_Statement_w.h _ _ _ _ _ h_p1) λx7 h=>?_;exact Ao⟩
instance program_checkOne_c1_c1_w:CS prog 100 (∀(p0:Au)(q0:ByteArray)(R:Bool)(h:Eu p0 q0=some R),Ax prog 100 [.d (B5 p0),.d (.ptr [(.str q0)])] (.d (.bool R))):=⟨λp0 q0 R h=>by
 refine uD func100 ?_;unfold Eu at h;exact Ao⟩
instance program_checkOne_c1_w:CS prog 98 (∀(p0:ByteArray)(q0:List Au)(R:Bool)(h:C1 p0 q0=some R),Ax prog 98 [.d (.str p0),.d (.ptr [(An 21 B5 q0)])] (.d (.bool R))):=⟨λp0 q0 R h=>by
 refine uD func98 ?_;unfold C1 at h;exact Ao⟩
instance {a0 a1 a2 a3}:LS (λrec1 s=>Gm a0 a1 a2 a3 rec1 s.1 s.2) 27 [1,9,10] (λs=>[(5,.d (.int .i64 s.1)),(11,.d (.int .i64 s.2))]) [] (λs=>[]):=⟨trivial⟩
theorem UF(d:Nat)(self_program_count:Ap->Int->Option Int)(ih:W2 prog 101 self_program_count):W2 prog 101 (Eg d self_program_count):=by
 intro p0 p1 R h;refine uD func101 ?_;unfold Eg at h;exact Ao
theorem OD:∀d:Nat,(W2 prog 101 (E0 d))
 | 0=>by
  exact z17
 | d+1=>by
  have ih:=OD d;exact UF d _ ih
instance program_count_w:CS prog 101 (∀(d:Nat),W2 prog 101 (E0 d)):=⟨λd=>OD d⟩
instance {a0 a1 a2}:LS (λrec1 s=>GT a0 a1 a2 rec1 s.1 s.2) 20 [7,8] (λs=>[(3,.d (.int .i64 s.1)),(9,.d (.int .i64 s.2))]) [] (λs=>[]):=⟨trivial⟩
theorem VU(d:Nat)(self_program_deep:Ap->Option Int)(ih:W1 prog 102 self_program_deep):W1 prog 102 (EQ d self_program_deep):=by
 intro p0 R h;refine uD func102 ?_;unfold EQ at h;exact Ao
theorem PQ:∀d:Nat,(W1 prog 102 (FD d))
 | 0=>by
  exact z17
 | d+1=>by
  have ih:=PQ d;exact VU d _ ih
instance program_deep_w:CS prog 102 (∀(d:Nat),W1 prog 102 (FD d)):=⟨λd=>PQ d⟩
theorem UG(d:Nat)(self_program_named:Ap->(ByteArray->Option Bool)->Option Bool)(ih:∀(p0:Ap)(p1:ByteArray->Option Bool)(f_p1:FuncId)(c_p1:List D)(R:Bool)(h_p1:∀(a0:ByteArray) r,p1 a0=some r->Ax prog f_p1 ([.d (.str a0)]++c_p1.map .d) (.d (.bool r))),self_program_named p0 p1=some R->Ax prog 103 [.d (AO p0),.d (.fn f_p1 c_p1)] (.d (.bool R)))(self_program_named_c1:Ap->(ByteArray->Option Bool)->Option Bool)(ih1:∀(p0:Ap)(q0:ByteArray->Option Bool)(f_q0:FuncId)(c_q0:List D)(R:Bool)(h_q0:∀(a0:ByteArray) r,q0 a0=some r->Ax prog f_q0 ([.d (.str a0)]++c_q0.map .d) (.d (.bool r))),self_program_named_c1 p0 q0=some R->Ax prog 171 [.d (AO p0),.d (.ptr [.fn f_q0 c_q0])] (.d (.bool R)))(p0:Ap)(p1:ByteArray->Option Bool)(f_p1:FuncId)(c_p1:List D)(R:Bool)(h_p1:∀(a0:ByteArray) r,p1 a0=some r->Ax prog f_p1 ([.d (.str a0)]++c_p1.map .d) (.d (.bool r)))(h:Eh d self_program_named self_program_named_c1 p0 p1=some R):Ax prog 103 [.d (AO p0),.d (.fn f_p1 c_p1)] (.d (.bool R)):=by
 refine uD func103 ?_;unfold Eh at h;refine DI h (λh=>?_) λh=>?_
 ·conv=>whnf
  rw[Ts];refine FV h (λ_=>h_p1 _ _) λx12 h=>?_;refine DI h (λh=>?_) λh=>?_
  ·exact Ao
  conv=>whnf
  exact z32
 exact z32
theorem R3(d:Nat)(self_program_named:Ap->(ByteArray->Option Bool)->Option Bool)(ih:∀(p0:Ap)(p1:ByteArray->Option Bool)(f_p1:FuncId)(c_p1:List D)(R:Bool)(h_p1:∀(a0:ByteArray) r,p1 a0=some r->Ax prog f_p1 ([.d (.str a0)]++c_p1.map .d) (.d (.bool r))),self_program_named p0 p1=some R->Ax prog 103 [.d (AO p0),.d (.fn f_p1 c_p1)] (.d (.bool R)))(self_program_named_c1:Ap->(ByteArray->Option Bool)->Option Bool)(ih1:∀(p0:Ap)(q0:ByteArray->Option Bool)(f_q0:FuncId)(c_q0:List D)(R:Bool)(h_q0:∀(a0:ByteArray) r,q0 a0=some r->Ax prog f_q0 ([.d (.str a0)]++c_q0.map .d) (.d (.bool r))),self_program_named_c1 p0 q0=some R->Ax prog 171 [.d (AO p0),.d (.ptr [.fn f_q0 c_q0])] (.d (.bool R)))(p0:Ap)(q0:ByteArray->Option Bool)(f_q0:FuncId)(c_q0:List D)(R:Bool)(h_q0:∀(a0:ByteArray) r,q0 a0=some r->Ax prog f_q0 ([.d (.str a0)]++c_q0.map .d) (.d (.bool r)))(h:ER d self_program_named self_program_named_c1 p0 q0=some R):Ax prog 171 [.d (AO p0),.d (.ptr [.fn f_q0 c_q0])] (.d (.bool R)):=by
 refine uD func171 ?_;unfold ER at h
 conv=>whnf
 refine Bp h λx6 hx6 h=>?_
 first|refine A0 (ih _ _ _ _ _ h_q0 hx6) ?_|(simp only[pX];refine A0 (ih _ _ _ _ _ h_q0 hx6) ?_)
 exact Ao
theorem CY:∀d:Nat,(∀(p0:Ap)(p1:ByteArray->Option Bool)(f_p1:FuncId)(c_p1:List D)(R:Bool)(h_p1:∀(a0:ByteArray) r,p1 a0=some r->Ax prog f_p1 ([.d (.str a0)]++c_p1.map .d) (.d (.bool r))),Dc d p0 p1=some R->Ax prog 103 [.d (AO p0),.d (.fn f_p1 c_p1)] (.d (.bool R)))/\(∀(p0:Ap)(q0:ByteArray->Option Bool)(f_q0:FuncId)(c_q0:List D)(R:Bool)(h_q0:∀(a0:ByteArray) r,q0 a0=some r->Ax prog f_q0 ([.d (.str a0)]++c_q0.map .d) (.d (.bool r))),Cv d p0 q0=some R->Ax prog 171 [.d (AO p0),.d (.ptr [.fn f_q0 c_q0])] (.d (.bool R)))
 | 0=>by
  refine⟨?_,?_⟩<;>((repeat intro _);rename_i h;cases h)
 | d+1=>by
  have ih:=CY d;exact⟨UG d _ (ih).1 _ (ih).2,R3 d _ (ih).1 _ (ih).2⟩
instance program_named_w:CS prog 103 (∀(d:Nat),∀(p0:Ap)(p1:ByteArray->Option Bool)(f_p1:FuncId)(c_p1:List D)(R:Bool)(h_p1:∀(a0:ByteArray) r,p1 a0=some r->Ax prog f_p1 ([.d (.str a0)]++c_p1.map .d) (.d (.bool r))),Dc d p0 p1=some R->Ax prog 103 [.d (AO p0),.d (.fn f_p1 c_p1)] (.d (.bool R))):=⟨λd=>(CY d).1⟩
instance program_named_c1_w:CS prog 171 (∀(d:Nat),∀(p0:Ap)(q0:ByteArray->Option Bool)(f_q0:FuncId)(c_q0:List D)(R:Bool)(h_q0:∀(a0:ByteArray) r,q0 a0=some r->Ax prog f_q0 ([.d (.str a0)]++c_q0.map .d) (.d (.bool r))),Cv d p0 q0=some R->Ax prog 171 [.d (AO p0),.d (.ptr [.fn f_q0 c_q0])] (.d (.bool R))):=⟨λd=>(CY d).2⟩
instance program_checkOne_w:CS prog 50 (∀d:Nat,W3 prog 50 (It d)):=⟨λd p0 p1 p2 R h=>by
 refine uD func50 ?_;unfold It at h;exact Ao⟩
instance {a0 a1 a2 a3}:LS (λrec1 s=>OC a0 a1 a2 a3 rec1 s) 38 [1,2,18,19] (λs=>[(20,.d (.int .i64 s))]) [2] (λs=>[]):=⟨trivial⟩
instance program_Check_w:CS prog 20 (∀d:Nat,W2 prog 20 (Hf d)):=⟨λd p0 p1 R h=>by
 refine uD func20 ?_;unfold Hf at h;exact Ao⟩
instance condition_Covers_c1_c1_w:CS prog 136 (∀(p0:Ad)(q0:Ad)(R:Bool)(h:Ep p0 q0=some R),Ax prog 136 [.d (Ag p0),.d (.ptr [(.int .i64 q0.B),(.int .i64 q0.S)])] (.d (.bool R))):=⟨λp0 q0 R h=>by
 refine uD func136 ?_;unfold Ep at h;exact Ao⟩
instance condition_Covers_c1_w:CS prog 135 (∀(p0:Ad)(q0:List Ad)(R:Bool)(h:FS p0 q0=some R),Ax prog 135 [.d (Ag p0),.d (.ptr [(An 2 Ag q0)])] (.d (.bool R))):=⟨λp0 q0 R h=>by
 refine uD func135 ?_;unfold FS at h;exact Ao⟩
instance condition_Covers_w:CS prog 64 (W2 prog 64 BU):=⟨λp0 p1 R h=>by
 refine uD func64 ?_;unfold BU at h;exact Ao⟩
instance {a0 a1 a2}:LS (λrec1 s=>MF a0 a1 a2 rec1 s.1 s.2) 34 [3,22,23] (λs=>[(24,.d (.int .i64 s.1))]) [] (λs=>[(3,.row 6 63 (List.map A4 s.2),1)]):=⟨trivial⟩
theorem S6(d:Nat)(self_condition_Atoms:Aj->Option (List Aj))(ih:W1 prog 175 self_condition_Atoms):W1 prog 175 (F0 d self_condition_Atoms):=by
 intro p0 R h;refine uD func175 ?_;unfold F0 at h;exact Ao
theorem MG:∀d:Nat,(W1 prog 175 (Fp d))
 | 0=>by
  exact z17
 | d+1=>by
  have ih:=MG d;exact S6 d _ ih
instance condition_Atoms_w:CS prog 175 (∀(d:Nat),W1 prog 175 (Fp d)):=⟨λd=>MG d⟩
instance condition_truth_w:CS prog 288 (W1 prog 288 Dm):=⟨λp0 R h=>by
 refine uD func288 ?_;unfold Dm at h;exact Ao⟩
instance codes_Under_w:CS prog 289 (W3 prog 289 Fz):=⟨λp0 p1 p2 R h=>by
 refine uD func289 ?_;unfold Fz at h;exact Ao⟩
instance condition_Atom_w:CS prog 243 (W3 prog 243 Dd):=⟨λp0 p1 p2 R h=>by
 refine uD func243 ?_;unfold Dd at h;exact Ao⟩
instance condition_width_w:CS prog 244 (W2 prog 244 GL):=⟨λp0 p1 R h=>by
 refine uD func244 ?_;unfold GL at h;exact Ao⟩
instance condition_down_w:CS prog 245 (W2 prog 245 DO):=⟨λp0 p1 R h=>by
 refine uD func245 ?_;unfold DO at h;exact Ao⟩
instance condition_suffices_w:CS prog 176 (W3 prog 176 B7):=⟨λp0 p1 p2 R h=>by
 refine uD func176 ?_;unfold B7 at h;refine Sy (f:=Al) h λx23 _ h=>?_;refine DI h (λh=>?_) λh=>?_
 ·refine Sy (f:=Ah) h λx32 _ h=>?_
  conv=>whnf
  refine z14 ?_;refine FV h (λ_=>codes_Levels_w.h _ _) λx37 h=>?_;refine FV h (λ_=>codes_At_w.h _ _ _) λx39 h=>?_
  conv=>whnf
  refine z7 h (λp=>CJ 134 [(2,.d (.int .i64 p2)),(3,.ptr 3 1 0),(4,.ptr 4 1 0),(8,.ptr 8 1 0),(9,.sl 34 1),(39,.d (An 1 (D.int .i64) x39)),(40,.d (.int .i64 (x39.length:Int))),(41,.d (.int .i64 p.1))] [(3,Bh p0,1),(4,OU p1,1),(8,Kx x32,1),(34,.map (jZ .i64 (D.int .i64) p.2),1)]) Bw λ_ _ ⟨v41_1,b34_1⟩ h=>?_;simp only[Hh]at h;refine DI h (λh=>?_) λh=>?_
  ·refine Sy (f:=(D.int .i64)) h λx43 _ h=>?_
   conv=>whnf
   refine z14 ?_;refine FV h (λ_=>codes_Up_w.h _ _ _ _) λx48 h=>?_;refine FV h (λ_=>condition_Atom_w.h _ _ _ _) λx52 h=>?_
   conv=>whnf
   refine⟨⟨by kernel_rfl,O8 .i64 (D.int .i64) x48 b34_1⟩,?_⟩
   conv=>whnf
   refine TR (f:=(D.int .i64)) (es:=b34_1) (z:=0) ?_;refine DI h (λh=>?_) λh=>?_
   ·exact Ao
   conv=>whnf
   refine⟨⟨by rfl,by kernel_rfl,O8 .i64 (D.int .i64) x48 b34_1⟩,?_⟩
   conv=>whnf
   try rw[ZP .i64 (D.int .i64) x48 x52]
   exact Ao
  exact Ao
 exact Ao⟩
instance {a0 a1 a2}:LS (λrec1 s=>MH a0 a1 a2 rec1 s.1 s.2) 63 [2,5,21,22] (λs=>[(23,.d (.int .i64 s.1))]) [2] (λs=>[(19,.row 1 3 (List.map (D.int .i64) s.2),1)]):=⟨trivial⟩
instance {a0 a1 a2}:LS (λrec2 s=>MI a0 a1 a2 rec2 s) 63 [2,5,7,21,22,23] (λs=>[(8,.d (.int .i64 s))]) [2,7,19] (λs=>[]):=⟨trivial⟩
instance {a0 a1}:LS (λrec3 s=>MJ a0 a1 rec3 s.1 s.2) 63 [9,46,47] (λs=>[(48,.d (.int .i64 s.1))]) [19] (λs=>[(9,.row 2 115 (List.map Ag s.2),1)]):=⟨trivial⟩
instance condition_Needs_w:CS prog 105 (∀d:Nat,W2 prog 105 (BS d)):=⟨λd p0 p1 R h=>by
 refine uD func105 ?_;unfold BS at h;exact Ao⟩
instance {a0 a1 a2}:LS (λrec1 s=>KT a0 a1 a2 rec1 s) 31 [2,7,16,17] (λs=>[(18,.d (.int .i64 s))]) [] (λs=>[]):=⟨trivial⟩
instance types_LevelOf_w:CS prog 121 (W3 prog 121 Hg):=⟨λp0 p1 p2 R h=>by
 refine uD func121 ?_;unfold Hg at h;exact Ao⟩
instance schema_Finest_w:CS prog 182 (W2 prog 182 E2):=⟨λp0 p1 R h=>by
 refine uD func182 ?_;unfold E2 at h;exact Ao⟩
instance schema_blocks_w:CS prog 273 (W3 prog 273 E4):=⟨λp0 p1 p2 R h=>by
 refine uD func273 ?_;unfold E4 at h;exact Ao⟩
instance {a0 a1 a2}:LS (λrec1 s=>PX a0 a1 a2 rec1 s) 35 [1,3] (λs=>[(2,.d (.int .i64 s))]) [3] (λs=>[]):=⟨trivial⟩
instance schema_Least_w:CS prog 216 (W3 prog 216 FH):=⟨λp0 p1 p2 R h=>by
 refine uD func216 ?_;unfold FH at h;exact Ao⟩
instance types_own_c1_w:CS prog 215 (∀(p0:Int)(q0:List Ad)(q1:Aa)(R:List Ad)(h:CI p0 q0 q1=some R),UZ prog 215 [.d (.int .i64 p0),.any,.d (.ptr [(An 2 Ah q1.J),(An 7 Al q1.A)])] 1 2 115 (List.map Ag q0) (List.map Ag R)):=⟨λp0 q0 q1 R h=>by
 refine pe [] 0 func215 (by kernel_rfl) rfl rfl (by simp) (by decide) rfl ?_;unfold CI at h
 conv=>whnf
 refine z14 ?_;refine FV h (λ_=>schema_Finest_w.h _ _ _) λx10 h=>?_;refine FV h (λ_=>schema_Least_w.h _ _ _ _) λx11 h=>?_
 conv=>whnf
 refine Te h λhr h=>?_;refine z8 ?_
 try rw[P5]
 conv=>whnf
 obtain rfl:=P3 h;exact⟨rfl,rfl,rfl,rfl,by first|rfl|(simp only[pX];done)|(simp only[pX];rfl)⟩⟩
end Go.Proofs.YthchnhoalhbkcaaGreatDoor.P
