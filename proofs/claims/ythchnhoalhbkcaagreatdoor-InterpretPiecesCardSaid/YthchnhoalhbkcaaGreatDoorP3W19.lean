/- P3W19 -/
import Derived.Test.YthchnhoalhbkcaaGreatDoorP3W18
open Go.Proofs.Tryz
set_option linter.unusedSimpArgs false
set_option linter.unusedVariables false
namespace Go.Proofs.YthchnhoalhbkcaaGreatDoor.P
open Go.Abs Go.Proofs
set_option maxRecDepth 100000
set_option maxHeartbeats 4000000
instance draw_New_w:CS prog 4 (∀(p0:List Int)(R:Ab)(h:Qo p0=some R),Ax prog 4 [.d (An 1 (D.int .u8) p0)] (.optr [(An 1 (D.int .u8) R.Ak),(.int .i64 R.Ai)])):=⟨λp0 R h=>by
 refine uD func4 ?_;unfold Qo at h;exact Ao⟩
instance draw_Codes_Next_w:CS prog 15 (V1 prog 15 A8):=⟨λp0 p1 R h=>by
 refine pn [3] func15 ?_;unfold A8 at h;refine Fl {p:Unit // Jj p0 p1=some R} (λp=>CJ 77 [(0,.ptr 0 0 0),(1,.d (.int .i64 p1))] [(0,Ih p0,0)]) ?_ λp=>?_
 ·exact Ao
 obtain⟨_,h⟩:=p;exact Ao⟩
instance draw_Codes_One_w:CS prog 17 (V1 prog 17 BL):=⟨λp0 p1 R h=>by
 refine uF func17 ?_;unfold BL at h;exact Ao⟩
instance draw_Codes_Range_w:CS prog 71 (V2 prog 71 AR):=⟨λp0 p1 p2 R h=>by
 refine uF func71 ?_;unfold AR at h;exact Ao⟩
instance {a0 a1}:LS (λrec1 s=>G1 a0 a1 rec1 s.1 s.2) 58 [0,4,5,6] (λs=>[(7,.d (.int .i64 s.1))]) [0,4,5] (λs=>[(12,.row 2 231 (List.map DT s.2),1)]):=⟨trivial⟩
instance {a0 a1}:LS (λrec2 s=>G2 a0 a1 rec2 s.1 s.2.1 s.2.2) 58 [0,4,5,6] (λs=>[(8,.d (.int .i64 s.1))]) [4,5] (λs=>[(0,.var [.d (An 1 (D.int .u8) s.2.1.Ak),.d (.int .i64 s.2.1.Ai)],0),(12,.row 2 231 (List.map DT s.2.2),1)]):=⟨trivial⟩
instance {a0 a1}:LS (λrec3 s=>Jh a0 a1 rec3 s.1 s.2) 58 [0,4,5,6,8] (λs=>[(9,.d (.int .i64 s.1))]) [0,4,5] (λs=>[(12,.row 2 231 (List.map DT s.2),1)]):=⟨trivial⟩
instance draw_Codes_List_w:CS prog 70 (V1 prog 70 Fs):=⟨λp0 p1 R h=>by
 refine pn [7] func70 ?_;unfold Fs at h
 conv=>whnf
 refine⟨.inr ?_⟩;refine iH h (λ_=>draw_Codes_Range_w.h _ _ _ _) λx15 h=>?_;refine Fl {p:(List DG) // Ji x15 p1 p=some R} (λp=>CJ 58 [(0,.ptr 0 0 0),(4,.ptr 4 1 0),(5,.ptr 5 1 0),(6,.d (.int .i64 x15.1))] [(0,Ih x15.2,0),(4,.var [.d (.str ByteArray.empty),.d (.nil 2)],1),(5,.var [.d (.str p1),.sl 12 1],1),(12,.row 2 231 (List.map DT p.1),1)]) ?_ λp=>?_
 ·exact Ao
 obtain⟨k12_1,h⟩:=p;exact Ao⟩
instance draw_Codes_Measure_w:CS prog 72 (V1 prog 72 D8):=⟨λp0 p1 R h=>by
 refine bK func72 (by kernel_rfl) rfl ?_ ?_
 ·intro i x y hx hy
  match i,hx,hy with
  | 0,hx,hy=>simp at hx hy;subst hx;subst hy;exact⟨_,rfl,rfl⟩
  | 1,hx,hy=>simp at hx hy;subst hx;subst hy;trivial
  | i+2,hx,hy=>simp at hx
 unfold D8 at h
 conv=>whnf
 refine z14 ?_;refine iH h (λ_=>draw_Codes_Range_w.h _ _ _ _) λx8 h=>?_;refine iH h (λ_=>draw_Codes_Next_w.h _ _ _) λx15 h=>?_;refine OQ (f:=(An 1 (D.int .i64))) h FK λx16 hx16 h=>?_;refine Yo (f:=(An 1 (D.int .i64))) hx16 FK ?_;refine iH h (λ_=>draw_Codes_One_w.h _ _ _) λx19 h=>?_
 conv=>whnf
 refine z14 ?_;refine iH h (λ_=>draw_Codes_Next_w.h _ _ _) λx24 h=>?_
 conv=>whnf
 obtain rfl:=P3 h;refine z12 ?_
 conv=>whnf
 exact⟨fJ⟩⟩
instance draw_Codes_Schema_w:CS prog 30 (V0 prog 30 F6):=⟨λp0 R h=>by
 refine bK func30 (by kernel_rfl) rfl ?_ ?_
 ·intro i x y hx hy
  match i,hx,hy with
  | 0,hx,hy=>simp at hx hy;subst hx;subst hy;exact⟨_,rfl,rfl⟩
  | i+1,hx,hy=>simp at hx
 unfold F6 at h;refine iH h (λ_=>draw_Codes_List_w.h _ _ _) λx6 h=>?_;refine iH h (λ_=>draw_Codes_List_w.h _ _ _) λx8 h=>?_
 conv=>whnf
 refine⟨.inr ?_⟩;refine iH h (λ_=>draw_Codes_One_w.h _ _ _) λx15 h=>?_;refine DI h (λh=>?_) λh=>?_
 ·conv=>whnf
  refine Te h λhr h=>?_;refine z8 ?_
  try rw[Mu]
  conv=>whnf
  refine Bp h λx23 hx23 h=>?_;refine Hm (draw_Codes_Range_w.h _ _ _ _ hx23) ?_
  conv=>whnf
  refine z7 h (λp=>CJ 41 [(0,.ptr 0 0 0),(2,.ptr 2 1 0),(3,.ptr 3 1 0),(4,.d (.int .i64 p.1))] [(0,.var [.d (An 1 (D.int .u8) p.2.1.Ak),.d (.int .i64 p.2.1.Ai)],0),(2,.var [.d (.nil 2),.d (.nil 7)],1),(3,.var [.sl 9 1,.sl 12 1],1),(9,.row 2 163 (List.map Ah [x6.1,x8.1]),1),(12,.row 7 102 (List.map Al p.2.2),1)]) CC λ_ _ ⟨v4_1,w0_1,b12_1⟩ h=>?_;simp only[F7]at h;refine DI h (λh=>?_) λh=>?_
  ·conv=>whnf
   refine z14 ?_
   conv=>whnf
   refine Bp h λx34 hx34 h=>?_
   first|refine A0 (Gr _ _ hx34) ?_|(simp only[pX];refine A0 (Gr _ _ hx34) ?_)
   conv=>whnf
   refine Te h λhr h=>?_;refine⟨pZ hr,?_⟩
   conv=>whnf
   refine Bp h λx36 hx36 h=>?_;refine Hm (draw_Codes_Measure_w.h _ _ _ hx36) ?_
   conv=>whnf
   refine Te h λhr h=>?_;refine z8 ?_
   try rw[Mu]
   conv=>whnf
   exact fZ ⟨(_,(_,_,_)),h⟩ CC
  conv=>whnf
  refine⟨.inl ?_⟩
  conv=>whnf
  obtain rfl:=P3 h;refine z12 ?_
  conv=>whnf
  exact⟨fJ⟩
 conv=>whnf
 refine Bp h λx23 hx23 h=>?_;refine Hm (draw_Codes_Range_w.h _ _ _ _ hx23) ?_
 conv=>whnf
 refine z7 h (λp=>CJ 41 [(0,.ptr 0 0 0),(2,.ptr 2 1 0),(3,.ptr 3 1 0),(4,.d (.int .i64 p.1))] [(0,.var [.d (An 1 (D.int .u8) p.2.1.Ak),.d (.int .i64 p.2.1.Ai)],0),(2,.var [.d (.nil 2),.d (.nil 7)],1),(3,.var [.sl 9 1,.sl 12 1],1),(9,.row 2 163 (List.map Ah [x6.1,x8.1]),1),(12,.row 7 102 (List.map Al p.2.2),1)]) CC λ_ _ ⟨v4_2,w0_2,b12_2⟩ h=>?_;simp only[Lr]at h;refine DI h (λh=>?_) λh=>?_
 ·conv=>whnf
  refine z14 ?_
  conv=>whnf
  refine Bp h λx34 hx34 h=>?_
  first|refine A0 (Gr _ _ hx34) ?_|(simp only[pX];refine A0 (Gr _ _ hx34) ?_)
  conv=>whnf
  refine Te h λhr h=>?_;refine⟨pZ hr,?_⟩
  conv=>whnf
  refine Bp h λx36 hx36 h=>?_;refine Hm (draw_Codes_Measure_w.h _ _ _ hx36) ?_
  conv=>whnf
  refine Te h λhr h=>?_;refine z8 ?_
  try rw[Mu]
  conv=>whnf
  exact fZ ⟨(_,(_,_,_)),h⟩ CC
 conv=>whnf
 refine⟨.inl ?_⟩
 conv=>whnf
 obtain rfl:=P3 h;refine z12 ?_
 conv=>whnf
 exact⟨fJ⟩⟩
instance draw_Codes_Value_w:CS prog 73 (V2 prog 73 Gd):=⟨λp0 p1 p2 R h=>by
 refine uF func73 ?_;unfold Gd at h;exact Ao⟩
instance draw_Codes_Row_w:CS prog 32 (∀(p0:Ab)(p1:Aa)(R:(List Int)×Ab)(h:H4 p0 p1=some R),Dl prog 32 [.optr [(An 1 (D.int .u8) p0.Ak),(.int .i64 p0.Ai)],.d (Cq p1)] [.optr [(An 1 (D.int .u8) R.2.Ak),(.int .i64 R.2.Ai)],.any] (.own 1 3 (List.map (D.int .i64) R.1))):=⟨λp0 p1 R h=>by
 refine uF func32 ?_;unfold H4 at h
 conv=>whnf
 refine z7 h (λp=>CJ 22 [(0,.ptr 0 0 0),(3,.ptr 3 1 0),(5,.sl 5 1),(9,.d (.int .i64 (p1.A.length:Int))),(10,.d (.int .i64 p.1))] [(0,Ih p.2.1,0),(3,Bh p1,1),(5,.row 1 3 (List.map (D.int .i64) p.2.2),1)]) CC λ_ _ ⟨v10_1,w0_1,b5_1⟩ h=>?_;simp only[Hp]at h;refine DI h (λh=>?_) λh=>?_
 ·exact Ao
 conv=>whnf
 obtain rfl:=P3 h;refine z12 ?_
 conv=>whnf
 refine⟨.inr ?_⟩
 conv=>whnf
 refine z9 ?_
 conv=>whnf
 exact⟨fJ⟩⟩
instance {a0 a1}:LS (λrec1 s=>H5 a0 a1 rec1 s.1 s.2.1 s.2.2) 28 [0,4,5,6] (λs=>[(7,.d (.int .i64 s.1))]) [4,5] (λs=>[(0,.var [.d (An 1 (D.int .u8) s.2.1.Ak),.d (.int .i64 s.2.1.Ai)],0),(6,.var [.d (An 2 Ah a0.1.J),.d (An 7 Al a0.1.A),.d (An 1 (An 1 (D.int .i64)) s.2.2),.d (.nil 1),.d (.int .i64 0)],1)]):=⟨trivial⟩
instance draw_Codes_Source_w:CS prog 11 (V1 prog 11 F9):=⟨λp0 p1 R h=>by
 refine uF func11 ?_;unfold F9 at h;exact Ao⟩
instance {a0 a1}:LS (λrec1 s=>N9 a0 a1 rec1 s.1 s.2) 33 [1,2,4,5] (λs=>[(6,.d (.int .i64 s.1))]) [1,2,4] (λs=>[(5,.row 2 115 (List.map Ag s.2),1)]):=⟨trivial⟩
instance draw_All_w:CS prog 12 (W1 prog 12 Qm):=⟨λp0 R h=>by
 refine uD func12 ?_;unfold Qm at h;exact Ao⟩
instance draw_Codes_Secret_w:CS prog 14 (V0 prog 14 F8):=⟨λp0 R h=>by
 refine uF func14 ?_;unfold F8 at h;exact Ao⟩
instance draw_Codes_Whole_w:CS prog 5 (∀(d:Nat)(p0:Ab)(p1:Int)(R:BW×As×Ab)(h:Ge d p0 p1=some R),Dl prog 5 [.optr [(An 1 (D.int .u8) p0.Ak),(.int .i64 p0.Ai)],.d (.int .i64 p1)] [.optr [(An 1 (D.int .u8) R.2.2.Ak),(.int .i64 R.2.2.Ai)],.any] (.tup [.d (Jk R.1),.d (Do R.2.1)])):=⟨λd p0 p1 R h=>by
 refine uF func5 ?_;unfold Ge at h;exact Ao⟩
instance {a0 a1 a2}:LS (λrec1 s=>Dn a0 a1 a2 rec1 s.1 s.2) 27 [1,2,5,9] (λs=>[(10,.d (.int .i64 s.1))]) [2] (λs=>[(5,.row 1 3 (List.map (D.int .i64) s.2),1)]):=⟨trivial⟩
instance draw_columns_w:CS prog 90 (W2 prog 90 Cm):=⟨λp0 p1 R h=>by
 refine uD func90 ?_;unfold Cm at h;exact Ao⟩
instance draw_Codes_Measured_w:CS prog 41 (V1 prog 41 Bi):=⟨λp0 p1 R h=>by
 refine uF func41 ?_;unfold Bi at h;exact Ao⟩
instance {a0 a1 a2 a3}:LS (λrec1 s=>MN a0 a1 a2 a3 rec1 s.1 s.2.1 s.2.2) 42 [0,3,5,6,19] (λs=>[(20,.d (.int .i64 s.1))]) [3] (λs=>[(0,.var [.d (An 1 (D.int .u8) s.2.1.Ak),.d (.int .i64 s.2.1.Ai)],0),(5,.row 2 115 (List.map Ag s.2.2),1)]):=⟨trivial⟩
instance {a0 a1 a2}:LS (λrec2 s=>EJ a0 a1 a2 rec2 s.1 s.2.1 s.2.2) 42 [0,3,5,6,19] (λs=>[(20,.d (.int .i64 s.1))]) [3] (λs=>[(0,.var [.d (An 1 (D.int .u8) s.2.1.Ak),.d (.int .i64 s.2.1.Ai)],0),(5,.row 2 115 (List.map Ag s.2.2),1)]):=⟨trivial⟩
instance draw_Codes_Dims_w:CS prog 42 (V1 prog 42 Ee):=⟨λp0 p1 R h=>by
 refine uF func42 ?_;unfold Ee at h;exact Ao⟩
instance draw_Codes_Coded_w:CS prog 91 (V1 prog 91 Ga):=⟨λp0 p1 R h=>by
 refine uF func91 ?_;unfold Ga at h;exact Ao⟩
theorem SB(d:Nat)(self_draw_Codes_Cond:Ab->Aa->Int->Option (Aj×Ab))(ih:V2 prog 43 self_draw_Codes_Cond):V2 prog 43 (Df d self_draw_Codes_Cond):=by
 intro p0 p1 p2 R h;refine pn [9] func43 ?_;unfold Df at h;refine Fl {p:Ab // EI p1 p=some R} (λp=>CJ 111 [(0,.ptr 0 0 0),(4,.ptr 4 1 0),(6,.ptr 6 1 0)] [(0,Ih p.1,0),(4,Bh p1,1),(6,.var [.d (.int .i64 0),.d (.int .i64 0),.d (.int .i64 0),.d (.int .i64 0),.d (.int .i64 0),.d (.nil 6)],1)]) ?_ λp=>?_
 ·exact Ao
 obtain⟨k0_1,h⟩:=p;exact Ao
theorem MM:∀d:Nat,(V2 prog 43 (AP d))
 | 0=>by
  exact z17
 | d+1=>by
  have ih:=MM d;exact SB d _ ih
instance draw_Codes_Cond_w:CS prog 43 (∀(d:Nat),V2 prog 43 (AP d)):=⟨λd=>MM d⟩
instance {a0 a1 a2}:LS (λrec1 s=>FT a0 a1 a2 rec1 s.1 s.2.1 s.2.2) 41 [0,2,7,8,13] (λs=>[(14,.d (.int .i64 s.1))]) [] (λs=>[(0,.var [.d (An 1 (D.int .u8) s.2.1.Ak),.d (.int .i64 s.2.1.Ai)],0),(7,.row 1 3 (List.map (D.int .i64) s.2.2),1)]):=⟨trivial⟩
instance draw_Codes_Terms_w:CS prog 44 (V2 prog 44 Gb):=⟨λp0 p1 p2 R h=>by
 refine uF func44 ?_;unfold Gb at h;exact Ao⟩
end Go.Proofs.YthchnhoalhbkcaaGreatDoor.P
