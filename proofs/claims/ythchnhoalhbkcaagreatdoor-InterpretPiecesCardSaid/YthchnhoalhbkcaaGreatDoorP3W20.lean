/- P3W20 -/
import Derived.Test.YthchnhoalhbkcaaGreatDoorP3W19
open Go.Proofs.Tryz
set_option linter.unusedSimpArgs false
set_option linter.unusedVariables false
namespace Go.Proofs.YthchnhoalhbkcaaGreatDoor.P
open Go.Abs Go.Proofs
set_option maxRecDepth 100000
set_option maxHeartbeats 4000000
theorem zq1{p:Prop}(h:p:=by(conv=>whnf);refine z15 ?_;(conv=>whnf);exact⟨Nv⟩):p:=h
theorem zq2{p:Prop}(h:p:=by(conv=>whnf);obtain rfl:=P3 h;refine⟨Nv,?_⟩;exact zq1):p:=h
theorem Qn(d:Nat)(self_draw_Codes_Number:Ab->Aa->(List ByteArray)->Int->Option (Ap×Ab))(ih:∀(p0:Ab)(p1:Aa)(p2:List ByteArray)(p3:Int)(R:Ap×Ab) ,self_draw_Codes_Number p0 p1 p2 p3=some R->Dl prog 45 [.optr [(An 1 (D.int .u8) p0.Ak),(.int .i64 p0.Ai)],.d (Cq p1),.own 1 9 (List.map D.str p2),.d (.int .i64 p3)] [.optr [(An 1 (D.int .u8) R.2.Ak),(.int .i64 R.2.Ai)],.any,.own 1 9 (List.map D.str p2),.any] (.d (AO R.1)))(p0:Ab)(p1:Aa)(p2:List ByteArray)(p3:Int)(R:Ap×Ab)(h:Ej d self_draw_Codes_Number p0 p1 p2 p3=some R):Dl prog 45 [.optr [(An 1 (D.int .u8) p0.Ak),(.int .i64 p0.Ai)],.d (Cq p1),.own 1 9 (List.map D.str p2),.d (.int .i64 p3)] [.optr [(An 1 (D.int .u8) R.2.Ak),(.int .i64 R.2.Ai)],.any,.own 1 9 (List.map D.str p2),.any] (.d (AO R.1)):=by
 refine dB [3] func45 (by kernel_rfl) rfl ?_ ?_
 ·intro i x y hx hy
  match i,hx,hy with
  | 0,hx,hy=>simp at hx hy;subst hx;subst hy;exact⟨_,rfl,rfl⟩
  | 1,hx,hy=>simp at hx hy;subst hx;subst hy;trivial
  | 2,hx,hy=>cases P3 hx;cases P3 hy;exact⟨_,rfl⟩
  | 3,hx,hy=>simp at hx hy;subst hx;subst hy;trivial
  | i+4,hx,hy=>simp at hx
 unfold Ej at h;refine Fl {p:Ab // DR p2 d p1 p=some R} (λp=>CJ 73 [(0,.ptr 0 0 0),(2,.sl 2 0),(5,.ptr 5 1 0),(8,.ptr 8 1 0)] [(0,.var [.d (An 1 (D.int .u8) p.1.Ak),.d (.int .i64 p.1.Ai)],0),(2,.row 1 9 (List.map D.str p2),0),(5,.var [.d (An 2 Ah p1.J),.d (An 7 Al p1.A)],1),(8,.var [.d (.int .i64 0),.d (.int .i64 0),.d (.str ByteArray.empty),.d (.int .i64 0),.d (.nil 1),.d (.nil 2),.d (.int .i64 0),.d (.int .i64 0),.d (.int .i64 0),.d (.int .i64 0),.d (.int .i64 0),.d (.nil 6),.d (.int .i64 0),.d (.int .i64 0),.d (.int .i64 0),.d (.int .i64 0),.d (.int .i64 0),.d (.nil 6),.d (.nil 19)],1)]) ?_ λp=>?_
 ·refine DI h (λh=>?_) λh=>?_
  ·refine iH h (λ_=>draw_Codes_One_w.h _ _ _) λx13 h=>?_;refine DI h (λh=>?_) λh=>?_
   ·conv=>whnf
    refine z14 ?_;refine iH h (λ_=>draw_Codes_Range_w.h _ _ _ _) λx16 h=>?_
    conv=>whnf
    refine Bp h λx22 hx22 h=>?_
    first|refine Hm (ih _ _ _ _ _ hx22) ?_|(simp only[pX];refine Hm (ih _ _ _ _ _ hx22) ?_)
    conv=>whnf
    refine Bp h λx28 hx28 h=>?_
    first|refine Hm (ih _ _ _ _ _ hx28) ?_|(simp only[pX];refine Hm (ih _ _ _ _ _ hx28) ?_)
    conv=>whnf
    refine⟨.inl ?_⟩;exact zq2
   exact z23
  exact⟨⟨_,h⟩,Bw⟩
 obtain⟨k0_1,h⟩:=p;simp only[DR]at h;refine iH h (λ_=>draw_Codes_Next_w.h _ _ _) λx32 h=>?_;refine DI h (λh=>?_) λh=>?_
 ·refine iH h (λ_=>draw_Codes_Range_w.h _ _ _ _) λx36 h=>?_;exact zq2
 refine DI h (λh=>?_) λh=>?_
 ·refine DI h (λh=>?_) λh=>?_
  ·conv=>whnf
   refine Bp h λx47 hx47 h=>?_
   first|refine Hm (draw_Codes_Next_w.h _ _ _ hx47) ?_|(simp only[pX];refine Hm (draw_Codes_Next_w.h _ _ _ hx47) ?_)
   refine OQ (f:=D.str) h FK λx48 hx48 h=>?_;refine Yo (f:=D.str) hx48 FK ?_;exact zq2
  conv=>whnf
  refine Bp h λx71 hx71 h=>?_;refine Hm (draw_Codes_Cond_w.h _ _ _ _ _ hx71) ?_;exact zq2
 refine DI h (λh=>?_) λh=>?_
 ·conv=>whnf
  refine z14 ?_;refine iH h (λ_=>draw_Codes_Measured_w.h _ _ _) λx55 h=>?_;refine iH h (λ_=>draw_Codes_Cond_w.h _ _ _ _ _) λx58 h=>?_;exact zq2
 refine DI h (λh=>?_) λh=>?_
 ·conv=>whnf
  refine z14 ?_;refine iH h (λ_=>draw_Codes_Measured_w.h _ _ _) λx64 h=>?_;refine iH h (λ_=>draw_Codes_Cond_w.h _ _ _ _ _) λx67 h=>?_;exact zq2
 conv=>whnf
 refine Bp h λx71 hx71 h=>?_;refine Hm (draw_Codes_Cond_w.h _ _ _ _ _ hx71) ?_;exact zq2
theorem Lq:∀d:Nat,(∀(p0:Ab)(p1:Aa)(p2:List ByteArray)(p3:Int)(R:Ap×Ab) ,Cl d p0 p1 p2 p3=some R->Dl prog 45 [.optr [(An 1 (D.int .u8) p0.Ak),(.int .i64 p0.Ai)],.d (Cq p1),.own 1 9 (List.map D.str p2),.d (.int .i64 p3)] [.optr [(An 1 (D.int .u8) R.2.Ak),(.int .i64 R.2.Ai)],.any,.own 1 9 (List.map D.str p2),.any] (.d (AO R.1)))
 | 0=>by
  exact z17
 | d+1=>by
  have ih:=Lq d;exact Qn d _ ih
instance draw_Codes_Number_w:CS prog 45 (∀(d:Nat),∀(p0:Ab)(p1:Aa)(p2:List ByteArray)(p3:Int)(R:Ap×Ab) ,Cl d p0 p1 p2 p3=some R->Dl prog 45 [.optr [(An 1 (D.int .u8) p0.Ak),(.int .i64 p0.Ai)],.d (Cq p1),.own 1 9 (List.map D.str p2),.d (.int .i64 p3)] [.optr [(An 1 (D.int .u8) R.2.Ak),(.int .i64 R.2.Ai)],.any,.own 1 9 (List.map D.str p2),.any] (.d (AO R.1))):=⟨λd=>Lq d⟩
instance draw_Codes_Expr_w:CS prog 18 (∀(d:Nat)(p0:Ab)(p1:Aa)(p2:List ByteArray)(R:Ap×Ab)(h:GM d p0 p1 p2=some R),Dl prog 18 [.optr [(An 1 (D.int .u8) p0.Ak),(.int .i64 p0.Ai)],.d (Cq p1),.own 1 9 (List.map D.str p2)] [.optr [(An 1 (D.int .u8) R.2.Ak),(.int .i64 R.2.Ai)],.any,.own 1 9 (List.map D.str p2)] (.d (AO R.1))):=⟨λd p0 p1 p2 R h=>by
 refine uF func18 ?_;unfold GM at h;exact Ao⟩
instance {a0 a1 a2}:LS (λrec1 s=>Hj a0 a1 a2 rec1 s.1 s.2.1 s.2.2.1 s.2.2.2) 44 [0,4,7,8] (λs=>[(9,.d (.int .i64 s.1))]) [4] (λs=>[(0,.var [.d (An 1 (D.int .u8) s.2.1.Ak),.d (.int .i64 s.2.1.Ai)],0),(7,.row 21 68 (List.map B5 s.2.2.1),1),(8,.row 1 9 (List.map D.str s.2.2.2),1)]):=⟨trivial⟩
instance draw_Codes_Program_w:CS prog 6 (∀d:Nat,V2 prog 6 (EK d)):=⟨λd p0 p1 p2 R h=>by
 refine uF func6 ?_;unfold EK at h;exact Ao⟩
end Go.Proofs.YthchnhoalhbkcaaGreatDoor.P
