/- P3W6 -/
import Derived.Test.YthchnhoalhbkcaaGreatDoorP3W5
open Go.Proofs.Tryz
set_option linter.unusedSimpArgs false
set_option linter.unusedVariables false
namespace Go.Proofs.YthchnhoalhbkcaaGreatDoor.P
open Go.Abs Go.Proofs
set_option maxRecDepth 100000
set_option maxHeartbeats 4000000
instance {a0 a1 a2}:LS (λrec1 s=>Gl a0 a1 a2 rec1 s) 30 [1,2,4] (λs=>[(5,.d (.int .i64 s))]) [2,4] (λs=>[]):=⟨trivial⟩
instance interpret_room_named_w:CS prog 51 (W2 prog 51 DU):=⟨λp0 p1 R h=>by
 refine uD func51 ?_;unfold DU at h;exact Ao⟩
theorem JJ(p0:Ay)(p1:ByteArray)(R:AA)  (h:DU p0 p1=some R):Dl prog 51 [.cc none [.d (An 2 Ah p0.I.Ae.J),.d (An 7 Al p0.I.Ae.A),.d (.str p0.I.K.Af),.d (.int .i64 p0.I.K.Ag),.d (An 2 Ag p0.I.K.X),.d (An 1 (An 1 (D.int .i64)) p0.I.K.G),.own 26 70 (List.map A3 p0.Ax)],.d (.str p1)] [.cc none [.d (An 2 Ah p0.I.Ae.J),.d (An 7 Al p0.I.Ae.A),.d (.str p0.I.K.Af),.d (.int .i64 p0.I.K.Ag),.d (An 2 Ag p0.I.K.X),.d (An 1 (An 1 (D.int .i64)) p0.I.K.G),.own 26 70 (List.map A3 p0.Ax)],.any] (.d (CQ R)):=by
 refine bK func51 (by kernel_rfl) rfl ?_ ?_
 ·intro i x y hx hy
  match i,hx,hy with
  | 0,hx,hy=>cases P3 hx;cases P3 hy;exact⟨[_,_,_,_,_,_],_,_,_,_,rfl,rfl⟩
  | 1,hx,hy=>simp at hx hy;subst hx;subst hy;trivial
  | i+2,hx,hy=>simp at hx
 unfold DU at h
 conv=>whnf
 refine GN h λP1 i1 h=>?_;refine loop {p:Nat×Int // P1 p.1 p.2=some R} (λp=>CJ 30 [(1,.d (.str p1)),(2,.ptr 2 1 0),(4,.ptr 4 1 0),(5,.d (.int .i64 p.1.2))] [(0,.row 26 70 (List.map A3 p0.Ax),0),(2,.var [.d (An 2 Ah p0.I.Ae.J),.d (An 7 Al p0.I.Ae.A),.d (.str p0.I.K.Af),.d (.int .i64 p0.I.K.Ag),.d (An 2 Ag p0.I.K.X),.d (An 1 (An 1 (D.int .i64)) p0.I.K.G),.sl 0 0],1),(4,.var [.d (.int .i64 0),.d (.int .i64 0),.d (.int .i64 0),.d (.nil 2),.d (.int .i64 0),.d (.nil 7),.d (.int .i64 0),.d (.nil 1),.d (.nil 2),.d (.int .i64 0),.d (.int .i64 0),.d (.int .i64 0),.d (.int .i64 0),.d (.int .i64 0),.d (.int .i64 0),.d (.nil 6),.d (.nil 2),.d (.int .i64 0),.d (.int .i64 0),.d (.int .i64 0),.d (.int .i64 0),.d (.int .i64 0),.d (.int .i64 0),.d (.nil 1)],1)]) (λp=>p.1.1) ⟨(_,_),h⟩ ?_ λp=>?_
 ·refine Rp ?_
  conv=>whnf
  exact pP
 obtain⟨⟨k1,v5_1⟩,h⟩:=p;obtain⟨k1,rfl,h⟩:=i1 _ _ h;simp only[Gl]at h
 conv=>whnf
 refine Td h FK (λh=>?_) (λh=>?_)
 ·conv=>whnf
  refine OQ (f:=A3) h FK λx17 hx17 h=>?_
  conv=>whnf
  refine Yo (f:=A3) hx17 FK ?_
  conv=>whnf
  refine Td h FK (λh=>?_) (λh=>?_)
  ·conv=>whnf
   refine OQ (f:=A3) h FK λx25 hx25 h=>?_
   conv=>whnf
   refine Yo (f:=A3) hx25 FK ?_
   conv=>whnf
   refine Bp h λx28 hx28 h=>?_;refine A0 (interpret_clone_w.h _ _ hx28) ?_
   conv=>whnf
   exact z26
  conv=>whnf
  refine⟨⟨(_,_),h⟩,?_,rx _⟩;refine Rp ?_
  conv=>whnf
  exact pP
 conv=>whnf
 try simp only[Jq]at h
 exact z26
theorem T4(d:Nat)(self_condition_tell:Aj->(Aj->Option Int)->Option Int)(ih:∀(p0:Aj)(p1:Aj->Option Int)(f_p1:FuncId)(c_p1:List D)(R:Int)(h_p1:∀(a0:Aj) r,p1 a0=some r->Ax prog f_p1 ([.d (BX a0)]++c_p1.map .d) (.d (.int .i64 r))),self_condition_tell p0 p1=some R->Ax prog 246 [.d (BX p0),.d (.fn f_p1 c_p1)] (.d (.int .i64 R)))(p0:Aj)(p1:Aj->Option Int)(f_p1:FuncId)(c_p1:List D)(R:Int)(h_p1:∀(a0:Aj) r,p1 a0=some r->Ax prog f_p1 ([.d (BX a0)]++c_p1.map .d) (.d (.int .i64 r)))(h:FY d self_condition_tell p0 p1=some R):Ax prog 246 [.d (BX p0),.d (.fn f_p1 c_p1)] (.d (.int .i64 R)):=by
 refine uD func246 ?_;unfold FY at h;refine DI h (λh=>?_) λh=>?_
 ·exact Ao
 refine DI h (λh=>?_) λh=>?_
 ·conv=>whnf
  refine z14 ?_;refine Sy (f:=A4) h λx13 _ h=>?_;rw[AX x13]
  conv=>whnf
  refine Bp h λx16 hx16 h=>?_
  first|refine A0 (ih _ _ _ _ _ h_p1 hx16) ?_|(simp only[pX];refine A0 (ih _ _ _ _ _ h_p1 hx16) ?_)
  refine Sy (f:=A4) h λx19 _ h=>?_;rw[AX x19]
  conv=>whnf
  refine Bp h λx22 hx22 h=>?_
  first|refine A0 (ih _ _ _ _ _ h_p1 hx22) ?_|(simp only[pX];refine A0 (ih _ _ _ _ _ h_p1 hx22) ?_)
  exact Ao
 refine DI h (λh=>?_) λh=>?_
 ·conv=>whnf
  refine z14 ?_;refine Sy (f:=A4) h λx28 _ h=>?_;rw[AX x28]
  conv=>whnf
  refine Bp h λx31 hx31 h=>?_
  first|refine A0 (ih _ _ _ _ _ h_p1 hx31) ?_|(simp only[pX];refine A0 (ih _ _ _ _ _ h_p1 hx31) ?_)
  refine Sy (f:=A4) h λx34 _ h=>?_;rw[AX x34]
  conv=>whnf
  refine Bp h λx37 hx37 h=>?_
  first|refine A0 (ih _ _ _ _ _ h_p1 hx37) ?_|(simp only[pX];refine A0 (ih _ _ _ _ _ h_p1 hx37) ?_)
  exact Ao
 refine DI h (λh=>?_) λh=>?_
 ·refine Sy (f:=A4) h λx43 _ h=>?_;rw[AX x43]
  conv=>whnf
  refine Bp h λx46 hx46 h=>?_
  first|refine A0 (ih _ _ _ _ _ h_p1 hx46) ?_|(simp only[pX];refine A0 (ih _ _ _ _ _ h_p1 hx46) ?_)
  exact Ao
 exact Ao
theorem N8:∀d:Nat,(∀(p0:Aj)(p1:Aj->Option Int)(f_p1:FuncId)(c_p1:List D)(R:Int)(h_p1:∀(a0:Aj) r,p1 a0=some r->Ax prog f_p1 ([.d (BX a0)]++c_p1.map .d) (.d (.int .i64 r))),FX d p0 p1=some R->Ax prog 246 [.d (BX p0),.d (.fn f_p1 c_p1)] (.d (.int .i64 R)))
 | 0=>by
  exact z17
 | d+1=>by
  have ih:=N8 d;exact T4 d _ ih
instance condition_tell_w:CS prog 246 (∀(d:Nat),∀(p0:Aj)(p1:Aj->Option Int)(f_p1:FuncId)(c_p1:List D)(R:Int)(h_p1:∀(a0:Aj) r,p1 a0=some r->Ax prog f_p1 ([.d (BX a0)]++c_p1.map .d) (.d (.int .i64 r))),FX d p0 p1=some R->Ax prog 246 [.d (BX p0),.d (.fn f_p1 c_p1)] (.d (.int .i64 R))):=⟨λd=>N8 d⟩
instance condition_Holds_c1_w:CS prog 247 (∀(p0:Aj)(q0:Aa)(q1:List Int)(R:Int)(h:Jf p0 q0 q1=some R),Ax prog 247 [.d (BX p0),.d (.ptr [(An 2 Ah q0.J),(An 7 Al q0.A)]),.d (.ptr [(An 1 (D.int .i64) q1)])] (.d (.int .i64 R))):=⟨λp0 q0 q1 R h=>by
 refine uD func247 ?_;unfold Jf at h;exact Ao⟩
instance condition_Holds_w:CS prog 177 (∀d:Nat,W3 prog 177 (IN d)):=⟨λd p0 p1 p2 R h=>by
 refine uD func177 ?_;unfold IN at h;exact Ao⟩
instance {a0 a1}:LS (λrec1 s=>Hn a0 a1 rec1 s.1 s.2) 66 [2,3,4,5,9] (λs=>[(10,.d (.int .i64 s.1))]) [4,5] (λs=>[(18,.row 1 3 (List.map (D.int .i64) s.2),1)]):=⟨trivial⟩
instance {a0 a1 a2 a3}:LS (λrec2 s=>N5 a0 a1 a2 a3 rec2 s.1 s.2) 66 [3,4,5,9,34,35] (λs=>[(36,.d (.int .i64 s.1))]) [4,5] (λs=>[(18,.row 1 3 (List.map (D.int .i64) s.2),1)]):=⟨trivial⟩
instance condition_Told_w:CS prog 106 (∀d:Nat,W4 prog 106 (Hz d)):=⟨λd p0 p1 p2 p3 R h=>by
 refine Uv [6] func106 ?_;unfold Hz at h
 conv=>whnf
 refine Te h λhr h=>?_;refine z11 ?_
 try rw[mw]
 refine Fl {p:(List Int) // N6 p2 p3 p0 d p1 p=some R} (λp=>CJ 66 [(2,.d (An 2 Ag p2)),(3,.d (An 1 (D.int .i64) p3)),(4,.ptr 4 1 0),(5,.ptr 5 1 0),(9,.sl 18 1)] [(4,Bh p0,1),(5,OU p1,1),(18,.row 1 3 (List.map (D.int .i64) p.1),1)]) ?_ λp=>?_
 ·exact Ao
 obtain⟨k18_1,h⟩:=p;exact Ao⟩
instance tabulate_Holding_w:CS prog 52 (∀(d:Nat)(p0:Aa)(p1:As)(p2:Aj)(R:List Int)(h:CU d p0 p1 p2=some R),Ax prog 52 [.d (Cq p0),.d (Do p1),.d (BX p2)] (.own 1 3 (List.map (D.int .i64) R))):=⟨λd p0 p1 p2 R h=>by
 refine Uv [3] func52 ?_;unfold CU at h;refine Fl {p:Unit // I7 p1 d p0 p2=some R} (λp=>CJ 45 [(3,.ptr 3 1 0),(4,.ptr 4 1 0),(5,.ptr 5 1 0)] [(3,Bh p0,1),(4,E7 p1,1),(5,OU p2,1)]) ?_ λp=>?_
 ·conv=>whnf
  refine z14 ?_;refine FV h (λ_=>condition_Check_w.h _ _ _ _) λx12 h=>?_;refine DI h (λh=>?_) λh=>?_
  ·obtain rfl:=P3 h;refine⟨.inr ?_⟩
   conv=>whnf
   refine z9 ?_;exact Ao
  refine FV h (λ_=>condition_Needs_w.h _ _ _ _) λx19 h=>?_;refine FV h (λ_=>condition_Covers_w.h _ _ _) λx20 h=>?_;refine DI h (λh=>?_) λh=>?_
  ·conv=>whnf
   obtain rfl:=P3 h;refine⟨.inr ?_⟩
   conv=>whnf
   refine z9 ?_;exact Ao
  exact Ao
 obtain⟨_,h⟩:=p;simp only[I7]at h
 conv=>whnf
 refine z7 h (λp=>CJ 45 [(3,.ptr 3 1 0),(4,.ptr 4 1 0),(5,.ptr 5 1 0),(7,.sl 7 1),(24,.d (An 1 (An 1 (D.int .i64)) p1.G)),(25,.d (.int .i64 (p1.G.length:Int))),(26,.d (.int .i64 p.1))] [(3,Bh p0,1),(4,E7 p1,1),(5,OU p2,1),(7,.row 1 3 (List.map (D.int .i64) p.2),1)]) Bw λ_ _ ⟨v26_1,b7_1⟩ h=>?_;simp only[LU]at h;refine DI h (λh=>?_) λh=>?_
 ·exact Ao
 conv=>whnf
 obtain rfl:=P3 h;refine⟨.inr ?_⟩
 conv=>whnf
 refine z9 ?_;exact Ao⟩
instance {a0 a1 a2}:LS (λrec1 s=>OR a0 a1 a2 rec1 s.1 s.2) 26 [2,5,8,9] (λs=>[(10,.d (.int .i64 s.1))]) [2] (λs=>[(5,.row 1 3 (List.map (D.int .i64) s.2),1)]):=⟨trivial⟩
instance tabulate_Keys_w:CS prog 53 (W2 prog 53 Cs):=⟨λp0 p1 R h=>by
 refine uD func53 ?_;unfold Cs at h;exact Ao⟩
instance {a0 a1 a2}:LS (λrec1 s=>Ha a0 a1 a2 rec1 s) 19 [0,1,7] (λs=>[(8,.d (.int .i64 s))]) [] (λs=>[]):=⟨trivial⟩
instance slices_IndexFunc_Lint_int_w:CS prog 248 (∀(p0:List Int)(p1:Int->Option Bool)(f_p1:FuncId)(c_p1:List D)(R:Int)(h_p1:∀(a0:Int) r,p1 a0=some r->Ax prog f_p1 ([.d (.int .i64 a0)]++c_p1.map .d) (.d (.bool r)))(h:Cz p0 p1=some R),Ax prog 248 [.d (An 1 (D.int .i64) p0),.d (.fn f_p1 c_p1)] (.d (.int .i64 R))):=⟨λp0 p1 f_p1 c_p1 R h_p1 h=>by
 refine uD func248 ?_;unfold Cz at h;exact Ao⟩
instance slices_ContainsFunc_Lint_int_w:CS prog 180 (∀(p0:List Int)(p1:Int->Option Bool)(f_p1:FuncId)(c_p1:List D)(R:Bool)(h_p1:∀(a0:Int) r,p1 a0=some r->Ax prog f_p1 ([.d (.int .i64 a0)]++c_p1.map .d) (.d (.bool r)))(h:Bf p0 p1=some R),Ax prog 180 [.d (An 1 (D.int .i64) p0),.d (.fn f_p1 c_p1)] (.d (.bool R))):=⟨λp0 p1 f_p1 c_p1 R h_p1 h=>by
 refine uD func180 ?_;unfold Bf at h;refine FV h (λ_=>slices_IndexFunc_Lint_int_w.h _ _ _ _ _ h_p1) λx7 h=>?_;exact Ao⟩
end Go.Proofs.YthchnhoalhbkcaaGreatDoor.P
