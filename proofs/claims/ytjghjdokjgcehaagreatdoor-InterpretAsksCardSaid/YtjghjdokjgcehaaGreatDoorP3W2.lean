/- P3W2 -/
import Derived.Test.YtjghjdokjgcehaaGreatDoorP3W1
set_option linter.unusedSimpArgs false
namespace Go.Proofs.YtjghjdokjgcehaaGreatDoor.P
open Go.Abs Go.Proofs
set_option maxRecDepth 100000
set_option maxHeartbeats 4000000
set_option linter.unusedVariables false
theorem Q5 (d:Nat) (self_condition_deep:(Aj→Option Int)) (ih_condition_deep:∀ (p0:Aj) (R:Int) ,self_condition_deep p0 = some R→Al Tryz.prog 85 [.d (Ad p0)] (.d (.int .i64 R))) (p0:Aj) (R:Int) (h:CF d self_condition_deep p0 = some R):Al Tryz.prog 85 [.d (Ad p0)] (.d (.int .i64 R)):=by
 refine Cn Tryz.func85 ?_
 unfold CF at h
 refine z5 h (fun p=>Cd 20 [(3,.d (.int .i64 p.1)),(7,.d (Ah 6 Ap p0.Kids)),(8,.d (.int .i64 ((p0.Kids.length:Nat):Int))),(9,.d (.int .i64 p.2))] []) A0 fun _ _ ⟨v3_1,v9_1⟩ h=>?_
 simp only [DI] at h
 refine AM h (fun h=>?_) fun h=>?_
 ·refine B6 (f:=Ap) h fun x11 _ h=>?_
  rw [Aa x11]
  conv=>whnf
  obtain ⟨x15,hx15,h⟩:=A9 h
  first | refine A1 (ih_condition_deep _ _ hx15) ?_ | (simp only [List.length_map]; refine A1 (ih_condition_deep _ _ hx15) ?_)
  exact z27
 exact z16
theorem L0:∀ d:Nat,(∀ (p0:Aj) (R:Int) ,Ch d p0 = some R→Al Tryz.prog 85 [.d (Ad p0)] (.d (.int .i64 R)))
 | 0=>by
  exact z24
 | d + 1=>by
  have ih:=L0 d
  exact Q5 d _ ih
theorem R1 (d:Nat):∀ (p0:Aj) (R:Int) ,Ch d p0 = some R→Al Tryz.prog 85 [.d (Ad p0)] (.d (.int .i64 R)):=L0 d
theorem R2 (p0:Int) (R:Int) (h:I1 p0 = some R):Al Tryz.prog 214 [.d (.int .i64 p0)] (.d (.int .i64 R)):=by
 refine Cn Tryz.func214 ?_
 unfold I1 at h
 conv=>whnf
 refine K1 h Cc (fun e1 h=>?_) (fun e1 h=>?_)
 ·conv=>whnf
  refine Lt Cc e1 ?_
  exact AD h
 refine An h fun h=>?_
 exact Eb h
theorem PQ (p0:Aj) (R:Bool) (h:Co p0 = some R):Al Tryz.prog 215 [.d (Ad p0)] (.d (.bool R)):=by
 refine Cn Tryz.func215 ?_
 unfold Co at h
 conv=>whnf
 refine K1 h Cc (fun e1 h=>?_) (fun e1 h=>?_)
 ·conv=>whnf
  refine Lt Cc e1 ?_
  exact z16
 refine AM h (fun h=>?_) fun h=>?_
 ·exact z16
 exact z16
theorem NS (p0:Ae) (p1:Aj) (R:Int) (h:AZ p0 p1 = some R):Al Tryz.prog 151 [.d (Au p0),.d (Ad p1)] (.d (.int .i64 R)):=by
 refine Ek [9] Tryz.func151 (by kernel_rfl) ?_
 unfold AZ at h
 refine Ga {p:Unit // AQ p0 p1 = some R} (fun p=>Cd 113 [(2,.ptr 2 1 0),(3,.ptr 3 1 0)] [(2,.var [.d (Ah 2 Af p0.Lists),.d (Ah 7 Ai p0.Columns)],1),(3,.var [.d (.int .i64 p1.Op),.d (.int .i64 p1.Column),.d (.int .i64 p1.Code),.d (.int .i64 p1.Low),.d (.int .i64 p1.High),.d (Ah 6 Ap p1.Kids)],1)]) ?_ fun p=>?_
 ·refine AM h (fun h=>?_) fun h=>?_
  ·exact z16
  conv=>whnf
  refine z13 ?_
  refine AU h (fun _=>R2 _ _) fun x21 h=>?_
  refine AM h (fun h=>?_) fun h=>?_
  ·exact z20
  refine AU h (fun _=>PQ _ _) fun x25 h=>?_
  refine AM h (fun h=>?_) fun h=>?_
  ·exact z16
  refine AM h (fun h=>?_) fun h=>?_
  ·exact z16
  refine AM h (fun h=>?_) fun h=>?_
  ·exact z16
  exact z50
 obtain ⟨_,h⟩:=p
 simp only [AQ] at h
 refine B6 (f:=Ai) h fun x58 _ h=>?_
 refine AM h (fun h=>?_) fun h=>?_
 ·refine AM h (fun h=>?_) fun h=>?_
  ·exact z16
  conv=>whnf
  refine z13 ?_
  refine AM h (fun h=>?_) fun h=>?_
  ·exact z20
  refine B6 (f:=Af) h fun x77 _ h=>?_
  refine AM h (fun h=>?_) fun h=>?_
  ·exact z16
  exact z16
 refine AM h (fun h=>?_) fun h=>?_
 ·refine AM h (fun h=>?_) fun h=>?_
  ·exact z16
  refine AM h (fun h=>?_) fun h=>?_
  ·exact z16
  exact z16
 refine AM h (fun h=>?_) fun h=>?_
 ·refine AM h (fun h=>?_) fun h=>?_
  ·exact z16
  exact z16
 exact z16
theorem NC (d:Nat) (self_condition_checkAll:(Ae→Aj→Option Int)) (ih_condition_checkAll:∀ (p0:Ae) (p1:Aj) (R:Int) ,self_condition_checkAll p0 p1 = some R→Al Tryz.prog 86 [.d (Au p0),.d (Ad p1)] (.d (.int .i64 R))) (p0:Ae) (p1:Aj) (R:Int) (h:BA d self_condition_checkAll p0 p1 = some R):Al Tryz.prog 86 [.d (Au p0),.d (Ad p1)] (.d (.int .i64 R)):=by
 refine Cn Tryz.func86 ?_
 unfold BA at h
 refine AU h (fun _=>NS _ _ _) fun x11 h=>?_
 refine AM h (fun h=>?_) fun h=>?_
 ·exact z16
 refine z5 h (fun p=>Cd 29 [(2,.ptr 2 1 0),(16,.d (Ah 6 Ap p1.Kids)),(17,.d (.int .i64 ((p1.Kids.length:Nat):Int))),(18,.d (.int .i64 p))] [(2,.var [.d (Ah 2 Af p0.Lists),.d (Ah 7 Ai p0.Columns)],1)]) A0 fun _ _ v18_1 h=>?_
 simp only [Br] at h
 refine AM h (fun h=>?_) fun h=>?_
 ·refine B6 (f:=Ap) h fun x20 _ h=>?_
  rw [Aa x20]
  conv=>whnf
  obtain ⟨x24,hx24,h⟩:=A9 h
  first | refine A1 (ih_condition_checkAll _ _ _ hx24) ?_ | (simp only [List.length_map]; refine A1 (ih_condition_checkAll _ _ _ hx24) ?_)
  refine AM h (fun h=>?_) fun h=>?_
  ·exact z16
  exact z43
 exact z16
theorem IY:∀ d:Nat,(∀ (p0:Ae) (p1:Aj) (R:Int) ,BC d p0 p1 = some R→Al Tryz.prog 86 [.d (Au p0),.d (Ad p1)] (.d (.int .i64 R)))
 | 0=>by
  exact z24
 | d + 1=>by
  have ih:=IY d
  exact NC d _ ih
theorem NR (d:Nat):∀ (p0:Ae) (p1:Aj) (R:Int) ,BC d p0 p1 = some R→Al Tryz.prog 86 [.d (Au p0),.d (Ad p1)] (.d (.int .i64 R)):=IY d
theorem Ct (d:Nat) (p0:Ae) (p1:Aj) (R:Int) (h:Bi d p0 p1 = some R):Al Tryz.prog 43 [.d (Au p0),.d (Ad p1)] (.d (.int .i64 R)):=by
 refine Cn Tryz.func43 ?_
 unfold Bi at h
 refine AU h (fun _=>CS _ _) fun x7 h=>?_
 refine AM h (fun h=>?_) fun h=>?_
 ·exact z16
 refine AU h (fun _=>Q4 _ _ _ _) fun x14 h=>?_
 refine AM h (fun h=>?_) fun h=>?_
 ·exact z16
 refine AU h (fun _=>R1 _ _ _) fun x18 h=>?_
 refine AM h (fun h=>?_) fun h=>?_
 ·exact z16
 refine AU h (fun _=>NR _ _ _ _) fun x22 h=>?_
 exact z16
theorem GT (p0:(List Av)) (p1:(Av→Option Bool)) (f_p1:FuncId) (c_p1:List D) (R:Int) (h_p1:∀ (a0:Av) r,p1 a0 = some r→Al Tryz.prog f_p1 ([.d (Ac a0)]++c_p1.map .d) (.d (.bool r))) (h:C6 p0 p1 = some R):Al Tryz.prog 225 [.d (Ah 19 AP p0),.d (.fn f_p1 c_p1)] (.d (.int .i64 R)):=by
 refine Cn Tryz.func225 ?_
 unfold C6 at h
 refine z5 h (fun p=>Cd 19 [(0,.d (Ah 19 AP p0)),(1,.d (.fn f_p1 c_p1)),(7,.d (.int .i64 ((p0.length:Nat):Int))),(8,.d (.int .i64 p))] []) A0 fun _ _ v8_1 h=>?_
 simp only [DC] at h
 refine AM h (fun h=>?_) fun h=>?_
 ·refine B6 (f:=AP) h fun x14 _ h=>?_
  rw [Ab x14]
  conv=>whnf
  rw [G3]
  refine AU h (fun _=>h_p1 _ _) fun x16 h=>?_
  refine AM h (fun h=>?_) fun h=>?_
  ·exact z16
  exact z43
 exact z16
theorem Bc (p0:(List Av)) (p1:(Av→Option Bool)) (f_p1:FuncId) (c_p1:List D) (R:Bool) (h_p1:∀ (a0:Av) r,p1 a0 = some r→Al Tryz.prog f_p1 ([.d (Ac a0)]++c_p1.map .d) (.d (.bool r))) (h:AJ p0 p1 = some R):Al Tryz.prog 167 [.d (Ah 19 AP p0),.d (.fn f_p1 c_p1)] (.d (.bool R)):=by
 refine Cn Tryz.func167 ?_
 unfold AJ at h
 refine AU h (fun _=>GT _ _ _ _ _ h_p1) fun x7 h=>?_
 exact z16
theorem RL (p0:Int) (R:(Bu × Bool)) (h:KY p0 = some R):Al Tryz.prog 220 [.d (.int .i64 p0)] (.tup [.d (NV R.1),.d (.bool R.2)]):=by
 refine Ek [25] Tryz.func220 (by kernel_rfl) ?_
 unfold KY at h
 refine Ga {p:Unit // IE = some R} (fun p=>Cd 38 [(2,.ptr 2 1 0)] [(2,.var [.d (.bool false),.d (.bool false),.d (.bool false),.d (.bool false),.d (.bool false),.d (.bool false),.d (.bool false)],1)]) ?_ fun p=>?_
 ·refine An h fun h=>?_
  refine An h fun h=>?_
  refine An h fun h=>?_
  conv=>whnf
  refine K1 h Cc (fun e18 h=>?_) (fun e18 h=>?_)
  ·conv=>whnf
   refine Lt Cc e18 ?_
   exact AD h
  conv=>whnf
  refine K1 h Cc (fun e19 h=>?_) (fun e19 h=>?_)
  ·conv=>whnf
   refine Lt Cc e19 ?_
   exact AD h
  refine An h fun h=>?_
  conv=>whnf
  refine K1 h Cc (fun e21 h=>?_) (fun e21 h=>?_)
  ·conv=>whnf
   refine Lt Cc e21 ?_
   exact AD h
  conv=>whnf
  refine K1 h Cc (fun e22 h=>?_) (fun e22 h=>?_)
  ·conv=>whnf
   refine Lt Cc e22 ?_
   exact AD h
  conv=>whnf
  refine K1 h Cc (fun e23 h=>?_) (fun e23 h=>?_)
  ·conv=>whnf
   refine Lt Cc e23 ?_
   exact AD h
  refine An h fun h=>?_
  refine An h fun h=>?_
  refine An h fun h=>?_
  refine An h fun h=>?_
  exact z33
 obtain ⟨_,h⟩:=p
 simp only [IE] at h
 exact AD h
theorem D4 (p0:Int) (R:Bool) (h:Dv p0 = some R):Al Tryz.prog 223 [.d (.int .i64 p0)] (.d (.bool R)):=by
 refine Cn Tryz.func223 ?_
 unfold Dv at h
 exact AD h
theorem JW (p0:Aj) (R:Bool) (h:Hh p0 = some R):Al Tryz.prog 253 [.d (Ad p0)] (.d (.bool R)):=by
 refine Cn Tryz.func253 ?_
 unfold Hh at h
 exact z16
theorem RP (p0:Av) (p1:Bu) (R:Bool) (h:KZ p0 p1 = some R):Al Tryz.prog 221 [.d (Ac p0),.d (NV p1)] (.d (.bool R)):=by
 refine Cn Tryz.func221 ?_
 unfold KZ at h
 refine AM h (fun h=>?_) fun h=>?_
 ·refine AM h (fun h=>?_) fun h=>?_
  ·refine AM h (fun h=>?_) fun h=>?_
   ·exact z45
   obtain ⟨x65,hx65,h⟩:=A9 h
   refine A1 (JW _ _ hx65) ?_
   refine AM h (fun h=>?_) fun h=>?_
   ·exact z45
   exact z20
  refine AU h (fun _=>JW _ _) fun x56 h=>?_
  refine AM h (fun h=>?_) fun h=>?_
  ·refine AM h (fun h=>?_) fun h=>?_
   ·exact z45
   obtain ⟨x65,hx65,h⟩:=A9 h
   refine A1 (JW _ _ hx65) ?_
   refine AM h (fun h=>?_) fun h=>?_
   ·exact z45
   exact z20
  exact z20
 exact z20
theorem ME (p0:(List Int)) (p1:Int) (R:Int) (h:Ey p0 p1 = some R):Al Tryz.prog 194 [.d (Ah 1 (D.int .i64) p0),.d (.int .i64 p1)] (.d (.int .i64 R)):=by
 refine Cn Tryz.func194 ?_
 unfold Ey at h
 refine z5 h (fun p=>Cd 19 [(0,.d (Ah 1 (D.int .i64) p0)),(1,.d (.int .i64 p1)),(7,.d (.int .i64 ((p0.length:Nat):Int))),(8,.d (.int .i64 p))] []) As fun _ _ v8_1 h=>?_
 simp only [Hu] at h
 refine B0 h fun h=>?_
 refine B6 (f:=(D.int .i64)) h fun x14 _ h=>?_
 exact z17
theorem Ev (p0:(List Int)) (p1:Int) (R:Bool) (h:BF p0 p1 = some R):Al Tryz.prog 129 [.d (Ah 1 (D.int .i64) p0),.d (.int .i64 p1)] (.d (.bool R)):=by
 refine Cn Tryz.func129 ?_
 unfold BF at h
 refine AU h (fun _=>ME _ _ _) fun x7 h=>?_
 exact AD h
theorem Cu (p0:Ae) (p1:Int) (R:Bool) (h:Bj p0 p1 = some R):Al Tryz.prog 254 [.d (Au p0),.d (.int .i64 p1)] (.d (.bool R)):=by
 refine Cn Tryz.func254 ?_
 unfold Bj at h
 refine B0 h fun h=>?_
 refine B6 (f:=Ai) h fun x18 _ h=>?_
 exact AD h
theorem PD (p0:Ae) (p1:Aw) (R:Int) (h:Ii p0 p1 = some R):Al Tryz.prog 152 [.d (Au p0),.d (Ak p1)] (.d (.int .i64 R)):=by
 refine Cn Tryz.func152 ?_
 unfold Ii at h
 refine AU h (fun _=>CS _ _) fun x7 h=>?_
 refine An h fun h=>?_
 refine AU h (fun _=>PE _ _ _) fun x13 h=>?_
 exact AD h
theorem DL (p0:(List Aw)) (p1:(Aw→Option Bool)) (f_p1:FuncId) (c_p1:List D) (R:Int) (h_p1:∀ (a0:Aw) r,p1 a0 = some r→Al Tryz.prog f_p1 ([.d (Ak a0)]++c_p1.map .d) (.d (.bool r))) (h:B1 p0 p1 = some R):Al Tryz.prog 184 [.d (Ah 2 Ak p0),.d (.fn f_p1 c_p1)] (.d (.int .i64 R)):=by
 refine Cn Tryz.func184 ?_
 unfold B1 at h
 refine z5 h (fun p=>Cd 19 [(0,.d (Ah 2 Ak p0)),(1,.d (.fn f_p1 c_p1)),(7,.d (.int .i64 ((p0.length:Nat):Int))),(8,.d (.int .i64 p))] []) As fun _ _ v8_1 h=>?_
 simp only [DF] at h
 refine B0 h fun h=>?_
 refine B6 (f:=Ak) h fun x14 _ h=>?_
 exact z32
theorem B5 (p0:(List Aw)) (p1:(Aw→Option Bool)) (f_p1:FuncId) (c_p1:List D) (R:Bool) (h_p1:∀ (a0:Aw) r,p1 a0 = some r→Al Tryz.prog f_p1 ([.d (Ak a0)]++c_p1.map .d) (.d (.bool r))) (h:AC p0 p1 = some R):Al Tryz.prog 154 [.d (Ah 2 Ak p0),.d (.fn f_p1 c_p1)] (.d (.bool R)):=by
 refine Cn Tryz.func154 ?_
 unfold AC at h
 refine AU h (fun _=>DL _ _ _ _ _ h_p1) fun x7 h=>?_
 exact AD h
theorem Rc (p0:Aw) (q0:Aw) (R:Bool) (h:JV p0 q0 = some R):Al Tryz.prog 276 [.d (Ak p0),.d (.ptr [(.int .i64 q0.Column),(.int .i64 q0.Level)])] (.d (.bool R)):=by
 refine Cn Tryz.func276 ?_
 unfold JV at h
 exact AD h
theorem Uf (p0:Ae) (p1:(List Aw)) (R:Bool) (h:Ni p0 p1 = some R):Al Tryz.prog 255 [.d (Au p0),.d (Ah 2 Ak p1)] (.d (.bool R)):=by
 refine Cn Tryz.func255 ?_
 unfold Ni at h
 refine z5 h (fun p=>Cd 42 [(1,.d (Ah 2 Ak p1)),(2,.ptr 2 1 0),(7,.d (Ah 2 Ak p1)),(8,.d (.int .i64 ((p1.length:Nat):Int))),(9,.d (.int .i64 p))] [(2,.var [.d (Ah 2 Af p0.Lists),.d (Ah 7 Ai p0.Columns)],1)]) As fun _ _ v9_1 h=>?_
 simp only [N4] at h
 refine B0 h fun h=>?_
 refine B6 (f:=Ak) h fun x12 _ h=>?_
 refine AU h (fun _=>PD _ _ _) fun x16 h=>?_
 refine An h fun h=>?_
 refine B6 (f:=Ai) h fun x23 _ h=>?_
 refine An h fun h=>?_
 conv=>whnf
 obtain ⟨hr,h⟩:=E0 h
 refine z9 ?_
 try simp only [List.length_map]
 rw [SO]
 refine AU h (fun _=>B5 _ _ _ _ _ (fun a0 _ h=>Rc a0 _ _ h)) fun x32 h=>?_
 exact z17
theorem SY (p0:Ae) (p1:Int) (p2:(List Int)) (R:Bool) (h:LV p0 p1 p2 = some R):Al Tryz.prog 256 [.d (Au p0),.d (.int .i64 p1),.d (Ah 1 (D.int .i64) p2)] (.d (.bool R)):=by
 refine Cn Tryz.func256 ?_
 unfold LV at h
 refine z5 h (fun p=>Cd 41 [(1,.d (.int .i64 p1)),(2,.d (Ah 1 (D.int .i64) p2)),(3,.ptr 3 1 0),(9,.d (Ah 1 (D.int .i64) p2)),(10,.d (.int .i64 ((p2.length:Nat):Int))),(11,.d (.int .i64 p))] [(3,.var [.d (Ah 2 Af p0.Lists),.d (Ah 7 Ai p0.Columns)],1)]) As fun _ _ v11_1 h=>?_
 simp only [M9] at h
 refine B0 h fun h=>?_
 refine B6 (f:=(D.int .i64)) h fun x14 _ h=>?_
 refine AU h (fun _=>Cu _ _ _) fun x18 h=>?_
 refine An h fun h=>?_
 obtain ⟨hr,h⟩:=E0 h
 refine z9 ?_
 try simp only [List.length_map]
 rw [SO]
 refine AU h (fun _=>Ev _ _ _) fun x30 h=>?_
 exact z17
theorem Ug (p0:Ae) (p1:Av) (R:Bool) (h:Nj p0 p1 = some R):Al Tryz.prog 222 [.d (Au p0),.d (Ac p1)] (.d (.bool R)):=by
 refine Cn Tryz.func222 ?_
 unfold Nj at h
 refine AM h (fun h=>?_) fun h=>?_
 ·exact z16
 refine AM h (fun h=>?_) fun h=>?_
 ·refine AU h (fun _=>DY _ _) fun x21 h=>?_
  exact z16
 conv=>whnf
 refine K1 h Cc (fun e3 h=>?_) (fun e3 h=>?_)
 ·conv=>whnf
  refine Lt Cc e3 ?_
  exact z51
 conv=>whnf
 refine K1 h Cc (fun e4 h=>?_) (fun e4 h=>?_)
 ·conv=>whnf
  refine Lt Cc e4 ?_
  exact z51
 refine AM h (fun h=>?_) fun h=>?_
 ·exact z51
 refine AM h (fun h=>?_) fun h=>?_
 ·refine AU h (fun _=>Uf _ _ _) fun x35 h=>?_
  refine AM h (fun h=>?_) fun h=>?_
  ·refine AM h (fun h=>?_) fun h=>?_
   ·exact z20
   refine AU h (fun _=>Cu _ _ _) fun x44 h=>?_
   exact z16
  exact z20
 refine AM h (fun h=>?_) fun h=>?_
 ·refine AU h (fun _=>Cu _ _ _) fun x52 h=>?_
  refine AM h (fun h=>?_) fun h=>?_
  ·refine AU h (fun _=>SY _ _ _ _) fun x59 h=>?_
   exact z16
  exact z20
 refine AM h (fun h=>?_) fun h=>?_
 ·refine AU h (fun _=>Cu _ _ _) fun x66 h=>?_
  refine AM h (fun h=>?_) fun h=>?_
  ·refine B6 (f:=Ai) h fun x72 _ h=>?_
   exact z16
  exact z20
 refine AM h (fun h=>?_) fun h=>?_
 ·conv=>whnf
  refine z13 ?_
  refine AU h (fun _=>Cu _ _ _) fun x82 h=>?_
  refine AM h (fun h=>?_) fun h=>?_
  ·refine B6 (f:=Ai) h fun x88 _ h=>?_
   refine AU h (fun _=>Ev _ _ _) fun x93 h=>?_
   exact z16
  exact z20
 exact z16
theorem M6 (p0:Int) (R:Bool) (h:ID p0 = some R):Al Tryz.prog 173 [.d (.int .i64 p0)] (.d (.bool R)):=by
 refine Cn Tryz.func173 ?_
 unfold ID at h
 exact AD h
end Go.Proofs.YtjghjdokjgcehaaGreatDoor.P
