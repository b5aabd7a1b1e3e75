/- P3W1 -/
import Derived.Test.YtejfnieiaecpkaaGreatDoorP3HW
set_option linter.unusedSimpArgs false
namespace Go.Proofs.YtejfnieiaecpkaaGreatDoor.P
open Go.Abs Go.Proofs
set_option maxRecDepth 100000
set_option maxHeartbeats 4000000
set_option linter.unusedVariables false
theorem MY (p0:(List Int)) (p1:Int) (R:Int) (h:EE p0 p1 = some R):Aj Tryz.prog 126 [.d (Al 1 (D.int .i64) p0),.d (.int .i64 p1)] (.d (.int .i64 R)):=by
 refine Ch Tryz.func126 ?_
 unfold EE at h
 refine z3 h (fun p=>B8 19 [(0,.d (Al 1 (D.int .i64) p0)),(1,.d (.int .i64 p1)),(7,.d (.int .i64 ((p0.length:Nat):Int))),(8,.d (.int .i64 p))] []) Ah fun _ _ v8_1 h=>?_
 simp only [HM] at h
 refine Bj h fun h=>?_
 refine AO (f:=(D.int .i64)) h fun x14 _ h=>?_
 exact z12
theorem E7 (p0:(List Int)) (p1:Int) (R:Bool) (h:BJ p0 p1 = some R):Aj Tryz.prog 65 [.d (Al 1 (D.int .i64) p0),.d (.int .i64 p1)] (.d (.bool R)):=by
 refine Ch Tryz.func65 ?_
 unfold BJ at h
 refine A7 h (fun _=>MY _ _ _) fun x7 h=>?_
 exact A3 h
theorem Ea (p0:(List Ae)) (p1:(Ae→Option Bool)) (f_p1:FuncId) (c_p1:List D) (R:Int) (h_p1:∀ (a0:Ae) r,p1 a0 = some r→Aj Tryz.prog f_p1 ([.d (Ag a0)]++c_p1.map .d) (.d (.bool r))) (h:Bo p0 p1 = some R):Aj Tryz.prog 83 [.d (Al 2 Ag p0),.d (.fn f_p1 c_p1)] (.d (.int .i64 R)):=by
 refine Ch Tryz.func83 ?_
 unfold Bo at h
 refine z3 h (fun p=>B8 19 [(0,.d (Al 2 Ag p0)),(1,.d (.fn f_p1 c_p1)),(7,.d (.int .i64 ((p0.length:Nat):Int))),(8,.d (.int .i64 p))] []) Ah fun _ _ v8_1 h=>?_
 simp only [DX] at h
 refine Bj h fun h=>?_
 refine AO (f:=Ag) h fun x14 _ h=>?_
 exact z38
theorem GZ (p0:(List Int)) (p1:(Int→Option Bool)) (f_p1:FuncId) (c_p1:List D) (R:Int) (h_p1:∀ (a0:Int) r,p1 a0 = some r→Aj Tryz.prog f_p1 ([.d (.int .i64 a0)]++c_p1.map .d) (.d (.bool r))) (h:C7 p0 p1 = some R):Aj Tryz.prog 150 [.d (Al 1 (D.int .i64) p0),.d (.fn f_p1 c_p1)] (.d (.int .i64 R)):=by
 refine Ch Tryz.func150 ?_
 unfold C7 at h
 refine z3 h (fun p=>B8 19 [(0,.d (Al 1 (D.int .i64) p0)),(1,.d (.fn f_p1 c_p1)),(7,.d (.int .i64 ((p0.length:Nat):Int))),(8,.d (.int .i64 p))] []) Ah fun _ _ v8_1 h=>?_
 simp only [GG] at h
 refine Bj h fun h=>?_
 refine AO (f:=(D.int .i64)) h fun x14 _ h=>?_
 exact z38
theorem JQ (p0:(List Int)) (p1:(Int→Option Bool)) (f_p1:FuncId) (c_p1:List D) (R:Bool) (h_p1:∀ (a0:Int) r,p1 a0 = some r→Aj Tryz.prog f_p1 ([.d (.int .i64 a0)]++c_p1.map .d) (.d (.bool r))) (h:Cc p0 p1 = some R):Aj Tryz.prog 86 [.d (Al 1 (D.int .i64) p0),.d (.fn f_p1 c_p1)] (.d (.bool R)):=by
 refine Ch Tryz.func86 ?_
 unfold Cc at h
 refine A7 h (fun _=>GZ _ _ _ _ _ h_p1) fun x7 h=>?_
 exact A3 h
theorem Cj (p0:(List Ae)) (p1:(Ae→Option Bool)) (f_p1:FuncId) (c_p1:List D) (R:Bool) (h_p1:∀ (a0:Ae) r,p1 a0 = some r→Aj Tryz.prog f_p1 ([.d (Ag a0)]++c_p1.map .d) (.d (.bool r))) (h:AN p0 p1 = some R):Aj Tryz.prog 122 [.d (Al 2 Ag p0),.d (.fn f_p1 c_p1)] (.d (.bool R)):=by
 refine Ch Tryz.func122 ?_
 unfold AN at h
 refine A7 h (fun _=>Ea _ _ _ _ _ h_p1) fun x7 h=>?_
 exact A3 h
theorem F1 (p0:(List Am)) (p1:(Am→Option Bool)) (f_p1:FuncId) (c_p1:List D) (R:Int) (h_p1:∀ (a0:Am) r,p1 a0 = some r→Aj Tryz.prog f_p1 ([.d (Ac a0)]++c_p1.map .d) (.d (.bool r))) (h:B1 p0 p1 = some R):Aj Tryz.prog 242 [.d (Al 2 Ac p0),.d (.fn f_p1 c_p1)] (.d (.int .i64 R)):=by
 refine Ch Tryz.func242 ?_
 unfold B1 at h
 refine z3 h (fun p=>B8 19 [(0,.d (Al 2 Ac p0)),(1,.d (.fn f_p1 c_p1)),(7,.d (.int .i64 ((p0.length:Nat):Int))),(8,.d (.int .i64 p))] []) Ah fun _ _ v8_1 h=>?_
 simp only [CP] at h
 refine Bj h fun h=>?_
 refine AO (f:=Ac) h fun x14 _ h=>?_
 exact z38
theorem EJ (p0:(List Am)) (p1:(Am→Option Bool)) (f_p1:FuncId) (c_p1:List D) (R:Bool) (h_p1:∀ (a0:Am) r,p1 a0 = some r→Aj Tryz.prog f_p1 ([.d (Ac a0)]++c_p1.map .d) (.d (.bool r))) (h:AX p0 p1 = some R):Aj Tryz.prog 182 [.d (Al 2 Ac p0),.d (.fn f_p1 c_p1)] (.d (.bool R)):=by
 refine Ch Tryz.func182 ?_
 unfold AX at h
 refine A7 h (fun _=>F1 _ _ _ _ _ h_p1) fun x7 h=>?_
 exact A3 h
theorem H5 (p0:(List AD)) (p1:(AD→Option Bool)) (f_p1:FuncId) (c_p1:List D) (R:Int) (h_p1:∀ (a0:AD) r,p1 a0 = some r→Aj Tryz.prog f_p1 ([.d (Bb a0)]++c_p1.map .d) (.d (.bool r))) (h:CQ p0 p1 = some R):Aj Tryz.prog 251 [.d (Al 19 B9 p0),.d (.fn f_p1 c_p1)] (.d (.int .i64 R)):=by
 refine Ch Tryz.func251 ?_
 unfold CQ at h
 refine z3 h (fun p=>B8 19 [(0,.d (Al 19 B9 p0)),(1,.d (.fn f_p1 c_p1)),(7,.d (.int .i64 ((p0.length:Nat):Int))),(8,.d (.int .i64 p))] []) Aq fun _ _ v8_1 h=>?_
 simp only [DT] at h
 refine Cb h fun h=>?_
 refine AO (f:=B9) h fun x14 _ h=>?_
 rw [Bp x14]
 conv=>whnf
 rw [Kx]
 refine A7 h (fun _=>h_p1 _ _) fun x16 h=>?_
 exact z28
theorem BA (p0:(List AD)) (p1:(AD→Option Bool)) (f_p1:FuncId) (c_p1:List D) (R:Bool) (h_p1:∀ (a0:AD) r,p1 a0 = some r→Aj Tryz.prog f_p1 ([.d (Bb a0)]++c_p1.map .d) (.d (.bool r))) (h:Bc p0 p1 = some R):Aj Tryz.prog 190 [.d (Al 19 B9 p0),.d (.fn f_p1 c_p1)] (.d (.bool R)):=by
 refine Ch Tryz.func190 ?_
 unfold Bc at h
 refine A7 h (fun _=>H5 _ _ _ _ _ h_p1) fun x7 h=>?_
 exact AM h
theorem GB (p0:(List Av)) (p1:(Av→Option Bool)) (f_p1:FuncId) (c_p1:List D) (R:Int) (h_p1:∀ (a0:Av) r,p1 a0 = some r→Aj Tryz.prog f_p1 ([.d (Ad a0)]++c_p1.map .d) (.d (.bool r))) (h:BD p0 p1 = some R):Aj Tryz.prog 284 [.d (Al 7 Ad p0),.d (.fn f_p1 c_p1)] (.d (.int .i64 R)):=by
 refine Ch Tryz.func284 ?_
 unfold BD at h
 refine z3 h (fun p=>B8 19 [(0,.d (Al 7 Ad p0)),(1,.d (.fn f_p1 c_p1)),(7,.d (.int .i64 ((p0.length:Nat):Int))),(8,.d (.int .i64 p))] []) Ah fun _ _ v8_1 h=>?_
 simp only [Dl] at h
 refine Bj h fun h=>?_
 refine AO (f:=Ad) h fun x14 _ h=>?_
 exact z38
theorem FF (p0:(List Av)) (p1:(Av→Option Bool)) (f_p1:FuncId) (c_p1:List D) (R:Bool) (h_p1:∀ (a0:Av) r,p1 a0 = some r→Aj Tryz.prog f_p1 ([.d (Ad a0)]++c_p1.map .d) (.d (.bool r))) (h:Bh p0 p1 = some R):Aj Tryz.prog 243 [.d (Al 7 Ad p0),.d (.fn f_p1 c_p1)] (.d (.bool R)):=by
 refine Ch Tryz.func243 ?_
 unfold Bh at h
 refine A7 h (fun _=>GB _ _ _ _ _ h_p1) fun x7 h=>?_
 exact A3 h
theorem O6 (p0:(List Int)) (R:Int) (h:HG p0 = some R):Aj Tryz.prog 263 [.d (Al 1 (D.int .i64) p0)] (.d (.int .i64 R)):=by
 refine Ch Tryz.func263 ?_
 unfold HG at h
 refine AW h (fun h=>?_) fun h=>?_
 ·conv=>whnf
  cases h
 refine AO (f:=(D.int .i64)) h fun x10 _ h=>?_
 refine z3 h (fun p=>B8 25 [(0,.d (Al 1 (D.int .i64) p0)),(3,.d (.int .i64 p.1)),(4,.d (.int .i64 p.2))] []) Ah fun _ _ ⟨v3_1,v4_1⟩ h=>?_
 simp only [IW] at h
 refine Bj h fun h=>?_
 refine AO (f:=(D.int .i64)) h fun x21 _ h=>?_
 exact z15
theorem JD (p0:ByteArray) (R:Bool) (h:Ef p0 = some R):Aj Tryz.prog 118 [.d (.str p0)] (.d (.bool R)):=by
 refine Dt [3,9] Tryz.func118 (by kernel_rfl) ?_
 unfold Ef at h
 refine F0 {p:Unit // MA p0 = some R} (fun p=>B8 62 [(0,.d (.str p0))] []) ?_ fun p=>?_
 ·refine An h fun h=>?_
  obtain ⟨hr,h⟩:=Eg h
  refine z10 ?_
  exact z53
 obtain ⟨_,h⟩:=p
 simp only [MA] at h
 refine F0 {p:Unit // MP p0 = some R} (fun p=>B8 62 [(0,.d (.str p0))] []) ?_ fun p=>?_
 ·refine z3 h (fun p=>B8 62 [(0,.d (.str p0)),(24,.d (Al 1 (D.int .u8) (Kk p0))),(25,.d (.int .i64 (((Kk p0).length:Nat):Int))),(26,.d (.int .i64 p))] []) Ah fun _ _ v26_1 h=>?_
  simp only [Qi] at h
  refine AW h (fun h=>?_) fun h=>?_
  ·refine AO (f:=(D.int .u8)) h fun x28 _ h=>?_
   exact z12
  exact z52
 obtain ⟨_,h⟩:=p
 simp only [MP] at h
 conv=>whnf
 refine KG h Db (fun e10 h=>?_) (fun e10 h=>?_)
 ·conv=>whnf
  refine Lp Db e10 ?_
  exact A3 h
 conv=>whnf
 refine KG h Db (fun e11 h=>?_) (fun e11 h=>?_)
 ·conv=>whnf
  refine Lp Db e11 ?_
  exact A3 h
 conv=>whnf
 refine KG h Db (fun e12 h=>?_) (fun e12 h=>?_)
 ·conv=>whnf
  refine Lp Db e12 ?_
  exact A3 h
 conv=>whnf
 refine KG h Db (fun e13 h=>?_) (fun e13 h=>?_)
 ·conv=>whnf
  refine Lp Db e13 ?_
  exact A3 h
 conv=>whnf
 refine KG h Db (fun e14 h=>?_) (fun e14 h=>?_)
 ·conv=>whnf
  refine Lp Db e14 ?_
  exact A3 h
 conv=>whnf
 refine KG h Db (fun e15 h=>?_) (fun e15 h=>?_)
 ·conv=>whnf
  refine Lp Db e15 ?_
  exact A3 h
 conv=>whnf
 refine KG h Db (fun e16 h=>?_) (fun e16 h=>?_)
 ·conv=>whnf
  refine Lp Db e16 ?_
  exact A3 h
 conv=>whnf
 refine KG h Db (fun e17 h=>?_) (fun e17 h=>?_)
 ·conv=>whnf
  refine Lp Db e17 ?_
  exact A3 h
 conv=>whnf
 refine KG h Db (fun e18 h=>?_) (fun e18 h=>?_)
 ·conv=>whnf
  refine Lp Db e18 ?_
  exact A3 h
 conv=>whnf
 refine KG h Db (fun e19 h=>?_) (fun e19 h=>?_)
 ·conv=>whnf
  refine Lp Db e19 ?_
  exact A3 h
 exact EC h
theorem Ho (p0:Am) (R:(List Int)) (h:FY p0 = some R):Aj Tryz.prog 241 [.d (Ac p0)] (.d (Al 1 (D.int .i64) R)):=by
 refine Ch Tryz.func241 ?_
 unfold FY at h
 conv=>whnf
 obtain ⟨hr,h⟩:=Eg h
 refine z6 ?_
 try rw [fL]
 refine z3 h (fun p=>B8 31 [(3,.sl 9 1),(11,.d (Al 2 Br p0.Codes)),(12,.d (.int .i64 ((p0.Codes.length:Nat):Int))),(13,.d (.int .i64 p.1))] [(9,.row 1 3 (List.map (D.int .i64) p.2),1)]) Ah fun _ _ ⟨v13_1,b9_1⟩ h=>?_
 simp only [Ou] at h
 refine AW h (fun h=>?_) fun h=>?_
 ·refine AO (f:=Br) h fun x16 _ h=>?_
  refine AW h (fun h=>?_) fun h=>?_
  ·refine UT (f:=(D.int .i64)) h Db fun x25 hx25 h=>?_
   refine eO (f:=(D.int .i64)) hx25 Db ?_
   refine UT (f:=(D.int .i64)) h Db fun x28 hx28 h=>?_
   refine eO (f:=(D.int .i64)) hx28 Db ?_
   conv=>whnf
   try rw [cz]
   exact BE ⟨(_,(_,_)),h⟩ Ah
  exact z15
 exact z31
theorem Ku (p0:Am) (R:Int) (h:FT p0 = some R):Aj Tryz.prog 181 [.d (Ac p0)] (.d (.int .i64 R)):=by
 refine Dt [21] Tryz.func181 (by kernel_rfl) ?_
 unfold FT at h
 refine A7 h (fun _=>JD _ _) fun x13 h=>?_
 refine An h fun h=>?_
 refine An h fun h=>?_
 refine An h fun h=>?_
 conv=>whnf
 refine z11 ?_
 conv=>whnf
 obtain ⟨hr,h⟩:=Eg h
 refine z6 ?_
 try rw [fL]
 refine F0 {p:(List Bool) // LK p0 p = some R} (fun p=>B8 102 [(1,.ptr 1 1 0),(4,.sl 29 1)] [(1,.var [.d (.str p0.Name),.d (Al 2 Br p0.Codes)],1),(29,.row 1 4 (List.map D.bool p.1),1)]) ?_ fun p=>?_
 ·refine z3 h (fun p=>B8 102 [(1,.ptr 1 1 0),(3,.sl 25 1),(4,.sl 29 1),(31,.d (Al 2 Br p0.Codes)),(32,.d (.int .i64 ((p0.Codes.length:Nat):Int))),(33,.d (.int .i64 p.1))] [(1,.var [.d (.str p0.Name),.d (Al 2 Br p0.Codes)],1),(25,.map (ia D.bool p.2.1),1),(29,.row 1 4 (List.map D.bool p.2.2),1)]) Ah fun _ _ ⟨v33_1,b25_1,b29_1⟩ h=>?_
  simp only [Pv] at h
  refine AW h (fun h=>?_) fun h=>?_
  ·refine AO (f:=Br) h fun x36 _ h=>?_
   refine A7 h (fun _=>JD _ _) fun x41 h=>?_
   refine An h fun h=>?_
   conv=>whnf
   refine ⟨⟨by kernel_rfl,YB D.bool x36.Name b25_1⟩,?_⟩
   conv=>whnf
   refine eV (f:=D.bool) (es:=b25_1) (z:=false) ?_
   refine An h fun h=>?_
   refine An h fun h=>?_
   conv=>whnf
   refine ⟨⟨by rfl,by kernel_rfl,YB D.bool x36.Name b25_1⟩,?_⟩
   conv=>whnf
   try rw [bz D.bool x36.Name true]
   refine AW h (fun h=>?_) fun h=>?_
   ·refine UT (f:=D.bool) h Db fun x79 hx79 h=>?_
    refine eO (f:=D.bool) hx79 Db ?_
    conv=>whnf
    try rw [cz]
    exact BE ⟨(_,(_,_,_)),h⟩ Ah
   exact z18
  conv=>whnf
  exact ⟨⟨_,h⟩,Ah⟩
 obtain ⟨k29_1,h⟩:=p
 simp only [LK] at h
 refine A7 h (fun _=>Ho _ _) fun x82 h=>?_
 refine z3 h (fun p=>B8 102 [(4,.sl 29 1),(7,.d (.int .i64 p.1)),(82,.d (Al 1 (D.int .i64) x82)),(83,.d (.int .i64 ((x82.length:Nat):Int))),(84,.d (.int .i64 p.2))] [(29,.row 1 4 (List.map D.bool k29_1),1)]) Ah fun _ _ ⟨v7_2,v84_2⟩ h=>?_
 simp only [P5] at h
 refine Bj h fun h=>?_
 refine AO (f:=(D.int .i64)) h fun x87 _ h=>?_
 refine UT (f:=D.bool) h Db fun x91 hx91 h=>?_
 refine eO (f:=D.bool) hx91 Db ?_
 refine AW h (fun h=>?_) fun h=>?_
 ·exact z15
 refine An h fun h=>?_
 exact z15
theorem RE (p0:Am) (q0:Am) (R:Bool) (h:KL p0 q0 = some R):Aj Tryz.prog 183 [.d (Ac p0),.d (.ptr [(.str q0.Name),(Al 2 Br q0.Codes)])] (.d (.bool R)):=by
 refine Ch Tryz.func183 ?_
 unfold KL at h
 exact A3 h
theorem Nk (p0:Av) (q0:Av) (R:Bool) (h:GR p0 q0 = some R):Aj Tryz.prog 244 [.d (Ad p0),.d (.ptr [(.str q0.Name),(.int .i64 q0.Kind),(.int .i64 q0.List_),(.int .i64 q0.Low),(.int .i64 q0.High),(Al 1 (D.int .i64) q0.Widths),(.bool q0.Optional)])] (.d (.bool R)):=by
 refine Ch Tryz.func244 ?_
 unfold GR at h
 exact A3 h
theorem O4 (p0:Av) (R:Int) (h:Eh p0 = some R):Aj Tryz.prog 245 [.d (Ad p0)] (.d (.int .i64 R)):=by
 refine Ch Tryz.func245 ?_
 unfold Eh at h
 refine An h fun h=>?_
 refine An h fun h=>?_
 refine z3 h (fun p=>B8 68 [(3,.d (.int .i64 p.1)),(34,.d (Al 1 (D.int .i64) p0.Widths)),(35,.d (.int .i64 ((p0.Widths.length:Nat):Int))),(36,.d (.int .i64 p.2))] []) Ah fun _ _ ⟨v3_1,v36_1⟩ h=>?_
 simp only [Gi] at h
 refine Bj h fun h=>?_
 refine AO (f:=(D.int .i64)) h fun x39 _ h=>?_
 refine An h fun h=>?_
 refine AW h (fun h=>?_) fun h=>?_
 ·refine An h fun h=>?_
  obtain ⟨hr,h⟩:=Eg h
  refine z10 ?_
  refine An h fun h=>?_
  exact z15
 exact BE ⟨(_,(_,_)),h⟩ Ah
theorem KF (p0:Av) (R:Bool) (h:Es p0 = some R):Aj Tryz.prog 246 [.d (Ad p0)] (.d (.bool R)):=by
 refine Ch Tryz.func246 ?_
 unfold Es at h
 exact EC h
theorem OE (p0:Aa) (p1:Int) (R:Int) (h:EA p0 p1 = some R):Aj Tryz.prog 184 [.d (Ai p0),.d (.int .i64 p1)] (.d (.int .i64 R)):=by
 refine Ch Tryz.func184 ?_
 unfold EA at h
 refine AO (f:=Ad) h fun x10 _ h=>?_
 refine A7 h (fun _=>JD _ _) fun x14 h=>?_
 refine An h fun h=>?_
 conv=>whnf
 obtain ⟨hr,h⟩:=Eg h
 refine z7 ?_
 try simp only [List.length_map]
 rw [Wd]
 refine A7 h (fun _=>FF _ _ _ _ _ (fun a0 _ h=>Nk a0 _ _ h)) fun x21 h=>?_
 refine An h fun h=>?_
 refine AW h (fun h=>?_) fun h=>?_
 ·refine An h fun h=>?_
  exact z48
 refine AW h (fun h=>?_) fun h=>?_
 ·refine An h fun h=>?_
  exact z48
 refine Bj h fun h=>?_
 refine A7 h (fun _=>O4 _ _) fun x44 h=>?_
 refine An h fun h=>?_
 exact z48
theorem E4 (p0:Aa) (R:Int) (h:Dk p0 = some R):Aj Tryz.prog 117 [.d (Ai p0)] (.d (.int .i64 R)):=by
 refine Dt [12] Tryz.func117 (by kernel_rfl) ?_
 unfold Dk at h
 refine An h fun h=>?_
 refine F0 {p:Unit // Ik p0 = some R} (fun p=>B8 63 [(1,.ptr 1 1 0)] [(1,.var [.d (Al 2 Ac p0.Lists),.d (Al 7 Ad p0.Columns)],1)]) ?_ fun p=>?_
 ·refine z3 h (fun p=>B8 63 [(1,.ptr 1 1 0),(19,.d (Al 2 Ac p0.Lists)),(20,.d (.int .i64 ((p0.Lists.length:Nat):Int))),(21,.d (.int .i64 p))] [(1,.var [.d (Al 2 Ac p0.Lists),.d (Al 7 Ad p0.Columns)],1)]) Ah fun _ _ v21_1 h=>?_
  simp only [Ip] at h
  refine AW h (fun h=>?_) fun h=>?_
  ·refine AO (f:=Ac) h fun x24 _ h=>?_
   refine A7 h (fun _=>Ku _ _) fun x27 h=>?_
   refine An h fun h=>?_
   conv=>whnf
   obtain ⟨hr,h⟩:=Eg h
   refine z7 ?_
   try simp only [List.length_map]
   rw [Wd]
   refine A7 h (fun _=>EJ _ _ _ _ _ (fun a0 _ h=>RE a0 _ _ h)) fun x36 h=>?_
   exact z12
  exact z52
 obtain ⟨_,h⟩:=p
 simp only [Ik] at h
 refine An h fun h=>?_
 refine AO (f:=Ad) h fun x45 _ h=>?_
 refine An h fun h=>?_
 refine z3 h (fun p=>B8 63 [(1,.ptr 1 1 0),(52,.d (.int .i64 ((p0.Columns.length:Nat):Int))),(53,.d (.int .i64 p))] [(1,.var [.d (Al 2 Ac p0.Lists),.d (Al 7 Ad p0.Columns)],1)]) Ah fun _ _ v53_2 h=>?_
 simp only [Ir] at h
 refine Bj h fun h=>?_
 refine A7 h (fun _=>OE _ _ _) fun x58 h=>?_
 exact z12
theorem Jk (p0:Am) (R:Int) (h:EZ p0 = some R):Aj Tryz.prog 205 [.d (Ac p0)] (.d (.int .i64 R)):=by
 refine Ch Tryz.func205 ?_
 unfold EZ at h
 refine A7 h (fun _=>Ku _ _) fun x4 h=>?_
 refine An h fun h=>?_
 refine A7 h (fun _=>Ho _ _) fun x7 h=>?_
 refine A7 h (fun _=>O6 _ _) fun x8 h=>?_
 exact A3 h
theorem KI (p0:Aa) (p1:Int) (R:Int) (h:Fv p0 p1 = some R):Aj Tryz.prog 147 [.d (Ai p0),.d (.int .i64 p1)] (.d (.int .i64 R)):=by
 refine Ch Tryz.func147 ?_
 unfold Fv at h
 refine An h fun h=>?_
 refine AO (f:=Ad) h fun x18 _ h=>?_
 refine Bj h fun h=>?_
 refine AO (f:=Ac) h fun x27 _ h=>?_
 refine A7 h (fun _=>Jk _ _) fun x29 h=>?_
 exact A3 h
theorem Qy (p0:Aa) (p1:Ae) (R:Int) (h:II p0 p1 = some R):Aj Tryz.prog 185 [.d (Ai p0),.d (Ag p1)] (.d (.int .i64 R)):=by
 refine Ch Tryz.func185 ?_
 unfold II at h
 refine A7 h (fun _=>KI _ _ _) fun x9 h=>?_
 refine An h fun h=>?_
 exact EC h
theorem UL (p0:Aa) (p1:(List Ae)) (R:Int) (h:Jy p0 p1 = some R):Aj Tryz.prog 119 [.d (Ai p0),.d (Al 2 Ag p1)] (.d (.int .i64 R)):=by
 refine Ch Tryz.func119 ?_
 unfold Jy at h
 refine A7 h (fun _=>E4 _ _) fun x10 h=>?_
 refine An h fun h=>?_
 refine z3 h (fun p=>B8 41 [(1,.d (Al 2 Ag p1)),(2,.ptr 2 1 0),(14,.d (Al 2 Ag p1)),(15,.d (.int .i64 ((p1.length:Nat):Int))),(16,.d (.int .i64 p))] [(2,.var [.d (Al 2 Ac p0.Lists),.d (Al 7 Ad p0.Columns)],1)]) Ah fun _ _ v16_1 h=>?_
 simp only [Io] at h
 refine Bj h fun h=>?_
 refine AO (f:=Ag) h fun x19 _ h=>?_
 refine A7 h (fun _=>Qy _ _ _) fun x23 h=>?_
 refine An h fun h=>?_
 conv=>whnf
 refine z11 ?_
 refine AW h (fun h=>?_) fun h=>?_
 ·refine AO (f:=Ag) h fun x35 _ h=>?_
  exact z12
 exact z39
theorem Od (p0:Am) (p1:Int) (R:(List Int)) (h:K2 p0 p1 = some R):Aj Tryz.prog 204 [.d (Ac p0),.d (.int .i64 p1)] (.d (Al 1 (D.int .i64) R)):=by
 refine Ch Tryz.func204 ?_
 unfold K2 at h
 refine A7 h (fun _=>Ku _ _) fun x9 h=>?_
 refine AW h (fun h=>?_) fun h=>?_
 ·exact z31
 refine A7 h (fun _=>Ho _ _) fun x12 h=>?_
 refine z3 h (fun p=>B8 28 [(1,.d (.int .i64 p1)),(5,.sl 5 1),(12,.d (Al 1 (D.int .i64) x12)),(13,.d (.int .i64 ((x12.length:Nat):Int))),(14,.d (.int .i64 p.1))] [(5,.row 1 3 (List.map (D.int .i64) p.2),1)]) Ah fun _ _ ⟨v14_1,b5_1⟩ h=>?_
 simp only [TS] at h
 refine AW h (fun h=>?_) fun h=>?_
 ·refine AO (f:=(D.int .i64)) h fun x17 _ h=>?_
  refine AW h (fun h=>?_) fun h=>?_
  ·conv=>whnf
   exact z26
  exact z15
 exact z31
theorem Pj (p0:Am) (p1:Int) (R:Bool) (h:Nw p0 p1 = some R):Aj Tryz.prog 264 [.d (Ac p0),.d (.int .i64 p1)] (.d (.bool R)):=by
 refine Ch Tryz.func264 ?_
 unfold Nw at h
 refine Bj h fun h=>?_
 refine A7 h (fun _=>Ku _ _) fun x16 h=>?_
 exact A3 h
theorem L4 (p0:Am) (p1:Int) (p2:Int) (R:Int) (h:GD p0 p1 p2 = some R):Aj Tryz.prog 206 [.d (Ac p0),.d (.int .i64 p1),.d (.int .i64 p2)] (.d (.int .i64 R)):=by
 refine Ch Tryz.func206 ?_
 unfold GD at h
 refine A7 h (fun _=>Pj _ _ _) fun x10 h=>?_
 refine An h fun h=>?_
 refine A7 h (fun _=>Ho _ _) fun x17 h=>?_
 refine AO (f:=(D.int .i64)) h fun x19 _ h=>?_
 refine z3 h (fun p=>B8 36 [(1,.d (.int .i64 p.1)),(2,.d (.int .i64 p2)),(3,.ptr 3 1 0),(7,.d (.int .i64 p.2))] [(3,.var [.d (.str p0.Name),.d (Al 2 Br p0.Codes)],1)]) Ah fun _ _ ⟨v1_1,v7_1⟩ h=>?_
 simp only [TF] at h
 refine Bj h fun h=>?_
 refine An h fun h=>?_
 refine AO (f:=Br) h fun x33 _ h=>?_
 exact z15
theorem LC (p0:Av) (p1:Int) (R:Int) (h:Gn p0 p1 = some R):Aj Tryz.prog 213 [.d (Ad p0),.d (.int .i64 p1)] (.d (.int .i64 R)):=by
 refine Ch Tryz.func213 ?_
 unfold Gn at h
 refine AO (f:=(D.int .i64)) h fun x12 _ h=>?_
 exact A3 h
theorem GN (p0:Int) (p1:Int) (R:Int) (h:Ep p0 p1 = some R):Aj Tryz.prog 214 [.d (.int .i64 p0),.d (.int .i64 p1)] (.d (.int .i64 R)):=by
 refine Ch Tryz.func214 ?_
 unfold Ep at h
 exact z37
theorem Qv (p0:Av) (p1:Int) (p2:Int) (R:(Int × Int × Bool)) (h:IJ p0 p1 p2 = some R):Aj Tryz.prog 210 [.d (Ad p0),.d (.int .i64 p1),.d (.int .i64 p2)] (.tup [.d (.int .i64 R.1),.d (.int .i64 R.2.1),.d (.bool R.2.2)]):=by
 refine Ch Tryz.func210 ?_
 unfold IJ at h
 refine AW h (fun h=>?_) fun h=>?_
 ·exact z44
 refine An h fun h=>?_
 refine A7 h (fun _=>LC _ _ _) fun x30 h=>?_
 conv=>whnf
 refine z11 ?_
 refine A7 h (fun _=>GN _ _ _) fun x46 h=>?_
 exact A3 h
theorem MN (p0:Aa) (p1:Int) (p2:Int) (p3:Int) (R:(Int × Bool)) (h:Bd p0 p1 p2 p3 = some R):Aj Tryz.prog 145 [.d (Ai p0),.d (.int .i64 p1),.d (.int .i64 p2),.d (.int .i64 p3)] (.tup [.d (.int .i64 R.1),.d (.bool R.2)]):=by
 refine Ch Tryz.func145 ?_
 unfold Bd at h
 refine AO (f:=Ad) h fun x20 _ h=>?_
 refine AW h (fun h=>?_) fun h=>?_
 ·refine AW h (fun h=>?_) fun h=>?_
  ·exact z44
  refine A7 h (fun _=>Qv _ _ _ _) fun x38 h=>?_
  exact A3 h
 refine AO (f:=Ac) h fun x48 _ h=>?_
 conv=>whnf
 refine z11 ?_
 refine A7 h (fun _=>Jk _ _) fun x52 h=>?_
 refine A7 h (fun _=>Od _ _ _) fun x54 h=>?_
 refine z3 h (fun p=>B8 68 [(2,.d (.int .i64 p2)),(3,.d (.int .i64 p3)),(14,.ptr 14 1 0),(54,.d (Al 1 (D.int .i64) x54)),(55,.d (.int .i64 ((x54.length:Nat):Int))),(56,.d (.int .i64 p))] [(14,.var [.d (.str x48.Name),.d (Al 2 Br x48.Codes)],1)]) Ah fun _ _ v56_1 h=>?_
 simp only [LA] at h
 refine Bj h fun h=>?_
 refine AO (f:=(D.int .i64)) h fun x58 _ h=>?_
 refine A7 h (fun _=>L4 _ _ _ _) fun x63 h=>?_
 exact z12
theorem VN (p0:Aa) (p1:(List Ae)) (p2:(List Int)) (R:Bool) (h:Jc p0 p1 p2 = some R):Aj Tryz.prog 120 [.d (Ai p0),.d (Al 2 Ag p1),.d (Al 1 (D.int .i64) p2)] (.d (.bool R)):=by
 refine Dt [3] Tryz.func120 (by kernel_rfl) ?_
 unfold Jc at h
 refine F0 {p:Unit // Ig p1 p2 p0 = some R} (fun p=>B8 53 [(1,.d (Al 2 Ag p1)),(2,.d (Al 1 (D.int .i64) p2)),(3,.ptr 3 1 0)] [(3,.var [.d (Al 2 Ac p0.Lists),.d (Al 7 Ad p0.Columns)],1)]) ?_ fun p=>?_
 ·refine An h fun h=>?_
  refine AO (f:=(D.int .i64)) h fun x19 _ h=>?_
  refine An h fun h=>?_
  refine AO (f:=(D.int .i64)) h fun x25 _ h=>?_
  exact z23
 obtain ⟨_,h⟩:=p
 simp only [Ig] at h
 refine z3 h (fun p=>B8 53 [(2,.d (Al 1 (D.int .i64) p2)),(3,.ptr 3 1 0),(29,.d (Al 2 Ag p1)),(30,.d (.int .i64 ((p1.length:Nat):Int))),(31,.d (.int .i64 p))] [(3,.var [.d (Al 2 Ac p0.Lists),.d (Al 7 Ad p0.Columns)],1)]) Ah fun _ _ v31_1 h=>?_
 simp only [Im] at h
 refine Bj h fun h=>?_
 refine AO (f:=Ag) h fun x34 _ h=>?_
 conv=>whnf
 refine z11 ?_
 refine AO (f:=(D.int .i64)) h fun x45 _ h=>?_
 refine A7 h (fun _=>MN _ _ _ _ _) fun x47 h=>?_
 exact z12
theorem Om (p0:Aa) (p1:Aw) (R:Int) (h:Ex p0 p1 = some R):Aj Tryz.prog 61 [.d (Ai p0),.d (Ci p1)] (.d (.int .i64 R)):=by
 refine Ch Tryz.func61 ?_
 unfold Ex at h
 refine A7 h (fun _=>E4 _ _) fun x10 h=>?_
 refine An h fun h=>?_
 refine A7 h (fun _=>JD _ _) fun x17 h=>?_
 refine An h fun h=>?_
 refine An h fun h=>?_
 refine A7 h (fun _=>UL _ _ _) fun x31 h=>?_
 refine An h fun h=>?_
 refine An h fun h=>?_
 refine z3 h (fun p=>B8 70 [(2,.ptr 2 1 0),(3,.ptr 3 1 0),(40,.d (Al 1 (Al 1 (D.int .i64)) p1.Rows)),(41,.d (.int .i64 ((p1.Rows.length:Nat):Int))),(42,.d (.int .i64 p))] [(2,.var [.d (Al 2 Ac p0.Lists),.d (Al 7 Ad p0.Columns)],1),(3,.var [.d (.str p1.Project),.d (.int .i64 p1.Version),.d (Al 2 Ag p1.Picks),.d (Al 1 (Al 1 (D.int .i64)) p1.Rows)],1)]) Ah fun _ _ v42_1 h=>?_
 simp only [HB] at h
 refine Bj h fun h=>?_
 refine AO (f:=(Al 1 (D.int .i64))) h fun x45 _ h=>?_
 refine A7 h (fun _=>VN _ _ _ _) fun x51 h=>?_
 refine An h fun h=>?_
 conv=>whnf
 refine z11 ?_
 refine AW h (fun h=>?_) fun h=>?_
 ·refine AO (f:=(D.int .i64)) h fun x57 _ h=>?_
  refine AO (f:=(Al 1 (D.int .i64))) h fun x63 _ h=>?_
  refine AO (f:=(D.int .i64)) h fun x65 _ h=>?_
  exact z12
 exact z39
theorem QO (d:Nat) (self_condition_count:(Af→Int→Option Int)) (ih_condition_count:∀ (p0:Af) (p1:Int) (R:Int) ,self_condition_count p0 p1 = some R→Aj Tryz.prog 140 [.d (Ax p0),.d (.int .i64 p1)] (.d (.int .i64 R))) (p0:Af) (p1:Int) (R:Int) (h:Dm d self_condition_count p0 p1 = some R):Aj Tryz.prog 140 [.d (Ax p0),.d (.int .i64 p1)] (.d (.int .i64 R)):=by
 refine Ch Tryz.func140 ?_
 unfold Dm at h
 refine z3 h (fun p=>B8 27 [(1,.d (.int .i64 p1)),(5,.d (.int .i64 p.1)),(9,.d (Al 6 Ao p0.Kids)),(10,.d (.int .i64 ((p0.Kids.length:Nat):Int))),(11,.d (.int .i64 p.2))] []) Aq fun _ _ ⟨v5_1,v11_1⟩ h=>?_
 simp only [E2] at h
 refine Cb h fun h=>?_
 refine AO (f:=Ao) h fun x13 _ h=>?_
 rw [A9 x13]
 refine A2 h fun h=>?_
 conv=>whnf
 obtain ⟨x23,hx23,h⟩:=AB h
 first | refine Au (ih_condition_count _ _ _ hx23) ?_ | (simp only [List.length_map]; refine Au (ih_condition_count _ _ _ hx23) ?_)
 exact z19
theorem LB:∀ d:Nat,(∀ (p0:Af) (p1:Int) (R:Int) ,Ds d p0 p1 = some R→Aj Tryz.prog 140 [.d (Ax p0),.d (.int .i64 p1)] (.d (.int .i64 R)))
 | 0=>by
  exact z22
 | d + 1=>by
  have ih:=LB d
  exact QO d _ ih
theorem Sb (d:Nat):∀ (p0:Af) (p1:Int) (R:Int) ,Ds d p0 p1 = some R→Aj Tryz.prog 140 [.d (Ax p0),.d (.int .i64 p1)] (.d (.int .i64 R)):=LB d
end Go.Proofs.YtejfnieiaecpkaaGreatDoor.P
