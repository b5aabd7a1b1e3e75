/- P3W1 -/
import Derived.Test.YtjghjdokjgcehaaGreatDoorP3HW
set_option linter.unusedSimpArgs false
namespace Go.Proofs.YtjghjdokjgcehaaGreatDoor.P
open Go.Abs Go.Proofs
set_option maxRecDepth 100000
set_option maxHeartbeats 4000000
set_option linter.unusedVariables false
theorem DY (p0:ByteArray) (R:Bool) (h:BO p0 = some R):Al Tryz.prog 42 [.d (.str p0)] (.d (.bool R)):=by
 refine Ek [3,9] Tryz.func42 (by kernel_rfl) ?_
 unfold BO at h
 refine Ga {p:Unit // Gj p0 = some R} (fun p=>Cd 62 [(0,.d (.str p0))] []) ?_ fun p=>?_
 ·refine An h fun h=>?_
  obtain ⟨hr,h⟩:=E0 h
  refine z12 ?_
  refine An h fun h=>?_
  obtain ⟨hr,h⟩:=E0 h
  refine z12 ?_
  exact z33
 obtain ⟨_,h⟩:=p
 simp only [Gj] at h
 refine Ga {p:Unit // J1 p0 = some R} (fun p=>Cd 62 [(0,.d (.str p0))] []) ?_ fun p=>?_
 ·refine z5 h (fun p=>Cd 62 [(0,.d (.str p0)),(24,.d (Ah 1 (D.int .u8) (F8 p0))),(25,.d (.int .i64 (((F8 p0).length:Nat):Int))),(26,.d (.int .i64 p))] []) As fun _ _ v26_1 h=>?_
  simp only [ES] at h
  refine AM h (fun h=>?_) fun h=>?_
  ·refine B6 (f:=(D.int .u8)) h fun x28 _ h=>?_
   exact z17
  conv=>whnf
  exact ⟨⟨(),h⟩,As⟩
 obtain ⟨_,h⟩:=p
 simp only [J1] at h
 conv=>whnf
 refine K1 h Cc (fun e10 h=>?_) (fun e10 h=>?_)
 ·conv=>whnf
  refine Lt Cc e10 ?_
  exact AD h
 conv=>whnf
 refine K1 h Cc (fun e11 h=>?_) (fun e11 h=>?_)
 ·conv=>whnf
  refine Lt Cc e11 ?_
  exact AD h
 conv=>whnf
 refine K1 h Cc (fun e12 h=>?_) (fun e12 h=>?_)
 ·conv=>whnf
  refine Lt Cc e12 ?_
  exact AD h
 conv=>whnf
 refine K1 h Cc (fun e13 h=>?_) (fun e13 h=>?_)
 ·conv=>whnf
  refine Lt Cc e13 ?_
  exact AD h
 conv=>whnf
 refine K1 h Cc (fun e14 h=>?_) (fun e14 h=>?_)
 ·conv=>whnf
  refine Lt Cc e14 ?_
  exact AD h
 conv=>whnf
 refine K1 h Cc (fun e15 h=>?_) (fun e15 h=>?_)
 ·conv=>whnf
  refine Lt Cc e15 ?_
  exact AD h
 conv=>whnf
 refine K1 h Cc (fun e16 h=>?_) (fun e16 h=>?_)
 ·conv=>whnf
  refine Lt Cc e16 ?_
  exact AD h
 conv=>whnf
 refine K1 h Cc (fun e17 h=>?_) (fun e17 h=>?_)
 ·conv=>whnf
  refine Lt Cc e17 ?_
  exact AD h
 conv=>whnf
 refine K1 h Cc (fun e18 h=>?_) (fun e18 h=>?_)
 ·conv=>whnf
  refine Lt Cc e18 ?_
  exact AD h
 conv=>whnf
 refine K1 h Cc (fun e19 h=>?_) (fun e19 h=>?_)
 ·conv=>whnf
  refine Lt Cc e19 ?_
  exact AD h
 exact Eb h
theorem G5 (p0:Ay) (R:(List Int)) (h:F9 p0 = some R):Al Tryz.prog 145 [.d (Af p0)] (.d (Ah 1 (D.int .i64) R)):=by
 refine Cn Tryz.func145 ?_
 unfold F9 at h
 conv=>whnf
 obtain ⟨hr,h⟩:=E0 h
 refine z8 ?_
 try rw [cD]
 refine z5 h (fun p=>Cd 31 [(3,.sl 9 1),(11,.d (Ah 2 By p0.Codes)),(12,.d (.int .i64 ((p0.Codes.length:Nat):Int))),(13,.d (.int .i64 p.1))] [(9,.row 1 3 (List.map (D.int .i64) p.2),1)]) As fun _ _ ⟨v13_1,b9_1⟩ h=>?_
 simp only [Nu] at h
 refine AM h (fun h=>?_) fun h=>?_
 ·refine B6 (f:=By) h fun x16 _ h=>?_
  refine AM h (fun h=>?_) fun h=>?_
  ·refine RX (f:=(D.int .i64)) h Cc fun x25 hx25 h=>?_
   refine Z7 (f:=(D.int .i64)) hx25 Cc ?_
   refine RX (f:=(D.int .i64)) h Cc fun x28 hx28 h=>?_
   refine Z7 (f:=(D.int .i64)) hx28 Cc ?_
   conv=>whnf
   try rw [bR]
   exact Cw ⟨(_,(_,_)),h⟩ As
  exact z22
 exact z37
theorem J0 (p0:Ay) (R:Int) (h:F3 p0 = some R):Al Tryz.prog 80 [.d (Af p0)] (.d (.int .i64 R)):=by
 refine Ek [21] Tryz.func80 (by kernel_rfl) ?_
 unfold F3 at h
 refine AU h (fun _=>DY _ _) fun x13 h=>?_
 refine An h fun h=>?_
 refine An h fun h=>?_
 refine An h fun h=>?_
 conv=>whnf
 refine z13 ?_
 conv=>whnf
 obtain ⟨hr,h⟩:=E0 h
 refine z8 ?_
 try rw [cD]
 refine Ga {p:(List Bool) // KA p0 p = some R} (fun p=>Cd 102 [(1,.ptr 1 1 0),(4,.sl 29 1)] [(1,.var [.d (.str p0.Name),.d (Ah 2 By p0.Codes)],1),(29,.row 1 4 (List.map D.bool p.1),1)]) ?_ fun p=>?_
 ·refine z5 h (fun p=>Cd 102 [(1,.ptr 1 1 0),(3,.sl 25 1),(4,.sl 29 1),(31,.d (Ah 2 By p0.Codes)),(32,.d (.int .i64 ((p0.Codes.length:Nat):Int))),(33,.d (.int .i64 p.1))] [(1,.var [.d (.str p0.Name),.d (Ah 2 By p0.Codes)],1),(25,.map (dn D.bool p.2.1),1),(29,.row 1 4 (List.map D.bool p.2.2),1)]) As fun _ _ ⟨v33_1,b25_1,b29_1⟩ h=>?_
  simp only [NK] at h
  refine AM h (fun h=>?_) fun h=>?_
  ·refine B6 (f:=By) h fun x36 _ h=>?_
   refine AU h (fun _=>DY _ _) fun x41 h=>?_
   refine An h fun h=>?_
   conv=>whnf
   refine ⟨⟨by kernel_rfl,Xx D.bool x36.Name b25_1⟩,?_⟩
   conv=>whnf
   refine b6 (f:=D.bool) (es:=b25_1) (z:=false) ?_
   refine An h fun h=>?_
   refine An h fun h=>?_
   conv=>whnf
   refine ⟨⟨by rfl,by kernel_rfl,Xx D.bool x36.Name b25_1⟩,?_⟩
   conv=>whnf
   try rw [Zy D.bool x36.Name true]
   refine AM h (fun h=>?_) fun h=>?_
   ·refine RX (f:=D.bool) h Cc fun x79 hx79 h=>?_
    refine Z7 (f:=D.bool) hx79 Cc ?_
    conv=>whnf
    try rw [bR]
    exact Cw ⟨(_,(_,_,_)),h⟩ As
   exact z30
  conv=>whnf
  exact ⟨⟨_,h⟩,As⟩
 obtain ⟨k29_1,h⟩:=p
 simp only [KA] at h
 refine AU h (fun _=>G5 _ _) fun x82 h=>?_
 refine z5 h (fun p=>Cd 102 [(4,.sl 29 1),(7,.d (.int .i64 p.1)),(82,.d (Ah 1 (D.int .i64) x82)),(83,.d (.int .i64 ((x82.length:Nat):Int))),(84,.d (.int .i64 p.2))] [(29,.row 1 4 (List.map D.bool k29_1),1)]) As fun _ _ ⟨v7_2,v84_2⟩ h=>?_
 simp only [NL] at h
 refine B0 h fun h=>?_
 refine B6 (f:=(D.int .i64)) h fun x87 _ h=>?_
 refine RX (f:=D.bool) h Cc fun x91 hx91 h=>?_
 refine Z7 (f:=D.bool) hx91 Cc ?_
 refine AM h (fun h=>?_) fun h=>?_
 ·exact z22
 refine An h fun h=>?_
 exact z22
theorem Fc (p0:(List Ay)) (p1:(Ay→Option Bool)) (f_p1:FuncId) (c_p1:List D) (R:Int) (h_p1:∀ (a0:Ay) r,p1 a0 = some r→Al Tryz.prog f_p1 ([.d (Af a0)]++c_p1.map .d) (.d (.bool r))) (h:Bv p0 p1 = some R):Al Tryz.prog 146 [.d (Ah 2 Af p0),.d (.fn f_p1 c_p1)] (.d (.int .i64 R)):=by
 refine Cn Tryz.func146 ?_
 unfold Bv at h
 refine z5 h (fun p=>Cd 19 [(0,.d (Ah 2 Af p0)),(1,.d (.fn f_p1 c_p1)),(7,.d (.int .i64 ((p0.length:Nat):Int))),(8,.d (.int .i64 p))] []) As fun _ _ v8_1 h=>?_
 simp only [C5] at h
 refine B0 h fun h=>?_
 refine B6 (f:=Af) h fun x14 _ h=>?_
 exact z32
theorem E6 (p0:(List Ay)) (p1:(Ay→Option Bool)) (f_p1:FuncId) (c_p1:List D) (R:Bool) (h_p1:∀ (a0:Ay) r,p1 a0 = some r→Al Tryz.prog f_p1 ([.d (Af a0)]++c_p1.map .d) (.d (.bool r))) (h:Bf p0 p1 = some R):Al Tryz.prog 81 [.d (Ah 2 Af p0),.d (.fn f_p1 c_p1)] (.d (.bool R)):=by
 refine Cn Tryz.func81 ?_
 unfold Bf at h
 refine AU h (fun _=>Fc _ _ _ _ _ h_p1) fun x7 h=>?_
 exact AD h
theorem Rp (p0:Ay) (q0:Ay) (R:Bool) (h:Ka p0 q0 = some R):Al Tryz.prog 82 [.d (Af p0),.d (.ptr [(.str q0.Name),(Ah 2 By q0.Codes)])] (.d (.bool R)):=by
 refine Cn Tryz.func82 ?_
 unfold Ka at h
 exact AD h
theorem Ge (p0:(List A4)) (p1:(A4→Option Bool)) (f_p1:FuncId) (c_p1:List D) (R:Int) (h_p1:∀ (a0:A4) r,p1 a0 = some r→Al Tryz.prog f_p1 ([.d (Ai a0)]++c_p1.map .d) (.d (.bool r))) (h:B8 p0 p1 = some R):Al Tryz.prog 213 [.d (Ah 7 Ai p0),.d (.fn f_p1 c_p1)] (.d (.int .i64 R)):=by
 refine Cn Tryz.func213 ?_
 unfold B8 at h
 refine z5 h (fun p=>Cd 19 [(0,.d (Ah 7 Ai p0)),(1,.d (.fn f_p1 c_p1)),(7,.d (.int .i64 ((p0.length:Nat):Int))),(8,.d (.int .i64 p))] []) As fun _ _ v8_1 h=>?_
 simp only [CU] at h
 refine B0 h fun h=>?_
 refine B6 (f:=Ai) h fun x14 _ h=>?_
 exact z32
theorem Fz (p0:(List A4)) (p1:(A4→Option Bool)) (f_p1:FuncId) (c_p1:List D) (R:Bool) (h_p1:∀ (a0:A4) r,p1 a0 = some r→Al Tryz.prog f_p1 ([.d (Ai a0)]++c_p1.map .d) (.d (.bool r))) (h:Bg p0 p1 = some R):Al Tryz.prog 147 [.d (Ah 7 Ai p0),.d (.fn f_p1 c_p1)] (.d (.bool R)):=by
 refine Cn Tryz.func147 ?_
 unfold Bg at h
 refine AU h (fun _=>Ge _ _ _ _ _ h_p1) fun x7 h=>?_
 exact AD h
theorem MC (p0:A4) (q0:A4) (R:Bool) (h:Gs p0 q0 = some R):Al Tryz.prog 148 [.d (Ai p0),.d (.ptr [(.str q0.Name),(.int .i64 q0.Kind),(.int .i64 q0.List_),(.int .i64 q0.Low),(.int .i64 q0.High),(Ah 1 (D.int .i64) q0.Widths),(.bool q0.Optional)])] (.d (.bool R)):=by
 refine Cn Tryz.func148 ?_
 unfold Gs at h
 exact AD h
theorem NE (p0:A4) (R:Int) (h:DV p0 = some R):Al Tryz.prog 149 [.d (Ai p0)] (.d (.int .i64 R)):=by
 refine Cn Tryz.func149 ?_
 unfold DV at h
 refine An h fun h=>?_
 refine An h fun h=>?_
 refine z5 h (fun p=>Cd 68 [(3,.d (.int .i64 p.1)),(34,.d (Ah 1 (D.int .i64) p0.Widths)),(35,.d (.int .i64 ((p0.Widths.length:Nat):Int))),(36,.d (.int .i64 p.2))] []) As fun _ _ ⟨v3_1,v36_1⟩ h=>?_
 simp only [FU] at h
 refine B0 h fun h=>?_
 refine B6 (f:=(D.int .i64)) h fun x39 _ h=>?_
 refine An h fun h=>?_
 refine AM h (fun h=>?_) fun h=>?_
 ·refine An h fun h=>?_
  obtain ⟨hr,h⟩:=E0 h
  refine z12 ?_
  refine An h fun h=>?_
  exact z22
 exact Cw ⟨(_,(_,_)),h⟩ As
theorem Kd (p0:A4) (R:Bool) (h:Ei p0 = some R):Al Tryz.prog 150 [.d (Ai p0)] (.d (.bool R)):=by
 refine Cn Tryz.func150 ?_
 unfold Ei at h
 exact Eb h
theorem O7 (p0:Ae) (p1:Int) (R:Int) (h:Es p0 p1 = some R):Al Tryz.prog 83 [.d (Au p0),.d (.int .i64 p1)] (.d (.int .i64 R)):=by
 refine Cn Tryz.func83 ?_
 unfold Es at h
 refine B6 (f:=Ai) h fun x10 _ h=>?_
 refine AU h (fun _=>DY _ _) fun x14 h=>?_
 refine An h fun h=>?_
 conv=>whnf
 obtain ⟨hr,h⟩:=E0 h
 refine z9 ?_
 try simp only [List.length_map]
 rw [SO]
 refine AU h (fun _=>Fz _ _ _ _ _ (fun a0 _ h=>MC a0 _ _ h)) fun x21 h=>?_
 refine An h fun h=>?_
 refine AM h (fun h=>?_) fun h=>?_
 ·refine An h fun h=>?_
  exact z53
 refine AM h (fun h=>?_) fun h=>?_
 ·refine An h fun h=>?_
  exact z53
 refine B0 h fun h=>?_
 refine AU h (fun _=>NE _ _) fun x44 h=>?_
 refine An h fun h=>?_
 exact z53
theorem CS (p0:Ae) (R:Int) (h:Cp p0 = some R):Al Tryz.prog 41 [.d (Au p0)] (.d (.int .i64 R)):=by
 refine Ek [12] Tryz.func41 (by kernel_rfl) ?_
 unfold Cp at h
 refine An h fun h=>?_
 refine Ga {p:Unit // H8 p0 = some R} (fun p=>Cd 63 [(1,.ptr 1 1 0)] [(1,.var [.d (Ah 2 Af p0.Lists),.d (Ah 7 Ai p0.Columns)],1)]) ?_ fun p=>?_
 ·refine z5 h (fun p=>Cd 63 [(1,.ptr 1 1 0),(19,.d (Ah 2 Af p0.Lists)),(20,.d (.int .i64 ((p0.Lists.length:Nat):Int))),(21,.d (.int .i64 p))] [(1,.var [.d (Ah 2 Af p0.Lists),.d (Ah 7 Ai p0.Columns)],1)]) As fun _ _ v21_1 h=>?_
  simp only [H6] at h
  refine AM h (fun h=>?_) fun h=>?_
  ·refine B6 (f:=Af) h fun x24 _ h=>?_
   refine AU h (fun _=>J0 _ _) fun x27 h=>?_
   refine An h fun h=>?_
   conv=>whnf
   obtain ⟨hr,h⟩:=E0 h
   refine z9 ?_
   try simp only [List.length_map]
   rw [SO]
   refine AU h (fun _=>E6 _ _ _ _ _ (fun a0 _ h=>Rp a0 _ _ h)) fun x36 h=>?_
   exact z17
  conv=>whnf
  exact ⟨⟨(),h⟩,As⟩
 obtain ⟨_,h⟩:=p
 simp only [H8] at h
 refine An h fun h=>?_
 refine B6 (f:=Ai) h fun x45 _ h=>?_
 refine An h fun h=>?_
 refine z5 h (fun p=>Cd 63 [(1,.ptr 1 1 0),(52,.d (.int .i64 ((p0.Columns.length:Nat):Int))),(53,.d (.int .i64 p))] [(1,.var [.d (Ah 2 Af p0.Lists),.d (Ah 7 Ai p0.Columns)],1)]) As fun _ _ v53_2 h=>?_
 simp only [H7] at h
 refine B0 h fun h=>?_
 refine AU h (fun _=>O7 _ _ _) fun x58 h=>?_
 exact z17
theorem NF (p0:(List Int)) (R:Int) (h:Hd p0 = some R):Al Tryz.prog 218 [.d (Ah 1 (D.int .i64) p0)] (.d (.int .i64 R)):=by
 refine Cn Tryz.func218 ?_
 unfold Hd at h
 refine AM h (fun h=>?_) fun h=>?_
 ·conv=>whnf
  cases h
 refine B6 (f:=(D.int .i64)) h fun x10 _ h=>?_
 refine z5 h (fun p=>Cd 25 [(0,.d (Ah 1 (D.int .i64) p0)),(3,.d (.int .i64 p.1)),(4,.d (.int .i64 p.2))] []) As fun _ _ ⟨v3_1,v4_1⟩ h=>?_
 simp only [IT] at h
 refine B0 h fun h=>?_
 refine B6 (f:=(D.int .i64)) h fun x21 _ h=>?_
 exact z22
theorem Iw (p0:Ay) (R:Int) (h:EE p0 = some R):Al Tryz.prog 163 [.d (Af p0)] (.d (.int .i64 R)):=by
 refine Cn Tryz.func163 ?_
 unfold EE at h
 refine AU h (fun _=>J0 _ _) fun x4 h=>?_
 refine An h fun h=>?_
 refine AU h (fun _=>G5 _ _) fun x7 h=>?_
 refine AU h (fun _=>NF _ _) fun x8 h=>?_
 exact AD h
theorem Kb (p0:Ae) (p1:Int) (R:Int) (h:Eg p0 p1 = some R):Al Tryz.prog 160 [.d (Au p0),.d (.int .i64 p1)] (.d (.int .i64 R)):=by
 refine Cn Tryz.func160 ?_
 unfold Eg at h
 refine An h fun h=>?_
 refine B6 (f:=Ai) h fun x18 _ h=>?_
 refine B0 h fun h=>?_
 refine B6 (f:=Af) h fun x27 _ h=>?_
 refine AU h (fun _=>Iw _ _) fun x29 h=>?_
 exact AD h
theorem PE (p0:Ae) (p1:Aw) (R:Int) (h:Eh p0 p1 = some R):Al Tryz.prog 105 [.d (Au p0),.d (Ak p1)] (.d (.int .i64 R)):=by
 refine Cn Tryz.func105 ?_
 unfold Eh at h
 refine AU h (fun _=>Kb _ _ _) fun x9 h=>?_
 refine An h fun h=>?_
 exact Eb h
theorem O6 (p0:Ae) (p1:(List Aw)) (R:Int) (h:GR p0 p1 = some R):Al Tryz.prog 59 [.d (Au p0),.d (Ah 2 Ak p1)] (.d (.int .i64 R)):=by
 refine Cn Tryz.func59 ?_
 unfold GR at h
 refine AU h (fun _=>CS _ _) fun x10 h=>?_
 refine An h fun h=>?_
 refine z5 h (fun p=>Cd 41 [(1,.d (Ah 2 Ak p1)),(2,.ptr 2 1 0),(14,.d (Ah 2 Ak p1)),(15,.d (.int .i64 ((p1.length:Nat):Int))),(16,.d (.int .i64 p))] [(2,.var [.d (Ah 2 Af p0.Lists),.d (Ah 7 Ai p0.Columns)],1)]) As fun _ _ v16_1 h=>?_
 simp only [HA] at h
 refine B0 h fun h=>?_
 refine B6 (f:=Ak) h fun x19 _ h=>?_
 refine AU h (fun _=>PE _ _ _) fun x23 h=>?_
 refine An h fun h=>?_
 conv=>whnf
 refine z13 ?_
 refine AM h (fun h=>?_) fun h=>?_
 ·refine B6 (f:=Ak) h fun x35 _ h=>?_
  exact z17
 exact Cw ⟨(_,_),h⟩ As
theorem Lq (p0:A4) (p1:Int) (R:Int) (h:FV p0 p1 = some R):Al Tryz.prog 216 [.d (Ai p0),.d (.int .i64 p1)] (.d (.int .i64 R)):=by
 refine Cn Tryz.func216 ?_
 unfold FV at h
 refine B6 (f:=(D.int .i64)) h fun x12 _ h=>?_
 exact AD h
theorem Gn (p0:Int) (p1:Int) (R:Int) (h:Ef p0 p1 = some R):Al Tryz.prog 217 [.d (.int .i64 p0),.d (.int .i64 p1)] (.d (.int .i64 R)):=by
 refine Cn Tryz.func217 ?_
 unfold Ef at h
 conv=>whnf
 obtain ⟨hr,h⟩:=E0 h
 refine z12 ?_
 exact Eb h
theorem PF (p0:A4) (p1:Int) (p2:Int) (R:(Int × Int × Bool)) (h:Ij p0 p1 p2 = some R):Al Tryz.prog 161 [.d (Ai p0),.d (.int .i64 p1),.d (.int .i64 p2)] (.tup [.d (.int .i64 R.1),.d (.int .i64 R.2.1),.d (.bool R.2.2)]):=by
 refine Cn Tryz.func161 ?_
 unfold Ij at h
 refine AM h (fun h=>?_) fun h=>?_
 ·conv=>whnf
  refine z13 ?_
  exact AD h
 refine An h fun h=>?_
 refine AU h (fun _=>Lq _ _ _) fun x30 h=>?_
 conv=>whnf
 refine z13 ?_
 refine AU h (fun _=>Gn _ _ _) fun x46 h=>?_
 exact AD h
theorem MR (p0:Ay) (p1:Int) (R:(List Int)) (h:JH p0 p1 = some R):Al Tryz.prog 162 [.d (Af p0),.d (.int .i64 p1)] (.d (Ah 1 (D.int .i64) R)):=by
 refine Cn Tryz.func162 ?_
 unfold JH at h
 refine AU h (fun _=>J0 _ _) fun x9 h=>?_
 refine AM h (fun h=>?_) fun h=>?_
 ·exact z37
 refine AU h (fun _=>G5 _ _) fun x12 h=>?_
 refine z5 h (fun p=>Cd 28 [(1,.d (.int .i64 p1)),(5,.sl 5 1),(12,.d (Ah 1 (D.int .i64) x12)),(13,.d (.int .i64 ((x12.length:Nat):Int))),(14,.d (.int .i64 p.1))] [(5,.row 1 3 (List.map (D.int .i64) p.2),1)]) As fun _ _ ⟨v14_1,b5_1⟩ h=>?_
 simp only [Ss] at h
 refine AM h (fun h=>?_) fun h=>?_
 ·refine B6 (f:=(D.int .i64)) h fun x17 _ h=>?_
  refine AM h (fun h=>?_) fun h=>?_
  ·conv=>whnf
   exact z48
  exact z22
 exact z37
theorem NN (p0:Ay) (p1:Int) (R:Bool) (h:Mk p0 p1 = some R):Al Tryz.prog 219 [.d (Af p0),.d (.int .i64 p1)] (.d (.bool R)):=by
 refine Cn Tryz.func219 ?_
 unfold Mk at h
 refine B0 h fun h=>?_
 refine AU h (fun _=>J0 _ _) fun x16 h=>?_
 exact AD h
theorem KB (p0:Ay) (p1:Int) (p2:Int) (R:Int) (h:G4 p0 p1 p2 = some R):Al Tryz.prog 164 [.d (Af p0),.d (.int .i64 p1),.d (.int .i64 p2)] (.d (.int .i64 R)):=by
 refine Cn Tryz.func164 ?_
 unfold G4 at h
 refine AU h (fun _=>NN _ _ _) fun x10 h=>?_
 refine An h fun h=>?_
 refine AU h (fun _=>G5 _ _) fun x17 h=>?_
 refine B6 (f:=(D.int .i64)) h fun x19 _ h=>?_
 refine z5 h (fun p=>Cd 36 [(1,.d (.int .i64 p.1)),(2,.d (.int .i64 p2)),(3,.ptr 3 1 0),(7,.d (.int .i64 p.2))] [(3,.var [.d (.str p0.Name),.d (Ah 2 By p0.Codes)],1)]) As fun _ _ ⟨v1_1,v7_1⟩ h=>?_
 simp only [Su] at h
 refine B0 h fun h=>?_
 refine An h fun h=>?_
 refine B6 (f:=By) h fun x33 _ h=>?_
 exact z22
theorem LY (p0:Ae) (p1:Int) (p2:Int) (p3:Int) (R:(Int × Bool)) (h:Dd p0 p1 p2 p3 = some R):Al Tryz.prog 106 [.d (Au p0),.d (.int .i64 p1),.d (.int .i64 p2),.d (.int .i64 p3)] (.tup [.d (.int .i64 R.1),.d (.bool R.2)]):=by
 refine Cn Tryz.func106 ?_
 unfold Dd at h
 refine B6 (f:=Ai) h fun x20 _ h=>?_
 refine AM h (fun h=>?_) fun h=>?_
 ·refine AM h (fun h=>?_) fun h=>?_
  ·conv=>whnf
   refine z13 ?_
   exact AD h
  refine AU h (fun _=>PF _ _ _ _) fun x38 h=>?_
  exact AD h
 refine B6 (f:=Af) h fun x48 _ h=>?_
 conv=>whnf
 refine z13 ?_
 refine AU h (fun _=>Iw _ _) fun x52 h=>?_
 refine AU h (fun _=>MR _ _ _) fun x54 h=>?_
 refine z5 h (fun p=>Cd 68 [(2,.d (.int .i64 p2)),(3,.d (.int .i64 p3)),(14,.ptr 14 1 0),(54,.d (Ah 1 (D.int .i64) x54)),(55,.d (.int .i64 ((x54.length:Nat):Int))),(56,.d (.int .i64 p))] [(14,.var [.d (.str x48.Name),.d (Ah 2 By x48.Codes)],1)]) As fun _ _ v56_1 h=>?_
 simp only [Ln] at h
 refine B0 h fun h=>?_
 refine B6 (f:=(D.int .i64)) h fun x58 _ h=>?_
 refine AU h (fun _=>KB _ _ _ _) fun x63 h=>?_
 exact z17
theorem T9 (p0:Ae) (p1:(List Aw)) (p2:(List Int)) (R:Bool) (h:I7 p0 p1 p2 = some R):Al Tryz.prog 60 [.d (Au p0),.d (Ah 2 Ak p1),.d (Ah 1 (D.int .i64) p2)] (.d (.bool R)):=by
 refine Ek [3] Tryz.func60 (by kernel_rfl) ?_
 unfold I7 at h
 refine Ga {p:Unit // Hy p1 p2 p0 = some R} (fun p=>Cd 53 [(1,.d (Ah 2 Ak p1)),(2,.d (Ah 1 (D.int .i64) p2)),(3,.ptr 3 1 0)] [(3,.var [.d (Ah 2 Af p0.Lists),.d (Ah 7 Ai p0.Columns)],1)]) ?_ fun p=>?_
 ·refine An h fun h=>?_
  refine B6 (f:=(D.int .i64)) h fun x19 _ h=>?_
  refine An h fun h=>?_
  refine B6 (f:=(D.int .i64)) h fun x25 _ h=>?_
  exact z33
 obtain ⟨_,h⟩:=p
 simp only [Hy] at h
 refine z5 h (fun p=>Cd 53 [(2,.d (Ah 1 (D.int .i64) p2)),(3,.ptr 3 1 0),(29,.d (Ah 2 Ak p1)),(30,.d (.int .i64 ((p1.length:Nat):Int))),(31,.d (.int .i64 p))] [(3,.var [.d (Ah 2 Af p0.Lists),.d (Ah 7 Ai p0.Columns)],1)]) As fun _ _ v31_1 h=>?_
 simp only [Hx] at h
 refine B0 h fun h=>?_
 refine B6 (f:=Ak) h fun x34 _ h=>?_
 conv=>whnf
 refine z13 ?_
 refine B6 (f:=(D.int .i64)) h fun x45 _ h=>?_
 refine AU h (fun _=>LY _ _ _ _ _) fun x47 h=>?_
 exact z17
theorem Nw (p0:Ae) (p1:Bn) (R:Int) (h:Gl p0 p1 = some R):Al Tryz.prog 31 [.d (Au p0),.d (G8 p1)] (.d (.int .i64 R)):=by
 refine Cn Tryz.func31 ?_
 unfold Gl at h
 refine AU h (fun _=>CS _ _) fun x10 h=>?_
 refine An h fun h=>?_
 refine AU h (fun _=>DY _ _) fun x17 h=>?_
 refine An h fun h=>?_
 refine An h fun h=>?_
 refine AU h (fun _=>O6 _ _ _) fun x31 h=>?_
 refine An h fun h=>?_
 refine An h fun h=>?_
 refine z5 h (fun p=>Cd 70 [(2,.ptr 2 1 0),(3,.ptr 3 1 0),(40,.d (Ah 1 (Ah 1 (D.int .i64)) p1.Rows)),(41,.d (.int .i64 ((p1.Rows.length:Nat):Int))),(42,.d (.int .i64 p))] [(2,.var [.d (Ah 2 Af p0.Lists),.d (Ah 7 Ai p0.Columns)],1),(3,.var [.d (.str p1.Project),.d (.int .i64 p1.Version),.d (Ah 2 Ak p1.Picks),.d (Ah 1 (Ah 1 (D.int .i64)) p1.Rows)],1)]) As fun _ _ v42_1 h=>?_
 simp only [GI] at h
 refine B0 h fun h=>?_
 refine B6 (f:=(Ah 1 (D.int .i64))) h fun x45 _ h=>?_
 refine AU h (fun _=>T9 _ _ _ _) fun x51 h=>?_
 refine An h fun h=>?_
 conv=>whnf
 refine z13 ?_
 refine AM h (fun h=>?_) fun h=>?_
 ·refine B6 (f:=(D.int .i64)) h fun x57 _ h=>?_
  refine B6 (f:=(Ah 1 (D.int .i64))) h fun x63 _ h=>?_
  refine B6 (f:=(D.int .i64)) h fun x65 _ h=>?_
  exact z17
 exact Cw ⟨(_,_),h⟩ As
theorem ER (p0:(List Ax)) (p1:(Ax→Option Bool)) (f_p1:FuncId) (c_p1:List D) (R:Int) (h_p1:∀ (a0:Ax) r,p1 a0 = some r→Al Tryz.prog f_p1 ([.d (A5 a0)]++c_p1.map .d) (.d (.bool r))) (h:BH p0 p1 = some R):Al Tryz.prog 165 [.d (Ah 21 A5 p0),.d (.fn f_p1 c_p1)] (.d (.int .i64 R)):=by
 refine Cn Tryz.func165 ?_
 unfold BH at h
 refine z5 h (fun p=>Cd 19 [(0,.d (Ah 21 A5 p0)),(1,.d (.fn f_p1 c_p1)),(7,.d (.int .i64 ((p0.length:Nat):Int))),(8,.d (.int .i64 p))] []) As fun _ _ v8_1 h=>?_
 simp only [Cq] at h
 refine B0 h fun h=>?_
 refine B6 (f:=A5) h fun x14 _ h=>?_
 exact z32
theorem Eu (p0:(List Ax)) (p1:(Ax→Option Bool)) (f_p1:FuncId) (c_p1:List D) (R:Bool) (h_p1:∀ (a0:Ax) r,p1 a0 = some r→Al Tryz.prog f_p1 ([.d (A5 a0)]++c_p1.map .d) (.d (.bool r))) (h:B9 p0 p1 = some R):Al Tryz.prog 108 [.d (Ah 21 A5 p0),.d (.fn f_p1 c_p1)] (.d (.bool R)):=by
 refine Cn Tryz.func108 ?_
 unfold B9 at h
 refine AU h (fun _=>ER _ _ _ _ _ h_p1) fun x7 h=>?_
 exact AD h
theorem LU (p0:Ax) (q0:ByteArray) (R:Bool) (h:FQ p0 q0 = some R):Al Tryz.prog 109 [.d (A5 p0),.d (.ptr [(.str q0)])] (.d (.bool R)):=by
 refine Cn Tryz.func109 ?_
 unfold FQ at h
 exact AD h
theorem Jd (p0:ByteArray) (q0:(List Ax)) (R:Bool) (h:Fj p0 q0 = some R):Al Tryz.prog 107 [.d (.str p0),.d (.ptr [(Ah 21 A5 q0)])] (.d (.bool R)):=by
 refine Cn Tryz.func107 ?_
 unfold Fj at h
 refine AU h (fun _=>Eu _ _ _ _ _ (fun a0 _ h=>LU a0 _ _ h)) fun x6 h=>?_
 exact AD h
theorem RJ (d:Nat) (self_program_count:(Av→Int→Option Int)) (ih_program_count:∀ (p0:Av) (p1:Int) (R:Int) ,self_program_count p0 p1 = some R→Al Tryz.prog 110 [.d (Ac p0),.d (.int .i64 p1)] (.d (.int .i64 R))) (p0:Av) (p1:Int) (R:Int) (h:JU d self_program_count p0 p1 = some R):Al Tryz.prog 110 [.d (Ac p0),.d (.int .i64 p1)] (.d (.int .i64 R)):=by
 refine Cn Tryz.func110 ?_
 unfold JU at h
 refine z5 h (fun p=>Cd 27 [(1,.d (.int .i64 p1)),(5,.d (.int .i64 p.1)),(9,.d (Ah 19 AP p0.Kids)),(10,.d (.int .i64 ((p0.Kids.length:Nat):Int))),(11,.d (.int .i64 p.2))] []) A0 fun _ _ ⟨v5_1,v11_1⟩ h=>?_
 simp only [M7] at h
 refine AM h (fun h=>?_) fun h=>?_
 ·refine B6 (f:=AP) h fun x13 _ h=>?_
  rw [Ab x13]
  refine AM h (fun h=>?_) fun h=>?_
  ·exact z16
  conv=>whnf
  obtain ⟨x23,hx23,h⟩:=A9 h
  first | refine A1 (ih_program_count _ _ _ hx23) ?_ | (simp only [List.length_map]; refine A1 (ih_program_count _ _ _ hx23) ?_)
  exact z27
 exact z16
theorem M8:∀ d:Nat,(∀ (p0:Av) (p1:Int) (R:Int) ,J8 d p0 p1 = some R→Al Tryz.prog 110 [.d (Ac p0),.d (.int .i64 p1)] (.d (.int .i64 R)))
 | 0=>by
  exact z24
 | d + 1=>by
  have ih:=M8 d
  exact RJ d _ ih
theorem SS (d:Nat):∀ (p0:Av) (p1:Int) (R:Int) ,J8 d p0 p1 = some R→Al Tryz.prog 110 [.d (Ac p0),.d (.int .i64 p1)] (.d (.int .i64 R)):=M8 d
theorem SU (d:Nat) (self_program_deep:(Av→Option Int)) (ih_program_deep:∀ (p0:Av) (R:Int) ,self_program_deep p0 = some R→Al Tryz.prog 111 [.d (Ac p0)] (.d (.int .i64 R))) (p0:Av) (R:Int) (h:KX d self_program_deep p0 = some R):Al Tryz.prog 111 [.d (Ac p0)] (.d (.int .i64 R)):=by
 refine Cn Tryz.func111 ?_
 unfold KX at h
 refine z5 h (fun p=>Cd 20 [(3,.d (.int .i64 p.1)),(7,.d (Ah 19 AP p0.Kids)),(8,.d (.int .i64 ((p0.Kids.length:Nat):Int))),(9,.d (.int .i64 p.2))] []) A0 fun _ _ ⟨v3_1,v9_1⟩ h=>?_
 simp only [N2] at h
 refine AM h (fun h=>?_) fun h=>?_
 ·refine B6 (f:=AP) h fun x11 _ h=>?_
  rw [Ab x11]
  conv=>whnf
  obtain ⟨x15,hx15,h⟩:=A9 h
  first | refine A1 (ih_program_deep _ _ hx15) ?_ | (simp only [List.length_map]; refine A1 (ih_program_deep _ _ hx15) ?_)
  exact z27
 exact z16
theorem N3:∀ d:Nat,(∀ (p0:Av) (R:Int) ,Kw d p0 = some R→Al Tryz.prog 111 [.d (Ac p0)] (.d (.int .i64 R)))
 | 0=>by
  exact z24
 | d + 1=>by
  have ih:=N3 d
  exact SU d _ ih
theorem Ue (d:Nat):∀ (p0:Av) (R:Int) ,Kw d p0 = some R→Al Tryz.prog 111 [.d (Ac p0)] (.d (.int .i64 R)):=N3 d
theorem PP (d:Nat) (self_condition_count:(Aj→Int→Option Int)) (ih_condition_count:∀ (p0:Aj) (p1:Int) (R:Int) ,self_condition_count p0 p1 = some R→Al Tryz.prog 84 [.d (Ad p0),.d (.int .i64 p1)] (.d (.int .i64 R))) (p0:Aj) (p1:Int) (R:Int) (h:CN d self_condition_count p0 p1 = some R):Al Tryz.prog 84 [.d (Ad p0),.d (.int .i64 p1)] (.d (.int .i64 R)):=by
 refine Cn Tryz.func84 ?_
 unfold CN at h
 refine z5 h (fun p=>Cd 27 [(1,.d (.int .i64 p1)),(5,.d (.int .i64 p.1)),(9,.d (Ah 6 Ap p0.Kids)),(10,.d (.int .i64 ((p0.Kids.length:Nat):Int))),(11,.d (.int .i64 p.2))] []) A0 fun _ _ ⟨v5_1,v11_1⟩ h=>?_
 simp only [El] at h
 refine AM h (fun h=>?_) fun h=>?_
 ·refine B6 (f:=Ap) h fun x13 _ h=>?_
  rw [Aa x13]
  refine AM h (fun h=>?_) fun h=>?_
  ·exact z16
  conv=>whnf
  obtain ⟨x23,hx23,h⟩:=A9 h
  first | refine A1 (ih_condition_count _ _ _ hx23) ?_ | (simp only [List.length_map]; refine A1 (ih_condition_count _ _ _ hx23) ?_)
  exact z27
 exact z16
theorem KJ:∀ d:Nat,(∀ (p0:Aj) (p1:Int) (R:Int) ,CZ d p0 p1 = some R→Al Tryz.prog 84 [.d (Ad p0),.d (.int .i64 p1)] (.d (.int .i64 R)))
 | 0=>by
  exact z24
 | d + 1=>by
  have ih:=KJ d
  exact PP d _ ih
theorem Q4 (d:Nat):∀ (p0:Aj) (p1:Int) (R:Int) ,CZ d p0 p1 = some R→Al Tryz.prog 84 [.d (Ad p0),.d (.int .i64 p1)] (.d (.int .i64 R)):=KJ d
end Go.Proofs.YtjghjdokjgcehaaGreatDoor.P
