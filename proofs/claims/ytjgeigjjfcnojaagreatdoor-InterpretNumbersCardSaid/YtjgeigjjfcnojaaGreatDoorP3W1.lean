/- P3W1 -/
import Derived.Test.YtjgeigjjfcnojaaGreatDoorP3HW
set_option linter.unusedSimpArgs false
namespace Go.Proofs.YtjgeigjjfcnojaaGreatDoor.P
open Go.Abs Go.Proofs
set_option maxRecDepth 100000
set_option maxHeartbeats 4000000
set_option linter.unusedVariables false
theorem Gg (p0:ByteArray) (R:Bool) (h:D1 p0 = some R):Aj Tryz.prog 36 [.d (.str p0)] (.d (.bool R)):=by
 refine Dk [3,9] Tryz.func36 (by kernel_rfl) ?_
 unfold D1 at h
 refine FW {p:Unit // Lp p0 = some R} (fun p=>BB 62 [(0,.d (.str p0))] []) ?_ fun p=>?_
 ·refine Ap h fun h=>?_
  obtain ⟨hr,h⟩:=Dm h
  refine z11 ?_
  refine Ap h fun h=>?_
  obtain ⟨hr,h⟩:=Dm h
  refine z11 ?_
  exact z31
 obtain ⟨_,h⟩:=p
 simp only [Lp] at h
 refine FW {p:Unit // Lq p0 = some R} (fun p=>BB 62 [(0,.d (.str p0))] []) ?_ fun p=>?_
 ·refine z5 h (fun p=>BB 62 [(0,.d (.str p0)),(24,.d (Ah 1 (D.int .u8) (IH p0))),(25,.d (.int .i64 (((IH p0).length:Nat):Int))),(26,.d (.int .i64 p))] []) Ak fun _ _ v26_1 h=>?_
  simp only [Po] at h
  refine AE h (fun h=>?_) fun h=>?_
  ·refine Bd (f:=(D.int .u8)) h fun x28 _ h=>?_
   exact z17
  exact z51
 obtain ⟨_,h⟩:=p
 simp only [Lq] at h
 conv=>whnf
 refine MB h Cj (fun e10 h=>?_) (fun e10 h=>?_)
 ·conv=>whnf
  refine N6 Cj e10 ?_
  exact A5 h
 conv=>whnf
 refine MB h Cj (fun e11 h=>?_) (fun e11 h=>?_)
 ·conv=>whnf
  refine N6 Cj e11 ?_
  exact A5 h
 conv=>whnf
 refine MB h Cj (fun e12 h=>?_) (fun e12 h=>?_)
 ·conv=>whnf
  refine N6 Cj e12 ?_
  exact A5 h
 conv=>whnf
 refine MB h Cj (fun e13 h=>?_) (fun e13 h=>?_)
 ·conv=>whnf
  refine N6 Cj e13 ?_
  exact A5 h
 conv=>whnf
 refine MB h Cj (fun e14 h=>?_) (fun e14 h=>?_)
 ·conv=>whnf
  refine N6 Cj e14 ?_
  exact A5 h
 conv=>whnf
 refine MB h Cj (fun e15 h=>?_) (fun e15 h=>?_)
 ·conv=>whnf
  refine N6 Cj e15 ?_
  exact A5 h
 conv=>whnf
 refine MB h Cj (fun e16 h=>?_) (fun e16 h=>?_)
 ·conv=>whnf
  refine N6 Cj e16 ?_
  exact A5 h
 conv=>whnf
 refine MB h Cj (fun e17 h=>?_) (fun e17 h=>?_)
 ·conv=>whnf
  refine N6 Cj e17 ?_
  exact A5 h
 conv=>whnf
 refine MB h Cj (fun e18 h=>?_) (fun e18 h=>?_)
 ·conv=>whnf
  refine N6 Cj e18 ?_
  exact A5 h
 conv=>whnf
 refine MB h Cj (fun e19 h=>?_) (fun e19 h=>?_)
 ·conv=>whnf
  refine N6 Cj e19 ?_
  exact A5 h
 exact DO h
theorem FO (p0:Aw) (R:(List Int)) (h:EN p0 = some R):Aj Tryz.prog 145 [.d (Ae p0)] (.d (Ah 1 (D.int .i64) R)):=by
 refine BF Tryz.func145 ?_
 unfold EN at h
 conv=>whnf
 obtain ⟨hr,h⟩:=Dm h
 refine z8 ?_
 try rw [bZ]
 refine z5 h (fun p=>BB 31 [(3,.sl 9 1),(11,.d (Ah 2 Bh p0.Codes)),(12,.d (.int .i64 ((p0.Codes.length:Nat):Int))),(13,.d (.int .i64 p.1))] [(9,.row 1 3 (List.map (D.int .i64) p.2),1)]) Ak fun _ _ ⟨v13_1,b9_1⟩ h=>?_
 simp only [No] at h
 refine AE h (fun h=>?_) fun h=>?_
 ·refine Bd (f:=Bh) h fun x16 _ h=>?_
  refine AE h (fun h=>?_) fun h=>?_
  ·refine Tc (f:=(D.int .i64)) h Cj fun x25 hx25 h=>?_
   refine ZV (f:=(D.int .i64)) hx25 Cj ?_
   refine Tc (f:=(D.int .i64)) h Cj fun x28 hx28 h=>?_
   refine ZV (f:=(D.int .i64)) hx28 Cj ?_
   conv=>whnf
   try rw [bv]
   exact BI ⟨(_,(_,_)),h⟩ Ak
  exact z21
 exact z30
theorem II (p0:Aw) (R:Int) (h:EI p0 = some R):Aj Tryz.prog 84 [.d (Ae p0)] (.d (.int .i64 R)):=by
 refine Dk [21] Tryz.func84 (by kernel_rfl) ?_
 unfold EI at h
 refine AF h (fun _=>Gg _ _) fun x13 h=>?_
 refine Ap h fun h=>?_
 refine Ap h fun h=>?_
 refine Ap h fun h=>?_
 conv=>whnf
 refine z12 ?_
 conv=>whnf
 obtain ⟨hr,h⟩:=Dm h
 refine z8 ?_
 try rw [bZ]
 refine FW {p:(List Bool) // Kg p0 p = some R} (fun p=>BB 102 [(1,.ptr 1 1 0),(4,.sl 29 1)] [(1,.var [.d (.str p0.Name),.d (Ah 2 Bh p0.Codes)],1),(29,.row 1 4 (List.map D.bool p.1),1)]) ?_ fun p=>?_
 ·refine z5 h (fun p=>BB 102 [(1,.ptr 1 1 0),(3,.sl 25 1),(4,.sl 29 1),(31,.d (Ah 2 Bh p0.Codes)),(32,.d (.int .i64 ((p0.Codes.length:Nat):Int))),(33,.d (.int .i64 p.1))] [(1,.var [.d (.str p0.Name),.d (Ah 2 Bh p0.Codes)],1),(25,.map (cC D.bool p.2.1),1),(29,.row 1 4 (List.map D.bool p.2.2),1)]) Ak fun _ _ ⟨v33_1,b25_1,b29_1⟩ h=>?_
  simp only [NG] at h
  refine AE h (fun h=>?_) fun h=>?_
  ·refine Bd (f:=Bh) h fun x36 _ h=>?_
   refine AF h (fun _=>Gg _ _) fun x41 h=>?_
   refine Ap h fun h=>?_
   conv=>whnf
   refine ⟨⟨by kernel_rfl,WZ D.bool x36.Name b25_1⟩,?_⟩
   conv=>whnf
   refine aV (f:=D.bool) (es:=b25_1) (z:=false) ?_
   refine Ap h fun h=>?_
   refine Ap h fun h=>?_
   conv=>whnf
   refine ⟨⟨by rfl,by kernel_rfl,WZ D.bool x36.Name b25_1⟩,?_⟩
   conv=>whnf
   try rw [Zd D.bool x36.Name true]
   refine AE h (fun h=>?_) fun h=>?_
   ·refine Tc (f:=D.bool) h Cj fun x79 hx79 h=>?_
    refine ZV (f:=D.bool) hx79 Cj ?_
    conv=>whnf
    try rw [bv]
    exact BI ⟨(_,(_,_,_)),h⟩ Ak
   exact z24
  conv=>whnf
  exact ⟨⟨_,h⟩,Ak⟩
 obtain ⟨k29_1,h⟩:=p
 simp only [Kg] at h
 refine AF h (fun _=>FO _ _) fun x82 h=>?_
 refine z5 h (fun p=>BB 102 [(4,.sl 29 1),(7,.d (.int .i64 p.1)),(82,.d (Ah 1 (D.int .i64) x82)),(83,.d (.int .i64 ((x82.length:Nat):Int))),(84,.d (.int .i64 p.2))] [(29,.row 1 4 (List.map D.bool k29_1),1)]) Ak fun _ _ ⟨v7_2,v84_2⟩ h=>?_
 simp only [NH] at h
 refine AY h fun h=>?_
 refine Bd (f:=(D.int .i64)) h fun x87 _ h=>?_
 refine Tc (f:=D.bool) h Cj fun x91 hx91 h=>?_
 refine ZV (f:=D.bool) hx91 Cj ?_
 refine AE h (fun h=>?_) fun h=>?_
 ·exact z21
 refine Ap h fun h=>?_
 exact z21
theorem Ey (p0:(List Aw)) (p1:(Aw→Option Bool)) (f_p1:FuncId) (c_p1:List D) (R:Int) (h_p1:∀ (a0:Aw) r,p1 a0 = some r→Aj Tryz.prog f_p1 ([.d (Ae a0)]++c_p1.map .d) (.d (.bool r))) (h:Bm p0 p1 = some R):Aj Tryz.prog 146 [.d (Ah 2 Ae p0),.d (.fn f_p1 c_p1)] (.d (.int .i64 R)):=by
 refine BF Tryz.func146 ?_
 unfold Bm at h
 refine z5 h (fun p=>BB 19 [(0,.d (Ah 2 Ae p0)),(1,.d (.fn f_p1 c_p1)),(7,.d (.int .i64 ((p0.length:Nat):Int))),(8,.d (.int .i64 p))] []) Ak fun _ _ v8_1 h=>?_
 simp only [Ci] at h
 refine AY h fun h=>?_
 refine Bd (f:=Ae) h fun x14 _ h=>?_
 exact z33
theorem DN (p0:(List Aw)) (p1:(Aw→Option Bool)) (f_p1:FuncId) (c_p1:List D) (R:Bool) (h_p1:∀ (a0:Aw) r,p1 a0 = some r→Aj Tryz.prog f_p1 ([.d (Ae a0)]++c_p1.map .d) (.d (.bool r))) (h:AT p0 p1 = some R):Aj Tryz.prog 85 [.d (Ah 2 Ae p0),.d (.fn f_p1 c_p1)] (.d (.bool R)):=by
 refine BF Tryz.func85 ?_
 unfold AT at h
 refine AF h (fun _=>Ey _ _ _ _ _ h_p1) fun x7 h=>?_
 exact A5 h
theorem Rm (p0:Aw) (q0:Aw) (R:Bool) (h:Jy p0 q0 = some R):Aj Tryz.prog 86 [.d (Ae p0),.d (.ptr [(.str q0.Name),(Ah 2 Bh q0.Codes)])] (.d (.bool R)):=by
 refine BF Tryz.func86 ?_
 unfold Jy at h
 exact A5 h
theorem Fx (p0:(List Az)) (p1:(Az→Option Bool)) (f_p1:FuncId) (c_p1:List D) (R:Int) (h_p1:∀ (a0:Az) r,p1 a0 = some r→Aj Tryz.prog f_p1 ([.d (Ag a0)]++c_p1.map .d) (.d (.bool r))) (h:Bt p0 p1 = some R):Aj Tryz.prog 223 [.d (Ah 7 Ag p0),.d (.fn f_p1 c_p1)] (.d (.int .i64 R)):=by
 refine BF Tryz.func223 ?_
 unfold Bt at h
 refine z5 h (fun p=>BB 19 [(0,.d (Ah 7 Ag p0)),(1,.d (.fn f_p1 c_p1)),(7,.d (.int .i64 ((p0.length:Nat):Int))),(8,.d (.int .i64 p))] []) Ak fun _ _ v8_1 h=>?_
 simp only [Cu] at h
 refine AY h fun h=>?_
 refine Bd (f:=Ag) h fun x14 _ h=>?_
 exact z33
theorem ED (p0:(List Az)) (p1:(Az→Option Bool)) (f_p1:FuncId) (c_p1:List D) (R:Bool) (h_p1:∀ (a0:Az) r,p1 a0 = some r→Aj Tryz.prog f_p1 ([.d (Ag a0)]++c_p1.map .d) (.d (.bool r))) (h:Bc p0 p1 = some R):Aj Tryz.prog 147 [.d (Ah 7 Ag p0),.d (.fn f_p1 c_p1)] (.d (.bool R)):=by
 refine BF Tryz.func147 ?_
 unfold Bc at h
 refine AF h (fun _=>Fx _ _ _ _ _ h_p1) fun x7 h=>?_
 exact A5 h
theorem My (p0:Az) (q0:Az) (R:Bool) (h:FA p0 q0 = some R):Aj Tryz.prog 148 [.d (Ag p0),.d (.ptr [(.str q0.Name),(.int .i64 q0.Kind),(.int .i64 q0.List_),(.int .i64 q0.Low),(.int .i64 q0.High),(Ah 1 (D.int .i64) q0.Widths),(.bool q0.Optional)])] (.d (.bool R)):=by
 refine BF Tryz.func148 ?_
 unfold FA at h
 exact A5 h
theorem NA (p0:Az) (R:Int) (h:Dj p0 = some R):Aj Tryz.prog 149 [.d (Ag p0)] (.d (.int .i64 R)):=by
 refine BF Tryz.func149 ?_
 unfold Dj at h
 refine Ap h fun h=>?_
 refine Ap h fun h=>?_
 refine z5 h (fun p=>BB 68 [(3,.d (.int .i64 p.1)),(34,.d (Ah 1 (D.int .i64) p0.Widths)),(35,.d (.int .i64 ((p0.Widths.length:Nat):Int))),(36,.d (.int .i64 p.2))] []) Ak fun _ _ ⟨v3_1,v36_1⟩ h=>?_
 simp only [Fh] at h
 refine AY h fun h=>?_
 refine Bd (f:=(D.int .i64)) h fun x39 _ h=>?_
 refine Ap h fun h=>?_
 refine AE h (fun h=>?_) fun h=>?_
 ·refine Ap h fun h=>?_
  obtain ⟨hr,h⟩:=Dm h
  refine z11 ?_
  refine Ap h fun h=>?_
  exact z21
 exact BI ⟨(_,(_,_)),h⟩ Ak
theorem J2 (p0:Az) (R:Bool) (h:Du p0 = some R):Aj Tryz.prog 150 [.d (Ag p0)] (.d (.bool R)):=by
 refine BF Tryz.func150 ?_
 unfold Du at h
 exact DO h
theorem OE (p0:Af) (p1:Int) (R:Int) (h:D9 p0 p1 = some R):Aj Tryz.prog 87 [.d (Au p0),.d (.int .i64 p1)] (.d (.int .i64 R)):=by
 refine BF Tryz.func87 ?_
 unfold D9 at h
 refine Bd (f:=Ag) h fun x10 _ h=>?_
 refine AF h (fun _=>Gg _ _) fun x14 h=>?_
 refine Ap h fun h=>?_
 conv=>whnf
 obtain ⟨hr,h⟩:=Dm h
 refine z9 ?_
 try simp only [List.length_map]
 rw [WE]
 refine AF h (fun _=>ED _ _ _ _ _ (fun a0 _ h=>My a0 _ _ h)) fun x21 h=>?_
 refine Ap h fun h=>?_
 refine AE h (fun h=>?_) fun h=>?_
 ·refine Ap h fun h=>?_
  exact z50
 refine AE h (fun h=>?_) fun h=>?_
 ·refine Ap h fun h=>?_
  exact z50
 refine AY h fun h=>?_
 refine AF h (fun _=>NA _ _) fun x44 h=>?_
 refine Ap h fun h=>?_
 exact z50
theorem D8 (p0:Af) (R:Int) (h:Cs p0 = some R):Aj Tryz.prog 35 [.d (Au p0)] (.d (.int .i64 R)):=by
 refine Dk [12] Tryz.func35 (by kernel_rfl) ?_
 unfold Cs at h
 refine Ap h fun h=>?_
 refine FW {p:Unit // GI p0 = some R} (fun p=>BB 63 [(1,.ptr 1 1 0)] [(1,.var [.d (Ah 2 Ae p0.Lists),.d (Ah 7 Ag p0.Columns)],1)]) ?_ fun p=>?_
 ·refine z5 h (fun p=>BB 63 [(1,.ptr 1 1 0),(19,.d (Ah 2 Ae p0.Lists)),(20,.d (.int .i64 ((p0.Lists.length:Nat):Int))),(21,.d (.int .i64 p))] [(1,.var [.d (Ah 2 Ae p0.Lists),.d (Ah 7 Ag p0.Columns)],1)]) Ak fun _ _ v21_1 h=>?_
  simp only [GG] at h
  refine AE h (fun h=>?_) fun h=>?_
  ·refine Bd (f:=Ae) h fun x24 _ h=>?_
   refine AF h (fun _=>II _ _) fun x27 h=>?_
   refine Ap h fun h=>?_
   conv=>whnf
   obtain ⟨hr,h⟩:=Dm h
   refine z9 ?_
   try simp only [List.length_map]
   rw [WE]
   refine AF h (fun _=>DN _ _ _ _ _ (fun a0 _ h=>Rm a0 _ _ h)) fun x36 h=>?_
   exact z17
  exact z51
 obtain ⟨_,h⟩:=p
 simp only [GI] at h
 refine Ap h fun h=>?_
 refine Bd (f:=Ag) h fun x45 _ h=>?_
 refine Ap h fun h=>?_
 refine z5 h (fun p=>BB 63 [(1,.ptr 1 1 0),(52,.d (.int .i64 ((p0.Columns.length:Nat):Int))),(53,.d (.int .i64 p))] [(1,.var [.d (Ah 2 Ae p0.Lists),.d (Ah 7 Ag p0.Columns)],1)]) Ak fun _ _ v53_2 h=>?_
 simp only [GH] at h
 refine AY h fun h=>?_
 refine AF h (fun _=>OE _ _ _) fun x58 h=>?_
 exact z17
theorem NB (p0:(List Int)) (R:Int) (h:Gw p0 = some R):Aj Tryz.prog 226 [.d (Ah 1 (D.int .i64) p0)] (.d (.int .i64 R)):=by
 refine BF Tryz.func226 ?_
 unfold Gw at h
 refine AE h (fun h=>?_) fun h=>?_
 ·exact z52
 refine Bd (f:=(D.int .i64)) h fun x10 _ h=>?_
 refine z5 h (fun p=>BB 25 [(0,.d (Ah 1 (D.int .i64) p0)),(3,.d (.int .i64 p.1)),(4,.d (.int .i64 p.2))] []) Ak fun _ _ ⟨v3_1,v4_1⟩ h=>?_
 simp only [Ij] at h
 refine AY h fun h=>?_
 refine Bd (f:=(D.int .i64)) h fun x21 _ h=>?_
 exact z21
theorem Hz (p0:Aw) (R:Int) (h:DZ p0 = some R):Aj Tryz.prog 154 [.d (Ae p0)] (.d (.int .i64 R)):=by
 refine BF Tryz.func154 ?_
 unfold DZ at h
 refine AF h (fun _=>II _ _) fun x4 h=>?_
 refine Ap h fun h=>?_
 refine AF h (fun _=>FO _ _) fun x7 h=>?_
 refine AF h (fun _=>NB _ _) fun x8 h=>?_
 exact A5 h
theorem J0 (p0:Af) (p1:Int) (R:Int) (h:Eu p0 p1 = some R):Aj Tryz.prog 151 [.d (Au p0),.d (.int .i64 p1)] (.d (.int .i64 R)):=by
 refine BF Tryz.func151 ?_
 unfold Eu at h
 refine Ap h fun h=>?_
 refine Bd (f:=Ag) h fun x18 _ h=>?_
 refine AY h fun h=>?_
 refine Bd (f:=Ae) h fun x27 _ h=>?_
 refine AF h (fun _=>Hz _ _) fun x29 h=>?_
 exact A5 h
theorem PI (p0:Af) (p1:An) (R:Int) (h:Hp p0 p1 = some R):Aj Tryz.prog 88 [.d (Au p0),.d (Ai p1)] (.d (.int .i64 R)):=by
 refine BF Tryz.func88 ?_
 unfold Hp at h
 refine AF h (fun _=>J0 _ _ _) fun x9 h=>?_
 refine Ap h fun h=>?_
 exact DO h
theorem OD (p0:Af) (p1:(List An)) (R:Int) (h:Gq p0 p1 = some R):Aj Tryz.prog 37 [.d (Au p0),.d (Ah 2 Ai p1)] (.d (.int .i64 R)):=by
 refine BF Tryz.func37 ?_
 unfold Gq at h
 refine AF h (fun _=>D8 _ _) fun x10 h=>?_
 refine Ap h fun h=>?_
 refine z5 h (fun p=>BB 41 [(1,.d (Ah 2 Ai p1)),(2,.ptr 2 1 0),(14,.d (Ah 2 Ai p1)),(15,.d (.int .i64 ((p1.length:Nat):Int))),(16,.d (.int .i64 p))] [(2,.var [.d (Ah 2 Ae p0.Lists),.d (Ah 7 Ag p0.Columns)],1)]) Ak fun _ _ v16_1 h=>?_
 simp only [GK] at h
 refine AY h fun h=>?_
 refine Bd (f:=Ai) h fun x19 _ h=>?_
 refine AF h (fun _=>PI _ _ _) fun x23 h=>?_
 refine Ap h fun h=>?_
 conv=>whnf
 refine z12 ?_
 refine AE h (fun h=>?_) fun h=>?_
 ·refine Bd (f:=Ai) h fun x35 _ h=>?_
  exact z17
 exact z43
theorem KG (p0:Az) (p1:Int) (R:Int) (h:Fj p0 p1 = some R):Aj Tryz.prog 224 [.d (Ag p0),.d (.int .i64 p1)] (.d (.int .i64 R)):=by
 refine BF Tryz.func224 ?_
 unfold Fj at h
 refine Bd (f:=(D.int .i64)) h fun x12 _ h=>?_
 exact A5 h
theorem F8 (p0:Int) (p1:Int) (R:Int) (h:Dt p0 p1 = some R):Aj Tryz.prog 225 [.d (.int .i64 p0),.d (.int .i64 p1)] (.d (.int .i64 R)):=by
 refine BF Tryz.func225 ?_
 unfold Dt at h
 exact z44
theorem PK (p0:Az) (p1:Int) (p2:Int) (R:(Int × Int × Bool)) (h:Hq p0 p1 p2 = some R):Aj Tryz.prog 152 [.d (Ag p0),.d (.int .i64 p1),.d (.int .i64 p2)] (.tup [.d (.int .i64 R.1),.d (.int .i64 R.2.1),.d (.bool R.2.2)]):=by
 refine BF Tryz.func152 ?_
 unfold Hq at h
 refine AE h (fun h=>?_) fun h=>?_
 ·conv=>whnf
  refine z12 ?_
  exact A5 h
 refine Ap h fun h=>?_
 refine AF h (fun _=>KG _ _ _) fun x30 h=>?_
 conv=>whnf
 refine z12 ?_
 refine AF h (fun _=>F8 _ _ _) fun x46 h=>?_
 exact A5 h
theorem ME (p0:Aw) (p1:Int) (R:(List Int)) (h:IZ p0 p1 = some R):Aj Tryz.prog 153 [.d (Ae p0),.d (.int .i64 p1)] (.d (Ah 1 (D.int .i64) R)):=by
 refine BF Tryz.func153 ?_
 unfold IZ at h
 refine AF h (fun _=>II _ _) fun x9 h=>?_
 refine AE h (fun h=>?_) fun h=>?_
 ·exact z30
 refine AF h (fun _=>FO _ _) fun x12 h=>?_
 refine z5 h (fun p=>BB 28 [(1,.d (.int .i64 p1)),(5,.sl 5 1),(12,.d (Ah 1 (D.int .i64) x12)),(13,.d (.int .i64 ((x12.length:Nat):Int))),(14,.d (.int .i64 p.1))] [(5,.row 1 3 (List.map (D.int .i64) p.2),1)]) Ak fun _ _ ⟨v14_1,b5_1⟩ h=>?_
 simp only [Sj] at h
 refine AE h (fun h=>?_) fun h=>?_
 ·refine Bd (f:=(D.int .i64)) h fun x17 _ h=>?_
  refine AE h (fun h=>?_) fun h=>?_
  ·conv=>whnf
   exact z28
  exact z21
 exact z30
theorem NK (p0:Aw) (p1:Int) (R:Bool) (h:LN p0 p1 = some R):Aj Tryz.prog 227 [.d (Ae p0),.d (.int .i64 p1)] (.d (.bool R)):=by
 refine BF Tryz.func227 ?_
 unfold LN at h
 refine AY h fun h=>?_
 refine AF h (fun _=>II _ _) fun x16 h=>?_
 exact A5 h
theorem Kh (p0:Aw) (p1:Int) (p2:Int) (R:Int) (h:FN p0 p1 p2 = some R):Aj Tryz.prog 155 [.d (Ae p0),.d (.int .i64 p1),.d (.int .i64 p2)] (.d (.int .i64 R)):=by
 refine BF Tryz.func155 ?_
 unfold FN at h
 refine AF h (fun _=>NK _ _ _) fun x10 h=>?_
 refine Ap h fun h=>?_
 refine AF h (fun _=>FO _ _) fun x17 h=>?_
 refine Bd (f:=(D.int .i64)) h fun x19 _ h=>?_
 refine z5 h (fun p=>BB 36 [(1,.d (.int .i64 p.1)),(2,.d (.int .i64 p2)),(3,.ptr 3 1 0),(7,.d (.int .i64 p.2))] [(3,.var [.d (.str p0.Name),.d (Ah 2 Bh p0.Codes)],1)]) Ak fun _ _ ⟨v1_1,v7_1⟩ h=>?_
 simp only [Sk] at h
 refine AY h fun h=>?_
 refine Ap h fun h=>?_
 refine Bd (f:=Bh) h fun x33 _ h=>?_
 exact z21
theorem LD (p0:Af) (p1:Int) (p2:Int) (p3:Int) (R:(Int × Bool)) (h:BE p0 p1 p2 p3 = some R):Aj Tryz.prog 89 [.d (Au p0),.d (.int .i64 p1),.d (.int .i64 p2),.d (.int .i64 p3)] (.tup [.d (.int .i64 R.1),.d (.bool R.2)]):=by
 refine BF Tryz.func89 ?_
 unfold BE at h
 refine Bd (f:=Ag) h fun x20 _ h=>?_
 refine AE h (fun h=>?_) fun h=>?_
 ·refine AE h (fun h=>?_) fun h=>?_
  ·conv=>whnf
   refine z12 ?_
   exact A5 h
  refine AF h (fun _=>PK _ _ _ _) fun x38 h=>?_
  exact A5 h
 refine Bd (f:=Ae) h fun x48 _ h=>?_
 conv=>whnf
 refine z12 ?_
 refine AF h (fun _=>Hz _ _) fun x52 h=>?_
 refine AF h (fun _=>ME _ _ _) fun x54 h=>?_
 refine z5 h (fun p=>BB 68 [(2,.d (.int .i64 p2)),(3,.d (.int .i64 p3)),(14,.ptr 14 1 0),(54,.d (Ah 1 (D.int .i64) x54)),(55,.d (.int .i64 ((x54.length:Nat):Int))),(56,.d (.int .i64 p))] [(14,.var [.d (.str x48.Name),.d (Ah 2 Bh x48.Codes)],1)]) Ak fun _ _ v56_1 h=>?_
 simp only [KE] at h
 refine AY h fun h=>?_
 refine Bd (f:=(D.int .i64)) h fun x58 _ h=>?_
 refine AF h (fun _=>Kh _ _ _ _) fun x63 h=>?_
 exact z17
theorem TA (p0:Af) (p1:(List An)) (p2:(List Int)) (R:Bool) (h:H9 p0 p1 p2 = some R):Aj Tryz.prog 38 [.d (Au p0),.d (Ah 2 Ai p1),.d (Ah 1 (D.int .i64) p2)] (.d (.bool R)):=by
 refine Dk [3] Tryz.func38 (by kernel_rfl) ?_
 unfold H9 at h
 refine FW {p:Unit // G9 p1 p2 p0 = some R} (fun p=>BB 53 [(1,.d (Ah 2 Ai p1)),(2,.d (Ah 1 (D.int .i64) p2)),(3,.ptr 3 1 0)] [(3,.var [.d (Ah 2 Ae p0.Lists),.d (Ah 7 Ag p0.Columns)],1)]) ?_ fun p=>?_
 ·refine Ap h fun h=>?_
  refine Bd (f:=(D.int .i64)) h fun x19 _ h=>?_
  refine Ap h fun h=>?_
  refine Bd (f:=(D.int .i64)) h fun x25 _ h=>?_
  exact z31
 obtain ⟨_,h⟩:=p
 simp only [G9] at h
 refine z5 h (fun p=>BB 53 [(2,.d (Ah 1 (D.int .i64) p2)),(3,.ptr 3 1 0),(29,.d (Ah 2 Ai p1)),(30,.d (.int .i64 ((p1.length:Nat):Int))),(31,.d (.int .i64 p))] [(3,.var [.d (Ah 2 Ae p0.Lists),.d (Ah 7 Ag p0.Columns)],1)]) Ak fun _ _ v31_1 h=>?_
 simp only [G8] at h
 refine AY h fun h=>?_
 refine Bd (f:=Ai) h fun x34 _ h=>?_
 conv=>whnf
 refine z12 ?_
 refine Bd (f:=(D.int .i64)) h fun x45 _ h=>?_
 refine AF h (fun _=>LD _ _ _ _ _) fun x47 h=>?_
 exact z17
theorem Jr (p0:Af) (p1:A1) (R:Int) (h:Eo p0 p1 = some R):Aj Tryz.prog 18 [.d (Au p0),.d (CM p1)] (.d (.int .i64 R)):=by
 refine BF Tryz.func18 ?_
 unfold Eo at h
 refine AF h (fun _=>D8 _ _) fun x10 h=>?_
 refine Ap h fun h=>?_
 refine AF h (fun _=>Gg _ _) fun x17 h=>?_
 refine Ap h fun h=>?_
 refine Ap h fun h=>?_
 refine AF h (fun _=>OD _ _ _) fun x31 h=>?_
 refine Ap h fun h=>?_
 refine Ap h fun h=>?_
 refine z5 h (fun p=>BB 70 [(2,.ptr 2 1 0),(3,.ptr 3 1 0),(40,.d (Ah 1 (Ah 1 (D.int .i64)) p1.Rows)),(41,.d (.int .i64 ((p1.Rows.length:Nat):Int))),(42,.d (.int .i64 p))] [(2,.var [.d (Ah 2 Ae p0.Lists),.d (Ah 7 Ag p0.Columns)],1),(3,.var [.d (.str p1.Project),.d (.int .i64 p1.Version),.d (Ah 2 Ai p1.Picks),.d (Ah 1 (Ah 1 (D.int .i64)) p1.Rows)],1)]) Ak fun _ _ v42_1 h=>?_
 simp only [Gi] at h
 refine AY h fun h=>?_
 refine Bd (f:=(Ah 1 (D.int .i64))) h fun x45 _ h=>?_
 refine AF h (fun _=>TA _ _ _ _) fun x51 h=>?_
 refine Ap h fun h=>?_
 conv=>whnf
 refine z12 ?_
 refine AE h (fun h=>?_) fun h=>?_
 ·refine Bd (f:=(D.int .i64)) h fun x57 _ h=>?_
  refine Bd (f:=(Ah 1 (D.int .i64))) h fun x63 _ h=>?_
  refine Bd (f:=(D.int .i64)) h fun x65 _ h=>?_
  exact z17
 exact z43
theorem PU (d:Nat) (self_condition_count:(Ar→Int→Option Int)) (ih_condition_count:∀ (p0:Ar) (p1:Int) (R:Int) ,self_condition_count p0 p1 = some R→Aj Tryz.prog 168 [.d (Ac p0),.d (.int .i64 p1)] (.d (.int .i64 R))) (p0:Ar) (p1:Int) (R:Int) (h:H4 d self_condition_count p0 p1 = some R):Aj Tryz.prog 168 [.d (Ac p0),.d (.int .i64 p1)] (.d (.int .i64 R)):=by
 refine BF Tryz.func168 ?_
 unfold H4 at h
 refine z5 h (fun p=>BB 27 [(1,.d (.int .i64 p1)),(5,.d (.int .i64 p.1)),(9,.d (Ah 6 Ax p0.Kids)),(10,.d (.int .i64 ((p0.Kids.length:Nat):Int))),(11,.d (.int .i64 p.2))] []) A4 fun _ _ ⟨v5_1,v11_1⟩ h=>?_
 simp only [Km] at h
 refine AE h (fun h=>?_) fun h=>?_
 ·refine Bd (f:=Ax) h fun x13 _ h=>?_
  rw [Aa x13]
  refine AE h (fun h=>?_) fun h=>?_
  ·exact z16
  conv=>whnf
  obtain ⟨x23,hx23,h⟩:=A8 h
  first | refine Av (ih_condition_count _ _ _ hx23) ?_ | (simp only [List.length_map]; refine Av (ih_condition_count _ _ _ hx23) ?_)
  exact z25
 exact z16
theorem Kn:∀ d:Nat,(∀ (p0:Ar) (p1:Int) (R:Int) ,G6 d p0 p1 = some R→Aj Tryz.prog 168 [.d (Ac p0),.d (.int .i64 p1)] (.d (.int .i64 R)))
 | 0=>by
  exact z26
 | d + 1=>by
  have ih:=Kn d
  exact PU d _ ih
theorem Q5 (d:Nat):∀ (p0:Ar) (p1:Int) (R:Int) ,G6 d p0 p1 = some R→Aj Tryz.prog 168 [.d (Ac p0),.d (.int .i64 p1)] (.d (.int .i64 R)):=Kn d
theorem Q6 (d:Nat) (self_condition_deep:(Ar→Option Int)) (ih_condition_deep:∀ (p0:Ar) (R:Int) ,self_condition_deep p0 = some R→Aj Tryz.prog 169 [.d (Ac p0)] (.d (.int .i64 R))) (p0:Ar) (R:Int) (h:Iw d self_condition_deep p0 = some R):Aj Tryz.prog 169 [.d (Ac p0)] (.d (.int .i64 R)):=by
 refine BF Tryz.func169 ?_
 unfold Iw at h
 refine z5 h (fun p=>BB 20 [(3,.d (.int .i64 p.1)),(7,.d (Ah 6 Ax p0.Kids)),(8,.d (.int .i64 ((p0.Kids.length:Nat):Int))),(9,.d (.int .i64 p.2))] []) A4 fun _ _ ⟨v3_1,v9_1⟩ h=>?_
 simp only [KO] at h
 refine AE h (fun h=>?_) fun h=>?_
 ·refine Bd (f:=Ax) h fun x11 _ h=>?_
  rw [Aa x11]
  conv=>whnf
  obtain ⟨x15,hx15,h⟩:=A8 h
  first | refine Av (ih_condition_deep _ _ hx15) ?_ | (simp only [List.length_map]; refine Av (ih_condition_deep _ _ hx15) ?_)
  exact z25
 exact z16
theorem KP:∀ d:Nat,(∀ (p0:Ar) (R:Int) ,H5 d p0 = some R→Aj Tryz.prog 169 [.d (Ac p0)] (.d (.int .i64 R)))
 | 0=>by
  exact z26
 | d + 1=>by
  have ih:=KP d
  exact Q6 d _ ih
theorem Rv (d:Nat):∀ (p0:Ar) (R:Int) ,H5 d p0 = some R→Aj Tryz.prog 169 [.d (Ac p0)] (.d (.int .i64 R)):=KP d
theorem Rw (p0:Int) (R:Int) (h:Ko p0 = some R):Aj Tryz.prog 281 [.d (.int .i64 p0)] (.d (.int .i64 R)):=by
 refine BF Tryz.func281 ?_
 unfold Ko at h
 conv=>whnf
 refine MB h Cj (fun e1 h=>?_) (fun e1 h=>?_)
 ·conv=>whnf
  refine N6 Cj e1 ?_
  exact A5 h
 refine Ap h fun h=>?_
 exact DO h
theorem PV (p0:Ar) (R:Bool) (h:Iz p0 = some R):Aj Tryz.prog 282 [.d (Ac p0)] (.d (.bool R)):=by
 refine BF Tryz.func282 ?_
 unfold Iz at h
 conv=>whnf
 refine MB h Cj (fun e1 h=>?_) (fun e1 h=>?_)
 ·conv=>whnf
  refine N6 Cj e1 ?_
  exact z16
 refine AE h (fun h=>?_) fun h=>?_
 ·exact z16
 exact z16
end Go.Proofs.YtjgeigjjfcnojaaGreatDoor.P
