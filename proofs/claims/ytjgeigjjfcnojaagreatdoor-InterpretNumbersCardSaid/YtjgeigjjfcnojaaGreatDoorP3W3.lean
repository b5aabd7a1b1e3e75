/- P3W3 -/
import Derived.Test.YtjgeigjjfcnojaaGreatDoorP3W2
set_option linter.unusedSimpArgs false
namespace Go.Proofs.YtjgeigjjfcnojaaGreatDoor.P
open Go.Abs Go.Proofs
set_option maxRecDepth 100000
set_option maxHeartbeats 4000000
set_option linter.unusedVariables false
theorem Nv (d:Nat) (p0:Af) (p1:A2) (R:Bool) (h:F4 d p0 p1 = some R):Aj Tryz.prog 39 [.d (Au p0),.d (Ad p1)] (.d (.bool R)):=by
 refine BF Tryz.func39 ?_
 unfold F4 at h
 refine AF h (fun _=>D8 _ _) fun x6 h=>?_
 refine AE h (fun h=>?_) fun h=>?_
 ·refine AF h (fun _=>SV _ _ _ _) fun x11 h=>?_
  exact z16
 exact z22
theorem Lr (p0:An) (q0:An) (R:Bool) (h:Dl p0 q0 = some R):Aj Tryz.prog 93 [.d (Ai p0),.d (.ptr [(.int .i64 q0.Column),(.int .i64 q0.Level)])] (.d (.bool R)):=by
 refine BF Tryz.func93 ?_
 unfold Dl at h
 exact A5 h
theorem N7 (p0:An) (q0:(List An)) (R:Bool) (h:Ez p0 q0 = some R):Aj Tryz.prog 92 [.d (Ai p0),.d (.ptr [(Ah 2 Ai q0)])] (.d (.bool R)):=by
 refine BF Tryz.func92 ?_
 unfold Ez at h
 refine AF h (fun _=>BN _ _ _ _ _ (fun a0 _ h=>Lr a0 _ _ h)) fun x6 h=>?_
 exact A5 h
theorem Kk (p0:(List An)) (p1:(List An)) (R:Bool) (h:Dx p0 p1 = some R):Aj Tryz.prog 40 [.d (Ah 2 Ai p0),.d (Ah 2 Ai p1)] (.d (.bool R)):=by
 refine BF Tryz.func40 ?_
 unfold Dx at h
 refine AF h (fun _=>BN _ _ _ _ _ (fun a0 _ h=>N7 a0 _ _ h)) fun x7 h=>?_
 exact A5 h
theorem Td (p0:Af) (p1:Int) (p2:Int) (R:Int) (h:LG p0 p1 p2 = some R):Aj Tryz.prog 114 [.d (Au p0),.d (.int .i64 p1),.d (.int .i64 p2)] (.d (.int .i64 R)):=by
 refine BF Tryz.func114 ?_
 unfold LG at h
 refine Bd (f:=Ag) h fun x13 _ h=>?_
 refine z5 h (fun p=>BB 31 [(2,.d (.int .i64 p2)),(7,.d (Ah 1 (D.int .i64) x13.Widths)),(16,.d (Ah 1 (D.int .i64) x13.Widths)),(17,.d (.int .i64 ((x13.Widths.length:Nat):Int))),(18,.d (.int .i64 p))] []) Ak fun _ _ v18_1 h=>?_
 simp only [M4] at h
 refine AY h fun h=>?_
 refine Bd (f:=(D.int .i64)) h fun x21 _ h=>?_
 exact z17
theorem GJ (p0:Af) (p1:Int) (R:Int) (h:Ds p0 p1 = some R):Aj Tryz.prog 165 [.d (Au p0),.d (.int .i64 p1)] (.d (.int .i64 R)):=by
 refine BF Tryz.func165 ?_
 unfold Ds at h
 refine AF h (fun _=>D8 _ _) fun x6 h=>?_
 refine Ap h fun h=>?_
 refine AF h (fun _=>J0 _ _ _) fun x10 h=>?_
 exact A5 h
theorem N3 (p0:Af) (p1:Int) (p2:Int) (R:Int) (h:F7 p0 p1 p2 = some R):Aj Tryz.prog 233 [.d (Au p0),.d (.int .i64 p1),.d (.int .i64 p2)] (.d (.int .i64 R)):=by
 refine BF Tryz.func233 ?_
 unfold F7 at h
 refine Bd (f:=Ag) h fun x13 _ h=>?_
 refine AE h (fun h=>?_) fun h=>?_
 ·refine Bd (f:=Ae) h fun x22 _ h=>?_
  refine AF h (fun _=>ME _ _ _) fun x25 h=>?_
  exact A5 h
 refine Ap h fun h=>?_
 refine AF h (fun _=>KG _ _ _) fun x31 h=>?_
 conv=>whnf
 refine z12 ?_
 refine AF h (fun _=>F8 _ _ _) fun x35 h=>?_
 refine AF h (fun _=>F8 _ _ _) fun x39 h=>?_
 exact z44
theorem KD (p0:Af) (p1:Int) (p2:Int) (R:Int) (h:Fg p0 p1 p2 = some R):Aj Tryz.prog 164 [.d (Au p0),.d (.int .i64 p1),.d (.int .i64 p2)] (.d (.int .i64 R)):=by
 refine BF Tryz.func164 ?_
 unfold Fg at h
 refine AF h (fun _=>GJ _ _ _) fun x10 h=>?_
 refine Ap h fun h=>?_
 refine z5 h (fun p=>BB 35 [(1,.d (.int .i64 p1)),(2,.d (.int .i64 p)),(3,.ptr 3 1 0)] [(3,.var [.d (Ah 2 Ae p0.Lists),.d (Ah 7 Ag p0.Columns)],1)]) Ak fun _ _ v2_1 h=>?_
 simp only [Jz] at h
 conv=>whnf
 refine z12 ?_
 refine AY h fun h=>?_
 refine AF h (fun _=>N3 _ _ _ _) fun x25 h=>?_
 refine AF h (fun _=>N3 _ _ _ _) fun x29 h=>?_
 refine AY h fun h=>?_
 conv=>whnf
 exact z43
theorem DI (p0:Int) (q0:(List An)) (q1:Af) (R:(List An)) (h:Cv p0 q0 q1 = some R):W4 Tryz.prog 163 [.d (.int .i64 p0),.any,.d (.ptr [(Ah 2 Ae q1.Lists),(Ah 7 Ag q1.Columns)])] 1 2 112 (List.map Ai q0) (List.map Ai R):=by
 refine ek [] 0 Tryz.func163 (by kernel_rfl) rfl rfl (by simp) (by decide) rfl ?_
 unfold Cv at h
 conv=>whnf
 refine z12 ?_
 refine AF h (fun _=>GJ _ _ _) fun x10 h=>?_
 refine AF h (fun _=>KD _ _ _ _) fun x11 h=>?_
 conv=>whnf
 obtain ⟨hr,h⟩:=Dm h
 refine z6 ?_
 try rw [Df]
 conv=>whnf
 obtain rfl:=Option.some.inj h
 exact ⟨rfl,rfl,rfl,rfl,by first | rfl | (simp only [List.length_map]; done) | (simp only [List.length_map]; rfl)⟩
theorem X2 (p0:Af) (p1:A2) (R:(List An)) (h:IE p0 p1 = some R):Aj Tryz.prog 94 [.d (Au p0),.d (Ad p1)] (.d (Ah 2 Ai R)):=by
 refine Dk [8,19] Tryz.func94 (by kernel_rfl) ?_
 unfold IE at h
 conv=>whnf
 refine ⟨.inr ?_⟩
 refine FW {p:(List An) // Ik p1 p0 p = some R} (fun p=>BB 78 [(2,.ptr 2 1 0),(3,.ptr 3 1 0),(5,.ptr 5 1 0),(6,.cc (some 163) [.sl 5 1,.d (.ptr [(Ah 2 Ae p0.Lists),(Ah 7 Ag p0.Columns)])])] [(2,.fvar [(Ah 2 Ae p0.Lists),(Ah 7 Ag p0.Columns)],1),(3,.var [.d (.int .i64 p1.Op),.d (.int .i64 p1.Num),.d (.str p1.Name),.d (.int .i64 p1.Column),.d (Ah 1 (D.int .i64) p1.Columns),.d (Ah 2 Ai p1.Dims),.d (.int .i64 p1.Cond.Op),.d (.int .i64 p1.Cond.Column),.d (.int .i64 p1.Cond.Code),.d (.int .i64 p1.Cond.Low),.d (.int .i64 p1.Cond.High),.d (Ah 6 Ax p1.Cond.Kids),.d (.int .i64 p1.Event.Op),.d (.int .i64 p1.Event.Column),.d (.int .i64 p1.Event.Code),.d (.int .i64 p1.Event.Low),.d (.int .i64 p1.Event.High),.d (Ah 6 Ax p1.Event.Kids),.d (Ah 19 Bn p1.Kids)],1),(5,.var [.sl 30 1],1),(30,.row 2 112 (List.map Ai p.1),1)]) ?_ fun p=>?_
 ·conv=>whnf
  obtain ⟨P1,i1,h⟩:=A9 h
  refine dQ [(5,0,30,112)] {p:Nat × (Int × (List An)) // P1 p.1 p.2 = some R} (fun p=>BB 78 [(2,.ptr 2 1 0),(3,.ptr 3 1 0),(5,.ptr 5 1 0),(6,.cc (some 163) [.sl 5 1,.d (.ptr [(Ah 2 Ae p0.Lists),(Ah 7 Ag p0.Columns)])]),(13,.d (Ah 2 Ai p1.Dims)),(14,.d (.int .i64 ((p1.Dims.length:Nat):Int))),(15,.d (.int .i64 p.1.2.1))] [(2,.fvar [(Ah 2 Ae p0.Lists),(Ah 7 Ag p0.Columns)],1),(3,.var [.d (.int .i64 p1.Op),.d (.int .i64 p1.Num),.d (.str p1.Name),.d (.int .i64 p1.Column),.d (Ah 1 (D.int .i64) p1.Columns),.d (Ah 2 Ai p1.Dims),.d (.int .i64 p1.Cond.Op),.d (.int .i64 p1.Cond.Column),.d (.int .i64 p1.Cond.Code),.d (.int .i64 p1.Cond.Low),.d (.int .i64 p1.Cond.High),.d (Ah 6 Ax p1.Cond.Kids),.d (.int .i64 p1.Event.Op),.d (.int .i64 p1.Event.Column),.d (.int .i64 p1.Event.Code),.d (.int .i64 p1.Event.Low),.d (.int .i64 p1.Event.High),.d (Ah 6 Ax p1.Event.Kids),.d (Ah 19 Bn p1.Kids)],1),(5,.var [.sl 30 1],1),(30,.row 2 112 (List.map Ai p.1.2.2),1)]) (fun p=>p.1.1) ⟨(_,(_,_)),h⟩ ?_ fun p=>?_
  ·conv=>whnf
   exact ep
  obtain ⟨⟨k1,⟨v15_1,b30_1⟩⟩,h⟩:=p
  obtain ⟨k1,rfl,h⟩:=i1 _ _ h
  simp only [JQ] at h
  refine AE h (fun h=>?_) fun h=>?_
  ·refine Bd (f:=Ai) h fun x17 _ h=>?_
   conv=>whnf
   refine z12 ?_
   refine AF h (fun _=>KD _ _ _ _) fun x27 h=>?_
   conv=>whnf
   obtain ⟨hr,h⟩:=Dm h
   refine z6 ?_
   try rw [Df]
   exact z25
  exact z36
 obtain ⟨k30_1,h⟩:=p
 simp only [Ik] at h
 refine FW {p:(List An) // Bj p1 p0 p = some R} (fun p=>BB 78 [(3,.ptr 3 1 0),(5,.ptr 5 1 0),(6,.cc (some 163) [.sl 5 1,.d (.ptr [(Ah 2 Ae p0.Lists),(Ah 7 Ag p0.Columns)])])] [(3,.var [.d (.int .i64 p1.Op),.d (.int .i64 p1.Num),.d (.str p1.Name),.d (.int .i64 p1.Column),.d (Ah 1 (D.int .i64) p1.Columns),.d (Ah 2 Ai p1.Dims),.d (.int .i64 p1.Cond.Op),.d (.int .i64 p1.Cond.Column),.d (.int .i64 p1.Cond.Code),.d (.int .i64 p1.Cond.Low),.d (.int .i64 p1.Cond.High),.d (Ah 6 Ax p1.Cond.Kids),.d (.int .i64 p1.Event.Op),.d (.int .i64 p1.Event.Column),.d (.int .i64 p1.Event.Code),.d (.int .i64 p1.Event.Low),.d (.int .i64 p1.Event.High),.d (Ah 6 Ax p1.Event.Kids),.d (Ah 19 Bn p1.Kids)],1),(5,.var [.sl 30 1],1),(30,.row 2 112 (List.map Ai p.1),1)]) ?_ fun p=>?_
 ·conv=>whnf
  refine MB h Cj (fun e21 h=>?_) (fun e21 h=>?_)
  ·conv=>whnf
   refine N6 Cj e21 ?_
   refine AE h (fun h=>?_) fun h=>?_
   ·conv=>whnf
    exact z27
   exact z36
  conv=>whnf
  refine MB h Cj (fun e23 h=>?_) (fun e23 h=>?_)
  ·conv=>whnf
   refine N6 Cj e23 ?_
   refine AE h (fun h=>?_) fun h=>?_
   ·conv=>whnf
    exact z27
   exact z36
  conv=>whnf
  refine MB h Cj (fun e25 h=>?_) (fun e25 h=>?_)
  ·conv=>whnf
   refine N6 Cj e25 ?_
   refine AE h (fun h=>?_) fun h=>?_
   ·conv=>whnf
    exact z27
   exact z36
  conv=>whnf
  refine MB h Cj (fun e27 h=>?_) (fun e27 h=>?_)
  ·conv=>whnf
   refine N6 Cj e27 ?_
   refine AE h (fun h=>?_) fun h=>?_
   ·conv=>whnf
    exact z27
   exact z36
  conv=>whnf
  refine MB h Cj (fun e29 h=>?_) (fun e29 h=>?_)
  ·conv=>whnf
   refine N6 Cj e29 ?_
   refine AE h (fun h=>?_) fun h=>?_
   ·conv=>whnf
    exact z27
   exact z36
  refine AE h (fun h=>?_) fun h=>?_
  ·refine AE h (fun h=>?_) fun h=>?_
   ·conv=>whnf
    exact z27
   exact z36
  refine AE h (fun h=>?_) fun h=>?_
  ·conv=>whnf
   refine z12 ?_
   refine AF h (fun _=>Td _ _ _ _) fun x61 h=>?_
   refine AF h (fun _=>KD _ _ _ _) fun x62 h=>?_
   conv=>whnf
   obtain ⟨hr,h⟩:=Dm h
   refine z6 ?_
   try rw [Df]
   exact z36
  exact z36
 obtain ⟨k30_2,h⟩:=p
 simp only [Bj] at h
 refine z5 h (fun p=>BB 78 [(5,.ptr 5 1 0),(6,.cc (some 163) [.sl 5 1,.d (.ptr [(Ah 2 Ae p0.Lists),(Ah 7 Ag p0.Columns)])]),(67,.d (Ah 1 (D.int .i64) p1.Columns)),(68,.d (.int .i64 ((p1.Columns.length:Nat):Int))),(69,.d (.int .i64 p.1))] [(5,.var [.sl 30 1],1),(30,.row 2 112 (List.map Ai p.2),1)]) A4 fun _ _ ⟨v69_2,b30_2⟩ h=>?_
 simp only [JR] at h
 refine AE h (fun h=>?_) fun h=>?_
 ·refine Bd (f:=(D.int .i64)) h fun x71 _ h=>?_
  conv=>whnf
  obtain ⟨x75,hx75,h⟩:=A8 h
  refine Tx (DI _ _ _ _ hx75) ?_
  exact z25
 conv=>whnf
 exact z23
theorem PT (d:Nat) (self_condition_Atoms:(Ar→Option (List Ar))) (ih_condition_Atoms:∀ (p0:Ar) (R:(List Ar)) ,self_condition_Atoms p0 = some R→Aj Tryz.prog 166 [.d (Ac p0)] (.d (Ah 6 Ax R))) (p0:Ar) (R:(List Ar)) (h:H2 d self_condition_Atoms p0 = some R):Aj Tryz.prog 166 [.d (Ac p0)] (.d (Ah 6 Ax R)):=by
 refine BF Tryz.func166 ?_
 unfold H2 at h
 refine AE h (fun h=>?_) fun h=>?_
 ·conv=>whnf
  exact z23
 refine z5 h (fun p=>BB 34 [(3,.sl 3 1),(22,.d (Ah 6 Ax p0.Kids)),(23,.d (.int .i64 ((p0.Kids.length:Nat):Int))),(24,.d (.int .i64 p.1))] [(3,.row 6 41 (List.map Ax p.2),1)]) Tl fun _ _ ⟨v24_1,b3_1⟩ h=>?_
 simp only [Ki] at h
 refine AE h (fun h=>?_) fun h=>?_
 ·refine Bd (f:=Ax) h fun x26 _ h=>?_
  rw [Aa x26]
  conv=>whnf
  obtain ⟨x30,hx30,h⟩:=A8 h
  first | refine Av (ih_condition_Atoms _ _ hx30) ?_ | (simp only [List.length_map]; refine Av (ih_condition_Atoms _ _ hx30) ?_)
  conv=>whnf
  obtain ⟨hr,h⟩:=Dm h
  refine z6 ?_
  try rw [dC]
  conv=>whnf
  exact BI ⟨(_,(_,_)),h⟩ Tl
 conv=>whnf
 exact z23
theorem Kj:∀ d:Nat,(∀ (p0:Ar) (R:(List Ar)) ,G5 d p0 = some R→Aj Tryz.prog 166 [.d (Ac p0)] (.d (Ah 6 Ax R)))
 | 0=>by
  exact z26
 | d + 1=>by
  have ih:=Kj d
  exact PT d _ ih
theorem Q3 (d:Nat):∀ (p0:Ar) (R:(List Ar)) ,G5 d p0 = some R→Aj Tryz.prog 166 [.d (Ac p0)] (.d (Ah 6 Ax R)):=Kj d
theorem H7 (p0:Bool) (R:Int) (h:Ft p0 = some R):Aj Tryz.prog 279 [.d (.bool p0)] (.d (.int .i64 R)):=by
 refine BF Tryz.func279 ?_
 unfold Ft at h
 exact DO h
theorem U4 (p0:Aw) (p1:Int) (p2:Int) (R:Bool) (h:NJ p0 p1 p2 = some R):Aj Tryz.prog 280 [.d (Ae p0),.d (.int .i64 p1),.d (.int .i64 p2)] (.d (.bool R)):=by
 refine BF Tryz.func280 ?_
 unfold NJ at h
 refine AF h (fun _=>NK _ _ _) fun x9 h=>?_
 refine Ap h fun h=>?_
 refine AF h (fun _=>NK _ _ _) fun x14 h=>?_
 refine Ap h fun h=>?_
 conv=>whnf
 refine z12 ?_
 refine AF h (fun _=>FO _ _) fun x20 h=>?_
 refine Bd (f:=(D.int .i64)) h fun x22 _ h=>?_
 refine AF h (fun _=>Kh _ _ _ _) fun x24 h=>?_
 exact A5 h
theorem LO (p0:Af) (p1:Ar) (p2:Int) (R:Int) (h:H1 p0 p1 p2 = some R):Aj Tryz.prog 234 [.d (Au p0),.d (Ac p1),.d (.int .i64 p2)] (.d (.int .i64 R)):=by
 refine BF Tryz.func234 ?_
 unfold H1 at h
 refine AE h (fun h=>?_) fun h=>?_
 ·conv=>whnf
  refine z12 ?_
  refine Bd (f:=Ag) h fun x17 _ h=>?_
  refine Bd (f:=Ae) h fun x20 _ h=>?_
  refine AF h (fun _=>U4 _ _ _ _) fun x25 h=>?_
  refine AF h (fun _=>H7 _ _) fun x26 h=>?_
  exact z16
 refine AE h (fun h=>?_) fun h=>?_
 ·refine AF h (fun _=>H7 _ _) fun x33 h=>?_
  exact z16
 refine AE h (fun h=>?_) fun h=>?_
 ·exact z16
 refine AF h (fun _=>H7 _ _) fun x47 h=>?_
 exact z16
theorem Q8 (p0:Az) (p1:Int) (R:Int) (h:Jq p0 p1 = some R):Aj Tryz.prog 235 [.d (Ag p0),.d (.int .i64 p1)] (.d (.int .i64 R)):=by
 refine BF Tryz.func235 ?_
 unfold Jq at h
 refine Bd (f:=(D.int .i64)) h fun x12 _ h=>?_
 exact A5 h
theorem Ix (p0:Int) (p1:Int) (R:Int) (h:FR p0 p1 = some R):Aj Tryz.prog 236 [.d (.int .i64 p0),.d (.int .i64 p1)] (.d (.int .i64 R)):=by
 refine BF Tryz.func236 ?_
 unfold FR at h
 exact z44
theorem NO (p0:Af) (p1:Ar) (p2:Int) (R:Bool) (h:GT p0 p1 p2 = some R):Aj Tryz.prog 167 [.d (Au p0),.d (Ac p1),.d (.int .i64 p2)] (.d (.bool R)):=by
 refine BF Tryz.func167 ?_
 unfold GT at h
 refine Bd (f:=Ag) h fun x23 _ h=>?_
 refine AE h (fun h=>?_) fun h=>?_
 ·refine Bd (f:=Ae) h fun x32 _ h=>?_
  conv=>whnf
  refine z12 ?_
  refine AF h (fun _=>Hz _ _) fun x37 h=>?_
  refine AF h (fun _=>ME _ _ _) fun x39 h=>?_
  refine z5 h (fun p=>BB 134 [(2,.d (.int .i64 p2)),(3,.ptr 3 1 0),(4,.ptr 4 1 0),(8,.ptr 8 1 0),(9,.sl 34 1),(39,.d (Ah 1 (D.int .i64) x39)),(40,.d (.int .i64 ((x39.length:Nat):Int))),(41,.d (.int .i64 p.1))] [(3,.var [.d (Ah 2 Ae p0.Lists),.d (Ah 7 Ag p0.Columns)],1),(4,.var [.d (.int .i64 p1.Op),.d (.int .i64 p1.Column),.d (.int .i64 p1.Code),.d (.int .i64 p1.Low),.d (.int .i64 p1.High),.d (Ah 6 Ax p1.Kids)],1),(8,.var [.d (.str x32.Name),.d (Ah 2 Bh x32.Codes)],1),(34,.map (bc .i64 (D.int .i64) p.2),1)]) A4 fun _ _ ⟨v41_1,b34_1⟩ h=>?_
  simp only [Ir] at h
  refine AE h (fun h=>?_) fun h=>?_
  ·refine Bd (f:=(D.int .i64)) h fun x43 _ h=>?_
   conv=>whnf
   refine z12 ?_
   refine AF h (fun _=>Kh _ _ _ _) fun x48 h=>?_
   refine AF h (fun _=>LO _ _ _ _) fun x52 h=>?_
   conv=>whnf
   refine ⟨⟨by kernel_rfl,Mh .i64 (D.int .i64) x48 b34_1⟩,?_⟩
   conv=>whnf
   refine QO (f:=(D.int .i64)) (es:=b34_1) (z:=0) ?_
   refine AE h (fun h=>?_) fun h=>?_
   ·exact z16
   conv=>whnf
   refine ⟨⟨by rfl,by kernel_rfl,Mh .i64 (D.int .i64) x48 b34_1⟩,?_⟩
   conv=>whnf
   try rw [Ww .i64 (D.int .i64) x48 x52]
   exact BI ⟨(_,(_,_)),h⟩ A4
  exact z16
 refine AE h (fun h=>?_) fun h=>?_
 ·exact z16
 refine AE h (fun h=>?_) fun h=>?_
 ·exact z16
 conv=>whnf
 refine z12 ?_
 refine AE h (fun h=>?_) fun h=>?_
 ·exact z16
 refine AE h (fun h=>?_) fun h=>?_
 ·exact z16
 refine AF h (fun _=>Q8 _ _ _) fun x107 h=>?_
 refine AE h (fun h=>?_) fun h=>?_
 ·refine AE h (fun h=>?_) fun h=>?_
  ·exact z22
  obtain ⟨x128,hx128,h⟩:=A8 h
  refine Av (Ix _ _ _ hx128) ?_
  exact z16
 refine AF h (fun _=>Ix _ _ _) fun x115 h=>?_
 refine AE h (fun h=>?_) fun h=>?_
 ·refine AE h (fun h=>?_) fun h=>?_
  ·exact z22
  obtain ⟨x128,hx128,h⟩:=A8 h
  refine Av (Ix _ _ _ hx128) ?_
  exact z16
 exact z22
theorem H3 (d:Nat) (p0:Af) (p1:Ar) (R:(List An)) (h:Cl d p0 p1 = some R):Aj Tryz.prog 95 [.d (Au p0),.d (Ac p1)] (.d (Ah 2 Ai R)):=by
 refine BF Tryz.func95 ?_
 unfold Cl at h
 refine AF h (fun _=>Ea _ _ _ _) fun x14 h=>?_
 refine AE h (fun h=>?_) fun h=>?_
 ·conv=>whnf
  exact z23
 conv=>whnf
 obtain ⟨hr,h⟩:=Dm h
 refine z8 ?_
 try rw [bZ]
 refine AF h (fun _=>Q3 _ _ _) fun x21 h=>?_
 refine z5 h (fun p=>BB 63 [(2,.ptr 2 1 0),(5,.sl 19 1),(21,.d (Ah 6 Ax x21)),(22,.d (.int .i64 ((x21.length:Nat):Int))),(23,.d (.int .i64 p.1))] [(2,.var [.d (Ah 2 Ae p0.Lists),.d (Ah 7 Ag p0.Columns)],1),(19,.row 1 3 (List.map (D.int .i64) p.2),1)]) A4 fun _ _ ⟨v23_1,b19_1⟩ h=>?_
 simp only [GQ] at h
 refine AE h (fun h=>?_) fun h=>?_
 ·refine Bd (f:=Ax) h fun x25 _ h=>?_
  rw [Aa x25]
  refine z5 h (fun p=>BB 63 [(2,.ptr 2 1 0),(5,.sl 19 1),(7,.ptr 7 1 0),(8,.d (.int .i64 p)),(21,.d (Ah 6 Ax x21)),(22,.d (.int .i64 ((x21.length:Nat):Int))),(23,.d (.int .i64 v23_1))] [(2,.var [.d (Ah 2 Ae p0.Lists),.d (Ah 7 Ag p0.Columns)],1),(7,.var [.d (.int .i64 x25.Op),.d (.int .i64 x25.Column),.d (.int .i64 x25.Code),.d (.int .i64 x25.Low),.d (.int .i64 x25.High),.d (Ah 6 Ax x25.Kids)],1),(19,.row 1 3 (List.map (D.int .i64) b19_1),1)]) A4 fun _ _ v8_2 h=>?_
  simp only [Kl] at h
  refine AF h (fun _=>NO _ _ _ _) fun x30 h=>?_
  refine AE h (fun h=>?_) fun h=>?_
  ·exact z40
  conv=>whnf
  try simp only [EP] at h
  refine z12 ?_
  refine Tc (f:=(D.int .i64)) h Cj fun x40 hx40 h=>?_
  refine ZV (f:=(D.int .i64)) hx40 Cj ?_
  refine Tc (f:=(D.int .i64)) h Cj fun x44 hx44 h=>?_
  refine ZV (f:=(D.int .i64)) hx44 Cj ?_
  conv=>whnf
  try rw [bv]
  exact BI ⟨(_,(_,_)),h⟩ A4
 conv=>whnf
 try simp only [EP] at h
 refine z5 h (fun p=>BB 63 [(9,.sl 9 1),(46,.sl 19 1),(47,.d (.int .i64 ((b19_1.length:Nat):Int))),(48,.d (.int .i64 p.1))] [(9,.row 2 112 (List.map Ai p.2),1),(19,.row 1 3 (List.map (D.int .i64) b19_1),1)]) A4 fun _ _ ⟨v48_3,b9_3⟩ h=>?_
 simp only [EO] at h
 refine AE h (fun h=>?_) fun h=>?_
 ·refine Tc (f:=(D.int .i64)) h Cj fun x51 hx51 h=>?_
  refine ZV (f:=(D.int .i64)) hx51 Cj ?_
  refine AE h (fun h=>?_) fun h=>?_
  ·conv=>whnf
   obtain ⟨hr,h⟩:=Dm h
   refine z6 ?_
   try rw [Df]
   exact z25
  exact z25
 conv=>whnf
 try simp only [EP] at h
 exact z23
theorem Rc (p0:(List (List An))) (R:(List An)) (h:Fv p0 = some R):Aj Tryz.prog 96 [.d (Ah 1 (Ah 2 Ai) p0)] (.d (Ah 2 Ai R)):=by
 refine BF Tryz.func96 ?_
 unfold Fv at h
 refine z5 h (fun p=>BB 59 [(3,.sl 11 1),(4,.d (.int .i64 p.1)),(12,.d (Ah 1 (Ah 2 Ai) p0)),(13,.d (.int .i64 ((p0.length:Nat):Int))),(14,.d (.int .i64 p.2.1))] [(11,.map (bc .i64 (D.int .i64) p.2.2),1)]) Ak fun _ _ ⟨v4_1,v14_1,b11_1⟩ h=>?_
 simp only [Fa] at h
 refine AE h (fun h=>?_) fun h=>?_
 ·refine Bd (f:=(Ah 2 Ai)) h fun x16 _ h=>?_
  refine z5 h (fun p=>BB 59 [(3,.sl 11 1),(4,.d (.int .i64 p.1)),(12,.d (Ah 1 (Ah 2 Ai) p0)),(13,.d (.int .i64 ((p0.length:Nat):Int))),(14,.d (.int .i64 v14_1)),(18,.d (Ah 2 Ai x16)),(19,.d (.int .i64 ((x16.length:Nat):Int))),(20,.d (.int .i64 p.2.1))] [(11,.map (bc .i64 (D.int .i64) p.2.2),1)]) Ak fun _ _ ⟨v4_2,v20_2,b11_2⟩ h=>?_
  simp only [Fb] at h
  refine AE h (fun h=>?_) fun h=>?_
  ·refine Bd (f:=Ai) h fun x22 _ h=>?_
   conv=>whnf
   refine z12 ?_
   conv=>whnf
   refine ⟨⟨by kernel_rfl,Mh .i64 (D.int .i64) x22.Column b11_2⟩,?_⟩
   conv=>whnf
   refine QO (f:=(D.int .i64)) (es:=b11_2) (z:=0) ?_
   conv=>whnf
   refine ⟨⟨by rfl,by kernel_rfl,Mh .i64 (D.int .i64) x22.Column b11_2⟩,?_⟩
   conv=>whnf
   try rw [Ww .i64 (D.int .i64) x22.Column (if x22.Level > ((JD x22.Column b11_2).getD 0) then x22.Level else ((JD x22.Column b11_2).getD 0))]
   exact BI ⟨(_,(_,_,_)),h⟩ Ak
  exact z24
 refine z5 h (fun p=>BB 59 [(3,.sl 11 1),(9,.sl 9 1),(41,.d (.int .i64 (IntKind.i64.wrap (v4_1 + 1)))),(42,.d (.int .i64 p.1))] [(9,.row 2 112 (List.map Ai p.2),1),(11,.map (bc .i64 (D.int .i64) b11_1),1)]) Ak fun _ _ ⟨v42_3,b9_3⟩ h=>?_
 simp only [Fc] at h
 refine AE h (fun h=>?_) fun h=>?_
 ·conv=>whnf
  refine ⟨⟨by kernel_rfl,Mh .i64 (D.int .i64) v42_3 b11_1⟩,?_⟩
  conv=>whnf
  refine QO (f:=(D.int .i64)) (es:=b11_1) (z:=0) ?_
  refine AE h (fun h=>?_) fun h=>?_
  ·conv=>whnf
   refine ⟨⟨by kernel_rfl,Mh .i64 (D.int .i64) v42_3 b11_1⟩,?_⟩
   conv=>whnf
   refine QO (f:=(D.int .i64)) (es:=b11_1) (z:=0) ?_
   conv=>whnf
   obtain ⟨hr,h⟩:=Dm h
   refine z6 ?_
   try rw [Df]
   exact z21
  exact z21
 exact z30
end Go.Proofs.YtjgeigjjfcnojaaGreatDoor.P
