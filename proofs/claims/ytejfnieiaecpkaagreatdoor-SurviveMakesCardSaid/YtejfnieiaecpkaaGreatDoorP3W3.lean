/- P3W3 -/
import Derived.Test.YtejfnieiaecpkaaGreatDoorP3W2
set_option linter.unusedSimpArgs false
namespace Go.Proofs.YtejfnieiaecpkaaGreatDoor.P
open Go.Abs Go.Proofs
set_option maxRecDepth 100000
set_option maxHeartbeats 4000000
set_option linter.unusedVariables false
theorem JL (p0:Int) (p1:Int) (R:Int) (h:DO p0 p1 = some R):Aj Tryz.prog 209 [.d (.int .i64 p0),.d (.int .i64 p1)] (.d (.int .i64 R)):=by
 refine Ch Tryz.func209 ?_
 unfold DO at h
 exact z37
theorem OR (p0:Aa) (p1:Af) (p2:Int) (R:Bool) (h:Bi p0 p1 p2 = some R):Aj Tryz.prog 144 [.d (Ai p0),.d (Ax p1),.d (.int .i64 p2)] (.d (.bool R)):=by
 refine Ch Tryz.func144 ?_
 unfold Bi at h
 refine AO (f:=Ad) h fun x23 _ h=>?_
 refine AW h (fun h=>?_) fun h=>?_
 ·refine AO (f:=Ac) h fun x32 _ h=>?_
  conv=>whnf
  refine z11 ?_
  refine A7 h (fun _=>Jk _ _) fun x37 h=>?_
  refine A7 h (fun _=>Od _ _ _) fun x39 h=>?_
  refine z3 h (fun p=>B8 134 [(2,.d (.int .i64 p2)),(3,.ptr 3 1 0),(4,.ptr 4 1 0),(8,.ptr 8 1 0),(9,.sl 34 1),(39,.d (Al 1 (D.int .i64) x39)),(40,.d (.int .i64 ((x39.length:Nat):Int))),(41,.d (.int .i64 p.1))] [(3,.var [.d (Al 2 Ac p0.Lists),.d (Al 7 Ad p0.Columns)],1),(4,.var [.d (.int .i64 p1.Op),.d (.int .i64 p1.Column),.d (.int .i64 p1.Code),.d (.int .i64 p1.Low),.d (.int .i64 p1.High),.d (Al 6 Ao p1.Kids)],1),(8,.var [.d (.str x32.Name),.d (Al 2 Br x32.Codes)],1),(34,.map (fO .i64 (D.int .i64) p.2),1)]) Aq fun _ _ ⟨v41_1,b34_1⟩ h=>?_
  simp only [GV] at h
  refine Cb h fun h=>?_
  refine AO (f:=(D.int .i64)) h fun x43 _ h=>?_
  conv=>whnf
  refine z11 ?_
  refine A7 h (fun _=>L4 _ _ _ _) fun x48 h=>?_
  refine A7 h (fun _=>N1 _ _ _ _) fun x52 h=>?_
  conv=>whnf
  refine ⟨⟨by kernel_rfl,NA .i64 (D.int .i64) x48 b34_1⟩,?_⟩
  conv=>whnf
  refine RO (f:=(D.int .i64)) (es:=b34_1) (z:=0) ?_
  refine A2 h fun h=>?_
  conv=>whnf
  refine ⟨⟨by rfl,by kernel_rfl,NA .i64 (D.int .i64) x48 b34_1⟩,?_⟩
  conv=>whnf
  try rw [Xx .i64 (D.int .i64) x48 x52]
  exact BE ⟨(_,(_,_)),h⟩ Aq
 refine A2 h fun h=>?_
 refine A2 h fun h=>?_
 conv=>whnf
 refine z11 ?_
 refine A2 h fun h=>?_
 refine A2 h fun h=>?_
 refine A7 h (fun _=>Rl _ _ _) fun x107 h=>?_
 refine AW h (fun h=>?_) fun h=>?_
 ·refine A2 h fun h=>?_
  obtain ⟨x128,hx128,h⟩:=AB h
  refine Au (JL _ _ _ hx128) ?_
  exact AM h
 refine A7 h (fun _=>JL _ _ _) fun x115 h=>?_
 refine Cb h fun h=>?_
 refine A2 h fun h=>?_
 obtain ⟨x128,hx128,h⟩:=AB h
 refine Au (JL _ _ _ hx128) ?_
 exact AM h
theorem J1 (d:Nat) (p0:Aa) (p1:Af) (R:(List Ae)) (h:CX d p0 p1 = some R):Aj Tryz.prog 81 [.d (Ai p0),.d (Ax p1)] (.d (Al 2 Ag R)):=by
 refine Ch Tryz.func81 ?_
 unfold CX at h
 refine A7 h (fun _=>Fe _ _ _ _) fun x14 h=>?_
 refine AW h (fun h=>?_) fun h=>?_
 ·exact z46
 conv=>whnf
 obtain ⟨hr,h⟩:=Eg h
 refine z6 ?_
 try rw [fL]
 refine A7 h (fun _=>Sd _ _ _) fun x21 h=>?_
 refine z3 h (fun p=>B8 63 [(2,.ptr 2 1 0),(5,.sl 19 1),(21,.d (Al 6 Ao x21)),(22,.d (.int .i64 ((x21.length:Nat):Int))),(23,.d (.int .i64 p.1))] [(2,.var [.d (Al 2 Ac p0.Lists),.d (Al 7 Ad p0.Columns)],1),(19,.row 1 3 (List.map (D.int .i64) p.2),1)]) Aq fun _ _ ⟨v23_1,b19_1⟩ h=>?_
 simp only [Gu] at h
 refine AW h (fun h=>?_) fun h=>?_
 ·refine AO (f:=Ao) h fun x25 _ h=>?_
  rw [A9 x25]
  refine z3 h (fun p=>B8 63 [(2,.ptr 2 1 0),(5,.sl 19 1),(7,.ptr 7 1 0),(8,.d (.int .i64 p)),(21,.d (Al 6 Ao x21)),(22,.d (.int .i64 ((x21.length:Nat):Int))),(23,.d (.int .i64 v23_1))] [(2,.var [.d (Al 2 Ac p0.Lists),.d (Al 7 Ad p0.Columns)],1),(7,.var [.d (.int .i64 x25.Op),.d (.int .i64 x25.Column),.d (.int .i64 x25.Code),.d (.int .i64 x25.Low),.d (.int .i64 x25.High),.d (Al 6 Ao x25.Kids)],1),(19,.row 1 3 (List.map (D.int .i64) b19_1),1)]) Aq fun _ _ v8_2 h=>?_
  simp only [Iw] at h
  refine A7 h (fun _=>OR _ _ _ _) fun x30 h=>?_
  refine AW h (fun h=>?_) fun h=>?_
  ·conv=>whnf
   exact BE ⟨(_,_),h⟩ Aq
  conv=>whnf
  try simp only [E8] at h
  refine z11 ?_
  refine UT (f:=(D.int .i64)) h Db fun x40 hx40 h=>?_
  refine eO (f:=(D.int .i64)) hx40 Db ?_
  refine UT (f:=(D.int .i64)) h Db fun x44 hx44 h=>?_
  refine eO (f:=(D.int .i64)) hx44 Db ?_
  exact z51
 conv=>whnf
 try simp only [E8] at h
 refine z3 h (fun p=>B8 63 [(9,.sl 9 1),(46,.sl 19 1),(47,.d (.int .i64 ((b19_1.length:Nat):Int))),(48,.d (.int .i64 p.1))] [(9,.row 2 43 (List.map Ag p.2),1),(19,.row 1 3 (List.map (D.int .i64) b19_1),1)]) Aq fun _ _ ⟨v48_3,b9_3⟩ h=>?_
 simp only [FW] at h
 refine AW h (fun h=>?_) fun h=>?_
 ·refine UT (f:=(D.int .i64)) h Db fun x51 hx51 h=>?_
  refine eO (f:=(D.int .i64)) hx51 Db ?_
  refine AW h (fun h=>?_) fun h=>?_
  ·conv=>whnf
   obtain ⟨hr,h⟩:=Eg h
   refine z4 ?_
   try rw [Dn]
   exact z19
  exact z19
 conv=>whnf
 try simp only [E8] at h
 exact z16
theorem Uc (p0:Aa) (p1:Int) (p2:Int) (R:Int) (h:MO p0 p1 p2 = some R):Aj Tryz.prog 41 [.d (Ai p0),.d (.int .i64 p1),.d (.int .i64 p2)] (.d (.int .i64 R)):=by
 refine Ch Tryz.func41 ?_
 unfold MO at h
 refine AO (f:=Ad) h fun x13 _ h=>?_
 refine z3 h (fun p=>B8 31 [(2,.d (.int .i64 p2)),(7,.d (Al 1 (D.int .i64) x13.Widths)),(16,.d (Al 1 (D.int .i64) x13.Widths)),(17,.d (.int .i64 ((x13.Widths.length:Nat):Int))),(18,.d (.int .i64 p))] []) Ah fun _ _ v18_1 h=>?_
 simp only [Ni] at h
 refine Bj h fun h=>?_
 refine AO (f:=(D.int .i64)) h fun x21 _ h=>?_
 exact z12
theorem Iu (p0:Aa) (p1:Int) (R:Int) (h:Er p0 p1 = some R):Aj Tryz.prog 111 [.d (Ai p0),.d (.int .i64 p1)] (.d (.int .i64 R)):=by
 refine Ch Tryz.func111 ?_
 unfold Er at h
 refine A7 h (fun _=>E4 _ _) fun x6 h=>?_
 refine An h fun h=>?_
 refine A7 h (fun _=>KI _ _ _) fun x10 h=>?_
 exact A3 h
theorem Oz (p0:Aa) (p1:Int) (p2:Int) (R:Int) (h:Fx p0 p1 p2 = some R):Aj Tryz.prog 287 [.d (Ai p0),.d (.int .i64 p1),.d (.int .i64 p2)] (.d (.int .i64 R)):=by
 refine Ch Tryz.func287 ?_
 unfold Fx at h
 refine AO (f:=Ad) h fun x13 _ h=>?_
 refine AW h (fun h=>?_) fun h=>?_
 ·refine AO (f:=Ac) h fun x22 _ h=>?_
  refine A7 h (fun _=>Od _ _ _) fun x25 h=>?_
  exact A3 h
 refine An h fun h=>?_
 refine A7 h (fun _=>LC _ _ _) fun x31 h=>?_
 conv=>whnf
 refine z11 ?_
 refine A7 h (fun _=>GN _ _ _) fun x35 h=>?_
 refine A7 h (fun _=>GN _ _ _) fun x39 h=>?_
 exact z37
theorem LI (p0:Aa) (p1:Int) (p2:Int) (R:Int) (h:DL p0 p1 p2 = some R):Aj Tryz.prog 253 [.d (Ai p0),.d (.int .i64 p1),.d (.int .i64 p2)] (.d (.int .i64 R)):=by
 refine Ch Tryz.func253 ?_
 unfold DL at h
 refine A7 h (fun _=>Iu _ _ _) fun x10 h=>?_
 refine An h fun h=>?_
 refine z3 h (fun p=>B8 35 [(1,.d (.int .i64 p1)),(2,.d (.int .i64 p)),(3,.ptr 3 1 0)] [(3,.var [.d (Al 2 Ac p0.Lists),.d (Al 7 Ad p0.Columns)],1)]) Ah fun _ _ v2_1 h=>?_
 simp only [Ie] at h
 conv=>whnf
 refine z11 ?_
 refine Bj h fun h=>?_
 refine A7 h (fun _=>Oz _ _ _ _) fun x25 h=>?_
 refine A7 h (fun _=>Oz _ _ _ _) fun x29 h=>?_
 refine Bj h fun h=>?_
 conv=>whnf
 exact z39
theorem EB (p0:Int) (q0:(List Ae)) (q1:Aa) (R:(List Ae)) (h:DF p0 q0 q1 = some R):Zp Tryz.prog 252 [.d (.int .i64 p0),.any,.d (.ptr [(Al 2 Ac q1.Lists),(Al 7 Ad q1.Columns)])] 1 2 43 (List.map Ag q0) (List.map Ag R):=by
 refine jo [] 0 Tryz.func252 (by kernel_rfl) rfl rfl (by simp) (by decide) rfl ?_
 unfold DF at h
 conv=>whnf
 refine z11 ?_
 refine A7 h (fun _=>Iu _ _ _) fun x10 h=>?_
 refine A7 h (fun _=>LI _ _ _ _) fun x11 h=>?_
 conv=>whnf
 obtain ⟨hr,h⟩:=Eg h
 refine z4 ?_
 try rw [Dn]
 conv=>whnf
 obtain rfl:=Option.some.inj h
 exact ⟨rfl,rfl,rfl,rfl,by first | rfl | (simp only [List.length_map]; rfl)⟩
theorem Y5 (p0:Aa) (p1:AD) (R:(List Ae)) (h:N6 p0 p1 = some R):Aj Tryz.prog 193 [.d (Ai p0),.d (Bb p1)] (.d (Al 2 Ag R)):=by
 refine Dt [8,19] Tryz.func193 (by kernel_rfl) ?_
 unfold N6 at h
 conv=>whnf
 refine ⟨.inr ?_⟩
 refine F0 {p:(List Ae) // Lf p1 p0 p = some R} (fun p=>B8 78 [(2,.ptr 2 1 0),(3,.ptr 3 1 0),(5,.ptr 5 1 0),(6,.cc (some 252) [.sl 5 1,.d (.ptr [(Al 2 Ac p0.Lists),(Al 7 Ad p0.Columns)])])] [(2,.fvar [(Al 2 Ac p0.Lists),(Al 7 Ad p0.Columns)],1),(3,.var [.d (.int .i64 p1.Op),.d (.int .i64 p1.Num),.d (.str p1.Name),.d (.int .i64 p1.Column),.d (Al 1 (D.int .i64) p1.Columns),.d (Al 2 Ag p1.Dims),.d (.int .i64 p1.Cond.Op),.d (.int .i64 p1.Cond.Column),.d (.int .i64 p1.Cond.Code),.d (.int .i64 p1.Cond.Low),.d (.int .i64 p1.Cond.High),.d (Al 6 Ao p1.Cond.Kids),.d (.int .i64 p1.Event.Op),.d (.int .i64 p1.Event.Column),.d (.int .i64 p1.Event.Code),.d (.int .i64 p1.Event.Low),.d (.int .i64 p1.Event.High),.d (Al 6 Ao p1.Event.Kids),.d (Al 19 B9 p1.Kids)],1),(5,.var [.sl 30 1],1),(30,.row 2 43 (List.map Ag p.1),1)]) ?_ fun p=>?_
 ·conv=>whnf
  obtain ⟨P1,i1,h⟩:=A4 h
  refine dC [(5,0,30,43)] {p:Nat × (Int × (List Ae)) // P1 p.1 p.2 = some R} (fun p=>B8 78 [(2,.ptr 2 1 0),(3,.ptr 3 1 0),(5,.ptr 5 1 0),(6,.cc (some 252) [.sl 5 1,.d (.ptr [(Al 2 Ac p0.Lists),(Al 7 Ad p0.Columns)])]),(13,.d (Al 2 Ag p1.Dims)),(14,.d (.int .i64 ((p1.Dims.length:Nat):Int))),(15,.d (.int .i64 p.1.2.1))] [(2,.fvar [(Al 2 Ac p0.Lists),(Al 7 Ad p0.Columns)],1),(3,.var [.d (.int .i64 p1.Op),.d (.int .i64 p1.Num),.d (.str p1.Name),.d (.int .i64 p1.Column),.d (Al 1 (D.int .i64) p1.Columns),.d (Al 2 Ag p1.Dims),.d (.int .i64 p1.Cond.Op),.d (.int .i64 p1.Cond.Column),.d (.int .i64 p1.Cond.Code),.d (.int .i64 p1.Cond.Low),.d (.int .i64 p1.Cond.High),.d (Al 6 Ao p1.Cond.Kids),.d (.int .i64 p1.Event.Op),.d (.int .i64 p1.Event.Column),.d (.int .i64 p1.Event.Code),.d (.int .i64 p1.Event.Low),.d (.int .i64 p1.Event.High),.d (Al 6 Ao p1.Event.Kids),.d (Al 19 B9 p1.Kids)],1),(5,.var [.sl 30 1],1),(30,.row 2 43 (List.map Ag p.1.2.2),1)]) (fun p=>p.1.1) ⟨(_,(_,_)),h⟩ ?_ fun p=>?_
  ·conv=>whnf
   exact jZ
  obtain ⟨⟨k1,⟨v15_1,b30_1⟩⟩,h⟩:=p
  obtain ⟨k1,rfl,h⟩:=i1 _ _ h
  simp only [Oa] at h
  refine AW h (fun h=>?_) fun h=>?_
  ·refine AO (f:=Ag) h fun x17 _ h=>?_
   conv=>whnf
   refine z11 ?_
   refine A7 h (fun _=>LI _ _ _ _) fun x27 h=>?_
   conv=>whnf
   obtain ⟨hr,h⟩:=Eg h
   refine z4 ?_
   try rw [Dn]
   exact z19
  exact z17
 obtain ⟨k30_1,h⟩:=p
 simp only [Lf] at h
 refine F0 {p:(List Ae) // BG p1 p0 p = some R} (fun p=>B8 78 [(3,.ptr 3 1 0),(5,.ptr 5 1 0),(6,.cc (some 252) [.sl 5 1,.d (.ptr [(Al 2 Ac p0.Lists),(Al 7 Ad p0.Columns)])])] [(3,.var [.d (.int .i64 p1.Op),.d (.int .i64 p1.Num),.d (.str p1.Name),.d (.int .i64 p1.Column),.d (Al 1 (D.int .i64) p1.Columns),.d (Al 2 Ag p1.Dims),.d (.int .i64 p1.Cond.Op),.d (.int .i64 p1.Cond.Column),.d (.int .i64 p1.Cond.Code),.d (.int .i64 p1.Cond.Low),.d (.int .i64 p1.Cond.High),.d (Al 6 Ao p1.Cond.Kids),.d (.int .i64 p1.Event.Op),.d (.int .i64 p1.Event.Column),.d (.int .i64 p1.Event.Code),.d (.int .i64 p1.Event.Low),.d (.int .i64 p1.Event.High),.d (Al 6 Ao p1.Event.Kids),.d (Al 19 B9 p1.Kids)],1),(5,.var [.sl 30 1],1),(30,.row 2 43 (List.map Ag p.1),1)]) ?_ fun p=>?_
 ·conv=>whnf
  refine KG h Db (fun e21 h=>?_) (fun e21 h=>?_)
  ·conv=>whnf
   refine Lp Db e21 ?_
   refine AW h (fun h=>?_) fun h=>?_
   ·exact z25
   exact z17
  conv=>whnf
  refine KG h Db (fun e23 h=>?_) (fun e23 h=>?_)
  ·conv=>whnf
   refine Lp Db e23 ?_
   refine AW h (fun h=>?_) fun h=>?_
   ·exact z25
   exact z17
  conv=>whnf
  refine KG h Db (fun e25 h=>?_) (fun e25 h=>?_)
  ·conv=>whnf
   refine Lp Db e25 ?_
   refine AW h (fun h=>?_) fun h=>?_
   ·exact z25
   exact z17
  conv=>whnf
  refine KG h Db (fun e27 h=>?_) (fun e27 h=>?_)
  ·conv=>whnf
   refine Lp Db e27 ?_
   refine AW h (fun h=>?_) fun h=>?_
   ·exact z25
   exact z17
  conv=>whnf
  refine KG h Db (fun e29 h=>?_) (fun e29 h=>?_)
  ·conv=>whnf
   refine Lp Db e29 ?_
   refine AW h (fun h=>?_) fun h=>?_
   ·exact z25
   exact z17
  refine AW h (fun h=>?_) fun h=>?_
  ·refine AW h (fun h=>?_) fun h=>?_
   ·exact z25
   exact z17
  refine AW h (fun h=>?_) fun h=>?_
  ·conv=>whnf
   refine z11 ?_
   refine A7 h (fun _=>Uc _ _ _ _) fun x61 h=>?_
   refine A7 h (fun _=>LI _ _ _ _) fun x62 h=>?_
   conv=>whnf
   obtain ⟨hr,h⟩:=Eg h
   refine z4 ?_
   try rw [Dn]
   exact z17
  exact z17
 obtain ⟨k30_2,h⟩:=p
 simp only [BG] at h
 refine z3 h (fun p=>B8 78 [(5,.ptr 5 1 0),(6,.cc (some 252) [.sl 5 1,.d (.ptr [(Al 2 Ac p0.Lists),(Al 7 Ad p0.Columns)])]),(67,.d (Al 1 (D.int .i64) p1.Columns)),(68,.d (.int .i64 ((p1.Columns.length:Nat):Int))),(69,.d (.int .i64 p.1))] [(5,.var [.sl 30 1],1),(30,.row 2 43 (List.map Ag p.2),1)]) Aq fun _ _ ⟨v69_2,b30_2⟩ h=>?_
 simp only [Ob] at h
 refine AW h (fun h=>?_) fun h=>?_
 ·refine AO (f:=(D.int .i64)) h fun x71 _ h=>?_
  conv=>whnf
  obtain ⟨x75,hx75,h⟩:=AB h
  refine Vv (EB _ _ _ _ hx75) ?_
  exact z19
 exact z46
theorem RZ (p0:(List (List Ae))) (R:(List Ae)) (h:GI p0 = some R):Aj Tryz.prog 194 [.d (Al 1 (Al 2 Ag) p0)] (.d (Al 2 Ag R)):=by
 refine Ch Tryz.func194 ?_
 unfold GI at h
 refine z3 h (fun p=>B8 59 [(3,.sl 11 1),(4,.d (.int .i64 p.1)),(12,.d (Al 1 (Al 2 Ag) p0)),(13,.d (.int .i64 ((p0.length:Nat):Int))),(14,.d (.int .i64 p.2.1))] [(11,.map (fO .i64 (D.int .i64) p.2.2),1)]) Ah fun _ _ ⟨v4_1,v14_1,b11_1⟩ h=>?_
 simp only [Gk] at h
 refine AW h (fun h=>?_) fun h=>?_
 ·refine AO (f:=(Al 2 Ag)) h fun x16 _ h=>?_
  refine z3 h (fun p=>B8 59 [(3,.sl 11 1),(4,.d (.int .i64 p.1)),(12,.d (Al 1 (Al 2 Ag) p0)),(13,.d (.int .i64 ((p0.length:Nat):Int))),(14,.d (.int .i64 v14_1)),(18,.d (Al 2 Ag x16)),(19,.d (.int .i64 ((x16.length:Nat):Int))),(20,.d (.int .i64 p.2.1))] [(11,.map (fO .i64 (D.int .i64) p.2.2),1)]) Ah fun _ _ ⟨v4_2,v20_2,b11_2⟩ h=>?_
  simp only [Gr] at h
  refine AW h (fun h=>?_) fun h=>?_
  ·refine AO (f:=Ag) h fun x22 _ h=>?_
   conv=>whnf
   refine z11 ?_
   conv=>whnf
   refine ⟨⟨by kernel_rfl,NA .i64 (D.int .i64) x22.Column b11_2⟩,?_⟩
   conv=>whnf
   refine RO (f:=(D.int .i64)) (es:=b11_2) (z:=0) ?_
   conv=>whnf
   refine ⟨⟨by rfl,by kernel_rfl,NA .i64 (D.int .i64) x22.Column b11_2⟩,?_⟩
   conv=>whnf
   try rw [Xx .i64 (D.int .i64) x22.Column (if x22.Level > ((Je x22.Column b11_2).getD 0) then x22.Level else ((Je x22.Column b11_2).getD 0))]
   exact BE ⟨(_,(_,_,_)),h⟩ Ah
  exact z18
 refine z3 h (fun p=>B8 59 [(3,.sl 11 1),(9,.sl 9 1),(41,.d (.int .i64 (IntKind.i64.wrap (v4_1 + 1)))),(42,.d (.int .i64 p.1))] [(9,.row 2 43 (List.map Ag p.2),1),(11,.map (fO .i64 (D.int .i64) b11_1),1)]) Ah fun _ _ ⟨v42_3,b9_3⟩ h=>?_
 simp only [G0] at h
 refine AW h (fun h=>?_) fun h=>?_
 ·conv=>whnf
  refine ⟨⟨by kernel_rfl,NA .i64 (D.int .i64) v42_3 b11_1⟩,?_⟩
  conv=>whnf
  refine RO (f:=(D.int .i64)) (es:=b11_1) (z:=0) ?_
  refine AW h (fun h=>?_) fun h=>?_
  ·conv=>whnf
   refine ⟨⟨by kernel_rfl,NA .i64 (D.int .i64) v42_3 b11_1⟩,?_⟩
   conv=>whnf
   refine RO (f:=(D.int .i64)) (es:=b11_1) (z:=0) ?_
   conv=>whnf
   obtain ⟨hr,h⟩:=Eg h
   refine z4 ?_
   try rw [Dn]
   exact z15
  exact z15
 exact z31
theorem VK (d:Nat) (self_types_needs:(Aa→AD→Option (List Ae))) (ih_types_needs:∀ (p0:Aa) (p1:AD) (R:(List Ae)) ,self_types_needs p0 p1 = some R→Aj Tryz.prog 125 [.d (Ai p0),.d (Bb p1)] (.d (Al 2 Ag R))) (p0:Aa) (p1:AD) (R:(List Ae)) (h:HU d self_types_needs p0 p1 = some R):Aj Tryz.prog 125 [.d (Ai p0),.d (Bb p1)] (.d (Al 2 Ag R)):=by
 refine Ch Tryz.func125 ?_
 unfold HU at h
 conv=>whnf
 refine z11 ?_
 refine A7 h (fun _=>Y5 _ _ _) fun x10 h=>?_
 refine A7 h (fun _=>J1 _ _ _ _) fun x14 h=>?_
 refine A7 h (fun _=>J1 _ _ _ _) fun x18 h=>?_
 refine z3 h (fun p=>B8 36 [(2,.ptr 2 1 0),(5,.sl 19 1),(21,.d (Al 19 B9 p1.Kids)),(22,.d (.int .i64 ((p1.Kids.length:Nat):Int))),(23,.d (.int .i64 p.1))] [(2,.var [.d (Al 2 Ac p0.Lists),.d (Al 7 Ad p0.Columns)],1),(19,.row 1 33 (List.map (Al 2 Ag) p.2),1)]) Aq fun _ _ ⟨v23_1,b19_1⟩ h=>?_
 simp only [LN] at h
 refine AW h (fun h=>?_) fun h=>?_
 ·refine AO (f:=B9) h fun x25 _ h=>?_
  rw [Bp x25]
  conv=>whnf
  obtain ⟨x30,hx30,h⟩:=AB h
  first | refine Au (ih_types_needs _ _ _ hx30) ?_ | (simp only [List.length_map]; refine Au (ih_types_needs _ _ _ hx30) ?_)
  conv=>whnf
  obtain ⟨hr,h⟩:=Eg h
  refine z4 ?_
  try rw [Z2]
  exact z19
 refine A7 h (fun _=>RZ _ _) fun x35 h=>?_
 exact AM h
theorem Px:∀ d:Nat,(∀ (p0:Aa) (p1:AD) (R:(List Ae)) ,IE d p0 p1 = some R→Aj Tryz.prog 125 [.d (Ai p0),.d (Bb p1)] (.d (Al 2 Ag R)))
 | 0=>by
  exact z22
 | d + 1=>by
  have ih:=Px d
  exact VK d _ ih
theorem Wp (d:Nat):∀ (p0:Aa) (p1:AD) (R:(List Ae)) ,IE d p0 p1 = some R→Aj Tryz.prog 125 [.d (Ai p0),.d (Bb p1)] (.d (Al 2 Ag R)):=Px d
theorem Ww (d:Nat) (p0:Aa) (p1:AD) (R:(List Ae)) (h:IK d p0 p1 = some R):Aj Tryz.prog 64 [.d (Ai p0),.d (Bb p1)] (.d (Al 2 Ag R)):=by
 refine Ch Tryz.func64 ?_
 unfold IK at h
 refine A7 h (fun _=>E4 _ _) fun x6 h=>?_
 refine AW h (fun h=>?_) fun h=>?_
 ·exact z16
 refine A7 h (fun _=>Oi _ _ _ _) fun x11 h=>?_
 refine AW h (fun h=>?_) fun h=>?_
 ·exact z46
 refine A7 h (fun _=>Wp _ _ _ _) fun x16 h=>?_
 exact AM h
theorem RX (d:Nat) (self_condition_tell:(Af→(Af→Option Int)→Option Int)) (ih_condition_tell:∀ (p0:Af) (p1:(Af→Option Int)) (f_p1:FuncId) (c_p1:List D) (R:Int) (h_p1:∀ (a0:Af) r,p1 a0 = some r→Aj Tryz.prog f_p1 ([.d (Ax a0)]++c_p1.map .d) (.d (.int .i64 r))),self_condition_tell p0 p1 = some R→Aj Tryz.prog 211 [.d (Ax p0),.d (.fn f_p1 c_p1)] (.d (.int .i64 R))) (p0:Af) (p1:(Af→Option Int)) (f_p1:FuncId) (c_p1:List D) (R:Int) (h_p1:∀ (a0:Af) r,p1 a0 = some r→Aj Tryz.prog f_p1 ([.d (Ax a0)]++c_p1.map .d) (.d (.int .i64 r))) (h:B6 d self_condition_tell p0 p1 = some R):Aj Tryz.prog 211 [.d (Ax p0),.d (.fn f_p1 c_p1)] (.d (.int .i64 R)):=by
 refine Ch Tryz.func211 ?_
 unfold B6 at h
 refine A2 h fun h=>?_
 refine AW h (fun h=>?_) fun h=>?_
 ·conv=>whnf
  refine z11 ?_
  refine AO (f:=Ao) h fun x13 _ h=>?_
  rw [A9 x13]
  conv=>whnf
  obtain ⟨x16,hx16,h⟩:=AB h
  first | refine Au (ih_condition_tell _ _ _ _ _ h_p1 hx16) ?_ | (simp only [List.length_map]; refine Au (ih_condition_tell _ _ _ _ _ h_p1 hx16) ?_)
  refine AO (f:=Ao) h fun x19 _ h=>?_
  rw [A9 x19]
  conv=>whnf
  obtain ⟨x22,hx22,h⟩:=AB h
  first | refine Au (ih_condition_tell _ _ _ _ _ h_p1 hx22) ?_ | (simp only [List.length_map]; refine Au (ih_condition_tell _ _ _ _ _ h_p1 hx22) ?_)
  exact AM h
 refine AW h (fun h=>?_) fun h=>?_
 ·conv=>whnf
  refine z11 ?_
  refine AO (f:=Ao) h fun x28 _ h=>?_
  rw [A9 x28]
  conv=>whnf
  obtain ⟨x31,hx31,h⟩:=AB h
  first | refine Au (ih_condition_tell _ _ _ _ _ h_p1 hx31) ?_ | (simp only [List.length_map]; refine Au (ih_condition_tell _ _ _ _ _ h_p1 hx31) ?_)
  refine AO (f:=Ao) h fun x34 _ h=>?_
  rw [A9 x34]
  conv=>whnf
  obtain ⟨x37,hx37,h⟩:=AB h
  first | refine Au (ih_condition_tell _ _ _ _ _ h_p1 hx37) ?_ | (simp only [List.length_map]; refine Au (ih_condition_tell _ _ _ _ _ h_p1 hx37) ?_)
  exact AM h
 refine AW h (fun h=>?_) fun h=>?_
 ·refine AO (f:=Ao) h fun x43 _ h=>?_
  rw [A9 x43]
  conv=>whnf
  obtain ⟨x46,hx46,h⟩:=AB h
  first | refine Au (ih_condition_tell _ _ _ _ _ h_p1 hx46) ?_ | (simp only [List.length_map]; refine Au (ih_condition_tell _ _ _ _ _ h_p1 hx46) ?_)
  exact AM h
 conv=>whnf
 rw [Kx]
 refine A7 h (fun _=>h_p1 _ _) fun x50 h=>?_
 exact AM h
theorem Mo:∀ d:Nat,(∀ (p0:Af) (p1:(Af→Option Int)) (f_p1:FuncId) (c_p1:List D) (R:Int) (h_p1:∀ (a0:Af) r,p1 a0 = some r→Aj Tryz.prog f_p1 ([.d (Ax a0)]++c_p1.map .d) (.d (.int .i64 r))),Bg d p0 p1 = some R→Aj Tryz.prog 211 [.d (Ax p0),.d (.fn f_p1 c_p1)] (.d (.int .i64 R)))
 | 0=>by
  exact z22
 | d + 1=>by
  have ih:=Mo d
  exact RX d _ ih
theorem SU (d:Nat):∀ (p0:Af) (p1:(Af→Option Int)) (f_p1:FuncId) (c_p1:List D) (R:Int) (h_p1:∀ (a0:Af) r,p1 a0 = some r→Aj Tryz.prog f_p1 ([.d (Ax a0)]++c_p1.map .d) (.d (.int .i64 r))),Bg d p0 p1 = some R→Aj Tryz.prog 211 [.d (Ax p0),.d (.fn f_p1 c_p1)] (.d (.int .i64 R)):=Mo d
theorem Py (p0:Af) (q0:Aa) (q1:(List Int)) (R:Int) (h:Ca p0 q0 q1 = some R):Aj Tryz.prog 212 [.d (Ax p0),.d (.ptr [(Al 2 Ac q0.Lists),(Al 7 Ad q0.Columns)]),.d (.ptr [(Al 1 (D.int .i64) q1)])] (.d (.int .i64 R)):=by
 refine Ch Tryz.func212 ?_
 unfold Ca at h
 conv=>whnf
 refine z11 ?_
 refine AO (f:=(D.int .i64)) h fun x10 _ h=>?_
 refine A7 h (fun _=>N1 _ _ _ _) fun x12 h=>?_
 exact AM h
theorem Sv (d:Nat) (p0:Aa) (p1:Af) (p2:(List Int)) (R:Int) (h:G9 d p0 p1 p2 = some R):Aj Tryz.prog 146 [.d (Ai p0),.d (Ax p1),.d (Al 1 (D.int .i64) p2)] (.d (.int .i64 R)):=by
 refine Ch Tryz.func146 ?_
 unfold G9 at h
 refine A7 h (fun _=>SU _ _ _ _ _ _ (fun a0 _ h=>Py a0 _ _ _ h)) fun x9 h=>?_
 exact AM h
end Go.Proofs.YtejfnieiaecpkaaGreatDoor.P
