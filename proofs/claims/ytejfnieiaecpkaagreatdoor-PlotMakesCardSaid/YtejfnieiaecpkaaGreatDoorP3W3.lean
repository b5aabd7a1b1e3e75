/- Printed by wip/tools/mkw.py: walks: condition_down condition_suffices condition_Needs types_LevelOf schema_Finest schema_blocks schema_Least types_own_c1 types_own questions_Merge types_needs types_Needs plot_usable condition_tell condition_Holds_c1 condition_Holds -/
import Derived.Test.YtejfnieiaecpkaaGreatDoorChecked
import Derived.Test.YtejfnieiaecpkaaGreatDoorP3F
import Derived.Test.YtejfnieiaecpkaaGreatDoorP3A
import Derived.Test.YtejfnieiaecpkaaGreatDoorP3HW
import Derived.Test.YtejfnieiaecpkaaGreatDoorP3W1
import Derived.Test.YtejfnieiaecpkaaGreatDoorP3W2
set_option linter.unusedSimpArgs false
namespace Go.Proofs.YtejfnieiaecpkaaGreatDoor.P
open Go.Abs Go.Proofs
set_option maxRecDepth 100000
set_option maxHeartbeats 4000000
set_option linter.unusedVariables false
theorem JU (p0:Int) (p1:Int) (R:Int) (h:D5 p0 p1 = some R):Ao Tryz.prog 209 [.d (.int .i64 p0),.d (.int .i64 p1)] (.d (.int .i64 R)):=by
 refine BP Tryz.func209 ?_
 unfold D5 at h
 conv=>whnf
 obtain ⟨hr,h⟩:=CS h
 refine ⟨of_decide_eq_true hr,?_⟩
 exact DJ h
theorem Pe (p0:Aa) (p1:Ag) (p2:Int) (R:Bool) (h:Bd p0 p1 p2 = some R):Ao Tryz.prog 144 [.d (Ai p0),.d (Aw p1),.d (.int .i64 p2)] (.d (.bool R)):=by
 refine BP Tryz.func144 ?_
 unfold Bd at h
 refine AF (f:=Ad) h fun x23 _ h=>?_
 refine AH h (fun h=>?_) fun h=>?_
 ·refine AF (f:=Ac) h fun x32 _ h=>?_
  conv=>whnf
  refine ⟨⟨by decide +kernel,by kernel_rfl⟩,?_⟩
  refine A3 h (fun _=>IW _ _) fun x37 h=>?_
  refine A3 h (fun _=>NU _ _ _) fun x39 h=>?_
  obtain ⟨P1,i1,h⟩:=Az h
  refine loop {p:Nat × (Int × (List (Int × Int))) // P1 p.1 p.2 = some R} (fun p=>B5 134 [(2,.d (.int .i64 p2)),(3,.ptr 3 1 0),(4,.ptr 4 1 0),(8,.ptr 8 1 0),(9,.sl 34 1),(39,.d (Aj 1 (D.int .i64) x39)),(40,.d (.int .i64 ((x39.length:Nat):Int))),(41,.d (.int .i64 p.1.2.1))] [(3,.var [.d (Aj 2 Ac p0.Lists),.d (Aj 7 Ad p0.Columns)],1),(4,.var [.d (.int .i64 p1.Op),.d (.int .i64 p1.Column),.d (.int .i64 p1.Code),.d (.int .i64 p1.Low),.d (.int .i64 p1.High),.d (Aj 6 An p1.Kids)],1),(8,.var [.d (.str x32.Name),.d (Aj 2 Bp x32.Codes)],1),(34,.map (cz .i64 (D.int .i64) p.1.2.2),1)]) (fun p=>p.1.1) ⟨(_,(_,_)),h⟩ ?_ fun p=>?_
  ·exact Aq
  obtain ⟨⟨k1,⟨v41_1,b34_1⟩⟩,h⟩:=p
  obtain ⟨k1,rfl,h⟩:=i1 _ _ h
  simp only [G6] at h
  refine BY h fun h=>?_
  refine AF (f:=(D.int .i64)) h fun x43 _ h=>?_
  conv=>whnf
  refine ⟨⟨by decide +kernel,by kernel_rfl⟩,?_⟩
  refine A3 h (fun _=>LL _ _ _ _) fun x48 h=>?_
  refine A3 h (fun _=>Nb _ _ _ _) fun x52 h=>?_
  conv=>whnf
  refine ⟨⟨by kernel_rfl,Nx .i64 (D.int .i64) x48 b34_1⟩,?_⟩
  conv=>whnf
  refine Rd (f:=(D.int .i64)) (es:=b34_1) (z:=0) ?_
  refine A2 h fun h=>?_
  conv=>whnf
  refine ⟨⟨by rfl,by kernel_rfl,Nx .i64 (D.int .i64) x48 b34_1⟩,?_⟩
  conv=>whnf
  try rw [Xm .i64 (D.int .i64) x48 x52]
  exact B1 ⟨(_,(_,_)),h⟩ Aq
 refine A2 h fun h=>?_
 refine A2 h fun h=>?_
 conv=>whnf
 refine ⟨⟨by decide +kernel,by kernel_rfl⟩,?_⟩
 refine A2 h fun h=>?_
 refine A2 h fun h=>?_
 refine A3 h (fun _=>QS _ _ _) fun x107 h=>?_
 refine AH h (fun h=>?_) fun h=>?_
 ·refine A2 h fun h=>?_
  obtain ⟨x128,hx128,h⟩:=A7 h
  refine AD (JU _ _ _ hx128) ?_
  exact AK h
 refine A3 h (fun _=>JU _ _ _) fun x115 h=>?_
 refine BY h fun h=>?_
 refine A2 h fun h=>?_
 obtain ⟨x128,hx128,h⟩:=A7 h
 refine AD (JU _ _ _ hx128) ?_
 exact AK h
theorem IP (d:Nat) (p0:Aa) (p1:Ag) (R:(List Ae)) (h:CI d p0 p1 = some R):Ao Tryz.prog 81 [.d (Ai p0),.d (Aw p1)] (.d (Aj 2 Af R)):=by
 refine BP Tryz.func81 ?_
 unfold CI at h
 refine A3 h (fun _=>EF _ _ _ _) fun x14 h=>?_
 refine AH h (fun h=>?_) fun h=>?_
 ·conv=>whnf
  obtain rfl:=Option.some.inj h
  refine ⟨.inl ?_⟩
  conv=>whnf
  exact ⟨Pl⟩
 conv=>whnf
 obtain ⟨hr,h⟩:=CS h
 refine ⟨by first | exact SO hr (of_decide_eq_true (by kernel_rfl)) | (simp only [List.length_map]; exact SO hr (of_decide_eq_true (by kernel_rfl))),?_⟩
 try rw [dy]
 refine A3 h (fun _=>R5 _ _ _) fun x21 h=>?_
 obtain ⟨P1,i1,h⟩:=Az h
 refine loop {p:Nat × (Int × (List Int)) // P1 p.1 p.2 = some R} (fun p=>B5 63 [(2,.ptr 2 1 0),(5,.sl 19 1),(21,.d (Aj 6 An x21)),(22,.d (.int .i64 ((x21.length:Nat):Int))),(23,.d (.int .i64 p.1.2.1))] [(2,.var [.d (Aj 2 Ac p0.Lists),.d (Aj 7 Ad p0.Columns)],1),(19,.row 1 3 (List.map (D.int .i64) p.1.2.2),1)]) (fun p=>p.1.1) ⟨(_,(_,_)),h⟩ ?_ fun p=>?_
 ·exact Aq
 obtain ⟨⟨k1,⟨v23_1,b19_1⟩⟩,h⟩:=p
 obtain ⟨k1,rfl,h⟩:=i1 _ _ h
 simp only [Gg] at h
 refine AH h (fun h=>?_) fun h=>?_
 ·refine AF (f:=An) h fun x25 _ h=>?_
  rw [A8 x25]
  obtain ⟨P2,i2,h⟩:=Az h
  refine loop {p:Nat × Int // P2 p.1 p.2 = some R} (fun p=>B5 63 [(2,.ptr 2 1 0),(5,.sl 19 1),(7,.ptr 7 1 0),(8,.d (.int .i64 p.1.2)),(21,.d (Aj 6 An x21)),(22,.d (.int .i64 ((x21.length:Nat):Int))),(23,.d (.int .i64 v23_1))] [(2,.var [.d (Aj 2 Ac p0.Lists),.d (Aj 7 Ad p0.Columns)],1),(7,.var [.d (.int .i64 x25.Op),.d (.int .i64 x25.Column),.d (.int .i64 x25.Code),.d (.int .i64 x25.Low),.d (.int .i64 x25.High),.d (Aj 6 An x25.Kids)],1),(19,.row 1 3 (List.map (D.int .i64) b19_1),1)]) (fun p=>p.1.1) ⟨(_,_),h⟩ ?_ fun p=>?_
  ·exact Aq
  obtain ⟨⟨k2,v8_2⟩,h⟩:=p
  obtain ⟨k2,rfl,h⟩:=i2 _ _ h
  simp only [Ih] at h
  refine A3 h (fun _=>Pe _ _ _ _) fun x30 h=>?_
  refine AH h (fun h=>?_) fun h=>?_
  ·conv=>whnf
   exact B1 ⟨(_,_),h⟩ Aq
  conv=>whnf
  try simp only [Eg] at h
  refine ⟨⟨by decide +kernel,by kernel_rfl⟩,?_⟩
  refine JP (f:=(D.int .i64)) h BU fun x40 hx40 h=>?_
  refine Sc (f:=(D.int .i64)) hx40 BU ?_
  refine JP (f:=(D.int .i64)) h BU fun x44 hx44 h=>?_
  refine Sc (f:=(D.int .i64)) hx44 BU ?_
  conv=>whnf
  try rw [bD]
  exact B1 ⟨(_,(_,_)),h⟩ Aq
 conv=>whnf
 try simp only [Eg] at h
 obtain ⟨P3,i3,h⟩:=Az h
 refine loop {p:Nat × (Int × (List Ae)) // P3 p.1 p.2 = some R} (fun p=>B5 63 [(9,.sl 9 1),(46,.sl 19 1),(47,.d (.int .i64 ((b19_1.length:Nat):Int))),(48,.d (.int .i64 p.1.2.1))] [(9,.row 2 43 (List.map Af p.1.2.2),1),(19,.row 1 3 (List.map (D.int .i64) b19_1),1)]) (fun p=>p.1.1) ⟨(_,(_,_)),h⟩ ?_ fun p=>?_
 ·exact Aq
 obtain ⟨⟨k3,⟨v48_3,b9_3⟩⟩,h⟩:=p
 obtain ⟨k3,rfl,h⟩:=i3 _ _ h
 simp only [Gb] at h
 refine AH h (fun h=>?_) fun h=>?_
 ·refine JP (f:=(D.int .i64)) h BU fun x51 hx51 h=>?_
  refine Sc (f:=(D.int .i64)) hx51 BU ?_
  refine AH h (fun h=>?_) fun h=>?_
  ·conv=>whnf
   obtain ⟨hr,h⟩:=CS h
   refine ⟨by (simp only [List.length_map]; exact AE hr (of_decide_eq_true (by kernel_rfl)) (.inr (by kernel_rfl))),?_⟩
   try rw [CZ]
   conv=>whnf
   exact B1 ⟨(_,(_,_)),h⟩ Aq
  conv=>whnf
  exact B1 ⟨(_,(_,_)),h⟩ Aq
 conv=>whnf
 try simp only [Eg] at h
 obtain rfl:=Option.some.inj h
 refine ⟨.inl ?_⟩
 conv=>whnf
 exact ⟨Pl⟩
theorem Om (p0:Aa) (p1:Int) (p2:Int) (R:Int) (h:G0 p0 p1 p2 = some R):Ao Tryz.prog 41 [.d (Ai p0),.d (.int .i64 p1),.d (.int .i64 p2)] (.d (.int .i64 R)):=by
 refine BP Tryz.func41 ?_
 unfold G0 at h
 refine AF (f:=Ad) h fun x13 _ h=>?_
 obtain ⟨P1,i1,h⟩:=Az h
 refine loop {p:Nat × Int // P1 p.1 p.2 = some R} (fun p=>B5 31 [(2,.d (.int .i64 p2)),(7,.d (Aj 1 (D.int .i64) x13.Widths)),(16,.d (Aj 1 (D.int .i64) x13.Widths)),(17,.d (.int .i64 ((x13.Widths.length:Nat):Int))),(18,.d (.int .i64 p.1.2))] []) (fun p=>p.1.1) ⟨(_,_),h⟩ ?_ fun p=>?_
 ·exact Ah
 obtain ⟨⟨k1,v18_1⟩,h⟩:=p
 obtain ⟨k1,rfl,h⟩:=i1 _ _ h
 simp only [JW] at h
 refine Ba h fun h=>?_
 refine AF (f:=(D.int .i64)) h fun x21 _ h=>?_
 refine Ak h fun h=>?_
 conv=>whnf
 exact B1 ⟨(_,_),h⟩ Ah
theorem HS (p0:Aa) (p1:Int) (R:Int) (h:DO p0 p1 = some R):Ao Tryz.prog 111 [.d (Ai p0),.d (.int .i64 p1)] (.d (.int .i64 R)):=by
 refine BP Tryz.func111 ?_
 unfold DO at h
 refine A3 h (fun _=>Eb _ _) fun x6 h=>?_
 refine Ak h fun h=>?_
 refine A3 h (fun _=>KP _ _ _) fun x10 h=>?_
 exact A0 h
theorem Oe (p0:Aa) (p1:Int) (p2:Int) (R:Int) (h:ET p0 p1 p2 = some R):Ao Tryz.prog 287 [.d (Ai p0),.d (.int .i64 p1),.d (.int .i64 p2)] (.d (.int .i64 R)):=by
 refine BP Tryz.func287 ?_
 unfold ET at h
 refine AF (f:=Ad) h fun x13 _ h=>?_
 refine AH h (fun h=>?_) fun h=>?_
 ·refine AF (f:=Ac) h fun x22 _ h=>?_
  refine A3 h (fun _=>NU _ _ _) fun x25 h=>?_
  exact A0 h
 refine Ak h fun h=>?_
 refine A3 h (fun _=>L4 _ _ _) fun x31 h=>?_
 conv=>whnf
 refine ⟨⟨by decide +kernel,by kernel_rfl⟩,?_⟩
 refine A3 h (fun _=>G3 _ _ _) fun x35 h=>?_
 refine A3 h (fun _=>G3 _ _ _) fun x39 h=>?_
 conv=>whnf
 obtain ⟨hr,h⟩:=CS h
 refine ⟨of_decide_eq_true hr,?_⟩
 exact DJ h
theorem LC (p0:Aa) (p1:Int) (p2:Int) (R:Int) (h:Dx p0 p1 p2 = some R):Ao Tryz.prog 253 [.d (Ai p0),.d (.int .i64 p1),.d (.int .i64 p2)] (.d (.int .i64 R)):=by
 refine BP Tryz.func253 ?_
 unfold Dx at h
 refine A3 h (fun _=>HS _ _ _) fun x10 h=>?_
 refine Ak h fun h=>?_
 obtain ⟨P1,i1,h⟩:=Az h
 refine loop {p:Nat × Int // P1 p.1 p.2 = some R} (fun p=>B5 35 [(1,.d (.int .i64 p1)),(2,.d (.int .i64 p.1.2)),(3,.ptr 3 1 0)] [(3,.var [.d (Aj 2 Ac p0.Lists),.d (Aj 7 Ad p0.Columns)],1)]) (fun p=>p.1.1) ⟨(_,_),h⟩ ?_ fun p=>?_
 ·exact Ah
 obtain ⟨⟨k1,v2_1⟩,h⟩:=p
 obtain ⟨k1,rfl,h⟩:=i1 _ _ h
 simp only [HW] at h
 conv=>whnf
 refine ⟨⟨by decide +kernel,by kernel_rfl⟩,?_⟩
 refine Ba h fun h=>?_
 refine A3 h (fun _=>Oe _ _ _ _) fun x25 h=>?_
 refine A3 h (fun _=>Oe _ _ _ _) fun x29 h=>?_
 refine Ba h fun h=>?_
 conv=>whnf
 exact B1 ⟨(_,_),h⟩ Ah
theorem Em (p0:Int) (q0:(List Ae)) (q1:Aa) (R:(List Ae)) (h:D0 p0 q0 q1 = some R):XK Tryz.prog 252 [.d (.int .i64 p0),.any,.d (.ptr [(Aj 2 Ac q1.Lists),(Aj 7 Ad q1.Columns)])] 1 2 43 (List.map Af q0) (List.map Af R):=by
 refine eX [] 0 Tryz.func252 (by kernel_rfl) rfl rfl (by simp) (by decide) rfl ?_
 unfold D0 at h
 conv=>whnf
 refine ⟨⟨by decide +kernel,by kernel_rfl⟩,?_⟩
 refine A3 h (fun _=>HS _ _ _) fun x10 h=>?_
 refine A3 h (fun _=>LC _ _ _ _) fun x11 h=>?_
 conv=>whnf
 obtain ⟨hr,h⟩:=CS h
 refine ⟨by (simp only [List.length_map]; exact AE hr (of_decide_eq_true (by kernel_rfl)) (.inr (by kernel_rfl))),?_⟩
 try rw [CZ]
 conv=>whnf
 obtain rfl:=Option.some.inj h
 exact ⟨rfl,rfl,rfl,rfl,by first | rfl | (simp only [List.length_map]; rfl)⟩
theorem Xv (p0:Aa) (p1:AA) (R:(List Ae)) (h:I9 p0 p1 = some R):Ao Tryz.prog 193 [.d (Ai p0),.d (AX p1)] (.d (Aj 2 Af R)):=by
 refine CO [8,19] Tryz.func193 (by kernel_rfl) ?_
 unfold I9 at h
 conv=>whnf
 refine ⟨.inr ?_⟩
 refine Er {p:(List Ae) // Jt p1 p0 p = some R} (fun p=>B5 78 [(2,.ptr 2 1 0),(3,.ptr 3 1 0),(5,.ptr 5 1 0),(6,.cc (some 252) [.sl 5 1,.d (.ptr [(Aj 2 Ac p0.Lists),(Aj 7 Ad p0.Columns)])])] [(2,.fvar [(Aj 2 Ac p0.Lists),(Aj 7 Ad p0.Columns)],1),(3,.var [.d (.int .i64 p1.Op),.d (.int .i64 p1.Num),.d (.str p1.Name),.d (.int .i64 p1.Column),.d (Aj 1 (D.int .i64) p1.Columns),.d (Aj 2 Af p1.Dims),.d (.int .i64 p1.Cond.Op),.d (.int .i64 p1.Cond.Column),.d (.int .i64 p1.Cond.Code),.d (.int .i64 p1.Cond.Low),.d (.int .i64 p1.Cond.High),.d (Aj 6 An p1.Cond.Kids),.d (.int .i64 p1.Event.Op),.d (.int .i64 p1.Event.Column),.d (.int .i64 p1.Event.Code),.d (.int .i64 p1.Event.Low),.d (.int .i64 p1.Event.High),.d (Aj 6 An p1.Event.Kids),.d (Aj 19 B6 p1.Kids)],1),(5,.var [.sl 30 1],1),(30,.row 2 43 (List.map Af p.1),1)]) ?_ fun p=>?_
 ·conv=>whnf
  obtain ⟨P1,i1,h⟩:=Az h
  refine bc [(5,0,30,43)] {p:Nat × (Int × (List Ae)) // P1 p.1 p.2 = some R} (fun p=>B5 78 [(2,.ptr 2 1 0),(3,.ptr 3 1 0),(5,.ptr 5 1 0),(6,.cc (some 252) [.sl 5 1,.d (.ptr [(Aj 2 Ac p0.Lists),(Aj 7 Ad p0.Columns)])]),(13,.d (Aj 2 Af p1.Dims)),(14,.d (.int .i64 ((p1.Dims.length:Nat):Int))),(15,.d (.int .i64 p.1.2.1))] [(2,.fvar [(Aj 2 Ac p0.Lists),(Aj 7 Ad p0.Columns)],1),(3,.var [.d (.int .i64 p1.Op),.d (.int .i64 p1.Num),.d (.str p1.Name),.d (.int .i64 p1.Column),.d (Aj 1 (D.int .i64) p1.Columns),.d (Aj 2 Af p1.Dims),.d (.int .i64 p1.Cond.Op),.d (.int .i64 p1.Cond.Column),.d (.int .i64 p1.Cond.Code),.d (.int .i64 p1.Cond.Low),.d (.int .i64 p1.Cond.High),.d (Aj 6 An p1.Cond.Kids),.d (.int .i64 p1.Event.Op),.d (.int .i64 p1.Event.Column),.d (.int .i64 p1.Event.Code),.d (.int .i64 p1.Event.Low),.d (.int .i64 p1.Event.High),.d (Aj 6 An p1.Event.Kids),.d (Aj 19 B6 p1.Kids)],1),(5,.var [.sl 30 1],1),(30,.row 2 43 (List.map Af p.1.2.2),1)]) (fun p=>p.1.1) ⟨(_,(_,_)),h⟩ ?_ fun p=>?_
  ·conv=>whnf
   exact fP
  obtain ⟨⟨k1,⟨v15_1,b30_1⟩⟩,h⟩:=p
  obtain ⟨k1,rfl,h⟩:=i1 _ _ h
  simp only [KU] at h
  refine AH h (fun h=>?_) fun h=>?_
  ·refine AF (f:=Af) h fun x17 _ h=>?_
   conv=>whnf
   refine ⟨⟨by decide +kernel,by kernel_rfl⟩,?_⟩
   refine A3 h (fun _=>LC _ _ _ _) fun x27 h=>?_
   conv=>whnf
   obtain ⟨hr,h⟩:=CS h
   refine ⟨by (simp only [List.length_map]; exact AE hr (of_decide_eq_true (by kernel_rfl)) (.inr (by kernel_rfl))),?_⟩
   try rw [CZ]
   conv=>whnf
   exact B1 ⟨(_,(_,_)),h⟩ Aq
  conv=>whnf
  exact ⟨⟨_,h⟩,Aq⟩
 obtain ⟨k30_1,h⟩:=p
 simp only [Jt] at h
 refine Er {p:(List Ae) // BA p1 p0 p = some R} (fun p=>B5 78 [(3,.ptr 3 1 0),(5,.ptr 5 1 0),(6,.cc (some 252) [.sl 5 1,.d (.ptr [(Aj 2 Ac p0.Lists),(Aj 7 Ad p0.Columns)])])] [(3,.var [.d (.int .i64 p1.Op),.d (.int .i64 p1.Num),.d (.str p1.Name),.d (.int .i64 p1.Column),.d (Aj 1 (D.int .i64) p1.Columns),.d (Aj 2 Af p1.Dims),.d (.int .i64 p1.Cond.Op),.d (.int .i64 p1.Cond.Column),.d (.int .i64 p1.Cond.Code),.d (.int .i64 p1.Cond.Low),.d (.int .i64 p1.Cond.High),.d (Aj 6 An p1.Cond.Kids),.d (.int .i64 p1.Event.Op),.d (.int .i64 p1.Event.Column),.d (.int .i64 p1.Event.Code),.d (.int .i64 p1.Event.Low),.d (.int .i64 p1.Event.High),.d (Aj 6 An p1.Event.Kids),.d (Aj 19 B6 p1.Kids)],1),(5,.var [.sl 30 1],1),(30,.row 2 43 (List.map Af p.1),1)]) ?_ fun p=>?_
 ·conv=>whnf
  refine KI h BU (fun e21 h=>?_) (fun e21 h=>?_)
  ·conv=>whnf
   refine Ld BU e21 ?_
   refine AH h (fun h=>?_) fun h=>?_
   ·conv=>whnf
    obtain ⟨x47,hx47,h⟩:=A7 h
    refine Uu (Em _ _ _ _ hx47) ?_
    conv=>whnf
    exact ⟨⟨_,h⟩,Aq⟩
   conv=>whnf
   exact ⟨⟨_,h⟩,Aq⟩
  conv=>whnf
  refine KI h BU (fun e23 h=>?_) (fun e23 h=>?_)
  ·conv=>whnf
   refine Ld BU e23 ?_
   refine AH h (fun h=>?_) fun h=>?_
   ·conv=>whnf
    obtain ⟨x47,hx47,h⟩:=A7 h
    refine Uu (Em _ _ _ _ hx47) ?_
    conv=>whnf
    exact ⟨⟨_,h⟩,Aq⟩
   conv=>whnf
   exact ⟨⟨_,h⟩,Aq⟩
  conv=>whnf
  refine KI h BU (fun e25 h=>?_) (fun e25 h=>?_)
  ·conv=>whnf
   refine Ld BU e25 ?_
   refine AH h (fun h=>?_) fun h=>?_
   ·conv=>whnf
    obtain ⟨x47,hx47,h⟩:=A7 h
    refine Uu (Em _ _ _ _ hx47) ?_
    conv=>whnf
    exact ⟨⟨_,h⟩,Aq⟩
   conv=>whnf
   exact ⟨⟨_,h⟩,Aq⟩
  conv=>whnf
  refine KI h BU (fun e27 h=>?_) (fun e27 h=>?_)
  ·conv=>whnf
   refine Ld BU e27 ?_
   refine AH h (fun h=>?_) fun h=>?_
   ·conv=>whnf
    obtain ⟨x47,hx47,h⟩:=A7 h
    refine Uu (Em _ _ _ _ hx47) ?_
    conv=>whnf
    exact ⟨⟨_,h⟩,Aq⟩
   conv=>whnf
   exact ⟨⟨_,h⟩,Aq⟩
  conv=>whnf
  refine KI h BU (fun e29 h=>?_) (fun e29 h=>?_)
  ·conv=>whnf
   refine Ld BU e29 ?_
   refine AH h (fun h=>?_) fun h=>?_
   ·conv=>whnf
    obtain ⟨x47,hx47,h⟩:=A7 h
    refine Uu (Em _ _ _ _ hx47) ?_
    conv=>whnf
    exact ⟨⟨_,h⟩,Aq⟩
   conv=>whnf
   exact ⟨⟨_,h⟩,Aq⟩
  refine AH h (fun h=>?_) fun h=>?_
  ·refine AH h (fun h=>?_) fun h=>?_
   ·conv=>whnf
    obtain ⟨x47,hx47,h⟩:=A7 h
    refine Uu (Em _ _ _ _ hx47) ?_
    conv=>whnf
    exact ⟨⟨_,h⟩,Aq⟩
   conv=>whnf
   exact ⟨⟨_,h⟩,Aq⟩
  refine AH h (fun h=>?_) fun h=>?_
  ·conv=>whnf
   refine ⟨⟨by decide +kernel,by kernel_rfl⟩,?_⟩
   refine A3 h (fun _=>Om _ _ _ _) fun x61 h=>?_
   refine A3 h (fun _=>LC _ _ _ _) fun x62 h=>?_
   conv=>whnf
   obtain ⟨hr,h⟩:=CS h
   refine ⟨by (simp only [List.length_map]; exact AE hr (of_decide_eq_true (by kernel_rfl)) (.inr (by kernel_rfl))),?_⟩
   try rw [CZ]
   conv=>whnf
   exact ⟨⟨_,h⟩,Aq⟩
  conv=>whnf
  exact ⟨⟨_,h⟩,Aq⟩
 obtain ⟨k30_2,h⟩:=p
 simp only [BA] at h
 obtain ⟨P2,i2,h⟩:=Az h
 refine loop {p:Nat × (Int × (List Ae)) // P2 p.1 p.2 = some R} (fun p=>B5 78 [(5,.ptr 5 1 0),(6,.cc (some 252) [.sl 5 1,.d (.ptr [(Aj 2 Ac p0.Lists),(Aj 7 Ad p0.Columns)])]),(67,.d (Aj 1 (D.int .i64) p1.Columns)),(68,.d (.int .i64 ((p1.Columns.length:Nat):Int))),(69,.d (.int .i64 p.1.2.1))] [(5,.var [.sl 30 1],1),(30,.row 2 43 (List.map Af p.1.2.2),1)]) (fun p=>p.1.1) ⟨(_,(_,_)),h⟩ ?_ fun p=>?_
 ·exact Aq
 obtain ⟨⟨k2,⟨v69_2,b30_2⟩⟩,h⟩:=p
 obtain ⟨k2,rfl,h⟩:=i2 _ _ h
 simp only [KX] at h
 refine AH h (fun h=>?_) fun h=>?_
 ·refine AF (f:=(D.int .i64)) h fun x71 _ h=>?_
  conv=>whnf
  obtain ⟨x75,hx75,h⟩:=A7 h
  refine Uu (Em _ _ _ _ hx75) ?_
  conv=>whnf
  exact B1 ⟨(_,(_,_)),h⟩ Aq
 conv=>whnf
 obtain rfl:=Option.some.inj h
 refine ⟨.inl ?_⟩
 conv=>whnf
 exact ⟨Pl⟩
theorem R0 (p0:(List (List Ae))) (R:(List Ae)) (h:Gs p0 = some R):Ao Tryz.prog 194 [.d (Aj 1 (Aj 2 Af) p0)] (.d (Aj 2 Af R)):=by
 refine BP Tryz.func194 ?_
 unfold Gs at h
 obtain ⟨P1,i1,h⟩:=Az h
 refine loop {p:Nat × (Int × Int × (List (Int × Int))) // P1 p.1 p.2 = some R} (fun p=>B5 59 [(3,.sl 11 1),(4,.d (.int .i64 p.1.2.1)),(12,.d (Aj 1 (Aj 2 Af) p0)),(13,.d (.int .i64 ((p0.length:Nat):Int))),(14,.d (.int .i64 p.1.2.2.1))] [(11,.map (cz .i64 (D.int .i64) p.1.2.2.2),1)]) (fun p=>p.1.1) ⟨(_,(_,_,_)),h⟩ ?_ fun p=>?_
 ·exact Ah
 obtain ⟨⟨k1,⟨v4_1,v14_1,b11_1⟩⟩,h⟩:=p
 obtain ⟨k1,rfl,h⟩:=i1 _ _ h
 simp only [FV] at h
 refine AH h (fun h=>?_) fun h=>?_
 ·refine AF (f:=(Aj 2 Af)) h fun x16 _ h=>?_
  obtain ⟨P2,i2,h⟩:=Az h
  refine loop {p:Nat × (Int × Int × (List (Int × Int))) // P2 p.1 p.2 = some R} (fun p=>B5 59 [(3,.sl 11 1),(4,.d (.int .i64 p.1.2.1)),(12,.d (Aj 1 (Aj 2 Af) p0)),(13,.d (.int .i64 ((p0.length:Nat):Int))),(14,.d (.int .i64 v14_1)),(18,.d (Aj 2 Af x16)),(19,.d (.int .i64 ((x16.length:Nat):Int))),(20,.d (.int .i64 p.1.2.2.1))] [(11,.map (cz .i64 (D.int .i64) p.1.2.2.2),1)]) (fun p=>p.1.1) ⟨(_,(_,_,_)),h⟩ ?_ fun p=>?_
  ·exact Ah
  obtain ⟨⟨k2,⟨v4_2,v20_2,b11_2⟩⟩,h⟩:=p
  obtain ⟨k2,rfl,h⟩:=i2 _ _ h
  simp only [FY] at h
  refine AH h (fun h=>?_) fun h=>?_
  ·refine AF (f:=Af) h fun x22 _ h=>?_
   conv=>whnf
   refine ⟨⟨by decide +kernel,by kernel_rfl⟩,?_⟩
   conv=>whnf
   refine ⟨⟨by kernel_rfl,Nx .i64 (D.int .i64) x22.Column b11_2⟩,?_⟩
   conv=>whnf
   refine Rd (f:=(D.int .i64)) (es:=b11_2) (z:=0) ?_
   conv=>whnf
   refine ⟨⟨by rfl,by kernel_rfl,Nx .i64 (D.int .i64) x22.Column b11_2⟩,?_⟩
   conv=>whnf
   try rw [Xm .i64 (D.int .i64) x22.Column (if x22.Level > ((IS x22.Column b11_2).getD 0) then x22.Level else ((IS x22.Column b11_2).getD 0))]
   exact B1 ⟨(_,(_,_,_)),h⟩ Ah
  conv=>whnf
  exact B1 ⟨(_,(_,_,_)),h⟩ Ah
 obtain ⟨P3,i3,h⟩:=Az h
 refine loop {p:Nat × (Int × (List Ae)) // P3 p.1 p.2 = some R} (fun p=>B5 59 [(3,.sl 11 1),(9,.sl 9 1),(41,.d (.int .i64 (IntKind.i64.wrap (v4_1 + 1)))),(42,.d (.int .i64 p.1.2.1))] [(9,.row 2 43 (List.map Af p.1.2.2),1),(11,.map (cz .i64 (D.int .i64) b11_1),1)]) (fun p=>p.1.1) ⟨(_,(_,_)),h⟩ ?_ fun p=>?_
 ·exact Ah
 obtain ⟨⟨k3,⟨v42_3,b9_3⟩⟩,h⟩:=p
 obtain ⟨k3,rfl,h⟩:=i3 _ _ h
 simp only [FF] at h
 refine AH h (fun h=>?_) fun h=>?_
 ·conv=>whnf
  refine ⟨⟨by kernel_rfl,Nx .i64 (D.int .i64) v42_3 b11_1⟩,?_⟩
  conv=>whnf
  refine Rd (f:=(D.int .i64)) (es:=b11_1) (z:=0) ?_
  refine AH h (fun h=>?_) fun h=>?_
  ·conv=>whnf
   refine ⟨⟨by kernel_rfl,Nx .i64 (D.int .i64) v42_3 b11_1⟩,?_⟩
   conv=>whnf
   refine Rd (f:=(D.int .i64)) (es:=b11_1) (z:=0) ?_
   conv=>whnf
   obtain ⟨hr,h⟩:=CS h
   refine ⟨by (simp only [List.length_map]; exact AE hr (of_decide_eq_true (by kernel_rfl)) (.inr (by kernel_rfl))),?_⟩
   try rw [CZ]
   conv=>whnf
   exact B1 ⟨(_,(_,_)),h⟩ Ah
  conv=>whnf
  exact B1 ⟨(_,(_,_)),h⟩ Ah
 conv=>whnf
 obtain rfl:=Option.some.inj h
 refine ⟨.inl ?_⟩
 conv=>whnf
 exact ⟨HO⟩
theorem U5 (d:Nat) (self_types_needs:(Aa→AA→Option (List Ae))) (ih_types_needs:∀ (p0:Aa) (p1:AA) (R:(List Ae)) ,self_types_needs p0 p1 = some R→Ao Tryz.prog 125 [.d (Ai p0),.d (AX p1)] (.d (Aj 2 Af R))) (p0:Aa) (p1:AA) (R:(List Ae)) (h:H6 d self_types_needs p0 p1 = some R):Ao Tryz.prog 125 [.d (Ai p0),.d (AX p1)] (.d (Aj 2 Af R)):=by
 refine BP Tryz.func125 ?_
 unfold H6 at h
 conv=>whnf
 refine ⟨⟨by decide +kernel,by kernel_rfl⟩,?_⟩
 refine A3 h (fun _=>Xv _ _ _) fun x10 h=>?_
 refine A3 h (fun _=>IP _ _ _ _) fun x14 h=>?_
 refine A3 h (fun _=>IP _ _ _ _) fun x18 h=>?_
 obtain ⟨P1,i1,h⟩:=Az h
 refine loop {p:Nat × (Int × (List (List Ae))) // P1 p.1 p.2 = some R} (fun p=>B5 36 [(2,.ptr 2 1 0),(5,.sl 19 1),(21,.d (Aj 19 B6 p1.Kids)),(22,.d (.int .i64 ((p1.Kids.length:Nat):Int))),(23,.d (.int .i64 p.1.2.1))] [(2,.var [.d (Aj 2 Ac p0.Lists),.d (Aj 7 Ad p0.Columns)],1),(19,.row 1 33 (List.map (Aj 2 Af) p.1.2.2),1)]) (fun p=>p.1.1) ⟨(_,(_,_)),h⟩ ?_ fun p=>?_
 ·exact Aq
 obtain ⟨⟨k1,⟨v23_1,b19_1⟩⟩,h⟩:=p
 obtain ⟨k1,rfl,h⟩:=i1 _ _ h
 simp only [LJ] at h
 refine AH h (fun h=>?_) fun h=>?_
 ·refine AF (f:=B6) h fun x25 _ h=>?_
  rw [Bm x25]
  conv=>whnf
  obtain ⟨x30,hx30,h⟩:=A7 h
  first | refine AD (ih_types_needs _ _ _ hx30) ?_ | (simp only [List.length_map]; refine AD (ih_types_needs _ _ _ hx30) ?_)
  conv=>whnf
  obtain ⟨hr,h⟩:=CS h
  refine ⟨by (simp only [List.length_map]; exact AE hr (of_decide_eq_true (by kernel_rfl)) (.inr (by kernel_rfl))),?_⟩
  try rw [Xn]
  conv=>whnf
  exact B1 ⟨(_,(_,_)),h⟩ Aq
 refine A3 h (fun _=>R0 _ _) fun x35 h=>?_
 exact AK h
theorem O2:∀ d:Nat,(∀ (p0:Aa) (p1:AA) (R:(List Ae)) ,Io d p0 p1 = some R→Ao Tryz.prog 125 [.d (Ai p0),.d (AX p1)] (.d (Aj 2 Af R)))
 | 0=>by
  refine (by intros; rename_i h; cases h)
 | d + 1=>by
  have ih:=O2 d
  exact U5 d _ ih
theorem Vn (d:Nat):∀ (p0:Aa) (p1:AA) (R:(List Ae)) ,Io d p0 p1 = some R→Ao Tryz.prog 125 [.d (Ai p0),.d (AX p1)] (.d (Aj 2 Af R)):=O2 d
theorem Vh (d:Nat) (p0:Aa) (p1:AA) (R:(List Ae)) (h:GY d p0 p1 = some R):Ao Tryz.prog 64 [.d (Ai p0),.d (AX p1)] (.d (Aj 2 Af R)):=by
 refine BP Tryz.func64 ?_
 unfold GY at h
 refine A3 h (fun _=>Eb _ _) fun x6 h=>?_
 refine AH h (fun h=>?_) fun h=>?_
 ·obtain rfl:=Option.some.inj h
  refine ⟨.inl ?_⟩
  conv=>whnf
  exact ⟨Pl⟩
 refine A3 h (fun _=>Oc _ _ _ _) fun x11 h=>?_
 refine AH h (fun h=>?_) fun h=>?_
 ·conv=>whnf
  obtain rfl:=Option.some.inj h
  refine ⟨.inl ?_⟩
  conv=>whnf
  exact ⟨Pl⟩
 refine A3 h (fun _=>Vn _ _ _ _) fun x16 h=>?_
 exact AK h
theorem Qq (d:Nat) (p0:Aa) (p1:Au) (p2:AA) (R:Int) (h:Cc d p0 p1 p2 = some R):Ao Tryz.prog 38 [.d (Ai p0),.d (Bh p1),.d (AX p2)] (.d (.int .i64 R)):=by
 refine BP Tryz.func38 ?_
 unfold Cc at h
 refine A3 h (fun _=>Oi _ _ _) fun x10 h=>?_
 refine A2 h fun h=>?_
 refine A3 h (fun _=>Oc _ _ _ _) fun x17 h=>?_
 refine A2 h fun h=>?_
 conv=>whnf
 refine ⟨⟨by decide +kernel,by kernel_rfl⟩,?_⟩
 refine A3 h (fun _=>Vh _ _ _ _) fun x24 h=>?_
 refine A3 h (fun _=>L1 _ _ _) fun x25 h=>?_
 exact Lg h
theorem QM (d:Nat) (self_condition_tell:(Ag→(Ag→Option Int)→Option Int)) (ih_condition_tell:∀ (p0:Ag) (p1:(Ag→Option Int)) (f_p1:FuncId) (c_p1:List D) (R:Int) (h_p1:∀ (a0:Ag) r,p1 a0 = some r→Ao Tryz.prog f_p1 ([.d (Aw a0)]++c_p1.map .d) (.d (.int .i64 r))),self_condition_tell p0 p1 = some R→Ao Tryz.prog 211 [.d (Aw p0),.d (.fn f_p1 c_p1)] (.d (.int .i64 R))) (p0:Ag) (p1:(Ag→Option Int)) (f_p1:FuncId) (c_p1:List D) (R:Int) (h_p1:∀ (a0:Ag) r,p1 a0 = some r→Ao Tryz.prog f_p1 ([.d (Aw a0)]++c_p1.map .d) (.d (.int .i64 r))) (h:B3 d self_condition_tell p0 p1 = some R):Ao Tryz.prog 211 [.d (Aw p0),.d (.fn f_p1 c_p1)] (.d (.int .i64 R)):=by
 refine BP Tryz.func211 ?_
 unfold B3 at h
 refine A2 h fun h=>?_
 refine AH h (fun h=>?_) fun h=>?_
 ·conv=>whnf
  refine ⟨⟨by decide +kernel,by kernel_rfl⟩,?_⟩
  refine AF (f:=An) h fun x13 _ h=>?_
  rw [A8 x13]
  conv=>whnf
  obtain ⟨x16,hx16,h⟩:=A7 h
  first | refine AD (ih_condition_tell _ _ _ _ _ h_p1 hx16) ?_ | (simp only [List.length_map]; refine AD (ih_condition_tell _ _ _ _ _ h_p1 hx16) ?_)
  refine AF (f:=An) h fun x19 _ h=>?_
  rw [A8 x19]
  conv=>whnf
  obtain ⟨x22,hx22,h⟩:=A7 h
  first | refine AD (ih_condition_tell _ _ _ _ _ h_p1 hx22) ?_ | (simp only [List.length_map]; refine AD (ih_condition_tell _ _ _ _ _ h_p1 hx22) ?_)
  exact AK h
 refine AH h (fun h=>?_) fun h=>?_
 ·conv=>whnf
  refine ⟨⟨by decide +kernel,by kernel_rfl⟩,?_⟩
  refine AF (f:=An) h fun x28 _ h=>?_
  rw [A8 x28]
  conv=>whnf
  obtain ⟨x31,hx31,h⟩:=A7 h
  first | refine AD (ih_condition_tell _ _ _ _ _ h_p1 hx31) ?_ | (simp only [List.length_map]; refine AD (ih_condition_tell _ _ _ _ _ h_p1 hx31) ?_)
  refine AF (f:=An) h fun x34 _ h=>?_
  rw [A8 x34]
  conv=>whnf
  obtain ⟨x37,hx37,h⟩:=A7 h
  first | refine AD (ih_condition_tell _ _ _ _ _ h_p1 hx37) ?_ | (simp only [List.length_map]; refine AD (ih_condition_tell _ _ _ _ _ h_p1 hx37) ?_)
  exact AK h
 refine AH h (fun h=>?_) fun h=>?_
 ·refine AF (f:=An) h fun x43 _ h=>?_
  rw [A8 x43]
  conv=>whnf
  obtain ⟨x46,hx46,h⟩:=A7 h
  first | refine AD (ih_condition_tell _ _ _ _ _ h_p1 hx46) ?_ | (simp only [List.length_map]; refine AD (ih_condition_tell _ _ _ _ _ h_p1 hx46) ?_)
  exact AK h
 conv=>whnf
 rw [Kv]
 refine A3 h (fun _=>h_p1 _ _) fun x50 h=>?_
 exact AK h
theorem Ml:∀ d:Nat,(∀ (p0:Ag) (p1:(Ag→Option Int)) (f_p1:FuncId) (c_p1:List D) (R:Int) (h_p1:∀ (a0:Ag) r,p1 a0 = some r→Ao Tryz.prog f_p1 ([.d (Aw a0)]++c_p1.map .d) (.d (.int .i64 r))),Bf d p0 p1 = some R→Ao Tryz.prog 211 [.d (Aw p0),.d (.fn f_p1 c_p1)] (.d (.int .i64 R)))
 | 0=>by
  refine (by intros; rename_i h; cases h)
 | d + 1=>by
  have ih:=Ml d
  exact QM d _ ih
theorem S7 (d:Nat):∀ (p0:Ag) (p1:(Ag→Option Int)) (f_p1:FuncId) (c_p1:List D) (R:Int) (h_p1:∀ (a0:Ag) r,p1 a0 = some r→Ao Tryz.prog f_p1 ([.d (Aw a0)]++c_p1.map .d) (.d (.int .i64 r))),Bf d p0 p1 = some R→Ao Tryz.prog 211 [.d (Aw p0),.d (.fn f_p1 c_p1)] (.d (.int .i64 R)):=Ml d
theorem Pr (p0:Ag) (q0:Aa) (q1:(List Int)) (R:Int) (h:BT p0 q0 q1 = some R):Ao Tryz.prog 212 [.d (Aw p0),.d (.ptr [(Aj 2 Ac q0.Lists),(Aj 7 Ad q0.Columns)]),.d (.ptr [(Aj 1 (D.int .i64) q1)])] (.d (.int .i64 R)):=by
 refine BP Tryz.func212 ?_
 unfold BT at h
 conv=>whnf
 refine ⟨⟨by decide +kernel,by kernel_rfl⟩,?_⟩
 refine AF (f:=(D.int .i64)) h fun x10 _ h=>?_
 refine A3 h (fun _=>Nb _ _ _ _) fun x12 h=>?_
 exact AK h
theorem RE (d:Nat) (p0:Aa) (p1:Ag) (p2:(List Int)) (R:Int) (h:Gn d p0 p1 p2 = some R):Ao Tryz.prog 146 [.d (Ai p0),.d (Aw p1),.d (Aj 1 (D.int .i64) p2)] (.d (.int .i64 R)):=by
 refine BP Tryz.func146 ?_
 unfold Gn at h
 refine A3 h (fun _=>S7 _ _ _ _ _ _ (fun a0 _ h=>Pr a0 _ _ _ h)) fun x9 h=>?_
 exact AK h
end Go.Proofs.YtejfnieiaecpkaaGreatDoor.P
