/- Printed by wip/tools/mkw.py: walks: ref05_decides ref05_Needs ref02_divides ref02_Least ref09_Uses ref09_Needs ref09_Suffice ref10_Check ref05_join ref05_eval ref05_Eval ref11_Check ref11_Draw ref11_In ref13_Owners ref12_right ref12_Round ref12_Key ref13_Build ref21_Same ref01_Ints ref19_Keys -/
import Derived.Test.YtejfnieiaecpkaaGreatDoorChecked
import Derived.Test.YtejfnieiaecpkaaGreatDoorP3F
import Derived.Test.YtejfnieiaecpkaaGreatDoorP3A
import Derived.Test.YtejfnieiaecpkaaGreatDoorP3HW
import Derived.Test.YtejfnieiaecpkaaGreatDoorP3W5
import Derived.Test.YtejfnieiaecpkaaGreatDoorP3W6
set_option linter.unusedSimpArgs false
namespace Go.Proofs.YtejfnieiaecpkaaGreatDoor.P
open Go.Abs Go.Proofs
set_option maxRecDepth 100000
set_option maxHeartbeats 40000000
set_option linter.unusedVariables false
theorem T5 (p0:Aa) (p1:Ag) (p2:Int) (R:Bool) (h:CG p0 p1 p2 = some R):Ao Tryz.prog 160 [.d (Ai p0),.d (Aw p1),.d (.int .i64 p2)] (.d (.bool R)):=by
 refine BP Tryz.func160 ?_
 unfold CG at h
 refine AF (f:=Ad) h fun x18 _ h=>?_
 refine AH h (fun h=>?_) fun h=>?_
 ·refine A3 h (fun _=>Fs _ _ _) fun x26 h=>?_
  obtain ⟨P1,i1,h⟩:=Az h
  refine loop {p:Nat × Int // P1 p.1 p.2 = some R} (fun p=>B5 140 [(2,.d (.int .i64 p2)),(3,.ptr 3 1 0),(4,.ptr 4 1 0),(8,.d (Aj 1 (D.int .i64) x26)),(9,.d (.int .i64 p.1.2))] [(3,.var [.d (Aj 2 Ac p0.Lists),.d (Aj 7 Ad p0.Columns)],1),(4,.var [.d (.int .i64 p1.Op),.d (.int .i64 p1.Column),.d (.int .i64 p1.Code),.d (.int .i64 p1.Low),.d (.int .i64 p1.High),.d (Aj 6 An p1.Kids)],1)]) (fun p=>p.1.1) ⟨(_,_),h⟩ ?_ fun p=>?_
  ·exact Aq
  obtain ⟨⟨k1,v9_1⟩,h⟩:=p
  obtain ⟨k1,rfl,h⟩:=i1 _ _ h
  simp only [JY] at h
  refine AH h (fun h=>?_) fun h=>?_
  ·obtain ⟨P2,i2,h⟩:=Az h
   refine loop {p:Nat × Int // P2 p.1 p.2 = some R} (fun p=>B5 140 [(2,.d (.int .i64 p2)),(3,.ptr 3 1 0),(4,.ptr 4 1 0),(8,.d (Aj 1 (D.int .i64) x26)),(9,.d (.int .i64 v9_1)),(10,.d (.int .i64 p.1.2))] [(3,.var [.d (Aj 2 Ac p0.Lists),.d (Aj 7 Ad p0.Columns)],1),(4,.var [.d (.int .i64 p1.Op),.d (.int .i64 p1.Column),.d (.int .i64 p1.Code),.d (.int .i64 p1.Low),.d (.int .i64 p1.High),.d (Aj 6 An p1.Kids)],1)]) (fun p=>p.1.1) ⟨(_,_),h⟩ ?_ fun p=>?_
   ·exact Aq
   obtain ⟨⟨k2,v10_2⟩,h⟩:=p
   obtain ⟨k2,rfl,h⟩:=i2 _ _ h
   simp only [JD] at h
   refine AH h (fun h=>?_) fun h=>?_
   ·conv=>whnf
    refine ⟨⟨by decide +kernel,by kernel_rfl⟩,?_⟩
    refine AF (f:=(D.int .i64)) h fun x44 _ h=>?_
    refine A3 h (fun _=>BL _ _ _ _ _) fun x46 h=>?_
    refine AF (f:=(D.int .i64)) h fun x53 _ h=>?_
    refine A3 h (fun _=>BL _ _ _ _ _) fun x55 h=>?_
    refine AH h (fun h=>?_) fun h=>?_
    ·refine AF (f:=(D.int .i64)) h fun x62 _ h=>?_
     refine A3 h (fun _=>Lc _ _ _ _) fun x64 h=>?_
     refine AF (f:=(D.int .i64)) h fun x69 _ h=>?_
     refine A3 h (fun _=>Lc _ _ _ _) fun x71 h=>?_
     refine A2 h fun h=>?_
     conv=>whnf
     exact B1 ⟨(_,_),h⟩ Aq
    exact B1 ⟨(_,_),h⟩ Aq
   conv=>whnf
   try simp only [ref05_decides_k1] at h
   exact B1 ⟨(_,_),h⟩ Aq
  conv=>whnf
  try simp only [ref05_decides_k1] at h
  exact AK h
 refine A2 h fun h=>?_
 conv=>whnf
 refine ⟨⟨by decide +kernel,by kernel_rfl⟩,?_⟩
 refine A2 h fun h=>?_
 refine A3 h (fun _=>G1 _ _ _) fun x118 h=>?_
 refine AH h (fun h=>?_) fun h=>?_
 ·refine A2 h fun h=>?_
  obtain ⟨hr,h⟩:=CS h
  refine ⟨of_decide_eq_true hr,?_⟩
  exact AK h
 obtain ⟨hr,h⟩:=CS h
 refine ⟨of_decide_eq_true hr,?_⟩
 refine BY h fun h=>?_
 refine A2 h fun h=>?_
 obtain ⟨hr,h⟩:=CS h
 refine ⟨of_decide_eq_true hr,?_⟩
 exact AK h
theorem Kl (d:Nat) (p0:Aa) (p1:Ag) (R:(List Ae)) (h:CN d p0 p1 = some R):Ao Tryz.prog 96 [.d (Ai p0),.d (Aw p1)] (.d (Aj 2 Af R)):=by
 refine BP Tryz.func96 ?_
 unfold CN at h
 refine A3 h (fun _=>DN _ _ _ _) fun x11 h=>?_
 refine AH h (fun h=>?_) fun h=>?_
 ·conv=>whnf
  obtain rfl:=Option.some.inj h
  refine ⟨.inl ?_⟩
  conv=>whnf
  exact ⟨Pl⟩
 refine A3 h (fun _=>Vx _ _ _) fun x14 h=>?_
 obtain ⟨P1,i1,h⟩:=Az h
 refine loop {p:Nat × ((List Ae) × Int) // P1 p.1 p.2 = some R} (fun p=>B5 40 [(2,.ptr 2 1 0),(5,.d (Aj 2 Af p.1.2.1)),(6,.d (Aj 6 An x14)),(7,.d (.int .i64 p.1.2.2))] [(2,.var [.d (Aj 2 Ac p0.Lists),.d (Aj 7 Ad p0.Columns)],1)]) (fun p=>p.1.1) ⟨(_,(_,_)),h⟩ ?_ fun p=>?_
 ·exact Aq
 obtain ⟨⟨k1,⟨v5_1,v7_1⟩⟩,h⟩:=p
 obtain ⟨k1,rfl,h⟩:=i1 _ _ h
 simp only [Jv] at h
 refine AH h (fun h=>?_) fun h=>?_
 ·obtain ⟨P2,i2,h⟩:=Az h
  refine loop {p:Nat × Int // P2 p.1 p.2 = some R} (fun p=>B5 40 [(2,.ptr 2 1 0),(5,.d (Aj 2 Af v5_1)),(6,.d (Aj 6 An x14)),(7,.d (.int .i64 v7_1)),(8,.d (.int .i64 p.1.2))] [(2,.var [.d (Aj 2 Ac p0.Lists),.d (Aj 7 Ad p0.Columns)],1)]) (fun p=>p.1.1) ⟨(_,_),h⟩ ?_ fun p=>?_
  ·exact Aq
  obtain ⟨⟨k2,v8_2⟩,h⟩:=p
  obtain ⟨k2,rfl,h⟩:=i2 _ _ h
  simp only [L7] at h
  conv=>whnf
  refine ⟨⟨by decide +kernel,by kernel_rfl⟩,?_⟩
  refine AF (f:=An) h fun x24 _ h=>?_
  rw [A8 x24]
  refine A3 h (fun _=>T5 _ _ _ _) fun x27 h=>?_
  refine AH h (fun h=>?_) fun h=>?_
  ·conv=>whnf
   exact B1 ⟨(_,_),h⟩ Aq
  conv=>whnf
  try simp only [IU] at h
  refine AF (f:=An) h fun x34 _ h=>?_
  rw [A8 x34]
  refine A3 h (fun _=>CQ _ _ _ _) fun x38 h=>?_
  conv=>whnf
  exact B1 ⟨(_,(_,_)),h⟩ Aq
 conv=>whnf
 try simp only [IU] at h
 exact AK h
theorem TB (p0:Aa) (p1:Int) (p2:Int) (p3:Int) (R:Bool) (h:Dz p0 p1 p2 p3 = some R):Ao Tryz.prog 232 [.d (Ai p0),.d (.int .i64 p1),.d (.int .i64 p2),.d (.int .i64 p3)] (.d (.bool R)):=by
 refine BP Tryz.func232 ?_
 unfold Dz at h
 refine AF (f:=Ad) h fun x19 _ h=>?_
 refine Ak h fun h=>?_
 refine AH h (fun h=>?_) fun h=>?_
 ·refine A3 h (fun _=>Fs _ _ _) fun x33 h=>?_
  obtain ⟨P1,i1,h⟩:=Az h
  refine loop {p:Nat × Int // P1 p.1 p.2 = some R} (fun p=>B5 121 [(1,.d (.int .i64 p1)),(2,.d (.int .i64 p2)),(3,.d (.int .i64 p3)),(4,.ptr 4 1 0),(10,.d (Aj 1 (D.int .i64) x33)),(11,.d (.int .i64 p.1.2))] [(4,.var [.d (Aj 2 Ac p0.Lists),.d (Aj 7 Ad p0.Columns)],1)]) (fun p=>p.1.1) ⟨(_,_),h⟩ ?_ fun p=>?_
  ·exact Ah
  obtain ⟨⟨k1,v11_1⟩,h⟩:=p
  obtain ⟨k1,rfl,h⟩:=i1 _ _ h
  simp only [Hl] at h
  refine AH h (fun h=>?_) fun h=>?_
  ·obtain ⟨P2,i2,h⟩:=Az h
   refine loop {p:Nat × Int // P2 p.1 p.2 = some R} (fun p=>B5 121 [(1,.d (.int .i64 p1)),(2,.d (.int .i64 p2)),(3,.d (.int .i64 p3)),(4,.ptr 4 1 0),(10,.d (Aj 1 (D.int .i64) x33)),(11,.d (.int .i64 v11_1)),(12,.d (.int .i64 p.1.2))] [(4,.var [.d (Aj 2 Ac p0.Lists),.d (Aj 7 Ad p0.Columns)],1)]) (fun p=>p.1.1) ⟨(_,_),h⟩ ?_ fun p=>?_
   ·exact Ah
   obtain ⟨⟨k2,v12_2⟩,h⟩:=p
   obtain ⟨k2,rfl,h⟩:=i2 _ _ h
   simp only [Hh] at h
   refine AH h (fun h=>?_) fun h=>?_
   ·conv=>whnf
    refine ⟨⟨by decide +kernel,by kernel_rfl⟩,?_⟩
    refine AF (f:=(D.int .i64)) h fun x50 _ h=>?_
    refine A3 h (fun _=>BL _ _ _ _ _) fun x52 h=>?_
    refine AF (f:=(D.int .i64)) h fun x58 _ h=>?_
    refine A3 h (fun _=>BL _ _ _ _ _) fun x60 h=>?_
    refine AH h (fun h=>?_) fun h=>?_
    ·refine AF (f:=(D.int .i64)) h fun x68 _ h=>?_
     refine A3 h (fun _=>BL _ _ _ _ _) fun x70 h=>?_
     refine AF (f:=(D.int .i64)) h fun x76 _ h=>?_
     refine A3 h (fun _=>BL _ _ _ _ _) fun x78 h=>?_
     refine Ak h fun h=>?_
     conv=>whnf
     exact B1 ⟨(_,_),h⟩ Ah
    exact B1 ⟨(_,_),h⟩ Ah
   conv=>whnf
   try simp only [ref02_divides_k1] at h
   exact B1 ⟨(_,_),h⟩ Ah
  conv=>whnf
  try simp only [ref02_divides_k1] at h
  exact A0 h
 refine A3 h (fun _=>G1 _ _ _) fun x83 h=>?_
 refine A3 h (fun _=>Kc _ _ _) fun x87 h=>?_
 refine Ak h fun h=>?_
 obtain ⟨P3,i3,h⟩:=Az h
 refine loop {p:Nat × (Int × Int) // P3 p.1 p.2 = some R} (fun p=>B5 121 [(2,.d (.int .i64 p2)),(9,.ptr 9 1 0),(13,.d (.int .i64 x83)),(14,.d (.int .i64 p.1.2.1)),(15,.d (.int .i64 p.1.2.2))] [(9,.var [.d (.str x19.Name),.d (.int .i64 x19.Kind),.d (.int .i64 x19.List_),.d (.int .i64 x19.Low),.d (.int .i64 x19.High),.d (Aj 1 (D.int .i64) x19.Widths),.d (.bool x19.Optional)],1)]) (fun p=>p.1.1) ⟨(_,(_,_)),h⟩ ?_ fun p=>?_
 ·exact Ah
 obtain ⟨⟨k3,⟨v14_3,v15_3⟩⟩,h⟩:=p
 obtain ⟨k3,rfl,h⟩:=i3 _ _ h
 simp only [JC] at h
 refine AH h (fun h=>?_) fun h=>?_
 ·refine A3 h (fun _=>G1 _ _ _) fun x115 h=>?_
  conv=>whnf
  obtain ⟨hr,h⟩:=CS h
  refine ⟨of_decide_eq_true hr,?_⟩
  refine Ak h fun h=>?_
  conv=>whnf
  exact B1 ⟨(_,(_,_)),h⟩ Ah
 conv=>whnf
 try simp only [ref02_divides_k1] at h
 exact A0 h
theorem HA (p0:Aa) (p1:Int) (p2:Int) (R:Int) (h:Cd p0 p1 p2 = some R):Ao Tryz.prog 168 [.d (Ai p0),.d (.int .i64 p1),.d (.int .i64 p2)] (.d (.int .i64 R)):=by
 refine BP Tryz.func168 ?_
 unfold Cd at h
 refine A3 h (fun _=>BX _ _ _) fun x11 h=>?_
 refine A3 h (fun _=>C1 _ _ _ _) fun x12 h=>?_
 refine Ak h fun h=>?_
 obtain ⟨P1,i1,h⟩:=Az h
 refine loop {p:Nat × Int // P1 p.1 p.2 = some R} (fun p=>B5 23 [(1,.d (.int .i64 p1)),(2,.d (.int .i64 p2)),(3,.ptr 3 1 0),(7,.d (.int .i64 p.1.2))] [(3,.var [.d (Aj 2 Ac p0.Lists),.d (Aj 7 Ad p0.Columns)],1)]) (fun p=>p.1.1) ⟨(_,_),h⟩ ?_ fun p=>?_
 ·exact Ah
 obtain ⟨⟨k1,v7_1⟩,h⟩:=p
 obtain ⟨k1,rfl,h⟩:=i1 _ _ h
 simp only [F0] at h
 refine A3 h (fun _=>TB _ _ _ _ _) fun x18 h=>?_
 refine Ba h fun h=>?_
 conv=>whnf
 exact B1 ⟨(_,_),h⟩ Ah
theorem Wo (p0:AG) (p1:Int) (R:Bool) (h:LB p0 p1 = some R):Ao Tryz.prog 169 [.d (AY p0),.d (.int .i64 p1)] (.d (.bool R)):=by
 refine BP Tryz.func169 ?_
 unfold LB at h
 refine Ak h fun h=>?_
 refine A3 h (fun _=>Mj _ _ _) fun x13 h=>?_
 exact A0 h
theorem Qa (d:Nat) (p0:Aa) (p1:AG) (R:(List Ae)) (h:F7 d p0 p1 = some R):Ao Tryz.prog 102 [.d (Ai p0),.d (AY p1)] (.d (Aj 2 Af R)):=by
 refine CO [10] Tryz.func102 (by kernel_rfl) ?_
 unfold F7 at h
 refine A3 h (fun _=>JN _ _ _ _) fun x12 h=>?_
 refine AH h (fun h=>?_) fun h=>?_
 ·conv=>whnf
  obtain rfl:=Option.some.inj h
  refine ⟨.inl ?_⟩
  conv=>whnf
  exact ⟨HO⟩
 refine A3 h (fun _=>Kl _ _ _ _) fun x17 h=>?_
 refine Er {p:(List Ae) // Ef p1 p0 p = some R} (fun p=>B5 92 [(2,.ptr 2 1 0),(3,.ptr 3 1 0),(5,.d (Aj 2 Af p.1))] [(2,.var [.d (Aj 2 Ac p0.Lists),.d (Aj 7 Ad p0.Columns)],1),(3,.var [.d (.str p1.Name),.d (.int .i64 p1.Kind),.d (.int .i64 p1.Filter.Op),.d (.int .i64 p1.Filter.Column),.d (.int .i64 p1.Filter.Code),.d (.int .i64 p1.Filter.Low),.d (.int .i64 p1.Filter.High),.d (Aj 6 An p1.Filter.Kids),.d (Aj 2 Af p1.Dims),.d (.int .i64 p1.Measure),.d (Aj 1 (D.int .i64) p1.Terms),.d (.int .i64 p1.Event.Op),.d (.int .i64 p1.Event.Column),.d (.int .i64 p1.Event.Code),.d (.int .i64 p1.Event.Low),.d (.int .i64 p1.Event.High),.d (Aj 6 An p1.Event.Kids)],1)]) ?_ fun p=>?_
 ·refine AH h (fun h=>?_) fun h=>?_
  ·refine A3 h (fun _=>Kl _ _ _ _) fun x24 h=>?_
   obtain ⟨P1,i1,h⟩:=Az h
   refine loop {p:Nat × ((List Ae) × Int) // P1 p.1 p.2 = some R} (fun p=>B5 92 [(2,.ptr 2 1 0),(3,.ptr 3 1 0),(5,.d (Aj 2 Af p.1.2.1)),(6,.d (Aj 2 Af x24)),(7,.d (.int .i64 p.1.2.2))] [(2,.var [.d (Aj 2 Ac p0.Lists),.d (Aj 7 Ad p0.Columns)],1),(3,.var [.d (.str p1.Name),.d (.int .i64 p1.Kind),.d (.int .i64 p1.Filter.Op),.d (.int .i64 p1.Filter.Column),.d (.int .i64 p1.Filter.Code),.d (.int .i64 p1.Filter.Low),.d (.int .i64 p1.Filter.High),.d (Aj 6 An p1.Filter.Kids),.d (Aj 2 Af p1.Dims),.d (.int .i64 p1.Measure),.d (Aj 1 (D.int .i64) p1.Terms),.d (.int .i64 p1.Event.Op),.d (.int .i64 p1.Event.Column),.d (.int .i64 p1.Event.Code),.d (.int .i64 p1.Event.Low),.d (.int .i64 p1.Event.High),.d (Aj 6 An p1.Event.Kids)],1)]) (fun p=>p.1.1) ⟨(_,(_,_)),h⟩ ?_ fun p=>?_
   ·exact Ah
   obtain ⟨⟨k1,⟨v5_1,v7_1⟩⟩,h⟩:=p
   obtain ⟨k1,rfl,h⟩:=i1 _ _ h
   simp only [Jj] at h
   refine AH h (fun h=>?_) fun h=>?_
   ·conv=>whnf
    refine ⟨⟨by decide +kernel,by kernel_rfl⟩,?_⟩
    refine AF (f:=Af) h fun x34 _ h=>?_
    refine AF (f:=Af) h fun x39 _ h=>?_
    refine A3 h (fun _=>CQ _ _ _ _) fun x42 h=>?_
    conv=>whnf
    exact B1 ⟨(_,(_,_)),h⟩ Ah
   conv=>whnf
   exact ⟨⟨_,h⟩,Ah⟩
  conv=>whnf
  exact ⟨⟨_,h⟩,Ah⟩
 obtain ⟨j5_1,h⟩:=p
 simp only [Ef] at h
 obtain ⟨P2,i2,h⟩:=Az h
 refine loop {p:Nat × ((List Ae) × Int) // P2 p.1 p.2 = some R} (fun p=>B5 92 [(2,.ptr 2 1 0),(3,.ptr 3 1 0),(5,.d (Aj 2 Af p.1.2.1)),(8,.d (.int .i64 p.1.2.2))] [(2,.var [.d (Aj 2 Ac p0.Lists),.d (Aj 7 Ad p0.Columns)],1),(3,.var [.d (.str p1.Name),.d (.int .i64 p1.Kind),.d (.int .i64 p1.Filter.Op),.d (.int .i64 p1.Filter.Column),.d (.int .i64 p1.Filter.Code),.d (.int .i64 p1.Filter.Low),.d (.int .i64 p1.Filter.High),.d (Aj 6 An p1.Filter.Kids),.d (Aj 2 Af p1.Dims),.d (.int .i64 p1.Measure),.d (Aj 1 (D.int .i64) p1.Terms),.d (.int .i64 p1.Event.Op),.d (.int .i64 p1.Event.Column),.d (.int .i64 p1.Event.Code),.d (.int .i64 p1.Event.Low),.d (.int .i64 p1.Event.High),.d (Aj 6 An p1.Event.Kids)],1)]) (fun p=>p.1.1) ⟨(_,(_,_)),h⟩ ?_ fun p=>?_
 ·exact Ah
 obtain ⟨⟨k2,⟨v5_2,v8_2⟩⟩,h⟩:=p
 obtain ⟨k2,rfl,h⟩:=i2 _ _ h
 simp only [Fz] at h
 refine AH h (fun h=>?_) fun h=>?_
 ·conv=>whnf
  refine ⟨⟨by decide +kernel,by kernel_rfl⟩,?_⟩
  refine AF (f:=Af) h fun x54 _ h=>?_
  refine AF (f:=Af) h fun x61 _ h=>?_
  refine AF (f:=Af) h fun x67 _ h=>?_
  refine A3 h (fun _=>HA _ _ _ _) fun x70 h=>?_
  refine A3 h (fun _=>CQ _ _ _ _) fun x71 h=>?_
  conv=>whnf
  exact B1 ⟨(_,(_,_)),h⟩ Ah
 obtain ⟨P3,i3,h⟩:=Az h
 refine loop {p:Nat × ((List Ae) × Int) // P3 p.1 p.2 = some R} (fun p=>B5 92 [(2,.ptr 2 1 0),(3,.ptr 3 1 0),(5,.d (Aj 2 Af p.1.2.1)),(9,.d (.int .i64 p.1.2.2))] [(2,.var [.d (Aj 2 Ac p0.Lists),.d (Aj 7 Ad p0.Columns)],1),(3,.var [.d (.str p1.Name),.d (.int .i64 p1.Kind),.d (.int .i64 p1.Filter.Op),.d (.int .i64 p1.Filter.Column),.d (.int .i64 p1.Filter.Code),.d (.int .i64 p1.Filter.Low),.d (.int .i64 p1.Filter.High),.d (Aj 6 An p1.Filter.Kids),.d (Aj 2 Af p1.Dims),.d (.int .i64 p1.Measure),.d (Aj 1 (D.int .i64) p1.Terms),.d (.int .i64 p1.Event.Op),.d (.int .i64 p1.Event.Column),.d (.int .i64 p1.Event.Code),.d (.int .i64 p1.Event.Low),.d (.int .i64 p1.Event.High),.d (Aj 6 An p1.Event.Kids)],1)]) (fun p=>p.1.1) ⟨(_,(_,_)),h⟩ ?_ fun p=>?_
 ·exact Ah
 obtain ⟨⟨k3,⟨v5_3,v9_3⟩⟩,h⟩:=p
 obtain ⟨k3,rfl,h⟩:=i3 _ _ h
 simp only [Fp] at h
 refine Ba h fun h=>?_
 refine A3 h (fun _=>Wo _ _ _) fun x81 h=>?_
 refine AH h (fun h=>?_) fun h=>?_
 ·conv=>whnf
  refine ⟨⟨by decide +kernel,by kernel_rfl⟩,?_⟩
  refine A3 h (fun _=>BX _ _ _) fun x88 h=>?_
  refine A3 h (fun _=>HA _ _ _ _) fun x89 h=>?_
  refine A3 h (fun _=>CQ _ _ _ _) fun x90 h=>?_
  conv=>whnf
  exact B1 ⟨(_,(_,_)),h⟩ Ah
 conv=>whnf
 exact B1 ⟨(_,(_,_)),h⟩ Ah
theorem T4 (d:Nat) (p0:Aa) (p1:AG) (p2:(List Ae)) (R:Bool) (h:H7 d p0 p1 p2 = some R):Ao Tryz.prog 133 [.d (Ai p0),.d (AY p1),.d (Aj 2 Af p2)] (.d (.bool R)):=by
 refine BP Tryz.func133 ?_
 unfold H7 at h
 refine A3 h (fun _=>JN _ _ _ _) fun x9 h=>?_
 refine Ba h fun h=>?_
 refine A3 h (fun _=>Kb _ _ _) fun x14 h=>?_
 refine Ba h fun h=>?_
 refine A3 h (fun _=>Qa _ _ _ _) fun x20 h=>?_
 refine A3 h (fun _=>LX _ _ _) fun x22 h=>?_
 exact A0 h
theorem Vi (d:Nat) (p0:Aa) (p1:Ay) (p2:(List Ae)) (R:Int) (h:Ha d p0 p1 p2 = some R):Ao Tryz.prog 71 [.d (Ai p0),.d (De p1),.d (Aj 2 Af p2)] (.d (.int .i64 R)):=by
 refine BP Tryz.func71 ?_
 unfold Ha at h
 refine A3 h (fun _=>M5 _ _ _ _) fun x12 h=>?_
 refine Ak h fun h=>?_
 refine A3 h (fun _=>Kb _ _ _) fun x18 h=>?_
 refine Ak h fun h=>?_
 obtain ⟨P1,i1,h⟩:=Az h
 refine loop {p:Nat × Int // P1 p.1 p.2 = some R} (fun p=>B5 38 [(2,.d (Aj 2 Af p2)),(3,.ptr 3 1 0),(4,.ptr 4 1 0),(9,.d (.int .i64 p.1.2))] [(3,.var [.d (Aj 2 Ac p0.Lists),.d (Aj 7 Ad p0.Columns)],1),(4,.var [.d (.str p1.Project),.d (.str p1.Source),.d (.int .i64 p1.Cohort.Op),.d (.int .i64 p1.Cohort.Column),.d (.int .i64 p1.Cohort.Code),.d (.int .i64 p1.Cohort.Low),.d (.int .i64 p1.Cohort.High),.d (Aj 6 An p1.Cohort.Kids),.d (.int .i64 p1.Sample.Part),.d (.int .i64 p1.Sample.Of),.d (.int .i64 p1.Sample.Seed),.d (Aj 17 AY p1.Questions)],1)]) (fun p=>p.1.1) ⟨(_,_),h⟩ ?_ fun p=>?_
 ·exact Ah
 obtain ⟨⟨k1,v9_1⟩,h⟩:=p
 obtain ⟨k1,rfl,h⟩:=i1 _ _ h
 simp only [Fi] at h
 refine Ba h fun h=>?_
 conv=>whnf
 refine ⟨⟨by decide +kernel,by kernel_rfl⟩,?_⟩
 refine AF (f:=AY) h fun x33 _ h=>?_
 refine A3 h (fun _=>T4 _ _ _ _ _) fun x36 h=>?_
 refine Ak h fun h=>?_
 conv=>whnf
 exact B1 ⟨(_,_),h⟩ Ah
theorem QI (p0:Int) (p1:(List Int)) (R:Int) (h:Gc p0 p1 = some R):Ao Tryz.prog 163 [.d (.int .i64 p0),.d (Aj 1 (D.int .i64) p1)] (.d (.int .i64 R)):=by
 refine BP Tryz.func163 ?_
 unfold Gc at h
 refine AH h (fun h=>?_) fun h=>?_
 ·refine AF (f:=(D.int .i64)) h fun x9 _ h=>?_
  exact A0 h
 refine AH h (fun h=>?_) fun h=>?_
 ·conv=>whnf
  refine ⟨⟨by decide +kernel,by kernel_rfl⟩,?_⟩
  refine AF (f:=(D.int .i64)) h fun x15 _ h=>?_
  refine AF (f:=(D.int .i64)) h fun x18 _ h=>?_
  exact A0 h
 refine Ba h fun h=>?_
 conv=>whnf
 refine ⟨⟨by decide +kernel,by kernel_rfl⟩,?_⟩
 refine AF (f:=(D.int .i64)) h fun x24 _ h=>?_
 refine AF (f:=(D.int .i64)) h fun x27 _ h=>?_
 exact A0 h
theorem Vv (d:Nat) (self_ref05_eval:(Aa→Ag→(List Int)→Option Int)) (ih_ref05_eval:∀ (p0:Aa) (p1:Ag) (p2:(List Int)) (R:Int) ,self_ref05_eval p0 p1 p2 = some R→Ao Tryz.prog 199 [.d (Ai p0),.d (Aw p1),.d (Aj 1 (D.int .i64) p2)] (.d (.int .i64 R))) (p0:Aa) (p1:Ag) (p2:(List Int)) (R:Int) (h:IT d self_ref05_eval p0 p1 p2 = some R):Ao Tryz.prog 199 [.d (Ai p0),.d (Aw p1),.d (Aj 1 (D.int .i64) p2)] (.d (.int .i64 R)):=by
 refine BP Tryz.func199 ?_
 unfold IT at h
 refine AH h (fun h=>?_) fun h=>?_
 ·conv=>whnf
  refine ⟨⟨by decide +kernel,by kernel_rfl⟩,?_⟩
  refine AF (f:=(D.int .i64)) h fun x27 _ h=>?_
  refine A3 h (fun _=>Lc _ _ _ _) fun x29 h=>?_
  exact AK h
 obtain ⟨P1,i1,h⟩:=Az h
 refine loop {p:Nat × (Int × (List Int)) // P1 p.1 p.2 = some R} (fun p=>B5 52 [(2,.d (Aj 1 (D.int .i64) p2)),(3,.ptr 3 1 0),(4,.ptr 4 1 0),(7,.sl 7 1),(8,.d (.int .i64 p.1.2.1))] [(3,.var [.d (Aj 2 Ac p0.Lists),.d (Aj 7 Ad p0.Columns)],1),(4,.var [.d (.int .i64 p1.Op),.d (.int .i64 p1.Column),.d (.int .i64 p1.Code),.d (.int .i64 p1.Low),.d (.int .i64 p1.High),.d (Aj 6 An p1.Kids)],1),(7,.row 1 3 (List.map (D.int .i64) p.1.2.2),1)]) (fun p=>p.1.1) ⟨(_,(_,_)),h⟩ ?_ fun p=>?_
 ·exact Aq
 obtain ⟨⟨k1,⟨v8_1,b7_1⟩⟩,h⟩:=p
 obtain ⟨k1,rfl,h⟩:=i1 _ _ h
 simp only [Ki] at h
 refine AH h (fun h=>?_) fun h=>?_
 ·conv=>whnf
  refine ⟨⟨by decide +kernel,by kernel_rfl⟩,?_⟩
  refine AF (f:=An) h fun x42 _ h=>?_
  rw [A8 x42]
  conv=>whnf
  obtain ⟨x45,hx45,h⟩:=A7 h
  first | refine AD (ih_ref05_eval _ _ _ _ hx45) ?_ | (simp only [List.length_map]; refine AD (ih_ref05_eval _ _ _ _ hx45) ?_)
  conv=>whnf
  obtain ⟨hr,h⟩:=CS h
  refine ⟨by (simp only [List.length_map]; exact AE hr (of_decide_eq_true (by kernel_rfl)) (.inr (by kernel_rfl))),?_⟩
  try rw [G9]
  conv=>whnf
  exact B1 ⟨(_,(_,_)),h⟩ Aq
 refine A3 h (fun _=>QI _ _ _) fun x51 h=>?_
 exact AK h
theorem PQ:∀ d:Nat,(∀ (p0:Aa) (p1:Ag) (p2:(List Int)) (R:Int) ,JV d p0 p1 p2 = some R→Ao Tryz.prog 199 [.d (Ai p0),.d (Aw p1),.d (Aj 1 (D.int .i64) p2)] (.d (.int .i64 R)))
 | 0=>by
  refine (by intros; rename_i h; cases h)
 | d + 1=>by
  have ih:=PQ d
  exact Vv d _ ih
theorem Wp (d:Nat):∀ (p0:Aa) (p1:Ag) (p2:(List Int)) (R:Int) ,JV d p0 p1 p2 = some R→Ao Tryz.prog 199 [.d (Ai p0),.d (Aw p1),.d (Aj 1 (D.int .i64) p2)] (.d (.int .i64 R)):=PQ d
theorem Ws (d:Nat) (p0:Aa) (p1:Ag) (p2:(List Int)) (R:Int) (h:If d p0 p1 p2 = some R):Ao Tryz.prog 134 [.d (Ai p0),.d (Aw p1),.d (Aj 1 (D.int .i64) p2)] (.d (.int .i64 R)):=by
 refine BP Tryz.func134 ?_
 unfold If at h
 refine A3 h (fun _=>DN _ _ _ _) fun x9 h=>?_
 refine A2 h fun h=>?_
 refine A3 h (fun _=>SZ _ _ _) fun x14 h=>?_
 refine A2 h fun h=>?_
 refine A3 h (fun _=>Wp _ _ _ _ _) fun x20 h=>?_
 exact AK h
theorem V7 (p0:Hn) (R:Int) (h:K4 p0 = some R):Ao Tryz.prog 200 [.d (UT p0)] (.d (.int .i64 R)):=by
 refine BP Tryz.func200 ?_
 unfold K4 at h
 exact DJ h
theorem WT (p0:Int) (p1:Int) (R:Int) (h:L3 p0 p1 = some R):Ao Tryz.prog 201 [.d (.int .i64 p0),.d (.int .i64 p1)] (.d (.int .i64 R)):=by
 refine BP Tryz.func201 ?_
 unfold L3 at h
 obtain ⟨P1,i1,h⟩:=Az h
 refine loop {p:Nat × (Int × Int) // P1 p.1 p.2 = some R} (fun p=>B5 29 [(5,.d (.int .u64 p.1.2.1)),(6,.d (.int .i64 p.1.2.2))] []) (fun p=>p.1.1) ⟨(_,(_,_)),h⟩ ?_ fun p=>?_
 ·exact Ah
 obtain ⟨⟨k1,⟨v5_1,v6_1⟩⟩,h⟩:=p
 obtain ⟨k1,rfl,h⟩:=i1 _ _ h
 simp only [Qc] at h
 refine AH h (fun h=>?_) fun h=>?_
 ·conv=>whnf
  refine ⟨by omega,?_⟩
  conv=>whnf
  exact B1 ⟨(_,(_,_)),h⟩ Ah
 conv=>whnf
 refine ⟨by omega,?_⟩
 exact A0 h
theorem YT (p0:Hn) (p1:Int) (R:Bool) (h:LH p0 p1 = some R):Ao Tryz.prog 135 [.d (UT p0),.d (.int .i64 p1)] (.d (.bool R)):=by
 refine BP Tryz.func135 ?_
 unfold LH at h
 conv=>whnf
 refine ⟨⟨by decide +kernel,by kernel_rfl⟩,?_⟩
 refine A3 h (fun _=>V7 _ _) fun x6 h=>?_
 refine Ba h fun h=>?_
 refine A3 h (fun _=>WT _ _ _) fun x20 h=>?_
 conv=>whnf
 obtain ⟨hr,h⟩:=CS h
 refine ⟨of_decide_eq_true hr,?_⟩
 exact A0 h
theorem TU (d:Nat) (p0:B2) (p1:Ay) (R:(List Int)) (h:Gd d p0 p1 = some R):Ao Tryz.prog 72 [.d (Ie p0),.d (De p1)] (.d (Aj 1 (D.int .i64) R)):=by
 refine CO [3] Tryz.func72 (by kernel_rfl) ?_
 unfold Gd at h
 refine Er {p:Unit // Gj p0 d p1 = some R} (fun p=>B5 58 [(2,.ptr 2 1 0),(3,.ptr 3 1 0)] [(2,.var [.d (Aj 2 Ac p0.Schema.Lists),.d (Aj 7 Ad p0.Schema.Columns),.d (Aj 1 (Aj 1 (D.int .i64)) p0.Rows),.d (Aj 1 (D.int .i64) p0.Gone),.d (.int .i64 p0.Version)],1),(3,.var [.d (.str p1.Project),.d (.str p1.Source),.d (.int .i64 p1.Cohort.Op),.d (.int .i64 p1.Cohort.Column),.d (.int .i64 p1.Cohort.Code),.d (.int .i64 p1.Cohort.Low),.d (.int .i64 p1.Cohort.High),.d (Aj 6 An p1.Cohort.Kids),.d (.int .i64 p1.Sample.Part),.d (.int .i64 p1.Sample.Of),.d (.int .i64 p1.Sample.Seed),.d (Aj 17 AY p1.Questions)],1)]) ?_ fun p=>?_
 ·refine A3 h (fun _=>Ql _ _) fun x8 h=>?_
  refine AH h (fun h=>?_) fun h=>?_
  ·obtain rfl:=Option.some.inj h
   refine ⟨.inl ?_⟩
   conv=>whnf
   exact ⟨HO⟩
  refine A3 h (fun _=>M5 _ _ _ _) fun x14 h=>?_
  refine AH h (fun h=>?_) fun h=>?_
  ·conv=>whnf
   obtain rfl:=Option.some.inj h
   refine ⟨.inl ?_⟩
   conv=>whnf
   exact ⟨HO⟩
  conv=>whnf
  exact ⟨⟨(),h⟩,Ah⟩
 obtain ⟨_,h⟩:=p
 simp only [Gj] at h
 obtain ⟨P1,i1,h⟩:=Az h
 refine loop {p:Nat × (Int × (List Int)) // P1 p.1 p.2 = some R} (fun p=>B5 58 [(2,.ptr 2 1 0),(3,.ptr 3 1 0),(5,.sl 5 1),(6,.d (.int .i64 p.1.2.1))] [(2,.var [.d (Aj 2 Ac p0.Schema.Lists),.d (Aj 7 Ad p0.Schema.Columns),.d (Aj 1 (Aj 1 (D.int .i64)) p0.Rows),.d (Aj 1 (D.int .i64) p0.Gone),.d (.int .i64 p0.Version)],1),(3,.var [.d (.str p1.Project),.d (.str p1.Source),.d (.int .i64 p1.Cohort.Op),.d (.int .i64 p1.Cohort.Column),.d (.int .i64 p1.Cohort.Code),.d (.int .i64 p1.Cohort.Low),.d (.int .i64 p1.Cohort.High),.d (Aj 6 An p1.Cohort.Kids),.d (.int .i64 p1.Sample.Part),.d (.int .i64 p1.Sample.Of),.d (.int .i64 p1.Sample.Seed),.d (Aj 17 AY p1.Questions)],1),(5,.row 1 3 (List.map (D.int .i64) p.1.2.2),1)]) (fun p=>p.1.1) ⟨(_,(_,_)),h⟩ ?_ fun p=>?_
 ·exact Ah
 obtain ⟨⟨k1,⟨v6_1,b5_1⟩⟩,h⟩:=p
 obtain ⟨k1,rfl,h⟩:=i1 _ _ h
 simp only [Ez] at h
 refine AH h (fun h=>?_) fun h=>?_
 ·conv=>whnf
  refine ⟨⟨by decide +kernel,by kernel_rfl⟩,?_⟩
  refine AF (f:=(Aj 1 (D.int .i64))) h fun x31 _ h=>?_
  refine A3 h (fun _=>Ws _ _ _ _ _) fun x33 h=>?_
  refine AH h (fun h=>?_) fun h=>?_
  ·refine AF (f:=(Aj 1 (D.int .i64))) h fun x41 _ h=>?_
   refine AF (f:=(D.int .i64)) h fun x43 _ h=>?_
   refine A3 h (fun _=>YT _ _ _) fun x45 h=>?_
   refine AH h (fun h=>?_) fun h=>?_
   ·refine AF (f:=(Aj 1 (D.int .i64))) h fun x51 _ h=>?_
    refine AF (f:=(D.int .i64)) h fun x53 _ h=>?_
    conv=>whnf
    obtain ⟨hr,h⟩:=CS h
    refine ⟨by (simp only [List.length_map]; exact AE hr (of_decide_eq_true (by kernel_rfl)) (.inr (by kernel_rfl))),?_⟩
    try rw [G9]
    conv=>whnf
    exact B1 ⟨(_,(_,_)),h⟩ Ah
   conv=>whnf
   exact B1 ⟨(_,(_,_)),h⟩ Ah
  exact B1 ⟨(_,(_,_)),h⟩ Ah
 conv=>whnf
 obtain rfl:=Option.some.inj h
 refine ⟨.inl ?_⟩
 conv=>whnf
 exact ⟨HO⟩
theorem V2 (p0:Int) (p1:Int) (R:Bool) (h:Mp p0 p1 = some R):Ao Tryz.prog 136 [.d (.int .i64 p0),.d (.int .i64 p1)] (.d (.bool R)):=by
 refine BP Tryz.func136 ?_
 unfold Mp at h
 exact A0 h
theorem Vq (p0:Int) (p1:Int) (p2:Int) (R:Int) (h:Kx p0 p1 p2 = some R):Ao Tryz.prog 137 [.d (.int .i64 p0),.d (.int .i64 p1),.d (.int .i64 p2)] (.d (.int .i64 R)):=by
 refine BP Tryz.func137 ?_
 unfold Kx at h
 refine Ak h fun h=>?_
 obtain ⟨P1,i1,h⟩:=Az h
 refine loop {p:Nat × (Int × Int) // P1 p.1 p.2 = some R} (fun p=>B5 54 [(7,.d (.int .u64 p.1.2.1)),(8,.d (.int .i64 p.1.2.2))] []) (fun p=>p.1.1) ⟨(_,(_,_)),h⟩ ?_ fun p=>?_
 ·exact Ah
 obtain ⟨⟨k1,⟨v7_1,v8_1⟩⟩,h⟩:=p
 obtain ⟨k1,rfl,h⟩:=i1 _ _ h
 simp only [IF] at h
 refine AH h (fun h=>?_) fun h=>?_
 ·conv=>whnf
  refine ⟨by omega,?_⟩
  conv=>whnf
  exact B1 ⟨(_,(_,_)),h⟩ Ah
 conv=>whnf
 refine ⟨by omega,?_⟩
 exact A0 h
theorem Yj (p0:Int) (p1:Int) (R:Int) (h:Np p0 p1 = some R):Ao Tryz.prog 74 [.d (.int .i64 p0),.d (.int .i64 p1)] (.d (.int .i64 R)):=by
 refine BP Tryz.func74 ?_
 unfold Np at h
 refine A3 h (fun _=>V2 _ _ _) fun x10 h=>?_
 refine Ak h fun h=>?_
 conv=>whnf
 refine ⟨by omega,?_⟩
 conv=>whnf
 refine ⟨by omega,?_⟩
 obtain ⟨P1,i1,h⟩:=Az h
 refine loop {p:Nat × (Int × Int × Int) // P1 p.1 p.2 = some R} (fun p=>B5 31 [(0,.d (.int .i64 p0)),(5,.d (.int .i64 p.1.2.1)),(6,.d (.int .i64 p.1.2.2.1)),(7,.d (.int .i64 p.1.2.2.2))] []) (fun p=>p.1.1) ⟨(_,(_,_,_)),h⟩ ?_ fun p=>?_
 ·exact Ah
 obtain ⟨⟨k1,⟨v5_1,v6_1,v7_1⟩⟩,h⟩:=p
 obtain ⟨k1,rfl,h⟩:=i1 _ _ h
 simp only [Ll] at h
 refine Ba h fun h=>?_
 refine A3 h (fun _=>Vq _ _ _ _) fun x25 h=>?_
 conv=>whnf
 exact B1 ⟨(_,(_,_,_)),h⟩ Ah
theorem MJ (d:Nat) (p0:B2) (p1:Ay) (p2:(List Ae)) (p3:Int) (R:(Au × Int)) (h:EG d p0 p1 p2 p3 = some R):Ao Tryz.prog 28 [.d (Ie p0),.d (De p1),.d (Aj 2 Af p2),.d (.int .i64 p3)] (.tup [.d (Bh R.1),.d (.int .i64 R.2)]):=by
 refine BP Tryz.func28 ?_
 unfold EG at h
 refine A3 h (fun _=>Ql _ _) fun x18 h=>?_
 refine Ak h fun h=>?_
 refine A3 h (fun _=>Vi _ _ _ _ _) fun x25 h=>?_
 refine Ak h fun h=>?_
 refine Ak h fun h=>?_
 conv=>whnf
 refine ⟨⟨by decide +kernel,by kernel_rfl⟩,?_⟩
 conv=>whnf
 obtain ⟨hr,h⟩:=CS h
 refine ⟨by (simp only [List.length_map]; exact AE hr (of_decide_eq_true (by kernel_rfl)) (.inr (by kernel_rfl))),?_⟩
 conv=>whnf
 refine ⟨.inr ?_⟩
 refine A3 h (fun _=>TU _ _ _ _) fun x46 h=>?_
 obtain ⟨P1,i1,h⟩:=Az h
 refine loop {p:Nat × (Int × (List (List Int))) // P1 p.1 p.2 = some R} (fun p=>B5 106 [(2,.d (Aj 2 Af p2)),(3,.d (.int .i64 p3)),(4,.ptr 4 1 0),(8,.ptr 8 1 0),(11,.ptr 11 1 0),(12,.d (Aj 1 (D.int .i64) x46)),(13,.d (.int .i64 p.1.2.1))] [(4,.var [.d (Aj 2 Ac p0.Schema.Lists),.d (Aj 7 Ad p0.Schema.Columns),.d (Aj 1 (Aj 1 (D.int .i64)) p0.Rows),.d (Aj 1 (D.int .i64) p0.Gone),.d (.int .i64 p0.Version)],1),(8,.var [.d (.str ByteArray.empty),.d (.int .i64 0),.d (.nil 2),.d (.nil 1)],1),(11,.var [.d (.str p1.Project),.d (.int .i64 p0.Version),.sl 42 1,.d (Aj 1 (Aj 1 (D.int .i64)) p.1.2.2)],1),(42,.row 2 43 (List.map Af p2),1)]) (fun p=>p.1.1) ⟨(_,(_,_)),h⟩ ?_ fun p=>?_
 ·exact Ah
 obtain ⟨⟨k1,⟨v13_1,c11_3_1⟩⟩,h⟩:=p
 obtain ⟨k1,rfl,h⟩:=i1 _ _ h
 simp only [Fn] at h
 refine Ba h fun h=>?_
 conv=>whnf
 refine ⟨⟨by decide +kernel,by kernel_rfl⟩,?_⟩
 refine AF (f:=(D.int .i64)) h fun x58 _ h=>?_
 refine A3 h (fun _=>Oa _ _ _) fun x60 h=>?_
 refine AF (f:=(Aj 1 (D.int .i64))) h fun x61 _ h=>?_
 refine AF (f:=(D.int .i64)) h fun x66 _ h=>?_
 refine A3 h (fun _=>Yj _ _ _) fun x68 h=>?_
 obtain ⟨P2,i2,h⟩:=Az h
 refine loop {p:Nat × (Int × (List Int)) // P2 p.1 p.2 = some R} (fun p=>B5 106 [(2,.d (Aj 2 Af p2)),(3,.d (.int .i64 p3)),(4,.ptr 4 1 0),(8,.ptr 8 1 0),(11,.ptr 11 1 0),(12,.d (Aj 1 (D.int .i64) x46)),(13,.d (.int .i64 v13_1)),(14,.d (Aj 1 (D.int .i64) x61)),(15,.sl 69 1),(16,.d (.int .i64 p.1.2.1))] [(4,.var [.d (Aj 2 Ac p0.Schema.Lists),.d (Aj 7 Ad p0.Schema.Columns),.d (Aj 1 (Aj 1 (D.int .i64)) p0.Rows),.d (Aj 1 (D.int .i64) p0.Gone),.d (.int .i64 p0.Version)],1),(8,.var [.d (.str ByteArray.empty),.d (.int .i64 0),.d (.nil 2),.d (.nil 1)],1),(11,.var [.d (.str p1.Project),.d (.int .i64 p0.Version),.sl 42 1,.d (Aj 1 (Aj 1 (D.int .i64)) c11_3_1)],1),(42,.row 2 43 (List.map Af p2),1),(69,.row 1 3 (List.map (D.int .i64) p.1.2.2),1)]) (fun p=>p.1.1) ⟨(_,(_,_)),h⟩ ?_ fun p=>?_
 ·exact Ah
 obtain ⟨⟨k2,⟨v16_2,b69_2⟩⟩,h⟩:=p
 obtain ⟨k2,rfl,h⟩:=i2 _ _ h
 simp only [Fe] at h
 refine AH h (fun h=>?_) fun h=>?_
 ·conv=>whnf
  refine ⟨⟨by decide +kernel,by kernel_rfl⟩,?_⟩
  refine AF (f:=Af) h fun x81 _ h=>?_
  refine AF (f:=Af) h fun x86 _ h=>?_
  refine AF (f:=Af) h fun x92 _ h=>?_
  refine AF (f:=(D.int .i64)) h fun x95 _ h=>?_
  refine A3 h (fun _=>BL _ _ _ _ _) fun x97 h=>?_
  conv=>whnf
  obtain ⟨hr,h⟩:=CS h
  refine ⟨by (simp only [List.length_map]; exact AE hr (of_decide_eq_true (by kernel_rfl)) (.inr (by kernel_rfl))),?_⟩
  try rw [G9]
  conv=>whnf
  exact B1 ⟨(_,(_,_)),h⟩ Ah
 refine A3 h (fun _=>SQ _ _ _) fun x103 h=>?_
 conv=>whnf
 exact B1 ⟨(_,(_,_)),h⟩ Ah
theorem R8 (p0:(List B4)) (p1:(List B4)) (R:Bool) (h:JA p0 p1 = some R):Ao Tryz.prog 12 [.d (Aj 2 BO p0),.d (Aj 2 BO p1)] (.d (.bool R)):=by
 refine BP Tryz.func12 ?_
 unfold JA at h
 refine Ak h fun h=>?_
 obtain ⟨P1,i1,h⟩:=Az h
 refine loop {p:Nat × Int // P1 p.1 p.2 = some R} (fun p=>B5 26 [(0,.d (Aj 2 BO p0)),(1,.d (Aj 2 BO p1)),(5,.d (.int .i64 p.1.2))] []) (fun p=>p.1.1) ⟨(_,_),h⟩ ?_ fun p=>?_
 ·exact Ah
 obtain ⟨⟨k1,v5_1⟩,h⟩:=p
 obtain ⟨k1,rfl,h⟩:=i1 _ _ h
 simp only [Kj] at h
 refine Ba h fun h=>?_
 conv=>whnf
 refine ⟨⟨by decide +kernel,by kernel_rfl⟩,?_⟩
 refine AF (f:=BO) h fun x19 _ h=>?_
 refine AF (f:=BO) h fun x23 _ h=>?_
 conv=>whnf
 refine ⟨⟨by kernel_rfl,by kernel_rfl⟩,?_⟩
 conv=>whnf
 refine ⟨by kernel_rfl,?_⟩
 refine Ak h fun h=>?_
 conv=>whnf
 exact B1 ⟨(_,_),h⟩ Ah
theorem R2 (p0:(List Int)) (p1:(List Int)) (R:Bool) (h:JS p0 p1 = some R):Ao Tryz.prog 13 [.d (Aj 1 (D.int .i64) p0),.d (Aj 1 (D.int .i64) p1)] (.d (.bool R)):=by
 refine BP Tryz.func13 ?_
 unfold JS at h
 refine Ak h fun h=>?_
 obtain ⟨P1,i1,h⟩:=Az h
 refine loop {p:Nat × Int // P1 p.1 p.2 = some R} (fun p=>B5 26 [(0,.d (Aj 1 (D.int .i64) p0)),(1,.d (Aj 1 (D.int .i64) p1)),(5,.d (.int .i64 p.1.2))] []) (fun p=>p.1.1) ⟨(_,_),h⟩ ?_ fun p=>?_
 ·exact Ah
 obtain ⟨⟨k1,v5_1⟩,h⟩:=p
 obtain ⟨k1,rfl,h⟩:=i1 _ _ h
 simp only [Kf] at h
 refine Ba h fun h=>?_
 conv=>whnf
 refine ⟨⟨by decide +kernel,by kernel_rfl⟩,?_⟩
 refine AF (f:=(D.int .i64)) h fun x19 _ h=>?_
 refine AF (f:=(D.int .i64)) h fun x23 _ h=>?_
 refine Ak h fun h=>?_
 conv=>whnf
 exact B1 ⟨(_,_),h⟩ Ah
theorem R3 (p0:Au) (p1:(List Int)) (R:(List Int)) (h:LF p0 p1 = some R):Ao Tryz.prog 14 [.d (Bh p0),.d (Aj 1 (D.int .i64) p1)] (.d (Aj 1 (D.int .i64) R)):=by
 refine BP Tryz.func14 ?_
 unfold LF at h
 obtain ⟨P1,i1,h⟩:=Az h
 refine loop {p:Nat × (Int × (List Int)) // P1 p.1 p.2 = some R} (fun p=>B5 27 [(1,.d (Aj 1 (D.int .i64) p1)),(2,.ptr 2 1 0),(5,.sl 5 1),(6,.d (.int .i64 p.1.2.1))] [(2,.var [.d (.str p0.Project),.d (.int .i64 p0.Version),.d (Aj 2 Af p0.Picks),.d (Aj 1 (Aj 1 (D.int .i64)) p0.Rows)],1),(5,.row 1 3 (List.map (D.int .i64) p.1.2.2),1)]) (fun p=>p.1.1) ⟨(_,(_,_)),h⟩ ?_ fun p=>?_
 ·exact Ah
 obtain ⟨⟨k1,⟨v6_1,b5_1⟩⟩,h⟩:=p
 obtain ⟨k1,rfl,h⟩:=i1 _ _ h
 simp only [PZ] at h
 refine AH h (fun h=>?_) fun h=>?_
 ·conv=>whnf
  refine ⟨⟨by decide +kernel,by kernel_rfl⟩,?_⟩
  refine AF (f:=(D.int .i64)) h fun x18 _ h=>?_
  refine AF (f:=(Aj 1 (D.int .i64))) h fun x20 _ h=>?_
  refine AF (f:=(D.int .i64)) h fun x22 _ h=>?_
  conv=>whnf
  obtain ⟨hr,h⟩:=CS h
  refine ⟨by (simp only [List.length_map]; exact AE hr (of_decide_eq_true (by kernel_rfl)) (.inr (by kernel_rfl))),?_⟩
  try rw [G9]
  conv=>whnf
  exact B1 ⟨(_,(_,_)),h⟩ Ah
 conv=>whnf
 obtain rfl:=Option.some.inj h
 refine ⟨.inl ?_⟩
 conv=>whnf
 exact ⟨HO⟩
end Go.Proofs.YtejfnieiaecpkaaGreatDoor.P
