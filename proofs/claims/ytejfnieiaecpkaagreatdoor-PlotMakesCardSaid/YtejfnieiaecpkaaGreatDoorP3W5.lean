/- Printed by wip/tools/mkw.py: walks: ref04_Put ref01_depth ref01_Name ref01_leaf ref01_Check ref01_Levels ref01_At ref02_Leaves ref02_in ref02_measure ref02_column ref02_Check ref02_Finest ref01_Level ref02_Holds ref01_Up ref02_Width ref02_Floor ref02_Coarse ref04_Find ref02_Row ref04_Valid ref02_Pick ref02_Picks ref05_count ref05_depth ref05_is -/
import Derived.Test.YtejfnieiaecpkaaGreatDoorChecked
import Derived.Test.YtejfnieiaecpkaaGreatDoorP3F
import Derived.Test.YtejfnieiaecpkaaGreatDoorP3A
import Derived.Test.YtejfnieiaecpkaaGreatDoorP3HW
set_option linter.unusedSimpArgs false
namespace Go.Proofs.YtejfnieiaecpkaaGreatDoor.P
open Go.Abs Go.Proofs
set_option maxRecDepth 100000
set_option maxHeartbeats 40000000
set_option linter.unusedVariables false
theorem SQ (p0:(List (List Int))) (p1:(List Int)) (R:(List (List Int))) (h:Lv p0 p1 = some R):Ao Tryz.prog 68 [.d (Aj 1 (Aj 1 (D.int .i64)) p0),.d (Aj 1 (D.int .i64) p1)] (.d (Aj 1 (Aj 1 (D.int .i64)) R)):=by
 refine BP Tryz.func68 ?_
 unfold Lv at h
 obtain ⟨P1,i1,h⟩:=Az h
 refine loop {p:Nat × (Bool × Int × (List (List Int))) // P1 p.1 p.2 = some R} (fun p=>B5 56 [(0,.d (Aj 1 (Aj 1 (D.int .i64)) p0)),(1,.d (Aj 1 (D.int .i64) p1)),(5,.sl 5 1),(6,.d (.bool p.1.2.1)),(7,.d (.int .i64 p.1.2.2.1))] [(5,.row 1 30 (List.map (Aj 1 (D.int .i64)) p.1.2.2.2),1)]) (fun p=>p.1.1) ⟨(_,(_,_,_)),h⟩ ?_ fun p=>?_
 ·exact Ah
 obtain ⟨⟨k1,⟨v6_1,v7_1,b5_1⟩⟩,h⟩:=p
 obtain ⟨k1,rfl,h⟩:=i1 _ _ h
 simp only [La] at h
 refine AH h (fun h=>?_) fun h=>?_
 ·conv=>whnf
  refine ⟨⟨by decide +kernel,by kernel_rfl⟩,?_⟩
  refine AF (f:=(Aj 1 (D.int .i64))) h fun x16 _ h=>?_
  refine AF (f:=(D.int .i64)) h fun x18 _ h=>?_
  refine AF (f:=(D.int .i64)) h fun x21 _ h=>?_
  refine AH h (fun h=>?_) fun h=>?_
  ·conv=>whnf
   exact B1 ⟨(_,(_,_,_)),h⟩ Ah
  conv=>whnf
  refine ⟨⟨by decide +kernel,by kernel_rfl⟩,?_⟩
  refine AF (f:=(Aj 1 (D.int .i64))) h fun x26 _ h=>?_
  refine AF (f:=(D.int .i64)) h fun x28 _ h=>?_
  refine AF (f:=(D.int .i64)) h fun x31 _ h=>?_
  refine AH h (fun h=>?_) fun h=>?_
  ·conv=>whnf
   obtain ⟨hr,h⟩:=CS h
   refine ⟨by (simp only [List.length_map]; exact AE hr (of_decide_eq_true (by kernel_rfl)) (.inr (by kernel_rfl))),?_⟩
   try rw [Xn]
   refine AF (f:=(Aj 1 (D.int .i64))) h fun x45 hx45 h=>?_
   conv=>whnf
   obtain ⟨hr,h⟩:=CS h
   refine ⟨by (simp only [List.length_map]; exact AE hr (of_decide_eq_true (by kernel_rfl)) (.inr (by kernel_rfl))),?_⟩
   try rw [Xn]
   conv=>whnf
   exact B1 ⟨(_,(_,_,_)),h⟩ Ah
  refine AF (f:=(Aj 1 (D.int .i64))) h fun x45 hx45 h=>?_
  conv=>whnf
  obtain ⟨hr,h⟩:=CS h
  refine ⟨by (simp only [List.length_map]; exact AE hr (of_decide_eq_true (by kernel_rfl)) (.inr (by kernel_rfl))),?_⟩
  try rw [Xn]
  conv=>whnf
  exact B1 ⟨(_,(_,_,_)),h⟩ Ah
 refine AH h (fun h=>?_) fun h=>?_
 ·conv=>whnf
  obtain ⟨hr,h⟩:=CS h
  refine ⟨by (simp only [List.length_map]; exact AE hr (of_decide_eq_true (by kernel_rfl)) (.inr (by kernel_rfl))),?_⟩
  try rw [Xn]
  conv=>whnf
  obtain rfl:=Option.some.inj h
  refine ⟨.inl ?_⟩
  conv=>whnf
  exact ⟨HO⟩
 conv=>whnf
 obtain rfl:=Option.some.inj h
 refine ⟨.inl ?_⟩
 conv=>whnf
 exact ⟨HO⟩
theorem Dv (p0:Am) (p1:Int) (R:Int) (h:DU p0 p1 = some R):Ao Tryz.prog 79 [.d (Ac p0),.d (.int .i64 p1)] (.d (.int .i64 R)):=by
 refine BP Tryz.func79 ?_
 unfold DU at h
 obtain ⟨P1,i1,h⟩:=Az h
 refine loop {p:Nat × (Int × Int) // P1 p.1 p.2 = some R} (fun p=>B5 22 [(1,.d (.int .i64 p.1.2.1)),(2,.ptr 2 1 0),(5,.d (.int .i64 p.1.2.2))] [(2,.var [.d (.str p0.Name),.d (Aj 2 Bp p0.Codes)],1)]) (fun p=>p.1.1) ⟨(_,(_,_)),h⟩ ?_ fun p=>?_
 ·exact Ah
 obtain ⟨⟨k1,⟨v1_1,v5_1⟩⟩,h⟩:=p
 obtain ⟨k1,rfl,h⟩:=i1 _ _ h
 simp only [OY] at h
 refine AF (f:=Bp) h fun x9 _ h=>?_
 refine Ba h fun h=>?_
 refine AF (f:=Bp) h fun x16 _ h=>?_
 conv=>whnf
 exact B1 ⟨(_,(_,_)),h⟩ Ah
theorem EB (p0:ByteArray) (R:Bool) (h:BK p0 = some R):Ao Tryz.prog 91 [.d (.str p0)] (.d (.bool R)):=by
 refine CO [3,8] Tryz.func91 (by kernel_rfl) ?_
 unfold BK at h
 refine Er {p:Unit // MB p0 = some R} (fun p=>B5 70 [(0,.d (.str p0))] []) ?_ fun p=>?_
 ·refine Ak h fun h=>?_
  obtain ⟨hr,h⟩:=CS h
  refine ⟨of_decide_eq_true hr,?_⟩
  refine Ak h fun h=>?_
  obtain ⟨hr,h⟩:=CS h
  refine ⟨of_decide_eq_true hr,?_⟩
  refine Ak h fun h=>?_
  conv=>whnf
  exact ⟨⟨(),h⟩,Ah⟩
 obtain ⟨_,h⟩:=p
 simp only [MB] at h
 refine Er {p:Unit // MK p0 = some R} (fun p=>B5 70 [(0,.d (.str p0))] []) ?_ fun p=>?_
 ·obtain ⟨P1,i1,h⟩:=Az h
  refine loop {p:Nat × Int // P1 p.1 p.2 = some R} (fun p=>B5 70 [(0,.d (.str p0)),(3,.d (.int .i64 p.1.2))] []) (fun p=>p.1.1) ⟨(_,_),h⟩ ?_ fun p=>?_
  ·exact Ah
  obtain ⟨⟨k1,v3_1⟩,h⟩:=p
  obtain ⟨k1,rfl,h⟩:=i1 _ _ h
  simp only [Qg] at h
  refine AH h (fun h=>?_) fun h=>?_
  ·conv=>whnf
   obtain ⟨hr,h⟩:=CS h
   refine ⟨of_decide_eq_true hr,?_⟩
   refine AH h (fun h=>?_) fun h=>?_
   ·obtain ⟨hr,h⟩:=CS h
    refine ⟨of_decide_eq_true hr,?_⟩
    refine AH h (fun h=>?_) fun h=>?_
    ·exact B1 ⟨(_,_),h⟩ Ah
    obtain ⟨hr,h⟩:=CS h
    refine ⟨of_decide_eq_true hr,?_⟩
    refine AH h (fun h=>?_) fun h=>?_
    ·obtain ⟨hr,h⟩:=CS h
     refine ⟨of_decide_eq_true hr,?_⟩
     refine AH h (fun h=>?_) fun h=>?_
     ·exact B1 ⟨(_,_),h⟩ Ah
     obtain ⟨hr,h⟩:=CS h
     refine ⟨of_decide_eq_true hr,?_⟩
     refine Ak h fun h=>?_
     conv=>whnf
     exact B1 ⟨(_,_),h⟩ Ah
    obtain ⟨hr,h⟩:=CS h
    refine ⟨of_decide_eq_true hr,?_⟩
    refine Ak h fun h=>?_
    conv=>whnf
    exact B1 ⟨(_,_),h⟩ Ah
   obtain ⟨hr,h⟩:=CS h
   refine ⟨of_decide_eq_true hr,?_⟩
   refine AH h (fun h=>?_) fun h=>?_
   ·obtain ⟨hr,h⟩:=CS h
    refine ⟨of_decide_eq_true hr,?_⟩
    refine AH h (fun h=>?_) fun h=>?_
    ·exact B1 ⟨(_,_),h⟩ Ah
    obtain ⟨hr,h⟩:=CS h
    refine ⟨of_decide_eq_true hr,?_⟩
    refine Ak h fun h=>?_
    conv=>whnf
    exact B1 ⟨(_,_),h⟩ Ah
   obtain ⟨hr,h⟩:=CS h
   refine ⟨of_decide_eq_true hr,?_⟩
   refine Ak h fun h=>?_
   conv=>whnf
   exact B1 ⟨(_,_),h⟩ Ah
  conv=>whnf
  exact ⟨⟨(),h⟩,Ah⟩
 obtain ⟨_,h⟩:=p
 simp only [MK] at h
 conv=>whnf
 refine KI h BU (fun e37 h=>?_) (fun e37 h=>?_)
 ·conv=>whnf
  refine Ld BU e37 ?_
  exact A0 h
 conv=>whnf
 refine KI h BU (fun e38 h=>?_) (fun e38 h=>?_)
 ·conv=>whnf
  refine Ld BU e38 ?_
  exact A0 h
 conv=>whnf
 refine KI h BU (fun e39 h=>?_) (fun e39 h=>?_)
 ·conv=>whnf
  refine Ld BU e39 ?_
  exact A0 h
 conv=>whnf
 refine KI h BU (fun e40 h=>?_) (fun e40 h=>?_)
 ·conv=>whnf
  refine Ld BU e40 ?_
  exact A0 h
 conv=>whnf
 refine KI h BU (fun e41 h=>?_) (fun e41 h=>?_)
 ·conv=>whnf
  refine Ld BU e41 ?_
  exact A0 h
 conv=>whnf
 refine KI h BU (fun e42 h=>?_) (fun e42 h=>?_)
 ·conv=>whnf
  refine Ld BU e42 ?_
  exact A0 h
 conv=>whnf
 refine KI h BU (fun e43 h=>?_) (fun e43 h=>?_)
 ·conv=>whnf
  refine Ld BU e43 ?_
  exact A0 h
 conv=>whnf
 refine KI h BU (fun e44 h=>?_) (fun e44 h=>?_)
 ·conv=>whnf
  refine Ld BU e44 ?_
  exact A0 h
 conv=>whnf
 refine KI h BU (fun e45 h=>?_) (fun e45 h=>?_)
 ·conv=>whnf
  refine Ld BU e45 ?_
  exact A0 h
 conv=>whnf
 refine KI h BU (fun e46 h=>?_) (fun e46 h=>?_)
 ·conv=>whnf
  refine Ld BU e46 ?_
  exact A0 h
 exact DJ h
theorem WO (p0:Am) (p1:Int) (R:Bool) (h:QE p0 p1 = some R):Ao Tryz.prog 139 [.d (Ac p0),.d (.int .i64 p1)] (.d (.bool R)):=by
 refine BP Tryz.func139 ?_
 unfold QE at h
 obtain ⟨P1,i1,h⟩:=Az h
 refine loop {p:Nat × Int // P1 p.1 p.2 = some R} (fun p=>B5 21 [(1,.d (.int .i64 p1)),(2,.ptr 2 1 0),(5,.d (.int .i64 p.1.2))] [(2,.var [.d (.str p0.Name),.d (Aj 2 Bp p0.Codes)],1)]) (fun p=>p.1.1) ⟨(_,_),h⟩ ?_ fun p=>?_
 ·exact Ah
 obtain ⟨⟨k1,v5_1⟩,h⟩:=p
 obtain ⟨k1,rfl,h⟩:=i1 _ _ h
 simp only [Qi] at h
 refine Ba h fun h=>?_
 refine AF (f:=Bp) h fun x16 _ h=>?_
 refine Ak h fun h=>?_
 conv=>whnf
 exact B1 ⟨(_,_),h⟩ Ah
theorem H4 (p0:Am) (R:Int) (h:EQ p0 = some R):Ao Tryz.prog 78 [.d (Ac p0)] (.d (.int .i64 R)):=by
 refine CO [20] Tryz.func78 (by kernel_rfl) ?_
 unfold EQ at h
 refine A3 h (fun _=>EB _ _) fun x10 h=>?_
 refine Ak h fun h=>?_
 refine Ak h fun h=>?_
 refine Ak h fun h=>?_
 refine Er {p:Unit // LQ p0 = some R} (fun p=>B5 100 [(1,.ptr 1 1 0)] [(1,.var [.d (.str p0.Name),.d (Aj 2 Bp p0.Codes)],1)]) ?_ fun p=>?_
 ·obtain ⟨P1,i1,h⟩:=Az h
  refine loop {p:Nat × Int // P1 p.1 p.2 = some R} (fun p=>B5 100 [(1,.ptr 1 1 0),(3,.d (.int .i64 p.1.2))] [(1,.var [.d (.str p0.Name),.d (Aj 2 Bp p0.Codes)],1)]) (fun p=>p.1.1) ⟨(_,_),h⟩ ?_ fun p=>?_
  ·exact Ah
  obtain ⟨⟨k1,v3_1⟩,h⟩:=p
  obtain ⟨k1,rfl,h⟩:=i1 _ _ h
  simp only [Pv] at h
  refine AH h (fun h=>?_) fun h=>?_
  ·refine AF (f:=Bp) h fun x30 _ h=>?_
   refine A3 h (fun _=>EB _ _) fun x33 h=>?_
   refine Ak h fun h=>?_
   obtain ⟨P2,i2,h⟩:=Az h
   refine loop {p:Nat × Int // P2 p.1 p.2 = some R} (fun p=>B5 100 [(1,.ptr 1 1 0),(3,.d (.int .i64 v3_1)),(4,.d (.int .i64 p.1.2))] [(1,.var [.d (.str p0.Name),.d (Aj 2 Bp p0.Codes)],1)]) (fun p=>p.1.1) ⟨(_,_),h⟩ ?_ fun p=>?_
   ·exact Ah
   obtain ⟨⟨k2,v4_2⟩,h⟩:=p
   obtain ⟨k2,rfl,h⟩:=i2 _ _ h
   simp only [Pm] at h
   refine AH h (fun h=>?_) fun h=>?_
   ·conv=>whnf
    refine ⟨⟨by decide +kernel,by kernel_rfl⟩,?_⟩
    refine AF (f:=Bp) h fun x43 _ h=>?_
    refine AF (f:=Bp) h fun x49 _ h=>?_
    refine Ak h fun h=>?_
    conv=>whnf
    exact B1 ⟨(_,_),h⟩ Ah
   conv=>whnf
   try simp only [Jx] at h
   refine AF (f:=Bp) h fun x56 _ h=>?_
   refine Ak h fun h=>?_
   conv=>whnf
   exact B1 ⟨(_,_),h⟩ Ah
  conv=>whnf
  try simp only [Jx] at h
  exact ⟨⟨(),h⟩,Ah⟩
 obtain ⟨_,h⟩:=p
 simp only [LQ] at h
 obtain ⟨P3,i3,h⟩:=Az h
 refine loop {p:Nat × (Int × Int) // P3 p.1 p.2 = some R} (fun p=>B5 100 [(1,.ptr 1 1 0),(6,.d (.int .i64 p.1.2.1)),(7,.d (.int .i64 p.1.2.2))] [(1,.var [.d (.str p0.Name),.d (Aj 2 Bp p0.Codes)],1)]) (fun p=>p.1.1) ⟨(_,(_,_)),h⟩ ?_ fun p=>?_
 ·exact Ah
 obtain ⟨⟨k3,⟨v6_3,v7_3⟩⟩,h⟩:=p
 obtain ⟨k3,rfl,h⟩:=i3 _ _ h
 simp only [OZ] at h
 refine AH h (fun h=>?_) fun h=>?_
 ·refine A3 h (fun _=>WO _ _ _) fun x87 h=>?_
  refine AH h (fun h=>?_) fun h=>?_
  ·refine AH h (fun h=>?_) fun h=>?_
   ·refine A3 h (fun _=>Dv _ _ _) fun x93 h=>?_
    refine Ak h fun h=>?_
    conv=>whnf
    obtain ⟨x99,hx99,h⟩:=A7 h
    refine AD (Dv _ _ _ hx99) ?_
    conv=>whnf
    exact B1 ⟨(_,(_,_)),h⟩ Ah
   obtain ⟨x99,hx99,h⟩:=A7 h
   refine AD (Dv _ _ _ hx99) ?_
   conv=>whnf
   exact B1 ⟨(_,(_,_)),h⟩ Ah
  conv=>whnf
  exact B1 ⟨(_,(_,_)),h⟩ Ah
 conv=>whnf
 try simp only [Jx] at h
 exact A0 h
theorem LV (p0:Am) (R:Int) (h:EN p0 = some R):Ao Tryz.prog 76 [.d (Ac p0)] (.d (.int .i64 R)):=by
 refine BP Tryz.func76 ?_
 unfold EN at h
 refine A3 h (fun _=>H4 _ _) fun x4 h=>?_
 refine Ak h fun h=>?_
 conv=>whnf
 obtain ⟨x11,hx11,h⟩:=A7 h
 first | refine AD (Dv _ _ _ hx11) ?_ | (simp only [List.length_map]; refine AD (Dv _ _ _ hx11) ?_)
 exact A0 h
theorem Zo (p0:Am) (p1:Int) (R:(List Int)) (h:Nu p0 p1 = some R):Ao Tryz.prog 226 [.d (Ac p0),.d (.int .i64 p1)] (.d (Aj 1 (D.int .i64) R)):=by
 refine BP Tryz.func226 ?_
 unfold Nu at h
 refine A3 h (fun _=>H4 _ _) fun x8 h=>?_
 refine AH h (fun h=>?_) fun h=>?_
 ·conv=>whnf
  obtain rfl:=Option.some.inj h
  refine ⟨.inl ?_⟩
  conv=>whnf
  exact ⟨HO⟩
 obtain ⟨P1,i1,h⟩:=Az h
 refine loop {p:Nat × (Int × (List Int)) // P1 p.1 p.2 = some R} (fun p=>B5 27 [(1,.d (.int .i64 p1)),(2,.ptr 2 1 0),(5,.sl 5 1),(6,.d (.int .i64 p.1.2.1))] [(2,.var [.d (.str p0.Name),.d (Aj 2 Bp p0.Codes)],1),(5,.row 1 3 (List.map (D.int .i64) p.1.2.2),1)]) (fun p=>p.1.1) ⟨(_,(_,_)),h⟩ ?_ fun p=>?_
 ·exact Ah
 obtain ⟨⟨k1,⟨v6_1,b5_1⟩⟩,h⟩:=p
 obtain ⟨k1,rfl,h⟩:=i1 _ _ h
 simp only [ST] at h
 refine AH h (fun h=>?_) fun h=>?_
 ·refine A3 h (fun _=>Dv _ _ _) fun x19 h=>?_
  refine AH h (fun h=>?_) fun h=>?_
  ·conv=>whnf
   obtain ⟨hr,h⟩:=CS h
   refine ⟨by (simp only [List.length_map]; exact AE hr (of_decide_eq_true (by kernel_rfl)) (.inr (by kernel_rfl))),?_⟩
   try rw [G9]
   conv=>whnf
   exact B1 ⟨(_,(_,_)),h⟩ Ah
  conv=>whnf
  exact B1 ⟨(_,(_,_)),h⟩ Ah
 conv=>whnf
 obtain rfl:=Option.some.inj h
 refine ⟨.inl ?_⟩
 conv=>whnf
 exact ⟨HO⟩
theorem Fs (p0:Aa) (p1:Int) (R:(List Int)) (h:Cg p0 p1 = some R):Ao Tryz.prog 154 [.d (Ai p0),.d (.int .i64 p1)] (.d (Aj 1 (D.int .i64) R)):=by
 refine BP Tryz.func154 ?_
 unfold Cg at h
 conv=>whnf
 refine ⟨⟨by decide +kernel,by kernel_rfl⟩,?_⟩
 refine AF (f:=Ad) h fun x11 _ h=>?_
 refine AF (f:=Ac) h fun x14 _ h=>?_
 conv=>whnf
 refine ⟨⟨by decide +kernel,by kernel_rfl⟩,?_⟩
 refine A3 h (fun _=>LV _ _) fun x18 h=>?_
 refine A3 h (fun _=>Zo _ _ _) fun x20 h=>?_
 exact A0 h
theorem C1 (p0:Int) (p1:Int) (p2:Int) (R:Bool) (h:Dm p0 p1 p2 = some R):Ao Tryz.prog 32 [.d (.int .i64 p0),.d (.int .i64 p1),.d (.int .i64 p2)] (.d (.bool R)):=by
 refine BP Tryz.func32 ?_
 unfold Dm at h
 exact A0 h
theorem T3 (p0:Av) (R:Int) (h:Hw p0 = some R):Ao Tryz.prog 202 [.d (Ad p0)] (.d (.int .i64 R)):=by
 refine CO [3] Tryz.func202 (by kernel_rfl) ?_
 unfold Hw at h
 refine Er {p:Unit // Hi p0 = some R} (fun p=>B5 79 [(1,.ptr 1 1 0)] [(1,.var [.d (.str p0.Name),.d (.int .i64 p0.Kind),.d (.int .i64 p0.List_),.d (.int .i64 p0.Low),.d (.int .i64 p0.High),.d (Aj 1 (D.int .i64) p0.Widths),.d (.bool p0.Optional)],1)]) ?_ fun p=>?_
 ·refine A3 h (fun _=>C1 _ _ _ _) fun x7 h=>?_
  refine Ak h fun h=>?_
  refine A3 h (fun _=>C1 _ _ _ _) fun x12 h=>?_
  refine Ak h fun h=>?_
  conv=>whnf
  exact ⟨⟨(),h⟩,Ah⟩
 obtain ⟨_,h⟩:=p
 simp only [Hi] at h
 refine Ak h fun h=>?_
 obtain ⟨P1,i1,h⟩:=Az h
 refine loop {p:Nat × Int // P1 p.1 p.2 = some R} (fun p=>B5 79 [(1,.ptr 1 1 0),(3,.d (.int .i64 p.1.2))] [(1,.var [.d (.str p0.Name),.d (.int .i64 p0.Kind),.d (.int .i64 p0.List_),.d (.int .i64 p0.Low),.d (.int .i64 p0.High),.d (Aj 1 (D.int .i64) p0.Widths),.d (.bool p0.Optional)],1)]) (fun p=>p.1.1) ⟨(_,_),h⟩ ?_ fun p=>?_
 ·exact Ah
 obtain ⟨⟨k1,v3_1⟩,h⟩:=p
 obtain ⟨k1,rfl,h⟩:=i1 _ _ h
 simp only [Nv] at h
 refine Ba h fun h=>?_
 refine AF (f:=(D.int .i64)) h fun x42 _ h=>?_
 refine Ak h fun h=>?_
 refine AH h (fun h=>?_) fun h=>?_
 ·refine AF (f:=(D.int .i64)) h fun x59 _ h=>?_
  refine Ak h fun h=>?_
  refine AF (f:=(D.int .i64)) h fun x72 _ h=>?_
  conv=>whnf
  obtain ⟨hr,h⟩:=CS h
  refine ⟨of_decide_eq_true hr,?_⟩
  refine Ak h fun h=>?_
  conv=>whnf
  exact B1 ⟨(_,_),h⟩ Ah
 exact B1 ⟨(_,_),h⟩ Ah
theorem UH (p0:Aa) (p1:Int) (R:Int) (h:Jz p0 p1 = some R):Ao Tryz.prog 138 [.d (Ai p0),.d (.int .i64 p1)] (.d (.int .i64 R)):=by
 refine CO [9,13] Tryz.func138 (by kernel_rfl) ?_
 unfold Jz at h
 refine AF (f:=Ad) h fun x11 _ h=>?_
 refine A3 h (fun _=>EB _ _) fun x15 h=>?_
 refine Ak h fun h=>?_
 refine Er {p:Unit // HT x11 p1 p0 = some R} (fun p=>B5 98 [(1,.d (.int .i64 p1)),(2,.ptr 2 1 0),(5,.ptr 5 1 0)] [(2,.var [.d (Aj 2 Ac p0.Lists),.d (Aj 7 Ad p0.Columns)],1),(5,.var [.d (.str x11.Name),.d (.int .i64 x11.Kind),.d (.int .i64 x11.List_),.d (.int .i64 x11.Low),.d (.int .i64 x11.High),.d (Aj 1 (D.int .i64) x11.Widths),.d (.bool x11.Optional)],1)]) ?_ fun p=>?_
 ·obtain ⟨P1,i1,h⟩:=Az h
  refine loop {p:Nat × Int // P1 p.1 p.2 = some R} (fun p=>B5 98 [(1,.d (.int .i64 p1)),(2,.ptr 2 1 0),(5,.ptr 5 1 0),(6,.d (.int .i64 p.1.2))] [(2,.var [.d (Aj 2 Ac p0.Lists),.d (Aj 7 Ad p0.Columns)],1),(5,.var [.d (.str x11.Name),.d (.int .i64 x11.Kind),.d (.int .i64 x11.List_),.d (.int .i64 x11.Low),.d (.int .i64 x11.High),.d (Aj 1 (D.int .i64) x11.Widths),.d (.bool x11.Optional)],1)]) (fun p=>p.1.1) ⟨(_,_),h⟩ ?_ fun p=>?_
  ·exact Ah
  obtain ⟨⟨k1,v6_1⟩,h⟩:=p
  obtain ⟨k1,rfl,h⟩:=i1 _ _ h
  simp only [HE] at h
  refine AH h (fun h=>?_) fun h=>?_
  ·conv=>whnf
   refine ⟨⟨by decide +kernel,by kernel_rfl⟩,?_⟩
   refine AF (f:=Ad) h fun x25 _ h=>?_
   refine Ak h fun h=>?_
   conv=>whnf
   exact B1 ⟨(_,_),h⟩ Ah
  conv=>whnf
  exact ⟨⟨(),h⟩,Ah⟩
 obtain ⟨_,h⟩:=p
 simp only [HT] at h
 refine A3 h (fun _=>C1 _ _ _ _) fun x33 h=>?_
 refine Ak h fun h=>?_
 refine Er {p:Unit // E1 x11 = some R} (fun p=>B5 98 [(5,.ptr 5 1 0)] [(5,.var [.d (.str x11.Name),.d (.int .i64 x11.Kind),.d (.int .i64 x11.List_),.d (.int .i64 x11.Low),.d (.int .i64 x11.High),.d (Aj 1 (D.int .i64) x11.Widths),.d (.bool x11.Optional)],1)]) ?_ fun p=>?_
 ·refine AH h (fun h=>?_) fun h=>?_
  ·obtain ⟨x54,hx54,h⟩:=A7 h
   first | refine AD (C1 _ _ _ _ hx54) ?_ | (simp only [List.length_map]; refine AD (C1 _ _ _ _ hx54) ?_)
   refine Ak h fun h=>?_
   conv=>whnf
   exact ⟨⟨(),h⟩,Ah⟩
  exact ⟨⟨(),h⟩,Ah⟩
 obtain ⟨_,h⟩:=p
 simp only [E1] at h
 refine AH h (fun h=>?_) fun h=>?_
 ·refine A3 h (fun _=>T3 _ _) fun x61 h=>?_
  refine Ak h fun h=>?_
  exact DJ h
 exact DJ h
theorem CR (p0:Aa) (R:Int) (h:C3 p0 = some R):Ao Tryz.prog 75 [.d (Ai p0)] (.d (.int .i64 R)):=by
 refine CO [14] Tryz.func75 (by kernel_rfl) ?_
 unfold C3 at h
 refine Ak h fun h=>?_
 refine Er {p:Unit // J2 p0 = some R} (fun p=>B5 77 [(1,.ptr 1 1 0)] [(1,.var [.d (Aj 2 Ac p0.Lists),.d (Aj 7 Ad p0.Columns)],1)]) ?_ fun p=>?_
 ·obtain ⟨P1,i1,h⟩:=Az h
  refine loop {p:Nat × Int // P1 p.1 p.2 = some R} (fun p=>B5 77 [(1,.ptr 1 1 0),(3,.d (.int .i64 p.1.2))] [(1,.var [.d (Aj 2 Ac p0.Lists),.d (Aj 7 Ad p0.Columns)],1)]) (fun p=>p.1.1) ⟨(_,_),h⟩ ?_ fun p=>?_
  ·exact Ah
  obtain ⟨⟨k1,v3_1⟩,h⟩:=p
  obtain ⟨k1,rfl,h⟩:=i1 _ _ h
  simp only [IR] at h
  refine AH h (fun h=>?_) fun h=>?_
  ·refine AF (f:=Ac) h fun x28 _ h=>?_
   refine A3 h (fun _=>H4 _ _) fun x30 h=>?_
   refine Ak h fun h=>?_
   obtain ⟨P2,i2,h⟩:=Az h
   refine loop {p:Nat × Int // P2 p.1 p.2 = some R} (fun p=>B5 77 [(1,.ptr 1 1 0),(3,.d (.int .i64 v3_1)),(5,.d (.int .i64 p.1.2))] [(1,.var [.d (Aj 2 Ac p0.Lists),.d (Aj 7 Ad p0.Columns)],1)]) (fun p=>p.1.1) ⟨(_,_),h⟩ ?_ fun p=>?_
   ·exact Ah
   obtain ⟨⟨k2,v5_2⟩,h⟩:=p
   obtain ⟨k2,rfl,h⟩:=i2 _ _ h
   simp only [J4] at h
   refine AH h (fun h=>?_) fun h=>?_
   ·conv=>whnf
    refine ⟨⟨by decide +kernel,by kernel_rfl⟩,?_⟩
    refine AF (f:=Ac) h fun x42 _ h=>?_
    refine AF (f:=Ac) h fun x48 _ h=>?_
    refine Ak h fun h=>?_
    conv=>whnf
    exact B1 ⟨(_,_),h⟩ Ah
   conv=>whnf
   try simp only [ref02_Check_k1] at h
   exact B1 ⟨(_,_),h⟩ Ah
  conv=>whnf
  try simp only [ref02_Check_k1] at h
  exact ⟨⟨(),h⟩,Ah⟩
 obtain ⟨_,h⟩:=p
 simp only [J2] at h
 refine Ak h fun h=>?_
 refine AF (f:=Ad) h fun x59 _ h=>?_
 refine Ak h fun h=>?_
 obtain ⟨P3,i3,h⟩:=Az h
 refine loop {p:Nat × Int // P3 p.1 p.2 = some R} (fun p=>B5 77 [(1,.ptr 1 1 0),(6,.d (.int .i64 p.1.2))] [(1,.var [.d (Aj 2 Ac p0.Lists),.d (Aj 7 Ad p0.Columns)],1)]) (fun p=>p.1.1) ⟨(_,_),h⟩ ?_ fun p=>?_
 ·exact Ah
 obtain ⟨⟨k3,v6_3⟩,h⟩:=p
 obtain ⟨k3,rfl,h⟩:=i3 _ _ h
 simp only [Jp] at h
 refine AH h (fun h=>?_) fun h=>?_
 ·refine A3 h (fun _=>UH _ _ _) fun x73 h=>?_
  refine Ak h fun h=>?_
  conv=>whnf
  exact B1 ⟨(_,_),h⟩ Ah
 conv=>whnf
 try simp only [ref02_Check_k1] at h
 exact A0 h
theorem BX (p0:Aa) (p1:Int) (R:Int) (h:B7 p0 p1 = some R):Ao Tryz.prog 33 [.d (Ai p0),.d (.int .i64 p1)] (.d (.int .i64 R)):=by
 refine BP Tryz.func33 ?_
 unfold B7 at h
 refine A3 h (fun _=>CR _ _) fun x7 h=>?_
 refine Ak h fun h=>?_
 refine AF (f:=Ad) h fun x23 _ h=>?_
 refine Ba h fun h=>?_
 refine AF (f:=Ac) h fun x32 _ h=>?_
 refine A3 h (fun _=>LV _ _) fun x34 h=>?_
 exact A0 h
theorem M9 (p0:Am) (p1:Int) (R:Int) (h:GR p0 p1 = some R):Ao Tryz.prog 77 [.d (Ac p0),.d (.int .i64 p1)] (.d (.int .i64 R)):=by
 refine BP Tryz.func77 ?_
 unfold GR at h
 refine A3 h (fun _=>H4 _ _) fun x6 h=>?_
 refine Ak h fun h=>?_
 refine A3 h (fun _=>Dv _ _ _) fun x21 h=>?_
 exact A0 h
theorem Qf (p0:Aa) (p1:Int) (p2:Int) (R:Bool) (h:Iz p0 p1 p2 = some R):Ao Tryz.prog 34 [.d (Ai p0),.d (.int .i64 p1),.d (.int .i64 p2)] (.d (.bool R)):=by
 refine BP Tryz.func34 ?_
 unfold Iz at h
 refine AF (f:=Ad) h fun x12 _ h=>?_
 refine AH h (fun h=>?_) fun h=>?_
 ·refine A3 h (fun _=>C1 _ _ _ _) fun x19 h=>?_
  exact A0 h
 refine AH h (fun h=>?_) fun h=>?_
 ·refine AF (f:=Ac) h fun x26 _ h=>?_
  conv=>whnf
  refine ⟨⟨by decide +kernel,by kernel_rfl⟩,?_⟩
  conv=>whnf
  obtain ⟨x33,hx33,h⟩:=A7 h
  first | refine AD (C1 _ _ _ _ hx33) ?_ | (simp only [List.length_map]; refine AD (C1 _ _ _ _ hx33) ?_)
  refine Ba h fun h=>?_
  refine A3 h (fun _=>M9 _ _ _) fun x37 h=>?_
  refine A3 h (fun _=>LV _ _) fun x39 h=>?_
  exact A0 h
 refine Ak h fun h=>?_
 refine A3 h (fun _=>C1 _ _ _ _) fun x55 h=>?_
 exact A0 h
theorem Uz (p0:Am) (p1:Int) (p2:Int) (R:Int) (h:Jg p0 p1 p2 = some R):Ao Tryz.prog 35 [.d (Ac p0),.d (.int .i64 p1),.d (.int .i64 p2)] (.d (.int .i64 R)):=by
 refine BP Tryz.func35 ?_
 unfold Jg at h
 refine A3 h (fun _=>H4 _ _) fun x8 h=>?_
 refine Ak h fun h=>?_
 refine A3 h (fun _=>Dv _ _ _) fun x29 h=>?_
 refine Ak h fun h=>?_
 obtain ⟨P1,i1,h⟩:=Az h
 refine loop {p:Nat × Int // P1 p.1 p.2 = some R} (fun p=>B5 44 [(1,.d (.int .i64 p.1.2)),(2,.d (.int .i64 p2)),(3,.ptr 3 1 0)] [(3,.var [.d (.str p0.Name),.d (Aj 2 Bp p0.Codes)],1)]) (fun p=>p.1.1) ⟨(_,_),h⟩ ?_ fun p=>?_
 ·exact Ah
 obtain ⟨⟨k1,v1_1⟩,h⟩:=p
 obtain ⟨k1,rfl,h⟩:=i1 _ _ h
 simp only [Tw] at h
 refine A3 h (fun _=>Dv _ _ _) fun x34 h=>?_
 refine Ba h fun h=>?_
 refine AF (f:=Bp) h fun x40 _ h=>?_
 conv=>whnf
 exact B1 ⟨(_,_),h⟩ Ah
theorem G1 (p0:Av) (p1:Int) (R:Int) (h:C6 p0 p1 = some R):Ao Tryz.prog 36 [.d (Ad p0),.d (.int .i64 p1)] (.d (.int .i64 R)):=by
 refine BP Tryz.func36 ?_
 unfold C6 at h
 refine AF (f:=(D.int .i64)) h fun x12 _ h=>?_
 exact A0 h
theorem Kc (p0:Int) (p1:Int) (R:Int) (h:DX p0 p1 = some R):Ao Tryz.prog 37 [.d (.int .i64 p0),.d (.int .i64 p1)] (.d (.int .i64 R)):=by
 refine BP Tryz.func37 ?_
 unfold DX at h
 conv=>whnf
 obtain ⟨hr,h⟩:=CS h
 refine ⟨of_decide_eq_true hr,?_⟩
 conv=>whnf
 obtain ⟨hr,h⟩:=CS h
 refine ⟨of_decide_eq_true hr,?_⟩
 exact DJ h
theorem BL (p0:Aa) (p1:Int) (p2:Int) (p3:Int) (R:Int) (h:AP p0 p1 p2 p3 = some R):Ao Tryz.prog 10 [.d (Ai p0),.d (.int .i64 p1),.d (.int .i64 p2),.d (.int .i64 p3)] (.d (.int .i64 R)):=by
 refine BP Tryz.func10 ?_
 unfold AP at h
 refine A3 h (fun _=>BX _ _ _) fun x14 h=>?_
 refine A3 h (fun _=>C1 _ _ _ _) fun x15 h=>?_
 refine Ak h fun h=>?_
 refine AF (f:=Ad) h fun x20 _ h=>?_
 refine AH h (fun h=>?_) fun h=>?_
 ·refine A3 h (fun _=>Qf _ _ _ _) fun x28 h=>?_
  refine Ak h fun h=>?_
  refine AF (f:=Ac) h fun x34 _ h=>?_
  refine A3 h (fun _=>Uz _ _ _ _) fun x38 h=>?_
  exact A0 h
 refine AH h (fun h=>?_) fun h=>?_
 ·refine A3 h (fun _=>C1 _ _ _ _) fun x43 h=>?_
  refine Ak h fun h=>?_
  refine Ak h fun h=>?_
  refine Ak h fun h=>?_
  conv=>whnf
  obtain ⟨x53,hx53,h⟩:=A7 h
  refine AD (G1 _ _ _ hx53) ?_
  conv=>whnf
  obtain ⟨x56,hx56,h⟩:=A7 h
  refine AD (Kc _ _ _ hx56) ?_
  exact A0 h
 refine Ak h fun h=>?_
 refine Ak h fun h=>?_
 conv=>whnf
 obtain ⟨x53,hx53,h⟩:=A7 h
 refine AD (G1 _ _ _ hx53) ?_
 conv=>whnf
 obtain ⟨x56,hx56,h⟩:=A7 h
 refine AD (Kc _ _ _ hx56) ?_
 exact A0 h
theorem Oa (p0:B2) (p1:Int) (R:Int) (h:Ig p0 p1 = some R):Ao Tryz.prog 73 [.d (Ie p0),.d (.int .i64 p1)] (.d (.int .i64 R)):=by
 refine BP Tryz.func73 ?_
 unfold Ig at h
 obtain ⟨P1,i1,h⟩:=Az h
 refine loop {p:Nat × Int // P1 p.1 p.2 = some R} (fun p=>B5 32 [(1,.d (.int .i64 p1)),(2,.ptr 2 1 0),(5,.d (.int .i64 p.1.2))] [(2,.var [.d (Aj 2 Ac p0.Schema.Lists),.d (Aj 7 Ad p0.Schema.Columns),.d (Aj 1 (Aj 1 (D.int .i64)) p0.Rows),.d (Aj 1 (D.int .i64) p0.Gone),.d (.int .i64 p0.Version)],1)]) (fun p=>p.1.1) ⟨(_,_),h⟩ ?_ fun p=>?_
 ·exact Ah
 obtain ⟨⟨k1,v5_1⟩,h⟩:=p
 obtain ⟨k1,rfl,h⟩:=i1 _ _ h
 simp only [M7] at h
 refine Ba h fun h=>?_
 refine AF (f:=(Aj 1 (D.int .i64))) h fun x16 _ h=>?_
 refine AH h (fun h=>?_) fun h=>?_
 ·refine AF (f:=(Aj 1 (D.int .i64))) h fun x24 _ h=>?_
  refine AF (f:=(D.int .i64)) h fun x26 _ h=>?_
  refine Ak h fun h=>?_
  conv=>whnf
  exact B1 ⟨(_,_),h⟩ Ah
 exact B1 ⟨(_,_),h⟩ Ah
theorem SZ (p0:Aa) (p1:(List Int)) (R:Int) (h:JE p0 p1 = some R):Ao Tryz.prog 132 [.d (Ai p0),.d (Aj 1 (D.int .i64) p1)] (.d (.int .i64 R)):=by
 refine BP Tryz.func132 ?_
 unfold JE at h
 refine A3 h (fun _=>CR _ _) fun x8 h=>?_
 refine Ak h fun h=>?_
 refine Ak h fun h=>?_
 obtain ⟨P1,i1,h⟩:=Az h
 refine loop {p:Nat × Int // P1 p.1 p.2 = some R} (fun p=>B5 32 [(1,.d (Aj 1 (D.int .i64) p1)),(2,.ptr 2 1 0),(6,.d (.int .i64 p.1.2))] [(2,.var [.d (Aj 2 Ac p0.Lists),.d (Aj 7 Ad p0.Columns)],1)]) (fun p=>p.1.1) ⟨(_,_),h⟩ ?_ fun p=>?_
 ·exact Ah
 obtain ⟨⟨k1,v6_1⟩,h⟩:=p
 obtain ⟨k1,rfl,h⟩:=i1 _ _ h
 simp only [Lo] at h
 refine Ba h fun h=>?_
 conv=>whnf
 refine ⟨⟨by decide +kernel,by kernel_rfl⟩,?_⟩
 refine AF (f:=(D.int .i64)) h fun x28 _ h=>?_
 refine A3 h (fun _=>Qf _ _ _ _) fun x30 h=>?_
 refine Ak h fun h=>?_
 conv=>whnf
 exact B1 ⟨(_,_),h⟩ Ah
theorem Ql (p0:B2) (R:Bool) (h:Iw p0 = some R):Ao Tryz.prog 70 [.d (Ie p0)] (.d (.bool R)):=by
 refine CO [8] Tryz.func70 (by kernel_rfl) ?_
 unfold Iw at h
 refine A3 h (fun _=>CR _ _) fun x7 h=>?_
 refine Ak h fun h=>?_
 refine Er {p:Unit // Jl p0 = some R} (fun p=>B5 118 [(1,.ptr 1 1 0)] [(1,.var [.d (Aj 2 Ac p0.Schema.Lists),.d (Aj 7 Ad p0.Schema.Columns),.d (Aj 1 (Aj 1 (D.int .i64)) p0.Rows),.d (Aj 1 (D.int .i64) p0.Gone),.d (.int .i64 p0.Version)],1)]) ?_ fun p=>?_
 ·obtain ⟨P1,i1,h⟩:=Az h
  refine loop {p:Nat × Int // P1 p.1 p.2 = some R} (fun p=>B5 118 [(1,.ptr 1 1 0),(3,.d (.int .i64 p.1.2))] [(1,.var [.d (Aj 2 Ac p0.Schema.Lists),.d (Aj 7 Ad p0.Schema.Columns),.d (Aj 1 (Aj 1 (D.int .i64)) p0.Rows),.d (Aj 1 (D.int .i64) p0.Gone),.d (.int .i64 p0.Version)],1)]) (fun p=>p.1.1) ⟨(_,_),h⟩ ?_ fun p=>?_
  ·exact Ah
  obtain ⟨⟨k1,v3_1⟩,h⟩:=p
  obtain ⟨k1,rfl,h⟩:=i1 _ _ h
  simp only [IM] at h
  refine AH h (fun h=>?_) fun h=>?_
  ·conv=>whnf
   refine ⟨⟨by decide +kernel,by kernel_rfl⟩,?_⟩
   refine AF (f:=(Aj 1 (D.int .i64))) h fun x43 _ h=>?_
   refine A3 h (fun _=>SZ _ _ _) fun x45 h=>?_
   refine Ak h fun h=>?_
   refine AH h (fun h=>?_) fun h=>?_
   ·refine AF (f:=(Aj 1 (D.int .i64))) h fun x54 _ h=>?_
    refine AF (f:=(D.int .i64)) h fun x56 _ h=>?_
    refine AF (f:=(Aj 1 (D.int .i64))) h fun x62 _ h=>?_
    refine AF (f:=(D.int .i64)) h fun x64 _ h=>?_
    refine Ak h fun h=>?_
    conv=>whnf
    exact B1 ⟨(_,_),h⟩ Ah
   exact B1 ⟨(_,_),h⟩ Ah
  conv=>whnf
  exact ⟨⟨(),h⟩,Ah⟩
 obtain ⟨_,h⟩:=p
 simp only [Jl] at h
 obtain ⟨P2,i2,h⟩:=Az h
 refine loop {p:Nat × Int // P2 p.1 p.2 = some R} (fun p=>B5 118 [(1,.ptr 1 1 0),(4,.d (.int .i64 p.1.2))] [(1,.var [.d (Aj 2 Ac p0.Schema.Lists),.d (Aj 7 Ad p0.Schema.Columns),.d (Aj 1 (Aj 1 (D.int .i64)) p0.Rows),.d (Aj 1 (D.int .i64) p0.Gone),.d (.int .i64 p0.Version)],1)]) (fun p=>p.1.1) ⟨(_,_),h⟩ ?_ fun p=>?_
 ·exact Ah
 obtain ⟨⟨k2,v4_2⟩,h⟩:=p
 obtain ⟨k2,rfl,h⟩:=i2 _ _ h
 simp only [LM] at h
 refine Ba h fun h=>?_
 conv=>whnf
 refine ⟨⟨by decide +kernel,by kernel_rfl⟩,?_⟩
 refine AF (f:=(D.int .i64)) h fun x79 _ h=>?_
 refine Ak h fun h=>?_
 refine AF (f:=(D.int .i64)) h fun x86 _ h=>?_
 refine Ak h fun h=>?_
 refine AH h (fun h=>?_) fun h=>?_
 ·refine AF (f:=(D.int .i64)) h fun x97 _ h=>?_
  refine AF (f:=(D.int .i64)) h fun x103 _ h=>?_
  refine Ak h fun h=>?_
  refine AF (f:=(D.int .i64)) h fun x113 hx113 h=>?_
  conv=>whnf
  obtain ⟨x115,hx115,h⟩:=A7 h
  refine AD (Oa _ _ _ hx115) ?_
  refine Ak h fun h=>?_
  conv=>whnf
  exact B1 ⟨(_,_),h⟩ Ah
 refine AF (f:=(D.int .i64)) h fun x113 hx113 h=>?_
 conv=>whnf
 obtain ⟨x115,hx115,h⟩:=A7 h
 refine AD (Oa _ _ _ hx115) ?_
 refine Ak h fun h=>?_
 conv=>whnf
 exact B1 ⟨(_,_),h⟩ Ah
theorem Rq (p0:Aa) (p1:Ae) (R:Int) (h:FL p0 p1 = some R):Ao Tryz.prog 153 [.d (Ai p0),.d (Af p1)] (.d (.int .i64 R)):=by
 refine BP Tryz.func153 ?_
 unfold FL at h
 refine A3 h (fun _=>CR _ _) fun x7 h=>?_
 refine Ak h fun h=>?_
 refine Ak h fun h=>?_
 conv=>whnf
 refine ⟨⟨by decide +kernel,by kernel_rfl⟩,?_⟩
 refine A3 h (fun _=>BX _ _ _) fun x27 h=>?_
 refine A3 h (fun _=>C1 _ _ _ _) fun x28 h=>?_
 exact DJ h
theorem Kb (p0:Aa) (p1:(List Ae)) (R:Int) (h:Df p0 p1 = some R):Ao Tryz.prog 92 [.d (Ai p0),.d (Aj 2 Af p1)] (.d (.int .i64 R)):=by
 refine BP Tryz.func92 ?_
 unfold Df at h
 refine A3 h (fun _=>CR _ _) fun x9 h=>?_
 refine Ak h fun h=>?_
 obtain ⟨P1,i1,h⟩:=Az h
 refine loop {p:Nat × Int // P1 p.1 p.2 = some R} (fun p=>B5 44 [(1,.d (Aj 2 Af p1)),(2,.ptr 2 1 0),(6,.d (.int .i64 p.1.2))] [(2,.var [.d (Aj 2 Ac p0.Lists),.d (Aj 7 Ad p0.Columns)],1)]) (fun p=>p.1.1) ⟨(_,_),h⟩ ?_ fun p=>?_
 ·exact Ah
 obtain ⟨⟨k1,v6_1⟩,h⟩:=p
 obtain ⟨k1,rfl,h⟩:=i1 _ _ h
 simp only [D4] at h
 refine Ba h fun h=>?_
 conv=>whnf
 refine ⟨⟨by decide +kernel,by kernel_rfl⟩,?_⟩
 refine AF (f:=Af) h fun x22 _ h=>?_
 refine A3 h (fun _=>Rq _ _ _) fun x24 h=>?_
 refine Ak h fun h=>?_
 conv=>whnf
 refine ⟨⟨by decide +kernel,by kernel_rfl⟩,?_⟩
 refine AH h (fun h=>?_) fun h=>?_
 ·refine AF (f:=Af) h fun x33 _ h=>?_
  refine AF (f:=Af) h fun x39 _ h=>?_
  refine Ak h fun h=>?_
  conv=>whnf
  exact B1 ⟨(_,_),h⟩ Ah
 exact B1 ⟨(_,_),h⟩ Ah
theorem Vc (d:Nat) (self_ref05_count:(Ag→Int→Option Int)) (ih_ref05_count:∀ (p0:Ag) (p1:Int) (R:Int) ,self_ref05_count p0 p1 = some R→Ao Tryz.prog 156 [.d (Aw p0),.d (.int .i64 p1)] (.d (.int .i64 R))) (p0:Ag) (p1:Int) (R:Int) (h:H8 d self_ref05_count p0 p1 = some R):Ao Tryz.prog 156 [.d (Aw p0),.d (.int .i64 p1)] (.d (.int .i64 R)):=by
 refine BP Tryz.func156 ?_
 unfold H8 at h
 obtain ⟨P1,i1,h⟩:=Az h
 refine loop {p:Nat × (Int × Int) // P1 p.1 p.2 = some R} (fun p=>B5 31 [(1,.d (.int .i64 p1)),(2,.ptr 2 1 0),(5,.d (.int .i64 p.1.2.1)),(6,.d (.int .i64 p.1.2.2))] [(2,.var [.d (.int .i64 p0.Op),.d (.int .i64 p0.Column),.d (.int .i64 p0.Code),.d (.int .i64 p0.Low),.d (.int .i64 p0.High),.d (Aj 6 An p0.Kids)],1)]) (fun p=>p.1.1) ⟨(_,(_,_)),h⟩ ?_ fun p=>?_
 ·exact Aq
 obtain ⟨⟨k1,⟨v5_1,v6_1⟩⟩,h⟩:=p
 obtain ⟨k1,rfl,h⟩:=i1 _ _ h
 simp only [GO] at h
 refine BY h fun h=>?_
 refine AF (f:=An) h fun x23 _ h=>?_
 rw [A8 x23]
 conv=>whnf
 obtain ⟨x28,hx28,h⟩:=A7 h
 first | refine AD (ih_ref05_count _ _ _ hx28) ?_ | (simp only [List.length_map]; refine AD (ih_ref05_count _ _ _ hx28) ?_)
 conv=>whnf
 exact B1 ⟨(_,(_,_)),h⟩ Aq
theorem Po:∀ d:Nat,(∀ (p0:Ag) (p1:Int) (R:Int) ,I3 d p0 p1 = some R→Ao Tryz.prog 156 [.d (Aw p0),.d (.int .i64 p1)] (.d (.int .i64 R)))
 | 0=>by
  refine (by intros; rename_i h; cases h)
 | d + 1=>by
  have ih:=Po d
  exact Vc d _ ih
theorem Vm (d:Nat):∀ (p0:Ag) (p1:Int) (R:Int) ,I3 d p0 p1 = some R→Ao Tryz.prog 156 [.d (Aw p0),.d (.int .i64 p1)] (.d (.int .i64 R)):=Po d
theorem UK (d:Nat) (self_ref05_depth:(Ag→Option Int)) (ih_ref05_depth:∀ (p0:Ag) (R:Int) ,self_ref05_depth p0 = some R→Ao Tryz.prog 157 [.d (Aw p0)] (.d (.int .i64 R))) (p0:Ag) (R:Int) (h:Hx d self_ref05_depth p0 = some R):Ao Tryz.prog 157 [.d (Aw p0)] (.d (.int .i64 R)):=by
 refine BP Tryz.func157 ?_
 unfold Hx at h
 obtain ⟨P1,i1,h⟩:=Az h
 refine loop {p:Nat × (Int × Int) // P1 p.1 p.2 = some R} (fun p=>B5 22 [(1,.ptr 1 1 0),(3,.d (.int .i64 p.1.2.1)),(4,.d (.int .i64 p.1.2.2))] [(1,.var [.d (.int .i64 p0.Op),.d (.int .i64 p0.Column),.d (.int .i64 p0.Code),.d (.int .i64 p0.Low),.d (.int .i64 p0.High),.d (Aj 6 An p0.Kids)],1)]) (fun p=>p.1.1) ⟨(_,(_,_)),h⟩ ?_ fun p=>?_
 ·exact Aq
 obtain ⟨⟨k1,⟨v3_1,v4_1⟩⟩,h⟩:=p
 obtain ⟨k1,rfl,h⟩:=i1 _ _ h
 simp only [Jd] at h
 refine BY h fun h=>?_
 refine AF (f:=An) h fun x16 _ h=>?_
 rw [A8 x16]
 conv=>whnf
 obtain ⟨x18,hx18,h⟩:=A7 h
 first | refine AD (ih_ref05_depth _ _ hx18) ?_ | (simp only [List.length_map]; refine AD (ih_ref05_depth _ _ hx18) ?_)
 conv=>whnf
 exact B1 ⟨(_,(_,_)),h⟩ Aq
theorem O5:∀ d:Nat,(∀ (p0:Ag) (R:Int) ,Iy d p0 = some R→Ao Tryz.prog 157 [.d (Aw p0)] (.d (.int .i64 R)))
 | 0=>by
  refine (by intros; rename_i h; cases h)
 | d + 1=>by
  have ih:=O5 d
  exact UK d _ ih
theorem Vk (d:Nat):∀ (p0:Ag) (R:Int) ,Iy d p0 = some R→Ao Tryz.prog 157 [.d (Aw p0)] (.d (.int .i64 R)):=O5 d
theorem Qz (p0:Aa) (p1:Int) (p2:Int) (R:Bool) (h:L5 p0 p1 p2 = some R):Ao Tryz.prog 227 [.d (Ai p0),.d (.int .i64 p1),.d (.int .i64 p2)] (.d (.bool R)):=by
 refine BP Tryz.func227 ?_
 unfold L5 at h
 refine Ba h fun h=>?_
 refine AF (f:=Ad) h fun x20 _ h=>?_
 exact A0 h
end Go.Proofs.YtejfnieiaecpkaaGreatDoor.P
