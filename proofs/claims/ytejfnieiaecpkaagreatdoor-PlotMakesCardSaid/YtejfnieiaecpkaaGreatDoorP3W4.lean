/- Printed by wip/tools/mkw.py: walks: condition_Told tabulate_Holding extract_Known_c1 schema_turnCode schema_turnMeasure schema_Turned extract_Known plot_large plot_down plot_Bins tabulate_Keys plot_Hist plot_Quartiles tabulate_Counts_c1_c1 tabulate_Counts_c1 tabulate_Counts tabulate_Values plot_Box -/
import Derived.Test.YtejfnieiaecpkaaGreatDoorChecked
import Derived.Test.YtejfnieiaecpkaaGreatDoorP3F
import Derived.Test.YtejfnieiaecpkaaGreatDoorP3A
import Derived.Test.YtejfnieiaecpkaaGreatDoorP3HW
import Derived.Test.YtejfnieiaecpkaaGreatDoorP3W1
import Derived.Test.YtejfnieiaecpkaaGreatDoorP3W2
import Derived.Test.YtejfnieiaecpkaaGreatDoorP3W3
import Derived.Test.YtejfnieiaecpkaaGreatDoorP3DW
set_option linter.unusedSimpArgs false
namespace Go.Proofs.YtejfnieiaecpkaaGreatDoor.P
open Go.Abs Go.Proofs
set_option maxRecDepth 100000
set_option maxHeartbeats 4000000
set_option linter.unusedVariables false
theorem Ng (d:Nat) (p0:Aa) (p1:Ag) (p2:(List Ae)) (p3:(List Int)) (R:Int) (h:El d p0 p1 p2 p3 = some R):Ao Tryz.prog 82 [.d (Ai p0),.d (Aw p1),.d (Aj 2 Af p2),.d (Aj 1 (D.int .i64) p3)] (.d (.int .i64 R)):=by
 refine CO [6] Tryz.func82 (by kernel_rfl) ?_
 unfold El at h
 conv=>whnf
 obtain ⟨hr,h⟩:=CS h
 refine ⟨by first | exact SO hr (of_decide_eq_true (by kernel_rfl)) | (simp only [List.length_map]; exact SO hr (of_decide_eq_true (by kernel_rfl))),?_⟩
 try rw [dy]
 refine Er {p:(List Int) // EC p2 p3 p0 d p1 p = some R} (fun p=>B5 66 [(2,.d (Aj 2 Af p2)),(3,.d (Aj 1 (D.int .i64) p3)),(4,.ptr 4 1 0),(5,.ptr 5 1 0),(9,.sl 18 1)] [(4,.var [.d (Aj 2 Ac p0.Lists),.d (Aj 7 Ad p0.Columns)],1),(5,.var [.d (.int .i64 p1.Op),.d (.int .i64 p1.Column),.d (.int .i64 p1.Code),.d (.int .i64 p1.Low),.d (.int .i64 p1.High),.d (Aj 6 An p1.Kids)],1),(18,.row 1 3 (List.map (D.int .i64) p.1),1)]) ?_ fun p=>?_
 ·obtain ⟨P1,i1,h⟩:=Az h
  refine loop {p:Nat × (Int × (List Int)) // P1 p.1 p.2 = some R} (fun p=>B5 66 [(2,.d (Aj 2 Af p2)),(3,.d (Aj 1 (D.int .i64) p3)),(4,.ptr 4 1 0),(5,.ptr 5 1 0),(9,.sl 18 1),(10,.d (.int .i64 p.1.2.1))] [(4,.var [.d (Aj 2 Ac p0.Lists),.d (Aj 7 Ad p0.Columns)],1),(5,.var [.d (.int .i64 p1.Op),.d (.int .i64 p1.Column),.d (.int .i64 p1.Code),.d (.int .i64 p1.Low),.d (.int .i64 p1.High),.d (Aj 6 An p1.Kids)],1),(18,.row 1 3 (List.map (D.int .i64) p.1.2.2),1)]) (fun p=>p.1.1) ⟨(_,(_,_)),h⟩ ?_ fun p=>?_
  ·exact Aq
  obtain ⟨⟨k1,⟨v10_1,b18_1⟩⟩,h⟩:=p
  obtain ⟨k1,rfl,h⟩:=i1 _ _ h
  simp only [ED] at h
  refine AH h (fun h=>?_) fun h=>?_
  ·refine A3 h (fun _=>MD _ _ _ _ _) fun x30 h=>?_
   refine JP (f:=(D.int .i64)) h BU fun x33 hx33 h=>?_
   refine Sc (f:=(D.int .i64)) hx33 BU ?_
   conv=>whnf
   try rw [bD]
   exact B1 ⟨(_,(_,_)),h⟩ Aq
  conv=>whnf
  exact ⟨⟨_,h⟩,Aq⟩
 obtain ⟨k18_1,h⟩:=p
 simp only [EC] at h
 obtain ⟨P2,i2,h⟩:=Az h
 refine loop {p:Nat × (Int × (List Int)) // P2 p.1 p.2 = some R} (fun p=>B5 66 [(3,.d (Aj 1 (D.int .i64) p3)),(4,.ptr 4 1 0),(5,.ptr 5 1 0),(9,.sl 18 1),(34,.d (Aj 2 Af p2)),(35,.d (.int .i64 ((p2.length:Nat):Int))),(36,.d (.int .i64 p.1.2.1))] [(4,.var [.d (Aj 2 Ac p0.Lists),.d (Aj 7 Ad p0.Columns)],1),(5,.var [.d (.int .i64 p1.Op),.d (.int .i64 p1.Column),.d (.int .i64 p1.Code),.d (.int .i64 p1.Low),.d (.int .i64 p1.High),.d (Aj 6 An p1.Kids)],1),(18,.row 1 3 (List.map (D.int .i64) p.1.2.2),1)]) (fun p=>p.1.1) ⟨(_,(_,_)),h⟩ ?_ fun p=>?_
 ·exact Aq
 obtain ⟨⟨k2,⟨v36_2,b18_2⟩⟩,h⟩:=p
 obtain ⟨k2,rfl,h⟩:=i2 _ _ h
 simp only [EI] at h
 refine AH h (fun h=>?_) fun h=>?_
 ·refine AF (f:=Af) h fun x39 _ h=>?_
  conv=>whnf
  refine ⟨⟨by decide +kernel,by kernel_rfl⟩,?_⟩
  refine AF (f:=(D.int .i64)) h fun x49 _ h=>?_
  refine A3 h (fun _=>MD _ _ _ _ _) fun x51 h=>?_
  refine A2 h fun h=>?_
  refine JP (f:=(D.int .i64)) h BU fun x60 hx60 h=>?_
  refine Sc (f:=(D.int .i64)) hx60 BU ?_
  conv=>whnf
  try rw [bD]
  exact B1 ⟨(_,(_,_)),h⟩ Aq
 refine A3 h (fun _=>RE _ _ _ _ _) fun x65 h=>?_
 exact AK h
theorem LI (d:Nat) (p0:Aa) (p1:Au) (p2:Ag) (R:(List Int)) (h:DZ d p0 p1 p2 = some R):Ao Tryz.prog 39 [.d (Ai p0),.d (Bh p1),.d (Aw p2)] (.own 1 3 (List.map (D.int .i64) R)):=by
 refine CO [3] Tryz.func39 (by kernel_rfl) ?_
 unfold DZ at h
 refine Er {p:Unit // Fd p1 d p0 p2 = some R} (fun p=>B5 45 [(3,.ptr 3 1 0),(4,.ptr 4 1 0),(5,.ptr 5 1 0)] [(3,.var [.d (Aj 2 Ac p0.Lists),.d (Aj 7 Ad p0.Columns)],1),(4,.var [.d (.str p1.Project),.d (.int .i64 p1.Version),.d (Aj 2 Af p1.Picks),.d (Aj 1 (Aj 1 (D.int .i64)) p1.Rows)],1),(5,.var [.d (.int .i64 p2.Op),.d (.int .i64 p2.Column),.d (.int .i64 p2.Code),.d (.int .i64 p2.Low),.d (.int .i64 p2.High),.d (Aj 6 An p2.Kids)],1)]) ?_ fun p=>?_
 ·conv=>whnf
  refine ⟨⟨by decide +kernel,by kernel_rfl⟩,?_⟩
  refine A3 h (fun _=>EF _ _ _ _) fun x12 h=>?_
  refine AH h (fun h=>?_) fun h=>?_
  ·obtain rfl:=Option.some.inj h
   refine ⟨.inr ?_⟩
   conv=>whnf
   refine ⟨by first | (intro x hx y hy; obtain ⟨n,_,rfl⟩:=List.mem_map.1 hx; simp [D.cells] at hy; subst hy; rfl) | exact fun x hx=>absurd hx (by simp),?_⟩
   conv=>whnf
   exact ⟨Pl⟩
  refine A3 h (fun _=>IP _ _ _ _) fun x19 h=>?_
  refine A3 h (fun _=>L1 _ _ _) fun x20 h=>?_
  refine AH h (fun h=>?_) fun h=>?_
  ·conv=>whnf
   obtain rfl:=Option.some.inj h
   refine ⟨.inr ?_⟩
   conv=>whnf
   refine ⟨by first | (intro x hx y hy; obtain ⟨n,_,rfl⟩:=List.mem_map.1 hx; simp [D.cells] at hy; subst hy; rfl) | exact fun x hx=>absurd hx (by simp),?_⟩
   conv=>whnf
   exact ⟨Pl⟩
  conv=>whnf
  exact ⟨⟨(),h⟩,Aq⟩
 obtain ⟨_,h⟩:=p
 simp only [Fd] at h
 obtain ⟨P1,i1,h⟩:=Az h
 refine loop {p:Nat × (Int × (List Int)) // P1 p.1 p.2 = some R} (fun p=>B5 45 [(3,.ptr 3 1 0),(4,.ptr 4 1 0),(5,.ptr 5 1 0),(7,.sl 7 1),(24,.d (Aj 1 (Aj 1 (D.int .i64)) p1.Rows)),(25,.d (.int .i64 ((p1.Rows.length:Nat):Int))),(26,.d (.int .i64 p.1.2.1))] [(3,.var [.d (Aj 2 Ac p0.Lists),.d (Aj 7 Ad p0.Columns)],1),(4,.var [.d (.str p1.Project),.d (.int .i64 p1.Version),.d (Aj 2 Af p1.Picks),.d (Aj 1 (Aj 1 (D.int .i64)) p1.Rows)],1),(5,.var [.d (.int .i64 p2.Op),.d (.int .i64 p2.Column),.d (.int .i64 p2.Code),.d (.int .i64 p2.Low),.d (.int .i64 p2.High),.d (Aj 6 An p2.Kids)],1),(7,.row 1 3 (List.map (D.int .i64) p.1.2.2),1)]) (fun p=>p.1.1) ⟨(_,(_,_)),h⟩ ?_ fun p=>?_
 ·exact Aq
 obtain ⟨⟨k1,⟨v26_1,b7_1⟩⟩,h⟩:=p
 obtain ⟨k1,rfl,h⟩:=i1 _ _ h
 simp only [Fa] at h
 refine AH h (fun h=>?_) fun h=>?_
 ·refine AF (f:=(Aj 1 (D.int .i64))) h fun x29 _ h=>?_
  conv=>whnf
  refine ⟨⟨by decide +kernel,by kernel_rfl⟩,?_⟩
  conv=>whnf
  obtain ⟨hr,h⟩:=CS h
  refine ⟨by first | exact of_decide_eq_true hr | (simp only [List.length_map]; exact of_decide_eq_true hr),?_⟩
  try simp only [List.length_map]
  rw [SC]
  conv=>whnf
  obtain ⟨x37,hx37,h⟩:=A7 h
  first | refine AD (Ng _ _ _ _ _ _ hx37) ?_ | (simp only [List.length_map]; refine AD (Ng _ _ _ _ _ _ hx37) ?_)
  refine AH h (fun h=>?_) fun h=>?_
  ·conv=>whnf
   obtain ⟨hr,h⟩:=CS h
   refine ⟨by (simp only [List.length_map]; exact AE hr (of_decide_eq_true (by kernel_rfl)) (.inr (by kernel_rfl))),?_⟩
   try rw [G9]
   conv=>whnf
   exact B1 ⟨(_,(_,_)),h⟩ Aq
  conv=>whnf
  exact B1 ⟨(_,(_,_)),h⟩ Aq
 conv=>whnf
 obtain rfl:=Option.some.inj h
 refine ⟨.inr ?_⟩
 conv=>whnf
 refine ⟨by first | (intro x hx y hy; obtain ⟨n,_,rfl⟩:=List.mem_map.1 hx; simp [D.cells] at hy; subst hy; rfl) | exact fun x hx=>absurd hx (by simp),?_⟩
 conv=>whnf
 exact ⟨Pl⟩
theorem Q4 (p0:Ae) (q0:Int) (R:Bool) (h:Hr p0 q0 = some R):Ao Tryz.prog 84 [.d (Af p0),.d (.ptr [(.int .i64 q0)])] (.d (.bool R)):=by
 refine BP Tryz.func84 ?_
 unfold Hr at h
 exact A0 h
theorem Rf (p0:Am) (p1:Int) (p2:Int) (p3:Int) (R:(Int × Bool)) (h:KE p0 p1 p2 p3 = some R):Ao Tryz.prog 148 [.d (Ac p0),.d (.int .i64 p1),.d (.int .i64 p2),.d (.int .i64 p3)] (.tup [.d (.int .i64 R.1),.d (.bool R.2)]):=by
 refine BP Tryz.func148 ?_
 unfold KE at h
 conv=>whnf
 refine ⟨⟨by decide +kernel,by kernel_rfl⟩,?_⟩
 refine A3 h (fun _=>IW _ _) fun x17 h=>?_
 refine A3 h (fun _=>NU _ _ _) fun x19 h=>?_
 obtain ⟨P1,i1,h⟩:=Az h
 refine loop {p:Nat × (Int × Bool × Int) // P1 p.1 p.2 = some R} (fun p=>B5 45 [(1,.d (.int .i64 p1)),(2,.d (.int .i64 p2)),(3,.d (.int .i64 p3)),(4,.ptr 4 1 0),(10,.d (.int .i64 p.1.2.1)),(11,.d (.bool p.1.2.2.1)),(19,.d (Aj 1 (D.int .i64) x19)),(20,.d (.int .i64 ((x19.length:Nat):Int))),(21,.d (.int .i64 p.1.2.2.2))] [(4,.var [.d (.str p0.Name),.d (Aj 2 Bp p0.Codes)],1)]) (fun p=>p.1.1) ⟨(_,(_,_,_)),h⟩ ?_ fun p=>?_
 ·exact Ah
 obtain ⟨⟨k1,⟨v10_1,v11_1,v21_1⟩⟩,h⟩:=p
 obtain ⟨k1,rfl,h⟩:=i1 _ _ h
 simp only [LE] at h
 refine Ba h fun h=>?_
 refine AF (f:=(D.int .i64)) h fun x23 _ h=>?_
 refine A3 h (fun _=>LL _ _ _ _) fun x28 h=>?_
 refine AH h (fun h=>?_) fun h=>?_
 ·conv=>whnf
  exact B1 ⟨(_,(_,_,_)),h⟩ Ah
 refine A3 h (fun _=>LL _ _ _ _) fun x34 h=>?_
 refine Ak h fun h=>?_
 conv=>whnf
 exact B1 ⟨(_,(_,_,_)),h⟩ Ah
theorem OL (p0:Av) (p1:Int) (p2:Int) (p3:Int) (R:(Int × Bool)) (h:Cm p0 p1 p2 p3 = some R):Ao Tryz.prog 149 [.d (Ad p0),.d (.int .i64 p1),.d (.int .i64 p2),.d (.int .i64 p3)] (.tup [.d (.int .i64 R.1),.d (.bool R.2)]):=by
 refine BP Tryz.func149 ?_
 unfold Cm at h
 refine AH h (fun h=>?_) fun h=>?_
 ·refine AH h (fun h=>?_) fun h=>?_
  ·conv=>whnf
   refine ⟨⟨by decide +kernel,by kernel_rfl⟩,?_⟩
   exact A0 h
  conv=>whnf
  refine ⟨⟨by decide +kernel,by kernel_rfl⟩,?_⟩
  exact A0 h
 refine A3 h (fun _=>PX _ _ _ _) fun x31 h=>?_
 refine Ak h fun h=>?_
 refine Ak h fun h=>?_
 refine Ak h fun h=>?_
 refine A3 h (fun _=>L4 _ _ _) fun x50 h=>?_
 refine A3 h (fun _=>G3 _ _ _) fun x53 h=>?_
 refine A3 h (fun _=>G3 _ _ _) fun x56 h=>?_
 refine A3 h (fun _=>G3 _ _ _) fun x59 h=>?_
 exact A0 h
theorem Ow (p0:Aa) (p1:Int) (p2:Int) (p3:Int) (p4:Int) (R:(Int × Bool)) (h:EV p0 p1 p2 p3 p4 = some R):Ao Tryz.prog 85 [.d (Ai p0),.d (.int .i64 p1),.d (.int .i64 p2),.d (.int .i64 p3),.d (.int .i64 p4)] (.tup [.d (.int .i64 R.1),.d (.bool R.2)]):=by
 refine BP Tryz.func85 ?_
 unfold EV at h
 refine A3 h (fun _=>KP _ _ _) fun x18 h=>?_
 refine Ak h fun h=>?_
 refine AF (f:=Ad) h fun x38 _ h=>?_
 refine AH h (fun h=>?_) fun h=>?_
 ·refine AF (f:=Ac) h fun x48 _ h=>?_
  refine A3 h (fun _=>Rf _ _ _ _ _) fun x53 h=>?_
  exact DJ h
 refine A3 h (fun _=>OL _ _ _ _ _) fun x61 h=>?_
 exact DJ h
theorem KK (p0:Aa) (p1:Au) (p2:Int) (p3:Int) (p4:Int) (R:(Int × Bool)) (h:CP p0 p1 p2 p3 p4 = some R):Ao Tryz.prog 40 [.d (Ai p0),.d (Bh p1),.d (.int .i64 p2),.d (.int .i64 p3),.d (.int .i64 p4)] (.tup [.d (.int .i64 R.1),.d (.bool R.2)]):=by
 refine BP Tryz.func40 ?_
 unfold CP at h
 refine A3 h (fun _=>D8 _ _ _ _ _ (fun a0 _ h=>Q4 a0 _ _ h)) fun x16 h=>?_
 refine AH h (fun h=>?_) fun h=>?_
 ·refine A3 h (fun _=>Ow _ _ _ _ _ _) fun x22 h=>?_
  exact A0 h
 conv=>whnf
 refine ⟨⟨by decide +kernel,by kernel_rfl⟩,?_⟩
 refine AF (f:=Af) h fun x30 _ h=>?_
 refine AF (f:=(Aj 1 (D.int .i64))) h fun x36 _ h=>?_
 refine AF (f:=(D.int .i64)) h fun x40 _ h=>?_
 refine A3 h (fun _=>Ow _ _ _ _ _ _) fun x43 h=>?_
 exact A0 h
theorem RO (p0:Int) (R:Bool) (h:Ii p0 = some R):Ao Tryz.prog 87 [.d (.int .i64 p0)] (.d (.bool R)):=by
 refine BP Tryz.func87 ?_
 unfold Ii at h
 exact A0 h
theorem Xt (p0:Int) (p1:Int) (R:Int) (h:P9 p0 p1 = some R):Ao Tryz.prog 90 [.d (.int .i64 p0),.d (.int .i64 p1)] (.d (.int .i64 R)):=by
 refine BP Tryz.func90 ?_
 unfold P9 at h
 conv=>whnf
 obtain ⟨hr,h⟩:=CS h
 refine ⟨of_decide_eq_true hr,?_⟩
 exact DJ h
theorem SU (p0:(List Int)) (p1:Int) (R:((List B4) × Int)) (h:Fk p0 p1 = some R):Ao Tryz.prog 42 [.d (Aj 1 (D.int .i64) p0),.d (.int .i64 p1)] (.tup [.d (Aj 2 BO R.1),.d (.int .i64 R.2)]):=by
 refine CO [5] Tryz.func42 (by kernel_rfl) ?_
 unfold Fk at h
 refine Er {p:Unit // II p0 p1 = some R} (fun p=>B5 71 [(0,.d (Aj 1 (D.int .i64) p0)),(1,.d (.int .i64 p1))] []) ?_ fun p=>?_
 ·refine AH h (fun h=>?_) fun h=>?_
  ·conv=>whnf
   obtain rfl:=Option.some.inj h
   refine ⟨.inl ?_⟩
   conv=>whnf
   exact ⟨HO⟩
  refine AH h (fun h=>?_) fun h=>?_
  ·obtain rfl:=Option.some.inj h
   refine ⟨.inl ?_⟩
   conv=>whnf
   exact ⟨HO⟩
  refine A3 h (fun _=>Ds _ _ _ _ _ (fun a0 _ h=>RO a0  _ h)) fun x25 h=>?_
  refine AH h (fun h=>?_) fun h=>?_
  ·conv=>whnf
   obtain rfl:=Option.some.inj h
   refine ⟨.inl ?_⟩
   conv=>whnf
   exact ⟨HO⟩
  conv=>whnf
  exact ⟨⟨(),h⟩,Ah⟩
 obtain ⟨_,h⟩:=p
 simp only [II] at h
 refine A3 h (fun _=>Ix _ _) fun x28 h=>?_
 refine KD h (fun _=>J1 _ _) fun x30 h=>?_
 obtain ⟨P1,i1,h⟩:=Az h
 refine loop {p:Nat × (Int × (List B4)) // P1 p.1 p.2 = some R} (fun p=>B5 71 [(1,.d (.int .i64 p1)),(7,.sl 7 1),(31,.sl 28 1),(32,.d (.int .i64 ((x30.length:Nat):Int))),(33,.d (.int .i64 p.1.2.1))] [(7,.row 2 106 (List.map BO p.1.2.2),1),(28,.row 1 3 (List.map (D.int .i64) x30),1)]) (fun p=>p.1.1) ⟨(_,(_,_)),h⟩ ?_ fun p=>?_
 ·exact Ah
 obtain ⟨⟨k1,⟨v33_1,b7_1⟩⟩,h⟩:=p
 obtain ⟨k1,rfl,h⟩:=i1 _ _ h
 simp only [Lb] at h
 refine AH h (fun h=>?_) fun h=>?_
 ·refine JP (f:=(D.int .i64)) h BU fun x35 hx35 h=>?_
  refine Sc (f:=(D.int .i64)) hx35 BU ?_
  refine A3 h (fun _=>Xt _ _ _) fun x39 h=>?_
  refine AH h (fun h=>?_) fun h=>?_
  ·obtain ⟨hr,h⟩:=CS h
   refine ⟨by (simp only [List.length_map]; exact AE hr (of_decide_eq_true (by kernel_rfl)) (.inr (by kernel_rfl))),?_⟩
   try rw [Sp]
   refine JP (f:=BO) h BU fun x63 hx63 h=>?_
   refine Sc (f:=BO) hx63 BU ?_
   refine JP (f:=BO) h BU fun x67 hx67 h=>?_
   refine Sc (f:=BO) hx67 BU ?_
   conv=>whnf
   try rw [TT]
   exact B1 ⟨(_,(_,_)),h⟩ Ah
  refine JP (f:=BO) h BU fun x48 hx48 h=>?_
  refine Sc (f:=BO) hx48 BU ?_
  refine AH h (fun h=>?_) fun h=>?_
  ·conv=>whnf
   obtain ⟨hr,h⟩:=CS h
   refine ⟨by (simp only [List.length_map]; exact AE hr (of_decide_eq_true (by kernel_rfl)) (.inr (by kernel_rfl))),?_⟩
   try rw [Sp]
   refine JP (f:=BO) h BU fun x63 hx63 h=>?_
   refine Sc (f:=BO) hx63 BU ?_
   refine JP (f:=BO) h BU fun x67 hx67 h=>?_
   refine Sc (f:=BO) hx67 BU ?_
   conv=>whnf
   try rw [TT]
   exact B1 ⟨(_,(_,_)),h⟩ Ah
  refine JP (f:=BO) h BU fun x63 hx63 h=>?_
  refine Sc (f:=BO) hx63 BU ?_
  refine JP (f:=BO) h BU fun x67 hx67 h=>?_
  refine Sc (f:=BO) hx67 BU ?_
  conv=>whnf
  try rw [TT]
  exact B1 ⟨(_,(_,_)),h⟩ Ah
 conv=>whnf
 obtain rfl:=Option.some.inj h
 refine ⟨.inl ?_⟩
 conv=>whnf
 exact ⟨HO⟩
theorem Oj (p0:Au) (p1:(List Int)) (R:(List Int)) (h:G4 p0 p1 = some R):Ao Tryz.prog 43 [.d (Bh p0),.d (Aj 1 (D.int .i64) p1)] (.d (Aj 1 (D.int .i64) R)):=by
 refine BP Tryz.func43 ?_
 unfold G4 at h
 obtain ⟨P1,i1,h⟩:=Az h
 refine loop {p:Nat × (Int × (List Int)) // P1 p.1 p.2 = some R} (fun p=>B5 26 [(2,.ptr 2 1 0),(5,.sl 5 1),(8,.d (Aj 1 (D.int .i64) p1)),(9,.d (.int .i64 ((p1.length:Nat):Int))),(10,.d (.int .i64 p.1.2.1))] [(2,.var [.d (.str p0.Project),.d (.int .i64 p0.Version),.d (Aj 2 Af p0.Picks),.d (Aj 1 (Aj 1 (D.int .i64)) p0.Rows)],1),(5,.row 1 3 (List.map (D.int .i64) p.1.2.2),1)]) (fun p=>p.1.1) ⟨(_,(_,_)),h⟩ ?_ fun p=>?_
 ·exact Ah
 obtain ⟨⟨k1,⟨v10_1,b5_1⟩⟩,h⟩:=p
 obtain ⟨k1,rfl,h⟩:=i1 _ _ h
 simp only [Hf] at h
 refine AH h (fun h=>?_) fun h=>?_
 ·refine AF (f:=(D.int .i64)) h fun x12 _ h=>?_
  refine AF (f:=(Aj 1 (D.int .i64))) h fun x18 _ h=>?_
  refine AF (f:=(D.int .i64)) h fun x20 _ h=>?_
  conv=>whnf
  obtain ⟨hr,h⟩:=CS h
  refine ⟨by (simp only [List.length_map]; exact AE hr (of_decide_eq_true (by kernel_rfl)) (.inr (by kernel_rfl))),?_⟩
  try rw [G9]
  conv=>whnf
  exact B1 ⟨(_,(_,_)),h⟩ Ah
 conv=>whnf
 obtain rfl:=Option.some.inj h
 refine ⟨.inl ?_⟩
 conv=>whnf
 exact ⟨HO⟩
theorem Yb (d:Nat) (p0:Aa) (p1:Au) (p2:Int) (p3:Int) (p4:Ag) (R:((List B4) × (List Int) × Int)) (h:Hj d p0 p1 p2 p3 p4 = some R):Ao Tryz.prog 11 [.d (Ai p0),.d (Bh p1),.d (.int .i64 p2),.d (.int .i64 p3),.d (Aw p4)] (.tup [.d (Aj 2 BO R.1),.d (Aj 1 (D.int .i64) R.2.1),.d (.int .i64 R.2.2)]):=by
 refine BP Tryz.func11 ?_
 unfold Hj at h
 refine A3 h (fun _=>Qq _ _ _ _ _) fun x28 h=>?_
 refine AH h (fun h=>?_) fun h=>?_
 ·conv=>whnf
  obtain rfl:=Option.some.inj h
  refine ⟨.inl ?_⟩
  conv=>whnf
  refine ⟨.inl ?_⟩
  conv=>whnf
  exact ⟨Pl⟩
 refine A3 h (fun _=>LI _ _ _ _ _) fun x35 h=>?_
 obtain ⟨P1,i1,h⟩:=Az h
 refine loop {p:Nat × (Int × (List Int) × (List Int)) // P1 p.1 p.2 = some R} (fun p=>B5 80 [(2,.d (.int .i64 p2)),(3,.d (.int .i64 p3)),(5,.ptr 5 1 0),(6,.ptr 6 1 0),(14,.sl 14 1),(15,.sl 15 1),(35,.sl 35 1),(36,.d (.int .i64 ((x35.length:Nat):Int))),(37,.d (.int .i64 p.1.2.1))] [(5,.var [.d (Aj 2 Ac p0.Lists),.d (Aj 7 Ad p0.Columns)],1),(6,.var [.d (.str p1.Project),.d (.int .i64 p1.Version),.d (Aj 2 Af p1.Picks),.d (Aj 1 (Aj 1 (D.int .i64)) p1.Rows)],1),(14,.row 1 3 (List.map (D.int .i64) p.1.2.2.1),1),(15,.row 1 3 (List.map (D.int .i64) p.1.2.2.2),1),(35,.row 1 3 (List.map (D.int .i64) x35),1)]) (fun p=>p.1.1) ⟨(_,(_,_,_)),h⟩ ?_ fun p=>?_
 ·exact Aq
 obtain ⟨⟨k1,⟨v37_1,b14_1,b15_1⟩⟩,h⟩:=p
 obtain ⟨k1,rfl,h⟩:=i1 _ _ h
 simp only [Ji] at h
 refine AH h (fun h=>?_) fun h=>?_
 ·refine JP (f:=(D.int .i64)) h BU fun x39 hx39 h=>?_
  refine Sc (f:=(D.int .i64)) hx39 BU ?_
  conv=>whnf
  refine ⟨⟨by decide +kernel,by kernel_rfl⟩,?_⟩
  refine A3 h (fun _=>Om _ _ _ _) fun x49 h=>?_
  refine A3 h (fun _=>KK _ _ _ _ _ _) fun x50 h=>?_
  refine AH h (fun h=>?_) fun h=>?_
  ·conv=>whnf
   obtain ⟨hr,h⟩:=CS h
   refine ⟨by (simp only [List.length_map]; exact AE hr (of_decide_eq_true (by kernel_rfl)) (.inr (by kernel_rfl))),?_⟩
   try rw [G9]
   conv=>whnf
   obtain ⟨hr,h⟩:=CS h
   refine ⟨by (simp only [List.length_map]; exact AE hr (of_decide_eq_true (by kernel_rfl)) (.inr (by kernel_rfl))),?_⟩
   try rw [G9]
   conv=>whnf
   exact B1 ⟨(_,(_,_,_)),h⟩ Aq
  conv=>whnf
  exact B1 ⟨(_,(_,_,_)),h⟩ Aq
 conv=>whnf
 try simp only [Lp] at h
 refine A3 h (fun _=>SU _ _ _) fun x70 h=>?_
 refine AH h (fun h=>?_) fun h=>?_
 ·conv=>whnf
  obtain rfl:=Option.some.inj h
  refine ⟨.inl ?_⟩
  conv=>whnf
  refine ⟨.inl ?_⟩
  conv=>whnf
  exact ⟨Pl⟩
 refine A3 h (fun _=>Oj _ _ _) fun x79 h=>?_
 exact AK h
theorem MW (p0:(List Int)) (R:(He × Int)) (h:Cn p0 = some R):Ao Tryz.prog 47 [.d (Aj 1 (D.int .i64) p0)] (.tup [.d (TJ R.1),.d (.int .i64 R.2)]):=by
 refine BP Tryz.func47 ?_
 unfold Cn at h
 refine Ak h fun h=>?_
 refine A3 h (fun _=>Ds _ _ _ _ _ (fun a0 _ h=>RO a0  _ h)) fun x14 h=>?_
 refine Ak h fun h=>?_
 refine Ak h fun h=>?_
 refine A3 h (fun _=>Ix _ _) fun x21 h=>?_
 refine KD h (fun _=>J1 _ _) fun x23 h=>?_
 conv=>whnf
 refine ⟨⟨by decide +kernel,by kernel_rfl⟩,?_⟩
 refine JP (f:=(D.int .i64)) h BU fun x26 hx26 h=>?_
 refine Sc (f:=(D.int .i64)) hx26 BU ?_
 conv=>whnf
 refine ⟨by omega,?_⟩
 refine JP (f:=(D.int .i64)) h BU fun x32 hx32 h=>?_
 refine Sc (f:=(D.int .i64)) hx32 BU ?_
 conv=>whnf
 refine ⟨by omega,?_⟩
 refine JP (f:=(D.int .i64)) h BU fun x38 hx38 h=>?_
 refine Sc (f:=(D.int .i64)) hx38 BU ?_
 conv=>whnf
 refine ⟨by omega,?_⟩
 refine JP (f:=(D.int .i64)) h BU fun x45 hx45 h=>?_
 refine Sc (f:=(D.int .i64)) hx45 BU ?_
 refine JP (f:=(D.int .i64)) h BU fun x50 hx50 h=>?_
 refine Sc (f:=(D.int .i64)) hx50 BU ?_
 exact A0 h
theorem N8 (p0:Int) (q0:Aa) (q1:Au) (q2:Int) (R:Bool) (h:Dl p0 q0 q1 q2 = some R):Ao Tryz.prog 110 [.d (.int .i64 p0),.d (.ptr [(Aj 2 Ac q0.Lists),(Aj 7 Ad q0.Columns)]),.d (.ptr [(.str q1.Project),(.int .i64 q1.Version),(Aj 2 Af q1.Picks),(Aj 1 (Aj 1 (D.int .i64)) q1.Rows)]),.d (.ptr [(.int .i64 q2)])] (.d (.bool R)):=by
 refine BP Tryz.func110 ?_
 unfold Dl at h
 conv=>whnf
 refine ⟨⟨by decide +kernel,by kernel_rfl⟩,?_⟩
 refine A3 h (fun _=>HS _ _ _) fun x15 h=>?_
 refine A3 h (fun _=>KK _ _ _ _ _ _) fun x16 h=>?_
 exact A0 h
theorem OD (p0:Int) (q0:(List Int)) (q1:Aa) (q2:Au) (R:Bool) (h:FK p0 q0 q1 q2 = some R):Ao Tryz.prog 109 [.d (.int .i64 p0),.d (.ptr [(Aj 1 (D.int .i64) q0)]),.d (.ptr [(Aj 2 Ac q1.Lists),(Aj 7 Ad q1.Columns)]),.d (.ptr [(.str q2.Project),(.int .i64 q2.Version),(Aj 2 Af q2.Picks),(Aj 1 (Aj 1 (D.int .i64)) q2.Rows)])] (.d (.bool R)):=by
 refine BP Tryz.func109 ?_
 unfold FK at h
 refine A3 h (fun _=>Ds _ _ _ _ _ (fun a0 _ h=>N8 a0 _ _ _ _ h)) fun x8 h=>?_
 exact A0 h
theorem Rk (d:Nat) (p0:Aa) (p1:Au) (p2:Ag) (p3:(List Int)) (R:(List Int)) (h:Gv d p0 p1 p2 p3 = some R):Ao Tryz.prog 56 [.d (Ai p0),.d (Bh p1),.d (Aw p2),.d (Aj 1 (D.int .i64) p3)] (.d (Aj 1 (D.int .i64) R)):=by
 refine BP Tryz.func56 ?_
 unfold Gv at h
 refine A3 h (fun _=>Oi _ _ _) fun x11 h=>?_
 refine AH h (fun h=>?_) fun h=>?_
 ·conv=>whnf
  obtain rfl:=Option.some.inj h
  refine ⟨.inl ?_⟩
  conv=>whnf
  exact ⟨Pl⟩
 refine A3 h (fun _=>LI _ _ _ _ _) fun x16 h=>?_
 refine KD h (fun _=>KQ _ _ _ _ _ (fun a0 _ h=>OD a0 _ _ _ _ h)) fun x18 h=>?_
 conv=>whnf
 obtain rfl:=Option.some.inj h
 refine ⟨.inl ?_⟩
 conv=>whnf
 exact ⟨Pl⟩
theorem Rc (p0:Aa) (p1:Au) (p2:(List Int)) (p3:Int) (R:(List Int)) (h:Gq p0 p1 p2 p3 = some R):Ao Tryz.prog 57 [.d (Ai p0),.d (Bh p1),.d (Aj 1 (D.int .i64) p2),.d (.int .i64 p3)] (.d (Aj 1 (D.int .i64) R)):=by
 refine BP Tryz.func57 ?_
 unfold Gq at h
 obtain ⟨P1,i1,h⟩:=Az h
 refine loop {p:Nat × (Int × (List Int)) // P1 p.1 p.2 = some R} (fun p=>B5 37 [(3,.d (.int .i64 p3)),(4,.ptr 4 1 0),(5,.ptr 5 1 0),(9,.sl 9 1),(14,.d (Aj 1 (D.int .i64) p2)),(15,.d (.int .i64 ((p2.length:Nat):Int))),(16,.d (.int .i64 p.1.2.1))] [(4,.var [.d (Aj 2 Ac p0.Lists),.d (Aj 7 Ad p0.Columns)],1),(5,.var [.d (.str p1.Project),.d (.int .i64 p1.Version),.d (Aj 2 Af p1.Picks),.d (Aj 1 (Aj 1 (D.int .i64)) p1.Rows)],1),(9,.row 1 3 (List.map (D.int .i64) p.1.2.2),1)]) (fun p=>p.1.1) ⟨(_,(_,_)),h⟩ ?_ fun p=>?_
 ·exact Ah
 obtain ⟨⟨k1,⟨v16_1,b9_1⟩⟩,h⟩:=p
 obtain ⟨k1,rfl,h⟩:=i1 _ _ h
 simp only [FR] at h
 refine AH h (fun h=>?_) fun h=>?_
 ·refine AF (f:=(D.int .i64)) h fun x18 _ h=>?_
  conv=>whnf
  refine ⟨⟨by decide +kernel,by kernel_rfl⟩,?_⟩
  refine A3 h (fun _=>HS _ _ _) fun x27 h=>?_
  refine A3 h (fun _=>KK _ _ _ _ _ _) fun x28 h=>?_
  conv=>whnf
  obtain ⟨hr,h⟩:=CS h
  refine ⟨by (simp only [List.length_map]; exact AE hr (of_decide_eq_true (by kernel_rfl)) (.inr (by kernel_rfl))),?_⟩
  try rw [G9]
  conv=>whnf
  exact B1 ⟨(_,(_,_)),h⟩ Ah
 conv=>whnf
 obtain rfl:=Option.some.inj h
 refine ⟨.inl ?_⟩
 conv=>whnf
 exact ⟨HO⟩
theorem YL (d:Nat) (p0:Aa) (p1:Au) (p2:Int) (p3:Ag) (R:(He × (List Int) × Int)) (h:H3 d p0 p1 p2 p3 = some R):Ao Tryz.prog 20 [.d (Ai p0),.d (Bh p1),.d (.int .i64 p2),.d (Aw p3)] (.tup [.d (TJ R.1),.d (Aj 1 (D.int .i64) R.2.1),.d (.int .i64 R.2.2)]):=by
 refine BP Tryz.func20 ?_
 unfold H3 at h
 refine A3 h (fun _=>Qq _ _ _ _ _) fun x20 h=>?_
 refine AH h (fun h=>?_) fun h=>?_
 ·conv=>whnf
  obtain rfl:=Option.some.inj h
  refine ⟨.inl ?_⟩
  conv=>whnf
  exact ⟨Pl⟩
 refine A3 h (fun _=>Rk _ _ _ _ _ _) fun x30 h=>?_
 refine A3 h (fun _=>Rc _ _ _ _ _) fun x36 h=>?_
 refine A3 h (fun _=>MW _ _) fun x37 h=>?_
 refine AH h (fun h=>?_) fun h=>?_
 ·conv=>whnf
  obtain rfl:=Option.some.inj h
  refine ⟨.inl ?_⟩
  conv=>whnf
  exact ⟨Pl⟩
 conv=>whnf
 refine ⟨⟨by decide +kernel,by kernel_rfl⟩,?_⟩
 refine A3 h (fun _=>Oj _ _ _) fun x47 h=>?_
 exact AK h
end Go.Proofs.YtejfnieiaecpkaaGreatDoor.P
