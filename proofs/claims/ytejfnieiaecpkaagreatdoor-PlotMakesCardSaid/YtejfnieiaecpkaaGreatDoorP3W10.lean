/- Printed by wip/tools/mkw.py: walks: ref21_Bins ref21_Hist ref21_sorted ref21_Quartiles ref21_Box -/
import Derived.Test.YtejfnieiaecpkaaGreatDoorChecked
import Derived.Test.YtejfnieiaecpkaaGreatDoorP3F
import Derived.Test.YtejfnieiaecpkaaGreatDoorP3A
import Derived.Test.YtejfnieiaecpkaaGreatDoorP3HW
import Derived.Test.YtejfnieiaecpkaaGreatDoorP3W5
import Derived.Test.YtejfnieiaecpkaaGreatDoorP3W7
import Derived.Test.YtejfnieiaecpkaaGreatDoorP3W8
import Derived.Test.YtejfnieiaecpkaaGreatDoorP3W9
set_option linter.unusedSimpArgs false
namespace Go.Proofs.YtejfnieiaecpkaaGreatDoor.P
open Go.Abs Go.Proofs
set_option maxRecDepth 100000
set_option maxHeartbeats 4000000
set_option linter.unusedVariables false
theorem W4 (p0:(List Int)) (p1:Int) (R:((List B4) × Int)) (h:GU p0 p1 = some R):Ao Tryz.prog 55 [.d (Aj 1 (D.int .i64) p0),.d (.int .i64 p1)] (.tup [.d (Aj 2 BO R.1),.d (.int .i64 R.2)]):=by
 refine CO [9] Tryz.func55 (by kernel_rfl) ?_
 unfold GU at h
 refine A3 h (fun _=>Qd _ _ _) fun x15 h=>?_
 refine AH h (fun h=>?_) fun h=>?_
 ·conv=>whnf
  obtain rfl:=Option.some.inj h
  refine ⟨.inl ?_⟩
  conv=>whnf
  exact ⟨HO⟩
 refine Er {p:(List Int) // Kd p0 p1 p = some R} (fun p=>B5 79 [(0,.d (Aj 1 (D.int .i64) p0)),(1,.d (.int .i64 p1)),(7,.d (Aj 1 (D.int .i64) p.1))] []) ?_ fun p=>?_
 ·obtain ⟨P1,i1,h⟩:=Az h
  refine loop {p:Nat × ((List Int) × Int) // P1 p.1 p.2 = some R} (fun p=>B5 79 [(0,.d (Aj 1 (D.int .i64) p0)),(1,.d (.int .i64 p1)),(7,.d (Aj 1 (D.int .i64) p.1.2.1)),(8,.d (.int .i64 p.1.2.2))] []) (fun p=>p.1.1) ⟨(_,(_,_)),h⟩ ?_ fun p=>?_
  ·exact Ah
  obtain ⟨⟨k1,⟨v7_1,v8_1⟩⟩,h⟩:=p
  obtain ⟨k1,rfl,h⟩:=i1 _ _ h
  simp only [Kh] at h
  refine AH h (fun h=>?_) fun h=>?_
  ·refine AF (f:=(D.int .i64)) h fun x28 _ h=>?_
   refine A3 h (fun _=>Kc _ _ _) fun x31 h=>?_
   refine A3 h (fun _=>X9 _ _ _) fun x34 h=>?_
   conv=>whnf
   exact B1 ⟨(_,(_,_)),h⟩ Ah
  conv=>whnf
  exact ⟨⟨_,h⟩,Ah⟩
 obtain ⟨j7_1,h⟩:=p
 simp only [Kd] at h
 obtain ⟨P2,i2,h⟩:=Az h
 refine loop {p:Nat × (Int × (List B4)) // P2 p.1 p.2 = some R} (fun p=>B5 79 [(0,.d (Aj 1 (D.int .i64) p0)),(1,.d (.int .i64 p1)),(7,.d (Aj 1 (D.int .i64) j7_1)),(9,.sl 9 1),(10,.d (.int .i64 p.1.2.1))] [(9,.row 2 106 (List.map BO p.1.2.2),1)]) (fun p=>p.1.1) ⟨(_,(_,_)),h⟩ ?_ fun p=>?_
 ·exact Ah
 obtain ⟨⟨k2,⟨v10_2,b9_2⟩⟩,h⟩:=p
 obtain ⟨k2,rfl,h⟩:=i2 _ _ h
 simp only [Ku] at h
 refine AH h (fun h=>?_) fun h=>?_
 ·refine AF (f:=(D.int .i64)) h fun x43 _ h=>?_
  obtain ⟨P3,i3,h⟩:=Az h
  refine loop {p:Nat × (Int × B4) // P3 p.1 p.2 = some R} (fun p=>B5 79 [(0,.d (Aj 1 (D.int .i64) p0)),(1,.d (.int .i64 p1)),(7,.d (Aj 1 (D.int .i64) j7_1)),(9,.sl 9 1),(10,.d (.int .i64 v10_2)),(11,.ptr 11 1 0),(12,.d (.int .i64 p.1.2.1))] [(9,.row 2 106 (List.map BO b9_2),1),(11,.var [.d (.int .i64 p.1.2.2.Low),.d (.int .i64 p.1.2.2.Count)],1)]) (fun p=>p.1.1) ⟨(_,(_,_)),h⟩ ?_ fun p=>?_
  ·exact Ah
  obtain ⟨⟨k3,⟨v12_3,w11_3⟩⟩,h⟩:=p
  obtain ⟨k3,rfl,h⟩:=i3 _ _ h
  simp only [Kq] at h
  refine AH h (fun h=>?_) fun h=>?_
  ·conv=>whnf
   refine ⟨⟨by decide +kernel,by kernel_rfl⟩,?_⟩
   refine AF (f:=(D.int .i64)) h fun x54 _ h=>?_
   refine AH h (fun h=>?_) fun h=>?_
   ·refine AF (f:=(D.int .i64)) h fun x62 _ h=>?_
    refine AH h (fun h=>?_) fun h=>?_
    ·conv=>whnf
     exact B1 ⟨(_,(_,_)),h⟩ Ah
    conv=>whnf
    exact B1 ⟨(_,(_,_)),h⟩ Ah
   exact B1 ⟨(_,(_,_)),h⟩ Ah
  conv=>whnf
  obtain ⟨hr,h⟩:=CS h
  refine ⟨by (simp only [List.length_map]; exact AE hr (of_decide_eq_true (by kernel_rfl)) (.inr (by kernel_rfl))),?_⟩
  try rw [Sp]
  conv=>whnf
  exact B1 ⟨(_,(_,_)),h⟩ Ah
 conv=>whnf
 obtain rfl:=Option.some.inj h
 refine ⟨.inl ?_⟩
 conv=>whnf
 exact ⟨HO⟩
theorem Wq (d:Nat) (p0:Aa) (p1:Au) (p2:Int) (p3:Int) (p4:Ag) (R:((List B4) × (List Int) × Int)) (h:FU d p0 p1 p2 p3 p4 = some R):Ao Tryz.prog 19 [.d (Ai p0),.d (Bh p1),.d (.int .i64 p2),.d (.int .i64 p3),.d (Aw p4)] (.tup [.d (Aj 2 BO R.1),.d (Aj 1 (D.int .i64) R.2.1),.d (.int .i64 R.2.2)]):=by
 refine BP Tryz.func19 ?_
 unfold FU at h
 refine A3 h (fun _=>Ra _ _ _ _ _) fun x28 h=>?_
 refine AH h (fun h=>?_) fun h=>?_
 ·conv=>whnf
  obtain rfl:=Option.some.inj h
  refine ⟨.inl ?_⟩
  conv=>whnf
  refine ⟨.inl ?_⟩
  conv=>whnf
  exact ⟨Pl⟩
 refine A3 h (fun _=>Pa _ _ _ _ _ _) fun x35 h=>?_
 obtain ⟨P1,i1,h⟩:=Az h
 refine loop {p:Nat × (Int × (List Int) × (List Int)) // P1 p.1 p.2 = some R} (fun p=>B5 86 [(2,.d (.int .i64 p2)),(3,.d (.int .i64 p3)),(5,.ptr 5 1 0),(6,.ptr 6 1 0),(14,.d (Aj 1 (D.int .i64) x35)),(15,.sl 15 1),(16,.sl 16 1),(17,.d (.int .i64 p.1.2.1))] [(5,.var [.d (Aj 2 Ac p0.Lists),.d (Aj 7 Ad p0.Columns)],1),(6,.var [.d (.str p1.Project),.d (.int .i64 p1.Version),.d (Aj 2 Af p1.Picks),.d (Aj 1 (Aj 1 (D.int .i64)) p1.Rows)],1),(15,.row 1 3 (List.map (D.int .i64) p.1.2.2.1),1),(16,.row 1 3 (List.map (D.int .i64) p.1.2.2.2),1)]) (fun p=>p.1.1) ⟨(_,(_,_,_)),h⟩ ?_ fun p=>?_
 ·exact Aq
 obtain ⟨⟨k1,⟨v17_1,b15_1,b16_1⟩⟩,h⟩:=p
 obtain ⟨k1,rfl,h⟩:=i1 _ _ h
 simp only [H5] at h
 refine AH h (fun h=>?_) fun h=>?_
 ·conv=>whnf
  refine ⟨⟨by decide +kernel,by kernel_rfl⟩,?_⟩
  refine AF (f:=(D.int .i64)) h fun x47 _ h=>?_
  refine A3 h (fun _=>Qn _ _ _ _) fun x53 h=>?_
  refine A3 h (fun _=>MA _ _ _ _ _ _) fun x54 h=>?_
  refine AH h (fun h=>?_) fun h=>?_
  ·refine AF (f:=(D.int .i64)) h fun x65 _ h=>?_
   conv=>whnf
   obtain ⟨hr,h⟩:=CS h
   refine ⟨by (simp only [List.length_map]; exact AE hr (of_decide_eq_true (by kernel_rfl)) (.inr (by kernel_rfl))),?_⟩
   try rw [G9]
   conv=>whnf
   obtain ⟨hr,h⟩:=CS h
   refine ⟨by (simp only [List.length_map]; exact AE hr (of_decide_eq_true (by kernel_rfl)) (.inr (by kernel_rfl))),?_⟩
   try rw [G9]
   conv=>whnf
   exact B1 ⟨(_,(_,_,_)),h⟩ Aq
  conv=>whnf
  exact B1 ⟨(_,(_,_,_)),h⟩ Aq
 conv=>whnf
 try simp only [Kg] at h
 refine A3 h (fun _=>W4 _ _ _) fun x76 h=>?_
 refine AH h (fun h=>?_) fun h=>?_
 ·conv=>whnf
  obtain rfl:=Option.some.inj h
  refine ⟨.inl ?_⟩
  conv=>whnf
  refine ⟨.inl ?_⟩
  conv=>whnf
  exact ⟨Pl⟩
 refine A3 h (fun _=>R3 _ _ _) fun x85 h=>?_
 exact AK h
theorem Uf (p0:(List Int)) (R:(List Int)) (h:Jo p0 = some R):Ao Tryz.prog 112 [.d (Aj 1 (D.int .i64) p0)] (.d (Aj 1 (D.int .i64) R)):=by
 refine BP Tryz.func112 ?_
 unfold Jo at h
 obtain ⟨P1,i1,h⟩:=Az h
 refine loop {p:Nat × ((List Int) × Int) // P1 p.1 p.2 = some R} (fun p=>B5 45 [(0,.d (Aj 1 (D.int .i64) p0)),(3,.d (Aj 1 (D.int .i64) p.1.2.1)),(4,.d (.int .i64 p.1.2.2))] []) (fun p=>p.1.1) ⟨(_,(_,_)),h⟩ ?_ fun p=>?_
 ·exact Ah
 obtain ⟨⟨k1,⟨v3_1,v4_1⟩⟩,h⟩:=p
 obtain ⟨k1,rfl,h⟩:=i1 _ _ h
 simp only [HJ] at h
 refine AH h (fun h=>?_) fun h=>?_
 ·obtain ⟨P2,i2,h⟩:=Az h
  refine loop {p:Nat × Int // P2 p.1 p.2 = some R} (fun p=>B5 45 [(0,.d (Aj 1 (D.int .i64) p0)),(3,.d (Aj 1 (D.int .i64) v3_1)),(4,.d (.int .i64 v4_1)),(5,.d (.int .i64 p.1.2))] []) (fun p=>p.1.1) ⟨(_,_),h⟩ ?_ fun p=>?_
  ·exact Ah
  obtain ⟨⟨k2,v5_2⟩,h⟩:=p
  obtain ⟨k2,rfl,h⟩:=i2 _ _ h
  simp only [KN] at h
  conv=>whnf
  refine ⟨⟨by decide +kernel,by kernel_rfl⟩,?_⟩
  refine AH h (fun h=>?_) fun h=>?_
  ·refine AF (f:=(D.int .i64)) h fun x20 _ h=>?_
   refine AF (f:=(D.int .i64)) h fun x24 _ h=>?_
   refine AH h (fun h=>?_) fun h=>?_
   ·conv=>whnf
    exact B1 ⟨(_,_),h⟩ Ah
   conv=>whnf
   try simp only [Ex] at h
   refine ⟨⟨by decide +kernel,by kernel_rfl⟩,?_⟩
   conv=>whnf
   obtain ⟨hr,h⟩:=CS h
   refine ⟨by first | exact of_decide_eq_true hr | (simp only [List.length_map]; exact of_decide_eq_true hr),?_⟩
   try simp only [List.length_map]
   rw [SC]
   refine AF (f:=(D.int .i64)) h fun x36 hx36 h=>?_
   conv=>whnf
   obtain ⟨hr,h⟩:=CS h
   refine ⟨by first | exact of_decide_eq_true hr | (simp only [List.length_map]; exact of_decide_eq_true hr),?_⟩
   try simp only [List.length_map]
   rw [SC]
   conv=>whnf
   obtain ⟨hr,h⟩:=CS h
   refine ⟨by (simp only [List.length_map]; exact AE hr (of_decide_eq_true (by kernel_rfl)) (.inr (by kernel_rfl))),?_⟩
   try rw [f5]
   conv=>whnf
   obtain ⟨hr,h⟩:=CS h
   refine ⟨by have h1:=(Bool.and_eq_true_iff.1 hr).1; have h2:=(Bool.and_eq_true_iff.1 hr).2; simp only [List.length_map]; exact ⟨AE h1 (of_decide_eq_true (by kernel_rfl)) (.inr (by kernel_rfl)),fun he=>by first | (simp at he; done) | (simp at he; simp [he] at h2)⟩,?_⟩
   try rw [cY]
   conv=>whnf
   exact B1 ⟨(_,(_,_)),h⟩ Ah
  try simp only [Ex] at h
  refine ⟨⟨by decide +kernel,by kernel_rfl⟩,?_⟩
  conv=>whnf
  obtain ⟨hr,h⟩:=CS h
  refine ⟨by first | exact of_decide_eq_true hr | (simp only [List.length_map]; exact of_decide_eq_true hr),?_⟩
  try simp only [List.length_map]
  rw [SC]
  refine AF (f:=(D.int .i64)) h fun x36 hx36 h=>?_
  conv=>whnf
  obtain ⟨hr,h⟩:=CS h
  refine ⟨by first | exact of_decide_eq_true hr | (simp only [List.length_map]; exact of_decide_eq_true hr),?_⟩
  try simp only [List.length_map]
  rw [SC]
  conv=>whnf
  obtain ⟨hr,h⟩:=CS h
  refine ⟨by (simp only [List.length_map]; exact AE hr (of_decide_eq_true (by kernel_rfl)) (.inr (by kernel_rfl))),?_⟩
  try rw [f5]
  conv=>whnf
  obtain ⟨hr,h⟩:=CS h
  refine ⟨by have h1:=(Bool.and_eq_true_iff.1 hr).1; have h2:=(Bool.and_eq_true_iff.1 hr).2; simp only [List.length_map]; exact ⟨AE h1 (of_decide_eq_true (by kernel_rfl)) (.inr (by kernel_rfl)),fun he=>by first | (simp at he; done) | (simp at he; simp [he] at h2)⟩,?_⟩
  try rw [cY]
  conv=>whnf
  exact B1 ⟨(_,(_,_)),h⟩ Ah
 conv=>whnf
 try simp only [Ex] at h
 exact A0 h
theorem R4 (p0:(List Int)) (R:(He × Int)) (h:DG p0 = some R):Ao Tryz.prog 58 [.d (Aj 1 (D.int .i64) p0)] (.tup [.d (TJ R.1),.d (.int .i64 R.2)]):=by
 refine BP Tryz.func58 ?_
 unfold DG at h
 refine A3 h (fun _=>Qd _ _ _) fun x8 h=>?_
 refine Ak h fun h=>?_
 refine Ak h fun h=>?_
 refine A3 h (fun _=>Uf _ _) fun x19 h=>?_
 conv=>whnf
 refine ⟨⟨by decide +kernel,by kernel_rfl⟩,?_⟩
 refine AF (f:=(D.int .i64)) h fun x22 _ h=>?_
 conv=>whnf
 refine ⟨by omega,?_⟩
 refine AF (f:=(D.int .i64)) h fun x28 _ h=>?_
 conv=>whnf
 refine ⟨by omega,?_⟩
 refine AF (f:=(D.int .i64)) h fun x34 _ h=>?_
 conv=>whnf
 refine ⟨by omega,?_⟩
 refine AF (f:=(D.int .i64)) h fun x41 _ h=>?_
 refine AF (f:=(D.int .i64)) h fun x46 _ h=>?_
 exact A0 h
theorem Xw (d:Nat) (p0:Aa) (p1:Au) (p2:Int) (p3:Ag) (R:(He × (List Int) × Int)) (h:G2 d p0 p1 p2 p3 = some R):Ao Tryz.prog 21 [.d (Ai p0),.d (Bh p1),.d (.int .i64 p2),.d (Aw p3)] (.tup [.d (TJ R.1),.d (Aj 1 (D.int .i64) R.2.1),.d (.int .i64 R.2.2)]):=by
 refine BP Tryz.func21 ?_
 unfold G2 at h
 refine A3 h (fun _=>Ra _ _ _ _ _) fun x24 h=>?_
 refine AH h (fun h=>?_) fun h=>?_
 ·conv=>whnf
  obtain rfl:=Option.some.inj h
  refine ⟨.inl ?_⟩
  conv=>whnf
  exact ⟨Pl⟩
 refine A3 h (fun _=>Pa _ _ _ _ _ _) fun x34 h=>?_
 obtain ⟨P1,i1,h⟩:=Az h
 refine loop {p:Nat × (Int × (List Int)) // P1 p.1 p.2 = some R} (fun p=>B5 72 [(2,.d (.int .i64 p2)),(4,.ptr 4 1 0),(5,.ptr 5 1 0),(8,.ptr 8 1 0),(12,.d (Aj 1 (D.int .i64) x34)),(13,.sl 13 1),(14,.d (.int .i64 p.1.2.1))] [(4,.var [.d (Aj 2 Ac p0.Lists),.d (Aj 7 Ad p0.Columns)],1),(5,.var [.d (.str p1.Project),.d (.int .i64 p1.Version),.d (Aj 2 Af p1.Picks),.d (Aj 1 (Aj 1 (D.int .i64)) p1.Rows)],1),(8,.var [.d (.int .i64 0),.d (.int .i64 0),.d (.int .i64 0),.d (.int .i64 0),.d (.int .i64 0),.d (.int .i64 0)],1),(13,.row 1 3 (List.map (D.int .i64) p.1.2.2),1)]) (fun p=>p.1.1) ⟨(_,(_,_)),h⟩ ?_ fun p=>?_
 ·exact Aq
 obtain ⟨⟨k1,⟨v14_1,b13_1⟩⟩,h⟩:=p
 obtain ⟨k1,rfl,h⟩:=i1 _ _ h
 simp only [Hq] at h
 refine AH h (fun h=>?_) fun h=>?_
 ·conv=>whnf
  refine ⟨⟨by decide +kernel,by kernel_rfl⟩,?_⟩
  refine AF (f:=(D.int .i64)) h fun x46 _ h=>?_
  refine A3 h (fun _=>BX _ _ _) fun x51 h=>?_
  refine A3 h (fun _=>MA _ _ _ _ _ _) fun x52 h=>?_
  conv=>whnf
  obtain ⟨hr,h⟩:=CS h
  refine ⟨by (simp only [List.length_map]; exact AE hr (of_decide_eq_true (by kernel_rfl)) (.inr (by kernel_rfl))),?_⟩
  try rw [G9]
  conv=>whnf
  exact B1 ⟨(_,(_,_)),h⟩ Aq
 conv=>whnf
 try simp only [IB] at h
 refine A3 h (fun _=>R4 _ _) fun x61 h=>?_
 refine AH h (fun h=>?_) fun h=>?_
 ·conv=>whnf
  obtain rfl:=Option.some.inj h
  refine ⟨.inl ?_⟩
  conv=>whnf
  exact ⟨Pl⟩
 conv=>whnf
 refine ⟨⟨by decide +kernel,by kernel_rfl⟩,?_⟩
 refine A3 h (fun _=>R3 _ _ _) fun x71 h=>?_
 exact AK h
end Go.Proofs.YtejfnieiaecpkaaGreatDoor.P
