/- Printed by wip/tools/mkw.py: walks: ref02_Block ref02_Can ref13_Check ref05_some ref05_coarse ref05_Coarse ref02_Turn ref13_Inner ref18_Counts ref10_Plan ref16_zero ref16_own -/
import Derived.Test.YtejfnieiaecpkaaGreatDoorChecked
import Derived.Test.YtejfnieiaecpkaaGreatDoorP3F
import Derived.Test.YtejfnieiaecpkaaGreatDoorP3A
import Derived.Test.YtejfnieiaecpkaaGreatDoorP3HW
import Derived.Test.YtejfnieiaecpkaaGreatDoorP3W5
import Derived.Test.YtejfnieiaecpkaaGreatDoorP3W6
import Derived.Test.YtejfnieiaecpkaaGreatDoorP3W7
set_option linter.unusedSimpArgs false
namespace Go.Proofs.YtejfnieiaecpkaaGreatDoor.P
open Go.Abs Go.Proofs
set_option maxRecDepth 100000
set_option maxHeartbeats 40000000
set_option linter.unusedVariables false
theorem MS (p0:Av) (p1:Int) (p2:Int) (R:(Int × Int × Bool)) (h:F4 p0 p1 p2 = some R):Ao Tryz.prog 155 [.d (Ad p0),.d (.int .i64 p1),.d (.int .i64 p2)] (.tup [.d (.int .i64 R.1),.d (.int .i64 R.2.1),.d (.bool R.2.2)]):=by
 refine CO [6] Tryz.func155 (by kernel_rfl) ?_
 unfold F4 at h
 refine AH h (fun h=>?_) fun h=>?_
 ·conv=>whnf
  refine ⟨⟨by decide +kernel,by kernel_rfl⟩,?_⟩
  exact A0 h
 refine A3 h (fun _=>G1 _ _ _) fun x22 h=>?_
 refine Er {p:Unit // GK p2 p0 x22 = some R} (fun p=>B5 52 [(2,.d (.int .i64 p2)),(3,.ptr 3 1 0),(9,.d (.int .i64 x22))] [(3,.var [.d (.str p0.Name),.d (.int .i64 p0.Kind),.d (.int .i64 p0.List_),.d (.int .i64 p0.Low),.d (.int .i64 p0.High),.d (Aj 1 (D.int .i64) p0.Widths),.d (.bool p0.Optional)],1)]) ?_ fun p=>?_
 ·refine Ak h fun h=>?_
  refine A3 h (fun _=>C1 _ _ _ _) fun x27 h=>?_
  refine Ak h fun h=>?_
  obtain ⟨hr,h⟩:=CS h
  refine ⟨of_decide_eq_true hr,?_⟩
  refine Ak h fun h=>?_
  conv=>whnf
  exact ⟨⟨(),h⟩,Ah⟩
 obtain ⟨_,h⟩:=p
 simp only [GK] at h
 conv=>whnf
 refine ⟨⟨by decide +kernel,by kernel_rfl⟩,?_⟩
 exact A0 h
theorem OE (p0:Aa) (p1:Int) (p2:Int) (p3:Int) (R:Bool) (h:Fg p0 p1 p2 p3 = some R):Ao Tryz.prog 93 [.d (Ai p0),.d (.int .i64 p1),.d (.int .i64 p2),.d (.int .i64 p3)] (.d (.bool R)):=by
 refine BP Tryz.func93 ?_
 unfold Fg at h
 refine A3 h (fun _=>BX _ _ _) fun x18 h=>?_
 refine A3 h (fun _=>C1 _ _ _ _) fun x19 h=>?_
 refine Ak h fun h=>?_
 refine AF (f:=Ad) h fun x24 _ h=>?_
 refine AH h (fun h=>?_) fun h=>?_
 ·refine A3 h (fun _=>Fs _ _ _) fun x31 h=>?_
  obtain ⟨P1,i1,h⟩:=Az h
  refine loop {p:Nat × Int // P1 p.1 p.2 = some R} (fun p=>B5 65 [(1,.d (.int .i64 p1)),(2,.d (.int .i64 p2)),(3,.d (.int .i64 p3)),(4,.ptr 4 1 0),(10,.d (Aj 1 (D.int .i64) x31)),(11,.d (.int .i64 p.1.2))] [(4,.var [.d (Aj 2 Ac p0.Lists),.d (Aj 7 Ad p0.Columns)],1)]) (fun p=>p.1.1) ⟨(_,_),h⟩ ?_ fun p=>?_
  ·exact Ah
  obtain ⟨⟨k1,v11_1⟩,h⟩:=p
  obtain ⟨k1,rfl,h⟩:=i1 _ _ h
  simp only [NV] at h
  refine Ba h fun h=>?_
  conv=>whnf
  refine ⟨⟨by decide +kernel,by kernel_rfl⟩,?_⟩
  refine AF (f:=(D.int .i64)) h fun x43 _ h=>?_
  refine A3 h (fun _=>BL _ _ _ _ _) fun x45 h=>?_
  refine Ak h fun h=>?_
  conv=>whnf
  exact B1 ⟨(_,_),h⟩ Ah
 refine Ak h fun h=>?_
 refine A3 h (fun _=>MS _ _ _ _) fun x60 h=>?_
 exact A0 h
theorem PM (p0:Aa) (p1:Au) (R:Int) (h:F8 p0 p1 = some R):Ao Tryz.prog 44 [.d (Ai p0),.d (Bh p1)] (.d (.int .i64 R)):=by
 refine CO [19] Tryz.func44 (by kernel_rfl) ?_
 unfold F8 at h
 refine A3 h (fun _=>CR _ _) fun x11 h=>?_
 refine Ak h fun h=>?_
 refine A3 h (fun _=>EB _ _) fun x17 h=>?_
 refine Ak h fun h=>?_
 refine Ak h fun h=>?_
 refine A3 h (fun _=>Kb _ _ _) fun x30 h=>?_
 refine Ak h fun h=>?_
 refine Ak h fun h=>?_
 obtain ⟨P1,i1,h⟩:=Az h
 refine loop {p:Nat × Int // P1 p.1 p.2 = some R} (fun p=>B5 112 [(2,.ptr 2 1 0),(3,.ptr 3 1 0),(7,.d (.int .i64 p.1.2))] [(2,.var [.d (Aj 2 Ac p0.Lists),.d (Aj 7 Ad p0.Columns)],1),(3,.var [.d (.str p1.Project),.d (.int .i64 p1.Version),.d (Aj 2 Af p1.Picks),.d (Aj 1 (Aj 1 (D.int .i64)) p1.Rows)],1)]) (fun p=>p.1.1) ⟨(_,_),h⟩ ?_ fun p=>?_
 ·exact Ah
 obtain ⟨⟨k1,v7_1⟩,h⟩:=p
 obtain ⟨k1,rfl,h⟩:=i1 _ _ h
 simp only [IX] at h
 refine AH h (fun h=>?_) fun h=>?_
 ·refine AF (f:=(Aj 1 (D.int .i64))) h fun x48 _ h=>?_
  refine Er {p:Unit // IC p1 x48 p0 v7_1 (P1 k1) = some R} (fun p=>B5 112 [(2,.ptr 2 1 0),(3,.ptr 3 1 0),(7,.d (.int .i64 v7_1)),(8,.d (Aj 1 (D.int .i64) x48))] [(2,.var [.d (Aj 2 Ac p0.Lists),.d (Aj 7 Ad p0.Columns)],1),(3,.var [.d (.str p1.Project),.d (.int .i64 p1.Version),.d (Aj 2 Af p1.Picks),.d (Aj 1 (Aj 1 (D.int .i64)) p1.Rows)],1)]) ?_ fun p=>?_
  ·refine Ak h fun h=>?_
   refine AF (f:=(D.int .i64)) h fun x59 _ h=>?_
   refine Ak h fun h=>?_
   refine AF (f:=(D.int .i64)) h fun x65 _ h=>?_
   refine Ak h fun h=>?_
   conv=>whnf
   exact ⟨⟨(),h⟩,Ah⟩
  obtain ⟨_,h⟩:=p
  simp only [IC] at h
  obtain ⟨P2,i2,h⟩:=Az h
  refine loop {p:Nat × Int // P2 p.1 p.2 = some R} (fun p=>B5 112 [(2,.ptr 2 1 0),(3,.ptr 3 1 0),(7,.d (.int .i64 v7_1)),(8,.d (Aj 1 (D.int .i64) x48)),(9,.d (.int .i64 p.1.2))] [(2,.var [.d (Aj 2 Ac p0.Lists),.d (Aj 7 Ad p0.Columns)],1),(3,.var [.d (.str p1.Project),.d (.int .i64 p1.Version),.d (Aj 2 Af p1.Picks),.d (Aj 1 (Aj 1 (D.int .i64)) p1.Rows)],1)]) (fun p=>p.1.1) ⟨(_,_),h⟩ ?_ fun p=>?_
  ·exact Ah
  obtain ⟨⟨k2,v9_2⟩,h⟩:=p
  obtain ⟨k2,rfl,h⟩:=i2 _ _ h
  simp only [IG] at h
  refine AH h (fun h=>?_) fun h=>?_
  ·conv=>whnf
   refine ⟨⟨by decide +kernel,by kernel_rfl⟩,?_⟩
   refine AF (f:=Af) h fun x80 _ h=>?_
   refine AF (f:=Af) h fun x86 _ h=>?_
   refine AF (f:=(D.int .i64)) h fun x92 _ h=>?_
   refine A3 h (fun _=>OE _ _ _ _ _) fun x94 h=>?_
   refine Ak h fun h=>?_
   conv=>whnf
   exact B1 ⟨(_,_),h⟩ Ah
  conv=>whnf
  try simp only [Jk] at h
  refine ⟨⟨by decide +kernel,by kernel_rfl⟩,?_⟩
  refine AH h (fun h=>?_) fun h=>?_
  ·refine AF (f:=(D.int .i64)) h fun x100 _ h=>?_
   refine AF (f:=(Aj 1 (D.int .i64))) h fun x106 _ h=>?_
   refine AF (f:=(D.int .i64)) h fun x108 _ h=>?_
   refine Ak h fun h=>?_
   conv=>whnf
   exact B1 ⟨(_,_),h⟩ Ah
  exact B1 ⟨(_,_),h⟩ Ah
 conv=>whnf
 try simp only [Jk] at h
 exact A0 h
theorem Wu (p0:Aa) (p1:Int) (p2:Int) (p3:Int) (R:Int) (h:CM p0 p1 p2 p3 = some R):Ao Tryz.prog 162 [.d (Ai p0),.d (.int .i64 p1),.d (.int .i64 p2),.d (.int .i64 p3)] (.d (.int .i64 R)):=by
 refine BP Tryz.func162 ?_
 unfold CM at h
 refine AF (f:=Ad) h fun x18 _ h=>?_
 refine AH h (fun h=>?_) fun h=>?_
 ·refine A3 h (fun _=>Fs _ _ _) fun x25 h=>?_
  obtain ⟨P1,i1,h⟩:=Az h
  refine loop {p:Nat × Int // P1 p.1 p.2 = some R} (fun p=>B5 62 [(1,.d (.int .i64 p1)),(2,.d (.int .i64 p2)),(3,.d (.int .i64 p3)),(4,.ptr 4 1 0),(10,.d (Aj 1 (D.int .i64) x25)),(11,.d (.int .i64 p.1.2))] [(4,.var [.d (Aj 2 Ac p0.Lists),.d (Aj 7 Ad p0.Columns)],1)]) (fun p=>p.1.1) ⟨(_,_),h⟩ ?_ fun p=>?_
  ·exact Ah
  obtain ⟨⟨k1,v11_1⟩,h⟩:=p
  obtain ⟨k1,rfl,h⟩:=i1 _ _ h
  simp only [MU] at h
  refine Ba h fun h=>?_
  conv=>whnf
  refine ⟨⟨by decide +kernel,by kernel_rfl⟩,?_⟩
  refine AF (f:=(D.int .i64)) h fun x37 _ h=>?_
  refine A3 h (fun _=>BL _ _ _ _ _) fun x39 h=>?_
  refine AH h (fun h=>?_) fun h=>?_
  ·refine AF (f:=(D.int .i64)) h fun x44 _ h=>?_
   exact A0 h
  conv=>whnf
  exact B1 ⟨(_,_),h⟩ Ah
 refine Ak h fun h=>?_
 refine A3 h (fun _=>MS _ _ _ _) fun x57 h=>?_
 exact A0 h
theorem T6 (d:Nat) (self_ref05_coarse:(Aa→Ag→(List Ae)→(List Int)→Option Int)) (ih_ref05_coarse:∀ (p0:Aa) (p1:Ag) (p2:(List Ae)) (p3:(List Int)) (R:Int) ,self_ref05_coarse p0 p1 p2 p3 = some R→Ao Tryz.prog 97 [.d (Ai p0),.d (Aw p1),.d (Aj 2 Af p2),.d (Aj 1 (D.int .i64) p3)] (.d (.int .i64 R))) (p0:Aa) (p1:Ag) (p2:(List Ae)) (p3:(List Int)) (R:Int) (h:Cp d self_ref05_coarse p0 p1 p2 p3 = some R):Ao Tryz.prog 97 [.d (Ai p0),.d (Aw p1),.d (Aj 2 Af p2),.d (Aj 1 (D.int .i64) p3)] (.d (.int .i64 R)):=by
 refine BP Tryz.func97 ?_
 unfold Cp at h
 refine AH h (fun h=>?_) fun h=>?_
 ·obtain ⟨P1,i1,h⟩:=Az h
  refine loop {p:Nat × (Int × Int × Int) // P1 p.1 p.2 = some R} (fun p=>B5 82 [(2,.d (Aj 2 Af p2)),(3,.d (Aj 1 (D.int .i64) p3)),(4,.ptr 4 1 0),(5,.ptr 5 1 0),(9,.d (.int .i64 p.1.2.1)),(10,.d (.int .i64 p.1.2.2.1)),(11,.d (.int .i64 p.1.2.2.2))] [(4,.var [.d (Aj 2 Ac p0.Lists),.d (Aj 7 Ad p0.Columns)],1),(5,.var [.d (.int .i64 p1.Op),.d (.int .i64 p1.Column),.d (.int .i64 p1.Code),.d (.int .i64 p1.Low),.d (.int .i64 p1.High),.d (Aj 6 An p1.Kids)],1)]) (fun p=>p.1.1) ⟨(_,(_,_,_)),h⟩ ?_ fun p=>?_
  ·exact Aq
  obtain ⟨⟨k1,⟨v9_1,v10_1,v11_1⟩⟩,h⟩:=p
  obtain ⟨k1,rfl,h⟩:=i1 _ _ h
  simp only [Gl] at h
  refine AH h (fun h=>?_) fun h=>?_
  ·conv=>whnf
   refine ⟨⟨by decide +kernel,by kernel_rfl⟩,?_⟩
   refine AF (f:=Af) h fun x35 _ h=>?_
   refine AH h (fun h=>?_) fun h=>?_
   ·conv=>whnf
    refine ⟨⟨by decide +kernel,by kernel_rfl⟩,?_⟩
    refine AF (f:=Af) h fun x43 _ h=>?_
    refine AF (f:=(D.int .i64)) h fun x48 _ h=>?_
    conv=>whnf
    exact B1 ⟨(_,(_,_,_)),h⟩ Aq
   conv=>whnf
   exact B1 ⟨(_,(_,_,_)),h⟩ Aq
  conv=>whnf
  refine ⟨⟨by decide +kernel,by kernel_rfl⟩,?_⟩
  refine A3 h (fun _=>Wu _ _ _ _ _) fun x57 h=>?_
  refine A3 h (fun _=>Lc _ _ _ _) fun x58 h=>?_
  exact AK h
 obtain ⟨P2,i2,h⟩:=Az h
 refine loop {p:Nat × (Int × (List Int)) // P2 p.1 p.2 = some R} (fun p=>B5 82 [(2,.d (Aj 2 Af p2)),(3,.d (Aj 1 (D.int .i64) p3)),(4,.ptr 4 1 0),(5,.ptr 5 1 0),(12,.sl 12 1),(13,.d (.int .i64 p.1.2.1))] [(4,.var [.d (Aj 2 Ac p0.Lists),.d (Aj 7 Ad p0.Columns)],1),(5,.var [.d (.int .i64 p1.Op),.d (.int .i64 p1.Column),.d (.int .i64 p1.Code),.d (.int .i64 p1.Low),.d (.int .i64 p1.High),.d (Aj 6 An p1.Kids)],1),(12,.row 1 3 (List.map (D.int .i64) p.1.2.2),1)]) (fun p=>p.1.1) ⟨(_,(_,_)),h⟩ ?_ fun p=>?_
 ·exact Aq
 obtain ⟨⟨k2,⟨v13_2,b12_2⟩⟩,h⟩:=p
 obtain ⟨k2,rfl,h⟩:=i2 _ _ h
 simp only [Gx] at h
 refine AH h (fun h=>?_) fun h=>?_
 ·conv=>whnf
  refine ⟨⟨by decide +kernel,by kernel_rfl⟩,?_⟩
  refine AF (f:=An) h fun x71 _ h=>?_
  rw [A8 x71]
  conv=>whnf
  obtain ⟨x75,hx75,h⟩:=A7 h
  first | refine AD (ih_ref05_coarse _ _ _ _ _ hx75) ?_ | (simp only [List.length_map]; refine AD (ih_ref05_coarse _ _ _ _ _ hx75) ?_)
  conv=>whnf
  obtain ⟨hr,h⟩:=CS h
  refine ⟨by (simp only [List.length_map]; exact AE hr (of_decide_eq_true (by kernel_rfl)) (.inr (by kernel_rfl))),?_⟩
  try rw [G9]
  conv=>whnf
  exact B1 ⟨(_,(_,_)),h⟩ Aq
 refine A3 h (fun _=>QI _ _ _) fun x81 h=>?_
 exact AK h
theorem On:∀ d:Nat,(∀ (p0:Aa) (p1:Ag) (p2:(List Ae)) (p3:(List Int)) (R:Int) ,BJ d p0 p1 p2 p3 = some R→Ao Tryz.prog 97 [.d (Ai p0),.d (Aw p1),.d (Aj 2 Af p2),.d (Aj 1 (D.int .i64) p3)] (.d (.int .i64 R)))
 | 0=>by
  refine (by intros; rename_i h; cases h)
 | d + 1=>by
  have ih:=On d
  exact T6 d _ ih
theorem TZ (d:Nat):∀ (p0:Aa) (p1:Ag) (p2:(List Ae)) (p3:(List Int)) (R:Int) ,BJ d p0 p1 p2 p3 = some R→Ao Tryz.prog 97 [.d (Ai p0),.d (Aw p1),.d (Aj 2 Af p2),.d (Aj 1 (D.int .i64) p3)] (.d (.int .i64 R)):=On d
theorem Pw (d:Nat) (p0:Aa) (p1:Ag) (p2:(List Ae)) (p3:(List Int)) (R:Int) (h:Jy d p0 p1 p2 p3 = some R):Ao Tryz.prog 45 [.d (Ai p0),.d (Aw p1),.d (Aj 2 Af p2),.d (Aj 1 (D.int .i64) p3)] (.d (.int .i64 R)):=by
 refine CO [3] Tryz.func45 (by kernel_rfl) ?_
 unfold Jy at h
 refine Er {p:Unit // HV p2 p3 p0 d p1 = some R} (fun p=>B5 63 [(2,.d (Aj 2 Af p2)),(3,.d (Aj 1 (D.int .i64) p3)),(4,.ptr 4 1 0),(5,.ptr 5 1 0)] [(4,.var [.d (Aj 2 Ac p0.Lists),.d (Aj 7 Ad p0.Columns)],1),(5,.var [.d (.int .i64 p1.Op),.d (.int .i64 p1.Column),.d (.int .i64 p1.Code),.d (.int .i64 p1.Low),.d (.int .i64 p1.High),.d (Aj 6 An p1.Kids)],1)]) ?_ fun p=>?_
 ·refine A3 h (fun _=>DN _ _ _ _) fun x12 h=>?_
  refine A2 h fun h=>?_
  refine A3 h (fun _=>Kb _ _ _) fun x17 h=>?_
  refine A2 h fun h=>?_
  refine A3 h (fun _=>Kl _ _ _ _) fun x30 h=>?_
  refine A3 h (fun _=>LX _ _ _) fun x32 h=>?_
  refine A2 h fun h=>?_
  conv=>whnf
  exact ⟨⟨(),h⟩,Aq⟩
 obtain ⟨_,h⟩:=p
 simp only [HV] at h
 obtain ⟨P1,i1,h⟩:=Az h
 refine loop {p:Nat × Int // P1 p.1 p.2 = some R} (fun p=>B5 63 [(2,.d (Aj 2 Af p2)),(3,.d (Aj 1 (D.int .i64) p3)),(4,.ptr 4 1 0),(5,.ptr 5 1 0),(9,.d (.int .i64 p.1.2))] [(4,.var [.d (Aj 2 Ac p0.Lists),.d (Aj 7 Ad p0.Columns)],1),(5,.var [.d (.int .i64 p1.Op),.d (.int .i64 p1.Column),.d (.int .i64 p1.Code),.d (.int .i64 p1.Low),.d (.int .i64 p1.High),.d (Aj 6 An p1.Kids)],1)]) (fun p=>p.1.1) ⟨(_,_),h⟩ ?_ fun p=>?_
 ·exact Aq
 obtain ⟨⟨k1,v9_1⟩,h⟩:=p
 obtain ⟨k1,rfl,h⟩:=i1 _ _ h
 simp only [HH] at h
 refine AH h (fun h=>?_) fun h=>?_
 ·conv=>whnf
  refine ⟨⟨by decide +kernel,by kernel_rfl⟩,?_⟩
  refine AF (f:=Af) h fun x44 _ h=>?_
  refine AF (f:=Af) h fun x49 _ h=>?_
  refine AF (f:=(D.int .i64)) h fun x54 _ h=>?_
  refine A3 h (fun _=>OE _ _ _ _ _) fun x56 h=>?_
  refine A2 h fun h=>?_
  conv=>whnf
  exact B1 ⟨(_,_),h⟩ Aq
 refine A3 h (fun _=>TZ _ _ _ _ _ _) fun x62 h=>?_
 exact AK h
theorem RK (p0:Aa) (p1:Int) (p2:Int) (p3:Int) (p4:Int) (R:(Int × Bool)) (h:JF p0 p1 p2 p3 p4 = some R):Ao Tryz.prog 98 [.d (Ai p0),.d (.int .i64 p1),.d (.int .i64 p2),.d (.int .i64 p3),.d (.int .i64 p4)] (.tup [.d (.int .i64 R.1),.d (.bool R.2)]):=by
 refine CO [3] Tryz.func98 (by kernel_rfl) ?_
 unfold JF at h
 refine Er {p:Unit // Ka p0 p1 p2 p3 p4 = some R} (fun p=>B5 116 [(1,.d (.int .i64 p1)),(2,.d (.int .i64 p2)),(3,.d (.int .i64 p3)),(4,.d (.int .i64 p4)),(5,.ptr 5 1 0)] [(5,.var [.d (Aj 2 Ac p0.Lists),.d (Aj 7 Ad p0.Columns)],1)]) ?_ fun p=>?_
 ·refine A3 h (fun _=>OE _ _ _ _ _) fun x26 h=>?_
  refine Ak h fun h=>?_
  refine A3 h (fun _=>BX _ _ _) fun x32 h=>?_
  refine A3 h (fun _=>C1 _ _ _ _) fun x33 h=>?_
  refine Ak h fun h=>?_
  conv=>whnf
  exact ⟨⟨(),h⟩,Ah⟩
 obtain ⟨_,h⟩:=p
 simp only [Ka] at h
 refine AF (f:=Ad) h fun x39 _ h=>?_
 refine AH h (fun h=>?_) fun h=>?_
 ·refine A3 h (fun _=>Fs _ _ _) fun x46 h=>?_
  obtain ⟨P1,i1,h⟩:=Az h
  refine loop {p:Nat × (Int × Int) // P1 p.1 p.2 = some R} (fun p=>B5 116 [(1,.d (.int .i64 p1)),(2,.d (.int .i64 p2)),(3,.d (.int .i64 p3)),(4,.d (.int .i64 p4)),(5,.ptr 5 1 0),(13,.d (Aj 1 (D.int .i64) x46)),(14,.d (.int .i64 p.1.2.1)),(15,.d (.int .i64 p.1.2.2))] [(5,.var [.d (Aj 2 Ac p0.Lists),.d (Aj 7 Ad p0.Columns)],1)]) (fun p=>p.1.1) ⟨(_,(_,_)),h⟩ ?_ fun p=>?_
  ·exact Ah
  obtain ⟨⟨k1,⟨v14_1,v15_1⟩⟩,h⟩:=p
  obtain ⟨k1,rfl,h⟩:=i1 _ _ h
  simp only [Qe] at h
  refine Ba h fun h=>?_
  conv=>whnf
  refine ⟨⟨by decide +kernel,by kernel_rfl⟩,?_⟩
  refine AF (f:=(D.int .i64)) h fun x58 _ h=>?_
  refine A3 h (fun _=>BL _ _ _ _ _) fun x60 h=>?_
  refine AH h (fun h=>?_) fun h=>?_
  ·conv=>whnf
   exact B1 ⟨(_,(_,_)),h⟩ Ah
  conv=>whnf
  refine ⟨⟨by decide +kernel,by kernel_rfl⟩,?_⟩
  refine AF (f:=(D.int .i64)) h fun x68 _ h=>?_
  refine A3 h (fun _=>BL _ _ _ _ _) fun x70 h=>?_
  refine Ak h fun h=>?_
  conv=>whnf
  exact B1 ⟨(_,(_,_)),h⟩ Ah
 refine Ak h fun h=>?_
 refine Ak h fun h=>?_
 refine Ak h fun h=>?_
 refine A3 h (fun _=>MS _ _ _ _) fun x98 h=>?_
 conv=>whnf
 refine ⟨⟨by decide +kernel,by kernel_rfl⟩,?_⟩
 refine A3 h (fun _=>BL _ _ _ _ _) fun x106 h=>?_
 refine A3 h (fun _=>BL _ _ _ _ _) fun x111 h=>?_
 exact DJ h
theorem MA (p0:Aa) (p1:Au) (p2:Int) (p3:Int) (p4:Int) (R:(Int × Bool)) (h:EM p0 p1 p2 p3 p4 = some R):Ao Tryz.prog 46 [.d (Ai p0),.d (Bh p1),.d (.int .i64 p2),.d (.int .i64 p3),.d (.int .i64 p4)] (.tup [.d (.int .i64 R.1),.d (.bool R.2)]):=by
 refine BP Tryz.func46 ?_
 unfold EM at h
 refine Ak h fun h=>?_
 obtain ⟨P1,i1,h⟩:=Az h
 refine loop {p:Nat × Int // P1 p.1 p.2 = some R} (fun p=>B5 75 [(2,.d (.int .i64 p2)),(3,.d (.int .i64 p3)),(4,.d (.int .i64 p4)),(5,.ptr 5 1 0),(6,.ptr 6 1 0),(12,.d (.int .i64 p.1.2))] [(5,.var [.d (Aj 2 Ac p0.Lists),.d (Aj 7 Ad p0.Columns)],1),(6,.var [.d (.str p1.Project),.d (.int .i64 p1.Version),.d (Aj 2 Af p1.Picks),.d (Aj 1 (Aj 1 (D.int .i64)) p1.Rows)],1)]) (fun p=>p.1.1) ⟨(_,_),h⟩ ?_ fun p=>?_
 ·exact Ah
 obtain ⟨⟨k1,v12_1⟩,h⟩:=p
 obtain ⟨k1,rfl,h⟩:=i1 _ _ h
 simp only [GM] at h
 refine AH h (fun h=>?_) fun h=>?_
 ·refine AF (f:=Af) h fun x43 _ h=>?_
  refine AH h (fun h=>?_) fun h=>?_
  ·conv=>whnf
   refine ⟨⟨by decide +kernel,by kernel_rfl⟩,?_⟩
   refine AF (f:=Af) h fun x53 _ h=>?_
   refine AF (f:=(Aj 1 (D.int .i64))) h fun x59 _ h=>?_
   refine AF (f:=(D.int .i64)) h fun x63 _ h=>?_
   refine A3 h (fun _=>RK _ _ _ _ _ _) fun x66 h=>?_
   exact A0 h
  conv=>whnf
  exact B1 ⟨(_,_),h⟩ Ah
 refine A3 h (fun _=>RK _ _ _ _ _ _) fun x72 h=>?_
 exact A0 h
theorem Pa (d:Nat) (p0:Aa) (p1:Au) (p2:Ag) (p3:(List Int)) (R:(List Int)) (h:EH d p0 p1 p2 p3 = some R):Ao Tryz.prog 15 [.d (Ai p0),.d (Bh p1),.d (Aw p2),.d (Aj 1 (D.int .i64) p3)] (.d (Aj 1 (D.int .i64) R)):=by
 refine BP Tryz.func15 ?_
 unfold EH at h
 refine A3 h (fun _=>PM _ _ _) fun x17 h=>?_
 refine AH h (fun h=>?_) fun h=>?_
 ·conv=>whnf
  obtain rfl:=Option.some.inj h
  refine ⟨.inl ?_⟩
  conv=>whnf
  exact ⟨Pl⟩
 obtain ⟨P1,i1,h⟩:=Az h
 refine loop {p:Nat × (Int × (List Int)) // P1 p.1 p.2 = some R} (fun p=>B5 75 [(3,.d (Aj 1 (D.int .i64) p3)),(4,.ptr 4 1 0),(5,.ptr 5 1 0),(6,.ptr 6 1 0),(9,.sl 9 1),(10,.d (.int .i64 p.1.2.1))] [(4,.var [.d (Aj 2 Ac p0.Lists),.d (Aj 7 Ad p0.Columns)],1),(5,.var [.d (.str p1.Project),.d (.int .i64 p1.Version),.d (Aj 2 Af p1.Picks),.d (Aj 1 (Aj 1 (D.int .i64)) p1.Rows)],1),(6,.var [.d (.int .i64 p2.Op),.d (.int .i64 p2.Column),.d (.int .i64 p2.Code),.d (.int .i64 p2.Low),.d (.int .i64 p2.High),.d (Aj 6 An p2.Kids)],1),(9,.row 1 3 (List.map (D.int .i64) p.1.2.2),1)]) (fun p=>p.1.1) ⟨(_,(_,_)),h⟩ ?_ fun p=>?_
 ·exact Aq
 obtain ⟨⟨k1,⟨v10_1,b9_1⟩⟩,h⟩:=p
 obtain ⟨k1,rfl,h⟩:=i1 _ _ h
 simp only [E0] at h
 refine AH h (fun h=>?_) fun h=>?_
 ·conv=>whnf
  refine ⟨⟨by decide +kernel,by kernel_rfl⟩,?_⟩
  refine AF (f:=(Aj 1 (D.int .i64))) h fun x33 _ h=>?_
  conv=>whnf
  obtain ⟨hr,h⟩:=CS h
  refine ⟨by first | exact of_decide_eq_true hr | (simp only [List.length_map]; exact of_decide_eq_true hr),?_⟩
  try simp only [List.length_map]
  rw [SC]
  conv=>whnf
  obtain ⟨x36,hx36,h⟩:=A7 h
  first | refine AD (Pw _ _ _ _ _ _ hx36) ?_ | (simp only [List.length_map]; refine AD (Pw _ _ _ _ _ _ hx36) ?_)
  obtain ⟨P2,i2,h⟩:=Az h
  refine loop {p:Nat × (Bool × Int) // P2 p.1 p.2 = some R} (fun p=>B5 75 [(3,.d (Aj 1 (D.int .i64) p3)),(4,.ptr 4 1 0),(5,.ptr 5 1 0),(6,.ptr 6 1 0),(9,.sl 9 1),(10,.d (.int .i64 v10_1)),(11,.d (.bool p.1.2.1)),(12,.d (.int .i64 p.1.2.2))] [(4,.var [.d (Aj 2 Ac p0.Lists),.d (Aj 7 Ad p0.Columns)],1),(5,.var [.d (.str p1.Project),.d (.int .i64 p1.Version),.d (Aj 2 Af p1.Picks),.d (Aj 1 (Aj 1 (D.int .i64)) p1.Rows)],1),(6,.var [.d (.int .i64 p2.Op),.d (.int .i64 p2.Column),.d (.int .i64 p2.Code),.d (.int .i64 p2.Low),.d (.int .i64 p2.High),.d (Aj 6 An p2.Kids)],1),(9,.row 1 3 (List.map (D.int .i64) b9_1),1)]) (fun p=>p.1.1) ⟨(_,(_,_)),h⟩ ?_ fun p=>?_
  ·exact Aq
  obtain ⟨⟨k2,⟨v11_2,v12_2⟩⟩,h⟩:=p
  obtain ⟨k2,rfl,h⟩:=i2 _ _ h
  simp only [Gm] at h
  refine AH h (fun h=>?_) fun h=>?_
  ·conv=>whnf
   refine ⟨⟨by decide +kernel,by kernel_rfl⟩,?_⟩
   refine AF (f:=(D.int .i64)) h fun x53 _ h=>?_
   refine AF (f:=(D.int .i64)) h fun x58 _ h=>?_
   refine A3 h (fun _=>BX _ _ _) fun x60 h=>?_
   refine A3 h (fun _=>MA _ _ _ _ _ _) fun x61 h=>?_
   conv=>whnf
   exact B1 ⟨(_,(_,_)),h⟩ Aq
  conv=>whnf
  try simp only [E5] at h
  refine AH h (fun h=>?_) fun h=>?_
  ·conv=>whnf
   obtain ⟨hr,h⟩:=CS h
   refine ⟨by (simp only [List.length_map]; exact AE hr (of_decide_eq_true (by kernel_rfl)) (.inr (by kernel_rfl))),?_⟩
   try rw [G9]
   conv=>whnf
   exact B1 ⟨(_,(_,_)),h⟩ Aq
  conv=>whnf
  exact B1 ⟨(_,(_,_)),h⟩ Aq
 conv=>whnf
 try simp only [E5] at h
 obtain rfl:=Option.some.inj h
 refine ⟨.inl ?_⟩
 conv=>whnf
 exact ⟨Pl⟩
theorem W7 (d:Nat) (p0:Aa) (p1:Ay) (R:((List Ae) × Int)) (h:LR d p0 p1 = some R):Ao Tryz.prog 49 [.d (Ai p0),.d (De p1)] (.tup [.d (Aj 2 Af R.1),.d (.int .i64 R.2)]):=by
 refine BP Tryz.func49 ?_
 unfold LR at h
 refine A3 h (fun _=>M5 _ _ _ _) fun x13 h=>?_
 refine AH h (fun h=>?_) fun h=>?_
 ·conv=>whnf
  obtain rfl:=Option.some.inj h
  refine ⟨.inl ?_⟩
  conv=>whnf
  exact ⟨HO⟩
 obtain ⟨P1,i1,h⟩:=Az h
 refine loop {p:Nat × ((List Ae) × Int) // P1 p.1 p.2 = some R} (fun p=>B5 50 [(2,.ptr 2 1 0),(3,.ptr 3 1 0),(7,.d (Aj 2 Af p.1.2.1)),(8,.d (.int .i64 p.1.2.2))] [(2,.var [.d (Aj 2 Ac p0.Lists),.d (Aj 7 Ad p0.Columns)],1),(3,.var [.d (.str p1.Project),.d (.str p1.Source),.d (.int .i64 p1.Cohort.Op),.d (.int .i64 p1.Cohort.Column),.d (.int .i64 p1.Cohort.Code),.d (.int .i64 p1.Cohort.Low),.d (.int .i64 p1.Cohort.High),.d (Aj 6 An p1.Cohort.Kids),.d (.int .i64 p1.Sample.Part),.d (.int .i64 p1.Sample.Of),.d (.int .i64 p1.Sample.Seed),.d (Aj 17 AY p1.Questions)],1)]) (fun p=>p.1.1) ⟨(_,(_,_)),h⟩ ?_ fun p=>?_
 ·exact Ah
 obtain ⟨⟨k1,⟨v7_1,v8_1⟩⟩,h⟩:=p
 obtain ⟨k1,rfl,h⟩:=i1 _ _ h
 simp only [Km] at h
 refine Ba h fun h=>?_
 conv=>whnf
 refine ⟨⟨by decide +kernel,by kernel_rfl⟩,?_⟩
 refine AF (f:=AY) h fun x28 _ h=>?_
 refine A3 h (fun _=>Qa _ _ _ _) fun x30 h=>?_
 obtain ⟨P2,i2,h⟩:=Az h
 refine loop {p:Nat × ((List Ae) × Int) // P2 p.1 p.2 = some R} (fun p=>B5 50 [(2,.ptr 2 1 0),(3,.ptr 3 1 0),(7,.d (Aj 2 Af p.1.2.1)),(8,.d (.int .i64 v8_1)),(9,.d (Aj 2 Af x30)),(10,.d (.int .i64 p.1.2.2))] [(2,.var [.d (Aj 2 Ac p0.Lists),.d (Aj 7 Ad p0.Columns)],1),(3,.var [.d (.str p1.Project),.d (.str p1.Source),.d (.int .i64 p1.Cohort.Op),.d (.int .i64 p1.Cohort.Column),.d (.int .i64 p1.Cohort.Code),.d (.int .i64 p1.Cohort.Low),.d (.int .i64 p1.Cohort.High),.d (Aj 6 An p1.Cohort.Kids),.d (.int .i64 p1.Sample.Part),.d (.int .i64 p1.Sample.Of),.d (.int .i64 p1.Sample.Seed),.d (Aj 17 AY p1.Questions)],1)]) (fun p=>p.1.1) ⟨(_,(_,_)),h⟩ ?_ fun p=>?_
 ·exact Ah
 obtain ⟨⟨k2,⟨v7_2,v10_2⟩⟩,h⟩:=p
 obtain ⟨k2,rfl,h⟩:=i2 _ _ h
 simp only [Kk] at h
 refine AH h (fun h=>?_) fun h=>?_
 ·conv=>whnf
  refine ⟨⟨by decide +kernel,by kernel_rfl⟩,?_⟩
  refine AF (f:=Af) h fun x40 _ h=>?_
  refine AF (f:=Af) h fun x45 _ h=>?_
  refine A3 h (fun _=>CQ _ _ _ _) fun x48 h=>?_
  conv=>whnf
  exact B1 ⟨(_,(_,_)),h⟩ Ah
 conv=>whnf
 exact B1 ⟨(_,(_,_)),h⟩ Ah
theorem NR (d:Nat) (p0:Ag) (R:Bool) (h:LO d p0 = some R):Ao Tryz.prog 233 [.d (Aw p0)] (.d (.bool R)):=by
 refine BP Tryz.func233 ?_
 unfold LO at h
 refine A3 h (fun _=>R6 _ _ _ _) fun x5 h=>?_
 exact AK h
theorem XF (d:Nat) (p0:AA) (R:Bool) (h:JT d p0 = some R):Ao Tryz.prog 170 [.d (AX p0)] (.d (.bool R)):=by
 refine CO [27] Tryz.func170 (by kernel_rfl) ?_
 unfold JT at h
 refine Er {p:(Bool × Bool × Int × ByteArray × Int × (List Int) × (List Ae)) // B8 p0 d p.1 p.2.1 p.2.2.1 p.2.2.2.1 p.2.2.2.2.1 p.2.2.2.2.2.1 p.2.2.2.2.2.2 = some R} (fun p=>B5 117 [(1,.ptr 1 1 0),(3,.ptr 3 1 0),(4,.d (.bool p.1.1)),(5,.d (.bool p.1.2.1))] [(1,.var [.d (.int .i64 p0.Op),.d (.int .i64 p0.Num),.d (.str p0.Name),.d (.int .i64 p0.Column),.d (Aj 1 (D.int .i64) p0.Columns),.d (Aj 2 Af p0.Dims),.d (.int .i64 p0.Cond.Op),.d (.int .i64 p0.Cond.Column),.d (.int .i64 p0.Cond.Code),.d (.int .i64 p0.Cond.Low),.d (.int .i64 p0.Cond.High),.d (Aj 6 An p0.Cond.Kids),.d (.int .i64 p0.Event.Op),.d (.int .i64 p0.Event.Column),.d (.int .i64 p0.Event.Code),.d (.int .i64 p0.Event.Low),.d (.int .i64 p0.Event.High),.d (Aj 6 An p0.Event.Kids),.d (Aj 19 B6 p0.Kids)],1),(3,.var [.d (.int .i64 p0.Op),.d (.int .i64 p.1.2.2.1),.d (.str p.1.2.2.2.1),.d (.int .i64 p.1.2.2.2.2.1),.d (Aj 1 (D.int .i64) p.1.2.2.2.2.2.1),.d (Aj 2 Af p.1.2.2.2.2.2.2),.d (.int .i64 0),.d (.int .i64 0),.d (.int .i64 0),.d (.int .i64 0),.d (.int .i64 0),.d (.nil 6),.d (.int .i64 0),.d (.int .i64 0),.d (.int .i64 0),.d (.int .i64 0),.d (.int .i64 0),.d (.nil 6),.d (.nil 19)],1)]) ?_ fun p=>?_
 ·refine AH h (fun h=>?_) fun h=>?_
  ·conv=>whnf
   exact ⟨⟨(_,_,_,_,_,_,_),h⟩,Aq⟩
  refine AH h (fun h=>?_) fun h=>?_
  ·conv=>whnf
   exact ⟨⟨(_,_,_,_,_,_,_),h⟩,Aq⟩
  refine AH h (fun h=>?_) fun h=>?_
  ·conv=>whnf
   exact ⟨⟨(_,_,_,_,_,_,_),h⟩,Aq⟩
  conv=>whnf
  refine KI h BU (fun e23 h=>?_) (fun e23 h=>?_)
  ·conv=>whnf
   refine Ld BU e23 ?_
   conv=>whnf
   exact ⟨⟨(_,_,_,_,_,_,_),h⟩,Aq⟩
  conv=>whnf
  refine KI h BU (fun e24 h=>?_) (fun e24 h=>?_)
  ·conv=>whnf
   refine Ld BU e24 ?_
   conv=>whnf
   exact ⟨⟨(_,_,_,_,_,_,_),h⟩,Aq⟩
  refine AH h (fun h=>?_) fun h=>?_
  ·conv=>whnf
   exact ⟨⟨(_,_,_,_,_,_,_),h⟩,Aq⟩
  conv=>whnf
  refine KI h BU (fun e26 h=>?_) (fun e26 h=>?_)
  ·conv=>whnf
   refine Ld BU e26 ?_
   conv=>whnf
   exact ⟨⟨(_,_,_,_,_,_,_),h⟩,Aq⟩
  conv=>whnf
  refine KI h BU (fun e27 h=>?_) (fun e27 h=>?_)
  ·conv=>whnf
   refine Ld BU e27 ?_
   conv=>whnf
   exact ⟨⟨(_,_,_,_,_,_,_),h⟩,Aq⟩
  conv=>whnf
  refine KI h BU (fun e28 h=>?_) (fun e28 h=>?_)
  ·conv=>whnf
   refine Ld BU e28 ?_
   conv=>whnf
   exact ⟨⟨(_,_,_,_,_,_,_),h⟩,Aq⟩
  refine AH h (fun h=>?_) fun h=>?_
  ·conv=>whnf
   exact ⟨⟨(_,_,_,_,_,_,_),h⟩,Aq⟩
  refine AH h (fun h=>?_) fun h=>?_
  ·conv=>whnf
   refine ⟨⟨by decide +kernel,by kernel_rfl⟩,?_⟩
   conv=>whnf
   exact ⟨⟨(_,_,_,_,_,_,_),h⟩,Aq⟩
  refine AH h (fun h=>?_) fun h=>?_
  ·conv=>whnf
   refine ⟨⟨by decide +kernel,by kernel_rfl⟩,?_⟩
   conv=>whnf
   exact ⟨⟨(_,_,_,_,_,_,_),h⟩,Aq⟩
  refine AH h (fun h=>?_) fun h=>?_
  ·conv=>whnf
   exact ⟨⟨(_,_,_,_,_,_,_),h⟩,Aq⟩
  refine BY h fun h=>?_
  conv=>whnf
  refine ⟨⟨by decide +kernel,by kernel_rfl⟩,?_⟩
  conv=>whnf
  exact ⟨⟨(_,_,_,_,_,_,_),h⟩,Aq⟩
 obtain ⟨⟨j4_1,j5_1,k3_1_1,k3_2_1,k3_3_1,k3_4_1,k3_5_1⟩,h⟩:=p
 simp only [B8] at h
 refine BY h fun h=>?_
 refine AH h (fun h=>?_) fun h=>?_
 ·refine A2 h fun h=>?_
  obtain ⟨x114,hx114,h⟩:=A7 h
  refine AD (NR _ _ _ hx114) ?_
  exact AK h
 refine A3 h (fun _=>NR _ _ _) fun x106 h=>?_
 refine BY h fun h=>?_
 refine A2 h fun h=>?_
 obtain ⟨x114,hx114,h⟩:=A7 h
 refine AD (NR _ _ _ hx114) ?_
 exact AK h
end Go.Proofs.YtejfnieiaecpkaaGreatDoor.P
