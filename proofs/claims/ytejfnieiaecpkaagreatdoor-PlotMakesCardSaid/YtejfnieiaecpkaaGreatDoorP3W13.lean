/- Printed by wip/tools/mkw.py: walks: law21_awake law21_PlotMakes -/
import Derived.Test.YtejfnieiaecpkaaGreatDoorChecked
import Derived.Test.YtejfnieiaecpkaaGreatDoorP3F
import Derived.Test.YtejfnieiaecpkaaGreatDoorP3A
import Derived.Test.YtejfnieiaecpkaaGreatDoorP3HW
import Derived.Test.YtejfnieiaecpkaaGreatDoorP3W4
import Derived.Test.YtejfnieiaecpkaaGreatDoorP3W7
import Derived.Test.YtejfnieiaecpkaaGreatDoorP3W10
import Derived.Test.YtejfnieiaecpkaaGreatDoorP3W11
import Derived.Test.YtejfnieiaecpkaaGreatDoorP3W12
set_option linter.unusedSimpArgs false
namespace Go.Proofs.YtejfnieiaecpkaaGreatDoor.P
open Go.Abs Go.Proofs
set_option maxRecDepth 100000
set_option maxHeartbeats 4000000
set_option linter.unusedVariables false
theorem V3 (R:Bool) (h:Kz = some R):Ao Tryz.prog 16 [] (.d (.bool R)):=by
 refine BP Tryz.func16 ?_
 unfold Kz at h
 refine A3 h (fun _=>SU _ _ _) fun x7 h=>?_
 refine A3 h (fun _=>MW _ _) fun x12 h=>?_
 refine Ba h fun h=>?_
 refine A3 h (fun _=>R8 _ _ _) fun x23 h=>?_
 refine Ba h fun h=>?_
 refine ⟨⟨by kernel_rfl,by kernel_rfl⟩,?_⟩
 conv=>whnf
 refine ⟨by kernel_rfl,?_⟩
 exact A0 h
theorem RG (d:Nat) (p0:(List Int)) (p1:Int) (p2:Int) (R:Bool) (h:HI d p0 p1 p2 = some R):Ao Tryz.prog 4 [.d (Aj 1 (D.int .u8) p0),.d (.int .i64 p1),.d (.int .i64 p2)] (.d (.bool R)):=by
 refine CO [21] Tryz.func4 (by kernel_rfl) ?_
 unfold HI at h
 refine A3 h (fun _=>UX _ _) fun x36 h=>?_
 refine KD h (fun _=>QA _ _ _ _) fun x39 h=>?_
 refine A3 h (fun _=>UX _ _) fun x44 h=>?_
 refine KD h (fun _=>O6 _ _ _ _) fun x45 h=>?_
 conv=>whnf
 refine ⟨⟨by decide +kernel,by kernel_rfl⟩,?_⟩
 refine KD h (fun _=>Dn _ _ _) fun x53 h=>?_
 refine KD h (fun _=>G8 _ _ _ _ _) fun x56 h=>?_
 refine AF (f:=Ad) h fun x60 _ h=>?_
 obtain ⟨P1,i1,h⟩:=Az h
 refine loop {p:Nat × Int // P1 p.1 p.2 = some R} (fun p=>B5 166 [(1,.d (.int .i64 p1)),(2,.d (.int .i64 p2)),(13,.ptr 13 1 0),(14,.d (.int .i64 x53.1)),(15,.ptr 15 1 0),(16,.d (Aj 1 (D.int .i64) x60.Widths)),(65,.sl 65 1),(66,.d (.int .i64 (([x39.2.1,x45.2.2.1].length:Nat):Int))),(67,.d (.int .i64 p.1.2))] [(13,.var [.d (Aj 2 Ac x39.1.Schema.Lists),.d (Aj 7 Ad x39.1.Schema.Columns)],1),(15,.var [.d (.int .i64 x56.1.Op),.d (.int .i64 x56.1.Column),.d (.int .i64 x56.1.Code),.d (.int .i64 x56.1.Low),.d (.int .i64 x56.1.High),.d (Aj 6 An x56.1.Kids)],1),(65,.row 4 35 (List.map Bh [x39.2.1,x45.2.2.1]),1)]) (fun p=>p.1.1) ⟨(_,_),h⟩ ?_ fun p=>?_
 ·exact Ah
 obtain ⟨⟨k1,v67_1⟩,h⟩:=p
 obtain ⟨k1,rfl,h⟩:=i1 _ _ h
 simp only [FC] at h
 refine AH h (fun h=>?_) fun h=>?_
 ·refine JP (f:=Bh) h BU fun x69 hx69 h=>?_
  refine Sc (f:=Bh) hx69 BU ?_
  refine A3 h (fun _=>Q6 _ _ _) fun x73 h=>?_
  obtain ⟨P2,i2,h⟩:=Az h
  refine loop {p:Nat × Int // P2 p.1 p.2 = some R} (fun p=>B5 166 [(1,.d (.int .i64 p1)),(2,.d (.int .i64 p2)),(13,.ptr 13 1 0),(14,.d (.int .i64 x53.1)),(15,.ptr 15 1 0),(16,.d (Aj 1 (D.int .i64) x60.Widths)),(18,.ptr 18 1 0),(65,.sl 65 1),(66,.d (.int .i64 (([x39.2.1,x45.2.2.1].length:Nat):Int))),(67,.d (.int .i64 v67_1)),(75,.sl 75 1),(76,.d (.int .i64 (([x53.1,(IntKind.i64.wrap (x73 - 1))].length:Nat):Int))),(77,.d (.int .i64 p.1.2))] [(13,.var [.d (Aj 2 Ac x39.1.Schema.Lists),.d (Aj 7 Ad x39.1.Schema.Columns)],1),(15,.var [.d (.int .i64 x56.1.Op),.d (.int .i64 x56.1.Column),.d (.int .i64 x56.1.Code),.d (.int .i64 x56.1.Low),.d (.int .i64 x56.1.High),.d (Aj 6 An x56.1.Kids)],1),(18,.var [.d (.str x69.Project),.d (.int .i64 x69.Version),.d (Aj 2 Af x69.Picks),.d (Aj 1 (Aj 1 (D.int .i64)) x69.Rows)],1),(65,.row 4 35 (List.map Bh [x39.2.1,x45.2.2.1]),1),(75,.row 1 3 (List.map (D.int .i64) [x53.1,(IntKind.i64.wrap (x73 - 1))]),1)]) (fun p=>p.1.1) ⟨(_,_),h⟩ ?_ fun p=>?_
  ·exact Ah
  obtain ⟨⟨k2,v77_2⟩,h⟩:=p
  obtain ⟨k2,rfl,h⟩:=i2 _ _ h
  simp only [Ga] at h
  refine AH h (fun h=>?_) fun h=>?_
  ·refine JP (f:=(D.int .i64)) h BU fun x79 hx79 h=>?_
   refine Sc (f:=(D.int .i64)) hx79 BU ?_
   refine Er {p:Unit // FN d x39 x69 x79 x56 (P2 k2) v77_2 = some R} (fun p=>B5 166 [(1,.d (.int .i64 p1)),(2,.d (.int .i64 p2)),(13,.ptr 13 1 0),(14,.d (.int .i64 x53.1)),(15,.ptr 15 1 0),(16,.d (Aj 1 (D.int .i64) x60.Widths)),(18,.ptr 18 1 0),(20,.d (.int .i64 x79)),(65,.sl 65 1),(66,.d (.int .i64 (([x39.2.1,x45.2.2.1].length:Nat):Int))),(67,.d (.int .i64 v67_1)),(75,.sl 75 1),(76,.d (.int .i64 (([x53.1,(IntKind.i64.wrap (x73 - 1))].length:Nat):Int))),(77,.d (.int .i64 v77_2))] [(13,.var [.d (Aj 2 Ac x39.1.Schema.Lists),.d (Aj 7 Ad x39.1.Schema.Columns)],1),(15,.var [.d (.int .i64 x56.1.Op),.d (.int .i64 x56.1.Column),.d (.int .i64 x56.1.Code),.d (.int .i64 x56.1.Low),.d (.int .i64 x56.1.High),.d (Aj 6 An x56.1.Kids)],1),(18,.var [.d (.str x69.Project),.d (.int .i64 x69.Version),.d (Aj 2 Af x69.Picks),.d (Aj 1 (Aj 1 (D.int .i64)) x69.Rows)],1),(65,.row 4 35 (List.map Bh [x39.2.1,x45.2.2.1]),1),(75,.row 1 3 (List.map (D.int .i64) [x53.1,(IntKind.i64.wrap (x73 - 1))]),1)]) ?_ fun p=>?_
   ·conv=>whnf
    obtain ⟨x85,hx85,h⟩:=A7 h
    first | refine AD (Q6 _ _ _ hx85) ?_ | (simp only [List.length_map]; refine AD (Q6 _ _ _ hx85) ?_)
    refine AF (f:=(D.int .i64)) h fun x86 _ h=>?_
    obtain ⟨P3,i3,h⟩:=Az h
    refine loop {p:Nat × Int // P3 p.1 p.2 = some R} (fun p=>B5 166 [(1,.d (.int .i64 p1)),(2,.d (.int .i64 p2)),(13,.ptr 13 1 0),(14,.d (.int .i64 x53.1)),(15,.ptr 15 1 0),(16,.d (Aj 1 (D.int .i64) x60.Widths)),(18,.ptr 18 1 0),(20,.d (.int .i64 x79)),(65,.sl 65 1),(66,.d (.int .i64 (([x39.2.1,x45.2.2.1].length:Nat):Int))),(67,.d (.int .i64 v67_1)),(75,.sl 75 1),(76,.d (.int .i64 (([x53.1,(IntKind.i64.wrap (x73 - 1))].length:Nat):Int))),(77,.d (.int .i64 v77_2)),(89,.sl 89 1),(90,.d (.int .i64 (([x86,p2].length:Nat):Int))),(91,.d (.int .i64 p.1.2))] [(13,.var [.d (Aj 2 Ac x39.1.Schema.Lists),.d (Aj 7 Ad x39.1.Schema.Columns)],1),(15,.var [.d (.int .i64 x56.1.Op),.d (.int .i64 x56.1.Column),.d (.int .i64 x56.1.Code),.d (.int .i64 x56.1.Low),.d (.int .i64 x56.1.High),.d (Aj 6 An x56.1.Kids)],1),(18,.var [.d (.str x69.Project),.d (.int .i64 x69.Version),.d (Aj 2 Af x69.Picks),.d (Aj 1 (Aj 1 (D.int .i64)) x69.Rows)],1),(65,.row 4 35 (List.map Bh [x39.2.1,x45.2.2.1]),1),(75,.row 1 3 (List.map (D.int .i64) [x53.1,(IntKind.i64.wrap (x73 - 1))]),1),(89,.row 1 3 (List.map (D.int .i64) [x86,p2]),1)]) (fun p=>p.1.1) ⟨(_,_),h⟩ ?_ fun p=>?_
    ·exact Ah
    obtain ⟨⟨k3,v91_3⟩,h⟩:=p
    obtain ⟨k3,rfl,h⟩:=i3 _ _ h
    simp only [Ge] at h
    refine AH h (fun h=>?_) fun h=>?_
    ·refine JP (f:=(D.int .i64)) h BU fun x93 hx93 h=>?_
     refine Sc (f:=(D.int .i64)) hx93 BU ?_
     refine A3 h (fun _=>Yb _ _ _ _ _ _ _) fun x101 h=>?_
     refine A3 h (fun _=>Wq _ _ _ _ _ _ _) fun x111 h=>?_
     refine Ak h fun h=>?_
     refine A3 h (fun _=>R8 _ _ _) fun x121 h=>?_
     refine Ak h fun h=>?_
     refine A3 h (fun _=>R2 _ _ _) fun x127 h=>?_
     refine Ak h fun h=>?_
     conv=>whnf
     exact B1 ⟨(_,_),h⟩ Ah
    conv=>whnf
    exact ⟨⟨(),h⟩,Ah⟩
   obtain ⟨_,h⟩:=p
   simp only [FN] at h
   refine A3 h (fun _=>YL _ _ _ _ _ _) fun x136 h=>?_
   refine A3 h (fun _=>Xw _ _ _ _ _ _) fun x145 h=>?_
   conv=>whnf
   refine ⟨⟨by kernel_rfl,by kernel_rfl⟩,?_⟩
   conv=>whnf
   refine ⟨by kernel_rfl,?_⟩
   refine Ak h fun h=>?_
   refine A3 h (fun _=>R2 _ _ _) fun x160 h=>?_
   refine Ak h fun h=>?_
   conv=>whnf
   exact B1 ⟨(_,_),h⟩ Ah
  conv=>whnf
  exact B1 ⟨(_,_),h⟩ Ah
 refine A3 h (fun _=>V3  _) fun x165 h=>?_
 exact A0 h
end Go.Proofs.YtejfnieiaecpkaaGreatDoor.P
