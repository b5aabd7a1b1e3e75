/- Printed by wip/tools/mkw.py: walks: ref05_node ref05_Check ref08_Is ref08_Dims ref01_Has ref08_Terms ref08_parts ref05_Same ref08_zero ref08_Question ref08_Check ref05_Covers ref05_Raise ref05_Atoms ref01_Under ref05_Atom -/
import Derived.Test.YtejfnieiaecpkaaGreatDoorChecked
import Derived.Test.YtejfnieiaecpkaaGreatDoorP3F
import Derived.Test.YtejfnieiaecpkaaGreatDoorP3A
import Derived.Test.YtejfnieiaecpkaaGreatDoorP3HW
import Derived.Test.YtejfnieiaecpkaaGreatDoorP3W5
set_option linter.unusedSimpArgs false
namespace Go.Proofs.YtejfnieiaecpkaaGreatDoor.P
open Go.Abs Go.Proofs
set_option maxRecDepth 100000
set_option maxHeartbeats 40000000
set_option linter.unusedVariables false
theorem Vp (d:Nat) (self_ref05_node:(Aa→Ag→Option Int)) (ih_ref05_node:∀ (p0:Aa) (p1:Ag) (R:Int) ,self_ref05_node p0 p1 = some R→Ao Tryz.prog 158 [.d (Ai p0),.d (Aw p1)] (.d (.int .i64 R))) (p0:Aa) (p1:Ag) (R:Int) (h:Ja d self_ref05_node p0 p1 = some R):Ao Tryz.prog 158 [.d (Ai p0),.d (Aw p1)] (.d (.int .i64 R)):=by
 refine CO [16,20,22] Tryz.func158 (by kernel_rfl) ?_
 unfold Ja at h
 conv=>whnf
 refine ⟨⟨by decide +kernel,by kernel_rfl⟩,?_⟩
 refine Er {p:(Int × Int × Int × Int × Int) // BB p1 p0 self_ref05_node p.1 p.2.1 p.2.2.1 p.2.2.2.1 p.2.2.2.2 = some R} (fun p=>B5 185 [(2,.ptr 2 1 0),(3,.ptr 3 1 0),(5,.d (.int .i64 p.1.1)),(6,.ptr 6 1 0)] [(2,.var [.d (Aj 2 Ac p0.Lists),.d (Aj 7 Ad p0.Columns)],1),(3,.var [.d (.int .i64 p1.Op),.d (.int .i64 p1.Column),.d (.int .i64 p1.Code),.d (.int .i64 p1.Low),.d (.int .i64 p1.High),.d (Aj 6 An p1.Kids)],1),(6,.var [.d (.int .i64 p1.Op),.d (.int .i64 p.1.2.1),.d (.int .i64 p.1.2.2.1),.d (.int .i64 p.1.2.2.2.1),.d (.int .i64 p.1.2.2.2.2),.d (.nil 6)],1)]) ?_ fun p=>?_
 ·refine AH h (fun h=>?_) fun h=>?_
  ·conv=>whnf
   exact ⟨⟨(_,_,_,_,_),h⟩,Aq⟩
  refine AH h (fun h=>?_) fun h=>?_
  ·conv=>whnf
   refine ⟨⟨by decide +kernel,by kernel_rfl⟩,?_⟩
   conv=>whnf
   exact ⟨⟨(_,_,_,_,_),h⟩,Aq⟩
  refine AH h (fun h=>?_) fun h=>?_
  ·conv=>whnf
   refine ⟨⟨by decide +kernel,by kernel_rfl⟩,?_⟩
   conv=>whnf
   exact ⟨⟨(_,_,_,_,_),h⟩,Aq⟩
  refine AH h (fun h=>?_) fun h=>?_
  ·conv=>whnf
   exact ⟨⟨(_,_,_,_,_),h⟩,Aq⟩
  conv=>whnf
  refine KI h BU (fun e40 h=>?_) (fun e40 h=>?_)
  ·conv=>whnf
   refine Ld BU e40 ?_
   conv=>whnf
   exact ⟨⟨(_,_,_,_,_),h⟩,Aq⟩
  refine AH h (fun h=>?_) fun h=>?_
  ·conv=>whnf
   exact ⟨⟨(_,_,_,_,_),h⟩,Aq⟩
  refine BY h fun h=>?_
  conv=>whnf
  exact ⟨⟨(_,_,_,_,_),h⟩,Aq⟩
 obtain ⟨⟨j5_1,k6_1_1,k6_2_1,k6_3_1,k6_4_1⟩,h⟩:=p
 simp only [BB] at h
 refine A2 h fun h=>?_
 refine Er {p:Unit // Ca p1 p0 self_ref05_node = some R} (fun p=>B5 185 [(2,.ptr 2 1 0),(3,.ptr 3 1 0)] [(2,.var [.d (Aj 2 Ac p0.Lists),.d (Aj 7 Ad p0.Columns)],1),(3,.var [.d (.int .i64 p1.Op),.d (.int .i64 p1.Column),.d (.int .i64 p1.Code),.d (.int .i64 p1.Low),.d (.int .i64 p1.High),.d (Aj 6 An p1.Kids)],1)]) ?_ fun p=>?_
 ·conv=>whnf
  refine KI h BU (fun e29 h=>?_) (fun e29 h=>?_)
  ·refine A3 h (fun _=>Qz _ _ _ _) fun x85 h=>?_
   refine A2 h fun h=>?_
   refine f9 BU (fI e29) ?_
   refine f9 BU (fI e29) ?_
   exact ⟨⟨(),h⟩,Aq⟩
  refine KI h BU (fun e31 h=>?_) (fun e31 h=>?_)
  ·refine A3 h (fun _=>Qz _ _ _ _) fun x96 h=>?_
   refine A2 h fun h=>?_
   refine f9 BU (fI e31) ?_
   exact ⟨⟨(),h⟩,Aq⟩
  refine AH h (fun h=>?_) fun h=>?_
  ·refine A3 h (fun _=>Qz _ _ _ _) fun x108 h=>?_
   refine A2 h fun h=>?_
   refine AF (f:=Ad) h fun x115 _ h=>?_
   refine A2 h fun h=>?_
   conv=>whnf
   exact ⟨⟨(),h⟩,Aq⟩
  exact ⟨⟨(),h⟩,Aq⟩
 obtain ⟨_,h⟩:=p
 simp only [Ca] at h
 refine Er {p:Unit // CC p1 self_ref05_node p0 = some R} (fun p=>B5 185 [(2,.ptr 2 1 0),(3,.ptr 3 1 0)] [(2,.var [.d (Aj 2 Ac p0.Lists),.d (Aj 7 Ad p0.Columns)],1),(3,.var [.d (.int .i64 p1.Op),.d (.int .i64 p1.Column),.d (.int .i64 p1.Code),.d (.int .i64 p1.Low),.d (.int .i64 p1.High),.d (Aj 6 An p1.Kids)],1)]) ?_ fun p=>?_
 ·conv=>whnf
  refine ⟨⟨by decide +kernel,by kernel_rfl⟩,?_⟩
  refine AH h (fun h=>?_) fun h=>?_
  ·refine A2 h fun h=>?_
   refine AF (f:=Ad) h fun x138 _ h=>?_
   refine AF (f:=Ac) h fun x141 _ h=>?_
   refine A2 h fun h=>?_
   conv=>whnf
   exact ⟨⟨(),h⟩,Aq⟩
  exact ⟨⟨(),h⟩,Aq⟩
 obtain ⟨_,h⟩:=p
 simp only [CC] at h
 refine A2 h fun h=>?_
 obtain ⟨P1,i1,h⟩:=Az h
 refine loop {p:Nat × Int // P1 p.1 p.2 = some R} (fun p=>B5 185 [(2,.ptr 2 1 0),(3,.ptr 3 1 0),(7,.d (.int .i64 p.1.2))] [(2,.var [.d (Aj 2 Ac p0.Lists),.d (Aj 7 Ad p0.Columns)],1),(3,.var [.d (.int .i64 p1.Op),.d (.int .i64 p1.Column),.d (.int .i64 p1.Code),.d (.int .i64 p1.Low),.d (.int .i64 p1.High),.d (Aj 6 An p1.Kids)],1)]) (fun p=>p.1.1) ⟨(_,_),h⟩ ?_ fun p=>?_
 ·exact Aq
 obtain ⟨⟨k1,v7_1⟩,h⟩:=p
 obtain ⟨k1,rfl,h⟩:=i1 _ _ h
 simp only [HD] at h
 refine BY h fun h=>?_
 conv=>whnf
 refine ⟨⟨by decide +kernel,by kernel_rfl⟩,?_⟩
 refine AF (f:=An) h fun x179 _ h=>?_
 rw [A8 x179]
 conv=>whnf
 obtain ⟨x181,hx181,h⟩:=A7 h
 first | refine AD (ih_ref05_node _ _ _ hx181) ?_ | (simp only [List.length_map]; refine AD (ih_ref05_node _ _ _ hx181) ?_)
 refine A2 h fun h=>?_
 conv=>whnf
 exact B1 ⟨(_,_),h⟩ Aq
theorem PP:∀ d:Nat,(∀ (p0:Aa) (p1:Ag) (R:Int) ,GZ d p0 p1 = some R→Ao Tryz.prog 158 [.d (Ai p0),.d (Aw p1)] (.d (.int .i64 R)))
 | 0=>by
  refine (by intros; rename_i h; cases h)
 | d + 1=>by
  have ih:=PP d
  exact Vp d _ ih
theorem Xd (d:Nat):∀ (p0:Aa) (p1:Ag) (R:Int) ,GZ d p0 p1 = some R→Ao Tryz.prog 158 [.d (Ai p0),.d (Aw p1)] (.d (.int .i64 R)):=PP d
theorem DN (d:Nat) (p0:Aa) (p1:Ag) (R:Int) (h:Ce d p0 p1 = some R):Ao Tryz.prog 94 [.d (Ai p0),.d (Aw p1)] (.d (.int .i64 R)):=by
 refine BP Tryz.func94 ?_
 unfold Ce at h
 refine A3 h (fun _=>CR _ _) fun x7 h=>?_
 refine A2 h fun h=>?_
 refine A3 h (fun _=>Vm _ _ _ _) fun x12 h=>?_
 refine A2 h fun h=>?_
 refine A3 h (fun _=>Vk _ _ _) fun x15 h=>?_
 refine A2 h fun h=>?_
 refine A3 h (fun _=>Xd _ _ _ _) fun x19 h=>?_
 exact AK h
theorem NF (p0:Aa) (p1:Int) (p2:Int) (R:Bool) (h:Fq p0 p1 p2 = some R):Ao Tryz.prog 171 [.d (Ai p0),.d (.int .i64 p1),.d (.int .i64 p2)] (.d (.bool R)):=by
 refine BP Tryz.func171 ?_
 unfold Fq at h
 refine Ba h fun h=>?_
 refine AF (f:=Ad) h fun x20 _ h=>?_
 exact A0 h
theorem R9 (p0:Aa) (p1:(List Ae)) (R:Int) (h:GV p0 p1 = some R):Ao Tryz.prog 172 [.d (Ai p0),.d (Aj 2 Af p1)] (.d (.int .i64 R)):=by
 refine BP Tryz.func172 ?_
 unfold GV at h
 refine Ak h fun h=>?_
 obtain ⟨P1,i1,h⟩:=Az h
 refine loop {p:Nat × Int // P1 p.1 p.2 = some R} (fun p=>B5 55 [(1,.d (Aj 2 Af p1)),(2,.ptr 2 1 0),(5,.d (.int .i64 p.1.2))] [(2,.var [.d (Aj 2 Ac p0.Lists),.d (Aj 7 Ad p0.Columns)],1)]) (fun p=>p.1.1) ⟨(_,_),h⟩ ?_ fun p=>?_
 ·exact Ah
 obtain ⟨⟨k1,v5_1⟩,h⟩:=p
 obtain ⟨k1,rfl,h⟩:=i1 _ _ h
 simp only [Gz] at h
 refine AH h (fun h=>?_) fun h=>?_
 ·conv=>whnf
  refine ⟨⟨by decide +kernel,by kernel_rfl⟩,?_⟩
  refine AF (f:=Af) h fun x25 _ h=>?_
  refine A3 h (fun _=>Rq _ _ _) fun x27 h=>?_
  refine Ak h fun h=>?_
  conv=>whnf
  refine ⟨⟨by decide +kernel,by kernel_rfl⟩,?_⟩
  refine AF (f:=Af) h fun x34 _ h=>?_
  refine A3 h (fun _=>NF _ _ _ _) fun x37 h=>?_
  refine Ak h fun h=>?_
  obtain ⟨P2,i2,h⟩:=Az h
  refine loop {p:Nat × Int // P2 p.1 p.2 = some R} (fun p=>B5 55 [(1,.d (Aj 2 Af p1)),(2,.ptr 2 1 0),(5,.d (.int .i64 v5_1)),(7,.d (.int .i64 p.1.2))] [(2,.var [.d (Aj 2 Ac p0.Lists),.d (Aj 7 Ad p0.Columns)],1)]) (fun p=>p.1.1) ⟨(_,_),h⟩ ?_ fun p=>?_
  ·exact Ah
  obtain ⟨⟨k2,v7_2⟩,h⟩:=p
  obtain ⟨k2,rfl,h⟩:=i2 _ _ h
  simp only [H2] at h
  refine AH h (fun h=>?_) fun h=>?_
  ·conv=>whnf
   refine ⟨⟨by decide +kernel,by kernel_rfl⟩,?_⟩
   refine AF (f:=Af) h fun x46 _ h=>?_
   refine AF (f:=Af) h fun x51 _ h=>?_
   refine Ak h fun h=>?_
   conv=>whnf
   exact B1 ⟨(_,_),h⟩ Ah
  conv=>whnf
  try simp only [ref08_Dims_k1] at h
  exact B1 ⟨(_,_),h⟩ Ah
 conv=>whnf
 try simp only [ref08_Dims_k1] at h
 exact A0 h
theorem Mj (p0:(List Int)) (p1:Int) (R:Bool) (h:I6 p0 p1 = some R):Ao Tryz.prog 174 [.d (Aj 1 (D.int .i64) p0),.d (.int .i64 p1)] (.d (.bool R)):=by
 refine BP Tryz.func174 ?_
 unfold I6 at h
 obtain ⟨P1,i1,h⟩:=Az h
 refine loop {p:Nat × Int // P1 p.1 p.2 = some R} (fun p=>B5 18 [(0,.d (Aj 1 (D.int .i64) p0)),(1,.d (.int .i64 p1)),(5,.d (.int .i64 p.1.2))] []) (fun p=>p.1.1) ⟨(_,_),h⟩ ?_ fun p=>?_
 ·exact Ah
 obtain ⟨⟨k1,v5_1⟩,h⟩:=p
 obtain ⟨k1,rfl,h⟩:=i1 _ _ h
 simp only [KY] at h
 refine Ba h fun h=>?_
 refine AF (f:=(D.int .i64)) h fun x14 _ h=>?_
 refine Ak h fun h=>?_
 conv=>whnf
 exact B1 ⟨(_,_),h⟩ Ah
theorem Qp (p0:Aa) (p1:Int) (p2:(List Int)) (R:Int) (h:I0 p0 p1 p2 = some R):Ao Tryz.prog 173 [.d (Ai p0),.d (.int .i64 p1),.d (Aj 1 (D.int .i64) p2)] (.d (.int .i64 R)):=by
 refine BP Tryz.func173 ?_
 unfold I0 at h
 refine Ak h fun h=>?_
 obtain ⟨P1,i1,h⟩:=Az h
 refine loop {p:Nat × Int // P1 p.1 p.2 = some R} (fun p=>B5 45 [(1,.d (.int .i64 p1)),(2,.d (Aj 1 (D.int .i64) p2)),(3,.ptr 3 1 0),(7,.d (.int .i64 p.1.2))] [(3,.var [.d (Aj 2 Ac p0.Lists),.d (Aj 7 Ad p0.Columns)],1)]) (fun p=>p.1.1) ⟨(_,_),h⟩ ?_ fun p=>?_
 ·exact Ah
 obtain ⟨⟨k1,v7_1⟩,h⟩:=p
 obtain ⟨k1,rfl,h⟩:=i1 _ _ h
 simp only [IN] at h
 refine Ba h fun h=>?_
 conv=>whnf
 refine ⟨⟨by decide +kernel,by kernel_rfl⟩,?_⟩
 refine AF (f:=(D.int .i64)) h fun x25 _ h=>?_
 refine A3 h (fun _=>NF _ _ _ _) fun x27 h=>?_
 refine Ak h fun h=>?_
 conv=>whnf
 refine ⟨⟨by decide +kernel,by kernel_rfl⟩,?_⟩
 refine AF (f:=(D.int .i64)) h fun x31 _ h=>?_
 refine Ak h fun h=>?_
 obtain ⟨hr,h⟩:=CS h
 refine ⟨by first | exact of_decide_eq_true hr | (simp only [List.length_map]; exact of_decide_eq_true hr),?_⟩
 try simp only [List.length_map]
 rw [SC]
 refine AF (f:=(D.int .i64)) h fun x41 _ h=>?_
 refine A3 h (fun _=>Mj _ _ _) fun x43 h=>?_
 refine Ak h fun h=>?_
 conv=>whnf
 exact B1 ⟨(_,_),h⟩ Ah
theorem V5 (d:Nat) (p0:Aa) (p1:AG) (R:Int) (h:K9 d p0 p1 = some R):Ao Tryz.prog 230 [.d (Ai p0),.d (AY p1)] (.d (.int .i64 R)):=by
 refine BP Tryz.func230 ?_
 unfold K9 at h
 refine A3 h (fun _=>NF _ _ _ _) fun x10 h=>?_
 refine AH h (fun h=>?_) fun h=>?_
 ·refine A3 h (fun _=>R9 _ _ _) fun x32 h=>?_
  refine Ak h fun h=>?_
  exact DJ h
 refine AH h (fun h=>?_) fun h=>?_
 ·refine Ak h fun h=>?_
  refine A3 h (fun _=>Qp _ _ _ _) fun x52 h=>?_
  exact A0 h
 refine Ak h fun h=>?_
 refine AF (f:=Ad) h fun x19 _ h=>?_
 refine Ak h fun h=>?_
 refine A3 h (fun _=>DN _ _ _ _) fun x26 h=>?_
 exact A0 h
theorem V6 (d:Nat) (self_ref05_Same:(Ag→Ag→Option Bool)) (ih_ref05_Same:∀ (p0:Ag) (p1:Ag) (R:Bool) ,self_ref05_Same p0 p1 = some R→Ao Tryz.prog 277 [.d (Aw p0),.d (Aw p1)] (.d (.bool R))) (p0:Ag) (p1:Ag) (R:Bool) (h:IY d self_ref05_Same p0 p1 = some R):Ao Tryz.prog 277 [.d (Aw p0),.d (Aw p1)] (.d (.bool R)):=by
 refine BP Tryz.func277 ?_
 unfold IY at h
 refine A2 h fun h=>?_
 obtain ⟨P1,i1,h⟩:=Az h
 refine loop {p:Nat × Int // P1 p.1 p.2 = some R} (fun p=>B5 67 [(2,.ptr 2 1 0),(3,.ptr 3 1 0),(5,.d (.int .i64 p.1.2))] [(2,.var [.d (.int .i64 p0.Op),.d (.int .i64 p0.Column),.d (.int .i64 p0.Code),.d (.int .i64 p0.Low),.d (.int .i64 p0.High),.d (Aj 6 An p0.Kids)],1),(3,.var [.d (.int .i64 p1.Op),.d (.int .i64 p1.Column),.d (.int .i64 p1.Code),.d (.int .i64 p1.Low),.d (.int .i64 p1.High),.d (Aj 6 An p1.Kids)],1)]) (fun p=>p.1.1) ⟨(_,_),h⟩ ?_ fun p=>?_
 ·exact Aq
 obtain ⟨⟨k1,v5_1⟩,h⟩:=p
 obtain ⟨k1,rfl,h⟩:=i1 _ _ h
 simp only [PS] at h
 refine BY h fun h=>?_
 conv=>whnf
 refine ⟨⟨by decide +kernel,by kernel_rfl⟩,?_⟩
 refine AF (f:=An) h fun x58 _ h=>?_
 rw [A8 x58]
 refine AF (f:=An) h fun x63 _ h=>?_
 rw [A8 x63]
 conv=>whnf
 obtain ⟨x65,hx65,h⟩:=A7 h
 first | refine AD (ih_ref05_Same _ _ _ hx65) ?_ | (simp only [List.length_map]; refine AD (ih_ref05_Same _ _ _ hx65) ?_)
 refine A2 h fun h=>?_
 conv=>whnf
 exact B1 ⟨(_,_),h⟩ Aq
theorem PJ:∀ d:Nat,(∀ (p0:Ag) (p1:Ag) (R:Bool) ,JK d p0 p1 = some R→Ao Tryz.prog 277 [.d (Aw p0),.d (Aw p1)] (.d (.bool R)))
 | 0=>by
  refine (by intros; rename_i h; cases h)
 | d + 1=>by
  have ih:=PJ d
  exact V6 d _ ih
theorem R6 (d:Nat):∀ (p0:Ag) (p1:Ag) (R:Bool) ,JK d p0 p1 = some R→Ao Tryz.prog 277 [.d (Aw p0),.d (Aw p1)] (.d (.bool R)):=PJ d
theorem WZ (d:Nat) (p0:Ag) (R:Bool) (h:LN d p0 = some R):Ao Tryz.prog 231 [.d (Aw p0)] (.d (.bool R)):=by
 refine BP Tryz.func231 ?_
 unfold LN at h
 refine A3 h (fun _=>R6 _ _ _ _) fun x5 h=>?_
 exact AK h
theorem JN (d:Nat) (p0:Aa) (p1:AG) (R:Int) (h:CX d p0 p1 = some R):Ao Tryz.prog 167 [.d (Ai p0),.d (AY p1)] (.d (.int .i64 R)):=by
 refine BP Tryz.func167 ?_
 unfold CX at h
 refine A3 h (fun _=>CR _ _) fun x9 h=>?_
 refine Ak h fun h=>?_
 refine A3 h (fun _=>EB _ _) fun x15 h=>?_
 refine Ak h fun h=>?_
 refine Ak h fun h=>?_
 refine A3 h (fun _=>DN _ _ _ _) fun x28 h=>?_
 refine Ak h fun h=>?_
 refine A3 h (fun _=>V5 _ _ _ _) fun x34 h=>?_
 refine Ak h fun h=>?_
 refine Ak h fun h=>?_
 refine Ba h fun h=>?_
 refine A3 h (fun _=>WZ _ _ _) fun x65 h=>?_
 exact DJ h
theorem M5 (d:Nat) (p0:Aa) (p1:Ay) (R:Int) (h:E9 d p0 p1 = some R):Ao Tryz.prog 101 [.d (Ai p0),.d (De p1)] (.d (.int .i64 R)):=by
 refine CO [6] Tryz.func101 (by kernel_rfl) ?_
 unfold E9 at h
 refine A3 h (fun _=>CR _ _) fun x12 h=>?_
 refine Ak h fun h=>?_
 refine Er {p:Unit // GL d p0 p1 = some R} (fun p=>B5 110 [(2,.ptr 2 1 0),(3,.ptr 3 1 0)] [(2,.var [.d (Aj 2 Ac p0.Lists),.d (Aj 7 Ad p0.Columns)],1),(3,.var [.d (.str p1.Project),.d (.str p1.Source),.d (.int .i64 p1.Cohort.Op),.d (.int .i64 p1.Cohort.Column),.d (.int .i64 p1.Cohort.Code),.d (.int .i64 p1.Cohort.Low),.d (.int .i64 p1.Cohort.High),.d (Aj 6 An p1.Cohort.Kids),.d (.int .i64 p1.Sample.Part),.d (.int .i64 p1.Sample.Of),.d (.int .i64 p1.Sample.Seed),.d (Aj 17 AY p1.Questions)],1)]) ?_ fun p=>?_
 ·refine A3 h (fun _=>EB _ _) fun x18 h=>?_
  refine Ak h fun h=>?_
  refine A3 h (fun _=>EB _ _) fun x23 h=>?_
  refine Ak h fun h=>?_
  conv=>whnf
  exact ⟨⟨(),h⟩,Ah⟩
 obtain ⟨_,h⟩:=p
 simp only [GL] at h
 refine A3 h (fun _=>DN _ _ _ _) fun x29 h=>?_
 refine Ak h fun h=>?_
 refine Ak h fun h=>?_
 refine Ak h fun h=>?_
 obtain ⟨P1,i1,h⟩:=Az h
 refine loop {p:Nat × Int // P1 p.1 p.2 = some R} (fun p=>B5 110 [(2,.ptr 2 1 0),(3,.ptr 3 1 0),(8,.d (.int .i64 p.1.2))] [(2,.var [.d (Aj 2 Ac p0.Lists),.d (Aj 7 Ad p0.Columns)],1),(3,.var [.d (.str p1.Project),.d (.str p1.Source),.d (.int .i64 p1.Cohort.Op),.d (.int .i64 p1.Cohort.Column),.d (.int .i64 p1.Cohort.Code),.d (.int .i64 p1.Cohort.Low),.d (.int .i64 p1.Cohort.High),.d (Aj 6 An p1.Cohort.Kids),.d (.int .i64 p1.Sample.Part),.d (.int .i64 p1.Sample.Of),.d (.int .i64 p1.Sample.Seed),.d (Aj 17 AY p1.Questions)],1)]) (fun p=>p.1.1) ⟨(_,_),h⟩ ?_ fun p=>?_
 ·exact Ah
 obtain ⟨⟨k1,v8_1⟩,h⟩:=p
 obtain ⟨k1,rfl,h⟩:=i1 _ _ h
 simp only [Fw] at h
 refine AH h (fun h=>?_) fun h=>?_
 ·conv=>whnf
  refine ⟨⟨by decide +kernel,by kernel_rfl⟩,?_⟩
  refine AF (f:=AY) h fun x86 _ h=>?_
  refine A3 h (fun _=>JN _ _ _ _) fun x88 h=>?_
  refine Ak h fun h=>?_
  obtain ⟨P2,i2,h⟩:=Az h
  refine loop {p:Nat × Int // P2 p.1 p.2 = some R} (fun p=>B5 110 [(2,.ptr 2 1 0),(3,.ptr 3 1 0),(8,.d (.int .i64 v8_1)),(10,.d (.int .i64 p.1.2))] [(2,.var [.d (Aj 2 Ac p0.Lists),.d (Aj 7 Ad p0.Columns)],1),(3,.var [.d (.str p1.Project),.d (.str p1.Source),.d (.int .i64 p1.Cohort.Op),.d (.int .i64 p1.Cohort.Column),.d (.int .i64 p1.Cohort.Code),.d (.int .i64 p1.Cohort.Low),.d (.int .i64 p1.Cohort.High),.d (Aj 6 An p1.Cohort.Kids),.d (.int .i64 p1.Sample.Part),.d (.int .i64 p1.Sample.Of),.d (.int .i64 p1.Sample.Seed),.d (Aj 17 AY p1.Questions)],1)]) (fun p=>p.1.1) ⟨(_,_),h⟩ ?_ fun p=>?_
  ·exact Ah
  obtain ⟨⟨k2,v10_2⟩,h⟩:=p
  obtain ⟨k2,rfl,h⟩:=i2 _ _ h
  simp only [GN] at h
  refine AH h (fun h=>?_) fun h=>?_
  ·conv=>whnf
   refine ⟨⟨by decide +kernel,by kernel_rfl⟩,?_⟩
   refine AF (f:=AY) h fun x100 _ h=>?_
   refine AF (f:=AY) h fun x106 _ h=>?_
   refine Ak h fun h=>?_
   conv=>whnf
   exact B1 ⟨(_,_),h⟩ Ah
  conv=>whnf
  try simp only [ref08_Check_k1] at h
  exact B1 ⟨(_,_),h⟩ Ah
 conv=>whnf
 try simp only [ref08_Check_k1] at h
 exact A0 h
theorem LX (p0:(List Ae)) (p1:(List Ae)) (R:Bool) (h:FM p0 p1 = some R):Ao Tryz.prog 95 [.d (Aj 2 Af p0),.d (Aj 2 Af p1)] (.d (.bool R)):=by
 refine BP Tryz.func95 ?_
 unfold FM at h
 obtain ⟨P1,i1,h⟩:=Az h
 refine loop {p:Nat × Int // P1 p.1 p.2 = some R} (fun p=>B5 49 [(0,.d (Aj 2 Af p0)),(1,.d (Aj 2 Af p1)),(5,.d (.int .i64 p.1.2))] []) (fun p=>p.1.1) ⟨(_,_),h⟩ ?_ fun p=>?_
 ·exact Ah
 obtain ⟨⟨k1,v5_1⟩,h⟩:=p
 obtain ⟨k1,rfl,h⟩:=i1 _ _ h
 simp only [Ia] at h
 refine Ba h fun h=>?_
 obtain ⟨P2,i2,h⟩:=Az h
 refine loop {p:Nat × (Bool × Int) // P2 p.1 p.2 = some R} (fun p=>B5 49 [(0,.d (Aj 2 Af p0)),(1,.d (Aj 2 Af p1)),(5,.d (.int .i64 v5_1)),(6,.d (.bool p.1.2.1)),(7,.d (.int .i64 p.1.2.2))] []) (fun p=>p.1.1) ⟨(_,(_,_)),h⟩ ?_ fun p=>?_
 ·exact Ah
 obtain ⟨⟨k2,⟨v6_2,v7_2⟩⟩,h⟩:=p
 obtain ⟨k2,rfl,h⟩:=i2 _ _ h
 simp only [HG] at h
 refine AH h (fun h=>?_) fun h=>?_
 ·conv=>whnf
  refine ⟨⟨by decide +kernel,by kernel_rfl⟩,?_⟩
  refine AH h (fun h=>?_) fun h=>?_
  ·exact B1 ⟨(_,(_,_)),h⟩ Ah
  refine AF (f:=Af) h fun x24 _ h=>?_
  refine AF (f:=Af) h fun x29 _ h=>?_
  refine AH h (fun h=>?_) fun h=>?_
  ·refine AF (f:=Af) h fun x36 _ h=>?_
   refine AF (f:=Af) h fun x41 _ h=>?_
   conv=>whnf
   exact B1 ⟨(_,(_,_)),h⟩ Ah
  exact B1 ⟨(_,(_,_)),h⟩ Ah
 refine Ak h fun h=>?_
 conv=>whnf
 exact B1 ⟨(_,_),h⟩ Ah
theorem CQ (p0:(List Ae)) (p1:Int) (p2:Int) (R:(List Ae)) (h:Cq p0 p1 p2 = some R):Ao Tryz.prog 103 [.d (Aj 2 Af p0),.d (.int .i64 p1),.d (.int .i64 p2)] (.d (Aj 2 Af R)):=by
 refine BP Tryz.func103 ?_
 unfold Cq at h
 obtain ⟨P1,i1,h⟩:=Az h
 refine loop {p:Nat × (Bool × Int × (List Ae)) // P1 p.1 p.2 = some R} (fun p=>B5 59 [(0,.d (Aj 2 Af p0)),(1,.d (.int .i64 p1)),(2,.d (.int .i64 p2)),(7,.sl 7 1),(8,.d (.bool p.1.2.1)),(9,.d (.int .i64 p.1.2.2.1))] [(7,.row 2 43 (List.map Af p.1.2.2.2),1)]) (fun p=>p.1.1) ⟨(_,(_,_,_)),h⟩ ?_ fun p=>?_
 ·exact Ah
 obtain ⟨⟨k1,⟨v8_1,v9_1,b7_1⟩⟩,h⟩:=p
 obtain ⟨k1,rfl,h⟩:=i1 _ _ h
 simp only [Jf] at h
 refine AH h (fun h=>?_) fun h=>?_
 ·refine AF (f:=Af) h fun x21 _ h=>?_
  refine AH h (fun h=>?_) fun h=>?_
  ·conv=>whnf
   obtain ⟨hr,h⟩:=CS h
   refine ⟨by (simp only [List.length_map]; exact AE hr (of_decide_eq_true (by kernel_rfl)) (.inr (by kernel_rfl))),?_⟩
   try rw [CZ]
   refine AH h (fun h=>?_) fun h=>?_
   ·conv=>whnf
    obtain ⟨hr,h⟩:=CS h
    refine ⟨by (simp only [List.length_map]; exact AE hr (of_decide_eq_true (by kernel_rfl)) (.inr (by kernel_rfl))),?_⟩
    try rw [CZ]
    conv=>whnf
    exact B1 ⟨(_,(_,_,_)),h⟩ Ah
   conv=>whnf
   obtain ⟨hr,h⟩:=CS h
   refine ⟨by (simp only [List.length_map]; exact AE hr (of_decide_eq_true (by kernel_rfl)) (.inr (by kernel_rfl))),?_⟩
   try rw [CZ]
   conv=>whnf
   exact B1 ⟨(_,(_,_,_)),h⟩ Ah
  refine AH h (fun h=>?_) fun h=>?_
  ·conv=>whnf
   obtain ⟨hr,h⟩:=CS h
   refine ⟨by (simp only [List.length_map]; exact AE hr (of_decide_eq_true (by kernel_rfl)) (.inr (by kernel_rfl))),?_⟩
   try rw [CZ]
   conv=>whnf
   exact B1 ⟨(_,(_,_,_)),h⟩ Ah
  conv=>whnf
  obtain ⟨hr,h⟩:=CS h
  refine ⟨by (simp only [List.length_map]; exact AE hr (of_decide_eq_true (by kernel_rfl)) (.inr (by kernel_rfl))),?_⟩
  try rw [CZ]
  conv=>whnf
  exact B1 ⟨(_,(_,_,_)),h⟩ Ah
 conv=>whnf
 try simp only [LD] at h
 refine AH h (fun h=>?_) fun h=>?_
 ·conv=>whnf
  obtain ⟨hr,h⟩:=CS h
  refine ⟨by (simp only [List.length_map]; exact AE hr (of_decide_eq_true (by kernel_rfl)) (.inr (by kernel_rfl))),?_⟩
  try rw [CZ]
  conv=>whnf
  obtain rfl:=Option.some.inj h
  refine ⟨.inl ?_⟩
  conv=>whnf
  exact ⟨HO⟩
 conv=>whnf
 obtain rfl:=Option.some.inj h
 refine ⟨.inl ?_⟩
 conv=>whnf
 exact ⟨HO⟩
theorem Ui (d:Nat) (self_ref05_Atoms:(Ag→Option (List Ag))) (ih_ref05_Atoms:∀ (p0:Ag) (R:(List Ag)) ,self_ref05_Atoms p0 = some R→Ao Tryz.prog 159 [.d (Aw p0)] (.d (Aj 6 An R))) (p0:Ag) (R:(List Ag)) (h:H9 d self_ref05_Atoms p0 = some R):Ao Tryz.prog 159 [.d (Aw p0)] (.d (Aj 6 An R)):=by
 refine BP Tryz.func159 ?_
 unfold H9 at h
 refine AH h (fun h=>?_) fun h=>?_
 ·conv=>whnf
  obtain rfl:=Option.some.inj h
  refine ⟨.inl ?_⟩
  conv=>whnf
  exact ⟨Pl⟩
 obtain ⟨P1,i1,h⟩:=Az h
 refine loop {p:Nat × (Int × (List Ag)) // P1 p.1 p.2 = some R} (fun p=>B5 36 [(1,.ptr 1 1 0),(3,.sl 3 1),(4,.d (.int .i64 p.1.2.1))] [(1,.var [.d (.int .i64 p0.Op),.d (.int .i64 p0.Column),.d (.int .i64 p0.Code),.d (.int .i64 p0.Low),.d (.int .i64 p0.High),.d (Aj 6 An p0.Kids)],1),(3,.row 6 47 (List.map An p.1.2.2),1)]) (fun p=>p.1.1) ⟨(_,(_,_)),h⟩ ?_ fun p=>?_
 ·exact Mo
 obtain ⟨⟨k1,⟨v4_1,b3_1⟩⟩,h⟩:=p
 obtain ⟨k1,rfl,h⟩:=i1 _ _ h
 simp only [Jr] at h
 refine AH h (fun h=>?_) fun h=>?_
 ·refine AF (f:=An) h fun x31 _ h=>?_
  rw [A8 x31]
  conv=>whnf
  obtain ⟨x33,hx33,h⟩:=A7 h
  first | refine AD (ih_ref05_Atoms _ _ hx33) ?_ | (simp only [List.length_map]; refine AD (ih_ref05_Atoms _ _ hx33) ?_)
  conv=>whnf
  obtain ⟨hr,h⟩:=CS h
  refine ⟨by (simp only [List.length_map]; exact AE hr (of_decide_eq_true (by kernel_rfl)) (.inr (by kernel_rfl))),?_⟩
  try rw [cY]
  conv=>whnf
  exact B1 ⟨(_,(_,_)),h⟩ Mo
 conv=>whnf
 obtain rfl:=Option.some.inj h
 refine ⟨.inl ?_⟩
 conv=>whnf
 exact ⟨Pl⟩
theorem OV:∀ d:Nat,(∀ (p0:Ag) (R:(List Ag)) ,I5 d p0 = some R→Ao Tryz.prog 159 [.d (Aw p0)] (.d (Aj 6 An R)))
 | 0=>by
  refine (by intros; rename_i h; cases h)
 | d + 1=>by
  have ih:=OV d
  exact Ui d _ ih
theorem Vx (d:Nat):∀ (p0:Ag) (R:(List Ag)) ,I5 d p0 = some R→Ao Tryz.prog 159 [.d (Aw p0)] (.d (Aj 6 An R)):=OV d
theorem Vt (p0:Am) (p1:Int) (p2:Int) (R:Bool) (h:Ky p0 p1 p2 = some R):Ao Tryz.prog 228 [.d (Ac p0),.d (.int .i64 p1),.d (.int .i64 p2)] (.d (.bool R)):=by
 refine BP Tryz.func228 ?_
 unfold Ky at h
 refine A3 h (fun _=>M9 _ _ _) fun x10 h=>?_
 refine Ba h fun h=>?_
 refine A3 h (fun _=>M9 _ _ _) fun x16 h=>?_
 refine Ba h fun h=>?_
 refine A3 h (fun _=>Uz _ _ _ _) fun x24 h=>?_
 exact A0 h
theorem Lc (p0:Aa) (p1:Ag) (p2:Int) (R:Int) (h:Bt p0 p1 p2 = some R):Ao Tryz.prog 161 [.d (Ai p0),.d (Aw p1),.d (.int .i64 p2)] (.d (.int .i64 R)):=by
 refine BP Tryz.func161 ?_
 unfold Bt at h
 refine AH h (fun h=>?_) fun h=>?_
 ·conv=>whnf
  refine ⟨⟨by decide +kernel,by kernel_rfl⟩,?_⟩
  refine AF (f:=Ad) h fun x18 _ h=>?_
  refine AF (f:=Ac) h fun x21 _ h=>?_
  refine A3 h (fun _=>Vt _ _ _ _) fun x26 h=>?_
  exact Lg h
 refine AH h (fun h=>?_) fun h=>?_
 ·refine A2 h fun h=>?_
  exact Lg h
 refine BY h fun h=>?_
 exact Lg h
end Go.Proofs.YtejfnieiaecpkaaGreatDoor.P
