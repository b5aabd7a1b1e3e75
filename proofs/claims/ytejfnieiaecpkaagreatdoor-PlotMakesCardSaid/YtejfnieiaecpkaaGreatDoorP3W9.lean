/- Printed by wip/tools/mkw.py: walks: ref16_Right ref17_Level ref17_add ref17_exact ref17_Needs ref19_Plan ref21_check ref01_Put -/
import Derived.Test.YtejfnieiaecpkaaGreatDoorChecked
import Derived.Test.YtejfnieiaecpkaaGreatDoorP3F
import Derived.Test.YtejfnieiaecpkaaGreatDoorP3A
import Derived.Test.YtejfnieiaecpkaaGreatDoorP3HW
import Derived.Test.YtejfnieiaecpkaaGreatDoorP3W5
import Derived.Test.YtejfnieiaecpkaaGreatDoorP3W6
import Derived.Test.YtejfnieiaecpkaaGreatDoorP3W7
import Derived.Test.YtejfnieiaecpkaaGreatDoorP3W8
set_option linter.unusedSimpArgs false
namespace Go.Proofs.YtejfnieiaecpkaaGreatDoor.P
open Go.Abs Go.Proofs
set_option maxRecDepth 100000
set_option maxHeartbeats 4000000
set_option linter.unusedVariables false
theorem UL (d:Nat) (self_ref16_Right:(Aa→AA→Option Bool)) (ih_ref16_Right:∀ (p0:Aa) (p1:AA) (R:Bool) ,self_ref16_Right p0 p1 = some R→Ao Tryz.prog 104 [.d (Ai p0),.d (AX p1)] (.d (.bool R))) (p0:Aa) (p1:AA) (R:Bool) (h:ES d self_ref16_Right p0 p1 = some R):Ao Tryz.prog 104 [.d (Ai p0),.d (AX p1)] (.d (.bool R)):=by
 refine CO [3,6,13,38] Tryz.func104 (by kernel_rfl) ?_
 unfold ES at h
 refine Er {p:Unit // GF p1 self_ref16_Right p0 d = some R} (fun p=>B5 152 [(2,.ptr 2 1 0),(3,.ptr 3 1 0)] [(2,.var [.d (Aj 2 Ac p0.Lists),.d (Aj 7 Ad p0.Columns)],1),(3,.var [.d (.int .i64 p1.Op),.d (.int .i64 p1.Num),.d (.str p1.Name),.d (.int .i64 p1.Column),.d (Aj 1 (D.int .i64) p1.Columns),.d (Aj 2 Af p1.Dims),.d (.int .i64 p1.Cond.Op),.d (.int .i64 p1.Cond.Column),.d (.int .i64 p1.Cond.Code),.d (.int .i64 p1.Cond.Low),.d (.int .i64 p1.Cond.High),.d (Aj 6 An p1.Cond.Kids),.d (.int .i64 p1.Event.Op),.d (.int .i64 p1.Event.Column),.d (.int .i64 p1.Event.Code),.d (.int .i64 p1.Event.Low),.d (.int .i64 p1.Event.High),.d (Aj 6 An p1.Event.Kids),.d (Aj 19 B6 p1.Kids)],1)]) ?_ fun p=>?_
 ·refine A3 h (fun _=>CR _ _) fun x9 h=>?_
  refine A2 h fun h=>?_
  refine A3 h (fun _=>XF _ _ _) fun x13 h=>?_
  refine A2 h fun h=>?_
  conv=>whnf
  exact ⟨⟨(),h⟩,Aq⟩
 obtain ⟨_,h⟩:=p
 simp only [GF] at h
 refine Er {p:Int // Fx p1 self_ref16_Right p0 d p = some R} (fun p=>B5 152 [(2,.ptr 2 1 0),(3,.ptr 3 1 0),(5,.d (.int .i64 p.1))] [(2,.var [.d (Aj 2 Ac p0.Lists),.d (Aj 7 Ad p0.Columns)],1),(3,.var [.d (.int .i64 p1.Op),.d (.int .i64 p1.Num),.d (.str p1.Name),.d (.int .i64 p1.Column),.d (Aj 1 (D.int .i64) p1.Columns),.d (Aj 2 Af p1.Dims),.d (.int .i64 p1.Cond.Op),.d (.int .i64 p1.Cond.Column),.d (.int .i64 p1.Cond.Code),.d (.int .i64 p1.Cond.Low),.d (.int .i64 p1.Cond.High),.d (Aj 6 An p1.Cond.Kids),.d (.int .i64 p1.Event.Op),.d (.int .i64 p1.Event.Column),.d (.int .i64 p1.Event.Code),.d (.int .i64 p1.Event.Low),.d (.int .i64 p1.Event.High),.d (Aj 6 An p1.Event.Kids),.d (Aj 19 B6 p1.Kids)],1)]) ?_ fun p=>?_
 ·refine AH h (fun h=>?_) fun h=>?_
  ·conv=>whnf
   exact ⟨⟨_,h⟩,Aq⟩
  conv=>whnf
  exact ⟨⟨_,h⟩,Aq⟩
 obtain ⟨j5_2,h⟩:=p
 simp only [Fx] at h
 refine A2 h fun h=>?_
 refine Er {p:Unit // Hd p0 p1 j5_2 d = some R} (fun p=>B5 152 [(2,.ptr 2 1 0),(3,.ptr 3 1 0),(5,.d (.int .i64 j5_2))] [(2,.var [.d (Aj 2 Ac p0.Lists),.d (Aj 7 Ad p0.Columns)],1),(3,.var [.d (.int .i64 p1.Op),.d (.int .i64 p1.Num),.d (.str p1.Name),.d (.int .i64 p1.Column),.d (Aj 1 (D.int .i64) p1.Columns),.d (Aj 2 Af p1.Dims),.d (.int .i64 p1.Cond.Op),.d (.int .i64 p1.Cond.Column),.d (.int .i64 p1.Cond.Code),.d (.int .i64 p1.Cond.Low),.d (.int .i64 p1.Cond.High),.d (Aj 6 An p1.Cond.Kids),.d (.int .i64 p1.Event.Op),.d (.int .i64 p1.Event.Column),.d (.int .i64 p1.Event.Code),.d (.int .i64 p1.Event.Low),.d (.int .i64 p1.Event.High),.d (Aj 6 An p1.Event.Kids),.d (Aj 19 B6 p1.Kids)],1)]) ?_ fun p=>?_
 ·obtain ⟨P1,i1,h⟩:=Az h
  refine loop {p:Nat × Int // P1 p.1 p.2 = some R} (fun p=>B5 152 [(2,.ptr 2 1 0),(3,.ptr 3 1 0),(5,.d (.int .i64 j5_2)),(6,.d (.int .i64 p.1.2))] [(2,.var [.d (Aj 2 Ac p0.Lists),.d (Aj 7 Ad p0.Columns)],1),(3,.var [.d (.int .i64 p1.Op),.d (.int .i64 p1.Num),.d (.str p1.Name),.d (.int .i64 p1.Column),.d (Aj 1 (D.int .i64) p1.Columns),.d (Aj 2 Af p1.Dims),.d (.int .i64 p1.Cond.Op),.d (.int .i64 p1.Cond.Column),.d (.int .i64 p1.Cond.Code),.d (.int .i64 p1.Cond.Low),.d (.int .i64 p1.Cond.High),.d (Aj 6 An p1.Cond.Kids),.d (.int .i64 p1.Event.Op),.d (.int .i64 p1.Event.Column),.d (.int .i64 p1.Event.Code),.d (.int .i64 p1.Event.Low),.d (.int .i64 p1.Event.High),.d (Aj 6 An p1.Event.Kids),.d (Aj 19 B6 p1.Kids)],1)]) (fun p=>p.1.1) ⟨(_,_),h⟩ ?_ fun p=>?_
  ·exact Aq
  obtain ⟨⟨k1,v6_1⟩,h⟩:=p
  obtain ⟨k1,rfl,h⟩:=i1 _ _ h
  simp only [Jh] at h
  refine AH h (fun h=>?_) fun h=>?_
  ·conv=>whnf
   refine ⟨⟨by decide +kernel,by kernel_rfl⟩,?_⟩
   refine AF (f:=B6) h fun x39 _ h=>?_
   rw [Bm x39]
   refine A2 h fun h=>?_
   refine AF (f:=B6) h fun x48 _ h=>?_
   rw [Bm x48]
   conv=>whnf
   obtain ⟨x50,hx50,h⟩:=A7 h
   first | refine AD (ih_ref16_Right _ _ _ hx50) ?_ | (simp only [List.length_map]; refine AD (ih_ref16_Right _ _ _ hx50) ?_)
   refine A2 h fun h=>?_
   conv=>whnf
   exact B1 ⟨(_,_),h⟩ Aq
  conv=>whnf
  exact ⟨⟨(),h⟩,Aq⟩
 obtain ⟨_,h⟩:=p
 simp only [Hd] at h
 refine A3 h (fun _=>NF _ _ _ _) fun x56 h=>?_
 refine Er {p:Bool // BF j5_2 d p0 p1 p = some R} (fun p=>B5 152 [(2,.ptr 2 1 0),(3,.ptr 3 1 0),(5,.d (.int .i64 j5_2)),(7,.d (.bool p.1))] [(2,.var [.d (Aj 2 Ac p0.Lists),.d (Aj 7 Ad p0.Columns)],1),(3,.var [.d (.int .i64 p1.Op),.d (.int .i64 p1.Num),.d (.str p1.Name),.d (.int .i64 p1.Column),.d (Aj 1 (D.int .i64) p1.Columns),.d (Aj 2 Af p1.Dims),.d (.int .i64 p1.Cond.Op),.d (.int .i64 p1.Cond.Column),.d (.int .i64 p1.Cond.Code),.d (.int .i64 p1.Cond.Low),.d (.int .i64 p1.Cond.High),.d (Aj 6 An p1.Cond.Kids),.d (.int .i64 p1.Event.Op),.d (.int .i64 p1.Event.Column),.d (.int .i64 p1.Event.Code),.d (.int .i64 p1.Event.Low),.d (.int .i64 p1.Event.High),.d (Aj 6 An p1.Event.Kids),.d (Aj 19 B6 p1.Kids)],1)]) ?_ fun p=>?_
 ·refine A2 h fun h=>?_
  refine AH h (fun h=>?_) fun h=>?_
  ·refine A3 h (fun _=>EB _ _) fun x73 h=>?_
   exact AK h
  conv=>whnf
  refine KI h BU (fun e36 h=>?_) (fun e36 h=>?_)
  ·conv=>whnf
   refine Ld BU e36 ?_
   conv=>whnf
   exact ⟨⟨_,h⟩,Aq⟩
  conv=>whnf
  refine KI h BU (fun e37 h=>?_) (fun e37 h=>?_)
  ·conv=>whnf
   refine Ld BU e37 ?_
   conv=>whnf
   exact ⟨⟨_,h⟩,Aq⟩
  conv=>whnf
  refine KI h BU (fun e38 h=>?_) (fun e38 h=>?_)
  ·conv=>whnf
   refine Ld BU e38 ?_
   conv=>whnf
   exact ⟨⟨_,h⟩,Aq⟩
  conv=>whnf
  refine KI h BU (fun e39 h=>?_) (fun e39 h=>?_)
  ·conv=>whnf
   refine Ld BU e39 ?_
   conv=>whnf
   exact ⟨⟨_,h⟩,Aq⟩
  refine AH h (fun h=>?_) fun h=>?_
  ·conv=>whnf
   exact ⟨⟨_,h⟩,Aq⟩
  refine AH h (fun h=>?_) fun h=>?_
  ·refine A3 h (fun _=>R9 _ _ _) fun x85 h=>?_
   refine A2 h fun h=>?_
   conv=>whnf
   exact ⟨⟨_,h⟩,Aq⟩
  refine AH h (fun h=>?_) fun h=>?_
  ·refine A3 h (fun _=>Qp _ _ _ _) fun x100 h=>?_
   refine A2 h fun h=>?_
   conv=>whnf
   exact ⟨⟨_,h⟩,Aq⟩
  refine AH h (fun h=>?_) fun h=>?_
  ·refine A2 h fun h=>?_
   refine AF (f:=Ad) h fun x111 _ h=>?_
   refine A2 h fun h=>?_
   refine A3 h (fun _=>DN _ _ _ _) fun x120 h=>?_
   refine A2 h fun h=>?_
   conv=>whnf
   exact ⟨⟨_,h⟩,Aq⟩
  refine AH h (fun h=>?_) fun h=>?_
  ·conv=>whnf
   refine ⟨⟨by decide +kernel,by kernel_rfl⟩,?_⟩
   refine A2 h fun h=>?_
   refine AF (f:=Ad) h fun x132 _ h=>?_
   refine A3 h (fun _=>Mj _ _ _) fun x137 h=>?_
   refine A2 h fun h=>?_
   conv=>whnf
   exact ⟨⟨_,h⟩,Aq⟩
  conv=>whnf
  exact ⟨⟨_,h⟩,Aq⟩
 obtain ⟨j7_4,h⟩:=p
 simp only [BF] at h
 refine BY h fun h=>?_
 refine A2 h fun h=>?_
 refine A3 h (fun _=>DN _ _ _ _) fun x148 h=>?_
 exact AK h
theorem OB:∀ d:Nat,(∀ (p0:Aa) (p1:AA) (R:Bool) ,EL d p0 p1 = some R→Ao Tryz.prog 104 [.d (Ai p0),.d (AX p1)] (.d (.bool R)))
 | 0=>by
  refine (by intros; rename_i h; cases h)
 | d + 1=>by
  have ih:=OB d
  exact UL d _ ih
theorem Qk (d:Nat):∀ (p0:Aa) (p1:AA) (R:Bool) ,EL d p0 p1 = some R→Ao Tryz.prog 104 [.d (Ai p0),.d (AX p1)] (.d (.bool R)):=OB d
theorem Qn (p0:Aa) (p1:Int) (p2:Int) (R:Int) (h:I4 p0 p1 p2 = some R):Ao Tryz.prog 54 [.d (Ai p0),.d (.int .i64 p1),.d (.int .i64 p2)] (.d (.int .i64 R)):=by
 refine BP Tryz.func54 ?_
 unfold I4 at h
 refine AF (f:=Ad) h fun x12 _ h=>?_
 obtain ⟨P1,i1,h⟩:=Az h
 refine loop {p:Nat × Int // P1 p.1 p.2 = some R} (fun p=>B5 33 [(2,.d (.int .i64 p2)),(7,.ptr 7 1 0),(8,.d (.int .i64 p.1.2))] [(7,.var [.d (.str x12.Name),.d (.int .i64 x12.Kind),.d (.int .i64 x12.List_),.d (.int .i64 x12.Low),.d (.int .i64 x12.High),.d (Aj 1 (D.int .i64) x12.Widths),.d (.bool x12.Optional)],1)]) (fun p=>p.1.1) ⟨(_,_),h⟩ ?_ fun p=>?_
 ·exact Ah
 obtain ⟨⟨k1,v8_1⟩,h⟩:=p
 obtain ⟨k1,rfl,h⟩:=i1 _ _ h
 simp only [Mg] at h
 refine Ba h fun h=>?_
 refine AF (f:=(D.int .i64)) h fun x24 _ h=>?_
 refine Ak h fun h=>?_
 conv=>whnf
 exact B1 ⟨(_,_),h⟩ Ah
theorem Tx (d:Nat) (p0:Aa) (p1:(List Ae)) (p2:Ag) (R:(List Ae)) (h:I8 d p0 p1 p2 = some R):Ao Tryz.prog 175 [.d (Ai p0),.d (Aj 2 Af p1),.d (Aw p2)] (.d (Aj 2 Af R)):=by
 refine BP Tryz.func175 ?_
 unfold I8 at h
 refine A3 h (fun _=>Kl _ _ _ _) fun x11 h=>?_
 obtain ⟨P1,i1,h⟩:=Az h
 refine loop {p:Nat × ((List Ae) × Int) // P1 p.1 p.2 = some R} (fun p=>B5 31 [(1,.d (Aj 2 Af p.1.2.1)),(7,.d (Aj 2 Af x11)),(8,.d (.int .i64 p.1.2.2))] []) (fun p=>p.1.1) ⟨(_,(_,_)),h⟩ ?_ fun p=>?_
 ·exact Aq
 obtain ⟨⟨k1,⟨v1_1,v8_1⟩⟩,h⟩:=p
 obtain ⟨k1,rfl,h⟩:=i1 _ _ h
 simp only [Jq] at h
 refine BY h fun h=>?_
 conv=>whnf
 refine ⟨⟨by decide +kernel,by kernel_rfl⟩,?_⟩
 refine AF (f:=Af) h fun x21 _ h=>?_
 refine AF (f:=Af) h fun x26 _ h=>?_
 refine A3 h (fun _=>CQ _ _ _ _) fun x29 h=>?_
 conv=>whnf
 exact B1 ⟨(_,(_,_)),h⟩ Aq
theorem EX (p0:Aa) (p1:(List Ae)) (p2:Int) (R:(List Ae)) (h:DP p0 p1 p2 = some R):Ao Tryz.prog 176 [.d (Ai p0),.d (Aj 2 Af p1),.d (.int .i64 p2)] (.d (Aj 2 Af R)):=by
 refine BP Tryz.func176 ?_
 unfold DP at h
 conv=>whnf
 refine ⟨⟨by decide +kernel,by kernel_rfl⟩,?_⟩
 refine A3 h (fun _=>BX _ _ _) fun x13 h=>?_
 refine A3 h (fun _=>HA _ _ _ _) fun x14 h=>?_
 refine A3 h (fun _=>CQ _ _ _ _) fun x15 h=>?_
 exact A0 h
theorem TM (d:Nat) (self_ref17_Needs:(Aa→AA→Option (List Ae))) (ih_ref17_Needs:∀ (p0:Aa) (p1:AA) (R:(List Ae)) ,self_ref17_Needs p0 p1 = some R→Ao Tryz.prog 105 [.d (Ai p0),.d (AX p1)] (.d (Aj 2 Af R))) (p0:Aa) (p1:AA) (R:(List Ae)) (h:EU d self_ref17_Needs p0 p1 = some R):Ao Tryz.prog 105 [.d (Ai p0),.d (AX p1)] (.d (Aj 2 Af R)):=by
 refine CO [8,20,24] Tryz.func105 (by kernel_rfl) ?_
 unfold EU at h
 refine A3 h (fun _=>Qk _ _ _ _) fun x13 h=>?_
 refine AH h (fun h=>?_) fun h=>?_
 ·conv=>whnf
  obtain rfl:=Option.some.inj h
  refine ⟨.inl ?_⟩
  conv=>whnf
  exact ⟨Pl⟩
 conv=>whnf
 refine ⟨⟨by decide +kernel,by kernel_rfl⟩,?_⟩
 refine A3 h (fun _=>Tx _ _ _ _ _) fun x19 h=>?_
 refine A3 h (fun _=>Tx _ _ _ _ _) fun x22 h=>?_
 refine Er {p:(List Ae) // Hb p1 p0 self_ref17_Needs p = some R} (fun p=>B5 139 [(2,.ptr 2 1 0),(3,.ptr 3 1 0),(5,.d (Aj 2 Af p.1))] [(2,.var [.d (Aj 2 Ac p0.Lists),.d (Aj 7 Ad p0.Columns)],1),(3,.var [.d (.int .i64 p1.Op),.d (.int .i64 p1.Num),.d (.str p1.Name),.d (.int .i64 p1.Column),.d (Aj 1 (D.int .i64) p1.Columns),.d (Aj 2 Af p1.Dims),.d (.int .i64 p1.Cond.Op),.d (.int .i64 p1.Cond.Column),.d (.int .i64 p1.Cond.Code),.d (.int .i64 p1.Cond.Low),.d (.int .i64 p1.Cond.High),.d (Aj 6 An p1.Cond.Kids),.d (.int .i64 p1.Event.Op),.d (.int .i64 p1.Event.Column),.d (.int .i64 p1.Event.Code),.d (.int .i64 p1.Event.Low),.d (.int .i64 p1.Event.High),.d (Aj 6 An p1.Event.Kids),.d (Aj 19 B6 p1.Kids)],1)]) ?_ fun p=>?_
 ·obtain ⟨P1,i1,h⟩:=Az h
  refine loop {p:Nat × ((List Ae) × Int) // P1 p.1 p.2 = some R} (fun p=>B5 139 [(2,.ptr 2 1 0),(3,.ptr 3 1 0),(5,.d (Aj 2 Af p.1.2.1)),(6,.d (.int .i64 p.1.2.2))] [(2,.var [.d (Aj 2 Ac p0.Lists),.d (Aj 7 Ad p0.Columns)],1),(3,.var [.d (.int .i64 p1.Op),.d (.int .i64 p1.Num),.d (.str p1.Name),.d (.int .i64 p1.Column),.d (Aj 1 (D.int .i64) p1.Columns),.d (Aj 2 Af p1.Dims),.d (.int .i64 p1.Cond.Op),.d (.int .i64 p1.Cond.Column),.d (.int .i64 p1.Cond.Code),.d (.int .i64 p1.Cond.Low),.d (.int .i64 p1.Cond.High),.d (Aj 6 An p1.Cond.Kids),.d (.int .i64 p1.Event.Op),.d (.int .i64 p1.Event.Column),.d (.int .i64 p1.Event.Code),.d (.int .i64 p1.Event.Low),.d (.int .i64 p1.Event.High),.d (Aj 6 An p1.Event.Kids),.d (Aj 19 B6 p1.Kids)],1)]) (fun p=>p.1.1) ⟨(_,(_,_)),h⟩ ?_ fun p=>?_
  ·exact Aq
  obtain ⟨⟨k1,⟨v5_1,v6_1⟩⟩,h⟩:=p
  obtain ⟨k1,rfl,h⟩:=i1 _ _ h
  simp only [Js] at h
  refine AH h (fun h=>?_) fun h=>?_
  ·conv=>whnf
   refine ⟨⟨by decide +kernel,by kernel_rfl⟩,?_⟩
   refine AF (f:=Af) h fun x34 _ h=>?_
   refine AF (f:=Af) h fun x41 _ h=>?_
   refine AF (f:=Af) h fun x47 _ h=>?_
   refine A3 h (fun _=>HA _ _ _ _) fun x50 h=>?_
   refine A3 h (fun _=>CQ _ _ _ _) fun x51 h=>?_
   conv=>whnf
   exact B1 ⟨(_,(_,_)),h⟩ Aq
  conv=>whnf
  exact ⟨⟨_,h⟩,Aq⟩
 obtain ⟨j5_1,h⟩:=p
 simp only [Hb] at h
 refine Er {p:(List Ae) // BM p1 p0 self_ref17_Needs p = some R} (fun p=>B5 139 [(2,.ptr 2 1 0),(3,.ptr 3 1 0),(5,.d (Aj 2 Af p.1))] [(2,.var [.d (Aj 2 Ac p0.Lists),.d (Aj 7 Ad p0.Columns)],1),(3,.var [.d (.int .i64 p1.Op),.d (.int .i64 p1.Num),.d (.str p1.Name),.d (.int .i64 p1.Column),.d (Aj 1 (D.int .i64) p1.Columns),.d (Aj 2 Af p1.Dims),.d (.int .i64 p1.Cond.Op),.d (.int .i64 p1.Cond.Column),.d (.int .i64 p1.Cond.Code),.d (.int .i64 p1.Cond.Low),.d (.int .i64 p1.Cond.High),.d (Aj 6 An p1.Cond.Kids),.d (.int .i64 p1.Event.Op),.d (.int .i64 p1.Event.Column),.d (.int .i64 p1.Event.Code),.d (.int .i64 p1.Event.Low),.d (.int .i64 p1.Event.High),.d (Aj 6 An p1.Event.Kids),.d (Aj 19 B6 p1.Kids)],1)]) ?_ fun p=>?_
 ·conv=>whnf
  refine KI h BU (fun e28 h=>?_) (fun e28 h=>?_)
  ·conv=>whnf
   refine Ld BU e28 ?_
   conv=>whnf
   obtain ⟨x64,hx64,h⟩:=A7 h
   refine AD (EX _ _ _ _ hx64) ?_
   conv=>whnf
   exact ⟨⟨_,h⟩,Aq⟩
  conv=>whnf
  refine KI h BU (fun e29 h=>?_) (fun e29 h=>?_)
  ·conv=>whnf
   refine Ld BU e29 ?_
   conv=>whnf
   obtain ⟨x64,hx64,h⟩:=A7 h
   refine AD (EX _ _ _ _ hx64) ?_
   conv=>whnf
   exact ⟨⟨_,h⟩,Aq⟩
  conv=>whnf
  refine KI h BU (fun e30 h=>?_) (fun e30 h=>?_)
  ·conv=>whnf
   refine Ld BU e30 ?_
   conv=>whnf
   obtain ⟨x64,hx64,h⟩:=A7 h
   refine AD (EX _ _ _ _ hx64) ?_
   conv=>whnf
   exact ⟨⟨_,h⟩,Aq⟩
  conv=>whnf
  refine KI h BU (fun e31 h=>?_) (fun e31 h=>?_)
  ·conv=>whnf
   refine Ld BU e31 ?_
   conv=>whnf
   obtain ⟨x64,hx64,h⟩:=A7 h
   refine AD (EX _ _ _ _ hx64) ?_
   conv=>whnf
   exact ⟨⟨_,h⟩,Aq⟩
  refine AH h (fun h=>?_) fun h=>?_
  ·conv=>whnf
   obtain ⟨x64,hx64,h⟩:=A7 h
   refine AD (EX _ _ _ _ hx64) ?_
   conv=>whnf
   exact ⟨⟨_,h⟩,Aq⟩
  refine AH h (fun h=>?_) fun h=>?_
  ·refine AH h (fun h=>?_) fun h=>?_
   ·refine A3 h (fun _=>EX _ _ _ _) fun x74 h=>?_
    conv=>whnf
    exact ⟨⟨_,h⟩,Aq⟩
   conv=>whnf
   exact ⟨⟨_,h⟩,Aq⟩
  refine AH h (fun h=>?_) fun h=>?_
  ·conv=>whnf
   refine ⟨⟨by decide +kernel,by kernel_rfl⟩,?_⟩
   refine A3 h (fun _=>Qn _ _ _ _) fun x88 h=>?_
   refine A3 h (fun _=>HA _ _ _ _) fun x89 h=>?_
   refine A3 h (fun _=>CQ _ _ _ _) fun x90 h=>?_
   conv=>whnf
   exact ⟨⟨_,h⟩,Aq⟩
  conv=>whnf
  exact ⟨⟨_,h⟩,Aq⟩
 obtain ⟨j5_2,h⟩:=p
 simp only [BM] at h
 refine Er {p:(List Ae) // J5 p1 self_ref17_Needs p0 p = some R} (fun p=>B5 139 [(2,.ptr 2 1 0),(3,.ptr 3 1 0),(5,.d (Aj 2 Af p.1))] [(2,.var [.d (Aj 2 Ac p0.Lists),.d (Aj 7 Ad p0.Columns)],1),(3,.var [.d (.int .i64 p1.Op),.d (.int .i64 p1.Num),.d (.str p1.Name),.d (.int .i64 p1.Column),.d (Aj 1 (D.int .i64) p1.Columns),.d (Aj 2 Af p1.Dims),.d (.int .i64 p1.Cond.Op),.d (.int .i64 p1.Cond.Column),.d (.int .i64 p1.Cond.Code),.d (.int .i64 p1.Cond.Low),.d (.int .i64 p1.Cond.High),.d (Aj 6 An p1.Cond.Kids),.d (.int .i64 p1.Event.Op),.d (.int .i64 p1.Event.Column),.d (.int .i64 p1.Event.Code),.d (.int .i64 p1.Event.Low),.d (.int .i64 p1.Event.High),.d (Aj 6 An p1.Event.Kids),.d (Aj 19 B6 p1.Kids)],1)]) ?_ fun p=>?_
 ·obtain ⟨P2,i2,h⟩:=Az h
  refine loop {p:Nat × ((List Ae) × Int) // P2 p.1 p.2 = some R} (fun p=>B5 139 [(2,.ptr 2 1 0),(3,.ptr 3 1 0),(5,.d (Aj 2 Af p.1.2.1)),(7,.d (.int .i64 p.1.2.2))] [(2,.var [.d (Aj 2 Ac p0.Lists),.d (Aj 7 Ad p0.Columns)],1),(3,.var [.d (.int .i64 p1.Op),.d (.int .i64 p1.Num),.d (.str p1.Name),.d (.int .i64 p1.Column),.d (Aj 1 (D.int .i64) p1.Columns),.d (Aj 2 Af p1.Dims),.d (.int .i64 p1.Cond.Op),.d (.int .i64 p1.Cond.Column),.d (.int .i64 p1.Cond.Code),.d (.int .i64 p1.Cond.Low),.d (.int .i64 p1.Cond.High),.d (Aj 6 An p1.Cond.Kids),.d (.int .i64 p1.Event.Op),.d (.int .i64 p1.Event.Column),.d (.int .i64 p1.Event.Code),.d (.int .i64 p1.Event.Low),.d (.int .i64 p1.Event.High),.d (Aj 6 An p1.Event.Kids),.d (Aj 19 B6 p1.Kids)],1)]) (fun p=>p.1.1) ⟨(_,(_,_)),h⟩ ?_ fun p=>?_
  ·exact Aq
  obtain ⟨⟨k2,⟨v5_2,v7_2⟩⟩,h⟩:=p
  obtain ⟨k2,rfl,h⟩:=i2 _ _ h
  simp only [LS] at h
  refine AH h (fun h=>?_) fun h=>?_
  ·conv=>whnf
   refine ⟨⟨by decide +kernel,by kernel_rfl⟩,?_⟩
   refine AF (f:=(D.int .i64)) h fun x103 _ h=>?_
   refine A3 h (fun _=>EX _ _ _ _) fun x105 h=>?_
   conv=>whnf
   exact B1 ⟨(_,(_,_)),h⟩ Aq
  conv=>whnf
  exact ⟨⟨_,h⟩,Aq⟩
 obtain ⟨j5_3,h⟩:=p
 simp only [J5] at h
 obtain ⟨P3,i3,h⟩:=Az h
 refine loop {p:Nat × ((List Ae) × Int) // P3 p.1 p.2 = some R} (fun p=>B5 139 [(2,.ptr 2 1 0),(3,.ptr 3 1 0),(5,.d (Aj 2 Af p.1.2.1)),(8,.d (.int .i64 p.1.2.2))] [(2,.var [.d (Aj 2 Ac p0.Lists),.d (Aj 7 Ad p0.Columns)],1),(3,.var [.d (.int .i64 p1.Op),.d (.int .i64 p1.Num),.d (.str p1.Name),.d (.int .i64 p1.Column),.d (Aj 1 (D.int .i64) p1.Columns),.d (Aj 2 Af p1.Dims),.d (.int .i64 p1.Cond.Op),.d (.int .i64 p1.Cond.Column),.d (.int .i64 p1.Cond.Code),.d (.int .i64 p1.Cond.Low),.d (.int .i64 p1.Cond.High),.d (Aj 6 An p1.Cond.Kids),.d (.int .i64 p1.Event.Op),.d (.int .i64 p1.Event.Column),.d (.int .i64 p1.Event.Code),.d (.int .i64 p1.Event.Low),.d (.int .i64 p1.Event.High),.d (Aj 6 An p1.Event.Kids),.d (Aj 19 B6 p1.Kids)],1)]) (fun p=>p.1.1) ⟨(_,(_,_)),h⟩ ?_ fun p=>?_
 ·exact Aq
 obtain ⟨⟨k3,⟨v5_3,v8_3⟩⟩,h⟩:=p
 obtain ⟨k3,rfl,h⟩:=i3 _ _ h
 simp only [LZ] at h
 refine BY h fun h=>?_
 conv=>whnf
 refine ⟨⟨by decide +kernel,by kernel_rfl⟩,?_⟩
 refine AF (f:=B6) h fun x117 _ h=>?_
 rw [Bm x117]
 conv=>whnf
 obtain ⟨x119,hx119,h⟩:=A7 h
 first | refine AD (ih_ref17_Needs _ _ _ hx119) ?_ | (simp only [List.length_map]; refine AD (ih_ref17_Needs _ _ _ hx119) ?_)
 obtain ⟨P4,i4,h⟩:=Az h
 refine loop {p:Nat × ((List Ae) × Int) // P4 p.1 p.2 = some R} (fun p=>B5 139 [(2,.ptr 2 1 0),(3,.ptr 3 1 0),(5,.d (Aj 2 Af p.1.2.1)),(8,.d (.int .i64 v8_3)),(9,.d (Aj 2 Af x119)),(10,.d (.int .i64 p.1.2.2))] [(2,.var [.d (Aj 2 Ac p0.Lists),.d (Aj 7 Ad p0.Columns)],1),(3,.var [.d (.int .i64 p1.Op),.d (.int .i64 p1.Num),.d (.str p1.Name),.d (.int .i64 p1.Column),.d (Aj 1 (D.int .i64) p1.Columns),.d (Aj 2 Af p1.Dims),.d (.int .i64 p1.Cond.Op),.d (.int .i64 p1.Cond.Column),.d (.int .i64 p1.Cond.Code),.d (.int .i64 p1.Cond.Low),.d (.int .i64 p1.Cond.High),.d (Aj 6 An p1.Cond.Kids),.d (.int .i64 p1.Event.Op),.d (.int .i64 p1.Event.Column),.d (.int .i64 p1.Event.Code),.d (.int .i64 p1.Event.Low),.d (.int .i64 p1.Event.High),.d (Aj 6 An p1.Event.Kids),.d (Aj 19 B6 p1.Kids)],1)]) (fun p=>p.1.1) ⟨(_,(_,_)),h⟩ ?_ fun p=>?_
 ·exact Aq
 obtain ⟨⟨k4,⟨v5_4,v10_4⟩⟩,h⟩:=p
 obtain ⟨k4,rfl,h⟩:=i4 _ _ h
 simp only [OT] at h
 refine AH h (fun h=>?_) fun h=>?_
 ·conv=>whnf
  refine ⟨⟨by decide +kernel,by kernel_rfl⟩,?_⟩
  refine AF (f:=Af) h fun x129 _ h=>?_
  refine AF (f:=Af) h fun x134 _ h=>?_
  refine A3 h (fun _=>CQ _ _ _ _) fun x137 h=>?_
  conv=>whnf
  exact B1 ⟨(_,(_,_)),h⟩ Aq
 conv=>whnf
 exact B1 ⟨(_,(_,_)),h⟩ Aq
theorem O9:∀ d:Nat,(∀ (p0:Aa) (p1:AA) (R:(List Ae)) ,F5 d p0 p1 = some R→Ao Tryz.prog 105 [.d (Ai p0),.d (AX p1)] (.d (Aj 2 Af R)))
 | 0=>by
  refine (by intros; rename_i h; cases h)
 | d + 1=>by
  have ih:=O9 d
  exact TM d _ ih
theorem Vu (d:Nat):∀ (p0:Aa) (p1:AA) (R:(List Ae)) ,F5 d p0 p1 = some R→Ao Tryz.prog 105 [.d (Ai p0),.d (AX p1)] (.d (Aj 2 Af R)):=O9 d
theorem Ra (d:Nat) (p0:Aa) (p1:Au) (p2:AA) (R:Int) (h:Cz d p0 p1 p2 = some R):Ao Tryz.prog 53 [.d (Ai p0),.d (Bh p1),.d (AX p2)] (.d (.int .i64 R)):=by
 refine BP Tryz.func53 ?_
 unfold Cz at h
 refine A3 h (fun _=>PM _ _ _) fun x10 h=>?_
 refine A2 h fun h=>?_
 refine A3 h (fun _=>Qk _ _ _ _) fun x16 h=>?_
 refine A2 h fun h=>?_
 conv=>whnf
 refine ⟨⟨by decide +kernel,by kernel_rfl⟩,?_⟩
 refine A3 h (fun _=>Vu _ _ _ _) fun x20 h=>?_
 refine A3 h (fun _=>LX _ _ _) fun x23 h=>?_
 exact Lg h
theorem Qd (p0:(List Int)) (p1:Int) (R:Int) (h:Iu p0 p1 = some R):Ao Tryz.prog 106 [.d (Aj 1 (D.int .i64) p0),.d (.int .i64 p1)] (.d (.int .i64 R)):=by
 refine BP Tryz.func106 ?_
 unfold Iu at h
 refine Ak h fun h=>?_
 refine Ak h fun h=>?_
 obtain ⟨P1,i1,h⟩:=Az h
 refine loop {p:Nat × Int // P1 p.1 p.2 = some R} (fun p=>B5 33 [(0,.d (Aj 1 (D.int .i64) p0)),(5,.d (.int .i64 p.1.2))] []) (fun p=>p.1.1) ⟨(_,_),h⟩ ?_ fun p=>?_
 ·exact Ah
 obtain ⟨⟨k1,v5_1⟩,h⟩:=p
 obtain ⟨k1,rfl,h⟩:=i1 _ _ h
 simp only [Jm] at h
 refine Ba h fun h=>?_
 refine AF (f:=(D.int .i64)) h fun x23 _ h=>?_
 refine Ak h fun h=>?_
 refine AF (f:=(D.int .i64)) h fun x29 _ h=>?_
 refine Ak h fun h=>?_
 conv=>whnf
 exact B1 ⟨(_,_),h⟩ Ah
theorem X9 (p0:(List Int)) (p1:Int) (R:(List Int)) (h:Na p0 p1 = some R):Ao Tryz.prog 107 [.d (Aj 1 (D.int .i64) p0),.d (.int .i64 p1)] (.d (Aj 1 (D.int .i64) R)):=by
 refine BP Tryz.func107 ?_
 unfold Na at h
 refine A3 h (fun _=>Mj _ _ _) fun x10 h=>?_
 refine Ak h fun h=>?_
 obtain ⟨P1,i1,h⟩:=Az h
 refine loop {p:Nat × (Bool × Int × (List Int)) // P1 p.1 p.2 = some R} (fun p=>B5 46 [(0,.d (Aj 1 (D.int .i64) p0)),(1,.d (.int .i64 p1)),(5,.sl 5 1),(6,.d (.bool p.1.2.1)),(7,.d (.int .i64 p.1.2.2.1))] [(5,.row 1 3 (List.map (D.int .i64) p.1.2.2.2),1)]) (fun p=>p.1.1) ⟨(_,(_,_,_)),h⟩ ?_ fun p=>?_
 ·exact Ah
 obtain ⟨⟨k1,⟨v6_1,v7_1,b5_1⟩⟩,h⟩:=p
 obtain ⟨k1,rfl,h⟩:=i1 _ _ h
 simp only [Lq] at h
 refine AH h (fun h=>?_) fun h=>?_
 ·refine AF (f:=(D.int .i64)) h fun x20 _ h=>?_
  refine AH h (fun h=>?_) fun h=>?_
  ·conv=>whnf
   obtain ⟨hr,h⟩:=CS h
   refine ⟨by (simp only [List.length_map]; exact AE hr (of_decide_eq_true (by kernel_rfl)) (.inr (by kernel_rfl))),?_⟩
   try rw [G9]
   refine AF (f:=(D.int .i64)) h fun x35 hx35 h=>?_
   conv=>whnf
   obtain ⟨hr,h⟩:=CS h
   refine ⟨by (simp only [List.length_map]; exact AE hr (of_decide_eq_true (by kernel_rfl)) (.inr (by kernel_rfl))),?_⟩
   try rw [G9]
   conv=>whnf
   exact B1 ⟨(_,(_,_,_)),h⟩ Ah
  refine AF (f:=(D.int .i64)) h fun x35 hx35 h=>?_
  conv=>whnf
  obtain ⟨hr,h⟩:=CS h
  refine ⟨by (simp only [List.length_map]; exact AE hr (of_decide_eq_true (by kernel_rfl)) (.inr (by kernel_rfl))),?_⟩
  try rw [G9]
  conv=>whnf
  exact B1 ⟨(_,(_,_,_)),h⟩ Ah
 refine AH h (fun h=>?_) fun h=>?_
 ·conv=>whnf
  obtain ⟨hr,h⟩:=CS h
  refine ⟨by (simp only [List.length_map]; exact AE hr (of_decide_eq_true (by kernel_rfl)) (.inr (by kernel_rfl))),?_⟩
  try rw [G9]
  conv=>whnf
  obtain rfl:=Option.some.inj h
  refine ⟨.inl ?_⟩
  conv=>whnf
  exact ⟨HO⟩
 conv=>whnf
 obtain rfl:=Option.some.inj h
 refine ⟨.inl ?_⟩
 conv=>whnf
 exact ⟨HO⟩
end Go.Proofs.YtejfnieiaecpkaaGreatDoor.P
