/- P3W9 -/
import Derived.Test.YtejfnieiaecpkaaGreatDoorP3W8
import Derived.Test.YtejfnieiaecpkaaGreatDoorFB
set_option linter.unusedSimpArgs false
namespace Go.Proofs.YtejfnieiaecpkaaGreatDoor.P
open Go.Abs Go.Proofs
set_option maxRecDepth 100000
set_option maxHeartbeats 4000000
set_option linter.unusedVariables false
theorem V7 (d:Nat) (self_ref16_Right:(Aa→AD→Option Bool)) (ih_ref16_Right:∀ (p0:Aa) (p1:AD) (R:Bool) ,self_ref16_Right p0 p1 = some R→Aj Tryz.prog 104 [.d (Ai p0),.d (Bb p1)] (.d (.bool R))) (p0:Aa) (p1:AD) (R:Bool) (h:HS d self_ref16_Right p0 p1 = some R):Aj Tryz.prog 104 [.d (Ai p0),.d (Bb p1)] (.d (.bool R)):=by
 refine Dt [3,6,13,38] Tryz.func104 (by kernel_rfl) ?_
 unfold HS at h
 refine F0 {p:Unit // Jg p1 self_ref16_Right p0 d = some R} (fun p=>B8 152 [(2,.ptr 2 1 0),(3,.ptr 3 1 0)] [(2,.var [.d (Al 2 Ac p0.Lists),.d (Al 7 Ad p0.Columns)],1),(3,.var [.d (.int .i64 p1.Op),.d (.int .i64 p1.Num),.d (.str p1.Name),.d (.int .i64 p1.Column),.d (Al 1 (D.int .i64) p1.Columns),.d (Al 2 Ag p1.Dims),.d (.int .i64 p1.Cond.Op),.d (.int .i64 p1.Cond.Column),.d (.int .i64 p1.Cond.Code),.d (.int .i64 p1.Cond.Low),.d (.int .i64 p1.Cond.High),.d (Al 6 Ao p1.Cond.Kids),.d (.int .i64 p1.Event.Op),.d (.int .i64 p1.Event.Column),.d (.int .i64 p1.Event.Code),.d (.int .i64 p1.Event.Low),.d (.int .i64 p1.Event.High),.d (Al 6 Ao p1.Event.Kids),.d (Al 19 B9 p1.Kids)],1)]) ?_ fun p=>?_
 ·refine A7 h (fun _=>Dd _ _) fun x9 h=>?_
  refine A2 h fun h=>?_
  refine A7 h (fun _=>YX _ _ _) fun x13 h=>?_
  exact z35
 obtain ⟨_,h⟩:=p
 simp only [Jg] at h
 refine F0 {p:Int // Hh p1 self_ref16_Right p0 d p = some R} (fun p=>B8 152 [(2,.ptr 2 1 0),(3,.ptr 3 1 0),(5,.d (.int .i64 p.1))] [(2,.var [.d (Al 2 Ac p0.Lists),.d (Al 7 Ad p0.Columns)],1),(3,.var [.d (.int .i64 p1.Op),.d (.int .i64 p1.Num),.d (.str p1.Name),.d (.int .i64 p1.Column),.d (Al 1 (D.int .i64) p1.Columns),.d (Al 2 Ag p1.Dims),.d (.int .i64 p1.Cond.Op),.d (.int .i64 p1.Cond.Column),.d (.int .i64 p1.Cond.Code),.d (.int .i64 p1.Cond.Low),.d (.int .i64 p1.Cond.High),.d (Al 6 Ao p1.Cond.Kids),.d (.int .i64 p1.Event.Op),.d (.int .i64 p1.Event.Column),.d (.int .i64 p1.Event.Code),.d (.int .i64 p1.Event.Low),.d (.int .i64 p1.Event.High),.d (Al 6 Ao p1.Event.Kids),.d (Al 19 B9 p1.Kids)],1)]) ?_ fun p=>?_
 ·refine AW h (fun h=>?_) fun h=>?_
  ·exact z17
  exact z17
 obtain ⟨j5_2,h⟩:=p
 simp only [Hh] at h
 refine A2 h fun h=>?_
 refine F0 {p:Unit // Jj p0 p1 j5_2 d = some R} (fun p=>B8 152 [(2,.ptr 2 1 0),(3,.ptr 3 1 0),(5,.d (.int .i64 j5_2))] [(2,.var [.d (Al 2 Ac p0.Lists),.d (Al 7 Ad p0.Columns)],1),(3,.var [.d (.int .i64 p1.Op),.d (.int .i64 p1.Num),.d (.str p1.Name),.d (.int .i64 p1.Column),.d (Al 1 (D.int .i64) p1.Columns),.d (Al 2 Ag p1.Dims),.d (.int .i64 p1.Cond.Op),.d (.int .i64 p1.Cond.Column),.d (.int .i64 p1.Cond.Code),.d (.int .i64 p1.Cond.Low),.d (.int .i64 p1.Cond.High),.d (Al 6 Ao p1.Cond.Kids),.d (.int .i64 p1.Event.Op),.d (.int .i64 p1.Event.Column),.d (.int .i64 p1.Event.Code),.d (.int .i64 p1.Event.Low),.d (.int .i64 p1.Event.High),.d (Al 6 Ao p1.Event.Kids),.d (Al 19 B9 p1.Kids)],1)]) ?_ fun p=>?_
 ·refine z3 h (fun p=>B8 152 [(2,.ptr 2 1 0),(3,.ptr 3 1 0),(5,.d (.int .i64 j5_2)),(6,.d (.int .i64 p))] [(2,.var [.d (Al 2 Ac p0.Lists),.d (Al 7 Ad p0.Columns)],1),(3,.var [.d (.int .i64 p1.Op),.d (.int .i64 p1.Num),.d (.str p1.Name),.d (.int .i64 p1.Column),.d (Al 1 (D.int .i64) p1.Columns),.d (Al 2 Ag p1.Dims),.d (.int .i64 p1.Cond.Op),.d (.int .i64 p1.Cond.Column),.d (.int .i64 p1.Cond.Code),.d (.int .i64 p1.Cond.Low),.d (.int .i64 p1.Cond.High),.d (Al 6 Ao p1.Cond.Kids),.d (.int .i64 p1.Event.Op),.d (.int .i64 p1.Event.Column),.d (.int .i64 p1.Event.Code),.d (.int .i64 p1.Event.Low),.d (.int .i64 p1.Event.High),.d (Al 6 Ao p1.Event.Kids),.d (Al 19 B9 p1.Kids)],1)]) Aq fun _ _ v6_1 h=>?_
  simp only [Mh] at h
  refine AW h (fun h=>?_) fun h=>?_
  ·conv=>whnf
   refine z11 ?_
   refine AO (f:=B9) h fun x39 _ h=>?_
   rw [Bp x39]
   refine A2 h fun h=>?_
   refine AO (f:=B9) h fun x48 _ h=>?_
   rw [Bp x48]
   conv=>whnf
   obtain ⟨x50,hx50,h⟩:=AB h
   first | refine Au (ih_ref16_Right _ _ _ hx50) ?_ | (simp only [List.length_map]; refine Au (ih_ref16_Right _ _ _ hx50) ?_)
   exact z28
  conv=>whnf
  exact ⟨⟨(),h⟩,Aq⟩
 obtain ⟨_,h⟩:=p
 simp only [Jj] at h
 refine A7 h (fun _=>NX _ _ _ _) fun x56 h=>?_
 refine F0 {p:Bool // BV j5_2 d p0 p1 p = some R} (fun p=>B8 152 [(2,.ptr 2 1 0),(3,.ptr 3 1 0),(5,.d (.int .i64 j5_2)),(7,.d (.bool p.1))] [(2,.var [.d (Al 2 Ac p0.Lists),.d (Al 7 Ad p0.Columns)],1),(3,.var [.d (.int .i64 p1.Op),.d (.int .i64 p1.Num),.d (.str p1.Name),.d (.int .i64 p1.Column),.d (Al 1 (D.int .i64) p1.Columns),.d (Al 2 Ag p1.Dims),.d (.int .i64 p1.Cond.Op),.d (.int .i64 p1.Cond.Column),.d (.int .i64 p1.Cond.Code),.d (.int .i64 p1.Cond.Low),.d (.int .i64 p1.Cond.High),.d (Al 6 Ao p1.Cond.Kids),.d (.int .i64 p1.Event.Op),.d (.int .i64 p1.Event.Column),.d (.int .i64 p1.Event.Code),.d (.int .i64 p1.Event.Low),.d (.int .i64 p1.Event.High),.d (Al 6 Ao p1.Event.Kids),.d (Al 19 B9 p1.Kids)],1)]) ?_ fun p=>?_
 ·refine A2 h fun h=>?_
  refine AW h (fun h=>?_) fun h=>?_
  ·refine A7 h (fun _=>EW _ _) fun x73 h=>?_
   exact AM h
  conv=>whnf
  refine KG h Db (fun e36 h=>?_) (fun e36 h=>?_)
  ·conv=>whnf
   refine Lp Db e36 ?_
   exact z17
  conv=>whnf
  refine KG h Db (fun e37 h=>?_) (fun e37 h=>?_)
  ·conv=>whnf
   refine Lp Db e37 ?_
   exact z17
  conv=>whnf
  refine KG h Db (fun e38 h=>?_) (fun e38 h=>?_)
  ·conv=>whnf
   refine Lp Db e38 ?_
   exact z17
  conv=>whnf
  refine KG h Db (fun e39 h=>?_) (fun e39 h=>?_)
  ·conv=>whnf
   refine Lp Db e39 ?_
   exact z17
  refine AW h (fun h=>?_) fun h=>?_
  ·exact z17
  refine AW h (fun h=>?_) fun h=>?_
  ·refine A7 h (fun _=>Si _ _ _) fun x85 h=>?_
   refine A2 h fun h=>?_
   exact z17
  refine AW h (fun h=>?_) fun h=>?_
  ·refine A7 h (fun _=>Q9 _ _ _ _) fun x100 h=>?_
   refine A2 h fun h=>?_
   exact z17
  refine AW h (fun h=>?_) fun h=>?_
  ·refine A2 h fun h=>?_
   refine AO (f:=Ad) h fun x111 _ h=>?_
   refine A2 h fun h=>?_
   refine A7 h (fun _=>Ev _ _ _ _) fun x120 h=>?_
   refine A2 h fun h=>?_
   exact z17
  refine AW h (fun h=>?_) fun h=>?_
  ·conv=>whnf
   refine z11 ?_
   refine A2 h fun h=>?_
   refine AO (f:=Ad) h fun x132 _ h=>?_
   refine A7 h (fun _=>OU _ _ _) fun x137 h=>?_
   refine A2 h fun h=>?_
   exact z17
  exact z17
 obtain ⟨j7_4,h⟩:=p
 simp only [BV] at h
 refine Cb h fun h=>?_
 refine A2 h fun h=>?_
 refine A7 h (fun _=>Ev _ _ _ _) fun x148 h=>?_
 exact AM h
theorem O8:∀ d:Nat,(∀ (p0:Aa) (p1:AD) (R:Bool) ,En d p0 p1 = some R→Aj Tryz.prog 104 [.d (Ai p0),.d (Bb p1)] (.d (.bool R)))
 | 0=>by
  exact z22
 | d + 1=>by
  have ih:=O8 d
  exact V7 d _ ih
theorem Qn (d:Nat):∀ (p0:Aa) (p1:AD) (R:Bool) ,En d p0 p1 = some R→Aj Tryz.prog 104 [.d (Ai p0),.d (Bb p1)] (.d (.bool R)):=O8 d
theorem VU (p0:Aa) (p1:Int) (p2:Int) (R:Int) (h:Pz p0 p1 p2 = some R):Aj Tryz.prog 54 [.d (Ai p0),.d (.int .i64 p1),.d (.int .i64 p2)] (.d (.int .i64 R)):=by
 refine Ch Tryz.func54 ?_
 unfold Pz at h
 refine AO (f:=Ad) h fun x12 _ h=>?_
 refine z3 h (fun p=>B8 33 [(2,.d (.int .i64 p2)),(7,.ptr 7 1 0),(8,.d (.int .i64 p))] [(7,.var [.d (.str x12.Name),.d (.int .i64 x12.Kind),.d (.int .i64 x12.List_),.d (.int .i64 x12.Low),.d (.int .i64 x12.High),.d (Al 1 (D.int .i64) x12.Widths),.d (.bool x12.Optional)],1)]) Ah fun _ _ v8_1 h=>?_
 simp only [OA] at h
 refine Bj h fun h=>?_
 refine AO (f:=(D.int .i64)) h fun x24 _ h=>?_
 exact z12
theorem T9 (d:Nat) (p0:Aa) (p1:(List Ae)) (p2:Af) (R:(List Ae)) (h:IB d p0 p1 p2 = some R):Aj Tryz.prog 175 [.d (Ai p0),.d (Al 2 Ag p1),.d (Ax p2)] (.d (Al 2 Ag R)):=by
 refine Ch Tryz.func175 ?_
 unfold IB at h
 refine A7 h (fun _=>Kf _ _ _ _) fun x11 h=>?_
 refine z3 h (fun p=>B8 31 [(1,.d (Al 2 Ag p.1)),(7,.d (Al 2 Ag x11)),(8,.d (.int .i64 p.2))] []) Aq fun _ _ ⟨v1_1,v8_1⟩ h=>?_
 simp only [J6] at h
 refine Cb h fun h=>?_
 conv=>whnf
 refine z11 ?_
 refine AO (f:=Ag) h fun x21 _ h=>?_
 refine AO (f:=Ag) h fun x26 _ h=>?_
 refine A7 h (fun _=>De _ _ _ _) fun x29 h=>?_
 exact z19
theorem Fq (p0:Aa) (p1:(List Ae)) (p2:Int) (R:(List Ae)) (h:Eo p0 p1 p2 = some R):Aj Tryz.prog 176 [.d (Ai p0),.d (Al 2 Ag p1),.d (.int .i64 p2)] (.d (Al 2 Ag R)):=by
 refine Ch Tryz.func176 ?_
 unfold Eo at h
 conv=>whnf
 refine z11 ?_
 refine A7 h (fun _=>Cd _ _ _) fun x13 h=>?_
 refine A7 h (fun _=>HP _ _ _ _) fun x14 h=>?_
 refine A7 h (fun _=>De _ _ _ _) fun x15 h=>?_
 exact A3 h
theorem UP (d:Nat) (self_ref17_Needs:(Aa→AD→Option (List Ae))) (ih_ref17_Needs:∀ (p0:Aa) (p1:AD) (R:(List Ae)) ,self_ref17_Needs p0 p1 = some R→Aj Tryz.prog 105 [.d (Ai p0),.d (Bb p1)] (.d (Al 2 Ag R))) (p0:Aa) (p1:AD) (R:(List Ae)) (h:HO d self_ref17_Needs p0 p1 = some R):Aj Tryz.prog 105 [.d (Ai p0),.d (Bb p1)] (.d (Al 2 Ag R)):=by
 refine Dt [8,20,24] Tryz.func105 (by kernel_rfl) ?_
 unfold HO at h
 refine A7 h (fun _=>Qn _ _ _ _) fun x13 h=>?_
 refine AW h (fun h=>?_) fun h=>?_
 ·exact z46
 conv=>whnf
 refine z11 ?_
 refine A7 h (fun _=>T9 _ _ _ _ _) fun x19 h=>?_
 refine A7 h (fun _=>T9 _ _ _ _ _) fun x22 h=>?_
 refine F0 {p:(List Ae) // J0 p1 p0 self_ref17_Needs p = some R} (fun p=>B8 139 [(2,.ptr 2 1 0),(3,.ptr 3 1 0),(5,.d (Al 2 Ag p.1))] [(2,.var [.d (Al 2 Ac p0.Lists),.d (Al 7 Ad p0.Columns)],1),(3,.var [.d (.int .i64 p1.Op),.d (.int .i64 p1.Num),.d (.str p1.Name),.d (.int .i64 p1.Column),.d (Al 1 (D.int .i64) p1.Columns),.d (Al 2 Ag p1.Dims),.d (.int .i64 p1.Cond.Op),.d (.int .i64 p1.Cond.Column),.d (.int .i64 p1.Cond.Code),.d (.int .i64 p1.Cond.Low),.d (.int .i64 p1.Cond.High),.d (Al 6 Ao p1.Cond.Kids),.d (.int .i64 p1.Event.Op),.d (.int .i64 p1.Event.Column),.d (.int .i64 p1.Event.Code),.d (.int .i64 p1.Event.Low),.d (.int .i64 p1.Event.High),.d (Al 6 Ao p1.Event.Kids),.d (Al 19 B9 p1.Kids)],1)]) ?_ fun p=>?_
 ·refine z3 h (fun p=>B8 139 [(2,.ptr 2 1 0),(3,.ptr 3 1 0),(5,.d (Al 2 Ag p.1)),(6,.d (.int .i64 p.2))] [(2,.var [.d (Al 2 Ac p0.Lists),.d (Al 7 Ad p0.Columns)],1),(3,.var [.d (.int .i64 p1.Op),.d (.int .i64 p1.Num),.d (.str p1.Name),.d (.int .i64 p1.Column),.d (Al 1 (D.int .i64) p1.Columns),.d (Al 2 Ag p1.Dims),.d (.int .i64 p1.Cond.Op),.d (.int .i64 p1.Cond.Column),.d (.int .i64 p1.Cond.Code),.d (.int .i64 p1.Cond.Low),.d (.int .i64 p1.Cond.High),.d (Al 6 Ao p1.Cond.Kids),.d (.int .i64 p1.Event.Op),.d (.int .i64 p1.Event.Column),.d (.int .i64 p1.Event.Code),.d (.int .i64 p1.Event.Low),.d (.int .i64 p1.Event.High),.d (Al 6 Ao p1.Event.Kids),.d (Al 19 B9 p1.Kids)],1)]) Aq fun _ _ ⟨v5_1,v6_1⟩ h=>?_
  simp only [Mg] at h
  refine AW h (fun h=>?_) fun h=>?_
  ·conv=>whnf
   refine z11 ?_
   refine AO (f:=Ag) h fun x34 _ h=>?_
   refine AO (f:=Ag) h fun x41 _ h=>?_
   refine AO (f:=Ag) h fun x47 _ h=>?_
   refine A7 h (fun _=>HP _ _ _ _) fun x50 h=>?_
   refine A7 h (fun _=>De _ _ _ _) fun x51 h=>?_
   exact z19
  exact z17
 obtain ⟨j5_1,h⟩:=p
 simp only [J0] at h
 refine F0 {p:(List Ae) // BU p1 p0 self_ref17_Needs p = some R} (fun p=>B8 139 [(2,.ptr 2 1 0),(3,.ptr 3 1 0),(5,.d (Al 2 Ag p.1))] [(2,.var [.d (Al 2 Ac p0.Lists),.d (Al 7 Ad p0.Columns)],1),(3,.var [.d (.int .i64 p1.Op),.d (.int .i64 p1.Num),.d (.str p1.Name),.d (.int .i64 p1.Column),.d (Al 1 (D.int .i64) p1.Columns),.d (Al 2 Ag p1.Dims),.d (.int .i64 p1.Cond.Op),.d (.int .i64 p1.Cond.Column),.d (.int .i64 p1.Cond.Code),.d (.int .i64 p1.Cond.Low),.d (.int .i64 p1.Cond.High),.d (Al 6 Ao p1.Cond.Kids),.d (.int .i64 p1.Event.Op),.d (.int .i64 p1.Event.Column),.d (.int .i64 p1.Event.Code),.d (.int .i64 p1.Event.Low),.d (.int .i64 p1.Event.High),.d (Al 6 Ao p1.Event.Kids),.d (Al 19 B9 p1.Kids)],1)]) ?_ fun p=>?_
 ·conv=>whnf
  refine KG h Db (fun e28 h=>?_) (fun e28 h=>?_)
  ·conv=>whnf
   refine Lp Db e28 ?_
   exact z29
  conv=>whnf
  refine KG h Db (fun e29 h=>?_) (fun e29 h=>?_)
  ·conv=>whnf
   refine Lp Db e29 ?_
   exact z29
  conv=>whnf
  refine KG h Db (fun e30 h=>?_) (fun e30 h=>?_)
  ·conv=>whnf
   refine Lp Db e30 ?_
   exact z29
  conv=>whnf
  refine KG h Db (fun e31 h=>?_) (fun e31 h=>?_)
  ·conv=>whnf
   refine Lp Db e31 ?_
   exact z29
  refine AW h (fun h=>?_) fun h=>?_
  ·exact z29
  refine AW h (fun h=>?_) fun h=>?_
  ·refine AW h (fun h=>?_) fun h=>?_
   ·refine A7 h (fun _=>Fq _ _ _ _) fun x74 h=>?_
    exact z17
   exact z17
  refine AW h (fun h=>?_) fun h=>?_
  ·conv=>whnf
   refine z11 ?_
   refine A7 h (fun _=>VU _ _ _ _) fun x88 h=>?_
   refine A7 h (fun _=>HP _ _ _ _) fun x89 h=>?_
   refine A7 h (fun _=>De _ _ _ _) fun x90 h=>?_
   exact z17
  exact z17
 obtain ⟨j5_2,h⟩:=p
 simp only [BU] at h
 refine F0 {p:(List Ae) // Jn p1 self_ref17_Needs p0 p = some R} (fun p=>B8 139 [(2,.ptr 2 1 0),(3,.ptr 3 1 0),(5,.d (Al 2 Ag p.1))] [(2,.var [.d (Al 2 Ac p0.Lists),.d (Al 7 Ad p0.Columns)],1),(3,.var [.d (.int .i64 p1.Op),.d (.int .i64 p1.Num),.d (.str p1.Name),.d (.int .i64 p1.Column),.d (Al 1 (D.int .i64) p1.Columns),.d (Al 2 Ag p1.Dims),.d (.int .i64 p1.Cond.Op),.d (.int .i64 p1.Cond.Column),.d (.int .i64 p1.Cond.Code),.d (.int .i64 p1.Cond.Low),.d (.int .i64 p1.Cond.High),.d (Al 6 Ao p1.Cond.Kids),.d (.int .i64 p1.Event.Op),.d (.int .i64 p1.Event.Column),.d (.int .i64 p1.Event.Code),.d (.int .i64 p1.Event.Low),.d (.int .i64 p1.Event.High),.d (Al 6 Ao p1.Event.Kids),.d (Al 19 B9 p1.Kids)],1)]) ?_ fun p=>?_
 ·refine z3 h (fun p=>B8 139 [(2,.ptr 2 1 0),(3,.ptr 3 1 0),(5,.d (Al 2 Ag p.1)),(7,.d (.int .i64 p.2))] [(2,.var [.d (Al 2 Ac p0.Lists),.d (Al 7 Ad p0.Columns)],1),(3,.var [.d (.int .i64 p1.Op),.d (.int .i64 p1.Num),.d (.str p1.Name),.d (.int .i64 p1.Column),.d (Al 1 (D.int .i64) p1.Columns),.d (Al 2 Ag p1.Dims),.d (.int .i64 p1.Cond.Op),.d (.int .i64 p1.Cond.Column),.d (.int .i64 p1.Cond.Code),.d (.int .i64 p1.Cond.Low),.d (.int .i64 p1.Cond.High),.d (Al 6 Ao p1.Cond.Kids),.d (.int .i64 p1.Event.Op),.d (.int .i64 p1.Event.Column),.d (.int .i64 p1.Event.Code),.d (.int .i64 p1.Event.Low),.d (.int .i64 p1.Event.High),.d (Al 6 Ao p1.Event.Kids),.d (Al 19 B9 p1.Kids)],1)]) Aq fun _ _ ⟨v5_2,v7_2⟩ h=>?_
  simp only [LW] at h
  refine AW h (fun h=>?_) fun h=>?_
  ·conv=>whnf
   refine z11 ?_
   refine AO (f:=(D.int .i64)) h fun x103 _ h=>?_
   refine A7 h (fun _=>Fq _ _ _ _) fun x105 h=>?_
   exact z19
  exact z17
 obtain ⟨j5_3,h⟩:=p
 simp only [Jn] at h
 refine z3 h (fun p=>B8 139 [(2,.ptr 2 1 0),(3,.ptr 3 1 0),(5,.d (Al 2 Ag p.1)),(8,.d (.int .i64 p.2))] [(2,.var [.d (Al 2 Ac p0.Lists),.d (Al 7 Ad p0.Columns)],1),(3,.var [.d (.int .i64 p1.Op),.d (.int .i64 p1.Num),.d (.str p1.Name),.d (.int .i64 p1.Column),.d (Al 1 (D.int .i64) p1.Columns),.d (Al 2 Ag p1.Dims),.d (.int .i64 p1.Cond.Op),.d (.int .i64 p1.Cond.Column),.d (.int .i64 p1.Cond.Code),.d (.int .i64 p1.Cond.Low),.d (.int .i64 p1.Cond.High),.d (Al 6 Ao p1.Cond.Kids),.d (.int .i64 p1.Event.Op),.d (.int .i64 p1.Event.Column),.d (.int .i64 p1.Event.Code),.d (.int .i64 p1.Event.Low),.d (.int .i64 p1.Event.High),.d (Al 6 Ao p1.Event.Kids),.d (Al 19 B9 p1.Kids)],1)]) Aq fun _ _ ⟨v5_3,v8_3⟩ h=>?_
 simp only [L0] at h
 refine Cb h fun h=>?_
 conv=>whnf
 refine z11 ?_
 refine AO (f:=B9) h fun x117 _ h=>?_
 rw [Bp x117]
 conv=>whnf
 obtain ⟨x119,hx119,h⟩:=AB h
 first | refine Au (ih_ref17_Needs _ _ _ hx119) ?_ | (simp only [List.length_map]; refine Au (ih_ref17_Needs _ _ _ hx119) ?_)
 refine z3 h (fun p=>B8 139 [(2,.ptr 2 1 0),(3,.ptr 3 1 0),(5,.d (Al 2 Ag p.1)),(8,.d (.int .i64 v8_3)),(9,.d (Al 2 Ag x119)),(10,.d (.int .i64 p.2))] [(2,.var [.d (Al 2 Ac p0.Lists),.d (Al 7 Ad p0.Columns)],1),(3,.var [.d (.int .i64 p1.Op),.d (.int .i64 p1.Num),.d (.str p1.Name),.d (.int .i64 p1.Column),.d (Al 1 (D.int .i64) p1.Columns),.d (Al 2 Ag p1.Dims),.d (.int .i64 p1.Cond.Op),.d (.int .i64 p1.Cond.Column),.d (.int .i64 p1.Cond.Code),.d (.int .i64 p1.Cond.Low),.d (.int .i64 p1.Cond.High),.d (Al 6 Ao p1.Cond.Kids),.d (.int .i64 p1.Event.Op),.d (.int .i64 p1.Event.Column),.d (.int .i64 p1.Event.Code),.d (.int .i64 p1.Event.Low),.d (.int .i64 p1.Event.High),.d (Al 6 Ao p1.Event.Kids),.d (Al 19 B9 p1.Kids)],1)]) Aq fun _ _ ⟨v5_4,v10_4⟩ h=>?_
 simp only [OF] at h
 refine AW h (fun h=>?_) fun h=>?_
 ·conv=>whnf
  refine z11 ?_
  refine AO (f:=Ag) h fun x129 _ h=>?_
  refine AO (f:=Ag) h fun x134 _ h=>?_
  refine A7 h (fun _=>De _ _ _ _) fun x137 h=>?_
  exact z19
 exact z19
theorem PC:∀ d:Nat,(∀ (p0:Aa) (p1:AD) (R:(List Ae)) ,ID d p0 p1 = some R→Aj Tryz.prog 105 [.d (Ai p0),.d (Bb p1)] (.d (Al 2 Ag R)))
 | 0=>by
  exact z22
 | d + 1=>by
  have ih:=PC d
  exact UP d _ ih
theorem VS (d:Nat):∀ (p0:Aa) (p1:AD) (R:(List Ae)) ,ID d p0 p1 = some R→Aj Tryz.prog 105 [.d (Ai p0),.d (Bb p1)] (.d (Al 2 Ag R)):=PC d
theorem XR (d:Nat) (p0:Aa) (p1:Aw) (p2:AD) (R:Int) (h:Ft d p0 p1 p2 = some R):Aj Tryz.prog 53 [.d (Ai p0),.d (Ci p1),.d (Bb p2)] (.d (.int .i64 R)):=by
 refine Ch Tryz.func53 ?_
 unfold Ft at h
 refine A7 h (fun _=>Qh _ _ _) fun x10 h=>?_
 refine A2 h fun h=>?_
 refine A7 h (fun _=>Qn _ _ _ _) fun x16 h=>?_
 refine A2 h fun h=>?_
 conv=>whnf
 refine z11 ?_
 refine A7 h (fun _=>VS _ _ _ _) fun x20 h=>?_
 refine A7 h (fun _=>LF _ _ _) fun x23 h=>?_
 exact M4 h
theorem Oe (d:Nat) (p0:Aa) (p1:Aw) (p2:Int) (p3:Af) (p4:Af) (R:((List Be) × (List Int) × Int)) (h:D6 d p0 p1 p2 p3 p4 = some R):Aj Tryz.prog 24 [.d (Ai p0),.d (Ci p1),.d (.int .i64 p2),.d (Ax p3),.d (Ax p4)] (.tup [.d (Al 6 CR R.1),.d (Al 1 (D.int .i64) R.2.1),.d (.int .i64 R.2.2)]):=by
 refine Ch Tryz.func24 ?_
 unfold D6 at h
 refine A7 h (fun _=>XR _ _ _ _ _) fun x28 h=>?_
 refine AW h (fun h=>?_) fun h=>?_
 ·exact z34
 refine A7 h (fun _=>Vs _ _ _ _ _ _) fun x37 h=>?_
 refine z3 h (fun p=>B8 93 [(2,.d (.int .i64 p2)),(5,.ptr 5 1 0),(6,.ptr 6 1 0),(8,.ptr 8 1 0),(14,.d (Al 1 (D.int .i64) x37)),(15,.sl 15 1),(16,.sl 16 1),(17,.d (.int .i64 p.1))] [(5,.var [.d (Al 2 Ac p0.Lists),.d (Al 7 Ad p0.Columns)],1),(6,.var [.d (.str p1.Project),.d (.int .i64 p1.Version),.d (Al 2 Ag p1.Picks),.d (Al 1 (Al 1 (D.int .i64)) p1.Rows)],1),(8,.var [.d (.int .i64 p3.Op),.d (.int .i64 p3.Column),.d (.int .i64 p3.Code),.d (.int .i64 p3.Low),.d (.int .i64 p3.High),.d (Al 6 Ao p3.Kids)],1),(15,.row 1 3 (List.map (D.int .i64) p.2.1),1),(16,.row 1 4 (List.map D.bool p.2.2),1)]) Aq fun _ _ ⟨v17_1,b15_1,b16_1⟩ h=>?_
 simp only [Fs] at h
 refine AW h (fun h=>?_) fun h=>?_
 ·conv=>whnf
  refine z11 ?_
  refine AO (f:=(D.int .i64)) h fun x49 _ h=>?_
  refine A7 h (fun _=>Cd _ _ _) fun x54 h=>?_
  refine A7 h (fun _=>Q5 _ _ _ _ _ _) fun x55 h=>?_
  conv=>whnf
  obtain ⟨hr,h⟩:=Eg h
  refine z4 ?_
  try rw [KU]
  conv=>whnf
  refine z11 ?_
  refine AO (f:=(D.int .i64)) h fun x71 _ h=>?_
  refine AO (f:=(Al 1 (D.int .i64))) h fun x73 _ h=>?_
  conv=>whnf
  obtain ⟨hr,h⟩:=Eg h
  refine z7 ?_
  try simp only [List.length_map]
  rw [Wd]
  conv=>whnf
  obtain ⟨x76,hx76,h⟩:=AB h
  first | refine Au (JA _ _ _ _ _ _ hx76) ?_ | (simp only [List.length_map]; refine Au (JA _ _ _ _ _ _ hx76) ?_)
  conv=>whnf
  obtain ⟨hr,h⟩:=Eg h
  refine z4 ?_
  try rw [je]
  conv=>whnf
  exact BE ⟨(_,(_,_,_)),h⟩ Aq
 conv=>whnf
 try simp only [GM] at h
 refine A7 h (fun _=>VO _ _ _) fun x83 h=>?_
 refine AW h (fun h=>?_) fun h=>?_
 ·exact z34
 refine A7 h (fun _=>X2 _ _ _) fun x92 h=>?_
 exact AM h
theorem Yo (p0:(List Be)) (p1:(List Be)) (R:Bool) (h:LZ p0 p1 = some R):Aj Tryz.prog 25 [.d (Al 6 CR p0),.d (Al 6 CR p1)] (.d (.bool R)):=by
 refine Ch Tryz.func25 ?_
 unfold LZ at h
 refine An h fun h=>?_
 refine z3 h (fun p=>B8 26 [(0,.d (Al 6 CR p0)),(1,.d (Al 6 CR p1)),(5,.d (.int .i64 p))] []) Ah fun _ _ v5_1 h=>?_
 simp only [Km] at h
 refine Bj h fun h=>?_
 conv=>whnf
 refine z11 ?_
 refine AO (f:=CR) h fun x19 _ h=>?_
 refine AO (f:=CR) h fun x23 _ h=>?_
 conv=>whnf
 refine ⟨⟨by kernel_rfl,by kernel_rfl⟩,?_⟩
 conv=>whnf
 refine ⟨by kernel_rfl,?_⟩
 conv=>whnf
 refine ⟨by kernel_rfl,?_⟩
 exact z12
end Go.Proofs.YtejfnieiaecpkaaGreatDoor.P
