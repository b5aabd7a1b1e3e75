/- P3W7 -/
import Derived.Test.YtejfnieiaecpkaaGreatDoorP3W6
set_option linter.unusedSimpArgs false
namespace Go.Proofs.YtejfnieiaecpkaaGreatDoor.P
open Go.Abs Go.Proofs
set_option maxRecDepth 100000
set_option maxHeartbeats 40000000
set_option linter.unusedVariables false
theorem Ua (p0:Aa) (p1:Af) (p2:Int) (R:Bool) (h:CO p0 p1 p2 = some R):Aj Tryz.prog 160 [.d (Ai p0),.d (Ax p1),.d (.int .i64 p2)] (.d (.bool R)):=by
 refine Ch Tryz.func160 ?_
 unfold CO at h
 refine AO (f:=Ad) h fun x18 _ h=>?_
 refine AW h (fun h=>?_) fun h=>?_
 ·refine A7 h (fun _=>FG _ _ _) fun x26 h=>?_
  refine z3 h (fun p=>B8 140 [(2,.d (.int .i64 p2)),(3,.ptr 3 1 0),(4,.ptr 4 1 0),(8,.d (Al 1 (D.int .i64) x26)),(9,.d (.int .i64 p))] [(3,.var [.d (Al 2 Ac p0.Lists),.d (Al 7 Ad p0.Columns)],1),(4,.var [.d (.int .i64 p1.Op),.d (.int .i64 p1.Column),.d (.int .i64 p1.Code),.d (.int .i64 p1.Low),.d (.int .i64 p1.High),.d (Al 6 Ao p1.Kids)],1)]) Aq fun _ _ v9_1 h=>?_
  simp only [JX] at h
  refine AW h (fun h=>?_) fun h=>?_
  ·refine z3 h (fun p=>B8 140 [(2,.d (.int .i64 p2)),(3,.ptr 3 1 0),(4,.ptr 4 1 0),(8,.d (Al 1 (D.int .i64) x26)),(9,.d (.int .i64 v9_1)),(10,.d (.int .i64 p))] [(3,.var [.d (Al 2 Ac p0.Lists),.d (Al 7 Ad p0.Columns)],1),(4,.var [.d (.int .i64 p1.Op),.d (.int .i64 p1.Column),.d (.int .i64 p1.Code),.d (.int .i64 p1.Low),.d (.int .i64 p1.High),.d (Al 6 Ao p1.Kids)],1)]) Aq fun _ _ v10_2 h=>?_
   simp only [JZ] at h
   refine AW h (fun h=>?_) fun h=>?_
   ·conv=>whnf
    refine z11 ?_
    refine AO (f:=(D.int .i64)) h fun x44 _ h=>?_
    refine A7 h (fun _=>BS _ _ _ _ _) fun x46 h=>?_
    refine AO (f:=(D.int .i64)) h fun x53 _ h=>?_
    refine A7 h (fun _=>BS _ _ _ _ _) fun x55 h=>?_
    refine AW h (fun h=>?_) fun h=>?_
    ·refine AO (f:=(D.int .i64)) h fun x62 _ h=>?_
     refine A7 h (fun _=>KZ _ _ _ _) fun x64 h=>?_
     refine AO (f:=(D.int .i64)) h fun x69 _ h=>?_
     refine A7 h (fun _=>KZ _ _ _ _) fun x71 h=>?_
     exact z28
    exact BE ⟨(_,_),h⟩ Aq
   conv=>whnf
   try simp only [ref05_decides_k1] at h
   exact BE ⟨(_,_),h⟩ Aq
  conv=>whnf
  try simp only [ref05_decides_k1] at h
  exact AM h
 refine A2 h fun h=>?_
 conv=>whnf
 refine z11 ?_
 refine A2 h fun h=>?_
 refine A7 h (fun _=>GO _ _ _) fun x118 h=>?_
 refine AW h (fun h=>?_) fun h=>?_
 ·refine A2 h fun h=>?_
  obtain ⟨hr,h⟩:=Eg h
  refine z10 ?_
  exact AM h
 obtain ⟨hr,h⟩:=Eg h
 refine z10 ?_
 refine Cb h fun h=>?_
 refine A2 h fun h=>?_
 obtain ⟨hr,h⟩:=Eg h
 refine z10 ?_
 exact AM h
theorem Kf (d:Nat) (p0:Aa) (p1:Af) (R:(List Ae)) (h:Ct d p0 p1 = some R):Aj Tryz.prog 96 [.d (Ai p0),.d (Ax p1)] (.d (Al 2 Ag R)):=by
 refine Ch Tryz.func96 ?_
 unfold Ct at h
 refine A7 h (fun _=>Ev _ _ _ _) fun x11 h=>?_
 refine AW h (fun h=>?_) fun h=>?_
 ·exact z46
 refine A7 h (fun _=>Wb _ _ _) fun x14 h=>?_
 refine z3 h (fun p=>B8 40 [(2,.ptr 2 1 0),(5,.d (Al 2 Ag p.1)),(6,.d (Al 6 Ao x14)),(7,.d (.int .i64 p.2))] [(2,.var [.d (Al 2 Ac p0.Lists),.d (Al 7 Ad p0.Columns)],1)]) Aq fun _ _ ⟨v5_1,v7_1⟩ h=>?_
 simp only [Jt] at h
 refine AW h (fun h=>?_) fun h=>?_
 ·refine z3 h (fun p=>B8 40 [(2,.ptr 2 1 0),(5,.d (Al 2 Ag v5_1)),(6,.d (Al 6 Ao x14)),(7,.d (.int .i64 v7_1)),(8,.d (.int .i64 p))] [(2,.var [.d (Al 2 Ac p0.Lists),.d (Al 7 Ad p0.Columns)],1)]) Aq fun _ _ v8_2 h=>?_
  simp only [Mi] at h
  conv=>whnf
  refine z11 ?_
  refine AO (f:=Ao) h fun x24 _ h=>?_
  rw [A9 x24]
  refine A7 h (fun _=>Ua _ _ _ _) fun x27 h=>?_
  refine AW h (fun h=>?_) fun h=>?_
  ·conv=>whnf
   exact BE ⟨(_,_),h⟩ Aq
  conv=>whnf
  try simp only [J7] at h
  refine AO (f:=Ao) h fun x34 _ h=>?_
  rw [A9 x34]
  refine A7 h (fun _=>De _ _ _ _) fun x38 h=>?_
  exact z19
 conv=>whnf
 try simp only [J7] at h
 exact AM h
theorem TY (p0:Aa) (p1:Int) (p2:Int) (p3:Int) (R:Bool) (h:DG p0 p1 p2 p3 = some R):Aj Tryz.prog 232 [.d (Ai p0),.d (.int .i64 p1),.d (.int .i64 p2),.d (.int .i64 p3)] (.d (.bool R)):=by
 refine Ch Tryz.func232 ?_
 unfold DG at h
 refine AO (f:=Ad) h fun x19 _ h=>?_
 refine An h fun h=>?_
 refine AW h (fun h=>?_) fun h=>?_
 ·refine A7 h (fun _=>FG _ _ _) fun x33 h=>?_
  refine z3 h (fun p=>B8 121 [(1,.d (.int .i64 p1)),(2,.d (.int .i64 p2)),(3,.d (.int .i64 p3)),(4,.ptr 4 1 0),(10,.d (Al 1 (D.int .i64) x33)),(11,.d (.int .i64 p))] [(4,.var [.d (Al 2 Ac p0.Lists),.d (Al 7 Ad p0.Columns)],1)]) Ah fun _ _ v11_1 h=>?_
  simp only [H8] at h
  refine AW h (fun h=>?_) fun h=>?_
  ·refine z3 h (fun p=>B8 121 [(1,.d (.int .i64 p1)),(2,.d (.int .i64 p2)),(3,.d (.int .i64 p3)),(4,.ptr 4 1 0),(10,.d (Al 1 (D.int .i64) x33)),(11,.d (.int .i64 v11_1)),(12,.d (.int .i64 p))] [(4,.var [.d (Al 2 Ac p0.Lists),.d (Al 7 Ad p0.Columns)],1)]) Ah fun _ _ v12_2 h=>?_
   simp only [H1] at h
   refine AW h (fun h=>?_) fun h=>?_
   ·conv=>whnf
    refine z11 ?_
    refine AO (f:=(D.int .i64)) h fun x50 _ h=>?_
    refine A7 h (fun _=>BS _ _ _ _ _) fun x52 h=>?_
    refine AO (f:=(D.int .i64)) h fun x58 _ h=>?_
    refine A7 h (fun _=>BS _ _ _ _ _) fun x60 h=>?_
    refine AW h (fun h=>?_) fun h=>?_
    ·refine AO (f:=(D.int .i64)) h fun x68 _ h=>?_
     refine A7 h (fun _=>BS _ _ _ _ _) fun x70 h=>?_
     refine AO (f:=(D.int .i64)) h fun x76 _ h=>?_
     refine A7 h (fun _=>BS _ _ _ _ _) fun x78 h=>?_
     exact z12
    exact z39
   conv=>whnf
   try simp only [ref02_divides_k1] at h
   exact z39
  conv=>whnf
  try simp only [ref02_divides_k1] at h
  exact A3 h
 refine A7 h (fun _=>GO _ _ _) fun x83 h=>?_
 refine A7 h (fun _=>MR _ _ _) fun x87 h=>?_
 refine An h fun h=>?_
 refine z3 h (fun p=>B8 121 [(2,.d (.int .i64 p2)),(9,.ptr 9 1 0),(13,.d (.int .i64 x83)),(14,.d (.int .i64 p.1)),(15,.d (.int .i64 p.2))] [(9,.var [.d (.str x19.Name),.d (.int .i64 x19.Kind),.d (.int .i64 x19.List_),.d (.int .i64 x19.Low),.d (.int .i64 x19.High),.d (Al 1 (D.int .i64) x19.Widths),.d (.bool x19.Optional)],1)]) Ah fun _ _ ⟨v14_3,v15_3⟩ h=>?_
 simp only [JN] at h
 refine AW h (fun h=>?_) fun h=>?_
 ·refine A7 h (fun _=>GO _ _ _) fun x115 h=>?_
  conv=>whnf
  obtain ⟨hr,h⟩:=Eg h
  refine z10 ?_
  refine An h fun h=>?_
  exact z15
 conv=>whnf
 try simp only [ref02_divides_k1] at h
 exact A3 h
theorem HP (p0:Aa) (p1:Int) (p2:Int) (R:Int) (h:Cp p0 p1 p2 = some R):Aj Tryz.prog 168 [.d (Ai p0),.d (.int .i64 p1),.d (.int .i64 p2)] (.d (.int .i64 R)):=by
 refine Ch Tryz.func168 ?_
 unfold Cp at h
 refine A7 h (fun _=>Cd _ _ _) fun x11 h=>?_
 refine A7 h (fun _=>C8 _ _ _ _) fun x12 h=>?_
 refine An h fun h=>?_
 refine z3 h (fun p=>B8 23 [(1,.d (.int .i64 p1)),(2,.d (.int .i64 p2)),(3,.ptr 3 1 0),(7,.d (.int .i64 p))] [(3,.var [.d (Al 2 Ac p0.Lists),.d (Al 7 Ad p0.Columns)],1)]) Ah fun _ _ v7_1 h=>?_
 simp only [FO] at h
 refine A7 h (fun _=>TY _ _ _ _ _) fun x18 h=>?_
 refine Bj h fun h=>?_
 conv=>whnf
 exact z39
theorem XQ (p0:AG) (p1:Int) (R:Bool) (h:L8 p0 p1 = some R):Aj Tryz.prog 169 [.d (AZ p0),.d (.int .i64 p1)] (.d (.bool R)):=by
 refine Ch Tryz.func169 ?_
 unfold L8 at h
 refine An h fun h=>?_
 refine A7 h (fun _=>OU _ _ _) fun x13 h=>?_
 exact A3 h
theorem Qq (d:Nat) (p0:Aa) (p1:AG) (R:(List Ae)) (h:FP d p0 p1 = some R):Aj Tryz.prog 102 [.d (Ai p0),.d (AZ p1)] (.d (Al 2 Ag R)):=by
 refine Dt [10] Tryz.func102 (by kernel_rfl) ?_
 unfold FP at h
 refine A7 h (fun _=>JS _ _ _ _) fun x12 h=>?_
 refine AW h (fun h=>?_) fun h=>?_
 ·exact z31
 refine A7 h (fun _=>Kf _ _ _ _) fun x17 h=>?_
 refine F0 {p:(List Ae) // Ez p1 p0 p = some R} (fun p=>B8 92 [(2,.ptr 2 1 0),(3,.ptr 3 1 0),(5,.d (Al 2 Ag p.1))] [(2,.var [.d (Al 2 Ac p0.Lists),.d (Al 7 Ad p0.Columns)],1),(3,.var [.d (.str p1.Name),.d (.int .i64 p1.Kind),.d (.int .i64 p1.Filter.Op),.d (.int .i64 p1.Filter.Column),.d (.int .i64 p1.Filter.Code),.d (.int .i64 p1.Filter.Low),.d (.int .i64 p1.Filter.High),.d (Al 6 Ao p1.Filter.Kids),.d (Al 2 Ag p1.Dims),.d (.int .i64 p1.Measure),.d (Al 1 (D.int .i64) p1.Terms),.d (.int .i64 p1.Event.Op),.d (.int .i64 p1.Event.Column),.d (.int .i64 p1.Event.Code),.d (.int .i64 p1.Event.Low),.d (.int .i64 p1.Event.High),.d (Al 6 Ao p1.Event.Kids)],1)]) ?_ fun p=>?_
 ·refine AW h (fun h=>?_) fun h=>?_
  ·refine A7 h (fun _=>Kf _ _ _ _) fun x24 h=>?_
   refine z3 h (fun p=>B8 92 [(2,.ptr 2 1 0),(3,.ptr 3 1 0),(5,.d (Al 2 Ag p.1)),(6,.d (Al 2 Ag x24)),(7,.d (.int .i64 p.2))] [(2,.var [.d (Al 2 Ac p0.Lists),.d (Al 7 Ad p0.Columns)],1),(3,.var [.d (.str p1.Name),.d (.int .i64 p1.Kind),.d (.int .i64 p1.Filter.Op),.d (.int .i64 p1.Filter.Column),.d (.int .i64 p1.Filter.Code),.d (.int .i64 p1.Filter.Low),.d (.int .i64 p1.Filter.High),.d (Al 6 Ao p1.Filter.Kids),.d (Al 2 Ag p1.Dims),.d (.int .i64 p1.Measure),.d (Al 1 (D.int .i64) p1.Terms),.d (.int .i64 p1.Event.Op),.d (.int .i64 p1.Event.Column),.d (.int .i64 p1.Event.Code),.d (.int .i64 p1.Event.Low),.d (.int .i64 p1.Event.High),.d (Al 6 Ao p1.Event.Kids)],1)]) Ah fun _ _ ⟨v5_1,v7_1⟩ h=>?_
   simp only [Ja] at h
   refine AW h (fun h=>?_) fun h=>?_
   ·conv=>whnf
    refine z11 ?_
    refine AO (f:=Ag) h fun x34 _ h=>?_
    refine AO (f:=Ag) h fun x39 _ h=>?_
    refine A7 h (fun _=>De _ _ _ _) fun x42 h=>?_
    exact z15
   conv=>whnf
   exact ⟨⟨_,h⟩,Ah⟩
  conv=>whnf
  exact ⟨⟨_,h⟩,Ah⟩
 obtain ⟨j5_1,h⟩:=p
 simp only [Ez] at h
 refine z3 h (fun p=>B8 92 [(2,.ptr 2 1 0),(3,.ptr 3 1 0),(5,.d (Al 2 Ag p.1)),(8,.d (.int .i64 p.2))] [(2,.var [.d (Al 2 Ac p0.Lists),.d (Al 7 Ad p0.Columns)],1),(3,.var [.d (.str p1.Name),.d (.int .i64 p1.Kind),.d (.int .i64 p1.Filter.Op),.d (.int .i64 p1.Filter.Column),.d (.int .i64 p1.Filter.Code),.d (.int .i64 p1.Filter.Low),.d (.int .i64 p1.Filter.High),.d (Al 6 Ao p1.Filter.Kids),.d (Al 2 Ag p1.Dims),.d (.int .i64 p1.Measure),.d (Al 1 (D.int .i64) p1.Terms),.d (.int .i64 p1.Event.Op),.d (.int .i64 p1.Event.Column),.d (.int .i64 p1.Event.Code),.d (.int .i64 p1.Event.Low),.d (.int .i64 p1.Event.High),.d (Al 6 Ao p1.Event.Kids)],1)]) Ah fun _ _ ⟨v5_2,v8_2⟩ h=>?_
 simp only [FJ] at h
 refine AW h (fun h=>?_) fun h=>?_
 ·conv=>whnf
  refine z11 ?_
  refine AO (f:=Ag) h fun x54 _ h=>?_
  refine AO (f:=Ag) h fun x61 _ h=>?_
  refine AO (f:=Ag) h fun x67 _ h=>?_
  refine A7 h (fun _=>HP _ _ _ _) fun x70 h=>?_
  refine A7 h (fun _=>De _ _ _ _) fun x71 h=>?_
  exact z15
 refine z3 h (fun p=>B8 92 [(2,.ptr 2 1 0),(3,.ptr 3 1 0),(5,.d (Al 2 Ag p.1)),(9,.d (.int .i64 p.2))] [(2,.var [.d (Al 2 Ac p0.Lists),.d (Al 7 Ad p0.Columns)],1),(3,.var [.d (.str p1.Name),.d (.int .i64 p1.Kind),.d (.int .i64 p1.Filter.Op),.d (.int .i64 p1.Filter.Column),.d (.int .i64 p1.Filter.Code),.d (.int .i64 p1.Filter.Low),.d (.int .i64 p1.Filter.High),.d (Al 6 Ao p1.Filter.Kids),.d (Al 2 Ag p1.Dims),.d (.int .i64 p1.Measure),.d (Al 1 (D.int .i64) p1.Terms),.d (.int .i64 p1.Event.Op),.d (.int .i64 p1.Event.Column),.d (.int .i64 p1.Event.Code),.d (.int .i64 p1.Event.Low),.d (.int .i64 p1.Event.High),.d (Al 6 Ao p1.Event.Kids)],1)]) Ah fun _ _ ⟨v5_3,v9_3⟩ h=>?_
 simp only [FH] at h
 refine Bj h fun h=>?_
 refine A7 h (fun _=>XQ _ _ _) fun x81 h=>?_
 refine AW h (fun h=>?_) fun h=>?_
 ·conv=>whnf
  refine z11 ?_
  refine A7 h (fun _=>Cd _ _ _) fun x88 h=>?_
  refine A7 h (fun _=>HP _ _ _ _) fun x89 h=>?_
  refine A7 h (fun _=>De _ _ _ _) fun x90 h=>?_
  exact z15
 exact z15
theorem Ub (d:Nat) (p0:Aa) (p1:AG) (p2:(List Ae)) (R:Bool) (h:HW d p0 p1 p2 = some R):Aj Tryz.prog 133 [.d (Ai p0),.d (AZ p1),.d (Al 2 Ag p2)] (.d (.bool R)):=by
 refine Ch Tryz.func133 ?_
 unfold HW at h
 refine A7 h (fun _=>JS _ _ _ _) fun x9 h=>?_
 refine Bj h fun h=>?_
 refine A7 h (fun _=>Kj _ _ _) fun x14 h=>?_
 refine Bj h fun h=>?_
 refine A7 h (fun _=>Qq _ _ _ _) fun x20 h=>?_
 refine A7 h (fun _=>LF _ _ _) fun x22 h=>?_
 exact A3 h
theorem Wq (d:Nat) (p0:Aa) (p1:Az) (p2:(List Ae)) (R:Int) (h:Hu d p0 p1 p2 = some R):Aj Tryz.prog 71 [.d (Ai p0),.d (Dr p1),.d (Al 2 Ag p2)] (.d (.int .i64 R)):=by
 refine Ch Tryz.func71 ?_
 unfold Hu at h
 refine A7 h (fun _=>M9 _ _ _ _) fun x12 h=>?_
 refine An h fun h=>?_
 refine A7 h (fun _=>Kj _ _ _) fun x18 h=>?_
 refine An h fun h=>?_
 refine z3 h (fun p=>B8 38 [(2,.d (Al 2 Ag p2)),(3,.ptr 3 1 0),(4,.ptr 4 1 0),(9,.d (.int .i64 p))] [(3,.var [.d (Al 2 Ac p0.Lists),.d (Al 7 Ad p0.Columns)],1),(4,.var [.d (.str p1.Project),.d (.str p1.Source),.d (.int .i64 p1.Cohort.Op),.d (.int .i64 p1.Cohort.Column),.d (.int .i64 p1.Cohort.Code),.d (.int .i64 p1.Cohort.Low),.d (.int .i64 p1.Cohort.High),.d (Al 6 Ao p1.Cohort.Kids),.d (.int .i64 p1.Sample.Part),.d (.int .i64 p1.Sample.Of),.d (.int .i64 p1.Sample.Seed),.d (Al 17 AZ p1.Questions)],1)]) Ah fun _ _ v9_1 h=>?_
 simp only [FN] at h
 refine Bj h fun h=>?_
 conv=>whnf
 refine z11 ?_
 refine AO (f:=AZ) h fun x33 _ h=>?_
 refine A7 h (fun _=>Ub _ _ _ _ _) fun x36 h=>?_
 exact z12
theorem RF (p0:Int) (p1:(List Int)) (R:Int) (h:Gs p0 p1 = some R):Aj Tryz.prog 163 [.d (.int .i64 p0),.d (Al 1 (D.int .i64) p1)] (.d (.int .i64 R)):=by
 refine Ch Tryz.func163 ?_
 unfold Gs at h
 refine AW h (fun h=>?_) fun h=>?_
 ·refine AO (f:=(D.int .i64)) h fun x9 _ h=>?_
  exact A3 h
 refine AW h (fun h=>?_) fun h=>?_
 ·conv=>whnf
  refine z11 ?_
  refine AO (f:=(D.int .i64)) h fun x15 _ h=>?_
  refine AO (f:=(D.int .i64)) h fun x18 _ h=>?_
  exact A3 h
 refine Bj h fun h=>?_
 conv=>whnf
 refine z11 ?_
 refine AO (f:=(D.int .i64)) h fun x24 _ h=>?_
 refine AO (f:=(D.int .i64)) h fun x27 _ h=>?_
 exact A3 h
theorem Wx (d:Nat) (self_ref05_eval:(Aa→Af→(List Int)→Option Int)) (ih_ref05_eval:∀ (p0:Aa) (p1:Af) (p2:(List Int)) (R:Int) ,self_ref05_eval p0 p1 p2 = some R→Aj Tryz.prog 199 [.d (Ai p0),.d (Ax p1),.d (Al 1 (D.int .i64) p2)] (.d (.int .i64 R))) (p0:Aa) (p1:Af) (p2:(List Int)) (R:Int) (h:Jm d self_ref05_eval p0 p1 p2 = some R):Aj Tryz.prog 199 [.d (Ai p0),.d (Ax p1),.d (Al 1 (D.int .i64) p2)] (.d (.int .i64 R)):=by
 refine Ch Tryz.func199 ?_
 unfold Jm at h
 refine AW h (fun h=>?_) fun h=>?_
 ·conv=>whnf
  refine z11 ?_
  refine AO (f:=(D.int .i64)) h fun x27 _ h=>?_
  refine A7 h (fun _=>KZ _ _ _ _) fun x29 h=>?_
  exact AM h
 refine z3 h (fun p=>B8 52 [(2,.d (Al 1 (D.int .i64) p2)),(3,.ptr 3 1 0),(4,.ptr 4 1 0),(7,.sl 7 1),(8,.d (.int .i64 p.1))] [(3,.var [.d (Al 2 Ac p0.Lists),.d (Al 7 Ad p0.Columns)],1),(4,.var [.d (.int .i64 p1.Op),.d (.int .i64 p1.Column),.d (.int .i64 p1.Code),.d (.int .i64 p1.Low),.d (.int .i64 p1.High),.d (Al 6 Ao p1.Kids)],1),(7,.row 1 3 (List.map (D.int .i64) p.2),1)]) Aq fun _ _ ⟨v8_1,b7_1⟩ h=>?_
 simp only [Kn] at h
 refine AW h (fun h=>?_) fun h=>?_
 ·conv=>whnf
  refine z11 ?_
  refine AO (f:=Ao) h fun x42 _ h=>?_
  rw [A9 x42]
  conv=>whnf
  obtain ⟨x45,hx45,h⟩:=AB h
  first | refine Au (ih_ref05_eval _ _ _ _ hx45) ?_ | (simp only [List.length_map]; refine Au (ih_ref05_eval _ _ _ _ hx45) ?_)
  conv=>whnf
  exact z43
 refine A7 h (fun _=>RF _ _ _) fun x51 h=>?_
 exact AM h
theorem Qs:∀ d:Nat,(∀ (p0:Aa) (p1:Af) (p2:(List Int)) (R:Int) ,JV d p0 p1 p2 = some R→Aj Tryz.prog 199 [.d (Ai p0),.d (Ax p1),.d (Al 1 (D.int .i64) p2)] (.d (.int .i64 R)))
 | 0=>by
  exact z22
 | d + 1=>by
  have ih:=Qs d
  exact Wx d _ ih
theorem XY (d:Nat):∀ (p0:Aa) (p1:Af) (p2:(List Int)) (R:Int) ,JV d p0 p1 p2 = some R→Aj Tryz.prog 199 [.d (Ai p0),.d (Ax p1),.d (Al 1 (D.int .i64) p2)] (.d (.int .i64 R)):=Qs d
theorem Xj (d:Nat) (p0:Aa) (p1:Af) (p2:(List Int)) (R:Int) (h:I3 d p0 p1 p2 = some R):Aj Tryz.prog 134 [.d (Ai p0),.d (Ax p1),.d (Al 1 (D.int .i64) p2)] (.d (.int .i64 R)):=by
 refine Ch Tryz.func134 ?_
 unfold I3 at h
 refine A7 h (fun _=>Ev _ _ _ _) fun x9 h=>?_
 refine A2 h fun h=>?_
 refine A7 h (fun _=>TI _ _ _) fun x14 h=>?_
 refine A2 h fun h=>?_
 refine A7 h (fun _=>XY _ _ _ _ _) fun x20 h=>?_
 exact AM h
theorem Ws (p0:H4) (R:Int) (h:K8 p0 = some R):Aj Tryz.prog 200 [.d (VJ p0)] (.d (.int .i64 R)):=by
 refine Ch Tryz.func200 ?_
 unfold K8 at h
 exact EC h
theorem Yp (p0:Int) (p1:Int) (R:Int) (h:Md p0 p1 = some R):Aj Tryz.prog 201 [.d (.int .i64 p0),.d (.int .i64 p1)] (.d (.int .i64 R)):=by
 refine Ch Tryz.func201 ?_
 unfold Md at h
 refine z3 h (fun p=>B8 29 [(5,.d (.int .u64 p.1)),(6,.d (.int .i64 p.2))] []) Ah fun _ _ ⟨v5_1,v6_1⟩ h=>?_
 simp only [Qf] at h
 refine AW h (fun h=>?_) fun h=>?_
 ·conv=>whnf
  refine ⟨by omega,?_⟩
  exact z15
 conv=>whnf
 refine ⟨by omega,?_⟩
 exact A3 h
theorem ZZ (p0:H4) (p1:Int) (R:Bool) (h:LE p0 p1 = some R):Aj Tryz.prog 135 [.d (VJ p0),.d (.int .i64 p1)] (.d (.bool R)):=by
 refine Ch Tryz.func135 ?_
 unfold LE at h
 conv=>whnf
 refine z11 ?_
 refine A7 h (fun _=>Ws _ _) fun x6 h=>?_
 refine Bj h fun h=>?_
 refine A7 h (fun _=>Yp _ _ _) fun x20 h=>?_
 conv=>whnf
 obtain ⟨hr,h⟩:=Eg h
 refine z10 ?_
 exact A3 h
theorem UM (d:Nat) (p0:BC) (p1:Az) (R:(List Int)) (h:Gw d p0 p1 = some R):Aj Tryz.prog 72 [.d (Iv p0),.d (Dr p1)] (.d (Al 1 (D.int .i64) R)):=by
 refine Dt [3] Tryz.func72 (by kernel_rfl) ?_
 unfold Gw at h
 refine F0 {p:Unit // G3 p0 d p1 = some R} (fun p=>B8 58 [(2,.ptr 2 1 0),(3,.ptr 3 1 0)] [(2,.var [.d (Al 2 Ac p0.Schema.Lists),.d (Al 7 Ad p0.Schema.Columns),.d (Al 1 (Al 1 (D.int .i64)) p0.Rows),.d (Al 1 (D.int .i64) p0.Gone),.d (.int .i64 p0.Version)],1),(3,.var [.d (.str p1.Project),.d (.str p1.Source),.d (.int .i64 p1.Cohort.Op),.d (.int .i64 p1.Cohort.Column),.d (.int .i64 p1.Cohort.Code),.d (.int .i64 p1.Cohort.Low),.d (.int .i64 p1.Cohort.High),.d (Al 6 Ao p1.Cohort.Kids),.d (.int .i64 p1.Sample.Part),.d (.int .i64 p1.Sample.Of),.d (.int .i64 p1.Sample.Seed),.d (Al 17 AZ p1.Questions)],1)]) ?_ fun p=>?_
 ·refine A7 h (fun _=>Qr _ _) fun x8 h=>?_
  refine AW h (fun h=>?_) fun h=>?_
  ·exact z14
  refine A7 h (fun _=>M9 _ _ _ _) fun x14 h=>?_
  refine AW h (fun h=>?_) fun h=>?_
  ·exact z31
  exact z52
 obtain ⟨_,h⟩:=p
 simp only [G3] at h
 refine z3 h (fun p=>B8 58 [(2,.ptr 2 1 0),(3,.ptr 3 1 0),(5,.sl 5 1),(6,.d (.int .i64 p.1))] [(2,.var [.d (Al 2 Ac p0.Schema.Lists),.d (Al 7 Ad p0.Schema.Columns),.d (Al 1 (Al 1 (D.int .i64)) p0.Rows),.d (Al 1 (D.int .i64) p0.Gone),.d (.int .i64 p0.Version)],1),(3,.var [.d (.str p1.Project),.d (.str p1.Source),.d (.int .i64 p1.Cohort.Op),.d (.int .i64 p1.Cohort.Column),.d (.int .i64 p1.Cohort.Code),.d (.int .i64 p1.Cohort.Low),.d (.int .i64 p1.Cohort.High),.d (Al 6 Ao p1.Cohort.Kids),.d (.int .i64 p1.Sample.Part),.d (.int .i64 p1.Sample.Of),.d (.int .i64 p1.Sample.Seed),.d (Al 17 AZ p1.Questions)],1),(5,.row 1 3 (List.map (D.int .i64) p.2),1)]) Ah fun _ _ ⟨v6_1,b5_1⟩ h=>?_
 simp only [EN] at h
 refine AW h (fun h=>?_) fun h=>?_
 ·conv=>whnf
  refine z11 ?_
  refine AO (f:=(Al 1 (D.int .i64))) h fun x31 _ h=>?_
  refine A7 h (fun _=>Xj _ _ _ _ _) fun x33 h=>?_
  refine AW h (fun h=>?_) fun h=>?_
  ·refine AO (f:=(Al 1 (D.int .i64))) h fun x41 _ h=>?_
   refine AO (f:=(D.int .i64)) h fun x43 _ h=>?_
   refine A7 h (fun _=>ZZ _ _ _) fun x45 h=>?_
   refine AW h (fun h=>?_) fun h=>?_
   ·refine AO (f:=(Al 1 (D.int .i64))) h fun x51 _ h=>?_
    refine AO (f:=(D.int .i64)) h fun x53 _ h=>?_
    conv=>whnf
    exact z26
   exact z15
  exact BE ⟨(_,(_,_)),h⟩ Ah
 exact z31
theorem Wa (p0:Int) (p1:Int) (R:Bool) (h:Mv p0 p1 = some R):Aj Tryz.prog 136 [.d (.int .i64 p0),.d (.int .i64 p1)] (.d (.bool R)):=by
 refine Ch Tryz.func136 ?_
 unfold Mv at h
 exact A3 h
theorem Wl (p0:Int) (p1:Int) (p2:Int) (R:Int) (h:K6 p0 p1 p2 = some R):Aj Tryz.prog 137 [.d (.int .i64 p0),.d (.int .i64 p1),.d (.int .i64 p2)] (.d (.int .i64 R)):=by
 refine Ch Tryz.func137 ?_
 unfold K6 at h
 refine An h fun h=>?_
 refine z3 h (fun p=>B8 54 [(7,.d (.int .u64 p.1)),(8,.d (.int .i64 p.2))] []) Ah fun _ _ ⟨v7_1,v8_1⟩ h=>?_
 simp only [J4] at h
 refine AW h (fun h=>?_) fun h=>?_
 ·conv=>whnf
  refine ⟨by omega,?_⟩
  exact z15
 conv=>whnf
 refine ⟨by omega,?_⟩
 exact A3 h
theorem YH (p0:Int) (p1:Int) (R:Int) (h:NB p0 p1 = some R):Aj Tryz.prog 74 [.d (.int .i64 p0),.d (.int .i64 p1)] (.d (.int .i64 R)):=by
 refine Ch Tryz.func74 ?_
 unfold NB at h
 refine A7 h (fun _=>Wa _ _ _) fun x10 h=>?_
 refine An h fun h=>?_
 conv=>whnf
 refine ⟨by omega,?_⟩
 conv=>whnf
 refine ⟨by omega,?_⟩
 refine z3 h (fun p=>B8 31 [(0,.d (.int .i64 p0)),(5,.d (.int .i64 p.1)),(6,.d (.int .i64 p.2.1)),(7,.d (.int .i64 p.2.2))] []) Ah fun _ _ ⟨v5_1,v6_1,v7_1⟩ h=>?_
 simp only [Lb] at h
 refine Bj h fun h=>?_
 refine A7 h (fun _=>Wl _ _ _ _) fun x25 h=>?_
 exact z18
theorem MC (d:Nat) (p0:BC) (p1:Az) (p2:(List Ae)) (p3:Int) (R:(Aw × Int)) (h:EX d p0 p1 p2 p3 = some R):Aj Tryz.prog 28 [.d (Iv p0),.d (Dr p1),.d (Al 2 Ag p2),.d (.int .i64 p3)] (.tup [.d (Ci R.1),.d (.int .i64 R.2)]):=by
 refine Ch Tryz.func28 ?_
 unfold EX at h
 refine A7 h (fun _=>Qr _ _) fun x18 h=>?_
 refine An h fun h=>?_
 refine A7 h (fun _=>Wq _ _ _ _ _) fun x25 h=>?_
 refine An h fun h=>?_
 refine An h fun h=>?_
 conv=>whnf
 refine z11 ?_
 conv=>whnf
 obtain ⟨hr,h⟩:=Eg h
 refine z4 ?_
 conv=>whnf
 refine ⟨.inr ?_⟩
 refine A7 h (fun _=>UM _ _ _ _) fun x46 h=>?_
 refine z3 h (fun p=>B8 106 [(2,.d (Al 2 Ag p2)),(3,.d (.int .i64 p3)),(4,.ptr 4 1 0),(8,.ptr 8 1 0),(11,.ptr 11 1 0),(12,.d (Al 1 (D.int .i64) x46)),(13,.d (.int .i64 p.1))] [(4,.var [.d (Al 2 Ac p0.Schema.Lists),.d (Al 7 Ad p0.Schema.Columns),.d (Al 1 (Al 1 (D.int .i64)) p0.Rows),.d (Al 1 (D.int .i64) p0.Gone),.d (.int .i64 p0.Version)],1),(8,.var [.d (.str ByteArray.empty),.d (.int .i64 0),.d (.nil 2),.d (.nil 1)],1),(11,.var [.d (.str p1.Project),.d (.int .i64 p0.Version),.sl 42 1,.d (Al 1 (Al 1 (D.int .i64)) p.2)],1),(42,.row 2 43 (List.map Ag p2),1)]) Ah fun _ _ ⟨v13_1,c11_3_1⟩ h=>?_
 simp only [FC] at h
 refine Bj h fun h=>?_
 conv=>whnf
 refine z11 ?_
 refine AO (f:=(D.int .i64)) h fun x58 _ h=>?_
 refine A7 h (fun _=>NF _ _ _) fun x60 h=>?_
 refine AO (f:=(Al 1 (D.int .i64))) h fun x61 _ h=>?_
 refine AO (f:=(D.int .i64)) h fun x66 _ h=>?_
 refine A7 h (fun _=>YH _ _ _) fun x68 h=>?_
 refine z3 h (fun p=>B8 106 [(2,.d (Al 2 Ag p2)),(3,.d (.int .i64 p3)),(4,.ptr 4 1 0),(8,.ptr 8 1 0),(11,.ptr 11 1 0),(12,.d (Al 1 (D.int .i64) x46)),(13,.d (.int .i64 v13_1)),(14,.d (Al 1 (D.int .i64) x61)),(15,.sl 69 1),(16,.d (.int .i64 p.1))] [(4,.var [.d (Al 2 Ac p0.Schema.Lists),.d (Al 7 Ad p0.Schema.Columns),.d (Al 1 (Al 1 (D.int .i64)) p0.Rows),.d (Al 1 (D.int .i64) p0.Gone),.d (.int .i64 p0.Version)],1),(8,.var [.d (.str ByteArray.empty),.d (.int .i64 0),.d (.nil 2),.d (.nil 1)],1),(11,.var [.d (.str p1.Project),.d (.int .i64 p0.Version),.sl 42 1,.d (Al 1 (Al 1 (D.int .i64)) c11_3_1)],1),(42,.row 2 43 (List.map Ag p2),1),(69,.row 1 3 (List.map (D.int .i64) p.2),1)]) Ah fun _ _ ⟨v16_2,b69_2⟩ h=>?_
 simp only [FL] at h
 refine AW h (fun h=>?_) fun h=>?_
 ·conv=>whnf
  refine z11 ?_
  refine AO (f:=Ag) h fun x81 _ h=>?_
  refine AO (f:=Ag) h fun x86 _ h=>?_
  refine AO (f:=Ag) h fun x92 _ h=>?_
  refine AO (f:=(D.int .i64)) h fun x95 _ h=>?_
  refine A7 h (fun _=>BS _ _ _ _ _) fun x97 h=>?_
  conv=>whnf
  exact z26
 refine A7 h (fun _=>TB _ _ _) fun x103 h=>?_
 exact z15
theorem Yq (p0:(List Int)) (p1:(List Int)) (R:Bool) (h:LG p0 p1 = some R):Aj Tryz.prog 13 [.d (Al 1 (D.int .i64) p0),.d (Al 1 (D.int .i64) p1)] (.d (.bool R)):=by
 refine Ch Tryz.func13 ?_
 unfold LG at h
 refine An h fun h=>?_
 refine z3 h (fun p=>B8 26 [(0,.d (Al 1 (D.int .i64) p0)),(1,.d (Al 1 (D.int .i64) p1)),(5,.d (.int .i64 p))] []) Ah fun _ _ v5_1 h=>?_
 simp only [Kg] at h
 refine Bj h fun h=>?_
 conv=>whnf
 refine z11 ?_
 refine AO (f:=(D.int .i64)) h fun x19 _ h=>?_
 refine AO (f:=(D.int .i64)) h fun x23 _ h=>?_
 exact z12
theorem X2 (p0:Aw) (p1:(List Int)) (R:(List Int)) (h:NC p0 p1 = some R):Aj Tryz.prog 14 [.d (Ci p0),.d (Al 1 (D.int .i64) p1)] (.d (Al 1 (D.int .i64) R)):=by
 refine Ch Tryz.func14 ?_
 unfold NC at h
 refine z3 h (fun p=>B8 27 [(1,.d (Al 1 (D.int .i64) p1)),(2,.ptr 2 1 0),(5,.sl 5 1),(6,.d (.int .i64 p.1))] [(2,.var [.d (.str p0.Project),.d (.int .i64 p0.Version),.d (Al 2 Ag p0.Picks),.d (Al 1 (Al 1 (D.int .i64)) p0.Rows)],1),(5,.row 1 3 (List.map (D.int .i64) p.2),1)]) Ah fun _ _ ⟨v6_1,b5_1⟩ h=>?_
 simp only [Ql] at h
 refine AW h (fun h=>?_) fun h=>?_
 ·conv=>whnf
  refine z11 ?_
  refine AO (f:=(D.int .i64)) h fun x18 _ h=>?_
  refine AO (f:=(Al 1 (D.int .i64))) h fun x20 _ h=>?_
  refine AO (f:=(D.int .i64)) h fun x22 _ h=>?_
  conv=>whnf
  exact z26
 exact z31
theorem MG (p0:Av) (p1:Int) (p2:Int) (R:(Int × Int × Bool)) (h:FQ p0 p1 p2 = some R):Aj Tryz.prog 155 [.d (Ad p0),.d (.int .i64 p1),.d (.int .i64 p2)] (.tup [.d (.int .i64 R.1),.d (.int .i64 R.2.1),.d (.bool R.2.2)]):=by
 refine Dt [6] Tryz.func155 (by kernel_rfl) ?_
 unfold FQ at h
 refine AW h (fun h=>?_) fun h=>?_
 ·exact z44
 refine A7 h (fun _=>GO _ _ _) fun x22 h=>?_
 refine F0 {p:Unit // Hl p2 p0 x22 = some R} (fun p=>B8 52 [(2,.d (.int .i64 p2)),(3,.ptr 3 1 0),(9,.d (.int .i64 x22))] [(3,.var [.d (.str p0.Name),.d (.int .i64 p0.Kind),.d (.int .i64 p0.List_),.d (.int .i64 p0.Low),.d (.int .i64 p0.High),.d (Al 1 (D.int .i64) p0.Widths),.d (.bool p0.Optional)],1)]) ?_ fun p=>?_
 ·refine An h fun h=>?_
  refine A7 h (fun _=>C8 _ _ _ _) fun x27 h=>?_
  exact z53
 obtain ⟨_,h⟩:=p
 simp only [Hl] at h
 exact z44
end Go.Proofs.YtejfnieiaecpkaaGreatDoor.P
