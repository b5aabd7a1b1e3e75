/- P3W12 -/
import Derived.Test.YtjghjdokjgcehaaGreatDoorP3W7
import Derived.Test.YtjghjdokjgcehaaGreatDoorP3W10
import Derived.Test.YtjghjdokjgcehaaGreatDoorP3W11
set_option linter.unusedSimpArgs false
namespace Go.Proofs.YtjghjdokjgcehaaGreatDoor.P
open Go.Abs Go.Proofs
set_option maxRecDepth 100000
set_option maxHeartbeats 4000000
set_option linter.unusedVariables false
theorem Px (d:Nat) (R:Bool) (h:Ia d = some R):Al Tryz.prog 4 [] (.d (.bool R)):=by
 refine Cn Tryz.func4 ?_
 unfold Ia at h
 conv=>whnf
 refine ⟨.inr ?_⟩
 conv=>whnf
 refine ⟨.inr ?_⟩
 conv=>whnf
 refine ⟨.inl ?_⟩
 conv=>whnf
 refine ⟨.inl ?_⟩
 conv=>whnf
 refine ⟨.inl ?_⟩
 refine AU h (fun _=>SR _ _ _ _ _) fun x28 h=>?_
 refine B0 h fun h=>?_
 refine B6 (f:=A7) h fun x45 _ h=>?_
 conv=>whnf
 refine ⟨⟨by kernel_rfl,by kernel_rfl⟩,?_⟩
 conv=>whnf
 refine ⟨by kernel_rfl,?_⟩
 refine B0 h fun h=>?_
 refine B6 (f:=A7) h fun x54 _ h=>?_
 conv=>whnf
 refine ⟨⟨by kernel_rfl,by kernel_rfl⟩,?_⟩
 conv=>whnf
 refine ⟨by kernel_rfl,?_⟩
 refine B0 h fun h=>?_
 refine B6 (f:=A7) h fun x63 _ h=>?_
 refine AU h (fun _=>Rf _ _ _) fun x68 h=>?_
 refine B0 h fun h=>?_
 refine AU h (fun _=>Mx _ _) fun x72 h=>?_
 refine B0 h fun h=>?_
 refine AU h (fun _=>Mx _ _) fun x78 h=>?_
 refine B6 (f:=A7) h fun x79 _ h=>?_
 exact AD h
theorem ND (d:Nat) (p0:(List Int)) (p1:A3) (R:Bool) (h:Fh d p0 p1 = some R):Al Tryz.prog 3 [.d (Ah 1 (D.int .u8) p0),.d (BZ p1)] (.d (.bool R)):=by
 refine Cn Tryz.func3 ?_
 unfold Fh at h
 refine AM h (fun h=>?_) fun h=>?_
 ·refine AU h (fun _=>Px _  _) fun x22 h=>?_
  exact AD h
 refine AU h (fun _=>Yn _ _) fun x24 h=>?_
 refine Pe h (fun _=>Pj _ _) fun x26 h=>?_
 refine Pe h (fun _=>LN _ _ _ _) fun x29 h=>?_
 refine z5 h (fun p=>Cd 84 [(6,.ptr 6 1 0),(7,.ptr 7 1 0),(32,.sl 32 1),(33,.d (.int .i64 (([x29.1,p1].length:Nat):Int))),(34,.d (.int .i64 p))] [(6,.var [.d (Ah 2 Af x26.1.Lists),.d (Ah 7 Ai x26.1.Columns)],1),(7,.var [.d (.str x29.1.Project),.d (.str x29.1.Source),.d (.int .i64 x29.1.Cohort.Op),.d (.int .i64 x29.1.Cohort.Column),.d (.int .i64 x29.1.Cohort.Code),.d (.int .i64 x29.1.Cohort.Low),.d (.int .i64 x29.1.Cohort.High),.d (Ah 6 Ap x29.1.Cohort.Kids),.d (.int .i64 x29.1.Sample.Part),.d (.int .i64 x29.1.Sample.Of),.d (.int .i64 x29.1.Sample.Seed),.d (Ah 17 AA x29.1.Questions)],1),(32,.row 12 30 (List.map BZ [x29.1,p1]),1)]) As fun _ _ v34_1 h=>?_
 simp only [DZ] at h
 refine AM h (fun h=>?_) fun h=>?_
 ·refine RX (f:=BZ) h Cc fun x36 hx36 h=>?_
  refine Z7 (f:=BZ) hx36 Cc ?_
  refine AU h (fun _=>Jb _ _ _ _) fun x41 h=>?_
  refine AU h (fun _=>Rl _ _ _ _) fun x47 h=>?_
  refine An h fun h=>?_
  refine AU h (fun _=>Wz _ _ _ _) fun x56 h=>?_
  exact z17
 conv=>whnf
 try simp only [FO] at h
 refine AU h (fun _=>Jb _ _ _ _) fun x63 h=>?_
 refine AU h (fun _=>UR _ _ _ _) fun x69 h=>?_
 refine B0 h fun h=>?_
 refine AU h (fun _=>Px _  _) fun x82 h=>?_
 exact AD h
end Go.Proofs.YtjghjdokjgcehaaGreatDoor.P
