/- P3W10 -/
import Derived.Test.YtjgeigjjfcnojaaGreatDoorP3W9
set_option linter.unusedSimpArgs false
namespace Go.Proofs.YtjgeigjjfcnojaaGreatDoor.P
open Go.Abs Go.Proofs
set_option maxRecDepth 100000
set_option maxHeartbeats 40000000
set_option linter.unusedVariables false
theorem Xr (p0:Int) (p1:Int) (R:Int) (h:Mw p0 p1 = some R):Aj Tryz.prog 33 [.d (.int .i64 p0),.d (.int .i64 p1)] (.d (.int .i64 R)):=by
 refine BF Tryz.func33 ?_
 unfold Mw at h
 refine AF h (fun _=>UN _ _ _) fun x10 h=>?_
 refine Ap h fun h=>?_
 conv=>whnf
 refine ⟨by omega,?_⟩
 conv=>whnf
 refine ⟨by omega,?_⟩
 refine z5 h (fun p=>BB 31 [(0,.d (.int .i64 p0)),(5,.d (.int .i64 p.1)),(6,.d (.int .i64 p.2.1)),(7,.d (.int .i64 p.2.2))] []) Ak fun _ _ ⟨v5_1,v6_1,v7_1⟩ h=>?_
 simp only [JN] at h
 refine AY h fun h=>?_
 refine AF h (fun _=>UM _ _ _ _) fun x25 h=>?_
 exact z24
theorem UO (d:Nat) (p0:B2) (p1:AZ) (p2:(List An)) (p3:Int) (R:(A1 × Int)) (h:Jm d p0 p1 p2 p3 = some R):Aj Tryz.prog 14 [.d (I0 p0),.d (Fu p1),.d (Ah 2 Ai p2),.d (.int .i64 p3)] (.tup [.d (CM R.1),.d (.int .i64 R.2)]):=by
 refine BF Tryz.func14 ?_
 unfold Jm at h
 refine AF h (fun _=>P6 _ _) fun x18 h=>?_
 refine Ap h fun h=>?_
 refine AF h (fun _=>UK _ _ _ _ _) fun x25 h=>?_
 refine Ap h fun h=>?_
 refine Ap h fun h=>?_
 conv=>whnf
 refine z12 ?_
 conv=>whnf
 obtain ⟨hr,h⟩:=Dm h
 refine z6 ?_
 conv=>whnf
 refine ⟨.inr ?_⟩
 refine AF h (fun _=>Uj _ _ _ _) fun x46 h=>?_
 refine z5 h (fun p=>BB 106 [(2,.d (Ah 2 Ai p2)),(3,.d (.int .i64 p3)),(4,.ptr 4 1 0),(8,.ptr 8 1 0),(11,.ptr 11 1 0),(12,.d (Ah 1 (D.int .i64) x46)),(13,.d (.int .i64 p.1))] [(4,.var [.d (Ah 2 Ae p0.Schema.Lists),.d (Ah 7 Ag p0.Schema.Columns),.d (Ah 1 (Ah 1 (D.int .i64)) p0.Rows),.d (Ah 1 (D.int .i64) p0.Gone),.d (.int .i64 p0.Version)],1),(8,.var [.d (.str ByteArray.empty),.d (.int .i64 0),.d (.nil 2),.d (.nil 1)],1),(11,.var [.d (.str p1.Project),.d (.int .i64 p0.Version),.sl 42 1,.d (Ah 1 (Ah 1 (D.int .i64)) p.2)],1),(42,.row 2 112 (List.map Ai p2),1)]) Ak fun _ _ ⟨v13_1,c11_3_1⟩ h=>?_
 simp only [Ie] at h
 refine AE h (fun h=>?_) fun h=>?_
 ·conv=>whnf
  refine z12 ?_
  refine Bd (f:=(D.int .i64)) h fun x58 _ h=>?_
  refine AF h (fun _=>MS _ _ _) fun x60 h=>?_
  refine Bd (f:=(Ah 1 (D.int .i64))) h fun x61 _ h=>?_
  refine Bd (f:=(D.int .i64)) h fun x66 _ h=>?_
  refine AF h (fun _=>Xr _ _ _) fun x68 h=>?_
  refine z5 h (fun p=>BB 106 [(2,.d (Ah 2 Ai p2)),(3,.d (.int .i64 p3)),(4,.ptr 4 1 0),(8,.ptr 8 1 0),(11,.ptr 11 1 0),(12,.d (Ah 1 (D.int .i64) x46)),(13,.d (.int .i64 v13_1)),(14,.d (Ah 1 (D.int .i64) x61)),(15,.sl 69 1),(16,.d (.int .i64 p.1))] [(4,.var [.d (Ah 2 Ae p0.Schema.Lists),.d (Ah 7 Ag p0.Schema.Columns),.d (Ah 1 (Ah 1 (D.int .i64)) p0.Rows),.d (Ah 1 (D.int .i64) p0.Gone),.d (.int .i64 p0.Version)],1),(8,.var [.d (.str ByteArray.empty),.d (.int .i64 0),.d (.nil 2),.d (.nil 1)],1),(11,.var [.d (.str p1.Project),.d (.int .i64 p0.Version),.sl 42 1,.d (Ah 1 (Ah 1 (D.int .i64)) c11_3_1)],1),(42,.row 2 112 (List.map Ai p2),1),(69,.row 1 3 (List.map (D.int .i64) p.2),1)]) Ak fun _ _ ⟨v16_2,b69_2⟩ h=>?_
  simp only [If] at h
  refine AE h (fun h=>?_) fun h=>?_
  ·conv=>whnf
   refine z12 ?_
   refine Bd (f:=Ai) h fun x81 _ h=>?_
   refine Bd (f:=Ai) h fun x86 _ h=>?_
   refine Bd (f:=Ai) h fun x92 _ h=>?_
   refine Bd (f:=(D.int .i64)) h fun x95 _ h=>?_
   refine AF h (fun _=>D5 _ _ _ _ _) fun x97 h=>?_
   conv=>whnf
   exact z28
  refine AF h (fun _=>SE _ _ _) fun x103 h=>?_
  exact z21
 conv=>whnf
 refine ⟨.inl ?_⟩
 exact A5 h
theorem JK (p0:(List Int)) (p1:(List Int)) (R:Bool) (h:FX p0 p1 = some R):Aj Tryz.prog 8 [.d (Ah 1 (D.int .i64) p0),.d (Ah 1 (D.int .i64) p1)] (.d (.bool R)):=by
 refine BF Tryz.func8 ?_
 unfold FX at h
 refine Ap h fun h=>?_
 refine z5 h (fun p=>BB 26 [(0,.d (Ah 1 (D.int .i64) p0)),(1,.d (Ah 1 (D.int .i64) p1)),(5,.d (.int .i64 p))] []) Ak fun _ _ v5_1 h=>?_
 simp only [IR] at h
 refine AY h fun h=>?_
 conv=>whnf
 refine z12 ?_
 refine Bd (f:=(D.int .i64)) h fun x19 _ h=>?_
 refine Bd (f:=(D.int .i64)) h fun x23 _ h=>?_
 exact z17
end Go.Proofs.YtjgeigjjfcnojaaGreatDoor.P
