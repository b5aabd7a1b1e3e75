/- P3W12 -/
import Derived.Test.YtjgeigjjfcnojaaGreatDoorP3W6
import Derived.Test.YtjgeigjjfcnojaaGreatDoorP3W11
set_option linter.unusedSimpArgs false
namespace Go.Proofs.YtjgeigjjfcnojaaGreatDoor.P
open Go.Abs Go.Proofs
set_option maxRecDepth 100000
set_option maxHeartbeats 4000000
set_option linter.unusedVariables false
theorem TP (p0:A1) (R:(List Int)) (h:HI p0 = some R):Aj Tryz.prog 9 [.d (CM p0)] (.d (Ah 1 (D.int .i64) R)):=by
 refine BF Tryz.func9 ?_
 unfold HI at h
 refine z5 h (fun p=>BB 21 [(3,.sl 3 1),(7,.d (Ah 1 (Ah 1 (D.int .i64)) p0.Rows)),(8,.d (.int .i64 ((p0.Rows.length:Nat):Int))),(9,.d (.int .i64 p.1))] [(3,.row 1 3 (List.map (D.int .i64) p.2),1)]) Ak fun _ _ ⟨v9_1,b3_1⟩ h=>?_
 simp only [GB] at h
 refine AE h (fun h=>?_) fun h=>?_
 ·refine Bd (f:=(Ah 1 (D.int .i64))) h fun x11 _ h=>?_
  refine Bd (f:=(D.int .i64)) h fun x15 _ h=>?_
  conv=>whnf
  exact z28
 exact z30
theorem Pt (d:Nat) (R:Bool) (h:EK d = some R):Aj Tryz.prog 10 [] (.d (.bool R)):=by
 refine BF Tryz.func10 ?_
 unfold EK at h
 conv=>whnf
 refine ⟨.inr ?_⟩
 conv=>whnf
 refine ⟨.inr ?_⟩
 conv=>whnf
 refine ⟨.inl ?_⟩
 conv=>whnf
 refine ⟨.inl ?_⟩
 conv=>whnf
 refine ⟨.inl ?_⟩
 refine AF h (fun _=>SQ _ _ _ _ _) fun x28 h=>?_
 refine AY h fun h=>?_
 refine Bd (f:=A0) h fun x45 _ h=>?_
 conv=>whnf
 refine z13 ?_
 conv=>whnf
 refine ⟨by kernel_rfl,?_⟩
 refine AY h fun h=>?_
 refine Bd (f:=A0) h fun x54 _ h=>?_
 conv=>whnf
 refine z13 ?_
 conv=>whnf
 refine ⟨by kernel_rfl,?_⟩
 refine AY h fun h=>?_
 refine Bd (f:=A0) h fun x63 _ h=>?_
 refine AF h (fun _=>JK _ _ _) fun x68 h=>?_
 refine AY h fun h=>?_
 refine AF h (fun _=>LZ _ _) fun x72 h=>?_
 refine AY h fun h=>?_
 refine AF h (fun _=>LZ _ _) fun x78 h=>?_
 refine Bd (f:=A0) h fun x79 _ h=>?_
 exact A5 h
theorem Lu (d:Nat) (p0:(List Int)) (R:Bool) (h:Dn d p0 = some R):Aj Tryz.prog 3 [.d (Ah 1 (D.int .u8) p0)] (.d (.bool R)):=by
 refine Dk [16,22] Tryz.func3 (by kernel_rfl) ?_
 unfold Dn at h
 refine AF h (fun _=>XR _ _) fun x24 h=>?_
 refine SK h (fun _=>PZ _ _ _ _) fun x27 h=>?_
 refine SK h (fun _=>N9 _ _ _) fun x34 h=>?_
 refine FW {p:(Int × Int × (List Int)) // BU d x27 x34 p.1 p.2.1 p.2.2 = some R} (fun p=>BB 162 [(5,.ptr 5 1 0),(6,.ptr 6 1 0),(7,.d (.int .i64 x34.1)),(8,.ptr 8 1 0),(9,.d (.int .i64 p.1.1)),(10,.d (.int .i64 p.1.2.1)),(11,.sl 11 1)] [(5,.var [.d (.str x27.2.1.Project),.d (.int .i64 x27.2.1.Version),.d (Ah 2 Ai x27.2.1.Picks),.d (Ah 1 (Ah 1 (D.int .i64)) x27.2.1.Rows)],1),(6,.var [.d (Ah 2 Ae x27.1.Schema.Lists),.d (Ah 7 Ag x27.1.Schema.Columns)],1),(8,.var [.d (.int .i64 1),.d (.int .i64 0),.d (.int .i64 0),.d (.int .i64 0),.d (.int .i64 0),.d (.nil 6)],1),(11,.row 1 3 (List.map (D.int .i64) p.1.2.2),1)]) ?_ fun p=>?_
 ·refine z5 h (fun p=>BB 162 [(5,.ptr 5 1 0),(6,.ptr 6 1 0),(7,.d (.int .i64 x34.1)),(8,.ptr 8 1 0),(9,.d (.int .i64 p.1)),(10,.d (.int .i64 p.2.1)),(11,.sl 11 1),(37,.d (Ah 1 (Ah 1 (D.int .i64)) x27.2.1.Rows)),(38,.d (.int .i64 ((x27.2.1.Rows.length:Nat):Int))),(39,.d (.int .i64 p.2.2.1))] [(5,.var [.d (.str x27.2.1.Project),.d (.int .i64 x27.2.1.Version),.d (Ah 2 Ai x27.2.1.Picks),.d (Ah 1 (Ah 1 (D.int .i64)) x27.2.1.Rows)],1),(6,.var [.d (Ah 2 Ae x27.1.Schema.Lists),.d (Ah 7 Ag x27.1.Schema.Columns)],1),(8,.var [.d (.int .i64 1),.d (.int .i64 0),.d (.int .i64 0),.d (.int .i64 0),.d (.int .i64 0),.d (.nil 6)],1),(11,.row 1 3 (List.map (D.int .i64) p.2.2.2),1)]) Ak fun _ _ ⟨v9_1,v10_1,v39_1,b11_1⟩ h=>?_
  simp only [C4] at h
  refine AE h (fun h=>?_) fun h=>?_
  ·refine Bd (f:=(Ah 1 (D.int .i64))) h fun x41 _ h=>?_
   refine Bd (f:=(D.int .i64)) h fun x45 _ h=>?_
   refine AE h (fun h=>?_) fun h=>?_
   ·refine Bd (f:=(D.int .i64)) h fun x53 _ h=>?_
    refine Bd (f:=(D.int .i64)) h fun x58 _ h=>?_
    conv=>whnf
    obtain ⟨hr,h⟩:=Dm h
    refine z6 ?_
    try rw [M1]
    conv=>whnf
    exact BI ⟨(_,(_,_,_,_)),h⟩ Ak
   conv=>whnf
   exact BI ⟨(_,(_,_,_,_)),h⟩ Ak
  conv=>whnf
  exact ⟨⟨(_,_,_),h⟩,Ak⟩
 obtain ⟨⟨j9_1,j10_1,k11_1⟩,h⟩:=p
 simp only [BU] at h
 refine AF h (fun _=>I5 _ _ _ _ _ _) fun x70 h=>?_
 refine AF h (fun _=>I5 _ _ _ _ _ _) fun x79 h=>?_
 conv=>whnf
 refine ⟨.inl ?_⟩
 refine AF h (fun _=>I5 _ _ _ _ _ _) fun x90 h=>?_
 refine FW {p:Unit // BV j9_1 x79 d j10_1 k11_1 = some R} (fun p=>BB 162 [(9,.d (.int .i64 j9_1)),(10,.d (.int .i64 j10_1)),(11,.sl 11 1),(17,.ptr 17 1 0),(18,.d (.int .i64 x79.2))] [(11,.row 1 3 (List.map (D.int .i64) k11_1),1),(17,.var [.d (.int .i64 x79.1.Kind),.d (.int .i64 x79.1.Number.Num),.d (.int .i64 x79.1.Number.Den),.d (Ah 2 Ai x79.1.Table.Dims),.d (.int .i64 x79.1.Table.Measure),.d (Ah 7 Cr x79.1.Table.Cells),.d (.int .i64 x79.1.Model.Measure),.d (Ah 1 (D.int .i64) x79.1.Model.Terms),.d (Ah 2 Cf x79.1.Model.Coefs),.d (.int .i64 x79.1.Model.Residual.Num),.d (.int .i64 x79.1.Model.Residual.Den),.d (.int .i64 x79.1.Model.Total.Num),.d (.int .i64 x79.1.Model.Total.Den),.d (.int .i64 x79.1.Model.Count),.d (.int .i64 x79.1.Model.Free),.d (Ah 6 En x79.1.Curve),.d (Ah 2 MG x79.1.Hist),.d (.int .i64 x79.1.Box.Count),.d (.int .i64 x79.1.Box.Least),.d (.int .i64 x79.1.Box.Lower),.d (.int .i64 x79.1.Box.Middle),.d (.int .i64 x79.1.Box.Upper),.d (.int .i64 x79.1.Box.Greatest),.d (Ah 1 (D.int .i64) x79.1.Lineage)],1)]) ?_ fun p=>?_
 ·conv=>whnf
  refine z12 ?_
  refine Ap h fun h=>?_
  refine z13 ?_
  conv=>whnf
  refine ⟨by kernel_rfl,?_⟩
  refine Ap h fun h=>?_
  refine AF h (fun _=>JK _ _ _) fun x110 h=>?_
  refine Ap h fun h=>?_
  refine z13 ?_
  conv=>whnf
  refine ⟨by kernel_rfl,?_⟩
  refine Ap h fun h=>?_
  refine AF h (fun _=>TP _ _) fun x128 h=>?_
  refine AF h (fun _=>JK _ _ _) fun x129 h=>?_
  exact z31
 obtain ⟨_,h⟩:=p
 simp only [BV] at h
 refine AE h (fun h=>?_) fun h=>?_
 ·refine AY h fun h=>?_
  refine AF h (fun _=>Pt _  _) fun x137 h=>?_
  exact A5 h
 refine AF h (fun _=>Yr _ _ _) fun x142 h=>?_
 conv=>whnf
 refine z13 ?_
 conv=>whnf
 refine ⟨by kernel_rfl,?_⟩
 refine AY h fun h=>?_
 refine AF h (fun _=>JK _ _ _) fun x157 h=>?_
 refine AY h fun h=>?_
 refine AF h (fun _=>Pt _  _) fun x160 h=>?_
 exact A5 h
end Go.Proofs.YtjgeigjjfcnojaaGreatDoor.P
