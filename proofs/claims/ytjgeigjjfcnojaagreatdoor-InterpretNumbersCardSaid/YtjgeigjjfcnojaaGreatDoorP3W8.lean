/- P3W8 -/
import Derived.Test.YtjgeigjjfcnojaaGreatDoorP3W7
set_option linter.unusedSimpArgs false
namespace Go.Proofs.YtjgeigjjfcnojaaGreatDoor.P
open Go.Abs Go.Proofs
set_option maxRecDepth 100000
set_option maxHeartbeats 40000000
set_option linter.unusedVariables false
theorem UG (d:Nat) (self_ref05_node:(Af→Ar→Option Int)) (ih_ref05_node:∀ (p0:Af) (p1:Ar) (R:Int) ,self_ref05_node p0 p1 = some R→Aj Tryz.prog 214 [.d (Au p0),.d (Ac p1)] (.d (.int .i64 R))) (p0:Af) (p1:Ar) (R:Int) (h:Nc d self_ref05_node p0 p1 = some R):Aj Tryz.prog 214 [.d (Au p0),.d (Ac p1)] (.d (.int .i64 R)):=by
 refine Dk [16,20,22] Tryz.func214 (by kernel_rfl) ?_
 unfold Nc at h
 conv=>whnf
 refine z12 ?_
 refine FW {p:(Int × Int × Int × Int × Int) // CH p1 p0 self_ref05_node p.1 p.2.1 p.2.2.1 p.2.2.2.1 p.2.2.2.2 = some R} (fun p=>BB 185 [(2,.ptr 2 1 0),(3,.ptr 3 1 0),(5,.d (.int .i64 p.1.1)),(6,.ptr 6 1 0)] [(2,.var [.d (Ah 2 Ae p0.Lists),.d (Ah 7 Ag p0.Columns)],1),(3,.var [.d (.int .i64 p1.Op),.d (.int .i64 p1.Column),.d (.int .i64 p1.Code),.d (.int .i64 p1.Low),.d (.int .i64 p1.High),.d (Ah 6 Ax p1.Kids)],1),(6,.var [.d (.int .i64 p1.Op),.d (.int .i64 p.1.2.1),.d (.int .i64 p.1.2.2.1),.d (.int .i64 p.1.2.2.2.1),.d (.int .i64 p.1.2.2.2.2),.d (.nil 6)],1)]) ?_ fun p=>?_
 ·refine AE h (fun h=>?_) fun h=>?_
  ·exact z39
  refine AE h (fun h=>?_) fun h=>?_
  ·conv=>whnf
   refine z12 ?_
   exact z39
  refine AE h (fun h=>?_) fun h=>?_
  ·conv=>whnf
   refine z12 ?_
   exact z39
  refine AE h (fun h=>?_) fun h=>?_
  ·exact z39
  conv=>whnf
  refine MB h Cj (fun e40 h=>?_) (fun e40 h=>?_)
  ·conv=>whnf
   refine N6 Cj e40 ?_
   exact z39
  refine AE h (fun h=>?_) fun h=>?_
  ·exact z39
  refine AE h (fun h=>?_) fun h=>?_
  ·exact z39
  exact z16
 obtain ⟨⟨j5_1,k6_1_1,k6_2_1,k6_3_1,k6_4_1⟩,h⟩:=p
 simp only [CH] at h
 refine AE h (fun h=>?_) fun h=>?_
 ·exact z16
 refine FW {p:Unit // F5 p1 p0 self_ref05_node = some R} (fun p=>BB 185 [(2,.ptr 2 1 0),(3,.ptr 3 1 0)] [(2,.var [.d (Ah 2 Ae p0.Lists),.d (Ah 7 Ag p0.Columns)],1),(3,.var [.d (.int .i64 p1.Op),.d (.int .i64 p1.Column),.d (.int .i64 p1.Code),.d (.int .i64 p1.Low),.d (.int .i64 p1.High),.d (Ah 6 Ax p1.Kids)],1)]) ?_ fun p=>?_
 ·conv=>whnf
  refine MB h Cj (fun e29 h=>?_) (fun e29 h=>?_)
  ·refine AF h (fun _=>Qk _ _ _ _) fun x85 h=>?_
   refine AE h (fun h=>?_) fun h=>?_
   ·exact z22
   refine ez Cj (eA e29) ?_
   refine ez Cj (eA e29) ?_
   exact ⟨⟨(),h⟩,A4⟩
  refine MB h Cj (fun e31 h=>?_) (fun e31 h=>?_)
  ·refine AF h (fun _=>Qk _ _ _ _) fun x96 h=>?_
   refine AE h (fun h=>?_) fun h=>?_
   ·exact z22
   refine ez Cj (eA e31) ?_
   exact ⟨⟨(),h⟩,A4⟩
  refine AE h (fun h=>?_) fun h=>?_
  ·refine AF h (fun _=>Qk _ _ _ _) fun x108 h=>?_
   refine AE h (fun h=>?_) fun h=>?_
   ·exact z22
   refine Bd (f:=Ag) h fun x115 _ h=>?_
   refine AE h (fun h=>?_) fun h=>?_
   ·exact z16
   conv=>whnf
   exact ⟨⟨(),h⟩,A4⟩
  exact ⟨⟨(),h⟩,A4⟩
 obtain ⟨_,h⟩:=p
 simp only [F5] at h
 refine FW {p:Unit // IU p1 self_ref05_node p0 = some R} (fun p=>BB 185 [(2,.ptr 2 1 0),(3,.ptr 3 1 0)] [(2,.var [.d (Ah 2 Ae p0.Lists),.d (Ah 7 Ag p0.Columns)],1),(3,.var [.d (.int .i64 p1.Op),.d (.int .i64 p1.Column),.d (.int .i64 p1.Code),.d (.int .i64 p1.Low),.d (.int .i64 p1.High),.d (Ah 6 Ax p1.Kids)],1)]) ?_ fun p=>?_
 ·conv=>whnf
  refine z12 ?_
  refine AE h (fun h=>?_) fun h=>?_
  ·refine AE h (fun h=>?_) fun h=>?_
   ·exact z22
   refine Bd (f:=Ag) h fun x138 _ h=>?_
   refine Bd (f:=Ae) h fun x141 _ h=>?_
   refine AE h (fun h=>?_) fun h=>?_
   ·exact z16
   conv=>whnf
   exact ⟨⟨(),h⟩,A4⟩
  exact ⟨⟨(),h⟩,A4⟩
 obtain ⟨_,h⟩:=p
 simp only [IU] at h
 refine AE h (fun h=>?_) fun h=>?_
 ·exact z16
 refine z5 h (fun p=>BB 185 [(2,.ptr 2 1 0),(3,.ptr 3 1 0),(7,.d (.int .i64 p))] [(2,.var [.d (Ah 2 Ae p0.Lists),.d (Ah 7 Ag p0.Columns)],1),(3,.var [.d (.int .i64 p1.Op),.d (.int .i64 p1.Column),.d (.int .i64 p1.Code),.d (.int .i64 p1.Low),.d (.int .i64 p1.High),.d (Ah 6 Ax p1.Kids)],1)]) A4 fun _ _ v7_1 h=>?_
 simp only [PE] at h
 refine AE h (fun h=>?_) fun h=>?_
 ·conv=>whnf
  refine z12 ?_
  refine Bd (f:=Ax) h fun x179 _ h=>?_
  rw [Aa x179]
  conv=>whnf
  obtain ⟨x181,hx181,h⟩:=A8 h
  first | refine Av (ih_ref05_node _ _ _ hx181) ?_ | (simp only [List.length_map]; refine Av (ih_ref05_node _ _ _ hx181) ?_)
  refine AE h (fun h=>?_) fun h=>?_
  ·exact z16
  exact z40
 exact z16
theorem PF:∀ d:Nat,(∀ (p0:Af) (p1:Ar) (R:Int) ,Nb d p0 p1 = some R→Aj Tryz.prog 214 [.d (Au p0),.d (Ac p1)] (.d (.int .i64 R)))
 | 0=>by
  exact z26
 | d + 1=>by
  have ih:=PF d
  exact UG d _ ih
theorem Wl (d:Nat):∀ (p0:Af) (p1:Ar) (R:Int) ,Nb d p0 p1 = some R→Aj Tryz.prog 214 [.d (Au p0),.d (Ac p1)] (.d (.int .i64 R)):=PF d
theorem G3 (d:Nat) (p0:Af) (p1:Ar) (R:Int) (h:Ej d p0 p1 = some R):Aj Tryz.prog 136 [.d (Au p0),.d (Ac p1)] (.d (.int .i64 R)):=by
 refine BF Tryz.func136 ?_
 unfold Ej at h
 refine AF h (fun _=>Dr _ _) fun x7 h=>?_
 refine AE h (fun h=>?_) fun h=>?_
 ·exact z16
 refine AF h (fun _=>UD _ _ _ _) fun x12 h=>?_
 refine AE h (fun h=>?_) fun h=>?_
 ·exact z16
 refine AF h (fun _=>UE _ _ _) fun x15 h=>?_
 refine AE h (fun h=>?_) fun h=>?_
 ·exact z16
 refine AF h (fun _=>Wl _ _ _ _) fun x19 h=>?_
 exact z16
theorem Qm (p0:Af) (p1:Int) (p2:Int) (R:Bool) (h:KB p0 p1 p2 = some R):Aj Tryz.prog 268 [.d (Au p0),.d (.int .i64 p1),.d (.int .i64 p2)] (.d (.bool R)):=by
 refine BF Tryz.func268 ?_
 unfold KB at h
 refine AY h fun h=>?_
 refine Bd (f:=Ag) h fun x20 _ h=>?_
 exact A5 h
theorem Rh (p0:Af) (p1:An) (R:Int) (h:I9 p0 p1 = some R):Aj Tryz.prog 138 [.d (Au p0),.d (Ai p1)] (.d (.int .i64 R)):=by
 refine BF Tryz.func138 ?_
 unfold I9 at h
 refine AF h (fun _=>Dr _ _) fun x7 h=>?_
 refine Ap h fun h=>?_
 refine Ap h fun h=>?_
 conv=>whnf
 refine z12 ?_
 refine AF h (fun _=>Ga _ _ _) fun x27 h=>?_
 refine AF h (fun _=>CB _ _ _ _) fun x28 h=>?_
 exact DO h
theorem Wm (p0:Af) (p1:(List An)) (R:Int) (h:KA p0 p1 = some R):Aj Tryz.prog 269 [.d (Au p0),.d (Ah 2 Ai p1)] (.d (.int .i64 R)):=by
 refine BF Tryz.func269 ?_
 unfold KA at h
 refine Ap h fun h=>?_
 refine z5 h (fun p=>BB 55 [(1,.d (Ah 2 Ai p1)),(2,.ptr 2 1 0),(5,.d (.int .i64 p))] [(2,.var [.d (Ah 2 Ae p0.Lists),.d (Ah 7 Ag p0.Columns)],1)]) Ak fun _ _ v5_1 h=>?_
 simp only [IV] at h
 refine AE h (fun h=>?_) fun h=>?_
 ·conv=>whnf
  refine z12 ?_
  refine Bd (f:=Ai) h fun x25 _ h=>?_
  refine AF h (fun _=>Rh _ _ _) fun x27 h=>?_
  refine Ap h fun h=>?_
  conv=>whnf
  refine z12 ?_
  refine Bd (f:=Ai) h fun x34 _ h=>?_
  refine AF h (fun _=>Qm _ _ _ _) fun x37 h=>?_
  refine Ap h fun h=>?_
  refine z5 h (fun p=>BB 55 [(1,.d (Ah 2 Ai p1)),(2,.ptr 2 1 0),(5,.d (.int .i64 v5_1)),(7,.d (.int .i64 p))] [(2,.var [.d (Ah 2 Ae p0.Lists),.d (Ah 7 Ag p0.Columns)],1)]) Ak fun _ _ v7_2 h=>?_
  simp only [LB] at h
  refine AE h (fun h=>?_) fun h=>?_
  ·conv=>whnf
   refine z12 ?_
   refine Bd (f:=Ai) h fun x46 _ h=>?_
   refine Bd (f:=Ai) h fun x51 _ h=>?_
   exact z17
  conv=>whnf
  try simp only [ref08_Dims_k1] at h
  exact z43
 conv=>whnf
 try simp only [ref08_Dims_k1] at h
 exact A5 h
theorem SB (p0:(List Int)) (p1:Int) (R:Bool) (h:OY p0 p1 = some R):Aj Tryz.prog 275 [.d (Ah 1 (D.int .i64) p0),.d (.int .i64 p1)] (.d (.bool R)):=by
 refine BF Tryz.func275 ?_
 unfold OY at h
 refine z5 h (fun p=>BB 18 [(0,.d (Ah 1 (D.int .i64) p0)),(1,.d (.int .i64 p1)),(5,.d (.int .i64 p))] []) Ak fun _ _ v5_1 h=>?_
 simp only [Rf] at h
 refine AY h fun h=>?_
 refine Bd (f:=(D.int .i64)) h fun x14 _ h=>?_
 exact z17
theorem UH (p0:Af) (p1:Int) (p2:(List Int)) (R:Int) (h:O4 p0 p1 p2 = some R):Aj Tryz.prog 270 [.d (Au p0),.d (.int .i64 p1),.d (Ah 1 (D.int .i64) p2)] (.d (.int .i64 R)):=by
 refine BF Tryz.func270 ?_
 unfold O4 at h
 refine Ap h fun h=>?_
 refine z5 h (fun p=>BB 45 [(1,.d (.int .i64 p1)),(2,.d (Ah 1 (D.int .i64) p2)),(3,.ptr 3 1 0),(7,.d (.int .i64 p))] [(3,.var [.d (Ah 2 Ae p0.Lists),.d (Ah 7 Ag p0.Columns)],1)]) Ak fun _ _ v7_1 h=>?_
 simp only [O5] at h
 refine AY h fun h=>?_
 conv=>whnf
 refine z12 ?_
 refine Bd (f:=(D.int .i64)) h fun x25 _ h=>?_
 refine AF h (fun _=>Qm _ _ _ _) fun x27 h=>?_
 refine Ap h fun h=>?_
 conv=>whnf
 refine z12 ?_
 refine Bd (f:=(D.int .i64)) h fun x31 _ h=>?_
 refine Ap h fun h=>?_
 obtain ⟨hr,h⟩:=Dm h
 refine z9 ?_
 try simp only [List.length_map]
 rw [WE]
 refine Bd (f:=(D.int .i64)) h fun x41 _ h=>?_
 refine AF h (fun _=>SB _ _ _) fun x43 h=>?_
 exact z17
theorem UI (d:Nat) (p0:Af) (p1:Cn) (R:Int) (h:Lf d p0 p1 = some R):Aj Tryz.prog 215 [.d (Au p0),.d (B3 p1)] (.d (.int .i64 R)):=by
 refine BF Tryz.func215 ?_
 unfold Lf at h
 refine AF h (fun _=>Qm _ _ _ _) fun x10 h=>?_
 refine AE h (fun h=>?_) fun h=>?_
 ·refine AF h (fun _=>Wm _ _ _) fun x32 h=>?_
  refine Ap h fun h=>?_
  exact DO h
 refine AE h (fun h=>?_) fun h=>?_
 ·refine Ap h fun h=>?_
  refine AF h (fun _=>UH _ _ _ _) fun x52 h=>?_
  exact A5 h
 refine Ap h fun h=>?_
 refine Bd (f:=Ag) h fun x19 _ h=>?_
 refine Ap h fun h=>?_
 refine AF h (fun _=>G3 _ _ _ _) fun x26 h=>?_
 exact A5 h
theorem UC (d:Nat) (self_ref05_Same:(Ar→Ar→Option Bool)) (ih_ref05_Same:∀ (p0:Ar) (p1:Ar) (R:Bool) ,self_ref05_Same p0 p1 = some R→Aj Tryz.prog 271 [.d (Ac p0),.d (Ac p1)] (.d (.bool R))) (p0:Ar) (p1:Ar) (R:Bool) (h:MY d self_ref05_Same p0 p1 = some R):Aj Tryz.prog 271 [.d (Ac p0),.d (Ac p1)] (.d (.bool R)):=by
 refine BF Tryz.func271 ?_
 unfold MY at h
 refine AE h (fun h=>?_) fun h=>?_
 ·exact z16
 refine z5 h (fun p=>BB 67 [(2,.ptr 2 1 0),(3,.ptr 3 1 0),(5,.d (.int .i64 p))] [(2,.var [.d (.int .i64 p0.Op),.d (.int .i64 p0.Column),.d (.int .i64 p0.Code),.d (.int .i64 p0.Low),.d (.int .i64 p0.High),.d (Ah 6 Ax p0.Kids)],1),(3,.var [.d (.int .i64 p1.Op),.d (.int .i64 p1.Column),.d (.int .i64 p1.Code),.d (.int .i64 p1.Low),.d (.int .i64 p1.High),.d (Ah 6 Ax p1.Kids)],1)]) A4 fun _ _ v5_1 h=>?_
 simp only [P8] at h
 refine AE h (fun h=>?_) fun h=>?_
 ·conv=>whnf
  refine z12 ?_
  refine Bd (f:=Ax) h fun x58 _ h=>?_
  rw [Aa x58]
  refine Bd (f:=Ax) h fun x63 _ h=>?_
  rw [Aa x63]
  conv=>whnf
  obtain ⟨x65,hx65,h⟩:=A8 h
  first | refine Av (ih_ref05_Same _ _ _ hx65) ?_ | (simp only [List.length_map]; refine Av (ih_ref05_Same _ _ _ hx65) ?_)
  refine AE h (fun h=>?_) fun h=>?_
  ·exact z16
  exact z40
 exact z16
theorem P9:∀ d:Nat,(∀ (p0:Ar) (p1:Ar) (R:Bool) ,MX d p0 p1 = some R→Aj Tryz.prog 271 [.d (Ac p0),.d (Ac p1)] (.d (.bool R)))
 | 0=>by
  exact z26
 | d + 1=>by
  have ih:=P9 d
  exact UC d _ ih
theorem Wi (d:Nat):∀ (p0:Ar) (p1:Ar) (R:Bool) ,MX d p0 p1 = some R→Aj Tryz.prog 271 [.d (Ac p0),.d (Ac p1)] (.d (.bool R)):=P9 d
theorem Wn (d:Nat) (p0:Ar) (R:Bool) (h:Qn d p0 = some R):Aj Tryz.prog 216 [.d (Ac p0)] (.d (.bool R)):=by
 refine BF Tryz.func216 ?_
 unfold Qn at h
 refine AF h (fun _=>Wi _ _ _ _) fun x5 h=>?_
 exact z16
theorem IB (d:Nat) (p0:Af) (p1:Cn) (R:Int) (h:D7 d p0 p1 = some R):Aj Tryz.prog 137 [.d (Au p0),.d (B3 p1)] (.d (.int .i64 R)):=by
 refine BF Tryz.func137 ?_
 unfold D7 at h
 refine AF h (fun _=>Dr _ _) fun x9 h=>?_
 refine Ap h fun h=>?_
 refine AF h (fun _=>Gn _ _) fun x15 h=>?_
 refine Ap h fun h=>?_
 refine Ap h fun h=>?_
 refine AF h (fun _=>G3 _ _ _ _) fun x28 h=>?_
 refine Ap h fun h=>?_
 refine AF h (fun _=>UI _ _ _ _) fun x34 h=>?_
 refine Ap h fun h=>?_
 refine Ap h fun h=>?_
 refine AY h fun h=>?_
 refine AF h (fun _=>Wn _ _ _) fun x65 h=>?_
 exact DO h
theorem PG (d:Nat) (p0:Af) (p1:AZ) (R:Int) (h:Ho d p0 p1 = some R):Aj Tryz.prog 72 [.d (Au p0),.d (Fu p1)] (.d (.int .i64 R)):=by
 refine Dk [6] Tryz.func72 (by kernel_rfl) ?_
 unfold Ho at h
 refine AF h (fun _=>Dr _ _) fun x12 h=>?_
 refine Ap h fun h=>?_
 refine FW {p:Unit // HY d p0 p1 = some R} (fun p=>BB 110 [(2,.ptr 2 1 0),(3,.ptr 3 1 0)] [(2,.var [.d (Ah 2 Ae p0.Lists),.d (Ah 7 Ag p0.Columns)],1),(3,.var [.d (.str p1.Project),.d (.str p1.Source),.d (.int .i64 p1.Cohort.Op),.d (.int .i64 p1.Cohort.Column),.d (.int .i64 p1.Cohort.Code),.d (.int .i64 p1.Cohort.Low),.d (.int .i64 p1.Cohort.High),.d (Ah 6 Ax p1.Cohort.Kids),.d (.int .i64 p1.Sample.Part),.d (.int .i64 p1.Sample.Of),.d (.int .i64 p1.Sample.Seed),.d (Ah 17 B3 p1.Questions)],1)]) ?_ fun p=>?_
 ·refine AF h (fun _=>Gn _ _) fun x18 h=>?_
  refine Ap h fun h=>?_
  refine AF h (fun _=>Gn _ _) fun x23 h=>?_
  exact z31
 obtain ⟨_,h⟩:=p
 simp only [HY] at h
 refine AF h (fun _=>G3 _ _ _ _) fun x29 h=>?_
 refine Ap h fun h=>?_
 refine Ap h fun h=>?_
 refine Ap h fun h=>?_
 refine z5 h (fun p=>BB 110 [(2,.ptr 2 1 0),(3,.ptr 3 1 0),(8,.d (.int .i64 p))] [(2,.var [.d (Ah 2 Ae p0.Lists),.d (Ah 7 Ag p0.Columns)],1),(3,.var [.d (.str p1.Project),.d (.str p1.Source),.d (.int .i64 p1.Cohort.Op),.d (.int .i64 p1.Cohort.Column),.d (.int .i64 p1.Cohort.Code),.d (.int .i64 p1.Cohort.Low),.d (.int .i64 p1.Cohort.High),.d (Ah 6 Ax p1.Cohort.Kids),.d (.int .i64 p1.Sample.Part),.d (.int .i64 p1.Sample.Of),.d (.int .i64 p1.Sample.Seed),.d (Ah 17 B3 p1.Questions)],1)]) Ak fun _ _ v8_1 h=>?_
 simp only [HX] at h
 refine AE h (fun h=>?_) fun h=>?_
 ·conv=>whnf
  refine z12 ?_
  refine Bd (f:=B3) h fun x86 _ h=>?_
  refine AF h (fun _=>IB _ _ _ _) fun x88 h=>?_
  refine Ap h fun h=>?_
  refine z5 h (fun p=>BB 110 [(2,.ptr 2 1 0),(3,.ptr 3 1 0),(8,.d (.int .i64 v8_1)),(10,.d (.int .i64 p))] [(2,.var [.d (Ah 2 Ae p0.Lists),.d (Ah 7 Ag p0.Columns)],1),(3,.var [.d (.str p1.Project),.d (.str p1.Source),.d (.int .i64 p1.Cohort.Op),.d (.int .i64 p1.Cohort.Column),.d (.int .i64 p1.Cohort.Code),.d (.int .i64 p1.Cohort.Low),.d (.int .i64 p1.Cohort.High),.d (Ah 6 Ax p1.Cohort.Kids),.d (.int .i64 p1.Sample.Part),.d (.int .i64 p1.Sample.Of),.d (.int .i64 p1.Sample.Seed),.d (Ah 17 B3 p1.Questions)],1)]) Ak fun _ _ v10_2 h=>?_
  simp only [K9] at h
  refine AE h (fun h=>?_) fun h=>?_
  ·conv=>whnf
   refine z12 ?_
   refine Bd (f:=B3) h fun x100 _ h=>?_
   refine Bd (f:=B3) h fun x106 _ h=>?_
   exact z17
  conv=>whnf
  try simp only [ref08_Check_k1] at h
  exact z43
 conv=>whnf
 try simp only [ref08_Check_k1] at h
 exact A5 h
theorem P5 (p0:Af) (p1:(List An)) (R:Int) (h:Hk p0 p1 = some R):Aj Tryz.prog 73 [.d (Au p0),.d (Ah 2 Ai p1)] (.d (.int .i64 R)):=by
 refine BF Tryz.func73 ?_
 unfold Hk at h
 refine AF h (fun _=>Dr _ _) fun x9 h=>?_
 refine Ap h fun h=>?_
 refine z5 h (fun p=>BB 44 [(1,.d (Ah 2 Ai p1)),(2,.ptr 2 1 0),(6,.d (.int .i64 p))] [(2,.var [.d (Ah 2 Ae p0.Lists),.d (Ah 7 Ag p0.Columns)],1)]) Ak fun _ _ v6_1 h=>?_
 simp only [HT] at h
 refine AY h fun h=>?_
 conv=>whnf
 refine z12 ?_
 refine Bd (f:=Ai) h fun x22 _ h=>?_
 refine AF h (fun _=>Rh _ _ _) fun x24 h=>?_
 refine Ap h fun h=>?_
 conv=>whnf
 refine z12 ?_
 refine AE h (fun h=>?_) fun h=>?_
 ·refine Bd (f:=Ai) h fun x33 _ h=>?_
  refine Bd (f:=Ai) h fun x39 _ h=>?_
  exact z17
 exact z43
theorem Ug (p0:(List An)) (p1:(List An)) (R:Bool) (h:MW p0 p1 = some R):Aj Tryz.prog 139 [.d (Ah 2 Ai p0),.d (Ah 2 Ai p1)] (.d (.bool R)):=by
 refine BF Tryz.func139 ?_
 unfold MW at h
 refine z5 h (fun p=>BB 49 [(0,.d (Ah 2 Ai p0)),(1,.d (Ah 2 Ai p1)),(5,.d (.int .i64 p))] []) Ak fun _ _ v5_1 h=>?_
 simp only [Nz] at h
 refine AY h fun h=>?_
 refine z5 h (fun p=>BB 49 [(0,.d (Ah 2 Ai p0)),(1,.d (Ah 2 Ai p1)),(5,.d (.int .i64 v5_1)),(6,.d (.bool p.1)),(7,.d (.int .i64 p.2))] []) Ak fun _ _ ⟨v6_2,v7_2⟩ h=>?_
 simp only [N0] at h
 refine AE h (fun h=>?_) fun h=>?_
 ·conv=>whnf
  refine z12 ?_
  refine AE h (fun h=>?_) fun h=>?_
  ·exact BI ⟨(_,(_,_)),h⟩ Ak
  refine Bd (f:=Ai) h fun x24 _ h=>?_
  refine Bd (f:=Ai) h fun x29 _ h=>?_
  refine AE h (fun h=>?_) fun h=>?_
  ·refine Bd (f:=Ai) h fun x36 _ h=>?_
   refine Bd (f:=Ai) h fun x41 _ h=>?_
   exact z21
  exact BI ⟨(_,(_,_)),h⟩ Ak
 exact z17
theorem IT (p0:(List An)) (p1:Int) (p2:Int) (R:(List An)) (h:Hn p0 p1 p2 = some R):Aj Tryz.prog 218 [.d (Ah 2 Ai p0),.d (.int .i64 p1),.d (.int .i64 p2)] (.d (Ah 2 Ai R)):=by
 refine BF Tryz.func218 ?_
 unfold Hn at h
 refine z5 h (fun p=>BB 59 [(0,.d (Ah 2 Ai p0)),(1,.d (.int .i64 p1)),(2,.d (.int .i64 p2)),(7,.sl 7 1),(8,.d (.bool p.1)),(9,.d (.int .i64 p.2.1))] [(7,.row 2 112 (List.map Ai p.2.2),1)]) Ak fun _ _ ⟨v8_1,v9_1,b7_1⟩ h=>?_
 simp only [Ox] at h
 refine AE h (fun h=>?_) fun h=>?_
 ·refine Bd (f:=Ai) h fun x21 _ h=>?_
  refine AE h (fun h=>?_) fun h=>?_
  ·conv=>whnf
   obtain ⟨hr,h⟩:=Dm h
   refine z6 ?_
   try rw [Df]
   refine AE h (fun h=>?_) fun h=>?_
   ·conv=>whnf
    exact z46
   conv=>whnf
   exact z46
  refine AE h (fun h=>?_) fun h=>?_
  ·conv=>whnf
   exact z46
  conv=>whnf
  exact z46
 conv=>whnf
 try simp only [Oy] at h
 refine AE h (fun h=>?_) fun h=>?_
 ·conv=>whnf
  obtain ⟨hr,h⟩:=Dm h
  refine z6 ?_
  try rw [Df]
  exact z30
 exact z30
theorem Uf (d:Nat) (self_ref05_Atoms:(Ar→Option (List Ar))) (ih_ref05_Atoms:∀ (p0:Ar) (R:(List Ar)) ,self_ref05_Atoms p0 = some R→Aj Tryz.prog 272 [.d (Ac p0)] (.d (Ah 6 Ax R))) (p0:Ar) (R:(List Ar)) (h:L6 d self_ref05_Atoms p0 = some R):Aj Tryz.prog 272 [.d (Ac p0)] (.d (Ah 6 Ax R)):=by
 refine BF Tryz.func272 ?_
 unfold L6 at h
 refine AE h (fun h=>?_) fun h=>?_
 ·conv=>whnf
  exact z23
 refine z5 h (fun p=>BB 36 [(1,.ptr 1 1 0),(3,.sl 3 1),(4,.d (.int .i64 p.1))] [(1,.var [.d (.int .i64 p0.Op),.d (.int .i64 p0.Column),.d (.int .i64 p0.Code),.d (.int .i64 p0.Low),.d (.int .i64 p0.High),.d (Ah 6 Ax p0.Kids)],1),(3,.row 6 41 (List.map Ax p.2),1)]) Tl fun _ _ ⟨v4_1,b3_1⟩ h=>?_
 simp only [Ot] at h
 refine AE h (fun h=>?_) fun h=>?_
 ·refine Bd (f:=Ax) h fun x31 _ h=>?_
  rw [Aa x31]
  conv=>whnf
  obtain ⟨x33,hx33,h⟩:=A8 h
  first | refine Av (ih_ref05_Atoms _ _ hx33) ?_ | (simp only [List.length_map]; refine Av (ih_ref05_Atoms _ _ hx33) ?_)
  conv=>whnf
  obtain ⟨hr,h⟩:=Dm h
  refine z6 ?_
  try rw [dC]
  conv=>whnf
  exact BI ⟨(_,(_,_)),h⟩ Tl
 conv=>whnf
 exact z23
theorem Ou:∀ d:Nat,(∀ (p0:Ar) (R:(List Ar)) ,Lb d p0 = some R→Aj Tryz.prog 272 [.d (Ac p0)] (.d (Ah 6 Ax R)))
 | 0=>by
  exact z26
 | d + 1=>by
  have ih:=Ou d
  exact Uf d _ ih
theorem UB (d:Nat):∀ (p0:Ar) (R:(List Ar)) ,Lb d p0 = some R→Aj Tryz.prog 272 [.d (Ac p0)] (.d (Ah 6 Ax R)):=Ou d
theorem Ud (p0:Aw) (p1:Int) (p2:Int) (R:Int) (h:HO p0 p1 p2 = some R):Aj Tryz.prog 81 [.d (Ae p0),.d (.int .i64 p1),.d (.int .i64 p2)] (.d (.int .i64 R)):=by
 refine BF Tryz.func81 ?_
 unfold HO at h
 refine AF h (fun _=>G0 _ _) fun x8 h=>?_
 refine Ap h fun h=>?_
 refine AF h (fun _=>CF _ _ _) fun x29 h=>?_
 refine Ap h fun h=>?_
 refine z5 h (fun p=>BB 44 [(1,.d (.int .i64 p)),(2,.d (.int .i64 p2)),(3,.ptr 3 1 0)] [(3,.var [.d (.str p0.Name),.d (Ah 2 Bh p0.Codes)],1)]) Ak fun _ _ v1_1 h=>?_
 simp only [SC] at h
 refine AF h (fun _=>CF _ _ _) fun x34 h=>?_
 refine AY h fun h=>?_
 refine Bd (f:=Bh) h fun x40 _ h=>?_
 conv=>whnf
 exact z43
theorem G1 (p0:Az) (p1:Int) (R:Int) (h:CR p0 p1 = some R):Aj Tryz.prog 82 [.d (Ag p0),.d (.int .i64 p1)] (.d (.int .i64 R)):=by
 refine BF Tryz.func82 ?_
 unfold CR at h
 refine Bd (f:=(D.int .i64)) h fun x12 _ h=>?_
 exact A5 h
theorem L4 (p0:Int) (p1:Int) (R:Int) (h:Ei p0 p1 = some R):Aj Tryz.prog 83 [.d (.int .i64 p0),.d (.int .i64 p1)] (.d (.int .i64 R)):=by
 refine BF Tryz.func83 ?_
 unfold Ei at h
 conv=>whnf
 obtain ⟨hr,h⟩:=Dm h
 refine z11 ?_
 exact z44
end Go.Proofs.YtjgeigjjfcnojaaGreatDoor.P
