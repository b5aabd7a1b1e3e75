/- P3W9 -/
import Derived.Test.YtjgeigjjfcnojaaGreatDoorP3W8
set_option linter.unusedSimpArgs false
namespace Go.Proofs.YtjgeigjjfcnojaaGreatDoor.P
open Go.Abs Go.Proofs
set_option maxRecDepth 100000
set_option maxHeartbeats 40000000
set_option linter.unusedVariables false
theorem D5 (p0:Af) (p1:Int) (p2:Int) (p3:Int) (R:Int) (h:BH p0 p1 p2 p3 = some R):Aj Tryz.prog 34 [.d (Au p0),.d (.int .i64 p1),.d (.int .i64 p2),.d (.int .i64 p3)] (.d (.int .i64 R)):=by
 refine BF Tryz.func34 ?_
 unfold BH at h
 refine AF h (fun _=>Ga _ _ _) fun x14 h=>?_
 refine AF h (fun _=>CB _ _ _ _) fun x15 h=>?_
 refine Ap h fun h=>?_
 refine Bd (f:=Ag) h fun x20 _ h=>?_
 refine AE h (fun h=>?_) fun h=>?_
 ·refine AF h (fun _=>P0 _ _ _ _) fun x28 h=>?_
  refine Ap h fun h=>?_
  refine Bd (f:=Ae) h fun x34 _ h=>?_
  refine AF h (fun _=>Ud _ _ _ _) fun x38 h=>?_
  exact A5 h
 refine AE h (fun h=>?_) fun h=>?_
 ·refine AF h (fun _=>CB _ _ _ _) fun x43 h=>?_
  refine Ap h fun h=>?_
  refine Ap h fun h=>?_
  refine Ap h fun h=>?_
  conv=>whnf
  obtain ⟨x53,hx53,h⟩:=A8 h
  refine Av (G1 _ _ _ hx53) ?_
  conv=>whnf
  obtain ⟨x56,hx56,h⟩:=A8 h
  refine Av (L4 _ _ _ hx56) ?_
  exact A5 h
 refine Ap h fun h=>?_
 refine Ap h fun h=>?_
 conv=>whnf
 obtain ⟨x53,hx53,h⟩:=A8 h
 refine Av (G1 _ _ _ hx53) ?_
 conv=>whnf
 obtain ⟨x56,hx56,h⟩:=A8 h
 refine Av (L4 _ _ _ hx56) ?_
 exact A5 h
theorem UA (p0:Aw) (p1:Int) (p2:Int) (R:Bool) (h:Oo p0 p1 p2 = some R):Aj Tryz.prog 276 [.d (Ae p0),.d (.int .i64 p1),.d (.int .i64 p2)] (.d (.bool R)):=by
 refine BF Tryz.func276 ?_
 unfold Oo at h
 refine AF h (fun _=>L1 _ _ _) fun x10 h=>?_
 refine AY h fun h=>?_
 refine AF h (fun _=>L1 _ _ _) fun x16 h=>?_
 refine AY h fun h=>?_
 refine AF h (fun _=>Ud _ _ _ _) fun x24 h=>?_
 exact A5 h
theorem MU (p0:Af) (p1:Ar) (p2:Int) (R:Int) (h:K6 p0 p1 p2 = some R):Aj Tryz.prog 221 [.d (Au p0),.d (Ac p1),.d (.int .i64 p2)] (.d (.int .i64 R)):=by
 refine BF Tryz.func221 ?_
 unfold K6 at h
 refine AE h (fun h=>?_) fun h=>?_
 ·conv=>whnf
  refine z12 ?_
  refine Bd (f:=Ag) h fun x18 _ h=>?_
  refine Bd (f:=Ae) h fun x21 _ h=>?_
  refine AF h (fun _=>UA _ _ _ _) fun x26 h=>?_
  refine AE h (fun h=>?_) fun h=>?_
  ·exact z16
  exact z16
 refine AE h (fun h=>?_) fun h=>?_
 ·refine AE h (fun h=>?_) fun h=>?_
  ·exact z16
  refine AE h (fun h=>?_) fun h=>?_
  ·exact z16
  exact z16
 refine AE h (fun h=>?_) fun h=>?_
 ·refine AE h (fun h=>?_) fun h=>?_
  ·exact z16
  exact z16
 exact z16
theorem Ta (p0:Af) (p1:Ar) (p2:Int) (R:Bool) (h:L9 p0 p1 p2 = some R):Aj Tryz.prog 273 [.d (Au p0),.d (Ac p1),.d (.int .i64 p2)] (.d (.bool R)):=by
 refine BF Tryz.func273 ?_
 unfold L9 at h
 refine Bd (f:=Ag) h fun x18 _ h=>?_
 refine AE h (fun h=>?_) fun h=>?_
 ·refine AF h (fun _=>K4 _ _ _) fun x26 h=>?_
  refine z5 h (fun p=>BB 140 [(2,.d (.int .i64 p2)),(3,.ptr 3 1 0),(4,.ptr 4 1 0),(8,.d (Ah 1 (D.int .i64) x26)),(9,.d (.int .i64 p))] [(3,.var [.d (Ah 2 Ae p0.Lists),.d (Ah 7 Ag p0.Columns)],1),(4,.var [.d (.int .i64 p1.Op),.d (.int .i64 p1.Column),.d (.int .i64 p1.Code),.d (.int .i64 p1.Low),.d (.int .i64 p1.High),.d (Ah 6 Ax p1.Kids)],1)]) A4 fun _ _ v9_1 h=>?_
  simp only [Mu] at h
  refine AE h (fun h=>?_) fun h=>?_
  ·refine z5 h (fun p=>BB 140 [(2,.d (.int .i64 p2)),(3,.ptr 3 1 0),(4,.ptr 4 1 0),(8,.d (Ah 1 (D.int .i64) x26)),(9,.d (.int .i64 v9_1)),(10,.d (.int .i64 p))] [(3,.var [.d (Ah 2 Ae p0.Lists),.d (Ah 7 Ag p0.Columns)],1),(4,.var [.d (.int .i64 p1.Op),.d (.int .i64 p1.Column),.d (.int .i64 p1.Code),.d (.int .i64 p1.Low),.d (.int .i64 p1.High),.d (Ah 6 Ax p1.Kids)],1)]) A4 fun _ _ v10_2 h=>?_
   simp only [Mv] at h
   refine AE h (fun h=>?_) fun h=>?_
   ·conv=>whnf
    refine z12 ?_
    refine Bd (f:=(D.int .i64)) h fun x44 _ h=>?_
    refine AF h (fun _=>D5 _ _ _ _ _) fun x46 h=>?_
    refine Bd (f:=(D.int .i64)) h fun x53 _ h=>?_
    refine AF h (fun _=>D5 _ _ _ _ _) fun x55 h=>?_
    refine AE h (fun h=>?_) fun h=>?_
    ·refine Bd (f:=(D.int .i64)) h fun x62 _ h=>?_
     refine AF h (fun _=>MU _ _ _ _) fun x64 h=>?_
     refine Bd (f:=(D.int .i64)) h fun x69 _ h=>?_
     refine AF h (fun _=>MU _ _ _ _) fun x71 h=>?_
     refine AE h (fun h=>?_) fun h=>?_
     ·exact z16
     exact z40
    exact BI ⟨(_,_),h⟩ A4
   conv=>whnf
   try simp only [ref05_decides_k1] at h
   exact BI ⟨(_,_),h⟩ A4
  conv=>whnf
  try simp only [ref05_decides_k1] at h
  exact z22
 refine AE h (fun h=>?_) fun h=>?_
 ·exact z16
 conv=>whnf
 refine z12 ?_
 refine AE h (fun h=>?_) fun h=>?_
 ·exact z16
 refine AF h (fun _=>G1 _ _ _) fun x118 h=>?_
 refine AE h (fun h=>?_) fun h=>?_
 ·refine AE h (fun h=>?_) fun h=>?_
  ·exact z22
  obtain ⟨hr,h⟩:=Dm h
  refine z11 ?_
  exact z16
 obtain ⟨hr,h⟩:=Dm h
 refine z11 ?_
 refine AE h (fun h=>?_) fun h=>?_
 ·refine AE h (fun h=>?_) fun h=>?_
  ·exact z22
  obtain ⟨hr,h⟩:=Dm h
  refine z11 ?_
  exact z16
 exact z22
theorem P7 (d:Nat) (p0:Af) (p1:Ar) (R:(List An)) (h:Hm d p0 p1 = some R):Aj Tryz.prog 217 [.d (Au p0),.d (Ac p1)] (.d (Ah 2 Ai R)):=by
 refine BF Tryz.func217 ?_
 unfold Hm at h
 refine AF h (fun _=>G3 _ _ _ _) fun x11 h=>?_
 refine AE h (fun h=>?_) fun h=>?_
 ·conv=>whnf
  exact z23
 refine AF h (fun _=>UB _ _ _) fun x14 h=>?_
 refine z5 h (fun p=>BB 40 [(2,.ptr 2 1 0),(5,.d (Ah 2 Ai p.1)),(6,.d (Ah 6 Ax x14)),(7,.d (.int .i64 p.2))] [(2,.var [.d (Ah 2 Ae p0.Lists),.d (Ah 7 Ag p0.Columns)],1)]) A4 fun _ _ ⟨v5_1,v7_1⟩ h=>?_
 simp only [Ov] at h
 refine AE h (fun h=>?_) fun h=>?_
 ·refine z5 h (fun p=>BB 40 [(2,.ptr 2 1 0),(5,.d (Ah 2 Ai v5_1)),(6,.d (Ah 6 Ax x14)),(7,.d (.int .i64 v7_1)),(8,.d (.int .i64 p))] [(2,.var [.d (Ah 2 Ae p0.Lists),.d (Ah 7 Ag p0.Columns)],1)]) A4 fun _ _ v8_2 h=>?_
  simp only [Ow] at h
  conv=>whnf
  refine z12 ?_
  refine Bd (f:=Ax) h fun x24 _ h=>?_
  rw [Aa x24]
  refine AF h (fun _=>Ta _ _ _ _) fun x27 h=>?_
  refine AE h (fun h=>?_) fun h=>?_
  ·exact z40
  conv=>whnf
  try simp only [K8] at h
  refine Bd (f:=Ax) h fun x34 _ h=>?_
  rw [Aa x34]
  refine AF h (fun _=>IT _ _ _ _) fun x38 h=>?_
  exact z25
 conv=>whnf
 try simp only [K8] at h
 exact z22
theorem SY (p0:Af) (p1:Int) (p2:Int) (p3:Int) (R:Bool) (h:IS p0 p1 p2 p3 = some R):Aj Tryz.prog 274 [.d (Au p0),.d (.int .i64 p1),.d (.int .i64 p2),.d (.int .i64 p3)] (.d (.bool R)):=by
 refine BF Tryz.func274 ?_
 unfold IS at h
 refine Bd (f:=Ag) h fun x19 _ h=>?_
 refine Ap h fun h=>?_
 refine AE h (fun h=>?_) fun h=>?_
 ·refine AF h (fun _=>K4 _ _ _) fun x33 h=>?_
  refine z5 h (fun p=>BB 121 [(1,.d (.int .i64 p1)),(2,.d (.int .i64 p2)),(3,.d (.int .i64 p3)),(4,.ptr 4 1 0),(10,.d (Ah 1 (D.int .i64) x33)),(11,.d (.int .i64 p))] [(4,.var [.d (Ah 2 Ae p0.Lists),.d (Ah 7 Ag p0.Columns)],1)]) Ak fun _ _ v11_1 h=>?_
  simp only [Mp] at h
  refine AE h (fun h=>?_) fun h=>?_
  ·refine z5 h (fun p=>BB 121 [(1,.d (.int .i64 p1)),(2,.d (.int .i64 p2)),(3,.d (.int .i64 p3)),(4,.ptr 4 1 0),(10,.d (Ah 1 (D.int .i64) x33)),(11,.d (.int .i64 v11_1)),(12,.d (.int .i64 p))] [(4,.var [.d (Ah 2 Ae p0.Lists),.d (Ah 7 Ag p0.Columns)],1)]) Ak fun _ _ v12_2 h=>?_
   simp only [Mq] at h
   refine AE h (fun h=>?_) fun h=>?_
   ·conv=>whnf
    refine z12 ?_
    refine Bd (f:=(D.int .i64)) h fun x50 _ h=>?_
    refine AF h (fun _=>D5 _ _ _ _ _) fun x52 h=>?_
    refine Bd (f:=(D.int .i64)) h fun x58 _ h=>?_
    refine AF h (fun _=>D5 _ _ _ _ _) fun x60 h=>?_
    refine AE h (fun h=>?_) fun h=>?_
    ·refine Bd (f:=(D.int .i64)) h fun x68 _ h=>?_
     refine AF h (fun _=>D5 _ _ _ _ _) fun x70 h=>?_
     refine Bd (f:=(D.int .i64)) h fun x76 _ h=>?_
     refine AF h (fun _=>D5 _ _ _ _ _) fun x78 h=>?_
     exact z17
    exact z43
   conv=>whnf
   try simp only [ref02_divides_k1] at h
   exact z43
  conv=>whnf
  try simp only [ref02_divides_k1] at h
  exact A5 h
 refine AF h (fun _=>G1 _ _ _) fun x83 h=>?_
 refine AF h (fun _=>L4 _ _ _) fun x87 h=>?_
 refine Ap h fun h=>?_
 refine z5 h (fun p=>BB 121 [(2,.d (.int .i64 p2)),(9,.ptr 9 1 0),(13,.d (.int .i64 x83)),(14,.d (.int .i64 p.1)),(15,.d (.int .i64 p.2))] [(9,.var [.d (.str x19.Name),.d (.int .i64 x19.Kind),.d (.int .i64 x19.List_),.d (.int .i64 x19.Low),.d (.int .i64 x19.High),.d (Ah 1 (D.int .i64) x19.Widths),.d (.bool x19.Optional)],1)]) Ak fun _ _ ⟨v14_3,v15_3⟩ h=>?_
 simp only [Mr] at h
 refine AE h (fun h=>?_) fun h=>?_
 ·refine AF h (fun _=>G1 _ _ _) fun x115 h=>?_
  conv=>whnf
  obtain ⟨hr,h⟩:=Dm h
  refine z11 ?_
  refine Ap h fun h=>?_
  exact z21
 conv=>whnf
 try simp only [ref02_divides_k1] at h
 exact A5 h
theorem P4 (p0:Af) (p1:Int) (p2:Int) (R:Int) (h:Hj p0 p1 p2 = some R):Aj Tryz.prog 219 [.d (Au p0),.d (.int .i64 p1),.d (.int .i64 p2)] (.d (.int .i64 R)):=by
 refine BF Tryz.func219 ?_
 unfold Hj at h
 refine AF h (fun _=>Ga _ _ _) fun x11 h=>?_
 refine AF h (fun _=>CB _ _ _ _) fun x12 h=>?_
 refine Ap h fun h=>?_
 refine z5 h (fun p=>BB 23 [(1,.d (.int .i64 p1)),(2,.d (.int .i64 p2)),(3,.ptr 3 1 0),(7,.d (.int .i64 p))] [(3,.var [.d (Ah 2 Ae p0.Lists),.d (Ah 7 Ag p0.Columns)],1)]) Ak fun _ _ v7_1 h=>?_
 simp only [K3] at h
 refine AF h (fun _=>SY _ _ _ _ _) fun x18 h=>?_
 refine AY h fun h=>?_
 conv=>whnf
 exact z43
theorem Wo (p0:Cn) (p1:Int) (R:Bool) (h:Nf p0 p1 = some R):Aj Tryz.prog 220 [.d (B3 p0),.d (.int .i64 p1)] (.d (.bool R)):=by
 refine BF Tryz.func220 ?_
 unfold Nf at h
 refine Ap h fun h=>?_
 refine AF h (fun _=>SB _ _ _) fun x13 h=>?_
 exact A5 h
theorem UJ (d:Nat) (p0:Af) (p1:Cn) (R:(List An)) (h:Jj d p0 p1 = some R):Aj Tryz.prog 140 [.d (Au p0),.d (B3 p1)] (.d (Ah 2 Ai R)):=by
 refine Dk [10] Tryz.func140 (by kernel_rfl) ?_
 unfold Jj at h
 refine AF h (fun _=>IB _ _ _ _) fun x12 h=>?_
 refine AE h (fun h=>?_) fun h=>?_
 ·exact z30
 refine AF h (fun _=>P7 _ _ _ _) fun x17 h=>?_
 refine FW {p:(List An) // Gb p1 p0 p = some R} (fun p=>BB 92 [(2,.ptr 2 1 0),(3,.ptr 3 1 0),(5,.d (Ah 2 Ai p.1))] [(2,.var [.d (Ah 2 Ae p0.Lists),.d (Ah 7 Ag p0.Columns)],1),(3,.var [.d (.str p1.Name),.d (.int .i64 p1.Kind),.d (.int .i64 p1.Filter.Op),.d (.int .i64 p1.Filter.Column),.d (.int .i64 p1.Filter.Code),.d (.int .i64 p1.Filter.Low),.d (.int .i64 p1.Filter.High),.d (Ah 6 Ax p1.Filter.Kids),.d (Ah 2 Ai p1.Dims),.d (.int .i64 p1.Measure),.d (Ah 1 (D.int .i64) p1.Terms),.d (.int .i64 p1.Event.Op),.d (.int .i64 p1.Event.Column),.d (.int .i64 p1.Event.Code),.d (.int .i64 p1.Event.Low),.d (.int .i64 p1.Event.High),.d (Ah 6 Ax p1.Event.Kids)],1)]) ?_ fun p=>?_
 ·refine AE h (fun h=>?_) fun h=>?_
  ·refine AF h (fun _=>P7 _ _ _ _) fun x24 h=>?_
   refine z5 h (fun p=>BB 92 [(2,.ptr 2 1 0),(3,.ptr 3 1 0),(5,.d (Ah 2 Ai p.1)),(6,.d (Ah 2 Ai x24)),(7,.d (.int .i64 p.2))] [(2,.var [.d (Ah 2 Ae p0.Lists),.d (Ah 7 Ag p0.Columns)],1),(3,.var [.d (.str p1.Name),.d (.int .i64 p1.Kind),.d (.int .i64 p1.Filter.Op),.d (.int .i64 p1.Filter.Column),.d (.int .i64 p1.Filter.Code),.d (.int .i64 p1.Filter.Low),.d (.int .i64 p1.Filter.High),.d (Ah 6 Ax p1.Filter.Kids),.d (Ah 2 Ai p1.Dims),.d (.int .i64 p1.Measure),.d (Ah 1 (D.int .i64) p1.Terms),.d (.int .i64 p1.Event.Op),.d (.int .i64 p1.Event.Column),.d (.int .i64 p1.Event.Code),.d (.int .i64 p1.Event.Low),.d (.int .i64 p1.Event.High),.d (Ah 6 Ax p1.Event.Kids)],1)]) Ak fun _ _ ⟨v5_1,v7_1⟩ h=>?_
   simp only [O6] at h
   refine AE h (fun h=>?_) fun h=>?_
   ·conv=>whnf
    refine z12 ?_
    refine Bd (f:=Ai) h fun x34 _ h=>?_
    refine Bd (f:=Ai) h fun x39 _ h=>?_
    refine AF h (fun _=>IT _ _ _ _) fun x42 h=>?_
    exact z21
   conv=>whnf
   exact ⟨⟨_,h⟩,Ak⟩
  conv=>whnf
  exact ⟨⟨_,h⟩,Ak⟩
 obtain ⟨j5_1,h⟩:=p
 simp only [Gb] at h
 refine z5 h (fun p=>BB 92 [(2,.ptr 2 1 0),(3,.ptr 3 1 0),(5,.d (Ah 2 Ai p.1)),(8,.d (.int .i64 p.2))] [(2,.var [.d (Ah 2 Ae p0.Lists),.d (Ah 7 Ag p0.Columns)],1),(3,.var [.d (.str p1.Name),.d (.int .i64 p1.Kind),.d (.int .i64 p1.Filter.Op),.d (.int .i64 p1.Filter.Column),.d (.int .i64 p1.Filter.Code),.d (.int .i64 p1.Filter.Low),.d (.int .i64 p1.Filter.High),.d (Ah 6 Ax p1.Filter.Kids),.d (Ah 2 Ai p1.Dims),.d (.int .i64 p1.Measure),.d (Ah 1 (D.int .i64) p1.Terms),.d (.int .i64 p1.Event.Op),.d (.int .i64 p1.Event.Column),.d (.int .i64 p1.Event.Code),.d (.int .i64 p1.Event.Low),.d (.int .i64 p1.Event.High),.d (Ah 6 Ax p1.Event.Kids)],1)]) Ak fun _ _ ⟨v5_2,v8_2⟩ h=>?_
 simp only [HZ] at h
 refine AE h (fun h=>?_) fun h=>?_
 ·conv=>whnf
  refine z12 ?_
  refine Bd (f:=Ai) h fun x54 _ h=>?_
  refine Bd (f:=Ai) h fun x61 _ h=>?_
  refine Bd (f:=Ai) h fun x67 _ h=>?_
  refine AF h (fun _=>P4 _ _ _ _) fun x70 h=>?_
  refine AF h (fun _=>IT _ _ _ _) fun x71 h=>?_
  exact z21
 refine z5 h (fun p=>BB 92 [(2,.ptr 2 1 0),(3,.ptr 3 1 0),(5,.d (Ah 2 Ai p.1)),(9,.d (.int .i64 p.2))] [(2,.var [.d (Ah 2 Ae p0.Lists),.d (Ah 7 Ag p0.Columns)],1),(3,.var [.d (.str p1.Name),.d (.int .i64 p1.Kind),.d (.int .i64 p1.Filter.Op),.d (.int .i64 p1.Filter.Column),.d (.int .i64 p1.Filter.Code),.d (.int .i64 p1.Filter.Low),.d (.int .i64 p1.Filter.High),.d (Ah 6 Ax p1.Filter.Kids),.d (Ah 2 Ai p1.Dims),.d (.int .i64 p1.Measure),.d (Ah 1 (D.int .i64) p1.Terms),.d (.int .i64 p1.Event.Op),.d (.int .i64 p1.Event.Column),.d (.int .i64 p1.Event.Code),.d (.int .i64 p1.Event.Low),.d (.int .i64 p1.Event.High),.d (Ah 6 Ax p1.Event.Kids)],1)]) Ak fun _ _ ⟨v5_3,v9_3⟩ h=>?_
 simp only [Ia] at h
 refine AY h fun h=>?_
 refine AF h (fun _=>Wo _ _ _) fun x81 h=>?_
 refine AE h (fun h=>?_) fun h=>?_
 ·conv=>whnf
  refine z12 ?_
  refine AF h (fun _=>Ga _ _ _) fun x88 h=>?_
  refine AF h (fun _=>P4 _ _ _ _) fun x89 h=>?_
  refine AF h (fun _=>IT _ _ _ _) fun x90 h=>?_
  exact z21
 exact z21
theorem Tb (d:Nat) (p0:Af) (p1:Cn) (p2:(List An)) (R:Bool) (h:IW d p0 p1 p2 = some R):Aj Tryz.prog 74 [.d (Au p0),.d (B3 p1),.d (Ah 2 Ai p2)] (.d (.bool R)):=by
 refine BF Tryz.func74 ?_
 unfold IW at h
 refine AF h (fun _=>IB _ _ _ _) fun x9 h=>?_
 refine AY h fun h=>?_
 refine AF h (fun _=>P5 _ _ _) fun x14 h=>?_
 refine AY h fun h=>?_
 refine AF h (fun _=>UJ _ _ _ _) fun x20 h=>?_
 refine AF h (fun _=>Ug _ _ _) fun x22 h=>?_
 exact A5 h
theorem UK (d:Nat) (p0:Af) (p1:AZ) (p2:(List An)) (R:Int) (h:Jk d p0 p1 p2 = some R):Aj Tryz.prog 30 [.d (Au p0),.d (Fu p1),.d (Ah 2 Ai p2)] (.d (.int .i64 R)):=by
 refine BF Tryz.func30 ?_
 unfold Jk at h
 refine AF h (fun _=>PG _ _ _ _) fun x12 h=>?_
 refine Ap h fun h=>?_
 refine AF h (fun _=>P5 _ _ _) fun x18 h=>?_
 refine Ap h fun h=>?_
 refine z5 h (fun p=>BB 38 [(2,.d (Ah 2 Ai p2)),(3,.ptr 3 1 0),(4,.ptr 4 1 0),(9,.d (.int .i64 p))] [(3,.var [.d (Ah 2 Ae p0.Lists),.d (Ah 7 Ag p0.Columns)],1),(4,.var [.d (.str p1.Project),.d (.str p1.Source),.d (.int .i64 p1.Cohort.Op),.d (.int .i64 p1.Cohort.Column),.d (.int .i64 p1.Cohort.Code),.d (.int .i64 p1.Cohort.Low),.d (.int .i64 p1.Cohort.High),.d (Ah 6 Ax p1.Cohort.Kids),.d (.int .i64 p1.Sample.Part),.d (.int .i64 p1.Sample.Of),.d (.int .i64 p1.Sample.Seed),.d (Ah 17 B3 p1.Questions)],1)]) Ak fun _ _ v9_1 h=>?_
 simp only [Ib] at h
 refine AY h fun h=>?_
 conv=>whnf
 refine z12 ?_
 refine Bd (f:=B3) h fun x33 _ h=>?_
 refine AF h (fun _=>Tb _ _ _ _ _) fun x36 h=>?_
 exact z17
theorem Wk (p0:Int) (p1:(List Int)) (R:Int) (h:Ql p0 p1 = some R):Aj Tryz.prog 222 [.d (.int .i64 p0),.d (Ah 1 (D.int .i64) p1)] (.d (.int .i64 R)):=by
 refine BF Tryz.func222 ?_
 unfold Ql at h
 refine AE h (fun h=>?_) fun h=>?_
 ·refine Bd (f:=(D.int .i64)) h fun x9 _ h=>?_
  exact A5 h
 refine AE h (fun h=>?_) fun h=>?_
 ·conv=>whnf
  refine z12 ?_
  refine Bd (f:=(D.int .i64)) h fun x15 _ h=>?_
  refine Bd (f:=(D.int .i64)) h fun x18 _ h=>?_
  exact A5 h
 refine AY h fun h=>?_
 conv=>whnf
 refine z12 ?_
 refine Bd (f:=(D.int .i64)) h fun x24 _ h=>?_
 refine Bd (f:=(D.int .i64)) h fun x27 _ h=>?_
 exact A5 h
theorem UF (d:Nat) (self_ref05_eval:(Af→Ar→(List Int)→Option Int)) (ih_ref05_eval:∀ (p0:Af) (p1:Ar) (p2:(List Int)) (R:Int) ,self_ref05_eval p0 p1 p2 = some R→Aj Tryz.prog 141 [.d (Au p0),.d (Ac p1),.d (Ah 1 (D.int .i64) p2)] (.d (.int .i64 R))) (p0:Af) (p1:Ar) (p2:(List Int)) (R:Int) (h:Na d self_ref05_eval p0 p1 p2 = some R):Aj Tryz.prog 141 [.d (Au p0),.d (Ac p1),.d (Ah 1 (D.int .i64) p2)] (.d (.int .i64 R)):=by
 refine BF Tryz.func141 ?_
 unfold Na at h
 refine AE h (fun h=>?_) fun h=>?_
 ·conv=>whnf
  refine z12 ?_
  refine Bd (f:=(D.int .i64)) h fun x27 _ h=>?_
  refine AF h (fun _=>MU _ _ _ _) fun x29 h=>?_
  exact z16
 refine z5 h (fun p=>BB 52 [(2,.d (Ah 1 (D.int .i64) p2)),(3,.ptr 3 1 0),(4,.ptr 4 1 0),(7,.sl 7 1),(8,.d (.int .i64 p.1))] [(3,.var [.d (Ah 2 Ae p0.Lists),.d (Ah 7 Ag p0.Columns)],1),(4,.var [.d (.int .i64 p1.Op),.d (.int .i64 p1.Column),.d (.int .i64 p1.Code),.d (.int .i64 p1.Low),.d (.int .i64 p1.High),.d (Ah 6 Ax p1.Kids)],1),(7,.row 1 3 (List.map (D.int .i64) p.2),1)]) A4 fun _ _ ⟨v8_1,b7_1⟩ h=>?_
 simp only [PC] at h
 refine AE h (fun h=>?_) fun h=>?_
 ·conv=>whnf
  refine z12 ?_
  refine Bd (f:=Ax) h fun x42 _ h=>?_
  rw [Aa x42]
  conv=>whnf
  obtain ⟨x45,hx45,h⟩:=A8 h
  first | refine Av (ih_ref05_eval _ _ _ _ hx45) ?_ | (simp only [List.length_map]; refine Av (ih_ref05_eval _ _ _ _ hx45) ?_)
  conv=>whnf
  obtain ⟨hr,h⟩:=Dm h
  refine z6 ?_
  try rw [M1]
  exact z25
 refine AF h (fun _=>Wk _ _ _) fun x51 h=>?_
 exact z16
theorem PD:∀ d:Nat,(∀ (p0:Af) (p1:Ar) (p2:(List Int)) (R:Int) ,MZ d p0 p1 p2 = some R→Aj Tryz.prog 141 [.d (Au p0),.d (Ac p1),.d (Ah 1 (D.int .i64) p2)] (.d (.int .i64 R)))
 | 0=>by
  exact z26
 | d + 1=>by
  have ih:=PD d
  exact UF d _ ih
theorem Wj (d:Nat):∀ (p0:Af) (p1:Ar) (p2:(List Int)) (R:Int) ,MZ d p0 p1 p2 = some R→Aj Tryz.prog 141 [.d (Au p0),.d (Ac p1),.d (Ah 1 (D.int .i64) p2)] (.d (.int .i64 R)):=PD d
theorem Wh (d:Nat) (p0:Af) (p1:Ar) (p2:(List Int)) (R:Int) (h:K7 d p0 p1 p2 = some R):Aj Tryz.prog 75 [.d (Au p0),.d (Ac p1),.d (Ah 1 (D.int .i64) p2)] (.d (.int .i64 R)):=by
 refine BF Tryz.func75 ?_
 unfold K7 at h
 refine AF h (fun _=>G3 _ _ _ _) fun x9 h=>?_
 refine AE h (fun h=>?_) fun h=>?_
 ·exact z22
 refine AF h (fun _=>SD _ _ _) fun x14 h=>?_
 refine AE h (fun h=>?_) fun h=>?_
 ·exact z16
 refine AF h (fun _=>Wj _ _ _ _ _) fun x20 h=>?_
 exact z16
theorem UL (p0:J8) (R:Int) (h:O7 p0 = some R):Aj Tryz.prog 142 [.d (T9 p0)] (.d (.int .i64 R)):=by
 refine BF Tryz.func142 ?_
 unfold O7 at h
 exact DO h
theorem Wp (p0:Int) (p1:Int) (R:Int) (h:Ng p0 p1 = some R):Aj Tryz.prog 143 [.d (.int .i64 p0),.d (.int .i64 p1)] (.d (.int .i64 R)):=by
 refine BF Tryz.func143 ?_
 unfold Ng at h
 refine z5 h (fun p=>BB 29 [(5,.d (.int .u64 p.1)),(6,.d (.int .i64 p.2))] []) Ak fun _ _ ⟨v5_1,v6_1⟩ h=>?_
 simp only [PH] at h
 refine AE h (fun h=>?_) fun h=>?_
 ·conv=>whnf
  refine ⟨by omega,?_⟩
  exact z21
 conv=>whnf
 refine ⟨by omega,?_⟩
 exact A5 h
theorem Ys (p0:J8) (p1:Int) (R:Bool) (h:O8 p0 p1 = some R):Aj Tryz.prog 76 [.d (T9 p0),.d (.int .i64 p1)] (.d (.bool R)):=by
 refine BF Tryz.func76 ?_
 unfold O8 at h
 conv=>whnf
 refine z12 ?_
 refine AF h (fun _=>UL _ _) fun x6 h=>?_
 refine AY h fun h=>?_
 refine AF h (fun _=>Wp _ _ _) fun x20 h=>?_
 conv=>whnf
 obtain ⟨hr,h⟩:=Dm h
 refine z11 ?_
 exact A5 h
theorem Uj (d:Nat) (p0:B2) (p1:AZ) (R:(List Int)) (h:Ig d p0 p1 = some R):Aj Tryz.prog 31 [.d (I0 p0),.d (Fu p1)] (.d (Ah 1 (D.int .i64) R)):=by
 refine Dk [3] Tryz.func31 (by kernel_rfl) ?_
 unfold Ig at h
 refine FW {p:Unit // GF p0 d p1 = some R} (fun p=>BB 58 [(2,.ptr 2 1 0),(3,.ptr 3 1 0)] [(2,.var [.d (Ah 2 Ae p0.Schema.Lists),.d (Ah 7 Ag p0.Schema.Columns),.d (Ah 1 (Ah 1 (D.int .i64)) p0.Rows),.d (Ah 1 (D.int .i64) p0.Gone),.d (.int .i64 p0.Version)],1),(3,.var [.d (.str p1.Project),.d (.str p1.Source),.d (.int .i64 p1.Cohort.Op),.d (.int .i64 p1.Cohort.Column),.d (.int .i64 p1.Cohort.Code),.d (.int .i64 p1.Cohort.Low),.d (.int .i64 p1.Cohort.High),.d (Ah 6 Ax p1.Cohort.Kids),.d (.int .i64 p1.Sample.Part),.d (.int .i64 p1.Sample.Of),.d (.int .i64 p1.Sample.Seed),.d (Ah 17 B3 p1.Questions)],1)]) ?_ fun p=>?_
 ·refine AF h (fun _=>P6 _ _) fun x8 h=>?_
  refine AE h (fun h=>?_) fun h=>?_
  ·exact z18
  refine AF h (fun _=>PG _ _ _ _) fun x14 h=>?_
  refine AE h (fun h=>?_) fun h=>?_
  ·exact z30
  exact z51
 obtain ⟨_,h⟩:=p
 simp only [GF] at h
 refine z5 h (fun p=>BB 58 [(2,.ptr 2 1 0),(3,.ptr 3 1 0),(5,.sl 5 1),(6,.d (.int .i64 p.1))] [(2,.var [.d (Ah 2 Ae p0.Schema.Lists),.d (Ah 7 Ag p0.Schema.Columns),.d (Ah 1 (Ah 1 (D.int .i64)) p0.Rows),.d (Ah 1 (D.int .i64) p0.Gone),.d (.int .i64 p0.Version)],1),(3,.var [.d (.str p1.Project),.d (.str p1.Source),.d (.int .i64 p1.Cohort.Op),.d (.int .i64 p1.Cohort.Column),.d (.int .i64 p1.Cohort.Code),.d (.int .i64 p1.Cohort.Low),.d (.int .i64 p1.Cohort.High),.d (Ah 6 Ax p1.Cohort.Kids),.d (.int .i64 p1.Sample.Part),.d (.int .i64 p1.Sample.Of),.d (.int .i64 p1.Sample.Seed),.d (Ah 17 B3 p1.Questions)],1),(5,.row 1 3 (List.map (D.int .i64) p.2),1)]) Ak fun _ _ ⟨v6_1,b5_1⟩ h=>?_
 simp only [GE] at h
 refine AE h (fun h=>?_) fun h=>?_
 ·conv=>whnf
  refine z12 ?_
  refine Bd (f:=(Ah 1 (D.int .i64))) h fun x31 _ h=>?_
  refine AF h (fun _=>Wh _ _ _ _ _) fun x33 h=>?_
  refine AE h (fun h=>?_) fun h=>?_
  ·refine Bd (f:=(Ah 1 (D.int .i64))) h fun x41 _ h=>?_
   refine Bd (f:=(D.int .i64)) h fun x43 _ h=>?_
   refine AF h (fun _=>Ys _ _ _) fun x45 h=>?_
   refine AE h (fun h=>?_) fun h=>?_
   ·refine Bd (f:=(Ah 1 (D.int .i64))) h fun x51 _ h=>?_
    refine Bd (f:=(D.int .i64)) h fun x53 _ h=>?_
    conv=>whnf
    exact z28
   exact z21
  exact BI ⟨(_,(_,_)),h⟩ Ak
 exact z30
theorem UN (p0:Int) (p1:Int) (R:Bool) (h:Lg p0 p1 = some R):Aj Tryz.prog 77 [.d (.int .i64 p0),.d (.int .i64 p1)] (.d (.bool R)):=by
 refine BF Tryz.func77 ?_
 unfold Lg at h
 exact A5 h
theorem UM (p0:Int) (p1:Int) (p2:Int) (R:Int) (h:Jl p0 p1 p2 = some R):Aj Tryz.prog 78 [.d (.int .i64 p0),.d (.int .i64 p1),.d (.int .i64 p2)] (.d (.int .i64 R)):=by
 refine BF Tryz.func78 ?_
 unfold Jl at h
 refine Ap h fun h=>?_
 refine z5 h (fun p=>BB 54 [(7,.d (.int .u64 p.1)),(8,.d (.int .i64 p.2))] []) Ak fun _ _ ⟨v7_1,v8_1⟩ h=>?_
 simp only [Ic] at h
 refine AE h (fun h=>?_) fun h=>?_
 ·conv=>whnf
  refine ⟨by omega,?_⟩
  exact z21
 conv=>whnf
 refine ⟨by omega,?_⟩
 exact A5 h
end Go.Proofs.YtjgeigjjfcnojaaGreatDoor.P
