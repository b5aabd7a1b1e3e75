/- P3W7 -/
import Derived.Test.YtjgeigjjfcnojaaGreatDoorP3HW
set_option linter.unusedSimpArgs false
namespace Go.Proofs.YtjgeigjjfcnojaaGreatDoor.P
open Go.Abs Go.Proofs
set_option maxRecDepth 100000
set_option maxHeartbeats 40000000
set_option linter.unusedVariables false
theorem SE (p0:(List (List Int))) (p1:(List Int)) (R:(List (List Int))) (h:JW p0 p1 = some R):Aj Tryz.prog 26 [.d (Ah 1 (Ah 1 (D.int .i64)) p0),.d (Ah 1 (D.int .i64) p1)] (.d (Ah 1 (Ah 1 (D.int .i64)) R)):=by
 refine BF Tryz.func26 ?_
 unfold JW at h
 refine z5 h (fun p=>BB 56 [(0,.d (Ah 1 (Ah 1 (D.int .i64)) p0)),(1,.d (Ah 1 (D.int .i64) p1)),(5,.sl 5 1),(6,.d (.bool p.1)),(7,.d (.int .i64 p.2.1))] [(5,.row 1 30 (List.map (Ah 1 (D.int .i64)) p.2.2),1)]) Ak fun _ _ ⟨v6_1,v7_1,b5_1⟩ h=>?_
 simp only [JM] at h
 refine AE h (fun h=>?_) fun h=>?_
 ·conv=>whnf
  refine z12 ?_
  refine Bd (f:=(Ah 1 (D.int .i64))) h fun x16 _ h=>?_
  refine Bd (f:=(D.int .i64)) h fun x18 _ h=>?_
  refine Bd (f:=(D.int .i64)) h fun x21 _ h=>?_
  refine AE h (fun h=>?_) fun h=>?_
  ·exact z24
  conv=>whnf
  refine z12 ?_
  refine Bd (f:=(Ah 1 (D.int .i64))) h fun x26 _ h=>?_
  refine Bd (f:=(D.int .i64)) h fun x28 _ h=>?_
  refine Bd (f:=(D.int .i64)) h fun x31 _ h=>?_
  refine AE h (fun h=>?_) fun h=>?_
  ·conv=>whnf
   obtain ⟨hr,h⟩:=Dm h
   refine z6 ?_
   try rw [Xy]
   refine Bd (f:=(Ah 1 (D.int .i64))) h fun x45 hx45 h=>?_
   conv=>whnf
   obtain ⟨hr,h⟩:=Dm h
   refine z6 ?_
   try rw [Xy]
   exact z24
  refine Bd (f:=(Ah 1 (D.int .i64))) h fun x45 hx45 h=>?_
  conv=>whnf
  obtain ⟨hr,h⟩:=Dm h
  refine z6 ?_
  try rw [Xy]
  exact z24
 refine AE h (fun h=>?_) fun h=>?_
 ·conv=>whnf
  obtain ⟨hr,h⟩:=Dm h
  refine z6 ?_
  try rw [Xy]
  exact z30
 exact z30
theorem CF (p0:Aw) (p1:Int) (R:Int) (h:Dq p0 p1 = some R):Aj Tryz.prog 134 [.d (Ae p0),.d (.int .i64 p1)] (.d (.int .i64 R)):=by
 refine BF Tryz.func134 ?_
 unfold Dq at h
 refine z5 h (fun p=>BB 22 [(1,.d (.int .i64 p.1)),(2,.ptr 2 1 0),(5,.d (.int .i64 p.2))] [(2,.var [.d (.str p0.Name),.d (Ah 2 Bh p0.Codes)],1)]) Ak fun _ _ ⟨v1_1,v5_1⟩ h=>?_
 simp only [Oq] at h
 refine Bd (f:=Bh) h fun x9 _ h=>?_
 refine AY h fun h=>?_
 refine Bd (f:=Bh) h fun x16 _ h=>?_
 exact z21
theorem Gn (p0:ByteArray) (R:Bool) (h:D4 p0 = some R):Aj Tryz.prog 135 [.d (.str p0)] (.d (.bool R)):=by
 refine Dk [3,8] Tryz.func135 (by kernel_rfl) ?_
 unfold D4 at h
 refine FW {p:Unit // L2 p0 = some R} (fun p=>BB 70 [(0,.d (.str p0))] []) ?_ fun p=>?_
 ·refine Ap h fun h=>?_
  obtain ⟨hr,h⟩:=Dm h
  refine z11 ?_
  refine Ap h fun h=>?_
  obtain ⟨hr,h⟩:=Dm h
  refine z11 ?_
  exact z31
 obtain ⟨_,h⟩:=p
 simp only [L2] at h
 refine FW {p:Unit // L3 p0 = some R} (fun p=>BB 70 [(0,.d (.str p0))] []) ?_ fun p=>?_
 ·refine z5 h (fun p=>BB 70 [(0,.d (.str p0)),(3,.d (.int .i64 p))] []) Ak fun _ _ v3_1 h=>?_
  simp only [Py] at h
  refine AE h (fun h=>?_) fun h=>?_
  ·conv=>whnf
   obtain ⟨hr,h⟩:=Dm h
   refine z11 ?_
   refine AE h (fun h=>?_) fun h=>?_
   ·obtain ⟨hr,h⟩:=Dm h
    refine z11 ?_
    refine AE h (fun h=>?_) fun h=>?_
    ·exact z43
    obtain ⟨hr,h⟩:=Dm h
    refine z11 ?_
    refine AE h (fun h=>?_) fun h=>?_
    ·obtain ⟨hr,h⟩:=Dm h
     refine z11 ?_
     refine AE h (fun h=>?_) fun h=>?_
     ·exact z43
     exact z47
    exact z47
   obtain ⟨hr,h⟩:=Dm h
   refine z11 ?_
   refine AE h (fun h=>?_) fun h=>?_
   ·obtain ⟨hr,h⟩:=Dm h
    refine z11 ?_
    refine AE h (fun h=>?_) fun h=>?_
    ·exact z43
    exact z47
   exact z47
  exact z51
 obtain ⟨_,h⟩:=p
 simp only [L3] at h
 conv=>whnf
 refine MB h Cj (fun e37 h=>?_) (fun e37 h=>?_)
 ·conv=>whnf
  refine N6 Cj e37 ?_
  exact A5 h
 conv=>whnf
 refine MB h Cj (fun e38 h=>?_) (fun e38 h=>?_)
 ·conv=>whnf
  refine N6 Cj e38 ?_
  exact A5 h
 conv=>whnf
 refine MB h Cj (fun e39 h=>?_) (fun e39 h=>?_)
 ·conv=>whnf
  refine N6 Cj e39 ?_
  exact A5 h
 conv=>whnf
 refine MB h Cj (fun e40 h=>?_) (fun e40 h=>?_)
 ·conv=>whnf
  refine N6 Cj e40 ?_
  exact A5 h
 conv=>whnf
 refine MB h Cj (fun e41 h=>?_) (fun e41 h=>?_)
 ·conv=>whnf
  refine N6 Cj e41 ?_
  exact A5 h
 conv=>whnf
 refine MB h Cj (fun e42 h=>?_) (fun e42 h=>?_)
 ·conv=>whnf
  refine N6 Cj e42 ?_
  exact A5 h
 conv=>whnf
 refine MB h Cj (fun e43 h=>?_) (fun e43 h=>?_)
 ·conv=>whnf
  refine N6 Cj e43 ?_
  exact A5 h
 conv=>whnf
 refine MB h Cj (fun e44 h=>?_) (fun e44 h=>?_)
 ·conv=>whnf
  refine N6 Cj e44 ?_
  exact A5 h
 conv=>whnf
 refine MB h Cj (fun e45 h=>?_) (fun e45 h=>?_)
 ·conv=>whnf
  refine N6 Cj e45 ?_
  exact A5 h
 conv=>whnf
 refine MB h Cj (fun e46 h=>?_) (fun e46 h=>?_)
 ·conv=>whnf
  refine N6 Cj e46 ?_
  exact A5 h
 exact DO h
theorem Wg (p0:Aw) (p1:Int) (R:Bool) (h:Qj p0 p1 = some R):Aj Tryz.prog 210 [.d (Ae p0),.d (.int .i64 p1)] (.d (.bool R)):=by
 refine BF Tryz.func210 ?_
 unfold Qj at h
 refine z5 h (fun p=>BB 21 [(1,.d (.int .i64 p1)),(2,.ptr 2 1 0),(5,.d (.int .i64 p))] [(2,.var [.d (.str p0.Name),.d (Ah 2 Bh p0.Codes)],1)]) Ak fun _ _ v5_1 h=>?_
 simp only [Pz] at h
 refine AY h fun h=>?_
 refine Bd (f:=Bh) h fun x16 _ h=>?_
 exact z17
theorem G0 (p0:Aw) (R:Int) (h:Eg p0 = some R):Aj Tryz.prog 132 [.d (Ae p0)] (.d (.int .i64 R)):=by
 refine Dk [20] Tryz.func132 (by kernel_rfl) ?_
 unfold Eg at h
 refine AF h (fun _=>Gn _ _) fun x10 h=>?_
 refine Ap h fun h=>?_
 refine Ap h fun h=>?_
 refine Ap h fun h=>?_
 refine FW {p:Unit // K1 p0 = some R} (fun p=>BB 100 [(1,.ptr 1 1 0)] [(1,.var [.d (.str p0.Name),.d (Ah 2 Bh p0.Codes)],1)]) ?_ fun p=>?_
 ·refine z5 h (fun p=>BB 100 [(1,.ptr 1 1 0),(3,.d (.int .i64 p))] [(1,.var [.d (.str p0.Name),.d (Ah 2 Bh p0.Codes)],1)]) Ak fun _ _ v3_1 h=>?_
  simp only [Ol] at h
  refine AE h (fun h=>?_) fun h=>?_
  ·refine Bd (f:=Bh) h fun x30 _ h=>?_
   refine AF h (fun _=>Gn _ _) fun x33 h=>?_
   refine Ap h fun h=>?_
   refine z5 h (fun p=>BB 100 [(1,.ptr 1 1 0),(3,.d (.int .i64 v3_1)),(4,.d (.int .i64 p))] [(1,.var [.d (.str p0.Name),.d (Ah 2 Bh p0.Codes)],1)]) Ak fun _ _ v4_2 h=>?_
   simp only [Om] at h
   refine AE h (fun h=>?_) fun h=>?_
   ·conv=>whnf
    refine z12 ?_
    refine Bd (f:=Bh) h fun x43 _ h=>?_
    refine Bd (f:=Bh) h fun x49 _ h=>?_
    exact z17
   conv=>whnf
   try simp only [HM] at h
   refine Bd (f:=Bh) h fun x56 _ h=>?_
   exact z17
  conv=>whnf
  try simp only [HM] at h
  exact ⟨⟨(),h⟩,Ak⟩
 obtain ⟨_,h⟩:=p
 simp only [K1] at h
 refine z5 h (fun p=>BB 100 [(1,.ptr 1 1 0),(6,.d (.int .i64 p.1)),(7,.d (.int .i64 p.2))] [(1,.var [.d (.str p0.Name),.d (Ah 2 Bh p0.Codes)],1)]) Ak fun _ _ ⟨v6_3,v7_3⟩ h=>?_
 simp only [On] at h
 refine AE h (fun h=>?_) fun h=>?_
 ·refine AF h (fun _=>Wg _ _ _) fun x87 h=>?_
  refine AE h (fun h=>?_) fun h=>?_
  ·refine AE h (fun h=>?_) fun h=>?_
   ·refine AF h (fun _=>CF _ _ _) fun x93 h=>?_
    refine Ap h fun h=>?_
    conv=>whnf
    obtain ⟨x99,hx99,h⟩:=A8 h
    refine Av (CF _ _ _ hx99) ?_
    exact z21
   obtain ⟨x99,hx99,h⟩:=A8 h
   refine Av (CF _ _ _ hx99) ?_
   exact z21
  exact z21
 conv=>whnf
 try simp only [HM] at h
 exact A5 h
theorem K2 (p0:Aw) (R:Int) (h:Eh p0 = some R):Aj Tryz.prog 70 [.d (Ae p0)] (.d (.int .i64 R)):=by
 refine BF Tryz.func70 ?_
 unfold Eh at h
 refine AF h (fun _=>G0 _ _) fun x4 h=>?_
 refine Ap h fun h=>?_
 conv=>whnf
 obtain ⟨x11,hx11,h⟩:=A8 h
 first | refine Av (CF _ _ _ hx11) ?_ | (simp only [List.length_map]; refine Av (CF _ _ _ hx11) ?_)
 exact A5 h
theorem Yq (p0:Aw) (p1:Int) (R:(List Int)) (h:Mo p0 p1 = some R):Aj Tryz.prog 209 [.d (Ae p0),.d (.int .i64 p1)] (.d (Ah 1 (D.int .i64) R)):=by
 refine BF Tryz.func209 ?_
 unfold Mo at h
 refine AF h (fun _=>G0 _ _) fun x8 h=>?_
 refine AE h (fun h=>?_) fun h=>?_
 ·exact z30
 refine z5 h (fun p=>BB 27 [(1,.d (.int .i64 p1)),(2,.ptr 2 1 0),(5,.sl 5 1),(6,.d (.int .i64 p.1))] [(2,.var [.d (.str p0.Name),.d (Ah 2 Bh p0.Codes)],1),(5,.row 1 3 (List.map (D.int .i64) p.2),1)]) Ak fun _ _ ⟨v6_1,b5_1⟩ h=>?_
 simp only [SA] at h
 refine AE h (fun h=>?_) fun h=>?_
 ·refine AF h (fun _=>CF _ _ _) fun x19 h=>?_
  refine AE h (fun h=>?_) fun h=>?_
  ·conv=>whnf
   exact z28
  exact z21
 exact z30
theorem K4 (p0:Af) (p1:Int) (R:(List Int)) (h:Fe p0 p1 = some R):Aj Tryz.prog 131 [.d (Au p0),.d (.int .i64 p1)] (.d (Ah 1 (D.int .i64) R)):=by
 refine BF Tryz.func131 ?_
 unfold Fe at h
 conv=>whnf
 refine z12 ?_
 refine Bd (f:=Ag) h fun x11 _ h=>?_
 refine Bd (f:=Ae) h fun x14 _ h=>?_
 conv=>whnf
 refine z12 ?_
 refine AF h (fun _=>K2 _ _) fun x18 h=>?_
 refine AF h (fun _=>Yq _ _ _) fun x20 h=>?_
 exact A5 h
theorem CB (p0:Int) (p1:Int) (p2:Int) (R:Bool) (h:D6 p0 p1 p2 = some R):Aj Tryz.prog 79 [.d (.int .i64 p0),.d (.int .i64 p1),.d (.int .i64 p2)] (.d (.bool R)):=by
 refine BF Tryz.func79 ?_
 unfold D6 at h
 exact A5 h
theorem SZ (p0:Az) (R:Int) (h:G2 p0 = some R):Aj Tryz.prog 211 [.d (Ag p0)] (.d (.int .i64 R)):=by
 refine Dk [3] Tryz.func211 (by kernel_rfl) ?_
 unfold G2 at h
 refine FW {p:Unit // Gp p0 = some R} (fun p=>BB 79 [(1,.ptr 1 1 0)] [(1,.var [.d (.str p0.Name),.d (.int .i64 p0.Kind),.d (.int .i64 p0.List_),.d (.int .i64 p0.Low),.d (.int .i64 p0.High),.d (Ah 1 (D.int .i64) p0.Widths),.d (.bool p0.Optional)],1)]) ?_ fun p=>?_
 ·refine AF h (fun _=>CB _ _ _ _) fun x7 h=>?_
  refine Ap h fun h=>?_
  refine AF h (fun _=>CB _ _ _ _) fun x12 h=>?_
  exact z31
 obtain ⟨_,h⟩:=p
 simp only [Gp] at h
 refine Ap h fun h=>?_
 refine z5 h (fun p=>BB 79 [(1,.ptr 1 1 0),(3,.d (.int .i64 p))] [(1,.var [.d (.str p0.Name),.d (.int .i64 p0.Kind),.d (.int .i64 p0.List_),.d (.int .i64 p0.Low),.d (.int .i64 p0.High),.d (Ah 1 (D.int .i64) p0.Widths),.d (.bool p0.Optional)],1)]) Ak fun _ _ v3_1 h=>?_
 simp only [Mt] at h
 refine AY h fun h=>?_
 refine Bd (f:=(D.int .i64)) h fun x42 _ h=>?_
 refine Ap h fun h=>?_
 refine AE h (fun h=>?_) fun h=>?_
 ·refine Bd (f:=(D.int .i64)) h fun x59 _ h=>?_
  refine Ap h fun h=>?_
  refine Bd (f:=(D.int .i64)) h fun x72 _ h=>?_
  conv=>whnf
  exact z47
 exact z43
theorem Ue (p0:Af) (p1:Int) (R:Int) (h:HU p0 p1 = some R):Aj Tryz.prog 133 [.d (Au p0),.d (.int .i64 p1)] (.d (.int .i64 R)):=by
 refine Dk [9,13] Tryz.func133 (by kernel_rfl) ?_
 unfold HU at h
 refine Bd (f:=Ag) h fun x11 _ h=>?_
 refine AF h (fun _=>Gn _ _) fun x15 h=>?_
 refine Ap h fun h=>?_
 refine FW {p:Unit // GD x11 p1 p0 = some R} (fun p=>BB 98 [(1,.d (.int .i64 p1)),(2,.ptr 2 1 0),(5,.ptr 5 1 0)] [(2,.var [.d (Ah 2 Ae p0.Lists),.d (Ah 7 Ag p0.Columns)],1),(5,.var [.d (.str x11.Name),.d (.int .i64 x11.Kind),.d (.int .i64 x11.List_),.d (.int .i64 x11.Low),.d (.int .i64 x11.High),.d (Ah 1 (D.int .i64) x11.Widths),.d (.bool x11.Optional)],1)]) ?_ fun p=>?_
 ·refine z5 h (fun p=>BB 98 [(1,.d (.int .i64 p1)),(2,.ptr 2 1 0),(5,.ptr 5 1 0),(6,.d (.int .i64 p))] [(2,.var [.d (Ah 2 Ae p0.Lists),.d (Ah 7 Ag p0.Columns)],1),(5,.var [.d (.str x11.Name),.d (.int .i64 x11.Kind),.d (.int .i64 x11.List_),.d (.int .i64 x11.Low),.d (.int .i64 x11.High),.d (Ah 1 (D.int .i64) x11.Widths),.d (.bool x11.Optional)],1)]) Ak fun _ _ v6_1 h=>?_
  simp only [GC] at h
  refine AE h (fun h=>?_) fun h=>?_
  ·conv=>whnf
   refine z12 ?_
   refine Bd (f:=Ag) h fun x25 _ h=>?_
   exact z17
  exact z51
 obtain ⟨_,h⟩:=p
 simp only [GD] at h
 refine AF h (fun _=>CB _ _ _ _) fun x33 h=>?_
 refine Ap h fun h=>?_
 refine FW {p:Unit // DT x11 = some R} (fun p=>BB 98 [(5,.ptr 5 1 0)] [(5,.var [.d (.str x11.Name),.d (.int .i64 x11.Kind),.d (.int .i64 x11.List_),.d (.int .i64 x11.Low),.d (.int .i64 x11.High),.d (Ah 1 (D.int .i64) x11.Widths),.d (.bool x11.Optional)],1)]) ?_ fun p=>?_
 ·refine AE h (fun h=>?_) fun h=>?_
  ·obtain ⟨x54,hx54,h⟩:=A8 h
   first | refine Av (CB _ _ _ _ hx54) ?_ | (simp only [List.length_map]; refine Av (CB _ _ _ _ hx54) ?_)
   exact z31
  exact ⟨⟨(),h⟩,Ak⟩
 obtain ⟨_,h⟩:=p
 simp only [DT] at h
 refine AE h (fun h=>?_) fun h=>?_
 ·refine AF h (fun _=>SZ _ _) fun x61 h=>?_
  refine Ap h fun h=>?_
  exact DO h
 exact DO h
theorem Dr (p0:Af) (R:Int) (h:Cz p0 = some R):Aj Tryz.prog 69 [.d (Au p0)] (.d (.int .i64 R)):=by
 refine Dk [14] Tryz.func69 (by kernel_rfl) ?_
 unfold Cz at h
 refine Ap h fun h=>?_
 refine FW {p:Unit // HS p0 = some R} (fun p=>BB 77 [(1,.ptr 1 1 0)] [(1,.var [.d (Ah 2 Ae p0.Lists),.d (Ah 7 Ag p0.Columns)],1)]) ?_ fun p=>?_
 ·refine z5 h (fun p=>BB 77 [(1,.ptr 1 1 0),(3,.d (.int .i64 p))] [(1,.var [.d (Ah 2 Ae p0.Lists),.d (Ah 7 Ag p0.Columns)],1)]) Ak fun _ _ v3_1 h=>?_
  simp only [HP] at h
  refine AE h (fun h=>?_) fun h=>?_
  ·refine Bd (f:=Ae) h fun x28 _ h=>?_
   refine AF h (fun _=>G0 _ _) fun x30 h=>?_
   refine Ap h fun h=>?_
   refine z5 h (fun p=>BB 77 [(1,.ptr 1 1 0),(3,.d (.int .i64 v3_1)),(5,.d (.int .i64 p))] [(1,.var [.d (Ah 2 Ae p0.Lists),.d (Ah 7 Ag p0.Columns)],1)]) Ak fun _ _ v5_2 h=>?_
   simp only [HQ] at h
   refine AE h (fun h=>?_) fun h=>?_
   ·conv=>whnf
    refine z12 ?_
    refine Bd (f:=Ae) h fun x42 _ h=>?_
    refine Bd (f:=Ae) h fun x48 _ h=>?_
    exact z17
   conv=>whnf
   try simp only [ref02_Check_k1] at h
   exact z43
  conv=>whnf
  try simp only [ref02_Check_k1] at h
  exact ⟨⟨(),h⟩,Ak⟩
 obtain ⟨_,h⟩:=p
 simp only [HS] at h
 refine Ap h fun h=>?_
 refine Bd (f:=Ag) h fun x59 _ h=>?_
 refine Ap h fun h=>?_
 refine z5 h (fun p=>BB 77 [(1,.ptr 1 1 0),(6,.d (.int .i64 p))] [(1,.var [.d (Ah 2 Ae p0.Lists),.d (Ah 7 Ag p0.Columns)],1)]) Ak fun _ _ v6_3 h=>?_
 simp only [HR] at h
 refine AE h (fun h=>?_) fun h=>?_
 ·refine AF h (fun _=>Ue _ _ _) fun x73 h=>?_
  exact z17
 conv=>whnf
 try simp only [ref02_Check_k1] at h
 exact A5 h
theorem Ga (p0:Af) (p1:Int) (R:Int) (h:CG p0 p1 = some R):Aj Tryz.prog 28 [.d (Au p0),.d (.int .i64 p1)] (.d (.int .i64 R)):=by
 refine BF Tryz.func28 ?_
 unfold CG at h
 refine AF h (fun _=>Dr _ _) fun x7 h=>?_
 refine Ap h fun h=>?_
 refine Bd (f:=Ag) h fun x23 _ h=>?_
 refine AY h fun h=>?_
 refine Bd (f:=Ae) h fun x32 _ h=>?_
 refine AF h (fun _=>K2 _ _) fun x34 h=>?_
 exact A5 h
theorem MS (p0:B2) (p1:Int) (R:Int) (h:GZ p0 p1 = some R):Aj Tryz.prog 32 [.d (I0 p0),.d (.int .i64 p1)] (.d (.int .i64 R)):=by
 refine BF Tryz.func32 ?_
 unfold GZ at h
 refine z5 h (fun p=>BB 32 [(1,.d (.int .i64 p1)),(2,.ptr 2 1 0),(5,.d (.int .i64 p))] [(2,.var [.d (Ah 2 Ae p0.Schema.Lists),.d (Ah 7 Ag p0.Schema.Columns),.d (Ah 1 (Ah 1 (D.int .i64)) p0.Rows),.d (Ah 1 (D.int .i64) p0.Gone),.d (.int .i64 p0.Version)],1)]) Ak fun _ _ v5_1 h=>?_
 simp only [L5] at h
 refine AY h fun h=>?_
 refine Bd (f:=(Ah 1 (D.int .i64))) h fun x16 _ h=>?_
 refine AE h (fun h=>?_) fun h=>?_
 ·refine Bd (f:=(Ah 1 (D.int .i64))) h fun x24 _ h=>?_
  refine Bd (f:=(D.int .i64)) h fun x26 _ h=>?_
  exact z17
 exact z43
theorem L1 (p0:Aw) (p1:Int) (R:Int) (h:FY p0 p1 = some R):Aj Tryz.prog 144 [.d (Ae p0),.d (.int .i64 p1)] (.d (.int .i64 R)):=by
 refine BF Tryz.func144 ?_
 unfold FY at h
 refine AF h (fun _=>G0 _ _) fun x6 h=>?_
 refine Ap h fun h=>?_
 refine AF h (fun _=>CF _ _ _) fun x21 h=>?_
 exact A5 h
theorem P0 (p0:Af) (p1:Int) (p2:Int) (R:Bool) (h:Hh p0 p1 p2 = some R):Aj Tryz.prog 80 [.d (Au p0),.d (.int .i64 p1),.d (.int .i64 p2)] (.d (.bool R)):=by
 refine BF Tryz.func80 ?_
 unfold Hh at h
 refine Bd (f:=Ag) h fun x12 _ h=>?_
 refine AE h (fun h=>?_) fun h=>?_
 ·refine AF h (fun _=>CB _ _ _ _) fun x19 h=>?_
  exact A5 h
 refine AE h (fun h=>?_) fun h=>?_
 ·refine Bd (f:=Ae) h fun x26 _ h=>?_
  conv=>whnf
  refine z12 ?_
  conv=>whnf
  obtain ⟨x33,hx33,h⟩:=A8 h
  first | refine Av (CB _ _ _ _ hx33) ?_ | (simp only [List.length_map]; refine Av (CB _ _ _ _ hx33) ?_)
  refine AY h fun h=>?_
  refine AF h (fun _=>L1 _ _ _) fun x37 h=>?_
  refine AF h (fun _=>K2 _ _) fun x39 h=>?_
  exact A5 h
 refine Ap h fun h=>?_
 refine AF h (fun _=>CB _ _ _ _) fun x55 h=>?_
 exact A5 h
theorem SD (p0:Af) (p1:(List Int)) (R:Int) (h:IA p0 p1 = some R):Aj Tryz.prog 71 [.d (Au p0),.d (Ah 1 (D.int .i64) p1)] (.d (.int .i64 R)):=by
 refine BF Tryz.func71 ?_
 unfold IA at h
 refine AF h (fun _=>Dr _ _) fun x8 h=>?_
 refine Ap h fun h=>?_
 refine Ap h fun h=>?_
 refine z5 h (fun p=>BB 32 [(1,.d (Ah 1 (D.int .i64) p1)),(2,.ptr 2 1 0),(6,.d (.int .i64 p))] [(2,.var [.d (Ah 2 Ae p0.Lists),.d (Ah 7 Ag p0.Columns)],1)]) Ak fun _ _ v6_1 h=>?_
 simp only [JL] at h
 refine AY h fun h=>?_
 conv=>whnf
 refine z12 ?_
 refine Bd (f:=(D.int .i64)) h fun x28 _ h=>?_
 refine AF h (fun _=>P0 _ _ _ _) fun x30 h=>?_
 exact z17
theorem P6 (p0:B2) (R:Bool) (h:Hl p0 = some R):Aj Tryz.prog 29 [.d (I0 p0)] (.d (.bool R)):=by
 refine Dk [8] Tryz.func29 (by kernel_rfl) ?_
 unfold Hl at h
 refine AF h (fun _=>Dr _ _) fun x7 h=>?_
 refine Ap h fun h=>?_
 refine FW {p:Unit // HW p0 = some R} (fun p=>BB 118 [(1,.ptr 1 1 0)] [(1,.var [.d (Ah 2 Ae p0.Schema.Lists),.d (Ah 7 Ag p0.Schema.Columns),.d (Ah 1 (Ah 1 (D.int .i64)) p0.Rows),.d (Ah 1 (D.int .i64) p0.Gone),.d (.int .i64 p0.Version)],1)]) ?_ fun p=>?_
 ·refine z5 h (fun p=>BB 118 [(1,.ptr 1 1 0),(3,.d (.int .i64 p))] [(1,.var [.d (Ah 2 Ae p0.Schema.Lists),.d (Ah 7 Ag p0.Schema.Columns),.d (Ah 1 (Ah 1 (D.int .i64)) p0.Rows),.d (Ah 1 (D.int .i64) p0.Gone),.d (.int .i64 p0.Version)],1)]) Ak fun _ _ v3_1 h=>?_
  simp only [HV] at h
  refine AE h (fun h=>?_) fun h=>?_
  ·conv=>whnf
   refine z12 ?_
   refine Bd (f:=(Ah 1 (D.int .i64))) h fun x43 _ h=>?_
   refine AF h (fun _=>SD _ _ _) fun x45 h=>?_
   refine Ap h fun h=>?_
   refine AE h (fun h=>?_) fun h=>?_
   ·refine Bd (f:=(Ah 1 (D.int .i64))) h fun x54 _ h=>?_
    refine Bd (f:=(D.int .i64)) h fun x56 _ h=>?_
    refine Bd (f:=(Ah 1 (D.int .i64))) h fun x62 _ h=>?_
    refine Bd (f:=(D.int .i64)) h fun x64 _ h=>?_
    exact z17
   exact z43
  exact z51
 obtain ⟨_,h⟩:=p
 simp only [HW] at h
 refine z5 h (fun p=>BB 118 [(1,.ptr 1 1 0),(4,.d (.int .i64 p))] [(1,.var [.d (Ah 2 Ae p0.Schema.Lists),.d (Ah 7 Ag p0.Schema.Columns),.d (Ah 1 (Ah 1 (D.int .i64)) p0.Rows),.d (Ah 1 (D.int .i64) p0.Gone),.d (.int .i64 p0.Version)],1)]) Ak fun _ _ v4_2 h=>?_
 simp only [K5] at h
 refine AY h fun h=>?_
 conv=>whnf
 refine z12 ?_
 refine Bd (f:=(D.int .i64)) h fun x79 _ h=>?_
 refine Ap h fun h=>?_
 refine Bd (f:=(D.int .i64)) h fun x86 _ h=>?_
 refine Ap h fun h=>?_
 refine AE h (fun h=>?_) fun h=>?_
 ·refine Bd (f:=(D.int .i64)) h fun x97 _ h=>?_
  refine Bd (f:=(D.int .i64)) h fun x103 _ h=>?_
  refine Ap h fun h=>?_
  refine Bd (f:=(D.int .i64)) h fun x113 hx113 h=>?_
  conv=>whnf
  obtain ⟨x115,hx115,h⟩:=A8 h
  refine Av (MS _ _ _ hx115) ?_
  exact z17
 refine Bd (f:=(D.int .i64)) h fun x113 hx113 h=>?_
 conv=>whnf
 obtain ⟨x115,hx115,h⟩:=A8 h
 refine Av (MS _ _ _ hx115) ?_
 exact z17
theorem Uh (d:Nat) (self_ref05_count:(Ar→Int→Option Int)) (ih_ref05_count:∀ (p0:Ar) (p1:Int) (R:Int) ,self_ref05_count p0 p1 = some R→Aj Tryz.prog 212 [.d (Ac p0),.d (.int .i64 p1)] (.d (.int .i64 R))) (p0:Ar) (p1:Int) (R:Int) (h:L8 d self_ref05_count p0 p1 = some R):Aj Tryz.prog 212 [.d (Ac p0),.d (.int .i64 p1)] (.d (.int .i64 R)):=by
 refine BF Tryz.func212 ?_
 unfold L8 at h
 refine z5 h (fun p=>BB 31 [(1,.d (.int .i64 p1)),(2,.ptr 2 1 0),(5,.d (.int .i64 p.1)),(6,.d (.int .i64 p.2))] [(2,.var [.d (.int .i64 p0.Op),.d (.int .i64 p0.Column),.d (.int .i64 p0.Code),.d (.int .i64 p0.Low),.d (.int .i64 p0.High),.d (Ah 6 Ax p0.Kids)],1)]) A4 fun _ _ ⟨v5_1,v6_1⟩ h=>?_
 simp only [Oz] at h
 refine AE h (fun h=>?_) fun h=>?_
 ·refine Bd (f:=Ax) h fun x23 _ h=>?_
  rw [Aa x23]
  conv=>whnf
  obtain ⟨x28,hx28,h⟩:=A8 h
  first | refine Av (ih_ref05_count _ _ _ hx28) ?_ | (simp only [List.length_map]; refine Av (ih_ref05_count _ _ _ hx28) ?_)
  exact z25
 exact z16
theorem O0:∀ d:Nat,(∀ (p0:Ar) (p1:Int) (R:Int) ,Lc d p0 p1 = some R→Aj Tryz.prog 212 [.d (Ac p0),.d (.int .i64 p1)] (.d (.int .i64 R)))
 | 0=>by
  exact z26
 | d + 1=>by
  have ih:=O0 d
  exact Uh d _ ih
theorem UD (d:Nat):∀ (p0:Ar) (p1:Int) (R:Int) ,Lc d p0 p1 = some R→Aj Tryz.prog 212 [.d (Ac p0),.d (.int .i64 p1)] (.d (.int .i64 R)):=O0 d
theorem Ui (d:Nat) (self_ref05_depth:(Ar→Option Int)) (ih_ref05_depth:∀ (p0:Ar) (R:Int) ,self_ref05_depth p0 = some R→Aj Tryz.prog 213 [.d (Ac p0)] (.d (.int .i64 R))) (p0:Ar) (R:Int) (h:LA d self_ref05_depth p0 = some R):Aj Tryz.prog 213 [.d (Ac p0)] (.d (.int .i64 R)):=by
 refine BF Tryz.func213 ?_
 unfold LA at h
 refine z5 h (fun p=>BB 22 [(1,.ptr 1 1 0),(3,.d (.int .i64 p.1)),(4,.d (.int .i64 p.2))] [(1,.var [.d (.int .i64 p0.Op),.d (.int .i64 p0.Column),.d (.int .i64 p0.Code),.d (.int .i64 p0.Low),.d (.int .i64 p0.High),.d (Ah 6 Ax p0.Kids)],1)]) A4 fun _ _ ⟨v3_1,v4_1⟩ h=>?_
 simp only [O1] at h
 refine AE h (fun h=>?_) fun h=>?_
 ·refine Bd (f:=Ax) h fun x16 _ h=>?_
  rw [Aa x16]
  conv=>whnf
  obtain ⟨x18,hx18,h⟩:=A8 h
  first | refine Av (ih_ref05_depth _ _ hx18) ?_ | (simp only [List.length_map]; refine Av (ih_ref05_depth _ _ hx18) ?_)
  exact z25
 exact z16
theorem O2:∀ d:Nat,(∀ (p0:Ar) (R:Int) ,Ld d p0 = some R→Aj Tryz.prog 213 [.d (Ac p0)] (.d (.int .i64 R)))
 | 0=>by
  exact z26
 | d + 1=>by
  have ih:=O2 d
  exact Ui d _ ih
theorem UE (d:Nat):∀ (p0:Ar) (R:Int) ,Ld d p0 = some R→Aj Tryz.prog 213 [.d (Ac p0)] (.d (.int .i64 R)):=O2 d
theorem Qk (p0:Af) (p1:Int) (p2:Int) (R:Bool) (h:O3 p0 p1 p2 = some R):Aj Tryz.prog 267 [.d (Au p0),.d (.int .i64 p1),.d (.int .i64 p2)] (.d (.bool R)):=by
 refine BF Tryz.func267 ?_
 unfold O3 at h
 refine AY h fun h=>?_
 refine Bd (f:=Ag) h fun x20 _ h=>?_
 exact A5 h
end Go.Proofs.YtjgeigjjfcnojaaGreatDoor.P
