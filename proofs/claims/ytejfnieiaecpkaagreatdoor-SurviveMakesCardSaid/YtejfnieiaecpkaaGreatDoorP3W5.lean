/- P3W5 -/
import Derived.Test.YtejfnieiaecpkaaGreatDoorP3HW
set_option linter.unusedSimpArgs false
namespace Go.Proofs.YtejfnieiaecpkaaGreatDoor.P
open Go.Abs Go.Proofs
set_option maxRecDepth 100000
set_option maxHeartbeats 40000000
set_option linter.unusedVariables false
theorem TB (p0:(List (List Int))) (p1:(List Int)) (R:(List (List Int))) (h:Lv p0 p1 = some R):Aj Tryz.prog 68 [.d (Al 1 (Al 1 (D.int .i64)) p0),.d (Al 1 (D.int .i64) p1)] (.d (Al 1 (Al 1 (D.int .i64)) R)):=by
 refine Ch Tryz.func68 ?_
 unfold Lv at h
 refine z3 h (fun p=>B8 56 [(0,.d (Al 1 (Al 1 (D.int .i64)) p0)),(1,.d (Al 1 (D.int .i64) p1)),(5,.sl 5 1),(6,.d (.bool p.1)),(7,.d (.int .i64 p.2.1))] [(5,.row 1 30 (List.map (Al 1 (D.int .i64)) p.2.2),1)]) Ah fun _ _ ⟨v6_1,v7_1,b5_1⟩ h=>?_
 simp only [Lj] at h
 refine AW h (fun h=>?_) fun h=>?_
 ·conv=>whnf
  refine z11 ?_
  refine AO (f:=(Al 1 (D.int .i64))) h fun x16 _ h=>?_
  refine AO (f:=(D.int .i64)) h fun x18 _ h=>?_
  refine AO (f:=(D.int .i64)) h fun x21 _ h=>?_
  refine AW h (fun h=>?_) fun h=>?_
  ·exact z18
  conv=>whnf
  refine z11 ?_
  refine AO (f:=(Al 1 (D.int .i64))) h fun x26 _ h=>?_
  refine AO (f:=(D.int .i64)) h fun x28 _ h=>?_
  refine AO (f:=(D.int .i64)) h fun x31 _ h=>?_
  refine AW h (fun h=>?_) fun h=>?_
  ·conv=>whnf
   obtain ⟨hr,h⟩:=Eg h
   refine z4 ?_
   try rw [Z2]
   refine AO (f:=(Al 1 (D.int .i64))) h fun x45 hx45 h=>?_
   conv=>whnf
   obtain ⟨hr,h⟩:=Eg h
   refine z4 ?_
   try rw [Z2]
   exact z18
  refine AO (f:=(Al 1 (D.int .i64))) h fun x45 hx45 h=>?_
  conv=>whnf
  obtain ⟨hr,h⟩:=Eg h
  refine z4 ?_
  try rw [Z2]
  exact z18
 refine AW h (fun h=>?_) fun h=>?_
 ·conv=>whnf
  obtain ⟨hr,h⟩:=Eg h
  refine z4 ?_
  try rw [Z2]
  exact z31
 exact z31
theorem D9 (p0:Am) (p1:Int) (R:Int) (h:Et p0 p1 = some R):Aj Tryz.prog 79 [.d (Ac p0),.d (.int .i64 p1)] (.d (.int .i64 R)):=by
 refine Ch Tryz.func79 ?_
 unfold Et at h
 refine z3 h (fun p=>B8 22 [(1,.d (.int .i64 p.1)),(2,.ptr 2 1 0),(5,.d (.int .i64 p.2))] [(2,.var [.d (.str p0.Name),.d (Al 2 Br p0.Codes)],1)]) Ah fun _ _ ⟨v1_1,v5_1⟩ h=>?_
 simp only [OX] at h
 refine AO (f:=Br) h fun x9 _ h=>?_
 refine Bj h fun h=>?_
 refine AO (f:=Br) h fun x16 _ h=>?_
 exact z15
theorem EW (p0:ByteArray) (R:Bool) (h:BW p0 = some R):Aj Tryz.prog 91 [.d (.str p0)] (.d (.bool R)):=by
 refine Dt [3,8] Tryz.func91 (by kernel_rfl) ?_
 unfold BW at h
 refine F0 {p:Unit // MM p0 = some R} (fun p=>B8 70 [(0,.d (.str p0))] []) ?_ fun p=>?_
 ·refine An h fun h=>?_
  obtain ⟨hr,h⟩:=Eg h
  refine z10 ?_
  exact z53
 obtain ⟨_,h⟩:=p
 simp only [MM] at h
 refine F0 {p:Unit // M8 p0 = some R} (fun p=>B8 70 [(0,.d (.str p0))] []) ?_ fun p=>?_
 ·refine z3 h (fun p=>B8 70 [(0,.d (.str p0)),(3,.d (.int .i64 p))] []) Ah fun _ _ v3_1 h=>?_
  simp only [Qd] at h
  refine AW h (fun h=>?_) fun h=>?_
  ·conv=>whnf
   obtain ⟨hr,h⟩:=Eg h
   refine z10 ?_
   refine AW h (fun h=>?_) fun h=>?_
   ·obtain ⟨hr,h⟩:=Eg h
    refine z10 ?_
    refine AW h (fun h=>?_) fun h=>?_
    ·exact z39
    obtain ⟨hr,h⟩:=Eg h
    refine z10 ?_
    refine AW h (fun h=>?_) fun h=>?_
    ·obtain ⟨hr,h⟩:=Eg h
     refine z10 ?_
     refine AW h (fun h=>?_) fun h=>?_
     ·exact z39
     exact z45
    exact z45
   obtain ⟨hr,h⟩:=Eg h
   refine z10 ?_
   refine AW h (fun h=>?_) fun h=>?_
   ·obtain ⟨hr,h⟩:=Eg h
    refine z10 ?_
    refine AW h (fun h=>?_) fun h=>?_
    ·exact z39
    exact z45
   exact z45
  exact z52
 obtain ⟨_,h⟩:=p
 simp only [M8] at h
 conv=>whnf
 refine KG h Db (fun e37 h=>?_) (fun e37 h=>?_)
 ·conv=>whnf
  refine Lp Db e37 ?_
  exact A3 h
 conv=>whnf
 refine KG h Db (fun e38 h=>?_) (fun e38 h=>?_)
 ·conv=>whnf
  refine Lp Db e38 ?_
  exact A3 h
 conv=>whnf
 refine KG h Db (fun e39 h=>?_) (fun e39 h=>?_)
 ·conv=>whnf
  refine Lp Db e39 ?_
  exact A3 h
 conv=>whnf
 refine KG h Db (fun e40 h=>?_) (fun e40 h=>?_)
 ·conv=>whnf
  refine Lp Db e40 ?_
  exact A3 h
 conv=>whnf
 refine KG h Db (fun e41 h=>?_) (fun e41 h=>?_)
 ·conv=>whnf
  refine Lp Db e41 ?_
  exact A3 h
 conv=>whnf
 refine KG h Db (fun e42 h=>?_) (fun e42 h=>?_)
 ·conv=>whnf
  refine Lp Db e42 ?_
  exact A3 h
 conv=>whnf
 refine KG h Db (fun e43 h=>?_) (fun e43 h=>?_)
 ·conv=>whnf
  refine Lp Db e43 ?_
  exact A3 h
 conv=>whnf
 refine KG h Db (fun e44 h=>?_) (fun e44 h=>?_)
 ·conv=>whnf
  refine Lp Db e44 ?_
  exact A3 h
 conv=>whnf
 refine KG h Db (fun e45 h=>?_) (fun e45 h=>?_)
 ·conv=>whnf
  refine Lp Db e45 ?_
  exact A3 h
 conv=>whnf
 refine KG h Db (fun e46 h=>?_) (fun e46 h=>?_)
 ·conv=>whnf
  refine Lp Db e46 ?_
  exact A3 h
 exact EC h
theorem X4 (p0:Am) (p1:Int) (R:Bool) (h:Rb p0 p1 = some R):Aj Tryz.prog 139 [.d (Ac p0),.d (.int .i64 p1)] (.d (.bool R)):=by
 refine Ch Tryz.func139 ?_
 unfold Rb at h
 refine z3 h (fun p=>B8 21 [(1,.d (.int .i64 p1)),(2,.ptr 2 1 0),(5,.d (.int .i64 p))] [(2,.var [.d (.str p0.Name),.d (Al 2 Br p0.Codes)],1)]) Ah fun _ _ v5_1 h=>?_
 simp only [Q8] at h
 refine Bj h fun h=>?_
 refine AO (f:=Br) h fun x16 _ h=>?_
 exact z12
theorem HQ (p0:Am) (R:Int) (h:Fh p0 = some R):Aj Tryz.prog 78 [.d (Ac p0)] (.d (.int .i64 R)):=by
 refine Dt [20] Tryz.func78 (by kernel_rfl) ?_
 unfold Fh at h
 refine A7 h (fun _=>EW _ _) fun x10 h=>?_
 refine An h fun h=>?_
 refine An h fun h=>?_
 refine An h fun h=>?_
 refine F0 {p:Unit // Lx p0 = some R} (fun p=>B8 100 [(1,.ptr 1 1 0)] [(1,.var [.d (.str p0.Name),.d (Al 2 Br p0.Codes)],1)]) ?_ fun p=>?_
 ·refine z3 h (fun p=>B8 100 [(1,.ptr 1 1 0),(3,.d (.int .i64 p))] [(1,.var [.d (.str p0.Name),.d (Al 2 Br p0.Codes)],1)]) Ah fun _ _ v3_1 h=>?_
  simp only [Pi] at h
  refine AW h (fun h=>?_) fun h=>?_
  ·refine AO (f:=Br) h fun x30 _ h=>?_
   refine A7 h (fun _=>EW _ _) fun x33 h=>?_
   refine An h fun h=>?_
   refine z3 h (fun p=>B8 100 [(1,.ptr 1 1 0),(3,.d (.int .i64 v3_1)),(4,.d (.int .i64 p))] [(1,.var [.d (.str p0.Name),.d (Al 2 Br p0.Codes)],1)]) Ah fun _ _ v4_2 h=>?_
   simp only [P7] at h
   refine AW h (fun h=>?_) fun h=>?_
   ·conv=>whnf
    refine z11 ?_
    refine AO (f:=Br) h fun x43 _ h=>?_
    refine AO (f:=Br) h fun x49 _ h=>?_
    exact z12
   conv=>whnf
   try simp only [Js] at h
   refine AO (f:=Br) h fun x56 _ h=>?_
   exact z12
  conv=>whnf
  try simp only [Js] at h
  exact ⟨⟨(),h⟩,Ah⟩
 obtain ⟨_,h⟩:=p
 simp only [Lx] at h
 refine z3 h (fun p=>B8 100 [(1,.ptr 1 1 0),(6,.d (.int .i64 p.1)),(7,.d (.int .i64 p.2))] [(1,.var [.d (.str p0.Name),.d (Al 2 Br p0.Codes)],1)]) Ah fun _ _ ⟨v6_3,v7_3⟩ h=>?_
 simp only [OB] at h
 refine AW h (fun h=>?_) fun h=>?_
 ·refine A7 h (fun _=>X4 _ _ _) fun x87 h=>?_
  refine AW h (fun h=>?_) fun h=>?_
  ·refine AW h (fun h=>?_) fun h=>?_
   ·refine A7 h (fun _=>D9 _ _ _) fun x93 h=>?_
    refine An h fun h=>?_
    conv=>whnf
    obtain ⟨x99,hx99,h⟩:=AB h
    refine Au (D9 _ _ _ hx99) ?_
    exact z15
   obtain ⟨x99,hx99,h⟩:=AB h
   refine Au (D9 _ _ _ hx99) ?_
   exact z15
  exact z15
 conv=>whnf
 try simp only [Js] at h
 exact A3 h
theorem LU (p0:Am) (R:Int) (h:EV p0 = some R):Aj Tryz.prog 76 [.d (Ac p0)] (.d (.int .i64 R)):=by
 refine Ch Tryz.func76 ?_
 unfold EV at h
 refine A7 h (fun _=>HQ _ _) fun x4 h=>?_
 refine An h fun h=>?_
 conv=>whnf
 obtain ⟨x11,hx11,h⟩:=AB h
 first | refine Au (D9 _ _ _ hx11) ?_ | (simp only [List.length_map]; refine Au (D9 _ _ _ hx11) ?_)
 exact A3 h
theorem ZJ (p0:Am) (p1:Int) (R:(List Int)) (h:N2 p0 p1 = some R):Aj Tryz.prog 226 [.d (Ac p0),.d (.int .i64 p1)] (.d (Al 1 (D.int .i64) R)):=by
 refine Ch Tryz.func226 ?_
 unfold N2 at h
 refine A7 h (fun _=>HQ _ _) fun x8 h=>?_
 refine AW h (fun h=>?_) fun h=>?_
 ·exact z31
 refine z3 h (fun p=>B8 27 [(1,.d (.int .i64 p1)),(2,.ptr 2 1 0),(5,.sl 5 1),(6,.d (.int .i64 p.1))] [(2,.var [.d (.str p0.Name),.d (Al 2 Br p0.Codes)],1),(5,.row 1 3 (List.map (D.int .i64) p.2),1)]) Ah fun _ _ ⟨v6_1,b5_1⟩ h=>?_
 simp only [Tu] at h
 refine AW h (fun h=>?_) fun h=>?_
 ·refine A7 h (fun _=>D9 _ _ _) fun x19 h=>?_
  refine AW h (fun h=>?_) fun h=>?_
  ·conv=>whnf
   exact z26
  exact z15
 exact z31
theorem FG (p0:Aa) (p1:Int) (R:(List Int)) (h:Cl p0 p1 = some R):Aj Tryz.prog 154 [.d (Ai p0),.d (.int .i64 p1)] (.d (Al 1 (D.int .i64) R)):=by
 refine Ch Tryz.func154 ?_
 unfold Cl at h
 conv=>whnf
 refine z11 ?_
 refine AO (f:=Ad) h fun x11 _ h=>?_
 refine AO (f:=Ac) h fun x14 _ h=>?_
 conv=>whnf
 refine z11 ?_
 refine A7 h (fun _=>LU _ _) fun x18 h=>?_
 refine A7 h (fun _=>ZJ _ _ _) fun x20 h=>?_
 exact A3 h
theorem C8 (p0:Int) (p1:Int) (p2:Int) (R:Bool) (h:Dz p0 p1 p2 = some R):Aj Tryz.prog 32 [.d (.int .i64 p0),.d (.int .i64 p1),.d (.int .i64 p2)] (.d (.bool R)):=by
 refine Ch Tryz.func32 ?_
 unfold Dz at h
 exact A3 h
theorem Uf (p0:Av) (R:Int) (h:Ia p0 = some R):Aj Tryz.prog 202 [.d (Ad p0)] (.d (.int .i64 R)):=by
 refine Dt [3] Tryz.func202 (by kernel_rfl) ?_
 unfold Ia at h
 refine F0 {p:Unit // H7 p0 = some R} (fun p=>B8 79 [(1,.ptr 1 1 0)] [(1,.var [.d (.str p0.Name),.d (.int .i64 p0.Kind),.d (.int .i64 p0.List_),.d (.int .i64 p0.Low),.d (.int .i64 p0.High),.d (Al 1 (D.int .i64) p0.Widths),.d (.bool p0.Optional)],1)]) ?_ fun p=>?_
 ·refine A7 h (fun _=>C8 _ _ _ _) fun x7 h=>?_
  refine An h fun h=>?_
  refine A7 h (fun _=>C8 _ _ _ _) fun x12 h=>?_
  exact z23
 obtain ⟨_,h⟩:=p
 simp only [H7] at h
 refine An h fun h=>?_
 refine z3 h (fun p=>B8 79 [(1,.ptr 1 1 0),(3,.d (.int .i64 p))] [(1,.var [.d (.str p0.Name),.d (.int .i64 p0.Kind),.d (.int .i64 p0.List_),.d (.int .i64 p0.Low),.d (.int .i64 p0.High),.d (Al 1 (D.int .i64) p0.Widths),.d (.bool p0.Optional)],1)]) Ah fun _ _ v3_1 h=>?_
 simp only [Nr] at h
 refine Bj h fun h=>?_
 refine AO (f:=(D.int .i64)) h fun x42 _ h=>?_
 refine An h fun h=>?_
 refine AW h (fun h=>?_) fun h=>?_
 ·refine AO (f:=(D.int .i64)) h fun x59 _ h=>?_
  refine An h fun h=>?_
  refine AO (f:=(D.int .i64)) h fun x72 _ h=>?_
  conv=>whnf
  exact z45
 exact z39
theorem U8 (p0:Aa) (p1:Int) (R:Int) (h:Jf p0 p1 = some R):Aj Tryz.prog 138 [.d (Ai p0),.d (.int .i64 p1)] (.d (.int .i64 R)):=by
 refine Dt [9,13] Tryz.func138 (by kernel_rfl) ?_
 unfold Jf at h
 refine AO (f:=Ad) h fun x11 _ h=>?_
 refine A7 h (fun _=>EW _ _) fun x15 h=>?_
 refine An h fun h=>?_
 refine F0 {p:Unit // Ib x11 p1 p0 = some R} (fun p=>B8 98 [(1,.d (.int .i64 p1)),(2,.ptr 2 1 0),(5,.ptr 5 1 0)] [(2,.var [.d (Al 2 Ac p0.Lists),.d (Al 7 Ad p0.Columns)],1),(5,.var [.d (.str x11.Name),.d (.int .i64 x11.Kind),.d (.int .i64 x11.List_),.d (.int .i64 x11.Low),.d (.int .i64 x11.High),.d (Al 1 (D.int .i64) x11.Widths),.d (.bool x11.Optional)],1)]) ?_ fun p=>?_
 ·refine z3 h (fun p=>B8 98 [(1,.d (.int .i64 p1)),(2,.ptr 2 1 0),(5,.ptr 5 1 0),(6,.d (.int .i64 p))] [(2,.var [.d (Al 2 Ac p0.Lists),.d (Al 7 Ad p0.Columns)],1),(5,.var [.d (.str x11.Name),.d (.int .i64 x11.Kind),.d (.int .i64 x11.List_),.d (.int .i64 x11.Low),.d (.int .i64 x11.High),.d (Al 1 (D.int .i64) x11.Widths),.d (.bool x11.Optional)],1)]) Ah fun _ _ v6_1 h=>?_
  simp only [If] at h
  refine AW h (fun h=>?_) fun h=>?_
  ·conv=>whnf
   refine z11 ?_
   refine AO (f:=Ad) h fun x25 _ h=>?_
   exact z12
  exact z52
 obtain ⟨_,h⟩:=p
 simp only [Ib] at h
 refine A7 h (fun _=>C8 _ _ _ _) fun x33 h=>?_
 refine An h fun h=>?_
 refine F0 {p:Unit // ES x11 = some R} (fun p=>B8 98 [(5,.ptr 5 1 0)] [(5,.var [.d (.str x11.Name),.d (.int .i64 x11.Kind),.d (.int .i64 x11.List_),.d (.int .i64 x11.Low),.d (.int .i64 x11.High),.d (Al 1 (D.int .i64) x11.Widths),.d (.bool x11.Optional)],1)]) ?_ fun p=>?_
 ·refine AW h (fun h=>?_) fun h=>?_
  ·obtain ⟨x54,hx54,h⟩:=AB h
   first | refine Au (C8 _ _ _ _ hx54) ?_ | (simp only [List.length_map]; refine Au (C8 _ _ _ _ hx54) ?_)
   exact z23
  exact ⟨⟨(),h⟩,Ah⟩
 obtain ⟨_,h⟩:=p
 simp only [ES] at h
 refine AW h (fun h=>?_) fun h=>?_
 ·refine A7 h (fun _=>Uf _ _) fun x61 h=>?_
  refine An h fun h=>?_
  exact EC h
 exact EC h
theorem Dd (p0:Aa) (R:Int) (h:CC p0 = some R):Aj Tryz.prog 75 [.d (Ai p0)] (.d (.int .i64 R)):=by
 refine Dt [14] Tryz.func75 (by kernel_rfl) ?_
 unfold CC at h
 refine An h fun h=>?_
 refine F0 {p:Unit // IX p0 = some R} (fun p=>B8 77 [(1,.ptr 1 1 0)] [(1,.var [.d (Al 2 Ac p0.Lists),.d (Al 7 Ad p0.Columns)],1)]) ?_ fun p=>?_
 ·refine z3 h (fun p=>B8 77 [(1,.ptr 1 1 0),(3,.d (.int .i64 p))] [(1,.var [.d (Al 2 Ac p0.Lists),.d (Al 7 Ad p0.Columns)],1)]) Ah fun _ _ v3_1 h=>?_
  simp only [Ju] at h
  refine AW h (fun h=>?_) fun h=>?_
  ·refine AO (f:=Ac) h fun x28 _ h=>?_
   refine A7 h (fun _=>HQ _ _) fun x30 h=>?_
   refine An h fun h=>?_
   refine z3 h (fun p=>B8 77 [(1,.ptr 1 1 0),(3,.d (.int .i64 v3_1)),(5,.d (.int .i64 p))] [(1,.var [.d (Al 2 Ac p0.Lists),.d (Al 7 Ad p0.Columns)],1)]) Ah fun _ _ v5_2 h=>?_
   simp only [Ji] at h
   refine AW h (fun h=>?_) fun h=>?_
   ·conv=>whnf
    refine z11 ?_
    refine AO (f:=Ac) h fun x42 _ h=>?_
    refine AO (f:=Ac) h fun x48 _ h=>?_
    exact z12
   conv=>whnf
   try simp only [ref02_Check_k1] at h
   exact z39
  conv=>whnf
  try simp only [ref02_Check_k1] at h
  exact ⟨⟨(),h⟩,Ah⟩
 obtain ⟨_,h⟩:=p
 simp only [IX] at h
 refine An h fun h=>?_
 refine AO (f:=Ad) h fun x59 _ h=>?_
 refine An h fun h=>?_
 refine z3 h (fun p=>B8 77 [(1,.ptr 1 1 0),(6,.d (.int .i64 p))] [(1,.var [.d (Al 2 Ac p0.Lists),.d (Al 7 Ad p0.Columns)],1)]) Ah fun _ _ v6_3 h=>?_
 simp only [IV] at h
 refine AW h (fun h=>?_) fun h=>?_
 ·refine A7 h (fun _=>U8 _ _ _) fun x73 h=>?_
  exact z12
 conv=>whnf
 try simp only [ref02_Check_k1] at h
 exact A3 h
theorem Cd (p0:Aa) (p1:Int) (R:Int) (h:BB p0 p1 = some R):Aj Tryz.prog 33 [.d (Ai p0),.d (.int .i64 p1)] (.d (.int .i64 R)):=by
 refine Ch Tryz.func33 ?_
 unfold BB at h
 refine A7 h (fun _=>Dd _ _) fun x7 h=>?_
 refine An h fun h=>?_
 refine AO (f:=Ad) h fun x23 _ h=>?_
 refine Bj h fun h=>?_
 refine AO (f:=Ac) h fun x32 _ h=>?_
 refine A7 h (fun _=>LU _ _) fun x34 h=>?_
 exact A3 h
theorem ML (p0:Am) (p1:Int) (R:Int) (h:Hf p0 p1 = some R):Aj Tryz.prog 77 [.d (Ac p0),.d (.int .i64 p1)] (.d (.int .i64 R)):=by
 refine Ch Tryz.func77 ?_
 unfold Hf at h
 refine A7 h (fun _=>HQ _ _) fun x6 h=>?_
 refine An h fun h=>?_
 refine A7 h (fun _=>D9 _ _ _) fun x21 h=>?_
 exact A3 h
theorem QA (p0:Aa) (p1:Int) (p2:Int) (R:Bool) (h:IR p0 p1 p2 = some R):Aj Tryz.prog 34 [.d (Ai p0),.d (.int .i64 p1),.d (.int .i64 p2)] (.d (.bool R)):=by
 refine Ch Tryz.func34 ?_
 unfold IR at h
 refine AO (f:=Ad) h fun x12 _ h=>?_
 refine AW h (fun h=>?_) fun h=>?_
 ·refine A7 h (fun _=>C8 _ _ _ _) fun x19 h=>?_
  exact A3 h
 refine AW h (fun h=>?_) fun h=>?_
 ·refine AO (f:=Ac) h fun x26 _ h=>?_
  conv=>whnf
  refine z11 ?_
  conv=>whnf
  obtain ⟨x33,hx33,h⟩:=AB h
  first | refine Au (C8 _ _ _ _ hx33) ?_ | (simp only [List.length_map]; refine Au (C8 _ _ _ _ hx33) ?_)
  refine Bj h fun h=>?_
  refine A7 h (fun _=>ML _ _ _) fun x37 h=>?_
  refine A7 h (fun _=>LU _ _) fun x39 h=>?_
  exact A3 h
 refine An h fun h=>?_
 refine A7 h (fun _=>C8 _ _ _ _) fun x55 h=>?_
 exact A3 h
theorem UR (p0:Am) (p1:Int) (p2:Int) (R:Int) (h:Jx p0 p1 p2 = some R):Aj Tryz.prog 35 [.d (Ac p0),.d (.int .i64 p1),.d (.int .i64 p2)] (.d (.int .i64 R)):=by
 refine Ch Tryz.func35 ?_
 unfold Jx at h
 refine A7 h (fun _=>HQ _ _) fun x8 h=>?_
 refine An h fun h=>?_
 refine A7 h (fun _=>D9 _ _ _) fun x29 h=>?_
 refine An h fun h=>?_
 refine z3 h (fun p=>B8 44 [(1,.d (.int .i64 p)),(2,.d (.int .i64 p2)),(3,.ptr 3 1 0)] [(3,.var [.d (.str p0.Name),.d (Al 2 Br p0.Codes)],1)]) Ah fun _ _ v1_1 h=>?_
 simp only [TC] at h
 refine A7 h (fun _=>D9 _ _ _) fun x34 h=>?_
 refine Bj h fun h=>?_
 refine AO (f:=Br) h fun x40 _ h=>?_
 conv=>whnf
 exact z39
theorem GO (p0:Av) (p1:Int) (R:Int) (h:CH p0 p1 = some R):Aj Tryz.prog 36 [.d (Ad p0),.d (.int .i64 p1)] (.d (.int .i64 R)):=by
 refine Ch Tryz.func36 ?_
 unfold CH at h
 refine AO (f:=(D.int .i64)) h fun x12 _ h=>?_
 exact A3 h
theorem MR (p0:Int) (p1:Int) (R:Int) (h:Fb p0 p1 = some R):Aj Tryz.prog 37 [.d (.int .i64 p0),.d (.int .i64 p1)] (.d (.int .i64 R)):=by
 refine Ch Tryz.func37 ?_
 unfold Fb at h
 conv=>whnf
 obtain ⟨hr,h⟩:=Eg h
 refine z10 ?_
 exact z37
theorem BS (p0:Aa) (p1:Int) (p2:Int) (p3:Int) (R:Int) (h:AP p0 p1 p2 p3 = some R):Aj Tryz.prog 10 [.d (Ai p0),.d (.int .i64 p1),.d (.int .i64 p2),.d (.int .i64 p3)] (.d (.int .i64 R)):=by
 refine Ch Tryz.func10 ?_
 unfold AP at h
 refine A7 h (fun _=>Cd _ _ _) fun x14 h=>?_
 refine A7 h (fun _=>C8 _ _ _ _) fun x15 h=>?_
 refine An h fun h=>?_
 refine AO (f:=Ad) h fun x20 _ h=>?_
 refine AW h (fun h=>?_) fun h=>?_
 ·refine A7 h (fun _=>QA _ _ _ _) fun x28 h=>?_
  refine An h fun h=>?_
  refine AO (f:=Ac) h fun x34 _ h=>?_
  refine A7 h (fun _=>UR _ _ _ _) fun x38 h=>?_
  exact A3 h
 refine AW h (fun h=>?_) fun h=>?_
 ·refine A7 h (fun _=>C8 _ _ _ _) fun x43 h=>?_
  refine An h fun h=>?_
  refine An h fun h=>?_
  refine An h fun h=>?_
  conv=>whnf
  obtain ⟨x53,hx53,h⟩:=AB h
  refine Au (GO _ _ _ hx53) ?_
  conv=>whnf
  obtain ⟨x56,hx56,h⟩:=AB h
  refine Au (MR _ _ _ hx56) ?_
  exact A3 h
 refine An h fun h=>?_
 refine An h fun h=>?_
 conv=>whnf
 obtain ⟨x53,hx53,h⟩:=AB h
 refine Au (GO _ _ _ hx53) ?_
 conv=>whnf
 obtain ⟨x56,hx56,h⟩:=AB h
 refine Au (MR _ _ _ hx56) ?_
 exact A3 h
theorem NF (p0:BC) (p1:Int) (R:Int) (h:I7 p0 p1 = some R):Aj Tryz.prog 73 [.d (Iv p0),.d (.int .i64 p1)] (.d (.int .i64 R)):=by
 refine Ch Tryz.func73 ?_
 unfold I7 at h
 refine z3 h (fun p=>B8 32 [(1,.d (.int .i64 p1)),(2,.ptr 2 1 0),(5,.d (.int .i64 p))] [(2,.var [.d (Al 2 Ac p0.Schema.Lists),.d (Al 7 Ad p0.Schema.Columns),.d (Al 1 (Al 1 (D.int .i64)) p0.Rows),.d (Al 1 (D.int .i64) p0.Gone),.d (.int .i64 p0.Version)],1)]) Ah fun _ _ v5_1 h=>?_
 simp only [MF] at h
 refine Bj h fun h=>?_
 refine AO (f:=(Al 1 (D.int .i64))) h fun x16 _ h=>?_
 refine AW h (fun h=>?_) fun h=>?_
 ·refine AO (f:=(Al 1 (D.int .i64))) h fun x24 _ h=>?_
  refine AO (f:=(D.int .i64)) h fun x26 _ h=>?_
  exact z12
 exact z39
theorem TI (p0:Aa) (p1:(List Int)) (R:Int) (h:Kd p0 p1 = some R):Aj Tryz.prog 132 [.d (Ai p0),.d (Al 1 (D.int .i64) p1)] (.d (.int .i64 R)):=by
 refine Ch Tryz.func132 ?_
 unfold Kd at h
 refine A7 h (fun _=>Dd _ _) fun x8 h=>?_
 refine An h fun h=>?_
 refine An h fun h=>?_
 refine z3 h (fun p=>B8 32 [(1,.d (Al 1 (D.int .i64) p1)),(2,.ptr 2 1 0),(6,.d (.int .i64 p))] [(2,.var [.d (Al 2 Ac p0.Lists),.d (Al 7 Ad p0.Columns)],1)]) Ah fun _ _ v6_1 h=>?_
 simp only [Lh] at h
 refine Bj h fun h=>?_
 conv=>whnf
 refine z11 ?_
 refine AO (f:=(D.int .i64)) h fun x28 _ h=>?_
 refine A7 h (fun _=>QA _ _ _ _) fun x30 h=>?_
 exact z12
theorem Qr (p0:BC) (R:Bool) (h:IA p0 = some R):Aj Tryz.prog 70 [.d (Iv p0)] (.d (.bool R)):=by
 refine Dt [8] Tryz.func70 (by kernel_rfl) ?_
 unfold IA at h
 refine A7 h (fun _=>Dd _ _) fun x7 h=>?_
 refine An h fun h=>?_
 refine F0 {p:Unit // Jz p0 = some R} (fun p=>B8 118 [(1,.ptr 1 1 0)] [(1,.var [.d (Al 2 Ac p0.Schema.Lists),.d (Al 7 Ad p0.Schema.Columns),.d (Al 1 (Al 1 (D.int .i64)) p0.Rows),.d (Al 1 (D.int .i64) p0.Gone),.d (.int .i64 p0.Version)],1)]) ?_ fun p=>?_
 ·refine z3 h (fun p=>B8 118 [(1,.ptr 1 1 0),(3,.d (.int .i64 p))] [(1,.var [.d (Al 2 Ac p0.Schema.Lists),.d (Al 7 Ad p0.Schema.Columns),.d (Al 1 (Al 1 (D.int .i64)) p0.Rows),.d (Al 1 (D.int .i64) p0.Gone),.d (.int .i64 p0.Version)],1)]) Ah fun _ _ v3_1 h=>?_
  simp only [J3] at h
  refine AW h (fun h=>?_) fun h=>?_
  ·conv=>whnf
   refine z11 ?_
   refine AO (f:=(Al 1 (D.int .i64))) h fun x43 _ h=>?_
   refine A7 h (fun _=>TI _ _ _) fun x45 h=>?_
   refine An h fun h=>?_
   refine AW h (fun h=>?_) fun h=>?_
   ·refine AO (f:=(Al 1 (D.int .i64))) h fun x54 _ h=>?_
    refine AO (f:=(D.int .i64)) h fun x56 _ h=>?_
    refine AO (f:=(Al 1 (D.int .i64))) h fun x62 _ h=>?_
    refine AO (f:=(D.int .i64)) h fun x64 _ h=>?_
    exact z12
   exact z39
  exact z52
 obtain ⟨_,h⟩:=p
 simp only [Jz] at h
 refine z3 h (fun p=>B8 118 [(1,.ptr 1 1 0),(4,.d (.int .i64 p))] [(1,.var [.d (Al 2 Ac p0.Schema.Lists),.d (Al 7 Ad p0.Schema.Columns),.d (Al 1 (Al 1 (D.int .i64)) p0.Rows),.d (Al 1 (D.int .i64) p0.Gone),.d (.int .i64 p0.Version)],1)]) Ah fun _ _ v4_2 h=>?_
 simp only [LP] at h
 refine Bj h fun h=>?_
 conv=>whnf
 refine z11 ?_
 refine AO (f:=(D.int .i64)) h fun x79 _ h=>?_
 refine An h fun h=>?_
 refine AO (f:=(D.int .i64)) h fun x86 _ h=>?_
 refine An h fun h=>?_
 refine AW h (fun h=>?_) fun h=>?_
 ·refine AO (f:=(D.int .i64)) h fun x97 _ h=>?_
  refine AO (f:=(D.int .i64)) h fun x103 _ h=>?_
  refine An h fun h=>?_
  refine AO (f:=(D.int .i64)) h fun x113 hx113 h=>?_
  conv=>whnf
  obtain ⟨x115,hx115,h⟩:=AB h
  refine Au (NF _ _ _ hx115) ?_
  exact z12
 refine AO (f:=(D.int .i64)) h fun x113 hx113 h=>?_
 conv=>whnf
 obtain ⟨x115,hx115,h⟩:=AB h
 refine Au (NF _ _ _ hx115) ?_
 exact z12
theorem Sn (p0:Aa) (p1:Ae) (R:Int) (h:Gv p0 p1 = some R):Aj Tryz.prog 153 [.d (Ai p0),.d (Ag p1)] (.d (.int .i64 R)):=by
 refine Ch Tryz.func153 ?_
 unfold Gv at h
 refine A7 h (fun _=>Dd _ _) fun x7 h=>?_
 refine An h fun h=>?_
 refine An h fun h=>?_
 conv=>whnf
 refine z11 ?_
 refine A7 h (fun _=>Cd _ _ _) fun x27 h=>?_
 refine A7 h (fun _=>C8 _ _ _ _) fun x28 h=>?_
 exact EC h
theorem Kj (p0:Aa) (p1:(List Ae)) (R:Int) (h:Dq p0 p1 = some R):Aj Tryz.prog 92 [.d (Ai p0),.d (Al 2 Ag p1)] (.d (.int .i64 R)):=by
 refine Ch Tryz.func92 ?_
 unfold Dq at h
 refine A7 h (fun _=>Dd _ _) fun x9 h=>?_
 refine An h fun h=>?_
 refine z3 h (fun p=>B8 44 [(1,.d (Al 2 Ag p1)),(2,.ptr 2 1 0),(6,.d (.int .i64 p))] [(2,.var [.d (Al 2 Ac p0.Lists),.d (Al 7 Ad p0.Columns)],1)]) Ah fun _ _ v6_1 h=>?_
 simp only [DV] at h
 refine Bj h fun h=>?_
 conv=>whnf
 refine z11 ?_
 refine AO (f:=Ag) h fun x22 _ h=>?_
 refine A7 h (fun _=>Sn _ _ _) fun x24 h=>?_
 refine An h fun h=>?_
 conv=>whnf
 refine z11 ?_
 refine AW h (fun h=>?_) fun h=>?_
 ·refine AO (f:=Ag) h fun x33 _ h=>?_
  refine AO (f:=Ag) h fun x39 _ h=>?_
  exact z12
 exact z39
theorem UQ (d:Nat) (self_ref05_count:(Af→Int→Option Int)) (ih_ref05_count:∀ (p0:Af) (p1:Int) (R:Int) ,self_ref05_count p0 p1 = some R→Aj Tryz.prog 156 [.d (Ax p0),.d (.int .i64 p1)] (.d (.int .i64 R))) (p0:Af) (p1:Int) (R:Int) (h:Fw d self_ref05_count p0 p1 = some R):Aj Tryz.prog 156 [.d (Ax p0),.d (.int .i64 p1)] (.d (.int .i64 R)):=by
 refine Ch Tryz.func156 ?_
 unfold Fw at h
 refine z3 h (fun p=>B8 31 [(1,.d (.int .i64 p1)),(2,.ptr 2 1 0),(5,.d (.int .i64 p.1)),(6,.d (.int .i64 p.2))] [(2,.var [.d (.int .i64 p0.Op),.d (.int .i64 p0.Column),.d (.int .i64 p0.Code),.d (.int .i64 p0.Low),.d (.int .i64 p0.High),.d (Al 6 Ao p0.Kids)],1)]) Aq fun _ _ ⟨v5_1,v6_1⟩ h=>?_
 simp only [Ht] at h
 refine Cb h fun h=>?_
 refine AO (f:=Ao) h fun x23 _ h=>?_
 rw [A9 x23]
 conv=>whnf
 obtain ⟨x28,hx28,h⟩:=AB h
 first | refine Au (ih_ref05_count _ _ _ hx28) ?_ | (simp only [List.length_map]; refine Au (ih_ref05_count _ _ _ hx28) ?_)
 exact z19
theorem PE:∀ d:Nat,(∀ (p0:Af) (p1:Int) (R:Int) ,FV d p0 p1 = some R→Aj Tryz.prog 156 [.d (Ax p0),.d (.int .i64 p1)] (.d (.int .i64 R)))
 | 0=>by
  exact z22
 | d + 1=>by
  have ih:=PE d
  exact UQ d _ ih
theorem VX (d:Nat):∀ (p0:Af) (p1:Int) (R:Int) ,FV d p0 p1 = some R→Aj Tryz.prog 156 [.d (Ax p0),.d (.int .i64 p1)] (.d (.int .i64 R)):=PE d
theorem VA (d:Nat) (self_ref05_depth:(Af→Option Int)) (ih_ref05_depth:∀ (p0:Af) (R:Int) ,self_ref05_depth p0 = some R→Aj Tryz.prog 157 [.d (Ax p0)] (.d (.int .i64 R))) (p0:Af) (R:Int) (h:Kv d self_ref05_depth p0 = some R):Aj Tryz.prog 157 [.d (Ax p0)] (.d (.int .i64 R)):=by
 refine Ch Tryz.func157 ?_
 unfold Kv at h
 refine z3 h (fun p=>B8 22 [(1,.ptr 1 1 0),(3,.d (.int .i64 p.1)),(4,.d (.int .i64 p.2))] [(1,.var [.d (.int .i64 p0.Op),.d (.int .i64 p0.Column),.d (.int .i64 p0.Code),.d (.int .i64 p0.Low),.d (.int .i64 p0.High),.d (Al 6 Ao p0.Kids)],1)]) Aq fun _ _ ⟨v3_1,v4_1⟩ h=>?_
 simp only [Pk] at h
 refine Cb h fun h=>?_
 refine AO (f:=Ao) h fun x16 _ h=>?_
 rw [A9 x16]
 conv=>whnf
 obtain ⟨x18,hx18,h⟩:=AB h
 first | refine Au (ih_ref05_depth _ _ hx18) ?_ | (simp only [List.length_map]; refine Au (ih_ref05_depth _ _ hx18) ?_)
 exact z19
theorem P9:∀ d:Nat,(∀ (p0:Af) (R:Int) ,Th d p0 = some R→Aj Tryz.prog 157 [.d (Ax p0)] (.d (.int .i64 R)))
 | 0=>by
  exact z22
 | d + 1=>by
  have ih:=P9 d
  exact VA d _ ih
theorem Wt (d:Nat):∀ (p0:Af) (R:Int) ,Th d p0 = some R→Aj Tryz.prog 157 [.d (Ax p0)] (.d (.int .i64 R)):=P9 d
theorem QY (p0:Aa) (p1:Int) (p2:Int) (R:Bool) (h:F7 p0 p1 p2 = some R):Aj Tryz.prog 227 [.d (Ai p0),.d (.int .i64 p1),.d (.int .i64 p2)] (.d (.bool R)):=by
 refine Ch Tryz.func227 ?_
 unfold F7 at h
 refine Bj h fun h=>?_
 refine AO (f:=Ad) h fun x20 _ h=>?_
 exact A3 h
end Go.Proofs.YtejfnieiaecpkaaGreatDoor.P
