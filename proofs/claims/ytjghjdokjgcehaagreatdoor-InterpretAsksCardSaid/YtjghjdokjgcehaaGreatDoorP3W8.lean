/- P3W8 -/
import Derived.Test.YtjghjdokjgcehaaGreatDoorP3HW
set_option linter.unusedSimpArgs false
namespace Go.Proofs.YtjghjdokjgcehaaGreatDoor.P
open Go.Abs Go.Proofs
set_option maxRecDepth 100000
set_option maxHeartbeats 40000000
set_option linter.unusedVariables false
theorem Rf (p0:(List Int)) (p1:(List Int)) (R:Bool) (h:Jt p0 p1 = some R):Al Tryz.prog 13 [.d (Ah 1 (D.int .i64) p0),.d (Ah 1 (D.int .i64) p1)] (.d (.bool R)):=by
 refine Cn Tryz.func13 ?_
 unfold Jt at h
 refine An h fun h=>?_
 refine z5 h (fun p=>Cd 26 [(0,.d (Ah 1 (D.int .i64) p0)),(1,.d (Ah 1 (D.int .i64) p1)),(5,.d (.int .i64 p))] []) As fun _ _ v5_1 h=>?_
 simp only [JA] at h
 refine B0 h fun h=>?_
 conv=>whnf
 refine z13 ?_
 refine B6 (f:=(D.int .i64)) h fun x19 _ h=>?_
 refine B6 (f:=(D.int .i64)) h fun x23 _ h=>?_
 exact z17
theorem EP (p0:ByteArray) (R:Bool) (h:Be p0 = some R):Al Tryz.prog 47 [.d (.str p0)] (.d (.bool R)):=by
 refine Ek [3,8] Tryz.func47 (by kernel_rfl) ?_
 unfold Be at h
 refine Ga {p:Unit // Hn p0 = some R} (fun p=>Cd 70 [(0,.d (.str p0))] []) ?_ fun p=>?_
 ·refine An h fun h=>?_
  obtain ⟨hr,h⟩:=E0 h
  refine z12 ?_
  refine An h fun h=>?_
  obtain ⟨hr,h⟩:=E0 h
  refine z12 ?_
  exact z33
 obtain ⟨_,h⟩:=p
 simp only [Hn] at h
 refine Ga {p:Unit // LW p0 = some R} (fun p=>Cd 70 [(0,.d (.str p0))] []) ?_ fun p=>?_
 ·refine z5 h (fun p=>Cd 70 [(0,.d (.str p0)),(3,.d (.int .i64 p))] []) As fun _ _ v3_1 h=>?_
  simp only [Hm] at h
  refine AM h (fun h=>?_) fun h=>?_
  ·conv=>whnf
   obtain ⟨hr,h⟩:=E0 h
   refine z12 ?_
   refine AM h (fun h=>?_) fun h=>?_
   ·obtain ⟨hr,h⟩:=E0 h
    refine z12 ?_
    refine AM h (fun h=>?_) fun h=>?_
    ·exact Cw ⟨(_,_),h⟩ As
    obtain ⟨hr,h⟩:=E0 h
    refine z12 ?_
    refine AM h (fun h=>?_) fun h=>?_
    ·obtain ⟨hr,h⟩:=E0 h
     refine z12 ?_
     refine AM h (fun h=>?_) fun h=>?_
     ·exact Cw ⟨(_,_),h⟩ As
     exact z49
    exact z49
   obtain ⟨hr,h⟩:=E0 h
   refine z12 ?_
   refine AM h (fun h=>?_) fun h=>?_
   ·obtain ⟨hr,h⟩:=E0 h
    refine z12 ?_
    refine AM h (fun h=>?_) fun h=>?_
    ·exact Cw ⟨(_,_),h⟩ As
    exact z49
   exact z49
  conv=>whnf
  exact ⟨⟨(),h⟩,As⟩
 obtain ⟨_,h⟩:=p
 simp only [LW] at h
 conv=>whnf
 refine K1 h Cc (fun e37 h=>?_) (fun e37 h=>?_)
 ·conv=>whnf
  refine Lt Cc e37 ?_
  exact AD h
 conv=>whnf
 refine K1 h Cc (fun e38 h=>?_) (fun e38 h=>?_)
 ·conv=>whnf
  refine Lt Cc e38 ?_
  exact AD h
 conv=>whnf
 refine K1 h Cc (fun e39 h=>?_) (fun e39 h=>?_)
 ·conv=>whnf
  refine Lt Cc e39 ?_
  exact AD h
 conv=>whnf
 refine K1 h Cc (fun e40 h=>?_) (fun e40 h=>?_)
 ·conv=>whnf
  refine Lt Cc e40 ?_
  exact AD h
 conv=>whnf
 refine K1 h Cc (fun e41 h=>?_) (fun e41 h=>?_)
 ·conv=>whnf
  refine Lt Cc e41 ?_
  exact AD h
 conv=>whnf
 refine K1 h Cc (fun e42 h=>?_) (fun e42 h=>?_)
 ·conv=>whnf
  refine Lt Cc e42 ?_
  exact AD h
 conv=>whnf
 refine K1 h Cc (fun e43 h=>?_) (fun e43 h=>?_)
 ·conv=>whnf
  refine Lt Cc e43 ?_
  exact AD h
 conv=>whnf
 refine K1 h Cc (fun e44 h=>?_) (fun e44 h=>?_)
 ·conv=>whnf
  refine Lt Cc e44 ?_
  exact AD h
 conv=>whnf
 refine K1 h Cc (fun e45 h=>?_) (fun e45 h=>?_)
 ·conv=>whnf
  refine Lt Cc e45 ?_
  exact AD h
 conv=>whnf
 refine K1 h Cc (fun e46 h=>?_) (fun e46 h=>?_)
 ·conv=>whnf
  refine Lt Cc e46 ?_
  exact AD h
 exact Eb h
theorem Wv (p0:Ay) (p1:Int) (R:Bool) (h:Qk p0 p1 = some R):Al Tryz.prog 96 [.d (Af p0),.d (.int .i64 p1)] (.d (.bool R)):=by
 refine Cn Tryz.func96 ?_
 unfold Qk at h
 refine z5 h (fun p=>Cd 21 [(1,.d (.int .i64 p1)),(2,.ptr 2 1 0),(5,.d (.int .i64 p))] [(2,.var [.d (.str p0.Name),.d (Ah 2 By p0.Codes)],1)]) As fun _ _ v5_1 h=>?_
 simp only [P7] at h
 refine B0 h fun h=>?_
 refine B6 (f:=By) h fun x16 _ h=>?_
 exact z17
theorem Ho (p0:Ay) (p1:Int) (R:Int) (h:Ed p0 p1 = some R):Al Tryz.prog 97 [.d (Af p0),.d (.int .i64 p1)] (.d (.int .i64 R)):=by
 refine Cn Tryz.func97 ?_
 unfold Ed at h
 refine z5 h (fun p=>Cd 22 [(1,.d (.int .i64 p.1)),(2,.ptr 2 1 0),(5,.d (.int .i64 p.2))] [(2,.var [.d (.str p0.Name),.d (Ah 2 By p0.Codes)],1)]) As fun _ _ ⟨v1_1,v5_1⟩ h=>?_
 simp only [Ou] at h
 refine B6 (f:=By) h fun x9 _ h=>?_
 refine B0 h fun h=>?_
 refine B6 (f:=By) h fun x16 _ h=>?_
 exact z22
theorem P6 (p0:Ay) (R:Int) (h:EO p0 = some R):Al Tryz.prog 52 [.d (Af p0)] (.d (.int .i64 R)):=by
 refine Ek [20] Tryz.func52 (by kernel_rfl) ?_
 unfold EO at h
 refine AU h (fun _=>EP _ _) fun x10 h=>?_
 refine An h fun h=>?_
 refine An h fun h=>?_
 refine An h fun h=>?_
 refine Ga {p:Unit // Ld p0 = some R} (fun p=>Cd 100 [(1,.ptr 1 1 0)] [(1,.var [.d (.str p0.Name),.d (Ah 2 By p0.Codes)],1)]) ?_ fun p=>?_
 ·refine z5 h (fun p=>Cd 100 [(1,.ptr 1 1 0),(3,.d (.int .i64 p))] [(1,.var [.d (.str p0.Name),.d (Ah 2 By p0.Codes)],1)]) As fun _ _ v3_1 h=>?_
  simp only [On] at h
  refine AM h (fun h=>?_) fun h=>?_
  ·refine B6 (f:=By) h fun x30 _ h=>?_
   refine AU h (fun _=>EP _ _) fun x33 h=>?_
   refine An h fun h=>?_
   refine z5 h (fun p=>Cd 100 [(1,.ptr 1 1 0),(3,.d (.int .i64 v3_1)),(4,.d (.int .i64 p))] [(1,.var [.d (.str p0.Name),.d (Ah 2 By p0.Codes)],1)]) As fun _ _ v4_2 h=>?_
   simp only [Oo] at h
   refine AM h (fun h=>?_) fun h=>?_
   ·conv=>whnf
    refine z13 ?_
    refine B6 (f:=By) h fun x43 _ h=>?_
    refine B6 (f:=By) h fun x49 _ h=>?_
    exact z17
   conv=>whnf
   try simp only [IF] at h
   refine B6 (f:=By) h fun x56 _ h=>?_
   exact z17
  conv=>whnf
  try simp only [IF] at h
  exact ⟨⟨(),h⟩,As⟩
 obtain ⟨_,h⟩:=p
 simp only [Ld] at h
 refine z5 h (fun p=>Cd 100 [(1,.ptr 1 1 0),(6,.d (.int .i64 p.1)),(7,.d (.int .i64 p.2))] [(1,.var [.d (.str p0.Name),.d (Ah 2 By p0.Codes)],1)]) As fun _ _ ⟨v6_3,v7_3⟩ h=>?_
 simp only [Oq] at h
 refine AM h (fun h=>?_) fun h=>?_
 ·refine AU h (fun _=>Wv _ _ _) fun x87 h=>?_
  refine AM h (fun h=>?_) fun h=>?_
  ·refine AM h (fun h=>?_) fun h=>?_
   ·refine AU h (fun _=>Ho _ _ _) fun x93 h=>?_
    refine An h fun h=>?_
    conv=>whnf
    obtain ⟨x99,hx99,h⟩:=A9 h
    refine A1 (Ho _ _ _ hx99) ?_
    exact z22
   obtain ⟨x99,hx99,h⟩:=A9 h
   refine A1 (Ho _ _ _ hx99) ?_
   exact z22
  exact z22
 conv=>whnf
 try simp only [IF] at h
 exact AD h
theorem Ju (p0:Int) (p1:Int) (p2:Int) (R:Bool) (h:IL p0 p1 p2 = some R):Al Tryz.prog 98 [.d (.int .i64 p0),.d (.int .i64 p1),.d (.int .i64 p2)] (.d (.bool R)):=by
 refine Cn Tryz.func98 ?_
 unfold IL at h
 exact AD h
theorem SZ (p0:A4) (R:Int) (h:Hp p0 = some R):Al Tryz.prog 99 [.d (Ai p0)] (.d (.int .i64 R)):=by
 refine Ek [3] Tryz.func99 (by kernel_rfl) ?_
 unfold Hp at h
 refine Ga {p:Unit // GO p0 = some R} (fun p=>Cd 79 [(1,.ptr 1 1 0)] [(1,.var [.d (.str p0.Name),.d (.int .i64 p0.Kind),.d (.int .i64 p0.List_),.d (.int .i64 p0.Low),.d (.int .i64 p0.High),.d (Ah 1 (D.int .i64) p0.Widths),.d (.bool p0.Optional)],1)]) ?_ fun p=>?_
 ·refine AU h (fun _=>Ju _ _ _ _) fun x7 h=>?_
  refine An h fun h=>?_
  refine AU h (fun _=>Ju _ _ _ _) fun x12 h=>?_
  exact z33
 obtain ⟨_,h⟩:=p
 simp only [GO] at h
 refine An h fun h=>?_
 refine z5 h (fun p=>Cd 79 [(1,.ptr 1 1 0),(3,.d (.int .i64 p))] [(1,.var [.d (.str p0.Name),.d (.int .i64 p0.Kind),.d (.int .i64 p0.List_),.d (.int .i64 p0.Low),.d (.int .i64 p0.High),.d (Ah 1 (D.int .i64) p0.Widths),.d (.bool p0.Optional)],1)]) As fun _ _ v3_1 h=>?_
 simp only [MA] at h
 refine B0 h fun h=>?_
 refine B6 (f:=(D.int .i64)) h fun x42 _ h=>?_
 refine An h fun h=>?_
 refine AM h (fun h=>?_) fun h=>?_
 ·refine B6 (f:=(D.int .i64)) h fun x59 _ h=>?_
  refine An h fun h=>?_
  refine B6 (f:=(D.int .i64)) h fun x72 _ h=>?_
  conv=>whnf
  exact z49
 exact Cw ⟨(_,_),h⟩ As
theorem Ul (p0:Ae) (p1:Int) (R:Int) (h:IK p0 p1 = some R):Al Tryz.prog 53 [.d (Au p0),.d (.int .i64 p1)] (.d (.int .i64 R)):=by
 refine Ek [9,13] Tryz.func53 (by kernel_rfl) ?_
 unfold IK at h
 refine B6 (f:=Ai) h fun x11 _ h=>?_
 refine AU h (fun _=>EP _ _) fun x15 h=>?_
 refine An h fun h=>?_
 refine Ga {p:Unit // H4 x11 p1 p0 = some R} (fun p=>Cd 98 [(1,.d (.int .i64 p1)),(2,.ptr 2 1 0),(5,.ptr 5 1 0)] [(2,.var [.d (Ah 2 Af p0.Lists),.d (Ah 7 Ai p0.Columns)],1),(5,.var [.d (.str x11.Name),.d (.int .i64 x11.Kind),.d (.int .i64 x11.List_),.d (.int .i64 x11.Low),.d (.int .i64 x11.High),.d (Ah 1 (D.int .i64) x11.Widths),.d (.bool x11.Optional)],1)]) ?_ fun p=>?_
 ·refine z5 h (fun p=>Cd 98 [(1,.d (.int .i64 p1)),(2,.ptr 2 1 0),(5,.ptr 5 1 0),(6,.d (.int .i64 p))] [(2,.var [.d (Ah 2 Af p0.Lists),.d (Ah 7 Ai p0.Columns)],1),(5,.var [.d (.str x11.Name),.d (.int .i64 x11.Kind),.d (.int .i64 x11.List_),.d (.int .i64 x11.Low),.d (.int .i64 x11.High),.d (Ah 1 (D.int .i64) x11.Widths),.d (.bool x11.Optional)],1)]) As fun _ _ v6_1 h=>?_
  simp only [H3] at h
  refine AM h (fun h=>?_) fun h=>?_
  ·conv=>whnf
   refine z13 ?_
   refine B6 (f:=Ai) h fun x25 _ h=>?_
   exact z17
  conv=>whnf
  exact ⟨⟨(),h⟩,As⟩
 obtain ⟨_,h⟩:=p
 simp only [H4] at h
 refine AU h (fun _=>Ju _ _ _ _) fun x33 h=>?_
 refine An h fun h=>?_
 refine Ga {p:Unit // E9 x11 = some R} (fun p=>Cd 98 [(5,.ptr 5 1 0)] [(5,.var [.d (.str x11.Name),.d (.int .i64 x11.Kind),.d (.int .i64 x11.List_),.d (.int .i64 x11.Low),.d (.int .i64 x11.High),.d (Ah 1 (D.int .i64) x11.Widths),.d (.bool x11.Optional)],1)]) ?_ fun p=>?_
 ·refine AM h (fun h=>?_) fun h=>?_
  ·obtain ⟨x54,hx54,h⟩:=A9 h
   first | refine A1 (Ju _ _ _ _ hx54) ?_ | (simp only [List.length_map]; refine A1 (Ju _ _ _ _ hx54) ?_)
   exact z33
  exact ⟨⟨(),h⟩,As⟩
 obtain ⟨_,h⟩:=p
 simp only [E9] at h
 refine AM h (fun h=>?_) fun h=>?_
 ·refine AU h (fun _=>SZ _ _) fun x61 h=>?_
  refine An h fun h=>?_
  exact Eb h
 exact Eb h
theorem EV (p0:Ae) (R:Int) (h:Cv p0 = some R):Al Tryz.prog 29 [.d (Au p0)] (.d (.int .i64 R)):=by
 refine Ek [14] Tryz.func29 (by kernel_rfl) ?_
 unfold Cv at h
 refine An h fun h=>?_
 refine Ga {p:Unit // IJ p0 = some R} (fun p=>Cd 77 [(1,.ptr 1 1 0)] [(1,.var [.d (Ah 2 Af p0.Lists),.d (Ah 7 Ai p0.Columns)],1)]) ?_ fun p=>?_
 ·refine z5 h (fun p=>Cd 77 [(1,.ptr 1 1 0),(3,.d (.int .i64 p))] [(1,.var [.d (Ah 2 Af p0.Lists),.d (Ah 7 Ai p0.Columns)],1)]) As fun _ _ v3_1 h=>?_
  simp only [IG] at h
  refine AM h (fun h=>?_) fun h=>?_
  ·refine B6 (f:=Af) h fun x28 _ h=>?_
   refine AU h (fun _=>P6 _ _) fun x30 h=>?_
   refine An h fun h=>?_
   refine z5 h (fun p=>Cd 77 [(1,.ptr 1 1 0),(3,.d (.int .i64 v3_1)),(5,.d (.int .i64 p))] [(1,.var [.d (Ah 2 Af p0.Lists),.d (Ah 7 Ai p0.Columns)],1)]) As fun _ _ v5_2 h=>?_
   simp only [IH] at h
   refine AM h (fun h=>?_) fun h=>?_
   ·conv=>whnf
    refine z13 ?_
    refine B6 (f:=Af) h fun x42 _ h=>?_
    refine B6 (f:=Af) h fun x48 _ h=>?_
    exact z17
   conv=>whnf
   try simp only [ref02_Check_k1] at h
   exact Cw ⟨(_,_),h⟩ As
  conv=>whnf
  try simp only [ref02_Check_k1] at h
  exact ⟨⟨(),h⟩,As⟩
 obtain ⟨_,h⟩:=p
 simp only [IJ] at h
 refine An h fun h=>?_
 refine B6 (f:=Ai) h fun x59 _ h=>?_
 refine An h fun h=>?_
 refine z5 h (fun p=>Cd 77 [(1,.ptr 1 1 0),(6,.d (.int .i64 p))] [(1,.var [.d (Ah 2 Af p0.Lists),.d (Ah 7 Ai p0.Columns)],1)]) As fun _ _ v6_3 h=>?_
 simp only [II] at h
 refine AM h (fun h=>?_) fun h=>?_
 ·refine AU h (fun _=>Ul _ _ _) fun x73 h=>?_
  exact z17
 conv=>whnf
 try simp only [ref02_Check_k1] at h
 exact AD h
theorem Uk (p0:Ay) (R:Int) (h:GN p0 = some R):Al Tryz.prog 144 [.d (Af p0)] (.d (.int .i64 R)):=by
 refine Cn Tryz.func144 ?_
 unfold GN at h
 refine AU h (fun _=>P6 _ _) fun x4 h=>?_
 refine An h fun h=>?_
 conv=>whnf
 obtain ⟨x11,hx11,h⟩:=A9 h
 first | refine A1 (Ho _ _ _ hx11) ?_ | (simp only [List.length_map]; refine A1 (Ho _ _ _ hx11) ?_)
 exact AD h
theorem Lf (p0:Ae) (p1:Int) (R:Int) (h:EQ p0 p1 = some R):Al Tryz.prog 79 [.d (Au p0),.d (.int .i64 p1)] (.d (.int .i64 R)):=by
 refine Cn Tryz.func79 ?_
 unfold EQ at h
 refine AU h (fun _=>EV _ _) fun x7 h=>?_
 refine An h fun h=>?_
 refine B6 (f:=Ai) h fun x23 _ h=>?_
 refine B0 h fun h=>?_
 refine B6 (f:=Af) h fun x32 _ h=>?_
 refine AU h (fun _=>Uk _ _) fun x34 h=>?_
 exact AD h
theorem Um (d:Nat) (self_ref05_count:(Aj→Int→Option Int)) (ih_ref05_count:∀ (p0:Aj) (p1:Int) (R:Int) ,self_ref05_count p0 p1 = some R→Al Tryz.prog 91 [.d (Ad p0),.d (.int .i64 p1)] (.d (.int .i64 R))) (p0:Aj) (p1:Int) (R:Int) (h:EX d self_ref05_count p0 p1 = some R):Al Tryz.prog 91 [.d (Ad p0),.d (.int .i64 p1)] (.d (.int .i64 R)):=by
 refine Cn Tryz.func91 ?_
 unfold EX at h
 refine z5 h (fun p=>Cd 31 [(1,.d (.int .i64 p1)),(2,.ptr 2 1 0),(5,.d (.int .i64 p.1)),(6,.d (.int .i64 p.2))] [(2,.var [.d (.int .i64 p0.Op),.d (.int .i64 p0.Column),.d (.int .i64 p0.Code),.d (.int .i64 p0.Low),.d (.int .i64 p0.High),.d (Ah 6 Ap p0.Kids)],1)]) A0 fun _ _ ⟨v5_1,v6_1⟩ h=>?_
 simp only [GB] at h
 refine AM h (fun h=>?_) fun h=>?_
 ·refine B6 (f:=Ap) h fun x23 _ h=>?_
  rw [Aa x23]
  conv=>whnf
  obtain ⟨x28,hx28,h⟩:=A9 h
  first | refine A1 (ih_ref05_count _ _ _ hx28) ?_ | (simp only [List.length_map]; refine A1 (ih_ref05_count _ _ _ hx28) ?_)
  exact z27
 exact z16
theorem Ov:∀ d:Nat,(∀ (p0:Aj) (p1:Int) (R:Int) ,F4 d p0 p1 = some R→Al Tryz.prog 91 [.d (Ad p0),.d (.int .i64 p1)] (.d (.int .i64 R)))
 | 0=>by
  exact z24
 | d + 1=>by
  have ih:=Ov d
  exact Um d _ ih
theorem UM (d:Nat):∀ (p0:Aj) (p1:Int) (R:Int) ,F4 d p0 p1 = some R→Al Tryz.prog 91 [.d (Ad p0),.d (.int .i64 p1)] (.d (.int .i64 R)):=Ov d
theorem Un (d:Nat) (self_ref05_depth:(Aj→Option Int)) (ih_ref05_depth:∀ (p0:Aj) (R:Int) ,self_ref05_depth p0 = some R→Al Tryz.prog 92 [.d (Ad p0)] (.d (.int .i64 R))) (p0:Aj) (R:Int) (h:JC d self_ref05_depth p0 = some R):Al Tryz.prog 92 [.d (Ad p0)] (.d (.int .i64 R)):=by
 refine Cn Tryz.func92 ?_
 unfold JC at h
 refine z5 h (fun p=>Cd 22 [(1,.ptr 1 1 0),(3,.d (.int .i64 p.1)),(4,.d (.int .i64 p.2))] [(1,.var [.d (.int .i64 p0.Op),.d (.int .i64 p0.Column),.d (.int .i64 p0.Code),.d (.int .i64 p0.Low),.d (.int .i64 p0.High),.d (Ah 6 Ap p0.Kids)],1)]) A0 fun _ _ ⟨v3_1,v4_1⟩ h=>?_
 simp only [Ow] at h
 refine AM h (fun h=>?_) fun h=>?_
 ·refine B6 (f:=Ap) h fun x16 _ h=>?_
  rw [Aa x16]
  conv=>whnf
  obtain ⟨x18,hx18,h⟩:=A9 h
  first | refine A1 (ih_ref05_depth _ _ hx18) ?_ | (simp only [List.length_map]; refine A1 (ih_ref05_depth _ _ hx18) ?_)
  exact z27
 exact z16
theorem Ox:∀ d:Nat,(∀ (p0:Aj) (R:Int) ,F5 d p0 = some R→Al Tryz.prog 92 [.d (Ad p0)] (.d (.int .i64 R)))
 | 0=>by
  exact z24
 | d + 1=>by
  have ih:=Ox d
  exact Un d _ ih
theorem UN (d:Nat):∀ (p0:Aj) (R:Int) ,F5 d p0 = some R→Al Tryz.prog 92 [.d (Ad p0)] (.d (.int .i64 R)):=Ox d
theorem Ql (p0:Ae) (p1:Int) (p2:Int) (R:Bool) (h:Fv p0 p1 p2 = some R):Al Tryz.prog 157 [.d (Au p0),.d (.int .i64 p1),.d (.int .i64 p2)] (.d (.bool R)):=by
 refine Cn Tryz.func157 ?_
 unfold Fv at h
 refine B0 h fun h=>?_
 refine B6 (f:=Ai) h fun x20 _ h=>?_
 exact AD h
theorem UO (d:Nat) (self_ref05_node:(Ae→Aj→Option Int)) (ih_ref05_node:∀ (p0:Ae) (p1:Aj) (R:Int) ,self_ref05_node p0 p1 = some R→Al Tryz.prog 93 [.d (Au p0),.d (Ad p1)] (.d (.int .i64 R))) (p0:Ae) (p1:Aj) (R:Int) (h:CC d self_ref05_node p0 p1 = some R):Al Tryz.prog 93 [.d (Au p0),.d (Ad p1)] (.d (.int .i64 R)):=by
 refine Ek [16,20,22] Tryz.func93 (by kernel_rfl) ?_
 unfold CC at h
 conv=>whnf
 refine z13 ?_
 refine Ga {p:(Int × Int × Int × Int × Int) // AE p1 p0 self_ref05_node p.1 p.2.1 p.2.2.1 p.2.2.2.1 p.2.2.2.2 = some R} (fun p=>Cd 185 [(2,.ptr 2 1 0),(3,.ptr 3 1 0),(5,.d (.int .i64 p.1.1)),(6,.ptr 6 1 0)] [(2,.var [.d (Ah 2 Af p0.Lists),.d (Ah 7 Ai p0.Columns)],1),(3,.var [.d (.int .i64 p1.Op),.d (.int .i64 p1.Column),.d (.int .i64 p1.Code),.d (.int .i64 p1.Low),.d (.int .i64 p1.High),.d (Ah 6 Ap p1.Kids)],1),(6,.var [.d (.int .i64 p1.Op),.d (.int .i64 p.1.2.1),.d (.int .i64 p.1.2.2.1),.d (.int .i64 p.1.2.2.2.1),.d (.int .i64 p.1.2.2.2.2),.d (.nil 6)],1)]) ?_ fun p=>?_
 ·refine AM h (fun h=>?_) fun h=>?_
  ·exact z41
  refine AM h (fun h=>?_) fun h=>?_
  ·conv=>whnf
   refine z13 ?_
   exact z41
  refine AM h (fun h=>?_) fun h=>?_
  ·conv=>whnf
   refine z13 ?_
   exact z41
  refine AM h (fun h=>?_) fun h=>?_
  ·exact z41
  conv=>whnf
  refine K1 h Cc (fun e40 h=>?_) (fun e40 h=>?_)
  ·conv=>whnf
   refine Lt Cc e40 ?_
   exact z41
  refine AM h (fun h=>?_) fun h=>?_
  ·exact z41
  refine AM h (fun h=>?_) fun h=>?_
  ·exact z41
  exact z16
 obtain ⟨⟨j5_1,k6_1_1,k6_2_1,k6_3_1,k6_4_1⟩,h⟩:=p
 simp only [AE] at h
 refine AM h (fun h=>?_) fun h=>?_
 ·exact z16
 refine Ga {p:Unit // Bs p1 p0 self_ref05_node = some R} (fun p=>Cd 185 [(2,.ptr 2 1 0),(3,.ptr 3 1 0)] [(2,.var [.d (Ah 2 Af p0.Lists),.d (Ah 7 Ai p0.Columns)],1),(3,.var [.d (.int .i64 p1.Op),.d (.int .i64 p1.Column),.d (.int .i64 p1.Code),.d (.int .i64 p1.Low),.d (.int .i64 p1.High),.d (Ah 6 Ap p1.Kids)],1)]) ?_ fun p=>?_
 ·conv=>whnf
  refine K1 h Cc (fun e29 h=>?_) (fun e29 h=>?_)
  ·refine AU h (fun _=>Ql _ _ _ _) fun x85 h=>?_
   refine AM h (fun h=>?_) fun h=>?_
   ·exact z20
   refine eW Cc (fh e29) ?_
   refine eW Cc (fh e29) ?_
   exact ⟨⟨(),h⟩,A0⟩
  refine K1 h Cc (fun e31 h=>?_) (fun e31 h=>?_)
  ·refine AU h (fun _=>Ql _ _ _ _) fun x96 h=>?_
   refine AM h (fun h=>?_) fun h=>?_
   ·exact z20
   refine eW Cc (fh e31) ?_
   exact ⟨⟨(),h⟩,A0⟩
  refine AM h (fun h=>?_) fun h=>?_
  ·refine AU h (fun _=>Ql _ _ _ _) fun x108 h=>?_
   refine AM h (fun h=>?_) fun h=>?_
   ·exact z20
   refine B6 (f:=Ai) h fun x115 _ h=>?_
   refine AM h (fun h=>?_) fun h=>?_
   ·exact z16
   exact z50
  exact ⟨⟨(),h⟩,A0⟩
 obtain ⟨_,h⟩:=p
 simp only [Bs] at h
 refine Ga {p:Unit // BE p1 self_ref05_node p0 = some R} (fun p=>Cd 185 [(2,.ptr 2 1 0),(3,.ptr 3 1 0)] [(2,.var [.d (Ah 2 Af p0.Lists),.d (Ah 7 Ai p0.Columns)],1),(3,.var [.d (.int .i64 p1.Op),.d (.int .i64 p1.Column),.d (.int .i64 p1.Code),.d (.int .i64 p1.Low),.d (.int .i64 p1.High),.d (Ah 6 Ap p1.Kids)],1)]) ?_ fun p=>?_
 ·conv=>whnf
  refine z13 ?_
  refine AM h (fun h=>?_) fun h=>?_
  ·refine AM h (fun h=>?_) fun h=>?_
   ·exact z20
   refine B6 (f:=Ai) h fun x138 _ h=>?_
   refine B6 (f:=Af) h fun x141 _ h=>?_
   refine AM h (fun h=>?_) fun h=>?_
   ·exact z16
   exact z50
  exact ⟨⟨(),h⟩,A0⟩
 obtain ⟨_,h⟩:=p
 simp only [BE] at h
 refine AM h (fun h=>?_) fun h=>?_
 ·exact z16
 refine z5 h (fun p=>Cd 185 [(2,.ptr 2 1 0),(3,.ptr 3 1 0),(7,.d (.int .i64 p))] [(2,.var [.d (Ah 2 Af p0.Lists),.d (Ah 7 Ai p0.Columns)],1),(3,.var [.d (.int .i64 p1.Op),.d (.int .i64 p1.Column),.d (.int .i64 p1.Code),.d (.int .i64 p1.Low),.d (.int .i64 p1.High),.d (Ah 6 Ap p1.Kids)],1)]) A0 fun _ _ v7_1 h=>?_
 simp only [EY] at h
 refine AM h (fun h=>?_) fun h=>?_
 ·conv=>whnf
  refine z13 ?_
  refine B6 (f:=Ap) h fun x179 _ h=>?_
  rw [Aa x179]
  conv=>whnf
  obtain ⟨x181,hx181,h⟩:=A9 h
  first | refine A1 (ih_ref05_node _ _ _ hx181) ?_ | (simp only [List.length_map]; refine A1 (ih_ref05_node _ _ _ hx181) ?_)
  refine AM h (fun h=>?_) fun h=>?_
  ·exact z16
  exact z43
 exact z16
theorem P9:∀ d:Nat,(∀ (p0:Ae) (p1:Aj) (R:Int) ,Ds d p0 p1 = some R→Al Tryz.prog 93 [.d (Au p0),.d (Ad p1)] (.d (.int .i64 R)))
 | 0=>by
  exact z24
 | d + 1=>by
  have ih:=P9 d
  exact UO d _ ih
theorem Wx (d:Nat):∀ (p0:Ae) (p1:Aj) (R:Int) ,Ds d p0 p1 = some R→Al Tryz.prog 93 [.d (Au p0),.d (Ad p1)] (.d (.int .i64 R)):=P9 d
theorem Hq (d:Nat) (p0:Ae) (p1:Aj) (R:Int) (h:BW d p0 p1 = some R):Al Tryz.prog 48 [.d (Au p0),.d (Ad p1)] (.d (.int .i64 R)):=by
 refine Cn Tryz.func48 ?_
 unfold BW at h
 refine AU h (fun _=>EV _ _) fun x7 h=>?_
 refine AM h (fun h=>?_) fun h=>?_
 ·exact z16
 refine AU h (fun _=>UM _ _ _ _) fun x12 h=>?_
 refine AM h (fun h=>?_) fun h=>?_
 ·exact z16
 refine AU h (fun _=>UN _ _ _) fun x15 h=>?_
 refine AM h (fun h=>?_) fun h=>?_
 ·exact z16
 refine AU h (fun _=>Wx _ _ _ _) fun x19 h=>?_
 exact z16
theorem Nk (p0:Ae) (p1:Int) (p2:Int) (R:Bool) (h:Dm p0 p1 p2 = some R):Al Tryz.prog 101 [.d (Au p0),.d (.int .i64 p1),.d (.int .i64 p2)] (.d (.bool R)):=by
 refine Cn Tryz.func101 ?_
 unfold Dm at h
 refine B0 h fun h=>?_
 refine B6 (f:=Ai) h fun x20 _ h=>?_
 exact AD h
theorem Ww (p0:Ae) (p1:Aw) (R:Int) (h:EW p0 p1 = some R):Al Tryz.prog 159 [.d (Au p0),.d (Ak p1)] (.d (.int .i64 R)):=by
 refine Cn Tryz.func159 ?_
 unfold EW at h
 refine AU h (fun _=>EV _ _) fun x7 h=>?_
 refine An h fun h=>?_
 refine An h fun h=>?_
 conv=>whnf
 refine z13 ?_
 refine AU h (fun _=>Lf _ _ _) fun x27 h=>?_
 refine AU h (fun _=>Ju _ _ _ _) fun x28 h=>?_
 exact Eb h
end Go.Proofs.YtjghjdokjgcehaaGreatDoor.P
