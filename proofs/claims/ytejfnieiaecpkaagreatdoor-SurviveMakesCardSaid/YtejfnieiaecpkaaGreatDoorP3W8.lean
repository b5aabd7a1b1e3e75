/- P3W8 -/
import Derived.Test.YtejfnieiaecpkaaGreatDoorP3W7
set_option linter.unusedSimpArgs false
namespace Go.Proofs.YtejfnieiaecpkaaGreatDoor.P
open Go.Abs Go.Proofs
set_option maxRecDepth 100000
set_option maxHeartbeats 40000000
set_option linter.unusedVariables false
theorem Pg (p0:Aa) (p1:Int) (p2:Int) (p3:Int) (R:Bool) (h:FK p0 p1 p2 p3 = some R):Aj Tryz.prog 93 [.d (Ai p0),.d (.int .i64 p1),.d (.int .i64 p2),.d (.int .i64 p3)] (.d (.bool R)):=by
 refine Ch Tryz.func93 ?_
 unfold FK at h
 refine A7 h (fun _=>Cd _ _ _) fun x18 h=>?_
 refine A7 h (fun _=>C8 _ _ _ _) fun x19 h=>?_
 refine An h fun h=>?_
 refine AO (f:=Ad) h fun x24 _ h=>?_
 refine AW h (fun h=>?_) fun h=>?_
 ·refine A7 h (fun _=>FG _ _ _) fun x31 h=>?_
  refine z3 h (fun p=>B8 65 [(1,.d (.int .i64 p1)),(2,.d (.int .i64 p2)),(3,.d (.int .i64 p3)),(4,.ptr 4 1 0),(10,.d (Al 1 (D.int .i64) x31)),(11,.d (.int .i64 p))] [(4,.var [.d (Al 2 Ac p0.Lists),.d (Al 7 Ad p0.Columns)],1)]) Ah fun _ _ v11_1 h=>?_
  simp only [NW] at h
  refine Bj h fun h=>?_
  conv=>whnf
  refine z11 ?_
  refine AO (f:=(D.int .i64)) h fun x43 _ h=>?_
  refine A7 h (fun _=>BS _ _ _ _ _) fun x45 h=>?_
  exact z12
 refine An h fun h=>?_
 refine A7 h (fun _=>MG _ _ _ _) fun x60 h=>?_
 exact A3 h
theorem Qh (p0:Aa) (p1:Aw) (R:Int) (h:FR p0 p1 = some R):Aj Tryz.prog 44 [.d (Ai p0),.d (Ci p1)] (.d (.int .i64 R)):=by
 refine Dt [19] Tryz.func44 (by kernel_rfl) ?_
 unfold FR at h
 refine A7 h (fun _=>Dd _ _) fun x11 h=>?_
 refine An h fun h=>?_
 refine A7 h (fun _=>EW _ _) fun x17 h=>?_
 refine An h fun h=>?_
 refine An h fun h=>?_
 refine A7 h (fun _=>Kj _ _ _) fun x30 h=>?_
 refine An h fun h=>?_
 refine An h fun h=>?_
 refine z3 h (fun p=>B8 112 [(2,.ptr 2 1 0),(3,.ptr 3 1 0),(7,.d (.int .i64 p))] [(2,.var [.d (Al 2 Ac p0.Lists),.d (Al 7 Ad p0.Columns)],1),(3,.var [.d (.str p1.Project),.d (.int .i64 p1.Version),.d (Al 2 Ag p1.Picks),.d (Al 1 (Al 1 (D.int .i64)) p1.Rows)],1)]) Ah fun P1 k1 v7_1 h=>?_
 simp only [Jv] at h
 refine AW h (fun h=>?_) fun h=>?_
 ·refine AO (f:=(Al 1 (D.int .i64))) h fun x48 _ h=>?_
  refine F0 {p:Unit // Jh p1 x48 p0 v7_1 (P1 k1) = some R} (fun p=>B8 112 [(2,.ptr 2 1 0),(3,.ptr 3 1 0),(7,.d (.int .i64 v7_1)),(8,.d (Al 1 (D.int .i64) x48))] [(2,.var [.d (Al 2 Ac p0.Lists),.d (Al 7 Ad p0.Columns)],1),(3,.var [.d (.str p1.Project),.d (.int .i64 p1.Version),.d (Al 2 Ag p1.Picks),.d (Al 1 (Al 1 (D.int .i64)) p1.Rows)],1)]) ?_ fun p=>?_
  ·refine An h fun h=>?_
   refine AO (f:=(D.int .i64)) h fun x59 _ h=>?_
   refine An h fun h=>?_
   refine AO (f:=(D.int .i64)) h fun x65 _ h=>?_
   exact z23
  obtain ⟨_,h⟩:=p
  simp only [Jh] at h
  refine z3 h (fun p=>B8 112 [(2,.ptr 2 1 0),(3,.ptr 3 1 0),(7,.d (.int .i64 v7_1)),(8,.d (Al 1 (D.int .i64) x48)),(9,.d (.int .i64 p))] [(2,.var [.d (Al 2 Ac p0.Lists),.d (Al 7 Ad p0.Columns)],1),(3,.var [.d (.str p1.Project),.d (.int .i64 p1.Version),.d (Al 2 Ag p1.Picks),.d (Al 1 (Al 1 (D.int .i64)) p1.Rows)],1)]) Ah fun _ _ v9_2 h=>?_
  simp only [Jp] at h
  refine AW h (fun h=>?_) fun h=>?_
  ·conv=>whnf
   refine z11 ?_
   refine AO (f:=Ag) h fun x80 _ h=>?_
   refine AO (f:=Ag) h fun x86 _ h=>?_
   refine AO (f:=(D.int .i64)) h fun x92 _ h=>?_
   refine A7 h (fun _=>Pg _ _ _ _ _) fun x94 h=>?_
   exact z12
  conv=>whnf
  try simp only [Jq] at h
  refine z11 ?_
  refine AW h (fun h=>?_) fun h=>?_
  ·refine AO (f:=(D.int .i64)) h fun x100 _ h=>?_
   refine AO (f:=(Al 1 (D.int .i64))) h fun x106 _ h=>?_
   refine AO (f:=(D.int .i64)) h fun x108 _ h=>?_
   exact z12
  exact z39
 conv=>whnf
 try simp only [Jq] at h
 exact A3 h
theorem Yf (p0:Aa) (p1:Int) (p2:Int) (p3:Int) (R:Int) (h:Da p0 p1 p2 p3 = some R):Aj Tryz.prog 162 [.d (Ai p0),.d (.int .i64 p1),.d (.int .i64 p2),.d (.int .i64 p3)] (.d (.int .i64 R)):=by
 refine Ch Tryz.func162 ?_
 unfold Da at h
 refine AO (f:=Ad) h fun x18 _ h=>?_
 refine AW h (fun h=>?_) fun h=>?_
 ·refine A7 h (fun _=>FG _ _ _) fun x25 h=>?_
  refine z3 h (fun p=>B8 62 [(1,.d (.int .i64 p1)),(2,.d (.int .i64 p2)),(3,.d (.int .i64 p3)),(4,.ptr 4 1 0),(10,.d (Al 1 (D.int .i64) x25)),(11,.d (.int .i64 p))] [(4,.var [.d (Al 2 Ac p0.Lists),.d (Al 7 Ad p0.Columns)],1)]) Ah fun _ _ v11_1 h=>?_
  simp only [MD] at h
  refine Bj h fun h=>?_
  conv=>whnf
  refine z11 ?_
  refine AO (f:=(D.int .i64)) h fun x37 _ h=>?_
  refine A7 h (fun _=>BS _ _ _ _ _) fun x39 h=>?_
  refine AW h (fun h=>?_) fun h=>?_
  ·refine AO (f:=(D.int .i64)) h fun x44 _ h=>?_
   exact A3 h
  conv=>whnf
  exact z39
 refine An h fun h=>?_
 refine A7 h (fun _=>MG _ _ _ _) fun x57 h=>?_
 exact A3 h
theorem TV (d:Nat) (self_ref05_coarse:(Aa→Af→(List Ae)→(List Int)→Option Int)) (ih_ref05_coarse:∀ (p0:Aa) (p1:Af) (p2:(List Ae)) (p3:(List Int)) (R:Int) ,self_ref05_coarse p0 p1 p2 p3 = some R→Aj Tryz.prog 97 [.d (Ai p0),.d (Ax p1),.d (Al 2 Ag p2),.d (Al 1 (D.int .i64) p3)] (.d (.int .i64 R))) (p0:Aa) (p1:Af) (p2:(List Ae)) (p3:(List Int)) (R:Int) (h:Cq d self_ref05_coarse p0 p1 p2 p3 = some R):Aj Tryz.prog 97 [.d (Ai p0),.d (Ax p1),.d (Al 2 Ag p2),.d (Al 1 (D.int .i64) p3)] (.d (.int .i64 R)):=by
 refine Ch Tryz.func97 ?_
 unfold Cq at h
 refine AW h (fun h=>?_) fun h=>?_
 ·refine z3 h (fun p=>B8 82 [(2,.d (Al 2 Ag p2)),(3,.d (Al 1 (D.int .i64) p3)),(4,.ptr 4 1 0),(5,.ptr 5 1 0),(9,.d (.int .i64 p.1)),(10,.d (.int .i64 p.2.1)),(11,.d (.int .i64 p.2.2))] [(4,.var [.d (Al 2 Ac p0.Lists),.d (Al 7 Ad p0.Columns)],1),(5,.var [.d (.int .i64 p1.Op),.d (.int .i64 p1.Column),.d (.int .i64 p1.Code),.d (.int .i64 p1.Low),.d (.int .i64 p1.High),.d (Al 6 Ao p1.Kids)],1)]) Aq fun _ _ ⟨v9_1,v10_1,v11_1⟩ h=>?_
  simp only [GH] at h
  refine AW h (fun h=>?_) fun h=>?_
  ·conv=>whnf
   refine z11 ?_
   refine AO (f:=Ag) h fun x35 _ h=>?_
   refine AW h (fun h=>?_) fun h=>?_
   ·conv=>whnf
    refine z11 ?_
    refine AO (f:=Ag) h fun x43 _ h=>?_
    refine AO (f:=(D.int .i64)) h fun x48 _ h=>?_
    conv=>whnf
    exact BE ⟨(_,(_,_,_)),h⟩ Aq
   conv=>whnf
   exact BE ⟨(_,(_,_,_)),h⟩ Aq
  conv=>whnf
  refine z11 ?_
  refine A7 h (fun _=>Yf _ _ _ _ _) fun x57 h=>?_
  refine A7 h (fun _=>KZ _ _ _ _) fun x58 h=>?_
  exact AM h
 refine z3 h (fun p=>B8 82 [(2,.d (Al 2 Ag p2)),(3,.d (Al 1 (D.int .i64) p3)),(4,.ptr 4 1 0),(5,.ptr 5 1 0),(12,.sl 12 1),(13,.d (.int .i64 p.1))] [(4,.var [.d (Al 2 Ac p0.Lists),.d (Al 7 Ad p0.Columns)],1),(5,.var [.d (.int .i64 p1.Op),.d (.int .i64 p1.Column),.d (.int .i64 p1.Code),.d (.int .i64 p1.Low),.d (.int .i64 p1.High),.d (Al 6 Ao p1.Kids)],1),(12,.row 1 3 (List.map (D.int .i64) p.2),1)]) Aq fun _ _ ⟨v13_2,b12_2⟩ h=>?_
 simp only [GK] at h
 refine AW h (fun h=>?_) fun h=>?_
 ·conv=>whnf
  refine z11 ?_
  refine AO (f:=Ao) h fun x71 _ h=>?_
  rw [A9 x71]
  conv=>whnf
  obtain ⟨x75,hx75,h⟩:=AB h
  first | refine Au (ih_ref05_coarse _ _ _ _ _ hx75) ?_ | (simp only [List.length_map]; refine Au (ih_ref05_coarse _ _ _ _ _ hx75) ?_)
  conv=>whnf
  exact z43
 refine A7 h (fun _=>RF _ _ _) fun x81 h=>?_
 exact AM h
theorem On:∀ d:Nat,(∀ (p0:Aa) (p1:Af) (p2:(List Ae)) (p3:(List Int)) (R:Int) ,BQ d p0 p1 p2 p3 = some R→Aj Tryz.prog 97 [.d (Ai p0),.d (Ax p1),.d (Al 2 Ag p2),.d (Al 1 (D.int .i64) p3)] (.d (.int .i64 R)))
 | 0=>by
  exact z22
 | d + 1=>by
  have ih:=On d
  exact TV d _ ih
theorem Vt (d:Nat):∀ (p0:Aa) (p1:Af) (p2:(List Ae)) (p3:(List Int)) (R:Int) ,BQ d p0 p1 p2 p3 = some R→Aj Tryz.prog 97 [.d (Ai p0),.d (Ax p1),.d (Al 2 Ag p2),.d (Al 1 (D.int .i64) p3)] (.d (.int .i64 R)):=On d
theorem JA (d:Nat) (p0:Aa) (p1:Af) (p2:(List Ae)) (p3:(List Int)) (R:Int) (h:Gc d p0 p1 p2 p3 = some R):Aj Tryz.prog 45 [.d (Ai p0),.d (Ax p1),.d (Al 2 Ag p2),.d (Al 1 (D.int .i64) p3)] (.d (.int .i64 R)):=by
 refine Dt [3] Tryz.func45 (by kernel_rfl) ?_
 unfold Gc at h
 refine F0 {p:Unit // Ii p2 p3 p0 d p1 = some R} (fun p=>B8 63 [(2,.d (Al 2 Ag p2)),(3,.d (Al 1 (D.int .i64) p3)),(4,.ptr 4 1 0),(5,.ptr 5 1 0)] [(4,.var [.d (Al 2 Ac p0.Lists),.d (Al 7 Ad p0.Columns)],1),(5,.var [.d (.int .i64 p1.Op),.d (.int .i64 p1.Column),.d (.int .i64 p1.Code),.d (.int .i64 p1.Low),.d (.int .i64 p1.High),.d (Al 6 Ao p1.Kids)],1)]) ?_ fun p=>?_
 ·refine A7 h (fun _=>Ev _ _ _ _) fun x12 h=>?_
  refine A2 h fun h=>?_
  refine A7 h (fun _=>Kj _ _ _) fun x17 h=>?_
  refine A2 h fun h=>?_
  refine A7 h (fun _=>Kf _ _ _ _) fun x30 h=>?_
  refine A7 h (fun _=>LF _ _ _) fun x32 h=>?_
  exact z35
 obtain ⟨_,h⟩:=p
 simp only [Ii] at h
 refine z3 h (fun p=>B8 63 [(2,.d (Al 2 Ag p2)),(3,.d (Al 1 (D.int .i64) p3)),(4,.ptr 4 1 0),(5,.ptr 5 1 0),(9,.d (.int .i64 p))] [(4,.var [.d (Al 2 Ac p0.Lists),.d (Al 7 Ad p0.Columns)],1),(5,.var [.d (.int .i64 p1.Op),.d (.int .i64 p1.Column),.d (.int .i64 p1.Code),.d (.int .i64 p1.Low),.d (.int .i64 p1.High),.d (Al 6 Ao p1.Kids)],1)]) Aq fun _ _ v9_1 h=>?_
 simp only [Il] at h
 refine AW h (fun h=>?_) fun h=>?_
 ·conv=>whnf
  refine z11 ?_
  refine AO (f:=Ag) h fun x44 _ h=>?_
  refine AO (f:=Ag) h fun x49 _ h=>?_
  refine AO (f:=(D.int .i64)) h fun x54 _ h=>?_
  refine A7 h (fun _=>Pg _ _ _ _ _) fun x56 h=>?_
  exact z28
 refine A7 h (fun _=>Vt _ _ _ _ _ _) fun x62 h=>?_
 exact AM h
theorem Sa (p0:Aa) (p1:Int) (p2:Int) (p3:Int) (p4:Int) (R:(Int × Bool)) (h:JK p0 p1 p2 p3 p4 = some R):Aj Tryz.prog 98 [.d (Ai p0),.d (.int .i64 p1),.d (.int .i64 p2),.d (.int .i64 p3),.d (.int .i64 p4)] (.tup [.d (.int .i64 R.1),.d (.bool R.2)]):=by
 refine Dt [3] Tryz.func98 (by kernel_rfl) ?_
 unfold JK at h
 refine F0 {p:Unit // Kr p0 p1 p2 p3 p4 = some R} (fun p=>B8 116 [(1,.d (.int .i64 p1)),(2,.d (.int .i64 p2)),(3,.d (.int .i64 p3)),(4,.d (.int .i64 p4)),(5,.ptr 5 1 0)] [(5,.var [.d (Al 2 Ac p0.Lists),.d (Al 7 Ad p0.Columns)],1)]) ?_ fun p=>?_
 ·refine A7 h (fun _=>Pg _ _ _ _ _) fun x26 h=>?_
  refine An h fun h=>?_
  refine A7 h (fun _=>Cd _ _ _) fun x32 h=>?_
  refine A7 h (fun _=>C8 _ _ _ _) fun x33 h=>?_
  exact z23
 obtain ⟨_,h⟩:=p
 simp only [Kr] at h
 refine AO (f:=Ad) h fun x39 _ h=>?_
 refine AW h (fun h=>?_) fun h=>?_
 ·refine A7 h (fun _=>FG _ _ _) fun x46 h=>?_
  refine z3 h (fun p=>B8 116 [(1,.d (.int .i64 p1)),(2,.d (.int .i64 p2)),(3,.d (.int .i64 p3)),(4,.d (.int .i64 p4)),(5,.ptr 5 1 0),(13,.d (Al 1 (D.int .i64) x46)),(14,.d (.int .i64 p.1)),(15,.d (.int .i64 p.2))] [(5,.var [.d (Al 2 Ac p0.Lists),.d (Al 7 Ad p0.Columns)],1)]) Ah fun _ _ ⟨v14_1,v15_1⟩ h=>?_
  simp only [Qj] at h
  refine Bj h fun h=>?_
  conv=>whnf
  refine z11 ?_
  refine AO (f:=(D.int .i64)) h fun x58 _ h=>?_
  refine A7 h (fun _=>BS _ _ _ _ _) fun x60 h=>?_
  refine AW h (fun h=>?_) fun h=>?_
  ·exact z15
  conv=>whnf
  refine z11 ?_
  refine AO (f:=(D.int .i64)) h fun x68 _ h=>?_
  refine A7 h (fun _=>BS _ _ _ _ _) fun x70 h=>?_
  refine An h fun h=>?_
  exact z15
 refine An h fun h=>?_
 refine An h fun h=>?_
 refine An h fun h=>?_
 refine A7 h (fun _=>MG _ _ _ _) fun x98 h=>?_
 conv=>whnf
 refine z11 ?_
 refine A7 h (fun _=>BS _ _ _ _ _) fun x106 h=>?_
 refine A7 h (fun _=>BS _ _ _ _ _) fun x111 h=>?_
 exact EC h
theorem Q5 (p0:Aa) (p1:Aw) (p2:Int) (p3:Int) (p4:Int) (R:(Int × Bool)) (h:FU p0 p1 p2 p3 p4 = some R):Aj Tryz.prog 46 [.d (Ai p0),.d (Ci p1),.d (.int .i64 p2),.d (.int .i64 p3),.d (.int .i64 p4)] (.tup [.d (.int .i64 R.1),.d (.bool R.2)]):=by
 refine Ch Tryz.func46 ?_
 unfold FU at h
 refine An h fun h=>?_
 refine z3 h (fun p=>B8 75 [(2,.d (.int .i64 p2)),(3,.d (.int .i64 p3)),(4,.d (.int .i64 p4)),(5,.ptr 5 1 0),(6,.ptr 6 1 0),(12,.d (.int .i64 p))] [(5,.var [.d (Al 2 Ac p0.Lists),.d (Al 7 Ad p0.Columns)],1),(6,.var [.d (.str p1.Project),.d (.int .i64 p1.Version),.d (Al 2 Ag p1.Picks),.d (Al 1 (Al 1 (D.int .i64)) p1.Rows)],1)]) Ah fun _ _ v12_1 h=>?_
 simp only [Hj] at h
 refine AW h (fun h=>?_) fun h=>?_
 ·refine AO (f:=Ag) h fun x43 _ h=>?_
  refine AW h (fun h=>?_) fun h=>?_
  ·conv=>whnf
   refine z11 ?_
   refine AO (f:=Ag) h fun x53 _ h=>?_
   refine AO (f:=(Al 1 (D.int .i64))) h fun x59 _ h=>?_
   refine AO (f:=(D.int .i64)) h fun x63 _ h=>?_
   refine A7 h (fun _=>Sa _ _ _ _ _ _) fun x66 h=>?_
   exact A3 h
  conv=>whnf
  exact z39
 refine A7 h (fun _=>Sa _ _ _ _ _ _) fun x72 h=>?_
 exact A3 h
theorem Vs (d:Nat) (p0:Aa) (p1:Aw) (p2:Af) (p3:(List Int)) (R:(List Int)) (h:Hz d p0 p1 p2 p3 = some R):Aj Tryz.prog 15 [.d (Ai p0),.d (Ci p1),.d (Ax p2),.d (Al 1 (D.int .i64) p3)] (.d (Al 1 (D.int .i64) R)):=by
 refine Ch Tryz.func15 ?_
 unfold Hz at h
 refine A7 h (fun _=>Qh _ _ _) fun x17 h=>?_
 refine AW h (fun h=>?_) fun h=>?_
 ·exact z46
 refine z3 h (fun p=>B8 75 [(3,.d (Al 1 (D.int .i64) p3)),(4,.ptr 4 1 0),(5,.ptr 5 1 0),(6,.ptr 6 1 0),(9,.sl 9 1),(10,.d (.int .i64 p.1))] [(4,.var [.d (Al 2 Ac p0.Lists),.d (Al 7 Ad p0.Columns)],1),(5,.var [.d (.str p1.Project),.d (.int .i64 p1.Version),.d (Al 2 Ag p1.Picks),.d (Al 1 (Al 1 (D.int .i64)) p1.Rows)],1),(6,.var [.d (.int .i64 p2.Op),.d (.int .i64 p2.Column),.d (.int .i64 p2.Code),.d (.int .i64 p2.Low),.d (.int .i64 p2.High),.d (Al 6 Ao p2.Kids)],1),(9,.row 1 3 (List.map (D.int .i64) p.2),1)]) Aq fun _ _ ⟨v10_1,b9_1⟩ h=>?_
 simp only [Is] at h
 refine AW h (fun h=>?_) fun h=>?_
 ·conv=>whnf
  refine z11 ?_
  refine AO (f:=(Al 1 (D.int .i64))) h fun x33 _ h=>?_
  conv=>whnf
  obtain ⟨hr,h⟩:=Eg h
  refine z7 ?_
  try simp only [List.length_map]
  rw [Wd]
  conv=>whnf
  obtain ⟨x36,hx36,h⟩:=AB h
  first | refine Au (JA _ _ _ _ _ _ hx36) ?_ | (simp only [List.length_map]; refine Au (JA _ _ _ _ _ _ hx36) ?_)
  refine z3 h (fun p=>B8 75 [(3,.d (Al 1 (D.int .i64) p3)),(4,.ptr 4 1 0),(5,.ptr 5 1 0),(6,.ptr 6 1 0),(9,.sl 9 1),(10,.d (.int .i64 v10_1)),(11,.d (.bool p.1)),(12,.d (.int .i64 p.2))] [(4,.var [.d (Al 2 Ac p0.Lists),.d (Al 7 Ad p0.Columns)],1),(5,.var [.d (.str p1.Project),.d (.int .i64 p1.Version),.d (Al 2 Ag p1.Picks),.d (Al 1 (Al 1 (D.int .i64)) p1.Rows)],1),(6,.var [.d (.int .i64 p2.Op),.d (.int .i64 p2.Column),.d (.int .i64 p2.Code),.d (.int .i64 p2.Low),.d (.int .i64 p2.High),.d (Al 6 Ao p2.Kids)],1),(9,.row 1 3 (List.map (D.int .i64) b9_1),1)]) Aq fun _ _ ⟨v11_2,v12_2⟩ h=>?_
  simp only [Ih] at h
  refine AW h (fun h=>?_) fun h=>?_
  ·conv=>whnf
   refine z11 ?_
   refine AO (f:=(D.int .i64)) h fun x53 _ h=>?_
   refine AO (f:=(D.int .i64)) h fun x58 _ h=>?_
   refine A7 h (fun _=>Cd _ _ _) fun x60 h=>?_
   refine A7 h (fun _=>Q5 _ _ _ _ _ _) fun x61 h=>?_
   exact z19
  conv=>whnf
  try simp only [G7] at h
  refine AW h (fun h=>?_) fun h=>?_
  ·conv=>whnf
   exact z43
  exact z19
 conv=>whnf
 try simp only [G7] at h
 exact z16
theorem X1 (d:Nat) (p0:Aa) (p1:Az) (R:((List Ae) × Int)) (h:Mc d p0 p1 = some R):Aj Tryz.prog 49 [.d (Ai p0),.d (Dr p1)] (.tup [.d (Al 2 Ag R.1),.d (.int .i64 R.2)]):=by
 refine Ch Tryz.func49 ?_
 unfold Mc at h
 refine A7 h (fun _=>M9 _ _ _ _) fun x13 h=>?_
 refine AW h (fun h=>?_) fun h=>?_
 ·exact z31
 refine z3 h (fun p=>B8 50 [(2,.ptr 2 1 0),(3,.ptr 3 1 0),(7,.d (Al 2 Ag p.1)),(8,.d (.int .i64 p.2))] [(2,.var [.d (Al 2 Ac p0.Lists),.d (Al 7 Ad p0.Columns)],1),(3,.var [.d (.str p1.Project),.d (.str p1.Source),.d (.int .i64 p1.Cohort.Op),.d (.int .i64 p1.Cohort.Column),.d (.int .i64 p1.Cohort.Code),.d (.int .i64 p1.Cohort.Low),.d (.int .i64 p1.Cohort.High),.d (Al 6 Ao p1.Cohort.Kids),.d (.int .i64 p1.Sample.Part),.d (.int .i64 p1.Sample.Of),.d (.int .i64 p1.Sample.Seed),.d (Al 17 AZ p1.Questions)],1)]) Ah fun _ _ ⟨v7_1,v8_1⟩ h=>?_
 simp only [Kt] at h
 refine Bj h fun h=>?_
 conv=>whnf
 refine z11 ?_
 refine AO (f:=AZ) h fun x28 _ h=>?_
 refine A7 h (fun _=>Qq _ _ _ _) fun x30 h=>?_
 refine z3 h (fun p=>B8 50 [(2,.ptr 2 1 0),(3,.ptr 3 1 0),(7,.d (Al 2 Ag p.1)),(8,.d (.int .i64 v8_1)),(9,.d (Al 2 Ag x30)),(10,.d (.int .i64 p.2))] [(2,.var [.d (Al 2 Ac p0.Lists),.d (Al 7 Ad p0.Columns)],1),(3,.var [.d (.str p1.Project),.d (.str p1.Source),.d (.int .i64 p1.Cohort.Op),.d (.int .i64 p1.Cohort.Column),.d (.int .i64 p1.Cohort.Code),.d (.int .i64 p1.Cohort.Low),.d (.int .i64 p1.Cohort.High),.d (Al 6 Ao p1.Cohort.Kids),.d (.int .i64 p1.Sample.Part),.d (.int .i64 p1.Sample.Of),.d (.int .i64 p1.Sample.Seed),.d (Al 17 AZ p1.Questions)],1)]) Ah fun _ _ ⟨v7_2,v10_2⟩ h=>?_
 simp only [Ks] at h
 refine AW h (fun h=>?_) fun h=>?_
 ·conv=>whnf
  refine z11 ?_
  refine AO (f:=Ag) h fun x40 _ h=>?_
  refine AO (f:=Ag) h fun x45 _ h=>?_
  refine A7 h (fun _=>De _ _ _ _) fun x48 h=>?_
  exact z15
 exact z15
theorem Oc (d:Nat) (p0:Af) (R:Bool) (h:LV d p0 = some R):Aj Tryz.prog 233 [.d (Ax p0)] (.d (.bool R)):=by
 refine Ch Tryz.func233 ?_
 unfold LV at h
 refine A7 h (fun _=>Rr _ _ _ _) fun x5 h=>?_
 exact AM h
theorem YX (d:Nat) (p0:AD) (R:Bool) (h:Nb d p0 = some R):Aj Tryz.prog 170 [.d (Bb p0)] (.d (.bool R)):=by
 refine Dt [27] Tryz.func170 (by kernel_rfl) ?_
 unfold Nb at h
 refine F0 {p:(Bool × Bool × Int × ByteArray × Int × (List Int) × (List Ae)) // BF p0 d p.1 p.2.1 p.2.2.1 p.2.2.2.1 p.2.2.2.2.1 p.2.2.2.2.2.1 p.2.2.2.2.2.2 = some R} (fun p=>B8 117 [(1,.ptr 1 1 0),(3,.ptr 3 1 0),(4,.d (.bool p.1.1)),(5,.d (.bool p.1.2.1))] [(1,.var [.d (.int .i64 p0.Op),.d (.int .i64 p0.Num),.d (.str p0.Name),.d (.int .i64 p0.Column),.d (Al 1 (D.int .i64) p0.Columns),.d (Al 2 Ag p0.Dims),.d (.int .i64 p0.Cond.Op),.d (.int .i64 p0.Cond.Column),.d (.int .i64 p0.Cond.Code),.d (.int .i64 p0.Cond.Low),.d (.int .i64 p0.Cond.High),.d (Al 6 Ao p0.Cond.Kids),.d (.int .i64 p0.Event.Op),.d (.int .i64 p0.Event.Column),.d (.int .i64 p0.Event.Code),.d (.int .i64 p0.Event.Low),.d (.int .i64 p0.Event.High),.d (Al 6 Ao p0.Event.Kids),.d (Al 19 B9 p0.Kids)],1),(3,.var [.d (.int .i64 p0.Op),.d (.int .i64 p.1.2.2.1),.d (.str p.1.2.2.2.1),.d (.int .i64 p.1.2.2.2.2.1),.d (Al 1 (D.int .i64) p.1.2.2.2.2.2.1),.d (Al 2 Ag p.1.2.2.2.2.2.2),.d (.int .i64 0),.d (.int .i64 0),.d (.int .i64 0),.d (.int .i64 0),.d (.int .i64 0),.d (.nil 6),.d (.int .i64 0),.d (.int .i64 0),.d (.int .i64 0),.d (.int .i64 0),.d (.int .i64 0),.d (.nil 6),.d (.nil 19)],1)]) ?_ fun p=>?_
 ·refine AW h (fun h=>?_) fun h=>?_
  ·exact z21
  refine AW h (fun h=>?_) fun h=>?_
  ·exact z21
  refine AW h (fun h=>?_) fun h=>?_
  ·exact z21
  conv=>whnf
  refine KG h Db (fun e23 h=>?_) (fun e23 h=>?_)
  ·conv=>whnf
   refine Lp Db e23 ?_
   exact z21
  conv=>whnf
  refine KG h Db (fun e24 h=>?_) (fun e24 h=>?_)
  ·conv=>whnf
   refine Lp Db e24 ?_
   exact z21
  refine AW h (fun h=>?_) fun h=>?_
  ·exact z21
  conv=>whnf
  refine KG h Db (fun e26 h=>?_) (fun e26 h=>?_)
  ·conv=>whnf
   refine Lp Db e26 ?_
   exact z21
  conv=>whnf
  refine KG h Db (fun e27 h=>?_) (fun e27 h=>?_)
  ·conv=>whnf
   refine Lp Db e27 ?_
   exact z21
  conv=>whnf
  refine KG h Db (fun e28 h=>?_) (fun e28 h=>?_)
  ·conv=>whnf
   refine Lp Db e28 ?_
   exact z21
  refine AW h (fun h=>?_) fun h=>?_
  ·exact z21
  refine AW h (fun h=>?_) fun h=>?_
  ·conv=>whnf
   refine z11 ?_
   exact z21
  refine AW h (fun h=>?_) fun h=>?_
  ·conv=>whnf
   refine z11 ?_
   exact z21
  refine AW h (fun h=>?_) fun h=>?_
  ·exact z21
  refine Cb h fun h=>?_
  conv=>whnf
  refine z11 ?_
  exact z21
 obtain ⟨⟨j4_1,j5_1,k3_1_1,k3_2_1,k3_3_1,k3_4_1,k3_5_1⟩,h⟩:=p
 simp only [BF] at h
 refine Cb h fun h=>?_
 refine AW h (fun h=>?_) fun h=>?_
 ·refine A2 h fun h=>?_
  obtain ⟨x114,hx114,h⟩:=AB h
  refine Au (Oc _ _ _ hx114) ?_
  exact AM h
 refine A7 h (fun _=>Oc _ _ _) fun x106 h=>?_
 refine Cb h fun h=>?_
 refine A2 h fun h=>?_
 obtain ⟨x114,hx114,h⟩:=AB h
 refine Au (Oc _ _ _ hx114) ?_
 exact AM h
end Go.Proofs.YtejfnieiaecpkaaGreatDoor.P
