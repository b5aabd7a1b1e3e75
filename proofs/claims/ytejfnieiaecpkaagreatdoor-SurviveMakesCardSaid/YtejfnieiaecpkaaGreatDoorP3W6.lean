/- P3W6 -/
import Derived.Test.YtejfnieiaecpkaaGreatDoorP3W5
set_option linter.unusedSimpArgs false
namespace Go.Proofs.YtejfnieiaecpkaaGreatDoor.P
open Go.Abs Go.Proofs
set_option maxRecDepth 100000
set_option maxHeartbeats 40000000
set_option linter.unusedVariables false
theorem We (d:Nat) (self_ref05_node:(Aa→Af→Option Int)) (ih_ref05_node:∀ (p0:Aa) (p1:Af) (R:Int) ,self_ref05_node p0 p1 = some R→Aj Tryz.prog 158 [.d (Ai p0),.d (Ax p1)] (.d (.int .i64 R))) (p0:Aa) (p1:Af) (R:Int) (h:CU d self_ref05_node p0 p1 = some R):Aj Tryz.prog 158 [.d (Ai p0),.d (Ax p1)] (.d (.int .i64 R)):=by
 refine Dt [16,20,22] Tryz.func158 (by kernel_rfl) ?_
 unfold CU at h
 conv=>whnf
 refine z11 ?_
 refine F0 {p:(Int × Int × Int × Int × Int) // AC p1 p0 self_ref05_node p.1 p.2.1 p.2.2.1 p.2.2.2.1 p.2.2.2.2 = some R} (fun p=>B8 185 [(2,.ptr 2 1 0),(3,.ptr 3 1 0),(5,.d (.int .i64 p.1.1)),(6,.ptr 6 1 0)] [(2,.var [.d (Al 2 Ac p0.Lists),.d (Al 7 Ad p0.Columns)],1),(3,.var [.d (.int .i64 p1.Op),.d (.int .i64 p1.Column),.d (.int .i64 p1.Code),.d (.int .i64 p1.Low),.d (.int .i64 p1.High),.d (Al 6 Ao p1.Kids)],1),(6,.var [.d (.int .i64 p1.Op),.d (.int .i64 p.1.2.1),.d (.int .i64 p.1.2.2.1),.d (.int .i64 p.1.2.2.2.1),.d (.int .i64 p.1.2.2.2.2),.d (.nil 6)],1)]) ?_ fun p=>?_
 ·refine AW h (fun h=>?_) fun h=>?_
  ·exact z40
  refine AW h (fun h=>?_) fun h=>?_
  ·conv=>whnf
   refine z11 ?_
   exact z40
  refine AW h (fun h=>?_) fun h=>?_
  ·conv=>whnf
   refine z11 ?_
   exact z40
  refine AW h (fun h=>?_) fun h=>?_
  ·exact z40
  conv=>whnf
  refine KG h Db (fun e40 h=>?_) (fun e40 h=>?_)
  ·conv=>whnf
   refine Lp Db e40 ?_
   exact z40
  refine AW h (fun h=>?_) fun h=>?_
  ·exact z40
  refine Cb h fun h=>?_
  exact z40
 obtain ⟨⟨j5_1,k6_1_1,k6_2_1,k6_3_1,k6_4_1⟩,h⟩:=p
 simp only [AC] at h
 refine A2 h fun h=>?_
 refine F0 {p:Unit // Bv p1 p0 self_ref05_node = some R} (fun p=>B8 185 [(2,.ptr 2 1 0),(3,.ptr 3 1 0)] [(2,.var [.d (Al 2 Ac p0.Lists),.d (Al 7 Ad p0.Columns)],1),(3,.var [.d (.int .i64 p1.Op),.d (.int .i64 p1.Column),.d (.int .i64 p1.Code),.d (.int .i64 p1.Low),.d (.int .i64 p1.High),.d (Al 6 Ao p1.Kids)],1)]) ?_ fun p=>?_
 ·conv=>whnf
  refine KG h Db (fun e29 h=>?_) (fun e29 h=>?_)
  ·refine A7 h (fun _=>QY _ _ _ _) fun x85 h=>?_
   refine A2 h fun h=>?_
   refine jE Db (jH e29) ?_
   refine jE Db (jH e29) ?_
   exact ⟨⟨(),h⟩,Aq⟩
  refine KG h Db (fun e31 h=>?_) (fun e31 h=>?_)
  ·refine A7 h (fun _=>QY _ _ _ _) fun x96 h=>?_
   refine A2 h fun h=>?_
   refine jE Db (jH e31) ?_
   exact ⟨⟨(),h⟩,Aq⟩
  refine AW h (fun h=>?_) fun h=>?_
  ·refine A7 h (fun _=>QY _ _ _ _) fun x108 h=>?_
   refine A2 h fun h=>?_
   refine AO (f:=Ad) h fun x115 _ h=>?_
   exact z35
  exact ⟨⟨(),h⟩,Aq⟩
 obtain ⟨_,h⟩:=p
 simp only [Bv] at h
 refine F0 {p:Unit // BL p1 self_ref05_node p0 = some R} (fun p=>B8 185 [(2,.ptr 2 1 0),(3,.ptr 3 1 0)] [(2,.var [.d (Al 2 Ac p0.Lists),.d (Al 7 Ad p0.Columns)],1),(3,.var [.d (.int .i64 p1.Op),.d (.int .i64 p1.Column),.d (.int .i64 p1.Code),.d (.int .i64 p1.Low),.d (.int .i64 p1.High),.d (Al 6 Ao p1.Kids)],1)]) ?_ fun p=>?_
 ·conv=>whnf
  refine z11 ?_
  refine AW h (fun h=>?_) fun h=>?_
  ·refine A2 h fun h=>?_
   refine AO (f:=Ad) h fun x138 _ h=>?_
   refine AO (f:=Ac) h fun x141 _ h=>?_
   exact z35
  exact ⟨⟨(),h⟩,Aq⟩
 obtain ⟨_,h⟩:=p
 simp only [BL] at h
 refine A2 h fun h=>?_
 refine z3 h (fun p=>B8 185 [(2,.ptr 2 1 0),(3,.ptr 3 1 0),(7,.d (.int .i64 p))] [(2,.var [.d (Al 2 Ac p0.Lists),.d (Al 7 Ad p0.Columns)],1),(3,.var [.d (.int .i64 p1.Op),.d (.int .i64 p1.Column),.d (.int .i64 p1.Code),.d (.int .i64 p1.Low),.d (.int .i64 p1.High),.d (Al 6 Ao p1.Kids)],1)]) Aq fun _ _ v7_1 h=>?_
 simp only [Fp] at h
 refine Cb h fun h=>?_
 conv=>whnf
 refine z11 ?_
 refine AO (f:=Ao) h fun x179 _ h=>?_
 rw [A9 x179]
 conv=>whnf
 obtain ⟨x181,hx181,h⟩:=AB h
 first | refine Au (ih_ref05_node _ _ _ hx181) ?_ | (simp only [List.length_map]; refine Au (ih_ref05_node _ _ _ hx181) ?_)
 exact z28
theorem Qt:∀ d:Nat,(∀ (p0:Aa) (p1:Af) (R:Int) ,D3 d p0 p1 = some R→Aj Tryz.prog 158 [.d (Ai p0),.d (Ax p1)] (.d (.int .i64 R)))
 | 0=>by
  exact z22
 | d + 1=>by
  have ih:=Qt d
  exact We d _ ih
theorem XS (d:Nat):∀ (p0:Aa) (p1:Af) (R:Int) ,D3 d p0 p1 = some R→Aj Tryz.prog 158 [.d (Ai p0),.d (Ax p1)] (.d (.int .i64 R)):=Qt d
theorem Ev (d:Nat) (p0:Aa) (p1:Af) (R:Int) (h:B0 d p0 p1 = some R):Aj Tryz.prog 94 [.d (Ai p0),.d (Ax p1)] (.d (.int .i64 R)):=by
 refine Ch Tryz.func94 ?_
 unfold B0 at h
 refine A7 h (fun _=>Dd _ _) fun x7 h=>?_
 refine A2 h fun h=>?_
 refine A7 h (fun _=>VX _ _ _ _) fun x12 h=>?_
 refine A2 h fun h=>?_
 refine A7 h (fun _=>Wt _ _ _) fun x15 h=>?_
 refine A2 h fun h=>?_
 refine A7 h (fun _=>XS _ _ _ _) fun x19 h=>?_
 exact AM h
theorem NX (p0:Aa) (p1:Int) (p2:Int) (R:Bool) (h:Hr p0 p1 p2 = some R):Aj Tryz.prog 171 [.d (Ai p0),.d (.int .i64 p1),.d (.int .i64 p2)] (.d (.bool R)):=by
 refine Ch Tryz.func171 ?_
 unfold Hr at h
 refine Bj h fun h=>?_
 refine AO (f:=Ad) h fun x20 _ h=>?_
 exact A3 h
theorem Si (p0:Aa) (p1:(List Ae)) (R:Int) (h:Hp p0 p1 = some R):Aj Tryz.prog 172 [.d (Ai p0),.d (Al 2 Ag p1)] (.d (.int .i64 R)):=by
 refine Ch Tryz.func172 ?_
 unfold Hp at h
 refine An h fun h=>?_
 refine z3 h (fun p=>B8 55 [(1,.d (Al 2 Ag p1)),(2,.ptr 2 1 0),(5,.d (.int .i64 p))] [(2,.var [.d (Al 2 Ac p0.Lists),.d (Al 7 Ad p0.Columns)],1)]) Ah fun _ _ v5_1 h=>?_
 simp only [GP] at h
 refine AW h (fun h=>?_) fun h=>?_
 ·conv=>whnf
  refine z11 ?_
  refine AO (f:=Ag) h fun x25 _ h=>?_
  refine A7 h (fun _=>Sn _ _ _) fun x27 h=>?_
  refine An h fun h=>?_
  conv=>whnf
  refine z11 ?_
  refine AO (f:=Ag) h fun x34 _ h=>?_
  refine A7 h (fun _=>NX _ _ _ _) fun x37 h=>?_
  refine An h fun h=>?_
  refine z3 h (fun p=>B8 55 [(1,.d (Al 2 Ag p1)),(2,.ptr 2 1 0),(5,.d (.int .i64 v5_1)),(7,.d (.int .i64 p))] [(2,.var [.d (Al 2 Ac p0.Lists),.d (Al 7 Ad p0.Columns)],1)]) Ah fun _ _ v7_2 h=>?_
  simp only [HL] at h
  refine AW h (fun h=>?_) fun h=>?_
  ·conv=>whnf
   refine z11 ?_
   refine AO (f:=Ag) h fun x46 _ h=>?_
   refine AO (f:=Ag) h fun x51 _ h=>?_
   exact z12
  conv=>whnf
  try simp only [ref08_Dims_k1] at h
  exact z39
 conv=>whnf
 try simp only [ref08_Dims_k1] at h
 exact A3 h
theorem OU (p0:(List Int)) (p1:Int) (R:Bool) (h:Kb p0 p1 = some R):Aj Tryz.prog 174 [.d (Al 1 (D.int .i64) p0),.d (.int .i64 p1)] (.d (.bool R)):=by
 refine Ch Tryz.func174 ?_
 unfold Kb at h
 refine z3 h (fun p=>B8 18 [(0,.d (Al 1 (D.int .i64) p0)),(1,.d (.int .i64 p1)),(5,.d (.int .i64 p))] []) Ah fun _ _ v5_1 h=>?_
 simp only [KY] at h
 refine Bj h fun h=>?_
 refine AO (f:=(D.int .i64)) h fun x14 _ h=>?_
 exact z12
theorem Q9 (p0:Aa) (p1:Int) (p2:(List Int)) (R:Int) (h:IN p0 p1 p2 = some R):Aj Tryz.prog 173 [.d (Ai p0),.d (.int .i64 p1),.d (Al 1 (D.int .i64) p2)] (.d (.int .i64 R)):=by
 refine Ch Tryz.func173 ?_
 unfold IN at h
 refine An h fun h=>?_
 refine z3 h (fun p=>B8 45 [(1,.d (.int .i64 p1)),(2,.d (Al 1 (D.int .i64) p2)),(3,.ptr 3 1 0),(7,.d (.int .i64 p))] [(3,.var [.d (Al 2 Ac p0.Lists),.d (Al 7 Ad p0.Columns)],1)]) Ah fun _ _ v7_1 h=>?_
 simp only [IY] at h
 refine Bj h fun h=>?_
 conv=>whnf
 refine z11 ?_
 refine AO (f:=(D.int .i64)) h fun x25 _ h=>?_
 refine A7 h (fun _=>NX _ _ _ _) fun x27 h=>?_
 refine An h fun h=>?_
 conv=>whnf
 refine z11 ?_
 refine AO (f:=(D.int .i64)) h fun x31 _ h=>?_
 refine An h fun h=>?_
 obtain ⟨hr,h⟩:=Eg h
 refine z7 ?_
 try simp only [List.length_map]
 rw [Wd]
 refine AO (f:=(D.int .i64)) h fun x41 _ h=>?_
 refine A7 h (fun _=>OU _ _ _) fun x43 h=>?_
 exact z12
theorem Wo (d:Nat) (p0:Aa) (p1:AG) (R:Int) (h:K0 d p0 p1 = some R):Aj Tryz.prog 230 [.d (Ai p0),.d (AZ p1)] (.d (.int .i64 R)):=by
 refine Ch Tryz.func230 ?_
 unfold K0 at h
 refine A7 h (fun _=>NX _ _ _ _) fun x10 h=>?_
 refine AW h (fun h=>?_) fun h=>?_
 ·refine A7 h (fun _=>Si _ _ _) fun x32 h=>?_
  refine An h fun h=>?_
  exact EC h
 refine AW h (fun h=>?_) fun h=>?_
 ·refine An h fun h=>?_
  refine A7 h (fun _=>Q9 _ _ _ _) fun x52 h=>?_
  exact A3 h
 refine An h fun h=>?_
 refine AO (f:=Ad) h fun x19 _ h=>?_
 refine An h fun h=>?_
 refine A7 h (fun _=>Ev _ _ _ _) fun x26 h=>?_
 exact A3 h
theorem VZ (d:Nat) (self_ref05_Same:(Af→Af→Option Bool)) (ih_ref05_Same:∀ (p0:Af) (p1:Af) (R:Bool) ,self_ref05_Same p0 p1 = some R→Aj Tryz.prog 277 [.d (Ax p0),.d (Ax p1)] (.d (.bool R))) (p0:Af) (p1:Af) (R:Bool) (h:JB d self_ref05_Same p0 p1 = some R):Aj Tryz.prog 277 [.d (Ax p0),.d (Ax p1)] (.d (.bool R)):=by
 refine Ch Tryz.func277 ?_
 unfold JB at h
 refine A2 h fun h=>?_
 refine z3 h (fun p=>B8 67 [(2,.ptr 2 1 0),(3,.ptr 3 1 0),(5,.d (.int .i64 p))] [(2,.var [.d (.int .i64 p0.Op),.d (.int .i64 p0.Column),.d (.int .i64 p0.Code),.d (.int .i64 p0.Low),.d (.int .i64 p0.High),.d (Al 6 Ao p0.Kids)],1),(3,.var [.d (.int .i64 p1.Op),.d (.int .i64 p1.Column),.d (.int .i64 p1.Code),.d (.int .i64 p1.Low),.d (.int .i64 p1.High),.d (Al 6 Ao p1.Kids)],1)]) Aq fun _ _ v5_1 h=>?_
 simp only [QB] at h
 refine Cb h fun h=>?_
 conv=>whnf
 refine z11 ?_
 refine AO (f:=Ao) h fun x58 _ h=>?_
 rw [A9 x58]
 refine AO (f:=Ao) h fun x63 _ h=>?_
 rw [A9 x63]
 conv=>whnf
 obtain ⟨x65,hx65,h⟩:=AB h
 first | refine Au (ih_ref05_Same _ _ _ hx65) ?_ | (simp only [List.length_map]; refine Au (ih_ref05_Same _ _ _ hx65) ?_)
 exact z28
theorem Qx:∀ d:Nat,(∀ (p0:Af) (p1:Af) (R:Bool) ,JP d p0 p1 = some R→Aj Tryz.prog 277 [.d (Ax p0),.d (Ax p1)] (.d (.bool R)))
 | 0=>by
  exact z22
 | d + 1=>by
  have ih:=Qx d
  exact VZ d _ ih
theorem Rr (d:Nat):∀ (p0:Af) (p1:Af) (R:Bool) ,JP d p0 p1 = some R→Aj Tryz.prog 277 [.d (Ax p0),.d (Ax p1)] (.d (.bool R)):=Qx d
theorem Xr (d:Nat) (p0:Af) (R:Bool) (h:L1 d p0 = some R):Aj Tryz.prog 231 [.d (Ax p0)] (.d (.bool R)):=by
 refine Ch Tryz.func231 ?_
 unfold L1 at h
 refine A7 h (fun _=>Rr _ _ _ _) fun x5 h=>?_
 exact AM h
theorem JS (d:Nat) (p0:Aa) (p1:AG) (R:Int) (h:Di d p0 p1 = some R):Aj Tryz.prog 167 [.d (Ai p0),.d (AZ p1)] (.d (.int .i64 R)):=by
 refine Ch Tryz.func167 ?_
 unfold Di at h
 refine A7 h (fun _=>Dd _ _) fun x9 h=>?_
 refine An h fun h=>?_
 refine A7 h (fun _=>EW _ _) fun x15 h=>?_
 refine An h fun h=>?_
 refine An h fun h=>?_
 refine A7 h (fun _=>Ev _ _ _ _) fun x28 h=>?_
 refine An h fun h=>?_
 refine A7 h (fun _=>Wo _ _ _ _) fun x34 h=>?_
 refine An h fun h=>?_
 refine An h fun h=>?_
 refine Bj h fun h=>?_
 refine A7 h (fun _=>Xr _ _ _) fun x65 h=>?_
 exact EC h
theorem M9 (d:Nat) (p0:Aa) (p1:Az) (R:Int) (h:Fg d p0 p1 = some R):Aj Tryz.prog 101 [.d (Ai p0),.d (Dr p1)] (.d (.int .i64 R)):=by
 refine Dt [6] Tryz.func101 (by kernel_rfl) ?_
 unfold Fg at h
 refine A7 h (fun _=>Dd _ _) fun x12 h=>?_
 refine An h fun h=>?_
 refine F0 {p:Unit // Hq d p0 p1 = some R} (fun p=>B8 110 [(2,.ptr 2 1 0),(3,.ptr 3 1 0)] [(2,.var [.d (Al 2 Ac p0.Lists),.d (Al 7 Ad p0.Columns)],1),(3,.var [.d (.str p1.Project),.d (.str p1.Source),.d (.int .i64 p1.Cohort.Op),.d (.int .i64 p1.Cohort.Column),.d (.int .i64 p1.Cohort.Code),.d (.int .i64 p1.Cohort.Low),.d (.int .i64 p1.Cohort.High),.d (Al 6 Ao p1.Cohort.Kids),.d (.int .i64 p1.Sample.Part),.d (.int .i64 p1.Sample.Of),.d (.int .i64 p1.Sample.Seed),.d (Al 17 AZ p1.Questions)],1)]) ?_ fun p=>?_
 ·refine A7 h (fun _=>EW _ _) fun x18 h=>?_
  refine An h fun h=>?_
  refine A7 h (fun _=>EW _ _) fun x23 h=>?_
  exact z23
 obtain ⟨_,h⟩:=p
 simp only [Hq] at h
 refine A7 h (fun _=>Ev _ _ _ _) fun x29 h=>?_
 refine An h fun h=>?_
 refine An h fun h=>?_
 refine An h fun h=>?_
 refine z3 h (fun p=>B8 110 [(2,.ptr 2 1 0),(3,.ptr 3 1 0),(8,.d (.int .i64 p))] [(2,.var [.d (Al 2 Ac p0.Lists),.d (Al 7 Ad p0.Columns)],1),(3,.var [.d (.str p1.Project),.d (.str p1.Source),.d (.int .i64 p1.Cohort.Op),.d (.int .i64 p1.Cohort.Column),.d (.int .i64 p1.Cohort.Code),.d (.int .i64 p1.Cohort.Low),.d (.int .i64 p1.Cohort.High),.d (Al 6 Ao p1.Cohort.Kids),.d (.int .i64 p1.Sample.Part),.d (.int .i64 p1.Sample.Of),.d (.int .i64 p1.Sample.Seed),.d (Al 17 AZ p1.Questions)],1)]) Ah fun _ _ v8_1 h=>?_
 simp only [F9] at h
 refine AW h (fun h=>?_) fun h=>?_
 ·conv=>whnf
  refine z11 ?_
  refine AO (f:=AZ) h fun x86 _ h=>?_
  refine A7 h (fun _=>JS _ _ _ _) fun x88 h=>?_
  refine An h fun h=>?_
  refine z3 h (fun p=>B8 110 [(2,.ptr 2 1 0),(3,.ptr 3 1 0),(8,.d (.int .i64 v8_1)),(10,.d (.int .i64 p))] [(2,.var [.d (Al 2 Ac p0.Lists),.d (Al 7 Ad p0.Columns)],1),(3,.var [.d (.str p1.Project),.d (.str p1.Source),.d (.int .i64 p1.Cohort.Op),.d (.int .i64 p1.Cohort.Column),.d (.int .i64 p1.Cohort.Code),.d (.int .i64 p1.Cohort.Low),.d (.int .i64 p1.Cohort.High),.d (Al 6 Ao p1.Cohort.Kids),.d (.int .i64 p1.Sample.Part),.d (.int .i64 p1.Sample.Of),.d (.int .i64 p1.Sample.Seed),.d (Al 17 AZ p1.Questions)],1)]) Ah fun _ _ v10_2 h=>?_
  simp only [Hk] at h
  refine AW h (fun h=>?_) fun h=>?_
  ·conv=>whnf
   refine z11 ?_
   refine AO (f:=AZ) h fun x100 _ h=>?_
   refine AO (f:=AZ) h fun x106 _ h=>?_
   exact z12
  conv=>whnf
  try simp only [ref08_Check_k1] at h
  exact z39
 conv=>whnf
 try simp only [ref08_Check_k1] at h
 exact A3 h
theorem LF (p0:(List Ae)) (p1:(List Ae)) (R:Bool) (h:Gz p0 p1 = some R):Aj Tryz.prog 95 [.d (Al 2 Ag p0),.d (Al 2 Ag p1)] (.d (.bool R)):=by
 refine Ch Tryz.func95 ?_
 unfold Gz at h
 refine z3 h (fun p=>B8 49 [(0,.d (Al 2 Ag p0)),(1,.d (Al 2 Ag p1)),(5,.d (.int .i64 p))] []) Ah fun _ _ v5_1 h=>?_
 simp only [Iq] at h
 refine Bj h fun h=>?_
 refine z3 h (fun p=>B8 49 [(0,.d (Al 2 Ag p0)),(1,.d (Al 2 Ag p1)),(5,.d (.int .i64 v5_1)),(6,.d (.bool p.1)),(7,.d (.int .i64 p.2))] []) Ah fun _ _ ⟨v6_2,v7_2⟩ h=>?_
 simp only [It] at h
 refine AW h (fun h=>?_) fun h=>?_
 ·conv=>whnf
  refine z11 ?_
  refine AW h (fun h=>?_) fun h=>?_
  ·exact BE ⟨(_,(_,_)),h⟩ Ah
  refine AO (f:=Ag) h fun x24 _ h=>?_
  refine AO (f:=Ag) h fun x29 _ h=>?_
  refine AW h (fun h=>?_) fun h=>?_
  ·refine AO (f:=Ag) h fun x36 _ h=>?_
   refine AO (f:=Ag) h fun x41 _ h=>?_
   exact z15
  exact BE ⟨(_,(_,_)),h⟩ Ah
 exact z12
theorem De (p0:(List Ae)) (p1:Int) (p2:Int) (R:(List Ae)) (h:Cw p0 p1 p2 = some R):Aj Tryz.prog 103 [.d (Al 2 Ag p0),.d (.int .i64 p1),.d (.int .i64 p2)] (.d (Al 2 Ag R)):=by
 refine Ch Tryz.func103 ?_
 unfold Cw at h
 refine z3 h (fun p=>B8 59 [(0,.d (Al 2 Ag p0)),(1,.d (.int .i64 p1)),(2,.d (.int .i64 p2)),(7,.sl 7 1),(8,.d (.bool p.1)),(9,.d (.int .i64 p.2.1))] [(7,.row 2 43 (List.map Ag p.2.2),1)]) Ah fun _ _ ⟨v8_1,v9_1,b7_1⟩ h=>?_
 simp only [J2] at h
 refine AW h (fun h=>?_) fun h=>?_
 ·refine AO (f:=Ag) h fun x21 _ h=>?_
  refine AW h (fun h=>?_) fun h=>?_
  ·conv=>whnf
   obtain ⟨hr,h⟩:=Eg h
   refine z4 ?_
   try rw [Dn]
   refine AW h (fun h=>?_) fun h=>?_
   ·conv=>whnf
    exact z30
   conv=>whnf
   exact z30
  refine AW h (fun h=>?_) fun h=>?_
  ·conv=>whnf
   exact z30
  conv=>whnf
  exact z30
 conv=>whnf
 try simp only [LQ] at h
 refine AW h (fun h=>?_) fun h=>?_
 ·conv=>whnf
  obtain ⟨hr,h⟩:=Eg h
  refine z4 ?_
  try rw [Dn]
  exact z31
 exact z31
theorem Vm (d:Nat) (self_ref05_Atoms:(Af→Option (List Af))) (ih_ref05_Atoms:∀ (p0:Af) (R:(List Af)) ,self_ref05_Atoms p0 = some R→Aj Tryz.prog 159 [.d (Ax p0)] (.d (Al 6 Ao R))) (p0:Af) (R:(List Af)) (h:HT d self_ref05_Atoms p0 = some R):Aj Tryz.prog 159 [.d (Ax p0)] (.d (Al 6 Ao R)):=by
 refine Ch Tryz.func159 ?_
 unfold HT at h
 refine AW h (fun h=>?_) fun h=>?_
 ·exact z46
 refine z3 h (fun p=>B8 36 [(1,.ptr 1 1 0),(3,.sl 3 1),(4,.d (.int .i64 p.1))] [(1,.var [.d (.int .i64 p0.Op),.d (.int .i64 p0.Column),.d (.int .i64 p0.Code),.d (.int .i64 p0.Low),.d (.int .i64 p0.High),.d (Al 6 Ao p0.Kids)],1),(3,.row 6 47 (List.map Ao p.2),1)]) Mx fun _ _ ⟨v4_1,b3_1⟩ h=>?_
 simp only [IZ] at h
 refine AW h (fun h=>?_) fun h=>?_
 ·refine AO (f:=Ao) h fun x31 _ h=>?_
  rw [A9 x31]
  conv=>whnf
  obtain ⟨x33,hx33,h⟩:=AB h
  first | refine Au (ih_ref05_Atoms _ _ hx33) ?_ | (simp only [List.length_map]; refine Au (ih_ref05_Atoms _ _ hx33) ?_)
  conv=>whnf
  obtain ⟨hr,h⟩:=Eg h
  refine z4 ?_
  try rw [jg]
  conv=>whnf
  exact BE ⟨(_,(_,_)),h⟩ Mx
 exact z46
theorem Pf:∀ d:Nat,(∀ (p0:Af) (R:(List Af)) ,IP d p0 = some R→Aj Tryz.prog 159 [.d (Ax p0)] (.d (Al 6 Ao R)))
 | 0=>by
  exact z22
 | d + 1=>by
  have ih:=Pf d
  exact Vm d _ ih
theorem Wb (d:Nat):∀ (p0:Af) (R:(List Af)) ,IP d p0 = some R→Aj Tryz.prog 159 [.d (Ax p0)] (.d (Al 6 Ao R)):=Pf d
theorem Wj (p0:Am) (p1:Int) (p2:Int) (R:Bool) (h:KB p0 p1 p2 = some R):Aj Tryz.prog 228 [.d (Ac p0),.d (.int .i64 p1),.d (.int .i64 p2)] (.d (.bool R)):=by
 refine Ch Tryz.func228 ?_
 unfold KB at h
 refine A7 h (fun _=>ML _ _ _) fun x10 h=>?_
 refine Bj h fun h=>?_
 refine A7 h (fun _=>ML _ _ _) fun x16 h=>?_
 refine Bj h fun h=>?_
 refine A7 h (fun _=>UR _ _ _ _) fun x24 h=>?_
 exact A3 h
theorem KZ (p0:Aa) (p1:Af) (p2:Int) (R:Int) (h:Bu p0 p1 p2 = some R):Aj Tryz.prog 161 [.d (Ai p0),.d (Ax p1),.d (.int .i64 p2)] (.d (.int .i64 R)):=by
 refine Ch Tryz.func161 ?_
 unfold Bu at h
 refine AW h (fun h=>?_) fun h=>?_
 ·conv=>whnf
  refine z11 ?_
  refine AO (f:=Ad) h fun x18 _ h=>?_
  refine AO (f:=Ac) h fun x21 _ h=>?_
  refine A7 h (fun _=>Wj _ _ _ _) fun x26 h=>?_
  exact M4 h
 refine AW h (fun h=>?_) fun h=>?_
 ·refine A2 h fun h=>?_
  exact M4 h
 refine Cb h fun h=>?_
 exact M4 h
end Go.Proofs.YtejfnieiaecpkaaGreatDoor.P
