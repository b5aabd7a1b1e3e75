/- P3W7 -/
import Derived.Test.YtjghjdokjgcehaaGreatDoorP3W6
set_option linter.unusedSimpArgs false
namespace Go.Proofs.YtjghjdokjgcehaaGreatDoor.P
open Go.Abs Go.Proofs
set_option maxRecDepth 100000
set_option maxHeartbeats 4000000
set_option linter.unusedVariables false
theorem SR (d:Nat) (p0:Ae) (p1:Bn) (p2:(List Ax)) (R:((List AR) × Int × Int)) (h:LP d p0 p1 p2 = some R):Al Tryz.prog 12 [.d (Au p0),.d (G8 p1),.d (Ah 21 A5 p2)] (.tup [.d (Ah 26 A7 R.1),.d (.int .i64 R.2.1),.d (.int .i64 R.2.2)]):=by
 refine Cn Tryz.func12 ?_
 unfold LP at h
 refine AU h (fun _=>Nw _ _ _) fun x22 h=>?_
 refine AM h (fun h=>?_) fun h=>?_
 ·exact z37
 refine AU h (fun _=>N0 _ _ _ _) fun x29 h=>?_
 refine AM h (fun h=>?_) fun h=>?_
 ·exact z37
 refine AU h (fun _=>Tb _ _ _ _ _) fun x41 h=>?_
 refine AM h (fun h=>?_) fun h=>?_
 ·exact z37
 refine z5 h (fun p=>Cd 84 [(2,.d (Ah 21 A5 p2)),(3,.ptr 3 1 0),(4,.ptr 4 1 0),(15,.sl 15 1),(49,.d (Ah 21 A5 p2)),(50,.d (.int .i64 ((p2.length:Nat):Int))),(51,.d (.int .i64 p.1))] [(3,.var [.d (Ah 2 Af p0.Lists),.d (Ah 7 Ai p0.Columns)],1),(4,.var [.d (.str p1.Project),.d (.int .i64 p1.Version),.d (Ah 2 Ak p1.Picks),.d (Ah 1 (Ah 1 (D.int .i64)) p1.Rows)],1),(15,.row 26 79 (List.map A7 p.2),1)]) As fun _ _ ⟨v51_1,b15_1⟩ h=>?_
 simp only [My] at h
 refine AM h (fun h=>?_) fun h=>?_
 ·refine B6 (f:=A5) h fun x54 _ h=>?_
  conv=>whnf
  refine ⟨.inr ?_⟩
  conv=>whnf
  obtain ⟨x64,hx64,h⟩:=A9 h
  first | refine BN (IB _ _ _ _ hx64) ?_ | (simp only [List.length_map]; refine BN (IB _ _ _ _ hx64) ?_)
  refine AM h (fun h=>?_) fun h=>?_
  ·exact z37
  conv=>whnf
  obtain ⟨hr,h⟩:=E0 h
  refine z6 ?_
  try rw [Ma]
  exact z22
 exact z37
theorem Mx (p0:(List AR)) (R:(List AR)) (h:I9 p0 = some R):Al Tryz.prog 14 [.d (Ah 26 A7 p0)] (.d (Ah 26 A7 R)):=by
 refine Cn Tryz.func14 ?_
 unfold I9 at h
 refine z5 h (fun p=>Cd 24 [(3,.sl 3 1),(6,.d (Ah 26 A7 p0)),(7,.d (.int .i64 ((p0.length:Nat):Int))),(8,.d (.int .i64 p.1))] [(3,.row 26 79 (List.map A7 p.2),1)]) As fun _ _ ⟨v8_1,b3_1⟩ h=>?_
 simp only [L9] at h
 refine AM h (fun h=>?_) fun h=>?_
 ·refine B6 (f:=A7) h fun x10 _ h=>?_
  refine AM h (fun h=>?_) fun h=>?_
  ·refine AU h (fun _=>LA _ _) fun x16 h=>?_
   conv=>whnf
   obtain ⟨hr,h⟩:=E0 h
   refine z6 ?_
   try rw [Ma]
   exact z22
  exact z22
 exact z37
theorem D1 (p0:Ae) (p1:Int) (R:Int) (h:BD p0 p1 = some R):Al Tryz.prog 153 [.d (Au p0),.d (.int .i64 p1)] (.d (.int .i64 R)):=by
 refine Cn Tryz.func153 ?_
 unfold BD at h
 refine An h fun h=>?_
 refine B6 (f:=Ai) h fun x17 _ h=>?_
 exact AD h
theorem MW (p0:Aw) (q0:Aw) (R:Bool) (h:EK p0 q0 = some R):Al Tryz.prog 155 [.d (Ak p0),.d (.ptr [(.int .i64 q0.Column),(.int .i64 q0.Level)])] (.d (.bool R)):=by
 refine Cn Tryz.func155 ?_
 unfold EK at h
 exact AD h
theorem Ha (p0:Aj) (R:Bool) (h:DJ p0 = some R):Al Tryz.prog 156 [.d (Ad p0)] (.d (.bool R)):=by
 refine Cn Tryz.func156 ?_
 unfold DJ at h
 exact z16
theorem Pi (p0:Ae) (p1:Az) (R:Int) (h:EJ p0 p1 = some R):Al Tryz.prog 87 [.d (Au p0),.d (AA p1)] (.d (.int .i64 R)):=by
 refine Ek [14] Tryz.func87 (by kernel_rfl) ?_
 unfold EJ at h
 refine An h fun h=>?_
 refine Ga {p:Unit // BU p1 p0 = some R} (fun p=>Cd 64 [(2,.ptr 2 1 0),(3,.ptr 3 1 0)] [(2,.var [.d (Ah 2 Af p0.Lists),.d (Ah 7 Ai p0.Columns)],1),(3,.var [.d (.str p1.Name),.d (.int .i64 p1.Kind),.d (.int .i64 p1.Filter.Op),.d (.int .i64 p1.Filter.Column),.d (.int .i64 p1.Filter.Code),.d (.int .i64 p1.Filter.Low),.d (.int .i64 p1.Filter.High),.d (Ah 6 Ap p1.Filter.Kids),.d (Ah 2 Ak p1.Dims),.d (.int .i64 p1.Measure),.d (Ah 1 (D.int .i64) p1.Terms),.d (.int .i64 p1.Event.Op),.d (.int .i64 p1.Event.Column),.d (.int .i64 p1.Event.Code),.d (.int .i64 p1.Event.Low),.d (.int .i64 p1.Event.High),.d (Ah 6 Ap p1.Event.Kids)],1)]) ?_ fun p=>?_
 ·refine z5 h (fun p=>Cd 64 [(2,.ptr 2 1 0),(3,.ptr 3 1 0),(19,.d (Ah 2 Ak p1.Dims)),(20,.d (.int .i64 ((p1.Dims.length:Nat):Int))),(21,.d (.int .i64 p))] [(2,.var [.d (Ah 2 Af p0.Lists),.d (Ah 7 Ai p0.Columns)],1),(3,.var [.d (.str p1.Name),.d (.int .i64 p1.Kind),.d (.int .i64 p1.Filter.Op),.d (.int .i64 p1.Filter.Column),.d (.int .i64 p1.Filter.Code),.d (.int .i64 p1.Filter.Low),.d (.int .i64 p1.Filter.High),.d (Ah 6 Ap p1.Filter.Kids),.d (Ah 2 Ak p1.Dims),.d (.int .i64 p1.Measure),.d (Ah 1 (D.int .i64) p1.Terms),.d (.int .i64 p1.Event.Op),.d (.int .i64 p1.Event.Column),.d (.int .i64 p1.Event.Code),.d (.int .i64 p1.Event.Low),.d (.int .i64 p1.Event.High),.d (Ah 6 Ap p1.Event.Kids)],1)]) As fun _ _ v21_1 h=>?_
  simp only [CI] at h
  refine AM h (fun h=>?_) fun h=>?_
  ·refine B6 (f:=Ak) h fun x24 _ h=>?_
   refine AU h (fun _=>PD _ _ _) fun x28 h=>?_
   refine An h fun h=>?_
   refine AU h (fun _=>D1 _ _ _) fun x35 h=>?_
   refine An h fun h=>?_
   conv=>whnf
   obtain ⟨hr,h⟩:=E0 h
   refine z9 ?_
   try simp only [List.length_map]
   rw [SO]
   refine AU h (fun _=>B5 _ _ _ _ _ (fun a0 _ h=>MW a0 _ _ h)) fun x42 h=>?_
   exact z17
  conv=>whnf
  exact ⟨⟨(),h⟩,As⟩
 obtain ⟨_,h⟩:=p
 simp only [BU] at h
 refine AM h (fun h=>?_) fun h=>?_
 ·refine AU h (fun _=>D1 _ _ _) fun x51 h=>?_
  refine An h fun h=>?_
  refine An h fun h=>?_
  obtain ⟨x61,hx61,h⟩:=A9 h
  refine A1 (Ha _ _ hx61) ?_
  exact Eb h
 refine An h fun h=>?_
 obtain ⟨x61,hx61,h⟩:=A9 h
 refine A1 (Ha _ _ hx61) ?_
 exact Eb h
theorem Ph (p0:Ae) (p1:Az) (R:Int) (h:EI p0 p1 = some R):Al Tryz.prog 88 [.d (Au p0),.d (AA p1)] (.d (.int .i64 R)):=by
 refine Cn Tryz.func88 ?_
 unfold EI at h
 refine AU h (fun _=>D1 _ _ _) fun x11 h=>?_
 refine An h fun h=>?_
 refine An h fun h=>?_
 refine z5 h (fun p=>Cd 59 [(2,.ptr 2 1 0),(3,.ptr 3 1 0),(25,.d (Ah 1 (D.int .i64) p1.Terms)),(26,.d (.int .i64 ((p1.Terms.length:Nat):Int))),(27,.d (.int .i64 p))] [(2,.var [.d (Ah 2 Af p0.Lists),.d (Ah 7 Ai p0.Columns)],1),(3,.var [.d (.str p1.Name),.d (.int .i64 p1.Kind),.d (.int .i64 p1.Filter.Op),.d (.int .i64 p1.Filter.Column),.d (.int .i64 p1.Filter.Code),.d (.int .i64 p1.Filter.Low),.d (.int .i64 p1.Filter.High),.d (Ah 6 Ap p1.Filter.Kids),.d (Ah 2 Ak p1.Dims),.d (.int .i64 p1.Measure),.d (Ah 1 (D.int .i64) p1.Terms),.d (.int .i64 p1.Event.Op),.d (.int .i64 p1.Event.Column),.d (.int .i64 p1.Event.Code),.d (.int .i64 p1.Event.Low),.d (.int .i64 p1.Event.High),.d (Ah 6 Ap p1.Event.Kids)],1)]) As fun _ _ v27_1 h=>?_
 simp only [CH] at h
 refine AM h (fun h=>?_) fun h=>?_
 ·refine B6 (f:=(D.int .i64)) h fun x30 _ h=>?_
  refine AU h (fun _=>D1 _ _ _) fun x34 h=>?_
  refine An h fun h=>?_
  refine An h fun h=>?_
  obtain ⟨hr,h⟩:=E0 h
  refine z9 ?_
  try simp only [List.length_map]
  rw [SO]
  refine AU h (fun _=>Ev _ _ _) fun x46 h=>?_
  exact z17
 conv=>whnf
 try simp only [Ci] at h
 refine An h fun h=>?_
 refine AU h (fun _=>Ha _ _) fun x56 h=>?_
 exact Eb h
theorem Pg (d:Nat) (p0:Ae) (p1:Az) (R:Int) (h:EH d p0 p1 = some R):Al Tryz.prog 89 [.d (Au p0),.d (AA p1)] (.d (.int .i64 R)):=by
 refine Cn Tryz.func89 ?_
 unfold EH at h
 refine AU h (fun _=>D1 _ _ _) fun x10 h=>?_
 refine An h fun h=>?_
 refine B6 (f:=Ai) h fun x17 _ h=>?_
 refine An h fun h=>?_
 refine AU h (fun _=>Ct _ _ _ _) fun x24 h=>?_
 refine An h fun h=>?_
 exact Eb h
theorem MU (d:Nat) (p0:Ae) (p1:Az) (R:Int) (h:Dz d p0 p1 = some R):Al Tryz.prog 44 [.d (Au p0),.d (AA p1)] (.d (.int .i64 R)):=by
 refine Cn Tryz.func44 ?_
 unfold Dz at h
 refine AU h (fun _=>CS _ _) fun x8 h=>?_
 refine An h fun h=>?_
 refine AU h (fun _=>DY _ _) fun x16 h=>?_
 refine An h fun h=>?_
 refine An h fun h=>?_
 refine AU h (fun _=>Ct _ _ _ _) fun x30 h=>?_
 refine An h fun h=>?_
 refine AM h (fun h=>?_) fun h=>?_
 ·refine AU h (fun _=>Pi _ _ _) fun x40 h=>?_
  exact AD h
 refine AM h (fun h=>?_) fun h=>?_
 ·refine AU h (fun _=>Ph _ _ _) fun x45 h=>?_
  exact AD h
 refine AU h (fun _=>Pg _ _ _ _) fun x48 h=>?_
 exact AD h
theorem Fe (p0:(List Az)) (p1:(Az→Option Bool)) (f_p1:FuncId) (c_p1:List D) (R:Int) (h_p1:∀ (a0:Az) r,p1 a0 = some r→Al Tryz.prog f_p1 ([.d (AA a0)]++c_p1.map .d) (.d (.bool r))) (h:Bw p0 p1 = some R):Al Tryz.prog 90 [.d (Ah 17 AA p0),.d (.fn f_p1 c_p1)] (.d (.int .i64 R)):=by
 refine Cn Tryz.func90 ?_
 unfold Bw at h
 refine z5 h (fun p=>Cd 19 [(0,.d (Ah 17 AA p0)),(1,.d (.fn f_p1 c_p1)),(7,.d (.int .i64 ((p0.length:Nat):Int))),(8,.d (.int .i64 p))] []) As fun _ _ v8_1 h=>?_
 simp only [C7] at h
 refine B0 h fun h=>?_
 refine B6 (f:=AA) h fun x14 _ h=>?_
 exact z32
theorem E7 (p0:(List Az)) (p1:(Az→Option Bool)) (f_p1:FuncId) (c_p1:List D) (R:Bool) (h_p1:∀ (a0:Az) r,p1 a0 = some r→Al Tryz.prog f_p1 ([.d (AA a0)]++c_p1.map .d) (.d (.bool r))) (h:AN p0 p1 = some R):Al Tryz.prog 45 [.d (Ah 17 AA p0),.d (.fn f_p1 c_p1)] (.d (.bool R)):=by
 refine Cn Tryz.func45 ?_
 unfold AN at h
 refine AU h (fun _=>Fe _ _ _ _ _ h_p1) fun x7 h=>?_
 exact AD h
theorem MS (p0:Az) (q0:Az) (R:Bool) (h:EG p0 q0 = some R):Al Tryz.prog 46 [.d (AA p0),.d (.ptr [(.str q0.Name),(.int .i64 q0.Kind),(.int .i64 q0.Filter.Op),(.int .i64 q0.Filter.Column),(.int .i64 q0.Filter.Code),(.int .i64 q0.Filter.Low),(.int .i64 q0.Filter.High),(Ah 6 Ap q0.Filter.Kids),(Ah 2 Ak q0.Dims),(.int .i64 q0.Measure),(Ah 1 (D.int .i64) q0.Terms),(.int .i64 q0.Event.Op),(.int .i64 q0.Event.Column),(.int .i64 q0.Event.Code),(.int .i64 q0.Event.Low),(.int .i64 q0.Event.High),(Ah 6 Ap q0.Event.Kids)])] (.d (.bool R)):=by
 refine Cn Tryz.func46 ?_
 unfold EG at h
 exact AD h
theorem Pf (d:Nat) (p0:Ae) (p1:A3) (R:Int) (h:EF d p0 p1 = some R):Al Tryz.prog 23 [.d (Au p0),.d (BZ p1)] (.d (.int .i64 R)):=by
 refine Ek [6] Tryz.func23 (by kernel_rfl) ?_
 unfold EF at h
 refine AU h (fun _=>CS _ _) fun x12 h=>?_
 refine An h fun h=>?_
 refine Ga {p:Unit // Dy d p0 p1 = some R} (fun p=>Cd 98 [(2,.ptr 2 1 0),(3,.ptr 3 1 0)] [(2,.var [.d (Ah 2 Af p0.Lists),.d (Ah 7 Ai p0.Columns)],1),(3,.var [.d (.str p1.Project),.d (.str p1.Source),.d (.int .i64 p1.Cohort.Op),.d (.int .i64 p1.Cohort.Column),.d (.int .i64 p1.Cohort.Code),.d (.int .i64 p1.Cohort.Low),.d (.int .i64 p1.Cohort.High),.d (Ah 6 Ap p1.Cohort.Kids),.d (.int .i64 p1.Sample.Part),.d (.int .i64 p1.Sample.Of),.d (.int .i64 p1.Sample.Seed),.d (Ah 17 AA p1.Questions)],1)]) ?_ fun p=>?_
 ·refine AU h (fun _=>DY _ _) fun x18 h=>?_
  refine An h fun h=>?_
  refine AU h (fun _=>DY _ _) fun x23 h=>?_
  exact z33
 obtain ⟨_,h⟩:=p
 simp only [Dy] at h
 refine AU h (fun _=>Ct _ _ _ _) fun x29 h=>?_
 refine An h fun h=>?_
 refine An h fun h=>?_
 refine An h fun h=>?_
 refine z5 h (fun p=>Cd 98 [(2,.ptr 2 1 0),(3,.ptr 3 1 0),(78,.d (Ah 17 AA p1.Questions)),(79,.d (.int .i64 ((p1.Questions.length:Nat):Int))),(80,.d (.int .i64 p))] [(2,.var [.d (Ah 2 Af p0.Lists),.d (Ah 7 Ai p0.Columns)],1),(3,.var [.d (.str p1.Project),.d (.str p1.Source),.d (.int .i64 p1.Cohort.Op),.d (.int .i64 p1.Cohort.Column),.d (.int .i64 p1.Cohort.Code),.d (.int .i64 p1.Cohort.Low),.d (.int .i64 p1.Cohort.High),.d (Ah 6 Ap p1.Cohort.Kids),.d (.int .i64 p1.Sample.Part),.d (.int .i64 p1.Sample.Of),.d (.int .i64 p1.Sample.Seed),.d (Ah 17 AA p1.Questions)],1)]) As fun _ _ v80_1 h=>?_
 simp only [CG] at h
 refine B0 h fun h=>?_
 refine B6 (f:=AA) h fun x83 _ h=>?_
 refine AU h (fun _=>MU _ _ _ _) fun x87 h=>?_
 refine An h fun h=>?_
 conv=>whnf
 obtain ⟨hr,h⟩:=E0 h
 refine z9 ?_
 try simp only [List.length_map]
 rw [SO]
 refine AU h (fun _=>E7 _ _ _ _ _ (fun a0 _ h=>MS a0 _ _ h)) fun x96 h=>?_
 exact z17
theorem icA1 (x : Aj) : Aj.mk x.Op x.Column x.Code x.Low x.High x.Kids = x := by cases x; rfl
theorem icA2 {P : Program} {f : FuncId} {args : List AV} {x y : D} (h : Al P f args (.d x)) (hw : ∀ O w v, AB O w v x → AB O w v y) : Al P f args (.d y) :=
  ⟨h.1, fun O w vs h1 h2 h3 h4 => (h.2 O w vs h1 h2 h3 h4).mono fun e w' ⟨v, he, hb, hr⟩ => ⟨v, he, hb, hw _ _ _ hr⟩⟩
theorem icA3 {O : Nat → Prop} {w : World} {v : Value} {a b c d e : D} {n m : Nat} (h : AB O w v (.agg [a, b, c, d, e, .list n []])) : AB O w v (.agg [a, b, c, d, e, .list m []]) := by
  cases h with
  | agg vs xs hl h1 h =>
    refine .agg vs _ hl (fun x hx => ?_) fun i v x hv hx => ?_
    · simp only [List.mem_cons, List.not_mem_nil, or_false] at hx
      rcases hx with rfl | rfl | rfl | rfl | rfl | rfl
      · exact h1 _ (by simp)
      · exact h1 _ (by simp)
      · exact h1 _ (by simp)
      · exact h1 _ (by simp)
      · exact h1 _ (by simp)
      · rfl
    · match i, hv, hx with
      | 0, hv, hx => exact h 0 v x hv hx
      | 1, hv, hx => exact h 1 v x hv hx
      | 2, hv, hx => exact h 2 v x hv hx
      | 3, hv, hx => exact h 3 v x hv hx
      | 4, hv, hx => exact h 4 v x hv hx
      | 5, hv, hx =>
        obtain rfl := Option.some.inj hx
        have h5 := h 5 v (.list n []) hv rfl
        cases h5 with
        | emp a cap => exact .emp a cap m
        | list b off cap sz xs c hne => exact absurd rfl hne
      | i + 6, hv, hx => cases hx
theorem icA4 (op col code lo hi : Int) : Al Tryz.prog 24 [.d (Ad ⟨op, col, code, lo, hi, []⟩)] (.d (Ad ⟨op, col, code, lo, hi, []⟩)) := by
  refine icA2 (x := .agg [.int .i64 op, .int .i64 col, .int .i64 code, .int .i64 lo, .int .i64 hi, .list 0 []]) ?_ fun _ _ _ h => icA3 (m := 6) h
  refine DO Tryz.func24 (by kernel_rfl) ?_
  conv => whnf
  refine loop Unit (fun _ => Cd 24 [(1, .ptr 1 1 0), (2, .ptr 2 1 0), (9, .d (Ah 6 Ap ([] : List Aj))), (10, .d (.int .i64 ((([] : List Aj).length : Nat) : Int))), (11, .d (.int .i64 0))] [(1, .var [.d (.int .i64 op), .d (.int .i64 col), .d (.int .i64 code), .d (.int .i64 lo), .d (.int .i64 hi), .d (.nil 0)], 1), (2, .var [.d (.int .i64 0), .d (.int .i64 0), .d (.int .i64 0), .d (.int .i64 0), .d (.int .i64 0), .d (.nil 6)], 1)]) (fun _ => 0) () ?_ fun _ => ?_
  · conv => whnf
    repeat (first | exact trivial | refine And.intro (by first | with_reducible rfl | rfl | exact .inl rfl | exact .inr rfl | (simp only [List.length_map]; done) | (simp only [List.length_map]; rfl) | (simp only [List.nil_append, List.map_cons, List.map_nil, Aa]; done) | (simp only [List.nil_append, List.map_cons, List.map_nil, Aa]; rfl) | (simp only [List.map_append, List.map_cons, List.map_nil]; rfl)) ?_)
  conv => whnf
  exact ⟨rfl⟩
theorem QK (d : Nat) (self_interpret_cond : (Aj → Option Aj)) (ih_interpret_cond : ∀ (p0 : Aj) (R : Aj) , self_interpret_cond p0 = some R → Al Tryz.prog 24 [.d (Ad p0)] (.d (Ad R))) (p0 : Aj) (R : Aj)  (hF : Fu d self_interpret_cond p0 = some R) : Al Tryz.prog 24 [.d (Ad p0)] (.d (Ad R)) := by
  by_cases hk : p0.Kids = []
  · obtain ⟨op, col, code, lo, hi, kids⟩ := p0
    obtain rfl : kids = [] := hk
    have h : Fu d self_interpret_cond ⟨op, col, code, lo, hi, []⟩ = some ⟨op, col, code, lo, hi, []⟩ := rfl
    obtain rfl := Option.some.inj (h.symm.trans hF)
    exact icA4 op col code lo hi
  refine DO Tryz.func24 (by kernel_rfl) ?_
  unfold Fu at hF
  conv => whnf
  obtain ⟨Φ1, hΦ1, hF⟩ := AI hF
  refine loop ({p : Nat × (Int × (List Aj)) // Φ1 p.1 p.2 = some R ∧ p.2 = (0, [])} ⊕ {p : Nat × (Int × (List Aj)) // Φ1 p.1 p.2 = some R}) (fun q => match q with | .inl p => Cd 24 [(1, .ptr 1 1 0), (2, .ptr 2 1 0), (9, .d (Ah 6 Ap p0.Kids)), (10, .d (.int .i64 ((p0.Kids.length : Nat) : Int))), (11, .d (.int .i64 p.1.2.1))] [(1, .var [.d (.int .i64 p0.Op), .d (.int .i64 p0.Column), .d (.int .i64 p0.Code), .d (.int .i64 p0.Low), .d (.int .i64 p0.High), .d (.nil 0)], 1), (2, .var [.d (.int .i64 0), .d (.int .i64 0), .d (.int .i64 0), .d (.int .i64 0), .d (.int .i64 0), .d (.nil 6)], 1)] | .inr p => Cd 24 [(1, .ptr 1 1 0), (2, .ptr 2 1 0), (9, .d (Ah 6 Ap p0.Kids)), (10, .d (.int .i64 ((p0.Kids.length : Nat) : Int))), (11, .d (.int .i64 p.1.2.1))] [(1, .var [.d (.int .i64 p0.Op), .d (.int .i64 p0.Column), .d (.int .i64 p0.Code), .d (.int .i64 p0.Low), .d (.int .i64 p0.High), .sl 20 1], 1), (2, .var [.d (.int .i64 0), .d (.int .i64 0), .d (.int .i64 0), .d (.int .i64 0), .d (.int .i64 0), .d (.nil 6)], 1), (20, .row 6 25 (List.map Ap p.1.2.2), 1)]) (fun q => match q with | .inl p => p.1.1 | .inr p => p.1.1) (.inl ⟨(_, (_, _)), hF, rfl⟩) ?_ fun q => ?_
  · conv => whnf
    repeat (first | exact trivial | refine And.intro (by first | with_reducible rfl | rfl | exact .inl rfl | exact .inr rfl | (simp only [List.length_map]; done) | (simp only [List.length_map]; rfl) | (simp only [List.nil_append, List.map_cons, List.map_nil, Aa]; done) | (simp only [List.nil_append, List.map_cons, List.map_nil, Aa]; rfl) | (simp only [List.map_append, List.map_cons, List.map_nil]; rfl)) ?_)
  rcases q with p | p
  · obtain ⟨⟨k1, ⟨v11_1, b20_1⟩⟩, hF, hb⟩ := p
    obtain ⟨rfl, rfl⟩ := Prod.mk.inj hb
    obtain ⟨k1, rfl, hF⟩ := hΦ1 _ _ hF
    simp only [Gw] at hF
    have hc : decide ((0 : Int) < ((p0.Kids.length : Nat) : Int)) = true := decide_eq_true (by have := List.length_pos_iff.2 hk; omega)
    rw [hc, cond_true] at hF
    conv => whnf
    refine br (fun _ => ?_) (fun hb => absurd hb (by simp [List.length_pos_iff.2 hk]))
    · conv => whnf
      refine eT (f := Ap) hF (by first | rfl | simp only [List.length_map, cond_true, cond_false]) fun x13 hx13 hF => ?_
      rw [Aa x13]
      conv => whnf
      refine ⟨⟨by decide +kernel, by kernel_rfl⟩, ?_⟩
      conv => whnf
      obtain ⟨x18, hx18, hF⟩ := A9 hF
      first | refine A1 (ih_interpret_cond _ _ hx18) ?_ | (simp only [List.length_map]; refine A1 (ih_interpret_cond _ _ hx18) ?_)
      conv => whnf
      obtain ⟨hr, hF⟩ := E0 hF
      refine ⟨by (simp only [List.length_map]; exact Bq hr (of_decide_eq_true (by kernel_rfl)) (.inr (by kernel_rfl))), ?_⟩
      conv => whnf
      refine ⟨.inr ⟨(_, (_, _)), hF⟩, ?_, Nat.lt_succ_self _⟩
      refine TW ?_
      conv => whnf
      repeat (first | exact trivial | refine And.intro (by first | with_reducible rfl | rfl | exact .inl rfl | exact .inr rfl | (simp only [List.length_map]; done) | (simp only [List.length_map]; rfl) | (simp only [List.nil_append, List.map_cons, List.map_nil, Aa]; done) | (simp only [List.nil_append, List.map_cons, List.map_nil, Aa]; rfl) | (simp only [List.map_append, List.map_cons, List.map_nil]; rfl)) ?_)
  · obtain ⟨⟨k1, ⟨v11_1, b20_1⟩⟩, hF⟩ := p
    obtain ⟨k1, rfl, hF⟩ := hΦ1 _ _ hF
    simp only [Gw] at hF
    conv => whnf
    refine Rw hF (by first | rfl | simp only [List.length_map, cond_true, cond_false]) (fun hF => ?_) (fun hF => ?_)
    · conv => whnf
      refine eT (f := Ap) hF (by first | rfl | simp only [List.length_map, cond_true, cond_false]) fun x13 hx13 hF => ?_
      rw [Aa x13]
      conv => whnf
      refine ⟨⟨by decide +kernel, by kernel_rfl⟩, ?_⟩
      conv => whnf
      obtain ⟨x18, hx18, hF⟩ := A9 hF
      first | refine A1 (ih_interpret_cond _ _ hx18) ?_ | (simp only [List.length_map]; refine A1 (ih_interpret_cond _ _ hx18) ?_)
      conv => whnf
      obtain ⟨hr, hF⟩ := E0 hF
      refine ⟨by (simp only [List.length_map]; exact Bq hr (of_decide_eq_true (by kernel_rfl)) (.inr (by kernel_rfl))), ?_⟩
      try rw [YG]
      conv => whnf
      refine ⟨.inr ⟨(_, (_, _)), hF⟩, ?_, Nat.lt_succ_self _⟩
      refine TW ?_
      conv => whnf
      repeat (first | exact trivial | refine And.intro (by first | with_reducible rfl | rfl | exact .inl rfl | exact .inr rfl | (simp only [List.length_map]; done) | (simp only [List.length_map]; rfl) | (simp only [List.nil_append, List.map_cons, List.map_nil, Aa]; done) | (simp only [List.nil_append, List.map_cons, List.map_nil, Aa]; rfl) | (rw [icA1 x18]; done) | (rw [icA1 x18]; rfl)) ?_)
    conv => whnf
    refine ⟨.inl ?_⟩
    conv => whnf
    obtain rfl := Option.some.inj hF
    exact ⟨by first | rfl | (simp only [List.length_map]; done) | (simp only [List.length_map]; rfl) | (simp only [Ad, Aa, Ac, Ab, Ah, List.map_cons, List.map_nil, List.length_map]; done) | (simp only [Ad, Aa, Ac, Ab, Ah, List.map_cons, List.map_nil, List.length_map]; rfl)⟩

theorem LB:∀ d:Nat,(∀ (p0:Aj) (R:Aj) ,C0 d p0 = some R→Al Tryz.prog 24 [.d (Ad p0)] (.d (Ad R)))
 | 0=>by
  exact z24
 | d + 1=>by
  have ih:=LB d
  exact QK d _ ih
theorem Mz (d:Nat):∀ (p0:Aj) (R:Aj) ,C0 d p0 = some R→Al Tryz.prog 24 [.d (Ad p0)] (.d (Ad R)):=LB d
theorem Jb (d:Nat) (p0:Ae) (p1:A3) (R:((List Ax) × Int)) (h:BL d p0 p1 = some R):Al Tryz.prog 8 [.d (Au p0),.d (BZ p1)] (.tup [.d (Ah 21 A5 R.1),.d (.int .i64 R.2)]):=by
 refine Cn Tryz.func8 ?_
 unfold BL at h
 refine AU h (fun _=>Pf _ _ _ _) fun x13 h=>?_
 refine AM h (fun h=>?_) fun h=>?_
 ·exact z37
 refine z5 h (fun p=>Cd 58 [(7,.sl 7 1),(18,.d (Ah 17 AA p1.Questions)),(19,.d (.int .i64 ((p1.Questions.length:Nat):Int))),(20,.d (.int .i64 p.1))] [(7,.row 21 60 (List.map A5 p.2),1)]) LJ fun _ _ ⟨v20_1,b7_1⟩ h=>?_
 simp only [CR] at h
 refine AM h (fun h=>?_) fun h=>?_
 ·refine B6 (f:=AA) h fun x22 _ h=>?_
  conv=>whnf
  refine z13 ?_
  refine AU h (fun _=>Mz _ _ _) fun x28 h=>?_
  refine AU h (fun _=>Mz _ _ _) fun x31 h=>?_
  refine AM h (fun h=>?_) fun h=>?_
  ·refine AU h (fun _=>E3 _ _) fun x39 h=>?_
   exact z42
  refine AM h (fun h=>?_) fun h=>?_
  ·refine AU h (fun _=>CJ _ _) fun x46 h=>?_
   conv=>whnf
   refine ⟨.inl ?_⟩
   exact z42
  exact z42
 exact z37
end Go.Proofs.YtjghjdokjgcehaaGreatDoor.P
