/- P3W6 -/
import Derived.Test.YtjgeigjjfcnojaaGreatDoorP3W5
set_option linter.unusedSimpArgs false
namespace Go.Proofs.YtjgeigjjfcnojaaGreatDoor.P
open Go.Abs Go.Proofs
set_option maxRecDepth 100000
set_option maxHeartbeats 4000000
set_option linter.unusedVariables false
theorem I5 (d:Nat) (p0:Af) (p1:A1) (p2:(List AC)) (p3:A2) (R:(AA × Int)) (h:CO d p0 p1 p2 p3 = some R):Aj Tryz.prog 7 [.d (Au p0),.d (CM p1),.d (Ah 26 A0 p2),.d (Ad p3)] (.tup [.d (Bv R.1),.d (.int .i64 R.2)]):=by
 refine BF Tryz.func7 ?_
 unfold CO at h
 refine AF h (fun _=>Jr _ _ _) fun x15 h=>?_
 refine AE h (fun h=>?_) fun h=>?_
 ·exact z16
 refine AF h (fun _=>Ro _ _ _ _ _ _) fun x26 h=>?_
 refine AE h (fun h=>?_) fun h=>?_
 ·exact z16
 refine AF h (fun _=>MN _ _ _ _) fun x39 h=>?_
 exact z16
theorem Ek (p0:(List AR)) (p1:(AR→Option Bool)) (f_p1:FuncId) (c_p1:List D) (R:Int) (h_p1:∀ (a0:AR) r,p1 a0 = some r→Aj Tryz.prog f_p1 ([.d (AX a0)]++c_p1.map .d) (.d (.bool r))) (h:Bz p0 p1 = some R):Aj Tryz.prog 261 [.d (Ah 21 AX p0),.d (.fn f_p1 c_p1)] (.d (.int .i64 R)):=by
 refine BF Tryz.func261 ?_
 unfold Bz at h
 refine z5 h (fun p=>BB 19 [(0,.d (Ah 21 AX p0)),(1,.d (.fn f_p1 c_p1)),(7,.d (.int .i64 ((p0.length:Nat):Int))),(8,.d (.int .i64 p))] []) Ak fun _ _ v8_1 h=>?_
 simp only [BW] at h
 refine AY h fun h=>?_
 refine Bd (f:=AX) h fun x14 _ h=>?_
 exact z33
theorem DF (p0:(List AR)) (p1:(AR→Option Bool)) (f_p1:FuncId) (c_p1:List D) (R:Bool) (h_p1:∀ (a0:AR) r,p1 a0 = some r→Aj Tryz.prog f_p1 ([.d (AX a0)]++c_p1.map .d) (.d (.bool r))) (h:Bu p0 p1 = some R):Aj Tryz.prog 203 [.d (Ah 21 AX p0),.d (.fn f_p1 c_p1)] (.d (.bool R)):=by
 refine BF Tryz.func203 ?_
 unfold Bu at h
 refine AF h (fun _=>Ek _ _ _ _ _ h_p1) fun x7 h=>?_
 exact A5 h
theorem Lz (p0:AR) (q0:ByteArray) (R:Bool) (h:EZ p0 q0 = some R):Aj Tryz.prog 204 [.d (AX p0),.d (.ptr [(.str q0)])] (.d (.bool R)):=by
 refine BF Tryz.func204 ?_
 unfold EZ at h
 exact A5 h
theorem Is (p0:ByteArray) (q0:(List AR)) (R:Bool) (h:E0 p0 q0 = some R):Aj Tryz.prog 202 [.d (.str p0),.d (.ptr [(Ah 21 AX q0)])] (.d (.bool R)):=by
 refine BF Tryz.func202 ?_
 unfold E0 at h
 refine AF h (fun _=>DF _ _ _ _ _ (fun a0 _ h=>Lz a0 _ _ h)) fun x6 h=>?_
 exact A5 h
theorem RD (d:Nat) (self_program_count:(A2→Int→Option Int)) (ih_program_count:∀ (p0:A2) (p1:Int) (R:Int) ,self_program_count p0 p1 = some R→Aj Tryz.prog 205 [.d (Ad p0),.d (.int .i64 p1)] (.d (.int .i64 R))) (p0:A2) (p1:Int) (R:Int) (h:Ju d self_program_count p0 p1 = some R):Aj Tryz.prog 205 [.d (Ad p0),.d (.int .i64 p1)] (.d (.int .i64 R)):=by
 refine BF Tryz.func205 ?_
 unfold Ju at h
 refine z5 h (fun p=>BB 27 [(1,.d (.int .i64 p1)),(5,.d (.int .i64 p.1)),(9,.d (Ah 19 Bn p0.Kids)),(10,.d (.int .i64 ((p0.Kids.length:Nat):Int))),(11,.d (.int .i64 p.2))] []) A4 fun _ _ ⟨v5_1,v11_1⟩ h=>?_
 simp only [Ml] at h
 refine AE h (fun h=>?_) fun h=>?_
 ·refine Bd (f:=Bn) h fun x13 _ h=>?_
  rw [Ab x13]
  refine AE h (fun h=>?_) fun h=>?_
  ·exact z16
  conv=>whnf
  obtain ⟨x23,hx23,h⟩:=A8 h
  first | refine Av (ih_program_count _ _ _ hx23) ?_ | (simp only [List.length_map]; refine Av (ih_program_count _ _ _ hx23) ?_)
  exact z25
 exact z16
theorem Mm:∀ d:Nat,(∀ (p0:A2) (p1:Int) (R:Int) ,IP d p0 p1 = some R→Aj Tryz.prog 205 [.d (Ad p0),.d (.int .i64 p1)] (.d (.int .i64 R)))
 | 0=>by
  exact z26
 | d + 1=>by
  have ih:=Mm d
  exact RD d _ ih
theorem SR (d:Nat):∀ (p0:A2) (p1:Int) (R:Int) ,IP d p0 p1 = some R→Aj Tryz.prog 205 [.d (Ad p0),.d (.int .i64 p1)] (.d (.int .i64 R)):=Mm d
theorem SS (d:Nat) (self_program_deep:(A2→Option Int)) (ih_program_deep:∀ (p0:A2) (R:Int) ,self_program_deep p0 = some R→Aj Tryz.prog 206 [.d (Ad p0)] (.d (.int .i64 R))) (p0:A2) (R:Int) (h:Ky d self_program_deep p0 = some R):Aj Tryz.prog 206 [.d (Ad p0)] (.d (.int .i64 R)):=by
 refine BF Tryz.func206 ?_
 unfold Ky at h
 refine z5 h (fun p=>BB 20 [(3,.d (.int .i64 p.1)),(7,.d (Ah 19 Bn p0.Kids)),(8,.d (.int .i64 ((p0.Kids.length:Nat):Int))),(9,.d (.int .i64 p.2))] []) A4 fun _ _ ⟨v3_1,v9_1⟩ h=>?_
 simp only [Nw] at h
 refine AE h (fun h=>?_) fun h=>?_
 ·refine Bd (f:=Bn) h fun x11 _ h=>?_
  rw [Ab x11]
  conv=>whnf
  obtain ⟨x15,hx15,h⟩:=A8 h
  first | refine Av (ih_program_deep _ _ hx15) ?_ | (simp only [List.length_map]; refine Av (ih_program_deep _ _ hx15) ?_)
  exact z25
 exact z16
theorem Nx:∀ d:Nat,(∀ (p0:A2) (R:Int) ,JI d p0 = some R→Aj Tryz.prog 206 [.d (Ad p0)] (.d (.int .i64 R)))
 | 0=>by
  exact z26
 | d + 1=>by
  have ih:=Nx d
  exact SS d _ ih
theorem TX (d:Nat):∀ (p0:A2) (R:Int) ,JI d p0 = some R→Aj Tryz.prog 206 [.d (Ad p0)] (.d (.int .i64 R)):=Nx d
theorem RF (d:Nat) (self_program_named:(A2→(ByteArray→Option Bool)→Option Bool)) (ih_program_named:∀ (p0:A2) (p1:(ByteArray→Option Bool)) (f_p1:FuncId) (c_p1:List D) (R:Bool) (h_p1:∀ (a0:ByteArray) r,p1 a0 = some r→Aj Tryz.prog f_p1 ([.d (.str a0)]++c_p1.map .d) (.d (.bool r))),self_program_named p0 p1 = some R→Aj Tryz.prog 207 [.d (Ad p0),.d (.fn f_p1 c_p1)] (.d (.bool R))) (self_program_named_c1:(A2→(ByteArray→Option Bool)→Option Bool)) (ih_program_named_c1:∀ (p0:A2) (q0:(ByteArray→Option Bool)) (f_q0:FuncId) (c_q0:List D) (R:Bool) (h_q0:∀ (a0:ByteArray) r,q0 a0 = some r→Aj Tryz.prog f_q0 ([.d (.str a0)]++c_q0.map .d) (.d (.bool r))),self_program_named_c1 p0 q0 = some R→Aj Tryz.prog 262 [.d (Ad p0),.d (.ptr [.fn f_q0 c_q0])] (.d (.bool R))) (p0:A2) (p1:(ByteArray→Option Bool)) (f_p1:FuncId) (c_p1:List D) (R:Bool) (h_p1:∀ (a0:ByteArray) r,p1 a0 = some r→Aj Tryz.prog f_p1 ([.d (.str a0)]++c_p1.map .d) (.d (.bool r))) (h:Jx d self_program_named self_program_named_c1 p0 p1 = some R):Aj Tryz.prog 207 [.d (Ad p0),.d (.fn f_p1 c_p1)] (.d (.bool R)):=by
 refine BF Tryz.func207 ?_
 unfold Jx at h
 refine AE h (fun h=>?_) fun h=>?_
 ·conv=>whnf
  rw [Gx]
  refine AF h (fun _=>h_p1 _ _) fun x12 h=>?_
  refine AE h (fun h=>?_) fun h=>?_
  ·exact z16
  conv=>whnf
  exact z53
 exact z53
theorem Pg (d:Nat) (self_program_named:(A2→(ByteArray→Option Bool)→Option Bool)) (ih_program_named:∀ (p0:A2) (p1:(ByteArray→Option Bool)) (f_p1:FuncId) (c_p1:List D) (R:Bool) (h_p1:∀ (a0:ByteArray) r,p1 a0 = some r→Aj Tryz.prog f_p1 ([.d (.str a0)]++c_p1.map .d) (.d (.bool r))),self_program_named p0 p1 = some R→Aj Tryz.prog 207 [.d (Ad p0),.d (.fn f_p1 c_p1)] (.d (.bool R))) (self_program_named_c1:(A2→(ByteArray→Option Bool)→Option Bool)) (ih_program_named_c1:∀ (p0:A2) (q0:(ByteArray→Option Bool)) (f_q0:FuncId) (c_q0:List D) (R:Bool) (h_q0:∀ (a0:ByteArray) r,q0 a0 = some r→Aj Tryz.prog f_q0 ([.d (.str a0)]++c_q0.map .d) (.d (.bool r))),self_program_named_c1 p0 q0 = some R→Aj Tryz.prog 262 [.d (Ad p0),.d (.ptr [.fn f_q0 c_q0])] (.d (.bool R))) (p0:A2) (q0:(ByteArray→Option Bool)) (f_q0:FuncId) (c_q0:List D) (R:Bool) (h_q0:∀ (a0:ByteArray) r,q0 a0 = some r→Aj Tryz.prog f_q0 ([.d (.str a0)]++c_q0.map .d) (.d (.bool r))) (h:GY d self_program_named self_program_named_c1 p0 q0 = some R):Aj Tryz.prog 262 [.d (Ad p0),.d (.ptr [.fn f_q0 c_q0])] (.d (.bool R)):=by
 refine BF Tryz.func262 ?_
 unfold GY at h
 conv=>whnf
 obtain ⟨x6,hx6,h⟩:=A8 h
 first | refine Av (ih_program_named _ _ _ _ _ h_q0 hx6) ?_ | (simp only [List.length_map]; refine Av (ih_program_named _ _ _ _ _ h_q0 hx6) ?_)
 exact z16
theorem DK:∀ d:Nat,(∀ (p0:A2) (p1:(ByteArray→Option Bool)) (f_p1:FuncId) (c_p1:List D) (R:Bool) (h_p1:∀ (a0:ByteArray) r,p1 a0 = some r→Aj Tryz.prog f_p1 ([.d (.str a0)]++c_p1.map .d) (.d (.bool r))),Gz d p0 p1 = some R→Aj Tryz.prog 207 [.d (Ad p0),.d (.fn f_p1 c_p1)] (.d (.bool R)))∧(∀ (p0:A2) (q0:(ByteArray→Option Bool)) (f_q0:FuncId) (c_q0:List D) (R:Bool) (h_q0:∀ (a0:ByteArray) r,q0 a0 = some r→Aj Tryz.prog f_q0 ([.d (.str a0)]++c_q0.map .d) (.d (.bool r))),I8 d p0 q0 = some R→Aj Tryz.prog 262 [.d (Ad p0),.d (.ptr [.fn f_q0 c_q0])] (.d (.bool R)))
 | 0=>by
  refine ⟨?_,?_⟩ <;> (intros; rename_i h; cases h)
 | d + 1=>by
  have ih:=DK d
  exact ⟨RF d _ (ih).1 _ (ih).2,Pg d _ (ih).1 _ (ih).2⟩
theorem SU (d:Nat):∀ (p0:A2) (p1:(ByteArray→Option Bool)) (f_p1:FuncId) (c_p1:List D) (R:Bool) (h_p1:∀ (a0:ByteArray) r,p1 a0 = some r→Aj Tryz.prog f_p1 ([.d (.str a0)]++c_p1.map .d) (.d (.bool r))),Gz d p0 p1 = some R→Aj Tryz.prog 207 [.d (Ad p0),.d (.fn f_p1 c_p1)] (.d (.bool R)):=(DK d).1
theorem Qi (d:Nat) (p0:Af) (p1:(List AR)) (p2:AR) (R:Int) (h:I7 d p0 p1 p2 = some R):Aj Tryz.prog 122 [.d (Au p0),.d (Ah 21 AX p1),.d (AX p2)] (.d (.int .i64 R)):=by
 refine BF Tryz.func122 ?_
 unfold I7 at h
 refine AF h (fun _=>Gg _ _) fun x12 h=>?_
 refine Ap h fun h=>?_
 refine AF h (fun _=>Is _ _ _) fun x18 h=>?_
 refine Ap h fun h=>?_
 refine AF h (fun _=>SR _ _ _ _) fun x22 h=>?_
 refine Ap h fun h=>?_
 refine AF h (fun _=>TX _ _ _) fun x27 h=>?_
 refine Ap h fun h=>?_
 refine AF h (fun _=>Nv _ _ _ _) fun x33 h=>?_
 refine Ap h fun h=>?_
 refine AF h (fun _=>SU _ _ _ _ _ _ (fun a0 _ h=>Is a0 _ _ h)) fun x39 h=>?_
 exact DO h
theorem Nu (d:Nat) (p0:Af) (p1:(List AR)) (R:(Int × Int)) (h:IN d p0 p1 = some R):Aj Tryz.prog 54 [.d (Au p0),.d (Ah 21 AX p1)] (.tup [.d (.int .i64 R.1),.d (.int .i64 R.2)]):=by
 refine BF Tryz.func54 ?_
 unfold IN at h
 refine AF h (fun _=>D8 _ _) fun x11 h=>?_
 refine Ap h fun h=>?_
 refine Ap h fun h=>?_
 refine z5 h (fun p=>BB 38 [(1,.d (Ah 21 AX p1)),(2,.ptr 2 1 0),(18,.d (Ah 21 AX p1)),(19,.d (.int .i64 ((p1.length:Nat):Int))),(20,.d (.int .i64 p))] [(2,.var [.d (Ah 2 Ae p0.Lists),.d (Ah 7 Ag p0.Columns)],1)]) Ak fun _ _ v20_1 h=>?_
 simp only [Mj] at h
 refine AY h fun h=>?_
 refine Bd (f:=AX) h fun x23 _ h=>?_
 conv=>whnf
 refine z12 ?_
 conv=>whnf
 obtain ⟨hr,h⟩:=Dm h
 refine z9 ?_
 try simp only [List.length_map]
 rw [WE]
 refine AF h (fun _=>Qi _ _ _ _ _) fun x30 h=>?_
 exact z17
theorem Te (d:Nat) (p0:Af) (p1:(List An)) (p2:(List AR)) (R:((List Int) × Int × Int)) (h:LH d p0 p1 p2 = some R):Aj Tryz.prog 55 [.d (Au p0),.d (Ah 2 Ai p1),.d (Ah 21 AX p2)] (.tup [.d (Ah 1 (D.int .i64) R.1),.d (.int .i64 R.2.1),.d (.int .i64 R.2.2)]):=by
 refine BF Tryz.func55 ?_
 unfold LH at h
 refine AF h (fun _=>Nu _ _ _ _) fun x20 h=>?_
 refine AE h (fun h=>?_) fun h=>?_
 ·exact z30
 refine z5 h (fun p=>BB 63 [(1,.d (Ah 2 Ai p1)),(2,.d (Ah 21 AX p2)),(3,.ptr 3 1 0),(11,.sl 11 1),(12,.sl 12 1),(27,.d (Ah 21 AX p2)),(28,.d (.int .i64 ((p2.length:Nat):Int))),(29,.d (.int .i64 p.1))] [(3,.var [.d (Ah 2 Ae p0.Lists),.d (Ah 7 Ag p0.Columns)],1),(11,.row 1 3 (List.map (D.int .i64) p.2.1),1),(12,.row 26 100 (List.map A0 p.2.2),1)]) Ak fun _ _ ⟨v29_1,b11_1,b12_1⟩ h=>?_
 simp only [M5] at h
 refine AE h (fun h=>?_) fun h=>?_
 ·refine Bd (f:=AX) h fun x32 _ h=>?_
  refine AF h (fun _=>Ro _ _ _ _ _ _) fun x40 h=>?_
  refine AE h (fun h=>?_) fun h=>?_
  ·exact z30
  conv=>whnf
  obtain ⟨hr,h⟩:=Dm h
  refine z6 ?_
  try rw [M1]
  conv=>whnf
  obtain ⟨hr,h⟩:=Dm h
  refine z6 ?_
  try rw [LF]
  exact z24
 exact z30
theorem SQ (d:Nat) (p0:Af) (p1:A1) (p2:(List AR)) (R:((List AC) × Int × Int)) (h:Lt d p0 p1 p2 = some R):Aj Tryz.prog 21 [.d (Au p0),.d (CM p1),.d (Ah 21 AX p2)] (.tup [.d (Ah 26 A0 R.1),.d (.int .i64 R.2.1),.d (.int .i64 R.2.2)]):=by
 refine BF Tryz.func21 ?_
 unfold Lt at h
 refine AF h (fun _=>Jr _ _ _) fun x22 h=>?_
 refine AE h (fun h=>?_) fun h=>?_
 ·exact z30
 refine AF h (fun _=>Nu _ _ _ _) fun x29 h=>?_
 refine AE h (fun h=>?_) fun h=>?_
 ·exact z30
 refine AF h (fun _=>Te _ _ _ _ _) fun x41 h=>?_
 refine AE h (fun h=>?_) fun h=>?_
 ·exact z30
 refine z5 h (fun p=>BB 84 [(2,.d (Ah 21 AX p2)),(3,.ptr 3 1 0),(4,.ptr 4 1 0),(15,.sl 15 1),(49,.d (Ah 21 AX p2)),(50,.d (.int .i64 ((p2.length:Nat):Int))),(51,.d (.int .i64 p.1))] [(3,.var [.d (Ah 2 Ae p0.Lists),.d (Ah 7 Ag p0.Columns)],1),(4,.var [.d (.str p1.Project),.d (.int .i64 p1.Version),.d (Ah 2 Ai p1.Picks),.d (Ah 1 (Ah 1 (D.int .i64)) p1.Rows)],1),(15,.row 26 100 (List.map A0 p.2),1)]) Ak fun _ _ ⟨v51_1,b15_1⟩ h=>?_
 simp only [Ma] at h
 refine AE h (fun h=>?_) fun h=>?_
 ·refine Bd (f:=AX) h fun x54 _ h=>?_
  conv=>whnf
  refine ⟨.inr ?_⟩
  conv=>whnf
  obtain ⟨x64,hx64,h⟩:=A8 h
  first | refine E5 (HH _ _ _ _ hx64) ?_ | (simp only [List.length_map]; refine E5 (HH _ _ _ _ hx64) ?_)
  refine AE h (fun h=>?_) fun h=>?_
  ·exact z30
  conv=>whnf
  obtain ⟨hr,h⟩:=Dm h
  refine z6 ?_
  try rw [LF]
  exact z21
 exact z30
theorem LZ (p0:(List AC)) (R:(List AC)) (h:HD p0 = some R):Aj Tryz.prog 22 [.d (Ah 26 A0 p0)] (.d (Ah 26 A0 R)):=by
 refine BF Tryz.func22 ?_
 unfold HD at h
 refine z5 h (fun p=>BB 24 [(3,.sl 3 1),(6,.d (Ah 26 A0 p0)),(7,.d (.int .i64 ((p0.length:Nat):Int))),(8,.d (.int .i64 p.1))] [(3,.row 26 100 (List.map A0 p.2),1)]) Ak fun _ _ ⟨v8_1,b3_1⟩ h=>?_
 simp only [KY] at h
 refine AE h (fun h=>?_) fun h=>?_
 ·refine Bd (f:=A0) h fun x10 _ h=>?_
  refine AE h (fun h=>?_) fun h=>?_
  ·refine AF h (fun _=>HE _ _) fun x16 h=>?_
   conv=>whnf
   obtain ⟨hr,h⟩:=Dm h
   refine z6 ?_
   try rw [LF]
   exact z21
  exact z21
 exact z30
end Go.Proofs.YtjgeigjjfcnojaaGreatDoor.P
