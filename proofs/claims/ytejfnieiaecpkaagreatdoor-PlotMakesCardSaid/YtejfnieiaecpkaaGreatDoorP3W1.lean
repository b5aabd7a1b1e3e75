/- Printed by wip/tools/mkw.py: walks: slices_Index_Lint_int slices_Contains_Lint_int slices_IndexFunc_Lapi_Pick_api_Pick slices_IndexFunc_Lint_int slices_ContainsFunc_Lint_int slices_ContainsFunc_Lapi_Pick_api_Pick slices_IndexFunc_Lapi_CodeList_api_CodeList slices_ContainsFunc_Lapi_CodeList_api_CodeList slices_IndexFunc_Lapi_Expr_api_Expr slices_ContainsFunc_Lapi_Expr_api_Expr slices_IndexFunc_Lapi_Column_api_Column slices_ContainsFunc_Lapi_Column_api_Column slices_Max_Lint_int codes_Name codes_depths codes_Check schema_Check_c1 schema_checkColumn_c1 schema_checkMeasure schema_unused schema_checkColumn schema_Check codes_Levels schema_finest schema_pick schema_Picks codes_At codes_has codes_Up schema_width schema_down schema_span schema_Some extract_fits extract_Check condition_count -/
import Derived.Test.YtejfnieiaecpkaaGreatDoorChecked
import Derived.Test.YtejfnieiaecpkaaGreatDoorP3F
import Derived.Test.YtejfnieiaecpkaaGreatDoorP3A
import Derived.Test.YtejfnieiaecpkaaGreatDoorP3HW
set_option linter.unusedSimpArgs false
namespace Go.Proofs.YtejfnieiaecpkaaGreatDoor.P
open Go.Abs Go.Proofs
set_option maxRecDepth 100000
set_option maxHeartbeats 4000000
set_option linter.unusedVariables false
theorem No (p0:(List Int)) (p1:Int) (R:Int) (h:En p0 p1 = some R):Ao Tryz.prog 126 [.d (Aj 1 (D.int .i64) p0),.d (.int .i64 p1)] (.d (.int .i64 R)):=by
 refine BP Tryz.func126 ?_
 unfold En at h
 obtain ⟨P1,i1,h⟩:=Az h
 refine loop {p:Nat × Int // P1 p.1 p.2 = some R} (fun p=>B5 19 [(0,.d (Aj 1 (D.int .i64) p0)),(1,.d (.int .i64 p1)),(7,.d (.int .i64 ((p0.length:Nat):Int))),(8,.d (.int .i64 p.1.2))] []) (fun p=>p.1.1) ⟨(_,_),h⟩ ?_ fun p=>?_
 ·exact Ah
 obtain ⟨⟨k1,v8_1⟩,h⟩:=p
 obtain ⟨k1,rfl,h⟩:=i1 _ _ h
 simp only [Hz] at h
 refine Ba h fun h=>?_
 refine AF (f:=(D.int .i64)) h fun x14 _ h=>?_
 refine Ak h fun h=>?_
 conv=>whnf
 exact B1 ⟨(_,_),h⟩ Ah
theorem GI (p0:(List Int)) (p1:Int) (R:Bool) (h:BZ p0 p1 = some R):Ao Tryz.prog 65 [.d (Aj 1 (D.int .i64) p0),.d (.int .i64 p1)] (.d (.bool R)):=by
 refine BP Tryz.func65 ?_
 unfold BZ at h
 refine A3 h (fun _=>No _ _ _) fun x7 h=>?_
 exact A0 h
theorem D8 (p0:(List Ae)) (p1:(Ae→Option Bool)) (f_p1:FuncId) (c_p1:List D) (R:Int) (h_p1:∀ (a0:Ae) r,p1 a0 = some r→Ao Tryz.prog f_p1 ([.d (Af a0)]++c_p1.map .d) (.d (.bool r))) (h:Bj p0 p1 = some R):Ao Tryz.prog 83 [.d (Aj 2 Af p0),.d (.fn f_p1 c_p1)] (.d (.int .i64 R)):=by
 refine BP Tryz.func83 ?_
 unfold Bj at h
 obtain ⟨P1,i1,h⟩:=Az h
 refine loop {p:Nat × Int // P1 p.1 p.2 = some R} (fun p=>B5 19 [(0,.d (Aj 2 Af p0)),(1,.d (.fn f_p1 c_p1)),(7,.d (.int .i64 ((p0.length:Nat):Int))),(8,.d (.int .i64 p.1.2))] []) (fun p=>p.1.1) ⟨(_,_),h⟩ ?_ fun p=>?_
 ·exact Ah
 obtain ⟨⟨k1,v8_1⟩,h⟩:=p
 obtain ⟨k1,rfl,h⟩:=i1 _ _ h
 simp only [D2] at h
 refine Ba h fun h=>?_
 refine AF (f:=Af) h fun x14 _ h=>?_
 conv=>whnf
 rw [Kv]
 refine A3 h (fun _=>h_p1 _ _) fun x16 h=>?_
 refine Ak h fun h=>?_
 conv=>whnf
 exact B1 ⟨(_,_),h⟩ Ah
theorem GA (p0:(List Int)) (p1:(Int→Option Bool)) (f_p1:FuncId) (c_p1:List D) (R:Int) (h_p1:∀ (a0:Int) r,p1 a0 = some r→Ao Tryz.prog f_p1 ([.d (.int .i64 a0)]++c_p1.map .d) (.d (.bool r))) (h:Cw p0 p1 = some R):Ao Tryz.prog 150 [.d (Aj 1 (D.int .i64) p0),.d (.fn f_p1 c_p1)] (.d (.int .i64 R)):=by
 refine BP Tryz.func150 ?_
 unfold Cw at h
 obtain ⟨P1,i1,h⟩:=Az h
 refine loop {p:Nat × Int // P1 p.1 p.2 = some R} (fun p=>B5 19 [(0,.d (Aj 1 (D.int .i64) p0)),(1,.d (.fn f_p1 c_p1)),(7,.d (.int .i64 ((p0.length:Nat):Int))),(8,.d (.int .i64 p.1.2))] []) (fun p=>p.1.1) ⟨(_,_),h⟩ ?_ fun p=>?_
 ·exact Ah
 obtain ⟨⟨k1,v8_1⟩,h⟩:=p
 obtain ⟨k1,rfl,h⟩:=i1 _ _ h
 simp only [Gw] at h
 refine Ba h fun h=>?_
 refine AF (f:=(D.int .i64)) h fun x14 _ h=>?_
 conv=>whnf
 rw [Kv]
 refine A3 h (fun _=>h_p1 _ _) fun x16 h=>?_
 refine Ak h fun h=>?_
 conv=>whnf
 exact B1 ⟨(_,_),h⟩ Ah
theorem Ds (p0:(List Int)) (p1:(Int→Option Bool)) (f_p1:FuncId) (c_p1:List D) (R:Bool) (h_p1:∀ (a0:Int) r,p1 a0 = some r→Ao Tryz.prog f_p1 ([.d (.int .i64 a0)]++c_p1.map .d) (.d (.bool r))) (h:Bu p0 p1 = some R):Ao Tryz.prog 86 [.d (Aj 1 (D.int .i64) p0),.d (.fn f_p1 c_p1)] (.d (.bool R)):=by
 refine BP Tryz.func86 ?_
 unfold Bu at h
 refine A3 h (fun _=>GA _ _ _ _ _ h_p1) fun x7 h=>?_
 exact A0 h
theorem Cf (p0:(List Ae)) (p1:(Ae→Option Bool)) (f_p1:FuncId) (c_p1:List D) (R:Bool) (h_p1:∀ (a0:Ae) r,p1 a0 = some r→Ao Tryz.prog f_p1 ([.d (Af a0)]++c_p1.map .d) (.d (.bool r))) (h:AM p0 p1 = some R):Ao Tryz.prog 122 [.d (Aj 2 Af p0),.d (.fn f_p1 c_p1)] (.d (.bool R)):=by
 refine BP Tryz.func122 ?_
 unfold AM at h
 refine A3 h (fun _=>D8 _ _ _ _ _ h_p1) fun x7 h=>?_
 exact A0 h
theorem EZ (p0:(List Am)) (p1:(Am→Option Bool)) (f_p1:FuncId) (c_p1:List D) (R:Int) (h_p1:∀ (a0:Am) r,p1 a0 = some r→Ao Tryz.prog f_p1 ([.d (Ac a0)]++c_p1.map .d) (.d (.bool r))) (h:Bw p0 p1 = some R):Ao Tryz.prog 242 [.d (Aj 2 Ac p0),.d (.fn f_p1 c_p1)] (.d (.int .i64 R)):=by
 refine BP Tryz.func242 ?_
 unfold Bw at h
 obtain ⟨P1,i1,h⟩:=Az h
 refine loop {p:Nat × Int // P1 p.1 p.2 = some R} (fun p=>B5 19 [(0,.d (Aj 2 Ac p0)),(1,.d (.fn f_p1 c_p1)),(7,.d (.int .i64 ((p0.length:Nat):Int))),(8,.d (.int .i64 p.1.2))] []) (fun p=>p.1.1) ⟨(_,_),h⟩ ?_ fun p=>?_
 ·exact Ah
 obtain ⟨⟨k1,v8_1⟩,h⟩:=p
 obtain ⟨k1,rfl,h⟩:=i1 _ _ h
 simp only [CA] at h
 refine Ba h fun h=>?_
 refine AF (f:=Ac) h fun x14 _ h=>?_
 conv=>whnf
 rw [Kv]
 refine A3 h (fun _=>h_p1 _ _) fun x16 h=>?_
 refine Ak h fun h=>?_
 conv=>whnf
 exact B1 ⟨(_,_),h⟩ Ah
theorem Et (p0:(List Am)) (p1:(Am→Option Bool)) (f_p1:FuncId) (c_p1:List D) (R:Bool) (h_p1:∀ (a0:Am) r,p1 a0 = some r→Ao Tryz.prog f_p1 ([.d (Ac a0)]++c_p1.map .d) (.d (.bool r))) (h:AU p0 p1 = some R):Ao Tryz.prog 182 [.d (Aj 2 Ac p0),.d (.fn f_p1 c_p1)] (.d (.bool R)):=by
 refine BP Tryz.func182 ?_
 unfold AU at h
 refine A3 h (fun _=>EZ _ _ _ _ _ h_p1) fun x7 h=>?_
 exact A0 h
theorem Hk (p0:(List AA)) (p1:(AA→Option Bool)) (f_p1:FuncId) (c_p1:List D) (R:Int) (h_p1:∀ (a0:AA) r,p1 a0 = some r→Ao Tryz.prog f_p1 ([.d (AX a0)]++c_p1.map .d) (.d (.bool r))) (h:CE p0 p1 = some R):Ao Tryz.prog 251 [.d (Aj 19 B6 p0),.d (.fn f_p1 c_p1)] (.d (.int .i64 R)):=by
 refine BP Tryz.func251 ?_
 unfold CE at h
 obtain ⟨P1,i1,h⟩:=Az h
 refine loop {p:Nat × Int // P1 p.1 p.2 = some R} (fun p=>B5 19 [(0,.d (Aj 19 B6 p0)),(1,.d (.fn f_p1 c_p1)),(7,.d (.int .i64 ((p0.length:Nat):Int))),(8,.d (.int .i64 p.1.2))] []) (fun p=>p.1.1) ⟨(_,_),h⟩ ?_ fun p=>?_
 ·exact Aq
 obtain ⟨⟨k1,v8_1⟩,h⟩:=p
 obtain ⟨k1,rfl,h⟩:=i1 _ _ h
 simp only [D3] at h
 refine BY h fun h=>?_
 refine AF (f:=B6) h fun x14 _ h=>?_
 rw [Bm x14]
 conv=>whnf
 rw [Kv]
 refine A3 h (fun _=>h_p1 _ _) fun x16 h=>?_
 refine A2 h fun h=>?_
 conv=>whnf
 exact B1 ⟨(_,_),h⟩ Aq
theorem B9 (p0:(List AA)) (p1:(AA→Option Bool)) (f_p1:FuncId) (c_p1:List D) (R:Bool) (h_p1:∀ (a0:AA) r,p1 a0 = some r→Ao Tryz.prog f_p1 ([.d (AX a0)]++c_p1.map .d) (.d (.bool r))) (h:AZ p0 p1 = some R):Ao Tryz.prog 190 [.d (Aj 19 B6 p0),.d (.fn f_p1 c_p1)] (.d (.bool R)):=by
 refine BP Tryz.func190 ?_
 unfold AZ at h
 refine A3 h (fun _=>Hk _ _ _ _ _ h_p1) fun x7 h=>?_
 exact AK h
theorem Gp (p0:(List Av)) (p1:(Av→Option Bool)) (f_p1:FuncId) (c_p1:List D) (R:Int) (h_p1:∀ (a0:Av) r,p1 a0 = some r→Ao Tryz.prog f_p1 ([.d (Ad a0)]++c_p1.map .d) (.d (.bool r))) (h:BD p0 p1 = some R):Ao Tryz.prog 284 [.d (Aj 7 Ad p0),.d (.fn f_p1 c_p1)] (.d (.int .i64 R)):=by
 refine BP Tryz.func284 ?_
 unfold BD at h
 obtain ⟨P1,i1,h⟩:=Az h
 refine loop {p:Nat × Int // P1 p.1 p.2 = some R} (fun p=>B5 19 [(0,.d (Aj 7 Ad p0)),(1,.d (.fn f_p1 c_p1)),(7,.d (.int .i64 ((p0.length:Nat):Int))),(8,.d (.int .i64 p.1.2))] []) (fun p=>p.1.1) ⟨(_,_),h⟩ ?_ fun p=>?_
 ·exact Ah
 obtain ⟨⟨k1,v8_1⟩,h⟩:=p
 obtain ⟨k1,rfl,h⟩:=i1 _ _ h
 simp only [Da] at h
 refine Ba h fun h=>?_
 refine AF (f:=Ad) h fun x14 _ h=>?_
 conv=>whnf
 rw [Kv]
 refine A3 h (fun _=>h_p1 _ _) fun x16 h=>?_
 refine Ak h fun h=>?_
 conv=>whnf
 exact B1 ⟨(_,_),h⟩ Ah
theorem F1 (p0:(List Av)) (p1:(Av→Option Bool)) (f_p1:FuncId) (c_p1:List D) (R:Bool) (h_p1:∀ (a0:Av) r,p1 a0 = some r→Ao Tryz.prog f_p1 ([.d (Ad a0)]++c_p1.map .d) (.d (.bool r))) (h:Bc p0 p1 = some R):Ao Tryz.prog 243 [.d (Aj 7 Ad p0),.d (.fn f_p1 c_p1)] (.d (.bool R)):=by
 refine BP Tryz.func243 ?_
 unfold Bc at h
 refine A3 h (fun _=>Gp _ _ _ _ _ h_p1) fun x7 h=>?_
 exact A0 h
theorem Oz (p0:(List Int)) (R:Int) (h:Ht p0 = some R):Ao Tryz.prog 263 [.d (Aj 1 (D.int .i64) p0)] (.d (.int .i64 R)):=by
 refine BP Tryz.func263 ?_
 unfold Ht at h
 refine AH h (fun h=>?_) fun h=>?_
 ·conv=>whnf
  cases h
 refine AF (f:=(D.int .i64)) h fun x10 _ h=>?_
 obtain ⟨P1,i1,h⟩:=Az h
 refine loop {p:Nat × (Int × Int) // P1 p.1 p.2 = some R} (fun p=>B5 25 [(0,.d (Aj 1 (D.int .i64) p0)),(3,.d (.int .i64 p.1.2.1)),(4,.d (.int .i64 p.1.2.2))] []) (fun p=>p.1.1) ⟨(_,(_,_)),h⟩ ?_ fun p=>?_
 ·exact Ah
 obtain ⟨⟨k1,⟨v3_1,v4_1⟩⟩,h⟩:=p
 obtain ⟨k1,rfl,h⟩:=i1 _ _ h
 simp only [Jw] at h
 refine Ba h fun h=>?_
 refine AF (f:=(D.int .i64)) h fun x21 _ h=>?_
 conv=>whnf
 exact B1 ⟨(_,(_,_)),h⟩ Ah
theorem IL (p0:ByteArray) (R:Bool) (h:DE p0 = some R):Ao Tryz.prog 118 [.d (.str p0)] (.d (.bool R)):=by
 refine CO [3,9] Tryz.func118 (by kernel_rfl) ?_
 unfold DE at h
 refine Er {p:Unit // ME p0 = some R} (fun p=>B5 62 [(0,.d (.str p0))] []) ?_ fun p=>?_
 ·refine Ak h fun h=>?_
  obtain ⟨hr,h⟩:=CS h
  refine ⟨of_decide_eq_true hr,?_⟩
  refine Ak h fun h=>?_
  obtain ⟨hr,h⟩:=CS h
  refine ⟨of_decide_eq_true hr,?_⟩
  refine Ak h fun h=>?_
  conv=>whnf
  exact ⟨⟨(),h⟩,Ah⟩
 obtain ⟨_,h⟩:=p
 simp only [ME] at h
 refine Er {p:Unit // MP p0 = some R} (fun p=>B5 62 [(0,.d (.str p0))] []) ?_ fun p=>?_
 ·obtain ⟨P1,i1,h⟩:=Az h
  refine loop {p:Nat × Int // P1 p.1 p.2 = some R} (fun p=>B5 62 [(0,.d (.str p0)),(24,.d (Aj 1 (D.int .u8) (Ko p0))),(25,.d (.int .i64 (((Ko p0).length:Nat):Int))),(26,.d (.int .i64 p.1.2))] []) (fun p=>p.1.1) ⟨(_,_),h⟩ ?_ fun p=>?_
  ·exact Ah
  obtain ⟨⟨k1,v26_1⟩,h⟩:=p
  obtain ⟨k1,rfl,h⟩:=i1 _ _ h
  simp only [PT] at h
  refine AH h (fun h=>?_) fun h=>?_
  ·refine AF (f:=(D.int .u8)) h fun x28 _ h=>?_
   refine Ak h fun h=>?_
   conv=>whnf
   exact B1 ⟨(_,_),h⟩ Ah
  conv=>whnf
  exact ⟨⟨(),h⟩,Ah⟩
 obtain ⟨_,h⟩:=p
 simp only [MP] at h
 conv=>whnf
 refine KI h BU (fun e10 h=>?_) (fun e10 h=>?_)
 ·conv=>whnf
  refine Ld BU e10 ?_
  exact A0 h
 conv=>whnf
 refine KI h BU (fun e11 h=>?_) (fun e11 h=>?_)
 ·conv=>whnf
  refine Ld BU e11 ?_
  exact A0 h
 conv=>whnf
 refine KI h BU (fun e12 h=>?_) (fun e12 h=>?_)
 ·conv=>whnf
  refine Ld BU e12 ?_
  exact A0 h
 conv=>whnf
 refine KI h BU (fun e13 h=>?_) (fun e13 h=>?_)
 ·conv=>whnf
  refine Ld BU e13 ?_
  exact A0 h
 conv=>whnf
 refine KI h BU (fun e14 h=>?_) (fun e14 h=>?_)
 ·conv=>whnf
  refine Ld BU e14 ?_
  exact A0 h
 conv=>whnf
 refine KI h BU (fun e15 h=>?_) (fun e15 h=>?_)
 ·conv=>whnf
  refine Ld BU e15 ?_
  exact A0 h
 conv=>whnf
 refine KI h BU (fun e16 h=>?_) (fun e16 h=>?_)
 ·conv=>whnf
  refine Ld BU e16 ?_
  exact A0 h
 conv=>whnf
 refine KI h BU (fun e17 h=>?_) (fun e17 h=>?_)
 ·conv=>whnf
  refine Ld BU e17 ?_
  exact A0 h
 conv=>whnf
 refine KI h BU (fun e18 h=>?_) (fun e18 h=>?_)
 ·conv=>whnf
  refine Ld BU e18 ?_
  exact A0 h
 conv=>whnf
 refine KI h BU (fun e19 h=>?_) (fun e19 h=>?_)
 ·conv=>whnf
  refine Ld BU e19 ?_
  exact A0 h
 exact DJ h
theorem GJ (p0:Am) (R:(List Int)) (h:FP p0 = some R):Ao Tryz.prog 241 [.d (Ac p0)] (.d (Aj 1 (D.int .i64) R)):=by
 refine BP Tryz.func241 ?_
 unfold FP at h
 conv=>whnf
 obtain ⟨hr,h⟩:=CS h
 refine ⟨by first | exact SO hr (of_decide_eq_true (by kernel_rfl)) | (simp only [List.length_map]; exact SO hr (of_decide_eq_true (by kernel_rfl))),?_⟩
 try rw [dy]
 obtain ⟨P1,i1,h⟩:=Az h
 refine loop {p:Nat × (Int × (List Int)) // P1 p.1 p.2 = some R} (fun p=>B5 31 [(3,.sl 9 1),(11,.d (Aj 2 Bp p0.Codes)),(12,.d (.int .i64 ((p0.Codes.length:Nat):Int))),(13,.d (.int .i64 p.1.2.1))] [(9,.row 1 3 (List.map (D.int .i64) p.1.2.2),1)]) (fun p=>p.1.1) ⟨(_,(_,_)),h⟩ ?_ fun p=>?_
 ·exact Ah
 obtain ⟨⟨k1,⟨v13_1,b9_1⟩⟩,h⟩:=p
 obtain ⟨k1,rfl,h⟩:=i1 _ _ h
 simp only [Ol] at h
 refine AH h (fun h=>?_) fun h=>?_
 ·refine AF (f:=Bp) h fun x16 _ h=>?_
  refine AH h (fun h=>?_) fun h=>?_
  ·refine JP (f:=(D.int .i64)) h BU fun x25 hx25 h=>?_
   refine Sc (f:=(D.int .i64)) hx25 BU ?_
   refine JP (f:=(D.int .i64)) h BU fun x28 hx28 h=>?_
   refine Sc (f:=(D.int .i64)) hx28 BU ?_
   conv=>whnf
   try rw [bD]
   exact B1 ⟨(_,(_,_)),h⟩ Ah
  conv=>whnf
  exact B1 ⟨(_,(_,_)),h⟩ Ah
 conv=>whnf
 obtain rfl:=Option.some.inj h
 refine ⟨.inl ?_⟩
 conv=>whnf
 exact ⟨HO⟩
theorem Kn (p0:Am) (R:Int) (h:F6 p0 = some R):Ao Tryz.prog 181 [.d (Ac p0)] (.d (.int .i64 R)):=by
 refine CO [21] Tryz.func181 (by kernel_rfl) ?_
 unfold F6 at h
 refine A3 h (fun _=>IL _ _) fun x13 h=>?_
 refine Ak h fun h=>?_
 refine Ak h fun h=>?_
 refine Ak h fun h=>?_
 conv=>whnf
 refine ⟨⟨by decide +kernel,by kernel_rfl⟩,?_⟩
 conv=>whnf
 obtain ⟨hr,h⟩:=CS h
 refine ⟨by first | exact SO hr (of_decide_eq_true (by kernel_rfl)) | (simp only [List.length_map]; exact SO hr (of_decide_eq_true (by kernel_rfl))),?_⟩
 try rw [dy]
 refine Er {p:(List Bool) // Lz p0 p = some R} (fun p=>B5 102 [(1,.ptr 1 1 0),(4,.sl 29 1)] [(1,.var [.d (.str p0.Name),.d (Aj 2 Bp p0.Codes)],1),(29,.row 1 4 (List.map D.bool p.1),1)]) ?_ fun p=>?_
 ·obtain ⟨P1,i1,h⟩:=Az h
  refine loop {p:Nat × (Int × (List (ByteArray × Bool)) × (List Bool)) // P1 p.1 p.2 = some R} (fun p=>B5 102 [(1,.ptr 1 1 0),(3,.sl 25 1),(4,.sl 29 1),(31,.d (Aj 2 Bp p0.Codes)),(32,.d (.int .i64 ((p0.Codes.length:Nat):Int))),(33,.d (.int .i64 p.1.2.1))] [(1,.var [.d (.str p0.Name),.d (Aj 2 Bp p0.Codes)],1),(25,.map (dH D.bool p.1.2.2.1),1),(29,.row 1 4 (List.map D.bool p.1.2.2.2),1)]) (fun p=>p.1.1) ⟨(_,(_,_,_)),h⟩ ?_ fun p=>?_
  ·exact Ah
  obtain ⟨⟨k1,⟨v33_1,b25_1,b29_1⟩⟩,h⟩:=p
  obtain ⟨k1,rfl,h⟩:=i1 _ _ h
  simp only [Pb] at h
  refine AH h (fun h=>?_) fun h=>?_
  ·refine AF (f:=Bp) h fun x36 _ h=>?_
   refine A3 h (fun _=>IL _ _) fun x41 h=>?_
   refine Ak h fun h=>?_
   conv=>whnf
   refine ⟨⟨by kernel_rfl,XP D.bool x36.Name b25_1⟩,?_⟩
   conv=>whnf
   refine bG (f:=D.bool) (es:=b25_1) (z:=false) ?_
   refine Ak h fun h=>?_
   refine Ak h fun h=>?_
   conv=>whnf
   refine ⟨⟨by rfl,by kernel_rfl,XP D.bool x36.Name b25_1⟩,?_⟩
   conv=>whnf
   try rw [ZD D.bool x36.Name true]
   refine AH h (fun h=>?_) fun h=>?_
   ·refine JP (f:=D.bool) h BU fun x79 hx79 h=>?_
    refine Sc (f:=D.bool) hx79 BU ?_
    conv=>whnf
    try rw [bD]
    exact B1 ⟨(_,(_,_,_)),h⟩ Ah
   conv=>whnf
   exact B1 ⟨(_,(_,_,_)),h⟩ Ah
  conv=>whnf
  exact ⟨⟨_,h⟩,Ah⟩
 obtain ⟨k29_1,h⟩:=p
 simp only [Lz] at h
 refine A3 h (fun _=>GJ _ _) fun x82 h=>?_
 obtain ⟨P2,i2,h⟩:=Az h
 refine loop {p:Nat × (Int × Int) // P2 p.1 p.2 = some R} (fun p=>B5 102 [(4,.sl 29 1),(7,.d (.int .i64 p.1.2.1)),(82,.d (Aj 1 (D.int .i64) x82)),(83,.d (.int .i64 ((x82.length:Nat):Int))),(84,.d (.int .i64 p.1.2.2))] [(29,.row 1 4 (List.map D.bool k29_1),1)]) (fun p=>p.1.1) ⟨(_,(_,_)),h⟩ ?_ fun p=>?_
 ·exact Ah
 obtain ⟨⟨k2,⟨v7_2,v84_2⟩⟩,h⟩:=p
 obtain ⟨k2,rfl,h⟩:=i2 _ _ h
 simp only [Pq] at h
 refine Ba h fun h=>?_
 refine AF (f:=(D.int .i64)) h fun x87 _ h=>?_
 refine JP (f:=D.bool) h BU fun x91 hx91 h=>?_
 refine Sc (f:=D.bool) hx91 BU ?_
 refine AH h (fun h=>?_) fun h=>?_
 ·conv=>whnf
  exact B1 ⟨(_,(_,_)),h⟩ Ah
 refine Ak h fun h=>?_
 conv=>whnf
 exact B1 ⟨(_,(_,_)),h⟩ Ah
theorem RI (p0:Am) (q0:Am) (R:Bool) (h:KG p0 q0 = some R):Ao Tryz.prog 183 [.d (Ac p0),.d (.ptr [(.str q0.Name),(Aj 2 Bp q0.Codes)])] (.d (.bool R)):=by
 refine BP Tryz.func183 ?_
 unfold KG at h
 exact A0 h
theorem MY (p0:Av) (q0:Av) (R:Bool) (h:G5 p0 q0 = some R):Ao Tryz.prog 244 [.d (Ad p0),.d (.ptr [(.str q0.Name),(.int .i64 q0.Kind),(.int .i64 q0.List_),(.int .i64 q0.Low),(.int .i64 q0.High),(Aj 1 (D.int .i64) q0.Widths),(.bool q0.Optional)])] (.d (.bool R)):=by
 refine BP Tryz.func244 ?_
 unfold G5 at h
 exact A0 h
theorem Ox (p0:Av) (R:Int) (h:DH p0 = some R):Ao Tryz.prog 245 [.d (Ad p0)] (.d (.int .i64 R)):=by
 refine BP Tryz.func245 ?_
 unfold DH at h
 refine Ak h fun h=>?_
 refine Ak h fun h=>?_
 obtain ⟨P1,i1,h⟩:=Az h
 refine loop {p:Nat × (Int × Int) // P1 p.1 p.2 = some R} (fun p=>B5 68 [(3,.d (.int .i64 p.1.2.1)),(34,.d (Aj 1 (D.int .i64) p0.Widths)),(35,.d (.int .i64 ((p0.Widths.length:Nat):Int))),(36,.d (.int .i64 p.1.2.2))] []) (fun p=>p.1.1) ⟨(_,(_,_)),h⟩ ?_ fun p=>?_
 ·exact Ah
 obtain ⟨⟨k1,⟨v3_1,v36_1⟩⟩,h⟩:=p
 obtain ⟨k1,rfl,h⟩:=i1 _ _ h
 simp only [FI] at h
 refine Ba h fun h=>?_
 refine AF (f:=(D.int .i64)) h fun x39 _ h=>?_
 refine Ak h fun h=>?_
 refine AH h (fun h=>?_) fun h=>?_
 ·refine Ak h fun h=>?_
  obtain ⟨hr,h⟩:=CS h
  refine ⟨of_decide_eq_true hr,?_⟩
  refine Ak h fun h=>?_
  conv=>whnf
  exact B1 ⟨(_,(_,_)),h⟩ Ah
 exact B1 ⟨(_,(_,_)),h⟩ Ah
theorem KL (p0:Av) (R:Bool) (h:DV p0 = some R):Ao Tryz.prog 246 [.d (Ad p0)] (.d (.bool R)):=by
 refine BP Tryz.func246 ?_
 unfold DV at h
 exact DJ h
theorem Pc (p0:Aa) (p1:Int) (R:Int) (h:Ek p0 p1 = some R):Ao Tryz.prog 184 [.d (Ai p0),.d (.int .i64 p1)] (.d (.int .i64 R)):=by
 refine BP Tryz.func184 ?_
 unfold Ek at h
 refine AF (f:=Ad) h fun x10 _ h=>?_
 refine A3 h (fun _=>IL _ _) fun x14 h=>?_
 refine Ak h fun h=>?_
 conv=>whnf
 obtain ⟨hr,h⟩:=CS h
 refine ⟨by first | exact of_decide_eq_true hr | (simp only [List.length_map]; exact of_decide_eq_true hr),?_⟩
 try simp only [List.length_map]
 rw [SC]
 refine A3 h (fun _=>F1 _ _ _ _ _ (fun a0 _ h=>MY a0 _ _ h)) fun x21 h=>?_
 refine Ak h fun h=>?_
 refine AH h (fun h=>?_) fun h=>?_
 ·refine Ak h fun h=>?_
  conv=>whnf
  obtain ⟨x49,hx49,h⟩:=A7 h
  refine AD (KL _ _ hx49) ?_
  exact DJ h
 refine AH h (fun h=>?_) fun h=>?_
 ·refine Ak h fun h=>?_
  conv=>whnf
  obtain ⟨x49,hx49,h⟩:=A7 h
  refine AD (KL _ _ hx49) ?_
  exact DJ h
 refine Ba h fun h=>?_
 refine A3 h (fun _=>Ox _ _) fun x44 h=>?_
 refine Ak h fun h=>?_
 conv=>whnf
 obtain ⟨x49,hx49,h⟩:=A7 h
 refine AD (KL _ _ hx49) ?_
 exact DJ h
theorem Eb (p0:Aa) (R:Int) (h:Dc p0 = some R):Ao Tryz.prog 117 [.d (Ai p0)] (.d (.int .i64 R)):=by
 refine CO [12] Tryz.func117 (by kernel_rfl) ?_
 unfold Dc at h
 refine Ak h fun h=>?_
 refine Er {p:Unit // HQ p0 = some R} (fun p=>B5 63 [(1,.ptr 1 1 0)] [(1,.var [.d (Aj 2 Ac p0.Lists),.d (Aj 7 Ad p0.Columns)],1)]) ?_ fun p=>?_
 ·obtain ⟨P1,i1,h⟩:=Az h
  refine loop {p:Nat × Int // P1 p.1 p.2 = some R} (fun p=>B5 63 [(1,.ptr 1 1 0),(19,.d (Aj 2 Ac p0.Lists)),(20,.d (.int .i64 ((p0.Lists.length:Nat):Int))),(21,.d (.int .i64 p.1.2))] [(1,.var [.d (Aj 2 Ac p0.Lists),.d (Aj 7 Ad p0.Columns)],1)]) (fun p=>p.1.1) ⟨(_,_),h⟩ ?_ fun p=>?_
  ·exact Ah
  obtain ⟨⟨k1,v21_1⟩,h⟩:=p
  obtain ⟨k1,rfl,h⟩:=i1 _ _ h
  simp only [HX] at h
  refine AH h (fun h=>?_) fun h=>?_
  ·refine AF (f:=Ac) h fun x24 _ h=>?_
   refine A3 h (fun _=>Kn _ _) fun x27 h=>?_
   refine Ak h fun h=>?_
   conv=>whnf
   obtain ⟨hr,h⟩:=CS h
   refine ⟨by first | exact of_decide_eq_true hr | (simp only [List.length_map]; exact of_decide_eq_true hr),?_⟩
   try simp only [List.length_map]
   rw [SC]
   refine A3 h (fun _=>Et _ _ _ _ _ (fun a0 _ h=>RI a0 _ _ h)) fun x36 h=>?_
   refine Ak h fun h=>?_
   conv=>whnf
   exact B1 ⟨(_,_),h⟩ Ah
  conv=>whnf
  exact ⟨⟨(),h⟩,Ah⟩
 obtain ⟨_,h⟩:=p
 simp only [HQ] at h
 refine Ak h fun h=>?_
 refine AF (f:=Ad) h fun x45 _ h=>?_
 refine Ak h fun h=>?_
 obtain ⟨P2,i2,h⟩:=Az h
 refine loop {p:Nat × Int // P2 p.1 p.2 = some R} (fun p=>B5 63 [(1,.ptr 1 1 0),(52,.d (.int .i64 ((p0.Columns.length:Nat):Int))),(53,.d (.int .i64 p.1.2))] [(1,.var [.d (Aj 2 Ac p0.Lists),.d (Aj 7 Ad p0.Columns)],1)]) (fun p=>p.1.1) ⟨(_,_),h⟩ ?_ fun p=>?_
 ·exact Ah
 obtain ⟨⟨k2,v53_2⟩,h⟩:=p
 obtain ⟨k2,rfl,h⟩:=i2 _ _ h
 simp only [HZ] at h
 refine Ba h fun h=>?_
 refine A3 h (fun _=>Pc _ _ _) fun x58 h=>?_
 refine Ak h fun h=>?_
 conv=>whnf
 exact B1 ⟨(_,_),h⟩ Ah
theorem IW (p0:Am) (R:Int) (h:EA p0 = some R):Ao Tryz.prog 205 [.d (Ac p0)] (.d (.int .i64 R)):=by
 refine BP Tryz.func205 ?_
 unfold EA at h
 refine A3 h (fun _=>Kn _ _) fun x4 h=>?_
 refine Ak h fun h=>?_
 refine A3 h (fun _=>GJ _ _) fun x7 h=>?_
 refine A3 h (fun _=>Oz _ _) fun x8 h=>?_
 exact A0 h
theorem KP (p0:Aa) (p1:Int) (R:Int) (h:ER p0 p1 = some R):Ao Tryz.prog 147 [.d (Ai p0),.d (.int .i64 p1)] (.d (.int .i64 R)):=by
 refine BP Tryz.func147 ?_
 unfold ER at h
 refine Ak h fun h=>?_
 refine AF (f:=Ad) h fun x18 _ h=>?_
 refine Ba h fun h=>?_
 refine AF (f:=Ac) h fun x27 _ h=>?_
 refine A3 h (fun _=>IW _ _) fun x29 h=>?_
 exact A0 h
theorem PK (p0:Aa) (p1:Ae) (R:Int) (h:Iq p0 p1 = some R):Ao Tryz.prog 185 [.d (Ai p0),.d (Af p1)] (.d (.int .i64 R)):=by
 refine BP Tryz.func185 ?_
 unfold Iq at h
 refine A3 h (fun _=>KP _ _ _) fun x9 h=>?_
 refine Ak h fun h=>?_
 exact DJ h
theorem TS (p0:Aa) (p1:(List Ae)) (R:Int) (h:Jc p0 p1 = some R):Ao Tryz.prog 119 [.d (Ai p0),.d (Aj 2 Af p1)] (.d (.int .i64 R)):=by
 refine BP Tryz.func119 ?_
 unfold Jc at h
 refine A3 h (fun _=>Eb _ _) fun x10 h=>?_
 refine Ak h fun h=>?_
 obtain ⟨P1,i1,h⟩:=Az h
 refine loop {p:Nat × Int // P1 p.1 p.2 = some R} (fun p=>B5 41 [(1,.d (Aj 2 Af p1)),(2,.ptr 2 1 0),(14,.d (Aj 2 Af p1)),(15,.d (.int .i64 ((p1.length:Nat):Int))),(16,.d (.int .i64 p.1.2))] [(2,.var [.d (Aj 2 Ac p0.Lists),.d (Aj 7 Ad p0.Columns)],1)]) (fun p=>p.1.1) ⟨(_,_),h⟩ ?_ fun p=>?_
 ·exact Ah
 obtain ⟨⟨k1,v16_1⟩,h⟩:=p
 obtain ⟨k1,rfl,h⟩:=i1 _ _ h
 simp only [HP] at h
 refine Ba h fun h=>?_
 refine AF (f:=Af) h fun x19 _ h=>?_
 refine A3 h (fun _=>PK _ _ _) fun x23 h=>?_
 refine Ak h fun h=>?_
 conv=>whnf
 refine ⟨⟨by decide +kernel,by kernel_rfl⟩,?_⟩
 refine AH h (fun h=>?_) fun h=>?_
 ·refine AF (f:=Af) h fun x35 _ h=>?_
  refine Ak h fun h=>?_
  conv=>whnf
  exact B1 ⟨(_,_),h⟩ Ah
 exact B1 ⟨(_,_),h⟩ Ah
theorem NU (p0:Am) (p1:Int) (R:(List Int)) (h:K0 p0 p1 = some R):Ao Tryz.prog 204 [.d (Ac p0),.d (.int .i64 p1)] (.d (Aj 1 (D.int .i64) R)):=by
 refine BP Tryz.func204 ?_
 unfold K0 at h
 refine A3 h (fun _=>Kn _ _) fun x9 h=>?_
 refine AH h (fun h=>?_) fun h=>?_
 ·conv=>whnf
  obtain rfl:=Option.some.inj h
  refine ⟨.inl ?_⟩
  conv=>whnf
  exact ⟨HO⟩
 refine A3 h (fun _=>GJ _ _) fun x12 h=>?_
 obtain ⟨P1,i1,h⟩:=Az h
 refine loop {p:Nat × (Int × (List Int)) // P1 p.1 p.2 = some R} (fun p=>B5 28 [(1,.d (.int .i64 p1)),(5,.sl 5 1),(12,.d (Aj 1 (D.int .i64) x12)),(13,.d (.int .i64 ((x12.length:Nat):Int))),(14,.d (.int .i64 p.1.2.1))] [(5,.row 1 3 (List.map (D.int .i64) p.1.2.2),1)]) (fun p=>p.1.1) ⟨(_,(_,_)),h⟩ ?_ fun p=>?_
 ·exact Ah
 obtain ⟨⟨k1,⟨v14_1,b5_1⟩⟩,h⟩:=p
 obtain ⟨k1,rfl,h⟩:=i1 _ _ h
 simp only [Tb] at h
 refine AH h (fun h=>?_) fun h=>?_
 ·refine AF (f:=(D.int .i64)) h fun x17 _ h=>?_
  refine AH h (fun h=>?_) fun h=>?_
  ·conv=>whnf
   obtain ⟨hr,h⟩:=CS h
   refine ⟨by (simp only [List.length_map]; exact AE hr (of_decide_eq_true (by kernel_rfl)) (.inr (by kernel_rfl))),?_⟩
   try rw [G9]
   conv=>whnf
   exact B1 ⟨(_,(_,_)),h⟩ Ah
  conv=>whnf
  exact B1 ⟨(_,(_,_)),h⟩ Ah
 conv=>whnf
 obtain rfl:=Option.some.inj h
 refine ⟨.inl ?_⟩
 conv=>whnf
 exact ⟨HO⟩
theorem O3 (p0:Am) (p1:Int) (R:Bool) (h:MX p0 p1 = some R):Ao Tryz.prog 264 [.d (Ac p0),.d (.int .i64 p1)] (.d (.bool R)):=by
 refine BP Tryz.func264 ?_
 unfold MX at h
 refine Ba h fun h=>?_
 refine A3 h (fun _=>Kn _ _) fun x16 h=>?_
 exact A0 h
theorem LL (p0:Am) (p1:Int) (p2:Int) (R:Int) (h:Gh p0 p1 p2 = some R):Ao Tryz.prog 206 [.d (Ac p0),.d (.int .i64 p1),.d (.int .i64 p2)] (.d (.int .i64 R)):=by
 refine BP Tryz.func206 ?_
 unfold Gh at h
 refine A3 h (fun _=>O3 _ _ _) fun x10 h=>?_
 refine Ak h fun h=>?_
 refine A3 h (fun _=>GJ _ _) fun x17 h=>?_
 refine AF (f:=(D.int .i64)) h fun x19 _ h=>?_
 obtain ⟨P1,i1,h⟩:=Az h
 refine loop {p:Nat × (Int × Int) // P1 p.1 p.2 = some R} (fun p=>B5 36 [(1,.d (.int .i64 p.1.2.1)),(2,.d (.int .i64 p2)),(3,.ptr 3 1 0),(7,.d (.int .i64 p.1.2.2))] [(3,.var [.d (.str p0.Name),.d (Aj 2 Bp p0.Codes)],1)]) (fun p=>p.1.1) ⟨(_,(_,_)),h⟩ ?_ fun p=>?_
 ·exact Ah
 obtain ⟨⟨k1,⟨v1_1,v7_1⟩⟩,h⟩:=p
 obtain ⟨k1,rfl,h⟩:=i1 _ _ h
 simp only [SJ] at h
 refine Ba h fun h=>?_
 refine Ak h fun h=>?_
 refine AF (f:=Bp) h fun x33 _ h=>?_
 conv=>whnf
 exact B1 ⟨(_,(_,_)),h⟩ Ah
theorem L4 (p0:Av) (p1:Int) (R:Int) (h:FX p0 p1 = some R):Ao Tryz.prog 213 [.d (Ad p0),.d (.int .i64 p1)] (.d (.int .i64 R)):=by
 refine BP Tryz.func213 ?_
 unfold FX at h
 refine AF (f:=(D.int .i64)) h fun x12 _ h=>?_
 exact A0 h
theorem G3 (p0:Int) (p1:Int) (R:Int) (h:DQ p0 p1 = some R):Ao Tryz.prog 214 [.d (.int .i64 p0),.d (.int .i64 p1)] (.d (.int .i64 R)):=by
 refine BP Tryz.func214 ?_
 unfold DQ at h
 conv=>whnf
 obtain ⟨hr,h⟩:=CS h
 refine ⟨of_decide_eq_true hr,?_⟩
 exact DJ h
theorem PX (p0:Av) (p1:Int) (p2:Int) (R:(Int × Int × Bool)) (h:Ir p0 p1 p2 = some R):Ao Tryz.prog 210 [.d (Ad p0),.d (.int .i64 p1),.d (.int .i64 p2)] (.tup [.d (.int .i64 R.1),.d (.int .i64 R.2.1),.d (.bool R.2.2)]):=by
 refine BP Tryz.func210 ?_
 unfold Ir at h
 refine AH h (fun h=>?_) fun h=>?_
 ·conv=>whnf
  refine ⟨⟨by decide +kernel,by kernel_rfl⟩,?_⟩
  exact A0 h
 refine Ak h fun h=>?_
 refine A3 h (fun _=>L4 _ _ _) fun x30 h=>?_
 conv=>whnf
 refine ⟨⟨by decide +kernel,by kernel_rfl⟩,?_⟩
 refine A3 h (fun _=>G3 _ _ _) fun x46 h=>?_
 exact A0 h
theorem MD (p0:Aa) (p1:Int) (p2:Int) (p3:Int) (R:(Int × Bool)) (h:Bb p0 p1 p2 p3 = some R):Ao Tryz.prog 145 [.d (Ai p0),.d (.int .i64 p1),.d (.int .i64 p2),.d (.int .i64 p3)] (.tup [.d (.int .i64 R.1),.d (.bool R.2)]):=by
 refine BP Tryz.func145 ?_
 unfold Bb at h
 refine AF (f:=Ad) h fun x20 _ h=>?_
 refine AH h (fun h=>?_) fun h=>?_
 ·refine AH h (fun h=>?_) fun h=>?_
  ·conv=>whnf
   refine ⟨⟨by decide +kernel,by kernel_rfl⟩,?_⟩
   exact A0 h
  refine A3 h (fun _=>PX _ _ _ _) fun x38 h=>?_
  exact A0 h
 refine AF (f:=Ac) h fun x48 _ h=>?_
 conv=>whnf
 refine ⟨⟨by decide +kernel,by kernel_rfl⟩,?_⟩
 refine A3 h (fun _=>IW _ _) fun x52 h=>?_
 refine A3 h (fun _=>NU _ _ _) fun x54 h=>?_
 obtain ⟨P1,i1,h⟩:=Az h
 refine loop {p:Nat × Int // P1 p.1 p.2 = some R} (fun p=>B5 68 [(2,.d (.int .i64 p2)),(3,.d (.int .i64 p3)),(14,.ptr 14 1 0),(54,.d (Aj 1 (D.int .i64) x54)),(55,.d (.int .i64 ((x54.length:Nat):Int))),(56,.d (.int .i64 p.1.2))] [(14,.var [.d (.str x48.Name),.d (Aj 2 Bp x48.Codes)],1)]) (fun p=>p.1.1) ⟨(_,_),h⟩ ?_ fun p=>?_
 ·exact Ah
 obtain ⟨⟨k1,v56_1⟩,h⟩:=p
 obtain ⟨k1,rfl,h⟩:=i1 _ _ h
 simp only [LA] at h
 refine Ba h fun h=>?_
 refine AF (f:=(D.int .i64)) h fun x58 _ h=>?_
 refine A3 h (fun _=>LL _ _ _ _) fun x63 h=>?_
 refine Ak h fun h=>?_
 conv=>whnf
 exact B1 ⟨(_,_),h⟩ Ah
theorem UR (p0:Aa) (p1:(List Ae)) (p2:(List Int)) (R:Bool) (h:IH p0 p1 p2 = some R):Ao Tryz.prog 120 [.d (Ai p0),.d (Aj 2 Af p1),.d (Aj 1 (D.int .i64) p2)] (.d (.bool R)):=by
 refine CO [3] Tryz.func120 (by kernel_rfl) ?_
 unfold IH at h
 refine Er {p:Unit // HU p1 p2 p0 = some R} (fun p=>B5 53 [(1,.d (Aj 2 Af p1)),(2,.d (Aj 1 (D.int .i64) p2)),(3,.ptr 3 1 0)] [(3,.var [.d (Aj 2 Ac p0.Lists),.d (Aj 7 Ad p0.Columns)],1)]) ?_ fun p=>?_
 ·refine Ak h fun h=>?_
  refine AF (f:=(D.int .i64)) h fun x19 _ h=>?_
  refine Ak h fun h=>?_
  refine AF (f:=(D.int .i64)) h fun x25 _ h=>?_
  refine Ak h fun h=>?_
  conv=>whnf
  exact ⟨⟨(),h⟩,Ah⟩
 obtain ⟨_,h⟩:=p
 simp only [HU] at h
 obtain ⟨P1,i1,h⟩:=Az h
 refine loop {p:Nat × Int // P1 p.1 p.2 = some R} (fun p=>B5 53 [(2,.d (Aj 1 (D.int .i64) p2)),(3,.ptr 3 1 0),(29,.d (Aj 2 Af p1)),(30,.d (.int .i64 ((p1.length:Nat):Int))),(31,.d (.int .i64 p.1.2))] [(3,.var [.d (Aj 2 Ac p0.Lists),.d (Aj 7 Ad p0.Columns)],1)]) (fun p=>p.1.1) ⟨(_,_),h⟩ ?_ fun p=>?_
 ·exact Ah
 obtain ⟨⟨k1,v31_1⟩,h⟩:=p
 obtain ⟨k1,rfl,h⟩:=i1 _ _ h
 simp only [HL] at h
 refine Ba h fun h=>?_
 refine AF (f:=Af) h fun x34 _ h=>?_
 conv=>whnf
 refine ⟨⟨by decide +kernel,by kernel_rfl⟩,?_⟩
 refine AF (f:=(D.int .i64)) h fun x45 _ h=>?_
 refine A3 h (fun _=>MD _ _ _ _ _) fun x47 h=>?_
 refine Ak h fun h=>?_
 conv=>whnf
 exact B1 ⟨(_,_),h⟩ Ah
theorem Oi (p0:Aa) (p1:Au) (R:Int) (h:DR p0 p1 = some R):Ao Tryz.prog 61 [.d (Ai p0),.d (Bh p1)] (.d (.int .i64 R)):=by
 refine BP Tryz.func61 ?_
 unfold DR at h
 refine A3 h (fun _=>Eb _ _) fun x10 h=>?_
 refine Ak h fun h=>?_
 refine A3 h (fun _=>IL _ _) fun x17 h=>?_
 refine Ak h fun h=>?_
 refine Ak h fun h=>?_
 refine A3 h (fun _=>TS _ _ _) fun x31 h=>?_
 refine Ak h fun h=>?_
 refine Ak h fun h=>?_
 obtain ⟨P1,i1,h⟩:=Az h
 refine loop {p:Nat × Int // P1 p.1 p.2 = some R} (fun p=>B5 70 [(2,.ptr 2 1 0),(3,.ptr 3 1 0),(40,.d (Aj 1 (Aj 1 (D.int .i64)) p1.Rows)),(41,.d (.int .i64 ((p1.Rows.length:Nat):Int))),(42,.d (.int .i64 p.1.2))] [(2,.var [.d (Aj 2 Ac p0.Lists),.d (Aj 7 Ad p0.Columns)],1),(3,.var [.d (.str p1.Project),.d (.int .i64 p1.Version),.d (Aj 2 Af p1.Picks),.d (Aj 1 (Aj 1 (D.int .i64)) p1.Rows)],1)]) (fun p=>p.1.1) ⟨(_,_),h⟩ ?_ fun p=>?_
 ·exact Ah
 obtain ⟨⟨k1,v42_1⟩,h⟩:=p
 obtain ⟨k1,rfl,h⟩:=i1 _ _ h
 simp only [Hm] at h
 refine Ba h fun h=>?_
 refine AF (f:=(Aj 1 (D.int .i64))) h fun x45 _ h=>?_
 refine A3 h (fun _=>UR _ _ _ _) fun x51 h=>?_
 refine Ak h fun h=>?_
 conv=>whnf
 refine ⟨⟨by decide +kernel,by kernel_rfl⟩,?_⟩
 refine AH h (fun h=>?_) fun h=>?_
 ·refine AF (f:=(D.int .i64)) h fun x57 _ h=>?_
  refine AF (f:=(Aj 1 (D.int .i64))) h fun x63 _ h=>?_
  refine AF (f:=(D.int .i64)) h fun x65 _ h=>?_
  refine Ak h fun h=>?_
  conv=>whnf
  exact B1 ⟨(_,_),h⟩ Ah
 exact B1 ⟨(_,_),h⟩ Ah
theorem QD (d:Nat) (self_condition_count:(Ag→Int→Option Int)) (ih_condition_count:∀ (p0:Ag) (p1:Int) (R:Int) ,self_condition_count p0 p1 = some R→Ao Tryz.prog 140 [.d (Aw p0),.d (.int .i64 p1)] (.d (.int .i64 R))) (p0:Ag) (p1:Int) (R:Int) (h:EE d self_condition_count p0 p1 = some R):Ao Tryz.prog 140 [.d (Aw p0),.d (.int .i64 p1)] (.d (.int .i64 R)):=by
 refine BP Tryz.func140 ?_
 unfold EE at h
 obtain ⟨P1,i1,h⟩:=Az h
 refine loop {p:Nat × (Int × Int) // P1 p.1 p.2 = some R} (fun p=>B5 27 [(1,.d (.int .i64 p1)),(5,.d (.int .i64 p.1.2.1)),(9,.d (Aj 6 An p0.Kids)),(10,.d (.int .i64 ((p0.Kids.length:Nat):Int))),(11,.d (.int .i64 p.1.2.2))] []) (fun p=>p.1.1) ⟨(_,(_,_)),h⟩ ?_ fun p=>?_
 ·exact Aq
 obtain ⟨⟨k1,⟨v5_1,v11_1⟩⟩,h⟩:=p
 obtain ⟨k1,rfl,h⟩:=i1 _ _ h
 simp only [Ed] at h
 refine BY h fun h=>?_
 refine AF (f:=An) h fun x13 _ h=>?_
 rw [A8 x13]
 refine A2 h fun h=>?_
 conv=>whnf
 obtain ⟨x23,hx23,h⟩:=A7 h
 first | refine AD (ih_condition_count _ _ _ hx23) ?_ | (simp only [List.length_map]; refine AD (ih_condition_count _ _ _ hx23) ?_)
 conv=>whnf
 exact B1 ⟨(_,(_,_)),h⟩ Aq
theorem L2:∀ d:Nat,(∀ (p0:Ag) (p1:Int) (R:Int) ,E8 d p0 p1 = some R→Ao Tryz.prog 140 [.d (Aw p0),.d (.int .i64 p1)] (.d (.int .i64 R)))
 | 0=>by
  refine (by intros; rename_i h; cases h)
 | d + 1=>by
  have ih:=L2 d
  exact QD d _ ih
theorem Ru (d:Nat):∀ (p0:Ag) (p1:Int) (R:Int) ,E8 d p0 p1 = some R→Ao Tryz.prog 140 [.d (Aw p0),.d (.int .i64 p1)] (.d (.int .i64 R)):=L2 d
end Go.Proofs.YtejfnieiaecpkaaGreatDoor.P
