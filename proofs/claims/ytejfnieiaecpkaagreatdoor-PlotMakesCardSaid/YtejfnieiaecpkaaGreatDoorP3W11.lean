/- Printed by wip/tools/mkw.py: walks: draw_New draw_Codes_Next draw_Codes_One draw_Codes_Range draw_Codes_List draw_Codes_Measure draw_Codes_Schema draw_Codes_Value draw_Codes_Row draw_Codes_Source draw_All draw_Codes_Secret draw_Codes_Whole draw_columns draw_Codes_Measured draw_Mod draw_Codes_Coded draw_Codes_Cond draw_Codes_Terms draw_Codes_Dims draw_Codes_Question -/
import Derived.Test.YtejfnieiaecpkaaGreatDoorChecked
import Derived.Test.YtejfnieiaecpkaaGreatDoorP3F
import Derived.Test.YtejfnieiaecpkaaGreatDoorP3A
import Derived.Test.YtejfnieiaecpkaaGreatDoorP3HW
import Derived.Test.YtejfnieiaecpkaaGreatDoorP3W5
import Derived.Test.YtejfnieiaecpkaaGreatDoorP3W7
set_option linter.unusedSimpArgs false
namespace Go.Proofs.YtejfnieiaecpkaaGreatDoor.P
open Go.Abs Go.Proofs
set_option maxRecDepth 100000
set_option maxHeartbeats 4000000
set_option linter.unusedVariables false
theorem UX (p0:(List Int)) (R:Ab) (h:N9 p0 = some R):Ao Tryz.prog 6 [.d (Aj 1 (D.int .u8) p0)] (.optr [(Aj 1 (D.int .u8) R.f_l),(.int .i64 R.f_at)]):=by
 refine BP Tryz.func6 ?_
 unfold N9 at h
 conv=>whnf
 obtain ⟨hr,h⟩:=CS h
 refine ⟨by first | exact of_decide_eq_true hr | (simp only [List.length_map]; exact of_decide_eq_true hr),?_⟩
 try simp only [List.length_map]
 rw [SC]
 exact A0 h
theorem A1 (p0:Ab) (p1:Int) (R:(Int × Ab)) (h:A5 p0 p1 = some R):Ec Tryz.prog 31 [.optr [(Aj 1 (D.int .u8) p0.f_l),(.int .i64 p0.f_at)],.d (.int .i64 p1)] [.optr [(Aj 1 (D.int .u8) R.2.f_l),(.int .i64 R.2.f_at)],.any] (.d (.int .i64 R.1)):=by
 refine Wv [3] Tryz.func31 (by kernel_rfl) rfl ?_ ?_
 ·intro i x y hx hy
  match i,hx,hy with
  | 0,hx,hy=>simp at hx hy; subst hx; subst hy; exact ⟨_,rfl,rfl⟩
  | 1,hx,hy=>simp at hx hy; subst hx; subst hy; trivial
  | i + 2,hx,hy=>simp at hx
 unfold A5 at h
 refine Er {p:Unit // FQ p0 p1 = some R} (fun p=>B5 77 [(0,.ptr 0 0 0),(1,.d (.int .i64 p1))] [(0,.var [.d (Aj 1 (D.int .u8) p0.f_l),.d (.int .i64 p0.f_at)],0)]) ?_ fun p=>?_
 ·conv=>whnf
  refine ⟨⟨by decide +kernel,by kernel_rfl⟩,?_⟩
  refine AH h (fun h=>?_) fun h=>?_
  ·obtain rfl:=Option.some.inj h
   refine ⟨by first | rfl | (simp only [List.length_map]; rfl),?_⟩
   conv=>whnf
   exact ⟨HO⟩
  refine AH h (fun h=>?_) fun h=>?_
  ·conv=>whnf
   obtain rfl:=Option.some.inj h
   refine ⟨by first | rfl | (simp only [List.length_map]; rfl),?_⟩
   conv=>whnf
   exact ⟨HO⟩
  conv=>whnf
  exact ⟨⟨(),h⟩,Ah⟩
 obtain ⟨_,h⟩:=p
 simp only [FQ] at h
 conv=>whnf
 refine ⟨⟨by decide +kernel,by kernel_rfl⟩,?_⟩
 refine AF (f:=(D.int .u8)) h fun x36 _ h=>?_
 conv=>whnf
 refine ⟨⟨by decide +kernel,by kernel_rfl⟩,?_⟩
 refine AH h (fun h=>?_) fun h=>?_
 ·refine AH h (fun h=>?_) fun h=>?_
  ·conv=>whnf
   refine ⟨⟨by decide +kernel,by kernel_rfl⟩,?_⟩
   refine AF (f:=(D.int .u8)) h fun x63 _ h=>?_
   conv=>whnf
   obtain ⟨hr,h⟩:=CS h
   refine ⟨of_decide_eq_true hr,?_⟩
   conv=>whnf
   obtain rfl:=Option.some.inj h
   refine ⟨by first | rfl | (simp only [List.length_map]; rfl),?_⟩
   conv=>whnf
   exact ⟨HO⟩
  conv=>whnf
  obtain ⟨hr,h⟩:=CS h
  refine ⟨of_decide_eq_true hr,?_⟩
  conv=>whnf
  obtain rfl:=Option.some.inj h
  refine ⟨by first | rfl | (simp only [List.length_map]; rfl),?_⟩
  conv=>whnf
  exact ⟨HO⟩
 obtain ⟨hr,h⟩:=CS h
 refine ⟨of_decide_eq_true hr,?_⟩
 conv=>whnf
 obtain rfl:=Option.some.inj h
 refine ⟨by first | rfl | (simp only [List.length_map]; rfl),?_⟩
 conv=>whnf
 exact ⟨HO⟩
theorem Cu (p0:Ab) (p1:Int) (R:(Bool × Ab)) (h:BV p0 p1 = some R):Ec Tryz.prog 50 [.optr [(Aj 1 (D.int .u8) p0.f_l),(.int .i64 p0.f_at)],.d (.int .i64 p1)] [.optr [(Aj 1 (D.int .u8) R.2.f_l),(.int .i64 R.2.f_at)],.any] (.d (.bool R.1)):=by
 refine LG Tryz.func50 (by kernel_rfl) rfl ?_ ?_
 ·intro i x y hx hy
  match i,hx,hy with
  | 0,hx,hy=>simp at hx hy; subst hx; subst hy; exact ⟨_,rfl,rfl⟩
  | 1,hx,hy=>simp at hx hy; subst hx; subst hy; trivial
  | i + 2,hx,hy=>simp at hx
 unfold BV at h
 refine KD h (fun _=>A1 _ _ _) fun x7 h=>?_
 conv=>whnf
 obtain rfl:=Option.some.inj h
 refine ⟨by first | rfl | (simp only [List.length_map]; rfl),?_⟩
 conv=>whnf
 exact ⟨HO⟩
theorem Be (p0:Ab) (p1:Int) (p2:Int) (R:(Int × Ab)) (h:AJ p0 p1 p2 = some R):Ec Tryz.prog 52 [.optr [(Aj 1 (D.int .u8) p0.f_l),(.int .i64 p0.f_at)],.d (.int .i64 p1),.d (.int .i64 p2)] [.optr [(Aj 1 (D.int .u8) R.2.f_l),(.int .i64 R.2.f_at)],.any,.any] (.d (.int .i64 R.1)):=by
 refine LG Tryz.func52 (by kernel_rfl) rfl ?_ ?_
 ·intro i x y hx hy
  match i,hx,hy with
  | 0,hx,hy=>simp at hx hy; subst hx; subst hy; exact ⟨_,rfl,rfl⟩
  | 1,hx,hy=>simp at hx hy; subst hx; subst hy; trivial
  | 2,hx,hy=>simp at hx hy; subst hx; subst hy; trivial
  | i + 3,hx,hy=>simp at hx
 unfold AJ at h
 refine KD h (fun _=>A1 _ _ _) fun x13 h=>?_
 conv=>whnf
 obtain rfl:=Option.some.inj h
 refine ⟨by first | rfl | (simp only [List.length_map]; rfl),?_⟩
 conv=>whnf
 exact ⟨HO⟩
theorem Mu (p0:Ab) (p1:ByteArray) (R:(Am × Ab)) (h:E7 p0 p1 = some R):Ec Tryz.prog 129 [.optr [(Aj 1 (D.int .u8) p0.f_l),(.int .i64 p0.f_at)],.d (.str p1)] [.optr [(Aj 1 (D.int .u8) R.2.f_l),(.int .i64 R.2.f_at)],.any] (.d (Ac R.1)):=by
 refine Wv [7] Tryz.func129 (by kernel_rfl) rfl ?_ ?_
 ·intro i x y hx hy
  match i,hx,hy with
  | 0,hx,hy=>simp at hx hy; subst hx; subst hy; exact ⟨_,rfl,rfl⟩
  | 1,hx,hy=>simp at hx hy; subst hx; subst hy; trivial
  | i + 2,hx,hy=>simp at hx
 unfold E7 at h
 conv=>whnf
 refine ⟨.inr ?_⟩
 refine KD h (fun _=>Be _ _ _ _) fun x15 h=>?_
 refine Er {p:(List DA) // FG x15 p1 p = some R} (fun p=>B5 58 [(0,.ptr 0 0 0),(4,.ptr 4 1 0),(5,.ptr 5 1 0),(6,.d (.int .i64 x15.1))] [(0,.var [.d (Aj 1 (D.int .u8) x15.2.f_l),.d (.int .i64 x15.2.f_at)],0),(4,.var [.d (.str ByteArray.empty),.d (.nil 2)],1),(5,.var [.d (.str p1),.sl 12 1],1),(12,.row 2 142 (List.map Bp p.1),1)]) ?_ fun p=>?_
 ·obtain ⟨P1,i1,h⟩:=Az h
  refine loop {p:Nat × (Int × (List DA)) // P1 p.1 p.2 = some R} (fun p=>B5 58 [(0,.ptr 0 0 0),(4,.ptr 4 1 0),(5,.ptr 5 1 0),(6,.d (.int .i64 x15.1)),(7,.d (.int .i64 p.1.2.1))] [(0,.var [.d (Aj 1 (D.int .u8) x15.2.f_l),.d (.int .i64 x15.2.f_at)],0),(4,.var [.d (.str ByteArray.empty),.d (.nil 2)],1),(5,.var [.d (.str p1),.sl 12 1],1),(12,.row 2 142 (List.map Bp p.1.2.2),1)]) (fun p=>p.1.1) ⟨(_,(_,_)),h⟩ ?_ fun p=>?_
  ·exact Ah
  obtain ⟨⟨k1,⟨v7_1,b12_1⟩⟩,h⟩:=p
  obtain ⟨k1,rfl,h⟩:=i1 _ _ h
  simp only [FT] at h
  refine AH h (fun h=>?_) fun h=>?_
  ·conv=>whnf
   refine ⟨⟨by decide +kernel,by kernel_rfl⟩,?_⟩
   refine A3 h (fun _=>CD _ _) fun x24 h=>?_
   conv=>whnf
   obtain ⟨hr,h⟩:=CS h
   refine ⟨of_decide_eq_true hr,?_⟩
   conv=>whnf
   obtain ⟨hr,h⟩:=CS h
   refine ⟨by (simp only [List.length_map]; exact AE hr (of_decide_eq_true (by kernel_rfl)) (.inr (by kernel_rfl))),?_⟩
   try rw [UV]
   conv=>whnf
   exact B1 ⟨(_,(_,_)),h⟩ Ah
  conv=>whnf
  exact ⟨⟨_,h⟩,Ah⟩
 obtain ⟨k12_1,h⟩:=p
 simp only [FG] at h
 refine KD h (fun _=>Cu _ _ _) fun x31 h=>?_
 refine AH h (fun h=>?_) fun h=>?_
 ·conv=>whnf
  obtain rfl:=Option.some.inj h
  refine ⟨by first | rfl | (simp only [List.length_map]; rfl),?_⟩
  conv=>whnf
  exact ⟨HO⟩
 obtain ⟨P2,i2,h⟩:=Az h
 refine loop {p:Nat × (Int × Ab × (List DA)) // P2 p.1 p.2 = some R} (fun p=>B5 58 [(0,.ptr 0 0 0),(4,.ptr 4 1 0),(5,.ptr 5 1 0),(6,.d (.int .i64 x15.1)),(8,.d (.int .i64 p.1.2.1))] [(0,.var [.d (Aj 1 (D.int .u8) p.1.2.2.1.f_l),.d (.int .i64 p.1.2.2.1.f_at)],0),(4,.var [.d (.str ByteArray.empty),.d (.nil 2)],1),(5,.var [.d (.str p1),.sl 12 1],1),(12,.row 2 142 (List.map Bp p.1.2.2.2),1)]) (fun p=>p.1.1) ⟨(_,(_,_,_)),h⟩ ?_ fun p=>?_
 ·exact Ah
 obtain ⟨⟨k2,⟨v8_2,w0_2,b12_2⟩⟩,h⟩:=p
 obtain ⟨k2,rfl,h⟩:=i2 _ _ h
 simp only [FB] at h
 refine AH h (fun h=>?_) fun h=>?_
 ·refine KD h (fun _=>Be _ _ _ _) fun x39 h=>?_
  obtain ⟨P3,i3,h⟩:=Az h
  refine loop {p:Nat × (Int × (List DA)) // P3 p.1 p.2 = some R} (fun p=>B5 58 [(0,.ptr 0 0 0),(4,.ptr 4 1 0),(5,.ptr 5 1 0),(6,.d (.int .i64 x15.1)),(8,.d (.int .i64 v8_2)),(9,.d (.int .i64 p.1.2.1))] [(0,.var [.d (Aj 1 (D.int .u8) x39.2.f_l),.d (.int .i64 x39.2.f_at)],0),(4,.var [.d (.str ByteArray.empty),.d (.nil 2)],1),(5,.var [.d (.str p1),.sl 12 1],1),(12,.row 2 142 (List.map Bp p.1.2.2),1)]) (fun p=>p.1.1) ⟨(_,(_,_)),h⟩ ?_ fun p=>?_
  ·exact Ah
  obtain ⟨⟨k3,⟨v9_3,b12_3⟩⟩,h⟩:=p
  obtain ⟨k3,rfl,h⟩:=i3 _ _ h
  simp only [Ij] at h
  refine AH h (fun h=>?_) fun h=>?_
  ·conv=>whnf
   refine ⟨⟨by decide +kernel,by kernel_rfl⟩,?_⟩
   conv=>whnf
   obtain ⟨x49,hx49,h⟩:=A7 h
   first | refine AD (CD _ _ hx49) ?_ | (simp only [List.length_map]; refine AD (CD _ _ hx49) ?_)
   conv=>whnf
   obtain ⟨hr,h⟩:=CS h
   refine ⟨of_decide_eq_true hr,?_⟩
   conv=>whnf
   obtain ⟨hr,h⟩:=CS h
   refine ⟨by (simp only [List.length_map]; exact AE hr (of_decide_eq_true (by kernel_rfl)) (.inr (by kernel_rfl))),?_⟩
   try rw [UV]
   conv=>whnf
   exact B1 ⟨(_,(_,_)),h⟩ Ah
  conv=>whnf
  exact B1 ⟨(_,(_,_,_)),h⟩ Ah
 conv=>whnf
 obtain rfl:=Option.some.inj h
 refine ⟨by first | rfl | (simp only [List.length_map]; rfl),?_⟩
 conv=>whnf
 exact ⟨HO⟩
theorem K7 (p0:Ab) (p1:ByteArray) (R:(Av × Ab)) (h:Dr p0 p1 = some R):Ec Tryz.prog 130 [.optr [(Aj 1 (D.int .u8) p0.f_l),(.int .i64 p0.f_at)],.d (.str p1)] [.optr [(Aj 1 (D.int .u8) R.2.f_l),(.int .i64 R.2.f_at)],.any] (.d (Ad R.1)):=by
 refine LG Tryz.func130 (by kernel_rfl) rfl ?_ ?_
 ·intro i x y hx hy
  match i,hx,hy with
  | 0,hx,hy=>simp at hx hy; subst hx; subst hy; exact ⟨_,rfl,rfl⟩
  | 1,hx,hy=>simp at hx hy; subst hx; subst hy; trivial
  | i + 2,hx,hy=>simp at hx
 unfold Dr at h
 conv=>whnf
 refine ⟨⟨by decide +kernel,by kernel_rfl⟩,?_⟩
 refine KD h (fun _=>Be _ _ _ _) fun x8 h=>?_
 refine KD h (fun _=>A1 _ _ _) fun x15 h=>?_
 refine JP (f:=(Aj 1 (D.int .i64))) h BU fun x16 hx16 h=>?_
 refine Sc (f:=(Aj 1 (D.int .i64))) hx16 BU ?_
 refine KD h (fun _=>Cu _ _ _) fun x19 h=>?_
 conv=>whnf
 refine ⟨⟨by decide +kernel,by kernel_rfl⟩,?_⟩
 refine KD h (fun _=>A1 _ _ _) fun x24 h=>?_
 conv=>whnf
 obtain rfl:=Option.some.inj h
 refine ⟨by first | rfl | (simp only [List.length_map]; rfl),?_⟩
 conv=>whnf
 exact ⟨HO⟩
theorem PE (p0:Ab) (R:(Aa × Ab)) (h:C2 p0 = some R):Ec Tryz.prog 67 [.optr [(Aj 1 (D.int .u8) p0.f_l),(.int .i64 p0.f_at)]] [.optr [(Aj 1 (D.int .u8) R.2.f_l),(.int .i64 R.2.f_at)]] (.d (Ai R.1)):=by
 refine LG Tryz.func67 (by kernel_rfl) rfl ?_ ?_
 ·intro i x y hx hy
  match i,hx,hy with
  | 0,hx,hy=>simp at hx hy; subst hx; subst hy; exact ⟨_,rfl,rfl⟩
  | i + 1,hx,hy=>simp at hx
 unfold C2 at h
 refine KD h (fun _=>Mu _ _ _) fun x6 h=>?_
 refine KD h (fun _=>Mu _ _ _) fun x8 h=>?_
 conv=>whnf
 refine ⟨.inr ?_⟩
 refine KD h (fun _=>Cu _ _ _) fun x15 h=>?_
 refine AH h (fun h=>?_) fun h=>?_
 ·conv=>whnf
  obtain ⟨hr,h⟩:=CS h
  refine ⟨by (simp only [List.length_map]; exact AE hr (of_decide_eq_true (by kernel_rfl)) (.inr (by kernel_rfl))),?_⟩
  try rw [NH]
  conv=>whnf
  obtain ⟨x23,hx23,h⟩:=A7 h
  refine Cv (Be _ _ _ _ hx23) ?_
  obtain ⟨P1,i1,h⟩:=Az h
  refine loop {p:Nat × (Int × Ab × (List Av)) // P1 p.1 p.2 = some R} (fun p=>B5 41 [(0,.ptr 0 0 0),(2,.ptr 2 1 0),(3,.ptr 3 1 0),(4,.d (.int .i64 p.1.2.1))] [(0,.var [.d (Aj 1 (D.int .u8) p.1.2.2.1.f_l),.d (.int .i64 p.1.2.2.1.f_at)],0),(2,.var [.d (.nil 2),.d (.nil 7)],1),(3,.var [.sl 9 1,.sl 12 1],1),(9,.row 2 93 (List.map Ac [x6.1,x8.1]),1),(12,.row 7 40 (List.map Ad p.1.2.2.2),1)]) (fun p=>p.1.1) ⟨(_,(_,_,_)),h⟩ ?_ fun p=>?_
  ·exact Ah
  obtain ⟨⟨k1,⟨v4_1,w0_1,b12_1⟩⟩,h⟩:=p
  obtain ⟨k1,rfl,h⟩:=i1 _ _ h
  simp only [EP] at h
  refine AH h (fun h=>?_) fun h=>?_
  ·conv=>whnf
   refine ⟨⟨by decide +kernel,by kernel_rfl⟩,?_⟩
   conv=>whnf
   obtain ⟨x34,hx34,h⟩:=A7 h
   first | refine AD (CD _ _ hx34) ?_ | (simp only [List.length_map]; refine AD (CD _ _ hx34) ?_)
   conv=>whnf
   obtain ⟨hr,h⟩:=CS h
   refine ⟨of_decide_eq_true hr,?_⟩
   conv=>whnf
   obtain ⟨x36,hx36,h⟩:=A7 h
   refine Cv (K7 _ _ _ hx36) ?_
   conv=>whnf
   obtain ⟨hr,h⟩:=CS h
   refine ⟨by (simp only [List.length_map]; exact AE hr (of_decide_eq_true (by kernel_rfl)) (.inr (by kernel_rfl))),?_⟩
   try rw [NH]
   conv=>whnf
   exact B1 ⟨(_,(_,_,_)),h⟩ Ah
  conv=>whnf
  obtain rfl:=Option.some.inj h
  refine ⟨by first | rfl | (simp only [List.length_map]; rfl),?_⟩
  conv=>whnf
  exact ⟨HO⟩
 conv=>whnf
 obtain ⟨x23,hx23,h⟩:=A7 h
 refine Cv (Be _ _ _ _ hx23) ?_
 obtain ⟨P2,i2,h⟩:=Az h
 refine loop {p:Nat × (Int × Ab × (List Av)) // P2 p.1 p.2 = some R} (fun p=>B5 41 [(0,.ptr 0 0 0),(2,.ptr 2 1 0),(3,.ptr 3 1 0),(4,.d (.int .i64 p.1.2.1))] [(0,.var [.d (Aj 1 (D.int .u8) p.1.2.2.1.f_l),.d (.int .i64 p.1.2.2.1.f_at)],0),(2,.var [.d (.nil 2),.d (.nil 7)],1),(3,.var [.sl 9 1,.sl 12 1],1),(9,.row 2 93 (List.map Ac [x6.1,x8.1]),1),(12,.row 7 40 (List.map Ad p.1.2.2.2),1)]) (fun p=>p.1.1) ⟨(_,(_,_,_)),h⟩ ?_ fun p=>?_
 ·exact Ah
 obtain ⟨⟨k2,⟨v4_2,w0_2,b12_2⟩⟩,h⟩:=p
 obtain ⟨k2,rfl,h⟩:=i2 _ _ h
 simp only [Kw] at h
 refine AH h (fun h=>?_) fun h=>?_
 ·conv=>whnf
  refine ⟨⟨by decide +kernel,by kernel_rfl⟩,?_⟩
  conv=>whnf
  obtain ⟨x34,hx34,h⟩:=A7 h
  first | refine AD (CD _ _ hx34) ?_ | (simp only [List.length_map]; refine AD (CD _ _ hx34) ?_)
  conv=>whnf
  obtain ⟨hr,h⟩:=CS h
  refine ⟨of_decide_eq_true hr,?_⟩
  conv=>whnf
  obtain ⟨x36,hx36,h⟩:=A7 h
  refine Cv (K7 _ _ _ hx36) ?_
  conv=>whnf
  obtain ⟨hr,h⟩:=CS h
  refine ⟨by (simp only [List.length_map]; exact AE hr (of_decide_eq_true (by kernel_rfl)) (.inr (by kernel_rfl))),?_⟩
  try rw [NH]
  conv=>whnf
  exact B1 ⟨(_,(_,_,_)),h⟩ Ah
 conv=>whnf
 obtain rfl:=Option.some.inj h
 refine ⟨by first | rfl | (simp only [List.length_map]; rfl),?_⟩
 conv=>whnf
 exact ⟨HO⟩
theorem Q1 (p0:Ab) (p1:Aa) (p2:Int) (R:(Int × Ab)) (h:Fj p0 p1 p2 = some R):Ec Tryz.prog 131 [.optr [(Aj 1 (D.int .u8) p0.f_l),(.int .i64 p0.f_at)],.d (Ai p1),.d (.int .i64 p2)] [.optr [(Aj 1 (D.int .u8) R.2.f_l),(.int .i64 R.2.f_at)],.any,.any] (.d (.int .i64 R.1)):=by
 refine LG Tryz.func131 (by kernel_rfl) rfl ?_ ?_
 ·intro i x y hx hy
  match i,hx,hy with
  | 0,hx,hy=>simp at hx hy; subst hx; subst hy; exact ⟨_,rfl,rfl⟩
  | 1,hx,hy=>simp at hx hy; subst hx; subst hy; trivial
  | 2,hx,hy=>simp at hx hy; subst hx; subst hy; trivial
  | i + 3,hx,hy=>simp at hx
 unfold Fj at h
 refine AF (f:=Ad) h fun x12 _ h=>?_
 refine AH h (fun h=>?_) fun h=>?_
 ·refine KD h (fun _=>Be _ _ _ _) fun x19 h=>?_
  conv=>whnf
  obtain rfl:=Option.some.inj h
  refine ⟨by first | rfl | (simp only [List.length_map]; rfl),?_⟩
  conv=>whnf
  exact ⟨HO⟩
 refine AH h (fun h=>?_) fun h=>?_
 ·refine A3 h (fun _=>Fs _ _ _) fun x24 h=>?_
  conv=>whnf
  obtain ⟨x29,hx29,h⟩:=A7 h
  first | refine Cv (A1 _ _ _ hx29) ?_ | (simp only [List.length_map]; refine Cv (A1 _ _ _ hx29) ?_)
  refine AF (f:=(D.int .i64)) h fun x30 _ h=>?_
  conv=>whnf
  obtain rfl:=Option.some.inj h
  refine ⟨by first | rfl | (simp only [List.length_map]; rfl),?_⟩
  conv=>whnf
  exact ⟨HO⟩
 refine AH h (fun h=>?_) fun h=>?_
 ·refine KD h (fun _=>Cu _ _ _) fun x36 h=>?_
  refine AH h (fun h=>?_) fun h=>?_
  ·conv=>whnf
   obtain rfl:=Option.some.inj h
   refine ⟨by first | rfl | (simp only [List.length_map]; rfl),?_⟩
   conv=>whnf
   exact ⟨HO⟩
  conv=>whnf
  obtain ⟨x43,hx43,h⟩:=A7 h
  refine Cv (Be _ _ _ _ hx43) ?_
  conv=>whnf
  obtain rfl:=Option.some.inj h
  refine ⟨by first | rfl | (simp only [List.length_map]; rfl),?_⟩
  conv=>whnf
  exact ⟨HO⟩
 obtain ⟨x43,hx43,h⟩:=A7 h
 refine Cv (Be _ _ _ _ hx43) ?_
 conv=>whnf
 obtain rfl:=Option.some.inj h
 refine ⟨by first | rfl | (simp only [List.length_map]; rfl),?_⟩
 conv=>whnf
 exact ⟨HO⟩
theorem Sf (p0:Ab) (p1:Aa) (R:((List Int) × Ab)) (h:GP p0 p1 = some R):Ec Tryz.prog 69 [.optr [(Aj 1 (D.int .u8) p0.f_l),(.int .i64 p0.f_at)],.d (Ai p1)] [.optr [(Aj 1 (D.int .u8) R.2.f_l),(.int .i64 R.2.f_at)],.any] (.d (Aj 1 (D.int .i64) R.1)):=by
 refine LG Tryz.func69 (by kernel_rfl) rfl ?_ ?_
 ·intro i x y hx hy
  match i,hx,hy with
  | 0,hx,hy=>simp at hx hy; subst hx; subst hy; exact ⟨_,rfl,rfl⟩
  | 1,hx,hy=>simp at hx hy; subst hx; subst hy; trivial
  | i + 2,hx,hy=>simp at hx
 unfold GP at h
 obtain ⟨P1,i1,h⟩:=Az h
 refine loop {p:Nat × (Int × Ab × (List Int)) // P1 p.1 p.2 = some R} (fun p=>B5 22 [(0,.ptr 0 0 0),(3,.ptr 3 1 0),(5,.sl 5 1),(9,.d (.int .i64 ((p1.Columns.length:Nat):Int))),(10,.d (.int .i64 p.1.2.1))] [(0,.var [.d (Aj 1 (D.int .u8) p.1.2.2.1.f_l),.d (.int .i64 p.1.2.2.1.f_at)],0),(3,.var [.d (Aj 2 Ac p1.Lists),.d (Aj 7 Ad p1.Columns)],1),(5,.row 1 3 (List.map (D.int .i64) p.1.2.2.2),1)]) (fun p=>p.1.1) ⟨(_,(_,_,_)),h⟩ ?_ fun p=>?_
 ·exact Ah
 obtain ⟨⟨k1,⟨v10_1,w0_1,b5_1⟩⟩,h⟩:=p
 obtain ⟨k1,rfl,h⟩:=i1 _ _ h
 simp only [G7] at h
 refine AH h (fun h=>?_) fun h=>?_
 ·refine KD h (fun _=>Q1 _ _ _ _) fun x17 h=>?_
  conv=>whnf
  obtain ⟨hr,h⟩:=CS h
  refine ⟨by (simp only [List.length_map]; exact AE hr (of_decide_eq_true (by kernel_rfl)) (.inr (by kernel_rfl))),?_⟩
  try rw [G9]
  conv=>whnf
  exact B1 ⟨(_,(_,_,_)),h⟩ Ah
 conv=>whnf
 obtain rfl:=Option.some.inj h
 refine ⟨by first | rfl | (simp only [List.length_map]; rfl),?_⟩
 conv=>whnf
 refine ⟨.inl ?_⟩
 conv=>whnf
 exact ⟨HO⟩
theorem KR (p0:Ab) (p1:Int) (R:(B2 × Ab)) (h:Cj p0 p1 = some R):Ec Tryz.prog 26 [.optr [(Aj 1 (D.int .u8) p0.f_l),(.int .i64 p0.f_at)],.d (.int .i64 p1)] [.optr [(Aj 1 (D.int .u8) R.2.f_l),(.int .i64 R.2.f_at)],.any] (.d (Ie R.1)):=by
 refine LG Tryz.func26 (by kernel_rfl) rfl ?_ ?_
 ·intro i x y hx hy
  match i,hx,hy with
  | 0,hx,hy=>simp at hx hy; subst hx; subst hy; exact ⟨_,rfl,rfl⟩
  | 1,hx,hy=>simp at hx hy; subst hx; subst hy; trivial
  | i + 2,hx,hy=>simp at hx
 unfold Cj at h
 refine KD h (fun _=>PE _ _) fun x9 h=>?_
 refine KD h (fun _=>A1 _ _ _) fun x15 h=>?_
 obtain ⟨P1,i1,h⟩:=Az h
 refine loop {p:Nat × (Int × Ab × (List (List Int))) // P1 p.1 p.2 = some R} (fun p=>B5 28 [(0,.ptr 0 0 0),(4,.ptr 4 1 0),(5,.ptr 5 1 0),(6,.ptr 6 1 0),(7,.d (.int .i64 p.1.2.1))] [(0,.var [.d (Aj 1 (D.int .u8) p.1.2.2.1.f_l),.d (.int .i64 p.1.2.2.1.f_at)],0),(4,.var [.d (.nil 2),.d (.nil 7),.d (.nil 1),.d (.nil 1),.d (.int .i64 0)],1),(5,.var [.d (Aj 2 Ac x9.1.Lists),.d (Aj 7 Ad x9.1.Columns)],1),(6,.var [.d (Aj 2 Ac x9.1.Lists),.d (Aj 7 Ad x9.1.Columns),.d (Aj 1 (Aj 1 (D.int .i64)) p.1.2.2.2),.d (.nil 1),.d (.int .i64 0)],1)]) (fun p=>p.1.1) ⟨(_,(_,_,_)),h⟩ ?_ fun p=>?_
 ·exact Ah
 obtain ⟨⟨k1,⟨v7_1,w0_1,c6_2_1⟩⟩,h⟩:=p
 obtain ⟨k1,rfl,h⟩:=i1 _ _ h
 simp only [EJ] at h
 refine AH h (fun h=>?_) fun h=>?_
 ·conv=>whnf
  refine ⟨⟨by decide +kernel,by kernel_rfl⟩,?_⟩
  refine KD h (fun _=>Sf _ _ _) fun x24 h=>?_
  refine A3 h (fun _=>SQ _ _ _) fun x25 h=>?_
  conv=>whnf
  exact B1 ⟨(_,(_,_,_)),h⟩ Ah
 conv=>whnf
 obtain rfl:=Option.some.inj h
 refine ⟨by first | rfl | (simp only [List.length_map]; rfl),?_⟩
 conv=>whnf
 exact ⟨HO⟩
theorem UW (p0:Aa) (R:(Ay × (List Ae))) (h:Nj p0 = some R):Ao Tryz.prog 27 [.d (Ai p0)] (.tup [.d (De R.1),.d (Aj 2 Af R.2)]):=by
 refine BP Tryz.func27 ?_
 unfold Nj at h
 obtain ⟨P1,i1,h⟩:=Az h
 refine loop {p:Nat × (Int × (List Ae)) // P1 p.1 p.2 = some R} (fun p=>B5 33 [(1,.ptr 1 1 0),(2,.ptr 2 1 0),(4,.ptr 4 1 0),(5,.sl 5 1),(6,.d (.int .i64 p.1.2.1))] [(1,.var [.d (Aj 2 Ac p0.Lists),.d (Aj 7 Ad p0.Columns)],1),(2,.var [.d (.str ByteArray.empty),.d (.str ByteArray.empty),.d (.int .i64 0),.d (.int .i64 0),.d (.int .i64 0),.d (.int .i64 0),.d (.int .i64 0),.d (.nil 6),.d (.int .i64 0),.d (.int .i64 0),.d (.int .i64 0),.d (.nil 17)],1),(4,.var [.d (.str ({ data:=#[97,108,108,95,114,111,119,115] }:ByteArray)),.d (.str ({ data:=#[115,114,99] }:ByteArray)),.d (.int .i64 1),.d (.int .i64 0),.d (.int .i64 0),.d (.int .i64 0),.d (.int .i64 0),.d (.nil 6),.d (.int .i64 1),.d (.int .i64 1),.d (.int .i64 0),.d (.nil 17)],1),(5,.row 2 43 (List.map Af p.1.2.2),1)]) (fun p=>p.1.1) ⟨(_,(_,_)),h⟩ ?_ fun p=>?_
 ·exact Ah
 obtain ⟨⟨k1,⟨v6_1,b5_1⟩⟩,h⟩:=p
 obtain ⟨k1,rfl,h⟩:=i1 _ _ h
 simp only [M2] at h
 refine AH h (fun h=>?_) fun h=>?_
 ·refine A3 h (fun _=>BX _ _ _) fun x21 h=>?_
  conv=>whnf
  obtain ⟨hr,h⟩:=CS h
  refine ⟨by (simp only [List.length_map]; exact AE hr (of_decide_eq_true (by kernel_rfl)) (.inr (by kernel_rfl))),?_⟩
  try rw [CZ]
  conv=>whnf
  exact B1 ⟨(_,(_,_)),h⟩ Ah
 conv=>whnf
 try simp only [SG] at h
 refine ⟨.inl ?_⟩
 conv=>whnf
 obtain rfl:=Option.some.inj h
 refine ⟨.inl ?_⟩
 conv=>whnf
 exact ⟨HO⟩
theorem Hu (p0:Ab) (R:(Int × Ab)) (h:Db p0 = some R):Ec Tryz.prog 29 [.optr [(Aj 1 (D.int .u8) p0.f_l),(.int .i64 p0.f_at)]] [.optr [(Aj 1 (D.int .u8) R.2.f_l),(.int .i64 R.2.f_at)]] (.d (.int .i64 R.1)):=by
 refine LG Tryz.func29 (by kernel_rfl) rfl ?_ ?_
 ·intro i x y hx hy
  match i,hx,hy with
  | 0,hx,hy=>simp at hx hy; subst hx; subst hy; exact ⟨_,rfl,rfl⟩
  | i + 1,hx,hy=>simp at hx
 unfold Db at h
 refine KD h (fun _=>A1 _ _ _) fun x4 h=>?_
 refine KD h (fun _=>A1 _ _ _) fun x6 h=>?_
 refine KD h (fun _=>A1 _ _ _) fun x9 h=>?_
 conv=>whnf
 obtain rfl:=Option.some.inj h
 refine ⟨by first | rfl | (simp only [List.length_map]; rfl),?_⟩
 conv=>whnf
 exact ⟨HO⟩
theorem QA (d:Nat) (p0:Ab) (p1:Int) (R:(B2 × Au × Ab)) (h:F3 d p0 p1 = some R):Ec Tryz.prog 7 [.optr [(Aj 1 (D.int .u8) p0.f_l),(.int .i64 p0.f_at)],.d (.int .i64 p1)] [.optr [(Aj 1 (D.int .u8) R.2.2.f_l),(.int .i64 R.2.2.f_at)],.any] (.tup [.d (Ie R.1),.d (Bh R.2.1)]):=by
 refine LG Tryz.func7 (by kernel_rfl) rfl ?_ ?_
 ·intro i x y hx hy
  match i,hx,hy with
  | 0,hx,hy=>simp at hx hy; subst hx; subst hy; exact ⟨_,rfl,rfl⟩
  | 1,hx,hy=>simp at hx hy; subst hx; subst hy; trivial
  | i + 2,hx,hy=>simp at hx
 unfold F3 at h
 refine KD h (fun _=>KR _ _ _) fun x13 h=>?_
 refine A3 h (fun _=>UW _ _) fun x17 h=>?_
 conv=>whnf
 refine ⟨⟨by decide +kernel,by kernel_rfl⟩,?_⟩
 refine KD h (fun _=>Hu _ _) fun x25 h=>?_
 refine A3 h (fun _=>MJ _ _ _ _ _ _) fun x26 h=>?_
 conv=>whnf
 refine ⟨⟨by decide +kernel,by kernel_rfl⟩,?_⟩
 conv=>whnf
 obtain rfl:=Option.some.inj h
 refine ⟨by first | rfl | (simp only [List.length_map]; rfl),?_⟩
 conv=>whnf
 exact ⟨HO⟩
theorem ID (p0:Aa) (p1:Int) (R:(List Int)) (h:Dt p0 p1 = some R):Ao Tryz.prog 30 [.d (Ai p0),.d (.int .i64 p1)] (.d (Aj 1 (D.int .i64) R)):=by
 refine BP Tryz.func30 ?_
 unfold Dt at h
 obtain ⟨P1,i1,h⟩:=Az h
 refine loop {p:Nat × (Int × (List Int)) // P1 p.1 p.2 = some R} (fun p=>B5 27 [(1,.d (.int .i64 p1)),(2,.ptr 2 1 0),(5,.sl 5 1),(9,.d (.int .i64 ((p0.Columns.length:Nat):Int))),(10,.d (.int .i64 p.1.2.1))] [(2,.var [.d (Aj 2 Ac p0.Lists),.d (Aj 7 Ad p0.Columns)],1),(5,.row 1 3 (List.map (D.int .i64) p.1.2.2),1)]) (fun p=>p.1.1) ⟨(_,(_,_)),h⟩ ?_ fun p=>?_
 ·exact Ah
 obtain ⟨⟨k1,⟨v10_1,b5_1⟩⟩,h⟩:=p
 obtain ⟨k1,rfl,h⟩:=i1 _ _ h
 simp only [E6] at h
 refine AH h (fun h=>?_) fun h=>?_
 ·refine AF (f:=Ad) h fun x16 _ h=>?_
  refine AH h (fun h=>?_) fun h=>?_
  ·conv=>whnf
   obtain ⟨hr,h⟩:=CS h
   refine ⟨by (simp only [List.length_map]; exact AE hr (of_decide_eq_true (by kernel_rfl)) (.inr (by kernel_rfl))),?_⟩
   try rw [G9]
   conv=>whnf
   exact B1 ⟨(_,(_,_)),h⟩ Ah
  conv=>whnf
  exact B1 ⟨(_,(_,_)),h⟩ Ah
 conv=>whnf
 obtain rfl:=Option.some.inj h
 refine ⟨.inl ?_⟩
 conv=>whnf
 exact ⟨HO⟩
theorem Dn (p0:Ab) (p1:Aa) (R:(Int × Ab)) (h:B0 p0 p1 = some R):Ec Tryz.prog 8 [.optr [(Aj 1 (D.int .u8) p0.f_l),(.int .i64 p0.f_at)],.d (Ai p1)] [.optr [(Aj 1 (D.int .u8) R.2.f_l),(.int .i64 R.2.f_at)],.any] (.d (.int .i64 R.1)):=by
 refine LG Tryz.func8 (by kernel_rfl) rfl ?_ ?_
 ·intro i x y hx hy
  match i,hx,hy with
  | 0,hx,hy=>simp at hx hy; subst hx; subst hy; exact ⟨_,rfl,rfl⟩
  | 1,hx,hy=>simp at hx hy; subst hx; subst hy; trivial
  | i + 2,hx,hy=>simp at hx
 unfold B0 at h
 refine A3 h (fun _=>ID _ _ _) fun x7 h=>?_
 conv=>whnf
 obtain ⟨x12,hx12,h⟩:=A7 h
 first | refine Cv (A1 _ _ _ hx12) ?_ | (simp only [List.length_map]; refine Cv (A1 _ _ _ hx12) ?_)
 refine AF (f:=(D.int .i64)) h fun x13 _ h=>?_
 conv=>whnf
 obtain rfl:=Option.some.inj h
 refine ⟨by first | rfl | (simp only [List.length_map]; rfl),?_⟩
 conv=>whnf
 exact ⟨HO⟩
theorem Q6 (p0:Int) (p1:Int) (R:Int) (h:Nd p0 p1 = some R):Ao Tryz.prog 9 [.d (.int .i64 p0),.d (.int .i64 p1)] (.d (.int .i64 R)):=by
 refine BP Tryz.func9 ?_
 unfold Nd at h
 refine Ak h fun h=>?_
 conv=>whnf
 obtain ⟨hr,h⟩:=CS h
 refine ⟨of_decide_eq_true hr,?_⟩
 exact DJ h
theorem Q8 (p0:Ab) (p1:Aa) (R:(Int × Ab)) (h:Fv p0 p1 = some R):Ec Tryz.prog 51 [.optr [(Aj 1 (D.int .u8) p0.f_l),(.int .i64 p0.f_at)],.d (Ai p1)] [.optr [(Aj 1 (D.int .u8) R.2.f_l),(.int .i64 R.2.f_at)],.any] (.d (.int .i64 R.1)):=by
 refine LG Tryz.func51 (by kernel_rfl) rfl ?_ ?_
 ·intro i x y hx hy
  match i,hx,hy with
  | 0,hx,hy=>simp at hx hy; subst hx; subst hy; exact ⟨_,rfl,rfl⟩
  | 1,hx,hy=>simp at hx hy; subst hx; subst hy; trivial
  | i + 2,hx,hy=>simp at hx
 unfold Fv at h
 refine A3 h (fun _=>ID _ _ _) fun x7 h=>?_
 conv=>whnf
 obtain ⟨x12,hx12,h⟩:=A7 h
 first | refine Cv (A1 _ _ _ hx12) ?_ | (simp only [List.length_map]; refine Cv (A1 _ _ _ hx12) ?_)
 refine AF (f:=(D.int .i64)) h fun x13 _ h=>?_
 conv=>whnf
 obtain rfl:=Option.some.inj h
 refine ⟨by first | rfl | (simp only [List.length_map]; rfl),?_⟩
 conv=>whnf
 exact ⟨HO⟩
theorem QF (d:Nat) (self_draw_Codes_Cond:(Ab→Aa→Int→Option (Ag × Ab))) (ih_draw_Codes_Cond:∀ (p0:Ab) (p1:Aa) (p2:Int) (R:(Ag × Ab)) ,self_draw_Codes_Cond p0 p1 p2 = some R→Ec Tryz.prog 18 [.optr [(Aj 1 (D.int .u8) p0.f_l),(.int .i64 p0.f_at)],.d (Ai p1),.d (.int .i64 p2)] [.optr [(Aj 1 (D.int .u8) R.2.f_l),(.int .i64 R.2.f_at)],.any,.any] (.d (Aw R.1))) (p0:Ab) (p1:Aa) (p2:Int) (R:(Ag × Ab)) (h:CW d self_draw_Codes_Cond p0 p1 p2 = some R):Ec Tryz.prog 18 [.optr [(Aj 1 (D.int .u8) p0.f_l),(.int .i64 p0.f_at)],.d (Ai p1),.d (.int .i64 p2)] [.optr [(Aj 1 (D.int .u8) R.2.f_l),(.int .i64 R.2.f_at)],.any,.any] (.d (Aw R.1)):=by
 refine Wv [9] Tryz.func18 (by kernel_rfl) rfl ?_ ?_
 ·intro i x y hx hy
  match i,hx,hy with
  | 0,hx,hy=>simp at hx hy; subst hx; subst hy; exact ⟨_,rfl,rfl⟩
  | 1,hx,hy=>simp at hx hy; subst hx; subst hy; trivial
  | 2,hx,hy=>simp at hx hy; subst hx; subst hy; trivial
  | i + 3,hx,hy=>simp at hx
 unfold CW at h
 refine Er {p:Ab // Dq p1 p = some R} (fun p=>B5 111 [(0,.ptr 0 0 0),(4,.ptr 4 1 0),(6,.ptr 6 1 0)] [(0,.var [.d (Aj 1 (D.int .u8) p.1.f_l),.d (.int .i64 p.1.f_at)],0),(4,.var [.d (Aj 2 Ac p1.Lists),.d (Aj 7 Ad p1.Columns)],1),(6,.var [.d (.int .i64 0),.d (.int .i64 0),.d (.int .i64 0),.d (.int .i64 0),.d (.int .i64 0),.d (.nil 6)],1)]) ?_ fun p=>?_
 ·refine AH h (fun h=>?_) fun h=>?_
  ·refine KD h (fun _=>A1 _ _ _) fun x14 h=>?_
   refine AH h (fun h=>?_) fun h=>?_
   ·conv=>whnf
    obtain ⟨x21,hx21,h⟩:=A7 h
    first | refine Cv (ih_draw_Codes_Cond _ _ _ _ hx21) ?_ | (simp only [List.length_map]; refine Cv (ih_draw_Codes_Cond _ _ _ _ hx21) ?_)
    conv=>whnf
    refine ⟨.inl ?_⟩
    conv=>whnf
    obtain rfl:=Option.some.inj h
    refine ⟨by first | rfl | (simp only [List.length_map]; rfl) | (simp only [Aw,A8,AX,Bm,Aj,List.map_cons,List.map_nil,List.length_map]; rfl),?_⟩
    conv=>whnf
    exact ⟨Pl⟩
   refine AH h (fun h=>?_) fun h=>?_
   ·conv=>whnf
    refine ⟨⟨by decide +kernel,by kernel_rfl⟩,?_⟩
    conv=>whnf
    obtain ⟨x30,hx30,h⟩:=A7 h
    first | refine Cv (ih_draw_Codes_Cond _ _ _ _ hx30) ?_ | (simp only [List.length_map]; refine Cv (ih_draw_Codes_Cond _ _ _ _ hx30) ?_)
    conv=>whnf
    obtain ⟨x35,hx35,h⟩:=A7 h
    first | refine Cv (ih_draw_Codes_Cond _ _ _ _ hx35) ?_ | (simp only [List.length_map]; refine Cv (ih_draw_Codes_Cond _ _ _ _ hx35) ?_)
    conv=>whnf
    refine ⟨.inl ?_⟩
    conv=>whnf
    obtain rfl:=Option.some.inj h
    refine ⟨by first | rfl | (simp only [List.length_map]; rfl) | (simp only [Aw,A8,AX,Bm,Aj,List.map_cons,List.map_nil,List.length_map]; rfl),?_⟩
    conv=>whnf
    exact ⟨Pl⟩
   refine AH h (fun h=>?_) fun h=>?_
   ·conv=>whnf
    refine ⟨⟨by decide +kernel,by kernel_rfl⟩,?_⟩
    conv=>whnf
    obtain ⟨x44,hx44,h⟩:=A7 h
    first | refine Cv (ih_draw_Codes_Cond _ _ _ _ hx44) ?_ | (simp only [List.length_map]; refine Cv (ih_draw_Codes_Cond _ _ _ _ hx44) ?_)
    conv=>whnf
    obtain ⟨x49,hx49,h⟩:=A7 h
    first | refine Cv (ih_draw_Codes_Cond _ _ _ _ hx49) ?_ | (simp only [List.length_map]; refine Cv (ih_draw_Codes_Cond _ _ _ _ hx49) ?_)
    conv=>whnf
    refine ⟨.inl ?_⟩
    conv=>whnf
    obtain rfl:=Option.some.inj h
    refine ⟨by first | rfl | (simp only [List.length_map]; rfl) | (simp only [Aw,A8,AX,Bm,Aj,List.map_cons,List.map_nil,List.length_map]; rfl),?_⟩
    conv=>whnf
    exact ⟨Pl⟩
   conv=>whnf
   exact ⟨⟨_,h⟩,Aq⟩
  conv=>whnf
  exact ⟨⟨_,h⟩,Aq⟩
 obtain ⟨k0_1,h⟩:=p
 simp only [Dq] at h
 refine KD h (fun _=>A1 _ _ _) fun x53 h=>?_
 refine AH h (fun h=>?_) fun h=>?_
 ·refine KD h (fun _=>Q8 _ _ _) fun x58 h=>?_
  conv=>whnf
  refine ⟨⟨by decide +kernel,by kernel_rfl⟩,?_⟩
  refine AF (f:=Ad) h fun x66 _ h=>?_
  refine AF (f:=Ac) h fun x69 _ h=>?_
  conv=>whnf
  obtain ⟨x73,hx73,h⟩:=A7 h
  first | refine Cv (A1 _ _ _ hx73) ?_ | (simp only [List.length_map]; refine Cv (A1 _ _ _ hx73) ?_)
  conv=>whnf
  obtain rfl:=Option.some.inj h
  refine ⟨by first | rfl | (simp only [List.length_map]; rfl) | (simp only [Aw,A8,AX,Bm,Aj,List.map_cons,List.map_nil,List.length_map]; rfl),?_⟩
  conv=>whnf
  exact ⟨Pl⟩
 conv=>whnf
 refine KI h BU (fun e6 h=>?_) (fun e6 h=>?_)
 ·conv=>whnf
  refine Ld BU e6 ?_
  conv=>whnf
  obtain ⟨x80,hx80,h⟩:=A7 h
  refine Cv (Dn _ _ _ hx80) ?_
  conv=>whnf
  refine ⟨⟨by decide +kernel,by kernel_rfl⟩,?_⟩
  refine AF (f:=Ad) h fun x84 hx84 h=>?_
  conv=>whnf
  obtain ⟨x88,hx88,h⟩:=A7 h
  refine Cv (Be _ _ _ _ hx88) ?_
  conv=>whnf
  obtain ⟨x94,hx94,h⟩:=A7 h
  refine Cv (A1 _ _ _ hx94) ?_
  conv=>whnf
  obtain rfl:=Option.some.inj h
  refine ⟨by first | rfl | (simp only [List.length_map]; rfl) | (simp only [Aw,A8,AX,Bm,Aj,List.map_cons,List.map_nil,List.length_map]; rfl),?_⟩
  conv=>whnf
  exact ⟨Pl⟩
 refine AH h (fun h=>?_) fun h=>?_
 ·conv=>whnf
  obtain ⟨x80,hx80,h⟩:=A7 h
  refine Cv (Dn _ _ _ hx80) ?_
  conv=>whnf
  refine ⟨⟨by decide +kernel,by kernel_rfl⟩,?_⟩
  refine AF (f:=Ad) h fun x84 hx84 h=>?_
  conv=>whnf
  obtain ⟨x88,hx88,h⟩:=A7 h
  refine Cv (Be _ _ _ _ hx88) ?_
  conv=>whnf
  obtain ⟨x94,hx94,h⟩:=A7 h
  refine Cv (A1 _ _ _ hx94) ?_
  conv=>whnf
  obtain rfl:=Option.some.inj h
  refine ⟨by first | rfl | (simp only [List.length_map]; rfl) | (simp only [Aw,A8,AX,Bm,Aj,List.map_cons,List.map_nil,List.length_map]; rfl),?_⟩
  conv=>whnf
  exact ⟨Pl⟩
 refine AH h (fun h=>?_) fun h=>?_
 ·refine KD h (fun _=>Dn _ _ _) fun x101 h=>?_
  refine AF (f:=Ad) h fun x105 _ h=>?_
  refine AH h (fun h=>?_) fun h=>?_
  ·conv=>whnf
   obtain rfl:=Option.some.inj h
   refine ⟨by first | rfl | (simp only [List.length_map]; rfl) | (simp only [Aw,A8,AX,Bm,Aj,List.map_cons,List.map_nil,List.length_map]; rfl),?_⟩
   conv=>whnf
   exact ⟨Pl⟩
  conv=>whnf
  obtain rfl:=Option.some.inj h
  refine ⟨by first | rfl | (simp only [List.length_map]; rfl) | (simp only [Aw,A8,AX,Bm,Aj,List.map_cons,List.map_nil,List.length_map]; rfl),?_⟩
  conv=>whnf
  exact ⟨Pl⟩
 conv=>whnf
 obtain rfl:=Option.some.inj h
 refine ⟨by first | rfl | (simp only [List.length_map]; rfl) | (simp only [Aw,A8,AX,Bm,Aj,List.map_cons,List.map_nil,List.length_map]; rfl),?_⟩
 conv=>whnf
 exact ⟨Pl⟩
theorem L0:∀ d:Nat,(∀ (p0:Ab) (p1:Aa) (p2:Int) (R:(Ag × Ab)) ,Cs d p0 p1 p2 = some R→Ec Tryz.prog 18 [.optr [(Aj 1 (D.int .u8) p0.f_l),(.int .i64 p0.f_at)],.d (Ai p1),.d (.int .i64 p2)] [.optr [(Aj 1 (D.int .u8) R.2.f_l),(.int .i64 R.2.f_at)],.any,.any] (.d (Aw R.1)))
 | 0=>by
  refine (by intros; rename_i h; cases h)
 | d + 1=>by
  have ih:=L0 d
  exact QF d _ ih
theorem G8 (d:Nat):∀ (p0:Ab) (p1:Aa) (p2:Int) (R:(Ag × Ab)) ,Cs d p0 p1 p2 = some R→Ec Tryz.prog 18 [.optr [(Aj 1 (D.int .u8) p0.f_l),(.int .i64 p0.f_at)],.d (Ai p1),.d (.int .i64 p2)] [.optr [(Aj 1 (D.int .u8) R.2.f_l),(.int .i64 R.2.f_at)],.any,.any] (.d (Aw R.1)):=L0 d
theorem Qs (p0:Ab) (p1:Aa) (p2:Int) (R:((List Int) × Ab)) (h:Fo p0 p1 p2 = some R):Ec Tryz.prog 165 [.optr [(Aj 1 (D.int .u8) p0.f_l),(.int .i64 p0.f_at)],.d (Ai p1),.d (.int .i64 p2)] [.optr [(Aj 1 (D.int .u8) R.2.f_l),(.int .i64 R.2.f_at)],.any,.any] (.d (Aj 1 (D.int .i64) R.1)):=by
 refine LG Tryz.func165 (by kernel_rfl) rfl ?_ ?_
 ·intro i x y hx hy
  match i,hx,hy with
  | 0,hx,hy=>simp at hx hy; subst hx; subst hy; exact ⟨_,rfl,rfl⟩
  | 1,hx,hy=>simp at hx hy; subst hx; subst hy; trivial
  | 2,hx,hy=>simp at hx hy; subst hx; subst hy; trivial
  | i + 3,hx,hy=>simp at hx
 unfold Fo at h
 refine A3 h (fun _=>ID _ _ _) fun x11 h=>?_
 obtain ⟨P1,i1,h⟩:=Az h
 refine loop {p:Nat × (Int × Ab × (List Int)) // P1 p.1 p.2 = some R} (fun p=>B5 41 [(0,.ptr 0 0 0),(2,.d (.int .i64 p2)),(7,.sl 7 1),(8,.d (Aj 1 (D.int .i64) x11)),(13,.d (.int .i64 ((x11.length:Nat):Int))),(14,.d (.int .i64 p.1.2.1))] [(0,.var [.d (Aj 1 (D.int .u8) p.1.2.2.1.f_l),.d (.int .i64 p.1.2.2.1.f_at)],0),(7,.row 1 3 (List.map (D.int .i64) p.1.2.2.2),1)]) (fun p=>p.1.1) ⟨(_,(_,_,_)),h⟩ ?_ fun p=>?_
 ·exact Ah
 obtain ⟨⟨k1,⟨v14_1,w0_1,b7_1⟩⟩,h⟩:=p
 obtain ⟨k1,rfl,h⟩:=i1 _ _ h
 simp only [Fc] at h
 refine AH h (fun h=>?_) fun h=>?_
 ·refine AF (f:=(D.int .i64)) h fun x19 _ h=>?_
  refine AH h (fun h=>?_) fun h=>?_
  ·refine AH h (fun h=>?_) fun h=>?_
   ·refine AF (f:=(D.int .i64)) h fun x35 hx35 h=>?_
    conv=>whnf
    obtain ⟨hr,h⟩:=CS h
    refine ⟨by (simp only [List.length_map]; exact AE hr (of_decide_eq_true (by kernel_rfl)) (.inr (by kernel_rfl))),?_⟩
    try rw [G9]
    conv=>whnf
    exact B1 ⟨(_,(_,_,_)),h⟩ Ah
   refine KD h (fun _=>Cu _ _ _) fun x29 h=>?_
   refine AH h (fun h=>?_) fun h=>?_
   ·refine AF (f:=(D.int .i64)) h fun x35 hx35 h=>?_
    conv=>whnf
    obtain ⟨hr,h⟩:=CS h
    refine ⟨by (simp only [List.length_map]; exact AE hr (of_decide_eq_true (by kernel_rfl)) (.inr (by kernel_rfl))),?_⟩
    try rw [G9]
    conv=>whnf
    exact B1 ⟨(_,(_,_,_)),h⟩ Ah
   conv=>whnf
   exact B1 ⟨(_,(_,_,_)),h⟩ Ah
  exact B1 ⟨(_,(_,_,_)),h⟩ Ah
 conv=>whnf
 obtain rfl:=Option.some.inj h
 refine ⟨by first | rfl | (simp only [List.length_map]; rfl),?_⟩
 conv=>whnf
 refine ⟨.inl ?_⟩
 conv=>whnf
 exact ⟨HO⟩
theorem GC (p0:Ab) (p1:Aa) (R:((List Ae) × Ab)) (h:CK p0 p1 = some R):Ec Tryz.prog 166 [.optr [(Aj 1 (D.int .u8) p0.f_l),(.int .i64 p0.f_at)],.d (Ai p1)] [.optr [(Aj 1 (D.int .u8) R.2.f_l),(.int .i64 R.2.f_at)],.any] (.d (Aj 2 Af R.1)):=by
 refine LG Tryz.func166 (by kernel_rfl) rfl ?_ ?_
 ·intro i x y hx hy
  match i,hx,hy with
  | 0,hx,hy=>simp at hx hy; subst hx; subst hy; exact ⟨_,rfl,rfl⟩
  | 1,hx,hy=>simp at hx hy; subst hx; subst hy; trivial
  | i + 2,hx,hy=>simp at hx
 unfold CK at h
 refine A3 h (fun _=>ID _ _ _) fun x9 h=>?_
 refine KD h (fun _=>Cu _ _ _) fun x11 h=>?_
 refine AH h (fun h=>?_) fun h=>?_
 ·conv=>whnf
  obtain ⟨x16,hx16,h⟩:=A7 h
  first | refine Cv (A1 _ _ _ hx16) ?_ | (simp only [List.length_map]; refine Cv (A1 _ _ _ hx16) ?_)
  conv=>whnf
  obtain ⟨hr,h⟩:=CS h
  refine ⟨by first | exact of_decide_eq_true hr | (simp only [List.length_map]; exact of_decide_eq_true hr),?_⟩
  try simp only [List.length_map]
  rw [SC]
  obtain ⟨P1,i1,h⟩:=Az h
  refine loop {p:Nat × (Int × Ab × (List Ae)) // P1 p.1 p.2 = some R} (fun p=>B5 42 [(0,.ptr 0 0 0),(3,.ptr 3 1 0),(5,.sl 5 1),(6,.d (Aj 1 (D.int .i64) (Mw x9 x16.1 ((x9.length:Nat):Int)))),(19,.d (.int .i64 (((Mw x9 x16.1 ((x9.length:Nat):Int)).length:Nat):Int))),(20,.d (.int .i64 p.1.2.1))] [(0,.var [.d (Aj 1 (D.int .u8) p.1.2.2.1.f_l),.d (.int .i64 p.1.2.2.1.f_at)],0),(3,.var [.d (Aj 2 Ac p1.Lists),.d (Aj 7 Ad p1.Columns)],1),(5,.row 2 43 (List.map Af p.1.2.2.2),1)]) (fun p=>p.1.1) ⟨(_,(_,_,_)),h⟩ ?_ fun p=>?_
  ·exact Ah
  obtain ⟨⟨k1,⟨v20_1,w0_1,b5_1⟩⟩,h⟩:=p
  obtain ⟨k1,rfl,h⟩:=i1 _ _ h
  simp only [FJ] at h
  refine AH h (fun h=>?_) fun h=>?_
  ·conv=>whnf
   refine ⟨⟨by decide +kernel,by kernel_rfl⟩,?_⟩
   refine AF (f:=(D.int .i64)) h fun x26 hx26 h=>?_
   refine AF (f:=(D.int .i64)) h fun x32 hx32 h=>?_
   conv=>whnf
   obtain ⟨x34,hx34,h⟩:=A7 h
   refine AD (BX _ _ _ hx34) ?_
   conv=>whnf
   obtain ⟨x36,hx36,h⟩:=A7 h
   refine Cv (A1 _ _ _ hx36) ?_
   conv=>whnf
   obtain ⟨hr,h⟩:=CS h
   refine ⟨by (simp only [List.length_map]; exact AE hr (of_decide_eq_true (by kernel_rfl)) (.inr (by kernel_rfl))),?_⟩
   try rw [CZ]
   conv=>whnf
   exact B1 ⟨(_,(_,_,_)),h⟩ Ah
  conv=>whnf
  obtain rfl:=Option.some.inj h
  refine ⟨by first | rfl | (simp only [List.length_map]; rfl),?_⟩
  conv=>whnf
  refine ⟨.inl ?_⟩
  conv=>whnf
  exact ⟨HO⟩
 obtain ⟨P2,i2,h⟩:=Az h
 refine loop {p:Nat × (Int × Ab × (List Ae)) // P2 p.1 p.2 = some R} (fun p=>B5 42 [(0,.ptr 0 0 0),(3,.ptr 3 1 0),(5,.sl 5 1),(6,.d (Aj 1 (D.int .i64) x9)),(19,.d (.int .i64 ((x9.length:Nat):Int))),(20,.d (.int .i64 p.1.2.1))] [(0,.var [.d (Aj 1 (D.int .u8) p.1.2.2.1.f_l),.d (.int .i64 p.1.2.2.1.f_at)],0),(3,.var [.d (Aj 2 Ac p1.Lists),.d (Aj 7 Ad p1.Columns)],1),(5,.row 2 43 (List.map Af p.1.2.2.2),1)]) (fun p=>p.1.1) ⟨(_,(_,_,_)),h⟩ ?_ fun p=>?_
 ·exact Ah
 obtain ⟨⟨k2,⟨v20_2,w0_2,b5_2⟩⟩,h⟩:=p
 obtain ⟨k2,rfl,h⟩:=i2 _ _ h
 simp only [z6] at h
 refine AH h (fun h=>?_) fun h=>?_
 ·conv=>whnf
  refine ⟨⟨by decide +kernel,by kernel_rfl⟩,?_⟩
  refine AF (f:=(D.int .i64)) h fun x26 hx26 h=>?_
  refine AF (f:=(D.int .i64)) h fun x32 hx32 h=>?_
  conv=>whnf
  obtain ⟨x34,hx34,h⟩:=A7 h
  refine AD (BX _ _ _ hx34) ?_
  conv=>whnf
  obtain ⟨x36,hx36,h⟩:=A7 h
  refine Cv (A1 _ _ _ hx36) ?_
  conv=>whnf
  obtain ⟨hr,h⟩:=CS h
  refine ⟨by (simp only [List.length_map]; exact AE hr (of_decide_eq_true (by kernel_rfl)) (.inr (by kernel_rfl))),?_⟩
  try rw [CZ]
  conv=>whnf
  exact B1 ⟨(_,(_,_,_)),h⟩ Ah
 conv=>whnf
 obtain rfl:=Option.some.inj h
 refine ⟨by first | rfl | (simp only [List.length_map]; rfl),?_⟩
 conv=>whnf
 refine ⟨.inl ?_⟩
 conv=>whnf
 exact ⟨HO⟩
theorem J9 (d:Nat) (p0:Ab) (p1:Aa) (p2:ByteArray) (R:(AG × Ab)) (h:Dd d p0 p1 p2 = some R):Ec Tryz.prog 100 [.optr [(Aj 1 (D.int .u8) p0.f_l),(.int .i64 p0.f_at)],.d (Ai p1),.d (.str p2)] [.optr [(Aj 1 (D.int .u8) R.2.f_l),(.int .i64 R.2.f_at)],.any,.any] (.d (AY R.1)):=by
 refine LG Tryz.func100 (by kernel_rfl) rfl ?_ ?_
 ·intro i x y hx hy
  match i,hx,hy with
  | 0,hx,hy=>simp at hx hy; subst hx; subst hy; exact ⟨_,rfl,rfl⟩
  | 1,hx,hy=>simp at hx hy; subst hx; subst hy; trivial
  | 2,hx,hy=>simp at hx hy; subst hx; subst hy; trivial
  | i + 3,hx,hy=>simp at hx
 unfold Dd at h
 conv=>whnf
 refine ⟨⟨by decide +kernel,by kernel_rfl⟩,?_⟩
 refine KD h (fun _=>A1 _ _ _) fun x14 h=>?_
 refine KD h (fun _=>G8 _ _ _ _ _) fun x15 h=>?_
 refine KD h (fun _=>Dn _ _ _) fun x19 h=>?_
 refine KD h (fun _=>A1 _ _ _) fun x21 h=>?_
 refine AH h (fun h=>?_) fun h=>?_
 ·conv=>whnf
  obtain ⟨x60,hx60,h⟩:=A7 h
  refine Cv (GC _ _ _ hx60) ?_
  conv=>whnf
  obtain rfl:=Option.some.inj h
  refine ⟨by first | rfl | (simp only [List.length_map]; rfl),?_⟩
  conv=>whnf
  exact ⟨HO⟩
 refine AH h (fun h=>?_) fun h=>?_
 ·refine KD h (fun _=>Qs _ _ _ _) fun x31 h=>?_
  refine AH h (fun h=>?_) fun h=>?_
  ·conv=>whnf
   obtain rfl:=Option.some.inj h
   refine ⟨by first | rfl | (simp only [List.length_map]; rfl),?_⟩
   conv=>whnf
   exact ⟨HO⟩
  conv=>whnf
  obtain ⟨x60,hx60,h⟩:=A7 h
  refine Cv (GC _ _ _ hx60) ?_
  conv=>whnf
  obtain rfl:=Option.some.inj h
  refine ⟨by first | rfl | (simp only [List.length_map]; rfl),?_⟩
  conv=>whnf
  exact ⟨HO⟩
 refine AH h (fun h=>?_) fun h=>?_
 ·refine AF (f:=Ad) h fun x46 _ h=>?_
  refine AH h (fun h=>?_) fun h=>?_
  ·refine KD h (fun _=>G8 _ _ _ _ _) fun x53 h=>?_
   conv=>whnf
   obtain rfl:=Option.some.inj h
   refine ⟨by first | rfl | (simp only [List.length_map]; rfl),?_⟩
   conv=>whnf
   exact ⟨HO⟩
  conv=>whnf
  obtain ⟨x60,hx60,h⟩:=A7 h
  refine Cv (GC _ _ _ hx60) ?_
  conv=>whnf
  obtain rfl:=Option.some.inj h
  refine ⟨by first | rfl | (simp only [List.length_map]; rfl),?_⟩
  conv=>whnf
  exact ⟨HO⟩
 conv=>whnf
 obtain ⟨x60,hx60,h⟩:=A7 h
 refine Cv (GC _ _ _ hx60) ?_
 conv=>whnf
 obtain rfl:=Option.some.inj h
 refine ⟨by first | rfl | (simp only [List.length_map]; rfl),?_⟩
 conv=>whnf
 exact ⟨HO⟩
end Go.Proofs.YtejfnieiaecpkaaGreatDoor.P
