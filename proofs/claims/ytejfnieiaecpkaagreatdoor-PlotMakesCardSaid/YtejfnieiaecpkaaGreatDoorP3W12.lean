/- Printed by wip/tools/mkw.py: walks: draw_Codes_Declaration draw_Codes_Extract -/
import Derived.Test.YtejfnieiaecpkaaGreatDoorChecked
import Derived.Test.YtejfnieiaecpkaaGreatDoorP3F
import Derived.Test.YtejfnieiaecpkaaGreatDoorP3A
import Derived.Test.YtejfnieiaecpkaaGreatDoorP3HW
import Derived.Test.YtejfnieiaecpkaaGreatDoorP3W7
import Derived.Test.YtejfnieiaecpkaaGreatDoorP3W8
import Derived.Test.YtejfnieiaecpkaaGreatDoorP3W11
set_option linter.unusedSimpArgs false
namespace Go.Proofs.YtejfnieiaecpkaaGreatDoor.P
open Go.Abs Go.Proofs
set_option maxRecDepth 100000
set_option maxHeartbeats 4000000
set_option linter.unusedVariables false
theorem MH (d:Nat) (p0:Ab) (p1:Aa) (R:(Ay × Ab)) (h:CY d p0 p1 = some R):Ec Tryz.prog 48 [.optr [(Aj 1 (D.int .u8) p0.f_l),(.int .i64 p0.f_at)],.d (Ai p1)] [.optr [(Aj 1 (D.int .u8) R.2.f_l),(.int .i64 R.2.f_at)],.any] (.d (De R.1)):=by
 refine Wv [4] Tryz.func48 (by kernel_rfl) rfl ?_ ?_
 ·intro i x y hx hy
  match i,hx,hy with
  | 0,hx,hy=>simp at hx hy; subst hx; subst hy; exact ⟨_,rfl,rfl⟩
  | 1,hx,hy=>simp at hx hy; subst hx; subst hy; trivial
  | i + 2,hx,hy=>simp at hx
 unfold CY at h
 conv=>whnf
 refine ⟨⟨by decide +kernel,by kernel_rfl⟩,?_⟩
 refine KD h (fun _=>A1 _ _ _) fun x8 h=>?_
 refine A3 h (fun _=>CD _ _) fun x9 h=>?_
 conv=>whnf
 obtain ⟨hr,h⟩:=CS h
 refine ⟨of_decide_eq_true hr,?_⟩
 refine KD h (fun _=>G8 _ _ _ _ _) fun x13 h=>?_
 refine KD h (fun _=>A1 _ _ _) fun x15 h=>?_
 refine Er {p:(Ab × Int × Int × Int × Int × Int × (List Ag)) // BS d p1 x9 x15 p.1 p.2.1 p.2.2.1 p.2.2.2.1 p.2.2.2.2.1 p.2.2.2.2.2.1 p.2.2.2.2.2.2 = some R} (fun p=>B5 53 [(0,.ptr 0 0 0),(3,.ptr 3 1 0),(4,.ptr 4 1 0),(5,.ptr 5 1 0)] [(0,.var [.d (Aj 1 (D.int .u8) p.1.1.f_l),.d (.int .i64 p.1.1.f_at)],0),(3,.var [.d (Aj 2 Ac p1.Lists),.d (Aj 7 Ad p1.Columns)],1),(4,.var [.d (.str ByteArray.empty),.d (.str ByteArray.empty),.d (.int .i64 0),.d (.int .i64 0),.d (.int .i64 0),.d (.int .i64 0),.d (.int .i64 0),.d (.nil 6),.d (.int .i64 0),.d (.int .i64 0),.d (.int .i64 0),.d (.nil 17)],1),(5,.var [.d (.str (({ data:=#[112] }:ByteArray)++x9)),.d (.str ({ data:=#[115,114,99] }:ByteArray)),.d (.int .i64 p.1.2.1),.d (.int .i64 p.1.2.2.1),.d (.int .i64 p.1.2.2.2.1),.d (.int .i64 p.1.2.2.2.2.1),.d (.int .i64 p.1.2.2.2.2.2.1),.d (Aj 6 An p.1.2.2.2.2.2.2),.d (.int .i64 1),.d (.int .i64 1),.d (.int .i64 x15.1),.d (.nil 17)],1)]) ?_ fun p=>?_
 ·refine KD h (fun _=>Cu _ _ _) fun x19 h=>?_
  refine AH h (fun h=>?_) fun h=>?_
  ·conv=>whnf
   exact ⟨⟨(_,_,_,_,_,_,_),h⟩,Mo⟩
  conv=>whnf
  exact ⟨⟨(_,_,_,_,_,_,_),h⟩,Mo⟩
 obtain ⟨⟨k0_1,k5_2_1,k5_3_1,k5_4_1,k5_5_1,k5_6_1,k5_7_1⟩,h⟩:=p
 simp only [BS] at h
 refine KD h (fun _=>Cu _ _ _) fun x23 h=>?_
 refine AH h (fun h=>?_) fun h=>?_
 ·refine KD h (fun _=>Be _ _ _ _) fun x25 h=>?_
  refine KD h (fun _=>Be _ _ _ _) fun x32 h=>?_
  conv=>whnf
  obtain ⟨x36,hx36,h⟩:=A7 h
  refine Cv (Be _ _ _ _ hx36) ?_
  conv=>whnf
  obtain ⟨P1,i1,h⟩:=Az h
  refine bc [(5,11,50,132)] {p:Nat × (Int × Ab × (List AG)) // P1 p.1 p.2 = some R} (fun p=>B5 53 [(0,.ptr 0 0 0),(3,.ptr 3 1 0),(4,.ptr 4 1 0),(5,.ptr 5 1 0),(6,.d (.int .i64 p.1.2.1))] [(0,.var [.d (Aj 1 (D.int .u8) p.1.2.2.1.f_l),.d (.int .i64 p.1.2.2.1.f_at)],0),(3,.var [.d (Aj 2 Ac p1.Lists),.d (Aj 7 Ad p1.Columns)],1),(4,.var [.d (.str ByteArray.empty),.d (.str ByteArray.empty),.d (.int .i64 0),.d (.int .i64 0),.d (.int .i64 0),.d (.int .i64 0),.d (.int .i64 0),.d (.nil 6),.d (.int .i64 0),.d (.int .i64 0),.d (.int .i64 0),.d (.nil 17)],1),(5,.var [.d (.str (({ data:=#[112] }:ByteArray)++x9)),.d (.str ({ data:=#[115,114,99] }:ByteArray)),.d (.int .i64 k5_2_1),.d (.int .i64 k5_3_1),.d (.int .i64 k5_4_1),.d (.int .i64 k5_5_1),.d (.int .i64 k5_6_1),.d (Aj 6 An k5_7_1),.d (.int .i64 x32.1),.d (.int .i64 x25.1),.d (.int .i64 x15.1),.sl 50 1],1),(50,.row 17 132 (List.map AY p.1.2.2.2),1)]) (fun p=>p.1.1) ⟨(_,(_,_,_)),h⟩ ?_ fun p=>?_
  ·conv=>whnf
   exact fO
  obtain ⟨⟨k1,⟨v6_1,w0_1,b50_1⟩⟩,h⟩:=p
  obtain ⟨k1,rfl,h⟩:=i1 _ _ h
  simp only [Eu] at h
  refine AH h (fun h=>?_) fun h=>?_
  ·conv=>whnf
   refine ⟨⟨by decide +kernel,by kernel_rfl⟩,?_⟩
   conv=>whnf
   obtain ⟨x46,hx46,h⟩:=A7 h
   refine AD (CD _ _ hx46) ?_
   conv=>whnf
   obtain ⟨hr,h⟩:=CS h
   refine ⟨of_decide_eq_true hr,?_⟩
   conv=>whnf
   obtain ⟨x48,hx48,h⟩:=A7 h
   refine Cv (J9 _ _ _ _ _ hx48) ?_
   conv=>whnf
   obtain ⟨hr,h⟩:=CS h
   refine ⟨by (simp only [List.length_map]; exact AE hr (of_decide_eq_true (by kernel_rfl)) (.inr (by kernel_rfl))),?_⟩
   try rw [Pu]
   conv=>whnf
   exact B1 ⟨(_,(_,_,_)),h⟩ Mo
  conv=>whnf
  try simp only [Di,Dj] at h
  obtain rfl:=Option.some.inj h
  refine ⟨by first | rfl | (simp only [List.length_map]; rfl),?_⟩
  conv=>whnf
  exact ⟨HO⟩
 conv=>whnf
 obtain ⟨x36,hx36,h⟩:=A7 h
 refine Cv (Be _ _ _ _ hx36) ?_
 conv=>whnf
 obtain ⟨P2,i2,h⟩:=Az h
 refine bc [(5,11,50,132)] {p:Nat × (Int × Ab × (List AG)) // P2 p.1 p.2 = some R} (fun p=>B5 53 [(0,.ptr 0 0 0),(3,.ptr 3 1 0),(4,.ptr 4 1 0),(5,.ptr 5 1 0),(6,.d (.int .i64 p.1.2.1))] [(0,.var [.d (Aj 1 (D.int .u8) p.1.2.2.1.f_l),.d (.int .i64 p.1.2.2.1.f_at)],0),(3,.var [.d (Aj 2 Ac p1.Lists),.d (Aj 7 Ad p1.Columns)],1),(4,.var [.d (.str ByteArray.empty),.d (.str ByteArray.empty),.d (.int .i64 0),.d (.int .i64 0),.d (.int .i64 0),.d (.int .i64 0),.d (.int .i64 0),.d (.nil 6),.d (.int .i64 0),.d (.int .i64 0),.d (.int .i64 0),.d (.nil 17)],1),(5,.var [.d (.str (({ data:=#[112] }:ByteArray)++x9)),.d (.str ({ data:=#[115,114,99] }:ByteArray)),.d (.int .i64 k5_2_1),.d (.int .i64 k5_3_1),.d (.int .i64 k5_4_1),.d (.int .i64 k5_5_1),.d (.int .i64 k5_6_1),.d (Aj 6 An k5_7_1),.d (.int .i64 1),.d (.int .i64 1),.d (.int .i64 x15.1),.sl 50 1],1),(50,.row 17 132 (List.map AY p.1.2.2.2),1)]) (fun p=>p.1.1) ⟨(_,(_,_,_)),h⟩ ?_ fun p=>?_
 ·conv=>whnf
  exact fO
 obtain ⟨⟨k2,⟨v6_2,w0_2,b50_2⟩⟩,h⟩:=p
 obtain ⟨k2,rfl,h⟩:=i2 _ _ h
 simp only [Es] at h
 refine AH h (fun h=>?_) fun h=>?_
 ·conv=>whnf
  refine ⟨⟨by decide +kernel,by kernel_rfl⟩,?_⟩
  conv=>whnf
  obtain ⟨x46,hx46,h⟩:=A7 h
  refine AD (CD _ _ hx46) ?_
  conv=>whnf
  obtain ⟨hr,h⟩:=CS h
  refine ⟨of_decide_eq_true hr,?_⟩
  conv=>whnf
  obtain ⟨x48,hx48,h⟩:=A7 h
  refine Cv (J9 _ _ _ _ _ hx48) ?_
  conv=>whnf
  obtain ⟨hr,h⟩:=CS h
  refine ⟨by (simp only [List.length_map]; exact AE hr (of_decide_eq_true (by kernel_rfl)) (.inr (by kernel_rfl))),?_⟩
  try rw [Pu]
  conv=>whnf
  exact B1 ⟨(_,(_,_,_)),h⟩ Mo
 conv=>whnf
 try simp only [Di,Dj] at h
 obtain rfl:=Option.some.inj h
 refine ⟨by first | rfl | (simp only [List.length_map]; rfl),?_⟩
 conv=>whnf
 exact ⟨HO⟩
theorem O6 (d:Nat) (p0:Ab) (p1:Int) (R:(B2 × Ay × Au × Ab)) (h:Ej d p0 p1 = some R):Ec Tryz.prog 17 [.optr [(Aj 1 (D.int .u8) p0.f_l),(.int .i64 p0.f_at)],.d (.int .i64 p1)] [.optr [(Aj 1 (D.int .u8) R.2.2.2.f_l),(.int .i64 R.2.2.2.f_at)],.any] (.tup [.d (Ie R.1),.d (De R.2.1),.d (Bh R.2.2.1)]):=by
 refine LG Tryz.func17 (by kernel_rfl) rfl ?_ ?_
 ·intro i x y hx hy
  match i,hx,hy with
  | 0,hx,hy=>simp at hx hy; subst hx; subst hy; exact ⟨_,rfl,rfl⟩
  | 1,hx,hy=>simp at hx hy; subst hx; subst hy; trivial
  | i + 2,hx,hy=>simp at hx
 unfold Ej at h
 refine KD h (fun _=>KR _ _ _) fun x15 h=>?_
 refine KD h (fun _=>MH _ _ _ _) fun x19 h=>?_
 refine A3 h (fun _=>W7 _ _ _ _) fun x24 h=>?_
 refine KD h (fun _=>Cu _ _ _) fun x28 h=>?_
 refine AH h (fun h=>?_) fun h=>?_
 ·refine A3 h (fun _=>UW _ _) fun x32 h=>?_
  conv=>whnf
  refine ⟨⟨by decide +kernel,by kernel_rfl⟩,?_⟩
  conv=>whnf
  obtain ⟨x40,hx40,h⟩:=A7 h
  refine Cv (Hu _ _ hx40) ?_
  conv=>whnf
  obtain ⟨x41,hx41,h⟩:=A7 h
  refine AD (MJ _ _ _ _ _ _ hx41) ?_
  conv=>whnf
  refine ⟨⟨by decide +kernel,by kernel_rfl⟩,?_⟩
  conv=>whnf
  obtain rfl:=Option.some.inj h
  refine ⟨by first | rfl | (simp only [List.length_map]; rfl),?_⟩
  conv=>whnf
  exact ⟨HO⟩
 conv=>whnf
 refine ⟨⟨by decide +kernel,by kernel_rfl⟩,?_⟩
 conv=>whnf
 obtain ⟨x40,hx40,h⟩:=A7 h
 refine Cv (Hu _ _ hx40) ?_
 conv=>whnf
 obtain ⟨x41,hx41,h⟩:=A7 h
 refine AD (MJ _ _ _ _ _ _ hx41) ?_
 conv=>whnf
 refine ⟨⟨by decide +kernel,by kernel_rfl⟩,?_⟩
 conv=>whnf
 obtain rfl:=Option.some.inj h
 refine ⟨by first | rfl | (simp only [List.length_map]; rfl),?_⟩
 conv=>whnf
 exact ⟨HO⟩
end Go.Proofs.YtejfnieiaecpkaaGreatDoor.P
