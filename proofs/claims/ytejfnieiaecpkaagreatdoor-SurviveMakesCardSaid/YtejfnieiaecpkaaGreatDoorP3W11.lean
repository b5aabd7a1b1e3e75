/- P3W11 -/
import Derived.Test.YtejfnieiaecpkaaGreatDoorP3W8
import Derived.Test.YtejfnieiaecpkaaGreatDoorP3W10
set_option linter.unusedSimpArgs false
namespace Go.Proofs.YtejfnieiaecpkaaGreatDoor.P
open Go.Abs Go.Proofs
set_option maxRecDepth 100000
set_option maxHeartbeats 4000000
set_option linter.unusedVariables false
theorem MS (d:Nat) (p0:Ab) (p1:Aa) (R:(Az × Ab)) (h:Dg d p0 p1 = some R):Ej Tryz.prog 48 [.optr [(Al 1 (D.int .u8) p0.f_l),(.int .i64 p0.f_at)],.d (Ai p1)] [.optr [(Al 1 (D.int .u8) R.2.f_l),(.int .i64 R.2.f_at)],.any] (.d (Dr R.1)):=by
 refine Xt [4] Tryz.func48 (by kernel_rfl) rfl ?_ ?_
 ·intro i x y hx hy
  match i,hx,hy with
  | 0,hx,hy=>simp at hx hy; subst hx; subst hy; exact ⟨_,rfl,rfl⟩
  | 1,hx,hy=>simp at hx hy; subst hx; subst hy; trivial
  | i + 2,hx,hy=>simp at hx
 unfold Dg at h
 conv=>whnf
 refine z11 ?_
 refine KP h (fun _=>A1 _ _ _) fun x8 h=>?_
 refine A7 h (fun _=>CN _ _) fun x9 h=>?_
 conv=>whnf
 obtain ⟨hr,h⟩:=Eg h
 refine z10 ?_
 refine KP h (fun _=>Ff _ _ _ _ _) fun x13 h=>?_
 refine KP h (fun _=>A1 _ _ _) fun x15 h=>?_
 refine F0 {p:(Ab × Int × Int × Int × Int × Int × (List Af)) // BZ d p1 x9 x15 p.1 p.2.1 p.2.2.1 p.2.2.2.1 p.2.2.2.2.1 p.2.2.2.2.2.1 p.2.2.2.2.2.2 = some R} (fun p=>B8 53 [(0,.ptr 0 0 0),(3,.ptr 3 1 0),(4,.ptr 4 1 0),(5,.ptr 5 1 0)] [(0,.var [.d (Al 1 (D.int .u8) p.1.1.f_l),.d (.int .i64 p.1.1.f_at)],0),(3,.var [.d (Al 2 Ac p1.Lists),.d (Al 7 Ad p1.Columns)],1),(4,.var [.d (.str ByteArray.empty),.d (.str ByteArray.empty),.d (.int .i64 0),.d (.int .i64 0),.d (.int .i64 0),.d (.int .i64 0),.d (.int .i64 0),.d (.nil 6),.d (.int .i64 0),.d (.int .i64 0),.d (.int .i64 0),.d (.nil 17)],1),(5,.var [.d (.str (({ data:=#[112] }:ByteArray)++x9)),.d (.str ({ data:=#[115,114,99] }:ByteArray)),.d (.int .i64 p.1.2.1),.d (.int .i64 p.1.2.2.1),.d (.int .i64 p.1.2.2.2.1),.d (.int .i64 p.1.2.2.2.2.1),.d (.int .i64 p.1.2.2.2.2.2.1),.d (Al 6 Ao p.1.2.2.2.2.2.2),.d (.int .i64 1),.d (.int .i64 1),.d (.int .i64 x15.1),.d (.nil 17)],1)]) ?_ fun p=>?_
 ·refine KP h (fun _=>C5 _ _ _) fun x19 h=>?_
  refine AW h (fun h=>?_) fun h=>?_
  ·conv=>whnf
   exact ⟨⟨(_,_,_,_,_,_,_),h⟩,Mx⟩
  conv=>whnf
  exact ⟨⟨(_,_,_,_,_,_,_),h⟩,Mx⟩
 obtain ⟨⟨k0_1,k5_2_1,k5_3_1,k5_4_1,k5_5_1,k5_6_1,k5_7_1⟩,h⟩:=p
 simp only [BZ] at h
 refine KP h (fun _=>C5 _ _ _) fun x23 h=>?_
 refine AW h (fun h=>?_) fun h=>?_
 ·refine KP h (fun _=>Bf _ _ _ _) fun x25 h=>?_
  refine KP h (fun _=>Bf _ _ _ _) fun x32 h=>?_
  conv=>whnf
  obtain ⟨x36,hx36,h⟩:=AB h
  refine Cs (Bf _ _ _ _ hx36) ?_
  conv=>whnf
  obtain ⟨P1,i1,h⟩:=A4 h
  refine dC [(5,11,50,132)] {p:Nat × (Int × Ab × (List AG)) // P1 p.1 p.2 = some R} (fun p=>B8 53 [(0,.ptr 0 0 0),(3,.ptr 3 1 0),(4,.ptr 4 1 0),(5,.ptr 5 1 0),(6,.d (.int .i64 p.1.2.1))] [(0,.var [.d (Al 1 (D.int .u8) p.1.2.2.1.f_l),.d (.int .i64 p.1.2.2.1.f_at)],0),(3,.var [.d (Al 2 Ac p1.Lists),.d (Al 7 Ad p1.Columns)],1),(4,.var [.d (.str ByteArray.empty),.d (.str ByteArray.empty),.d (.int .i64 0),.d (.int .i64 0),.d (.int .i64 0),.d (.int .i64 0),.d (.int .i64 0),.d (.nil 6),.d (.int .i64 0),.d (.int .i64 0),.d (.int .i64 0),.d (.nil 17)],1),(5,.var [.d (.str (({ data:=#[112] }:ByteArray)++x9)),.d (.str ({ data:=#[115,114,99] }:ByteArray)),.d (.int .i64 k5_2_1),.d (.int .i64 k5_3_1),.d (.int .i64 k5_4_1),.d (.int .i64 k5_5_1),.d (.int .i64 k5_6_1),.d (Al 6 Ao k5_7_1),.d (.int .i64 x32.1),.d (.int .i64 x25.1),.d (.int .i64 x15.1),.sl 50 1],1),(50,.row 17 132 (List.map AZ p.1.2.2.2),1)]) (fun p=>p.1.1) ⟨(_,(_,_,_)),h⟩ ?_ fun p=>?_
  ·conv=>whnf
   exact jP
  obtain ⟨⟨k1,⟨v6_1,w0_1,b50_1⟩⟩,h⟩:=p
  obtain ⟨k1,rfl,h⟩:=i1 _ _ h
  simp only [EI] at h
  refine AW h (fun h=>?_) fun h=>?_
  ·conv=>whnf
   refine z11 ?_
   conv=>whnf
   obtain ⟨x46,hx46,h⟩:=AB h
   refine Au (CN _ _ hx46) ?_
   conv=>whnf
   obtain ⟨hr,h⟩:=Eg h
   refine z10 ?_
   conv=>whnf
   obtain ⟨x48,hx48,h⟩:=AB h
   refine Cs (JI _ _ _ _ _ hx48) ?_
   conv=>whnf
   obtain ⟨hr,h⟩:=Eg h
   refine z4 ?_
   try rw [OC]
   conv=>whnf
   exact BE ⟨(_,(_,_,_)),h⟩ Mx
  conv=>whnf
  try simp only [Dw,Dx] at h
  (obtain rfl:=Option.some.inj h; refine ⟨by first | rfl | (simp only [List.length_map]; rfl),?_⟩; (conv=>whnf); exact ⟨JJ⟩)
 conv=>whnf
 obtain ⟨x36,hx36,h⟩:=AB h
 refine Cs (Bf _ _ _ _ hx36) ?_
 conv=>whnf
 obtain ⟨P2,i2,h⟩:=A4 h
 refine dC [(5,11,50,132)] {p:Nat × (Int × Ab × (List AG)) // P2 p.1 p.2 = some R} (fun p=>B8 53 [(0,.ptr 0 0 0),(3,.ptr 3 1 0),(4,.ptr 4 1 0),(5,.ptr 5 1 0),(6,.d (.int .i64 p.1.2.1))] [(0,.var [.d (Al 1 (D.int .u8) p.1.2.2.1.f_l),.d (.int .i64 p.1.2.2.1.f_at)],0),(3,.var [.d (Al 2 Ac p1.Lists),.d (Al 7 Ad p1.Columns)],1),(4,.var [.d (.str ByteArray.empty),.d (.str ByteArray.empty),.d (.int .i64 0),.d (.int .i64 0),.d (.int .i64 0),.d (.int .i64 0),.d (.int .i64 0),.d (.nil 6),.d (.int .i64 0),.d (.int .i64 0),.d (.int .i64 0),.d (.nil 17)],1),(5,.var [.d (.str (({ data:=#[112] }:ByteArray)++x9)),.d (.str ({ data:=#[115,114,99] }:ByteArray)),.d (.int .i64 k5_2_1),.d (.int .i64 k5_3_1),.d (.int .i64 k5_4_1),.d (.int .i64 k5_5_1),.d (.int .i64 k5_6_1),.d (Al 6 Ao k5_7_1),.d (.int .i64 1),.d (.int .i64 1),.d (.int .i64 x15.1),.sl 50 1],1),(50,.row 17 132 (List.map AZ p.1.2.2.2),1)]) (fun p=>p.1.1) ⟨(_,(_,_,_)),h⟩ ?_ fun p=>?_
 ·conv=>whnf
  exact jP
 obtain ⟨⟨k2,⟨v6_2,w0_2,b50_2⟩⟩,h⟩:=p
 obtain ⟨k2,rfl,h⟩:=i2 _ _ h
 simp only [EH] at h
 refine AW h (fun h=>?_) fun h=>?_
 ·conv=>whnf
  refine z11 ?_
  conv=>whnf
  obtain ⟨x46,hx46,h⟩:=AB h
  refine Au (CN _ _ hx46) ?_
  conv=>whnf
  obtain ⟨hr,h⟩:=Eg h
  refine z10 ?_
  conv=>whnf
  obtain ⟨x48,hx48,h⟩:=AB h
  refine Cs (JI _ _ _ _ _ hx48) ?_
  conv=>whnf
  obtain ⟨hr,h⟩:=Eg h
  refine z4 ?_
  try rw [OC]
  conv=>whnf
  exact BE ⟨(_,(_,_,_)),h⟩ Mx
 conv=>whnf
 try simp only [Dw,Dx] at h
 (obtain rfl:=Option.some.inj h; refine ⟨by first | rfl | (simp only [List.length_map]; rfl),?_⟩; (conv=>whnf); exact ⟨JJ⟩)
theorem OD (d:Nat) (p0:Ab) (p1:Int) (R:(BC × Az × Aw × Ab)) (h:E1 d p0 p1 = some R):Ej Tryz.prog 17 [.optr [(Al 1 (D.int .u8) p0.f_l),(.int .i64 p0.f_at)],.d (.int .i64 p1)] [.optr [(Al 1 (D.int .u8) R.2.2.2.f_l),(.int .i64 R.2.2.2.f_at)],.any] (.tup [.d (Iv R.1),.d (Dr R.2.1),.d (Ci R.2.2.1)]):=by
 refine LD Tryz.func17 (by kernel_rfl) rfl ?_ ?_
 ·intro i x y hx hy
  match i,hx,hy with
  | 0,hx,hy=>simp at hx hy; subst hx; subst hy; exact ⟨_,rfl,rfl⟩
  | 1,hx,hy=>simp at hx hy; subst hx; subst hy; trivial
  | i + 2,hx,hy=>simp at hx
 unfold E1 at h
 refine KP h (fun _=>KT _ _ _) fun x15 h=>?_
 refine KP h (fun _=>MS _ _ _ _) fun x19 h=>?_
 refine A7 h (fun _=>X1 _ _ _ _) fun x24 h=>?_
 refine KP h (fun _=>C5 _ _ _) fun x28 h=>?_
 refine AW h (fun h=>?_) fun h=>?_
 ·refine A7 h (fun _=>Uz _ _) fun x32 h=>?_
  conv=>whnf
  refine z11 ?_
  conv=>whnf
  obtain ⟨x40,hx40,h⟩:=AB h
  refine Cs (HE _ _ hx40) ?_
  conv=>whnf
  obtain ⟨x41,hx41,h⟩:=AB h
  refine Au (MC _ _ _ _ _ _ hx41) ?_
  conv=>whnf
  refine z11 ?_
  ((conv=>whnf); (obtain rfl:=Option.some.inj h; refine ⟨by first | rfl | (simp only [List.length_map]; rfl),?_⟩; (conv=>whnf); exact ⟨JJ⟩))
 conv=>whnf
 refine z11 ?_
 conv=>whnf
 obtain ⟨x40,hx40,h⟩:=AB h
 refine Cs (HE _ _ hx40) ?_
 conv=>whnf
 obtain ⟨x41,hx41,h⟩:=AB h
 refine Au (MC _ _ _ _ _ _ hx41) ?_
 conv=>whnf
 refine z11 ?_
 ((conv=>whnf); (obtain rfl:=Option.some.inj h; refine ⟨by first | rfl | (simp only [List.length_map]; rfl),?_⟩; (conv=>whnf); exact ⟨JJ⟩))
end Go.Proofs.YtejfnieiaecpkaaGreatDoor.P
