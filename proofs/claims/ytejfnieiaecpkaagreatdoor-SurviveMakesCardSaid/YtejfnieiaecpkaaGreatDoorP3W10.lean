/- P3W10 -/
import Derived.Test.YtejfnieiaecpkaaGreatDoorP3W7
set_option linter.unusedSimpArgs false
namespace Go.Proofs.YtejfnieiaecpkaaGreatDoor.P
open Go.Abs Go.Proofs
set_option maxRecDepth 100000
set_option maxHeartbeats 4000000
set_option linter.unusedVariables false
theorem V3 (p0:(List Int)) (R:Ab) (h:Ng p0 = some R):Aj Tryz.prog 6 [.d (Al 1 (D.int .u8) p0)] (.optr [(Al 1 (D.int .u8) R.f_l),(.int .i64 R.f_at)]):=by
 refine Ch Tryz.func6 ?_
 unfold Ng at h
 conv=>whnf
 obtain ⟨hr,h⟩:=Eg h
 refine z7 ?_
 try simp only [List.length_map]
 rw [Wd]
 exact A3 h
theorem A1 (p0:Ab) (p1:Int) (R:(Int × Ab)) (h:A6 p0 p1 = some R):Ej Tryz.prog 31 [.optr [(Al 1 (D.int .u8) p0.f_l),(.int .i64 p0.f_at)],.d (.int .i64 p1)] [.optr [(Al 1 (D.int .u8) R.2.f_l),(.int .i64 R.2.f_at)],.any] (.d (.int .i64 R.1)):=by
 refine Xt [3] Tryz.func31 (by kernel_rfl) rfl ?_ ?_
 ·intro i x y hx hy
  match i,hx,hy with
  | 0,hx,hy=>simp at hx hy; subst hx; subst hy; exact ⟨_,rfl,rfl⟩
  | 1,hx,hy=>simp at hx hy; subst hx; subst hy; trivial
  | i + 2,hx,hy=>simp at hx
 unfold A6 at h
 refine F0 {p:Unit // Gd p0 p1 = some R} (fun p=>B8 77 [(0,.ptr 0 0 0),(1,.d (.int .i64 p1))] [(0,.var [.d (Al 1 (D.int .u8) p0.f_l),.d (.int .i64 p0.f_at)],0)]) ?_ fun p=>?_
 ·conv=>whnf
  refine z11 ?_
  refine AW h (fun h=>?_) fun h=>?_
  ·(obtain rfl:=Option.some.inj h; refine ⟨by first | rfl | (simp only [List.length_map]; rfl),?_⟩; (conv=>whnf); exact ⟨JJ⟩)
  refine AW h (fun h=>?_) fun h=>?_
  ·((conv=>whnf); (obtain rfl:=Option.some.inj h; refine ⟨by first | rfl | (simp only [List.length_map]; rfl),?_⟩; (conv=>whnf); exact ⟨JJ⟩))
  exact z52
 obtain ⟨_,h⟩:=p
 simp only [Gd] at h
 conv=>whnf
 refine z11 ?_
 refine AO (f:=(D.int .u8)) h fun x36 _ h=>?_
 conv=>whnf
 refine z11 ?_
 refine AW h (fun h=>?_) fun h=>?_
 ·refine AW h (fun h=>?_) fun h=>?_
  ·conv=>whnf
   refine z11 ?_
   refine AO (f:=(D.int .u8)) h fun x63 _ h=>?_
   conv=>whnf
   obtain ⟨hr,h⟩:=Eg h
   refine z10 ?_
   ((conv=>whnf); (obtain rfl:=Option.some.inj h; refine ⟨by first | rfl | (simp only [List.length_map]; rfl),?_⟩; (conv=>whnf); exact ⟨JJ⟩))
  conv=>whnf
  obtain ⟨hr,h⟩:=Eg h
  refine z10 ?_
  ((conv=>whnf); (obtain rfl:=Option.some.inj h; refine ⟨by first | rfl | (simp only [List.length_map]; rfl),?_⟩; (conv=>whnf); exact ⟨JJ⟩))
 obtain ⟨hr,h⟩:=Eg h
 refine z10 ?_
 ((conv=>whnf); (obtain rfl:=Option.some.inj h; refine ⟨by first | rfl | (simp only [List.length_map]; rfl),?_⟩; (conv=>whnf); exact ⟨JJ⟩))
theorem C5 (p0:Ab) (p1:Int) (R:(Bool × Ab)) (h:Ce p0 p1 = some R):Ej Tryz.prog 50 [.optr [(Al 1 (D.int .u8) p0.f_l),(.int .i64 p0.f_at)],.d (.int .i64 p1)] [.optr [(Al 1 (D.int .u8) R.2.f_l),(.int .i64 R.2.f_at)],.any] (.d (.bool R.1)):=by
 refine LD Tryz.func50 (by kernel_rfl) rfl ?_ ?_
 ·intro i x y hx hy
  match i,hx,hy with
  | 0,hx,hy=>simp at hx hy; subst hx; subst hy; exact ⟨_,rfl,rfl⟩
  | 1,hx,hy=>simp at hx hy; subst hx; subst hy; trivial
  | i + 2,hx,hy=>simp at hx
 unfold Ce at h
 refine KP h (fun _=>A1 _ _ _) fun x7 h=>?_
 ((conv=>whnf); (obtain rfl:=Option.some.inj h; refine ⟨by first | rfl | (simp only [List.length_map]; rfl),?_⟩; (conv=>whnf); exact ⟨JJ⟩))
theorem Bf (p0:Ab) (p1:Int) (p2:Int) (R:(Int × Ab)) (h:AJ p0 p1 p2 = some R):Ej Tryz.prog 52 [.optr [(Al 1 (D.int .u8) p0.f_l),(.int .i64 p0.f_at)],.d (.int .i64 p1),.d (.int .i64 p2)] [.optr [(Al 1 (D.int .u8) R.2.f_l),(.int .i64 R.2.f_at)],.any,.any] (.d (.int .i64 R.1)):=by
 refine LD Tryz.func52 (by kernel_rfl) rfl ?_ ?_
 ·intro i x y hx hy
  match i,hx,hy with
  | 0,hx,hy=>simp at hx hy; subst hx; subst hy; exact ⟨_,rfl,rfl⟩
  | 1,hx,hy=>simp at hx hy; subst hx; subst hy; trivial
  | 2,hx,hy=>simp at hx hy; subst hx; subst hy; trivial
  | i + 3,hx,hy=>simp at hx
 unfold AJ at h
 refine KP h (fun _=>A1 _ _ _) fun x13 h=>?_
 ((conv=>whnf); (obtain rfl:=Option.some.inj h; refine ⟨by first | rfl | (simp only [List.length_map]; rfl),?_⟩; (conv=>whnf); exact ⟨JJ⟩))
theorem M2 (p0:Ab) (p1:ByteArray) (R:(Am × Ab)) (h:ET p0 p1 = some R):Ej Tryz.prog 129 [.optr [(Al 1 (D.int .u8) p0.f_l),(.int .i64 p0.f_at)],.d (.str p1)] [.optr [(Al 1 (D.int .u8) R.2.f_l),(.int .i64 R.2.f_at)],.any] (.d (Ac R.1)):=by
 refine Xt [7] Tryz.func129 (by kernel_rfl) rfl ?_ ?_
 ·intro i x y hx hy
  match i,hx,hy with
  | 0,hx,hy=>simp at hx hy; subst hx; subst hy; exact ⟨_,rfl,rfl⟩
  | 1,hx,hy=>simp at hx hy; subst hx; subst hy; trivial
  | i + 2,hx,hy=>simp at hx
 unfold ET at h
 conv=>whnf
 refine ⟨.inr ?_⟩
 refine KP h (fun _=>Bf _ _ _ _) fun x15 h=>?_
 refine F0 {p:(List Ed) // Ge x15 p1 p = some R} (fun p=>B8 58 [(0,.ptr 0 0 0),(4,.ptr 4 1 0),(5,.ptr 5 1 0),(6,.d (.int .i64 x15.1))] [(0,.var [.d (Al 1 (D.int .u8) x15.2.f_l),.d (.int .i64 x15.2.f_at)],0),(4,.var [.d (.str ByteArray.empty),.d (.nil 2)],1),(5,.var [.d (.str p1),.sl 12 1],1),(12,.row 2 142 (List.map Br p.1),1)]) ?_ fun p=>?_
 ·refine z3 h (fun p=>B8 58 [(0,.ptr 0 0 0),(4,.ptr 4 1 0),(5,.ptr 5 1 0),(6,.d (.int .i64 x15.1)),(7,.d (.int .i64 p.1))] [(0,.var [.d (Al 1 (D.int .u8) x15.2.f_l),.d (.int .i64 x15.2.f_at)],0),(4,.var [.d (.str ByteArray.empty),.d (.nil 2)],1),(5,.var [.d (.str p1),.sl 12 1],1),(12,.row 2 142 (List.map Br p.2),1)]) Ah fun _ _ ⟨v7_1,b12_1⟩ h=>?_
  simp only [Gp] at h
  refine AW h (fun h=>?_) fun h=>?_
  ·conv=>whnf
   refine z11 ?_
   refine A7 h (fun _=>CN _ _) fun x24 h=>?_
   conv=>whnf
   obtain ⟨hr,h⟩:=Eg h
   refine z10 ?_
   conv=>whnf
   obtain ⟨hr,h⟩:=Eg h
   refine z4 ?_
   try rw [Vz]
   exact z15
  conv=>whnf
  exact ⟨⟨_,h⟩,Ah⟩
 obtain ⟨k12_1,h⟩:=p
 simp only [Ge] at h
 refine KP h (fun _=>C5 _ _ _) fun x31 h=>?_
 refine AW h (fun h=>?_) fun h=>?_
 ·((conv=>whnf); (obtain rfl:=Option.some.inj h; refine ⟨by first | rfl | (simp only [List.length_map]; rfl),?_⟩; (conv=>whnf); exact ⟨JJ⟩))
 refine z3 h (fun p=>B8 58 [(0,.ptr 0 0 0),(4,.ptr 4 1 0),(5,.ptr 5 1 0),(6,.d (.int .i64 x15.1)),(8,.d (.int .i64 p.1))] [(0,.var [.d (Al 1 (D.int .u8) p.2.1.f_l),.d (.int .i64 p.2.1.f_at)],0),(4,.var [.d (.str ByteArray.empty),.d (.nil 2)],1),(5,.var [.d (.str p1),.sl 12 1],1),(12,.row 2 142 (List.map Br p.2.2),1)]) Ah fun _ _ ⟨v8_2,w0_2,b12_2⟩ h=>?_
 simp only [Gl] at h
 refine AW h (fun h=>?_) fun h=>?_
 ·refine KP h (fun _=>Bf _ _ _ _) fun x39 h=>?_
  refine z3 h (fun p=>B8 58 [(0,.ptr 0 0 0),(4,.ptr 4 1 0),(5,.ptr 5 1 0),(6,.d (.int .i64 x15.1)),(8,.d (.int .i64 v8_2)),(9,.d (.int .i64 p.1))] [(0,.var [.d (Al 1 (D.int .u8) x39.2.f_l),.d (.int .i64 x39.2.f_at)],0),(4,.var [.d (.str ByteArray.empty),.d (.nil 2)],1),(5,.var [.d (.str p1),.sl 12 1],1),(12,.row 2 142 (List.map Br p.2),1)]) Ah fun _ _ ⟨v9_3,b12_3⟩ h=>?_
  simp only [I0] at h
  refine AW h (fun h=>?_) fun h=>?_
  ·conv=>whnf
   refine z11 ?_
   conv=>whnf
   obtain ⟨x49,hx49,h⟩:=AB h
   first | refine Au (CN _ _ hx49) ?_ | (simp only [List.length_map]; refine Au (CN _ _ hx49) ?_)
   conv=>whnf
   obtain ⟨hr,h⟩:=Eg h
   refine z10 ?_
   conv=>whnf
   obtain ⟨hr,h⟩:=Eg h
   refine z4 ?_
   try rw [Vz]
   exact z15
  exact z18
 ((conv=>whnf); (obtain rfl:=Option.some.inj h; refine ⟨by first | rfl | (simp only [List.length_map]; rfl),?_⟩; (conv=>whnf); exact ⟨JJ⟩))
theorem K5 (p0:Ab) (p1:ByteArray) (R:(Av × Ab)) (h:D4 p0 p1 = some R):Ej Tryz.prog 130 [.optr [(Al 1 (D.int .u8) p0.f_l),(.int .i64 p0.f_at)],.d (.str p1)] [.optr [(Al 1 (D.int .u8) R.2.f_l),(.int .i64 R.2.f_at)],.any] (.d (Ad R.1)):=by
 refine LD Tryz.func130 (by kernel_rfl) rfl ?_ ?_
 ·intro i x y hx hy
  match i,hx,hy with
  | 0,hx,hy=>simp at hx hy; subst hx; subst hy; exact ⟨_,rfl,rfl⟩
  | 1,hx,hy=>simp at hx hy; subst hx; subst hy; trivial
  | i + 2,hx,hy=>simp at hx
 unfold D4 at h
 conv=>whnf
 refine z11 ?_
 refine KP h (fun _=>Bf _ _ _ _) fun x8 h=>?_
 refine KP h (fun _=>A1 _ _ _) fun x15 h=>?_
 refine UT (f:=(Al 1 (D.int .i64))) h Db fun x16 hx16 h=>?_
 refine eO (f:=(Al 1 (D.int .i64))) hx16 Db ?_
 refine KP h (fun _=>C5 _ _ _) fun x19 h=>?_
 conv=>whnf
 refine z11 ?_
 refine KP h (fun _=>A1 _ _ _) fun x24 h=>?_
 ((conv=>whnf); (obtain rfl:=Option.some.inj h; refine ⟨by first | rfl | (simp only [List.length_map]; rfl),?_⟩; (conv=>whnf); exact ⟨JJ⟩))
theorem Qa (p0:Ab) (R:(Aa × Ab)) (h:CG p0 = some R):Ej Tryz.prog 67 [.optr [(Al 1 (D.int .u8) p0.f_l),(.int .i64 p0.f_at)]] [.optr [(Al 1 (D.int .u8) R.2.f_l),(.int .i64 R.2.f_at)]] (.d (Ai R.1)):=by
 refine LD Tryz.func67 (by kernel_rfl) rfl ?_ ?_
 ·intro i x y hx hy
  match i,hx,hy with
  | 0,hx,hy=>simp at hx hy; subst hx; subst hy; exact ⟨_,rfl,rfl⟩
  | i + 1,hx,hy=>simp at hx
 unfold CG at h
 refine KP h (fun _=>M2 _ _ _) fun x6 h=>?_
 refine KP h (fun _=>M2 _ _ _) fun x8 h=>?_
 conv=>whnf
 refine ⟨.inr ?_⟩
 refine KP h (fun _=>C5 _ _ _) fun x15 h=>?_
 refine AW h (fun h=>?_) fun h=>?_
 ·conv=>whnf
  obtain ⟨hr,h⟩:=Eg h
  refine z4 ?_
  try rw [Oh]
  conv=>whnf
  obtain ⟨x23,hx23,h⟩:=AB h
  refine Cs (Bf _ _ _ _ hx23) ?_
  refine z3 h (fun p=>B8 41 [(0,.ptr 0 0 0),(2,.ptr 2 1 0),(3,.ptr 3 1 0),(4,.d (.int .i64 p.1))] [(0,.var [.d (Al 1 (D.int .u8) p.2.1.f_l),.d (.int .i64 p.2.1.f_at)],0),(2,.var [.d (.nil 2),.d (.nil 7)],1),(3,.var [.sl 9 1,.sl 12 1],1),(9,.row 2 93 (List.map Ac [x6.1,x8.1]),1),(12,.row 7 40 (List.map Ad p.2.2),1)]) Ah fun _ _ ⟨v4_1,w0_1,b12_1⟩ h=>?_
  simp only [EY] at h
  refine AW h (fun h=>?_) fun h=>?_
  ·conv=>whnf
   refine z11 ?_
   conv=>whnf
   obtain ⟨x34,hx34,h⟩:=AB h
   first | refine Au (CN _ _ hx34) ?_ | (simp only [List.length_map]; refine Au (CN _ _ hx34) ?_)
   conv=>whnf
   obtain ⟨hr,h⟩:=Eg h
   refine z10 ?_
   conv=>whnf
   obtain ⟨x36,hx36,h⟩:=AB h
   refine Cs (K5 _ _ _ hx36) ?_
   conv=>whnf
   obtain ⟨hr,h⟩:=Eg h
   refine z4 ?_
   try rw [Oh]
   exact z18
  ((conv=>whnf); (obtain rfl:=Option.some.inj h; refine ⟨by first | rfl | (simp only [List.length_map]; rfl),?_⟩; (conv=>whnf); exact ⟨JJ⟩))
 conv=>whnf
 obtain ⟨x23,hx23,h⟩:=AB h
 refine Cs (Bf _ _ _ _ hx23) ?_
 refine z3 h (fun p=>B8 41 [(0,.ptr 0 0 0),(2,.ptr 2 1 0),(3,.ptr 3 1 0),(4,.d (.int .i64 p.1))] [(0,.var [.d (Al 1 (D.int .u8) p.2.1.f_l),.d (.int .i64 p.2.1.f_at)],0),(2,.var [.d (.nil 2),.d (.nil 7)],1),(3,.var [.sl 9 1,.sl 12 1],1),(9,.row 2 93 (List.map Ac [x6.1,x8.1]),1),(12,.row 7 40 (List.map Ad p.2.2),1)]) Ah fun _ _ ⟨v4_2,w0_2,b12_2⟩ h=>?_
 simp only [KD] at h
 refine AW h (fun h=>?_) fun h=>?_
 ·conv=>whnf
  refine z11 ?_
  conv=>whnf
  obtain ⟨x34,hx34,h⟩:=AB h
  first | refine Au (CN _ _ hx34) ?_ | (simp only [List.length_map]; refine Au (CN _ _ hx34) ?_)
  conv=>whnf
  obtain ⟨hr,h⟩:=Eg h
  refine z10 ?_
  conv=>whnf
  obtain ⟨x36,hx36,h⟩:=AB h
  refine Cs (K5 _ _ _ hx36) ?_
  conv=>whnf
  obtain ⟨hr,h⟩:=Eg h
  refine z4 ?_
  try rw [Oh]
  exact z18
 ((conv=>whnf); (obtain rfl:=Option.some.inj h; refine ⟨by first | rfl | (simp only [List.length_map]; rfl),?_⟩; (conv=>whnf); exact ⟨JJ⟩))
theorem Ra (p0:Ab) (p1:Aa) (p2:Int) (R:(Int × Ab)) (h:FA p0 p1 p2 = some R):Ej Tryz.prog 131 [.optr [(Al 1 (D.int .u8) p0.f_l),(.int .i64 p0.f_at)],.d (Ai p1),.d (.int .i64 p2)] [.optr [(Al 1 (D.int .u8) R.2.f_l),(.int .i64 R.2.f_at)],.any,.any] (.d (.int .i64 R.1)):=by
 refine LD Tryz.func131 (by kernel_rfl) rfl ?_ ?_
 ·intro i x y hx hy
  match i,hx,hy with
  | 0,hx,hy=>simp at hx hy; subst hx; subst hy; exact ⟨_,rfl,rfl⟩
  | 1,hx,hy=>simp at hx hy; subst hx; subst hy; trivial
  | 2,hx,hy=>simp at hx hy; subst hx; subst hy; trivial
  | i + 3,hx,hy=>simp at hx
 unfold FA at h
 refine AO (f:=Ad) h fun x12 _ h=>?_
 refine AW h (fun h=>?_) fun h=>?_
 ·refine KP h (fun _=>Bf _ _ _ _) fun x19 h=>?_
  ((conv=>whnf); (obtain rfl:=Option.some.inj h; refine ⟨by first | rfl | (simp only [List.length_map]; rfl),?_⟩; (conv=>whnf); exact ⟨JJ⟩))
 refine AW h (fun h=>?_) fun h=>?_
 ·refine A7 h (fun _=>FG _ _ _) fun x24 h=>?_
  conv=>whnf
  obtain ⟨x29,hx29,h⟩:=AB h
  first | refine Cs (A1 _ _ _ hx29) ?_ | (simp only [List.length_map]; refine Cs (A1 _ _ _ hx29) ?_)
  refine AO (f:=(D.int .i64)) h fun x30 _ h=>?_
  ((conv=>whnf); (obtain rfl:=Option.some.inj h; refine ⟨by first | rfl | (simp only [List.length_map]; rfl),?_⟩; (conv=>whnf); exact ⟨JJ⟩))
 refine AW h (fun h=>?_) fun h=>?_
 ·refine KP h (fun _=>C5 _ _ _) fun x36 h=>?_
  refine AW h (fun h=>?_) fun h=>?_
  ·((conv=>whnf); (obtain rfl:=Option.some.inj h; refine ⟨by first | rfl | (simp only [List.length_map]; rfl),?_⟩; (conv=>whnf); exact ⟨JJ⟩))
  conv=>whnf
  obtain ⟨x43,hx43,h⟩:=AB h
  refine Cs (Bf _ _ _ _ hx43) ?_
  ((conv=>whnf); (obtain rfl:=Option.some.inj h; refine ⟨by first | rfl | (simp only [List.length_map]; rfl),?_⟩; (conv=>whnf); exact ⟨JJ⟩))
 obtain ⟨x43,hx43,h⟩:=AB h
 refine Cs (Bf _ _ _ _ hx43) ?_
 ((conv=>whnf); (obtain rfl:=Option.some.inj h; refine ⟨by first | rfl | (simp only [List.length_map]; rfl),?_⟩; (conv=>whnf); exact ⟨JJ⟩))
theorem Ta (p0:Ab) (p1:Aa) (R:((List Int) × Ab)) (h:Hs p0 p1 = some R):Ej Tryz.prog 69 [.optr [(Al 1 (D.int .u8) p0.f_l),(.int .i64 p0.f_at)],.d (Ai p1)] [.optr [(Al 1 (D.int .u8) R.2.f_l),(.int .i64 R.2.f_at)],.any] (.d (Al 1 (D.int .i64) R.1)):=by
 refine LD Tryz.func69 (by kernel_rfl) rfl ?_ ?_
 ·intro i x y hx hy
  match i,hx,hy with
  | 0,hx,hy=>simp at hx hy; subst hx; subst hy; exact ⟨_,rfl,rfl⟩
  | 1,hx,hy=>simp at hx hy; subst hx; subst hy; trivial
  | i + 2,hx,hy=>simp at hx
 unfold Hs at h
 refine z3 h (fun p=>B8 22 [(0,.ptr 0 0 0),(3,.ptr 3 1 0),(5,.sl 5 1),(9,.d (.int .i64 ((p1.Columns.length:Nat):Int))),(10,.d (.int .i64 p.1))] [(0,.var [.d (Al 1 (D.int .u8) p.2.1.f_l),.d (.int .i64 p.2.1.f_at)],0),(3,.var [.d (Al 2 Ac p1.Lists),.d (Al 7 Ad p1.Columns)],1),(5,.row 1 3 (List.map (D.int .i64) p.2.2),1)]) Ah fun _ _ ⟨v10_1,w0_1,b5_1⟩ h=>?_
 simp only [GW] at h
 refine AW h (fun h=>?_) fun h=>?_
 ·refine KP h (fun _=>Ra _ _ _ _) fun x17 h=>?_
  conv=>whnf
  obtain ⟨hr,h⟩:=Eg h
  refine z4 ?_
  try rw [KU]
  exact z18
 ((conv=>whnf); obtain rfl:=Option.some.inj h; refine ⟨by first | rfl | (simp only [List.length_map]; rfl),?_⟩; exact z49)
theorem KT (p0:Ab) (p1:Int) (R:(BC × Ab)) (h:Ck p0 p1 = some R):Ej Tryz.prog 26 [.optr [(Al 1 (D.int .u8) p0.f_l),(.int .i64 p0.f_at)],.d (.int .i64 p1)] [.optr [(Al 1 (D.int .u8) R.2.f_l),(.int .i64 R.2.f_at)],.any] (.d (Iv R.1)):=by
 refine LD Tryz.func26 (by kernel_rfl) rfl ?_ ?_
 ·intro i x y hx hy
  match i,hx,hy with
  | 0,hx,hy=>simp at hx hy; subst hx; subst hy; exact ⟨_,rfl,rfl⟩
  | 1,hx,hy=>simp at hx hy; subst hx; subst hy; trivial
  | i + 2,hx,hy=>simp at hx
 unfold Ck at h
 refine KP h (fun _=>Qa _ _) fun x9 h=>?_
 refine KP h (fun _=>A1 _ _ _) fun x15 h=>?_
 refine z3 h (fun p=>B8 28 [(0,.ptr 0 0 0),(4,.ptr 4 1 0),(5,.ptr 5 1 0),(6,.ptr 6 1 0),(7,.d (.int .i64 p.1))] [(0,.var [.d (Al 1 (D.int .u8) p.2.1.f_l),.d (.int .i64 p.2.1.f_at)],0),(4,.var [.d (.nil 2),.d (.nil 7),.d (.nil 1),.d (.nil 1),.d (.int .i64 0)],1),(5,.var [.d (Al 2 Ac x9.1.Lists),.d (Al 7 Ad x9.1.Columns)],1),(6,.var [.d (Al 2 Ac x9.1.Lists),.d (Al 7 Ad x9.1.Columns),.d (Al 1 (Al 1 (D.int .i64)) p.2.2),.d (.nil 1),.d (.int .i64 0)],1)]) Ah fun _ _ ⟨v7_1,w0_1,c6_2_1⟩ h=>?_
 simp only [Fo] at h
 refine AW h (fun h=>?_) fun h=>?_
 ·conv=>whnf
  refine z11 ?_
  refine KP h (fun _=>Ta _ _ _) fun x24 h=>?_
  refine A7 h (fun _=>TB _ _ _) fun x25 h=>?_
  exact z18
 ((conv=>whnf); (obtain rfl:=Option.some.inj h; refine ⟨by first | rfl | (simp only [List.length_map]; rfl),?_⟩; (conv=>whnf); exact ⟨JJ⟩))
theorem Uz (p0:Aa) (R:(Az × (List Ae))) (h:MZ p0 = some R):Aj Tryz.prog 27 [.d (Ai p0)] (.tup [.d (Dr R.1),.d (Al 2 Ag R.2)]):=by
 refine Ch Tryz.func27 ?_
 unfold MZ at h
 refine z3 h (fun p=>B8 33 [(1,.ptr 1 1 0),(2,.ptr 2 1 0),(4,.ptr 4 1 0),(5,.sl 5 1),(6,.d (.int .i64 p.1))] [(1,.var [.d (Al 2 Ac p0.Lists),.d (Al 7 Ad p0.Columns)],1),(2,.var [.d (.str ByteArray.empty),.d (.str ByteArray.empty),.d (.int .i64 0),.d (.int .i64 0),.d (.int .i64 0),.d (.int .i64 0),.d (.int .i64 0),.d (.nil 6),.d (.int .i64 0),.d (.int .i64 0),.d (.int .i64 0),.d (.nil 17)],1),(4,.var [.d (.str ({ data:=#[97,108,108,95,114,111,119,115] }:ByteArray)),.d (.str ({ data:=#[115,114,99] }:ByteArray)),.d (.int .i64 1),.d (.int .i64 0),.d (.int .i64 0),.d (.int .i64 0),.d (.int .i64 0),.d (.nil 6),.d (.int .i64 1),.d (.int .i64 1),.d (.int .i64 0),.d (.nil 17)],1),(5,.row 2 43 (List.map Ag p.2),1)]) Ah fun _ _ ⟨v6_1,b5_1⟩ h=>?_
 simp only [M6] at h
 refine AW h (fun h=>?_) fun h=>?_
 ·refine A7 h (fun _=>Cd _ _ _) fun x21 h=>?_
  conv=>whnf
  obtain ⟨hr,h⟩:=Eg h
  refine z4 ?_
  try rw [Dn]
  exact z15
 conv=>whnf
 try simp only [T6] at h
 refine ⟨.inl ?_⟩
 exact z31
theorem HE (p0:Ab) (R:(Int × Ab)) (h:Df p0 = some R):Ej Tryz.prog 29 [.optr [(Al 1 (D.int .u8) p0.f_l),(.int .i64 p0.f_at)]] [.optr [(Al 1 (D.int .u8) R.2.f_l),(.int .i64 R.2.f_at)]] (.d (.int .i64 R.1)):=by
 refine LD Tryz.func29 (by kernel_rfl) rfl ?_ ?_
 ·intro i x y hx hy
  match i,hx,hy with
  | 0,hx,hy=>simp at hx hy; subst hx; subst hy; exact ⟨_,rfl,rfl⟩
  | i + 1,hx,hy=>simp at hx
 unfold Df at h
 refine KP h (fun _=>A1 _ _ _) fun x4 h=>?_
 refine KP h (fun _=>A1 _ _ _) fun x6 h=>?_
 refine KP h (fun _=>A1 _ _ _) fun x9 h=>?_
 ((conv=>whnf); (obtain rfl:=Option.some.inj h; refine ⟨by first | rfl | (simp only [List.length_map]; rfl),?_⟩; (conv=>whnf); exact ⟨JJ⟩))
theorem QW (d:Nat) (p0:Ab) (p1:Int) (R:(BC × Aw × Ab)) (h:FB d p0 p1 = some R):Ej Tryz.prog 7 [.optr [(Al 1 (D.int .u8) p0.f_l),(.int .i64 p0.f_at)],.d (.int .i64 p1)] [.optr [(Al 1 (D.int .u8) R.2.2.f_l),(.int .i64 R.2.2.f_at)],.any] (.tup [.d (Iv R.1),.d (Ci R.2.1)]):=by
 refine LD Tryz.func7 (by kernel_rfl) rfl ?_ ?_
 ·intro i x y hx hy
  match i,hx,hy with
  | 0,hx,hy=>simp at hx hy; subst hx; subst hy; exact ⟨_,rfl,rfl⟩
  | 1,hx,hy=>simp at hx hy; subst hx; subst hy; trivial
  | i + 2,hx,hy=>simp at hx
 unfold FB at h
 refine KP h (fun _=>KT _ _ _) fun x13 h=>?_
 refine A7 h (fun _=>Uz _ _) fun x17 h=>?_
 conv=>whnf
 refine z11 ?_
 refine KP h (fun _=>HE _ _) fun x25 h=>?_
 refine A7 h (fun _=>MC _ _ _ _ _ _) fun x26 h=>?_
 conv=>whnf
 refine z11 ?_
 ((conv=>whnf); (obtain rfl:=Option.some.inj h; refine ⟨by first | rfl | (simp only [List.length_map]; rfl),?_⟩; (conv=>whnf); exact ⟨JJ⟩))
theorem JE (p0:Aa) (p1:Int) (R:(List Int)) (h:DC p0 p1 = some R):Aj Tryz.prog 30 [.d (Ai p0),.d (.int .i64 p1)] (.d (Al 1 (D.int .i64) R)):=by
 refine Ch Tryz.func30 ?_
 unfold DC at h
 refine z3 h (fun p=>B8 27 [(1,.d (.int .i64 p1)),(2,.ptr 2 1 0),(5,.sl 5 1),(9,.d (.int .i64 ((p0.Columns.length:Nat):Int))),(10,.d (.int .i64 p.1))] [(2,.var [.d (Al 2 Ac p0.Lists),.d (Al 7 Ad p0.Columns)],1),(5,.row 1 3 (List.map (D.int .i64) p.2),1)]) Ah fun _ _ ⟨v10_1,b5_1⟩ h=>?_
 simp only [EL] at h
 refine AW h (fun h=>?_) fun h=>?_
 ·refine AO (f:=Ad) h fun x16 _ h=>?_
  refine AW h (fun h=>?_) fun h=>?_
  ·conv=>whnf
   exact z26
  exact z15
 exact z31
theorem D2 (p0:Ab) (p1:Aa) (R:(Int × Ab)) (h:B4 p0 p1 = some R):Ej Tryz.prog 8 [.optr [(Al 1 (D.int .u8) p0.f_l),(.int .i64 p0.f_at)],.d (Ai p1)] [.optr [(Al 1 (D.int .u8) R.2.f_l),(.int .i64 R.2.f_at)],.any] (.d (.int .i64 R.1)):=by
 refine LD Tryz.func8 (by kernel_rfl) rfl ?_ ?_
 ·intro i x y hx hy
  match i,hx,hy with
  | 0,hx,hy=>simp at hx hy; subst hx; subst hy; exact ⟨_,rfl,rfl⟩
  | 1,hx,hy=>simp at hx hy; subst hx; subst hy; trivial
  | i + 2,hx,hy=>simp at hx
 unfold B4 at h
 refine A7 h (fun _=>JE _ _ _) fun x7 h=>?_
 conv=>whnf
 (obtain ⟨x12,hx12,h⟩:=AB h; (first | refine Cs (A1 _ _ _ hx12) ?_ | (simp only [List.length_map]; refine Cs (A1 _ _ _ hx12) ?_)); refine AO (f:=(D.int .i64)) h fun x13 _ h=>?_; ((conv=>whnf); (obtain rfl:=Option.some.inj h; refine ⟨by first | rfl | (simp only [List.length_map]; rfl),?_⟩; (conv=>whnf); exact ⟨JJ⟩)))
theorem V8 (p0:Int) (p1:Int) (R:Int) (h:Np p0 p1 = some R):Aj Tryz.prog 9 [.d (.int .i64 p0),.d (.int .i64 p1)] (.d (.int .i64 R)):=by
 refine Ch Tryz.func9 ?_
 unfold Np at h
 refine An h fun h=>?_
 exact z37
theorem QK (p0:Ab) (p1:Aa) (R:(Int × Ab)) (h:FE p0 p1 = some R):Ej Tryz.prog 51 [.optr [(Al 1 (D.int .u8) p0.f_l),(.int .i64 p0.f_at)],.d (Ai p1)] [.optr [(Al 1 (D.int .u8) R.2.f_l),(.int .i64 R.2.f_at)],.any] (.d (.int .i64 R.1)):=by
 refine LD Tryz.func51 (by kernel_rfl) rfl ?_ ?_
 ·intro i x y hx hy
  match i,hx,hy with
  | 0,hx,hy=>simp at hx hy; subst hx; subst hy; exact ⟨_,rfl,rfl⟩
  | 1,hx,hy=>simp at hx hy; subst hx; subst hy; trivial
  | i + 2,hx,hy=>simp at hx
 unfold FE at h
 refine A7 h (fun _=>JE _ _ _) fun x7 h=>?_
 conv=>whnf
 (obtain ⟨x12,hx12,h⟩:=AB h; (first | refine Cs (A1 _ _ _ hx12) ?_ | (simp only [List.length_map]; refine Cs (A1 _ _ _ hx12) ?_)); refine AO (f:=(D.int .i64)) h fun x13 _ h=>?_; ((conv=>whnf); (obtain rfl:=Option.some.inj h; refine ⟨by first | rfl | (simp only [List.length_map]; rfl),?_⟩; (conv=>whnf); exact ⟨JJ⟩)))
theorem QU (d:Nat) (self_draw_Codes_Cond:(Ab→Aa→Int→Option (Af × Ab))) (ih_draw_Codes_Cond:∀ (p0:Ab) (p1:Aa) (p2:Int) (R:(Af × Ab)) ,self_draw_Codes_Cond p0 p1 p2 = some R→Ej Tryz.prog 18 [.optr [(Al 1 (D.int .u8) p0.f_l),(.int .i64 p0.f_at)],.d (Ai p1),.d (.int .i64 p2)] [.optr [(Al 1 (D.int .u8) R.2.f_l),(.int .i64 R.2.f_at)],.any,.any] (.d (Ax R.1))) (p0:Ab) (p1:Aa) (p2:Int) (R:(Af × Ab)) (h:Dj d self_draw_Codes_Cond p0 p1 p2 = some R):Ej Tryz.prog 18 [.optr [(Al 1 (D.int .u8) p0.f_l),(.int .i64 p0.f_at)],.d (Ai p1),.d (.int .i64 p2)] [.optr [(Al 1 (D.int .u8) R.2.f_l),(.int .i64 R.2.f_at)],.any,.any] (.d (Ax R.1)):=by
 refine Xt [9] Tryz.func18 (by kernel_rfl) rfl ?_ ?_
 ·intro i x y hx hy
  match i,hx,hy with
  | 0,hx,hy=>simp at hx hy; subst hx; subst hy; exact ⟨_,rfl,rfl⟩
  | 1,hx,hy=>simp at hx hy; subst hx; subst hy; trivial
  | 2,hx,hy=>simp at hx hy; subst hx; subst hy; trivial
  | i + 3,hx,hy=>simp at hx
 unfold Dj at h
 refine F0 {p:Ab // D5 p1 p = some R} (fun p=>B8 111 [(0,.ptr 0 0 0),(4,.ptr 4 1 0),(6,.ptr 6 1 0)] [(0,.var [.d (Al 1 (D.int .u8) p.1.f_l),.d (.int .i64 p.1.f_at)],0),(4,.var [.d (Al 2 Ac p1.Lists),.d (Al 7 Ad p1.Columns)],1),(6,.var [.d (.int .i64 0),.d (.int .i64 0),.d (.int .i64 0),.d (.int .i64 0),.d (.int .i64 0),.d (.nil 6)],1)]) ?_ fun p=>?_
 ·refine AW h (fun h=>?_) fun h=>?_
  ·refine KP h (fun _=>A1 _ _ _) fun x14 h=>?_
   refine AW h (fun h=>?_) fun h=>?_
   ·conv=>whnf
    obtain ⟨x21,hx21,h⟩:=AB h
    first | refine Cs (ih_draw_Codes_Cond _ _ _ _ hx21) ?_ | (simp only [List.length_map]; refine Cs (ih_draw_Codes_Cond _ _ _ _ hx21) ?_)
    conv=>whnf
    refine ⟨.inl ?_⟩
    conv=>whnf
    (obtain rfl:=Option.some.inj h; refine ⟨by first | rfl | (simp only [List.length_map]; rfl) | (simp only [Ax,A9,Bb,Bp,Al,List.map_cons,List.map_nil,List.length_map]; rfl),?_⟩; (conv=>whnf); exact ⟨PZ⟩)
   refine AW h (fun h=>?_) fun h=>?_
   ·conv=>whnf
    refine z11 ?_
    conv=>whnf
    obtain ⟨x30,hx30,h⟩:=AB h
    first | refine Cs (ih_draw_Codes_Cond _ _ _ _ hx30) ?_ | (simp only [List.length_map]; refine Cs (ih_draw_Codes_Cond _ _ _ _ hx30) ?_)
    conv=>whnf
    obtain ⟨x35,hx35,h⟩:=AB h
    first | refine Cs (ih_draw_Codes_Cond _ _ _ _ hx35) ?_ | (simp only [List.length_map]; refine Cs (ih_draw_Codes_Cond _ _ _ _ hx35) ?_)
    conv=>whnf
    refine ⟨.inl ?_⟩
    conv=>whnf
    (obtain rfl:=Option.some.inj h; refine ⟨by first | rfl | (simp only [List.length_map]; rfl) | (simp only [Ax,A9,Bb,Bp,Al,List.map_cons,List.map_nil,List.length_map]; rfl),?_⟩; (conv=>whnf); exact ⟨PZ⟩)
   refine AW h (fun h=>?_) fun h=>?_
   ·conv=>whnf
    refine z11 ?_
    conv=>whnf
    obtain ⟨x44,hx44,h⟩:=AB h
    first | refine Cs (ih_draw_Codes_Cond _ _ _ _ hx44) ?_ | (simp only [List.length_map]; refine Cs (ih_draw_Codes_Cond _ _ _ _ hx44) ?_)
    conv=>whnf
    obtain ⟨x49,hx49,h⟩:=AB h
    first | refine Cs (ih_draw_Codes_Cond _ _ _ _ hx49) ?_ | (simp only [List.length_map]; refine Cs (ih_draw_Codes_Cond _ _ _ _ hx49) ?_)
    conv=>whnf
    refine ⟨.inl ?_⟩
    conv=>whnf
    (obtain rfl:=Option.some.inj h; refine ⟨by first | rfl | (simp only [List.length_map]; rfl) | (simp only [Ax,A9,Bb,Bp,Al,List.map_cons,List.map_nil,List.length_map]; rfl),?_⟩; (conv=>whnf); exact ⟨PZ⟩)
   exact z17
  exact z17
 obtain ⟨k0_1,h⟩:=p
 simp only [D5] at h
 refine KP h (fun _=>A1 _ _ _) fun x53 h=>?_
 refine AW h (fun h=>?_) fun h=>?_
 ·refine KP h (fun _=>QK _ _ _) fun x58 h=>?_
  conv=>whnf
  refine z11 ?_
  refine AO (f:=Ad) h fun x66 _ h=>?_
  refine AO (f:=Ac) h fun x69 _ h=>?_
  conv=>whnf
  obtain ⟨x73,hx73,h⟩:=AB h
  first | refine Cs (A1 _ _ _ hx73) ?_ | (simp only [List.length_map]; refine Cs (A1 _ _ _ hx73) ?_)
  conv=>whnf
  (obtain rfl:=Option.some.inj h; refine ⟨by first | rfl | (simp only [List.length_map]; rfl) | (simp only [Ax,A9,Bb,Bp,Al,List.map_cons,List.map_nil,List.length_map]; rfl),?_⟩; (conv=>whnf); exact ⟨PZ⟩)
 conv=>whnf
 refine KG h Db (fun e6 h=>?_) (fun e6 h=>?_)
 ·conv=>whnf
  refine Lp Db e6 ?_
  conv=>whnf
  obtain ⟨x80,hx80,h⟩:=AB h
  refine Cs (D2 _ _ _ hx80) ?_
  conv=>whnf
  refine z11 ?_
  refine AO (f:=Ad) h fun x84 hx84 h=>?_
  conv=>whnf
  obtain ⟨x88,hx88,h⟩:=AB h
  refine Cs (Bf _ _ _ _ hx88) ?_
  conv=>whnf
  obtain ⟨x94,hx94,h⟩:=AB h
  refine Cs (A1 _ _ _ hx94) ?_
  conv=>whnf
  (obtain rfl:=Option.some.inj h; refine ⟨by first | rfl | (simp only [List.length_map]; rfl) | (simp only [Ax,A9,Bb,Bp,Al,List.map_cons,List.map_nil,List.length_map]; rfl),?_⟩; (conv=>whnf); exact ⟨PZ⟩)
 refine AW h (fun h=>?_) fun h=>?_
 ·conv=>whnf
  obtain ⟨x80,hx80,h⟩:=AB h
  refine Cs (D2 _ _ _ hx80) ?_
  conv=>whnf
  refine z11 ?_
  refine AO (f:=Ad) h fun x84 hx84 h=>?_
  conv=>whnf
  obtain ⟨x88,hx88,h⟩:=AB h
  refine Cs (Bf _ _ _ _ hx88) ?_
  conv=>whnf
  obtain ⟨x94,hx94,h⟩:=AB h
  refine Cs (A1 _ _ _ hx94) ?_
  conv=>whnf
  (obtain rfl:=Option.some.inj h; refine ⟨by first | rfl | (simp only [List.length_map]; rfl) | (simp only [Ax,A9,Bb,Bp,Al,List.map_cons,List.map_nil,List.length_map]; rfl),?_⟩; (conv=>whnf); exact ⟨PZ⟩)
 refine AW h (fun h=>?_) fun h=>?_
 ·refine KP h (fun _=>D2 _ _ _) fun x101 h=>?_
  refine AO (f:=Ad) h fun x105 _ h=>?_
  refine AW h (fun h=>?_) fun h=>?_
  ·conv=>whnf
   (obtain rfl:=Option.some.inj h; refine ⟨by first | rfl | (simp only [List.length_map]; rfl) | (simp only [Ax,A9,Bb,Bp,Al,List.map_cons,List.map_nil,List.length_map]; rfl),?_⟩; (conv=>whnf); exact ⟨PZ⟩)
  conv=>whnf
  (obtain rfl:=Option.some.inj h; refine ⟨by first | rfl | (simp only [List.length_map]; rfl) | (simp only [Ax,A9,Bb,Bp,Al,List.map_cons,List.map_nil,List.length_map]; rfl),?_⟩; (conv=>whnf); exact ⟨PZ⟩)
 conv=>whnf
 (obtain rfl:=Option.some.inj h; refine ⟨by first | rfl | (simp only [List.length_map]; rfl) | (simp only [Ax,A9,Bb,Bp,Al,List.map_cons,List.map_nil,List.length_map]; rfl),?_⟩; (conv=>whnf); exact ⟨PZ⟩)
theorem LX:∀ d:Nat,(∀ (p0:Ab) (p1:Aa) (p2:Int) (R:(Af × Ab)) ,Cg d p0 p1 p2 = some R→Ej Tryz.prog 18 [.optr [(Al 1 (D.int .u8) p0.f_l),(.int .i64 p0.f_at)],.d (Ai p1),.d (.int .i64 p2)] [.optr [(Al 1 (D.int .u8) R.2.f_l),(.int .i64 R.2.f_at)],.any,.any] (.d (Ax R.1)))
 | 0=>by
  exact z22
 | d + 1=>by
  have ih:=LX d
  exact QU d _ ih
theorem Ff (d:Nat):∀ (p0:Ab) (p1:Aa) (p2:Int) (R:(Af × Ab)) ,Cg d p0 p1 p2 = some R→Ej Tryz.prog 18 [.optr [(Al 1 (D.int .u8) p0.f_l),(.int .i64 p0.f_at)],.d (Ai p1),.d (.int .i64 p2)] [.optr [(Al 1 (D.int .u8) R.2.f_l),(.int .i64 R.2.f_at)],.any,.any] (.d (Ax R.1)):=LX d
theorem QT (p0:Ab) (p1:Aa) (p2:Int) (R:((List Int) × Ab)) (h:F8 p0 p1 p2 = some R):Ej Tryz.prog 165 [.optr [(Al 1 (D.int .u8) p0.f_l),(.int .i64 p0.f_at)],.d (Ai p1),.d (.int .i64 p2)] [.optr [(Al 1 (D.int .u8) R.2.f_l),(.int .i64 R.2.f_at)],.any,.any] (.d (Al 1 (D.int .i64) R.1)):=by
 refine LD Tryz.func165 (by kernel_rfl) rfl ?_ ?_
 ·intro i x y hx hy
  match i,hx,hy with
  | 0,hx,hy=>simp at hx hy; subst hx; subst hy; exact ⟨_,rfl,rfl⟩
  | 1,hx,hy=>simp at hx hy; subst hx; subst hy; trivial
  | 2,hx,hy=>simp at hx hy; subst hx; subst hy; trivial
  | i + 3,hx,hy=>simp at hx
 unfold F8 at h
 refine A7 h (fun _=>JE _ _ _) fun x11 h=>?_
 refine z3 h (fun p=>B8 41 [(0,.ptr 0 0 0),(2,.d (.int .i64 p2)),(7,.sl 7 1),(8,.d (Al 1 (D.int .i64) x11)),(13,.d (.int .i64 ((x11.length:Nat):Int))),(14,.d (.int .i64 p.1))] [(0,.var [.d (Al 1 (D.int .u8) p.2.1.f_l),.d (.int .i64 p.2.1.f_at)],0),(7,.row 1 3 (List.map (D.int .i64) p.2.2),1)]) Ah fun _ _ ⟨v14_1,w0_1,b7_1⟩ h=>?_
 simp only [F2] at h
 refine AW h (fun h=>?_) fun h=>?_
 ·refine AO (f:=(D.int .i64)) h fun x19 _ h=>?_
  refine AW h (fun h=>?_) fun h=>?_
  ·refine AW h (fun h=>?_) fun h=>?_
   ·refine AO (f:=(D.int .i64)) h fun x35 hx35 h=>?_
    conv=>whnf
    obtain ⟨hr,h⟩:=Eg h
    refine z4 ?_
    try rw [KU]
    exact z18
   refine KP h (fun _=>C5 _ _ _) fun x29 h=>?_
   refine AW h (fun h=>?_) fun h=>?_
   ·refine AO (f:=(D.int .i64)) h fun x35 hx35 h=>?_
    conv=>whnf
    obtain ⟨hr,h⟩:=Eg h
    refine z4 ?_
    try rw [KU]
    exact z18
   exact z18
  exact BE ⟨(_,(_,_,_)),h⟩ Ah
 ((conv=>whnf); obtain rfl:=Option.some.inj h; refine ⟨by first | rfl | (simp only [List.length_map]; rfl),?_⟩; exact z49)
theorem Ha (p0:Ab) (p1:Aa) (R:((List Ae) × Ab)) (h:CW p0 p1 = some R):Ej Tryz.prog 166 [.optr [(Al 1 (D.int .u8) p0.f_l),(.int .i64 p0.f_at)],.d (Ai p1)] [.optr [(Al 1 (D.int .u8) R.2.f_l),(.int .i64 R.2.f_at)],.any] (.d (Al 2 Ag R.1)):=by
 refine LD Tryz.func166 (by kernel_rfl) rfl ?_ ?_
 ·intro i x y hx hy
  match i,hx,hy with
  | 0,hx,hy=>simp at hx hy; subst hx; subst hy; exact ⟨_,rfl,rfl⟩
  | 1,hx,hy=>simp at hx hy; subst hx; subst hy; trivial
  | i + 2,hx,hy=>simp at hx
 unfold CW at h
 refine A7 h (fun _=>JE _ _ _) fun x9 h=>?_
 refine KP h (fun _=>C5 _ _ _) fun x11 h=>?_
 refine AW h (fun h=>?_) fun h=>?_
 ·conv=>whnf
  obtain ⟨x16,hx16,h⟩:=AB h
  first | refine Cs (A1 _ _ _ hx16) ?_ | (simp only [List.length_map]; refine Cs (A1 _ _ _ hx16) ?_)
  conv=>whnf
  obtain ⟨hr,h⟩:=Eg h
  refine z7 ?_
  try simp only [List.length_map]
  rw [Wd]
  refine z3 h (fun p=>B8 42 [(0,.ptr 0 0 0),(3,.ptr 3 1 0),(5,.sl 5 1),(6,.d (Al 1 (D.int .i64) (O1 x9 x16.1 ((x9.length:Nat):Int)))),(19,.d (.int .i64 (((O1 x9 x16.1 ((x9.length:Nat):Int)).length:Nat):Int))),(20,.d (.int .i64 p.1))] [(0,.var [.d (Al 1 (D.int .u8) p.2.1.f_l),.d (.int .i64 p.2.1.f_at)],0),(3,.var [.d (Al 2 Ac p1.Lists),.d (Al 7 Ad p1.Columns)],1),(5,.row 2 43 (List.map Ag p.2.2),1)]) Ah fun _ _ ⟨v20_1,w0_1,b5_1⟩ h=>?_
  simp only [Gy] at h
  refine AW h (fun h=>?_) fun h=>?_
  ·conv=>whnf
   refine z11 ?_
   refine AO (f:=(D.int .i64)) h fun x26 hx26 h=>?_
   refine AO (f:=(D.int .i64)) h fun x32 hx32 h=>?_
   conv=>whnf
   obtain ⟨x34,hx34,h⟩:=AB h
   refine Au (Cd _ _ _ hx34) ?_
   conv=>whnf
   obtain ⟨x36,hx36,h⟩:=AB h
   refine Cs (A1 _ _ _ hx36) ?_
   conv=>whnf
   exact z30
  ((conv=>whnf); obtain rfl:=Option.some.inj h; refine ⟨by first | rfl | (simp only [List.length_map]; rfl),?_⟩; exact z49)
 refine z3 h (fun p=>B8 42 [(0,.ptr 0 0 0),(3,.ptr 3 1 0),(5,.sl 5 1),(6,.d (Al 1 (D.int .i64) x9)),(19,.d (.int .i64 ((x9.length:Nat):Int))),(20,.d (.int .i64 p.1))] [(0,.var [.d (Al 1 (D.int .u8) p.2.1.f_l),.d (.int .i64 p.2.1.f_at)],0),(3,.var [.d (Al 2 Ac p1.Lists),.d (Al 7 Ad p1.Columns)],1),(5,.row 2 43 (List.map Ag p.2.2),1)]) Ah fun _ _ ⟨v20_2,w0_2,b5_2⟩ h=>?_
 simp only [Ga] at h
 refine AW h (fun h=>?_) fun h=>?_
 ·conv=>whnf
  refine z11 ?_
  refine AO (f:=(D.int .i64)) h fun x26 hx26 h=>?_
  refine AO (f:=(D.int .i64)) h fun x32 hx32 h=>?_
  conv=>whnf
  obtain ⟨x34,hx34,h⟩:=AB h
  refine Au (Cd _ _ _ hx34) ?_
  conv=>whnf
  obtain ⟨x36,hx36,h⟩:=AB h
  refine Cs (A1 _ _ _ hx36) ?_
  conv=>whnf
  exact z30
 ((conv=>whnf); obtain rfl:=Option.some.inj h; refine ⟨by first | rfl | (simp only [List.length_map]; rfl),?_⟩; exact z49)
theorem JI (d:Nat) (p0:Ab) (p1:Aa) (p2:ByteArray) (R:(AG × Ab)) (h:Do d p0 p1 p2 = some R):Ej Tryz.prog 100 [.optr [(Al 1 (D.int .u8) p0.f_l),(.int .i64 p0.f_at)],.d (Ai p1),.d (.str p2)] [.optr [(Al 1 (D.int .u8) R.2.f_l),(.int .i64 R.2.f_at)],.any,.any] (.d (AZ R.1)):=by
 refine LD Tryz.func100 (by kernel_rfl) rfl ?_ ?_
 ·intro i x y hx hy
  match i,hx,hy with
  | 0,hx,hy=>simp at hx hy; subst hx; subst hy; exact ⟨_,rfl,rfl⟩
  | 1,hx,hy=>simp at hx hy; subst hx; subst hy; trivial
  | 2,hx,hy=>simp at hx hy; subst hx; subst hy; trivial
  | i + 3,hx,hy=>simp at hx
 unfold Do at h
 conv=>whnf
 refine z11 ?_
 refine KP h (fun _=>A1 _ _ _) fun x14 h=>?_
 refine KP h (fun _=>Ff _ _ _ _ _) fun x15 h=>?_
 refine KP h (fun _=>D2 _ _ _) fun x19 h=>?_
 refine KP h (fun _=>A1 _ _ _) fun x21 h=>?_
 refine AW h (fun h=>?_) fun h=>?_
 ·((conv=>whnf); obtain ⟨x60,hx60,h⟩:=AB h; refine Cs (Ha _ _ _ hx60) ?_; ((conv=>whnf); (obtain rfl:=Option.some.inj h; refine ⟨by first | rfl | (simp only [List.length_map]; rfl),?_⟩; (conv=>whnf); exact ⟨JJ⟩)))
 refine AW h (fun h=>?_) fun h=>?_
 ·refine KP h (fun _=>QT _ _ _ _) fun x31 h=>?_
  refine AW h (fun h=>?_) fun h=>?_
  ·((conv=>whnf); (obtain rfl:=Option.some.inj h; refine ⟨by first | rfl | (simp only [List.length_map]; rfl),?_⟩; (conv=>whnf); exact ⟨JJ⟩))
  ((conv=>whnf); obtain ⟨x60,hx60,h⟩:=AB h; refine Cs (Ha _ _ _ hx60) ?_; ((conv=>whnf); (obtain rfl:=Option.some.inj h; refine ⟨by first | rfl | (simp only [List.length_map]; rfl),?_⟩; (conv=>whnf); exact ⟨JJ⟩)))
 refine AW h (fun h=>?_) fun h=>?_
 ·refine AO (f:=Ad) h fun x46 _ h=>?_
  refine AW h (fun h=>?_) fun h=>?_
  ·refine KP h (fun _=>Ff _ _ _ _ _) fun x53 h=>?_
   ((conv=>whnf); (obtain rfl:=Option.some.inj h; refine ⟨by first | rfl | (simp only [List.length_map]; rfl),?_⟩; (conv=>whnf); exact ⟨JJ⟩))
  ((conv=>whnf); obtain ⟨x60,hx60,h⟩:=AB h; refine Cs (Ha _ _ _ hx60) ?_; ((conv=>whnf); (obtain rfl:=Option.some.inj h; refine ⟨by first | rfl | (simp only [List.length_map]; rfl),?_⟩; (conv=>whnf); exact ⟨JJ⟩)))
 ((conv=>whnf); obtain ⟨x60,hx60,h⟩:=AB h; refine Cs (Ha _ _ _ hx60) ?_; ((conv=>whnf); (obtain rfl:=Option.some.inj h; refine ⟨by first | rfl | (simp only [List.length_map]; rfl),?_⟩; (conv=>whnf); exact ⟨JJ⟩)))
end Go.Proofs.YtejfnieiaecpkaaGreatDoor.P
