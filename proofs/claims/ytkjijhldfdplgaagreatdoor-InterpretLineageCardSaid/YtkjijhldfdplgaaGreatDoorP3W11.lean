/- P3W11 -/
import Derived.Test.YtkjijhldfdplgaaGreatDoorP3W6
open Go.Proofs.Tryz
set_option linter.all false
namespace Go.Proofs.YtkjijhldfdplgaaGreatDoor.P
open Go.Abs Go.Proofs
set_option maxRecDepth 100000
set_option maxHeartbeats 4000000
instance regress_expected_c1_w:CS prog 275 (W1 prog 275 GA):=⟨λa R h=>by
 refine uD func275 ?_;unfold GA at h;exact As⟩
instance {a0 a1}:LS (λa s=>MC a0 a1 a s) 45 [0,27,28] (λs=>[(29,.i s)]) [] (λs=>[]):=⟨trivial⟩
instance regress_expected_w:CS prog 208 (W1 prog 208 GU):=⟨λa R h=>by
 refine Xr [3] func208 ?_;unfold GU at h;refine F3 {p:Unit // MD a=some R} (λp=>CY 45 [(0,.l 1 (Am 1 D.z) a)] []) ?_ λp=>?_
 ·exact As
 obtain⟨_,h⟩:=p;exact As⟩
instance {a0 a1}:LS (λa s=>Jy a0 a1 a s.1 s.2) 78 [3,16,17,18,22,23] (λs=>[(6,.i s.1),(24,.i s.2)]) [3] (λs=>[]):=⟨trivial⟩
instance linear_large_w:CS prog 306 (W1 prog 306 Kt):=⟨λd R h=>by
 refine Xr [11] func306 ?_;unfold Kt at h;refine E9 h (λ_=>Lu _ _) λg h=>?_
 conv=>whnf
 refine z7 h (λp=>CY 78 [(3,.ptr 3 1 0),(16,.l 1 (Am 1 D.z) d),(17,.i (d.length:Int)),(18,.i p.1)] [(3,OQ p.2,1)]) C3 λi j ⟨a,b⟩ h=>?_;simp only[QJ]at h;refine Do h (λh=>?_) λh=>?_
 ·refine QX (f:=(Am 1 D.z)) h λk _ h=>?_;refine F3 {p:Int // Jz b (i j) a p=some R} (λp=>CY 78 [(3,.ptr 3 1 0),(6,.i p.1),(16,.l 1 (Am 1 D.z) d),(17,.i (d.length:Int)),(18,.i a)] [(3,OQ b,1)]) ?_ λp=>?_
  ·exact As
  obtain⟨e,h⟩:=p;simp only[Jz]at h;refine E9 h (λ_=>It _ _ _) λl h=>?_;refine E9 h (λ_=>It _ _ _) λm h=>?_
  conv=>whnf
  refine Bi h λn c h=>?_;refine lL (US _ _ _ _ c) ?_;exact As
 exact As⟩
instance {a0 a1}:LS (λa s=>QD a0 a1 a s) 51 [0,17,18] (λs=>[(19,.i s)]) [] (λs=>[]):=⟨trivial⟩
instance {a0 a1}:LS (λa s=>QE a0 a1 a s) 51 [0,29,30] (λs=>[(31,.i s)]) [] (λs=>[]):=⟨trivial⟩
instance {a0 a1}:LS (λa s=>QF a0 a1 a s) 51 [0,29,30,31,35,36] (λs=>[(37,.i s)]) [] (λs=>[]):=⟨trivial⟩
instance linear_Check_w:CS prog 276 (W1 prog 276 Gm):=⟨λa R h=>by
 refine Xr [11] func276 ?_;unfold Gm at h;refine Do h (λh=>?_) λh=>?_
 ·exact As
 refine Do h (λh=>?_) λh=>?_
 ·exact As
 refine F3 {p:Unit // QG a=some R} (λp=>CY 51 [(0,.l 1 (Am 1 D.z) a)] []) ?_ λp=>?_
 ·exact As
 obtain⟨_,h⟩:=p;exact As⟩
instance {a0 a1 a2}:LS (λa s=>QH a0 a1 a2 a s) 67 [0,1,25] (λs=>[(26,.i s)]) [] (λs=>[]):=⟨trivial⟩
instance {a0 a1 a2 a3}:LS (λa s=>QI a0 a1 a2 a3 a s.1 s.2) 67 [0,1,9,10,44] (λs=>[(45,.i s.1)]) [9] (λs=>[(10,.row 2 52 (List.map Bz s.2),1)]):=⟨trivial⟩
instance linear_Solve_w:CS prog 210 (W2 prog 210 Ks):=⟨λa b R h=>by
 refine Xr [13] func210 ?_;unfold Ks at h;refine E9 h (λ_=>linear_Check_w.h _ _) λc h=>?_;refine Do h (λh=>?_) λh=>?_
 ·exact As
 refine Do h (λh=>?_) λh=>?_
 ·exact As
 refine F3 {p:Unit // M0 a b=some R} (λp=>CY 67 [(0,.l 1 (Am 1 D.z) a),(1,.l 1 D.z b)] []) ?_ λp=>?_
 ·exact As
 obtain⟨_,h⟩:=p;exact As⟩
instance linear_Ratio_w:CS prog 211 (W2 prog 211 Kr):=⟨λa b R h=>by
 refine uD func211 ?_;unfold Kr at h;exact As⟩
instance {a0 a1}:LS (λa s=>Jb a0 a1 a s.1 s.2.1 s.2.2) 43 [2,4,11,12] (λs=>[(5,.i s.1),(6,.i s.2.1),(13,.i s.2.2)]) [2] (λs=>[]):=⟨trivial⟩
instance regress_total_w:CS prog 212 (W1 prog 212 Jr):=⟨λa R h=>by
 refine uD func212 ?_;unfold Jr at h;exact As⟩
instance regress_Fit_w:CS prog 133 (W1 prog 133 Mv):=⟨λb R h=>by
 refine OT [3,16] func133 (by kernel_rfl) ?_;unfold Mv at h;refine F3 {p:Unit // KR b=some R} (λp=>CY 127 [(0,.l 1 (Am 1 D.z) b),(2,.ptr 2 1 0)] [(2,.var [.i 0,.n 1,.n 2,.i 0,.i 0,.i 0,.i 0,.i 0,.i 0],1)]) ?_ λp=>?_
 ·refine E9 h (λ_=>regress_expected_w.h _ _) λx18 h=>?_;refine Oy h λh=>?_;refine QX (f:=(Am 1 D.z)) h λv _ h=>?_;refine Oy h λh=>?_;refine QX (f:=(Am 1 D.z)) h λw _ h=>?_;refine Oy h λh=>?_
  conv=>whnf
  exact⟨⟨(),h⟩,C3⟩
 obtain⟨_,h⟩:=p;simp only[KR]at h;refine QX (f:=(Am 1 D.z)) h λx _ h=>?_
 conv=>whnf
 refine QW h λhr h=>?_;refine z11 ?_
 try rw[pk]
 refine F3 {p:((List (List Int))×(List (List Int))×(List Int)) // KS b p.1 p.2.1 p.2.2=some R} (λp=>CY 127 [(0,.l 1 (Am 1 D.z) b),(2,.ptr 2 1 0),(4,.sl 4 1),(5,.sl 5 1),(6,.sl 39 1)] [(2,.var [.i 0,.n 1,.n 2,.i 0,.i 0,.i 0,.i 0,.i 0,.i 0],1),(4,.row 1 31 (List.map (Am 1 D.z) p.1.1),1),(5,.row 1 31 (List.map (Am 1 D.z) p.1.2.1),1),(39,.row 1 3 (List.map D.z p.1.2.2),1)]) ?_ λp=>?_
 ·conv=>whnf
  refine z7 h (λp=>CY 127 [(0,.l 1 (Am 1 D.z) b),(2,.ptr 2 1 0),(4,.sl 4 1),(5,.sl 5 1),(6,.sl 39 1),(40,.l 1 (Am 1 D.z) b),(41,.i (b.length:Int)),(42,.i p.1)] [(2,.var [.i 0,.n 1,.n 2,.i 0,.i 0,.i 0,.i 0,.i 0,.i 0],1),(4,.row 1 31 (List.map (Am 1 D.z) p.2.1),1),(5,.row 1 31 (List.map (Am 1 D.z) p.2.2.1),1),(39,.row 1 3 (List.map D.z p.2.2.2),1)]) C3 λ_ _ ⟨d,e,g,k⟩ h=>?_;simp only[KO]at h;refine Do h (λh=>?_) λh=>?_
  ·refine QX (f:=(Am 1 D.z)) h λa _ h=>?_
   conv=>whnf
   refine QW h λhr h=>?_;refine⟨by first|exact tb hr|(simp only[sX];exact tb hr),?_⟩
   try simp only[sX]
   rw[rA]
   conv=>whnf
   refine QW h λhr h=>?_;refine z8 ?_
   try rw[pa]
   conv=>whnf
   refine z13 ?_
   conv=>whnf
   refine QW h λhr h=>?_;refine z8 ?_
   try rw[jm]
   conv=>whnf
   refine Bi h λl c h=>?_
   first|refine A3 (AX _ _ c) ?_|(simp only[sX];refine A3 (AX _ _ c) ?_)
   refine QX (f:=D.z) h λm _ h=>?_
   conv=>whnf
   refine QW h λhr h=>?_;refine z8 ?_
   try rw[jl]
   conv=>whnf
   refine QW h λhr h=>?_;refine z8 ?_
   try rw[jm]
   conv=>whnf
   refine z7 h (λp=>CY 127 [(0,.l 1 (Am 1 D.z) b),(2,.ptr 2 1 0),(4,.sl 4 1),(5,.sl 5 1),(6,.sl 39 1),(8,.l 1 D.z a),(40,.l 1 (Am 1 D.z) b),(41,.i (b.length:Int)),(42,.i d),(64,.l 1 D.z ([1]++(NB a 1 (a.length:Int)))),(65,.i (([1]++(NB a 1 (a.length:Int))).length:Int)),(66,.i p.1)] [(2,.var [.i 0,.n 1,.n 2,.i 0,.i 0,.i 0,.i 0,.i 0,.i 0],1),(4,.row 1 31 (List.map (Am 1 D.z) (e++[([1]++(NB a 1 (a.length:Int)))])),1),(5,.row 1 31 (List.map (Am 1 D.z) (g++[(l++[m])])),1),(39,.row 1 3 (List.map D.z p.2),1)]) C3 λ_ _ ⟨n,o⟩ h=>?_;simp only[KP]at h;refine Do h (λh=>?_) λh=>?_
   ·refine QX (f:=D.z) h λy _ h=>?_
    conv=>whnf
    refine z13 ?_;refine Ph (f:=D.z) h FK λz i h=>?_;refine Zc (f:=D.z) i FK ?_;refine QX (f:=D.z) h λA _ h=>?_;refine Ph (f:=D.z) h FK λB j h=>?_;refine Zc (f:=D.z) j FK ?_
    conv=>whnf
    try rw[rX]
    exact cz ⟨(_,(_,_)),h⟩ C3
   conv=>whnf
   try simp only[KT]at h
   exact cz ⟨(_,(_,_,_,_)),h⟩ C3
  conv=>whnf
  try simp only[KT]at h
  exact⟨⟨(_,_,_),h⟩,C3⟩
 obtain⟨⟨r,s,q⟩,h⟩:=p;simp only[KS]at h;refine E9 h (λ_=>KV _ _) λC h=>?_;refine E9 h (λ_=>linear_Solve_w.h _ _ _) λE h=>?_;refine Oy h λh=>?_;refine E9 h (λ_=>KV _ _) λF h=>?_;refine E9 h (λ_=>linear_Ratio_w.h _ _ _) λt h=>?_;refine Oy h λh=>?_;refine E9 h (λ_=>regress_total_w.h _ _) λu h=>?_;refine Oy h λh=>?_
 conv=>whnf
 obtain rfl:=sY h;exact⟨c9⟩⟩
