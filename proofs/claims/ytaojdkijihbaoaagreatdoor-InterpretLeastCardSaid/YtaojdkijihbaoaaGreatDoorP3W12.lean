/- P3W12 -/
import Derived.Test.YtaojdkijihbaoaaGreatDoorP3W7
open Go.Proofs.Tryz
set_option linter.all false
namespace Go.Proofs.YtaojdkijihbaoaaGreatDoor.P
open Go.Abs Go.Proofs
set_option maxRecDepth 100000
set_option maxHeartbeats 4000000
instance regress_expected_c1_w:CS prog 280 (W1 prog 280 G7):=⟨λa R h=>by
 refine uD func280 ?_;unfold G7 at h;exact Aq⟩
instance {a0 a1}:LS (λa s=>MH a0 a1 a s) 45 [0,27,28] (λs=>[(29,.i s)]) [] (λs=>[]):=⟨trivial⟩
instance regress_expected_w:CS prog 227 (W1 prog 227 GP):=⟨λa R h=>by
 refine WA [3] func227 ?_;unfold GP at h;refine Gj {p:Unit // MI a=some R} (λp=>Dk 45 [(0,.l 1 (Ao 1 D.z) a)] []) ?_ λp=>?_
 ·exact Aq
 obtain⟨_,h⟩:=p;exact Aq⟩
instance {a0 a1}:LS (λa s=>Jo a0 a1 a s.1 s.2) 78 [3,16,17,18,22,23] (λs=>[(6,.i s.1),(24,.i s.2)]) [3] (λs=>[]):=⟨trivial⟩
instance linear_large_w:CS prog 303 (W1 prog 303 Km):=⟨λd R h=>by
 refine WA [11] func303 ?_;unfold Km at h;refine Fx h (λ_=>Lx _ _) λg h=>?_
 conv=>whnf
 refine z7 h (λp=>Dk 78 [(3,.ptr 3 1 0),(16,.l 1 (Ao 1 D.z) d),(17,.i (d.length:Int)),(18,.i p.1)] [(3,OF p.2,1)]) EB λi j ⟨a,b⟩ h=>?_;simp only[Qr]at h;refine EA h (λh=>?_) λh=>?_
 ·refine Sk (f:=(Ao 1 D.z)) h λk _ h=>?_;refine Gj {p:Int // Jp b (i j) a p=some R} (λp=>Dk 78 [(3,.ptr 3 1 0),(6,.i p.1),(16,.l 1 (Ao 1 D.z) d),(17,.i (d.length:Int)),(18,.i a)] [(3,OF b,1)]) ?_ λp=>?_
  ·exact Aq
  obtain⟨e,h⟩:=p;simp only[Jp]at h;refine Fx h (λ_=>If _ _ _) λl h=>?_;refine Fx h (λ_=>If _ _ _) λm h=>?_
  conv=>whnf
  refine BD h λn c h=>?_;refine lK (UC _ _ _ _ c) ?_;exact Aq
 exact Aq⟩
instance {a0 a1}:LS (λa s=>Ql a0 a1 a s) 51 [0,17,18] (λs=>[(19,.i s)]) [] (λs=>[]):=⟨trivial⟩
instance {a0 a1}:LS (λa s=>Qm a0 a1 a s) 51 [0,29,30] (λs=>[(31,.i s)]) [] (λs=>[]):=⟨trivial⟩
instance {a0 a1}:LS (λa s=>Qn a0 a1 a s) 51 [0,29,30,31,35,36] (λs=>[(37,.i s)]) [] (λs=>[]):=⟨trivial⟩
instance linear_Check_w:CS prog 281 (W1 prog 281 Gm):=⟨λa R h=>by
 refine WA [11] func281 ?_;unfold Gm at h;refine EA h (λh=>?_) λh=>?_
 ·exact Aq
 refine EA h (λh=>?_) λh=>?_
 ·exact Aq
 refine Gj {p:Unit // Qo a=some R} (λp=>Dk 51 [(0,.l 1 (Ao 1 D.z) a)] []) ?_ λp=>?_
 ·exact Aq
 obtain⟨_,h⟩:=p;exact Aq⟩
instance {a0 a1 a2}:LS (λa s=>Qp a0 a1 a2 a s) 67 [0,1,25] (λs=>[(26,.i s)]) [] (λs=>[]):=⟨trivial⟩
instance {a0 a1 a2 a3}:LS (λa s=>Qq a0 a1 a2 a3 a s.1 s.2) 67 [0,1,9,10,44] (λs=>[(45,.i s.1)]) [9] (λs=>[(10,.row 2 102 (List.map B6 s.2),1)]):=⟨trivial⟩
instance linear_Solve_w:CS prog 229 (W2 prog 229 Kl):=⟨λa b R h=>by
 refine WA [13] func229 ?_;unfold Kl at h;refine Fx h (λ_=>linear_Check_w.h _ _) λc h=>?_;refine EA h (λh=>?_) λh=>?_
 ·exact Aq
 refine EA h (λh=>?_) λh=>?_
 ·exact Aq
 refine Gj {p:Unit // M3 a b=some R} (λp=>Dk 67 [(0,.l 1 (Ao 1 D.z) a),(1,.l 1 D.z b)] []) ?_ λp=>?_
 ·exact Aq
 obtain⟨_,h⟩:=p;exact Aq⟩
instance linear_Ratio_w:CS prog 230 (W2 prog 230 Kk):=⟨λa b R h=>by
 refine uD func230 ?_;unfold Kk at h;exact Aq⟩
instance {a0 a1}:LS (λa s=>IK a0 a1 a s.1 s.2.1 s.2.2) 43 [2,4,11,12] (λs=>[(5,.i s.1),(6,.i s.2.1),(13,.i s.2.2)]) [2] (λs=>[]):=⟨trivial⟩
instance regress_total_w:CS prog 231 (W1 prog 231 Jh):=⟨λa R h=>by
 refine uD func231 ?_;unfold Jh at h;exact Aq⟩
instance regress_Fit_w:CS prog 154 (W1 prog 154 My):=⟨λb R h=>by
 refine Q7 [3,16] func154 (by kernel_rfl) ?_;unfold My at h;refine Gj {p:Unit // KL b=some R} (λp=>Dk 127 [(0,.l 1 (Ao 1 D.z) b),(2,.ptr 2 1 0)] [(2,.var [.i 0,.n 1,.n 2,.i 0,.i 0,.i 0,.i 0,.i 0,.i 0],1)]) ?_ λp=>?_
 ·refine Fx h (λ_=>regress_expected_w.h _ _) λx18 h=>?_;refine VH h λh=>?_;refine Sk (f:=(Ao 1 D.z)) h λv _ h=>?_;refine VH h λh=>?_;refine Sk (f:=(Ao 1 D.z)) h λw _ h=>?_;refine VH h λh=>?_
  conv=>whnf
  exact⟨⟨(),h⟩,EB⟩
 obtain⟨_,h⟩:=p;simp only[KL]at h;refine Sk (f:=(Ao 1 D.z)) h λx _ h=>?_
 conv=>whnf
 refine S3 h λhr h=>?_;refine z11 ?_
 try rw[pF]
 refine Gj {p:((List (List Int))×(List (List Int))×(List Int)) // KN b p.1 p.2.1 p.2.2=some R} (λp=>Dk 127 [(0,.l 1 (Ao 1 D.z) b),(2,.ptr 2 1 0),(4,.sl 4 1),(5,.sl 5 1),(6,.sl 39 1)] [(2,.var [.i 0,.n 1,.n 2,.i 0,.i 0,.i 0,.i 0,.i 0,.i 0],1),(4,.row 1 30 (List.map (Ao 1 D.z) p.1.1),1),(5,.row 1 30 (List.map (Ao 1 D.z) p.1.2.1),1),(39,.row 1 3 (List.map D.z p.1.2.2),1)]) ?_ λp=>?_
 ·conv=>whnf
  refine z7 h (λp=>Dk 127 [(0,.l 1 (Ao 1 D.z) b),(2,.ptr 2 1 0),(4,.sl 4 1),(5,.sl 5 1),(6,.sl 39 1),(40,.l 1 (Ao 1 D.z) b),(41,.i (b.length:Int)),(42,.i p.1)] [(2,.var [.i 0,.n 1,.n 2,.i 0,.i 0,.i 0,.i 0,.i 0,.i 0],1),(4,.row 1 30 (List.map (Ao 1 D.z) p.2.1),1),(5,.row 1 30 (List.map (Ao 1 D.z) p.2.2.1),1),(39,.row 1 3 (List.map D.z p.2.2.2),1)]) EB λ_ _ ⟨d,e,g,k⟩ h=>?_;simp only[KI]at h;refine EA h (λh=>?_) λh=>?_
  ·refine Sk (f:=(Ao 1 D.z)) h λa _ h=>?_
   conv=>whnf
   refine S3 h λhr h=>?_;refine⟨by first|exact uf hr|(simp only[ua];exact uf hr),?_⟩
   try simp only[ua]
   rw[sa]
   conv=>whnf
   refine S3 h λhr h=>?_;refine z8 ?_
   try rw[pt]
   conv=>whnf
   refine z13 ?_
   conv=>whnf
   refine S3 h λhr h=>?_;refine z8 ?_
   try rw[jb]
   conv=>whnf
   refine BD h λl c h=>?_
   first|refine A4 (Bg _ _ c) ?_|(simp only[ua];refine A4 (Bg _ _ c) ?_)
   refine Sk (f:=D.z) h λm _ h=>?_
   conv=>whnf
   refine S3 h λhr h=>?_;refine z8 ?_
   try rw[nY]
   conv=>whnf
   refine S3 h λhr h=>?_;refine z8 ?_
   try rw[jb]
   conv=>whnf
   refine z7 h (λp=>Dk 127 [(0,.l 1 (Ao 1 D.z) b),(2,.ptr 2 1 0),(4,.sl 4 1),(5,.sl 5 1),(6,.sl 39 1),(8,.l 1 D.z a),(40,.l 1 (Ao 1 D.z) b),(41,.i (b.length:Int)),(42,.i d),(64,.l 1 D.z ([1]++(M1 a 1 (a.length:Int)))),(65,.i (([1]++(M1 a 1 (a.length:Int))).length:Int)),(66,.i p.1)] [(2,.var [.i 0,.n 1,.n 2,.i 0,.i 0,.i 0,.i 0,.i 0,.i 0],1),(4,.row 1 30 (List.map (Ao 1 D.z) (e++[([1]++(M1 a 1 (a.length:Int)))])),1),(5,.row 1 30 (List.map (Ao 1 D.z) (g++[(l++[m])])),1),(39,.row 1 3 (List.map D.z p.2),1)]) EB λ_ _ ⟨n,o⟩ h=>?_;simp only[KJ]at h;refine EA h (λh=>?_) λh=>?_
   ·refine Sk (f:=D.z) h λy _ h=>?_
    conv=>whnf
    refine z13 ?_;refine gm (f:=D.z) h Ld λz i h=>?_;refine qP (f:=D.z) i Ld ?_;refine Sk (f:=D.z) h λA _ h=>?_;refine gm (f:=D.z) h Ld λB j h=>?_;refine qP (f:=D.z) j Ld ?_
    conv=>whnf
    try rw[sJ]
    exact kW ⟨(_,(_,_)),h⟩ EB
   conv=>whnf
   try simp only[KO]at h
   exact kW ⟨(_,(_,_,_,_)),h⟩ EB
  conv=>whnf
  try simp only[KO]at h
  exact⟨⟨(_,_,_),h⟩,EB⟩
 obtain⟨⟨r,s,q⟩,h⟩:=p;simp only[KN]at h;refine Fx h (λ_=>KR _ _) λC h=>?_;refine Fx h (λ_=>linear_Solve_w.h _ _ _) λE h=>?_;refine VH h λh=>?_;refine Fx h (λ_=>KR _ _) λF h=>?_;refine Fx h (λ_=>linear_Ratio_w.h _ _ _) λt h=>?_;refine VH h λh=>?_;refine Fx h (λ_=>regress_total_w.h _ _) λu h=>?_;refine VH h λh=>?_
 conv=>whnf
 obtain rfl:=uc h;exact⟨kX⟩⟩
