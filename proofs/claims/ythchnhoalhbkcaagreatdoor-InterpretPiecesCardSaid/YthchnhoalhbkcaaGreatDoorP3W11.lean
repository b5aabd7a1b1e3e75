/- P3W11 -/
import Derived.Test.YthchnhoalhbkcaaGreatDoorP3W6
open Go.Proofs.Tryz
set_option linter.unusedSimpArgs false
set_option linter.unusedVariables false
namespace Go.Proofs.YthchnhoalhbkcaaGreatDoor.P
open Go.Abs Go.Proofs
set_option maxRecDepth 100000
set_option maxHeartbeats 4000000
instance regress_expected_c1_w:CS prog 259 (W1 prog 259 FU):=⟨λp0 R h=>by
 refine uD func259 ?_;unfold FU at h;exact Ao⟩
instance {a0 a1}:LS (λrec1 s=>LQ a0 a1 rec1 s) 45 [0,27,28] (λs=>[(29,.d (.int .i64 s))]) [] (λs=>[]):=⟨trivial⟩
instance regress_expected_w:CS prog 191 (W1 prog 191 Gq):=⟨λp0 R h=>by
 refine Uv [3] func191 ?_;unfold Gq at h;refine Fl {p:Unit // LR p0=some R} (λp=>CJ 45 [(0,.d (An 1 (An 1 (D.int .i64)) p0))] []) ?_ λp=>?_
 ·exact Ao
 obtain⟨_,h⟩:=p;exact Ao⟩
instance {a0 a1}:LS (λrec2 s=>IQ a0 a1 rec2 s.1 s.2) 78 [3,16,17,18,22,23] (λs=>[(6,.d (.int .i64 s.1)),(24,.d (.int .i64 s.2))]) [3] (λs=>[]):=⟨trivial⟩
instance linear_large_w:CS prog 298 (W1 prog 298 JN):=⟨λp0 R h=>by
 refine Uv [11] func298 ?_;unfold JN at h;refine FV h (λ_=>KD _ _) λx15 h=>?_
 conv=>whnf
 refine z7 h (λp=>CJ 78 [(3,.ptr 3 1 0),(16,.d (An 1 (An 1 (D.int .i64)) p0)),(17,.d (.int .i64 (p0.length:Int))),(18,.d (.int .i64 p.1))] [(3,NU p.2,1)]) CC λP1 k1 ⟨v18_1,w3_1⟩ h=>?_;simp only[PO]at h;refine DI h (λh=>?_) λh=>?_
 ·refine Sy (f:=(An 1 (D.int .i64))) h λx20 _ h=>?_;refine Fl {p:Int // IR w3_1 (P1 k1) v18_1 p=some R} (λp=>CJ 78 [(3,.ptr 3 1 0),(6,.d (.int .i64 p.1)),(16,.d (An 1 (An 1 (D.int .i64)) p0)),(17,.d (.int .i64 (p0.length:Int))),(18,.d (.int .i64 v18_1))] [(3,NU w3_1,1)]) ?_ λp=>?_
  ·exact Ao
  obtain⟨j6_1,h⟩:=p;simp only[IR]at h;refine FV h (λ_=>Hq _ _ _) λx42 h=>?_;refine FV h (λ_=>Hq _ _ _) λx49 h=>?_
  conv=>whnf
  refine Bp h λx55 hx55 h=>?_;refine jd (TS _ _ _ _ hx55) ?_;exact Ao
 exact Ao⟩
instance {a0 a1}:LS (λrec1 s=>PH a0 a1 rec1 s) 51 [0,17,18] (λs=>[(19,.d (.int .i64 s))]) [] (λs=>[]):=⟨trivial⟩
instance {a0 a1}:LS (λrec2 s=>PI a0 a1 rec2 s) 51 [0,29,30] (λs=>[(31,.d (.int .i64 s))]) [] (λs=>[]):=⟨trivial⟩
instance {a0 a1}:LS (λrec3 s=>PK a0 a1 rec3 s) 51 [0,29,30,31,35,36] (λs=>[(37,.d (.int .i64 s))]) [] (λs=>[]):=⟨trivial⟩
instance linear_Check_w:CS prog 260 (W1 prog 260 FC):=⟨λp0 R h=>by
 refine Uv [11] func260 ?_;unfold FC at h;refine DI h (λh=>?_) λh=>?_
 ·exact Ao
 refine DI h (λh=>?_) λh=>?_
 ·exact Ao
 refine Fl {p:Unit // PL p0=some R} (λp=>CJ 51 [(0,.d (An 1 (An 1 (D.int .i64)) p0))] []) ?_ λp=>?_
 ·exact Ao
 obtain⟨_,h⟩:=p;exact Ao⟩
instance {a0 a1 a2}:LS (λrec1 s=>PM a0 a1 a2 rec1 s) 67 [0,1,25] (λs=>[(26,.d (.int .i64 s))]) [] (λs=>[]):=⟨trivial⟩
instance {a0 a1 a2 a3}:LS (λrec2 s=>PN a0 a1 a2 a3 rec2 s.1 s.2) 67 [0,1,9,10,44] (λs=>[(45,.d (.int .i64 s.1))]) [9] (λs=>[(10,.row 2 46 (List.map Bq s.2),1)]):=⟨trivial⟩
instance linear_Solve_w:CS prog 193 (W2 prog 193 JM):=⟨λp0 p1 R h=>by
 refine Uv [13] func193 ?_;unfold JM at h;refine FV h (λ_=>linear_Check_w.h _ _) λx15 h=>?_;refine DI h (λh=>?_) λh=>?_
 ·exact Ao
 refine DI h (λh=>?_) λh=>?_
 ·exact Ao
 refine Fl {p:Unit // LF p0 p1=some R} (λp=>CJ 67 [(0,.d (An 1 (An 1 (D.int .i64)) p0)),(1,.d (An 1 (D.int .i64) p1))] []) ?_ λp=>?_
 ·exact Ao
 obtain⟨_,h⟩:=p;exact Ao⟩
instance linear_Ratio_w:CS prog 194 (W2 prog 194 JL):=⟨λp0 p1 R h=>by
 refine uD func194 ?_;unfold JL at h;exact Ao⟩
instance {a0 a1}:LS (λrec1 s=>Iw a0 a1 rec1 s.1 s.2.1 s.2.2) 43 [2,4,11,12] (λs=>[(5,.d (.int .i64 s.1)),(6,.d (.int .i64 s.2.1)),(13,.d (.int .i64 s.2.2))]) [2] (λs=>[]):=⟨trivial⟩
instance regress_total_w:CS prog 195 (W1 prog 195 IG):=⟨λp0 R h=>by
 refine uD func195 ?_;unfold IG at h;exact Ao⟩
instance regress_Fit_w:CS prog 117 (W1 prog 117 LB):=⟨λp0 R h=>by
 refine Ux [3,16] func117 (by kernel_rfl) ?_;unfold LB at h;refine Fl {p:Unit // Kl p0=some R} (λp=>CJ 127 [(0,.d (An 1 (An 1 (D.int .i64)) p0)),(2,.ptr 2 1 0)] [(2,.var [.d (.int .i64 0),.d (.nil 1),.d (.nil 2),.d (.int .i64 0),.d (.int .i64 0),.d (.int .i64 0),.d (.int .i64 0),.d (.int .i64 0),.d (.int .i64 0)],1)]) ?_ λp=>?_
 ·refine FV h (λ_=>regress_expected_w.h _ _) λx18 h=>?_;refine PD h λh=>?_;refine Sy (f:=(An 1 (D.int .i64))) h λx22 _ h=>?_;refine PD h λh=>?_;refine Sy (f:=(An 1 (D.int .i64))) h λx29 _ h=>?_;refine PD h λh=>?_
  conv=>whnf
  exact⟨⟨(),h⟩,CC⟩
 obtain⟨_,h⟩:=p;simp only[Kl]at h;refine Sy (f:=(An 1 (D.int .i64))) h λx36 _ h=>?_
 conv=>whnf
 refine Te h λhr h=>?_;refine z11 ?_
 try rw[mw]
 refine Fl {p:((List (List Int))×(List (List Int))×(List Int)) // Km p0 p.1 p.2.1 p.2.2=some R} (λp=>CJ 127 [(0,.d (An 1 (An 1 (D.int .i64)) p0)),(2,.ptr 2 1 0),(4,.sl 4 1),(5,.sl 5 1),(6,.sl 39 1)] [(2,.var [.d (.int .i64 0),.d (.nil 1),.d (.nil 2),.d (.int .i64 0),.d (.int .i64 0),.d (.int .i64 0),.d (.int .i64 0),.d (.int .i64 0),.d (.int .i64 0)],1),(4,.row 1 30 (List.map (An 1 (D.int .i64)) p.1.1),1),(5,.row 1 30 (List.map (An 1 (D.int .i64)) p.1.2.1),1),(39,.row 1 3 (List.map (D.int .i64) p.1.2.2),1)]) ?_ λp=>?_
 ·conv=>whnf
  refine z7 h (λp=>CJ 127 [(0,.d (An 1 (An 1 (D.int .i64)) p0)),(2,.ptr 2 1 0),(4,.sl 4 1),(5,.sl 5 1),(6,.sl 39 1),(40,.d (An 1 (An 1 (D.int .i64)) p0)),(41,.d (.int .i64 (p0.length:Int))),(42,.d (.int .i64 p.1))] [(2,.var [.d (.int .i64 0),.d (.nil 1),.d (.nil 2),.d (.int .i64 0),.d (.int .i64 0),.d (.int .i64 0),.d (.int .i64 0),.d (.int .i64 0),.d (.int .i64 0)],1),(4,.row 1 30 (List.map (An 1 (D.int .i64)) p.2.1),1),(5,.row 1 30 (List.map (An 1 (D.int .i64)) p.2.2.1),1),(39,.row 1 3 (List.map (D.int .i64) p.2.2.2),1)]) CC λ_ _ ⟨v42_1,b4_1,b5_1,b39_1⟩ h=>?_;simp only[Kj]at h;refine DI h (λh=>?_) λh=>?_
  ·refine Sy (f:=(An 1 (D.int .i64))) h λx44 _ h=>?_
   conv=>whnf
   refine Te h λhr h=>?_;refine⟨by first|exact pZ hr|(simp only[pX];exact pZ hr),?_⟩
   try simp only[pX]
   rw[nK]
   conv=>whnf
   refine Te h λhr h=>?_;refine z8 ?_
   try rw[mi]
   conv=>whnf
   refine z14 ?_
   conv=>whnf
   refine Te h λhr h=>?_;refine z8 ?_
   try rw[fN]
   conv=>whnf
   refine Bp h λx56 hx56 h=>?_
   first|refine A0 (Bt _ _ hx56) ?_|(simp only[pX];refine A0 (Bt _ _ hx56) ?_)
   refine Sy (f:=(D.int .i64)) h λx58 _ h=>?_
   conv=>whnf
   refine Te h λhr h=>?_;refine z8 ?_
   try rw[kW]
   conv=>whnf
   refine Te h λhr h=>?_;refine z8 ?_
   try rw[fN]
   conv=>whnf
   refine z7 h (λp=>CJ 127 [(0,.d (An 1 (An 1 (D.int .i64)) p0)),(2,.ptr 2 1 0),(4,.sl 4 1),(5,.sl 5 1),(6,.sl 39 1),(8,.d (An 1 (D.int .i64) x44)),(40,.d (An 1 (An 1 (D.int .i64)) p0)),(41,.d (.int .i64 (p0.length:Int))),(42,.d (.int .i64 v42_1)),(64,.d (An 1 (D.int .i64) ([1]++(LZ x44 1 (x44.length:Int))))),(65,.d (.int .i64 (([1]++(LZ x44 1 (x44.length:Int))).length:Int))),(66,.d (.int .i64 p.1))] [(2,.var [.d (.int .i64 0),.d (.nil 1),.d (.nil 2),.d (.int .i64 0),.d (.int .i64 0),.d (.int .i64 0),.d (.int .i64 0),.d (.int .i64 0),.d (.int .i64 0)],1),(4,.row 1 30 (List.map (An 1 (D.int .i64)) (b4_1++[([1]++(LZ x44 1 (x44.length:Int)))])),1),(5,.row 1 30 (List.map (An 1 (D.int .i64)) (b5_1++[(x56++[x58])])),1),(39,.row 1 3 (List.map (D.int .i64) p.2),1)]) CC λ_ _ ⟨v66_2,b39_2⟩ h=>?_;simp only[Kk]at h;refine DI h (λh=>?_) λh=>?_
   ·refine Sy (f:=(D.int .i64)) h λx69 _ h=>?_
    conv=>whnf
    refine z14 ?_;refine OQ (f:=(D.int .i64)) h FK λx73 hx73 h=>?_;refine Yo (f:=(D.int .i64)) hx73 FK ?_;refine Sy (f:=(D.int .i64)) h λx77 _ h=>?_;refine OQ (f:=(D.int .i64)) h FK λx81 hx81 h=>?_;refine Yo (f:=(D.int .i64)) hx81 FK ?_
    conv=>whnf
    try rw[pb]
    exact fZ ⟨(_,(_,_)),h⟩ CC
   conv=>whnf
   try simp only[Kn]at h
   exact fZ ⟨(_,(_,_,_,_)),h⟩ CC
  conv=>whnf
  try simp only[Kn]at h
  exact⟨⟨(_,_,_),h⟩,CC⟩
 obtain⟨⟨k4_2,k5_2,k39_2⟩,h⟩:=p;simp only[Km]at h;refine FV h (λ_=>Kr _ _) λx85 h=>?_;refine FV h (λ_=>linear_Solve_w.h _ _ _) λx89 h=>?_;refine PD h λh=>?_;refine FV h (λ_=>Kr _ _) λx98 h=>?_;refine FV h (λ_=>linear_Ratio_w.h _ _ _) λx100 h=>?_;refine PD h λh=>?_;refine FV h (λ_=>regress_total_w.h _ _) λx109 h=>?_;refine PD h λh=>?_
 conv=>whnf
 obtain rfl:=P3 h;exact⟨fJ⟩⟩
end Go.Proofs.YthchnhoalhbkcaaGreatDoor.P
