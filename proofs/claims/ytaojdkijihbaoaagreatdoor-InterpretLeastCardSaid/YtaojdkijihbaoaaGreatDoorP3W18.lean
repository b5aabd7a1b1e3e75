/- P3W18 -/
import Derived.Test.YtaojdkijihbaoaaGreatDoorP3W17
open Go.Proofs.Tryz
set_option linter.all false
namespace Go.Proofs.YtaojdkijihbaoaaGreatDoor.P
open Go.Abs Go.Proofs
set_option maxRecDepth 100000
set_option maxHeartbeats 4000000
instance {a0 a1 a2}:LS (λa s=>K2 a0 a1 a2 a s.1 s.2) 40 [2,6] (λs=>[(5,.l 2 Ah s.1),(7,.i s.2)]) [2] (λs=>[]):=⟨trivial⟩
instance {a0 a1 a2 a3}:LS (λa s=>NR a0 a1 a2 a3 a s) 40 [2,5,6,7] (λs=>[(8,.i s)]) [2] (λs=>[]):=⟨trivial⟩
instance ref05_Needs_w:CS prog 58 (∀d:Nat,W2 prog 58 (I0 d)):=⟨λd a b R h=>by
 refine uD func58 ?_;unfold I0 at h;exact Aq⟩
instance {a0 a1 a2 a3 a4 a5}:LS (λa s=>L8 a0 a1 a2 a3 a4 a5 a s) 121 [1,2,3,4,10] (λs=>[(11,.i s)]) [4] (λs=>[]):=⟨trivial⟩
instance {a0 a1 a2 a3 a4 a5 a6}:LS (λa s=>L9 a0 a1 a2 a3 a4 a5 a6 a s) 121 [1,2,3,4,10,11] (λs=>[(12,.i s)]) [4] (λs=>[]):=⟨trivial⟩
instance {a0 a1 a2 a3}:LS (λa s=>Px a0 a1 a2 a3 a s.1 s.2) 121 [2,9,13] (λs=>[(14,.i s.1),(15,.i s.2)]) [9] (λs=>[]):=⟨trivial⟩
instance ref02_divides_w:CS prog 111 (W4 prog 111 Fg):=⟨λa b p2 p3 R h=>by
 refine uD func111 ?_;unfold Fg at h;exact Aq⟩
instance {a0 a1 a2 a3}:LS (λa s=>GN a0 a1 a2 a3 a s) 23 [1,2,3] (λs=>[(7,.i s)]) [3] (λs=>[]):=⟨trivial⟩
instance ref02_Least_w:CS prog 59 (W3 prog 59 DT):=⟨λa b p2 R h=>by
 refine uD func59 ?_;unfold DT at h;exact Aq⟩
instance ref09_Uses_w:CS prog 60 (W2 prog 60 NY):=⟨λa b R h=>by
 refine uD func60 ?_;unfold NY at h;exact Aq⟩
instance {a0 a1}:LS (λa s=>KA a0 a1 a s.1 s.2) 92 [2,3,6] (λs=>[(5,.l 2 Ah s.1),(7,.i s.2)]) [2,3] (λs=>[]):=⟨trivial⟩
instance {a0 a1 a2}:LS (λa s=>KB a0 a1 a2 a s.1 s.2) 92 [2,3] (λs=>[(5,.l 2 Ah s.1),(8,.i s.2)]) [2,3] (λs=>[]):=⟨trivial⟩
instance {a0 a1 a2}:LS (λa s=>KC a0 a1 a2 a s.1 s.2) 92 [2,3] (λs=>[(5,.l 2 Ah s.1),(9,.i s.2)]) [2,3] (λs=>[]):=⟨trivial⟩
instance ref09_Needs_w:CS prog 26 (∀d:Nat,W2 prog 26 (JO d)):=⟨λd a b R h=>by
 refine WA [10] func26 ?_;unfold JO at h;refine Fx h (λ_=>ref08_Question_w.h _ _ _ _) λe h=>?_;refine EA h (λh=>?_) λh=>?_
 ·exact Aq
 refine Fx h (λ_=>ref05_Needs_w.h _ _ _ _) λf h=>?_;refine Gj {p:(List Ac) // KD b a p=some R} (λp=>Dk 92 [(2,.ptr 2 1 0),(3,.ptr 3 1 0),(5,.l 2 Ah p.1)] [(2,BN a,1),(3,R3 b,1)]) ?_ λp=>?_
 ·exact Aq
 obtain⟨c,h⟩:=p;exact Aq⟩
instance {a0 a1 a2 a3}:LS (λa s=>LY a0 a1 a2 a3 a s.1 s.2) 50 [2,3] (λs=>[(7,.l 2 Ah s.1),(8,.i s.2)]) [2,3] (λs=>[]):=⟨trivial⟩
instance {a0 a1}:LS (λa s=>LZ a0 a1 a s.1 s.2) 50 [2,3,8,9] (λs=>[(7,.l 2 Ah s.1),(10,.i s.2)]) [2,3] (λs=>[]):=⟨trivial⟩
instance ref10_Plan_w:CS prog 7 (∀d:Nat,W2 prog 7 (NZ d)):=⟨λd a b R h=>by
 refine uD func7 ?_;unfold NZ at h;exact Aq⟩
instance {a0 a1 a2}:LS (λa s=>ON a0 a1 a2 a s) 32 [1,2] (λs=>[(5,.i s)]) [2] (λs=>[]):=⟨trivial⟩
instance ref04_Find_w:CS prog 32 (W2 prog 32 Iz):=⟨λa b R h=>by
 refine uD func32 ?_;unfold Iz at h;exact Aq⟩
instance {a0 a1 a2}:LS (λa s=>MZ a0 a1 a2 a s) 32 [1,2] (λs=>[(6,.i s)]) [2] (λs=>[]):=⟨trivial⟩
instance ref02_Row_w:CS prog 62 (W2 prog 62 Nm):=⟨λa b R h=>by
 refine uD func62 ?_;unfold Nm at h;exact Aq⟩
instance {a0 a1}:LS (λa s=>Kx a0 a1 a s) 118 [1] (λs=>[(3,.i s)]) [1] (λs=>[]):=⟨trivial⟩
instance {a0 a1}:LS (λa s=>NM a0 a1 a s) 118 [1] (λs=>[(4,.i s)]) [1] (λs=>[]):=⟨trivial⟩
instance ref04_Valid_w:CS prog 29 (W1 prog 29 JL):=⟨λa R h=>by
 refine WA [8] func29 ?_;unfold JL at h;refine Fx h (λ_=>ref02_Check_w.h _ _) λb h=>?_;refine EA h (λh=>?_) λh=>?_
 ·exact Aq
 refine Gj {p:Unit // NN a=some R} (λp=>Dk 118 [(1,.ptr 1 1 0)] [(1,Qf a,1)]) ?_ λp=>?_
 ·exact Aq
 obtain⟨_,h⟩:=p;exact Aq⟩
instance {a0 a1 a2}:LS (λa s=>Kv a0 a1 a2 a s) 44 [1,2] (λs=>[(6,.i s)]) [2] (λs=>[]):=⟨trivial⟩
instance ref02_Picks_w:CS prog 63 (W2 prog 63 JK):=⟨λa b R h=>by
 refine uD func63 ?_;unfold JK at h;exact Aq⟩
instance {a0 a1 a2}:LS (λa s=>Ju a0 a1 a2 a s) 49 [0,1] (λs=>[(5,.i s)]) [] (λs=>[]):=⟨trivial⟩
instance {a0 a1 a2 a3}:LS (λa s=>Jv a0 a1 a2 a3 a s.1 s.2) 49 [0,1,5] (λs=>[(6,.b s.1),(7,.i s.2)]) [] (λs=>[]):=⟨trivial⟩
instance ref05_Covers_w:CS prog 115 (W2 prog 115 Kz):=⟨λa b R h=>by
 refine uD func115 ?_;unfold Kz at h;exact Aq⟩
instance ref09_Suffice_w:CS prog 64 (∀d:Nat,W3 prog 64 (LX d)):=⟨λd a b p2 R h=>by
 refine uD func64 ?_;unfold LX at h;exact Aq⟩
instance {a0 a1 a2 a3 a4}:LS (λa s=>Rp a0 a1 a2 a3 a4 a s) 38 [2,3,4] (λs=>[(9,.i s)]) [3,4] (λs=>[]):=⟨trivial⟩
instance ref10_Check_w:CS prog 30 (∀d:Nat,W3 prog 30 (Mu d)):=⟨λd a b p2 R h=>by
 refine uD func30 ?_;unfold Mu at h;exact Aq⟩
instance ref05_join_w:CS prog 185 (W2 prog 185 NW):=⟨λa b R h=>by
 refine uD func185 ?_;unfold NW at h;exact Aq⟩
instance {a0 a1 a2 a3 a4}:LS (λa s=>SI a0 a1 a2 a3 a4 a s.1 s.2) 52 [2,3,4,7] (λs=>[(8,.i s.1)]) [3,4] (λs=>[(7,.row 1 3 (List.map D.z s.2),1)]):=⟨trivial⟩
theorem YP(d:Nat)(a:Aa->Ad->(List Int)->Option Int)(ih:W3 prog 116 a):W3 prog 116 (K5 d a):=by
 intro b c p2 R h;refine uD func116 ?_;unfold K5 at h;exact Aq
theorem SJ:∀d:Nat,(W3 prog 116 (LE d))
 | 0=>by
  exact z16
 | d+1=>by
  have ih:=SJ d;exact YP d _ ih
instance ref05_eval_w:CS prog 116 (∀(d:Nat),W3 prog 116 (LE d)):=⟨λd=>SJ d⟩
instance ref05_Eval_w:CS prog 65 (∀d:Nat,W3 prog 65 (NP d)):=⟨λd a b p2 R h=>by
 refine uD func65 ?_;unfold NP at h;exact Aq⟩
instance ref11_Check_w:CS prog 117 (W1 prog 117 Mv):=⟨λa R h=>by
 refine uD func117 ?_;unfold Mv at h;exact Aq⟩
instance {a0}:LS (λa s=>SP a0 a s.1 s.2) 29 [] (λs=>[(5,.d (.int .u64 s.1)),(6,.i s.2)]) [] (λs=>[]):=⟨trivial⟩
instance ref11_Draw_w:CS prog 118 (W2 prog 118 PX):=⟨λa b R h=>by
 refine uD func118 ?_;unfold PX at h;exact Aq⟩
instance ref11_In_w:CS prog 66 (W2 prog 66 Rq):=⟨λa b R h=>by
 refine uD func66 ?_;unfold Rq at h;exact Aq⟩
instance {a0 a1 a2 a3}:LS (λa s=>Qv a0 a1 a2 a3 a s.1 s.2) 58 [2,3,5] (λs=>[(6,.i s.1)]) [2,3] (λs=>[(5,.row 1 3 (List.map D.z s.2),1)]):=⟨trivial⟩
instance ref13_Owners_w:CS prog 31 (∀d:Nat,W2 prog 31 (KG d)):=⟨λd a b R h=>by
 refine WA [3] func31 ?_;unfold KG at h;refine Gj {p:Unit // M6 a d b=some R} (λp=>Dk 58 [(2,.ptr 2 1 0),(3,.ptr 3 1 0)] [(2,Qf a,1),(3,La b,1)]) ?_ λp=>?_
 ·exact Aq
 obtain⟨_,h⟩:=p;exact Aq⟩
instance ref12_right_w:CS prog 67 (W2 prog 67 O9):=⟨λa b R h=>by
 refine uD func67 ?_;unfold O9 at h;exact Aq⟩
instance {a0}:LS (λa s=>KE a0 a s.1 s.2) 54 [] (λs=>[(7,.d (.int .u64 s.1)),(8,.i s.2)]) [] (λs=>[]):=⟨trivial⟩
instance ref12_Round_w:CS prog 68 (W3 prog 68 Mw):=⟨λa b p2 R h=>by
 refine uD func68 ?_;unfold Mw at h;exact Aq⟩
instance {a0 a1}:LS (λa s=>Nb a0 a1 a s.1 s.2.1 s.2.2) 31 [0] (λs=>[(5,.i s.1),(6,.i s.2.1),(7,.i s.2.2)]) [] (λs=>[]):=⟨trivial⟩
instance ref12_Key_w:CS prog 33 (W2 prog 33 LF):=⟨λa b R h=>by
 refine uD func33 ?_;unfold LF at h;exact Aq⟩
