/- P3W21 -/
import Derived.Test.YtkjijhldfdplgaaGreatDoorP3W14
import Derived.Test.YtkjijhldfdplgaaGreatDoorP3W20
open Go.Proofs.Tryz
set_option linter.all false
namespace Go.Proofs.YtkjijhldfdplgaaGreatDoor.P
open Go.Abs Go.Proofs
set_option maxRecDepth 100000
set_option maxHeartbeats 4000000
instance law22_awake_w:CS prog 8 (∀d:Nat,W0 prog 8 (JN d)):=⟨λd R h=>by
 refine uD func8 ?_;unfold JN at h
 conv=>whnf
 refine⟨.inr ?_⟩
 conv=>whnf
 refine⟨.inr ?_⟩;exact As⟩
instance {a0 a1}:LS (λa s=>QC a0 a1 a s.1 s.2) 21 [3,7,8] (λs=>[(9,.i s.1)]) [] (λs=>[(3,.row 1 3 (List.map D.z s.2),1)]):=⟨trivial⟩
instance law22_keysOf_w:CS prog 13 (W1 prog 13 Kq):=⟨λa R h=>by
 refine uD func13 ?_;unfold Kq at h;exact As⟩
instance law22_InterpretLineage_w:CS prog 3 (∀(d:Nat)(j:List Int)(i:Int)(R:Bool)(h:EY d j i=some R),Ay prog 3 [.l 1 (D.int .u8) j,.d (.int .u32 i)] (.b R)):=⟨λd j i R h=>by
 refine OT [15] func3 (by kernel_rfl) ?_;unfold EY at h;refine E9 h (λ_=>draw_New_w.h _ _) λr h=>?_;refine Vw h (λ_=>draw_Codes_Extract_w.h _ _ _ _) λc h=>?_;refine Vw h (λ_=>draw_Codes_Expr_w.h _ _ _ _ _) λb h=>?_;refine E9 h (λ_=>interpret_Eval_w.h _ _ _ _ _ _) λa h=>?_;refine Do h (λh=>?_) λh=>?_
 ·refine E9 h (λ_=>law22_awake_w.h _  _) λs h=>?_;exact ow h
 conv=>whnf
 refine QW h λhr h=>?_;refine z8 ?_;refine F3 {p:(List Int) // CP a c d b p=some R} (λp=>CY 108 [(8,.ptr 8 1 0),(9,.ptr 9 1 0),(10,.ptr 10 1 0),(11,.ptr 11 1 0),(13,.sl 45 1)] [(8,.var [.t c.2.2.1.Ae,.i c.2.2.1.Af,.l 2 Ad c.2.2.1.H,.l 1 (Am 1 D.z) c.2.2.1.C],1),(9,.var [.l 2 Ae c.1.At.K,.l 7 Ak c.1.At.A],1),(10,.var [.i b.1.Op,.i b.1.L,.t b.1.J,.i b.1.B,.l 1 D.z b.1.A,.l 2 Ad b.1.Y,.i b.1.X.Op,.i b.1.X.B,.i b.1.X.Z,.i b.1.X.D,.i b.1.X.E,.l 6 Az b.1.X.G,.i b.1.V.Op,.i b.1.V.B,.i b.1.V.Z,.i b.1.V.D,.i b.1.V.E,.l 6 Az b.1.V.G,.l 19 BY b.1.G],1),(11,.var [.i a.1.Kind,.i a.1.Number.L,.i a.1.Number.N,.l 2 Ad a.1.Table.Y,.i a.1.Table.Ag,.l 7 A5 a.1.Table.Al,.i a.1.Model.Ag,.l 1 D.z a.1.Model.An,.l 2 Bz a.1.Model.A1,.i a.1.Model.Ax.L,.i a.1.Model.Ax.N,.i a.1.Model.Ay.L,.i a.1.Model.Ay.N,.i a.1.Model.Ad,.i a.1.Model.Ba,.l 6 Bm a.1.Curve,.l 2 BX a.1.Hist,.i a.1.Box.Ad,.i a.1.Box.Bf,.i a.1.Box.Bh,.i a.1.Box.Bi,.i a.1.Box.Bj,.i a.1.Box.Bk,.l 1 D.z a.1.Lineage],1),(45,.row 1 3 (List.map D.z p.1),1)]) ?_ λp=>?_
 ·conv=>whnf
  refine z7 h (λp=>CY 108 [(1,.d (.int .u32 i)),(8,.ptr 8 1 0),(9,.ptr 9 1 0),(10,.ptr 10 1 0),(11,.ptr 11 1 0),(13,.sl 45 1),(47,.l 1 (Am 1 D.z) c.2.2.1.C),(48,.i (c.2.2.1.C.length:Int)),(49,.i p.1)] [(8,.var [.t c.2.2.1.Ae,.i c.2.2.1.Af,.l 2 Ad c.2.2.1.H,.l 1 (Am 1 D.z) c.2.2.1.C],1),(9,.var [.l 2 Ae c.1.At.K,.l 7 Ak c.1.At.A],1),(10,.var [.i b.1.Op,.i b.1.L,.t b.1.J,.i b.1.B,.l 1 D.z b.1.A,.l 2 Ad b.1.Y,.i b.1.X.Op,.i b.1.X.B,.i b.1.X.Z,.i b.1.X.D,.i b.1.X.E,.l 6 Az b.1.X.G,.i b.1.V.Op,.i b.1.V.B,.i b.1.V.Z,.i b.1.V.D,.i b.1.V.E,.l 6 Az b.1.V.G,.l 19 BY b.1.G],1),(11,.var [.i a.1.Kind,.i a.1.Number.L,.i a.1.Number.N,.l 2 Ad a.1.Table.Y,.i a.1.Table.Ag,.l 7 A5 a.1.Table.Al,.i a.1.Model.Ag,.l 1 D.z a.1.Model.An,.l 2 Bz a.1.Model.A1,.i a.1.Model.Ax.L,.i a.1.Model.Ax.N,.i a.1.Model.Ay.L,.i a.1.Model.Ay.N,.i a.1.Model.Ad,.i a.1.Model.Ba,.l 6 Bm a.1.Curve,.l 2 BX a.1.Hist,.i a.1.Box.Ad,.i a.1.Box.Bf,.i a.1.Box.Bh,.i a.1.Box.Bi,.i a.1.Box.Bj,.i a.1.Box.Bk,.l 1 D.z a.1.Lineage],1),(45,.row 1 3 (List.map D.z p.2),1)]) C3 λ_ _ ⟨k,l⟩ h=>?_;simp only[Jf]at h;refine Do h (λh=>?_) λh=>?_
  ·refine QX (f:=(Am 1 D.z)) h λt _ h=>?_
   conv=>whnf
   refine⟨by omega,?_⟩
   conv=>whnf
   refine QW h λhr h=>?_;refine⟨tb hr,?_⟩;refine Do h (λh=>?_) λh=>?_
   ·refine QX (f:=D.z) h λx63 _ h=>?_
    conv=>whnf
    refine QW h λhr h=>?_;refine z8 ?_
    try rw[jl]
    exact z34
   exact z34
  conv=>whnf
  try simp only[FL]at h
  exact⟨⟨_,h⟩,C3⟩
 obtain⟨e,h⟩:=p;simp only[CP]at h
 conv=>whnf
 refine z7 h (λp=>CY 108 [(8,.ptr 8 1 0),(9,.ptr 9 1 0),(10,.ptr 10 1 0),(11,.ptr 11 1 0),(71,.sl 71 1),(72,.i ([a.1.Lineage,e].length:Int)),(73,.i p)] [(8,.var [.t c.2.2.1.Ae,.i c.2.2.1.Af,.l 2 Ad c.2.2.1.H,.l 1 (Am 1 D.z) c.2.2.1.C],1),(9,.var [.l 2 Ae c.1.At.K,.l 7 Ak c.1.At.A],1),(10,.var [.i b.1.Op,.i b.1.L,.t b.1.J,.i b.1.B,.l 1 D.z b.1.A,.l 2 Ad b.1.Y,.i b.1.X.Op,.i b.1.X.B,.i b.1.X.Z,.i b.1.X.D,.i b.1.X.E,.l 6 Az b.1.X.G,.i b.1.V.Op,.i b.1.V.B,.i b.1.V.Z,.i b.1.V.D,.i b.1.V.E,.l 6 Az b.1.V.G,.l 19 BY b.1.G],1),(11,.var [.i a.1.Kind,.i a.1.Number.L,.i a.1.Number.N,.l 2 Ad a.1.Table.Y,.i a.1.Table.Ag,.l 7 A5 a.1.Table.Al,.i a.1.Model.Ag,.l 1 D.z a.1.Model.An,.l 2 Bz a.1.Model.A1,.i a.1.Model.Ax.L,.i a.1.Model.Ax.N,.i a.1.Model.Ay.L,.i a.1.Model.Ay.N,.i a.1.Model.Ad,.i a.1.Model.Ba,.l 6 Bm a.1.Curve,.l 2 BX a.1.Hist,.i a.1.Box.Ad,.i a.1.Box.Bf,.i a.1.Box.Bh,.i a.1.Box.Bi,.i a.1.Box.Bj,.i a.1.Box.Bk,.l 1 D.z a.1.Lineage],1),(71,.row 1 31 (List.map (Am 1 D.z) [a.1.Lineage,e]),1)]) C3 λ_ _ m h=>?_;simp only[Jg]at h;refine Do h (λh=>?_) λh=>?_
 ·refine Ph (f:=(Am 1 D.z)) h FK λu g h=>?_;refine Zc (f:=(Am 1 D.z)) g FK ?_
  conv=>whnf
  refine z13 ?_;refine E9 h (λ_=>ref13_Narrow_w.h _ _ _) λv h=>?_;refine E9 h (λ_=>interpret_Eval_w.h _ _ _ _ _ _) λw h=>?_;refine Oy h λh=>?_;refine E9 h (λ_=>ref22_SameValue_w.h _ _ _) λx h=>?_;refine Oy h λh=>?_
  conv=>whnf
  exact cz ⟨(_,_),h⟩ C3
 conv=>whnf
 try simp only[FL]at h
 refine z13 ?_;refine E9 h (λ_=>ref15_Valid_w.h _ _) λy h=>?_;refine Do h (λh=>?_) λh=>?_
 ·refine E9 h (λ_=>law22_keysOf_w.h _ _) λn h=>?_;refine E9 h (λ_=>ref15_Within_w.h _ _ _) λo h=>?_;refine rk h λh=>?_;refine E9 h (λ_=>law22_awake_w.h _  _) λq h=>?_;exact ow h
 obtain rfl:=sY h;exact⟨c9⟩⟩
