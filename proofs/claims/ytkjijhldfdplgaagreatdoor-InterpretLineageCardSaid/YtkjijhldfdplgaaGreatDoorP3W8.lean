/- P3W8 -/
import Derived.Test.YtkjijhldfdplgaaGreatDoorP3W1
import Derived.Test.YtkjijhldfdplgaaGreatDoorFD
set_option linter.all false
namespace Go.Proofs.YtkjijhldfdplgaaGreatDoor.P
open Go Go.Deep Go.Abs Go.Proofs
set_option maxRecDepth 100000
set_option maxHeartbeats 4000000
instance tabulate_lists_w:CS Tryz.prog 128 (W2 Tryz.prog 128 FD):=⟨λe i R h=>by
 refine OT [2000001] Tryz.func128 (by kernel_rfl) ?_;unfold FD at h
 conv=>whnf
 refine Bi h λx s h=>?_;refine m6 (CY 69 [(1,.l 2 Ad i),(2,.ptr 2 1 0)] [(2,.var [.l 2 Ae e.K,.l 7 Ak e.A],1)]) Unit (λ_=>CY 69 [(1,.l 2 Ad i),(2,.ptr 2 1 0),(6,.sl 15 1)] [(2,.var [.l 2 Ae e.K,.l 7 Ak e.A],1),(15,.row 1 31 (List.map (Am 1 D.z) x),1)]) ?_ ?_ λ_=>?_
 ·exact C3
 ·intro X β a w o;obtain⟨tm,df⟩:=a;obtain⟨z,rfl⟩:∃l:List Value,tm=l.toArray:=⟨tm.toList,by simp⟩;have g:z.length=69:=o.len;obtain rfl:df=[]:=o.df
  iterate 8 (replace g:=UP g;obtain⟨_,_,_,_,_,_,_,_,z,rfl,g⟩:=g)
  iterate 5 (replace g:=E4 g;obtain⟨_,z,rfl,g⟩:=g)
  obtain rfl:=List.length_eq_zero_iff.1 g;clear g;have F:Aside _:=o;clear o;obtain rfl:=sY s;refine UL λK k=>?_
  go_wp2
  have o:=F.out
  refine k.out _ _ ⟨(),_,o.exitNew [1,2] (q:=15) (t:=6) (by decide) (by decide) (by simp) (by simp) (by simp[AV.guards]) rfl rfl (by simp) rfl (Ix _ _) (by decide) (by simp[D.cells]) (λb G=>by simp[Af]at G;omega)
   ⟨[.slice none 0 0],.inl ⟨rfl,.inr ⟨w.heap.size,1,_,rfl,sZ _,heap_alloc_new w _,td _,by decide,rfl,rfl⟩⟩,λO=>⟨rfl,λj v y r hy=>?_⟩⟩⟩
  match j,r,hy with
  | 0,r,hy=>simp[D.cells]at r hy;subst r;subst hy;exact⟨.emp _ _ _,rfl⟩
  | j+1,r,hy=>simp at r
 conv=>whnf
 refine z7 h (λp=>CY 69 [(2,.ptr 2 1 0),(6,.l 1 (Am 1 D.z) p.1),(16,.l 2 Ad i),(17,.i (i.length:Int)),(18,.i p.2)] [(2,.var [.l 2 Ae e.K,.l 7 Ak e.A],1)]) C3 λ_ _ ⟨c,d⟩ h=>?_;simp only[EE]at h;refine Do h (λh=>?_) λh=>?_
 ·refine QX (f:=Ad) h λH _ h=>?_
  conv=>whnf
  refine z13 ?_;refine QX (f:=Ak) h λI _ h=>?_;refine QX (f:=Ae) h λJ _ h=>?_;refine E9 h (λ_=>codes_At_w.h _ _ _) λm h=>?_
  conv=>whnf
  refine QW h λhr h=>?_;refine z8 ?_
  try rw[pa]
  refine Do h (λh=>?_) λh=>?_
  ·conv=>whnf
   exact z26
  conv=>whnf
  refine z7 h (λp=>CY 69 [(2,.ptr 2 1 0),(9,.sl 22 1),(10,.sl 10 1),(16,.l 2 Ad i),(17,.i (i.length:Int)),(18,.i d),(44,.l 1 (Am 1 D.z) c),(45,.i (c.length:Int)),(46,.i p.1)] [(2,.var [.l 2 Ae e.K,.l 7 Ak e.A],1),(10,.row 1 31 (List.map (Am 1 D.z) p.2),1),(22,.row 1 3 (List.map D.z ([(-1)]++m)),1)]) C3 λ_ _ ⟨n,A⟩ h=>?_;simp only[OL]at h;refine Do h (λh=>?_) λh=>?_
  ·refine QX (f:=(Am 1 D.z)) h λB _ h=>?_
   conv=>whnf
   refine z7 h (λp=>CY 69 [(2,.ptr 2 1 0),(9,.sl 22 1),(10,.sl 10 1),(12,.l 1 D.z B),(16,.l 2 Ad i),(17,.i (i.length:Int)),(18,.i d),(44,.l 1 (Am 1 D.z) c),(45,.i (c.length:Int)),(46,.i n),(50,.sl 22 1),(51,.i (([(-1)]++m).length:Int)),(52,.i p.1)] [(2,.var [.l 2 Ae e.K,.l 7 Ak e.A],1),(10,.row 1 31 (List.map (Am 1 D.z) p.2),1),(22,.row 1 3 (List.map D.z ([(-1)]++m)),1)]) C3 λ_ _ ⟨C,E⟩ h=>?_;simp only[OM]at h;refine Do h (λh=>?_) λh=>?_
   ·refine Ph (f:=D.z) h FK λL u h=>?_;refine Zc (f:=D.z) u FK ?_;refine E9 h (λ_=>AX _ _) λM h=>?_
    conv=>whnf
    refine QW h λhr h=>?_;refine z8 ?_
    try rw[jl]
    conv=>whnf
    refine QW h λhr h=>?_;refine z8 ?_
    try rw[jm]
    exact z34
   exact z34
  exact z34
 conv=>whnf
 obtain rfl:=sY h;exact⟨c9⟩⟩
