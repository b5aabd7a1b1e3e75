/- P3W9 -/
import Derived.Test.YtaojdkijihbaoaaGreatDoorP3W2
import Derived.Test.YtaojdkijihbaoaaGreatDoorFD
set_option linter.all false
namespace Go.Proofs.YtaojdkijihbaoaaGreatDoor.P
open Go Go.Deep Go.Abs Go.Proofs
set_option maxRecDepth 100000
set_option maxHeartbeats 4000000
instance tabulate_lists_w:CS Tryz.prog 150 (W2 Tryz.prog 150 I6):=⟨λe i R h=>by
 refine Q7 [2000001] Tryz.func150 (by kernel_rfl) ?_;unfold I6 at h
 conv=>whnf
 refine BD h λx s h=>?_;refine mz (Dk 69 [(1,.l 2 Ah i),(2,.ptr 2 1 0)] [(2,.var [.l 2 Ai e.K,.l 7 Am e.A],1)]) Unit (λ_=>Dk 69 [(1,.l 2 Ah i),(2,.ptr 2 1 0),(6,.sl 15 1)] [(2,.var [.l 2 Ai e.K,.l 7 Am e.A],1),(15,.row 1 30 (List.map (Ao 1 D.z) x),1)]) ?_ ?_ λ_=>?_
 ·exact EB
 ·intro X β a w o;obtain⟨tm,df⟩:=a;obtain⟨z,rfl⟩:∃l:List Value,tm=l.toArray:=⟨tm.toList,by simp⟩;have g:z.length=69:=o.len;obtain rfl:df=[]:=o.df
  iterate 8 (replace g:=U9 g;obtain⟨_,_,_,_,_,_,_,_,z,rfl,g⟩:=g)
  iterate 5 (replace g:=E7 g;obtain⟨_,z,rfl,g⟩:=g)
  obtain rfl:=List.length_eq_zero_iff.1 g;clear g;have F:Aside _:=o;clear o;obtain rfl:=uc s;refine U1 λK k=>?_
  go_wp2
  have o:=F.out
  refine k.out _ _ ⟨(),_,o.exitNew [1,2] (q:=15) (t:=6) (by decide) (by decide) (by simp) (by simp) (by simp[AV.guards]) rfl rfl (by simp) rfl (Ik _ _) (by decide) (by simp[D.cells]) (λb G=>by simp[Ae]at G;omega)
   ⟨[.slice none 0 0],.inl ⟨rfl,.inr ⟨w.heap.size,1,_,rfl,ug _,heap_alloc_new w _,uh _,by decide,rfl,rfl⟩⟩,λO=>⟨rfl,λj v y r hy=>?_⟩⟩⟩
  match j,r,hy with
  | 0,r,hy=>simp[D.cells]at r hy;subst r;subst hy;exact⟨.emp _ _ _,rfl⟩
  | j+1,r,hy=>simp at r
 conv=>whnf
 refine z7 h (λp=>Dk 69 [(2,.ptr 2 1 0),(6,.l 1 (Ao 1 D.z) p.1),(16,.l 2 Ah i),(17,.i (i.length:Int)),(18,.i p.2)] [(2,.var [.l 2 Ai e.K,.l 7 Am e.A],1)]) EB λ_ _ ⟨c,d⟩ h=>?_;simp only[Ig]at h;refine EA h (λh=>?_) λh=>?_
 ·refine Sk (f:=Ah) h λH _ h=>?_
  conv=>whnf
  refine z13 ?_;refine Sk (f:=Am) h λI _ h=>?_;refine Sk (f:=Ai) h λJ _ h=>?_;refine Fx h (λ_=>codes_At_w.h _ _ _) λm h=>?_
  conv=>whnf
  refine S3 h λhr h=>?_;refine z8 ?_
  try rw[pt]
  refine EA h (λh=>?_) λh=>?_
  ·conv=>whnf
   obtain rfl:=uc h;refine⟨.inl ?_⟩
   conv=>whnf
   exact⟨kX⟩
  conv=>whnf
  refine z7 h (λp=>Dk 69 [(2,.ptr 2 1 0),(9,.sl 22 1),(10,.sl 10 1),(16,.l 2 Ah i),(17,.i (i.length:Int)),(18,.i d),(44,.l 1 (Ao 1 D.z) c),(45,.i (c.length:Int)),(46,.i p.1)] [(2,.var [.l 2 Ai e.K,.l 7 Am e.A],1),(10,.row 1 30 (List.map (Ao 1 D.z) p.2),1),(22,.row 1 3 (List.map D.z ([(-1)]++m)),1)]) EB λ_ _ ⟨n,A⟩ h=>?_;simp only[OD]at h;refine EA h (λh=>?_) λh=>?_
  ·refine Sk (f:=(Ao 1 D.z)) h λB _ h=>?_
   conv=>whnf
   refine z7 h (λp=>Dk 69 [(2,.ptr 2 1 0),(9,.sl 22 1),(10,.sl 10 1),(12,.l 1 D.z B),(16,.l 2 Ah i),(17,.i (i.length:Int)),(18,.i d),(44,.l 1 (Ao 1 D.z) c),(45,.i (c.length:Int)),(46,.i n),(50,.sl 22 1),(51,.i (([(-1)]++m).length:Int)),(52,.i p.1)] [(2,.var [.l 2 Ai e.K,.l 7 Am e.A],1),(10,.row 1 30 (List.map (Ao 1 D.z) p.2),1),(22,.row 1 3 (List.map D.z ([(-1)]++m)),1)]) EB λ_ _ ⟨C,E⟩ h=>?_;simp only[OE]at h;refine EA h (λh=>?_) λh=>?_
   ·refine gm (f:=D.z) h Ld λL u h=>?_;refine qP (f:=D.z) u Ld ?_;refine Fx h (λ_=>Bg _ _) λM h=>?_
    conv=>whnf
    refine S3 h λhr h=>?_;refine z8 ?_
    try rw[nY]
    conv=>whnf
    refine S3 h λhr h=>?_;refine z8 ?_
    try rw[jb]
    conv=>whnf
    exact kW ⟨(_,(_,_)),h⟩ EB
   conv=>whnf
   exact kW ⟨(_,(_,_)),h⟩ EB
  conv=>whnf
  exact kW ⟨(_,(_,_)),h⟩ EB
 conv=>whnf
 obtain rfl:=uc h;exact⟨kX⟩⟩
