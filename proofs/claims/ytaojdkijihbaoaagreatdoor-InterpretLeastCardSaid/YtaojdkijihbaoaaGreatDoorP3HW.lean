/- P3HW -/
import Derived.Test.YtaojdkijihbaoaaGreatDoorChecked
import Derived.Test.YtaojdkijihbaoaaGreatDoorLaid
import Derived.Shelf.Strconv.Itoa3
import Derived.Test.YtaojdkijihbaoaaGreatDoorP3U
open Go.Proofs.Tryz
set_option linter.all false
namespace Go.Proofs.YtaojdkijihbaoaaGreatDoor.P
open Go.Abs Go.Proofs
set_option maxRecDepth 100000
set_option maxHeartbeats 4000000
theorem Bg(c:List Int)(R:List Int)(d:Ba c=some R):Ax prog 38 [.d (Ao 1 (D.int .i64) c)] (.own 1 3 (List.map (D.int .i64) R)):=by
 obtain⟨hr,d⟩:=Wj d;obtain rfl:=uc d;refine Du func38 (by kernel_rfl) ?_
 conv=>whnf
 refine⟨λb e=>?_⟩
 cases b
 ·conv=>whnf
  refine⟨by(simp only[ua];exact Dg hr (uf (by kernel_rfl)) (.inr (by kernel_rfl))),?_⟩
  conv=>whnf
  refine⟨.inr ?_⟩
  conv=>whnf
  refine⟨?_,?_⟩
  ·intro x hx y hy;obtain⟨n,_,rfl⟩:=List.mem_map.1 hx;simp[D.cells]at hy;subst hy;rfl
  ·conv=>whnf
   exact⟨rfl⟩
 ·conv=>whnf
  have:c=[]:=by
   cases c with
   | nil=>rfl
   | cons a r=>exact absurd (e (by simp)) (by simp)
  subst this;refine⟨.inr ?_⟩
  conv=>whnf
  refine⟨λx hx=>absurd hx (by simp),?_⟩
  conv=>whnf
  exact⟨rfl⟩
theorem KU(a:List Int)(R:List Int)(b:R1 a=some R):Fz prog 234 [.own 1 3 (List.map (D.int .i64) a)] [.own 1 3 (List.map (D.int .i64) R)] (.tup []):=by
 obtain⟨hr,b⟩:=Wj b;obtain rfl:=uc b;have h:=uf hr;exact q8 lays189 (by kernel_rfl) 3 a (by omega)
theorem DC(c:Int)(R:ByteArray)(d:Dh c=some R):Ax prog 20 [.d (.int .i64 c)] (.d (.str R)):=by
 obtain⟨hr,d⟩:=Wj d;obtain rfl:=uc d;obtain⟨g,j⟩:=uf hr;obtain⟨i,rfl⟩:∃i:Nat,c=i:=⟨c.toNat,by omega⟩;rw[uv];refine⟨by kernel_rfl,λO w vs k m b a=>?_⟩
 obtain⟨v,rfl⟩:∃v,vs=#[v]:=by
  obtain⟨l⟩:=vs
  match l,b with
  | [v],_=>exact⟨v,rfl⟩
 have f:=AJ (a 0 v _ rfl rfl);subst f;refine(Any.strconv_Itoa_small lays171 i (by omega) w).mono λe w' h=>?_;obtain⟨rfl,rfl⟩:=h;exact⟨_,rfl,Go.RowKit.Below.refl _ _,.str _⟩
instance:CS prog 38 (type_of% @Bg):=⟨@Bg⟩
instance:CS prog 234 (type_of% @KU):=⟨@KU⟩
instance:CS prog 20 (type_of% @DC):=⟨@DC⟩
