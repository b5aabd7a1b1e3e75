/- P3HW -/
import Derived.Test.YtkjijhldfdplgaaGreatDoorChecked
import Derived.Test.YtkjijhldfdplgaaGreatDoorLaid
import Derived.Shelf.Strconv.Itoa3
import Derived.Test.YtkjijhldfdplgaaGreatDoorP3U
open Go.Proofs.Tryz
set_option linter.all false
namespace Go.Proofs.YtkjijhldfdplgaaGreatDoor.P
open Go.Abs Go.Proofs
set_option maxRecDepth 100000
set_option maxHeartbeats 4000000
theorem AX(c:List Int)(R:List Int)(d:AG c=some R):Ay prog 70 [.d (Am 1 (D.int .i64) c)] (.own 1 3 (List.map (D.int .i64) R)):=by
 obtain⟨hr,d⟩:=WE d;obtain rfl:=sY d;refine D2 func70 (by kernel_rfl) ?_
 conv=>whnf
 refine⟨λb e=>?_⟩
 cases b
 ·conv=>whnf
  refine⟨by(simp only[sX];exact C8 hr (tb (by kernel_rfl)) (.inr (by kernel_rfl))),?_⟩
  conv=>whnf
  refine⟨.inr ?_⟩
  conv=>whnf
  refine⟨?_,?_⟩
  ·intro x hx y hy;obtain⟨n,_,rfl⟩:=List.mem_map.1 hx;simp[D.cells]at hy;subst hy;rfl
  ·conv=>whnf
   exact⟨rfl⟩
 ·conv=>whnf
  have:c=[]:=by
   cases c with
   | nil=>rfl
   | cons a r=>exact absurd (e (by simp)) (by simp)
  subst this;refine⟨.inr ?_⟩
  conv=>whnf
  refine⟨λx hx=>absurd hx (by simp),?_⟩
  conv=>whnf
  exact⟨rfl⟩
theorem Fa(a:List Int)(R:List Int)(b:Du a=some R):DU prog 215 [.own 1 3 (List.map (D.int .i64) a)] [.own 1 3 (List.map (D.int .i64) R)] (.tup []):=by
 obtain⟨hr,b⟩:=WE b;obtain rfl:=sY b;have h:=tb hr;exact qb lays189 (by kernel_rfl) 3 a (by omega)
theorem DN(c:Int)(R:ByteArray)(d:Dl c=some R):Ay prog 42 [.d (.int .i64 c)] (.d (.str R)):=by
 obtain⟨hr,d⟩:=WE d;obtain rfl:=sY d;obtain⟨g,j⟩:=tb hr;obtain⟨i,rfl⟩:∃i:Nat,c=i:=⟨c.toNat,by omega⟩;rw[tu];refine⟨by kernel_rfl,λO w vs k m b a=>?_⟩
 obtain⟨v,rfl⟩:∃v,vs=#[v]:=by
  obtain⟨l⟩:=vs
  match l,b with
  | [v],_=>exact⟨v,rfl⟩
 have f:=AT (a 0 v _ rfl rfl);subst f;refine(Any.strconv_Itoa_small lays171 i (by omega) w).mono λe w' h=>?_;obtain⟨rfl,rfl⟩:=h;exact⟨_,rfl,Go.RowKit.Below.refl _ _,.str _⟩
instance:CS prog 70 (type_of% @AX):=⟨@AX⟩
instance:CS prog 215 (type_of% @Fa):=⟨@Fa⟩
instance:CS prog 42 (type_of% @DN):=⟨@DN⟩
