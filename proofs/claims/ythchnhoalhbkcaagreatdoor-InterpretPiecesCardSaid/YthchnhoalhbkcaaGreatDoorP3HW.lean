/- P3HW -/
import Derived.Test.YthchnhoalhbkcaaGreatDoorChecked
import Derived.Test.YthchnhoalhbkcaaGreatDoorLaid
import Derived.Shelf.Strconv.Itoa3
import Derived.Test.YthchnhoalhbkcaaGreatDoorP3U
open Go.Proofs.Tryz
set_option linter.unusedVariables false
set_option linter.unusedSimpArgs false
namespace Go.Proofs.YthchnhoalhbkcaaGreatDoor.P
open Go.Abs Go.Proofs
set_option maxRecDepth 100000
set_option maxHeartbeats 4000000
theorem Bt(p0:List Int)(R:List Int)(hF:AC p0=some R):Ax prog 56 [.d (An 1 (D.int .i64) p0)] (.own 1 3 (List.map (D.int .i64) R)):=by
 obtain⟨hr,hF⟩:=Vv hF;obtain rfl:=P3 hF;refine Da func56 (by kernel_rfl) ?_
 conv=>whnf
 refine⟨λb hb=>?_⟩
 cases b
 ·conv=>whnf
  refine⟨by(simp only[pX];exact CG hr (pZ (by kernel_rfl)) (.inr (by kernel_rfl))),?_⟩
  conv=>whnf
  refine⟨.inr ?_⟩
  conv=>whnf
  refine⟨?_,?_⟩
  ·intro x hx y hy;obtain⟨n,_,rfl⟩:=List.mem_map.1 hx;simp[D.cells]at hy;subst hy;rfl
  ·conv=>whnf
   exact⟨rfl⟩
 ·conv=>whnf
  have:p0=[]:=by
   cases p0 with
   | nil=>rfl
   | cons a r=>exact absurd (hb (by simp)) (by simp)
  subst this;refine⟨.inr ?_⟩
  conv=>whnf
  refine⟨λx hx=>absurd hx (by simp),?_⟩
  conv=>whnf
  exact⟨rfl⟩
theorem Ev(p0:List Int)(R:List Int)(hF:CR p0=some R):Dl prog 198 [.own 1 3 (List.map (D.int .i64) p0)] [.own 1 3 (List.map (D.int .i64) R)] (.tup []):=by
 obtain⟨hr,hF⟩:=Vv hF;obtain rfl:=P3 hF;have h:=pZ hr;exact ni lays189 (by kernel_rfl) 3 p0 (by omega)
theorem Gr(p0:Int)(R:ByteArray)(hF:Ew p0=some R):Ax prog 16 [.d (.int .i64 p0)] (.d (.str R)):=by
 obtain⟨hr,hF⟩:=Vv hF;obtain rfl:=P3 hF;obtain⟨h0,h1⟩:=pZ hr;obtain⟨i,rfl⟩:∃i:Nat,p0=i:=⟨p0.toNat,by omega⟩;rw[qu];refine⟨by kernel_rfl,λO w vs hO hG hlen hargs=>?_⟩
 obtain⟨v,rfl⟩:∃v,vs=#[v]:=by
  obtain⟨l⟩:=vs
  match l,hlen with
  | [v],_=>exact⟨v,rfl⟩
 have hv:=AJ (hargs 0 v _ rfl rfl);subst hv;refine(Any.strconv_Itoa_small lays171 i (by omega) w).mono λe w' h=>?_;obtain⟨rfl,rfl⟩:=h;exact⟨_,rfl,Go.RowKit.Below.refl _ _,.str _⟩
instance:CS prog 56 (type_of% @Bt):=⟨@Bt⟩
instance:CS prog 198 (type_of% @Ev):=⟨@Ev⟩
instance:CS prog 16 (type_of% @Gr):=⟨@Gr⟩
end Go.Proofs.YthchnhoalhbkcaaGreatDoor.P
