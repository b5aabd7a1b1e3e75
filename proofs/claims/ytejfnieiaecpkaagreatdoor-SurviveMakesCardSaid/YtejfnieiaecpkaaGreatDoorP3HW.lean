/- P3HW -/
import Derived.Test.YtejfnieiaecpkaaGreatDoorChecked
import Derived.Test.YtejfnieiaecpkaaGreatDoorM4
import Derived.Test.YtejfnieiaecpkaaGreatDoorLaid
import Derived.Shelf.Strconv.Itoa3
set_option linter.unusedVariables false
set_option linter.unusedSimpArgs false
namespace Go.Proofs.YtejfnieiaecpkaaGreatDoor.P
open Go.Abs Go.Proofs
set_option maxRecDepth 100000
set_option maxHeartbeats 4000000
theorem CN (p0:Int) (R:ByteArray) (hF:CY p0 = some R):Aj Tryz.prog 99 [.d (.int .i64 p0)] (.d (.str R)):=by
 obtain ⟨hr,hF⟩:=Eg hF
 obtain rfl:=Option.some.inj hF
 obtain ⟨h0,h1⟩:=of_decide_eq_true hr
 obtain ⟨i,rfl⟩:∃ i:Nat,p0 = i:=⟨p0.toNat,by omega⟩
 rw [Int.toNat_natCast]
 refine ⟨by kernel_rfl,fun O w vs hO hG hlen hargs=>?_⟩
 obtain ⟨v,rfl⟩:∃ v,vs = #[v]:=by
  obtain ⟨l⟩:=vs
  match l,hlen with
  | [v],_=>exact ⟨v,rfl⟩
 have hv:=Cf (hargs 0 v _ rfl rfl)
 subst hv
 refine (Any.strconv_Itoa_small Tryz.lays171 i (by omega) w).mono fun e w' h=>?_
 obtain ⟨rfl,rfl⟩:=h
 exact ⟨_,rfl,Go.RowKit.Below.refl _ _,.str _⟩
end Go.Proofs.YtejfnieiaecpkaaGreatDoor.P
