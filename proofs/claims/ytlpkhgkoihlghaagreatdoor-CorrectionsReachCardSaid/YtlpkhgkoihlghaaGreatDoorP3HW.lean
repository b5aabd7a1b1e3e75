/- P3HW -/
import Derived.Test.YtlpkhgkoihlghaaGreatDoorChecked
import Derived.Test.YtlpkhgkoihlghaaGreatDoorM4
import Derived.Test.YtlpkhgkoihlghaaGreatDoorLaid
import Derived.Shelf.Strconv.Itoa3
set_option linter.unusedVariables false
set_option linter.unusedSimpArgs false
namespace Go.Proofs.YtlpkhgkoihlghaaGreatDoor.P
open Go.Abs Go.Proofs
set_option maxRecDepth 100000
set_option maxHeartbeats 4000000
theorem Bp (p0:List Int) (R:List Int) (hF:AY p0 = some R):Aw Tryz.prog 46 [.d (Aj 1 (D.int .i64) p0)] (.own 1 3 (List.map (D.int .i64) R)):=by
 obtain ⟨hr,hF⟩:=dw hF
 obtain rfl:=Option.some.inj hF
 refine dO Tryz.func46 (by kernel_rfl) ?_
 conv=>whnf
 refine ⟨fun b hb=>?_⟩
 cases b
 ·conv=>whnf
  refine ⟨by (simp only [List.length_map]; exact AG hr (of_decide_eq_true (by kernel_rfl)) (.inr (by kernel_rfl))),?_⟩
  conv=>whnf
  refine ⟨.inr ?_⟩
  conv=>whnf
  refine ⟨?_,?_⟩
  ·intro x hx y hy
   obtain ⟨n,_,rfl⟩:=List.mem_map.1 hx
   simp [D.cells] at hy
   subst hy; rfl
  ·conv=>whnf
   exact ⟨rfl⟩
 ·conv=>whnf
  have:p0 = []:=by
   cases p0 with
   | nil=>rfl
   | cons a r=>exact absurd (hb (by simp)) (by simp)
  subst this
  refine ⟨.inr ?_⟩
  conv=>whnf
  refine ⟨fun x hx=>absurd hx (by simp),?_⟩
  conv=>whnf
  exact ⟨rfl⟩
theorem F1 (p0:List Int) (R:List Int) (hF:Ce p0 = some R):Ck Tryz.prog 115 [.own 1 3 (List.map (D.int .i64) p0)] [.own 1 3 (List.map (D.int .i64) R)] (.tup []):=by
 obtain ⟨hr,hF⟩:=dw hF
 obtain rfl:=Option.some.inj hF
 have h:=of_decide_eq_true hr
 exact ft Tryz.lays189 (by kernel_rfl) 3 p0 (by omega)
theorem C3 (p0:Int) (R:ByteArray) (hF:Dh p0 = some R):Aw Tryz.prog 41 [.d (.int .i64 p0)] (.d (.str R)):=by
 obtain ⟨hr,hF⟩:=dw hF
 obtain rfl:=Option.some.inj hF
 obtain ⟨h0,h1⟩:=of_decide_eq_true hr
 obtain ⟨i,rfl⟩:∃ i:Nat,p0 = i:=⟨p0.toNat,by omega⟩
 rw [Int.toNat_natCast]
 refine ⟨by kernel_rfl,fun O w vs hO hG hlen hargs=>?_⟩
 obtain ⟨v,rfl⟩:∃ v,vs = #[v]:=by
  obtain ⟨l⟩:=vs
  match l,hlen with
  | [v],_=>exact ⟨v,rfl⟩
 have hv:=BR (hargs 0 v _ rfl rfl)
 subst hv
 refine (Any.strconv_Itoa_small Tryz.lays171 i (by omega) w).mono fun e w' h=>?_
 obtain ⟨rfl,rfl⟩:=h
 exact ⟨_,rfl,Go.RowKit.Below.refl _ _,.str _⟩
end Go.Proofs.YtlpkhgkoihlghaaGreatDoor.P
