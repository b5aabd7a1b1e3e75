/- Stops of the abstract machine, beside a printed function (wip/tools/gen.py). -/
import Derived.Test.YtejfnieiaecpkaaGreatDoorAbsLe
import Derived.Test.YtejfnieiaecpkaaGreatDoorPure
set_option linter.unusedVariables false
set_option linter.unusedSimpArgs false
namespace Go.Proofs.YtejfnieiaecpkaaGreatDoor.P
open Go.Abs Go.Proofs
@[reducible] def Aj {α:Type} (sz:Nat) (f:α→D) (l:List α):D:=.list sz (l.map f)
theorem eS {ρ:Type} {b b':Bool} {x y:Prop} {X Y:Option ρ} {R:ρ} (hF:(bif b' then X else Y) = some R) (e:b = b') (h1:X = some R→x) (h2:Y = some R→y):Bool.rec y x b:=by
 subst e
 cases b with
 | true=>exact h1 hF
 | false=>exact h2 hF
theorem KI {ρ:Type} {b b':Bool} {x y:Prop} {X Y:Option ρ} {R:ρ} (hF:(bif b' then X else Y) = some R) (e:b = b') (h1:b' = true→X = some R→x) (h2:b' = false→Y = some R→y):Bool.rec y x b:=by
 subst e
 cases b with
 | true=>exact h1 rfl hF
 | false=>exact h2 rfl hF
theorem Ld {b b':Bool} {x y:Prop} (e:b = b') (h:b' = true) (k:x):Bool.rec y x b:=by
 subst e; subst h; exact k
theorem f9 {b b':Bool} {x y:Prop} (e:b = b') (h:b' = false) (k:y):Bool.rec y x b:=by
 subst e; subst h; exact k
theorem fI {x a b:Int} (h:(x==a) = true) (k:(a==b) = false:=by rfl):(x==b) = false:=by
 rw [beq_iff_eq.1 h]; exact k
theorem fM {α:Type} {xs:List α} {i j:Int} {x:α} {f:α→D} {K:D→Prop} (h:idx xs i = some x) (e:j = i) (k:K (f x)):At (xs.map f) j K:=by
 obtain ⟨h0,_,h1⟩:=UQ h
 subst e
 exact ⟨⟨h0,_,by rw [List.getElem?_map,h1]; rfl,k⟩⟩
theorem Sc {α:Type} {xs:List α} {i j:Int} {x:α} {f:α→D} {K:D→Prop} (h:idx xs i = some x) (e:j = ((i.toNat:Nat):Int)) (k:K (f x)):At (xs.map f) j K:=by
 obtain ⟨h0,_,_⟩:=UQ h
 exact fM h (e.trans (Int.toNat_of_nonneg h0)) k
theorem fC {α:Type} {xs:List α} {i j:Int} {x:α} {f:α→D} {k:Prop} (h:idx xs i = some x) (e:j = i) (hk:k):JL (0≤j∧j.toNat < (xs.map f).length) k:=by
 obtain ⟨h0,h1,_⟩:=UQ h
 subst e
 exact ⟨⟨h0,by rw [List.length_map]; exact h1⟩,hk⟩
theorem fS {α ρ:Type} {xs:List α} {i j:Int} {f:α→D} {K:D→Prop} {G:α→Option ρ} {R:ρ} (hF:(idx xs i).bind G = some R) (e:j = i) (k:∀ x,idx xs i = some x→G x = some R→K (f x)):At (xs.map f) j K:=by
 obtain ⟨x,h,hF⟩:=A7 hF
 exact fM h e (k x h hF)
theorem JP {α ρ:Type} {xs:List α} {f:α→D} {i j:Int} {k:Prop} {G:α→Option ρ} {R:ρ} (hF:(idx xs i).bind G = some R) (e:j = i) (hk:∀ x,idx xs i = some x→G x = some R→k):JL (0≤j∧j.toNat < (xs.map f).length) k:=by
 obtain ⟨x,h,hF⟩:=A7 hF
 exact fC h e (hk x h hF)
theorem snoc {α:Type} (f:α→D) (xs:List α) (x:α):xs.map f++[f x] = (xs++[x]).map f:=by simp
theorem G9 (k:IntKind) (xs:List Int) (x:Int):xs.map (D.int k)++[D.int k x] = (xs++[x]).map (D.int k):=by simp
theorem Xn {α:Type} (sz:Nat) (f:α→D) (xs:List (List α)) (x:List α):xs.map (Aj sz f)++[D.list sz (x.map f)] = (xs++[x]).map (Aj sz f):=by simp [Aj]
theorem f5 (k:IntKind) (x:Int) (xs:List Int):[D.int k x]++xs.map (D.int k) = ([x]++xs).map (D.int k):=rfl
theorem cY {α:Type} (f:α→D) (xs ys:List α):xs.map f++ys.map f = (xs++ys).map f:=List.map_append.symm
theorem SC {α:Type} (f:α→D) (xs:List α) (l h:Int):Mw (xs.map f) l h = (Mw xs l h).map f:=by simp [Mw,List.map_take,List.map_drop]
theorem dy {α:Type} (f:α→D) (n:Nat) (x:α):List.replicate n (f x) = (List.replicate n x).map f:=List.map_replicate.symm
theorem bD {α:Type} (f:α→D) (xs:List α) (i:Nat) (x:α):(xs.map f).set i (f x) = (xs.set i x).map f:=by rw [List.map_set]
theorem AE {n m b:Nat} {q:Prop} (h:rm n m = true) (hb:b≤1024) (hq:q):n + m≤maxLen∧(n + m) * b≤140737488355328∧q:=by
 have h:=of_decide_eq_true h
 refine ⟨by unfold maxLen; omega,?_,hq⟩
 calc (n + m) * b≤137438953472 * 1024:=Nat.mul_le_mul h hb
  _ = 140737488355328:=by decide
theorem SO {l:Int} {b:Nat} (h:(decide (0≤l) && rm l.toNat 0) = true) (hb:b≤1024):0≤l∧l≤l∧l≤(maxLen:Int)∧(b:Int) * l≤281474976710656:=by
 obtain ⟨h1,h2⟩:=Bool.and_eq_true_iff.1 h
 have h1:=of_decide_eq_true h1
 have h2:=of_decide_eq_true h2
 refine ⟨h1,Int.le_refl _,by unfold maxLen; omega,?_⟩
 have h3:l≤137438953472:=by omega
 calc (b:Int) * l≤1024 * l:=Int.mul_le_mul_of_nonneg_right (by omega) h1
  _≤281474976710656:=by omega
end Go.Proofs.YtejfnieiaecpkaaGreatDoor.P
