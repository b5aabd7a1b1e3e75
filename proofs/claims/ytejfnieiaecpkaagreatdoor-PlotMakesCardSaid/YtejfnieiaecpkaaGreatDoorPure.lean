/- What the printed functions (wip/tools/gen.py) are made of. No machine. -/
namespace Go.Proofs.YtejfnieiaecpkaaGreatDoor.P
def idx {α:Type} (l:List α) (i:Int):Option α:=if 0≤i then l[i.toNat]? else none
def rm (n m:Nat):Bool:=decide (n + m≤137438953472)
def iter {σ ρ:Type} (body:(σ→Option ρ)→σ→Option ρ):Nat→σ→Option ρ
 | 0,_=>none
 | n + 1,s=>body (iter body n) s
def A6:Nat:=36893488147419103232
theorem Py {σ ρ:Type} (body:(σ→Option ρ)→σ→Option ρ) (n:Nat) (s:σ):iter body (n + 1) s = body (iter body n) s:=rfl
theorem A7 {α ρ:Type} {m:Option α} {G:α→Option ρ} {R:ρ} (h:m.bind G = some R):∃ x,m = some x∧G x = some R:=by
 cases m with
 | none=>cases h
 | some x=>exact ⟨x,rfl,h⟩
theorem CS {ρ:Type} {b:Bool} {X:Option ρ} {R:ρ} (h:(bif b then X else none) = some R):b = true∧X = some R:=by
 cases b with
 | true=>exact ⟨rfl,h⟩
 | false=>cases h
theorem UQ {α:Type} {l:List α} {i:Int} {x:α} (h:idx l i = some x):0≤i∧i.toNat < l.length∧l[i.toNat]? = some x:=by
 unfold idx at h
 split at h
 ·rename_i h0
  exact ⟨h0,(List.getElem?_eq_some_iff.1 h).1,h⟩
 ·cases h
theorem Az {σ ρ:Type} {body:(σ→Option ρ)→σ→Option ρ} {n:Nat} {s:σ} {R:ρ} (h:iter body n s = some R) :
 ∃ Φ:Nat→σ→Option ρ,(∀ k s,Φ k s = some R→∃ k',k = k' + 1∧body (Φ k') s = some R)∧Φ n s = some R:=by
 refine ⟨iter body,fun k s h=>?_,h⟩
 cases k with
 | zero=>cases h
 | succ k=>exact ⟨k,rfl,h⟩
end Go.Proofs.YtejfnieiaecpkaaGreatDoor.P
