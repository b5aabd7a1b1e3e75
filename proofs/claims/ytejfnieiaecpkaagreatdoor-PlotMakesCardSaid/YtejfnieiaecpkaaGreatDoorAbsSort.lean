/- slices.Sort at []int: the library's contract, as the machine has it. -/
import Derived.Test.YtejfnieiaecpkaaGreatDoorAbsLaw
import Derived.Shelf.Sort.Plain
import Derived.Shelf.Slices.In.SortNone
import Derived.Sort.OwnSortedInts
set_option linter.unusedVariables false
set_option linter.unusedSimpArgs false
namespace Go.Abs
open Go.Proofs Go.Shelf Go.Sort
def KT (xs:List Int):List Int:=xs.mergeSort fun x y=>decide (x≤y)
theorem Ry (xs:List Int):(KT xs).length = xs.length:=by simp [KT,List.length_mergeSort]
theorem Ni (xs:List Int):(xs.map (D.int .i64)).flatMap D.cells = xs.map (D.int .i64):=by
 induction xs with
 | nil=>rfl
 | cons x r ih=>simp [D.cells,ih]
theorem VT {O:Nat→Prop} {w:World} {vals:List Value} {xs:List Int} (h:BC O w vals (xs.map (D.int .i64))):vals = xs.map (Value.int .i64):=by
 apply List.ext_getElem?
 intro j
 by_cases hj:j < vals.length
 ·have hj2:j < xs.length:=by have:=h.1; simp at this; omega
  have:=(h.2 j vals[j] (.int .i64 xs[j]) (by simp [hj]) (by simp [hj2])).1
  cases h3:vals[j] with
  | int k n=>rw [h3] at this; cases this; simp [hj,hj2,h3]
  | _=>rw [h3] at this; cases this
 ·have hj2:¬ j < xs.length:=by have:=h.1; simp at this; omega
  rw [List.getElem?_eq_none (by omega),List.getElem?_eq_none (by simp; omega)]
theorem Si (O:Nat→Prop) (w:World) (xs:List Int):BC O w (xs.map (Value.int .i64)) (xs.map (D.int .i64)):=by
 refine ⟨by simp,fun j v y hv hy=>?_⟩
 simp only [List.getElem?_map] at hv hy
 cases h:xs[j]? with
 | none=>simp [h] at hv
 | some n=>simp [h] at hv hy; subst hv; subst hy; exact ⟨.int _ _,rfl⟩
theorem eW {P:Program} {ρ:Ren} (Ly:Lays.n189 P ρ) (hc:GG P (ρ.f 189) = true) (e:TypeId) (xs:List Int) (hl:xs.length < 4611686018427387904) :
 Ec P (ρ.f 189) [.own 1 e (xs.map (D.int .i64))] [.own 1 e ((KT xs).map (D.int .i64))] (.tup []):=by
 refine ⟨hc,rfl,fun O w vs hO _ hlen hMO hinj hargs=>?_⟩
 obtain ⟨v,rfl⟩:∃ v,vs = #[v]:=by
  obtain ⟨l⟩:=vs
  match l,hlen with
  | [v],_=>exact ⟨v,rfl⟩
 obtain ⟨_,_,vals,hrow,hL⟩:=hargs 0 v _ rfl rfl
 rw [Ni] at hL
 obtain rfl:=VT hL
 have fin:∀ {w':World} {e':Ending},e' = .returned (.tuple #[])→Br w.heap.size (Jn #[v] [.own 1 e (xs.map (D.int .i64))]) w w'→Ew w' e 1 v (KT xs).length ((KT xs).map (Value.int .i64)) →
  ∃ u,e' = .returned u∧Br w.heap.size (Jn #[v] [.own 1 e (xs.map (D.int .i64))]) w w' ∧
  DI (fun b=>w.heap.size≤b∨(Jn #[v] [.own 1 e (xs.map (D.int .i64))] b∧¬ Jn #[v] [.own 1 e ((KT xs).map (D.int .i64))] b)) (fun b=>O b∨Jn #[v] [.own 1 e ((KT xs).map (D.int .i64))] b) w' u (.tup []) ∧
  ∀ (i:Nat) u' x y,#[v][i]? = some u'→[AV.own 1 e (xs.map (D.int .i64))][i]? = some x→[AV.own 1 e ((KT xs).map (D.int .i64))][i]? = some y→RU (fun b=>O b∨Jn #[v] [.own 1 e ((KT xs).map (D.int .i64))] b∨DL u (.tup []) b) w' u' x y:=by
  intro w' e' he hb hr
  refine ⟨_,he,hb,⟨#[],rfl,rfl,fun i u x h=>by simp at h,fun i j u u' sz e ys sz' e' ys' b h=>by simp at h⟩,fun i u' x y h1 h2 h3=>?_⟩
  match i,h1,h2,h3 with
  | 0,h1,h2,h3 =>
    simp at h1 h2 h3
    subst h1; subst h2; subst h3
    refine ⟨⟨by omega,fun x hx=>?_,(KT xs).map (Value.int .i64),by simpa using hr,by rw [Ni]; exact Si _ _ _⟩,_,rfl⟩
    obtain ⟨n,_,rfl⟩:=List.mem_map.1 hx
    rfl
  | i + 1,h1,_,_=>simp at h1
 have none:xs = []→∀ p cap,v = .slice p 0 cap→Calls P (ρ.f 189) #[v] w fun e' w'=>∃ u,e' = .returned u∧Br w.heap.size (Jn #[v] [.own 1 e (xs.map (D.int .i64))]) w w' ∧
  DI (fun b=>w.heap.size≤b∨(Jn #[v] [.own 1 e (xs.map (D.int .i64))] b∧¬ Jn #[v] [.own 1 e ((KT xs).map (D.int .i64))] b)) (fun b=>O b∨Jn #[v] [.own 1 e ((KT xs).map (D.int .i64))] b) w' u (.tup []) ∧
  ∀ (i:Nat) u' x y,#[v][i]? = some u'→[AV.own 1 e (xs.map (D.int .i64))][i]? = some x→[AV.own 1 e ((KT xs).map (D.int .i64))][i]? = some y→RU (fun b=>O b∨Jn #[v] [.own 1 e ((KT xs).map (D.int .i64))] b∨DL u (.tup []) b) w' u' x y:=by
  intro h0 p cap hv
  subst h0
  have hc:=Any.slices_Sort_int_none Ly p cap w
  rw [← hv] at hc
  refine hc.mono fun e' w' ⟨he,hw⟩=>?_
  subst hw
  refine fin he ⟨rfl,rfl,rfl,Nat.le_refl _,fun _ _ _=>rfl⟩ ?_
  simpa [KT] using hrow
 rcases hrow with hrow' | ⟨h0,_,a,hv⟩
 ·rcases hrow'.2 with ⟨hv,h0⟩ | ⟨g,cap,cur,hv,hbase,hb,h1,h2,h3,h4⟩
  ·exact none (by simpa using h0) _ _ hv
  ·rw [List.length_map] at h1 hv
   by_cases h00:cap = 0
   ·have hx:xs = []:=List.eq_nil_of_length_eq_zero (by omega)
    exact none hx (some ⟨g,0,Option.none⟩) cap (by rw [hv,hx]; rfl)
   have hH:Holds (Value.int .i64) w g 0 xs.toArray:=holds_of_blockI hb (by simpa using h4)
   have hg:g < w.heap.size:=(Array.getElem?_eq_some_iff.1 hb).1
   have hc:=Any.slices_Sort_int Ly g 0 cap xs w hH hg hl
   rw [← hv] at hc
   refine hc.mono fun e' w' ⟨he,n,os,hw⟩=>?_
   have hgr:=grownBy_sortedI (w:=w) (g:=g) (n:=n) (os:=os) (xs.mergeSort fun x y=>decide (x≤y)).toArray
   rw [← hw] at hgr
   refine fin he ⟨hgr.os,hgr.tape,hgr.output,hgr.size,fun k hk hm=>hgr.block k hk fun hkg=>?_⟩ (.inl ?_)
   ·refine hm ⟨0,v,_,rfl,rfl,rfl,?_⟩
    rw [hv]
    simp only [Ax,h00,if_false]
    exact hkg.symm
   ·have:=ownsRow_sortedI (w:=w) (base:=0) (g:=g) (cap:=cap) (n:=n) (e:=e) (os:=os) (cur:=cur) (ss:=xs) (ts:=KT xs) (Ry xs) hbase hb h1 h2 h3
    rw [Ry,hw,hv]
    exact this
 ·exact none (by simpa using h0) _ _ hv
end Go.Abs
