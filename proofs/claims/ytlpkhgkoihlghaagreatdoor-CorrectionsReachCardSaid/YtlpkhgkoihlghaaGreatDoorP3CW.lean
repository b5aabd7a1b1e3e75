/- P3CW -/
import Derived.Test.YtlpkhgkoihlghaaGreatDoorChecked
import Derived.Test.YtlpkhgkoihlghaaGreatDoorLaid
import Derived.Test.YtlpkhgkoihlghaaGreatDoorM4
import Derived.Shelf.SlSortCmp.NoneTotal
import Derived.Deep.QuietTactic
import Derived.BigQuiet
set_option linter.unusedVariables false
set_option linter.unusedSimpArgs false
namespace Go.Proofs.YtlpkhgkoihlghaaGreatDoor.P
open Go Go.Abs Go.Proofs Go.Lib Go.Sort Go.RowKit Go.Shelf
set_option maxRecDepth 100000
set_option maxHeartbeats 4000000
theorem DZ (p0:List Int) (R:List Int) (hF:BZ p0 = some R):Ck Tryz.prog 116 [.own 1 3 (p0.map (D.int .i64))] [.any] (.own 1 3 (R.map (D.int .i64))):=by
 obtain ⟨hr,hF⟩:=dw hF
 obtain rfl:=Option.some.inj hF
 have h:=of_decide_eq_true hr
 exact cD Tryz.lays20 (by kernel_rfl) 3 p0 (by omega)
theorem bU (a b oa ob na nb ca cb:Nat) (x y:Int) (w:World) (ha:w.cell? ⟨a,oa,none⟩ = some (.int .i64 x)) (hb:w.cell? ⟨b,ob,none⟩ = some (.int .i64 y)) (h1:0 < na) (h2:0 < nb) (hw:IntKind.i64.wrap (x - y) = x - y) :
 Calls Tryz.prog 55 #[.slice (some ⟨a,oa,none⟩) na ca,.slice (some ⟨b,ob,none⟩) nb cb] w fun e w'=>e = .returned (.int .i64 (x - y))∧∃ q,w' = w.drewN q:=by
 have h1':(0:Int) < na:=by omega
 have h2':(0:Int) < nb:=by omega
 go_enter Tryz.func55,Tryz.ntmps55
 go_wp2
 go_quiet (fail)
 go_wp2
 go_ret
 exact ⟨rfl,_,rfl⟩
theorem WF {O:Nat→Prop} {w:World} {v:Value} {r:List Int} (h:AB O w v (FA r)) (hne:r≠[]):∃ b off n cap,v = .slice (some ⟨b,off,none⟩) n cap∧0 < n∧b < w.heap.size∧¬ O b∧w.cell? ⟨b,off,none⟩ = some (.int .i64 (K6 r)):=by
 obtain ⟨a,q,rfl⟩:=List.exists_cons_of_ne_nil hne
 unfold FA at h
 cases h with
 | list b off cap sz xs c hne hb hO hcap hsz h1 hcell hrep =>
   refine ⟨b,off,_,cap,rfl,by simp,hb,hO,?_⟩
   have e1:=hcell 0 (.int .i64 a) 0 (.int .i64 a) rfl rfl
   have e2:=hrep 0 (.int .i64 a) 0 (.int .i64 a) rfl rfl
   simp only [Nat.zero_mul,Nat.add_zero] at e1
   rw [e1,BR e2]
   rfl
theorem Mx {a b:List Int} {n:Int} (h:Cf a b = some n):a≠[]∧b≠[]∧n = IntKind.i64.wrap (K6 a - K6 b):=by
 unfold Cf at h
 obtain ⟨x,hx,h⟩:=Yi h
 obtain ⟨y,hy,h⟩:=Yi h
 obtain rfl:=Option.some.inj h
 cases a with
 | nil=>cases hx
 | cons a q=>cases b with
   | nil=>cases hy
   | cons b q2=>cases hx; cases hy; exact ⟨by simp,by simp,rfl⟩
theorem bB {l r:List (List Int)} (hn:(l.map K6).Nodup) (hp:r.Perm l) (hs:r.Pairwise fun a b=>K6 a≤K6 b):r = l.mergeSort fun x y=>decide (K6 x≤K6 y):=by
 have h1:(l.mergeSort fun x y=>decide (K6 x≤K6 y)).Pairwise fun a b=>K6 a≤K6 b:=(List.pairwise_mergeSort (fun a b c h1 h2=>by simp at *; omega) (fun a b=>by simp; omega) l).imp fun h=>by simpa using h
 have inj:∀ {a b:List Int},a∈l→b∈l→K6 a = K6 b→a = b:=by
  intro a b ha hb e
  obtain ⟨i,hi,rfl⟩:=List.mem_iff_getElem.1 ha
  obtain ⟨j,hj,rfl⟩:=List.mem_iff_getElem.1 hb
  rw [List.Nodup,List.pairwise_map] at hn
  rcases Nat.lt_trichotomy i j with h | h | h
  ·exact absurd e ((List.pairwise_iff_getElem.1 hn) i j hi hj h)
  ·subst h; rfl
  ·exact absurd e.symm ((List.pairwise_iff_getElem.1 hn) j i hj hi h)
 exact List.Perm.eq_of_pairwise (le:=fun a b=>K6 a≤K6 b) (fun a b ha hb h1 h2=>inj (hp.mem_iff.1 ha) (List.mem_mergeSort.1 hb) (Int.le_antisymm h1 h2)) hs h1 (hp.trans (List.mergeSort_perm l _).symm)
theorem Kx (p0:List (List Int)) (p1:List Int→List Int→Option Int) (f_p1:FuncId) (c_p1:List D) (R:List (List Int)) (h_p1:∀ (a0 a1:List Int) r,p1 a0 a1 = some r→Aw Tryz.prog f_p1 ([.d (Aj 1 (D.int .i64) a0),.d (Aj 1 (D.int .i64) a1)]++c_p1.map .d) (.d (.int .i64 r))) (hF:C2 p0 p1 = some R) (hp1:p1 = Cf:=by rfl) (hf1:f_p1 = 55:=by rfl) (hc1:c_p1 = []:=by rfl):Ck Tryz.prog 54 [.own 1 30 (p0.map (Aj 1 (D.int .i64))),.d (.fn f_p1 c_p1)] [.own 1 30 (R.map (Aj 1 (D.int .i64))),.any] (.tup []):=by
 subst hp1; subst hf1; subst hc1
 show Ck Tryz.prog 54 [.own 1 30 (p0.map FA),.d (.fn 55 [])] [.own 1 30 (R.map FA),.any] (.tup [])
 clear h_p1
 obtain ⟨hr,hF⟩:=dw hF
 obtain rfl:=Option.some.inj hF
 obtain ⟨hr1,hr2⟩:=Bool.and_eq_true_iff.1 hr
 obtain ⟨hlen0,hnd⟩:=of_decide_eq_true hr1
 have hall:∀ a∈p0,∀ b∈p0,Cf a b = some (K6 a - K6 b):=fun a ha b hb=>by
  have:=List.all_eq_true.1 (List.all_eq_true.1 hr2 a ha) b hb
  simpa using this
 generalize hS:(p0.mergeSort fun x y=>decide (K6 x≤K6 y)) = S
 have hSl:S.length = p0.length:=by rw [← hS]; exact List.length_mergeSort _
 refine ⟨by kernel_rfl,rfl,fun O w vs hO hG hlen hMO hinj hargs=>?_⟩
 obtain ⟨v,fv,rfl⟩:∃ v fv,vs = #[v,fv]:=by
  obtain ⟨l⟩:=vs
  match l,hlen with
  | [v,fv],_=>exact ⟨v,fv,rfl⟩
 obtain ⟨_,_,vals,hrow,hL⟩:=hargs 0 v _ rfl rfl
 rw [KS] at hL
 rw [List.length_map] at hrow
 obtain ⟨lb,rfl,hlb⟩:∃ lb,fv = .func (.func 55) #[] lb∧lb = #[]:=by
  have h:AB (fun b=>O b∨DV #[v,fv] [.own 1 30 (p0.map FA),.d (.fn 55 [])] b) w fv (.fn 55 []):=hargs 1 fv _ rfl rfl
  cases h with
  | fn _ lb _ hl _ _=>exact ⟨lb,rfl,Array.eq_empty_of_size_eq_zero (by simpa using hl)⟩
 subst hlb
 have hmut:∀ b,A1 v = some b→DV #[v,.func (.func 55) #[] #[]] [.own 1 30 (p0.map FA),.d (.fn 55 [])] b:=fun b hb=>⟨0,v,_,rfl,rfl,rfl,hb⟩
 have hmut2:∀ b,DV #[v,.func (.func 55) #[] #[]] [.own 1 30 (S.map FA),.any] b→A1 v = some b:=by
  rintro b ⟨i,u,x,h1,h2,h3,h4⟩
  match i,h1,h2 with
  | 0,h1,h2=>simp at h1; subst h1; exact h4
  | 1,h1,h2=>simp at h2; subst h2; cases h3
  | i + 2,h1,h2=>simp at h1
 have GD:∀ {w':World} {e':Ending} {vals':List Value},e' = .returned (.tuple #[])→AT w.heap.size (DV #[v,.func (.func 55) #[] #[]] [.own 1 30 (p0.map FA),.d (.fn 55 [])]) w w'→Ca w' 30 1 v S.length vals'→Bo (fun b=>O b∨A1 v = some b) w' vals' (S.map FA) →
  ∃ u,e' = .returned u∧AT w.heap.size (DV #[v,.func (.func 55) #[] #[]] [.own 1 30 (p0.map FA),.d (.fn 55 [])]) w w' ∧
  C9 (fun b=>w.heap.size≤b∨(DV #[v,.func (.func 55) #[] #[]] [.own 1 30 (p0.map FA),.d (.fn 55 [])] b∧¬ DV #[v,.func (.func 55) #[] #[]] [.own 1 30 (S.map FA),.any] b)) (fun b=>O b∨DV #[v,.func (.func 55) #[] #[]] [.own 1 30 (S.map FA),.any] b) w' u (.tup []) ∧
  ∀ (i:Nat) u' x y,#[v,.func (.func 55) #[] #[]][i]? = some u'→[AV.own 1 30 (p0.map FA),.d (.fn 55 [])][i]? = some x→[AV.own 1 30 (S.map FA),.any][i]? = some y→N5 (fun b=>O b∨DV #[v,.func (.func 55) #[] #[]] [.own 1 30 (S.map FA),.any] b∨CC u (.tup []) b) w' u' x y:=by
  intro w' e' vals' he hb hr hL'
  refine ⟨_,he,hb,⟨#[],rfl,rfl,fun i u x h=>by simp at h,fun i j u u' sz e ys sz' e' ys' b h=>by simp at h⟩,fun i u' x y h1 h2 h3=>?_⟩
  match i,h1,h2,h3 with
  | 0,h1,h2,h3 =>
    simp at h1 h2 h3
    subst h1; subst h2; subst h3
    have hsub:∀ b,(O b∨DV #[v,.func (.func 55) #[] #[]] [.own 1 30 (S.map FA),.any] b∨CC (.tuple #[]) (.tup []) b)→(O b∨A1 v = some b):=fun b h=>by
     rcases h with h | h | h
     ·exact .inl h
     ·exact .inr (hmut2 b h)
     ·obtain ⟨vs,i,u,sz,e,ys,h1,h2,h3,_⟩:=h
      simp at h3
    exact ⟨⟨by omega,QR,vals',by rw [List.length_map]; exact hr,by rw [KS]; exact hL'.mono (B4.of_sub hsub)⟩,_,rfl⟩
  | 1,h1,h2,h3=>simp at h3; subst h3; trivial
  | i + 2,h1,_,_=>simp at h1
 rcases PX hrow with ⟨hn,hv0,a,hva⟩ | ⟨g,cap,cur,hvv,hc,hb,k1,k2,k3,k4,k5⟩
 ·
  have hS0:S = []:=List.eq_nil_of_length_eq_zero (by omega)
  have hcall:=AnyF.slices_SortFunc_none (P:=Tryz.prog) (ρ:=Tryz.laysSortFunc_ren) { Tryz.laysSortFunc with } a 0 (.func (.func 55) #[] #[]) w
  rw [← hva] at hcall
  refine hcall.mono fun e' w' ⟨he,hw⟩=>?_
  subst hw
  refine GD (vals':=[]) he (AT.refl _ _ _) ?_ (by rw [hS0]; exact Bo.nil)
  rw [hS0]
  rw [hn,hv0] at hrow
  exact hrow
 by_cases h0:p0.length = 0
 ·have hS0:S = []:=List.eq_nil_of_length_eq_zero (by omega)
  have hcall:=AnyF.slices_SortFunc_none (P:=Tryz.prog) (ρ:=Tryz.laysSortFunc_ren) { Tryz.laysSortFunc with } (some ⟨g,0,none⟩) cap (.func (.func 55) #[] #[]) w
  rw [h0] at hvv
  rw [← hvv] at hcall
  refine hcall.mono fun e' w' ⟨he,hw⟩=>?_
  subst hw
  have hv0:vals = []:=List.eq_nil_of_length_eq_zero (by omega)
  refine GD (vals':=[]) he (AT.refl _ _ _) ?_ (by rw [hS0]; exact Bo.nil)
  rw [hS0]
  rw [h0,hv0] at hrow
  exact hrow
 have hblk:A1 v = some g:=by rw [hvv]; exact J3 hc
 have hg:g < w.heap.size:=(Array.getElem?_eq_some_iff.1 hb).1
 haveI:Inhabited (Fin p0.length):=⟨⟨0,by omega⟩⟩
 obtain ⟨enc,henc⟩:∃ enc:Fin p0.length→Value,enc = fun k=>vals[k.val]'(by rw [k5]; exact k.isLt):=⟨_,rfl⟩
 have hrep:∀ k:Fin p0.length,AB (fun b=>O b∨DV #[v,.func (.func 55) #[] #[]] [.own 1 30 (p0.map FA),.d (.fn 55 [])] b) w (enc k) (FA (p0.get k)):=fun k=>by
  rw [henc]
  exact (hL.2 k.val _ _ (List.getElem?_eq_getElem (by rw [k5]; exact k.isLt)) (by simp)).1
 have h1c:OneCell enc:=fun k=>by
  rw [henc]
  exact hL.oneCell _ (List.getElem_mem _)
 obtain ⟨ks,hks⟩:∃ ks:List (Fin p0.length),ks = List.finRange p0.length:=⟨_,rfl⟩
 have hkl:ks.length = p0.length:=by rw [hks]; exact List.length_finRange
 have hkv:ks.map enc = vals:=by
  apply List.ext_getElem (by rw [List.length_map,hkl,k5])
  intro j h1 h2
  simp [henc,hks]
 have hkp:ks.map (fun k=>(p0.get k)) = p0:=by
  apply List.ext_getElem (by rw [List.length_map,hkl])
  intro j h1 h2
  simp [hks]
 have hH:Holds enc w g 0 ks.toArray:=cz hb (by rw [hkl,k4,hkv])
 have hwrap:∀ x y:Fin p0.length,IntKind.i64.wrap (K6 (p0.get x) - K6 (p0.get y)) = K6 (p0.get x) - K6 (p0.get y):=fun x y=>((Mx (hall (p0.get x) (List.get_mem _ _) (p0.get y) (List.get_mem _ _))).2.2).symm
 have hcmp:CmpLays1 Tryz.prog 55 #[] enc (fun x y=>K6 (p0.get x) - K6 (p0.get y)) g 0 ks.toArray.size w:=fun m os dk hdk x y=>by
  have n1:=(Mx (hall (p0.get x) (List.get_mem _ _) (p0.get x) (List.get_mem _ _))).1
  have n2:=(Mx (hall (p0.get y) (List.get_mem _ _) (p0.get y) (List.get_mem _ _))).1
  obtain ⟨b1,o1,l1,c1,e1,q1,q2,q3,q4⟩:=WF (hrep x) n1
  obtain ⟨b2,o2,l2,c2,e2,r1,r2,r3,r4⟩:=WF (hrep y) n2
  have ne1:b1≠g:=fun e=>q3 (.inr (e ▸ hmut g hblk))
  have ne2:b2≠g:=fun e=>r3 (.inr (e ▸ hmut g hblk))
  have there:∀ {b o:Nat} {u:Value},b < w.heap.size→b≠g→w.cell? ⟨b,o,none⟩ = some u→(sortWorld enc w g 0 m dk os).cell? ⟨b,o,none⟩ = some u:=by
   intro b o u hlt hne hu
   have hbm:=(Zs (w:=w) (g:=g) (n:=m) (os:=os) (enc:=enc) dk (M:=fun b=>b = g) rfl).block b hlt hne
   have:(sortWorld enc w g 0 m dk os).heap[b]? = w.heap[b]?:=hbm
   rw [World.cell?_of_block (a:=⟨b,o,none⟩) this]
   exact hu
  have hcall:=bU b1 b2 o1 o2 l1 l2 c1 c2 (K6 (p0.get x)) (K6 (p0.get y)) (sortWorld enc w g 0 m dk os) (there q2 ne1 q4) (there r2 ne2 r4) q1 r1 (hwrap x y)
  have:(#[enc x,enc y]++#[]:Array Value) = #[.slice (some ⟨b1,o1,none⟩) l1 c1,.slice (some ⟨b2,o2,none⟩) l2 c2]:=by rw [e1,e2]; rfl
  rw [this]
  exact hcall.mono fun e' w' ⟨he,q,hw⟩=>⟨he,q,#[],by rw [Y6]; exact hw⟩
 have hO:SWO (ltOf fun x y:Fin p0.length=>K6 (p0.get x) - K6 (p0.get y)):=by
  refine ⟨fun x=>?_,fun x y z h1 h2=>?_,fun x y z h1 h2=>?_⟩ <;> simp only [ltOf,decide_eq_true_eq,decide_eq_false_iff_not] at * <;> omega
 have hcall:=Any.slices_SortFunc Tryz.laysSortFunc enc h1c (fun x y=>K6 (p0.get x) - K6 (p0.get y)) hO 55 #[] g 0 cap ks.toArray w (fun args w=>KI (by kernel_rfl) args) hcmp hH hg (by simp; omega)
 have esz:ks.toArray.size = p0.length:=by simpa using hkl
 rw [esz,← hvv] at hcall
 refine hcall.mono fun e' w' ⟨he,d',n,os,hperm,hsort,hw⟩=>?_
 have hds:d'.size = p0.length:=by rw [hperm.1,esz]
 have hpl:d'.toList.Perm ks:=by
  have hx:∀ (a:Array (Fin p0.length)) (n:Nat),a.size = n→(a.extract 0 n).toList = a.toList:=fun a n h=>by subst h; simp
  have:=hperm.2.2
  rw [hx _ _ hds,hx _ _ esz] at this
  simpa using this
 have hSe:d'.toList.map (fun k=>(p0.get k)) = S:=by
  rw [← hS]
  refine bB hnd ?_ ?_
  ·have:=hpl.map fun k:Fin p0.length=>(p0.get k)
   rw [hkp] at this
   exact this
  ·rw [List.pairwise_map,List.pairwise_iff_getElem]
   intro i j hi hj hij
   have h:=hsort i j (Nat.zero_le _) hij (by simp at hj; omega)
   have hi2:i < d'.size:=by simpa using hi
   have hj2:j < d'.size:=by simpa using hj
   rw [getElem!_pos d' i hi2,getElem!_pos d' j hj2] at h
   simp only [ltOf,decide_eq_false_iff_not] at h
   simp only [Array.getElem_toList]
   omega
 have hB:AT w.heap.size (DV #[v,.func (.func 55) #[] #[]] [.own 1 30 (p0.map FA),.d (.fn 55 [])]) w w':=by
  rw [hw]; exact Zs _ (hmut g hblk)
 have hk:=PY (u:=v) (fun b hb2=>.inr (hmut b hb2)) hB hL
 have hdl:d'.toList.length = p0.length:=by simpa using hds
 refine GD (vals':=d'.toList.map enc) he hB ?_ ?_
 ·rw [hSl,hvv]
  refine Tm (cur:=putCells enc 0 d'.toList.toArray cur) (by rw [hw]; exact dT _ hb) k1 k2 (by simp [putCells,k3]) ?_ (by simpa using hds)
  have ht:=eg (enc:=enc) cur d'.toList (by rw [hdl]; omega)
  rw [hdl] at ht
  exact ht
 ·have hSm:S.map FA = d'.toList.map fun k=>FA (p0.get k):=by rw [← hSe,List.map_map]; rfl
  rw [hSm]
  refine ⟨by simp,fun j u y hu hy=>?_⟩
  rw [List.getElem?_map] at hu hy
  cases hx:d'.toList[j]? with
  | none=>rw [hx] at hu; cases hu
  | some k =>
    rw [hx] at hu hy
    obtain rfl:=Option.some.inj hu
    obtain rfl:=Option.some.inj hy
    have:=hk.2 k.val (enc k) (FA (p0.get k)) (by rw [henc]; exact List.getElem?_eq_getElem (by rw [k5]; exact k.isLt)) (by simp)
    exact this
end Go.Proofs.YtlpkhgkoihlghaaGreatDoor.P
