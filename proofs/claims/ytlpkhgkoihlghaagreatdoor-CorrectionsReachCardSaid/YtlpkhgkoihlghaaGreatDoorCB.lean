/- CB -/
import Derived.Test.YtlpkhgkoihlghaaGreatDoorCA
set_option linter.unusedVariables false
set_option linter.unusedSimpArgs false
namespace Go.Proofs.YtlpkhgkoihlghaaGreatDoor.P
open Go Go.Abs Go.Proofs
set_option maxRecDepth 100000
variable {s:Af}
theorem Yl {l:List Ap} {p:Ap→Option Bool} (q:Ap→Bool) (hp:∀ x∈l,p x = some (q x)) (hl:l.length≤1000000000):AP l p = some (l.any q):=by
 unfold AP
 rw [show BN l p = some (OJ q l) from KU hp hl,Option.bind_some,KQ]
theorem Xm {l:List A9} {p:A9→Option Bool} (q:A9→Bool) (hp:∀ x∈l,p x = some (q x)) (hl:l.length≤1000000000):Bb l p = some (l.any q):=by
 unfold Bb
 rw [show Bu l p = some (OJ q l) from KU hp hl,Option.bind_some,KQ]
theorem WP (h:DS s):Cs DD s VS = some 0:=by
 have hc:=h.cols_length
 have hf:=h.fin_ok (i:=1) (by omega) (by omega)
 have hk:s.Columns[1].Kind = 2:=by
  obtain ⟨j,ms,e,_⟩:=h.cols
  have:s.Columns[1]? = some fC:=by rw [e]; cases j <;> rfl
  rw [List.getElem?_eq_getElem (by omega)] at this
  rw [Option.some.inj this]; rfl
 refine Ok.val ?_
 unfold Cs
 refine Ok.bindE h.check (Ok.no rfl (Ok.bindE (x:=true) (by decide +kernel) (Ok.no rfl (Ok.no rfl (Ok.bindE (h.pcond_all _) (Ok.no rfl (Ok.yes rfl (Ok.bindE (x:=0) (Ok.val ?_) (Ok.some rfl)))))))))
 unfold FW
 refine Ok.no rfl ?_
 refine Ok.for (fun q=>q) 1 (fun _ _=>True) 0 (Nat.zero_le _) rfl trivial (by omega) (fun rec q hq _=>?_) fun rec i q hi hq _ ih=>?_
 ·simp only [Et,hq]
  refine Ok.no rfl ?_
  exact Ok.no rfl (Ok.no rfl (Ok.bindE (x:=true) rfl (Ok.no rfl (Ok.some rfl))))
 ·obtain rfl:i = 0:=by omega
  simp only [Et,hq]
  have hp:Kl s ({ Column:=1,Level:=0 }:Ap) = some 0:=by
   unfold Kl
   rw [h.check,Option.bind_some]
   show (Gx s _).bind _ = _
   rw [ec h ⟨1,by omega,by omega,rfl,by show (0:Int)≤0; omega,by show (0:Int)≤GD s 1; omega⟩]
   rfl
  refine Ok.yes rfl (Ok.bindE (x:=({ Column:=1,Level:=0 }:Ap)) rfl (Ok.bindE hp (Ok.no rfl (Ok.bindE (x:=2) ?_ (Ok.no rfl (Ok.gdd (by decide) (Ok.bindE (Yl (fun _=>false) (fun x hx=>by simp [HR] at hx) (by simp [HR])) (Ok.no (by simp [HR]) (ih _ rfl trivial)))))))))
  unfold Cb
  rw [decide_eq_false (by decide),decide_eq_false (by show ¬ (1:Int) ≥ _; omega)]
  show (idx s.Columns ((1:Nat):Int)).bind _ = _
  rw [K7 (by omega:1 < s.Columns.length),Option.bind_some,hk]
theorem XB (h:DS s):Eo DD s Ow = some 0:=by
 refine Ok.val ?_
 unfold Eo
 refine Ok.bindE h.check (Ok.no rfl (Ok.bindE (x:=true) (by decide +kernel) (Ok.no rfl (Ok.bindE (x:=true) (by decide +kernel) (Ok.no rfl ?_)))))
 unfold Er
 refine Ok.bindE (h.pcond_all _) (Ok.no rfl (Ok.no rfl (Ok.no rfl ?_)))
 refine Ok.for (fun q=>q) 1 (fun _ _=>True) 0 (Nat.zero_le _) rfl trivial (by omega) (fun rec q hq _=>?_) fun rec i q hi hq _ ih=>?_
 ·simp only [Ep,hq]
  exact Ok.no rfl (Ok.some rfl)
 ·obtain rfl:i = 0:=by omega
  simp only [Ep,hq]
  exact Ok.yes rfl (Ok.bindE (x:=VS) rfl (Ok.bindE (WP h) (Ok.no rfl (Ok.gdd (by decide) (Ok.bindE (Xm (fun _=>false) (fun x hx=>by simp [HR] at hx) (by simp [HR])) (Ok.no (by simp [HR]) (ih _ rfl trivial)))))))
theorem YS (h:DS s):F6 DD s TV = some []:=by
 have hc:=h.cols_length
 refine Ok.val ?_
 unfold F6
 refine Ok.bindE (h.pcond_all _) (Ok.no rfl (Ok.gd ?_ (Ok.bindE (x:=[]) rfl ?_)))
 ·rw [dt,Bool.true_and]; exact WS (by simp; omega)
 refine Ok.for (fun q=>q.1) 0 (fun _ q=>q.2 = List.replicate (((s.Columns.length:Nat):Int):Int).toNat 0) 0 (Nat.zero_le _) rfl rfl (by omega) (fun rec q hq hI=>?_) fun rec i q hi hq _ ih=>absurd hi (by omega)
 simp only [HH,hq]
 refine Ok.no rfl ?_
 rw [hI]
 have hlr:(List.replicate (((s.Columns.length:Nat):Int):Int).toNat (0:Int)).length = s.Columns.length:=by simp
 refine Ok.for (fun q=>q.1) s.Columns.length (fun _ q=>q.2 = []) 0 (Nat.zero_le _) rfl rfl (by omega) (fun rec q hq hI=>?_) fun rec i q hi hq hI ih=>?_
 ·simp only [Fb,hq]
  rw [hlr,Br,hI]
  exact Ok.some rfl
 ·simp only [Fb,hq]
  rw [hlr,Bj]
  refine Ok.idxn (by rw [hlr]; exact hi) (Ok.no ?_ (ih _ EF hI))
  rw [List.getElem_replicate]
  rfl
theorem b4 (h:DS s):FB DD s VS = some []:=by
 have hc:=h.cols_length
 have hf:=h.fin_ok (i:=1) (by omega) (by omega)
 have hleast:GP s 1 0 = some 0:=by
  refine Ok.val ?_
  unfold GP
  refine Ok.bindE (h.pFinest (i:=1) (by omega) (by omega)) (Ok.no (by rw [df,df]; rfl) ?_)
  refine Ok.for (fun q=>q) 0 (fun _ _=>True) 0 (Nat.zero_le _) rfl trivial (by omega) (fun rec q hq _=>?_) fun rec i q hi hq _ ih=>absurd hi (by omega)
  simp only [Ku,hq]
  exact Ok.no rfl (Ok.some rfl)
 refine Ok.val ?_
 unfold FB
 refine Ok.bindE (WP h) (Ok.no rfl ?_)
 refine Ok.for (fun q=>q.1) 1 (fun i q=>q.2 = if i = 0 then [] else [({ Column:=1,Level:=0 }:Ap)]) 0 (Nat.zero_le _) rfl rfl (by omega) (fun rec q hq hI=>?_) fun rec i q hi hq hI ih=>?_
 ·simp only [Fs,hq]
  refine Ok.no rfl ?_
  rw [hI]
  unfold Fv
  refine Ok.for (fun q=>q.1) s.Columns.length (fun _ q=>q.2 = [({ Column:=1,Level:=0 }:Ap)]) 0 (Nat.zero_le _) rfl rfl (by omega) (fun rec q hq hI=>?_) fun rec i q hi hq hI ih=>?_
  ·simp only [Ft,hq]
   rw [Br,hI]
   unfold D7
   refine Ok.bindE (x:=[TV]) rfl ?_
   refine Ok.for (fun q=>q.1) 1 (fun i q=>q.2 = if i = 0 then [[({ Column:=1,Level:=0 }:Ap)]] else [[({ Column:=1,Level:=0 }:Ap)],[]]) 0 (Nat.zero_le _) rfl rfl (by omega) (fun rec q hq hI=>?_) fun rec i q hi hq hI ih=>?_
   ·simp only [Fu,hq]
    refine Ok.no rfl ?_
    rw [hI]
    exact Ok.bindE (x:=[]) rfl (Ok.some rfl)
   ·obtain rfl:i = 0:=by omega
    simp only [Fu,hq]
    refine Ok.yes rfl (Ok.bindE (x:=TV) rfl (Ok.bindE (YS h) (Ok.rm (by rw [hI]; decide) (ih _ rfl ?_))))
    show q.2++[_] = _
    rw [hI]; rfl
  ·simp only [Ft,hq]
   rw [Bj]
   refine Ok.bindE (x:=false) (Ok.val ?_) (Ok.no rfl (ih _ EF hI))
   unfold I1
   refine Ok.brd (fun hpos=>Ok.no ?_ (Ok.bindE (x:=false) rfl (Ok.some rfl))) fun _=>Ok.some rfl
   show ((-1:Int)==(i:Int)) = false
   rw [beq_eq_false_iff_ne]; omega
 ·obtain rfl:i = 0:=by omega
  simp only [Fs,hq]
  refine Ok.yes rfl (Ok.bindE (x:=({ Column:=1,Level:=0 }:Ap)) rfl (Ok.bindE hleast (Ok.rm (by rw [hI]; decide) (ih _ rfl ?_))))
  show q.2++[_] = _
  rw [hI]; rfl
theorem Xg (h:DS s):∀ p∈By s,f7 s p:=by
 have hc:=h.cols_length
 intro p hp
 obtain ⟨k,hk,rfl⟩:=List.mem_map.1 hp
 have hk:k < s.Columns.length - 1:=List.mem_range.1 hk
 have hf:=h.fin_ok (i:=k + 1) (by omega) (by omega)
 exact ⟨k + 1,by omega,by omega,rfl,by show 0≤GD s (k + 1); omega,Int.le_refl _⟩
theorem Xf:(By s).Pairwise fun a b=>a.Column < b.Column:=by
 unfold By
 rw [List.pairwise_map]
 refine List.pairwise_lt_range.imp fun h=>?_
 show ((_ + 1:Nat):Int) < ((_ + 1:Nat):Int)
 omega
theorem ZN (h:DS s):Gm DD s Ow (By s) = some 0:=by
 have hc:=h.cols_length
 have hpl:=Dn (s:=s)
 have hplan:Hh DD s Ow = some []:=by
  refine Ok.val ?_
  unfold Hh
  refine Ok.for (fun q=>q.1) 1 (fun i q=>q.2 = if i = 0 then [] else [[]]) 0 (Nat.zero_le _) rfl rfl (by omega) (fun rec q hq hI=>?_) fun rec i q hi hq hI ih=>?_
  ·simp only [GH,hq]
   refine Ok.no rfl ?_
   rw [hI]
   exact Ok.bindE (x:=[]) rfl (Ok.some rfl)
  ·obtain rfl:i = 0:=by omega
   simp only [GH,hq]
   refine Ok.yes rfl (Ok.bindE (x:=VS) rfl (Ok.bindE (b4 h) (Ok.rm (by rw [hI]; decide) (ih _ rfl ?_))))
   show q.2++[_] = _
   rw [hI]; rfl
 refine Ok.val ?_
 unfold Gm
 refine Ok.bindE (XB h) (Ok.no rfl (Ok.bindE (eL h (Xg h) Xf (by omega)) (Ok.no rfl (Ok.bindE hplan (Ok.bindE (x:=true) (Ok.val ?_) (Ok.no rfl (Ok.some rfl)))))))
 unfold Hu
 refine Ok.bindE (x:=true) (Ok.val ?_) (Ok.some rfl)
 unfold G6
 exact Ok.bindE (Yl (fun _=>false) (fun x hx=>by cases hx) (by simp)) (Ok.some rfl)
end Go.Proofs.YtlpkhgkoihlghaaGreatDoor.P
namespace Go.Proofs.YtlpkhgkoihlghaaGreatDoor.P
open Go Go.Abs Go.Proofs
set_option maxRecDepth 100000
variable {s:Af}
theorem cR {x:Aq} {g:Nat} (h:Ja x g):IJ DD x Ow = some (x.Rows.map hd):=by
 have hl:=h.len
 have hs:=h.small
 refine Ok.val ?_
 unfold IJ
 refine Ok.bindE (XQ h) (Ok.no rfl (Ok.bindE (SC h.schema) (Ok.no rfl ?_)))
 unfold H0
 refine Ok.for (fun q=>q.1) x.Rows.length (fun i q=>q.2 = (x.Rows.take i).map hd) 0 (Nat.zero_le _) rfl rfl (by omega) (fun rec q hq hI=>?_) fun rec i q hi hq hI ih=>?_
 ·simp only [Hz,hq]
  rw [Br,hI,List.take_length]
  exact Ok.some rfl
 ·simp only [Hz,hq]
  rw [Bj]
  have hr:=h.rows _ (List.getElem_mem hi)
  have hh:=hr.hd h.schema
  refine Ok.idxn hi (Ok.bindE (b6 h.schema hr) (Ok.yes rfl (Ok.idxn hi (Ok.bindE (BV (hr.ne h.schema)) (Ok.bindE (eC _ hh.1 (by omega)) (Ok.yes rfl (Ok.idxn hi (Ok.bindE (BV (hr.ne h.schema)) (Ok.rm ?_ (ih _ EF ?_))))))))))
  ·rw [hI]; simp; omega
  ·show q.2++[_] = _
   rw [hI,List.take_succ_eq_append_getElem hi,List.map_append]
   rfl
theorem eN {x:Aq} {g:Nat} (h:Ja x g) {i:Nat} (hi:i < x.Rows.length):Cr x (hd x.Rows[i]) = some (i:Int):=by
 have hl:=h.len
 have hs:=h.small
 refine Ok.val ?_
 unfold Cr
 refine Ok.for (fun q=>q) x.Rows.length (fun k _=>k≤i) 0 (Nat.zero_le _) rfl (Nat.zero_le _) (by omega) (fun rec q hq hI=>by omega) fun rec k q hk hq hI ih=>?_
 simp only [Hl,hq]
 rw [Bj]
 have hr:=h.rows _ (List.getElem_mem hk)
 have hne:=hr.ne h.schema
 refine Ok.idxn hk (Ok.brd (fun _=>Ok.idxn hk (Ok.bindE (BV hne) (Ok.br (fun he=>Ok.some ?_) fun hn=>ih _ EF ?_))) fun hz=>?_)
 ·by_cases e:k = i
  ·rw [e]
  ·have he:hd x.Rows[k] = hd x.Rows[i]:=by simpa using he
   have:=(List.pairwise_iff_getElem.1 h.asc) k i hk hi (by omega)
   omega
 ·by_cases e:k = i
  ·subst e; simp at hn
  ·omega
 ·have:=List.length_pos_iff.2 hne
  omega
def Ud (sec:Int) (r:List Int):List Int:=kf sec (hd r) :: r.drop 1
theorem aw (sec:Int) (r:List Int):hd (Ud sec r) = kf sec (hd r):=rfl
structure XT (x:Aq) (sec:Int) (X:A0):Prop where
 project:X.Project = Ow.Project
 version:X.Version = x.Version
 picks:X.Picks = By x.Schema
 asc:PM X.Rows
 mem:∀ q,q∈X.Rows↔∃ p∈x.Rows,q = Ud sec p
 len:X.Rows.length≤x.Rows.length
theorem XT.eq {x:Aq} {sec:Int} {X Y:A0} (h:XT x sec X) (k:XT x sec Y):X = Y:=by
 have e:X.Rows = Y.Rows:=Um h.asc k.asc fun r=>(h.mem r).trans (k.mem r).symm
 obtain ⟨a,b,c,d⟩:=X
 obtain ⟨a',b',c',d'⟩:=Y
 have h1:=h.project.trans k.project.symm
 have h2:=h.version.trans k.version.symm
 have h3:=h.picks.trans k.picks.symm
 simp only at h1 h2 h3 e
 rw [h1,h2,h3,e]
theorem dU {x:Aq} {g:Nat} (h:Ja x g) {sec:Int} {p q:List Int} (hp:p∈x.Rows) (hq:q∈x.Rows) (hn:p≠q):kf sec (hd p)≠kf sec (hd q):=fun e=>by
 have h1:=(h.rows p hp).hd h.schema
 have h2:=(h.rows q hq).hd h.schema
 exact hn (h.asc.eq_of_hd hp hq (eD (by omega) (by omega) (by omega) (by omega) e))
theorem dA {x:Aq} {g:Nat} (h:Ja x g) {sec:Int} (hs0:0≤sec) (hs1:sec < 1152921504606846976):Ok (Gt DD x Ow (By x.Schema) sec) fun r=>XT x sec r.1∧r.2 = 0:=by
 have hl:=h.len
 have hsm:=h.small
 have hc:=h.schema.cols_length
 have hpl:=Dn (s:=x.Schema)
 unfold Gt
 refine Ok.bindE (XQ h) (Ok.no rfl (Ok.bindE (ZP h.schema) (Ok.no rfl (Ok.no ?_ (Ok.rm (by omega) (Ok.bindE (cR h) ?_))))))
 ·rw [df,df]; rfl
 refine Ok.for (fun q=>q.1) x.Rows.length (fun i q=>PM q.2∧(∀ r,r∈q.2↔∃ p∈x.Rows.take i,r = Ud sec p)∧q.2.length≤i) 0 (Nat.zero_le _) rfl ⟨List.Pairwise.nil,by simp,Nat.zero_le _⟩ (by omega) (fun rec q hq hI=>?_) fun rec i q hi hq hI ih=>?_
 ·simp only [IH,hq]
  rw [List.length_map,Br]
  rw [List.take_length] at hI
  exact Ok.some ⟨⟨rfl,rfl,rfl,hI.1,hI.2.1,hI.2.2⟩,rfl⟩
 ·obtain ⟨h1,h2,h3⟩:=hI
  simp only [IH,hq]
  rw [List.length_map,Bj]
  have hr:=h.rows _ (List.getElem_mem hi)
  have hh:=hr.hd h.schema
  have hid:idx (x.Rows.map hd) (i:Int) = some (hd x.Rows[i]):=by rw [K7 (by rw [List.length_map]; exact hi),List.getElem_map]
  refine Ok.bindE hid (Ok.bindE (eN h hi) (Ok.idxn hi (Ok.bindE hid (Ok.bindE (fK hs0 hs1 (by omega) (by omega)) ?_))))
  refine Ok.for (fun q=>q.1) (By x.Schema).length (fun k q=>q.2 = kf sec (hd x.Rows[i]) :: (x.Rows[i].drop 1).take k) 0 (Nat.zero_le _) rfl rfl (by omega) (fun rec2 q2 hq2 hI2=>?_) fun rec2 k q2 hk hq2 hI2 ih2=>?_
  ·simp only [II,hq2]
   rw [Br]
   have e:(x.Rows[i].drop 1).take (By x.Schema).length = x.Rows[i].drop 1:=List.take_of_length_le (by rw [List.length_drop,hr.1]; omega)
   rw [hI2,e]
   have hne:∀ r∈q.2,r≠[]:=fun r hr=>by
    obtain ⟨p,_,rfl⟩:=(h2 r).1 hr
    simp [Ud]
   refine Ok.bindE (Vi hne (by simp) h1 (by omega)) (ih _ EF ⟨S9 h1,fun r=>?_,?_⟩)
   ·rw [NI h1,h2 r,List.take_succ_eq_append_getElem hi]
    simp only [List.mem_append,List.mem_singleton]
    constructor
    ·rintro (e1 | ⟨⟨p,hp,e1⟩,_⟩)
     ·exact ⟨_,.inr rfl,e1⟩
     ·exact ⟨p,.inl hp,e1⟩
    ·rintro ⟨p,hp | hp,e1⟩
     ·by_cases hpe:p = x.Rows[i]
      ·left; rw [e1,hpe]; rfl
      ·refine .inr ⟨⟨p,hp,e1⟩,?_⟩
       rw [e1]
       exact dU h (List.mem_of_mem_take hp) (List.getElem_mem hi) hpe
     ·left; rw [e1,hp]; rfl
   ·have:=Ke q.2 (kf sec (hd x.Rows[i]) :: x.Rows[i].drop 1)
    show (L5 q.2 _).length≤i + 1
    omega
  ·simp only [II,hq2]
   rw [Bj]
   have hkk:k + 1 < x.Schema.Columns.length:=by omega
   have hkr:k + 1 < x.Rows[i].length:=by rw [hr.1]; exact hkk
   refine Ok.idxn hk (Ok.idxn hk (Ok.idxn hk ?_))
   rw [EX hk]
   refine Ok.idxn hkr (Ok.bindE (Zu h.schema (by omega) hkk (hr.2 (k + 1) _ _ (List.getElem?_eq_getElem hkk) (List.getElem?_eq_getElem hkr))) (Ok.rm ?_ (ih2 _ EF ?_)))
   ·rw [hI2]; simp; omega
   ·show q2.2++[_] = _
    have hkd:k < (x.Rows[i].drop 1).length:=by rw [List.length_drop]; omega
    rw [hI2,List.take_succ_eq_append_getElem hkd,List.cons_append,List.getElem_drop]
    simp [Nat.add_comm]
theorem d6 (id:Int) (h0:1≤id) (h1:id≤1048575):Nz XU id = some true:=by
 refine Ok.val ?_
 unfold Nz
 refine Ok.bindE (x:=0) rfl (Ok.yes (by simp [h0,h1]) ?_)
 obtain ⟨v,hv⟩:∃ v,Mu XU.Seed id = some v:=⟨_,rfl⟩
 refine Ok.bindE hv (Ok.gdd (by decide) (Ok.some ?_))
 show decide (Int.tmod v 1 < 1) = true
 rw [Int.tmod_one]
 rfl
theorem bz {v:Int} (h0:-1000000≤v) (h1:v≤1000000):Gw v 1 = some v:=by
 unfold Gw
 rw [Bj (by decide),Int.tmod_one,Br (by decide),Int.sub_zero,wr]
theorem YQ (h:DS s) {i:Nat} (h0:1≤i) (hi:i < s.Columns.length) {v:Int} (hv:bG s s.Columns[i] v):Hn s i (GD s i) v = some v:=by
 have hf:=h.fin_ok h0 hi
 refine Ok.val ?_
 unfold Hn
 refine Ok.bindE (h.pFinest h0 hi) (Ok.no (by rw [df,df]; rfl) (Ok.idxn hi ?_))
 rcases h.col h0 hi with h1 | h1
 ·obtain ⟨L,hL,hL2⟩:=h.clist h1
  have hcl:=Oa hL
  have hv2:v∈Ey L:=by
   rcases hv with ⟨hk,_⟩ | ⟨hk,L',hL',hL2',h3⟩ | ⟨hk,_⟩
   ·rw [h1.kind] at hk; cases hk
   ·rw [hL2] at hL2'; cases hL2'; exact h3
   ·rw [h1.kind] at hk; cases hk
  refine Ok.yes (by rw [h1.kind]; rfl) (Ok.bindE (fx h hi hv) (Ok.no rfl (Ok.bindE hL2 (Ok.bindE (x:=v) ?_ (Ok.some rfl)))))
  rw [Ri hi,Nc h1 hL2]
  exact (hcl.leaf v hv2).2.2.2.1
 ·obtain ⟨a1,a2⟩:=h1.low
  obtain ⟨a3,a4⟩:=h1.high
  have hv2:(s.Columns[i].Low≤v∧v≤s.Columns[i].High)∨v = Me:=by
   rcases hv with ⟨hk,_⟩ | ⟨hk,_⟩ | ⟨hk,h3 | h3⟩
   ·rw [h1.kind] at hk; cases hk
   ·rw [h1.kind] at hk; cases hk
   ·exact .inl h3
   ·exact .inr h3.2
  have hw:GQ s.Columns[i] (GD s i) = some 1:=by
   rw [Ri hi,Nf h1]
   unfold GQ
   have hwl:=Hq h1
   rw [wr,Int.sub_self]
   rcases cE h1.widths with e | e | e | e <;> (rw [e]; rfl)
  have e0:(GD s i==0) = false:=by rw [beq_eq_false_iff_ne]; omega
  refine Ok.no (by rw [h1.kind]; rfl) ?_
  rcases hv2 with hv2 | rfl
  ·have e1:(v != -1099511627776) = true:=by rw [bne_iff_ne]; omega
   have e2:(v==-1099511627776) = false:=by rw [beq_eq_false_iff_ne]; omega
   exact Ok.no (by rw [e1,df,df]; rfl) (Ok.no e0 (Ok.no e2 (Ok.bindE hw (Ok.bindE (bz (by omega) (by omega)) (Ok.some rfl)))))
  ·exact Ok.no rfl (Ok.no e0 (Ok.yes rfl (Ok.some rfl)))
theorem eK {x:Aq} {g:Nat} (h:Ja x g):Hg DD x Ow = some x.Rows:=by
 have hl:=h.len
 have hs:=h.small
 refine Ok.val ?_
 unfold Hg
 refine Ok.for (fun q=>q.1) x.Rows.length (fun i q=>q.2 = x.Rows.take i) 0 (Nat.zero_le _) rfl rfl (by omega) (fun rec q hq hI=>?_) fun rec i q hi hq hI ih=>?_
 ·simp only [GA,hq]
  rw [Br,hI,List.take_length]
  exact Ok.some rfl
 ·simp only [GA,hq]
  rw [Bj]
  have hr:=h.rows _ (List.getElem_mem hi)
  have hh:=hr.hd h.schema
  refine Ok.idxn hi (Ok.bindE (BV (hr.ne h.schema)) (Ok.bindE (d6 _ hh.1 (by omega)) (Ok.yes rfl (Ok.bindE (x:=1) rfl (Ok.yes rfl (Ok.rm ?_ (ih _ EF ?_)))))))
  ·rw [hI]; simp; omega
  ·show q.2++[_] = _
   rw [hI,List.take_succ_eq_append_getElem hi]
theorem f0 {l:List (List Int)} {cmp:List Int→List Int→Option Int} (hl:l.length≤1000) (hn:(l.map hd).Nodup) (hc:∀ a∈l,∀ b∈l,cmp a b = some (hd a - hd b)):∃ r,C2 l cmp = some r∧PM r∧(∀ q,q∈r↔q∈l)∧r.length = l.length:=by
 refine ⟨l.mergeSort fun x y=>decide (K6 x≤K6 y),?_,?_,fun q=>List.mem_mergeSort,List.length_mergeSort _⟩
 ·unfold C2
  have e1:(l.all fun a=>l.all fun b=>cmp a b==some (K6 a - K6 b)) = true:=by
   rw [List.all_eq_true]
   intro a ha
   rw [List.all_eq_true]
   intro b hb
   rw [hc a ha b hb]
   exact beq_self_eq_true _
  rw [e1,dt ⟨by omega,hn⟩]
  rfl
 ·have h1:(l.mergeSort fun x y=>decide (K6 x≤K6 y)).Pairwise fun a b=>decide (K6 a≤K6 b) = true:=List.pairwise_mergeSort (fun a b c h1 h2=>by simp at *; omega) (fun a b=>by simp; omega) l
  have h2:((l.mergeSort fun x y=>decide (K6 x≤K6 y)).map hd).Nodup:=((List.mergeSort_perm l _).map hd).nodup_iff.2 hn
  rw [List.Nodup,List.pairwise_map] at h2
  refine (h1.and h2).imp fun {a b} h=>?_
  have h3:K6 a≤K6 b:=by simpa using h.1
  have h4:hd a≠hd b:=h.2
  have h5:hd a≤hd b:=h3
  omega
theorem d4 {x:Aq} {g:Nat} (h:Ja x g) {sec:Int} (hs0:0≤sec) (hs1:sec < 1152921504606846976):Ok (Dc DD x Ow (By x.Schema) sec) fun r=>XT x sec r.1∧r.2 = 0:=by
 have hl:=h.len
 have hsm:=h.small
 have hc:=h.schema.cols_length
 have hpl:=Dn (s:=x.Schema)
 have hk0:=Sj sec (id:=0) (by omega) (by omega)
 unfold Dc
 refine Ok.bindE (aG h) (Ok.no rfl (Ok.bindE (ZN h.schema) (Ok.no rfl (Ok.bindE (eJ hs0 hs1 (by omega) (by omega)) (Ok.no (df (by omega)) (Ok.bindE (x:=By x.Schema) (by unfold CG; rw [WS (by omega)]; rfl) (Ok.bindE (eK h) ?_)))))))
 refine Ok.for (fun q=>q.1) x.Rows.length (fun i q=>q.2 = (x.Rows.take i).map (Ud sec)) 0 (Nat.zero_le _) rfl rfl (by omega) (fun rec q hq hI=>?_) fun rec i q hi hq hI ih=>?_
 ·simp only [G7,hq]
  rw [Br,hI,List.take_length]
  unfold G9
  have hmem:∀ a∈x.Rows.map (Ud sec),∃ p∈x.Rows,a = Ud sec p:=fun a ha=>by
   obtain ⟨p,hp,rfl⟩:=List.mem_map.1 ha
   exact ⟨p,hp,rfl⟩
  obtain ⟨r,h1,h2,h3,h4⟩:=f0 (l:=x.Rows.map (Ud sec)) (cmp:=Cf) (by rw [List.length_map]; omega) (by
   rw [List.map_map,List.Nodup,List.pairwise_map]
   refine List.Pairwise.imp_of_mem (fun {a b} ha hb hab=>?_) h.asc
   exact dU h ha hb fun e=>by rw [e] at hab; omega) (fun a ha b hb=>by
   obtain ⟨p,hp,rfl⟩:=hmem a ha
   obtain ⟨q,hq,rfl⟩:=hmem b hb
   have e1:=(h.rows p hp).hd h.schema
   have e2:=(h.rows q hq).hd h.schema
   have e3:=Sj sec (id:=hd p) (by omega) (by omega)
   have e4:=Sj sec (id:=hd q) (by omega) (by omega)
   unfold Cf
   rw [BV (by simp [Ud]),Option.bind_some,BV (by simp [Ud]),Option.bind_some,aw,aw,wr])
  refine Ok.bindE h1 (Ok.some ⟨⟨rfl,rfl,rfl,h2,fun q=>?_,by rw [h4,List.length_map]; exact Nat.le_refl _⟩,rfl⟩)
  rw [h3 q]
  exact ⟨hmem q,fun ⟨p,hp,e⟩=>by rw [e]; exact List.mem_map_of_mem hp⟩
 ·simp only [G7,hq]
  rw [Bj]
  have hr:=h.rows _ (List.getElem_mem hi)
  have hh:=hr.hd h.schema
  refine Ok.idxn hi (Ok.bindE (BV (hr.ne h.schema)) (Ok.bindE (eJ hs0 hs1 (by omega) (by omega)) ?_))
  refine Ok.for (fun q=>q.1) (By x.Schema).length (fun k q=>q.2 = kf sec (hd x.Rows[i]) :: (x.Rows[i].drop 1).take k) 0 (Nat.zero_le _) rfl rfl (by omega) (fun rec2 q2 hq2 hI2=>?_) fun rec2 k q2 hk hq2 hI2 ih2=>?_
  ·simp only [G8,hq2]
   rw [Br]
   have e:(x.Rows[i].drop 1).take (By x.Schema).length = x.Rows[i].drop 1:=List.take_of_length_le (by rw [List.length_drop,hr.1]; omega)
   rw [hI2,e]
   refine Ok.rm (by rw [hI]; simp; omega) (ih _ EF ?_)
   show q.2++[_] = _
   rw [hI,List.take_succ_eq_append_getElem hi,List.map_append]
   rfl
  ·simp only [G8,hq2]
   rw [Bj]
   have hkk:k + 1 < x.Schema.Columns.length:=by omega
   have hkr:k + 1 < x.Rows[i].length:=by rw [hr.1]; exact hkk
   refine Ok.idxn hk ?_
   rw [EX hk]
   refine Ok.idxn hkr (Ok.bindE (YQ h.schema (by omega) hkk (hr.2 (k + 1) _ _ (List.getElem?_eq_getElem hkk) (List.getElem?_eq_getElem hkr))) (Ok.rm ?_ (ih2 _ EF ?_)))
   ·rw [hI2]; simp; omega
   ·show q2.2++[_] = _
    have hkd:k < (x.Rows[i].drop 1).length:=by rw [List.length_drop]; omega
    rw [hI2,List.take_succ_eq_append_getElem hkd,List.cons_append,List.getElem_drop]
    simp [Nat.add_comm]
theorem U4 {x:Aq} {g:Nat} (h:Ja x g) {sec:Int} (hs0:0≤sec) (hs1:sec < 1152921504606846976):∃ X,XT x sec X∧Gt DD x Ow (By x.Schema) sec = some (X,0)∧Dc DD x Ow (By x.Schema) sec = some (X,0):=by
 obtain ⟨⟨X,c⟩,h1,h2,h3⟩:=dA h hs0 hs1
 obtain ⟨⟨Y,d⟩,k1,k2,k3⟩:=d4 h hs0 hs1
 have e:=h2.eq k2
 simp only at e h3 k3
 subst e; subst h3; subst k3
 exact ⟨X,h2,h1,k1⟩
end Go.Proofs.YtlpkhgkoihlghaaGreatDoor.P
namespace Go.Proofs.YtlpkhgkoihlghaaGreatDoor.P
open Go Go.Abs Go.Proofs
set_option maxRecDepth 100000
variable {s:Af}
theorem Og (d:Array Int) (z:Int):∀ m,m≤d.size→(z∈Lib.compactUpTo d m↔∃ j,j < m∧d[j]! = z)
 | 0,_=>by simp [Lib.compactUpTo]
 | m + 1,hm=>by
   have ih:=Og d z m (by omega)
   rw [Lib.compactUpTo_succ,List.mem_append,ih]
   by_cases hk:Lib.keeps d m = true
   ·rw [if_pos hk,List.mem_singleton]
    constructor
    ·rintro (⟨j,hj,e⟩ | e)
     ·exact ⟨j,by omega,e⟩
     ·exact ⟨m,by omega,e.symm⟩
    ·rintro ⟨j,hj,e⟩
     by_cases hj2:j < m
     ·exact .inl ⟨j,hj2,e⟩
     ·have:j = m:=by omega
      subst this; exact .inr e.symm
   ·rw [if_neg hk]
    have h0:¬ (m = 0∨d[m]!≠d[m - 1]!):=fun h=>hk (decide_eq_true h)
    have h1:m≠0:=fun h=>h0 (.inl h)
    have h2:d[m]! = d[m - 1]!:=Classical.byContradiction fun h=>h0 (.inr h)
    constructor
    ·rintro (⟨j,hj,e⟩ | e)
     ·exact ⟨j,by omega,e⟩
     ·cases e
    ·rintro ⟨j,hj,e⟩
     by_cases hj2:j < m
     ·exact .inl ⟨j,hj2,e⟩
     ·have:j = m:=by omega
      subst this
      exact .inl ⟨j - 1,by omega,by rw [← h2]; exact e⟩
theorem YM {l:List Int} {z:Int}:z∈Lib.compact l↔z∈l:=by
 unfold Lib.compact
 rw [Og _ _ _ (by simp)]
 constructor
 ·rintro ⟨j,hj,e⟩
  rw [getElem!_pos _ _ (by simpa using hj)] at e
  rw [← e]
  simp
 ·intro h
  obtain ⟨j,hj,e⟩:=List.mem_iff_getElem.1 h
  exact ⟨j,hj,by rw [getElem!_pos _ _ (by simpa using hj)]; simpa using e⟩
theorem Ym (l:List Int):(Lib.compact l).length≤l.length:=by
 unfold Lib.compact Lib.compactUpTo
 rw [List.length_map]
 exact Nat.le_trans (List.length_filter_le _ _) (by simp)
theorem SN {l:List Int} (hl:l.length≤1000):∃ t r,Ce l = some t∧BZ t = some r∧(∀ z,z∈r↔z∈l)∧r.length≤l.length:=by
 have hlen:(V6 l).length = l.length:=by simp [V6,List.length_mergeSort]
 refine ⟨V6 l,Lib.compact (V6 l),by unfold Ce; rw [WS (by omega)]; rfl,by unfold BZ; rw [dt (by omega)]; rfl,fun z=>?_,by rw [← hlen]; exact Ym _⟩
 rw [YM,V6,List.mem_mergeSort]
theorem PP {α:Type} {l:List α} {a b i:Nat} (hb:b≤l.length) (hi:i < (HR l (a:Int) (b:Int)).length):∃ h:a + i < l.length,a + i < b∧(HR l (a:Int) (b:Int))[i] = l[a + i]:=by
 have hl:(HR l (a:Int) (b:Int)).length = b - a:=by simp [HR]; omega
 refine ⟨by omega,by omega,?_⟩
 simp [HR]
theorem ek.tid_range (h:DS s) {e:B1} (he:ek s e):1≤Ul e∧Ul e≤1000:=by
 unfold Ul
 by_cases hk:e.Kind≤2
 ·rw [dt hk]; exact (he.row hk).1.hd h
 ·rw [df hk]; exact he.id (by omega)
theorem aa {x:Aq} {l:List B1} {st:Nat→Aq} (h:NZ x l st) {a b:Nat} (hab:a≤b) (hb:b≤l.length):Ok (G1 l a b) fun r=>r.length≤5∧∀ z,z∈r↔∃ (i:Nat) (hi:i < l.length),a≤i∧i < b∧z = Ul l[i]:=by
 have hl:=h.len
 have hs:=h.src 0 (Nat.zero_le _)
 have hsc:DS x.Schema:=by have:=hs.schema; rw [h.first] at this; exact this
 have hcl:(HR l (a:Int) (b:Int)).length = b - a:=by simp [HR]; omega
 unfold G1
 refine Ok.no (by rw [df,df,df]; rfl) (Ok.gdd (by omega) ?_)
 refine Ok.for (fun q=>q.1) (HR l (a:Int) (b:Int)).length (fun k q=>q.2 = ((HR l (a:Int) (b:Int)).take k).map Ul) 0 (Nat.zero_le _) rfl rfl (by omega) (fun rec q hq hI=>?_) fun rec k q hk hq hI ih=>?_
 ·simp only [FY,hq]
  rw [Br,hI,List.take_length]
  obtain ⟨t,r,h1,h2,h3,h4⟩:=SN (l:=(HR l (a:Int) (b:Int)).map Ul) (by simp; omega)
  refine Ok.bindE h1 (Ok.bindE h2 (Ok.some ⟨by rw [List.length_map] at h4; omega,fun z=>?_⟩))
  rw [h3,List.mem_map]
  constructor
  ·rintro ⟨e,he,rfl⟩
   obtain ⟨i,hi,rfl⟩:=List.mem_iff_getElem.1 he
   obtain ⟨k1,k2,k3⟩:=PP hb hi
   exact ⟨a + i,k1,by omega,k2,by rw [k3]⟩
  ·rintro ⟨i,hi,h5,h6,rfl⟩
   have hj:i - a < (HR l (a:Int) (b:Int)).length:=by omega
   obtain ⟨k1,k2,k3⟩:=PP hb hj
   refine ⟨_,List.getElem_mem hj,?_⟩
   rw [k3]
   congr 2
   omega
 ·simp only [FY,hq]
  rw [Bj]
  obtain ⟨k1,k2,k3⟩:=PP hb hk
  have he:=h.edit _ k1
  rw [← k3] at he
  have hstep:q.2++[Ul (HR l (a:Int) (b:Int))[k]] = ((HR l (a:Int) (b:Int)).take (k + 1)).map Ul:=by
   rw [hI,List.take_succ_eq_append_getElem hk,List.map_append]; rfl
  refine Ok.idxn hk ?_
  generalize (HR l (a:Int) (b:Int))[k] = e at he hstep ⊢
  have hq2:q.2.length≤5:=by rw [hI]; simp; omega
  have hkd:=he.kind
  have row:e.Kind≤2→Ok (bif (decide (((e.Row.length:Nat):Int) > 0)) then
   (idx e.Row 0).bind fun x44=>bif rm q.2.length [x44].length then rec ((IntKind.i64.wrap ((k:Int) + 1)),(q.2++[x44])) else none
   else rec ((IntKind.i64.wrap ((k:Int) + 1)),q.2)) fun r=>r.length≤5∧∀ z,z∈r↔∃ (i:Nat) (hi:i < l.length),a≤i∧i < b∧z = Ul l[i]:=fun hk2=>by
   have hr:=(he.row hk2).1
   have hne:=hr.ne hsc
   have ht:Ul e = hd e.Row:=by unfold Ul; rw [dt hk2]; rfl
   refine Ok.yes (dt (by have:=List.length_pos_iff.2 hne; omega)) (Ok.bindE (BV hne) (Ok.rm (by simp; omega) (ih _ EF ?_)))
   rw [← ht]; exact hstep
  have idr:3≤e.Kind→Ok (bif rm q.2.length [e.Id].length then rec ((IntKind.i64.wrap ((k:Int) + 1)),(q.2++[e.Id])) else none) fun r=>r.length≤5∧∀ z,z∈r↔∃ (i:Nat) (hi:i < l.length),a≤i∧i < b∧z = Ul l[i]:=fun hk2=>by
   have ht:Ul e = e.Id:=by unfold Ul; rw [df]; rfl
   refine Ok.rm (by simp; omega) (ih _ EF ?_)
   rw [← ht]; exact hstep
  rcases (by omega:e.Kind = 1∨e.Kind = 2∨e.Kind = 3∨e.Kind = 4) with hk1 | hk1 | hk1 | hk1
  ·exact Ok.yes (by rw [hk1]; rfl) (row (by omega))
  ·exact Ok.no (by rw [hk1]; rfl) (Ok.yes (by rw [hk1]; rfl) (row (by omega)))
  ·exact Ok.no (by rw [hk1]; rfl) (Ok.no (by rw [hk1]; rfl) (Ok.yes (by rw [hk1]; rfl) (idr (by omega))))
  ·exact Ok.no (by rw [hk1]; rfl) (Ok.no (by rw [hk1]; rfl) (Ok.no (by rw [hk1]; rfl) (Ok.yes (by rw [hk1]; rfl) (idr (by omega)))))
theorem YP {x:Aq} {l:List B1} {st:Nat→Aq} (h:NZ x l st) {a b:Nat} (hab:a≤b) (hb:b≤l.length) {sec:Int} (hs0:0≤sec) (hs1:sec < 1152921504606846976) :
 Ok (Dq l a b sec) fun r=>r.2 = 0∧r.1.length≤5∧∀ (i:Nat) (hi:i < l.length),a≤i→i < b→kf sec (Ul l[i])∈r.1:=by
 have hl:=h.len
 have hs:=h.src 0 (Nat.zero_le _)
 have hsc:DS x.Schema:=by have:=hs.schema; rw [h.first] at this; exact this
 unfold Dq
 refine Ok.no (by rw [df,df,df]; rfl) (Ok.no (by rw [df,df]; rfl) (Ok.bind (P:=fun r=>r.length≤5∧∀ (i:Nat) (hi:i < l.length),a≤i→i < b→kf sec (Ul l[i])∈r) ?_ fun r hr=>Ok.some ⟨rfl,hr⟩))
 unfold H5
 refine Ok.bind (aa h hab hb) fun T hT=>?_
 have hTr:∀ z∈T,1≤z∧z≤1000:=fun z hz=>by
  obtain ⟨i,hi,_,_,rfl⟩:=(hT.2 z).1 hz
  exact (h.edit i hi).tid_range hsc
 refine Ok.for (fun q=>q.1) T.length (fun k q=>q.2 = (T.take k).map (kf sec)) 0 (Nat.zero_le _) rfl rfl (by omega) (fun rec q hq hI=>?_) fun rec k q hk hq hI ih=>?_
 ·simp only [Fx,hq]
  rw [Br,hI,List.take_length]
  obtain ⟨t,r,h1,h2,h3,h4⟩:=SN (l:=T.map (kf sec)) (by simp; omega)
  have hset:Kk (T.map (kf sec)) = some r:=by
   unfold Kk
   rw [h1,Option.bind_some,h2]; rfl
  refine Ok.bindE hset (Ok.some ⟨by rw [List.length_map] at h4; omega,fun i hi h5 h6=>?_⟩)
  rw [h3]
  exact List.mem_map_of_mem ((hT.2 _).2 ⟨i,hi,h5,h6,rfl⟩)
 ·simp only [Fx,hq]
  rw [Bj]
  have hz:=hTr _ (List.getElem_mem hk)
  have hkr:=Sj sec (id:=T[k]) (by omega) (by omega)
  refine Ok.idxn hk (Ok.bindE (eJ hs0 hs1 (by omega) (by omega)) (Ok.yes (dt (by omega)) (Ok.rm (by rw [hI]; simp; omega) (ih _ EF ?_))))
  show q.2++[_] = _
  rw [hI,List.take_succ_eq_append_getElem hk,List.map_append]; rfl
theorem YT {l:List (List Int)} (hne:∀ r∈l,r≠[]) (ha:PM l) (hl:l.length≤1000):Ej l = some true:=by
 refine Ok.val ?_
 unfold Ej
 refine Ok.for (fun q=>q) l.length (fun _ _=>True) 0 (Nat.zero_le _) rfl trivial (by omega) (fun rec q hq _=>?_) fun rec i q hi hq _ ih=>?_
 ·simp only [Fy,hq]
  rw [Br]; exact Ok.some rfl
 ·simp only [Fy,hq]
  rw [Bj]
  have hn:=hne _ (List.getElem_mem hi)
  have hp:=List.length_pos_iff.2 hn
  refine Ok.idxn hi (Ok.no (beq_eq_false_iff_ne.2 (by omega)) (Ok.brd (fun h1=>?_) fun _=>ih _ EF trivial))
  have e:IntKind.i64.wrap ((i:Int) - 1) = ((i - 1:Nat):Int):=by rw [wr]; omega
  rw [e]
  have hi3:i - 1 < l.length:=by omega
  have hlt:=(List.pairwise_iff_getElem.1 ha) (i - 1) i hi3 hi (by omega)
  exact Ok.bindE (BV hn) (Ok.idxn hi3 (Ok.bindE (BV (hne _ (List.getElem_mem hi3))) (Ok.no (df (by omega)) (ih _ EF trivial))))
theorem YX {l:List (List Int)} (hne:∀ r∈l,r≠[]) (ha:PM l) (hl:l.length≤1000):FM l = some true:=by
 refine Ok.val ?_
 unfold FM
 refine Ok.for (fun q=>q) l.length (fun _ _=>True) 0 (Nat.zero_le _) rfl trivial (by omega) (fun rec q hq _=>?_) fun rec i q hi hq _ ih=>?_
 ·simp only [GM,hq]
  rw [Br]; exact Ok.some rfl
 ·simp only [GM,hq]
  rw [Bj]
  have hn:=hne _ (List.getElem_mem hi)
  have hp:=List.length_pos_iff.2 hn
  refine Ok.idxn hi (Ok.no (beq_eq_false_iff_ne.2 (by omega)) (Ok.brd (fun h1=>?_) fun _=>ih _ EF trivial))
  have e:IntKind.i64.wrap ((i:Int) - 1) = ((i - 1:Nat):Int):=by rw [wr]; omega
  rw [e]
  have hi3:i - 1 < l.length:=by omega
  have hlt:=(List.pairwise_iff_getElem.1 ha) (i - 1) i hi3 hi (by omega)
  exact Ok.idxn hi (Ok.bindE (BV hn) (Ok.idxn hi3 (Ok.bindE (BV (hne _ (List.getElem_mem hi3))) (Ok.no (df (by omega)) (ih _ EF trivial)))))
theorem dZ {l:List (List Int)} (hne:∀ r∈l,r≠[]) (ha:PM l) (hl:l.length≤1000) (k:Int):∃ p:Nat,At hd l k p∧GO l k = some ((p:Int),l.any fun a=>hd a==k):=by
 have hc:∀ a∈l,Ei a k = some (if hd a < k then -1 else if hd a > k then 1 else 0):=fun a haa=>by
  unfold Ei
  rw [BV (hne a haa),Option.bind_some]
  by_cases h1:hd a < k
  ·rw [decide_eq_true h1,if_pos h1]; rfl
  ·rw [decide_eq_false h1,if_neg h1,cond_false,Option.bind_some]
   by_cases h2:hd a > k
   ·rw [decide_eq_true h2,if_pos h2]; rfl
   ·rw [decide_eq_false h2,if_neg h2]; rfl
 obtain ⟨p,hp,e⟩:=R8 (x:=k) (cmp:=Ei) ha (by omega) hc (fun a _=>by by_cases h1:hd a < k <;> by_cases h2:hd a > k <;> simp [h1,h2]) (fun a _=>by by_cases h1:hd a < k <;> by_cases h2:hd a > k <;> simp [h1,h2] <;> omega)
 refine ⟨p,hp,?_⟩
 unfold GO
 rw [e]; rfl
theorem dq {l:List Ap} (hl:l.length≤1000):BC l l = some true:=by
 refine Ok.val ?_
 unfold BC
 refine Ok.no (by simp) ?_
 refine Ok.for (fun q=>q) l.length (fun _ _=>True) 0 (Nat.zero_le _) rfl trivial (by omega) (fun rec q hq _=>?_) fun rec i q hi hq _ ih=>?_
 ·simp only [BQ,hq]
  rw [Br]; exact Ok.some rfl
 ·simp only [BQ,hq]
  rw [Bj]
  exact Ok.idxn hi (Ok.idxn hi (Ok.no (by simp) (ih _ EF trivial)))
theorem e9 {a b:List Int} (hl:a.length≤1000):CP a b = some (decide (a = b)):=by
 refine Ok.val ?_
 unfold CP
 by_cases hlen:a.length = b.length
 ·refine Ok.no (by rw [hlen]; simp) ?_
  refine Ok.for (fun q=>q) a.length (fun i _=>a.take i = b.take i) 0 (Nat.zero_le _) rfl rfl (by omega) (fun rec q hq hI=>?_) fun rec i q hi hq hI ih=>?_
  ·simp only [Df,hq]
   rw [Br]
   rw [List.take_length,hlen,List.take_length] at hI
   exact Ok.some (by rw [hI]; simp)
  ·simp only [Df,hq]
   rw [Bj]
   have hi2:i < b.length:=by omega
   refine Ok.idxn hi (Ok.idxn hi2 (Ok.br (fun e=>Ok.some ?_) fun e=>ih _ EF ?_))
   ·have e:a[i]≠b[i]:=by simpa using e
    rw [decide_eq_false]
    intro e2; subst e2; exact e rfl
   ·have e:a[i] = b[i]:=by simpa using e
    rw [List.take_succ_eq_append_getElem hi,List.take_succ_eq_append_getElem hi2,hI,e]
 ·refine Ok.yes (by simp; omega) (Ok.some ?_)
  rw [decide_eq_false]
  intro e; subst e; exact hlen rfl
def DW (X Y:List (List Int)):List Int:=(X.filter fun r=>!(Y.any fun a=>hd a==hd r)).map hd
def KA (X Y:List (List Int)):List (List Int):=Y.filter fun r=>!(decide (r∈X))
structure RX (X:A0):Prop where
 ne:∀ r∈X.Rows,r≠[]
 asc:PM X.Rows
 len:X.Rows.length≤100
theorem dm {X Y:A0} (hX:RX X) (hY:RX Y) (hp:X.Project = Y.Project) (hk:X.Picks = Y.Picks) (hpl:X.Picks.length≤1000) (hrl:∀ r∈X.Rows,r.length≤1000) (hrl2:∀ r∈Y.Rows,r.length≤1000) :
 GN X Y = some ({ Version:=Y.Version,Gone:=DW X.Rows Y.Rows,Rows:=KA X.Rows Y.Rows },0):=by
 have hx:=hX.len
 have hy:=hY.len
 refine Ok.val ?_
 unfold GN
 refine Ok.bindE (YT hX.ne hX.asc (by omega)) (Ok.no rfl (Ok.bindE (YT hY.ne hY.asc (by omega)) (Ok.no rfl (Ok.no (by rw [hp]; simp) (Ok.bindE (x:=true) (by rw [← hk]; exact dq hpl) (Ok.no rfl ?_))))))
 unfold H3
 refine Ok.for (fun q=>q.1) X.Rows.length (fun i q=>q.2 = DW (X.Rows.take i) Y.Rows) 0 (Nat.zero_le _) rfl rfl (by omega) (fun rec q hq hI=>?_) fun rec i q hi hq hI ih=>?_
 ·simp only [H1,hq]
  rw [Br,hI,List.take_length]
  unfold H4
  refine Ok.for (fun q=>q.1) Y.Rows.length (fun i q=>q.2 = KA X.Rows (Y.Rows.take i)) 0 (Nat.zero_le _) rfl rfl (by omega) (fun rec q hq hI=>?_) fun rec i q hi hq hI ih=>?_
  ·simp only [H2,hq]
   rw [Br,hI,List.take_length]
   exact Ok.some rfl
  ·simp only [H2,hq]
   rw [Bj]
   have hn:=hY.ne _ (List.getElem_mem hi)
   obtain ⟨p,hp1,hp2⟩:=dZ hX.ne hX.asc (by omega) (hd Y.Rows[i])
   have hf:=EQ Y.Rows (fun r=>!(decide (r∈X.Rows))) hi
   have hle:=List.length_filter_le (fun r=>!(decide (r∈X.Rows))) (Y.Rows.take i)
   have hq2:q.2.length≤i:=by rw [hI]; unfold KA; simp at hle ⊢; omega
   have push:Y.Rows[i] ∉ X.Rows→Ok ((AY Y.Rows[i]).bind fun x103=>bif rm q.2.length [x103].length then rec ((IntKind.i64.wrap ((i:Int) + 1)),(q.2++[x103])) else none) (· = (({ Version:=Y.Version,Gone:=DW X.Rows Y.Rows,Rows:=KA X.Rows Y.Rows }:Bd),(0:Int))):=fun hno =>
    Ok.bindE (HQ (by have:=hrl2 _ (List.getElem_mem hi); omega)) (Ok.rm (by simp; omega) (ih _ EF (by
     show q.2++[_] = _
     unfold KA
     rw [hf,if_pos (by simp; exact hno),hI]; rfl)))
   refine Ok.idxn hi (Ok.bindE (BV hn) (Ok.bindE hp2 (Ok.br (fun hno=>push fun hin=>?_) fun hyes=>?_)))
   ·have:(X.Rows.any fun a=>hd a==hd Y.Rows[i]) = true:=LR.2 ⟨_,hin,rfl⟩
    have hno:(!(X.Rows.any fun a=>hd a==hd Y.Rows[i])) = true:=hno
    rw [this] at hno; cases hno
   ·have hyes:(X.Rows.any fun a=>hd a==hd Y.Rows[i]) = true:=by
     have h9:(!(X.Rows.any fun a=>hd a==hd Y.Rows[i])) = false:=hyes
     simpa using h9
    obtain ⟨hpl2,hpe⟩:=(hp1.found hX.asc).1 (LR.1 hyes)
    refine Ok.idxn hpl2 (Ok.bindE (e9 (hrl _ (List.getElem_mem hpl2))) (Ok.br (fun e=>push fun hin=>?_) fun e=>ih _ EF ?_))
    ·have e:X.Rows[p]≠Y.Rows[i]:=by simpa using e
     exact e (hX.asc.eq_of_hd (List.getElem_mem hpl2) hin hpe)
    ·have e:X.Rows[p] = Y.Rows[i]:=by simpa using e
     show q.2 = _
     unfold KA
     rw [hf,if_neg (by simp; rw [← e]; exact List.getElem_mem hpl2),hI,List.append_nil]; rfl
 ·simp only [H1,hq]
  rw [Bj]
  have hn:=hX.ne _ (List.getElem_mem hi)
  obtain ⟨p,hp1,hp2⟩:=dZ hY.ne hY.asc (by omega) (hd X.Rows[i])
  have hf:=EQ X.Rows (fun r=>!(Y.Rows.any fun a=>hd a==hd r)) hi
  have hle:=List.length_filter_le (fun r=>!(Y.Rows.any fun a=>hd a==hd r)) (X.Rows.take i)
  refine Ok.idxn hi (Ok.bindE (BV hn) (Ok.bindE hp2 (Ok.br (fun hno=>Ok.bindE (BV hn) (Ok.rm ?_ (ih _ EF ?_))) fun hyes=>ih _ EF ?_)))
  ·rw [hI]; unfold DW; simp at hle ⊢; omega
  ·show q.2++[_] = _
   unfold DW
   rw [hf,if_pos hno,hI,List.map_append]; rfl
  ·show q.2 = _
   unfold DW
   rw [hf,if_neg (by rw [show (!(Y.Rows.any fun a=>hd a==hd X.Rows[i])) = false from hyes]; simp),hI,List.append_nil]; rfl
end Go.Proofs.YtlpkhgkoihlghaaGreatDoor.P
namespace Go.Proofs.YtlpkhgkoihlghaaGreatDoor.P
open Go Go.Abs Go.Proofs
set_option maxRecDepth 100000
variable {s:Af}
def fa (s:Af) (p:Ap):Prop:=∃ i:Nat,1≤i∧i < s.Columns.length∧p.Column = i∧0≤p.Level∧p.Level≤GD s i
theorem ZZ {c:Ae} (hc:ES c) (hs:DS s) (m:Int):Ok (EL c s m) fun r=>ES r.2∧r.1.length≤10:=by
 unfold EL
 refine Ok.bind (UB hs) fun l hl=>?_
 obtain ⟨_,hl,_⟩:=hl
 refine Ok.for (fun q=>q.1) l.length (fun k q=>ES q.2.1∧q.2.2.length≤k) 0 (Nat.zero_le _) rfl ⟨hc,Nat.le_refl _⟩ (by omega) (fun rec q hq hI=>?_) fun rec k q hk hq hI ih=>?_
 ·simp only [ED,hq]
  rw [Br]
  exact Ok.some ⟨hI.1,by have:=hI.2; show q.2.2.length≤10; omega⟩
 ·have h2:=hI.2
  simp only [ED,hq]
  rw [Bj]
  refine Ok.idxn hk (Ok.br (fun _=>Ok.br (fun _=>Ok.idxn hk (Ok.rm (by simp; omega) (ih _ EF ⟨hI.1,by simp; omega⟩))) fun _=>Ok.bind (L1 hI.1 (by omega) (by omega)) fun z hz=>Ok.br (fun _=>Ok.idxn hk (Ok.rm (by simp; omega) (ih _ EF ⟨hz,by simp; omega⟩))) fun _=>ih _ EF ⟨hz,by show q.2.2.length≤k + 1; omega⟩) fun _=>ih _ EF ⟨hI.1,by show q.2.2.length≤k + 1; omega⟩)
theorem Wz (hs:DS s) {c:Ae} (hc:ES c) {v:Int} (hv:∃ i:Nat,v = i∧1≤i∧∃ hi:i < s.Columns.length,O0 s.Columns[i]) {b:List Ap} {k:Nat} (hk:k≤10) (hb:b.length≤k∧∀ p∈b,fa s p) {ρ:Type} {Q:ρ→Prop} {f:Ae→List Ap→Option ρ}
 (h:∀ c b,ES c→(b.length≤k + 1∧∀ p∈b,fa s p)→Ok (f c b) Q) :
 Ok ((Cg s v).bind fun x34=>(A8 c (IntKind.i64.wrap (x34 + 1))).bind fun x36=>bif P.rm b.length [({ Column:=v,Level:=x36.1 }:Ap)].length then f x36.2 (b++[({ Column:=v,Level:=x36.1 }:Ap)]) else none) Q:=by
 obtain ⟨i,rfl,h1,h2,_⟩:=hv
 have hf:=hs.fin_ok h1 h2
 refine Ok.bindE (hs.rfinest h1 h2) ?_
 have e:IntKind.i64.wrap (GD s i + 1) = GD s i + 1:=wr
 rw [e]
 refine Ok.bind (Cv hc (by omega) (by omega)) fun z hz=>Ok.rm (by simp; omega) (h _ _ hz.1 ⟨by simp; omega,fun p hp=>?_⟩)
 rcases List.mem_append.1 hp with hp | hp
 ·exact hb.2 p hp
 ·rw [List.mem_singleton] at hp; subst hp
  exact ⟨i,h1,h2,rfl,hz.2.1,by show z.1≤GD s i; omega⟩
theorem Wy {c:Ae} (hc:ES c) (hs:DS s):Ok (Ed c s) fun r=>ES r.2∧r.1.length≤10∧∀ p∈r.1,fa s p:=by
 unfold Ed
 refine Ok.bind (U9 hs) fun l hl=>Ok.bind (L1 hc (by omega) (by omega)) fun y hy=>?_
 obtain ⟨hne,hl,hm⟩:=hl
 have hpos:=List.length_pos_iff.2 hne
 refine Ok.br (fun _=>Ok.bind (Cv hy (by omega) (by omega)) fun z hz=>Ok.gdd (by omega) ?_) fun _=>?_
 ·have hcl:(HR l z.1 ((l.length:Nat):Int)).length≤6:=by unfold HR; rw [List.length_take,List.length_drop]; omega
  refine Ok.for (fun q=>q.1) (HR l z.1 ((l.length:Nat):Int)).length (fun k q=>ES q.2.1∧q.2.2.length≤k∧∀ p∈q.2.2,fa s p) 0 (Nat.zero_le _) rfl ⟨hz.1,Nat.le_refl _,fun p hp=>by cases hp⟩ (by omega) (fun rec q hq hI=>?_) fun rec k q hk hq hI ih=>?_
  ·simp only [Ff,hq]
   rw [Br]
   exact Ok.some ⟨hI.1,by have:=hI.2.1; show q.2.2.length≤10; omega,hI.2.2⟩
  ·simp only [Ff,hq]
   rw [Bj]
   have hmem:(HR l z.1 ((l.length:Nat):Int))[k]∈l:=List.mem_of_mem_drop (List.mem_of_mem_take (List.getElem_mem hk))
   exact Ok.idxn hk (Ok.idxn hk (Wz hs hI.1 (hm _ hmem) (by omega) hI.2 (f:=fun c b=>rec (IntKind.i64.wrap ((k:Int) + 1),c,b)) fun c b hc hb=>ih (IntKind.i64.wrap ((k:Int) + 1),c,b) EF ⟨hc,hb⟩))
 ·refine Ok.for (fun q=>q.1) l.length (fun k q=>ES q.2.1∧q.2.2.length≤k∧∀ p∈q.2.2,fa s p) 0 (Nat.zero_le _) rfl ⟨hy,Nat.le_refl _,fun p hp=>by cases hp⟩ (by omega) (fun rec q hq hI=>?_) fun rec k q hk hq hI ih=>?_
  ·simp only [Fg,hq]
   rw [Br]
   exact Ok.some ⟨hI.1,by have:=hI.2.1; show q.2.2.length≤10; omega,hI.2.2⟩
  ·simp only [Fg,hq]
   rw [Bj]
   exact Ok.idxn hk (Ok.idxn hk (Wz hs hI.1 (hm _ (List.getElem_mem hk)) (by omega) hI.2 (f:=fun c b=>rec (IntKind.i64.wrap ((k:Int) + 1),c,b)) fun c b hc hb=>ih (IntKind.i64.wrap ((k:Int) + 1),c,b) EF ⟨hc,hb⟩))
theorem dy {n:Int} (h0:0≤n) (h1:n < 100):Dh n = some ⟨(Go.Lib.decDigits n.toNat).toArray⟩:=by
 unfold Dh
 rw [decide_eq_true ⟨h0,h1⟩]; rfl
theorem Yn (hs:DS s) {n d:Nat} (hd:n < d) (hn:n≤1000) {c:Ae} (hc:ES c):Ok (AR d c s n) fun r=>ES r.2:=(ak hs n d hc hd hn).mono fun _ h=>h.1
theorem WL (hs:DS s) {d:Nat} (hd:10≤d) {names:List ByteArray} (hn:names.length≤100) {c:Ae} (hc:ES c):Ok (Ct names d s c) fun r=>ES r.2:=by
 unfold Ct
 have last:∀ {c:Ae},ES c→Ok ((AR d c s 2).bind fun x71=>some (({ Op:=3,Num:=0,Name:=ByteArray.empty,Column:=0,Columns:=[],Dims:=[],Cond:=x71.1,Event:=({ Op:=0,Column:=0,Code:=0,Low:=0,High:=0,Kids:=[] }:As),Kids:=[] }:C6),x71.2)) fun r=>ES r.2:=fun hc =>
  Ok.bind (Yn hs (n:=2) (by omega) (by omega) hc) fun x hx=>Ok.some hx
 refine Ok.bind (Cv hc (by omega) (by omega)) fun k hk=>Ok.br (fun _=>Ok.bind (FC hk.1 (by omega) (by omega) (by omega) (by omega)) fun x hx=>Ok.some hx.1) fun _=>Ok.br (fun _=>Ok.brd (fun hpos=>Ok.bind (Cv hk.1 (by omega) (by omega)) fun x hx=>Ok.idx hx.2.1 (by omega) (Ok.some hx.1)) fun _=>last hk.1) fun _ =>
  Ok.br (fun _=>Ok.bind (Kd hk.1 hs) fun m hm=>Ok.bind (Yn hs (n:=1) (by omega) (by omega) hm.1) fun x hx=>Ok.some hx) fun _=>Ok.br (fun _=>Ok.bind (Kd hk.1 hs) fun m hm=>Ok.bind (Yn hs (n:=0) (by omega) (by omega) hm.1) fun x hx=>Ok.some hx) fun _=>last hk.1
theorem Te (hs:DS s) {names:List ByteArray} (hn:names.length≤100):∀ (n d:Nat) {c:Ae},ES c→n + 10 < d→n≤1000→Ok (BL d c s names n) fun r=>ES r.2
 | 0,d,c,hc,hd,_=>by
   obtain ⟨d,rfl⟩:∃ k,d = k + 1:=⟨d - 1,by omega⟩
   unfold BL Dr
   exact Ok.no rfl (WL hs (by omega) hn hc)
 | n + 1,d,c,hc,hd,h1=>by
   obtain ⟨d,rfl⟩:∃ k,d = k + 1:=⟨d - 1,by omega⟩
   unfold BL Dr
   have e:IntKind.i64.wrap (((n + 1:Nat):Int) - 1) = (n:Int):=by rw [wr]; omega
   refine Ok.yes (dt (by omega)) (Ok.bind (L1 hc (by omega) (by omega)) fun o ho=>Ok.br (fun _=>Ok.bind (FC ho (by omega) (by omega) (by omega) (by omega)) fun x hx=>?_) fun _=>WL hs (by omega) hn ho)
   rw [e]
   exact Ok.bind (Te hs hn n d hx.1 (by omega) (by omega)) fun y hy=>Ok.bind (Te hs hn n d hy (by omega) (by omega)) fun z hz=>Ok.some hz
theorem dr (hs:DS s) {names:List ByteArray} (hn:names.length≤100) {c:Ae} (hc:ES c):Ok (F9 DD c s names) fun r=>ES r.2:=by
 unfold F9
 have num:∀ {c:Ae},ES c→Ok ((BL DD c s names 2).bind fun x93=>some (x93.1,x93.2)) fun r=>ES r.2:=fun hc =>
  Ok.bind (Te hs hn 2 DD hc (by decide) (by omega)) fun x hx=>Ok.some hx
 have c0:∀ {c:Ae},ES c→Ok (AR DD c s 0) fun r=>ES r.2:=fun hc=>Yn hs (n:=0) (by decide) (by omega) hc
 have c1:∀ {c:Ae},ES c→Ok (AR DD c s 1) fun r=>ES r.2:=fun hc=>Yn hs (n:=1) (by decide) (by omega) hc
 refine Ok.bind (Kd hc hs) fun m hm=>Ok.bind (Cv hm.1 (by omega) (by omega)) fun k hk=>?_
 obtain ⟨i,hi1,hi2,hi3,hM⟩:=hm.2
 refine Ok.br (fun _=>Ok.bind (Wy hk.1 hs) fun x hx=>Ok.bind (c1 hx.1) fun y hy=>Ok.bind (L1 hy (by omega) (by omega)) fun z hz=>Ok.br (fun _=>Ok.some hz) fun _=>Ok.some hz) fun _=>?_
 refine Ok.br (fun _=>Ok.bind (Wy hk.1 hs) fun x hx=>Ok.bind (c1 hx.1) fun y hy=>Ok.bind (L1 hy (by omega) (by omega)) fun z hz=>Ok.br (fun _=>Ok.some hz) fun _=>Ok.some hz) fun _=>?_
 refine Ok.br (fun _=>Ok.bind (ZZ hk.1 hs m.1) fun x hx=>Ok.brd (fun _=>Ok.bind (c1 hx.1) fun y hy=>Ok.some hy) fun _=>num hx.1) fun _=>?_
 rw [hi1]
 refine Ok.br (fun _=>Ok.idxn hi3 (Ok.brd (fun _=>Ok.bind (c0 hk.1) fun x hx=>Ok.bind (c0 hx) fun y hy=>Ok.some hy) fun _=>num hk.1)) fun _=>?_
 refine Ok.br (fun _=>Ok.idxn hi3 ?_) fun _=>Ok.br (fun _=>Ok.bind (c0 hk.1) fun x hx=>Ok.some hx) fun _=>num hk.1
 have hw:=Hq hM
 exact Ok.bind (Cv hk.1 (by omega) (by omega)) fun x hx=>Ok.idx hx.2.1 (by omega) (Ok.bind (c1 hx.1) fun y hy=>Ok.some hy)
theorem ZO (hs:DS s) {c:Ae} (hc:ES c):Ok (D5 DD c s 3) fun r=>ES r.2:=by
 unfold D5
 refine Ok.bind (Cv hc (by decide) (by decide)) fun n hn=>?_
 have h3:n.1≤3:=by
  have:=hn.2.2
  have e:IntKind.i64.wrap (3 + 1) = 4:=by decide
  rw [e] at this; omega
 refine Ok.loop (fun q=>0≤q.1∧ES q.2.1∧(q.2.2.1.length:Int) + q.1≤3∧q.2.2.2.length≤q.2.2.1.length) (fun q=>q.1.toNat) ⟨hn.2.1,hn.1,by simpa using h3,by simp⟩ (by unfold AI; simp only; omega) fun rec q ⟨i1,i2,i3,i4⟩ ih=>?_
 simp only [FR]
 refine Ok.brd (fun hpos=>?_) fun hpos=>Ok.some i2
 have hw:IntKind.i64.wrap (q.1 - 1) = q.1 - 1:=by rw [wr]
 have hsz:∀ n:Nat,n < 3→(⟨(Go.Lib.decDigits n).toArray⟩:ByteArray).size = 1:=by decide +kernel
 refine Ok.bindE (dy (by omega) (by omega)) (Ok.gdd ?_ (Ok.bind (L1 i2 (by omega) (by omega)) fun o ho=>Ok.bind (dr hs (by omega) ho) fun e he=>Ok.brd (fun _=>Ok.rm (by simp; omega) (Ok.rm (by simp; omega) (ih _ ⟨?_,he,?_,?_⟩ ?_))) fun _=>Ok.rm (by simp; omega) (ih _ ⟨?_,he,?_,?_⟩ ?_)))
 ·rw [hsz _ (by omega)]; decide
 all_goals (first | (show (0:Int)≤IntKind.i64.wrap (q.1 - 1); rw [hw]; omega) | (show (IntKind.i64.wrap (q.1 - 1)).toNat < q.1.toNat; rw [hw]; omega) | (simp; rw [hw]; omega) | (simp; omega))
theorem cV {c:Ae} (hc:ES c):Ok (Kb DD c) fun r=>Ja r.1 0∧(∃ st,NZ r.1 r.2.1 st)∧r.2.2.1 = Ow∧r.2.2.2.1 = By r.1.Schema∧0≤r.2.2.2.2.1∧r.2.2.2.2.1 < 1152921504606846976:=by
 unfold Kb
 refine Ok.bind (bC hc (n:=8) (by omega)) fun x hx=>Ok.bind (cg hx.2.src hx.1) fun l hl=>Ok.bindE (er hx.2.schema) (Ok.bind (b9 hl.1) fun y hy=>Ok.bind (ZO hx.2.schema hy.1) fun p hp=>Ok.some ⟨hx.2.src,hl.2,rfl,rfl,hy.2⟩)
end Go.Proofs.YtlpkhgkoihlghaaGreatDoor.P
namespace Go.Proofs.YtlpkhgkoihlghaaGreatDoor.P
open Go Go.Abs Go.Proofs
set_option maxRecDepth 100000
variable {s:Af}
theorem dz {C:Bd} (hg:C.Gone.length≤100) (hr:C.Rows.length≤100) (hne:∀ r∈C.Rows,r≠[]):Ok (LM C) fun r=>r.length≤200∧∀ z,z∈r→z∈C.Gone∨∃ q∈C.Rows,z = hd q:=by
 unfold LM
 refine Ok.for (fun q=>q.2) C.Gone.length (fun k q=>q.1.Pairwise (· < ·)∧q.1.length≤k∧∀ z,z∈q.1→z∈C.Gone) 0 (Nat.zero_le _) rfl ⟨List.Pairwise.nil,Nat.le_refl _,fun z hz=>by cases hz⟩ (by omega) (fun rec q hq hI=>?_) fun rec k q hk hq hI ih=>?_
 ·simp only [JG,hq]
  rw [Br]
  unfold JI
  obtain ⟨j1,j2,j3⟩:=hI
  refine Ok.for (fun q=>q.2) C.Rows.length (fun k q=>q.1.Pairwise (· < ·)∧q.1.length≤C.Gone.length + k∧∀ z,z∈q.1→z∈C.Gone∨∃ q∈C.Rows,z = hd q) 0 (Nat.zero_le _) rfl ⟨j1,by simpa using j2,fun z hz=>.inl (j3 z hz)⟩ (by omega) (fun rec q hq hI=>?_) fun rec k q hk hq hI ih=>?_
  ·simp only [JH,hq]
   rw [Br]
   exact Ok.some ⟨by have:=hI.2.1; omega,hI.2.2⟩
  ·obtain ⟨i1,i2,i3⟩:=hI
   simp only [JH,hq]
   rw [Bj]
   have hn:=hne _ (List.getElem_mem hk)
   refine Ok.idxn hk (Ok.yes (dt (by have:=List.length_pos_iff.2 hn; omega)) (Ok.idxn hk (Ok.bindE (BV hn) (Ok.bind (XD (by omega) i1) fun r hr=>ih _ EF ⟨hr.1,by have:=hr.2.2; show r.length≤_; omega,fun z hz=>?_⟩))))
   rcases (hr.2.1 z).1 hz with h | h
   ·exact i3 z h
   ·exact .inr ⟨_,List.getElem_mem hk,h⟩
 ·obtain ⟨i1,i2,i3⟩:=hI
  simp only [JG,hq]
  rw [Bj]
  refine Ok.idxn hk (Ok.bind (XD (by omega) i1) fun r hr=>ih _ EF ⟨hr.1,by have:=hr.2.2; show r.length≤_; omega,fun z hz=>?_⟩)
  rcases (hr.2.1 z).1 hz with h | h
  ·exact i3 z h
  ·rw [h]; exact List.getElem_mem hk
theorem aJ {l:List (List Int)} (hne:∀ r∈l,r≠[]) (hl:l.length≤1000) (k:Int):∃ r,HN l k = some r∧(0≤r↔∃ a∈l,hd a = k):=by
 have:Ok (HN l k) fun r=>(0≤r↔∃ a∈l,hd a = k):=by
  unfold HN
  refine Ok.for (fun q=>q) l.length (fun i _=>∀ a∈l.take i,hd a≠k) 0 (Nat.zero_le _) rfl (by simp) (by omega) (fun rec q hq hI=>?_) fun rec i q hi hq hI ih=>?_
  ·simp only [JJ,hq]
   rw [Br]
   rw [List.take_length] at hI
   exact Ok.some ⟨fun h=>by omega,fun ⟨a,ha,e⟩=>absurd e (hI a ha)⟩
  ·simp only [JJ,hq]
   rw [Bj]
   have hn:=hne _ (List.getElem_mem hi)
   refine Ok.idxn hi (Ok.bindE (BV hn) (Ok.br (fun he=>Ok.some ?_) fun he=>ih _ EF fun a ha=>?_))
   ·exact ⟨fun _=>⟨_,List.getElem_mem hi,by simpa using he⟩,fun _=>by omega⟩
   ·rw [List.take_succ_eq_append_getElem hi] at ha
    rcases List.mem_append.1 ha with ha | ha
    ·exact hI a ha
    ·rw [List.mem_singleton] at ha; subst ha; simpa using he
 exact this
theorem Ni {X Y:List (List Int)} {z:Int}:z∈DW X Y↔∃ r∈X,z = hd r∧¬ ∃ a∈Y,hd a = hd r:=by
 unfold DW
 simp only [List.mem_map,List.mem_filter,Bool.not_eq_true']
 constructor
 ·rintro ⟨r,⟨h1,h2⟩,rfl⟩
  exact ⟨r,h1,rfl,fun h=>by rw [LR.2 h] at h2; cases h2⟩
 ·rintro ⟨r,h1,rfl,h2⟩
  exact ⟨r,⟨h1,bP h2⟩,rfl⟩
theorem Iz {X Y:List (List Int)} {r:List Int}:r∈KA X Y↔r∈Y∧r ∉ X:=by
 unfold KA
 rw [List.mem_filter]
 simp
theorem bg {X Y:List (List Int)} (h:PM X):(DW X Y).Pairwise (· < ·):=by
 unfold DW
 rw [List.pairwise_map]
 exact h.sublist List.filter_sublist
theorem Zq {X Y:A0} (hX:RX X) (hY:RX Y) (hlen:∀ r∈Y.Rows,r.length = X.Picks.length + 1) (hpl:X.Picks.length≤1000) :
 Ok (Kj X { Version:=Y.Version,Gone:=DW X.Rows Y.Rows,Rows:=KA X.Rows Y.Rows }) fun r=>r.2 = 0∧r.1.Version = Y.Version∧r.1.Rows = Y.Rows:=by
 have hx:=hX.len
 have hy:=hY.len
 have hnl:(KA X.Rows Y.Rows).length≤100:=by have:=List.length_filter_le (fun r=>!(decide (r∈X.Rows))) Y.Rows; unfold KA; omega
 have hgl:(DW X.Rows Y.Rows).length≤100:=by have:=List.length_filter_le (fun r=>!(Y.Rows.any fun a=>hd a==hd r)) X.Rows; unfold DW; rw [List.length_map]; omega
 have hna:PM (KA X.Rows Y.Rows):=hY.asc.sublist List.filter_sublist
 have hnn:∀ r∈KA X.Rows Y.Rows,r≠[]:=fun r hr=>hY.ne r (Iz.1 hr).1
 have hga:=bg (X:=X.Rows) (Y:=Y.Rows) hX.asc
 unfold Kj
 refine Ok.bindE (YX hX.ne hX.asc (by omega)) (Ok.no rfl (Ok.bindE (YX hnn hna (by show (KA _ _).length≤_; omega)) (Ok.no rfl ?_)))
 unfold IQ
 have last:Ok (Gv ({ Version:=Y.Version,Gone:=DW X.Rows Y.Rows,Rows:=KA X.Rows Y.Rows }:Bd) X) fun r=>r.2 = 0∧r.1.Version = Y.Version∧r.1.Rows = Y.Rows:=by
  unfold Gv
  refine Ok.for (fun q=>q) (KA X.Rows Y.Rows).length (fun _ _=>True) 0 (Nat.zero_le _) rfl trivial (by omega) (fun rec q hq _=>?_) fun rec i q hi hq _ ih=>?_
  ·simp only [IK,hq]
   rw [Br]
   unfold IR
   refine Ok.for (fun q=>q) (DW X.Rows Y.Rows).length (fun _ _=>True) 0 (Nat.zero_le _) rfl trivial (by omega) (fun rec q hq _=>?_) fun rec i q hi hq _ ih=>?_
   ·simp only [IL,hq]
    rw [Br]
    unfold IS
    refine Ok.for (fun q=>q) (DW X.Rows Y.Rows).length (fun _ _=>True) 0 (Nat.zero_le _) rfl trivial (by omega) (fun rec q hq _=>?_) fun rec i q hi hq _ ih=>?_
    ·simp only [IM,hq]
     rw [Br]
     unfold IT
     refine Ok.for (fun q=>q.1) X.Rows.length (fun i q=>PM q.2∧q.2.length≤i∧∀ r,r∈q.2↔r∈X.Rows.take i∧hd r ∉ DW X.Rows Y.Rows) 0 (Nat.zero_le _) rfl ⟨List.Pairwise.nil,Nat.le_refl _,by simp⟩ (by omega) (fun rec q hq hI=>?_) fun rec i q hi hq hI ih=>?_
     ·simp only [IN,hq]
      rw [Br]
      rw [List.take_length] at hI
      obtain ⟨i1,i2,i3⟩:=hI
      unfold Dj
      refine Ok.for (fun q=>q.1) (KA X.Rows Y.Rows).length (fun i q=>PM q.2∧q.2.length≤X.Rows.length + i∧∀ r,r∈q.2↔(r∈X.Rows∧hd r ∉ DW X.Rows Y.Rows∧∀ c∈(KA X.Rows Y.Rows).take i,hd r≠hd c)∨r∈(KA X.Rows Y.Rows).take i) 0 (Nat.zero_le _) rfl ⟨i1,by simpa using i2,fun r=>by rw [i3 r]; simp⟩ (by omega) (fun rec q hq hI=>?_) fun rec i q hi hq hI ih=>?_
      ·simp only [IP,hq]
       rw [Br]
       obtain ⟨j1,j2,j3⟩:=hI
       rw [List.take_length] at j3
       refine Ok.some ⟨rfl,rfl,Um j1 hY.asc fun r=>?_⟩
       rw [j3 r]
       constructor
       ·rintro (⟨h1,h2,h3⟩ | h1)
        ·obtain ⟨a,ha,e⟩:∃ a∈Y.Rows,hd a = hd r:=Classical.byContradiction fun hn=>h2 (Ni.2 ⟨r,h1,rfl,hn⟩)
         have hin:a∈X.Rows:=Classical.byContradiction fun hn=>h3 a (Iz.2 ⟨ha,hn⟩) e.symm
         rw [← hX.asc.eq_of_hd hin h1 e]; exact ha
        ·exact (Iz.1 h1).1
       ·intro h1
        by_cases h2:r∈X.Rows
        ·refine .inl ⟨h2,fun hg=>?_,fun c hc e=>?_⟩
         ·obtain ⟨r',_,e,hn⟩:=Ni.1 hg
          exact hn ⟨r,h1,e⟩
         ·obtain ⟨hc1,hc2⟩:=Iz.1 hc
          have:=hY.asc.eq_of_hd h1 hc1 e
          exact hc2 (this ▸ h2)
        ·exact .inr (Iz.2 ⟨h1,h2⟩)
      ·obtain ⟨j1,j2,j3⟩:=hI
       simp only [IP,hq]
       rw [Bj]
       have hne2:∀ r∈q.2,r≠[]:=fun r hr=>by
        rcases (j3 r).1 hr with h | h
        ·exact hX.ne r h.1
        ·exact hnn r (List.mem_of_mem_take h)
       refine Ok.idxn hi (Ok.bindE (Vi hne2 (hnn _ (List.getElem_mem hi)) j1 (by omega)) (ih _ EF ⟨S9 j1,?_,fun r=>?_⟩))
       ·have:=Ke q.2 (KA X.Rows Y.Rows)[i]
        show (L5 q.2 _).length≤_
        omega
       ·rw [NI j1,j3 r,List.take_succ_eq_append_getElem hi]
        simp only [List.mem_append,List.mem_singleton]
        constructor
        ·rintro (h | ⟨⟨h1,h2,h3⟩ | h1,h4⟩)
         ·exact .inr (.inr h)
         ·refine .inl ⟨h1,h2,fun c hc=>?_⟩
          rcases hc with hc | hc
          ·exact h3 c hc
          ·rw [hc]; exact h4
         ·exact .inr (.inl h1)
        ·rintro (⟨h1,h2,h3⟩ | h1 | h1)
         ·exact .inr ⟨.inl ⟨h1,h2,fun c hc=>h3 c (.inl hc)⟩,h3 _ (.inr rfl)⟩
         ·refine .inr ⟨.inr h1,fun e=>?_⟩
          obtain ⟨k,hk,rfl⟩:=List.mem_take_iff_getElem.1 h1
          have:=(List.pairwise_iff_getElem.1 hna) k i (by omega) hi (by omega)
          omega
         ·exact .inl h1
     ·obtain ⟨i1,i2,i3⟩:=hI
      simp only [IN,hq]
      rw [Bj]
      have hn:=hX.ne _ (List.getElem_mem hi)
      have hlt:∀ r∈q.2,hd r < hd X.Rows[i]:=fun r hr=>by
       obtain ⟨k,hk,rfl⟩:=List.mem_take_iff_getElem.1 ((i3 r).1 hr).1
       exact (List.pairwise_iff_getElem.1 hX.asc) k i (by omega) hi (by omega)
      refine Ok.idxn hi (Ok.bindE (BV hn) (Ok.bind (X3 (by show (DW _ _).length≤_; omega)) fun b hb=>Ok.br (fun e=>Ok.idxn hi (Ok.rm (by simp; omega) (ih _ EF ⟨?_,by simp; omega,fun r=>?_⟩))) fun e=>ih _ EF ⟨i1,by show q.2.length≤_; omega,fun r=>?_⟩))
      ·refine List.pairwise_append.2 ⟨i1,List.pairwise_singleton _ _,fun a ha c hc=>?_⟩
       rw [List.mem_singleton] at hc; subst hc; exact hlt a ha
      ·have e:b = false:=by simpa using e
       have hno:hd X.Rows[i] ∉ DW X.Rows Y.Rows:=fun h=>by rw [hb.2 h] at e; cases e
       rw [List.take_succ_eq_append_getElem hi]
       simp only [List.mem_append,List.mem_singleton,i3 r]
       constructor
       ·rintro (h | h)
        ·exact ⟨.inl h.1,h.2⟩
        ·rw [h]; exact ⟨.inr rfl,hno⟩
       ·rintro ⟨h | h,h2⟩
        ·exact .inl ⟨h,h2⟩
        ·exact .inr h
      ·have e:b = true:=by simpa using e
       have hyes:hd X.Rows[i]∈DW X.Rows Y.Rows:=hb.1 e
       rw [List.take_succ_eq_append_getElem hi]
       simp only [List.mem_append,List.mem_singleton,i3 r]
       constructor
       ·rintro ⟨h,h2⟩; exact ⟨.inl h,h2⟩
       ·rintro ⟨h | h,h2⟩
        ·exact ⟨h,h2⟩
        ·rw [h] at h2; exact absurd hyes h2
    ·simp only [IM,hq]
     rw [Bj]
     obtain ⟨r,hr1,hr2⟩:=aJ hnn (by omega) (DW X.Rows Y.Rows)[i]
     refine Ok.idxn hi (Ok.bindE hr1 (Ok.no (decide_eq_false fun h0=>?_) (ih _ EF trivial)))
     obtain ⟨c,hc,e⟩:=hr2.1 h0
     obtain ⟨r',_,e2,hn⟩:=Ni.1 (List.getElem_mem hi)
     exact hn ⟨c,(Iz.1 hc).1,e.trans e2⟩
   ·simp only [IL,hq]
    rw [Bj]
    obtain ⟨r,hr1,hr2⟩:=aJ hX.ne (by omega) (DW X.Rows Y.Rows)[i]
    obtain ⟨r',h1,e2,_⟩:=Ni.1 (List.getElem_mem hi)
    have:=hr2.2 ⟨r',h1,e2.symm⟩
    exact Ok.idxn hi (Ok.bindE hr1 (Ok.no (df (by omega)) (ih _ EF trivial)))
  ·simp only [IK,hq]
   rw [Bj]
   have hl:=hlen _ (Iz.1 (List.getElem_mem hi)).1
   refine Ok.idxn hi (Ok.no ?_ (ih _ EF trivial))
   rw [EF,hl]
   simp
 by_cases h0:(DW X.Rows Y.Rows).length = 0
 ·refine Ok.loop (fun q=>q = 1) (fun _=>0) rfl (by unfold AI; omega) fun rec q hq _=>?_
  subst hq
  simp only [Gu]
  rw [Br (by rw [h0]; decide)]
  exact last
 ·refine Ok.for (fun q=>q) (DW X.Rows Y.Rows).length (fun i _=>1≤i) 1 (by omega) rfl (Nat.le_refl _) (by omega) (fun rec q hq _=>?_) fun rec i q hi hq hI ih=>?_
  ·simp only [Gu,hq]
   rw [Br]
   exact last
  ·simp only [Gu,hq]
   rw [Bj]
   have e:IntKind.i64.wrap ((i:Int) - 1) = ((i - 1:Nat):Int):=by rw [wr]; omega
   have hlt:=(List.pairwise_iff_getElem.1 hga) (i - 1) i (by omega) hi (by omega)
   refine Ok.idxn hi ?_
   rw [e]
   exact Ok.idxn (by omega:i - 1 < (DW X.Rows Y.Rows).length) (Ok.no (df (by omega)) (ih _ EF (by omega)))
theorem XT.rx {x:Aq} {g:Nat} (h:Ja x g) {sec:Int} {X:A0} (hX:XT x sec X):RX X:=by
 have:=h.len
 have:=h.small
 have:=hX.len
 refine ⟨fun r hr=>?_,hX.asc,by omega⟩
 obtain ⟨p,_,rfl⟩:=(hX.mem r).1 hr
 simp [Ud]
theorem XT.row_len {x:Aq} {g:Nat} (h:Ja x g) {sec:Int} {X:A0} (hX:XT x sec X):∀ r∈X.Rows,r.length = (By x.Schema).length + 1:=fun r hr=>by
 obtain ⟨p,hp,rfl⟩:=(hX.mem r).1 hr
 have h1:=(h.rows p hp).1
 have hc:=h.schema.cols_length
 rw [Dn]
 simp [Ud]; omega
theorem V8 {x:Aq} {l:List B1} {st:Nat→Aq} (h:NZ x l st) {a:Nat} {q:List Int}:∀ b,a≤b→b≤l.length→(∀ (i:Nat) (hi:i < l.length),a≤i→i < b→hd q≠Ul l[i])→(q∈(st a).Rows↔q∈(st b).Rows)
 | 0,h1,_,_=>by
   have:a = 0:=by omega
   rw [this]
 | b + 1,h1,h2,h3=>by
   by_cases e:a = b + 1
   ·rw [e]
   ·rw [V8 h b (by omega) (by omega) fun i hi h4 h5=>h3 i hi h4 (by omega)]
    exact h.keep b (by omega) q (h3 b (by omega) (by omega) (by omega))
theorem di:Ka = some true:=by
 have h1:V6 [5,6] = [5,6]:=List.mergeSort_of_pairwise (by decide)
 have h2:Lx [5,6] = some [5,6]:=by
  unfold Lx Ht Ce
  rw [HQ (by decide),Option.bind_some,h1]
  rfl
 have h3:CN ([({ Output:=1,Keys:=[3,5] }:AL),({ Output:=2,Keys:=[4] }:AL)]) [5,6] = some ([({ Output:=1,Keys:=[5] }:AL)],0):=by
  unfold CN
  rw [h2]
  rfl
 unfold Ka
 rw [h3]
 rfl
theorem fH {p1 p2:Int} (h1:0≤p1∧p1≤255) (h2:0≤p2∧p2≤255) {n:Nat} (hn:n≤5):∃ A B:Nat,A≤B∧B≤n ∧
 (if (Int.tmod (IntKind.i64.wrap p2) (IntKind.i64.wrap ((n:Int) + 1))) < (Int.tmod (IntKind.i64.wrap p1) (IntKind.i64.wrap ((n:Int) + 1))) then (Int.tmod (IntKind.i64.wrap p2) (IntKind.i64.wrap ((n:Int) + 1))) else (Int.tmod (IntKind.i64.wrap p1) (IntKind.i64.wrap ((n:Int) + 1)))) = (A:Int) ∧
 (if (Int.tmod (IntKind.i64.wrap p2) (IntKind.i64.wrap ((n:Int) + 1))) > (Int.tmod (IntKind.i64.wrap p1) (IntKind.i64.wrap ((n:Int) + 1))) then (Int.tmod (IntKind.i64.wrap p2) (IntKind.i64.wrap ((n:Int) + 1))) else (Int.tmod (IntKind.i64.wrap p1) (IntKind.i64.wrap ((n:Int) + 1)))) = (B:Int):=by
 rw [wr (n:=p1) (by omega) (by omega),wr (n:=p2) (by omega) (by omega),wr (n:=(n:Int) + 1) (by omega) (by omega)]
 have ha:=Ur h1.1 (n:=(n:Int) + 1) (by omega)
 have hb:=Ur h2.1 (n:=(n:Int) + 1) (by omega)
 generalize Int.tmod p1 ((n:Int) + 1) = u at ha ⊢
 generalize Int.tmod p2 ((n:Int) + 1) = v at hb ⊢
 by_cases h:v < u
 ·exact ⟨v.toNat,u.toNat,by omega,by omega,by rw [if_pos h]; omega,by rw [if_neg (by omega)]; omega⟩
 ·refine ⟨u.toNat,v.toNat,by omega,by omega,by rw [if_neg h]; omega,?_⟩
  by_cases h3:v > u
  ·rw [if_pos h3]; omega
  ·rw [if_neg h3]; omega
theorem aT {x:Aq} {l:List B1} {st:Nat→Aq} (h:NZ x l st) {A B:Nat} (hA:A≤l.length) (hB:B≤l.length) {sec:Int} {X Y:A0} (hX:XT (st A) sec X) (hY:XT (st B) sec Y) (hb1:Dc DD (st A) Ow (By x.Schema) sec = some (X,0)) (hb2:Dc DD (st B) Ow (By x.Schema) sec = some (Y,0)) :
 CQ DD x l A B Ow (By x.Schema) sec = some ({ Version:=Y.Version,Gone:=DW X.Rows Y.Rows,Rows:=KA X.Rows Y.Rows },0):=by
 have hsA:=h.src A hA
 have hsB:=h.src B hB
 have hc:=hsA.schema.cols_length
 have hpl:=Dn (s:=x.Schema)
 have e1:=h.schema A hA
 have e2:=h.schema B hB
 have r1:=hX.row_len hsA
 have r2:=hY.row_len hsB
 rw [e1] at r1 hc
 rw [e2] at r2
 refine Ok.val ?_
 unfold CQ
 refine Ok.bindE (fR h hA) (Ok.no rfl ?_)
 unfold DL
 refine Ok.bindE (fR h hB) (Ok.no rfl ?_)
 unfold CM
 refine Ok.bindE hb1 (Ok.no rfl ?_)
 unfold DN
 refine Ok.bindE hb2 (Ok.no rfl (Ok.eq (dm (hX.rx hsA) (hY.rx hsB) (hX.project.trans hY.project.symm) ?_ ?_ (fun r hr=>?_) fun r hr=>?_)))
 ·rw [hX.picks,hY.picks,e1,e2]
 ·rw [hX.picks,e1]; omega
 ·rw [r1 r hr]; omega
 ·rw [r2 r hr]; omega
theorem cL (l:List Int) (hl:∀ x∈l,0≤x∧x≤255) (hn:l.length≤9223372036854775807) {p1 p2:Int} (h1:0≤p1∧p1≤255) (h2:0≤p2∧p2≤255):Du DD l p1 p2 = some true:=by
 refine Ok.val ?_
 unfold Du
 refine Ok.bind (eG l hl hn) fun c hc=>Ok.bind (cV hc) fun t ht=>?_
 obtain ⟨x,ed,da,pk,sec,pr,c2⟩:=t
 simp only at ht ⊢
 obtain ⟨k1,⟨st,hst⟩,rfl,rfl,k3,k4⟩:=ht
 have hlen:=hst.len
 obtain ⟨A,B,hAB,hBl,eA,eB⟩:=fH h1 h2 hlen
 rw [eA,eB]
 have hne:IntKind.i64.wrap ((ed.length:Int) + 1)≠0:=by rw [wr]; omega
 have hA:A≤ed.length:=by omega
 have hsA:=hst.src A hA
 have hsB:=hst.src B hBl
 have e1:=hst.schema A hA
 have e2:=hst.schema B hBl
 obtain ⟨X,hX,hX1,hX2⟩:=U4 hsA k3 k4
 obtain ⟨Y,hY,hY1,hY2⟩:=U4 hsB k3 k4
 rw [e1] at hX1 hX2
 rw [e2] at hY1 hY2
 have hch:=aT hst hA hBl hX hY hX2 hY2
 have rX:=hX.rx hsA
 have rY:=hY.rx hsB
 have hx:=rX.len
 have hy:=rY.len
 have hcl:=k1.schema.cols_length
 have hpl:=Dn (s:=x.Schema)
 have hnl:(KA X.Rows Y.Rows).length≤100:=by have:=List.length_filter_le (fun r=>!(decide (r∈X.Rows))) Y.Rows; unfold KA; omega
 have hgl:(DW X.Rows Y.Rows).length≤100:=by have:=List.length_filter_le (fun r=>!(Y.Rows.any fun a=>hd a==hd r)) X.Rows; unfold DW; rw [List.length_map]; omega
 refine Ok.gdd hne (Ok.gdd hne (Ok.gdd hne (Ok.gdd hne (Ok.bindE hch (Ok.bind (YP hst hAB hBl k3 k4) fun K hK=>Ok.bindE (fS hst hA) (Ok.bindE (fS hst hBl) (Ok.bindE hX1 (Ok.bindE hY1 (Ok.no (by rw [hK.1]; rfl) ?_)))))))))
 refine Ok.bind (dz hgl hnl fun r hr=>rY.ne r (Iz.1 hr).1) fun Q hQ=>?_
 have touched:∀ z∈Q,z∈K.1:=fun z hz=>by
  refine Classical.byContradiction fun hno=>?_
  have same:∀ q:List Int,z = kf sec (hd q)→(q∈(st A).Rows↔q∈(st B).Rows):=fun q e=>V8 hst B hAB hBl fun i hi h4 h5 e2=>hno (by rw [e,e2]; exact hK.2.2 i hi h4 h5)
  rcases hQ.2 z hz with hg | ⟨r,hr,e⟩
  ·obtain ⟨r,hr,e,hn2⟩:=Ni.1 hg
   obtain ⟨q,hq,rfl⟩:=(hX.mem r).1 hr
   exact hn2 ⟨_,(hY.mem _).2 ⟨q,(same q e).1 hq,rfl⟩,rfl⟩
  ·obtain ⟨hr1,hr2⟩:=Iz.1 hr
   obtain ⟨q,hq,rfl⟩:=(hY.mem r).1 hr1
   exact hr2 ((hX.mem _).2 ⟨q,(same q e).2 hq,rfl⟩)
 have hQl:=hQ.1
 have hKl:=hK.2.1
 have GD:Ok (Ch (X,0) (({ Version:=Y.Version,Gone:=DW X.Rows Y.Rows,Rows:=KA X.Rows Y.Rows }:Bd),0) (Y,0)) (· = true):=by
  unfold Ch
  refine Ok.bind (Zq rX rY (by rw [hX.picks,e1]; have:=hY.row_len hsB; rw [e2] at this; exact this) (by rw [hX.picks,e1]; omega)) fun Z hZ=>?_
  obtain ⟨Z,zc⟩:=Z
  obtain ⟨z1,z2,z3⟩:=hZ
  simp only at z1 z2 z3
  subst z1
  refine Ok.no ?_ ?_
  ·rw [z2,z3]; simp
  refine Ok.for (fun q=>q) Y.Rows.length (fun _ _=>True) 0 (Nat.zero_le _) rfl trivial (by omega) (fun rec q hq _=>?_) fun rec i q hi hq _ ih=>?_
  ·simp only [CJ,hq]
   rw [z3,Br]
   exact Ok.bindE di (Ok.some rfl)
  ·simp only [CJ,hq]
   rw [z3,Bj]
   have hrl:=hY.row_len hsB _ (List.getElem_mem hi)
   rw [e2] at hrl
   refine Ok.idxn hi (Ok.idxn hi (Ok.no (by simp) (Ok.idxn hi ?_)))
   refine Ok.for (fun q=>q) Y.Rows[i].length (fun _ _=>True) 0 (Nat.zero_le _) rfl trivial (by omega) (fun rec2 q2 hq2 _=>?_) fun rec2 k q2 hk hq2 _ ih2=>?_
   ·simp only [CK,hq2]
    rw [Br]
    exact ih _ EF trivial
   ·simp only [CK,hq2]
    rw [z3,Bj]
    exact Ok.idxn hi (Ok.idxn hk (Ok.idxn hi (Ok.idxn hk (Ok.no (by simp) (ih2 _ EF trivial)))))
 refine Ok.for (fun q=>q) Q.length (fun _ _=>True) 0 (Nat.zero_le _) rfl trivial (by omega) (fun rec q hq _=>?_) fun rec i q hi hq _ ih=>?_
 ·simp only [CH,hq]
  rw [Br]
  exact GD
 ·simp only [CH,hq]
  rw [Bj]
  refine Ok.idxn hi ?_
  have hin:=touched _ (List.getElem_mem hi)
  refine Ok.for (fun q=>q.2) K.1.length (fun k q=>q.1 = decide (Q[i]∈K.1.take k)) 0 (Nat.zero_le _) rfl (by simp) (by omega) (fun rec2 q2 hq2 hI2=>?_) fun rec2 k q2 hk hq2 hI2 ih2=>?_
  ·simp only [CI,hq2]
   rw [Br]
   rw [List.take_length] at hI2
   rw [hI2,decide_eq_true hin]
   exact Ok.no rfl (ih _ EF trivial)
  ·simp only [CI,hq2]
   rw [Bj]
   refine Ok.idxn hk (ih2 _ EF ?_)
   show (bif q2.1 then true else K.1[k]==Q[i]) = _
   rw [hI2,List.take_succ_eq_append_getElem hk]
   by_cases h5:Q[i]∈K.1.take k
   ·rw [decide_eq_true h5]; symm; rw [cond_true]; exact decide_eq_true (List.mem_append_left _ h5)
   ·rw [decide_eq_false h5,cond_false]
    by_cases h6:K.1[k] = Q[i]
    ·rw [h6]; simp
    ·rw [beq_eq_false_iff_ne.2 h6]; symm; rw [decide_eq_false_iff_not]
     intro h7
     rcases List.mem_append.1 h7 with h7 | h7
     ·exact h5 h7
     ·rw [List.mem_singleton] at h7; exact h6 h7.symm
end Go.Proofs.YtlpkhgkoihlghaaGreatDoor.P
