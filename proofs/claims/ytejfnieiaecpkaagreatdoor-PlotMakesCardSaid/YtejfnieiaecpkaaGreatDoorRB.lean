/- Plain laws: R10 .. R20. -/
import Derived.Test.YtejfnieiaecpkaaGreatDoorRA
set_option linter.unusedVariables false
set_option linter.unusedSimpArgs false
namespace Go.Proofs.YtejfnieiaecpkaaGreatDoor.P
open Go Go.Abs Go.Proofs
set_option maxRecDepth 100000
variable {s:Aa}
theorem To {l:List Int} {w:Int} (hl:l.length≤200) (hw:1≤w) (hw2:w≤1000000) (hv:∀ v∈l,-1000000≤v∧v≤1000000):Iu l w = some 0:=by
 refine Ok.val ?_
 unfold Iu
 refine Ok.no (decide_eq_false (by omega)) (Ok.no (by rw [decide_eq_false (by omega),decide_eq_false (by omega)]; rfl) ?_)
 refine Ok.for (fun q=>q) l.length (fun _ _=>True) 0 (Nat.zero_le _) rfl trivial (by omega) (fun rec q hq hI=>?_) fun rec k q hk hq hI ih=>?_
 ·simp only [Jm,hq]
  rw [AO (by omega)]
  exact Ok.some rfl
 ·have:=hv _ (List.getElem_mem hk)
  simp only [Jm,hq]
  rw [AC (by omega)]
  exact Ok.idxn hk (Ok.no (decide_eq_false (by omega)) (Ok.idxn hk (Ok.no (decide_eq_false (by omega)) (ih _ (CH (by omega)) trivial))))
theorem Zj {o:List Int} {x:Int} {k:Nat} (ho:o.Pairwise (·≤·)) (hk:k≤o.length) (h1:∀ j (hj:j < o.length),k≤j→o[j] > x) (h2:∀ j (hj:j < o.length),j < k→o[j]≤x) :
 (o.take k++x :: o.drop k).Pairwise (·≤·)∧(o.take k++x :: o.drop k).Perm (o++[x]):=by
 constructor
 ·rw [List.pairwise_append,List.pairwise_cons]
  have hs:=ho
  rw [← List.take_append_drop k o,List.pairwise_append] at hs
  refine ⟨hs.1,⟨fun a ha=>?_,hs.2.1⟩,fun a ha b hb=>?_⟩
  ·obtain ⟨j,hj,rfl⟩:=List.getElem_of_mem ha
   simp only [List.getElem_drop]
   have:=h1 (k + j) (by simp at hj; omega) (by omega); omega
  ·rw [List.mem_cons] at hb
   rcases hb with rfl | hb
   ·obtain ⟨j,hj,rfl⟩:=List.getElem_of_mem ha
    simp only [List.getElem_take]
    exact h2 j (by simp at hj; omega) (by simp at hj; omega)
   ·exact hs.2.2 a ha b hb
 ·have:(o.take k++x :: o.drop k).Perm (x :: (o.take k++o.drop k)):=List.perm_middle
  rw [List.take_append_drop] at this
  exact this.trans (List.perm_append_singleton x o).symm
theorem WV {xs o:List Int} (hp:o.Perm xs) (hs:o.Pairwise (·≤·)):o = H1 xs:=by
 have h2:(H1 xs).Pairwise (·≤·):=by
  have:=List.pairwise_mergeSort (le:=fun x y:Int=>decide (x≤y)) (fun a b c h1 h2=>by simp at *; omega) (fun a b=>by simp; omega) xs
  exact this.imp (by simp)
 exact List.Perm.eq_of_pairwise (le:=(·≤·)) (fun a b _ _ h1 h2=>Int.le_antisymm h1 h2) hs h2 (hp.trans (List.mergeSort_perm xs _).symm)
theorem bl (l:List Int) (k:Nat):Mw l (k:Int) ((l.length:Nat):Int) = l.drop k:=by
 unfold Mw
 rw [List.take_of_length_le]
 ·simp
 ·rw [List.length_drop]; simp
theorem di {xs:List Int} (hl:xs.length≤1000):Jo xs = some (H1 xs):=by
 refine Ok.val ?_
 unfold Jo
 refine Ok.for (fun q=>q.2) xs.length (fun k q=>q.1.Pairwise (·≤·)∧q.1.Perm (xs.take k)) 0 (Nat.zero_le _) rfl ⟨List.Pairwise.nil,List.Perm.refl _⟩ (by omega) (fun rec q hq hI=>?_) fun rec i q hi hq hI ih=>?_
 ·simp only [HJ,hq]
  rw [AO (by omega)]
  have hp:=hI.2
  rw [List.take_length] at hp
  exact Ok.some (WV hp hI.1)
 ·obtain ⟨ho,hp⟩:=hI
  have hol:q.1.length = i:=by rw [hp.length_eq,List.length_take]; omega
  simp only [HJ,hq]
  rw [AC (by omega)]
  refine Ok.loop (fun v=>∃ k:Nat,v = k∧k≤q.1.length∧∀ j (hj:j < q.1.length),k≤j→q.1[j] > xs[i]) (fun v=>v.toNat) ⟨q.1.length,rfl,Nat.le_refl _,fun j hj h=>by omega⟩ (by unfold A6; omega) fun rec2 v hv ih2=>?_
  obtain ⟨k,rfl,hk,hkx⟩:=hv
  have done:(∀ j (hj:j < q.1.length),j < k→q.1[j]≤xs[i])→Ok (Ex q.1 xs (i:Int) rec (k:Int)) (· = H1 xs):=by
   intro h2
   obtain ⟨s1,s2⟩:=Zj ho hk hkx h2
   unfold Ex
   refine Ok.gdd (by omega) (Ok.idxn hi (Ok.gdd (by omega) ?_))
   rw [bl,eF _ hk]
   refine Ok.rm (by simp; omega) (Ok.gd (by rw [OA (by simp; omega)]; rfl) (ih _ (CH (by omega)) ?_))
   refine ⟨s1,s2.trans ?_⟩
   show (q.1++[xs[i]]).Perm (xs.take (i + 1))
   rw [List.take_succ_eq_append_getElem hi]
   exact hp.append_right _
  simp only [KN]
  refine Ok.brd (fun h0=>?_) fun h0=>done fun j hj hjk=>by omega
  have e:IntKind.i64.wrap ((k:Int) - 1) = ((k - 1:Nat):Int):=by rw [wr (by omega) (by omega)]; omega
  rw [e]
  refine Ok.idxn (by omega:k - 1 < q.1.length) (Ok.idxn hi (Ok.brd (fun hgt=>ih2 _ ⟨k - 1,rfl,by omega,fun j hj hkj=>?_⟩ (by omega)) fun hle=>done fun j hj hjk=>?_))
  ·by_cases e2:j = k - 1
   ·subst e2; exact hgt
   ·exact hkx j hj (by omega)
  ·rcases Nat.lt_or_ge j (k - 1) with h1 | h1
   ·have:=List.pairwise_iff_getElem.1 ho j (k - 1) hj (by omega) h1
    omega
   ·have e2:j = k - 1:=by omega
    subst e2; omega
theorem bq {l:List Int} (hl:l.length≤200) (hv:∀ v∈l,-1000000≤v∧v≤1000000):Cn l = DG l:=by
 unfold Cn DG
 have hn:l.any (fun v=>bif decide (v < -1000000) then true else decide (v > 1000000)) = false:=by
  rw [List.any_eq_false]
  intro v h
  have:=hv v h
  rw [decide_eq_false (by omega),decide_eq_false (by omega)]
  simp
 rw [To hl (by omega) (by omega) hv,decide_eq_false (by omega),WP (p:=Ii) _ (fun _ _=>rfl) (by omega),hn]
 have hc:Bl l = some l:=by unfold Bl; rw [OA (by omega)]; rfl
 have hs:Bs l = some (H1 l):=by unfold Bs; rw [OA (by omega)]; rfl
 simp only [Option.bind_some,cond_false,hc,hs,di (show l.length≤1000 by omega)]
 rfl
theorem ZW {l:List Int} (hl:l.length≤200) (hv:∀ v∈l,-1000000≤v∧v≤1000000):∃ r,Cn l = some r:=by
 have hn:l.any (fun v=>bif decide (v < -1000000) then true else decide (v > 1000000)) = false:=by
  rw [List.any_eq_false]
  intro v h
  have:=hv v h
  rw [decide_eq_false (by omega),decide_eq_false (by omega)]
  simp
 have hc:Bl l = some l:=by unfold Bl; rw [OA (by omega)]; rfl
 have hs:Bs l = some (H1 l):=by unfold Bs; rw [OA (by omega)]; rfl
 have hsl:(H1 l).length = l.length:=by simp [H1,List.length_mergeSort]
 have H:Ok (Cn l) fun _=>True:=by
  unfold Cn
  refine Ok.no (decide_eq_false (by omega)) (Ok.bindE (WP (p:=Ii) _ (fun _ _=>rfl) (by omega)) ?_)
  rw [hn]
  refine Ok.no rfl (Ok.br (fun _=>Ok.some trivial) fun hz=>Ok.bindE hc (Ok.bindE hs ?_))
  have hz:l.length≠0:=by intro e; rw [e] at hz; cases hz
  have e1:IntKind.i64.wrap (((l.length:Nat):Int) - 1) = ((l.length - 1:Nat):Int):=by rw [wr (by omega) (by omega)]; omega
  have e3:IntKind.i64.wrap (3 * ((l.length - 1:Nat):Int)) = ((3 * (l.length - 1):Nat):Int):=by rw [wr (by omega) (by omega)]; omega
  have q:∀ (a b:Nat),1≤b→a≤1000000→IntKind.i64.wrap (Int.tdiv (a:Int) (b:Int)) = ((a / b:Nat):Int):=by
   intro a b hb ha
   have h1:Int.tdiv (a:Int) (b:Int) = ((a / b:Nat):Int):=by simp [Int.tdiv]
   have:=Nat.div_le_self a b
   rw [h1]
   generalize a / b = n at *
   exact wr (by omega) (by omega)
  rw [e1,e3]
  have q4:=q (l.length - 1) 4 (by omega) (by omega)
  have q2:=q (l.length - 1) 2 (by omega) (by omega)
  have q3:=q (3 * (l.length - 1)) 4 (by omega) (by omega)
  rw [show Int.tdiv ((l.length - 1:Nat):Int) 4 = Int.tdiv ((l.length - 1:Nat):Int) ((4:Nat):Int) from rfl,q4,show Int.tdiv ((l.length - 1:Nat):Int) 2 = Int.tdiv ((l.length - 1:Nat):Int) ((2:Nat):Int) from rfl,q2,show Int.tdiv ((3 * (l.length - 1):Nat):Int) 4 = Int.tdiv ((3 * (l.length - 1):Nat):Int) ((4:Nat):Int) from rfl,q3]
  exact Ok.bindE (C4 (i:=0) (by omega)) (Ok.idxn (by omega) (Ok.idxn (by omega) (Ok.idxn (by omega) (Ok.idxn (by omega) (Ok.some trivial)))))
 obtain ⟨r,hr,_⟩:=H
 exact ⟨r,hr⟩
end Go.Proofs.YtejfnieiaecpkaaGreatDoor.P
namespace Go.Proofs.YtejfnieiaecpkaaGreatDoor.P
open Go Go.Abs Go.Proofs
set_option maxRecDepth 100000
variable {s:Aa}
def low (w v:Int):Int:=v - v % w
def Mh (w:Int) (l:List Int) (z:Int):Int:=((l.filter fun v=>low w v==z).length:Nat)
structure BR (w:Int) (l lows:List Int):Prop where
 asc:lows.Pairwise (· < ·)
 mem:∀ z,z∈lows↔∃ v∈l,low w v = z
def W0 (w:Int) (l lows:List Int):List B4:=lows.map fun z=>{ Low:=z,Count:=Mh w l z }
theorem eP {a b:List Int} (ha:a.Pairwise (· < ·)) (hb:b.Pairwise (· < ·)) (h:∀ z,z∈a↔z∈b):a = b:=by
 have nd:∀ {l:List Int},l.Pairwise (· < ·)→l.Nodup:=fun h=>h.imp fun h=>Int.ne_of_lt h
 exact List.Perm.eq_of_pairwise (le:=(·≤·)) (fun a b _ _ h1 h2=>Int.le_antisymm h1 h2) (ha.imp fun h=>Int.le_of_lt h) (hb.imp fun h=>Int.le_of_lt h) ((List.perm_ext_iff_of_nodup (nd ha) (nd hb)).2 h)
theorem af {w:Int} {l l':List Int} (h:l.Perm l') (z:Int):Mh w l z = Mh w l' z:=by
 unfold Mh
 rw [(h.filter _).length_eq]
theorem P5 (w:Int) (l:List Int) (v z:Int):Mh w (l++[v]) z = Mh w l z + if low w v = z then 1 else 0:=by
 unfold Mh
 rw [List.filter_append,List.length_append]
 by_cases e:low w v = z
 ·rw [if_pos e,List.filter_cons_of_pos (by simpa using e)]; simp
 ·rw [if_neg e,List.filter_cons_of_neg (by simpa using e)]; simp
theorem U1 (w:Int) (l:List Int) (z:Int):0≤Mh w l z∧Mh w l z≤l.length:=by
 unfold Mh
 have:=List.length_filter_le (fun v=>low w v==z) l
 omega
theorem ZZ {w:Int} {l:List Int} {z:Int} (h:∀ v∈l,low w v≠z):Mh w l z = 0:=by
 unfold Mh
 rw [List.filter_eq_nil_iff.2 fun v hv=>by simpa using h v hv]
 rfl
theorem Wz {l:List Int} {x:Int} (hl:l.length≤1000):Ok (I6 l x) fun b=>(b = true↔x∈l):=by
 unfold I6
 refine Ok.for (fun q=>q) l.length (fun k _=>∀ y∈l.take k,y≠x) 0 (Nat.zero_le _) rfl (fun y hy=>by simp at hy) (by omega) (fun rec q hq hI=>?_) fun rec k q hk hq hI ih=>?_
 ·simp only [KY,hq]
  rw [AO (by omega)]
  rw [List.take_length] at hI
  exact Ok.some ⟨(fun h=>by cases h),fun h=>absurd rfl (hI x h)⟩
 ·simp only [KY,hq]
  rw [AC (by omega)]
  refine Ok.idxn hk (Ok.br (fun e=>Ok.some ⟨fun _=>?_,fun _=>rfl⟩) fun e=>ih _ (CH (by omega)) fun y hy=>?_)
  ·have e:l[k] = x:=by simpa using e
   rw [← e]; exact List.getElem_mem hk
  ·rw [List.take_succ_eq_append_getElem hk] at hy
   rcases List.mem_append.1 hy with hy | hy
   ·exact hI y hy
   ·rw [List.mem_singleton] at hy; subst hy; simpa using e
theorem Rh {l:List Int} {x:Int} (h:l.Pairwise (· < ·)) (hx:∀ y∈l,y < x):(l++[x]).Pairwise (· < ·):=by
 rw [List.pairwise_append]
 exact ⟨h,List.pairwise_singleton _ _,fun a ha b hb=>by rw [List.mem_singleton] at hb; subst hb; exact hx a ha⟩
theorem d7 {l:List Int} {x:Int} (hl:l.length≤1000) (ha:l.Pairwise (· < ·)):Ok (Na l x) fun r=>r.Pairwise (· < ·)∧(∀ z,z∈r↔z∈l∨z = x)∧r.length≤l.length + 1:=by
 unfold Na
 refine Ok.bind (Wz hl) fun b hb=>Ok.br (fun e=>Ok.some ⟨ha,fun z=>⟨.inl,fun h=>h.elim id fun h=>by subst h; exact hb.1 e⟩,by omega⟩) fun e=>?_
 have hx:x ∉ l:=fun h=>by rw [hb.2 h] at e; cases e
 have hpw:=List.pairwise_iff_getElem.1 ha
 refine Ok.for (fun q=>q.2.1) l.length (fun k q=>q.2.2.Pairwise (· < ·)∧(∀ z,z∈q.2.2↔z∈l.take k∨(q.1 = true∧z = x))∧q.2.2.length≤k + 1∧(q.1 = false→q.2.2.length≤k∧∀ y∈l.take k,y < x)∧(q.1 = true→∀ (j:Nat) (hj:j < l.length),k≤j→x < l[j])) 0 (Nat.zero_le _) rfl
  ⟨List.Pairwise.nil,fun z=>by simp,by simp,fun _=>⟨by simp,fun y hy=>by simp at hy⟩,fun h=>by cases h⟩ (by omega) (fun rec q hq hI=>?_) fun rec k q hk hq hI ih=>?_
 ·obtain ⟨i1,i2,i3,i4,i5⟩:=hI
  rw [List.take_length] at i2 i4
  simp only [Lq,hq]
  rw [AO (by omega)]
  refine Ok.br (fun e=>Ok.rm (by simp; omega) (Ok.some ?_)) fun e=>Ok.some ⟨i1,fun z=>?_,i3⟩
  ·have e:q.1 = false:=by simpa using e
   obtain ⟨j1,j2⟩:=i4 e
   refine ⟨Rh i1 fun y hy=>?_,fun z=>?_,by simp; omega⟩
   ·rcases (i2 y).1 hy with h | h
    ·exact j2 y h
    ·rw [e] at h; cases h.1
   ·rw [List.mem_append,i2 z,e]; simp
  ·have e:q.1 = true:=by simpa using e
   rw [i2 z,e]; simp
 ·obtain ⟨i1,i2,i3,i4,i5⟩:=hI
  have hlk:∀ y∈l.take k,y < l[k]:=by
   intro y hy
   obtain ⟨j,hj,rfl⟩:=List.getElem_of_mem hy
   rw [List.getElem_take]
   rw [List.length_take] at hj
   exact hpw j k (by omega) hk (by omega)
  have hxk:l[k]≠x:=fun h=>hx (by rw [← h]; exact List.getElem_mem hk)
  simp only [Lq,hq]
  rw [AC (by omega)]
  refine Ok.idxn hk (Ok.br (fun e=>?_) fun e=>Ok.idxn hk (Ok.rm (by simp; omega) (ih _ (CH (by omega)) ?_)))
  ·have e1:l[k] > x∧q.1 = false:=by
    by_cases h:l[k] > x
    ·rw [decide_eq_true h] at e; exact ⟨h,by simpa using e⟩
    ·rw [decide_eq_false h] at e; cases e
   obtain ⟨e1,e2⟩:=e1
   obtain ⟨j1,j2⟩:=i4 e2
   have hm:∀ y∈q.2.2,y∈l.take k:=fun y hy=>((i2 y).1 hy).elim id fun h=>by rw [e2] at h; cases h.1
   refine Ok.rm (by simp; omega) (Ok.idxn hk (Ok.rm (by simp; omega) (ih _ (CH (by omega)) ⟨?_,fun z=>?_,by simp; omega,(fun h=>by cases h),fun _ j hj hkj=>?_⟩)))
   ·refine Rh (Rh i1 fun y hy=>j2 y (hm y hy)) fun y hy=>?_
    rcases List.mem_append.1 hy with hy | hy
    ·exact hlk y (hm y hy)
    ·rw [List.mem_singleton] at hy; subst hy; exact e1
   ·rw [List.take_succ_eq_append_getElem hk]
    simp only [List.mem_append,List.mem_singleton,i2 z,e2]
    simp
    constructor
    ·rintro ((h | h) | h)
     ·exact .inl (.inl h)
     ·exact .inr h
     ·exact .inl (.inr h)
    ·rintro ((h | h) | h)
     ·exact .inl (.inl h)
     ·exact .inr h
     ·exact .inl (.inr h)
   ·rcases Nat.lt_or_ge k j with h | h
    ·have:=hpw k j hk hj h; omega
    ·obtain rfl:j = k:=by omega
     exact e1
  ·refine ⟨Rh i1 fun y hy=>?_,fun z=>?_,by simp; omega,fun h=>?_,fun h j hj hkj=>i5 h j hj (by omega)⟩
   ·rcases (i2 y).1 hy with h | ⟨h,rfl⟩
    ·exact hlk y h
    ·exact i5 h k hk (Nat.le_refl _)
   ·rw [List.take_succ_eq_append_getElem hk]
    simp only [List.mem_append,List.mem_singleton,i2 z]
    constructor
    ·rintro ((h | h) | h)
     ·exact .inl (.inl h)
     ·exact .inr h
     ·exact .inl (.inr h)
    ·rintro ((h | h) | h)
     ·exact .inl (.inl h)
     ·exact .inr h
     ·exact .inl (.inr h)
   ·obtain ⟨j1,j2⟩:=i4 h
    refine ⟨by simp; omega,fun y hy=>?_⟩
    rw [List.take_succ_eq_append_getElem hk] at hy
    rcases List.mem_append.1 hy with hy | hy
    ·exact j2 y hy
    ·rw [List.mem_singleton] at hy; subst hy
     have hn:¬ (l[k] > x):=fun hgt=>by
      rw [decide_eq_true hgt] at e
      rw [h] at e
      cases e
     omega
end Go.Proofs.YtejfnieiaecpkaaGreatDoor.P
namespace Go.Proofs.YtejfnieiaecpkaaGreatDoor.P
open Go Go.Abs Go.Proofs
set_option maxRecDepth 100000
variable {s:Aa}
theorem TI (w v:Int):low w v = w * (v / w):=by
 unfold low
 have:=Int.emod_add_mul_ediv v w
 omega
theorem eH {w u v:Int} (hw:1≤w) (h:u≤v):low w u≤low w v:=by
 rw [TI,TI]
 exact Int.mul_le_mul_of_nonneg_left (Int.ediv_le_ediv (by omega) h) (by omega)
theorem ef {w u v:Int} (hw:1≤w):(v ≥ low w u∧v < low w u + w)↔low w v = low w u:=by
 have h1:=Int.emod_nonneg v (by omega:w≠0)
 have h2:=Int.emod_lt_of_pos v (by omega:0 < w)
 constructor
 ·rintro ⟨a,b⟩
  have e:v % w = v - low w u:=by
   have:v = (v - low w u) + w * (u / w):=by rw [← TI]; omega
   rw [this,Int.add_mul_emod_self_left]
   rw [← TI]
   rw [Int.emod_eq_of_lt (by omega) (by omega)]
   omega
  unfold low at *
  omega
 ·intro e
  rw [← e]
  unfold low
  omega
theorem f1 {l:List Int} {w:Int} (hl:l.length≤200) (hw:1≤w) (hw2:w≤1000000) (hv:∀ v∈l,-1000000≤v∧v≤1000000):∃ lows,BR w l lows∧lows.length≤l.length∧GU l w = some (W0 w l lows,0):=by
 have H:Ok (GU l w) fun r=>∃ lows,BR w l lows∧lows.length≤l.length∧r = (W0 w l lows,0):=by
  unfold GU
  refine Ok.bindE (To hl hw hw2 hv) (Ok.no rfl ?_)
  refine Ok.for (fun q=>q.2) l.length (fun k q=>BR w (l.take k) q.1∧q.1.length≤k) 0 (Nat.zero_le _) rfl ⟨⟨List.Pairwise.nil,fun z=>by simp⟩,Nat.le_refl _⟩ (by omega) (fun rec q hq hI=>?_) fun rec k q hk hq hI ih=>?_
  ·obtain ⟨⟨a1,a2⟩,a3⟩:=hI
   rw [List.take_length] at a2
   simp only [Kh,hq]
   rw [AO (by omega)]
   unfold Kd
   generalize q.1 = lows at *
   refine Ok.for (fun q=>q.1) lows.length (fun m q=>q.2 = W0 w l (lows.take m)) 0 (Nat.zero_le _) rfl rfl (by omega) (fun rec q hq hI=>?_) fun rec m q hm hq hI ih=>?_
   ·simp only [Ku,hq,hI]
    rw [AO (by omega),List.take_length]
    exact Ok.some ⟨lows,⟨a1,a2⟩,a3,rfl⟩
   ·obtain ⟨u,hu,hu2⟩:=(a2 lows[m]).1 (List.getElem_mem hm)
    have hur:=hv u hu
    have hwu1:=Int.emod_nonneg u (by omega:w≠0)
    have hwu2:=Int.emod_lt_of_pos u (by omega:0 < w)
    have hzr:-2000000≤lows[m]∧lows[m]≤1000000:=by rw [← hu2]; unfold low; omega
    simp only [Ku,hq,hI]
    rw [AC (by omega)]
    refine Ok.idxn hm ?_
    refine Ok.for (fun q=>q.1) l.length (fun j q=>q.2 = { Low:=lows[m],Count:=Mh w (l.take j) lows[m] }) 0 (Nat.zero_le _) rfl (by simp [Mh]) (by omega) (fun rec2 q2 hq2 hI2=>?_) fun rec2 j q2 hj hq2 hI2 ih2=>?_
    ·simp only [Kq,hq2,hI2]
     rw [AO (by omega),List.take_length]
     refine Ok.rm (by simp [W0]; omega) (ih _ (CH (by omega)) ?_)
     show _++[_] = _
     unfold W0
     rw [List.take_succ_eq_append_getElem hm,List.map_append]
     rfl
    ·have hvj:=hv _ (List.getElem_mem hj)
     have hcr:=U1 w (l.take j) lows[m]
     rw [List.length_take] at hcr
     have ew:IntKind.i64.wrap (lows[m] + w) = lows[m] + w:=wr (by omega) (by omega)
     have ec:IntKind.i64.wrap (Mh w (l.take j) lows[m] + 1) = Mh w (l.take j) lows[m] + 1:=wr (by omega) (by omega)
     have key:=ef (u:=u) (v:=l[j]) hw
     rw [hu2] at key
     have step:Mh w (l.take (j + 1)) lows[m] = Mh w (l.take j) lows[m] + if low w l[j] = lows[m] then 1 else 0:=by
      rw [List.take_succ_eq_append_getElem hj,P5]
     simp only [Kq,hq2,hI2]
     rw [AC (by omega)]
     refine Ok.idxn hj (Ok.brd (fun g1=>Ok.idxn hj ?_) fun g1=>ih2 _ (CH (by omega)) ?_)
     ·rw [ew]
      refine Ok.brd (fun g2=>ih2 _ (CH (by omega)) ?_) fun g2=>ih2 _ (CH (by omega)) ?_
      ·rw [step,if_pos (key.1 ⟨g1,g2⟩),ec]
      ·rw [step,if_neg fun h=>g2 (key.2 h).2,Int.add_zero]
     ·rw [step,if_neg fun h=>g1 (key.2 h).1,Int.add_zero]
  ·obtain ⟨⟨a1,a2⟩,a3⟩:=hI
   have hvk:=hv _ (List.getElem_mem hk)
   have h1:=Int.emod_nonneg l[k] (by omega:w≠0)
   have h2:=Int.emod_lt_of_pos l[k] (by omega:0 < w)
   obtain ⟨g,hg1,hg2⟩:=XQ (n:=l[k]) hw hw2 (by omega) (by omega)
   simp only [Kh,hq]
   rw [AC (by omega)]
   refine Ok.idxn hk (Ok.bindE hg1 ?_)
   rw [hg2,wr (by omega) (by omega)]
   refine Ok.bind (d7 (by omega) a1) fun r hr=>ih _ (CH (by omega)) ⟨⟨hr.1,fun z=>?_⟩,by show r.length≤k + 1; omega⟩
   rw [hr.2.1 z,a2 z,List.take_succ_eq_append_getElem hk]
   constructor
   ·rintro (⟨v,h3,h4⟩ | rfl)
    ·exact ⟨v,List.mem_append_left _ h3,h4⟩
    ·exact ⟨l[k],List.mem_append_right _ (List.mem_singleton.2 rfl),rfl⟩
   ·rintro ⟨v,h3,h4⟩
    rcases List.mem_append.1 h3 with h3 | h3
    ·exact .inl ⟨v,h3,h4⟩
    ·rw [List.mem_singleton] at h3; subst h3; exact .inr h4.symm
 obtain ⟨r,hr,lows,h1,h2,h3⟩:=H
 exact ⟨lows,h1,h2,by rw [hr,h3]⟩
end Go.Proofs.YtejfnieiaecpkaaGreatDoor.P
namespace Go.Proofs.YtejfnieiaecpkaaGreatDoor.P
open Go Go.Abs Go.Proofs
set_option maxRecDepth 100000
variable {s:Aa}
theorem Xp (w:Int) (l a:List Int) (v:Int) (h:∀ z∈a,low w v≠z):W0 w (l++[v]) a = W0 w l a:=by
 unfold W0
 refine List.map_congr_left fun z hz=>?_
 rw [P5,if_neg (h z hz),Int.add_zero]
theorem JG (w:Int) (l a:List Int):(W0 w l a).length = a.length:=by simp [W0]
theorem WK (w:Int) (l a:List Int) (z:Int):W0 w l (a++[z]) = W0 w l a++[{ Low:=z,Count:=Mh w l z }]:=by simp [W0]
theorem fl {l:List Int} {w:Int} (hl:l.length≤200) (hw:1≤w) (hw2:w≤1000000) (hv:∀ v∈l,-1000000≤v∧v≤1000000):∃ lows,BR w l lows∧Fk l w = some (W0 w l lows,0):=by
 have hc:Bl l = some l:=by unfold Bl; rw [OA (by omega)]; rfl
 have hs:Bs l = some (H1 l):=by unfold Bs; rw [OA (by omega)]; rfl
 have hperm:(H1 l).Perm l:=List.mergeSort_perm l _
 have hsl:(H1 l).length = l.length:=hperm.length_eq
 have hsv:∀ v∈H1 l,-1000000≤v∧v≤1000000:=fun v h=>hv v (hperm.mem_iff.1 h)
 have hso:(H1 l).Pairwise (·≤·):=by
  have:=List.pairwise_mergeSort (le:=fun x y:Int=>decide (x≤y)) (fun a b c h1 h2=>by simp at *; omega) (fun a b=>by simp; omega) l
  exact this.imp (by simp)
 have hn:l.any (fun v=>bif decide (v < -1000000) then true else decide (v > 1000000)) = false:=by
  rw [List.any_eq_false]
  intro v h
  have:=hv v h
  rw [decide_eq_false (by omega),decide_eq_false (by omega)]
  simp
 have H:Ok (Fk l w) fun r=>∃ lows,BR w (H1 l) lows∧r = (W0 w (H1 l) lows,0):=by
  unfold Fk
  refine Ok.no (decide_eq_false (by omega)) (Ok.no (by rw [decide_eq_false (by omega),decide_eq_false (by omega)]; rfl) (Ok.bindE (WP (p:=Ii) _ (fun _ _=>rfl) (by omega)) ?_))
  rw [hn]
  refine Ok.no rfl ?_
  unfold II
  refine Ok.bindE hc (Ok.bindE hs ?_)
  generalize H1 l = t at *
  refine Ok.for (fun q=>q.1) t.length (fun k q=>∃ lows,BR w (t.take k) lows∧lows.length≤k∧q.2 = W0 w (t.take k) lows) 0 (Nat.zero_le _) rfl ⟨[],⟨List.Pairwise.nil,fun z=>by simp⟩,Nat.le_refl _,rfl⟩ (by omega) (fun rec q hq hI=>?_) fun rec k q hk hq hI ih=>?_
  ·obtain ⟨lows,h1,h2,h3⟩:=hI
   simp only [Lb,hq]
   rw [AO (by omega)]
   rw [List.take_length] at h1 h3
   exact Ok.some ⟨lows,h1,by rw [h3]⟩
  ·obtain ⟨lows,⟨a1,a2⟩,a3,a4⟩:=hI
   have hvk:=hsv _ (List.getElem_mem hk)
   have htk:=List.take_succ_eq_append_getElem hk
   have hle:∀ z∈lows,z≤low w t[k]:=by
    intro z hz
    obtain ⟨u,hu,rfl⟩:=(a2 z).1 hz
    obtain ⟨j,hj,rfl⟩:=List.getElem_of_mem hu
    rw [List.getElem_take]
    rw [List.length_take] at hj
    exact eH hw (List.pairwise_iff_getElem.1 hso j k (by omega) hk (by omega))
   have fresh:(∀ z∈lows,z < low w t[k])→BR w (t.take (k + 1)) (lows++[low w t[k]]):=by
    intro hlt
    refine ⟨Rh a1 hlt,fun z=>?_⟩
    rw [htk,List.mem_append,a2 z,List.mem_singleton]
    constructor
    ·rintro (⟨v,h3,h4⟩ | rfl)
     ·exact ⟨v,List.mem_append_left _ h3,h4⟩
     ·exact ⟨t[k],List.mem_append_right _ (List.mem_singleton.2 rfl),rfl⟩
    ·rintro ⟨v,h3,h4⟩
     rcases List.mem_append.1 h3 with h3 | h3
     ·exact .inl ⟨v,h3,h4⟩
     ·rw [List.mem_singleton] at h3; subst h3; exact .inr h4.symm
   have hnew:(∀ z∈lows,z < low w t[k])→Ok (bif P.rm q.2.length [({ Low:=t[k] - t[k] % w,Count:=0 }:B4)].length then
    (idx (q.2++[({ Low:=t[k] - t[k] % w,Count:=0 }:B4)]) (IntKind.i64.wrap ((((q.2++[({ Low:=t[k] - t[k] % w,Count:=0 }:B4)]).length:Nat):Int) - 1))).bind fun x63 =>
    (idx (q.2++[({ Low:=t[k] - t[k] % w,Count:=0 }:B4)]) (IntKind.i64.wrap ((((q.2++[({ Low:=t[k] - t[k] % w,Count:=0 }:B4)]).length:Nat):Int) - 1))).bind fun x67 =>
    rec ((IntKind.i64.wrap ((k:Int) + 1)),((q.2++[({ Low:=t[k] - t[k] % w,Count:=0 }:B4)]).set ((IntKind.i64.wrap ((((q.2++[({ Low:=t[k] - t[k] % w,Count:=0 }:B4)]).length:Nat):Int) - 1)):Int).toNat ({ Low:=x67.Low,Count:=(IntKind.i64.wrap (x63.Count + 1)) }:B4))) else none) fun r=>∃ lows,BR w t lows∧r = (W0 w t lows,0):=by
    intro hlt
    have hz:Mh w (t.take k) (low w t[k]) = 0:=ZZ fun v hv2 e=>by
     have:=hlt _ ((a2 _).2 ⟨v,hv2,e⟩)
     omega
    have hql:q.2.length = lows.length:=by rw [a4,JG]
    refine Ok.rm (by simp; omega) ?_
    have e:IntKind.i64.wrap ((((q.2++[({ Low:=t[k] - t[k] % w,Count:=0 }:B4)]).length:Nat):Int) - 1) = ((lows.length:Nat):Int):=by
     rw [List.length_append,hql,wr (by simp <;> omega) (by simp; omega)]; simp
    rw [e]
    have hb:lows.length < (q.2++[({ Low:=t[k] - t[k] % w,Count:=0 }:B4)]).length:=by simp [hql]
    have hg:(q.2++[({ Low:=t[k] - t[k] % w,Count:=0 }:B4)])[lows.length] = { Low:=t[k] - t[k] % w,Count:=0 }:=by
     rw [List.getElem_append_right (by omega)]
     simp [hql]
    refine Ok.idxn hb (Ok.idxn hb (ih _ (CH (by omega)) ⟨lows++[low w t[k]],fresh hlt,by simp; omega,?_⟩))
    rw [hg,htk,WK,Xp w _ _ _ (fun z hz2=>by have:=hlt z hz2; omega),P5,if_pos rfl,hz,← a4]
    show (q.2++[_]).set (((lows.length:Nat):Int)).toNat _ = _
    rw [Int.toNat_natCast,List.set_append_right _ _ (by omega),hql,Nat.sub_self]
    rfl
   simp only [Lb,hq]
   rw [AC (by omega)]
   refine Ok.idxn hk (Ok.bindE (b8 hw hw2 (by omega) (by omega)) (Ok.br (fun hz=>hnew fun z hzz=>?_) fun hz=>?_))
   ·have:lows.length = 0:=by
     have:q.2.length = 0:=by simpa using hz
     rw [a4,JG] at this; exact this
    rw [List.eq_nil_of_length_eq_zero this] at hzz; cases hzz
   have hz:q.2.length≠0:=by
    intro e
    rw [e] at hz
    cases hz
   have hql:q.2.length = lows.length:=by rw [a4,JG]
   obtain ⟨ini,z0,rfl⟩:∃ a z,lows = a++[z]:=by
    have hne:lows≠[]:=fun h=>hz (by rw [hql,h]; rfl)
    exact ⟨lows.dropLast,lows.getLast hne,(List.dropLast_concat_getLast hne).symm⟩
   have hil:q.2.length = ini.length + 1:=by rw [hql]; simp
   have e:IntKind.i64.wrap (((q.2.length:Nat):Int) - 1) = ((ini.length:Nat):Int):=by
    rw [wr (by omega) (by simp at a3; omega)]; omega
   rw [e]
   have hb:ini.length < q.2.length:=by omega
   have hg:q.2[ini.length] = { Low:=z0,Count:=Mh w (t.take k) z0 }:=by
    simp only [a4]
    simp [W0]
   have hini:∀ z∈ini,z < z0:=by
    intro z hz2
    rw [List.pairwise_append] at a1
    exact a1.2.2 z hz2 z0 (List.mem_singleton.2 rfl)
   refine Ok.idxn hb ?_
   rw [hg]
   refine Ok.br (fun hne=>hnew fun z hzz=>?_) fun heq=>Ok.idxn hb (Ok.idxn hb (ih _ (CH (by omega)) ⟨ini++[z0],?_,by omega,?_⟩))
   ·have hne:z0≠low w t[k]:=by
     have:(z0 != t[k] - t[k] % w) = true:=hne
     rw [bne_iff_ne] at this; exact this
    have h0:=hle z0 (List.mem_append_right _ (List.mem_singleton.2 rfl))
    rcases List.mem_append.1 hzz with h | h
    ·have:=hini z h; omega
    ·rw [List.mem_singleton] at h; subst h; omega
   ·have heq:z0 = low w t[k]:=by
     have:(z0 != t[k] - t[k] % w) = false:=heq
     rw [bne_eq_false_iff_eq] at this; exact this
    refine ⟨a1,fun z=>?_⟩
    rw [a2 z,htk]
    constructor
    ·rintro ⟨v,h3,h4⟩; exact ⟨v,List.mem_append_left _ h3,h4⟩
    ·rintro ⟨v,h3,h4⟩
     rcases List.mem_append.1 h3 with h3 | h3
     ·exact ⟨v,h3,h4⟩
     ·rw [List.mem_singleton] at h3; subst h3
      rw [← h4,← heq]
      exact (a2 z0).1 (List.mem_append_right _ (List.mem_singleton.2 rfl))
   ·have heq:z0 = low w t[k]:=by
     have:(z0 != t[k] - t[k] % w) = false:=heq
     rw [bne_eq_false_iff_eq] at this; exact this
    have hcr:=U1 w (t.take k) z0
    rw [List.length_take] at hcr
    rw [hg,htk,WK,Xp w _ _ _ (fun z hz2=>by have:=hini z hz2; omega),P5,if_pos heq.symm]
    show q.2.set (((ini.length:Nat):Int)).toNat { Low:=z0,Count:=IntKind.i64.wrap (Mh w (t.take k) z0 + 1) } = _
    rw [Int.toNat_natCast,wr (by omega) (by omega),a4,WK,List.set_append_right _ _ (by rw [JG]; omega),JG,Nat.sub_self]
    rfl
 obtain ⟨r,hr,lows,h1,h2⟩:=H
 refine ⟨lows,⟨h1.asc,fun z=>(h1.mem z).trans ⟨fun ⟨v,a,b⟩=>⟨v,hperm.mem_iff.1 a,b⟩,fun ⟨v,a,b⟩=>⟨v,hperm.mem_iff.2 a,b⟩⟩⟩,?_⟩
 rw [hr,h2]
 unfold W0
 congr 2
 exact List.map_congr_left fun z _=>by rw [af hperm]
theorem dA {l:List Int} {w:Int} (hl:l.length≤200) (hw:1≤w) (hw2:w≤1000000) (hv:∀ v∈l,-1000000≤v∧v≤1000000):∃ b,b.length≤200∧Fk l w = some (b,0)∧GU l w = some (b,0):=by
 obtain ⟨a,ha,hpa⟩:=fl hl hw hw2 hv
 obtain ⟨b,hb,hbl,hrb⟩:=f1 hl hw hw2 hv
 obtain rfl:=eP ha.asc hb.asc fun z=>(ha.mem z).trans (hb.mem z).symm
 exact ⟨_,by rw [JG]; omega,hpa,hrb⟩
end Go.Proofs.YtejfnieiaecpkaaGreatDoor.P
namespace Go.Proofs.YtejfnieiaecpkaaGreatDoor.P
open Go Go.Abs Go.Proofs
set_option maxRecDepth 100000
variable {s:Aa}
theorem OI {l:List Nat} {k:Nat} (hk:k < l.length) (hk2:k < (IA l).length):(IA l)[k] = (l[k]:Int):=by simp [IA]
theorem VU {i:Nat} (hi:i < s.Columns.length) (h:Ci s.Columns[i]) {n:Nat} (hn:n < s.Columns[i].Widths.length):I4 s i s.Columns[i].Widths[n] = some ((s.Columns[i].Widths.length:Int) - n):=by
 have hwl:=Bk h
 have hd:∀ a b (ha:a < s.Columns[i].Widths.length) (hb:b < s.Columns[i].Widths.length),a < b→s.Columns[i].Widths[a]≠s.Columns[i].Widths[b]:=by
  have hp:s.Columns[i].Widths.Pairwise (·≠·):=by rcases WI h.widths with e | e | e | e <;> (rw [e]; decide)
  intro a b ha hb hab
  exact (List.pairwise_iff_getElem.1 hp) a b ha hb hab
 refine Ok.val ?_
 unfold I4
 refine Ok.idxn hi ?_
 refine Ok.for (fun q=>q) s.Columns[i].Widths.length (fun k _=>k≤n) 0 (Nat.zero_le _) rfl (Nat.zero_le _) (by omega) (fun rec q hq hI=>by omega) fun rec k q hk hq hI ih=>?_
 simp only [Mg,hq]
 rw [AC (by omega)]
 refine Ok.idxn hk (Ok.br (fun he=>Ok.some ?_) fun hne=>ih _ (CH (by omega)) ?_)
 ·have he:s.Columns[i].Widths[k] = s.Columns[i].Widths[n]:=by simpa using he
  have:k = n:=by
   rcases Nat.lt_or_ge k n with h1 | h1
   ·exact absurd he (hd k n hk hn h1)
   ·omega
  rw [this,wr (by omega) (by omega)]
 ·by_cases e:k = n
  ·subst e; rw [beq_self_eq_true] at hne; cases hne
  ·omega
end Go.Proofs.YtejfnieiaecpkaaGreatDoor.P
namespace Go.Proofs.YtejfnieiaecpkaaGreatDoor.P
open Go Go.Abs Go.Proofs
set_option maxRecDepth 100000
variable {s:Aa}
end Go.Proofs.YtejfnieiaecpkaaGreatDoor.P
namespace Go.Proofs.YtejfnieiaecpkaaGreatDoor.P
open Go Go.Abs Go.Proofs
set_option maxRecDepth 100000
variable {s:Aa}
def hE (m w:Int) (c:Ag):AA:={ Op:=13,Num:=w,Name:=ByteArray.empty,Column:=m,Columns:=[],Dims:=[],Cond:=c,Event:=Nz,Kids:=[] }
def HR (s:Aa) (m w:Int):Prop:=∃ (i:Nat) (hi:i < s.Columns.length),1≤i∧m = (i:Int)∧Ci s.Columns[i]∧w∈s.Columns[i].Widths
theorem fc (hs:DS s) {i:Nat} (hi:i < s.Columns.length) (h:s.Columns[i].Kind = 3):1≤i∧Ci s.Columns[i]:=by
 rcases hs.cl hi with ⟨_,h1⟩ | ⟨h0,h1 | h1⟩
 ·rw [h1] at h; cases h
 ·rw [h1.kind] at h; cases h
 ·exact ⟨h0,h1⟩
theorem NK (hs:DS s) (m:Int):Ok (Bi s m) fun b=>(b = true↔∃ (i:Nat) (hi:i < s.Columns.length),1≤i∧m = (i:Int)∧Ci s.Columns[i]):=by
 by_cases h0:0≤m∧m < s.Columns.length
 ·obtain ⟨i,rfl⟩:∃ i:Nat,m = i:=⟨m.toNat,by omega⟩
  have hi:i < s.Columns.length:=by omega
  by_cases e:s.Columns[i].Kind = 3
  ·obtain ⟨h1,h2⟩:=fc hs hi e
   exact ⟨_,aD hi h2,fun _=>⟨i,hi,h1,rfl,h2⟩,fun _=>rfl⟩
  ·refine ⟨false,?_,(fun h=>by cases h),fun ⟨j,hj,_,hjm,hm⟩=>?_⟩
   ·unfold Bi
    rw [decide_eq_true (by omega),decide_eq_true (by omega)]
    show (idx s.Columns (i:Int)).bind _ = _
    rw [C4 hi,Option.bind_some]
    have:(s.Columns[i].Kind==3) = false:=by simpa using e
    rw [this]
   ·obtain rfl:i = j:=by omega
    exact absurd hm.kind e
 ·refine ⟨false,?_,(fun h=>by cases h),fun ⟨j,hj,_,hjm,hm⟩=>by omega⟩
  unfold Bi
  by_cases h1:0≤m
  ·rw [decide_eq_true (show m ≥ 0 from h1),decide_eq_false (by omega)]; rfl
  ·rw [decide_eq_false (show ¬ m ≥ 0 from h1)]; rfl
theorem W3 {l:List Int} {x:Int} (hl:l.length≤1000000):Ok (BZ l x) fun b=>(b = true↔x∈l):=by
 refine ⟨l.any (fun y=>x==y),?_,?_⟩
 ·unfold BZ
  have h:En l x = some (Gy (fun y=>x==y) l):=Lt (p:=fun y=>some (x==y)) (fun _ _=>rfl) (by omega)
  rw [h,Option.bind_some,Nm]
 ·show (l.any (fun y=>x==y)) = true↔x∈l
  rw [List.any_eq_true]
  constructor
  ·rintro ⟨y,hy,e⟩
   rw [beq_iff_eq.1 e]; exact hy
  ·exact fun h=>⟨x,h,beq_self_eq_true x⟩
theorem WE (hs:DS s) {n:Nat} {c:Ag} (hc:RC s n c) (hn:n≤3) (m w:Int):Ok (DT DD s (hE m w c)) fun b=>(b = true↔HR s m w):=by
 unfold DT
 refine Ok.bindE hs.check (Ok.yes rfl (Ok.bind (P:=fun b:Bool=>(b = true↔HR s m w)) ?_ fun b hb=>Ok.some hb))
 show Ok (DC 59 (EY 59) (Fy 59) s (hE m w c)) _
 unfold DC
 refine Ok.bindE (x:=(({ f_num:=true,f_name:=false,f_column:=true,f_columns:=false,f_dims:=false,f_cond:=true,f_event:=false }:Bn),true)) rfl (Ok.no rfl (Ok.bindE (x:=true) ?_ (Ok.no rfl (Ok.bind (P:=fun b:Bool=>(b = true↔HR s m w)) ?_ fun b hb=>Ok.br (fun e=>Ok.some ?_) fun e=>?_))))
 ·have e:((hE m w c).Name.toList==({ data:=#[] }:ByteArray).toList) = true:=beq_self_eq_true _
  unfold GT
  rw [e]
  rfl
 ·unfold IZ
  refine Ok.no rfl (Ok.no rfl (Ok.no rfl (Ok.no rfl (Ok.no rfl (Ok.no rfl (Ok.no rfl (Ok.no rfl (Ok.yes rfl (Ok.bind (NK hs m) fun b hb=>Ok.br (fun e=>?_) fun e=>Ok.some ?_)))))))))
  ·obtain ⟨i,hi,h1,rfl,h2⟩:=hb.1 e
   have hwl:=Bk h2
   refine Ok.idxn hi (Ok.bind (W3 (by omega)) fun z hz=>Ok.some (hz.trans ⟨fun h=>⟨i,hi,h1,rfl,h2,h⟩,fun ⟨j,hj,_,hjm,_,h⟩=>?_⟩))
   obtain rfl:i = j:=by omega
   exact h
  ·exact ⟨(fun h=>by cases h),fun ⟨i,hi,h1,h2,h3,_⟩=>by rw [hb.2 ⟨i,hi,h1,h2,h3⟩] at e; cases e⟩
 ·have e:b = false:=by simpa using e
  subst e
  exact ⟨(fun h=>by cases h),fun h=>hb.2 h⟩
 ·have e:b = true:=by simpa using e
  unfold F2
  exact Ok.yes rfl (Ok.bindE (hc.check hs hn (by omega)) (Ok.no rfl (Ok.no rfl (Ok.bindE (x:=false) rfl (Ok.no rfl (Ok.bindE (x:=false) rfl (Ok.some ⟨fun _=>hb.1 e,fun _=>rfl⟩)))))))
end Go.Proofs.YtejfnieiaecpkaaGreatDoor.P
namespace Go.Proofs.YtejfnieiaecpkaaGreatDoor.P
open Go Go.Abs Go.Proofs
set_option maxRecDepth 100000
variable {s:Aa}
theorem ZG (hs:DS s) (m:Int):Ok (Fq s m 3) fun b=>(b = true↔∃ (i:Nat) (hi:i < s.Columns.length),1≤i∧m = (i:Int)∧Ci s.Columns[i]):=by
 have e:Fq s m 3 = Bi s m:=by
  unfold Fq Bi
  rfl
 rw [e]
 exact NK hs m
theorem aJ (d:Nat) (m w:Int) (c:Ag):JT (d + 1) (hE m w c) = some true:=by
 refine Ok.val ?_
 unfold JT
 repeat refine Ok.no rfl ?_
 refine Ok.yes rfl ?_
 unfold B8
 refine Ok.yes ?_ (Ok.yes rfl (Ok.no rfl (Ok.bindE (x:=true) rfl (Ok.some rfl))))
 show (bif (bif (bif (bif (w==w) then (ByteArray.empty.toList==ByteArray.empty.toList) else false) then (m==m) else false) then true else false) then true else false) = true
 rw [beq_self_eq_true,beq_self_eq_true,beq_self_eq_true]
 rfl
theorem Tp (hs:DS s) {n:Nat} {c:Ag} (hc:RC s n c) (hn:n≤3) {d:Nat} (hd:n < d + 1) (m w:Int):Ok (EL (d + 2) s (hE m w c)) fun b=>(b = true↔HR s m w):=by
 show Ok (ES (d + 1) (EL (d + 1)) s (hE m w c)) _
 unfold ES
 refine Ok.bindE hs.rcheck (Ok.no rfl (Ok.bindE (aJ d m w c) (Ok.no rfl ?_)))
 unfold GF
 refine Ok.no rfl ?_
 unfold Fx
 refine Ok.no rfl ?_
 refine Ok.for (fun q=>q) 0 (fun _ _=>True) 0 (Nat.zero_le _) rfl trivial (by omega) (fun rec q hq hI=>?_) fun rec k q hk hq hI ih=>absurd hk (by omega)
 simp only [Jh,hq]
 refine Ok.no rfl ?_
 unfold Hd
 refine Ok.bind (ZG hs m) fun b hb=>?_
 repeat refine Ok.no rfl ?_
 refine Ok.yes rfl (Ok.br (fun e=>Ok.some ?_) fun e=>?_)
 ·have e:b = false:=by simpa using e
  subst e
  exact ⟨(fun h=>by cases h),fun ⟨i,hi,h1,h2,h3,_⟩=>hb.2 ⟨i,hi,h1,h2,h3⟩⟩
 ·have e:b = true:=by simpa using e
  subst e
  obtain ⟨i,hi,h1,rfl,h2⟩:=hb.1 rfl
  have hwl:=Bk h2
  refine Ok.idxn hi (Ok.bind (Wz (by omega)) fun z hz=>Ok.br (fun e=>Ok.some ?_) fun e=>?_)
  ·have e:z = false:=by simpa using e
   subst e
   refine ⟨(fun h=>by cases h),fun ⟨j,hj,_,hjm,_,h⟩=>?_⟩
   obtain rfl:i = j:=by omega
   exact hz.2 h
  ·have e:z = true:=by simpa using e
   unfold BF
   exact Ok.yes rfl (Ok.no rfl (Ok.bindE (hc.rcheck hs hn hd) (Ok.some ⟨fun _=>⟨i,hi,h1,rfl,h2,hz.1 e⟩,fun _=>rfl⟩)))
end Go.Proofs.YtejfnieiaecpkaaGreatDoor.P
namespace Go.Proofs.YtejfnieiaecpkaaGreatDoor.P
open Go Go.Abs Go.Proofs
set_option maxRecDepth 100000
variable {s:Aa}
def bE (m:Int) (c:Ag):AA:={ Op:=14,Num:=0,Name:=ByteArray.empty,Column:=m,Columns:=[],Dims:=[],Cond:=c,Event:=Nz,Kids:=[] }
def MR (s:Aa) (m:Int):Prop:=∃ (i:Nat) (hi:i < s.Columns.length),1≤i∧m = (i:Int)∧Ci s.Columns[i]
theorem X7 (hs:DS s) {n:Nat} {c:Ag} (hc:RC s n c) (hn:n≤3) (m:Int):Ok (DT DD s (bE m c)) fun b=>(b = true↔MR s m):=by
 unfold DT
 refine Ok.bindE hs.check (Ok.yes rfl (Ok.bind (P:=fun b:Bool=>(b = true↔MR s m)) ?_ fun b hb=>Ok.some hb))
 show Ok (DC 59 (EY 59) (Fy 59) s (bE m c)) _
 unfold DC
 refine Ok.bindE (x:=(({ f_num:=false,f_name:=false,f_column:=true,f_columns:=false,f_dims:=false,f_cond:=true,f_event:=false }:Bn),true)) rfl (Ok.no rfl (Ok.bindE (x:=true) ?_ (Ok.no rfl (Ok.bind (P:=fun b:Bool=>(b = true↔MR s m)) ?_ fun b hb=>Ok.br (fun e=>Ok.some ?_) fun e=>?_))))
 ·have e:((bE m c).Name.toList==({ data:=#[] }:ByteArray).toList) = true:=beq_self_eq_true _
  unfold GT
  rw [e]
  rfl
 ·unfold IZ
  refine Ok.no rfl (Ok.no rfl (Ok.no rfl (Ok.no rfl (Ok.yes rfl (Ok.bind (NK hs m) fun b hb=>Ok.some hb)))))
 ·have e:b = false:=by simpa using e
  subst e
  exact ⟨(fun h=>by cases h),fun h=>hb.2 h⟩
 ·have e:b = true:=by simpa using e
  unfold F2
  exact Ok.yes rfl (Ok.bindE (hc.check hs hn (by omega)) (Ok.no rfl (Ok.no rfl (Ok.bindE (x:=false) rfl (Ok.no rfl (Ok.bindE (x:=false) rfl (Ok.some ⟨fun _=>hb.1 e,fun _=>rfl⟩)))))))
theorem bt (d:Nat) (m:Int) (c:Ag):JT (d + 1) (bE m c) = some true:=by
 refine Ok.val ?_
 unfold JT
 repeat refine Ok.no rfl ?_
 refine Ok.yes rfl ?_
 unfold B8
 refine Ok.yes ?_ (Ok.yes rfl (Ok.no rfl (Ok.bindE (x:=true) rfl (Ok.some rfl))))
 show (bif (bif (bif (bif (0==0) then (ByteArray.empty.toList==ByteArray.empty.toList) else false) then (m==m) else false) then true else false) then true else false) = true
 rw [beq_self_eq_true,beq_self_eq_true,beq_self_eq_true]
 rfl
theorem U4 (hs:DS s) {n:Nat} {c:Ag} (hc:RC s n c) (hn:n≤3) {d:Nat} (hd:n < d + 1) (m:Int):Ok (EL (d + 2) s (bE m c)) fun b=>(b = true↔MR s m):=by
 show Ok (ES (d + 1) (EL (d + 1)) s (bE m c)) _
 unfold ES
 refine Ok.bindE hs.rcheck (Ok.no rfl (Ok.bindE (bt d m c) (Ok.no rfl ?_)))
 unfold GF
 refine Ok.no rfl ?_
 unfold Fx
 refine Ok.no rfl ?_
 refine Ok.for (fun q=>q) 0 (fun _ _=>True) 0 (Nat.zero_le _) rfl trivial (by omega) (fun rec q hq hI=>?_) fun rec k q hk hq hI ih=>absurd hk (by omega)
 simp only [Jh,hq]
 refine Ok.no rfl ?_
 unfold Hd
 refine Ok.bind (ZG hs m) fun b hb=>?_
 repeat refine Ok.no rfl ?_
 unfold BF
 refine Ok.br (fun e=>?_) fun e=>Ok.some ?_
 ·subst e
  exact Ok.no rfl (Ok.bindE (hc.rcheck hs hn hd) (Ok.some ⟨fun _=>hb.1 rfl,fun _=>rfl⟩))
 ·subst e
  exact ⟨(fun h=>by cases h),fun h=>hb.2 h⟩
end Go.Proofs.YtejfnieiaecpkaaGreatDoor.P
namespace Go.Proofs.YtejfnieiaecpkaaGreatDoor.P
open Go Go.Abs Go.Proofs
set_option maxRecDepth 100000
variable {s:Aa}
def mC (lo hi:Int) (w:List Int) (o:Bool):Av:={ Name:=T8,Kind:=3,List_:=0,Low:=lo,High:=hi,Widths:=w,Optional:=o }
def mS (lo hi:Int) (w:List Int) (o:Bool):Aa:={ Lists:=[],Columns:=[dV,mC lo hi w o] }
def fA (lo hi:Int) (w:List Int) (o:Bool) (l:Int):Option Int:=iter (fun rec1 st=>HW (mS lo hi w o) 1 (fun v2_1=>some v2_1) rec1 st) A6 l
def f8 (lo hi:Int) (w:List Int) (o:Bool) (l:Int):Option Int:=iter (fun rec1 st=>F0 (mS lo hi w o) 1 l (fun v7_1=>some v7_1) rec1 st) A6 0
def bU (lo hi:Int) (w:List Int) (o:Bool) (l:Int):Bool:=match fA lo hi w o l,f8 lo hi w o l with
 | some a,some b=>(a==b) && decide (0≤a) && decide (a≤l)
 | _,_=>false
theorem X2:((List.range 7).all fun a=>(List.range 45).all fun b=>Lu.all fun w=>[true,false].all fun o=>(List.range (w.length + 1)).all fun l=>bU ((a:Int) - 4) ((a:Int) - 4 + b) w o l) = true:=by decide +kernel
theorem YJ {c:Av} (h:Ci c) {l:Int} (h0:0≤l) (h1:l≤c.Widths.length):bU c.Low c.High c.Widths c.Optional l = true:=by
 obtain ⟨a1,a2⟩:=h.low
 obtain ⟨a3,a4⟩:=h.high
 have k1:=List.all_eq_true.1 X2 (c.Low + 4).toNat (List.mem_range.2 (by omega))
 have k2:=List.all_eq_true.1 k1 (c.High - c.Low).toNat (List.mem_range.2 (by omega))
 have k3:=List.all_eq_true.1 k2 c.Widths h.widths
 have k4:=List.all_eq_true.1 k3 c.Optional (by cases c.Optional <;> simp)
 have k5:=List.all_eq_true.1 k4 l.toNat (List.mem_range.2 (by omega))
 have e1:(((c.Low + 4).toNat:Nat):Int) - 4 = c.Low:=by omega
 have e2:c.Low + (((c.High - c.Low).toNat:Nat):Int) = c.High:=by omega
 have e3:((l.toNat:Nat):Int) = l:=by omega
 rw [e1,e2,e3] at k5
 exact k5
theorem Ys {i:Nat} (hi:i < s.Columns.length) (h:Ci s.Columns[i]) (l:Int):ET s i l = ET (mS s.Columns[i].Low s.Columns[i].High s.Columns[i].Widths s.Columns[i].Optional) 1 l:=by
 unfold ET
 rw [C4 hi]
 show _ = (some _).bind _
 rw [Option.bind_some,Option.bind_some,h.kind]
 rfl
theorem aX {i:Nat} (hi:i < s.Columns.length) (h:Ci s.Columns[i]) (a b:Int):Dz s i a b = Dz (mS s.Columns[i].Low s.Columns[i].High s.Columns[i].Widths s.Columns[i].Optional) 1 a b:=by
 have e:idx (mS s.Columns[i].Low s.Columns[i].High s.Columns[i].Widths s.Columns[i].Optional).Columns 1 = some (mC s.Columns[i].Low s.Columns[i].High s.Columns[i].Widths s.Columns[i].Optional):=rfl
 have k:(mC s.Columns[i].Low s.Columns[i].High s.Columns[i].Widths s.Columns[i].Optional).Kind = 3:=rfl
 have hw:∀ a,C6 s.Columns[i] a = C6 (mC s.Columns[i].Low s.Columns[i].High s.Columns[i].Widths s.Columns[i].Optional) a:=fun _=>rfl
 have k2:((3:Int)==2) = false:=rfl
 unfold Dz
 rw [C4 hi,e,Option.bind_some,Option.bind_some,h.kind,k,k2,cond_false,cond_false]
 have p1:(mC s.Columns[i].Low s.Columns[i].High s.Columns[i].Widths s.Columns[i].Optional).Low = s.Columns[i].Low:=rfl
 have p2:(mC s.Columns[i].Low s.Columns[i].High s.Columns[i].Widths s.Columns[i].Optional).High = s.Columns[i].High:=rfl
 have p3:(mC s.Columns[i].Low s.Columns[i].High s.Columns[i].Widths s.Columns[i].Optional).Optional = s.Columns[i].Optional:=rfl
 simp only [JC,hw,p1,p2,p3]
theorem Qu (hs:DS s) {i:Nat} (hi0:1≤i) (hi:i < s.Columns.length) (h:Ci s.Columns[i]) {l:Int} (h0:0≤l) (h1:l≤s.Columns[i].Widths.length):∃ L,Dx s i l = some L∧Cd s i l = some L∧0≤L∧L≤l:=by
 have hwl:=Bk h
 have hf:fin s i = s.Columns[i].Widths.length:=by rw [DF hi,Cl h]
 have e1:Dx s i l = fA s.Columns[i].Low s.Columns[i].High s.Columns[i].Widths s.Columns[i].Optional l:=by
  unfold Dx fA
  rw [hs.pFinest hi0 hi,Option.bind_some,decide_eq_false (by omega),decide_eq_false (by omega),cond_false,cond_false]
  congr 1
  funext rec st
  unfold HW
  rw [Ys hi h,Ys hi h]
 have e2:Cd s i l = f8 s.Columns[i].Low s.Columns[i].High s.Columns[i].Widths s.Columns[i].Optional l:=by
  unfold Cd f8
  rw [hs.rfinest hi0 hi,Option.bind_some,Hy,Option.bind_some,decide_eq_true (by omega),Bool.not_true,cond_false]
  congr 1
  funext rec st
  unfold F0
  rw [aX hi h]
 have hF:=YJ h h0 h1
 unfold bU at hF
 rw [e1,e2]
 split at hF
 ·rename_i a b ha hb
  simp only [Bool.and_eq_true,beq_iff_eq,decide_eq_true_eq] at hF
  obtain ⟨⟨rfl,h2⟩,h3⟩:=hF
  exact ⟨_,ha,hb,h2,h3⟩
 ·cases hF
end Go.Proofs.YtejfnieiaecpkaaGreatDoor.P
namespace Go.Proofs.YtejfnieiaecpkaaGreatDoor.P
open Go Go.Abs Go.Proofs
set_option maxRecDepth 100000
variable {s:Aa}
structure NP (r:List Ae) (m:Nat) (P:List Ae→Prop):Prop where
 len:r.length≤m
 pos:∀ p∈r,0 < p.Level
 iff:∀ picks,(∀ p∈r,one picks p.Column p.Level)↔P picks
theorem NP.covers {r:List Ae} {m:Nat} {P:List Ae→Prop} (h:NP r m P) (picks:List Ae):covers picks r = true↔P picks:=(Uk h.pos).trans (h.iff picks)
theorem NP.congr {r:List Ae} {m:Nat} {P Q:List Ae→Prop} (h:NP r m P) (e:∀ picks,P picks↔Q picks):NP r m Q:=⟨h.len,h.pos,fun picks=>(h.iff picks).trans (e picks)⟩
theorem NP.nil {m:Nat}:NP [] m fun _=>True:=⟨Nat.zero_le _,(fun p hp=>by cases hp),fun picks=>⟨fun _=>trivial,fun _ p hp=>by cases hp⟩⟩
theorem NO.cols {l:List Ag} {r:List Ae} (h:NO s l r):∀ p∈r,∃ a∈l,p.Column = a.Column:=by
 intro p hp
 have h1:=(h.iff (l.map fun a=>{ Column:=a.Column,Level:=O1 s a })).2 (fun a ha=>.inr ⟨_,List.mem_map.2 ⟨a,ha,rfl⟩,rfl,Int.le_refl _⟩) p hp
 rcases h1 with h1 | ⟨q,hq,h2,_⟩
 ·have:=h.pos p hp; omega
 ·obtain ⟨a,ha,rfl⟩:=List.mem_map.1 hq
  exact ⟨a,ha,h2.symm⟩
theorem bJ {out:List Ae} {m:Nat} {P:List Ae→Prop} (ho:NP out m P) (hm:m≤800) {d:Nat} {c:Ag} {l:List Ag} (hn:Ok (CN d s c) (NO s l)) :
 Ok (I8 d s out c) fun r=>NP r (m + 100) fun picks=>P picks∧∀ a∈l,one picks a.Column (O1 s a):=by
 obtain ⟨x,hx,hx2⟩:=hn
 have hxl:=hx2.len
 have hol:=ho.len
 unfold I8
 refine Ok.bindE hx ?_
 refine Ok.for (fun q=>q.2) x.length (fun k q=>NP q.1 (m + k) fun picks=>P picks∧∀ p∈x.take k,one picks p.Column p.Level) 0 (Nat.zero_le _) rfl (ho.congr fun picks=>⟨fun h=>⟨h,fun p hp=>by simp at hp⟩,fun h=>h.1⟩) (by omega) (fun rec q hq hI=>?_) fun rec k q hk hq hI ih=>?_
 ·simp only [Jq,hq]
  rw [AO (by omega)]
  refine Ok.some ⟨by have:=hI.len; omega,hI.pos,fun picks=>(hI.iff picks).trans ?_⟩
  rw [List.take_length,hx2.iff picks]
 ·have hql:=hI.len
  simp only [Jq,hq]
  rw [AC (by omega)]
  refine Ok.idxn hk (Ok.idxn hk (Ok.bind (U0 (by omega) hI.pos) fun r hr=>ih _ (CH (by omega)) ⟨by show r.length≤_; omega,hr.2.1,fun picks=>(hr.2.2 picks).trans ?_⟩))
  rw [hI.iff picks,List.take_succ_eq_append_getElem hk,IJ]
  exact ⟨fun h=>⟨h.1.1,h.1.2,h.2⟩,fun h=>⟨⟨h.1,h.2.1⟩,h.2.2⟩⟩
theorem VN (k c v:Int):∀ b:List (Int × Int),IS c (Ug k v b) = if c = k then some v else IS c b
 | []=>by
   simp only [Ug,IS]
   by_cases e:c = k
   ·subst e; rw [beq_self_eq_true,if_pos rfl]; rfl
   ·rw [beq_eq_false_iff_ne.2 e,if_neg e]; rfl
 | p :: r=>by
   have ih:=VN k c v r
   simp only [Ug]
   by_cases e:k = p.1
   ·rw [← e,beq_self_eq_true,cond_true]
    simp only [IS]
    by_cases e2:c = k
    ·subst e2; rw [beq_self_eq_true,if_pos rfl]; rfl
    ·rw [← e,beq_eq_false_iff_ne.2 e2,if_neg e2,cond_false,cond_false]
   ·rw [beq_eq_false_iff_ne.2 e,cond_false]
    simp only [IS]
    rw [ih]
    by_cases e2:c = p.1
    ·rw [← e2,beq_self_eq_true,cond_true,if_neg (by omega),cond_true]
    ·rw [beq_eq_false_iff_ne.2 e2,cond_false,cond_false]
def gl (c:Int) (b:List (Int × Int)):Int:=(IS c b).getD 0
structure MI (v:Int) (b:List (Int × Int)) (P:List Ae→Prop):Prop where
 v0:0≤v
 v1:v≤1000
 out:∀ c,v < c→gl c b = 0
 iff:∀ picks,(∀ c,0≤c→c≤v→one picks c (gl c b))↔P picks
theorem MI.step {v:Int} {b:List (Int × Int)} {P:List Ae→Prop} (h:MI v b P) {x:Ae} (h0:0≤x.Column) (h1:x.Column≤1000) :
 MI (if x.Column > v then x.Column else v) (Ug x.Column (if x.Level > ((IS x.Column b).getD 0) then x.Level else ((IS x.Column b).getD 0)) b) fun picks=>P picks∧one picks x.Column x.Level:=by
 obtain ⟨a1,a2,a3,a4⟩:=h
 have hg:∀ c,gl c (Ug x.Column (if x.Level > ((IS x.Column b).getD 0) then x.Level else ((IS x.Column b).getD 0)) b) = if c = x.Column then (if x.Level > gl x.Column b then x.Level else gl x.Column b) else gl c b:=by
  intro c
  unfold gl
  rw [VN]
  by_cases e:c = x.Column
  ·rw [if_pos e,if_pos e]; rfl
  ·rw [if_neg e,if_neg e]
 refine ⟨by split <;> omega,by split <;> omega,fun c hc=>?_,fun picks=>?_⟩
 ·rw [hg,if_neg (by split at hc <;> omega)]
  exact a3 c (by split at hc <;> omega)
 ·rw [← a4 picks]
  constructor
  ·intro hall
   have hx:=hall x.Column h0 (by split <;> omega)
   rw [hg,if_pos rfl] at hx
   refine ⟨fun c hc0 hc1=>?_,(Mm.1 hx).2⟩
   by_cases e:c = x.Column
   ·subst e; exact (Mm.1 hx).1
   ·have:=hall c hc0 (by split <;> omega)
    rw [hg,if_neg e] at this
    exact this
  ·rintro ⟨hall,hx⟩ c hc0 hc1
   rw [hg]
   by_cases e:c = x.Column
   ·rw [if_pos e,e]
    refine Mm.2 ⟨?_,hx⟩
    by_cases e2:x.Column≤v
    ·exact hall _ h0 e2
    ·rw [a3 _ (by omega)]; exact .inl (Int.le_refl _)
   ·rw [if_neg e]
    by_cases e2:c≤v
    ·exact hall c hc0 e2
    ·rw [a3 _ (by omega)]; exact .inl (Int.le_refl _)
theorem MI.congr {v:Int} {b:List (Int × Int)} {P Q:List Ae→Prop} (h:MI v b P) (e:∀ picks,P picks↔Q picks):MI v b Q:=⟨h.v0,h.v1,h.out,fun picks=>(h.iff picks).trans (e picks)⟩
theorem bv {ll:List (List Ae)} (hl:ll.length≤1000) (hb:∀ l∈ll,l.length≤1000) (hc:∀ l∈ll,∀ p∈l,0≤p.Column∧p.Column≤1000) :
 Ok (Gs ll) fun r=>NP r 1001 fun picks=>∀ l∈ll,∀ p∈l,one picks p.Column p.Level:=by
 unfold Gs
 refine Ok.for (fun q=>q.2.1) ll.length (fun k q=>MI q.1 q.2.2 fun picks=>∀ l∈ll.take k,∀ p∈l,one picks p.Column p.Level) 0 (Nat.zero_le _) rfl
  ⟨Int.le_refl _,by show (0:Int)≤1000; omega,(fun c _=>rfl),fun picks=>⟨fun _ l hl=>by simp at hl,fun _ c _ _=>.inl (Int.le_refl _)⟩⟩ (by omega) (fun rec q hq hI=>?_) fun rec k q hk hq hI ih=>?_
 ·rw [List.take_length] at hI
  simp only [FV,hq]
  rw [AO (by omega)]
  obtain ⟨a1,a2,a3,a4⟩:=hI
  obtain ⟨n,hn⟩:∃ n:Nat,q.1 = n:=⟨q.1.toNat,by omega⟩
  have ew:IntKind.i64.wrap (q.1 + 1) = ((n + 1:Nat):Int):=by rw [hn]; exact CH (by omega)
  refine Ok.for (fun q=>q.1) (n + 1) (fun k r=>NP r.2 k fun picks=>∀ c:Int,0≤c→c < k→one picks c (gl c q.2.2)) 0 (Nat.zero_le _) rfl (NP.nil.congr fun picks=>⟨fun _ c h0 h1=>by omega,fun _=>trivial⟩) (by omega) (fun rec2 q2 hq2 hI2=>?_) fun rec2 k q2 hk hq2 hI2 ih2=>?_
  ·simp only [FF,hq2,ew]
   rw [AO (by omega)]
   refine Ok.some ⟨by have:=hI2.len; omega,hI2.pos,fun picks=>(hI2.iff picks).trans ((Iff.intro (fun h c h0 h1=>h c h0 (by omega)) fun h c h0 h1=>h c h0 (by omega)).trans (a4 picks))⟩
  ·have hlen:=hI2.len
   have hstep:∀ (P:Prop) picks,((∀ c:Int,0≤c→c < (k:Int)→one picks c (gl c q.2.2))∧one picks k (gl k q.2.2))↔∀ c:Int,0≤c→c < ((k + 1:Nat):Int)→one picks c (gl c q.2.2):=by
    intro _ picks
    constructor
    ·rintro ⟨h1,h2⟩ c h0 hc
     by_cases e:c = (k:Int)
     ·rw [e]; exact h2
     ·exact h1 c h0 (by omega)
    ·exact fun h=>⟨fun c h0 hc=>h c h0 (by omega),h k (by omega) (by omega)⟩
   simp only [FF,hq2,ew]
   rw [AC (by omega)]
   refine Ok.brd (fun hp=>Ok.rm (by simp; omega) (ih2 _ (CH (by omega)) ⟨by show (q2.2++[_]).length≤_; simp; omega,Mt hI2.pos hp,fun picks=>?_⟩)) fun hp=>ih2 _ (CH (by omega)) ⟨by show q2.2.length≤_; omega,hI2.pos,fun picks=>?_⟩
   ·rw [IJ,hI2.iff picks]
    exact hstep True picks
   ·rw [hI2.iff picks,← hstep True picks]
    refine ⟨fun h=>⟨h,.inl ?_⟩,fun h=>h.1⟩
    show gl k q.2.2≤0
    unfold gl; omega
 ·have hlk:=hb _ (List.getElem_mem hk)
  have hck:=hc _ (List.getElem_mem hk)
  simp only [FV,hq]
  rw [AC (by omega)]
  refine Ok.idxn hk ?_
  refine Ok.for (fun q=>q.2.1) ll[k].length (fun j r=>MI r.1 r.2.2 fun picks=>(∀ l∈ll.take k,∀ p∈l,one picks p.Column p.Level)∧∀ p∈ll[k].take j,one picks p.Column p.Level) 0 (Nat.zero_le _) rfl (hI.congr fun picks=>⟨fun h=>⟨h,fun p hp=>by simp at hp⟩,fun h=>h.1⟩) (by omega) (fun rec2 q2 hq2 hI2=>?_) fun rec2 j q2 hj hq2 hI2 ih2=>?_
  ·simp only [FY,hq2]
   rw [AO (by omega)]
   refine ih _ (CH (by omega)) (hI2.congr fun picks=>?_)
   rw [List.take_length,List.take_succ_eq_append_getElem hk]
   constructor
   ·rintro ⟨h1,h2⟩ l hl
    rcases List.mem_append.1 hl with hl | hl
    ·exact h1 l hl
    ·rw [List.mem_singleton] at hl; subst hl; exact h2
   ·exact fun h=>⟨fun l hl=>h l (List.mem_append_left _ hl),h _ (List.mem_append_right _ (List.mem_singleton.2 rfl))⟩
  ·simp only [FY,hq2]
   rw [AC (by omega)]
   have hx:=hck _ (List.getElem_mem hj)
   refine Ok.idxn hj (ih2 _ (CH (by omega)) ((hI2.step hx.1 hx.2).congr fun picks=>?_))
   rw [List.take_succ_eq_append_getElem hj,IJ]
   exact ⟨fun h=>⟨h.1.1,h.1.2,h.2⟩,fun h=>⟨⟨h.1,h.2.1⟩,h.2.2⟩⟩
end Go.Proofs.YtejfnieiaecpkaaGreatDoor.P
