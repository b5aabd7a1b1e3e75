/- Plain laws: R0 .. R9. -/
import Derived.Test.YtejfnieiaecpkaaGreatDoorQB
set_option linter.unusedVariables false
set_option linter.unusedSimpArgs false
namespace Go.Proofs.YtejfnieiaecpkaaGreatDoor.P
open Go Go.Abs Go.Proofs
set_option maxRecDepth 100000
variable {s:Aa}
inductive RC (s:Aa):Nat→Ag→Prop
 | all (n:Nat):RC s n Sz
 | under (n:Nat) (i:Nat) (hi0:1≤i) (hi:i < s.Columns.length) (h:It s.Columns[i]) (L:Am) (hL:L∈Su) (hL2:idx s.Lists s.Columns[i].List_ = some L) (k:Int) (h0:0≤k) (h1:k < L.Codes.length):RC s n { Op:=2,Column:=i,Code:=k,Low:=0,High:=0,Kids:=[] }
 | between (n:Nat) (i:Nat) (hi0:1≤i) (hi:i < s.Columns.length) (h:Ci s.Columns[i]) (l u:Int) (h0:-100≤l) (h1:l≤u) (h2:u≤100):RC s n { Op:=3,Column:=i,Code:=0,Low:=l,High:=u,Kids:=[] }
 | miss (n:Nat) (i:Nat) (hi0:1≤i) (hi:i < s.Columns.length) (h:Ci s.Columns[i]) (ho:s.Columns[i].Optional = true):RC s n { Op:=4,Column:=i,Code:=0,Low:=0,High:=0,Kids:=[] }
 | and (n:Nat) (a b:Ag) (ha:RC s n a) (hb:RC s n b):RC s (n + 1) { Op:=5,Column:=0,Code:=0,Low:=0,High:=0,Kids:=[a,b] }
 | or (n:Nat) (a b:Ag) (ha:RC s n a) (hb:RC s n b):RC s (n + 1) { Op:=6,Column:=0,Code:=0,Low:=0,High:=0,Kids:=[a,b] }
 | not (n:Nat) (a:Ag) (ha:RC s n a):RC s (n + 1) { Op:=7,Column:=0,Code:=0,Low:=0,High:=0,Kids:=[a] }
theorem RC.kids {n:Nat} {c:Ag} (h:RC s n c):c.Kids.length≤2∧∀ k∈c.Kids,∃ m,n = m + 1∧RC s m k:=by
 cases h with
 | and n a b ha hb=>exact ⟨by simp,fun k hk=>by simp at hk; rcases hk with rfl | rfl <;> exact ⟨n,rfl,by assumption⟩⟩
 | or n a b ha hb=>exact ⟨by simp,fun k hk=>by simp at hk; rcases hk with rfl | rfl <;> exact ⟨n,rfl,by assumption⟩⟩
 | not n a ha=>exact ⟨by simp,fun k hk=>by simp at hk; subst hk; exact ⟨n,rfl,ha⟩⟩
 | _=>exact ⟨by simp [Sz],fun k hk=>by simp [Sz] at hk⟩
theorem RC.mono {n:Nat} {c:Ag} (h:RC s n c):∀ {m:Nat},n≤m→RC s m c:=by
 induction h with
 | all n=>exact fun _=>.all _
 | under n i hi0 hi h L hL hL2 k h0 h1=>exact fun _=>.under _ i hi0 hi h L hL hL2 k h0 h1
 | between n i hi0 hi h l u h0 h1 h2=>exact fun _=>.between _ i hi0 hi h l u h0 h1 h2
 | miss n i hi0 hi h ho=>exact fun _=>.miss _ i hi0 hi h ho
 | and n a b _ _ iha ihb=>intro m hm; obtain ⟨m,rfl⟩:∃ k,m = k + 1:=⟨m - 1,by omega⟩; exact .and _ _ _ (iha (by omega)) (ihb (by omega))
 | or n a b _ _ iha ihb=>intro m hm; obtain ⟨m,rfl⟩:∃ k,m = k + 1:=⟨m - 1,by omega⟩; exact .or _ _ _ (iha (by omega)) (ihb (by omega))
 | not n a _ iha=>intro m hm; obtain ⟨m,rfl⟩:∃ k,m = k + 1:=⟨m - 1,by omega⟩; exact .not _ _ (iha (by omega))
theorem Uv (hs:DS s):Ok (Dt s 2) fun l=>l≠[]∧l.length≤6∧∀ v∈l,∃ i:Nat,v = i∧1≤i∧∃ hi:i < s.Columns.length,It s.Columns[i]:=by
 have hc:=hs.cols_length
 have h1:∃ hi:1 < s.Columns.length,It s.Columns[1]:=by
  refine ⟨by omega,?_⟩
  obtain ⟨j,ms,e,_⟩:=hs.cols
  have e2:s.Columns[1]? = some f7:=by rw [e]; cases j <;> rfl
  rw [List.getElem?_eq_getElem (by omega)] at e2
  rw [Option.some.inj e2]
  exact ⟨rfl,.inl rfl,rfl,rfl,rfl,rfl⟩
 unfold Dt
 refine Ok.for (fun q=>q.1) s.Columns.length (fun k q=>q.2.length≤k∧(∀ v∈q.2,∃ i:Nat,v = i∧1≤i∧∃ hi:i < s.Columns.length,It s.Columns[i])∧(1 < k→(1:Int)∈q.2)) 0 (Nat.zero_le _) rfl
  ⟨Nat.le_refl _,(fun v hv=>by cases hv),fun h=>by omega⟩ (by omega) (fun rec q hq hI=>?_) fun rec k q hk hq hI ih=>?_
 ·simp only [E6,hq]
  rw [AO (by omega)]
  exact Ok.some ⟨(fun e=>by have:=hI.2.2 (by omega); rw [e] at this; cases this),by have:=hI.1; omega,hI.2.1⟩
 ·simp only [E6,hq]
  rw [AC (by omega)]
  have hI1:=hI.1
  refine Ok.idxn hk (Ok.br (fun e=>Ok.rm (by simp; omega) (ih _ (CH (by omega)) ⟨by simp; omega,fun v hv=>?_,fun hk1=>?_⟩)) fun e=>ih _ (CH (by omega)) ⟨by show q.2.length≤k + 1; omega,hI.2.1,fun hk1=>?_⟩)
  ·rcases List.mem_append.1 hv with hv | hv
   ·exact hI.2.1 v hv
   ·rw [List.mem_singleton] at hv
    have e:s.Columns[k].Kind = 2:=by simpa using e
    rcases hs.cl hk with ⟨_,h1⟩ | ⟨h0,h1 | h1⟩
    ·rw [h1] at e; cases e
    ·exact ⟨k,hv,h0,hk,h1⟩
    ·rw [h1.kind] at e; cases e
  ·show _∈q.2++[_]
   by_cases e:k = 1
   ·subst e; exact List.mem_append_right _ (List.mem_singleton.2 rfl)
   ·exact List.mem_append_left _ (hI.2.2 (by omega))
  ·by_cases e2:k = 1
   ·subst e2
    obtain ⟨_,h1⟩:=h1
    rw [h1.kind] at e
    cases e
   ·exact hI.2.2 (by omega)
theorem ck {c:Ab} (hc:GE c) (hs:DS s):Ok (Fv c s) fun r=>GE r.2∧∃ i:Nat,r.1 = i∧1≤i∧∃ hi:i < s.Columns.length,It s.Columns[i]:=by
 unfold Fv
 refine Ok.bind (Uv hs) fun l hl=>?_
 have:l.length≠0:=fun e=>hl.1 (List.eq_nil_of_length_eq_zero e)
 have hl6:=hl.2.1
 refine Ok.bind (Dk hc (by omega) (by omega)) fun y hy=>Ok.idx hy.2.1 (by omega) (Ok.some ⟨hy.1,hl.2.2 _ (List.getElem_mem _)⟩)
theorem UY {c:Ab} (hc:GE c) (hs:DS s) (n:Nat):Ok ((B0 c s).bind fun x80 =>
        (idx s.Columns x80.1).bind fun x84 =>
        (AJ x80.2 (-3) 40).bind fun x88 =>
        (A5 x88.2 30).bind fun x94 =>
        some (({ Op:=3,Column:=x80.1,Code:=0,Low:=(IntKind.i64.wrap (x84.Low + x88.1)),High:=(IntKind.i64.wrap ((IntKind.i64.wrap (x84.Low + x88.1)) + x94.1)),Kids:=[] }:Ag),x94.2)) fun r=>GE r.2∧RC s n r.1:=by
 refine Ok.bind (Mn hc hs) fun z hz=>?_
 obtain ⟨z1,z2⟩:=z
 obtain ⟨hz2,i,hzi,hi0,hi,hm⟩:=hz
 obtain rfl:z1 = (i:Int):=hzi
 refine Ok.idxn hi (Ok.bind (Gi hz2 (by omega) (by omega) (by omega) (by omega)) fun a ha=>Ok.bind (Dk ha.1 (by omega) (by omega)) fun b hb=>Ok.some ⟨hb.1,?_⟩)
 obtain ⟨l1,l2⟩:=hm.low
 obtain ⟨_,a1,a2⟩:=ha
 obtain ⟨_,b1,b2⟩:=hb
 have e1:IntKind.i64.wrap (s.Columns[i].Low + a.1) = s.Columns[i].Low + a.1:=wr (by omega) (by omega)
 rw [e1,wr (by omega) (by omega)]
 exact .between n i hi0 hi hm _ _ (by omega) (by omega) (by omega)
theorem ZI {c:Ab} (hc:GE c) (hs:DS s) (n:Nat):Ok (Dq s c) fun r=>GE r.2∧RC s n r.1:=by
 have miss:∀ {c:Ab},GE c→Ok ((B0 c s).bind fun x101 =>
  (idx s.Columns x101.1).bind fun x105 =>
  bif x105.Optional then
   some (({ Op:=4,Column:=x101.1,Code:=0,Low:=0,High:=0,Kids:=[] }:Ag),x101.2)
  else
   some (({ Op:=1,Column:=0,Code:=0,Low:=0,High:=0,Kids:=[] }:Ag),x101.2)) fun r=>GE r.2∧RC s n r.1:=by
  intro c hc
  refine Ok.bind (Mn hc hs) fun z hz=>?_
  obtain ⟨z1,z2⟩:=z
  obtain ⟨hz2,i,hzi,hi0,hi,hm⟩:=hz
  obtain rfl:z1 = (i:Int):=hzi
  exact Ok.idxn hi (Ok.br (fun ho=>Ok.some ⟨hz2,.miss n i hi0 hi hm ho⟩) fun _=>Ok.some ⟨hz2,.all n⟩)
 unfold Dq
 refine Ok.bind (Dk hc (by omega) (by omega)) fun y hy=>Ok.br (fun _=>?_) fun _=>Ok.br (fun _=>UY hy.1 hs n) fun _=>Ok.br (fun _=>UY hy.1 hs n) fun _=>Ok.br (fun _=>miss hy.1) fun _=>Ok.some ⟨hy.1,.all n⟩
 refine Ok.bind (ck hy.1 hs) fun z hz=>?_
 obtain ⟨z1,z2⟩:=z
 obtain ⟨hz2,i,hzi,hi0,hi,hm⟩:=hz
 obtain rfl:z1 = (i:Int):=hzi
 obtain ⟨L,hL,hL2⟩:=hs.clist hm
 have hne:=(K2 hL).some_
 have hlen:1≤L.Codes.length∧L.Codes.length≤1000:=by
  have:Su.all (fun L=>decide (1≤L.Codes.length) && decide (L.Codes.length≤1000)) = true:=by decide +kernel
  have:=List.all_eq_true.1 this L hL
  simpa using this
 refine Ok.idxn hi (Ok.bindE hL2 (Ok.bind (Dk hz2 (by omega) (by omega)) fun u hu=>Ok.some ⟨hu.1,.under n i hi0 hi hm L hL hL2 _ hu.2.1 hu.2.2⟩))
theorem Rw (hs:DS s):∀ (n d:Nat) {c:Ab},GE c→n < d→n≤1000→Ok (Cs d c s n) fun r=>GE r.2∧RC s n r.1
 | 0,d + 1,c,hc,_,_=>by
   show Ok (CW d (Cs d) c s 0) _
   unfold CW
   exact Ok.no rfl (ZI hc hs 0)
 | n + 1,d + 1,c,hc,hd,hn=>by
   have ih:=fun {c:Ab} (hc:GE c)=>Rw hs n d hc (by omega) (by omega)
   show Ok (CW d (Cs d) c s ((n + 1:Nat):Int)) _
   have e:IntKind.i64.wrap (((n + 1:Nat):Int) - 1) = (n:Int):=by rw [wr (by omega) (by omega)]; omega
   unfold CW
   rw [e]
   refine Ok.yes (decide_eq_true (by omega)) (Ok.bind (Dk hc (by omega) (by omega)) fun y hy=>Ok.br (fun _=>?_) fun _=>Ok.br (fun _=>?_) fun _=>Ok.br (fun _=>?_) fun _=>(ZI hy.1 hs _))
   ·exact Ok.bind (ih hy.1) fun a ha=>Ok.some ⟨ha.1,.not _ _ ha.2⟩
   ·exact Ok.bind (ih hy.1) fun a ha=>Ok.bind (ih ha.1) fun b hb=>Ok.some ⟨hb.1,.and _ _ _ ha.2 hb.2⟩
   ·exact Ok.bind (ih hy.1) fun a ha=>Ok.bind (ih ha.1) fun b hb=>Ok.some ⟨hb.1,.or _ _ _ ha.2 hb.2⟩
def QG:Nat→Int
 | 0=>1
 | n + 1=>1 + 2 * QG n
theorem Rz:∀ n,1≤QG n
 | 0=>by decide
 | n + 1=>by have:=Rz n; show 1≤1 + 2 * QG n; omega
theorem Sg:∀ n,n≤3→QG n≤15
 | 0,_=>by decide
 | 1,_=>by decide
 | 2,_=>by decide
 | 3,_=>by decide
 | n + 4,h=>by omega
theorem b6:∀ (n d:Nat) {c:Ag} {m:Int},RC s n c→n < d→n≤3→-1000≤m→m≤1000→Ok (E8 d c m) fun r=>1≤r∧r≤QG n
 | n,d + 1,c,m,h,hd,hn,hm0,hm1=>by
   obtain ⟨hk1,hk2⟩:=h.kids
   have hp:=Rz n
   have hl:=Sg n hn
   show Ok (EE d (E8 d) c m) _
   unfold EE
   cases n with
   | zero =>
     have e:c.Kids = []:=by
      cases hq:c.Kids with
      | nil=>rfl
      | cons a r=>obtain ⟨m,hm,_⟩:=hk2 a (by rw [hq]; simp); omega
     refine Ok.for (fun q=>q.2) 0 (fun _ q=>q.1 = 1) 0 (Nat.zero_le _) rfl rfl (by omega) (fun rec q hq hI=>?_) fun rec k q hk hq hI ih=>absurd hk (by omega)
     simp only [Ed,hq,hI,e]
     exact Ok.no rfl (Ok.some ⟨by omega,by decide⟩)
   | succ n =>
     have hl':=Sg n (by omega)
     have hp':=Rz n
     have hb:QG (n + 1) = 1 + 2 * QG n:=rfl
     refine Ok.for (fun q=>q.2) c.Kids.length (fun k q=>1≤q.1∧q.1≤1 + k * QG n) 0 (Nat.zero_le _) rfl ⟨by omega,by omega⟩ (by omega) (fun rec q hq hI=>?_) fun rec k q hk hq hI ih=>?_
     ·have h2:(c.Kids.length:Int) * QG n≤2 * QG n:=Int.mul_le_mul_of_nonneg_right (by omega) (by omega)
      simp only [Ed,hq]
      rw [AO (by omega)]
      exact Ok.some ⟨hI.1,by have:=hI.2; omega⟩
     ·have hk3:(k:Int) * QG n≤1 * QG n:=Int.mul_le_mul_of_nonneg_right (by omega) (by omega)
      have hk4:((k + 1:Nat):Int) * QG n = k * QG n + QG n:=by rw [Int.natCast_add,Int.add_mul]; simp
      have hk5:(0:Int)≤k * QG n:=Int.mul_nonneg (by omega) (by omega)
      obtain ⟨i1,i2⟩:=hI
      obtain ⟨m',hm',hr⟩:=hk2 _ (List.getElem_mem hk)
      obtain rfl:n = m':=by omega
      simp only [Ed,hq]
      rw [AC (by omega)]
      refine Ok.idxn hk (Ok.brd (fun _=>Ok.some ⟨i1,by omega⟩) fun hle=>?_)
      have e1:IntKind.i64.wrap (m - q.1) = m - q.1:=wr (by omega) (by omega)
      rw [e1]
      refine Ok.bind (b6 n d hr (by omega) (by omega) (by omega) (by omega)) fun r hr=>ih _ (CH (by omega)) ?_
      show 1≤IntKind.i64.wrap (q.1 + r)∧IntKind.i64.wrap (q.1 + r)≤1 + ((k + 1:Nat):Int) * QG n
      rw [wr (by omega) (by omega),hk4]
      omega
end Go.Proofs.YtejfnieiaecpkaaGreatDoor.P
namespace Go.Proofs.YtejfnieiaecpkaaGreatDoor.P
open Go Go.Abs Go.Proofs
set_option maxRecDepth 100000
variable {s:Aa}
theorem RC.nokids {c:Ag} (h:RC s 0 c):c.Kids = []:=by
 cases hq:c.Kids with
 | nil=>rfl
 | cons a r=>obtain ⟨m,hm,_⟩:=h.kids.2 a (by rw [hq]; simp); omega
theorem dL:∀ (n d:Nat) {c:Ag},RC s n c→n < d→n≤3→Ok (Fm d c) fun r=>1≤r∧r≤n + 1
 | n,d + 1,c,h,hd,hn=>by
   obtain ⟨hk1,hk2⟩:=h.kids
   show Ok (Fl d (Fm d) c) _
   unfold Fl
   refine Ok.for (fun q=>q.2) c.Kids.length (fun k q=>0≤q.1∧q.1≤n) 0 (Nat.zero_le _) rfl ⟨Int.le_refl _,by show (0:Int)≤n; omega⟩ (by omega) (fun rec q hq hI=>?_) fun rec k q hk hq hI ih=>?_
   ·simp only [GB,hq]
    rw [AO (by omega),wr (by omega) (by omega)]
    exact Ok.some ⟨by omega,by omega⟩
   ·obtain ⟨m,hm,hr⟩:=hk2 _ (List.getElem_mem hk)
    subst hm
    simp only [GB,hq]
    rw [AC (by omega)]
    refine Ok.idxn hk (Ok.bind (dL m d hr (by omega) (by omega)) fun r hr=>ih _ (CH (by omega)) ?_)
    show 0≤(if r > q.1 then r else q.1)∧(if r > q.1 then r else q.1)≤_
    split <;> omega
theorem Ya (hs:DS s) {n:Nat} {c:Ag} (h:RC s n c):Ee s c = some 0:=by
 have hc:=hs.cols_length
 refine Ok.val ?_
 unfold Ee
 have col:∀ (i:Nat),i < s.Columns.length→(bif decide ((i:Int) < 0) then true else decide ((i:Int) ≥ ((s.Columns.length:Nat):Int))) = false:=by
  intro i hi
  rw [decide_eq_false (by omega),decide_eq_false (by omega)]
  rfl
 cases h with
 | all=>exact Ok.no rfl (Ok.bindE (x:=0) rfl (Ok.no rfl (Ok.bindE (x:=true) rfl (Ok.no rfl (Ok.yes rfl (Ok.some rfl))))))
 | and=>exact Ok.no rfl (Ok.bindE (x:=2) rfl (Ok.no rfl (Ok.bindE (x:=true) rfl (Ok.no rfl (Ok.yes rfl (Ok.some rfl))))))
 | or=>exact Ok.no rfl (Ok.bindE (x:=2) rfl (Ok.no rfl (Ok.bindE (x:=true) rfl (Ok.no rfl (Ok.yes rfl (Ok.some rfl))))))
 | not=>exact Ok.no rfl (Ok.bindE (x:=1) rfl (Ok.no rfl (Ok.bindE (x:=true) rfl (Ok.no rfl (Ok.yes rfl (Ok.some rfl))))))
 | under n i hi0 hi h L hL hL2 k h0 h1 =>
   refine Ok.no rfl (Ok.bindE (x:=0) rfl (Ok.no rfl (Ok.bindE (x:=true) rfl (Ok.no rfl (Ok.no rfl (Ok.no (col i hi) ?_))))))
   unfold C8
   exact Ok.idxn hi (Ok.yes rfl (Ok.no (by rw [h.kind]; rfl) (Ok.no (decide_eq_false (by show ¬ k < 0; omega)) (Ok.bindE hL2 (Ok.no (decide_eq_false (by show ¬ k ≥ _; omega)) (Ok.some rfl))))))
 | between n i hi0 hi h l u h0 h1 h2 =>
   refine Ok.no rfl (Ok.bindE (x:=0) rfl (Ok.no rfl (Ok.bindE (x:=true) rfl (Ok.no rfl (Ok.no rfl (Ok.no (col i hi) ?_))))))
   unfold C8
   refine Ok.idxn hi (Ok.no rfl (Ok.yes rfl (Ok.no (by rw [h.kind]; rfl) (Ok.no ?_ (Ok.some rfl)))))
   show (bif (bif decide (l > u) then true else decide (l < -1000000)) then true else decide (u > 1000000)) = false
   rw [decide_eq_false (by omega),decide_eq_false (by omega),decide_eq_false (by omega)]
   rfl
 | miss n i hi0 hi h ho =>
   refine Ok.no rfl (Ok.bindE (x:=0) rfl (Ok.no rfl (Ok.bindE (x:=true) rfl (Ok.no rfl (Ok.no rfl (Ok.no (col i hi) ?_))))))
   unfold C8
   exact Ok.idxn hi (Ok.no rfl (Ok.no rfl (Ok.yes rfl (Ok.no (by rw [h.kind,ho]; rfl) (Ok.some rfl)))))
theorem Tl (hs:DS s):∀ (n d:Nat) {c:Ag},RC s n c→n < d→Do d s c = some 0
 | n,d + 1,c,h,hd=>by
   obtain ⟨hk1,hk2⟩:=h.kids
   refine Ok.val ?_
   show Ok (D6 d (Do d) s c) _
   unfold D6
   refine Ok.bindE (Ya hs h) (Ok.no rfl ?_)
   refine Ok.for (fun q=>q) c.Kids.length (fun _ _=>True) 0 (Nat.zero_le _) rfl trivial (by omega) (fun rec q hq hI=>?_) fun rec k q hk hq hI ih=>?_
   ·simp only [Eo,hq]
    rw [AO (by omega)]
    exact Ok.some rfl
   ·obtain ⟨m,hm,hr⟩:=hk2 _ (List.getElem_mem hk)
    subst hm
    simp only [Eo,hq]
    rw [AC (by omega)]
    exact Ok.idxn hk (Ok.bindE (Tl hs m d hr (by omega)) (Ok.no rfl (ih _ (CH (by omega)) trivial)))
theorem RC.check (hs:DS s) {n:Nat} {c:Ag} (h:RC s n c) (hn:n≤3) {d:Nat} (hd:n < d):BW d s c = some 0:=by
 have:=Sg n hn
 refine Ok.val ?_
 unfold BW
 exact Ok.bindE hs.check (Ok.no rfl (Ok.bind (b6 n d h hd hn (by omega) (by omega)) fun r hr=>Ok.no (decide_eq_false (by omega)) (Ok.bind (dL n d h hd hn) fun r hr=>Ok.no (decide_eq_false (by omega)) (Ok.bindE (Tl hs n d h hd) (Ok.some rfl)))))
theorem c7:∀ (n d:Nat) {c:Ag} {m:Int},RC s n c→n < d→n≤3→-1000≤m→m≤1000→Ok (I3 d c m) fun r=>1≤r∧r≤QG n
 | n,d + 1,c,m,h,hd,hn,hm0,hm1=>by
   obtain ⟨hk1,hk2⟩:=h.kids
   have hp:=Rz n
   have hl:=Sg n hn
   show Ok (H8 d (I3 d) c m) _
   unfold H8
   cases n with
   | zero =>
     refine Ok.for (fun q=>q.2) 0 (fun _ q=>q.1 = 1) 0 (Nat.zero_le _) rfl rfl (by omega) (fun rec q hq hI=>?_) fun rec k q hk hq hI ih=>absurd hk (by omega)
     simp only [GO,hq,hI,h.nokids]
     exact Ok.no rfl (Ok.some ⟨by omega,by decide⟩)
   | succ n =>
     have hl':=Sg n (by omega)
     have hp':=Rz n
     have hb:QG (n + 1) = 1 + 2 * QG n:=rfl
     refine Ok.for (fun q=>q.2) c.Kids.length (fun k q=>1≤q.1∧q.1≤1 + k * QG n) 0 (Nat.zero_le _) rfl ⟨by omega,by omega⟩ (by omega) (fun rec q hq hI=>?_) fun rec k q hk hq hI ih=>?_
     ·have h2:(c.Kids.length:Int) * QG n≤2 * QG n:=Int.mul_le_mul_of_nonneg_right (by omega) (by omega)
      simp only [GO,hq]
      refine Ok.no ?_ (Ok.some ⟨hI.1,by have:=hI.2; omega⟩)
      rw [decide_eq_false (by omega)]; rfl
     ·have hk3:(k:Int) * QG n≤1 * QG n:=Int.mul_le_mul_of_nonneg_right (by omega) (by omega)
      have hk4:((k + 1:Nat):Int) * QG n = k * QG n + QG n:=by rw [Int.natCast_add,Int.add_mul]; simp
      have hk5:(0:Int)≤k * QG n:=Int.mul_nonneg (by omega) (by omega)
      obtain ⟨i1,i2⟩:=hI
      obtain ⟨m',hm',hr⟩:=hk2 _ (List.getElem_mem hk)
      obtain rfl:n = m':=by omega
      simp only [GO,hq]
      rw [decide_eq_true (show ((k:Nat):Int) < c.Kids.length by omega),cond_true]
      refine Ok.brd (fun _=>?_) fun hle=>Ok.some ⟨i1,by omega⟩
      refine Ok.idxn hk ?_
      have e1:IntKind.i64.wrap (m - q.1) = m - q.1:=wr (by omega) (by omega)
      rw [e1]
      refine Ok.bind (c7 n d hr (by omega) (by omega) (by omega) (by omega)) fun r hr=>ih _ (CH (by omega)) ?_
      show 1≤IntKind.i64.wrap (q.1 + r)∧IntKind.i64.wrap (q.1 + r)≤1 + ((k + 1:Nat):Int) * QG n
      rw [wr (by omega) (by omega),hk4]
      omega
theorem cJ:∀ (n d:Nat) {c:Ag},RC s n c→n < d→n≤3→Ok (Iy d c) fun r=>1≤r∧r≤n + 1
 | n,d + 1,c,h,hd,hn=>by
   obtain ⟨hk1,hk2⟩:=h.kids
   show Ok (Hx d (Iy d) c) _
   unfold Hx
   refine Ok.for (fun q=>q.2) c.Kids.length (fun k q=>0≤q.1∧q.1≤n) 0 (Nat.zero_le _) rfl ⟨Int.le_refl _,by show (0:Int)≤n; omega⟩ (by omega) (fun rec q hq hI=>?_) fun rec k q hk hq hI ih=>?_
   ·simp only [Jd,hq]
    rw [AO (by omega),wr (by omega) (by omega)]
    exact Ok.some ⟨by omega,by omega⟩
   ·obtain ⟨m,hm,hr⟩:=hk2 _ (List.getElem_mem hk)
    subst hm
    simp only [Jd,hq]
    rw [AC (by omega)]
    refine Ok.idxn hk (Ok.bind (cJ m d hr (by omega) (by omega)) fun r hr=>ih _ (CH (by omega)) ?_)
    show 0≤(if r > q.1 then r else q.1)∧(if r > q.1 then r else q.1)≤_
    split <;> omega
theorem bz {i:Nat} (hi:i < s.Columns.length) (k:Int):L5 s i k = some (s.Columns[i].Kind==k):=by
 refine Ok.val ?_
 unfold L5
 refine Ok.yes ?_ (Ok.idxn hi (Ok.some rfl))
 rw [decide_eq_true (by omega),decide_eq_true (by omega)]; rfl
theorem aV {self:Aa→Ag→Option Int} {c:Ag} (h:c.Kids.length≤2) (hk:∀ k∈c.Kids,self s k = some 0):iter (fun rec1 s_1=>HD c self s (fun v7_1=>some 0) rec1 s_1) A6 0 = some 0:=by
 refine Ok.val ?_
 refine Ok.for (fun q=>q) c.Kids.length (fun _ _=>True) 0 (Nat.zero_le _) rfl trivial (by omega) (fun rec q hq hI=>?_) fun rec k q hk2 hq hI ih=>?_
 ·simp only [HD,hq]
  rw [AO (by omega)]
  exact Ok.some rfl
 ·simp only [HD,hq]
  rw [AC (by omega)]
  exact Ok.idxn hk2 (Ok.bindE (hk _ (List.getElem_mem hk2)) (Ok.no rfl (ih _ (CH (by omega)) trivial)))
theorem dC (hs:DS s):∀ (n d:Nat) {c:Ag},RC s n c→n < d→GZ d s c = some 0
 | n,d + 1,c,h,hd=>by
   obtain ⟨hk1,hk2⟩:=h.kids
   have hkid:∀ k∈c.Kids,GZ d s k = some 0:=fun k hk=>by
    obtain ⟨m,hm,hr⟩:=hk2 k hk
    subst hm
    exact dC hs m d hr (by omega)
   have last:=aV (s:=s) (self:=GZ d) hk1 hkid
   refine Ok.val ?_
   show Ok (Ja d (GZ d) s c) _
   unfold Ja
   cases h with
   | all =>
     refine Ok.yes rfl ?_
     unfold BB
     refine Ok.no rfl (Ok.no rfl (Ok.no rfl (Ok.no rfl ?_)))
     unfold Ca
     refine Ok.no rfl ?_
     unfold CC
     exact Ok.no rfl (Ok.eq last)
   | and =>
     refine Ok.no rfl (Ok.no rfl (Ok.no rfl (Ok.no rfl (Ok.yes rfl ?_))))
     unfold BB
     refine Ok.no rfl (Ok.no rfl (Ok.no rfl (Ok.no rfl ?_)))
     unfold Ca
     refine Ok.no rfl ?_
     unfold CC
     exact Ok.no rfl (Ok.eq last)
   | or =>
     refine Ok.no rfl (Ok.no rfl (Ok.no rfl (Ok.no rfl (Ok.no rfl (Ok.yes rfl ?_)))))
     unfold BB
     refine Ok.no rfl (Ok.no rfl (Ok.no rfl (Ok.no rfl ?_)))
     unfold Ca
     refine Ok.no rfl ?_
     unfold CC
     exact Ok.no rfl (Ok.eq last)
   | not =>
     refine Ok.no rfl (Ok.no rfl (Ok.no rfl (Ok.no rfl (Ok.no rfl (Ok.no rfl (Ok.yes rfl ?_))))))
     unfold BB
     refine Ok.no rfl (Ok.no rfl (Ok.no rfl (Ok.no rfl ?_)))
     unfold Ca
     refine Ok.no rfl ?_
     unfold CC
     exact Ok.no rfl (Ok.eq last)
   | under n i hi0 hi h L hL hL2 k h0 h1 =>
     refine Ok.no rfl (Ok.yes rfl ?_)
     unfold BB
     refine Ok.no (by simp) (Ok.yes rfl (Ok.bindE (bz hi 2) (Ok.no (by rw [h.kind]; rfl) ?_)))
     unfold Ca
     refine Ok.yes rfl (Ok.no (decide_eq_false (by show ¬ k < 0; omega)) (Ok.idxn hi (Ok.bindE hL2 (Ok.no (decide_eq_false (by show ¬ k ≥ _; omega)) ?_))))
     unfold CC
     exact Ok.no rfl (Ok.eq last)
   | between n i hi0 hi h l u h0 h1 h2 =>
     refine Ok.no rfl (Ok.no rfl (Ok.yes rfl ?_))
     unfold BB
     refine Ok.no (by simp) (Ok.no rfl (Ok.yes rfl (Ok.bindE (bz hi 3) (Ok.no (by rw [h.kind]; rfl) ?_))))
     unfold Ca
     refine Ok.no rfl ?_
     unfold CC
     refine Ok.no ?_ (Ok.eq last)
     show (bif true then (bif (bif decide (l < -1000000) then true else decide (u > 1000000)) then true else decide (l > u)) else false) = false
     rw [decide_eq_false (by omega),decide_eq_false (by omega),decide_eq_false (by omega)]
     rfl
   | miss n i hi0 hi h ho =>
     refine Ok.no rfl (Ok.no rfl (Ok.no rfl (Ok.yes rfl ?_)))
     unfold BB
     refine Ok.no (by simp) (Ok.no rfl (Ok.no rfl (Ok.yes rfl (Ok.bindE (bz hi 3) (Ok.no (by rw [h.kind]; rfl) (Ok.idxn hi (Ok.no (by rw [ho]; rfl) ?_)))))))
     unfold Ca
     refine Ok.no rfl ?_
     unfold CC
     exact Ok.no rfl (Ok.eq last)
theorem RC.rcheck (hs:DS s) {n:Nat} {c:Ag} (h:RC s n c) (hn:n≤3) {d:Nat} (hd:n < d):Ce d s c = some 0:=by
 have:=Sg n hn
 refine Ok.val ?_
 unfold Ce
 exact Ok.bindE hs.rcheck (Ok.no rfl (Ok.bind (c7 n d h hd hn (by omega) (by omega)) fun r hr=>Ok.no (decide_eq_false (by omega)) (Ok.bind (cJ n d h hd hn) fun r hr=>Ok.no (decide_eq_false (by omega)) (Ok.bindE (dC hs n d h hd) (Ok.some rfl)))))
end Go.Proofs.YtejfnieiaecpkaaGreatDoor.P
namespace Go.Proofs.YtejfnieiaecpkaaGreatDoor.P
open Go Go.Abs Go.Proofs
set_option maxRecDepth 100000
variable {s:Aa}
theorem RZ {α β:Type} {l:List α} {i:Int} {f g:α→Option β} (h:∀ x∈l,f x = g x):(idx l i).bind f = (idx l i).bind g:=by
 cases e:idx l i with
 | none=>rfl
 | some x =>
   have:x∈l:=by
    unfold idx at e
    split at e
    ·exact List.mem_of_getElem? e
    ·cases e
   exact h x this
def aU (i:Nat) (k:Int):Ag:={ Op:=2,Column:=i,Code:=k,Low:=0,High:=0,Kids:=[] }
def Rt (L:Am) (k v:Int):Option Int:=(K3 L v k).bind fun x=>(Dg x).bind fun y=>some y
def Yo (L:Am) (k v:Int):Option Int:=(Ky L v k).bind fun x=>bif x then some 1 else some (-1)
def tC (L:Am) (k v:Int):Int:=(Rt L k v).getD 0
def sB (L:Am) (l k:Int) (rec1:(Int × List (Int × Int))→Option Bool) (v:Int) (b:List (Int × Int)):Option Bool :=
 bif (decide (v < (((Bg L).length:Nat):Int))) then
  (idx (Bg L) v).bind fun x43=>(Gh L x43 l).bind fun x48=>(Rt L k x43).bind fun x52 =>
  bif (bif ((IS x48 b).isSome) then (((IS x48 b).getD 0) != x52) else false) then some false else rec1 ((IntKind.i64.wrap (v + 1)),(Ug x48 x52 b))
 else some true
def KS (L:Am) (k l:Int):Option Bool:=iter (fun rec1 s=>sB L l k rec1 s.1 s.2) A6 (0,[])
def fL (L:Am) (l k v9:Int) (kont:Int→Option Bool) (rec2:Int→Option Bool) (v10:Int):Option Bool :=
 bif (decide (v10 < v9)) then
  (idx (Bg L) v9).bind fun x44=>(some (cv L l x44)).bind fun x46=>(idx (Bg L) v10).bind fun x53=>(some (cv L l x53)).bind fun x55 =>
  bif (x46==x55) then
   (idx (Bg L) v9).bind fun x62=>(Yo L k x62).bind fun x64=>(idx (Bg L) v10).bind fun x69=>(Yo L k x69).bind fun x71 =>
   bif (x64 != x71) then some false else rec2 (IntKind.i64.wrap (v10 + 1))
  else rec2 (IntKind.i64.wrap (v10 + 1))
 else kont v10
def cX (L:Am) (k l:Int):Option Bool:=iter (fun rec1 v9=>bif (decide (v9 < (((Bg L).length:Nat):Int))) then iter (fun rec2 s=>fL L l k v9 (fun _=>rec1 (IntKind.i64.wrap (v9 + 1))) rec2 s) A6 0 else some true) A6 0
def Xy (L:Am) (l val:Int):Option Int:=iter (fun rec1 v=>bif (decide (v < (((Bg L).length:Nat):Int))) then
    (idx (Bg L) v).bind fun x37=>(some (cv L l x37)).bind fun x39=>bif (x39==val) then (idx (Bg L) v).bind fun x44=>some x44 else rec1 (IntKind.i64.wrap (v + 1))
 else some (-1)) A6 0
def e9 (L:Am) (l v:Int):Int:=((VC L l (cv L l v)).getD (0,false)).1
def fx (L:Am) (l v:Int):Int:=(Xy L l (cv L l v)).getD (-1)
def eC (L:Am):List Int:=(List.range (Hs L).toNat).map fun l:Nat=>(l:Int)
def fT (L:Am):List Int:=(List.range L.Codes.length).map fun l:Nat=>(l:Int)
def XB (L:Am) (k l:Int):Bool :=
 (KS L k l==cX L k l) && (KS L k l).isSome && (bif KS L k l==some true then
  ((Bg L).all fun v=>Rt L k v==some (tC L k v) && Rt L k (e9 L l v)==some (tC L k v) && Yo L k (fx L l v)==some (tC L k v) && (Xy L l (cv L l v)).isSome) &&
  ((eC L).all fun l'=>decide (l' < l) || KS L k l'==some true) else true)
theorem Q0:(Su.all fun L=>((Bg L).all fun v=>cv L 0 v==0) && (fT L).all fun k=>(KS L k (Hs L - 1)==some true) && (eC L).all fun l=>XB L k l) = true:=by decide +kernel
theorem dF {i:Nat} (hi:i < s.Columns.length) {L:Am} (hL2:idx s.Lists s.Columns[i].List_ = some L) (k v:Int):By s (aU i k) v = Rt L k v:=by
 unfold By
 show (idx s.Columns (i:Int)).bind _ = _
 rw [C4 hi,Option.bind_some,hL2]
 rfl
theorem dM {i:Nat} (hi:i < s.Columns.length) {L:Am} (hL2:idx s.Lists s.Columns[i].List_ = some L) (k v:Int):Bt s (aU i k) v = Yo L k v:=by
 unfold Bt
 show (idx s.Columns (i:Int)).bind _ = _
 rw [C4 hi,Option.bind_some,hL2]
 rfl
theorem f0 {i:Nat} (hi:i < s.Columns.length) {L:Am} (hL:L∈Su) (hL2:idx s.Lists s.Columns[i].List_ = some L) (k l:Int):Bd s (aU i k) l = KS L k l:=by
 have hcl:=K2 hL
 have h2:=hcl.lev2; have h3:=hcl.lev3
 unfold Bd
 show (idx s.Columns (i:Int)).bind _ = _
 rw [C4 hi,Option.bind_some]
 show (idx s.Lists s.Columns[i].List_).bind _ = _
 rw [hL2,Option.bind_some,hcl.lev,Option.bind_some,wr (by omega) (by omega),hcl.leaves,Option.bind_some]
 unfold KS
 congr 1
 funext rec1 st
 unfold G6 sB
 simp only [dF hi hL2]
theorem rleaves {i:Nat} (hi:i < s.Columns.length) {L:Am} (hL:L∈Su) (hL2:idx s.Lists s.Columns[i].List_ = some L):Cg s i = some (Bg L):=by
 have hcl:=K2 hL
 have h2:=hcl.lev2; have h3:=hcl.lev3
 unfold Cg
 rw [C4 hi,Option.bind_some,hL2,Option.bind_some,hcl.rlev,Option.bind_some,wr (by omega) (by omega),hcl.rleaves]
 rfl
theorem bR {i:Nat} {hi:i < s.Columns.length} (h:It s.Columns[i]) {L:Am} (hL:L∈Su) (hL2:idx s.Lists s.Columns[i].List_ = some L) {v:Int} (hv:v∈Bg L):Wc s s.Columns[i] v:=.inr (.inl ⟨h.kind,L,hL,hL2,hv⟩)
theorem S2 (hs:DS s) {i:Nat} (h0:1≤i) (hi:i < s.Columns.length) (h:It s.Columns[i]) {L:Am} (hL:L∈Su) (hL2:idx s.Lists s.Columns[i].List_ = some L) {l v:Int} (hl0:0≤l) (hl1:l≤fin s i) (hv:v∈Bg L):AP s i l v = some (cv L l v):=by
 rw [RD hs h0 hi hl0 hl1 (bR h hL hL2 hv),TD h hL2]
theorem fF (hs:DS s) {i:Nat} (h0:1≤i) (hi:i < s.Columns.length) (h:It s.Columns[i]) {L:Am} (hL:L∈Su) (hL2:idx s.Lists s.Columns[i].List_ = some L) (k:Int) {l:Int} (hl0:0≤l) (hl1:l≤fin s i):CG s (aU i k) l = cX L k l:=by
 unfold CG
 show (idx s.Columns (i:Int)).bind _ = _
 rw [C4 hi,Option.bind_some]
 show (Cg s (i:Int)).bind _ = _
 rw [rleaves hi hL hL2,Option.bind_some]
 unfold cX
 congr 1
 funext rec1 v9
 unfold JY
 congr 2
 funext rec2 v10
 unfold JD fL
 congr 1
 refine RZ fun x hx=>?_
 show (AP s (i:Int) l x).bind _ = _
 rw [S2 hs h0 hi h hL hL2 hl0 hl1 hx]
 simp only [Option.bind_some]
 refine RZ fun y hy=>?_
 show (AP s (i:Int) l y).bind _ = _
 rw [S2 hs h0 hi h hL hL2 hl0 hl1 hy]
 simp only [Option.bind_some,dM hi hL2]
theorem dt (hs:DS s) {i:Nat} (h0:1≤i) (hi:i < s.Columns.length) (h:It s.Columns[i]) {L:Am} (hL:L∈Su) (hL2:idx s.Lists s.Columns[i].List_ = some L) {l:Int} (hl0:0≤l) (hl1:l≤fin s i) (val:Int):CM s i l val = Xy L l val:=by
 unfold CM
 rw [C4 hi,Option.bind_some,h.kind]
 show (Cg s (i:Int)).bind _ = _
 rw [rleaves hi hL hL2,Option.bind_some]
 unfold Xy
 congr 1
 funext rec1 v
 unfold MU
 congr 1
 refine RZ fun x hx=>?_
 rw [S2 hs h0 hi h hL hL2 hl0 hl1 hx]
theorem cm {i:Nat} (hi:i < s.Columns.length) (h:It s.Columns[i]) {L:Am} (hL2:idx s.Lists s.Columns[i].List_ = some L):fin s i = Hs L - 1:=by rw [DF hi,Iv h hL2]
structure CF (L:Am) (k l:Int):Prop where
 same:KS L k l = cX L k l
 ex:∃ b,KS L k l = some b
 val:KS L k l = some true→∀ v∈Bg L,Rt L k v = some (tC L k v)∧Rt L k (e9 L l v) = some (tC L k v)∧∃ u,Xy L l (cv L l v) = some u∧Yo L k u = some (tC L k v)
 up:KS L k l = some true→∀ l',l≤l'→l' < Hs L→KS L k l' = some true
theorem cf {L:Am} (hL:L∈Su) {k l:Int} (k0:0≤k) (k1:k < L.Codes.length) (l0:0≤l) (l1:l < Hs L):CF L k l:=by
 have h:=List.all_eq_true.1 Q0 L hL
 rw [Bool.and_eq_true] at h
 have h:=List.all_eq_true.1 h.2 k (List.mem_map.2 ⟨k.toNat,List.mem_range.2 (by omega),by omega⟩)
 rw [Bool.and_eq_true] at h
 have memL:∀ {l:Int},0≤l→l < Hs L→l∈eC L:=fun a b=>List.mem_map.2 ⟨_,List.mem_range.2 (by omega),Int.toNat_of_nonneg a⟩
 have h:=List.all_eq_true.1 h.2 l (memL l0 l1)
 unfold XB at h
 simp only [Bool.and_eq_true,beq_iff_eq] at h
 obtain ⟨⟨h1,h2⟩,h3⟩:=h
 refine ⟨h1,Option.isSome_iff_exists.1 h2,fun e v hv=>?_,fun e l' a b=>?_⟩
 ·rw [e] at h3
  simp only [beq_self_eq_true,cond_true,Bool.and_eq_true] at h3
  have:=List.all_eq_true.1 h3.1 v hv
  simp only [Bool.and_eq_true,beq_iff_eq] at this
  obtain ⟨⟨⟨a,b⟩,c⟩,d⟩:=this
  obtain ⟨u,hu⟩:=Option.isSome_iff_exists.1 d
  refine ⟨a,b,u,hu,?_⟩
  unfold fx at c
  rw [hu] at c
  exact c
 ·rw [e] at h3
  simp only [beq_self_eq_true,cond_true,Bool.and_eq_true] at h3
  have:=List.all_eq_true.1 h3.2 l' (memL (by omega) b)
  simp only [Bool.or_eq_true,decide_eq_true_eq,beq_iff_eq] at this
  exact this.resolve_left (by omega)
theorem eM {L:Am} (hL:L∈Su) {k:Int} (k0:0≤k) (k1:k < L.Codes.length):KS L k (Hs L - 1) = some true:=by
 have h:=List.all_eq_true.1 Q0 L hL
 rw [Bool.and_eq_true] at h
 have h:=List.all_eq_true.1 h.2 k (List.mem_map.2 ⟨k.toNat,List.mem_range.2 (by omega),by omega⟩)
 rw [Bool.and_eq_true] at h
 simpa using h.1
theorem cT {L:Am} (hL:L∈Su) {v:Int} (hv:v∈Bg L):cv L 0 v = 0:=by
 have h:=List.all_eq_true.1 Q0 L hL
 rw [Bool.and_eq_true] at h
 simpa using List.all_eq_true.1 h.1 v hv
end Go.Proofs.YtejfnieiaecpkaaGreatDoor.P
namespace Go.Proofs.YtejfnieiaecpkaaGreatDoor.P
open Go Go.Abs Go.Proofs
set_option maxRecDepth 100000
variable {s:Aa}
def aB (i:Nat) (lo hi:Int):Ag:={ Op:=3,Column:=i,Code:=0,Low:=lo,High:=hi,Kids:=[] }
def aM (i:Nat):Ag:={ Op:=4,Column:=i,Code:=0,Low:=0,High:=0,Kids:=[] }
def SF (c:Av) (lo hi l:Int):Prop :=
 (l = 0→c.Optional = false)∧(lo≤c.High→c.Low≤hi→(l = 0→lo≤c.Low∧c.High≤hi)∧(l≠0→(lo≤c.Low∨lo % DB c l = 0)∧(c.High≤hi∨(hi + 1) % DB c l = 0)))
theorem XA {n w:Int} (hw:1≤w) (hw2:w≤1000000) (h0:-100000000≤n) (h1:n≤100000000):D5 n w = some (n - n % w):=NA hw hw2 h0 h1
theorem ez {c:Av} (h:Ci c) {l:Int} (h0:1≤l) (h1:l≤c.Widths.length):Gt c l = some (DB c l):=by unfold Gt; rw [WX h h0 h1]; rfl
theorem eT {i:Nat} (hi:i < s.Columns.length) (h:Ci s.Columns[i]) {lo up l:Int} (a0:-100≤lo) (a1:lo≤up) (a2:up≤100) (h0:0≤l) (h1:l≤s.Columns[i].Widths.length):Ok (Bd s (aB i lo up) l) fun b=>(b = true↔SF s.Columns[i] lo up l):=by
 obtain ⟨l1,l2⟩:=h.low
 obtain ⟨l3,l4⟩:=h.high
 unfold Bd
 refine Ok.idxn hi (Ok.no rfl (Ok.br (fun e=>Ok.some ?_) fun e=>Ok.no rfl ?_))
 ·have e0:l = 0∧s.Columns[i].Optional = true:=by
   by_cases hz:l = 0
   ·subst hz; exact ⟨rfl,e⟩
   ·have:(l==0) = false:=by simpa using hz
    rw [this] at e; cases e
  refine ⟨(fun x=>by cases x),fun x=>?_⟩
  have:=x.1 e0.1
  rw [e0.2] at this
  cases this
 have e0:l = 0→s.Columns[i].Optional = false:=by
  intro hz
  subst hz
  exact e
 show Ok (bif decide ((if s.Columns[i].Low > lo then s.Columns[i].Low else lo) > (if s.Columns[i].High < up then s.Columns[i].High else up)) then some true else bif (l==0) then some (bif ((if s.Columns[i].Low > lo then s.Columns[i].Low else lo)==s.Columns[i].Low) then ((if s.Columns[i].High < up then s.Columns[i].High else up)==s.Columns[i].High) else false) else _) _
 have hx:(if s.Columns[i].Low > lo then s.Columns[i].Low else lo) = max s.Columns[i].Low lo:=by split <;> omega
 have hn:(if s.Columns[i].High < up then s.Columns[i].High else up) = min s.Columns[i].High up:=by split <;> omega
 simp only [show (aB i lo up).Low = lo from rfl,show (aB i lo up).High = up from rfl,hx,hn]
 generalize s.Columns[i] = c at *
 refine Ok.brd (fun hm=>Ok.some ⟨fun _=>⟨e0,fun _ _=>by omega⟩,fun _=>rfl⟩) fun hm=>Ok.br (fun hz=>Ok.some ?_) fun hz=>?_
 ·have hz:l = 0:=by simpa using hz
  constructor
  ·intro hb
   refine ⟨e0,fun _ _=>⟨fun _=>?_,fun hn=>absurd hz hn⟩⟩
   by_cases e1:max c.Low lo = c.Low
   ·rw [e1,beq_self_eq_true,cond_true] at hb
    have:=(beq_iff_eq.1 hb)
    omega
   ·have:(max c.Low lo==c.Low) = false:=by simpa using e1
    rw [this] at hb; cases hb
  ·intro hs
   have:=(hs.2 (by omega) (by omega)).1 hz
   rw [show max c.Low lo = c.Low by omega,show min c.High up = c.High by omega,beq_self_eq_true,beq_self_eq_true]
   rfl
 ·have hz:l≠0:=by simpa using hz
  have hw:=E2 h (l:=l) (by omega) h1
  have key:∀ b:Bool,(b = true↔(lo≤c.Low∨lo % DB c l = 0)∧(c.High≤up∨(up + 1) % DB c l = 0))→(b = true↔SF c lo up l):=by
   intro b hb
   rw [hb]
   exact ⟨fun hs=>⟨e0,fun _ _=>⟨fun hh=>absurd hh hz,fun _=>hs⟩⟩,fun hs=>(hs.2 (by omega) (by omega)).2 hz⟩
  have hi2:c.High≤up→(min c.High up==c.High) = true:=fun hh=>by rw [show min c.High up = c.High by omega,beq_self_eq_true]
  refine Ok.bindE (ez h (by omega) h1) ?_
  have ew:IntKind.i64.wrap (min c.High up + 1) = min c.High up + 1:=wr (by omega) (by omega)
  have dn:D5 (min c.High up + 1) (DB c l) = some (min c.High up + 1 - (min c.High up + 1) % DB c l):=XA hw.1 (by omega) (by omega) (by omega)
  have dx:D5 (max c.Low lo) (DB c l) = some (max c.Low lo - max c.Low lo % DB c l):=XA hw.1 (by omega) (by omega) (by omega)
  rw [ew,dn,dx]
  refine Ok.br (fun e1=>?_) fun e1=>?_
  ·have e1:max c.Low lo = c.Low:=by simpa using e1
   refine Ok.br (fun e2=>Ok.some (key _ ?_)) fun e2=>Ok.bindE rfl (Ok.some (key _ ?_))
   ·have e2:min c.High up = c.High:=by simpa using e2
    exact ⟨fun _=>⟨.inl (by omega),.inl (by omega)⟩,fun _=>rfl⟩
   ·have e2:min c.High up≠c.High:=by simpa using e2
    rw [show min c.High up = up by omega,beq_iff_eq]
    constructor
    ·intro q; exact ⟨.inl (by omega),.inr (by omega)⟩
    ·rintro ⟨_,q | q⟩ <;> omega
  ·have e1:max c.Low lo≠c.Low:=by simpa using e1
   rw [show max c.Low lo = lo by omega]
   refine Ok.bindE rfl (Ok.br (fun e3=>Ok.br (fun e2=>Ok.some (key _ ?_)) fun e2=>Ok.bindE rfl (Ok.some (key _ ?_))) fun e3=>Ok.some (key _ ?_))
   ·have e2:min c.High up = c.High:=by simpa using e2
    have e3:=beq_iff_eq.1 e3
    exact ⟨fun _=>⟨.inr (by omega),.inl (by omega)⟩,fun _=>rfl⟩
   ·have e2:min c.High up≠c.High:=by simpa using e2
    have e3:=beq_iff_eq.1 e3
    rw [show min c.High up = up by omega,beq_iff_eq]
    constructor
    ·intro q; exact ⟨.inr (by omega),.inr (by omega)⟩
    ·rintro ⟨_,q | q⟩ <;> omega
   ·have e3:¬ (lo - lo % DB c l = lo):=by simpa using e3
    constructor
    ·intro q; cases q
    ·rintro ⟨q | q,_⟩ <;> omega
theorem fz {i:Nat} (hi:i < s.Columns.length) (h:Ci s.Columns[i]) {lo up l:Int} (a0:-100≤lo) (a1:lo≤up) (a2:up≤100) (h0:0≤l) (h1:l≤s.Columns[i].Widths.length):Ok (CG s (aB i lo up) l) fun b=>(b = true↔SF s.Columns[i] lo up l):=by
 obtain ⟨l1,l2⟩:=h.low
 obtain ⟨l3,l4⟩:=h.high
 unfold CG
 refine Ok.idxn hi (Ok.no rfl (Ok.no rfl ?_))
 simp only [show (aB i lo up).Low = lo from rfl,show (aB i lo up).High = up from rfl]
 generalize s.Columns[i] = c at *
 have hf:∀ b:Bool,(bif decide (lo > c.Low) then decide (lo≤c.High) else false) = b→(b = true↔lo > c.Low∧lo≤c.High):=by
  intro b hb; subst hb
  by_cases e:lo > c.Low
  ·rw [decide_eq_true e,cond_true,decide_eq_true_iff]; exact ⟨fun x=>⟨e,x⟩,fun x=>x.2⟩
  ·rw [decide_eq_false e,cond_false]; exact ⟨fun x=>(by cases x),fun x=>absurd x.1 e⟩
 have hg:∀ b:Bool,(bif decide (up ≥ c.Low) then decide (up < c.High) else false) = b→(b = true↔up ≥ c.Low∧up < c.High):=by
  intro b hb; subst hb
  by_cases e:up ≥ c.Low
  ·rw [decide_eq_true e,cond_true,decide_eq_true_iff]; exact ⟨fun x=>⟨e,x⟩,fun x=>x.2⟩
  ·rw [decide_eq_false e,cond_false]; exact ⟨fun x=>(by cases x),fun x=>absurd x.1 e⟩
 generalize hF:(bif decide (lo > c.Low) then decide (lo≤c.High) else false) = F at *
 generalize hG:(bif decide (up ≥ c.Low) then decide (up < c.High) else false) = G at *
 have hF:=hf F rfl
 have hG:=hg G rfl
 refine Ok.br (fun hz=>Ok.some ?_) fun hz=>?_
 ·have hz:l = 0:=by simpa using hz
  subst hz
  cases ho:c.Optional <;> cases F <;> cases G <;> simp at hF hG ⊢
  all_goals first
   | (intro hs; exact absurd (ho.symm.trans (hs.1 rfl)) (by decide))
   | (intro hs; have:=(hs.2 (by omega) (by omega)).1 rfl; omega)
   | exact ⟨fun _=>ho,fun _ _=>⟨fun _=>by omega,fun hn=>absurd rfl hn⟩⟩
 ·have hz:l≠0:=by simpa using hz
  have hw:=E2 h (l:=l) (by omega) h1
  have key:∀ b:Bool,(b = true↔(lo≤c.High→c.Low≤up→(lo≤c.Low∨lo % DB c l = 0)∧(c.High≤up∨(up + 1) % DB c l = 0)))→(b = true↔SF c lo up l):=by
   intro b hb
   rw [hb]
   exact ⟨fun hs=>⟨fun hh=>absurd hh hz,fun p q=>⟨fun hh=>absurd hh hz,fun _=>hs p q⟩⟩,fun hs p q=>(hs.2 p q).2 hz⟩
  have tm:∀ n:Int,(Int.tmod n (DB c l)==0) = true↔n % DB c l = 0:=by
   intro n
   have:=LW n hw.1
   have h3:=Int.emod_nonneg n (by omega:DB c l≠0)
   have h4:=Int.emod_lt_of_pos n (by omega:0 < DB c l)
   rw [beq_iff_eq]
   exact ⟨fun q=>by omega,fun q=>Int.tmod_eq_zero_of_dvd (Int.dvd_of_emod_eq_zero q)⟩
  refine Ok.bindE (Zp h (by omega) h1) ?_
  rw [wr (n:=up + 1) (by omega) (by omega)]
  have hne:DB c l≠0:=by omega
  refine Ok.br (fun e1=>Ok.br (fun e2=>Ok.some (key _ ?_)) fun e2=>Ok.gdd hne (Ok.some (key _ ?_))) fun e1=>Ok.gdd hne (Ok.br (fun e3=>Ok.br (fun e2=>Ok.some (key _ ?_)) fun e2=>Ok.gdd hne (Ok.some (key _ ?_))) fun e3=>Ok.some (key _ ?_))
  ·cases F <;> cases G <;> simp at hF hG e1 e2
   exact ⟨fun _ p q=>⟨.inl (by omega),.inl (by omega)⟩,fun _=>rfl⟩
  ·cases F <;> cases G <;> simp at hF hG e1 e2
   rw [tm]
   exact ⟨fun z p q=>⟨.inl (by omega),.inr z⟩,fun z=>((z (by omega) (by omega)).2).resolve_left (by omega)⟩
  ·have e3:=(tm lo).1 e3
   cases F <;> cases G <;> simp at hF hG e1 e2
   exact ⟨fun _ p q=>⟨.inr e3,.inl (by omega)⟩,fun _=>rfl⟩
  ·have e3:=(tm lo).1 e3
   cases F <;> cases G <;> simp at hF hG e1 e2
   rw [tm]
   exact ⟨fun z p q=>⟨.inr e3,.inr z⟩,fun z=>((z (by omega) (by omega)).2).resolve_left (by omega)⟩
  ·have e3:¬ (lo % DB c l = 0):=fun z=>by rw [(tm lo).2 z] at e3; cases e3
   cases F <;> simp at hF e1
   refine ⟨(fun z=>by cases z),fun z=>?_⟩
   have:=(z (by omega) (by omega)).1
   omega
theorem en {i:Nat} (hi:i < s.Columns.length) (h:Ci s.Columns[i]) (ho:s.Columns[i].Optional = true) {l:Int} (h0:0≤l):Bd s (aM i) l = some (decide (l > 0)):=by
 refine Ok.val ?_
 unfold Bd
 refine Ok.idxn hi (Ok.no rfl (Ok.br (fun e=>Ok.some ?_) fun e=>Ok.yes rfl (Ok.some ?_)))
 ·by_cases hz:l = 0
  ·subst hz; rfl
  ·have:(l==0) = false:=by simpa using hz
   rw [this] at e; cases e
 ·by_cases hz:l = 0
  ·subst hz
   rw [ho] at e; cases e
  ·exact (decide_eq_true (by omega)).symm
theorem fe {i:Nat} (hi:i < s.Columns.length) (l:Int):CG s (aM i) l = some (decide (l > 0)):=by
 refine Ok.val ?_
 unfold CG
 exact Ok.idxn hi (Ok.no rfl (Ok.yes rfl (Ok.some rfl)))
theorem SF.up {c:Av} (h:Ci c) {lo up l l':Int} (hs:SF c lo up l) (h0:0≤l) (hll:l≤l') (h1:l'≤c.Widths.length):SF c lo up l':=by
 obtain ⟨s1,s2⟩:=hs
 refine ⟨fun hz=>s1 (by omega),fun p q=>?_⟩
 obtain ⟨t1,t2⟩:=s2 p q
 refine ⟨fun hz=>t1 (by omega),fun hz=>?_⟩
 by_cases e:l = 0
 ·have:=t1 e
  exact ⟨.inl this.1,.inl this.2⟩
 ·obtain ⟨u1,u2⟩:=t2 e
  have hw:=Xk h (a:=l') (b:=l) (by omega) hll h1
  generalize DB c l' = x at *
  generalize DB c l = y at *
  simp only [List.mem_cons,List.not_mem_nil,or_false,Prod.mk.injEq] at hw
  have dv:∀ n:Int,n % y = 0→n % x = 0:=by
   intro n hn
   rcases hw with ⟨rfl,rfl⟩ | ⟨rfl,rfl⟩ | ⟨rfl,rfl⟩ | ⟨rfl,rfl⟩ | ⟨rfl,rfl⟩ | ⟨rfl,rfl⟩ | ⟨rfl,rfl⟩ | ⟨rfl,rfl⟩ | ⟨rfl,rfl⟩ | ⟨rfl,rfl⟩ | ⟨rfl,rfl⟩ | ⟨rfl,rfl⟩ | ⟨rfl,rfl⟩ | ⟨rfl,rfl⟩ | ⟨rfl,rfl⟩ <;> omega
  exact ⟨u1.imp id (dv _),u2.imp id (dv _)⟩
theorem d8 {c:Av} (h:Ci c):DB c c.Widths.length = 1:=by
 unfold DB
 rw [Int.sub_self]
 rcases WI h.widths with e | e | e | e <;> rw [e] <;> rfl
theorem SF.fin {c:Av} (h:Ci c) (lo up:Int):SF c lo up c.Widths.length:=by
 have:=Bk h
 refine ⟨fun hz=>by omega,fun _ _=>⟨fun hz=>by omega,fun _=>?_⟩⟩
 rw [d8 h]
 exact ⟨.inr (Int.emod_one _),.inr (Int.emod_one _)⟩
theorem SF.sem {c:Av} (h:Ci c) {lo up l v:Int} (hs:SF c lo up l) (hlu:lo≤up) (h0:0≤l) (h1:l≤c.Widths.length) (hv:c.Low≤v∧v≤c.High):(lo≤Ob c l v∧Ob c l v≤up)↔(lo≤v∧v≤up):=by
 obtain ⟨l1,l2⟩:=h.low
 obtain ⟨l3,l4⟩:=h.high
 obtain ⟨s1,s2⟩:=hs
 unfold Ob
 by_cases e:l = 0
 ·rw [if_pos e]
  by_cases p:lo≤c.High
  ·by_cases q:c.Low≤up
   ·have:=(s2 p q).1 e
    omega
   ·omega
  ·omega
 ·rw [if_neg e]
  have hw:=Xk h (a:=l) (b:=l) (by omega) (Int.le_refl _) h1
  by_cases p:lo≤c.High
  ·by_cases q:c.Low≤up
   ·have:=(s2 p q).2 e
    generalize DB c l = x at *
    simp only [List.mem_cons,List.not_mem_nil,or_false,Prod.mk.injEq,and_self] at hw
    rcases (by omega:x = 1∨x = 2∨x = 4∨x = 5∨x = 12∨x = 20) with rfl | rfl | rfl | rfl | rfl | rfl <;> omega
   ·have:=E2 h (l:=l) (by omega) h1
    have h3:=Int.emod_nonneg v (by omega:DB c l≠0)
    omega
  ·have:=E2 h (l:=l) (by omega) h1
   have h3:=Int.emod_nonneg v (by omega:DB c l≠0)
   have h4:=Int.emod_lt_of_pos v (by omega:0 < DB c l)
   omega
end Go.Proofs.YtejfnieiaecpkaaGreatDoor.P
namespace Go.Proofs.YtejfnieiaecpkaaGreatDoor.P
open Go Go.Abs Go.Proofs
set_option maxRecDepth 100000
variable {s:Aa}
structure AT (s:Aa) (a:Ag) (i:Nat) (S:Int→Prop):Prop where
 col:a.Column = (i:Int)
 i0:1≤i
 i1:i < s.Columns.length
 op:a.Op = 2∨a.Op = 3∨a.Op = 4
 p:∀ l,0≤l→l≤fin s i→Ok (Bd s a l) fun b=>(b = true↔S l)
 r:∀ l,0≤l→l≤fin s i→Ok (CG s a l) fun b=>(b = true↔S l)
 up:∀ l l',0≤l→S l→l≤l'→l'≤fin s i→S l'
 last:S (fin s i)
 sem:∀ l,0≤l→l≤fin s i→S l→∀ v,Wc s s.Columns[i] v→∃ t u u',Bb s i l (CV s s.Columns[i] l v) = some (u,true)∧By s a u = some t∧CM s i l (CV s s.Columns[i] l v) = some u'∧Bt s a u' = some t∧-1≤t∧t≤1
 sem0:S 0→∃ t u u',Bb s i 0 0 = some (u,true)∧By s a u = some t∧CM s i 0 0 = some u'∧Bt s a u' = some t∧-1≤t∧t≤1
theorem cG {L:Am} {k v t:Int} (h:Rt L k v = some t):-1≤t∧t≤1:=by
 unfold Rt at h
 cases e:K3 L v k with
 | none=>rw [e] at h; cases h
 | some b =>
   rw [e] at h
   cases b with
   | true=>have:some (1:Int) = some t:=h; have:=Option.some.inj this; omega
   | false=>have:some (-1:Int) = some t:=h; have:=Option.some.inj this; omega
theorem bu (hs:DS s) {i:Nat} (h0:1≤i) (hi:i < s.Columns.length) (h:It s.Columns[i]) {L:Am} (hL:L∈Su) (hL2:idx s.Lists s.Columns[i].List_ = some L) {k:Int} (k0:0≤k) (k1:k < L.Codes.length):AT s (aU i k) i fun l=>KS L k l = some true:=by
 have hf:=cm hi h hL2
 have hcl:=K2 hL
 have h2:=hcl.lev2
 have sem:∀ l,0≤l→l≤fin s i→KS L k l = some true→∀ v∈Bg L,∃ t u u',Bb s i l (cv L l v) = some (u,true)∧By s (aU i k) u = some t∧CM s i l (cv L l v) = some u'∧Bt s (aU i k) u' = some t∧-1≤t∧t≤1:=by
  intro l l0 l1 hS v hv
  obtain ⟨_,_,hval,_⟩:=cf hL k0 k1 l0 (by omega)
  obtain ⟨a1,a2,u',a3,a4⟩:=hval hS v hv
  obtain ⟨_,hcf⟩:=NW hL l0 (by omega)
  obtain ⟨_,_,_,u,hu⟩:=hcf v hv
  refine ⟨tC L k v,u,u',?_,?_,?_,?_,cG a1⟩
  ·rw [Sh hi h hL hL2]; exact hu
  ·rw [dF hi hL2]
   unfold e9 at a2
   rw [hu] at a2
   exact a2
  ·rw [dt hs h0 hi h hL hL2 l0 l1]; exact a3
  ·rw [dM hi hL2]; exact a4
 refine ⟨rfl,h0,hi,.inl rfl,fun l l0 l1=>?_,fun l l0 l1=>?_,fun l l' l0 hS hll hl'=>?_,?_,fun l l0 l1 hS v hv=>?_,fun hS=>?_⟩
 ·rw [f0 hi hL hL2]
  obtain ⟨b,hb⟩:=(cf hL k0 k1 l0 (by omega)).ex
  exact ⟨b,hb,by rw [hb]; exact ⟨fun e=>by rw [e],fun e=>Option.some.inj e⟩⟩
 ·rw [fF hs h0 hi h hL hL2 k l0 l1,← (cf hL k0 k1 l0 (by omega)).same]
  obtain ⟨b,hb⟩:=(cf hL k0 k1 l0 (by omega)).ex
  exact ⟨b,hb,by rw [hb]; exact ⟨fun e=>by rw [e],fun e=>Option.some.inj e⟩⟩
 ·exact (cf hL k0 k1 l0 (by omega)).up hS l' hll (by omega)
 ·show KS L k (fin s i) = some true
  rw [hf]; exact eM hL k0 k1
 ·rw [TD h hL2]
  exact sem l l0 l1 hS v (hv.code h hL2)
 ·obtain ⟨v,hv⟩:=List.exists_mem_of_ne_nil _ hcl.some_
  have:=sem 0 (Int.le_refl _) (by omega) hS v hv
  rw [cT hL hv] at this
  exact this
theorem ZF {i:Nat} (hi:i < s.Columns.length) (h:Ci s.Columns[i]) {l v:Int} (h0:0≤l) (h1:l≤s.Columns[i].Widths.length) (hv:s.Columns[i].Low≤v∧v≤s.Columns[i].High):Bb s i l (mv s.Columns[i] l v) = some (Ob s.Columns[i] l v,true):=by
 refine Ok.val ?_
 unfold Bb
 refine Ok.idxn hi (Ok.yes (by rw [h.kind]; rfl) (Ok.no ?_ (Ok.bindE (b7 h h0 h1 hv) (Ok.some rfl))))
 by_cases hz:0 < l
 ·rw [decide_eq_true (by omega),cond_true,beq_eq_false_iff_ne]
  exact (Gr h (by omega) h1 hv).2.2.2.1
 ·rw [decide_eq_false (by omega)]; rfl
theorem dg {i:Nat} (hi:i < s.Columns.length) (h:Ci s.Columns[i]) {l:Int} (h0:1≤l):Bb s i l Bq = some (Bq,s.Columns[i].Optional):=by
 refine Ok.val ?_
 unfold Bb
 exact Ok.idxn hi (Ok.yes (by rw [h.kind]; rfl) (Ok.yes (by rw [decide_eq_true (by omega)]; rfl) (Ok.some rfl)))
theorem Zw {i:Nat} (hi:i < s.Columns.length) (h:Ci s.Columns[i]) {l v:Int} (h0:0≤l) (h1:l≤s.Columns[i].Widths.length) (hv:s.Columns[i].Low≤v∧v≤s.Columns[i].High):CM s i l (mv s.Columns[i] l v) = some (Ob s.Columns[i] l v):=by
 refine Ok.val ?_
 unfold CM
 refine Ok.idxn hi (Ok.no (by rw [h.kind]; rfl) (Ok.no ?_ (Ok.bindE (Y8 h h0 h1 hv) (Ok.some rfl))))
 by_cases hz:0 < l
 ·rw [decide_eq_true (by omega),cond_true,beq_eq_false_iff_ne]
  exact (Gr h (by omega) h1 hv).2.2.2.1
 ·rw [decide_eq_false (by omega)]; rfl
theorem dd {i:Nat} (hi:i < s.Columns.length) (h:Ci s.Columns[i]) {l:Int} (h0:1≤l):CM s i l Bq = some Bq:=by
 refine Ok.val ?_
 unfold CM
 exact Ok.idxn hi (Ok.no (by rw [h.kind]; rfl) (Ok.yes (by rw [decide_eq_true (by omega)]; rfl) (Ok.some rfl)))
theorem eJ (c:Av) {l:Int} (h0:1≤l):mv c l Bq = Bq:=by unfold mv; rw [if_neg (by omega),if_pos rfl]
theorem db (c:Av) (v:Int):mv c 0 v = 0:=by unfold mv; rw [if_pos rfl]
theorem Zu {i:Nat} (h0:1≤i) (hi:i < s.Columns.length) (h:Ci s.Columns[i]) {a:Ag} {S:Int→Prop} (hc:a.Column = (i:Int)) (ho:a.Op = 2∨a.Op = 3∨a.Op = 4)
 (hp:∀ l:Int,0≤l→l≤s.Columns[i].Widths.length→Ok (Bd s a l) fun b=>(b = true↔S l)) (hr:∀ l:Int,0≤l→l≤s.Columns[i].Widths.length→Ok (CG s a l) fun b=>(b = true↔S l))
 (hup:∀ l l':Int,0≤l→S l→l≤l'→l'≤s.Columns[i].Widths.length→S l') (hl:S s.Columns[i].Widths.length) (hS0:S 0→s.Columns[i].Optional = false)
 (hv:∀ l:Int,0≤l→l≤s.Columns[i].Widths.length→S l→∀ v,s.Columns[i].Low≤v∧v≤s.Columns[i].High→∃ t,By s a (Ob s.Columns[i] l v) = some t∧Bt s a (Ob s.Columns[i] l v) = some t∧-1≤t∧t≤1)
 (hm:∃ t,By s a Bq = some t∧Bt s a Bq = some t∧-1≤t∧t≤1):AT s a i S:=by
 have hf:fin s i = s.Columns[i].Widths.length:=by rw [DF hi,Cl h]
 have hwl:=Bk h
 refine ⟨hc,h0,hi,ho,fun l a b=>hp l a (by omega),fun l a b=>hr l a (by omega),fun l l' a b c d=>hup l l' a b c (by omega),by rw [hf]; exact hl,fun l l0 l1 hS v hvv=>?_,fun hS=>?_⟩
 ·rw [RM h]
  rcases hvv.meas h with hv1 | ⟨hv1,rfl⟩
  ·obtain ⟨t,t1,t2,t3⟩:=hv l l0 (by omega) hS v hv1
   exact ⟨t,_,_,ZF hi h l0 (by omega) hv1,t1,Zw hi h l0 (by omega) hv1,t2,t3⟩
  ·have hl1:1≤l:=by
    rcases Int.lt_or_eq_of_le l0 with hlt | rfl
    ·omega
    ·have:=hS0 hS
     rw [hv1] at this; cases this
   obtain ⟨t,t1,t2,t3⟩:=hm
   rw [eJ _ hl1]
   exact ⟨t,_,_,by rw [dg hi h hl1,hv1],t1,dd hi h hl1,t2,t3⟩
 ·have hv1:s.Columns[i].Low≤s.Columns[i].Low∧s.Columns[i].Low≤s.Columns[i].High:=⟨Int.le_refl _,h.high.1⟩
  obtain ⟨t,t1,t2,t3⟩:=hv 0 (Int.le_refl _) (by omega) hS _ hv1
  have e1:=ZF hi h (Int.le_refl 0) (by omega) hv1
  have e2:=Zw hi h (Int.le_refl 0) (by omega) hv1
  rw [db] at e1 e2
  exact ⟨t,_,_,e1,t1,e2,t2,t3⟩
theorem Zr (i:Nat) (lo up u:Int):By s (aB i lo up) u = some (if u = Bq then 0 else if lo≤u∧u≤up then 1 else -1):=by
 refine Ok.val ?_
 unfold By
 refine Ok.no rfl (Ok.no rfl (Ok.br (fun e=>Ok.some ?_) fun e=>?_))
 ·rw [if_pos (by rw [GS]; simpa using e)]
 ·rw [if_neg (by rw [GS]; simpa using e)]
  unfold Dg
  by_cases q:lo≤u∧u≤up
  ·rw [if_pos q]
   refine Ok.bindE (x:=1) ?_ (Ok.some rfl)
   show (bif (bif decide (u ≥ lo) then decide (u≤up) else false) then some 1 else some (-1)) = some (1:Int)
   rw [decide_eq_true (by omega),decide_eq_true (by omega)]; rfl
  ·rw [if_neg q]
   refine Ok.bindE (x:=-1) ?_ (Ok.some rfl)
   show (bif (bif decide (u ≥ lo) then decide (u≤up) else false) then some 1 else some (-1)) = some (-1:Int)
   by_cases q1:u ≥ lo
   ·rw [decide_eq_true q1,cond_true,decide_eq_false (by omega)]; rfl
   ·rw [decide_eq_false q1]; rfl
theorem Zx (i:Nat) (lo up u:Int):Bt s (aB i lo up) u = some (if u = Bq then 0 else if lo≤u∧u≤up then 1 else -1):=by
 refine Ok.val ?_
 unfold Bt
 refine Ok.no rfl (Ok.yes rfl (Ok.br (fun e=>Ok.some ?_) fun e=>?_))
 ·rw [if_pos (by rw [GS]; simpa using e)]
 ·rw [if_neg (by rw [GS]; simpa using e)]
  show Ok (bif (bif decide (lo≤u) then decide (u≤up) else false) then some 1 else some (-1)) _
  by_cases q:lo≤u∧u≤up
  ·rw [if_pos q,decide_eq_true q.1,decide_eq_true q.2]
   exact Ok.some rfl
  ·rw [if_neg q]
   by_cases q1:lo≤u
   ·rw [decide_eq_true q1,cond_true,decide_eq_false (by omega)]; exact Ok.some rfl
   ·rw [decide_eq_false q1]; exact Ok.some rfl
theorem ZK (i:Nat) (u:Int):By s (aM i) u = some (if u = Bq then 1 else -1):=by
 refine Ok.val ?_
 unfold By
 refine Ok.no rfl (Ok.yes rfl ?_)
 unfold Dg
 by_cases q:u = Bq
 ·subst q; exact Ok.bindE (x:=1) rfl (Ok.some rfl)
 ·rw [if_neg q]
  refine Ok.bindE (x:=-1) ?_ (Ok.some rfl)
  have:(u==-1099511627776) = false:=by rw [beq_eq_false_iff_ne]; exact q
  rw [this]; rfl
theorem Z2 (i:Nat) (u:Int):Bt s (aM i) u = some (if u = Bq then 1 else -1):=by
 refine Ok.val ?_
 unfold Bt
 refine Ok.no rfl (Ok.no rfl (Ok.yes rfl (Ok.br (fun e=>Ok.some ?_) fun e=>Ok.some ?_)))
 ·rw [if_pos (by rw [GS]; simpa using e)]
 ·rw [if_neg (by rw [GS]; simpa using e)]
theorem Y1 {i:Nat} (h0:1≤i) (hi:i < s.Columns.length) (h:Ci s.Columns[i]) {lo up:Int} (a0:-100≤lo) (a1:lo≤up) (a2:up≤100):AT s (aB i lo up) i (SF s.Columns[i] lo up):=by
 refine Zu h0 hi h rfl (.inr (.inl rfl)) (fun l b c=>eT hi h a0 a1 a2 b c) (fun l b c=>fz hi h a0 a1 a2 b c) (fun l l' b c d e=>c.up h b d e) (SF.fin h lo up) (fun hS=>hS.1 rfl) (fun l b c hS v hv=>⟨_,Zr i lo up _,Zx i lo up _,?_⟩) ⟨_,Zr i lo up _,Zx i lo up _,?_⟩
 ·split
  ·omega
  ·split <;> omega
 ·split
  ·omega
  ·split <;> omega
theorem dr {i:Nat} (h0:1≤i) (hi:i < s.Columns.length) (h:Ci s.Columns[i]) (ho:s.Columns[i].Optional = true):AT s (aM i) i fun l=>l > 0:=by
 have hwl:=Bk h
 refine Zu h0 hi h rfl (.inr (.inr rfl)) (fun l b c=>⟨_,en hi h ho b,decide_eq_true_iff⟩) (fun l b c=>⟨_,fe hi l,decide_eq_true_iff⟩) (fun l l' b c d e=>by omega) (by omega) (fun hS=>absurd hS (by decide)) (fun l b c hS v hv=>⟨_,ZK i _,Z2 i _,?_⟩) ⟨_,ZK i _,Z2 i _,?_⟩
 ·split <;> omega
 ·split <;> omega
theorem RC.at_ (hs:DS s) {n:Nat} {c:Ag} (h:RC s n c) (ho:c.Op = 2∨c.Op = 3∨c.Op = 4):∃ i S,AT s c i S:=by
 cases h with
 | all=>rcases ho with e | e | e <;> cases e
 | and=>rcases ho with e | e | e <;> cases e
 | or=>rcases ho with e | e | e <;> cases e
 | not=>rcases ho with e | e | e <;> cases e
 | under n i hi0 hi h L hL hL2 k h0 h1=>exact ⟨i,_,bu hs hi0 hi h hL hL2 h0 h1⟩
 | between n i hi0 hi h l u h0 h1 h2=>exact ⟨i,_,Y1 hi0 hi h h0 h1 h2⟩
 | miss n i hi0 hi h hop=>exact ⟨i,_,dr hi0 hi h hop⟩
end Go.Proofs.YtejfnieiaecpkaaGreatDoor.P
namespace Go.Proofs.YtejfnieiaecpkaaGreatDoor.P
open Go Go.Abs Go.Proofs
set_option maxRecDepth 100000
variable {s:Aa}
def Uy (c:Ag):Bool:=(bif (bif (c.Op==2) then true else (c.Op==3)) then true else (c.Op==4))
def J8:Nat→Ag→List Ag
 | 0,_=>[]
 | d + 1,c=>bif Uy c then [c] else c.Kids.flatMap (J8 d)
def cW:Nat→Nat
 | 0=>1
 | n + 1=>2 * cW n
theorem Z0:∀ n,1≤cW n
 | 0=>Nat.le_refl _
 | n + 1=>by have:=Z0 n; show 1≤2 * cW n; omega
theorem Sx:∀ n,n≤3→cW n≤8
 | 0,_=>by decide
 | 1,_=>by decide
 | 2,_=>by decide
 | 3,_=>by decide
 | n + 4,h=>by omega
theorem Z8 {c:Ag} (h:Uy c = true):c.Op = 2∨c.Op = 3∨c.Op = 4:=by
 unfold Uy at h
 by_cases e2:c.Op = 2
 ·exact .inl e2
 ·by_cases e3:c.Op = 3
  ·exact .inr (.inl e3)
  ·have f2:(c.Op==2) = false:=by simpa using e2
   have f3:(c.Op==3) = false:=by simpa using e3
   rw [f2,f3] at h
   exact .inr (.inr (by simpa using h))
theorem VK {α β:Type} {l:List α} {f:α→List β} {k:Nat} (hk:k < l.length):(l.take (k + 1)).flatMap f = (l.take k).flatMap f++f l[k]:=by
 rw [List.take_succ_eq_append_getElem hk,List.flatMap_append]
 simp
theorem TY {α β:Type} {l:List α} {f:α→List β} {b:Nat} (h:∀ x∈l,(f x).length≤b):(l.flatMap f).length≤l.length * b:=by
 induction l with
 | nil=>simp
 | cons x r ih =>
   have h1:=h x (by simp)
   have h2:=ih fun y hy=>h y (by simp [hy])
   rw [List.flatMap_cons,List.length_append,List.length_cons,Nat.add_mul]
   omega
theorem QT:∀ (n d:Nat) {c:Ag},RC s n c→(J8 d c).length≤cW n
 | n,0,c,_=>by simp [J8]
 | n,d + 1,c,h=>by
   have hp:=Z0 n
   unfold J8
   cases e:Uy c with
   | true=>simpa using hp
   | false =>
     obtain ⟨hk1,hk2⟩:=h.kids
     cases n with
     | zero=>rw [h.nokids]; simp
     | succ m =>
       have:=TY (l:=c.Kids) (f:=J8 d) (b:=cW m) fun k hk=>by
        obtain ⟨m',hm,hr⟩:=hk2 k hk
        obtain rfl:m = m':=by omega
        exact QT m d hr
       have h2:c.Kids.length * cW m≤2 * cW m:=Nat.mul_le_mul_right _ hk1
       show (c.Kids.flatMap (J8 d)).length≤2 * cW m
       omega
theorem Vd (hs:DS s):∀ (n d:Nat) {c:Ag},RC s n c→∀ a∈J8 d c,∃ i S,AT s a i S
 | n,0,c,_,a,ha=>by simp [J8] at ha
 | n,d + 1,c,h,a,ha=>by
   unfold J8 at ha
   cases e:Uy c with
   | true =>
     rw [e] at ha
     have ha:a = c:=by simpa using ha
     subst ha
     exact h.at_ hs (Z8 e)
   | false =>
     rw [e] at ha
     obtain ⟨k,hk,hak⟩:=List.mem_flatMap.1 ha
     obtain ⟨m,_,hr⟩:=h.kids.2 k hk
     exact Vd hs m d hr a hak
theorem bC:∀ (n d:Nat) {c:Ag},RC s n c→n < d→n≤3→E3 d c = some (J8 d c)
 | n,d + 1,c,h,hd,hn=>by
   obtain ⟨hk1,hk2⟩:=h.kids
   have hb:=Sx n hn
   refine Ok.val ?_
   show Ok (EK d (E3 d) c) _
   unfold EK
   cases e:Uy c with
   | true=>exact Ok.yes e (Ok.some (by unfold J8; rw [e]; rfl))
   | false =>
     have hkl:∀ k∈c.Kids,(J8 d k).length≤8:=fun k hk=>by
      obtain ⟨m,hm,hr⟩:=hk2 k hk
      have:=QT m d hr
      have:=Sx m (by omega)
      omega
     refine Ok.no e ?_
     refine Ok.for (fun q=>q.1) c.Kids.length (fun k q=>q.2 = (c.Kids.take k).flatMap (J8 d)) 0 (Nat.zero_le _) rfl rfl (by omega) (fun rec q hq hI=>?_) fun rec k q hk hq hI ih=>?_
     ·simp only [FE,hq,hI,List.take_length]
      rw [AO (by omega)]
      exact Ok.some (by unfold J8; rw [e]; rfl)
     ·have hx:=List.getElem_mem hk
      obtain ⟨m,hm,hr⟩:=hk2 _ hx
      have hacc:((c.Kids.take k).flatMap (J8 d)).length≤(c.Kids.take k).length * 8:=TY fun y hy=>hkl y (List.mem_of_mem_take hy)
      rw [List.length_take] at hacc
      have:=hkl _ hx
      simp only [FE,hq,hI]
      rw [AC (by omega)]
      exact Ok.idxn hk (Ok.bindE (bC m d hr (by omega) (by omega)) (Ok.rm (by omega) (ih _ (CH (by omega)) (VK hk).symm)))
theorem cI:∀ (n d:Nat) {c:Ag},RC s n c→n < d→n≤3→I5 d c = some (J8 d c)
 | n,d + 1,c,h,hd,hn=>by
   obtain ⟨hk1,hk2⟩:=h.kids
   have hb:=Sx n hn
   refine Ok.val ?_
   show Ok (H9 d (I5 d) c) _
   unfold H9
   cases e:Uy c with
   | true=>exact Ok.yes e (Ok.some (by unfold J8; rw [e]; rfl))
   | false =>
     have hkl:∀ k∈c.Kids,(J8 d k).length≤8:=fun k hk=>by
      obtain ⟨m,hm,hr⟩:=hk2 k hk
      have:=QT m d hr
      have:=Sx m (by omega)
      omega
     refine Ok.no e ?_
     refine Ok.for (fun q=>q.1) c.Kids.length (fun k q=>q.2 = (c.Kids.take k).flatMap (J8 d)) 0 (Nat.zero_le _) rfl rfl (by omega) (fun rec q hq hI=>?_) fun rec k q hk hq hI ih=>?_
     ·simp only [Jr,hq,hI,List.take_length]
      rw [AO (by omega)]
      exact Ok.some (by unfold J8; rw [e]; rfl)
     ·have hx:=List.getElem_mem hk
      obtain ⟨m,hm,hr⟩:=hk2 _ hx
      have hacc:((c.Kids.take k).flatMap (J8 d)).length≤(c.Kids.take k).length * 8:=TY fun y hy=>hkl y (List.mem_of_mem_take hy)
      rw [List.length_take] at hacc
      have:=hkl _ hx
      simp only [Jr,hq,hI]
      rw [AC (by omega)]
      exact Ok.idxn hk (Ok.bindE (cI m d hr (by omega) (by omega)) (Ok.rm (by omega) (ih _ (CH (by omega)) (VK hk).symm)))
theorem U3:∀ (n d d':Nat) {c:Ag},RC s n c→n < d→n < d'→J8 d c = J8 d' c
 | n,d + 1,d' + 1,c,h,hd,hd'=>by
   unfold J8
   cases e:Uy c with
   | true=>rfl
   | false =>
     show c.Kids.flatMap (J8 d) = c.Kids.flatMap (J8 d')
     rw [List.flatMap_def,List.flatMap_def]
     congr 1
     refine List.map_congr_left fun k hk=>?_
     obtain ⟨m,hm,hr⟩:=h.kids.2 k hk
     exact U3 m d d' hr (by omega) (by omega)
def O1 (s:Aa) (a:Ag):Int:=(((List.range 6).find? fun l:Nat=>Bd s a (l:Int)==some true).getD 0:Nat)
theorem AT.least (hs:DS s) {a:Ag} {i:Nat} {S:Int→Prop} (h:AT s a i S):0≤O1 s a∧O1 s a≤fin s i∧S (O1 s a)∧∀ l,0≤l→l < O1 s a→¬ S l:=by
 have hf:=hs.fin_ok h.i0 h.i1
 have iff:∀ l:Nat,(l:Int)≤fin s i→((Bd s a (l:Int)==some true) = true↔S l):=by
  intro l hl
  obtain ⟨b,hb,hb2⟩:=h.p l (by omega) hl
  rw [hb,← hb2]
  cases b <;> simp
 unfold O1
 cases e:(List.range 6).find? fun l:Nat=>Bd s a (l:Int)==some true with
 | none =>
   have:=List.find?_eq_none.1 e (fin s i).toNat (List.mem_range.2 (by omega))
   exact absurd ((iff _ (by omega)).2 (by rw [Int.toNat_of_nonneg (by omega)]; exact h.last)) this
 | some m =>
   obtain ⟨h1,h2,h3⟩:=List.find?_range_eq_some.1 e
   have hm:(m:Int)≤fin s i:=by
    by_cases hlt:fin s i < m
    ·have:=h3 (fin s i).toNat (by omega)
     rw [(iff _ (by omega)).2 (by rw [Int.toNat_of_nonneg (by omega)]; exact h.last)] at this
     cases this
    ·omega
   refine ⟨Int.natCast_nonneg m,hm,(iff m hm).1 h1,fun l l0 l1 hS=>?_⟩
   have l1:l < (m:Int):=l1
   have:=h3 l.toNat (by omega)
   rw [(iff _ (by omega)).2 (by rw [Int.toNat_of_nonneg l0]; exact hS)] at this
   cases this
theorem AT.lvl_iff (hs:DS s) {a:Ag} {i:Nat} {S:Int→Prop} (h:AT s a i S) {l:Int} (l0:0≤l) (l1:l≤fin s i):S l↔O1 s a≤l:=by
 obtain ⟨h1,h2,h3,h4⟩:=h.least hs
 constructor
 ·intro hS
  by_cases hlt:l < O1 s a
  ·exact absurd hS (h4 l l0 hlt)
  ·omega
 ·intro hle
  exact h.up _ _ h1 h3 hle l1
end Go.Proofs.YtejfnieiaecpkaaGreatDoor.P
namespace Go.Proofs.YtejfnieiaecpkaaGreatDoor.P
open Go Go.Abs Go.Proofs
set_option maxRecDepth 100000
variable {s:Aa}
def one (picks:List Ae) (i l:Int):Prop:=l≤0∨∃ p∈picks,p.Column = i∧l≤p.Level
theorem Mm {picks:List Ae} {i a b:Int}:one picks i (if a > b then a else b)↔one picks i b∧one picks i a:=by
 unfold one
 constructor
 ·rintro (h | ⟨p,h1,h2,h3⟩)
  ·split at h <;> exact ⟨.inl (by omega),.inl (by omega)⟩
  ·split at h3 <;> exact ⟨.inr ⟨p,h1,h2,by omega⟩,.inr ⟨p,h1,h2,by omega⟩⟩
 ·rintro ⟨h1,h2⟩
  split
  ·exact h2
  ·exact h1
theorem Uk {picks r:List Ae} (h:∀ p∈r,0 < p.Level):covers picks r = true↔∀ p∈r,one picks p.Column p.Level:=by
 unfold covers
 rw [List.all_eq_true]
 constructor
 ·intro hc p hp
  obtain ⟨q,hq,hq2⟩:=List.any_eq_true.1 (hc p hp)
  by_cases e:q.Column = p.Column
  ·have:(q.Column==p.Column) = true:=by simpa using e
   rw [this,cond_true,decide_eq_true_eq] at hq2
   exact .inr ⟨q,hq,e,hq2⟩
  ·have:(q.Column==p.Column) = false:=by simpa using e
   rw [this] at hq2; cases hq2
 ·intro hc p hp
  rcases hc p hp with h1 | ⟨q,hq,h1,h2⟩
  ·have:=h p hp; omega
  ·refine List.any_eq_true.2 ⟨q,hq,?_⟩
   rw [h1,beq_self_eq_true,cond_true,decide_eq_true_eq]
   exact h2
structure NO (s:Aa) (l:List Ag) (r:List Ae):Prop where
 len:r.length≤100
 pos:∀ p∈r,0 < p.Level
 iff:∀ picks,(∀ p∈r,one picks p.Column p.Level)↔∀ a∈l,one picks a.Column (O1 s a)
theorem NO.covers {l:List Ag} {r:List Ae} (h:NO s l r) (picks:List Ae):covers picks r = true↔∀ a∈l,one picks a.Column (O1 s a):=(Uk h.pos).trans (h.iff picks)
theorem ct (hs:DS s) {n d:Nat} {c:Ag} (h:RC s n c) (hd:n < d) (hn:n≤3):Ok (CI d s c) (NO s (J8 d c)):=by
 have hcl:=hs.cols_length
 have hb:=Sx n hn
 have hal:=QT n d h
 have hat:=Vd hs n d h
 unfold CI
 refine Ok.bindE (h.check hs hn hd) (Ok.no rfl (Ok.gd ?_ (Ok.bindE (bC n d h hd hn) ?_)))
 ·rw [decide_eq_true (by omega),OA (by omega)]; rfl
 refine Ok.for (fun q=>q.1) (J8 d c).length (fun k q=>q.2.length = s.Columns.length∧∀ picks,(∀ (i:Nat) (hi:i < q.2.length),one picks i q.2[i])↔∀ a∈(J8 d c).take k,one picks a.Column (O1 s a)) 0 (Nat.zero_le _) rfl ⟨by simp,fun picks=>?_⟩ (by omega) (fun rec q hq hI=>?_) fun rec k q hk hq hI ih=>?_
 ·refine ⟨fun _ a ha=>by simp at ha,fun _ i hi=>.inl ?_⟩
  simp
 ·obtain ⟨hI1,hI2⟩:=hI
  simp only [Gg,hq]
  rw [AO (by omega)]
  generalize q.2 = lv at *
  refine Ok.for (fun q=>q.1) lv.length (fun k q=>q.2.length≤k∧(∀ p∈q.2,0 < p.Level)∧∀ picks,(∀ p∈q.2,one picks p.Column p.Level)↔∀ (i:Nat) (hi:i < lv.length),i < k→one picks i lv[i]) 0 (Nat.zero_le _) rfl ⟨Nat.le_refl _,(fun p hp=>by cases hp),fun picks=>⟨fun _ i _ hi=>by omega,fun _ p hp=>by cases hp⟩⟩ (by omega) (fun rec q hq hI=>?_) fun rec k q hk hq hI ih=>?_
  ·simp only [Gb,hq]
   rw [AO (by omega)]
   refine Ok.some ⟨by have:=hI.1; omega,hI.2.1,fun picks=>?_⟩
   rw [hI.2.2 picks]
   have:=hI2 picks
   rw [List.take_length] at this
   rw [← this]
   exact ⟨fun h i hi=>h i hi hi,fun h i hi _=>h i hi⟩
  ·obtain ⟨j1,j2,j3⟩:=hI
   simp only [Gb,hq]
   rw [AC (by omega)]
   refine Ok.idxn hk (Ok.brd (fun hp=>Ok.rm (by simp; omega) (ih _ (CH (by omega)) ⟨by simp; omega,fun p hp2=>?_,fun picks=>?_⟩)) fun hp=>ih _ (CH (by omega)) ⟨by show q.2.length≤k + 1; omega,j2,fun picks=>?_⟩)
   ·rcases List.mem_append.1 hp2 with hp2 | hp2
    ·exact j2 p hp2
    ·rw [List.mem_singleton] at hp2; subst hp2; exact hp
   ·constructor
    ·intro hall i hi hik
     by_cases e:i = k
     ·subst e
      exact hall { Column:=(i:Int),Level:=lv[i] } (List.mem_append_right _ (List.mem_singleton.2 rfl))
     ·exact (j3 picks).1 (fun p hp2=>hall p (List.mem_append_left _ hp2)) i hi (by omega)
    ·intro hall p hp2
     rcases List.mem_append.1 hp2 with hp2 | hp2
     ·exact (j3 picks).2 (fun i hi hik=>hall i hi (by omega)) p hp2
     ·rw [List.mem_singleton] at hp2; subst hp2
      exact hall k hk (by omega)
   ·rw [j3 picks]
    constructor
    ·intro hall i hi hik
     by_cases e:i = k
     ·subst e; exact .inl (by omega)
     ·exact hall i hi (by omega)
    ·exact fun hall i hi hik=>hall i hi (by omega)
 ·obtain ⟨hI1,hI2⟩:=hI
  obtain ⟨i,S,hA⟩:=hat _ (List.getElem_mem hk)
  obtain ⟨m0,m1,_,_⟩:=hA.least hs
  have hf:=hs.fin_ok hA.i0 hA.i1
  simp only [Gg,hq]
  rw [AC (by omega)]
  refine Ok.idxn hk ?_
  refine Ok.loop (fun v=>0≤v∧v≤O1 s (J8 d c)[k]) (fun v=>(O1 s (J8 d c)[k] - v).toNat) ⟨Int.le_refl _,m0⟩ (by unfold A6; omega) fun rec2 v hv ih2=>?_
  simp only [Ih]
  obtain ⟨b,hb1,hb2⟩:=hA.p v hv.1 (by omega)
  have hb3:=hA.lvl_iff hs hv.1 (by omega:v≤fin s i)
  refine Ok.bindE hb1 (Ok.br (fun e=>?_) fun e=>?_)
  ·have:¬ O1 s (J8 d c)[k]≤v:=fun hle=>by
    rw [hb2.2 (hb3.2 hle)] at e; cases e
   have ev:IntKind.i64.wrap (v + 1) = v + 1:=wr (by omega) (by omega)
   rw [ev]
   exact ih2 _ ⟨by omega,by omega⟩ (by omega)
  ·have hle:O1 s (J8 d c)[k]≤v:=hb3.1 (hb2.1 (by simpa using e))
   have ev:v = O1 s (J8 d c)[k]:=by omega
   unfold Eg
   have hcol:=hA.col
   have hi1:=hA.i1
   rw [hcol]
   refine Ok.idxn (by omega) (Ok.idxn (by omega) (ih _ (CH (by omega)) ⟨by show (q.2.set _ _).length = _; rw [List.length_set]; exact hI1,fun picks=>?_⟩))
   show (∀ (j:Nat) (hj:j < (q.2.set (i:Int).toNat _).length),one picks j (q.2.set (i:Int).toNat _)[j])↔_
   rw [List.take_succ_eq_append_getElem hk]
   simp only [Int.toNat_natCast]
   constructor
   ·intro hall a ha
    rcases List.mem_append.1 ha with ha | ha
    ·refine (hI2 picks).1 (fun j hj=>?_) a ha
     have:=hall j (by rw [List.length_set]; exact hj)
     rw [List.getElem_set] at this
     by_cases e2:i = j
     ·subst e2
      rw [if_pos rfl] at this
      exact (Mm.1 this).1
     ·rw [if_neg e2] at this; exact this
    ·rw [List.mem_singleton] at ha; subst ha
     have:=hall i (by rw [List.length_set]; omega)
     rw [List.getElem_set,if_pos rfl] at this
     rw [hcol,← ev]
     exact (Mm.1 this).2
   ·intro hall j hj
    have hold:=(hI2 picks).2 fun a ha=>hall a (List.mem_append_left _ ha)
    rw [List.length_set] at hj
    rw [List.getElem_set]
    by_cases e2:i = j
    ·subst e2
     rw [if_pos rfl]
     have:=hall _ (List.mem_append_right _ (List.mem_singleton.2 rfl))
     rw [hcol,← ev] at this
     exact Mm.2 ⟨hold i hj,this⟩
    ·rw [if_neg e2]; exact hold j hj
end Go.Proofs.YtejfnieiaecpkaaGreatDoor.P
namespace Go.Proofs.YtejfnieiaecpkaaGreatDoor.P
open Go Go.Abs Go.Proofs
set_option maxRecDepth 100000
variable {s:Aa}
theorem IJ {picks b:List Ae} {x:Ae}:(∀ p∈b++[x],one picks p.Column p.Level)↔(∀ p∈b,one picks p.Column p.Level)∧one picks x.Column x.Level:=by
 constructor
 ·intro h
  exact ⟨fun p hp=>h p (List.mem_append_left _ hp),h x (List.mem_append_right _ (List.mem_singleton.2 rfl))⟩
 ·rintro ⟨h1,h2⟩ p hp
  rcases List.mem_append.1 hp with hp | hp
  ·exact h1 p hp
  ·rw [List.mem_singleton] at hp; subst hp; exact h2
theorem Mt {b:List Ae} {x:Ae} (h:∀ p∈b,0 < p.Level) (hx:0 < x.Level):∀ p∈b++[x],0 < p.Level:=by
 intro p hp
 rcases List.mem_append.1 hp with hp | hp
 ·exact h p hp
 ·rw [List.mem_singleton] at hp; subst hp; exact hx
theorem U0 {l:List Ae} {c n:Int} (hl:l.length≤1000) (hpos:∀ p∈l,0 < p.Level):Ok (Cq l c n) fun r=>r.length≤l.length + 1∧(∀ p∈r,0 < p.Level)∧∀ picks,(∀ p∈r,one picks p.Column p.Level)↔(∀ p∈l,one picks p.Column p.Level)∧one picks c n:=by
 unfold Cq
 refine Ok.for (fun q=>q.2.1) l.length (fun k q=>q.2.2.length≤k + (if q.1 then 1 else 0)∧(q.1 = false→0 < n)∧(∀ p∈q.2.2,0 < p.Level)∧∀ picks,(∀ p∈q.2.2,one picks p.Column p.Level)↔(∀ p∈l.take k,one picks p.Column p.Level)∧(q.1 = true→one picks c n)) 0 (Nat.zero_le _) rfl
  ⟨by simp,fun h=>by have:¬ n≤0:=of_decide_eq_false h; omega,(fun p hp=>by cases hp),fun picks=>⟨fun _=>⟨(fun p hp=>by cases hp),fun h=>.inl (of_decide_eq_true h)⟩,fun _ p hp=>by cases hp⟩⟩ (by omega) (fun rec q hq hI=>?_) fun rec k q hk hq hI ih=>?_
 ·obtain ⟨i1,i2,i3,i4⟩:=hI
  simp only [Jf,hq]
  rw [AO (by omega)]
  unfold LD
  refine Ok.br (fun e=>Ok.rm (by simp; split at i1 <;> omega) (Ok.some ⟨?_,?_,fun picks=>?_⟩)) fun e=>Ok.some ⟨?_,i3,fun picks=>?_⟩
  ·have e:q.1 = false:=by simpa using e
   rw [e] at i1
   simp at i1 ⊢
   omega
  ·have e:q.1 = false:=by simpa using e
   exact Mt i3 (i2 e)
  ·have e:q.1 = false:=by simpa using e
   have:=i4 picks
   rw [List.take_length] at this
   rw [IJ,this]
   exact ⟨fun h=>⟨h.1.1,h.2⟩,fun h=>⟨⟨h.1,fun h2=>by rw [e] at h2; cases h2⟩,h.2⟩⟩
  ·split at i1 <;> omega
  ·have e:q.1 = true:=by simpa using e
   have:=i4 picks
   rw [List.take_length] at this
   rw [this]
   exact ⟨fun h=>⟨h.1,h.2 e⟩,fun h=>⟨h.1,fun _=>h.2⟩⟩
 ·obtain ⟨i1,i2,i3,i4⟩:=hI
  have hx:=hpos _ (List.getElem_mem hk)
  have hb:q.2.2.length≤k + 1:=by split at i1 <;> omega
  have i4':∀ picks,(∀ p∈l.take (k + 1),one picks p.Column p.Level)↔(∀ p∈l.take k,one picks p.Column p.Level)∧one picks l[k].Column l[k].Level:=by
   intro picks
   rw [List.take_succ_eq_append_getElem hk]
   exact IJ
  simp only [Jf,hq]
  rw [AC (by omega)]
  refine Ok.idxn hk (Ok.br (fun e=>?_) fun e=>?_)
  ·have e2:q.1 = false:=by
    by_cases h:l[k].Column > c
    ·rw [decide_eq_true h] at e; simpa using e
    ·rw [decide_eq_false h] at e; cases e
   have hn:=i2 e2
   rw [e2] at i1
   have i1:q.2.2.length≤k:=by simpa using i1
   refine Ok.rm (by simp; omega) (Ok.br (fun e3=>?_) fun e3=>?_)
   ·have e3:l[k].Column = c:=by simpa using e3
    refine Ok.rm (by simp; omega) (ih _ (CH (by omega)) ⟨by simp; omega,(fun h=>by cases h),Mt (Mt i3 hn) (by show 0 < (if n > l[k].Level then n else l[k].Level); split <;> omega),fun picks=>?_⟩)
    show (∀ p∈(q.2.2++[_])++[_],one picks p.Column p.Level)↔_
    rw [IJ,IJ,i4 picks,i4' picks,e3]
    show (((_∧_)∧one picks c n)∧one picks c (if n > l[k].Level then n else l[k].Level))↔_
    rw [Mm]
    exact ⟨fun h=>⟨⟨h.1.1.1,h.2.1⟩,fun _=>h.1.2⟩,fun h=>⟨⟨⟨h.1.1,fun h2=>h.2 rfl⟩,h.2 rfl⟩,h.1.2,h.2 rfl⟩⟩
   ·refine Ok.rm (by simp; omega) (ih _ (CH (by omega)) ⟨by simp; omega,(fun h=>by cases h),Mt (Mt i3 hn) hx,fun picks=>?_⟩)
    show (∀ p∈(q.2.2++[_])++[_],one picks p.Column p.Level)↔_
    rw [IJ,IJ,i4 picks,i4' picks]
    exact ⟨fun h=>⟨⟨h.1.1.1,h.2⟩,fun _=>h.1.2⟩,fun h=>⟨⟨⟨h.1.1,fun h2=>h.2 rfl⟩,h.2 rfl⟩,h.1.2⟩⟩
  ·refine Ok.br (fun e3=>?_) fun e3=>?_
   ·have e3:l[k].Column = c:=by simpa using e3
    refine Ok.rm (by simp; omega) (ih _ (CH (by omega)) ⟨by simp; omega,(fun h=>by cases h),Mt i3 (by show 0 < (if n > l[k].Level then n else l[k].Level); split <;> omega),fun picks=>?_⟩)
    show (∀ p∈q.2.2++[_],one picks p.Column p.Level)↔_
    rw [IJ,i4 picks,i4' picks,e3]
    show ((_∧_)∧one picks c (if n > l[k].Level then n else l[k].Level))↔_
    rw [Mm]
    exact ⟨fun h=>⟨⟨h.1.1,h.2.1⟩,fun _=>h.2.2⟩,fun h=>⟨⟨h.1.1,fun h2=>h.2 rfl⟩,h.1.2,h.2 rfl⟩⟩
   ·refine Ok.rm (by simp; omega) (ih _ (CH (by omega)) ⟨by simp; split <;> split at i1 <;> simp_all <;> omega,i2,Mt i3 hx,fun picks=>?_⟩)
    show (∀ p∈q.2.2++[_],one picks p.Column p.Level)↔_
    rw [IJ,i4 picks,i4' picks]
    exact ⟨fun h=>⟨⟨h.1.1,h.2⟩,h.1.2⟩,fun h=>⟨⟨h.1.1,h.2⟩,h.1.2⟩⟩
theorem N6 (hs:DS s) {n d:Nat} {c:Ag} (h:RC s n c) (hd:n < d) (hn:n≤3):Ok (CN d s c) (NO s (J8 d c)):=by
 have hcl:=hs.cols_length
 have hb:=Sx n hn
 have hal:=QT n d h
 have hat:=Vd hs n d h
 unfold CN
 refine Ok.bindE (h.rcheck hs hn hd) (Ok.no rfl (Ok.bindE (cI n d h hd hn) ?_))
 refine Ok.for (fun q=>q.2) (J8 d c).length (fun k q=>q.1.length≤k∧(∀ p∈q.1,0 < p.Level)∧∀ picks,(∀ p∈q.1,one picks p.Column p.Level)↔∀ a∈(J8 d c).take k,one picks a.Column (O1 s a)) 0 (Nat.zero_le _) rfl ⟨Nat.le_refl _,(fun p hp=>by cases hp),fun picks=>⟨fun _ a ha=>by simp at ha,fun _ p hp=>by cases hp⟩⟩ (by omega) (fun rec q hq hI=>?_) fun rec k q hk hq hI ih=>?_
 ·obtain ⟨i1,i2,i3⟩:=hI
  simp only [Jv,hq]
  rw [AO (by omega)]
  rw [List.take_length] at i3
  exact Ok.some ⟨by omega,i2,i3⟩
 ·obtain ⟨i1,i2,i3⟩:=hI
  obtain ⟨i,S,hA⟩:=hat _ (List.getElem_mem hk)
  obtain ⟨m0,m1,_,_⟩:=hA.least hs
  have hf:=hs.fin_ok hA.i0 hA.i1
  simp only [Jv,hq]
  rw [AC (by omega)]
  refine Ok.loop (fun v=>0≤v∧v≤O1 s (J8 d c)[k]) (fun v=>(O1 s (J8 d c)[k] - v).toNat) ⟨Int.le_refl _,m0⟩ (by unfold A6; omega) fun rec2 v hv ih2=>?_
  simp only [L7]
  obtain ⟨b,hb1,hb2⟩:=hA.r v hv.1 (by omega)
  have hb3:=hA.lvl_iff hs hv.1 (by omega:v≤fin s i)
  refine Ok.idxn hk (Ok.bindE hb1 (Ok.br (fun e=>?_) fun e=>?_))
  ·have:¬ O1 s (J8 d c)[k]≤v:=fun hle=>by
    rw [hb2.2 (hb3.2 hle)] at e; cases e
   have ev:IntKind.i64.wrap (v + 1) = v + 1:=wr (by omega) (by omega)
   rw [ev]
   exact ih2 _ ⟨by omega,by omega⟩ (by omega)
  ·have hle:O1 s (J8 d c)[k]≤v:=hb3.1 (hb2.1 (by simpa using e))
   have ev:v = O1 s (J8 d c)[k]:=by omega
   unfold IU
   refine Ok.idxn hk (Ok.bind (U0 (by omega) i2) fun r hr=>ih _ (CH (by omega)) ⟨by show r.length≤k + 1; omega,hr.2.1,fun picks=>?_⟩)
   rw [hr.2.2 picks,i3 picks,List.take_succ_eq_append_getElem hk,ev]
   constructor
   ·rintro ⟨h1,h2⟩ a ha
    rcases List.mem_append.1 ha with ha | ha
    ·exact h1 a ha
    ·rw [List.mem_singleton] at ha; subst ha; exact h2
   ·exact fun h=>⟨fun a ha=>h a (List.mem_append_left _ ha),h _ (List.mem_append_right _ (List.mem_singleton.2 rfl))⟩
theorem P0 (picks needs:List Ae) (h1:picks.length≤1000000) (h2:needs.length≤1000000):FM needs picks = some (covers picks needs):=by
 refine Ok.val ?_
 unfold FM
 refine Ok.for (fun q=>q) needs.length (fun k _=>covers picks (needs.take k) = true) 0 (Nat.zero_le _) rfl rfl (by omega) (fun rec q hq hI=>?_) fun rec k q hk hq hI ih=>?_
 ·simp only [Ia,hq]
  rw [AO (by omega)]
  rw [List.take_length] at hI
  exact Ok.some hI.symm
 ·simp only [Ia,hq]
  rw [AC (by omega)]
  have hany:∀ f:Ae→Bool,picks.any f = false→f = (fun p=>bif p.Column==needs[k].Column then decide (p.Level ≥ needs[k].Level) else false)→covers picks needs = false:=by
   intro f hf e
   subst e
   unfold covers
   rw [List.all_eq_false]
   exact ⟨_,List.getElem_mem hk,by rw [hf]; decide⟩
  refine Ok.for (fun q=>q.2) picks.length (fun j q=>q.1 = (picks.take j).any fun p=>bif p.Column==needs[k].Column then decide (p.Level ≥ needs[k].Level) else false) 0 (Nat.zero_le _) rfl rfl (by omega) (fun rec2 q2 hq2 hI2=>?_) fun rec2 j q2 hj hq2 hI2 ih2=>?_
  ·simp only [HG,hq2]
   rw [AO (by omega)]
   rw [List.take_length] at hI2
   refine Ok.br (fun e=>Ok.some ?_) fun e=>ih _ (CH (by omega)) ?_
   ·have e:q2.1 = false:=by simpa using e
    exact (hany _ (by rw [← hI2,e]) rfl).symm
   ·have e:q2.1 = true:=by simpa using e
    unfold covers at hI ⊢
    rw [List.take_succ_eq_append_getElem hk,List.all_append,hI,Bool.true_and]
    simp only [List.all_cons,List.all_nil,Bool.and_true]
    rw [← hI2,e]
  ·simp only [HG,hq2]
   rw [AC (by omega)]
   refine Ok.br (fun e=>ih2 _ (CH (by omega)) ?_) fun e=>Ok.idxn hj (Ok.idxn hk (Ok.br (fun e2=>Ok.idxn hj (Ok.idxn hk (ih2 _ (CH (by omega)) ?_))) fun e2=>ih2 _ (CH (by omega)) ?_))
   ·show true = _
    rw [List.take_succ_eq_append_getElem hj,List.any_append,← hI2,e]; rfl
   ·show decide _ = _
    rw [List.take_succ_eq_append_getElem hj,List.any_append,← hI2,e]
    simp only [List.any_cons,List.any_nil,Bool.or_false,Bool.false_or]
    rw [e2]; rfl
   ·show false = _
    rw [List.take_succ_eq_append_getElem hj,List.any_append,← hI2,e]
    simp only [List.any_cons,List.any_nil,Bool.or_false,Bool.false_or]
    rw [e2]; rfl
end Go.Proofs.YtejfnieiaecpkaaGreatDoor.P
namespace Go.Proofs.YtejfnieiaecpkaaGreatDoor.P
open Go Go.Abs Go.Proofs
set_option maxRecDepth 100000
variable {s:Aa}
def lk (picks:List Ae) (vals:List Int) (i:Int):Nat→Int × Int
 | 0=>(0,0)
 | k + 1=>if (picks.getD k { Column:=0,Level:=0 }).Column = i then ((picks.getD k { Column:=0,Level:=0 }).Level,vals.getD k 0) else lk picks vals i k
theorem Rr {α:Type} {l:List α} {k:Nat} (hk:k < l.length) (z:α):l.getD k z = l[k]:=by rw [List.getD_eq_getElem?_getD,List.getElem?_eq_getElem hk]; rfl
theorem TH {picks:List Ae} {vals:List Int} {i:Int} {k:Nat} (hk:k < picks.length) (hk2:k < vals.length):lk picks vals i (k + 1) = if picks[k].Column = i then (picks[k].Level,vals[k]) else lk picks vals i k:=by
 rw [lk,Rr hk,Rr hk2]
theorem Yv {picks:List Ae} {vals:List Int} (hl:picks.length≤vals.length) (i:Int):∀ k,k≤picks.length→(lk picks vals i k = (0,0)∧∀ (j:Nat) (hj:j < picks.length),j < k→picks[j].Column≠i)∨∃ (j:Nat) (hj:j < picks.length) (hj2:j < vals.length),picks[j].Column = i∧lk picks vals i k = (picks[j].Level,vals[j])
 | 0,_=>.inl ⟨rfl,fun j _ h=>by omega⟩
 | k + 1,hk=>by
   rw [TH (by omega) (by omega:k < vals.length)]
   by_cases e:picks[k].Column = i
   ·rw [if_pos e]; exact .inr ⟨k,by omega,by omega,e,rfl⟩
   ·rw [if_neg e]
    rcases Yv hl i k (by omega) with ⟨h1,h2⟩ | h1
    ·refine .inl ⟨h1,fun j hj hjk=>?_⟩
     by_cases e2:j = k
     ·subst e2; exact e
     ·exact h2 j hj (by omega)
    ·exact .inr h1
theorem dX (hs:DS s) {x:Au} (hx:GX s x) {r:List Int} (hr:r∈x.Rows) {a:Ag} {i:Nat} {S:Int→Prop} (hA:AT s a i S) (hc:one x.Picks a.Column (O1 s a)) :
 ∃ t u u',Bb s i (lk x.Picks (r.drop 1) i x.Picks.length).1 (lk x.Picks (r.drop 1) i x.Picks.length).2 = some (u,true)∧By s a u = some t∧CM s i (lk x.Picks (r.drop 1) i x.Picks.length).1 (lk x.Picks (r.drop 1) i x.Picks.length).2 = some u'∧Bt s a u' = some t∧-1≤t∧t≤1:=by
 have hrl:=(hx.rows _ hr).1
 have hf:=hs.fin_ok hA.i0 hA.i1
 have hvl:(r.drop 1).length = x.Picks.length:=by rw [List.length_drop]; omega
 obtain ⟨m0,m1,m2,m3⟩:=hA.least hs
 rw [hA.col] at hc
 rcases Yv (picks:=x.Picks) (vals:=r.drop 1) (by omega) (i:Int) x.Picks.length (Nat.le_refl _) with ⟨h1,h2⟩ | ⟨j,hj,hj2,h1,h2⟩
 ·rw [h1]
  refine hA.sem0 ?_
  rcases hc with hc | ⟨p,hp,hp1,_⟩
  ·have:O1 s a = 0:=by omega
   rw [← this]; exact m2
  ·obtain ⟨j,hj,rfl⟩:=List.mem_iff_getElem.1 hp
   exact absurd hp1 (h2 j hj hj)
 ·rw [h2]
  obtain ⟨i',hi',w,hw0,hw1,hw2,hw3⟩:=(hx.rows _ hr).2.2.2 j x.Picks[j] (r.drop 1)[j] (List.getElem?_eq_getElem hj) (by
   rw [List.getElem?_eq_getElem (by omega)]
   congr 1
   rw [List.getElem_drop]
   congr 1; omega)
  obtain rfl:i = i':=by rw [h1] at hw1; omega
  obtain ⟨i'',_,_,q1,q2,q3⟩:=hx.picks _ (List.getElem_mem hj)
  obtain rfl:i = i'':=by rw [h1] at q1; omega
  rw [hw3]
  refine hA.sem _ q2 q3 ?_ w hw2
  refine (hA.lvl_iff hs q2 q3).2 ?_
  rcases hc with hc | ⟨p,hp,hp1,hp2⟩
  ·omega
  ·obtain ⟨k,hk,rfl⟩:=List.mem_iff_getElem.1 hp
   have:k = j:=by
    have hpw:=List.pairwise_iff_getElem.1 hx.order
    rcases Nat.lt_trichotomy k j with h | h | h
    ·have:=hpw k j hk hj h; omega
    ·exact h
    ·have:=hpw j k hj hk h; omega
   subst this
   exact hp2
theorem OJ {self:Aa→Ag→List Ae→List Int→Option Int} {picks:List Ae} {vals:List Int} {c:Ag} {ts:List Int} (hl:c.Kids.length = ts.length) (h2:ts.length≤2) (h:∀ (k:Nat) (hk:k < c.Kids.length) (hk2:k < ts.length),self s c.Kids[k] picks vals = some ts[k]) {R:Int} (hR:Gc c.Op ts = some R) :
 iter (fun rec2 st=>Gx c self s picks vals (fun v13_2 b12_2=>(Gc c.Op b12_2).bind fun x81=>some x81) rec2 st.1 st.2) A6 (0,[]) = some R:=by
 refine Ok.val ?_
 refine Ok.for (fun q=>q.1) c.Kids.length (fun k q=>q.2 = ts.take k) 0 (Nat.zero_le _) rfl rfl (by omega) (fun rec q hq hI=>?_) fun rec k q hk hq hI ih=>?_
 ·simp only [Gx,hq,hI]
  rw [AO (by omega),hl,List.take_length]
  exact Ok.bindE hR (Ok.some rfl)
 ·simp only [Gx,hq,hI]
  rw [AC (by omega)]
  exact Ok.idxn hk (Ok.bindE (h k hk (by omega)) (Ok.rm (by simp; omega) (ih _ (CH (by omega)) (List.take_succ_eq_append_getElem (by omega)).symm)))
def bf (s:Aa) (picks:List Ae) (vals:List Int) (a:Ag):Option Int :=
 iter (fun rec1 st=>Gl picks a vals (fun v9_1 v10_1 v11_1=>(CM s a.Column v9_1 v10_1).bind fun x57=>(Bt s a x57).bind fun x58=>some x58) rec1 st.1 st.2.1 st.2.2) A6 (0,0,0)
theorem Zz (picks:List Ae) (vals:List Int) (f:Ag→Option Int):∀ (n d:Nat) {c:Ag},RC s n c→n < d→(∀ a∈J8 d c,∃ t,f a = some t∧bf s picks vals a = some t∧-1≤t∧t≤1)→∃ t,Bf d c f = some t∧BJ d s c picks vals = some t∧-1≤t∧t≤1
 | n,d + 1,c,h,hd,ha=>by
   have atom:Uy c = true→∃ t,Bf (d + 1) c f = some t∧BJ (d + 1) s c picks vals = some t∧-1≤t∧t≤1:=by
    intro e
    have ho:=Z8 e
    have n1:¬ c.Op = 1:=by omega
    have n5:¬ c.Op = 5:=by omega
    have n6:¬ c.Op = 6:=by omega
    have n7:¬ c.Op = 7:=by omega
    obtain ⟨t,h1,h2,h3⟩:=ha c (by unfold J8; rw [e]; simp)
    refine ⟨t,Ok.val ?_,Ok.val ?_,h3⟩
    ·show Ok (B3 d (Bf d) c f) _
     unfold B3
     exact Ok.no (by simpa using n1) (Ok.no (by simpa using n5) (Ok.no (by simpa using n6) (Ok.no (by simpa using n7) (Ok.bindE h1 (Ok.some rfl)))))
    ·show Ok (Cp d (BJ d) s c picks vals) _
     unfold Cp
     exact Ok.yes e (Ok.eq h2)
   have two:∀ (a b:Ag),c.Kids = [a,b]→Uy c = false→(∀ k∈[a,b],∃ t,Bf d k f = some t∧BJ d s k picks vals = some t∧-1≤t∧t≤1)→∃ ta tb,Bf d a f = some ta∧Bf d b f = some tb∧-1≤ta∧ta≤1∧-1≤tb∧tb≤1∧∀ R,Gc c.Op [ta,tb] = some R→BJ (d + 1) s c picks vals = some R:=by
    intro a b hk e hh
    obtain ⟨ta,a1,a2,a3,a4⟩:=hh a (by simp)
    obtain ⟨tb,b1,b2,b3,b4⟩:=hh b (by simp)
    refine ⟨ta,tb,a1,b1,a3,a4,b3,b4,fun R hR=>?_⟩
    refine Ok.val ?_
    show Ok (Cp d (BJ d) s c picks vals) _
    unfold Cp
    refine Ok.no e (Ok.eq (OJ (ts:=[ta,tb]) (by rw [hk]; rfl) (by simp) (fun k hk1 hk2=>?_) hR))
    have hk1':k < 2:=by simpa using hk2
    simp only [hk]
    match k,hk1' with
    | 0,_=>exact a2
    | 1,_=>exact b2
   have kidsIH:Uy c = false→∀ k∈c.Kids,∃ t,Bf d k f = some t∧BJ d s k picks vals = some t∧-1≤t∧t≤1:=by
    intro e k hk
    obtain ⟨m,hm,hrk⟩:=h.kids.2 k hk
    exact Zz picks vals f m d hrk (by omega) fun a haa=>ha a (by unfold J8; rw [e]; exact List.mem_flatMap.2 ⟨k,hk,haa⟩)
   cases h with
   | under=>exact atom rfl
   | between=>exact atom rfl
   | miss=>exact atom rfl
   | all =>
     refine ⟨1,Ok.val ?_,Ok.val ?_,by omega,by omega⟩
     ·show Ok (B3 d (Bf d) Sz f) _
      unfold B3
      exact Ok.yes rfl (Ok.some rfl)
     ·show Ok (Cp d (BJ d) s Sz picks vals) _
      unfold Cp
      exact Ok.no rfl (Ok.eq (OJ (c:=Sz) (ts:=[]) rfl (by simp) (fun k hk _=>by simp [Sz] at hk) rfl))
   | and n a b ha' hb' =>
     obtain ⟨ta,tb,a1,b1,a3,a4,b3,b4,hR⟩:=two a b rfl rfl (kidsIH rfl)
     refine ⟨if tb < ta then tb else ta,Ok.val ?_,hR _ rfl,by split <;> omega,by split <;> omega⟩
     show Ok (B3 d (Bf d) _ f) _
     unfold B3
     exact Ok.no rfl (Ok.yes rfl (Ok.bindE (x:=a) rfl (Ok.bindE a1 (Ok.bindE (x:=b) rfl (Ok.bindE b1 (Ok.some rfl))))))
   | or n a b ha' hb' =>
     obtain ⟨ta,tb,a1,b1,a3,a4,b3,b4,hR⟩:=two a b rfl rfl (kidsIH rfl)
     refine ⟨if tb > ta then tb else ta,Ok.val ?_,hR _ rfl,by split <;> omega,by split <;> omega⟩
     show Ok (B3 d (Bf d) _ f) _
     unfold B3
     exact Ok.no rfl (Ok.no rfl (Ok.yes rfl (Ok.bindE (x:=a) rfl (Ok.bindE a1 (Ok.bindE (x:=b) rfl (Ok.bindE b1 (Ok.some rfl)))))))
   | not n a ha' =>
     obtain ⟨ta,a1,a2,a3,a4⟩:=kidsIH rfl a (by simp)
     have ew:IntKind.i64.wrap (0 - ta) = 0 - ta:=wr (by omega) (by omega)
     refine ⟨IntKind.i64.wrap (0 - ta),Ok.val ?_,Ok.val ?_,by omega,by omega⟩
     ·show Ok (B3 d (Bf d) _ f) _
      unfold B3
      exact Ok.no rfl (Ok.no rfl (Ok.no rfl (Ok.yes rfl (Ok.bindE (x:=a) rfl (Ok.bindE a1 (Ok.some rfl))))))
     ·show Ok (Cp d (BJ d) s _ picks vals) _
      unfold Cp
      refine Ok.no rfl (Ok.eq (OJ (ts:=[ta]) rfl (by simp) (fun k hk1 hk2=>?_) rfl))
      have hk1':k < 1:=by simpa using hk2
      match k,hk1' with
      | 0,_=>exact a2
theorem cK (hs:DS s) {x:Au} (hx:GX s x) {r:List Int} (hr:r∈x.Rows) {a:Ag} {i:Nat} {S:Int→Prop} (hA:AT s a i S) {t u':Int} (h1:CM s i (lk x.Picks (r.drop 1) i x.Picks.length).1 (lk x.Picks (r.drop 1) i x.Picks.length).2 = some u') (h2:Bt s a u' = some t):bf s x.Picks (r.drop 1) a = some t:=by
 have hrl:=(hx.rows _ hr).1
 have hpl:=hx.picks_len hs
 have hvl:(r.drop 1).length = x.Picks.length:=by rw [List.length_drop]; omega
 refine Ok.val ?_
 unfold bf
 refine Ok.for (fun q=>q.2.2) x.Picks.length (fun k q=>(q.1,q.2.1) = lk x.Picks (r.drop 1) i k) 0 (Nat.zero_le _) rfl rfl (by omega) (fun rec q hq hI=>?_) fun rec k q hk hq hI ih=>?_
 ·simp only [Gl,hq]
  rw [AO (by omega),hA.col]
  have e1:q.1 = (lk x.Picks (r.drop 1) i x.Picks.length).1:=by rw [← hI]
  have e2:q.2.1 = (lk x.Picks (r.drop 1) i x.Picks.length).2:=by rw [← hI]
  rw [e1,e2]
  exact Ok.bindE h1 (Ok.bindE h2 (Ok.some rfl))
 ·simp only [Gl,hq]
  rw [AC (by omega),hA.col]
  have hk2:k < (r.drop 1).length:=by omega
  refine Ok.idxn hk (Ok.br (fun e=>Ok.idxn hk (Ok.idxn hk2 (ih _ (CH (by omega)) ?_))) fun e=>ih _ (CH (by omega)) ?_)
  ·rw [TH hk hk2,if_pos (by simpa using e)]
  ·rw [TH hk hk2,if_neg (by simpa using e)]
   exact hI
def ah (s:Aa) (picks:List Ae) (vals row:List Int) (k:Nat):Prop:=row.length = s.Columns.length∧∀ (i:Nat),1≤i→i < s.Columns.length→∃ u ok,Bb s i (lk picks vals i k).1 (lk picks vals i k).2 = some (u,ok)∧row[i]? = some u
theorem aR (hs:DS s) {x:Au} (hx:GX s x) {r:List Int} (hr:r∈x.Rows) (c:Ag) (d:Nat):∃ row,ah s x.Picks (r.drop 1) row x.Picks.length∧El d s c x.Picks (r.drop 1) = Bf d c (fun a0=>BT a0 s row):=by
 have hc:=hs.cols_length
 have hrl:=(hx.rows _ hr).1
 have hpl:=hx.picks_len hs
 have hvl:(r.drop 1).length = x.Picks.length:=by rw [List.length_drop]; omega
 suffices H:Ok ((some ():Option Unit)) (fun _=>∃ row,ah s x.Picks (r.drop 1) row x.Picks.length∧El d s c x.Picks (r.drop 1) = Bf d c (fun a0=>BT a0 s row)) by
  obtain ⟨_,_,h⟩:=H; exact h
 refine Ok.some ?_
 have run2:∀ m k (row:List Int),k + m = x.Picks.length→ah s x.Picks (r.drop 1) row k→∀ fu,m < fu→∃ row',ah s x.Picks (r.drop 1) row' x.Picks.length ∧
  iter (fun rec2 st=>EI x.Picks (r.drop 1) s (fun v36_2 b18_2=>(Gn d s c b18_2).bind fun x65=>some x65) rec2 st.1 st.2) fu ((k:Int),row) = Bf d c (fun a0=>BT a0 s row'):=by
  intro m
  induction m with
  | zero =>
    intro k row hk hrow fu hfu
    obtain ⟨fu,rfl⟩:∃ f,fu = f + 1:=⟨fu - 1,by omega⟩
    refine ⟨row,by rw [show x.Picks.length = k by omega]; exact hrow,?_⟩
    rw [Py]
    dsimp only
    unfold EI
    rw [AO (by omega)]
    unfold Gn
    dsimp only
    cases Bf d c (fun a0=>BT a0 s row) <;> rfl
  | succ m ih =>
    intro k row hk hrow fu hfu
    obtain ⟨fu,rfl⟩:∃ f,fu = f + 1:=⟨fu - 1,by omega⟩
    have hk1:k < x.Picks.length:=by omega
    have hk2:k < (r.drop 1).length:=by omega
    obtain ⟨⟨u,hu⟩,_⟩:=hx.vals hs hr k hk1 hk2
    obtain ⟨i,q0,q1,q2,_⟩:=hx.picks _ (List.getElem_mem hk1)
    have hnext:ah s x.Picks (r.drop 1) (row.set i u) (k + 1):=by
     refine ⟨by rw [List.length_set]; exact hrow.1,fun j j0 j1=>?_⟩
     rw [TH hk1 hk2]
     by_cases e:j = i
     ·subst e
      rw [if_pos q2]
      refine ⟨u,true,by rw [← q2]; exact hu,?_⟩
      rw [List.getElem?_set,if_pos rfl,if_pos (by rw [hrow.1]; omega)]
     ·rw [if_neg (by rw [q2]; omega)]
      obtain ⟨u2,ok2,a1,a2⟩:=hrow.2 j j0 j1
      exact ⟨u2,ok2,a1,by rw [List.getElem?_set,if_neg (fun h=>e h.symm)]; exact a2⟩
    obtain ⟨row',h1,h2⟩:=ih (k + 1) _ (by omega) hnext fu (by omega)
    refine ⟨row',h1,?_⟩
    rw [← h2]
    rw [Py]
    dsimp only
    unfold EI
    rw [AC (by omega),C4 hk1,Option.bind_some,C4 hk2,Option.bind_some,hu,Option.bind_some,q2]
    show (idx row (i:Int)).bind _ = _
    rw [C4 (by rw [hrow.1]; omega),Option.bind_some,CH (by omega),Int.toNat_natCast]
 have run1:∀ m k (row:List Int),1≤k→k + m = s.Columns.length→row.length = s.Columns.length→(∀ i:Nat,1≤i→i < k→∃ u ok,Bb s i 0 0 = some (u,ok)∧row[i]? = some u)→∀ fu,m < fu→∃ row',ah s x.Picks (r.drop 1) row' 0 ∧
  iter (fun rec1 st=>ED s (fun v10_1 b18_1=>EC x.Picks (r.drop 1) s d c b18_1) rec1 st.1 st.2) fu ((k:Int),row) = EC x.Picks (r.drop 1) s d c row':=by
  intro m
  induction m with
  | zero =>
    intro k row hk0 hk hrl hrow fu hfu
    obtain ⟨fu,rfl⟩:∃ f,fu = f + 1:=⟨fu - 1,by omega⟩
    refine ⟨row,⟨hrl,fun i i0 i1=>hrow i i0 (by omega)⟩,?_⟩
    rw [Py]
    dsimp only
    unfold ED
    rw [AO (by omega)]
  | succ m ih =>
    intro k row hk0 hk hrl hrow fu hfu
    obtain ⟨fu,rfl⟩:∃ f,fu = f + 1:=⟨fu - 1,by omega⟩
    obtain ⟨⟨u,ok⟩,hu⟩:=e8 hs hk0 (by omega:k < s.Columns.length)
    obtain ⟨row',h1,h2⟩:=ih (k + 1) (row.set k u) (by omega) (by omega) (by rw [List.length_set]; exact hrl) (fun i i0 i1=>by
     by_cases e:i = k
     ·subst e
      exact ⟨u,ok,hu,by rw [List.getElem?_set,if_pos rfl,if_pos (by omega)]⟩
     ·obtain ⟨u2,ok2,a1,a2⟩:=hrow i i0 (by omega)
      exact ⟨u2,ok2,a1,by rw [List.getElem?_set,if_neg (fun h=>e h.symm)]; exact a2⟩) fu (by omega)
    refine ⟨row',h1,?_⟩
    rw [← h2]
    rw [Py]
    dsimp only
    unfold ED
    rw [AC (by omega),hu,Option.bind_some,C4 (by omega),Option.bind_some,CH (by omega),Int.toNat_natCast]
 obtain ⟨row1,hr1,he1⟩:=run1 (s.Columns.length - 1) 1 (List.replicate s.Columns.length 0) (by omega) (by omega) (by simp) (fun i i0 i1=>by omega) A6 (by unfold A6; omega)
 obtain ⟨row2,hr2,he2⟩:=run2 x.Picks.length 0 row1 (by omega) hr1 A6 (by unfold A6; omega)
 refine ⟨row2,hr2,?_⟩
 unfold El
 rw [decide_eq_true (by omega),OA (by omega)]
 simp only [Bool.and_self,cond_true]
 rw [Int.toNat_natCast,← he2]
 exact he1
theorem Pt (hs:DS s) {x:Au} (hx:GX s x) {r:List Int} (hr:r∈x.Rows) {n d:Nat} {c:Ag} (h:RC s n c) (hd:n < d) (hcov:∀ a∈J8 d c,one x.Picks a.Column (O1 s a)) :
 ∃ t,El d s c x.Picks (r.drop 1) = some t∧BJ d s c x.Picks (r.drop 1) = some t∧-1≤t∧t≤1:=by
 obtain ⟨row,hrow,he⟩:=aR hs hx hr c d
 rw [he]
 refine Zz x.Picks (r.drop 1) _ n d h hd fun a ha=>?_
 obtain ⟨i,S,hA⟩:=Vd hs n d h a ha
 obtain ⟨t,u,u',h1,h2,h3,h4,h5⟩:=dX hs hx hr hA (hcov a ha)
 refine ⟨t,?_,cK hs hx hr hA h3 h4,h5⟩
 obtain ⟨u2,ok,a1,a2⟩:=hrow.2 i hA.i0 hA.i1
 rw [h1] at a1
 have hu:u = u2:=by have:=Option.some.inj a1; exact (Prod.mk.inj this).1
 subst hu
 refine Ok.val ?_
 show Ok (BT a s row) _
 unfold BT
 rw [hA.col]
 obtain ⟨hi,hg⟩:=List.getElem?_eq_some_iff.1 a2
 refine Ok.idxn hi ?_
 rw [hg]
 exact Ok.bindE h2 (Ok.some rfl)
end Go.Proofs.YtejfnieiaecpkaaGreatDoor.P
namespace Go.Proofs.YtejfnieiaecpkaaGreatDoor.P
open Go Go.Abs Go.Proofs
set_option maxRecDepth 100000
variable {s:Aa}
def QH (p:Nat→Bool) (n:Nat):List Nat:=(List.range n).filter p
theorem Pf (p:Nat→Bool) (n:Nat):QH p (n + 1) = bif p n then QH p n++[n] else QH p n:=by
 unfold QH
 rw [List.range_succ,List.filter_append]
 cases e:p n with
 | true=>rw [List.filter_cons_of_pos e]; rfl
 | false=>rw [List.filter_cons_of_neg (by simp [e])]; simp
theorem JH (p:Nat→Bool) (n:Nat):(QH p n).length≤n:=by
 have:=List.length_filter_le p (List.range n)
 rw [List.length_range] at this
 exact this
theorem d9 {p:Nat→Bool} {n j:Nat} (h:j∈QH p n):j < n∧p j = true:=by
 unfold QH at h
 rw [List.mem_filter,List.mem_range] at h
 exact h
theorem Ny (l:List Nat) (n:Nat):IA (l++[n]) = IA l++[(n:Int)]:=by simp [IA]
theorem Cb (l:List Nat):(IA l).length = l.length:=by simp [IA]
def D9 (d:Nat) (s:Aa) (c:Ag) (x:Au) (j:Nat):Bool:=BJ d s c x.Picks ((x.Rows.getD j []).drop 1)==some 1
theorem VZ {x:Au} (hs:DS s) (hx:GX s x) {n d:Nat} {c:Ag} (h:RC s n c) (hd:n < d) (hn:n≤3) (hcov:∀ a∈J8 d c,one x.Picks a.Column (O1 s a)):DZ d s x c = some (IA (QH (D9 d s c x) x.Rows.length)):=by
 have hpl:=hx.picks_len hs
 have hl:=hx.len
 refine Ok.val ?_
 unfold DZ
 refine Ok.bindE (h.check hs hn hd) (Ok.no rfl (Ok.bind (ct hs h hd hn) fun r hr=>?_))
 have hr1:=hr.len
 refine Ok.bindE (Rs _ _ (by omega) (by omega)) (Ok.no (by rw [(hr.covers _).2 hcov]; rfl) ?_)
 unfold Fd
 refine Ok.for (fun q=>q.1) x.Rows.length (fun k q=>q.2 = IA (QH (D9 d s c x) k)) 0 (Nat.zero_le _) rfl rfl (by omega) (fun rec q hq hI=>?_) fun rec k q hk hq hI ih=>?_
 ·simp only [Fa,hq,hI]
  rw [AO (by omega)]
  exact Ok.some rfl
 ·simp only [Fa,hq,hI]
  rw [AC (by omega)]
  have hr:=List.getElem_mem hk
  have hrl:=(hx.rows _ hr).1
  obtain ⟨t,h1,h2,_⟩:=Pt hs hx hr h hd hcov
  have hfl:=JH (D9 d s c x) k
  have hb:D9 d s c x k = (t==1):=by
   unfold D9
   rw [Rr hk,h2]
   rfl
  refine Ok.idxn hk (Ok.gdd (by omega) ?_)
  rw [eL]
  refine Ok.bindE h1 (Ok.br (fun e=>Ok.rm (by rw [Cb]; simp; omega) (ih _ (CH (by omega)) ?_)) fun e=>ih _ (CH (by omega)) ?_)
  ·rw [Pf,hb,e]; exact (Ny _ _).symm
  ·rw [Pf,hb,e]; rfl
theorem Tz {x:Au} (hs:DS s) (hx:GX s x) {r:List Int} (hr:r∈x.Rows) {n d:Nat} {c:Ag} (h:RC s n c) (hd:n < d) (hn:n≤3) (hcov:∀ a∈J8 d c,one x.Picks a.Column (O1 s a)) {t:Int} (ht:BJ d s c x.Picks (r.drop 1) = some t):Jy d s c x.Picks (r.drop 1) = some t:=by
 have hpl:=hx.picks_len hs
 have hrl:=(hx.rows _ hr).1
 refine Ok.val ?_
 unfold Jy
 refine Ok.bindE (h.rcheck hs hn hd) (Ok.no rfl (Ok.bindE (ca hs hx.picks hx.order (by omega)) (Ok.no ?_ (Ok.bind (N6 hs h hd hn) fun nd hnd=>?_))))
 ·have:(r.drop 1).length = x.Picks.length:=by rw [List.length_drop]; omega
  rw [this]
  simp
 have h1:=hnd.len
 refine Ok.bindE (P0 _ _ (by omega) (by omega)) (Ok.no (by rw [(hnd.covers _).2 hcov]; rfl) ?_)
 unfold HV
 refine Ok.for (fun q=>q) x.Picks.length (fun _ _=>True) 0 (Nat.zero_le _) rfl trivial (by omega) (fun rec q hq hI=>?_) fun rec k q hk hq hI ih=>?_
 ·simp only [HH,hq]
  rw [AO (by omega)]
  exact Ok.bindE ht (Ok.some rfl)
 ·simp only [HH,hq]
  rw [AC (by omega)]
  have hk2:k < (r.drop 1).length:=by rw [List.length_drop]; omega
  exact Ok.idxn hk (Ok.idxn hk (Ok.idxn hk2 (Ok.bindE (hx.vals hs hr k hk hk2).2 (Ok.no rfl (ih _ (CH (by omega)) trivial)))))
theorem cD {x:Au} (hs:DS s) (hx:GX s x) {n d:Nat} {c:Ag} (h:RC s n c) (hd:n < d) (hn:n≤3) (hcov:∀ a∈J8 d c,one x.Picks a.Column (O1 s a)):EH d s x c [] = some (IA (QH (D9 d s c x) x.Rows.length)):=by
 have hl:=hx.len
 refine Ok.val ?_
 unfold EH
 refine Ok.bindE (hx.rcheck hs) (Ok.no rfl ?_)
 refine Ok.for (fun q=>q.1) x.Rows.length (fun m q=>q.2 = IA (QH (D9 d s c x) m)) 0 (Nat.zero_le _) rfl rfl (by omega) (fun rec q hq hI=>?_) fun rec m q hm hq hI ih=>?_
 ·simp only [E0,hq,hI]
  rw [AO (by omega)]
  exact Ok.some rfl
 ·simp only [E0,hq,hI]
  rw [AC (by omega)]
  have hr:=List.getElem_mem hm
  have hrl:=(hx.rows _ hr).1
  obtain ⟨t,h1,h2,_⟩:=Pt hs hx hr h hd hcov
  have hfl:=JH (D9 d s c x) m
  have hb:D9 d s c x m = (t==1):=by
   unfold D9
   rw [Rr hm,h2]
   rfl
  refine Ok.idxn hm (Ok.gdd (by omega) ?_)
  rw [eL]
  refine Ok.bindE (Tz hs hx hr h hd hn hcov h2) ?_
  refine Ok.for (fun q=>q.2) 0 (fun _ q=>q.1 = (t==1)) 0 (Nat.zero_le _) rfl rfl (by omega) (fun rec2 q2 hq2 hI2=>?_) fun rec2 t q2 ht hq2 hI2 ih2=>absurd ht (by omega)
  simp only [Gm,hq2,hI2]
  refine Ok.no rfl ?_
  unfold E5
  refine Ok.br (fun e=>Ok.rm (by rw [Cb]; simp; omega) (ih _ (CH (by omega)) ?_)) fun e=>ih _ (CH (by omega)) ?_
  ·rw [Pf,hb,e]; exact (Ny _ _).symm
  ·rw [Pf,hb,e]; rfl
end Go.Proofs.YtejfnieiaecpkaaGreatDoor.P
