/- Plain laws: Q3 .. Q12. -/
import Derived.Test.YtejfnieiaecpkaaGreatDoorQA
set_option linter.unusedVariables false
set_option linter.unusedSimpArgs false
namespace Go.Proofs.YtejfnieiaecpkaaGreatDoor.P
open Go Go.Abs Go.Proofs
set_option maxRecDepth 100000
variable {s:Aa}
theorem Hy (n a b:Int):Dm n a b = some (decide (a≤n∧n≤b)):=by
 unfold Dm
 by_cases h:a≤n <;> by_cases h2:n≤b <;> simp [h,h2]
theorem WI {w:List Int} (h:w∈Lu):w = [1]∨w = [1,5]∨w = [1,5,20]∨w = [1,2,4,12]:=by simpa [Lu] using h
theorem c6 {c:Av} (h:Ci c):Hw c = some 0:=by
 have hw:Hi c = some 0:=by
  obtain ⟨n,k,li,lo,hi,w,o⟩:=c
  rcases WI h.widths with e | e | e | e <;> (simp only at e; subst e; rfl)
 obtain ⟨h1,h2⟩:=h.low
 obtain ⟨h3,h4⟩:=h.high
 unfold Hw
 rw [Hy,Option.bind_some,decide_eq_true (by omega),Hy,Option.bind_some,decide_eq_true (by omega),decide_eq_false (by omega),hw]
 rfl
theorem cE {c:Av} (h:Ci c):DH c = some 0:=by
 have hw:(bif (bif (((c.Widths.length:Nat):Int)==0) then true else (decide (((c.Widths.length:Nat):Int) > 4))) then some 1 else iter (fun rec1 s=>FI c (fun v3_1 v36_1=>some 0) rec1 s.1 s.2) A6 (1,0)) = some 0:=by
  obtain ⟨n,k,li,lo,hi,w,o⟩:=c
  rcases WI h.widths with e | e | e | e <;> (simp only at e; subst e; rfl)
 obtain ⟨h1,h2⟩:=h.low
 obtain ⟨h3,h4⟩:=h.high
 unfold DH
 rw [decide_eq_false (by omega),decide_eq_false (by omega),decide_eq_false (by omega)]
 simp only [cond_false]
 exact hw
def fg (i:Nat) (c:Av):Prop:=(i = 0∧c = dV)∨(1≤i∧(It c∨Ci c))
theorem DS.cl (h:DS s) {i:Nat} (hi:i < s.Columns.length):fg i s.Columns[i]:=by
 rcases Nat.eq_zero_or_pos i with rfl | h0
 ·exact .inl ⟨rfl,h.col0 hi⟩
 ·exact .inr ⟨h0,h.col h0 hi⟩
theorem fg.kinds {i:Nat} {c:Av} (h:fg i c):(c.Kind = 1∨c.Kind = 2∨c.Kind = 3)∧(c.Kind = 1→i = 0):=by
 rcases h with ⟨rfl,rfl⟩ | ⟨h0,h | h⟩
 ·exact ⟨.inl rfl,fun _=>rfl⟩
 ·rw [h.kind]; exact ⟨.inr (.inl rfl),fun e=>by omega⟩
 ·rw [h.kind]; exact ⟨.inr (.inr rfl),fun e=>by omega⟩
theorem UP {i:Nat} {c:Av} (h:fg i c):E1 c = some 0:=by
 rcases h with ⟨rfl,rfl⟩ | ⟨h0,h | h⟩
 ·rfl
 ·obtain ⟨n,k,li,lo,hi,w,o⟩:=c
  obtain ⟨h1,h2,h3,h4,h5,h6⟩:=h
  simp only at h1 h2 h3 h4 h5 h6
  subst h1; subst h3; subst h4; subst h5; subst h6
  rfl
 ·unfold E1
  rw [c6 h,h.kind,h.list]
  rfl
theorem d5 (h:DS s) {i:Nat} (hi:i < s.Columns.length):Jz s i = some 0:=by
 have hcol:=h.cl hi
 have hk:=hcol.kinds
 have hl:=h.lists2
 refine Ok.val ?_
 unfold Jz
 refine Ok.idxn hi (Ok.bindE (h.name hi).1 ?_)
 simp only [Bool.not_true,Bool.not_false,cond_true,cond_false]
 refine Ok.for (fun s=>s) i (fun _ _=>True) 0 (Nat.zero_le _) rfl trivial (by have:=h.cols_length; omega) (fun rec q hq _=>?_) fun rec k q hk2 hq _ ih=>?_
 ·simp only [HE,hq]
  rw [AO (by omega)]
  unfold HT
  rw [Hy,Option.bind_some,decide_eq_true (by omega)]
  have e1:(bif decide ((i:Int) > 0) then s.Columns[i].Kind==1 else false) = false:=by
   by_cases e:i = 0
   ·subst e; rfl
   ·have:s.Columns[i].Kind≠1:=fun h1=>e (hk.2 h1)
    simp [this]
  rw [e1]
  show Ok (bif (s.Columns[i].Kind==2) then _ else _) _
  refine Ok.br (fun he=>?_) fun _=>Ok.eq (UP hcol)
  have he:s.Columns[i].Kind = 2:=by simpa using he
  have hlist:s.Columns[i].List_ = 0∨s.Columns[i].List_ = 1:=by
   rcases hcol with ⟨rfl,e⟩ | ⟨_,h | h⟩
   ·rw [e]; exact .inl rfl
   ·exact h.list
   ·exact .inl h.list
  rw [Hy,Option.bind_some,hl,decide_eq_true (by rw [wr (by omega) (by omega)]; omega)]
  exact Ok.eq (UP hcol)
 ·simp only [HE,hq]
  rw [AC (by omega)]
  refine Ok.idxn (by omega:k < s.Columns.length) ?_
  rw [(h.name_ne hi hk2).1]
  refine ih _ ?_ trivial
  show IntKind.i64.wrap ((k:Int) + 1) = _
  have:=h.cols_length
  rw [wr (by omega) (by omega)]; omega
theorem DS.lname (h:DS s) (h0:0 < s.Lists.length) (h1:1 < s.Lists.length):s.Lists[0].Name = T8∧s.Lists[1].Name = W8:=by
 obtain ⟨a,ha,b,hb,e⟩:=h.lists
 have e0:s.Lists[0]? = some { Name:=T8,Codes:=a }:=by rw [e]; rfl
 have e1:s.Lists[1]? = some { Name:=W8,Codes:=b }:=by rw [e]; rfl
 rw [List.getElem?_eq_getElem h0] at e0
 rw [List.getElem?_eq_getElem h1] at e1
 rw [Option.some.inj e0,Option.some.inj e1]
 exact ⟨rfl,rfl⟩
theorem ZC:(T8.toList==W8.toList) = false:=by decide +kernel
theorem DS.rcheck (h:DS s):C3 s = some 0:=by
 have hl:=h.lists2
 have hc:=h.cols_length
 refine Ok.val ?_
 unfold C3
 rw [decide_eq_false (by omega),decide_eq_false (by omega)]
 simp only [Bool.not_true,Bool.not_false,cond_true,cond_false]
 refine Ok.for (fun s=>s) s.Lists.length (fun _ _=>True) 0 (Nat.zero_le _) rfl trivial (by omega) (fun rec q hq _=>?_) fun rec i q hi hq _ ih=>?_
 ·simp only [IR,hq]
  rw [AO (by omega)]
  unfold J2
  have e0:(((s.Columns.length:Nat):Int)==0) = false:=by rw [beq_eq_false_iff_ne]; omega
  rw [e0]
  show Ok ((idx s.Columns 0).bind _) _
  refine Ok.idxn (i:=0) (by omega) ?_
  rw [h.col0]
  refine Ok.no rfl ?_
  refine Ok.for (fun s=>s) s.Columns.length (fun _ _=>True) 0 (Nat.zero_le _) rfl trivial (by omega) (fun rec q hq _=>?_) fun rec i q hi hq _ ih=>?_
  ·simp only [Jp,hq]
   rw [AO (by omega)]
   exact Ok.some rfl
  ·simp only [Jp,hq]
   rw [AC (by omega)]
   refine Ok.bindE (d5 h hi) (ih _ ?_ trivial)
   show IntKind.i64.wrap ((i:Int) + 1) = _
   rw [wr (by omega) (by omega)]; omega
 ·simp only [IR,hq]
  rw [AC (by omega)]
  refine Ok.idxn hi (Ok.bindE (K2 (h.list hi)).rcheck ?_)
  refine Ok.no rfl ?_
  refine Ok.for (fun s=>s) i (fun _ _=>True) 0 (Nat.zero_le _) rfl trivial (by omega) (fun rec2 q hq _=>?_) fun rec2 k q hk hq _ ih2=>?_
  ·simp only [J4,hq]
   rw [AO (by omega)]
   refine ih _ ?_ trivial
   show IntKind.i64.wrap ((i:Int) + 1) = _
   rw [wr (by omega) (by omega)]; omega
  ·simp only [J4,hq]
   rw [AC (by omega)]
   refine Ok.idxn (by omega:k < s.Lists.length) (Ok.idxn hi ?_)
   obtain rfl:k = 0:=by omega
   obtain rfl:i = 1:=by omega
   have hn:=h.lname (by omega) (by omega)
   rw [hn.1,hn.2,ZC]
   refine ih2 _ ?_ trivial
   show IntKind.i64.wrap (((0:Nat):Int) + 1) = _
   rw [wr (by omega) (by omega)]; omega
theorem eF {α:Type} (l:List α) {i:Nat} (hi:i≤l.length):Mw l 0 (i:Int) = l.take i:=by simp [Mw]
theorem dj {i:Nat} {c:Av} (h:fg i c):DV c = some true:=by
 rcases h with ⟨rfl,rfl⟩ | ⟨h0,h | h⟩
 ·rfl
 ·obtain ⟨n,k,li,lo,hi,w,o⟩:=c
  obtain ⟨h1,h2,h3,h4,h5,h6⟩:=h
  simp only at h1 h2 h3 h4 h5 h6
  subst h1; subst h3; subst h4; subst h5; subst h6
  rfl
 ·unfold DV
  rw [h.kind,h.list]
  rfl
theorem d6 (h:DS s) {i:Nat} (hi:i < s.Columns.length):Ek s i = some 0:=by
 have hcol:=h.cl hi
 have hl:=h.lists2
 have hc:=h.cols_length
 refine Ok.val ?_
 unfold Ek
 refine Ok.idxn hi (Ok.bindE (h.name hi).2 (Ok.gdd (by omega) ?_))
 rw [eF _ (by omega)]
 refine Ok.bindE (al (fun a=>a.Name.toList==s.Columns[i].Name.toList) (fun x _=>rfl) (by simp; omega)) ?_
 have:(s.Columns.take i).any (fun a=>a.Name.toList==s.Columns[i].Name.toList) = false:=by
  rw [List.any_eq_false]
  intro x hx
  obtain ⟨k,hk,rfl⟩:=List.mem_iff_getElem.1 hx
  have hki:k < i:=by simp at hk; omega
  rw [List.getElem_take,(h.name_ne hi hki).1]
  simp
 rw [this]
 show Ok (bif (s.Columns[i].Kind==1) then _ else _) _
 have fin:Ok ((DV s.Columns[i]).bind fun x49=>bif (!x49) then some 11 else some 0) (· = (0:Int)):=Ok.bindE (dj hcol) (Ok.some rfl)
 rcases hcol with ⟨rfl,e⟩ | ⟨h0,h1 | h1⟩
 ·rw [e]; rw [e] at fin; exact fin
 ·rw [h1.kind]
  have:(bif decide (s.Columns[i].List_ < 0) then true else decide (s.Columns[i].List_ ≥ ((s.Lists.length:Nat):Int))) = false:=by
   rcases h1.list with e | e <;> (rw [e,hl]; rfl)
  show Ok (bif (bif decide (s.Columns[i].List_ < 0) then true else decide (s.Columns[i].List_ ≥ ((s.Lists.length:Nat):Int))) then _ else _) _
  rw [this]
  exact fin
 ·rw [h1.kind]
  exact Ok.bindE (cE h1) fin
theorem DS.check (h:DS s):Dc s = some 0:=by
 have hl:=h.lists2
 have hc:=h.cols_length
 refine Ok.val ?_
 unfold Dc
 rw [decide_eq_false (by omega),decide_eq_false (by omega)]
 simp only [Bool.not_true,Bool.not_false,cond_true,cond_false]
 refine Ok.for (fun s=>s) s.Lists.length (fun _ _=>True) 0 (Nat.zero_le _) rfl trivial (by omega) (fun rec q hq _=>?_) fun rec i q hi hq _ ih=>?_
 ·simp only [HX,hq]
  rw [AO (by omega)]
  unfold HQ
  have e0:(((s.Columns.length:Nat):Int)==0) = false:=by rw [beq_eq_false_iff_ne]; omega
  rw [e0]
  show Ok ((idx s.Columns 0).bind _) _
  refine Ok.idxn (i:=0) (by omega) ?_
  rw [h.col0]
  refine Ok.no rfl ?_
  refine Ok.for (fun s=>s) s.Columns.length (fun _ _=>True) 0 (Nat.zero_le _) rfl trivial (by omega) (fun rec q hq _=>?_) fun rec i q hi hq _ ih=>?_
  ·simp only [HZ,hq]
   rw [AO (by omega)]
   exact Ok.some rfl
  ·simp only [HZ,hq]
   rw [AC (by omega)]
   refine Ok.bindE (d6 h hi) (ih _ ?_ trivial)
   show IntKind.i64.wrap ((i:Int) + 1) = _
   rw [wr (by omega) (by omega)]; omega
 ·simp only [HX,hq]
  rw [AC (by omega)]
  refine Ok.idxn hi (Ok.bindE (K2 (h.list hi)).check ?_)
  show Ok (bif decide _ then _ else none) _
  refine Ok.gdd (by omega) ?_
  rw [eF _ (by omega)]
  refine Ok.bindE (X8 (fun a=>a.Name.toList==s.Lists[i].Name.toList) (fun x _=>rfl) (by simp; omega)) ?_
  have:(s.Lists.take i).any (fun a=>a.Name.toList==s.Lists[i].Name.toList) = false:=by
   rw [List.any_eq_false]
   intro x hx
   obtain ⟨k,hk,rfl⟩:=List.mem_iff_getElem.1 hx
   have hki:k < i:=by simp at hk; omega
   obtain rfl:k = 0:=by omega
   obtain rfl:i = 1:=by omega
   have hn:=h.lname (by omega) (by omega)
   rw [List.getElem_take,hn.1,hn.2,ZC]
   simp
  rw [this]
  refine ih _ ?_ trivial
  show IntKind.i64.wrap ((i:Int) + 1) = _
  rw [wr (by omega) (by omega)]; omega
end Go.Proofs.YtejfnieiaecpkaaGreatDoor.P
namespace Go.Proofs.YtejfnieiaecpkaaGreatDoor.P
open Go Go.Abs Go.Proofs
set_option maxRecDepth 100000
variable {s:Aa}
theorem CH {i:Nat} (h:i≤1000000000000):IntKind.i64.wrap ((i:Int) + 1) = ((i + 1:Nat):Int):=by rw [wr (by omega) (by omega)]; omega
def Bq:Int:=-1099511627776
def Wc (s:Aa) (c:Av) (v:Int):Prop :=
 (c.Kind = 1∧1≤v∧v≤1000)∨(c.Kind = 2∧∃ L,L∈Su∧idx s.Lists c.List_ = some L∧v∈Bg L)∨(c.Kind = 3∧((c.Low≤v∧v≤c.High)∨(c.Optional = true∧v = Bq)))
def Nk (s:Aa) (r:List Int):Prop:=r.length = s.Columns.length∧∀ (i:Nat) c v,s.Columns[i]? = some c→r[i]? = some v→Wc s c v
theorem DS.clist (h:DS s) {c:Av} (hc:It c):∃ L,L∈Su∧idx s.Lists c.List_ = some L:=by
 have hl:=h.lists2
 rcases hc.list with e | e
 ·have h0:0 < s.Lists.length:=by omega
  exact ⟨_,h.list h0,by rw [e]; exact C4 (i:=0) h0⟩
 ·have h1:1 < s.Lists.length:=by omega
  exact ⟨_,h.list h1,by rw [e]; exact C4 (i:=1) h1⟩
theorem SE {s:Aa} {i:Int} {c:Av} {L:Am} (hc:idx s.Columns i = some c) (hL:idx s.Lists c.List_ = some L) (hL2:L∈Su):Cg s i = some (Bg L):=by
 have h:=K2 hL2
 have h2:=h.lev2
 have h3:=h.lev3
 unfold Cg
 rw [hc,Option.bind_some,hL,Option.bind_some,h.rlev,Option.bind_some,wr (by omega) (by omega),h.rleaves]
 rfl
theorem NB:(Su.all fun l=>decide ((Bg l).length≤10)) = true:=by decide +kernel
theorem cF (h:DS s) {c:Ab} (hc:GE c) {i:Nat} (hi:i < s.Columns.length):Ok (Fj c s i) fun r=>GE r.2∧Wc s s.Columns[i] r.1:=by
 unfold Fj
 refine Ok.idxn hi ?_
 have hidx:idx s.Columns (i:Int) = some s.Columns[i]:=C4 hi
 generalize hcc:s.Columns[i] = cl at hidx ⊢
 have hcol:=h.cl hi
 rw [hcc] at hcol
 rcases hcol with ⟨rfl,e⟩ | ⟨h0,h1 | h1⟩
 ·subst e
  refine Ok.yes rfl (Ok.bind (Gi hc (by omega) (by omega) (by omega) (by omega)) fun x hx=>Ok.some ⟨hx.1,.inl ⟨rfl,hx.2.1,by show x.1≤1000; omega⟩⟩)
 ·obtain ⟨L,hL,hL2⟩:=h.clist h1
  have hcl:=K2 hL
  refine Ok.no (by rw [h1.kind]; rfl) (Ok.yes (by rw [h1.kind]; rfl) (Ok.bindE (SE hidx hL2 hL) ?_))
  have hs:(Bg L).length≤10:=by have:=List.all_eq_true.1 NB L hL; simpa using this
  have hne:0 < (Bg L).length:=List.length_pos_iff.2 hcl.some_
  refine Ok.bind (Dk hc (by omega) (by omega)) fun x hx=>?_
  refine Ok.idx hx.2.1 (by omega) (Ok.some ⟨hx.1,.inr (.inl ⟨h1.kind,L,hL,hL2,List.getElem_mem _⟩)⟩)
 ·obtain ⟨h2,h3⟩:=h1.low
  obtain ⟨h4,h5⟩:=h1.high
  refine Ok.no (by rw [h1.kind]; rfl) (Ok.no (by rw [h1.kind]; rfl) ?_)
  have rg:∀ {c':Ab},GE c'→Ok ((AJ c' cl.Low cl.High).bind fun x43=>some (x43.1,x43.2)) fun r=>GE r.2∧Wc s cl r.1:=fun hc' =>
   Ok.bind (Gi hc' h4 (by omega) (by omega) (by omega)) fun x hx=>Ok.some ⟨hx.1,.inr (.inr ⟨h1.kind,.inl hx.2⟩)⟩
  refine Ok.br (fun ho=>Ok.bind (NQ hc (by omega) (by omega)) fun x hx=>Ok.br (fun _=>Ok.some ⟨hx,.inr (.inr ⟨h1.kind,.inr ⟨ho,rfl⟩⟩)⟩) fun _=>rg hx) fun _=>rg hc
theorem bw (h:DS s) {c:Ab} (hc:GE c):Ok (GP c s) fun r=>GE r.2∧Nk s r.1:=by
 have hl:=h.cols_length
 unfold GP
 refine Ok.for (fun q=>q.1) s.Columns.length (fun i q=>GE q.2.1∧q.2.2.length = i∧∀ (k:Nat) c v,s.Columns[k]? = some c→q.2.2[k]? = some v→Wc s c v) 0 (Nat.zero_le _) rfl ⟨hc,rfl,fun k c v _ h=>by simp at h⟩ (by omega) (fun rec q hq hI=>?_) fun rec i q hi hq hI ih=>?_
 ·simp only [G7,hq]
  rw [AO (by omega)]
  exact Ok.some ⟨hI.1,hI.2.1,hI.2.2⟩
 ·simp only [G7,hq]
  rw [AC (by omega)]
  refine Ok.bind (cF h hI.1 hi) fun x hx=>Ok.rm (by rw [hI.2.1]; simp; omega) (ih _ (CH (by omega)) ⟨hx.1,by simp [hI.2.1],fun k cc v hk hv=>?_⟩)
  rw [List.getElem?_append] at hv
  split at hv
  ·exact hI.2.2 k cc v hk hv
  ·rename_i hlt
   have hk0:k = i:=by
    have:=(List.getElem?_eq_some_iff.1 hv).1
    simp at this; omega
   subst hk0
   rw [hI.2.1] at hv
   simp at hv
   rw [List.getElem?_eq_getElem hi] at hk
   cases hk; subst hv
   exact hx.2
def hd (r:List Int):Int:=r.headD 0
theorem Ft {r:List Int} (h:r≠[]):idx r 0 = some (hd r):=by
 cases r with
 | nil=>exact absurd rfl h
 | cons a q=>rfl
def b5 (l:List (List Int)):Prop:=l.Pairwise fun a b=>hd a < hd b
def Ss (l:List (List Int)) (row:List Int):List (List Int):=l.filter (fun x=>decide (hd x < hd row))++row :: l.filter (fun x=>decide (hd row < hd x))
theorem QO {l:List (List Int)} {row:List Int} (h:b5 l):b5 (Ss l row):=by
 unfold b5 Ss
 rw [List.pairwise_append,List.pairwise_cons]
 refine ⟨h.sublist List.filter_sublist,⟨fun x hx=>?_,h.sublist List.filter_sublist⟩,fun x hx y hy=>?_⟩
 ·have:=(List.mem_filter.1 hx).2; simpa using this
 ·have h1:=(List.mem_filter.1 hx).2
  rcases List.mem_cons.1 hy with rfl | hy
  ·simpa using h1
  ·have h2:=(List.mem_filter.1 hy).2
   simp at h1 h2; omega
theorem Rj {l:List (List Int)} {row x:List Int} (h:x∈Ss l row):x = row∨x∈l:=by
 unfold Ss at h
 rcases List.mem_append.1 h with h | h
 ·exact .inr (List.mem_filter.1 h).1
 ·rcases List.mem_cons.1 h with h | h
  ·exact .inl h
  ·exact .inr (List.mem_filter.1 h).1
theorem K6 (l:List (List Int)) (row:List Int):(Ss l row).length≤l.length + 1:=by
 unfold Ss
 rw [List.length_append,List.length_cons]
 have:(l.filter (fun x=>decide (hd x < hd row))).length + (l.filter (fun x=>decide (hd row < hd x))).length≤l.length:=by
  induction l with
  | nil=>simp
  | cons a r ih =>
    simp only [List.filter_cons,List.length_cons]
    by_cases h1:hd a < hd row <;> by_cases h2:hd row < hd a <;> simp [h1,h2] <;> omega
 omega
theorem JJ {α:Type} (l:List α) (p:α→Bool) {i:Nat} (hi:i < l.length):(l.take (i + 1)).filter p = (l.take i).filter p++if p l[i] then [l[i]] else []:=by
 rw [List.take_succ_eq_append_getElem hi,List.filter_append]
 congr 1
 simp only [List.filter_cons,List.filter_nil]
theorem Xi {l:List (List Int)} {row:List Int} (hl:∀ x∈l,x≠[]) (hr:row≠[]) (hs:b5 l) (hlen:l.length≤1000000):Lv l row = some (Ss l row):=by
 refine Ok.val ?_
 unfold Lv
 refine Ok.for (fun q=>q.2.1) l.length (fun i q=>(q.1 = false∧(∀ x∈l.take i,hd x≤hd row)∧q.2.2 = (l.take i).filter (fun x=>decide (hd x < hd row))) ∨
  (q.1 = true∧(∃ x∈l.take i,hd row < hd x)∧q.2.2 = (l.take i).filter (fun x=>decide (hd x < hd row))++row :: (l.take i).filter (fun x=>decide (hd row < hd x)))) 0 (Nat.zero_le _) rfl (.inl ⟨rfl,by simp,by simp⟩) (by omega) (fun rec q hq hI=>?_) fun rec i q hi hq hI ih=>?_
 ·simp only [La,hq]
  rw [AO (by omega)]
  rw [List.take_length] at hI
  rcases hI with ⟨h1,h2,h3⟩ | ⟨h1,h2,h3⟩
  ·rw [h1]
   refine Ok.yes rfl (Ok.rm ?_ (Ok.some ?_))
   ·rw [h3]; have:=List.length_filter_le (fun x=>decide (hd x < hd row)) l; simp; omega
   ·rw [h3,Ss]
    congr 2
    symm
    rw [List.filter_eq_nil_iff]
    intro x hx
    have:=h2 x hx
    simp; omega
  ·rw [h1]
   exact Ok.no rfl (Ok.some h3)
 ·simp only [La,hq]
  rw [AC (by omega)]
  have hne:=hl _ (List.getElem_mem hi)
  have hmem:∀ x∈l.take i,hd x < hd l[i]:=by
   intro x hx
   obtain ⟨k,hk,rfl⟩:=List.mem_iff_getElem.1 hx
   have hk2:k < i:=by simp at hk; omega
   rw [List.getElem_take]
   exact (List.pairwise_iff_getElem.1 hs) k i (by omega) hi hk2
  have hf1:=JJ l (fun x=>decide (hd x < hd row)) hi
  have hf2:=JJ l (fun x=>decide (hd row < hd x)) hi
  have hlen1:q.2.2.length≤i + 1:=by
   have e0:(l.take i).length = i:=by simp; omega
   have e1:((l.take i).filter (fun x=>decide (hd x < hd row))).length + ((l.take i).filter (fun x=>decide (hd row < hd x))).length≤i:=by
    have:=K6 (l.take i) row
    unfold Ss at this
    rw [List.length_append,List.length_cons,e0] at this
    omega
   rcases hI with ⟨_,_,h3⟩ | ⟨_,_,h3⟩
   ·rw [h3]; omega
   ·rw [h3,List.length_append,List.length_cons]; omega
  refine Ok.idxn hi (Ok.bindE (Ft hne) (Ok.bindE (Ft hr) (Ok.br (fun heq=>ih _ (CH (by omega)) ?_) fun hneq=>?_)))
  ·have heq:hd l[i] = hd row:=by simpa using heq
   rw [hf1,hf2]
   have e1:decide (hd l[i] < hd row) = false:=decide_eq_false (by omega)
   have e2:decide (hd row < hd l[i]) = false:=decide_eq_false (by omega)
   simp only [e1,e2,Bool.false_eq_true,if_false,List.append_nil]
   rcases hI with ⟨h1,h2,h3⟩ | ⟨h1,h2,h3⟩
   ·refine .inl ⟨h1,fun x hx=>?_,h3⟩
    rw [List.take_succ_eq_append_getElem hi] at hx
    rcases List.mem_append.1 hx with hx | hx
    ·exact h2 x hx
    ·simp at hx; subst hx; omega
   ·obtain ⟨x,hx,hx2⟩:=h2
    have:=hmem x hx
    omega
  ·have hneq:hd l[i]≠hd row:=by simpa using hneq
   refine Ok.idxn hi (Ok.bindE (Ft hne) (Ok.bindE (Ft hr) (Ok.br (fun hc=>?_) fun hc=>?_)))
   ·
    obtain ⟨hgt,hnd⟩:hd row < hd l[i]∧q.1 = false:=by
     by_cases hg:hd l[i] > hd row
     ·rw [decide_eq_true hg] at hc; exact ⟨hg,by simpa using hc⟩
     ·rw [decide_eq_false hg] at hc; cases hc
    rcases hI with ⟨h1,h2,h3⟩ | ⟨h1,h2,h3⟩
    ·refine Ok.rm (by simp; omega) (Ok.idxn hi (Ok.rm (by simp; omega) (ih _ (CH (by omega)) (.inr ⟨rfl,⟨l[i],?_,hgt⟩,?_⟩))))
     ·rw [List.take_succ_eq_append_getElem hi]; exact List.mem_append_right _ (List.mem_singleton.2 rfl)
     ·rw [hf1,hf2,decide_eq_false (by omega),decide_eq_true hgt,h3]
      have:(l.take i).filter (fun x=>decide (hd row < hd x)) = []:=by
       rw [List.filter_eq_nil_iff]
       intro x hx
       have:=h2 x hx
       simp; omega
      rw [this]
      simp
    ·rw [h1] at hnd; cases hnd
   ·refine Ok.idxn hi (Ok.rm (by simp; omega) (ih _ (CH (by omega)) ?_))
    rw [hf1,hf2]
    rcases hI with ⟨h1,h2,h3⟩ | ⟨h1,h2,h3⟩
    ·have hlt:hd l[i] < hd row:=by
      by_cases hg:hd l[i] > hd row
      ·rw [decide_eq_true hg,h1] at hc; cases hc
      ·omega
     refine .inl ⟨h1,fun x hx=>?_,by rw [decide_eq_true hlt,h3]; simp⟩
     rw [List.take_succ_eq_append_getElem hi] at hx
     rcases List.mem_append.1 hx with hx | hx
     ·exact h2 x hx
     ·simp at hx; subst hx; omega
    ·obtain ⟨x,hx,hx2⟩:=h2
     have hxi:=hmem x hx
     refine .inr ⟨h1,⟨x,?_,hx2⟩,?_⟩
     ·rw [List.take_succ_eq_append_getElem hi]; exact List.mem_append_left _ hx
     ·rw [decide_eq_false (by omega:¬ hd l[i] < hd row),decide_eq_true (by omega:hd row < hd l[i]),h3]
      simp
structure Tn (x:B2) (n:Nat):Prop where
 schema:DS x.Schema
 rows:∀ r∈x.Rows,Nk x.Schema r
 asc:b5 x.Rows
 len:x.Rows.length≤n
 gone:x.Gone = []
 version:x.Version = 0
theorem Nk.ne (h:DS s) {r:List Int} (hr:Nk s r):r≠[]:=by
 intro e
 have:=hr.1
 have:=h.cols_length
 rw [e] at *
 simp at *
 omega
theorem ae {c:Ab} (hc:GE c) {n:Nat} (hn:n≤50):Ok (Cj c n) fun r=>GE r.2∧Tn r.1 n:=by
 unfold Cj
 refine Ok.bind (Sd hc) fun x hx=>?_
 have e:IntKind.i64.wrap ((n:Int) + 1) = (n:Int) + 1:=wr (by omega) (by omega)
 rw [e]
 refine Ok.bind (Dk hx.1 (by omega) (by omega)) fun y hy=>?_
 obtain ⟨hy1,hy2,hy3⟩:=hy
 refine Ok.loop (fun q=>0≤q.1∧GE q.2.1∧(∀ r∈q.2.2,Nk x.1 r)∧b5 q.2.2∧(q.2.2.length:Int) + q.1≤n) (fun q=>q.1.toNat) ⟨hy2,hy1,(fun r hr=>by cases hr),List.Pairwise.nil,by show ((0:Nat):Int) + y.1≤n; omega⟩ (by unfold A6; show y.1.toNat < _; omega) fun rec q hq ih=>?_
 obtain ⟨h0,h1,h2,h3,h4⟩:=hq
 simp only [EJ]
 refine Ok.brd (fun hp=>Ok.bind (bw hx.2 h1) fun z hz=>?_) fun hp=>?_
 ·have hput:=Xi (l:=q.2.2) (row:=z.1) (fun r hr=>(h2 r hr).ne hx.2) (hz.2.ne hx.2) h3 (by omega)
  have hpl:=K6 q.2.2 z.1
  refine Ok.bindE hput (ih _ ⟨?_,hz.1,fun r hr=>?_,QO h3,?_⟩ ?_)
  ·show 0≤IntKind.i64.wrap (q.1 - 1); rw [wr (by omega) (by omega)]; omega
  ·rcases Rj hr with rfl | hr
   ·exact hz.2
   ·exact h2 r hr
  ·show ((Ss q.2.2 z.1).length:Int) + IntKind.i64.wrap (q.1 - 1)≤n; rw [wr (by omega) (by omega)]; omega
  ·show (IntKind.i64.wrap (q.1 - 1)).toNat < q.1.toNat; rw [wr (by omega) (by omega)]; omega
 ·exact Ok.some ⟨h1,hx.2,h2,h3,by show q.2.2.length≤n; omega,rfl,rfl⟩
end Go.Proofs.YtejfnieiaecpkaaGreatDoor.P
namespace Go.Proofs.YtejfnieiaecpkaaGreatDoor.P
open Go Go.Abs Go.Proofs
set_option maxRecDepth 100000
variable {s:Aa}
abbrev DD:Nat:=60
def Sz:Ag:={ Op:=1,Column:=0,Code:=0,Low:=0,High:=0,Kids:=[] }
def Nz:Ag:={ Op:=0,Column:=0,Code:=0,Low:=0,High:=0,Kids:=[] }
theorem DS.rcond_all (h:DS s):Ce DD s Sz = some 0:=by unfold Ce; rw [h.rcheck]; rfl
def aK (s:Aa) (c:Av):Int:=if c.Kind = 2 then Hs ((idx s.Lists c.List_).getD { Name:=T8,Codes:=[] }) - 1 else c.Widths.length
def fin (s:Aa) (i:Nat):Int:=aK s (s.Columns[i]?.getD dV)
theorem DF {i:Nat} (hi:i < s.Columns.length):fin s i = aK s s.Columns[i]:=by unfold fin; rw [List.getElem?_eq_getElem hi]; rfl
theorem Bk {c:Av} (h:Ci c):1≤c.Widths.length∧c.Widths.length≤4:=by rcases WI h.widths with e | e | e | e <;> (rw [e]; decide)
theorem Iv {c:Av} (h:It c) {L:Am} (hL:idx s.Lists c.List_ = some L):aK s c = Hs L - 1:=by unfold aK; rw [if_pos h.kind,hL]; rfl
theorem Cl {c:Av} (h:Ci c):aK s c = c.Widths.length:=by unfold aK; rw [if_neg (by rw [h.kind]; decide)]
theorem DS.fin_ok (h:DS s) {i:Nat} (h0:1≤i) (hi:i < s.Columns.length):1≤fin s i∧fin s i≤4:=by
 rw [DF hi]
 rcases h.col h0 hi with h1 | h1
 ·obtain ⟨L,hL,hL2⟩:=h.clist h1
  have:=K2 hL
  rw [Iv h1 hL2]
  have:=this.lev2; have:=(K2 hL).lev3
  omega
 ·have:=Bk h1
  rw [Cl h1]
  omega
theorem DS.rfinest (h:DS s) {i:Nat} (h0:1≤i) (hi:i < s.Columns.length):B7 s i = some (fin s i):=by
 have hc:=h.cols_length
 unfold B7
 rw [h.rcheck,Option.bind_some,decide_eq_false (by omega),decide_eq_false (by omega)]
 show (idx s.Columns (i:Int)).bind _ = _
 rw [C4 hi,Option.bind_some,DF hi]
 rcases h.col h0 hi with h1 | h1
 ·obtain ⟨L,hL,hL2⟩:=h.clist h1
  have:=K2 hL
  have h2:=this.lev2; have h3:=this.lev3
  rw [h1.kind,Iv h1 hL2]
  show (idx s.Lists _).bind _ = _
  rw [hL2,Option.bind_some,this.rlev,Option.bind_some,wr (by omega) (by omega)]
 ·rw [h1.kind,Cl h1]; rfl
theorem DS.pfinest (h:DS s) {i:Nat} (h0:1≤i) (hi:i < s.Columns.length):ER s i = some (fin s i):=by
 have hc:=h.cols_length
 unfold ER
 rw [decide_eq_false (by omega),decide_eq_false (by omega)]
 show (idx s.Columns (i:Int)).bind _ = _
 rw [C4 hi,Option.bind_some,DF hi]
 rcases h.col h0 hi with h1 | h1
 ·obtain ⟨L,hL,hL2⟩:=h.clist h1
  have:=K2 hL
  have h2:=this.lev2; have h3:=this.lev3
  rw [h1.kind,Iv h1 hL2]
  show (idx s.Lists _).bind _ = _
  rw [hL2,Option.bind_some,this.lev,Option.bind_some,wr (by omega) (by omega)]
 ·rw [h1.kind,Cl h1]; rfl
theorem DS.pFinest (h:DS s) {i:Nat} (h0:1≤i) (hi:i < s.Columns.length):DO s i = some (fin s i):=by
 unfold DO
 rw [h.check,Option.bind_some,h.pfinest h0 hi]
 rfl
def ao:AG:={ Name:=({ data:=#[113] }:ByteArray),Kind:=1,Filter:=Sz,Dims:=[({ Column:=1,Level:=0 }:Ae)],Measure:=(-1),Terms:=[],Event:=Nz }
def aF:Ay:={ Project:=({ data:=#[97,108,108,95,114,111,119,115] }:ByteArray),Source:=({ data:=#[115,114,99] }:ByteArray),Cohort:=Sz,Sample:=({ Part:=1,Of:=1,Seed:=0 }:Hn),Questions:=[ao] }
def Ei (s:Aa):List Ae:=(List.range (s.Columns.length - 1)).map fun k=>{ Column:=((k + 1:Nat):Int),Level:=fin s (k + 1) }
theorem bA (h:DS s):Nj s = some (aF,Ei s):=by
 have hc:=h.cols_length
 refine Ok.val ?_
 unfold Nj
 refine Ok.for (fun q=>q.1) s.Columns.length (fun i q=>1≤i∧q.2 = (List.range (i - 1)).map fun k=>{ Column:=((k + 1:Nat):Int),Level:=fin s (k + 1) }) 1 (by omega) rfl ⟨by omega,rfl⟩ (by omega) (fun rec q hq hI=>?_) fun rec i q hi hq hI ih=>?_
 ·simp only [M2,hq]
  rw [AO (by omega),hI.2]
  exact Ok.some rfl
 ·obtain ⟨h0,hI⟩:=hI
  simp only [M2,hq]
  rw [AC (by omega)]
  refine Ok.bindE (h.rfinest h0 hi) (Ok.rm (by rw [hI]; simp; omega) (ih _ (CH (by omega)) ⟨by omega,?_⟩))
  show q.2++[_] = _
  rw [hI]
  obtain ⟨j,rfl⟩:∃ j,i = j + 1:=⟨i - 1,by omega⟩
  simp [List.range_succ]
theorem bM {p:Ae} (h:DS s) {i:Nat} (h0:1≤i) (hi:i < s.Columns.length) (hp:p.Column = i) (hl:0≤p.Level) (hl2:p.Level≤fin s i):FL s p = some 0:=by
 unfold FL
 rw [h.rcheck,Option.bind_some,hp,decide_eq_false (by omega),decide_eq_false (by omega)]
 show (B7 s (i:Int)).bind _ = _
 rw [h.rfinest h0 hi,Option.bind_some,Hy,Option.bind_some,decide_eq_true ⟨hl,hl2⟩]
 rfl
theorem Dy {k:Nat} (hk:k < (Ei s).length):(Ei s)[k] = { Column:=((k + 1:Nat):Int),Level:=fin s (k + 1) }:=by simp [Ei]
theorem HY:(Ei s).length = s.Columns.length - 1:=by simp [Ei]
theorem U6 (h:DS s):Df s (Ei s) = some 0:=by
 have hc:=h.cols_length
 have hl:=HY (s:=s)
 refine Ok.val ?_
 unfold Df
 refine Ok.bindE h.rcheck (Ok.no rfl ?_)
 refine Ok.for (fun q=>q) (Ei s).length (fun _ _=>True) 0 (Nat.zero_le _) rfl trivial (by omega) (fun rec q hq _=>?_) fun rec i q hi hq _ ih=>?_
 ·simp only [D4,hq]
  rw [AO (by omega)]
  exact Ok.some rfl
 ·simp only [D4,hq]
  rw [AC (by omega)]
  have hf:=h.fin_ok (i:=i + 1) (by omega) (by omega)
  refine Ok.idxn hi (Ok.bindE (bM h (i:=i + 1) (by omega) (by omega) (by rw [Dy hi]) (by rw [Dy hi]; show 0≤fin s (i + 1); omega) (by rw [Dy hi]; exact Int.le_refl _)) (Ok.no rfl (Ok.brd (fun h1=>Ok.idxn hi ?_) fun _=>ih _ (CH (by omega)) trivial)))
  have e:IntKind.i64.wrap ((i:Int) - 1) = ((i - 1:Nat):Int):=by rw [wr (by omega) (by omega)]; omega
  rw [e]
  refine Ok.idxn (by omega:i - 1 < (Ei s).length) (Ok.brd (fun h2=>?_) fun _=>ih _ (CH (by omega)) trivial)
  rw [Dy hi,Dy (by omega:i - 1 < (Ei s).length)] at h2
  simp only at h2
  omega
theorem eZ (h:DS s):GV s [({ Column:=1,Level:=0 }:Ae)] = some 0:=by
 have hc:=h.cols_length
 have hf:=h.fin_ok (i:=1) (by omega) (by omega)
 have hk:s.Columns[1].Kind = 2:=by
  obtain ⟨j,ms,e,_⟩:=h.cols
  have:s.Columns[1]? = some f7:=by rw [e]; cases j <;> rfl
  rw [List.getElem?_eq_getElem (by omega)] at this
  rw [Option.some.inj this]; rfl
 refine Ok.val ?_
 unfold GV
 refine Ok.no rfl ?_
 refine Ok.for (fun q=>q) 1 (fun _ _=>True) 0 (Nat.zero_le _) rfl trivial (by omega) (fun rec q hq _=>?_) fun rec i q hi hq _ ih=>?_
 ·simp only [Gz,hq]
  exact Ok.no rfl (Ok.some rfl)
 ·obtain rfl:i = 0:=by omega
  simp only [Gz,hq]
  refine Ok.yes rfl (Ok.bindE (x:=({ Column:=1,Level:=0 }:Ae)) rfl (Ok.bindE (bM h (i:=1) (by omega) (by omega) rfl (by show (0:Int)≤0; omega) (by show (0:Int)≤fin s 1; omega)) (Ok.no rfl (Ok.bindE (x:=({ Column:=1,Level:=0 }:Ae)) rfl (Ok.bindE (x:=true) ?_ (Ok.no rfl ?_))))))
  ·unfold Fq
   rw [decide_eq_true (by decide),decide_eq_true (by show (1:Int) < _; omega)]
   show (idx s.Columns ((1:Nat):Int)).bind _ = _
   rw [C4 (by omega:1 < s.Columns.length),Option.bind_some,hk]
   rfl
  ·refine Ok.for (fun q=>q) 0 (fun _ _=>True) 0 (Nat.zero_le _) rfl trivial (by omega) (fun rec q hq _=>?_) fun rec i q hi hq _ ih=>absurd hi (by omega)
   simp only [H2,hq]
   exact Ok.no rfl (ih _ rfl trivial)
theorem Sy (h:DS s):CX DD s ao = some 0:=by
 refine Ok.val ?_
 unfold CX
 refine Ok.bindE h.rcheck (Ok.no rfl (Ok.bindE (x:=true) (by decide +kernel) (Ok.no rfl (Ok.no rfl (Ok.bindE h.rcond_all (Ok.no rfl (Ok.bindE (x:=0) ?_ (Ok.no rfl (Ok.no rfl (Ok.yes rfl (Ok.bindE (x:=true) rfl (Ok.no rfl (Ok.some rfl)))))))))))))
 unfold K9
 refine Ok.val (Ok.bindE (x:=false) ?_ (Ok.yes rfl (Ok.bindE (eZ h) (Ok.no rfl (Ok.no rfl (Ok.some rfl))))))
 unfold Fq
 rfl
theorem RJ (h:DS s):E9 DD s aF = some 0:=by
 refine Ok.val ?_
 unfold E9
 refine Ok.bindE h.rcheck (Ok.no rfl (Ok.bindE (x:=true) (by decide +kernel) (Ok.no rfl (Ok.bindE (x:=true) (by decide +kernel) (Ok.no rfl ?_)))))
 unfold GL
 refine Ok.bindE h.rcond_all (Ok.no rfl (Ok.no rfl (Ok.no rfl ?_)))
 refine Ok.for (fun q=>q) 1 (fun _ _=>True) 0 (Nat.zero_le _) rfl trivial (by omega) (fun rec q hq _=>?_) fun rec i q hi hq _ ih=>?_
 ·simp only [Fw,hq]
  exact Ok.no rfl (Ok.some rfl)
 ·obtain rfl:i = 0:=by omega
  simp only [Fw,hq]
  refine Ok.yes rfl (Ok.bindE (x:=ao) rfl (Ok.bindE (Sy h) (Ok.no rfl ?_)))
  refine Ok.for (fun q=>q) 0 (fun _ _=>True) 0 (Nat.zero_le _) rfl trivial (by omega) (fun rec q hq _=>?_) fun rec i q hi hq _ ih=>absurd hi (by omega)
  simp only [GN,hq]
  exact Ok.no rfl (ih _ rfl trivial)
theorem Yi (h:DS s):CN DD s Sz = some []:=by
 unfold CN
 rw [h.rcond_all]
 rfl
theorem da (h:DS s):Cd s 1 0 = some 0:=by
 have hc:=h.cols_length
 have hf:=h.fin_ok (i:=1) (by omega) (by omega)
 refine Ok.val ?_
 unfold Cd
 refine Ok.bindE (h.rfinest (i:=1) (by omega) (by omega)) ?_
 rw [Hy,Option.bind_some,decide_eq_true (by omega)]
 refine Ok.no rfl ?_
 refine Ok.loop (fun q=>q = 0) (fun _=>0) rfl (by unfold A6; omega) fun rec q hq ih=>?_
 subst hq
 unfold F0
 refine Ok.bindE (x:=true) ?_ (Ok.no rfl (Ok.some rfl))
 unfold Dz
 refine Ok.val (Ok.idxn (i:=1) (by omega) (Ok.yes rfl (Ok.some rfl)))
theorem dY (h:DS s):F7 DD s ao = some []:=by
 have hc:=h.cols_length
 refine Ok.val ?_
 unfold F7
 refine Ok.bindE (Sy h) (Ok.no rfl (Ok.bindE (Yi h) (Ok.no rfl ?_)))
 unfold Ef
 refine Ok.for (fun q=>q.2) 1 (fun _ q=>q.1 = []) 0 (Nat.zero_le _) rfl rfl (by omega) (fun rec q hq hI=>?_) fun rec i q hi hq hI ih=>?_
 ·simp only [Fz,hq,hI]
  refine Ok.no rfl ?_
  refine Ok.for (fun q=>q.2) s.Columns.length (fun _ q=>q.1 = []) 1 (by omega) rfl rfl (by omega) (fun rec q hq hI=>?_) fun rec i q hi hq hI ih=>?_
  ·simp only [Fp,hq,hI]
   rw [AO (by omega)]
   exact Ok.some rfl
  ·simp only [Fp,hq,hI]
   rw [AC (by omega)]
   refine Ok.bindE (x:=false) ?_ (Ok.no rfl (ih _ (CH (by omega)) rfl))
   unfold LB
   have e:(ao.Measure==(i:Int)) = false:=by
    rw [beq_eq_false_iff_ne]; show (-1:Int)≠_; omega
   rw [e]
   rfl
 ·obtain rfl:i = 0:=by omega
  simp only [Fz,hq,hI]
  refine Ok.yes rfl (Ok.bindE (x:=({ Column:=1,Level:=0 }:Ae)) rfl (Ok.bindE (x:=({ Column:=1,Level:=0 }:Ae)) rfl (Ok.bindE (x:=({ Column:=1,Level:=0 }:Ae)) rfl (Ok.bindE (da h) (Ok.bindE (x:=[]) rfl (ih _ rfl rfl))))))
theorem YB (h:DS s):Ha DD s aF (Ei s) = some 0:=by
 refine Ok.val ?_
 unfold Ha
 refine Ok.bindE (RJ h) (Ok.no rfl (Ok.bindE (U6 h) (Ok.no rfl ?_)))
 refine Ok.for (fun q=>q) 1 (fun _ _=>True) 0 (Nat.zero_le _) rfl trivial (by omega) (fun rec q hq _=>?_) fun rec i q hi hq _ ih=>?_
 ·simp only [Fi,hq]
  exact Ok.no rfl (Ok.some rfl)
 ·obtain rfl:i = 0:=by omega
  simp only [Fi,hq]
  refine Ok.yes rfl (Ok.bindE (x:=ao) rfl (Ok.bindE (x:=true) ?_ (Ok.no rfl (ih _ rfl trivial))))
  unfold H7
  refine Ok.val (Ok.bindE (Sy h) (Ok.yes rfl (Ok.bindE (U6 h) (Ok.yes rfl (Ok.bindE (dY h) (Ok.bindE (x:=true) rfl (Ok.some rfl)))))))
end Go.Proofs.YtejfnieiaecpkaaGreatDoor.P
namespace Go.Proofs.YtejfnieiaecpkaaGreatDoor.P
open Go Go.Abs Go.Proofs
set_option maxRecDepth 100000
variable {s:Aa}
def cd:Hn:={ Part:=1,Of:=1,Seed:=0 }
theorem eh (id:Int) (h0:1≤id) (h1:id≤1048575):LH cd id = some true:=by
 refine Ok.val ?_
 unfold LH
 refine Ok.bindE (x:=0) rfl (Ok.yes (by simp [h0,h1]) ?_)
 obtain ⟨v,hv⟩:∃ v,L3 cd.Seed id = some v:=⟨_,rfl⟩
 refine Ok.bindE hv (Ok.gdd (by decide) (Ok.some ?_))
 show decide (Int.tmod v 1 < 1) = true
 rw [Int.tmod_one]
 rfl
theorem Zk {n:Int} (h0:0≤n) (h1:n < 18446744073709551616):0≤Int.fdiv n 18014398509481984∧Int.fdiv n 18014398509481984≤1023:=by
 rw [Int.fdiv_eq_ediv_of_nonneg _ (by omega)]
 omega
theorem VS (n:Int):0≤IntKind.u64.wrap n∧IntKind.u64.wrap n < 18446744073709551616:=by
 unfold IntKind.wrap
 simp only [IntKind.signed,IntKind.bits]
 simp
 omega
theorem cP (sec r c:Int):Ok (Kx sec r c) fun x=>0≤x∧x≤1023:=by
 unfold Kx
 refine Ok.br (fun _=>Ok.some (by omega)) fun _=>?_
 refine Ok.for (fun q=>q.2) 3 (fun _ q=>0≤q.1∧q.1 < 18446744073709551616) 0 (Nat.zero_le _) rfl (VS _) (by omega) (fun rec q hq hI=>?_) fun rec i q hi hq hI ih=>?_
 ·simp only [IF,hq]
  refine Ok.no rfl (Ok.some ?_)
  have e:(2:Int) ^ (min (54:Int).toNat IntKind.u64.bits) = 18014398509481984:=by decide
  rw [e]
  have:=Zk hI.1 hI.2
  rw [wr (by omega) (by omega)]
  exact this
 ·simp only [IF,hq]
  rw [AC (by omega)]
  exact ih _ (CH (by omega)) (VS _)
theorem ZS {a b:Int} (ha:0≤a∧a≤1023) (hb:0≤b∧b≤1023):0≤IntKind.i64.wrap (((BitVec.ofInt IntKind.i64.bits a ^^^ BitVec.ofInt IntKind.i64.bits b).toNat:Nat):Int)∧IntKind.i64.wrap (((BitVec.ofInt IntKind.i64.bits a ^^^ BitVec.ofInt IntKind.i64.bits b).toNat:Nat):Int)≤1023:=by
 obtain ⟨m,rfl⟩:∃ m:Nat,a = m:=⟨a.toNat,by omega⟩
 obtain ⟨n,rfl⟩:∃ n:Nat,b = n:=⟨b.toNat,by omega⟩
 have e:(BitVec.ofInt IntKind.i64.bits (m:Int) ^^^ BitVec.ofInt IntKind.i64.bits (n:Int)).toNat = m ^^^ n:=by
  rw [BitVec.toNat_xor,BitVec.ofInt_natCast,BitVec.ofInt_natCast,BitVec.toNat_ofNat,BitVec.toNat_ofNat]
  have h1:m % 2 ^ IntKind.i64.bits = m:=Nat.mod_eq_of_lt (by show m < 2 ^ 64; omega)
  have h2:n % 2 ^ IntKind.i64.bits = n:=Nat.mod_eq_of_lt (by show n < 2 ^ 64; omega)
  rw [h1,h2]
 rw [e]
 have:m ^^^ n < 2 ^ 10:=Nat.xor_lt_two_pow (by omega) (by omega)
 rw [wr (by omega) (by omega)]
 omega
theorem bK {sec id:Int} (hs0:0≤sec) (hs1:sec < 1152921504606846976) (h0:0≤id) (h1:id < 1048576):Ok (Np sec id) fun x=>0≤x∧x≤1048575:=by
 unfold Np
 refine Ok.bindE (x:=true) ?_ (Ok.no rfl ?_)
 ·unfold Mp
  rw [decide_eq_true hs0,decide_eq_true hs1,decide_eq_true h0,decide_eq_true h1]
  rfl
 ·have e1:0≤Int.tdiv id 1024∧Int.tdiv id 1024≤1023:=by rw [Int.tdiv_eq_ediv_of_nonneg h0]; omega
  have e2:0≤Int.tmod id 1024∧Int.tmod id 1024≤1023:=by rw [Int.tmod_eq_emod_of_nonneg h0]; omega
  refine Ok.for (fun q=>q.2.2) 8 (fun _ q=>(0≤q.1∧q.1≤1023)∧(0≤q.2.1∧q.2.1≤1023)) 0 (Nat.zero_le _) rfl ⟨by show 0≤IntKind.i64.wrap _∧IntKind.i64.wrap _≤1023; rw [wr (by omega) (by omega)]; exact e1,e2⟩ (by omega) (fun rec q hq hI=>?_) fun rec i q hi hq hI ih=>?_
  ·obtain ⟨⟨a1,a2⟩,b1,b2⟩:=hI
   simp only [Ll,hq]
   refine Ok.no rfl (Ok.some ?_)
   rw [wr (n:=q.1 * 1024) (by omega) (by omega),wr (by omega) (by omega)]
   omega
  ·simp only [Ll,hq]
   rw [AC (by omega)]
   refine Ok.bind (cP _ _ _) fun x hx=>ih _ (CH (by omega)) ⟨hI.2,ZS hI.1 hx⟩
theorem Ux (h:DS s) {i:Nat} (hi:i < s.Columns.length) {v:Int} (hv:Wc s s.Columns[i] v):Iz s i v = some true:=by
 refine Ok.val ?_
 unfold Iz
 refine Ok.idxn hi ?_
 rcases hv with ⟨hk,h1,h2⟩ | ⟨hk,L,hL,hL2,h1⟩ | ⟨hk,h1⟩
 ·refine Ok.yes (by rw [hk]; rfl) ?_
  rw [Hy,decide_eq_true (by omega)]
  exact Ok.some rfl
 ·have hc:=K2 hL
  obtain ⟨h2,h3,h4,_,_⟩:=hc.leaf v h1
  have h5:=hc.lev2; have h6:=hc.lev3
  have hlen:L.Codes.length≤100:=by
   have:(Su.all fun l=>decide (l.Codes.length≤100)) = true:=by decide +kernel
   simpa using List.all_eq_true.1 this L hL
  refine Ok.no (by rw [hk]; rfl) (Ok.yes (by rw [hk]; rfl) (Ok.bindE hL2 ?_))
  rw [Hy,Option.bind_some,decide_eq_true (by rw [wr (by omega) (by omega)]; omega)]
  refine Ok.yes rfl (Ok.bindE h4 (Ok.bindE hc.rlev (Ok.some ?_)))
  rw [wr (by omega) (by omega)]
  exact beq_self_eq_true _
 ·refine Ok.no (by rw [hk]; rfl) (Ok.no (by rw [hk]; rfl) (Ok.br (fun _=>Ok.some rfl) fun hn=>?_))
  rcases h1 with h1 | ⟨ho,rfl⟩
  ·rw [Hy,decide_eq_true (by omega)]
   exact Ok.some rfl
  ·rw [ho] at hn
   cases hn
theorem eo (h:DS s) {r:List Int} (hr:Nk s r):JE s r = some 0:=by
 have hc:=h.cols_length
 refine Ok.val ?_
 unfold JE
 refine Ok.bindE h.rcheck (Ok.no rfl (Ok.no (by rw [hr.1]; simp) ?_))
 refine Ok.for (fun q=>q) r.length (fun _ _=>True) 0 (Nat.zero_le _) rfl trivial (by rw [hr.1]; omega) (fun rec q hq _=>?_) fun rec i q hi hq _ ih=>?_
 ·simp only [Lo,hq]
  rw [AO (by omega)]
  exact Ok.some rfl
 ·simp only [Lo,hq]
  rw [AC (by omega)]
  have hi2:i < s.Columns.length:=by rw [← hr.1]; exact hi
  refine Ok.idxn hi (Ok.bindE (Ux h hi2 (hr.2 i _ _ (List.getElem?_eq_getElem hi2) (List.getElem?_eq_getElem hi))) (Ok.no rfl (ih _ (CH (by rw [hr.1] at hi; omega)) trivial)))
theorem W5 {x:B2} {n:Nat} (h:Tn x n) (hn:n≤100):Iw x = some true:=by
 have hl:=h.len
 refine Ok.val ?_
 unfold Iw
 refine Ok.bindE h.schema.rcheck (Ok.no ?_ ?_)
 ·rw [h.gone,h.version,decide_eq_false (by omega)]; rfl
 refine Ok.for (fun q=>q) x.Rows.length (fun _ _=>True) 0 (Nat.zero_le _) rfl trivial (by omega) (fun rec q hq _=>?_) fun rec i q hi hq _ ih=>?_
 ·simp only [IM,hq]
  rw [AO (by omega)]
  unfold Jl
  refine Ok.for (fun q=>q) 0 (fun _ _=>True) 0 (Nat.zero_le _) rfl trivial (by omega) (fun rec q hq _=>?_) fun rec i q hi hq _ ih=>absurd hi (by omega)
  simp only [LM,hq,h.gone]
  exact Ok.no rfl (Ok.some rfl)
 ·simp only [IM,hq]
  rw [AC (by omega)]
  have hr:=h.rows _ (List.getElem_mem hi)
  refine Ok.idxn hi (Ok.bindE (eo h.schema hr) (Ok.no rfl (Ok.brd (fun h1=>?_) fun _=>ih _ (CH (by omega)) trivial)))
  have e:IntKind.i64.wrap ((i:Int) - 1) = ((i - 1:Nat):Int):=by rw [wr (by omega) (by omega)]; omega
  rw [e]
  have hi3:i - 1 < x.Rows.length:=by omega
  have hlt:=(List.pairwise_iff_getElem.1 h.asc) (i - 1) i hi3 hi (by omega)
  refine Ok.idxn hi (Ok.bindE (Ft (hr.ne h.schema)) (Ok.idxn hi3 (Ok.bindE (Ft ((h.rows _ (List.getElem_mem hi3)).ne h.schema)) (Ok.brd (fun h2=>by omega) fun _=>ih _ (CH (by omega)) trivial))))
theorem aW (h:DS s) {r:List Int} (hr:Nk s r):If DD s Sz r = some 1:=by
 unfold If
 rw [h.rcond_all]
 show (JE s r).bind _ = _
 rw [eo h hr]
 rfl
theorem Nk.hd (h:DS s) {r:List Int} (hr:Nk s r):1≤hd r∧hd r≤1000:=by
 have hc:=h.cols_length
 have h0:0 < s.Columns.length:=by omega
 have h1:0 < r.length:=by rw [hr.1]; exact h0
 have:=hr.2 0 dV r[0] (by rw [List.getElem?_eq_getElem h0,h.col0]) (List.getElem?_eq_getElem h1)
 have e:P.hd r = r[0]:=by cases r with | nil=>simp at h1 | cons a q=>rfl
 rw [e]
 rcases this with ⟨_,h2,h3⟩ | ⟨hk,_⟩ | ⟨hk,_⟩
 ·exact ⟨h2,h3⟩
 ·exact absurd hk (by decide)
 ·exact absurd hk (by decide)
theorem dq {x:B2} {n:Nat} (h:Tn x n) (hn:n≤100):Gd DD x aF = some (x.Rows.map hd):=by
 have hl:=h.len
 refine Ok.val ?_
 unfold Gd
 refine Ok.bindE (W5 h hn) (Ok.no rfl (Ok.bindE (RJ h.schema) (Ok.no rfl ?_)))
 unfold Gj
 refine Ok.for (fun q=>q.1) x.Rows.length (fun i q=>q.2 = (x.Rows.take i).map hd) 0 (Nat.zero_le _) rfl rfl (by omega) (fun rec q hq hI=>?_) fun rec i q hi hq hI ih=>?_
 ·simp only [Ez,hq]
  rw [AO (by omega),hI,List.take_length]
  exact Ok.some rfl
 ·simp only [Ez,hq]
  rw [AC (by omega)]
  have hr:=h.rows _ (List.getElem_mem hi)
  have hh:=hr.hd h.schema
  refine Ok.idxn hi (Ok.bindE (aW h.schema hr) (Ok.yes rfl (Ok.idxn hi (Ok.bindE (Ft (hr.ne h.schema)) (Ok.bindE (eh _ hh.1 (by omega)) (Ok.yes rfl (Ok.idxn hi (Ok.bindE (Ft (hr.ne h.schema)) (Ok.rm ?_ (ih _ (CH (by omega)) ?_))))))))))
  ·rw [hI]; simp; omega
  ·show q.2++[_] = _
   rw [hI,List.take_succ_eq_append_getElem hi,List.map_append]
   rfl
theorem dT {x:B2} {n:Nat} (h:Tn x n) (hn:n≤100) {i:Nat} (hi:i < x.Rows.length):Ig x (hd x.Rows[i]) = some (i:Int):=by
 have hl:=h.len
 refine Ok.val ?_
 unfold Ig
 refine Ok.for (fun q=>q) x.Rows.length (fun k _=>k≤i) 0 (Nat.zero_le _) rfl (Nat.zero_le _) (by omega) (fun rec q hq hI=>by omega) fun rec k q hk hq hI ih=>?_
 simp only [M7,hq]
 rw [AC (by omega)]
 have hr:=h.rows _ (List.getElem_mem hk)
 have hne:=hr.ne h.schema
 refine Ok.idxn hk (Ok.brd (fun _=>Ok.idxn hk (Ok.bindE (Ft hne) (Ok.br (fun he=>Ok.some ?_) fun hn=>ih _ (CH (by omega)) ?_))) fun hz=>?_)
 ·by_cases e:k = i
  ·rw [e]
  ·have he:hd x.Rows[k] = hd x.Rows[i]:=by simpa using he
   have:=(List.pairwise_iff_getElem.1 h.asc) k i hk hi (by omega)
   omega
 ·by_cases e:k = i
  ·subst e; simp at hn
  ·omega
 ·have:=List.length_pos_iff.2 hne
  omega
theorem aw {v:Int} (h0:-1000000≤v) (h1:v≤1000000):DX v 1 = some v:=by
 unfold DX
 rw [AC (by decide),AC (by decide),Int.tmod_one,AO (by decide),Int.tdiv_one,wr (by omega) (by omega)]
theorem UA (h:DS s) {i:Nat} (h0:1≤i) (hi:i < s.Columns.length) {v:Int} (hv:Wc s s.Columns[i] v):AP s i (fin s i) v = some v:=by
 have hf:=h.fin_ok h0 hi
 refine Ok.val ?_
 unfold AP
 refine Ok.bindE (h.rfinest h0 hi) ?_
 rw [Hy,Option.bind_some,decide_eq_true (by omega)]
 refine Ok.no rfl (Ok.idxn hi ?_)
 rcases h.col h0 hi with h1 | h1
 ·obtain ⟨L,hL,hL2⟩:=h.clist h1
  have hcl:=K2 hL
  have hv2:v∈Bg L:=by
   rcases hv with ⟨hk,_⟩ | ⟨hk,L',hL',hL2',h3⟩ | ⟨hk,_⟩
   ·rw [h1.kind] at hk; cases hk
   ·rw [hL2] at hL2'; cases hL2'; exact h3
   ·rw [h1.kind] at hk; cases hk
  refine Ok.yes (by rw [h1.kind]; rfl) (Ok.bindE (Ux h hi hv) (Ok.no rfl (Ok.bindE hL2 (Ok.bindE (x:=v) ?_ (Ok.some rfl)))))
  rw [DF hi,Iv h1 hL2]
  exact (hcl.leaf v hv2).2.2.2.2
 ·obtain ⟨a1,a2⟩:=h1.low
  obtain ⟨a3,a4⟩:=h1.high
  have hv2:(s.Columns[i].Low≤v∧v≤s.Columns[i].High)∨v = Bq:=by
   rcases hv with ⟨hk,_⟩ | ⟨hk,_⟩ | ⟨hk,h3 | h3⟩
   ·rw [h1.kind] at hk; cases hk
   ·rw [h1.kind] at hk; cases hk
   ·exact .inl h3
   ·exact .inr h3.2
  have hw:C6 s.Columns[i] (fin s i) = some 1:=by
   rw [DF hi,Cl h1]
   unfold C6
   have hwl:=Bk h1
   rw [wr (by omega) (by omega),Int.sub_self]
   rcases WI h1.widths with e | e | e | e <;> (rw [e]; rfl)
  refine Ok.no (by rw [h1.kind]; rfl) ?_
  have e0:(fin s i==0) = false:=by rw [beq_eq_false_iff_ne]; omega
  rcases hv2 with hv2 | rfl
  ·have e1:(v != -1099511627776) = true:=by rw [bne_iff_ne]; omega
   have e2:(v==-1099511627776) = false:=by rw [beq_eq_false_iff_ne]; omega
   refine Ok.yes e1 ?_
   rw [Hy,Option.bind_some,decide_eq_true (by omega)]
   refine Ok.no rfl (Ok.no e0 (Ok.no e2 (Ok.bindE hw (Ok.bindE (aw (by omega) (by omega)) (Ok.some ?_)))))
   rw [wr (by omega) (by omega)]
   omega
  ·exact Ok.no rfl (Ok.no e0 (Ok.yes rfl (Ok.some rfl)))
def cg (s:Aa) (r:List Int):Prop:=r.length = s.Columns.length∧0≤hd r∧hd r≤1048575∧∀ (i:Nat) c v,1≤i→s.Columns[i]? = some c→r[i]? = some v→Wc s c v
structure fE (s:Aa) (x:Au) (n:Nat):Prop where
 project:x.Project = aF.Project
 version:x.Version = 0
 picks:x.Picks = Ei s
 rows:∀ r∈x.Rows,cg s r
 asc:b5 x.Rows
 len:x.Rows.length≤n
theorem cg.ne (h:DS s) {r:List Int} (hr:cg s r):r≠[]:=by
 intro e
 have h1:=hr.1
 have:=h.cols_length
 rw [e] at h1
 simp at h1
 omega
theorem bT {x:B2} {n:Nat} (h:Tn x n) (hn:n≤100) {sec:Int} (hs0:0≤sec) (hs1:sec < 1152921504606846976):Ok (EG DD x aF (Ei x.Schema) sec) fun r=>fE x.Schema r.1 n:=by
 have hl:=h.len
 have hc:=h.schema.cols_length
 have hpl:=HY (s:=x.Schema)
 unfold EG
 refine Ok.bindE (W5 h hn) (Ok.no rfl (Ok.bindE (YB h.schema) (Ok.no rfl (Ok.no ?_ (Ok.rm (by omega) (Ok.bindE (dq h hn) ?_))))))
 ·rw [decide_eq_false (by omega),decide_eq_false (by omega)]; rfl
 refine Ok.for (fun q=>q.1) x.Rows.length (fun i q=>(∀ r∈q.2,cg x.Schema r)∧b5 q.2∧q.2.length≤i) 0 (Nat.zero_le _) rfl ⟨(fun r hr=>by cases hr),List.Pairwise.nil,Nat.zero_le _⟩ (by omega) (fun rec q hq hI=>?_) fun rec i q hi hq hI ih=>?_
 ·simp only [Fn,hq]
  rw [List.length_map,AO (by omega)]
  exact Ok.some ⟨rfl,h.version,rfl,hI.1,hI.2.1,by show q.2.length≤n; omega⟩
 ·obtain ⟨h1,h2,h3⟩:=hI
  simp only [Fn,hq]
  rw [List.length_map,AC (by omega)]
  have hr:=h.rows _ (List.getElem_mem hi)
  have hh:=hr.hd h.schema
  have hid:idx (x.Rows.map hd) (i:Int) = some (hd x.Rows[i]):=by rw [C4 (by rw [List.length_map]; exact hi),List.getElem_map]
  refine Ok.bindE hid (Ok.bindE (dT h hn hi) (Ok.idxn hi (Ok.bindE hid (Ok.bind (bK hs0 hs1 (by omega) (by omega)) fun key hkey=>?_))))
  refine Ok.for (fun q=>q.1) (Ei x.Schema).length (fun k q=>q.2 = key :: (x.Rows[i].drop 1).take k) 0 (Nat.zero_le _) rfl rfl (by omega) (fun rec2 q2 hq2 hI2=>?_) fun rec2 k q2 hk hq2 hI2 ih2=>?_
  ·simp only [Fe,hq2]
   rw [AO (by omega)]
   have e:(x.Rows[i].drop 1).take (Ei x.Schema).length = x.Rows[i].drop 1:=List.take_of_length_le (by rw [List.length_drop,hr.1]; omega)
   rw [hI2,e]
   have hx:cg x.Schema (key :: x.Rows[i].drop 1):=by
    refine ⟨by rw [List.length_cons,List.length_drop,hr.1]; omega,hkey.1,hkey.2,fun k c v hk1 hkc hkv=>?_⟩
    obtain ⟨j,rfl⟩:∃ j,k = j + 1:=⟨k - 1,by omega⟩
    rw [List.getElem?_cons_succ,List.getElem?_drop,Nat.add_comm] at hkv
    exact hr.2 _ c v hkc hkv
   refine Ok.bindE (Xi (fun r hr=>(h1 r hr).ne h.schema) (by simp) h2 (by omega)) (ih _ (CH (by omega)) ⟨fun r hr=>?_,QO h2,?_⟩)
   ·rcases Rj hr with rfl | hr
    ·exact hx
    ·exact h1 r hr
   ·have:=K6 q.2 (key :: x.Rows[i].drop 1)
    show (Ss q.2 _).length≤i + 1
    omega
  ·simp only [Fe,hq2]
   rw [AC (by omega)]
   have hkk:k + 1 < x.Schema.Columns.length:=by omega
   have hkr:k + 1 < x.Rows[i].length:=by rw [hr.1]; exact hkk
   refine Ok.idxn hk (Ok.idxn hk (Ok.idxn hk ?_))
   rw [Dy hk]
   refine Ok.idxn hkr (Ok.bindE (UA h.schema (by omega) hkk (hr.2 (k + 1) _ _ (List.getElem?_eq_getElem hkk) (List.getElem?_eq_getElem hkr))) (Ok.rm ?_ (ih2 _ (CH (by omega)) ?_)))
   ·rw [hI2]; simp; omega
   ·show q2.2++[_] = _
    have hkd:k < (x.Rows[i].drop 1).length:=by rw [List.length_drop]; omega
    rw [hI2,List.take_succ_eq_append_getElem hkd,List.cons_append,List.getElem_drop]
    simp [Nat.add_comm]
end Go.Proofs.YtejfnieiaecpkaaGreatDoor.P
namespace Go.Proofs.YtejfnieiaecpkaaGreatDoor.P
open Go Go.Abs Go.Proofs
set_option maxRecDepth 100000
variable {s:Aa}
def DB (c:Av) (l:Int):Int:=c.Widths.getD ((c.Widths.length:Int) - l).toNat 1
theorem WX {c:Av} (h:Ci c) {l:Int} (h0:1≤l) (h1:l≤c.Widths.length):idx c.Widths (IntKind.i64.wrap (((c.Widths.length:Nat):Int) - l)) = some (DB c l):=by
 have hl:=Bk h
 rw [wr (by omega) (by omega),Sn (by omega) (by omega)]
 unfold DB
 rw [List.getD_eq_getElem?_getD,List.getElem?_eq_getElem (by omega:((c.Widths.length:Int) - l).toNat < c.Widths.length)]
 rfl
theorem YM {c:Av} (h:Ci c) {l:Int} (h0:1≤l) (h1:l≤c.Widths.length):FX c l = some (DB c l):=by unfold FX; rw [WX h h0 h1]; rfl
theorem Zp {c:Av} (h:Ci c) {l:Int} (h0:1≤l) (h1:l≤c.Widths.length):C6 c l = some (DB c l):=by unfold C6; rw [WX h h0 h1]; rfl
theorem Xk {c:Av} (h:Ci c) {a b:Int} (hb:1≤b) (hab:b≤a) (ha:a≤c.Widths.length) :
 (DB c a,DB c b)∈[((1:Int),(1:Int)),(1,5),(5,5),(1,20),(5,20),(20,20),(1,2),(2,2),(1,4),(2,4),(4,4),(1,12),(2,12),(4,12),(12,12)]:=by
 unfold DB
 rcases WI h.widths with e | e | e | e
 ·rw [e] at ha ⊢
  obtain ⟨rfl,rfl⟩:a = 1∧b = 1:=by simp at ha; omega
  decide
 ·rw [e] at ha ⊢
  have ha:a≤2:=by simpa using ha
  rcases (by omega:(a = 1∧b = 1)∨(a = 2∧b = 1)∨(a = 2∧b = 2)) with ⟨rfl,rfl⟩ | ⟨rfl,rfl⟩ | ⟨rfl,rfl⟩ <;> decide
 ·rw [e] at ha ⊢
  have ha:a≤3:=by simpa using ha
  rcases (by omega:(a = 1∧b = 1)∨(a = 2∧b = 1)∨(a = 2∧b = 2)∨(a = 3∧b = 1)∨(a = 3∧b = 2)∨(a = 3∧b = 3)) with ⟨rfl,rfl⟩ | ⟨rfl,rfl⟩ | ⟨rfl,rfl⟩ | ⟨rfl,rfl⟩ | ⟨rfl,rfl⟩ | ⟨rfl,rfl⟩ <;> decide
 ·rw [e] at ha ⊢
  have ha:a≤4:=by simpa using ha
  rcases (by omega:(a = 1∧b = 1)∨(a = 2∧b = 1)∨(a = 2∧b = 2)∨(a = 3∧b = 1)∨(a = 3∧b = 2)∨(a = 3∧b = 3)∨(a = 4∧b = 1)∨(a = 4∧b = 2)∨(a = 4∧b = 3)∨(a = 4∧b = 4)) with ⟨rfl,rfl⟩ | ⟨rfl,rfl⟩ | ⟨rfl,rfl⟩ | ⟨rfl,rfl⟩ | ⟨rfl,rfl⟩ | ⟨rfl,rfl⟩ | ⟨rfl,rfl⟩ | ⟨rfl,rfl⟩ | ⟨rfl,rfl⟩ | ⟨rfl,rfl⟩ <;> decide
theorem E2 {c:Av} (h:Ci c) {l:Int} (h0:1≤l) (h1:l≤c.Widths.length):1≤DB c l∧DB c l≤20:=by
 have:=Xk h h0 (Int.le_refl l) h1
 generalize DB c l = x at *
 simp only [List.mem_cons,List.not_mem_nil,or_false,Prod.mk.injEq] at this
 omega
theorem LW (n:Int) {w:Int} (hw:1≤w):(Int.tmod n w = n % w∧0≤Int.tmod n w)∨(Int.tmod n w = n % w - w∧Int.tmod n w < 0):=by
 have h1:=Int.emod_nonneg n (by omega:w≠0)
 have h2:=Int.emod_lt_of_pos n (by omega:0 < w)
 rw [Int.tmod_eq_emod]
 split
 ·left; omega
 ·right
  have:(w.natAbs:Int) = w:=by omega
  omega
theorem NA {n w:Int} (hw:1≤w) (hw2:w≤1000000) (h0:-100000000≤n) (h1:n≤100000000):DQ n w = some (n - n % w):=by
 have h3:=Int.emod_nonneg n (by omega:w≠0)
 have h4:=Int.emod_lt_of_pos n (by omega:0 < w)
 unfold DQ
 rw [AC (by omega)]
 rcases LW n hw with ⟨e,h⟩ | ⟨e,h⟩
 ·rw [AO (by omega),e,wr (by omega) (by omega)]
 ·rw [AC h,e,wr (n:=n % w - w + w) (by omega) (by omega),wr (by omega) (by omega)]
  congr 1; omega
theorem XQ {n w:Int} (hw:1≤w) (hw2:w≤1000000) (h0:-100000000≤n) (h1:n≤100000000):∃ q,DX n w = some q∧q * w = n - n % w:=by
 have h3:=Int.emod_nonneg n (by omega:w≠0)
 have h4:=Int.emod_lt_of_pos n (by omega:0 < w)
 have h5:=Int.mul_tdiv_add_tmod n w
 have h6:-100000000≤Int.tdiv n w∧Int.tdiv n w≤100000000:=by
  have:=Int.natAbs_tdiv_le_natAbs n w
  omega
 unfold DX
 rw [AC (by omega),AC (by omega)]
 rcases LW n hw with ⟨e,h⟩ | ⟨e,h⟩
 ·rw [AO (by omega),wr (by omega) (by omega)]
  exact ⟨_,rfl,by rw [Int.mul_comm]; omega⟩
 ·rw [AC h,wr (n:=Int.tdiv n w) (by omega) (by omega),wr (by omega) (by omega)]
  refine ⟨_,rfl,?_⟩
  rw [Int.sub_mul,Int.mul_comm]
  omega
def mv (c:Av) (l v:Int):Int:=if l = 0 then 0 else if v = Bq then Bq else v - v % DB c l
def MV (c:Av) (v:Int):Prop:=(c.Low≤v∧v≤c.High)∨(c.Optional = true∧v = Bq)
theorem Wc.meas {c:Av} (h:Ci c) {v:Int} (hv:Wc s c v):MV c v:=by
 rcases hv with ⟨hk,_⟩ | ⟨hk,_⟩ | ⟨_,hv⟩
 ·rw [h.kind] at hk; cases hk
 ·rw [h.kind] at hk; cases hk
 ·exact hv
theorem Gr {c:Av} (h:Ci c) {l v:Int} (h0:1≤l) (h1:l≤c.Widths.length) (hv:c.Low≤v∧v≤c.High):mv c l v = v - v % DB c l∧0≤v % DB c l∧v % DB c l < DB c l∧mv c l v≠Bq∧-4≤v∧v≤46:=by
 have hw:=E2 h h0 h1
 obtain ⟨a1,a2⟩:=h.low
 obtain ⟨a3,a4⟩:=h.high
 have h3:=Int.emod_nonneg v (by omega:DB c l≠0)
 have h4:=Int.emod_lt_of_pos v (by omega:0 < DB c l)
 have e:mv c l v = v - v % DB c l:=by
  unfold mv
  rw [if_neg (by omega),if_neg (by unfold Bq; omega)]
 exact ⟨e,h3,h4,by rw [e]; unfold Bq; omega,by omega,by omega⟩
theorem So (hs:DS s) {i:Nat} (h0:1≤i) (hi:i < s.Columns.length) (h:Ci s.Columns[i]) {l v:Int} (hl0:0≤l) (hl1:l≤fin s i) (hv:MV s.Columns[i] v):AP s i l v = some (mv s.Columns[i] l v):=by
 obtain ⟨a1,a2⟩:=h.low
 obtain ⟨a3,a4⟩:=h.high
 have hf:fin s i = s.Columns[i].Widths.length:=by rw [DF hi,Cl h]
 refine Ok.val ?_
 unfold AP
 refine Ok.bindE (hs.rfinest h0 hi) ?_
 rw [Hy,Option.bind_some,decide_eq_true ⟨hl0,hl1⟩]
 refine Ok.no rfl (Ok.idxn hi (Ok.no (by rw [h.kind]; rfl) ?_))
 rcases hv with hv | ⟨_,rfl⟩
 ·have e1:(v != -1099511627776) = true:=by rw [bne_iff_ne]; omega
  have e2:(v==-1099511627776) = false:=by rw [beq_eq_false_iff_ne]; omega
  refine Ok.yes e1 ?_
  rw [Hy,Option.bind_some,decide_eq_true (by omega)]
  refine Ok.no rfl (Ok.br (fun hz=>?_) fun hz=>Ok.no e2 ?_)
  ·have hz:l = 0:=by simpa using hz
   subst hz
   exact Ok.some rfl
  ·have hz:l≠0:=by simpa using hz
   have hm:=Gr h (l:=l) (v:=v) (by omega) (by omega) hv
   have hw:=E2 h (l:=l) (by omega) (by omega)
   obtain ⟨q,hq,hq2⟩:=XQ (n:=v) hw.1 (by omega) (by omega) (by omega)
   refine Ok.bindE (Zp h (by omega) (by omega)) (Ok.bindE hq (Ok.some ?_))
   rw [hq2,hm.1,wr (by omega) (by omega)]
 ·refine Ok.no rfl (Ok.br (fun hz=>?_) fun hz=>Ok.yes rfl ?_)
  ·have hz:l = 0:=by simpa using hz
   subst hz
   exact Ok.some rfl
  ·have hz:l≠0:=by simpa using hz
   exact Ok.some (by unfold mv; rw [if_neg hz,if_pos rfl])
def Ob (c:Av) (l v:Int):Int:=if l = 0 then c.Low else max c.Low (v - v % DB c l)
def VI (c:Av) (l v:Int):Int:=if l = 0 then c.High else min c.High (v - v % DB c l + DB c l - 1)
theorem b7 {c:Av} (h:Ci c) {l v:Int} (h0:0≤l) (h1:l≤c.Widths.length) (hv:c.Low≤v∧v≤c.High):Ir c l (mv c l v) = some (Ob c l v,VI c l v,true):=by
 obtain ⟨a1,a2⟩:=h.low
 obtain ⟨a3,a4⟩:=h.high
 unfold Ir Ob VI
 by_cases hz:l = 0
 ·subst hz; rfl
 ·have hm:=Gr h (l:=l) (v:=v) (by omega) h1 hv
  have hw:=E2 h (l:=l) (by omega) h1
  have hb:(mv c l v) % DB c l = 0:=by
   rw [hm.1]
   have:=Int.emod_add_mul_ediv v (DB c l)
   have e:v - v % DB c l = DB c l * (v / DB c l):=by omega
   rw [e]; exact Int.mul_emod_right _ _
  have e0:(l==0) = false:=by simpa using hz
  rw [e0,hm.1,if_neg hz,if_neg hz]
  rw [hm.1] at hb
  simp only [cond_false]
  rw [decide_eq_false (by omega),decide_eq_false (by omega)]
  simp only [cond_false]
  rw [YM h (by omega) h1,Option.bind_some,NA hw.1 (by omega) (by omega) (by omega),hb,Option.bind_some,wr (n:=v - v % DB c l + DB c l) (by omega) (by omega),wr (by omega) (by omega),Int.sub_zero,beq_self_eq_true]
  simp only [cond_true]
  have e1:(if c.Low > v - v % DB c l then c.Low else v - v % DB c l) = max c.Low (v - v % DB c l):=by split <;> omega
  have e2:(if c.High < v - v % DB c l + DB c l - 1 then c.High else v - v % DB c l + DB c l - 1) = min c.High (v - v % DB c l + DB c l - 1):=by split <;> omega
  rw [e1,e2,decide_eq_true (by omega)]
theorem Y8 {c:Av} (h:Ci c) {l v:Int} (h0:0≤l) (h1:l≤c.Widths.length) (hv:c.Low≤v∧v≤c.High):F4 c l (mv c l v) = some (Ob c l v,VI c l v,true):=by
 obtain ⟨a1,a2⟩:=h.low
 obtain ⟨a3,a4⟩:=h.high
 unfold F4 Ob VI
 by_cases hz:l = 0
 ·subst hz; rfl
 ·have hm:=Gr h (l:=l) (v:=v) (by omega) h1 hv
  have hw:=E2 h (l:=l) (by omega) h1
  have hb:(mv c l v) % DB c l = 0:=by
   rw [hm.1]
   have:=Int.emod_add_mul_ediv v (DB c l)
   have e:v - v % DB c l = DB c l * (v / DB c l):=by omega
   rw [e]; exact Int.mul_emod_right _ _
  have ht:Int.tmod (mv c l v) (DB c l) = 0:=by
   rcases LW (mv c l v) hw.1 with ⟨e,_⟩ | ⟨e,h2⟩
   ·rw [e,hb]
   ·rw [Int.tmod_eq_emod] at h2
    have hd:DB c l ∣ mv c l v:=Int.dvd_of_emod_eq_zero hb
    rw [if_pos (.inr hd),hb] at h2
    omega
  have e0:(l==0) = false:=by simpa using hz
  have e3:(mv c l v==-1099511627776) = false:=by rw [beq_eq_false_iff_ne]; exact hm.2.2.2.1
  rw [e0,if_neg hz,if_neg hz]
  simp only [cond_false]
  rw [Zp h (by omega) h1,Option.bind_some,e3]
  simp only [cond_false]
  rw [Hy,Option.bind_some,decide_eq_true (by rw [hm.1]; omega),ht]
  simp only [Bool.not_true,cond_false]
  rw [AC (by omega)]
  show (bif (0:Int) != 0 then _ else GK (mv c l v) c (DB c l)) = _
  unfold GK
  rw [hm.1,wr (n:=v - v % DB c l + DB c l) (by omega) (by omega),wr (by omega) (by omega)]
  have e1:(if v - v % DB c l > c.Low then v - v % DB c l else c.Low) = max c.Low (v - v % DB c l):=by split <;> omega
  have e2:(if v - v % DB c l + DB c l - 1 < c.High then v - v % DB c l + DB c l - 1 else c.High) = min c.High (v - v % DB c l + DB c l - 1):=by split <;> omega
  rw [e1,e2,decide_eq_true (by omega)]
  rfl
theorem GS:Bq = -1099511627776:=rfl
theorem dh {i:Nat} (hi:i < s.Columns.length) (h:Ci s.Columns[i]) {l v:Int} (h0:0≤l) (h1:l≤s.Columns[i].Widths.length) (hv:MV s.Columns[i] v):∃ u,Bb s i l (mv s.Columns[i] l v) = some (u,true):=by
 refine Exists.elim (?_:Ok (Bb s i l (mv s.Columns[i] l v)) fun r=>r.2 = true) fun r hr=>⟨r.1,by rw [hr.1,← hr.2]⟩
 unfold Bb
 refine Ok.idxn hi (Ok.yes (by rw [h.kind]; rfl) (Ok.br (fun hc=>Ok.some ?_) fun hc=>?_))
 ·by_cases hz:0 < l
  ·rw [decide_eq_true (by omega)] at hc
   have hc:mv s.Columns[i] l v = Bq:=by rw [GS]; simpa using hc
   rcases hv with hv | hv
   ·exact absurd hc (Gr h (by omega) h1 hv).2.2.2.1
   ·exact hv.1
  ·rw [decide_eq_false (by omega)] at hc; cases hc
 ·have hv2:(s.Columns[i].Low≤v∧v≤s.Columns[i].High)∨(l = 0):=by
   rcases hv with hv | ⟨_,rfl⟩
   ·exact .inl hv
   ·right
    by_cases hz:0 < l
    ·rw [decide_eq_true (by omega)] at hc
     have e:mv s.Columns[i] l Bq = Bq:=by unfold mv; rw [if_neg (by omega),if_pos rfl]
     rw [e] at hc
     cases hc
    ·omega
  rcases hv2 with hv | rfl
  ·exact Ok.bindE (b7 h h0 h1 hv) (Ok.some rfl)
  ·exact Ok.bindE (x:=(s.Columns[i].Low,s.Columns[i].High,true)) rfl (Ok.some rfl)
theorem bm (hs:DS s) {i:Nat} (hi0:1≤i) (hi:i < s.Columns.length) (h:Ci s.Columns[i]) {l v:Int} (h0:0≤l) (h1:l≤s.Columns[i].Widths.length) (hv:MV s.Columns[i] v):Fg s i l (mv s.Columns[i] l v) = some true:=by
 have hf:fin s i = s.Columns[i].Widths.length:=by rw [DF hi,Cl h]
 refine Ok.val ?_
 unfold Fg
 refine Ok.bindE (hs.rfinest hi0 hi) ?_
 rw [Hy,Option.bind_some,decide_eq_true (by omega)]
 refine Ok.no rfl (Ok.idxn hi (Ok.no (by rw [h.kind]; rfl) (Ok.br (fun hc=>Ok.some ?_) fun hc=>?_)))
 ·by_cases hz:0 < l
  ·rw [decide_eq_true (by omega)] at hc
   have hc:mv s.Columns[i] l v = Bq:=by rw [GS]; simpa using hc
   rcases hv with hv | hv
   ·exact absurd hc (Gr h (by omega) h1 hv).2.2.2.1
   ·exact hv.1
  ·rw [decide_eq_false (by omega)] at hc; cases hc
 ·have hv2:(s.Columns[i].Low≤v∧v≤s.Columns[i].High)∨(l = 0):=by
   rcases hv with hv | ⟨_,rfl⟩
   ·exact .inl hv
   ·right
    by_cases hz:0 < l
    ·rw [decide_eq_true (by omega)] at hc
     have e:mv s.Columns[i] l Bq = Bq:=by unfold mv; rw [if_neg (by omega),if_pos rfl]
     rw [e] at hc
     cases hc
    ·omega
  rcases hv2 with hv | rfl
  ·exact Ok.bindE (Y8 h h0 h1 hv) (Ok.some rfl)
  ·exact Ok.bindE (x:=(s.Columns[i].Low,s.Columns[i].High,true)) rfl (Ok.some rfl)
end Go.Proofs.YtejfnieiaecpkaaGreatDoor.P
namespace Go.Proofs.YtejfnieiaecpkaaGreatDoor.P
open Go Go.Abs Go.Proofs
set_option maxRecDepth 100000
variable {s:Aa}
def VC (L:Am) (l v:Int):Option (Int × Bool):=iter (fun rec1 s=>LA (Bg L) L l v (fun v56_1=>some (0,false)) rec1 s) A6 0
def cv (L:Am) (l v:Int):Int:=(Jg L v l).getD 0
theorem Yu:(Su.all fun L=>(List.range (Hs L).toNat).all fun l=>(VC L (l:Int) 0).isSome && (Bg L).all fun v=>Jg L v l==some (cv L l v) && Gh L v l==some (cv L l v) && decide (0≤cv L l v) && ((VC L l (cv L l v)).map (·.2)==some true)) = true:=by decide +kernel
theorem NW {L:Am} (h:L∈Su) {l:Int} (h0:0≤l) (h1:l < Hs L):(∃ r,VC L l 0 = some r)∧∀ v∈Bg L,Jg L v l = some (cv L l v)∧Gh L v l = some (cv L l v)∧0≤cv L l v∧∃ u,VC L l (cv L l v) = some (u,true):=by
 have:=List.all_eq_true.1 (List.all_eq_true.1 Yu L h) l.toNat (List.mem_range.2 (by omega))
 rw [Int.toNat_of_nonneg h0] at this
 simp only [Bool.and_eq_true,List.all_eq_true,beq_iff_eq,decide_eq_true_eq,Option.isSome_iff_exists] at this
 refine ⟨this.1,fun v hv=>?_⟩
 obtain ⟨⟨⟨a,b⟩,c⟩,d⟩:=this.2 v hv
 obtain ⟨r,hr,hr2⟩:=Option.map_eq_some_iff.1 d
 exact ⟨a,b,c,r.1,by rw [hr,← hr2]⟩
def CV (s:Aa) (c:Av) (l v:Int):Int:=if c.Kind = 2 then cv ((idx s.Lists c.List_).getD { Name:=T8,Codes:=[] }) l v else mv c l v
theorem TD {c:Av} (h:It c) {L:Am} (hL:idx s.Lists c.List_ = some L) (l v:Int):CV s c l v = cv L l v:=by unfold CV; rw [if_pos h.kind,hL]; rfl
theorem RM {c:Av} (h:Ci c) (l v:Int):CV s c l v = mv c l v:=by unfold CV; rw [if_neg (by rw [h.kind]; decide)]
theorem Wc.code {c:Av} (h:It c) {L:Am} (hL:idx s.Lists c.List_ = some L) {v:Int} (hv:Wc s c v):v∈Bg L:=by
 rcases hv with ⟨hk,_⟩ | ⟨_,L',_,hL',hv⟩ | ⟨hk,_⟩
 ·rw [h.kind] at hk; cases hk
 ·rw [hL] at hL'; cases hL'; exact hv
 ·rw [h.kind] at hk; cases hk
theorem RD (hs:DS s) {i:Nat} (h0:1≤i) (hi:i < s.Columns.length) {l v:Int} (hl0:0≤l) (hl1:l≤fin s i) (hv:Wc s s.Columns[i] v):AP s i l v = some (CV s s.Columns[i] l v):=by
 rcases hs.col h0 hi with h1 | h1
 ·obtain ⟨L,hL,hL2⟩:=hs.clist h1
  have hf:fin s i = Hs L - 1:=by rw [DF hi,Iv h1 hL2]
  have hc:=NW hL (l:=l) hl0 (by omega)
  rw [TD h1 hL2]
  refine Ok.val ?_
  unfold AP
  refine Ok.bindE (hs.rfinest h0 hi) ?_
  rw [Hy,Option.bind_some,decide_eq_true ⟨hl0,hl1⟩]
  exact Ok.no rfl (Ok.idxn hi (Ok.yes (by rw [h1.kind]; rfl) (Ok.bindE (Ux hs hi hv) (Ok.no rfl (Ok.bindE hL2 (Ok.bindE (hc.2 v (hv.code h1 hL2)).1 (Ok.some rfl)))))))
 ·rw [RM h1]
  exact So hs h0 hi h1 hl0 hl1 (hv.meas h1)
theorem Sh {i:Nat} (hi:i < s.Columns.length) (h:It s.Columns[i]) {L:Am} (hL:L∈Su) (hL2:idx s.Lists s.Columns[i].List_ = some L) (l v:Int):Bb s i l v = VC L l v:=by
 have hc:=K2 hL
 have h2:=hc.lev2; have h3:=hc.lev3
 unfold Bb
 rw [C4 hi,Option.bind_some,h.kind]
 show (idx s.Lists _).bind _ = _
 rw [hL2,Option.bind_some,hc.lev,Option.bind_some,wr (by omega) (by omega),hc.leaves]
 rfl
theorem f6 (hs:DS s) {i:Nat} (h0:1≤i) (hi:i < s.Columns.length) {l v:Int} (hl0:0≤l) (hl1:l≤fin s i) (hv:Wc s s.Columns[i] v):∃ u,Bb s i l (CV s s.Columns[i] l v) = some (u,true):=by
 rcases hs.col h0 hi with h1 | h1
 ·obtain ⟨L,hL,hL2⟩:=hs.clist h1
  have hf:fin s i = Hs L - 1:=by rw [DF hi,Iv h1 hL2]
  rw [TD h1 hL2,Sh hi h1 hL hL2]
  exact ((NW hL (l:=l) hl0 (by omega)).2 v (hv.code h1 hL2)).2.2.2
 ·have hf:fin s i = s.Columns[i].Widths.length:=by rw [DF hi,Cl h1]
  rw [RM h1]
  exact dh hi h1 hl0 (by omega) (hv.meas h1)
theorem e8 (hs:DS s) {i:Nat} (h0:1≤i) (hi:i < s.Columns.length):∃ r,Bb s i 0 0 = some r:=by
 rcases hs.col h0 hi with h1 | h1
 ·obtain ⟨L,hL,hL2⟩:=hs.clist h1
  have:=K2 hL
  rw [Sh hi h1 hL hL2]
  exact (NW hL (l:=0) (by omega) (by have:=this.lev2; omega)).1
 ·refine Exists.elim (?_:Ok (Bb s i 0 0) fun _=>True) fun r hr=>⟨r,hr.1⟩
  unfold Bb
  exact Ok.idxn hi (Ok.yes (by rw [h1.kind]; rfl) (Ok.no rfl (Ok.bindE (x:=(s.Columns[i].Low,s.Columns[i].High,true)) rfl (Ok.some trivial))))
theorem fB (hs:DS s) {i:Nat} (h0:1≤i) (hi:i < s.Columns.length) {l v:Int} (hl0:0≤l) (hl1:l≤fin s i) (hv:Wc s s.Columns[i] v):Fg s i l (CV s s.Columns[i] l v) = some true:=by
 rcases hs.col h0 hi with h1 | h1
 ·obtain ⟨L,hL,hL2⟩:=hs.clist h1
  have hf:fin s i = Hs L - 1:=by rw [DF hi,Iv h1 hL2]
  have hm:=hv.code h1 hL2
  have hsh:(Bg L).length≤10:=by have:=List.all_eq_true.1 NB L hL; simpa using this
  obtain ⟨j,hj,hjv⟩:=List.mem_iff_getElem.1 hm
  refine Ok.val ?_
  unfold Fg
  refine Ok.bindE (hs.rfinest h0 hi) ?_
  rw [Hy,Option.bind_some,decide_eq_true ⟨hl0,hl1⟩]
  refine Ok.no rfl (Ok.idxn hi (Ok.yes (by rw [h1.kind]; rfl) (Ok.bindE (SE (C4 hi) hL2 hL) ?_)))
  refine Ok.for (fun q=>q) (Bg L).length (fun k _=>k≤j) 0 (Nat.zero_le _) rfl (Nat.zero_le _) (by omega) (fun rec q hq hI=>by omega) fun rec k q hk hq hI ih=>?_
  simp only [NV,hq]
  rw [AC (by omega)]
  have hvk:Wc s s.Columns[i] (Bg L)[k]:=.inr (.inl ⟨h1.kind,L,hL,hL2,List.getElem_mem hk⟩)
  refine Ok.idxn hk (Ok.bindE (RD hs h0 hi hl0 hl1 hvk) (Ok.br (fun _=>Ok.some rfl) fun hne=>ih _ (CH (by omega)) ?_))
  by_cases e:k = j
  ·subst e; rw [hjv,beq_self_eq_true] at hne; cases hne
  ·omega
 ·have hf:fin s i = s.Columns[i].Widths.length:=by rw [DF hi,Cl h1]
  rw [RM h1]
  exact bm hs h0 hi h1 hl0 (by omega) (hv.meas h1)
def cR (s:Aa) (p:Ae):Prop:=∃ i:Nat,1≤i∧i < s.Columns.length∧p.Column = i∧0≤p.Level∧p.Level≤fin s i
def XV (s:Aa) (p:Ae) (v:Int):Prop:=∃ (i:Nat) (hi:i < s.Columns.length) (w:Int),1≤i∧p.Column = i∧Wc s s.Columns[i] w∧v = CV s s.Columns[i] p.Level w
structure GX (s:Aa) (x:Au):Prop where
 project:BK x.Project = some true∧DE x.Project = some true
 version:0≤x.Version∧x.Version≤300
 picks:∀ p∈x.Picks,cR s p
 order:x.Picks.Pairwise fun a b=>a.Column < b.Column
 rows:∀ r∈x.Rows,r.length = x.Picks.length + 1∧0≤hd r∧hd r≤1048575∧∀ (k:Nat) p v,x.Picks[k]? = some p→r[k + 1]? = some v→XV s p v
 asc:b5 x.Rows
 len:x.Rows.length≤200
theorem GX.picks_len {x:Au} (hs:DS s) (h:GX s x):x.Picks.length≤6:=by
 have hc:=hs.cols_length
 have key:∀ (k:Nat) (hk:k < x.Picks.length),(k:Int) + 1≤x.Picks[k].Column:=by
  intro k
  induction k with
  | zero=>intro hk; obtain ⟨i,h1,_,h2,_⟩:=h.picks _ (List.getElem_mem hk); rw [h2]; omega
  | succ k ih =>
    intro hk
    have:=ih (by omega)
    have h2:=(List.pairwise_iff_getElem.1 h.order) k (k + 1) (by omega) hk (by omega)
    omega
 rcases Nat.lt_or_ge x.Picks.length 7 with h7 | h7
 ·omega
 ·have:=key 6 (by omega)
  obtain ⟨i,h1,h2,h3,_⟩:=h.picks _ (List.getElem_mem (by omega:6 < x.Picks.length))
  omega
theorem fp {p:Ae} (hs:DS s) (h:cR s p):Iq s p = some 0:=by
 obtain ⟨i,h0,hi,hp,hl0,hl1⟩:=h
 have hf:=hs.fin_ok h0 hi
 refine Ok.val ?_
 unfold Iq
 rw [hp]
 refine Ok.bindE (hs.pfinest h0 hi) (Ok.brd (fun h=>by omega) fun _=>Ok.no ?_ (Ok.some rfl))
 rw [decide_eq_false (by omega),decide_eq_false (by omega)]; rfl
theorem ep {p:Ae} (hs:DS s) (h:cR s p):FL s p = some 0:=by
 obtain ⟨i,h0,hi,hp,hl0,hl1⟩:=h
 exact bM hs h0 hi hp hl0 hl1
theorem eK {l:List Ae} (hs:DS s) (h:∀ p∈l,cR s p) (ho:l.Pairwise fun a b=>a.Column < b.Column) (hl:l.length≤1000):Jc s l = some 0:=by
 refine Ok.val ?_
 unfold Jc
 refine Ok.bindE hs.check (Ok.no rfl ?_)
 refine Ok.for (fun q=>q) l.length (fun _ _=>True) 0 (Nat.zero_le _) rfl trivial (by omega) (fun rec q hq _=>?_) fun rec i q hi hq _ ih=>?_
 ·simp only [HP,hq]
  rw [AO (by omega)]
  exact Ok.some rfl
 ·simp only [HP,hq]
  rw [AC (by omega)]
  refine Ok.idxn hi (Ok.bindE (fp hs (h _ (List.getElem_mem hi))) (Ok.no rfl (Ok.brd (fun h1=>?_) fun _=>ih _ (CH (by omega)) trivial)))
  have e:IntKind.i64.wrap ((i:Int) - 1) = ((i - 1:Nat):Int):=by rw [wr (by omega) (by omega)]; omega
  rw [e]
  have:=(List.pairwise_iff_getElem.1 ho) (i - 1) i (by omega) hi (by omega)
  exact Ok.idxn (by omega:i - 1 < l.length) (Ok.brd (fun h2=>by omega) fun _=>ih _ (CH (by omega)) trivial)
theorem ca {l:List Ae} (hs:DS s) (h:∀ p∈l,cR s p) (ho:l.Pairwise fun a b=>a.Column < b.Column) (hl:l.length≤1000):Df s l = some 0:=by
 refine Ok.val ?_
 unfold Df
 refine Ok.bindE hs.rcheck (Ok.no rfl ?_)
 refine Ok.for (fun q=>q) l.length (fun _ _=>True) 0 (Nat.zero_le _) rfl trivial (by omega) (fun rec q hq _=>?_) fun rec i q hi hq _ ih=>?_
 ·simp only [D4,hq]
  rw [AO (by omega)]
  exact Ok.some rfl
 ·simp only [D4,hq]
  rw [AC (by omega)]
  refine Ok.idxn hi (Ok.bindE (ep hs (h _ (List.getElem_mem hi))) (Ok.no rfl (Ok.brd (fun h1=>Ok.idxn hi ?_) fun _=>ih _ (CH (by omega)) trivial)))
  have e:IntKind.i64.wrap ((i:Int) - 1) = ((i - 1:Nat):Int):=by rw [wr (by omega) (by omega)]; omega
  rw [e]
  have:=(List.pairwise_iff_getElem.1 ho) (i - 1) i (by omega) hi (by omega)
  exact Ok.idxn (by omega:i - 1 < l.length) (Ok.brd (fun h2=>by omega) fun _=>ih _ (CH (by omega)) trivial)
theorem GX.at {x:Au} (hs:DS s) (h:GX s x) {r:List Int} (hr:r∈x.Rows) {k:Nat} (hk:k < x.Picks.length) (hk2:k + 1 < r.length) :
 (∃ u,Bb s x.Picks[k].Column x.Picks[k].Level r[k + 1] = some (u,true))∧Fg s x.Picks[k].Column x.Picks[k].Level r[k + 1] = some true:=by
 obtain ⟨i,hi,w,h0,hp,hw,e⟩:=(h.rows r hr).2.2.2 k _ _ (List.getElem?_eq_getElem hk) (List.getElem?_eq_getElem hk2)
 obtain ⟨i',h0',hi',hp',hl0,hl1⟩:=h.picks _ (List.getElem_mem hk)
 have:i' = i:=by rw [hp] at hp'; omega
 subst this
 rw [e,hp]
 exact ⟨f6 hs h0 hi hl0 hl1 hw,fB hs h0 hi hl0 hl1 hw⟩
theorem GX.ne {x:Au} (h:GX s x) {r:List Int} (hr:r∈x.Rows):r≠[]:=by
 intro e
 have:=(h.rows r hr).1
 rw [e] at this
 simp at this
theorem fj {x:Au} (hs:DS s) (h:GX s x) {r:List Int} (hr:r∈x.Rows):IH s x.Picks r = some true:=by
 have hl:=h.picks_len hs
 obtain ⟨h1,h2,h3,_⟩:=h.rows r hr
 refine Ok.val ?_
 unfold IH
 refine Ok.no ?_ (Ok.bindE (Ft (h.ne hr)) (Ok.brd (fun h=>by omega) fun _=>Ok.bindE (Ft (h.ne hr)) (Ok.brd (fun h=>by omega) fun _=>?_)))
 ·rw [wr (by omega) (by omega),h1]; simp
 unfold HU
 refine Ok.for (fun q=>q) x.Picks.length (fun _ _=>True) 0 (Nat.zero_le _) rfl trivial (by omega) (fun rec q hq _=>?_) fun rec i q hi hq _ ih=>?_
 ·simp only [HL,hq]
  rw [AO (by omega)]
  exact Ok.some rfl
 ·simp only [HL,hq]
  rw [AC (by omega)]
  have hi2:i + 1 < r.length:=by omega
  obtain ⟨⟨u,hu⟩,_⟩:=h.at hs hr hi hi2
  refine Ok.idxn hi ?_
  rw [CH (by omega)]
  exact Ok.idxn hi2 (Ok.bindE hu (Ok.no rfl (ih _ rfl trivial)))
theorem GX.check {x:Au} (hs:DS s) (h:GX s x):DR s x = some 0:=by
 have hl:=h.len
 have hpl:=h.picks_len hs
 have hv:=h.version
 refine Ok.val ?_
 unfold DR
 refine Ok.bindE hs.check (Ok.no rfl (Ok.bindE h.project.2 (Ok.no rfl (Ok.no ?_ (Ok.bindE (eK hs h.picks h.order (by omega)) (Ok.no rfl (Ok.brd (fun h=>by omega) fun _=>?_)))))))
 ·rw [decide_eq_false (by omega),decide_eq_false (by omega)]; rfl
 refine Ok.for (fun q=>q) x.Rows.length (fun _ _=>True) 0 (Nat.zero_le _) rfl trivial (by omega) (fun rec q hq _=>?_) fun rec i q hi hq _ ih=>?_
 ·simp only [Hm,hq]
  rw [AO (by omega)]
  exact Ok.some rfl
 ·simp only [Hm,hq]
  rw [AC (by omega)]
  refine Ok.idxn hi (Ok.bindE (fj hs h (List.getElem_mem hi)) (Ok.no rfl (Ok.brd (fun h1=>?_) fun _=>ih _ (CH (by omega)) trivial)))
  have e:IntKind.i64.wrap ((i:Int) - 1) = ((i - 1:Nat):Int):=by rw [wr (by omega) (by omega)]; omega
  rw [e]
  have hi3:i - 1 < x.Rows.length:=by omega
  have hlt:=(List.pairwise_iff_getElem.1 h.asc) (i - 1) i hi3 hi (by omega)
  exact Ok.bindE (Ft (h.ne (List.getElem_mem hi))) (Ok.idxn hi3 (Ok.bindE (Ft (h.ne (List.getElem_mem hi3))) (Ok.brd (fun h2=>by omega) fun _=>ih _ (CH (by omega)) trivial)))
theorem GX.rcheck {x:Au} (hs:DS s) (h:GX s x):F8 s x = some 0:=by
 have hl:=h.len
 have hpl:=h.picks_len hs
 have hv:=h.version
 refine Ok.val ?_
 unfold F8
 refine Ok.bindE hs.rcheck (Ok.no rfl (Ok.bindE h.project.1 (Ok.no rfl (Ok.no ?_ (Ok.bindE (ca hs h.picks h.order (by omega)) (Ok.no rfl (Ok.brd (fun h=>by omega) fun _=>?_)))))))
 ·rw [decide_eq_false (by omega),decide_eq_false (by omega)]; rfl
 refine Ok.for (fun q=>q) x.Rows.length (fun _ _=>True) 0 (Nat.zero_le _) rfl trivial (by omega) (fun rec q hq _=>?_) fun rec i q hi hq _ ih=>?_
 ·simp only [IX,hq]
  rw [AO (by omega)]
  exact Ok.some rfl
 ·simp only [IX,hq]
  rw [AC (by omega)]
  have hr:=List.getElem_mem hi
  obtain ⟨h1,h2,h3,_⟩:=h.rows _ hr
  refine Ok.idxn hi (Ok.no ?_ (Ok.bindE (Ft (h.ne hr)) (Ok.brd (fun h=>by omega) fun _=>Ok.bindE (Ft (h.ne hr)) (Ok.brd (fun h=>by omega) fun _=>?_))))
  ·rw [wr (by omega) (by omega),h1]; simp
  unfold IC
  refine Ok.for (fun q=>q) x.Picks.length (fun _ _=>True) 0 (Nat.zero_le _) rfl trivial (by omega) (fun rec2 q2 hq2 _=>?_) fun rec2 k q2 hk hq2 _ ih2=>?_
  ·simp only [IG,hq2]
   rw [AO (by omega)]
   unfold Jk
   refine Ok.brd (fun h1=>?_) fun _=>ih _ (CH (by omega)) trivial
   have e:IntKind.i64.wrap ((i:Int) - 1) = ((i - 1:Nat):Int):=by rw [wr (by omega) (by omega)]; omega
   rw [e]
   have hi3:i - 1 < x.Rows.length:=by omega
   have hlt:=(List.pairwise_iff_getElem.1 h.asc) (i - 1) i hi3 hi (by omega)
   exact Ok.bindE (Ft (h.ne hr)) (Ok.idxn hi3 (Ok.bindE (Ft (h.ne (List.getElem_mem hi3))) (Ok.brd (fun h2=>by omega) fun _=>ih _ (CH (by omega)) trivial)))
  ·simp only [IG,hq2]
   rw [AC (by omega)]
   have hk2:k + 1 < x.Rows[i].length:=by omega
   refine Ok.idxn hk (Ok.idxn hk ?_)
   rw [CH (by omega)]
   exact Ok.idxn hk2 (Ok.bindE (h.at hs hr hk hk2).2 (Ok.no rfl (ih2 _ rfl trivial)))
theorem dW (hs:DS s) {i:Nat} (h0:1≤i) (hi:i < s.Columns.length) {v:Int} (hv:Wc s s.Columns[i] v):CV s s.Columns[i] (fin s i) v = v:=by
 have hf:=hs.fin_ok h0 hi
 have h1:=UA hs h0 hi hv
 have h2:=RD hs h0 hi (l:=fin s i) (by omega) (Int.le_refl _) hv
 rw [h1] at h2
 exact (Option.some.inj h2).symm
theorem fE.gx {x:Au} {n:Nat} (hs:DS s) (h:fE s x n) (hn:n≤200):GX s x:=by
 have hc:=hs.cols_length
 have hpl:=HY (s:=s)
 have hlen:=h.len
 refine ⟨?_,by rw [h.version]; omega,?_,?_,?_,h.asc,by omega⟩
 ·rw [h.project]
  exact ⟨by decide +kernel,by decide +kernel⟩
 ·intro p hp
  rw [h.picks] at hp
  obtain ⟨k,hk,rfl⟩:=List.mem_iff_getElem.1 hp
  rw [Dy hk]
  have hf:=hs.fin_ok (i:=k + 1) (by omega) (by omega)
  exact ⟨k + 1,by omega,by omega,rfl,by show 0≤fin s (k + 1); omega,Int.le_refl _⟩
 ·rw [h.picks,List.pairwise_iff_getElem]
  intro a b ha hb hab
  rw [Dy ha,Dy hb]
  show ((a + 1:Nat):Int) < ((b + 1:Nat):Int)
  omega
 ·intro r hr
  obtain ⟨h1,h2,h3,h4⟩:=h.rows r hr
  rw [h.picks]
  refine ⟨by omega,h2,h3,fun k p v hp hv=>?_⟩
  obtain ⟨hk,rfl⟩:=List.getElem?_eq_some_iff.1 hp
  rw [Dy hk]
  have hi:k + 1 < s.Columns.length:=by omega
  have hv2:=h4 (k + 1) _ v (by omega) (List.getElem?_eq_getElem hi) hv
  exact ⟨k + 1,hi,v,by omega,rfl,hv2,(dW hs (by omega) hi hv2).symm⟩
end Go.Proofs.YtejfnieiaecpkaaGreatDoor.P
namespace Go.Proofs.YtejfnieiaecpkaaGreatDoor.P
open Go Go.Abs Go.Proofs
set_option maxRecDepth 100000
variable {s:Aa}
theorem DS.pcond_zero (h:DS s) (d:Nat):BW (d + 1) s Nz = some 4:=by unfold BW; rw [h.check]; rfl
theorem DS.pneeds_zero (h:DS s) (d:Nat):CI (d + 1) s Nz = some []:=by unfold CI; rw [h.pcond_zero]; rfl
theorem aD {i:Nat} (hi:i < s.Columns.length) (h:Ci s.Columns[i]):Bi s i = some true:=by
 unfold Bi
 rw [decide_eq_true (by omega),decide_eq_true (by omega)]
 show (idx s.Columns (i:Int)).bind _ = _
 rw [C4 hi,Option.bind_some,h.kind]
 rfl
theorem XS {i:Nat} (hi:i < s.Columns.length) (h:Ci s.Columns[i]) {n:Nat} (hn:n < s.Columns[i].Widths.length):G0 s i s.Columns[i].Widths[n] = some ((s.Columns[i].Widths.length:Int) - n):=by
 have hwl:=Bk h
 have hd:∀ a b (ha:a < s.Columns[i].Widths.length) (hb:b < s.Columns[i].Widths.length),a < b→s.Columns[i].Widths[a]≠s.Columns[i].Widths[b]:=by
  have hp:s.Columns[i].Widths.Pairwise (·≠·):=by rcases WI h.widths with e | e | e | e <;> (rw [e]; decide)
  intro a b ha hb hab
  exact (List.pairwise_iff_getElem.1 hp) a b ha hb hab
 refine Ok.val ?_
 unfold G0
 refine Ok.idxn hi ?_
 refine Ok.for (fun q=>q) s.Columns[i].Widths.length (fun k _=>k≤n) 0 (Nat.zero_le _) rfl (Nat.zero_le _) (by omega) (fun rec q hq hI=>by omega) fun rec k q hk hq hI ih=>?_
 simp only [JW,hq]
 rw [AC (by omega)]
 refine Ok.idxn hk (Ok.br (fun he=>Ok.some ?_) fun hne=>ih _ (CH (by omega)) ?_)
 ·have he:s.Columns[i].Widths[k] = s.Columns[i].Widths[n]:=by simpa using he
  have:k = n:=by
   rcases Nat.lt_or_ge k n with h1 | h1
   ·exact absurd he (hd k n hk hn h1)
   ·omega
  rw [this,wr (by omega) (by omega)]
 ·by_cases e:k = n
  ·subst e; rw [beq_self_eq_true] at hne; cases hne
  ·omega
theorem Zy {l:List Ae} {p:Ae→Option Bool} (q:Ae→Bool) (hp:∀ x∈l,p x = some (q x)) (hl:l.length≤1000000000):AM l p = some (l.any q):=by
 unfold AM
 rw [show Bj l p = some (Gy q l) from Lt hp hl,Option.bind_some,Nm]
def covers (picks needs:List Ae):Bool:=needs.all fun n=>picks.any fun p=>bif p.Column==n.Column then decide (p.Level ≥ n.Level) else false
theorem Rs (picks needs:List Ae) (h1:picks.length≤1000000) (h2:needs.length≤1000000):DY picks needs = some (covers picks needs):=by
 unfold DY
 rw [Zy (fun n=>!(picks.any fun p=>bif p.Column==n.Column then decide (p.Level ≥ n.Level) else false)) (fun n _=>?_) (by omega)]
 ·rw [Option.bind_some,covers,List.any_eq_not_all_not]
  simp
 ·unfold Fb
  have:=Zy (l:=picks) (p:=fun a0=>DK a0 n) (fun p=>bif p.Column==n.Column then decide (p.Level ≥ n.Level) else false) (fun _ _=>rfl) (by omega)
  rw [this]
  rfl
end Go.Proofs.YtejfnieiaecpkaaGreatDoor.P
namespace Go.Proofs.YtejfnieiaecpkaaGreatDoor.P
open Go Go.Abs Go.Proofs
set_option maxRecDepth 100000
variable {s:Aa}
theorem eL (l:List Int):Mw l 1 ((l.length:Nat):Int) = l.drop 1:=by
 unfold Mw
 rw [List.take_of_length_le]
 ·rfl
 ·rw [List.length_drop]; simp
theorem GX.vals {x:Au} (hs:DS s) (hx:GX s x) {r:List Int} (hr:r∈x.Rows) (k:Nat) (hk:k < x.Picks.length) (hk2:k < (r.drop 1).length) :
 (∃ u,Bb s x.Picks[k].Column x.Picks[k].Level (r.drop 1)[k] = some (u,true))∧Fg s x.Picks[k].Column x.Picks[k].Level (r.drop 1)[k] = some true:=by
 have e:(r.drop 1)[k] = r[k + 1]'(by rw [List.length_drop] at hk2; omega):=by rw [List.getElem_drop]; congr 1; omega
 rw [e]
 exact hx.at hs hr hk _
theorem WP {l:List Int} {p:Int→Option Bool} (q:Int→Bool) (hp:∀ x∈l,p x = some (q x)) (hl:l.length≤1000000000):Bu l p = some (l.any q):=by
 unfold Bu
 rw [show Cw l p = some (Gy q l) from Lt hp hl,Option.bind_some,Nm]
theorem b8 {n w:Int} (hw:1≤w) (hw2:w≤1000000) (h0:-100000000≤n) (h1:n≤100000000):P9 n w = some (n - n % w):=NA hw hw2 h0 h1
theorem bo {x:Au} {l:List Nat} (hl:l.length≤1000) (h:∀ j∈l,j < x.Rows.length) (hne:∀ r∈x.Rows,r≠[]):G4 x (l.map fun j:Nat=>(j:Int)) = some (l.map fun j=>hd (x.Rows.getD j [])):=by
 refine Ok.val ?_
 unfold G4
 refine Ok.for (fun q=>q.1) l.length (fun k q=>q.2 = (l.take k).map fun j=>hd (x.Rows.getD j [])) 0 (Nat.zero_le _) rfl rfl (by omega) (fun rec q hq hI=>?_) fun rec k q hk hq hI ih=>?_
 ·simp only [Hf,hq,hI,List.length_map]
  rw [AO (by omega),List.take_length]
  exact Ok.some rfl
 ·simp only [Hf,hq,hI,List.length_map]
  rw [AC (by omega)]
  have hj:=h _ (List.getElem_mem hk)
  refine Ok.idxn (by rw [List.length_map]; exact hk) ?_
  rw [List.getElem_map]
  refine Ok.idxn hj (Ok.bindE (Ft (hne _ (List.getElem_mem hj))) (Ok.rm (by simp; omega) (ih _ (CH (by omega)) ?_)))
  show _++[_] = _
  rw [List.take_succ_eq_append_getElem hk,List.map_append,List.map_cons,List.map_nil,List.getD_eq_getElem?_getD,List.getElem?_eq_getElem hj]
  rfl
theorem dP {x:Au} {l:List Nat} (hl:l.length≤1000) (h:∀ j∈l,j < x.Rows.length) (hne:∀ r∈x.Rows,r≠[]):LF x (l.map fun j:Nat=>(j:Int)) = some (l.map fun j=>hd (x.Rows.getD j [])):=bo hl h hne
end Go.Proofs.YtejfnieiaecpkaaGreatDoor.P
namespace Go.Proofs.YtejfnieiaecpkaaGreatDoor.P
open Go Go.Abs Go.Proofs
set_option maxRecDepth 100000
variable {s:Aa}
def keep (w:Nat→Int) (n:Nat):List Nat:=(List.range n).filter fun j=>w j != Bq
def IA (l:List Nat):List Int:=l.map fun j:Nat=>(j:Int)
theorem bF {c:Av} (h:Ci c) {n:Nat} (hn:n < c.Widths.length):1≤c.Widths[n]∧c.Widths[n]≤20:=by
 have:∀ v∈c.Widths,1≤v∧v≤20:=by rcases WI h.widths with e | e | e | e <;> (rw [e]; decide)
 exact this _ (List.getElem_mem hn)
theorem ai {l:List B4} (hl:l.length≤1000000):JA l l = some true:=by
 refine Ok.val ?_
 unfold JA
 refine Ok.no (by simp) ?_
 refine Ok.for (fun q=>q) l.length (fun _ _=>True) 0 (Nat.zero_le _) rfl trivial (by omega) (fun rec q hq hI=>?_) fun rec k q hk hq hI ih=>?_
 ·simp only [Kj,hq]
  rw [AO (by omega)]
  exact Ok.some rfl
 ·simp only [Kj,hq]
  rw [AC (by omega)]
  exact Ok.idxn hk (Ok.idxn hk (Ok.no (by simp) (ih _ (CH (by omega)) trivial)))
theorem VH {l:List Int} (hl:l.length≤1000000):JS l l = some true:=by
 refine Ok.val ?_
 unfold JS
 refine Ok.no (by simp) ?_
 refine Ok.for (fun q=>q) l.length (fun _ _=>True) 0 (Nat.zero_le _) rfl trivial (by omega) (fun rec q hq hI=>?_) fun rec k q hk hq hI ih=>?_
 ·simp only [Kf,hq]
  rw [AO (by omega)]
  exact Ok.some rfl
 ·simp only [Kf,hq]
  rw [AC (by omega)]
  exact Ok.idxn hk (Ok.idxn hk (Ok.no (by simp) (ih _ (CH (by omega)) trivial)))
end Go.Proofs.YtejfnieiaecpkaaGreatDoor.P
namespace Go.Proofs.YtejfnieiaecpkaaGreatDoor.P
open Go Go.Abs Go.Proofs
set_option maxRecDepth 100000
variable {s:Aa}
theorem DS.last (h:DS s):∃ i:Nat,1≤i∧∃ hi:i < s.Columns.length,Ci s.Columns[i]:=by
 obtain ⟨j,ms,e,h1,h2,h3⟩:=h.cols
 have hc:=NM j
 have hlen:s.Columns.length = (K1 j).length + ms.length:=by rw [e,List.length_append]
 refine ⟨(K1 j).length,by omega,by omega,?_⟩
 have hm:=(h3 0 (by omega)).1
 have e2:s.Columns[(K1 j).length]? = some (ms[0]'(by omega)):=by
  rw [e,List.getElem?_append_right (Nat.le_refl _),Nat.sub_self]
  exact List.getElem?_eq_getElem (by omega)
 rw [List.getElem?_eq_getElem (by omega)] at e2
 rw [Option.some.inj e2]
 exact hm
theorem Ub (hs:DS s):Ok (Dt s 3) fun l=>l≠[]∧l.length≤6∧∀ v∈l,∃ i:Nat,v = i∧1≤i∧∃ hi:i < s.Columns.length,Ci s.Columns[i]:=by
 have hc:=hs.cols_length
 unfold Dt
 refine Ok.for (fun q=>q.1) s.Columns.length (fun k q=>q.2.length≤k∧(∀ v∈q.2,∃ i:Nat,v = i∧1≤i∧∃ hi:i < s.Columns.length,Ci s.Columns[i])∧∀ (i:Nat) (hi:i < s.Columns.length),i < k→Ci s.Columns[i]→(i:Int)∈q.2) 0 (Nat.zero_le _) rfl
  ⟨Nat.le_refl _,(fun v hv=>by cases hv),fun i _ h=>by omega⟩ (by omega) (fun rec q hq hI=>?_) fun rec k q hk hq hI ih=>?_
 ·simp only [E6,hq]
  rw [AO (by omega)]
  obtain ⟨i,_,hi,hm⟩:=hs.last
  exact Ok.some ⟨(fun e=>by have:=hI.2.2 i hi hi hm; rw [e] at this; cases this),by have:=hI.1; omega,hI.2.1⟩
 ·simp only [E6,hq]
  rw [AC (by omega)]
  have hI1:=hI.1
  refine Ok.idxn hk (Ok.br (fun e=>Ok.rm (by simp; omega) (ih _ (CH (by omega)) ⟨by simp; omega,fun v hv=>?_,fun j hj hjk hm=>?_⟩)) fun e=>ih _ (CH (by omega)) ⟨by show q.2.length≤k + 1; omega,hI.2.1,fun j hj hjk hm=>?_⟩)
  ·rcases List.mem_append.1 hv with hv | hv
   ·exact hI.2.1 v hv
   ·rw [List.mem_singleton] at hv
    have e:s.Columns[k].Kind = 3:=by simpa using e
    rcases hs.cl hk with ⟨_,h1⟩ | ⟨h0,h1 | h1⟩
    ·rw [h1] at e; cases e
    ·rw [h1.kind] at e; cases e
    ·exact ⟨k,hv,h0,hk,h1⟩
  ·show _∈q.2++[_]
   rcases Nat.lt_or_ge j k with h1 | h1
   ·exact List.mem_append_left _ (hI.2.2 j hj h1 hm)
   ·obtain rfl:j = k:=by omega
    exact List.mem_append_right _ (List.mem_singleton.2 rfl)
  ·rcases Nat.lt_or_ge j k with h1 | h1
   ·exact hI.2.2 j hj h1 hm
   ·obtain rfl:j = k:=by omega
    rw [hm.kind] at e
    cases e
theorem Mn {c:Ab} (hc:GE c) (hs:DS s):Ok (B0 c s) fun r=>GE r.2∧∃ i:Nat,r.1 = i∧1≤i∧∃ hi:i < s.Columns.length,Ci s.Columns[i]:=by
 unfold B0
 refine Ok.bind (Ub hs) fun l hl=>?_
 have:l.length≠0:=fun e=>hl.1 (List.eq_nil_of_length_eq_zero e)
 have hl6:=hl.2.1
 refine Ok.bind (Dk hc (by omega) (by omega)) fun y hy=>Ok.idx hy.2.1 (by omega) (Ok.some ⟨hy.1,hl.2.2 _ (List.getElem_mem _)⟩)
theorem bW (v:Int) {n:Nat} (hn:1≤n) (hn2:n≤1000):Ok (Nd v ((n:Nat):Int)) fun r=>∃ k:Nat,r = k∧k < n:=by
 unfold Nd
 have h1:=Int.emod_nonneg v (show ((n:Nat):Int)≠0 by omega)
 have h2:=Int.emod_lt_of_pos v (show 0 < ((n:Nat):Int) by omega)
 have hc:=LW v (w:=((n:Nat):Int)) (by omega)
 refine Ok.brd (fun h=>by omega) fun _=>Ok.gdd (by omega) (Ok.brd (fun h=>Ok.some ?_) fun h=>Ok.some ?_)
 ·have e:Int.tmod v n = v % n - n:=by omega
  refine ⟨(v % n).toNat,?_,by omega⟩
  rw [e,wr (by omega) (by omega)]
  omega
 ·have e:Int.tmod v n = v % n:=by omega
  refine ⟨(v % n).toNat,?_,by omega⟩
  rw [e]
  omega
theorem ff:H1 [1,4,5,-1] = [-1,1,4,5]:=by simp [H1,List.mergeSort,List.MergeSort.Internal.splitInTwo,List.merge]
theorem fm:H1 [5,1,9,3,7] = [1,3,5,7,9]:=by simp [H1,List.mergeSort,List.MergeSort.Internal.splitInTwo,List.merge]
theorem eN:Fk [1,4,5,(-1)] 5 = some ([({ Low:=(-5),Count:=1 }:B4),({ Low:=0,Count:=2 }:B4),({ Low:=5,Count:=1 }:B4)],0):=by
 unfold Fk
 refine Ok.val (Ok.no (by decide +kernel) (Ok.no (by decide +kernel) (Ok.bindE (x:=false) (by decide +kernel) (Ok.no rfl ?_))))
 unfold II Bl Bs
 refine Ok.bindE (x:=[1,4,5,-1]) (by decide +kernel) (Ok.bindE (x:=[-1,1,4,5]) ?_ (Ok.eq rfl))
 rw [ff]
 decide +kernel
theorem eB:Cn [5,1,9,3,7] = some (({ Count:=5,Least:=1,Lower:=3,Middle:=5,Upper:=7,Greatest:=9 }:He),0):=by
 unfold Cn
 refine Ok.val (Ok.no (by decide +kernel) (Ok.bindE (x:=false) (by decide +kernel) (Ok.no rfl (Ok.no (by decide +kernel) ?_))))
 unfold Bl Bs
 refine Ok.bindE (x:=[5,1,9,3,7]) (by decide +kernel) (Ok.bindE (x:=[1,3,5,7,9]) ?_ (Ok.eq rfl))
 rw [fm]
 decide +kernel
theorem cu:Kz = some true:=by
 unfold Kz
 rw [eN,Option.bind_some,eB,Option.bind_some]
 decide +kernel
end Go.Proofs.YtejfnieiaecpkaaGreatDoor.P
