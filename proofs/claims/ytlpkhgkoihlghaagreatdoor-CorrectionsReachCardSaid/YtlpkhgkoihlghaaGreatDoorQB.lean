/- QB -/
import Derived.Test.YtlpkhgkoihlghaaGreatDoorQA
set_option linter.unusedVariables false
set_option linter.unusedSimpArgs false
namespace Go.Proofs.YtlpkhgkoihlghaaGreatDoor.P
open Go Go.Abs Go.Proofs
set_option maxRecDepth 100000
variable {s:Af}
theorem OY (n a b:Int):DF n a b = some (decide (a≤n∧n≤b)):=by
 unfold DF
 by_cases h:a≤n <;> by_cases h2:n≤b <;> simp [h,h2]
theorem cE {w:List Int} (h:w∈N4):w = [1]∨w = [1,5]∨w = [1,5,20]∨w = [1,2,4,12]:=by simpa [N4] using h
theorem cO {c:A3} (h:Qe c):Hk c = some 0:=by
 have hw:GK c = some 0:=by
  obtain ⟨n,k,li,lo,hi,w,o⟩:=c
  rcases cE h.widths with e | e | e | e <;> (simp only at e; subst e; rfl)
 obtain ⟨h1,h2⟩:=h.low
 obtain ⟨h3,h4⟩:=h.high
 unfold Hk
 rw [OY,Option.bind_some,dt,OY,Option.bind_some,dt,df,hw]
 rfl
theorem cK {c:A3} (h:Qe c):Dt c = some 0:=by
 have hw:(bif (bif (((c.Widths.length:Nat):Int)==0) then true else (decide (((c.Widths.length:Nat):Int) > 4))) then some 1 else iter (fun rec1 s=>F0 c (fun v3_1 v36_1=>some 0) rec1 s.1 s.2) AI (1,0)) = some 0:=by
  obtain ⟨n,k,li,lo,hi,w,o⟩:=c
  rcases cE h.widths with e | e | e | e <;> (simp only at e; subst e; rfl)
 obtain ⟨h1,h2⟩:=h.low
 obtain ⟨h3,h4⟩:=h.high
 unfold Dt
 rw [df,df,df]
 simp only [cond_false]
 exact hw
def eZ (i:Nat) (c:A3):Prop:=(i = 0∧c = eX)∨(1≤i∧(O0 c∨Qe c))
theorem DS.cl (h:DS s) {i:Nat} (hi:i < s.Columns.length):eZ i s.Columns[i]:=by
 rcases Nat.eq_zero_or_pos i with rfl | h0
 ·exact .inl ⟨rfl,h.col0 hi⟩
 ·exact .inr ⟨h0,h.col h0 hi⟩
theorem eZ.kinds {i:Nat} {c:A3} (h:eZ i c):(c.Kind = 1∨c.Kind = 2∨c.Kind = 3)∧(c.Kind = 1→i = 0):=by
 rcases h with ⟨rfl,rfl⟩ | ⟨h0,h | h⟩
 ·exact ⟨.inl rfl,fun _=>rfl⟩
 ·rw [h.kind]; exact ⟨.inr (.inl rfl),fun e=>by omega⟩
 ·rw [h.kind]; exact ⟨.inr (.inr rfl),fun e=>by omega⟩
theorem Vj {i:Nat} {c:A3} (h:eZ i c):Eh c = some 0:=by
 rcases h with ⟨rfl,rfl⟩ | ⟨h0,h | h⟩
 ·rfl
 ·obtain ⟨n,k,li,lo,hi,w,o⟩:=c
  obtain ⟨h1,h2,h3,h4,h5,h6⟩:=h
  simp only at h1 h2 h3 h4 h5 h6
  subst h1; subst h3; subst h4; subst h5; subst h6
  rfl
 ·unfold Eh
  rw [cO h,h.kind,h.list]
  rfl
theorem dB (h:DS s) {i:Nat} (hi:i < s.Columns.length):I8 s i = some 0:=by
 have hcol:=h.cl hi
 have hk:=hcol.kinds
 have hl:=h.lists2
 refine Ok.val ?_
 unfold I8
 refine Ok.idxn hi (Ok.bindE (h.name hi).1 ?_)
 simp only [Bool.not_true,Bool.not_false,cond_true,cond_false]
 refine Ok.for (fun s=>s) i (fun _ _=>True) 0 (Nat.zero_le _) rfl trivial (by have:=h.cols_length; omega) (fun rec q hq _=>?_) fun rec k q hk2 hq _ ih=>?_
 ·simp only [Hx,hq]
  rw [Br]
  unfold Hy
  rw [OY,Option.bind_some,dt]
  have e1:(bif decide ((i:Int) > 0) then s.Columns[i].Kind==1 else false) = false:=by
   by_cases e:i = 0
   ·subst e; rfl
   ·have:s.Columns[i].Kind≠1:=fun h1=>e (hk.2 h1)
    simp [this]
  rw [e1]
  show Ok (bif (s.Columns[i].Kind==2) then _ else _) _
  refine Ok.br (fun he=>?_) fun _=>Ok.eq (Vj hcol)
  have he:s.Columns[i].Kind = 2:=by simpa using he
  have hlist:s.Columns[i].List_ = 0∨s.Columns[i].List_ = 1:=by
   rcases hcol with ⟨rfl,e⟩ | ⟨_,h | h⟩
   ·rw [e]; exact .inl rfl
   ·exact h.list
   ·exact .inl h.list
  rw [OY,Option.bind_some,hl,decide_eq_true (by rw [wr]; omega)]
  exact Ok.eq (Vj hcol)
 ·simp only [Hx,hq]
  rw [Bj]
  refine Ok.idxn (by omega:k < s.Columns.length) ?_
  rw [(h.name_ne hi hk2).1]
  refine ih _ ?_ trivial
  show IntKind.i64.wrap ((k:Int) + 1) = _
  have:=h.cols_length
  rw [wr]; omega
theorem DS.lname (h:DS s) (h0:0 < s.Lists.length) (h1:1 < s.Lists.length):s.Lists[0].Name = Vf∧s.Lists[1].Name = XX:=by
 obtain ⟨a,ha,b,hb,e⟩:=h.lists
 have e0:s.Lists[0]? = some { Name:=Vf,Codes:=a }:=by rw [e]; rfl
 have e1:s.Lists[1]? = some { Name:=XX,Codes:=b }:=by rw [e]; rfl
 rw [List.getElem?_eq_getElem h0] at e0
 rw [List.getElem?_eq_getElem h1] at e1
 rw [Option.some.inj e0,Option.some.inj e1]
 exact ⟨rfl,rfl⟩
theorem aC:(Vf.toList==XX.toList) = false:=by decide +kernel
theorem DS.rcheck (h:DS s):C8 s = some 0:=by
 have hl:=h.lists2
 have hc:=h.cols_length
 refine Ok.val ?_
 unfold C8
 rw [df,df]
 simp only [Bool.not_true,Bool.not_false,cond_true,cond_false]
 refine Ok.for (fun s=>s) s.Lists.length (fun _ _=>True) 0 (Nat.zero_le _) rfl trivial (by omega) (fun rec q hq _=>?_) fun rec i q hi hq _ ih=>?_
 ·simp only [I3,hq]
  rw [Br]
  unfold I6
  have e0:(((s.Columns.length:Nat):Int)==0) = false:=by rw [beq_eq_false_iff_ne]; omega
  rw [e0]
  show Ok ((idx s.Columns 0).bind _) _
  refine Ok.idxn (i:=0) (by omega) ?_
  rw [h.col0]
  refine Ok.no rfl ?_
  refine Ok.for (fun s=>s) s.Columns.length (fun _ _=>True) 0 (Nat.zero_le _) rfl trivial (by omega) (fun rec q hq _=>?_) fun rec i q hi hq _ ih=>?_
  ·simp only [I5,hq]
   rw [Br]
   exact Ok.some rfl
  ·simp only [I5,hq]
   rw [Bj]
   refine Ok.bindE (dB h hi) (ih _ ?_ trivial)
   show IntKind.i64.wrap ((i:Int) + 1) = _
   rw [wr]; omega
 ·simp only [I3,hq]
  rw [Bj]
  refine Ok.idxn hi (Ok.bindE (Oa (h.list hi)).rcheck ?_)
  refine Ok.no rfl ?_
  refine Ok.for (fun s=>s) i (fun _ _=>True) 0 (Nat.zero_le _) rfl trivial (by omega) (fun rec2 q hq _=>?_) fun rec2 k q hk hq _ ih2=>?_
  ·simp only [I4,hq]
   rw [Br]
   refine ih _ ?_ trivial
   show IntKind.i64.wrap ((i:Int) + 1) = _
   rw [wr]; omega
  ·simp only [I4,hq]
   rw [Bj]
   refine Ok.idxn (by omega:k < s.Lists.length) (Ok.idxn hi ?_)
   obtain rfl:k = 0:=by omega
   obtain rfl:i = 1:=by omega
   have hn:=h.lname (by omega) (by omega)
   rw [hn.1,hn.2,aC]
   refine ih2 _ ?_ trivial
   show IntKind.i64.wrap (((0:Nat):Int) + 1) = _
   rw [wr]; omega
theorem fj {α:Type} (l:List α) {i:Nat} (hi:i≤l.length):HR l 0 (i:Int) = l.take i:=by simp [HR]
theorem d9 {i:Nat} {c:A3} (h:eZ i c):D2 c = some true:=by
 rcases h with ⟨rfl,rfl⟩ | ⟨h0,h | h⟩
 ·rfl
 ·obtain ⟨n,k,li,lo,hi,w,o⟩:=c
  obtain ⟨h1,h2,h3,h4,h5,h6⟩:=h
  simp only at h1 h2 h3 h4 h5 h6
  subst h1; subst h3; subst h4; subst h5; subst h6
  rfl
 ·unfold D2
  rw [h.kind,h.list]
  rfl
theorem d5 (h:DS s) {i:Nat} (hi:i < s.Columns.length):DJ s i = some 0:=by
 have hcol:=h.cl hi
 have hl:=h.lists2
 have hc:=h.cols_length
 refine Ok.val ?_
 unfold DJ
 refine Ok.idxn hi (Ok.bindE (h.name hi).2 (Ok.gdd (by omega) ?_))
 rw [fj _ (by omega)]
 refine Ok.bindE (aS (fun a=>a.Name.toList==s.Columns[i].Name.toList) (fun x _=>rfl) (by simp; omega)) ?_
 have:(s.Columns.take i).any (fun a=>a.Name.toList==s.Columns[i].Name.toList) = false:=by
  rw [List.any_eq_false]
  intro x hx
  obtain ⟨k,hk,rfl⟩:=List.mem_iff_getElem.1 hx
  have hki:k < i:=by simp at hk; omega
  rw [List.getElem_take,(h.name_ne hi hki).1]
  simp
 rw [this]
 show Ok (bif (s.Columns[i].Kind==1) then _ else _) _
 have GD:Ok ((D2 s.Columns[i]).bind fun x49=>bif (!x49) then some 11 else some 0) (· = (0:Int)):=Ok.bindE (d9 hcol) (Ok.some rfl)
 rcases hcol with ⟨rfl,e⟩ | ⟨h0,h1 | h1⟩
 ·rw [e]; rw [e] at GD; exact GD
 ·rw [h1.kind]
  have:(bif decide (s.Columns[i].List_ < 0) then true else decide (s.Columns[i].List_ ≥ ((s.Lists.length:Nat):Int))) = false:=by
   rcases h1.list with e | e <;> (rw [e,hl]; rfl)
  show Ok (bif (bif decide (s.Columns[i].List_ < 0) then true else decide (s.Columns[i].List_ ≥ ((s.Lists.length:Nat):Int))) then _ else _) _
  rw [this]
  exact GD
 ·rw [h1.kind]
  exact Ok.bindE (cK h1) GD
theorem DS.check (h:DS s):C0 s = some 0:=by
 have hl:=h.lists2
 have hc:=h.cols_length
 refine Ok.val ?_
 unfold C0
 rw [df,df]
 simp only [Bool.not_true,Bool.not_false,cond_true,cond_false]
 refine Ok.for (fun s=>s) s.Lists.length (fun _ _=>True) 0 (Nat.zero_le _) rfl trivial (by omega) (fun rec q hq _=>?_) fun rec i q hi hq _ ih=>?_
 ·simp only [H6,hq]
  rw [Br]
  unfold H8
  have e0:(((s.Columns.length:Nat):Int)==0) = false:=by rw [beq_eq_false_iff_ne]; omega
  rw [e0]
  show Ok ((idx s.Columns 0).bind _) _
  refine Ok.idxn (i:=0) (by omega) ?_
  rw [h.col0]
  refine Ok.no rfl ?_
  refine Ok.for (fun s=>s) s.Columns.length (fun _ _=>True) 0 (Nat.zero_le _) rfl trivial (by omega) (fun rec q hq _=>?_) fun rec i q hi hq _ ih=>?_
  ·simp only [H7,hq]
   rw [Br]
   exact Ok.some rfl
  ·simp only [H7,hq]
   rw [Bj]
   refine Ok.bindE (d5 h hi) (ih _ ?_ trivial)
   show IntKind.i64.wrap ((i:Int) + 1) = _
   rw [wr]; omega
 ·simp only [H6,hq]
  rw [Bj]
  refine Ok.idxn hi (Ok.bindE (Oa (h.list hi)).check ?_)
  show Ok (bif decide _ then _ else none) _
  refine Ok.gdd (by omega) ?_
  rw [fj _ (by omega)]
  refine Ok.bindE (Yk (fun a=>a.Name.toList==s.Lists[i].Name.toList) (fun x _=>rfl) (by simp; omega)) ?_
  have:(s.Lists.take i).any (fun a=>a.Name.toList==s.Lists[i].Name.toList) = false:=by
   rw [List.any_eq_false]
   intro x hx
   obtain ⟨k,hk,rfl⟩:=List.mem_iff_getElem.1 hx
   have hki:k < i:=by simp at hk; omega
   obtain rfl:k = 0:=by omega
   obtain rfl:i = 1:=by omega
   have hn:=h.lname (by omega) (by omega)
   rw [List.getElem_take,hn.1,hn.2,aC]
   simp
  rw [this]
  refine ih _ ?_ trivial
  show IntKind.i64.wrap ((i:Int) + 1) = _
  rw [wr]; omega
end Go.Proofs.YtlpkhgkoihlghaaGreatDoor.P
namespace Go.Proofs.YtlpkhgkoihlghaaGreatDoor.P
open Go Go.Abs Go.Proofs
set_option maxRecDepth 100000
variable {s:Af}
theorem EF {i:Nat} (h:i≤1000000000000:=by omega):IntKind.i64.wrap ((i:Int) + 1) = ((i + 1:Nat):Int):=by rw [wr]; omega
def Me:Int:=-1099511627776
def bG (s:Af) (c:A3) (v:Int):Prop :=
 (c.Kind = 1∧1≤v∧v≤1000)∨(c.Kind = 2∧∃ L,L∈aN∧idx s.Lists c.List_ = some L∧v∈Ey L)∨(c.Kind = 3∧((c.Low≤v∧v≤c.High)∨(c.Optional = true∧v = Me)))
def Jc (s:Af) (r:List Int):Prop:=r.length = s.Columns.length∧∀ (i:Nat) c v,s.Columns[i]? = some c→r[i]? = some v→bG s c v
theorem DS.clist (h:DS s) {c:A3} (hc:O0 c):∃ L,L∈aN∧idx s.Lists c.List_ = some L:=by
 have hl:=h.lists2
 rcases hc.list with e | e
 ·have h0:0 < s.Lists.length:=by omega
  exact ⟨_,h.list h0,by rw [e]; exact K7 (i:=0) h0⟩
 ·have h1:1 < s.Lists.length:=by omega
  exact ⟨_,h.list h1,by rw [e]; exact K7 (i:=1) h1⟩
theorem bp {s:Af} {i:Int} {c:A3} {L:Ax} (hc:idx s.Columns i = some c) (hL:idx s.Lists c.List_ = some L) (hL2:L∈aN):Fw s i = some (Ey L):=by
 have h:=Oa hL2
 have h2:=h.lev2
 have h3:=h.lev3
 unfold Fw
 rw [hc,Option.bind_some,hL,Option.bind_some,h.rlev,Option.bind_some,wr,h.rleaves]
 rfl
theorem X6:(aN.all fun l=>decide ((Ey l).length≤10)) = true:=by decide +kernel
theorem cY (h:DS s) {c:Ae} (hc:ES c) {i:Nat} (hi:i < s.Columns.length):Ok (EM c s i) fun r=>ES r.2∧bG s s.Columns[i] r.1:=by
 unfold EM
 refine Ok.idxn hi ?_
 have hidx:idx s.Columns (i:Int) = some s.Columns[i]:=K7 hi
 generalize hcc:s.Columns[i] = cl at hidx ⊢
 have hcol:=h.cl hi
 rw [hcc] at hcol
 rcases hcol with ⟨rfl,e⟩ | ⟨h0,h1 | h1⟩
 ·subst e
  refine Ok.yes rfl (Ok.bind (FC hc (by omega) (by omega) (by omega) (by omega)) fun x hx=>Ok.some ⟨hx.1,.inl ⟨rfl,hx.2.1,by show x.1≤1000; omega⟩⟩)
 ·obtain ⟨L,hL,hL2⟩:=h.clist h1
  have hcl:=Oa hL
  refine Ok.no (by rw [h1.kind]; rfl) (Ok.yes (by rw [h1.kind]; rfl) (Ok.bindE (bp hidx hL2 hL) ?_))
  have hs:(Ey L).length≤10:=by have:=List.all_eq_true.1 X6 L hL; simpa using this
  have hne:0 < (Ey L).length:=List.length_pos_iff.2 hcl.some_
  refine Ok.bind (Cv hc (by omega) (by omega)) fun x hx=>?_
  refine Ok.idx hx.2.1 (by omega) (Ok.some ⟨hx.1,.inr (.inl ⟨h1.kind,L,hL,hL2,List.getElem_mem _⟩)⟩)
 ·obtain ⟨h2,h3⟩:=h1.low
  obtain ⟨h4,h5⟩:=h1.high
  refine Ok.no (by rw [h1.kind]; rfl) (Ok.no (by rw [h1.kind]; rfl) ?_)
  have rg:∀ {c':Ae},ES c'→Ok ((AN c' cl.Low cl.High).bind fun x43=>some (x43.1,x43.2)) fun r=>ES r.2∧bG s cl r.1:=fun hc' =>
   Ok.bind (FC hc' h4 (by omega) (by omega) (by omega)) fun x hx=>Ok.some ⟨hx.1,.inr (.inr ⟨h1.kind,.inl hx.2⟩)⟩
  refine Ok.br (fun ho=>Ok.bind (L1 hc (by omega) (by omega)) fun x hx=>Ok.br (fun _=>Ok.some ⟨hx,.inr (.inr ⟨h1.kind,.inr ⟨ho,rfl⟩⟩)⟩) fun _=>rg hx) fun _=>rg hc
theorem cQ (h:DS s) {c:Ae} (hc:ES c):Ok (EK c s) fun r=>ES r.2∧Jc s r.1:=by
 have hl:=h.cols_length
 unfold EK
 refine Ok.for (fun q=>q.1) s.Columns.length (fun i q=>ES q.2.1∧q.2.2.length = i∧∀ (k:Nat) c v,s.Columns[k]? = some c→q.2.2[k]? = some v→bG s c v) 0 (Nat.zero_le _) rfl ⟨hc,rfl,fun k c v _ h=>by simp at h⟩ (by omega) (fun rec q hq hI=>?_) fun rec i q hi hq hI ih=>?_
 ·simp only [FX,hq]
  rw [Br]
  exact Ok.some ⟨hI.1,hI.2.1,hI.2.2⟩
 ·simp only [FX,hq]
  rw [Bj]
  refine Ok.bind (cY h hI.1 hi) fun x hx=>Ok.rm (by rw [hI.2.1]; simp; omega) (ih _ EF ⟨hx.1,by simp [hI.2.1],fun k cc v hk hv=>?_⟩)
  rw [List.getElem?_append] at hv
  split at hv
  ·exact hI.2.2 k cc v hk hv
  ·rename_i hlt
   have hk0:k = i:=by
    have:=(List.getElem?_eq_some_iff.1 hv).1
    simp at this; omega
   subst hk0
   rw [hI.2.1] at hv
   simp at hv
   rw [List.getElem?_eq_getElem hi] at hk
   cases hk; subst hv
   exact hx.2
def hd (r:List Int):Int:=r.headD 0
theorem BV {r:List Int} (h:r≠[]):idx r 0 = some (hd r):=by
 cases r with
 | nil=>exact absurd rfl h
 | cons a q=>rfl
def PM (l:List (List Int)):Prop:=l.Pairwise fun a b=>hd a < hd b
def L5 (l:List (List Int)) (row:List Int):List (List Int):=l.filter (fun x=>decide (hd x < hd row))++row :: l.filter (fun x=>decide (hd row < hd x))
theorem S9 {l:List (List Int)} {row:List Int} (h:PM l):PM (L5 l row):=by
 unfold PM L5
 rw [List.pairwise_append,List.pairwise_cons]
 refine ⟨h.sublist List.filter_sublist,⟨fun x hx=>?_,h.sublist List.filter_sublist⟩,fun x hx y hy=>?_⟩
 ·have:=(List.mem_filter.1 hx).2; simpa using this
 ·have h1:=(List.mem_filter.1 hx).2
  rcases List.mem_cons.1 hy with rfl | hy
  ·simpa using h1
  ·have h2:=(List.mem_filter.1 hy).2
   simp at h1 h2; omega
theorem Vh {l:List (List Int)} {row x:List Int} (h:x∈L5 l row):x = row∨x∈l:=by
 unfold L5 at h
 rcases List.mem_append.1 h with h | h
 ·exact .inr (List.mem_filter.1 h).1
 ·rcases List.mem_cons.1 h with h | h
  ·exact .inl h
  ·exact .inr (List.mem_filter.1 h).1
theorem Ke (l:List (List Int)) (row:List Int):(L5 l row).length≤l.length + 1:=by
 unfold L5
 rw [List.length_append,List.length_cons]
 have:(l.filter (fun x=>decide (hd x < hd row))).length + (l.filter (fun x=>decide (hd row < hd x))).length≤l.length:=by
  induction l with
  | nil=>simp
  | cons a r ih =>
    simp only [List.filter_cons,List.length_cons]
    by_cases h1:hd a < hd row <;> by_cases h2:hd row < hd a <;> simp [h1,h2] <;> omega
 omega
theorem EQ {α:Type} (l:List α) (p:α→Bool) {i:Nat} (hi:i < l.length):(l.take (i + 1)).filter p = (l.take i).filter p++if p l[i] then [l[i]] else []:=by
 rw [List.take_succ_eq_append_getElem hi,List.filter_append]
 congr 1
 simp only [List.filter_cons,List.filter_nil]
theorem Vi {l:List (List Int)} {row:List Int} (hl:∀ x∈l,x≠[]) (hr:row≠[]) (hs:PM l) (hlen:l.length≤1000000):FK l row = some (L5 l row):=by
 refine Ok.val ?_
 unfold FK
 refine Ok.for (fun q=>q.2.1) l.length (fun i q=>(q.1 = false∧(∀ x∈l.take i,hd x≤hd row)∧q.2.2 = (l.take i).filter (fun x=>decide (hd x < hd row))) ∨
  (q.1 = true∧(∃ x∈l.take i,hd row < hd x)∧q.2.2 = (l.take i).filter (fun x=>decide (hd x < hd row))++row :: (l.take i).filter (fun x=>decide (hd row < hd x)))) 0 (Nat.zero_le _) rfl (.inl ⟨rfl,by simp,by simp⟩) (by omega) (fun rec q hq hI=>?_) fun rec i q hi hq hI ih=>?_
 ·simp only [KF,hq]
  rw [Br]
  rw [List.take_length] at hI
  rcases hI with ⟨h1,h2,h3⟩ | ⟨h1,h2,h3⟩
  ·rw [h1]
   refine Ok.yes rfl (Ok.rm ?_ (Ok.some ?_))
   ·rw [h3]; have:=List.length_filter_le (fun x=>decide (hd x < hd row)) l; simp; omega
   ·rw [h3,L5]
    congr 2
    symm
    rw [List.filter_eq_nil_iff]
    intro x hx
    have:=h2 x hx
    simp; omega
  ·rw [h1]
   exact Ok.no rfl (Ok.some h3)
 ·simp only [KF,hq]
  rw [Bj]
  have hne:=hl _ (List.getElem_mem hi)
  have hmem:∀ x∈l.take i,hd x < hd l[i]:=by
   intro x hx
   obtain ⟨k,hk,rfl⟩:=List.mem_iff_getElem.1 hx
   have hk2:k < i:=by simp at hk; omega
   rw [List.getElem_take]
   exact (List.pairwise_iff_getElem.1 hs) k i (by omega) hi hk2
  have hf1:=EQ l (fun x=>decide (hd x < hd row)) hi
  have hf2:=EQ l (fun x=>decide (hd row < hd x)) hi
  have hlen1:q.2.2.length≤i + 1:=by
   have e0:(l.take i).length = i:=by simp; omega
   have e1:((l.take i).filter (fun x=>decide (hd x < hd row))).length + ((l.take i).filter (fun x=>decide (hd row < hd x))).length≤i:=by
    have:=Ke (l.take i) row
    unfold L5 at this
    rw [List.length_append,List.length_cons,e0] at this
    omega
   rcases hI with ⟨_,_,h3⟩ | ⟨_,_,h3⟩
   ·rw [h3]; omega
   ·rw [h3,List.length_append,List.length_cons]; omega
  refine Ok.idxn hi (Ok.bindE (BV hne) (Ok.bindE (BV hr) (Ok.br (fun heq=>ih _ EF ?_) fun hneq=>?_)))
  ·have heq:hd l[i] = hd row:=by simpa using heq
   rw [hf1,hf2]
   have e1:decide (hd l[i] < hd row) = false:=df
   have e2:decide (hd row < hd l[i]) = false:=df
   simp only [e1,e2,Bool.false_eq_true,if_false,List.append_nil]
   rcases hI with ⟨h1,h2,h3⟩ | ⟨h1,h2,h3⟩
   ·refine .inl ⟨h1,fun x hx=>?_,h3⟩
    rw [List.take_succ_eq_append_getElem hi] at hx
    rcases List.mem_append.1 hx with hx | hx
    ·exact h2 x hx
    ·simp at hx; subst hx; omega
   ·obtain ⟨x,hx,hx2⟩:=h2
    have:=hmem x hx
    omega
  ·have hneq:hd l[i]≠hd row:=by simpa using hneq
   refine Ok.idxn hi (Ok.bindE (BV hne) (Ok.bindE (BV hr) (Ok.br (fun hc=>?_) fun hc=>?_)))
   ·
    obtain ⟨hgt,hnd⟩:hd row < hd l[i]∧q.1 = false:=by
     by_cases hg:hd l[i] > hd row
     ·rw [decide_eq_true hg] at hc; exact ⟨hg,by simpa using hc⟩
     ·rw [decide_eq_false hg] at hc; cases hc
    rcases hI with ⟨h1,h2,h3⟩ | ⟨h1,h2,h3⟩
    ·refine Ok.rm (by simp; omega) (Ok.idxn hi (Ok.rm (by simp; omega) (ih _ EF (.inr ⟨rfl,⟨l[i],?_,hgt⟩,?_⟩))))
     ·rw [List.take_succ_eq_append_getElem hi]; exact List.mem_append_right _ (List.mem_singleton.2 rfl)
     ·rw [hf1,hf2,df,decide_eq_true hgt,h3]
      have:(l.take i).filter (fun x=>decide (hd row < hd x)) = []:=by
       rw [List.filter_eq_nil_iff]
       intro x hx
       have:=h2 x hx
       simp; omega
      rw [this]
      simp
    ·rw [h1] at hnd; cases hnd
   ·refine Ok.idxn hi (Ok.rm (by simp; omega) (ih _ EF ?_))
    rw [hf1,hf2]
    rcases hI with ⟨h1,h2,h3⟩ | ⟨h1,h2,h3⟩
    ·have hlt:hd l[i] < hd row:=by
      by_cases hg:hd l[i] > hd row
      ·rw [decide_eq_true hg,h1] at hc; cases hc
      ·omega
     refine .inl ⟨h1,fun x hx=>?_,by rw [decide_eq_true hlt,h3]; simp⟩
     rw [List.take_succ_eq_append_getElem hi] at hx
     rcases List.mem_append.1 hx with hx | hx
     ·exact h2 x hx
     ·simp at hx; subst hx; omega
    ·obtain ⟨x,hx,hx2⟩:=h2
     have hxi:=hmem x hx
     refine .inr ⟨h1,⟨x,?_,hx2⟩,?_⟩
     ·rw [List.take_succ_eq_append_getElem hi]; exact List.mem_append_left _ hx
     ·rw [decide_eq_false (by omega:¬ hd l[i] < hd row),decide_eq_true (by omega:hd row < hd l[i]),h3]
      simp
structure bN (x:Aq) (n:Nat):Prop where
 schema:DS x.Schema
 rows:∀ r∈x.Rows,Jc x.Schema r
 asc:PM x.Rows
 len:x.Rows.length≤n
 gone:x.Gone = []
 version:x.Version = 0
theorem Jc.ne (h:DS s) {r:List Int} (hr:Jc s r):r≠[]:=by
 intro e
 have:=hr.1
 have:=h.cols_length
 rw [e] at *
 simp at *
 omega
theorem bC {c:Ae} (hc:ES c) {n:Nat} (hn:n≤50):Ok (Ex c n) fun r=>ES r.2∧bN r.1 n:=by
 unfold Ex
 refine Ok.bind (b8 hc) fun x hx=>?_
 have e:IntKind.i64.wrap ((n:Int) + 1) = (n:Int) + 1:=wr
 rw [e]
 refine Ok.bind (Cv hx.1 (by omega) (by omega)) fun y hy=>?_
 obtain ⟨hy1,hy2,hy3⟩:=hy
 refine Ok.loop (fun q=>0≤q.1∧ES q.2.1∧(∀ r∈q.2.2,Jc x.1 r)∧PM q.2.2∧(q.2.2.length:Int) + q.1≤n) (fun q=>q.1.toNat) ⟨hy2,hy1,(fun r hr=>by cases hr),List.Pairwise.nil,by show ((0:Nat):Int) + y.1≤n; omega⟩ (by unfold AI; show y.1.toNat < _; omega) fun rec q hq ih=>?_
 obtain ⟨h0,h1,h2,h3,h4⟩:=hq
 simp only [Gi]
 refine Ok.brd (fun hp=>Ok.bind (cQ hx.2 h1) fun z hz=>?_) fun hp=>?_
 ·have hput:=Vi (l:=q.2.2) (row:=z.1) (fun r hr=>(h2 r hr).ne hx.2) (hz.2.ne hx.2) h3 (by omega)
  have hpl:=Ke q.2.2 z.1
  refine Ok.bindE hput (ih _ ⟨?_,hz.1,fun r hr=>?_,S9 h3,?_⟩ ?_)
  ·show 0≤IntKind.i64.wrap (q.1 - 1); rw [wr]; omega
  ·rcases Vh hr with rfl | hr
   ·exact hz.2
   ·exact h2 r hr
  ·show ((L5 q.2.2 z.1).length:Int) + IntKind.i64.wrap (q.1 - 1)≤n; rw [wr]; omega
  ·show (IntKind.i64.wrap (q.1 - 1)).toNat < q.1.toNat; rw [wr]; omega
 ·exact Ok.some ⟨h1,hx.2,h2,h3,by show q.2.2.length≤n; omega,rfl,rfl⟩
end Go.Proofs.YtlpkhgkoihlghaaGreatDoor.P
namespace Go.Proofs.YtlpkhgkoihlghaaGreatDoor.P
open Go Go.Abs Go.Proofs
set_option maxRecDepth 100000
variable {s:Af}
abbrev DD:Nat:=60
def TV:As:={ Op:=1,Column:=0,Code:=0,Low:=0,High:=0,Kids:=[] }
def f6:As:={ Op:=0,Column:=0,Code:=0,Low:=0,High:=0,Kids:=[] }
theorem DS.rcond_all (h:DS s):E2 DD s TV = some 0:=by unfold E2; rw [h.rcheck]; rfl
def bc (s:Af) (c:A3):Int:=if c.Kind = 2 then M6 ((idx s.Lists c.List_).getD { Name:=Vf,Codes:=[] }) - 1 else c.Widths.length
def GD (s:Af) (i:Nat):Int:=bc s (s.Columns[i]?.getD eX)
theorem Ri {i:Nat} (hi:i < s.Columns.length):GD s i = bc s s.Columns[i]:=by unfold GD; rw [List.getElem?_eq_getElem hi]; rfl
theorem Hq {c:A3} (h:Qe c):1≤c.Widths.length∧c.Widths.length≤4:=by rcases cE h.widths with e | e | e | e <;> (rw [e]; decide)
theorem Nc {c:A3} (h:O0 c) {L:Ax} (hL:idx s.Lists c.List_ = some L):bc s c = M6 L - 1:=by unfold bc; rw [if_pos h.kind,hL]; rfl
theorem Nf {c:A3} (h:Qe c):bc s c = c.Widths.length:=by unfold bc; rw [if_neg (by rw [h.kind]; decide)]
theorem DS.fin_ok (h:DS s) {i:Nat} (h0:1≤i) (hi:i < s.Columns.length):1≤GD s i∧GD s i≤4:=by
 rw [Ri hi]
 rcases h.col h0 hi with h1 | h1
 ·obtain ⟨L,hL,hL2⟩:=h.clist h1
  have:=Oa hL
  rw [Nc h1 hL2]
  have:=this.lev2; have:=(Oa hL).lev3
  omega
 ·have:=Hq h1
  rw [Nf h1]
  omega
theorem DS.rfinest (h:DS s) {i:Nat} (h0:1≤i) (hi:i < s.Columns.length):Cg s i = some (GD s i):=by
 have hc:=h.cols_length
 unfold Cg
 rw [h.rcheck,Option.bind_some,df,df]
 show (idx s.Columns (i:Int)).bind _ = _
 rw [K7 hi,Option.bind_some,Ri hi]
 rcases h.col h0 hi with h1 | h1
 ·obtain ⟨L,hL,hL2⟩:=h.clist h1
  have:=Oa hL
  have h2:=this.lev2; have h3:=this.lev3
  rw [h1.kind,Nc h1 hL2]
  show (idx s.Lists _).bind _ = _
  rw [hL2,Option.bind_some,this.rlev,Option.bind_some,wr]
 ·rw [h1.kind,Nf h1]; rfl
theorem DS.pfinest (h:DS s) {i:Nat} (h0:1≤i) (hi:i < s.Columns.length):FN s i = some (GD s i):=by
 have hc:=h.cols_length
 unfold FN
 rw [df,df]
 show (idx s.Columns (i:Int)).bind _ = _
 rw [K7 hi,Option.bind_some,Ri hi]
 rcases h.col h0 hi with h1 | h1
 ·obtain ⟨L,hL,hL2⟩:=h.clist h1
  have:=Oa hL
  have h2:=this.lev2; have h3:=this.lev3
  rw [h1.kind,Nc h1 hL2]
  show (idx s.Lists _).bind _ = _
  rw [hL2,Option.bind_some,this.lev,Option.bind_some,wr]
 ·rw [h1.kind,Nf h1]; rfl
theorem DS.pFinest (h:DS s) {i:Nat} (h0:1≤i) (hi:i < s.Columns.length):E7 s i = some (GD s i):=by
 unfold E7
 rw [h.check,Option.bind_some,h.pfinest h0 hi]
 rfl
def VS:A9:={ Name:=({ data:=#[113] }:ByteArray),Kind:=1,Filter:=TV,Dims:=[({ Column:=1,Level:=0 }:Ap)],Measure:=(-1),Terms:=[],Event:=f6 }
def Ow:A6:={ Project:=({ data:=#[97,108,108,95,114,111,119,115] }:ByteArray),Source:=({ data:=#[115,114,99] }:ByteArray),Cohort:=TV,Sample:=({ Part:=1,Of:=1,Seed:=0 }:G2),Questions:=[VS] }
def By (s:Af):List Ap:=(List.range (s.Columns.length - 1)).map fun k=>{ Column:=((k + 1:Nat):Int),Level:=GD s (k + 1) }
theorem er (h:DS s):OF s = some (Ow,By s):=by
 have hc:=h.cols_length
 refine Ok.val ?_
 unfold OF
 refine Ok.for (fun q=>q.1) s.Columns.length (fun i q=>1≤i∧q.2 = (List.range (i - 1)).map fun k=>{ Column:=((k + 1:Nat):Int),Level:=GD s (k + 1) }) 1 (by omega) rfl ⟨by omega,rfl⟩ (by omega) (fun rec q hq hI=>?_) fun rec i q hi hq hI ih=>?_
 ·simp only [LX,hq]
  rw [Br,hI.2]
  exact Ok.some rfl
 ·obtain ⟨h0,hI⟩:=hI
  simp only [LX,hq]
  rw [Bj]
  refine Ok.bindE (h.rfinest h0 hi) (Ok.rm (by rw [hI]; simp; omega) (ih _ EF ⟨by omega,?_⟩))
  show q.2++[_] = _
  rw [hI]
  obtain ⟨j,rfl⟩:∃ j,i = j + 1:=⟨i - 1,by omega⟩
  simp [List.range_succ]
theorem ef {p:Ap} (h:DS s) {i:Nat} (h0:1≤i) (hi:i < s.Columns.length) (hp:p.Column = i) (hl:0≤p.Level) (hl2:p.Level≤GD s i):Ju s p = some 0:=by
 unfold Ju
 rw [h.rcheck,Option.bind_some,hp,df,df]
 show (Cg s (i:Int)).bind _ = _
 rw [h.rfinest h0 hi,Option.bind_some,OY,Option.bind_some,decide_eq_true ⟨hl,hl2⟩]
 rfl
theorem EX {k:Nat} (hk:k < (By s).length):(By s)[k] = { Column:=((k + 1:Nat):Int),Level:=GD s (k + 1) }:=by simp [By]
theorem Dn:(By s).length = s.Columns.length - 1:=by simp [By]
theorem Vv (h:DS s):HX s (By s) = some 0:=by
 have hc:=h.cols_length
 have hl:=Dn (s:=s)
 refine Ok.val ?_
 unfold HX
 refine Ok.bindE h.rcheck (Ok.no rfl ?_)
 refine Ok.for (fun q=>q) (By s).length (fun _ _=>True) 0 (Nat.zero_le _) rfl trivial (by omega) (fun rec q hq _=>?_) fun rec i q hi hq _ ih=>?_
 ·simp only [I7,hq]
  rw [Br]
  exact Ok.some rfl
 ·simp only [I7,hq]
  rw [Bj]
  have hf:=h.fin_ok (i:=i + 1) (by omega) (by omega)
  refine Ok.idxn hi (Ok.bindE (ef h (i:=i + 1) (by omega) (by omega) (by rw [EX hi]) (by rw [EX hi]; show 0≤GD s (i + 1); omega) (by rw [EX hi]; exact Int.le_refl _)) (Ok.no rfl (Ok.brd (fun h1=>Ok.idxn hi ?_) fun _=>ih _ EF trivial)))
  have e:IntKind.i64.wrap ((i:Int) - 1) = ((i - 1:Nat):Int):=by rw [wr]; omega
  rw [e]
  refine Ok.idxn (by omega:i - 1 < (By s).length) (Ok.brd (fun h2=>?_) fun _=>ih _ EF trivial)
  rw [EX hi,EX (by omega:i - 1 < (By s).length)] at h2
  simp only at h2
  omega
theorem fy (h:DS s):LJ s [({ Column:=1,Level:=0 }:Ap)] = some 0:=by
 have hc:=h.cols_length
 have hf:=h.fin_ok (i:=1) (by omega) (by omega)
 have hk:s.Columns[1].Kind = 2:=by
  obtain ⟨j,ms,e,_⟩:=h.cols
  have:s.Columns[1]? = some fC:=by rw [e]; cases j <;> rfl
  rw [List.getElem?_eq_getElem (by omega)] at this
  rw [Option.some.inj this]; rfl
 refine Ok.val ?_
 unfold LJ
 refine Ok.no rfl ?_
 refine Ok.for (fun q=>q) 1 (fun _ _=>True) 0 (Nat.zero_le _) rfl trivial (by omega) (fun rec q hq _=>?_) fun rec i q hi hq _ ih=>?_
 ·simp only [JE,hq]
  exact Ok.no rfl (Ok.some rfl)
 ·obtain rfl:i = 0:=by omega
  simp only [JE,hq]
  refine Ok.yes rfl (Ok.bindE (x:=({ Column:=1,Level:=0 }:Ap)) rfl (Ok.bindE (ef h (i:=1) (by omega) (by omega) rfl (by show (0:Int)≤0; omega) (by show (0:Int)≤GD s 1; omega)) (Ok.no rfl (Ok.bindE (x:=({ Column:=1,Level:=0 }:Ap)) rfl (Ok.bindE (x:=true) ?_ (Ok.no rfl ?_))))))
  ·unfold LK
   rw [decide_eq_true (by decide),decide_eq_true (by show (1:Int) < _; omega)]
   show (idx s.Columns ((1:Nat):Int)).bind _ = _
   rw [K7 (by omega:1 < s.Columns.length),Option.bind_some,hk]
   rfl
  ·refine Ok.for (fun q=>q) 0 (fun _ _=>True) 0 (Nat.zero_le _) rfl trivial (by omega) (fun rec q hq _=>?_) fun rec i q hi hq _ ih=>absurd hi (by omega)
   simp only [MJ,hq]
   exact Ok.no rfl (ih _ rfl trivial)
theorem Tn (h:DS s):DG DD s VS = some 0:=by
 refine Ok.val ?_
 unfold DG
 refine Ok.bindE h.rcheck (Ok.no rfl (Ok.bindE (x:=true) (by decide +kernel) (Ok.no rfl (Ok.no rfl (Ok.bindE h.rcond_all (Ok.no rfl (Ok.bindE (x:=0) ?_ (Ok.no rfl (Ok.no rfl (Ok.yes rfl (Ok.bindE (x:=true) rfl (Ok.no rfl (Ok.some rfl)))))))))))))
 unfold Mn
 refine Ok.val (Ok.bindE (x:=false) ?_ (Ok.yes rfl (Ok.bindE (fy h) (Ok.no rfl (Ok.no rfl (Ok.some rfl))))))
 unfold LK
 rfl
theorem SC (h:DS s):Ia DD s Ow = some 0:=by
 refine Ok.val ?_
 unfold Ia
 refine Ok.bindE h.rcheck (Ok.no rfl (Ok.bindE (x:=true) (by decide +kernel) (Ok.no rfl (Ok.bindE (x:=true) (by decide +kernel) (Ok.no rfl ?_)))))
 unfold ID
 refine Ok.bindE h.rcond_all (Ok.no rfl (Ok.no rfl (Ok.no rfl ?_)))
 refine Ok.for (fun q=>q) 1 (fun _ _=>True) 0 (Nat.zero_le _) rfl trivial (by omega) (fun rec q hq _=>?_) fun rec i q hi hq _ ih=>?_
 ·simp only [IC,hq]
  exact Ok.no rfl (Ok.some rfl)
 ·obtain rfl:i = 0:=by omega
  simp only [IC,hq]
  refine Ok.yes rfl (Ok.bindE (x:=VS) rfl (Ok.bindE (Tn h) (Ok.no rfl ?_)))
  refine Ok.for (fun q=>q) 0 (fun _ _=>True) 0 (Nat.zero_le _) rfl trivial (by omega) (fun rec q hq _=>?_) fun rec i q hi hq _ ih=>absurd hi (by omega)
  simp only [LI,hq]
  exact Ok.no rfl (ih _ rfl trivial)
theorem YW (h:DS s):HY DD s TV = some []:=by
 unfold HY
 rw [h.rcond_all]
 rfl
theorem dE (h:DS s):HW s 1 0 = some 0:=by
 have hc:=h.cols_length
 have hf:=h.fin_ok (i:=1) (by omega) (by omega)
 refine Ok.val ?_
 unfold HW
 refine Ok.bindE (h.rfinest (i:=1) (by omega) (by omega)) ?_
 rw [OY,Option.bind_some,dt]
 refine Ok.no rfl ?_
 refine Ok.loop (fun q=>q = 0) (fun _=>0) rfl (by unfold AI; omega) fun rec q hq ih=>?_
 subst hq
 unfold LD
 refine Ok.bindE (x:=true) ?_ (Ok.no rfl (Ok.some rfl))
 unfold JA
 refine Ok.val (Ok.idxn (i:=1) (by omega) (Ok.yes rfl (Ok.some rfl)))
theorem eO (h:DS s):Kg DD s VS = some []:=by
 have hc:=h.cols_length
 refine Ok.val ?_
 unfold Kg
 refine Ok.bindE (Tn h) (Ok.no rfl (Ok.bindE (YW h) (Ok.no rfl ?_)))
 unfold Gs
 refine Ok.for (fun q=>q.2) 1 (fun _ q=>q.1 = []) 0 (Nat.zero_le _) rfl rfl (by omega) (fun rec q hq hI=>?_) fun rec i q hi hq hI ih=>?_
 ·simp only [IE,hq,hI]
  refine Ok.no rfl ?_
  refine Ok.for (fun q=>q.2) s.Columns.length (fun _ q=>q.1 = []) 1 (by omega) rfl rfl (by omega) (fun rec q hq hI=>?_) fun rec i q hi hq hI ih=>?_
  ·simp only [IF,hq,hI]
   rw [Br]
   exact Ok.some rfl
  ·simp only [IF,hq,hI]
   rw [Bj]
   refine Ok.bindE (x:=false) ?_ (Ok.no rfl (ih _ EF rfl))
   unfold NS
   have e:(VS.Measure==(i:Int)) = false:=by
    rw [beq_eq_false_iff_ne]; show (-1:Int)≠_; omega
   rw [e]
   rfl
 ·obtain rfl:i = 0:=by omega
  simp only [IE,hq,hI]
  refine Ok.yes rfl (Ok.bindE (x:=({ Column:=1,Level:=0 }:Ap)) rfl (Ok.bindE (x:=({ Column:=1,Level:=0 }:Ap)) rfl (Ok.bindE (x:=({ Column:=1,Level:=0 }:Ap)) rfl (Ok.bindE (dE h) (Ok.bindE (x:=[]) rfl (ih _ rfl rfl))))))
theorem ZP (h:DS s):Kh DD s Ow (By s) = some 0:=by
 refine Ok.val ?_
 unfold Kh
 refine Ok.bindE (SC h) (Ok.no rfl (Ok.bindE (Vv h) (Ok.no rfl ?_)))
 refine Ok.for (fun q=>q) 1 (fun _ _=>True) 0 (Nat.zero_le _) rfl trivial (by omega) (fun rec q hq _=>?_) fun rec i q hi hq _ ih=>?_
 ·simp only [IG,hq]
  exact Ok.no rfl (Ok.some rfl)
 ·obtain rfl:i = 0:=by omega
  simp only [IG,hq]
  refine Ok.yes rfl (Ok.bindE (x:=VS) rfl (Ok.bindE (x:=true) ?_ (Ok.no rfl (ih _ rfl trivial))))
  unfold JF
  refine Ok.val (Ok.bindE (Tn h) (Ok.yes rfl (Ok.bindE (Vv h) (Ok.yes rfl (Ok.bindE (eO h) (Ok.bindE (x:=true) rfl (Ok.some rfl)))))))
end Go.Proofs.YtlpkhgkoihlghaaGreatDoor.P
namespace Go.Proofs.YtlpkhgkoihlghaaGreatDoor.P
open Go Go.Abs Go.Proofs
set_option maxRecDepth 100000
variable {s:Af}
def XU:G2:={ Part:=1,Of:=1,Seed:=0 }
theorem eC (id:Int) (h0:1≤id) (h1:id≤1048575):Pz XU id = some true:=by
 refine Ok.val ?_
 unfold Pz
 refine Ok.bindE (x:=0) rfl (Ok.yes (by simp [h0,h1]) ?_)
 obtain ⟨v,hv⟩:∃ v,NT XU.Seed id = some v:=⟨_,rfl⟩
 refine Ok.bindE hv (Ok.gdd (by decide) (Ok.some ?_))
 show decide (Int.tmod v 1 < 1) = true
 rw [Int.tmod_one]
 rfl
theorem Z7 {n:Int} (h0:0≤n) (h1:n < 18446744073709551616):0≤Int.fdiv n 18014398509481984∧Int.fdiv n 18014398509481984≤1023:=by
 rw [Int.fdiv_eq_ediv_of_nonneg _ (by omega)]
 omega
theorem WW (n:Int):0≤IntKind.u64.wrap n∧IntKind.u64.wrap n < 18446744073709551616:=by
 unfold IntKind.wrap
 simp only [IntKind.signed,IntKind.bits]
 simp
 omega
theorem bF {a b:Int} (ha:0≤a∧a≤1023) (hb:0≤b∧b≤1023):0≤IntKind.i64.wrap (((BitVec.ofInt IntKind.i64.bits a ^^^ BitVec.ofInt IntKind.i64.bits b).toNat:Nat):Int)∧IntKind.i64.wrap (((BitVec.ofInt IntKind.i64.bits a ^^^ BitVec.ofInt IntKind.i64.bits b).toNat:Nat):Int)≤1023:=by
 obtain ⟨m,rfl⟩:∃ m:Nat,a = m:=⟨a.toNat,by omega⟩
 obtain ⟨n,rfl⟩:∃ n:Nat,b = n:=⟨b.toNat,by omega⟩
 have e:(BitVec.ofInt IntKind.i64.bits (m:Int) ^^^ BitVec.ofInt IntKind.i64.bits (n:Int)).toNat = m ^^^ n:=by
  rw [BitVec.toNat_xor,BitVec.ofInt_natCast,BitVec.ofInt_natCast,BitVec.toNat_ofNat,BitVec.toNat_ofNat]
  have h1:m % 2 ^ IntKind.i64.bits = m:=Nat.mod_eq_of_lt (by show m < 2 ^ 64; omega)
  have h2:n % 2 ^ IntKind.i64.bits = n:=Nat.mod_eq_of_lt (by show n < 2 ^ 64; omega)
  rw [h1,h2]
 rw [e]
 have:m ^^^ n < 2 ^ 10:=Nat.xor_lt_two_pow (by omega) (by omega)
 rw [wr]
 omega
theorem Y7 (h:DS s) {i:Nat} (hi:i < s.Columns.length) {v:Int} (hv:bG s s.Columns[i] v):HV s i v = some true:=by
 refine Ok.val ?_
 unfold HV
 refine Ok.idxn hi ?_
 rcases hv with ⟨hk,h1,h2⟩ | ⟨hk,L,hL,hL2,h1⟩ | ⟨hk,h1⟩
 ·refine Ok.yes (by rw [hk]; rfl) ?_
  rw [OY,dt]
  exact Ok.some rfl
 ·have hc:=Oa hL
  obtain ⟨h2,h3,h4,_,_⟩:=hc.leaf v h1
  have h5:=hc.lev2; have h6:=hc.lev3
  have hlen:L.Codes.length≤100:=by
   have:(aN.all fun l=>decide (l.Codes.length≤100)) = true:=by decide +kernel
   simpa using List.all_eq_true.1 this L hL
  refine Ok.no (by rw [hk]; rfl) (Ok.yes (by rw [hk]; rfl) (Ok.bindE hL2 ?_))
  rw [OY,Option.bind_some,decide_eq_true (by rw [wr]; omega)]
  refine Ok.yes rfl (Ok.bindE h4 (Ok.bindE hc.rlev (Ok.some ?_)))
  rw [wr]
  exact beq_self_eq_true _
 ·refine Ok.no (by rw [hk]; rfl) (Ok.no (by rw [hk]; rfl) (Ok.br (fun _=>Ok.some rfl) fun hn=>?_))
  rcases h1 with h1 | ⟨ho,rfl⟩
  ·rw [OY,dt]
   exact Ok.some rfl
  ·rw [ho] at hn
   cases hn
theorem eR (h:DS s) {r:List Int} (hr:Jc s r):FJ s r = some 0:=by
 have hc:=h.cols_length
 refine Ok.val ?_
 unfold FJ
 refine Ok.bindE h.rcheck (Ok.no rfl (Ok.no (by rw [hr.1]; simp) ?_))
 refine Ok.for (fun q=>q) r.length (fun _ _=>True) 0 (Nat.zero_le _) rfl trivial (by rw [hr.1]; omega) (fun rec q hq _=>?_) fun rec i q hi hq _ ih=>?_
 ·simp only [KE,hq]
  rw [Br]
  exact Ok.some rfl
 ·simp only [KE,hq]
  rw [Bj]
  have hi2:i < s.Columns.length:=by rw [← hr.1]; exact hi
  refine Ok.idxn hi (Ok.bindE (Y7 h hi2 (hr.2 i _ _ (List.getElem?_eq_getElem hi2) (List.getElem?_eq_getElem hi))) (Ok.no rfl (ih _ (EF (by rw [hr.1] at hi; omega)) trivial)))
theorem b6 (h:DS s) {r:List Int} (hr:Jc s r):LG DD s TV r = some 1:=by
 unfold LG
 rw [h.rcond_all]
 show (FJ s r).bind _ = _
 rw [eR h hr]
 rfl
theorem Jc.hd (h:DS s) {r:List Int} (hr:Jc s r):1≤hd r∧hd r≤1000:=by
 have hc:=h.cols_length
 have h0:0 < s.Columns.length:=by omega
 have h1:0 < r.length:=by rw [hr.1]; exact h0
 have:=hr.2 0 eX r[0] (by rw [List.getElem?_eq_getElem h0,h.col0]) (List.getElem?_eq_getElem h1)
 have e:P.hd r = r[0]:=by cases r with | nil=>simp at h1 | cons a q=>rfl
 rw [e]
 rcases this with ⟨_,h2,h3⟩ | ⟨hk,_⟩ | ⟨hk,_⟩
 ·exact ⟨h2,h3⟩
 ·exact absurd hk (by decide)
 ·exact absurd hk (by decide)
theorem bd {v:Int} (h0:-1000000≤v) (h1:v≤1000000):Gq v 1 = some v:=by
 unfold Gq
 rw [Bj (by decide),Bj (by decide),Int.tmod_one,Br (by decide),Int.tdiv_one,wr]
theorem Zu (h:DS s) {i:Nat} (h0:1≤i) (hi:i < s.Columns.length) {v:Int} (hv:bG s s.Columns[i] v):Cz s i (GD s i) v = some v:=by
 have hf:=h.fin_ok h0 hi
 refine Ok.val ?_
 unfold Cz
 refine Ok.bindE (h.rfinest h0 hi) ?_
 rw [OY,Option.bind_some,dt]
 refine Ok.no rfl (Ok.idxn hi ?_)
 rcases h.col h0 hi with h1 | h1
 ·obtain ⟨L,hL,hL2⟩:=h.clist h1
  have hcl:=Oa hL
  have hv2:v∈Ey L:=by
   rcases hv with ⟨hk,_⟩ | ⟨hk,L',hL',hL2',h3⟩ | ⟨hk,_⟩
   ·rw [h1.kind] at hk; cases hk
   ·rw [hL2] at hL2'; cases hL2'; exact h3
   ·rw [h1.kind] at hk; cases hk
  refine Ok.yes (by rw [h1.kind]; rfl) (Ok.bindE (Y7 h hi hv) (Ok.no rfl (Ok.bindE hL2 (Ok.bindE (x:=v) ?_ (Ok.some rfl)))))
  rw [Ri hi,Nc h1 hL2]
  exact (hcl.leaf v hv2).2.2.2.2
 ·obtain ⟨a1,a2⟩:=h1.low
  obtain ⟨a3,a4⟩:=h1.high
  have hv2:(s.Columns[i].Low≤v∧v≤s.Columns[i].High)∨v = Me:=by
   rcases hv with ⟨hk,_⟩ | ⟨hk,_⟩ | ⟨hk,h3 | h3⟩
   ·rw [h1.kind] at hk; cases hk
   ·rw [h1.kind] at hk; cases hk
   ·exact .inl h3
   ·exact .inr h3.2
  have hw:E1 s.Columns[i] (GD s i) = some 1:=by
   rw [Ri hi,Nf h1]
   unfold E1
   have hwl:=Hq h1
   rw [wr,Int.sub_self]
   rcases cE h1.widths with e | e | e | e <;> (rw [e]; rfl)
  refine Ok.no (by rw [h1.kind]; rfl) ?_
  have e0:(GD s i==0) = false:=by rw [beq_eq_false_iff_ne]; omega
  rcases hv2 with hv2 | rfl
  ·have e1:(v != -1099511627776) = true:=by rw [bne_iff_ne]; omega
   have e2:(v==-1099511627776) = false:=by rw [beq_eq_false_iff_ne]; omega
   refine Ok.yes e1 ?_
   rw [OY,Option.bind_some,dt]
   refine Ok.no rfl (Ok.no e0 (Ok.no e2 (Ok.bindE hw (Ok.bindE (bd (by omega) (by omega)) (Ok.some ?_)))))
   rw [wr]
   omega
  ·exact Ok.no rfl (Ok.no e0 (Ok.yes rfl (Ok.some rfl)))
def ep (s:Af) (r:List Int):Prop:=r.length = s.Columns.length∧0≤hd r∧hd r≤1048575∧∀ (i:Nat) c v,1≤i→s.Columns[i]? = some c→r[i]? = some v→bG s c v
structure ga (s:Af) (x:A0) (n:Nat):Prop where
 project:x.Project = Ow.Project
 version:x.Version = 0
 picks:x.Picks = By s
 rows:∀ r∈x.Rows,ep s r
 asc:PM x.Rows
 len:x.Rows.length≤n
theorem ep.ne (h:DS s) {r:List Int} (hr:ep s r):r≠[]:=by
 intro e
 have h1:=hr.1
 have:=h.cols_length
 rw [e] at h1
 simp at h1
 omega
end Go.Proofs.YtlpkhgkoihlghaaGreatDoor.P
namespace Go.Proofs.YtlpkhgkoihlghaaGreatDoor.P
open Go Go.Abs Go.Proofs
set_option maxRecDepth 100000
variable {s:Af}
def fZ (c:A3) (l:Int):Int:=c.Widths.getD ((c.Widths.length:Int) - l).toNat 1
def mv (c:A3) (l v:Int):Int:=if l = 0 then 0 else if v = Me then Me else v - v % fZ c l
end Go.Proofs.YtlpkhgkoihlghaaGreatDoor.P
namespace Go.Proofs.YtlpkhgkoihlghaaGreatDoor.P
open Go Go.Abs Go.Proofs
set_option maxRecDepth 100000
variable {s:Af}
def cv (L:Ax) (l v:Int):Int:=(LC L v l).getD 0
def CV (s:Af) (c:A3) (l v:Int):Int:=if c.Kind = 2 then cv ((idx s.Lists c.List_).getD { Name:=Vf,Codes:=[] }) l v else mv c l v
theorem bG.code {c:A3} (h:O0 c) {L:Ax} (hL:idx s.Lists c.List_ = some L) {v:Int} (hv:bG s c v):v∈Ey L:=by
 rcases hv with ⟨hk,_⟩ | ⟨_,L',_,hL',hv⟩ | ⟨hk,_⟩
 ·rw [h.kind] at hk; cases hk
 ·rw [hL] at hL'; cases hL'; exact hv
 ·rw [h.kind] at hk; cases hk
def f7 (s:Af) (p:Ap):Prop:=∃ i:Nat,1≤i∧i < s.Columns.length∧p.Column = i∧0≤p.Level∧p.Level≤GD s i
def XV (s:Af) (p:Ap) (v:Int):Prop:=∃ (i:Nat) (hi:i < s.Columns.length) (w:Int),1≤i∧p.Column = i∧bG s s.Columns[i] w∧v = CV s s.Columns[i] p.Level w
structure GX (s:Af) (x:A0):Prop where
 project:D8 x.Project = some true∧D4 x.Project = some true
 version:0≤x.Version∧x.Version≤300
 picks:∀ p∈x.Picks,f7 s p
 order:x.Picks.Pairwise fun a b=>a.Column < b.Column
 rows:∀ r∈x.Rows,r.length = x.Picks.length + 1∧0≤hd r∧hd r≤1048575∧∀ (k:Nat) p v,x.Picks[k]? = some p→r[k + 1]? = some v→XV s p v
 asc:PM x.Rows
 len:x.Rows.length≤200
theorem ec {p:Ap} (hs:DS s) (h:f7 s p):Gx s p = some 0:=by
 obtain ⟨i,h0,hi,hp,hl0,hl1⟩:=h
 have hf:=hs.fin_ok h0 hi
 refine Ok.val ?_
 unfold Gx
 rw [hp]
 refine Ok.bindE (hs.pfinest h0 hi) (Ok.brd (fun h=>by omega) fun _=>Ok.no ?_ (Ok.some rfl))
 rw [df,df]; rfl
theorem eL {l:List Ap} (hs:DS s) (h:∀ p∈l,f7 s p) (ho:l.Pairwise fun a b=>a.Column < b.Column) (hl:l.length≤1000):IW s l = some 0:=by
 refine Ok.val ?_
 unfold IW
 refine Ok.bindE hs.check (Ok.no rfl ?_)
 refine Ok.for (fun q=>q) l.length (fun _ _=>True) 0 (Nat.zero_le _) rfl trivial (by omega) (fun rec q hq _=>?_) fun rec i q hi hq _ ih=>?_
 ·simp only [H9,hq]
  rw [Br]
  exact Ok.some rfl
 ·simp only [H9,hq]
  rw [Bj]
  refine Ok.idxn hi (Ok.bindE (ec hs (h _ (List.getElem_mem hi))) (Ok.no rfl (Ok.brd (fun h1=>?_) fun _=>ih _ EF trivial)))
  have e:IntKind.i64.wrap ((i:Int) - 1) = ((i - 1:Nat):Int):=by rw [wr]; omega
  rw [e]
  have:=(List.pairwise_iff_getElem.1 ho) (i - 1) i (by omega) hi (by omega)
  exact Ok.idxn (by omega:i - 1 < l.length) (Ok.brd (fun h2=>by omega) fun _=>ih _ EF trivial)
theorem GX.ne {x:A0} (h:GX s x) {r:List Int} (hr:r∈x.Rows):r≠[]:=by
 intro e
 have:=(h.rows r hr).1
 rw [e] at this
 simp at this
end Go.Proofs.YtlpkhgkoihlghaaGreatDoor.P
namespace Go.Proofs.YtlpkhgkoihlghaaGreatDoor.P
open Go Go.Abs Go.Proofs
set_option maxRecDepth 100000
variable {s:Af}
theorem DS.pcond_all (h:DS s) (d:Nat):C7 (d + 1) s TV = some 0:=by unfold C7; rw [h.check]; rfl
end Go.Proofs.YtlpkhgkoihlghaaGreatDoor.P
namespace Go.Proofs.YtlpkhgkoihlghaaGreatDoor.P
open Go Go.Abs Go.Proofs
set_option maxRecDepth 100000
variable {s:Af}
end Go.Proofs.YtlpkhgkoihlghaaGreatDoor.P
namespace Go.Proofs.YtlpkhgkoihlghaaGreatDoor.P
open Go Go.Abs Go.Proofs
set_option maxRecDepth 100000
variable {s:Af}
def keep (w:Nat→Int) (n:Nat):List Nat:=(List.range n).filter fun j=>w j != Me
end Go.Proofs.YtlpkhgkoihlghaaGreatDoor.P
namespace Go.Proofs.YtlpkhgkoihlghaaGreatDoor.P
open Go Go.Abs Go.Proofs
set_option maxRecDepth 100000
variable {s:Af}
theorem DS.last (h:DS s):∃ i:Nat,1≤i∧∃ hi:i < s.Columns.length,Qe s.Columns[i]:=by
 obtain ⟨j,ms,e,h1,h2,h3⟩:=h.cols
 have hc:=N9 j
 have hlen:s.Columns.length = (JN j).length + ms.length:=by rw [e,List.length_append]
 refine ⟨(JN j).length,by omega,by omega,?_⟩
 have hm:=(h3 0 (by omega)).1
 have e2:s.Columns[(JN j).length]? = some (ms[0]'(by omega)):=by
  rw [e,List.getElem?_append_right (Nat.le_refl _),Nat.sub_self]
  exact List.getElem?_eq_getElem (by omega)
 rw [List.getElem?_eq_getElem (by omega)] at e2
 rw [Option.some.inj e2]
 exact hm
theorem UB (hs:DS s):Ok (Da s 3) fun l=>l≠[]∧l.length≤6∧∀ v∈l,∃ i:Nat,v = i∧1≤i∧∃ hi:i < s.Columns.length,Qe s.Columns[i]:=by
 have hc:=hs.cols_length
 unfold Da
 refine Ok.for (fun q=>q.1) s.Columns.length (fun k q=>q.2.length≤k∧(∀ v∈q.2,∃ i:Nat,v = i∧1≤i∧∃ hi:i < s.Columns.length,Qe s.Columns[i])∧∀ (i:Nat) (hi:i < s.Columns.length),i < k→Qe s.Columns[i]→(i:Int)∈q.2) 0 (Nat.zero_le _) rfl
  ⟨Nat.le_refl _,(fun v hv=>by cases hv),fun i _ h=>by omega⟩ (by omega) (fun rec q hq hI=>?_) fun rec k q hk hq hI ih=>?_
 ·simp only [Ef,hq]
  rw [Br]
  obtain ⟨i,_,hi,hm⟩:=hs.last
  exact Ok.some ⟨(fun e=>by have:=hI.2.2 i hi hi hm; rw [e] at this; cases this),by have:=hI.1; omega,hI.2.1⟩
 ·simp only [Ef,hq]
  rw [Bj]
  have hI1:=hI.1
  refine Ok.idxn hk (Ok.br (fun e=>Ok.rm (by simp; omega) (ih _ EF ⟨by simp; omega,fun v hv=>?_,fun j hj hjk hm=>?_⟩)) fun e=>ih _ EF ⟨by show q.2.length≤k + 1; omega,hI.2.1,fun j hj hjk hm=>?_⟩)
  ·rcases List.mem_append.1 hv with hv | hv
   ·exact hI.2.1 v hv
   ·rw [List.mem_singleton] at hv
    have e:s.Columns[k].Kind = 3:=by simpa using e
    rcases hs.cl hk with ⟨_,h1⟩ | ⟨h0,h1 | h1⟩
    ·rw [h1] at e; cases e
    ·rw [h1.kind] at e; cases e
    ·exact ⟨k,hv,h0,hk,h1⟩
  ·show _∈q.2++[_]
   rcases Nat.lt_or_ge j k with h1 | h1
   ·exact List.mem_append_left _ (hI.2.2 j hj h1 hm)
   ·obtain rfl:j = k:=by omega
    exact List.mem_append_right _ (List.mem_singleton.2 rfl)
  ·rcases Nat.lt_or_ge j k with h1 | h1
   ·exact hI.2.2 j hj h1 hm
   ·obtain rfl:j = k:=by omega
    rw [hm.kind] at e
    cases e
theorem Kd {c:Ae} (hc:ES c) (hs:DS s):Ok (Bl c s) fun r=>ES r.2∧∃ i:Nat,r.1 = i∧1≤i∧∃ hi:i < s.Columns.length,Qe s.Columns[i]:=by
 unfold Bl
 refine Ok.bind (UB hs) fun l hl=>?_
 have:l.length≠0:=fun e=>hl.1 (List.eq_nil_of_length_eq_zero e)
 have hl6:=hl.2.1
 refine Ok.bind (Cv hc (by omega) (by omega)) fun y hy=>Ok.idx hy.2.1 (by omega) (Ok.some ⟨hy.1,hl.2.2 _ (List.getElem_mem _)⟩)
end Go.Proofs.YtlpkhgkoihlghaaGreatDoor.P
namespace Go.Proofs.YtlpkhgkoihlghaaGreatDoor.P
open Go Go.Abs Go.Proofs
set_option maxRecDepth 100000
variable {s:Af}
inductive RC (s:Af):Nat→As→Prop
 | all (n:Nat):RC s n TV
 | under (n:Nat) (i:Nat) (hi0:1≤i) (hi:i < s.Columns.length) (h:O0 s.Columns[i]) (L:Ax) (hL:L∈aN) (hL2:idx s.Lists s.Columns[i].List_ = some L) (k:Int) (h0:0≤k) (h1:k < L.Codes.length):RC s n { Op:=2,Column:=i,Code:=k,Low:=0,High:=0,Kids:=[] }
 | between (n:Nat) (i:Nat) (hi0:1≤i) (hi:i < s.Columns.length) (h:Qe s.Columns[i]) (l u:Int) (h0:-1000000≤l) (h1:l≤u) (h2:u≤1000000):RC s n { Op:=3,Column:=i,Code:=0,Low:=l,High:=u,Kids:=[] }
 | miss (n:Nat) (i:Nat) (hi0:1≤i) (hi:i < s.Columns.length) (h:Qe s.Columns[i]) (ho:s.Columns[i].Optional = true):RC s n { Op:=4,Column:=i,Code:=0,Low:=0,High:=0,Kids:=[] }
 | and (n na nb:Nat) (hn:na + nb + 2≤n) (a b:As) (ha:RC s na a) (hb:RC s nb b):RC s n { Op:=5,Column:=0,Code:=0,Low:=0,High:=0,Kids:=[a,b] }
 | or (n na nb:Nat) (hn:na + nb + 2≤n) (a b:As) (ha:RC s na a) (hb:RC s nb b):RC s n { Op:=6,Column:=0,Code:=0,Low:=0,High:=0,Kids:=[a,b] }
 | not (n na:Nat) (hn:na + 1≤n) (a:As) (ha:RC s na a):RC s n { Op:=7,Column:=0,Code:=0,Low:=0,High:=0,Kids:=[a] }
theorem RC.mono {n:Nat} {c:As} (h:RC s n c) {m:Nat} (hm:n≤m):RC s m c:=by
 cases h with
 | all n=>exact .all _
 | under n i hi0 hi h L hL hL2 k h0 h1=>exact .under _ i hi0 hi h L hL hL2 k h0 h1
 | between n i hi0 hi h l u h0 h1 h2=>exact .between _ i hi0 hi h l u h0 h1 h2
 | miss n i hi0 hi h ho=>exact .miss _ i hi0 hi h ho
 | and n na nb hn a b ha hb=>exact .and _ na nb (by omega) a b ha hb
 | or n na nb hn a b ha hb=>exact .or _ na nb (by omega) a b ha hb
 | not n na hn a ha=>exact .not _ na (by omega) a ha
theorem RC.kids {n:Nat} {c:As} (h:RC s n c):c.Kids.length≤2∧∀ k∈c.Kids,∃ m,n = m + 1∧RC s m k:=by
 cases h with
 | and n na nb hn a b ha hb=>exact ⟨by simp,fun k hk=>by simp at hk; rcases hk with rfl | rfl <;> exact ⟨n - 1,by omega,RC.mono (by assumption) (by omega)⟩⟩
 | or n na nb hn a b ha hb=>exact ⟨by simp,fun k hk=>by simp at hk; rcases hk with rfl | rfl <;> exact ⟨n - 1,by omega,RC.mono (by assumption) (by omega)⟩⟩
 | not n na hn a ha=>exact ⟨by simp,fun k hk=>by simp at hk; subst hk; exact ⟨n - 1,by omega,ha.mono (by omega)⟩⟩
 | _=>exact ⟨by simp [TV],fun k hk=>by simp [TV] at hk⟩
def DP:Nat→As→Prop
 | 0,c=>c.Kids = []
 | k + 1,c=>∀ x∈c.Kids,DP k x
theorem DP.leaf:∀ {k:Nat} {c:As},c.Kids = []→DP k c
 | 0,_,h=>h
 | k + 1,c,h=>fun x hx=>by rw [h] at hx; cases hx
theorem DP.mono:∀ {k:Nat} {c:As},DP k c→∀ {m:Nat},k≤m→DP m c
 | 0,_,h,_,_=>.leaf h
 | k + 1,c,h,0,hm=>by omega
 | k + 1,c,h,m + 1,hm=>fun x hx=>DP.mono (h x hx) (by omega)
theorem U9 (hs:DS s):Ok (Da s 2) fun l=>l≠[]∧l.length≤6∧∀ v∈l,∃ i:Nat,v = i∧1≤i∧∃ hi:i < s.Columns.length,O0 s.Columns[i]:=by
 have hc:=hs.cols_length
 have h1:∃ hi:1 < s.Columns.length,O0 s.Columns[1]:=by
  refine ⟨by omega,?_⟩
  obtain ⟨j,ms,e,_⟩:=hs.cols
  have e2:s.Columns[1]? = some fC:=by rw [e]; cases j <;> rfl
  rw [List.getElem?_eq_getElem (by omega)] at e2
  rw [Option.some.inj e2]
  exact ⟨rfl,.inl rfl,rfl,rfl,rfl,rfl⟩
 unfold Da
 refine Ok.for (fun q=>q.1) s.Columns.length (fun k q=>q.2.length≤k∧(∀ v∈q.2,∃ i:Nat,v = i∧1≤i∧∃ hi:i < s.Columns.length,O0 s.Columns[i])∧(1 < k→(1:Int)∈q.2)) 0 (Nat.zero_le _) rfl
  ⟨Nat.le_refl _,(fun v hv=>by cases hv),fun h=>by omega⟩ (by omega) (fun rec q hq hI=>?_) fun rec k q hk hq hI ih=>?_
 ·simp only [Ef,hq]
  rw [Br]
  exact Ok.some ⟨(fun e=>by have:=hI.2.2 (by omega); rw [e] at this; cases this),by have:=hI.1; omega,hI.2.1⟩
 ·simp only [Ef,hq]
  rw [Bj]
  have hI1:=hI.1
  refine Ok.idxn hk (Ok.br (fun e=>Ok.rm (by simp; omega) (ih _ EF ⟨by simp; omega,fun v hv=>?_,fun hk1=>?_⟩)) fun e=>ih _ EF ⟨by show q.2.length≤k + 1; omega,hI.2.1,fun hk1=>?_⟩)
  ·rcases List.mem_append.1 hv with hv | hv
   ·exact hI.2.1 v hv
   ·rw [List.mem_singleton] at hv
    have e:s.Columns[k].Kind = 2:=by simpa using e
    rcases hs.cl hk with ⟨_,h1⟩ | ⟨h0,h1 | h1⟩
    ·rw [h1] at e; cases e
    ·exact ⟨k,hv,h0,hk,h1⟩
    ·rw [h1.kind] at e; cases e
  ·show _∈q.2++[_]
   by_cases e:k = 1
   ·subst e; exact List.mem_append_right _ (List.mem_singleton.2 rfl)
   ·exact List.mem_append_left _ (hI.2.2 (by omega))
  ·by_cases e2:k = 1
   ·subst e2
    obtain ⟨_,h1⟩:=h1
    rw [h1.kind] at e
    cases e
   ·exact hI.2.2 (by omega)
theorem bV {c:Ae} (hc:ES c) (hs:DS s):Ok (EI c s) fun r=>ES r.2∧∃ i:Nat,r.1 = i∧1≤i∧∃ hi:i < s.Columns.length,O0 s.Columns[i]:=by
 unfold EI
 refine Ok.bind (U9 hs) fun l hl=>?_
 have:l.length≠0:=fun e=>hl.1 (List.eq_nil_of_length_eq_zero e)
 have hl6:=hl.2.1
 refine Ok.bind (Cv hc (by omega) (by omega)) fun y hy=>Ok.idx hy.2.1 (by omega) (Ok.some ⟨hy.1,hl.2.2 _ (List.getElem_mem _)⟩)
theorem U3 {c:Ae} (hc:ES c) (hs:DS s) (n:Nat):Ok ((Bl c s).bind fun x80 =>
        (idx s.Columns x80.1).bind fun x84 =>
        (AN x80.2 (-3) 40).bind fun x88 =>
        (A8 x88.2 30).bind fun x94 =>
        some (({ Op:=3,Column:=x80.1,Code:=0,Low:=(IntKind.i64.wrap (x84.Low + x88.1)),High:=(IntKind.i64.wrap ((IntKind.i64.wrap (x84.Low + x88.1)) + x94.1)),Kids:=[] }:As),x94.2)) fun r=>ES r.2∧RC s n r.1∧r.1.Kids = []:=by
 refine Ok.bind (Kd hc hs) fun z hz=>?_
 obtain ⟨z1,z2⟩:=z
 obtain ⟨hz2,i,hzi,hi0,hi,hm⟩:=hz
 obtain rfl:z1 = (i:Int):=hzi
 refine Ok.idxn hi (Ok.bind (FC hz2 (by omega) (by omega) (by omega) (by omega)) fun a ha=>Ok.bind (Cv ha.1 (by omega) (by omega)) fun b hb=>Ok.some ⟨hb.1,?_⟩)
 obtain ⟨l1,l2⟩:=hm.low
 obtain ⟨_,a1,a2⟩:=ha
 obtain ⟨_,b1,b2⟩:=hb
 have e1:IntKind.i64.wrap (s.Columns[i].Low + a.1) = s.Columns[i].Low + a.1:=wr
 rw [e1,wr]
 exact ⟨.between n i hi0 hi hm _ _ (by omega) (by omega) (by omega),rfl⟩
theorem aj {c:Ae} (hc:ES c) (hs:DS s) (n:Nat):Ok (CR s c) fun r=>ES r.2∧RC s n r.1∧r.1.Kids = []:=by
 have miss:∀ {c:Ae},ES c→Ok ((Bl c s).bind fun x101 =>
  (idx s.Columns x101.1).bind fun x105 =>
  bif x105.Optional then
   some (({ Op:=4,Column:=x101.1,Code:=0,Low:=0,High:=0,Kids:=[] }:As),x101.2)
  else
   some (({ Op:=1,Column:=0,Code:=0,Low:=0,High:=0,Kids:=[] }:As),x101.2)) fun r=>ES r.2∧RC s n r.1∧r.1.Kids = []:=by
  intro c hc
  refine Ok.bind (Kd hc hs) fun z hz=>?_
  obtain ⟨z1,z2⟩:=z
  obtain ⟨hz2,i,hzi,hi0,hi,hm⟩:=hz
  obtain rfl:z1 = (i:Int):=hzi
  exact Ok.idxn hi (Ok.br (fun ho=>Ok.some ⟨hz2,.miss n i hi0 hi hm ho,rfl⟩) fun _=>Ok.some ⟨hz2,.all n,rfl⟩)
 unfold CR
 refine Ok.bind (Cv hc (by omega) (by omega)) fun y hy=>Ok.br (fun _=>?_) fun _=>Ok.br (fun _=>U3 hy.1 hs n) fun _=>Ok.br (fun _=>U3 hy.1 hs n) fun _=>Ok.br (fun _=>miss hy.1) fun _=>Ok.some ⟨hy.1,.all n,rfl⟩
 refine Ok.bind (bV hy.1 hs) fun z hz=>?_
 obtain ⟨z1,z2⟩:=z
 obtain ⟨hz2,i,hzi,hi0,hi,hm⟩:=hz
 obtain rfl:z1 = (i:Int):=hzi
 obtain ⟨L,hL,hL2⟩:=hs.clist hm
 have hne:=(Oa hL).some_
 have hlen:1≤L.Codes.length∧L.Codes.length≤1000:=by
  have:aN.all (fun L=>decide (1≤L.Codes.length) && decide (L.Codes.length≤1000)) = true:=by decide +kernel
  have:=List.all_eq_true.1 this L hL
  simpa using this
 refine Ok.idxn hi (Ok.bindE hL2 (Ok.bind (Cv hz2 (by omega) (by omega)) fun u hu=>Ok.some ⟨hu.1,.under n i hi0 hi hm L hL hL2 _ hu.2.1 hu.2.2,rfl⟩))
def bw:Nat→Nat
 | 0=>0
 | n + 1=>2 * bw n + 2
theorem ak (hs:DS s):∀ (n d:Nat) {c:Ae},ES c→n < d→n≤1000→Ok (AR d c s n) fun r=>ES r.2∧RC s (bw n) r.1∧DP n r.1
 | 0,d + 1,c,hc,_,_=>by
   show Ok (Cy d (AR d) c s 0) _
   unfold Cy
   exact Ok.no rfl ((aj hc hs 0).mono fun r hr=>⟨hr.1,hr.2.1,.leaf hr.2.2⟩)
 | n + 1,d + 1,c,hc,hd,hn=>by
   have ih:=fun {c:Ae} (hc:ES c)=>ak hs n d hc (by omega) (by omega)
   show Ok (Cy d (AR d) c s ((n + 1:Nat):Int)) _
   have e:IntKind.i64.wrap (((n + 1:Nat):Int) - 1) = (n:Int):=by rw [wr]; omega
   have hb:bw (n + 1) = 2 * bw n + 2:=rfl
   unfold Cy
   rw [e]
   refine Ok.yes dt (Ok.bind (Cv hc (by omega) (by omega)) fun y hy=>Ok.br (fun _=>?_) fun _=>Ok.br (fun _=>?_) fun _=>Ok.br (fun _=>?_) fun _=>(aj hy.1 hs _).mono fun r hr=>⟨hr.1,hr.2.1,.leaf hr.2.2⟩)
   ·exact Ok.bind (ih hy.1) fun a ha=>Ok.some ⟨ha.1,.not _ _ (by omega) _ ha.2.1,fun x hx=>by rw [List.mem_singleton.1 hx]; exact ha.2.2⟩
   ·exact Ok.bind (ih hy.1) fun a ha=>Ok.bind (ih ha.1) fun b hb=>Ok.some ⟨hb.1,.and _ _ _ (by omega) _ _ ha.2.1 hb.2.1,fun x hx=>by
     simp only [List.mem_cons,List.not_mem_nil,or_false] at hx
     rcases hx with rfl | rfl
     ·exact ha.2.2
     ·exact hb.2.2⟩
   ·exact Ok.bind (ih hy.1) fun a ha=>Ok.bind (ih ha.1) fun b hb=>Ok.some ⟨hb.1,.or _ _ _ (by omega) _ _ ha.2.1 hb.2.1,fun x hx=>by
     simp only [List.mem_cons,List.not_mem_nil,or_false] at hx
     rcases hx with rfl | rfl
     ·exact ha.2.2
     ·exact hb.2.2⟩
end Go.Proofs.YtlpkhgkoihlghaaGreatDoor.P
