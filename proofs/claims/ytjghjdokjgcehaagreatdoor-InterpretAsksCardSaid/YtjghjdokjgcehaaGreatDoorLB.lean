/- LB -/
import Derived.Test.YtjghjdokjgcehaaGreatDoorLA
set_option linter.unusedVariables false
set_option linter.unusedSimpArgs false
namespace Go.Proofs.YtjghjdokjgcehaaGreatDoor.P
open Go Go.Abs Go.Proofs
set_option maxRecDepth 100000
variable {s:Ae}
inductive RC (s:Ae):Nat→Aj→Prop
 | all (n:Nat):RC s n WH
 | under (n:Nat) (i:Nat) (hi0:1≤i) (hi:i < s.Columns.length) (h:Kj s.Columns[i]) (L:Ay) (hL:L∈Z1) (hL2:idx s.Lists s.Columns[i].List_ = some L) (k:Int) (h0:0≤k) (h1:k < L.Codes.length):RC s n { Op:=2,Column:=i,Code:=k,Low:=0,High:=0,Kids:=[] }
 | between (n:Nat) (i:Nat) (hi0:1≤i) (hi:i < s.Columns.length) (h:Gp s.Columns[i]) (l u:Int) (h0:-1000000≤l) (h1:l≤u) (h2:u≤1000000):RC s n { Op:=3,Column:=i,Code:=0,Low:=l,High:=u,Kids:=[] }
 | miss (n:Nat) (i:Nat) (hi0:1≤i) (hi:i < s.Columns.length) (h:Gp s.Columns[i]) (ho:s.Columns[i].Optional = true):RC s n { Op:=4,Column:=i,Code:=0,Low:=0,High:=0,Kids:=[] }
 | and (n na nb:Nat) (hn:na + nb + 2≤n) (a b:Aj) (ha:RC s na a) (hb:RC s nb b):RC s n { Op:=5,Column:=0,Code:=0,Low:=0,High:=0,Kids:=[a,b] }
 | or (n na nb:Nat) (hn:na + nb + 2≤n) (a b:Aj) (ha:RC s na a) (hb:RC s nb b):RC s n { Op:=6,Column:=0,Code:=0,Low:=0,High:=0,Kids:=[a,b] }
 | not (n na:Nat) (hn:na + 1≤n) (a:Aj) (ha:RC s na a):RC s n { Op:=7,Column:=0,Code:=0,Low:=0,High:=0,Kids:=[a] }
theorem RC.mono {n:Nat} {c:Aj} (h:RC s n c) {m:Nat} (hm:n≤m):RC s m c:=by
 cases h with
 | all n=>exact .all _
 | under n i hi0 hi h L hL hL2 k h0 h1=>exact .under _ i hi0 hi h L hL hL2 k h0 h1
 | between n i hi0 hi h l u h0 h1 h2=>exact .between _ i hi0 hi h l u h0 h1 h2
 | miss n i hi0 hi h ho=>exact .miss _ i hi0 hi h ho
 | and n na nb hn a b ha hb=>exact .and _ na nb (by omega) a b ha hb
 | or n na nb hn a b ha hb=>exact .or _ na nb (by omega) a b ha hb
 | not n na hn a ha=>exact .not _ na (by omega) a ha
def sm (l:List Nat):Nat:=(l.map (· + 1)).sum
theorem RC.sizes {n:Nat} {c:Aj} (h:RC s n c):∃ ns:List Nat,ns.length = c.Kids.length∧ns.length≤2∧(∀ (k:Nat) (hk:k < ns.length) (hk2:k < c.Kids.length),RC s ns[k] c.Kids[k])∧sm ns≤n:=by
 have none:c.Kids = []→∃ ns:List Nat,ns.length = c.Kids.length∧ns.length≤2∧(∀ (k:Nat) (hk:k < ns.length) (hk2:k < c.Kids.length),RC s ns[k] c.Kids[k])∧sm ns≤n:=fun e=>⟨[],by rw [e]; rfl,by simp,(fun k hk=>by simp at hk),by simp [sm]⟩
 have two:∀ {na nb:Nat} {a b:Aj},na + nb + 2≤n→RC s na a→RC s nb b→c.Kids = [a,b]→∃ ns:List Nat,ns.length = c.Kids.length∧ns.length≤2∧(∀ (k:Nat) (hk:k < ns.length) (hk2:k < c.Kids.length),RC s ns[k] c.Kids[k])∧sm ns≤n:=by
  intro na nb a b hn ha hb e
  refine ⟨[na,nb],by rw [e]; rfl,by simp,fun k hk hk2=>?_,by simp [sm]; omega⟩
  simp only [e]
  match k,hk with
  | 0,_=>exact ha
  | 1,_=>exact hb
 cases h with
 | and n na nb hn a b ha hb=>exact two hn ha hb rfl
 | or n na nb hn a b ha hb=>exact two hn ha hb rfl
 | not n na hn a ha =>
   refine ⟨[na],rfl,by simp,fun k hk hk2=>?_,by simp [sm]; omega⟩
   match k,hk with
   | 0,_=>exact ha
 | _=>exact none rfl
theorem RC.kids {n:Nat} {c:Aj} (h:RC s n c):c.Kids.length≤2∧∀ k∈c.Kids,∃ m,n = m + 1∧RC s m k:=by
 cases h with
 | and n na nb hn a b ha hb=>exact ⟨by simp,fun k hk=>by simp at hk; rcases hk with rfl | rfl <;> exact ⟨n - 1,by omega,RC.mono (by assumption) (by omega)⟩⟩
 | or n na nb hn a b ha hb=>exact ⟨by simp,fun k hk=>by simp at hk; rcases hk with rfl | rfl <;> exact ⟨n - 1,by omega,RC.mono (by assumption) (by omega)⟩⟩
 | not n na hn a ha=>exact ⟨by simp,fun k hk=>by simp at hk; subst hk; exact ⟨n - 1,by omega,ha.mono (by omega)⟩⟩
 | _=>exact ⟨by simp [WH],fun k hk=>by simp [WH] at hk⟩
def DP:Nat→Aj→Prop
 | 0,c=>c.Kids = []
 | k + 1,c=>∀ x∈c.Kids,DP k x
theorem DP.leaf:∀ {k:Nat} {c:Aj},c.Kids = []→DP k c
 | 0,_,h=>h
 | k + 1,c,h=>fun x hx=>by rw [h] at hx; cases hx
theorem DP.mono:∀ {k:Nat} {c:Aj},DP k c→∀ {m:Nat},k≤m→DP m c
 | 0,_,h,_,_=>.leaf h
 | k + 1,c,h,0,hm=>by omega
 | k + 1,c,h,m + 1,hm=>fun x hx=>DP.mono (h x hx) (by omega)
theorem Tx (hs:DS s):Ok (Ce s 2) fun l=>l≠[]∧l.length≤6∧∀ v∈l,∃ i:Nat,v = i∧1≤i∧∃ hi:i < s.Columns.length,Kj s.Columns[i]:=by
 have hc:=hs.cols_length
 have h1:∃ hi:1 < s.Columns.length,Kj s.Columns[1]:=by
  refine ⟨by omega,?_⟩
  obtain ⟨j,ms,e,_⟩:=hs.cols
  have e2:s.Columns[1]? = some f9:=by rw [e]; cases j <;> rfl
  rw [List.getElem?_eq_getElem (by omega)] at e2
  rw [Option.some.inj e2]
  exact ⟨rfl,.inl rfl,rfl,rfl,rfl,rfl⟩
 unfold Ce
 refine Ok.for (fun q=>q.1) s.Columns.length (fun k q=>q.2.length≤k∧(∀ v∈q.2,∃ i:Nat,v = i∧1≤i∧∃ hi:i < s.Columns.length,Kj s.Columns[i])∧(1 < k→(1:Int)∈q.2)) 0 (Nat.zero_le _) rfl
  ⟨Nat.le_refl _,(fun v hv=>by cases hv),fun h=>by omega⟩ (by omega) (fun rec q hq hI=>?_) fun rec k q hk hq hI ih=>?_
 ·simp only [Da,hq]
  rw [BS]
  exact Ok.some ⟨(fun e=>by have:=hI.2.2 (by omega); rw [e] at this; cases this),by have:=hI.1; omega,hI.2.1⟩
 ·simp only [Da,hq]
  rw [BJ]
  have hI1:=hI.1
  refine Ok.idxn hk (Ok.br (fun e=>Ok.rm (by simp; omega) (ih _ Ip ⟨by simp; omega,fun v hv=>?_,fun hk1=>?_⟩)) fun e=>ih _ Ip ⟨by show q.2.length≤k + 1; omega,hI.2.1,fun hk1=>?_⟩)
  ·rcases List.mem_append.1 hv with hv | hv
   ·exact hI.2.1 v hv
   ·rw [List.mem_singleton] at hv
    have e:s.Columns[k].Kind = 2:=by simpa using e
    rcases hs.cl hk with ⟨_,h1⟩ | ⟨h0,h1 | h1⟩
    ·rw [h1] at e; cases e
    ·exact ⟨k,hv,h0,hk,h1⟩
    ·rw [h1.kind] at e; cases e
  ·show _∈q.2++[_]
   by_cases e:k = 1
   ·subst e; exact List.mem_append_right _ (List.mem_singleton.2 rfl)
   ·exact List.mem_append_left _ (hI.2.2 (by omega))
  ·by_cases e2:k = 1
   ·subst e2
    obtain ⟨_,h1⟩:=h1
    rw [h1.kind] at e
    cases e
   ·exact hI.2.2 (by omega)
theorem aT {c:Ag} (hc:Jy c) (hs:DS s):Ok (Fq c s) fun r=>Jy r.2∧∃ i:Nat,r.1 = i∧1≤i∧∃ hi:i < s.Columns.length,Kj s.Columns[i]:=by
 unfold Fq
 refine Ok.bind (Tx hs) fun l hl=>?_
 have:l.length≠0:=fun e=>hl.1 (List.eq_nil_of_length_eq_zero e)
 have hl6:=hl.2.1
 refine Ok.bind (Fi hc (by omega) (by omega)) fun y hy=>Ok.idx hy.2.1 (by omega) (Ok.some ⟨hy.1,hl.2.2 _ (List.getElem_mem _)⟩)
theorem Tu {c:Ag} (hc:Jy c) (hs:DS s) (n:Nat):Ok ((B7 c s).bind fun x80 =>
        (idx s.Columns x80.1).bind fun x84 =>
        (Bh x80.2 (-3) 40).bind fun x88 =>
        (AH x88.2 30).bind fun x94 =>
        some (({ Op:=3,Column:=x80.1,Code:=0,Low:=(IntKind.i64.wrap (x84.Low + x88.1)),High:=(IntKind.i64.wrap ((IntKind.i64.wrap (x84.Low + x88.1)) + x94.1)),Kids:=[] }:Aj),x94.2)) fun r=>Jy r.2∧RC s n r.1∧r.1.Kids = []:=by
 refine Ok.bind (Og hc hs) fun z hz=>?_
 obtain ⟨z1,z2⟩:=z
 obtain ⟨hz2,i,hzi,hi0,hi,hm⟩:=hz
 obtain rfl:z1 = (i:Int):=hzi
 refine Ok.idxn hi (Ok.bind (Hl hz2 (by omega) (by omega) (by omega) (by omega)) fun a ha=>Ok.bind (Fi ha.1 (by omega) (by omega)) fun b hb=>Ok.some ⟨hb.1,?_⟩)
 obtain ⟨l1,l2⟩:=hm.low
 obtain ⟨_,a1,a2⟩:=ha
 obtain ⟨_,b1,b2⟩:=hb
 have e1:IntKind.i64.wrap (s.Columns[i].Low + a.1) = s.Columns[i].Low + a.1:=wr
 rw [e1,wr]
 exact ⟨.between n i hi0 hi hm _ _ (by omega) (by omega) (by omega),rfl⟩
theorem YV {c:Ag} (hc:Jy c) (hs:DS s) (n:Nat):Ok (Do s c) fun r=>Jy r.2∧RC s n r.1∧r.1.Kids = []:=by
 have miss:∀ {c:Ag},Jy c→Ok ((B7 c s).bind fun x101 =>
  (idx s.Columns x101.1).bind fun x105 =>
  bif x105.Optional then
   some (({ Op:=4,Column:=x101.1,Code:=0,Low:=0,High:=0,Kids:=[] }:Aj),x101.2)
  else
   some (({ Op:=1,Column:=0,Code:=0,Low:=0,High:=0,Kids:=[] }:Aj),x101.2)) fun r=>Jy r.2∧RC s n r.1∧r.1.Kids = []:=by
  intro c hc
  refine Ok.bind (Og hc hs) fun z hz=>?_
  obtain ⟨z1,z2⟩:=z
  obtain ⟨hz2,i,hzi,hi0,hi,hm⟩:=hz
  obtain rfl:z1 = (i:Int):=hzi
  exact Ok.idxn hi (Ok.br (fun ho=>Ok.some ⟨hz2,.miss n i hi0 hi hm ho,rfl⟩) fun _=>Ok.some ⟨hz2,.all n,rfl⟩)
 unfold Do
 refine Ok.bind (Fi hc (by omega) (by omega)) fun y hy=>Ok.br (fun _=>?_) fun _=>Ok.br (fun _=>Tu hy.1 hs n) fun _=>Ok.br (fun _=>Tu hy.1 hs n) fun _=>Ok.br (fun _=>miss hy.1) fun _=>Ok.some ⟨hy.1,.all n,rfl⟩
 refine Ok.bind (aT hy.1 hs) fun z hz=>?_
 obtain ⟨z1,z2⟩:=z
 obtain ⟨hz2,i,hzi,hi0,hi,hm⟩:=hz
 obtain rfl:z1 = (i:Int):=hzi
 obtain ⟨L,hL,hL2⟩:=hs.clist hm
 have hne:=(Sr hL).some_
 have hlen:1≤L.Codes.length∧L.Codes.length≤1000:=by
  have:Z1.all (fun L=>decide (1≤L.Codes.length) && decide (L.Codes.length≤1000)) = true:=by decide +kernel
  have:=List.all_eq_true.1 this L hL
  simpa using this
 refine Ok.idxn hi (Ok.bindE hL2 (Ok.bind (Fi hz2 (by omega) (by omega)) fun u hu=>Ok.some ⟨hu.1,.under n i hi0 hi hm L hL hL2 _ hu.2.1 hu.2.2,rfl⟩))
def bw:Nat→Nat
 | 0=>0
 | n + 1=>2 * bw n + 2
theorem Tc (hs:DS s):∀ (n d:Nat) {c:Ag},Jy c→n < d→n≤1000→Ok (C9 d c s n) fun r=>Jy r.2∧RC s (bw n) r.1∧DP n r.1
 | 0,d + 1,c,hc,_,_=>by
   show Ok (CO d (C9 d) c s 0) _
   unfold CO
   exact Ok.no rfl ((YV hc hs 0).mono fun r hr=>⟨hr.1,hr.2.1,.leaf hr.2.2⟩)
 | n + 1,d + 1,c,hc,hd,hn=>by
   have ih:=fun {c:Ag} (hc:Jy c)=>Tc hs n d hc (by omega) (by omega)
   show Ok (CO d (C9 d) c s ((n + 1:Nat):Int)) _
   have e:IntKind.i64.wrap (((n + 1:Nat):Int) - 1) = (n:Int):=by rw [wr]; omega
   have hb:bw (n + 1) = 2 * bw n + 2:=rfl
   unfold CO
   rw [e]
   refine Ok.yes dt (Ok.bind (Fi hc (by omega) (by omega)) fun y hy=>Ok.br (fun _=>?_) fun _=>Ok.br (fun _=>?_) fun _=>Ok.br (fun _=>?_) fun _=>(YV hy.1 hs _).mono fun r hr=>⟨hr.1,hr.2.1,.leaf hr.2.2⟩)
   ·exact Ok.bind (ih hy.1) fun a ha=>Ok.some ⟨ha.1,.not _ _ (by omega) _ ha.2.1,fun x hx=>by rw [List.mem_singleton.1 hx]; exact ha.2.2⟩
   ·exact Ok.bind (ih hy.1) fun a ha=>Ok.bind (ih ha.1) fun b hb=>Ok.some ⟨hb.1,.and _ _ _ (by omega) _ _ ha.2.1 hb.2.1,fun x hx=>by
     simp only [List.mem_cons,List.not_mem_nil,or_false] at hx
     rcases hx with rfl | rfl
     ·exact ha.2.2
     ·exact hb.2.2⟩
   ·exact Ok.bind (ih hy.1) fun a ha=>Ok.bind (ih ha.1) fun b hb=>Ok.some ⟨hb.1,.or _ _ _ (by omega) _ _ ha.2.1 hb.2.1,fun x hx=>by
     simp only [List.mem_cons,List.not_mem_nil,or_false] at hx
     rcases hx with rfl | rfl
     ·exact ha.2.2
     ·exact hb.2.2⟩
theorem U1 {ns:List Nat} {k:Nat} (hk:k < ns.length):sm (ns.take (k + 1)) = sm (ns.take k) + (ns[k] + 1):=by
 unfold sm
 rw [List.take_succ_eq_append_getElem hk,List.map_append,List.sum_append]
 simp
theorem Il (ns:List Nat) (k:Nat):sm (ns.take k)≤sm ns:=by
 have:sm ns = sm (ns.take k) + sm (ns.drop k):=by
  unfold sm
  rw [← List.sum_append,← List.map_append,List.take_append_drop]
 omega
theorem bE:∀ (n d:Nat) {c:Aj} {m:Int},RC s n c→n < d→n≤1000→-10000≤m→m≤1000→Ok (CZ d c m) fun r=>1≤r∧r≤n + 1
 | n,d + 1,c,m,h,hd,hn,hm0,hm1=>by
   obtain ⟨ns,hl,hl2,hk,hsum⟩:=h.sizes
   show Ok (CN d (CZ d) c m) _
   unfold CN
   refine Ok.for (fun q=>q.2) c.Kids.length (fun k q=>1≤q.1∧q.1≤1 + (sm (ns.take k):Nat)) 0 (Nat.zero_le _) rfl ⟨by omega,by simp [sm]⟩ (by omega) (fun rec q hq hI=>?_) fun rec k q hk1 hq hI ih=>?_
   ·have:=Il ns c.Kids.length
    simp only [El,hq]
    rw [BS]
    exact Ok.some ⟨hI.1,by have:=hI.2; omega⟩
   ·have hk2:k < ns.length:=by omega
    have h1:=Il ns k
    have h2:=Il ns (k + 1)
    have h3:=U1 hk2
    obtain ⟨i1,i2⟩:=hI
    simp only [El,hq]
    rw [BJ]
    refine Ok.idxn hk1 (Ok.brd (fun _=>Ok.some ⟨i1,by omega⟩) fun hle=>?_)
    have e1:IntKind.i64.wrap (m - q.1) = m - q.1:=wr
    rw [e1]
    refine Ok.bind (bE ns[k] d (hk k hk2 hk1) (by omega) (by omega) (by omega) (by omega)) fun r hr=>ih _ Ip ?_
    show 1≤IntKind.i64.wrap (q.1 + r)∧IntKind.i64.wrap (q.1 + r)≤1 + (sm (ns.take (k + 1)):Nat)
    rw [wr,h3]
    omega
end Go.Proofs.YtjghjdokjgcehaaGreatDoor.P
namespace Go.Proofs.YtjghjdokjgcehaaGreatDoor.P
open Go Go.Abs Go.Proofs
set_option maxRecDepth 100000
variable {s:Ae}
theorem DP.zero_kids {c:Aj} (h:DP 0 c):c.Kids = []:=h
theorem bF:∀ (n d k:Nat) {c:Aj},RC s n c→n < d→DP k c→k≤100→Ok (Ch d c) fun r=>1≤r∧r≤k + 1
 | n,d + 1,k0,c,h,hd,hp,hk0=>by
   obtain ⟨hk1,hk2⟩:=h.kids
   show Ok (CF d (Ch d) c) _
   unfold CF
   refine Ok.for (fun q=>q.2) c.Kids.length (fun k q=>0≤q.1∧q.1≤k0) 0 (Nat.zero_le _) rfl ⟨Int.le_refl _,by show (0:Int)≤k0; omega⟩ (by omega) (fun rec q hq hI=>?_) fun rec k q hk hq hI ih=>?_
   ·simp only [DI,hq]
    rw [BS,wr]
    exact Ok.some ⟨by omega,by omega⟩
   ·obtain ⟨m,hm,hr⟩:=hk2 _ (List.getElem_mem hk)
    subst hm
    cases k0 with
    | zero=>have:=hp.zero_kids; rw [this] at hk; simp at hk
    | succ j =>
      simp only [DI,hq]
      rw [BJ]
      refine Ok.idxn hk (Ok.bind (bF m d j hr (by omega) (hp _ (List.getElem_mem hk)) (by omega)) fun r hr=>ih _ Ip ?_)
      show 0≤(if r > q.1 then r else q.1)∧(if r > q.1 then r else q.1)≤_
      split <;> omega
theorem WQ (hs:DS s) {n:Nat} {c:Aj} (h:RC s n c):AZ s c = some 0:=by
 have hc:=hs.cols_length
 refine Ok.val ?_
 unfold AZ
 have col:∀ (i:Nat),i < s.Columns.length→(bif decide ((i:Int) < 0) then true else decide ((i:Int) ≥ ((s.Columns.length:Nat):Int))) = false:=by
  intro i hi
  rw [df,df]
  rfl
 cases h with
 | all=>exact Ok.no rfl (Ok.bindE (x:=0) rfl (Ok.no rfl (Ok.bindE (x:=true) rfl (Ok.no rfl (Ok.yes rfl (Ok.some rfl))))))
 | and=>exact Ok.no rfl (Ok.bindE (x:=2) rfl (Ok.no rfl (Ok.bindE (x:=true) rfl (Ok.no rfl (Ok.yes rfl (Ok.some rfl))))))
 | or=>exact Ok.no rfl (Ok.bindE (x:=2) rfl (Ok.no rfl (Ok.bindE (x:=true) rfl (Ok.no rfl (Ok.yes rfl (Ok.some rfl))))))
 | not=>exact Ok.no rfl (Ok.bindE (x:=1) rfl (Ok.no rfl (Ok.bindE (x:=true) rfl (Ok.no rfl (Ok.yes rfl (Ok.some rfl))))))
 | under n i hi0 hi h L hL hL2 k h0 h1 =>
   refine Ok.no rfl (Ok.bindE (x:=0) rfl (Ok.no rfl (Ok.bindE (x:=true) rfl (Ok.no rfl (Ok.no rfl (Ok.no (col i hi) ?_))))))
   unfold AQ
   exact Ok.idxn hi (Ok.yes rfl (Ok.no (by rw [h.kind]; rfl) (Ok.no (decide_eq_false (by show ¬ k < 0; omega)) (Ok.bindE hL2 (Ok.no (decide_eq_false (by show ¬ k ≥ _; omega)) (Ok.some rfl))))))
 | between n i hi0 hi h l u h0 h1 h2 =>
   refine Ok.no rfl (Ok.bindE (x:=0) rfl (Ok.no rfl (Ok.bindE (x:=true) rfl (Ok.no rfl (Ok.no rfl (Ok.no (col i hi) ?_))))))
   unfold AQ
   refine Ok.idxn hi (Ok.no rfl (Ok.yes rfl (Ok.no (by rw [h.kind]; rfl) (Ok.no ?_ (Ok.some rfl)))))
   show (bif (bif decide (l > u) then true else decide (l < -1000000)) then true else decide (u > 1000000)) = false
   rw [df,df,df]
   rfl
 | miss n i hi0 hi h ho =>
   refine Ok.no rfl (Ok.bindE (x:=0) rfl (Ok.no rfl (Ok.bindE (x:=true) rfl (Ok.no rfl (Ok.no rfl (Ok.no (col i hi) ?_))))))
   unfold AQ
   exact Ok.idxn hi (Ok.no rfl (Ok.no rfl (Ok.yes rfl (Ok.no (by rw [h.kind,ho]; rfl) (Ok.some rfl)))))
theorem Sq (hs:DS s):∀ (n d:Nat) {c:Aj},RC s n c→n < d→BC d s c = some 0
 | n,d + 1,c,h,hd=>by
   obtain ⟨hk1,hk2⟩:=h.kids
   refine Ok.val ?_
   show Ok (BA d (BC d) s c) _
   unfold BA
   refine Ok.bindE (WQ hs h) (Ok.no rfl ?_)
   refine Ok.for (fun q=>q) c.Kids.length (fun _ _=>True) 0 (Nat.zero_le _) rfl trivial (by omega) (fun rec q hq hI=>?_) fun rec k q hk hq hI ih=>?_
   ·simp only [Br,hq]
    rw [BS]
    exact Ok.some rfl
   ·obtain ⟨m,hm,hr⟩:=hk2 _ (List.getElem_mem hk)
    subst hm
    simp only [Br,hq]
    rw [BJ]
    exact Ok.idxn hk (Ok.bindE (Sq hs m d hr (by omega)) (Ok.no rfl (ih _ Ip trivial)))
theorem RC.check (hs:DS s) {n:Nat} {c:Aj} (h:RC s n c) (hn:n≤39∧DP 9 c) {d:Nat} (hd:n < d):Bi d s c = some 0:=by
 refine Ok.val ?_
 unfold Bi
 exact Ok.bindE hs.check (Ok.no rfl (Ok.bind (bE n d h hd (by omega) (by omega) (by omega)) fun r hr=>Ok.no df (Ok.bind (bF n d 9 h hd hn.2 (by omega)) fun r hr=>Ok.no df (Ok.bindE (Sq hs n d h hd) (Ok.some rfl)))))
theorem PU:∀ (d:Nat) (c:Aj),Ch d c = F5 d c
 | 0,_=>rfl
 | d + 1,c=>by
   show CF d (Ch d) c = JC d (F5 d) c
   rw [show Ch d = F5 d from funext (PU d)]
   rfl
theorem Nc {σ ρ:Type} {f g:(σ→Option ρ)→σ→Option ρ} (I:σ→Prop) (h:∀ r1 r2 s,I s→(∀ s',I s'→r1 s' = r2 s')→f r1 s = g r2 s):∀ n s,I s→iter f n s = iter g n s
 | 0,_,_=>rfl
 | n + 1,s,hs=>h _ _ s hs fun s' hs'=>Nc I h n s' hs'
def nds:Nat→Aj→Nat
 | 0,_=>1
 | d + 1,c=>1 + (c.Kids.map (nds d)).sum
theorem OW:∀ (d:Nat) (c:Aj),1≤nds d c
 | 0,_=>Nat.le_refl _
 | d + 1,c=>by unfold nds; omega
theorem M4 {d:Nat} {l:List Aj} {k:Nat} (hk:k < l.length):((l.take (k + 1)).map (nds d)).sum = ((l.take k).map (nds d)).sum + nds d l[k]:=by
 rw [List.take_succ_eq_append_getElem hk,List.map_append,List.sum_append]
 simp
theorem Ic {d:Nat} (l:List Aj) (k:Nat):((l.take k).map (nds d)).sum≤(l.map (nds d)).sum:=by
 have:(l.map (nds d)).sum = ((l.take k).map (nds d)).sum + ((l.drop k).map (nds d)).sum:=by
  rw [← List.sum_append,← List.map_append,List.take_append_drop]
 omega
theorem Te {d:Nat} (l:List Aj) (k:Nat) (hk:k≤l.length):k≤((l.take k).map (nds d)).sum:=by
 induction k with
 | zero=>omega
 | succ k ih=>rw [M4 (by omega)]; have:=OW d l[k]; have:=ih (by omega); omega
theorem R4:∀ (d m:Nat) (c:Aj),m < d→m≤1000→CZ d c m = some ((min (nds d c) (m + 1):Nat):Int)∧F4 d c ((m + 1:Nat):Int) = some ((min (nds d c) (m + 1):Nat):Int)
 | d + 1,m,c,hd,hm=>by
   have hn:nds (d + 1) c = 1 + (c.Kids.map (nds d)).sum:=rfl
   constructor
   ·refine Ok.val ?_
    show Ok (CN d (CZ d) c m) _
    unfold CN
    refine Ok.loop (fun q=>∃ k:Nat,q.2 = k∧k≤c.Kids.length∧q.1 = ((min (1 + ((c.Kids.take k).map (nds d)).sum) (m + 1):Nat):Int)∧k≤m) (fun q=>m + 1 - q.2.toNat) ⟨0,rfl,Nat.zero_le _,by simp,Nat.zero_le _⟩ (by unfold AO; show m + 1 - (0:Int).toNat < _; simp; omega) fun rec q ⟨k,hq,hk,hI,hkm⟩ ih=>?_
    simp only [El,hq,hI]
    refine Ok.brd (fun hlt=>?_) fun hge=>Ok.some ?_
    ·have hk1:k < c.Kids.length:=by omega
     have h1:=Ic (d:=d) c.Kids k
     have h2:=Ic (d:=d) c.Kids (k + 1)
     have h3:=M4 (d:=d) hk1
     have h4:=Te (d:=d) c.Kids k (by omega)
     have h5:=OW d c.Kids[k]
     refine Ok.idxn hk1 (Ok.brd (fun hgt=>Ok.some ?_) fun hle=>?_)
     ·rw [hn]; congr 1; omega
     have e1:IntKind.i64.wrap ((m:Int) - ((min (1 + ((c.Kids.take k).map (nds d)).sum) (m + 1):Nat):Int)) = ((m - (1 + ((c.Kids.take k).map (nds d)).sum):Nat):Int):=by
      rw [wr]; omega
     rw [e1]
     refine Ok.bindE (R4 d _ c.Kids[k] (by omega) (by omega)).1 (ih _ ⟨k + 1,Ip,by omega,?_,by omega⟩ ?_)
     ·show IntKind.i64.wrap (_ + _) = _
      rw [wr]; omega
     ·show m + 1 - (IntKind.i64.wrap ((k:Int) + 1)).toNat < m + 1 - q.2.toNat
      rw [Ip,hq]; omega
    ·rw [show c.Kids.take k = c.Kids from List.take_of_length_le (by omega)]; rfl
   ·refine Ok.val ?_
    show Ok (EX d (F4 d) c ((m + 1:Nat):Int)) _
    unfold EX
    refine Ok.loop (fun q=>∃ k:Nat,q.2 = k∧k≤c.Kids.length∧q.1 = ((min (1 + ((c.Kids.take k).map (nds d)).sum) (m + 1):Nat):Int)∧k≤m) (fun q=>m + 1 - q.2.toNat) ⟨0,rfl,Nat.zero_le _,by simp,Nat.zero_le _⟩ (by unfold AO; show m + 1 - (0:Int).toNat < _; simp; omega) fun rec q ⟨k,hq,hk,hI,hkm⟩ ih=>?_
    simp only [GB,hq,hI]
    by_cases hlt:((k:Nat):Int) < c.Kids.length
    ·rw [decide_eq_true hlt,cond_true]
     have hk1:k < c.Kids.length:=by omega
     have h1:=Ic (d:=d) c.Kids k
     have h2:=Ic (d:=d) c.Kids (k + 1)
     have h3:=M4 (d:=d) hk1
     have h4:=Te (d:=d) c.Kids k (by omega)
     have h5:=OW d c.Kids[k]
     refine Ok.brd (fun hle=>Ok.idxn hk1 ?_) fun hgt=>Ok.some ?_
     ·have e1:IntKind.i64.wrap (((m + 1:Nat):Int) - ((min (1 + ((c.Kids.take k).map (nds d)).sum) (m + 1):Nat):Int)) = (((m - (1 + ((c.Kids.take k).map (nds d)).sum)) + 1:Nat):Int):=by
       rw [wr]; omega
      rw [e1]
      refine Ok.bindE (R4 d _ c.Kids[k] (by omega) (by omega)).2 (ih _ ⟨k + 1,Ip,by omega,?_,by omega⟩ ?_)
      ·show IntKind.i64.wrap (_ + _) = _
       rw [wr]; omega
      ·show m + 1 - (IntKind.i64.wrap ((k:Int) + 1)).toNat < m + 1 - q.2.toNat
       rw [Ip,hq]; omega
     ·rw [hn]; congr 1; omega
    ·rw [decide_eq_false hlt,cond_false,cond_false]
     refine Ok.some ?_
     rw [show c.Kids.take k = c.Kids from List.take_of_length_le (by omega)]; rfl
theorem RC.nds:∀ (n d:Nat) {c:Aj},RC s n c→nds d c≤n + 1
 | n,0,c,_=>by show 1≤n + 1; omega
 | n,d + 1,c,h=>by
   obtain ⟨ns,hl,hl2,hk,hsum⟩:=h.sizes
   have:∀ k,k≤c.Kids.length→((c.Kids.take k).map (P.nds d)).sum≤sm (ns.take k):=by
    intro k
    induction k with
    | zero=>simp
    | succ k ih =>
      intro hk1
      rw [M4 (by omega),U1 (by omega)]
      have:=ih (by omega)
      have:=RC.nds ns[k] d (hk k (by omega) (by omega))
      omega
   have:=this c.Kids.length (Nat.le_refl _)
   rw [List.take_length,show ns.take c.Kids.length = ns from List.take_of_length_le (by omega)] at this
   show 1 + (c.Kids.map (P.nds d)).sum≤n + 1
   omega
theorem bI:∀ (n d:Nat) {c:Aj} {m:Int},RC s n c→n < d→n≤1000→-10000≤m→m≤1000→Ok (F4 d c m) fun r=>1≤r∧r≤n + 1
 | n,d + 1,c,m,h,hd,hn,hm0,hm1=>by
   obtain ⟨ns,hl,hl2,hk,hsum⟩:=h.sizes
   show Ok (EX d (F4 d) c m) _
   unfold EX
   refine Ok.for (fun q=>q.2) c.Kids.length (fun k q=>1≤q.1∧q.1≤1 + (sm (ns.take k):Nat)) 0 (Nat.zero_le _) rfl ⟨by omega,by simp [sm]⟩ (by omega) (fun rec q hq hI=>?_) fun rec k q hk1 hq hI ih=>?_
   ·have:=Il ns c.Kids.length
    simp only [GB,hq]
    refine Ok.no ?_ (Ok.some ⟨hI.1,by have:=hI.2; omega⟩)
    rw [df]; rfl
   ·have hk2:k < ns.length:=by omega
    have h1:=Il ns k
    have h2:=Il ns (k + 1)
    have h3:=U1 hk2
    obtain ⟨i1,i2⟩:=hI
    simp only [GB,hq]
    rw [decide_eq_true (show ((k:Nat):Int) < c.Kids.length by omega),cond_true]
    refine Ok.brd (fun _=>Ok.idxn hk1 ?_) fun hle=>Ok.some ⟨i1,by omega⟩
    have e1:IntKind.i64.wrap (m - q.1) = m - q.1:=wr
    rw [e1]
    refine Ok.bind (bI ns[k] d (hk k hk2 hk1) (by omega) (by omega) (by omega) (by omega)) fun r hr=>ih _ Ip ?_
    show 1≤IntKind.i64.wrap (q.1 + r)∧IntKind.i64.wrap (q.1 + r)≤1 + (sm (ns.take (k + 1)):Nat)
    rw [wr,h3]
    omega
theorem Xw {i:Nat} (hi:i < s.Columns.length) (k:Int):Fv s i k = some (s.Columns[i].Kind==k):=by
 refine Ok.val ?_
 unfold Fv
 refine Ok.yes ?_ (Ok.idxn hi (Ok.some rfl))
 rw [dt,dt]; rfl
theorem af {self:Ae→Aj→Option Int} {c:Aj} (h:c.Kids.length≤2) (hk:∀ k∈c.Kids,self s k = some 0):iter (fun rec1 s_1=>EY c self s (fun v7_1=>some 0) rec1 s_1) AO 0 = some 0:=by
 refine Ok.val ?_
 refine Ok.for (fun q=>q) c.Kids.length (fun _ _=>True) 0 (Nat.zero_le _) rfl trivial (by omega) (fun rec q hq hI=>?_) fun rec k q hk2 hq hI ih=>?_
 ·simp only [EY,hq]
  rw [BS]
  exact Ok.some rfl
 ·simp only [EY,hq]
  rw [BJ]
  exact Ok.idxn hk2 (Ok.bindE (hk _ (List.getElem_mem hk2)) (Ok.no rfl (ih _ Ip trivial)))
theorem dw (hs:DS s):∀ (n d:Nat) {c:Aj},RC s n c→n < d→Ds d s c = some 0
 | n,d + 1,c,h,hd=>by
   obtain ⟨hk1,hk2⟩:=h.kids
   have hkid:∀ k∈c.Kids,Ds d s k = some 0:=fun k hk=>by
    obtain ⟨m,hm,hr⟩:=hk2 k hk
    subst hm
    exact dw hs m d hr (by omega)
   have last:=af (s:=s) (self:=Ds d) hk1 hkid
   refine Ok.val ?_
   show Ok (CC d (Ds d) s c) _
   unfold CC
   cases h with
   | all =>
     refine Ok.yes rfl ?_
     unfold AE
     refine Ok.no rfl (Ok.no rfl (Ok.no rfl (Ok.no rfl ?_)))
     unfold Bs
     refine Ok.no rfl ?_
     unfold BE
     exact Ok.no rfl (Ok.eq last)
   | and =>
     refine Ok.no rfl (Ok.no rfl (Ok.no rfl (Ok.no rfl (Ok.yes rfl ?_))))
     unfold AE
     refine Ok.no rfl (Ok.no rfl (Ok.no rfl (Ok.no rfl ?_)))
     unfold Bs
     refine Ok.no rfl ?_
     unfold BE
     exact Ok.no rfl (Ok.eq last)
   | or =>
     refine Ok.no rfl (Ok.no rfl (Ok.no rfl (Ok.no rfl (Ok.no rfl (Ok.yes rfl ?_)))))
     unfold AE
     refine Ok.no rfl (Ok.no rfl (Ok.no rfl (Ok.no rfl ?_)))
     unfold Bs
     refine Ok.no rfl ?_
     unfold BE
     exact Ok.no rfl (Ok.eq last)
   | not =>
     refine Ok.no rfl (Ok.no rfl (Ok.no rfl (Ok.no rfl (Ok.no rfl (Ok.no rfl (Ok.yes rfl ?_))))))
     unfold AE
     refine Ok.no rfl (Ok.no rfl (Ok.no rfl (Ok.no rfl ?_)))
     unfold Bs
     refine Ok.no rfl ?_
     unfold BE
     exact Ok.no rfl (Ok.eq last)
   | under n i hi0 hi h L hL hL2 k h0 h1 =>
     refine Ok.no rfl (Ok.yes rfl ?_)
     unfold AE
     refine Ok.no (by simp) (Ok.yes rfl (Ok.bindE (Xw hi 2) (Ok.no (by rw [h.kind]; rfl) ?_)))
     unfold Bs
     refine Ok.yes rfl (Ok.no (decide_eq_false (by show ¬ k < 0; omega)) (Ok.idxn hi (Ok.bindE hL2 (Ok.no (decide_eq_false (by show ¬ k ≥ _; omega)) ?_))))
     unfold BE
     exact Ok.no rfl (Ok.eq last)
   | between n i hi0 hi h l u h0 h1 h2 =>
     refine Ok.no rfl (Ok.no rfl (Ok.yes rfl ?_))
     unfold AE
     refine Ok.no (by simp) (Ok.no rfl (Ok.yes rfl (Ok.bindE (Xw hi 3) (Ok.no (by rw [h.kind]; rfl) ?_))))
     unfold Bs
     refine Ok.no rfl ?_
     unfold BE
     refine Ok.no ?_ (Ok.eq last)
     show (bif true then (bif (bif decide (l < -1000000) then true else decide (u > 1000000)) then true else decide (l > u)) else false) = false
     rw [df,df,df]
     rfl
   | miss n i hi0 hi h ho =>
     refine Ok.no rfl (Ok.no rfl (Ok.no rfl (Ok.yes rfl ?_)))
     unfold AE
     refine Ok.no (by simp) (Ok.no rfl (Ok.no rfl (Ok.yes rfl (Ok.bindE (Xw hi 3) (Ok.no (by rw [h.kind]; rfl) (Ok.idxn hi (Ok.no (by rw [ho]; rfl) ?_)))))))
     unfold Bs
     refine Ok.no rfl ?_
     unfold BE
     exact Ok.no rfl (Ok.eq last)
theorem RC.rcheck (hs:DS s) {n:Nat} {c:Aj} (h:RC s n c) (hn:n≤39∧DP 9 c) {d:Nat} (hd:n < d):BW d s c = some 0:=by
 refine Ok.val ?_
 unfold BW
 exact Ok.bindE hs.rcheck (Ok.no rfl (Ok.bind (bI n d h hd (by omega) (by omega) (by omega)) fun r hr=>Ok.no df (Ok.bind (PU d c ▸ bF n d 9 h hd hn.2 (by omega)) fun r hr=>Ok.no df (Ok.bindE (dw hs n d h hd) (Ok.some rfl)))))
def GC (s:Ae) (c:Aj):Prop:=∃ n,RC s n c∧n≤39∧DP 9 c
theorem GC.check (hs:DS s) {c:Aj} (h:GC s c) {d:Nat} (hd:40≤d):Bi d s c = some 0:=by
 obtain ⟨n,h1,h2⟩:=h
 exact h1.check hs h2 (by omega)
theorem GC.rcheck (hs:DS s) {c:Aj} (h:GC s c) {d:Nat} (hd:40≤d):BW d s c = some 0:=by
 obtain ⟨n,h1,h2⟩:=h
 exact h1.rcheck hs h2 (by omega)
theorem GC.op {c:Aj} (h:GC s c):(c.Op != 0) = true:=by
 obtain ⟨n,h1,_⟩:=h
 cases h1 <;> rfl
theorem GC.all:GC s WH:=⟨0,.all 0,by omega,.leaf rfl⟩
theorem GC.drawn {n:Nat} {c:Aj} (h:RC s (bw n) c∧DP n c) (hn:n≤3):GC s c:=by
 refine ⟨bw n,h.1,?_,h.2.mono (by omega)⟩
 rcases (by omega:n = 0∨n = 1∨n = 2∨n = 3) with rfl | rfl | rfl | rfl <;> decide
end Go.Proofs.YtjghjdokjgcehaaGreatDoor.P
namespace Go.Proofs.YtjghjdokjgcehaaGreatDoor.P
open Go Go.Abs Go.Proofs
set_option maxRecDepth 100000
variable {s:Ae}
end Go.Proofs.YtjghjdokjgcehaaGreatDoor.P
namespace Go.Proofs.YtjghjdokjgcehaaGreatDoor.P
open Go Go.Abs Go.Proofs
set_option maxRecDepth 100000
variable {s:Ae}
def SF (c:A4) (lo hi l:Int):Prop :=
 (l = 0→c.Optional = false)∧(lo≤c.High→c.Low≤hi→(l = 0→lo≤c.Low∧c.High≤hi)∧(l≠0→(lo≤c.Low∨lo % Mg c l = 0)∧(c.High≤hi∨(hi + 1) % Mg c l = 0)))
theorem SF.up {c:A4} (h:Gp c) {lo up l l':Int} (hs:SF c lo up l) (h0:0≤l) (hll:l≤l') (h1:l'≤c.Widths.length):SF c lo up l':=by
 obtain ⟨s1,s2⟩:=hs
 refine ⟨fun hz=>s1 (by omega),fun p q=>?_⟩
 obtain ⟨t1,t2⟩:=s2 p q
 refine ⟨fun hz=>t1 (by omega),fun hz=>?_⟩
 by_cases e:l = 0
 ·have:=t1 e
  exact ⟨.inl this.1,.inl this.2⟩
 ·obtain ⟨u1,u2⟩:=t2 e
  have hw:=Z0 h (a:=l') (b:=l) (by omega) hll h1
  generalize Mg c l' = x at *
  generalize Mg c l = y at *
  simp only [List.mem_cons,List.not_mem_nil,or_false,Prod.mk.injEq] at hw
  have dv:∀ n:Int,n % y = 0→n % x = 0:=by
   intro n hn
   rcases hw with ⟨rfl,rfl⟩ | ⟨rfl,rfl⟩ | ⟨rfl,rfl⟩ | ⟨rfl,rfl⟩ | ⟨rfl,rfl⟩ | ⟨rfl,rfl⟩ | ⟨rfl,rfl⟩ | ⟨rfl,rfl⟩ | ⟨rfl,rfl⟩ | ⟨rfl,rfl⟩ | ⟨rfl,rfl⟩ | ⟨rfl,rfl⟩ | ⟨rfl,rfl⟩ | ⟨rfl,rfl⟩ | ⟨rfl,rfl⟩ <;> omega
  exact ⟨u1.imp id (dv _),u2.imp id (dv _)⟩
theorem cT {c:A4} (h:Gp c):Mg c c.Widths.length = 1:=by
 unfold Mg
 rw [Int.sub_self]
 rcases b9 h.widths with e | e | e | e <;> rw [e] <;> rfl
theorem SF.fin {c:A4} (h:Gp c) (lo up:Int):SF c lo up c.Widths.length:=by
 have:=Mf h
 refine ⟨fun hz=>by omega,fun _ _=>⟨fun hz=>by omega,fun _=>?_⟩⟩
 rw [cT h]
 exact ⟨.inr (Int.emod_one _),.inr (Int.emod_one _)⟩
end Go.Proofs.YtjghjdokjgcehaaGreatDoor.P
namespace Go.Proofs.YtjghjdokjgcehaaGreatDoor.P
open Go Go.Abs Go.Proofs
set_option maxRecDepth 100000
variable {s:Ae}
end Go.Proofs.YtjghjdokjgcehaaGreatDoor.P
namespace Go.Proofs.YtjghjdokjgcehaaGreatDoor.P
open Go Go.Abs Go.Proofs
set_option maxRecDepth 100000
variable {s:Ae}
def ep (c:Aj):Bool:=(bif (bif (c.Op==2) then true else (c.Op==3)) then true else (c.Op==4))
def db:Nat→Aj→List Aj
 | 0,_=>[]
 | d + 1,c=>bif ep c then [c] else c.Kids.flatMap (db d)
theorem WJ:∀ (n d d':Nat) {c:Aj},RC s n c→n < d→n < d'→db d c = db d' c
 | n,d + 1,d' + 1,c,h,hd,hd'=>by
   unfold db
   cases e:ep c with
   | true=>rfl
   | false =>
     show c.Kids.flatMap (db d) = c.Kids.flatMap (db d')
     rw [List.flatMap_def,List.flatMap_def]
     congr 1
     refine List.map_congr_left fun k hk=>?_
     obtain ⟨m,hm,hr⟩:=h.kids.2 k hk
     exact WJ m d d' hr (by omega) (by omega)
def f7 (s:Ae) (a:Aj):Int:=(((List.range 6).find? fun l:Nat=>FC s a (l:Int)==some true).getD 0:Nat)
end Go.Proofs.YtjghjdokjgcehaaGreatDoor.P
namespace Go.Proofs.YtjghjdokjgcehaaGreatDoor.P
open Go Go.Abs Go.Proofs
set_option maxRecDepth 100000
variable {s:Ae}
def one (picks:List Aw) (i l:Int):Prop:=l≤0∨∃ p∈picks,p.Column = i∧l≤p.Level
theorem Ws {picks:List Aw} {i a b:Int}:one picks i (if a > b then a else b)↔one picks i b∧one picks i a:=by
 unfold one
 constructor
 ·rintro (h | ⟨p,h1,h2,h3⟩)
  ·split at h <;> exact ⟨.inl (by omega),.inl (by omega)⟩
  ·split at h3 <;> exact ⟨.inr ⟨p,h1,h2,by omega⟩,.inr ⟨p,h1,h2,by omega⟩⟩
 ·rintro ⟨h1,h2⟩
  split
  ·exact h2
  ·exact h1
structure NO (s:Ae) (l:List Aj) (r:List Aw):Prop where
 len:r.length≤100
 pos:∀ p∈r,0 < p.Level
 iff:∀ picks,(∀ p∈r,one picks p.Column p.Level)↔∀ a∈l,one picks a.Column (f7 s a)
end Go.Proofs.YtjghjdokjgcehaaGreatDoor.P
namespace Go.Proofs.YtjghjdokjgcehaaGreatDoor.P
open Go Go.Abs Go.Proofs
set_option maxRecDepth 100000
variable {s:Ae}
end Go.Proofs.YtjghjdokjgcehaaGreatDoor.P
namespace Go.Proofs.YtjghjdokjgcehaaGreatDoor.P
open Go Go.Abs Go.Proofs
set_option maxRecDepth 100000
variable {s:Ae}
def lk (picks:List Aw) (A6:List Int) (i:Int):Nat→Int × Int
 | 0=>(0,0)
 | k + 1=>if (picks.getD k { Column:=0,Level:=0 }).Column = i then ((picks.getD k { Column:=0,Level:=0 }).Level,A6.getD k 0) else lk picks A6 i k
end Go.Proofs.YtjghjdokjgcehaaGreatDoor.P
namespace Go.Proofs.YtjghjdokjgcehaaGreatDoor.P
open Go Go.Abs Go.Proofs
set_option maxRecDepth 100000
variable {s:Ae}
end Go.Proofs.YtjghjdokjgcehaaGreatDoor.P
namespace Go.Proofs.YtjghjdokjgcehaaGreatDoor.P
open Go Go.Abs Go.Proofs
set_option maxRecDepth 100000
variable {s:Ae}
end Go.Proofs.YtjghjdokjgcehaaGreatDoor.P
namespace Go.Proofs.YtjghjdokjgcehaaGreatDoor.P
open Go Go.Abs Go.Proofs
set_option maxRecDepth 100000
variable {s:Ae}
def low (w v:Int):Int:=v - v % w
structure BR (w:Int) (l lows:List Int):Prop where
 asc:lows.Pairwise (· < ·)
 mem:∀ z,z∈lows↔∃ v∈l,low w v = z
theorem bu {l:List Int} {x:Int} (hl:l.length≤1000):Ok (Js l x) fun b=>(b = true↔x∈l):=by
 unfold Js
 refine Ok.for (fun q=>q) l.length (fun k _=>∀ y∈l.take k,y≠x) 0 (Nat.zero_le _) rfl (fun y hy=>by simp at hy) (by omega) (fun rec q hq hI=>?_) fun rec k q hk hq hI ih=>?_
 ·simp only [Kx,hq]
  rw [BS]
  rw [List.take_length] at hI
  exact Ok.some ⟨(fun h=>by cases h),fun h=>absurd rfl (hI x h)⟩
 ·simp only [Kx,hq]
  rw [BJ]
  refine Ok.idxn hk (Ok.br (fun e=>Ok.some ⟨fun _=>?_,fun _=>rfl⟩) fun e=>ih _ Ip fun y hy=>?_)
  ·have e:l[k] = x:=by simpa using e
   rw [← e]; exact List.getElem_mem hk
  ·rw [List.take_succ_eq_append_getElem hk] at hy
   rcases List.mem_append.1 hy with hy | hy
   ·exact hI y hy
   ·rw [List.mem_singleton] at hy; subst hy; simpa using e
end Go.Proofs.YtjghjdokjgcehaaGreatDoor.P
namespace Go.Proofs.YtjghjdokjgcehaaGreatDoor.P
open Go Go.Abs Go.Proofs
set_option maxRecDepth 100000
variable {s:Ae}
end Go.Proofs.YtjghjdokjgcehaaGreatDoor.P
namespace Go.Proofs.YtjghjdokjgcehaaGreatDoor.P
open Go Go.Abs Go.Proofs
set_option maxRecDepth 100000
variable {s:Ae}
end Go.Proofs.YtjghjdokjgcehaaGreatDoor.P
namespace Go.Proofs.YtjghjdokjgcehaaGreatDoor.P
open Go Go.Abs Go.Proofs
set_option maxRecDepth 100000
variable {s:Ae}
theorem Xt {l:List Nat} {k:Nat} (hk:k < l.length) (hk2:k < (ints l).length):(ints l)[k] = (l[k]:Int):=by simp [ints]
end Go.Proofs.YtjghjdokjgcehaaGreatDoor.P
namespace Go.Proofs.YtjghjdokjgcehaaGreatDoor.P
open Go Go.Abs Go.Proofs
set_option maxRecDepth 100000
variable {s:Ae}
end Go.Proofs.YtjghjdokjgcehaaGreatDoor.P
namespace Go.Proofs.YtjghjdokjgcehaaGreatDoor.P
open Go Go.Abs Go.Proofs
set_option maxRecDepth 100000
variable {s:Ae}
def hE (m w:Int) (c:Aj):Av:={ Op:=13,Num:=w,Name:=ByteArray.empty,Column:=m,Columns:=[],Dims:=[],Cond:=c,Event:=IU,Kids:=[] }
theorem b4 (hs:DS s) {i:Nat} (hi:i < s.Columns.length) (h:s.Columns[i].Kind = 3):1≤i∧Gp s.Columns[i]:=by
 rcases hs.cl hi with ⟨_,h1⟩ | ⟨h0,h1 | h1⟩
 ·rw [h1] at h; cases h
 ·rw [h1.kind] at h; cases h
 ·exact ⟨h0,h1⟩
theorem Wt (hs:DS s) (m:Int):Ok (Bj s m) fun b=>(b = true↔∃ (i:Nat) (hi:i < s.Columns.length),1≤i∧m = (i:Int)∧Gp s.Columns[i]):=by
 by_cases h0:0≤m∧m < s.Columns.length
 ·obtain ⟨i,rfl⟩:∃ i:Nat,m = i:=⟨m.toNat,by omega⟩
  have hi:i < s.Columns.length:=by omega
  by_cases e:s.Columns[i].Kind = 3
  ·obtain ⟨h1,h2⟩:=b4 hs hi e
   exact ⟨_,aj hi h2,fun _=>⟨i,hi,h1,rfl,h2⟩,fun _=>rfl⟩
  ·refine ⟨false,?_,(fun h=>by cases h),fun ⟨j,hj,_,hjm,hm⟩=>?_⟩
   ·unfold Bj
    rw [dt,dt]
    show (idx s.Columns (i:Int)).bind _ = _
    rw [CK hi,Option.bind_some]
    have:(s.Columns[i].Kind==3) = false:=by simpa using e
    rw [this]
   ·obtain rfl:i = j:=by omega
    exact absurd hm.kind e
 ·refine ⟨false,?_,(fun h=>by cases h),fun ⟨j,hj,_,hjm,hm⟩=>by omega⟩
  unfold Bj
  by_cases h1:0≤m
  ·rw [decide_eq_true (show m ≥ 0 from h1),df]; rfl
  ·rw [decide_eq_false (show ¬ m ≥ 0 from h1)]; rfl
end Go.Proofs.YtjghjdokjgcehaaGreatDoor.P
namespace Go.Proofs.YtjghjdokjgcehaaGreatDoor.P
open Go Go.Abs Go.Proofs
set_option maxRecDepth 100000
variable {s:Ae}
theorem Zd (hs:DS s) (m:Int):Ok (Dm s m 3) fun b=>(b = true↔∃ (i:Nat) (hi:i < s.Columns.length),1≤i∧m = (i:Int)∧Gp s.Columns[i]):=by
 have e:Dm s m 3 = Bj s m:=by
  unfold Dm Bj
  rfl
 rw [e]
 exact Wt hs m
end Go.Proofs.YtjghjdokjgcehaaGreatDoor.P
namespace Go.Proofs.YtjghjdokjgcehaaGreatDoor.P
open Go Go.Abs Go.Proofs
set_option maxRecDepth 100000
variable {s:Ae}
end Go.Proofs.YtjghjdokjgcehaaGreatDoor.P
namespace Go.Proofs.YtjghjdokjgcehaaGreatDoor.P
open Go Go.Abs Go.Proofs
set_option maxRecDepth 100000
variable {s:Ae}
end Go.Proofs.YtjghjdokjgcehaaGreatDoor.P
namespace Go.Proofs.YtjghjdokjgcehaaGreatDoor.P
open Go Go.Abs Go.Proofs
set_option maxRecDepth 100000
variable {s:Ae}
structure NP (r:List Aw) (m:Nat) (P:List Aw→Prop):Prop where
 len:r.length≤m
 pos:∀ p∈r,0 < p.Level
 iff:∀ picks,(∀ p∈r,one picks p.Column p.Level)↔P picks
theorem NP.congr {r:List Aw} {m:Nat} {P Q:List Aw→Prop} (h:NP r m P) (e:∀ picks,P picks↔Q picks):NP r m Q:=⟨h.len,h.pos,fun picks=>(h.iff picks).trans (e picks)⟩
theorem NP.nil {m:Nat}:NP [] m fun _=>True:=⟨Nat.zero_le _,(fun p hp=>by cases hp),fun picks=>⟨fun _=>trivial,fun _ p hp=>by cases hp⟩⟩
theorem NO.cols {l:List Aj} {r:List Aw} (h:NO s l r):∀ p∈r,∃ a∈l,p.Column = a.Column:=by
 intro p hp
 have h1:=(h.iff (l.map fun a=>{ Column:=a.Column,Level:=f7 s a })).2 (fun a ha=>.inr ⟨_,List.mem_map.2 ⟨a,ha,rfl⟩,rfl,Int.le_refl _⟩) p hp
 rcases h1 with h1 | ⟨q,hq,h2,_⟩
 ·have:=h.pos p hp; omega
 ·obtain ⟨a,ha,rfl⟩:=List.mem_map.1 hq
  exact ⟨a,ha,h2.symm⟩
theorem Vv (k c v:Int):∀ b:List (Int × Int),Jm c (Va k v b) = if c = k then some v else Jm c b
 | []=>by
   simp only [Va,Jm]
   by_cases e:c = k
   ·subst e; rw [beq_self_eq_true,if_pos rfl]; rfl
   ·rw [beq_eq_false_iff_ne.2 e,if_neg e]; rfl
 | p :: r=>by
   have ih:=Vv k c v r
   simp only [Va]
   by_cases e:k = p.1
   ·rw [← e,beq_self_eq_true,cond_true]
    simp only [Jm]
    by_cases e2:c = k
    ·subst e2; rw [beq_self_eq_true,if_pos rfl]; rfl
    ·rw [← e,beq_eq_false_iff_ne.2 e2,if_neg e2,cond_false,cond_false]
   ·rw [beq_eq_false_iff_ne.2 e,cond_false]
    simp only [Jm]
    rw [ih]
    by_cases e2:c = p.1
    ·rw [← e2,beq_self_eq_true,cond_true,if_neg (by omega),cond_true]
    ·rw [beq_eq_false_iff_ne.2 e2,cond_false,cond_false]
def gl (c:Int) (b:List (Int × Int)):Int:=(Jm c b).getD 0
structure MI (v:Int) (b:List (Int × Int)) (P:List Aw→Prop):Prop where
 v0:0≤v
 v1:v≤1000
 out:∀ c,v < c→gl c b = 0
 iff:∀ picks,(∀ c,0≤c→c≤v→one picks c (gl c b))↔P picks
theorem MI.step {v:Int} {b:List (Int × Int)} {P:List Aw→Prop} (h:MI v b P) {x:Aw} (h0:0≤x.Column) (h1:x.Column≤1000) :
 MI (if x.Column > v then x.Column else v) (Va x.Column (if x.Level > ((Jm x.Column b).getD 0) then x.Level else ((Jm x.Column b).getD 0)) b) fun picks=>P picks∧one picks x.Column x.Level:=by
 obtain ⟨a1,a2,a3,a4⟩:=h
 have hg:∀ c,gl c (Va x.Column (if x.Level > ((Jm x.Column b).getD 0) then x.Level else ((Jm x.Column b).getD 0)) b) = if c = x.Column then (if x.Level > gl x.Column b then x.Level else gl x.Column b) else gl c b:=by
  intro c
  unfold gl
  rw [Vv]
  by_cases e:c = x.Column
  ·rw [if_pos e,if_pos e]; rfl
  ·rw [if_neg e,if_neg e]
 refine ⟨by split <;> omega,by split <;> omega,fun c hc=>?_,fun picks=>?_⟩
 ·rw [hg,if_neg (by split at hc <;> omega)]
  exact a3 c (by split at hc <;> omega)
 ·rw [← a4 picks]
  constructor
  ·intro hall
   have hx:=hall x.Column h0 (by split <;> omega)
   rw [hg,if_pos rfl] at hx
   refine ⟨fun c hc0 hc1=>?_,(Ws.1 hx).2⟩
   by_cases e:c = x.Column
   ·subst e; exact (Ws.1 hx).1
   ·have:=hall c hc0 (by split <;> omega)
    rw [hg,if_neg e] at this
    exact this
  ·rintro ⟨hall,hx⟩ c hc0 hc1
   rw [hg]
   by_cases e:c = x.Column
   ·rw [if_pos e,e]
    refine Ws.2 ⟨?_,hx⟩
    by_cases e2:x.Column≤v
    ·exact hall _ h0 e2
    ·rw [a3 _ (by omega)]; exact .inl (Int.le_refl _)
   ·rw [if_neg e]
    by_cases e2:c≤v
    ·exact hall c hc0 e2
    ·rw [a3 _ (by omega)]; exact .inl (Int.le_refl _)
theorem MI.congr {v:Int} {b:List (Int × Int)} {P Q:List Aw→Prop} (h:MI v b P) (e:∀ picks,P picks↔Q picks):MI v b Q:=⟨h.v0,h.v1,h.out,fun picks=>(h.iff picks).trans (e picks)⟩
end Go.Proofs.YtjghjdokjgcehaaGreatDoor.P
namespace Go.Proofs.YtjghjdokjgcehaaGreatDoor.P
open Go Go.Abs Go.Proofs
set_option maxRecDepth 100000
variable {s:Ae}
end Go.Proofs.YtjghjdokjgcehaaGreatDoor.P
namespace Go.Proofs.YtjghjdokjgcehaaGreatDoor.P
open Go Go.Abs Go.Proofs
set_option maxRecDepth 100000
variable {s:Ae}
end Go.Proofs.YtjghjdokjgcehaaGreatDoor.P
namespace Go.Proofs.YtjghjdokjgcehaaGreatDoor.P
open Go Go.Abs Go.Proofs
set_option maxRecDepth 100000
variable {s:Ae}
def KV (s:Ae) (x:Bn) (i:Nat) (b:Int) (j:Nat):Int × Bool:=(Hf s x j i b).getD (0,false)
def A6 (s:Ae) (x:Bn) (i:Nat) (b:Int) (l:List Nat):List Int:=l.map fun j=>(KV s x i b j).1
end Go.Proofs.YtjghjdokjgcehaaGreatDoor.P
namespace Go.Proofs.YtjghjdokjgcehaaGreatDoor.P
open Go Go.Abs Go.Proofs
set_option maxRecDepth 100000
variable {s:Ae}
end Go.Proofs.YtjghjdokjgcehaaGreatDoor.P
namespace Go.Proofs.YtjghjdokjgcehaaGreatDoor.P
open Go Go.Abs Go.Proofs
set_option maxRecDepth 100000
variable {s:Ae}
end Go.Proofs.YtjghjdokjgcehaaGreatDoor.P
namespace Go.Proofs.YtjghjdokjgcehaaGreatDoor.P
open Go Go.Abs Go.Proofs
set_option maxRecDepth 100000
variable {s:Ae}
theorem Ok.any {α:Type} {m:Option α} {P:α→Prop} (h:Ok m P):Ok m fun _=>True:=h.mono fun _ _=>trivial
def fB (s:Ae) (p:Aw):Prop:=∃ i:Nat,1≤i∧i < s.Columns.length∧p.Column = i∧0≤p.Level∧p.Level≤fin s i
structure fD (s:Ae) (q:Az):Prop where
 name:Ok (Be q.Name) fun _=>True
 filter:GC s q.Filter
 event:(q.Kind≠3∧q.Event = IU)∨GC s q.Event
 dims:q.Dims.length≤10∧∀ p∈q.Dims,fB s p
 terms:q.Terms.length≤10
theorem VI (d:Nat):HP (d + 1) IU = some true:=rfl
structure ft (s:Ae) (d:A3):Prop where
 project:Be d.Project = some true∧BO d.Project = some true
 source:Ok (Be d.Source) fun _=>True
 cohort:GC s d.Cohort
 questions:d.Questions.length≤3∧∀ q∈d.Questions,fD s q
structure PB (r:List Aw) (n:Nat):Prop where
 len:r.length≤n
 pos:∀ p∈r,0 < p.Level
theorem PB.mono {r:List Aw} {n m:Nat} (h:PB r n) (hm:n≤m):PB r m:=⟨by have:=h.len; omega,h.pos⟩
end Go.Proofs.YtjghjdokjgcehaaGreatDoor.P
namespace Go.Proofs.YtjghjdokjgcehaaGreatDoor.P
open Go Go.Abs Go.Proofs
set_option maxRecDepth 100000
variable {s:Ae}
end Go.Proofs.YtjghjdokjgcehaaGreatDoor.P
namespace Go.Proofs.YtjghjdokjgcehaaGreatDoor.P
open Go Go.Abs Go.Proofs
set_option maxRecDepth 100000
variable {s:Ae}
theorem Ze {n:Int} (h0:0≤n) (h1:n < 100):CE n = some ⟨(Go.Lib.decDigits n.toNat).toArray⟩:=by
 unfold CE
 rw [decide_eq_true ⟨h0,h1⟩]; rfl
theorem du:∀ n:Nat,n < 3→Be (({ data:=#[112] }:ByteArray)++(⟨(Go.Lib.decDigits n).toArray⟩:ByteArray)) = some true∧BO (({ data:=#[112] }:ByteArray)++(⟨(Go.Lib.decDigits n).toArray⟩:ByteArray)) = some true∧(⟨(Go.Lib.decDigits n).toArray⟩:ByteArray).size = 1:=by
 intro n hn
 rcases (by omega:n = 0∨n = 1∨n = 2) with rfl | rfl | rfl <;> exact ⟨by decide +kernel,by decide +kernel,by decide +kernel⟩
theorem eH:∀ n:Nat,1≤n→n < 4→Be (({ data:=#[113] }:ByteArray)++(⟨(Go.Lib.decDigits n).toArray⟩:ByteArray)) = some true∧(⟨(Go.Lib.decDigits n).toArray⟩:ByteArray).size = 1:=by
 intro n h1 hn
 rcases (by omega:n = 1∨n = 2∨n = 3) with rfl | rfl | rfl <;> exact ⟨by decide +kernel,by decide +kernel⟩
theorem cL:Be ({ data:=#[115,114,99] }:ByteArray) = some true:=by decide +kernel
end Go.Proofs.YtjghjdokjgcehaaGreatDoor.P
namespace Go.Proofs.YtjghjdokjgcehaaGreatDoor.P
open Go Go.Abs Go.Proofs
set_option maxRecDepth 100000
variable {s:Ae}
theorem WX:∀ (d:Nat) (c:Aj),nds d c≤d→d≤1000→Ok (Ch d c) fun r=>1≤r∧r≤nds d c∧∀ k:Nat,r≤k + 1→DP k c
 | 0,c,h,_=>by have:=OW 0 c; omega
 | d + 1,c,h,hd=>by
   have hn:nds (d + 1) c = 1 + (c.Kids.map (nds d)).sum:=rfl
   have hkl:=Te (d:=d) c.Kids c.Kids.length (Nat.le_refl _)
   rw [List.take_length] at hkl
   show Ok (CF d (Ch d) c) _
   unfold CF
   refine Ok.for (fun q=>q.2) c.Kids.length (fun k q=>0≤q.1∧q.1≤(((c.Kids.take k).map (nds d)).sum:Nat)∧∀ (j:Nat) (hj:j < c.Kids.length),j < k→1≤q.1∧∀ m:Nat,q.1≤m + 1→DP m c.Kids[j]) 0 (Nat.zero_le _) rfl ⟨Int.le_refl _,by simp,fun j _ hj=>by omega⟩ (by omega) (fun rec q hq hI=>?_) fun rec k q hk hq hI ih=>?_
   ·obtain ⟨h0,h1,h2⟩:=hI
    rw [List.take_length] at h1
    simp only [DI,hq]
    rw [BS,wr]
    refine Ok.some ⟨by omega,by omega,fun k hk=>?_⟩
    cases k with
    | zero =>
      cases e:c.Kids with
      | nil=>exact e
      | cons a r=>have:=(h2 0 (by rw [e]; simp) (by rw [e]; simp)).1; omega
    | succ m =>
      intro x hx
      obtain ⟨j,hj,rfl⟩:=List.mem_iff_getElem.1 hx
      exact (h2 j hj hj).2 m (by omega)
   ·obtain ⟨h0,h1,h2⟩:=hI
    have h3:=M4 (d:=d) hk
    have h4:=Ic (d:=d) c.Kids (k + 1)
    have h5:c.Kids.length ≥ 1:=by omega
    simp only [DI,hq]
    rw [BJ]
    refine Ok.idxn hk (Ok.bind (WX d c.Kids[k] (by omega) (by omega)) fun r hr=>ih _ Ip ?_)
    obtain ⟨r1,r2,r3⟩:=hr
    show 0≤(if r > q.1 then r else q.1)∧(if r > q.1 then r else q.1)≤_∧∀ (j:Nat) (hj:j < c.Kids.length),j < k + 1→1≤(if r > q.1 then r else q.1)∧∀ m:Nat,(if r > q.1 then r else q.1)≤m + 1→DP m c.Kids[j]
    refine ⟨by split <;> omega,by split <;> omega,fun j hj hjk=>?_⟩
    by_cases e:j = k
    ·subst e
     exact ⟨by split <;> omega,fun m hm=>r3 m (by split at hm <;> omega)⟩
    ·have:=h2 j hj (by omega)
     exact ⟨by split <;> omega,fun m hm=>this.2 m (by split at hm <;> omega)⟩
inductive C1 (s:Ae):Aj→Prop
 | all:C1 s WH
 | under (i:Nat) (hi0:1≤i) (hi:i < s.Columns.length) (h:Kj s.Columns[i]) (L:Ay) (hL:L∈Z1) (hL2:idx s.Lists s.Columns[i].List_ = some L) (k:Int) (h0:0≤k) (h1:k < L.Codes.length):C1 s { Op:=2,Column:=i,Code:=k,Low:=0,High:=0,Kids:=[] }
 | between (i:Nat) (hi0:1≤i) (hi:i < s.Columns.length) (h:Gp s.Columns[i]) (l u:Int) (h0:-1000000≤l) (h1:l≤u) (h2:u≤1000000):C1 s { Op:=3,Column:=i,Code:=0,Low:=l,High:=u,Kids:=[] }
 | miss (i:Nat) (hi0:1≤i) (hi:i < s.Columns.length) (h:Gp s.Columns[i]) (ho:s.Columns[i].Optional = true):C1 s { Op:=4,Column:=i,Code:=0,Low:=0,High:=0,Kids:=[] }
 | two (op:Int) (ho:op = 5∨op = 6) (a b:Aj):C1 s { Op:=op,Column:=0,Code:=0,Low:=0,High:=0,Kids:=[a,b] }
 | not (a:Aj):C1 s { Op:=7,Column:=0,Code:=0,Low:=0,High:=0,Kids:=[a] }
def V1 (s:Ae) (c:Aj) (self:Ae→Aj→Option Int):Option Int:=iter (fun rec1 s_1=>EY c self s (fun v7_1=>some 0) rec1 s_1) AO 0
theorem Y0 (s:Ae) (m k:Int):(∃ (i:Nat) (hi:i < s.Columns.length),m = i∧Fv s m k = some (s.Columns[i].Kind==k))∨((m < 0∨m ≥ s.Columns.length)∧Fv s m k = some false):=by
 by_cases h:0≤m∧m < s.Columns.length
 ·obtain ⟨i,rfl⟩:∃ i:Nat,m = i:=⟨m.toNat,by omega⟩
  exact .inl ⟨i,by omega,rfl,Xw (by omega) k⟩
 ·refine .inr ⟨by omega,?_⟩
  unfold Fv
  by_cases h0:m ≥ 0
  ·rw [decide_eq_true h0,cond_true,df]; rfl
  ·rw [decide_eq_false h0]; rfl
theorem Zf {l:List Aj} (h:((l.length:Nat):Int) = 0):l = []:=List.eq_nil_of_length_eq_zero (by omega)
theorem ew {l:List Aj} (h:((l.length:Nat):Int) = 1):∃ a,l = [a]:=by
 match l,h with
 | [a],_=>exact ⟨a,rfl⟩
theorem di {l:List Aj} (h:((l.length:Nat):Int) = 2):∃ a b,l = [a,b]:=by
 match l,h with
 | [a,b],_=>exact ⟨a,b,rfl⟩
theorem XY {x:Int} (h:x≠0):(x != 0) = true:=bne_iff_ne.2 h
theorem Z9 {x:Int} (h:x≠0):(x==0) = false:=beq_eq_false_iff_ne.2 h
theorem Y1 {l:List Aj} (h:l.length≠0):(((l.length:Nat):Int) != 0) = true:=bne_iff_ne.2 (by omega)
theorem c7 (hs:DS s) (d:Nat) (self:Ae→Aj→Option Int) (c:Aj):∃ e,AZ s c = some e∧CC d self s c = (bif e != 0 then some e else V1 s c self)∧(e = 0→C1 s c):=by
 obtain ⟨op,col,code,lo,hi,kids⟩:=c
 have form:∀ (n c' k' l' h':Int),(bif (bif (bif (bif (((kids.length:Nat):Int) != n) then true else (c' != col)) then true else (k' != code)) then true else (l' != lo)) then true else (h' != hi)) = decide ¬ (((kids.length:Nat):Int) = n∧c' = col∧k' = code∧l' = lo∧h' = hi):=by
  intro n c' k' l' h'
  by_cases e1:((kids.length:Nat):Int) = n <;> by_cases e2:c' = col <;> by_cases e3:k' = code <;> by_cases e4:l' = lo <;> by_cases e5:h' = hi <;> simp [e1,e2,e3,e4,e5]
 by_cases hop:op < 1∨op > 7
 ·refine ⟨4,?_,?_,fun h=>by cases h⟩
  ·unfold AZ
   rcases hop with h | h
   ·simp [h]
   ·simp [h]
  ·unfold CC
   have:(op==1) = false∧(op==2) = false∧(op==3) = false∧(op==4) = false∧(op==5) = false∧(op==6) = false∧(op==7) = false:=by
    refine ⟨?_,?_,?_,?_,?_,?_,?_⟩ <;> exact beq_eq_false_iff_ne.2 (by omega)
   obtain ⟨a1,a2,a3,a4,a5,a6,a7⟩:=this
   simp only [a1,a2,a3,a4,a5,a6,a7,cond_false]
   rfl
 have plainOp:∀ n:Int,(op = 1∧n = 0)∨(op = 5∧n = 2)∨(op = 6∧n = 2)∨(op = 7∧n = 1)→∃ e,AZ s ⟨op,col,code,lo,hi,kids⟩ = some e∧AE ⟨op,col,code,lo,hi,kids⟩ s self n 0 0 0 0 = (bif e != 0 then some e else V1 s ⟨op,col,code,lo,hi,kids⟩ self)∧(e = 0→((kids.length:Nat):Int) = n∧col = 0∧code = 0∧lo = 0∧hi = 0):=by
  intro n hon
  have hkids:I1 op = some n:=by rcases hon with ⟨rfl,rfl⟩ | ⟨rfl,rfl⟩ | ⟨rfl,rfl⟩ | ⟨rfl,rfl⟩ <;> rfl
  have hrange:(bif decide (op < 1) then true else decide (op > 7)) = false:=by
   rw [df,df]; rfl
  have n2:(op==2) = false:=beq_eq_false_iff_ne.2 (by omega)
  have n3:(op==3) = false:=beq_eq_false_iff_ne.2 (by omega)
  have n4:(op==4) = false:=beq_eq_false_iff_ne.2 (by omega)
  have m2:(op != 2) = true:=by rw [bne,n2]; rfl
  have m3:(op != 3) = true:=by rw [bne,n3]; rfl
  have m4:(op != 4) = true:=by rw [bne,n4]; rfl
  by_cases hok:((kids.length:Nat):Int) = n∧0 = col∧0 = code∧0 = lo∧0 = hi
  ·obtain ⟨h1,rfl,rfl,rfl,rfl⟩:=hok
   refine ⟨0,?_,?_,fun _=>⟨h1,rfl,rfl,rfl,rfl⟩⟩
   ·unfold AZ Co
    simp [hrange,hkids,h1,n2,n3,n4,m2,m3,m4]
   ·unfold AE Bs BE
    rw [form,decide_eq_false (by simp [h1])]
    simp only [n2,n3,n4,cond_false]
    rfl
  ·refine ⟨11,?_,?_,fun h=>by cases h⟩
   ·unfold AZ
    dsimp only
    rw [hrange,cond_false,hkids,Option.bind_some]
    by_cases e1:((kids.length:Nat):Int) = n
    ·have hu:Co ⟨op,col,code,lo,hi,kids⟩ = some false:=by
      unfold Co
      dsimp only
      rw [n2,n3,n4,m2]
      by_cases e2:col = 0
      ·subst e2
       by_cases e3:code = 0
       ·subst e3
        by_cases e4:lo = 0
        ·subst e4
         rw [Z9 fun e5=>hok ⟨e1,rfl,rfl,rfl,e5.symm⟩]; rfl
        ·rw [Z9 e4]; rfl
       ·rw [XY e3]; rfl
      ·rw [XY e2]; rfl
     rw [show (((kids.length:Nat):Int) != n) = false by simp [e1],cond_false,hu]
     rfl
    ·rw [show (((kids.length:Nat):Int) != n) = true by simp [e1]]
     rfl
   ·unfold AE
    rw [form,decide_eq_true hok]
    rfl
 rcases (by omega:op = 1∨op = 2∨op = 3∨op = 4∨op = 5∨op = 6∨op = 7) with rfl | rfl | rfl | rfl | rfl | rfl | rfl
 ·obtain ⟨e,h1,h2,h3⟩:=plainOp 0 (.inl ⟨rfl,rfl⟩)
  refine ⟨e,h1,h2,fun h=>?_⟩
  obtain ⟨a,rfl,rfl,rfl,rfl⟩:=h3 h
  rw [Zf a]; exact .all
 ·
  by_cases hok:((kids.length:Nat):Int) = 0∧col = col∧code = code∧0 = lo∧0 = hi
  ·obtain ⟨h1,_,_,rfl,rfl⟩:=hok
   have hk:=Zf h1
   subst hk
   have h2:∀ X:Option Int,CC d self s ⟨2,col,code,0,0,[]⟩ = X↔(Fv s col 2).bind (fun x85=>bif (!x85) then some 7 else Bs ⟨2,col,code,0,0,[]⟩ s self) = X:=by
    intro X
    show AE _ s self 0 col code 0 0 = X↔_
    unfold AE
    rw [form,decide_eq_false (by simp)]
    exact Iff.rfl
   have h3:∀ X:Option Int,AZ s ⟨2,col,code,0,0,[]⟩ = X↔(bif (bif (decide (col < 0)) then true else (decide (col ≥ ((s.Columns.length:Nat):Int)))) then some 7 else AQ s ⟨2,col,code,0,0,[]⟩) = X:=fun X=>Iff.rfl
   rcases Y0 s col 2 with ⟨i,hi,rfl,hq⟩ | ⟨hr,hq⟩
   ·have hcol:(bif (decide (((i:Nat):Int) < 0)) then true else (decide (((i:Nat):Int) ≥ ((s.Columns.length:Nat):Int)))) = false:=by rw [df,df]; rfl
    have hj1:AQ s ⟨2,i,code,0,0,[]⟩ = (bif (s.Columns[i].Kind != 2) then some 7 else bif (decide (code < 0)) then some 6 else (idx s.Lists s.Columns[i].List_).bind fun x77=>bif (decide (code ≥ ((x77.Codes.length:Nat):Int))) then some 6 else some 0):=by
     unfold AQ
     rw [CK hi]; rfl
    by_cases hkd:s.Columns[i].Kind = 2
    ·have hm:Kj s.Columns[i]∧1≤i:=by
      rcases hs.cl hi with ⟨_,g⟩ | ⟨g0,g | g⟩
      ·rw [g] at hkd; cases hkd
      ·exact ⟨g,g0⟩
      ·rw [g.kind] at hkd; cases hkd
     obtain ⟨L,hL,hL2⟩:=hs.clist hm.1
     by_cases hc0:code < 0
     ·refine ⟨6,(h3 _).2 ?_,(h2 _).2 ?_,fun h=>by cases h⟩
      ·rw [hcol,cond_false,hj1,hkd,decide_eq_true hc0]; rfl
      ·rw [hq,hkd]
       unfold Bs
       rw [decide_eq_true hc0]; rfl
     ·by_cases hc1:code ≥ ((L.Codes.length:Nat):Int)
      ·refine ⟨6,(h3 _).2 ?_,(h2 _).2 ?_,fun h=>by cases h⟩
       ·rw [hcol,cond_false,hj1,hkd,decide_eq_false hc0,hL2,Option.bind_some,decide_eq_true hc1]; rfl
       ·rw [hq,hkd]
        unfold Bs
        rw [decide_eq_false hc0,CK hi,Option.bind_some,Option.bind_some,hL2,Option.bind_some,decide_eq_true hc1]; rfl
      ·refine ⟨0,(h3 _).2 ?_,(h2 _).2 ?_,fun _=>.under i hm.2 hi hm.1 L hL hL2 code (by omega) (by omega)⟩
       ·rw [hcol,cond_false,hj1,hkd,decide_eq_false hc0,hL2,Option.bind_some,decide_eq_false hc1]; rfl
       ·rw [hq,hkd]
        unfold Bs
        rw [decide_eq_false hc0,CK hi,Option.bind_some,Option.bind_some,hL2,Option.bind_some,decide_eq_false hc1]; rfl
    ·have e1:(s.Columns[i].Kind==2) = false:=beq_eq_false_iff_ne.2 hkd
     refine ⟨7,(h3 _).2 ?_,(h2 _).2 ?_,fun h=>by cases h⟩
     ·rw [hcol,cond_false,hj1,bne,e1]; rfl
     ·rw [hq,e1]; rfl
   ·refine ⟨7,(h3 _).2 ?_,(h2 _).2 ?_,fun h=>by cases h⟩
    ·rcases hr with hr | hr
     ·rw [decide_eq_true hr]; rfl
     ·by_cases h0:col < 0
      ·rw [decide_eq_true h0]; rfl
      ·rw [decide_eq_false h0,decide_eq_true hr]; rfl
    ·rw [hq]; rfl
  ·refine ⟨11,?_,?_,fun h=>by cases h⟩
   ·unfold AZ
    by_cases e1:kids.length = 0
    ·have hk:=List.eq_nil_of_length_eq_zero e1
     subst hk
     have hu:Co ⟨2,col,code,lo,hi,[]⟩ = some false:=by
      by_cases e4:lo = 0
      ·subst e4
       show some (bif false then true else bif true then (hi==0) else false) = _
       rw [Z9 fun e5=>hok ⟨rfl,rfl,rfl,rfl,e5.symm⟩]; rfl
      ·show some (bif false then true else bif (lo==0) then (hi==0) else false) = _
       rw [Z9 e4]; rfl
     exact Ok.val (Ok.no rfl (Ok.bindE (x:=0) rfl (Ok.no rfl (Ok.bindE hu (Ok.yes rfl (Ok.some rfl))))))
    ·exact Ok.val (Ok.no rfl (Ok.bindE (x:=0) rfl (Ok.yes (Y1 e1) (Ok.some rfl))))
   ·show AE _ s self 0 col code 0 0 = _
    unfold AE
    rw [form,decide_eq_true hok]
    rfl
 ·
  by_cases hok:((kids.length:Nat):Int) = 0∧col = col∧0 = code∧lo = lo∧hi = hi
  ·obtain ⟨h1,_,rfl,_,_⟩:=hok
   have hk:=Zf h1
   subst hk
   have h2:∀ X:Option Int,CC d self s ⟨3,col,0,lo,hi,[]⟩ = X↔(Fv s col 3).bind (fun x85=>bif (!x85) then some 7 else BE ⟨3,col,0,lo,hi,[]⟩ self s) = X:=by
    intro X
    show AE _ s self 0 col 0 lo hi = X↔_
    unfold AE
    rw [form,decide_eq_false (by simp)]
    exact Iff.rfl
   have h3:∀ X:Option Int,AZ s ⟨3,col,0,lo,hi,[]⟩ = X↔(bif (bif (decide (col < 0)) then true else (decide (col ≥ ((s.Columns.length:Nat):Int)))) then some 7 else AQ s ⟨3,col,0,lo,hi,[]⟩) = X:=fun X=>Iff.rfl
   rcases Y0 s col 3 with ⟨i,hi',rfl,hq⟩ | ⟨hr,hq⟩
   ·have hcol:(bif (decide (((i:Nat):Int) < 0)) then true else (decide (((i:Nat):Int) ≥ ((s.Columns.length:Nat):Int)))) = false:=by rw [df,df]; rfl
    have hj1:AQ s ⟨3,i,0,lo,hi,[]⟩ = (bif (s.Columns[i].Kind != 3) then some 7 else bif (bif (bif (decide (lo > hi)) then true else (decide (lo < (-1000000)))) then true else (decide (hi > 1000000))) then some 2 else some 0):=by
     unfold AQ
     rw [CK hi']; rfl
    by_cases hkd:s.Columns[i].Kind = 3
    ·obtain ⟨g0,g⟩:=b4 hs hi' hkd
     by_cases hr:-1000000≤lo∧lo≤hi∧hi≤1000000
     ·refine ⟨0,(h3 _).2 ?_,(h2 _).2 ?_,fun _=>.between i g0 hi' g lo hi hr.1 hr.2.1 hr.2.2⟩
      ·rw [hcol,cond_false,hj1,hkd,decide_eq_false (by omega:¬ lo > hi),decide_eq_false (by omega:¬ lo < -1000000),decide_eq_false (by omega:¬ hi > 1000000)]; rfl
      ·rw [hq,hkd]
       unfold BE
       dsimp only
       rw [decide_eq_false (by omega:¬ lo > hi),decide_eq_false (by omega:¬ lo < -1000000),decide_eq_false (by omega:¬ hi > 1000000)]; rfl
     ·have e1:(bif (bif (decide (lo > hi)) then true else (decide (lo < (-1000000)))) then true else (decide (hi > 1000000))) = true:=by
       by_cases a1:lo > hi
       ·rw [decide_eq_true a1]; rfl
       ·by_cases a2:lo < -1000000
        ·rw [decide_eq_false a1,decide_eq_true a2]; rfl
        ·rw [decide_eq_false a1,decide_eq_false a2,dt]; rfl
      have e2:(bif (bif (decide (lo < (-1000000))) then true else (decide (hi > 1000000))) then true else (decide (lo > hi))) = true:=by
       by_cases a1:lo < -1000000
       ·rw [decide_eq_true a1]; rfl
       ·by_cases a2:hi > 1000000
        ·rw [decide_eq_false a1,decide_eq_true a2]; rfl
        ·rw [decide_eq_false a1,decide_eq_false a2,dt]; rfl
      refine ⟨2,(h3 _).2 ?_,(h2 _).2 ?_,fun h=>by cases h⟩
      ·rw [hcol,cond_false,hj1,hkd,e1]; rfl
      ·rw [hq,hkd]
       unfold BE
       dsimp only
       rw [e2]; rfl
    ·have e1:(s.Columns[i].Kind==3) = false:=beq_eq_false_iff_ne.2 hkd
     refine ⟨7,(h3 _).2 ?_,(h2 _).2 ?_,fun h=>by cases h⟩
     ·rw [hcol,cond_false,hj1,bne,e1]; rfl
     ·rw [hq,e1]; rfl
   ·refine ⟨7,(h3 _).2 ?_,(h2 _).2 ?_,fun h=>by cases h⟩
    ·rcases hr with hr | hr
     ·rw [decide_eq_true hr]; rfl
     ·by_cases h0:col < 0
      ·rw [decide_eq_true h0]; rfl
      ·rw [decide_eq_false h0,decide_eq_true hr]; rfl
    ·rw [hq]; rfl
  ·refine ⟨11,?_,?_,fun h=>by cases h⟩
   ·unfold AZ
    by_cases e1:kids.length = 0
    ·have hk:=List.eq_nil_of_length_eq_zero e1
     subst hk
     have hu:Co ⟨3,col,code,lo,hi,[]⟩ = some false:=by
      show (bif (code != 0) then some false else some true) = _
      rw [XY fun e5=>hok ⟨rfl,rfl,e5.symm,rfl,rfl⟩]; rfl
     exact Ok.val (Ok.no rfl (Ok.bindE (x:=0) rfl (Ok.no rfl (Ok.bindE hu (Ok.yes rfl (Ok.some rfl))))))
    ·exact Ok.val (Ok.no rfl (Ok.bindE (x:=0) rfl (Ok.yes (Y1 e1) (Ok.some rfl))))
   ·show AE _ s self 0 col 0 lo hi = _
    unfold AE
    rw [form,decide_eq_true hok]
    rfl
 ·
  by_cases hok:((kids.length:Nat):Int) = 0∧col = col∧0 = code∧0 = lo∧0 = hi
  ·obtain ⟨h1,_,rfl,rfl,rfl⟩:=hok
   have hk:=Zf h1
   subst hk
   have h2:∀ X:Option Int,CC d self s ⟨4,col,0,0,0,[]⟩ = X↔(Fv s col 3).bind (fun x85=>bif (!x85) then some 7 else (idx s.Columns col).bind fun x115=>bif (!x115.Optional) then some 7 else V1 s ⟨4,col,0,0,0,[]⟩ self) = X:=by
    intro X
    show AE _ s self 0 col 0 0 0 = X↔_
    unfold AE
    rw [form,decide_eq_false (by simp)]
    exact Iff.rfl
   have h3:∀ X:Option Int,AZ s ⟨4,col,0,0,0,[]⟩ = X↔(bif (bif (decide (col < 0)) then true else (decide (col ≥ ((s.Columns.length:Nat):Int)))) then some 7 else AQ s ⟨4,col,0,0,0,[]⟩) = X:=fun X=>Iff.rfl
   rcases Y0 s col 3 with ⟨i,hi',rfl,hq⟩ | ⟨hr,hq⟩
   ·have hcol:(bif (decide (((i:Nat):Int) < 0)) then true else (decide (((i:Nat):Int) ≥ ((s.Columns.length:Nat):Int)))) = false:=by rw [df,df]; rfl
    have hj1:AQ s ⟨4,i,0,0,0,[]⟩ = (bif (bif (s.Columns[i].Kind != 3) then true else (!s.Columns[i].Optional)) then some 7 else some 0):=by
     unfold AQ
     rw [CK hi']; rfl
    by_cases hkd:s.Columns[i].Kind = 3
    ·obtain ⟨g0,g⟩:=b4 hs hi' hkd
     cases ho:s.Columns[i].Optional with
     | true =>
       refine ⟨0,(h3 _).2 ?_,(h2 _).2 ?_,fun _=>.miss i g0 hi' g ho⟩
       ·rw [hcol,cond_false,hj1,hkd,ho]; rfl
       ·rw [hq,hkd,CK hi',Option.bind_some,Option.bind_some,ho]; rfl
     | false =>
       refine ⟨7,(h3 _).2 ?_,(h2 _).2 ?_,fun h=>by cases h⟩
       ·rw [hcol,cond_false,hj1,hkd,ho]; rfl
       ·rw [hq,hkd,CK hi',Option.bind_some,Option.bind_some,ho]; rfl
    ·have e1:(s.Columns[i].Kind==3) = false:=beq_eq_false_iff_ne.2 hkd
     refine ⟨7,(h3 _).2 ?_,(h2 _).2 ?_,fun h=>by cases h⟩
     ·rw [hcol,cond_false,hj1,bne,e1]; rfl
     ·rw [hq,e1]; rfl
   ·refine ⟨7,(h3 _).2 ?_,(h2 _).2 ?_,fun h=>by cases h⟩
    ·rcases hr with hr | hr
     ·rw [decide_eq_true hr]; rfl
     ·by_cases h0:col < 0
      ·rw [decide_eq_true h0]; rfl
      ·rw [decide_eq_false h0,decide_eq_true hr]; rfl
    ·rw [hq]; rfl
  ·refine ⟨11,?_,?_,fun h=>by cases h⟩
   ·unfold AZ
    by_cases e1:kids.length = 0
    ·have hk:=List.eq_nil_of_length_eq_zero e1
     subst hk
     have hu:Co ⟨4,col,code,lo,hi,[]⟩ = some false:=by
      show (bif (code != 0) then some false else some (bif false then true else bif (lo==0) then (hi==0) else false)) = _
      by_cases e3:code = 0
      ·subst e3
       by_cases e4:lo = 0
       ·subst e4
        rw [Z9 fun e5=>hok ⟨rfl,rfl,rfl,rfl,e5.symm⟩]; rfl
       ·rw [Z9 e4]; rfl
      ·rw [XY e3]; rfl
     exact Ok.val (Ok.no rfl (Ok.bindE (x:=0) rfl (Ok.no rfl (Ok.bindE hu (Ok.yes rfl (Ok.some rfl))))))
    ·exact Ok.val (Ok.no rfl (Ok.bindE (x:=0) rfl (Ok.yes (Y1 e1) (Ok.some rfl))))
   ·show AE _ s self 0 col 0 0 0 = _
    unfold AE
    rw [form,decide_eq_true hok]
    rfl
 ·obtain ⟨e,h1,h2,h3⟩:=plainOp 2 (.inr (.inl ⟨rfl,rfl⟩))
  refine ⟨e,h1,h2,fun h=>?_⟩
  obtain ⟨a,rfl,rfl,rfl,rfl⟩:=h3 h
  obtain ⟨x,y,rfl⟩:=di a
  exact .two 5 (.inl rfl) x y
 ·obtain ⟨e,h1,h2,h3⟩:=plainOp 2 (.inr (.inr (.inl ⟨rfl,rfl⟩)))
  refine ⟨e,h1,h2,fun h=>?_⟩
  obtain ⟨a,rfl,rfl,rfl,rfl⟩:=h3 h
  obtain ⟨x,y,rfl⟩:=di a
  exact .two 6 (.inr rfl) x y
 ·obtain ⟨e,h1,h2,h3⟩:=plainOp 1 (.inr (.inr (.inr ⟨rfl,rfl⟩)))
  refine ⟨e,h1,h2,fun h=>?_⟩
  obtain ⟨a,rfl,rfl,rfl,rfl⟩:=h3 h
  obtain ⟨x,rfl⟩:=ew a
  exact .not x
theorem ab {c:Aj} {f g:Ae→Aj→Option Int} (hl:c.Kids.length≤1000) (h:∀ k∈c.Kids,∃ e,f s k = some e∧g s k = some e) :
 ∃ e,iter (fun rec1 s_1=>Br c f s (fun v18_1=>some 0) rec1 s_1) AO 0 = some e∧V1 s c g = some e∧(e = 0→∀ k∈c.Kids,f s k = some 0):=by
 have eq:iter (fun rec1 s_1=>Br c f s (fun v18_1=>some 0) rec1 s_1) AO 0 = V1 s c g:=by
  unfold V1
  refine Nc (fun v:Int=>0≤v) (fun r1 r2 v hv hr=>?_) AO 0 (Int.le_refl _)
  unfold Br EY
  by_cases hlt:v < ((c.Kids.length:Nat):Int)
  ·rw [decide_eq_true hlt,cond_true,cond_true]
   obtain ⟨k,rfl⟩:∃ k:Nat,v = k:=⟨v.toNat,by omega⟩
   have hk:k < c.Kids.length:=by omega
   rw [CK hk,Option.bind_some,Option.bind_some]
   obtain ⟨e,h1,h2⟩:=h _ (List.getElem_mem hk)
   rw [h1,h2,Option.bind_some,Option.bind_some]
   by_cases he:e = 0
   ·subst he
    show r1 _ = r2 _
    exact hr _ (by rw [Ip]; omega)
   ·rw [XY he]; rfl
  ·rw [decide_eq_false hlt]; rfl
 have run:Ok (iter (fun rec1 s_1=>Br c f s (fun v18_1=>some 0) rec1 s_1) AO 0) fun e=>e = 0→∀ k∈c.Kids,f s k = some 0:=by
  refine Ok.for (fun q=>q) c.Kids.length (fun k _=>∀ (j:Nat) (hj:j < c.Kids.length),j < k→f s c.Kids[j] = some 0) 0 (Nat.zero_le _) rfl (fun j _ hj=>by omega) (by omega) (fun rec q hq hI=>?_) fun rec k q hk hq hI ih=>?_
  ·simp only [Br,hq]
   rw [BS]
   refine Ok.some fun _ x hx=>?_
   obtain ⟨j,hj,rfl⟩:=List.mem_iff_getElem.1 hx
   exact hI j hj hj
  ·simp only [Br,hq]
   rw [BJ]
   obtain ⟨e,h1,_⟩:=h _ (List.getElem_mem hk)
   refine Ok.idxn hk (Ok.bindE h1 (Ok.br (fun he=>Ok.some fun h0=>?_) fun he=>ih _ Ip fun j hj hjk=>?_))
   ·subst h0; cases he
   ·have he:e = 0:=by simpa using he
    subst he
    by_cases e2:j = k
    ·subst e2; exact h1
    ·exact hI j hj (by omega)
 obtain ⟨e,h1,h2⟩:=run
 exact ⟨e,h1,eq ▸ h1,h2⟩
theorem VN (hs:DS s):∀ (d:Nat) (c:Aj),nds d c≤d→d≤1000→∃ e,BC d s c = some e∧Ds d s c = some e∧(e = 0→RC s (nds d c - 1) c)
 | 0,c,h,_=>by have:=OW 0 c; omega
 | d + 1,c,h,hd=>by
   have hn:nds (d + 1) c = 1 + (c.Kids.map (nds d)).sum:=rfl
   have hkl:=Te (d:=d) c.Kids c.Kids.length (Nat.le_refl _)
   rw [List.take_length] at hkl
   have hkid:∀ k∈c.Kids,nds d k≤d:=by
    intro x hx
    obtain ⟨j,hj,rfl⟩:=List.mem_iff_getElem.1 hx
    have h3:=M4 (d:=d) hj
    have h4:=Ic (d:=d) c.Kids (j + 1)
    omega
   obtain ⟨e1,h1,h2,h3⟩:=c7 hs d (Ds d) c
   by_cases he:e1 = 0
   ·subst he
    obtain ⟨e,g1,g2,g3⟩:=ab (s:=s) (c:=c) (f:=BC d) (g:=Ds d) (by omega) fun k hk=>by
     obtain ⟨e,a,b,_⟩:=VN hs d k (hkid k hk) (by omega)
     exact ⟨e,a,b⟩
    refine ⟨e,?_,?_,fun h0=>?_⟩
    ·show BA d (BC d) s c = _
     unfold BA
     exact Ok.val (Ok.bindE h1 (Ok.no rfl (Ok.eq g1)))
    ·show CC d (Ds d) s c = _
     rw [h2,← g2]; rfl
    ·have kid:∀ k∈c.Kids,RC s (nds d k - 1) k:=by
      intro k hk
      obtain ⟨e',a,_,b⟩:=VN hs d k (hkid k hk) (by omega)
      have:=g3 h0 k hk
      rw [a] at this
      exact b (Option.some.inj this)
     have pos:∀ k:Aj,1≤nds d k:=OW d
     cases h3 rfl with
     | all=>exact .all _
     | under i hi0 hi hC L hL hL2 k b0 b1=>exact .under _ i hi0 hi hC L hL hL2 k b0 b1
     | between i hi0 hi hC l u b0 b1 b2=>exact .between _ i hi0 hi hC l u b0 b1 b2
     | miss i hi0 hi hC ho=>exact .miss _ i hi0 hi hC ho
     | two op ho a b =>
       have ha:=kid a (by simp)
       have hb:=kid b (by simp)
       have p1:=pos a
       have p2:=pos b
       have e:nds (d + 1) ⟨op,0,0,0,0,[a,b]⟩ = 1 + (nds d a + nds d b):=by show 1 + ([a,b].map (nds d)).sum = _; simp
       rcases ho with rfl | rfl
       ·exact .and _ _ _ (by omega) a b ha hb
       ·exact .or _ _ _ (by omega) a b ha hb
     | not a =>
       have ha:=kid a (by simp)
       have p1:=pos a
       have e:nds (d + 1) ⟨7,0,0,0,0,[a]⟩ = 1 + nds d a:=by show 1 + ([a].map (nds d)).sum = _; simp
       exact .not _ _ (by omega) a ha
   ·refine ⟨e1,?_,?_,fun h0=>absurd h0 he⟩
    ·show BA d (BC d) s c = _
     unfold BA
     exact Ok.val (Ok.bindE h1 (Ok.yes (XY he) (Ok.some rfl)))
    ·show CC d (Ds d) s c = _
     rw [h2,XY he]; rfl
theorem GG (hs:DS s) (c:Aj) {d:Nat} (hd:42≤d) (hd2:d≤1000):∃ e,Bi d s c = some e∧BW d s c = some e∧(e = 0→GC s c):=by
 obtain ⟨h1,h2⟩:=R4 d 40 c (by omega) (by omega)
 by_cases hn:nds d c≤40
 ·obtain ⟨r,d1,d2,d3,d4⟩:=WX d c (by omega) (by omega)
  have d5:F5 d c = some r:=by rw [← PU]; exact d1
  by_cases hr:r > 10
  ·refine ⟨22,?_,?_,fun h=>by cases h⟩
   ·unfold Bi
    exact Ok.val (Ok.bindE hs.check (Ok.no rfl (Ok.bindE h1 (Ok.no df (Ok.bindE d1 (Ok.yes (decide_eq_true hr) (Ok.some rfl)))))))
   ·unfold BW
    exact Ok.val (Ok.bindE hs.rcheck (Ok.no rfl (Ok.bindE h2 (Ok.no df (Ok.bindE d5 (Ok.yes (decide_eq_true hr) (Ok.some rfl)))))))
  ·obtain ⟨e,a1,a2,a3⟩:=VN hs d c (by omega) (by omega)
   refine ⟨e,?_,?_,fun h=>⟨_,a3 h,by omega,d4 9 (by omega)⟩⟩
   ·unfold Bi
    exact Ok.val (Ok.bindE hs.check (Ok.no rfl (Ok.bindE h1 (Ok.no df (Ok.bindE d1 (Ok.no (decide_eq_false hr) (Ok.bindE a1 (Ok.some rfl))))))))
   ·unfold BW
    exact Ok.val (Ok.bindE hs.rcheck (Ok.no rfl (Ok.bindE h2 (Ok.no df (Ok.bindE d5 (Ok.no (decide_eq_false hr) (Ok.bindE a2 (Ok.some rfl))))))))
 ·refine ⟨1,?_,?_,fun h=>by cases h⟩
  ·unfold Bi
   exact Ok.val (Ok.bindE hs.check (Ok.no rfl (Ok.bindE h1 (Ok.yes dt (Ok.some rfl)))))
  ·unfold BW
   exact Ok.val (Ok.bindE hs.rcheck (Ok.no rfl (Ok.bindE h2 (Ok.yes dt (Ok.some rfl)))))
end Go.Proofs.YtjghjdokjgcehaaGreatDoor.P
namespace Go.Proofs.YtjghjdokjgcehaaGreatDoor.P
open Go Go.Abs Go.Proofs
set_option maxRecDepth 100000
variable {s:Ae}
def vE (m:Int) (ev c:Aj):Av:={ Op:=12,Num:=0,Name:=ByteArray.empty,Column:=m,Columns:=[],Dims:=[],Cond:=c,Event:=ev,Kids:=[] }
def VR (s:Ae) (m:Int):Prop:=∃ (i:Nat) (hi:i < s.Columns.length),1≤i∧m = (i:Int)∧Gp s.Columns[i]∧0≤s.Columns[i].Low
theorem YC (d:Nat) (m:Int) (ev c:Aj):GQ (d + 1) (vE m ev c) = some true:=by
 refine Ok.val ?_
 unfold GQ
 repeat refine Ok.no rfl ?_
 refine Ok.yes rfl ?_
 unfold Bz
 refine Ok.yes ?_ (Ok.yes rfl (Ok.yes rfl (Ok.some rfl)))
 show (bif (bif (bif (bif (0==0) then (ByteArray.empty.toList==ByteArray.empty.toList) else false) then (m==m) else false) then true else false) then true else false) = true
 rw [beq_self_eq_true,beq_self_eq_true,beq_self_eq_true]
 rfl
theorem GC.fuel {c:Aj} (h:GC s c) {d d':Nat} (hd:40≤d) (hd':40≤d'):db d c = db d' c:=by
 obtain ⟨n,h1,h2⟩:=h
 exact WJ n d d' h1 (by omega) (by omega)
end Go.Proofs.YtjghjdokjgcehaaGreatDoor.P
set_option linter.unusedVariables false
set_option linter.unusedSimpArgs false
namespace Go.Proofs.YtjghjdokjgcehaaGreatDoor.P
open Go Go.Abs Go.Proofs
set_option maxRecDepth 100000
variable {s:Ae}
theorem Ok.and {α:Type} {m:Option α} {P Q:α→Prop} (h1:Ok m P) (h2:Ok m Q):Ok m fun x=>P x∧Q x:=by
 obtain ⟨x,h1,h3⟩:=h1
 obtain ⟨y,h2,h4⟩:=h2
 rw [h1] at h2
 obtain rfl:=Option.some.inj h2
 exact ⟨x,h1,h3,h4⟩
theorem WU (hs:DS s) (k:Int):Ok (Ce s k) fun l=>l.Pairwise (· < ·):=by
 have hc:=hs.cols_length
 unfold Ce
 refine Ok.for (fun q=>q.1) s.Columns.length (fun n q=>q.2.Pairwise (· < ·)∧(∀ v∈q.2,v < (n:Int))∧q.2.length≤n) 0 (Nat.zero_le _) rfl ⟨List.Pairwise.nil,(fun v hv=>by cases hv),Nat.le_refl _⟩ (by omega) (fun rec q hq hI=>?_) fun rec n q hn hq hI ih=>?_
 ·simp only [Da,hq]
  rw [BS]
  exact Ok.some hI.1
 ·obtain ⟨h1,h2,h3⟩:=hI
  simp only [Da,hq]
  rw [BJ]
  refine Ok.idxn hn (Ok.br (fun e=>Ok.rm (by simp; omega) (ih _ Ip ⟨?_,fun v hv=>?_,by simp; omega⟩)) fun e=>ih _ Ip ⟨h1,fun v hv=>?_,by show q.2.length≤n + 1; omega⟩)
  ·exact List.pairwise_append.2 ⟨h1,List.pairwise_singleton _ _,fun a ha b hb=>by rw [List.mem_singleton] at hb; subst hb; exact h2 a ha⟩
  ·rcases List.mem_append.1 hv with hv | hv
   ·have:=h2 v hv; omega
   ·rw [List.mem_singleton] at hv; omega
  ·have:=h2 v hv; omega
theorem aP {l:List Int} (h:l.Pairwise (· < ·)) {a:Int} (hb:∀ v∈l,a≤v):∀ (i:Nat) (hi:i < l.length),a + (i:Int)≤l[i]
 | 0,hi=>by have:=hb _ (List.getElem_mem hi); omega
 | i + 1,hi=>by
   have h1:=aP h hb i (by omega)
   have h2:l[i] < l[i + 1]:=List.pairwise_iff_getElem.1 h i (i + 1) (by omega) hi (by omega)
   omega
theorem YR {l:List Int} (h:l.Pairwise (· < ·)) {a:Int} {n:Nat} (hb:∀ v∈l,a≤v∧v < a + n):l.length≤n:=by
 by_cases e:l.length = 0
 ·omega
 ·have h1:=aP h (fun v hv=>(hb v hv).1) (l.length - 1) (by omega)
  have h2:=(hb _ (List.getElem_mem (by omega:l.length - 1 < l.length))).2
  omega
theorem dA:∀ j:Bool,∀ i:Fin (Ez j).length,(Ez j)[i].Kind≠3∧((Ez j)[i].Kind = 2→1≤i.val):=by decide
theorem ez (j:Bool) {i:Nat} (hn:i < (Ez j).length):(Ez j)[i].Kind≠3∧((Ez j)[i].Kind = 2→1≤i):=dA j ⟨i,hn⟩
theorem DS.from_ (hs:DS s):∃ n:Nat,2≤n∧n≤3∧s.Columns.length≤n + 3∧∀ (i:Nat) (hi:i < s.Columns.length),(Gp s.Columns[i]→n≤i)∧(Kj s.Columns[i]→1≤i∧i < n):=by
 obtain ⟨j,ms,e,h1,h2,h3⟩:=hs.cols
 have hc:=Kp j
 refine ⟨(Ez j).length,hc.1,hc.2,by rw [e,List.length_append]; omega,fun i hi=>?_⟩
 have hlen:s.Columns.length = (Ez j).length + ms.length:=by rw [e,List.length_append]
 by_cases hn:i < (Ez j).length
 ·have e2:s.Columns[i]? = (Ez j)[i]?:=by rw [e,List.getElem?_append_left hn]
  rw [List.getElem?_eq_getElem hi,List.getElem?_eq_getElem hn] at e2
  rw [Option.some.inj e2]
  have hk:=ez j hn
  exact ⟨fun h=>absurd h.kind hk.1,fun h=>⟨hk.2 h.kind,hn⟩⟩
 ·have e2:s.Columns[i]? = ms[i - (Ez j).length]?:=by rw [e,List.getElem?_append_right (by omega)]
  rw [List.getElem?_eq_getElem hi,List.getElem?_eq_getElem (by omega:i - (Ez j).length < ms.length)] at e2
  rw [Option.some.inj e2]
  have hm:=(h3 (i - (Ez j).length) (by omega)).1
  exact ⟨fun _=>by omega,fun h=>by have:=h.kind; rw [hm.kind] at this; cases this⟩
def IM (s:Ae) (v:Int):Prop:=∃ i:Nat,v = i∧1≤i∧∃ hi:i < s.Columns.length,Gp s.Columns[i]
def IC (s:Ae) (v:Int):Prop:=∃ i:Nat,v = i∧1≤i∧∃ hi:i < s.Columns.length,Kj s.Columns[i]
theorem Wq (hs:DS s):Ok (Ce s 3) fun l=>l≠[]∧l.length≤3∧l.Pairwise (· < ·)∧∀ v∈l,IM s v:=by
 obtain ⟨n,h1,h2,h3,h4⟩:=hs.from_
 refine ((Ty hs).and (WU hs 3)).mono fun l hl=>⟨hl.1.1,YR hl.2 (a:=n) fun v hv=>?_,hl.2,hl.1.2.2⟩
 obtain ⟨i,rfl,_,hi,hm⟩:=hl.1.2.2 v hv
 have:=(h4 i hi).1 hm
 omega
theorem ZB (hs:DS s):Ok (Ce s 2) fun l=>l≠[]∧l.length≤3∧l.Pairwise (· < ·)∧∀ v∈l,IC s v:=by
 obtain ⟨n,h1,h2,h3,h4⟩:=hs.from_
 refine ((Tx hs).and (WU hs 2)).mono fun l hl=>⟨hl.1.1,YR hl.2 (a:=1) fun v hv=>?_,hl.2,hl.1.2.2⟩
 obtain ⟨i,rfl,_,hi,hm⟩:=hl.1.2.2 v hv
 have:=(h4 i hi).2 hm
 omega
def DK (s:Ae) (p:Aw):Prop:=IC s p.Column∧0≤p.Level∧∀ i:Nat,p.Column = i→p.Level≤fin s i
structure Vd (s:Ae) (l:List Aw):Prop where
 pos:1≤l.length
 len:l.length≤3
 all:∀ p∈l,DK s p
 asc:(l.map (·.Column)).Pairwise (· < ·)
theorem T2 (hs:DS s) {c:Ag} (hc:Jy c) {v:Int} (hv:IC s v) {b:List Aw} (hk:b.length≤10) {ρ:Type} {Q:ρ→Prop} {f:Ag→List Aw→Option ρ}
 (h:∀ c p,Jy c→p.Column = v→DK s p→Ok (f c (b++[p])) Q) :
 Ok ((EQ s v).bind fun x34=>(AH c (IntKind.i64.wrap (x34 + 1))).bind fun x36=>bif P.rm b.length [({ Column:=v,Level:=x36.1 }:Aw)].length then f x36.2 (b++[({ Column:=v,Level:=x36.1 }:Aw)]) else none) Q:=by
 obtain ⟨i,rfl,h1,h2,h3⟩:=hv
 have hf:=hs.fin_ok h1 h2
 refine Ok.bindE (hs.rfinest h1 h2) ?_
 have e:IntKind.i64.wrap (fin s i + 1) = fin s i + 1:=wr
 rw [e]
 refine Ok.bind (Fi hc (by omega) (by omega)) fun z hz=>Ok.rm (by simp; omega) (h _ _ hz.1 rfl ⟨⟨i,rfl,h1,h2,h3⟩,hz.2.1,fun j hj=>?_⟩)
 have hj:(i:Int) = (j:Int):=hj
 obtain rfl:i = j:=by omega
 show z.1≤fin s i
 omega
theorem Yf {c:Ag} (hc:Jy c) (hs:DS s):Ok (CB c s) fun r=>Jy r.2∧Vd s r.1:=by
 unfold CB
 refine Ok.bind (ZB hs) fun l hl=>Ok.bind (Qg hc (by omega) (by omega)) fun y hy=>?_
 obtain ⟨hne,hl,ha,hm⟩:=hl
 have hpos:=List.length_pos_iff.2 hne
 have fin:∀ {m:List Int} {b:List Aw},b.map (·.Column) = m→1≤m.length→m.length≤3→m.Pairwise (· < ·)→(∀ p∈b,DK s p)→Vd s b:=by
  intro m b e h1 h2 h3 h4
  subst e
  rw [List.length_map] at h1 h2
  exact ⟨h1,h2,h4,h3⟩
 have add:∀ {m:List Int} {b:List Aw} {k:Nat} (hk:k < m.length) {p:Aw},b.map (·.Column) = m.take k→p.Column = m[k]→(b++[p]).map (·.Column) = m.take (k + 1):=by
  intro m b k hk p h1 h2
  rw [List.map_append,h1,List.take_succ_eq_append_getElem hk]
  simp [h2]
 refine Ok.br (fun _=>Ok.bind (Fi hy (by omega) (by omega)) fun z hz=>Ok.gdd (by omega) ?_) fun _=>?_
 ·have hcl:1≤(Im l z.1 ((l.length:Nat):Int)).length∧(Im l z.1 ((l.length:Nat):Int)).length≤3:=by unfold Im; rw [List.length_take,List.length_drop]; omega
  have hca:(Im l z.1 ((l.length:Nat):Int)).Pairwise (· < ·):=ha.sublist ((List.take_sublist _ _).trans (List.drop_sublist _ _))
  have hcm:∀ v∈Im l z.1 ((l.length:Nat):Int),IC s v:=fun v hv=>hm v (List.mem_of_mem_drop (List.mem_of_mem_take hv))
  obtain ⟨m,em⟩:∃ m,Im l z.1 ((l.length:Nat):Int) = m:=⟨_,rfl⟩
  rw [em] at hcl hca hcm
  refine Ok.for (fun q=>q.1) m.length (fun k q=>Jy q.2.1∧q.2.2.map (·.Column) = m.take k∧∀ p∈q.2.2,DK s p) 0 (Nat.zero_le _) rfl ⟨hz.1,rfl,fun p hp=>by cases hp⟩ (by omega) (fun rec q hq hI=>?_) fun rec k q hk hq hI ih=>?_
  ·simp only [FD,hq,em]
   rw [BS]
   exact Ok.some ⟨hI.1,fin (hI.2.1.trans (List.take_length ..)) hcl.1 hcl.2 hca hI.2.2⟩
  ·have hlen:q.2.2.length≤10:=by have:=congrArg List.length hI.2.1; rw [List.length_map,List.length_take] at this; omega
   simp only [FD,hq,em]
   rw [BJ]
   refine Ok.idxn hk (Ok.idxn hk (T2 hs hI.1 (hcm _ (List.getElem_mem hk)) hlen (f:=fun c b=>rec (IntKind.i64.wrap ((k:Int) + 1),c,b)) fun c p hc hp hd=>ih (IntKind.i64.wrap ((k:Int) + 1),c,_) Ip ⟨hc,add hk hI.2.1 hp,fun p' hp'=>?_⟩))
   rcases List.mem_append.1 hp' with hp' | hp'
   ·exact hI.2.2 p' hp'
   ·rw [List.mem_singleton] at hp'; subst hp'; exact hd
 ·refine Ok.for (fun q=>q.1) l.length (fun k q=>Jy q.2.1∧q.2.2.map (·.Column) = l.take k∧∀ p∈q.2.2,DK s p) 0 (Nat.zero_le _) rfl ⟨hy,rfl,fun p hp=>by cases hp⟩ (by omega) (fun rec q hq hI=>?_) fun rec k q hk hq hI ih=>?_
  ·simp only [FE,hq]
   rw [BS]
   exact Ok.some ⟨hI.1,fin (hI.2.1.trans (List.take_length ..)) (by omega) (by omega) ha hI.2.2⟩
  ·have hlen:q.2.2.length≤10:=by have:=congrArg List.length hI.2.1; rw [List.length_map,List.length_take] at this; omega
   simp only [FE,hq]
   rw [BJ]
   refine Ok.idxn hk (Ok.idxn hk (T2 hs hI.1 (hm _ (List.getElem_mem hk)) hlen (f:=fun c b=>rec (IntKind.i64.wrap ((k:Int) + 1),c,b)) fun c p hc hp hd=>ih (IntKind.i64.wrap ((k:Int) + 1),c,_) Ip ⟨hc,add hk hI.2.1 hp,fun p' hp'=>?_⟩))
   rcases List.mem_append.1 hp' with hp' | hp'
   ·exact hI.2.2 p' hp'
   ·rw [List.mem_singleton] at hp'; subst hp'; exact hd
structure Tp (s:Ae) (m:Int) (l:List Int):Prop where
 pos:1≤l.length
 len:l.length≤3
 all:∀ v∈l,IM s v∧v≠m
 asc:l.Pairwise (· < ·)
theorem XK {c:Ag} (hc:Jy c) (hs:DS s) (m:Int):Ok (Fs c s m) fun r=>Jy r.2∧(1≤r.1.length→Tp s m r.1):=by
 unfold Fs
 refine Ok.bind (Wq hs) fun l hl=>?_
 obtain ⟨_,hl,ha,hm⟩:=hl
 refine Ok.for (fun q=>q.1) l.length (fun k q=>Jy q.2.1∧List.Sublist q.2.2 (l.take k)∧∀ v∈q.2.2,v≠m) 0 (Nat.zero_le _) rfl ⟨hc,List.nil_sublist _,fun v hv=>by cases hv⟩ (by omega) (fun rec q hq hI=>?_) fun rec k q hk hq hI ih=>?_
 ·simp only [Ff,hq]
  rw [BS]
  obtain ⟨h1,h2,h3⟩:=hI
  rw [List.take_length] at h2
  exact Ok.some ⟨h1,fun hp=>⟨hp,Nat.le_trans h2.length_le hl,fun v hv=>⟨hm v (h2.subset hv),h3 v hv⟩,ha.sublist h2⟩⟩
 ·obtain ⟨h1,h2,h3⟩:=hI
  have hlen:=h2.length_le
  rw [List.length_take] at hlen
  have hlen2:q.2.2.length≤3:=by omega
  have hskip:List.Sublist q.2.2 (l.take (k + 1)):=by
   rw [List.take_succ_eq_append_getElem hk]; exact h2.trans (List.sublist_append_left _ _)
  have hadd:List.Sublist (q.2.2++[l[k]]) (l.take (k + 1)):=by
   rw [List.take_succ_eq_append_getElem hk]; exact h2.append (List.Sublist.refl _)
  have hne:∀ e:(l[k] != m) = true,∀ v∈q.2.2++[l[k]],v≠m:=by
   intro e v hv
   rcases List.mem_append.1 hv with hv | hv
   ·exact h3 v hv
   ·rw [List.mem_singleton] at hv; rw [hv]; exact bne_iff_ne.1 e
  simp only [Ff,hq]
  rw [BJ]
  refine Ok.idxn hk (Ok.br (fun e=>Ok.br (fun _=>Ok.idxn hk (Ok.rm (by simp; omega) (ih _ Ip ⟨h1,hadd,hne e⟩))) fun _=>Ok.bind (Qg h1 (by omega) (by omega)) fun z hz=>Ok.br (fun _=>Ok.idxn hk (Ok.rm (by simp; omega) (ih _ Ip ⟨hz,hadd,hne e⟩))) fun _=>ih _ Ip ⟨hz,hskip,h3⟩) fun _=>ih _ Ip ⟨h1,hskip,h3⟩)
structure QR (s:Ae) (q:Az):Prop where
 filter:GC s q.Filter
 parts:(q.Kind = 1∧Vd s q.Dims∧(q.Measure = -1∨IM s q.Measure)∧q.Terms = []∧q.Event = IU)∨(q.Kind = 2∧q.Dims = []∧IM s q.Measure∧Tp s q.Measure q.Terms∧q.Event = IU)∨(q.Kind = 3∧q.Dims = []∧q.Terms = []∧VR s q.Measure∧GC s q.Event)
theorem Uh {c:Ag} (hc:Jy c) (hs:DS s) (nm:ByteArray):Ok (CW DD c s nm) fun r=>Jy r.2∧r.1.Name = nm∧QR s r.1:=by
 unfold CW
 refine Ok.bind (Fi hc (by omega) (by omega)) fun x hx=>?_
 obtain ⟨n,hn2⟩:∃ n:Nat,x.1 = n:=⟨x.1.toNat,by omega⟩
 rw [hn2]
 refine Ok.bind (Tc hs n DD hx.1 (by show n < 60; omega) (by omega)) fun f hf=>Ok.bind (Og hf.1 hs) fun m hm=>Ok.bind (Fi hm.1 (by omega) (by omega)) fun y hy=>?_
 have hF:GC s f.1:=GC.drawn hf.2 (by omega)
 have table:∀ {c:Ag},Jy c→∀ ms:Int,(ms = -1∨IM s ms)→Ok ((CB c s).bind fun x60=>some (({ Name:=nm,Kind:=1,Filter:=f.1,Dims:=x60.1,Measure:=ms,Terms:=[],Event:=({ Op:=0,Column:=0,Code:=0,Low:=0,High:=0,Kids:=[] }:Aj) }:Az),x60.2)) fun r=>Jy r.2∧r.1.Name = nm∧QR s r.1:=fun hc ms hms =>
  Ok.bind (Yf hc hs) fun d hd=>Ok.some ⟨hd.1,rfl,hF,.inl ⟨rfl,hd.2,hms,rfl,rfl⟩⟩
 refine Ok.br (fun _=>table hy.1 _ (.inr hm.2)) fun _=>Ok.br (fun _=>Ok.bind (XK hy.1 hs _) fun t ht=>Ok.brd (fun hp=>Ok.some ⟨ht.1,rfl,hF,.inr (.inl ⟨rfl,rfl,hm.2,ht.2 (by omega),rfl⟩)⟩) fun _=>table ht.1 _ (.inl rfl)) fun _=>Ok.br (fun _=>?_) fun _=>table hy.1 _ (.inl rfl)
 obtain ⟨i,e,hi0,hi,hM⟩:=hm.2
 rw [e]
 exact Ok.idxn hi (Ok.brd (fun hl=>Ok.bind (Tc hs 1 DD hy.1 (by decide) (by omega)) fun v hv=>Ok.some ⟨hv.1,rfl,hF,.inr (.inr ⟨rfl,rfl,rfl,⟨i,hi,hi0,rfl,hM,by omega⟩,GC.drawn hv.2 (by omega)⟩)⟩) fun _=>table hy.1 _ (.inl rfl))
def qn (n:Nat):ByteArray:=({ data:=#[113] }:ByteArray)++(⟨(Go.Lib.decDigits n).toArray⟩:ByteArray)
theorem eG {a b:Nat} (h1:1≤a) (h2:a < 4) (h3:1≤b) (h4:b < 4) (h:a≠b):(qn a).toList≠(qn b).toList:=by
 rcases (by omega:a = 1∨a = 2∨a = 3) with rfl | rfl | rfl <;> rcases (by omega:b = 1∨b = 2∨b = 3) with rfl | rfl | rfl <;> first | exact absurd rfl h | decide +kernel
structure QS (s:Ae) (l:List Az):Prop where
 pos:1≤l.length
 len:l.length≤3
 all:∀ q∈l,QR s q∧Be q.Name = some true
 ne:l.Pairwise fun a b=>a.Name.toList≠b.Name.toList
structure DR (s:Ae) (d:A3):Prop where
 project:Be d.Project = some true
 source:Be d.Source = some true
 cohort:GC s d.Cohort
 sample:1≤d.Sample.Of∧d.Sample.Of≤1000∧1≤d.Sample.Part∧d.Sample.Part≤d.Sample.Of∧0≤d.Sample.Seed∧d.Sample.Seed≤1000
 questions:QS s d.Questions
theorem Vm (hs:DS s) {u:Int × Ag} (h0:1≤u.1) (h1:u.1≤3) (hu:Jy u.2) {K:Int→Ag→List Az→Option (A3 × Ag)} {Q:A3 × Ag→Prop} (hK:∀ v c b,Jy c→QS s b→Ok (K v c b) Q):Ok (iter (fun rec1 st=>Di DD s K rec1 st.1 st.2.1 st.2.2) AO (u.1,u.2,[])) Q:=by
 refine Ok.loop (fun q=>0≤q.1∧Jy q.2.1∧(q.2.2.length:Int) + q.1 = u.1∧(∀ x∈q.2.2,QR s x∧Be x.Name = some true∧∃ k:Nat,q.1 < k∧k < 4∧x.Name = qn k)∧q.2.2.Pairwise fun a b=>a.Name.toList≠b.Name.toList) (fun q=>q.1.toNat) ⟨by show 0≤u.1; omega,hu,by show ((0:Nat):Int) + u.1 = u.1; omega,(fun x hx=>by cases hx),List.Pairwise.nil⟩ (by unfold AO; show u.1.toNat < _; omega) fun rec q hI ih=>?_
 obtain ⟨i0,i1,i2,i3,i4⟩:=hI
 simp only [Di]
 refine Ok.brd (fun hp=>Ok.bindE (Ze (by omega) (by omega)) ?_) fun hp=>hK _ _ _ i1 ⟨by omega,by omega,fun x hx=>⟨(i3 x hx).1,(i3 x hx).2.1⟩,i4⟩
 obtain ⟨n,hn⟩:∃ n:Nat,q.1 = n:=⟨q.1.toNat,by omega⟩
 have hQ:=eH q.1.toNat (by omega) (by omega)
 have e1:IntKind.i64.wrap (q.1 - 1) = q.1 - 1:=wr
 refine Ok.gdd (by rw [hQ.2]; decide) (Ok.bind (Uh i1 hs _) fun w hw=>Ok.rm (by simp; omega) (ih _ ⟨?_,hw.1,?_,fun x hx=>?_,?_⟩ ?_))
 ·show 0≤IntKind.i64.wrap (q.1 - 1); omega
 ·show (((q.2.2++[w.1]).length:Nat):Int) + IntKind.i64.wrap (q.1 - 1) = u.1; rw [e1]; simp; omega
 ·show QR s x∧Be x.Name = some true∧∃ k:Nat,IntKind.i64.wrap (q.1 - 1) < k∧k < 4∧x.Name = qn k
  rcases List.mem_append.1 hx with hx | hx
  ·obtain ⟨a,b,k,h1,h2,h3⟩:=i3 x hx
   exact ⟨a,b,k,by omega,h2,h3⟩
  ·rw [List.mem_singleton] at hx; subst hx
   exact ⟨hw.2.2,by rw [hw.2.1]; exact hQ.1,q.1.toNat,by omega,by omega,hw.2.1⟩
 ·refine List.pairwise_append.2 ⟨i4,List.pairwise_singleton _ _,fun a ha b hb=>?_⟩
  rw [List.mem_singleton] at hb; subst hb
  obtain ⟨_,_,k,h1,h2,h3⟩:=i3 a ha
  rw [h3,hw.2.1]
  exact eG (by omega) h2 (by omega) (by omega) (by omega)
 ·show (IntKind.i64.wrap (q.1 - 1)).toNat < q.1.toNat; omega
theorem YX {c:Ag} (hc:Jy c) (hs:DS s) {n:Nat} (hn:n < 3) {x15:Int × Ag} (h15:0≤x15.1∧x15.1≤1000) {k:Aj} (hk:GC s k):Ok (BX DD s ⟨(Go.Lib.decDigits n).toArray⟩ x15 c k.Op k.Column k.Code k.Low k.High k.Kids) fun r=>Jy r.2∧DR s r.1:=by
 have hP:=du n hn
 have ek:Aj.mk k.Op k.Column k.Code k.Low k.High k.Kids = k:=by cases k; rfl
 have fin:∀ (co:Aj) (_:co = k) (smp:OJ) (qs:List Az),(1≤smp.Of∧smp.Of≤1000∧1≤smp.Part∧smp.Part≤smp.Of∧0≤smp.Seed∧smp.Seed≤1000)→QS s qs→DR s ({ Project:=(({ data:=#[112] }:ByteArray)++(⟨(Go.Lib.decDigits n).toArray⟩:ByteArray)),Source:=({ data:=#[115,114,99] }:ByteArray),Cohort:=co,Sample:=smp,Questions:=qs }:A3) :=
  fun co hco smp qs hl hq=>⟨hP.1,cL,by rw [hco]; exact hk,hl,hq⟩
 unfold BX
 refine Ok.bind (Qg hc (by omega) (by omega)) fun x hx=>Ok.br (fun _=>Ok.bind (Hl hx (by omega) (by omega) (by omega) (by omega)) fun y hy=>Ok.bind (Hl hy.1 (by omega) (by omega) (by omega) (by omega)) fun z hz=>Ok.bind (Hl hz.1 (by omega) (by omega) (by omega) (by omega)) fun u hu=>?_) fun _=>Ok.bind (Hl hx (by omega) (by omega) (by omega) (by omega)) fun u hu=>?_
 ·refine Vm hs hu.2.1 hu.2.2 hu.1 fun v c b hc hb=>?_
  unfold Dj
  exact Ok.some ⟨hc,fin _ ek _ _ ⟨by show 1≤y.1; omega,by show y.1≤1000; omega,by show 1≤z.1; omega,by show z.1≤y.1; omega,h15⟩ hb⟩
 ·refine Vm hs hu.2.1 hu.2.2 hu.1 fun v c b hc hb=>?_
  unfold Dk
  exact Ok.some ⟨hc,fin _ ek _ _ ⟨by show (1:Int)≤1; omega,by show (1:Int)≤1000; omega,by show (1:Int)≤1; omega,by show (1:Int)≤1; omega,h15⟩ hb⟩
theorem Q8 {c:Ag} (hc:Jy c) (hs:DS s):Ok (CP DD c s) fun r=>Jy r.2∧DR s r.1:=by
 unfold CP
 refine Ok.bind (Fi hc (by omega) (by omega)) fun x hx=>?_
 obtain ⟨n,hn⟩:∃ n:Nat,x.1 = n:=⟨x.1.toNat,by omega⟩
 rw [hn]
 have hn3:n < 3:=by omega
 refine Ok.bindE (Ze (by omega) (by omega)) (Ok.gdd ?_ (Ok.bind (Tc hs 1 DD hx.1 (by decide) (by omega)) fun k hk=>Ok.bind (Fi hk.1 (by omega) (by omega)) fun y hy=>Ok.bind (Qg hy.1 (by omega) (by omega)) fun z hz=>Ok.br (fun _=>?_) fun _=>?_))
 ·rw [Int.toNat_natCast,(du n hn3).2.2]; decide
 ·exact YX hz hs hn3 ⟨hy.2.1,by omega⟩ (k:=WH) GC.all
 ·exact YX hz hs hn3 ⟨hy.2.1,by omega⟩ (GC.drawn hk.2 (by omega))
theorem fc {i:Nat} (hi:i < s.Columns.length) (k:Int):Dm s i k = some (s.Columns[i].Kind==k):=Xw hi k
theorem IM.is3 {v:Int} (h:IM s v):Dm s v 3 = some true:=by
 obtain ⟨i,rfl,_,hi,hm⟩:=h
 rw [fc hi,hm.kind]; rfl
theorem DK.pick (hs:DS s) {p:Aw} (h:DK s p):EW s p = some 0:=by
 obtain ⟨⟨i,hi,h1,h2,h3⟩,h4,h5⟩:=h
 have h5:=h5 i hi
 refine Ok.val ?_
 unfold EW
 refine Ok.bindE hs.rcheck (Ok.no rfl (Ok.no ?_ ?_))
 ·rw [hi,df,df]; rfl
 ·rw [hi]
  refine Ok.bindE (hs.rfinest h1 h2) ?_
  rw [Vy,Option.bind_some,decide_eq_true ⟨h4,h5⟩]
  exact Ok.no rfl (Ok.some rfl)
theorem DK.is2 {p:Aw} (h:DK s p):Dm s p.Column 2 = some true:=by
 obtain ⟨⟨i,hi,h1,h2,h3⟩,_⟩:=h
 rw [hi,fc h2,h3.kind]; rfl
theorem Vd.ok (hs:DS s) {l:List Aw} (h:Vd s l):Eo s l = some 0:=by
 have hp:=h.pos
 have hl:=h.len
 refine Ok.val ?_
 unfold Eo
 refine Ok.no (by rw [df,df]; rfl) ?_
 refine Ok.for (fun q=>q) l.length (fun _ _=>True) 0 (Nat.zero_le _) rfl trivial (by omega) (fun rec q hq _=>?_) fun rec i q hi hq _ ih=>?_
 ·simp only [C3,hq]
  rw [BS]
  exact Ok.some rfl
 ·have hd:=h.all _ (List.getElem_mem hi)
  simp only [C3,hq]
  rw [BJ]
  refine Ok.idxn hi (Ok.bindE (hd.pick hs) (Ok.no rfl (Ok.idxn hi (Ok.bindE hd.is2 (Ok.no rfl ?_)))))
  refine Ok.for (fun q=>q) i (fun _ _=>True) 0 (Nat.zero_le _) rfl trivial (by omega) (fun rec2 q2 hq2 _=>?_) fun rec2 k q2 hk hq2 _ ih2=>?_
  ·simp only [EZ,hq2]
   rw [BS]
   exact ih _ Ip trivial
  ·simp only [EZ,hq2]
   rw [BJ]
   refine Ok.idxn (by omega:k < l.length) (Ok.idxn hi (Ok.no ?_ (ih2 _ Ip trivial)))
   have:=List.pairwise_iff_getElem.1 h.asc k i (by rw [List.length_map]; omega) (by rw [List.length_map]; omega) hk
   rw [List.getElem_map,List.getElem_map] at this
   exact beq_eq_false_iff_ne.2 (by omega)
theorem Tp.ok {m:Int} {l:List Int} (h:Tp s m l):D6 s m l = some 0:=by
 have hp:=h.pos
 have hl:=h.len
 refine Ok.val ?_
 unfold D6
 refine Ok.no (by rw [df,df]; rfl) ?_
 refine Ok.for (fun q=>q) l.length (fun _ _=>True) 0 (Nat.zero_le _) rfl trivial (by omega) (fun rec q hq _=>?_) fun rec i q hi hq _ ih=>?_
 ·simp only [Cl,hq]
  rw [BS]
  exact Ok.some rfl
 ·have hd:=h.all _ (List.getElem_mem hi)
  simp only [Cl,hq]
  rw [BJ]
  refine Ok.idxn hi (Ok.bindE hd.1.is3 (Ok.no rfl (Ok.idxn hi (Ok.no (beq_eq_false_iff_ne.2 hd.2) (Ok.gdd (by omega) (Ok.idxn hi (Ok.bind (bu ?_) fun b hb=>Ok.br (fun e=>?_) fun _=>ih _ Ip trivial)))))))
  ·unfold Im
   rw [List.length_take,List.length_drop]
   omega
  ·have hm:=hb.1 e
   have hm:l[i]∈l.take i:=by unfold Im at hm; simpa using hm
   obtain ⟨j,hj,e2⟩:=List.mem_iff_getElem.1 hm
   rw [List.getElem_take] at e2
   rw [List.length_take] at hj
   have:=List.pairwise_iff_getElem.1 h.asc j i (by omega) hi (by omega)
   omega
theorem VR.is3 {m:Int} (h:VR s m):IM s m:=by
 obtain ⟨i,hi,h1,h2,h3,_⟩:=h
 exact ⟨i,h2,h1,hi,h3⟩
theorem QR.ok (hs:DS s) {q:Az} (h:QR s q) (hn:Be q.Name = some true):Ck DD s q = some 0:=by
 refine Ok.val ?_
 unfold Ck
 refine Ok.bindE hs.rcheck (Ok.no rfl (Ok.bindE hn (Ok.no rfl (Ok.no ?_ (Ok.bindE (h.filter.rcheck hs (by decide)) (Ok.no rfl (Ok.bindE (x:=0) ?_ (Ok.no rfl ?_))))))))
 ·rcases h.parts with ⟨e,_⟩ | ⟨e,_⟩ | ⟨e,_⟩ <;> rw [e] <;> rfl
 ·refine Ok.val ?_
  unfold Ee
  rcases h.parts with ⟨e,h1,h2,h3,h4⟩ | ⟨e,h1,h2,h3,h4⟩ | ⟨e,h1,h2,h3,h4⟩
  ·rcases h2 with h2 | h2
   ·refine Ok.bind (Zd hs q.Measure) fun b hb=>Ok.yes (by rw [e]; rfl) (Ok.bindE (h1.ok hs) (Ok.no rfl (Ok.no (by rw [h2]; rfl) (Ok.some rfl))))
   ·refine Ok.bindE h2.is3 (Ok.yes (by rw [e]; rfl) (Ok.bindE (h1.ok hs) (Ok.no rfl (Ok.no ?_ (Ok.some rfl)))))
    cases (q.Measure != -1) <;> rfl
  ·exact Ok.bindE h2.is3 (Ok.no (by rw [e]; rfl) (Ok.yes (by rw [e]; rfl) (Ok.no rfl (Ok.bindE h3.ok (Ok.some rfl)))))
  ·refine Ok.bindE h3.is3.is3 (Ok.no (by rw [e]; rfl) (Ok.no (by rw [e]; rfl) (Ok.no rfl ?_)))
   obtain ⟨i,hi,i1,i2,i3,i4⟩:=h3
   rw [i2]
   refine Ok.idxn hi ?_
   rw [df]
   exact Ok.no rfl (Ok.bindE (h4.rcheck hs (by decide)) (Ok.some rfl))
 ·rcases h.parts with ⟨e,h1,h2,h3,h4⟩ | ⟨e,h1,h2,h3,h4⟩ | ⟨e,h1,h2,h3,h4⟩
  ·rw [e,h3,h4]
   exact Ok.no rfl (Ok.yes rfl (Ok.bindE (VI 59) (Ok.no rfl (Ok.some rfl))))
  ·rw [e,h1,h4]
   exact Ok.no rfl (Ok.yes rfl (Ok.bindE (VI 59) (Ok.no rfl (Ok.some rfl))))
  ·rw [e,h1,h2]
   exact Ok.no rfl (Ok.no rfl (Ok.some rfl))
theorem DR.ok (hs:DS s) {d:A3} (h:DR s d):Db DD s d = some 0:=by
 have hp:=h.questions.pos
 have hl:=h.questions.len
 obtain ⟨s1,s2,s3,s4,s5,s6⟩:=h.sample
 refine Ok.val ?_
 unfold Db
 refine Ok.bindE hs.rcheck (Ok.no rfl (Ok.bindE h.project (Ok.no rfl (Ok.bindE h.source (Ok.no rfl ?_)))))
 unfold D5
 refine Ok.bindE (h.cohort.rcheck hs (by decide)) (Ok.no rfl (Ok.no ?_ (Ok.no (by rw [df,df]; rfl) ?_)))
 ·rw [df,df,df,df,df,df]; rfl
 refine Ok.for (fun q=>q) d.Questions.length (fun _ _=>True) 0 (Nat.zero_le _) rfl trivial (by omega) (fun rec q hq _=>?_) fun rec i q hi hq _ ih=>?_
 ·simp only [B3,hq]
  rw [BS]
  exact Ok.some rfl
 ·have hd:=h.questions.all _ (List.getElem_mem hi)
  simp only [B3,hq]
  rw [BJ]
  refine Ok.idxn hi (Ok.bindE (hd.1.ok hs hd.2) (Ok.no rfl ?_))
  refine Ok.for (fun q=>q) i (fun _ _=>True) 0 (Nat.zero_le _) rfl trivial (by omega) (fun rec2 q2 hq2 _=>?_) fun rec2 k q2 hk hq2 _ ih2=>?_
  ·simp only [En,hq2]
   rw [BS]
   exact ih _ Ip trivial
  ·simp only [En,hq2]
   rw [BJ]
   exact Ok.idxn (by omega:k < d.Questions.length) (Ok.idxn hi (Ok.no (beq_eq_false_iff_ne.2 (List.pairwise_iff_getElem.1 h.questions.ne k i (by omega) hi hk)) (ih2 _ Ip trivial)))
end Go.Proofs.YtjghjdokjgcehaaGreatDoor.P
set_option linter.unusedVariables false
set_option linter.unusedSimpArgs false
namespace Go.Proofs.YtjghjdokjgcehaaGreatDoor.P
open Go Go.Abs Go.Proofs
set_option maxRecDepth 100000
variable {s:Ae}
def tE (m:Int) (dims:List Aw) (c:Aj):Av:={ Op:=10,Num:=0,Name:=ByteArray.empty,Column:=m,Columns:=[],Dims:=dims,Cond:=c,Event:=IU,Kids:=[] }
def mE (m:Int) (cols:List Int) (c:Aj):Av:={ Op:=11,Num:=0,Name:=ByteArray.empty,Column:=m,Columns:=cols,Dims:=[],Cond:=c,Event:=IU,Kids:=[] }
theorem YE (d:Nat) (m:Int) (dims:List Aw) (c:Aj):GQ (d + 1) (tE m dims c) = some true:=by
 refine Ok.val ?_
 unfold GQ
 repeat refine Ok.no rfl ?_
 refine Ok.yes rfl ?_
 unfold Bz
 refine Ok.yes ?_ (Ok.yes rfl (Ok.no rfl (Ok.bindE (x:=true) rfl (Ok.some rfl))))
 show (bif (bif (bif (bif (0==0) then (ByteArray.empty.toList==ByteArray.empty.toList) else false) then (m==m) else false) then true else false) then (((dims.length:Nat):Int)==((dims.length:Nat):Int)) else false) = true
 simp only [beq_self_eq_true,cond_true]
theorem YD (d:Nat) (m:Int) (cols:List Int) (c:Aj):GQ (d + 1) (mE m cols c) = some true:=by
 refine Ok.val ?_
 unfold GQ
 repeat refine Ok.no rfl ?_
 refine Ok.yes rfl ?_
 unfold Bz
 refine Ok.yes ?_ (Ok.yes rfl (Ok.no rfl (Ok.bindE (x:=true) rfl (Ok.some rfl))))
 show (bif (bif (bif (bif (0==0) then (ByteArray.empty.toList==ByteArray.empty.toList) else false) then (m==m) else false) then (((cols.length:Nat):Int)==((cols.length:Nat):Int)) else false) then true else false) = true
 simp only [beq_self_eq_true,cond_true]
theorem XE (hs:DS s) {c:Aj} (hc:GC s c) {m:Int} (hm:m = -1∨IM s m) {dims:List Aw} (hd:Vd s dims):D7 DD s (tE m dims c) = some true:=by
 refine Ok.val ?_
 show Ok (Dw 59 (D7 59) s (tE m dims c)) _
 unfold Dw
 refine Ok.bindE hs.rcheck (Ok.no rfl (Ok.bindE (YE 58 m dims c) (Ok.no rfl ?_)))
 unfold Fw
 refine Ok.no rfl ?_
 unfold Ep
 refine Ok.no rfl ?_
 refine Ok.for (fun q=>q) 0 (fun _ _=>True) 0 (Nat.zero_le _) rfl trivial (by omega) (fun rec q hq hI=>?_) fun rec k q hk hq hI ih=>absurd hk (by omega)
 simp only [GD,hq]
 refine Ok.no rfl ?_
 unfold Fx
 obtain ⟨b,hb,hb2⟩:=Zd hs m
 refine Ok.bindE hb ?_
 repeat refine Ok.no rfl ?_
 refine Ok.yes rfl (Ok.bindE (hd.ok hs) (Ok.no rfl ?_))
 unfold B4
 refine Ok.yes ?_ (Ok.no rfl (Ok.bindE (hc.rcheck hs (by omega)) (Ok.some rfl)))
 rcases hm with rfl | hm
 ·cases b <;> rfl
 ·have:=hm.is3
  rw [hb] at this
  rw [Option.some.inj this]; rfl
theorem XD (hs:DS s) {c:Aj} (hc:GC s c) {m:Int} (hm:IM s m) {cols:List Int} (hd:Tp s m cols):D7 DD s (mE m cols c) = some true:=by
 refine Ok.val ?_
 show Ok (Dw 59 (D7 59) s (mE m cols c)) _
 unfold Dw
 refine Ok.bindE hs.rcheck (Ok.no rfl (Ok.bindE (YD 58 m cols c) (Ok.no rfl ?_)))
 unfold Fw
 refine Ok.no rfl ?_
 unfold Ep
 refine Ok.no rfl ?_
 refine Ok.for (fun q=>q) 0 (fun _ _=>True) 0 (Nat.zero_le _) rfl trivial (by omega) (fun rec q hq hI=>?_) fun rec k q hk hq hI ih=>absurd hk (by omega)
 simp only [GD,hq]
 refine Ok.no rfl ?_
 unfold Fx
 refine Ok.bindE hm.is3 ?_
 repeat refine Ok.no rfl ?_
 refine Ok.yes rfl (Ok.bindE hd.ok (Ok.no rfl ?_))
 unfold B4
 exact Ok.yes rfl (Ok.no rfl (Ok.bindE (hc.rcheck hs (by omega)) (Ok.some rfl)))
theorem W1 (hs:DS s) {c:Aj} (hc:GC s c) {m:Int} (hm:VR s m) {ev:Aj} (hev:GC s ev):D7 DD s (vE m ev c) = some true:=by
 refine Ok.val ?_
 show Ok (Dw 59 (D7 59) s (vE m ev c)) _
 unfold Dw
 refine Ok.bindE hs.rcheck (Ok.no rfl (Ok.bindE (YC 58 m ev c) (Ok.no rfl ?_)))
 unfold Fw
 refine Ok.no rfl ?_
 unfold Ep
 refine Ok.no rfl ?_
 refine Ok.for (fun q=>q) 0 (fun _ _=>True) 0 (Nat.zero_le _) rfl trivial (by omega) (fun rec q hq hI=>?_) fun rec k q hk hq hI ih=>absurd hk (by omega)
 simp only [GD,hq]
 refine Ok.no rfl ?_
 unfold Fx
 refine Ok.bindE (show Dm s m 3 = some true from hm.is3.is3) ?_
 repeat refine Ok.no rfl ?_
 refine Ok.yes rfl (Ok.no rfl ?_)
 obtain ⟨i,hi,i1,i2,i3,i4⟩:=hm
 subst i2
 refine Ok.idxn hi ?_
 rw [df]
 refine Ok.no rfl (Ok.bindE (hev.rcheck hs (by omega)) (Ok.no rfl ?_))
 unfold B4
 exact Ok.yes rfl (Ok.no rfl (Ok.bindE (hc.rcheck hs (by omega)) (Ok.some rfl)))
end Go.Proofs.YtjghjdokjgcehaaGreatDoor.P
set_option linter.unusedVariables false
set_option linter.unusedSimpArgs false
namespace Go.Proofs.YtjghjdokjgcehaaGreatDoor.P
open Go Go.Abs Go.Proofs
set_option maxRecDepth 100000
variable {s:Ae}
theorem It (p:ByteArray):(F8 p).length = p.size:=by
 unfold F8
 rw [List.length_map]
 rfl
theorem XZ {p:ByteArray} {v:Int} (h0:0≤v) (h:v.toNat < p.size):idx (F8 p) v = some (DX p v):=by
 rw [OT h0 (by rw [It]; exact h)]
 have h2:v.toNat < p.data.toList.length:=h
 unfold F8 DX
 rw [List.getElem_map,List.getD_eq_getElem?_getD,List.getElem?_eq_getElem h2]
 rfl
theorem ae {p:ByteArray} {k1 k2 r1 r2:Int→Option Bool} {v:Int} (hp:p.size≤16) (h0:0≤v) (h1:v≤16) (hk:k1 v = k2 v) (hr:r1 (IntKind.i64.wrap (v + 1)) = r2 (IntKind.i64.wrap (v + 1))):ES p k1 r1 v = Hm p k2 r2 v:=by
 unfold ES Hm
 rw [It]
 by_cases h:v < p.size
 ·have hg:decide (0≤(v:Int)∧(v:Int).toNat < p.size) = true:=decide_eq_true ⟨h0,by omega⟩
  rw [XZ h0 (by omega),Option.bind_some,decide_eq_true h]
  simp only [hg,cond_true]
  generalize DX p v = b
  have f1:decide (b < 97) = !decide (b ≥ 97):=by by_cases h:b ≥ 97 <;> simp [h] <;> omega
  have f2:decide (b > 122) = !decide (b≤122):=by by_cases h:b≤122 <;> simp [h] <;> omega
  have f3:decide (b < 48) = !decide (b ≥ 48):=by by_cases h:b ≥ 48 <;> simp [h] <;> omega
  have f4:decide (b > 57) = !decide (b≤57):=by by_cases h:b≤57 <;> simp [h] <;> omega
  rw [f1,f2,f3,f4,bne]
  cases decide (b ≥ 97) <;> cases decide (b≤122) <;> cases decide (b ≥ 48) <;> cases decide (b≤57) <;> cases (b==95) <;> first | rfl | exact hr
 ·rw [decide_eq_false h]
  exact hk
theorem Oi (p:ByteArray):BO p = Be p:=by
 unfold BO Be
 by_cases h:p.size≤16
 ·have e:Gj p = Hn p:=by
   unfold Gj Hn
   refine Nc (fun v=>0≤v∧v≤16) (fun r1 r2 v hv hr=>?_) AO 0 ⟨Int.le_refl _,by omega⟩
   by_cases e:v = 16
   ·unfold ES Hm
    rw [It,decide_eq_false (by omega)]
    rfl
   ·exact ae h hv.1 hv.2 rfl (hr _ (by rw [wr]; omega))
  rw [e]
 ·have e:(bif decide (((p.size:Nat):Int) < 1) then true else decide (((p.size:Nat):Int) > 16)) = true:=by
   rw [decide_eq_true (by omega:((p.size:Nat):Int) > 16)]
   cases decide (((p.size:Nat):Int) < 1) <;> rfl
  rw [e]
  rfl
theorem Qf (p:ByteArray):Ok (BO p) fun _=>True:=by
 unfold BO
 refine Ok.br (fun _=>Ok.some trivial) fun h=>?_
 have h1:1≤p.size∧p.size≤16:=by
  by_cases e:((p.size:Nat):Int) < 1
  ·rw [decide_eq_true e] at h; cases h
  ·rw [decide_eq_false e,cond_false] at h
   have:=of_decide_eq_false h
   omega
 refine Ok.gdd ⟨Int.le_refl _,by show 0 < p.size; omega⟩ (Ok.br (fun _=>Ok.some trivial) fun _=>Ok.gdd ⟨Int.le_refl _,by show 0 < p.size; omega⟩ (Ok.br (fun _=>Ok.some trivial) fun _=>?_))
 have hl:=It p
 unfold Gj
 refine Ok.for (fun q=>q) (F8 p).length (fun _ _=>True) 0 (Nat.zero_le _) rfl trivial (by omega) (fun rec q hq hI=>?_) fun rec k q hk hq hI ih=>?_
 ·simp only [ES,hq]
  rw [BS]
  unfold J1
  repeat refine Ok.br (fun _=>Ok.some trivial) fun _=>?_
  exact Ok.some trivial
 ·simp only [ES,hq]
  rw [BJ]
  exact Ok.idxn hk (Ok.br (fun _=>Ok.some trivial) fun _=>ih _ Ip trivial)
theorem dh:∀ (n d:Nat) {c:Aj},RC s n c→n < d→Dr d c c = some true
 | n,d + 1,c,h,hd=>by
   obtain ⟨h1,h2⟩:=h.kids
   show FS d (Dr d) c c = some true
   refine Ok.val ?_
   unfold FS
   refine Ok.no (by simp) ?_
   refine Ok.for (fun q=>q) c.Kids.length (fun _ _=>True) 0 (Nat.zero_le _) rfl trivial (by omega) (fun rec q hq hI=>?_) fun rec k q hk hq hI ih=>?_
   ·simp only [JB,hq]
    rw [BS]
    exact Ok.some rfl
   ·simp only [JB,hq]
    rw [BJ]
    obtain ⟨m,hm,hR⟩:=h2 _ (List.getElem_mem hk)
    exact Ok.idxn hk (Ok.idxn hk (Ok.bindE (dh m d hR (by omega)) (Ok.no rfl (ih _ Ip trivial))))
theorem GC.same {c:Aj} (h:GC s c) {d:Nat} (hd:40≤d):Dr d c c = some true:=by
 obtain ⟨n,h1,h2,_⟩:=h
 exact dh n d h1 (by omega)
theorem aA (d:Nat):Dr (d + 1) IU IU = some true:=rfl
theorem Uc (hs:DS s) (p:Aw):∃ e,Eh s p = some e∧EW s p = some e∧(e = 0→eS s p):=by
 have hc:=hs.cols_length
 by_cases h:1≤p.Column∧p.Column < s.Columns.length
 ·obtain ⟨i,hi⟩:∃ i:Nat,p.Column = i:=⟨p.Column.toNat,by omega⟩
  have hf:=hs.fin_ok (i:=i) (by omega) (by omega)
  have h1:EW s p = some (bif decide (0≤p.Level∧p.Level≤fin s i) then 0 else 8):=by
   refine Ok.val ?_
   unfold EW
   refine Ok.bindE hs.rcheck (Ok.no rfl (Ok.no (by rw [df,df]; rfl) ?_))
   rw [hi]
   refine Ok.bindE (hs.rfinest (i:=i) (by omega) (by omega)) ?_
   rw [Vy,Option.bind_some]
   cases decide (0≤p.Level∧p.Level≤fin s i) <;> exact Ok.some rfl
  have h2:Eh s p = some (bif decide (0≤p.Level∧p.Level≤fin s i) then 0 else 8):=by
   refine Ok.val ?_
   unfold Eh
   rw [hi]
   refine Ok.bindE (hs.pfinest (i:=i) (by omega) (by omega)) (Ok.no df ?_)
   by_cases e:0≤p.Level∧p.Level≤fin s i
   ·rw [decide_eq_true e,decide_eq_false (by omega:¬ p.Level < 0),decide_eq_false (by omega:¬ p.Level > fin s i)]
    exact Ok.some rfl
   ·rw [decide_eq_false e]
    by_cases e1:p.Level < 0
    ·rw [decide_eq_true e1]; exact Ok.some rfl
    ·rw [decide_eq_false e1,decide_eq_true (by omega:p.Level > fin s i)]; exact Ok.some rfl
  refine ⟨_,h2,h1,fun h=>?_⟩
  cases e:decide (0≤p.Level∧p.Level≤fin s i) with
  | false=>rw [e] at h; cases h
  | true=>exact ⟨i,by omega,by omega,hi,(of_decide_eq_true e).1,(of_decide_eq_true e).2⟩
 ·refine ⟨7,?_,?_,fun h=>by cases h⟩
  ·refine Ok.val ?_
   unfold Eh
   refine Ok.bindE (x:=-1) ?_ (Ok.yes rfl (Ok.some rfl))
   unfold Eg
   refine Ok.val (Ok.yes ?_ (Ok.some rfl))
   by_cases e:p.Column < 1
   ·rw [dt]; rfl
   ·rw [df,dt]; rfl
  ·refine Ok.val ?_
   unfold EW
   refine Ok.bindE hs.rcheck (Ok.no rfl (Ok.yes ?_ (Ok.some rfl)))
   by_cases e:p.Column < 1
   ·rw [dt]; rfl
   ·rw [df,dt]; rfl
end Go.Proofs.YtjghjdokjgcehaaGreatDoor.P
set_option linter.unusedVariables false
set_option linter.unusedSimpArgs false
namespace Go.Proofs.YtjghjdokjgcehaaGreatDoor.P
open Go Go.Abs Go.Proofs
set_option maxRecDepth 100000
variable {s:Ae}
def MX (c:Aj):Bool:=bif (bif (bif (bif (bif (c.Op==0) then (c.Column==0) else false) then (c.Code==0) else false) then (c.Low==0) else false) then (c.High==0) else false) then (((c.Kids.length:Nat):Int)==0) else false
theorem bG (c:Aj):DJ c = some (MX c):=rfl
theorem Vp {c:Aj} (h:MX c = true):c = IU:=by
 obtain ⟨op,col,code,lo,hi,kids⟩:=c
 unfold MX at h
 simp only [Bool.cond_false_right,Bool.and_eq_true,beq_iff_eq] at h
 obtain ⟨⟨⟨⟨⟨h1,h2⟩,h3⟩,h4⟩,h5⟩,h6⟩:=h
 have h7:kids = []:=List.eq_nil_of_length_eq_zero (by omega)
 subst h1; subst h2; subst h3; subst h4; subst h5; subst h7
 rfl
theorem W0 (d:Nat) (c:Aj):HP (d + 1) c = some (MX c):=by
 cases h:MX c with
 | true=>rw [Vp h]; rfl
 | false =>
   refine Ok.val ?_
   unfold HP
   refine Ok.bindE (x:=false) ?_ (Ok.some rfl)
   show FS d (Dr d) c ({ Op:=0,Column:=0,Code:=0,Low:=0,High:=0,Kids:=[] }:Aj) = some false
   refine Ok.val ?_
   unfold FS
   refine Ok.yes ?_ (Ok.some rfl)
   unfold MX at h
   revert h
   show _→(bif (bif (bif (bif (bif (c.Op != 0) then true else (c.Column != 0)) then true else (c.Code != 0)) then true else (c.Low != 0)) then true else (c.High != 0)) then true else (((c.Kids.length:Nat):Int) != 0)) = true
   simp only [bne]
   cases (c.Op==0) <;> cases (c.Column==0) <;> cases (c.Code==0) <;> cases (c.Low==0) <;> cases (c.High==0) <;> cases (((c.Kids.length:Nat):Int)==0) <;> simp
theorem FN (s:Ae) (m:Int):∃ k,BD s m = some k∧∀ w:Int,w≠0→Dm s m w = some (k==w):=by
 by_cases h:0≤m∧m < s.Columns.length
 ·obtain ⟨i,rfl⟩:∃ i:Nat,m = i:=⟨m.toNat,by omega⟩
  refine ⟨s.Columns[i].Kind,?_,fun w _=>fc (by omega) w⟩
  refine Ok.val ?_
  unfold BD
  exact Ok.no (by rw [df,df]; rfl) (Ok.idxn (by omega:i < s.Columns.length) (Ok.some rfl))
 ·refine ⟨0,?_,fun w hw=>?_⟩
  ·refine Ok.val ?_
   unfold BD
   refine Ok.yes ?_ (Ok.some rfl)
   by_cases e:m < 0
   ·rw [dt]; rfl
   ·rw [df,dt]; rfl
  ·refine Ok.val ?_
   unfold Dm
   refine Ok.no ?_ (Ok.some ?_)
   ·by_cases e:m ≥ 0
    ·rw [dt,df]; rfl
    ·rw [df]; rfl
   ·exact (beq_eq_false_iff_ne.2 (fun e=>hw e.symm)).symm
theorem am (hs:DS s) (p:Aw):Ii s p = EW s p:=by
 obtain ⟨e,h1,h2,_⟩:=Uc hs p
 rw [h2]
 refine Ok.val ?_
 unfold Ii
 exact Ok.bindE hs.check (Ok.no rfl (Ok.bindE h1 (Ok.some rfl)))
theorem RD {ρ:Type} {body:(Int→Option ρ)→Int→Option ρ} (f:Nat→Bool) (n:Nat) (r R:Option ρ) (h:∀ rec (i:Nat),i < n→body rec (i:Int) = bif f i then r else rec ((i + 1:Nat):Int)) (he:∀ rec,body rec (n:Int) = R) :
 ∀ (m i:Nat),i≤n→n - i < m→iter body m (i:Int) = bif (List.range' i (n - i)).any f then r else R
 | 0,i,_,hm=>by omega
 | m + 1,i,hi,hm=>by
   show body (iter body m) (i:Int) = _
   by_cases e:i < n
   ·rw [h _ i e,RD f n r R h he m (i + 1) (by omega) (by omega)]
    rw [show n - i = (n - (i + 1)) + 1 by omega,List.range'_succ,List.any_cons]
    cases f i <;> rfl
   ·obtain rfl:i = n:=by omega
    rw [he,Nat.sub_self]
    rfl
theorem RA {σ ρ τ:Type} {b1:(σ→Option τ)→σ→Option τ} {b2:(σ→Option ρ)→σ→Option ρ} {F:ρ→Option τ} (I:σ→Prop) (h:∀ r1 r2 s,I s→(∀ s',I s'→r1 s' = (r2 s').bind F)→b1 r1 s = (b2 r2 s).bind F):∀ n s,I s→iter b1 n s = (iter b2 n s).bind F
 | 0,_,_=>rfl
 | n + 1,s,hs=>h _ _ s hs fun s' hs'=>RA I h n s' hs'
theorem V5 {α:Type} {l:List α} {i:Nat} (hi:i≤l.length) (g:α→Bool) (d:α):(List.range' 0 i).any (fun k=>g (l.getD k d)) = (Im l 0 (i:Int)).any g:=by
 have e:Im l 0 (i:Int) = l.take i:=by unfold Im; simp
 rw [e,← List.range_eq_range']
 induction i with
 | zero=>simp
 | succ i ih =>
   rw [List.range_succ,List.any_append,ih (by omega) (by unfold Im; simp),List.take_succ_eq_append_getElem (by omega),List.any_append]
   congr 1
   simp [List.getD_eq_getElem?_getD,List.getElem?_eq_getElem (by omega:i < l.length)]
theorem Xh {l:List Aw} {i:Nat} (hi:i < l.length) (hl:l.length≤1000) (R:Option Int):iter (fun rec2 s=>EZ (i:Int) l (fun _=>R) rec2 s) AO 0 = bif (Im l 0 (i:Int)).any (fun x=>x.Column==l[i].Column) then some 10 else R:=by
 rw [← V5 (Nat.le_of_lt hi) _ ({ Column:=0,Level:=0 }:Aw)]
 refine RD (fun k=>(l.getD k ({ Column:=0,Level:=0 }:Aw)).Column==l[i].Column) i (some 10) R (fun rec k hk=>?_) (fun rec=>?_) AO 0 (Nat.zero_le _) (by unfold AO; omega)
 ·unfold EZ
  rw [BJ,CK (by omega:k < l.length),Option.bind_some,CK hi,Option.bind_some,Ip,List.getD_eq_getElem?_getD,List.getElem?_eq_getElem (by omega:k < l.length)]
  rfl
 ·unfold EZ
  rw [BS]
theorem YJ (hs:DS s) (q:Az) (hl:q.Dims.length≤1000):iter (fun rec1 st=>CI q s (fun _=>BU q s) rec1 st) AO 0 = (iter (fun rec1 st=>C3 q.Dims s (fun _=>some 0) rec1 st) AO 0).bind fun e=>bif e != 0 then some e else BU q s:=by
 refine RA (b1:=fun rec1 st=>CI q s (fun _=>BU q s) rec1 st) (b2:=fun rec1 st=>C3 q.Dims s (fun _=>some 0) rec1 st) (F:=fun e=>bif e != 0 then some e else BU q s) (fun v=>∃ i:Nat,v = i∧i≤q.Dims.length) (fun r1 r2 v hv hr=>?_) AO 0 ⟨0,rfl,Nat.zero_le _⟩
 obtain ⟨i,rfl,hi⟩:=hv
 by_cases e:i < q.Dims.length
 ·unfold CI C3
  rw [BJ,BJ,CK e,Option.bind_some,Option.bind_some,am hs]
  obtain ⟨x,_,h2,_⟩:=Uc hs q.Dims[i]
  rw [h2,Option.bind_some,Option.bind_some]
  cases hx:(x != 0) with
  | true=>rw [cond_true,cond_true,Option.bind_some,hx]; rfl
  | false =>
    rw [cond_false,cond_false,Option.bind_some]
    obtain ⟨k,hk,hk2⟩:=FN s q.Dims[i].Column
    rw [hk,hk2 2 (by decide),Option.bind_some,Option.bind_some,bne]
    cases (k==2) with
    | false=>rfl
    | true =>
      have hg:decide (0≤(0:Int)∧0≤(i:Int)∧(i:Int)≤((q.Dims.length:Nat):Int)) = true:=decide_eq_true (by omega)
      simp only [bne_self_eq_false,Bool.not_true,cond_false]
      rw [hg,cond_true,Xh e hl,show AC (Im q.Dims 0 (i:Int)) (fun a0=>EK a0 q.Dims[i]) = some ((Im q.Dims 0 (i:Int)).any fun x=>x.Column==q.Dims[i].Column) from ck _ (fun _ _=>rfl) (by unfold Im; rw [List.length_take,List.length_drop]; omega),Option.bind_some]
      cases (Im q.Dims 0 (i:Int)).any fun x=>x.Column==q.Dims[i].Column with
      | true=>rfl
      | false=>exact hr _ ⟨i + 1,Ip,by omega⟩
 ·obtain rfl:i = q.Dims.length:=by omega
  unfold CI C3
  rw [BS,BS]
  rfl
def N5 (d:Nat) (s:Ae) (q:Az):Option Int :=
 (Ee d s q).bind fun x34=>bif x34 != 0 then some x34 else bif (bif (bif (q.Kind != 1) then (decide (((q.Dims.length:Nat):Int) > 0)) else false) then true else (bif (q.Kind != 2) then (decide (((q.Terms.length:Nat):Int) > 0)) else false)) then some 11 else bif (q.Kind != 3) then (HP d q.Event).bind fun x65=>bif (!x65) then some 11 else some 0 else some 0
theorem YK (hs:DS s) {q:Az} (hk:q.Kind = 1) (d:Nat):EJ s q = N5 (d + 1) s q:=by
 unfold N5 Ee
 obtain ⟨k,hk1,hk2⟩:=FN s q.Measure
 rw [hk2 3 (by decide),Option.bind_some,hk,show ((1:Int)==1) = true from rfl,cond_true]
 unfold EJ Eo
 by_cases hl:q.Dims.length < 1∨q.Dims.length > 3
 ·have e:(bif decide (((q.Dims.length:Nat):Int) < 1) then true else decide (((q.Dims.length:Nat):Int) > 3)) = true:=by
   by_cases h1:((q.Dims.length:Nat):Int) < 1
   ·rw [decide_eq_true h1]; rfl
   ·rw [decide_eq_true (by omega:((q.Dims.length:Nat):Int) > 3)]
    cases decide (((q.Dims.length:Nat):Int) < 1) <;> rfl
  rw [e]
  rfl
 ·have e:(bif decide (((q.Dims.length:Nat):Int) < 1) then true else decide (((q.Dims.length:Nat):Int) > 3)) = false:=by rw [df,df]; rfl
  rw [e,cond_false,cond_false,YJ hs q (by omega)]
  cases iter (fun rec1 st=>C3 q.Dims s (fun _=>some 0) rec1 st) AO 0 with
  | none=>rfl
  | some x =>
    rw [Option.bind_some,Option.bind_some]
    cases hx:(x != 0) with
    | true=>rw [cond_true,cond_true,Option.bind_some,hx]; rfl
    | false =>
      rw [cond_false,cond_false]
      unfold BU
      simp only [hk1,bG,W0,bne,Option.bind_some]
      cases (q.Measure==-1) <;> cases (k==3) <;> cases decide (((q.Terms.length:Nat):Int) > 0) <;> cases MX q.Event <;> rfl
theorem ai {l:List Int} {x:Int} (hl:l.length≤1000000):BF l x = some (l.any fun y=>x==y):=by
 unfold BF
 have h:Ey l x = some (GW (fun y=>x==y) l):=Mw (p:=fun y=>some (x==y)) (fun _ _=>rfl) (by omega)
 rw [h,Option.bind_some,Mr]
theorem eJ {l:List Int} {x:Int} (hl:l.length≤1000):Js l x = some (l.any fun y=>x==y):=by
 obtain ⟨b,hb,hb2⟩:=bu (l:=l) (x:=x) hl
 rw [hb]
 congr 1
 cases b with
 | true=>exact (List.any_eq_true.2 ⟨x,hb2.1 rfl,beq_self_eq_true x⟩).symm
 | false =>
   refine (List.any_eq_false.2 fun y hy e=>?_).symm
   have:x = y:=by simpa using e
   subst this
   have:=hb2.2 hy
   cases this
theorem X8 (hs:DS s) (q:Az) (hl:q.Terms.length≤1000):iter (fun rec1 st=>CH q s (Ci q) rec1 st) AO 0 = (iter (fun rec1 st=>Cl q.Terms s q.Measure (fun _=>some 0) rec1 st) AO 0).bind fun e=>bif e != 0 then some e else Ci q 0:=by
 refine RA (b1:=fun rec1 st=>CH q s (Ci q) rec1 st) (b2:=fun rec1 st=>Cl q.Terms s q.Measure (fun _=>some 0) rec1 st) (F:=fun e=>bif e != 0 then some e else Ci q 0) (fun v=>∃ i:Nat,v = i∧i≤q.Terms.length) (fun r1 r2 v hv hr=>?_) AO 0 ⟨0,rfl,Nat.zero_le _⟩
 obtain ⟨i,rfl,hi⟩:=hv
 by_cases e:i < q.Terms.length
 ·unfold CH Cl
  obtain ⟨k,hk,hk2⟩:=FN s q.Terms[i]
  have hg:decide (0≤(0:Int)∧0≤(i:Int)∧(i:Int)≤((q.Terms.length:Nat):Int)) = true:=decide_eq_true (by omega)
  have hc:(Im q.Terms 0 (i:Int)).length≤1000:=by unfold Im; rw [List.length_take,List.length_drop]; omega
  rw [BJ,BJ,CK e]
  simp only [Option.bind_some,hk,hk2 3 (by decide),bne,hg,cond_true,ai (l:=Im q.Terms 0 (i:Int)) (x:=q.Terms[i]) (by omega),eJ (l:=Im q.Terms 0 (i:Int)) (x:=q.Terms[i]) hc]
  cases (k==3) with
  | false=>rfl
  | true =>
    cases (q.Terms[i]==q.Measure) with
    | true=>rfl
    | false =>
      cases (Im q.Terms 0 (i:Int)).any fun y=>q.Terms[i]==y with
      | true=>rfl
      | false=>exact hr _ ⟨i + 1,Ip,by omega⟩
 ·obtain rfl:i = q.Terms.length:=by omega
  unfold CH Cl
  rw [BS,BS]
  rfl
theorem Y5 (hs:DS s) {q:Az} (hk:q.Kind = 2) (d:Nat):EI s q = N5 (d + 1) s q:=by
 unfold N5 Ee
 obtain ⟨k,hk1,hk2⟩:=FN s q.Measure
 rw [hk2 3 (by decide),Option.bind_some,hk,show ((2:Int)==1) = false from rfl,show ((2:Int)==2) = true from rfl,cond_false,cond_true]
 unfold EI D6
 rw [hk1,Option.bind_some,bne]
 cases (k==3) with
 | false=>rfl
 | true =>
   simp only [Bool.not_true,cond_false]
   by_cases hl:q.Terms.length < 1∨q.Terms.length > 3
   ·have e:(bif decide (((q.Terms.length:Nat):Int) < 1) then true else decide (((q.Terms.length:Nat):Int) > 3)) = true:=by
     by_cases h1:((q.Terms.length:Nat):Int) < 1
     ·rw [decide_eq_true h1]; rfl
     ·rw [decide_eq_true (by omega:((q.Terms.length:Nat):Int) > 3)]
      cases decide (((q.Terms.length:Nat):Int) < 1) <;> rfl
    rw [e]
    rfl
   ·have e:(bif decide (((q.Terms.length:Nat):Int) < 1) then true else decide (((q.Terms.length:Nat):Int) > 3)) = false:=by rw [df,df]; rfl
    rw [e,cond_false,cond_false,X8 hs q (by omega)]
    cases iter (fun rec1 st=>Cl q.Terms s q.Measure (fun _=>some 0) rec1 st) AO 0 with
    | none=>rfl
    | some x =>
      simp only [Option.bind_some]
      cases hx:(x != 0) with
      | true=>rfl
      | false =>
        unfold Ci
        simp only [bG,W0,bne,Option.bind_some,cond_false]
        cases decide (((q.Dims.length:Nat):Int) > 0) <;> cases MX q.Event <;> rfl
theorem WV (hs:DS s) {q:Az} (hk:q.Kind = 3) {d:Nat} (hd:42≤d) (hd2:d≤1000):EH d s q = N5 d s q:=by
 unfold N5 Ee EH
 obtain ⟨k,hk1,hk2⟩:=FN s q.Measure
 obtain ⟨e,he1,he2,_⟩:=GG hs q.Event hd hd2
 rw [hk1,hk2 3 (by decide),Option.bind_some,Option.bind_some,hk,show ((3:Int)==1) = false from rfl,show ((3:Int)==2) = false from rfl,cond_false,cond_false,bne]
 cases (k==3) with
 | false=>rfl
 | true =>
   simp only [Bool.not_true,cond_false]
   cases idx s.Columns q.Measure with
   | none=>rfl
   | some c =>
     simp only [Option.bind_some,he1,he2]
     cases decide (c.Low < 0) with
     | true=>rfl
     | false =>
       simp only [cond_false,Option.bind_some]
       cases he:(e != 0) with
       | true=>rfl
       | false=>cases decide (((q.Dims.length:Nat):Int) > 0) <;> cases decide (((q.Terms.length:Nat):Int) > 0) <;> rfl
theorem UI (hs:DS s) (q:Az):Dz DD s q = Ck DD s q:=by
 obtain ⟨e,he1,he2,_⟩:=GG hs q.Filter (d:=DD) (by decide) (by decide)
 unfold Dz
 show _ = (Cv s).bind fun x9=>bif x9 != 0 then some x9 else (Be q.Name).bind fun x15=>bif (!x15) then some 3 else bif (bif (decide (q.Kind < 1)) then true else (decide (q.Kind > 3))) then some 4 else (BW DD s q.Filter).bind fun x28=>bif x28 != 0 then some x28 else N5 DD s q
 rw [hs.check,hs.rcheck,Oi,he1,he2]
 simp only [Option.bind_some]
 have id1:∀ m:Option Int,(m.bind fun x=>some x) = m:=fun m=>by cases m <;> rfl
 cases Be q.Name with
 | none=>rfl
 | some b =>
   simp only [Option.bind_some,id1]
   cases b with
   | false=>rfl
   | true =>
     by_cases hk:q.Kind < 1∨q.Kind > 3
     ·have e1:(bif decide (q.Kind < 1) then true else decide (q.Kind > 3)) = true:=by
       by_cases h1:q.Kind < 1
       ·rw [decide_eq_true h1]; rfl
       ·rw [decide_eq_true (by omega:q.Kind > 3)]
        cases decide (q.Kind < 1) <;> rfl
      rw [e1]
      rfl
     ·cases he:(e != 0) with
      | true=>rfl
      | false =>
        rcases (by omega:q.Kind = 1∨q.Kind = 2∨q.Kind = 3) with h | h | h
        ·rw [← YK hs h 59,h]; rfl
        ·rw [← Y5 hs h 59,h]; rfl
        ·rw [← WV hs h (d:=DD) (by decide) (by decide),h]; rfl
theorem UK (hs:DS s) {q:Az} (h:Ck DD s q = some 0):GC s q.Filter∧(1≤q.Kind∧q.Kind≤3)∧N5 DD s q = some 0:=by
 obtain ⟨e,_,he2,he3⟩:=GG hs q.Filter (d:=DD) (by decide) (by decide)
 have h:((Cv s).bind fun x9=>bif x9 != 0 then some x9 else (Be q.Name).bind fun x15=>bif (!x15) then some 3 else bif (bif (decide (q.Kind < 1)) then true else (decide (q.Kind > 3))) then some 4 else (BW DD s q.Filter).bind fun x28=>bif x28 != 0 then some x28 else N5 DD s q) = some 0:=h
 rw [hs.rcheck,he2] at h
 simp only [Option.bind_some,bne_self_eq_false,cond_false] at h
 cases hn:Be q.Name with
 | none=>rw [hn] at h; cases h
 | some b =>
   rw [hn,Option.bind_some] at h
   cases b with
   | false=>simp at h
   | true =>
     simp only [Bool.not_true,cond_false] at h
     by_cases hk:q.Kind < 1∨q.Kind > 3
     ·have e1:(bif decide (q.Kind < 1) then true else decide (q.Kind > 3)) = true:=by
       by_cases h1:q.Kind < 1
       ·rw [decide_eq_true h1]; rfl
       ·rw [decide_eq_true (by omega:q.Kind > 3)]
        cases decide (q.Kind < 1) <;> rfl
      rw [e1] at h
      simp at h
     ·have e1:(bif decide (q.Kind < 1) then true else decide (q.Kind > 3)) = false:=by rw [df,df]; rfl
      rw [e1,cond_false] at h
      cases he:(e != 0) with
      | true =>
        rw [he,cond_true] at h
        have:e = 0:=Option.some.inj h
        rw [this] at he
        cases he
      | false =>
        rw [he,cond_false] at h
        exact ⟨he3 (by simpa using he),by omega,h⟩
end Go.Proofs.YtjghjdokjgcehaaGreatDoor.P
set_option linter.unusedVariables false
set_option linter.unusedSimpArgs false
namespace Go.Proofs.YtjghjdokjgcehaaGreatDoor.P
open Go Go.Abs Go.Proofs
set_option maxRecDepth 100000
variable {s:Ae}
theorem bz {m:Option Int} {F:Int→Option Int} (h:(m.bind fun x=>bif x != 0 then some x else F x) = some 0):m = some 0∧F 0 = some 0:=by
 cases m with
 | none=>cases h
 | some x =>
   rw [Option.bind_some] at h
   by_cases e:x = 0
   ·subst e; exact ⟨rfl,h⟩
   ·rw [show (x != 0) = true from bne_iff_ne.2 e,cond_true] at h
    exact absurd (Option.some.inj h) e
theorem cz {b:Bool} {e:Int} {m:Option Int} (he:e≠0) (h:(bif b then some e else m) = some 0):b = false∧m = some 0:=by
 cases b with
 | true=>exact absurd (Option.some.inj h) he
 | false=>exact ⟨rfl,h⟩
structure QU (s:Ae) (q:Az):Prop where
 filter:GC s q.Filter
 event:GC s q.Event∨q.Event = IU
 dims:q.Dims.length≤3
 terms:q.Terms.length≤3
 ev3:q.Kind≠3→q.Event = IU
 kind:1≤q.Kind∧q.Kind≤3
theorem aY {l:List Aw} (h:Eo s l = some 0):l.length≤3:=by
 unfold Eo at h
 by_cases e:l.length≤3
 ·exact e
 ·rw [decide_eq_true (by omega:((l.length:Nat):Int) > 3)] at h
  have:=(cz (by decide) h).1
  revert this
  cases decide (((l.length:Nat):Int) < 1) <;> simp
theorem aw {m:Int} {l:List Int} (h:D6 s m l = some 0):l.length≤3:=by
 unfold D6 at h
 by_cases e:l.length≤3
 ·exact e
 ·rw [decide_eq_true (by omega:((l.length:Nat):Int) > 3)] at h
  have:=(cz (by decide) h).1
  revert this
  cases decide (((l.length:Nat):Int) < 1) <;> simp
theorem bi {m:Option Int} {x:Int} (h:(m.bind fun x=>some x) = some x):m = some x:=by
 cases m with
 | none=>cases h
 | some y=>exact h
theorem UJ (hs:DS s) {q:Az} (h:Ck DD s q = some 0):QU s q:=by
 obtain ⟨h1,h2,h3⟩:=UK hs h
 unfold N5 at h3
 obtain ⟨h4,h5⟩:=bz h3
 obtain ⟨h6,h7⟩:=cz (by decide) h5
 unfold Ee at h4
 obtain ⟨k,_,hk2⟩:=FN s q.Measure
 rw [hk2 3 (by decide),Option.bind_some] at h4
 have hz:q.Kind≠3→q.Event = IU:=by
  intro e
  rw [show (q.Kind != 3) = true from bne_iff_ne.2 e,cond_true,W0 59,Option.bind_some] at h7
  cases hb:MX q.Event with
  | true=>exact Vp hb
  | false=>rw [hb] at h7; exact absurd (Option.some.inj h7) (by decide)
 rcases (by omega:q.Kind = 1∨q.Kind = 2∨q.Kind = 3) with e | e | e
 ·rw [e,show ((1:Int)==1) = true from rfl,cond_true] at h4
  have hd:=aY (bz h4).1
  have ht:q.Terms.length≤3:=by
   rw [e] at h6
   by_cases ht:q.Terms.length≤3
   ·exact ht
   ·rw [decide_eq_true (by omega:((q.Terms.length:Nat):Int) > 0)] at h6
    cases h6
  exact ⟨h1,.inr (hz (by omega)),hd,ht,hz,h2⟩
 ·rw [e,show ((2:Int)==1) = false from rfl,show ((2:Int)==2) = true from rfl,cond_false,cond_true] at h4
  have ht:=aw (bi (cz (by decide) h4).2)
  have hd:q.Dims.length≤3:=by
   rw [e] at h6
   by_cases hd:q.Dims.length≤3
   ·exact hd
   ·rw [decide_eq_true (by omega:((q.Dims.length:Nat):Int) > 0)] at h6
    cases h6
  exact ⟨h1,.inr (hz (by omega)),hd,ht,hz,h2⟩
 ·rw [e,show ((3:Int)==1) = false from rfl,show ((3:Int)==2) = false from rfl,cond_false,cond_false] at h4
  have hd:q.Dims.length≤3∧q.Terms.length≤3:=by
   rw [e] at h6
   by_cases hd:0 < q.Dims.length
   ·rw [decide_eq_true (by omega:((q.Dims.length:Nat):Int) > 0)] at h6
    cases h6
   ·by_cases ht:0 < q.Terms.length
    ·rw [decide_eq_true (by omega:((q.Terms.length:Nat):Int) > 0)] at h6
     revert h6
     cases decide (((q.Dims.length:Nat):Int) > 0) <;> simp
    ·omega
  have h8:=(cz (by decide) h4).2
  cases hc:idx s.Columns q.Measure with
  | none=>rw [hc] at h8; cases h8
  | some c =>
    rw [hc,Option.bind_some] at h8
    have h9:=(cz (by decide) h8).2
    obtain ⟨x,_,hx2,hx3⟩:=GG hs q.Event (d:=DD) (by decide) (by decide)
    rw [hx2] at h9
    exact ⟨h1,.inl (hx3 (by simpa using h9)),hd.1,hd.2,hz,h2⟩
end Go.Proofs.YtjghjdokjgcehaaGreatDoor.P
set_option linter.unusedVariables false
set_option linter.unusedSimpArgs false
namespace Go.Proofs.YtjghjdokjgcehaaGreatDoor.P
open Go Go.Abs Go.Proofs
set_option maxRecDepth 100000
variable {s:Ae}
theorem WP {l:List Az} {p:Az→Option Bool} (q:Az→Bool) (hp:∀ x∈l,p x = some (q x)) (hl:l.length≤1000000000):AN l p = some (l.any q):=by
 unfold AN
 rw [show Bw l p = some (GW q l) from Mw hp hl,Option.bind_some,Mr]
def dx:Az:={ Name:=ByteArray.empty,Kind:=0,Filter:=IU,Dims:=[],Measure:=0,Terms:=[],Event:=IU }
theorem Yo {p:A3} {i:Nat} (hi:i < p.Questions.length) (hl:p.Questions.length≤1000) (R:Option Int):iter (fun rec2 s=>En (i:Int) p (fun _=>R) rec2 s) AO 0 = bif (Im p.Questions 0 (i:Int)).any (fun x=>x.Name.toList==p.Questions[i].Name.toList) then some 10 else R:=by
 rw [← V5 (Nat.le_of_lt hi) _ dx]
 refine RD (fun k=>(p.Questions.getD k dx).Name.toList==p.Questions[i].Name.toList) i (some 10) R (fun rec k hk=>?_) (fun rec=>?_) AO 0 (Nat.zero_le _) (by unfold AO; omega)
 ·unfold En
  rw [BJ,CK (by omega:k < p.Questions.length),Option.bind_some,CK hi,Option.bind_some,Ip,List.getD_eq_getElem?_getD,List.getElem?_eq_getElem (by omega:k < p.Questions.length)]
  rfl
 ·unfold En
  rw [BS]
theorem Yb (hs:DS s) (p:A3) (hl:p.Questions.length≤1000):iter (fun rec1 st=>CG p DD s (fun _=>some 0) rec1 st) AO 0 = iter (fun rec1 st=>B3 p DD s (fun _=>some 0) rec1 st) AO 0:=by
 refine Nc (f:=fun rec1 st=>CG p DD s (fun _=>some 0) rec1 st) (g:=fun rec1 st=>B3 p DD s (fun _=>some 0) rec1 st) (fun v=>∃ i:Nat,v = i∧i≤p.Questions.length) (fun r1 r2 v hv hr=>?_) AO 0 ⟨0,rfl,Nat.zero_le _⟩
 obtain ⟨i,rfl,hi⟩:=hv
 by_cases e:i < p.Questions.length
 ·unfold CG B3
  rw [BJ,BJ,CK e,Option.bind_some,Option.bind_some,UI hs]
  cases Ck DD s p.Questions[i] with
  | none=>rfl
  | some x =>
    rw [Option.bind_some,Option.bind_some]
    cases hx:(x != 0) with
    | true=>rfl
    | false =>
      have hg:decide (0≤(0:Int)∧0≤(i:Int)∧(i:Int)≤((p.Questions.length:Nat):Int)) = true:=decide_eq_true (by omega)
      simp only [cond_false]
      rw [hg,cond_true,Yo e hl,show AN (Im p.Questions 0 (i:Int)) (fun a0=>EG a0 p.Questions[i]) = some ((Im p.Questions 0 (i:Int)).any fun x=>x.Name.toList==p.Questions[i].Name.toList) from WP _ (fun _ _=>rfl) (by unfold Im; rw [List.length_take,List.length_drop]; omega),Option.bind_some]
      cases (Im p.Questions 0 (i:Int)).any fun x=>x.Name.toList==p.Questions[i].Name.toList with
      | true=>rfl
      | false=>exact hr _ ⟨i + 1,Ip,by omega⟩
 ·obtain rfl:i = p.Questions.length:=by omega
  unfold CG B3
  rw [BS,BS]
theorem ff {n:Nat}:(bif (n:Int)==0 then true else decide ((n:Int) > 8)) = (bif decide ((n:Int) < 1) then true else decide ((n:Int) > 8)):=by
 by_cases h:n = 0
 ·subst h; rfl
 ·rw [show ((n:Int)==0) = false from beq_eq_false_iff_ne.2 (by omega),decide_eq_false (by omega:¬ (n:Int) < 1)]
theorem T0 (hs:DS s) {p:A3}:EF DD s p = Db DD s p:=by
 obtain ⟨e,he1,he2,_⟩:=GG hs p.Cohort (d:=DD) (by decide) (by decide)
 have hj:Dy DD s p = D5 DD s p:=by
  unfold Dy D5
  rw [he1,he2,Option.bind_some,Option.bind_some]
  refine congrArg (fun m=>bif e != 0 then some e else m) ?_
  refine congrArg (fun m=>bif _ then some 2 else m) ?_
  rw [ff]
  by_cases hl:p.Questions.length≤8
  ·exact congrArg (fun m=>bif _ then some 1 else m) (Yb hs p (by omega))
  ·rw [decide_eq_true (by omega:((p.Questions.length:Nat):Int) > 8)]
   cases decide (((p.Questions.length:Nat):Int) < 1) <;> rfl
 unfold EF Db
 rw [hs.check,hs.rcheck,Oi,Oi,hj]
theorem bn {m:Option Bool} {e:Int} {X:Option Int} (he:e≠0) (h:(m.bind fun b=>bif !b then some e else X) = some 0):X = some 0:=by
 cases m with
 | none=>cases h
 | some b =>
   cases b with
   | true=>exact h
   | false=>exact absurd (Option.some.inj h) he
theorem X6 {p:A3} (hl:p.Questions.length≤1000):∀ (n i:Nat),iter (fun rec1 st=>B3 p DD s (fun _=>some 0) rec1 st) n (i:Int) = some 0→∀ k,i≤k→∀ hk:k < p.Questions.length,Ck DD s p.Questions[k] = some 0
 | 0,i,h,_,_,_=>by cases h
 | n + 1,i,h,k,hik,hk=>by
   have hi:i < p.Questions.length:=by omega
   have h:B3 p DD s (fun _=>some 0) (iter (fun rec1 st=>B3 p DD s (fun _=>some 0) rec1 st) n) (i:Int) = some 0:=h
   have ih:=X6 hl n (i + 1)
   revert h ih
   generalize iter (fun rec1 st=>B3 p DD s (fun _=>some 0) rec1 st) n = r
   intro h ih
   unfold B3 at h
   rw [BJ,CK hi,Option.bind_some] at h
   obtain ⟨h1,h2⟩:=bz h
   rw [Yo hi hl,Ip] at h2
   by_cases e:k = i
   ·subst e; exact h1
   ·exact ih (cz (by decide) h2).2 k (by omega) hk
theorem ZF (hs:DS s) {p:A3} (h:Db DD s p = some 0):p.Questions.length≤8∧∀ q∈p.Questions,QU s q:=by
 obtain ⟨e,_,he2,_⟩:=GG hs p.Cohort (d:=DD) (by decide) (by decide)
 unfold Db at h
 have h:=bn (by decide) (bn (by decide) (bz h).2)
 unfold D5 at h
 have h:=(cz (by decide) (bz h).2).2
 obtain ⟨h1,h2⟩:=cz (by decide) h
 have hl:p.Questions.length≤8:=by
  by_cases e:p.Questions.length≤8
  ·exact e
  ·rw [decide_eq_true (by omega:((p.Questions.length:Nat):Int) > 8)] at h1
   revert h1
   cases decide (((p.Questions.length:Nat):Int) < 1) <;> simp
 refine ⟨hl,fun q hq=>?_⟩
 obtain ⟨k,hk,rfl⟩:=List.mem_iff_getElem.1 hq
 exact UJ hs (X6 (by omega) AO 0 h2 k (Nat.zero_le _) hk)
theorem er {m w:Int} (h:Dm s m w = some true):∃ i:Nat,m = i∧i < s.Columns.length:=by
 by_cases e:0≤m∧m < s.Columns.length
 ·exact ⟨m.toNat,by omega,by omega⟩
 ·have h2:Dm s m w = some false:=by
   refine Ok.val ?_
   unfold Dm
   refine Ok.no ?_ (Ok.some rfl)
   by_cases h0:m ≥ 0
   ·rw [dt,df]; rfl
   ·rw [df]; rfl
  rw [h2] at h; cases h
theorem aX (hs:DS s) (l:List Aw):Ok (Eo s l) fun _=>True:=by
 unfold Eo
 refine Ok.br (fun _=>Ok.some trivial) fun h=>?_
 have hl:l.length≤3:=by
  by_cases e:l.length≤3
  ·exact e
  ·rw [decide_eq_true (by omega:((l.length:Nat):Int) > 3)] at h
   revert h
   cases decide (((l.length:Nat):Int) < 1) <;> simp
 refine Ok.for (fun q=>q) l.length (fun _ _=>True) 0 (Nat.zero_le _) rfl trivial (by omega) (fun rec q hq _=>?_) fun rec i q hi hq _ ih=>?_
 ·simp only [C3,hq]
  rw [BS]
  exact Ok.some trivial
 ·obtain ⟨e,_,he,_⟩:=Uc hs l[i]
  obtain ⟨k,_,hk⟩:=FN s l[i].Column
  simp only [C3,hq]
  rw [BJ]
  refine Ok.idxn hi (Ok.bindE he (Ok.br (fun _=>Ok.some trivial) fun _=>Ok.idxn hi (Ok.bindE (hk 2 (by decide)) (Ok.br (fun _=>Ok.some trivial) fun _=>?_))))
  rw [Xh hi (by omega)]
  exact Ok.br (fun _=>Ok.some trivial) fun _=>ih _ Ip trivial
theorem au (m:Int) (l:List Int):Ok (D6 s m l) fun _=>True:=by
 unfold D6
 refine Ok.br (fun _=>Ok.some trivial) fun h=>?_
 have hl:l.length≤3:=by
  by_cases e:l.length≤3
  ·exact e
  ·rw [decide_eq_true (by omega:((l.length:Nat):Int) > 3)] at h
   revert h
   cases decide (((l.length:Nat):Int) < 1) <;> simp
 refine Ok.for (fun q=>q) l.length (fun _ _=>True) 0 (Nat.zero_le _) rfl trivial (by omega) (fun rec q hq _=>?_) fun rec i q hi hq _ ih=>?_
 ·simp only [Cl,hq]
  rw [BS]
  exact Ok.some trivial
 ·obtain ⟨k,_,hk⟩:=FN s l[i]
  have hc:(Im l 0 (i:Int)).length≤1000:=by unfold Im; rw [List.length_take,List.length_drop]; omega
  simp only [Cl,hq]
  rw [BJ]
  refine Ok.idxn hi (Ok.bindE (hk 3 (by decide)) (Ok.br (fun _=>Ok.some trivial) fun _=>Ok.idxn hi (Ok.br (fun _=>Ok.some trivial) fun _=>Ok.gdd (by omega) (Ok.idxn hi (Ok.bindE (eJ hc) (Ok.br (fun _=>Ok.some trivial) fun _=>ih _ Ip trivial))))))
theorem Wu (hs:DS s) (q:Az):Ok (Ck DD s q) fun _=>True:=by
 obtain ⟨e,_,he2,_⟩:=GG hs q.Filter (d:=DD) (by decide) (by decide)
 have hn:=Qf q.Name
 rw [Oi] at hn
 show Ok ((Cv s).bind fun x9=>bif x9 != 0 then some x9 else (Be q.Name).bind fun x15=>bif (!x15) then some 3 else bif (bif (decide (q.Kind < 1)) then true else (decide (q.Kind > 3))) then some 4 else (BW DD s q.Filter).bind fun x28=>bif x28 != 0 then some x28 else N5 DD s q) _
 refine Ok.bindE hs.rcheck (Ok.no rfl (Ok.bind hn fun b _=>Ok.br (fun _=>Ok.some trivial) fun _=>Ok.br (fun _=>Ok.some trivial) fun _=>Ok.bindE he2 (Ok.br (fun _=>Ok.some trivial) fun _=>?_)))
 unfold N5
 refine Ok.bind (P:=fun _=>True) ?_ fun x _=>Ok.br (fun _=>Ok.some trivial) fun _=>Ok.br (fun _=>Ok.some trivial) fun _=>Ok.br (fun _=>Ok.bindE (W0 59 _) (Ok.br (fun _=>Ok.some trivial) fun _=>Ok.some trivial)) fun _=>Ok.some trivial
 obtain ⟨k,_,hk2⟩:=FN s q.Measure
 have h3:=hk2 3 (by decide)
 unfold Ee
 refine Ok.bindE h3 (Ok.br (fun _=>Ok.bind (aX hs _) fun x _=>Ok.br (fun _=>Ok.some trivial) fun _=>Ok.br (fun _=>Ok.some trivial) fun _=>Ok.some trivial) fun _=>Ok.br (fun _=>Ok.br (fun _=>Ok.some trivial) fun _=>Ok.bind (au _ _) fun _ _=>Ok.some trivial) fun _=>Ok.br (fun _=>Ok.some trivial) fun hm=>?_)
 rw [show (k==3) = true by simpa using hm] at h3
 obtain ⟨i,e1,hi⟩:=er h3
 rw [e1]
 obtain ⟨e,_,he2,_⟩:=GG hs q.Event (d:=DD) (by decide) (by decide)
 exact Ok.idxn hi (Ok.br (fun _=>Ok.some trivial) fun _=>Ok.bindE he2 (Ok.some trivial))
theorem aW (hs:DS s) {p:A3} (hl:p.Questions.length≤1000):Ok (Db DD s p) fun _=>True:=by
 obtain ⟨e,_,he2,_⟩:=GG hs p.Cohort (d:=DD) (by decide) (by decide)
 have hn:=Qf p.Project
 have hn2:=Qf p.Source
 rw [Oi] at hn hn2
 unfold Db
 refine Ok.bindE hs.rcheck (Ok.no rfl (Ok.bind hn fun _ _=>Ok.br (fun _=>Ok.some trivial) fun _=>Ok.bind hn2 fun _ _=>Ok.br (fun _=>Ok.some trivial) fun _=>?_))
 unfold D5
 refine Ok.bindE he2 (Ok.br (fun _=>Ok.some trivial) fun _=>Ok.br (fun _=>Ok.some trivial) fun _=>Ok.br (fun _=>Ok.some trivial) fun _=>?_)
 refine Ok.for (fun q=>q) p.Questions.length (fun _ _=>True) 0 (Nat.zero_le _) rfl trivial (by omega) (fun rec q hq _=>?_) fun rec i q hi hq _ ih=>?_
 ·simp only [B3,hq]
  rw [BS]
  exact Ok.some trivial
 ·simp only [B3,hq]
  rw [BJ]
  refine Ok.idxn hi (Ok.bind (Wu hs _) fun x _=>Ok.br (fun _=>Ok.some trivial) fun _=>?_)
  rw [Yo hi hl]
  exact Ok.br (fun _=>Ok.some trivial) fun _=>ih _ Ip trivial
end Go.Proofs.YtjghjdokjgcehaaGreatDoor.P
set_option linter.unusedVariables false
set_option linter.unusedSimpArgs false
namespace Go.Proofs.YtjghjdokjgcehaaGreatDoor.P
open Go Go.Abs Go.Proofs
set_option maxRecDepth 100000
variable {s:Ae}
theorem icond:∀ (n d:Nat) {c:Aj},RC s n c→n < d→C0 d c = some c
 | n,d + 1,c,h,hd=>by
   obtain ⟨h1,h2⟩:=h.kids
   show Fu d (C0 d) c = some c
   refine Ok.val ?_
   unfold Fu
   refine Ok.for (fun q=>q.1) c.Kids.length (fun k q=>q.2 = c.Kids.take k) 0 (Nat.zero_le _) rfl rfl (by omega) (fun rec q hq hI=>?_) fun rec k q hk hq hI ih=>?_
   ·simp only [Gw,hq]
    rw [BS,hI,List.take_length]
    exact Ok.some (by cases c; rfl)
   ·simp only [Gw,hq]
    rw [BJ]
    obtain ⟨m,hm,hR⟩:=h2 _ (List.getElem_mem hk)
    refine Ok.idxn hk (Ok.bindE (icond m d hR (by omega)) (Ok.rm ?_ (ih _ Ip ?_)))
    ·rw [hI,List.length_take]; simp; omega
    ·show q.2++[c.Kids[k]] = c.Kids.take (k + 1)
     rw [hI,List.take_succ_eq_append_getElem hk]
theorem GC.icond {c:Aj} (h:GC s c) {d:Nat} (hd:40≤d):C0 d c = some c:=by
 obtain ⟨n,h1,h2,_⟩:=h
 exact P.icond n d h1 (by omega)
theorem YM (d:Nat):C0 (d + 1) IU = some IU:=rfl
def Ti (q:Az):Ax:={ Name:=q.Name,Out:=true,Expr:=bif q.Kind==1 then tE q.Measure q.Dims q.Filter else bif q.Kind==2 then mE q.Measure q.Terms q.Filter else vE q.Measure q.Event q.Filter }
theorem cM {q:Az} (e:q.Kind = 1):Ti q = { Name:=q.Name,Out:=true,Expr:=tE q.Measure q.Dims q.Filter }:=by unfold Ti; rw [e]; rfl
theorem cN {q:Az} (e:q.Kind = 2):Ti q = { Name:=q.Name,Out:=true,Expr:=mE q.Measure q.Terms q.Filter }:=by unfold Ti; rw [e]; rfl
theorem cO {q:Az} (e:q.Kind = 3):Ti q = { Name:=q.Name,Out:=true,Expr:=vE q.Measure q.Event q.Filter }:=by unfold Ti; rw [e]; rfl
theorem OK {l:List Az} {k:Nat} (hk:k < l.length) {b:List Ax} (hb:b = (l.take k).map Ti) {x:Ax} (hx:Ti l[k] = x):b++[x] = (l.take (k + 1)).map Ti:=by
 rw [hb,List.take_succ_eq_append_getElem hk,List.map_append,List.map_singleton,hx]
theorem WS {l:List Aw} (h:l.length≤1000):Cf l = some l:=Ok.val (Ok.rm (by omega) (Ok.some rfl))
theorem WR {l:List Int} (h:l.length≤1000):Cb l = some l:=Ok.val (Ok.rm (by omega) (Ok.some rfl))
theorem fF {p:A3} (hq:∀ q∈p.Questions,QU s q) (hl:p.Questions.length≤1000):iter (fun rec1 st=>CR p DD (fun _ b=>some (b,0)) rec1 st.1 st.2) AO (0,[]) = some (p.Questions.map Ti,0):=by
 refine Ok.val ?_
 refine Ok.for (fun q=>q.1) p.Questions.length (fun k q=>q.2 = (p.Questions.take k).map Ti) 0 (Nat.zero_le _) rfl rfl (by omega) (fun rec q hq hI=>?_) fun rec k q hk hk2 hI ih=>?_
 ·simp only [CR,hq]
  rw [BS,hI,List.take_length]
  exact Ok.some rfl
 ·have hU:=hq _ (List.getElem_mem hk)
  have hlen:q.2.length≤1000:=by rw [hI,List.length_map,List.length_take]; omega
  have hev:C0 DD p.Questions[k].Event = some p.Questions[k].Event:=by
   rcases hU.event with h | h
   ·exact h.icond (by decide)
   ·rw [h]; exact YM 59
  simp only [CR,hk2]
  rw [BJ]
  refine Ok.idxn hk (Ok.bindE hev (Ok.bindE (hU.filter.icond (by decide)) ?_))
  have hk3:=hU.kind
  rcases (by omega:p.Questions[k].Kind = 1∨p.Questions[k].Kind = 2∨p.Questions[k].Kind = 3) with e | e | e
  ·refine Ok.yes (by rw [e]; rfl) (Ok.bindE (WS (by have:=hU.dims; omega)) (Ok.rm (by simp; omega) (ih _ Ip (OK hk hI ?_))))
   rw [cM e,hU.ev3 (by omega)]; rfl
  ·refine Ok.no (by rw [e]; rfl) (Ok.yes (by rw [e]; rfl) (Ok.bindE (WR (by have:=hU.terms; omega)) (Ok.rm (by simp; omega) (ih _ Ip (OK hk hI ?_)))))
   rw [cN e,hU.ev3 (by omega)]; rfl
  ·refine Ok.no (by rw [e]; rfl) (Ok.no (by rw [e]; rfl) (Ok.rm (by simp; omega) (ih _ Ip (OK hk hI ?_))))
   rw [cO e]; rfl
theorem fH {p:A3} (hq:∀ q∈p.Questions,QU s q) (hl:p.Questions.length≤1000):iter (fun rec1 st=>Er p (fun _ b=>some (b,0)) rec1 st.1 st.2) AO (0,[]) = some (p.Questions.map Ti,0):=by
 refine Ok.val ?_
 refine Ok.for (fun q=>q.1) p.Questions.length (fun k q=>q.2 = (p.Questions.take k).map Ti) 0 (Nat.zero_le _) rfl rfl (by omega) (fun rec q hq hI=>?_) fun rec k q hk hk2 hI ih=>?_
 ·simp only [Er,hq]
  rw [BS,hI,List.take_length]
  exact Ok.some rfl
 ·have hU:=hq _ (List.getElem_mem hk)
  have hlen:q.2.length≤1000:=by rw [hI,List.length_map,List.length_take]; omega
  simp only [Er,hk2]
  rw [BJ]
  refine Ok.idxn hk ?_
  have hk3:=hU.kind
  rcases (by omega:p.Questions[k].Kind = 1∨p.Questions[k].Kind = 2∨p.Questions[k].Kind = 3) with e | e | e
  ·refine Ok.yes (by rw [e]; rfl) (Ok.rm (by simp; omega) (ih _ Ip (OK hk hI ?_)))
   rw [cM e]; rfl
  ·refine Ok.no (by rw [e]; rfl) (Ok.yes (by rw [e]; rfl) (Ok.rm (by simp; omega) (ih _ Ip (OK hk hI ?_))))
   rw [cN e]; rfl
  ·refine Ok.no (by rw [e]; rfl) (Ok.no (by rw [e]; rfl) (Ok.rm (by simp; omega) (ih _ Ip (OK hk hI ?_))))
   rw [cO e]; rfl
theorem P4 (hs:DS s) {p:A3} (hl:p.Questions.length≤1000):∃ l e,BL DD s p = some (l,e)∧Dc DD s p = some (l,e)∧((l = []∧e≠0)∨(e = 0∧l = p.Questions.map Ti∧p.Questions.length≤8∧∀ q∈p.Questions,QU s q))∧(Db DD s p = some 0→e = 0):=by
 obtain ⟨e,he,_⟩:=aW hs hl
 by_cases e0:e = 0
 ·subst e0
  obtain ⟨h1,h2⟩:=ZF hs he
  refine ⟨p.Questions.map Ti,0,?_,?_,.inr ⟨rfl,rfl,h1,h2⟩,fun _=>rfl⟩
  ·refine Ok.val ?_
   unfold BL
   exact Ok.bindE (by rw [T0 hs,he]) (Ok.no rfl (Ok.eq (fF h2 hl)))
  ·refine Ok.val ?_
   unfold Dc
   exact Ok.bindE he (Ok.no rfl (Ok.eq (fH h2 hl)))
 ·refine ⟨[],e,?_,?_,.inl ⟨rfl,e0⟩,fun h=>by rw [he] at h; exact Option.some.inj h⟩
  ·refine Ok.val ?_
   unfold BL
   exact Ok.bindE (by rw [T0 hs,he]) (Ok.yes (bne_iff_ne.2 e0) (Ok.some rfl))
  ·refine Ok.val ?_
   unfold Dc
   exact Ok.bindE he (Ok.yes (bne_iff_ne.2 e0) (Ok.some rfl))
theorem Y8 {l:List Aw} (hl:l.length≤1000):Gb l l = some true:=by
 refine Ok.val ?_
 unfold Gb
 refine Ok.no (by simp) ?_
 refine Ok.for (fun q=>q) l.length (fun _ _=>True) 0 (Nat.zero_le _) rfl trivial (by omega) (fun rec q hq hI=>?_) fun rec k q hk hq hI ih=>?_
 ·simp only [FR,hq]
  rw [BS]
  exact Ok.some rfl
 ·simp only [FR,hq]
  rw [BJ]
  exact Ok.idxn hk (Ok.idxn hk (Ok.no (by simp) (ih _ Ip trivial)))
theorem RY {e:Av} (h1:e.Columns.length≤1000) (h2:e.Dims.length≤1000) (h3:GC s e.Cond) (h4:GC s e.Event∨e.Event = IU) (h5:e.Kids = []):D8 DD e e = some true:=by
 have hev:Dr 59 e.Event e.Event = some true:=by
  rcases h4 with h | h
  ·exact h.same (by omega)
  ·rw [h]; exact aA 58
 refine Ok.val ?_
 show Ok (Fy 59 (D8 59) e e) _
 unfold Fy
 refine Ok.no (by simp) (Ok.bindE (ZW (by omega)) (Ok.no rfl (Ok.bindE (Y8 h2) (Ok.no rfl (Ok.bindE (h3.same (by omega)) (Ok.no rfl (Ok.bindE hev (Ok.no (by simp) ?_))))))))
 unfold Gx
 refine Ok.for (fun q=>q) 0 (fun _ _=>True) 0 (Nat.zero_le _) rfl trivial (by omega) (fun rec q hq hI=>?_) fun rec k q hk hq hI ih=>absurd hk (by omega)
 simp only [IP,hq,h5]
 exact Ok.no rfl (Ok.some rfl)
theorem bT {q:Az} (h:QU s q):D8 DD (Ti q).Expr (Ti q).Expr = some true:=by
 have hk3:=h.kind
 have hd:=h.dims
 have ht:=h.terms
 rcases (by omega:q.Kind = 1∨q.Kind = 2∨q.Kind = 3) with e | e | e
 ·rw [cM e]; exact RY (Nat.zero_le _) (by show q.Dims.length≤1000; omega) h.filter (.inr rfl) rfl
 ·rw [cN e]; exact RY (by show q.Terms.length≤1000; omega) (Nat.zero_le _) h.filter (.inr rfl) rfl
 ·rw [cO e]; exact RY (Nat.zero_le _) (Nat.zero_le _) h.filter h.event rfl
theorem V8 {l:List Ax} (hl:l.length≤1000) (h:∀ x∈l,D8 DD x.Expr x.Expr = some true):HQ DD l l = some true:=by
 refine Ok.val ?_
 unfold HQ
 refine Ok.no (by simp) ?_
 refine Ok.for (fun q=>q) l.length (fun _ _=>True) 0 (Nat.zero_le _) rfl trivial (by omega) (fun rec q hq hI=>?_) fun rec k q hk hq hI ih=>?_
 ·simp only [JD,hq]
  rw [BS]
  exact Ok.some rfl
 ·simp only [JD,hq]
  rw [BJ]
  exact Ok.idxn hk (Ok.idxn hk (Ok.no (by simp) (Ok.idxn hk (Ok.idxn hk (Ok.no (by simp) (Ok.idxn hk (Ok.idxn hk (Ok.bindE (h _ (List.getElem_mem hk)) (Ok.no rfl (ih _ Ip trivial))))))))))
end Go.Proofs.YtjghjdokjgcehaaGreatDoor.P
set_option linter.unusedVariables false
set_option linter.unusedSimpArgs false
namespace Go.Proofs.YtjghjdokjgcehaaGreatDoor.P
open Go Go.Abs Go.Proofs
set_option maxRecDepth 100000
variable {s:Ae}
theorem WL {l:List Ax} {k:Nat} (hk:k≤l.length) (hl:l.length≤1000) {nm:ByteArray} (h:∀ (j:Nat) (hj:j < k),(l[j]'(by omega)).Name.toList≠nm.toList):GP l (k:Int) nm = some false:=by
 refine Ok.val ?_
 unfold GP
 refine Ok.for (fun q=>q) k (fun _ _=>True) 0 (Nat.zero_le _) rfl trivial (by omega) (fun rec q hq hI=>?_) fun rec j q hj hq hI ih=>?_
 ·simp only [H5,hq]
  rw [BS]
  exact Ok.some rfl
 ·simp only [H5,hq]
  rw [BJ]
  exact Ok.idxn (by omega:j < l.length) (Ok.no (beq_eq_false_iff_ne.2 (h j hj)) (ih _ Ip trivial))
theorem ZD (d:Nat) {e:Av} (h:e.Kids = []):Ig (d + 1) e 61 = some 1:=by
 refine Ok.val ?_
 show Ok (Hs d (Ig d) e 61) _
 unfold Hs
 refine Ok.for (fun q=>q.2) 0 (fun _ q=>q.1 = 1) 0 (Nat.zero_le _) rfl rfl (by omega) (fun rec q hq hI=>?_) fun rec k q hk hq hI ih=>absurd hk (by omega)
 simp only [Lh,hq,h]
 exact Ok.no rfl (Ok.some hI)
theorem ZG (d:Nat) {e:Av} (h:e.Kids = []):Ih (d + 1) e = some 1:=by
 refine Ok.val ?_
 show Ok (Ht d (Ih d) e) _
 unfold Ht
 refine Ok.for (fun q=>q.2) 0 (fun _ q=>q.1 = 0) 0 (Nat.zero_le _) rfl rfl (by omega) (fun rec q hq hI=>?_) fun rec k q hk hq hI ih=>absurd hk (by omega)
 simp only [Li,hq,h,hI]
 exact Ok.no rfl (Ok.some rfl)
theorem Y6 (d:Nat) {e:Av} (h:e.Kids = []) (h2:e.Op≠2):If (d + 1) e = some []:=by
 refine Ok.val ?_
 show Ok (Hr d (If d) e) _
 unfold Hr
 refine Ok.no (beq_eq_false_iff_ne.2 h2) ?_
 refine Ok.for (fun q=>q.1) 0 (fun _ q=>q.2 = []) 0 (Nat.zero_le _) rfl rfl (by omega) (fun rec q hq hI=>?_) fun rec k q hk hq hI ih=>absurd hk (by omega)
 simp only [Lg,hq,h,hI]
 exact Ok.no rfl (Ok.some rfl)
theorem U0 (q:Az):(Ti q).Name = q.Name:=rfl
theorem ar (hs:DS s) {q:Az} (h:QR s q):(Ti q).Expr.Kids = []∧(Ti q).Expr.Op≠2∧D7 DD s (Ti q).Expr = some true:=by
 rcases h.parts with ⟨e,h1,h2,_,_⟩ | ⟨e,_,h2,h3,_⟩ | ⟨e,_,_,h3,h4⟩
 ·rw [cM e]; exact ⟨rfl,by show (10:Int)≠2; decide,XE hs h.filter h2 h1⟩
 ·rw [cN e]; exact ⟨rfl,by show (11:Int)≠2; decide,XD hs h.filter h2 h3⟩
 ·rw [cO e]; exact ⟨rfl,by show (12:Int)≠2; decide,W1 hs h.filter h3 h4⟩
theorem cP (hs:DS s) {l:List Az} (h:QS s l) {k:Nat} (hk:k < l.length):Gc DD s (l.map Ti) (k:Int) = some 0:=by
 have hl:=h.len
 have hk2:k < (l.map Ti).length:=by rw [List.length_map]; exact hk
 have hq:=h.all _ (List.getElem_mem hk)
 obtain ⟨h1,h2,h3⟩:=ar hs hq.1
 refine Ok.val ?_
 unfold Gc
 refine Ok.idxn hk2 ?_
 rw [List.getElem_map]
 refine Ok.bindE (by rw [U0]; exact hq.2) (Ok.no rfl (Ok.bindE (WL (Nat.le_of_lt hk2) (by rw [List.length_map]; omega) fun j hj=>?_) (Ok.no rfl (Ok.bindE (ZD 59 h1) (Ok.no rfl (Ok.bindE (ZG 59 h1) (Ok.no rfl (Ok.bindE h3 (Ok.no rfl (Ok.bindE (Y6 59 h1 h2) ?_))))))))))
 ·rw [List.getElem_map,U0,U0]
  exact List.pairwise_iff_getElem.1 h.ne j k (by omega) hk hj
 ·refine Ok.for (fun q=>q) 0 (fun _ _=>True) 0 (Nat.zero_le _) rfl trivial (by omega) (fun rec q hq hI=>?_) fun rec k q hk hq hI ih=>absurd hk (by omega)
  simp only [HR,hq]
  exact Ok.no rfl (Ok.some rfl)
theorem Y9 (hs:DS s) {l:List Az} (h:QS s l):JP DD s (l.map Ti) = some (((l.length:Nat):Int),0):=by
 have hl:=h.len
 refine Ok.val ?_
 unfold JP
 refine Ok.bindE hs.rcheck (Ok.no rfl (Ok.no (by rw [List.length_map]; exact df) ?_))
 refine Ok.for (fun q=>q) l.length (fun _ _=>True) 0 (Nat.zero_le _) rfl trivial (by omega) (fun rec q hq hI=>?_) fun rec k q hk hq hI ih=>?_
 ·simp only [IN,hq,List.length_map]
  rw [BS]
  exact Ok.some rfl
 ·simp only [IN,hq,List.length_map]
  rw [BJ]
  exact Ok.bindE (cP hs h hk) (Ok.no rfl (ih _ Ip trivial))
theorem aQ (hs:DS s) {p:A3} (hl:p.Questions.length≤1000):∃ l e,BL DD s p = some (l,e)∧Dc DD s p = some (l,e)∧HQ DD l l = some true:=by
 obtain ⟨l,e,h1,h2,h3,_⟩:=P4 hs hl
 refine ⟨l,e,h1,h2,?_⟩
 rcases h3 with ⟨rfl,_⟩ | ⟨_,rfl,h4,h5⟩
 ·exact V8 (Nat.zero_le _) fun x hx=>by cases hx
 ·refine V8 (by rw [List.length_map]; omega) fun x hx=>?_
  obtain ⟨q,hq,rfl⟩:=List.mem_map.1 hx
  exact bT (h5 q hq)
theorem ce (haw:Ia DD = some true) (codes:List Int) (h:∀ v∈codes,0≤v∧v≤255) (hl:codes.length≤9223372036854775807) (raw:A3):Fh DD codes raw = some true:=by
 refine Ok.val ?_
 unfold Fh
 refine Ok.br (fun _=>Ok.bindE haw (Ok.some rfl)) fun hr=>?_
 have hr:raw.Questions.length≤10:=by have:=of_decide_eq_false hr; omega
 obtain ⟨c,hc1,hc⟩:=dE codes h hl
 refine Ok.bindE hc1 (Ok.bind (an hc) fun x hx=>?_)
 obtain ⟨hc2,hs⟩:=hx
 refine Ok.bind (Q8 hc2 hs) fun y hy=>?_
 obtain ⟨hc3,hd⟩:=hy
 have hdl:=hd.questions.len
 have step:∀ (p:A3),p.Questions.length≤1000→∀ (F:Option Bool),Ok F (· = true)→Ok ((BL DD x.1 p).bind fun x41=>(Dc DD x.1 p).bind fun x47=>bif x41.2 != x47.2 then some false else (HQ DD x41.1 x47.1).bind fun x56=>bif !x56 then some false else F) (· = true):=by
  intro p hp F hF
  obtain ⟨l,e,h1,h2,h3⟩:=aQ hs hp
  exact Ok.bindE h1 (Ok.bindE h2 (Ok.no (by simp) (Ok.bindE h3 (Ok.no rfl hF))))
 refine Ok.for (fun q=>q) 2 (fun _ _=>True) 0 (Nat.zero_le _) rfl trivial (by omega) (fun rec q hq hI=>?_) fun rec k q hk hq hI ih=>?_
 ·simp only [DZ,hq]
  refine Ok.no rfl ?_
  unfold FO
  obtain ⟨l,e,h1,_,h3,h4⟩:=P4 hs (p:=y.1) (by omega)
  have he:=h4 (hd.ok hs)
  rcases h3 with ⟨_,h3⟩ | ⟨_,rfl,_,_⟩
  ·exact absurd he h3
  ·exact Ok.bindE h1 (Ok.bindE (Y9 hs hd.questions) (Ok.yes (by simp) (Ok.bindE haw (Ok.some rfl))))
 ·simp only [DZ,hq]
  rcases (by omega:k = 0∨k = 1) with rfl | rfl
  ·exact Ok.yes rfl (Ok.bindE (x:=y.1) rfl (step y.1 (by omega) _ (ih _ Ip trivial)))
  ·exact Ok.yes rfl (Ok.bindE (x:=raw) rfl (step raw (by omega) _ (ih _ Ip trivial)))
end Go.Proofs.YtjghjdokjgcehaaGreatDoor.P
