/- LB -/
import Derived.Test.YtejfnieiaecpkaaGreatDoorLA
set_option linter.unusedVariables false
set_option linter.unusedSimpArgs false
namespace Go.Proofs.YtejfnieiaecpkaaGreatDoor.P
open Go Go.Abs Go.Proofs
set_option maxRecDepth 100000
variable {s:Aa}
inductive RC (s:Aa):Nat→Af→Prop
 | all (n:Nat):RC s n QI
 | under (n:Nat) (i:Nat) (hi0:1≤i) (hi:i < s.Columns.length) (h:HD s.Columns[i]) (L:Am) (hL:L∈Sx) (hL2:idx s.Lists s.Columns[i].List_ = some L) (k:Int) (h0:0≤k) (h1:k < L.Codes.length):RC s n { Op:=2,Column:=i,Code:=k,Low:=0,High:=0,Kids:=[] }
 | between (n:Nat) (i:Nat) (hi0:1≤i) (hi:i < s.Columns.length) (h:CS s.Columns[i]) (l u:Int) (h0:-1000000≤l) (h1:l≤u) (h2:u≤1000000):RC s n { Op:=3,Column:=i,Code:=0,Low:=l,High:=u,Kids:=[] }
 | miss (n:Nat) (i:Nat) (hi0:1≤i) (hi:i < s.Columns.length) (h:CS s.Columns[i]) (ho:s.Columns[i].Optional = true):RC s n { Op:=4,Column:=i,Code:=0,Low:=0,High:=0,Kids:=[] }
 | and (n na nb:Nat) (hn:na + nb + 2≤n) (a b:Af) (ha:RC s na a) (hb:RC s nb b):RC s n { Op:=5,Column:=0,Code:=0,Low:=0,High:=0,Kids:=[a,b] }
 | or (n na nb:Nat) (hn:na + nb + 2≤n) (a b:Af) (ha:RC s na a) (hb:RC s nb b):RC s n { Op:=6,Column:=0,Code:=0,Low:=0,High:=0,Kids:=[a,b] }
 | not (n na:Nat) (hn:na + 1≤n) (a:Af) (ha:RC s na a):RC s n { Op:=7,Column:=0,Code:=0,Low:=0,High:=0,Kids:=[a] }
theorem RC.mono {n:Nat} {c:Af} (h:RC s n c) {m:Nat} (hm:n≤m):RC s m c:=by
 cases h with
 | all n=>exact .all _
 | under n i hi0 hi h L hL hL2 k h0 h1=>exact .under _ i hi0 hi h L hL hL2 k h0 h1
 | between n i hi0 hi h l u h0 h1 h2=>exact .between _ i hi0 hi h l u h0 h1 h2
 | miss n i hi0 hi h ho=>exact .miss _ i hi0 hi h ho
 | and n na nb hn a b ha hb=>exact .and _ na nb (by omega) a b ha hb
 | or n na nb hn a b ha hb=>exact .or _ na nb (by omega) a b ha hb
 | not n na hn a ha=>exact .not _ na (by omega) a ha
def sm (l:List Nat):Nat:=(l.map (· + 1)).sum
theorem RC.sizes {n:Nat} {c:Af} (h:RC s n c):∃ ns:List Nat,ns.length = c.Kids.length∧ns.length≤2∧(∀ (k:Nat) (hk:k < ns.length) (hk2:k < c.Kids.length),RC s ns[k] c.Kids[k])∧sm ns≤n:=by
 have none:c.Kids = []→∃ ns:List Nat,ns.length = c.Kids.length∧ns.length≤2∧(∀ (k:Nat) (hk:k < ns.length) (hk2:k < c.Kids.length),RC s ns[k] c.Kids[k])∧sm ns≤n:=fun e=>⟨[],by rw [e]; rfl,by simp,(fun k hk=>by simp at hk),by simp [sm]⟩
 have two:∀ {na nb:Nat} {a b:Af},na + nb + 2≤n→RC s na a→RC s nb b→c.Kids = [a,b]→∃ ns:List Nat,ns.length = c.Kids.length∧ns.length≤2∧(∀ (k:Nat) (hk:k < ns.length) (hk2:k < c.Kids.length),RC s ns[k] c.Kids[k])∧sm ns≤n:=by
  intro na nb a b hn ha hb e
  refine ⟨[na,nb],by rw [e]; rfl,by simp,fun k hk hk2=>?_,by simp [sm]; omega⟩
  simp only [e]
  match k,hk with
  | 0,_=>exact ha
  | 1,_=>exact hb
 cases h with
 | and n na nb hn a b ha hb=>exact two hn ha hb rfl
 | or n na nb hn a b ha hb=>exact two hn ha hb rfl
 | not n na hn a ha =>
   refine ⟨[na],rfl,by simp,fun k hk hk2=>?_,by simp [sm]; omega⟩
   match k,hk with
   | 0,_=>exact ha
 | _=>exact none rfl
theorem RC.kids {n:Nat} {c:Af} (h:RC s n c):c.Kids.length≤2∧∀ k∈c.Kids,∃ m,n = m + 1∧RC s m k:=by
 cases h with
 | and n na nb hn a b ha hb=>exact ⟨by simp,fun k hk=>by simp at hk; rcases hk with rfl | rfl <;> exact ⟨n - 1,by omega,RC.mono (by assumption) (by omega)⟩⟩
 | or n na nb hn a b ha hb=>exact ⟨by simp,fun k hk=>by simp at hk; rcases hk with rfl | rfl <;> exact ⟨n - 1,by omega,RC.mono (by assumption) (by omega)⟩⟩
 | not n na hn a ha=>exact ⟨by simp,fun k hk=>by simp at hk; subst hk; exact ⟨n - 1,by omega,ha.mono (by omega)⟩⟩
 | _=>exact ⟨by simp [QI],fun k hk=>by simp [QI] at hk⟩
def DP:Nat→Af→Prop
 | 0,c=>c.Kids = []
 | k + 1,c=>∀ x∈c.Kids,DP k x
theorem DP.leaf:∀ {k:Nat} {c:Af},c.Kids = []→DP k c
 | 0,_,h=>h
 | k + 1,c,h=>fun x hx=>by rw [h] at hx; cases hx
theorem DP.mono:∀ {k:Nat} {c:Af},DP k c→∀ {m:Nat},k≤m→DP m c
 | 0,_,h,_,_=>.leaf h
 | k + 1,c,h,0,hm=>by omega
 | k + 1,c,h,m + 1,hm=>fun x hx=>DP.mono (h x hx) (by omega)
theorem Uw (hs:DS s):Ok (DC s 2) fun l=>l≠[]∧l.length≤6∧∀ v∈l,∃ i:Nat,v = i∧1≤i∧∃ hi:i < s.Columns.length,HD s.Columns[i]:=by
 have hc:=hs.cols_length
 have h1:∃ hi:1 < s.Columns.length,HD s.Columns[1]:=by
  refine ⟨by omega,?_⟩
  obtain ⟨j,ms,e,_⟩:=hs.cols
  have e2:s.Columns[1]? = some j7:=by rw [e]; cases j <;> rfl
  rw [List.getElem?_eq_getElem (by omega)] at e2
  rw [Option.some.inj e2]
  exact ⟨rfl,.inl rfl,rfl,rfl,rfl,rfl⟩
 unfold DC
 refine Ok.for (fun q=>q.1) s.Columns.length (fun k q=>q.2.length≤k∧(∀ v∈q.2,∃ i:Nat,v = i∧1≤i∧∃ hi:i < s.Columns.length,HD s.Columns[i])∧(1 < k→(1:Int)∈q.2)) 0 (Nat.zero_le _) rfl
  ⟨Nat.le_refl _,(fun v hv=>by cases hv),fun h=>by omega⟩ (by omega) (fun rec q hq hI=>?_) fun rec k q hk hq hI ih=>?_
 ·simp only [EL,hq]
  rw [Ba]
  exact Ok.some ⟨(fun e=>by have:=hI.2.2 (by omega); rw [e] at this; cases this),by have:=hI.1; omega,hI.2.1⟩
 ·simp only [EL,hq]
  rw [AK]
  have hI1:=hI.1
  refine Ok.idxn hk (Ok.br (fun e=>Ok.rm (by simp; omega) (ih _ Dv ⟨by simp; omega,fun v hv=>?_,fun hk1=>?_⟩)) fun e=>ih _ Dv ⟨by show q.2.length≤k + 1; omega,hI.2.1,fun hk1=>?_⟩)
  ·rcases List.mem_append.1 hv with hv | hv
   ·exact hI.2.1 v hv
   ·rw [List.mem_singleton] at hv
    have e:s.Columns[k].Kind = 2:=by simpa using e
    rcases hs.cl hk with ⟨_,h1⟩ | ⟨h0,h1 | h1⟩
    ·rw [h1] at e; cases e
    ·exact ⟨k,hv,h0,hk,h1⟩
    ·rw [h1.kind] at e; cases e
  ·show _∈q.2++[_]
   by_cases e:k = 1
   ·subst e; exact List.mem_append_right _ (List.mem_singleton.2 rfl)
   ·exact List.mem_append_left _ (hI.2.2 (by omega))
  ·by_cases e2:k = 1
   ·subst e2
    obtain ⟨_,h1⟩:=h1
    rw [h1.kind] at e
    cases e
   ·exact hI.2.2 (by omega)
theorem eW {c:Ab} (hc:Hc c) (hs:DS s):Ok (FE c s) fun r=>Hc r.2∧∃ i:Nat,r.1 = i∧1≤i∧∃ hi:i < s.Columns.length,HD s.Columns[i]:=by
 unfold FE
 refine Ok.bind (Uw hs) fun l hl=>?_
 have:l.length≠0:=fun e=>hl.1 (List.eq_nil_of_length_eq_zero e)
 have hl6:=hl.2.1
 refine Ok.bind (Dy hc (by omega) (by omega)) fun y hy=>Ok.idx hy.2.1 (by omega) (Ok.some ⟨hy.1,hl.2.2 _ (List.getElem_mem _)⟩)
theorem Vj {c:Ab} (hc:Hc c) (hs:DS s) (n:Nat):Ok ((B4 c s).bind fun x80 =>
        (idx s.Columns x80.1).bind fun x84 =>
        (AJ x80.2 (-3) 40).bind fun x88 =>
        (A6 x88.2 30).bind fun x94 =>
        some (({ Op:=3,Column:=x80.1,Code:=0,Low:=(IntKind.i64.wrap (x84.Low + x88.1)),High:=(IntKind.i64.wrap ((IntKind.i64.wrap (x84.Low + x88.1)) + x94.1)),Kids:=[] }:Af),x94.2)) fun r=>Hc r.2∧RC s n r.1∧r.1.Kids = []:=by
 refine Ok.bind (Mt hc hs) fun z hz=>?_
 obtain ⟨z1,z2⟩:=z
 obtain ⟨hz2,i,hzi,hi0,hi,hm⟩:=hz
 obtain rfl:z1 = (i:Int):=hzi
 refine Ok.idxn hi (Ok.bind (G6 hz2 (by omega) (by omega) (by omega) (by omega)) fun a ha=>Ok.bind (Dy ha.1 (by omega) (by omega)) fun b hb=>Ok.some ⟨hb.1,?_⟩)
 obtain ⟨l1,l2⟩:=hm.low
 obtain ⟨_,a1,a2⟩:=ha
 obtain ⟨_,b1,b2⟩:=hb
 have e1:IntKind.i64.wrap (s.Columns[i].Low + a.1) = s.Columns[i].Low + a.1:=wr
 rw [e1,wr]
 exact ⟨.between n i hi0 hi hm _ _ (by omega) (by omega) (by omega),rfl⟩
theorem bg {c:Ab} (hc:Hc c) (hs:DS s) (n:Nat):Ok (D5 s c) fun r=>Hc r.2∧RC s n r.1∧r.1.Kids = []:=by
 have miss:∀ {c:Ab},Hc c→Ok ((B4 c s).bind fun x101 =>
  (idx s.Columns x101.1).bind fun x105 =>
  bif x105.Optional then
   some (({ Op:=4,Column:=x101.1,Code:=0,Low:=0,High:=0,Kids:=[] }:Af),x101.2)
  else
   some (({ Op:=1,Column:=0,Code:=0,Low:=0,High:=0,Kids:=[] }:Af),x101.2)) fun r=>Hc r.2∧RC s n r.1∧r.1.Kids = []:=by
  intro c hc
  refine Ok.bind (Mt hc hs) fun z hz=>?_
  obtain ⟨z1,z2⟩:=z
  obtain ⟨hz2,i,hzi,hi0,hi,hm⟩:=hz
  obtain rfl:z1 = (i:Int):=hzi
  exact Ok.idxn hi (Ok.br (fun ho=>Ok.some ⟨hz2,.miss n i hi0 hi hm ho,rfl⟩) fun _=>Ok.some ⟨hz2,.all n,rfl⟩)
 unfold D5
 refine Ok.bind (Dy hc (by omega) (by omega)) fun y hy=>Ok.br (fun _=>?_) fun _=>Ok.br (fun _=>Vj hy.1 hs n) fun _=>Ok.br (fun _=>Vj hy.1 hs n) fun _=>Ok.br (fun _=>miss hy.1) fun _=>Ok.some ⟨hy.1,.all n,rfl⟩
 refine Ok.bind (eW hy.1 hs) fun z hz=>?_
 obtain ⟨z1,z2⟩:=z
 obtain ⟨hz2,i,hzi,hi0,hi,hm⟩:=hz
 obtain rfl:z1 = (i:Int):=hzi
 obtain ⟨L,hL,hL2⟩:=hs.clist hm
 have hne:=(KC hL).some_
 have hlen:1≤L.Codes.length∧L.Codes.length≤1000:=by
  have:Sx.all (fun L=>decide (1≤L.Codes.length) && decide (L.Codes.length≤1000)) = true:=by decide +kernel
  have:=List.all_eq_true.1 this L hL
  simpa using this
 refine Ok.idxn hi (Ok.bindE hL2 (Ok.bind (Dy hz2 (by omega) (by omega)) fun u hu=>Ok.some ⟨hu.1,.under n i hi0 hi hm L hL hL2 _ hu.2.1 hu.2.2,rfl⟩))
def bw:Nat→Nat
 | 0=>0
 | n + 1=>2 * bw n + 2
theorem PV (hs:DS s):∀ (n d:Nat) {c:Ab},Hc c→n < d→n≤1000→Ok (Cg d c s n) fun r=>Hc r.2∧RC s (bw n) r.1∧DP n r.1
 | 0,d + 1,c,hc,_,_=>by
   show Ok (Dj d (Cg d) c s 0) _
   unfold Dj
   exact Ok.no rfl ((bg hc hs 0).mono fun r hr=>⟨hr.1,hr.2.1,.leaf hr.2.2⟩)
 | n + 1,d + 1,c,hc,hd,hn=>by
   have ih:=fun {c:Ab} (hc:Hc c)=>PV hs n d hc (by omega) (by omega)
   show Ok (Dj d (Cg d) c s ((n + 1:Nat):Int)) _
   have e:IntKind.i64.wrap (((n + 1:Nat):Int) - 1) = (n:Int):=by rw [wr]; omega
   have hb:bw (n + 1) = 2 * bw n + 2:=rfl
   unfold Dj
   rw [e]
   refine Ok.yes dt (Ok.bind (Dy hc (by omega) (by omega)) fun y hy=>Ok.br (fun _=>?_) fun _=>Ok.br (fun _=>?_) fun _=>Ok.br (fun _=>?_) fun _=>(bg hy.1 hs _).mono fun r hr=>⟨hr.1,hr.2.1,.leaf hr.2.2⟩)
   ·exact Ok.bind (ih hy.1) fun a ha=>Ok.some ⟨ha.1,.not _ _ (by omega) _ ha.2.1,fun x hx=>by rw [List.mem_singleton.1 hx]; exact ha.2.2⟩
   ·exact Ok.bind (ih hy.1) fun a ha=>Ok.bind (ih ha.1) fun b hb=>Ok.some ⟨hb.1,.and _ _ _ (by omega) _ _ ha.2.1 hb.2.1,fun x hx=>by
     simp only [List.mem_cons,List.not_mem_nil,or_false] at hx
     rcases hx with rfl | rfl
     ·exact ha.2.2
     ·exact hb.2.2⟩
   ·exact Ok.bind (ih hy.1) fun a ha=>Ok.bind (ih ha.1) fun b hb=>Ok.some ⟨hb.1,.or _ _ _ (by omega) _ _ ha.2.1 hb.2.1,fun x hx=>by
     simp only [List.mem_cons,List.not_mem_nil,or_false] at hx
     rcases hx with rfl | rfl
     ·exact ha.2.2
     ·exact hb.2.2⟩
theorem Sg {ns:List Nat} {k:Nat} (hk:k < ns.length):sm (ns.take (k + 1)) = sm (ns.take k) + (ns[k] + 1):=by
 unfold sm
 rw [List.take_succ_eq_append_getElem hk,List.map_append,List.sum_append]
 simp
theorem I9 (ns:List Nat) (k:Nat):sm (ns.take k)≤sm ns:=by
 have:sm ns = sm (ns.take k) + sm (ns.drop k):=by
  unfold sm
  rw [← List.sum_append,← List.map_append,List.take_append_drop]
 omega
theorem dQ:∀ (n d:Nat) {c:Af} {m:Int},RC s n c→n < d→n≤1000→-10000≤m→m≤1000→Ok (Ds d c m) fun r=>1≤r∧r≤n + 1
 | n,d + 1,c,m,h,hd,hn,hm0,hm1=>by
   obtain ⟨ns,hl,hl2,hk,hsum⟩:=h.sizes
   show Ok (Dm d (Ds d) c m) _
   unfold Dm
   refine Ok.for (fun q=>q.2) c.Kids.length (fun k q=>1≤q.1∧q.1≤1 + (sm (ns.take k):Nat)) 0 (Nat.zero_le _) rfl ⟨by omega,by simp [sm]⟩ (by omega) (fun rec q hq hI=>?_) fun rec k q hk1 hq hI ih=>?_
   ·have:=I9 ns c.Kids.length
    simp only [E2,hq]
    rw [Ba]
    exact Ok.some ⟨hI.1,by have:=hI.2; omega⟩
   ·have hk2:k < ns.length:=by omega
    have h1:=I9 ns k
    have h2:=I9 ns (k + 1)
    have h3:=Sg hk2
    obtain ⟨i1,i2⟩:=hI
    simp only [E2,hq]
    rw [AK]
    refine Ok.idxn hk1 (Ok.brd (fun _=>Ok.some ⟨i1,by omega⟩) fun hle=>?_)
    have e1:IntKind.i64.wrap (m - q.1) = m - q.1:=wr
    rw [e1]
    refine Ok.bind (dQ ns[k] d (hk k hk2 hk1) (by omega) (by omega) (by omega) (by omega)) fun r hr=>ih _ Dv ?_
    show 1≤IntKind.i64.wrap (q.1 + r)∧IntKind.i64.wrap (q.1 + r)≤1 + (sm (ns.take (k + 1)):Nat)
    rw [wr,h3]
    omega
end Go.Proofs.YtejfnieiaecpkaaGreatDoor.P
namespace Go.Proofs.YtejfnieiaecpkaaGreatDoor.P
open Go Go.Abs Go.Proofs
set_option maxRecDepth 100000
variable {s:Aa}
theorem DP.zero_kids {c:Af} (h:DP 0 c):c.Kids = []:=h
theorem fU:∀ (n d k:Nat) {c:Af},RC s n c→n < d→DP k c→k≤100→Ok (Cv d c) fun r=>1≤r∧r≤k + 1
 | n,d + 1,k0,c,h,hd,hp,hk0=>by
   obtain ⟨hk1,hk2⟩:=h.kids
   show Ok (Dc d (Cv d) c) _
   unfold Dc
   refine Ok.for (fun q=>q.2) c.Kids.length (fun k q=>0≤q.1∧q.1≤k0) 0 (Nat.zero_le _) rfl ⟨Int.le_refl _,by show (0:Int)≤k0; omega⟩ (by omega) (fun rec q hq hI=>?_) fun rec k q hk hq hI ih=>?_
   ·simp only [Ec,hq]
    rw [Ba,wr]
    exact Ok.some ⟨by omega,by omega⟩
   ·obtain ⟨m,hm,hr⟩:=hk2 _ (List.getElem_mem hk)
    subst hm
    cases k0 with
    | zero=>have:=hp.zero_kids; rw [this] at hk; simp at hk
    | succ j =>
      simp only [Ec,hq]
      rw [AK]
      refine Ok.idxn hk (Ok.bind (fU m d j hr (by omega) (hp _ (List.getElem_mem hk)) (by omega)) fun r hr=>ih _ Dv ?_)
      show 0≤(if r > q.1 then r else q.1)∧(if r > q.1 then r else q.1)≤_
      split <;> omega
theorem YL (hs:DS s) {n:Nat} {c:Af} (h:RC s n c):AR s c = some 0:=by
 have hc:=hs.cols_length
 refine Ok.val ?_
 unfold AR
 have col:∀ (i:Nat),i < s.Columns.length→(bif decide ((i:Int) < 0) then true else decide ((i:Int) ≥ ((s.Columns.length:Nat):Int))) = false:=by
  intro i hi
  rw [df,df]
  rfl
 cases h with
 | all=>exact Ok.no rfl (Ok.bindE (x:=0) rfl (Ok.no rfl (Ok.bindE (x:=true) rfl (Ok.no rfl (Ok.yes rfl (Ok.some rfl))))))
 | and=>exact Ok.no rfl (Ok.bindE (x:=2) rfl (Ok.no rfl (Ok.bindE (x:=true) rfl (Ok.no rfl (Ok.yes rfl (Ok.some rfl))))))
 | or=>exact Ok.no rfl (Ok.bindE (x:=2) rfl (Ok.no rfl (Ok.bindE (x:=true) rfl (Ok.no rfl (Ok.yes rfl (Ok.some rfl))))))
 | not=>exact Ok.no rfl (Ok.bindE (x:=1) rfl (Ok.no rfl (Ok.bindE (x:=true) rfl (Ok.no rfl (Ok.yes rfl (Ok.some rfl))))))
 | under n i hi0 hi h L hL hL2 k h0 h1 =>
   refine Ok.no rfl (Ok.bindE (x:=0) rfl (Ok.no rfl (Ok.bindE (x:=true) rfl (Ok.no rfl (Ok.no rfl (Ok.no (col i hi) ?_))))))
   unfold AF
   exact Ok.idxn hi (Ok.yes rfl (Ok.no (by rw [h.kind]; rfl) (Ok.no (decide_eq_false (by show ¬ k < 0; omega)) (Ok.bindE hL2 (Ok.no (decide_eq_false (by show ¬ k ≥ _; omega)) (Ok.some rfl))))))
 | between n i hi0 hi h l u h0 h1 h2 =>
   refine Ok.no rfl (Ok.bindE (x:=0) rfl (Ok.no rfl (Ok.bindE (x:=true) rfl (Ok.no rfl (Ok.no rfl (Ok.no (col i hi) ?_))))))
   unfold AF
   refine Ok.idxn hi (Ok.no rfl (Ok.yes rfl (Ok.no (by rw [h.kind]; rfl) (Ok.no ?_ (Ok.some rfl)))))
   show (bif (bif decide (l > u) then true else decide (l < -1000000)) then true else decide (u > 1000000)) = false
   rw [df,df,df]
   rfl
 | miss n i hi0 hi h ho =>
   refine Ok.no rfl (Ok.bindE (x:=0) rfl (Ok.no rfl (Ok.bindE (x:=true) rfl (Ok.no rfl (Ok.no rfl (Ok.no (col i hi) ?_))))))
   unfold AF
   exact Ok.idxn hi (Ok.no rfl (Ok.no rfl (Ok.yes rfl (Ok.no (by rw [h.kind,ho]; rfl) (Ok.some rfl)))))
theorem Tz (hs:DS s):∀ (n d:Nat) {c:Af},RC s n c→n < d→BK d s c = some 0
 | n,d + 1,c,h,hd=>by
   obtain ⟨hk1,hk2⟩:=h.kids
   refine Ok.val ?_
   show Ok (BI d (BK d) s c) _
   unfold BI
   refine Ok.bindE (YL hs h) (Ok.no rfl ?_)
   refine Ok.for (fun q=>q) c.Kids.length (fun _ _=>True) 0 (Nat.zero_le _) rfl trivial (by omega) (fun rec q hq hI=>?_) fun rec k q hk hq hI ih=>?_
   ·simp only [Bw,hq]
    rw [Ba]
    exact Ok.some rfl
   ·obtain ⟨m,hm,hr⟩:=hk2 _ (List.getElem_mem hk)
    subst hm
    simp only [Bw,hq]
    rw [AK]
    exact Ok.idxn hk (Ok.bindE (Tz hs m d hr (by omega)) (Ok.no rfl (ih _ Dv trivial)))
theorem RC.check (hs:DS s) {n:Nat} {c:Af} (h:RC s n c) (hn:n≤39∧DP 9 c) {d:Nat} (hd:n < d):B7 d s c = some 0:=by
 refine Ok.val ?_
 unfold B7
 exact Ok.bindE hs.check (Ok.no rfl (Ok.bind (dQ n d h hd (by omega) (by omega) (by omega)) fun r hr=>Ok.no df (Ok.bind (fU n d 9 h hd hn.2 (by omega)) fun r hr=>Ok.no df (Ok.bindE (Tz hs n d h hd) (Ok.some rfl)))))
theorem QC:∀ (d:Nat) (c:Af),Cv d c = Th d c
 | 0,_=>rfl
 | d + 1,c=>by
   show Dc d (Cv d) c = Kv d (Th d) c
   rw [show Cv d = Th d from funext (QC d)]
   rfl
theorem Vp {σ ρ:Type} {f g:(σ→Option ρ)→σ→Option ρ} (I:σ→Prop) (h:∀ r1 r2 s,I s→(∀ s',I s'→r1 s' = r2 s')→f r1 s = g r2 s):∀ n s,I s→iter f n s = iter g n s
 | 0,_,_=>rfl
 | n + 1,s,hs=>h _ _ s hs fun s' hs'=>Vp I h n s' hs'
def nds:Nat→Af→Nat
 | 0,_=>1
 | d + 1,c=>1 + (c.Kids.map (nds d)).sum
theorem PW:∀ (d:Nat) (c:Af),1≤nds d c
 | 0,_=>Nat.le_refl _
 | d + 1,c=>by unfold nds; omega
theorem Nh {d:Nat} {l:List Af} {k:Nat} (hk:k < l.length):((l.take (k + 1)).map (nds d)).sum = ((l.take k).map (nds d)).sum + nds d l[k]:=by
 rw [List.take_succ_eq_append_getElem hk,List.map_append,List.sum_append]
 simp
theorem IM {d:Nat} (l:List Af) (k:Nat):((l.take k).map (nds d)).sum≤(l.map (nds d)).sum:=by
 have:(l.map (nds d)).sum = ((l.take k).map (nds d)).sum + ((l.drop k).map (nds d)).sum:=by
  rw [← List.sum_append,← List.map_append,List.take_append_drop]
 omega
theorem Uj {d:Nat} (l:List Af) (k:Nat) (hk:k≤l.length):k≤((l.take k).map (nds d)).sum:=by
 induction k with
 | zero=>omega
 | succ k ih=>rw [Nh (by omega)]; have:=PW d l[k]; have:=ih (by omega); omega
theorem Sy:∀ (d m:Nat) (c:Af),m < d→m≤1000→Ds d c m = some ((min (nds d c) (m + 1):Nat):Int)∧FV d c ((m + 1:Nat):Int) = some ((min (nds d c) (m + 1):Nat):Int)
 | d + 1,m,c,hd,hm=>by
   have hn:nds (d + 1) c = 1 + (c.Kids.map (nds d)).sum:=rfl
   constructor
   ·refine Ok.val ?_
    show Ok (Dm d (Ds d) c m) _
    unfold Dm
    refine Ok.loop (fun q=>∃ k:Nat,q.2 = k∧k≤c.Kids.length∧q.1 = ((min (1 + ((c.Kids.take k).map (nds d)).sum) (m + 1):Nat):Int)∧k≤m) (fun q=>m + 1 - q.2.toNat) ⟨0,rfl,Nat.zero_le _,by simp,Nat.zero_le _⟩ (by unfold A8; show m + 1 - (0:Int).toNat < _; simp; omega) fun rec q ⟨k,hq,hk,hI,hkm⟩ ih=>?_
    simp only [E2,hq,hI]
    refine Ok.brd (fun hlt=>?_) fun hge=>Ok.some ?_
    ·have hk1:k < c.Kids.length:=by omega
     have h1:=IM (d:=d) c.Kids k
     have h2:=IM (d:=d) c.Kids (k + 1)
     have h3:=Nh (d:=d) hk1
     have h4:=Uj (d:=d) c.Kids k (by omega)
     have h5:=PW d c.Kids[k]
     refine Ok.idxn hk1 (Ok.brd (fun hgt=>Ok.some ?_) fun hle=>?_)
     ·rw [hn]; congr 1; omega
     have e1:IntKind.i64.wrap ((m:Int) - ((min (1 + ((c.Kids.take k).map (nds d)).sum) (m + 1):Nat):Int)) = ((m - (1 + ((c.Kids.take k).map (nds d)).sum):Nat):Int):=by
      rw [wr]; omega
     rw [e1]
     refine Ok.bindE (Sy d _ c.Kids[k] (by omega) (by omega)).1 (ih _ ⟨k + 1,Dv,by omega,?_,by omega⟩ ?_)
     ·show IntKind.i64.wrap (_ + _) = _
      rw [wr]; omega
     ·show m + 1 - (IntKind.i64.wrap ((k:Int) + 1)).toNat < m + 1 - q.2.toNat
      rw [Dv,hq]; omega
    ·rw [show c.Kids.take k = c.Kids from List.take_of_length_le (by omega)]; rfl
   ·refine Ok.val ?_
    show Ok (Fw d (FV d) c ((m + 1:Nat):Int)) _
    unfold Fw
    refine Ok.loop (fun q=>∃ k:Nat,q.2 = k∧k≤c.Kids.length∧q.1 = ((min (1 + ((c.Kids.take k).map (nds d)).sum) (m + 1):Nat):Int)∧k≤m) (fun q=>m + 1 - q.2.toNat) ⟨0,rfl,Nat.zero_le _,by simp,Nat.zero_le _⟩ (by unfold A8; show m + 1 - (0:Int).toNat < _; simp; omega) fun rec q ⟨k,hq,hk,hI,hkm⟩ ih=>?_
    simp only [Ht,hq,hI]
    by_cases hlt:((k:Nat):Int) < c.Kids.length
    ·rw [decide_eq_true hlt,cond_true]
     have hk1:k < c.Kids.length:=by omega
     have h1:=IM (d:=d) c.Kids k
     have h2:=IM (d:=d) c.Kids (k + 1)
     have h3:=Nh (d:=d) hk1
     have h4:=Uj (d:=d) c.Kids k (by omega)
     have h5:=PW d c.Kids[k]
     refine Ok.brd (fun hle=>Ok.idxn hk1 ?_) fun hgt=>Ok.some ?_
     ·have e1:IntKind.i64.wrap (((m + 1:Nat):Int) - ((min (1 + ((c.Kids.take k).map (nds d)).sum) (m + 1):Nat):Int)) = (((m - (1 + ((c.Kids.take k).map (nds d)).sum)) + 1:Nat):Int):=by
       rw [wr]; omega
      rw [e1]
      refine Ok.bindE (Sy d _ c.Kids[k] (by omega) (by omega)).2 (ih _ ⟨k + 1,Dv,by omega,?_,by omega⟩ ?_)
      ·show IntKind.i64.wrap (_ + _) = _
       rw [wr]; omega
      ·show m + 1 - (IntKind.i64.wrap ((k:Int) + 1)).toNat < m + 1 - q.2.toNat
       rw [Dv,hq]; omega
     ·rw [hn]; congr 1; omega
    ·rw [decide_eq_false hlt,cond_false,cond_false]
     refine Ok.some ?_
     rw [show c.Kids.take k = c.Kids from List.take_of_length_le (by omega)]; rfl
theorem RC.nds:∀ (n d:Nat) {c:Af},RC s n c→nds d c≤n + 1
 | n,0,c,_=>by show 1≤n + 1; omega
 | n,d + 1,c,h=>by
   obtain ⟨ns,hl,hl2,hk,hsum⟩:=h.sizes
   have:∀ k,k≤c.Kids.length→((c.Kids.take k).map (P.nds d)).sum≤sm (ns.take k):=by
    intro k
    induction k with
    | zero=>simp
    | succ k ih =>
      intro hk1
      rw [Nh (by omega),Sg (by omega)]
      have:=ih (by omega)
      have:=RC.nds ns[k] d (hk k (by omega) (by omega))
      omega
   have:=this c.Kids.length (Nat.le_refl _)
   rw [List.take_length,show ns.take c.Kids.length = ns from List.take_of_length_le (by omega)] at this
   show 1 + (c.Kids.map (P.nds d)).sum≤n + 1
   omega
theorem eC:∀ (n d:Nat) {c:Af} {m:Int},RC s n c→n < d→n≤1000→-10000≤m→m≤1000→Ok (FV d c m) fun r=>1≤r∧r≤n + 1
 | n,d + 1,c,m,h,hd,hn,hm0,hm1=>by
   obtain ⟨ns,hl,hl2,hk,hsum⟩:=h.sizes
   show Ok (Fw d (FV d) c m) _
   unfold Fw
   refine Ok.for (fun q=>q.2) c.Kids.length (fun k q=>1≤q.1∧q.1≤1 + (sm (ns.take k):Nat)) 0 (Nat.zero_le _) rfl ⟨by omega,by simp [sm]⟩ (by omega) (fun rec q hq hI=>?_) fun rec k q hk1 hq hI ih=>?_
   ·have:=I9 ns c.Kids.length
    simp only [Ht,hq]
    refine Ok.no ?_ (Ok.some ⟨hI.1,by have:=hI.2; omega⟩)
    rw [df]; rfl
   ·have hk2:k < ns.length:=by omega
    have h1:=I9 ns k
    have h2:=I9 ns (k + 1)
    have h3:=Sg hk2
    obtain ⟨i1,i2⟩:=hI
    simp only [Ht,hq]
    rw [decide_eq_true (show ((k:Nat):Int) < c.Kids.length by omega),cond_true]
    refine Ok.brd (fun _=>Ok.idxn hk1 ?_) fun hle=>Ok.some ⟨i1,by omega⟩
    have e1:IntKind.i64.wrap (m - q.1) = m - q.1:=wr
    rw [e1]
    refine Ok.bind (eC ns[k] d (hk k hk2 hk1) (by omega) (by omega) (by omega) (by omega)) fun r hr=>ih _ Dv ?_
    show 1≤IntKind.i64.wrap (q.1 + r)∧IntKind.i64.wrap (q.1 + r)≤1 + (sm (ns.take (k + 1)):Nat)
    rw [wr,h3]
    omega
theorem bk {i:Nat} (hi:i < s.Columns.length) (k:Int):F7 s i k = some (s.Columns[i].Kind==k):=by
 refine Ok.val ?_
 unfold F7
 refine Ok.yes ?_ (Ok.idxn hi (Ok.some rfl))
 rw [dt,dt]; rfl
theorem dm {self:Aa→Af→Option Int} {c:Af} (h:c.Kids.length≤2) (hk:∀ k∈c.Kids,self s k = some 0):iter (fun rec1 s_1=>Fp c self s (fun v7_1=>some 0) rec1 s_1) A8 0 = some 0:=by
 refine Ok.val ?_
 refine Ok.for (fun q=>q) c.Kids.length (fun _ _=>True) 0 (Nat.zero_le _) rfl trivial (by omega) (fun rec q hq hI=>?_) fun rec k q hk2 hq hI ih=>?_
 ·simp only [Fp,hq]
  rw [Ba]
  exact Ok.some rfl
 ·simp only [Fp,hq]
  rw [AK]
  exact Ok.idxn hk2 (Ok.bindE (hk _ (List.getElem_mem hk2)) (Ok.no rfl (ih _ Dv trivial)))
theorem hJ (hs:DS s):∀ (n d:Nat) {c:Af},RC s n c→n < d→D3 d s c = some 0
 | n,d + 1,c,h,hd=>by
   obtain ⟨hk1,hk2⟩:=h.kids
   have hkid:∀ k∈c.Kids,D3 d s k = some 0:=fun k hk=>by
    obtain ⟨m,hm,hr⟩:=hk2 k hk
    subst hm
    exact hJ hs m d hr (by omega)
   have last:=dm (s:=s) (self:=D3 d) hk1 hkid
   refine Ok.val ?_
   show Ok (CU d (D3 d) s c) _
   unfold CU
   cases h with
   | all =>
     refine Ok.yes rfl ?_
     unfold AC
     refine Ok.no rfl (Ok.no rfl (Ok.no rfl (Ok.no rfl ?_)))
     unfold Bv
     refine Ok.no rfl ?_
     unfold BL
     exact Ok.no rfl (Ok.eq last)
   | and =>
     refine Ok.no rfl (Ok.no rfl (Ok.no rfl (Ok.no rfl (Ok.yes rfl ?_))))
     unfold AC
     refine Ok.no rfl (Ok.no rfl (Ok.no rfl (Ok.no rfl ?_)))
     unfold Bv
     refine Ok.no rfl ?_
     unfold BL
     exact Ok.no rfl (Ok.eq last)
   | or =>
     refine Ok.no rfl (Ok.no rfl (Ok.no rfl (Ok.no rfl (Ok.no rfl (Ok.yes rfl ?_)))))
     unfold AC
     refine Ok.no rfl (Ok.no rfl (Ok.no rfl (Ok.no rfl ?_)))
     unfold Bv
     refine Ok.no rfl ?_
     unfold BL
     exact Ok.no rfl (Ok.eq last)
   | not =>
     refine Ok.no rfl (Ok.no rfl (Ok.no rfl (Ok.no rfl (Ok.no rfl (Ok.no rfl (Ok.yes rfl ?_))))))
     unfold AC
     refine Ok.no rfl (Ok.no rfl (Ok.no rfl (Ok.no rfl ?_)))
     unfold Bv
     refine Ok.no rfl ?_
     unfold BL
     exact Ok.no rfl (Ok.eq last)
   | under n i hi0 hi h L hL hL2 k h0 h1 =>
     refine Ok.no rfl (Ok.yes rfl ?_)
     unfold AC
     refine Ok.no (by simp) (Ok.yes rfl (Ok.bindE (bk hi 2) (Ok.no (by rw [h.kind]; rfl) ?_)))
     unfold Bv
     refine Ok.yes rfl (Ok.no (decide_eq_false (by show ¬ k < 0; omega)) (Ok.idxn hi (Ok.bindE hL2 (Ok.no (decide_eq_false (by show ¬ k ≥ _; omega)) ?_))))
     unfold BL
     exact Ok.no rfl (Ok.eq last)
   | between n i hi0 hi h l u h0 h1 h2 =>
     refine Ok.no rfl (Ok.no rfl (Ok.yes rfl ?_))
     unfold AC
     refine Ok.no (by simp) (Ok.no rfl (Ok.yes rfl (Ok.bindE (bk hi 3) (Ok.no (by rw [h.kind]; rfl) ?_))))
     unfold Bv
     refine Ok.no rfl ?_
     unfold BL
     refine Ok.no ?_ (Ok.eq last)
     show (bif true then (bif (bif decide (l < -1000000) then true else decide (u > 1000000)) then true else decide (l > u)) else false) = false
     rw [df,df,df]
     rfl
   | miss n i hi0 hi h ho =>
     refine Ok.no rfl (Ok.no rfl (Ok.no rfl (Ok.yes rfl ?_)))
     unfold AC
     refine Ok.no (by simp) (Ok.no rfl (Ok.no rfl (Ok.yes rfl (Ok.bindE (bk hi 3) (Ok.no (by rw [h.kind]; rfl) (Ok.idxn hi (Ok.no (by rw [ho]; rfl) ?_)))))))
     unfold Bv
     refine Ok.no rfl ?_
     unfold BL
     exact Ok.no rfl (Ok.eq last)
theorem RC.rcheck (hs:DS s) {n:Nat} {c:Af} (h:RC s n c) (hn:n≤39∧DP 9 c) {d:Nat} (hd:n < d):B0 d s c = some 0:=by
 refine Ok.val ?_
 unfold B0
 exact Ok.bindE hs.rcheck (Ok.no rfl (Ok.bind (eC n d h hd (by omega) (by omega) (by omega)) fun r hr=>Ok.no df (Ok.bind (QC d c ▸ fU n d 9 h hd hn.2 (by omega)) fun r hr=>Ok.no df (Ok.bindE (hJ hs n d h hd) (Ok.some rfl)))))
def GC (s:Aa) (c:Af):Prop:=∃ n,RC s n c∧n≤39∧DP 9 c
theorem GC.check (hs:DS s) {c:Af} (h:GC s c) {d:Nat} (hd:40≤d):B7 d s c = some 0:=by
 obtain ⟨n,h1,h2⟩:=h
 exact h1.check hs h2 (by omega)
theorem GC.rcheck (hs:DS s) {c:Af} (h:GC s c) {d:Nat} (hd:40≤d):B0 d s c = some 0:=by
 obtain ⟨n,h1,h2⟩:=h
 exact h1.rcheck hs h2 (by omega)
theorem GC.op {c:Af} (h:GC s c):(c.Op != 0) = true:=by
 obtain ⟨n,h1,_⟩:=h
 cases h1 <;> rfl
theorem GC.all:GC s QI:=⟨0,.all 0,by omega,.leaf rfl⟩
theorem GC.drawn {n:Nat} {c:Af} (h:RC s (bw n) c∧DP n c) (hn:n≤3):GC s c:=by
 refine ⟨bw n,h.1,?_,h.2.mono (by omega)⟩
 rcases (by omega:n = 0∨n = 1∨n = 2∨n = 3) with rfl | rfl | rfl | rfl <;> decide
end Go.Proofs.YtejfnieiaecpkaaGreatDoor.P
namespace Go.Proofs.YtejfnieiaecpkaaGreatDoor.P
open Go Go.Abs Go.Proofs
set_option maxRecDepth 100000
variable {s:Aa}
theorem SH {α β:Type} {l:List α} {i:Int} {f g:α→Option β} (h:∀ x∈l,f x = g x):(idx l i).bind f = (idx l i).bind g:=by
 cases e:idx l i with
 | none=>rfl
 | some x =>
   have:x∈l:=by
    unfold idx at e
    split at e
    ·exact List.mem_of_getElem? e
    ·cases e
   exact h x this
def aU (i:Nat) (k:Int):Af:={ Op:=2,Column:=i,Code:=k,Low:=0,High:=0,Kids:=[] }
def R3 (L:Am) (k v:Int):Option Int:=(K9 L v k).bind fun x=>(Dp x).bind fun y=>some y
def Zq (L:Am) (k v:Int):Option Int:=(KB L v k).bind fun x=>bif x then some 1 else some (-1)
def tC (L:Am) (k v:Int):Int:=(R3 L k v).getD 0
def sB (L:Am) (l k:Int) (rec1:(Int × List (Int × Int))→Option Bool) (v:Int) (b:List (Int × Int)):Option Bool :=
 bif (decide (v < (((Bl L).length:Nat):Int))) then
  (idx (Bl L) v).bind fun x43=>(GD L x43 l).bind fun x48=>(R3 L k x43).bind fun x52 =>
  bif (bif ((Je x48 b).isSome) then (((Je x48 b).getD 0) != x52) else false) then some false else rec1 ((IntKind.i64.wrap (v + 1)),(US x48 x52 b))
 else some true
def KX (L:Am) (k l:Int):Option Bool:=iter (fun rec1 s=>sB L l k rec1 s.1 s.2) A8 (0,[])
def jS (L:Am) (l k v9:Int) (kont:Int→Option Bool) (rec2:Int→Option Bool) (v10:Int):Option Bool :=
 bif (decide (v10 < v9)) then
  (idx (Bl L) v9).bind fun x44=>(some (cv L l x44)).bind fun x46=>(idx (Bl L) v10).bind fun x53=>(some (cv L l x53)).bind fun x55 =>
  bif (x46==x55) then
   (idx (Bl L) v9).bind fun x62=>(Zq L k x62).bind fun x64=>(idx (Bl L) v10).bind fun x69=>(Zq L k x69).bind fun x71 =>
   bif (x64 != x71) then some false else rec2 (IntKind.i64.wrap (v10 + 1))
  else rec2 (IntKind.i64.wrap (v10 + 1))
 else kont v10
def gI (L:Am) (k l:Int):Option Bool:=iter (fun rec1 v9=>bif (decide (v9 < (((Bl L).length:Nat):Int))) then iter (fun rec2 s=>jS L l k v9 (fun _=>rec1 (IntKind.i64.wrap (v9 + 1))) rec2 s) A8 0 else some true) A8 0
def Z5 (L:Am) (l val:Int):Option Int:=iter (fun rec1 v=>bif (decide (v < (((Bl L).length:Nat):Int))) then
    (idx (Bl L) v).bind fun x37=>(some (cv L l x37)).bind fun x39=>bif (x39==val) then (idx (Bl L) v).bind fun x44=>some x44 else rec1 (IntKind.i64.wrap (v + 1))
 else some (-1)) A8 0
def iD (L:Am) (l v:Int):Int:=((W7 L l (cv L l v)).getD (0,false)).1
def js (L:Am) (l v:Int):Int:=(Z5 L l (cv L l v)).getD (-1)
def iL (L:Am):List Int:=(List.range (HI L).toNat).map fun l:Nat=>(l:Int)
def ka (L:Am):List Int:=(List.range L.Codes.length).map fun l:Nat=>(l:Int)
def Z6 (L:Am) (k l:Int):Bool :=
 (KX L k l==gI L k l) && (KX L k l).isSome && (bif KX L k l==some true then
  ((Bl L).all fun v=>R3 L k v==some (tC L k v) && R3 L k (iD L l v)==some (tC L k v) && Zq L k (js L l v)==some (tC L k v) && (Z5 L l (cv L l v)).isSome) &&
  ((iL L).all fun l'=>decide (l' < l) || KX L k l'==some true) else true)
theorem QP:(Sx.all fun L=>((Bl L).all fun v=>cv L 0 v==0) && (ka L).all fun k=>(KX L k (HI L - 1)==some true) && (iL L).all fun l=>Z6 L k l) = true:=by decide +kernel
theorem gM {i:Nat} (hi:i < s.Columns.length) {L:Am} (hL2:idx s.Lists s.Columns[i].List_ = some L) (k v:Int):B2 s (aU i k) v = R3 L k v:=by
 unfold B2
 show (idx s.Columns (i:Int)).bind _ = _
 rw [BP hi,Option.bind_some,hL2]
 rfl
theorem gT {i:Nat} (hi:i < s.Columns.length) {L:Am} (hL2:idx s.Lists s.Columns[i].List_ = some L) (k v:Int):Bu s (aU i k) v = Zq L k v:=by
 unfold Bu
 show (idx s.Columns (i:Int)).bind _ = _
 rw [BP hi,Option.bind_some,hL2]
 rfl
theorem jn {i:Nat} (hi:i < s.Columns.length) {L:Am} (hL:L∈Sx) (hL2:idx s.Lists s.Columns[i].List_ = some L) (k l:Int):Bi s (aU i k) l = KX L k l:=by
 have hcl:=KC hL
 have h2:=hcl.lev2; have h3:=hcl.lev3
 unfold Bi
 show (idx s.Columns (i:Int)).bind _ = _
 rw [BP hi,Option.bind_some]
 show (idx s.Lists s.Columns[i].List_).bind _ = _
 rw [hL2,Option.bind_some,hcl.lev,Option.bind_some,wr,hcl.leaves,Option.bind_some]
 unfold KX
 congr 1
 funext rec1 st
 unfold GV sB
 simp only [gM hi hL2]
theorem rleaves {i:Nat} (hi:i < s.Columns.length) {L:Am} (hL:L∈Sx) (hL2:idx s.Lists s.Columns[i].List_ = some L):Cl s i = some (Bl L):=by
 have hcl:=KC hL
 have h2:=hcl.lev2; have h3:=hcl.lev3
 unfold Cl
 rw [BP hi,Option.bind_some,hL2,Option.bind_some,hcl.rlev,Option.bind_some,wr,hcl.rleaves]
 rfl
theorem ef {i:Nat} {hi:i < s.Columns.length} (h:HD s.Columns[i]) {L:Am} (hL:L∈Sx) (hL2:idx s.Lists s.Columns[i].List_ = some L) {v:Int} (hv:v∈Bl L):W1 s s.Columns[i] v:=.inr (.inl ⟨h.kind,L,hL,hL2,hv⟩)
theorem S4 (hs:DS s) {i:Nat} (h0:1≤i) (hi:i < s.Columns.length) (h:HD s.Columns[i]) {L:Am} (hL:L∈Sx) (hL2:idx s.Lists s.Columns[i].List_ = some L) {l v:Int} (hl0:0≤l) (hl1:l≤fin s i) (hv:v∈Bl L):AP s i l v = some (cv L l v):=by
 rw [Ru hs h0 hi hl0 hl1 (ef h hL hL2 hv),Un h hL2]
theorem jK (hs:DS s) {i:Nat} (h0:1≤i) (hi:i < s.Columns.length) (h:HD s.Columns[i]) {L:Am} (hL:L∈Sx) (hL2:idx s.Lists s.Columns[i].List_ = some L) (k:Int) {l:Int} (hl0:0≤l) (hl1:l≤fin s i):CO s (aU i k) l = gI L k l:=by
 unfold CO
 show (idx s.Columns (i:Int)).bind _ = _
 rw [BP hi,Option.bind_some]
 show (Cl s (i:Int)).bind _ = _
 rw [rleaves hi hL hL2,Option.bind_some]
 unfold gI
 congr 1
 funext rec1 v9
 unfold JX
 congr 2
 funext rec2 v10
 unfold JZ jS
 congr 1
 refine SH fun x hx=>?_
 show (AP s (i:Int) l x).bind _ = _
 rw [S4 hs h0 hi h hL hL2 hl0 hl1 hx]
 simp only [Option.bind_some]
 refine SH fun y hy=>?_
 show (AP s (i:Int) l y).bind _ = _
 rw [S4 hs h0 hi h hL hL2 hl0 hl1 hy]
 simp only [Option.bind_some,gT hi hL2]
theorem gD (hs:DS s) {i:Nat} (h0:1≤i) (hi:i < s.Columns.length) (h:HD s.Columns[i]) {L:Am} (hL:L∈Sx) (hL2:idx s.Lists s.Columns[i].List_ = some L) {l:Int} (hl0:0≤l) (hl1:l≤fin s i) (val:Int):Da s i l val = Z5 L l val:=by
 unfold Da
 rw [BP hi,Option.bind_some,h.kind]
 show (Cl s (i:Int)).bind _ = _
 rw [rleaves hi hL hL2,Option.bind_some]
 unfold Z5
 congr 1
 funext rec1 v
 unfold MD
 congr 1
 refine SH fun x hx=>?_
 rw [S4 hs h0 hi h hL hL2 hl0 hl1 hx]
theorem dF {i:Nat} (hi:i < s.Columns.length) (h:HD s.Columns[i]) {L:Am} (hL2:idx s.Lists s.Columns[i].List_ = some L):fin s i = HI L - 1:=by rw [Em hi,IF h hL2]
structure CF (L:Am) (k l:Int):Prop where
 same:KX L k l = gI L k l
 ex:∃ b,KX L k l = some b
 val:KX L k l = some true→∀ v∈Bl L,R3 L k v = some (tC L k v)∧R3 L k (iD L l v) = some (tC L k v)∧∃ u,Z5 L l (cv L l v) = some u∧Zq L k u = some (tC L k v)
 up:KX L k l = some true→∀ l',l≤l'→l' < HI L→KX L k l' = some true
theorem cf {L:Am} (hL:L∈Sx) {k l:Int} (k0:0≤k) (k1:k < L.Codes.length) (l0:0≤l) (l1:l < HI L):CF L k l:=by
 have h:=List.all_eq_true.1 QP L hL
 rw [Bool.and_eq_true] at h
 have h:=List.all_eq_true.1 h.2 k (List.mem_map.2 ⟨k.toNat,List.mem_range.2 (by omega),by omega⟩)
 rw [Bool.and_eq_true] at h
 have memL:∀ {l:Int},0≤l→l < HI L→l∈iL L:=fun a b=>List.mem_map.2 ⟨_,List.mem_range.2 (by omega),Int.toNat_of_nonneg a⟩
 have h:=List.all_eq_true.1 h.2 l (memL l0 l1)
 unfold Z6 at h
 simp only [Bool.and_eq_true,beq_iff_eq] at h
 obtain ⟨⟨h1,h2⟩,h3⟩:=h
 refine ⟨h1,Option.isSome_iff_exists.1 h2,fun e v hv=>?_,fun e l' a b=>?_⟩
 ·rw [e] at h3
  simp only [beq_self_eq_true,cond_true,Bool.and_eq_true] at h3
  have:=List.all_eq_true.1 h3.1 v hv
  simp only [Bool.and_eq_true,beq_iff_eq] at this
  obtain ⟨⟨⟨a,b⟩,c⟩,d⟩:=this
  obtain ⟨u,hu⟩:=Option.isSome_iff_exists.1 d
  refine ⟨a,b,u,hu,?_⟩
  unfold js at c
  rw [hu] at c
  exact c
 ·rw [e] at h3
  simp only [beq_self_eq_true,cond_true,Bool.and_eq_true] at h3
  have:=List.all_eq_true.1 h3.2 l' (memL (by omega) b)
  simp only [Bool.or_eq_true,decide_eq_true_eq,beq_iff_eq] at this
  exact this.resolve_left (by omega)
theorem iA {L:Am} (hL:L∈Sx) {k:Int} (k0:0≤k) (k1:k < L.Codes.length):KX L k (HI L - 1) = some true:=by
 have h:=List.all_eq_true.1 QP L hL
 rw [Bool.and_eq_true] at h
 have h:=List.all_eq_true.1 h.2 k (List.mem_map.2 ⟨k.toNat,List.mem_range.2 (by omega),by omega⟩)
 rw [Bool.and_eq_true] at h
 simpa using h.1
theorem gj {L:Am} (hL:L∈Sx) {v:Int} (hv:v∈Bl L):cv L 0 v = 0:=by
 have h:=List.all_eq_true.1 QP L hL
 rw [Bool.and_eq_true] at h
 simpa using List.all_eq_true.1 h.1 v hv
end Go.Proofs.YtejfnieiaecpkaaGreatDoor.P
namespace Go.Proofs.YtejfnieiaecpkaaGreatDoor.P
open Go Go.Abs Go.Proofs
set_option maxRecDepth 100000
variable {s:Aa}
def aB (i:Nat) (lo hi:Int):Af:={ Op:=3,Column:=i,Code:=0,Low:=lo,High:=hi,Kids:=[] }
def aM (i:Nat):Af:={ Op:=4,Column:=i,Code:=0,Low:=0,High:=0,Kids:=[] }
def SF (c:Av) (lo hi l:Int):Prop :=
 (l = 0→c.Optional = false)∧(lo≤c.High→c.Low≤hi→(l = 0→lo≤c.Low∧c.High≤hi)∧(l≠0→(lo≤c.Low∨lo % Eb c l = 0)∧(c.High≤hi∨(hi + 1) % Eb c l = 0)))
theorem Zi {n w:Int} (hw:1≤w) (hw2:w≤1000000) (h0:-100000000≤n) (h1:n≤100000000):DO n w = some (n - n % w):=PI hw hw2 h0 h1
theorem ik {c:Av} (h:CS c) {l:Int} (h0:1≤l) (h1:l≤c.Widths.length):GA c l = some (Eb c l):=by unfold GA; rw [XL h h0 h1]; rfl
theorem ij {i:Nat} (hi:i < s.Columns.length) (h:CS s.Columns[i]) {lo up l:Int} (a0:-1000000≤lo) (a1:lo≤up) (a2:up≤1000000) (h0:0≤l) (h1:l≤s.Columns[i].Widths.length):Ok (Bi s (aB i lo up) l) fun b=>(b = true↔SF s.Columns[i] lo up l):=by
 obtain ⟨l1,l2⟩:=h.low
 obtain ⟨l3,l4⟩:=h.high
 unfold Bi
 refine Ok.idxn hi (Ok.no rfl (Ok.br (fun e=>Ok.some ?_) fun e=>Ok.no rfl ?_))
 ·have e0:l = 0∧s.Columns[i].Optional = true:=by
   by_cases hz:l = 0
   ·subst hz; exact ⟨rfl,e⟩
   ·have:(l==0) = false:=by simpa using hz
    rw [this] at e; cases e
  refine ⟨(fun x=>by cases x),fun x=>?_⟩
  have:=x.1 e0.1
  rw [e0.2] at this
  cases this
 have e0:l = 0→s.Columns[i].Optional = false:=by
  intro hz
  subst hz
  exact e
 show Ok (bif decide ((if s.Columns[i].Low > lo then s.Columns[i].Low else lo) > (if s.Columns[i].High < up then s.Columns[i].High else up)) then some true else bif (l==0) then some (bif ((if s.Columns[i].Low > lo then s.Columns[i].Low else lo)==s.Columns[i].Low) then ((if s.Columns[i].High < up then s.Columns[i].High else up)==s.Columns[i].High) else false) else _) _
 have hx:(if s.Columns[i].Low > lo then s.Columns[i].Low else lo) = max s.Columns[i].Low lo:=by split <;> omega
 have hn:(if s.Columns[i].High < up then s.Columns[i].High else up) = min s.Columns[i].High up:=by split <;> omega
 simp only [show (aB i lo up).Low = lo from rfl,show (aB i lo up).High = up from rfl,hx,hn]
 generalize s.Columns[i] = c at *
 refine Ok.brd (fun hm=>Ok.some ⟨fun _=>⟨e0,fun _ _=>by omega⟩,fun _=>rfl⟩) fun hm=>Ok.br (fun hz=>Ok.some ?_) fun hz=>?_
 ·have hz:l = 0:=by simpa using hz
  constructor
  ·intro hb
   refine ⟨e0,fun _ _=>⟨fun _=>?_,fun hn=>absurd hz hn⟩⟩
   by_cases e1:max c.Low lo = c.Low
   ·rw [e1,beq_self_eq_true,cond_true] at hb
    have:=(beq_iff_eq.1 hb)
    omega
   ·have:(max c.Low lo==c.Low) = false:=by simpa using e1
    rw [this] at hb; cases hb
  ·intro hs
   have:=(hs.2 (by omega) (by omega)).1 hz
   rw [show max c.Low lo = c.Low by omega,show min c.High up = c.High by omega,beq_self_eq_true,beq_self_eq_true]
   rfl
 ·have hz:l≠0:=by simpa using hz
  have hw:=EM h (l:=l) (by omega) h1
  have key:∀ b:Bool,(b = true↔(lo≤c.Low∨lo % Eb c l = 0)∧(c.High≤up∨(up + 1) % Eb c l = 0))→(b = true↔SF c lo up l):=by
   intro b hb
   rw [hb]
   exact ⟨fun hs=>⟨e0,fun _ _=>⟨fun hh=>absurd hh hz,fun _=>hs⟩⟩,fun hs=>(hs.2 (by omega) (by omega)).2 hz⟩
  have hi2:c.High≤up→(min c.High up==c.High) = true:=fun hh=>by rw [show min c.High up = c.High by omega,beq_self_eq_true]
  refine Ok.bindE (ik h (by omega) h1) ?_
  have ew:IntKind.i64.wrap (min c.High up + 1) = min c.High up + 1:=wr
  have dn:DO (min c.High up + 1) (Eb c l) = some (min c.High up + 1 - (min c.High up + 1) % Eb c l):=Zi hw.1 (by omega) (by omega) (by omega)
  have dx:DO (max c.Low lo) (Eb c l) = some (max c.Low lo - max c.Low lo % Eb c l):=Zi hw.1 (by omega) (by omega) (by omega)
  rw [ew,dn,dx]
  refine Ok.br (fun e1=>?_) fun e1=>?_
  ·have e1:max c.Low lo = c.Low:=by simpa using e1
   refine Ok.br (fun e2=>Ok.some (key _ ?_)) fun e2=>Ok.bindE rfl (Ok.some (key _ ?_))
   ·have e2:min c.High up = c.High:=by simpa using e2
    exact ⟨fun _=>⟨.inl (by omega),.inl (by omega)⟩,fun _=>rfl⟩
   ·have e2:min c.High up≠c.High:=by simpa using e2
    rw [show min c.High up = up by omega,beq_iff_eq]
    constructor
    ·intro q; exact ⟨.inl (by omega),.inr (by omega)⟩
    ·rintro ⟨_,q | q⟩ <;> omega
  ·have e1:max c.Low lo≠c.Low:=by simpa using e1
   rw [show max c.Low lo = lo by omega]
   refine Ok.bindE rfl (Ok.br (fun e3=>Ok.br (fun e2=>Ok.some (key _ ?_)) fun e2=>Ok.bindE rfl (Ok.some (key _ ?_))) fun e3=>Ok.some (key _ ?_))
   ·have e2:min c.High up = c.High:=by simpa using e2
    have e3:=beq_iff_eq.1 e3
    exact ⟨fun _=>⟨.inr (by omega),.inl (by omega)⟩,fun _=>rfl⟩
   ·have e2:min c.High up≠c.High:=by simpa using e2
    have e3:=beq_iff_eq.1 e3
    rw [show min c.High up = up by omega,beq_iff_eq]
    constructor
    ·intro q; exact ⟨.inr (by omega),.inr (by omega)⟩
    ·rintro ⟨_,q | q⟩ <;> omega
   ·have e3:¬ (lo - lo % Eb c l = lo):=by simpa using e3
    constructor
    ·intro q; cases q
    ·rintro ⟨q | q,_⟩ <;> omega
theorem ju {i:Nat} (hi:i < s.Columns.length) (h:CS s.Columns[i]) {lo up l:Int} (a0:-1000000≤lo) (a1:lo≤up) (a2:up≤1000000) (h0:0≤l) (h1:l≤s.Columns[i].Widths.length):Ok (CO s (aB i lo up) l) fun b=>(b = true↔SF s.Columns[i] lo up l):=by
 obtain ⟨l1,l2⟩:=h.low
 obtain ⟨l3,l4⟩:=h.high
 unfold CO
 refine Ok.idxn hi (Ok.no rfl (Ok.no rfl ?_))
 simp only [show (aB i lo up).Low = lo from rfl,show (aB i lo up).High = up from rfl]
 generalize s.Columns[i] = c at *
 have hf:∀ b:Bool,(bif decide (lo > c.Low) then decide (lo≤c.High) else false) = b→(b = true↔lo > c.Low∧lo≤c.High):=by
  intro b hb; subst hb
  by_cases e:lo > c.Low
  ·rw [decide_eq_true e,cond_true,decide_eq_true_iff]; exact ⟨fun x=>⟨e,x⟩,fun x=>x.2⟩
  ·rw [decide_eq_false e,cond_false]; exact ⟨fun x=>(by cases x),fun x=>absurd x.1 e⟩
 have hg:∀ b:Bool,(bif decide (up ≥ c.Low) then decide (up < c.High) else false) = b→(b = true↔up ≥ c.Low∧up < c.High):=by
  intro b hb; subst hb
  by_cases e:up ≥ c.Low
  ·rw [decide_eq_true e,cond_true,decide_eq_true_iff]; exact ⟨fun x=>⟨e,x⟩,fun x=>x.2⟩
  ·rw [decide_eq_false e,cond_false]; exact ⟨fun x=>(by cases x),fun x=>absurd x.1 e⟩
 generalize hF:(bif decide (lo > c.Low) then decide (lo≤c.High) else false) = F at *
 generalize hG:(bif decide (up ≥ c.Low) then decide (up < c.High) else false) = G at *
 have hF:=hf F rfl
 have hG:=hg G rfl
 refine Ok.br (fun hz=>Ok.some ?_) fun hz=>?_
 ·have hz:l = 0:=by simpa using hz
  subst hz
  cases ho:c.Optional <;> cases F <;> cases G <;> simp at hF hG ⊢
  all_goals first
   | (intro hs; exact absurd (ho.symm.trans (hs.1 rfl)) (by decide))
   | (intro hs; have:=(hs.2 (by omega) (by omega)).1 rfl; omega)
   | exact ⟨fun _=>ho,fun _ _=>⟨fun _=>by omega,fun hn=>absurd rfl hn⟩⟩
 ·have hz:l≠0:=by simpa using hz
  have hw:=EM h (l:=l) (by omega) h1
  have key:∀ b:Bool,(b = true↔(lo≤c.High→c.Low≤up→(lo≤c.Low∨lo % Eb c l = 0)∧(c.High≤up∨(up + 1) % Eb c l = 0)))→(b = true↔SF c lo up l):=by
   intro b hb
   rw [hb]
   exact ⟨fun hs=>⟨fun hh=>absurd hh hz,fun p q=>⟨fun hh=>absurd hh hz,fun _=>hs p q⟩⟩,fun hs p q=>(hs.2 p q).2 hz⟩
  have tm:∀ n:Int,(Int.tmod n (Eb c l)==0) = true↔n % Eb c l = 0:=by
   intro n
   have:=LH n hw.1
   have h3:=Int.emod_nonneg n (by omega:Eb c l≠0)
   have h4:=Int.emod_lt_of_pos n (by omega:0 < Eb c l)
   rw [beq_iff_eq]
   exact ⟨fun q=>by omega,fun q=>Int.tmod_eq_zero_of_dvd (Int.dvd_of_emod_eq_zero q)⟩
  refine Ok.bindE (aJ h (by omega) h1) ?_
  rw [wr (n:=up + 1) (by omega) (by omega)]
  have hne:Eb c l≠0:=by omega
  refine Ok.br (fun e1=>Ok.br (fun e2=>Ok.some (key _ ?_)) fun e2=>Ok.gdd hne (Ok.some (key _ ?_))) fun e1=>Ok.gdd hne (Ok.br (fun e3=>Ok.br (fun e2=>Ok.some (key _ ?_)) fun e2=>Ok.gdd hne (Ok.some (key _ ?_))) fun e3=>Ok.some (key _ ?_))
  ·cases F <;> cases G <;> simp at hF hG e1 e2
   exact ⟨fun _ p q=>⟨.inl (by omega),.inl (by omega)⟩,fun _=>rfl⟩
  ·cases F <;> cases G <;> simp at hF hG e1 e2
   rw [tm]
   exact ⟨fun z p q=>⟨.inl (by omega),.inr z⟩,fun z=>((z (by omega) (by omega)).2).resolve_left (by omega)⟩
  ·have e3:=(tm lo).1 e3
   cases F <;> cases G <;> simp at hF hG e1 e2
   exact ⟨fun _ p q=>⟨.inr e3,.inl (by omega)⟩,fun _=>rfl⟩
  ·have e3:=(tm lo).1 e3
   cases F <;> cases G <;> simp at hF hG e1 e2
   rw [tm]
   exact ⟨fun z p q=>⟨.inr e3,.inr z⟩,fun z=>((z (by omega) (by omega)).2).resolve_left (by omega)⟩
  ·have e3:¬ (lo % Eb c l = 0):=fun z=>by rw [(tm lo).2 z] at e3; cases e3
   cases F <;> simp at hF e1
   refine ⟨(fun z=>by cases z),fun z=>?_⟩
   have:=(z (by omega) (by omega)).1
   omega
theorem iM {i:Nat} (hi:i < s.Columns.length) (h:CS s.Columns[i]) (ho:s.Columns[i].Optional = true) {l:Int} (h0:0≤l):Bi s (aM i) l = some (decide (l > 0)):=by
 refine Ok.val ?_
 unfold Bi
 refine Ok.idxn hi (Ok.no rfl (Ok.br (fun e=>Ok.some ?_) fun e=>Ok.yes rfl (Ok.some ?_)))
 ·by_cases hz:l = 0
  ·subst hz; rfl
  ·have:(l==0) = false:=by simpa using hz
   rw [this] at e; cases e
 ·by_cases hz:l = 0
  ·subst hz
   rw [ho] at e; cases e
  ·exact (dt).symm
theorem iT {i:Nat} (hi:i < s.Columns.length) (l:Int):CO s (aM i) l = some (decide (l > 0)):=by
 refine Ok.val ?_
 unfold CO
 exact Ok.idxn hi (Ok.no rfl (Ok.yes rfl (Ok.some rfl)))
theorem SF.up {c:Av} (h:CS c) {lo up l l':Int} (hs:SF c lo up l) (h0:0≤l) (hll:l≤l') (h1:l'≤c.Widths.length):SF c lo up l':=by
 obtain ⟨s1,s2⟩:=hs
 refine ⟨fun hz=>s1 (by omega),fun p q=>?_⟩
 obtain ⟨t1,t2⟩:=s2 p q
 refine ⟨fun hz=>t1 (by omega),fun hz=>?_⟩
 by_cases e:l = 0
 ·have:=t1 e
  exact ⟨.inl this.1,.inl this.2⟩
 ·obtain ⟨u1,u2⟩:=t2 e
  have hw:=Ye h (a:=l') (b:=l) (by omega) hll h1
  generalize Eb c l' = x at *
  generalize Eb c l = y at *
  simp only [List.mem_cons,List.not_mem_nil,or_false,Prod.mk.injEq] at hw
  have dv:∀ n:Int,n % y = 0→n % x = 0:=by
   intro n hn
   rcases hw with ⟨rfl,rfl⟩ | ⟨rfl,rfl⟩ | ⟨rfl,rfl⟩ | ⟨rfl,rfl⟩ | ⟨rfl,rfl⟩ | ⟨rfl,rfl⟩ | ⟨rfl,rfl⟩ | ⟨rfl,rfl⟩ | ⟨rfl,rfl⟩ | ⟨rfl,rfl⟩ | ⟨rfl,rfl⟩ | ⟨rfl,rfl⟩ | ⟨rfl,rfl⟩ | ⟨rfl,rfl⟩ | ⟨rfl,rfl⟩ <;> omega
  exact ⟨u1.imp id (dv _),u2.imp id (dv _)⟩
theorem g6 {c:Av} (h:CS c):Eb c c.Widths.length = 1:=by
 unfold Eb
 rw [Int.sub_self]
 rcases cX h.widths with e | e | e | e <;> rw [e] <;> rfl
theorem SF.fin {c:Av} (h:CS c) (lo up:Int):SF c lo up c.Widths.length:=by
 have:=C0 h
 refine ⟨fun hz=>by omega,fun _ _=>⟨fun hz=>by omega,fun _=>?_⟩⟩
 rw [g6 h]
 exact ⟨.inr (Int.emod_one _),.inr (Int.emod_one _)⟩
theorem SF.sem {c:Av} (h:CS c) {lo up l v:Int} (hs:SF c lo up l) (hlu:lo≤up) (h0:0≤l) (h1:l≤c.Widths.length) (hv:c.Low≤v∧v≤c.High):(lo≤ND c l v∧ND c l v≤up)↔(lo≤v∧v≤up):=by
 obtain ⟨l1,l2⟩:=h.low
 obtain ⟨l3,l4⟩:=h.high
 obtain ⟨s1,s2⟩:=hs
 unfold ND
 by_cases e:l = 0
 ·rw [if_pos e]
  by_cases p:lo≤c.High
  ·by_cases q:c.Low≤up
   ·have:=(s2 p q).1 e
    omega
   ·omega
  ·omega
 ·rw [if_neg e]
  have hw:=Ye h (a:=l) (b:=l) (by omega) (Int.le_refl _) h1
  by_cases p:lo≤c.High
  ·by_cases q:c.Low≤up
   ·have:=(s2 p q).2 e
    generalize Eb c l = x at *
    simp only [List.mem_cons,List.not_mem_nil,or_false,Prod.mk.injEq,and_self] at hw
    rcases (by omega:x = 1∨x = 2∨x = 4∨x = 5∨x = 12∨x = 20) with rfl | rfl | rfl | rfl | rfl | rfl <;> omega
   ·have:=EM h (l:=l) (by omega) h1
    have h3:=Int.emod_nonneg v (by omega:Eb c l≠0)
    omega
  ·have:=EM h (l:=l) (by omega) h1
   have h3:=Int.emod_nonneg v (by omega:Eb c l≠0)
   have h4:=Int.emod_lt_of_pos v (by omega:0 < Eb c l)
   omega
end Go.Proofs.YtejfnieiaecpkaaGreatDoor.P
namespace Go.Proofs.YtejfnieiaecpkaaGreatDoor.P
open Go Go.Abs Go.Proofs
set_option maxRecDepth 100000
variable {s:Aa}
structure AT (s:Aa) (a:Af) (i:Nat) (S:Int→Prop):Prop where
 col:a.Column = (i:Int)
 i0:1≤i
 i1:i < s.Columns.length
 op:a.Op = 2∨a.Op = 3∨a.Op = 4
 p:∀ l,0≤l→l≤fin s i→Ok (Bi s a l) fun b=>(b = true↔S l)
 r:∀ l,0≤l→l≤fin s i→Ok (CO s a l) fun b=>(b = true↔S l)
 up:∀ l l',0≤l→S l→l≤l'→l'≤fin s i→S l'
 last:S (fin s i)
 sem:∀ l,0≤l→l≤fin s i→S l→∀ v,W1 s s.Columns[i] v→∃ t u u',Bd s i l (CV s s.Columns[i] l v) = some (u,true)∧B2 s a u = some t∧Da s i l (CV s s.Columns[i] l v) = some u'∧Bu s a u' = some t∧-1≤t∧t≤1
 sem0:S 0→∃ t u u',Bd s i 0 0 = some (u,true)∧B2 s a u = some t∧Da s i 0 0 = some u'∧Bu s a u' = some t∧-1≤t∧t≤1
theorem eB {L:Am} {k v t:Int} (h:R3 L k v = some t):-1≤t∧t≤1:=by
 unfold R3 at h
 cases e:K9 L v k with
 | none=>rw [e] at h; cases h
 | some b =>
   rw [e] at h
   cases b with
   | true=>have:some (1:Int) = some t:=h; have:=Option.some.inj this; omega
   | false=>have:some (-1:Int) = some t:=h; have:=Option.some.inj this; omega
theorem f9 (hs:DS s) {i:Nat} (h0:1≤i) (hi:i < s.Columns.length) (h:HD s.Columns[i]) {L:Am} (hL:L∈Sx) (hL2:idx s.Lists s.Columns[i].List_ = some L) {k:Int} (k0:0≤k) (k1:k < L.Codes.length):AT s (aU i k) i fun l=>KX L k l = some true:=by
 have hf:=dF hi h hL2
 have hcl:=KC hL
 have h2:=hcl.lev2
 have sem:∀ l,0≤l→l≤fin s i→KX L k l = some true→∀ v∈Bl L,∃ t u u',Bd s i l (cv L l v) = some (u,true)∧B2 s (aU i k) u = some t∧Da s i l (cv L l v) = some u'∧Bu s (aU i k) u' = some t∧-1≤t∧t≤1:=by
  intro l l0 l1 hS v hv
  obtain ⟨_,_,hval,_⟩:=cf hL k0 k1 l0 (by omega)
  obtain ⟨a1,a2,u',a3,a4⟩:=hval hS v hv
  obtain ⟨_,hcf⟩:=NL hL l0 (by omega)
  obtain ⟨_,_,_,u,hu⟩:=hcf v hv
  refine ⟨tC L k v,u,u',?_,?_,?_,?_,eB a1⟩
  ·rw [S7 hi h hL hL2]; exact hu
  ·rw [gM hi hL2]
   unfold iD at a2
   rw [hu] at a2
   exact a2
  ·rw [gD hs h0 hi h hL hL2 l0 l1]; exact a3
  ·rw [gT hi hL2]; exact a4
 refine ⟨rfl,h0,hi,.inl rfl,fun l l0 l1=>?_,fun l l0 l1=>?_,fun l l' l0 hS hll hl'=>?_,?_,fun l l0 l1 hS v hv=>?_,fun hS=>?_⟩
 ·rw [jn hi hL hL2]
  obtain ⟨b,hb⟩:=(cf hL k0 k1 l0 (by omega)).ex
  exact ⟨b,hb,by rw [hb]; exact ⟨fun e=>by rw [e],fun e=>Option.some.inj e⟩⟩
 ·rw [jK hs h0 hi h hL hL2 k l0 l1,← (cf hL k0 k1 l0 (by omega)).same]
  obtain ⟨b,hb⟩:=(cf hL k0 k1 l0 (by omega)).ex
  exact ⟨b,hb,by rw [hb]; exact ⟨fun e=>by rw [e],fun e=>Option.some.inj e⟩⟩
 ·exact (cf hL k0 k1 l0 (by omega)).up hS l' hll (by omega)
 ·show KX L k (fin s i) = some true
  rw [hf]; exact iA hL k0 k1
 ·rw [Un h hL2]
  exact sem l l0 l1 hS v (hv.code h hL2)
 ·obtain ⟨v,hv⟩:=List.exists_mem_of_ne_nil _ hcl.some_
  have:=sem 0 (Int.le_refl _) (by omega) hS v hv
  rw [gj hL hv] at this
  exact this
theorem ca {i:Nat} (hi:i < s.Columns.length) (h:CS s.Columns[i]) {l v:Int} (h0:0≤l) (h1:l≤s.Columns[i].Widths.length) (hv:s.Columns[i].Low≤v∧v≤s.Columns[i].High):Bd s i l (mv s.Columns[i] l v) = some (ND s.Columns[i] l v,true):=by
 refine Ok.val ?_
 unfold Bd
 refine Ok.idxn hi (Ok.yes (by rw [h.kind]; rfl) (Ok.no ?_ (Ok.bindE (eK h h0 h1 hv) (Ok.some rfl))))
 by_cases hz:0 < l
 ·rw [dt,cond_true,beq_eq_false_iff_ne]
  exact (GE h (by omega) h1 hv).2.2.2.1
 ·rw [df]; rfl
theorem gz {i:Nat} (hi:i < s.Columns.length) (h:CS s.Columns[i]) {l:Int} (h0:1≤l):Bd s i l Bs = some (Bs,s.Columns[i].Optional):=by
 refine Ok.val ?_
 unfold Bd
 exact Ok.idxn hi (Ok.yes (by rw [h.kind]; rfl) (Ok.yes (by rw [dt]; rfl) (Ok.some rfl)))
theorem bE {i:Nat} (hi:i < s.Columns.length) (h:CS s.Columns[i]) {l v:Int} (h0:0≤l) (h1:l≤s.Columns[i].Widths.length) (hv:s.Columns[i].Low≤v∧v≤s.Columns[i].High):Da s i l (mv s.Columns[i] l v) = some (ND s.Columns[i] l v):=by
 refine Ok.val ?_
 unfold Da
 refine Ok.idxn hi (Ok.no (by rw [h.kind]; rfl) (Ok.no ?_ (Ok.bindE (aD h h0 h1 hv) (Ok.some rfl))))
 by_cases hz:0 < l
 ·rw [dt,cond_true,beq_eq_false_iff_ne]
  exact (GE h (by omega) h1 hv).2.2.2.1
 ·rw [df]; rfl
theorem g5 {i:Nat} (hi:i < s.Columns.length) (h:CS s.Columns[i]) {l:Int} (h0:1≤l):Da s i l Bs = some Bs:=by
 refine Ok.val ?_
 unfold Da
 exact Ok.idxn hi (Ok.no (by rw [h.kind]; rfl) (Ok.yes (by rw [dt]; rfl) (Ok.some rfl)))
theorem iJ (c:Av) {l:Int} (h0:1≤l):mv c l Bs = Bs:=by unfold mv; rw [if_neg (by omega),if_pos rfl]
theorem gr (c:Av) (v:Int):mv c 0 v = 0:=by unfold mv; rw [if_pos rfl]
theorem bN {i:Nat} (h0:1≤i) (hi:i < s.Columns.length) (h:CS s.Columns[i]) {a:Af} {S:Int→Prop} (hc:a.Column = (i:Int)) (ho:a.Op = 2∨a.Op = 3∨a.Op = 4)
 (hp:∀ l:Int,0≤l→l≤s.Columns[i].Widths.length→Ok (Bi s a l) fun b=>(b = true↔S l)) (hr:∀ l:Int,0≤l→l≤s.Columns[i].Widths.length→Ok (CO s a l) fun b=>(b = true↔S l))
 (hup:∀ l l':Int,0≤l→S l→l≤l'→l'≤s.Columns[i].Widths.length→S l') (hl:S s.Columns[i].Widths.length) (hS0:S 0→s.Columns[i].Optional = false)
 (hv:∀ l:Int,0≤l→l≤s.Columns[i].Widths.length→S l→∀ v,s.Columns[i].Low≤v∧v≤s.Columns[i].High→∃ t,B2 s a (ND s.Columns[i] l v) = some t∧Bu s a (ND s.Columns[i] l v) = some t∧-1≤t∧t≤1)
 (hm:∃ t,B2 s a Bs = some t∧Bu s a Bs = some t∧-1≤t∧t≤1):AT s a i S:=by
 have hf:fin s i = s.Columns[i].Widths.length:=by rw [Em hi,C6 h]
 have hwl:=C0 h
 refine ⟨hc,h0,hi,ho,fun l a b=>hp l a (by omega),fun l a b=>hr l a (by omega),fun l l' a b c d=>hup l l' a b c (by omega),by rw [hf]; exact hl,fun l l0 l1 hS v hvv=>?_,fun hS=>?_⟩
 ·rw [R2 h]
  rcases hvv.meas h with hv1 | ⟨hv1,rfl⟩
  ·obtain ⟨t,t1,t2,t3⟩:=hv l l0 (by omega) hS v hv1
   exact ⟨t,_,_,ca hi h l0 (by omega) hv1,t1,bE hi h l0 (by omega) hv1,t2,t3⟩
  ·have hl1:1≤l:=by
    rcases Int.lt_or_eq_of_le l0 with hlt | rfl
    ·omega
    ·have:=hS0 hS
     rw [hv1] at this; cases this
   obtain ⟨t,t1,t2,t3⟩:=hm
   rw [iJ _ hl1]
   exact ⟨t,_,_,by rw [gz hi h hl1,hv1],t1,g5 hi h hl1,t2,t3⟩
 ·have hv1:s.Columns[i].Low≤s.Columns[i].Low∧s.Columns[i].Low≤s.Columns[i].High:=⟨Int.le_refl _,h.high.1⟩
  obtain ⟨t,t1,t2,t3⟩:=hv 0 (Int.le_refl _) (by omega) hS _ hv1
  have e1:=ca hi h (Int.le_refl 0) (by omega) hv1
  have e2:=bE hi h (Int.le_refl 0) (by omega) hv1
  rw [gr] at e1 e2
  exact ⟨t,_,_,e1,t1,e2,t2,t3⟩
theorem bA (i:Nat) (lo up u:Int):B2 s (aB i lo up) u = some (if u = Bs then 0 else if lo≤u∧u≤up then 1 else -1):=by
 refine Ok.val ?_
 unfold B2
 refine Ok.no rfl (Ok.no rfl (Ok.br (fun e=>Ok.some ?_) fun e=>?_))
 ·rw [if_pos (by rw [Hd]; simpa using e)]
 ·rw [if_neg (by rw [Hd]; simpa using e)]
  unfold Dp
  by_cases q:lo≤u∧u≤up
  ·rw [if_pos q]
   refine Ok.bindE (x:=1) ?_ (Ok.some rfl)
   show (bif (bif decide (u ≥ lo) then decide (u≤up) else false) then some 1 else some (-1)) = some (1:Int)
   rw [dt,dt]; rfl
  ·rw [if_neg q]
   refine Ok.bindE (x:=-1) ?_ (Ok.some rfl)
   show (bif (bif decide (u ≥ lo) then decide (u≤up) else false) then some 1 else some (-1)) = some (-1:Int)
   by_cases q1:u ≥ lo
   ·rw [decide_eq_true q1,cond_true,df]; rfl
   ·rw [decide_eq_false q1]; rfl
theorem bR (i:Nat) (lo up u:Int):Bu s (aB i lo up) u = some (if u = Bs then 0 else if lo≤u∧u≤up then 1 else -1):=by
 refine Ok.val ?_
 unfold Bu
 refine Ok.no rfl (Ok.yes rfl (Ok.br (fun e=>Ok.some ?_) fun e=>?_))
 ·rw [if_pos (by rw [Hd]; simpa using e)]
 ·rw [if_neg (by rw [Hd]; simpa using e)]
  show Ok (bif (bif decide (lo≤u) then decide (u≤up) else false) then some 1 else some (-1)) _
  by_cases q:lo≤u∧u≤up
  ·rw [if_pos q,decide_eq_true q.1,decide_eq_true q.2]
   exact Ok.some rfl
  ·rw [if_neg q]
   by_cases q1:lo≤u
   ·rw [decide_eq_true q1,cond_true,df]; exact Ok.some rfl
   ·rw [decide_eq_false q1]; exact Ok.some rfl
theorem bS (i:Nat) (u:Int):B2 s (aM i) u = some (if u = Bs then 1 else -1):=by
 refine Ok.val ?_
 unfold B2
 refine Ok.no rfl (Ok.yes rfl ?_)
 unfold Dp
 by_cases q:u = Bs
 ·subst q; exact Ok.bindE (x:=1) rfl (Ok.some rfl)
 ·rw [if_neg q]
  refine Ok.bindE (x:=-1) ?_ (Ok.some rfl)
  have:(u==-1099511627776) = false:=by rw [beq_eq_false_iff_ne]; exact q
  rw [this]; rfl
theorem bh (i:Nat) (u:Int):Bu s (aM i) u = some (if u = Bs then 1 else -1):=by
 refine Ok.val ?_
 unfold Bu
 refine Ok.no rfl (Ok.no rfl (Ok.yes rfl (Ok.br (fun e=>Ok.some ?_) fun e=>Ok.some ?_)))
 ·rw [if_pos (by rw [Hd]; simpa using e)]
 ·rw [if_neg (by rw [Hd]; simpa using e)]
theorem ZW {i:Nat} (h0:1≤i) (hi:i < s.Columns.length) (h:CS s.Columns[i]) {lo up:Int} (a0:-1000000≤lo) (a1:lo≤up) (a2:up≤1000000):AT s (aB i lo up) i (SF s.Columns[i] lo up):=by
 refine bN h0 hi h rfl (.inr (.inl rfl)) (fun l b c=>ij hi h a0 a1 a2 b c) (fun l b c=>ju hi h a0 a1 a2 b c) (fun l l' b c d e=>c.up h b d e) (SF.fin h lo up) (fun hS=>hS.1 rfl) (fun l b c hS v hv=>⟨_,bA i lo up _,bR i lo up _,?_⟩) ⟨_,bA i lo up _,bR i lo up _,?_⟩
 ·split
  ·omega
  ·split <;> omega
 ·split
  ·omega
  ·split <;> omega
theorem gH {i:Nat} (h0:1≤i) (hi:i < s.Columns.length) (h:CS s.Columns[i]) (ho:s.Columns[i].Optional = true):AT s (aM i) i fun l=>l > 0:=by
 have hwl:=C0 h
 refine bN h0 hi h rfl (.inr (.inr rfl)) (fun l b c=>⟨_,iM hi h ho b,decide_eq_true_iff⟩) (fun l b c=>⟨_,iT hi l,decide_eq_true_iff⟩) (fun l l' b c d e=>by omega) (by omega) (fun hS=>absurd hS (by decide)) (fun l b c hS v hv=>⟨_,bS i _,bh i _,?_⟩) ⟨_,bS i _,bh i _,?_⟩
 ·split <;> omega
 ·split <;> omega
theorem RC.at_ (hs:DS s) {n:Nat} {c:Af} (h:RC s n c) (ho:c.Op = 2∨c.Op = 3∨c.Op = 4):∃ i S,AT s c i S:=by
 cases h with
 | all=>rcases ho with e | e | e <;> cases e
 | and=>rcases ho with e | e | e <;> cases e
 | or=>rcases ho with e | e | e <;> cases e
 | not=>rcases ho with e | e | e <;> cases e
 | under n i hi0 hi h L hL hL2 k h0 h1=>exact ⟨i,_,f9 hs hi0 hi h hL hL2 h0 h1⟩
 | between n i hi0 hi h l u h0 h1 h2=>exact ⟨i,_,ZW hi0 hi h h0 h1 h2⟩
 | miss n i hi0 hi h hop=>exact ⟨i,_,gH hi0 hi h hop⟩
end Go.Proofs.YtejfnieiaecpkaaGreatDoor.P
namespace Go.Proofs.YtejfnieiaecpkaaGreatDoor.P
open Go Go.Abs Go.Proofs
set_option maxRecDepth 100000
variable {s:Aa}
def U2 (c:Af):Bool:=(bif (bif (c.Op==2) then true else (c.Op==3)) then true else (c.Op==4))
def I4:Nat→Af→List Af
 | 0,_=>[]
 | d + 1,c=>bif U2 c then [c] else c.Kids.flatMap (I4 d)
theorem aZ {c:Af} (h:U2 c = true):c.Op = 2∨c.Op = 3∨c.Op = 4:=by
 unfold U2 at h
 by_cases e2:c.Op = 2
 ·exact .inl e2
 ·by_cases e3:c.Op = 3
  ·exact .inr (.inl e3)
  ·have f2:(c.Op==2) = false:=by simpa using e2
   have f3:(c.Op==3) = false:=by simpa using e3
   rw [f2,f3] at h
   exact .inr (.inr (by simpa using h))
theorem SI {α β:Type} {l:List α} {f:α→List β} {k:Nat} (hk:k < l.length):(l.take (k + 1)).flatMap f = (l.take k).flatMap f++f l[k]:=by
 rw [List.take_succ_eq_append_getElem hk,List.flatMap_append]
 simp
theorem Y4 {α β:Type} {l:List α} {f:α→List β} {b:Nat} (h:∀ x∈l,(f x).length≤b):(l.flatMap f).length≤l.length * b:=by
 induction l with
 | nil=>simp
 | cons x r ih =>
   have h1:=h x (by simp)
   have h2:=ih fun y hy=>h y (by simp [hy])
   rw [List.flatMap_cons,List.length_append,List.length_cons,Nat.add_mul]
   omega
theorem R1:∀ (n d:Nat) {c:Af},RC s n c→(I4 d c).length≤n + 1
 | n,0,c,_=>by simp [I4]
 | n,d + 1,c,h=>by
   unfold I4
   cases e:U2 c with
   | true=>simp
   | false =>
     obtain ⟨ns,hl,hl2,hk,hsum⟩:=h.sizes
     have:∀ k,k≤c.Kids.length→((c.Kids.take k).flatMap (I4 d)).length≤sm (ns.take k):=by
      intro k
      induction k with
      | zero=>simp
      | succ k ih =>
        intro hk1
        rw [SI (by omega),Sg (by omega),List.length_append]
        have:=ih (by omega)
        have:=R1 ns[k] d (hk k (by omega) (by omega))
        omega
     have:=this c.Kids.length (Nat.le_refl _)
     rw [List.take_length,show ns.take c.Kids.length = ns from List.take_of_length_le (by omega)] at this
     show (c.Kids.flatMap (I4 d)).length≤n + 1
     omega
theorem Us (hs:DS s):∀ (n d:Nat) {c:Af},RC s n c→∀ a∈I4 d c,∃ i S,AT s a i S
 | n,0,c,_,a,ha=>by simp [I4] at ha
 | n,d + 1,c,h,a,ha=>by
   unfold I4 at ha
   cases e:U2 c with
   | true =>
     rw [e] at ha
     have ha:a = c:=by simpa using ha
     subst ha
     exact h.at_ hs (aZ e)
   | false =>
     rw [e] at ha
     obtain ⟨k,hk,hak⟩:=List.mem_flatMap.1 ha
     obtain ⟨m,_,hr⟩:=h.kids.2 k hk
     exact Us hs m d hr a hak
theorem dA:∀ (n d:Nat) {c:Af},RC s n c→n < d→n≤39→EU d c = some (I4 d c)
 | n,d + 1,c,h,hd,hn=>by
   obtain ⟨hk1,hk2⟩:=h.kids
   refine Ok.val ?_
   show Ok (Fa d (EU d) c) _
   unfold Fa
   cases e:U2 c with
   | true=>exact Ok.yes e (Ok.some (by unfold I4; rw [e]; rfl))
   | false =>
     have hkl:∀ k∈c.Kids,(I4 d k).length≤40:=fun k hk=>by
      obtain ⟨m,hm,hr⟩:=hk2 k hk
      have:=R1 m d hr
      omega
     refine Ok.no e ?_
     refine Ok.for (fun q=>q.1) c.Kids.length (fun k q=>q.2 = (c.Kids.take k).flatMap (I4 d)) 0 (Nat.zero_le _) rfl rfl (by omega) (fun rec q hq hI=>?_) fun rec k q hk hq hI ih=>?_
     ·simp only [Gm,hq,hI,List.take_length]
      rw [Ba]
      exact Ok.some (by unfold I4; rw [e]; rfl)
     ·have hx:=List.getElem_mem hk
      obtain ⟨m,hm,hr⟩:=hk2 _ hx
      have hacc:((c.Kids.take k).flatMap (I4 d)).length≤(c.Kids.take k).length * 40:=Y4 fun y hy=>hkl y (List.mem_of_mem_take hy)
      rw [List.length_take] at hacc
      have:=hkl _ hx
      simp only [Gm,hq,hI]
      rw [AK]
      exact Ok.idxn hk (Ok.bindE (dA m d hr (by omega) (by omega)) (Ok.rm (by omega) (ih _ Dv (SI hk).symm)))
theorem e8:∀ (n d:Nat) {c:Af},RC s n c→n < d→n≤39→IP d c = some (I4 d c)
 | n,d + 1,c,h,hd,hn=>by
   obtain ⟨hk1,hk2⟩:=h.kids
   refine Ok.val ?_
   show Ok (HT d (IP d) c) _
   unfold HT
   cases e:U2 c with
   | true=>exact Ok.yes e (Ok.some (by unfold I4; rw [e]; rfl))
   | false =>
     have hkl:∀ k∈c.Kids,(I4 d k).length≤40:=fun k hk=>by
      obtain ⟨m,hm,hr⟩:=hk2 k hk
      have:=R1 m d hr
      omega
     refine Ok.no e ?_
     refine Ok.for (fun q=>q.1) c.Kids.length (fun k q=>q.2 = (c.Kids.take k).flatMap (I4 d)) 0 (Nat.zero_le _) rfl rfl (by omega) (fun rec q hq hI=>?_) fun rec k q hk hq hI ih=>?_
     ·simp only [IZ,hq,hI,List.take_length]
      rw [Ba]
      exact Ok.some (by unfold I4; rw [e]; rfl)
     ·have hx:=List.getElem_mem hk
      obtain ⟨m,hm,hr⟩:=hk2 _ hx
      have hacc:((c.Kids.take k).flatMap (I4 d)).length≤(c.Kids.take k).length * 40:=Y4 fun y hy=>hkl y (List.mem_of_mem_take hy)
      rw [List.length_take] at hacc
      have:=hkl _ hx
      simp only [IZ,hq,hI]
      rw [AK]
      exact Ok.idxn hk (Ok.bindE (e8 m d hr (by omega) (by omega)) (Ok.rm (by omega) (ih _ Dv (SI hk).symm)))
theorem YJ:∀ (n d d':Nat) {c:Af},RC s n c→n < d→n < d'→I4 d c = I4 d' c
 | n,d + 1,d' + 1,c,h,hd,hd'=>by
   unfold I4
   cases e:U2 c with
   | true=>rfl
   | false =>
     show c.Kids.flatMap (I4 d) = c.Kids.flatMap (I4 d')
     rw [List.flatMap_def,List.flatMap_def]
     congr 1
     refine List.map_congr_left fun k hk=>?_
     obtain ⟨m,hm,hr⟩:=h.kids.2 k hk
     exact YJ m d d' hr (by omega) (by omega)
def Pr (s:Aa) (a:Af):Int:=(((List.range 6).find? fun l:Nat=>Bi s a (l:Int)==some true).getD 0:Nat)
theorem AT.least (hs:DS s) {a:Af} {i:Nat} {S:Int→Prop} (h:AT s a i S):0≤Pr s a∧Pr s a≤fin s i∧S (Pr s a)∧∀ l,0≤l→l < Pr s a→¬ S l:=by
 have hf:=hs.fin_ok h.i0 h.i1
 have iff:∀ l:Nat,(l:Int)≤fin s i→((Bi s a (l:Int)==some true) = true↔S l):=by
  intro l hl
  obtain ⟨b,hb,hb2⟩:=h.p l (by omega) hl
  rw [hb,← hb2]
  cases b <;> simp
 unfold Pr
 cases e:(List.range 6).find? fun l:Nat=>Bi s a (l:Int)==some true with
 | none =>
   have:=List.find?_eq_none.1 e (fin s i).toNat (List.mem_range.2 (by omega))
   exact absurd ((iff _ (by omega)).2 (by rw [Int.toNat_of_nonneg (by omega)]; exact h.last)) this
 | some m =>
   obtain ⟨h1,h2,h3⟩:=List.find?_range_eq_some.1 e
   have hm:(m:Int)≤fin s i:=by
    by_cases hlt:fin s i < m
    ·have:=h3 (fin s i).toNat (by omega)
     rw [(iff _ (by omega)).2 (by rw [Int.toNat_of_nonneg (by omega)]; exact h.last)] at this
     cases this
    ·omega
   refine ⟨Int.natCast_nonneg m,hm,(iff m hm).1 h1,fun l l0 l1 hS=>?_⟩
   have l1:l < (m:Int):=l1
   have:=h3 l.toNat (by omega)
   rw [(iff _ (by omega)).2 (by rw [Int.toNat_of_nonneg l0]; exact hS)] at this
   cases this
theorem AT.lvl_iff (hs:DS s) {a:Af} {i:Nat} {S:Int→Prop} (h:AT s a i S) {l:Int} (l0:0≤l) (l1:l≤fin s i):S l↔Pr s a≤l:=by
 obtain ⟨h1,h2,h3,h4⟩:=h.least hs
 constructor
 ·intro hS
  by_cases hlt:l < Pr s a
  ·exact absurd hS (h4 l l0 hlt)
  ·omega
 ·intro hle
  exact h.up _ _ h1 h3 hle l1
end Go.Proofs.YtejfnieiaecpkaaGreatDoor.P
namespace Go.Proofs.YtejfnieiaecpkaaGreatDoor.P
open Go Go.Abs Go.Proofs
set_option maxRecDepth 100000
variable {s:Aa}
def one (picks:List Ae) (i l:Int):Prop:=l≤0∨∃ p∈picks,p.Column = i∧l≤p.Level
theorem Mq {picks:List Ae} {i a b:Int}:one picks i (if a > b then a else b)↔one picks i b∧one picks i a:=by
 unfold one
 constructor
 ·rintro (h | ⟨p,h1,h2,h3⟩)
  ·split at h <;> exact ⟨.inl (by omega),.inl (by omega)⟩
  ·split at h3 <;> exact ⟨.inr ⟨p,h1,h2,by omega⟩,.inr ⟨p,h1,h2,by omega⟩⟩
 ·rintro ⟨h1,h2⟩
  split
  ·exact h2
  ·exact h1
theorem U4 {picks r:List Ae} (h:∀ p∈r,0 < p.Level):covers picks r = true↔∀ p∈r,one picks p.Column p.Level:=by
 unfold covers
 rw [List.all_eq_true]
 constructor
 ·intro hc p hp
  obtain ⟨q,hq,hq2⟩:=List.any_eq_true.1 (hc p hp)
  by_cases e:q.Column = p.Column
  ·have:(q.Column==p.Column) = true:=by simpa using e
   rw [this,cond_true,decide_eq_true_eq] at hq2
   exact .inr ⟨q,hq,e,hq2⟩
  ·have:(q.Column==p.Column) = false:=by simpa using e
   rw [this] at hq2; cases hq2
 ·intro hc p hp
  rcases hc p hp with h1 | ⟨q,hq,h1,h2⟩
  ·have:=h p hp; omega
  ·refine List.any_eq_true.2 ⟨q,hq,?_⟩
   rw [h1,beq_self_eq_true,cond_true,decide_eq_true_eq]
   exact h2
structure NO (s:Aa) (l:List Af) (r:List Ae):Prop where
 len:r.length≤100
 pos:∀ p∈r,0 < p.Level
 iff:∀ picks,(∀ p∈r,one picks p.Column p.Level)↔∀ a∈l,one picks a.Column (Pr s a)
theorem NO.covers {l:List Af} {r:List Ae} (h:NO s l r) (picks:List Ae):covers picks r = true↔∀ a∈l,one picks a.Column (Pr s a):=(U4 h.pos).trans (h.iff picks)
theorem pneeds (hs:DS s) {n d:Nat} {c:Af} (h:RC s n c) (hd:n < d) (hn:n≤39∧DP 9 c):Ok (CX d s c) (NO s (I4 d c)):=by
 have hcl:=hs.cols_length
 have hal:=R1 n d h
 have hat:=Us hs n d h
 unfold CX
 refine Ok.bindE (h.check hs hn hd) (Ok.no rfl (Ok.gd ?_ (Ok.bindE (dA n d h hd hn.1) ?_)))
 ·rw [dt,Zb (by omega)]; rfl
 refine Ok.for (fun q=>q.1) (I4 d c).length (fun k q=>q.2.length = s.Columns.length∧∀ picks,(∀ (i:Nat) (hi:i < q.2.length),one picks i q.2[i])↔∀ a∈(I4 d c).take k,one picks a.Column (Pr s a)) 0 (Nat.zero_le _) rfl ⟨by simp,fun picks=>?_⟩ (by omega) (fun rec q hq hI=>?_) fun rec k q hk hq hI ih=>?_
 ·refine ⟨fun _ a ha=>by simp at ha,fun _ i hi=>.inl ?_⟩
  simp
 ·obtain ⟨hI1,hI2⟩:=hI
  simp only [Gu,hq]
  rw [Ba]
  generalize q.2 = lv at *
  refine Ok.for (fun q=>q.1) lv.length (fun k q=>q.2.length≤k∧(∀ p∈q.2,0 < p.Level)∧∀ picks,(∀ p∈q.2,one picks p.Column p.Level)↔∀ (i:Nat) (hi:i < lv.length),i < k→one picks i lv[i]) 0 (Nat.zero_le _) rfl ⟨Nat.le_refl _,(fun p hp=>by cases hp),fun picks=>⟨fun _ i _ hi=>by omega,fun _ p hp=>by cases hp⟩⟩ (by omega) (fun rec q hq hI=>?_) fun rec k q hk hq hI ih=>?_
  ·simp only [FW,hq]
   rw [Ba]
   refine Ok.some ⟨by have:=hI.1; omega,hI.2.1,fun picks=>?_⟩
   rw [hI.2.2 picks]
   have:=hI2 picks
   rw [List.take_length] at this
   rw [← this]
   exact ⟨fun h i hi=>h i hi hi,fun h i hi _=>h i hi⟩
  ·obtain ⟨j1,j2,j3⟩:=hI
   simp only [FW,hq]
   rw [AK]
   refine Ok.idxn hk (Ok.brd (fun hp=>Ok.rm (by simp; omega) (ih _ Dv ⟨by simp; omega,fun p hp2=>?_,fun picks=>?_⟩)) fun hp=>ih _ Dv ⟨by show q.2.length≤k + 1; omega,j2,fun picks=>?_⟩)
   ·rcases List.mem_append.1 hp2 with hp2 | hp2
    ·exact j2 p hp2
    ·rw [List.mem_singleton] at hp2; subst hp2; exact hp
   ·constructor
    ·intro hall i hi hik
     by_cases e:i = k
     ·subst e
      exact hall { Column:=(i:Int),Level:=lv[i] } (List.mem_append_right _ (List.mem_singleton.2 rfl))
     ·exact (j3 picks).1 (fun p hp2=>hall p (List.mem_append_left _ hp2)) i hi (by omega)
    ·intro hall p hp2
     rcases List.mem_append.1 hp2 with hp2 | hp2
     ·exact (j3 picks).2 (fun i hi hik=>hall i hi (by omega)) p hp2
     ·rw [List.mem_singleton] at hp2; subst hp2
      exact hall k hk (by omega)
   ·rw [j3 picks]
    constructor
    ·intro hall i hi hik
     by_cases e:i = k
     ·subst e; exact .inl (by omega)
     ·exact hall i hi (by omega)
    ·exact fun hall i hi hik=>hall i hi (by omega)
 ·obtain ⟨hI1,hI2⟩:=hI
  obtain ⟨i,S,hA⟩:=hat _ (List.getElem_mem hk)
  obtain ⟨m0,m1,_,_⟩:=hA.least hs
  have hf:=hs.fin_ok hA.i0 hA.i1
  simp only [Gu,hq]
  rw [AK]
  refine Ok.idxn hk ?_
  refine Ok.loop (fun v=>0≤v∧v≤Pr s (I4 d c)[k]) (fun v=>(Pr s (I4 d c)[k] - v).toNat) ⟨Int.le_refl _,m0⟩ (by unfold A8; omega) fun rec2 v hv ih2=>?_
  simp only [Iw]
  obtain ⟨b,hb1,hb2⟩:=hA.p v hv.1 (by omega)
  have hb3:=hA.lvl_iff hs hv.1 (by omega:v≤fin s i)
  refine Ok.bindE hb1 (Ok.br (fun e=>?_) fun e=>?_)
  ·have:¬ Pr s (I4 d c)[k]≤v:=fun hle=>by
    rw [hb2.2 (hb3.2 hle)] at e; cases e
   have ev:IntKind.i64.wrap (v + 1) = v + 1:=wr
   rw [ev]
   exact ih2 _ ⟨by omega,by omega⟩ (by omega)
  ·have hle:Pr s (I4 d c)[k]≤v:=hb3.1 (hb2.1 (by simpa using e))
   have ev:v = Pr s (I4 d c)[k]:=by omega
   unfold E8
   have hcol:=hA.col
   have hi1:=hA.i1
   rw [hcol]
   refine Ok.idxn (by omega) (Ok.idxn (by omega) (ih _ Dv ⟨by show (q.2.set _ _).length = _; rw [List.length_set]; exact hI1,fun picks=>?_⟩))
   show (∀ (j:Nat) (hj:j < (q.2.set (i:Int).toNat _).length),one picks j (q.2.set (i:Int).toNat _)[j])↔_
   rw [List.take_succ_eq_append_getElem hk]
   simp only [Int.toNat_natCast]
   constructor
   ·intro hall a ha
    rcases List.mem_append.1 ha with ha | ha
    ·refine (hI2 picks).1 (fun j hj=>?_) a ha
     have:=hall j (by rw [List.length_set]; exact hj)
     rw [List.getElem_set] at this
     by_cases e2:i = j
     ·subst e2
      rw [if_pos rfl] at this
      exact (Mq.1 this).1
     ·rw [if_neg e2] at this; exact this
    ·rw [List.mem_singleton] at ha; subst ha
     have:=hall i (by rw [List.length_set]; omega)
     rw [List.getElem_set,if_pos rfl] at this
     rw [hcol,← ev]
     exact (Mq.1 this).2
   ·intro hall j hj
    have hold:=(hI2 picks).2 fun a ha=>hall a (List.mem_append_left _ ha)
    rw [List.length_set] at hj
    rw [List.getElem_set]
    by_cases e2:i = j
    ·subst e2
     rw [if_pos rfl]
     have:=hall _ (List.mem_append_right _ (List.mem_singleton.2 rfl))
     rw [hcol,← ev] at this
     exact Mq.2 ⟨hold i hj,this⟩
    ·rw [if_neg e2]; exact hold j hj
end Go.Proofs.YtejfnieiaecpkaaGreatDoor.P
namespace Go.Proofs.YtejfnieiaecpkaaGreatDoor.P
open Go Go.Abs Go.Proofs
set_option maxRecDepth 100000
variable {s:Aa}
theorem J9 {picks b:List Ae} {x:Ae}:(∀ p∈b++[x],one picks p.Column p.Level)↔(∀ p∈b,one picks p.Column p.Level)∧one picks x.Column x.Level:=by
 constructor
 ·intro h
  exact ⟨fun p hp=>h p (List.mem_append_left _ hp),h x (List.mem_append_right _ (List.mem_singleton.2 rfl))⟩
 ·rintro ⟨h1,h2⟩ p hp
  rcases List.mem_append.1 hp with hp | hp
  ·exact h1 p hp
  ·rw [List.mem_singleton] at hp; subst hp; exact h2
theorem Ml {b:List Ae} {x:Ae} (h:∀ p∈b,0 < p.Level) (hx:0 < x.Level):∀ p∈b++[x],0 < p.Level:=by
 intro p hp
 rcases List.mem_append.1 hp with hp | hp
 ·exact h p hp
 ·rw [List.mem_singleton] at hp; subst hp; exact hx
theorem Xs {l:List Ae} {c n:Int} (hl:l.length≤1000) (hpos:∀ p∈l,0 < p.Level):Ok (Cw l c n) fun r=>r.length≤l.length + 1∧(∀ p∈r,0 < p.Level)∧∀ picks,(∀ p∈r,one picks p.Column p.Level)↔(∀ p∈l,one picks p.Column p.Level)∧one picks c n:=by
 unfold Cw
 refine Ok.for (fun q=>q.2.1) l.length (fun k q=>q.2.2.length≤k + (if q.1 then 1 else 0)∧(q.1 = false→0 < n)∧(∀ p∈q.2.2,0 < p.Level)∧∀ picks,(∀ p∈q.2.2,one picks p.Column p.Level)↔(∀ p∈l.take k,one picks p.Column p.Level)∧(q.1 = true→one picks c n)) 0 (Nat.zero_le _) rfl
  ⟨by simp,fun h=>by have:¬ n≤0:=of_decide_eq_false h; omega,(fun p hp=>by cases hp),fun picks=>⟨fun _=>⟨(fun p hp=>by cases hp),fun h=>.inl (of_decide_eq_true h)⟩,fun _ p hp=>by cases hp⟩⟩ (by omega) (fun rec q hq hI=>?_) fun rec k q hk hq hI ih=>?_
 ·obtain ⟨i1,i2,i3,i4⟩:=hI
  simp only [J2,hq]
  rw [Ba]
  unfold LQ
  refine Ok.br (fun e=>Ok.rm (by simp; split at i1 <;> omega) (Ok.some ⟨?_,?_,fun picks=>?_⟩)) fun e=>Ok.some ⟨?_,i3,fun picks=>?_⟩
  ·have e:q.1 = false:=by simpa using e
   rw [e] at i1
   simp at i1 ⊢
   omega
  ·have e:q.1 = false:=by simpa using e
   exact Ml i3 (i2 e)
  ·have e:q.1 = false:=by simpa using e
   have:=i4 picks
   rw [List.take_length] at this
   rw [J9,this]
   exact ⟨fun h=>⟨h.1.1,h.2⟩,fun h=>⟨⟨h.1,fun h2=>by rw [e] at h2; cases h2⟩,h.2⟩⟩
  ·split at i1 <;> omega
  ·have e:q.1 = true:=by simpa using e
   have:=i4 picks
   rw [List.take_length] at this
   rw [this]
   exact ⟨fun h=>⟨h.1,h.2 e⟩,fun h=>⟨h.1,fun _=>h.2⟩⟩
 ·obtain ⟨i1,i2,i3,i4⟩:=hI
  have hx:=hpos _ (List.getElem_mem hk)
  have hb:q.2.2.length≤k + 1:=by split at i1 <;> omega
  have i4':∀ picks,(∀ p∈l.take (k + 1),one picks p.Column p.Level)↔(∀ p∈l.take k,one picks p.Column p.Level)∧one picks l[k].Column l[k].Level:=by
   intro picks
   rw [List.take_succ_eq_append_getElem hk]
   exact J9
  simp only [J2,hq]
  rw [AK]
  refine Ok.idxn hk (Ok.br (fun e=>?_) fun e=>?_)
  ·have e2:q.1 = false:=by
    by_cases h:l[k].Column > c
    ·rw [decide_eq_true h] at e; simpa using e
    ·rw [decide_eq_false h] at e; cases e
   have hn:=i2 e2
   rw [e2] at i1
   have i1:q.2.2.length≤k:=by simpa using i1
   refine Ok.rm (by simp; omega) (Ok.br (fun e3=>?_) fun e3=>?_)
   ·have e3:l[k].Column = c:=by simpa using e3
    refine Ok.rm (by simp; omega) (ih _ Dv ⟨by simp; omega,(fun h=>by cases h),Ml (Ml i3 hn) (by show 0 < (if n > l[k].Level then n else l[k].Level); split <;> omega),fun picks=>?_⟩)
    show (∀ p∈(q.2.2++[_])++[_],one picks p.Column p.Level)↔_
    rw [J9,J9,i4 picks,i4' picks,e3]
    show (((_∧_)∧one picks c n)∧one picks c (if n > l[k].Level then n else l[k].Level))↔_
    rw [Mq]
    exact ⟨fun h=>⟨⟨h.1.1.1,h.2.1⟩,fun _=>h.1.2⟩,fun h=>⟨⟨⟨h.1.1,fun h2=>h.2 rfl⟩,h.2 rfl⟩,h.1.2,h.2 rfl⟩⟩
   ·refine Ok.rm (by simp; omega) (ih _ Dv ⟨by simp; omega,(fun h=>by cases h),Ml (Ml i3 hn) hx,fun picks=>?_⟩)
    show (∀ p∈(q.2.2++[_])++[_],one picks p.Column p.Level)↔_
    rw [J9,J9,i4 picks,i4' picks]
    exact ⟨fun h=>⟨⟨h.1.1.1,h.2⟩,fun _=>h.1.2⟩,fun h=>⟨⟨⟨h.1.1,fun h2=>h.2 rfl⟩,h.2 rfl⟩,h.1.2⟩⟩
  ·refine Ok.br (fun e3=>?_) fun e3=>?_
   ·have e3:l[k].Column = c:=by simpa using e3
    refine Ok.rm (by simp; omega) (ih _ Dv ⟨by simp; omega,(fun h=>by cases h),Ml i3 (by show 0 < (if n > l[k].Level then n else l[k].Level); split <;> omega),fun picks=>?_⟩)
    show (∀ p∈q.2.2++[_],one picks p.Column p.Level)↔_
    rw [J9,i4 picks,i4' picks,e3]
    show ((_∧_)∧one picks c (if n > l[k].Level then n else l[k].Level))↔_
    rw [Mq]
    exact ⟨fun h=>⟨⟨h.1.1,h.2.1⟩,fun _=>h.2.2⟩,fun h=>⟨⟨h.1.1,fun h2=>h.2 rfl⟩,h.1.2,h.2 rfl⟩⟩
   ·refine Ok.rm (by simp; omega) (ih _ Dv ⟨by simp; split <;> split at i1 <;> simp_all <;> omega,i2,Ml i3 hx,fun picks=>?_⟩)
    show (∀ p∈q.2.2++[_],one picks p.Column p.Level)↔_
    rw [J9,i4 picks,i4' picks]
    exact ⟨fun h=>⟨⟨h.1.1,h.2⟩,h.1.2⟩,fun h=>⟨⟨h.1.1,h.2⟩,h.1.2⟩⟩
theorem SB (hs:DS s) {n d:Nat} {c:Af} (h:RC s n c) (hd:n < d) (hn:n≤39∧DP 9 c):Ok (Ct d s c) (NO s (I4 d c)):=by
 have hcl:=hs.cols_length
 have hal:=R1 n d h
 have hat:=Us hs n d h
 unfold Ct
 refine Ok.bindE (h.rcheck hs hn hd) (Ok.no rfl (Ok.bindE (e8 n d h hd hn.1) ?_))
 refine Ok.for (fun q=>q.2) (I4 d c).length (fun k q=>q.1.length≤k∧(∀ p∈q.1,0 < p.Level)∧∀ picks,(∀ p∈q.1,one picks p.Column p.Level)↔∀ a∈(I4 d c).take k,one picks a.Column (Pr s a)) 0 (Nat.zero_le _) rfl ⟨Nat.le_refl _,(fun p hp=>by cases hp),fun picks=>⟨fun _ a ha=>by simp at ha,fun _ p hp=>by cases hp⟩⟩ (by omega) (fun rec q hq hI=>?_) fun rec k q hk hq hI ih=>?_
 ·obtain ⟨i1,i2,i3⟩:=hI
  simp only [Jt,hq]
  rw [Ba]
  rw [List.take_length] at i3
  exact Ok.some ⟨by omega,i2,i3⟩
 ·obtain ⟨i1,i2,i3⟩:=hI
  obtain ⟨i,S,hA⟩:=hat _ (List.getElem_mem hk)
  obtain ⟨m0,m1,_,_⟩:=hA.least hs
  have hf:=hs.fin_ok hA.i0 hA.i1
  simp only [Jt,hq]
  rw [AK]
  refine Ok.loop (fun v=>0≤v∧v≤Pr s (I4 d c)[k]) (fun v=>(Pr s (I4 d c)[k] - v).toNat) ⟨Int.le_refl _,m0⟩ (by unfold A8; omega) fun rec2 v hv ih2=>?_
  simp only [Mi]
  obtain ⟨b,hb1,hb2⟩:=hA.r v hv.1 (by omega)
  have hb3:=hA.lvl_iff hs hv.1 (by omega:v≤fin s i)
  refine Ok.idxn hk (Ok.bindE hb1 (Ok.br (fun e=>?_) fun e=>?_))
  ·have:¬ Pr s (I4 d c)[k]≤v:=fun hle=>by
    rw [hb2.2 (hb3.2 hle)] at e; cases e
   have ev:IntKind.i64.wrap (v + 1) = v + 1:=wr
   rw [ev]
   exact ih2 _ ⟨by omega,by omega⟩ (by omega)
  ·have hle:Pr s (I4 d c)[k]≤v:=hb3.1 (hb2.1 (by simpa using e))
   have ev:v = Pr s (I4 d c)[k]:=by omega
   unfold J7
   refine Ok.idxn hk (Ok.bind (Xs (by omega) i2) fun r hr=>ih _ Dv ⟨by show r.length≤k + 1; omega,hr.2.1,fun picks=>?_⟩)
   rw [hr.2.2 picks,i3 picks,List.take_succ_eq_append_getElem hk,ev]
   constructor
   ·rintro ⟨h1,h2⟩ a ha
    rcases List.mem_append.1 ha with ha | ha
    ·exact h1 a ha
    ·rw [List.mem_singleton] at ha; subst ha; exact h2
   ·exact fun h=>⟨fun a ha=>h a (List.mem_append_left _ ha),h _ (List.mem_append_right _ (List.mem_singleton.2 rfl))⟩
theorem Uq (picks needs:List Ae) (h1:picks.length≤1000000) (h2:needs.length≤1000000):Gz needs picks = some (covers picks needs):=by
 refine Ok.val ?_
 unfold Gz
 refine Ok.for (fun q=>q) needs.length (fun k _=>covers picks (needs.take k) = true) 0 (Nat.zero_le _) rfl rfl (by omega) (fun rec q hq hI=>?_) fun rec k q hk hq hI ih=>?_
 ·simp only [Iq,hq]
  rw [Ba]
  rw [List.take_length] at hI
  exact Ok.some hI.symm
 ·simp only [Iq,hq]
  rw [AK]
  have hany:∀ f:Ae→Bool,picks.any f = false→f = (fun p=>bif p.Column==needs[k].Column then decide (p.Level ≥ needs[k].Level) else false)→covers picks needs = false:=by
   intro f hf e
   subst e
   unfold covers
   rw [List.all_eq_false]
   exact ⟨_,List.getElem_mem hk,by rw [hf]; decide⟩
  refine Ok.for (fun q=>q.2) picks.length (fun j q=>q.1 = (picks.take j).any fun p=>bif p.Column==needs[k].Column then decide (p.Level ≥ needs[k].Level) else false) 0 (Nat.zero_le _) rfl rfl (by omega) (fun rec2 q2 hq2 hI2=>?_) fun rec2 j q2 hj hq2 hI2 ih2=>?_
  ·simp only [It,hq2]
   rw [Ba]
   rw [List.take_length] at hI2
   refine Ok.br (fun e=>Ok.some ?_) fun e=>ih _ Dv ?_
   ·have e:q2.1 = false:=by simpa using e
    exact (hany _ (by rw [← hI2,e]) rfl).symm
   ·have e:q2.1 = true:=by simpa using e
    unfold covers at hI ⊢
    rw [List.take_succ_eq_append_getElem hk,List.all_append,hI,Bool.true_and]
    simp only [List.all_cons,List.all_nil,Bool.and_true]
    rw [← hI2,e]
  ·simp only [It,hq2]
   rw [AK]
   refine Ok.br (fun e=>ih2 _ Dv ?_) fun e=>Ok.idxn hj (Ok.idxn hk (Ok.br (fun e2=>Ok.idxn hj (Ok.idxn hk (ih2 _ Dv ?_))) fun e2=>ih2 _ Dv ?_))
   ·show true = _
    rw [List.take_succ_eq_append_getElem hj,List.any_append,← hI2,e]; rfl
   ·show decide _ = _
    rw [List.take_succ_eq_append_getElem hj,List.any_append,← hI2,e]
    simp only [List.any_cons,List.any_nil,Bool.or_false,Bool.false_or]
    rw [e2]; rfl
   ·show false = _
    rw [List.take_succ_eq_append_getElem hj,List.any_append,← hI2,e]
    simp only [List.any_cons,List.any_nil,Bool.or_false,Bool.false_or]
    rw [e2]; rfl
theorem GC.rneeds (hs:DS s) {c:Af} (h:GC s c):Ok (Ct DD s c) (NO s (I4 DD c)):=by
 obtain ⟨n,h1,h2⟩:=h
 exact SB hs h1 (by show n < 60; omega) h2
theorem GC.pneeds (hs:DS s) {c:Af} (h:GC s c):Ok (CX DD s c) (NO s (I4 DD c)):=by
 obtain ⟨n,h1,h2⟩:=h
 exact P.pneeds hs h1 (by show n < 60; omega) h2
end Go.Proofs.YtejfnieiaecpkaaGreatDoor.P
namespace Go.Proofs.YtejfnieiaecpkaaGreatDoor.P
open Go Go.Abs Go.Proofs
set_option maxRecDepth 100000
variable {s:Aa}
def lk (picks:List Ae) (vals:List Int) (i:Int):Nat→Int × Int
 | 0=>(0,0)
 | k + 1=>if (picks.getD k { Column:=0,Level:=0 }).Column = i then ((picks.getD k { Column:=0,Level:=0 }).Level,vals.getD k 0) else lk picks vals i k
theorem Rv {α:Type} {l:List α} {k:Nat} (hk:k < l.length) (z:α):l.getD k z = l[k]:=by rw [List.getD_eq_getElem?_getD,List.getElem?_eq_getElem hk]; rfl
theorem Ul {picks:List Ae} {vals:List Int} {i:Int} {k:Nat} (hk:k < picks.length) (hk2:k < vals.length):lk picks vals i (k + 1) = if picks[k].Column = i then (picks[k].Level,vals[k]) else lk picks vals i k:=by
 rw [lk,Rv hk,Rv hk2]
theorem Z3 {picks:List Ae} {vals:List Int} (hl:picks.length≤vals.length) (i:Int):∀ k,k≤picks.length→(lk picks vals i k = (0,0)∧∀ (j:Nat) (hj:j < picks.length),j < k→picks[j].Column≠i)∨∃ (j:Nat) (hj:j < picks.length) (hj2:j < vals.length),picks[j].Column = i∧lk picks vals i k = (picks[j].Level,vals[j])
 | 0,_=>.inl ⟨rfl,fun j _ h=>by omega⟩
 | k + 1,hk=>by
   rw [Ul (by omega) (by omega:k < vals.length)]
   by_cases e:picks[k].Column = i
   ·rw [if_pos e]; exact .inr ⟨k,by omega,by omega,e,rfl⟩
   ·rw [if_neg e]
    rcases Z3 hl i k (by omega) with ⟨h1,h2⟩ | h1
    ·refine .inl ⟨h1,fun j hj hjk=>?_⟩
     by_cases e2:j = k
     ·subst e2; exact e
     ·exact h2 j hj (by omega)
    ·exact .inr h1
theorem iC (hs:DS s) {x:Aw} (hx:GX s x) {r:List Int} (hr:r∈x.Rows) {a:Af} {i:Nat} {S:Int→Prop} (hA:AT s a i S) (hc:one x.Picks a.Column (Pr s a)) :
 ∃ t u u',Bd s i (lk x.Picks (r.drop 1) i x.Picks.length).1 (lk x.Picks (r.drop 1) i x.Picks.length).2 = some (u,true)∧B2 s a u = some t∧Da s i (lk x.Picks (r.drop 1) i x.Picks.length).1 (lk x.Picks (r.drop 1) i x.Picks.length).2 = some u'∧Bu s a u' = some t∧-1≤t∧t≤1:=by
 have hrl:=(hx.rows _ hr).1
 have hf:=hs.fin_ok hA.i0 hA.i1
 have hvl:(r.drop 1).length = x.Picks.length:=by rw [List.length_drop]; omega
 obtain ⟨m0,m1,m2,m3⟩:=hA.least hs
 rw [hA.col] at hc
 rcases Z3 (picks:=x.Picks) (vals:=r.drop 1) (by omega) (i:Int) x.Picks.length (Nat.le_refl _) with ⟨h1,h2⟩ | ⟨j,hj,hj2,h1,h2⟩
 ·rw [h1]
  refine hA.sem0 ?_
  rcases hc with hc | ⟨p,hp,hp1,_⟩
  ·have:Pr s a = 0:=by omega
   rw [← this]; exact m2
  ·obtain ⟨j,hj,rfl⟩:=List.mem_iff_getElem.1 hp
   exact absurd hp1 (h2 j hj hj)
 ·rw [h2]
  obtain ⟨i',hi',w,hw0,hw1,hw2,hw3⟩:=(hx.rows _ hr).2.2.2 j x.Picks[j] (r.drop 1)[j] (List.getElem?_eq_getElem hj) (by
   rw [List.getElem?_eq_getElem (by omega)]
   congr 1
   rw [List.getElem_drop]
   congr 1; omega)
  obtain rfl:i = i':=by rw [h1] at hw1; omega
  obtain ⟨i'',_,_,q1,q2,q3⟩:=hx.picks _ (List.getElem_mem hj)
  obtain rfl:i = i'':=by rw [h1] at q1; omega
  rw [hw3]
  refine hA.sem _ q2 q3 ?_ w hw2
  refine (hA.lvl_iff hs q2 q3).2 ?_
  rcases hc with hc | ⟨p,hp,hp1,hp2⟩
  ·omega
  ·obtain ⟨k,hk,rfl⟩:=List.mem_iff_getElem.1 hp
   have:k = j:=by
    have hpw:=List.pairwise_iff_getElem.1 hx.order
    rcases Nat.lt_trichotomy k j with h | h | h
    ·have:=hpw k j hk hj h; omega
    ·exact h
    ·have:=hpw j k hj hk h; omega
   subst this
   exact hp2
theorem OT {self:Aa→Af→List Ae→List Int→Option Int} {picks:List Ae} {vals:List Int} {c:Af} {ts:List Int} (hl:c.Kids.length = ts.length) (h2:ts.length≤2) (h:∀ (k:Nat) (hk:k < c.Kids.length) (hk2:k < ts.length),self s c.Kids[k] picks vals = some ts[k]) {R:Int} (hR:Gs c.Op ts = some R) :
 iter (fun rec2 st=>GK c self s picks vals (fun v13_2 b12_2=>(Gs c.Op b12_2).bind fun x81=>some x81) rec2 st.1 st.2) A8 (0,[]) = some R:=by
 refine Ok.val ?_
 refine Ok.for (fun q=>q.1) c.Kids.length (fun k q=>q.2 = ts.take k) 0 (Nat.zero_le _) rfl rfl (by omega) (fun rec q hq hI=>?_) fun rec k q hk hq hI ih=>?_
 ·simp only [GK,hq,hI]
  rw [Ba,hl,List.take_length]
  exact Ok.bindE hR (Ok.some rfl)
 ·simp only [GK,hq,hI]
  rw [AK]
  exact Ok.idxn hk (Ok.bindE (h k hk (by omega)) (Ok.rm (by simp; omega) (ih _ Dv (List.take_succ_eq_append_getElem (by omega)).symm)))
def fk (s:Aa) (picks:List Ae) (vals:List Int) (a:Af):Option Int :=
 iter (fun rec1 st=>GH picks a vals (fun v9_1 v10_1 v11_1=>(Da s a.Column v9_1 v10_1).bind fun x57=>(Bu s a x57).bind fun x58=>some x58) rec1 st.1 st.2.1 st.2.2) A8 (0,0,0)
theorem bV (picks:List Ae) (vals:List Int) (f:Af→Option Int):∀ (n d:Nat) {c:Af},RC s n c→n < d→(∀ a∈I4 d c,∃ t,f a = some t∧fk s picks vals a = some t∧-1≤t∧t≤1)→∃ t,Bg d c f = some t∧BQ d s c picks vals = some t∧-1≤t∧t≤1
 | n,d + 1,c,h,hd,ha=>by
   have atom:U2 c = true→∃ t,Bg (d + 1) c f = some t∧BQ (d + 1) s c picks vals = some t∧-1≤t∧t≤1:=by
    intro e
    have ho:=aZ e
    have n1:¬ c.Op = 1:=by omega
    have n5:¬ c.Op = 5:=by omega
    have n6:¬ c.Op = 6:=by omega
    have n7:¬ c.Op = 7:=by omega
    obtain ⟨t,h1,h2,h3⟩:=ha c (by unfold I4; rw [e]; simp)
    refine ⟨t,Ok.val ?_,Ok.val ?_,h3⟩
    ·show Ok (B6 d (Bg d) c f) _
     unfold B6
     exact Ok.no (by simpa using n1) (Ok.no (by simpa using n5) (Ok.no (by simpa using n6) (Ok.no (by simpa using n7) (Ok.bindE h1 (Ok.some rfl)))))
    ·show Ok (Cq d (BQ d) s c picks vals) _
     unfold Cq
     exact Ok.yes e (Ok.eq h2)
   have two:∀ (a b:Af),c.Kids = [a,b]→U2 c = false→(∀ k∈[a,b],∃ t,Bg d k f = some t∧BQ d s k picks vals = some t∧-1≤t∧t≤1)→∃ ta tb,Bg d a f = some ta∧Bg d b f = some tb∧-1≤ta∧ta≤1∧-1≤tb∧tb≤1∧∀ R,Gs c.Op [ta,tb] = some R→BQ (d + 1) s c picks vals = some R:=by
    intro a b hk e hh
    obtain ⟨ta,a1,a2,a3,a4⟩:=hh a (by simp)
    obtain ⟨tb,b1,b2,b3,b4⟩:=hh b (by simp)
    refine ⟨ta,tb,a1,b1,a3,a4,b3,b4,fun R hR=>?_⟩
    refine Ok.val ?_
    show Ok (Cq d (BQ d) s c picks vals) _
    unfold Cq
    refine Ok.no e (Ok.eq (OT (ts:=[ta,tb]) (by rw [hk]; rfl) (by simp) (fun k hk1 hk2=>?_) hR))
    have hk1':k < 2:=by simpa using hk2
    simp only [hk]
    match k,hk1' with
    | 0,_=>exact a2
    | 1,_=>exact b2
   have kidsIH:U2 c = false→∀ k∈c.Kids,∃ t,Bg d k f = some t∧BQ d s k picks vals = some t∧-1≤t∧t≤1:=by
    intro e k hk
    obtain ⟨m,hm,hrk⟩:=h.kids.2 k hk
    exact bV picks vals f m d hrk (by omega) fun a haa=>ha a (by unfold I4; rw [e]; exact List.mem_flatMap.2 ⟨k,hk,haa⟩)
   cases h with
   | under=>exact atom rfl
   | between=>exact atom rfl
   | miss=>exact atom rfl
   | all =>
     refine ⟨1,Ok.val ?_,Ok.val ?_,by omega,by omega⟩
     ·show Ok (B6 d (Bg d) QI f) _
      unfold B6
      exact Ok.yes rfl (Ok.some rfl)
     ·show Ok (Cq d (BQ d) s QI picks vals) _
      unfold Cq
      exact Ok.no rfl (Ok.eq (OT (c:=QI) (ts:=[]) rfl (by simp) (fun k hk _=>by simp [QI] at hk) rfl))
   | and n na nb hnn a b ha' hb' =>
     obtain ⟨ta,tb,a1,b1,a3,a4,b3,b4,hR⟩:=two a b rfl rfl (kidsIH rfl)
     refine ⟨if tb < ta then tb else ta,Ok.val ?_,hR _ rfl,by split <;> omega,by split <;> omega⟩
     show Ok (B6 d (Bg d) _ f) _
     unfold B6
     exact Ok.no rfl (Ok.yes rfl (Ok.bindE (x:=a) rfl (Ok.bindE a1 (Ok.bindE (x:=b) rfl (Ok.bindE b1 (Ok.some rfl))))))
   | or n na nb hnn a b ha' hb' =>
     obtain ⟨ta,tb,a1,b1,a3,a4,b3,b4,hR⟩:=two a b rfl rfl (kidsIH rfl)
     refine ⟨if tb > ta then tb else ta,Ok.val ?_,hR _ rfl,by split <;> omega,by split <;> omega⟩
     show Ok (B6 d (Bg d) _ f) _
     unfold B6
     exact Ok.no rfl (Ok.no rfl (Ok.yes rfl (Ok.bindE (x:=a) rfl (Ok.bindE a1 (Ok.bindE (x:=b) rfl (Ok.bindE b1 (Ok.some rfl)))))))
   | not n na hnn a ha' =>
     obtain ⟨ta,a1,a2,a3,a4⟩:=kidsIH rfl a (by simp)
     have ew:IntKind.i64.wrap (0 - ta) = 0 - ta:=wr
     refine ⟨IntKind.i64.wrap (0 - ta),Ok.val ?_,Ok.val ?_,by omega,by omega⟩
     ·show Ok (B6 d (Bg d) _ f) _
      unfold B6
      exact Ok.no rfl (Ok.no rfl (Ok.no rfl (Ok.yes rfl (Ok.bindE (x:=a) rfl (Ok.bindE a1 (Ok.some rfl))))))
     ·show Ok (Cq d (BQ d) s _ picks vals) _
      unfold Cq
      refine Ok.no rfl (Ok.eq (OT (ts:=[ta]) rfl (by simp) (fun k hk1 hk2=>?_) rfl))
      have hk1':k < 1:=by simpa using hk2
      match k,hk1' with
      | 0,_=>exact a2
theorem dU (hs:DS s) {x:Aw} (hx:GX s x) {r:List Int} (hr:r∈x.Rows) {a:Af} {i:Nat} {S:Int→Prop} (hA:AT s a i S) {t u':Int} (h1:Da s i (lk x.Picks (r.drop 1) i x.Picks.length).1 (lk x.Picks (r.drop 1) i x.Picks.length).2 = some u') (h2:Bu s a u' = some t):fk s x.Picks (r.drop 1) a = some t:=by
 have hrl:=(hx.rows _ hr).1
 have hpl:=hx.picks_len hs
 have hvl:(r.drop 1).length = x.Picks.length:=by rw [List.length_drop]; omega
 refine Ok.val ?_
 unfold fk
 refine Ok.for (fun q=>q.2.2) x.Picks.length (fun k q=>(q.1,q.2.1) = lk x.Picks (r.drop 1) i k) 0 (Nat.zero_le _) rfl rfl (by omega) (fun rec q hq hI=>?_) fun rec k q hk hq hI ih=>?_
 ·simp only [GH,hq]
  rw [Ba,hA.col]
  have e1:q.1 = (lk x.Picks (r.drop 1) i x.Picks.length).1:=by rw [← hI]
  have e2:q.2.1 = (lk x.Picks (r.drop 1) i x.Picks.length).2:=by rw [← hI]
  rw [e1,e2]
  exact Ok.bindE h1 (Ok.bindE h2 (Ok.some rfl))
 ·simp only [GH,hq]
  rw [AK,hA.col]
  have hk2:k < (r.drop 1).length:=by omega
  refine Ok.idxn hk (Ok.br (fun e=>Ok.idxn hk (Ok.idxn hk2 (ih _ Dv ?_))) fun e=>ih _ Dv ?_)
  ·rw [Ul hk hk2,if_pos (by simpa using e)]
  ·rw [Ul hk hk2,if_neg (by simpa using e)]
   exact hI
def di (s:Aa) (picks:List Ae) (vals row:List Int) (k:Nat):Prop:=row.length = s.Columns.length∧∀ (i:Nat),1≤i→i < s.Columns.length→∃ u ok,Bd s i (lk picks vals i k).1 (lk picks vals i k).2 = some (u,ok)∧row[i]? = some u
theorem db (hs:DS s) {x:Aw} (hx:GX s x) {r:List Int} (hr:r∈x.Rows) (c:Af) (d:Nat):∃ row,di s x.Picks (r.drop 1) row x.Picks.length∧E5 d s c x.Picks (r.drop 1) = Bg d c (fun a0=>Ca a0 s row):=by
 have hc:=hs.cols_length
 have hrl:=(hx.rows _ hr).1
 have hpl:=hx.picks_len hs
 have hvl:(r.drop 1).length = x.Picks.length:=by rw [List.length_drop]; omega
 suffices H:Ok ((some ():Option Unit)) (fun _=>∃ row,di s x.Picks (r.drop 1) row x.Picks.length∧E5 d s c x.Picks (r.drop 1) = Bg d c (fun a0=>Ca a0 s row)) by
  obtain ⟨_,_,h⟩:=H; exact h
 refine Ok.some ?_
 have run2:∀ m k (row:List Int),k + m = x.Picks.length→di s x.Picks (r.drop 1) row k→∀ fu,m < fu→∃ row',di s x.Picks (r.drop 1) row' x.Picks.length ∧
  iter (fun rec2 st=>Fc x.Picks (r.drop 1) s (fun v36_2 b18_2=>(G9 d s c b18_2).bind fun x65=>some x65) rec2 st.1 st.2) fu ((k:Int),row) = Bg d c (fun a0=>Ca a0 s row'):=by
  intro m
  induction m with
  | zero =>
    intro k row hk hrow fu hfu
    obtain ⟨fu,rfl⟩:∃ f,fu = f + 1:=⟨fu - 1,by omega⟩
    refine ⟨row,by rw [show x.Picks.length = k by omega]; exact hrow,?_⟩
    rw [PM]
    dsimp only
    unfold Fc
    rw [Ba]
    unfold G9
    dsimp only
    cases Bg d c (fun a0=>Ca a0 s row) <;> rfl
  | succ m ih =>
    intro k row hk hrow fu hfu
    obtain ⟨fu,rfl⟩:∃ f,fu = f + 1:=⟨fu - 1,by omega⟩
    have hk1:k < x.Picks.length:=by omega
    have hk2:k < (r.drop 1).length:=by omega
    obtain ⟨⟨u,hu⟩,_⟩:=hx.vals hs hr k hk1 hk2
    obtain ⟨i,q0,q1,q2,_⟩:=hx.picks _ (List.getElem_mem hk1)
    have hnext:di s x.Picks (r.drop 1) (row.set i u) (k + 1):=by
     refine ⟨by rw [List.length_set]; exact hrow.1,fun j j0 j1=>?_⟩
     rw [Ul hk1 hk2]
     by_cases e:j = i
     ·subst e
      rw [if_pos q2]
      refine ⟨u,true,by rw [← q2]; exact hu,?_⟩
      rw [List.getElem?_set,if_pos rfl,if_pos (by rw [hrow.1]; omega)]
     ·rw [if_neg (by rw [q2]; omega)]
      obtain ⟨u2,ok2,a1,a2⟩:=hrow.2 j j0 j1
      exact ⟨u2,ok2,a1,by rw [List.getElem?_set,if_neg (fun h=>e h.symm)]; exact a2⟩
    obtain ⟨row',h1,h2⟩:=ih (k + 1) _ (by omega) hnext fu (by omega)
    refine ⟨row',h1,?_⟩
    rw [← h2]
    rw [PM]
    dsimp only
    unfold Fc
    rw [AK,BP hk1,Option.bind_some,BP hk2,Option.bind_some,hu,Option.bind_some,q2]
    show (idx row (i:Int)).bind _ = _
    rw [BP (by rw [hrow.1]; omega),Option.bind_some,Dv,Int.toNat_natCast]
 have run1:∀ m k (row:List Int),1≤k→k + m = s.Columns.length→row.length = s.Columns.length→(∀ i:Nat,1≤i→i < k→∃ u ok,Bd s i 0 0 = some (u,ok)∧row[i]? = some u)→∀ fu,m < fu→∃ row',di s x.Picks (r.drop 1) row' 0 ∧
  iter (fun rec1 st=>Fi s (fun v10_1 b18_1=>Fl x.Picks (r.drop 1) s d c b18_1) rec1 st.1 st.2) fu ((k:Int),row) = Fl x.Picks (r.drop 1) s d c row':=by
  intro m
  induction m with
  | zero =>
    intro k row hk0 hk hrl hrow fu hfu
    obtain ⟨fu,rfl⟩:∃ f,fu = f + 1:=⟨fu - 1,by omega⟩
    refine ⟨row,⟨hrl,fun i i0 i1=>hrow i i0 (by omega)⟩,?_⟩
    rw [PM]
    dsimp only
    unfold Fi
    rw [Ba]
  | succ m ih =>
    intro k row hk0 hk hrl hrow fu hfu
    obtain ⟨fu,rfl⟩:∃ f,fu = f + 1:=⟨fu - 1,by omega⟩
    obtain ⟨⟨u,ok⟩,hu⟩:=iq hs hk0 (by omega:k < s.Columns.length)
    obtain ⟨row',h1,h2⟩:=ih (k + 1) (row.set k u) (by omega) (by omega) (by rw [List.length_set]; exact hrl) (fun i i0 i1=>by
     by_cases e:i = k
     ·subst e
      exact ⟨u,ok,hu,by rw [List.getElem?_set,if_pos rfl,if_pos (by omega)]⟩
     ·obtain ⟨u2,ok2,a1,a2⟩:=hrow i i0 (by omega)
      exact ⟨u2,ok2,a1,by rw [List.getElem?_set,if_neg (fun h=>e h.symm)]; exact a2⟩) fu (by omega)
    refine ⟨row',h1,?_⟩
    rw [← h2]
    rw [PM]
    dsimp only
    unfold Fi
    rw [AK,hu,Option.bind_some,BP (by omega),Option.bind_some,Dv,Int.toNat_natCast]
 obtain ⟨row1,hr1,he1⟩:=run1 (s.Columns.length - 1) 1 (List.replicate s.Columns.length 0) (by omega) (by omega) (by simp) (fun i i0 i1=>by omega) A8 (by unfold A8; omega)
 obtain ⟨row2,hr2,he2⟩:=run2 x.Picks.length 0 row1 (by omega) hr1 A8 (by unfold A8; omega)
 refine ⟨row2,hr2,?_⟩
 unfold E5
 rw [dt,Zb (by omega)]
 simp only [Bool.and_self,cond_true]
 rw [Int.toNat_natCast,← he2]
 exact he1
theorem P8 (hs:DS s) {x:Aw} (hx:GX s x) {r:List Int} (hr:r∈x.Rows) {n d:Nat} {c:Af} (h:RC s n c) (hd:n < d) (hcov:∀ a∈I4 d c,one x.Picks a.Column (Pr s a)) :
 ∃ t,E5 d s c x.Picks (r.drop 1) = some t∧BQ d s c x.Picks (r.drop 1) = some t∧-1≤t∧t≤1:=by
 obtain ⟨row,hrow,he⟩:=db hs hx hr c d
 rw [he]
 refine bV x.Picks (r.drop 1) _ n d h hd fun a ha=>?_
 obtain ⟨i,S,hA⟩:=Us hs n d h a ha
 obtain ⟨t,u,u',h1,h2,h3,h4,h5⟩:=iC hs hx hr hA (hcov a ha)
 refine ⟨t,?_,dU hs hx hr hA h3 h4,h5⟩
 obtain ⟨u2,ok,a1,a2⟩:=hrow.2 i hA.i0 hA.i1
 rw [h1] at a1
 have hu:u = u2:=by have:=Option.some.inj a1; exact (Prod.mk.inj this).1
 subst hu
 refine Ok.val ?_
 show Ok (Ca a s row) _
 unfold Ca
 rw [hA.col]
 obtain ⟨hi,hg⟩:=List.getElem?_eq_some_iff.1 a2
 refine Ok.idxn hi ?_
 rw [hg]
 exact Ok.bindE h2 (Ok.some rfl)
end Go.Proofs.YtejfnieiaecpkaaGreatDoor.P
namespace Go.Proofs.YtejfnieiaecpkaaGreatDoor.P
open Go Go.Abs Go.Proofs
set_option maxRecDepth 100000
variable {s:Aa}
def O7 (p:Nat→Bool) (n:Nat):List Nat:=(List.range n).filter p
theorem Vd (p:Nat→Bool) (n:Nat):O7 p (n + 1) = bif p n then O7 p n++[n] else O7 p n:=by
 unfold O7
 rw [List.range_succ,List.filter_append]
 cases e:p n with
 | true=>rw [List.filter_cons_of_pos e]; rfl
 | false=>rw [List.filter_cons_of_neg (by simp [e])]; simp
theorem L9 (p:Nat→Bool) (n:Nat):(O7 p n).length≤n:=by
 have:=List.length_filter_le p (List.range n)
 rw [List.length_range] at this
 exact this
theorem bd {p:Nat→Bool} {n j:Nat} (h:j∈O7 p n):j < n∧p j = true:=by
 unfold O7 at h
 rw [List.mem_filter,List.mem_range] at h
 exact h
theorem Xa (l:List Nat) (n:Nat):CI (l++[n]) = CI l++[(n:Int)]:=by simp [CI]
theorem Cr (l:List Nat):(CI l).length = l.length:=by simp [CI]
def CZ (d:Nat) (s:Aa) (c:Af) (x:Aw) (j:Nat):Bool:=BQ d s c x.Picks ((x.Rows.getD j []).drop 1)==some 1
theorem WF {x:Aw} (hs:DS s) (hx:GX s x) {n d:Nat} {c:Af} (h:RC s n c) (hd:n < d) (hn:n≤39∧DP 9 c) (hcov:∀ a∈I4 d c,one x.Picks a.Column (Pr s a)):D7 d s x c = some (CI (O7 (CZ d s c x) x.Rows.length)):=by
 have hpl:=hx.picks_len hs
 have hl:=hx.len
 refine Ok.val ?_
 unfold D7
 refine Ok.bindE (h.check hs hn hd) (Ok.no rfl (Ok.bind (pneeds hs h hd hn) fun r hr=>?_))
 have hr1:=hr.len
 refine Ok.bindE (XH _ _ (by omega) (by omega)) (Ok.no (by rw [(hr.covers _).2 hcov]; rfl) ?_)
 unfold F5
 refine Ok.for (fun q=>q.1) x.Rows.length (fun k q=>q.2 = CI (O7 (CZ d s c x) k)) 0 (Nat.zero_le _) rfl rfl (by omega) (fun rec q hq hI=>?_) fun rec k q hk hq hI ih=>?_
 ·simp only [F4,hq,hI]
  rw [Ba]
  exact Ok.some rfl
 ·simp only [F4,hq,hI]
  rw [AK]
  have hr:=List.getElem_mem hk
  have hrl:=(hx.rows _ hr).1
  obtain ⟨t,h1,h2,_⟩:=P8 hs hx hr h hd hcov
  have hfl:=L9 (CZ d s c x) k
  have hb:CZ d s c x k = (t==1):=by
   unfold CZ
   rw [Rv hk,h2]
   rfl
  refine Ok.idxn hk (Ok.gdd (by omega) ?_)
  rw [iN]
  refine Ok.bindE h1 (Ok.br (fun e=>Ok.rm (by rw [Cr]; simp; omega) (ih _ Dv ?_)) fun e=>ih _ Dv ?_)
  ·rw [Vd,hb,e]; exact (Xa _ _).symm
  ·rw [Vd,hb,e]; rfl
theorem TN {x:Aw} (hs:DS s) (hx:GX s x) {r:List Int} (hr:r∈x.Rows) {n d:Nat} {c:Af} (h:RC s n c) (hd:n < d) (hn:n≤39∧DP 9 c) (hcov:∀ a∈I4 d c,one x.Picks a.Column (Pr s a)) {t:Int} (ht:BQ d s c x.Picks (r.drop 1) = some t):Gc d s c x.Picks (r.drop 1) = some t:=by
 have hpl:=hx.picks_len hs
 have hrl:=(hx.rows _ hr).1
 refine Ok.val ?_
 unfold Gc
 refine Ok.bindE (h.rcheck hs hn hd) (Ok.no rfl (Ok.bindE (eS hs hx.picks hx.order (by omega)) (Ok.no ?_ (Ok.bind (SB hs h hd hn) fun nd hnd=>?_))))
 ·have:(r.drop 1).length = x.Picks.length:=by rw [List.length_drop]; omega
  rw [this]
  simp
 have h1:=hnd.len
 refine Ok.bindE (Uq _ _ (by omega) (by omega)) (Ok.no (by rw [(hnd.covers _).2 hcov]; rfl) ?_)
 unfold Ii
 refine Ok.for (fun q=>q) x.Picks.length (fun _ _=>True) 0 (Nat.zero_le _) rfl trivial (by omega) (fun rec q hq hI=>?_) fun rec k q hk hq hI ih=>?_
 ·simp only [Il,hq]
  rw [Ba]
  exact Ok.bindE ht (Ok.some rfl)
 ·simp only [Il,hq]
  rw [AK]
  have hk2:k < (r.drop 1).length:=by rw [List.length_drop]; omega
  exact Ok.idxn hk (Ok.idxn hk (Ok.idxn hk2 (Ok.bindE (hx.vals hs hr k hk hk2).2 (Ok.no rfl (ih _ Dv trivial)))))
end Go.Proofs.YtejfnieiaecpkaaGreatDoor.P
set_option linter.unusedVariables false
set_option linter.unusedSimpArgs false
namespace Go.Proofs.YtejfnieiaecpkaaGreatDoor.P
open Go Go.Abs Go.Proofs
set_option maxRecDepth 100000
variable {s:Aa}
end Go.Proofs.YtejfnieiaecpkaaGreatDoor.P
namespace Go.Proofs.YtejfnieiaecpkaaGreatDoor.P
open Go Go.Abs Go.Proofs
set_option maxRecDepth 100000
variable {s:Aa}
def low (w v:Int):Int:=v - v % w
structure BR (w:Int) (l lows:List Int):Prop where
 asc:lows.Pairwise (· < ·)
 mem:∀ z,z∈lows↔∃ v∈l,low w v = z
theorem fE {l:List Int} {x:Int} (hl:l.length≤1000):Ok (Kb l x) fun b=>(b = true↔x∈l):=by
 unfold Kb
 refine Ok.for (fun q=>q) l.length (fun k _=>∀ y∈l.take k,y≠x) 0 (Nat.zero_le _) rfl (fun y hy=>by simp at hy) (by omega) (fun rec q hq hI=>?_) fun rec k q hk hq hI ih=>?_
 ·simp only [KY,hq]
  rw [Ba]
  rw [List.take_length] at hI
  exact Ok.some ⟨(fun h=>by cases h),fun h=>absurd rfl (hI x h)⟩
 ·simp only [KY,hq]
  rw [AK]
  refine Ok.idxn hk (Ok.br (fun e=>Ok.some ⟨fun _=>?_,fun _=>rfl⟩) fun e=>ih _ Dv fun y hy=>?_)
  ·have e:l[k] = x:=by simpa using e
   rw [← e]; exact List.getElem_mem hk
  ·rw [List.take_succ_eq_append_getElem hk] at hy
   rcases List.mem_append.1 hy with hy | hy
   ·exact hI y hy
   ·rw [List.mem_singleton] at hy; subst hy; simpa using e
end Go.Proofs.YtejfnieiaecpkaaGreatDoor.P
namespace Go.Proofs.YtejfnieiaecpkaaGreatDoor.P
open Go Go.Abs Go.Proofs
set_option maxRecDepth 100000
variable {s:Aa}
end Go.Proofs.YtejfnieiaecpkaaGreatDoor.P
namespace Go.Proofs.YtejfnieiaecpkaaGreatDoor.P
open Go Go.Abs Go.Proofs
set_option maxRecDepth 100000
variable {s:Aa}
end Go.Proofs.YtejfnieiaecpkaaGreatDoor.P
namespace Go.Proofs.YtejfnieiaecpkaaGreatDoor.P
open Go Go.Abs Go.Proofs
set_option maxRecDepth 100000
variable {s:Aa}
theorem GJ {l:List Nat} {k:Nat} (hk:k < l.length) (hk2:k < (CI l).length):(CI l)[k] = (l[k]:Int):=by simp [CI]
end Go.Proofs.YtejfnieiaecpkaaGreatDoor.P
namespace Go.Proofs.YtejfnieiaecpkaaGreatDoor.P
open Go Go.Abs Go.Proofs
set_option maxRecDepth 100000
variable {s:Aa}
end Go.Proofs.YtejfnieiaecpkaaGreatDoor.P
namespace Go.Proofs.YtejfnieiaecpkaaGreatDoor.P
open Go Go.Abs Go.Proofs
set_option maxRecDepth 100000
variable {s:Aa}
def hE (m w:Int) (c:Af):AD:={ Op:=13,Num:=w,Name:=ByteArray.empty,Column:=m,Columns:=[],Dims:=[],Cond:=c,Event:=Rm,Kids:=[] }
theorem ed (hs:DS s) {i:Nat} (hi:i < s.Columns.length) (h:s.Columns[i].Kind = 3):1≤i∧CS s.Columns[i]:=by
 rcases hs.cl hi with ⟨_,h1⟩ | ⟨h0,h1 | h1⟩
 ·rw [h1] at h; cases h
 ·rw [h1.kind] at h; cases h
 ·exact ⟨h0,h1⟩
theorem X3 (hs:DS s) (m:Int):Ok (By s m) fun b=>(b = true↔∃ (i:Nat) (hi:i < s.Columns.length),1≤i∧m = (i:Int)∧CS s.Columns[i]):=by
 by_cases h0:0≤m∧m < s.Columns.length
 ·obtain ⟨i,rfl⟩:∃ i:Nat,m = i:=⟨m.toNat,by omega⟩
  have hi:i < s.Columns.length:=by omega
  by_cases e:s.Columns[i].Kind = 3
  ·obtain ⟨h1,h2⟩:=ed hs hi e
   exact ⟨_,dd hi h2,fun _=>⟨i,hi,h1,rfl,h2⟩,fun _=>rfl⟩
  ·refine ⟨false,?_,(fun h=>by cases h),fun ⟨j,hj,_,hjm,hm⟩=>?_⟩
   ·unfold By
    rw [dt,dt]
    show (idx s.Columns (i:Int)).bind _ = _
    rw [BP hi,Option.bind_some]
    have:(s.Columns[i].Kind==3) = false:=by simpa using e
    rw [this]
   ·obtain rfl:i = j:=by omega
    exact absurd hm.kind e
 ·refine ⟨false,?_,(fun h=>by cases h),fun ⟨j,hj,_,hjm,hm⟩=>by omega⟩
  unfold By
  by_cases h1:0≤m
  ·rw [decide_eq_true (show m ≥ 0 from h1),df]; rfl
  ·rw [decide_eq_false (show ¬ m ≥ 0 from h1)]; rfl
theorem XI {l:List Int} {x:Int} (hl:l.length≤1000000):Ok (BJ l x) fun b=>(b = true↔x∈l):=by
 refine ⟨l.any (fun y=>x==y),?_,?_⟩
 ·unfold BJ
  have h:EE l x = some (G5 (fun y=>x==y) l):=Lu (p:=fun y=>some (x==y)) (fun _ _=>rfl) (by omega)
  rw [h,Option.bind_some,Nf]
 ·show (l.any (fun y=>x==y)) = true↔x∈l
  rw [List.any_eq_true]
  constructor
  ·rintro ⟨y,hy,e⟩
   rw [beq_iff_eq.1 e]; exact hy
  ·exact fun h=>⟨x,h,beq_self_eq_true x⟩
end Go.Proofs.YtejfnieiaecpkaaGreatDoor.P
namespace Go.Proofs.YtejfnieiaecpkaaGreatDoor.P
open Go Go.Abs Go.Proofs
set_option maxRecDepth 100000
variable {s:Aa}
end Go.Proofs.YtejfnieiaecpkaaGreatDoor.P
namespace Go.Proofs.YtejfnieiaecpkaaGreatDoor.P
open Go Go.Abs Go.Proofs
set_option maxRecDepth 100000
variable {s:Aa}
end Go.Proofs.YtejfnieiaecpkaaGreatDoor.P
namespace Go.Proofs.YtejfnieiaecpkaaGreatDoor.P
open Go Go.Abs Go.Proofs
set_option maxRecDepth 100000
variable {s:Aa}
def mC (lo hi:Int) (w:List Int) (o:Bool):Av:={ Name:=TX,Kind:=3,List_:=0,Low:=lo,High:=hi,Widths:=w,Optional:=o }
def mS (lo hi:Int) (w:List Int) (o:Bool):Aa:={ Lists:=[],Columns:=[iI,mC lo hi w o] }
def jB (lo hi:Int) (w:List Int) (o:Bool) (l:Int):Option Int:=iter (fun rec1 st=>Ie (mS lo hi w o) 1 (fun v2_1=>some v2_1) rec1 st) A8 l
def jG (lo hi:Int) (w:List Int) (o:Bool) (l:Int):Option Int:=iter (fun rec1 st=>FO (mS lo hi w o) 1 l (fun v7_1=>some v7_1) rec1 st) A8 0
def dD (lo hi:Int) (w:List Int) (o:Bool) (l:Int):Bool:=match jB lo hi w o l,jG lo hi w o l with
 | some a,some b=>(a==b) && decide (0≤a) && decide (a≤l)
 | _,_=>false
theorem Zw:((List.range 7).all fun a=>(List.range 45).all fun b=>Lr.all fun w=>[true,false].all fun o=>(List.range (w.length + 1)).all fun l=>dD ((a:Int) - 4) ((a:Int) - 4 + b) w o l) = true:=by decide +kernel
theorem ZN {c:Av} (h:CS c) {l:Int} (h0:0≤l) (h1:l≤c.Widths.length):dD c.Low c.High c.Widths c.Optional l = true:=by
 obtain ⟨a1,a2⟩:=h.low
 obtain ⟨a3,a4⟩:=h.high
 have k1:=List.all_eq_true.1 Zw (c.Low + 4).toNat (List.mem_range.2 (by omega))
 have k2:=List.all_eq_true.1 k1 (c.High - c.Low).toNat (List.mem_range.2 (by omega))
 have k3:=List.all_eq_true.1 k2 c.Widths h.widths
 have k4:=List.all_eq_true.1 k3 c.Optional (by cases c.Optional <;> simp)
 have k5:=List.all_eq_true.1 k4 l.toNat (List.mem_range.2 (by omega))
 have e1:(((c.Low + 4).toNat:Nat):Int) - 4 = c.Low:=by omega
 have e2:c.Low + (((c.High - c.Low).toNat:Nat):Int) = c.High:=by omega
 have e3:((l.toNat:Nat):Int) = l:=by omega
 rw [e1,e2,e3] at k5
 exact k5
theorem YT {i:Nat} (hi:i < s.Columns.length) (h:CS s.Columns[i]) (l:Int):Fx s i l = Fx (mS s.Columns[i].Low s.Columns[i].High s.Columns[i].Widths s.Columns[i].Optional) 1 l:=by
 unfold Fx
 rw [BP hi]
 show _ = (some _).bind _
 rw [Option.bind_some,Option.bind_some,h.kind]
 rfl
theorem cY {i:Nat} (hi:i < s.Columns.length) (h:CS s.Columns[i]) (a b:Int):DG s i a b = DG (mS s.Columns[i].Low s.Columns[i].High s.Columns[i].Widths s.Columns[i].Optional) 1 a b:=by
 have e:idx (mS s.Columns[i].Low s.Columns[i].High s.Columns[i].Widths s.Columns[i].Optional).Columns 1 = some (mC s.Columns[i].Low s.Columns[i].High s.Columns[i].Widths s.Columns[i].Optional):=rfl
 have k:(mC s.Columns[i].Low s.Columns[i].High s.Columns[i].Widths s.Columns[i].Optional).Kind = 3:=rfl
 have hw:∀ a,CH s.Columns[i] a = CH (mC s.Columns[i].Low s.Columns[i].High s.Columns[i].Widths s.Columns[i].Optional) a:=fun _=>rfl
 have k2:((3:Int)==2) = false:=rfl
 unfold DG
 rw [BP hi,e,Option.bind_some,Option.bind_some,h.kind,k,k2,cond_false,cond_false]
 have p1:(mC s.Columns[i].Low s.Columns[i].High s.Columns[i].Widths s.Columns[i].Optional).Low = s.Columns[i].Low:=rfl
 have p2:(mC s.Columns[i].Low s.Columns[i].High s.Columns[i].Widths s.Columns[i].Optional).High = s.Columns[i].High:=rfl
 have p3:(mC s.Columns[i].Low s.Columns[i].High s.Columns[i].Widths s.Columns[i].Optional).Optional = s.Columns[i].Optional:=rfl
 simp only [JN,hw,p1,p2,p3]
theorem VL (hs:DS s) {i:Nat} (hi0:1≤i) (hi:i < s.Columns.length) (h:CS s.Columns[i]) {l:Int} (h0:0≤l) (h1:l≤s.Columns[i].Widths.length):∃ L,DL s i l = some L∧Cp s i l = some L∧0≤L∧L≤l:=by
 have hwl:=C0 h
 have hf:fin s i = s.Columns[i].Widths.length:=by rw [Em hi,C6 h]
 have e1:DL s i l = jB s.Columns[i].Low s.Columns[i].High s.Columns[i].Widths s.Columns[i].Optional l:=by
  unfold DL jB
  rw [hs.pFinest hi0 hi,Option.bind_some,df,df,cond_false,cond_false]
  congr 1
  funext rec st
  unfold Ie
  rw [YT hi h,YT hi h]
 have e2:Cp s i l = jG s.Columns[i].Low s.Columns[i].High s.Columns[i].Widths s.Columns[i].Optional l:=by
  unfold Cp jG
  rw [hs.rfinest hi0 hi,Option.bind_some,HX,Option.bind_some,dt,Bool.not_true,cond_false]
  congr 1
  funext rec st
  unfold FO
  rw [cY hi h]
 have hF:=ZN h h0 h1
 unfold dD at hF
 rw [e1,e2]
 split at hF
 ·rename_i a b ha hb
  simp only [Bool.and_eq_true,beq_iff_eq,decide_eq_true_eq] at hF
  obtain ⟨⟨rfl,h2⟩,h3⟩:=hF
  exact ⟨_,ha,hb,h2,h3⟩
 ·cases hF
end Go.Proofs.YtejfnieiaecpkaaGreatDoor.P
namespace Go.Proofs.YtejfnieiaecpkaaGreatDoor.P
open Go Go.Abs Go.Proofs
set_option maxRecDepth 100000
variable {s:Aa}
structure NP (r:List Ae) (m:Nat) (P:List Ae→Prop):Prop where
 len:r.length≤m
 pos:∀ p∈r,0 < p.Level
 iff:∀ picks,(∀ p∈r,one picks p.Column p.Level)↔P picks
theorem NP.covers {r:List Ae} {m:Nat} {P:List Ae→Prop} (h:NP r m P) (picks:List Ae):covers picks r = true↔P picks:=(U4 h.pos).trans (h.iff picks)
theorem NP.congr {r:List Ae} {m:Nat} {P Q:List Ae→Prop} (h:NP r m P) (e:∀ picks,P picks↔Q picks):NP r m Q:=⟨h.len,h.pos,fun picks=>(h.iff picks).trans (e picks)⟩
theorem NP.nil {m:Nat}:NP [] m fun _=>True:=⟨Nat.zero_le _,(fun p hp=>by cases hp),fun picks=>⟨fun _=>trivial,fun _ p hp=>by cases hp⟩⟩
theorem NO.cols {l:List Af} {r:List Ae} (h:NO s l r):∀ p∈r,∃ a∈l,p.Column = a.Column:=by
 intro p hp
 have h1:=(h.iff (l.map fun a=>{ Column:=a.Column,Level:=Pr s a })).2 (fun a ha=>.inr ⟨_,List.mem_map.2 ⟨a,ha,rfl⟩,rfl,Int.le_refl _⟩) p hp
 rcases h1 with h1 | ⟨q,hq,h2,_⟩
 ·have:=h.pos p hp; omega
 ·obtain ⟨a,ha,rfl⟩:=List.mem_map.1 hq
  exact ⟨a,ha,h2.symm⟩
theorem dR {out:List Ae} {m:Nat} {P:List Ae→Prop} (ho:NP out m P) (hm:m≤800) {d:Nat} {c:Af} {l:List Af} (hn:Ok (Ct d s c) (NO s l)) :
 Ok (IB d s out c) fun r=>NP r (m + 100) fun picks=>P picks∧∀ a∈l,one picks a.Column (Pr s a):=by
 obtain ⟨x,hx,hx2⟩:=hn
 have hxl:=hx2.len
 have hol:=ho.len
 unfold IB
 refine Ok.bindE hx ?_
 refine Ok.for (fun q=>q.2) x.length (fun k q=>NP q.1 (m + k) fun picks=>P picks∧∀ p∈x.take k,one picks p.Column p.Level) 0 (Nat.zero_le _) rfl (ho.congr fun picks=>⟨fun h=>⟨h,fun p hp=>by simp at hp⟩,fun h=>h.1⟩) (by omega) (fun rec q hq hI=>?_) fun rec k q hk hq hI ih=>?_
 ·simp only [J6,hq]
  rw [Ba]
  refine Ok.some ⟨by have:=hI.len; omega,hI.pos,fun picks=>(hI.iff picks).trans ?_⟩
  rw [List.take_length,hx2.iff picks]
 ·have hql:=hI.len
  simp only [J6,hq]
  rw [AK]
  refine Ok.idxn hk (Ok.idxn hk (Ok.bind (Xs (by omega) hI.pos) fun r hr=>ih _ Dv ⟨by show r.length≤_; omega,hr.2.1,fun picks=>(hr.2.2 picks).trans ?_⟩))
  rw [hI.iff picks,List.take_succ_eq_append_getElem hk,J9]
  exact ⟨fun h=>⟨h.1.1,h.1.2,h.2⟩,fun h=>⟨⟨h.1,h.2.1⟩,h.2.2⟩⟩
theorem Wy (k c v:Int):∀ b:List (Int × Int),Je c (US k v b) = if c = k then some v else Je c b
 | []=>by
   simp only [US,Je]
   by_cases e:c = k
   ·subst e; rw [beq_self_eq_true,if_pos rfl]; rfl
   ·rw [beq_eq_false_iff_ne.2 e,if_neg e]; rfl
 | p :: r=>by
   have ih:=Wy k c v r
   simp only [US]
   by_cases e:k = p.1
   ·rw [← e,beq_self_eq_true,cond_true]
    simp only [Je]
    by_cases e2:c = k
    ·subst e2; rw [beq_self_eq_true,if_pos rfl]; rfl
    ·rw [← e,beq_eq_false_iff_ne.2 e2,if_neg e2,cond_false,cond_false]
   ·rw [beq_eq_false_iff_ne.2 e,cond_false]
    simp only [Je]
    rw [ih]
    by_cases e2:c = p.1
    ·rw [← e2,beq_self_eq_true,cond_true,if_neg (by omega),cond_true]
    ·rw [beq_eq_false_iff_ne.2 e2,cond_false,cond_false]
def gl (c:Int) (b:List (Int × Int)):Int:=(Je c b).getD 0
structure MI (v:Int) (b:List (Int × Int)) (P:List Ae→Prop):Prop where
 v0:0≤v
 v1:v≤1000
 out:∀ c,v < c→gl c b = 0
 iff:∀ picks,(∀ c,0≤c→c≤v→one picks c (gl c b))↔P picks
theorem MI.step {v:Int} {b:List (Int × Int)} {P:List Ae→Prop} (h:MI v b P) {x:Ae} (h0:0≤x.Column) (h1:x.Column≤1000) :
 MI (if x.Column > v then x.Column else v) (US x.Column (if x.Level > ((Je x.Column b).getD 0) then x.Level else ((Je x.Column b).getD 0)) b) fun picks=>P picks∧one picks x.Column x.Level:=by
 obtain ⟨a1,a2,a3,a4⟩:=h
 have hg:∀ c,gl c (US x.Column (if x.Level > ((Je x.Column b).getD 0) then x.Level else ((Je x.Column b).getD 0)) b) = if c = x.Column then (if x.Level > gl x.Column b then x.Level else gl x.Column b) else gl c b:=by
  intro c
  unfold gl
  rw [Wy]
  by_cases e:c = x.Column
  ·rw [if_pos e,if_pos e]; rfl
  ·rw [if_neg e,if_neg e]
 refine ⟨by split <;> omega,by split <;> omega,fun c hc=>?_,fun picks=>?_⟩
 ·rw [hg,if_neg (by split at hc <;> omega)]
  exact a3 c (by split at hc <;> omega)
 ·rw [← a4 picks]
  constructor
  ·intro hall
   have hx:=hall x.Column h0 (by split <;> omega)
   rw [hg,if_pos rfl] at hx
   refine ⟨fun c hc0 hc1=>?_,(Mq.1 hx).2⟩
   by_cases e:c = x.Column
   ·subst e; exact (Mq.1 hx).1
   ·have:=hall c hc0 (by split <;> omega)
    rw [hg,if_neg e] at this
    exact this
  ·rintro ⟨hall,hx⟩ c hc0 hc1
   rw [hg]
   by_cases e:c = x.Column
   ·rw [if_pos e,e]
    refine Mq.2 ⟨?_,hx⟩
    by_cases e2:x.Column≤v
    ·exact hall _ h0 e2
    ·rw [a3 _ (by omega)]; exact .inl (Int.le_refl _)
   ·rw [if_neg e]
    by_cases e2:c≤v
    ·exact hall c hc0 e2
    ·rw [a3 _ (by omega)]; exact .inl (Int.le_refl _)
theorem MI.congr {v:Int} {b:List (Int × Int)} {P Q:List Ae→Prop} (h:MI v b P) (e:∀ picks,P picks↔Q picks):MI v b Q:=⟨h.v0,h.v1,h.out,fun picks=>(h.iff picks).trans (e picks)⟩
theorem eh {ll:List (List Ae)} (hl:ll.length≤1000) (hb:∀ l∈ll,l.length≤1000) (hc:∀ l∈ll,∀ p∈l,0≤p.Column∧p.Column≤1000) :
 Ok (GI ll) fun r=>NP r 1001 fun picks=>∀ l∈ll,∀ p∈l,one picks p.Column p.Level:=by
 unfold GI
 refine Ok.for (fun q=>q.2.1) ll.length (fun k q=>MI q.1 q.2.2 fun picks=>∀ l∈ll.take k,∀ p∈l,one picks p.Column p.Level) 0 (Nat.zero_le _) rfl
  ⟨Int.le_refl _,by show (0:Int)≤1000; omega,(fun c _=>rfl),fun picks=>⟨fun _ l hl=>by simp at hl,fun _ c _ _=>.inl (Int.le_refl _)⟩⟩ (by omega) (fun rec q hq hI=>?_) fun rec k q hk hq hI ih=>?_
 ·rw [List.take_length] at hI
  simp only [Gk,hq]
  rw [Ba]
  obtain ⟨a1,a2,a3,a4⟩:=hI
  obtain ⟨n,hn⟩:∃ n:Nat,q.1 = n:=⟨q.1.toNat,by omega⟩
  have ew:IntKind.i64.wrap (q.1 + 1) = ((n + 1:Nat):Int):=by rw [hn]; exact Dv
  refine Ok.for (fun q=>q.1) (n + 1) (fun k r=>NP r.2 k fun picks=>∀ c:Int,0≤c→c < k→one picks c (gl c q.2.2)) 0 (Nat.zero_le _) rfl (NP.nil.congr fun picks=>⟨fun _ c h0 h1=>by omega,fun _=>trivial⟩) (by omega) (fun rec2 q2 hq2 hI2=>?_) fun rec2 k q2 hk hq2 hI2 ih2=>?_
  ·simp only [G0,hq2,ew]
   rw [Ba]
   refine Ok.some ⟨by have:=hI2.len; omega,hI2.pos,fun picks=>(hI2.iff picks).trans ((Iff.intro (fun h c h0 h1=>h c h0 (by omega)) fun h c h0 h1=>h c h0 (by omega)).trans (a4 picks))⟩
  ·have hlen:=hI2.len
   have hstep:∀ (P:Prop) picks,((∀ c:Int,0≤c→c < (k:Int)→one picks c (gl c q.2.2))∧one picks k (gl k q.2.2))↔∀ c:Int,0≤c→c < ((k + 1:Nat):Int)→one picks c (gl c q.2.2):=by
    intro _ picks
    constructor
    ·rintro ⟨h1,h2⟩ c h0 hc
     by_cases e:c = (k:Int)
     ·rw [e]; exact h2
     ·exact h1 c h0 (by omega)
    ·exact fun h=>⟨fun c h0 hc=>h c h0 (by omega),h k (by omega) (by omega)⟩
   simp only [G0,hq2,ew]
   rw [AK]
   refine Ok.brd (fun hp=>Ok.rm (by simp; omega) (ih2 _ Dv ⟨by show (q2.2++[_]).length≤_; simp; omega,Ml hI2.pos hp,fun picks=>?_⟩)) fun hp=>ih2 _ Dv ⟨by show q2.2.length≤_; omega,hI2.pos,fun picks=>?_⟩
   ·rw [J9,hI2.iff picks]
    exact hstep True picks
   ·rw [hI2.iff picks,← hstep True picks]
    refine ⟨fun h=>⟨h,.inl ?_⟩,fun h=>h.1⟩
    show gl k q.2.2≤0
    unfold gl; omega
 ·have hlk:=hb _ (List.getElem_mem hk)
  have hck:=hc _ (List.getElem_mem hk)
  simp only [Gk,hq]
  rw [AK]
  refine Ok.idxn hk ?_
  refine Ok.for (fun q=>q.2.1) ll[k].length (fun j r=>MI r.1 r.2.2 fun picks=>(∀ l∈ll.take k,∀ p∈l,one picks p.Column p.Level)∧∀ p∈ll[k].take j,one picks p.Column p.Level) 0 (Nat.zero_le _) rfl (hI.congr fun picks=>⟨fun h=>⟨h,fun p hp=>by simp at hp⟩,fun h=>h.1⟩) (by omega) (fun rec2 q2 hq2 hI2=>?_) fun rec2 j q2 hj hq2 hI2 ih2=>?_
  ·simp only [Gr,hq2]
   rw [Ba]
   refine ih _ Dv (hI2.congr fun picks=>?_)
   rw [List.take_length,List.take_succ_eq_append_getElem hk]
   constructor
   ·rintro ⟨h1,h2⟩ l hl
    rcases List.mem_append.1 hl with hl | hl
    ·exact h1 l hl
    ·rw [List.mem_singleton] at hl; subst hl; exact h2
   ·exact fun h=>⟨fun l hl=>h l (List.mem_append_left _ hl),h _ (List.mem_append_right _ (List.mem_singleton.2 rfl))⟩
  ·simp only [Gr,hq2]
   rw [AK]
   have hx:=hck _ (List.getElem_mem hj)
   refine Ok.idxn hj (ih2 _ Dv ((hI2.step hx.1 hx.2).congr fun picks=>?_))
   rw [List.take_succ_eq_append_getElem hj,J9]
   exact ⟨fun h=>⟨h.1.1,h.1.2,h.2⟩,fun h=>⟨⟨h.1,h.2.1⟩,h.2.2⟩⟩
end Go.Proofs.YtejfnieiaecpkaaGreatDoor.P
set_option linter.unusedVariables false
set_option linter.unusedSimpArgs false
namespace Go.Proofs.YtejfnieiaecpkaaGreatDoor.P
open Go Go.Abs Go.Proofs
set_option maxRecDepth 100000
variable {s:Aa}
theorem DS.rcond_zero (h:DS s) (d:Nat):B0 (d + 1) s Rm = some 4:=by unfold B0; rw [h.rcheck]; rfl
theorem DS.rneeds_zero (h:DS s) (d:Nat):Ct (d + 1) s Rm = some []:=by unfold Ct; rw [h.rcond_zero]; rfl
theorem add_zero (hs:DS s) (out:List Ae):IB 59 s out Rm = some out:=by
 refine Ok.val ?_
 unfold IB
 refine Ok.bindE (hs.rneeds_zero 58) ?_
 refine Ok.for (fun q=>q.2) 0 (fun _ q=>q.1 = out) 0 (Nat.zero_le _) rfl rfl (by omega) (fun rec q hq hI=>?_) fun rec k q hk hq hI ih=>absurd hk (by omega)
 simp only [J6,hq,hI]
 exact Ok.no rfl (Ok.some rfl)
theorem dw {e:AD} (h1:e.Columns = []) (h2:e.Kids = []) (self:Aa→AD→Option (List Ae)) (r:List Ae):BU e s self r = some r:=by
 refine Ok.val ?_
 unfold BU
 refine Ok.for (fun q=>q.2) 0 (fun _ q=>q.1 = r) 0 (Nat.zero_le _) rfl rfl (by omega) (fun rec q hq hI=>?_) fun rec k q hk hq hI ih=>absurd hk (by omega)
 simp only [LW,hq,hI,h1]
 refine Ok.no rfl ?_
 unfold Jn
 refine Ok.for (fun q=>q.2) 0 (fun _ q=>q.1 = r) 0 (Nat.zero_le _) rfl rfl (by omega) (fun rec q hq hI=>?_) fun rec k q hk hq hI ih=>absurd hk (by omega)
 simp only [L0,hq,hI,h2]
 exact Ok.no rfl (Ok.some rfl)
end Go.Proofs.YtejfnieiaecpkaaGreatDoor.P
namespace Go.Proofs.YtejfnieiaecpkaaGreatDoor.P
open Go Go.Abs Go.Proofs
set_option maxRecDepth 100000
variable {s:Aa}
def tG (c:Av) (a v b:Int):Int × Bool :=
 if 1≤a∧v = Bs then (Bs,true)
 else if a = 0∧c.Optional = true then (0,false)
 else if ND c a v - ND c a v % Eb c b = WI c a v - WI c a v % Eb c b then (ND c a v - ND c a v % Eb c b,true) else (0,false)
theorem Vg {c:Av} (h:CS c) {a v:Int} (h0:0≤a) (h1:a≤c.Widths.length) (hv:c.Low≤v∧v≤c.High):(c.Low≤ND c a v∧ND c a v≤c.High)∧c.Low≤WI c a v∧WI c a v≤c.High:=by
 unfold ND WI
 by_cases e:a = 0
 ·rw [if_pos e,if_pos e]; omega
 ·have hw:=EM h (l:=a) (by omega) h1
  have hm:=GE h (l:=a) (by omega) h1 hv
  rw [if_neg e,if_neg e]
  omega
theorem Zt {c:Av} (h:CS c) {a v b:Int} (h0:0≤a) (h1:a≤c.Widths.length) (hb:1≤b) (hb2:b≤c.Widths.length) (hv:MV c v):((tG c a v b).1 = Bs∧(tG c a v b).2 = true)∨(-1000≤(tG c a v b).1∧(tG c a v b).1≤1000):=by
 obtain ⟨a1,a2⟩:=h.low
 obtain ⟨a3,a4⟩:=h.high
 unfold tG
 split
 ·exact .inl ⟨rfl,rfl⟩
 ·split
  ·exact .inr ⟨by show (-1000:Int)≤0; omega,by show (0:Int)≤1000; omega⟩
  ·rename_i e1 e2
   have hr:c.Low≤v∧v≤c.High:=by
    rcases hv with hv | ⟨ho,hv⟩
    ·exact hv
    ·by_cases e:a = 0
     ·exact absurd ⟨e,ho⟩ e2
     ·exact absurd ⟨by omega,hv⟩ e1
   have:=Vg h h0 h1 hr
   have hw:=EM h hb hb2
   have h3:=Int.emod_nonneg (ND c a v) (by omega:Eb c b≠0)
   have h4:=Int.emod_lt_of_pos (ND c a v) (by omega:0 < Eb c b)
   split
   ·exact .inr ⟨by show -1000≤ND c a v - ND c a v % Eb c b; omega,by show ND c a v - ND c a v % Eb c b≤1000; omega⟩
   ·exact .inr ⟨by show (-1000:Int)≤0; omega,by show (0:Int)≤1000; omega⟩
theorem W9 (hs:DS s) {i:Nat} (hi0:1≤i) (hi:i < s.Columns.length) (h:CS s.Columns[i]) {a b v:Int} (h0:0≤a) (h1:a≤s.Columns[i].Widths.length) (hb:1≤b) (hb2:b≤s.Columns[i].Widths.length) (hv:MV s.Columns[i] v) :
 Fz s i a (mv s.Columns[i] a v) b = some (tG s.Columns[i] a v b):=by
 have hf:fin s i = s.Columns[i].Widths.length:=by rw [Em hi,C6 h]
 obtain ⟨a1,a2⟩:=h.low
 obtain ⟨a3,a4⟩:=h.high
 have eb:(b==0) = false:=by rw [beq_eq_false_iff_ne]; omega
 have hgo:∀ {r:Int × Bool} {r':Int × Bool},Cu s.Columns[i] a (mv s.Columns[i] a v) b = some r→r' = (bif r.2 then (r.1,true) else (0,false))→Fz s i a (mv s.Columns[i] a v) b = some r':=by
  intro r r' hr e
  refine Ok.val ?_
  unfold Fz
  refine Ok.bindE (hs.pfinest hi0 hi) (Ok.no ?_ (Ok.idxn hi (Ok.no (by rw [h.kind]; rfl) (Ok.bindE hr ?_))))
  ·rw [df,df,df,df]; rfl
  ·rw [e]
   cases r.2
   ·exact Ok.yes rfl (Ok.some rfl)
   ·exact Ok.no rfl (Ok.some rfl)
 by_cases ea:a = 0
 ·subst ea
  by_cases ho:s.Columns[i].Optional = true
  ·refine hgo (r:=(0,false)) ?_ ?_
   ·unfold Cu
    refine Ok.val (Ok.no rfl (Ok.bindE (x:=(s.Columns[i].Low,s.Columns[i].High,true)) rfl (Ok.no rfl (Ok.no eb (Ok.yes ?_ (Ok.some rfl))))))
    rw [ho]; rfl
   ·unfold tG
    rw [if_neg (by omega),if_pos ⟨rfl,ho⟩]; rfl
  ·have hv:s.Columns[i].Low≤v∧v≤s.Columns[i].High:=by
    rcases hv with hv | hv
    ·exact hv
    ·exact absurd hv.1 ho
   have ho2:s.Columns[i].Optional = false:=by simpa using ho
   have hw:=EM h hb hb2
   have d1:=PI (n:=s.Columns[i].Low) hw.1 (by omega) (by omega) (by omega)
   have d2:=PI (n:=s.Columns[i].High) hw.1 (by omega) (by omega) (by omega)
   refine hgo (r:=(s.Columns[i].Low - s.Columns[i].Low % Eb s.Columns[i] b,(s.Columns[i].Low - s.Columns[i].Low % Eb s.Columns[i] b==s.Columns[i].High - s.Columns[i].High % Eb s.Columns[i] b))) ?_ ?_
   ·unfold Cu
    refine Ok.val (Ok.no rfl (Ok.bindE (x:=(s.Columns[i].Low,s.Columns[i].High,true)) rfl (Ok.no rfl (Ok.no eb (Ok.no ?_ (Ok.bindE (aQ h hb hb2) (Ok.bindE d1 (Ok.bindE d1 (Ok.bindE d2 (Ok.some rfl))))))))))
    rw [ho2]; rfl
   ·unfold tG ND WI
    rw [if_neg (by omega),if_neg (fun hh=>ho hh.2),if_pos rfl,if_pos rfl]
    by_cases e:s.Columns[i].Low - s.Columns[i].Low % Eb s.Columns[i] b = s.Columns[i].High - s.Columns[i].High % Eb s.Columns[i] b
    ·rw [if_pos e,beq_iff_eq.2 e]; rfl
    ·rw [if_neg e,beq_eq_false_iff_ne.2 e]; rfl
 ·have ea1:(a==0) = false:=by rw [beq_eq_false_iff_ne]; exact ea
  rcases hv with hv | ⟨ho,rfl⟩
  ·have hm:=GE h (l:=a) (by omega) h1 hv
   have hbl:=Vg h h0 h1 hv
   have hw:=EM h hb hb2
   have d1:=PI (n:=ND s.Columns[i] a v) hw.1 (by omega) (by omega) (by omega)
   have d2:=PI (n:=WI s.Columns[i] a v) hw.1 (by omega) (by omega) (by omega)
   have e3:(mv s.Columns[i] a v==-1099511627776) = false:=by rw [beq_eq_false_iff_ne]; exact hm.2.2.2.1
   refine hgo (r:=(ND s.Columns[i] a v - ND s.Columns[i] a v % Eb s.Columns[i] b,(ND s.Columns[i] a v - ND s.Columns[i] a v % Eb s.Columns[i] b==WI s.Columns[i] a v - WI s.Columns[i] a v % Eb s.Columns[i] b))) ?_ ?_
   ·unfold Cu
    refine Ok.val (Ok.no (by rw [dt,e3]; rfl) (Ok.bindE (eK h h0 h1 hv) (Ok.no rfl (Ok.no eb (Ok.no (by rw [ea1]; rfl) (Ok.bindE (aQ h hb hb2) (Ok.bindE d1 (Ok.bindE d1 (Ok.bindE d2 (Ok.some rfl))))))))))
   ·have hvm:v≠Bs:=by unfold Bs; omega
    unfold tG
    rw [if_neg (fun hh=>hvm hh.2),if_neg (fun hh=>ea hh.1)]
    by_cases e:ND s.Columns[i] a v - ND s.Columns[i] a v % Eb s.Columns[i] b = WI s.Columns[i] a v - WI s.Columns[i] a v % Eb s.Columns[i] b
    ·rw [if_pos e,beq_iff_eq.2 e]; rfl
    ·rw [if_neg e,beq_eq_false_iff_ne.2 e]; rfl
  ·have e:mv s.Columns[i] a Bs = Bs:=by unfold mv; rw [if_neg ea,if_pos rfl]
   refine hgo (r:=(Bs,true)) ?_ ?_
   ·unfold Cu
    rw [e,decide_eq_true (by omega:a > 0),ho]
    exact Ok.val (Ok.yes rfl (Ok.no eb (Ok.some rfl)))
   ·unfold tG
    rw [if_pos ⟨by omega,rfl⟩]; rfl
theorem bZ (hs:DS s) {i:Nat} (hi0:1≤i) (hi:i < s.Columns.length) (h:CS s.Columns[i]) {a b v:Int} (h0:0≤a) (h1:a≤s.Columns[i].Widths.length) (hb:1≤b) (hb2:b≤s.Columns[i].Widths.length) (hv:MV s.Columns[i] v) :
 JK s i a (mv s.Columns[i] a v) b = some (tG s.Columns[i] a v b):=by
 have hf:fin s i = s.Columns[i].Widths.length:=by rw [Em hi,C6 h]
 obtain ⟨a1,a2⟩:=h.low
 obtain ⟨a3,a4⟩:=h.high
 have eb:(b==0) = false:=by rw [beq_eq_false_iff_ne]; omega
 refine Ok.val ?_
 unfold JK
 refine Ok.bindE (eF hs hi0 hi h h0 h1 hv) (Ok.no rfl (Ok.bindE (hs.rfinest hi0 hi) ?_))
 rw [HX,Option.bind_some,dt]
 refine Ok.no rfl ?_
 unfold Kr
 refine Ok.idxn hi (Ok.no (by rw [h.kind]; rfl) (Ok.no eb ?_))
 have hrest:∀ (hr:s.Columns[i].Low≤v∧v≤s.Columns[i].High),¬ (a = 0∧s.Columns[i].Optional = true)→Ok ((FQ s.Columns[i] a (mv s.Columns[i] a v)).bind fun x98 =>
  (AP s i b x98.1).bind fun x106 =>
  (AP s i b x98.2.1).bind fun x111 =>
  bif (x106 != x111) then
   some (0,false)
  else
   some (x106,true)) (· = tG s.Columns[i] a v b):=by
  intro hr hno
  have hbl:=Vg h h0 h1 hr
  have c1:=Tf hs hi0 hi h (l:=b) (v:=ND s.Columns[i] a v) (by omega) (by omega) (.inl (by omega))
  have c2:=Tf hs hi0 hi h (l:=b) (v:=WI s.Columns[i] a v) (by omega) (by omega) (.inl (by omega))
  rw [(GE h (l:=b) hb hb2 hbl.1).1] at c1
  rw [(GE h (l:=b) hb hb2 hbl.2).1] at c2
  have hvm:v≠Bs:=by unfold Bs; omega
  have et:tG s.Columns[i] a v b = if ND s.Columns[i] a v - ND s.Columns[i] a v % Eb s.Columns[i] b = WI s.Columns[i] a v - WI s.Columns[i] a v % Eb s.Columns[i] b then (ND s.Columns[i] a v - ND s.Columns[i] a v % Eb s.Columns[i] b,true) else (0,false):=by
   unfold tG
   rw [if_neg (fun hh=>hvm hh.2),if_neg hno]
  rw [et]
  refine Ok.bindE (aD h h0 h1 hr) (Ok.bindE c1 (Ok.bindE c2 ?_))
  by_cases e:ND s.Columns[i] a v - ND s.Columns[i] a v % Eb s.Columns[i] b = WI s.Columns[i] a v - WI s.Columns[i] a v % Eb s.Columns[i] b
  ·rw [if_pos e]
   exact Ok.no (by rw [e]; simp) (Ok.some rfl)
  ·rw [if_neg e]
   exact Ok.yes (by rw [bne_iff_ne]; exact e) (Ok.some rfl)
 by_cases ea:a = 0
 ·subst ea
  refine Ok.no rfl (Ok.br (fun ho=>Ok.some ?_) fun ho=>?_)
  ·have ho:s.Columns[i].Optional = true:=ho
   unfold tG
   rw [if_neg (by omega),if_pos ⟨rfl,ho⟩]
  ·have ho:s.Columns[i].Optional = false:=ho
   refine hrest ?_ (fun hh=>by rw [ho] at hh; cases hh.2)
   rcases hv with hv | hv
   ·exact hv
   ·rw [ho] at hv; cases hv.1
 ·have ea1:(a==0) = false:=by rw [beq_eq_false_iff_ne]; exact ea
  rcases hv with hv | ⟨ho,rfl⟩
  ·have hm:=GE h (l:=a) (by omega) h1 hv
   have e3:(mv s.Columns[i] a v==-1099511627776) = false:=by rw [beq_eq_false_iff_ne]; exact hm.2.2.2.1
   refine Ok.no (by rw [dt,e3]; rfl) (Ok.no (by rw [ea1]; rfl) (hrest hv fun hh=>ea hh.1))
  ·have e:mv s.Columns[i] a Bs = Bs:=by unfold mv; rw [if_neg ea,if_pos rfl]
   rw [e,decide_eq_true (by omega:a > 0)]
   refine Ok.yes rfl (Ok.some ?_)
   unfold tG
   rw [if_pos ⟨by omega,rfl⟩]; rfl
end Go.Proofs.YtejfnieiaecpkaaGreatDoor.P
namespace Go.Proofs.YtejfnieiaecpkaaGreatDoor.P
open Go Go.Abs Go.Proofs
set_option maxRecDepth 100000
variable {s:Aa}
def KV (s:Aa) (x:Aw) (i:Nat) (b:Int) (j:Nat):Int × Bool:=(DJ s x j i b).getD (0,false)
def RU (s:Aa) (x:Aw) (i:Nat) (b:Int) (j:Nat):Bool:=bif (KV s x i b j).2 then (KV s x i b j).1 != -1099511627776 else false
theorem bY {x:Aw} (hs:DS s) (hx:GX s x) {i:Nat} (hi0:1≤i) (hi:i < s.Columns.length) (h:CS s.Columns[i]) {b:Int} (hb:1≤b) (hb2:b≤s.Columns[i].Widths.length) {j:Nat} (hj:j < x.Rows.length) :
 DJ s x j i b = some (KV s x i b j)∧FU s x j i b = some (KV s x i b j)∧(((KV s x i b j).1 = Bs∧(KV s x i b j).2 = true)∨(-1000≤(KV s x i b j).1∧(KV s x i b j).1≤1000)):=by
 have hpl:=hx.picks_len hs
 have hf:fin s i = s.Columns[i].Widths.length:=by rw [Em hi,C6 h]
 suffices hgo:∃ r:Int × Bool,DJ s x j i b = some r∧FU s x j i b = some r∧((r.1 = Bs∧r.2 = true)∨(-1000≤r.1∧r.1≤1000)) by
  obtain ⟨r,h1,h2,h3⟩:=hgo
  have e:KV s x i b j = r:=by unfold KV; rw [h1]; rfl
  rw [e]; exact ⟨h1,h2,h3⟩
 have hfi:Bo x.Picks (fun a0=>Hw a0 (i:Int)) = some (G5 (fun p=>p.Column==(i:Int)) x.Picks):=Lu (fun _ _=>rfl) (by omega)
 have hr:=hx.rows _ (List.getElem_mem hj)
 cases hff:x.Picks.findIdx? (fun p=>p.Column==(i:Int)) with
 | none =>
   have hno:=List.findIdx?_eq_none_iff.1 hff
   have hlow:MV s.Columns[i] s.Columns[i].Low:=.inl ⟨Int.le_refl _,h.high.1⟩
   refine ⟨tG s.Columns[i] 0 s.Columns[i].Low b,?_,?_,Zt h (Int.le_refl _) (by omega) hb hb2 hlow⟩
   ·refine Ok.val ?_
    unfold DJ
    refine Ok.bindE hfi ?_
    unfold G5
    rw [hff]
    exact Ok.yes rfl (Ok.bindE (W9 hs hi0 hi h (Int.le_refl _) (by omega) hb hb2 hlow) (Ok.some rfl))
   ·refine Ok.val ?_
    unfold FU
    refine Ok.no ?_ ?_
    ·rw [df,df,df,df]; rfl
    refine Ok.for (fun q=>q) x.Picks.length (fun _ _=>True) 0 (Nat.zero_le _) rfl trivial (by omega) (fun rec q hq hI=>?_) fun rec m q hm hq hI ih=>?_
    ·simp only [Hj,hq]
     rw [Ba]
     exact Ok.bindE (bZ hs hi0 hi h (Int.le_refl _) (by omega) hb hb2 hlow) (Ok.some rfl)
    ·simp only [Hj,hq]
     rw [AK]
     exact Ok.idxn hm (Ok.no (hno _ (List.getElem_mem hm)) (ih _ Dv trivial))
 | some k =>
   obtain ⟨hk,hkc,hbef⟩:=List.findIdx?_eq_some_iff_getElem.1 hff
   have hkc:x.Picks[k].Column = (i:Int):=by simpa using hkc
   obtain ⟨i',h1,h2,h3,h4,h5⟩:=hx.picks _ (List.getElem_mem hk)
   obtain rfl:i' = i:=by omega
   have hk1:k + 1 < x.Rows[j].length:=by omega
   obtain ⟨i2,hi2,w,_,g1,g2,g3⟩:=hr.2.2.2 k _ _ (List.getElem?_eq_getElem hk) (List.getElem?_eq_getElem hk1)
   obtain rfl:i2 = i':=by omega
   rw [R2 h] at g3
   have hw:=g2.meas h
   refine ⟨tG s.Columns[i2] x.Picks[k].Level w b,?_,?_,Zt h h4 (by omega) hb hb2 hw⟩
   ·refine Ok.val ?_
    unfold DJ
    refine Ok.bindE hfi ?_
    unfold G5
    rw [hff]
    refine Ok.no (decide_eq_false (by show ¬ ((k:Nat):Int) < 0; omega)) (Ok.idxn hk (Ok.idxn hj ?_))
    rw [Dv]
    refine Ok.idxn hk1 ?_
    rw [g3]
    exact Ok.bindE (W9 hs hi0 hi h h4 (by omega) hb hb2 hw) (Ok.some rfl)
   ·refine Ok.val ?_
    unfold FU
    refine Ok.no ?_ ?_
    ·rw [df,df,df,df]; rfl
    refine Ok.for (fun q=>q) x.Picks.length (fun m _=>m≤k) 0 (Nat.zero_le _) rfl (Nat.zero_le _) (by omega) (fun rec q hq hI=>by omega) fun rec m q hm hq hI ih=>?_
    simp only [Hj,hq]
    rw [AK]
    by_cases e:m = k
    ·subst e
     refine Ok.idxn hk (Ok.yes (by rw [hkc]; exact beq_self_eq_true _) (Ok.idxn hk (Ok.idxn hj ?_)))
     rw [Dv]
     refine Ok.idxn hk1 ?_
     rw [g3]
     exact Ok.bindE (bZ hs hi0 hi h h4 (by omega) hb hb2 hw) (Ok.some rfl)
    ·have:=hbef m (by omega)
     exact Ok.idxn hm (Ok.no (by simpa using this) (ih _ Dv (by omega)))
def vals (s:Aa) (x:Aw) (i:Nat) (b:Int) (l:List Nat):List Int:=l.map fun j=>(KV s x i b j).1
theorem Za {x:Aw} (hs:DS s) (hx:GX s x) {i:Nat} (hi0:1≤i) (hi:i < s.Columns.length) (h:CS s.Columns[i]) {l:List Nat} (hl:l.length≤200) (hlm:∀ j∈l,j < x.Rows.length) :
 GF s x (CI l) (i:Int) = some (vals s x i (fin s i) l):=by
 have hf:fin s i = s.Columns[i].Widths.length:=by rw [Em hi,C6 h]
 have hwl:=C0 h
 refine Ok.val ?_
 unfold GF
 refine Ok.for (fun q=>q.1) l.length (fun m q=>q.2 = vals s x i (fin s i) (l.take m)) 0 (Nat.zero_le _) rfl rfl (by omega) (fun rec q hq hI=>?_) fun rec m q hm hq hI ih=>?_
 ·simp only [Gt,hq,hI,Cr,List.take_length]
  rw [Ba]
  exact Ok.some rfl
 ·have hjm:=hlm _ (List.getElem_mem hm)
  simp only [Gt,hq,hI,Cr]
  rw [AK]
  obtain ⟨h1,_,_⟩:=bY hs hx hi0 hi h (b:=fin s i) (by omega) (by omega) hjm
  refine Ok.idxn (by rw [Cr]; exact hm) ?_
  rw [GJ hm]
  refine Ok.bindE (hs.pFinest hi0 hi) (Ok.bindE h1 (Ok.rm (by simp [vals]; omega) (ih _ Dv ?_)))
  show vals s x i (fin s i) (l.take m)++[_] = _
  rw [List.take_succ_eq_append_getElem hm]
  unfold vals
  rw [List.map_append]
  rfl
theorem dP {x:Aw} (hs:DS s) (hx:GX s x) {i:Nat} (hi0:1≤i) (hi:i < s.Columns.length) (hM:CS s.Columns[i]) {n d:Nat} {c:Af} (h:RC s n c) (hd:n < d) (hn:n≤39∧DP 9 c) (hcov:∀ a∈I4 d c,one x.Picks a.Column (Pr s a)):Hz d s x c [(i:Int)] = some (CI ((O7 (CZ d s c x) x.Rows.length).filter (RU s x i (fin s i)))):=by
 have hf:fin s i = s.Columns[i].Widths.length:=by rw [Em hi,C6 hM]
 have hwl:=C0 hM
 have hl:=hx.len
 refine Ok.val ?_
 unfold Hz
 refine Ok.bindE (hx.rcheck hs) (Ok.no rfl ?_)
 refine Ok.for (fun q=>q.1) x.Rows.length (fun m q=>q.2 = CI ((O7 (CZ d s c x) m).filter (RU s x i (fin s i)))) 0 (Nat.zero_le _) rfl rfl (by omega) (fun rec q hq hI=>?_) fun rec m q hm hq hI ih=>?_
 ·simp only [Is,hq,hI]
  rw [Ba]
  exact Ok.some rfl
 ·simp only [Is,hq,hI]
  rw [AK]
  have hr:=List.getElem_mem hm
  have hrl:=(hx.rows _ hr).1
  obtain ⟨t,h1,h2,_⟩:=P8 hs hx hr h hd hcov
  have hfl:=L9 (CZ d s c x) m
  have hfl2:=List.length_filter_le (RU s x i (fin s i)) (O7 (CZ d s c x) m)
  have hb:CZ d s c x m = (t==1):=by
   unfold CZ
   rw [Rv hm,h2]
   rfl
  obtain ⟨_,hin,_⟩:=bY hs hx hi0 hi hM (b:=fin s i) (by omega) (by omega) hm
  have hstep:(O7 (CZ d s c x) (m + 1)).filter (RU s x i (fin s i)) = bif (bif (t==1) then RU s x i (fin s i) m else false) then (O7 (CZ d s c x) m).filter (RU s x i (fin s i))++[m] else (O7 (CZ d s c x) m).filter (RU s x i (fin s i)):=by
   rw [Vd,hb]
   cases t==1
   ·rfl
   ·rw [cond_true,cond_true,List.filter_append]
    cases e:RU s x i (fin s i) m
    ·rw [List.filter_cons_of_neg (by simp [e])]; simp
    ·rw [List.filter_cons_of_pos e]; rfl
  refine Ok.idxn hm (Ok.gdd (by omega) ?_)
  rw [iN]
  refine Ok.bindE (TN hs hx hr h hd hn hcov h2) ?_
  have hk1:∀ (b:Bool) (z:Int),b = (bif (t==1) then RU s x i (fin s i) m else false)→Ok (G7 (CI ((O7 (CZ d s c x) m).filter (RU s x i (fin s i)))) (m:Int) rec b z) (· = CI ((O7 (CZ d s c x) x.Rows.length).filter (RU s x i (fin s i)))):=by
   intro b z e
   unfold G7
   refine Ok.br (fun e2=>Ok.rm (by rw [Cr]; simp; omega) (ih _ Dv ?_)) fun e2=>ih _ Dv ?_
   ·rw [hstep,← e,e2]; exact (Xa _ _).symm
   ·rw [hstep,← e,e2]; rfl
  refine Ok.loop (fun q=>(q.2 = 0∧q.1 = (t==1))∨(q.2 = 1∧q.1 = (bif (t==1) then RU s x i (fin s i) m else false))) (fun q=>(1 - q.2).toNat) (.inl ⟨rfl,rfl⟩) (by unfold A8; show (1 - 0:Int).toNat < _; omega) fun rec2 q2 hI2 ih2=>?_
  rcases hI2 with ⟨e1,e2⟩ | ⟨e1,e2⟩
  ·simp only [Ih,e1]
   refine Ok.br (fun e3=>?_) fun e3=>hk1 _ _ ?_
   ·have e4:q2.1 = true:=e3
    refine Ok.bindE (x:=(i:Int)) rfl (Ok.bindE (x:=(i:Int)) rfl (Ok.bindE (hs.rfinest hi0 hi) (Ok.bindE hin (ih2 _ (.inr ⟨rfl,?_⟩) ?_))))
    ·rw [← e2,e4]; rfl
    ·show (1 - IntKind.i64.wrap (0 + 1)).toNat < (1 - q2.2).toNat
     rw [e1]; decide
   ·have e4:q2.1 = false:=e3
    rw [← e2,e4]; rfl
  ·simp only [Ih,e1]
   exact Ok.no rfl (hk1 _ _ e2)
end Go.Proofs.YtejfnieiaecpkaaGreatDoor.P
namespace Go.Proofs.YtejfnieiaecpkaaGreatDoor.P
open Go Go.Abs Go.Proofs
set_option maxRecDepth 100000
variable {s:Aa}
theorem Vr {p:Prop} {a b:Bool} (ha:a = true↔p) (hb:b = true↔p):a = b:=by
 cases a
 ·cases b
  ·rfl
  ·exact absurd (ha.2 (hb.1 rfl)) (by simp)
 ·exact (hb.2 (ha.1 rfl)).symm
theorem Yz {x:Aw} {p:Nat→Bool}:∀ j∈O7 p x.Rows.length,j < x.Rows.length:=fun j hj=>(bd hj).1
def VE:Aw:={ Project:=ByteArray.empty,Version:=0,Picks:=[],Rows:=[] }
theorem aT (hs:DS s):∃ u,u≠0∧Ex s VE = some u∧FR s VE = some u:=by
 refine ⟨3,by decide,?_,?_⟩
 ·unfold Ex
  rw [hs.check]
  rfl
 ·unfold FR
  rw [hs.rcheck]
  rfl
end Go.Proofs.YtejfnieiaecpkaaGreatDoor.P
namespace Go.Proofs.YtejfnieiaecpkaaGreatDoor.P
open Go Go.Abs Go.Proofs
set_option maxRecDepth 100000
variable {s:Aa}
theorem gG {l:List Int} {p:Int→Option Bool} (q:Int→Bool) (hp:∀ x∈l,p x = some (q x)) (hl:l.length≤1000000):Dh l p = some (l.filter fun x=>!q x):=by
 unfold Dh
 have h1:(l.all fun x=>(p x).isSome) = true:=List.all_eq_true.2 fun x hx=>by rw [hp x hx]; rfl
 have h2:rm 0 l.length = true:=Zb (by omega)
 rw [h1,h2]
 show some _ = some _
 congr 1
 refine List.filter_congr fun x hx=>?_
 rw [hp x hx]
 cases q x <;> rfl
theorem Zm (l:List Nat) (q:Int→Bool):(CI l).filter q = CI (l.filter fun j=>q (j:Int)):=by
 unfold CI
 rw [List.filter_map]
 rfl
theorem cB {x:Aw} (hs:DS s) (hx:GX s x) {i:Nat} (hi0:1≤i) (hi:i < s.Columns.length) (hM:CS s.Columns[i]) {n d:Nat} {c:Af} (h:RC s n c) (hd:n < d) (hn:n≤39∧DP 9 c) (hcov:∀ a∈I4 d c,one x.Picks a.Column (Pr s a)):ER d s x c [(i:Int)] = some (CI ((O7 (CZ d s c x) x.Rows.length).filter (RU s x i (fin s i)))):=by
 have hf:fin s i = s.Columns[i].Widths.length:=by rw [Em hi,C6 hM]
 have hwl:=C0 hM
 have hl:=hx.len
 have hfl:=L9 (CZ d s c x) x.Rows.length
 refine Ok.val ?_
 unfold ER
 refine Ok.bindE (hx.check hs) (Ok.no rfl (Ok.bindE (WF hs hx h hd hn hcov) (Ok.bindE (gG (fun z=>!RU s x i (fin s i) z.toNat) (fun z hz=>?_) (by rw [Cr]; omega)) (Ok.some ?_))))
 ·obtain ⟨j,hj,rfl⟩:=List.mem_map.1 hz
  have hj2:=Yz j hj
  obtain ⟨h1,_,_⟩:=bY hs hx hi0 hi hM (b:=fin s i) (by omega) (by omega) hj2
  unfold Gj
  have hc1:∀ z∈[(i:Int)],D1 z s x (j:Int) = some (!RU s x i (fin s i) j):=by
   intro z hz
   rw [List.mem_singleton] at hz
   subst hz
   refine Ok.val ?_
   unfold D1
   refine Ok.bindE (hs.pFinest hi0 hi) (Ok.bindE h1 (Ok.some ?_))
   unfold RU
   generalize KV s x i (fin s i) j = r
   obtain ⟨a,b⟩:=r
   cases b
   ·rfl
   ·show (a==-1099511627776) = !(a != -1099511627776)
    simp [bne]
  rw [i5 _ hc1 (by simp),Int.toNat_natCast]
  simp
 ·rw [Zm]
  congr 1
  refine List.filter_congr fun j _=>?_
  simp
end Go.Proofs.YtejfnieiaecpkaaGreatDoor.P
namespace Go.Proofs.YtejfnieiaecpkaaGreatDoor.P
open Go Go.Abs Go.Proofs
set_option maxRecDepth 100000
variable {s:Aa}
theorem Ok.any {α:Type} {m:Option α} {P:α→Prop} (h:Ok m P):Ok m fun _=>True:=h.mono fun _ _=>trivial
theorem ZK (s:Aa) (m k:Int):Ok (Hr s m k) fun b=>b = true→∃ i:Nat,m = (i:Int)∧i < s.Columns.length:=by
 unfold Hr
 by_cases h:0≤m∧m < s.Columns.length
 ·obtain ⟨i,rfl⟩:∃ i:Nat,m = i:=⟨m.toNat,by omega⟩
  rw [decide_eq_true (by omega:(i:Int) ≥ 0),decide_eq_true h.2]
  have hi:i < s.Columns.length:=by omega
  exact Ok.yes rfl (Ok.idxn hi (Ok.some fun _=>⟨i,rfl,hi⟩))
 ·refine Ok.no ?_ (Ok.some fun h=>by cases h)
  by_cases h0:m ≥ 0
  ·rw [decide_eq_true h0,df]; rfl
  ·rw [decide_eq_false h0]; rfl
theorem b9 (hs:DS s) (p:Ae):Ok (Gv s p) fun e=>e = 0→fX s p:=by
 have hc:=hs.cols_length
 unfold Gv
 refine Ok.bindE hs.rcheck (Ok.no rfl (Ok.br (fun _=>Ok.some fun h=>by cases h) fun h=>?_))
 have h1:1≤p.Column∧p.Column < s.Columns.length:=by
  by_cases e:p.Column < 1
  ·rw [decide_eq_true e] at h; cases h
  ·rw [decide_eq_false e,cond_false] at h
   have:=of_decide_eq_false h
   omega
 obtain ⟨i,hi⟩:∃ i:Nat,p.Column = i:=⟨p.Column.toNat,by omega⟩
 rw [hi]
 refine Ok.bindE (hs.rfinest (i:=i) (by omega) (by omega)) ?_
 rw [HX,Option.bind_some]
 by_cases e:0≤p.Level∧p.Level≤fin s i
 ·rw [decide_eq_true e]
  exact Ok.no rfl (Ok.some fun _=>⟨i,by omega,by omega,hi,e.1,e.2⟩)
 ·rw [decide_eq_false e]
  exact Ok.yes rfl (Ok.some fun h=>by cases h)
theorem Y1 (hs:DS s) {l:List Ae} (hl:l.length≤1000000):Ok (Dq s l) fun e=>e = 0→(∀ p∈l,fX s p)∧l.Pairwise fun a b=>a.Column < b.Column:=by
 unfold Dq
 refine Ok.bindE hs.rcheck (Ok.no rfl ?_)
 refine Ok.for (fun q=>q) l.length (fun k _=>(∀ p∈l.take k,fX s p)∧∀ (j:Nat) (hj:j + 1 < l.length),j + 1 < k→l[j].Column < l[j + 1].Column) 0 (Nat.zero_le _) rfl ⟨fun p hp=>by simp at hp,fun j hj h=>by omega⟩ (by omega) (fun rec q hq hI=>?_) fun rec k q hk hq hI ih=>?_
 ·simp only [DV,hq]
  rw [Ba]
  refine Ok.some fun _=>⟨by rw [List.take_length] at hI; exact hI.1,List.pairwise_iff_getElem.2 fun a b ha hb hab=>?_⟩
  obtain ⟨n,rfl⟩:∃ n,b = a + n + 1:=⟨b - a - 1,by omega⟩
  clear hab
  induction n with
  | zero=>exact hI.2 a hb (by omega)
  | succ n ih =>
    have h1:=ih (by omega)
    have h2:=hI.2 (a + n + 1) hb (by omega)
    exact Int.lt_trans h1 h2
 ·simp only [DV,hq]
  rw [AK]
  obtain ⟨e,he,hP⟩:=b9 hs l[k]
  refine Ok.idxn hk (Ok.bindE he (Ok.br (fun _=>Ok.some fun h=>?_) fun h0=>?_))
  ·subst h
   rename_i h
   cases h
  ·have h0:e = 0:=by simpa using h0
   have hP:=hP h0
   have hmem:∀ p∈l.take (k + 1),fX s p:=by
    intro p hp
    rw [List.take_succ_eq_append_getElem hk] at hp
    rcases List.mem_append.1 hp with hp | hp
    ·exact hI.1 p hp
    ·rw [List.mem_singleton] at hp; subst hp; exact hP
   refine Ok.brd (fun hpos=>?_) fun hz=>ih _ Dv ⟨hmem,fun j hj hjk=>by omega⟩
   have e1:IntKind.i64.wrap ((k:Int) - 1) = ((k - 1:Nat):Int):=by rw [wr]; omega
   rw [e1]
   refine Ok.idxn hk (Ok.idxn (by omega:k - 1 < l.length) (Ok.brd (fun _=>Ok.some fun h=>by cases h) fun hlt=>ih _ Dv ⟨hmem,fun j hj hjk=>?_⟩))
   by_cases e2:j + 1 = k
   ·obtain rfl:j = k - 1:=by omega
    have:k - 1 + 1 = k:=by omega
    simp only [this]
    omega
   ·exact hI.2 j hj (by omega)
def iP (s:Aa) (p:Ae):Prop:=∃ i:Nat,1≤i∧i < s.Columns.length∧p.Column = i∧0≤p.Level∧p.Level≤fin s i
structure gR (s:Aa) (q:AG):Prop where
 name:Ok (BW q.Name) fun _=>True
 filter:GC s q.Filter
 event:(q.Kind≠3∧q.Event = Rm)∨GC s q.Event
 dims:q.Dims.length≤10∧∀ p∈q.Dims,iP s p
 terms:q.Terms.length≤10
theorem ZS (hs:DS s) {l:List Ae} (hl:l.length≤10):Ok (Hp s l) fun _=>True:=by
 unfold Hp
 refine Ok.br (fun _=>Ok.some trivial) fun _=>?_
 refine Ok.for (fun q=>q) l.length (fun _ _=>True) 0 (Nat.zero_le _) rfl trivial (by omega) (fun rec q hq _=>?_) fun rec i q hi hq _ ih=>?_
 ·simp only [GP,hq]
  rw [Ba]
  exact Ok.some trivial
 ·simp only [GP,hq]
  rw [AK]
  refine Ok.idxn hi (Ok.bind (b9 hs _) fun e _=>Ok.br (fun _=>Ok.some trivial) fun _=>Ok.idxn hi (Ok.bind (ZK s _ _) fun b _=>Ok.br (fun _=>Ok.some trivial) fun _=>?_))
  refine Ok.for (fun q=>q) i (fun _ _=>True) 0 (Nat.zero_le _) rfl trivial (by omega) (fun rec2 q2 hq2 _=>?_) fun rec2 k q2 hk hq2 _ ih2=>?_
  ·simp only [HL,hq2]
   rw [Ba]
   exact ih _ Dv trivial
  ·simp only [HL,hq2]
   rw [AK]
   exact Ok.idxn (by omega:k < l.length) (Ok.idxn hi (Ok.br (fun _=>Ok.some trivial) fun _=>ih2 _ Dv trivial))
theorem Zh (s:Aa) {l:List Int} (hl:l.length≤10) (m:Int):Ok (IN s m l) fun _=>True:=by
 unfold IN
 refine Ok.br (fun _=>Ok.some trivial) fun _=>?_
 refine Ok.for (fun q=>q) l.length (fun _ _=>True) 0 (Nat.zero_le _) rfl trivial (by omega) (fun rec q hq _=>?_) fun rec i q hi hq _ ih=>?_
 ·simp only [IY,hq]
  rw [Ba]
  exact Ok.some trivial
 ·simp only [IY,hq]
  rw [AK]
  refine Ok.idxn hi (Ok.bind (ZK s _ _) fun b _=>Ok.br (fun _=>Ok.some trivial) fun _=>Ok.idxn hi (Ok.br (fun _=>Ok.some trivial) fun _=>Ok.gdd (by omega) (Ok.idxn hi (Ok.bind (fE ?_) fun b _=>Ok.br (fun _=>Ok.some trivial) fun _=>ih _ Dv trivial))))
  unfold O1
  rw [List.length_take,List.length_drop]
  omega
theorem cH (d:Nat):L1 (d + 1) Rm = some true:=rfl
theorem Ma (hs:DS s) {q:AG} (h:gR s q):Ok (Di DD s q) fun _=>True:=by
 unfold Di
 refine Ok.bindE hs.rcheck (Ok.no rfl (Ok.bind h.name fun b _=>Ok.br (fun _=>Ok.some trivial) fun _=>Ok.br (fun _=>Ok.some trivial) fun _=>Ok.bindE (h.filter.rcheck hs (by decide)) (Ok.no rfl (Ok.bind (P:=fun _=>True) ?_ fun e _=>Ok.br (fun _=>Ok.some trivial) fun _=>Ok.br (fun _=>Ok.some trivial) fun _=>Ok.br (fun hk=>?_) fun _=>Ok.some trivial))))
 ·unfold K0
  refine Ok.bind (ZK s _ _) fun b hb=>Ok.br (fun _=>Ok.bind (ZS hs h.dims.1) fun e _=>Ok.br (fun _=>Ok.some trivial) fun _=>Ok.br (fun _=>Ok.some trivial) fun _=>Ok.some trivial) fun k1=>Ok.br (fun _=>Ok.br (fun _=>Ok.some trivial) fun _=>Ok.bind (Zh s h.terms _) fun e _=>Ok.some trivial) fun k2=>Ok.br (fun _=>Ok.some trivial) fun hb2=>?_
  obtain ⟨i,e,hi⟩:=hb (by simpa using hb2)
  rw [e]
  refine Ok.idxn hi (Ok.br (fun _=>Ok.some trivial) fun _=>Ok.bind (P:=fun _=>True) ?_ fun e _=>Ok.some trivial)
  rcases h.event with ⟨_,h2⟩ | h2
  ·rw [h2]; exact (Ok.eq (hs.rcond_zero 59)).any
  ·exact (Ok.eq (h2.rcheck hs (by decide))).any
 ·have hk:q.Kind≠3:=by simpa using hk
  rcases h.event with ⟨_,h2⟩ | h2
  ·rw [h2]
   exact Ok.bindE (cH 59) (Ok.no rfl (Ok.some trivial))
  ·refine Ok.bind (P:=fun _=>True) ?_ fun b _=>Ok.br (fun _=>Ok.some trivial) fun _=>Ok.some trivial
   unfold L1
   refine Ok.bind (P:=fun _=>True) ?_ fun b _=>Ok.some trivial
   show Ok (JB 59 (JP 59) q.Event Rm) _
   unfold JB
   have hne:(q.Event.Op != 0) = true:=h2.op
   refine Ok.yes ?_ (Ok.some trivial)
   rw [show (q.Event.Op != Rm.Op) = true from hne]
   rfl
structure TE (s:Aa) (d:Az):Prop where
 project:BW d.Project = some true∧Ef d.Project = some true
 source:Ok (BW d.Source) fun _=>True
 cohort:GC s d.Cohort
 questions:d.Questions.length≤3∧∀ q∈d.Questions,gR s q
theorem Jd (hs:DS s) {d:Az} (h:TE s d):Ok (Fg DD s d) fun _=>True:=by
 unfold Fg
 refine Ok.bindE hs.rcheck (Ok.no rfl (Ok.bindE h.project.1 (Ok.no rfl (Ok.bind h.source fun b _=>Ok.br (fun _=>Ok.some trivial) fun _=>?_))))
 unfold Hq
 refine Ok.bindE (h.cohort.rcheck hs (by decide)) (Ok.no rfl (Ok.br (fun _=>Ok.some trivial) fun _=>Ok.br (fun _=>Ok.some trivial) fun _=>?_))
 have hl:=h.questions.1
 refine Ok.for (fun q=>q) d.Questions.length (fun _ _=>True) 0 (Nat.zero_le _) rfl trivial (by omega) (fun rec q hq _=>?_) fun rec i q hi hq _ ih=>?_
 ·simp only [F9,hq]
  rw [Ba]
  exact Ok.some trivial
 ·simp only [F9,hq]
  rw [AK]
  refine Ok.idxn hi (Ok.bind (Ma hs (h.questions.2 _ (List.getElem_mem hi))) fun e _=>Ok.br (fun _=>Ok.some trivial) fun _=>?_)
  refine Ok.for (fun q=>q) i (fun _ _=>True) 0 (Nat.zero_le _) rfl trivial (by omega) (fun rec2 q2 hq2 _=>?_) fun rec2 k q2 hk hq2 _ ih2=>?_
  ·simp only [Hk,hq2]
   rw [Ba]
   exact ih _ Dv trivial
  ·simp only [Hk,hq2]
   rw [AK]
   exact Ok.idxn (by omega:k < d.Questions.length) (Ok.idxn hi (Ok.br (fun _=>Ok.some trivial) fun _=>ih2 _ Dv trivial))
theorem VQ (hs:DS s) {i:Nat} (hi0:1≤i) (hi:i < s.Columns.length) (h:HD s.Columns[i]) {a b:Int} (a0:0≤a) (b0:0≤b) (b1:b≤fin s i):Ok (DG s i a b) fun r=>b≤a→r = true:=by
 obtain ⟨L,hL,hL2⟩:=hs.clist h
 have hcl:=KC hL
 have hlen:(Bl L).length≤10:=by have:=List.all_eq_true.1 NZ L hL; simpa using this
 unfold DG
 refine Ok.idxn hi (Ok.br (fun _=>Ok.some fun _=>rfl) fun hz=>?_)
 have hab:¬ b≤a:=by
  intro hba
  have:decide (a ≥ b) = true:=decide_eq_true hba
  rw [this] at hz
  cases hb:(b==0) <;> rw [hb] at hz <;> cases hz
 refine Ok.yes (by rw [h.kind]; rfl) (Ok.bindE (Tb (BP hi) hL2 hL) ?_)
 have hc:∀ (k:Nat) (hk:k < (Bl L).length) (l:Int),0≤l→l≤fin s i→AP s i l (Bl L)[k] = some (CV s s.Columns[i] l (Bl L)[k]):=fun k hk l l0 l1=>Ru hs hi0 hi l0 l1 (.inr (.inl ⟨h.kind,L,hL,hL2,List.getElem_mem hk⟩))
 refine Ok.for (fun q=>q) (Bl L).length (fun _ _=>True) 0 (Nat.zero_le _) rfl trivial (by omega) (fun rec q hq _=>?_) fun rec k q hk hq _ ih=>?_
 ·simp only [H8,hq]
  rw [Ba]
  exact Ok.some fun _=>rfl
 ·simp only [H8,hq]
  rw [AK]
  refine Ok.for (fun q=>q) k (fun _ _=>True) 0 (Nat.zero_le _) rfl trivial (by omega) (fun rec2 q2 hq2 _=>?_) fun rec2 m q2 hm hq2 _ ih2=>?_
  ·simp only [H1,hq2]
   rw [Ba]
   exact ih _ Dv trivial
  ·have hm2:m < (Bl L).length:=by omega
   simp only [H1,hq2]
   rw [AK]
   refine Ok.idxn hk (Ok.bindE (hc k hk b b0 b1) (Ok.idxn hm2 (Ok.bindE (hc m hm2 b b0 b1) (Ok.br (fun _=>?_) fun _=>ih2 _ Dv trivial))))
   refine Ok.idxn hk (Ok.bindE (hc k hk a a0 (by omega)) (Ok.idxn hm2 (Ok.bindE (hc m hm2 a a0 (by omega)) (Ok.br (fun _=>Ok.some fun h=>absurd h hab) fun _=>ih2 _ Dv trivial))))
theorem Tk (hs:DS s) {i:Nat} (hi0:1≤i) (hi:i < s.Columns.length) {l:Int} (h0:0≤l) (h1:l≤fin s i):Ok (Cp s i l) fun _=>True:=by
 have hf:=hs.fin_ok hi0 hi
 rcases hs.col hi0 hi with h | h
 ·unfold Cp
  refine Ok.bindE (hs.rfinest hi0 hi) ?_
  rw [HX,Option.bind_some,decide_eq_true ⟨h0,h1⟩]
  refine Ok.no rfl (Ok.loop (fun q=>0≤q∧q≤l) (fun q=>(l - q).toNat) ⟨Int.le_refl _,h0⟩ (by unfold A8; omega) fun rec q hq ih=>?_)
  simp only [FO]
  refine Ok.bind (VQ hs hi0 hi h hq.1 h0 h1) fun r hr=>Ok.br (fun e=>?_) fun _=>Ok.some trivial
  have hlt:q < l:=by
   by_cases e2:l≤q
   ·rw [hr e2] at e; cases e
   ·omega
  have e2:IntKind.i64.wrap (q + 1) = q + 1:=wr
  rw [e2]
  exact ih _ ⟨by omega,by omega⟩ (by omega)
 ·have hf2:fin s i = s.Columns[i].Widths.length:=by rw [Em hi,C6 h]
  obtain ⟨L,_,h2,_⟩:=VL hs hi0 hi h h0 (by omega)
  exact (Ok.eq h2).any
structure PB (r:List Ae) (n:Nat):Prop where
 len:r.length≤n
 pos:∀ p∈r,0 < p.Level
theorem PB.raise {r:List Ae} {n:Nat} (h:PB r n) (hn:n≤1000) (c l:Int):Ok (Cw r c l) fun z=>PB z (n + 1):=by
 have:=h.len
 exact (Xs (by omega) h.pos).mono fun z hz=>⟨by omega,hz.2.1⟩
theorem PB.mono {r:List Ae} {n m:Nat} (h:PB r n) (hm:n≤m):PB r m:=⟨by have:=h.len; omega,h.pos⟩
theorem TO (hs:DS s) {q:AG} (h:gR s q):Ok (FP DD s q) fun r=>PB r 220:=by
 have hc:=hs.cols_length
 have hj:∀ r,PB r 200→Ok (Ez q s r) fun r=>PB r 220:=by
  intro r hr
  unfold Ez
  have hdl:=h.dims.1
  refine Ok.for (fun q=>q.2) q.Dims.length (fun k q=>PB q.1 (200 + k)) 0 (Nat.zero_le _) rfl hr (by omega) (fun rec st hq hI=>?_) fun rec k st hk hq hI ih=>?_
  ·simp only [FJ,hq]
   rw [Ba]
   refine Ok.for (fun q=>q.2) s.Columns.length (fun k q=>1≤k∧PB q.1 (210 + k)) 1 (by omega) rfl ⟨Nat.le_refl _,hI.mono (by omega)⟩ (by omega) (fun rec st hq hI=>?_) fun rec k st hk hq hI ih=>?_
   ·simp only [FH,hq]
    rw [Ba]
    exact Ok.some (hI.2.mono (by omega))
   ·obtain ⟨hk1,hI⟩:=hI
    have hf:=hs.fin_ok hk1 hk
    simp only [FH,hq]
    rw [AK]
    refine Ok.bind (P:=fun _=>True) ?_ fun b _=>Ok.br (fun _=>Ok.bindE (hs.rfinest hk1 hk) (Ok.bind (Tk hs hk1 hk (by omega) (Int.le_refl _)) fun L _=>Ok.bind (hI.raise (by omega) _ _) fun z hz=>ih _ Dv ⟨by omega,hz⟩)) fun _=>ih _ Dv ⟨by omega,hI.mono (by omega)⟩
    unfold L8
    exact Ok.br (fun _=>Ok.some trivial) fun _=>Ok.bind (fE (by have:=h.terms; omega)) fun b _=>Ok.some trivial
  ·simp only [FJ,hq]
   rw [AK]
   obtain ⟨i,h1,h2,h3,h4,h5⟩:=h.dims.2 _ (List.getElem_mem hk)
   refine Ok.idxn hk (Ok.idxn hk (Ok.idxn hk ?_))
   rw [h3]
   exact Ok.bind (Tk hs h1 h2 h4 h5) fun L _=>Ok.bind (hI.raise (by omega) _ _) fun z hz=>ih _ Dv hz
 unfold FP
 refine Ok.bind (Ma hs h) fun e _=>Ok.br (fun _=>Ok.some ⟨by simp,fun p hp=>by cases hp⟩) fun _=>Ok.bind (h.filter.rneeds hs) fun x hx=>?_
 have hx1:PB x 100:=⟨hx.len,hx.pos⟩
 refine Ok.br (fun hk=>?_) fun _=>hj _ (hx1.mono (by omega))
 have hk:q.Kind = 3:=by simpa using hk
 have he:GC s q.Event:=by
  rcases h.event with ⟨h1,_⟩ | h1
  ·exact absurd hk h1
  ·exact h1
 refine Ok.bind (he.rneeds hs) fun y hy=>?_
 have hyl:=hy.len
 refine Ok.for (fun q=>q.2) y.length (fun k q=>PB q.1 (100 + k)) 0 (Nat.zero_le _) rfl hx1 (by omega) (fun rec st hq hI=>?_) fun rec k st hk hq hI ih=>?_
 ·simp only [Ja,hq]
  rw [Ba]
  exact hj _ (hI.mono (by omega))
 ·simp only [Ja,hq]
  rw [AK]
  exact Ok.idxn hk (Ok.idxn hk (Ok.bind (hI.raise (by omega) _ _) fun z hz=>ih _ Dv hz))
theorem af (hs:DS s) {d:Az} (h:TE s d):Ok (Mc DD s d) fun r=>r.1.length≤660:=by
 unfold Mc
 refine Ok.bind (Jd hs h) fun e _=>Ok.br (fun _=>Ok.some (by simp)) fun _=>?_
 have hl:=h.questions.1
 refine Ok.for (fun q=>q.2) d.Questions.length (fun k q=>PB q.1 (220 * k)) 0 (Nat.zero_le _) rfl ⟨by simp,fun p hp=>by cases hp⟩ (by omega) (fun rec st hq hI=>?_) fun rec k st hk hq hI ih=>?_
 ·simp only [Kt,hq]
  rw [Ba]
  exact Ok.some (by show st.1.length≤660; have:=hI.len; omega)
 ·simp only [Kt,hq]
  rw [AK]
  refine Ok.idxn hk (Ok.bind (TO hs (h.questions.2 _ (List.getElem_mem hk))) fun x hx=>?_)
  have hxl:=hx.len
  refine Ok.for (fun q=>q.2) x.length (fun j q=>PB q.1 (220 * k + j)) 0 (Nat.zero_le _) rfl hI (by omega) (fun rec2 st2 hq2 hI2=>?_) fun rec2 j st2 hj hq2 hI2 ih2=>?_
  ·simp only [Ks,hq2]
   rw [Ba]
   exact ih _ Dv (hI2.mono (by omega))
  ·simp only [Ks,hq2]
   rw [AK]
   exact Ok.idxn hj (Ok.idxn hj (Ok.bind (hI2.raise (by omega) _ _) fun z hz=>ih2 _ Dv hz))
theorem Y2 (hs:DS s) {d:Az} (h:TE s d) {picks:List Ae} (hp:picks.length≤1000):Ok (Hu DD s d picks) fun e=>e = 0→(∀ p∈picks,fX s p)∧picks.Pairwise fun a b=>a.Column < b.Column:=by
 have hl:=h.questions.1
 unfold Hu
 refine Ok.bind (Jd hs h) fun e _=>Ok.br (fun hne=>Ok.some fun h0=>?_) fun _=>Ok.bind (Y1 hs (by omega)) fun e2 he2=>Ok.br (fun hne=>Ok.some fun h0=>?_) fun h0=>?_
 ·subst h0; cases hne
 ·subst h0; cases hne
 have hP:=he2 (by simpa using h0)
 refine Ok.for (fun q=>q) d.Questions.length (fun _ _=>True) 0 (Nat.zero_le _) rfl trivial (by omega) (fun rec q hq _=>?_) fun rec i q hi hq _ ih=>?_
 ·simp only [FN,hq]
  rw [Ba]
  exact Ok.some fun _=>hP
 ·simp only [FN,hq]
  rw [AK]
  have hQ:=h.questions.2 _ (List.getElem_mem hi)
  refine Ok.idxn hi (Ok.bind (P:=fun _=>True) ?_ fun b _=>Ok.br (fun _=>Ok.some fun h=>by cases h) fun _=>ih _ Dv trivial)
  unfold HW
  refine Ok.bind (Ma hs hQ) fun e _=>Ok.br (fun _=>Ok.bind (Y1 hs (by omega)) fun e _=>Ok.br (fun _=>Ok.bind (TO hs hQ) fun r hr=>Ok.bindE (Uq _ _ (by omega) (by have:=hr.len; omega)) (Ok.some trivial)) fun _=>Ok.some trivial) fun _=>Ok.some trivial
end Go.Proofs.YtejfnieiaecpkaaGreatDoor.P
namespace Go.Proofs.YtejfnieiaecpkaaGreatDoor.P
open Go Go.Abs Go.Proofs
set_option maxRecDepth 100000
variable {s:Aa}
theorem Y8:(Sx.all fun L=>(Bl L).all fun v=>(List.range L.Codes.length).all fun k=>(KB L v (k:Int)).isSome) = true:=by decide +kernel
theorem ZR (hs:DS s) {a:Af} {r:List Int} (hr:Nu s r) {n:Nat} (h:RC s n a) (ho:a.Op = 2∨a.Op = 3∨a.Op = 4):Ok ((idx r a.Column).bind fun x27=>(Bu s a x27).bind fun x29=>some x29) fun _=>True:=by
 have key:∀ (i:Nat) (hi:i < s.Columns.length),a.Column = (i:Int)→(∀ v,W1 s s.Columns[i] v→Ok (Bu s a v) fun _=>True)→Ok ((idx r a.Column).bind fun x27=>(Bu s a x27).bind fun x29=>some x29) fun _=>True:=by
  intro i hi e hv
  have hir:i < r.length:=by rw [hr.1]; exact hi
  rw [e]
  exact Ok.idxn hir (Ok.bind (hv _ (hr.2 i _ _ (List.getElem?_eq_getElem hi) (List.getElem?_eq_getElem hir))) fun t _=>Ok.some trivial)
 cases h with
 | under _ i hi0 hi hC L hL hL2 k h0 h1 =>
   refine key i hi rfl fun v hv=>?_
   have hv2:=hv.code hC hL2
   obtain ⟨m,rfl⟩:∃ m:Nat,k = m:=⟨k.toNat,by omega⟩
   have h3:=List.all_eq_true.1 (List.all_eq_true.1 (List.all_eq_true.1 Y8 L hL) v hv2) m (List.mem_range.2 (by omega))
   obtain ⟨b,hb⟩:=Option.isSome_iff_exists.1 h3
   unfold Bu
   refine Ok.yes rfl (Ok.idxn hi (Ok.bindE hL2 (Ok.bindE hb (Ok.br (fun _=>Ok.some trivial) fun _=>Ok.some trivial))))
 | between _ i hi0 hi hC l u h0 h1 h2 =>
   refine key i hi rfl fun v hv=>?_
   unfold Bu
   exact Ok.no rfl (Ok.yes rfl (Ok.br (fun _=>Ok.some trivial) fun _=>Ok.br (fun _=>Ok.some trivial) fun _=>Ok.some trivial))
 | miss _ i hi0 hi hC ho =>
   refine key i hi rfl fun v hv=>?_
   unfold Bu
   exact Ok.no rfl (Ok.no rfl (Ok.yes rfl (Ok.br (fun _=>Ok.some trivial) fun _=>Ok.some trivial)))
 | all=>rcases ho with h | h | h <;> cases h
 | and _ _ _ _ _=>rcases ho with h | h | h <;> cases h
 | or _ _ _ _ _=>rcases ho with h | h | h <;> cases h
 | not _ _ _=>rcases ho with h | h | h <;> cases h
theorem U7 (hs:DS s) {r:List Int} (hr:Nu s r):∀ (n d:Nat) {c:Af},RC s n c→n < d→Ok (JV d s c r) fun _=>True
 | n,d + 1,c,h,hd=>by
   show Ok (Jm d (JV d) s c r) _
   unfold Jm
   refine Ok.br (fun e=>ZR hs hr h ?_) fun e=>?_
   ·by_cases h2:c.Op = 2
    ·exact .inl h2
    ·by_cases h3:c.Op = 3
     ·exact .inr (.inl h3)
     ·refine .inr (.inr ?_)
      rw [beq_eq_false_iff_ne.2 h2,beq_eq_false_iff_ne.2 h3] at e
      exact by simpa using e
   ·have hk:=h.kids
    have hjoin:∀ b:List Int,b.length = c.Kids.length→Ok ((Gs c.Op b).bind fun x51=>some x51) fun _=>True:=by
     intro b hb
     unfold Gs
     cases h with
     | all=>exact Ok.bind (P:=fun _=>True) (Ok.no rfl (Ok.no rfl (Ok.no rfl (Ok.some trivial)))) fun _ _=>Ok.some trivial
     | and n x y _ _ =>
       have hb:b.length = 2:=hb
       refine Ok.bind (P:=fun _=>True) (Ok.no rfl (Ok.yes rfl (Ok.idxn (i:=0) (by omega) (Ok.idxn (i:=1) (by omega) (Ok.some trivial))))) fun _ _=>Ok.some trivial
     | or n x y _ _ =>
       have hb:b.length = 2:=hb
       refine Ok.bind (P:=fun _=>True) (Ok.no rfl (Ok.no rfl (Ok.yes rfl (Ok.idxn (i:=0) (by omega) (Ok.idxn (i:=1) (by omega) (Ok.some trivial)))))) fun _ _=>Ok.some trivial
     | not n x _ =>
       have hb:b.length = 1:=hb
       refine Ok.bind (P:=fun _=>True) (Ok.yes rfl (Ok.idxn (i:=0) (by omega) (Ok.some trivial))) fun _ _=>Ok.some trivial
     | under=>cases e
     | between=>cases e
     | miss=>cases e
    refine Ok.for (fun q=>q.1) c.Kids.length (fun k q=>q.2.length = k) 0 (Nat.zero_le _) rfl rfl (by omega) (fun rec q hq hI=>?_) fun rec k q hkk hq hI ih=>?_
    ·simp only [Kn,hq]
     rw [Ba]
     exact hjoin _ hI
    ·simp only [Kn,hq]
     rw [AK]
     obtain ⟨m,rfl,hm⟩:=hk.2 _ (List.getElem_mem hkk)
     refine Ok.idxn hkk (Ok.bind (U7 hs hr m d hm (by omega)) fun t _=>Ok.rm (by rw [hI]; simp; omega) (ih _ Dv ?_))
     show (q.2++[t]).length = k + 1
     rw [List.length_append,hI]; rfl
theorem ZV (hs:DS s) {r:List Int} (hr:Nu s r) {c:Af} (h:GC s c):Ok (I3 DD s c r) fun _=>True:=by
 unfold I3
 obtain ⟨n,h1,h2⟩:=h
 exact Ok.bindE (h1.rcheck hs h2 (by show n < 60; omega)) (Ok.no rfl (Ok.bindE (iE hs hr) (Ok.no rfl (Ok.bind (U7 hs hr n DD h1 (by show n < 60; omega)) fun t _=>Ok.some trivial))))
theorem dE (x:H4) (id:Int):Ok (LE x id) fun _=>True:=by
 unfold LE
 have h:Ok (K8 x) fun e=>e = 0→x.Of≠0:=by
  unfold K8
  refine Ok.br (fun _=>Ok.some fun h=>by cases h) fun hn=>Ok.some fun _ h0=>?_
  rw [h0] at hn
  cases hn
 obtain ⟨v,hv⟩:∃ v,Md x.Seed id = some v:=⟨_,rfl⟩
 refine Ok.bind h fun e he=>Ok.br (fun hb=>Ok.bindE hv (Ok.gdd ?_ (Ok.some trivial))) fun _=>Ok.some trivial
 refine he ?_
 by_cases e0:e = 0
 ·exact e0
 ·rw [beq_eq_false_iff_ne.2 e0] at hb; cases hb
theorem XX {x:BC} {n:Nat} (h:Tp x n) (hn:n≤100) {d:Az} (hd:TE x.Schema d):Ok (Gw DD x d) fun r=>r.length≤n∧∀ v∈r,∃ (i:Nat) (hi:i < x.Rows.length),v = P.hd x.Rows[i]:=by
 have hl:=h.len
 unfold Gw
 refine Ok.bindE (XW h hn) (Ok.no rfl (Ok.bind (Jd h.schema hd) fun e _=>Ok.br (fun _=>Ok.some ⟨by simp,fun v hv=>by cases hv⟩) fun _=>?_))
 unfold G3
 refine Ok.for (fun q=>q.1) x.Rows.length (fun i q=>q.2.length≤i∧∀ v∈q.2,∃ (i:Nat) (hi:i < x.Rows.length),v = P.hd x.Rows[i]) 0 (Nat.zero_le _) rfl ⟨Nat.le_refl _,fun v hv=>by cases hv⟩ (by omega) (fun rec q hq hI=>?_) fun rec i q hi hq hI ih=>?_
 ·simp only [EN,hq]
  rw [Ba]
  exact Ok.some ⟨by have:=hI.1; omega,hI.2⟩
 ·have hI1:=hI.1
  simp only [EN,hq]
  rw [AK]
  have hr:=h.rows _ (List.getElem_mem hi)
  have hne:=hr.ne h.schema
  refine Ok.idxn hi (Ok.bind (ZV h.schema hr hd.cohort) fun t _=>Ok.br (fun _=>Ok.idxn hi (Ok.bindE (FM hne) (Ok.bind (dE _ _) fun b _=>Ok.br (fun _=>Ok.idxn hi (Ok.bindE (FM hne) (Ok.rm (by simp; omega) (ih _ Dv ⟨by simp; omega,fun v hv=>?_⟩)))) fun _=>ih _ Dv ⟨by show q.2.length≤i + 1; omega,hI.2⟩))) fun _=>ih _ Dv ⟨by show q.2.length≤i + 1; omega,hI.2⟩)
  rcases List.mem_append.1 hv with hv | hv
  ·exact hI.2 v hv
  ·rw [List.mem_singleton] at hv
   exact ⟨i,hi,hv⟩
theorem Tm {x:BC} {n:Nat} (h:Tp x n) (hn:n≤100) {d:Az} (hd:TE x.Schema d) {picks:List Ae} (hp:picks.length≤1000) (sec:Int):Ok (EX DD x d picks sec) fun r=>GX x.Schema r.1∨r.1 = VE:=by
 have hs:=h.schema
 have hc:=hs.cols_length
 unfold EX
 refine Ok.bindE (XW h hn) (Ok.no rfl (Ok.bind (Y2 hs hd hp) fun e he=>Ok.br (fun _=>Ok.some (.inr rfl)) fun h0=>Ok.br (fun _=>Ok.some (.inr rfl)) fun hsec=>Ok.rm (by omega) (Ok.bind (XX h hn hd) fun own hown=>?_)))
 obtain ⟨hP,hO⟩:=he (by simpa using h0)
 have hs2:0≤sec∧sec < 1152921504606846976:=by
  by_cases e1:sec < 0
  ·rw [decide_eq_true e1] at hsec; cases hsec
  ·rw [decide_eq_false e1,cond_false] at hsec
   have:=of_decide_eq_false hsec
   omega
 have hol:=hown.1
 refine Ok.for (fun q=>q.1) own.length (fun i q=>(∀ r∈q.2,r.length = picks.length + 1∧0≤P.hd r∧P.hd r≤1048575∧∀ (k:Nat) p v,picks[k]? = some p→r[k + 1]? = some v→XV x.Schema p v)∧f6 q.2∧q.2.length≤i) 0 (Nat.zero_le _) rfl ⟨(fun r hr=>by cases hr),List.Pairwise.nil,Nat.zero_le _⟩ (by omega) (fun rec q hq hI=>?_) fun rec i q hi hq hI ih=>?_
 ·simp only [FC,hq]
  rw [Ba]
  refine Ok.some (.inl ⟨hd.project,?_,hP,hO,hI.1,hI.2.1,by show q.2.length≤200; have:=hI.2.2; omega⟩)
  show 0≤x.Version∧x.Version≤300
  rw [h.version]
  exact ⟨Int.le_refl _,by omega⟩
 ·obtain ⟨h1,h2,h3⟩:=hI
  simp only [FC,hq]
  rw [AK]
  obtain ⟨j,hj,ej⟩:=hown.2 _ (List.getElem_mem hi)
  have hr:=h.rows _ (List.getElem_mem hj)
  have hh:=hr.hd hs
  refine Ok.idxn hi ?_
  rw [ej]
  refine Ok.bindE (gN h hn hj) (Ok.idxn hj (Ok.idxn hi ?_))
  rw [ej]
  refine Ok.bind (fe hs2.1 hs2.2 (by omega) (by omega)) fun key hkey=>?_
  refine Ok.for (fun q=>q.1) picks.length (fun k q=>q.2.length = k + 1∧P.hd q.2 = key∧∀ (m:Nat) p v,m < k→picks[m]? = some p→q.2[m + 1]? = some v→XV x.Schema p v) 0 (Nat.zero_le _) rfl ⟨rfl,rfl,fun m p v hm=>by omega⟩ (by omega) (fun rec2 q2 hq2 hI2=>?_) fun rec2 k q2 hk hq2 hI2 ih2=>?_
  ·simp only [FL,hq2]
   rw [Ba]
   obtain ⟨g1,g2,g3⟩:=hI2
   have hne2:∀ r∈q.2,r≠[]:=fun r hr e=>by have:=(h1 r hr).1; rw [e] at this; simp at this
   have hne3:q2.2≠[]:=fun e=>by rw [e] at g1; simp at g1
   refine Ok.bindE (Yl hne2 hne3 h2 (by omega)) (ih _ Dv ⟨fun r hr=>?_,Rn h2,?_⟩)
   ·rcases R7 hr with rfl | hr
    ·refine ⟨g1,by rw [g2]; exact hkey.1,by rw [g2]; exact hkey.2,fun m p v hm hv=>g3 m p v ?_ hm hv⟩
     exact (List.getElem?_eq_some_iff.1 hm).1
    ·exact h1 r hr
   ·have:=K4 q.2 q2.2
    show (IS q.2 _).length≤i + 1
    omega
  ·obtain ⟨g1,g2,g3⟩:=hI2
   simp only [FL,hq2]
   rw [AK]
   obtain ⟨m,m1,m2,m3,m4,m5⟩:=hP _ (List.getElem_mem hk)
   have hmr:m < x.Rows[j].length:=by rw [hr.1]; exact m2
   have hV:=hr.2 m _ _ (List.getElem?_eq_getElem m2) (List.getElem?_eq_getElem hmr)
   refine Ok.idxn hk (Ok.idxn hk (Ok.idxn hk ?_))
   rw [m3]
   refine Ok.idxn hmr (Ok.bindE (Ru hs m1 m2 m4 m5 hV) (Ok.rm (by rw [g1]; simp; omega) (ih2 _ Dv ⟨by show (q2.2++[_]).length = _; rw [List.length_append,g1]; rfl,?_,fun z p v hz hp2 hv=>?_⟩)))
   ·show P.hd (q2.2++[_]) = key
    rw [← g2]
    cases e:q2.2 with
    | nil=>rw [e] at g1; simp at g1
    | cons a b=>rfl
   ·by_cases e:z = k
    ·subst e
     rw [List.getElem?_eq_getElem hk] at hp2
     obtain rfl:=Option.some.inj hp2
     have hv:(q2.2++[CV x.Schema x.Schema.Columns[m] picks[z].Level x.Rows[j][m]])[z + 1]? = some v:=hv
     rw [List.getElem?_append_right (by omega),g1,Nat.sub_self] at hv
     obtain rfl:=Option.some.inj hv
     exact ⟨m,m2,_,m1,m3,hV,rfl⟩
    ·have hv:(q2.2++[CV x.Schema x.Schema.Columns[m] picks[k].Level x.Rows[j][m]])[z + 1]? = some v:=hv
     rw [List.getElem?_append_left (by omega)] at hv
     exact g3 z p v (by omega) hp2 hv
end Go.Proofs.YtejfnieiaecpkaaGreatDoor.P
namespace Go.Proofs.YtejfnieiaecpkaaGreatDoor.P
open Go Go.Abs Go.Proofs
set_option maxRecDepth 100000
variable {s:Aa}
theorem ZM {c:Ab} (hc:Hc c) (hs:DS s) (m:Int):Ok (F8 c s m) fun r=>Hc r.2∧r.1.length≤10:=by
 unfold F8
 refine Ok.bind (U6 hs) fun l hl=>?_
 obtain ⟨_,hl,_⟩:=hl
 refine Ok.for (fun q=>q.1) l.length (fun k q=>Hc q.2.1∧q.2.2.length≤k) 0 (Nat.zero_le _) rfl ⟨hc,Nat.le_refl _⟩ (by omega) (fun rec q hq hI=>?_) fun rec k q hk hq hI ih=>?_
 ·simp only [F2,hq]
  rw [Ba]
  exact Ok.some ⟨hI.1,by have:=hI.2; show q.2.2.length≤10; omega⟩
 ·have h2:=hI.2
  simp only [F2,hq]
  rw [AK]
  refine Ok.idxn hk (Ok.br (fun _=>Ok.br (fun _=>Ok.idxn hk (Ok.rm (by simp; omega) (ih _ Dv ⟨hI.1,by simp; omega⟩))) fun _=>Ok.bind (NE hI.1 (by omega) (by omega)) fun z hz=>Ok.br (fun _=>Ok.idxn hk (Ok.rm (by simp; omega) (ih _ Dv ⟨hz,by simp; omega⟩))) fun _=>ih _ Dv ⟨hz,by show q.2.2.length≤k + 1; omega⟩) fun _=>ih _ Dv ⟨hI.1,by show q.2.2.length≤k + 1; omega⟩)
theorem WJ (hs:DS s) {c:Ab} (hc:Hc c) {v:Int} (hv:∃ i:Nat,v = i∧1≤i∧∃ hi:i < s.Columns.length,HD s.Columns[i]) {b:List Ae} {k:Nat} (hk:k≤10) (hb:b.length≤k∧∀ p∈b,iP s p) {ρ:Type} {Q:ρ→Prop} {f:Ab→List Ae→Option ρ}
 (h:∀ c b,Hc c→(b.length≤k + 1∧∀ p∈b,iP s p)→Ok (f c b) Q) :
 Ok ((BB s v).bind fun x34=>(A6 c (IntKind.i64.wrap (x34 + 1))).bind fun x36=>bif P.rm b.length [({ Column:=v,Level:=x36.1 }:Ae)].length then f x36.2 (b++[({ Column:=v,Level:=x36.1 }:Ae)]) else none) Q:=by
 obtain ⟨i,rfl,h1,h2,_⟩:=hv
 have hf:=hs.fin_ok h1 h2
 refine Ok.bindE (hs.rfinest h1 h2) ?_
 have e:IntKind.i64.wrap (fin s i + 1) = fin s i + 1:=wr
 rw [e]
 refine Ok.bind (Dy hc (by omega) (by omega)) fun z hz=>Ok.rm (by simp; omega) (h _ _ hz.1 ⟨by simp; omega,fun p hp=>?_⟩)
 rcases List.mem_append.1 hp with hp | hp
 ·exact hb.2 p hp
 ·rw [List.mem_singleton] at hp; subst hp
  exact ⟨i,h1,h2,rfl,hz.2.1,by show z.1≤fin s i; omega⟩
theorem cS {c:Ab} (hc:Hc c) (hs:DS s):Ok (CW c s) fun r=>Hc r.2∧r.1.length≤10∧∀ p∈r.1,iP s p:=by
 unfold CW
 refine Ok.bind (Uw hs) fun l hl=>Ok.bind (NE hc (by omega) (by omega)) fun y hy=>?_
 obtain ⟨hne,hl,hm⟩:=hl
 have hpos:=List.length_pos_iff.2 hne
 refine Ok.br (fun _=>Ok.bind (Dy hy (by omega) (by omega)) fun z hz=>Ok.gdd (by omega) ?_) fun _=>?_
 ·have hcl:(O1 l z.1 ((l.length:Nat):Int)).length≤6:=by unfold O1; rw [List.length_take,List.length_drop]; omega
  refine Ok.for (fun q=>q.1) (O1 l z.1 ((l.length:Nat):Int)).length (fun k q=>Hc q.2.1∧q.2.2.length≤k∧∀ p∈q.2.2,iP s p) 0 (Nat.zero_le _) rfl ⟨hz.1,Nat.le_refl _,fun p hp=>by cases hp⟩ (by omega) (fun rec q hq hI=>?_) fun rec k q hk hq hI ih=>?_
  ·simp only [Gy,hq]
   rw [Ba]
   exact Ok.some ⟨hI.1,by have:=hI.2.1; show q.2.2.length≤10; omega,hI.2.2⟩
  ·simp only [Gy,hq]
   rw [AK]
   have hmem:(O1 l z.1 ((l.length:Nat):Int))[k]∈l:=List.mem_of_mem_drop (List.mem_of_mem_take (List.getElem_mem hk))
   exact Ok.idxn hk (Ok.idxn hk (WJ hs hI.1 (hm _ hmem) (by omega) hI.2 (f:=fun c b=>rec (IntKind.i64.wrap ((k:Int) + 1),c,b)) fun c b hc hb=>ih (IntKind.i64.wrap ((k:Int) + 1),c,b) Dv ⟨hc,hb⟩))
 ·refine Ok.for (fun q=>q.1) l.length (fun k q=>Hc q.2.1∧q.2.2.length≤k∧∀ p∈q.2.2,iP s p) 0 (Nat.zero_le _) rfl ⟨hy,Nat.le_refl _,fun p hp=>by cases hp⟩ (by omega) (fun rec q hq hI=>?_) fun rec k q hk hq hI ih=>?_
  ·simp only [Ga,hq]
   rw [Ba]
   exact Ok.some ⟨hI.1,by have:=hI.2.1; show q.2.2.length≤10; omega,hI.2.2⟩
  ·simp only [Ga,hq]
   rw [AK]
   exact Ok.idxn hk (Ok.idxn hk (WJ hs hI.1 (hm _ (List.getElem_mem hk)) (by omega) hI.2 (f:=fun c b=>rec (IntKind.i64.wrap ((k:Int) + 1),c,b)) fun c b hc hb=>ih (IntKind.i64.wrap ((k:Int) + 1),c,b) Dv ⟨hc,hb⟩))
theorem Q2 {c:Ab} (hc:Hc c) (hs:DS s) {nm:ByteArray} (hn:Ok (BW nm) fun _=>True):Ok (Do DD c s nm) fun r=>Hc r.2∧gR s r.1:=by
 unfold Do
 refine Ok.bind (Dy hc (by omega) (by omega)) fun x hx=>?_
 obtain ⟨n,hn2⟩:∃ n:Nat,x.1 = n:=⟨x.1.toNat,by omega⟩
 rw [hn2]
 refine Ok.bind (PV hs n DD hx.1 (by show n < 60; omega) (by omega)) fun f hf=>Ok.bind (Mt hf.1 hs) fun m hm=>Ok.bind (Dy hm.1 (by omega) (by omega)) fun y hy=>?_
 have hF:GC s f.1:=GC.drawn hf.2 (by omega)
 have table:∀ {c:Ab},Hc c→∀ ms:Int,Ok ((CW c s).bind fun x60=>some (({ Name:=nm,Kind:=1,Filter:=f.1,Dims:=x60.1,Measure:=ms,Terms:=[],Event:=({ Op:=0,Column:=0,Code:=0,Low:=0,High:=0,Kids:=[] }:Af) }:AG),x60.2)) fun r=>Hc r.2∧gR s r.1:=fun hc ms =>
  Ok.bind (cS hc hs) fun d hd=>Ok.some ⟨hd.1,hn,hF,.inl ⟨by show (1:Int)≠3; decide,rfl⟩,hd.2,by simp⟩
 refine Ok.br (fun _=>table hy.1 _) fun _=>Ok.br (fun _=>Ok.bind (ZM hy.1 hs _) fun t ht=>Ok.br (fun _=>Ok.some ⟨ht.1,hn,hF,.inl ⟨by show (2:Int)≠3; decide,rfl⟩,⟨by simp,fun p hp=>by cases hp⟩,ht.2⟩) fun _=>table ht.1 _) fun _=>Ok.br (fun _=>?_) fun _=>table hy.1 _
 obtain ⟨i,e,hi0,hi,hM⟩:=hm.2
 rw [e]
 refine Ok.idxn hi (Ok.br (fun _=>Ok.bind (PV hs 1 DD hy.1 (by decide) (by omega)) fun v hv=>Ok.some ⟨hv.1,hn,hF,.inr (GC.drawn hv.2 (by omega)),⟨by simp,fun p hp=>by cases hp⟩,by simp⟩) fun _=>table hy.1 _)
theorem XZ {n:Int} (h0:0≤n) (h1:n < 100):CY n = some ⟨(Go.Lib.decDigits n.toNat).toArray⟩:=by
 unfold CY
 rw [decide_eq_true ⟨h0,h1⟩]; rfl
theorem hX:∀ n:Nat,n < 3→BW (({ data:=#[112] }:ByteArray)++(⟨(Go.Lib.decDigits n).toArray⟩:ByteArray)) = some true∧Ef (({ data:=#[112] }:ByteArray)++(⟨(Go.Lib.decDigits n).toArray⟩:ByteArray)) = some true∧(⟨(Go.Lib.decDigits n).toArray⟩:ByteArray).size = 1:=by
 intro n hn
 rcases (by omega:n = 0∨n = 1∨n = 2) with rfl | rfl | rfl <;> exact ⟨by decide +kernel,by decide +kernel,by decide +kernel⟩
theorem gO:∀ n:Nat,1≤n→n < 4→BW (({ data:=#[113] }:ByteArray)++(⟨(Go.Lib.decDigits n).toArray⟩:ByteArray)) = some true∧(⟨(Go.Lib.decDigits n).toArray⟩:ByteArray).size = 1:=by
 intro n h1 hn
 rcases (by omega:n = 1∨n = 2∨n = 3) with rfl | rfl | rfl <;> exact ⟨by decide +kernel,by decide +kernel⟩
theorem g9:BW ({ data:=#[115,114,99] }:ByteArray) = some true:=by decide +kernel
theorem bB {c:Ab} (hc:Hc c) (hs:DS s) {n:Nat} (hn:n < 3) {x15:Int × Ab} {k:Af} (hk:GC s k):Ok (BZ DD s ⟨(Go.Lib.decDigits n).toArray⟩ x15 c k.Op k.Column k.Code k.Low k.High k.Kids) fun r=>Hc r.2∧TE s r.1:=by
 have hP:=hX n hn
 have ek:Af.mk k.Op k.Column k.Code k.Low k.High k.Kids = k:=by cases k; rfl
 have fin:∀ (co:Af) (_:co = k) (smp:H4) (qs:List AG),qs.length≤3→(∀ q∈qs,gR s q)→TE s ({ Project:=(({ data:=#[112] }:ByteArray)++(⟨(Go.Lib.decDigits n).toArray⟩:ByteArray)),Source:=({ data:=#[115,114,99] }:ByteArray),Cohort:=co,Sample:=smp,Questions:=qs }:Az) :=
  fun co hco smp qs hl hq=>⟨⟨hP.1,hP.2.1⟩,(Ok.eq g9).any,by rw [hco]; exact hk,hl,hq⟩
 unfold BZ
 refine Ok.bind (NE hc (by omega) (by omega)) fun x hx=>Ok.br (fun _=>Ok.bind (G6 hx (by omega) (by omega) (by omega) (by omega)) fun y hy=>Ok.bind (G6 hy.1 (by omega) (by omega) (by omega) (by omega)) fun z hz=>Ok.bind (G6 hz.1 (by omega) (by omega) (by omega) (by omega)) fun u hu=>?_) fun _=>Ok.bind (G6 hx (by omega) (by omega) (by omega) (by omega)) fun u hu=>?_
 ·refine Ok.loop (fun q=>0≤q.1∧Hc q.2.1∧(∀ x∈q.2.2,gR s x)∧(q.2.2.length:Int) + q.1≤3) (fun q=>q.1.toNat) ⟨by show 0≤u.1; omega,hu.1,(fun x hx=>by cases hx),by show ((0:Nat):Int) + u.1≤3; omega⟩ (by unfold A8; show u.1.toNat < _; omega) fun rec q hI ih=>?_
  obtain ⟨h0,h1,h2,h3⟩:=hI
  simp only [EI]
  refine Ok.brd (fun hp=>Ok.bindE (XZ (by omega) (by omega)) ?_) fun hp=>?_
  ·have hQ:=gO q.1.toNat (by omega) (by omega)
   have e1:IntKind.i64.wrap (q.1 - 1) = q.1 - 1:=wr
   refine Ok.gdd (by rw [hQ.2]; decide) (Ok.bind (Q2 h1 hs (Ok.eq hQ.1).any) fun w hw=>Ok.rm (by simp; omega) (ih _ ⟨by show 0≤IntKind.i64.wrap (q.1 - 1); omega,hw.1,fun x hx=>?_,by show (((q.2.2++[w.1]).length:Nat):Int) + IntKind.i64.wrap (q.1 - 1)≤3; rw [e1]; simp; omega⟩ (by show (IntKind.i64.wrap (q.1 - 1)).toNat < q.1.toNat; omega)))
   rcases List.mem_append.1 hx with hx | hx
   ·exact h2 x hx
   ·rw [List.mem_singleton] at hx; subst hx; exact hw.2
  ·unfold Dw
   exact Ok.some ⟨h1,fin _ ek _ _ (by omega) h2⟩
 ·refine Ok.loop (fun q=>0≤q.1∧Hc q.2.1∧(∀ x∈q.2.2,gR s x)∧(q.2.2.length:Int) + q.1≤3) (fun q=>q.1.toNat) ⟨by show 0≤u.1; omega,hu.1,(fun x hx=>by cases hx),by show ((0:Nat):Int) + u.1≤3; omega⟩ (by unfold A8; show u.1.toNat < _; omega) fun rec q hI ih=>?_
  obtain ⟨h0,h1,h2,h3⟩:=hI
  simp only [EH]
  refine Ok.brd (fun hp=>Ok.bindE (XZ (by omega) (by omega)) ?_) fun hp=>?_
  ·have hQ:=gO q.1.toNat (by omega) (by omega)
   have e1:IntKind.i64.wrap (q.1 - 1) = q.1 - 1:=wr
   refine Ok.gdd (by rw [hQ.2]; decide) (Ok.bind (Q2 h1 hs (Ok.eq hQ.1).any) fun w hw=>Ok.rm (by simp; omega) (ih _ ⟨by show 0≤IntKind.i64.wrap (q.1 - 1); omega,hw.1,fun x hx=>?_,by show (((q.2.2++[w.1]).length:Nat):Int) + IntKind.i64.wrap (q.1 - 1)≤3; rw [e1]; simp; omega⟩ (by show (IntKind.i64.wrap (q.1 - 1)).toNat < q.1.toNat; omega)))
   rcases List.mem_append.1 hx with hx | hx
   ·exact h2 x hx
   ·rw [List.mem_singleton] at hx; subst hx; exact hw.2
  ·unfold Dx
   exact Ok.some ⟨h1,fin _ ek _ _ (by omega) h2⟩
theorem S5 {c:Ab} (hc:Hc c) (hs:DS s):Ok (Dg DD c s) fun r=>Hc r.2∧TE s r.1:=by
 unfold Dg
 refine Ok.bind (Dy hc (by omega) (by omega)) fun x hx=>?_
 obtain ⟨n,hn⟩:∃ n:Nat,x.1 = n:=⟨x.1.toNat,by omega⟩
 rw [hn]
 have hn3:n < 3:=by omega
 refine Ok.bindE (XZ (by omega) (by omega)) (Ok.gdd ?_ (Ok.bind (PV hs 1 DD hx.1 (by decide) (by omega)) fun k hk=>Ok.bind (Dy hk.1 (by omega) (by omega)) fun y hy=>Ok.bind (NE hy.1 (by omega) (by omega)) fun z hz=>Ok.br (fun _=>?_) fun _=>?_))
 ·rw [Int.toNat_natCast,(hX n hn3).2.2]; decide
 ·exact bB hz hs hn3 (k:=QI) GC.all
 ·exact bB hz hs hn3 (GC.drawn hk.2 (by omega))
theorem Qb {c:Ab} (hc:Hc c) {n:Nat} (hn:n≤50) {y:Aa × Ab} (hy:CG c = some y):Ok (Ck c n) fun r=>Hc r.2∧Tp r.1 n∧r.1.Schema = y.1:=by
 obtain ⟨r,hr,h1,h2⟩:=dr hc hn
 refine ⟨r,hr,h1,h2,?_⟩
 have hgo:Ok (Ck c n) fun r=>r.1.Schema = y.1:=by
  obtain ⟨z,hz,hz2⟩:=Td hc
  rw [hy] at hz
  cases hz
  unfold Ck
  refine Ok.bindE hy ?_
  have e:IntKind.i64.wrap ((n:Int) + 1) = (n:Int) + 1:=wr
  rw [e]
  refine Ok.bind (Dy hz2.1 (by omega) (by omega)) fun u hu=>?_
  obtain ⟨hu1,hu2,hu3⟩:=hu
  refine Ok.loop (fun q=>0≤q.1∧Hc q.2.1∧(∀ r∈q.2.2,Nu y.1 r)∧f6 q.2.2∧(q.2.2.length:Int) + q.1≤n) (fun q=>q.1.toNat) ⟨hu2,hu1,(fun r hr=>by cases hr),List.Pairwise.nil,by show ((0:Nat):Int) + u.1≤n; omega⟩ (by unfold A8; show u.1.toNat < _; omega) fun rec q hq ih=>?_
  obtain ⟨h0,h1,h2,h3,h4⟩:=hq
  simp only [Fo]
  refine Ok.brd (fun hp=>Ok.bind (e9 hz2.2 h1) fun z hz=>?_) fun hp=>?_
  ·have hput:=Yl (l:=q.2.2) (row:=z.1) (fun r hr=>(h2 r hr).ne hz2.2) (hz.2.ne hz2.2) h3 (by omega)
   have hpl:=K4 q.2.2 z.1
   refine Ok.bindE hput (ih _ ⟨?_,hz.1,fun r hr=>?_,Rn h3,?_⟩ ?_)
   ·show 0≤IntKind.i64.wrap (q.1 - 1); rw [wr]; omega
   ·rcases R7 hr with rfl | hr
    ·exact hz.2
    ·exact h2 r hr
   ·show ((IS q.2.2 z.1).length:Int) + IntKind.i64.wrap (q.1 - 1)≤n; rw [wr]; omega
   ·show (IntKind.i64.wrap (q.1 - 1)).toNat < q.1.toNat; rw [wr]; omega
  ·exact Ok.some rfl
 obtain ⟨r',hr',h3⟩:=hgo
 rw [hr] at hr'
 obtain rfl:=Option.some.inj hr'
 exact h3
theorem XN {c:Ab} (hc:Hc c) {n:Nat} (hn:n≤50) {y:Aa × Ab} (hy:CG c = some y):Ok (FB DD c n) fun r=>DS y.1∧r.1.Schema = y.1∧GX y.1 r.2.1∧Hc r.2.2:=by
 unfold FB
 refine Ok.bind (Qb hc hn hy) fun x hx=>Ok.bindE (fq hx.2.1.schema) (Ok.bind (S2 hx.1) fun w hw=>Ok.bind (dI hx.2.1 (by omega) hw.2.1 hw.2.2) fun z hz=>Ok.some ⟨?_,hx.2.2,?_,hw.1⟩)
 ·rw [← hx.2.2]; exact hx.2.1.schema
 ·rw [← hx.2.2]; exact hz.gx hx.2.1.schema (by omega)
theorem Vn {c:Ab} (hc:Hc c) {n:Nat} (hn:n≤50) {y:Aa × Ab} (hy:CG c = some y):Ok (E1 DD c n) fun r=>GX y.1 r.2.2.1∨r.2.2.1 = VE:=by
 unfold E1
 refine Ok.bind (Qb hc hn hy) fun x hx=>?_
 have hs:=hx.2.1.schema
 have hcl:=hs.cols_length
 refine Ok.bind (S5 hx.1 hs) fun d hd=>Ok.bind (af hs hd.2) fun p hp=>Ok.bind (NE hd.1 (by omega) (by omega)) fun o ho=>Ok.br (fun _=>Ok.bindE (fq hs) (Ok.bind (S2 ho) fun w hw=>Ok.bind (Tm hx.2.1 (by omega) hd.2 (by rw [Ij]; omega) _) fun z hz=>Ok.some ?_)) fun _=>Ok.bind (S2 ho) fun w hw=>Ok.bind (Tm hx.2.1 (by omega) hd.2 (by omega) _) fun z hz=>Ok.some ?_
 ·rw [← hx.2.2]; exact hz
 ·rw [← hx.2.2]; exact hz
end Go.Proofs.YtejfnieiaecpkaaGreatDoor.P
namespace Go.Proofs.YtejfnieiaecpkaaGreatDoor.P
open Go Go.Abs Go.Proofs
set_option maxRecDepth 100000
variable {s:Aa}
theorem Yw:∀ (d:Nat) (c:Af),nds d c≤d→d≤1000→Ok (Cv d c) fun r=>1≤r∧r≤nds d c∧∀ k:Nat,r≤k + 1→DP k c
 | 0,c,h,_=>by have:=PW 0 c; omega
 | d + 1,c,h,hd=>by
   have hn:nds (d + 1) c = 1 + (c.Kids.map (nds d)).sum:=rfl
   have hkl:=Uj (d:=d) c.Kids c.Kids.length (Nat.le_refl _)
   rw [List.take_length] at hkl
   show Ok (Dc d (Cv d) c) _
   unfold Dc
   refine Ok.for (fun q=>q.2) c.Kids.length (fun k q=>0≤q.1∧q.1≤(((c.Kids.take k).map (nds d)).sum:Nat)∧∀ (j:Nat) (hj:j < c.Kids.length),j < k→1≤q.1∧∀ m:Nat,q.1≤m + 1→DP m c.Kids[j]) 0 (Nat.zero_le _) rfl ⟨Int.le_refl _,by simp,fun j _ hj=>by omega⟩ (by omega) (fun rec q hq hI=>?_) fun rec k q hk hq hI ih=>?_
   ·obtain ⟨h0,h1,h2⟩:=hI
    rw [List.take_length] at h1
    simp only [Ec,hq]
    rw [Ba,wr]
    refine Ok.some ⟨by omega,by omega,fun k hk=>?_⟩
    cases k with
    | zero =>
      cases e:c.Kids with
      | nil=>exact e
      | cons a r=>have:=(h2 0 (by rw [e]; simp) (by rw [e]; simp)).1; omega
    | succ m =>
      intro x hx
      obtain ⟨j,hj,rfl⟩:=List.mem_iff_getElem.1 hx
      exact (h2 j hj hj).2 m (by omega)
   ·obtain ⟨h0,h1,h2⟩:=hI
    have h3:=Nh (d:=d) hk
    have h4:=IM (d:=d) c.Kids (k + 1)
    have h5:c.Kids.length ≥ 1:=by omega
    simp only [Ec,hq]
    rw [AK]
    refine Ok.idxn hk (Ok.bind (Yw d c.Kids[k] (by omega) (by omega)) fun r hr=>ih _ Dv ?_)
    obtain ⟨r1,r2,r3⟩:=hr
    show 0≤(if r > q.1 then r else q.1)∧(if r > q.1 then r else q.1)≤_∧∀ (j:Nat) (hj:j < c.Kids.length),j < k + 1→1≤(if r > q.1 then r else q.1)∧∀ m:Nat,(if r > q.1 then r else q.1)≤m + 1→DP m c.Kids[j]
    refine ⟨by split <;> omega,by split <;> omega,fun j hj hjk=>?_⟩
    by_cases e:j = k
    ·subst e
     exact ⟨by split <;> omega,fun m hm=>r3 m (by split at hm <;> omega)⟩
    ·have:=h2 j hj (by omega)
     exact ⟨by split <;> omega,fun m hm=>this.2 m (by split at hm <;> omega)⟩
inductive C1 (s:Aa):Af→Prop
 | all:C1 s QI
 | under (i:Nat) (hi0:1≤i) (hi:i < s.Columns.length) (h:HD s.Columns[i]) (L:Am) (hL:L∈Sx) (hL2:idx s.Lists s.Columns[i].List_ = some L) (k:Int) (h0:0≤k) (h1:k < L.Codes.length):C1 s { Op:=2,Column:=i,Code:=k,Low:=0,High:=0,Kids:=[] }
 | between (i:Nat) (hi0:1≤i) (hi:i < s.Columns.length) (h:CS s.Columns[i]) (l u:Int) (h0:-1000000≤l) (h1:l≤u) (h2:u≤1000000):C1 s { Op:=3,Column:=i,Code:=0,Low:=l,High:=u,Kids:=[] }
 | miss (i:Nat) (hi0:1≤i) (hi:i < s.Columns.length) (h:CS s.Columns[i]) (ho:s.Columns[i].Optional = true):C1 s { Op:=4,Column:=i,Code:=0,Low:=0,High:=0,Kids:=[] }
 | two (op:Int) (ho:op = 5∨op = 6) (a b:Af):C1 s { Op:=op,Column:=0,Code:=0,Low:=0,High:=0,Kids:=[a,b] }
 | not (a:Af):C1 s { Op:=7,Column:=0,Code:=0,Low:=0,High:=0,Kids:=[a] }
def WS (s:Aa) (c:Af) (self:Aa→Af→Option Int):Option Int:=iter (fun rec1 s_1=>Fp c self s (fun v7_1=>some 0) rec1 s_1) A8 0
theorem aW (s:Aa) (m k:Int):(∃ (i:Nat) (hi:i < s.Columns.length),m = i∧F7 s m k = some (s.Columns[i].Kind==k))∨((m < 0∨m ≥ s.Columns.length)∧F7 s m k = some false):=by
 by_cases h:0≤m∧m < s.Columns.length
 ·obtain ⟨i,rfl⟩:∃ i:Nat,m = i:=⟨m.toNat,by omega⟩
  exact .inl ⟨i,by omega,rfl,bk (by omega) k⟩
 ·refine .inr ⟨by omega,?_⟩
  unfold F7
  by_cases h0:m ≥ 0
  ·rw [decide_eq_true h0,cond_true,df]; rfl
  ·rw [decide_eq_false h0]; rfl
theorem bD {l:List Af} (h:((l.length:Nat):Int) = 0):l = []:=List.eq_nil_of_length_eq_zero (by omega)
theorem ja {l:List Af} (h:((l.length:Nat):Int) = 1):∃ a,l = [a]:=by
 match l,h with
 | [a],_=>exact ⟨a,rfl⟩
theorem gQ {l:List Af} (h:((l.length:Nat):Int) = 2):∃ a b,l = [a,b]:=by
 match l,h with
 | [a,b],_=>exact ⟨a,b,rfl⟩
theorem VC {x:Int} (h:x≠0):(x != 0) = true:=bne_iff_ne.2 h
theorem Wc {x:Int} (h:x≠0):(x==0) = false:=beq_eq_false_iff_ne.2 h
theorem ZI {l:List Af} (h:l.length≠0):(((l.length:Nat):Int) != 0) = true:=bne_iff_ne.2 (by omega)
theorem gK (hs:DS s) (d:Nat) (self:Aa→Af→Option Int) (c:Af):∃ e,AR s c = some e∧CU d self s c = (bif e != 0 then some e else WS s c self)∧(e = 0→C1 s c):=by
 obtain ⟨op,col,code,lo,hi,kids⟩:=c
 have form:∀ (n c' k' l' h':Int),(bif (bif (bif (bif (((kids.length:Nat):Int) != n) then true else (c' != col)) then true else (k' != code)) then true else (l' != lo)) then true else (h' != hi)) = decide ¬ (((kids.length:Nat):Int) = n∧c' = col∧k' = code∧l' = lo∧h' = hi):=by
  intro n c' k' l' h'
  by_cases e1:((kids.length:Nat):Int) = n <;> by_cases e2:c' = col <;> by_cases e3:k' = code <;> by_cases e4:l' = lo <;> by_cases e5:h' = hi <;> simp [e1,e2,e3,e4,e5]
 by_cases hop:op < 1∨op > 7
 ·refine ⟨4,?_,?_,fun h=>by cases h⟩
  ·unfold AR
   rcases hop with h | h
   ·simp [h]
   ·simp [h]
  ·unfold CU
   have:(op==1) = false∧(op==2) = false∧(op==3) = false∧(op==4) = false∧(op==5) = false∧(op==6) = false∧(op==7) = false:=by
    refine ⟨?_,?_,?_,?_,?_,?_,?_⟩ <;> exact beq_eq_false_iff_ne.2 (by omega)
   obtain ⟨a1,a2,a3,a4,a5,a6,a7⟩:=this
   simp only [a1,a2,a3,a4,a5,a6,a7,cond_false]
   rfl
 have plainOp:∀ n:Int,(op = 1∧n = 0)∨(op = 5∧n = 2)∨(op = 6∧n = 2)∨(op = 7∧n = 1)→∃ e,AR s ⟨op,col,code,lo,hi,kids⟩ = some e∧AC ⟨op,col,code,lo,hi,kids⟩ s self n 0 0 0 0 = (bif e != 0 then some e else WS s ⟨op,col,code,lo,hi,kids⟩ self)∧(e = 0→((kids.length:Nat):Int) = n∧col = 0∧code = 0∧lo = 0∧hi = 0):=by
  intro n hon
  have hkids:JC op = some n:=by rcases hon with ⟨rfl,rfl⟩ | ⟨rfl,rfl⟩ | ⟨rfl,rfl⟩ | ⟨rfl,rfl⟩ <;> rfl
  have hrange:(bif decide (op < 1) then true else decide (op > 7)) = false:=by
   rw [df,df]; rfl
  have n2:(op==2) = false:=beq_eq_false_iff_ne.2 (by omega)
  have n3:(op==3) = false:=beq_eq_false_iff_ne.2 (by omega)
  have n4:(op==4) = false:=beq_eq_false_iff_ne.2 (by omega)
  have m2:(op != 2) = true:=by rw [bne,n2]; rfl
  have m3:(op != 3) = true:=by rw [bne,n3]; rfl
  have m4:(op != 4) = true:=by rw [bne,n4]; rfl
  by_cases hok:((kids.length:Nat):Int) = n∧0 = col∧0 = code∧0 = lo∧0 = hi
  ·obtain ⟨h1,rfl,rfl,rfl,rfl⟩:=hok
   refine ⟨0,?_,?_,fun _=>⟨h1,rfl,rfl,rfl,rfl⟩⟩
   ·unfold AR C3
    simp [hrange,hkids,h1,n2,n3,n4,m2,m3,m4]
   ·unfold AC Bv BL
    rw [form,decide_eq_false (by simp [h1])]
    simp only [n2,n3,n4,cond_false]
    rfl
  ·refine ⟨11,?_,?_,fun h=>by cases h⟩
   ·unfold AR
    dsimp only
    rw [hrange,cond_false,hkids,Option.bind_some]
    by_cases e1:((kids.length:Nat):Int) = n
    ·have hu:C3 ⟨op,col,code,lo,hi,kids⟩ = some false:=by
      unfold C3
      dsimp only
      rw [n2,n3,n4,m2]
      by_cases e2:col = 0
      ·subst e2
       by_cases e3:code = 0
       ·subst e3
        by_cases e4:lo = 0
        ·subst e4
         rw [Wc fun e5=>hok ⟨e1,rfl,rfl,rfl,e5.symm⟩]; rfl
        ·rw [Wc e4]; rfl
       ·rw [VC e3]; rfl
      ·rw [VC e2]; rfl
     rw [show (((kids.length:Nat):Int) != n) = false by simp [e1],cond_false,hu]
     rfl
    ·rw [show (((kids.length:Nat):Int) != n) = true by simp [e1]]
     rfl
   ·unfold AC
    rw [form,decide_eq_true hok]
    rfl
 rcases (by omega:op = 1∨op = 2∨op = 3∨op = 4∨op = 5∨op = 6∨op = 7) with rfl | rfl | rfl | rfl | rfl | rfl | rfl
 ·obtain ⟨e,h1,h2,h3⟩:=plainOp 0 (.inl ⟨rfl,rfl⟩)
  refine ⟨e,h1,h2,fun h=>?_⟩
  obtain ⟨a,rfl,rfl,rfl,rfl⟩:=h3 h
  rw [bD a]; exact .all
 ·
  by_cases hok:((kids.length:Nat):Int) = 0∧col = col∧code = code∧0 = lo∧0 = hi
  ·obtain ⟨h1,_,_,rfl,rfl⟩:=hok
   have hk:=bD h1
   subst hk
   have h2:∀ X:Option Int,CU d self s ⟨2,col,code,0,0,[]⟩ = X↔(F7 s col 2).bind (fun x85=>bif (!x85) then some 7 else Bv ⟨2,col,code,0,0,[]⟩ s self) = X:=by
    intro X
    show AC _ s self 0 col code 0 0 = X↔_
    unfold AC
    rw [form,decide_eq_false (by simp)]
    exact Iff.rfl
   have h3:∀ X:Option Int,AR s ⟨2,col,code,0,0,[]⟩ = X↔(bif (bif (decide (col < 0)) then true else (decide (col ≥ ((s.Columns.length:Nat):Int)))) then some 7 else AF s ⟨2,col,code,0,0,[]⟩) = X:=fun X=>Iff.rfl
   rcases aW s col 2 with ⟨i,hi,rfl,hq⟩ | ⟨hr,hq⟩
   ·have hcol:(bif (decide (((i:Nat):Int) < 0)) then true else (decide (((i:Nat):Int) ≥ ((s.Columns.length:Nat):Int)))) = false:=by rw [df,df]; rfl
    have hj1:AF s ⟨2,i,code,0,0,[]⟩ = (bif (s.Columns[i].Kind != 2) then some 7 else bif (decide (code < 0)) then some 6 else (idx s.Lists s.Columns[i].List_).bind fun x77=>bif (decide (code ≥ ((x77.Codes.length:Nat):Int))) then some 6 else some 0):=by
     unfold AF
     rw [BP hi]; rfl
    by_cases hkd:s.Columns[i].Kind = 2
    ·have hm:HD s.Columns[i]∧1≤i:=by
      rcases hs.cl hi with ⟨_,g⟩ | ⟨g0,g | g⟩
      ·rw [g] at hkd; cases hkd
      ·exact ⟨g,g0⟩
      ·rw [g.kind] at hkd; cases hkd
     obtain ⟨L,hL,hL2⟩:=hs.clist hm.1
     by_cases hc0:code < 0
     ·refine ⟨6,(h3 _).2 ?_,(h2 _).2 ?_,fun h=>by cases h⟩
      ·rw [hcol,cond_false,hj1,hkd,decide_eq_true hc0]; rfl
      ·rw [hq,hkd]
       unfold Bv
       rw [decide_eq_true hc0]; rfl
     ·by_cases hc1:code ≥ ((L.Codes.length:Nat):Int)
      ·refine ⟨6,(h3 _).2 ?_,(h2 _).2 ?_,fun h=>by cases h⟩
       ·rw [hcol,cond_false,hj1,hkd,decide_eq_false hc0,hL2,Option.bind_some,decide_eq_true hc1]; rfl
       ·rw [hq,hkd]
        unfold Bv
        rw [decide_eq_false hc0,BP hi,Option.bind_some,Option.bind_some,hL2,Option.bind_some,decide_eq_true hc1]; rfl
      ·refine ⟨0,(h3 _).2 ?_,(h2 _).2 ?_,fun _=>.under i hm.2 hi hm.1 L hL hL2 code (by omega) (by omega)⟩
       ·rw [hcol,cond_false,hj1,hkd,decide_eq_false hc0,hL2,Option.bind_some,decide_eq_false hc1]; rfl
       ·rw [hq,hkd]
        unfold Bv
        rw [decide_eq_false hc0,BP hi,Option.bind_some,Option.bind_some,hL2,Option.bind_some,decide_eq_false hc1]; rfl
    ·have e1:(s.Columns[i].Kind==2) = false:=beq_eq_false_iff_ne.2 hkd
     refine ⟨7,(h3 _).2 ?_,(h2 _).2 ?_,fun h=>by cases h⟩
     ·rw [hcol,cond_false,hj1,bne,e1]; rfl
     ·rw [hq,e1]; rfl
   ·refine ⟨7,(h3 _).2 ?_,(h2 _).2 ?_,fun h=>by cases h⟩
    ·rcases hr with hr | hr
     ·rw [decide_eq_true hr]; rfl
     ·by_cases h0:col < 0
      ·rw [decide_eq_true h0]; rfl
      ·rw [decide_eq_false h0,decide_eq_true hr]; rfl
    ·rw [hq]; rfl
  ·refine ⟨11,?_,?_,fun h=>by cases h⟩
   ·unfold AR
    by_cases e1:kids.length = 0
    ·have hk:=List.eq_nil_of_length_eq_zero e1
     subst hk
     have hu:C3 ⟨2,col,code,lo,hi,[]⟩ = some false:=by
      by_cases e4:lo = 0
      ·subst e4
       show some (bif false then true else bif true then (hi==0) else false) = _
       rw [Wc fun e5=>hok ⟨rfl,rfl,rfl,rfl,e5.symm⟩]; rfl
      ·show some (bif false then true else bif (lo==0) then (hi==0) else false) = _
       rw [Wc e4]; rfl
     exact Ok.val (Ok.no rfl (Ok.bindE (x:=0) rfl (Ok.no rfl (Ok.bindE hu (Ok.yes rfl (Ok.some rfl))))))
    ·exact Ok.val (Ok.no rfl (Ok.bindE (x:=0) rfl (Ok.yes (ZI e1) (Ok.some rfl))))
   ·show AC _ s self 0 col code 0 0 = _
    unfold AC
    rw [form,decide_eq_true hok]
    rfl
 ·
  by_cases hok:((kids.length:Nat):Int) = 0∧col = col∧0 = code∧lo = lo∧hi = hi
  ·obtain ⟨h1,_,rfl,_,_⟩:=hok
   have hk:=bD h1
   subst hk
   have h2:∀ X:Option Int,CU d self s ⟨3,col,0,lo,hi,[]⟩ = X↔(F7 s col 3).bind (fun x85=>bif (!x85) then some 7 else BL ⟨3,col,0,lo,hi,[]⟩ self s) = X:=by
    intro X
    show AC _ s self 0 col 0 lo hi = X↔_
    unfold AC
    rw [form,decide_eq_false (by simp)]
    exact Iff.rfl
   have h3:∀ X:Option Int,AR s ⟨3,col,0,lo,hi,[]⟩ = X↔(bif (bif (decide (col < 0)) then true else (decide (col ≥ ((s.Columns.length:Nat):Int)))) then some 7 else AF s ⟨3,col,0,lo,hi,[]⟩) = X:=fun X=>Iff.rfl
   rcases aW s col 3 with ⟨i,hi',rfl,hq⟩ | ⟨hr,hq⟩
   ·have hcol:(bif (decide (((i:Nat):Int) < 0)) then true else (decide (((i:Nat):Int) ≥ ((s.Columns.length:Nat):Int)))) = false:=by rw [df,df]; rfl
    have hj1:AF s ⟨3,i,0,lo,hi,[]⟩ = (bif (s.Columns[i].Kind != 3) then some 7 else bif (bif (bif (decide (lo > hi)) then true else (decide (lo < (-1000000)))) then true else (decide (hi > 1000000))) then some 2 else some 0):=by
     unfold AF
     rw [BP hi']; rfl
    by_cases hkd:s.Columns[i].Kind = 3
    ·obtain ⟨g0,g⟩:=ed hs hi' hkd
     by_cases hr:-1000000≤lo∧lo≤hi∧hi≤1000000
     ·refine ⟨0,(h3 _).2 ?_,(h2 _).2 ?_,fun _=>.between i g0 hi' g lo hi hr.1 hr.2.1 hr.2.2⟩
      ·rw [hcol,cond_false,hj1,hkd,decide_eq_false (by omega:¬ lo > hi),decide_eq_false (by omega:¬ lo < -1000000),decide_eq_false (by omega:¬ hi > 1000000)]; rfl
      ·rw [hq,hkd]
       unfold BL
       dsimp only
       rw [decide_eq_false (by omega:¬ lo > hi),decide_eq_false (by omega:¬ lo < -1000000),decide_eq_false (by omega:¬ hi > 1000000)]; rfl
     ·have e1:(bif (bif (decide (lo > hi)) then true else (decide (lo < (-1000000)))) then true else (decide (hi > 1000000))) = true:=by
       by_cases a1:lo > hi
       ·rw [decide_eq_true a1]; rfl
       ·by_cases a2:lo < -1000000
        ·rw [decide_eq_false a1,decide_eq_true a2]; rfl
        ·rw [decide_eq_false a1,decide_eq_false a2,dt]; rfl
      have e2:(bif (bif (decide (lo < (-1000000))) then true else (decide (hi > 1000000))) then true else (decide (lo > hi))) = true:=by
       by_cases a1:lo < -1000000
       ·rw [decide_eq_true a1]; rfl
       ·by_cases a2:hi > 1000000
        ·rw [decide_eq_false a1,decide_eq_true a2]; rfl
        ·rw [decide_eq_false a1,decide_eq_false a2,dt]; rfl
      refine ⟨2,(h3 _).2 ?_,(h2 _).2 ?_,fun h=>by cases h⟩
      ·rw [hcol,cond_false,hj1,hkd,e1]; rfl
      ·rw [hq,hkd]
       unfold BL
       dsimp only
       rw [e2]; rfl
    ·have e1:(s.Columns[i].Kind==3) = false:=beq_eq_false_iff_ne.2 hkd
     refine ⟨7,(h3 _).2 ?_,(h2 _).2 ?_,fun h=>by cases h⟩
     ·rw [hcol,cond_false,hj1,bne,e1]; rfl
     ·rw [hq,e1]; rfl
   ·refine ⟨7,(h3 _).2 ?_,(h2 _).2 ?_,fun h=>by cases h⟩
    ·rcases hr with hr | hr
     ·rw [decide_eq_true hr]; rfl
     ·by_cases h0:col < 0
      ·rw [decide_eq_true h0]; rfl
      ·rw [decide_eq_false h0,decide_eq_true hr]; rfl
    ·rw [hq]; rfl
  ·refine ⟨11,?_,?_,fun h=>by cases h⟩
   ·unfold AR
    by_cases e1:kids.length = 0
    ·have hk:=List.eq_nil_of_length_eq_zero e1
     subst hk
     have hu:C3 ⟨3,col,code,lo,hi,[]⟩ = some false:=by
      show (bif (code != 0) then some false else some true) = _
      rw [VC fun e5=>hok ⟨rfl,rfl,e5.symm,rfl,rfl⟩]; rfl
     exact Ok.val (Ok.no rfl (Ok.bindE (x:=0) rfl (Ok.no rfl (Ok.bindE hu (Ok.yes rfl (Ok.some rfl))))))
    ·exact Ok.val (Ok.no rfl (Ok.bindE (x:=0) rfl (Ok.yes (ZI e1) (Ok.some rfl))))
   ·show AC _ s self 0 col 0 lo hi = _
    unfold AC
    rw [form,decide_eq_true hok]
    rfl
 ·
  by_cases hok:((kids.length:Nat):Int) = 0∧col = col∧0 = code∧0 = lo∧0 = hi
  ·obtain ⟨h1,_,rfl,rfl,rfl⟩:=hok
   have hk:=bD h1
   subst hk
   have h2:∀ X:Option Int,CU d self s ⟨4,col,0,0,0,[]⟩ = X↔(F7 s col 3).bind (fun x85=>bif (!x85) then some 7 else (idx s.Columns col).bind fun x115=>bif (!x115.Optional) then some 7 else WS s ⟨4,col,0,0,0,[]⟩ self) = X:=by
    intro X
    show AC _ s self 0 col 0 0 0 = X↔_
    unfold AC
    rw [form,decide_eq_false (by simp)]
    exact Iff.rfl
   have h3:∀ X:Option Int,AR s ⟨4,col,0,0,0,[]⟩ = X↔(bif (bif (decide (col < 0)) then true else (decide (col ≥ ((s.Columns.length:Nat):Int)))) then some 7 else AF s ⟨4,col,0,0,0,[]⟩) = X:=fun X=>Iff.rfl
   rcases aW s col 3 with ⟨i,hi',rfl,hq⟩ | ⟨hr,hq⟩
   ·have hcol:(bif (decide (((i:Nat):Int) < 0)) then true else (decide (((i:Nat):Int) ≥ ((s.Columns.length:Nat):Int)))) = false:=by rw [df,df]; rfl
    have hj1:AF s ⟨4,i,0,0,0,[]⟩ = (bif (bif (s.Columns[i].Kind != 3) then true else (!s.Columns[i].Optional)) then some 7 else some 0):=by
     unfold AF
     rw [BP hi']; rfl
    by_cases hkd:s.Columns[i].Kind = 3
    ·obtain ⟨g0,g⟩:=ed hs hi' hkd
     cases ho:s.Columns[i].Optional with
     | true =>
       refine ⟨0,(h3 _).2 ?_,(h2 _).2 ?_,fun _=>.miss i g0 hi' g ho⟩
       ·rw [hcol,cond_false,hj1,hkd,ho]; rfl
       ·rw [hq,hkd,BP hi',Option.bind_some,Option.bind_some,ho]; rfl
     | false =>
       refine ⟨7,(h3 _).2 ?_,(h2 _).2 ?_,fun h=>by cases h⟩
       ·rw [hcol,cond_false,hj1,hkd,ho]; rfl
       ·rw [hq,hkd,BP hi',Option.bind_some,Option.bind_some,ho]; rfl
    ·have e1:(s.Columns[i].Kind==3) = false:=beq_eq_false_iff_ne.2 hkd
     refine ⟨7,(h3 _).2 ?_,(h2 _).2 ?_,fun h=>by cases h⟩
     ·rw [hcol,cond_false,hj1,bne,e1]; rfl
     ·rw [hq,e1]; rfl
   ·refine ⟨7,(h3 _).2 ?_,(h2 _).2 ?_,fun h=>by cases h⟩
    ·rcases hr with hr | hr
     ·rw [decide_eq_true hr]; rfl
     ·by_cases h0:col < 0
      ·rw [decide_eq_true h0]; rfl
      ·rw [decide_eq_false h0,decide_eq_true hr]; rfl
    ·rw [hq]; rfl
  ·refine ⟨11,?_,?_,fun h=>by cases h⟩
   ·unfold AR
    by_cases e1:kids.length = 0
    ·have hk:=List.eq_nil_of_length_eq_zero e1
     subst hk
     have hu:C3 ⟨4,col,code,lo,hi,[]⟩ = some false:=by
      show (bif (code != 0) then some false else some (bif false then true else bif (lo==0) then (hi==0) else false)) = _
      by_cases e3:code = 0
      ·subst e3
       by_cases e4:lo = 0
       ·subst e4
        rw [Wc fun e5=>hok ⟨rfl,rfl,rfl,rfl,e5.symm⟩]; rfl
       ·rw [Wc e4]; rfl
      ·rw [VC e3]; rfl
     exact Ok.val (Ok.no rfl (Ok.bindE (x:=0) rfl (Ok.no rfl (Ok.bindE hu (Ok.yes rfl (Ok.some rfl))))))
    ·exact Ok.val (Ok.no rfl (Ok.bindE (x:=0) rfl (Ok.yes (ZI e1) (Ok.some rfl))))
   ·show AC _ s self 0 col 0 0 0 = _
    unfold AC
    rw [form,decide_eq_true hok]
    rfl
 ·obtain ⟨e,h1,h2,h3⟩:=plainOp 2 (.inr (.inl ⟨rfl,rfl⟩))
  refine ⟨e,h1,h2,fun h=>?_⟩
  obtain ⟨a,rfl,rfl,rfl,rfl⟩:=h3 h
  obtain ⟨x,y,rfl⟩:=gQ a
  exact .two 5 (.inl rfl) x y
 ·obtain ⟨e,h1,h2,h3⟩:=plainOp 2 (.inr (.inr (.inl ⟨rfl,rfl⟩)))
  refine ⟨e,h1,h2,fun h=>?_⟩
  obtain ⟨a,rfl,rfl,rfl,rfl⟩:=h3 h
  obtain ⟨x,y,rfl⟩:=gQ a
  exact .two 6 (.inr rfl) x y
 ·obtain ⟨e,h1,h2,h3⟩:=plainOp 1 (.inr (.inr (.inr ⟨rfl,rfl⟩)))
  refine ⟨e,h1,h2,fun h=>?_⟩
  obtain ⟨a,rfl,rfl,rfl,rfl⟩:=h3 h
  obtain ⟨x,rfl⟩:=ja a
  exact .not x
theorem cr {c:Af} {f g:Aa→Af→Option Int} (hl:c.Kids.length≤1000) (h:∀ k∈c.Kids,∃ e,f s k = some e∧g s k = some e) :
 ∃ e,iter (fun rec1 s_1=>Bw c f s (fun v18_1=>some 0) rec1 s_1) A8 0 = some e∧WS s c g = some e∧(e = 0→∀ k∈c.Kids,f s k = some 0):=by
 have eq:iter (fun rec1 s_1=>Bw c f s (fun v18_1=>some 0) rec1 s_1) A8 0 = WS s c g:=by
  unfold WS
  refine Vp (fun v:Int=>0≤v) (fun r1 r2 v hv hr=>?_) A8 0 (Int.le_refl _)
  unfold Bw Fp
  by_cases hlt:v < ((c.Kids.length:Nat):Int)
  ·rw [decide_eq_true hlt,cond_true,cond_true]
   obtain ⟨k,rfl⟩:∃ k:Nat,v = k:=⟨v.toNat,by omega⟩
   have hk:k < c.Kids.length:=by omega
   rw [BP hk,Option.bind_some,Option.bind_some]
   obtain ⟨e,h1,h2⟩:=h _ (List.getElem_mem hk)
   rw [h1,h2,Option.bind_some,Option.bind_some]
   by_cases he:e = 0
   ·subst he
    show r1 _ = r2 _
    exact hr _ (by rw [Dv]; omega)
   ·rw [VC he]; rfl
  ·rw [decide_eq_false hlt]; rfl
 have run:Ok (iter (fun rec1 s_1=>Bw c f s (fun v18_1=>some 0) rec1 s_1) A8 0) fun e=>e = 0→∀ k∈c.Kids,f s k = some 0:=by
  refine Ok.for (fun q=>q) c.Kids.length (fun k _=>∀ (j:Nat) (hj:j < c.Kids.length),j < k→f s c.Kids[j] = some 0) 0 (Nat.zero_le _) rfl (fun j _ hj=>by omega) (by omega) (fun rec q hq hI=>?_) fun rec k q hk hq hI ih=>?_
  ·simp only [Bw,hq]
   rw [Ba]
   refine Ok.some fun _ x hx=>?_
   obtain ⟨j,hj,rfl⟩:=List.mem_iff_getElem.1 hx
   exact hI j hj hj
  ·simp only [Bw,hq]
   rw [AK]
   obtain ⟨e,h1,_⟩:=h _ (List.getElem_mem hk)
   refine Ok.idxn hk (Ok.bindE h1 (Ok.br (fun he=>Ok.some fun h0=>?_) fun he=>ih _ Dv fun j hj hjk=>?_))
   ·subst h0; cases he
   ·have he:e = 0:=by simpa using he
    subst he
    by_cases e2:j = k
    ·subst e2; exact h1
    ·exact hI j hj (by omega)
 obtain ⟨e,h1,h2⟩:=run
 exact ⟨e,h1,eq ▸ h1,h2⟩
theorem Xm (hs:DS s):∀ (d:Nat) (c:Af),nds d c≤d→d≤1000→∃ e,BK d s c = some e∧D3 d s c = some e∧(e = 0→RC s (nds d c - 1) c)
 | 0,c,h,_=>by have:=PW 0 c; omega
 | d + 1,c,h,hd=>by
   have hn:nds (d + 1) c = 1 + (c.Kids.map (nds d)).sum:=rfl
   have hkl:=Uj (d:=d) c.Kids c.Kids.length (Nat.le_refl _)
   rw [List.take_length] at hkl
   have hkid:∀ k∈c.Kids,nds d k≤d:=by
    intro x hx
    obtain ⟨j,hj,rfl⟩:=List.mem_iff_getElem.1 hx
    have h3:=Nh (d:=d) hj
    have h4:=IM (d:=d) c.Kids (j + 1)
    omega
   obtain ⟨e1,h1,h2,h3⟩:=gK hs d (D3 d) c
   by_cases he:e1 = 0
   ·subst he
    obtain ⟨e,g1,g2,g3⟩:=cr (s:=s) (c:=c) (f:=BK d) (g:=D3 d) (by omega) fun k hk=>by
     obtain ⟨e,a,b,_⟩:=Xm hs d k (hkid k hk) (by omega)
     exact ⟨e,a,b⟩
    refine ⟨e,?_,?_,fun h0=>?_⟩
    ·show BI d (BK d) s c = _
     unfold BI
     exact Ok.val (Ok.bindE h1 (Ok.no rfl (Ok.eq g1)))
    ·show CU d (D3 d) s c = _
     rw [h2,← g2]; rfl
    ·have kid:∀ k∈c.Kids,RC s (nds d k - 1) k:=by
      intro k hk
      obtain ⟨e',a,_,b⟩:=Xm hs d k (hkid k hk) (by omega)
      have:=g3 h0 k hk
      rw [a] at this
      exact b (Option.some.inj this)
     have pos:∀ k:Af,1≤nds d k:=PW d
     cases h3 rfl with
     | all=>exact .all _
     | under i hi0 hi hC L hL hL2 k b0 b1=>exact .under _ i hi0 hi hC L hL hL2 k b0 b1
     | between i hi0 hi hC l u b0 b1 b2=>exact .between _ i hi0 hi hC l u b0 b1 b2
     | miss i hi0 hi hC ho=>exact .miss _ i hi0 hi hC ho
     | two op ho a b =>
       have ha:=kid a (by simp)
       have hb:=kid b (by simp)
       have p1:=pos a
       have p2:=pos b
       have e:nds (d + 1) ⟨op,0,0,0,0,[a,b]⟩ = 1 + (nds d a + nds d b):=by show 1 + ([a,b].map (nds d)).sum = _; simp
       rcases ho with rfl | rfl
       ·exact .and _ _ _ (by omega) a b ha hb
       ·exact .or _ _ _ (by omega) a b ha hb
     | not a =>
       have ha:=kid a (by simp)
       have p1:=pos a
       have e:nds (d + 1) ⟨7,0,0,0,0,[a]⟩ = 1 + nds d a:=by show 1 + ([a].map (nds d)).sum = _; simp
       exact .not _ _ (by omega) a ha
   ·refine ⟨e1,?_,?_,fun h0=>absurd h0 he⟩
    ·show BI d (BK d) s c = _
     unfold BI
     exact Ok.val (Ok.bindE h1 (Ok.yes (VC he) (Ok.some rfl)))
    ·show CU d (D3 d) s c = _
     rw [h2,VC he]; rfl
theorem WX (hs:DS s) (c:Af) {d:Nat} (hd:42≤d) (hd2:d≤1000):∃ e,B7 d s c = some e∧B0 d s c = some e∧(e = 0→GC s c):=by
 obtain ⟨h1,h2⟩:=Sy d 40 c (by omega) (by omega)
 by_cases hn:nds d c≤40
 ·obtain ⟨r,d1,d2,d3,d4⟩:=Yw d c (by omega) (by omega)
  have d5:Th d c = some r:=by rw [← QC]; exact d1
  by_cases hr:r > 10
  ·refine ⟨22,?_,?_,fun h=>by cases h⟩
   ·unfold B7
    exact Ok.val (Ok.bindE hs.check (Ok.no rfl (Ok.bindE h1 (Ok.no df (Ok.bindE d1 (Ok.yes (decide_eq_true hr) (Ok.some rfl)))))))
   ·unfold B0
    exact Ok.val (Ok.bindE hs.rcheck (Ok.no rfl (Ok.bindE h2 (Ok.no df (Ok.bindE d5 (Ok.yes (decide_eq_true hr) (Ok.some rfl)))))))
  ·obtain ⟨e,a1,a2,a3⟩:=Xm hs d c (by omega) (by omega)
   refine ⟨e,?_,?_,fun h=>⟨_,a3 h,by omega,d4 9 (by omega)⟩⟩
   ·unfold B7
    exact Ok.val (Ok.bindE hs.check (Ok.no rfl (Ok.bindE h1 (Ok.no df (Ok.bindE d1 (Ok.no (decide_eq_false hr) (Ok.bindE a1 (Ok.some rfl))))))))
   ·unfold B0
    exact Ok.val (Ok.bindE hs.rcheck (Ok.no rfl (Ok.bindE h2 (Ok.no df (Ok.bindE d5 (Ok.no (decide_eq_false hr) (Ok.bindE a2 (Ok.some rfl))))))))
 ·refine ⟨1,?_,?_,fun h=>by cases h⟩
  ·unfold B7
   exact Ok.val (Ok.bindE hs.check (Ok.no rfl (Ok.bindE h1 (Ok.yes dt (Ok.some rfl)))))
  ·unfold B0
   exact Ok.val (Ok.bindE hs.rcheck (Ok.no rfl (Ok.bindE h2 (Ok.yes dt (Ok.some rfl)))))
end Go.Proofs.YtejfnieiaecpkaaGreatDoor.P
namespace Go.Proofs.YtejfnieiaecpkaaGreatDoor.P
open Go Go.Abs Go.Proofs
set_option maxRecDepth 100000
variable {s:Aa}
def vE (m:Int) (ev c:Af):AD:={ Op:=12,Num:=0,Name:=ByteArray.empty,Column:=m,Columns:=[],Dims:=[],Cond:=c,Event:=ev,Kids:=[] }
def VR (s:Aa) (m:Int):Prop:=∃ (i:Nat) (hi:i < s.Columns.length),1≤i∧m = (i:Int)∧CS s.Columns[i]∧0≤s.Columns[i].Low
theorem aG (d:Nat) (m:Int) (ev c:Af):Nb (d + 1) (vE m ev c) = some true:=by
 refine Ok.val ?_
 unfold Nb
 repeat refine Ok.no rfl ?_
 refine Ok.yes rfl ?_
 unfold BF
 refine Ok.yes ?_ (Ok.yes rfl (Ok.yes rfl (Ok.some rfl)))
 show (bif (bif (bif (bif (0==0) then (ByteArray.empty.toList==ByteArray.empty.toList) else false) then (m==m) else false) then true else false) then true else false) = true
 rw [beq_self_eq_true,beq_self_eq_true,beq_self_eq_true]
 rfl
theorem Zx (hs:DS s) {c:Af} (hc:GC s c) (ev:Af) (m:Int):∃ b,Eu DD s (vE m ev c) = some b∧En DD s (vE m ev c) = some b∧En 59 s (vE m ev c) = some b∧(b = true→VR s m∧GC s ev):=by
 obtain ⟨e,he1,he2,he3⟩:=WX hs ev (d:=59) (by omega) (by omega)
 obtain ⟨e',_,he2',he3'⟩:=WX hs ev (d:=58) (by omega) (by omega)
 have hee:e' = 0↔e = 0:=by
  constructor
  ·intro h0
   have:=(he3' h0).rcheck hs (d:=59) (by omega)
   rw [he2] at this; exact Option.some.inj this
  ·intro h0
   have:=(he3 h0).rcheck hs (d:=58) (by omega)
   rw [he2'] at this; exact Option.some.inj this
 obtain ⟨b,hb,hb2⟩:=X3 hs m
 obtain ⟨v,hv,hv2⟩:∃ v,Hy s (vE m ev c) = some v∧(v = true↔VR s m):=by
  have hgo:Ok (Hy s (vE m ev c)) fun v=>(v = true↔VR s m):=by
   unfold Hy
   refine Ok.no rfl (Ok.no rfl (Ok.no rfl (Ok.no rfl (Ok.no rfl (Ok.no rfl (Ok.no rfl (Ok.yes rfl (Ok.bindE hb (Ok.br (fun e=>?_) fun e=>Ok.some ?_)))))))))
   ·obtain ⟨i,hi,h1,rfl,h2⟩:=hb2.1 e
    refine Ok.idxn hi (Ok.some ?_)
    rw [decide_eq_true_iff]
    refine ⟨fun h=>⟨i,hi,h1,rfl,h2,h⟩,fun ⟨j,hj,_,hjm,_,h⟩=>?_⟩
    obtain rfl:i = j:=by omega
    exact h
   ·exact ⟨(fun h=>by cases h),fun ⟨i,hi,h1,h2,h3,_⟩=>by rw [hb2.2 ⟨i,hi,h1,h2,h3⟩] at e; cases e⟩
  exact hgo
 have hp:Eu DD s (vE m ev c) = some (v && (e==0)):=by
  refine Ok.val ?_
  unfold Eu
  refine Ok.bindE hs.check (Ok.yes rfl (Ok.bind (P:=fun b:Bool=>b = (v && (e==0))) ?_ fun b hb=>Ok.some hb))
  show Ok (G4 59 (GL 59) (H6 59) s (vE m ev c)) _
  unfold G4
  refine Ok.bindE (x:=(({ f_num:=false,f_name:=false,f_column:=true,f_columns:=false,f_dims:=false,f_cond:=true,f_event:=true }:Bt),true)) rfl (Ok.no rfl (Ok.bindE (x:=true) ?_ (Ok.no rfl (Ok.bindE hv (Ok.br (fun hw=>Ok.some ?_) fun hw=>?_)))))
  ·have e:((vE m ev c).Name.toList==({ data:=#[] }:ByteArray).toList) = true:=beq_self_eq_true _
   unfold Jo
   rw [e]
   rfl
  ·have e:v = false:=by simpa using hw
   rw [e]; rfl
  ·have hw:v = true:=by simpa using hw
   subst hw
   unfold H3
   refine Ok.yes rfl (Ok.bindE (hc.check hs (by omega)) (Ok.no rfl (Ok.yes rfl (Ok.bindE he1 (Ok.br (fun h=>Ok.some ?_) fun h=>Ok.bindE (x:=false) rfl (Ok.no rfl (Ok.bindE (x:=false) rfl (Ok.some ?_))))))))
   ·have:(e==0) = false:=Wc (bne_iff_ne.1 h)
    rw [this]; rfl
   ·have:e = 0:=by simpa using h
    rw [this]; rfl
 have hr:∀ (d:Nat) (e:Int),B0 (d + 1) s ev = some e→40≤d→En (d + 2) s (vE m ev c) = some (v && (e==0)):=by
  intro d e he2 hd
  refine Ok.val ?_
  show Ok (HS (d + 1) (En (d + 1)) s (vE m ev c)) _
  unfold HS
  refine Ok.bindE hs.rcheck (Ok.no rfl (Ok.bindE (aG d m ev c) (Ok.no rfl ?_)))
  unfold Jg
  refine Ok.no rfl ?_
  unfold Hh
  refine Ok.no rfl ?_
  refine Ok.for (fun q=>q) 0 (fun _ _=>True) 0 (Nat.zero_le _) rfl trivial (by omega) (fun rec q hq hI=>?_) fun rec k q hk hq hI ih=>absurd hk (by omega)
  simp only [Mh,hq]
  refine Ok.no rfl ?_
  unfold Jj
  have h8:Hr s m 3 = some b:=hb
  refine Ok.bindE h8 ?_
  repeat refine Ok.no rfl ?_
  refine Ok.yes rfl (Ok.br (fun hz=>Ok.some ?_) fun hz=>?_)
  ·have hz:b = false:=by simpa using hz
   have:v = false:=by
    cases v with
    | false=>rfl
    | true=>obtain ⟨i,hi,h1,h2,h3,_⟩:=hv2.1 rfl; rw [hb2.2 ⟨i,hi,h1,h2,h3⟩] at hz; cases hz
   rw [this]; rfl
  ·have hz:b = true:=by simpa using hz
   obtain ⟨i,hi,h1,rfl,h2⟩:=hb2.1 hz
   refine Ok.idxn hi (Ok.brd (fun hl=>Ok.some ?_) fun hl=>Ok.bindE he2 (Ok.br (fun hz=>Ok.some ?_) fun hz=>?_))
   ·have:v = false:=by
     cases v with
     | false=>rfl
     | true =>
       obtain ⟨j,hj,_,hjm,_,h⟩:=hv2.1 rfl
       obtain rfl:i = j:=by omega
       omega
    rw [this]; rfl
   ·have:(e==0) = false:=Wc (bne_iff_ne.1 hz)
    rw [this]; cases v <;> rfl
   ·have hv3:v = true:=hv2.2 ⟨i,hi,h1,rfl,h2,by omega⟩
    have hz:e = 0:=by simpa using hz
    unfold BV
    refine Ok.yes (by assumption) (Ok.no rfl (Ok.bindE (hc.rcheck hs (by omega)) (Ok.some ?_)))
    rw [hv3,hz]; rfl
 refine ⟨v && (e==0),hp,hr 58 e he2 (by omega),?_,fun h=>?_⟩
 ·have:=hr 57 e' he2' (by omega)
  rw [this]
  congr 2
  by_cases h0:e = 0
  ·rw [h0,hee.2 h0]
  ·rw [Wc h0,Wc fun h=>h0 (hee.1 h)]
 ·rw [Bool.and_eq_true] at h
  exact ⟨hv2.1 h.1,he3 (by simpa using h.2)⟩
def jx (s:Aa) (ev c:Af) (i L:Int) (picks:List Ae):Prop:=(∀ a∈I4 59 c,one picks a.Column (Pr s a))∧(∀ a∈I4 59 ev,one picks a.Column (Pr s a))∧one picks i L
theorem an (hs:DS s) {i:Nat} (hi0:1≤i) (hi:i < s.Columns.length) (ev c:Af) {L:Int} (hL:DL s i (fin s i) = some L) :
 N6 s (vE i ev c) = some [({ Column:=i,Level:=L }:Ae)]:=by
 refine Ok.val ?_
 unfold N6
 refine Ok.for (fun q=>q.1) 0 (fun _ q=>q.2 = []) 0 (Nat.zero_le _) rfl rfl (by omega) (fun rec q hq hI=>?_) fun rec i q hi hq hI ih=>absurd hi (by omega)
 simp only [Oa,hq,hI]
 refine Ok.no rfl ?_
 unfold Lf
 refine Ok.no rfl (Ok.no rfl (Ok.no rfl (Ok.no rfl (Ok.yes rfl (Ok.yes ?_ (Ok.bindE (x:=[({ Column:=i,Level:=L }:Ae)]) ?_ ?_))))))
 ·show decide ((i:Int) > 0) = true
  exact dt
 ·unfold DF
  exact Ok.val (Ok.bindE (hs.pFinest hi0 hi) (Ok.bindE hL (Ok.rm (by simp) (Ok.some rfl))))
 unfold BG
 refine Ok.for (fun q=>q.1) 0 (fun _ q=>q.2 = [({ Column:=i,Level:=L }:Ae)]) 0 (Nat.zero_le _) rfl rfl (by omega) (fun rec q hq hI=>?_) fun rec i q hi hq hI ih=>absurd hi (by omega)
 simp only [Ob,hq,hI]
 exact Ok.no rfl (Ok.some rfl)
theorem GC.pneedsd (hs:DS s) {c:Af} (h:GC s c) {d:Nat} (hd:40≤d):Ok (CX d s c) (NO s (I4 d c)):=by
 obtain ⟨n,h1,h2⟩:=h
 exact P.pneeds hs h1 (by omega) h2
theorem GC.rneedsd (hs:DS s) {c:Af} (h:GC s c) {d:Nat} (hd:40≤d):Ok (Ct d s c) (NO s (I4 d c)):=by
 obtain ⟨n,h1,h2⟩:=h
 exact SB hs h1 (by omega) h2
theorem GC.at_ (hs:DS s) {c:Af} (h:GC s c) (d:Nat):∀ a∈I4 d c,∃ i S,AT s a i S:=by
 obtain ⟨n,h1,h2⟩:=h
 exact Us hs n d h1
theorem GC.fuel {c:Af} (h:GC s c) {d d':Nat} (hd:40≤d) (hd':40≤d'):I4 d c = I4 d' c:=by
 obtain ⟨n,h1,h2⟩:=h
 exact YJ n d d' h1 (by omega) (by omega)
theorem dS (hs:DS s) {ev c:Af} (hc:GC s c) (hev:GC s ev) {i:Nat} (hi0:1≤i) (hi:i < s.Columns.length) {L:Int} (hL:DL s i (fin s i) = some L) :
 Ok (IE DD s (vE i ev c)) fun r=>NP r 1001 (jx s ev c i L):=by
 have hcl:=hs.cols_length
 have hown:=an hs hi0 hi ev c hL
 show Ok (HU 59 (IE 59) s (vE i ev c)) _
 unfold HU
 refine Ok.bindE hown (Ok.bind (hc.pneedsd hs (by omega:40≤59)) fun l hl=>Ok.bind (hev.pneedsd hs (by omega:40≤59)) fun l2 hl2=>?_)
 have colOk:∀ {c:Af} {l:List Ae},GC s c→NO s (I4 59 c) l→∀ p∈l,0≤p.Column∧p.Column≤1000:=by
  intro c l hc hl p hp
  obtain ⟨a,ha,e⟩:=hl.cols p hp
  obtain ⟨j,S,hA⟩:=hc.at_ hs 59 a ha
  have:=hA.i1
  rw [e,hA.col]; omega
 refine Ok.for (fun q=>q.1) 0 (fun _ q=>q.2 = [[({ Column:=i,Level:=L }:Ae)],l,l2]) 0 (Nat.zero_le _) rfl rfl (by omega) (fun rec q hq hI=>?_) fun rec i q hi hq hI ih=>absurd hi (by omega)
 simp only [LN,hq,hI]
 refine Ok.no rfl (Ok.bind (eh (by simp) (fun z hz=>?_) fun z hz p hp=>?_) fun x hx=>Ok.some (hx.congr fun picks=>?_))
 ·have h1:=hl.len
  have h2:=hl2.len
  simp only [List.mem_cons,List.not_mem_nil,or_false] at hz
  rcases hz with rfl | rfl | rfl
  ·simp
  ·omega
  ·omega
 ·simp only [List.mem_cons,List.not_mem_nil,or_false] at hz
  rcases hz with rfl | rfl | rfl
  ·rw [List.mem_singleton] at hp; subst hp
   show 0≤(i:Int)∧(i:Int)≤1000
   omega
  ·exact colOk hc hl p hp
  ·exact colOk hev hl2 p hp
 ·unfold jx
  rw [← hl.iff picks,← hl2.iff picks]
  constructor
  ·intro h
   exact ⟨h l (by simp),h l2 (by simp),h [({ Column:=i,Level:=L }:Ae)] (by simp) _ (List.mem_singleton.2 rfl)⟩
  ·rintro ⟨h4,h6,h5⟩ z hz
   simp only [List.mem_cons,List.not_mem_nil,or_false] at hz
   rcases hz with rfl | rfl | rfl
   ·intro p hp
    rw [List.mem_singleton] at hp; subst hp; exact h5
   ·exact h4
   ·exact h6
theorem dX (hs:DS s) {ev c:Af} (hc:GC s c) (hev:GC s ev) {i:Nat} (hi0:1≤i) (hi:i < s.Columns.length) (hR:En 59 s (vE i ev c) = some true) {L:Int} (hL:Cp s i (fin s i) = some L) :
 Ok (ID DD s (vE i ev c)) fun r=>NP r 1001 (jx s ev c i L):=by
 show Ok (HO 59 (ID 59) s (vE i ev c)) _
 unfold HO
 refine Ok.bindE hR (Ok.no rfl ?_)
 refine Ok.bind (dR NP.nil (m:=0) (by omega) (hc.rneedsd hs (by omega:40≤59))) fun r0 hr0=>Ok.bind (dR hr0 (by omega) (hev.rneedsd hs (by omega:40≤59))) fun r hr=>?_
 have hrl:=hr.len
 refine Ok.for (fun q=>q.2) 0 (fun _ q=>q.1 = r) 0 (Nat.zero_le _) rfl rfl (by omega) (fun rec q hq hI=>?_) fun rec k q hk hq hI ih=>absurd hk (by omega)
 simp only [Mg,hq,hI]
 refine Ok.no rfl ?_
 unfold J0
 refine Ok.no rfl (Ok.no rfl (Ok.no rfl (Ok.yes rfl (Ok.bind (P:=fun z:List Ae=>z.length≤r.length + 1∧(∀ p∈z,0 < p.Level)∧∀ picks,(∀ p∈z,one picks p.Column p.Level)↔(∀ p∈r,one picks p.Column p.Level)∧one picks i L) ?_ fun z hz=>?_))))
 ·unfold Eo
  exact Ok.bindE (hs.rfinest hi0 hi) (Ok.bindE hL (Ok.bind (Xs (by omega) hr.pos) fun z hz=>Ok.some hz))
 refine ⟨z,dw rfl rfl _ z,by omega,hz.2.1,fun picks=>?_⟩
 rw [hz.2.2 picks,hr.iff picks]
 unfold jx
 exact ⟨fun h=>⟨h.1.1.2,h.1.2,h.2⟩,fun h=>⟨⟨⟨trivial,h.1⟩,h.2.1⟩,h.2.2⟩⟩
end Go.Proofs.YtejfnieiaecpkaaGreatDoor.P
namespace Go.Proofs.YtejfnieiaecpkaaGreatDoor.P
open Go Go.Abs Go.Proofs
set_option maxRecDepth 100000
variable {s:Aa}
theorem GC.holding {x:Aw} (hs:DS s) (hx:GX s x) {c:Af} (h:GC s c) (hcov:∀ a∈I4 DD c,one x.Picks a.Column (Pr s a)):D7 DD s x c = some (CI (O7 (CZ DD s c x) x.Rows.length)):=by
 obtain ⟨n,h1,h2⟩:=h
 exact WF hs hx h1 (by show n < 60; omega) h2 hcov
theorem GC.row {x:Aw} (hs:DS s) (hx:GX s x) {c:Af} (h:GC s c) (hcov:∀ a∈I4 DD c,one x.Picks a.Column (Pr s a)) {j:Nat} (hj:j < x.Rows.length):Ok (Gc DD s c x.Picks (x.Rows[j].drop 1)) fun t=>CZ DD s c x j = (t==1):=by
 obtain ⟨n,h1,h2⟩:=h
 have hr:=List.getElem_mem hj
 obtain ⟨t,_,h4,_⟩:=P8 hs hx hr h1 (d:=DD) (by show n < 60; omega) hcov
 refine ⟨t,TN hs hx hr h1 (by show n < 60; omega) h2 hcov h4,?_⟩
 unfold CZ
 rw [Rv hj,h4]
 rfl
theorem b8 {ts:List Int} (evs:List Bool) (h:ts.length≤1000):Kh ts evs = some (GU ts evs):=by
 unfold Kh
 rw [dt]; rfl
theorem gi {ts:List Int} (evs:List Bool) (h:ts.length≤1000):Ps ts evs = some (GU ts evs):=b8 evs h
def Uk (x:Aw) (s:Aa) (ev:Af) (l:List Nat):List Bool:=l.map (CZ DD s ev x)
theorem im {x:Aw} (hs:DS s) (hx:GX s x) {i:Nat} (hi0:1≤i) (hi:i < s.Columns.length) (h:CS s.Columns[i]) {ev:Af} {l:List Nat} (hl:l.length≤200) (hlm:∀ j∈l,j < x.Rows.length) :
 iter (fun rec1 st=>Ee (CI l) (CI (O7 (CZ DD s ev x) x.Rows.length)) (EO s x (CI l) i) rec1 st.1 st.2) A8 (0,List.replicate (((CI l).length:Nat):Int).toNat false)
  = (bif ((GU (vals s x i (fin s i) l) (Uk x s ev l)).2 != 0) then some ([],[],(GU (vals s x i (fin s i) l) (Uk x s ev l)).2) else some ((GU (vals s x i (fin s i) l) (Uk x s ev l)).1,l.map fun j=>hd (x.Rows.getD j []),0)):=by
 have hxl:=hx.len
 have hfl:=L9 (CZ DD s ev x) x.Rows.length
 have goal:Ok (iter (fun rec1 st=>Ee (CI l) (CI (O7 (CZ DD s ev x) x.Rows.length)) (EO s x (CI l) i) rec1 st.1 st.2) A8 (0,List.replicate (((CI l).length:Nat):Int).toNat false)) fun z=>some z = (bif ((GU (vals s x i (fin s i) l) (Uk x s ev l)).2 != 0) then some ([],[],(GU (vals s x i (fin s i) l) (Uk x s ev l)).2) else some ((GU (vals s x i (fin s i) l) (Uk x s ev l)).1,l.map fun j=>hd (x.Rows.getD j []),0)):=by
  rw [Int.toNat_natCast,Cr]
  refine Ok.for (fun q=>q.1) l.length (fun m q=>q.2 = Uk x s ev (l.take m)++List.replicate (l.length - m) false) 0 (Nat.zero_le _) rfl rfl (by omega) (fun rec q hq hI=>?_) fun rec m q hm hq hI ih=>?_
  ·have hI:q.2 = Uk x s ev l:=by rw [hI,List.take_length,Nat.sub_self]; simp
   simp only [Ee,hq,hI,Cr]
   rw [Ba]
   unfold EO
   refine Ok.bindE (Za hs hx hi0 hi h hl hlm) (Ok.bindE (b8 _ (by unfold vals; rw [List.length_map]; omega)) (Ok.br (fun e=>Ok.some ?_) fun e=>Ok.bindE (gU (by omega) hlm fun r hr=>hx.ne hr) (Ok.some ?_)))
   ·rw [e]; rfl
   ·rw [e]; rfl
  ·have hjm:=hlm _ (List.getElem_mem hm)
   simp only [Ee,hq,hI,Cr]
   rw [AK]
   have hlen:(Uk x s ev (l.take m)).length = m:=by unfold Uk; rw [List.length_map,List.length_take]; omega
   refine Ok.idxn (by rw [Cr]; exact hm) ?_
   rw [GJ hm]
   refine Ok.bind (XI (by rw [Cr]; omega)) fun b hb=>Ok.idxn (by rw [List.length_append,hlen,List.length_replicate]; omega) (ih _ Dv ?_)
   have hb2:b = CZ DD s ev x l[m]:=by
    have:b = true↔CZ DD s ev x l[m] = true:=by
     rw [hb]
     unfold CI
     rw [List.mem_map]
     constructor
     ·rintro ⟨j,hj,e⟩
      obtain rfl:j = l[m]:=by omega
      exact (bd hj).2
     ·intro e
      exact ⟨_,List.mem_filter.2 ⟨List.mem_range.2 hjm,e⟩,rfl⟩
    exact Vr this Iff.rfl
   show (Uk x s ev (l.take m)++List.replicate (l.length - m) false).set ((m:Int)).toNat b = _
   rw [Int.toNat_natCast,List.take_succ_eq_append_getElem hm,hb2,List.set_append_right _ _ (by omega),hlen,Nat.sub_self]
   obtain ⟨k,hk⟩:∃ k,l.length - m = k + 1:=⟨l.length - m - 1,by omega⟩
   rw [hk,show l.length - (m + 1) = k by omega,List.replicate_succ,List.set_cons_zero]
   unfold Uk
   rw [List.map_append]
   simp
 obtain ⟨z,hz,hz2⟩:=goal
 rw [hz,hz2]
theorem ip {x:Aw} (hs:DS s) (hx:GX s x) {i:Nat} (hi0:1≤i) (hi:i < s.Columns.length) (h:CS s.Columns[i]) {ev:Af} (hev:GC s ev) (hcov:∀ a∈I4 DD ev,one x.Picks a.Column (Pr s a)) {l:List Nat} (hl:l.length≤200) (hlm:∀ j∈l,j < x.Rows.length) :
 iter (fun rec1 st=>Fs (CI l) s i x DD ev (GM x (CI l)) rec1 st.1 st.2.1 st.2.2) A8 (0,[],[])
  = (bif ((GU (vals s x i (fin s i) l) (Uk x s ev l)).2 != 0) then some ([],[],(GU (vals s x i (fin s i) l) (Uk x s ev l)).2) else some ((GU (vals s x i (fin s i) l) (Uk x s ev l)).1,l.map fun j=>hd (x.Rows.getD j []),0)):=by
 have hf:fin s i = s.Columns[i].Widths.length:=by rw [Em hi,C6 h]
 have hwl:=C0 h
 have goal:Ok (iter (fun rec1 st=>Fs (CI l) s i x DD ev (GM x (CI l)) rec1 st.1 st.2.1 st.2.2) A8 (0,[],[])) fun z=>some z = (bif ((GU (vals s x i (fin s i) l) (Uk x s ev l)).2 != 0) then some ([],[],(GU (vals s x i (fin s i) l) (Uk x s ev l)).2) else some ((GU (vals s x i (fin s i) l) (Uk x s ev l)).1,l.map fun j=>hd (x.Rows.getD j []),0)):=by
  refine Ok.for (fun q=>q.1) l.length (fun m q=>q.2.1 = vals s x i (fin s i) (l.take m)∧q.2.2 = Uk x s ev (l.take m)) 0 (Nat.zero_le _) rfl ⟨rfl,rfl⟩ (by omega) (fun rec q hq hI=>?_) fun rec m q hm hq hI ih=>?_
  ·simp only [Fs,hq,hI.1,hI.2,Cr,List.take_length]
   rw [Ba]
   unfold GM
   refine Ok.bindE (gi _ (by unfold vals; rw [List.length_map]; omega)) (Ok.br (fun e=>Ok.some ?_) fun e=>Ok.bindE (iQ (by omega) hlm fun r hr=>hx.ne hr) (Ok.some ?_))
   ·rw [e]; rfl
   ·rw [e]; rfl
  ·have hjm:=hlm _ (List.getElem_mem hm)
   simp only [Fs,hq,hI.1,hI.2,Cr]
   rw [AK]
   obtain ⟨_,h1,_⟩:=bY hs hx hi0 hi h (b:=fin s i) (by omega) (by omega) hjm
   have hil:m < (CI l).length:=by rw [Cr]; exact hm
   have hne:=(hx.rows _ (List.getElem_mem hjm)).1
   obtain ⟨t,ht,ht2⟩:=hev.row hs hx hcov hjm
   refine Ok.idxn hil ?_
   rw [GJ hm]
   refine Ok.bindE (hs.rfinest hi0 hi) (Ok.bindE h1 (Ok.rm (by simp [vals]; omega) (Ok.idxn hil ?_)))
   rw [GJ hm]
   refine Ok.idxn hjm (Ok.gdd (by omega) ?_)
   rw [iN]
   refine Ok.bindE ht (Ok.rm (by simp [Uk]; omega) (ih _ Dv ⟨?_,?_⟩))
   ·show vals s x i (fin s i) (l.take m)++[_] = _
    rw [List.take_succ_eq_append_getElem hm]
    unfold vals
    rw [List.map_append]
    rfl
   ·show Uk x s ev (l.take m)++[_] = _
    rw [List.take_succ_eq_append_getElem hm,← ht2]
    unfold Uk
    rw [List.map_append]
    rfl
 obtain ⟨z,hz,hz2⟩:=goal
 rw [hz,hz2]
theorem QN {x:Aw} (hs:DS s) (hx:GX s x) {c:Af} (hc:GC s c) (ev:Af) (m:Int) :
 ∃ r:List Be × List Int × Int,C4 DD s x m ev c = some r∧D6 DD s x m ev c = some r∧r.1.length≤200∧r.2.1.length≤200:=by
 have hl:=hx.len
 have hpl:=hx.picks_len hs
 obtain ⟨b,hb1,hb2,hb3,hb4⟩:=Zx hs hc ev m
 have bad:∀ u:Int,u≠0→Ft DD s x (vE m ev c) = some u→D6 DD s x m ev c = some ([],[],u):=by
  intro u hu hp
  unfold D6
  exact Ok.val (Ok.bindE hp (Ok.yes (VC hu) (Ok.some rfl)))
 cases b with
 | false =>
   refine ⟨([],[],11),?_,bad 11 (by decide) ?_,by simp,by simp⟩
   ·unfold C4
    exact Ok.val (Ok.bindE (hx.check hs) (Ok.no rfl (Ok.bindE hb1 (Ok.yes rfl (Ok.some rfl)))))
   ·unfold Ft
    exact Ok.val (Ok.bindE (hx.rcheck hs) (Ok.no rfl (Ok.bindE hb2 (Ok.yes rfl (Ok.some rfl)))))
 | true =>
   obtain ⟨⟨i,hi,hi0,rfl,h,hlow⟩,hev⟩:=hb4 rfl
   have hwl:=C0 h
   have hf:fin s i = s.Columns[i].Widths.length:=by rw [Em hi,C6 h]
   obtain ⟨L,hL1,hL2,_,_⟩:=VL hs hi0 hi h (l:=fin s i) (by omega) (by omega)
   obtain ⟨z1,hz1,hp1⟩:=dS hs hc hev hi0 hi hL1
   obtain ⟨z2,hz2,hp2⟩:=dX hs hc hev hi0 hi hb3 hL2
   have hl1:=hp1.len
   have hl2:=hp2.len
   have hN:IK DD s (vE i ev c) = some z1:=by
    unfold IK
    exact Ok.val (Ok.bindE hs.check (Ok.no rfl (Ok.bindE hb1 (Ok.no rfl (Ok.bindE hz1 (Ok.some rfl))))))
   have ec:covers x.Picks z1 = covers x.Picks z2:=Vr (hp1.covers x.Picks) (hp2.covers x.Picks)
   have hP:=hp1.covers x.Picks
   cases e:covers x.Picks z1 with
   | false =>
     refine ⟨([],[],23),?_,bad 23 (by decide) ?_,by simp,by simp⟩
     ·unfold C4
      exact Ok.val (Ok.bindE (hx.check hs) (Ok.no rfl (Ok.bindE hb1 (Ok.no rfl (Ok.bindE hN (Ok.bindE (XH _ _ (by omega) (by omega)) (Ok.yes (by rw [e]; rfl) (Ok.some rfl))))))))
     ·unfold Ft
      exact Ok.val (Ok.bindE (hx.rcheck hs) (Ok.no rfl (Ok.bindE hb2 (Ok.no rfl (Ok.bindE hz2 (Ok.bindE (Uq _ _ (by omega) (by omega)) (Ok.yes (by rw [← ec,e]; rfl) (Ok.some rfl))))))))
   | true =>
     obtain ⟨hcov,hcovE,_⟩:=hP.1 e
     rw [hc.fuel (by omega:40≤59) (by decide:40≤DD)] at hcov
     rw [hev.fuel (by omega:40≤59) (by decide:40≤DD)] at hcovE
     have hplan:Ft DD s x (vE i ev c) = some 0:=by
      unfold Ft
      exact Ok.val (Ok.bindE (hx.rcheck hs) (Ok.no rfl (Ok.bindE hb2 (Ok.no rfl (Ok.bindE hz2 (Ok.bindE (Uq _ _ (by omega) (by omega)) (Ok.no (by rw [← ec,e]; rfl) (Ok.some rfl))))))))
     obtain ⟨n,hn1,hn2⟩:=hc
     have hfl:=L9 (CZ DD s c x) x.Rows.length
     have hfk:=List.length_filter_le (RU s x i (fin s i)) (O7 (CZ DD s c x) x.Rows.length)
     have hrows:∀ j∈(O7 (CZ DD s c x) x.Rows.length).filter (RU s x i (fin s i)),j < x.Rows.length:=fun j hj=>Yz j (List.mem_filter.1 hj).1
     have hc1:=cB hs hx hi0 hi h hn1 (by show n < 60; omega:n < DD) hn2 hcov
     have hc2:=dP hs hx hi0 hi h hn1 (by show n < 60; omega:n < DD) hn2 hcov
     have hp:=im hs hx hi0 hi h (ev:=ev) (by omega) hrows
     have hr:=ip hs hx hi0 hi h hev hcovE (by omega) hrows
     have hpm:C4 DD s x i ev c = iter (fun rec1 st=>Ee (CI ((O7 (CZ DD s c x) x.Rows.length).filter (RU s x i (fin s i)))) (CI (O7 (CZ DD s ev x) x.Rows.length)) (EO s x (CI ((O7 (CZ DD s c x) x.Rows.length).filter (RU s x i (fin s i)))) i) rec1 st.1 st.2) A8 (0,List.replicate (((CI ((O7 (CZ DD s c x) x.Rows.length).filter (RU s x i (fin s i)))).length:Nat):Int).toNat false):=by
      unfold C4
      rw [hx.check hs,Option.bind_some]
      show (Eu DD s (vE i ev c)).bind _ = _
      rw [hb1,Option.bind_some]
      show (IK DD s (vE i ev c)).bind _ = _
      rw [hN,Option.bind_some,XH _ _ (by omega) (by omega),Option.bind_some,e]
      show (ER DD s x c [(i:Int)]).bind _ = _
      rw [hc1,Option.bind_some,hev.holding hs hx hcovE,Option.bind_some]
      have:(decide (0≤(((CI ((O7 (CZ DD s c x) x.Rows.length).filter (RU s x i (fin s i)))).length:Nat):Int)) && rm ((((CI ((O7 (CZ DD s c x) x.Rows.length).filter (RU s x i (fin s i)))).length:Nat):Int):Int).toNat 0) = true:=by
       rw [dt,Bool.true_and]
       exact Zb (by rw [Int.toNat_natCast,Cr]; omega)
      rw [this]
      rfl
     have hrm:D6 DD s x i ev c = iter (fun rec1 st=>Fs (CI ((O7 (CZ DD s c x) x.Rows.length).filter (RU s x i (fin s i)))) s i x DD ev (GM x (CI ((O7 (CZ DD s c x) x.Rows.length).filter (RU s x i (fin s i))))) rec1 st.1 st.2.1 st.2.2) A8 (0,[],[]):=by
      unfold D6
      show (Ft DD s x (vE i ev c)).bind _ = _
      rw [hplan,Option.bind_some]
      show (Hz DD s x c [(i:Int)]).bind _ = _
      rw [hc2,Option.bind_some]
     rw [hp] at hpm
     rw [hr] at hrm
     have hlen:=aV (vals s x i (fin s i) ((O7 (CZ DD s c x) x.Rows.length).filter (RU s x i (fin s i)))) (Uk x s ev ((O7 (CZ DD s c x) x.Rows.length).filter (RU s x i (fin s i))))
     generalize GU (vals s x i (fin s i) ((O7 (CZ DD s c x) x.Rows.length).filter (RU s x i (fin s i)))) (Uk x s ev ((O7 (CZ DD s c x) x.Rows.length).filter (RU s x i (fin s i)))) = R at *
     cases er:(R.2 != 0) with
     | true =>
       rw [er] at hpm hrm
       exact ⟨_,hpm,hrm,by simp,by simp⟩
     | false =>
       rw [er] at hpm hrm
       exact ⟨_,hpm,hrm,hlen,by show (List.map _ _).length≤200; rw [List.length_map]; omega⟩
theorem aN (hs:DS s) (ev c:Af) (m:Int):∃ r:List Be × List Int × Int,C4 DD s VE m ev c = some r∧D6 DD s VE m ev c = some r:=by
 obtain ⟨u,hu,h1,h2⟩:=aT hs
 refine ⟨([],[],u),?_,?_⟩
 ·unfold C4
  exact Ok.val (Ok.bindE h1 (Ok.yes (VC hu) (Ok.some rfl)))
 ·unfold D6
  refine Ok.val (Ok.bindE (x:=u) ?_ (Ok.yes (VC hu) (Ok.some rfl)))
  unfold Ft
  exact Ok.val (Ok.bindE h2 (Ok.yes (VC hu) (Ok.some rfl)))
theorem ap {l:List Be} (hl:l.length≤1000000):LZ l l = some true:=by
 refine Ok.val ?_
 unfold LZ
 refine Ok.no (by simp) ?_
 refine Ok.for (fun q=>q) l.length (fun _ _=>True) 0 (Nat.zero_le _) rfl trivial (by omega) (fun rec q hq hI=>?_) fun rec k q hk hq hI ih=>?_
 ·simp only [Km,hq]
  rw [Ba]
  exact Ok.some rfl
 ·simp only [Km,hq]
  rw [AK]
  exact Ok.idxn hk (Ok.idxn hk (Ok.no (by simp) (ih _ Dv trivial)))
theorem al (codes:List Int) (h:∀ v∈codes,0≤v∧v≤255) (hl:codes.length≤9223372036854775807) (column:Int) (event:Af):Gx DD codes column event = some true:=by
 refine Ok.val ?_
 unfold Gx
 refine Ok.br (fun _=>Ok.bindE (x:=true) rfl (Ok.some rfl)) fun _=>?_
 obtain ⟨c,hc1,hc⟩:=iF codes h hl
 obtain ⟨⟨ys,yc⟩,hy,_⟩:=Td hc
 refine Ok.bindE hc1 (Ok.bind (XN hc (n:=10) (by omega) hy) fun z hz=>Ok.bindE hc1 (Ok.bind (Vn hc (n:=6) (by omega) hy) fun t ht=>?_))
 obtain ⟨src,x,c2⟩:=z
 obtain ⟨hs,e,hx,hc2⟩:=hz
 have e:src.Schema = ys:=e
 subst e
 have hs:DS src.Schema:=hs
 have hx:GX src.Schema x:=hx
 have hc2:Hc c2:=hc2
 have ht:GX src.Schema t.2.2.1∨t.2.2.1 = VE:=ht
 have hcl:=hs.cols_length
 refine Ok.bind (PV hs 1 DD hc2 (by decide) (by omega)) fun ev hev=>Ok.bind (PV hs 1 DD hev.1 (by decide) (by omega)) fun k hk=>?_
 have gk:=GC.drawn hk.2 (by omega)
 have hT:∀ m e,∃ r:List Be × List Int × Int,C4 DD src.Schema t.2.2.1 m e k.1 = some r∧D6 DD src.Schema t.2.2.1 m e k.1 = some r:=by
  intro m e
  rcases ht with ht | ht
  ·obtain ⟨r,h1,h2,_⟩:=QN hs ht gk e m
   exact ⟨r,h1,h2⟩
  ·rw [ht]; exact aN hs e k.1 m
 refine Ok.loop (fun v=>-1≤v∧v≤10) (fun v=>(20 - v).toNat) ⟨Int.le_refl _,by omega⟩ (by unfold A8; show (20 - (-1:Int)).toNat < _; decide) fun rec v hv ih=>?_
 simp only [GT]
 refine Ok.brd (fun hle=>?_) fun _=>?_
 ·obtain ⟨r,h1,h2,h3,h4⟩:=QN hs hx gk ev.1 v
  have hle:v≤((src.Schema.Columns.length:Nat):Int):=hle
  have ew:IntKind.i64.wrap (v + 1) = v + 1:=wr
  refine Ok.bindE h1 (Ok.bindE h2 (Ok.no (by simp) (Ok.bindE (ap (by omega)) (Ok.no rfl (Ok.bindE (c6 (by omega)) (Ok.no rfl (ih _ ?_ ?_)))))))
  ·rw [ew]; omega
  ·rw [ew]; omega
 ·unfold ED
  refine Ok.bind (Mt hk.1 hs) fun m hm=>?_
  obtain ⟨r,h1,h2⟩:=hT m.1 ev.1
  obtain ⟨cm,hcm,_⟩:=iu column (n:=8) (by omega) (by omega)
  obtain ⟨r2,g1,g2,_⟩:=QN hs hx gk event cm
  refine Ok.bindE h1 (Ok.bindE h2 (Ok.bindE hcm (Ok.bindE g1 (Ok.bindE hcm (Ok.bindE g2 (Ok.yes ?_ (Ok.bindE (x:=true) rfl (Ok.some rfl))))))))
  simp
end Go.Proofs.YtejfnieiaecpkaaGreatDoor.P
