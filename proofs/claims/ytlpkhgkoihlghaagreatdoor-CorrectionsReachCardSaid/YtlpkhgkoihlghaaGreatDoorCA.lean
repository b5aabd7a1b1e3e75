/- CA -/
import Derived.Test.YtlpkhgkoihlghaaGreatDoorQB
set_option linter.unusedVariables false
set_option linter.unusedSimpArgs false
namespace Go.Proofs.YtlpkhgkoihlghaaGreatDoor.P
open Go Go.Abs Go.Proofs
set_option maxRecDepth 100000
theorem d8 (sec r c:Int):Ok (Dy sec r c) fun x=>0≤x∧x≤1023:=by
 unfold Dy
 refine Ok.for (fun q=>q.2) 3 (fun _ q=>0≤q.1∧q.1 < 18446744073709551616) 0 (Nat.zero_le _) rfl (WW _) (by omega) (fun rec q hq hI=>?_) fun rec i q hi hq hI ih=>?_
 ·simp only [EN,hq]
  refine Ok.no rfl (Ok.some ?_)
  have e:(2:Int) ^ (min (54:Int).toNat IntKind.u64.bits) = 18014398509481984:=by decide
  rw [e]
  have:=Z7 hI.1 hI.2
  rw [wr]
  exact this
 ·simp only [EN,hq]
  rw [Bj]
  exact ih _ EF (WW _)
def YN (sec r c:Int):Int:=(Dy sec r c).getD 0
theorem d7 (sec r c:Int):Dy sec r c = some (YN sec r c)∧0≤YN sec r c∧YN sec r c≤1023:=by
 obtain ⟨x,h,h1⟩:=d8 sec r c
 unfold YN
 rw [h]
 exact ⟨rfl,h1⟩
theorem fL {sec:Int} (hs0:0≤sec) (hs1:sec < 1152921504606846976) {r:Nat} (hr:r < 8) {c:Int} (h0:0≤c) (h1:c≤1023):Ki sec r c = some (YN sec r c):=by
 rw [← (d7 sec r c).1]
 unfold Ki Dy
 have e:(bif (bif (bif (bif (bif (decide (sec < 0)) then true else (decide (sec ≥ 1152921504606846976))) then true else (decide ((r:Int) < 0))) then true else (decide ((r:Int) > 7))) then true else (decide (c < 0))) then true else (decide (c > 1023))) = false:=by
  rw [df,df,df,df,df,df]; rfl
 have hb:@LL = @EN:=rfl
 rw [e,hb,cond_false]
def ac (a b:Int):Int:=IntKind.i64.wrap (((BitVec.ofInt IntKind.i64.bits a ^^^ BitVec.ofInt IntKind.i64.bits b).toNat:Nat):Int)
theorem Zf {m n:Nat} (hm:m≤1023) (hn:n≤1023):ac m n = ((m ^^^ n:Nat):Int):=by
 have e:(BitVec.ofInt IntKind.i64.bits (m:Int) ^^^ BitVec.ofInt IntKind.i64.bits (n:Int)).toNat = m ^^^ n:=by
  rw [BitVec.toNat_xor,BitVec.ofInt_natCast,BitVec.ofInt_natCast,BitVec.toNat_ofNat,BitVec.toNat_ofNat]
  have h1:m % 2 ^ IntKind.i64.bits = m:=Nat.mod_eq_of_lt (by show m < 2 ^ 64; omega)
  have h2:n % 2 ^ IntKind.i64.bits = n:=Nat.mod_eq_of_lt (by show n < 2 ^ 64; omega)
  rw [h1,h2]
 unfold ac
 rw [e]
 have:m ^^^ n < 2 ^ 10:=Nat.xor_lt_two_pow (by omega) (by omega)
 rw [wr]
theorem Ze {a a' b:Int} (h0:0≤a∧a≤1023) (h1:0≤a'∧a'≤1023) (h2:0≤b∧b≤1023) (h:ac a b = ac a' b):a = a':=by
 obtain ⟨m,rfl⟩:∃ m:Nat,a = m:=⟨a.toNat,by omega⟩
 obtain ⟨m',rfl⟩:∃ m:Nat,a' = m:=⟨a'.toNat,by omega⟩
 obtain ⟨n,rfl⟩:∃ n:Nat,b = n:=⟨b.toNat,by omega⟩
 rw [Zf (by omega) (by omega),Zf (by omega) (by omega)] at h
 have h3:m ^^^ n = m' ^^^ n:=by omega
 have h4:=congrArg (· ^^^ n) h3
 simp only [Nat.xor_assoc,Nat.xor_self,Nat.xor_zero] at h4
 rw [h4]
def Yb (sec:Int) (p:Int × Int):Nat→Int × Int
 | 0=>p
 | n + 1=>((Yb sec p n).2,ac (Yb sec p n).1 (YN sec n (Yb sec p n).2))
def bJ (p:Int × Int):Prop:=(0≤p.1∧p.1≤1023)∧(0≤p.2∧p.2≤1023)
theorem M2 (sec:Int) {p:Int × Int} (h:bJ p):∀ n,bJ (Yb sec p n)
 | 0=>h
 | n + 1=>⟨(M2 sec h n).2,bF (M2 sec h n).1 (d7 _ _ _).2⟩
theorem an (sec:Int) {p p':Int × Int} (h:bJ p) (h':bJ p'):∀ n,Yb sec p n = Yb sec p' n→p = p'
 | 0,e=>e
 | n + 1,e=>by
   have h2:(Yb sec p n).2 = (Yb sec p' n).2:=congrArg Prod.fst e
   have h1:ac (Yb sec p n).1 (YN sec n (Yb sec p n).2) = ac (Yb sec p' n).1 (YN sec n (Yb sec p' n).2):=congrArg Prod.snd e
   rw [h2] at h1
   have:=Ze (M2 sec h n).1 (M2 sec h' n).1 (d7 _ _ _).2 h1
   exact an sec h h' n (Prod.ext this h2)
def BX (id:Int):Int × Int:=(Int.tdiv id 1024,Int.tmod id 1024)
theorem L4 {id:Int} (h0:0≤id) (h1:id < 1048576):bJ (BX id):=by
 have e1:0≤Int.tdiv id 1024∧Int.tdiv id 1024≤1023:=by rw [Int.tdiv_eq_ediv_of_nonneg h0]; omega
 have e2:0≤Int.tmod id 1024∧Int.tmod id 1024≤1023:=by rw [Int.tmod_eq_emod_of_nonneg h0]; omega
 exact ⟨e1,e2⟩
def kf (sec id:Int):Int:=(Yb sec (BX id) 8).1 * 1024 + (Yb sec (BX id) 8).2
theorem Sj (sec:Int) {id:Int} (h0:0≤id) (h1:id < 1048576):0≤kf sec id∧kf sec id≤1048575:=by
 obtain ⟨h2,h3⟩:=M2 sec (L4 h0 h1) 8
 unfold kf
 omega
theorem eD {sec a b:Int} (ha:0≤a) (ha1:a < 1048576) (hb:0≤b) (hb1:b < 1048576) (h:kf sec a = kf sec b):a = b:=by
 obtain ⟨h2,h3⟩:=M2 sec (L4 ha ha1) 8
 obtain ⟨h4,h5⟩:=M2 sec (L4 hb hb1) 8
 unfold kf at h
 have:=an sec (L4 ha ha1) (L4 hb hb1) 8 (Prod.ext (by omega) (by omega))
 have e1:Int.tdiv a 1024 = Int.tdiv b 1024:=congrArg Prod.fst this
 have e2:Int.tmod a 1024 = Int.tmod b 1024:=congrArg Prod.snd this
 rw [Int.tdiv_eq_ediv_of_nonneg ha,Int.tdiv_eq_ediv_of_nonneg hb] at e1
 rw [Int.tmod_eq_emod_of_nonneg ha,Int.tmod_eq_emod_of_nonneg hb] at e2
 omega
theorem fK {sec id:Int} (hs0:0≤sec) (hs1:sec < 1152921504606846976) (h0:0≤id) (h1:id < 1048576):Nx sec id = some (kf sec id):=by
 have hp:=L4 h0 h1
 refine Ok.val ?_
 unfold Nx
 refine Ok.bindE (x:=true) ?_ (Ok.no rfl ?_)
 ·unfold Mo
  rw [decide_eq_true hs0,decide_eq_true hs1,decide_eq_true h0,decide_eq_true h1]
  rfl
 ·refine Ok.for (fun q=>q.2.2) 8 (fun i q=>(q.1,q.2.1) = Yb sec (BX id) i) 0 (Nat.zero_le _) rfl (by rw [wr (by have:=hp.1; unfold BX at this; simp only at this; omega) (by have:=hp.1; unfold BX at this; simp only at this; omega)]; rfl) (by omega) (fun rec q hq hI=>?_) fun rec i q hi hq hI ih=>?_
  ·have hr:=M2 sec hp 8
   rw [← hI] at hr
   obtain ⟨⟨a1,a2⟩,b1,b2⟩:=hr
   simp only at a1 a2 b1 b2
   simp only [KG,hq]
   refine Ok.no rfl (Ok.some ?_)
   unfold kf
   rw [← hI,wr (n:=q.1 * 1024) (by omega) (by omega),wr]
  ·have hr:=M2 sec hp i
   rw [← hI] at hr
   obtain ⟨⟨a1,a2⟩,b1,b2⟩:=hr
   simp only at a1 a2 b1 b2
   simp only [KG,hq]
   rw [Bj]
   refine Ok.bindE (fL hs0 hs1 hi b1 b2) (ih _ EF ?_)
   rw [Yb,← hI]
   rfl
theorem eJ {sec id:Int} (hs0:0≤sec) (hs1:sec < 1152921504606846976) (h0:0≤id) (h1:id < 1048576):E6 sec id = some (kf sec id):=by
 have hp:=L4 h0 h1
 refine Ok.val ?_
 unfold E6
 refine Ok.bindE (x:=true) ?_ (Ok.no rfl ?_)
 ·unfold Hv
  rw [decide_eq_true hs0,decide_eq_true hs1,decide_eq_true h0,decide_eq_true h1]
  rfl
 ·refine Ok.for (fun q=>q.2.2) 8 (fun i q=>(q.1,q.2.1) = Yb sec (BX id) i) 0 (Nat.zero_le _) rfl (by rw [wr (by have:=hp.1; unfold BX at this; simp only at this; omega) (by have:=hp.1; unfold BX at this; simp only at this; omega)]; rfl) (by omega) (fun rec q hq hI=>?_) fun rec i q hi hq hI ih=>?_
  ·have hr:=M2 sec hp 8
   rw [← hI] at hr
   obtain ⟨⟨a1,a2⟩,b1,b2⟩:=hr
   simp only at a1 a2 b1 b2
   simp only [GI,hq]
   refine Ok.no rfl (Ok.some ?_)
   unfold kf
   rw [← hI,wr (n:=q.1 * 1024) (by omega) (by omega),wr]
  ·simp only [GI,hq]
   rw [Bj]
   refine Ok.bindE (d7 sec i q.2.1).1 (ih _ EF ?_)
   rw [Yb,← hI]
   rfl
theorem fE {i j:Nat} (h:i≤j) (hj:j≤1000000):IntKind.i64.wrap (Int.fdiv (IntKind.u64.wrap (IntKind.i64.wrap ((i:Int) + (j:Int)))) (2 ^ (min (1:Int).toNat IntKind.u64.bits))) = (((i + j) / 2:Nat):Int):=by
 have e:(2:Int) ^ (min (1:Int).toNat IntKind.u64.bits) = 2:=by decide
 rw [e,wr (n:=(i:Int) + j) (by omega) (by omega)]
 have e2:IntKind.u64.wrap ((i:Int) + j) = (i:Int) + j:=by
  unfold IntKind.wrap
  simp only [IntKind.signed,IntKind.bits]
  simp; omega
 rw [e2,Int.fdiv_eq_ediv_of_nonneg _ (by omega)]
 rw [wr] <;> omega
structure At {α:Type} (key:α→Int) (l:List α) (x:Int) (p:Nat):Prop where
 le:p≤l.length
 lo:∀ (k:Nat) (hk:k < l.length),k < p→key l[k] < x
 hi:∀ (k:Nat) (hk:k < l.length),p≤k→x≤key l[k]
theorem WT {α:Type} {key:α→Int} {l:List α} {x:Int} (hs:l.Pairwise fun a b=>key a < key b) (hl:l.length≤1000000) {ρ:Type} {Q:ρ→Prop} {kont:Int→Int→Option ρ} {less:α→Option Bool} (hless:∀ a∈l,less a = some (decide (key a < x)))
 (hk:∀ p:Nat,At key l x p→Ok (kont (p:Int) (p:Int)) Q) {body:(Int × Int→Option ρ)→Int × Int→Option ρ}
 (hb:∀ rec (s:Int × Int),body rec s = bif (decide (s.1 < s.2)) then
     (idx l (IntKind.i64.wrap (Int.fdiv (IntKind.u64.wrap (IntKind.i64.wrap (s.1 + s.2))) (2 ^ (min (1:Int).toNat IntKind.u64.bits))))).bind fun a=>(less a).bind fun b =>
     bif b then rec ((IntKind.i64.wrap ((IntKind.i64.wrap (Int.fdiv (IntKind.u64.wrap (IntKind.i64.wrap (s.1 + s.2))) (2 ^ (min (1:Int).toNat IntKind.u64.bits)))) + 1)),s.2)
     else rec (s.1,(IntKind.i64.wrap (Int.fdiv (IntKind.u64.wrap (IntKind.i64.wrap (s.1 + s.2))) (2 ^ (min (1:Int).toNat IntKind.u64.bits)))))
  else kont s.1 s.2):Ok (iter body AI (0,((l.length:Nat):Int))) Q:=by
 have asc:∀ {a b:Nat} (ha:a < l.length) (hb:b < l.length),a≤b→key l[a]≤key l[b]:=by
  intro a b ha hb hab
  rcases Nat.lt_or_eq_of_le hab with h | h
  ·have:=(List.pairwise_iff_getElem.1 hs) a b ha hb h
   omega
  ·subst h; omega
 refine Ok.loop (fun s=>∃ i j:Nat,s = ((i:Int),(j:Int))∧i≤j∧j≤l.length∧(∀ (k:Nat) (hk:k < l.length),k < i→key l[k] < x)∧∀ (k:Nat) (hk:k < l.length),j≤k→x≤key l[k]) (fun s=>(s.2 - s.1).toNat)
  ⟨0,l.length,rfl,Nat.zero_le _,Nat.le_refl _,fun k _ h=>by omega,fun k hk h=>by omega⟩ (by unfold AI; simp; omega) fun rec s ⟨i,j,e,hij,hjl,h1,h2⟩ ih=>?_
 subst e
 rw [hb]
 by_cases hlt:i < j
 ·rw [Bj,fE hij (by omega)]
  have hm:(i + j) / 2 < l.length:=by omega
  refine Ok.idxn hm (Ok.bindE (hless _ (List.getElem_mem hm)) (Ok.brd (fun h=>?_) fun h=>?_))
  ·refine ih _ ⟨(i + j) / 2 + 1,j,by rw [EF],by omega,hjl,fun k hk hk2=>?_,h2⟩ ?_
   ·have:=asc hk hm (by omega)
    omega
   ·rw [EF]; simp only; omega
  ·refine ih _ ⟨i,(i + j) / 2,rfl,by omega,by omega,h1,fun k hk hk2=>?_⟩ ?_
   ·have:=asc hm hk hk2
    omega
   ·simp only; omega
 ·obtain rfl:i = j:=by omega
  rw [Br]
  exact hk i ⟨hjl,h1,h2⟩
theorem At.found {α:Type} {key:α→Int} {l:List α} {x:Int} {p:Nat} (hs:l.Pairwise fun a b=>key a < key b) (h:At key l x p):(∃ a∈l,key a = x)↔∃ hp:p < l.length,key l[p] = x:=by
 constructor
 ·rintro ⟨a,ha,rfl⟩
  obtain ⟨k,hk,rfl⟩:=List.mem_iff_getElem.1 ha
  have h1:p≤k:=by
   rcases Nat.lt_or_ge k p with h2 | h2
   ·have:=h.lo k hk h2; omega
   ·exact h2
  have hp:p < l.length:=by omega
  refine ⟨hp,?_⟩
  have h2:=h.hi p hp (Nat.le_refl _)
  rcases Nat.lt_or_eq_of_le h1 with h3 | h3
  ·have:=(List.pairwise_iff_getElem.1 hs) p k hp hk h3; omega
  ·subst h3; rfl
 ·rintro ⟨hp,e⟩
  exact ⟨_,List.getElem_mem hp,e⟩
theorem T3 {l:List Int} {x:Int} (hs:l.Pairwise (· < ·)) (hl:l.length≤1000000):∃ p:Nat,At id l x p∧Bc l x = some ((p:Int),decide (x∈l)):=by
 have:Ok (Bc l x) fun r=>∃ p:Nat,At id l x p∧r = ((p:Int),decide (x∈l)):=by
  unfold Bc
  refine WT (key:=id) (x:=x) hs hl (less:=fun a=>K3 a x) (fun a _=>?_) (fun p hp=>?_) fun rec s=>rfl
  ·show (FH a).bind _ = _
   simp [FH]
  ·unfold CE
   have hf:=hp.found hs
   have hm:x∈l↔∃ a∈l,id a = x:=⟨fun h=>⟨x,h,rfl⟩,fun ⟨a,h,e⟩=>by cases e; exact h⟩
   refine Ok.brd (fun h=>?_) fun h=>?_
   ·have hp2:p < l.length:=by omega
    refine Ok.idxn hp2 (Ok.br (fun e=>Ok.some ⟨p,hp,?_⟩) fun e=>Ok.idxn hp2 (Ok.bindE (x:=false) (by simp [EP]) (Ok.no rfl (Ok.some ⟨p,hp,?_⟩))))
    ·rw [decide_eq_true (hm.2 (hf.2 ⟨hp2,by simpa using e⟩))]
    ·rw [decide_eq_false (fun h2=>by obtain ⟨_,h3⟩:=hf.1 (hm.1 h2); simp at e; exact e h3)]
   ·refine Ok.some ⟨p,hp,?_⟩
    rw [decide_eq_false (fun h2=>by obtain ⟨h3,_⟩:=hf.1 (hm.1 h2); omega)]
 obtain ⟨r,h,p,hp,rfl⟩:=this
 exact ⟨p,hp,h⟩
theorem R8 {l:List (List Int)} {x:Int} (hs:PM l) (hl:l.length≤1000000) {cmp:List Int→Int→Option Int} {f:List Int→Int} (hc:∀ a∈l,cmp a x = some (f a)) (hlt:∀ a∈l,f a < 0↔hd a < x) (heq:∀ a∈l,f a = 0↔hd a = x) :
 ∃ p:Nat,At hd l x p∧AO l x cmp = some ((p:Int),l.any fun a=>hd a==x):=by
 have:Ok (AO l x cmp) fun r=>∃ p:Nat,At hd l x p∧r = ((p:Int),l.any fun a=>hd a==x):=by
  unfold AO
  refine WT (key:=hd) (x:=x) hs hl (kont:=Bw l cmp x) (less:=fun a=>(cmp a x).bind fun c=>some (decide (c < 0))) (fun a ha=>?_) (fun p hp=>?_) fun rec s=>?_
  ·show (cmp a x).bind _ = _
   rw [hc a ha]
   simp only [Option.bind_some]
   congr 1
   exact decide_eq_decide.2 (hlt a ha)
  ·unfold Bw
   have hf:=hp.found hs
   have hm:(l.any fun a=>hd a==x) = true↔∃ a∈l,hd a = x:=by simp [List.any_eq_true]
   refine Ok.brd (fun h=>?_) fun h=>?_
   ·have hp2:p < l.length:=by omega
    refine Ok.idxn hp2 (Ok.bindE (hc _ (List.getElem_mem hp2)) (Ok.some ⟨p,hp,?_⟩))
    congr 1
    rw [Bool.eq_iff_iff,hm,hf,beq_iff_eq,heq _ (List.getElem_mem hp2)]
    exact ⟨fun h=>⟨hp2,h⟩,fun ⟨_,h⟩=>h⟩
   ·refine Ok.some ⟨p,hp,?_⟩
    congr 1
    symm
    rw [Bool.eq_false_iff]
    intro h2
    obtain ⟨h3,_⟩:=hf.1 (hm.1 h2)
    omega
  ·show Bv _ _ _ _ _ _ _ = _
   unfold Bv
   congr 1
   congr 1
   funext a
   cases cmp a x <;> rfl
 obtain ⟨r,h,p,hp,rfl⟩:=this
 exact ⟨p,hp,h⟩
theorem PM.cons_iff {a:List Int} {l:List (List Int)}:PM (a :: l)↔(∀ b∈l,hd a < hd b)∧PM l:=List.pairwise_cons
theorem Um:∀ {a b:List (List Int)},PM a→PM b→(∀ r,r∈a↔r∈b)→a = b
 | [],[],_,_,_=>rfl
 | [],y :: _,_,_,h=>absurd ((h y).2 (List.mem_cons_self ..)) (by simp)
 | x :: _,[],_,_,h=>absurd ((h x).1 (List.mem_cons_self ..)) (by simp)
 | x :: a,y :: b,ha,hb,h=>by
   obtain ⟨h1,h2⟩:=PM.cons_iff.1 ha
   obtain ⟨h3,h4⟩:=PM.cons_iff.1 hb
   have e:x = y:=by
    rcases List.mem_cons.1 ((h x).1 (List.mem_cons_self ..)) with e | e
    ·exact e
    ·rcases List.mem_cons.1 ((h y).2 (List.mem_cons_self ..)) with e2 | e2
     ·exact e2.symm
     ·have:=h3 x e; have:=h1 y e2; omega
   subst e
   congr 1
   refine Um h2 h4 fun r=>⟨fun hr=>?_,fun hr=>?_⟩
   ·rcases List.mem_cons.1 ((h r).1 (List.mem_cons_of_mem _ hr)) with e | e
    ·subst e; have:=h1 r hr; omega
    ·exact e
   ·rcases List.mem_cons.1 ((h r).2 (List.mem_cons_of_mem _ hr)) with e | e
    ·subst e; have:=h3 r hr; omega
    ·exact e
theorem PM.eq_of_hd {l:List (List Int)} (h:PM l) {a b:List Int} (ha:a∈l) (hb:b∈l) (e:hd a = hd b):a = b:=by
 obtain ⟨i,hi,rfl⟩:=List.mem_iff_getElem.1 ha
 obtain ⟨j,hj,rfl⟩:=List.mem_iff_getElem.1 hb
 rcases Nat.lt_trichotomy i j with h1 | h1 | h1
 ·have:=(List.pairwise_iff_getElem.1 h) i j hi hj h1; omega
 ·subst h1; rfl
 ·have:=(List.pairwise_iff_getElem.1 h) j i hj hi h1; omega
theorem NI {l:List (List Int)} {row x:List Int} (h:PM l):x∈L5 l row↔x = row∨(x∈l∧hd x≠hd row):=by
 unfold L5
 simp only [List.mem_append,List.mem_cons,List.mem_filter,decide_eq_true_eq]
 constructor
 ·rintro (⟨h1,h2⟩ | h1 | ⟨h1,h2⟩)
  ·exact .inr ⟨h1,by omega⟩
  ·exact .inl h1
  ·exact .inr ⟨h1,by omega⟩
 ·rintro (h1 | ⟨h1,h2⟩)
  ·exact .inr (.inl h1)
  ·by_cases e:hd x < hd row
   ·exact .inl ⟨h1,e⟩
   ·exact .inr (.inr ⟨h1,by omega⟩)
end Go.Proofs.YtlpkhgkoihlghaaGreatDoor.P
namespace Go.Proofs.YtlpkhgkoihlghaaGreatDoor.P
open Go Go.Abs Go.Proofs
set_option maxRecDepth 100000
variable {s:Af}
theorem ez {a b:List Int} (ha:a.Pairwise (· < ·)) (hb:b.Pairwise (· < ·)) (h:∀ z,z∈a↔z∈b):a = b:=by
 have nd:∀ {l:List Int},l.Pairwise (· < ·)→l.Nodup:=fun h=>h.imp fun h=>Int.ne_of_lt h
 exact List.Perm.eq_of_pairwise (le:=(·≤·)) (fun a b _ _ h1 h2=>Int.le_antisymm h1 h2) (ha.imp fun h=>Int.le_of_lt h) (hb.imp fun h=>Int.le_of_lt h) ((List.perm_ext_iff_of_nodup (nd ha) (nd hb)).2 h)
theorem X3 {l:List Int} {x:Int} (hl:l.length≤1000):Ok (Eg l x) fun b=>(b = true↔x∈l):=by
 unfold Eg
 refine Ok.for (fun q=>q) l.length (fun k _=>∀ y∈l.take k,y≠x) 0 (Nat.zero_le _) rfl (fun y hy=>by simp at hy) (by omega) (fun rec q hq hI=>?_) fun rec k q hk hq hI ih=>?_
 ·simp only [KC,hq]
  rw [Br]
  rw [List.take_length] at hI
  exact Ok.some ⟨(fun h=>by cases h),fun h=>absurd rfl (hI x h)⟩
 ·simp only [KC,hq]
  rw [Bj]
  refine Ok.idxn hk (Ok.br (fun e=>Ok.some ⟨fun _=>?_,fun _=>rfl⟩) fun e=>ih _ EF fun y hy=>?_)
  ·have e:l[k] = x:=by simpa using e
   rw [← e]; exact List.getElem_mem hk
  ·rw [List.take_succ_eq_append_getElem hk] at hy
   rcases List.mem_append.1 hy with hy | hy
   ·exact hI y hy
   ·rw [List.mem_singleton] at hy; subst hy; simpa using e
theorem Up {l:List Int} {x:Int} (h:l.Pairwise (· < ·)) (hx:∀ y∈l,y < x):(l++[x]).Pairwise (· < ·):=by
 rw [List.pairwise_append]
 exact ⟨h,List.pairwise_singleton _ _,fun a ha b hb=>by rw [List.mem_singleton] at hb; subst hb; exact hx a ha⟩
theorem XD {l:List Int} {x:Int} (hl:l.length≤1000) (ha:l.Pairwise (· < ·)):Ok (Jt l x) fun r=>r.Pairwise (· < ·)∧(∀ z,z∈r↔z∈l∨z = x)∧r.length≤l.length + 1:=by
 unfold Jt
 refine Ok.bind (X3 hl) fun b hb=>Ok.br (fun e=>Ok.some ⟨ha,fun z=>⟨.inl,fun h=>h.elim id fun h=>by subst h; exact hb.1 e⟩,by omega⟩) fun e=>?_
 have hx:x ∉ l:=fun h=>by rw [hb.2 h] at e; cases e
 have hpw:=List.pairwise_iff_getElem.1 ha
 refine Ok.for (fun q=>q.2.1) l.length (fun k q=>q.2.2.Pairwise (· < ·)∧(∀ z,z∈q.2.2↔z∈l.take k∨(q.1 = true∧z = x))∧q.2.2.length≤k + 1∧(q.1 = false→q.2.2.length≤k∧∀ y∈l.take k,y < x)∧(q.1 = true→∀ (j:Nat) (hj:j < l.length),k≤j→x < l[j])) 0 (Nat.zero_le _) rfl
  ⟨List.Pairwise.nil,fun z=>by simp,by simp,fun _=>⟨by simp,fun y hy=>by simp at hy⟩,fun h=>by cases h⟩ (by omega) (fun rec q hq hI=>?_) fun rec k q hk hq hI ih=>?_
 ·obtain ⟨i1,i2,i3,i4,i5⟩:=hI
  rw [List.take_length] at i2 i4
  simp only [KD,hq]
  rw [Br]
  refine Ok.br (fun e=>Ok.rm (by simp; omega) (Ok.some ?_)) fun e=>Ok.some ⟨i1,fun z=>?_,i3⟩
  ·have e:q.1 = false:=by simpa using e
   obtain ⟨j1,j2⟩:=i4 e
   refine ⟨Up i1 fun y hy=>?_,fun z=>?_,by simp; omega⟩
   ·rcases (i2 y).1 hy with h | h
    ·exact j2 y h
    ·rw [e] at h; cases h.1
   ·rw [List.mem_append,i2 z,e]; simp
  ·have e:q.1 = true:=by simpa using e
   rw [i2 z,e]; simp
 ·obtain ⟨i1,i2,i3,i4,i5⟩:=hI
  have hlk:∀ y∈l.take k,y < l[k]:=by
   intro y hy
   obtain ⟨j,hj,rfl⟩:=List.getElem_of_mem hy
   rw [List.getElem_take]
   rw [List.length_take] at hj
   exact hpw j k (by omega) hk (by omega)
  have hxk:l[k]≠x:=fun h=>hx (by rw [← h]; exact List.getElem_mem hk)
  simp only [KD,hq]
  rw [Bj]
  refine Ok.idxn hk (Ok.br (fun e=>?_) fun e=>Ok.idxn hk (Ok.rm (by simp; omega) (ih _ EF ?_)))
  ·have e1:l[k] > x∧q.1 = false:=by
    by_cases h:l[k] > x
    ·rw [decide_eq_true h] at e; exact ⟨h,by simpa using e⟩
    ·rw [decide_eq_false h] at e; cases e
   obtain ⟨e1,e2⟩:=e1
   obtain ⟨j1,j2⟩:=i4 e2
   have hm:∀ y∈q.2.2,y∈l.take k:=fun y hy=>((i2 y).1 hy).elim id fun h=>by rw [e2] at h; cases h.1
   refine Ok.rm (by simp; omega) (Ok.idxn hk (Ok.rm (by simp; omega) (ih _ EF ⟨?_,fun z=>?_,by simp; omega,(fun h=>by cases h),fun _ j hj hkj=>?_⟩)))
   ·refine Up (Up i1 fun y hy=>j2 y (hm y hy)) fun y hy=>?_
    rcases List.mem_append.1 hy with hy | hy
    ·exact hlk y (hm y hy)
    ·rw [List.mem_singleton] at hy; subst hy; exact e1
   ·rw [List.take_succ_eq_append_getElem hk]
    simp only [List.mem_append,List.mem_singleton,i2 z,e2]
    simp
    constructor
    ·rintro ((h | h) | h)
     ·exact .inl (.inl h)
     ·exact .inr h
     ·exact .inl (.inr h)
    ·rintro ((h | h) | h)
     ·exact .inl (.inl h)
     ·exact .inr h
     ·exact .inl (.inr h)
   ·rcases Nat.lt_or_ge k j with h | h
    ·have:=hpw k j hk hj h; omega
    ·obtain rfl:j = k:=by omega
     exact e1
  ·refine ⟨Up i1 fun y hy=>?_,fun z=>?_,by simp; omega,fun h=>?_,fun h j hj hkj=>i5 h j hj (by omega)⟩
   ·rcases (i2 y).1 hy with h | ⟨h,rfl⟩
    ·exact hlk y h
    ·exact i5 h k hk (Nat.le_refl _)
   ·rw [List.take_succ_eq_append_getElem hk]
    simp only [List.mem_append,List.mem_singleton,i2 z]
    constructor
    ·rintro ((h | h) | h)
     ·exact .inl (.inl h)
     ·exact .inr h
     ·exact .inl (.inr h)
    ·rintro ((h | h) | h)
     ·exact .inl (.inl h)
     ·exact .inr h
     ·exact .inl (.inr h)
   ·obtain ⟨j1,j2⟩:=i4 h
    refine ⟨by simp; omega,fun y hy=>?_⟩
    rw [List.take_succ_eq_append_getElem hk] at hy
    rcases List.mem_append.1 hy with hy | hy
    ·exact j2 y hy
    ·rw [List.mem_singleton] at hy; subst hy
     have hn:¬ (l[k] > x):=fun hgt=>by
      rw [decide_eq_true hgt] at e
      rw [h] at e
      cases e
     omega
theorem bv {l:List Int} {x:Int} (hl:l.length≤1000000):B9 l x = some (l.any fun y=>x==y):=by
 unfold B9
 have h:DO l x = some (OJ (fun y=>x==y) l):=KU (p:=fun y=>some (x==y)) (fun _ _=>rfl) (by omega)
 rw [h,Option.bind_some,KQ]
structure Ja (x:Aq) (g:Nat):Prop where
 schema:DS x.Schema
 rows:∀ r∈x.Rows,Jc x.Schema r
 asc:PM x.Rows
 len:x.Rows.length≤8 + g
 gone:x.Gone.Pairwise (· < ·)
 goneR:∀ v∈x.Gone,1≤v∧v≤1000
 glen:x.Gone.length≤g
 apart:∀ r∈x.Rows,hd r ∉ x.Gone
 version:x.Version = g
 small:g≤10
theorem bN.src {x:Aq} (h:bN x 8):Ja x 0 :=
 ⟨h.schema,h.rows,h.asc,h.len,by rw [h.gone]; exact List.Pairwise.nil,by rw [h.gone]; simp,by rw [h.gone]; simp,by rw [h.gone]; simp,h.version,by omega⟩
theorem Ja.rne {x:Aq} {g:Nat} (h:Ja x g):∀ r∈x.Rows,r≠[]:=fun r hr=>(h.rows r hr).ne h.schema
theorem ZU {x:Aq} (hne:∀ r∈x.Rows,r≠[]) (hl:x.Rows.length≤1000) (id:Int):∃ r,Cr x id = some r∧(0≤r↔∃ a∈x.Rows,hd a = id):=by
 have:Ok (Cr x id) fun r=>(0≤r↔∃ a∈x.Rows,hd a = id):=by
  unfold Cr
  refine Ok.for (fun q=>q) x.Rows.length (fun k _=>∀ a∈x.Rows.take k,hd a≠id) 0 (Nat.zero_le _) rfl (by simp) (by omega) (fun rec q hq hI=>?_) fun rec k q hk hq hI ih=>?_
  ·simp only [Hl,hq]
   rw [Br]
   rw [List.take_length] at hI
   exact Ok.some ⟨fun h=>by omega,fun ⟨a,ha,e⟩=>absurd e (hI a ha)⟩
  ·simp only [Hl,hq]
   rw [Bj]
   have hn:=hne _ (List.getElem_mem hk)
   have hstep:hd x.Rows[k]≠id→∀ a∈x.Rows.take (k + 1),hd a≠id:=fun h a ha=>by
    rw [List.take_succ_eq_append_getElem hk] at ha
    rcases List.mem_append.1 ha with ha | ha
    ·exact hI a ha
    ·rw [List.mem_singleton] at ha; subst ha; exact h
   refine Ok.idxn hk (Ok.brd (fun _=>Ok.idxn hk (Ok.bindE (BV hn) (Ok.br (fun he=>Ok.some ?_) fun he=>ih _ EF (hstep ?_)))) fun hz=>?_)
   ·exact ⟨fun _=>⟨_,List.getElem_mem hk,by simpa using he⟩,fun _=>by omega⟩
   ·simpa using he
   ·have:=List.length_pos_iff.2 hn
    omega
 exact this
theorem XQ {x:Aq} {g:Nat} (h:Ja x g):Gr x = some true:=by
 have hl:=h.len
 have hg:=h.glen
 have hs:=h.small
 refine Ok.val ?_
 unfold Gr
 refine Ok.bindE h.schema.rcheck (Ok.no ?_ ?_)
 ·rw [h.version,df,df,df,df]; rfl
 refine Ok.for (fun q=>q) x.Rows.length (fun _ _=>True) 0 (Nat.zero_le _) rfl trivial (by omega) (fun rec q hq _=>?_) fun rec i q hi hq _ ih=>?_
 ·simp only [I9,hq]
  rw [Br]
  unfold IB
  refine Ok.for (fun q=>q) x.Gone.length (fun _ _=>True) 0 (Nat.zero_le _) rfl trivial (by omega) (fun rec q hq _=>?_) fun rec i q hi hq _ ih=>?_
  ·simp only [IA,hq]
   rw [Br]
   exact Ok.some rfl
  ·simp only [IA,hq]
   rw [Bj]
   have hr:=h.goneR _ (List.getElem_mem hi)
   obtain ⟨r,hr1,hr2⟩:=ZU (x:=x) h.rne (by omega) x.Gone[i]
   have hr3:¬ 0≤r:=fun h0=>by
    obtain ⟨a,ha,e⟩:=hr2.1 h0
    exact h.apart a ha (by rw [e]; exact List.getElem_mem hi)
   have hr4:decide (r ≥ 0) = false:=df
   have tail:Ok ((idx x.Gone (i:Int)).bind fun x113=>(Cr x x113).bind fun x115=>bif (decide (x115 ≥ 0)) then some false else rec (IntKind.i64.wrap ((i:Int) + 1))) (· = true) :=
    Ok.idxn hi (Ok.bindE hr1 (Ok.no hr4 (ih _ EF trivial)))
   refine Ok.idxn hi (Ok.no (df (by omega)) (Ok.idxn hi (Ok.no (df (by omega)) (Ok.brd (fun h1=>?_) fun _=>tail))))
   have e:IntKind.i64.wrap ((i:Int) - 1) = ((i - 1:Nat):Int):=by rw [wr]; omega
   rw [e]
   have hi3:i - 1 < x.Gone.length:=by omega
   have hlt:=(List.pairwise_iff_getElem.1 h.gone) (i - 1) i hi3 hi (by omega)
   exact Ok.idxn hi (Ok.idxn hi3 (Ok.no (df (by omega)) tail))
 ·simp only [I9,hq]
  rw [Bj]
  have hr:=h.rows _ (List.getElem_mem hi)
  refine Ok.idxn hi (Ok.bindE (eR h.schema hr) (Ok.no rfl (Ok.brd (fun h1=>?_) fun _=>ih _ EF trivial)))
  have e:IntKind.i64.wrap ((i:Int) - 1) = ((i - 1:Nat):Int):=by rw [wr]; omega
  rw [e]
  have hi3:i - 1 < x.Rows.length:=by omega
  have hlt:=(List.pairwise_iff_getElem.1 h.asc) (i - 1) i hi3 hi (by omega)
  refine Ok.idxn hi (Ok.bindE (BV (hr.ne h.schema)) (Ok.idxn hi3 (Ok.bindE (BV ((h.rows _ (List.getElem_mem hi3)).ne h.schema)) (Ok.brd (fun h2=>by omega) fun _=>ih _ EF trivial))))
theorem dl {l:List BD} {p:BD→Option Bool} (q:BD→Bool) (hp:∀ x∈l,p x = some (q x)) (hl:l.length≤1000000000):Bm l p = some (l.any q):=by
 unfold Bm
 rw [show BM l p = some (OJ q l) from KU hp hl,Option.bind_some,KQ]
theorem YH:(aN.all fun L=>decide (L.Codes.length≤100) && (Ey L).all fun v=>decide (0≤v) && decide (v < L.Codes.length) && !(L.Codes.any fun c=>c.Parent==v)) = true:=by decide +kernel
theorem fx (h:DS s) {i:Nat} (hi:i < s.Columns.length) {v:Int} (hv:bG s s.Columns[i] v):Ic s s.Columns[i] v = some true:=by
 refine Ok.val ?_
 unfold Ic
 rcases hv with ⟨hk,h1,h2⟩ | ⟨hk,L,hL,hL2,h1⟩ | ⟨hk,h1⟩
 ·refine Ok.yes (by rw [hk]; rfl) (Ok.some ?_)
  rw [dt,dt]; rfl
 ·have hf:=List.all_eq_true.1 YH L hL
  simp only [Bool.and_eq_true,decide_eq_true_eq,List.all_eq_true,Bool.not_eq_true'] at hf
  obtain ⟨hlen,hf⟩:=hf
  obtain ⟨⟨h2,h3⟩,h4⟩:=hf v h1
  refine Ok.no (by rw [hk]; rfl) (Ok.yes (by rw [hk]; rfl) (Ok.bindE hL2 (Ok.yes ?_ (Ok.bindE (dl (fun c=>c.Parent==v) (fun _ _=>rfl) (by omega)) (Ok.some ?_)))))
  ·rw [dt,dt]; rfl
  ·rw [h4]; rfl
 ·refine Ok.no (by rw [hk]; rfl) (Ok.no (by rw [hk]; rfl) (Ok.some ?_))
  rcases h1 with h1 | ⟨ho,rfl⟩
  ·rw [dt,dt]; rfl
  ·rw [ho]
   cases decide (Me ≥ s.Columns[i].Low) <;> cases decide (Me≤s.Columns[i].High) <;> rfl
theorem WN (h:DS s) {r:List Int} (hr:Jc s r):Ib s r = some true:=by
 have hc:=h.cols_length
 refine Ok.val ?_
 unfold Ib
 refine Ok.no (by rw [hr.1]; simp) ?_
 refine Ok.for (fun q=>q) s.Columns.length (fun _ _=>True) 0 (Nat.zero_le _) rfl trivial (by omega) (fun rec q hq _=>?_) fun rec i q hi hq _ ih=>?_
 ·simp only [IV,hq]
  rw [Br]
  exact Ok.some rfl
 ·simp only [IV,hq]
  rw [Bj]
  have hi2:i < r.length:=by rw [hr.1]; exact hi
  exact Ok.idxn hi (Ok.idxn hi2 (Ok.bindE (fx h hi (hr.2 i _ _ (List.getElem?_eq_getElem hi) (List.getElem?_eq_getElem hi2))) (Ok.no rfl (ih _ EF trivial))))
theorem aG {x:Aq} {g:Nat} (h:Ja x g):GV x = some true:=by
 have hl:=h.len
 have hg:=h.glen
 have hs:=h.small
 refine Ok.val ?_
 unfold GV
 refine Ok.bindE h.schema.check (Ok.no ?_ ?_)
 ·rw [h.version,df,df,df,df]; rfl
 refine Ok.for (fun q=>q) x.Gone.length (fun _ _=>True) 0 (Nat.zero_le _) rfl trivial (by omega) (fun rec q hq _=>?_) fun rec i q hi hq _ ih=>?_
 ·simp only [HB,hq]
  rw [Br]
  unfold HD
  refine Ok.for (fun q=>q) x.Rows.length (fun _ _=>True) 0 (Nat.zero_le _) rfl trivial (by omega) (fun rec q hq _=>?_) fun rec i q hi hq _ ih=>?_
  ·simp only [HC,hq]
   rw [Br]
   exact Ok.some rfl
  ·simp only [HC,hq]
   rw [Bj]
   have hr:=h.rows _ (List.getElem_mem hi)
   have hne:=hr.ne h.schema
   have tail:Ok ((idx x.Rows[i] 0).bind fun x99=>(Bc x.Gone x99).bind fun x101=>bif x101.2 then some false else rec (IntKind.i64.wrap ((i:Int) + 1))) (· = true):=by
    obtain ⟨p,_,hp⟩:=T3 (x:=hd x.Rows[i]) h.gone (by omega)
    exact Ok.bindE (BV hne) (Ok.bindE hp (Ok.no (decide_eq_false (h.apart _ (List.getElem_mem hi))) (ih _ EF trivial)))
   refine Ok.idxn hi (Ok.bindE (WN h.schema hr) (Ok.no rfl (Ok.brd (fun h1=>?_) fun _=>tail)))
   have e:IntKind.i64.wrap ((i:Int) - 1) = ((i - 1:Nat):Int):=by rw [wr]; omega
   rw [e]
   have hi3:i - 1 < x.Rows.length:=by omega
   have hlt:=(List.pairwise_iff_getElem.1 h.asc) (i - 1) i hi3 hi (by omega)
   exact Ok.bindE (BV hne) (Ok.idxn hi3 (Ok.bindE (BV ((h.rows _ (List.getElem_mem hi3)).ne h.schema)) (Ok.no (df (by omega)) tail)))
 ·simp only [HB,hq]
  rw [Bj]
  have hr:=h.goneR _ (List.getElem_mem hi)
  refine Ok.idxn hi (Ok.no (by rw [df,df]; rfl) (Ok.brd (fun h1=>?_) fun _=>ih _ EF trivial))
  have e:IntKind.i64.wrap ((i:Int) - 1) = ((i - 1:Nat):Int):=by rw [wr]; omega
  rw [e]
  have hi3:i - 1 < x.Gone.length:=by omega
  have hlt:=(List.pairwise_iff_getElem.1 h.gone) (i - 1) i hi3 hi (by omega)
  exact Ok.idxn hi3 (Ok.no (df (by omega)) (ih _ EF trivial))
theorem HQ {l:List Int} (h:l.length≤1000000):AY l = some l:=by
 unfold AY
 rw [WS (by omega)]; rfl
theorem aK {l:List (List Int)} (hl:l.length≤1000000) (h:∀ r∈l,r.length≤1000000):FO l = some l:=by
 refine Ok.val ?_
 unfold FO
 refine Ok.for (fun q=>q.1) l.length (fun i q=>q.2 = l.take i) 0 (Nat.zero_le _) rfl rfl (by omega) (fun rec q hq hI=>?_) fun rec i q hi hq hI ih=>?_
 ·simp only [GY,hq]
  rw [Br,hI,List.take_length]
  exact Ok.some rfl
 ·simp only [GY,hq]
  rw [Bj]
  refine Ok.idxn hi (Ok.bindE (HQ (h _ (List.getElem_mem hi))) (Ok.rm (by rw [hI]; simp; omega) (ih _ EF ?_)))
  show q.2++[_] = _
  rw [hI,List.take_succ_eq_append_getElem hi]
theorem RG (h:DS s):CZ s = some s:=by
 have hc:=h.cols_length
 have hl:=h.lists2
 refine Ok.val ?_
 unfold CZ
 refine Ok.for (fun q=>q.1) s.Lists.length (fun i q=>q.2 = s.Lists.take i) 0 (Nat.zero_le _) rfl rfl (by omega) (fun rec q hq hI=>?_) fun rec i q hi hq hI ih=>?_
 ·simp only [DR,hq]
  rw [Br,hI,List.take_length]
  unfold DU
  refine Ok.for (fun q=>q.1) s.Columns.length (fun i q=>q.2 = s.Columns.take i) 0 (Nat.zero_le _) rfl rfl (by omega) (fun rec q hq hI=>?_) fun rec i q hi hq hI ih=>?_
  ·simp only [DT,hq]
   rw [Br,hI,List.take_length]
   exact Ok.some rfl
  ·simp only [DT,hq]
   rw [Bj]
   have hw:s.Columns[i].Widths.length≤4:=by
    rcases h.cl hi with ⟨_,e⟩ | ⟨_,h1 | h1⟩
    ·rw [e]; decide
    ·rw [h1.widths]; simp
    ·exact (Hq h1).2
   refine Ok.idxn hi (Ok.bindE (HQ (by omega)) (Ok.rm (by rw [hI]; simp; omega) (ih _ EF ?_)))
   show q.2++[_] = _
   rw [hI,List.take_succ_eq_append_getElem hi]
 ·simp only [DR,hq]
  rw [Bj]
  have hw:s.Lists[i].Codes.length≤100:=by
   have:=List.all_eq_true.1 YH _ (h.list hi)
   simp only [Bool.and_eq_true,decide_eq_true_eq] at this
   exact this.1
  refine Ok.idxn hi (Ok.bindE (x:=s.Lists[i].Codes) (by unfold CF; rw [WS (by omega)]; rfl) (Ok.rm (by rw [hI]; simp; omega) (ih _ EF ?_)))
  show q.2++[_] = _
  rw [hI,List.take_succ_eq_append_getElem hi]
end Go.Proofs.YtlpkhgkoihlghaaGreatDoor.P
namespace Go.Proofs.YtlpkhgkoihlghaaGreatDoor.P
open Go Go.Abs Go.Proofs
set_option maxRecDepth 100000
variable {s:Af}
theorem At.take {α:Type} {key:α→Int} {l:List α} {x:Int} {p:Nat} (h:At key l x p):l.take p = l.filter fun a=>decide (key a < x):=by
 conv=>rhs; rw [← List.take_append_drop p l]
 rw [List.filter_append,(List.filter_eq_self (l:=l.take p)).2,(List.filter_eq_nil_iff (l:=l.drop p)).2,List.append_nil]
 ·intro a ha
  obtain ⟨i,hi,rfl⟩:=List.mem_drop_iff_getElem.1 ha
  have:=h.hi (p + i) (by omega) (by omega)
  simp; omega
 ·intro a ha
  obtain ⟨i,hi,rfl⟩:=List.mem_take_iff_getElem.1 ha
  have:=h.lo i (by omega) (by omega)
  simp; omega
theorem At.drop {α:Type} {key:α→Int} {l:List α} {x:Int} {p:Nat} (h:At key l x p):l.drop p = l.filter fun a=>decide (x≤key a):=by
 conv=>rhs; rw [← List.take_append_drop p l]
 rw [List.filter_append,(List.filter_eq_self (l:=l.drop p)).2,(List.filter_eq_nil_iff (l:=l.take p)).2,List.nil_append]
 ·intro a ha
  obtain ⟨i,hi,rfl⟩:=List.mem_take_iff_getElem.1 ha
  have:=h.lo i (by omega) (by omega)
  simp; omega
 ·intro a ha
  obtain ⟨i,hi,rfl⟩:=List.mem_drop_iff_getElem.1 ha
  have:=h.hi (p + i) (by omega) (by omega)
  simp; omega
theorem At.next {α:Type} {key:α→Int} {l:List α} {x:Int} {p:Nat} (hs:l.Pairwise fun a b=>key a < key b) (h:At key l x p) (hp:p < l.length) (e:key l[p] = x):At key l (x + 1) (p + 1):=by
 refine ⟨by omega,fun k hk hk2=>?_,fun k hk hk2=>?_⟩
 ·rcases Nat.lt_or_eq_of_le (Nat.le_of_lt_succ hk2) with h1 | h1
  ·have:=h.lo k hk h1; omega
  ·subst h1; omega
 ·have:=(List.pairwise_iff_getElem.1 hs) p k hp hk (by omega); omega
theorem At.insert {l:List (List Int)} {row:List Int} {p:Nat} (h:At hd l (hd row) p) (hn:∀ a∈l,hd a≠hd row):l.take p++[row]++l.drop p = L5 l row:=by
 rw [h.take,h.drop,L5,List.append_assoc,List.singleton_append]
 congr 2
 refine List.filter_congr fun a ha=>?_
 have:=hn a ha
 exact decide_eq_decide.2 (by omega)
theorem At.set {l:List (List Int)} {row:List Int} {p:Nat} (hs:PM l) (h:At hd l (hd row) p) (hp:p < l.length) (e:hd l[p] = hd row):l.set p row = L5 l row:=by
 rw [List.set_eq_take_append_cons_drop,if_pos hp,h.take,(h.next hs hp e).drop,L5]
 rfl
theorem At.delete {l:List (List Int)} {x:Int} {p:Nat} (hs:PM l) (h:At hd l x p) (hp:p < l.length) (e:hd l[p] = x):l.take p++l.drop (p + 1) = l.filter fun a=>hd a != x:=by
 refine Um ?_ (hs.sublist List.filter_sublist) fun r=>?_
 ·rw [h.take,(h.next hs hp e).drop]
  refine List.pairwise_append.2 ⟨hs.sublist List.filter_sublist,hs.sublist List.filter_sublist,fun a ha b hb=>?_⟩
  have h1:=(List.mem_filter.1 ha).2
  have h2:=(List.mem_filter.1 hb).2
  simp at h1 h2; omega
 ·rw [h.take,(h.next hs hp e).drop]
  simp only [List.mem_append,List.mem_filter,decide_eq_true_eq,bne_iff_ne]
  constructor
  ·rintro (⟨h1,h2⟩ | ⟨h1,h2⟩) <;> exact ⟨h1,by omega⟩
  ·rintro ⟨h1,h2⟩
   by_cases h3:hd r < x
   ·exact .inl ⟨h1,h3⟩
   ·exact .inr ⟨h1,by omega⟩
theorem At.insI {l r:List Int} {x:Int} {p:Nat} (hs:l.Pairwise (· < ·)) (h:At id l x p) (hn:x ∉ l) (hr:r.Pairwise (· < ·)) (hm:∀ z,z∈r↔z∈l∨z = x):l.take p++[x]++l.drop p = r:=by
 rw [h.take,h.drop]
 have hlt:∀ b∈l.filter (fun a=>decide (x≤id a)),x < b:=fun b hb=>by
  obtain ⟨h1,h2⟩:=List.mem_filter.1 hb
  have:b≠x:=fun e=>hn (e ▸ h1)
  simp at h2; omega
 refine ez ?_ hr fun z=>?_
 ·rw [List.append_assoc,List.singleton_append]
  refine List.pairwise_append.2 ⟨hs.sublist List.filter_sublist,List.pairwise_cons.2 ⟨hlt,hs.sublist List.filter_sublist⟩,fun a ha b hb=>?_⟩
  have h1:=(List.mem_filter.1 ha).2
  simp at h1
  rcases List.mem_cons.1 hb with rfl | hb
  ·exact h1
  ·have:=hlt b hb; omega
 ·rw [hm]
  simp only [List.mem_append,List.mem_filter,decide_eq_true_eq,List.mem_singleton,id]
  constructor
  ·rintro ((⟨h1,h2⟩ | h1) | ⟨h1,h2⟩)
   ·exact .inl h1
   ·exact .inr h1
   ·exact .inl h1
  ·rintro (h1 | h1)
   ·by_cases h3:z < x
    ·exact .inl (.inl ⟨h1,h3⟩)
    ·exact .inr ⟨h1,by omega⟩
   ·exact .inl (.inr h1)
theorem al {l:List (List Int)} (hne:∀ r∈l,r≠[]) (hl:l.length≤1000000) (x:Int):Jv l x = some (l.filter fun a=>hd a != x):=by
 refine Ok.val ?_
 unfold Jv
 refine Ok.for (fun q=>q.1) l.length (fun i q=>q.2 = (l.take i).filter fun a=>hd a != x) 0 (Nat.zero_le _) rfl rfl (by omega) (fun rec q hq hI=>?_) fun rec i q hi hq hI ih=>?_
 ·simp only [JB,hq]
  rw [Br,hI,List.take_length]
  exact Ok.some rfl
 ·simp only [JB,hq]
  rw [Bj]
  have hn:=hne _ (List.getElem_mem hi)
  have hle:=List.length_filter_le (fun a=>hd a != x) (l.take i)
  have hf:=EQ l (fun a=>hd a != x) hi
  refine Ok.idxn hi (Ok.bindE (BV hn) (Ok.br (fun e=>Ok.idxn hi (Ok.rm ?_ (ih _ EF ?_))) fun e=>ih _ EF ?_))
  ·rw [hI]; simp at hle ⊢; omega
  ·show q.2++[_] = _
   rw [hf,if_pos e,hI]
  ·show q.2 = _
   rw [hf,e,hI]; simp
theorem XC {x:Aq} (ha:PM x.Rows) (hne:∀ r∈x.Rows,r≠[]) (hr:∀ r∈x.Rows,1≤hd r∧hd r≤1000) (hl:x.Rows.length≤1000) {id:Int} (h0:0≤id) (h1:id≤1048575):∃ p:Nat,At hd x.Rows id p∧GW x id = some ((p:Int),x.Rows.any fun a=>hd a==id):=by
 have hc:∀ a∈x.Rows,El a id = some (hd a - id):=fun a haa=>by
  have:=hr a haa
  unfold El
  rw [BV (hne a haa),Option.bind_some,wr]
 obtain ⟨p,hp,e⟩:=R8 (x:=id) (cmp:=El) (f:=fun a=>hd a - id) ha (by omega) hc (fun a _=>by omega) (fun a _=>by omega)
 refine ⟨p,hp,?_⟩
 unfold GW
 rw [e]; rfl
def Ul (e:B1):Int:=bif decide (e.Kind≤2) then hd e.Row else e.Id
structure ek (s:Af) (e:B1):Prop where
 kind:1≤e.Kind∧e.Kind≤4
 row:e.Kind≤2→Jc s e.Row∧e.Id = 0
 id:3≤e.Kind→1≤e.Id∧e.Id≤1000
def IY (x:Aq) (rows:List (List Int)) (gone:List Int) (g:Nat):Aq:={ Schema:=x.Schema,Rows:=rows,Gone:=gone,Version:=((g + 1:Nat):Int) }
theorem Ti {x:Aq} {g:Nat} (h:Ja x g) (e:B1) {c:Int} {y:Aq} (hc:E9 (IY x x.Rows x.Gone g) e = some (0,y)):F2 x e = some (y,0):=by
 have hl:=h.len
 have hg:=h.glen
 have hs:=h.small
 have hcl:=h.schema.cols_length
 refine Ok.val ?_
 unfold F2
 refine Ok.bindE (aG h) (Ok.no ?_ (Ok.bindE (RG h.schema) (Ok.bindE (aK (by omega) fun r hr=>by rw [(h.rows r hr).1]; omega) (Ok.bindE (HQ (by omega)) ?_))))
 ·rw [h.version]
  have:((g:Int)==300) = false:=beq_eq_false_iff_ne.2 (by omega)
  rw [this]; rfl
 ·have e1:({ Schema:=x.Schema,Rows:=x.Rows,Gone:=x.Gone,Version:=IntKind.i64.wrap (x.Version + 1) }:Aq) = IY x x.Rows x.Gone g:=by
   rw [h.version,EF]; rfl
  rw [e1]
  exact Ok.bindE hc (Ok.no rfl (Ok.some rfl))
theorem dH {x:Aq} {g:Nat} (h:Ja x g) (hg:g < 10) {row:List Int} (hr:Jc x.Schema row) (hn:hd row ∉ x.Gone):Ja (IY x (L5 x.Rows row) x.Gone g) (g + 1)∧∀ r,hd r≠hd row→(r∈x.Rows↔r∈L5 x.Rows row):=by
 have hl:=Ke x.Rows row
 have:=h.len
 have:=h.glen
 refine ⟨⟨h.schema,fun r hr2=>?_,S9 h.asc,by show (L5 x.Rows row).length≤_; omega,h.gone,h.goneR,by show x.Gone.length≤_; omega,fun r hr2=>?_,rfl,by omega⟩,fun r hne=>?_⟩
 ·rcases Vh hr2 with e | e
  ·rw [e]; exact hr
  ·exact h.rows r e
 ·rcases Vh hr2 with e | e
  ·rw [e]; exact hn
  ·exact h.apart r e
 ·rw [NI h.asc]
  exact ⟨fun h=>.inr ⟨h,hne⟩,fun h=>h.elim (fun e=>absurd (by rw [e]) hne) fun h=>h.1⟩
theorem Zd {x:Aq} {g:Nat} (h:Ja x g) (hg:g < 10) {id:Int} {gone:List Int} (hgo:gone.Pairwise (· < ·)) (hgr:∀ v∈gone,1≤v∧v≤1000) (hgl:gone.length≤g + 1) (hap:∀ v∈gone,v∈x.Gone∨v = id) :
 Ja (IY x (x.Rows.filter fun a=>hd a != id) gone g) (g + 1)∧∀ r,hd r≠id→(r∈x.Rows↔r∈x.Rows.filter fun a=>hd a != id):=by
 have hl:=List.length_filter_le (fun a=>hd a != id) x.Rows
 have:=h.len
 refine ⟨⟨h.schema,fun r hr=>h.rows r (List.mem_filter.1 hr).1,h.asc.sublist List.filter_sublist,by show (x.Rows.filter _).length≤_; omega,hgo,hgr,hgl,fun r hr hg=>?_,rfl,by omega⟩,fun r hne=>?_⟩
 ·obtain ⟨h1,h2⟩:=List.mem_filter.1 hr
  rcases hap _ hg with h3 | h3
  ·exact h.apart r h1 h3
  ·simp at h2; exact h2 h3
 ·rw [List.mem_filter]
  exact ⟨fun h=>⟨h,by simpa using hne⟩,fun h=>h.1⟩
def Qd:Aq:={ Schema:={ Lists:=[],Columns:=[] },Rows:=[],Gone:=[],Version:=0 }
def Zl (x:Aq) (e:B1) (g:Nat) (r:Aq × Int):Prop:=r.2 = 0→F2 x e = some (r.1,0)∧Ja r.1 (g + 1)∧r.1.Schema = x.Schema∧∀ q,hd q≠Ul e→(q∈x.Rows↔q∈r.1.Rows)
theorem fi {x:Aq} {e:B1} {g:Nat} {c:Int} (h:c≠0):Ok (some (Qd,c)) (Zl x e g):=Ok.some fun h2=>absurd h2 h
theorem LR {l:List (List Int)} {x:Int}:(l.any fun a=>hd a==x) = true↔∃ a∈l,hd a = x:=by simp [List.any_eq_true]
theorem bP {l:List (List Int)} {x:Int} (h:¬ ∃ a∈l,hd a = x):(l.any fun a=>hd a==x) = false:=by
 rw [Bool.eq_false_iff]
 exact fun h2=>h (LR.1 h2)
theorem fF {l:List (List Int)} {p:Nat} (hp:p≤l.length) (hl:l.length≤1000) (row:List Int):Dg l p [row] = some (l.take p++[row]++l.drop p):=by
 unfold Dg
 rw [dt ⟨by omega,by simpa using hp,rfl,by omega⟩]
 simp
theorem insI {l:List Int} {p:Nat} (hp:p≤l.length) (hl:l.length≤1000) (row:Int):Dv l p [row] = some (l.take p++[row]++l.drop p):=by
 unfold Dv
 rw [dt ⟨by omega,by simpa using hp,rfl,by omega⟩]
 simp
theorem fk {l:List (List Int)} {p:Nat} (hp:p < l.length) (hl:l.length≤1000):Cn l p (IntKind.i64.wrap ((p:Int) + 1)) = some (l.take p++l.drop (p + 1)):=by
 unfold Cn
 rw [EF,dt ⟨by omega,by omega,by rw [Int.toNat_natCast]; omega⟩]
 simp
theorem YU {x:Aq} {g:Nat} (h:Ja x g) (hg:g < 10) {e:B1} (hk:e.Kind = 1∨e.Kind = 2) (hr:Jc x.Schema e.Row) (h0:e.Id = 0) (hn:hd e.Row ∉ x.Gone) (hf:e.Kind = 1↔¬ ∃ a∈x.Rows,hd a = hd e.Row) :
 Zl x e g (IY x (L5 x.Rows e.Row) x.Gone g,0):=fun _=>by
 have hs:=h.small
 have hl:=h.len
 have hhd:=hr.hd h.schema
 have hcl:=h.schema.cols_length
 have hrr:∀ r∈x.Rows,1≤hd r∧hd r≤1000:=fun r hr=>(h.rows r hr).hd h.schema
 obtain ⟨h1,h2⟩:=dH h hg hr hn
 have ht:Ul e = hd e.Row:=by unfold Ul; rw [dt]; rfl
 refine ⟨Ti (c:=0) h e ?_,h1,rfl,fun q hq=>h2 q (by rw [← ht]; exact hq)⟩
 obtain ⟨p0,_,hp0⟩:=XC (x:=IY x x.Rows x.Gone g) h.asc h.rne hrr (by show x.Rows.length≤1000; omega) (id:=e.Id) (by omega) (by omega)
 obtain ⟨p,hp,hpp⟩:=XC (x:=IY x x.Rows x.Gone g) h.asc h.rne hrr (by show x.Rows.length≤1000; omega) (id:=hd e.Row) (by omega) (by omega)
 have hput:J0 (IY x x.Rows x.Gone g) e.Row (e.Kind==2) = some (0,IY x (L5 x.Rows e.Row) x.Gone g):=by
  refine Ok.val ?_
  unfold J0
  refine Ok.bindE (WN h.schema hr) (Ok.no rfl (Ok.bindE (BV (hr.ne h.schema)) (Ok.bindE (bv (by show x.Gone.length≤_; have:=h.glen; omega)) (Ok.no ?_ (Ok.bindE (BV (hr.ne h.schema)) (Ok.bindE hpp ?_))))))
  ·rw [Bool.eq_false_iff]
   intro h3
   obtain ⟨v,hv,he⟩:=List.any_eq_true.1 h3
   rw [beq_iff_eq.1 he] at hn
   exact hn hv
  ·rcases hk with hk | hk
   ·have hno:=hf.1 hk
    have e2:(e.Kind==2) = false:=by rw [hk]; rfl
    have hany:=bP hno
    have hlen:(((x.Rows.length:Nat):Int)==200) = false:=beq_eq_false_iff_ne.2 (by omega)
    rw [e2]
    refine Ok.no rfl (Ok.no rfl (Ok.no hany (Ok.no hlen (Ok.bindE (HQ (by rw [hr.1]; omega)) (Ok.bindE (fF hp.le (by show x.Rows.length≤_; omega) _) (Ok.some ?_))))))
    rw [hp.insert fun a ha he=>hno ⟨a,ha,he⟩]
    rfl
   ·have e2:(e.Kind==2) = true:=by rw [hk]; rfl
    have hyes:∃ a∈x.Rows,hd a = hd e.Row:=by
     refine Classical.byContradiction fun h3=>?_
     have:=hf.2 h3; omega
    have hany:=LR.2 hyes
    obtain ⟨hpl,hpe⟩:=(hp.found h.asc).1 hyes
    rw [e2]
    refine Ok.no ?_ (Ok.yes rfl (Ok.bindE (HQ (by rw [hr.1]; omega)) (Ok.idxn hpl (Ok.some ?_))))
    ·show (bif true then !(x.Rows.any fun a=>hd a==hd e.Row) else false) = false
     rw [hany]; rfl
    ·show (0,({ Schema:=x.Schema,Rows:=x.Rows.set ((p:Int)).toNat e.Row,Gone:=x.Gone,Version:=_ }:Aq)) = _
     rw [Int.toNat_natCast,hp.set h.asc hpl hpe]
     rfl
 refine Ok.val ?_
 unfold E9
 refine Ok.bindE hp0 ?_
 rcases hk with hk | hk
 ·exact Ok.yes (by rw [hk]; rfl) (Ok.bindE hput (Ok.some rfl))
 ·exact Ok.no (by rw [hk]; rfl) (Ok.yes (by rw [hk]; rfl) (Ok.bindE hput (Ok.some rfl)))
end Go.Proofs.YtlpkhgkoihlghaaGreatDoor.P
namespace Go.Proofs.YtlpkhgkoihlghaaGreatDoor.P
open Go Go.Abs Go.Proofs
set_option maxRecDepth 100000
variable {s:Af}
theorem Un {x:Aq} {e:B1} {g:Nat} (h:Ja x g) {rows:List (List Int)} {gone:List Int} (hb:Zl x e g (IY x rows gone g,0)):Ok (some (({ Schema:=x.Schema,Rows:=rows,Gone:=gone,Version:=IntKind.i64.wrap (x.Version + 1) }:Aq),(0:Int))) (Zl x e g):=by
 have e1:({ Schema:=x.Schema,Rows:=rows,Gone:=gone,Version:=IntKind.i64.wrap (x.Version + 1) }:Aq) = IY x rows gone g:=by
  have:=h.small
  rw [h.version,EF]; rfl
 rw [e1]
 exact Ok.some hb
theorem aF {x:Aq} {g:Nat} (h:Ja x g) (hg:g < 10) {e:B1} (hk:e.Kind = 1∨e.Kind = 2) (hr:Jc x.Schema e.Row) (h0:e.Id = 0) :
 Ok ((FJ x.Schema e.Row).bind fun x38 =>
  bif (x38 != 0) then some (Qd,x38) else
   (idx e.Row 0).bind fun x47 =>
   (Eg x.Gone x47).bind fun x49 =>
   bif x49 then some (Qd,20) else
    (idx e.Row 0).bind fun x54 =>
    (Cr x x54).bind fun x56 =>
    bif (bif (e.Kind==1) then (decide (x56 ≥ 0)) else false) then some (Qd,10) else
     bif (bif (e.Kind==1) then (((x.Rows.length:Nat):Int)==200) else false) then some (Qd,1) else
      bif (bif (e.Kind==2) then (!(decide (x56 ≥ 0))) else false) then some (Qd,19) else
       bif rm 0 e.Row.length then
        (FK x.Rows e.Row).bind fun x88 =>
        some (({ Schema:=x.Schema,Rows:=x88,Gone:=x.Gone,Version:=(IntKind.i64.wrap (x.Version + 1)) }:Aq),0)
       else none) (Zl x e g):=by
 have hl:=h.len
 have hgl:=h.glen
 have hne:=hr.ne h.schema
 have hcl:=h.schema.cols_length
 refine Ok.bindE (eR h.schema hr) (Ok.no rfl (Ok.bindE (BV hne) (Ok.bind (X3 (by omega)) fun b hb=>Ok.br (fun _=>fi (by decide)) fun hb2=>Ok.bindE (BV hne) ?_)))
 have hn:hd e.Row ∉ x.Gone:=fun h2=>by rw [hb.2 h2] at hb2; cases hb2
 obtain ⟨r,hr1,hr2⟩:=ZU (x:=x) h.rne (by omega) (hd e.Row)
 refine Ok.bindE hr1 ?_
 have hlen:(((x.Rows.length:Nat):Int)==200) = false:=beq_eq_false_iff_ne.2 (by omega)
 rw [hlen]
 rcases hk with hk | hk
 ·have e1:(e.Kind==1) = true:=by rw [hk]; rfl
  have e2:(e.Kind==2) = false:=by rw [hk]; rfl
  rw [e1,e2]
  refine Ok.brd (fun _=>fi (by decide)) fun h1=>Ok.no rfl (Ok.no rfl (Ok.rm (by rw [hr.1]; omega) (Ok.bindE (Vi h.rne hne h.asc (by omega)) (Un h (YU h hg (.inl hk) hr h0 hn ⟨fun _=>?_,fun _=>hk⟩)))))
  intro h3
  exact h1 (hr2.2 h3)
 ·have e1:(e.Kind==1) = false:=by rw [hk]; rfl
  have e2:(e.Kind==2) = true:=by rw [hk]; rfl
  rw [e1,e2]
  refine Ok.no rfl (Ok.no rfl ?_)
  by_cases h1:r ≥ 0
  ·refine Ok.no (by rw [cond_true,decide_eq_true h1]; rfl) (Ok.rm (by rw [hr.1]; omega) (Ok.bindE (Vi h.rne hne h.asc (by omega)) (Un h (YU h hg (.inr hk) hr h0 hn ⟨fun h3=>(by omega),fun h3=>absurd (hr2.1 h1) h3⟩))))
  ·exact Ok.yes (by rw [cond_true,decide_eq_false h1]; rfl) (fi (by decide))
theorem Zr {x:Aq} {g:Nat} (h:Ja x g) (hg:g < 10) {e:B1} (he:ek x.Schema e):Ok (EW x e) (Zl x e g):=by
 have hl:=h.len
 have hgl:=h.glen
 have hrr:∀ r∈x.Rows,1≤hd r∧hd r≤1000:=fun r hr=>(h.rows r hr).hd h.schema
 unfold EW
 refine Ok.bindE (XQ h) (Ok.no ?_ ?_)
 ·rw [h.version]
  have:((g:Int)==300) = false:=beq_eq_false_iff_ne.2 (by omega)
  rw [this]; rfl
 have hk:=he.kind
 rcases (by omega:e.Kind = 1∨e.Kind = 2∨e.Kind = 3∨e.Kind = 4) with hk1 | hk1 | hk1 | hk1
 ·refine Ok.yes (by rw [hk1]; rfl) ?_
  exact aF h hg (.inl hk1) (he.row (by omega)).1 (he.row (by omega)).2
 ·refine Ok.no (by rw [hk1]; rfl) (Ok.yes (by rw [hk1]; rfl) ?_)
  exact aF h hg (.inr hk1) (he.row (by omega)).1 (he.row (by omega)).2
 ·
  have hid:=he.id (by omega)
  have ht:Ul e = e.Id:=by unfold Ul; rw [df]; rfl
  obtain ⟨r,hr1,hr2⟩:=ZU (x:=x) h.rne (by omega) e.Id
  refine Ok.no (by rw [hk1]; rfl) (Ok.no (by rw [hk1]; rfl) (Ok.yes (by rw [hk1]; rfl) (Ok.bindE hr1 (Ok.brd (fun _=>fi (by decide)) fun h1=>Ok.bindE (al h.rne (by omega) e.Id) (Un h fun _=>?_)))))
  have hyes:=hr2.1 (by omega)
  obtain ⟨h2,h3⟩:=Zd h hg (id:=e.Id) (gone:=x.Gone) h.gone h.goneR (by omega) (fun v hv=>.inl hv)
  refine ⟨Ti (c:=0) h e ?_,h2,rfl,fun q hq=>h3 q (by rw [← ht]; exact hq)⟩
  obtain ⟨p,hp,hpp⟩:=XC (x:=IY x x.Rows x.Gone g) h.asc h.rne hrr (by show x.Rows.length≤1000; omega) (id:=e.Id) (by omega) (by omega)
  obtain ⟨hpl,hpe⟩:=(hp.found h.asc).1 hyes
  have hany:=LR.2 hyes
  refine Ok.val ?_
  unfold E9
  refine Ok.bindE hpp (Ok.no (by rw [hk1]; rfl) (Ok.no (by rw [hk1]; rfl) (Ok.yes (by rw [hk1]; rfl) (Ok.no ?_ (Ok.yes hany (Ok.bindE (fk hpl (by show x.Rows.length≤_; omega)) (Ok.some ?_)))))))
  ·show (!(x.Rows.any fun a=>hd a==e.Id)) = false
   rw [hany]; rfl
  ·show (0,IY x (x.Rows.take p++x.Rows.drop (p + 1)) x.Gone g) = _
   rw [hp.delete h.asc hpl hpe]
 ·
  have hid:=he.id (by omega)
  have ht:Ul e = e.Id:=by unfold Ul; rw [df]; rfl
  refine Ok.no (by rw [hk1]; rfl) (Ok.no (by rw [hk1]; rfl) (Ok.no (by rw [hk1]; rfl) (Ok.yes (by rw [hk1]; rfl) (Ok.no (by rw [df,df]; rfl) (Ok.bind (X3 (by omega)) fun b hb=>Ok.br (fun _=>fi (by decide)) fun hb2=>Ok.bindE (al h.rne (by omega) e.Id) (Ok.bind (XD (by omega) h.gone) fun gn hgn=>Un h fun _=>?_))))))
  have hn:e.Id ∉ x.Gone:=fun h2=>by rw [hb.2 h2] at hb2; cases hb2
  obtain ⟨h2,h3⟩:=Zd h hg (id:=e.Id) (gone:=gn) hgn.1 (fun v hv=>by
   rcases (hgn.2.1 v).1 hv with h4 | h4
   ·exact h.goneR v h4
   ·omega) (by have:=hgn.2.2; omega) (fun v hv=>(hgn.2.1 v).1 hv)
  refine ⟨Ti (c:=0) h e ?_,h2,rfl,fun q hq=>h3 q (by rw [← ht]; exact hq)⟩
  obtain ⟨p,hp,hpp⟩:=XC (x:=IY x x.Rows x.Gone g) h.asc h.rne hrr (by show x.Rows.length≤1000; omega) (id:=e.Id) (by omega) (by omega)
  obtain ⟨k,hkA,hkk⟩:=T3 (x:=e.Id) h.gone (by omega)
  have hins:=hkA.insI h.gone hn hgn.1 hgn.2.1
  refine Ok.val ?_
  unfold E9
  refine Ok.bindE hpp (Ok.no (by rw [hk1]; rfl) (Ok.no (by rw [hk1]; rfl) (Ok.no (by rw [hk1]; rfl) (Ok.yes (by rw [hk1]; rfl) (Ok.no (by rw [df,df]; rfl) (Ok.bindE hkk (Ok.no (decide_eq_false hn) (Ok.bindE (insI hkA.le (by show x.Gone.length≤_; omega) _) ?_))))))))
  have e0:x.Gone.take k++[e.Id]++x.Gone.drop k = gn:=hins
  refine Ok.br (fun hany=>?_) fun hany=>Ok.some ?_
  ·have hyes:=LR.1 hany
   obtain ⟨hpl,hpe⟩:=(hp.found h.asc).1 hyes
   refine Ok.bindE (fk hpl (by show x.Rows.length≤_; omega)) (Ok.some ?_)
   show (0,IY x (x.Rows.take p++x.Rows.drop (p + 1)) (x.Gone.take k++[e.Id]++x.Gone.drop k) g) = _
   rw [hp.delete h.asc hpl hpe,e0]
  ·show (0,IY x x.Rows (x.Gone.take k++[e.Id]++x.Gone.drop k) g) = _
   rw [e0]
   have:x.Rows.filter (fun a=>hd a != e.Id) = x.Rows:=by
    rw [List.filter_eq_self]
    intro a ha
    have:¬ ∃ a∈x.Rows,hd a = e.Id:=fun h5=>by
     have:=LR.2 h5
     have hany:(x.Rows.any fun a=>hd a==e.Id) = false:=hany
     rw [this] at hany; cases hany
    simp
    exact fun h6=>this ⟨a,ha,h6⟩
   rw [this]
theorem Ok.self {α:Type} {m:Option α} {Q:α→Prop} (h:Ok m Q):Ok m fun x=>m = Option.some x∧Q x:=by
 obtain ⟨x,h1,h2⟩:=h
 exact ⟨x,h1,h1,h2⟩
theorem Jc.set0 (h:DS s) {r:List Int} (hr:Jc s r) {v:Int} (h0:1≤v) (h1:v≤1000):Jc s (r.set 0 v):=by
 have hc:=h.cols_length
 refine ⟨by rw [List.length_set]; exact hr.1,fun i c w hi hw=>?_⟩
 rw [List.getElem?_set] at hw
 split at hw
 ·rename_i e
  subst e
  rw [if_pos (by rw [hr.1]; omega)] at hw
  cases hw
  rw [List.getElem?_eq_getElem (by omega),h.col0 (by omega)] at hi
  cases hi
  exact .inl ⟨rfl,h0,h1⟩
 ·exact hr.2 i c w hi hw
theorem dp {x:Aq} {g:Nat} (h:Ja x g) {c:Ae} (hc:ES c):Ok (F8 c x) fun r=>ES r.2∧ek x.Schema r.1:=by
 have hl:=h.len
 have hs:=h.small
 have hcl:=h.schema.cols_length
 unfold F8
 refine Ok.bind (FC hc (by omega) (by omega) (by omega) (by omega)) fun k hk=>Ok.bind (FC hk.1 (by omega) (by omega) (by omega) (by omega)) fun i hi=>?_
 have tail:∀ {c':Ae} {id:Int},ES c'→1≤id→id≤1000→Ok (Cq k x c' id) fun r=>ES r.2∧ek x.Schema r.1:=by
  intro c' id hc' h1 h2
  unfold Cq
  refine Ok.brd (fun hk2=>Ok.bind (cQ h.schema hc') fun r hr=>Ok.br (fun hk3=>?_) fun hk3=>Ok.some ⟨hr.1,hk.2,fun _=>⟨hr.2,rfl⟩,fun h3=>?_⟩) fun hk2=>Ok.some ⟨hc',hk.2,fun h3=>?_,fun _=>⟨h1,h2⟩⟩
  ·have hne:=hr.2.ne h.schema
   refine Ok.bindE (BV hne) (Ok.some ⟨hr.1,hk.2,fun _=>⟨hr.2.set0 h.schema h1 h2,rfl⟩,fun h3=>?_⟩)
   have h3:3≤k.1:=h3
   omega
  ·have h3:3≤k.1:=h3
   omega
  ·have h3:k.1≤2:=h3
   omega
 refine Ok.brd (fun hpos=>Ok.bind (L1 hi.1 (by omega) (by omega)) fun o ho=>Ok.br (fun _=>Ok.bind (Cv ho (by omega) (by omega)) fun n hn=>?_) fun _=>tail ho hi.2.1 (by omega)) fun _=>tail hi.1 hi.2.1 (by omega)
 have hlt:n.1.toNat < x.Rows.length:=by omega
 have hr:=h.rows _ (List.getElem_mem hlt)
 have hh:=hr.hd h.schema
 exact Ok.idx hn.2.1 hlt (Ok.bindE (BV (hr.ne h.schema)) (tail hn.1 hh.1 hh.2))
structure NZ (x:Aq) (l:List B1) (st:Nat→Aq):Prop where
 len:l.length≤5
 first:st 0 = x
 src:∀ i,i≤l.length→Ja (st i) i
 schema:∀ i,i≤l.length→(st i).Schema = x.Schema
 ref:∀ (i:Nat) (hi:i < l.length),EW (st i) l[i] = some (st (i + 1),0)
 prog:∀ (i:Nat) (hi:i < l.length),F2 (st i) l[i] = some (st (i + 1),0)
 edit:∀ (i:Nat) (hi:i < l.length),ek x.Schema l[i]
 keep:∀ (i:Nat) (hi:i < l.length) q,hd q≠Ul l[i]→(q∈(st i).Rows↔q∈(st (i + 1)).Rows)
theorem NZ.snoc {x:Aq} {l:List B1} {st:Nat→Aq} (h:NZ x l st) (hl:l.length < 5) {e:B1} (he:ek x.Schema e) {y:Aq} (hr:EW (st l.length) e = some (y,0)) (hb:Zl (st l.length) e l.length (y,0)) :
 NZ x (l++[e]) (fun i=>if i≤l.length then st i else y):=by
 obtain ⟨h1,h2,h3,h4⟩:=hb rfl
 have hlast:∀ {i:Nat} (hi:i < (l++[e]).length),¬ i < l.length→i = l.length∧(l++[e])[i] = e:=by
  intro i hi hn
  have:i = l.length:=by simp at hi; omega
  subst this
  exact ⟨rfl,by simp⟩
 refine ⟨by simp; omega,by simp [h.first],fun i hi=>?_,fun i hi=>?_,fun i hi=>?_,fun i hi=>?_,fun i hi=>?_,fun i hi q hq=>?_⟩
 ·by_cases hi2:i≤l.length
  ·rw [if_pos hi2]; exact h.src i hi2
  ·rw [if_neg hi2]
   have:i = l.length + 1:=by simp at hi; omega
   rw [this]; exact h2
 ·by_cases hi2:i≤l.length
  ·rw [if_pos hi2]; exact h.schema i hi2
  ·rw [if_neg hi2]; exact h3.trans (h.schema _ (Nat.le_refl _))
 ·by_cases hi2:i < l.length
  ·rw [if_pos (by omega),if_pos (by omega),List.getElem_append_left hi2]; exact h.ref i hi2
  ·obtain ⟨rfl,e1⟩:=hlast hi hi2
   rw [if_pos (Nat.le_refl _),if_neg (by omega),e1]; exact hr
 ·by_cases hi2:i < l.length
  ·rw [if_pos (by omega),if_pos (by omega),List.getElem_append_left hi2]; exact h.prog i hi2
  ·obtain ⟨rfl,e1⟩:=hlast hi hi2
   rw [if_pos (Nat.le_refl _),if_neg (by omega),e1]; exact h1
 ·by_cases hi2:i < l.length
  ·rw [List.getElem_append_left hi2]; exact h.edit i hi2
  ·obtain ⟨rfl,e1⟩:=hlast hi hi2
   rw [e1]; exact he
 ·by_cases hi2:i < l.length
  ·rw [List.getElem_append_left hi2] at hq
   rw [if_pos (by omega),if_pos (by omega)]; exact h.keep i hi2 q hq
  ·obtain ⟨rfl,e1⟩:=hlast hi hi2
   rw [e1] at hq
   rw [if_pos (Nat.le_refl _),if_neg (by omega)]; exact h4 q hq
theorem cg {x:Aq} (h:Ja x 0) {c:Ae} (hc:ES c):Ok (EJ c x 5) fun r=>ES r.2∧∃ st,NZ x r.1 st:=by
 unfold EJ
 refine Ok.bind (Cv hc (by decide) (by decide)) fun n hn=>?_
 have h5:n.1≤5:=by
  have:=hn.2.2
  have e:IntKind.i64.wrap (5 + 1) = 6:=by decide
  rw [e] at this; omega
 refine Ok.loop (fun s=>0≤s.1∧ES s.2.1∧∃ st,NZ x s.2.2.2 st∧s.2.2.1 = st s.2.2.2.length∧(s.2.2.2.length:Int) + s.1≤5) (fun s=>s.1.toNat) ⟨hn.2.1,hn.1,fun _=>x,⟨by simp,rfl,fun i hi=>?_,fun i hi=>rfl,fun i hi=>?_,fun i hi=>?_,fun i hi=>?_,fun i hi=>?_⟩,rfl,by simpa using h5⟩ (by unfold AI; simp only; omega) fun rec s ⟨i1,i2,st,i3,i4,i5⟩ ih=>?_
 ·have:i = 0:=by simpa using hi
  subst this; exact h
 ·simp at hi
 ·simp at hi
 ·simp at hi
 ·simp at hi
 ·simp only [Hb]
  refine Ok.brd (fun hpos=>?_) fun hpos=>Ok.some ⟨i2,st,i3⟩
  have hsrc:=i3.src _ (Nat.le_refl _)
  have hsch:=i3.schema _ (Nat.le_refl _)
  rw [i4]
  refine Ok.bind (dp hsrc i2) fun e he=>Ok.bind (Ok.self (Zr hsrc (by omega) he.2)) fun y hy=>Ok.br (fun h0=>Ok.rm (by simp; omega) (ih _ ⟨?_,he.1,_,i3.snoc (by omega) (by rw [← hsch]; exact he.2) (y:=y.1) ?_ ?_,?_,?_⟩ ?_)) fun _=>ih _ ⟨?_,he.1,st,i3,rfl,?_⟩ ?_
  ·show 0≤IntKind.i64.wrap (s.1 - 1); rw [wr]; omega
  ·have h0:y.2 = 0:=by simpa using h0
   rw [hy.1,← h0]
  ·have h0:y.2 = 0:=by simpa using h0
   intro _
   exact hy.2 h0
  ·show y.1 = if (s.2.2.2++[e.1]).length≤s.2.2.2.length then _ else y.1
   rw [if_neg (by simp)]
  ·show ((s.2.2.2++[e.1]).length:Int) + IntKind.i64.wrap (s.1 - 1)≤5
   rw [wr,List.length_append,List.length_singleton]; omega
  ·show (IntKind.i64.wrap (s.1 - 1)).toNat < s.1.toNat; rw [wr]; omega
  ·show 0≤IntKind.i64.wrap (s.1 - 1); rw [wr]; omega
  ·show (s.2.2.2.length:Int) + IntKind.i64.wrap (s.1 - 1)≤5
   rw [wr]; omega
  ·show (IntKind.i64.wrap (s.1 - 1)).toNat < s.1.toNat; rw [wr]; omega
theorem fS {x:Aq} {l:List B1} {st:Nat→Aq} (h:NZ x l st) {k:Nat} (hk:k≤l.length):Nu x l (k:Int) = some (st k,0):=by
 have hl:=h.len
 refine Ok.val ?_
 unfold Nu
 refine Ok.no (by rw [df,df]; rfl) ?_
 refine Ok.for (fun q=>q.1) k (fun i q=>q.2 = st i) 0 (Nat.zero_le _) rfl h.first.symm (by omega) (fun rec q hq hI=>?_) fun rec i q hi hq hI ih=>?_
 ·simp only [Mj,hq]
  rw [Br,hI]
  exact Ok.some rfl
 ·simp only [Mj,hq]
  have hi2:i < l.length:=by omega
  rw [Bj,hI]
  exact Ok.idxn hi2 (Ok.bindE (h.ref i hi2) (Ok.no rfl (ih _ EF rfl)))
theorem fR {x:Aq} {l:List B1} {st:Nat→Aq} (h:NZ x l st) {k:Nat} (hk:k≤l.length):KW x l (k:Int) = some (st k,0):=by
 have hl:=h.len
 have h0:=h.src 0 (Nat.zero_le _)
 rw [h.first] at h0
 have hcl:=h0.schema.cols_length
 have hxl:=h0.len
 have hgl:=h0.glen
 have hct:(HR l 0 (k:Int)) = l.take k:=by simp [HR]
 refine Ok.val ?_
 unfold KW
 refine Ok.no (by rw [df,df]; rfl) (Ok.bindE (RG h0.schema) (Ok.bindE (aK (by omega) fun r hr=>by rw [(h0.rows r hr).1]; omega) (Ok.bindE (HQ (by omega)) (Ok.gdd (by omega) ?_))))
 refine Ok.for (fun q=>q.1) k (fun i q=>q.2 = st i) 0 (Nat.zero_le _) rfl h.first.symm (by omega) (fun rec q hq hI=>?_) fun rec i q hi hq hI ih=>?_
 ·simp only [KO,hq]
  rw [hct,Br (by rw [List.length_take]; omega),hI]
  exact Ok.some rfl
 ·simp only [KO,hq]
  have hi2:i < l.length:=by omega
  have hi3:i < (l.take k).length:=by rw [List.length_take]; omega
  rw [hct,Bj (by omega),hI]
  refine Ok.idxn hi3 ?_
  rw [List.getElem_take]
  exact Ok.bindE (h.prog i hi2) (Ok.no rfl (ih _ EF rfl))
end Go.Proofs.YtlpkhgkoihlghaaGreatDoor.P
