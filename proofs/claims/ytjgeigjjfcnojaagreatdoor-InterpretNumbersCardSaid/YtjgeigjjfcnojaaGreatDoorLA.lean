/- LA -/
import GoSem.Core.Next
import Derived.Test.YtjgeigjjfcnojaaGreatDoorM4
set_option linter.unusedVariables false
set_option linter.unusedSimpArgs false
namespace Go.Proofs.YtjgeigjjfcnojaaGreatDoor.P
open Go Go.Proofs
def Ok {α:Type} (m:Option α) (Q:α→Prop):Prop:=∃ x,m = some x∧Q x
theorem Ok.some {α:Type} {x:α} {Q:α→Prop} (h:Q x):Ok (some x) Q:=⟨x,rfl,h⟩
theorem Ok.mono {α:Type} {m:Option α} {P Q:α→Prop} (h:Ok m P) (k:∀ x,P x→Q x):Ok m Q:=by
 obtain ⟨x,h1,h2⟩:=h
 exact ⟨x,h1,k x h2⟩
theorem Ok.bind {α β:Type} {m:Option α} {f:α→Option β} {P:α→Prop} {Q:β→Prop} (h:Ok m P) (k:∀ x,P x→Ok (f x) Q):Ok (m.bind f) Q:=by
 obtain ⟨x,h1,h2⟩:=h
 rw [h1]; exact k x h2
theorem Ok.eq {α:Type} {m:Option α} {x:α} (h:m = Option.some x):Ok m (· = x):=⟨x,h,rfl⟩
theorem Ok.val {α:Type} {m:Option α} {x:α} (h:Ok m (· = x)):m = Option.some x:=by
 obtain ⟨y,h1,rfl⟩:=h
 exact h1
theorem Ok.bindE {α β:Type} {m:Option α} {f:α→Option β} {x:α} {Q:β→Prop} (h:m = Option.some x) (k:Ok (f x) Q):Ok (m.bind f) Q:=by rw [h]; exact k
theorem Ok.gd {α:Type} {b:Bool} {x:Option α} {Q:α→Prop} (h:b = true) (k:Ok x Q):Ok (bif b then x else none) Q:=by rw [h]; exact k
theorem Ok.no {α:Type} {b:Bool} {x y:Option α} {Q:α→Prop} (h:b = false) (k:Ok y Q):Ok (bif b then x else y) Q:=by rw [h]; exact k
theorem Ok.yes {α:Type} {b:Bool} {x y:Option α} {Q:α→Prop} (h:b = true) (k:Ok x Q):Ok (bif b then x else y) Q:=by rw [h]; exact k
theorem Ok.gdd {α:Type} {p:Prop} [Decidable p] {x:Option α} {Q:α→Prop} (h:p) (k:Ok x Q):Ok (bif decide p then x else none) Q:=by rw [decide_eq_true h]; exact k
theorem Ok.br {α:Type} {b:Bool} {x y:Option α} {Q:α→Prop} (h1:b = true→Ok x Q) (h2:b = false→Ok y Q):Ok (bif b then x else y) Q:=by
 cases b
 ·exact h2 rfl
 ·exact h1 rfl
theorem Ok.brd {α:Type} {p:Prop} [Decidable p] {x y:Option α} {Q:α→Prop} (h1:p→Ok x Q) (h2:¬ p→Ok y Q):Ok (bif decide p then x else y) Q:=by
 by_cases h:p
 ·rw [decide_eq_true h]; exact h1 h
 ·rw [decide_eq_false h]; exact h2 h
theorem R3 {α:Type} {l:List α} {i:Int} (h0:0≤i) (h:i.toNat < l.length):idx l i = some l[i.toNat]:=by
 unfold idx
 rw [if_pos h0,List.getElem?_eq_getElem h]
theorem HB {α:Type} {l:List α} {i:Nat} (h:i < l.length):idx l (i:Int) = some l[i]:=by
 unfold idx
 rw [if_pos (by omega),Int.toNat_natCast,List.getElem?_eq_getElem h]
theorem Ok.idx {α β:Type} {l:List α} {i:Int} {f:α→Option β} {Q:β→Prop} (h0:0≤i) (h:i.toNat < l.length) (k:Ok (f l[i.toNat]) Q):Ok ((P.idx l i).bind f) Q:=by
 rw [R3 h0 h]; exact k
theorem Ok.idxn {α β:Type} {l:List α} {i:Nat} {f:α→Option β} {Q:β→Prop} (h:i < l.length) (k:Ok (f l[i]) Q):Ok ((P.idx l (i:Int)).bind f) Q:=by
 rw [HB h]; exact k
theorem Ok.iter {σ ρ:Type} {body:(σ→Option ρ)→σ→Option ρ} {Q:ρ→Prop} (I:σ→Prop) (μ:σ→Nat) (h:∀ rec s,I s→(∀ s',I s'→μ s' < μ s→Ok (rec s') Q)→Ok (body rec s) Q) :
 ∀ n s,I s→μ s < n→Ok (iter body n s) Q
 | 0,_,_,hn=>by omega
 | n + 1,s,hs,hn=>h _ s hs fun s' hs' hlt=>Ok.iter I μ h n s' hs' (by omega)
theorem Ok.loop {σ ρ:Type} {body:(σ→Option ρ)→σ→Option ρ} {Q:ρ→Prop} {s:σ} (I:σ→Prop) (μ:σ→Nat) (hs:I s) (hμ:μ s < AM) (h:∀ rec s,I s→(∀ s',I s'→μ s' < μ s→Ok (rec s') Q)→Ok (body rec s) Q):Ok (P.iter body AM s) Q:=Ok.iter I μ h AM s hs hμ
theorem Ok.for {σ ρ:Type} {body:(σ→Option ρ)→σ→Option ρ} {Q:ρ→Prop} {s:σ} (ix:σ→Int) (len:Nat) (I:Nat→σ→Prop) (k:Nat) (hk:k≤len) (h0:ix s = k) (hI:I k s) (hlen:len≤1000000000000)
 (hend:∀ rec s,ix s = (len:Int)→I len s→Ok (body rec s) Q)
 (hstep:∀ rec (i:Nat) s,i < len→ix s = (i:Int)→I i s→(∀ s',ix s' = ((i + 1:Nat):Int)→I (i + 1) s'→Ok (rec s') Q)→Ok (body rec s) Q):Ok (P.iter body AM s) Q:=by
 refine Ok.loop (fun s=>∃ i:Nat,ix s = i∧i≤len∧I i s) (fun s=>len - (ix s).toNat) ⟨k,h0,hk,hI⟩ (by unfold AM; omega) fun rec s ⟨i,h1,h2,h3⟩ ih=>?_
 by_cases e:i < len
 ·refine hstep rec i s e h1 h3 fun s' h4 h5=>ih s' ⟨i + 1,h4,by omega,h5⟩ ?_
  rw [h4,h1]; omega
 ·obtain rfl:i = len:=by omega
  exact hend rec s h1 h3
theorem df {p:Prop} [Decidable p] (h:¬ p:=by omega):decide p = false:=decide_eq_false h
theorem dt {p:Prop} [Decidable p] (h:p:=by omega):decide p = true:=decide_eq_true h
theorem wr {n:Int} (h0:-9223372036854775808≤n:=by omega) (h1:n≤9223372036854775807:=by omega):IntKind.i64.wrap n = n:=by
 unfold IntKind.wrap
 simp only [IntKind.signed,IntKind.bits]
 first | omega | (simp; omega)
theorem YZ {n m:Nat} (h:n + m≤137438953472):rm n m = true:=decide_eq_true h
theorem Ok.rm {α:Type} {n m:Nat} {x:Option α} {Q:α→Prop} (h:n + m≤137438953472) (k:Ok x Q):Ok (bif P.rm n m then x else none) Q:=Ok.gd (YZ h) k
theorem BO {α:Type} {p:Prop} [Decidable p] {x y:α} (h:p:=by omega):(bif decide p then x else y) = x:=by rw [decide_eq_true h]; rfl
theorem Co {α:Type} {p:Prop} [Decidable p] {x y:α} (h:¬ p:=by omega):(bif decide p then x else y) = y:=by rw [decide_eq_false h]; rfl
end Go.Proofs.YtjgeigjjfcnojaaGreatDoor.P
namespace Go.Proofs.YtjgeigjjfcnojaaGreatDoor.P
open Go Go.Abs Go.Proofs
set_option maxRecDepth 100000
def N5 (c:Am):Prop:=(∀ x∈c.f_l,0≤x∧x≤255)∧c.f_l.length≤400∧0≤c.f_at∧c.f_at≤c.f_l.length
theorem N5.at {c:Am} (h:N5 c) {i:Int} (h0:0≤i) (h1:i < c.f_l.length):∃ x,idx c.f_l i = some x∧0≤x∧x≤255:=by
 have hl:i.toNat < c.f_l.length:=by omega
 exact ⟨_,R3 h0 hl,h.1 _ (List.getElem_mem hl)⟩
theorem Zc {v n:Int} (hv:0≤v) (hn:1≤n):0≤Int.tmod v n∧Int.tmod v n < n:=by
 rw [Int.tmod_eq_emod_of_nonneg hv]
 exact ⟨Int.emod_nonneg _ (by omega),Int.emod_lt_of_pos _ (by omega)⟩
theorem IM {c:Am} (h:N5 c) {n:Int} (hn:1≤n) (hn2:n≤100000):Ok (Bq c n) fun r=>N5 r.2∧0≤r.1∧r.1 < n:=by
 obtain ⟨hx,hl,h0,h1⟩:=h
 have h':N5 c:=⟨hx,hl,h0,h1⟩
 unfold Bq
 refine Ok.brd (fun h=>by omega) fun _=>Ok.brd (fun h=>Ok.some ⟨h',by show (0:Int)≤0∧(0:Int) < n; omega⟩) fun hlt=>?_
 have e1:IntKind.i64.wrap (c.f_at + 1) = c.f_at + 1:=wr
 have e2:IntKind.i64.wrap (c.f_at + 1 - 1) = c.f_at:=by rw [wr]; omega
 obtain ⟨x,hx1,hx2,hx3⟩:=h'.at h0 (by omega)
 unfold EU
 rw [e1,e2]
 refine Ok.bindE hx1 ?_
 have ex:IntKind.i64.wrap x = x:=wr
 have one:Ok (some (Int.tmod x n,({ f_l:=c.f_l,f_at:=c.f_at + 1 }:Am))) fun r=>N5 r.2∧0≤r.1∧r.1 < n :=
  Ok.some ⟨⟨hx,hl,by show 0≤c.f_at + 1; omega,by show c.f_at + 1≤(c.f_l.length:Int); omega⟩,Zc hx2 hn⟩
 rw [ex]
 refine Ok.brd (fun _=>Ok.brd (fun h2=>?_) fun _=>Ok.gdd (by omega) one) fun _=>Ok.gdd (by omega) one
 obtain ⟨y,hy1,hy2,hy3⟩:=h'.at (i:=c.f_at + 1) (by omega) h2
 refine Ok.bindE hy1 (Ok.gdd (by omega) (Ok.some ⟨⟨hx,hl,?_,?_⟩,?_⟩))
 ·show 0≤IntKind.i64.wrap (c.f_at + 1 + 1); rw [wr]; omega
 ·show IntKind.i64.wrap (c.f_at + 1 + 1)≤(c.f_l.length:Int); rw [wr]; omega
 ·have:IntKind.i64.wrap (IntKind.i64.wrap (x * 256) + IntKind.i64.wrap y) = x * 256 + y:=by
   rw [wr (n:=x * 256) (by omega) (by omega),wr (n:=y) (by omega) (by omega),wr]
  show 0≤Int.tmod _ n∧Int.tmod _ n < n
  rw [this]
  exact Zc (by omega) hn
theorem We {c:Am} (h:N5 c) {n:Int} (hn:1≤n) (hn2:n≤100000):Ok (D2 c n) fun r=>N5 r.2 :=
 Ok.bind (IM h hn hn2) fun _ hx=>Ok.some hx.1
theorem K0 {c:Am} (h:N5 c) {a b:Int} (hab:a≤b) (ha:-100000000≤a) (hb:b≤100000000) (hd:b - a < 100000):Ok (Bp c a b) fun r=>N5 r.2∧a≤r.1∧r.1≤b:=by
 unfold Bp
 have e:IntKind.i64.wrap (IntKind.i64.wrap (b - a) + 1) = b - a + 1:=by rw [wr (n:=b - a) (by omega) (by omega),wr]
 rw [e]
 refine Ok.bind (IM h (by omega) (by omega)) fun x hx=>Ok.some ⟨hx.1,?_⟩
 show a≤IntKind.i64.wrap (a + x.1)∧IntKind.i64.wrap (a + x.1)≤b
 rw [wr]
 omega
theorem ZM {c:Am} (h:N5 c):Ok (Ed c) fun r=>N5 r.2∧0≤r.1∧r.1 < 1152921504606846976:=by
 unfold Ed
 refine Ok.bind (IM h (by omega) (by omega)) fun x hx=>Ok.bind (IM hx.1 (by omega) (by omega)) fun y hy=>Ok.bind (IM hy.1 (by omega) (by omega)) fun z hz=>Ok.some ⟨hz.1,?_⟩
 show 0≤IntKind.i64.wrap (IntKind.i64.wrap (x.1 * y.1) + z.1)∧IntKind.i64.wrap (IntKind.i64.wrap (x.1 * y.1) + z.1) < 1152921504606846976
 have h1:0≤x.1 * y.1:=Int.mul_nonneg hx.2.1 hy.2.1
 have h2:x.1 * y.1≤60000 * 60000:=Int.mul_le_mul (by omega) (by omega) hy.2.1 (by omega)
 rw [wr (n:=x.1 * y.1) (by omega) (by omega),wr]
 omega
theorem dd (l:List Int) (h:∀ x∈l,0≤x∧x≤255) (hl:l.length≤9223372036854775807):Ok (NQ l) N5:=by
 unfold NQ
 refine Ok.gdd ?_ (Ok.some ⟨fun x hx=>?_,?_,?_,?_⟩)
 ·split <;> omega
 ·exact h x (List.mem_of_mem_drop (List.mem_of_mem_take hx))
 ·show (Sm l 0 _).length≤400
  unfold Sm
  simp only [List.length_take,List.length_drop]
  split <;> omega
 ·show (0:Int)≤0; omega
 ·show (0:Int)≤_; omega
def bK (n:Nat):ByteArray:=⟨#[UInt8.ofNat (48 + n)]⟩
theorem TO (n:Nat) (h:n < 10):Fl (n:Int) = some (bK n):=by
 unfold Fl bK
 rw [BO,Int.toNat_natCast]
 unfold Go.Lib.decDigits
 rw [dif_pos h]
def kc (i:Nat):CY:={ Name:=({ data:=#[107] }:ByteArray)++bK i,Parent:=0 }
def lc (n:Nat) (p:Int):CY:={ Name:=({ data:=#[108] }:ByteArray)++bK n,Parent:=p }
def eT:CY:={ Name:=({ data:=#[116,111,112] }:ByteArray),Parent:=-1 }
def XD:List CY→List Int→List CY
 | b,[]=>b
 | b,p :: r=>XD (b++[lc b.length p]) r
def base (kids:Nat):List CY:=eT :: (List.range kids).map kc
def La (kids:Nat) (ps:List Int):List CY:=XD (base kids) ps
def U1:Nat→List (List Int)
 | 0=>[[]]
 | n + 1=>(U1 n).flatMap fun l=>[l++[(n:Int) + 1],l++[(n:Int) + 1,(n:Int) + 1]]
def LE:List (List CY):=[1,2,3].flatMap fun k=>La k [] :: (U1 k).map (La k)
theorem Sb:∀ (b:List CY) (p q:List Int),XD b (p++q) = XD (XD b p) q
 | _,[],_=>rfl
 | b,_ :: r,q=>Sb _ r q
theorem Sc:∀ (b:List CY) (p:List Int),(XD b p).length = b.length + p.length
 | _,[]=>rfl
 | b,x :: r=>by rw [XD,Sc]; simp; omega
theorem Se:∀ n,∀ l∈U1 n,n≤l.length∧l.length≤2 * n
 | 0,l,h=>by simp [U1] at h; subst h; simp
 | n + 1,l,h=>by
   simp only [U1,List.mem_flatMap] at h
   obtain ⟨q,hq,h⟩:=h
   have:=Se n q hq
   simp at h
   rcases h with rfl | rfl <;> simp <;> omega
theorem Zk {n:Nat} {q:List Int} (hq:q∈U1 n) (k:Nat) (h1:1≤k) (h2:k≤2):q++List.replicate k ((n:Int) + 1)∈U1 (n + 1):=by
 simp only [U1,List.mem_flatMap]
 refine ⟨q,hq,?_⟩
 rcases (by omega:k = 1∨k = 2) with rfl | rfl
 ·exact List.mem_cons_self ..
 ·exact List.mem_cons_of_mem _ (List.mem_cons_self ..)
theorem YM {c:Am} (h:N5 c) (name:ByteArray):Ok (DR c name) fun r=>N5 r.2∧∃ l∈LE,r.1 = { Name:=name,Codes:=l }:=by
 unfold DR
 refine Ok.bind (K0 h (by omega) (by omega) (by omega) (by omega)) fun x hx=>?_
 obtain ⟨kids,hk⟩:∃ k:Nat,x.1 = k:=⟨x.1.toNat,by omega⟩
 obtain ⟨hc,hk1,hk2⟩:=hx
 rw [hk] at hk1 hk2
 have hkm:kids∈[1,2,3]:=by rcases (by omega:kids = 1∨kids = 2∨kids = 3) with rfl | rfl | rfl <;> simp
 refine Ok.for (fun s=>s.1) kids (fun i s=>s.2 = base i) 0 (Nat.zero_le _) rfl rfl (by omega) (fun rec s hs hI=>?_) fun rec i s hi hs hI ih=>?_
 ·simp only [ER,hs,hk,hI]
  rw [Co]
  unfold ET
  refine Ok.bind (We hc (by omega) (by omega)) fun y hy=>Ok.br (fun _=>Ok.some ⟨hy,base kids,?_,rfl⟩) fun _=>?_
  ·simp only [LE,List.mem_flatMap]
   exact ⟨kids,hkm,List.mem_cons_self ..⟩
  refine Ok.for (fun s=>s.1) kids (fun i s=>N5 s.2.1∧∃ p∈U1 i,s.2.2 = La kids p) 0 (Nat.zero_le _) rfl ⟨hy,[],by simp [U1],rfl⟩ (by omega) (fun rec s hs hI=>?_) fun rec i s hi hs hI ih=>?_
  ·obtain ⟨h1,p,h2,h3⟩:=hI
   simp only [ES,hs,hk]
   rw [Co]
   refine Ok.some ⟨h1,La kids p,?_,by rw [h3]⟩
   simp only [LE,List.mem_flatMap]
   exact ⟨kids,hkm,List.mem_cons_of_mem _ (List.mem_map.2 ⟨p,h2,rfl⟩)⟩
  ·obtain ⟨h1,p,h2,h3⟩:=hI
   simp only [ES,hs,hk]
   rw [BO]
   refine Ok.bind (K0 h1 (by omega) (by omega) (by omega) (by omega)) fun z hz=>?_
   have hpl:=Se i p h2
   obtain ⟨m,hm⟩:∃ k:Nat,z.1 = k:=⟨z.1.toNat,by omega⟩
   refine Ok.loop (fun s=>∃ j:Nat,j≤m∧s.1 = (m:Int) - j∧s.2 = La kids (p++List.replicate j ((i:Int) + 1))) (fun s=>s.1.toNat) ⟨0,by omega,by simp [hm],by simp [h3]⟩ (by unfold AM; show z.1.toNat < _; omega) fun rec s hs ih2=>?_
   obtain ⟨j,hj,e1,e2⟩:=hs
   have hml:s.2.length = 1 + kids + p.length + j:=by
    rw [e2,La,Sc]; simp [base]; omega
   simp only [GU]
   refine Ok.brd (fun hpos=>?_) fun hneg=>?_
   ·have hitoa:=TO s.2.length (by omega)
    refine Ok.bindE hitoa (Ok.gdd (by simp [bK,ByteArray.size]) (Ok.rm (by simp; omega) (ih2 _ ⟨j + 1,by omega,?_,?_⟩ ?_)))
    ·show IntKind.i64.wrap (s.1 - 1) = _
     rw [wr]; omega
    ·have hw:IntKind.i64.wrap (1 + (i:Int)) = (i:Int) + 1:=by rw [wr]; omega
     show s.2++[({ Name:=({ data:=#[108] }:ByteArray)++bK s.2.length,Parent:=IntKind.i64.wrap (1 + (i:Int)) }:CY)] = _
     rw [hw,List.replicate_succ',← List.append_assoc,La,Sb,← La,← e2]
     rfl
    ·show (IntKind.i64.wrap (s.1 - 1)).toNat < s.1.toNat
     rw [wr]; omega
   ·obtain rfl:j = m:=by omega
    refine ih _ ?_ ⟨hz.1,p++List.replicate j ((i:Int) + 1),Zk h2 j (by omega) (by omega),e2⟩
    show IntKind.i64.wrap ((i:Int) + 1) = _
    rw [wr]; omega
 ·simp only [ER,hs,hk]
  rw [BO]
  have hl:s.2.length = 1 + i:=by rw [hI]; simp [base]; omega
  refine Ok.bindE (TO i (by omega)) (Ok.gdd (by simp [bK,ByteArray.size]) (Ok.rm (by simp; omega) (ih _ ?_ ?_)))
  ·show IntKind.i64.wrap ((i:Int) + 1) = _
   rw [wr]; omega
  ·show s.2++[_] = _
   rw [hI]
   simp [base,List.range_succ,kc]
def M7:List (List Int):=[[1],[1,5],[1,5,20],[1,2,4,12]]
structure De (c:Az):Prop where
 kind:c.Kind = 3
 list:c.List_ = 0
 low:-4≤c.Low∧c.Low≤2
 high:c.Low≤c.High∧c.High≤c.Low + 44
 widths:c.Widths∈M7
theorem Yi {c:Am} (h:N5 c) (name:ByteArray):Ok (C8 c name) fun r=>N5 r.2∧De r.1∧r.1.Name = name:=by
 unfold C8
 refine Ok.bind (K0 h (by omega) (by omega) (by omega) (by omega)) fun x hx=>Ok.bind (IM hx.1 (by omega) (by omega)) fun y hy=>?_
 have hl:y.1.toNat < M7.length:=by simp [M7]; omega
 refine Ok.idx hy.2.1 hl (Ok.bind (We hy.1 (by omega) (by omega)) fun z hz=>Ok.bind (IM hz (by omega) (by omega)) fun u hu=>Ok.some ⟨hu.1,⟨rfl,rfl,hx.2,?_,List.getElem_mem hl⟩,rfl⟩)
 show x.1≤IntKind.i64.wrap (x.1 + u.1)∧IntKind.i64.wrap (x.1 + u.1)≤x.1 + 44
 rw [wr]
 omega
def d4:Az:={ Name:=({ data:=#[119,104,111] }:ByteArray),Kind:=1,List_:=0,Low:=0,High:=0,Widths:=[],Optional:=false }
def eO:Az:={ Name:=({ data:=#[115,101,120] }:ByteArray),Kind:=2,List_:=0,Low:=0,High:=0,Widths:=[],Optional:=false }
def e9:Az:={ Name:=({ data:=#[106,111,98] }:ByteArray),Kind:=2,List_:=1,Low:=0,High:=0,Widths:=[],Optional:=false }
def Ja (j:Bool):List Az:=[d4,eO]++(if j then [e9] else [])
def ba (i:Nat):ByteArray:=({ data:=#[109] }:ByteArray)++bK i
def TV:ByteArray:={ data:=#[111,110,101] }
def Wu:ByteArray:={ data:=#[116,119,111] }
def Ms (k:Nat) (ms:List Az):Prop:=∀ i (h:i < ms.length),De ms[i]∧ms[i].Name = ba (k + i)
structure DS (s:Af):Prop where
 lists:∃ a∈LE,∃ b∈LE,s.Lists = [{ Name:=TV,Codes:=a },{ Name:=Wu,Codes:=b }]
 cols:∃ j ms,s.Columns = Ja j++ms∧1≤ms.length∧ms.length≤3∧Ms (Ja j).length ms
theorem Ms.snoc {k:Nat} {ms:List Az} (h:Ms k ms) {c:Az} (hc:De c) (hn:c.Name = ba (k + ms.length)):Ms k (ms++[c]):=by
 intro i hi
 by_cases e:i < ms.length
 ·rw [List.getElem_append_left e]; exact h i e
 ·have:i = ms.length:=by simp at hi; omega
  subst this
  simp [hc,hn]
theorem MF (j:Bool):2≤(Ja j).length∧(Ja j).length≤3:=by cases j <;> simp [Ja]
theorem SG {body:((Int × Am × List Az)→Option (Af × Am))→(Int × Am × List Az)→Option (Af × Am)} {L:List Aw} (hL:∃ a∈LE,∃ b∈LE,L = [{ Name:=TV,Codes:=a },{ Name:=Wu,Codes:=b }])
 (hb:body = fun rec s=>Ec (fun v4_1 w0_1 b12_1=>some (({ Lists:=L,Columns:=b12_1 }:Af),w0_1)) rec s.1 s.2.1 s.2.2) (j:Bool) {n:Int} (h1:1≤n) (h2:n≤3) {c:Am} (hc:N5 c) :
 Ok (iter body AM (n,c,Ja j)) fun r=>N5 r.2∧DS r.1:=by
 subst hb
 have hcl:=MF j
 refine Ok.loop (fun s=>0≤s.1∧N5 s.2.1∧∃ ms,s.2.2 = Ja j++ms∧(ms.length:Int) = n - s.1∧Ms (Ja j).length ms) (fun s=>s.1.toNat) ⟨by show 0≤n; omega,hc,[],by simp,by simp,fun i hi=>by simp at hi⟩ (by unfold AM; show n.toNat < _; omega) fun rec s hs ih=>?_
 obtain ⟨h0,hcs,ms,e1,e2,e3⟩:=hs
 simp only [Ec]
 refine Ok.brd (fun hpos=>?_) fun hneg=>?_
 ·have hl:s.2.2.length = (Ja j).length + ms.length:=by rw [e1]; simp
  refine Ok.bindE (TO _ (by omega)) (Ok.gdd (by simp [bK,ByteArray.size]) (Ok.bind (Yi hcs _) fun x hx=>Ok.rm (by simp; omega) (ih _ ⟨?_,hx.1,ms++[x.1],by rw [e1]; simp,?_,e3.snoc hx.2.1 ?_⟩ ?_)))
  ·show 0≤IntKind.i64.wrap (s.1 - 1); rw [wr]; omega
  ·show _ = n - IntKind.i64.wrap (s.1 - 1); rw [wr]; simp; omega
  ·rw [hx.2.2,hl]; rfl
  ·show (IntKind.i64.wrap (s.1 - 1)).toNat < s.1.toNat; rw [wr]; omega
 ·exact Ok.some ⟨hcs,⟨hL,j,ms,e1,by omega,by omega,e3⟩⟩
theorem ZL {c:Am} (h:N5 c):Ok (Eb c) fun r=>N5 r.2∧DS r.1:=by
 unfold Eb
 refine Ok.bind (YM h _) fun x hx=>Ok.bind (YM hx.1 _) fun y hy=>Ok.bind (We hy.1 (by omega) (by omega)) fun z hz=>?_
 obtain ⟨_,a,ha,ea⟩:=hx
 obtain ⟨_,b,hb,eb⟩:=hy
 have hL:∃ a∈LE,∃ b∈LE,[x.1,y.1] = [{ Name:=TV,Codes:=a },{ Name:=Wu,Codes:=b }]:=⟨a,ha,b,hb,by rw [ea,eb]; rfl⟩
 refine Ok.br (fun _=>Ok.rm (by simp) (Ok.bind (K0 hz (by omega) (by omega) (by omega) (by omega)) fun u hu=>?_)) fun _=>Ok.bind (K0 hz (by omega) (by omega) (by omega) (by omega)) fun u hu=>?_
 ·exact SG hL rfl true hu.2.1 hu.2.2 hu.1
 ·exact SG hL rfl false hu.2.1 hu.2.2 hu.1
end Go.Proofs.YtjgeigjjfcnojaaGreatDoor.P
namespace Go.Proofs.YtjgeigjjfcnojaaGreatDoor.P
open Go Go.Abs Go.Proofs
set_option maxRecDepth 100000
def Zh:List Aw:=[TV,Wu].flatMap fun n=>LE.map fun l=>{ Name:=n,Codes:=l }
variable {s:Af}
theorem DS.list (h:DS s) {i:Nat} (hi:i < s.Lists.length):s.Lists[i]∈Zh:=by
 obtain ⟨a,ha,b,hb,e⟩:=h.lists
 have h1:∀ (k:Nat) (hk:k < 2),([{ Name:=TV,Codes:=a },{ Name:=Wu,Codes:=b }]:List Aw)[k]'hk∈Zh:=by
  intro k hk
  simp only [Zh,List.mem_flatMap]
  rcases (by omega:k = 0∨k = 1) with rfl | rfl
  ·exact ⟨TV,by simp,List.mem_map.2 ⟨a,ha,rfl⟩⟩
  ·exact ⟨Wu,by simp,List.mem_map.2 ⟨b,hb,rfl⟩⟩
 have hi2:i < 2:=by rw [e] at hi; exact hi
 have:=h1 i hi2
 simp only [e]
 exact this
theorem DS.lists2 (h:DS s):s.Lists.length = 2:=by
 obtain ⟨a,ha,b,hb,e⟩:=h.lists
 rw [e]; rfl
def Js (l:Aw):Int:=(Eh l).getD 0
def DJ (l:Aw):List Int:=(Mo l (Js l - 1)).getD []
theorem Xi:(Zh.all fun l=>Eg l==some 0 && EI l==some 0 && (Eh l==some (Js l)) && (DZ l==some (Js l)) && decide (2≤Js l) && decide (Js l≤3) &&
 Mo l (Js l - 1)==some (DJ l) && IZ l (Js l - 1)==some (DJ l) && !(DJ l).isEmpty && (DJ l).all fun x=>decide (0≤x) && decide (x < l.Codes.length) && FY l x==some (Js l - 1) && FN l x (Js l - 1)==some x && HO l x (Js l - 1)==some x) = true:=by decide +kernel
structure CL (l:Aw):Prop where
 rcheck:Eg l = some 0
 check:EI l = some 0
 rlev:Eh l = some (Js l)
 lev:DZ l = some (Js l)
 lev2:2≤Js l
 lev3:Js l≤3
 rleaves:Mo l (Js l - 1) = some (DJ l)
 leaves:IZ l (Js l - 1) = some (DJ l)
 some_:DJ l≠[]
 leaf:∀ x∈DJ l,0≤x∧x < l.Codes.length∧FY l x = some (Js l - 1)∧FN l x (Js l - 1) = some x∧HO l x (Js l - 1) = some x
theorem Nn {l:Aw} (h:l∈Zh):CL l:=by
 have:=List.all_eq_true.1 Xi l h
 simp only [Bool.and_eq_true,beq_iff_eq,decide_eq_true_eq,List.all_eq_true,Bool.not_eq_true',List.isEmpty_eq_false_iff] at this
 obtain ⟨⟨⟨⟨⟨⟨⟨⟨⟨h1,h2⟩,h3⟩,h4⟩,h5⟩,h6⟩,h7⟩,h8⟩,h9⟩,h10⟩:=this
 exact ⟨h1,h2,h3,h4,h5,h6,h7,h8,h9,fun x hx=>by have:=h10 x hx; obtain ⟨⟨⟨⟨a,b⟩,c⟩,d⟩,e⟩:=this; exact ⟨a,b,c,d,e⟩⟩
def MP (j:Bool) (n:Nat):List ByteArray:=(Ja j).map (·.Name)++(List.range n).map fun i=>ba ((Ja j).length + i)
theorem S6:([true,false].all fun j=>[1,2,3].all fun n=>(MP j n).all (fun x=>D4 x==some true && D1 x==some true) &&
 (List.range (MP j n).length).all fun i=>(List.range i).all fun k=>match (MP j n)[i]?,(MP j n)[k]? with | some x,some y=>!(x.toList==y.toList) && !(y.toList==x.toList) | _,_=>false) = true:=by decide +kernel
structure Tm (c:Az):Prop where
 kind:c.Kind = 2
 list:c.List_ = 0∨c.List_ = 1
 low:c.Low = 0
 high:c.High = 0
 widths:c.Widths = []
 opt:c.Optional = false
theorem DS.cols_length (h:DS s):3≤s.Columns.length∧s.Columns.length≤6:=by
 obtain ⟨j,ms,e,h1,h2,h3⟩:=h.cols
 have:=MF j
 rw [e,List.length_append]
 omega
theorem DS.col0 (h:DS s) (hi:0 < s.Columns.length):s.Columns[0] = d4:=by
 obtain ⟨j,ms,e,h1,h2,h3⟩:=h.cols
 have:s.Columns[0]? = some d4:=by rw [e]; cases j <;> rfl
 rw [List.getElem?_eq_getElem hi] at this
 exact Option.some.inj this
theorem DS.col (h:DS s) {i:Nat} (h0:1≤i) (hi:i < s.Columns.length):Tm s.Columns[i]∨De s.Columns[i]:=by
 obtain ⟨j,ms,e,h1,h2,h3⟩:=h.cols
 have hg:s.Columns[i]? = some s.Columns[i]:=List.getElem?_eq_getElem hi
 generalize hc:s.Columns[i] = c at hg ⊢
 rw [e] at hg
 by_cases hl:i < (Ja j).length
 ·rw [List.getElem?_append_left hl] at hg
  left
  cases j with
  | true =>
    rcases (by simp [Ja] at hl; omega:i = 1∨i = 2) with rfl | rfl
    ·cases hg; exact ⟨rfl,.inl rfl,rfl,rfl,rfl,rfl⟩
    ·cases hg; exact ⟨rfl,.inr rfl,rfl,rfl,rfl,rfl⟩
  | false =>
    obtain rfl:i = 1:=by simp [Ja] at hl; omega
    cases hg; exact ⟨rfl,.inl rfl,rfl,rfl,rfl,rfl⟩
 ·right
  rw [List.getElem?_append_right (by omega)] at hg
  obtain ⟨hlt,rfl⟩:=List.getElem?_eq_some_iff.1 hg
  exact (h3 _ hlt).1
theorem DS.names (h:DS s):∃ j n,n∈[1,2,3]∧s.Columns.map (·.Name) = MP j n:=by
 obtain ⟨j,ms,e,h1,h2,h3⟩:=h.cols
 refine ⟨j,ms.length,by simp; omega,?_⟩
 rw [e,List.map_append,MP]
 congr 1
 apply List.ext_getElem (by simp)
 intro i hi hi2
 simp only [List.getElem_map,List.getElem_range]
 exact (h3 i (by simpa using hi)).2
theorem DS.name (h:DS s) {i:Nat} (hi:i < s.Columns.length):D4 s.Columns[i].Name = some true∧D1 s.Columns[i].Name = some true:=by
 obtain ⟨j,n,hn,e⟩:=h.names
 have hf:=List.all_eq_true.1 (List.all_eq_true.1 S6 j (by cases j <;> simp)) n hn
 simp only [Bool.and_eq_true,List.all_eq_true,beq_iff_eq] at hf
 refine hf.1 _ ?_
 rw [← e]
 exact List.mem_map.2 ⟨_,List.getElem_mem hi,rfl⟩
theorem DS.name_ne (h:DS s) {i k:Nat} (hi:i < s.Columns.length) (hk:k < i):(s.Columns[k].Name.toList==s.Columns[i].Name.toList) = false∧(s.Columns[i].Name.toList==s.Columns[k].Name.toList) = false:=by
 obtain ⟨j,n,hn,e⟩:=h.names
 have hf:=List.all_eq_true.1 (List.all_eq_true.1 S6 j (by cases j <;> simp)) n hn
 simp only [Bool.and_eq_true,List.all_eq_true] at hf
 have hl:s.Columns.length = (MP j n).length:=by rw [← e,List.length_map]
 have:=hf.2 i (List.mem_range.2 (by omega)) k (List.mem_range.2 hk)
 rw [← e,List.getElem?_map,List.getElem?_map,List.getElem?_eq_getElem hi,List.getElem?_eq_getElem (by omega:k < s.Columns.length)] at this
 simp only [Option.map_some,Bool.and_eq_true,Bool.not_eq_true'] at this
 exact ⟨this.2,this.1⟩
def FH {α:Type} (q:α→Bool) (l:List α):Int:=match l.findIdx? q with | some i=>(i:Int) | none=>-1
theorem JV {α:Type} {l:List α} {p:α→Option Bool} {q:α→Bool} (hp:∀ x∈l,p x = some (q x)) (hl:l.length≤1000000000) :
 iter (fun rec1 v=>bif (decide (v < ((l.length:Nat):Int))) then (idx l v).bind fun x14=>(p x14).bind fun x16=>bif x16 then some v else rec1 (IntKind.i64.wrap (v + 1)) else some (-1)) AM 0 = some (FH q l):=by
 refine Ok.val (Ok.for (fun s=>s) l.length (fun i _=>∀ k (hk:k < l.length),k < i→q l[k] = false) 0 (Nat.zero_le _) rfl (fun _ _ h=>by omega) (by omega) (fun rec s hs hI=>?_) fun rec i s hi hs hI ih=>?_)
 ·rw [hs,Co]
  refine Ok.some ?_
  have:l.findIdx? q = none:=by
   rw [List.findIdx?_eq_none_iff]
   intro x hx
   obtain ⟨k,hk,rfl⟩:=List.mem_iff_getElem.1 hx
   exact hI k hk hk
  simp [FH,this]
 ·rw [hs,BO]
  refine Ok.idxn hi (Ok.bindE (hp _ (List.getElem_mem hi)) (Ok.br (fun h=>Ok.some ?_) fun h=>ih _ ?_ fun k hk hk2=>?_))
  ·have:l.findIdx? q = some i:=by
    rw [List.findIdx?_eq_some_iff_getElem]
    exact ⟨hi,h,fun k hk=>by rw [hI k (by omega) hk]; simp⟩
   simp [FH,this]
  ·show IntKind.i64.wrap ((i:Int) + 1) = _
   rw [wr]; omega
  ·by_cases e:k = i
   ·subst e; exact h
   ·exact hI k hk (by omega)
theorem LV {α:Type} (q:α→Bool) (l:List α):decide (FH q l ≥ 0) = l.any q:=by
 unfold FH
 cases h:l.findIdx? q with
 | none =>
   rw [List.findIdx?_eq_none_iff] at h
   have:l.any q = false:=by rw [List.any_eq_false]; intro x hx; simp [h x hx]
   simp [this]
 | some i =>
   obtain ⟨hi,h1,_⟩:=List.findIdx?_eq_some_iff_getElem.1 h
   have:l.any q = true:=List.any_eq_true.2 ⟨_,List.getElem_mem hi,h1⟩
   simp only [this]
   exact dt
theorem Zo {l:List Az} {p:Az→Option Bool} (q:Az→Bool) (hp:∀ x∈l,p x = some (q x)) (hl:l.length≤1000000000):Bc l p = some (l.any q):=by
 unfold Bc
 rw [show Bt l p = some (FH q l) from JV hp hl,Option.bind_some,LV]
theorem WA {l:List Aw} {p:Aw→Option Bool} (q:Aw→Bool) (hp:∀ x∈l,p x = some (q x)) (hl:l.length≤1000000000):AT l p = some (l.any q):=by
 unfold AT
 rw [show Bm l p = some (FH q l) from JV hp hl,Option.bind_some,LV]
end Go.Proofs.YtjgeigjjfcnojaaGreatDoor.P
set_option linter.unusedVariables false
set_option linter.unusedSimpArgs false
namespace Go.Proofs.YtjgeigjjfcnojaaGreatDoor.P
open Go Go.Abs Go.Proofs
set_option maxRecDepth 100000
variable {s:Af}
theorem KX (n a b:Int):D6 n a b = some (decide (a≤n∧n≤b)):=by
 unfold D6
 by_cases h:a≤n <;> by_cases h2:n≤b <;> simp [h,h2]
theorem aY {w:List Int} (h:w∈M7):w = [1]∨w = [1,5]∨w = [1,5,20]∨w = [1,2,4,12]:=by simpa [M7] using h
theorem bm {c:Az} (h:De c):G2 c = some 0:=by
 have hw:Gp c = some 0:=by
  obtain ⟨n,k,li,lo,hi,w,o⟩:=c
  rcases aY h.widths with e | e | e | e <;> (simp only at e; subst e; rfl)
 obtain ⟨h1,h2⟩:=h.low
 obtain ⟨h3,h4⟩:=h.high
 unfold G2
 rw [KX,Option.bind_some,dt,KX,Option.bind_some,dt,df,hw]
 rfl
theorem bf {c:Az} (h:De c):Dj c = some 0:=by
 have hw:(bif (bif (((c.Widths.length:Nat):Int)==0) then true else (decide (((c.Widths.length:Nat):Int) > 4))) then some 1 else iter (fun rec1 s=>Fh c (fun v3_1 v36_1=>some 0) rec1 s.1 s.2) AM (1,0)) = some 0:=by
  obtain ⟨n,k,li,lo,hi,w,o⟩:=c
  rcases aY h.widths with e | e | e | e <;> (simp only at e; subst e; rfl)
 obtain ⟨h1,h2⟩:=h.low
 obtain ⟨h3,h4⟩:=h.high
 unfold Dj
 rw [df,df,df]
 simp only [cond_false]
 exact hw
def d5 (i:Nat) (c:Az):Prop:=(i = 0∧c = d4)∨(1≤i∧(Tm c∨De c))
theorem DS.cl (h:DS s) {i:Nat} (hi:i < s.Columns.length):d5 i s.Columns[i]:=by
 rcases Nat.eq_zero_or_pos i with rfl | h0
 ·exact .inl ⟨rfl,h.col0 hi⟩
 ·exact .inr ⟨h0,h.col h0 hi⟩
theorem d5.kinds {i:Nat} {c:Az} (h:d5 i c):(c.Kind = 1∨c.Kind = 2∨c.Kind = 3)∧(c.Kind = 1→i = 0):=by
 rcases h with ⟨rfl,rfl⟩ | ⟨h0,h | h⟩
 ·exact ⟨.inl rfl,fun _=>rfl⟩
 ·rw [h.kind]; exact ⟨.inr (.inl rfl),fun e=>by omega⟩
 ·rw [h.kind]; exact ⟨.inr (.inr rfl),fun e=>by omega⟩
theorem Uc {i:Nat} {c:Az} (h:d5 i c):DT c = some 0:=by
 rcases h with ⟨rfl,rfl⟩ | ⟨h0,h | h⟩
 ·rfl
 ·obtain ⟨n,k,li,lo,hi,w,o⟩:=c
  obtain ⟨h1,h2,h3,h4,h5,h6⟩:=h
  simp only at h1 h2 h3 h4 h5 h6
  subst h1; subst h3; subst h4; subst h5; subst h6
  rfl
 ·unfold DT
  rw [bm h,h.kind,h.list]
  rfl
theorem bY (h:DS s) {i:Nat} (hi:i < s.Columns.length):HU s i = some 0:=by
 have hcol:=h.cl hi
 have hk:=hcol.kinds
 have hl:=h.lists2
 refine Ok.val ?_
 unfold HU
 refine Ok.idxn hi (Ok.bindE (h.name hi).1 ?_)
 simp only [Bool.not_true,Bool.not_false,cond_true,cond_false]
 refine Ok.for (fun s=>s) i (fun _ _=>True) 0 (Nat.zero_le _) rfl trivial (by have:=h.cols_length; omega) (fun rec q hq _=>?_) fun rec k q hk2 hq _ ih=>?_
 ·simp only [GC,hq]
  rw [Co]
  unfold GD
  rw [KX,Option.bind_some,dt]
  have e1:(bif decide ((i:Int) > 0) then s.Columns[i].Kind==1 else false) = false:=by
   by_cases e:i = 0
   ·subst e; rfl
   ·have:s.Columns[i].Kind≠1:=fun h1=>e (hk.2 h1)
    simp [this]
  rw [e1]
  show Ok (bif (s.Columns[i].Kind==2) then _ else _) _
  refine Ok.br (fun he=>?_) fun _=>Ok.eq (Uc hcol)
  have he:s.Columns[i].Kind = 2:=by simpa using he
  have hlist:s.Columns[i].List_ = 0∨s.Columns[i].List_ = 1:=by
   rcases hcol with ⟨rfl,e⟩ | ⟨_,h | h⟩
   ·rw [e]; exact .inl rfl
   ·exact h.list
   ·exact .inl h.list
  rw [KX,Option.bind_some,hl,decide_eq_true (by rw [wr]; omega)]
  exact Ok.eq (Uc hcol)
 ·simp only [GC,hq]
  rw [BO]
  refine Ok.idxn (by omega:k < s.Columns.length) ?_
  rw [(h.name_ne hi hk2).1]
  refine ih _ ?_ trivial
  show IntKind.i64.wrap ((k:Int) + 1) = _
  have:=h.cols_length
  rw [wr]; omega
theorem DS.lname (h:DS s) (h0:0 < s.Lists.length) (h1:1 < s.Lists.length):s.Lists[0].Name = TV∧s.Lists[1].Name = Wu:=by
 obtain ⟨a,ha,b,hb,e⟩:=h.lists
 have e0:s.Lists[0]? = some { Name:=TV,Codes:=a }:=by rw [e]; rfl
 have e1:s.Lists[1]? = some { Name:=Wu,Codes:=b }:=by rw [e]; rfl
 rw [List.getElem?_eq_getElem h0] at e0
 rw [List.getElem?_eq_getElem h1] at e1
 rw [Option.some.inj e0,Option.some.inj e1]
 exact ⟨rfl,rfl⟩
theorem YQ:(TV.toList==Wu.toList) = false:=by decide +kernel
theorem DS.rcheck (h:DS s):Cz s = some 0:=by
 have hl:=h.lists2
 have hc:=h.cols_length
 refine Ok.val ?_
 unfold Cz
 rw [df,df]
 simp only [Bool.not_true,Bool.not_false,cond_true,cond_false]
 refine Ok.for (fun s=>s) s.Lists.length (fun _ _=>True) 0 (Nat.zero_le _) rfl trivial (by omega) (fun rec q hq _=>?_) fun rec i q hi hq _ ih=>?_
 ·simp only [HP,hq]
  rw [Co]
  unfold HS
  have e0:(((s.Columns.length:Nat):Int)==0) = false:=by rw [beq_eq_false_iff_ne]; omega
  rw [e0]
  show Ok ((idx s.Columns 0).bind _) _
  refine Ok.idxn (i:=0) (by omega) ?_
  rw [h.col0]
  refine Ok.no rfl ?_
  refine Ok.for (fun s=>s) s.Columns.length (fun _ _=>True) 0 (Nat.zero_le _) rfl trivial (by omega) (fun rec q hq _=>?_) fun rec i q hi hq _ ih=>?_
  ·simp only [HR,hq]
   rw [Co]
   exact Ok.some rfl
  ·simp only [HR,hq]
   rw [BO]
   refine Ok.bindE (bY h hi) (ih _ ?_ trivial)
   show IntKind.i64.wrap ((i:Int) + 1) = _
   rw [wr]; omega
 ·simp only [HP,hq]
  rw [BO]
  refine Ok.idxn hi (Ok.bindE (Nn (h.list hi)).rcheck ?_)
  refine Ok.no rfl ?_
  refine Ok.for (fun s=>s) i (fun _ _=>True) 0 (Nat.zero_le _) rfl trivial (by omega) (fun rec2 q hq _=>?_) fun rec2 k q hk hq _ ih2=>?_
  ·simp only [HQ,hq]
   rw [Co]
   refine ih _ ?_ trivial
   show IntKind.i64.wrap ((i:Int) + 1) = _
   rw [wr]; omega
  ·simp only [HQ,hq]
   rw [BO]
   refine Ok.idxn (by omega:k < s.Lists.length) (Ok.idxn hi ?_)
   obtain rfl:k = 0:=by omega
   obtain rfl:i = 1:=by omega
   have hn:=h.lname (by omega) (by omega)
   rw [hn.1,hn.2,YQ]
   refine ih2 _ ?_ trivial
   show IntKind.i64.wrap (((0:Nat):Int) + 1) = _
   rw [wr]; omega
theorem dF {α:Type} (l:List α) {i:Nat} (hi:i≤l.length):Sm l 0 (i:Int) = l.take i:=by simp [Sm]
theorem bV {i:Nat} {c:Az} (h:d5 i c):Du c = some true:=by
 rcases h with ⟨rfl,rfl⟩ | ⟨h0,h | h⟩
 ·rfl
 ·obtain ⟨n,k,li,lo,hi,w,o⟩:=c
  obtain ⟨h1,h2,h3,h4,h5,h6⟩:=h
  simp only at h1 h2 h3 h4 h5 h6
  subst h1; subst h3; subst h4; subst h5; subst h6
  rfl
 ·unfold Du
  rw [h.kind,h.list]
  rfl
theorem bT (h:DS s) {i:Nat} (hi:i < s.Columns.length):D9 s i = some 0:=by
 have hcol:=h.cl hi
 have hl:=h.lists2
 have hc:=h.cols_length
 refine Ok.val ?_
 unfold D9
 refine Ok.idxn hi (Ok.bindE (h.name hi).2 (Ok.gdd (by omega) ?_))
 rw [dF _ (by omega)]
 refine Ok.bindE (Zo (fun a=>a.Name.toList==s.Columns[i].Name.toList) (fun x _=>rfl) (by simp; omega)) ?_
 have:(s.Columns.take i).any (fun a=>a.Name.toList==s.Columns[i].Name.toList) = false:=by
  rw [List.any_eq_false]
  intro x hx
  obtain ⟨k,hk,rfl⟩:=List.mem_iff_getElem.1 hx
  have hki:k < i:=by simp at hk; omega
  rw [List.getElem_take,(h.name_ne hi hki).1]
  simp
 rw [this]
 show Ok (bif (s.Columns[i].Kind==1) then _ else _) _
 have El:Ok ((Du s.Columns[i]).bind fun x49=>bif (!x49) then some 11 else some 0) (· = (0:Int)):=Ok.bindE (bV hcol) (Ok.some rfl)
 rcases hcol with ⟨rfl,e⟩ | ⟨h0,h1 | h1⟩
 ·rw [e]; rw [e] at El; exact El
 ·rw [h1.kind]
  have:(bif decide (s.Columns[i].List_ < 0) then true else decide (s.Columns[i].List_ ≥ ((s.Lists.length:Nat):Int))) = false:=by
   rcases h1.list with e | e <;> (rw [e,hl]; rfl)
  show Ok (bif (bif decide (s.Columns[i].List_ < 0) then true else decide (s.Columns[i].List_ ≥ ((s.Lists.length:Nat):Int))) then _ else _) _
  rw [this]
  exact El
 ·rw [h1.kind]
  exact Ok.bindE (bf h1) El
theorem DS.check (h:DS s):Cs s = some 0:=by
 have hl:=h.lists2
 have hc:=h.cols_length
 refine Ok.val ?_
 unfold Cs
 rw [df,df]
 simp only [Bool.not_true,Bool.not_false,cond_true,cond_false]
 refine Ok.for (fun s=>s) s.Lists.length (fun _ _=>True) 0 (Nat.zero_le _) rfl trivial (by omega) (fun rec q hq _=>?_) fun rec i q hi hq _ ih=>?_
 ·simp only [GG,hq]
  rw [Co]
  unfold GI
  have e0:(((s.Columns.length:Nat):Int)==0) = false:=by rw [beq_eq_false_iff_ne]; omega
  rw [e0]
  show Ok ((idx s.Columns 0).bind _) _
  refine Ok.idxn (i:=0) (by omega) ?_
  rw [h.col0]
  refine Ok.no rfl ?_
  refine Ok.for (fun s=>s) s.Columns.length (fun _ _=>True) 0 (Nat.zero_le _) rfl trivial (by omega) (fun rec q hq _=>?_) fun rec i q hi hq _ ih=>?_
  ·simp only [GH,hq]
   rw [Co]
   exact Ok.some rfl
  ·simp only [GH,hq]
   rw [BO]
   refine Ok.bindE (bT h hi) (ih _ ?_ trivial)
   show IntKind.i64.wrap ((i:Int) + 1) = _
   rw [wr]; omega
 ·simp only [GG,hq]
  rw [BO]
  refine Ok.idxn hi (Ok.bindE (Nn (h.list hi)).check ?_)
  show Ok (bif decide _ then _ else none) _
  refine Ok.gdd (by omega) ?_
  rw [dF _ (by omega)]
  refine Ok.bindE (WA (fun a=>a.Name.toList==s.Lists[i].Name.toList) (fun x _=>rfl) (by simp; omega)) ?_
  have:(s.Lists.take i).any (fun a=>a.Name.toList==s.Lists[i].Name.toList) = false:=by
   rw [List.any_eq_false]
   intro x hx
   obtain ⟨k,hk,rfl⟩:=List.mem_iff_getElem.1 hx
   have hki:k < i:=by simp at hk; omega
   obtain rfl:k = 0:=by omega
   obtain rfl:i = 1:=by omega
   have hn:=h.lname (by omega) (by omega)
   rw [List.getElem_take,hn.1,hn.2,YQ]
   simp
  rw [this]
  refine ih _ ?_ trivial
  show IntKind.i64.wrap ((i:Int) + 1) = _
  rw [wr]; omega
end Go.Proofs.YtjgeigjjfcnojaaGreatDoor.P
namespace Go.Proofs.YtjgeigjjfcnojaaGreatDoor.P
open Go Go.Abs Go.Proofs
set_option maxRecDepth 100000
variable {s:Af}
theorem LJ {i:Nat} (h:i≤1000000000000:=by omega):IntKind.i64.wrap ((i:Int) + 1) = ((i + 1:Nat):Int):=by rw [wr]; omega
def Cb:Int:=-1099511627776
def XC (s:Af) (c:Az) (v:Int):Prop :=
 (c.Kind = 1∧1≤v∧v≤1000)∨(c.Kind = 2∧∃ L,L∈Zh∧idx s.Lists c.List_ = some L∧v∈DJ L)∨(c.Kind = 3∧((c.Low≤v∧v≤c.High)∨(c.Optional = true∧v = Cb)))
def Qu (s:Af) (r:List Int):Prop:=r.length = s.Columns.length∧∀ (i:Nat) c v,s.Columns[i]? = some c→r[i]? = some v→XC s c v
theorem DS.clist (h:DS s) {c:Az} (hc:Tm c):∃ L,L∈Zh∧idx s.Lists c.List_ = some L:=by
 have hl:=h.lists2
 rcases hc.list with e | e
 ·have h0:0 < s.Lists.length:=by omega
  exact ⟨_,h.list h0,by rw [e]; exact HB (i:=0) h0⟩
 ·have h1:1 < s.Lists.length:=by omega
  exact ⟨_,h.list h1,by rw [e]; exact HB (i:=1) h1⟩
theorem ZA {s:Af} {i:Int} {c:Az} {L:Aw} (hc:idx s.Columns i = some c) (hL:idx s.Lists c.List_ = some L) (hL2:L∈Zh):Fe s i = some (DJ L):=by
 have h:=Nn hL2
 have h2:=h.lev2
 have h3:=h.lev3
 unfold Fe
 rw [hc,Option.bind_some,hL,Option.bind_some,h.rlev,Option.bind_some,wr,h.rleaves]
 rfl
theorem VZ:(Zh.all fun l=>decide ((DJ l).length≤10)) = true:=by decide +kernel
theorem b8 (h:DS s) {c:Am} (hc:N5 c) {i:Nat} (hi:i < s.Columns.length):Ok (E7 c s i) fun r=>N5 r.2∧XC s s.Columns[i] r.1:=by
 unfold E7
 refine Ok.idxn hi ?_
 have hidx:idx s.Columns (i:Int) = some s.Columns[i]:=HB hi
 generalize hcc:s.Columns[i] = cl at hidx ⊢
 have hcol:=h.cl hi
 rw [hcc] at hcol
 rcases hcol with ⟨rfl,e⟩ | ⟨h0,h1 | h1⟩
 ·subst e
  refine Ok.yes rfl (Ok.bind (K0 hc (by omega) (by omega) (by omega) (by omega)) fun x hx=>Ok.some ⟨hx.1,.inl ⟨rfl,hx.2.1,by show x.1≤1000; omega⟩⟩)
 ·obtain ⟨L,hL,hL2⟩:=h.clist h1
  have hcl:=Nn hL
  refine Ok.no (by rw [h1.kind]; rfl) (Ok.yes (by rw [h1.kind]; rfl) (Ok.bindE (ZA hidx hL2 hL) ?_))
  have hs:(DJ L).length≤10:=by have:=List.all_eq_true.1 VZ L hL; simpa using this
  have hne:0 < (DJ L).length:=List.length_pos_iff.2 hcl.some_
  refine Ok.bind (IM hc (by omega) (by omega)) fun x hx=>?_
  refine Ok.idx hx.2.1 (by omega) (Ok.some ⟨hx.1,.inr (.inl ⟨h1.kind,L,hL,hL2,List.getElem_mem _⟩)⟩)
 ·obtain ⟨h2,h3⟩:=h1.low
  obtain ⟨h4,h5⟩:=h1.high
  refine Ok.no (by rw [h1.kind]; rfl) (Ok.no (by rw [h1.kind]; rfl) ?_)
  have rg:∀ {c':Am},N5 c'→Ok ((Bp c' cl.Low cl.High).bind fun x43=>some (x43.1,x43.2)) fun r=>N5 r.2∧XC s cl r.1:=fun hc' =>
   Ok.bind (K0 hc' h4 (by omega) (by omega) (by omega)) fun x hx=>Ok.some ⟨hx.1,.inr (.inr ⟨h1.kind,.inl hx.2⟩)⟩
  refine Ok.br (fun ho=>Ok.bind (We hc (by omega) (by omega)) fun x hx=>Ok.br (fun _=>Ok.some ⟨hx,.inr (.inr ⟨h1.kind,.inr ⟨ho,rfl⟩⟩)⟩) fun _=>rg hx) fun _=>rg hc
theorem dn (h:DS s) {c:Am} (hc:N5 c):Ok (FT c s) fun r=>N5 r.2∧Qu s r.1:=by
 have hl:=h.cols_length
 unfold FT
 refine Ok.for (fun q=>q.1) s.Columns.length (fun i q=>N5 q.2.1∧q.2.2.length = i∧∀ (k:Nat) c v,s.Columns[k]? = some c→q.2.2[k]? = some v→XC s c v) 0 (Nat.zero_le _) rfl ⟨hc,rfl,fun k c v _ h=>by simp at h⟩ (by omega) (fun rec q hq hI=>?_) fun rec i q hi hq hI ih=>?_
 ·simp only [FG,hq]
  rw [Co]
  exact Ok.some ⟨hI.1,hI.2.1,hI.2.2⟩
 ·simp only [FG,hq]
  rw [BO]
  refine Ok.bind (b8 h hI.1 hi) fun x hx=>Ok.rm (by rw [hI.2.1]; simp; omega) (ih _ LJ ⟨hx.1,by simp [hI.2.1],fun k cc v hk hv=>?_⟩)
  rw [List.getElem?_append] at hv
  split at hv
  ·exact hI.2.2 k cc v hk hv
  ·rename_i hlt
   have hk0:k = i:=by
    have:=(List.getElem?_eq_some_iff.1 hv).1
    simp at this; omega
   subst hk0
   rw [hI.2.1] at hv
   simp at hv
   rw [List.getElem?_eq_getElem hi] at hk
   cases hk; subst hv
   exact hx.2
def hd (r:List Int):Int:=r.headD 0
theorem Gu {r:List Int} (h:r≠[]):idx r 0 = some (hd r):=by
 cases r with
 | nil=>exact absurd rfl h
 | cons a q=>rfl
def bF (l:List (List Int)):Prop:=l.Pairwise fun a b=>hd a < hd b
def Ua (l:List (List Int)) (row:List Int):List (List Int):=l.filter (fun x=>decide (hd x < hd row))++row :: l.filter (fun x=>decide (hd row < hd x))
theorem Xn {l:List (List Int)} {row:List Int} (h:bF l):bF (Ua l row):=by
 unfold bF Ua
 rw [List.pairwise_append,List.pairwise_cons]
 refine ⟨h.sublist List.filter_sublist,⟨fun x hx=>?_,h.sublist List.filter_sublist⟩,fun x hx y hy=>?_⟩
 ·have:=(List.mem_filter.1 hx).2; simpa using this
 ·have h1:=(List.mem_filter.1 hx).2
  rcases List.mem_cons.1 hy with rfl | hy
  ·simpa using h1
  ·have h2:=(List.mem_filter.1 hy).2
   simp at h1 h2; omega
theorem Xo {l:List (List Int)} {row x:List Int} (h:x∈Ua l row):x = row∨x∈l:=by
 unfold Ua at h
 rcases List.mem_append.1 h with h | h
 ·exact .inr (List.mem_filter.1 h).1
 ·rcases List.mem_cons.1 h with h | h
  ·exact .inl h
  ·exact .inr (List.mem_filter.1 h).1
theorem Oj (l:List (List Int)) (row:List Int):(Ua l row).length≤l.length + 1:=by
 unfold Ua
 rw [List.length_append,List.length_cons]
 have:(l.filter (fun x=>decide (hd x < hd row))).length + (l.filter (fun x=>decide (hd row < hd x))).length≤l.length:=by
  induction l with
  | nil=>simp
  | cons a r ih =>
    simp only [List.filter_cons,List.length_cons]
    by_cases h1:hd a < hd row <;> by_cases h2:hd row < hd a <;> simp [h1,h2] <;> omega
 omega
theorem M3 {α:Type} (l:List α) (p:α→Bool) {i:Nat} (hi:i < l.length):(l.take (i + 1)).filter p = (l.take i).filter p++if p l[i] then [l[i]] else []:=by
 rw [List.take_succ_eq_append_getElem hi,List.filter_append]
 congr 1
 simp only [List.filter_cons,List.filter_nil]
theorem bh {l:List (List Int)} {row:List Int} (hl:∀ x∈l,x≠[]) (hr:row≠[]) (hs:bF l) (hlen:l.length≤1000000):JW l row = some (Ua l row):=by
 refine Ok.val ?_
 unfold JW
 refine Ok.for (fun q=>q.2.1) l.length (fun i q=>(q.1 = false∧(∀ x∈l.take i,hd x≤hd row)∧q.2.2 = (l.take i).filter (fun x=>decide (hd x < hd row))) ∨
  (q.1 = true∧(∃ x∈l.take i,hd row < hd x)∧q.2.2 = (l.take i).filter (fun x=>decide (hd x < hd row))++row :: (l.take i).filter (fun x=>decide (hd row < hd x)))) 0 (Nat.zero_le _) rfl (.inl ⟨rfl,by simp,by simp⟩) (by omega) (fun rec q hq hI=>?_) fun rec i q hi hq hI ih=>?_
 ·simp only [JM,hq]
  rw [Co]
  rw [List.take_length] at hI
  rcases hI with ⟨h1,h2,h3⟩ | ⟨h1,h2,h3⟩
  ·rw [h1]
   refine Ok.yes rfl (Ok.rm ?_ (Ok.some ?_))
   ·rw [h3]; have:=List.length_filter_le (fun x=>decide (hd x < hd row)) l; simp; omega
   ·rw [h3,Ua]
    congr 2
    symm
    rw [List.filter_eq_nil_iff]
    intro x hx
    have:=h2 x hx
    simp; omega
  ·rw [h1]
   exact Ok.no rfl (Ok.some h3)
 ·simp only [JM,hq]
  rw [BO]
  have hne:=hl _ (List.getElem_mem hi)
  have hmem:∀ x∈l.take i,hd x < hd l[i]:=by
   intro x hx
   obtain ⟨k,hk,rfl⟩:=List.mem_iff_getElem.1 hx
   have hk2:k < i:=by simp at hk; omega
   rw [List.getElem_take]
   exact (List.pairwise_iff_getElem.1 hs) k i (by omega) hi hk2
  have hf1:=M3 l (fun x=>decide (hd x < hd row)) hi
  have hf2:=M3 l (fun x=>decide (hd row < hd x)) hi
  have hlen1:q.2.2.length≤i + 1:=by
   have e0:(l.take i).length = i:=by simp; omega
   have e1:((l.take i).filter (fun x=>decide (hd x < hd row))).length + ((l.take i).filter (fun x=>decide (hd row < hd x))).length≤i:=by
    have:=Oj (l.take i) row
    unfold Ua at this
    rw [List.length_append,List.length_cons,e0] at this
    omega
   rcases hI with ⟨_,_,h3⟩ | ⟨_,_,h3⟩
   ·rw [h3]; omega
   ·rw [h3,List.length_append,List.length_cons]; omega
  refine Ok.idxn hi (Ok.bindE (Gu hne) (Ok.bindE (Gu hr) (Ok.br (fun heq=>ih _ LJ ?_) fun hneq=>?_)))
  ·have heq:hd l[i] = hd row:=by simpa using heq
   rw [hf1,hf2]
   have e1:decide (hd l[i] < hd row) = false:=df
   have e2:decide (hd row < hd l[i]) = false:=df
   simp only [e1,e2,Bool.false_eq_true,if_false,List.append_nil]
   rcases hI with ⟨h1,h2,h3⟩ | ⟨h1,h2,h3⟩
   ·refine .inl ⟨h1,fun x hx=>?_,h3⟩
    rw [List.take_succ_eq_append_getElem hi] at hx
    rcases List.mem_append.1 hx with hx | hx
    ·exact h2 x hx
    ·simp at hx; subst hx; omega
   ·obtain ⟨x,hx,hx2⟩:=h2
    have:=hmem x hx
    omega
  ·have hneq:hd l[i]≠hd row:=by simpa using hneq
   refine Ok.idxn hi (Ok.bindE (Gu hne) (Ok.bindE (Gu hr) (Ok.br (fun hc=>?_) fun hc=>?_)))
   ·
    obtain ⟨hgt,hnd⟩:hd row < hd l[i]∧q.1 = false:=by
     by_cases hg:hd l[i] > hd row
     ·rw [decide_eq_true hg] at hc; exact ⟨hg,by simpa using hc⟩
     ·rw [decide_eq_false hg] at hc; cases hc
    rcases hI with ⟨h1,h2,h3⟩ | ⟨h1,h2,h3⟩
    ·refine Ok.rm (by simp; omega) (Ok.idxn hi (Ok.rm (by simp; omega) (ih _ LJ (.inr ⟨rfl,⟨l[i],?_,hgt⟩,?_⟩))))
     ·rw [List.take_succ_eq_append_getElem hi]; exact List.mem_append_right _ (List.mem_singleton.2 rfl)
     ·rw [hf1,hf2,df,decide_eq_true hgt,h3]
      have:(l.take i).filter (fun x=>decide (hd row < hd x)) = []:=by
       rw [List.filter_eq_nil_iff]
       intro x hx
       have:=h2 x hx
       simp; omega
      rw [this]
      simp
    ·rw [h1] at hnd; cases hnd
   ·refine Ok.idxn hi (Ok.rm (by simp; omega) (ih _ LJ ?_))
    rw [hf1,hf2]
    rcases hI with ⟨h1,h2,h3⟩ | ⟨h1,h2,h3⟩
    ·have hlt:hd l[i] < hd row:=by
      by_cases hg:hd l[i] > hd row
      ·rw [decide_eq_true hg,h1] at hc; cases hc
      ·omega
     refine .inl ⟨h1,fun x hx=>?_,by rw [decide_eq_true hlt,h3]; simp⟩
     rw [List.take_succ_eq_append_getElem hi] at hx
     rcases List.mem_append.1 hx with hx | hx
     ·exact h2 x hx
     ·simp at hx; subst hx; omega
    ·obtain ⟨x,hx,hx2⟩:=h2
     have hxi:=hmem x hx
     refine .inr ⟨h1,⟨x,?_,hx2⟩,?_⟩
     ·rw [List.take_succ_eq_append_getElem hi]; exact List.mem_append_left _ hx
     ·rw [decide_eq_false (by omega:¬ hd l[i] < hd row),decide_eq_true (by omega:hd row < hd l[i]),h3]
      simp
structure UW (x:B2) (n:Nat):Prop where
 schema:DS x.Schema
 rows:∀ r∈x.Rows,Qu x.Schema r
 asc:bF x.Rows
 len:x.Rows.length≤n
 gone:x.Gone = []
 version:x.Version = 0
theorem Qu.ne (h:DS s) {r:List Int} (hr:Qu s r):r≠[]:=by
 intro e
 have:=hr.1
 have:=h.cols_length
 rw [e] at *
 simp at *
 omega
theorem ZO {c:Am} (hc:N5 c) {n:Nat} (hn:n≤50):Ok (Ee c n) fun r=>N5 r.2∧UW r.1 n:=by
 unfold Ee
 refine Ok.bind (ZL hc) fun x hx=>?_
 have e:IntKind.i64.wrap ((n:Int) + 1) = (n:Int) + 1:=wr
 rw [e]
 refine Ok.bind (IM hx.1 (by omega) (by omega)) fun y hy=>?_
 obtain ⟨hy1,hy2,hy3⟩:=hy
 refine Ok.loop (fun q=>0≤q.1∧N5 q.2.1∧(∀ r∈q.2.2,Qu x.1 r)∧bF q.2.2∧(q.2.2.length:Int) + q.1≤n) (fun q=>q.1.toNat) ⟨hy2,hy1,(fun r hr=>by cases hr),List.Pairwise.nil,by show ((0:Nat):Int) + y.1≤n; omega⟩ (by unfold AM; show y.1.toNat < _; omega) fun rec q hq ih=>?_
 obtain ⟨h0,h1,h2,h3,h4⟩:=hq
 simp only [FU]
 refine Ok.brd (fun hp=>Ok.bind (dn hx.2 h1) fun z hz=>?_) fun hp=>?_
 ·have hput:=bh (l:=q.2.2) (row:=z.1) (fun r hr=>(h2 r hr).ne hx.2) (hz.2.ne hx.2) h3 (by omega)
  have hpl:=Oj q.2.2 z.1
  refine Ok.bindE hput (ih _ ⟨?_,hz.1,fun r hr=>?_,Xn h3,?_⟩ ?_)
  ·show 0≤IntKind.i64.wrap (q.1 - 1); rw [wr]; omega
  ·rcases Xo hr with rfl | hr
   ·exact hz.2
   ·exact h2 r hr
  ·show ((Ua q.2.2 z.1).length:Int) + IntKind.i64.wrap (q.1 - 1)≤n; rw [wr]; omega
  ·show (IntKind.i64.wrap (q.1 - 1)).toNat < q.1.toNat; rw [wr]; omega
 ·exact Ok.some ⟨h1,hx.2,h2,h3,by show q.2.2.length≤n; omega,rfl,rfl⟩
end Go.Proofs.YtjgeigjjfcnojaaGreatDoor.P
namespace Go.Proofs.YtjgeigjjfcnojaaGreatDoor.P
open Go Go.Abs Go.Proofs
set_option maxRecDepth 100000
variable {s:Af}
abbrev DD:Nat:=60
def SN:Ar:={ Op:=1,Column:=0,Code:=0,Low:=0,High:=0,Kids:=[] }
def Uz:Ar:={ Op:=0,Column:=0,Code:=0,Low:=0,High:=0,Kids:=[] }
theorem DS.rcond_all (h:DS s):Ej DD s SN = some 0:=by unfold Ej; rw [h.rcheck]; rfl
def Zz (s:Af) (c:Az):Int:=if c.Kind = 2 then Js ((idx s.Lists c.List_).getD { Name:=TV,Codes:=[] }) - 1 else c.Widths.length
def El (s:Af) (i:Nat):Int:=Zz s (s.Columns[i]?.getD d4)
theorem I1 {i:Nat} (hi:i < s.Columns.length):El s i = Zz s s.Columns[i]:=by unfold El; rw [List.getElem?_eq_getElem hi]; rfl
theorem IX {c:Az} (h:De c):1≤c.Widths.length∧c.Widths.length≤4:=by rcases aY h.widths with e | e | e | e <;> (rw [e]; decide)
theorem JS {c:Az} (h:Tm c) {L:Aw} (hL:idx s.Lists c.List_ = some L):Zz s c = Js L - 1:=by unfold Zz; rw [if_pos h.kind,hL]; rfl
theorem F3 {c:Az} (h:De c):Zz s c = c.Widths.length:=by unfold Zz; rw [if_neg (by rw [h.kind]; decide)]
theorem DS.fin_ok (h:DS s) {i:Nat} (h0:1≤i) (hi:i < s.Columns.length):1≤El s i∧El s i≤4:=by
 rw [I1 hi]
 rcases h.col h0 hi with h1 | h1
 ·obtain ⟨L,hL,hL2⟩:=h.clist h1
  have:=Nn hL
  rw [JS h1 hL2]
  have:=this.lev2; have:=(Nn hL).lev3
  omega
 ·have:=IX h1
  rw [F3 h1]
  omega
theorem DS.rfinest (h:DS s) {i:Nat} (h0:1≤i) (hi:i < s.Columns.length):CG s i = some (El s i):=by
 have hc:=h.cols_length
 unfold CG
 rw [h.rcheck,Option.bind_some,df,df]
 show (idx s.Columns (i:Int)).bind _ = _
 rw [HB hi,Option.bind_some,I1 hi]
 rcases h.col h0 hi with h1 | h1
 ·obtain ⟨L,hL,hL2⟩:=h.clist h1
  have:=Nn hL
  have h2:=this.lev2; have h3:=this.lev3
  rw [h1.kind,JS h1 hL2]
  show (idx s.Lists _).bind _ = _
  rw [hL2,Option.bind_some,this.rlev,Option.bind_some,wr]
 ·rw [h1.kind,F3 h1]; rfl
theorem DS.pfinest (h:DS s) {i:Nat} (h0:1≤i) (hi:i < s.Columns.length):Eu s i = some (El s i):=by
 have hc:=h.cols_length
 unfold Eu
 rw [df,df]
 show (idx s.Columns (i:Int)).bind _ = _
 rw [HB hi,Option.bind_some,I1 hi]
 rcases h.col h0 hi with h1 | h1
 ·obtain ⟨L,hL,hL2⟩:=h.clist h1
  have:=Nn hL
  have h2:=this.lev2; have h3:=this.lev3
  rw [h1.kind,JS h1 hL2]
  show (idx s.Lists _).bind _ = _
  rw [hL2,Option.bind_some,this.lev,Option.bind_some,wr]
 ·rw [h1.kind,F3 h1]; rfl
theorem DS.pFinest (h:DS s) {i:Nat} (h0:1≤i) (hi:i < s.Columns.length):Ds s i = some (El s i):=by
 unfold Ds
 rw [h.check,Option.bind_some,h.pfinest h0 hi]
 rfl
def ZG:Cn:={ Name:=({ data:=#[113] }:ByteArray),Kind:=1,Filter:=SN,Dims:=[({ Column:=1,Level:=0 }:An)],Measure:=(-1),Terms:=[],Event:=Uz }
def Zr:AZ:={ Project:=({ data:=#[97,108,108,95,114,111,119,115] }:ByteArray),Source:=({ data:=#[115,114,99] }:ByteArray),Cohort:=SN,Sample:=({ Part:=1,Of:=1,Seed:=0 }:J8),Questions:=[ZG] }
def Dg (s:Af):List An:=(List.range (s.Columns.length - 1)).map fun k=>{ Column:=((k + 1:Nat):Int),Level:=El s (k + 1) }
theorem cL (h:DS s):NP s = some (Zr,Dg s):=by
 have hc:=h.cols_length
 refine Ok.val ?_
 unfold NP
 refine Ok.for (fun q=>q.1) s.Columns.length (fun i q=>1≤i∧q.2 = (List.range (i - 1)).map fun k=>{ Column:=((k + 1:Nat):Int),Level:=El s (k + 1) }) 1 (by omega) rfl ⟨by omega,rfl⟩ (by omega) (fun rec q hq hI=>?_) fun rec i q hi hq hI ih=>?_
 ·simp only [KR,hq]
  rw [Co,hI.2]
  exact Ok.some rfl
 ·obtain ⟨h0,hI⟩:=hI
  simp only [KR,hq]
  rw [BO]
  refine Ok.bindE (h.rfinest h0 hi) (Ok.rm (by rw [hI]; simp; omega) (ih _ LJ ⟨by omega,?_⟩))
  show q.2++[_] = _
  rw [hI]
  obtain ⟨j,rfl⟩:∃ j,i = j + 1:=⟨i - 1,by omega⟩
  simp [List.range_succ]
theorem cJ {p:An} (h:DS s) {i:Nat} (h0:1≤i) (hi:i < s.Columns.length) (hp:p.Column = i) (hl:0≤p.Level) (hl2:p.Level≤El s i):I9 s p = some 0:=by
 unfold I9
 rw [h.rcheck,Option.bind_some,hp,df,df]
 show (CG s (i:Int)).bind _ = _
 rw [h.rfinest h0 hi,Option.bind_some,KX,Option.bind_some,decide_eq_true ⟨hl,hl2⟩]
 rfl
theorem Ck {k:Nat} (hk:k < (Dg s).length):(Dg s)[k] = { Column:=((k + 1:Nat):Int),Level:=El s (k + 1) }:=by simp [Dg]
theorem Fq:(Dg s).length = s.Columns.length - 1:=by simp [Dg]
theorem Un (h:DS s):Hk s (Dg s) = some 0:=by
 have hc:=h.cols_length
 have hl:=Fq (s:=s)
 refine Ok.val ?_
 unfold Hk
 refine Ok.bindE h.rcheck (Ok.no rfl ?_)
 refine Ok.for (fun q=>q) (Dg s).length (fun _ _=>True) 0 (Nat.zero_le _) rfl trivial (by omega) (fun rec q hq _=>?_) fun rec i q hi hq _ ih=>?_
 ·simp only [HT,hq]
  rw [Co]
  exact Ok.some rfl
 ·simp only [HT,hq]
  rw [BO]
  have hf:=h.fin_ok (i:=i + 1) (by omega) (by omega)
  refine Ok.idxn hi (Ok.bindE (cJ h (i:=i + 1) (by omega) (by omega) (by rw [Ck hi]) (by rw [Ck hi]; show 0≤El s (i + 1); omega) (by rw [Ck hi]; exact Int.le_refl _)) (Ok.no rfl (Ok.brd (fun h1=>Ok.idxn hi ?_) fun _=>ih _ LJ trivial)))
  have e:IntKind.i64.wrap ((i:Int) - 1) = ((i - 1:Nat):Int):=by rw [wr]; omega
  rw [e]
  refine Ok.idxn (by omega:i - 1 < (Dg s).length) (Ok.brd (fun h2=>?_) fun _=>ih _ LJ trivial)
  rw [Ck hi,Ck (by omega:i - 1 < (Dg s).length)] at h2
  simp only at h2
  omega
theorem dZ (h:DS s):KA s [({ Column:=1,Level:=0 }:An)] = some 0:=by
 have hc:=h.cols_length
 have hf:=h.fin_ok (i:=1) (by omega) (by omega)
 have hk:s.Columns[1].Kind = 2:=by
  obtain ⟨j,ms,e,_⟩:=h.cols
  have:s.Columns[1]? = some eO:=by rw [e]; cases j <;> rfl
  rw [List.getElem?_eq_getElem (by omega)] at this
  rw [Option.some.inj this]; rfl
 refine Ok.val ?_
 unfold KA
 refine Ok.no rfl ?_
 refine Ok.for (fun q=>q) 1 (fun _ _=>True) 0 (Nat.zero_le _) rfl trivial (by omega) (fun rec q hq _=>?_) fun rec i q hi hq _ ih=>?_
 ·simp only [IV,hq]
  exact Ok.no rfl (Ok.some rfl)
 ·obtain rfl:i = 0:=by omega
  simp only [IV,hq]
  refine Ok.yes rfl (Ok.bindE (x:=({ Column:=1,Level:=0 }:An)) rfl (Ok.bindE (cJ h (i:=1) (by omega) (by omega) rfl (by show (0:Int)≤0; omega) (by show (0:Int)≤El s 1; omega)) (Ok.no rfl (Ok.bindE (x:=({ Column:=1,Level:=0 }:An)) rfl (Ok.bindE (x:=true) ?_ (Ok.no rfl ?_))))))
  ·unfold KB
   rw [decide_eq_true (by decide),decide_eq_true (by show (1:Int) < _; omega)]
   show (idx s.Columns ((1:Nat):Int)).bind _ = _
   rw [HB (by omega:1 < s.Columns.length),Option.bind_some,hk]
   rfl
  ·refine Ok.for (fun q=>q) 0 (fun _ _=>True) 0 (Nat.zero_le _) rfl trivial (by omega) (fun rec q hq _=>?_) fun rec i q hi hq _ ih=>absurd hi (by omega)
   simp only [LB,hq]
   exact Ok.no rfl (ih _ rfl trivial)
theorem RN (h:DS s):D7 DD s ZG = some 0:=by
 refine Ok.val ?_
 unfold D7
 refine Ok.bindE h.rcheck (Ok.no rfl (Ok.bindE (x:=true) (by decide +kernel) (Ok.no rfl (Ok.no rfl (Ok.bindE h.rcond_all (Ok.no rfl (Ok.bindE (x:=0) ?_ (Ok.no rfl (Ok.no rfl (Ok.yes rfl (Ok.bindE (x:=true) rfl (Ok.no rfl (Ok.some rfl)))))))))))))
 unfold Lf
 refine Ok.val (Ok.bindE (x:=false) ?_ (Ok.yes rfl (Ok.bindE (dZ h) (Ok.no rfl (Ok.no rfl (Ok.some rfl))))))
 unfold KB
 rfl
theorem Re (h:DS s):Ho DD s Zr = some 0:=by
 refine Ok.val ?_
 unfold Ho
 refine Ok.bindE h.rcheck (Ok.no rfl (Ok.bindE (x:=true) (by decide +kernel) (Ok.no rfl (Ok.bindE (x:=true) (by decide +kernel) (Ok.no rfl ?_)))))
 unfold HY
 refine Ok.bindE h.rcond_all (Ok.no rfl (Ok.no rfl (Ok.no rfl ?_)))
 refine Ok.for (fun q=>q) 1 (fun _ _=>True) 0 (Nat.zero_le _) rfl trivial (by omega) (fun rec q hq _=>?_) fun rec i q hi hq _ ih=>?_
 ·simp only [HX,hq]
  exact Ok.no rfl (Ok.some rfl)
 ·obtain rfl:i = 0:=by omega
  simp only [HX,hq]
  refine Ok.yes rfl (Ok.bindE (x:=ZG) rfl (Ok.bindE (RN h) (Ok.no rfl ?_)))
  refine Ok.for (fun q=>q) 0 (fun _ _=>True) 0 (Nat.zero_le _) rfl trivial (by omega) (fun rec q hq _=>?_) fun rec i q hi hq _ ih=>absurd hi (by omega)
  simp only [K9,hq]
  exact Ok.no rfl (ih _ rfl trivial)
theorem Xt (h:DS s):Hm DD s SN = some []:=by
 unfold Hm
 rw [h.rcond_all]
 rfl
theorem cd (h:DS s):Hj s 1 0 = some 0:=by
 have hc:=h.cols_length
 have hf:=h.fin_ok (i:=1) (by omega) (by omega)
 refine Ok.val ?_
 unfold Hj
 refine Ok.bindE (h.rfinest (i:=1) (by omega) (by omega)) ?_
 rw [KX,Option.bind_some,dt]
 refine Ok.no rfl ?_
 refine Ok.loop (fun q=>q = 0) (fun _=>0) rfl (by unfold AM; omega) fun rec q hq ih=>?_
 subst hq
 unfold K3
 refine Ok.bindE (x:=true) ?_ (Ok.no rfl (Ok.some rfl))
 unfold IS
 refine Ok.val (Ok.idxn (i:=1) (by omega) (Ok.yes rfl (Ok.some rfl)))
theorem dm (h:DS s):Jj DD s ZG = some []:=by
 have hc:=h.cols_length
 refine Ok.val ?_
 unfold Jj
 refine Ok.bindE (RN h) (Ok.no rfl (Ok.bindE (Xt h) (Ok.no rfl ?_)))
 unfold Gb
 refine Ok.for (fun q=>q.2) 1 (fun _ q=>q.1 = []) 0 (Nat.zero_le _) rfl rfl (by omega) (fun rec q hq hI=>?_) fun rec i q hi hq hI ih=>?_
 ·simp only [HZ,hq,hI]
  refine Ok.no rfl ?_
  refine Ok.for (fun q=>q.2) s.Columns.length (fun _ q=>q.1 = []) 1 (by omega) rfl rfl (by omega) (fun rec q hq hI=>?_) fun rec i q hi hq hI ih=>?_
  ·simp only [Ia,hq,hI]
   rw [Co]
   exact Ok.some rfl
  ·simp only [Ia,hq,hI]
   rw [BO]
   refine Ok.bindE (x:=false) ?_ (Ok.no rfl (ih _ LJ rfl))
   unfold Nf
   have e:(ZG.Measure==(i:Int)) = false:=by
    rw [beq_eq_false_iff_ne]; show (-1:Int)≠_; omega
   rw [e]
   rfl
 ·obtain rfl:i = 0:=by omega
  simp only [HZ,hq,hI]
  refine Ok.yes rfl (Ok.bindE (x:=({ Column:=1,Level:=0 }:An)) rfl (Ok.bindE (x:=({ Column:=1,Level:=0 }:An)) rfl (Ok.bindE (x:=({ Column:=1,Level:=0 }:An)) rfl (Ok.bindE (cd h) (Ok.bindE (x:=[]) rfl (ih _ rfl rfl))))))
theorem Yp (h:DS s):Jk DD s Zr (Dg s) = some 0:=by
 refine Ok.val ?_
 unfold Jk
 refine Ok.bindE (Re h) (Ok.no rfl (Ok.bindE (Un h) (Ok.no rfl ?_)))
 refine Ok.for (fun q=>q) 1 (fun _ _=>True) 0 (Nat.zero_le _) rfl trivial (by omega) (fun rec q hq _=>?_) fun rec i q hi hq _ ih=>?_
 ·simp only [Ib,hq]
  exact Ok.no rfl (Ok.some rfl)
 ·obtain rfl:i = 0:=by omega
  simp only [Ib,hq]
  refine Ok.yes rfl (Ok.bindE (x:=ZG) rfl (Ok.bindE (x:=true) ?_ (Ok.no rfl (ih _ rfl trivial))))
  unfold IW
  refine Ok.val (Ok.bindE (RN h) (Ok.yes rfl (Ok.bindE (Un h) (Ok.yes rfl (Ok.bindE (dm h) (Ok.bindE (x:=true) rfl (Ok.some rfl)))))))
end Go.Proofs.YtjgeigjjfcnojaaGreatDoor.P
namespace Go.Proofs.YtjgeigjjfcnojaaGreatDoor.P
open Go Go.Abs Go.Proofs
set_option maxRecDepth 100000
variable {s:Af}
def b3:J8:={ Part:=1,Of:=1,Seed:=0 }
theorem cV (id:Int) (h0:1≤id) (h1:id≤1048575):O8 b3 id = some true:=by
 refine Ok.val ?_
 unfold O8
 refine Ok.bindE (x:=0) rfl (Ok.yes (by simp [h0,h1]) ?_)
 obtain ⟨v,hv⟩:∃ v,Ng b3.Seed id = some v:=⟨_,rfl⟩
 refine Ok.bindE hv (Ok.gdd (by decide) (Ok.some ?_))
 show decide (Int.tmod v 1 < 1) = true
 rw [Int.tmod_one]
 rfl
theorem XS {n:Int} (h0:0≤n) (h1:n < 18446744073709551616):0≤Int.fdiv n 18014398509481984∧Int.fdiv n 18014398509481984≤1023:=by
 rw [Int.fdiv_eq_ediv_of_nonneg _ (by omega)]
 omega
theorem V0 (n:Int):0≤IntKind.u64.wrap n∧IntKind.u64.wrap n < 18446744073709551616:=by
 unfold IntKind.wrap
 simp only [IntKind.signed,IntKind.bits]
 simp
 omega
theorem bn (sec r c:Int):Ok (Jl sec r c) fun x=>0≤x∧x≤1023:=by
 unfold Jl
 refine Ok.br (fun _=>Ok.some (by omega)) fun _=>?_
 refine Ok.for (fun q=>q.2) 3 (fun _ q=>0≤q.1∧q.1 < 18446744073709551616) 0 (Nat.zero_le _) rfl (V0 _) (by omega) (fun rec q hq hI=>?_) fun rec i q hi hq hI ih=>?_
 ·simp only [Ic,hq]
  refine Ok.no rfl (Ok.some ?_)
  have e:(2:Int) ^ (min (54:Int).toNat IntKind.u64.bits) = 18014398509481984:=by decide
  rw [e]
  have:=XS hI.1 hI.2
  rw [wr]
  exact this
 ·simp only [Ic,hq]
  rw [BO]
  exact ih _ LJ (V0 _)
theorem ZU {a b:Int} (ha:0≤a∧a≤1023) (hb:0≤b∧b≤1023):0≤IntKind.i64.wrap (((BitVec.ofInt IntKind.i64.bits a ^^^ BitVec.ofInt IntKind.i64.bits b).toNat:Nat):Int)∧IntKind.i64.wrap (((BitVec.ofInt IntKind.i64.bits a ^^^ BitVec.ofInt IntKind.i64.bits b).toNat:Nat):Int)≤1023:=by
 obtain ⟨m,rfl⟩:∃ m:Nat,a = m:=⟨a.toNat,by omega⟩
 obtain ⟨n,rfl⟩:∃ n:Nat,b = n:=⟨b.toNat,by omega⟩
 have e:(BitVec.ofInt IntKind.i64.bits (m:Int) ^^^ BitVec.ofInt IntKind.i64.bits (n:Int)).toNat = m ^^^ n:=by
  rw [BitVec.toNat_xor,BitVec.ofInt_natCast,BitVec.ofInt_natCast,BitVec.toNat_ofNat,BitVec.toNat_ofNat]
  have h1:m % 2 ^ IntKind.i64.bits = m:=Nat.mod_eq_of_lt (by show m < 2 ^ 64; omega)
  have h2:n % 2 ^ IntKind.i64.bits = n:=Nat.mod_eq_of_lt (by show n < 2 ^ 64; omega)
  rw [h1,h2]
 rw [e]
 have:m ^^^ n < 2 ^ 10:=Nat.xor_lt_two_pow (by omega) (by omega)
 rw [wr]
 omega
theorem cW {sec id:Int} (hs0:0≤sec) (hs1:sec < 1152921504606846976) (h0:0≤id) (h1:id < 1048576):Ok (Mw sec id) fun x=>0≤x∧x≤1048575:=by
 unfold Mw
 refine Ok.bindE (x:=true) ?_ (Ok.no rfl ?_)
 ·unfold Lg
  rw [decide_eq_true hs0,decide_eq_true hs1,decide_eq_true h0,decide_eq_true h1]
  rfl
 ·have e1:0≤Int.tdiv id 1024∧Int.tdiv id 1024≤1023:=by rw [Int.tdiv_eq_ediv_of_nonneg h0]; omega
  have e2:0≤Int.tmod id 1024∧Int.tmod id 1024≤1023:=by rw [Int.tmod_eq_emod_of_nonneg h0]; omega
  refine Ok.for (fun q=>q.2.2) 8 (fun _ q=>(0≤q.1∧q.1≤1023)∧(0≤q.2.1∧q.2.1≤1023)) 0 (Nat.zero_le _) rfl ⟨by show 0≤IntKind.i64.wrap _∧IntKind.i64.wrap _≤1023; rw [wr]; exact e1,e2⟩ (by omega) (fun rec q hq hI=>?_) fun rec i q hi hq hI ih=>?_
  ·obtain ⟨⟨a1,a2⟩,b1,b2⟩:=hI
   simp only [JN,hq]
   refine Ok.no rfl (Ok.some ?_)
   rw [wr (n:=q.1 * 1024) (by omega) (by omega),wr]
   omega
  ·simp only [JN,hq]
   rw [BO]
   refine Ok.bind (bn _ _ _) fun x hx=>ih _ LJ ⟨hI.2,ZU hI.1 hx⟩
theorem TM (h:DS s) {i:Nat} (hi:i < s.Columns.length) {v:Int} (hv:XC s s.Columns[i] v):Hh s i v = some true:=by
 refine Ok.val ?_
 unfold Hh
 refine Ok.idxn hi ?_
 rcases hv with ⟨hk,h1,h2⟩ | ⟨hk,L,hL,hL2,h1⟩ | ⟨hk,h1⟩
 ·refine Ok.yes (by rw [hk]; rfl) ?_
  rw [KX,dt]
  exact Ok.some rfl
 ·have hc:=Nn hL
  obtain ⟨h2,h3,h4,_,_⟩:=hc.leaf v h1
  have h5:=hc.lev2; have h6:=hc.lev3
  have hlen:L.Codes.length≤100:=by
   have:(Zh.all fun l=>decide (l.Codes.length≤100)) = true:=by decide +kernel
   simpa using List.all_eq_true.1 this L hL
  refine Ok.no (by rw [hk]; rfl) (Ok.yes (by rw [hk]; rfl) (Ok.bindE hL2 ?_))
  rw [KX,Option.bind_some,decide_eq_true (by rw [wr]; omega)]
  refine Ok.yes rfl (Ok.bindE h4 (Ok.bindE hc.rlev (Ok.some ?_)))
  rw [wr]
  exact beq_self_eq_true _
 ·refine Ok.no (by rw [hk]; rfl) (Ok.no (by rw [hk]; rfl) (Ok.br (fun _=>Ok.some rfl) fun hn=>?_))
  rcases h1 with h1 | ⟨ho,rfl⟩
  ·rw [KX,dt]
   exact Ok.some rfl
  ·rw [ho] at hn
   cases hn
theorem ed (h:DS s) {r:List Int} (hr:Qu s r):IA s r = some 0:=by
 have hc:=h.cols_length
 refine Ok.val ?_
 unfold IA
 refine Ok.bindE h.rcheck (Ok.no rfl (Ok.no (by rw [hr.1]; simp) ?_))
 refine Ok.for (fun q=>q) r.length (fun _ _=>True) 0 (Nat.zero_le _) rfl trivial (by rw [hr.1]; omega) (fun rec q hq _=>?_) fun rec i q hi hq _ ih=>?_
 ·simp only [JL,hq]
  rw [Co]
  exact Ok.some rfl
 ·simp only [JL,hq]
  rw [BO]
  have hi2:i < s.Columns.length:=by rw [← hr.1]; exact hi
  refine Ok.idxn hi (Ok.bindE (TM h hi2 (hr.2 i _ _ (List.getElem?_eq_getElem hi2) (List.getElem?_eq_getElem hi))) (Ok.no rfl (ih _ (LJ (by rw [hr.1] at hi; omega)) trivial)))
theorem bq {x:B2} {n:Nat} (h:UW x n) (hn:n≤100):Hl x = some true:=by
 have hl:=h.len
 refine Ok.val ?_
 unfold Hl
 refine Ok.bindE h.schema.rcheck (Ok.no ?_ ?_)
 ·rw [h.gone,h.version,df]; rfl
 refine Ok.for (fun q=>q) x.Rows.length (fun _ _=>True) 0 (Nat.zero_le _) rfl trivial (by omega) (fun rec q hq _=>?_) fun rec i q hi hq _ ih=>?_
 ·simp only [HV,hq]
  rw [Co]
  unfold HW
  refine Ok.for (fun q=>q) 0 (fun _ _=>True) 0 (Nat.zero_le _) rfl trivial (by omega) (fun rec q hq _=>?_) fun rec i q hi hq _ ih=>absurd hi (by omega)
  simp only [K5,hq,h.gone]
  exact Ok.no rfl (Ok.some rfl)
 ·simp only [HV,hq]
  rw [BO]
  have hr:=h.rows _ (List.getElem_mem hi)
  refine Ok.idxn hi (Ok.bindE (ed h.schema hr) (Ok.no rfl (Ok.brd (fun h1=>?_) fun _=>ih _ LJ trivial)))
  have e:IntKind.i64.wrap ((i:Int) - 1) = ((i - 1:Nat):Int):=by rw [wr]; omega
  rw [e]
  have hi3:i - 1 < x.Rows.length:=by omega
  have hlt:=(List.pairwise_iff_getElem.1 h.asc) (i - 1) i hi3 hi (by omega)
  refine Ok.idxn hi (Ok.bindE (Gu (hr.ne h.schema)) (Ok.idxn hi3 (Ok.bindE (Gu ((h.rows _ (List.getElem_mem hi3)).ne h.schema)) (Ok.brd (fun h2=>by omega) fun _=>ih _ LJ trivial))))
theorem ZJ (h:DS s) {r:List Int} (hr:Qu s r):K7 DD s SN r = some 1:=by
 unfold K7
 rw [h.rcond_all]
 show (IA s r).bind _ = _
 rw [ed h hr]
 rfl
theorem Qu.hd (h:DS s) {r:List Int} (hr:Qu s r):1≤hd r∧hd r≤1000:=by
 have hc:=h.cols_length
 have h0:0 < s.Columns.length:=by omega
 have h1:0 < r.length:=by rw [hr.1]; exact h0
 have:=hr.2 0 d4 r[0] (by rw [List.getElem?_eq_getElem h0,h.col0]) (List.getElem?_eq_getElem h1)
 have e:P.hd r = r[0]:=by cases r with | nil=>simp at h1 | cons a q=>rfl
 rw [e]
 rcases this with ⟨_,h2,h3⟩ | ⟨hk,_⟩ | ⟨hk,_⟩
 ·exact ⟨h2,h3⟩
 ·exact absurd hk (by decide)
 ·exact absurd hk (by decide)
theorem cf {x:B2} {n:Nat} (h:UW x n) (hn:n≤100):Ig DD x Zr = some (x.Rows.map hd):=by
 have hl:=h.len
 refine Ok.val ?_
 unfold Ig
 refine Ok.bindE (bq h hn) (Ok.no rfl (Ok.bindE (Re h.schema) (Ok.no rfl ?_)))
 unfold GF
 refine Ok.for (fun q=>q.1) x.Rows.length (fun i q=>q.2 = (x.Rows.take i).map hd) 0 (Nat.zero_le _) rfl rfl (by omega) (fun rec q hq hI=>?_) fun rec i q hi hq hI ih=>?_
 ·simp only [GE,hq]
  rw [Co,hI,List.take_length]
  exact Ok.some rfl
 ·simp only [GE,hq]
  rw [BO]
  have hr:=h.rows _ (List.getElem_mem hi)
  have hh:=hr.hd h.schema
  refine Ok.idxn hi (Ok.bindE (ZJ h.schema hr) (Ok.yes rfl (Ok.idxn hi (Ok.bindE (Gu (hr.ne h.schema)) (Ok.bindE (cV _ hh.1 (by omega)) (Ok.yes rfl (Ok.idxn hi (Ok.bindE (Gu (hr.ne h.schema)) (Ok.rm ?_ (ih _ LJ ?_))))))))))
  ·rw [hI]; simp; omega
  ·show q.2++[_] = _
   rw [hI,List.take_succ_eq_append_getElem hi,List.map_append]
   rfl
theorem ec {x:B2} {n:Nat} (h:UW x n) (hn:n≤100) {i:Nat} (hi:i < x.Rows.length):GZ x (hd x.Rows[i]) = some (i:Int):=by
 have hl:=h.len
 refine Ok.val ?_
 unfold GZ
 refine Ok.for (fun q=>q) x.Rows.length (fun k _=>k≤i) 0 (Nat.zero_le _) rfl (Nat.zero_le _) (by omega) (fun rec q hq hI=>by omega) fun rec k q hk hq hI ih=>?_
 simp only [L5,hq]
 rw [BO]
 have hr:=h.rows _ (List.getElem_mem hk)
 have hne:=hr.ne h.schema
 refine Ok.idxn hk (Ok.brd (fun _=>Ok.idxn hk (Ok.bindE (Gu hne) (Ok.br (fun he=>Ok.some ?_) fun hn=>ih _ LJ ?_))) fun hz=>?_)
 ·by_cases e:k = i
  ·rw [e]
  ·have he:hd x.Rows[k] = hd x.Rows[i]:=by simpa using he
   have:=(List.pairwise_iff_getElem.1 h.asc) k i hk hi (by omega)
   omega
 ·by_cases e:k = i
  ·subst e; simp at hn
  ·omega
 ·have:=List.length_pos_iff.2 hne
  omega
theorem Z2 {v:Int} (h0:-1000000≤v) (h1:v≤1000000):Ei v 1 = some v:=by
 unfold Ei
 rw [BO (by decide),BO (by decide),Int.tmod_one,Co (by decide),Int.tdiv_one,wr]
theorem Tz (h:DS s) {i:Nat} (h0:1≤i) (hi:i < s.Columns.length) {v:Int} (hv:XC s s.Columns[i] v):BH s i (El s i) v = some v:=by
 have hf:=h.fin_ok h0 hi
 refine Ok.val ?_
 unfold BH
 refine Ok.bindE (h.rfinest h0 hi) ?_
 rw [KX,Option.bind_some,dt]
 refine Ok.no rfl (Ok.idxn hi ?_)
 rcases h.col h0 hi with h1 | h1
 ·obtain ⟨L,hL,hL2⟩:=h.clist h1
  have hcl:=Nn hL
  have hv2:v∈DJ L:=by
   rcases hv with ⟨hk,_⟩ | ⟨hk,L',hL',hL2',h3⟩ | ⟨hk,_⟩
   ·rw [h1.kind] at hk; cases hk
   ·rw [hL2] at hL2'; cases hL2'; exact h3
   ·rw [h1.kind] at hk; cases hk
  refine Ok.yes (by rw [h1.kind]; rfl) (Ok.bindE (TM h hi hv) (Ok.no rfl (Ok.bindE hL2 (Ok.bindE (x:=v) ?_ (Ok.some rfl)))))
  rw [I1 hi,JS h1 hL2]
  exact (hcl.leaf v hv2).2.2.2.2
 ·obtain ⟨a1,a2⟩:=h1.low
  obtain ⟨a3,a4⟩:=h1.high
  have hv2:(s.Columns[i].Low≤v∧v≤s.Columns[i].High)∨v = Cb:=by
   rcases hv with ⟨hk,_⟩ | ⟨hk,_⟩ | ⟨hk,h3 | h3⟩
   ·rw [h1.kind] at hk; cases hk
   ·rw [h1.kind] at hk; cases hk
   ·exact .inl h3
   ·exact .inr h3.2
  have hw:CR s.Columns[i] (El s i) = some 1:=by
   rw [I1 hi,F3 h1]
   unfold CR
   have hwl:=IX h1
   rw [wr,Int.sub_self]
   rcases aY h1.widths with e | e | e | e <;> (rw [e]; rfl)
  refine Ok.no (by rw [h1.kind]; rfl) ?_
  have e0:(El s i==0) = false:=by rw [beq_eq_false_iff_ne]; omega
  rcases hv2 with hv2 | rfl
  ·have e1:(v != -1099511627776) = true:=by rw [bne_iff_ne]; omega
   have e2:(v==-1099511627776) = false:=by rw [beq_eq_false_iff_ne]; omega
   refine Ok.yes e1 ?_
   rw [KX,Option.bind_some,dt]
   refine Ok.no rfl (Ok.no e0 (Ok.no e2 (Ok.bindE hw (Ok.bindE (Z2 (by omega) (by omega)) (Ok.some ?_)))))
   rw [wr]
   omega
  ·exact Ok.no rfl (Ok.no e0 (Ok.yes rfl (Ok.some rfl)))
def ai (s:Af) (r:List Int):Prop:=r.length = s.Columns.length∧0≤hd r∧hd r≤1048575∧∀ (i:Nat) c v,1≤i→s.Columns[i]? = some c→r[i]? = some v→XC s c v
structure Sa (s:Af) (x:A1) (n:Nat):Prop where
 project:x.Project = Zr.Project
 version:x.Version = 0
 picks:x.Picks = Dg s
 rows:∀ r∈x.Rows,ai s r
 asc:bF x.Rows
 len:x.Rows.length≤n
theorem ai.ne (h:DS s) {r:List Int} (hr:ai s r):r≠[]:=by
 intro e
 have h1:=hr.1
 have:=h.cols_length
 rw [e] at h1
 simp at h1
 omega
theorem am {x:B2} {n:Nat} (h:UW x n) (hn:n≤100) {sec:Int} (hs0:0≤sec) (hs1:sec < 1152921504606846976):Ok (Jm DD x Zr (Dg x.Schema) sec) fun r=>Sa x.Schema r.1 n:=by
 have hl:=h.len
 have hc:=h.schema.cols_length
 have hpl:=Fq (s:=x.Schema)
 unfold Jm
 refine Ok.bindE (bq h hn) (Ok.no rfl (Ok.bindE (Yp h.schema) (Ok.no rfl (Ok.no ?_ (Ok.rm (by omega) (Ok.bindE (cf h hn) ?_))))))
 ·rw [df,df]; rfl
 refine Ok.for (fun q=>q.1) x.Rows.length (fun i q=>(∀ r∈q.2,ai x.Schema r)∧bF q.2∧q.2.length≤i) 0 (Nat.zero_le _) rfl ⟨(fun r hr=>by cases hr),List.Pairwise.nil,Nat.zero_le _⟩ (by omega) (fun rec q hq hI=>?_) fun rec i q hi hq hI ih=>?_
 ·simp only [Ie,hq]
  rw [List.length_map,Co]
  exact Ok.some ⟨rfl,h.version,rfl,hI.1,hI.2.1,by show q.2.length≤n; omega⟩
 ·obtain ⟨h1,h2,h3⟩:=hI
  simp only [Ie,hq]
  rw [List.length_map,BO]
  have hr:=h.rows _ (List.getElem_mem hi)
  have hh:=hr.hd h.schema
  have hid:idx (x.Rows.map hd) (i:Int) = some (hd x.Rows[i]):=by rw [HB (by rw [List.length_map]; exact hi),List.getElem_map]
  refine Ok.bindE hid (Ok.bindE (ec h hn hi) (Ok.idxn hi (Ok.bindE hid (Ok.bind (cW hs0 hs1 (by omega) (by omega)) fun key hkey=>?_))))
  refine Ok.for (fun q=>q.1) (Dg x.Schema).length (fun k q=>q.2 = key :: (x.Rows[i].drop 1).take k) 0 (Nat.zero_le _) rfl rfl (by omega) (fun rec2 q2 hq2 hI2=>?_) fun rec2 k q2 hk hq2 hI2 ih2=>?_
  ·simp only [If,hq2]
   rw [Co]
   have e:(x.Rows[i].drop 1).take (Dg x.Schema).length = x.Rows[i].drop 1:=List.take_of_length_le (by rw [List.length_drop,hr.1]; omega)
   rw [hI2,e]
   have hx:ai x.Schema (key :: x.Rows[i].drop 1):=by
    refine ⟨by rw [List.length_cons,List.length_drop,hr.1]; omega,hkey.1,hkey.2,fun k c v hk1 hkc hkv=>?_⟩
    obtain ⟨j,rfl⟩:∃ j,k = j + 1:=⟨k - 1,by omega⟩
    rw [List.getElem?_cons_succ,List.getElem?_drop,Nat.add_comm] at hkv
    exact hr.2 _ c v hkc hkv
   refine Ok.bindE (bh (fun r hr=>(h1 r hr).ne h.schema) (by simp) h2 (by omega)) (ih _ LJ ⟨fun r hr=>?_,Xn h2,?_⟩)
   ·rcases Xo hr with rfl | hr
    ·exact hx
    ·exact h1 r hr
   ·have:=Oj q.2 (key :: x.Rows[i].drop 1)
    show (Ua q.2 _).length≤i + 1
    omega
  ·simp only [If,hq2]
   rw [BO]
   have hkk:k + 1 < x.Schema.Columns.length:=by omega
   have hkr:k + 1 < x.Rows[i].length:=by rw [hr.1]; exact hkk
   refine Ok.idxn hk (Ok.idxn hk (Ok.idxn hk ?_))
   rw [Ck hk]
   refine Ok.idxn hkr (Ok.bindE (Tz h.schema (by omega) hkk (hr.2 (k + 1) _ _ (List.getElem?_eq_getElem hkk) (List.getElem?_eq_getElem hkr))) (Ok.rm ?_ (ih2 _ LJ ?_)))
   ·rw [hI2]; simp; omega
   ·show q2.2++[_] = _
    have hkd:k < (x.Rows[i].drop 1).length:=by rw [List.length_drop]; omega
    rw [hI2,List.take_succ_eq_append_getElem hkd,List.cons_append,List.getElem_drop]
    simp [Nat.add_comm]
theorem bA {c:Am} (hc:N5 c) {n:Nat} (hn:n≤50):Ok (E8 DD c n) fun r=>UW r.1 n∧Sa r.1.Schema r.2.1 n∧N5 r.2.2:=by
 unfold E8
 refine Ok.bind (ZO hc hn) fun x hx=>Ok.bindE (cL hx.2.schema) (Ok.bind (ZM hx.1) fun y hy=>Ok.bind (am hx.2 (by omega) hy.2.1 hy.2.2) fun z hz=>Ok.some ⟨hx.2,hz,hy.1⟩)
end Go.Proofs.YtjgeigjjfcnojaaGreatDoor.P
namespace Go.Proofs.YtjgeigjjfcnojaaGreatDoor.P
open Go Go.Abs Go.Proofs
set_option maxRecDepth 100000
variable {s:Af}
def JZ (c:Az) (l:Int):Int:=c.Widths.getD ((c.Widths.length:Int) - l).toNat 1
theorem Zf {c:Az} (h:De c) {l:Int} (h0:1≤l) (h1:l≤c.Widths.length):idx c.Widths (IntKind.i64.wrap (((c.Widths.length:Nat):Int) - l)) = some (JZ c l):=by
 have hl:=IX h
 rw [wr,R3 (by omega) (by omega)]
 unfold JZ
 rw [List.getD_eq_getElem?_getD,List.getElem?_eq_getElem (by omega:((c.Widths.length:Int) - l).toNat < c.Widths.length)]
 rfl
theorem Yn {c:Az} (h:De c) {l:Int} (h0:1≤l) (h1:l≤c.Widths.length):Fj c l = some (JZ c l):=by unfold Fj; rw [Zf h h0 h1]; rfl
theorem dp {c:Az} (h:De c) {l:Int} (h0:1≤l) (h1:l≤c.Widths.length):CR c l = some (JZ c l):=by unfold CR; rw [Zf h h0 h1]; rfl
theorem Zg {c:Az} (h:De c) {a b:Int} (hb:1≤b) (hab:b≤a) (ha:a≤c.Widths.length) :
 (JZ c a,JZ c b)∈[((1:Int),(1:Int)),(1,5),(5,5),(1,20),(5,20),(20,20),(1,2),(2,2),(1,4),(2,4),(4,4),(1,12),(2,12),(4,12),(12,12)]:=by
 unfold JZ
 rcases aY h.widths with e | e | e | e
 ·rw [e] at ha ⊢
  obtain ⟨rfl,rfl⟩:a = 1∧b = 1:=by simp at ha; omega
  decide
 ·rw [e] at ha ⊢
  have ha:a≤2:=by simpa using ha
  rcases (by omega:(a = 1∧b = 1)∨(a = 2∧b = 1)∨(a = 2∧b = 2)) with ⟨rfl,rfl⟩ | ⟨rfl,rfl⟩ | ⟨rfl,rfl⟩ <;> decide
 ·rw [e] at ha ⊢
  have ha:a≤3:=by simpa using ha
  rcases (by omega:(a = 1∧b = 1)∨(a = 2∧b = 1)∨(a = 2∧b = 2)∨(a = 3∧b = 1)∨(a = 3∧b = 2)∨(a = 3∧b = 3)) with ⟨rfl,rfl⟩ | ⟨rfl,rfl⟩ | ⟨rfl,rfl⟩ | ⟨rfl,rfl⟩ | ⟨rfl,rfl⟩ | ⟨rfl,rfl⟩ <;> decide
 ·rw [e] at ha ⊢
  have ha:a≤4:=by simpa using ha
  rcases (by omega:(a = 1∧b = 1)∨(a = 2∧b = 1)∨(a = 2∧b = 2)∨(a = 3∧b = 1)∨(a = 3∧b = 2)∨(a = 3∧b = 3)∨(a = 4∧b = 1)∨(a = 4∧b = 2)∨(a = 4∧b = 3)∨(a = 4∧b = 4)) with ⟨rfl,rfl⟩ | ⟨rfl,rfl⟩ | ⟨rfl,rfl⟩ | ⟨rfl,rfl⟩ | ⟨rfl,rfl⟩ | ⟨rfl,rfl⟩ | ⟨rfl,rfl⟩ | ⟨rfl,rfl⟩ | ⟨rfl,rfl⟩ | ⟨rfl,rfl⟩ <;> decide
theorem W9 {c:Az} (h:De c) {a b:Int} (hb:1≤b) (hab:b≤a) (ha:a≤c.Widths.length) {v u:Int} (h1:v - v % JZ c a≤u) (h2:u≤v - v % JZ c a + JZ c a - 1):u - u % JZ c b = v - v % JZ c b:=by
 have:=Zg h hb hab ha
 generalize JZ c a = x at *
 generalize JZ c b = y at *
 simp only [List.mem_cons,List.not_mem_nil,or_false,Prod.mk.injEq] at this
 rcases this with ⟨rfl,rfl⟩ | ⟨rfl,rfl⟩ | ⟨rfl,rfl⟩ | ⟨rfl,rfl⟩ | ⟨rfl,rfl⟩ | ⟨rfl,rfl⟩ | ⟨rfl,rfl⟩ | ⟨rfl,rfl⟩ | ⟨rfl,rfl⟩ | ⟨rfl,rfl⟩ | ⟨rfl,rfl⟩ | ⟨rfl,rfl⟩ | ⟨rfl,rfl⟩ | ⟨rfl,rfl⟩ | ⟨rfl,rfl⟩ <;> omega
theorem Ka {c:Az} (h:De c) {l:Int} (h0:1≤l) (h1:l≤c.Widths.length):1≤JZ c l∧JZ c l≤20:=by
 have:=Zg h h0 (Int.le_refl l) h1
 generalize JZ c l = x at *
 simp only [List.mem_cons,List.not_mem_nil,or_false,Prod.mk.injEq] at this
 omega
theorem Ut (n:Int) {w:Int} (hw:1≤w):(Int.tmod n w = n % w∧0≤Int.tmod n w)∨(Int.tmod n w = n % w - w∧Int.tmod n w < 0):=by
 have h1:=Int.emod_nonneg n (by omega:w≠0)
 have h2:=Int.emod_lt_of_pos n (by omega:0 < w)
 rw [Int.tmod_eq_emod]
 split
 ·left; omega
 ·right
  have:(w.natAbs:Int) = w:=by omega
  omega
theorem QB {n w:Int} (hw:1≤w) (hw2:w≤1000000) (h0:-100000000≤n) (h1:n≤100000000):Dt n w = some (n - n % w):=by
 have h3:=Int.emod_nonneg n (by omega:w≠0)
 have h4:=Int.emod_lt_of_pos n (by omega:0 < w)
 unfold Dt
 rw [BO]
 rcases Ut n hw with ⟨e,h⟩ | ⟨e,h⟩
 ·rw [Co,e,wr]
 ·rw [BO h,e,wr (n:=n % w - w + w) (by omega) (by omega),wr]
  congr 1; omega
theorem aJ {n w:Int} (hw:1≤w) (hw2:w≤1000000) (h0:-100000000≤n) (h1:n≤100000000):∃ q,Ei n w = some q∧q * w = n - n % w:=by
 have h3:=Int.emod_nonneg n (by omega:w≠0)
 have h4:=Int.emod_lt_of_pos n (by omega:0 < w)
 have h5:=Int.mul_tdiv_add_tmod n w
 have h6:-100000000≤Int.tdiv n w∧Int.tdiv n w≤100000000:=by
  have:=Int.natAbs_tdiv_le_natAbs n w
  omega
 unfold Ei
 rw [BO,BO]
 rcases Ut n hw with ⟨e,h⟩ | ⟨e,h⟩
 ·rw [Co,wr]
  exact ⟨_,rfl,by rw [Int.mul_comm]; omega⟩
 ·rw [BO h,wr (n:=Int.tdiv n w) (by omega) (by omega),wr]
  refine ⟨_,rfl,?_⟩
  rw [Int.sub_mul,Int.mul_comm]
  omega
def mv (c:Az) (l v:Int):Int:=if l = 0 then 0 else if v = Cb then Cb else v - v % JZ c l
def MV (c:Az) (v:Int):Prop:=(c.Low≤v∧v≤c.High)∨(c.Optional = true∧v = Cb)
theorem XC.meas {c:Az} (h:De c) {v:Int} (hv:XC s c v):MV c v:=by
 rcases hv with ⟨hk,_⟩ | ⟨hk,_⟩ | ⟨_,hv⟩
 ·rw [h.kind] at hk; cases hk
 ·rw [h.kind] at hk; cases hk
 ·exact hv
theorem Mi {c:Az} (h:De c) {l v:Int} (h0:1≤l) (h1:l≤c.Widths.length) (hv:c.Low≤v∧v≤c.High):mv c l v = v - v % JZ c l∧0≤v % JZ c l∧v % JZ c l < JZ c l∧mv c l v≠Cb∧-4≤v∧v≤46:=by
 have hw:=Ka h h0 h1
 obtain ⟨a1,a2⟩:=h.low
 obtain ⟨a3,a4⟩:=h.high
 have h3:=Int.emod_nonneg v (by omega:JZ c l≠0)
 have h4:=Int.emod_lt_of_pos v (by omega:0 < JZ c l)
 have e:mv c l v = v - v % JZ c l:=by
  unfold mv
  rw [if_neg (by omega),if_neg (by unfold Cb; omega)]
 exact ⟨e,h3,h4,by rw [e]; unfold Cb; omega,by omega,by omega⟩
theorem ZH (hs:DS s) {i:Nat} (h0:1≤i) (hi:i < s.Columns.length) (h:De s.Columns[i]) {l v:Int} (hl0:0≤l) (hl1:l≤El s i) (hv:MV s.Columns[i] v):BH s i l v = some (mv s.Columns[i] l v):=by
 obtain ⟨a1,a2⟩:=h.low
 obtain ⟨a3,a4⟩:=h.high
 have hf:El s i = s.Columns[i].Widths.length:=by rw [I1 hi,F3 h]
 refine Ok.val ?_
 unfold BH
 refine Ok.bindE (hs.rfinest h0 hi) ?_
 rw [KX,Option.bind_some,decide_eq_true ⟨hl0,hl1⟩]
 refine Ok.no rfl (Ok.idxn hi (Ok.no (by rw [h.kind]; rfl) ?_))
 rcases hv with hv | ⟨_,rfl⟩
 ·have e1:(v != -1099511627776) = true:=by rw [bne_iff_ne]; omega
  have e2:(v==-1099511627776) = false:=by rw [beq_eq_false_iff_ne]; omega
  refine Ok.yes e1 ?_
  rw [KX,Option.bind_some,dt]
  refine Ok.no rfl (Ok.br (fun hz=>?_) fun hz=>Ok.no e2 ?_)
  ·have hz:l = 0:=by simpa using hz
   subst hz
   exact Ok.some rfl
  ·have hz:l≠0:=by simpa using hz
   have hm:=Mi h (l:=l) (v:=v) (by omega) (by omega) hv
   have hw:=Ka h (l:=l) (by omega) (by omega)
   obtain ⟨q,hq,hq2⟩:=aJ (n:=v) hw.1 (by omega) (by omega) (by omega)
   refine Ok.bindE (dp h (by omega) (by omega)) (Ok.bindE hq (Ok.some ?_))
   rw [hq2,hm.1,wr]
 ·refine Ok.no rfl (Ok.br (fun hz=>?_) fun hz=>Ok.yes rfl ?_)
  ·have hz:l = 0:=by simpa using hz
   subst hz
   exact Ok.some rfl
  ·have hz:l≠0:=by simpa using hz
   exact Ok.some (by unfold mv; rw [if_neg hz,if_pos rfl])
def c8 (c:Az) (l v:Int):Int:=if l = 0 then c.Low else max c.Low (v - v % JZ c l)
def c7 (c:Az) (l v:Int):Int:=if l = 0 then c.High else min c.High (v - v % JZ c l + JZ c l - 1)
theorem cG {c:Az} (h:De c) {l v:Int} (h0:0≤l) (h1:l≤c.Widths.length) (hv:c.Low≤v∧v≤c.High):Hq c l (mv c l v) = some (c8 c l v,c7 c l v,true):=by
 obtain ⟨a1,a2⟩:=h.low
 obtain ⟨a3,a4⟩:=h.high
 unfold Hq c8 c7
 by_cases hz:l = 0
 ·subst hz; rfl
 ·have hm:=Mi h (l:=l) (v:=v) (by omega) h1 hv
  have hw:=Ka h (l:=l) (by omega) h1
  have hb:(mv c l v) % JZ c l = 0:=by
   rw [hm.1]
   have:=Int.emod_add_mul_ediv v (JZ c l)
   have e:v - v % JZ c l = JZ c l * (v / JZ c l):=by omega
   rw [e]; exact Int.mul_emod_right _ _
  have e0:(l==0) = false:=by simpa using hz
  rw [e0,hm.1,if_neg hz,if_neg hz]
  rw [hm.1] at hb
  simp only [cond_false]
  rw [df,df]
  simp only [cond_false]
  rw [Yn h (by omega) h1,Option.bind_some,QB hw.1 (by omega) (by omega) (by omega),hb,Option.bind_some,wr (n:=v - v % JZ c l + JZ c l) (by omega) (by omega),wr,Int.sub_zero,beq_self_eq_true]
  simp only [cond_true]
  have e1:(if c.Low > v - v % JZ c l then c.Low else v - v % JZ c l) = max c.Low (v - v % JZ c l):=by split <;> omega
  have e2:(if c.High < v - v % JZ c l + JZ c l - 1 then c.High else v - v % JZ c l + JZ c l - 1) = min c.High (v - v % JZ c l + JZ c l - 1):=by split <;> omega
  rw [e1,e2,dt]
theorem cO {c:Az} (h:De c) {a b v:Int} (hb:1≤b) (hab:b≤a) (ha:a≤c.Widths.length) (hv:c.Low≤v∧v≤c.High):(c8 c a v - c8 c a v % JZ c b = v - v % JZ c b)∧(c7 c a v - c7 c a v % JZ c b = v - v % JZ c b)∧c.Low≤c8 c a v∧c8 c a v≤v∧v≤c7 c a v∧c7 c a v≤c.High:=by
 have hm:=Mi h (l:=a) (v:=v) (by omega) ha hv
 have hw:=Ka h (l:=a) (by omega) ha
 unfold c8 c7
 rw [if_neg (by omega),if_neg (by omega)]
 exact ⟨W9 h hb hab ha (by omega) (by omega),W9 h hb hab ha (by omega) (by omega),by omega,by omega,by omega,by omega⟩
theorem Yj:Cb = -1099511627776:=rfl
theorem bU {i:Nat} (hi:i < s.Columns.length) (h:De s.Columns[i]) {l v:Int} (h0:0≤l) (h1:l≤s.Columns[i].Widths.length) (hv:MV s.Columns[i] v):∃ u,BE s i l (mv s.Columns[i] l v) = some (u,true):=by
 refine Exists.elim (?_:Ok (BE s i l (mv s.Columns[i] l v)) fun r=>r.2 = true) fun r hr=>⟨r.1,by rw [hr.1,← hr.2]⟩
 unfold BE
 refine Ok.idxn hi (Ok.yes (by rw [h.kind]; rfl) (Ok.br (fun hc=>Ok.some ?_) fun hc=>?_))
 ·by_cases hz:0 < l
  ·rw [dt] at hc
   have hc:mv s.Columns[i] l v = Cb:=by rw [Yj]; simpa using hc
   rcases hv with hv | hv
   ·exact absurd hc (Mi h (by omega) h1 hv).2.2.2.1
   ·exact hv.1
  ·rw [df] at hc; cases hc
 ·have hv2:(s.Columns[i].Low≤v∧v≤s.Columns[i].High)∨(l = 0):=by
   rcases hv with hv | ⟨_,rfl⟩
   ·exact .inl hv
   ·right
    by_cases hz:0 < l
    ·rw [dt] at hc
     have e:mv s.Columns[i] l Cb = Cb:=by unfold mv; rw [if_neg (by omega),if_pos rfl]
     rw [e] at hc
     cases hc
    ·omega
  rcases hv2 with hv | rfl
  ·exact Ok.bindE (cG h h0 h1 hv) (Ok.some rfl)
  ·exact Ok.bindE (x:=(s.Columns[i].Low,s.Columns[i].High,true)) rfl (Ok.some rfl)
theorem ZF (hs:DS s) {i:Nat} (hi0:1≤i) (hi:i < s.Columns.length) (h:De s.Columns[i]) {a b v:Int} (hb:1≤b) (hab:b≤a) (ha:a≤s.Columns[i].Widths.length) (hv:MV s.Columns[i] v):F6 s i a (mv s.Columns[i] a v) b = some (mv s.Columns[i] b v,true):=by
 have hf:El s i = s.Columns[i].Widths.length:=by rw [I1 hi,F3 h]
 refine Ok.val ?_
 unfold F6
 refine Ok.bindE (hs.pfinest hi0 hi) (Ok.no ?_ (Ok.idxn hi (Ok.no (by rw [h.kind]; rfl) (Ok.bindE (x:=(mv s.Columns[i] b v,true)) ?_ (Ok.no rfl (Ok.some rfl))))))
 ·rw [df,df,df,df]; rfl
 refine Ok.val ?_
 unfold Fi
 have eb:(b==0) = false:=by rw [beq_eq_false_iff_ne]; omega
 have ea:(a==0) = false:=by rw [beq_eq_false_iff_ne]; omega
 rw [dt,eb,ea]
 rcases hv with hv | ⟨ho,rfl⟩
 ·have hm:=Mi h (l:=a) (by omega) ha hv
  have hmb:=Mi h (l:=b) (by omega) (by omega) hv
  have hw:=Ka h (l:=b) (by omega) (by omega)
  have hbl:=cO h hb hab ha hv
  obtain ⟨a1,a2⟩:=h.low
  obtain ⟨a3,a4⟩:=h.high
  have d1:=QB (n:=c8 s.Columns[i] a v) hw.1 (by omega) (by omega) (by omega)
  have d2:=QB (n:=c7 s.Columns[i] a v) hw.1 (by omega) (by omega) (by omega)
  have e3:(mv s.Columns[i] a v==-1099511627776) = false:=by rw [beq_eq_false_iff_ne]; exact hm.2.2.2.1
  rw [hbl.1] at d1
  rw [hbl.2.1] at d2
  refine Ok.no (by rw [e3]; rfl) (Ok.bindE (cG h (by omega) ha hv) (Ok.no rfl (Ok.no rfl (Ok.no rfl (Ok.bindE (Yn h hb (by omega)) (Ok.bindE d1 (Ok.bindE d1 (Ok.bindE d2 (Ok.some ?_)))))))))
  rw [hmb.1,beq_self_eq_true]
 ·have e:∀ l,1≤l→mv s.Columns[i] l Cb = Cb:=fun l hl=>by unfold mv; rw [if_neg (by omega),if_pos rfl]
  rw [e a (by omega),e b hb,ho]
  exact Ok.yes rfl (Ok.no rfl (Ok.some rfl))
end Go.Proofs.YtjgeigjjfcnojaaGreatDoor.P
namespace Go.Proofs.YtjgeigjjfcnojaaGreatDoor.P
open Go Go.Abs Go.Proofs
set_option maxRecDepth 100000
variable {s:Af}
def Xz (L:Aw) (l v:Int):Option (Int × Bool):=iter (fun rec1 s=>KE (DJ L) L l v (fun v56_1=>some (0,false)) rec1 s) AM 0
def cv (L:Aw) (l v:Int):Int:=(HO L v l).getD 0
theorem WB:(Zh.all fun L=>(List.range (Js L).toNat).all fun l=>(Xz L (l:Int) 0).isSome && (DJ L).all fun v=>HO L v l==some (cv L l v) && FN L v l==some (cv L l v) && decide (0≤cv L l v) && ((Xz L l (cv L l v)).map (·.2)==some true)) = true:=by decide +kernel
theorem PQ {L:Aw} (h:L∈Zh) {l:Int} (h0:0≤l) (h1:l < Js L):(∃ r,Xz L l 0 = some r)∧∀ v∈DJ L,HO L v l = some (cv L l v)∧FN L v l = some (cv L l v)∧0≤cv L l v∧∃ u,Xz L l (cv L l v) = some (u,true):=by
 have:=List.all_eq_true.1 (List.all_eq_true.1 WB L h) l.toNat (List.mem_range.2 (by omega))
 rw [Int.toNat_of_nonneg h0] at this
 simp only [Bool.and_eq_true,List.all_eq_true,beq_iff_eq,decide_eq_true_eq,Option.isSome_iff_exists] at this
 refine ⟨this.1,fun v hv=>?_⟩
 obtain ⟨⟨⟨a,b⟩,c⟩,d⟩:=this.2 v hv
 obtain ⟨r,hr,hr2⟩:=Option.map_eq_some_iff.1 d
 exact ⟨a,b,c,r.1,by rw [hr,← hr2]⟩
def CV (s:Af) (c:Az) (l v:Int):Int:=if c.Kind = 2 then cv ((idx s.Lists c.List_).getD { Name:=TV,Codes:=[] }) l v else mv c l v
theorem Y2 {c:Az} (h:Tm c) {L:Aw} (hL:idx s.Lists c.List_ = some L) (l v:Int):CV s c l v = cv L l v:=by unfold CV; rw [if_pos h.kind,hL]; rfl
theorem V5 {c:Az} (h:De c) (l v:Int):CV s c l v = mv c l v:=by unfold CV; rw [if_neg (by rw [h.kind]; decide)]
theorem XC.code {c:Az} (h:Tm c) {L:Aw} (hL:idx s.Lists c.List_ = some L) {v:Int} (hv:XC s c v):v∈DJ L:=by
 rcases hv with ⟨hk,_⟩ | ⟨_,L',_,hL',hv⟩ | ⟨hk,_⟩
 ·rw [h.kind] at hk; cases hk
 ·rw [hL] at hL'; cases hL'; exact hv
 ·rw [h.kind] at hk; cases hk
theorem bX (hs:DS s) {i:Nat} (h0:1≤i) (hi:i < s.Columns.length) {l v:Int} (hl0:0≤l) (hl1:l≤El s i) (hv:XC s s.Columns[i] v):BH s i l v = some (CV s s.Columns[i] l v):=by
 rcases hs.col h0 hi with h1 | h1
 ·obtain ⟨L,hL,hL2⟩:=hs.clist h1
  have hf:El s i = Js L - 1:=by rw [I1 hi,JS h1 hL2]
  have hc:=PQ hL (l:=l) hl0 (by omega)
  rw [Y2 h1 hL2]
  refine Ok.val ?_
  unfold BH
  refine Ok.bindE (hs.rfinest h0 hi) ?_
  rw [KX,Option.bind_some,decide_eq_true ⟨hl0,hl1⟩]
  exact Ok.no rfl (Ok.idxn hi (Ok.yes (by rw [h1.kind]; rfl) (Ok.bindE (TM hs hi hv) (Ok.no rfl (Ok.bindE hL2 (Ok.bindE (hc.2 v (hv.code h1 hL2)).1 (Ok.some rfl)))))))
 ·rw [V5 h1]
  exact ZH hs h0 hi h1 hl0 hl1 (hv.meas h1)
theorem Vy {i:Nat} (hi:i < s.Columns.length) (h:Tm s.Columns[i]) {L:Aw} (hL:L∈Zh) (hL2:idx s.Lists s.Columns[i].List_ = some L) (l v:Int):BE s i l v = Xz L l v:=by
 have hc:=Nn hL
 have h2:=hc.lev2; have h3:=hc.lev3
 unfold BE
 rw [HB hi,Option.bind_some,h.kind]
 show (idx s.Lists _).bind _ = _
 rw [hL2,Option.bind_some,hc.lev,Option.bind_some,wr,hc.leaves]
 rfl
theorem dX (hs:DS s) {i:Nat} (h0:1≤i) (hi:i < s.Columns.length) {l v:Int} (hl0:0≤l) (hl1:l≤El s i) (hv:XC s s.Columns[i] v):∃ u,BE s i l (CV s s.Columns[i] l v) = some (u,true):=by
 rcases hs.col h0 hi with h1 | h1
 ·obtain ⟨L,hL,hL2⟩:=hs.clist h1
  have hf:El s i = Js L - 1:=by rw [I1 hi,JS h1 hL2]
  rw [Y2 h1 hL2,Vy hi h1 hL hL2]
  exact ((PQ hL (l:=l) hl0 (by omega)).2 v (hv.code h1 hL2)).2.2.2
 ·have hf:El s i = s.Columns[i].Widths.length:=by rw [I1 hi,F3 h1]
  rw [V5 h1]
  exact bU hi h1 hl0 (by omega) (hv.meas h1)
theorem dl (hs:DS s) {i:Nat} (h0:1≤i) (hi:i < s.Columns.length):∃ r,BE s i 0 0 = some r:=by
 rcases hs.col h0 hi with h1 | h1
 ·obtain ⟨L,hL,hL2⟩:=hs.clist h1
  have:=Nn hL
  rw [Vy hi h1 hL hL2]
  exact (PQ hL (l:=0) (by omega) (by have:=this.lev2; omega)).1
 ·refine Exists.elim (?_:Ok (BE s i 0 0) fun _=>True) fun r hr=>⟨r,hr.1⟩
  unfold BE
  exact Ok.idxn hi (Ok.yes (by rw [h1.kind]; rfl) (Ok.no rfl (Ok.bindE (x:=(s.Columns[i].Low,s.Columns[i].High,true)) rfl (Ok.some trivial))))
def ew (s:Af) (p:An):Prop:=∃ i:Nat,1≤i∧i < s.Columns.length∧p.Column = i∧0≤p.Level∧p.Level≤El s i
def XV (s:Af) (p:An) (v:Int):Prop:=∃ (i:Nat) (hi:i < s.Columns.length) (w:Int),1≤i∧p.Column = i∧XC s s.Columns[i] w∧v = CV s s.Columns[i] p.Level w
structure GX (s:Af) (x:A1):Prop where
 project:D4 x.Project = some true∧D1 x.Project = some true
 version:0≤x.Version∧x.Version≤300
 picks:∀ p∈x.Picks,ew s p
 order:x.Picks.Pairwise fun a b=>a.Column < b.Column
 rows:∀ r∈x.Rows,r.length = x.Picks.length + 1∧0≤hd r∧hd r≤1048575∧∀ (k:Nat) p v,x.Picks[k]? = some p→r[k + 1]? = some v→XV s p v
 asc:bF x.Rows
 len:x.Rows.length≤200
theorem GX.picks_len {x:A1} (hs:DS s) (h:GX s x):x.Picks.length≤6:=by
 have hc:=hs.cols_length
 have key:∀ (k:Nat) (hk:k < x.Picks.length),(k:Int) + 1≤x.Picks[k].Column:=by
  intro k
  induction k with
  | zero=>intro hk; obtain ⟨i,h1,_,h2,_⟩:=h.picks _ (List.getElem_mem hk); rw [h2]; omega
  | succ k ih =>
    intro hk
    have:=ih (by omega)
    have h2:=(List.pairwise_iff_getElem.1 h.order) k (k + 1) (by omega) hk (by omega)
    omega
 rcases Nat.lt_or_ge x.Picks.length 7 with h7 | h7
 ·omega
 ·have:=key 6 (by omega)
  obtain ⟨i,h1,h2,h3,_⟩:=h.picks _ (List.getElem_mem (by omega:6 < x.Picks.length))
  omega
theorem dW {p:An} (hs:DS s) (h:ew s p):Hp s p = some 0:=by
 obtain ⟨i,h0,hi,hp,hl0,hl1⟩:=h
 have hf:=hs.fin_ok h0 hi
 refine Ok.val ?_
 unfold Hp
 rw [hp]
 refine Ok.bindE (hs.pfinest h0 hi) (Ok.brd (fun h=>by omega) fun _=>Ok.no ?_ (Ok.some rfl))
 rw [df,df]; rfl
theorem bg {l:List An} (hs:DS s) (h:∀ p∈l,ew s p) (ho:l.Pairwise fun a b=>a.Column < b.Column) (hl:l.length≤1000):Gq s l = some 0:=by
 refine Ok.val ?_
 unfold Gq
 refine Ok.bindE hs.check (Ok.no rfl ?_)
 refine Ok.for (fun q=>q) l.length (fun _ _=>True) 0 (Nat.zero_le _) rfl trivial (by omega) (fun rec q hq _=>?_) fun rec i q hi hq _ ih=>?_
 ·simp only [GK,hq]
  rw [Co]
  exact Ok.some rfl
 ·simp only [GK,hq]
  rw [BO]
  refine Ok.idxn hi (Ok.bindE (dW hs (h _ (List.getElem_mem hi))) (Ok.no rfl (Ok.brd (fun h1=>?_) fun _=>ih _ LJ trivial)))
  have e:IntKind.i64.wrap ((i:Int) - 1) = ((i - 1:Nat):Int):=by rw [wr]; omega
  rw [e]
  have:=(List.pairwise_iff_getElem.1 ho) (i - 1) i (by omega) hi (by omega)
  exact Ok.idxn (by omega:i - 1 < l.length) (Ok.brd (fun h2=>by omega) fun _=>ih _ LJ trivial)
theorem GX.atP {x:A1} (hs:DS s) (h:GX s x) {r:List Int} (hr:r∈x.Rows) {k:Nat} (hk:k < x.Picks.length) (hk2:k + 1 < r.length) :
 ∃ u,BE s x.Picks[k].Column x.Picks[k].Level r[k + 1] = some (u,true):=by
 obtain ⟨i,hi,w,h0,hp,hw,e⟩:=(h.rows r hr).2.2.2 k _ _ (List.getElem?_eq_getElem hk) (List.getElem?_eq_getElem hk2)
 obtain ⟨i',h0',hi',hp',hl0,hl1⟩:=h.picks _ (List.getElem_mem hk)
 have:i' = i:=by rw [hp] at hp'; omega
 subst this
 rw [e,hp]
 exact dX hs h0 hi hl0 hl1 hw
theorem GX.ne {x:A1} (h:GX s x) {r:List Int} (hr:r∈x.Rows):r≠[]:=by
 intro e
 have:=(h.rows r hr).1
 rw [e] at this
 simp at this
theorem dU {x:A1} (hs:DS s) (h:GX s x) {r:List Int} (hr:r∈x.Rows):H9 s x.Picks r = some true:=by
 have hl:=h.picks_len hs
 obtain ⟨h1,h2,h3,_⟩:=h.rows r hr
 refine Ok.val ?_
 unfold H9
 refine Ok.no ?_ (Ok.bindE (Gu (h.ne hr)) (Ok.brd (fun h=>by omega) fun _=>Ok.bindE (Gu (h.ne hr)) (Ok.brd (fun h=>by omega) fun _=>?_)))
 ·rw [wr,h1]; simp
 unfold G9
 refine Ok.for (fun q=>q) x.Picks.length (fun _ _=>True) 0 (Nat.zero_le _) rfl trivial (by omega) (fun rec q hq _=>?_) fun rec i q hi hq _ ih=>?_
 ·simp only [G8,hq]
  rw [Co]
  exact Ok.some rfl
 ·simp only [G8,hq]
  rw [BO]
  have hi2:i + 1 < r.length:=by omega
  obtain ⟨u,hu⟩:=h.atP hs hr hi hi2
  refine Ok.idxn hi ?_
  rw [LJ]
  exact Ok.idxn hi2 (Ok.bindE hu (Ok.no rfl (ih _ rfl trivial)))
theorem GX.check {x:A1} (hs:DS s) (h:GX s x):Eo s x = some 0:=by
 have hl:=h.len
 have hpl:=h.picks_len hs
 have hv:=h.version
 refine Ok.val ?_
 unfold Eo
 refine Ok.bindE hs.check (Ok.no rfl (Ok.bindE h.project.2 (Ok.no rfl (Ok.no ?_ (Ok.bindE (bg hs h.picks h.order (by omega)) (Ok.no rfl (Ok.brd (fun h=>by omega) fun _=>?_)))))))
 ·rw [df,df]; rfl
 refine Ok.for (fun q=>q) x.Rows.length (fun _ _=>True) 0 (Nat.zero_le _) rfl trivial (by omega) (fun rec q hq _=>?_) fun rec i q hi hq _ ih=>?_
 ·simp only [Gi,hq]
  rw [Co]
  exact Ok.some rfl
 ·simp only [Gi,hq]
  rw [BO]
  refine Ok.idxn hi (Ok.bindE (dU hs h (List.getElem_mem hi)) (Ok.no rfl (Ok.brd (fun h1=>?_) fun _=>ih _ LJ trivial)))
  have e:IntKind.i64.wrap ((i:Int) - 1) = ((i - 1:Nat):Int):=by rw [wr]; omega
  rw [e]
  have hi3:i - 1 < x.Rows.length:=by omega
  have hlt:=(List.pairwise_iff_getElem.1 h.asc) (i - 1) i hi3 hi (by omega)
  exact Ok.bindE (Gu (h.ne (List.getElem_mem hi))) (Ok.idxn hi3 (Ok.bindE (Gu (h.ne (List.getElem_mem hi3))) (Ok.brd (fun h2=>by omega) fun _=>ih _ LJ trivial)))
theorem ZZ (hs:DS s) {i:Nat} (h0:1≤i) (hi:i < s.Columns.length) {v:Int} (hv:XC s s.Columns[i] v):CV s s.Columns[i] (El s i) v = v:=by
 have hf:=hs.fin_ok h0 hi
 have h1:=Tz hs h0 hi hv
 have h2:=bX hs h0 hi (l:=El s i) (by omega) (Int.le_refl _) hv
 rw [h1] at h2
 exact (Option.some.inj h2).symm
theorem Sa.gx {x:A1} {n:Nat} (hs:DS s) (h:Sa s x n) (hn:n≤200):GX s x:=by
 have hc:=hs.cols_length
 have hpl:=Fq (s:=s)
 have hlen:=h.len
 refine ⟨?_,by rw [h.version]; omega,?_,?_,?_,h.asc,by omega⟩
 ·rw [h.project]
  exact ⟨by decide +kernel,by decide +kernel⟩
 ·intro p hp
  rw [h.picks] at hp
  obtain ⟨k,hk,rfl⟩:=List.mem_iff_getElem.1 hp
  rw [Ck hk]
  have hf:=hs.fin_ok (i:=k + 1) (by omega) (by omega)
  exact ⟨k + 1,by omega,by omega,rfl,by show 0≤El s (k + 1); omega,Int.le_refl _⟩
 ·rw [h.picks,List.pairwise_iff_getElem]
  intro a b ha hb hab
  rw [Ck ha,Ck hb]
  show ((a + 1:Nat):Int) < ((b + 1:Nat):Int)
  omega
 ·intro r hr
  obtain ⟨h1,h2,h3,h4⟩:=h.rows r hr
  rw [h.picks]
  refine ⟨by omega,h2,h3,fun k p v hp hv=>?_⟩
  obtain ⟨hk,rfl⟩:=List.getElem?_eq_some_iff.1 hp
  rw [Ck hk]
  have hi:k + 1 < s.Columns.length:=by omega
  have hv2:=h4 (k + 1) _ v (by omega) (List.getElem?_eq_getElem hi) hv
  exact ⟨k + 1,hi,v,by omega,rfl,hv2,(ZZ hs (by omega) hi hv2).symm⟩
end Go.Proofs.YtjgeigjjfcnojaaGreatDoor.P
namespace Go.Proofs.YtjgeigjjfcnojaaGreatDoor.P
open Go Go.Abs Go.Proofs
set_option maxRecDepth 100000
variable {s:Af}
theorem DS.pcond_all (h:DS s) (d:Nat):BJ (d + 1) s SN = some 0:=by unfold BJ; rw [h.check]; rfl
theorem DS.pcond_zero (h:DS s) (d:Nat):BJ (d + 1) s Uz = some 4:=by unfold BJ; rw [h.check]; rfl
theorem DS.pneeds_zero (h:DS s) (d:Nat):Cl (d + 1) s Uz = some []:=by unfold Cl; rw [h.pcond_zero]; rfl
theorem DS.pneeds_all (h:DS s) (d:Nat):Cl (d + 1) s SN = some []:=by
 have hc:=h.cols_length
 refine Ok.val ?_
 unfold Cl
 refine Ok.bindE (h.pcond_all d) (Ok.no rfl (Ok.gd ?_ (Ok.bindE (x:=[]) rfl ?_)))
 ·rw [dt,YZ (by omega)]; rfl
 refine Ok.for (fun q=>q.1) 0 (fun _ q=>q.2 = List.replicate s.Columns.length 0) 0 (Nat.zero_le _) rfl (by simp) (by omega) (fun rec q hq hI=>?_) fun rec i q hi hq hI ih=>absurd hi (by omega)
 simp only [GQ,hq,hI]
 refine Ok.no rfl ?_
 refine Ok.for (fun q=>q.1) s.Columns.length (fun _ q=>q.2 = []) 0 (Nat.zero_le _) rfl rfl (by omega) (fun rec q hq hI=>?_) fun rec i q hi hq hI ih=>?_
 ·simp only [EO,hq,hI]
  rw [List.length_replicate,Co]
  exact Ok.some rfl
 ·simp only [EO,hq,hI]
  rw [List.length_replicate,BO]
  refine Ok.idxn (by rw [List.length_replicate]; exact hi) ?_
  rw [List.getElem_replicate]
  exact Ok.no rfl (ih _ LJ rfl)
theorem Vu {i:Nat} (hi:i < s.Columns.length) (h:De s.Columns[i]):B5 s i = some true:=by
 unfold B5
 rw [dt,dt]
 show (idx s.Columns (i:Int)).bind _ = _
 rw [HB hi,Option.bind_some,h.kind]
 rfl
theorem Va {i:Nat} (hi:i < s.Columns.length) (h:De s.Columns[i]) {l:Int} (h0:0≤l) (h1:l≤s.Columns[i].Widths.length):Ok (F7 s i l) fun _=>True:=by
 unfold F7
 refine Ok.idxn hi (Ok.no (by rw [h.kind]; rfl) (Ok.br (fun _=>Ok.some trivial) fun hz=>?_))
 have hz:l≠0:=by simpa using hz
 have hw:=Ka h (l:=l) (by omega) h1
 obtain ⟨a1,a2⟩:=h.low
 obtain ⟨a3,a4⟩:=h.high
 exact Ok.bindE (Yn h (by omega) h1) (Ok.bindE (QB hw.1 (by omega) (by omega) (by omega)) (Ok.bindE (QB hw.1 (by omega) (by omega) (by omega)) (Ok.gdd (by omega) (Ok.br (fun _=>Ok.some trivial) fun _=>Ok.some trivial))))
theorem aT (hs:DS s) {i:Nat} (hi0:1≤i) (hi:i < s.Columns.length) (h:De s.Columns[i]) {l:Int} (h0:0≤l) (h1:l≤s.Columns[i].Widths.length):Ok (Fg s i l) fun r=>0≤r∧r≤l:=by
 have hwl:=IX h
 have hf:El s i = s.Columns[i].Widths.length:=by rw [I1 hi,F3 h]
 unfold Fg
 refine Ok.bindE (hs.pFinest hi0 hi) (Ok.no ?_ ?_)
 ·rw [df,df]; rfl
 refine Ok.loop (fun q=>0≤q∧q≤l) (fun q=>q.toNat) ⟨h0,Int.le_refl _⟩ (by unfold AM; omega) fun rec q hq ih=>?_
 simp only [Jz]
 refine Ok.brd (fun hp=>?_) fun _=>Ok.some hq
 have e:IntKind.i64.wrap (q - 1) = q - 1:=wr
 rw [e]
 exact Ok.bind (Va hi h (by omega) (by omega)) fun x _=>Ok.bind (Va hi h (by omega) (by omega)) fun y _=>Ok.br (fun _=>ih _ (by omega) (by omega)) fun _=>Ok.some hq
theorem Y9 {l:List An} {p:An→Option Bool} (q:An→Bool) (hp:∀ x∈l,p x = some (q x)) (hl:l.length≤1000000000):AK l p = some (l.any q):=by
 unfold AK
 rw [show AU l p = some (FH q l) from JV hp hl,Option.bind_some,LV]
def VG (picks needs:List An):Bool:=needs.all fun n=>picks.any fun p=>bif p.Column==n.Column then decide (p.Level ≥ n.Level) else false
theorem YT (picks needs:List An) (h1:picks.length≤1000000) (h2:needs.length≤1000000):Dx picks needs = some (VG picks needs):=by
 unfold Dx
 rw [Y9 (fun n=>!(picks.any fun p=>bif p.Column==n.Column then decide (p.Level ≥ n.Level) else false)) (fun n _=>?_) (by omega)]
 ·rw [Option.bind_some,VG,List.any_eq_not_all_not]
  simp
 ·unfold Ez
  have:=Y9 (l:=picks) (p:=fun a0=>Dl a0 n) (fun p=>bif p.Column==n.Column then decide (p.Level ≥ n.Level) else false) (fun _ _=>rfl) (by omega)
  rw [this]
  rfl
end Go.Proofs.YtjgeigjjfcnojaaGreatDoor.P
namespace Go.Proofs.YtjgeigjjfcnojaaGreatDoor.P
open Go Go.Abs Go.Proofs
set_option maxRecDepth 100000
variable {s:Af}
theorem e5 (l:List Int):Sm l 1 ((l.length:Nat):Int) = l.drop 1:=by
 unfold Sm
 rw [List.take_of_length_le]
 ·rfl
 ·rw [List.length_drop]; simp
theorem GX.valsP {x:A1} (hs:DS s) (hx:GX s x) {r:List Int} (hr:r∈x.Rows) (k:Nat) (hk:k < x.Picks.length) (hk2:k < (r.drop 1).length) :
 ∃ u,BE s x.Picks[k].Column x.Picks[k].Level (r.drop 1)[k] = some (u,true):=by
 have e:(r.drop 1)[k] = r[k + 1]'(by rw [List.length_drop] at hk2; omega):=by rw [List.getElem_drop]; congr 1; omega
 rw [e]
 exact hx.atP hs hr hk _
def Wx (n:Nat):List Int:=(List.range n).map fun k:Nat=>(k:Int)
theorem ZS (n:Nat):Wx (n + 1) = Wx n++[(n:Int)]:=by simp [Wx,List.range_succ]
theorem SI (n:Nat):(Wx n).length = n:=by simp [Wx]
theorem bO {x:A1} (hs:DS s) (hx:GX s x) {i:Nat} (hi0:1≤i) (hi:i < s.Columns.length) (h:De s.Columns[i]) {k:Nat} (hk:k < x.Picks.length) (hkc:x.Picks[k].Column = (i:Int)) {b:Int} (hb:1≤b) (hab:b≤x.Picks[k].Level)
 (ha:x.Picks[k].Level≤s.Columns[i].Widths.length) {j:Nat} (hj:j < x.Rows.length) {w:Int} (hw:MV s.Columns[i] w) (hv:x.Rows[j][k + 1]? = some (mv s.Columns[i] x.Picks[k].Level w)):Ep s x j i b = some (mv s.Columns[i] b w,true):=by
 have hpl:=hx.picks_len hs
 have hf:AU x.Picks (fun a0=>E9 a0 (i:Int)) = some (k:Int):=by
  have h1:AU x.Picks (fun a0=>E9 a0 (i:Int)) = some (FH (fun p=>p.Column==(i:Int)) x.Picks):=JV (fun _ _=>rfl) (by omega)
  rw [h1]
  have:x.Picks.findIdx? (fun p=>p.Column==(i:Int)) = some k:=by
   rw [List.findIdx?_eq_some_iff_getElem]
   refine ⟨hk,by rw [hkc]; exact beq_self_eq_true _,fun j hj=>?_⟩
   have:=(List.pairwise_iff_getElem.1 hx.order) j k (by omega) hk hj
   rw [hkc] at this
   simp; omega
  unfold FH
  rw [this]
 obtain ⟨hk1,hk2⟩:=List.getElem?_eq_some_iff.1 hv
 refine Ok.val ?_
 unfold Ep
 refine Ok.bindE hf (Ok.brd (fun h=>by omega) fun _=>Ok.idxn hk (Ok.idxn hj ?_))
 rw [LJ]
 refine Ok.idxn hk1 ?_
 rw [hk2]
 exact Ok.bindE (ZF hs hi0 hi h hb hab ha hw) (Ok.some rfl)
theorem cP {l:List Int} {p:Int→Option Bool} (q:Int→Bool) (hp:∀ x∈l,p x = some (q x)) (hl:l.length≤1000000000):BK l p = some (l.any q):=by
 unfold BK
 rw [show BX l p = some (FH q l) from JV hp hl,Option.bind_some,LV]
theorem dV {x:A1} {l:List Nat} (hl:l.length≤1000) (h:∀ j∈l,j < x.Rows.length) (hne:∀ r∈x.Rows,r≠[]):Dv x (l.map fun j:Nat=>(j:Int)) = some (l.map fun j=>hd (x.Rows.getD j [])):=by
 refine Ok.val ?_
 unfold Dv
 refine Ok.for (fun q=>q.1) l.length (fun k q=>q.2 = (l.take k).map fun j=>hd (x.Rows.getD j [])) 0 (Nat.zero_le _) rfl rfl (by omega) (fun rec q hq hI=>?_) fun rec k q hk hq hI ih=>?_
 ·simp only [Gs,hq,hI,List.length_map]
  rw [Co,List.take_length]
  exact Ok.some rfl
 ·simp only [Gs,hq,hI,List.length_map]
  rw [BO]
  have hj:=h _ (List.getElem_mem hk)
  refine Ok.idxn (by rw [List.length_map]; exact hk) ?_
  rw [List.getElem_map]
  refine Ok.idxn hj (Ok.bindE (Gu (hne _ (List.getElem_mem hj))) (Ok.rm (by simp; omega) (ih _ LJ ?_)))
  show _++[_] = _
  rw [List.take_succ_eq_append_getElem hk,List.map_append,List.map_cons,List.map_nil,List.getD_eq_getElem?_getD,List.getElem?_eq_getElem hj]
  rfl
end Go.Proofs.YtjgeigjjfcnojaaGreatDoor.P
namespace Go.Proofs.YtjgeigjjfcnojaaGreatDoor.P
open Go Go.Abs Go.Proofs
set_option maxRecDepth 100000
variable {s:Af}
def keep (w:Nat→Int) (n:Nat):List Nat:=(List.range n).filter fun j=>w j != Cb
theorem Z7 (w:Nat→Int) (n:Nat):keep w (n + 1) = if w n = Cb then keep w n else keep w n++[n]:=by
 unfold keep
 rw [List.range_succ,List.filter_append]
 by_cases e:w n = Cb
 ·rw [if_pos e,List.filter_cons_of_neg (by simp [e])]; simp
 ·rw [if_neg e,List.filter_cons_of_pos (by simp [e])]; rfl
theorem EJ (w:Nat→Int) (n:Nat):(keep w n).length≤n:=by
 have:=List.length_filter_le (fun j=>w j != Cb) (List.range n)
 rw [List.length_range] at this
 exact this
theorem Mg {w:Nat→Int} {n j:Nat} (h:j∈keep w n):j < n∧w j≠Cb:=by
 unfold keep at h
 rw [List.mem_filter,List.mem_range] at h
 exact ⟨h.1,by simpa using h.2⟩
def ints (l:List Nat):List Int:=l.map fun j:Nat=>(j:Int)
theorem R4 {l:List Int} (hl:l.length≤1000000):FX l l = some true:=by
 refine Ok.val ?_
 unfold FX
 refine Ok.no (by simp) ?_
 refine Ok.for (fun q=>q) l.length (fun _ _=>True) 0 (Nat.zero_le _) rfl trivial (by omega) (fun rec q hq hI=>?_) fun rec k q hk hq hI ih=>?_
 ·simp only [IR,hq]
  rw [Co]
  exact Ok.some rfl
 ·simp only [IR,hq]
  rw [BO]
  exact Ok.idxn hk (Ok.idxn hk (Ok.no (by simp) (ih _ LJ trivial)))
end Go.Proofs.YtjgeigjjfcnojaaGreatDoor.P
namespace Go.Proofs.YtjgeigjjfcnojaaGreatDoor.P
open Go Go.Abs Go.Proofs
set_option maxRecDepth 100000
variable {s:Af}
theorem DS.last (h:DS s):∃ i:Nat,1≤i∧∃ hi:i < s.Columns.length,De s.Columns[i]:=by
 obtain ⟨j,ms,e,h1,h2,h3⟩:=h.cols
 have hc:=MF j
 have hlen:s.Columns.length = (Ja j).length + ms.length:=by rw [e,List.length_append]
 refine ⟨(Ja j).length,by omega,by omega,?_⟩
 have hm:=(h3 0 (by omega)).1
 have e2:s.Columns[(Ja j).length]? = some (ms[0]'(by omega)):=by
  rw [e,List.getElem?_append_right (Nat.le_refl _),Nat.sub_self]
  exact List.getElem?_eq_getElem (by omega)
 rw [List.getElem?_eq_getElem (by omega)] at e2
 rw [Option.some.inj e2]
 exact hm
theorem XG (hs:DS s):Ok (H8 s 3) fun l=>l≠[]∧l.length≤6∧∀ v∈l,∃ i:Nat,v = i∧1≤i∧∃ hi:i < s.Columns.length,De s.Columns[i]:=by
 have hc:=hs.cols_length
 unfold H8
 refine Ok.for (fun q=>q.1) s.Columns.length (fun k q=>q.2.length≤k∧(∀ v∈q.2,∃ i:Nat,v = i∧1≤i∧∃ hi:i < s.Columns.length,De s.Columns[i])∧∀ (i:Nat) (hi:i < s.Columns.length),i < k→De s.Columns[i]→(i:Int)∈q.2) 0 (Nat.zero_le _) rfl
  ⟨Nat.le_refl _,(fun v hv=>by cases hv),fun i _ h=>by omega⟩ (by omega) (fun rec q hq hI=>?_) fun rec k q hk hq hI ih=>?_
 ·simp only [G7,hq]
  rw [Co]
  obtain ⟨i,_,hi,hm⟩:=hs.last
  exact Ok.some ⟨(fun e=>by have:=hI.2.2 i hi hi hm; rw [e] at this; cases this),by have:=hI.1; omega,hI.2.1⟩
 ·simp only [G7,hq]
  rw [BO]
  have hI1:=hI.1
  refine Ok.idxn hk (Ok.br (fun e=>Ok.rm (by simp; omega) (ih _ LJ ⟨by simp; omega,fun v hv=>?_,fun j hj hjk hm=>?_⟩)) fun e=>ih _ LJ ⟨by show q.2.length≤k + 1; omega,hI.2.1,fun j hj hjk hm=>?_⟩)
  ·rcases List.mem_append.1 hv with hv | hv
   ·exact hI.2.1 v hv
   ·rw [List.mem_singleton] at hv
    have e:s.Columns[k].Kind = 3:=by simpa using e
    rcases hs.cl hk with ⟨_,h1⟩ | ⟨h0,h1 | h1⟩
    ·rw [h1] at e; cases e
    ·rw [h1.kind] at e; cases e
    ·exact ⟨k,hv,h0,hk,h1⟩
  ·show _∈q.2++[_]
   rcases Nat.lt_or_ge j k with h1 | h1
   ·exact List.mem_append_left _ (hI.2.2 j hj h1 hm)
   ·obtain rfl:j = k:=by omega
    exact List.mem_append_right _ (List.mem_singleton.2 rfl)
  ·rcases Nat.lt_or_ge j k with h1 | h1
   ·exact hI.2.2 j hj h1 hm
   ·obtain rfl:j = k:=by omega
    rw [hm.kind] at e
    cases e
theorem Xk {c:Am} (hc:N5 c) (hs:DS s):Ok (Dh c s) fun r=>N5 r.2∧∃ i:Nat,r.1 = i∧1≤i∧∃ hi:i < s.Columns.length,De s.Columns[i]:=by
 unfold Dh
 refine Ok.bind (XG hs) fun l hl=>?_
 have:l.length≠0:=fun e=>hl.1 (List.eq_nil_of_length_eq_zero e)
 have hl6:=hl.2.1
 refine Ok.bind (IM hc (by omega) (by omega)) fun y hy=>Ok.idx hy.2.1 (by omega) (Ok.some ⟨hy.1,hl.2.2 _ (List.getElem_mem _)⟩)
end Go.Proofs.YtjgeigjjfcnojaaGreatDoor.P
