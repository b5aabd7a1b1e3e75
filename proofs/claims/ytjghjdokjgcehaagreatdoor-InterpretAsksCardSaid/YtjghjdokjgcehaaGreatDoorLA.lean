/- LA -/
import GoSem.Core.Next
import Derived.Test.YtjghjdokjgcehaaGreatDoorM4
set_option linter.unusedVariables false
set_option linter.unusedSimpArgs false
namespace Go.Proofs.YtjghjdokjgcehaaGreatDoor.P
open Go Go.Proofs
def Ok {α:Type} (m:Option α) (Q:α→Prop):Prop:=∃ x,m = some x∧Q x
theorem Ok.some {α:Type} {x:α} {Q:α→Prop} (h:Q x):Ok (some x) Q:=⟨x,rfl,h⟩
theorem Ok.mono {α:Type} {m:Option α} {P Q:α→Prop} (h:Ok m P) (k:∀ x,P x→Q x):Ok m Q:=by
 obtain ⟨x,h1,h2⟩:=h
 exact ⟨x,h1,k x h2⟩
theorem Ok.bind {α β:Type} {m:Option α} {f:α→Option β} {P:α→Prop} {Q:β→Prop} (h:Ok m P) (k:∀ x,P x→Ok (f x) Q):Ok (m.bind f) Q:=by
 obtain ⟨x,h1,h2⟩:=h
 rw [h1]; exact k x h2
theorem Ok.eq {α:Type} {m:Option α} {x:α} (h:m = Option.some x):Ok m (· = x):=⟨x,h,rfl⟩
theorem Ok.val {α:Type} {m:Option α} {x:α} (h:Ok m (· = x)):m = Option.some x:=by
 obtain ⟨y,h1,rfl⟩:=h
 exact h1
theorem Ok.bindE {α β:Type} {m:Option α} {f:α→Option β} {x:α} {Q:β→Prop} (h:m = Option.some x) (k:Ok (f x) Q):Ok (m.bind f) Q:=by rw [h]; exact k
theorem Ok.gd {α:Type} {b:Bool} {x:Option α} {Q:α→Prop} (h:b = true) (k:Ok x Q):Ok (bif b then x else none) Q:=by rw [h]; exact k
theorem Ok.no {α:Type} {b:Bool} {x y:Option α} {Q:α→Prop} (h:b = false) (k:Ok y Q):Ok (bif b then x else y) Q:=by rw [h]; exact k
theorem Ok.yes {α:Type} {b:Bool} {x y:Option α} {Q:α→Prop} (h:b = true) (k:Ok x Q):Ok (bif b then x else y) Q:=by rw [h]; exact k
theorem Ok.gdd {α:Type} {p:Prop} [Decidable p] {x:Option α} {Q:α→Prop} (h:p) (k:Ok x Q):Ok (bif decide p then x else none) Q:=by rw [decide_eq_true h]; exact k
theorem Ok.br {α:Type} {b:Bool} {x y:Option α} {Q:α→Prop} (h1:b = true→Ok x Q) (h2:b = false→Ok y Q):Ok (bif b then x else y) Q:=by
 cases b
 ·exact h2 rfl
 ·exact h1 rfl
theorem Ok.brd {α:Type} {p:Prop} [Decidable p] {x y:Option α} {Q:α→Prop} (h1:p→Ok x Q) (h2:¬ p→Ok y Q):Ok (bif decide p then x else y) Q:=by
 by_cases h:p
 ·rw [decide_eq_true h]; exact h1 h
 ·rw [decide_eq_false h]; exact h2 h
theorem OT {α:Type} {l:List α} {i:Int} (h0:0≤i) (h:i.toNat < l.length):idx l i = some l[i.toNat]:=by
 unfold idx
 rw [if_pos h0,List.getElem?_eq_getElem h]
theorem CK {α:Type} {l:List α} {i:Nat} (h:i < l.length):idx l (i:Int) = some l[i]:=by
 unfold idx
 rw [if_pos (by omega),Int.toNat_natCast,List.getElem?_eq_getElem h]
theorem Ok.idx {α β:Type} {l:List α} {i:Int} {f:α→Option β} {Q:β→Prop} (h0:0≤i) (h:i.toNat < l.length) (k:Ok (f l[i.toNat]) Q):Ok ((P.idx l i).bind f) Q:=by
 rw [OT h0 h]; exact k
theorem Ok.idxn {α β:Type} {l:List α} {i:Nat} {f:α→Option β} {Q:β→Prop} (h:i < l.length) (k:Ok (f l[i]) Q):Ok ((P.idx l (i:Int)).bind f) Q:=by
 rw [CK h]; exact k
theorem Ok.iter {σ ρ:Type} {body:(σ→Option ρ)→σ→Option ρ} {Q:ρ→Prop} (I:σ→Prop) (μ:σ→Nat) (h:∀ rec s,I s→(∀ s',I s'→μ s' < μ s→Ok (rec s') Q)→Ok (body rec s) Q) :
 ∀ n s,I s→μ s < n→Ok (iter body n s) Q
 | 0,_,_,hn=>by omega
 | n + 1,s,hs,hn=>h _ s hs fun s' hs' hlt=>Ok.iter I μ h n s' hs' (by omega)
theorem Ok.loop {σ ρ:Type} {body:(σ→Option ρ)→σ→Option ρ} {Q:ρ→Prop} {s:σ} (I:σ→Prop) (μ:σ→Nat) (hs:I s) (hμ:μ s < AO) (h:∀ rec s,I s→(∀ s',I s'→μ s' < μ s→Ok (rec s') Q)→Ok (body rec s) Q):Ok (P.iter body AO s) Q:=Ok.iter I μ h AO s hs hμ
theorem Ok.for {σ ρ:Type} {body:(σ→Option ρ)→σ→Option ρ} {Q:ρ→Prop} {s:σ} (ix:σ→Int) (len:Nat) (I:Nat→σ→Prop) (k:Nat) (hk:k≤len) (h0:ix s = k) (hI:I k s) (hlen:len≤1000000000000)
 (hend:∀ rec s,ix s = (len:Int)→I len s→Ok (body rec s) Q)
 (hstep:∀ rec (i:Nat) s,i < len→ix s = (i:Int)→I i s→(∀ s',ix s' = ((i + 1:Nat):Int)→I (i + 1) s'→Ok (rec s') Q)→Ok (body rec s) Q):Ok (P.iter body AO s) Q:=by
 refine Ok.loop (fun s=>∃ i:Nat,ix s = i∧i≤len∧I i s) (fun s=>len - (ix s).toNat) ⟨k,h0,hk,hI⟩ (by unfold AO; omega) fun rec s ⟨i,h1,h2,h3⟩ ih=>?_
 by_cases e:i < len
 ·refine hstep rec i s e h1 h3 fun s' h4 h5=>ih s' ⟨i + 1,h4,by omega,h5⟩ ?_
  rw [h4,h1]; omega
 ·obtain rfl:i = len:=by omega
  exact hend rec s h1 h3
theorem df {p:Prop} [Decidable p] (h:¬ p:=by omega):decide p = false:=decide_eq_false h
theorem dt {p:Prop} [Decidable p] (h:p:=by omega):decide p = true:=decide_eq_true h
theorem wr {n:Int} (h0:-9223372036854775808≤n:=by omega) (h1:n≤9223372036854775807:=by omega):IntKind.i64.wrap n = n:=by
 unfold IntKind.wrap
 simp only [IntKind.signed,IntKind.bits]
 first | omega | (simp; omega)
theorem eK {n m:Nat} (h:n + m≤137438953472):rm n m = true:=decide_eq_true h
theorem Ok.rm {α:Type} {n m:Nat} {x:Option α} {Q:α→Prop} (h:n + m≤137438953472) (k:Ok x Q):Ok (bif P.rm n m then x else none) Q:=Ok.gd (eK h) k
theorem BJ {α:Type} {p:Prop} [Decidable p] {x y:α} (h:p:=by omega):(bif decide p then x else y) = x:=by rw [decide_eq_true h]; rfl
theorem BS {α:Type} {p:Prop} [Decidable p] {x y:α} (h:¬ p:=by omega):(bif decide p then x else y) = y:=by rw [decide_eq_false h]; rfl
end Go.Proofs.YtjghjdokjgcehaaGreatDoor.P
namespace Go.Proofs.YtjghjdokjgcehaaGreatDoor.P
open Go Go.Abs Go.Proofs
set_option maxRecDepth 100000
def Jy (c:Ag):Prop:=(∀ x∈c.f_l,0≤x∧x≤255)∧c.f_l.length≤400∧0≤c.f_at∧c.f_at≤c.f_l.length
theorem Jy.at {c:Ag} (h:Jy c) {i:Int} (h0:0≤i) (h1:i < c.f_l.length):∃ x,idx c.f_l i = some x∧0≤x∧x≤255:=by
 have hl:i.toNat < c.f_l.length:=by omega
 exact ⟨_,OT h0 hl,h.1 _ (List.getElem_mem hl)⟩
theorem Zx {v n:Int} (hv:0≤v) (hn:1≤n):0≤Int.tmod v n∧Int.tmod v n < n:=by
 rw [Int.tmod_eq_emod_of_nonneg hv]
 exact ⟨Int.emod_nonneg _ (by omega),Int.emod_lt_of_pos _ (by omega)⟩
theorem Fi {c:Ag} (h:Jy c) {n:Int} (hn:1≤n) (hn2:n≤100000):Ok (AH c n) fun r=>Jy r.2∧0≤r.1∧r.1 < n:=by
 obtain ⟨hx,hl,h0,h1⟩:=h
 have h':Jy c:=⟨hx,hl,h0,h1⟩
 unfold AH
 refine Ok.brd (fun h=>by omega) fun _=>Ok.brd (fun h=>Ok.some ⟨h',by show (0:Int)≤0∧(0:Int) < n; omega⟩) fun hlt=>?_
 have e1:IntKind.i64.wrap (c.f_at + 1) = c.f_at + 1:=wr
 have e2:IntKind.i64.wrap (c.f_at + 1 - 1) = c.f_at:=by rw [wr]; omega
 obtain ⟨x,hx1,hx2,hx3⟩:=h'.at h0 (by omega)
 unfold FI
 rw [e1,e2]
 refine Ok.bindE hx1 ?_
 have ex:IntKind.i64.wrap x = x:=wr
 have one:Ok (some (Int.tmod x n,({ f_l:=c.f_l,f_at:=c.f_at + 1 }:Ag))) fun r=>Jy r.2∧0≤r.1∧r.1 < n :=
  Ok.some ⟨⟨hx,hl,by show 0≤c.f_at + 1; omega,by show c.f_at + 1≤(c.f_l.length:Int); omega⟩,Zx hx2 hn⟩
 rw [ex]
 refine Ok.brd (fun _=>Ok.brd (fun h2=>?_) fun _=>Ok.gdd (by omega) one) fun _=>Ok.gdd (by omega) one
 obtain ⟨y,hy1,hy2,hy3⟩:=h'.at (i:=c.f_at + 1) (by omega) h2
 refine Ok.bindE hy1 (Ok.gdd (by omega) (Ok.some ⟨⟨hx,hl,?_,?_⟩,?_⟩))
 ·show 0≤IntKind.i64.wrap (c.f_at + 1 + 1); rw [wr]; omega
 ·show IntKind.i64.wrap (c.f_at + 1 + 1)≤(c.f_l.length:Int); rw [wr]; omega
 ·have:IntKind.i64.wrap (IntKind.i64.wrap (x * 256) + IntKind.i64.wrap y) = x * 256 + y:=by
   rw [wr (n:=x * 256) (by omega) (by omega),wr (n:=y) (by omega) (by omega),wr]
  show 0≤Int.tmod _ n∧Int.tmod _ n < n
  rw [this]
  exact Zx (by omega) hn
theorem Qg {c:Ag} (h:Jy c) {n:Int} (hn:1≤n) (hn2:n≤100000):Ok (Cz c n) fun r=>Jy r.2 :=
 Ok.bind (Fi h hn hn2) fun _ hx=>Ok.some hx.1
theorem Hl {c:Ag} (h:Jy c) {a b:Int} (hab:a≤b) (ha:-100000000≤a) (hb:b≤100000000) (hd:b - a < 100000):Ok (Bh c a b) fun r=>Jy r.2∧a≤r.1∧r.1≤b:=by
 unfold Bh
 have e:IntKind.i64.wrap (IntKind.i64.wrap (b - a) + 1) = b - a + 1:=by rw [wr (n:=b - a) (by omega) (by omega),wr]
 rw [e]
 refine Ok.bind (Fi h (by omega) (by omega)) fun x hx=>Ok.some ⟨hx.1,?_⟩
 show a≤IntKind.i64.wrap (a + x.1)∧IntKind.i64.wrap (a + x.1)≤b
 rw [wr]
 omega
theorem dE (l:List Int) (h:∀ x∈l,0≤x∧x≤255) (hl:l.length≤9223372036854775807):Ok (NU l) Jy:=by
 unfold NU
 refine Ok.gdd ?_ (Ok.some ⟨fun x hx=>?_,?_,?_,?_⟩)
 ·split <;> omega
 ·exact h x (List.mem_of_mem_drop (List.mem_of_mem_take hx))
 ·show (Im l 0 _).length≤400
  unfold Im
  simp only [List.length_take,List.length_drop]
  split <;> omega
 ·show (0:Int)≤0; omega
 ·show (0:Int)≤_; omega
def cn (n:Nat):ByteArray:=⟨#[UInt8.ofNat (48 + n)]⟩
theorem TU (n:Nat) (h:n < 10):CE (n:Int) = some (cn n):=by
 unfold CE cn
 rw [BJ,Int.toNat_natCast]
 unfold Go.Lib.decDigits
 rw [dif_pos h]
def kc (i:Nat):DG:={ Name:=({ data:=#[107] }:ByteArray)++cn i,Parent:=0 }
def lc (n:Nat) (p:Int):DG:={ Name:=({ data:=#[108] }:ByteArray)++cn n,Parent:=p }
def fI:DG:={ Name:=({ data:=#[116,111,112] }:ByteArray),Parent:=-1 }
def XW:List DG→List Int→List DG
 | b,[]=>b
 | b,p :: r=>XW (b++[lc b.length p]) r
def base (kids:Nat):List DG:=fI :: (List.range kids).map kc
def LD (kids:Nat) (ps:List Int):List DG:=XW (base kids) ps
def U8:Nat→List (List Int)
 | 0=>[[]]
 | n + 1=>(U8 n).flatMap fun l=>[l++[(n:Int) + 1],l++[(n:Int) + 1,(n:Int) + 1]]
def LZ:List (List DG):=[1,2,3].flatMap fun k=>LD k [] :: (U8 k).map (LD k)
theorem Si:∀ (b:List DG) (p q:List Int),XW b (p++q) = XW (XW b p) q
 | _,[],_=>rfl
 | b,_ :: r,q=>Si _ r q
theorem Sj:∀ (b:List DG) (p:List Int),(XW b p).length = b.length + p.length
 | _,[]=>rfl
 | b,x :: r=>by rw [XW,Sj]; simp; omega
theorem Sm:∀ n,∀ l∈U8 n,n≤l.length∧l.length≤2 * n
 | 0,l,h=>by simp [U8] at h; subst h; simp
 | n + 1,l,h=>by
   simp only [U8,List.mem_flatMap] at h
   obtain ⟨q,hq,h⟩:=h
   have:=Sm n q hq
   simp at h
   rcases h with rfl | rfl <;> simp <;> omega
theorem Z4 {n:Nat} {q:List Int} (hq:q∈U8 n) (k:Nat) (h1:1≤k) (h2:k≤2):q++List.replicate k ((n:Int) + 1)∈U8 (n + 1):=by
 simp only [U8,List.mem_flatMap]
 refine ⟨q,hq,?_⟩
 rcases (by omega:k = 1∨k = 2) with rfl | rfl
 ·exact List.mem_cons_self ..
 ·exact List.mem_cons_of_mem _ (List.mem_cons_self ..)
theorem Zl {c:Ag} (h:Jy c) (name:ByteArray):Ok (E8 c name) fun r=>Jy r.2∧∃ l∈LZ,r.1 = { Name:=name,Codes:=l }:=by
 unfold E8
 refine Ok.bind (Hl h (by omega) (by omega) (by omega) (by omega)) fun x hx=>?_
 obtain ⟨kids,hk⟩:∃ k:Nat,x.1 = k:=⟨x.1.toNat,by omega⟩
 obtain ⟨hc,hk1,hk2⟩:=hx
 rw [hk] at hk1 hk2
 have hkm:kids∈[1,2,3]:=by rcases (by omega:kids = 1∨kids = 2∨kids = 3) with rfl | rfl | rfl <;> simp
 refine Ok.for (fun s=>s.1) kids (fun i s=>s.2 = base i) 0 (Nat.zero_le _) rfl rfl (by omega) (fun rec s hs hI=>?_) fun rec i s hi hs hI ih=>?_
 ·simp only [FF,hs,hk,hI]
  rw [BS]
  unfold FH
  refine Ok.bind (Qg hc (by omega) (by omega)) fun y hy=>Ok.br (fun _=>Ok.some ⟨hy,base kids,?_,rfl⟩) fun _=>?_
  ·simp only [LZ,List.mem_flatMap]
   exact ⟨kids,hkm,List.mem_cons_self ..⟩
  refine Ok.for (fun s=>s.1) kids (fun i s=>Jy s.2.1∧∃ p∈U8 i,s.2.2 = LD kids p) 0 (Nat.zero_le _) rfl ⟨hy,[],by simp [U8],rfl⟩ (by omega) (fun rec s hs hI=>?_) fun rec i s hi hs hI ih=>?_
  ·obtain ⟨h1,p,h2,h3⟩:=hI
   simp only [FG,hs,hk]
   rw [BS]
   refine Ok.some ⟨h1,LD kids p,?_,by rw [h3]⟩
   simp only [LZ,List.mem_flatMap]
   exact ⟨kids,hkm,List.mem_cons_of_mem _ (List.mem_map.2 ⟨p,h2,rfl⟩)⟩
  ·obtain ⟨h1,p,h2,h3⟩:=hI
   simp only [FG,hs,hk]
   rw [BJ]
   refine Ok.bind (Hl h1 (by omega) (by omega) (by omega) (by omega)) fun z hz=>?_
   have hpl:=Sm i p h2
   obtain ⟨m,hm⟩:∃ k:Nat,z.1 = k:=⟨z.1.toNat,by omega⟩
   refine Ok.loop (fun s=>∃ j:Nat,j≤m∧s.1 = (m:Int) - j∧s.2 = LD kids (p++List.replicate j ((i:Int) + 1))) (fun s=>s.1.toNat) ⟨0,by omega,by simp [hm],by simp [h3]⟩ (by unfold AO; show z.1.toNat < _; omega) fun rec s hs ih2=>?_
   obtain ⟨j,hj,e1,e2⟩:=hs
   have hml:s.2.length = 1 + kids + p.length + j:=by
    rw [e2,LD,Sj]; simp [base]; omega
   simp only [HI]
   refine Ok.brd (fun hpos=>?_) fun hneg=>?_
   ·have hitoa:=TU s.2.length (by omega)
    refine Ok.bindE hitoa (Ok.gdd (by simp [cn,ByteArray.size]) (Ok.rm (by simp; omega) (ih2 _ ⟨j + 1,by omega,?_,?_⟩ ?_)))
    ·show IntKind.i64.wrap (s.1 - 1) = _
     rw [wr]; omega
    ·have hw:IntKind.i64.wrap (1 + (i:Int)) = (i:Int) + 1:=by rw [wr]; omega
     show s.2++[({ Name:=({ data:=#[108] }:ByteArray)++cn s.2.length,Parent:=IntKind.i64.wrap (1 + (i:Int)) }:DG)] = _
     rw [hw,List.replicate_succ',← List.append_assoc,LD,Si,← LD,← e2]
     rfl
    ·show (IntKind.i64.wrap (s.1 - 1)).toNat < s.1.toNat
     rw [wr]; omega
   ·obtain rfl:j = m:=by omega
    refine ih _ ?_ ⟨hz.1,p++List.replicate j ((i:Int) + 1),Z4 h2 j (by omega) (by omega),e2⟩
    show IntKind.i64.wrap ((i:Int) + 1) = _
    rw [wr]; omega
 ·simp only [FF,hs,hk]
  rw [BJ]
  have hl:s.2.length = 1 + i:=by rw [hI]; simp [base]; omega
  refine Ok.bindE (TU i (by omega)) (Ok.gdd (by simp [cn,ByteArray.size]) (Ok.rm (by simp; omega) (ih _ ?_ ?_)))
  ·show IntKind.i64.wrap ((i:Int) + 1) = _
   rw [wr]; omega
  ·show s.2++[_] = _
   rw [hI]
   simp [base,List.range_succ,kc]
def ML:List (List Int):=[[1],[1,5],[1,5,20],[1,2,4,12]]
structure Gp (c:A4):Prop where
 kind:c.Kind = 3
 list:c.List_ = 0
 low:-4≤c.Low∧c.Low≤2
 high:c.Low≤c.High∧c.High≤c.Low + 44
 widths:c.Widths∈ML
theorem Y3 {c:Ag} (h:Jy c) (name:ByteArray):Ok (Dp c name) fun r=>Jy r.2∧Gp r.1∧r.1.Name = name:=by
 unfold Dp
 refine Ok.bind (Hl h (by omega) (by omega) (by omega) (by omega)) fun x hx=>Ok.bind (Fi hx.1 (by omega) (by omega)) fun y hy=>?_
 have hl:y.1.toNat < ML.length:=by simp [ML]; omega
 refine Ok.idx hy.2.1 hl (Ok.bind (Qg hy.1 (by omega) (by omega)) fun z hz=>Ok.bind (Fi hz (by omega) (by omega)) fun u hu=>Ok.some ⟨hu.1,⟨rfl,rfl,hx.2,?_,List.getElem_mem hl⟩,rfl⟩)
 show x.1≤IntKind.i64.wrap (x.1 + u.1)∧IntKind.i64.wrap (x.1 + u.1)≤x.1 + 44
 rw [wr]
 omega
def dO:A4:={ Name:=({ data:=#[119,104,111] }:ByteArray),Kind:=1,List_:=0,Low:=0,High:=0,Widths:=[],Optional:=false }
def f9:A4:={ Name:=({ data:=#[115,101,120] }:ByteArray),Kind:=2,List_:=0,Low:=0,High:=0,Widths:=[],Optional:=false }
def fe:A4:={ Name:=({ data:=#[106,111,98] }:ByteArray),Kind:=2,List_:=1,Low:=0,High:=0,Widths:=[],Optional:=false }
def Ez (j:Bool):List A4:=[dO,f9]++(if j then [fe] else [])
def bB (i:Nat):ByteArray:=({ data:=#[109] }:ByteArray)++cn i
def Ub:ByteArray:={ data:=#[111,110,101] }
def W7:ByteArray:={ data:=#[116,119,111] }
def Ms (k:Nat) (ms:List A4):Prop:=∀ i (h:i < ms.length),Gp ms[i]∧ms[i].Name = bB (k + i)
structure DS (s:Ae):Prop where
 lists:∃ a∈LZ,∃ b∈LZ,s.Lists = [{ Name:=Ub,Codes:=a },{ Name:=W7,Codes:=b }]
 cols:∃ j ms,s.Columns = Ez j++ms∧1≤ms.length∧ms.length≤3∧Ms (Ez j).length ms
theorem Ms.snoc {k:Nat} {ms:List A4} (h:Ms k ms) {c:A4} (hc:Gp c) (hn:c.Name = bB (k + ms.length)):Ms k (ms++[c]):=by
 intro i hi
 by_cases e:i < ms.length
 ·rw [List.getElem_append_left e]; exact h i e
 ·have:i = ms.length:=by simp at hi; omega
  subst this
  simp [hc,hn]
theorem Kp (j:Bool):2≤(Ez j).length∧(Ez j).length≤3:=by cases j <;> simp [Ez]
theorem SI {body:((Int × Ag × List A4)→Option (Ae × Ag))→(Int × Ag × List A4)→Option (Ae × Ag)} {L:List Ay} (hL:∃ a∈LZ,∃ b∈LZ,L = [{ Name:=Ub,Codes:=a },{ Name:=W7,Codes:=b }])
 (hb:body = fun rec s=>EM (fun v4_1 w0_1 b12_1=>some (({ Lists:=L,Columns:=b12_1 }:Ae),w0_1)) rec s.1 s.2.1 s.2.2) (j:Bool) {n:Int} (h1:1≤n) (h2:n≤3) {c:Ag} (hc:Jy c) :
 Ok (iter body AO (n,c,Ez j)) fun r=>Jy r.2∧DS r.1:=by
 subst hb
 have hcl:=Kp j
 refine Ok.loop (fun s=>0≤s.1∧Jy s.2.1∧∃ ms,s.2.2 = Ez j++ms∧(ms.length:Int) = n - s.1∧Ms (Ez j).length ms) (fun s=>s.1.toNat) ⟨by show 0≤n; omega,hc,[],by simp,by simp,fun i hi=>by simp at hi⟩ (by unfold AO; show n.toNat < _; omega) fun rec s hs ih=>?_
 obtain ⟨h0,hcs,ms,e1,e2,e3⟩:=hs
 simp only [EM]
 refine Ok.brd (fun hpos=>?_) fun hneg=>?_
 ·have hl:s.2.2.length = (Ez j).length + ms.length:=by rw [e1]; simp
  refine Ok.bindE (TU _ (by omega)) (Ok.gdd (by simp [cn,ByteArray.size]) (Ok.bind (Y3 hcs _) fun x hx=>Ok.rm (by simp; omega) (ih _ ⟨?_,hx.1,ms++[x.1],by rw [e1]; simp,?_,e3.snoc hx.2.1 ?_⟩ ?_)))
  ·show 0≤IntKind.i64.wrap (s.1 - 1); rw [wr]; omega
  ·show _ = n - IntKind.i64.wrap (s.1 - 1); rw [wr]; simp; omega
  ·rw [hx.2.2,hl]; rfl
  ·show (IntKind.i64.wrap (s.1 - 1)).toNat < s.1.toNat; rw [wr]; omega
 ·exact Ok.some ⟨hcs,⟨hL,j,ms,e1,by omega,by omega,e3⟩⟩
theorem an {c:Ag} (h:Jy c):Ok (EL c) fun r=>Jy r.2∧DS r.1:=by
 unfold EL
 refine Ok.bind (Zl h _) fun x hx=>Ok.bind (Zl hx.1 _) fun y hy=>Ok.bind (Qg hy.1 (by omega) (by omega)) fun z hz=>?_
 obtain ⟨_,a,ha,ea⟩:=hx
 obtain ⟨_,b,hb,eb⟩:=hy
 have hL:∃ a∈LZ,∃ b∈LZ,[x.1,y.1] = [{ Name:=Ub,Codes:=a },{ Name:=W7,Codes:=b }]:=⟨a,ha,b,hb,by rw [ea,eb]; rfl⟩
 refine Ok.br (fun _=>Ok.rm (by simp) (Ok.bind (Hl hz (by omega) (by omega) (by omega) (by omega)) fun u hu=>?_)) fun _=>Ok.bind (Hl hz (by omega) (by omega) (by omega) (by omega)) fun u hu=>?_
 ·exact SI hL rfl true hu.2.1 hu.2.2 hu.1
 ·exact SI hL rfl false hu.2.1 hu.2.2 hu.1
end Go.Proofs.YtjghjdokjgcehaaGreatDoor.P
namespace Go.Proofs.YtjghjdokjgcehaaGreatDoor.P
open Go Go.Abs Go.Proofs
set_option maxRecDepth 100000
def Z1:List Ay:=[Ub,W7].flatMap fun n=>LZ.map fun l=>{ Name:=n,Codes:=l }
variable {s:Ae}
theorem DS.list (h:DS s) {i:Nat} (hi:i < s.Lists.length):s.Lists[i]∈Z1:=by
 obtain ⟨a,ha,b,hb,e⟩:=h.lists
 have h1:∀ (k:Nat) (hk:k < 2),([{ Name:=Ub,Codes:=a },{ Name:=W7,Codes:=b }]:List Ay)[k]'hk∈Z1:=by
  intro k hk
  simp only [Z1,List.mem_flatMap]
  rcases (by omega:k = 0∨k = 1) with rfl | rfl
  ·exact ⟨Ub,by simp,List.mem_map.2 ⟨a,ha,rfl⟩⟩
  ·exact ⟨W7,by simp,List.mem_map.2 ⟨b,hb,rfl⟩⟩
 have hi2:i < 2:=by rw [e] at hi; exact hi
 have:=h1 i hi2
 simp only [e]
 exact this
theorem DS.lists2 (h:DS s):s.Lists.length = 2:=by
 obtain ⟨a,ha,b,hb,e⟩:=h.lists
 rw [e]; rfl
def Ku (l:Ay):Int:=(GN l).getD 0
def GL (l:Ay):List Int:=(Uj l (Ku l - 1)).getD []
theorem X5:(Z1.all fun l=>EO l==some 0 && F3 l==some 0 && (GN l==some (Ku l)) && (EE l==some (Ku l)) && decide (2≤Ku l) && decide (Ku l≤3) &&
 Uj l (Ku l - 1)==some (GL l) && JH l (Ku l - 1)==some (GL l) && !(GL l).isEmpty && (GL l).all fun x=>decide (0≤x) && decide (x < l.Codes.length) && SG l x==some (Ku l - 1) && G4 l x (Ku l - 1)==some x && Ot l x (Ku l - 1)==some x) = true:=by decide +kernel
structure CL (l:Ay):Prop where
 rcheck:EO l = some 0
 check:F3 l = some 0
 rlev:GN l = some (Ku l)
 lev:EE l = some (Ku l)
 lev2:2≤Ku l
 lev3:Ku l≤3
 rleaves:Uj l (Ku l - 1) = some (GL l)
 leaves:JH l (Ku l - 1) = some (GL l)
 some_:GL l≠[]
 leaf:∀ x∈GL l,0≤x∧x < l.Codes.length∧SG l x = some (Ku l - 1)∧G4 l x (Ku l - 1) = some x∧Ot l x (Ku l - 1) = some x
theorem Sr {l:Ay} (h:l∈Z1):CL l:=by
 have:=List.all_eq_true.1 X5 l h
 simp only [Bool.and_eq_true,beq_iff_eq,decide_eq_true_eq,List.all_eq_true,Bool.not_eq_true',List.isEmpty_eq_false_iff] at this
 obtain ⟨⟨⟨⟨⟨⟨⟨⟨⟨h1,h2⟩,h3⟩,h4⟩,h5⟩,h6⟩,h7⟩,h8⟩,h9⟩,h10⟩:=this
 exact ⟨h1,h2,h3,h4,h5,h6,h7,h8,h9,fun x hx=>by have:=h10 x hx; obtain ⟨⟨⟨⟨a,b⟩,c⟩,d⟩,e⟩:=this; exact ⟨a,b,c,d,e⟩⟩
def Ng (j:Bool) (n:Nat):List ByteArray:=(Ez j).map (·.Name)++(List.range n).map fun i=>bB ((Ez j).length + i)
theorem SA:([true,false].all fun j=>[1,2,3].all fun n=>(Ng j n).all (fun x=>Be x==some true && BO x==some true) &&
 (List.range (Ng j n).length).all fun i=>(List.range i).all fun k=>match (Ng j n)[i]?,(Ng j n)[k]? with | some x,some y=>!(x.toList==y.toList) && !(y.toList==x.toList) | _,_=>false) = true:=by decide +kernel
structure Kj (c:A4):Prop where
 kind:c.Kind = 2
 list:c.List_ = 0∨c.List_ = 1
 low:c.Low = 0
 high:c.High = 0
 widths:c.Widths = []
 opt:c.Optional = false
theorem DS.cols_length (h:DS s):3≤s.Columns.length∧s.Columns.length≤6:=by
 obtain ⟨j,ms,e,h1,h2,h3⟩:=h.cols
 have:=Kp j
 rw [e,List.length_append]
 omega
theorem DS.col0 (h:DS s) (hi:0 < s.Columns.length):s.Columns[0] = dO:=by
 obtain ⟨j,ms,e,h1,h2,h3⟩:=h.cols
 have:s.Columns[0]? = some dO:=by rw [e]; cases j <;> rfl
 rw [List.getElem?_eq_getElem hi] at this
 exact Option.some.inj this
theorem DS.col (h:DS s) {i:Nat} (h0:1≤i) (hi:i < s.Columns.length):Kj s.Columns[i]∨Gp s.Columns[i]:=by
 obtain ⟨j,ms,e,h1,h2,h3⟩:=h.cols
 have hg:s.Columns[i]? = some s.Columns[i]:=List.getElem?_eq_getElem hi
 generalize hc:s.Columns[i] = c at hg ⊢
 rw [e] at hg
 by_cases hl:i < (Ez j).length
 ·rw [List.getElem?_append_left hl] at hg
  left
  cases j with
  | true =>
    rcases (by simp [Ez] at hl; omega:i = 1∨i = 2) with rfl | rfl
    ·cases hg; exact ⟨rfl,.inl rfl,rfl,rfl,rfl,rfl⟩
    ·cases hg; exact ⟨rfl,.inr rfl,rfl,rfl,rfl,rfl⟩
  | false =>
    obtain rfl:i = 1:=by simp [Ez] at hl; omega
    cases hg; exact ⟨rfl,.inl rfl,rfl,rfl,rfl,rfl⟩
 ·right
  rw [List.getElem?_append_right (by omega)] at hg
  obtain ⟨hlt,rfl⟩:=List.getElem?_eq_some_iff.1 hg
  exact (h3 _ hlt).1
theorem DS.names (h:DS s):∃ j n,n∈[1,2,3]∧s.Columns.map (·.Name) = Ng j n:=by
 obtain ⟨j,ms,e,h1,h2,h3⟩:=h.cols
 refine ⟨j,ms.length,by simp; omega,?_⟩
 rw [e,List.map_append,Ng]
 congr 1
 apply List.ext_getElem (by simp)
 intro i hi hi2
 simp only [List.getElem_map,List.getElem_range]
 exact (h3 i (by simpa using hi)).2
theorem DS.name (h:DS s) {i:Nat} (hi:i < s.Columns.length):Be s.Columns[i].Name = some true∧BO s.Columns[i].Name = some true:=by
 obtain ⟨j,n,hn,e⟩:=h.names
 have hf:=List.all_eq_true.1 (List.all_eq_true.1 SA j (by cases j <;> simp)) n hn
 simp only [Bool.and_eq_true,List.all_eq_true,beq_iff_eq] at hf
 refine hf.1 _ ?_
 rw [← e]
 exact List.mem_map.2 ⟨_,List.getElem_mem hi,rfl⟩
theorem DS.name_ne (h:DS s) {i k:Nat} (hi:i < s.Columns.length) (hk:k < i):(s.Columns[k].Name.toList==s.Columns[i].Name.toList) = false∧(s.Columns[i].Name.toList==s.Columns[k].Name.toList) = false:=by
 obtain ⟨j,n,hn,e⟩:=h.names
 have hf:=List.all_eq_true.1 (List.all_eq_true.1 SA j (by cases j <;> simp)) n hn
 simp only [Bool.and_eq_true,List.all_eq_true] at hf
 have hl:s.Columns.length = (Ng j n).length:=by rw [← e,List.length_map]
 have:=hf.2 i (List.mem_range.2 (by omega)) k (List.mem_range.2 hk)
 rw [← e,List.getElem?_map,List.getElem?_map,List.getElem?_eq_getElem hi,List.getElem?_eq_getElem (by omega:k < s.Columns.length)] at this
 simp only [Option.map_some,Bool.and_eq_true,Bool.not_eq_true'] at this
 exact ⟨this.2,this.1⟩
def GW {α:Type} (q:α→Bool) (l:List α):Int:=match l.findIdx? q with | some i=>(i:Int) | none=>-1
theorem Mw {α:Type} {l:List α} {p:α→Option Bool} {q:α→Bool} (hp:∀ x∈l,p x = some (q x)) (hl:l.length≤1000000000) :
 iter (fun rec1 v=>bif (decide (v < ((l.length:Nat):Int))) then (idx l v).bind fun x14=>(p x14).bind fun x16=>bif x16 then some v else rec1 (IntKind.i64.wrap (v + 1)) else some (-1)) AO 0 = some (GW q l):=by
 refine Ok.val (Ok.for (fun s=>s) l.length (fun i _=>∀ k (hk:k < l.length),k < i→q l[k] = false) 0 (Nat.zero_le _) rfl (fun _ _ h=>by omega) (by omega) (fun rec s hs hI=>?_) fun rec i s hi hs hI ih=>?_)
 ·rw [hs,BS]
  refine Ok.some ?_
  have:l.findIdx? q = none:=by
   rw [List.findIdx?_eq_none_iff]
   intro x hx
   obtain ⟨k,hk,rfl⟩:=List.mem_iff_getElem.1 hx
   exact hI k hk hk
  simp [GW,this]
 ·rw [hs,BJ]
  refine Ok.idxn hi (Ok.bindE (hp _ (List.getElem_mem hi)) (Ok.br (fun h=>Ok.some ?_) fun h=>ih _ ?_ fun k hk hk2=>?_))
  ·have:l.findIdx? q = some i:=by
    rw [List.findIdx?_eq_some_iff_getElem]
    exact ⟨hi,h,fun k hk=>by rw [hI k (by omega) hk]; simp⟩
   simp [GW,this]
  ·show IntKind.i64.wrap ((i:Int) + 1) = _
   rw [wr]; omega
  ·by_cases e:k = i
   ·subst e; exact h
   ·exact hI k hk (by omega)
theorem Mr {α:Type} (q:α→Bool) (l:List α):decide (GW q l ≥ 0) = l.any q:=by
 unfold GW
 cases h:l.findIdx? q with
 | none =>
   rw [List.findIdx?_eq_none_iff] at h
   have:l.any q = false:=by rw [List.any_eq_false]; intro x hx; simp [h x hx]
   simp [this]
 | some i =>
   obtain ⟨hi,h1,_⟩:=List.findIdx?_eq_some_iff_getElem.1 h
   have:l.any q = true:=List.any_eq_true.2 ⟨_,List.getElem_mem hi,h1⟩
   simp only [this]
   exact dt
theorem ZA {l:List A4} {p:A4→Option Bool} (q:A4→Bool) (hp:∀ x∈l,p x = some (q x)) (hl:l.length≤1000000000):Bg l p = some (l.any q):=by
 unfold Bg
 rw [show B8 l p = some (GW q l) from Mw hp hl,Option.bind_some,Mr]
theorem WO {l:List Ay} {p:Ay→Option Bool} (q:Ay→Bool) (hp:∀ x∈l,p x = some (q x)) (hl:l.length≤1000000000):Bf l p = some (l.any q):=by
 unfold Bf
 rw [show Bv l p = some (GW q l) from Mw hp hl,Option.bind_some,Mr]
end Go.Proofs.YtjghjdokjgcehaaGreatDoor.P
set_option linter.unusedVariables false
set_option linter.unusedSimpArgs false
namespace Go.Proofs.YtjghjdokjgcehaaGreatDoor.P
open Go Go.Abs Go.Proofs
set_option maxRecDepth 100000
variable {s:Ae}
theorem Vy (n a b:Int):IL n a b = some (decide (a≤n∧n≤b)):=by
 unfold IL
 by_cases h:a≤n <;> by_cases h2:n≤b <;> simp [h,h2]
theorem b9 {w:List Int} (h:w∈ML):w = [1]∨w = [1,5]∨w = [1,5,20]∨w = [1,2,4,12]:=by simpa [ML] using h
theorem bN {c:A4} (h:Gp c):Hp c = some 0:=by
 have hw:GO c = some 0:=by
  obtain ⟨n,k,li,lo,hi,w,o⟩:=c
  rcases b9 h.widths with e | e | e | e <;> (simp only at e; subst e; rfl)
 obtain ⟨h1,h2⟩:=h.low
 obtain ⟨h3,h4⟩:=h.high
 unfold Hp
 rw [Vy,Option.bind_some,dt,Vy,Option.bind_some,dt,df,hw]
 rfl
theorem bH {c:A4} (h:Gp c):DV c = some 0:=by
 have hw:(bif (bif (((c.Widths.length:Nat):Int)==0) then true else (decide (((c.Widths.length:Nat):Int) > 4))) then some 1 else iter (fun rec1 s=>FU c (fun v3_1 v36_1=>some 0) rec1 s.1 s.2) AO (1,0)) = some 0:=by
  obtain ⟨n,k,li,lo,hi,w,o⟩:=c
  rcases b9 h.widths with e | e | e | e <;> (simp only at e; subst e; rfl)
 obtain ⟨h1,h2⟩:=h.low
 obtain ⟨h3,h4⟩:=h.high
 unfold DV
 rw [df,df,df]
 simp only [cond_false]
 exact hw
def dP (i:Nat) (c:A4):Prop:=(i = 0∧c = dO)∨(1≤i∧(Kj c∨Gp c))
theorem DS.cl (h:DS s) {i:Nat} (hi:i < s.Columns.length):dP i s.Columns[i]:=by
 rcases Nat.eq_zero_or_pos i with rfl | h0
 ·exact .inl ⟨rfl,h.col0 hi⟩
 ·exact .inr ⟨h0,h.col h0 hi⟩
theorem dP.kinds {i:Nat} {c:A4} (h:dP i c):(c.Kind = 1∨c.Kind = 2∨c.Kind = 3)∧(c.Kind = 1→i = 0):=by
 rcases h with ⟨rfl,rfl⟩ | ⟨h0,h | h⟩
 ·exact ⟨.inl rfl,fun _=>rfl⟩
 ·rw [h.kind]; exact ⟨.inr (.inl rfl),fun e=>by omega⟩
 ·rw [h.kind]; exact ⟨.inr (.inr rfl),fun e=>by omega⟩
theorem Ui {i:Nat} {c:A4} (h:dP i c):E9 c = some 0:=by
 rcases h with ⟨rfl,rfl⟩ | ⟨h0,h | h⟩
 ·rfl
 ·obtain ⟨n,k,li,lo,hi,w,o⟩:=c
  obtain ⟨h1,h2,h3,h4,h5,h6⟩:=h
  simp only at h1 h2 h3 h4 h5 h6
  subst h1; subst h3; subst h4; subst h5; subst h6
  rfl
 ·unfold E9
  rw [bN h,h.kind,h.list]
  rfl
theorem cB (h:DS s) {i:Nat} (hi:i < s.Columns.length):IK s i = some 0:=by
 have hcol:=h.cl hi
 have hk:=hcol.kinds
 have hl:=h.lists2
 refine Ok.val ?_
 unfold IK
 refine Ok.idxn hi (Ok.bindE (h.name hi).1 ?_)
 simp only [Bool.not_true,Bool.not_false,cond_true,cond_false]
 refine Ok.for (fun s=>s) i (fun _ _=>True) 0 (Nat.zero_le _) rfl trivial (by have:=h.cols_length; omega) (fun rec q hq _=>?_) fun rec k q hk2 hq _ ih=>?_
 ·simp only [H3,hq]
  rw [BS]
  unfold H4
  rw [Vy,Option.bind_some,dt]
  have e1:(bif decide ((i:Int) > 0) then s.Columns[i].Kind==1 else false) = false:=by
   by_cases e:i = 0
   ·subst e; rfl
   ·have:s.Columns[i].Kind≠1:=fun h1=>e (hk.2 h1)
    simp [this]
  rw [e1]
  show Ok (bif (s.Columns[i].Kind==2) then _ else _) _
  refine Ok.br (fun he=>?_) fun _=>Ok.eq (Ui hcol)
  have he:s.Columns[i].Kind = 2:=by simpa using he
  have hlist:s.Columns[i].List_ = 0∨s.Columns[i].List_ = 1:=by
   rcases hcol with ⟨rfl,e⟩ | ⟨_,h | h⟩
   ·rw [e]; exact .inl rfl
   ·exact h.list
   ·exact .inl h.list
  rw [Vy,Option.bind_some,hl,decide_eq_true (by rw [wr]; omega)]
  exact Ok.eq (Ui hcol)
 ·simp only [H3,hq]
  rw [BJ]
  refine Ok.idxn (by omega:k < s.Columns.length) ?_
  rw [(h.name_ne hi hk2).1]
  refine ih _ ?_ trivial
  show IntKind.i64.wrap ((k:Int) + 1) = _
  have:=h.cols_length
  rw [wr]; omega
theorem DS.lname (h:DS s) (h0:0 < s.Lists.length) (h1:1 < s.Lists.length):s.Lists[0].Name = Ub∧s.Lists[1].Name = W7:=by
 obtain ⟨a,ha,b,hb,e⟩:=h.lists
 have e0:s.Lists[0]? = some { Name:=Ub,Codes:=a }:=by rw [e]; rfl
 have e1:s.Lists[1]? = some { Name:=W7,Codes:=b }:=by rw [e]; rfl
 rw [List.getElem?_eq_getElem h0] at e0
 rw [List.getElem?_eq_getElem h1] at e1
 rw [Option.some.inj e0,Option.some.inj e1]
 exact ⟨rfl,rfl⟩
theorem Zq:(Ub.toList==W7.toList) = false:=by decide +kernel
theorem DS.rcheck (h:DS s):Cv s = some 0:=by
 have hl:=h.lists2
 have hc:=h.cols_length
 refine Ok.val ?_
 unfold Cv
 rw [df,df]
 simp only [Bool.not_true,Bool.not_false,cond_true,cond_false]
 refine Ok.for (fun s=>s) s.Lists.length (fun _ _=>True) 0 (Nat.zero_le _) rfl trivial (by omega) (fun rec q hq _=>?_) fun rec i q hi hq _ ih=>?_
 ·simp only [IG,hq]
  rw [BS]
  unfold IJ
  have e0:(((s.Columns.length:Nat):Int)==0) = false:=by rw [beq_eq_false_iff_ne]; omega
  rw [e0]
  show Ok ((idx s.Columns 0).bind _) _
  refine Ok.idxn (i:=0) (by omega) ?_
  rw [h.col0]
  refine Ok.no rfl ?_
  refine Ok.for (fun s=>s) s.Columns.length (fun _ _=>True) 0 (Nat.zero_le _) rfl trivial (by omega) (fun rec q hq _=>?_) fun rec i q hi hq _ ih=>?_
  ·simp only [II,hq]
   rw [BS]
   exact Ok.some rfl
  ·simp only [II,hq]
   rw [BJ]
   refine Ok.bindE (cB h hi) (ih _ ?_ trivial)
   show IntKind.i64.wrap ((i:Int) + 1) = _
   rw [wr]; omega
 ·simp only [IG,hq]
  rw [BJ]
  refine Ok.idxn hi (Ok.bindE (Sr (h.list hi)).rcheck ?_)
  refine Ok.no rfl ?_
  refine Ok.for (fun s=>s) i (fun _ _=>True) 0 (Nat.zero_le _) rfl trivial (by omega) (fun rec2 q hq _=>?_) fun rec2 k q hk hq _ ih2=>?_
  ·simp only [IH,hq]
   rw [BS]
   refine ih _ ?_ trivial
   show IntKind.i64.wrap ((i:Int) + 1) = _
   rw [wr]; omega
  ·simp only [IH,hq]
   rw [BJ]
   refine Ok.idxn (by omega:k < s.Lists.length) (Ok.idxn hi ?_)
   obtain rfl:k = 0:=by omega
   obtain rfl:i = 1:=by omega
   have hn:=h.lname (by omega) (by omega)
   rw [hn.1,hn.2,Zq]
   refine ih2 _ ?_ trivial
   show IntKind.i64.wrap (((0:Nat):Int) + 1) = _
   rw [wr]; omega
theorem dZ {α:Type} (l:List α) {i:Nat} (hi:i≤l.length):Im l 0 (i:Int) = l.take i:=by simp [Im]
theorem cA {i:Nat} {c:A4} (h:dP i c):Ei c = some true:=by
 rcases h with ⟨rfl,rfl⟩ | ⟨h0,h | h⟩
 ·rfl
 ·obtain ⟨n,k,li,lo,hi,w,o⟩:=c
  obtain ⟨h1,h2,h3,h4,h5,h6⟩:=h
  simp only at h1 h2 h3 h4 h5 h6
  subst h1; subst h3; subst h4; subst h5; subst h6
  rfl
 ·unfold Ei
  rw [h.kind,h.list]
  rfl
theorem c8 (h:DS s) {i:Nat} (hi:i < s.Columns.length):Es s i = some 0:=by
 have hcol:=h.cl hi
 have hl:=h.lists2
 have hc:=h.cols_length
 refine Ok.val ?_
 unfold Es
 refine Ok.idxn hi (Ok.bindE (h.name hi).2 (Ok.gdd (by omega) ?_))
 rw [dZ _ (by omega)]
 refine Ok.bindE (ZA (fun a=>a.Name.toList==s.Columns[i].Name.toList) (fun x _=>rfl) (by simp; omega)) ?_
 have:(s.Columns.take i).any (fun a=>a.Name.toList==s.Columns[i].Name.toList) = false:=by
  rw [List.any_eq_false]
  intro x hx
  obtain ⟨k,hk,rfl⟩:=List.mem_iff_getElem.1 hx
  have hki:k < i:=by simp at hk; omega
  rw [List.getElem_take,(h.name_ne hi hki).1]
  simp
 rw [this]
 show Ok (bif (s.Columns[i].Kind==1) then _ else _) _
 have fin:Ok ((Ei s.Columns[i]).bind fun x49=>bif (!x49) then some 11 else some 0) (· = (0:Int)):=Ok.bindE (cA hcol) (Ok.some rfl)
 rcases hcol with ⟨rfl,e⟩ | ⟨h0,h1 | h1⟩
 ·rw [e]; rw [e] at fin; exact fin
 ·rw [h1.kind]
  have:(bif decide (s.Columns[i].List_ < 0) then true else decide (s.Columns[i].List_ ≥ ((s.Lists.length:Nat):Int))) = false:=by
   rcases h1.list with e | e <;> (rw [e,hl]; rfl)
  show Ok (bif (bif decide (s.Columns[i].List_ < 0) then true else decide (s.Columns[i].List_ ≥ ((s.Lists.length:Nat):Int))) then _ else _) _
  rw [this]
  exact fin
 ·rw [h1.kind]
  exact Ok.bindE (bH h1) fin
theorem DS.check (h:DS s):Cp s = some 0:=by
 have hl:=h.lists2
 have hc:=h.cols_length
 refine Ok.val ?_
 unfold Cp
 rw [df,df]
 simp only [Bool.not_true,Bool.not_false,cond_true,cond_false]
 refine Ok.for (fun s=>s) s.Lists.length (fun _ _=>True) 0 (Nat.zero_le _) rfl trivial (by omega) (fun rec q hq _=>?_) fun rec i q hi hq _ ih=>?_
 ·simp only [H6,hq]
  rw [BS]
  unfold H8
  have e0:(((s.Columns.length:Nat):Int)==0) = false:=by rw [beq_eq_false_iff_ne]; omega
  rw [e0]
  show Ok ((idx s.Columns 0).bind _) _
  refine Ok.idxn (i:=0) (by omega) ?_
  rw [h.col0]
  refine Ok.no rfl ?_
  refine Ok.for (fun s=>s) s.Columns.length (fun _ _=>True) 0 (Nat.zero_le _) rfl trivial (by omega) (fun rec q hq _=>?_) fun rec i q hi hq _ ih=>?_
  ·simp only [H7,hq]
   rw [BS]
   exact Ok.some rfl
  ·simp only [H7,hq]
   rw [BJ]
   refine Ok.bindE (c8 h hi) (ih _ ?_ trivial)
   show IntKind.i64.wrap ((i:Int) + 1) = _
   rw [wr]; omega
 ·simp only [H6,hq]
  rw [BJ]
  refine Ok.idxn hi (Ok.bindE (Sr (h.list hi)).check ?_)
  show Ok (bif decide _ then _ else none) _
  refine Ok.gdd (by omega) ?_
  rw [dZ _ (by omega)]
  refine Ok.bindE (WO (fun a=>a.Name.toList==s.Lists[i].Name.toList) (fun x _=>rfl) (by simp; omega)) ?_
  have:(s.Lists.take i).any (fun a=>a.Name.toList==s.Lists[i].Name.toList) = false:=by
   rw [List.any_eq_false]
   intro x hx
   obtain ⟨k,hk,rfl⟩:=List.mem_iff_getElem.1 hx
   have hki:k < i:=by simp at hk; omega
   obtain rfl:k = 0:=by omega
   obtain rfl:i = 1:=by omega
   have hn:=h.lname (by omega) (by omega)
   rw [List.getElem_take,hn.1,hn.2,Zq]
   simp
  rw [this]
  refine ih _ ?_ trivial
  show IntKind.i64.wrap ((i:Int) + 1) = _
  rw [wr]; omega
end Go.Proofs.YtjghjdokjgcehaaGreatDoor.P
namespace Go.Proofs.YtjghjdokjgcehaaGreatDoor.P
open Go Go.Abs Go.Proofs
set_option maxRecDepth 100000
variable {s:Ae}
theorem Ip {i:Nat} (h:i≤1000000000000:=by omega):IntKind.i64.wrap ((i:Int) + 1) = ((i + 1:Nat):Int):=by rw [wr]; omega
def H2:Int:=-1099511627776
def cZ (s:Ae) (c:A4) (v:Int):Prop :=
 (c.Kind = 1∧1≤v∧v≤1000)∨(c.Kind = 2∧∃ L,L∈Z1∧idx s.Lists c.List_ = some L∧v∈GL L)∨(c.Kind = 3∧((c.Low≤v∧v≤c.High)∨(c.Optional = true∧v = H2)))
def YO (s:Ae) (r:List Int):Prop:=r.length = s.Columns.length∧∀ (i:Nat) c v,s.Columns[i]? = some c→r[i]? = some v→cZ s c v
theorem DS.clist (h:DS s) {c:A4} (hc:Kj c):∃ L,L∈Z1∧idx s.Lists c.List_ = some L:=by
 have hl:=h.lists2
 rcases hc.list with e | e
 ·have h0:0 < s.Lists.length:=by omega
  exact ⟨_,h.list h0,by rw [e]; exact CK (i:=0) h0⟩
 ·have h1:1 < s.Lists.length:=by omega
  exact ⟨_,h.list h1,by rw [e]; exact CK (i:=1) h1⟩
def hd (r:List Int):Int:=r.headD 0
theorem Wm {r:List Int} (h:r≠[]):idx r 0 = some (hd r):=by
 cases r with
 | nil=>exact absurd rfl h
 | cons a q=>rfl
def fq (l:List (List Int)):Prop:=l.Pairwise fun a b=>hd a < hd b
theorem YO.ne (h:DS s) {r:List Int} (hr:YO s r):r≠[]:=by
 intro e
 have:=hr.1
 have:=h.cols_length
 rw [e] at *
 simp at *
 omega
end Go.Proofs.YtjghjdokjgcehaaGreatDoor.P
namespace Go.Proofs.YtjghjdokjgcehaaGreatDoor.P
open Go Go.Abs Go.Proofs
set_option maxRecDepth 100000
variable {s:Ae}
abbrev DD:Nat:=60
def WH:Aj:={ Op:=1,Column:=0,Code:=0,Low:=0,High:=0,Kids:=[] }
def IU:Aj:={ Op:=0,Column:=0,Code:=0,Low:=0,High:=0,Kids:=[] }
def ZN (s:Ae) (c:A4):Int:=if c.Kind = 2 then Ku ((idx s.Lists c.List_).getD { Name:=Ub,Codes:=[] }) - 1 else c.Widths.length
def fin (s:Ae) (i:Nat):Int:=ZN s (s.Columns[i]?.getD dO)
theorem TF {i:Nat} (hi:i < s.Columns.length):fin s i = ZN s s.Columns[i]:=by unfold fin; rw [List.getElem?_eq_getElem hi]; rfl
theorem Mf {c:A4} (h:Gp c):1≤c.Widths.length∧c.Widths.length≤4:=by rcases b9 h.widths with e | e | e | e <;> (rw [e]; decide)
theorem OO {c:A4} (h:Kj c) {L:Ay} (hL:idx s.Lists c.List_ = some L):ZN s c = Ku L - 1:=by unfold ZN; rw [if_pos h.kind,hL]; rfl
theorem OP {c:A4} (h:Gp c):ZN s c = c.Widths.length:=by unfold ZN; rw [if_neg (by rw [h.kind]; decide)]
theorem DS.fin_ok (h:DS s) {i:Nat} (h0:1≤i) (hi:i < s.Columns.length):1≤fin s i∧fin s i≤4:=by
 rw [TF hi]
 rcases h.col h0 hi with h1 | h1
 ·obtain ⟨L,hL,hL2⟩:=h.clist h1
  have:=Sr hL
  rw [OO h1 hL2]
  have:=this.lev2; have:=(Sr hL).lev3
  omega
 ·have:=Mf h1
  rw [OP h1]
  omega
theorem DS.rfinest (h:DS s) {i:Nat} (h0:1≤i) (hi:i < s.Columns.length):EQ s i = some (fin s i):=by
 have hc:=h.cols_length
 unfold EQ
 rw [h.rcheck,Option.bind_some,df,df]
 show (idx s.Columns (i:Int)).bind _ = _
 rw [CK hi,Option.bind_some,TF hi]
 rcases h.col h0 hi with h1 | h1
 ·obtain ⟨L,hL,hL2⟩:=h.clist h1
  have:=Sr hL
  have h2:=this.lev2; have h3:=this.lev3
  rw [h1.kind,OO h1 hL2]
  show (idx s.Lists _).bind _ = _
  rw [hL2,Option.bind_some,this.rlev,Option.bind_some,wr]
 ·rw [h1.kind,OP h1]; rfl
theorem DS.pfinest (h:DS s) {i:Nat} (h0:1≤i) (hi:i < s.Columns.length):Eg s i = some (fin s i):=by
 have hc:=h.cols_length
 unfold Eg
 rw [df,df]
 show (idx s.Columns (i:Int)).bind _ = _
 rw [CK hi,Option.bind_some,TF hi]
 rcases h.col h0 hi with h1 | h1
 ·obtain ⟨L,hL,hL2⟩:=h.clist h1
  have:=Sr hL
  have h2:=this.lev2; have h3:=this.lev3
  rw [h1.kind,OO h1 hL2]
  show (idx s.Lists _).bind _ = _
  rw [hL2,Option.bind_some,this.lev,Option.bind_some,wr]
 ·rw [h1.kind,OP h1]; rfl
def fk:Az:={ Name:=({ data:=#[113] }:ByteArray),Kind:=1,Filter:=WH,Dims:=[({ Column:=1,Level:=0 }:Aw)],Measure:=(-1),Terms:=[],Event:=IU }
def eX:A3:={ Project:=({ data:=#[97,108,108,95,114,111,119,115] }:ByteArray),Source:=({ data:=#[115,114,99] }:ByteArray),Cohort:=WH,Sample:=({ Part:=1,Of:=1,Seed:=0 }:OJ),Questions:=[fk] }
def aN (s:Ae):List Aw:=(List.range (s.Columns.length - 1)).map fun k=>{ Column:=((k + 1:Nat):Int),Level:=fin s (k + 1) }
end Go.Proofs.YtjghjdokjgcehaaGreatDoor.P
namespace Go.Proofs.YtjghjdokjgcehaaGreatDoor.P
open Go Go.Abs Go.Proofs
set_option maxRecDepth 100000
variable {s:Ae}
theorem YO.hd (h:DS s) {r:List Int} (hr:YO s r):1≤hd r∧hd r≤1000:=by
 have hc:=h.cols_length
 have h0:0 < s.Columns.length:=by omega
 have h1:0 < r.length:=by rw [hr.1]; exact h0
 have:=hr.2 0 dO r[0] (by rw [List.getElem?_eq_getElem h0,h.col0]) (List.getElem?_eq_getElem h1)
 have e:P.hd r = r[0]:=by cases r with | nil=>simp at h1 | cons a q=>rfl
 rw [e]
 rcases this with ⟨_,h2,h3⟩ | ⟨hk,_⟩ | ⟨hk,_⟩
 ·exact ⟨h2,h3⟩
 ·exact absurd hk (by decide)
 ·exact absurd hk (by decide)
def dz (s:Ae) (r:List Int):Prop:=r.length = s.Columns.length∧0≤hd r∧hd r≤1048575∧∀ (i:Nat) c v,1≤i→s.Columns[i]? = some c→r[i]? = some v→cZ s c v
structure fJ (s:Ae) (x:Bn) (n:Nat):Prop where
 project:x.Project = eX.Project
 version:x.Version = 0
 picks:x.Picks = aN s
 rows:∀ r∈x.Rows,dz s r
 asc:fq x.Rows
 len:x.Rows.length≤n
theorem dz.ne (h:DS s) {r:List Int} (hr:dz s r):r≠[]:=by
 intro e
 have h1:=hr.1
 have:=h.cols_length
 rw [e] at h1
 simp at h1
 omega
end Go.Proofs.YtjghjdokjgcehaaGreatDoor.P
namespace Go.Proofs.YtjghjdokjgcehaaGreatDoor.P
open Go Go.Abs Go.Proofs
set_option maxRecDepth 100000
variable {s:Ae}
def Mg (c:A4) (l:Int):Int:=c.Widths.getD ((c.Widths.length:Int) - l).toNat 1
theorem cU {c:A4} (h:Gp c) {l:Int} (h0:1≤l) (h1:l≤c.Widths.length):idx c.Widths (IntKind.i64.wrap (((c.Widths.length:Nat):Int) - l)) = some (Mg c l):=by
 have hl:=Mf h
 rw [wr,OT (by omega) (by omega)]
 unfold Mg
 rw [List.getD_eq_getElem?_getD,List.getElem?_eq_getElem (by omega:((c.Widths.length:Int) - l).toNat < c.Widths.length)]
 rfl
theorem dI {c:A4} (h:Gp c) {l:Int} (h0:1≤l) (h1:l≤c.Widths.length):FV c l = some (Mg c l):=by unfold FV; rw [cU h h0 h1]; rfl
theorem Z0 {c:A4} (h:Gp c) {a b:Int} (hb:1≤b) (hab:b≤a) (ha:a≤c.Widths.length) :
 (Mg c a,Mg c b)∈[((1:Int),(1:Int)),(1,5),(5,5),(1,20),(5,20),(20,20),(1,2),(2,2),(1,4),(2,4),(4,4),(1,12),(2,12),(4,12),(12,12)]:=by
 unfold Mg
 rcases b9 h.widths with e | e | e | e
 ·rw [e] at ha ⊢
  obtain ⟨rfl,rfl⟩:a = 1∧b = 1:=by simp at ha; omega
  decide
 ·rw [e] at ha ⊢
  have ha:a≤2:=by simpa using ha
  rcases (by omega:(a = 1∧b = 1)∨(a = 2∧b = 1)∨(a = 2∧b = 2)) with ⟨rfl,rfl⟩ | ⟨rfl,rfl⟩ | ⟨rfl,rfl⟩ <;> decide
 ·rw [e] at ha ⊢
  have ha:a≤3:=by simpa using ha
  rcases (by omega:(a = 1∧b = 1)∨(a = 2∧b = 1)∨(a = 2∧b = 2)∨(a = 3∧b = 1)∨(a = 3∧b = 2)∨(a = 3∧b = 3)) with ⟨rfl,rfl⟩ | ⟨rfl,rfl⟩ | ⟨rfl,rfl⟩ | ⟨rfl,rfl⟩ | ⟨rfl,rfl⟩ | ⟨rfl,rfl⟩ <;> decide
 ·rw [e] at ha ⊢
  have ha:a≤4:=by simpa using ha
  rcases (by omega:(a = 1∧b = 1)∨(a = 2∧b = 1)∨(a = 2∧b = 2)∨(a = 3∧b = 1)∨(a = 3∧b = 2)∨(a = 3∧b = 3)∨(a = 4∧b = 1)∨(a = 4∧b = 2)∨(a = 4∧b = 3)∨(a = 4∧b = 4)) with ⟨rfl,rfl⟩ | ⟨rfl,rfl⟩ | ⟨rfl,rfl⟩ | ⟨rfl,rfl⟩ | ⟨rfl,rfl⟩ | ⟨rfl,rfl⟩ | ⟨rfl,rfl⟩ | ⟨rfl,rfl⟩ | ⟨rfl,rfl⟩ | ⟨rfl,rfl⟩ <;> decide
theorem VE {c:A4} (h:Gp c) {l:Int} (h0:1≤l) (h1:l≤c.Widths.length):1≤Mg c l∧Mg c l≤20:=by
 have:=Z0 h h0 (Int.le_refl l) h1
 generalize Mg c l = x at *
 simp only [List.mem_cons,List.not_mem_nil,or_false,Prod.mk.injEq] at this
 omega
theorem YL (n:Int) {w:Int} (hw:1≤w):(Int.tmod n w = n % w∧0≤Int.tmod n w)∨(Int.tmod n w = n % w - w∧Int.tmod n w < 0):=by
 have h1:=Int.emod_nonneg n (by omega:w≠0)
 have h2:=Int.emod_lt_of_pos n (by omega:0 < w)
 rw [Int.tmod_eq_emod]
 split
 ·left; omega
 ·right
  have:(w.natAbs:Int) = w:=by omega
  omega
theorem cq {n w:Int} (hw:1≤w) (hw2:w≤1000000) (h0:-100000000≤n) (h1:n≤100000000):Ef n w = some (n - n % w):=by
 have h3:=Int.emod_nonneg n (by omega:w≠0)
 have h4:=Int.emod_lt_of_pos n (by omega:0 < w)
 unfold Ef
 rw [BJ]
 rcases YL n hw with ⟨e,h⟩ | ⟨e,h⟩
 ·rw [BS,e,wr]
 ·rw [BJ h,e,wr (n:=n % w - w + w) (by omega) (by omega),wr]
  congr 1; omega
def mv (c:A4) (l v:Int):Int:=if l = 0 then 0 else if v = H2 then H2 else v - v % Mg c l
def MV (c:A4) (v:Int):Prop:=(c.Low≤v∧v≤c.High)∨(c.Optional = true∧v = H2)
theorem cZ.meas {c:A4} (h:Gp c) {v:Int} (hv:cZ s c v):MV c v:=by
 rcases hv with ⟨hk,_⟩ | ⟨hk,_⟩ | ⟨_,hv⟩
 ·rw [h.kind] at hk; cases hk
 ·rw [h.kind] at hk; cases hk
 ·exact hv
theorem X9 {c:A4} (h:Gp c) {l v:Int} (h0:1≤l) (h1:l≤c.Widths.length) (hv:c.Low≤v∧v≤c.High):mv c l v = v - v % Mg c l∧0≤v % Mg c l∧v % Mg c l < Mg c l∧mv c l v≠H2∧-4≤v∧v≤46:=by
 have hw:=VE h h0 h1
 obtain ⟨a1,a2⟩:=h.low
 obtain ⟨a3,a4⟩:=h.high
 have h3:=Int.emod_nonneg v (by omega:Mg c l≠0)
 have h4:=Int.emod_lt_of_pos v (by omega:0 < Mg c l)
 have e:mv c l v = v - v % Mg c l:=by
  unfold mv
  rw [if_neg (by omega),if_neg (by unfold H2; omega)]
 exact ⟨e,h3,h4,by rw [e]; unfold H2; omega,by omega,by omega⟩
def fy (c:A4) (l v:Int):Int:=if l = 0 then c.Low else max c.Low (v - v % Mg c l)
def fx (c:A4) (l v:Int):Int:=if l = 0 then c.High else min c.High (v - v % Mg c l + Mg c l - 1)
theorem eF {c:A4} (h:Gp c) {l v:Int} (h0:0≤l) (h1:l≤c.Widths.length) (hv:c.Low≤v∧v≤c.High):Ij c l (mv c l v) = some (fy c l v,fx c l v,true):=by
 obtain ⟨a1,a2⟩:=h.low
 obtain ⟨a3,a4⟩:=h.high
 unfold Ij fy fx
 by_cases hz:l = 0
 ·subst hz; rfl
 ·have hm:=X9 h (l:=l) (v:=v) (by omega) h1 hv
  have hw:=VE h (l:=l) (by omega) h1
  have hb:(mv c l v) % Mg c l = 0:=by
   rw [hm.1]
   have:=Int.emod_add_mul_ediv v (Mg c l)
   have e:v - v % Mg c l = Mg c l * (v / Mg c l):=by omega
   rw [e]; exact Int.mul_emod_right _ _
  have e0:(l==0) = false:=by simpa using hz
  rw [e0,hm.1,if_neg hz,if_neg hz]
  rw [hm.1] at hb
  simp only [cond_false]
  rw [df,df]
  simp only [cond_false]
  rw [dI h (by omega) h1,Option.bind_some,cq hw.1 (by omega) (by omega) (by omega),hb,Option.bind_some,wr (n:=v - v % Mg c l + Mg c l) (by omega) (by omega),wr,Int.sub_zero,beq_self_eq_true]
  simp only [cond_true]
  have e1:(if c.Low > v - v % Mg c l then c.Low else v - v % Mg c l) = max c.Low (v - v % Mg c l):=by split <;> omega
  have e2:(if c.High < v - v % Mg c l + Mg c l - 1 then c.High else v - v % Mg c l + Mg c l - 1) = min c.High (v - v % Mg c l + Mg c l - 1):=by split <;> omega
  rw [e1,e2,dt]
theorem Y4:H2 = -1099511627776:=rfl
theorem c9 {i:Nat} (hi:i < s.Columns.length) (h:Gp s.Columns[i]) {l v:Int} (h0:0≤l) (h1:l≤s.Columns[i].Widths.length) (hv:MV s.Columns[i] v):∃ u,Dd s i l (mv s.Columns[i] l v) = some (u,true):=by
 refine Exists.elim (?_:Ok (Dd s i l (mv s.Columns[i] l v)) fun r=>r.2 = true) fun r hr=>⟨r.1,by rw [hr.1,← hr.2]⟩
 unfold Dd
 refine Ok.idxn hi (Ok.yes (by rw [h.kind]; rfl) (Ok.br (fun hc=>Ok.some ?_) fun hc=>?_))
 ·by_cases hz:0 < l
  ·rw [dt] at hc
   have hc:mv s.Columns[i] l v = H2:=by rw [Y4]; simpa using hc
   rcases hv with hv | hv
   ·exact absurd hc (X9 h (by omega) h1 hv).2.2.2.1
   ·exact hv.1
  ·rw [df] at hc; cases hc
 ·have hv2:(s.Columns[i].Low≤v∧v≤s.Columns[i].High)∨(l = 0):=by
   rcases hv with hv | ⟨_,rfl⟩
   ·exact .inl hv
   ·right
    by_cases hz:0 < l
    ·rw [dt] at hc
     have e:mv s.Columns[i] l H2 = H2:=by unfold mv; rw [if_neg (by omega),if_pos rfl]
     rw [e] at hc
     cases hc
    ·omega
  rcases hv2 with hv | rfl
  ·exact Ok.bindE (eF h h0 h1 hv) (Ok.some rfl)
  ·exact Ok.bindE (x:=(s.Columns[i].Low,s.Columns[i].High,true)) rfl (Ok.some rfl)
end Go.Proofs.YtjghjdokjgcehaaGreatDoor.P
namespace Go.Proofs.YtjghjdokjgcehaaGreatDoor.P
open Go Go.Abs Go.Proofs
set_option maxRecDepth 100000
variable {s:Ae}
def XJ (L:Ay) (l v:Int):Option (Int × Bool):=iter (fun rec1 s=>Ln (GL L) L l v (fun v56_1=>some (0,false)) rec1 s) AO 0
def cv (L:Ay) (l v:Int):Int:=(Ot L v l).getD 0
theorem WT:(Z1.all fun L=>(List.range (Ku L).toNat).all fun l=>(XJ L (l:Int) 0).isSome && (GL L).all fun v=>Ot L v l==some (cv L l v) && G4 L v l==some (cv L l v) && decide (0≤cv L l v) && ((XJ L l (cv L l v)).map (·.2)==some true)) = true:=by decide +kernel
theorem Yc {L:Ay} (h:L∈Z1) {l:Int} (h0:0≤l) (h1:l < Ku L):(∃ r,XJ L l 0 = some r)∧∀ v∈GL L,Ot L v l = some (cv L l v)∧G4 L v l = some (cv L l v)∧0≤cv L l v∧∃ u,XJ L l (cv L l v) = some (u,true):=by
 have:=List.all_eq_true.1 (List.all_eq_true.1 WT L h) l.toNat (List.mem_range.2 (by omega))
 rw [Int.toNat_of_nonneg h0] at this
 simp only [Bool.and_eq_true,List.all_eq_true,beq_iff_eq,decide_eq_true_eq,Option.isSome_iff_exists] at this
 refine ⟨this.1,fun v hv=>?_⟩
 obtain ⟨⟨⟨a,b⟩,c⟩,d⟩:=this.2 v hv
 obtain ⟨r,hr,hr2⟩:=Option.map_eq_some_iff.1 d
 exact ⟨a,b,c,r.1,by rw [hr,← hr2]⟩
def CV (s:Ae) (c:A4) (l v:Int):Int:=if c.Kind = 2 then cv ((idx s.Lists c.List_).getD { Name:=Ub,Codes:=[] }) l v else mv c l v
theorem bZ {c:A4} (h:Kj c) {L:Ay} (hL:idx s.Lists c.List_ = some L) (l v:Int):CV s c l v = cv L l v:=by unfold CV; rw [if_pos h.kind,hL]; rfl
theorem ca {c:A4} (h:Gp c) (l v:Int):CV s c l v = mv c l v:=by unfold CV; rw [if_neg (by rw [h.kind]; decide)]
theorem cZ.code {c:A4} (h:Kj c) {L:Ay} (hL:idx s.Lists c.List_ = some L) {v:Int} (hv:cZ s c v):v∈GL L:=by
 rcases hv with ⟨hk,_⟩ | ⟨_,L',_,hL',hv⟩ | ⟨hk,_⟩
 ·rw [h.kind] at hk; cases hk
 ·rw [hL] at hL'; cases hL'; exact hv
 ·rw [h.kind] at hk; cases hk
theorem ap {i:Nat} (hi:i < s.Columns.length) (h:Kj s.Columns[i]) {L:Ay} (hL:L∈Z1) (hL2:idx s.Lists s.Columns[i].List_ = some L) (l v:Int):Dd s i l v = XJ L l v:=by
 have hc:=Sr hL
 have h2:=hc.lev2; have h3:=hc.lev3
 unfold Dd
 rw [CK hi,Option.bind_some,h.kind]
 show (idx s.Lists _).bind _ = _
 rw [hL2,Option.bind_some,hc.lev,Option.bind_some,wr,hc.leaves]
 rfl
theorem eE (hs:DS s) {i:Nat} (h0:1≤i) (hi:i < s.Columns.length) {l v:Int} (hl0:0≤l) (hl1:l≤fin s i) (hv:cZ s s.Columns[i] v):∃ u,Dd s i l (CV s s.Columns[i] l v) = some (u,true):=by
 rcases hs.col h0 hi with h1 | h1
 ·obtain ⟨L,hL,hL2⟩:=hs.clist h1
  have hf:fin s i = Ku L - 1:=by rw [TF hi,OO h1 hL2]
  rw [bZ h1 hL2,ap hi h1 hL hL2]
  exact ((Yc hL (l:=l) hl0 (by omega)).2 v (hv.code h1 hL2)).2.2.2
 ·have hf:fin s i = s.Columns[i].Widths.length:=by rw [TF hi,OP h1]
  rw [ca h1]
  exact c9 hi h1 hl0 (by omega) (hv.meas h1)
def eS (s:Ae) (p:Aw):Prop:=∃ i:Nat,1≤i∧i < s.Columns.length∧p.Column = i∧0≤p.Level∧p.Level≤fin s i
def XV (s:Ae) (p:Aw) (v:Int):Prop:=∃ (i:Nat) (hi:i < s.Columns.length) (w:Int),1≤i∧p.Column = i∧cZ s s.Columns[i] w∧v = CV s s.Columns[i] p.Level w
structure GX (s:Ae) (x:Bn):Prop where
 project:Be x.Project = some true∧BO x.Project = some true
 version:0≤x.Version∧x.Version≤300
 picks:∀ p∈x.Picks,eS s p
 order:x.Picks.Pairwise fun a b=>a.Column < b.Column
 rows:∀ r∈x.Rows,r.length = x.Picks.length + 1∧0≤hd r∧hd r≤1048575∧∀ (k:Nat) p v,x.Picks[k]? = some p→r[k + 1]? = some v→XV s p v
 asc:fq x.Rows
 len:x.Rows.length≤200
theorem GX.picks_len {x:Bn} (hs:DS s) (h:GX s x):x.Picks.length≤6:=by
 have hc:=hs.cols_length
 have key:∀ (k:Nat) (hk:k < x.Picks.length),(k:Int) + 1≤x.Picks[k].Column:=by
  intro k
  induction k with
  | zero=>intro hk; obtain ⟨i,h1,_,h2,_⟩:=h.picks _ (List.getElem_mem hk); rw [h2]; omega
  | succ k ih =>
    intro hk
    have:=ih (by omega)
    have h2:=(List.pairwise_iff_getElem.1 h.order) k (k + 1) (by omega) hk (by omega)
    omega
 rcases Nat.lt_or_ge x.Picks.length 7 with h7 | h7
 ·omega
 ·have:=key 6 (by omega)
  obtain ⟨i,h1,h2,h3,_⟩:=h.picks _ (List.getElem_mem (by omega:6 < x.Picks.length))
  omega
theorem eC {p:Aw} (hs:DS s) (h:eS s p):Eh s p = some 0:=by
 obtain ⟨i,h0,hi,hp,hl0,hl1⟩:=h
 have hf:=hs.fin_ok h0 hi
 refine Ok.val ?_
 unfold Eh
 rw [hp]
 refine Ok.bindE (hs.pfinest h0 hi) (Ok.brd (fun h=>by omega) fun _=>Ok.no ?_ (Ok.some rfl))
 rw [df,df]; rfl
theorem dH {l:List Aw} (hs:DS s) (h:∀ p∈l,eS s p) (ho:l.Pairwise fun a b=>a.Column < b.Column) (hl:l.length≤1000):GR s l = some 0:=by
 refine Ok.val ?_
 unfold GR
 refine Ok.bindE hs.check (Ok.no rfl ?_)
 refine Ok.for (fun q=>q) l.length (fun _ _=>True) 0 (Nat.zero_le _) rfl trivial (by omega) (fun rec q hq _=>?_) fun rec i q hi hq _ ih=>?_
 ·simp only [HA,hq]
  rw [BS]
  exact Ok.some rfl
 ·simp only [HA,hq]
  rw [BJ]
  refine Ok.idxn hi (Ok.bindE (eC hs (h _ (List.getElem_mem hi))) (Ok.no rfl (Ok.brd (fun h1=>?_) fun _=>ih _ Ip trivial)))
  have e:IntKind.i64.wrap ((i:Int) - 1) = ((i - 1:Nat):Int):=by rw [wr]; omega
  rw [e]
  have:=(List.pairwise_iff_getElem.1 ho) (i - 1) i (by omega) hi (by omega)
  exact Ok.idxn (by omega:i - 1 < l.length) (Ok.brd (fun h2=>by omega) fun _=>ih _ Ip trivial)
theorem GX.atP {x:Bn} (hs:DS s) (h:GX s x) {r:List Int} (hr:r∈x.Rows) {k:Nat} (hk:k < x.Picks.length) (hk2:k + 1 < r.length) :
 ∃ u,Dd s x.Picks[k].Column x.Picks[k].Level r[k + 1] = some (u,true):=by
 obtain ⟨i,hi,w,h0,hp,hw,e⟩:=(h.rows r hr).2.2.2 k _ _ (List.getElem?_eq_getElem hk) (List.getElem?_eq_getElem hk2)
 obtain ⟨i',h0',hi',hp',hl0,hl1⟩:=h.picks _ (List.getElem_mem hk)
 have:i' = i:=by rw [hp] at hp'; omega
 subst this
 rw [e,hp]
 exact eE hs h0 hi hl0 hl1 hw
theorem GX.ne {x:Bn} (h:GX s x) {r:List Int} (hr:r∈x.Rows):r≠[]:=by
 intro e
 have:=(h.rows r hr).1
 rw [e] at this
 simp at this
theorem eB {x:Bn} (hs:DS s) (h:GX s x) {r:List Int} (hr:r∈x.Rows):I7 s x.Picks r = some true:=by
 have hl:=h.picks_len hs
 obtain ⟨h1,h2,h3,_⟩:=h.rows r hr
 refine Ok.val ?_
 unfold I7
 refine Ok.no ?_ (Ok.bindE (Wm (h.ne hr)) (Ok.brd (fun h=>by omega) fun _=>Ok.bindE (Wm (h.ne hr)) (Ok.brd (fun h=>by omega) fun _=>?_)))
 ·rw [wr,h1]; simp
 unfold Hy
 refine Ok.for (fun q=>q) x.Picks.length (fun _ _=>True) 0 (Nat.zero_le _) rfl trivial (by omega) (fun rec q hq _=>?_) fun rec i q hi hq _ ih=>?_
 ·simp only [Hx,hq]
  rw [BS]
  exact Ok.some rfl
 ·simp only [Hx,hq]
  rw [BJ]
  have hi2:i + 1 < r.length:=by omega
  obtain ⟨u,hu⟩:=h.atP hs hr hi hi2
  refine Ok.idxn hi ?_
  rw [Ip]
  exact Ok.idxn hi2 (Ok.bindE hu (Ok.no rfl (ih _ rfl trivial)))
theorem GX.check {x:Bn} (hs:DS s) (h:GX s x):Gl s x = some 0:=by
 have hl:=h.len
 have hpl:=h.picks_len hs
 have hv:=h.version
 refine Ok.val ?_
 unfold Gl
 refine Ok.bindE hs.check (Ok.no rfl (Ok.bindE h.project.2 (Ok.no rfl (Ok.no ?_ (Ok.bindE (dH hs h.picks h.order (by omega)) (Ok.no rfl (Ok.brd (fun h=>by omega) fun _=>?_)))))))
 ·rw [df,df]; rfl
 refine Ok.for (fun q=>q) x.Rows.length (fun _ _=>True) 0 (Nat.zero_le _) rfl trivial (by omega) (fun rec q hq _=>?_) fun rec i q hi hq _ ih=>?_
 ·simp only [GI,hq]
  rw [BS]
  exact Ok.some rfl
 ·simp only [GI,hq]
  rw [BJ]
  refine Ok.idxn hi (Ok.bindE (eB hs h (List.getElem_mem hi)) (Ok.no rfl (Ok.brd (fun h1=>?_) fun _=>ih _ Ip trivial)))
  have e:IntKind.i64.wrap ((i:Int) - 1) = ((i - 1:Nat):Int):=by rw [wr]; omega
  rw [e]
  have hi3:i - 1 < x.Rows.length:=by omega
  have hlt:=(List.pairwise_iff_getElem.1 h.asc) (i - 1) i hi3 hi (by omega)
  exact Ok.bindE (Wm (h.ne (List.getElem_mem hi))) (Ok.idxn hi3 (Ok.bindE (Wm (h.ne (List.getElem_mem hi3))) (Ok.brd (fun h2=>by omega) fun _=>ih _ Ip trivial)))
end Go.Proofs.YtjghjdokjgcehaaGreatDoor.P
namespace Go.Proofs.YtjghjdokjgcehaaGreatDoor.P
open Go Go.Abs Go.Proofs
set_option maxRecDepth 100000
variable {s:Ae}
theorem aj {i:Nat} (hi:i < s.Columns.length) (h:Gp s.Columns[i]):Bj s i = some true:=by
 unfold Bj
 rw [dt,dt]
 show (idx s.Columns (i:Int)).bind _ = _
 rw [CK hi,Option.bind_some,h.kind]
 rfl
theorem ck {l:List Aw} {p:Aw→Option Bool} (q:Aw→Bool) (hp:∀ x∈l,p x = some (q x)) (hl:l.length≤1000000000):AC l p = some (l.any q):=by
 unfold AC
 rw [show B1 l p = some (GW q l) from Mw hp hl,Option.bind_some,Mr]
end Go.Proofs.YtjghjdokjgcehaaGreatDoor.P
namespace Go.Proofs.YtjghjdokjgcehaaGreatDoor.P
open Go Go.Abs Go.Proofs
set_option maxRecDepth 100000
variable {s:Ae}
end Go.Proofs.YtjghjdokjgcehaaGreatDoor.P
namespace Go.Proofs.YtjghjdokjgcehaaGreatDoor.P
open Go Go.Abs Go.Proofs
set_option maxRecDepth 100000
variable {s:Ae}
def keep (w:Nat→Int) (n:Nat):List Nat:=(List.range n).filter fun j=>w j != H2
def ints (l:List Nat):List Int:=l.map fun j:Nat=>(j:Int)
theorem ZW {l:List Int} (hl:l.length≤1000000):Jt l l = some true:=by
 refine Ok.val ?_
 unfold Jt
 refine Ok.no (by simp) ?_
 refine Ok.for (fun q=>q) l.length (fun _ _=>True) 0 (Nat.zero_le _) rfl trivial (by omega) (fun rec q hq hI=>?_) fun rec k q hk hq hI ih=>?_
 ·simp only [JA,hq]
  rw [BS]
  exact Ok.some rfl
 ·simp only [JA,hq]
  rw [BJ]
  exact Ok.idxn hk (Ok.idxn hk (Ok.no (by simp) (ih _ Ip trivial)))
end Go.Proofs.YtjghjdokjgcehaaGreatDoor.P
namespace Go.Proofs.YtjghjdokjgcehaaGreatDoor.P
open Go Go.Abs Go.Proofs
set_option maxRecDepth 100000
variable {s:Ae}
theorem DS.last (h:DS s):∃ i:Nat,1≤i∧∃ hi:i < s.Columns.length,Gp s.Columns[i]:=by
 obtain ⟨j,ms,e,h1,h2,h3⟩:=h.cols
 have hc:=Kp j
 have hlen:s.Columns.length = (Ez j).length + ms.length:=by rw [e,List.length_append]
 refine ⟨(Ez j).length,by omega,by omega,?_⟩
 have hm:=(h3 0 (by omega)).1
 have e2:s.Columns[(Ez j).length]? = some (ms[0]'(by omega)):=by
  rw [e,List.getElem?_append_right (Nat.le_refl _),Nat.sub_self]
  exact List.getElem?_eq_getElem (by omega)
 rw [List.getElem?_eq_getElem (by omega)] at e2
 rw [Option.some.inj e2]
 exact hm
theorem Ty (hs:DS s):Ok (Ce s 3) fun l=>l≠[]∧l.length≤6∧∀ v∈l,∃ i:Nat,v = i∧1≤i∧∃ hi:i < s.Columns.length,Gp s.Columns[i]:=by
 have hc:=hs.cols_length
 unfold Ce
 refine Ok.for (fun q=>q.1) s.Columns.length (fun k q=>q.2.length≤k∧(∀ v∈q.2,∃ i:Nat,v = i∧1≤i∧∃ hi:i < s.Columns.length,Gp s.Columns[i])∧∀ (i:Nat) (hi:i < s.Columns.length),i < k→Gp s.Columns[i]→(i:Int)∈q.2) 0 (Nat.zero_le _) rfl
  ⟨Nat.le_refl _,(fun v hv=>by cases hv),fun i _ h=>by omega⟩ (by omega) (fun rec q hq hI=>?_) fun rec k q hk hq hI ih=>?_
 ·simp only [Da,hq]
  rw [BS]
  obtain ⟨i,_,hi,hm⟩:=hs.last
  exact Ok.some ⟨(fun e=>by have:=hI.2.2 i hi hi hm; rw [e] at this; cases this),by have:=hI.1; omega,hI.2.1⟩
 ·simp only [Da,hq]
  rw [BJ]
  have hI1:=hI.1
  refine Ok.idxn hk (Ok.br (fun e=>Ok.rm (by simp; omega) (ih _ Ip ⟨by simp; omega,fun v hv=>?_,fun j hj hjk hm=>?_⟩)) fun e=>ih _ Ip ⟨by show q.2.length≤k + 1; omega,hI.2.1,fun j hj hjk hm=>?_⟩)
  ·rcases List.mem_append.1 hv with hv | hv
   ·exact hI.2.1 v hv
   ·rw [List.mem_singleton] at hv
    have e:s.Columns[k].Kind = 3:=by simpa using e
    rcases hs.cl hk with ⟨_,h1⟩ | ⟨h0,h1 | h1⟩
    ·rw [h1] at e; cases e
    ·rw [h1.kind] at e; cases e
    ·exact ⟨k,hv,h0,hk,h1⟩
  ·show _∈q.2++[_]
   rcases Nat.lt_or_ge j k with h1 | h1
   ·exact List.mem_append_left _ (hI.2.2 j hj h1 hm)
   ·obtain rfl:j = k:=by omega
    exact List.mem_append_right _ (List.mem_singleton.2 rfl)
  ·rcases Nat.lt_or_ge j k with h1 | h1
   ·exact hI.2.2 j hj h1 hm
   ·obtain rfl:j = k:=by omega
    rw [hm.kind] at e
    cases e
theorem Og {c:Ag} (hc:Jy c) (hs:DS s):Ok (B7 c s) fun r=>Jy r.2∧∃ i:Nat,r.1 = i∧1≤i∧∃ hi:i < s.Columns.length,Gp s.Columns[i]:=by
 unfold B7
 refine Ok.bind (Ty hs) fun l hl=>?_
 have:l.length≠0:=fun e=>hl.1 (List.eq_nil_of_length_eq_zero e)
 have hl6:=hl.2.1
 refine Ok.bind (Fi hc (by omega) (by omega)) fun y hy=>Ok.idx hy.2.1 (by omega) (Ok.some ⟨hy.1,hl.2.2 _ (List.getElem_mem _)⟩)
end Go.Proofs.YtjghjdokjgcehaaGreatDoor.P
