/- LA -/
import GoSem.Core.Next
import Derived.Test.YtejfnieiaecpkaaGreatDoorM4
set_option linter.unusedVariables false
set_option linter.unusedSimpArgs false
namespace Go.Proofs.YtejfnieiaecpkaaGreatDoor.P
open Go Go.Proofs
def Ok {α:Type} (m:Option α) (Q:α→Prop):Prop:=∃ x,m = some x∧Q x
theorem Ok.some {α:Type} {x:α} {Q:α→Prop} (h:Q x):Ok (some x) Q:=⟨x,rfl,h⟩
theorem Ok.mono {α:Type} {m:Option α} {P Q:α→Prop} (h:Ok m P) (k:∀ x,P x→Q x):Ok m Q:=by
 obtain ⟨x,h1,h2⟩:=h
 exact ⟨x,h1,k x h2⟩
theorem Ok.bind {α β:Type} {m:Option α} {f:α→Option β} {P:α→Prop} {Q:β→Prop} (h:Ok m P) (k:∀ x,P x→Ok (f x) Q):Ok (m.bind f) Q:=by
 obtain ⟨x,h1,h2⟩:=h
 rw [h1]; exact k x h2
theorem Ok.eq {α:Type} {m:Option α} {x:α} (h:m = Option.some x):Ok m (· = x):=⟨x,h,rfl⟩
theorem Ok.val {α:Type} {m:Option α} {x:α} (h:Ok m (· = x)):m = Option.some x:=by
 obtain ⟨y,h1,rfl⟩:=h
 exact h1
theorem Ok.bindE {α β:Type} {m:Option α} {f:α→Option β} {x:α} {Q:β→Prop} (h:m = Option.some x) (k:Ok (f x) Q):Ok (m.bind f) Q:=by rw [h]; exact k
theorem Ok.gd {α:Type} {b:Bool} {x:Option α} {Q:α→Prop} (h:b = true) (k:Ok x Q):Ok (bif b then x else none) Q:=by rw [h]; exact k
theorem Ok.no {α:Type} {b:Bool} {x y:Option α} {Q:α→Prop} (h:b = false) (k:Ok y Q):Ok (bif b then x else y) Q:=by rw [h]; exact k
theorem Ok.yes {α:Type} {b:Bool} {x y:Option α} {Q:α→Prop} (h:b = true) (k:Ok x Q):Ok (bif b then x else y) Q:=by rw [h]; exact k
theorem Ok.gdd {α:Type} {p:Prop} [Decidable p] {x:Option α} {Q:α→Prop} (h:p) (k:Ok x Q):Ok (bif decide p then x else none) Q:=by rw [decide_eq_true h]; exact k
theorem Ok.br {α:Type} {b:Bool} {x y:Option α} {Q:α→Prop} (h1:b = true→Ok x Q) (h2:b = false→Ok y Q):Ok (bif b then x else y) Q:=by
 cases b
 ·exact h2 rfl
 ·exact h1 rfl
theorem Ok.brd {α:Type} {p:Prop} [Decidable p] {x y:Option α} {Q:α→Prop} (h1:p→Ok x Q) (h2:¬ p→Ok y Q):Ok (bif decide p then x else y) Q:=by
 by_cases h:p
 ·rw [decide_eq_true h]; exact h1 h
 ·rw [decide_eq_false h]; exact h2 h
theorem SV {α:Type} {l:List α} {i:Int} (h0:0≤i) (h:i.toNat < l.length):idx l i = some l[i.toNat]:=by
 unfold idx
 rw [if_pos h0,List.getElem?_eq_getElem h]
theorem BP {α:Type} {l:List α} {i:Nat} (h:i < l.length):idx l (i:Int) = some l[i]:=by
 unfold idx
 rw [if_pos (by omega),Int.toNat_natCast,List.getElem?_eq_getElem h]
theorem Ok.idx {α β:Type} {l:List α} {i:Int} {f:α→Option β} {Q:β→Prop} (h0:0≤i) (h:i.toNat < l.length) (k:Ok (f l[i.toNat]) Q):Ok ((P.idx l i).bind f) Q:=by
 rw [SV h0 h]; exact k
theorem Ok.idxn {α β:Type} {l:List α} {i:Nat} {f:α→Option β} {Q:β→Prop} (h:i < l.length) (k:Ok (f l[i]) Q):Ok ((P.idx l (i:Int)).bind f) Q:=by
 rw [BP h]; exact k
theorem Ok.iter {σ ρ:Type} {body:(σ→Option ρ)→σ→Option ρ} {Q:ρ→Prop} (I:σ→Prop) (μ:σ→Nat) (h:∀ rec s,I s→(∀ s',I s'→μ s' < μ s→Ok (rec s') Q)→Ok (body rec s) Q) :
 ∀ n s,I s→μ s < n→Ok (iter body n s) Q
 | 0,_,_,hn=>by omega
 | n + 1,s,hs,hn=>h _ s hs fun s' hs' hlt=>Ok.iter I μ h n s' hs' (by omega)
theorem Ok.loop {σ ρ:Type} {body:(σ→Option ρ)→σ→Option ρ} {Q:ρ→Prop} {s:σ} (I:σ→Prop) (μ:σ→Nat) (hs:I s) (hμ:μ s < A8) (h:∀ rec s,I s→(∀ s',I s'→μ s' < μ s→Ok (rec s') Q)→Ok (body rec s) Q):Ok (P.iter body A8 s) Q:=Ok.iter I μ h A8 s hs hμ
theorem Ok.for {σ ρ:Type} {body:(σ→Option ρ)→σ→Option ρ} {Q:ρ→Prop} {s:σ} (ix:σ→Int) (len:Nat) (I:Nat→σ→Prop) (k:Nat) (hk:k≤len) (h0:ix s = k) (hI:I k s) (hlen:len≤1000000000000)
 (hend:∀ rec s,ix s = (len:Int)→I len s→Ok (body rec s) Q)
 (hstep:∀ rec (i:Nat) s,i < len→ix s = (i:Int)→I i s→(∀ s',ix s' = ((i + 1:Nat):Int)→I (i + 1) s'→Ok (rec s') Q)→Ok (body rec s) Q):Ok (P.iter body A8 s) Q:=by
 refine Ok.loop (fun s=>∃ i:Nat,ix s = i∧i≤len∧I i s) (fun s=>len - (ix s).toNat) ⟨k,h0,hk,hI⟩ (by unfold A8; omega) fun rec s ⟨i,h1,h2,h3⟩ ih=>?_
 by_cases e:i < len
 ·refine hstep rec i s e h1 h3 fun s' h4 h5=>ih s' ⟨i + 1,h4,by omega,h5⟩ ?_
  rw [h4,h1]; omega
 ·obtain rfl:i = len:=by omega
  exact hend rec s h1 h3
theorem df {p:Prop} [Decidable p] (h:¬ p:=by omega):decide p = false:=decide_eq_false h
theorem dt {p:Prop} [Decidable p] (h:p:=by omega):decide p = true:=decide_eq_true h
theorem wr {n:Int} (h0:-9223372036854775808≤n:=by omega) (h1:n≤9223372036854775807:=by omega):IntKind.i64.wrap n = n:=by
 unfold IntKind.wrap
 simp only [IntKind.signed,IntKind.bits]
 first | omega | (simp; omega)
theorem Zb {n m:Nat} (h:n + m≤137438953472):rm n m = true:=decide_eq_true h
theorem Ok.rm {α:Type} {n m:Nat} {x:Option α} {Q:α→Prop} (h:n + m≤137438953472) (k:Ok x Q):Ok (bif P.rm n m then x else none) Q:=Ok.gd (Zb h) k
theorem AK {α:Type} {p:Prop} [Decidable p] {x y:α} (h:p:=by omega):(bif decide p then x else y) = x:=by rw [decide_eq_true h]; rfl
theorem Ba {α:Type} {p:Prop} [Decidable p] {x y:α} (h:¬ p:=by omega):(bif decide p then x else y) = y:=by rw [decide_eq_false h]; rfl
end Go.Proofs.YtejfnieiaecpkaaGreatDoor.P
namespace Go.Proofs.YtejfnieiaecpkaaGreatDoor.P
open Go Go.Abs Go.Proofs
set_option maxRecDepth 100000
def Hc (c:Ab):Prop:=(∀ x∈c.f_l,0≤x∧x≤255)∧c.f_l.length≤400∧0≤c.f_at∧c.f_at≤c.f_l.length
theorem Hc.at {c:Ab} (h:Hc c) {i:Int} (h0:0≤i) (h1:i < c.f_l.length):∃ x,idx c.f_l i = some x∧0≤x∧x≤255:=by
 have hl:i.toNat < c.f_l.length:=by omega
 exact ⟨_,SV h0 hl,h.1 _ (List.getElem_mem hl)⟩
theorem bu {v n:Int} (hv:0≤v) (hn:1≤n):0≤Int.tmod v n∧Int.tmod v n < n:=by
 rw [Int.tmod_eq_emod_of_nonneg hv]
 exact ⟨Int.emod_nonneg _ (by omega),Int.emod_lt_of_pos _ (by omega)⟩
theorem Dy {c:Ab} (h:Hc c) {n:Int} (hn:1≤n) (hn2:n≤100000):Ok (A6 c n) fun r=>Hc r.2∧0≤r.1∧r.1 < n:=by
 obtain ⟨hx,hl,h0,h1⟩:=h
 have h':Hc c:=⟨hx,hl,h0,h1⟩
 unfold A6
 refine Ok.brd (fun h=>by omega) fun _=>Ok.brd (fun h=>Ok.some ⟨h',by show (0:Int)≤0∧(0:Int) < n; omega⟩) fun hlt=>?_
 have e1:IntKind.i64.wrap (c.f_at + 1) = c.f_at + 1:=wr
 have e2:IntKind.i64.wrap (c.f_at + 1 - 1) = c.f_at:=by rw [wr]; omega
 obtain ⟨x,hx1,hx2,hx3⟩:=h'.at h0 (by omega)
 unfold Gd
 rw [e1,e2]
 refine Ok.bindE hx1 ?_
 have ex:IntKind.i64.wrap x = x:=wr
 have one:Ok (some (Int.tmod x n,({ f_l:=c.f_l,f_at:=c.f_at + 1 }:Ab))) fun r=>Hc r.2∧0≤r.1∧r.1 < n :=
  Ok.some ⟨⟨hx,hl,by show 0≤c.f_at + 1; omega,by show c.f_at + 1≤(c.f_l.length:Int); omega⟩,bu hx2 hn⟩
 rw [ex]
 refine Ok.brd (fun _=>Ok.brd (fun h2=>?_) fun _=>Ok.gdd (by omega) one) fun _=>Ok.gdd (by omega) one
 obtain ⟨y,hy1,hy2,hy3⟩:=h'.at (i:=c.f_at + 1) (by omega) h2
 refine Ok.bindE hy1 (Ok.gdd (by omega) (Ok.some ⟨⟨hx,hl,?_,?_⟩,?_⟩))
 ·show 0≤IntKind.i64.wrap (c.f_at + 1 + 1); rw [wr]; omega
 ·show IntKind.i64.wrap (c.f_at + 1 + 1)≤(c.f_l.length:Int); rw [wr]; omega
 ·have:IntKind.i64.wrap (IntKind.i64.wrap (x * 256) + IntKind.i64.wrap y) = x * 256 + y:=by
   rw [wr (n:=x * 256) (by omega) (by omega),wr (n:=y) (by omega) (by omega),wr]
  show 0≤Int.tmod _ n∧Int.tmod _ n < n
  rw [this]
  exact bu (by omega) hn
theorem NE {c:Ab} (h:Hc c) {n:Int} (hn:1≤n) (hn2:n≤100000):Ok (Ce c n) fun r=>Hc r.2 :=
 Ok.bind (Dy h hn hn2) fun _ hx=>Ok.some hx.1
theorem G6 {c:Ab} (h:Hc c) {a b:Int} (hab:a≤b) (ha:-100000000≤a) (hb:b≤100000000) (hd:b - a < 100000):Ok (AJ c a b) fun r=>Hc r.2∧a≤r.1∧r.1≤b:=by
 unfold AJ
 have e:IntKind.i64.wrap (IntKind.i64.wrap (b - a) + 1) = b - a + 1:=by rw [wr (n:=b - a) (by omega) (by omega),wr]
 rw [e]
 refine Ok.bind (Dy h (by omega) (by omega)) fun x hx=>Ok.some ⟨hx.1,?_⟩
 show a≤IntKind.i64.wrap (a + x.1)∧IntKind.i64.wrap (a + x.1)≤b
 rw [wr]
 omega
theorem S2 {c:Ab} (h:Hc c):Ok (Df c) fun r=>Hc r.2∧0≤r.1∧r.1 < 1152921504606846976:=by
 unfold Df
 refine Ok.bind (Dy h (by omega) (by omega)) fun x hx=>Ok.bind (Dy hx.1 (by omega) (by omega)) fun y hy=>Ok.bind (Dy hy.1 (by omega) (by omega)) fun z hz=>Ok.some ⟨hz.1,?_⟩
 show 0≤IntKind.i64.wrap (IntKind.i64.wrap (x.1 * y.1) + z.1)∧IntKind.i64.wrap (IntKind.i64.wrap (x.1 * y.1) + z.1) < 1152921504606846976
 have h1:0≤x.1 * y.1:=Int.mul_nonneg hx.2.1 hy.2.1
 have h2:x.1 * y.1≤60000 * 60000:=Int.mul_le_mul (by omega) (by omega) hy.2.1 (by omega)
 rw [wr (n:=x.1 * y.1) (by omega) (by omega),wr]
 omega
theorem iF (l:List Int) (h:∀ x∈l,0≤x∧x≤255) (hl:l.length≤9223372036854775807):Ok (Ng l) Hc:=by
 unfold Ng
 refine Ok.gdd ?_ (Ok.some ⟨fun x hx=>?_,?_,?_,?_⟩)
 ·split <;> omega
 ·exact h x (List.mem_of_mem_drop (List.mem_of_mem_take hx))
 ·show (O1 l 0 _).length≤400
  unfold O1
  simp only [List.length_take,List.length_drop]
  split <;> omega
 ·show (0:Int)≤0; omega
 ·show (0:Int)≤_; omega
def gu (n:Nat):ByteArray:=⟨#[UInt8.ofNat (48 + n)]⟩
theorem UE (n:Nat) (h:n < 10):CY (n:Int) = some (gu n):=by
 unfold CY gu
 rw [AK,Int.toNat_natCast]
 unfold Go.Lib.decDigits
 rw [dif_pos h]
def kc (i:Nat):Ed:={ Name:=({ data:=#[107] }:ByteArray)++gu i,Parent:=0 }
def lc (n:Nat) (p:Int):Ed:={ Name:=({ data:=#[108] }:ByteArray)++gu n,Parent:=p }
def jX:Ed:={ Name:=({ data:=#[116,111,112] }:ByteArray),Parent:=-1 }
def aR:List Ed→List Int→List Ed
 | b,[]=>b
 | b,p :: r=>aR (b++[lc b.length p]) r
def base (kids:Nat):List Ed:=jX :: (List.range kids).map kc
def Mw (kids:Nat) (ps:List Int):List Ed:=aR (base kids) ps
def VT:Nat→List (List Int)
 | 0=>[[]]
 | n + 1=>(VT n).flatMap fun l=>[l++[(n:Int) + 1],l++[(n:Int) + 1,(n:Int) + 1]]
def MB:List (List Ed):=[1,2,3].flatMap fun k=>Mw k [] :: (VT k).map (Mw k)
theorem TP:∀ (b:List Ed) (p q:List Int),aR b (p++q) = aR (aR b p) q
 | _,[],_=>rfl
 | b,_ :: r,q=>TP _ r q
theorem TJ:∀ (b:List Ed) (p:List Int),(aR b p).length = b.length + p.length
 | _,[]=>rfl
 | b,x :: r=>by rw [aR,TJ]; simp; omega
theorem To:∀ n,∀ l∈VT n,n≤l.length∧l.length≤2 * n
 | 0,l,h=>by simp [VT] at h; subst h; simp
 | n + 1,l,h=>by
   simp only [VT,List.mem_flatMap] at h
   obtain ⟨q,hq,h⟩:=h
   have:=To n q hq
   simp at h
   rcases h with rfl | rfl <;> simp <;> omega
theorem cI {n:Nat} {q:List Int} (hq:q∈VT n) (k:Nat) (h1:1≤k) (h2:k≤2):q++List.replicate k ((n:Int) + 1)∈VT (n + 1):=by
 simp only [VT,List.mem_flatMap]
 refine ⟨q,hq,?_⟩
 rcases (by omega:k = 1∨k = 2) with rfl | rfl
 ·exact List.mem_cons_self ..
 ·exact List.mem_cons_of_mem _ (List.mem_cons_self ..)
theorem bJ {c:Ab} (h:Hc c) (name:ByteArray):Ok (ET c name) fun r=>Hc r.2∧∃ l∈MB,r.1 = { Name:=name,Codes:=l }:=by
 unfold ET
 refine Ok.bind (G6 h (by omega) (by omega) (by omega) (by omega)) fun x hx=>?_
 obtain ⟨kids,hk⟩:∃ k:Nat,x.1 = k:=⟨x.1.toNat,by omega⟩
 obtain ⟨hc,hk1,hk2⟩:=hx
 rw [hk] at hk1 hk2
 have hkm:kids∈[1,2,3]:=by rcases (by omega:kids = 1∨kids = 2∨kids = 3) with rfl | rfl | rfl <;> simp
 refine Ok.for (fun s=>s.1) kids (fun i s=>s.2 = base i) 0 (Nat.zero_le _) rfl rfl (by omega) (fun rec s hs hI=>?_) fun rec i s hi hs hI ih=>?_
 ·simp only [Gp,hs,hk,hI]
  rw [Ba]
  unfold Ge
  refine Ok.bind (NE hc (by omega) (by omega)) fun y hy=>Ok.br (fun _=>Ok.some ⟨hy,base kids,?_,rfl⟩) fun _=>?_
  ·simp only [MB,List.mem_flatMap]
   exact ⟨kids,hkm,List.mem_cons_self ..⟩
  refine Ok.for (fun s=>s.1) kids (fun i s=>Hc s.2.1∧∃ p∈VT i,s.2.2 = Mw kids p) 0 (Nat.zero_le _) rfl ⟨hy,[],by simp [VT],rfl⟩ (by omega) (fun rec s hs hI=>?_) fun rec i s hi hs hI ih=>?_
  ·obtain ⟨h1,p,h2,h3⟩:=hI
   simp only [Gl,hs,hk]
   rw [Ba]
   refine Ok.some ⟨h1,Mw kids p,?_,by rw [h3]⟩
   simp only [MB,List.mem_flatMap]
   exact ⟨kids,hkm,List.mem_cons_of_mem _ (List.mem_map.2 ⟨p,h2,rfl⟩)⟩
  ·obtain ⟨h1,p,h2,h3⟩:=hI
   simp only [Gl,hs,hk]
   rw [AK]
   refine Ok.bind (G6 h1 (by omega) (by omega) (by omega) (by omega)) fun z hz=>?_
   have hpl:=To i p h2
   obtain ⟨m,hm⟩:∃ k:Nat,z.1 = k:=⟨z.1.toNat,by omega⟩
   refine Ok.loop (fun s=>∃ j:Nat,j≤m∧s.1 = (m:Int) - j∧s.2 = Mw kids (p++List.replicate j ((i:Int) + 1))) (fun s=>s.1.toNat) ⟨0,by omega,by simp [hm],by simp [h3]⟩ (by unfold A8; show z.1.toNat < _; omega) fun rec s hs ih2=>?_
   obtain ⟨j,hj,e1,e2⟩:=hs
   have hml:s.2.length = 1 + kids + p.length + j:=by
    rw [e2,Mw,TJ]; simp [base]; omega
   simp only [I0]
   refine Ok.brd (fun hpos=>?_) fun hneg=>?_
   ·have hitoa:=UE s.2.length (by omega)
    refine Ok.bindE hitoa (Ok.gdd (by simp [gu,ByteArray.size]) (Ok.rm (by simp; omega) (ih2 _ ⟨j + 1,by omega,?_,?_⟩ ?_)))
    ·show IntKind.i64.wrap (s.1 - 1) = _
     rw [wr]; omega
    ·have hw:IntKind.i64.wrap (1 + (i:Int)) = (i:Int) + 1:=by rw [wr]; omega
     show s.2++[({ Name:=({ data:=#[108] }:ByteArray)++gu s.2.length,Parent:=IntKind.i64.wrap (1 + (i:Int)) }:Ed)] = _
     rw [hw,List.replicate_succ',← List.append_assoc,Mw,TP,← Mw,← e2]
     rfl
    ·show (IntKind.i64.wrap (s.1 - 1)).toNat < s.1.toNat
     rw [wr]; omega
   ·obtain rfl:j = m:=by omega
    refine ih _ ?_ ⟨hz.1,p++List.replicate j ((i:Int) + 1),cI h2 j (by omega) (by omega),e2⟩
    show IntKind.i64.wrap ((i:Int) + 1) = _
    rw [wr]; omega
 ·simp only [Gp,hs,hk]
  rw [AK]
  have hl:s.2.length = 1 + i:=by rw [hI]; simp [base]; omega
  refine Ok.bindE (UE i (by omega)) (Ok.gdd (by simp [gu,ByteArray.size]) (Ok.rm (by simp; omega) (ih _ ?_ ?_)))
  ·show IntKind.i64.wrap ((i:Int) + 1) = _
   rw [wr]; omega
  ·show s.2++[_] = _
   rw [hI]
   simp [base,List.range_succ,kc]
def Lr:List (List Int):=[[1],[1,5],[1,5,20],[1,2,4,12]]
structure CS (c:Av):Prop where
 kind:c.Kind = 3
 list:c.List_ = 0
 low:-4≤c.Low∧c.Low≤2
 high:c.Low≤c.High∧c.High≤c.Low + 44
 widths:c.Widths∈Lr
theorem aS {c:Ab} (h:Hc c) (name:ByteArray):Ok (D4 c name) fun r=>Hc r.2∧CS r.1∧r.1.Name = name:=by
 unfold D4
 refine Ok.bind (G6 h (by omega) (by omega) (by omega) (by omega)) fun x hx=>Ok.bind (Dy hx.1 (by omega) (by omega)) fun y hy=>?_
 have hl:y.1.toNat < Lr.length:=by simp [Lr]; omega
 refine Ok.idx hy.2.1 hl (Ok.bind (NE hy.1 (by omega) (by omega)) fun z hz=>Ok.bind (Dy hz (by omega) (by omega)) fun u hu=>Ok.some ⟨hu.1,⟨rfl,rfl,hx.2,?_,List.getElem_mem hl⟩,rfl⟩)
 show x.1≤IntKind.i64.wrap (x.1 + u.1)∧IntKind.i64.wrap (x.1 + u.1)≤x.1 + 44
 rw [wr]
 omega
def iI:Av:={ Name:=({ data:=#[119,104,111] }:ByteArray),Kind:=1,List_:=0,Low:=0,High:=0,Widths:=[],Optional:=false }
def j7:Av:={ Name:=({ data:=#[115,101,120] }:ByteArray),Kind:=2,List_:=0,Low:=0,High:=0,Widths:=[],Optional:=false }
def jA:Av:={ Name:=({ data:=#[106,111,98] }:ByteArray),Kind:=2,List_:=1,Low:=0,High:=0,Widths:=[],Optional:=false }
def KE (j:Bool):List Av:=[iI,j7]++(if j then [jA] else [])
def dL (i:Nat):ByteArray:=({ data:=#[109] }:ByteArray)++gu i
def TX:ByteArray:={ data:=#[111,110,101] }
def Yd:ByteArray:={ data:=#[116,119,111] }
def Ms (k:Nat) (ms:List Av):Prop:=∀ i (h:i < ms.length),CS ms[i]∧ms[i].Name = dL (k + i)
structure DS (s:Aa):Prop where
 lists:∃ a∈MB,∃ b∈MB,s.Lists = [{ Name:=TX,Codes:=a },{ Name:=Yd,Codes:=b }]
 cols:∃ j ms,s.Columns = KE j++ms∧1≤ms.length∧ms.length≤3∧Ms (KE j).length ms
theorem Ms.snoc {k:Nat} {ms:List Av} (h:Ms k ms) {c:Av} (hc:CS c) (hn:c.Name = dL (k + ms.length)):Ms k (ms++[c]):=by
 intro i hi
 by_cases e:i < ms.length
 ·rw [List.getElem_append_left e]; exact h i e
 ·have:i = ms.length:=by simp at hi; omega
  subst this
  simp [hc,hn]
theorem NY (j:Bool):2≤(KE j).length∧(KE j).length≤3:=by cases j <;> simp [KE]
theorem Tv {body:((Int × Ab × List Av)→Option (Aa × Ab))→(Int × Ab × List Av)→Option (Aa × Ab)} {L:List Am} (hL:∃ a∈MB,∃ b∈MB,L = [{ Name:=TX,Codes:=a },{ Name:=Yd,Codes:=b }])
 (hb:body = fun rec s=>EY (fun v4_1 w0_1 b12_1=>some (({ Lists:=L,Columns:=b12_1 }:Aa),w0_1)) rec s.1 s.2.1 s.2.2) (j:Bool) {n:Int} (h1:1≤n) (h2:n≤3) {c:Ab} (hc:Hc c) :
 Ok (iter body A8 (n,c,KE j)) fun r=>Hc r.2∧DS r.1:=by
 subst hb
 have hcl:=NY j
 refine Ok.loop (fun s=>0≤s.1∧Hc s.2.1∧∃ ms,s.2.2 = KE j++ms∧(ms.length:Int) = n - s.1∧Ms (KE j).length ms) (fun s=>s.1.toNat) ⟨by show 0≤n; omega,hc,[],by simp,by simp,fun i hi=>by simp at hi⟩ (by unfold A8; show n.toNat < _; omega) fun rec s hs ih=>?_
 obtain ⟨h0,hcs,ms,e1,e2,e3⟩:=hs
 simp only [EY]
 refine Ok.brd (fun hpos=>?_) fun hneg=>?_
 ·have hl:s.2.2.length = (KE j).length + ms.length:=by rw [e1]; simp
  refine Ok.bindE (UE _ (by omega)) (Ok.gdd (by simp [gu,ByteArray.size]) (Ok.bind (aS hcs _) fun x hx=>Ok.rm (by simp; omega) (ih _ ⟨?_,hx.1,ms++[x.1],by rw [e1]; simp,?_,e3.snoc hx.2.1 ?_⟩ ?_)))
  ·show 0≤IntKind.i64.wrap (s.1 - 1); rw [wr]; omega
  ·show _ = n - IntKind.i64.wrap (s.1 - 1); rw [wr]; simp; omega
  ·rw [hx.2.2,hl]; rfl
  ·show (IntKind.i64.wrap (s.1 - 1)).toNat < s.1.toNat; rw [wr]; omega
 ·exact Ok.some ⟨hcs,⟨hL,j,ms,e1,by omega,by omega,e3⟩⟩
theorem Td {c:Ab} (h:Hc c):Ok (CG c) fun r=>Hc r.2∧DS r.1:=by
 unfold CG
 refine Ok.bind (bJ h _) fun x hx=>Ok.bind (bJ hx.1 _) fun y hy=>Ok.bind (NE hy.1 (by omega) (by omega)) fun z hz=>?_
 obtain ⟨_,a,ha,ea⟩:=hx
 obtain ⟨_,b,hb,eb⟩:=hy
 have hL:∃ a∈MB,∃ b∈MB,[x.1,y.1] = [{ Name:=TX,Codes:=a },{ Name:=Yd,Codes:=b }]:=⟨a,ha,b,hb,by rw [ea,eb]; rfl⟩
 refine Ok.br (fun _=>Ok.rm (by simp) (Ok.bind (G6 hz (by omega) (by omega) (by omega) (by omega)) fun u hu=>?_)) fun _=>Ok.bind (G6 hz (by omega) (by omega) (by omega) (by omega)) fun u hu=>?_
 ·exact Tv hL rfl true hu.2.1 hu.2.2 hu.1
 ·exact Tv hL rfl false hu.2.1 hu.2.2 hu.1
end Go.Proofs.YtejfnieiaecpkaaGreatDoor.P
namespace Go.Proofs.YtejfnieiaecpkaaGreatDoor.P
open Go Go.Abs Go.Proofs
set_option maxRecDepth 100000
def Sx:List Am:=[TX,Yd].flatMap fun n=>MB.map fun l=>{ Name:=n,Codes:=l }
variable {s:Aa}
theorem DS.list (h:DS s) {i:Nat} (hi:i < s.Lists.length):s.Lists[i]∈Sx:=by
 obtain ⟨a,ha,b,hb,e⟩:=h.lists
 have h1:∀ (k:Nat) (hk:k < 2),([{ Name:=TX,Codes:=a },{ Name:=Yd,Codes:=b }]:List Am)[k]'hk∈Sx:=by
  intro k hk
  simp only [Sx,List.mem_flatMap]
  rcases (by omega:k = 0∨k = 1) with rfl | rfl
  ·exact ⟨TX,by simp,List.mem_map.2 ⟨a,ha,rfl⟩⟩
  ·exact ⟨Yd,by simp,List.mem_map.2 ⟨b,hb,rfl⟩⟩
 have hi2:i < 2:=by rw [e] at hi; exact hi
 have:=h1 i hi2
 simp only [e]
 exact this
theorem DS.lists2 (h:DS s):s.Lists.length = 2:=by
 obtain ⟨a,ha,b,hb,e⟩:=h.lists
 rw [e]; rfl
def HI (l:Am):Int:=(EV l).getD 0
def Bl (l:Am):List Int:=(N2 l (HI l - 1)).getD []
theorem Zr:(Sx.all fun l=>Fh l==some 0 && FT l==some 0 && (EV l==some (HI l)) && (EZ l==some (HI l)) && decide (2≤HI l) && decide (HI l≤3) &&
 N2 l (HI l - 1)==some (Bl l) && K2 l (HI l - 1)==some (Bl l) && !(Bl l).isEmpty && (Bl l).all fun x=>decide (0≤x) && decide (x < l.Codes.length) && Hf l x==some (HI l - 1) && GD l x (HI l - 1)==some x && Jx l x (HI l - 1)==some x) = true:=by decide +kernel
structure CL (l:Am):Prop where
 rcheck:Fh l = some 0
 check:FT l = some 0
 rlev:EV l = some (HI l)
 lev:EZ l = some (HI l)
 lev2:2≤HI l
 lev3:HI l≤3
 rleaves:N2 l (HI l - 1) = some (Bl l)
 leaves:K2 l (HI l - 1) = some (Bl l)
 some_:Bl l≠[]
 leaf:∀ x∈Bl l,0≤x∧x < l.Codes.length∧Hf l x = some (HI l - 1)∧GD l x (HI l - 1) = some x∧Jx l x (HI l - 1) = some x
theorem KC {l:Am} (h:l∈Sx):CL l:=by
 have:=List.all_eq_true.1 Zr l h
 simp only [Bool.and_eq_true,beq_iff_eq,decide_eq_true_eq,List.all_eq_true,Bool.not_eq_true',List.isEmpty_eq_false_iff] at this
 obtain ⟨⟨⟨⟨⟨⟨⟨⟨⟨h1,h2⟩,h3⟩,h4⟩,h5⟩,h6⟩,h7⟩,h8⟩,h9⟩,h10⟩:=this
 exact ⟨h1,h2,h3,h4,h5,h6,h7,h8,h9,fun x hx=>by have:=h10 x hx; obtain ⟨⟨⟨⟨a,b⟩,c⟩,d⟩,e⟩:=this; exact ⟨a,b,c,d,e⟩⟩
def NV (j:Bool) (n:Nat):List ByteArray:=(KE j).map (·.Name)++(List.range n).map fun i=>dL ((KE j).length + i)
theorem T2:([true,false].all fun j=>[1,2,3].all fun n=>(NV j n).all (fun x=>BW x==some true && Ef x==some true) &&
 (List.range (NV j n).length).all fun i=>(List.range i).all fun k=>match (NV j n)[i]?,(NV j n)[k]? with | some x,some y=>!(x.toList==y.toList) && !(y.toList==x.toList) | _,_=>false) = true:=by decide +kernel
structure HD (c:Av):Prop where
 kind:c.Kind = 2
 list:c.List_ = 0∨c.List_ = 1
 low:c.Low = 0
 high:c.High = 0
 widths:c.Widths = []
 opt:c.Optional = false
theorem DS.cols_length (h:DS s):3≤s.Columns.length∧s.Columns.length≤6:=by
 obtain ⟨j,ms,e,h1,h2,h3⟩:=h.cols
 have:=NY j
 rw [e,List.length_append]
 omega
theorem DS.col0 (h:DS s) (hi:0 < s.Columns.length):s.Columns[0] = iI:=by
 obtain ⟨j,ms,e,h1,h2,h3⟩:=h.cols
 have:s.Columns[0]? = some iI:=by rw [e]; cases j <;> rfl
 rw [List.getElem?_eq_getElem hi] at this
 exact Option.some.inj this
theorem DS.col (h:DS s) {i:Nat} (h0:1≤i) (hi:i < s.Columns.length):HD s.Columns[i]∨CS s.Columns[i]:=by
 obtain ⟨j,ms,e,h1,h2,h3⟩:=h.cols
 have hg:s.Columns[i]? = some s.Columns[i]:=List.getElem?_eq_getElem hi
 generalize hc:s.Columns[i] = c at hg ⊢
 rw [e] at hg
 by_cases hl:i < (KE j).length
 ·rw [List.getElem?_append_left hl] at hg
  left
  cases j with
  | true =>
    rcases (by simp [KE] at hl; omega:i = 1∨i = 2) with rfl | rfl
    ·cases hg; exact ⟨rfl,.inl rfl,rfl,rfl,rfl,rfl⟩
    ·cases hg; exact ⟨rfl,.inr rfl,rfl,rfl,rfl,rfl⟩
  | false =>
    obtain rfl:i = 1:=by simp [KE] at hl; omega
    cases hg; exact ⟨rfl,.inl rfl,rfl,rfl,rfl,rfl⟩
 ·right
  rw [List.getElem?_append_right (by omega)] at hg
  obtain ⟨hlt,rfl⟩:=List.getElem?_eq_some_iff.1 hg
  exact (h3 _ hlt).1
theorem DS.names (h:DS s):∃ j n,n∈[1,2,3]∧s.Columns.map (·.Name) = NV j n:=by
 obtain ⟨j,ms,e,h1,h2,h3⟩:=h.cols
 refine ⟨j,ms.length,by simp; omega,?_⟩
 rw [e,List.map_append,NV]
 congr 1
 apply List.ext_getElem (by simp)
 intro i hi hi2
 simp only [List.getElem_map,List.getElem_range]
 exact (h3 i (by simpa using hi)).2
theorem DS.name (h:DS s) {i:Nat} (hi:i < s.Columns.length):BW s.Columns[i].Name = some true∧Ef s.Columns[i].Name = some true:=by
 obtain ⟨j,n,hn,e⟩:=h.names
 have hf:=List.all_eq_true.1 (List.all_eq_true.1 T2 j (by cases j <;> simp)) n hn
 simp only [Bool.and_eq_true,List.all_eq_true,beq_iff_eq] at hf
 refine hf.1 _ ?_
 rw [← e]
 exact List.mem_map.2 ⟨_,List.getElem_mem hi,rfl⟩
theorem DS.name_ne (h:DS s) {i k:Nat} (hi:i < s.Columns.length) (hk:k < i):(s.Columns[k].Name.toList==s.Columns[i].Name.toList) = false∧(s.Columns[i].Name.toList==s.Columns[k].Name.toList) = false:=by
 obtain ⟨j,n,hn,e⟩:=h.names
 have hf:=List.all_eq_true.1 (List.all_eq_true.1 T2 j (by cases j <;> simp)) n hn
 simp only [Bool.and_eq_true,List.all_eq_true] at hf
 have hl:s.Columns.length = (NV j n).length:=by rw [← e,List.length_map]
 have:=hf.2 i (List.mem_range.2 (by omega)) k (List.mem_range.2 hk)
 rw [← e,List.getElem?_map,List.getElem?_map,List.getElem?_eq_getElem hi,List.getElem?_eq_getElem (by omega:k < s.Columns.length)] at this
 simp only [Option.map_some,Bool.and_eq_true,Bool.not_eq_true'] at this
 exact ⟨this.2,this.1⟩
def G5 {α:Type} (q:α→Bool) (l:List α):Int:=match l.findIdx? q with | some i=>(i:Int) | none=>-1
theorem Lu {α:Type} {l:List α} {p:α→Option Bool} {q:α→Bool} (hp:∀ x∈l,p x = some (q x)) (hl:l.length≤1000000000) :
 iter (fun rec1 v=>bif (decide (v < ((l.length:Nat):Int))) then (idx l v).bind fun x14=>(p x14).bind fun x16=>bif x16 then some v else rec1 (IntKind.i64.wrap (v + 1)) else some (-1)) A8 0 = some (G5 q l):=by
 refine Ok.val (Ok.for (fun s=>s) l.length (fun i _=>∀ k (hk:k < l.length),k < i→q l[k] = false) 0 (Nat.zero_le _) rfl (fun _ _ h=>by omega) (by omega) (fun rec s hs hI=>?_) fun rec i s hi hs hI ih=>?_)
 ·rw [hs,Ba]
  refine Ok.some ?_
  have:l.findIdx? q = none:=by
   rw [List.findIdx?_eq_none_iff]
   intro x hx
   obtain ⟨k,hk,rfl⟩:=List.mem_iff_getElem.1 hx
   exact hI k hk hk
  simp [G5,this]
 ·rw [hs,AK]
  refine Ok.idxn hi (Ok.bindE (hp _ (List.getElem_mem hi)) (Ok.br (fun h=>Ok.some ?_) fun h=>ih _ ?_ fun k hk hk2=>?_))
  ·have:l.findIdx? q = some i:=by
    rw [List.findIdx?_eq_some_iff_getElem]
    exact ⟨hi,h,fun k hk=>by rw [hI k (by omega) hk]; simp⟩
   simp [G5,this]
  ·show IntKind.i64.wrap ((i:Int) + 1) = _
   rw [wr]; omega
  ·by_cases e:k = i
   ·subst e; exact h
   ·exact hI k hk (by omega)
theorem Nf {α:Type} (q:α→Bool) (l:List α):decide (G5 q l ≥ 0) = l.any q:=by
 unfold G5
 cases h:l.findIdx? q with
 | none =>
   rw [List.findIdx?_eq_none_iff] at h
   have:l.any q = false:=by rw [List.any_eq_false]; intro x hx; simp [h x hx]
   simp [this]
 | some i =>
   obtain ⟨hi,h1,_⟩:=List.findIdx?_eq_some_iff_getElem.1 h
   have:l.any q = true:=List.any_eq_true.2 ⟨_,List.getElem_mem hi,h1⟩
   simp only [this]
   exact dt
theorem dh {l:List Av} {p:Av→Option Bool} (q:Av→Bool) (hp:∀ x∈l,p x = some (q x)) (hl:l.length≤1000000000):Bh l p = some (l.any q):=by
 unfold Bh
 rw [show BD l p = some (G5 q l) from Lu hp hl,Option.bind_some,Nf]
theorem Yu {l:List Am} {p:Am→Option Bool} (q:Am→Bool) (hp:∀ x∈l,p x = some (q x)) (hl:l.length≤1000000000):AX l p = some (l.any q):=by
 unfold AX
 rw [show B1 l p = some (G5 q l) from Lu hp hl,Option.bind_some,Nf]
end Go.Proofs.YtejfnieiaecpkaaGreatDoor.P
set_option linter.unusedVariables false
set_option linter.unusedSimpArgs false
namespace Go.Proofs.YtejfnieiaecpkaaGreatDoor.P
open Go Go.Abs Go.Proofs
set_option maxRecDepth 100000
variable {s:Aa}
theorem HX (n a b:Int):Dz n a b = some (decide (a≤n∧n≤b)):=by
 unfold Dz
 by_cases h:a≤n <;> by_cases h2:n≤b <;> simp [h,h2]
theorem cX {w:List Int} (h:w∈Lr):w = [1]∨w = [1,5]∨w = [1,5,20]∨w = [1,2,4,12]:=by simpa [Lr] using h
theorem fR {c:Av} (h:CS c):Ia c = some 0:=by
 have hw:H7 c = some 0:=by
  obtain ⟨n,k,li,lo,hi,w,o⟩:=c
  rcases cX h.widths with e | e | e | e <;> (simp only at e; subst e; rfl)
 obtain ⟨h1,h2⟩:=h.low
 obtain ⟨h3,h4⟩:=h.high
 unfold Ia
 rw [HX,Option.bind_some,dt,HX,Option.bind_some,dt,df,hw]
 rfl
theorem dO {c:Av} (h:CS c):Eh c = some 0:=by
 have hw:(bif (bif (((c.Widths.length:Nat):Int)==0) then true else (decide (((c.Widths.length:Nat):Int) > 4))) then some 1 else iter (fun rec1 s=>Gi c (fun v3_1 v36_1=>some 0) rec1 s.1 s.2) A8 (1,0)) = some 0:=by
  obtain ⟨n,k,li,lo,hi,w,o⟩:=c
  rcases cX h.widths with e | e | e | e <;> (simp only at e; subst e; rfl)
 obtain ⟨h1,h2⟩:=h.low
 obtain ⟨h3,h4⟩:=h.high
 unfold Eh
 rw [df,df,df]
 simp only [cond_false]
 exact hw
def jh (i:Nat) (c:Av):Prop:=(i = 0∧c = iI)∨(1≤i∧(HD c∨CS c))
theorem DS.cl (h:DS s) {i:Nat} (hi:i < s.Columns.length):jh i s.Columns[i]:=by
 rcases Nat.eq_zero_or_pos i with rfl | h0
 ·exact .inl ⟨rfl,h.col0 hi⟩
 ·exact .inr ⟨h0,h.col h0 hi⟩
theorem jh.kinds {i:Nat} {c:Av} (h:jh i c):(c.Kind = 1∨c.Kind = 2∨c.Kind = 3)∧(c.Kind = 1→i = 0):=by
 rcases h with ⟨rfl,rfl⟩ | ⟨h0,h | h⟩
 ·exact ⟨.inl rfl,fun _=>rfl⟩
 ·rw [h.kind]; exact ⟨.inr (.inl rfl),fun e=>by omega⟩
 ·rw [h.kind]; exact ⟨.inr (.inr rfl),fun e=>by omega⟩
theorem VM {i:Nat} {c:Av} (h:jh i c):ES c = some 0:=by
 rcases h with ⟨rfl,rfl⟩ | ⟨h0,h | h⟩
 ·rfl
 ·obtain ⟨n,k,li,lo,hi,w,o⟩:=c
  obtain ⟨h1,h2,h3,h4,h5,h6⟩:=h
  simp only at h1 h2 h3 h4 h5 h6
  subst h1; subst h3; subst h4; subst h5; subst h6
  rfl
 ·unfold ES
  rw [fR h,h.kind,h.list]
  rfl
theorem g4 (h:DS s) {i:Nat} (hi:i < s.Columns.length):Jf s i = some 0:=by
 have hcol:=h.cl hi
 have hk:=hcol.kinds
 have hl:=h.lists2
 refine Ok.val ?_
 unfold Jf
 refine Ok.idxn hi (Ok.bindE (h.name hi).1 ?_)
 simp only [Bool.not_true,Bool.not_false,cond_true,cond_false]
 refine Ok.for (fun s=>s) i (fun _ _=>True) 0 (Nat.zero_le _) rfl trivial (by have:=h.cols_length; omega) (fun rec q hq _=>?_) fun rec k q hk2 hq _ ih=>?_
 ·simp only [If,hq]
  rw [Ba]
  unfold Ib
  rw [HX,Option.bind_some,dt]
  have e1:(bif decide ((i:Int) > 0) then s.Columns[i].Kind==1 else false) = false:=by
   by_cases e:i = 0
   ·subst e; rfl
   ·have:s.Columns[i].Kind≠1:=fun h1=>e (hk.2 h1)
    simp [this]
  rw [e1]
  show Ok (bif (s.Columns[i].Kind==2) then _ else _) _
  refine Ok.br (fun he=>?_) fun _=>Ok.eq (VM hcol)
  have he:s.Columns[i].Kind = 2:=by simpa using he
  have hlist:s.Columns[i].List_ = 0∨s.Columns[i].List_ = 1:=by
   rcases hcol with ⟨rfl,e⟩ | ⟨_,h | h⟩
   ·rw [e]; exact .inl rfl
   ·exact h.list
   ·exact .inl h.list
  rw [HX,Option.bind_some,hl,decide_eq_true (by rw [wr]; omega)]
  exact Ok.eq (VM hcol)
 ·simp only [If,hq]
  rw [AK]
  refine Ok.idxn (by omega:k < s.Columns.length) ?_
  rw [(h.name_ne hi hk2).1]
  refine ih _ ?_ trivial
  show IntKind.i64.wrap ((k:Int) + 1) = _
  have:=h.cols_length
  rw [wr]; omega
theorem DS.lname (h:DS s) (h0:0 < s.Lists.length) (h1:1 < s.Lists.length):s.Lists[0].Name = TX∧s.Lists[1].Name = Yd:=by
 obtain ⟨a,ha,b,hb,e⟩:=h.lists
 have e0:s.Lists[0]? = some { Name:=TX,Codes:=a }:=by rw [e]; rfl
 have e1:s.Lists[1]? = some { Name:=Yd,Codes:=b }:=by rw [e]; rfl
 rw [List.getElem?_eq_getElem h0] at e0
 rw [List.getElem?_eq_getElem h1] at e1
 rw [Option.some.inj e0,Option.some.inj e1]
 exact ⟨rfl,rfl⟩
theorem b5:(TX.toList==Yd.toList) = false:=by decide +kernel
theorem DS.rcheck (h:DS s):CC s = some 0:=by
 have hl:=h.lists2
 have hc:=h.cols_length
 refine Ok.val ?_
 unfold CC
 rw [df,df]
 simp only [Bool.not_true,Bool.not_false,cond_true,cond_false]
 refine Ok.for (fun s=>s) s.Lists.length (fun _ _=>True) 0 (Nat.zero_le _) rfl trivial (by omega) (fun rec q hq _=>?_) fun rec i q hi hq _ ih=>?_
 ·simp only [Ju,hq]
  rw [Ba]
  unfold IX
  have e0:(((s.Columns.length:Nat):Int)==0) = false:=by rw [beq_eq_false_iff_ne]; omega
  rw [e0]
  show Ok ((idx s.Columns 0).bind _) _
  refine Ok.idxn (i:=0) (by omega) ?_
  rw [h.col0]
  refine Ok.no rfl ?_
  refine Ok.for (fun s=>s) s.Columns.length (fun _ _=>True) 0 (Nat.zero_le _) rfl trivial (by omega) (fun rec q hq _=>?_) fun rec i q hi hq _ ih=>?_
  ·simp only [IV,hq]
   rw [Ba]
   exact Ok.some rfl
  ·simp only [IV,hq]
   rw [AK]
   refine Ok.bindE (g4 h hi) (ih _ ?_ trivial)
   show IntKind.i64.wrap ((i:Int) + 1) = _
   rw [wr]; omega
 ·simp only [Ju,hq]
  rw [AK]
  refine Ok.idxn hi (Ok.bindE (KC (h.list hi)).rcheck ?_)
  refine Ok.no rfl ?_
  refine Ok.for (fun s=>s) i (fun _ _=>True) 0 (Nat.zero_le _) rfl trivial (by omega) (fun rec2 q hq _=>?_) fun rec2 k q hk hq _ ih2=>?_
  ·simp only [Ji,hq]
   rw [Ba]
   refine ih _ ?_ trivial
   show IntKind.i64.wrap ((i:Int) + 1) = _
   rw [wr]; omega
  ·simp only [Ji,hq]
   rw [AK]
   refine Ok.idxn (by omega:k < s.Lists.length) (Ok.idxn hi ?_)
   obtain rfl:k = 0:=by omega
   obtain rfl:i = 1:=by omega
   have hn:=h.lname (by omega) (by omega)
   rw [hn.1,hn.2,b5]
   refine ih2 _ ?_ trivial
   show IntKind.i64.wrap (((0:Nat):Int) + 1) = _
   rw [wr]; omega
theorem jm {α:Type} (l:List α) {i:Nat} (hi:i≤l.length):O1 l 0 (i:Int) = l.take i:=by simp [O1]
theorem gn {i:Nat} {c:Av} (h:jh i c):Es c = some true:=by
 rcases h with ⟨rfl,rfl⟩ | ⟨h0,h | h⟩
 ·rfl
 ·obtain ⟨n,k,li,lo,hi,w,o⟩:=c
  obtain ⟨h1,h2,h3,h4,h5,h6⟩:=h
  simp only at h1 h2 h3 h4 h5 h6
  subst h1; subst h3; subst h4; subst h5; subst h6
  rfl
 ·unfold Es
  rw [h.kind,h.list]
  rfl
theorem gL (h:DS s) {i:Nat} (hi:i < s.Columns.length):EA s i = some 0:=by
 have hcol:=h.cl hi
 have hl:=h.lists2
 have hc:=h.cols_length
 refine Ok.val ?_
 unfold EA
 refine Ok.idxn hi (Ok.bindE (h.name hi).2 (Ok.gdd (by omega) ?_))
 rw [jm _ (by omega)]
 refine Ok.bindE (dh (fun a=>a.Name.toList==s.Columns[i].Name.toList) (fun x _=>rfl) (by simp; omega)) ?_
 have:(s.Columns.take i).any (fun a=>a.Name.toList==s.Columns[i].Name.toList) = false:=by
  rw [List.any_eq_false]
  intro x hx
  obtain ⟨k,hk,rfl⟩:=List.mem_iff_getElem.1 hx
  have hki:k < i:=by simp at hk; omega
  rw [List.getElem_take,(h.name_ne hi hki).1]
  simp
 rw [this]
 show Ok (bif (s.Columns[i].Kind==1) then _ else _) _
 have fin:Ok ((Es s.Columns[i]).bind fun x49=>bif (!x49) then some 11 else some 0) (· = (0:Int)):=Ok.bindE (gn hcol) (Ok.some rfl)
 rcases hcol with ⟨rfl,e⟩ | ⟨h0,h1 | h1⟩
 ·rw [e]; rw [e] at fin; exact fin
 ·rw [h1.kind]
  have:(bif decide (s.Columns[i].List_ < 0) then true else decide (s.Columns[i].List_ ≥ ((s.Lists.length:Nat):Int))) = false:=by
   rcases h1.list with e | e <;> (rw [e,hl]; rfl)
  show Ok (bif (bif decide (s.Columns[i].List_ < 0) then true else decide (s.Columns[i].List_ ≥ ((s.Lists.length:Nat):Int))) then _ else _) _
  rw [this]
  exact fin
 ·rw [h1.kind]
  exact Ok.bindE (dO h1) fin
theorem DS.check (h:DS s):Dk s = some 0:=by
 have hl:=h.lists2
 have hc:=h.cols_length
 refine Ok.val ?_
 unfold Dk
 rw [df,df]
 simp only [Bool.not_true,Bool.not_false,cond_true,cond_false]
 refine Ok.for (fun s=>s) s.Lists.length (fun _ _=>True) 0 (Nat.zero_le _) rfl trivial (by omega) (fun rec q hq _=>?_) fun rec i q hi hq _ ih=>?_
 ·simp only [Ip,hq]
  rw [Ba]
  unfold Ik
  have e0:(((s.Columns.length:Nat):Int)==0) = false:=by rw [beq_eq_false_iff_ne]; omega
  rw [e0]
  show Ok ((idx s.Columns 0).bind _) _
  refine Ok.idxn (i:=0) (by omega) ?_
  rw [h.col0]
  refine Ok.no rfl ?_
  refine Ok.for (fun s=>s) s.Columns.length (fun _ _=>True) 0 (Nat.zero_le _) rfl trivial (by omega) (fun rec q hq _=>?_) fun rec i q hi hq _ ih=>?_
  ·simp only [Ir,hq]
   rw [Ba]
   exact Ok.some rfl
  ·simp only [Ir,hq]
   rw [AK]
   refine Ok.bindE (gL h hi) (ih _ ?_ trivial)
   show IntKind.i64.wrap ((i:Int) + 1) = _
   rw [wr]; omega
 ·simp only [Ip,hq]
  rw [AK]
  refine Ok.idxn hi (Ok.bindE (KC (h.list hi)).check ?_)
  show Ok (bif decide _ then _ else none) _
  refine Ok.gdd (by omega) ?_
  rw [jm _ (by omega)]
  refine Ok.bindE (Yu (fun a=>a.Name.toList==s.Lists[i].Name.toList) (fun x _=>rfl) (by simp; omega)) ?_
  have:(s.Lists.take i).any (fun a=>a.Name.toList==s.Lists[i].Name.toList) = false:=by
   rw [List.any_eq_false]
   intro x hx
   obtain ⟨k,hk,rfl⟩:=List.mem_iff_getElem.1 hx
   have hki:k < i:=by simp at hk; omega
   obtain rfl:k = 0:=by omega
   obtain rfl:i = 1:=by omega
   have hn:=h.lname (by omega) (by omega)
   rw [List.getElem_take,hn.1,hn.2,b5]
   simp
  rw [this]
  refine ih _ ?_ trivial
  show IntKind.i64.wrap ((i:Int) + 1) = _
  rw [wr]; omega
end Go.Proofs.YtejfnieiaecpkaaGreatDoor.P
namespace Go.Proofs.YtejfnieiaecpkaaGreatDoor.P
open Go Go.Abs Go.Proofs
set_option maxRecDepth 100000
variable {s:Aa}
theorem Dv {i:Nat} (h:i≤1000000000000:=by omega):IntKind.i64.wrap ((i:Int) + 1) = ((i + 1:Nat):Int):=by rw [wr]; omega
def Bs:Int:=-1099511627776
def W1 (s:Aa) (c:Av) (v:Int):Prop :=
 (c.Kind = 1∧1≤v∧v≤1000)∨(c.Kind = 2∧∃ L,L∈Sx∧idx s.Lists c.List_ = some L∧v∈Bl L)∨(c.Kind = 3∧((c.Low≤v∧v≤c.High)∨(c.Optional = true∧v = Bs)))
def Nu (s:Aa) (r:List Int):Prop:=r.length = s.Columns.length∧∀ (i:Nat) c v,s.Columns[i]? = some c→r[i]? = some v→W1 s c v
theorem DS.clist (h:DS s) {c:Av} (hc:HD c):∃ L,L∈Sx∧idx s.Lists c.List_ = some L:=by
 have hl:=h.lists2
 rcases hc.list with e | e
 ·have h0:0 < s.Lists.length:=by omega
  exact ⟨_,h.list h0,by rw [e]; exact BP (i:=0) h0⟩
 ·have h1:1 < s.Lists.length:=by omega
  exact ⟨_,h.list h1,by rw [e]; exact BP (i:=1) h1⟩
theorem Tb {s:Aa} {i:Int} {c:Av} {L:Am} (hc:idx s.Columns i = some c) (hL:idx s.Lists c.List_ = some L) (hL2:L∈Sx):Cl s i = some (Bl L):=by
 have h:=KC hL2
 have h2:=h.lev2
 have h3:=h.lev3
 unfold Cl
 rw [hc,Option.bind_some,hL,Option.bind_some,h.rlev,Option.bind_some,wr,h.rleaves]
 rfl
theorem NZ:(Sx.all fun l=>decide ((Bl l).length≤10)) = true:=by decide +kernel
theorem fm (h:DS s) {c:Ab} (hc:Hc c) {i:Nat} (hi:i < s.Columns.length):Ok (FA c s i) fun r=>Hc r.2∧W1 s s.Columns[i] r.1:=by
 unfold FA
 refine Ok.idxn hi ?_
 have hidx:idx s.Columns (i:Int) = some s.Columns[i]:=BP hi
 generalize hcc:s.Columns[i] = cl at hidx ⊢
 have hcol:=h.cl hi
 rw [hcc] at hcol
 rcases hcol with ⟨rfl,e⟩ | ⟨h0,h1 | h1⟩
 ·subst e
  refine Ok.yes rfl (Ok.bind (G6 hc (by omega) (by omega) (by omega) (by omega)) fun x hx=>Ok.some ⟨hx.1,.inl ⟨rfl,hx.2.1,by show x.1≤1000; omega⟩⟩)
 ·obtain ⟨L,hL,hL2⟩:=h.clist h1
  have hcl:=KC hL
  refine Ok.no (by rw [h1.kind]; rfl) (Ok.yes (by rw [h1.kind]; rfl) (Ok.bindE (Tb hidx hL2 hL) ?_))
  have hs:(Bl L).length≤10:=by have:=List.all_eq_true.1 NZ L hL; simpa using this
  have hne:0 < (Bl L).length:=List.length_pos_iff.2 hcl.some_
  refine Ok.bind (Dy hc (by omega) (by omega)) fun x hx=>?_
  refine Ok.idx hx.2.1 (by omega) (Ok.some ⟨hx.1,.inr (.inl ⟨h1.kind,L,hL,hL2,List.getElem_mem _⟩)⟩)
 ·obtain ⟨h2,h3⟩:=h1.low
  obtain ⟨h4,h5⟩:=h1.high
  refine Ok.no (by rw [h1.kind]; rfl) (Ok.no (by rw [h1.kind]; rfl) ?_)
  have rg:∀ {c':Ab},Hc c'→Ok ((AJ c' cl.Low cl.High).bind fun x43=>some (x43.1,x43.2)) fun r=>Hc r.2∧W1 s cl r.1:=fun hc' =>
   Ok.bind (G6 hc' h4 (by omega) (by omega) (by omega)) fun x hx=>Ok.some ⟨hx.1,.inr (.inr ⟨h1.kind,.inl hx.2⟩)⟩
  refine Ok.br (fun ho=>Ok.bind (NE hc (by omega) (by omega)) fun x hx=>Ok.br (fun _=>Ok.some ⟨hx,.inr (.inr ⟨h1.kind,.inr ⟨ho,rfl⟩⟩)⟩) fun _=>rg hx) fun _=>rg hc
theorem e9 (h:DS s) {c:Ab} (hc:Hc c):Ok (Hs c s) fun r=>Hc r.2∧Nu s r.1:=by
 have hl:=h.cols_length
 unfold Hs
 refine Ok.for (fun q=>q.1) s.Columns.length (fun i q=>Hc q.2.1∧q.2.2.length = i∧∀ (k:Nat) c v,s.Columns[k]? = some c→q.2.2[k]? = some v→W1 s c v) 0 (Nat.zero_le _) rfl ⟨hc,rfl,fun k c v _ h=>by simp at h⟩ (by omega) (fun rec q hq hI=>?_) fun rec i q hi hq hI ih=>?_
 ·simp only [GW,hq]
  rw [Ba]
  exact Ok.some ⟨hI.1,hI.2.1,hI.2.2⟩
 ·simp only [GW,hq]
  rw [AK]
  refine Ok.bind (fm h hI.1 hi) fun x hx=>Ok.rm (by rw [hI.2.1]; simp; omega) (ih _ Dv ⟨hx.1,by simp [hI.2.1],fun k cc v hk hv=>?_⟩)
  rw [List.getElem?_append] at hv
  split at hv
  ·exact hI.2.2 k cc v hk hv
  ·rename_i hlt
   have hk0:k = i:=by
    have:=(List.getElem?_eq_some_iff.1 hv).1
    simp at this; omega
   subst hk0
   rw [hI.2.1] at hv
   simp at hv
   rw [List.getElem?_eq_getElem hi] at hk
   cases hk; subst hv
   exact hx.2
def hd (r:List Int):Int:=r.headD 0
theorem FM {r:List Int} (h:r≠[]):idx r 0 = some (hd r):=by
 cases r with
 | nil=>exact absurd rfl h
 | cons a q=>rfl
def f6 (l:List (List Int)):Prop:=l.Pairwise fun a b=>hd a < hd b
def IS (l:List (List Int)) (row:List Int):List (List Int):=l.filter (fun x=>decide (hd x < hd row))++row :: l.filter (fun x=>decide (hd row < hd x))
theorem Rn {l:List (List Int)} {row:List Int} (h:f6 l):f6 (IS l row):=by
 unfold f6 IS
 rw [List.pairwise_append,List.pairwise_cons]
 refine ⟨h.sublist List.filter_sublist,⟨fun x hx=>?_,h.sublist List.filter_sublist⟩,fun x hx y hy=>?_⟩
 ·have:=(List.mem_filter.1 hx).2; simpa using this
 ·have h1:=(List.mem_filter.1 hx).2
  rcases List.mem_cons.1 hy with rfl | hy
  ·simpa using h1
  ·have h2:=(List.mem_filter.1 hy).2
   simp at h1 h2; omega
theorem R7 {l:List (List Int)} {row x:List Int} (h:x∈IS l row):x = row∨x∈l:=by
 unfold IS at h
 rcases List.mem_append.1 h with h | h
 ·exact .inr (List.mem_filter.1 h).1
 ·rcases List.mem_cons.1 h with h | h
  ·exact .inl h
  ·exact .inr (List.mem_filter.1 h).1
theorem K4 (l:List (List Int)) (row:List Int):(IS l row).length≤l.length + 1:=by
 unfold IS
 rw [List.length_append,List.length_cons]
 have:(l.filter (fun x=>decide (hd x < hd row))).length + (l.filter (fun x=>decide (hd row < hd x))).length≤l.length:=by
  induction l with
  | nil=>simp
  | cons a r ih =>
    simp only [List.filter_cons,List.length_cons]
    by_cases h1:hd a < hd row <;> by_cases h2:hd row < hd a <;> simp [h1,h2] <;> omega
 omega
theorem Ny {α:Type} (l:List α) (p:α→Bool) {i:Nat} (hi:i < l.length):(l.take (i + 1)).filter p = (l.take i).filter p++if p l[i] then [l[i]] else []:=by
 rw [List.take_succ_eq_append_getElem hi,List.filter_append]
 congr 1
 simp only [List.filter_cons,List.filter_nil]
theorem Yl {l:List (List Int)} {row:List Int} (hl:∀ x∈l,x≠[]) (hr:row≠[]) (hs:f6 l) (hlen:l.length≤1000000):Lv l row = some (IS l row):=by
 refine Ok.val ?_
 unfold Lv
 refine Ok.for (fun q=>q.2.1) l.length (fun i q=>(q.1 = false∧(∀ x∈l.take i,hd x≤hd row)∧q.2.2 = (l.take i).filter (fun x=>decide (hd x < hd row))) ∨
  (q.1 = true∧(∃ x∈l.take i,hd row < hd x)∧q.2.2 = (l.take i).filter (fun x=>decide (hd x < hd row))++row :: (l.take i).filter (fun x=>decide (hd row < hd x)))) 0 (Nat.zero_le _) rfl (.inl ⟨rfl,by simp,by simp⟩) (by omega) (fun rec q hq hI=>?_) fun rec i q hi hq hI ih=>?_
 ·simp only [Lj,hq]
  rw [Ba]
  rw [List.take_length] at hI
  rcases hI with ⟨h1,h2,h3⟩ | ⟨h1,h2,h3⟩
  ·rw [h1]
   refine Ok.yes rfl (Ok.rm ?_ (Ok.some ?_))
   ·rw [h3]; have:=List.length_filter_le (fun x=>decide (hd x < hd row)) l; simp; omega
   ·rw [h3,IS]
    congr 2
    symm
    rw [List.filter_eq_nil_iff]
    intro x hx
    have:=h2 x hx
    simp; omega
  ·rw [h1]
   exact Ok.no rfl (Ok.some h3)
 ·simp only [Lj,hq]
  rw [AK]
  have hne:=hl _ (List.getElem_mem hi)
  have hmem:∀ x∈l.take i,hd x < hd l[i]:=by
   intro x hx
   obtain ⟨k,hk,rfl⟩:=List.mem_iff_getElem.1 hx
   have hk2:k < i:=by simp at hk; omega
   rw [List.getElem_take]
   exact (List.pairwise_iff_getElem.1 hs) k i (by omega) hi hk2
  have hf1:=Ny l (fun x=>decide (hd x < hd row)) hi
  have hf2:=Ny l (fun x=>decide (hd row < hd x)) hi
  have hlen1:q.2.2.length≤i + 1:=by
   have e0:(l.take i).length = i:=by simp; omega
   have e1:((l.take i).filter (fun x=>decide (hd x < hd row))).length + ((l.take i).filter (fun x=>decide (hd row < hd x))).length≤i:=by
    have:=K4 (l.take i) row
    unfold IS at this
    rw [List.length_append,List.length_cons,e0] at this
    omega
   rcases hI with ⟨_,_,h3⟩ | ⟨_,_,h3⟩
   ·rw [h3]; omega
   ·rw [h3,List.length_append,List.length_cons]; omega
  refine Ok.idxn hi (Ok.bindE (FM hne) (Ok.bindE (FM hr) (Ok.br (fun heq=>ih _ Dv ?_) fun hneq=>?_)))
  ·have heq:hd l[i] = hd row:=by simpa using heq
   rw [hf1,hf2]
   have e1:decide (hd l[i] < hd row) = false:=df
   have e2:decide (hd row < hd l[i]) = false:=df
   simp only [e1,e2,Bool.false_eq_true,if_false,List.append_nil]
   rcases hI with ⟨h1,h2,h3⟩ | ⟨h1,h2,h3⟩
   ·refine .inl ⟨h1,fun x hx=>?_,h3⟩
    rw [List.take_succ_eq_append_getElem hi] at hx
    rcases List.mem_append.1 hx with hx | hx
    ·exact h2 x hx
    ·simp at hx; subst hx; omega
   ·obtain ⟨x,hx,hx2⟩:=h2
    have:=hmem x hx
    omega
  ·have hneq:hd l[i]≠hd row:=by simpa using hneq
   refine Ok.idxn hi (Ok.bindE (FM hne) (Ok.bindE (FM hr) (Ok.br (fun hc=>?_) fun hc=>?_)))
   ·
    obtain ⟨hgt,hnd⟩:hd row < hd l[i]∧q.1 = false:=by
     by_cases hg:hd l[i] > hd row
     ·rw [decide_eq_true hg] at hc; exact ⟨hg,by simpa using hc⟩
     ·rw [decide_eq_false hg] at hc; cases hc
    rcases hI with ⟨h1,h2,h3⟩ | ⟨h1,h2,h3⟩
    ·refine Ok.rm (by simp; omega) (Ok.idxn hi (Ok.rm (by simp; omega) (ih _ Dv (.inr ⟨rfl,⟨l[i],?_,hgt⟩,?_⟩))))
     ·rw [List.take_succ_eq_append_getElem hi]; exact List.mem_append_right _ (List.mem_singleton.2 rfl)
     ·rw [hf1,hf2,df,decide_eq_true hgt,h3]
      have:(l.take i).filter (fun x=>decide (hd row < hd x)) = []:=by
       rw [List.filter_eq_nil_iff]
       intro x hx
       have:=h2 x hx
       simp; omega
      rw [this]
      simp
    ·rw [h1] at hnd; cases hnd
   ·refine Ok.idxn hi (Ok.rm (by simp; omega) (ih _ Dv ?_))
    rw [hf1,hf2]
    rcases hI with ⟨h1,h2,h3⟩ | ⟨h1,h2,h3⟩
    ·have hlt:hd l[i] < hd row:=by
      by_cases hg:hd l[i] > hd row
      ·rw [decide_eq_true hg,h1] at hc; cases hc
      ·omega
     refine .inl ⟨h1,fun x hx=>?_,by rw [decide_eq_true hlt,h3]; simp⟩
     rw [List.take_succ_eq_append_getElem hi] at hx
     rcases List.mem_append.1 hx with hx | hx
     ·exact h2 x hx
     ·simp at hx; subst hx; omega
    ·obtain ⟨x,hx,hx2⟩:=h2
     have hxi:=hmem x hx
     refine .inr ⟨h1,⟨x,?_,hx2⟩,?_⟩
     ·rw [List.take_succ_eq_append_getElem hi]; exact List.mem_append_left _ hx
     ·rw [decide_eq_false (by omega:¬ hd l[i] < hd row),decide_eq_true (by omega:hd row < hd l[i]),h3]
      simp
structure Tp (x:BC) (n:Nat):Prop where
 schema:DS x.Schema
 rows:∀ r∈x.Rows,Nu x.Schema r
 asc:f6 x.Rows
 len:x.Rows.length≤n
 gone:x.Gone = []
 version:x.Version = 0
theorem Nu.ne (h:DS s) {r:List Int} (hr:Nu s r):r≠[]:=by
 intro e
 have:=hr.1
 have:=h.cols_length
 rw [e] at *
 simp at *
 omega
theorem dr {c:Ab} (hc:Hc c) {n:Nat} (hn:n≤50):Ok (Ck c n) fun r=>Hc r.2∧Tp r.1 n:=by
 unfold Ck
 refine Ok.bind (Td hc) fun x hx=>?_
 have e:IntKind.i64.wrap ((n:Int) + 1) = (n:Int) + 1:=wr
 rw [e]
 refine Ok.bind (Dy hx.1 (by omega) (by omega)) fun y hy=>?_
 obtain ⟨hy1,hy2,hy3⟩:=hy
 refine Ok.loop (fun q=>0≤q.1∧Hc q.2.1∧(∀ r∈q.2.2,Nu x.1 r)∧f6 q.2.2∧(q.2.2.length:Int) + q.1≤n) (fun q=>q.1.toNat) ⟨hy2,hy1,(fun r hr=>by cases hr),List.Pairwise.nil,by show ((0:Nat):Int) + y.1≤n; omega⟩ (by unfold A8; show y.1.toNat < _; omega) fun rec q hq ih=>?_
 obtain ⟨h0,h1,h2,h3,h4⟩:=hq
 simp only [Fo]
 refine Ok.brd (fun hp=>Ok.bind (e9 hx.2 h1) fun z hz=>?_) fun hp=>?_
 ·have hput:=Yl (l:=q.2.2) (row:=z.1) (fun r hr=>(h2 r hr).ne hx.2) (hz.2.ne hx.2) h3 (by omega)
  have hpl:=K4 q.2.2 z.1
  refine Ok.bindE hput (ih _ ⟨?_,hz.1,fun r hr=>?_,Rn h3,?_⟩ ?_)
  ·show 0≤IntKind.i64.wrap (q.1 - 1); rw [wr]; omega
  ·rcases R7 hr with rfl | hr
   ·exact hz.2
   ·exact h2 r hr
  ·show ((IS q.2.2 z.1).length:Int) + IntKind.i64.wrap (q.1 - 1)≤n; rw [wr]; omega
  ·show (IntKind.i64.wrap (q.1 - 1)).toNat < q.1.toNat; rw [wr]; omega
 ·exact Ok.some ⟨h1,hx.2,h2,h3,by show q.2.2.length≤n; omega,rfl,rfl⟩
end Go.Proofs.YtejfnieiaecpkaaGreatDoor.P
namespace Go.Proofs.YtejfnieiaecpkaaGreatDoor.P
open Go Go.Abs Go.Proofs
set_option maxRecDepth 100000
variable {s:Aa}
abbrev DD:Nat:=60
def QI:Af:={ Op:=1,Column:=0,Code:=0,Low:=0,High:=0,Kids:=[] }
def Rm:Af:={ Op:=0,Column:=0,Code:=0,Low:=0,High:=0,Kids:=[] }
theorem DS.rcond_all (h:DS s):B0 DD s QI = some 0:=by unfold B0; rw [h.rcheck]; rfl
def cO (s:Aa) (c:Av):Int:=if c.Kind = 2 then HI ((idx s.Lists c.List_).getD { Name:=TX,Codes:=[] }) - 1 else c.Widths.length
def fin (s:Aa) (i:Nat):Int:=cO s (s.Columns[i]?.getD iI)
theorem Em {i:Nat} (hi:i < s.Columns.length):fin s i = cO s s.Columns[i]:=by unfold fin; rw [List.getElem?_eq_getElem hi]; rfl
theorem C0 {c:Av} (h:CS c):1≤c.Widths.length∧c.Widths.length≤4:=by rcases cX h.widths with e | e | e | e <;> (rw [e]; decide)
theorem IF {c:Av} (h:HD c) {L:Am} (hL:idx s.Lists c.List_ = some L):cO s c = HI L - 1:=by unfold cO; rw [if_pos h.kind,hL]; rfl
theorem C6 {c:Av} (h:CS c):cO s c = c.Widths.length:=by unfold cO; rw [if_neg (by rw [h.kind]; decide)]
theorem DS.fin_ok (h:DS s) {i:Nat} (h0:1≤i) (hi:i < s.Columns.length):1≤fin s i∧fin s i≤4:=by
 rw [Em hi]
 rcases h.col h0 hi with h1 | h1
 ·obtain ⟨L,hL,hL2⟩:=h.clist h1
  have:=KC hL
  rw [IF h1 hL2]
  have:=this.lev2; have:=(KC hL).lev3
  omega
 ·have:=C0 h1
  rw [C6 h1]
  omega
theorem DS.rfinest (h:DS s) {i:Nat} (h0:1≤i) (hi:i < s.Columns.length):BB s i = some (fin s i):=by
 have hc:=h.cols_length
 unfold BB
 rw [h.rcheck,Option.bind_some,df,df]
 show (idx s.Columns (i:Int)).bind _ = _
 rw [BP hi,Option.bind_some,Em hi]
 rcases h.col h0 hi with h1 | h1
 ·obtain ⟨L,hL,hL2⟩:=h.clist h1
  have:=KC hL
  have h2:=this.lev2; have h3:=this.lev3
  rw [h1.kind,IF h1 hL2]
  show (idx s.Lists _).bind _ = _
  rw [hL2,Option.bind_some,this.rlev,Option.bind_some,wr]
 ·rw [h1.kind,C6 h1]; rfl
theorem DS.pfinest (h:DS s) {i:Nat} (h0:1≤i) (hi:i < s.Columns.length):Fv s i = some (fin s i):=by
 have hc:=h.cols_length
 unfold Fv
 rw [df,df]
 show (idx s.Columns (i:Int)).bind _ = _
 rw [BP hi,Option.bind_some,Em hi]
 rcases h.col h0 hi with h1 | h1
 ·obtain ⟨L,hL,hL2⟩:=h.clist h1
  have:=KC hL
  have h2:=this.lev2; have h3:=this.lev3
  rw [h1.kind,IF h1 hL2]
  show (idx s.Lists _).bind _ = _
  rw [hL2,Option.bind_some,this.lev,Option.bind_some,wr]
 ·rw [h1.kind,C6 h1]; rfl
theorem DS.pFinest (h:DS s) {i:Nat} (h0:1≤i) (hi:i < s.Columns.length):Er s i = some (fin s i):=by
 unfold Er
 rw [h.check,Option.bind_some,h.pfinest h0 hi]
 rfl
def cw:AG:={ Name:=({ data:=#[113] }:ByteArray),Kind:=1,Filter:=QI,Dims:=[({ Column:=1,Level:=0 }:Ae)],Measure:=(-1),Terms:=[],Event:=Rm }
def cQ:Az:={ Project:=({ data:=#[97,108,108,95,114,111,119,115] }:ByteArray),Source:=({ data:=#[115,114,99] }:ByteArray),Cohort:=QI,Sample:=({ Part:=1,Of:=1,Seed:=0 }:H4),Questions:=[cw] }
def E3 (s:Aa):List Ae:=(List.range (s.Columns.length - 1)).map fun k=>{ Column:=((k + 1:Nat):Int),Level:=fin s (k + 1) }
theorem fq (h:DS s):MZ s = some (cQ,E3 s):=by
 have hc:=h.cols_length
 refine Ok.val ?_
 unfold MZ
 refine Ok.for (fun q=>q.1) s.Columns.length (fun i q=>1≤i∧q.2 = (List.range (i - 1)).map fun k=>{ Column:=((k + 1:Nat):Int),Level:=fin s (k + 1) }) 1 (by omega) rfl ⟨by omega,rfl⟩ (by omega) (fun rec q hq hI=>?_) fun rec i q hi hq hI ih=>?_
 ·simp only [M6,hq]
  rw [Ba,hI.2]
  exact Ok.some rfl
 ·obtain ⟨h0,hI⟩:=hI
  simp only [M6,hq]
  rw [AK]
  refine Ok.bindE (h.rfinest h0 hi) (Ok.rm (by rw [hI]; simp; omega) (ih _ Dv ⟨by omega,?_⟩))
  show q.2++[_] = _
  rw [hI]
  obtain ⟨j,rfl⟩:∃ j,i = j + 1:=⟨i - 1,by omega⟩
  simp [List.range_succ]
theorem fD {p:Ae} (h:DS s) {i:Nat} (h0:1≤i) (hi:i < s.Columns.length) (hp:p.Column = i) (hl:0≤p.Level) (hl2:p.Level≤fin s i):Gv s p = some 0:=by
 unfold Gv
 rw [h.rcheck,Option.bind_some,hp,df,df]
 show (BB s (i:Int)).bind _ = _
 rw [h.rfinest h0 hi,Option.bind_some,HX,Option.bind_some,decide_eq_true ⟨hl,hl2⟩]
 rfl
theorem DK {k:Nat} (hk:k < (E3 s).length):(E3 s)[k] = { Column:=((k + 1:Nat):Int),Level:=fin s (k + 1) }:=by simp [E3]
theorem Ij:(E3 s).length = s.Columns.length - 1:=by simp [E3]
theorem Vy (h:DS s):Dq s (E3 s) = some 0:=by
 have hc:=h.cols_length
 have hl:=Ij (s:=s)
 refine Ok.val ?_
 unfold Dq
 refine Ok.bindE h.rcheck (Ok.no rfl ?_)
 refine Ok.for (fun q=>q) (E3 s).length (fun _ _=>True) 0 (Nat.zero_le _) rfl trivial (by omega) (fun rec q hq _=>?_) fun rec i q hi hq _ ih=>?_
 ·simp only [DV,hq]
  rw [Ba]
  exact Ok.some rfl
 ·simp only [DV,hq]
  rw [AK]
  have hf:=h.fin_ok (i:=i + 1) (by omega) (by omega)
  refine Ok.idxn hi (Ok.bindE (fD h (i:=i + 1) (by omega) (by omega) (by rw [DK hi]) (by rw [DK hi]; show 0≤fin s (i + 1); omega) (by rw [DK hi]; exact Int.le_refl _)) (Ok.no rfl (Ok.brd (fun h1=>Ok.idxn hi ?_) fun _=>ih _ Dv trivial)))
  have e:IntKind.i64.wrap ((i:Int) - 1) = ((i - 1:Nat):Int):=by rw [wr]; omega
  rw [e]
  refine Ok.idxn (by omega:i - 1 < (E3 s).length) (Ok.brd (fun h2=>?_) fun _=>ih _ Dv trivial)
  rw [DK hi,DK (by omega:i - 1 < (E3 s).length)] at h2
  simp only at h2
  omega
theorem iV (h:DS s):Hp s [({ Column:=1,Level:=0 }:Ae)] = some 0:=by
 have hc:=h.cols_length
 have hf:=h.fin_ok (i:=1) (by omega) (by omega)
 have hk:s.Columns[1].Kind = 2:=by
  obtain ⟨j,ms,e,_⟩:=h.cols
  have:s.Columns[1]? = some j7:=by rw [e]; cases j <;> rfl
  rw [List.getElem?_eq_getElem (by omega)] at this
  rw [Option.some.inj this]; rfl
 refine Ok.val ?_
 unfold Hp
 refine Ok.no rfl ?_
 refine Ok.for (fun q=>q) 1 (fun _ _=>True) 0 (Nat.zero_le _) rfl trivial (by omega) (fun rec q hq _=>?_) fun rec i q hi hq _ ih=>?_
 ·simp only [GP,hq]
  exact Ok.no rfl (Ok.some rfl)
 ·obtain rfl:i = 0:=by omega
  simp only [GP,hq]
  refine Ok.yes rfl (Ok.bindE (x:=({ Column:=1,Level:=0 }:Ae)) rfl (Ok.bindE (fD h (i:=1) (by omega) (by omega) rfl (by show (0:Int)≤0; omega) (by show (0:Int)≤fin s 1; omega)) (Ok.no rfl (Ok.bindE (x:=({ Column:=1,Level:=0 }:Ae)) rfl (Ok.bindE (x:=true) ?_ (Ok.no rfl ?_))))))
  ·unfold Hr
   rw [decide_eq_true (by decide),decide_eq_true (by show (1:Int) < _; omega)]
   show (idx s.Columns ((1:Nat):Int)).bind _ = _
   rw [BP (by omega:1 < s.Columns.length),Option.bind_some,hk]
   rfl
  ·refine Ok.for (fun q=>q) 0 (fun _ _=>True) 0 (Nat.zero_le _) rfl trivial (by omega) (fun rec q hq _=>?_) fun rec i q hi hq _ ih=>absurd hi (by omega)
   simp only [HL,hq]
   exact Ok.no rfl (ih _ rfl trivial)
theorem Te (h:DS s):Di DD s cw = some 0:=by
 refine Ok.val ?_
 unfold Di
 refine Ok.bindE h.rcheck (Ok.no rfl (Ok.bindE (x:=true) (by decide +kernel) (Ok.no rfl (Ok.no rfl (Ok.bindE h.rcond_all (Ok.no rfl (Ok.bindE (x:=0) ?_ (Ok.no rfl (Ok.no rfl (Ok.yes rfl (Ok.bindE (x:=true) rfl (Ok.no rfl (Ok.some rfl)))))))))))))
 unfold K0
 refine Ok.val (Ok.bindE (x:=false) ?_ (Ok.yes rfl (Ok.bindE (iV h) (Ok.no rfl (Ok.no rfl (Ok.some rfl))))))
 unfold Hr
 rfl
theorem RG (h:DS s):Fg DD s cQ = some 0:=by
 refine Ok.val ?_
 unfold Fg
 refine Ok.bindE h.rcheck (Ok.no rfl (Ok.bindE (x:=true) (by decide +kernel) (Ok.no rfl (Ok.bindE (x:=true) (by decide +kernel) (Ok.no rfl ?_)))))
 unfold Hq
 refine Ok.bindE h.rcond_all (Ok.no rfl (Ok.no rfl (Ok.no rfl ?_)))
 refine Ok.for (fun q=>q) 1 (fun _ _=>True) 0 (Nat.zero_le _) rfl trivial (by omega) (fun rec q hq _=>?_) fun rec i q hi hq _ ih=>?_
 ·simp only [F9,hq]
  exact Ok.no rfl (Ok.some rfl)
 ·obtain rfl:i = 0:=by omega
  simp only [F9,hq]
  refine Ok.yes rfl (Ok.bindE (x:=cw) rfl (Ok.bindE (Te h) (Ok.no rfl ?_)))
  refine Ok.for (fun q=>q) 0 (fun _ _=>True) 0 (Nat.zero_le _) rfl trivial (by omega) (fun rec q hq _=>?_) fun rec i q hi hq _ ih=>absurd hi (by omega)
  simp only [Hk,hq]
  exact Ok.no rfl (ih _ rfl trivial)
theorem YP (h:DS s):Ct DD s QI = some []:=by
 unfold Ct
 rw [h.rcond_all]
 rfl
theorem fZ (h:DS s):Cp s 1 0 = some 0:=by
 have hc:=h.cols_length
 have hf:=h.fin_ok (i:=1) (by omega) (by omega)
 refine Ok.val ?_
 unfold Cp
 refine Ok.bindE (h.rfinest (i:=1) (by omega) (by omega)) ?_
 rw [HX,Option.bind_some,dt]
 refine Ok.no rfl ?_
 refine Ok.loop (fun q=>q = 0) (fun _=>0) rfl (by unfold A8; omega) fun rec q hq ih=>?_
 subst hq
 unfold FO
 refine Ok.bindE (x:=true) ?_ (Ok.no rfl (Ok.some rfl))
 unfold DG
 refine Ok.val (Ok.idxn (i:=1) (by omega) (Ok.yes rfl (Ok.some rfl)))
theorem rneeds (h:DS s):FP DD s cw = some []:=by
 have hc:=h.cols_length
 refine Ok.val ?_
 unfold FP
 refine Ok.bindE (Te h) (Ok.no rfl (Ok.bindE (YP h) (Ok.no rfl ?_)))
 unfold Ez
 refine Ok.for (fun q=>q.2) 1 (fun _ q=>q.1 = []) 0 (Nat.zero_le _) rfl rfl (by omega) (fun rec q hq hI=>?_) fun rec i q hi hq hI ih=>?_
 ·simp only [FJ,hq,hI]
  refine Ok.no rfl ?_
  refine Ok.for (fun q=>q.2) s.Columns.length (fun _ q=>q.1 = []) 1 (by omega) rfl rfl (by omega) (fun rec q hq hI=>?_) fun rec i q hi hq hI ih=>?_
  ·simp only [FH,hq,hI]
   rw [Ba]
   exact Ok.some rfl
  ·simp only [FH,hq,hI]
   rw [AK]
   refine Ok.bindE (x:=false) ?_ (Ok.no rfl (ih _ Dv rfl))
   unfold L8
   have e:(cw.Measure==(i:Int)) = false:=by
    rw [beq_eq_false_iff_ne]; show (-1:Int)≠_; omega
   rw [e]
   rfl
 ·obtain rfl:i = 0:=by omega
  simp only [FJ,hq,hI]
  refine Ok.yes rfl (Ok.bindE (x:=({ Column:=1,Level:=0 }:Ae)) rfl (Ok.bindE (x:=({ Column:=1,Level:=0 }:Ae)) rfl (Ok.bindE (x:=({ Column:=1,Level:=0 }:Ae)) rfl (Ok.bindE (fZ h) (Ok.bindE (x:=[]) rfl (ih _ rfl rfl))))))
theorem aa (h:DS s):Hu DD s cQ (E3 s) = some 0:=by
 refine Ok.val ?_
 unfold Hu
 refine Ok.bindE (RG h) (Ok.no rfl (Ok.bindE (Vy h) (Ok.no rfl ?_)))
 refine Ok.for (fun q=>q) 1 (fun _ _=>True) 0 (Nat.zero_le _) rfl trivial (by omega) (fun rec q hq _=>?_) fun rec i q hi hq _ ih=>?_
 ·simp only [FN,hq]
  exact Ok.no rfl (Ok.some rfl)
 ·obtain rfl:i = 0:=by omega
  simp only [FN,hq]
  refine Ok.yes rfl (Ok.bindE (x:=cw) rfl (Ok.bindE (x:=true) ?_ (Ok.no rfl (ih _ rfl trivial))))
  unfold HW
  refine Ok.val (Ok.bindE (Te h) (Ok.yes rfl (Ok.bindE (Vy h) (Ok.yes rfl (Ok.bindE (rneeds h) (Ok.bindE (x:=true) rfl (Ok.some rfl)))))))
end Go.Proofs.YtejfnieiaecpkaaGreatDoor.P
namespace Go.Proofs.YtejfnieiaecpkaaGreatDoor.P
open Go Go.Abs Go.Proofs
set_option maxRecDepth 100000
variable {s:Aa}
def dJ:H4:={ Part:=1,Of:=1,Seed:=0 }
theorem iK (id:Int) (h0:1≤id) (h1:id≤1048575):LE dJ id = some true:=by
 refine Ok.val ?_
 unfold LE
 refine Ok.bindE (x:=0) rfl (Ok.yes (by simp [h0,h1]) ?_)
 obtain ⟨v,hv⟩:∃ v,Md dJ.Seed id = some v:=⟨_,rfl⟩
 refine Ok.bindE hv (Ok.gdd (by decide) (Ok.some ?_))
 show decide (Int.tmod v 1 < 1) = true
 rw [Int.tmod_one]
 rfl
theorem aL {n:Int} (h0:0≤n) (h1:n < 18446744073709551616):0≤Int.fdiv n 18014398509481984∧Int.fdiv n 18014398509481984≤1023:=by
 rw [Int.fdiv_eq_ediv_of_nonneg _ (by omega)]
 omega
theorem W5 (n:Int):0≤IntKind.u64.wrap n∧IntKind.u64.wrap n < 18446744073709551616:=by
 unfold IntKind.wrap
 simp only [IntKind.signed,IntKind.bits]
 simp
 omega
theorem f7 (sec r c:Int):Ok (K6 sec r c) fun x=>0≤x∧x≤1023:=by
 unfold K6
 refine Ok.br (fun _=>Ok.some (by omega)) fun _=>?_
 refine Ok.for (fun q=>q.2) 3 (fun _ q=>0≤q.1∧q.1 < 18446744073709551616) 0 (Nat.zero_le _) rfl (W5 _) (by omega) (fun rec q hq hI=>?_) fun rec i q hi hq hI ih=>?_
 ·simp only [J4,hq]
  refine Ok.no rfl (Ok.some ?_)
  have e:(2:Int) ^ (min (54:Int).toNat IntKind.u64.bits) = 18014398509481984:=by decide
  rw [e]
  have:=aL hI.1 hI.2
  rw [wr]
  exact this
 ·simp only [J4,hq]
  rw [AK]
  exact ih _ Dv (W5 _)
theorem cF {a b:Int} (ha:0≤a∧a≤1023) (hb:0≤b∧b≤1023):0≤IntKind.i64.wrap (((BitVec.ofInt IntKind.i64.bits a ^^^ BitVec.ofInt IntKind.i64.bits b).toNat:Nat):Int)∧IntKind.i64.wrap (((BitVec.ofInt IntKind.i64.bits a ^^^ BitVec.ofInt IntKind.i64.bits b).toNat:Nat):Int)≤1023:=by
 obtain ⟨m,rfl⟩:∃ m:Nat,a = m:=⟨a.toNat,by omega⟩
 obtain ⟨n,rfl⟩:∃ n:Nat,b = n:=⟨b.toNat,by omega⟩
 have e:(BitVec.ofInt IntKind.i64.bits (m:Int) ^^^ BitVec.ofInt IntKind.i64.bits (n:Int)).toNat = m ^^^ n:=by
  rw [BitVec.toNat_xor,BitVec.ofInt_natCast,BitVec.ofInt_natCast,BitVec.toNat_ofNat,BitVec.toNat_ofNat]
  have h1:m % 2 ^ IntKind.i64.bits = m:=Nat.mod_eq_of_lt (by show m < 2 ^ 64; omega)
  have h2:n % 2 ^ IntKind.i64.bits = n:=Nat.mod_eq_of_lt (by show n < 2 ^ 64; omega)
  rw [h1,h2]
 rw [e]
 have:m ^^^ n < 2 ^ 10:=Nat.xor_lt_two_pow (by omega) (by omega)
 rw [wr]
 omega
theorem fe {sec id:Int} (hs0:0≤sec) (hs1:sec < 1152921504606846976) (h0:0≤id) (h1:id < 1048576):Ok (NB sec id) fun x=>0≤x∧x≤1048575:=by
 unfold NB
 refine Ok.bindE (x:=true) ?_ (Ok.no rfl ?_)
 ·unfold Mv
  rw [decide_eq_true hs0,decide_eq_true hs1,decide_eq_true h0,decide_eq_true h1]
  rfl
 ·have e1:0≤Int.tdiv id 1024∧Int.tdiv id 1024≤1023:=by rw [Int.tdiv_eq_ediv_of_nonneg h0]; omega
  have e2:0≤Int.tmod id 1024∧Int.tmod id 1024≤1023:=by rw [Int.tmod_eq_emod_of_nonneg h0]; omega
  refine Ok.for (fun q=>q.2.2) 8 (fun _ q=>(0≤q.1∧q.1≤1023)∧(0≤q.2.1∧q.2.1≤1023)) 0 (Nat.zero_le _) rfl ⟨by show 0≤IntKind.i64.wrap _∧IntKind.i64.wrap _≤1023; rw [wr]; exact e1,e2⟩ (by omega) (fun rec q hq hI=>?_) fun rec i q hi hq hI ih=>?_
  ·obtain ⟨⟨a1,a2⟩,b1,b2⟩:=hI
   simp only [Lb,hq]
   refine Ok.no rfl (Ok.some ?_)
   rw [wr (n:=q.1 * 1024) (by omega) (by omega),wr]
   omega
  ·simp only [Lb,hq]
   rw [AK]
   refine Ok.bind (f7 _ _ _) fun x hx=>ih _ Dv ⟨hI.2,cF hI.1 hx⟩
theorem V9 (h:DS s) {i:Nat} (hi:i < s.Columns.length) {v:Int} (hv:W1 s s.Columns[i] v):IR s i v = some true:=by
 refine Ok.val ?_
 unfold IR
 refine Ok.idxn hi ?_
 rcases hv with ⟨hk,h1,h2⟩ | ⟨hk,L,hL,hL2,h1⟩ | ⟨hk,h1⟩
 ·refine Ok.yes (by rw [hk]; rfl) ?_
  rw [HX,dt]
  exact Ok.some rfl
 ·have hc:=KC hL
  obtain ⟨h2,h3,h4,_,_⟩:=hc.leaf v h1
  have h5:=hc.lev2; have h6:=hc.lev3
  have hlen:L.Codes.length≤100:=by
   have:(Sx.all fun l=>decide (l.Codes.length≤100)) = true:=by decide +kernel
   simpa using List.all_eq_true.1 this L hL
  refine Ok.no (by rw [hk]; rfl) (Ok.yes (by rw [hk]; rfl) (Ok.bindE hL2 ?_))
  rw [HX,Option.bind_some,decide_eq_true (by rw [wr]; omega)]
  refine Ok.yes rfl (Ok.bindE h4 (Ok.bindE hc.rlev (Ok.some ?_)))
  rw [wr]
  exact beq_self_eq_true _
 ·refine Ok.no (by rw [hk]; rfl) (Ok.no (by rw [hk]; rfl) (Ok.br (fun _=>Ok.some rfl) fun hn=>?_))
  rcases h1 with h1 | ⟨ho,rfl⟩
  ·rw [HX,dt]
   exact Ok.some rfl
  ·rw [ho] at hn
   cases hn
theorem iE (h:DS s) {r:List Int} (hr:Nu s r):Kd s r = some 0:=by
 have hc:=h.cols_length
 refine Ok.val ?_
 unfold Kd
 refine Ok.bindE h.rcheck (Ok.no rfl (Ok.no (by rw [hr.1]; simp) ?_))
 refine Ok.for (fun q=>q) r.length (fun _ _=>True) 0 (Nat.zero_le _) rfl trivial (by rw [hr.1]; omega) (fun rec q hq _=>?_) fun rec i q hi hq _ ih=>?_
 ·simp only [Lh,hq]
  rw [Ba]
  exact Ok.some rfl
 ·simp only [Lh,hq]
  rw [AK]
  have hi2:i < s.Columns.length:=by rw [← hr.1]; exact hi
  refine Ok.idxn hi (Ok.bindE (V9 h hi2 (hr.2 i _ _ (List.getElem?_eq_getElem hi2) (List.getElem?_eq_getElem hi))) (Ok.no rfl (ih _ (Dv (by rw [hr.1] at hi; omega)) trivial)))
theorem XW {x:BC} {n:Nat} (h:Tp x n) (hn:n≤100):IA x = some true:=by
 have hl:=h.len
 refine Ok.val ?_
 unfold IA
 refine Ok.bindE h.schema.rcheck (Ok.no ?_ ?_)
 ·rw [h.gone,h.version,df]; rfl
 refine Ok.for (fun q=>q) x.Rows.length (fun _ _=>True) 0 (Nat.zero_le _) rfl trivial (by omega) (fun rec q hq _=>?_) fun rec i q hi hq _ ih=>?_
 ·simp only [J3,hq]
  rw [Ba]
  unfold Jz
  refine Ok.for (fun q=>q) 0 (fun _ _=>True) 0 (Nat.zero_le _) rfl trivial (by omega) (fun rec q hq _=>?_) fun rec i q hi hq _ ih=>absurd hi (by omega)
  simp only [LP,hq,h.gone]
  exact Ok.no rfl (Ok.some rfl)
 ·simp only [J3,hq]
  rw [AK]
  have hr:=h.rows _ (List.getElem_mem hi)
  refine Ok.idxn hi (Ok.bindE (iE h.schema hr) (Ok.no rfl (Ok.brd (fun h1=>?_) fun _=>ih _ Dv trivial)))
  have e:IntKind.i64.wrap ((i:Int) - 1) = ((i - 1:Nat):Int):=by rw [wr]; omega
  rw [e]
  have hi3:i - 1 < x.Rows.length:=by omega
  have hlt:=(List.pairwise_iff_getElem.1 h.asc) (i - 1) i hi3 hi (by omega)
  refine Ok.idxn hi (Ok.bindE (FM (hr.ne h.schema)) (Ok.idxn hi3 (Ok.bindE (FM ((h.rows _ (List.getElem_mem hi3)).ne h.schema)) (Ok.brd (fun h2=>by omega) fun _=>ih _ Dv trivial))))
theorem c9 (h:DS s) {r:List Int} (hr:Nu s r):I3 DD s QI r = some 1:=by
 unfold I3
 rw [h.rcond_all]
 show (Kd s r).bind _ = _
 rw [iE h hr]
 rfl
theorem Nu.hd (h:DS s) {r:List Int} (hr:Nu s r):1≤hd r∧hd r≤1000:=by
 have hc:=h.cols_length
 have h0:0 < s.Columns.length:=by omega
 have h1:0 < r.length:=by rw [hr.1]; exact h0
 have:=hr.2 0 iI r[0] (by rw [List.getElem?_eq_getElem h0,h.col0]) (List.getElem?_eq_getElem h1)
 have e:P.hd r = r[0]:=by cases r with | nil=>simp at h1 | cons a q=>rfl
 rw [e]
 rcases this with ⟨_,h2,h3⟩ | ⟨hk,_⟩ | ⟨hk,_⟩
 ·exact ⟨h2,h3⟩
 ·exact absurd hk (by decide)
 ·exact absurd hk (by decide)
theorem ga {x:BC} {n:Nat} (h:Tp x n) (hn:n≤100):Gw DD x cQ = some (x.Rows.map hd):=by
 have hl:=h.len
 refine Ok.val ?_
 unfold Gw
 refine Ok.bindE (XW h hn) (Ok.no rfl (Ok.bindE (RG h.schema) (Ok.no rfl ?_)))
 unfold G3
 refine Ok.for (fun q=>q.1) x.Rows.length (fun i q=>q.2 = (x.Rows.take i).map hd) 0 (Nat.zero_le _) rfl rfl (by omega) (fun rec q hq hI=>?_) fun rec i q hi hq hI ih=>?_
 ·simp only [EN,hq]
  rw [Ba,hI,List.take_length]
  exact Ok.some rfl
 ·simp only [EN,hq]
  rw [AK]
  have hr:=h.rows _ (List.getElem_mem hi)
  have hh:=hr.hd h.schema
  refine Ok.idxn hi (Ok.bindE (c9 h.schema hr) (Ok.yes rfl (Ok.idxn hi (Ok.bindE (FM (hr.ne h.schema)) (Ok.bindE (iK _ hh.1 (by omega)) (Ok.yes rfl (Ok.idxn hi (Ok.bindE (FM (hr.ne h.schema)) (Ok.rm ?_ (ih _ Dv ?_))))))))))
  ·rw [hI]; simp; omega
  ·show q.2++[_] = _
   rw [hI,List.take_succ_eq_append_getElem hi,List.map_append]
   rfl
theorem gN {x:BC} {n:Nat} (h:Tp x n) (hn:n≤100) {i:Nat} (hi:i < x.Rows.length):I7 x (hd x.Rows[i]) = some (i:Int):=by
 have hl:=h.len
 refine Ok.val ?_
 unfold I7
 refine Ok.for (fun q=>q) x.Rows.length (fun k _=>k≤i) 0 (Nat.zero_le _) rfl (Nat.zero_le _) (by omega) (fun rec q hq hI=>by omega) fun rec k q hk hq hI ih=>?_
 simp only [MF,hq]
 rw [AK]
 have hr:=h.rows _ (List.getElem_mem hk)
 have hne:=hr.ne h.schema
 refine Ok.idxn hk (Ok.brd (fun _=>Ok.idxn hk (Ok.bindE (FM hne) (Ok.br (fun he=>Ok.some ?_) fun hn=>ih _ Dv ?_))) fun hz=>?_)
 ·by_cases e:k = i
  ·rw [e]
  ·have he:hd x.Rows[k] = hd x.Rows[i]:=by simpa using he
   have:=(List.pairwise_iff_getElem.1 h.asc) k i hk hi (by omega)
   omega
 ·by_cases e:k = i
  ·subst e; simp at hn
  ·omega
 ·have:=List.length_pos_iff.2 hne
  omega
theorem cE {v:Int} (h0:-1000000≤v) (h1:v≤1000000):Fb v 1 = some v:=by
 unfold Fb
 rw [AK (by decide),AK (by decide),Int.tmod_one,Ba (by decide),Int.tdiv_one,wr]
theorem UH (h:DS s) {i:Nat} (h0:1≤i) (hi:i < s.Columns.length) {v:Int} (hv:W1 s s.Columns[i] v):AP s i (fin s i) v = some v:=by
 have hf:=h.fin_ok h0 hi
 refine Ok.val ?_
 unfold AP
 refine Ok.bindE (h.rfinest h0 hi) ?_
 rw [HX,Option.bind_some,dt]
 refine Ok.no rfl (Ok.idxn hi ?_)
 rcases h.col h0 hi with h1 | h1
 ·obtain ⟨L,hL,hL2⟩:=h.clist h1
  have hcl:=KC hL
  have hv2:v∈Bl L:=by
   rcases hv with ⟨hk,_⟩ | ⟨hk,L',hL',hL2',h3⟩ | ⟨hk,_⟩
   ·rw [h1.kind] at hk; cases hk
   ·rw [hL2] at hL2'; cases hL2'; exact h3
   ·rw [h1.kind] at hk; cases hk
  refine Ok.yes (by rw [h1.kind]; rfl) (Ok.bindE (V9 h hi hv) (Ok.no rfl (Ok.bindE hL2 (Ok.bindE (x:=v) ?_ (Ok.some rfl)))))
  rw [Em hi,IF h1 hL2]
  exact (hcl.leaf v hv2).2.2.2.2
 ·obtain ⟨a1,a2⟩:=h1.low
  obtain ⟨a3,a4⟩:=h1.high
  have hv2:(s.Columns[i].Low≤v∧v≤s.Columns[i].High)∨v = Bs:=by
   rcases hv with ⟨hk,_⟩ | ⟨hk,_⟩ | ⟨hk,h3 | h3⟩
   ·rw [h1.kind] at hk; cases hk
   ·rw [h1.kind] at hk; cases hk
   ·exact .inl h3
   ·exact .inr h3.2
  have hw:CH s.Columns[i] (fin s i) = some 1:=by
   rw [Em hi,C6 h1]
   unfold CH
   have hwl:=C0 h1
   rw [wr,Int.sub_self]
   rcases cX h1.widths with e | e | e | e <;> (rw [e]; rfl)
  refine Ok.no (by rw [h1.kind]; rfl) ?_
  have e0:(fin s i==0) = false:=by rw [beq_eq_false_iff_ne]; omega
  rcases hv2 with hv2 | rfl
  ·have e1:(v != -1099511627776) = true:=by rw [bne_iff_ne]; omega
   have e2:(v==-1099511627776) = false:=by rw [beq_eq_false_iff_ne]; omega
   refine Ok.yes e1 ?_
   rw [HX,Option.bind_some,dt]
   refine Ok.no rfl (Ok.no e0 (Ok.no e2 (Ok.bindE hw (Ok.bindE (cE (by omega) (by omega)) (Ok.some ?_)))))
   rw [wr]
   omega
  ·exact Ok.no rfl (Ok.no e0 (Ok.yes rfl (Ok.some rfl)))
def fb (s:Aa) (r:List Int):Prop:=r.length = s.Columns.length∧0≤hd r∧hd r≤1048575∧∀ (i:Nat) c v,1≤i→s.Columns[i]? = some c→r[i]? = some v→W1 s c v
structure jJ (s:Aa) (x:Aw) (n:Nat):Prop where
 project:x.Project = cQ.Project
 version:x.Version = 0
 picks:x.Picks = E3 s
 rows:∀ r∈x.Rows,fb s r
 asc:f6 x.Rows
 len:x.Rows.length≤n
theorem fb.ne (h:DS s) {r:List Int} (hr:fb s r):r≠[]:=by
 intro e
 have h1:=hr.1
 have:=h.cols_length
 rw [e] at h1
 simp at h1
 omega
theorem dI {x:BC} {n:Nat} (h:Tp x n) (hn:n≤100) {sec:Int} (hs0:0≤sec) (hs1:sec < 1152921504606846976):Ok (EX DD x cQ (E3 x.Schema) sec) fun r=>jJ x.Schema r.1 n:=by
 have hl:=h.len
 have hc:=h.schema.cols_length
 have hpl:=Ij (s:=x.Schema)
 unfold EX
 refine Ok.bindE (XW h hn) (Ok.no rfl (Ok.bindE (aa h.schema) (Ok.no rfl (Ok.no ?_ (Ok.rm (by omega) (Ok.bindE (ga h hn) ?_))))))
 ·rw [df,df]; rfl
 refine Ok.for (fun q=>q.1) x.Rows.length (fun i q=>(∀ r∈q.2,fb x.Schema r)∧f6 q.2∧q.2.length≤i) 0 (Nat.zero_le _) rfl ⟨(fun r hr=>by cases hr),List.Pairwise.nil,Nat.zero_le _⟩ (by omega) (fun rec q hq hI=>?_) fun rec i q hi hq hI ih=>?_
 ·simp only [FC,hq]
  rw [List.length_map,Ba]
  exact Ok.some ⟨rfl,h.version,rfl,hI.1,hI.2.1,by show q.2.length≤n; omega⟩
 ·obtain ⟨h1,h2,h3⟩:=hI
  simp only [FC,hq]
  rw [List.length_map,AK]
  have hr:=h.rows _ (List.getElem_mem hi)
  have hh:=hr.hd h.schema
  have hid:idx (x.Rows.map hd) (i:Int) = some (hd x.Rows[i]):=by rw [BP (by rw [List.length_map]; exact hi),List.getElem_map]
  refine Ok.bindE hid (Ok.bindE (gN h hn hi) (Ok.idxn hi (Ok.bindE hid (Ok.bind (fe hs0 hs1 (by omega) (by omega)) fun key hkey=>?_))))
  refine Ok.for (fun q=>q.1) (E3 x.Schema).length (fun k q=>q.2 = key :: (x.Rows[i].drop 1).take k) 0 (Nat.zero_le _) rfl rfl (by omega) (fun rec2 q2 hq2 hI2=>?_) fun rec2 k q2 hk hq2 hI2 ih2=>?_
  ·simp only [FL,hq2]
   rw [Ba]
   have e:(x.Rows[i].drop 1).take (E3 x.Schema).length = x.Rows[i].drop 1:=List.take_of_length_le (by rw [List.length_drop,hr.1]; omega)
   rw [hI2,e]
   have hx:fb x.Schema (key :: x.Rows[i].drop 1):=by
    refine ⟨by rw [List.length_cons,List.length_drop,hr.1]; omega,hkey.1,hkey.2,fun k c v hk1 hkc hkv=>?_⟩
    obtain ⟨j,rfl⟩:∃ j,k = j + 1:=⟨k - 1,by omega⟩
    rw [List.getElem?_cons_succ,List.getElem?_drop,Nat.add_comm] at hkv
    exact hr.2 _ c v hkc hkv
   refine Ok.bindE (Yl (fun r hr=>(h1 r hr).ne h.schema) (by simp) h2 (by omega)) (ih _ Dv ⟨fun r hr=>?_,Rn h2,?_⟩)
   ·rcases R7 hr with rfl | hr
    ·exact hx
    ·exact h1 r hr
   ·have:=K4 q.2 (key :: x.Rows[i].drop 1)
    show (IS q.2 _).length≤i + 1
    omega
  ·simp only [FL,hq2]
   rw [AK]
   have hkk:k + 1 < x.Schema.Columns.length:=by omega
   have hkr:k + 1 < x.Rows[i].length:=by rw [hr.1]; exact hkk
   refine Ok.idxn hk (Ok.idxn hk (Ok.idxn hk ?_))
   rw [DK hk]
   refine Ok.idxn hkr (Ok.bindE (UH h.schema (by omega) hkk (hr.2 (k + 1) _ _ (List.getElem?_eq_getElem hkk) (List.getElem?_eq_getElem hkr))) (Ok.rm ?_ (ih2 _ Dv ?_)))
   ·rw [hI2]; simp; omega
   ·show q2.2++[_] = _
    have hkd:k < (x.Rows[i].drop 1).length:=by rw [List.length_drop]; omega
    rw [hI2,List.take_succ_eq_append_getElem hkd,List.cons_append,List.getElem_drop]
    simp [Nat.add_comm]
end Go.Proofs.YtejfnieiaecpkaaGreatDoor.P
namespace Go.Proofs.YtejfnieiaecpkaaGreatDoor.P
open Go Go.Abs Go.Proofs
set_option maxRecDepth 100000
variable {s:Aa}
def Eb (c:Av) (l:Int):Int:=c.Widths.getD ((c.Widths.length:Int) - l).toNat 1
theorem XL {c:Av} (h:CS c) {l:Int} (h0:1≤l) (h1:l≤c.Widths.length):idx c.Widths (IntKind.i64.wrap (((c.Widths.length:Nat):Int) - l)) = some (Eb c l):=by
 have hl:=C0 h
 rw [wr,SV (by omega) (by omega)]
 unfold Eb
 rw [List.getD_eq_getElem?_getD,List.getElem?_eq_getElem (by omega:((c.Widths.length:Int) - l).toNat < c.Widths.length)]
 rfl
theorem aQ {c:Av} (h:CS c) {l:Int} (h0:1≤l) (h1:l≤c.Widths.length):Gn c l = some (Eb c l):=by unfold Gn; rw [XL h h0 h1]; rfl
theorem aJ {c:Av} (h:CS c) {l:Int} (h0:1≤l) (h1:l≤c.Widths.length):CH c l = some (Eb c l):=by unfold CH; rw [XL h h0 h1]; rfl
theorem Ye {c:Av} (h:CS c) {a b:Int} (hb:1≤b) (hab:b≤a) (ha:a≤c.Widths.length) :
 (Eb c a,Eb c b)∈[((1:Int),(1:Int)),(1,5),(5,5),(1,20),(5,20),(20,20),(1,2),(2,2),(1,4),(2,4),(4,4),(1,12),(2,12),(4,12),(12,12)]:=by
 unfold Eb
 rcases cX h.widths with e | e | e | e
 ·rw [e] at ha ⊢
  obtain ⟨rfl,rfl⟩:a = 1∧b = 1:=by simp at ha; omega
  decide
 ·rw [e] at ha ⊢
  have ha:a≤2:=by simpa using ha
  rcases (by omega:(a = 1∧b = 1)∨(a = 2∧b = 1)∨(a = 2∧b = 2)) with ⟨rfl,rfl⟩ | ⟨rfl,rfl⟩ | ⟨rfl,rfl⟩ <;> decide
 ·rw [e] at ha ⊢
  have ha:a≤3:=by simpa using ha
  rcases (by omega:(a = 1∧b = 1)∨(a = 2∧b = 1)∨(a = 2∧b = 2)∨(a = 3∧b = 1)∨(a = 3∧b = 2)∨(a = 3∧b = 3)) with ⟨rfl,rfl⟩ | ⟨rfl,rfl⟩ | ⟨rfl,rfl⟩ | ⟨rfl,rfl⟩ | ⟨rfl,rfl⟩ | ⟨rfl,rfl⟩ <;> decide
 ·rw [e] at ha ⊢
  have ha:a≤4:=by simpa using ha
  rcases (by omega:(a = 1∧b = 1)∨(a = 2∧b = 1)∨(a = 2∧b = 2)∨(a = 3∧b = 1)∨(a = 3∧b = 2)∨(a = 3∧b = 3)∨(a = 4∧b = 1)∨(a = 4∧b = 2)∨(a = 4∧b = 3)∨(a = 4∧b = 4)) with ⟨rfl,rfl⟩ | ⟨rfl,rfl⟩ | ⟨rfl,rfl⟩ | ⟨rfl,rfl⟩ | ⟨rfl,rfl⟩ | ⟨rfl,rfl⟩ | ⟨rfl,rfl⟩ | ⟨rfl,rfl⟩ | ⟨rfl,rfl⟩ | ⟨rfl,rfl⟩ <;> decide
theorem EM {c:Av} (h:CS c) {l:Int} (h0:1≤l) (h1:l≤c.Widths.length):1≤Eb c l∧Eb c l≤20:=by
 have:=Ye h h0 (Int.le_refl l) h1
 generalize Eb c l = x at *
 simp only [List.mem_cons,List.not_mem_nil,or_false,Prod.mk.injEq] at this
 omega
theorem LH (n:Int) {w:Int} (hw:1≤w):(Int.tmod n w = n % w∧0≤Int.tmod n w)∨(Int.tmod n w = n % w - w∧Int.tmod n w < 0):=by
 have h1:=Int.emod_nonneg n (by omega:w≠0)
 have h2:=Int.emod_lt_of_pos n (by omega:0 < w)
 rw [Int.tmod_eq_emod]
 split
 ·left; omega
 ·right
  have:(w.natAbs:Int) = w:=by omega
  omega
theorem PI {n w:Int} (hw:1≤w) (hw2:w≤1000000) (h0:-100000000≤n) (h1:n≤100000000):Ep n w = some (n - n % w):=by
 have h3:=Int.emod_nonneg n (by omega:w≠0)
 have h4:=Int.emod_lt_of_pos n (by omega:0 < w)
 unfold Ep
 rw [AK]
 rcases LH n hw with ⟨e,h⟩ | ⟨e,h⟩
 ·rw [Ba,e,wr]
 ·rw [AK h,e,wr (n:=n % w - w + w) (by omega) (by omega),wr]
  congr 1; omega
theorem fx {n w:Int} (hw:1≤w) (hw2:w≤1000000) (h0:-100000000≤n) (h1:n≤100000000):∃ q,Fb n w = some q∧q * w = n - n % w:=by
 have h3:=Int.emod_nonneg n (by omega:w≠0)
 have h4:=Int.emod_lt_of_pos n (by omega:0 < w)
 have h5:=Int.mul_tdiv_add_tmod n w
 have h6:-100000000≤Int.tdiv n w∧Int.tdiv n w≤100000000:=by
  have:=Int.natAbs_tdiv_le_natAbs n w
  omega
 unfold Fb
 rw [AK,AK]
 rcases LH n hw with ⟨e,h⟩ | ⟨e,h⟩
 ·rw [Ba,wr]
  exact ⟨_,rfl,by rw [Int.mul_comm]; omega⟩
 ·rw [AK h,wr (n:=Int.tdiv n w) (by omega) (by omega),wr]
  refine ⟨_,rfl,?_⟩
  rw [Int.sub_mul,Int.mul_comm]
  omega
def mv (c:Av) (l v:Int):Int:=if l = 0 then 0 else if v = Bs then Bs else v - v % Eb c l
def MV (c:Av) (v:Int):Prop:=(c.Low≤v∧v≤c.High)∨(c.Optional = true∧v = Bs)
theorem W1.meas {c:Av} (h:CS c) {v:Int} (hv:W1 s c v):MV c v:=by
 rcases hv with ⟨hk,_⟩ | ⟨hk,_⟩ | ⟨_,hv⟩
 ·rw [h.kind] at hk; cases hk
 ·rw [h.kind] at hk; cases hk
 ·exact hv
theorem GE {c:Av} (h:CS c) {l v:Int} (h0:1≤l) (h1:l≤c.Widths.length) (hv:c.Low≤v∧v≤c.High):mv c l v = v - v % Eb c l∧0≤v % Eb c l∧v % Eb c l < Eb c l∧mv c l v≠Bs∧-4≤v∧v≤46:=by
 have hw:=EM h h0 h1
 obtain ⟨a1,a2⟩:=h.low
 obtain ⟨a3,a4⟩:=h.high
 have h3:=Int.emod_nonneg v (by omega:Eb c l≠0)
 have h4:=Int.emod_lt_of_pos v (by omega:0 < Eb c l)
 have e:mv c l v = v - v % Eb c l:=by
  unfold mv
  rw [if_neg (by omega),if_neg (by unfold Bs; omega)]
 exact ⟨e,h3,h4,by rw [e]; unfold Bs; omega,by omega,by omega⟩
theorem Tf (hs:DS s) {i:Nat} (h0:1≤i) (hi:i < s.Columns.length) (h:CS s.Columns[i]) {l v:Int} (hl0:0≤l) (hl1:l≤fin s i) (hv:MV s.Columns[i] v):AP s i l v = some (mv s.Columns[i] l v):=by
 obtain ⟨a1,a2⟩:=h.low
 obtain ⟨a3,a4⟩:=h.high
 have hf:fin s i = s.Columns[i].Widths.length:=by rw [Em hi,C6 h]
 refine Ok.val ?_
 unfold AP
 refine Ok.bindE (hs.rfinest h0 hi) ?_
 rw [HX,Option.bind_some,decide_eq_true ⟨hl0,hl1⟩]
 refine Ok.no rfl (Ok.idxn hi (Ok.no (by rw [h.kind]; rfl) ?_))
 rcases hv with hv | ⟨_,rfl⟩
 ·have e1:(v != -1099511627776) = true:=by rw [bne_iff_ne]; omega
  have e2:(v==-1099511627776) = false:=by rw [beq_eq_false_iff_ne]; omega
  refine Ok.yes e1 ?_
  rw [HX,Option.bind_some,dt]
  refine Ok.no rfl (Ok.br (fun hz=>?_) fun hz=>Ok.no e2 ?_)
  ·have hz:l = 0:=by simpa using hz
   subst hz
   exact Ok.some rfl
  ·have hz:l≠0:=by simpa using hz
   have hm:=GE h (l:=l) (v:=v) (by omega) (by omega) hv
   have hw:=EM h (l:=l) (by omega) (by omega)
   obtain ⟨q,hq,hq2⟩:=fx (n:=v) hw.1 (by omega) (by omega) (by omega)
   refine Ok.bindE (aJ h (by omega) (by omega)) (Ok.bindE hq (Ok.some ?_))
   rw [hq2,hm.1,wr]
 ·refine Ok.no rfl (Ok.br (fun hz=>?_) fun hz=>Ok.yes rfl ?_)
  ·have hz:l = 0:=by simpa using hz
   subst hz
   exact Ok.some rfl
  ·have hz:l≠0:=by simpa using hz
   exact Ok.some (by unfold mv; rw [if_neg hz,if_pos rfl])
def ND (c:Av) (l v:Int):Int:=if l = 0 then c.Low else max c.Low (v - v % Eb c l)
def WI (c:Av) (l v:Int):Int:=if l = 0 then c.High else min c.High (v - v % Eb c l + Eb c l - 1)
theorem eK {c:Av} (h:CS c) {l v:Int} (h0:0≤l) (h1:l≤c.Widths.length) (hv:c.Low≤v∧v≤c.High):IJ c l (mv c l v) = some (ND c l v,WI c l v,true):=by
 obtain ⟨a1,a2⟩:=h.low
 obtain ⟨a3,a4⟩:=h.high
 unfold IJ ND WI
 by_cases hz:l = 0
 ·subst hz; rfl
 ·have hm:=GE h (l:=l) (v:=v) (by omega) h1 hv
  have hw:=EM h (l:=l) (by omega) h1
  have hb:(mv c l v) % Eb c l = 0:=by
   rw [hm.1]
   have:=Int.emod_add_mul_ediv v (Eb c l)
   have e:v - v % Eb c l = Eb c l * (v / Eb c l):=by omega
   rw [e]; exact Int.mul_emod_right _ _
  have e0:(l==0) = false:=by simpa using hz
  rw [e0,hm.1,if_neg hz,if_neg hz]
  rw [hm.1] at hb
  simp only [cond_false]
  rw [df,df]
  simp only [cond_false]
  rw [aQ h (by omega) h1,Option.bind_some,PI hw.1 (by omega) (by omega) (by omega),hb,Option.bind_some,wr (n:=v - v % Eb c l + Eb c l) (by omega) (by omega),wr,Int.sub_zero,beq_self_eq_true]
  simp only [cond_true]
  have e1:(if c.Low > v - v % Eb c l then c.Low else v - v % Eb c l) = max c.Low (v - v % Eb c l):=by split <;> omega
  have e2:(if c.High < v - v % Eb c l + Eb c l - 1 then c.High else v - v % Eb c l + Eb c l - 1) = min c.High (v - v % Eb c l + Eb c l - 1):=by split <;> omega
  rw [e1,e2,dt]
theorem aD {c:Av} (h:CS c) {l v:Int} (h0:0≤l) (h1:l≤c.Widths.length) (hv:c.Low≤v∧v≤c.High):FQ c l (mv c l v) = some (ND c l v,WI c l v,true):=by
 obtain ⟨a1,a2⟩:=h.low
 obtain ⟨a3,a4⟩:=h.high
 unfold FQ ND WI
 by_cases hz:l = 0
 ·subst hz; rfl
 ·have hm:=GE h (l:=l) (v:=v) (by omega) h1 hv
  have hw:=EM h (l:=l) (by omega) h1
  have hb:(mv c l v) % Eb c l = 0:=by
   rw [hm.1]
   have:=Int.emod_add_mul_ediv v (Eb c l)
   have e:v - v % Eb c l = Eb c l * (v / Eb c l):=by omega
   rw [e]; exact Int.mul_emod_right _ _
  have ht:Int.tmod (mv c l v) (Eb c l) = 0:=by
   rcases LH (mv c l v) hw.1 with ⟨e,_⟩ | ⟨e,h2⟩
   ·rw [e,hb]
   ·rw [Int.tmod_eq_emod] at h2
    have hd:Eb c l ∣ mv c l v:=Int.dvd_of_emod_eq_zero hb
    rw [if_pos (.inr hd),hb] at h2
    omega
  have e0:(l==0) = false:=by simpa using hz
  have e3:(mv c l v==-1099511627776) = false:=by rw [beq_eq_false_iff_ne]; exact hm.2.2.2.1
  rw [e0,if_neg hz,if_neg hz]
  simp only [cond_false]
  rw [aJ h (by omega) h1,Option.bind_some,e3]
  simp only [cond_false]
  rw [HX,Option.bind_some,decide_eq_true (by rw [hm.1]; omega),ht]
  simp only [Bool.not_true,cond_false]
  rw [AK]
  show (bif (0:Int) != 0 then _ else Hl (mv c l v) c (Eb c l)) = _
  unfold Hl
  rw [hm.1,wr (n:=v - v % Eb c l + Eb c l) (by omega) (by omega),wr]
  have e1:(if v - v % Eb c l > c.Low then v - v % Eb c l else c.Low) = max c.Low (v - v % Eb c l):=by split <;> omega
  have e2:(if v - v % Eb c l + Eb c l - 1 < c.High then v - v % Eb c l + Eb c l - 1 else c.High) = min c.High (v - v % Eb c l + Eb c l - 1):=by split <;> omega
  rw [e1,e2,dt]
  rfl
theorem Hd:Bs = -1099511627776:=rfl
theorem gm {i:Nat} (hi:i < s.Columns.length) (h:CS s.Columns[i]) {l v:Int} (h0:0≤l) (h1:l≤s.Columns[i].Widths.length) (hv:MV s.Columns[i] v):∃ u,Bd s i l (mv s.Columns[i] l v) = some (u,true):=by
 refine Exists.elim (?_:Ok (Bd s i l (mv s.Columns[i] l v)) fun r=>r.2 = true) fun r hr=>⟨r.1,by rw [hr.1,← hr.2]⟩
 unfold Bd
 refine Ok.idxn hi (Ok.yes (by rw [h.kind]; rfl) (Ok.br (fun hc=>Ok.some ?_) fun hc=>?_))
 ·by_cases hz:0 < l
  ·rw [dt] at hc
   have hc:mv s.Columns[i] l v = Bs:=by rw [Hd]; simpa using hc
   rcases hv with hv | hv
   ·exact absurd hc (GE h (by omega) h1 hv).2.2.2.1
   ·exact hv.1
  ·rw [df] at hc; cases hc
 ·have hv2:(s.Columns[i].Low≤v∧v≤s.Columns[i].High)∨(l = 0):=by
   rcases hv with hv | ⟨_,rfl⟩
   ·exact .inl hv
   ·right
    by_cases hz:0 < l
    ·rw [dt] at hc
     have e:mv s.Columns[i] l Bs = Bs:=by unfold mv; rw [if_neg (by omega),if_pos rfl]
     rw [e] at hc
     cases hc
    ·omega
  rcases hv2 with hv | rfl
  ·exact Ok.bindE (eK h h0 h1 hv) (Ok.some rfl)
  ·exact Ok.bindE (x:=(s.Columns[i].Low,s.Columns[i].High,true)) rfl (Ok.some rfl)
theorem eF (hs:DS s) {i:Nat} (hi0:1≤i) (hi:i < s.Columns.length) (h:CS s.Columns[i]) {l v:Int} (h0:0≤l) (h1:l≤s.Columns[i].Widths.length) (hv:MV s.Columns[i] v):FK s i l (mv s.Columns[i] l v) = some true:=by
 have hf:fin s i = s.Columns[i].Widths.length:=by rw [Em hi,C6 h]
 refine Ok.val ?_
 unfold FK
 refine Ok.bindE (hs.rfinest hi0 hi) ?_
 rw [HX,Option.bind_some,dt]
 refine Ok.no rfl (Ok.idxn hi (Ok.no (by rw [h.kind]; rfl) (Ok.br (fun hc=>Ok.some ?_) fun hc=>?_)))
 ·by_cases hz:0 < l
  ·rw [dt] at hc
   have hc:mv s.Columns[i] l v = Bs:=by rw [Hd]; simpa using hc
   rcases hv with hv | hv
   ·exact absurd hc (GE h (by omega) h1 hv).2.2.2.1
   ·exact hv.1
  ·rw [df] at hc; cases hc
 ·have hv2:(s.Columns[i].Low≤v∧v≤s.Columns[i].High)∨(l = 0):=by
   rcases hv with hv | ⟨_,rfl⟩
   ·exact .inl hv
   ·right
    by_cases hz:0 < l
    ·rw [dt] at hc
     have e:mv s.Columns[i] l Bs = Bs:=by unfold mv; rw [if_neg (by omega),if_pos rfl]
     rw [e] at hc
     cases hc
    ·omega
  rcases hv2 with hv | rfl
  ·exact Ok.bindE (aD h h0 h1 hv) (Ok.some rfl)
  ·exact Ok.bindE (x:=(s.Columns[i].Low,s.Columns[i].High,true)) rfl (Ok.some rfl)
end Go.Proofs.YtejfnieiaecpkaaGreatDoor.P
namespace Go.Proofs.YtejfnieiaecpkaaGreatDoor.P
open Go Go.Abs Go.Proofs
set_option maxRecDepth 100000
variable {s:Aa}
def W7 (L:Am) (l v:Int):Option (Int × Bool):=iter (fun rec1 s=>LA (Bl L) L l v (fun v56_1=>some (0,false)) rec1 s) A8 0
def cv (L:Am) (l v:Int):Int:=(Jx L v l).getD 0
theorem Zf:(Sx.all fun L=>(List.range (HI L).toNat).all fun l=>(W7 L (l:Int) 0).isSome && (Bl L).all fun v=>Jx L v l==some (cv L l v) && GD L v l==some (cv L l v) && decide (0≤cv L l v) && ((W7 L l (cv L l v)).map (·.2)==some true)) = true:=by decide +kernel
theorem NL {L:Am} (h:L∈Sx) {l:Int} (h0:0≤l) (h1:l < HI L):(∃ r,W7 L l 0 = some r)∧∀ v∈Bl L,Jx L v l = some (cv L l v)∧GD L v l = some (cv L l v)∧0≤cv L l v∧∃ u,W7 L l (cv L l v) = some (u,true):=by
 have:=List.all_eq_true.1 (List.all_eq_true.1 Zf L h) l.toNat (List.mem_range.2 (by omega))
 rw [Int.toNat_of_nonneg h0] at this
 simp only [Bool.and_eq_true,List.all_eq_true,beq_iff_eq,decide_eq_true_eq,Option.isSome_iff_exists] at this
 refine ⟨this.1,fun v hv=>?_⟩
 obtain ⟨⟨⟨a,b⟩,c⟩,d⟩:=this.2 v hv
 obtain ⟨r,hr,hr2⟩:=Option.map_eq_some_iff.1 d
 exact ⟨a,b,c,r.1,by rw [hr,← hr2]⟩
def CV (s:Aa) (c:Av) (l v:Int):Int:=if c.Kind = 2 then cv ((idx s.Lists c.List_).getD { Name:=TX,Codes:=[] }) l v else mv c l v
theorem Un {c:Av} (h:HD c) {L:Am} (hL:idx s.Lists c.List_ = some L) (l v:Int):CV s c l v = cv L l v:=by unfold CV; rw [if_pos h.kind,hL]; rfl
theorem R2 {c:Av} (h:CS c) (l v:Int):CV s c l v = mv c l v:=by unfold CV; rw [if_neg (by rw [h.kind]; decide)]
theorem W1.code {c:Av} (h:HD c) {L:Am} (hL:idx s.Lists c.List_ = some L) {v:Int} (hv:W1 s c v):v∈Bl L:=by
 rcases hv with ⟨hk,_⟩ | ⟨_,L',_,hL',hv⟩ | ⟨hk,_⟩
 ·rw [h.kind] at hk; cases hk
 ·rw [hL] at hL'; cases hL'; exact hv
 ·rw [h.kind] at hk; cases hk
theorem Ru (hs:DS s) {i:Nat} (h0:1≤i) (hi:i < s.Columns.length) {l v:Int} (hl0:0≤l) (hl1:l≤fin s i) (hv:W1 s s.Columns[i] v):AP s i l v = some (CV s s.Columns[i] l v):=by
 rcases hs.col h0 hi with h1 | h1
 ·obtain ⟨L,hL,hL2⟩:=hs.clist h1
  have hf:fin s i = HI L - 1:=by rw [Em hi,IF h1 hL2]
  have hc:=NL hL (l:=l) hl0 (by omega)
  rw [Un h1 hL2]
  refine Ok.val ?_
  unfold AP
  refine Ok.bindE (hs.rfinest h0 hi) ?_
  rw [HX,Option.bind_some,decide_eq_true ⟨hl0,hl1⟩]
  exact Ok.no rfl (Ok.idxn hi (Ok.yes (by rw [h1.kind]; rfl) (Ok.bindE (V9 hs hi hv) (Ok.no rfl (Ok.bindE hL2 (Ok.bindE (hc.2 v (hv.code h1 hL2)).1 (Ok.some rfl)))))))
 ·rw [R2 h1]
  exact Tf hs h0 hi h1 hl0 hl1 (hv.meas h1)
theorem S7 {i:Nat} (hi:i < s.Columns.length) (h:HD s.Columns[i]) {L:Am} (hL:L∈Sx) (hL2:idx s.Lists s.Columns[i].List_ = some L) (l v:Int):Bd s i l v = W7 L l v:=by
 have hc:=KC hL
 have h2:=hc.lev2; have h3:=hc.lev3
 unfold Bd
 rw [BP hi,Option.bind_some,h.kind]
 show (idx s.Lists _).bind _ = _
 rw [hL2,Option.bind_some,hc.lev,Option.bind_some,wr,hc.leaves]
 rfl
theorem jd (hs:DS s) {i:Nat} (h0:1≤i) (hi:i < s.Columns.length) {l v:Int} (hl0:0≤l) (hl1:l≤fin s i) (hv:W1 s s.Columns[i] v):∃ u,Bd s i l (CV s s.Columns[i] l v) = some (u,true):=by
 rcases hs.col h0 hi with h1 | h1
 ·obtain ⟨L,hL,hL2⟩:=hs.clist h1
  have hf:fin s i = HI L - 1:=by rw [Em hi,IF h1 hL2]
  rw [Un h1 hL2,S7 hi h1 hL hL2]
  exact ((NL hL (l:=l) hl0 (by omega)).2 v (hv.code h1 hL2)).2.2.2
 ·have hf:fin s i = s.Columns[i].Widths.length:=by rw [Em hi,C6 h1]
  rw [R2 h1]
  exact gm hi h1 hl0 (by omega) (hv.meas h1)
theorem iq (hs:DS s) {i:Nat} (h0:1≤i) (hi:i < s.Columns.length):∃ r,Bd s i 0 0 = some r:=by
 rcases hs.col h0 hi with h1 | h1
 ·obtain ⟨L,hL,hL2⟩:=hs.clist h1
  have:=KC hL
  rw [S7 hi h1 hL hL2]
  exact (NL hL (l:=0) (by omega) (by have:=this.lev2; omega)).1
 ·refine Exists.elim (?_:Ok (Bd s i 0 0) fun _=>True) fun r hr=>⟨r,hr.1⟩
  unfold Bd
  exact Ok.idxn hi (Ok.yes (by rw [h1.kind]; rfl) (Ok.no rfl (Ok.bindE (x:=(s.Columns[i].Low,s.Columns[i].High,true)) rfl (Ok.some trivial))))
theorem jL (hs:DS s) {i:Nat} (h0:1≤i) (hi:i < s.Columns.length) {l v:Int} (hl0:0≤l) (hl1:l≤fin s i) (hv:W1 s s.Columns[i] v):FK s i l (CV s s.Columns[i] l v) = some true:=by
 rcases hs.col h0 hi with h1 | h1
 ·obtain ⟨L,hL,hL2⟩:=hs.clist h1
  have hf:fin s i = HI L - 1:=by rw [Em hi,IF h1 hL2]
  have hm:=hv.code h1 hL2
  have hsh:(Bl L).length≤10:=by have:=List.all_eq_true.1 NZ L hL; simpa using this
  obtain ⟨j,hj,hjv⟩:=List.mem_iff_getElem.1 hm
  refine Ok.val ?_
  unfold FK
  refine Ok.bindE (hs.rfinest h0 hi) ?_
  rw [HX,Option.bind_some,decide_eq_true ⟨hl0,hl1⟩]
  refine Ok.no rfl (Ok.idxn hi (Ok.yes (by rw [h1.kind]; rfl) (Ok.bindE (Tb (BP hi) hL2 hL) ?_)))
  refine Ok.for (fun q=>q) (Bl L).length (fun k _=>k≤j) 0 (Nat.zero_le _) rfl (Nat.zero_le _) (by omega) (fun rec q hq hI=>by omega) fun rec k q hk hq hI ih=>?_
  simp only [NW,hq]
  rw [AK]
  have hvk:W1 s s.Columns[i] (Bl L)[k]:=.inr (.inl ⟨h1.kind,L,hL,hL2,List.getElem_mem hk⟩)
  refine Ok.idxn hk (Ok.bindE (Ru hs h0 hi hl0 hl1 hvk) (Ok.br (fun _=>Ok.some rfl) fun hne=>ih _ Dv ?_))
  by_cases e:k = j
  ·subst e; rw [hjv,beq_self_eq_true] at hne; cases hne
  ·omega
 ·have hf:fin s i = s.Columns[i].Widths.length:=by rw [Em hi,C6 h1]
  rw [R2 h1]
  exact eF hs h0 hi h1 hl0 (by omega) (hv.meas h1)
def fX (s:Aa) (p:Ae):Prop:=∃ i:Nat,1≤i∧i < s.Columns.length∧p.Column = i∧0≤p.Level∧p.Level≤fin s i
def XV (s:Aa) (p:Ae) (v:Int):Prop:=∃ (i:Nat) (hi:i < s.Columns.length) (w:Int),1≤i∧p.Column = i∧W1 s s.Columns[i] w∧v = CV s s.Columns[i] p.Level w
structure GX (s:Aa) (x:Aw):Prop where
 project:BW x.Project = some true∧Ef x.Project = some true
 version:0≤x.Version∧x.Version≤300
 picks:∀ p∈x.Picks,fX s p
 order:x.Picks.Pairwise fun a b=>a.Column < b.Column
 rows:∀ r∈x.Rows,r.length = x.Picks.length + 1∧0≤hd r∧hd r≤1048575∧∀ (k:Nat) p v,x.Picks[k]? = some p→r[k + 1]? = some v→XV s p v
 asc:f6 x.Rows
 len:x.Rows.length≤200
theorem GX.picks_len {x:Aw} (hs:DS s) (h:GX s x):x.Picks.length≤6:=by
 have hc:=hs.cols_length
 have key:∀ (k:Nat) (hk:k < x.Picks.length),(k:Int) + 1≤x.Picks[k].Column:=by
  intro k
  induction k with
  | zero=>intro hk; obtain ⟨i,h1,_,h2,_⟩:=h.picks _ (List.getElem_mem hk); rw [h2]; omega
  | succ k ih =>
    intro hk
    have:=ih (by omega)
    have h2:=(List.pairwise_iff_getElem.1 h.order) k (k + 1) (by omega) hk (by omega)
    omega
 rcases Nat.lt_or_ge x.Picks.length 7 with h7 | h7
 ·omega
 ·have:=key 6 (by omega)
  obtain ⟨i,h1,h2,h3,_⟩:=h.picks _ (List.getElem_mem (by omega:6 < x.Picks.length))
  omega
theorem jp {p:Ae} (hs:DS s) (h:fX s p):II s p = some 0:=by
 obtain ⟨i,h0,hi,hp,hl0,hl1⟩:=h
 have hf:=hs.fin_ok h0 hi
 refine Ok.val ?_
 unfold II
 rw [hp]
 refine Ok.bindE (hs.pfinest h0 hi) (Ok.brd (fun h=>by omega) fun _=>Ok.no ?_ (Ok.some rfl))
 rw [df,df]; rfl
theorem ir {p:Ae} (hs:DS s) (h:fX s p):Gv s p = some 0:=by
 obtain ⟨i,h0,hi,hp,hl0,hl1⟩:=h
 exact fD hs h0 hi hp hl0 hl1
theorem iy {l:List Ae} (hs:DS s) (h:∀ p∈l,fX s p) (ho:l.Pairwise fun a b=>a.Column < b.Column) (hl:l.length≤1000):Jy s l = some 0:=by
 refine Ok.val ?_
 unfold Jy
 refine Ok.bindE hs.check (Ok.no rfl ?_)
 refine Ok.for (fun q=>q) l.length (fun _ _=>True) 0 (Nat.zero_le _) rfl trivial (by omega) (fun rec q hq _=>?_) fun rec i q hi hq _ ih=>?_
 ·simp only [Io,hq]
  rw [Ba]
  exact Ok.some rfl
 ·simp only [Io,hq]
  rw [AK]
  refine Ok.idxn hi (Ok.bindE (jp hs (h _ (List.getElem_mem hi))) (Ok.no rfl (Ok.brd (fun h1=>?_) fun _=>ih _ Dv trivial)))
  have e:IntKind.i64.wrap ((i:Int) - 1) = ((i - 1:Nat):Int):=by rw [wr]; omega
  rw [e]
  have:=(List.pairwise_iff_getElem.1 ho) (i - 1) i (by omega) hi (by omega)
  exact Ok.idxn (by omega:i - 1 < l.length) (Ok.brd (fun h2=>by omega) fun _=>ih _ Dv trivial)
theorem eS {l:List Ae} (hs:DS s) (h:∀ p∈l,fX s p) (ho:l.Pairwise fun a b=>a.Column < b.Column) (hl:l.length≤1000):Dq s l = some 0:=by
 refine Ok.val ?_
 unfold Dq
 refine Ok.bindE hs.rcheck (Ok.no rfl ?_)
 refine Ok.for (fun q=>q) l.length (fun _ _=>True) 0 (Nat.zero_le _) rfl trivial (by omega) (fun rec q hq _=>?_) fun rec i q hi hq _ ih=>?_
 ·simp only [DV,hq]
  rw [Ba]
  exact Ok.some rfl
 ·simp only [DV,hq]
  rw [AK]
  refine Ok.idxn hi (Ok.bindE (ir hs (h _ (List.getElem_mem hi))) (Ok.no rfl (Ok.brd (fun h1=>Ok.idxn hi ?_) fun _=>ih _ Dv trivial)))
  have e:IntKind.i64.wrap ((i:Int) - 1) = ((i - 1:Nat):Int):=by rw [wr]; omega
  rw [e]
  have:=(List.pairwise_iff_getElem.1 ho) (i - 1) i (by omega) hi (by omega)
  exact Ok.idxn (by omega:i - 1 < l.length) (Ok.brd (fun h2=>by omega) fun _=>ih _ Dv trivial)
theorem GX.at {x:Aw} (hs:DS s) (h:GX s x) {r:List Int} (hr:r∈x.Rows) {k:Nat} (hk:k < x.Picks.length) (hk2:k + 1 < r.length) :
 (∃ u,Bd s x.Picks[k].Column x.Picks[k].Level r[k + 1] = some (u,true))∧FK s x.Picks[k].Column x.Picks[k].Level r[k + 1] = some true:=by
 obtain ⟨i,hi,w,h0,hp,hw,e⟩:=(h.rows r hr).2.2.2 k _ _ (List.getElem?_eq_getElem hk) (List.getElem?_eq_getElem hk2)
 obtain ⟨i',h0',hi',hp',hl0,hl1⟩:=h.picks _ (List.getElem_mem hk)
 have:i' = i:=by rw [hp] at hp'; omega
 subst this
 rw [e,hp]
 exact ⟨jd hs h0 hi hl0 hl1 hw,jL hs h0 hi hl0 hl1 hw⟩
theorem GX.ne {x:Aw} (h:GX s x) {r:List Int} (hr:r∈x.Rows):r≠[]:=by
 intro e
 have:=(h.rows r hr).1
 rw [e] at this
 simp at this
theorem jk {x:Aw} (hs:DS s) (h:GX s x) {r:List Int} (hr:r∈x.Rows):Jc s x.Picks r = some true:=by
 have hl:=h.picks_len hs
 obtain ⟨h1,h2,h3,_⟩:=h.rows r hr
 refine Ok.val ?_
 unfold Jc
 refine Ok.no ?_ (Ok.bindE (FM (h.ne hr)) (Ok.brd (fun h=>by omega) fun _=>Ok.bindE (FM (h.ne hr)) (Ok.brd (fun h=>by omega) fun _=>?_)))
 ·rw [wr,h1]; simp
 unfold Ig
 refine Ok.for (fun q=>q) x.Picks.length (fun _ _=>True) 0 (Nat.zero_le _) rfl trivial (by omega) (fun rec q hq _=>?_) fun rec i q hi hq _ ih=>?_
 ·simp only [Im,hq]
  rw [Ba]
  exact Ok.some rfl
 ·simp only [Im,hq]
  rw [AK]
  have hi2:i + 1 < r.length:=by omega
  obtain ⟨⟨u,hu⟩,_⟩:=h.at hs hr hi hi2
  refine Ok.idxn hi ?_
  rw [Dv]
  exact Ok.idxn hi2 (Ok.bindE hu (Ok.no rfl (ih _ rfl trivial)))
theorem GX.check {x:Aw} (hs:DS s) (h:GX s x):Ex s x = some 0:=by
 have hl:=h.len
 have hpl:=h.picks_len hs
 have hv:=h.version
 refine Ok.val ?_
 unfold Ex
 refine Ok.bindE hs.check (Ok.no rfl (Ok.bindE h.project.2 (Ok.no rfl (Ok.no ?_ (Ok.bindE (iy hs h.picks h.order (by omega)) (Ok.no rfl (Ok.brd (fun h=>by omega) fun _=>?_)))))))
 ·rw [df,df]; rfl
 refine Ok.for (fun q=>q) x.Rows.length (fun _ _=>True) 0 (Nat.zero_le _) rfl trivial (by omega) (fun rec q hq _=>?_) fun rec i q hi hq _ ih=>?_
 ·simp only [HB,hq]
  rw [Ba]
  exact Ok.some rfl
 ·simp only [HB,hq]
  rw [AK]
  refine Ok.idxn hi (Ok.bindE (jk hs h (List.getElem_mem hi)) (Ok.no rfl (Ok.brd (fun h1=>?_) fun _=>ih _ Dv trivial)))
  have e:IntKind.i64.wrap ((i:Int) - 1) = ((i - 1:Nat):Int):=by rw [wr]; omega
  rw [e]
  have hi3:i - 1 < x.Rows.length:=by omega
  have hlt:=(List.pairwise_iff_getElem.1 h.asc) (i - 1) i hi3 hi (by omega)
  exact Ok.bindE (FM (h.ne (List.getElem_mem hi))) (Ok.idxn hi3 (Ok.bindE (FM (h.ne (List.getElem_mem hi3))) (Ok.brd (fun h2=>by omega) fun _=>ih _ Dv trivial)))
theorem GX.rcheck {x:Aw} (hs:DS s) (h:GX s x):FR s x = some 0:=by
 have hl:=h.len
 have hpl:=h.picks_len hs
 have hv:=h.version
 refine Ok.val ?_
 unfold FR
 refine Ok.bindE hs.rcheck (Ok.no rfl (Ok.bindE h.project.1 (Ok.no rfl (Ok.no ?_ (Ok.bindE (eS hs h.picks h.order (by omega)) (Ok.no rfl (Ok.brd (fun h=>by omega) fun _=>?_)))))))
 ·rw [df,df]; rfl
 refine Ok.for (fun q=>q) x.Rows.length (fun _ _=>True) 0 (Nat.zero_le _) rfl trivial (by omega) (fun rec q hq _=>?_) fun rec i q hi hq _ ih=>?_
 ·simp only [Jv,hq]
  rw [Ba]
  exact Ok.some rfl
 ·simp only [Jv,hq]
  rw [AK]
  have hr:=List.getElem_mem hi
  obtain ⟨h1,h2,h3,_⟩:=h.rows _ hr
  refine Ok.idxn hi (Ok.no ?_ (Ok.bindE (FM (h.ne hr)) (Ok.brd (fun h=>by omega) fun _=>Ok.bindE (FM (h.ne hr)) (Ok.brd (fun h=>by omega) fun _=>?_))))
  ·rw [wr,h1]; simp
  unfold Jh
  refine Ok.for (fun q=>q) x.Picks.length (fun _ _=>True) 0 (Nat.zero_le _) rfl trivial (by omega) (fun rec2 q2 hq2 _=>?_) fun rec2 k q2 hk hq2 _ ih2=>?_
  ·simp only [Jp,hq2]
   rw [Ba]
   unfold Jq
   refine Ok.brd (fun h1=>?_) fun _=>ih _ Dv trivial
   have e:IntKind.i64.wrap ((i:Int) - 1) = ((i - 1:Nat):Int):=by rw [wr]; omega
   rw [e]
   have hi3:i - 1 < x.Rows.length:=by omega
   have hlt:=(List.pairwise_iff_getElem.1 h.asc) (i - 1) i hi3 hi (by omega)
   exact Ok.bindE (FM (h.ne hr)) (Ok.idxn hi3 (Ok.bindE (FM (h.ne (List.getElem_mem hi3))) (Ok.brd (fun h2=>by omega) fun _=>ih _ Dv trivial)))
  ·simp only [Jp,hq2]
   rw [AK]
   have hk2:k + 1 < x.Rows[i].length:=by omega
   refine Ok.idxn hk (Ok.idxn hk ?_)
   rw [Dv]
   exact Ok.idxn hk2 (Ok.bindE (h.at hs hr hk hk2).2 (Ok.no rfl (ih2 _ rfl trivial)))
theorem iw (hs:DS s) {i:Nat} (h0:1≤i) (hi:i < s.Columns.length) {v:Int} (hv:W1 s s.Columns[i] v):CV s s.Columns[i] (fin s i) v = v:=by
 have hf:=hs.fin_ok h0 hi
 have h1:=UH hs h0 hi hv
 have h2:=Ru hs h0 hi (l:=fin s i) (by omega) (Int.le_refl _) hv
 rw [h1] at h2
 exact (Option.some.inj h2).symm
theorem jJ.gx {x:Aw} {n:Nat} (hs:DS s) (h:jJ s x n) (hn:n≤200):GX s x:=by
 have hc:=hs.cols_length
 have hpl:=Ij (s:=s)
 have hlen:=h.len
 refine ⟨?_,by rw [h.version]; omega,?_,?_,?_,h.asc,by omega⟩
 ·rw [h.project]
  exact ⟨by decide +kernel,by decide +kernel⟩
 ·intro p hp
  rw [h.picks] at hp
  obtain ⟨k,hk,rfl⟩:=List.mem_iff_getElem.1 hp
  rw [DK hk]
  have hf:=hs.fin_ok (i:=k + 1) (by omega) (by omega)
  exact ⟨k + 1,by omega,by omega,rfl,by show 0≤fin s (k + 1); omega,Int.le_refl _⟩
 ·rw [h.picks,List.pairwise_iff_getElem]
  intro a b ha hb hab
  rw [DK ha,DK hb]
  show ((a + 1:Nat):Int) < ((b + 1:Nat):Int)
  omega
 ·intro r hr
  obtain ⟨h1,h2,h3,h4⟩:=h.rows r hr
  rw [h.picks]
  refine ⟨by omega,h2,h3,fun k p v hp hv=>?_⟩
  obtain ⟨hk,rfl⟩:=List.getElem?_eq_some_iff.1 hp
  rw [DK hk]
  have hi:k + 1 < s.Columns.length:=by omega
  have hv2:=h4 (k + 1) _ v (by omega) (List.getElem?_eq_getElem hi) hv
  exact ⟨k + 1,hi,v,by omega,rfl,hv2,(iw hs (by omega) hi hv2).symm⟩
end Go.Proofs.YtejfnieiaecpkaaGreatDoor.P
namespace Go.Proofs.YtejfnieiaecpkaaGreatDoor.P
open Go Go.Abs Go.Proofs
set_option maxRecDepth 100000
variable {s:Aa}
theorem dd {i:Nat} (hi:i < s.Columns.length) (h:CS s.Columns[i]):By s i = some true:=by
 unfold By
 rw [dt,dt]
 show (idx s.Columns (i:Int)).bind _ = _
 rw [BP hi,Option.bind_some,h.kind]
 rfl
theorem bT {l:List Ae} {p:Ae→Option Bool} (q:Ae→Bool) (hp:∀ x∈l,p x = some (q x)) (hl:l.length≤1000000000):AN l p = some (l.any q):=by
 unfold AN
 rw [show Bo l p = some (G5 q l) from Lu hp hl,Option.bind_some,Nf]
def covers (picks needs:List Ae):Bool:=needs.all fun n=>picks.any fun p=>bif p.Column==n.Column then decide (p.Level ≥ n.Level) else false
theorem XH (picks needs:List Ae) (h1:picks.length≤1000000) (h2:needs.length≤1000000):Ey picks needs = some (covers picks needs):=by
 unfold Ey
 rw [bT (fun n=>!(picks.any fun p=>bif p.Column==n.Column then decide (p.Level ≥ n.Level) else false)) (fun n _=>?_) (by omega)]
 ·rw [Option.bind_some,covers,List.any_eq_not_all_not]
  simp
 ·unfold F3
  have:=bT (l:=picks) (p:=fun a0=>El a0 n) (fun p=>bif p.Column==n.Column then decide (p.Level ≥ n.Level) else false) (fun _ _=>rfl) (by omega)
  rw [this]
  rfl
end Go.Proofs.YtejfnieiaecpkaaGreatDoor.P
namespace Go.Proofs.YtejfnieiaecpkaaGreatDoor.P
open Go Go.Abs Go.Proofs
set_option maxRecDepth 100000
variable {s:Aa}
theorem iN (l:List Int):O1 l 1 ((l.length:Nat):Int) = l.drop 1:=by
 unfold O1
 rw [List.take_of_length_le]
 ·rfl
 ·rw [List.length_drop]; simp
theorem GX.vals {x:Aw} (hs:DS s) (hx:GX s x) {r:List Int} (hr:r∈x.Rows) (k:Nat) (hk:k < x.Picks.length) (hk2:k < (r.drop 1).length) :
 (∃ u,Bd s x.Picks[k].Column x.Picks[k].Level (r.drop 1)[k] = some (u,true))∧FK s x.Picks[k].Column x.Picks[k].Level (r.drop 1)[k] = some true:=by
 have e:(r.drop 1)[k] = r[k + 1]'(by rw [List.length_drop] at hk2; omega):=by rw [List.getElem_drop]; congr 1; omega
 rw [e]
 exact hx.at hs hr hk _
theorem i5 {l:List Int} {p:Int→Option Bool} (q:Int→Bool) (hp:∀ x∈l,p x = some (q x)) (hl:l.length≤1000000000):Cc l p = some (l.any q):=by
 unfold Cc
 rw [show C7 l p = some (G5 q l) from Lu hp hl,Option.bind_some,Nf]
theorem gU {x:Aw} {l:List Nat} (hl:l.length≤1000) (h:∀ j∈l,j < x.Rows.length) (hne:∀ r∈x.Rows,r≠[]):HR x (l.map fun j:Nat=>(j:Int)) = some (l.map fun j=>hd (x.Rows.getD j [])):=by
 refine Ok.val ?_
 unfold HR
 refine Ok.for (fun q=>q.1) l.length (fun k q=>q.2 = (l.take k).map fun j=>hd (x.Rows.getD j [])) 0 (Nat.zero_le _) rfl rfl (by omega) (fun rec q hq hI=>?_) fun rec k q hk hq hI ih=>?_
 ·simp only [Hx,hq,hI,List.length_map]
  rw [Ba,List.take_length]
  exact Ok.some rfl
 ·simp only [Hx,hq,hI,List.length_map]
  rw [AK]
  have hj:=h _ (List.getElem_mem hk)
  refine Ok.idxn (by rw [List.length_map]; exact hk) ?_
  rw [List.getElem_map]
  refine Ok.idxn hj (Ok.bindE (FM (hne _ (List.getElem_mem hj))) (Ok.rm (by simp; omega) (ih _ Dv ?_)))
  show _++[_] = _
  rw [List.take_succ_eq_append_getElem hk,List.map_append,List.map_cons,List.map_nil,List.getD_eq_getElem?_getD,List.getElem?_eq_getElem hj]
  rfl
theorem iQ {x:Aw} {l:List Nat} (hl:l.length≤1000) (h:∀ j∈l,j < x.Rows.length) (hne:∀ r∈x.Rows,r≠[]):NC x (l.map fun j:Nat=>(j:Int)) = some (l.map fun j=>hd (x.Rows.getD j [])):=gU hl h hne
end Go.Proofs.YtejfnieiaecpkaaGreatDoor.P
namespace Go.Proofs.YtejfnieiaecpkaaGreatDoor.P
open Go Go.Abs Go.Proofs
set_option maxRecDepth 100000
variable {s:Aa}
def keep (w:Nat→Int) (n:Nat):List Nat:=(List.range n).filter fun j=>w j != Bs
def CI (l:List Nat):List Int:=l.map fun j:Nat=>(j:Int)
theorem c6 {l:List Int} (hl:l.length≤1000000):LG l l = some true:=by
 refine Ok.val ?_
 unfold LG
 refine Ok.no (by simp) ?_
 refine Ok.for (fun q=>q) l.length (fun _ _=>True) 0 (Nat.zero_le _) rfl trivial (by omega) (fun rec q hq hI=>?_) fun rec k q hk hq hI ih=>?_
 ·simp only [Kg,hq]
  rw [Ba]
  exact Ok.some rfl
 ·simp only [Kg,hq]
  rw [AK]
  exact Ok.idxn hk (Ok.idxn hk (Ok.no (by simp) (ih _ Dv trivial)))
end Go.Proofs.YtejfnieiaecpkaaGreatDoor.P
namespace Go.Proofs.YtejfnieiaecpkaaGreatDoor.P
open Go Go.Abs Go.Proofs
set_option maxRecDepth 100000
variable {s:Aa}
theorem DS.last (h:DS s):∃ i:Nat,1≤i∧∃ hi:i < s.Columns.length,CS s.Columns[i]:=by
 obtain ⟨j,ms,e,h1,h2,h3⟩:=h.cols
 have hc:=NY j
 have hlen:s.Columns.length = (KE j).length + ms.length:=by rw [e,List.length_append]
 refine ⟨(KE j).length,by omega,by omega,?_⟩
 have hm:=(h3 0 (by omega)).1
 have e2:s.Columns[(KE j).length]? = some (ms[0]'(by omega)):=by
  rw [e,List.getElem?_append_right (Nat.le_refl _),Nat.sub_self]
  exact List.getElem?_eq_getElem (by omega)
 rw [List.getElem?_eq_getElem (by omega)] at e2
 rw [Option.some.inj e2]
 exact hm
theorem U6 (hs:DS s):Ok (DC s 3) fun l=>l≠[]∧l.length≤6∧∀ v∈l,∃ i:Nat,v = i∧1≤i∧∃ hi:i < s.Columns.length,CS s.Columns[i]:=by
 have hc:=hs.cols_length
 unfold DC
 refine Ok.for (fun q=>q.1) s.Columns.length (fun k q=>q.2.length≤k∧(∀ v∈q.2,∃ i:Nat,v = i∧1≤i∧∃ hi:i < s.Columns.length,CS s.Columns[i])∧∀ (i:Nat) (hi:i < s.Columns.length),i < k→CS s.Columns[i]→(i:Int)∈q.2) 0 (Nat.zero_le _) rfl
  ⟨Nat.le_refl _,(fun v hv=>by cases hv),fun i _ h=>by omega⟩ (by omega) (fun rec q hq hI=>?_) fun rec k q hk hq hI ih=>?_
 ·simp only [EL,hq]
  rw [Ba]
  obtain ⟨i,_,hi,hm⟩:=hs.last
  exact Ok.some ⟨(fun e=>by have:=hI.2.2 i hi hi hm; rw [e] at this; cases this),by have:=hI.1; omega,hI.2.1⟩
 ·simp only [EL,hq]
  rw [AK]
  have hI1:=hI.1
  refine Ok.idxn hk (Ok.br (fun e=>Ok.rm (by simp; omega) (ih _ Dv ⟨by simp; omega,fun v hv=>?_,fun j hj hjk hm=>?_⟩)) fun e=>ih _ Dv ⟨by show q.2.length≤k + 1; omega,hI.2.1,fun j hj hjk hm=>?_⟩)
  ·rcases List.mem_append.1 hv with hv | hv
   ·exact hI.2.1 v hv
   ·rw [List.mem_singleton] at hv
    have e:s.Columns[k].Kind = 3:=by simpa using e
    rcases hs.cl hk with ⟨_,h1⟩ | ⟨h0,h1 | h1⟩
    ·rw [h1] at e; cases e
    ·rw [h1.kind] at e; cases e
    ·exact ⟨k,hv,h0,hk,h1⟩
  ·show _∈q.2++[_]
   rcases Nat.lt_or_ge j k with h1 | h1
   ·exact List.mem_append_left _ (hI.2.2 j hj h1 hm)
   ·obtain rfl:j = k:=by omega
    exact List.mem_append_right _ (List.mem_singleton.2 rfl)
  ·rcases Nat.lt_or_ge j k with h1 | h1
   ·exact hI.2.2 j hj h1 hm
   ·obtain rfl:j = k:=by omega
    rw [hm.kind] at e
    cases e
theorem Mt {c:Ab} (hc:Hc c) (hs:DS s):Ok (B4 c s) fun r=>Hc r.2∧∃ i:Nat,r.1 = i∧1≤i∧∃ hi:i < s.Columns.length,CS s.Columns[i]:=by
 unfold B4
 refine Ok.bind (U6 hs) fun l hl=>?_
 have:l.length≠0:=fun e=>hl.1 (List.eq_nil_of_length_eq_zero e)
 have hl6:=hl.2.1
 refine Ok.bind (Dy hc (by omega) (by omega)) fun y hy=>Ok.idx hy.2.1 (by omega) (Ok.some ⟨hy.1,hl.2.2 _ (List.getElem_mem _)⟩)
theorem iu (v:Int) {n:Nat} (hn:1≤n) (hn2:n≤1000):Ok (Np v ((n:Nat):Int)) fun r=>∃ k:Nat,r = k∧k < n:=by
 unfold Np
 have h1:=Int.emod_nonneg v (show ((n:Nat):Int)≠0 by omega)
 have h2:=Int.emod_lt_of_pos v (show 0 < ((n:Nat):Int) by omega)
 have hc:=LH v (w:=((n:Nat):Int)) (by omega)
 refine Ok.brd (fun h=>by omega) fun _=>Ok.gdd (by omega) (Ok.brd (fun h=>Ok.some ?_) fun h=>Ok.some ?_)
 ·have e:Int.tmod v n = v % n - n:=by omega
  refine ⟨(v % n).toNat,?_,by omega⟩
  rw [e,wr]
  omega
 ·have e:Int.tmod v n = v % n:=by omega
  refine ⟨(v % n).toNat,?_,by omega⟩
  rw [e]
  omega
end Go.Proofs.YtejfnieiaecpkaaGreatDoor.P
