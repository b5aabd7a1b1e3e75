/- QA -/
import GoSem.Core.Next
import Derived.Test.YtlpkhgkoihlghaaGreatDoorM4
set_option linter.unusedVariables false
set_option linter.unusedSimpArgs false
namespace Go.Proofs.YtlpkhgkoihlghaaGreatDoor.P
open Go Go.Proofs
def Ok {α:Type} (m:Option α) (Q:α→Prop):Prop:=∃ x,m = some x∧Q x
theorem Ok.some {α:Type} {x:α} {Q:α→Prop} (h:Q x):Ok (some x) Q:=⟨x,rfl,h⟩
theorem Ok.mono {α:Type} {m:Option α} {P Q:α→Prop} (h:Ok m P) (k:∀ x,P x→Q x):Ok m Q:=by
 obtain ⟨x,h1,h2⟩:=h
 exact ⟨x,h1,k x h2⟩
theorem Ok.bind {α β:Type} {m:Option α} {f:α→Option β} {P:α→Prop} {Q:β→Prop} (h:Ok m P) (k:∀ x,P x→Ok (f x) Q):Ok (m.bind f) Q:=by
 obtain ⟨x,h1,h2⟩:=h
 rw [h1]; exact k x h2
theorem Ok.eq {α:Type} {m:Option α} {x:α} (h:m = Option.some x):Ok m (· = x):=⟨x,h,rfl⟩
theorem Ok.val {α:Type} {m:Option α} {x:α} (h:Ok m (· = x)):m = Option.some x:=by
 obtain ⟨y,h1,rfl⟩:=h
 exact h1
theorem Ok.bindE {α β:Type} {m:Option α} {f:α→Option β} {x:α} {Q:β→Prop} (h:m = Option.some x) (k:Ok (f x) Q):Ok (m.bind f) Q:=by rw [h]; exact k
theorem Ok.gd {α:Type} {b:Bool} {x:Option α} {Q:α→Prop} (h:b = true) (k:Ok x Q):Ok (bif b then x else none) Q:=by rw [h]; exact k
theorem Ok.no {α:Type} {b:Bool} {x y:Option α} {Q:α→Prop} (h:b = false) (k:Ok y Q):Ok (bif b then x else y) Q:=by rw [h]; exact k
theorem Ok.yes {α:Type} {b:Bool} {x y:Option α} {Q:α→Prop} (h:b = true) (k:Ok x Q):Ok (bif b then x else y) Q:=by rw [h]; exact k
theorem Ok.gdd {α:Type} {p:Prop} [Decidable p] {x:Option α} {Q:α→Prop} (h:p) (k:Ok x Q):Ok (bif decide p then x else none) Q:=by rw [decide_eq_true h]; exact k
theorem Ok.br {α:Type} {b:Bool} {x y:Option α} {Q:α→Prop} (h1:b = true→Ok x Q) (h2:b = false→Ok y Q):Ok (bif b then x else y) Q:=by
 cases b
 ·exact h2 rfl
 ·exact h1 rfl
theorem Ok.brd {α:Type} {p:Prop} [Decidable p] {x y:Option α} {Q:α→Prop} (h1:p→Ok x Q) (h2:¬ p→Ok y Q):Ok (bif decide p then x else y) Q:=by
 by_cases h:p
 ·rw [decide_eq_true h]; exact h1 h
 ·rw [decide_eq_false h]; exact h2 h
theorem WG {α:Type} {l:List α} {i:Int} (h0:0≤i) (h:i.toNat < l.length):idx l i = some l[i.toNat]:=by
 unfold idx
 rw [if_pos h0,List.getElem?_eq_getElem h]
theorem K7 {α:Type} {l:List α} {i:Nat} (h:i < l.length):idx l (i:Int) = some l[i]:=by
 unfold idx
 rw [if_pos (by omega),Int.toNat_natCast,List.getElem?_eq_getElem h]
theorem Ok.idx {α β:Type} {l:List α} {i:Int} {f:α→Option β} {Q:β→Prop} (h0:0≤i) (h:i.toNat < l.length) (k:Ok (f l[i.toNat]) Q):Ok ((P.idx l i).bind f) Q:=by
 rw [WG h0 h]; exact k
theorem Ok.idxn {α β:Type} {l:List α} {i:Nat} {f:α→Option β} {Q:β→Prop} (h:i < l.length) (k:Ok (f l[i]) Q):Ok ((P.idx l (i:Int)).bind f) Q:=by
 rw [K7 h]; exact k
theorem Ok.iter {σ ρ:Type} {body:(σ→Option ρ)→σ→Option ρ} {Q:ρ→Prop} (I:σ→Prop) (μ:σ→Nat) (h:∀ rec s,I s→(∀ s',I s'→μ s' < μ s→Ok (rec s') Q)→Ok (body rec s) Q) :
 ∀ n s,I s→μ s < n→Ok (iter body n s) Q
 | 0,_,_,hn=>by omega
 | n + 1,s,hs,hn=>h _ s hs fun s' hs' hlt=>Ok.iter I μ h n s' hs' (by omega)
theorem Ok.loop {σ ρ:Type} {body:(σ→Option ρ)→σ→Option ρ} {Q:ρ→Prop} {s:σ} (I:σ→Prop) (μ:σ→Nat) (hs:I s) (hμ:μ s < AI) (h:∀ rec s,I s→(∀ s',I s'→μ s' < μ s→Ok (rec s') Q)→Ok (body rec s) Q):Ok (P.iter body AI s) Q:=Ok.iter I μ h AI s hs hμ
theorem Ok.for {σ ρ:Type} {body:(σ→Option ρ)→σ→Option ρ} {Q:ρ→Prop} {s:σ} (ix:σ→Int) (len:Nat) (I:Nat→σ→Prop) (k:Nat) (hk:k≤len) (h0:ix s = k) (hI:I k s) (hlen:len≤1000000000000)
 (hend:∀ rec s,ix s = (len:Int)→I len s→Ok (body rec s) Q)
 (hstep:∀ rec (i:Nat) s,i < len→ix s = (i:Int)→I i s→(∀ s',ix s' = ((i + 1:Nat):Int)→I (i + 1) s'→Ok (rec s') Q)→Ok (body rec s) Q):Ok (P.iter body AI s) Q:=by
 refine Ok.loop (fun s=>∃ i:Nat,ix s = i∧i≤len∧I i s) (fun s=>len - (ix s).toNat) ⟨k,h0,hk,hI⟩ (by unfold AI; omega) fun rec s ⟨i,h1,h2,h3⟩ ih=>?_
 by_cases e:i < len
 ·refine hstep rec i s e h1 h3 fun s' h4 h5=>ih s' ⟨i + 1,h4,by omega,h5⟩ ?_
  rw [h4,h1]; omega
 ·obtain rfl:i = len:=by omega
  exact hend rec s h1 h3
theorem df {p:Prop} [Decidable p] (h:¬ p:=by omega):decide p = false:=decide_eq_false h
theorem dt {p:Prop} [Decidable p] (h:p:=by omega):decide p = true:=decide_eq_true h
theorem wr {n:Int} (h0:-9223372036854775808≤n:=by omega) (h1:n≤9223372036854775807:=by omega):IntKind.i64.wrap n = n:=by
 unfold IntKind.wrap
 simp only [IntKind.signed,IntKind.bits]
 first | omega | (simp; omega)
theorem WS {n m:Nat} (h:n + m≤137438953472):rm n m = true:=decide_eq_true h
theorem Ok.rm {α:Type} {n m:Nat} {x:Option α} {Q:α→Prop} (h:n + m≤137438953472) (k:Ok x Q):Ok (bif P.rm n m then x else none) Q:=Ok.gd (WS h) k
theorem Bj {α:Type} {p:Prop} [Decidable p] {x y:α} (h:p:=by omega):(bif decide p then x else y) = x:=by rw [decide_eq_true h]; rfl
theorem Br {α:Type} {p:Prop} [Decidable p] {x y:α} (h:¬ p:=by omega):(bif decide p then x else y) = y:=by rw [decide_eq_false h]; rfl
end Go.Proofs.YtlpkhgkoihlghaaGreatDoor.P
namespace Go.Proofs.YtlpkhgkoihlghaaGreatDoor.P
open Go Go.Abs Go.Proofs
set_option maxRecDepth 100000
def ES (c:Ae):Prop:=(∀ x∈c.f_l,0≤x∧x≤255)∧c.f_l.length≤400∧0≤c.f_at∧c.f_at≤c.f_l.length
theorem ES.at {c:Ae} (h:ES c) {i:Int} (h0:0≤i) (h1:i < c.f_l.length):∃ x,idx c.f_l i = some x∧0≤x∧x≤255:=by
 have hl:i.toNat < c.f_l.length:=by omega
 exact ⟨_,WG h0 hl,h.1 _ (List.getElem_mem hl)⟩
theorem Ur {v n:Int} (hv:0≤v) (hn:1≤n):0≤Int.tmod v n∧Int.tmod v n < n:=by
 rw [Int.tmod_eq_emod_of_nonneg hv]
 exact ⟨Int.emod_nonneg _ (by omega),Int.emod_lt_of_pos _ (by omega)⟩
theorem Cv {c:Ae} (h:ES c) {n:Int} (hn:1≤n) (hn2:n≤100000):Ok (A8 c n) fun r=>ES r.2∧0≤r.1∧r.1 < n:=by
 obtain ⟨hx,hl,h0,h1⟩:=h
 have h':ES c:=⟨hx,hl,h0,h1⟩
 unfold A8
 refine Ok.brd (fun h=>by omega) fun _=>Ok.brd (fun h=>Ok.some ⟨h',by show (0:Int)≤0∧(0:Int) < n; omega⟩) fun hlt=>?_
 have e1:IntKind.i64.wrap (c.f_at + 1) = c.f_at + 1:=wr
 have e2:IntKind.i64.wrap (c.f_at + 1 - 1) = c.f_at:=by rw [wr]; omega
 obtain ⟨x,hx1,hx2,hx3⟩:=h'.at h0 (by omega)
 unfold Fl
 rw [e1,e2]
 refine Ok.bindE hx1 ?_
 have ex:IntKind.i64.wrap x = x:=wr
 have one:Ok (some (Int.tmod x n,({ f_l:=c.f_l,f_at:=c.f_at + 1 }:Ae))) fun r=>ES r.2∧0≤r.1∧r.1 < n :=
  Ok.some ⟨⟨hx,hl,by show 0≤c.f_at + 1; omega,by show c.f_at + 1≤(c.f_l.length:Int); omega⟩,Ur hx2 hn⟩
 rw [ex]
 refine Ok.brd (fun _=>Ok.brd (fun h2=>?_) fun _=>Ok.gdd (by omega) one) fun _=>Ok.gdd (by omega) one
 obtain ⟨y,hy1,hy2,hy3⟩:=h'.at (i:=c.f_at + 1) (by omega) h2
 refine Ok.bindE hy1 (Ok.gdd (by omega) (Ok.some ⟨⟨hx,hl,?_,?_⟩,?_⟩))
 ·show 0≤IntKind.i64.wrap (c.f_at + 1 + 1); rw [wr]; omega
 ·show IntKind.i64.wrap (c.f_at + 1 + 1)≤(c.f_l.length:Int); rw [wr]; omega
 ·have:IntKind.i64.wrap (IntKind.i64.wrap (x * 256) + IntKind.i64.wrap y) = x * 256 + y:=by
   rw [wr (n:=x * 256) (by omega) (by omega),wr (n:=y) (by omega) (by omega),wr]
  show 0≤Int.tmod _ n∧Int.tmod _ n < n
  rw [this]
  exact Ur (by omega) hn
theorem L1 {c:Ae} (h:ES c) {n:Int} (hn:1≤n) (hn2:n≤100000):Ok (B7 c n) fun r=>ES r.2 :=
 Ok.bind (Cv h hn hn2) fun _ hx=>Ok.some hx.1
theorem FC {c:Ae} (h:ES c) {a b:Int} (hab:a≤b) (ha:-100000000≤a) (hb:b≤100000000) (hd:b - a < 100000):Ok (AN c a b) fun r=>ES r.2∧a≤r.1∧r.1≤b:=by
 unfold AN
 have e:IntKind.i64.wrap (IntKind.i64.wrap (b - a) + 1) = b - a + 1:=by rw [wr (n:=b - a) (by omega) (by omega),wr]
 rw [e]
 refine Ok.bind (Cv h (by omega) (by omega)) fun x hx=>Ok.some ⟨hx.1,?_⟩
 show a≤IntKind.i64.wrap (a + x.1)∧IntKind.i64.wrap (a + x.1)≤b
 rw [wr]
 omega
theorem b9 {c:Ae} (h:ES c):Ok (Ew c) fun r=>ES r.2∧0≤r.1∧r.1 < 1152921504606846976:=by
 unfold Ew
 refine Ok.bind (Cv h (by omega) (by omega)) fun x hx=>Ok.bind (Cv hx.1 (by omega) (by omega)) fun y hy=>Ok.bind (Cv hy.1 (by omega) (by omega)) fun z hz=>Ok.some ⟨hz.1,?_⟩
 show 0≤IntKind.i64.wrap (IntKind.i64.wrap (x.1 * y.1) + z.1)∧IntKind.i64.wrap (IntKind.i64.wrap (x.1 * y.1) + z.1) < 1152921504606846976
 have h1:0≤x.1 * y.1:=Int.mul_nonneg hx.2.1 hy.2.1
 have h2:x.1 * y.1≤60000 * 60000:=Int.mul_le_mul (by omega) (by omega) hy.2.1 (by omega)
 rw [wr (n:=x.1 * y.1) (by omega) (by omega),wr]
 omega
theorem eG (l:List Int) (h:∀ x∈l,0≤x∧x≤255) (hl:l.length≤9223372036854775807):Ok (OI l) ES:=by
 unfold OI
 refine Ok.gdd ?_ (Ok.some ⟨fun x hx=>?_,?_,?_,?_⟩)
 ·split <;> omega
 ·exact h x (List.mem_of_mem_drop (List.mem_of_mem_take hx))
 ·show (HR l 0 _).length≤400
  unfold HR
  simp only [List.length_take,List.length_drop]
  split <;> omega
 ·show (0:Int)≤0; omega
 ·show (0:Int)≤_; omega
def dn (n:Nat):ByteArray:=⟨#[UInt8.ofNat (48 + n)]⟩
theorem UY (n:Nat) (h:n < 10):Dh (n:Int) = some (dn n):=by
 unfold Dh dn
 rw [Bj,Int.toNat_natCast]
 unfold Go.Lib.decDigits
 rw [dif_pos h]
def kc (i:Nat):BD:={ Name:=({ data:=#[107] }:ByteArray)++dn i,Parent:=0 }
def lc (n:Nat) (p:Int):BD:={ Name:=({ data:=#[108] }:ByteArray)++dn n,Parent:=p }
def fY:BD:={ Name:=({ data:=#[116,111,112] }:ByteArray),Parent:=-1 }
def Zp:List BD→List Int→List BD
 | b,[]=>b
 | b,p :: r=>Zp (b++[lc b.length p]) r
def base (kids:Nat):List BD:=fY :: (List.range kids).map kc
def Mf (kids:Nat) (ps:List Int):List BD:=Zp (base kids) ps
def VF:Nat→List (List Int)
 | 0=>[[]]
 | n + 1=>(VF n).flatMap fun l=>[l++[(n:Int) + 1],l++[(n:Int) + 1,(n:Int) + 1]]
def MM:List (List BD):=[1,2,3].flatMap fun k=>Mf k [] :: (VF k).map (Mf k)
theorem Tu:∀ (b:List BD) (p q:List Int),Zp b (p++q) = Zp (Zp b p) q
 | _,[],_=>rfl
 | b,_ :: r,q=>Tu _ r q
theorem Tv:∀ (b:List BD) (p:List Int),(Zp b p).length = b.length + p.length
 | _,[]=>rfl
 | b,x :: r=>by rw [Zp,Tv]; simp; omega
theorem Tx:∀ n,∀ l∈VF n,n≤l.length∧l.length≤2 * n
 | 0,l,h=>by simp [VF] at h; subst h; simp
 | n + 1,l,h=>by
   simp only [VF,List.mem_flatMap] at h
   obtain ⟨q,hq,h⟩:=h
   have:=Tx n q hq
   simp at h
   rcases h with rfl | rfl <;> simp <;> omega
theorem aP {n:Nat} {q:List Int} (hq:q∈VF n) (k:Nat) (h1:1≤k) (h2:k≤2):q++List.replicate k ((n:Int) + 1)∈VF (n + 1):=by
 simp only [VF,List.mem_flatMap]
 refine ⟨q,hq,?_⟩
 rcases (by omega:k = 1∨k = 2) with rfl | rfl
 ·exact List.mem_cons_self ..
 ·exact List.mem_cons_of_mem _ (List.mem_cons_self ..)
theorem aA {c:Ae} (h:ES c) (name:ByteArray):Ok (Ee c name) fun r=>ES r.2∧∃ l∈MM,r.1 = { Name:=name,Codes:=l }:=by
 unfold Ee
 refine Ok.bind (FC h (by omega) (by omega) (by omega) (by omega)) fun x hx=>?_
 obtain ⟨kids,hk⟩:∃ k:Nat,x.1 = k:=⟨x.1.toNat,by omega⟩
 obtain ⟨hc,hk1,hk2⟩:=hx
 rw [hk] at hk1 hk2
 have hkm:kids∈[1,2,3]:=by rcases (by omega:kids = 1∨kids = 2∨kids = 3) with rfl | rfl | rfl <;> simp
 refine Ok.for (fun s=>s.1) kids (fun i s=>s.2 = base i) 0 (Nat.zero_le _) rfl rfl (by omega) (fun rec s hs hI=>?_) fun rec i s hi hs hI ih=>?_
 ·simp only [Fh,hs,hk,hI]
  rw [Br]
  unfold Fj
  refine Ok.bind (L1 hc (by omega) (by omega)) fun y hy=>Ok.br (fun _=>Ok.some ⟨hy,base kids,?_,rfl⟩) fun _=>?_
  ·simp only [MM,List.mem_flatMap]
   exact ⟨kids,hkm,List.mem_cons_self ..⟩
  refine Ok.for (fun s=>s.1) kids (fun i s=>ES s.2.1∧∃ p∈VF i,s.2.2 = Mf kids p) 0 (Nat.zero_le _) rfl ⟨hy,[],by simp [VF],rfl⟩ (by omega) (fun rec s hs hI=>?_) fun rec i s hi hs hI ih=>?_
  ·obtain ⟨h1,p,h2,h3⟩:=hI
   simp only [Fi,hs,hk]
   rw [Br]
   refine Ok.some ⟨h1,Mf kids p,?_,by rw [h3]⟩
   simp only [MM,List.mem_flatMap]
   exact ⟨kids,hkm,List.mem_cons_of_mem _ (List.mem_map.2 ⟨p,h2,rfl⟩)⟩
  ·obtain ⟨h1,p,h2,h3⟩:=hI
   simp only [Fi,hs,hk]
   rw [Bj]
   refine Ok.bind (FC h1 (by omega) (by omega) (by omega) (by omega)) fun z hz=>?_
   have hpl:=Tx i p h2
   obtain ⟨m,hm⟩:∃ k:Nat,z.1 = k:=⟨z.1.toNat,by omega⟩
   refine Ok.loop (fun s=>∃ j:Nat,j≤m∧s.1 = (m:Int) - j∧s.2 = Mf kids (p++List.replicate j ((i:Int) + 1))) (fun s=>s.1.toNat) ⟨0,by omega,by simp [hm],by simp [h3]⟩ (by unfold AI; show z.1.toNat < _; omega) fun rec s hs ih2=>?_
   obtain ⟨j,hj,e1,e2⟩:=hs
   have hml:s.2.length = 1 + kids + p.length + j:=by
    rw [e2,Mf,Tv]; simp [base]; omega
   simp only [HL]
   refine Ok.brd (fun hpos=>?_) fun hneg=>?_
   ·have hitoa:=UY s.2.length (by omega)
    refine Ok.bindE hitoa (Ok.gdd (by simp [dn,ByteArray.size]) (Ok.rm (by simp; omega) (ih2 _ ⟨j + 1,by omega,?_,?_⟩ ?_)))
    ·show IntKind.i64.wrap (s.1 - 1) = _
     rw [wr]; omega
    ·have hw:IntKind.i64.wrap (1 + (i:Int)) = (i:Int) + 1:=by rw [wr]; omega
     show s.2++[({ Name:=({ data:=#[108] }:ByteArray)++dn s.2.length,Parent:=IntKind.i64.wrap (1 + (i:Int)) }:BD)] = _
     rw [hw,List.replicate_succ',← List.append_assoc,Mf,Tu,← Mf,← e2]
     rfl
    ·show (IntKind.i64.wrap (s.1 - 1)).toNat < s.1.toNat
     rw [wr]; omega
   ·obtain rfl:j = m:=by omega
    refine ih _ ?_ ⟨hz.1,p++List.replicate j ((i:Int) + 1),aP h2 j (by omega) (by omega),e2⟩
    show IntKind.i64.wrap ((i:Int) + 1) = _
    rw [wr]; omega
 ·simp only [Fh,hs,hk]
  rw [Bj]
  have hl:s.2.length = 1 + i:=by rw [hI]; simp [base]; omega
  refine Ok.bindE (UY i (by omega)) (Ok.gdd (by simp [dn,ByteArray.size]) (Ok.rm (by simp; omega) (ih _ ?_ ?_)))
  ·show IntKind.i64.wrap ((i:Int) + 1) = _
   rw [wr]; omega
  ·show s.2++[_] = _
   rw [hI]
   simp [base,List.range_succ,kc]
def N4:List (List Int):=[[1],[1,5],[1,5,20],[1,2,4,12]]
structure Qe (c:A3):Prop where
 kind:c.Kind = 3
 list:c.List_ = 0
 low:-4≤c.Low∧c.Low≤2
 high:c.Low≤c.High∧c.High≤c.Low + 44
 widths:c.Widths∈N4
theorem ZK {c:Ae} (h:ES c) (name:ByteArray):Ok (CS c name) fun r=>ES r.2∧Qe r.1∧r.1.Name = name:=by
 unfold CS
 refine Ok.bind (FC h (by omega) (by omega) (by omega) (by omega)) fun x hx=>Ok.bind (Cv hx.1 (by omega) (by omega)) fun y hy=>?_
 have hl:y.1.toNat < N4.length:=by simp [N4]; omega
 refine Ok.idx hy.2.1 hl (Ok.bind (L1 hy.1 (by omega) (by omega)) fun z hz=>Ok.bind (Cv hz (by omega) (by omega)) fun u hu=>Ok.some ⟨hu.1,⟨rfl,rfl,hx.2,?_,List.getElem_mem hl⟩,rfl⟩)
 show x.1≤IntKind.i64.wrap (x.1 + u.1)∧IntKind.i64.wrap (x.1 + u.1)≤x.1 + 44
 rw [wr]
 omega
def eX:A3:={ Name:=({ data:=#[119,104,111] }:ByteArray),Kind:=1,List_:=0,Low:=0,High:=0,Widths:=[],Optional:=false }
def fC:A3:={ Name:=({ data:=#[115,101,120] }:ByteArray),Kind:=2,List_:=0,Low:=0,High:=0,Widths:=[],Optional:=false }
def fG:A3:={ Name:=({ data:=#[106,111,98] }:ByteArray),Kind:=2,List_:=1,Low:=0,High:=0,Widths:=[],Optional:=false }
def JN (j:Bool):List A3:=[eX,fC]++(if j then [fG] else [])
def cG (i:Nat):ByteArray:=({ data:=#[109] }:ByteArray)++dn i
def Vf:ByteArray:={ data:=#[111,110,101] }
def XX:ByteArray:={ data:=#[116,119,111] }
def Ms (k:Nat) (ms:List A3):Prop:=∀ i (h:i < ms.length),Qe ms[i]∧ms[i].Name = cG (k + i)
structure DS (s:Af):Prop where
 lists:∃ a∈MM,∃ b∈MM,s.Lists = [{ Name:=Vf,Codes:=a },{ Name:=XX,Codes:=b }]
 cols:∃ j ms,s.Columns = JN j++ms∧1≤ms.length∧ms.length≤3∧Ms (JN j).length ms
theorem Ms.snoc {k:Nat} {ms:List A3} (h:Ms k ms) {c:A3} (hc:Qe c) (hn:c.Name = cG (k + ms.length)):Ms k (ms++[c]):=by
 intro i hi
 by_cases e:i < ms.length
 ·rw [List.getElem_append_left e]; exact h i e
 ·have:i = ms.length:=by simp at hi; omega
  subst this
  simp [hc,hn]
theorem N9 (j:Bool):2≤(JN j).length∧(JN j).length≤3:=by cases j <;> simp [JN]
theorem TR {body:((Int × Ae × List A3)→Option (Af × Ae))→(Int × Ae × List A3)→Option (Af × Ae)} {L:List Ax} (hL:∃ a∈MM,∃ b∈MM,L = [{ Name:=Vf,Codes:=a },{ Name:=XX,Codes:=b }])
 (hb:body = fun rec s=>Ev (fun v4_1 w0_1 b12_1=>some (({ Lists:=L,Columns:=b12_1 }:Af),w0_1)) rec s.1 s.2.1 s.2.2) (j:Bool) {n:Int} (h1:1≤n) (h2:n≤3) {c:Ae} (hc:ES c) :
 Ok (iter body AI (n,c,JN j)) fun r=>ES r.2∧DS r.1:=by
 subst hb
 have hcl:=N9 j
 refine Ok.loop (fun s=>0≤s.1∧ES s.2.1∧∃ ms,s.2.2 = JN j++ms∧(ms.length:Int) = n - s.1∧Ms (JN j).length ms) (fun s=>s.1.toNat) ⟨by show 0≤n; omega,hc,[],by simp,by simp,fun i hi=>by simp at hi⟩ (by unfold AI; show n.toNat < _; omega) fun rec s hs ih=>?_
 obtain ⟨h0,hcs,ms,e1,e2,e3⟩:=hs
 simp only [Ev]
 refine Ok.brd (fun hpos=>?_) fun hneg=>?_
 ·have hl:s.2.2.length = (JN j).length + ms.length:=by rw [e1]; simp
  refine Ok.bindE (UY _ (by omega)) (Ok.gdd (by simp [dn,ByteArray.size]) (Ok.bind (ZK hcs _) fun x hx=>Ok.rm (by simp; omega) (ih _ ⟨?_,hx.1,ms++[x.1],by rw [e1]; simp,?_,e3.snoc hx.2.1 ?_⟩ ?_)))
  ·show 0≤IntKind.i64.wrap (s.1 - 1); rw [wr]; omega
  ·show _ = n - IntKind.i64.wrap (s.1 - 1); rw [wr]; simp; omega
  ·rw [hx.2.2,hl]; rfl
  ·show (IntKind.i64.wrap (s.1 - 1)).toNat < s.1.toNat; rw [wr]; omega
 ·exact Ok.some ⟨hcs,⟨hL,j,ms,e1,by omega,by omega,e3⟩⟩
theorem b8 {c:Ae} (h:ES c):Ok (Eu c) fun r=>ES r.2∧DS r.1:=by
 unfold Eu
 refine Ok.bind (aA h _) fun x hx=>Ok.bind (aA hx.1 _) fun y hy=>Ok.bind (L1 hy.1 (by omega) (by omega)) fun z hz=>?_
 obtain ⟨_,a,ha,ea⟩:=hx
 obtain ⟨_,b,hb,eb⟩:=hy
 have hL:∃ a∈MM,∃ b∈MM,[x.1,y.1] = [{ Name:=Vf,Codes:=a },{ Name:=XX,Codes:=b }]:=⟨a,ha,b,hb,by rw [ea,eb]; rfl⟩
 refine Ok.br (fun _=>Ok.rm (by simp) (Ok.bind (FC hz (by omega) (by omega) (by omega) (by omega)) fun u hu=>?_)) fun _=>Ok.bind (FC hz (by omega) (by omega) (by omega) (by omega)) fun u hu=>?_
 ·exact TR hL rfl true hu.2.1 hu.2.2 hu.1
 ·exact TR hL rfl false hu.2.1 hu.2.2 hu.1
end Go.Proofs.YtlpkhgkoihlghaaGreatDoor.P
namespace Go.Proofs.YtlpkhgkoihlghaaGreatDoor.P
open Go Go.Abs Go.Proofs
set_option maxRecDepth 100000
def aN:List Ax:=[Vf,XX].flatMap fun n=>MM.map fun l=>{ Name:=n,Codes:=l }
variable {s:Af}
theorem DS.list (h:DS s) {i:Nat} (hi:i < s.Lists.length):s.Lists[i]∈aN:=by
 obtain ⟨a,ha,b,hb,e⟩:=h.lists
 have h1:∀ (k:Nat) (hk:k < 2),([{ Name:=Vf,Codes:=a },{ Name:=XX,Codes:=b }]:List Ax)[k]'hk∈aN:=by
  intro k hk
  simp only [aN,List.mem_flatMap]
  rcases (by omega:k = 0∨k = 1) with rfl | rfl
  ·exact ⟨Vf,by simp,List.mem_map.2 ⟨a,ha,rfl⟩⟩
  ·exact ⟨XX,by simp,List.mem_map.2 ⟨b,hb,rfl⟩⟩
 have hi2:i < 2:=by rw [e] at hi; exact hi
 have:=h1 i hi2
 simp only [e]
 exact this
theorem DS.lists2 (h:DS s):s.Lists.length = 2:=by
 obtain ⟨a,ha,b,hb,e⟩:=h.lists
 rw [e]; rfl
def M6 (l:Ax):Int:=(E0 l).getD 0
def Ey (l:Ax):List Int:=(Np l (M6 l - 1)).getD []
theorem YK:(aN.all fun l=>Ez l==some 0 && EV l==some 0 && (E0 l==some (M6 l)) && (G4 l==some (M6 l)) && decide (2≤M6 l) && decide (M6 l≤3) &&
 Np l (M6 l - 1)==some (Ey l) && MS l (M6 l - 1)==some (Ey l) && !(Ey l).isEmpty && (Ey l).all fun x=>decide (0≤x) && decide (x < l.Codes.length) && Gp l x==some (M6 l - 1) && Lh l x (M6 l - 1)==some x && LC l x (M6 l - 1)==some x) = true:=by decide +kernel
structure CL (l:Ax):Prop where
 rcheck:Ez l = some 0
 check:EV l = some 0
 rlev:E0 l = some (M6 l)
 lev:G4 l = some (M6 l)
 lev2:2≤M6 l
 lev3:M6 l≤3
 rleaves:Np l (M6 l - 1) = some (Ey l)
 leaves:MS l (M6 l - 1) = some (Ey l)
 some_:Ey l≠[]
 leaf:∀ x∈Ey l,0≤x∧x < l.Codes.length∧Gp l x = some (M6 l - 1)∧Lh l x (M6 l - 1) = some x∧LC l x (M6 l - 1) = some x
theorem Oa {l:Ax} (h:l∈aN):CL l:=by
 have:=List.all_eq_true.1 YK l h
 simp only [Bool.and_eq_true,beq_iff_eq,decide_eq_true_eq,List.all_eq_true,Bool.not_eq_true',List.isEmpty_eq_false_iff] at this
 obtain ⟨⟨⟨⟨⟨⟨⟨⟨⟨h1,h2⟩,h3⟩,h4⟩,h5⟩,h6⟩,h7⟩,h8⟩,h9⟩,h10⟩:=this
 exact ⟨h1,h2,h3,h4,h5,h6,h7,h8,h9,fun x hx=>by have:=h10 x hx; obtain ⟨⟨⟨⟨a,b⟩,c⟩,d⟩,e⟩:=this; exact ⟨a,b,c,d,e⟩⟩
def NG (j:Bool) (n:Nat):List ByteArray:=(JN j).map (·.Name)++(List.range n).map fun i=>cG ((JN j).length + i)
theorem TK:([true,false].all fun j=>[1,2,3].all fun n=>(NG j n).all (fun x=>D8 x==some true && D4 x==some true) &&
 (List.range (NG j n).length).all fun i=>(List.range i).all fun k=>match (NG j n)[i]?,(NG j n)[k]? with | some x,some y=>!(x.toList==y.toList) && !(y.toList==x.toList) | _,_=>false) = true:=by decide +kernel
structure O0 (c:A3):Prop where
 kind:c.Kind = 2
 list:c.List_ = 0∨c.List_ = 1
 low:c.Low = 0
 high:c.High = 0
 widths:c.Widths = []
 opt:c.Optional = false
theorem DS.cols_length (h:DS s):3≤s.Columns.length∧s.Columns.length≤6:=by
 obtain ⟨j,ms,e,h1,h2,h3⟩:=h.cols
 have:=N9 j
 rw [e,List.length_append]
 omega
theorem DS.col0 (h:DS s) (hi:0 < s.Columns.length):s.Columns[0] = eX:=by
 obtain ⟨j,ms,e,h1,h2,h3⟩:=h.cols
 have:s.Columns[0]? = some eX:=by rw [e]; cases j <;> rfl
 rw [List.getElem?_eq_getElem hi] at this
 exact Option.some.inj this
theorem DS.col (h:DS s) {i:Nat} (h0:1≤i) (hi:i < s.Columns.length):O0 s.Columns[i]∨Qe s.Columns[i]:=by
 obtain ⟨j,ms,e,h1,h2,h3⟩:=h.cols
 have hg:s.Columns[i]? = some s.Columns[i]:=List.getElem?_eq_getElem hi
 generalize hc:s.Columns[i] = c at hg ⊢
 rw [e] at hg
 by_cases hl:i < (JN j).length
 ·rw [List.getElem?_append_left hl] at hg
  left
  cases j with
  | true =>
    rcases (by simp [JN] at hl; omega:i = 1∨i = 2) with rfl | rfl
    ·cases hg; exact ⟨rfl,.inl rfl,rfl,rfl,rfl,rfl⟩
    ·cases hg; exact ⟨rfl,.inr rfl,rfl,rfl,rfl,rfl⟩
  | false =>
    obtain rfl:i = 1:=by simp [JN] at hl; omega
    cases hg; exact ⟨rfl,.inl rfl,rfl,rfl,rfl,rfl⟩
 ·right
  rw [List.getElem?_append_right (by omega)] at hg
  obtain ⟨hlt,rfl⟩:=List.getElem?_eq_some_iff.1 hg
  exact (h3 _ hlt).1
theorem DS.names (h:DS s):∃ j n,n∈[1,2,3]∧s.Columns.map (·.Name) = NG j n:=by
 obtain ⟨j,ms,e,h1,h2,h3⟩:=h.cols
 refine ⟨j,ms.length,by simp; omega,?_⟩
 rw [e,List.map_append,NG]
 congr 1
 apply List.ext_getElem (by simp)
 intro i hi hi2
 simp only [List.getElem_map,List.getElem_range]
 exact (h3 i (by simpa using hi)).2
theorem DS.name (h:DS s) {i:Nat} (hi:i < s.Columns.length):D8 s.Columns[i].Name = some true∧D4 s.Columns[i].Name = some true:=by
 obtain ⟨j,n,hn,e⟩:=h.names
 have hf:=List.all_eq_true.1 (List.all_eq_true.1 TK j (by cases j <;> simp)) n hn
 simp only [Bool.and_eq_true,List.all_eq_true,beq_iff_eq] at hf
 refine hf.1 _ ?_
 rw [← e]
 exact List.mem_map.2 ⟨_,List.getElem_mem hi,rfl⟩
theorem DS.name_ne (h:DS s) {i k:Nat} (hi:i < s.Columns.length) (hk:k < i):(s.Columns[k].Name.toList==s.Columns[i].Name.toList) = false∧(s.Columns[i].Name.toList==s.Columns[k].Name.toList) = false:=by
 obtain ⟨j,n,hn,e⟩:=h.names
 have hf:=List.all_eq_true.1 (List.all_eq_true.1 TK j (by cases j <;> simp)) n hn
 simp only [Bool.and_eq_true,List.all_eq_true] at hf
 have hl:s.Columns.length = (NG j n).length:=by rw [← e,List.length_map]
 have:=hf.2 i (List.mem_range.2 (by omega)) k (List.mem_range.2 hk)
 rw [← e,List.getElem?_map,List.getElem?_map,List.getElem?_eq_getElem hi,List.getElem?_eq_getElem (by omega:k < s.Columns.length)] at this
 simp only [Option.map_some,Bool.and_eq_true,Bool.not_eq_true'] at this
 exact ⟨this.2,this.1⟩
def OJ {α:Type} (q:α→Bool) (l:List α):Int:=match l.findIdx? q with | some i=>(i:Int) | none=>-1
theorem KU {α:Type} {l:List α} {p:α→Option Bool} {q:α→Bool} (hp:∀ x∈l,p x = some (q x)) (hl:l.length≤1000000000) :
 iter (fun rec1 v=>bif (decide (v < ((l.length:Nat):Int))) then (idx l v).bind fun x14=>(p x14).bind fun x16=>bif x16 then some v else rec1 (IntKind.i64.wrap (v + 1)) else some (-1)) AI 0 = some (OJ q l):=by
 refine Ok.val (Ok.for (fun s=>s) l.length (fun i _=>∀ k (hk:k < l.length),k < i→q l[k] = false) 0 (Nat.zero_le _) rfl (fun _ _ h=>by omega) (by omega) (fun rec s hs hI=>?_) fun rec i s hi hs hI ih=>?_)
 ·rw [hs,Br]
  refine Ok.some ?_
  have:l.findIdx? q = none:=by
   rw [List.findIdx?_eq_none_iff]
   intro x hx
   obtain ⟨k,hk,rfl⟩:=List.mem_iff_getElem.1 hx
   exact hI k hk hk
  simp [OJ,this]
 ·rw [hs,Bj]
  refine Ok.idxn hi (Ok.bindE (hp _ (List.getElem_mem hi)) (Ok.br (fun h=>Ok.some ?_) fun h=>ih _ ?_ fun k hk hk2=>?_))
  ·have:l.findIdx? q = some i:=by
    rw [List.findIdx?_eq_some_iff_getElem]
    exact ⟨hi,h,fun k hk=>by rw [hI k (by omega) hk]; simp⟩
   simp [OJ,this]
  ·show IntKind.i64.wrap ((i:Int) + 1) = _
   rw [wr]; omega
  ·by_cases e:k = i
   ·subst e; exact h
   ·exact hI k hk (by omega)
theorem KQ {α:Type} (q:α→Bool) (l:List α):decide (OJ q l ≥ 0) = l.any q:=by
 unfold OJ
 cases h:l.findIdx? q with
 | none =>
   rw [List.findIdx?_eq_none_iff] at h
   have:l.any q = false:=by rw [List.any_eq_false]; intro x hx; simp [h x hx]
   simp [this]
 | some i =>
   obtain ⟨hi,h1,_⟩:=List.findIdx?_eq_some_iff_getElem.1 h
   have:l.any q = true:=List.any_eq_true.2 ⟨_,List.getElem_mem hi,h1⟩
   simp only [this]
   exact dt
theorem aS {l:List A3} {p:A3→Option Bool} (q:A3→Bool) (hp:∀ x∈l,p x = some (q x)) (hl:l.length≤1000000000):Bi l p = some (l.any q):=by
 unfold Bi
 rw [show B3 l p = some (OJ q l) from KU hp hl,Option.bind_some,KQ]
theorem Yk {l:List Ax} {p:Ax→Option Bool} (q:Ax→Bool) (hp:∀ x∈l,p x = some (q x)) (hl:l.length≤1000000000):Ba l p = some (l.any q):=by
 unfold Ba
 rw [show Bt l p = some (OJ q l) from KU hp hl,Option.bind_some,KQ]
end Go.Proofs.YtlpkhgkoihlghaaGreatDoor.P
