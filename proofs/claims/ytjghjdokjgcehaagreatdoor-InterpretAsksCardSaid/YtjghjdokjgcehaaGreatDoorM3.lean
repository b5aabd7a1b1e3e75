/- M3 -/
import Derived.Test.YtjghjdokjgcehaaGreatDoorM2
import Derived.Tactics
import Derived.Shelf.Sort.Plain
import Derived.Shelf.Slices.In.SortNone
import Derived.Sort.OwnSortedInts
import Derived.Lib.SlKept
import Derived.Lib.SliceRun
import Derived.Shelf.Slices.CompactI
import Derived.ChangeSlices
import Derived.OpenShut
set_option linter.unusedVariables false
set_option linter.unusedSimpArgs false
namespace Go.Abs
open Go.RowKit (Below)
section
variable {P:Program} {X:Cx} {G:Nat→Prop} {β:Nat→Value} {S:AS} {a:Act} {w:World} {o:Oper}
theorem VS {α:Type} {x:Array α} {p:α} (h:x.toList = [p]):x = #[p]:=by cases x; simp_all
theorem Jz {α:Type} {x:Array α} {p q:α} (h:x.toList = [p,q]):x = #[p,q]:=by cases x; simp_all
theorem AT {K:Gu→Prop} (h:∃ e,K e∧CX P X G S a w o e):∃ e,K e∧(FK S e.homes = true→CX P X G S a w o e):=by
 obtain ⟨e,h1,h2⟩:=h
 exact ⟨e,h1,fun _=>h2⟩
set_option maxHeartbeats 2000000 in
theorem bW (h:AG X G β S a w) {g:Option (Nat × Bool)} (hg:BP g a) {d:Nat} (hd:d < S.length) {K:Gu→Prop} (hy:yA P (σOf S) (ρOf S) g o d (Ar S d).ver K) :
 ∃ e,K e∧(FK S e.homes = true→CX P X G S a w o e):=by
 unfold yA at hy
 split at hy
 ·rename_i x ho
  exact AT ⟨_,hy,Vo h hg (.inl ho)⟩
 ·rename_i x ho
  split at hy
  ·rename_i hn
   split at hy
   ·rename_i e _
    obtain ⟨h1,hy⟩:=Aq hy
    exact AT ⟨_,hy,bd h hd ho hn h1⟩
   ·exact hy.elim
  ·exact AT ⟨_,hy,Vo h hg (.inr ho)⟩
 ·rename_i t x y ho
  split at hy
  ·rename_i hc; have h1:=ρ_sound h hg (.tmp t); rw [hc] at h1; exact h1.elim
  ·rename_i c hc
   split at hy
   ·rename_i h1
    split at hy
    ·rename_i b2 h2
     exact AT ⟨_,hy,Yk h hg ho hc h1 h2⟩
    ·exact hy.elim
   ·rename_i b1 h1
    split at hy
    ·rename_i h2
     exact AT ⟨_,hy,Yl h hg ho hc h1 h2⟩
    ·rename_i b2 h2
     exact AT ⟨_,hy,ZK h hg ho hc h1 h2⟩
    ·exact hy.elim
   ·exact hy.elim
  ·exact hy.elim
 ·rename_i T x ho
  exact AT (aZ h hg hd ho hy)
 ·rename_i T ho
  split at hy
  ·rename_i l hl
   exact AT (Yg h hd ho hl hy)
  ·exact hy.elim
 ·rename_i t parts ho
  split at hy
  ·rename_i fields hu
   split at hy
   ·rename_i zd hzd
    obtain ⟨hall,hy⟩:=Aq hy
    split at hy
    ·exact AT (T3 h hg ho hu hzd hall hy)
    ·rcases hy.go with hy | hy
     ·exact AT (T3 h hg ho hu hzd hall hy)
     ·exact AT (Xa h hg ho hu hzd hall hy)
   ·exact hy.elim
  ·exact hy.elim
 ·rename_i t n parts ho
  split at hy
  ·rename_i e hu
   exact AT (SQ h hg hd ho hu hy)
  ·exact hy.elim
 ·rename_i t x y ho
  split at hy
  ·rename_i e hu
   split at hy
   ·rename_i k l hl
    split at hy
    ·rename_i k' c hc
     obtain ⟨⟨h1,h2⟩,hy⟩:=Aq hy
     exact AT (ZJ h hg hd ho hu h1 h2 hl hc hy)
    ·exact hy.elim
   ·exact hy.elim
  ·exact hy.elim
 ·rename_i f first caps ho
  split at hy
  ·rename_i hf
   split at hy
   ·exact AT (Vn h hg ho hf hy)
   ·rcases hy.go with hy | hy
    ·exact AT (Vn h hg ho hf hy)
    ·exact AT (Yj h hg ho hf hy)
  ·exact hy.elim
 ·rename_i t x ho
  have hr:=ρ_sound h hg x
  split at hy
  ·rename_i hx; rw [hx] at hr; exact hr.elim
  ·rename_i id n off cs hx
   rw [hx] at hr
   exact AT (Xe h ho hr hy)
  ·rename_i cs hx
   rw [hx] at hr
   exact AT (Xb h ho hr hy)
  ·rename_i id n sz e xs i off hx
   rw [hx] at hr
   exact AT (Xd h ho hr hy)
  ·exact hy.elim
 ·rename_i t p x ho
  obtain ⟨hi,hy⟩:=Aq hy
  obtain ⟨i,hi⟩:=Option.isSome_iff_exists.1 hi
  have hr:=ρ_sound h hg p
  split at hy
  ·rename_i id n off cs hx
   rw [hx] at hr
   exact AT (Wd h hg ho hr hi hy)
  ·rename_i id n sz e xs k off hx
   rw [hx] at hr
   exact AT (Wc h hg ho hr hi hy)
  ·exact hy.elim
 ·rename_i x ho
  have hr:=ρ_sound h hg x
  split at hy
  ·rename_i id n off cs hx
   rw [hx] at hr
   have hb:=K7 (tm:=a.tmps) hr
   obtain ⟨_,_,b,_,hv⟩:=hr
   exact AT ⟨_,hy,J2 h ho (.inl ⟨_,hv⟩) hb.1 hb.2⟩
  ·rename_i cs hx
   rw [hx] at hr
   have hb:=K7 (tm:=a.tmps) hr
   obtain ⟨b,off,hv,_⟩:=Us hr
   exact AT ⟨_,hy,J2 h ho (.inl ⟨_,hv⟩) hb.1 hb.2⟩
  ·rename_i f cs hx
   rw [hx] at hr
   have hb:=K7 (tm:=a.tmps) hr
   obtain ⟨vs,hv,_⟩:=Zv hr
   exact AT ⟨_,hy,J2 h ho (.inr ⟨f,vs,hv⟩) hb.1 hb.2⟩
  ·rename_i id n sz e xs i off hx
   rw [hx] at hr
   have hb:=K7 (tm:=a.tmps) hr
   obtain ⟨_,_,b,m,cap,_,hv⟩:=hr
   exact AT ⟨_,hy,J2 h ho (.inl ⟨_,hv⟩) hb.1 hb.2⟩
  ·exact hy.elim
 ·rename_i op t x y U ho
  have hrx:=ρ_sound h hg x
  have hry:=ρ_sound h hg y
  split at hy
  ·rename_i hp; rw [hp] at hrx; exact hrx.elim
  ·rename_i p hp
   rw [hp] at hrx
   split at hy
   ·rename_i hq; rw [hq] at hry; exact hry.elim
   ·rename_i q hq
    rw [hq] at hry
    exact AT (Yh h ho hrx hry hy)
   ·exact hy.elim
  ·exact hy.elim
 ·rename_i op t x ho
  have hrx:=ρ_sound h hg x
  split at hy
  ·rename_i hp; rw [hp] at hrx; exact hrx.elim
  ·rename_i p hp
   rw [hp] at hrx
   exact AT (ZL h ho hrx hy)
  ·exact hy.elim
 ·rename_i s t x ho
  have hrx:=ρ_sound h hg x
  split at hy
  ·rename_i ds hs
   split at hy
   ·rename_i k ht
    split at hy
    ·rename_i hx; rw [hx] at hrx; exact hrx.elim
    ·rename_i k' n hx
     rw [hx] at hrx
     exact AT ⟨_,hy,VW h ho ht ⟨_,hs⟩ hrx⟩
    ·exact hy.elim
   ·rename_i ht
    split at hy
    ·rename_i hx; rw [hx] at hrx; exact hrx.elim
    ·rename_i b hx
     rw [hx] at hrx
     exact AT ⟨_,hy,VX h ho ht ⟨_,hs⟩ hrx⟩
    ·exact hy.elim
   ·rename_i e ht
    split at hy <;> try exact hy.elim
    rename_i he
    split at hy
    ·rename_i hx; rw [hx] at hrx; exact hrx.elim
    ·rename_i b hx
     rw [hx] at hrx
     exact AT ⟨_,hy,T4 h ho ht he ⟨_,hs⟩ hrx⟩
    ·exact hy.elim
   ·exact hy.elim
  ·exact hy.elim
 ·rename_i s x f ho
  split at hy
  ·rename_i fields hu
   split at hy
   ·rename_i fd hf
    obtain ⟨hz,hy⟩:=Aq hy
    exact AT (T5 h hg ho hu hf hz hy)
   ·exact hy.elim
  ·exact hy.elim
 ·rename_i s x f ho
  have hrx:=ρ_sound h hg x
  split at hy
  ·rename_i fields hu
   split at hy
   ·rename_i fd hf
    split at hy
    ·rename_i hx; rw [hx] at hrx; exact hrx.elim
    ·rename_i cs hx
     rw [hx] at hrx
     exact AT (Yi h ho hu hf hrx hy)
    ·exact hy.elim
   ·exact hy.elim
  ·exact hy.elim
 ·rename_i t x ix ho
  have hrx:=ρ_sound h hg x
  have hri:=ρ_sound h hg ix
  split at hy
  ·rename_i e hu
   split at hy
   ·rename_i k i hi
    rw [hi] at hri
    split at hy
    ·rename_i sz xs hx
     rw [hx] at hrx
     obtain ⟨⟨hs,hs0⟩,hy⟩:=Aq hy
     exact AT (QA h ho hu hs hs0 hri hrx hy)
    ·rename_i sz xs hx
     rw [hx] at hrx
     obtain ⟨⟨hs,hs0⟩,hy⟩:=Aq hy
     exact AT (QA h ho hu hs hs0 hri hrx.1 hy)
    ·rename_i id n sz e' xs hx
     rw [hx] at hrx
     obtain ⟨hs,hy⟩:=Aq hy
     obtain ⟨⟨h0,h1⟩,hy⟩:=hy
     exact AT ⟨_,hy,T7 h ho hu hri hs hrx h0 h1⟩
    ·exact hy.elim
   ·exact hy.elim
  ·rename_i n e hu
   split at hy
   ·rename_i k i hi
    rw [hi] at hri
    split at hy
    ·rename_i cs hx
     rw [hx] at hrx
     obtain ⟨hs,hy⟩:=Aq hy
     obtain ⟨hn,hy⟩:=hy
     exact AT (T6 h ho hu hs hri hrx hn hy)
    ·exact hy.elim
   ·exact hy.elim
  ·exact hy.elim
 ·rename_i t x ix ho
  have hrx:=ρ_sound h hg x
  have hri:=ρ_sound h hg ix
  split at hy
  ·rename_i hu
   split at hy
   ·rename_i k i hi
    rw [hi] at hri
    split at hy
    ·rename_i b hx
     rw [hx] at hrx
     obtain ⟨⟨h0,h1⟩,hy⟩:=hy
     exact AT ⟨_,hy,VY h ho hu hri hrx h0 h1⟩
    ·exact hy.elim
   ·exact hy.elim
  ·exact hy.elim
 ·rename_i t x lo hi mx ho
  have hrx:=ρ_sound h hg x
  split at hy
  ·rename_i hu
   cases mx with
   | some m=>exact hy.elim
   | none =>
     simp only at hy
     split at hy
     ·rename_i b hx
      rw [hx] at hrx
      obtain ⟨l,hy,hl⟩:=M2 h hg hy
      obtain ⟨r,hy,hr⟩:=M2 h hg hy
      obtain ⟨⟨h0,h1,h2⟩,hy⟩:=hy
      exact AT ⟨_,hy,Wb h ho hu hrx hl hr h0 h1 h2⟩
     ·exact hy.elim
  ·rename_i e hu
   split at hy
   ·rename_i sz xs hx
    rw [hx] at hrx
    obtain ⟨⟨hs,hs0⟩,hy⟩:=Aq hy
    exact AT (Kq h hg ho hu hs hs0 (bx:=[]) trivial hrx hy)
   ·rename_i sz hx
    rw [hx] at hrx
    obtain ⟨⟨hs,hs0⟩,hy⟩:=Aq hy
    exact AT (Kq h hg ho hu hs hs0 (bx:=[]) (xs:=[]) trivial (AB.norm hrx) hy)
   ·rename_i sz xs hx
    rw [hx] at hrx
    obtain ⟨⟨hs,hs0⟩,hy⟩:=Aq hy
    exact AT (Kq h hg ho hu hs hs0 (bx:=[]) trivial hrx.1 hy)
   ·rename_i id n sz e' xs hx
    rw [hx] at hrx
    obtain ⟨⟨hs,hs0⟩,hy⟩:=Aq hy
    rcases hy.go with hy | hy
    ·obtain ⟨y,b,hK,hF,_,hh⟩:=HV (x:=X) (G:=G) (a:=a) (K:=fun y b=>y = .list sz xs∧b = [(id,Cg.frow sz xs,n)]) hrx ⟨rfl,rfl⟩
     obtain ⟨rfl,rfl⟩:=hK
     exact AT (Kq h hg ho hu hs hs0 hF (hh.now h hF) hy)
    ·cases lo with
     | some q=>exact hy.elim
     | none =>
       cases mx with
       | some q=>exact hy.elim
       | none =>
         simp only at hy
         obtain ⟨r,hy,hr⟩:=M2 h hg hy
         obtain ⟨⟨h0,h2⟩,hy⟩:=hy
         exact AT ⟨_,hy,ba h ho hu hs hs0 hrx hr h0 h2⟩
   ·exact hy.elim
  ·exact hy.elim
 ·rename_i c ho
  split at hy
  ·rename_i fo hc
   split at hy
   ·rename_i f caps hf
    exact ZH h hg hd ho hc hf hy
   ·rename_i f cs k id n rid rn hf
    split at hy <;> try exact hy.elim
    rename_i hr
    exact AT (Ym h hg ho hc hf hr hy)
   ·exact hy.elim
  ·rename_i hc
   split at hy
   ·rename_i x t hx ht
    have hce:c = ⟨.builtin .len,#[x],#[t]⟩:=by
     obtain ⟨callee,args,ts⟩:=c
     simp only at hc hx ht
     rw [hc,VS hx,VS ht]
    rw [hce] at ho
    have hrx:=ρ_sound h hg x
    split at hy
    ·rename_i hu
     split at hy
     ·rename_i hs; rw [hs] at hrx; exact hrx.elim
     ·rename_i s hs
      rw [hs] at hrx
      exact AT ⟨_,hy,ZI h ho (IQ hrx) hu⟩
     ·exact hy.elim
    ·rename_i e hu
     split at hy
     ·rename_i hs; rw [hs] at hrx; exact hrx.elim
     ·obtain ⟨sz,ys,hK,ad,c',hv,_⟩:=Pd h hrx hy
      exact AT ⟨_,hK,bc h ho ⟨ad,c',hv⟩ hu⟩
    ·exact hy.elim
   ·exact hy.elim
  ·rename_i hc
   split at hy
   ·rename_i x y hx
    have hce:c = ⟨.builtin .min,#[x,y],c.argTypes⟩:=by
     obtain ⟨callee,args,ts⟩:=c
     simp only at hc hx
     rw [hc,Jz hx]
    rw [hce] at ho
    split at hy
    ·rename_i k m hm
     have hrx:=ρ_sound h hg x
     rw [hm] at hrx
     split at hy
     ·rename_i k' n hn
      have hry:=ρ_sound h hg y
      rw [hn] at hry
      exact AT ⟨_,hy,(Sw h ho hrx hry).1 rfl⟩
     ·exact hy.elim
    ·exact hy.elim
   ·exact hy.elim
  ·rename_i hc
   split at hy
   ·rename_i x y hx
    have hce:c = ⟨.builtin .max,#[x,y],c.argTypes⟩:=by
     obtain ⟨callee,args,ts⟩:=c
     simp only at hc hx
     rw [hc,Jz hx]
    rw [hce] at ho
    split at hy
    ·rename_i k m hm
     have hrx:=ρ_sound h hg x
     rw [hm] at hrx
     split at hy
     ·rename_i k' n hn
      have hry:=ρ_sound h hg y
      rw [hn] at hry
      exact AT ⟨_,hy,(Sw h ho hrx hry).2 rfl⟩
     ·exact hy.elim
    ·exact hy.elim
   ·exact hy.elim
  ·rename_i hc
   split at hy
   ·rename_i x y t u hx ht
    have hce:t = u→c = ⟨.builtin .append,#[x,y],#[t,t]⟩:=by
     intro e
     subst e
     obtain ⟨callee,args,ts⟩:=c
     simp only at hc hx ht
     rw [hc,Jz hx,Jz ht]
    split at hy
    ·rename_i e hu
     obtain ⟨⟨htu,hs0,hz⟩,hy⟩:=Aq hy
     rw [hce htu] at ho
     obtain ⟨sz',ys,hK,ad,c',hv,hys⟩:=Pd h (ρ_sound h hg y) hy
     have hrx:=ρ_sound h hg x
     split at hK
     ·rename_i id n sz e' xs hxr
      obtain ⟨⟨he,hsz⟩,hK2⟩:=Aq hK
      subst he
      rw [hxr] at hrx
      obtain ⟨⟨h1,h2,h3⟩,hK3⟩:=hK2
      exact AT ⟨_,hK3,WZ h ho hu hrx hsz hz hv hys h1 h2 (by rw [hsz]; exact h3)⟩
     ·rename_i s hxr
      rw [hxr] at hrx
      have hrx:AB (OS β X S) w (a.eval x) (.nil s):=hrx
      obtain ⟨⟨h1,h2,h3⟩,hK3⟩:=hK
      have hx0:∃ ad0,a.eval x = .slice ad0 0 0:=by
       generalize a.eval x = v at hrx
       cases hrx
       exact ⟨_,rfl⟩
      obtain ⟨ad0,hx0⟩:=hx0
      exact AT ⟨_,hK3,Nv h hd ho hu (xs:=[]) rfl hs0 hz hv hys (by simpa using h1) (by simpa using h2) h3 (.inl ⟨ad0,hx0,rfl⟩)⟩
     ·rename_i sz xs hxr
      obtain ⟨hsz,hK2⟩:=Aq hK
      rw [hxr] at hrx
      obtain ⟨⟨⟨h1,h2,h3⟩,h4⟩,hK3⟩:=hK2
      exact AT ⟨_,hK3,Nv h hd ho hu hsz (by rw [hsz]; exact hs0) hz hv hys h1 h2 (by rw [hsz]; exact h3) (.inr ⟨hrx.1,hrx.2,h4⟩)⟩
     ·exact hK.elim
    ·exact hy.elim
   ·exact hy.elim
  ·exact hy.elim
 ·rename_i t i ho
  have hrx:=ρ_sound h hg t
  split at hy
  ·rename_i xs hx
   rw [hx] at hrx
   split at hy
   ·rename_i y hyy
    exact AT ⟨_,hy,(Q9 h ho hrx hyy).1 _ rfl⟩
   ·rename_i id n hyy
    exact AT ⟨_,hy,(Q9 h ho hrx hyy).2 _ _ rfl⟩
   ·exact hy.elim
  ·exact hy.elim
 ·rename_i t ho
  split at hy
  ·exact AT ⟨_,hy,VZ h hd ho⟩
  ·exact hy.elim
 ·rename_i t x ix ok ho
  split at hy
  ·rename_i kt et hu
   unfold Zm at hy
   split at hy <;> try exact hy.elim
   rename_i id n es hx
   split at hy <;> try exact hy.elim
   rename_i q hq
   split at hy <;> try exact hy.elim
   rename_i kd hkq
   obtain ⟨⟨hku,hkk⟩,hy⟩:=hy
   split at hy <;> try exact hy.elim
   rename_i z hz
   obtain ⟨v,b,rfl,rfl,hy⟩:=hy.go
   have hd':=Xf h hg ho hu hx hq hkq hku hkk hz
   cases ok
   ·exact AT ⟨_,hy,by simpa using hd'⟩
   ·exact AT ⟨_,hy,by simpa using hd'⟩
  ·exact hy.elim
 ·rename_i t m k x ho
  split at hy
  ·rename_i kt et hu
   unfold cR at hy
   split at hy <;> try exact hy.elim
   rename_i id n es hm
   split at hy <;> try exact hy.elim
   rename_i q hq
   split at hy <;> try exact hy.elim
   rename_i y hyy
   split at hy <;> try exact hy.elim
   rename_i kd hkq
   obtain ⟨⟨hb,hku,hkk⟩,hy⟩:=hy
   exact AT ⟨_,hy,Xg h hg ho hu hm hq hyy hb hkq hku hkk⟩
  ·exact hy.elim
 ·exact hy.elim
theorem Y2 {t:TypeId} {cs:List D} {K:D→Prop} (hy:Zh P t cs K):∃ x,K x:=by
 unfold Zh at hy
 split at hy
 ·split at hy
  ·rw [BG] at hy
   exact ⟨_,(Aq hy).2⟩
  ·exact hy.elim
 ·split at hy
  ·exact ⟨_,hy⟩
  ·exact hy.elim
 ·exact hy.elim
theorem aO {op:BinOp} {k:IntKind} {m n:Int} {K:D→Prop} (hy:So op k m n K):∃ x,K x:=by
 cases op <;> simp only [So] at hy <;> first | exact hy.elim | exact ⟨_,hy⟩ | exact ⟨_,hy.2⟩
theorem cQ {op:BinOp} {x y:ByteArray} {K:D→Prop} (hy:YH op x y K):∃ x,K x:=by
 cases op <;> simp only [YH] at hy <;> first | exact hy.elim | exact ⟨_,hy⟩ | exact ⟨_,hy.2⟩
theorem bg:∀ (n:Nat) {t:TypeId} {xs ys:List D} {K:Bool→Prop},Xi P n t xs ys K→∃ b,K b
 | 0,_,_,_,_,h=>h.elim
 | n + 1,t,xs,ys,K,h=>by
   unfold Xi at h
   split at h
   ·split at h
    ·exact ⟨_,(Aq h).2⟩
    ·exact h.elim
   ·split at h
    ·exact ⟨_,h⟩
    ·exact h.elim
   ·split at h
    ·exact ⟨_,h⟩
    ·exact h.elim
   ·obtain ⟨_,h⟩:=h
    ·have key:∀ (l:List Field) (K:Bool→Prop),List.rec (motive:=fun _=>(Bool→Prop)→Prop) (fun K=>K true)
      (fun f _ ih K=>Xi P n f.type ((xs.drop f.offset).take (AW P f.type)) ((ys.drop f.offset).take (AW P f.type)) fun a=>ih fun b=>K (a && b)) l K→∃ b,K b:=by
      intro l
      induction l with
      | nil=>intro K h; exact ⟨_,h⟩
      | cons f r ih =>
        intro K h
        obtain ⟨a,ha⟩:=bg n h
        obtain ⟨b,hb⟩:=ih _ ha
        exact ⟨_,hb⟩
     exact key _ _ h
   ·exact h.elim
theorem cg {t:TypeId} {op:BinOp} {x y:D} {K:D→Prop} (hy:WM P t op x y K):∃ x,K x:=by
 cases x <;> cases y <;> simp only [WM] at hy
 case bool.bool =>
  split at hy
  ·cases op <;> first | exact hy.elim | exact ⟨_,hy⟩
  ·exact hy.elim
 case int.int k m k' n =>
  have sh:op = .shl∨op = .shr∨(op≠.shl∧op≠.shr):=by cases op <;> simp
  rcases sh with rfl | rfl | ⟨hs1,hs2⟩
  ·exact ⟨_,hy.2⟩
  ·exact ⟨_,hy.2⟩
  ·have hb':if k = k' then So op k m n K else False:=by cases op <;> first | exact hy | exact absurd rfl hs1 | exact absurd rfl hs2
   exact aO (Aq hb').2
 case str.str=>exact cQ hy
 case agg.agg =>
  obtain ⟨_,hy⟩:=hy
  cases op <;> first | exact hy.elim | (obtain ⟨b,hb⟩:=bg 12 hy; exact ⟨_,hb⟩)
theorem dM {op:UnOp} {x:D} {K:D→Prop} (hy:dL op x K):∃ x,K x:=by
 cases op <;> cases x <;> simp only [dL] at hy <;> exact ⟨_,hy⟩
theorem aa {r:RV} {K:Nat→List D→Prop} (hy:LR r K):∃ n xs,K n xs:=by
 cases r <;> simp only [LR] at hy
 case d x=>cases x <;> simp only at hy <;> exact ⟨_,_,hy⟩
 case lim=>exact ⟨_,_,hy⟩
 case row=>exact ⟨_,_,hy⟩
theorem d6 {r:RV} {K:D→Bx→Prop} (hy:Vh r K):∃ x b,K x b:=by
 cases r <;> simp only [Vh] at hy <;> exact ⟨_,_,hy⟩
theorem OM {σ:Nat→Nat→RV}:∀ {cs:List C} {K:List D→Bx→Prop},Dx σ cs K→∃ l b,K l b
 | [],K,h=>⟨_,_,h⟩
 | .d x :: r,K,h=>by
   have h:Dx σ r fun l b=>K (x :: l) b:=h
   obtain ⟨l,b,h⟩:=OM h
   exact ⟨_,_,h⟩
 | .sl id n :: r,K,h=>by
   have h:Vh (σ id n) fun x b=>Dx σ r fun l b'=>K (x :: l) (b++b'):=h
   obtain ⟨x,b,h⟩:=d6 h
   obtain ⟨l,b',h⟩:=OM h
   exact ⟨_,_,h⟩
 | .own _ _ _ :: r,K,h=>h.elim
theorem dB {σ:Nat→Nat→RV} {t:TypeId} {cs:List C} {K:Gu→Prop} (hy:bY P σ t cs K):∃ e,K e∧e.av.guards = []:=by
 unfold bY at hy
 split at hy
 ·split at hy
  ·rw [BG] at hy
   have hy:=(Aq hy).2
   split at hy
   ·obtain ⟨l,b,h⟩:=OM hy
    exact ⟨_,h,rfl⟩
   ·rcases hy.go with hy | hy
    ·obtain ⟨l,b,h⟩:=OM hy
     exact ⟨_,h,rfl⟩
    ·exact ⟨_,(Aq hy).2,rfl⟩
  ·exact hy.elim
 ·split at hy
  ·exact ⟨_,hy,rfl⟩
  ·exact ⟨_,hy,rfl⟩
  ·exact hy.elim
 ·exact hy.elim
theorem WK (r:RV):(back r).guards = []:=by cases r <;> rfl
theorem XN {σ:Nat→Nat→RV} {ρ:Option (Nat × Bool)→Operand→RV} {g:Option (Nat × Bool)} {d n:Nat} {K:Gu→Prop} (hh:JN o.op = true) (hy:yA P σ ρ g o d n K):∃ e,K e∧e.av.guards = []:=by
 unfold yA at hy
 split at hy
 all_goals (rename_i ho; try (rw [ho] at hh; simp [JN] at hh; done))
 ·exact ⟨_,hy,WK _⟩
 ·split at hy
  ·exact ⟨_,hy,rfl⟩
  ·split at hy
   ·split at hy
    ·exact ⟨_,hy,rfl⟩
    ·exact hy.elim
   ·split at hy
    ·exact ⟨_,hy,rfl⟩
    ·exact ⟨_,hy,rfl⟩
    ·exact hy.elim
   ·exact hy.elim
  ·exact hy.elim
 ·split at hy
  ·exact ⟨_,hy,rfl⟩
  ·exact dB hy
  ·obtain ⟨x,hx⟩:=Y2 hy; exact ⟨_,hx,rfl⟩
  ·obtain ⟨_,y,_,hy⟩:=hy.go
   obtain ⟨x,hx⟩:=Y2 hy; exact ⟨_,hx,rfl⟩
  ·exact hy.elim
 ·split at hy
  ·exact ⟨_,hy,rfl⟩
  ·split at hy
   ·exact ⟨_,hy,rfl⟩
   ·obtain ⟨x,hx⟩:=cg hy; exact ⟨_,hx,rfl⟩
   ·exact hy.elim
  ·exact hy.elim
 ·split at hy
  ·exact ⟨_,hy,rfl⟩
  ·obtain ⟨x,hx⟩:=dM hy; exact ⟨_,hx,rfl⟩
  ·exact hy.elim
 ·split at hy
  ·split at hy
   ·split at hy
    ·exact ⟨_,hy,rfl⟩
    ·exact ⟨_,hy,rfl⟩
    ·exact hy.elim
   ·split at hy
    ·exact ⟨_,hy,rfl⟩
    ·exact ⟨_,hy,rfl⟩
    ·exact hy.elim
   ·split at hy <;> try exact hy.elim
    split at hy
    ·exact ⟨_,hy,rfl⟩
    ·exact ⟨_,hy,rfl⟩
    ·exact hy.elim
   ·exact hy.elim
  ·exact hy.elim
 ·split at hy
  ·split at hy
   ·have hy:=(Aq hy).2
    split at hy
    ·exact ⟨_,hy,rfl⟩
    ·exact ⟨_,hy,rfl⟩
    ·rw [BG] at hy; exact ⟨_,hy,rfl⟩
    ·exact ⟨_,hy,rfl⟩
    ·exact hy.elim
   ·exact hy.elim
  ·exact hy.elim
 ·split at hy
  ·split at hy
   ·split at hy
    ·exact ⟨_,hy,rfl⟩
    ·obtain ⟨x,hx⟩:=Y2 hy; exact ⟨_,hx,rfl⟩
    ·exact hy.elim
   ·exact hy.elim
  ·exact hy.elim
 ·rw [ho] at hh
  split at hy
  ·rename_i hc; simp [JN,hc] at hh
  ·split at hy
   ·split at hy
    ·split at hy
     ·exact ⟨_,hy,rfl⟩
     ·exact ⟨_,hy,rfl⟩
     ·exact hy.elim
    ·split at hy
     ·exact ⟨_,hy,rfl⟩
     ·obtain ⟨_,_,hx⟩:=aa hy; exact ⟨_,hx,rfl⟩
    ·exact hy.elim
   ·exact hy.elim
  ·rename_i hc; simp [JN,hc] at hh
  ·rename_i hc; simp [JN,hc] at hh
  ·rename_i hc; simp [JN,hc] at hh
  ·exact hy.elim
 ·exact hy.elim
end
end Go.Abs
set_option linter.unusedVariables false
set_option linter.unusedSimpArgs false
namespace Go.Abs
open Go.RowKit (Below)
theorem TH (v:AV) (K:AV→Prop):Td v K = K v:=by
 cases v <;> simp only [Td,K2]
 case under t w x=>cases x <;> simp only [K2]
theorem Vu (b:Cg) (K:Cg→Prop):Wh b K = K b:=by
 cases b <;> simp only [Wh,K2]
theorem HJ:∀ (S:AS) (K:AS→Prop),Fg S K = K S
 | [],_=>rfl
 | ⟨_,_,_⟩ :: r,K=>by rw [Fg,HJ r]; simp only [TH,Vu,K2]
theorem Jl:∀ (l:List Nat) (K:List Nat→Prop),L3 l K = K l
 | [],_=>rfl
 | x :: r,K=>by rw [L3,Jl r]
theorem Pb:∀ (S:AS) (d:Nat) (v:AV) (K:AS→Prop),O9 S d v K = K (Et S d v)
 | [],_,_,_=>rfl
 | ⟨_,_,_⟩ :: _,0,_,_=>rfl
 | s :: r,d + 1,v,K=>by rw [O9,Pb r]; rfl
theorem Ux:∀ (S:AS) (d:Nat) (b:Cg) (n:Nat) (K:AS→Prop),Tg S d b n K = K (Ba S d b n)
 | [],_,_,_,_=>rfl
 | ⟨_,_,_⟩ :: _,0,_,_,_=>rfl
 | s :: r,d + 1,b,n,K=>by rw [Tg,Ux r]; rfl
theorem Mj:∀ (b:Bx) (S:AS) (K:AS→Prop),NI b S K = K (Bm b S)
 | [],_,_=>rfl
 | (id,b,n) :: r,S,K=>by rw [NI,K2,Vu,Ux,Mj r]; rfl
theorem VO (dst:Option Nat) (e:Gu) (S:AS) (K:AS→Prop):Z6 dst e S K = K (Vg dst e S):=by
 obtain ⟨v,bx,hm⟩:=e
 cases dst with
 | none=>simp only [Z6,Mj]; rfl
 | some d=>simp only [Z6,TH,Mj,Pb]; rfl
theorem LI:∀ (S:AS) (d:Nat) (K:Nat→Prop),Se S d K→d < S.length∧K (Ar S d).ver
 | [],_,_,h=>h.elim
 | ⟨_,_,_⟩ :: _,0,_,h=>⟨by simp,h⟩
 | s :: r,d + 1,K,h=>by
   obtain ⟨h1,h2⟩:=LI r d K h
   exact ⟨by simpa using h1,h2⟩
theorem QB:∀ (l:List Oper) (j:Nat),Sx l j = (l[j]?).bind (·.dst)
 | [],_=>rfl
 | _ :: _,0=>rfl
 | _ :: r,j + 1=>by simp only [Sx,List.getElem?_cons_succ]; exact QB r j
section
variable {P:Program} {X:Cx} {G:Nat→Prop} {β:Nat→Value} {S:AS} {a:Act} {w:World} {o:Oper}
def Sg (X:Cx) (G:Nat→Prop) (S:AS) (a:Act) (e:Gu) (v:Value) (w':World):Prop :=
 ∃ β',AG X G β' (Bm e.bx S) a w'∧IV β' (Bb (Bm e.bx S)) (OS β' X (Bm e.bx S)) w' a.tmps v e.av∧∀ u∈e.av.guards,G u
def aH (P:Program) (ops:Array Oper) (X:Cx) (G:Nat→Prop) (S:AS) (a:Act) (w:World) (o:Oper) (e:Gu):Prop :=
 (Region.wanted o (yielded ops a.tmps) = true ∧
  ((∃ v w',(execOp a.eval o).run P w = .ok (.value v) w'∧Sg X G S a e v w') ∨
   (∃ w',(execOp a.eval o).run P w = .ok .skip w'∧Sg X G S a e undef w') ∨
   (∃ f args,(execOp a.eval o).run P w = .ok (.enter f args) w∧Calls P f args w fun e' w'=>∃ v,e' = .returned v∧Sg X G S a e v w'))) ∨
 (Region.wanted o (yielded ops a.tmps) = false∧Sg X G S a e undef w)
theorem Pn.toG {e:Gu} {v:Value} {w':World} (h:Pn X G S a e v w'):Sg X G S a e v w':=by
 obtain ⟨β',h1,h2,h3⟩:=h
 exact ⟨β',h1,h2,by rw [h3]; simp⟩
theorem Pn.toU {e:Gu} {v:Value} {w':World} {t:Nat} {want:Bool} (ht:G t) (hw:a.tmps[t]? = some (.bool want)) (h:Pn X G S a e v w'):Sg X G S a ⟨.under t want e.av,e.bx,[]⟩ v w':=by
 obtain ⟨β',h1,h2,h3⟩:=h
 refine ⟨β',h1,⟨fun _=>h2,fun hn=>absurd hw hn⟩,?_⟩
 intro u hu
 simp only [AV.guards,h3,List.mem_singleton] at hu
 rw [hu]; exact ht
theorem CX.to {ops:Array Oper} {e e':Gu} (hw:Region.wanted o (yielded ops a.tmps) = true) (hd:CX P X G S a w o e)
 (hp:∀ v w',Pn X G S a e v w'→Sg X G S a e' v w'):aH P ops X G S a w o e':=by
 refine .inl ⟨hw,?_⟩
 rcases hd with ⟨v,w',h1,h2⟩ | ⟨w',h1,h2⟩ | ⟨f,args,h1,h2⟩
 ·exact .inl ⟨v,w',h1,hp v w' h2⟩
 ·exact .inr (.inl ⟨w',h1,hp _ w' h2⟩)
 ·exact .inr (.inr ⟨f,args,h1,h2.mono fun e' w' ⟨v,h3,h4⟩=>⟨v,h3,hp v w' h4⟩⟩)
theorem Vl {x:Option Nat} {K:Nat→Prop} (h:dK x K):K (x.getD 0):=by cases x <;> exact h
theorem Uw:∀ (S:AS) (t:Nat) (v:AV),(Ar S t).av = v→Et S t v = S
 | [],_,_,_=>rfl
 | ⟨x,b,n⟩ :: r,0,v,h=>by simp only [Ar] at h; subst h; rfl
 | s :: r,t + 1,v,h=>by rw [Et,Uw r t v h]
theorem W4 {t:Nat} {x:AV} (h:AG X G β S a w) (hx:(Ar S t).av = x) (hne:x≠.any):∃ v,a.tmps[t]? = some v∧IV β (Bb S) (OS β X S) w a.tmps v x:=by
 have hlt:t < S.length:=by
  rcases Nat.lt_or_ge t S.length with h' | h'
  ·exact h'
  ·rw [K0 S t h'] at hx; exact absurd hx.symm hne
 have hlt':t < a.tmps.size:=by rw [h.len]; exact hlt
 refine ⟨a.tmps[t],by simp [hlt'],?_⟩
 have:=h.slots t a.tmps[t] (by simp [hlt'])
 rwa [hx] at this
def Z2 (lk:List Nat):Nat→Nat→AS→Option Bool→Prop
 | 0,_,_,_=>False
 | n + 1,t,S,r=>t∈lk∧((∃ b,(Ar S t).av = .d (.bool b)∧r = some b) ∨
     (∃ t' w' b r',(Ar S t).av = .under t' w' (.d (.bool b))∧Z2 lk n t' S r'∧(r' = some w'∧r = some b∨r'≠some w'∧r = none)) ∨
     ∃ t' w',(Ar S t).av = .under t' w' .bot∧r = none)
theorem Lw {S:AS} {t:Nat} {mk:Bool→AV} {b:Bool} {K:AS→Option Bool→Prop} (hb:(Ar S t).av = mk b):Vi S t mk b K↔K S (some b):=by
 unfold Vi
 cases b <;> simp only [Sp] <;> rw [Pb,Uw S t _ hb]
theorem PT {lk:List Nat}:∀ {n t:Nat} {S:AS} {K:AS→Option Bool→Prop},ZE lk n t S K→∃ r,K S r∧Z2 lk n t S r
 | 0,_,_,_,h=>h.elim
 | n + 1,t,S,K,h=>by
   unfold ZE at h
   obtain ⟨hlk,h⟩:=Aq h
   have hlk:t∈lk:=by simpa using hlk
   split at h
   ·rename_i b hb
    exact ⟨some b,(Lw hb).1 h,hlk,.inl ⟨b,hb,rfl⟩⟩
   ·rename_i t' w' b hb
    obtain ⟨r,h,hd⟩:=PT h
    have yes:r = some w'→Vi S t (fun b=>.under t' w' (.d (.bool b))) b K→∃ r,K S r∧Z2 lk (n + 1) t S r:=fun e h =>
     ⟨some b,(Lw (mk:=fun b=>.under t' w' (.d (.bool b))) hb).1 h,hlk,.inr (.inl ⟨t',w',b,r,hb,hd,.inl ⟨e,rfl⟩⟩)⟩
    have no:r≠some w'→K S none→∃ r,K S r∧Z2 lk (n + 1) t S r:=fun e h=>⟨none,h,hlk,.inr (.inl ⟨t',w',b,r,hb,hd,.inr ⟨e,rfl⟩⟩)⟩
    match r,w',h,yes,no with
    | none,_,h,_,no=>exact no (by simp) h
    | some true,true,h,yes,_=>exact yes rfl h
    | some true,false,h,_,no=>exact no (by simp) h
    | some false,true,h,_,no=>exact no (by simp) h
    | some false,false,h,yes,_=>exact yes rfl h
   ·rename_i t' w' hb
    exact ⟨none,h,hlk,.inr (.inr ⟨t',w',hb,rfl⟩)⟩
   ·exact h.elim
theorem VV {lk:List Nat}:∀ {n t:Nat} {S:AS} {r:Option Bool} {K:AS→Option Bool→Prop},Z2 lk n t S r→K S r→ZE lk n t S K
 | 0,_,_,_,_,h,_=>h.elim
 | n + 1,t,S,r,K,⟨hlk,h⟩,hK=>by
   unfold ZE
   rw [if_pos (by simpa using hlk)]
   rcases h with ⟨b,hb,rfl⟩ | ⟨t',w',b,r',hb,hd,h⟩ | ⟨t',w',hb,rfl⟩
   rotate_left 2
   ·rw [hb]; exact hK
   ·rw [hb]
    exact (Lw hb).2 hK
   ·rw [hb]
    refine VV hd ?_
    rcases h with ⟨rfl,rfl⟩ | ⟨hne,rfl⟩
    ·cases w' <;> exact (Lw (mk:=fun b=>.under t' _ (.d (.bool b))) hb).2 hK
    ·match r',w',hne with
     | none,_,_=>exact hK
     | some true,false,_=>exact hK
     | some false,true,_=>exact hK
     | some true,true,h=>exact absurd rfl h
     | some false,false,h=>exact absurd rfl h
theorem Z2.tmp {lk:List Nat} (h:AG X G β S a w):∀ {n t:Nat} {r:Option Bool},Z2 lk n t S r→(∀ b,r = some b→a.tmps[t]? = some (.bool b))∧(r = none→∀ b,a.tmps[t]?≠some (.bool b))
 | 0,_,_,hd=>hd.elim
 | n + 1,t,r,⟨_,hd⟩=>by
   rcases hd with ⟨b,hb,rfl⟩ | ⟨t',w',b,r',hb,hd,hr⟩ | ⟨t',w',hb,rfl⟩
   rotate_left 2
   ·obtain ⟨v,hv,hrep⟩:=W4 h hb (by simp)
    refine ⟨fun b' e=>(by cases e),fun _ b'=>?_⟩
    by_cases hw:a.tmps[t']? = some (.bool w')
    ·exact (hrep.1 hw).elim
    ·rw [hv,hrep.2 hw]
     intro hh; cases hh
   ·obtain ⟨v,hv,hr⟩:=W4 h hb (by simp)
    exact ⟨fun b' e=>by cases e; rw [hv,EA hr],fun e=>by cases e⟩
   ·obtain ⟨v,hv,hrep⟩:=W4 h hb (by simp)
    obtain ⟨h1,h2⟩:=Z2.tmp h hd
    rcases hr with ⟨rfl,rfl⟩ | ⟨hne,rfl⟩
    ·exact ⟨fun b' e=>by cases e; rw [hv,EA (hrep.1 (h1 _ rfl))],fun e=>by cases e⟩
    ·refine ⟨fun b' e=>(by cases e),fun _ b'=>?_⟩
     have hnw:a.tmps[t']?≠some (.bool w'):=by
      cases r' with
      | none=>exact h2 rfl w'
      | some c=>rw [h1 c rfl]; intro hh; cases hh; exact hne rfl
     rw [hv,hrep.2 hnw]
     intro hh; cases hh
theorem Is {want:Bool} {r:Option Bool} {go skip:Prop}:Tt want r go skip↔(r = some want∧go)∨(r≠some want∧skip):=by
 unfold Tt
 match r,want with
 | none,_=>simp
 | some true,true=>simp
 | some true,false=>simp
 | some false,true=>simp
 | some false,false=>simp
theorem U5 {g:Option (Nat × Bool)} {d n:Nat} {K:Gu→Prop} (hy:yS P S g o d n K):(∃ x id v k,o.op = .move x∧ev S x = .ptr id v k∧K ⟨.ptr id v k,[],[]⟩)∨(J9 S o = false∧yA P (σOf S) (ρOf S) g o d n K):=by
 unfold yS at hy
 unfold J9
 split at hy
 ·rename_i x ho
  split at hy
  ·rename_i id v k he
   exact .inl ⟨x,id,v,k,ho,he,hy⟩
  ·exact .inr ⟨rfl,hy⟩
 ·exact .inr ⟨rfl,hy⟩
theorem U6 (h:AG X G β S a w) {g:Option (Nat × Bool)} (hg:BP g a) {d:Nat} (hd:d < S.length) {K:Gu→Prop} (hy:yS P S g o d (Ar S d).ver K) :
 ∃ e,K e∧(FK S e.homes = true→CX P X G S a w o e):=by
 rcases U5 hy with ⟨x,id,v,k,ho,he,hK⟩ | ⟨_,hy⟩
 ·refine ⟨_,hK,fun _=>AY h (v:=a.eval x) (by simp [execOp,ho]) ?_ rfl⟩
  cases x with
  | tmp t =>
    simp only [ev] at he
    simp only [Act.eval]
    by_cases ht:t < a.tmps.size
    ·have:=h.slots t a.tmps[t] (by simp [ht])
     rw [he] at this
     simpa [Array.getD,ht] using this
    ·have e:Ar S t = bS:=K0 S t (by rw [← h.len]; exact Nat.le_of_not_lt ht)
     rw [e] at he; cases he
  | const c=>simp only [ev] at he; unfold Yd at he; split at he <;> cases he
  | global q=>simp only [ev] at he; split at he <;> cases he
  | func f=>cases he
 ·exact bW h hg hd hy
theorem XO {g:Option (Nat × Bool)} {d n:Nat} {K:Gu→Prop} (hh:JN o.op = true) (hy:yS P S g o d n K):∃ e,K e∧e.av.guards = []:=by
 rcases U5 hy with ⟨x,id,v,k,ho,he,hK⟩ | ⟨_,hy⟩
 ·exact ⟨_,hK,rfl⟩
 ·exact XN hh hy
theorem V3 {ops:Array Oper} {done:List Nat} (h:AG X (·∈done) β S a w) {K:AS→Gu→Prop} (hy:ah P ops.toList done o S K) :
 ∃ e,K S e∧aH P ops X (·∈done) S a w o e:=by
 unfold ah at hy
 split at hy
 ·rename_i hgd
  obtain ⟨hd,hy⟩:=LI _ _ _ (Vl hy)
  obtain ⟨e,hK,hdo⟩:=U6 h (g:=none) (fun _ _ e=>by cases e) hd hy
  obtain ⟨hok,hK⟩:=Aq hK
  exact ⟨e,hK,(hdo hok).to (by simp [Region.wanted,hgd]) fun v w' hp=>hp.toG⟩
 ·rename_i j want hgd
  split at hy
  ·exact hy.elim
  ·rename_i t ht
   obtain ⟨hdone,hy⟩:=Aq hy
   have htd:t∈done:=by simpa using hdone
   have hyl:yielded ops a.tmps j = (match a.tmps[t]? with | some (.bool b)=>some b | _=>none):=by
    have:(ops[j]?).bind (·.dst) = some t:=by rw [← ht,QB]; simp
    simp only [yielded,this,Option.bind_some]
    cases a.tmps[t]? with
    | none=>rfl
    | some v=>cases v <;> rfl
   have hwant:Region.wanted o (yielded ops a.tmps) = true↔a.tmps[t]? = some (.bool want):=by
    simp only [Region.wanted,hgd,hyl]
    constructor
    ·intro hh
     split at hh
     ·rename_i b hb; simp at hh; rw [hb,hh]
     ·simp at hh
    ·intro hh; simp [hh]
   split at hy
   ·rename_i hh
    obtain ⟨hd,hy⟩:=LI _ _ _ (Vl hy)
    by_cases hw:a.tmps[t]? = some (.bool want)
    ·obtain ⟨e,hK,hdo⟩:=U6 h (g:=some (t,want)) (fun _ _ e=>by cases e; exact hw) hd hy
     split at hK
     ·exact ⟨_,hK,(hdo rfl).to (hwant.2 hw) fun v w' hp=>hp.toU htd hw⟩
     ·exact hK.elim
    ·obtain ⟨e,hK,hgs⟩:=XO hh hy
     split at hK
     ·rename_i v
      refine ⟨_,hK,.inr ⟨by rw [Bool.eq_false_iff]; exact fun hh=>hw (hwant.1 hh),β,h,⟨fun hh=>absurd hh hw,fun _=>rfl⟩,?_⟩⟩
      intro u hu
      simp only at hgs
      simp only [AV.guards,hgs,List.mem_singleton] at hu
      rw [hu]; exact htd
     ·exact hK.elim
   ·obtain ⟨r,hy,hdec⟩:=PT hy
    obtain ⟨hs1,hs2⟩:=hdec.tmp h
    rcases Is.1 hy with ⟨hrw,hgo⟩ | ⟨hne,hK⟩
    ·have hbt:=hs1 want hrw
     obtain ⟨hd,hy⟩:=LI _ _ _ (Vl hgo)
     obtain ⟨e,hK,hdo⟩:=U6 h (g:=some (t,want)) (fun _ _ e=>by cases e; exact hbt) hd hy
     obtain ⟨hok,hK⟩:=Aq hK
     exact ⟨e,hK,(hdo hok).to (hwant.2 hbt) fun v w' hp=>hp.toG⟩
    ·have hnw:a.tmps[t]?≠some (.bool want):=by
      cases r with
      | none=>exact hs2 rfl want
      | some c=>rw [hs1 c rfl]; intro hh; cases hh; exact hne rfl
     refine ⟨_,hK,.inr ⟨?_,β,h,⟨fun hh=>absurd hh hnw,fun _=>rfl⟩,fun u hu=>by simp [AV.guards] at hu; rw [hu]; exact htd⟩⟩
     rw [Bool.eq_false_iff]
     exact fun hh=>hnw (hwant.1 hh)
theorem AG.weaken {G':Nat→Prop} (h:AG X G β S a w) (hG:∀ t,G t→G' t):AG X G' β S a w :=
 { h with gds:=fun t u hu=>hG u (h.gds t u hu) }
theorem aH.step {ops:Array Oper} {e:Gu} {K:Act→World→Prop} {Q:Exit→Act→World→Prop} {done:List Nat} (hd:∀ d,o.dst = some d→d ∉ done) (h:aH P ops X (·∈done) S a w o e)
 (hK:∀ β' a' w',AG X (·∈Dt o.dst++done) β' (Vg o.dst e S) a' w'→K a' w') :
 if Region.wanted o (yielded ops a.tmps) then o.wp P a w K Q else K (a.put o.dst undef) w:=by
 have fin:∀ v w',Sg X (·∈done) S a e v w'→K (a.put o.dst v) w':=by
  intro v w' hp
  obtain ⟨β',h1,h2,h3⟩:=hp
  refine hK β' _ w' ?_
  cases hdst:o.dst with
  | none=>exact h1
  | some d=>exact (h1.put (hd d hdst) h2 h3).weaken fun t ht=>by simp [ht]
 rcases h with ⟨hw,h⟩ | ⟨hw,h⟩
 ·rw [if_pos hw]
  unfold Oper.wp
  rcases h with ⟨v,w',h1,h2⟩ | ⟨w',h1,h2⟩ | ⟨f,args,h1,h2⟩
  ·rw [h1]; exact fin v w' h2
  ·rw [h1]; exact fin undef w' h2
  ·rw [h1]
   exact h2.mono fun e' w' ⟨v,h3,h4⟩=>by subst h3; exact fin v w' h4
 ·rw [if_neg (by simp [hw])]
  exact fin undef w h
theorem QO {pos:Bool} {x:Operand} (h:QN P o = some (pos,x)):∃ op t y u e,o.op = .binOp op t x y u∧KR y = true∧o.guard = none∧P.underlying t = some (.slice e)∧(op = .eql∧pos = true∨op = .neq∧pos = false):=by
 unfold QN at h
 split at h
 ·rename_i op t x' y u ho
  split at h
  ·rename_i e h1 h2 h3
   split at h
   ·simp at h; exact ⟨_,t,y,u,e,by rw [ho,h.2],h1,h2,h3,.inl ⟨rfl,h.1⟩⟩
   ·simp at h; exact ⟨_,t,y,u,e,by rw [ho,h.2],h1,h2,h3,.inr ⟨rfl,h.1⟩⟩
   ·cases h
  ·cases h
 ·cases h
theorem Wa (h:AG X G β S a w) {pos:Bool} {x:Operand} (ht:QN P o = some (pos,x)) {K:Bool→Prop} (hy:LR (ρOf S none x) fun _ xs=>cX xs K) :
 ∃ b,K b∧CX P X G S a w o ⟨.d (.bool (b==pos)),[],[]⟩:=by
 obtain ⟨op,t,y,u,e,ho,hn,_,hu,hop⟩:=QO ht
 obtain ⟨sz,xs,hK,ad,c,hv,hrest⟩:=Pd h (ρ_sound h (g:=none) (fun _ _ e=>by cases e) x) hy
 have ey:=M1 hn
 have hev:a.eval y = .slice none 0 0:=by rw [ey]; rfl
 refine ⟨ad.isNone,hK.go _ (fun hne=>?_),?_⟩
 ·obtain ⟨ad',news,rfl,_⟩:=hrest.resolve_left hne
  rfl
 ·have heq:(Op.equalIn 10000 t (.slice ad xs.length c) (.slice none 0 0)).run P w = .ok ad.isNone w:=by
   have key:∀ m,(Op.equalIn (m + 1) t (.slice ad xs.length c) (.slice none 0 0)).run P w = .ok ad.isNone w:=by
    intro m
    cases ad with
    | none=>simp [Op.equalIn,run_underlying hu]
    | some q=>simp [Op.equalIn,run_underlying hu]
   exact key 9999
  refine AY h (v:=.bool (ad.isNone==pos)) ?_ (.bool _) rfl
  rcases hop with ⟨rfl,rfl⟩ | ⟨rfl,rfl⟩
  ·simp [execOp,ho,hv,hev,eqGuard,binOp,Op.equal,Op.maxDepth,heq]
  ·simp [execOp,ho,hv,hev,eqGuard,binOp,Op.equal,Op.maxDepth,heq]
theorem Qh {ops:Array Oper} {Q:Exit→Act→World→Prop}:∀ {l:List Oper} {done:List Nat} {S:AS} {β:Nat→Value} {a:Act} {w:World} {K:AS→Prop},
 dF P ops.toList done l S K→AG X (·∈done) β S a w→(∀ β' S' a' w' (done':List Nat),K S'→AG X (·∈done') β' S' a' w'→Q .normal a' w')→wpList P ops Q l a w
 | [],done,S,β,a,w,K,hy,h,hQ=>wpList_nil (hQ β S a w done hy h)
 | o :: r,done,S,β,a,w,K,hy,h,hQ=>by
   obtain ⟨hnd,hy⟩:=Aq hy
   have hd:∀ d,o.dst = some d→d ∉ done:=by
    intro d hd hm
    rw [hd] at hnd
    simp [Dt] at hnd
    exact hnd hm
   cases ht:QN P o with
   | some q =>
     obtain ⟨pos,x⟩:=q
     simp only [ht] at hy
     obtain ⟨b,hK,hdo⟩:=Wa h ht hy
     rw [VO,Jl] at hK
     obtain ⟨_,_,_,_,_,_,_,hgd,_⟩:=QO ht
     have hok:aH P ops X (·∈done) S a w o ⟨.d (.bool (b==pos)),[],[]⟩:=hdo.to (by simp [Region.wanted,hgd]) fun v w' hp=>hp.toG
     exact wpList_step fun K' hK'=>hok.step hd fun β' a' w' h'=>hK' _ _ (Qh hK h' hQ)
   | none =>
     simp only [ht] at hy
     obtain ⟨e,hK,hok⟩:=V3 h hy
     rw [VO,Jl] at hK
     exact wpList_step fun K' hK'=>hok.step hd fun β' a' w' h'=>hK' _ _ (Qh hK h' hQ)
def Kv (s:Sl):Sl:=match s with
 | ⟨.under _ _ _,b,n⟩=>⟨.any,b,n⟩
 | s=>s
theorem Ud:∀ (S:AS) (K:AS→Prop),plain S K = K (S.map Kv)
 | [],_=>rfl
 | s :: r,K=>by
   rw [plain,Ud r]
   obtain ⟨v,b,n⟩:=s
   cases v <;> rfl
theorem C4:∀ (S:AS) (i:Nat),Ar (S.map Kv) i = Kv (Ar S i)
 | [],_=>rfl
 | _ :: _,0=>rfl
 | _ :: r,i + 1=>C4 r i
theorem Ie (s:Sl):(Kv s).box = s.box:=by obtain ⟨v,b,n⟩:=s; cases v <;> rfl
theorem SD (s:Sl):(Kv s).ver = s.ver:=by obtain ⟨v,b,n⟩:=s; cases v <;> rfl
theorem AG.plain (h:AG X G β S a w):AG X (fun _=>False) β (S.map Kv) a w:=by
 have hO:OS β X (S.map Kv) = OS β X S:=by funext b; simp only [OS,C4,Ie]
 have hv:Bb (S.map Kv) = Bb S:=by funext i; simp only [Bb,C4,SD]
 refine ⟨by simp [h.len],h.df,h.below,h.hbase,h.o₀,h.rs,?_,?_,?_,?_,?_,?_⟩
 ·intro t v ht
  rw [hO,hv,C4]
  have:=h.slots t v ht
  generalize Ar S t = s at this ⊢
  obtain ⟨x,b,n⟩:=s
  cases x <;> first | exact this | trivial
 ·intro i; rw [hO,hv,C4,Ie]; exact h.boxes i
 ·intro i b; rw [C4,Ie]; exact h.mine i b
 ·intro i j b; rw [C4,C4,Ie,Ie]; exact h.inj i j b
 ·intro t u hu
  rw [C4] at hu
  generalize Ar S t = s at hu
  obtain ⟨x,b,n⟩:=s
  cases x <;> simp [Kv,AV.guards] at hu
 ·intro i; rw [C4,Ie,SD]; exact h.ini i
theorem Vr {x y:D} {K:Prop} (h:bj x y K):K∧(x.one = true→y.one = true)∧∀ (O:Nat→Prop) (w:World) (u:Value),AB O w u x→AB O w u y:=by
 unfold bj at h
 split at h
 ·rename_i s
  obtain ⟨h,hK⟩:=h
  rcases h with rfl | rfl
  ·exact ⟨hK,fun h=>h,fun _ _ _ h=>h⟩
  ·refine ⟨hK,fun _=>rfl,fun O w u h=>?_⟩
   cases h
   exact .emp _ _ _
 ·obtain ⟨rfl,hK⟩:=h
  exact ⟨hK,fun h=>h,fun _ _ _ h=>h⟩
theorem bk {x y:D} {K:Prop} (h:bj x y K):bj x y True:=by
 unfold bj at h ⊢
 split at h
 ·exact ⟨h.1,trivial⟩
 ·exact ⟨h.1,trivial⟩
def f5 (v v':Nat→Nat) (cs cs':List C):Prop:=cs.length = cs'.length∧∀ (β:Nat→Value) (O:Nat→Prop) (w:World) (j:Nat) (u:Value) c c',cs[j]? = some c→cs'[j]? = some c'→BQ β v O w u c→BQ β v' O w u c'
theorem J5 {v v':Nat→Nat} {K:Prop}:∀ {cs cs':List C},GK v v' cs cs' K→K∧f5 v v' cs cs'
 | [],[],h=>⟨h,rfl,fun _ _ _ j u c c' hc=>by simp at hc⟩
 | [],_ :: _,h=>h.elim
 | .d x :: r,[],h=>h.elim
 | .sl _ _ :: r,[],h=>h.elim
 | .own _ _ _ :: r,[],h=>h.elim
 | .d x :: r,.d y :: q,h=>by
   obtain ⟨h,ho,hx⟩:=Vr (show bj x y (GK v v' r q K) from h)
   obtain ⟨h1,h2,h3⟩:=J5 h
   refine ⟨h1,by simp [h2],fun β O w j u c c' hc hc' hr=>?_⟩
   cases j with
   | zero=>simp at hc hc'; subst hc; subst hc'; exact ⟨hx O w u hr.1,ho hr.2⟩
   | succ j=>exact h3 β O w j u c c' (by simpa using hc) (by simpa using hc') hr
 | .sl id n :: r,.sl id' n' :: q,h=>by
   have h:if id = id'∧n = v id∧n' = v' id then GK v v' r q K else False:=h
   obtain ⟨⟨e0,e1,e2⟩,h'⟩:=Aq h
   obtain ⟨h1,h2,h3⟩:=J5 h'
   subst e0
   refine ⟨h1,by simp [h2],fun β O w j u c c' hc hc' hr=>?_⟩
   cases j with
   | zero=>simp at hc hc'; subst hc; subst hc'; exact ⟨Nat.le_of_eq e2,fun _=>hr.2 e1⟩
   | succ j=>exact h3 β O w j u c c' (by simpa using hc) (by simpa using hc') hr
 | .d _ :: _,.sl _ _ :: _,h=>h.elim
 | .d _ :: _,.own _ _ _ :: _,h=>h.elim
 | .sl _ _ :: _,.d _ :: _,h=>h.elim
 | .sl _ _ :: _,.own _ _ _ :: _,h=>h.elim
 | .own _ _ _ :: _,.d _ :: _,h=>h.elim
 | .own _ _ _ :: _,.sl _ _ :: _,h=>h.elim
 | .own _ _ _ :: _,.own _ _ _ :: _,h=>h.elim
theorem Ks {v v':Nat→Nat} {K:Prop}:∀ {cs cs':List C},GK v v' cs cs' K→GK v v' cs cs' True
 | [],[],_=>trivial
 | [],_ :: _,h=>h.elim
 | .d x :: r,[],h=>h.elim
 | .sl _ _ :: r,[],h=>h.elim
 | .own _ _ _ :: r,[],h=>h.elim
 | .d x :: r,.d y :: q,h=>by
   have h:bj x y (GK v v' r q K):=h
   show bj x y (GK v v' r q True)
   unfold bj at h ⊢
   split at h
   ·exact ⟨h.1,Ks h.2⟩
   ·exact ⟨h.1,Ks h.2⟩
 | .sl id n :: r,.sl id' n' :: q,h=>by
   have h:if id = id'∧n = v id∧n' = v' id then GK v v' r q K else False:=h
   obtain ⟨h1,h2⟩:=Aq h
   show if id = id'∧n = v id∧n' = v' id then GK v v' r q True else False
   rw [if_pos h1]; exact Ks h2
 | .d _ :: _,.sl _ _ :: _,h=>h.elim
 | .d _ :: _,.own _ _ _ :: _,h=>h.elim
 | .sl _ _ :: _,.d _ :: _,h=>h.elim
 | .sl _ _ :: _,.own _ _ _ :: _,h=>h.elim
 | .own _ _ _ :: _,.d _ :: _,h=>h.elim
 | .own _ _ _ :: _,.sl _ _ :: _,h=>h.elim
 | .own _ _ _ :: _,.own _ _ _ :: _,h=>h.elim
theorem QL {v v':Nat→Nat} {y y':AV} {K:Prop} (h:LQ v v' y y' K) :
 K∧∀ (β:Nat→Value) (O:Nat→Prop) (w:World) (tm:Array Value) (u:Value),IV β v O w tm u y→IV β v' O w tm u y':=by
 cases y' <;> simp only [LQ] at h
 case any=>exact ⟨h,fun _ _ _ _ _ _=>trivial⟩
 case d y =>
  split at h
  ·obtain ⟨h,_,h1⟩:=Vr h; exact ⟨h,fun _ O w _ u hr=>h1 O w u hr⟩
  ·obtain ⟨rfl,h⟩:=h; exact ⟨h,fun _ _ _ _ _ hr=>hr.1⟩
  ·exact h.elim
 case lim sz xs=>obtain ⟨rfl,h⟩:=h; exact ⟨h,fun _ _ _ _ _ hr=>hr⟩
 case ptr id n o =>
  split at h
  ·rename_i id' n' o'
   obtain ⟨⟨rfl,h1,h2⟩,rfl,h3⟩:=Aq h
   exact ⟨h3,fun _ _ _ _ _ hr=>⟨Nat.le_of_eq h2,fun _=>hr.2 h1⟩⟩
  ·exact h.elim
 case sl id n =>
  split at h
  ·rename_i id' n'
   obtain ⟨⟨rfl,h1,h2⟩,h3⟩:=Aq h
   exact ⟨h3,fun _ _ _ _ _ hr=>⟨Nat.le_of_eq h2,fun _=>hr.2 h1⟩⟩
  ·exact h.elim
 case cc k xs' =>
  split at h
  ·rename_i k' xs
   obtain ⟨rfl,hh⟩:=Aq h
   obtain ⟨h1,h2,h3⟩:=J5 hh
   refine ⟨h1,fun β O w tm u hr=>?_⟩
   obtain ⟨vs,hv,hl,hr⟩:=hr
   refine ⟨vs,hv,by rw [hl,h2],fun i u' c hu hc=>?_⟩
   have hi:i < xs.length:=by rw [h2]; exact AL hc
   exact ⟨h3 β O w i u' xs[i] c (List.getElem?_eq_getElem hi) hc (hr i u' _ hu (List.getElem?_eq_getElem hi)).1,(hr i u' _ hu (List.getElem?_eq_getElem hi)).2⟩
  ·exact h.elim
theorem X1 {v v':Nat→Nat} {y y':AV} {K:Prop} (h:LQ v v' y y' K):LQ v v' y y' True:=by
 cases y' <;> simp only [LQ] at h ⊢
 case d y =>
  split at h
  ·exact bk h
  ·exact ⟨h.1,trivial⟩
  ·exact h.elim
 case lim sz xs=>exact ⟨h.1,trivial⟩
 case ptr id n o =>
  split at h
  ·obtain ⟨h1,h2⟩:=Aq h
   rw [if_pos h1]; exact ⟨h2.1,trivial⟩
  ·exact h.elim
 case sl id n =>
  split at h
  ·obtain ⟨h1,h2⟩:=Aq h
   rw [if_pos h1]; trivial
  ·exact h.elim
 case cc k xs' =>
  split at h
  ·obtain ⟨h1,h2⟩:=Aq h
   rw [if_pos h1]; exact Ks h2
  ·exact h.elim
 all_goals first | exact h.elim | trivial
def fz (v v':Nat→Nat) (b b':Cg):Prop:=b' = .none∨(b = b'∧∀ cs,b≠.var cs)∨(∃ sz e xs,b' = .frow sz xs∧b = .row sz e xs)∨∃ cs cs',b = .var cs∧b' = .var cs'∧f5 v v' cs cs'
theorem X0 {v v':Nat→Nat} {b b':Cg} {K:Prop} (h:Zi v v' b b' K):K∧fz v v' b b':=by
 cases b' <;> simp only [Zi] at h
 case none=>exact ⟨h,.inl rfl⟩
 case frow sz xs =>
  rcases h.1 with h1 | ⟨e,h1⟩
  ·exact ⟨h.2,.inr (.inl ⟨h1,fun cs e=>by rw [h1] at e; cases e⟩)⟩
  ·exact ⟨h.2,.inr (.inr (.inl ⟨sz,e,xs,rfl,h1⟩))⟩
 case fvar cs=>exact ⟨h.2,.inr (.inl ⟨h.1,fun cs e=>by rw [h.1] at e; cases e⟩)⟩
 case map es=>exact ⟨h.2,.inr (.inl ⟨h.1,fun cs e=>by rw [h.1] at e; cases e⟩)⟩
 case row sz e xs=>exact ⟨h.2,.inr (.inl ⟨h.1,fun cs e=>by rw [h.1] at e; cases e⟩)⟩
 case var cs' =>
  cases b <;> try exact h.elim
  case var cs =>
   obtain ⟨h1,h2⟩:=J5 h
   exact ⟨h1,.inr (.inr (.inr ⟨cs,cs',rfl,rfl,h2⟩))⟩
theorem X2 {b':Cg} {n n':Nat} {K:Prop} (h:Zj b' n n' K):K∧(n' = 0→b'≠.none→n = 0):=by
 unfold Zj at h
 split at h
 ·exact ⟨h,fun _ hh=>absurd rfl hh⟩
 ·split at h
  ·rename_i hh; exact ⟨h,fun e _=>hh e⟩
  ·exact h.elim
theorem S8 {v v':Nat→Nat}:∀ {S S':AS},Xz v v' S S'→S.length = S'.length∧∀ i,LQ v v' (Ar S i).av (Ar S' i).av True∧fz v v' (Ar S i).box (Ar S' i).box∧((Ar S' i).ver = 0→(Ar S' i).box≠.none→(Ar S i).ver = 0)
 | [],[],_=>⟨rfl,fun i=>⟨by simp [Ar,bS,LQ],.inl rfl,fun _ h=>absurd rfl h⟩⟩
 | ⟨sv,sb,sn⟩ :: r,⟨sv',sb',sn'⟩ :: r',h=>by
   have h0:LQ v v' sv sv' (Zj sb' sn sn' (Zi v v' sb sb' (Xz v v' r r'))):=h
   have h1:=QL h0
   have h1':=X2 h1.1
   have h2:=X0 h1'.1
   obtain ⟨h3,h4⟩:=S8 h2.1
   refine ⟨by simp [h3],fun i=>?_⟩
   cases i with
   | zero=>exact ⟨X1 h0,h2.2,h1'.2⟩
   | succ i=>exact h4 i
theorem AG.le0 (h:AG X (fun _=>False) β S a w) {S':AS} (hl:Xz (fun i=>(Ar S i).ver) (fun i=>(Ar S' i).ver) S S'):AG X (fun _=>False) β S' a w:=by
 obtain ⟨hlen,hall⟩:=S8 hl
 have hbx:=fun i=>(hall i).2.1
 have hown:∀ i,(Ar S' i).box.owned = true→(Ar S i).box.owned = true:=by
  intro i ho
  rcases hbx i with h1 | ⟨h1,_⟩ | ⟨sz,e,xs,h1,_⟩ | ⟨cs,cs',h1,h2,_⟩
  ·rw [h1] at ho; cases ho
  ·rw [h1]; exact ho
  ·rw [h1] at ho; cases ho
  ·rw [h1]; rfl
 have hO:∀ b,OS β X S' b→OS β X S b:=by
  intro b hb
  rcases hb with hb | hb | ⟨i,h1,h2⟩
  ·exact .inl hb
  ·exact .inr (.inl hb)
  ·exact .inr (.inr ⟨i,hown i h1,h2⟩)
 have hk:BY (OS β X S) (OS β X S') w w:=BY.of_sub hO
 have same:∀ i,(fun i=>(Ar S i).ver) i < (fun i=>(Ar S i).ver) i∨((fun i=>(Ar S i).ver) i = (fun i=>(Ar S i).ver) i∧β i = β i):=fun i=>.inr ⟨rfl,rfl⟩
 refine ⟨by rw [← hlen]; exact h.len,h.df,h.below,h.hbase,h.o₀,h.rs,?_,?_,?_,?_,?_,?_⟩
 ·intro t u ht
  have hr:=(h.slots t u ht).mono hk (fun _=>.inr ⟨rfl,rfl⟩) (fun _ _=>rfl)
  exact (QL (hall t).1).2 β (OS β X S') w a.tmps u hr
 ·intro i
  have hno:(Ar S' i).box.owned = false→(Ar S i).box.owned = true→∀ b,A2 (β i) = some b→¬ OS β X S' b:=by
   intro h1 h2 b hb hh
   have hm:=h.mine i b h2 hb
   rcases hh with hh | hh | ⟨j,h3,h4⟩
   ·have:=h.o₀ b hh; rcases hm.1 with h5 | h5; omega; exact this.2 h5
   ·exact hm.2 hh
   ·have:=h.inj j i b (hown j h3) h2 h4 hb
    rw [this,h1] at h3; cases h3
  have hb:=h.boxes i
  rcases hbx i with h1 | ⟨h1,h2⟩ | ⟨sz,e,xs,h1,h2⟩ | ⟨cs,cs',h1,h2,h3⟩
  ·rw [h1]; trivial
  ·rw [← h1]
   cases hB:(Ar S i).box with
   | none=>trivial
   | var cs=>exact absurd hB (h2 cs)
   | row sz e xs =>
     rw [hB] at hb
     obtain ⟨k1,k2,A6,k3,k4⟩:=hb
     exact ⟨k1,k2,A6,k3,k4.mono hk⟩
   | fvar cs=>rw [hB] at hb; exact ⟨hb.1.mono hk,hb.2⟩
   | frow sz xs=>rw [hB] at hb; exact AB.mono hk hb
   | map es =>
     rw [hB] at hb
     obtain ⟨b,vs,clock,k1,k2,k3,k4⟩:=hb
     exact ⟨b,vs,clock,k1,k2,k3,fun i e p hv hc=>⟨(k4 i e p hv hc).1.mono hk,(k4 i e p hv hc).2.1.mono hk,(k4 i e p hv hc).2.2⟩⟩
  ·rw [h1]
   have hno':=hno (by rw [h1]; rfl) (by rw [h2]; rfl)
   rw [h2] at hb
   obtain ⟨k1,k2,A6,k3,k4⟩:=hb
   exact Uu k1 k2 k3 (k4.mono hk) hno'
  ·rw [h2]
   rw [h1] at hb
   obtain ⟨b,A6,T,k1,k2,k3,k4⟩:=hb
   refine ⟨b,A6,T,k1,k2,by rw [← h3.1]; exact k3,fun j u c hu hc=>?_⟩
   have hj:j < cs.length:=by rw [h3.1]; exact AL hc
   exact h3.2 β _ w j u cs[j] c (List.getElem?_eq_getElem hj) hc ((k4 j u cs[j] hu (List.getElem?_eq_getElem hj)).mono hk (fun _=>.inr ⟨rfl,rfl⟩))
 ·intro i b hi
  exact h.mine i b (hown i hi)
 ·intro i j b hi hj
  exact h.inj i j b (hown i hi) (hown j hj)
 ·intro t u hu
  have:=(hall t).1
  generalize (Ar S' t).av = y' at hu this
  cases y' <;> simp [AV.guards] at hu
  simp [LQ] at this
 ·intro i h0 hne
  refine h.ini i ((hall i).2.2 h0 hne) fun hh=>?_
  rcases hbx i with h1 | ⟨h1,_⟩ | ⟨sz,e,xs,_,h1⟩ | ⟨cs,cs',h1,_,_⟩
  ·exact hne h1
  ·rw [hh] at h1; exact hne h1.symm
  ·rw [hh] at h1; cases h1
  ·rw [hh] at h1; cases h1
theorem AG.know (h:AG X G β S a w) {t:Nat} {x:D} (hx:∀ v,a.tmps[t]? = some v→AB (OS β X S) w v x):AG X G β (Et S t (.d x)) a w:=by
 have hb:∀ i,(Ar (Et S t (.d x)) i).box = (Ar S i).box∧(Ar (Et S t (.d x)) i).ver = (Ar S i).ver:=by
  intro i
  rw [Cs]
  split
  ·rename_i e; rw [e.1]; exact ⟨rfl,rfl⟩
  ·exact ⟨rfl,rfl⟩
 have hO:OS β X (Et S t (.d x)) = OS β X S:=by funext b; simp only [OS,hb]
 have hv:Bb (Et S t (.d x)) = Bb S:=by funext i; simp only [Bb,hb]
 refine ⟨by rw [GM]; exact h.len,h.df,h.below,h.hbase,h.o₀,h.rs,?_,?_,?_,?_,?_,?_⟩
 ·intro i v hi
  rw [hO,hv,Cs]
  split
  ·rename_i e; rw [e.1] at hi; exact hx v hi
  ·exact h.slots i v hi
 ·intro i; rw [hO,hv,(hb i).1]; exact h.boxes i
 ·intro i b; rw [(hb i).1]; exact h.mine i b
 ·intro i j b; rw [(hb i).1,(hb j).1]; exact h.inj i j b
 ·intro i u hu
  rw [Cs] at hu
  split at hu
  ·simp [AV.guards] at hu
  ·exact h.gds i u hu
 ·intro i; rw [(hb i).1,(hb i).2]; exact h.ini i
theorem PR:∀ {frs:List Nat} {S:AS} {K:AS→Prop},WW frs S K→AG X (fun _=>False) β S a w→∃ S',K S'∧AG X (fun _=>False) β S' a w
 | [],S,K,hy,h=>⟨S,hy,h⟩
 | t :: r,S,K,hy,h=>by
   have hy:Vh (ρOf S none (.tmp t)) fun x b=>NI b S fun S=>O9 S t (.d x) fun S=>WW r S K:=hy
   obtain ⟨y,b,hK,hF,_,hh⟩:=HV (x:=X) (G:=fun _=>False) (a:=a) (ρ_sound h (g:=none) (fun _ _ e=>by cases e) (.tmp t)) hy
   rw [Mj,Pb] at hK
   have hr:=hh.now h hF
   refine PR hK ((hF.run h).1.know fun v hv=>?_)
   have:a.eval (.tmp t) = v:=by simp [Act.eval,Array.getD_eq_getD_getElem?,hv]
   rw [this] at hr
   exact hr
theorem AG.le (h:AG X (fun _=>False) β S a w) {S':AS} (hl:Le S S'):AG X (fun _=>False) β S' a w:=by
 obtain ⟨S1,h1,h2⟩:=PR hl h
 exact h2.le0 h1
theorem Sk:∀ {ads:List (Nat × Nat × Nat × TypeId)} {S:AS} {β:Nat→Value} {K:AS→Prop},Tq ads S K→AG X (fun _=>False) β S a w→∃ β' S',K S'∧AG X (fun _=>False) β' S' a w
 | [],S,β,K,hy,h=>⟨β,S,hy,h⟩
 | (v,j,q,e) :: r,S,β,K,hy,h=>by
   unfold Tq at hy
   split at hy
   ·rename_i av cs n hsv
    split at hy
    ·rename_i s hcj
     obtain ⟨⟨hs0,hvq⟩,hy⟩:=Aq hy
     obtain ⟨hq,hy⟩:=LI _ _ _ hy
     rw [BG,Mj] at hy
     have hbv:(Ar S v).box = .var cs:=by rw [hsv]
     have hvv:(Ar S v).ver = n:=by rw [hsv]
     have hlv:v < S.length:=Ny hbv (by simp)
     have hbx:=h.boxes v
     rw [hbv] at hbx
     obtain ⟨b,A6,T,k1,k2,k3,k4⟩:=hbx
     have hj:j < A6.size:=by rw [k3]; exact AL hcj
     have hcell:=k4 j A6[j] _ (by simp [hj]) hcj
     obtain ⟨ad,hval⟩:∃ ad,A6[j] = .slice ad 0 0:=by
      have:=hcell.1
      generalize A6[j] = u at this
      cases this
      exact ⟨_,rfl⟩
     obtain ⟨β',h1,hβ',_⟩:=bA h hq (n:=(Ar S q).ver + 1) (Nat.lt_succ_self _) (R':=X.R) (fun _ h=>h) (Below.refl _ _) (v:=.slice ad 0 0) (e:=e) (xs:=[]) (A6:=[]) hs0 (fun _ h=>by cases h)
      (by cases ad with
       | none=>exact .inl (World.ownsRow_nil w _ e _)
       | some p=>exact .inr ⟨rfl,rfl,p,rfl⟩) (fun b hb=>by cases ad <;> simp [A2] at hb) Bo.nil
     have h1:AG X (fun _=>False) β' (Ba S q (.row s e []) ((Ar S q).ver + 1)) a w:=h1
     have hβv:β' v = β v:=by rw [hβ']; simp [MK,hvq]
     have hβq:β' q = .slice ad 0 0:=by rw [hβ']; simp [MK]
     have hg1:Ar (Ba S q (.row s e []) ((Ar S q).ver + 1)) v = Ar S v:=by rw [Ik hq]; simp [hvq]
     have hgq:(Ar (Ba S q (.row s e []) ((Ar S q).ver + 1)) q).ver = (Ar S q).ver + 1:=by rw [Ik hq]; simp
     have hbx1:=h1.boxes v
     rw [hg1,hbv] at hbx1
     obtain ⟨b',vals',T',j1,j2,j3,j4⟩:=hbx1
     rw [hβv,k1] at j1
     simp at j1
     subst j1
     rw [k2] at j2
     simp at j2
     obtain ⟨rfl,rfl⟩:=j2
     have hlj:j < cs.length:=AL hcj
     have h2:=h1.rebox (R':=X.R) (id:=v) (B:=.var (splice cs j [.sl q ((Ar S q).ver + 1)])) (v:=β' v) (n:=n) (w':=w) (fun _ h=>h) (by rw [C2]; exact hlv) (.inr ⟨by rw [hg1,hvv],rfl,by rw [hg1,hbv]; simp⟩) (Nat.le_refl _) (Bl.refl _ _ _) (fun _ _ _=>rfl)
      (fun _ b hb=>⟨.inl ⟨hb,by rw [hg1,hbv]; rfl⟩,(h1.mine v b (by rw [hg1,hbv]; rfl) hb).2⟩)
      (fun k hv=>by
       rw [Gh] at k hv ⊢
       refine ⟨b,A6,T,by rw [hβv,k1],k2,?_,fun i u c hu hc=>?_⟩
       ·rw [EC _ _ _ (by omega)]; simp; omega
       ·rw [EC _ _ _ (by omega)] at hc
        have hlt:(cs.take j).length = j:=by simp; omega
        rcases Nat.lt_trichotomy i j with hi | hi | hi
        ·rw [List.append_assoc,List.getElem?_append_left (by rw [hlt]; exact hi),List.getElem?_take_of_lt hi] at hc
         exact (j4 i u c hu hc).mono k hv
        ·subst hi
         rw [List.append_assoc,List.getElem?_append_right (by rw [hlt]; exact Nat.le_refl _),hlt] at hc
         simp at hc
         subst hc
         refine BQ.mono k hv ?_
         have:u = A6[i]:=by simp [hj] at hu; exact hu.symm
         rw [this]
         exact ⟨by simp only [Bb]; rw [hgq]; exact Nat.le_refl _,fun _=>by rw [hβq,hval]⟩
        ·rw [List.append_assoc,List.getElem?_append_right (by rw [hlt]; omega),hlt] at hc
         rw [show ([C.sl q ((Ar S q).ver + 1)]++cs.drop (j + [C.sl q ((Ar S q).ver + 1)].length)) = C.sl q ((Ar S q).ver + 1) :: cs.drop (j + 1) from rfl] at hc
         rw [show i - j = (i - j - 1) + 1 by omega,List.getElem?_cons_succ,List.getElem?_drop] at hc
         exact (j4 i u c hu (by rw [show i = j + 1 + (i - j - 1) by omega]; exact hc)).mono k hv)
     rw [Gh] at h2
     exact Sk hy h2
    ·exact hy.elim
   ·exact hy.elim
theorem ZC (h:AG X (fun _=>False) β S a w) {c:Operand} {b:Bool} (hc:ρOf S none c = .d (.bool b)):a.eval c = .bool b:=by
 have:=ρ_sound h (g:=none) (fun _ _ e=>by cases e) c
 rw [hc] at this
 exact EA this
def dT (X:Cx) (Q:Exit→AS→Prop) (e:Exit) (a:Act) (w:World):Prop:=∃ β S,Q e S∧AG X (fun _=>False) β S a w
def Mh (P:Program):Prop:=∀ (id:Nat) (ops:Array Oper) (Q:Exit→AS→Prop) (S:AS) (X:Cx) (β:Nat→Value) (a:Act) (w:World),
 az P [] (.region id ops true) Q S→AG X (fun _=>False) β S a w→(Code.region id ops true).wp P (dT X Q) a w
theorem e7 (p:Nat→Prop):∀ n,p n→∃ m,p m∧∀ k,p k→m≤k:=by
 intro n
 induction n using Nat.strongRecOn with
 | _ n ih =>
   intro hn
   by_cases hk:∃ k,k < n∧p k
   ·obtain ⟨k,h1,h2⟩:=hk; exact ih k h1 h2
   ·exact ⟨n,hn,fun k hk'=>Nat.le_of_not_lt fun hlt=>hk ⟨k,hlt,hk'⟩⟩
theorem F0 {J:List Nat} (hdraw:Mh P):∀ (c:Code) {Q:Exit→AS→Prop} {S:AS} {β:Nat→Value} {a:Act} {w:World},az P J c Q S→AG X (fun _=>False) β S a w→c.wp P (dT X Q) a w
 | .skip,Q,S,β,a,w,hy,h=>wp_skip ⟨β,S,hy,h⟩
 | .label _,Q,S,β,a,w,hy,h=>wp_label ⟨β,S,hy,h⟩
 | .region id ops draw,Q,S,β,a,w,hy,h=>by
   cases draw with
   | true=>exact hdraw id ops Q S X β a w hy h
   | false =>
     have hy:dF P ops.toList [] ops.toList S fun S=>plain S (Q .normal):=hy
     refine wp_region_list (Qh hy (h.weaken fun _ hf=>hf.elim) fun β' S' a' w' done' hK hs=>?_)
     rw [Ud] at hK
     exact ⟨β',_,hK,hs.plain⟩
 | .seq x y,Q,S,β,a,w,hy,h=>by
   have hy:match b3 J y with
    | false=>az P J x (fun e S=>match e with | .normal=>az P J y Q S | e=>Q e S) S
    | true=>Tl S (az P J x) (az P J y) Q:=hy
   split at hy
   ·refine wp_seq (wp_mono (F0 hdraw x hy h) fun e a' w' hq=>?_)
    obtain ⟨β',S',hq,hs⟩:=hq
    cases e with
    | normal=>exact F0 hdraw y hq hs
    | exit id=>exact ⟨β',S',hq,hs⟩
    | goto l=>exact ⟨β',S',hq,hs⟩
    | ret=>exact ⟨β',S',hq,hs⟩
    | panic ch=>exact ⟨β',S',hq,hs⟩
    | outgrown=>exact ⟨β',S',hq,hs⟩
   ·obtain ⟨ι,Inv,hx,hall⟩:=hy.go
    simp only [HJ] at hall
    refine wp_seq (wp_mono (F0 hdraw x hx h) fun e a' w' hq=>?_)
    obtain ⟨β',S',hq,hs⟩:=hq
    cases e with
    | normal =>
      obtain ⟨i,hle⟩:=hq
      exact F0 hdraw y (hall i) (hs.le hle)
    | exit id=>exact ⟨β',S',hq,hs⟩
    | goto l=>exact ⟨β',S',hq,hs⟩
    | ret=>exact ⟨β',S',hq,hs⟩
    | panic ch=>exact ⟨β',S',hq,hs⟩
    | outgrown=>exact ⟨β',S',hq,hs⟩
 | .cond c x y,Q,S,β,a,w,hy,h=>by
   have hy:match ρOf S none c with
    | .d (.bool b)=>Sp b (az P J x Q S) (az P J y Q S)
    | _=>False:=hy
   split at hy
   ·rename_i b hb
    exact wp_cond_split (ZC h hb) (fun ht=>F0 hdraw x (hy.pos ht) h) (fun hf=>F0 hdraw y (hy.neg hf) h)
   ·exact hy.elim
 | .ret,Q,S,β,a,w,hy,h=>wp_ret ⟨β,S,hy,h⟩
 | .block id c,Q,S,β,a,w,hy,h=>by
   have hy:az P J c (fun e S=>match e with | .exit id'=>if id' = id then Q .normal S else Q (.exit id') S | e=>Q e S) S:=hy
   refine wp_block (wp_mono (F0 hdraw c hy h) fun e a' w' hq=>?_)
   obtain ⟨β',S',hq,hs⟩:=hq
   cases e with
   | exit id' =>
     simp only [Exit.inBlock] at hq ⊢
     split
     ·rename_i he; rw [if_pos he] at hq; exact ⟨β',S',hq,hs⟩
     ·rename_i he; rw [if_neg he] at hq; exact ⟨β',S',hq,hs⟩
   | normal=>exact ⟨β',S',hq,hs⟩
   | goto l=>exact ⟨β',S',hq,hs⟩
   | ret=>exact ⟨β',S',hq,hs⟩
   | panic ch=>exact ⟨β',S',hq,hs⟩
   | outgrown=>exact ⟨β',S',hq,hs⟩
 | .exit id,Q,S,β,a,w,hy,h=>wp_exit ⟨β,S,hy,h⟩
 | .loop c,Q,S,β,a,w,hy,h=>by
   have hy:Qs S (az P J c) Q:=hy
   obtain ⟨ads,frs,ι,Inv,μ,i₀,hle,hround⟩:=hy.go
   simp only [HJ] at hround
   obtain ⟨β,S,hle,h⟩:=Sk hle h
   obtain ⟨S,hle,h⟩:=PR hle h
   let I:Act→World→Nat→Prop:=fun a w n=>∃ i β,μ i = n∧AG X (fun _=>False) β (Inv i) a w
   have hex:∃ n,I a w n:=⟨_,i₀,β,rfl,h.le hle⟩
   have spec:∀ a w,(∃ n,I a w n)→I a w (Classical.epsilon fun m=>I a w m∧∀ k,I a w k→m≤k)∧∀ k,I a w k→(Classical.epsilon fun m=>I a w m∧∀ k,I a w k→m≤k)≤k :=
    fun a w ⟨n,hn⟩=>Classical.epsilon_spec (p:=fun m=>I a w m∧∀ k,I a w k→m≤k) (e7 (I a w) n hn)
   refine wp_loop (fun a w=>∃ n,I a w n) (fun a w=>Classical.epsilon fun m=>I a w m∧∀ k,I a w k→m≤k) hex fun a w hI=>?_
   obtain ⟨i,β,hi,hs⟩:=(spec a w hI).1
   refine wp_mono (F0 hdraw c (hround i) hs) fun e a' w' hq=>?_
   obtain ⟨β',S',hq,hs'⟩:=hq
   cases e with
   | normal =>
     obtain ⟨j,hlj,hlt⟩:=hq
     have hI':I a' w' (μ j):=⟨j,β',rfl,hs'.le hlj⟩
     refine ⟨⟨_,hI'⟩,?_⟩
     have:=(spec a' w' ⟨_,hI'⟩).2 _ hI'
     rw [← hi]
     exact Nat.lt_of_le_of_lt this hlt
   | exit id=>exact ⟨β',S',hq,hs'⟩
   | goto l=>exact ⟨β',S',hq,hs'⟩
   | ret=>exact ⟨β',S',hq,hs'⟩
   | panic ch=>exact ⟨β',S',hq,hs'⟩
   | outgrown=>exact ⟨β',S',hq,hs'⟩
 | .scope _,_,_,_,_,_,hy,_=>hy.elim
 | .goto _,_,_,_,_,_,hy,_=>hy.elim
 | .refuse _,_,_,_,_,_,hy,_=>hy.elim
 | .rangeFunc _ _ _ _,_,_,_,_,_,hy,_=>hy.elim
end
end Go.Abs
set_option linter.unusedVariables false
set_option linter.unusedSimpArgs false
namespace Go.Abs
open Go.RowKit (Below)
section
variable {P:Program} {X:Cx} {β:Nat→Value} {S:AS} {a:Act} {w:World}
def Rn (tmps:Array Value):ResultVar→Sem Value
 | .tmp t=>pure (tmps.getD t undef)
 | .cell a t=>do loadVar t (← asAddr (tmps.getD a undef))
theorem no:BP none a:=fun _ _ e=>by cases e
def To (X:Cx) (β:Nat→Value) (S:AS) (a:Act) (w:World) (used:List Nat) (frz:Bx) (v:Value):C→Prop
 | .d y=>Jf X (fun _=>False) β S a w frz fun O=>AB O w v y
 | .own sz e xs=>∃ id,id∈used∧v = β id∧(Ar S id).box = .row sz e xs∧∀ x∈xs,∀ y∈x.cells,y.bare = true
 | .sl _ _=>False
theorem To.mono {used used':List Nat} {frz frz':Bx} (hu:∀ i∈used,i∈used') (hf:∀ y∈frz,y∈frz') {v:Value} {c:C} (h:To X β S a w used frz v c):To X β S a w used' frz' v c:=by
 cases c with
 | d y=>exact Jf.mono (show Jf X (fun _=>False) β S a w frz fun O=>AB O w v y from h) hf fun _ h=>h
 | own sz e xs=>obtain ⟨id,h1,h2⟩:=h; exact ⟨id,hu id h1,h2⟩
 | sl _ _=>exact h
theorem Vk:∀ {cs:List C} {K:List D→Prop},VU cs K→∃ l,K l∧cs = l.map .d
 | [],K,h=>⟨[],h,rfl⟩
 | .d x :: r,K,h=>by
   have h:VU r fun l=>K (x :: l):=h
   obtain ⟨l,h1,h2⟩:=Vk h
   exact ⟨_,h1,by rw [h2]; rfl⟩
 | .sl _ _ :: r,K,h=>h.elim
 | .own _ _ _ :: r,K,h=>h.elim
theorem LF (h:AG X (fun _=>False) β S a w):∀ {rs:List ResultVar} {used:List Nat} {frz:Bx} {K:List C→List Nat→Bx→Prop},O3 P S used frz rs K→FZ S [] frz→(∀ i∈used,(Ar S i).box.owned = true) →
 ∃ cs used' frz',K cs used' frz'∧FZ S [] frz'∧(∀ i∈used,i∈used')∧(∀ y∈frz,y∈frz')∧(∀ i∈used',(Ar S i).box.owned = true)∧∃ vs:List Value,(rs.mapM (Rn a.tmps)).run P w = .ok vs w∧vs.length = cs.length ∧
   (∀ (i:Nat) v c,vs[i]? = some v→cs[i]? = some c→To X β S a w used' frz' v c) ∧
   (∀ (i:Nat) v sz e xs b,vs[i]? = some v→cs[i]? = some (.own sz e xs)→A2 v = some b→∀ j∈used,A2 (β j)≠some b) ∧
   (∀ (i j:Nat) v v' sz e xs sz' e' xs' b,vs[i]? = some v→vs[j]? = some v'→cs[i]? = some (.own sz e xs)→cs[j]? = some (.own sz' e' xs')→A2 v = some b→A2 v' = some b→i = j)
 | [],used,frz,K,hy,hF,hu=>⟨[],used,frz,hy,hF,(fun _ h=>h),(fun _ h=>h),hu,[],rfl,rfl,(fun i v c hv=>by simp at hv),(fun i v sz e xs b hv=>by simp at hv),fun i j v v' sz e xs sz' e' xs' b hv=>by simp at hv⟩
 | .tmp t :: r,used,frz,K,hy,hF,hu=>by
   have data:∀ (y:D) (b:Bx),FZ S [] b→Jf X (fun _=>False) β S a w b (fun O=>AB O w (a.eval (.tmp t)) y)→(O3 P S used (frz++b) r fun l u b=>K (.d y :: l) u b) →
    ∃ cs used' frz',K cs used' frz'∧FZ S [] frz'∧(∀ i∈used,i∈used')∧(∀ y∈frz,y∈frz')∧(∀ i∈used',(Ar S i).box.owned = true)∧∃ vs:List Value,((ResultVar.tmp t :: r).mapM (Rn a.tmps)).run P w = .ok vs w∧vs.length = cs.length ∧
    (∀ (i:Nat) v c,vs[i]? = some v→cs[i]? = some c→To X β S a w used' frz' v c) ∧
    (∀ (i:Nat) v sz e xs b,vs[i]? = some v→cs[i]? = some (.own sz e xs)→A2 v = some b→∀ j∈used,A2 (β j)≠some b) ∧
    (∀ (i j:Nat) v v' sz e xs sz' e' xs' b,vs[i]? = some v→vs[j]? = some v'→cs[i]? = some (.own sz e xs)→cs[j]? = some (.own sz' e' xs')→A2 v = some b→A2 v' = some b→i = j):=by
    intro y b hFb hh hy
    obtain ⟨cs,used',frz',hK,k1,k2,k3,k3',vs,k4,k5,k6,k7,k8⟩:=LF h hy (hF.append hFb) hu
    refine ⟨_,used',frz',hK,k1,k2,fun y hy=>k3 y (by simp [hy]),k3',a.eval (.tmp t) :: vs,?_,by simp [k5],fun i v c hv hc=>?_,fun i v sz e xs b hv hc=>?_,fun i j v v' sz e xs sz' e' xs' b hv hv' hc hc' hb hb'=>?_⟩
    ·simp only [List.mapM_cons,Rn,Sem.run_bind,Sem.run_pure,Result.andThen_ok,k4]
     rfl
    ·cases i with
     | zero=>simp at hv hc; subst hv; subst hc; exact hh.mono (fun y hy=>k3 y (by simp [hy])) fun _ h=>h
     | succ i=>exact k6 i v c (by simpa using hv) (by simpa using hc)
    ·cases i with
     | zero=>simp at hc
     | succ i=>exact k7 i v sz e xs b (by simpa using hv) (by simpa using hc)
    ·cases i with
     | zero=>simp at hc
     | succ i=>cases j with
       | zero=>simp at hc'
       | succ j=>rw [k8 i j v v' sz e xs sz' e' xs' b (by simpa using hv) (by simpa using hv') (by simpa using hc) (by simpa using hc') hb hb']
   unfold O3 at hy
   have hr:=ρ_sound h no (.tmp t)
   split at hy
   ·rename_i id n sz e xs hx
    rw [hx] at hr
    rcases hy.go with hy | hy
    ·obtain ⟨y,b,hK,hFb,_,hh⟩:=HV (x:=X) (G:=fun _=>False) (a:=a) (K:=fun y b=>y = .list sz xs∧b = [(id,Cg.frow sz xs,n)]) hr ⟨rfl,rfl⟩
     obtain ⟨rfl,rfl⟩:=hK
     exact data _ _ hFb hh hy
    ·split at hy
     ·exact hy.elim
     rename_i hcon
     obtain ⟨hbare,hy⟩:=hy
     obtain ⟨hb1,hb2,hb3⟩:=hr
     have hown:(Ar S id).box.owned = true:=by rw [hb1]; rfl
     obtain ⟨cs,used',frz',hK,k1,k2,k3,k3',vs,k4,k5,k6,k7,k8⟩:=LF h hy hF (fun i hi=>by
      rcases List.mem_cons.1 hi with rfl | hi
      ·exact hown
      ·exact hu i hi)
     refine ⟨_,used',frz',hK,k1,fun i hi=>k2 i (by simp [hi]),k3,k3',a.eval (.tmp t) :: vs,?_,by simp [k5],fun i v c hv hc=>?_,fun i v sz' e' xs' b hv hc hb j hj=>?_,fun i j v v' sz1 e1 xs1 sz' e' xs' b hv hv' hc hc' hb hb'=>?_⟩
     ·simp only [List.mapM_cons,Rn,Sem.run_bind,Sem.run_pure,Result.andThen_ok,k4]
      rfl
     ·cases i with
      | zero=>simp at hv hc; subst hv; subst hc; exact ⟨id,k2 id (by simp),hb3,hb1,hbare⟩
      | succ i=>exact k6 i v c (by simpa using hv) (by simpa using hc)
     ·cases i with
      | zero =>
        simp at hv hc
        subst hv
        intro hjb
        rw [hb3] at hb
        have:=h.inj id j b hown (hu j hj) hb hjb
        subst this
        exact hcon (by simpa using hj)
      | succ i=>exact k7 i v sz' e' xs' b (by simpa using hv) (by simpa using hc) hb j (by simp [hj])
     ·cases i with
      | zero=>cases j with
        | zero=>rfl
        | succ j =>
          simp at hv
          subst hv
          rw [hb3] at hb
          exact absurd hb (k7 j v' sz' e' xs' b (by simpa using hv') (by simpa using hc') hb' id (by simp))
      | succ i=>cases j with
        | zero =>
          simp at hv'
          subst hv'
          rw [hb3] at hb'
          exact absurd hb' (k7 i v sz1 e1 xs1 b (by simpa using hv) (by simpa using hc) hb id (by simp))
        | succ j=>rw [k8 i j v v' sz1 e1 xs1 sz' e' xs' b (by simpa using hv) (by simpa using hv') (by simpa using hc) (by simpa using hc') hb hb']
   ·obtain ⟨y,b,hK,hFb,_,hh⟩:=Ry (x:=X) (G:=fun _=>False) (a:=a) hr hy
    exact data y b hFb hh hK
 | .cell t ty :: r,used,frz,K,hy,hF,hu=>by
   unfold O3 at hy
   have hr:=ρ_sound h no (.tmp t)
   split at hy
   ·rename_i id n off cs0 hx
    rw [hx] at hr
    obtain ⟨hb,_,bb,hβ,hv⟩:=hr
    obtain ⟨l0,hy,hcs⟩:=Vk hy
    obtain ⟨A6,T,h3,h4,h5⟩:=K4 h hb hβ
    obtain ⟨y,hy,v0,hl,hvr⟩:=RE (P:=P) (O:=OS β X S) (w:=w) (b:=bb) (off:=off) hy (fun j y hy=>by
     simp only [List.getElem?_drop] at hy
     have hc:cs0[off + j]? = some (.d y):=by rw [hcs]; simp [hy]
     have hlt:off + j < A6.size:=by rw [h4]; exact AL hc
     have:=h5 (off + j) A6[off + j] _ (by simp [hlt]) hc
     exact ⟨A6[off + j],by simp [World.cell?,h3,hlt],this.1,this.2⟩)
    rw [Ol] at hy
    obtain ⟨cs,used',frz',hK,k1,k2,k3,k3',vs,k4,k5,k6,k7,k8⟩:=LF h hy hF hu
    have hv':a.tmps.getD t undef = .pointer (some ⟨bb,off,none⟩):=hv
    refine ⟨_,used',frz',hK,k1,k2,k3,k3',v0 :: vs,?_,by simp [k5],fun i v c hv hc=>?_,fun i v sz e xs b hv hc=>?_,fun i j v v' sz e xs sz' e' xs' b hv hv' hc hc' hb hb'=>?_⟩
    ·simp only [List.mapM_cons,Rn,hv',asAddr,Sem.run_bind,Sem.run_pure,Result.andThen_ok,hl,k4]
    ·cases i with
     | zero=>simp at hv hc; subst hv; subst hc; exact fun B _ _ _ hk=>(hvr.mono (BY.of_sub hk)).norm
     | succ i=>exact k6 i v c (by simpa using hv) (by simpa using hc)
    ·cases i with
     | zero=>simp at hc
     | succ i=>exact k7 i v sz e xs b (by simpa using hv) (by simpa using hc)
    ·cases i with
     | zero=>simp at hc
     | succ i=>cases j with
       | zero=>simp at hc'
       | succ j=>rw [k8 i j v v' sz e xs sz' e' xs' b (by simpa using hv) (by simpa using hv') (by simpa using hc) (by simpa using hc') hb hb']
   ·exact hy.elim
theorem O5 {fn:Func} {vs:List Value} (h:(fn.results.toList.mapM (Rn a.tmps)).run P w = .ok vs w) :
 (results fn a.tmps).run P w = .ok (if h:vs.toArray.size = 1 then vs.toArray[0] else .tuple vs.toArray) w:=by
 have e:(fn.results.mapM (Rn a.tmps)).run P w = .ok vs.toArray w:=by
  rw [Array.mapM_eq_mapM_toList,Sem.run_map,h]
  simp
 have e2:results fn a.tmps = (do let vs ← fn.results.mapM (Rn a.tmps); pure (if h:vs.size = 1 then vs[0] else .tuple vs)):=by
  unfold results
  congr 2
 rw [e2,Sem.run_bind,e]
 rfl
theorem Vf {used:List Nat} {frz:Bx} (h:used.all (fun i=>GY i frz) = true):∀ i∈used,∀ y∈frz,y.1≠i:=fun i hi=>EU (List.all_eq_true.1 h i hi)
theorem Ut (h:AG X (fun _=>False) β S a w) {fn:Func} {used:List Nat} {frz:Bx} {r:AV} (hF:FZ S [] frz) (hu:∀ i∈used,(Ar S i).box.owned = true) (hy:ak P fn.results.toList used frz S r) :
 ∃ v T,(results fn a.tmps).run P w = .ok v w∧AG X (fun _=>False) β T a w∧(∀ i∈used,Ar T i = Ar S i)∧(∀ z∈frz,(Ar T z.1).box = z.2.1)∧(∃ F,(∀ y∈frz,y∈F)∧Fr S F T) ∧
   Dg (fun b=>X.mine b∧∀ i∈used,A2 (β i)≠some b) (OS β X T) w v r∧(∀ b,D9 v r b→OS β X T b):=by
 have ownR:∀ {T:AS} {used':List Nat} {v:Value} {sz:Nat} {e:TypeId} {xs:List D},AG X (fun _=>False) β T a w→(∀ i∈used',Ar T i = Ar S i)→(∃ id,id∈used'∧v = β id∧(Ar S id).box = .row sz e xs∧∀ x∈xs,∀ y∈x.cells,y.bare = true) →
  (∀ b,A2 v = some b→∀ j∈used,A2 (β j)≠some b)→Tn (fun b=>X.mine b∧∀ i∈used,A2 (β i)≠some b) w v sz e xs∧∀ b,A2 v = some b→OS β X T b:=by
  intro T used' v sz e xs hT hsame ⟨id,h1,h2,h3,h4⟩ hne
  have hbT:(Ar T id).box = .row sz e xs:=by rw [hsame id h1]; exact h3
  have hown:(Ar T id).box.owned = true:=by rw [hbT]; rfl
  have hb:=hT.boxes id
  rw [hbT] at hb
  obtain ⟨k1,k2,A6,k3,k4⟩:=hb
  refine ⟨⟨k1,k2,fun b hbb=>⟨(hT.mine id b hown (by rw [← h2]; exact hbb)).1,hne b hbb⟩,A6,by rw [h2]; exact k3,?_⟩,fun b hbb=>.inr (.inr ⟨id,hown,by rw [← h2]; exact hbb⟩)⟩
  refine ⟨k4.1,fun j u y hu hy=>?_⟩
  have:=k4.2 j u y hu hy
  refine ⟨Pq this.1 ?_,this.2⟩
  have hm:=List.mem_of_getElem? hy
  obtain ⟨x,hx,hyx⟩:=List.mem_flatMap.1 hm
  exact h4 x hx y hyx
 have rest:∀ {rs:List ResultVar},rs = fn.results.toList→(O3 P S used frz rs fun l u b=>cF l u b r)→∃ v T,(results fn a.tmps).run P w = .ok v w∧AG X (fun _=>False) β T a w∧(∀ i∈used,Ar T i = Ar S i)∧(∀ z∈frz,(Ar T z.1).box = z.2.1)∧(∃ F,(∀ y∈frz,y∈F)∧Fr S F T) ∧
  Dg (fun b=>X.mine b∧∀ i∈used,A2 (β i)≠some b) (OS β X T) w v r∧(∀ b,D9 v r b→OS β X T b):=by
  intro rs hrs hy
  obtain ⟨cs,used',frz',hK,k1,k2,k3,k3',vs,k4,k5,k6,k7,k8⟩:=LF h hy hF hu
  unfold cF at hK
  obtain ⟨hall,hK2⟩:=Aq hK
  clear hK
  have hnot:=Vf hall
  obtain ⟨t1,t2,t3⟩:=k1.run h
  have hsame:∀ i∈used',Ar (Bm frz' S) i = Ar S i:=by
   intro i hi
   have e1:=t3.other i (hnot i hi)
   have e2:=t3.ver i
   have e3:=t3.av i
   generalize Ar (Bm frz' S) i = p at e1 e2 e3
   generalize Ar S i = q at e1 e2 e3
   obtain ⟨_,_,_⟩:=p
   obtain ⟨_,_,_⟩:=q
   simp only at e1 e2 e3
   rw [e1,e2,e3]
  have hdat:∀ (i:Nat) v y,vs[i]? = some v→cs[i]? = some (.d y)→AB (OS β X (Bm frz' S)) w v y:=fun i v y hv hc=>(show Jf X (fun _=>False) β S a w frz' fun O=>AB O w v y from k6 i v _ hv hc) frz' (fun _ h=>h) t3 t1 t2
  have hrow:∀ (i:Nat) v sz e xs,vs[i]? = some v→cs[i]? = some (.own sz e xs)→Tn (fun b=>X.mine b∧∀ i∈used,A2 (β i)≠some b) w v sz e xs∧∀ b,A2 v = some b→OS β X (Bm frz' S) b:=by
   intro i v sz e xs hv hc
   exact ownR t1 hsame (k6 i v _ hv hc) (fun b hb=>k7 i v sz e xs b hv hc hb)
  have fin:∀ v,(results fn a.tmps).run P w = .ok v w→Dg (fun b=>X.mine b∧∀ i∈used,A2 (β i)≠some b) (OS β X (Bm frz' S)) w v r→(∀ b,D9 v r b→OS β X (Bm frz' S) b)→∃ v T,(results fn a.tmps).run P w = .ok v w∧AG X (fun _=>False) β T a w∧(∀ i∈used,Ar T i = Ar S i)∧(∀ z∈frz,(Ar T z.1).box = z.2.1)∧(∃ F,(∀ y∈frz,y∈F)∧Fr S F T) ∧
   Dg (fun b=>X.mine b∧∀ i∈used,A2 (β i)≠some b) (OS β X T) w v r∧(∀ b,D9 v r b→OS β X T b) :=
   fun v hv hr hb=>⟨v,_,hv,t1,fun i hi=>hsame i (k2 i hi),fun z hz=>t3.mem z (k3 z hz),⟨frz',k3,t3⟩,hr,hb⟩
  have hrun:=O5 (P:=P) (w:=w) (a:=a) (fn:=fn) (vs:=vs) (by rw [← hrs]; exact k4)
  have tup:dQ (.tup cs) r→cs.length≠1→∃ v T,(results fn a.tmps).run P w = .ok v w∧AG X (fun _=>False) β T a w∧(∀ i∈used,Ar T i = Ar S i)∧(∀ z∈frz,(Ar T z.1).box = z.2.1)∧(∃ F,(∀ y∈frz,y∈F)∧Fr S F T) ∧
   Dg (fun b=>X.mine b∧∀ i∈used,A2 (β i)≠some b) (OS β X T) w v r∧(∀ b,D9 v r b→OS β X T b):=by
   intro hr hne
   have hl:¬ vs.toArray.size = 1:=by intro hh; apply hne; rw [← k5]; simpa using hh
   rw [dif_neg hl] at hrun
   have hr:=hr.go
   subst hr
   have hres:∀ b,D9 (.tuple vs.toArray) (.tup cs) b→OS β X (Bm frz' S) b:=by
    rintro b ⟨vs',i,u,sz,e,ys,h1,h2,h3,h4⟩
    cases h1
    exact (hrow i u sz e ys (by simpa using h2) h3).2 b h4
   refine fin _ hrun ⟨vs.toArray,rfl,by simpa using k5,fun i u c hu' hc=>?_,fun i j u u' sz e ys sz' e' ys' b h1 h2 h3 h4 h5 h6=>k8 i j u u' sz e ys sz' e' ys' b (by simpa using h1) (by simpa using h2) h3 h4 h5 h6⟩ hres
   cases c with
   | d y =>
     refine AB.mono (BY.of_sub fun b hb=>?_) (hdat i u y (by simpa using hu') hc)
     rcases hb with hb | hb
     ·exact hb
     ·exact hres b hb
   | own sz e ys=>exact (hrow i u sz e ys (by simpa using hu') hc).1
   | sl _ _=>exact (k6 i u _ (by simpa using hu') hc).elim
  match cs,hK2,k5,k6,k7,k8,hdat,hrow,tup with
  | [],hK2,k5,k6,k7,k8,hdat,hrow,tup=>exact tup hK2 (by simp)
  | c1 :: c2 :: q,hK2,k5,k6,k7,k8,hdat,hrow,tup=>exact tup hK2 (by simp)
  | [c],hK2,k5,k6,k7,k8,hdat,hrow,tup =>
    have hl:vs.length = 1:=k5
    obtain ⟨v,rfl⟩:=List.length_eq_one_iff.1 hl
    have hrv:(results fn a.tmps).run P w = .ok v w:=by simpa using hrun
    have hr:=(show dQ (aR c) r from hK2).go
    subst hr
    cases c with
    | d y=>exact fin v hrv (hdat 0 v y rfl rfl) (fun b hb=>hb.elim)
    | own sz e xs =>
      obtain ⟨j1,j2⟩:=hrow 0 v sz e xs rfl rfl
      exact fin v hrv j1 j2
    | sl _ _=>exact (k6 0 v _ rfl rfl).elim
 unfold ak at hy
 split at hy
 ·rename_i t hrs
  split at hy
  ·rename_i id n cs hx
   have hr:=ρ_sound h no (.tmp t)
   rw [hx] at hr
   obtain ⟨hb1,hb2,bb,hβ,hv⟩:=hr
   split at hy
   ·exact hy.elim
   rename_i hcon
   obtain ⟨l,b,hK,hFb,hfr,hcd,hh⟩:=MQ h hy
   obtain ⟨hall,hK⟩:=Aq hK
   obtain ⟨rfl⟩:=hK
   have hnot:=Vf hall
   have hFF:=hF.append hFb
   obtain ⟨t1,t2,t3⟩:=hFF.run h
   have hsame:∀ i∈id :: used,Ar (Bm (frz++b) S) i = Ar S i:=by
    intro i hi
    have e1:=t3.other i (hnot i hi)
    have e2:=t3.ver i
    have e3:=t3.av i
    generalize Ar (Bm (frz++b) S) i = p at e1 e2 e3
    generalize Ar S i = q at e1 e2 e3
    obtain ⟨_,_,_⟩:=p
    obtain ⟨_,_,_⟩:=q
    simp only at e1 e2 e3
    rw [e1,e2,e3]
   have hbT:(Ar (Bm (frz++b) S) id).box = .var cs:=by rw [hsame id (by simp)]; exact hb1
   have hown:(Ar (Bm (frz++b) S) id).box.owned = true:=by rw [hbT]; rfl
   obtain ⟨A6,T,q1,q2,q3⟩:=K4 t1 hbT hβ
   have hcd':Je S (frz++b) cs l:=hcd.mono fun y hy=>by simp [hy]
   have hrep:=R0 t3 t1 hcd' (A6:=A6.toList) (by simpa using q2) (fun j v c hv hc=>q3 j v c (by simpa using hv) hc)
   have hblk:A2 (β id) = some bb:=by rw [hβ]; rfl
   have hvb:a.eval (.tmp t) = β id:=by rw [hv,hβ]
   have hrun:(results fn a.tmps).run P w = .ok (β id) w:=by
    have:=O5 (P:=P) (w:=w) (a:=a) (fn:=fn) (vs:=[β id]) (by
     rw [hrs]
     simp only [List.mapM_cons,Rn,List.mapM_nil,Sem.run_bind,Sem.run_pure,Result.andThen_ok]
     rw [← hvb]; rfl)
    simpa using this
   refine ⟨β id,_,hrun,t1,fun i hi=>hsame i (by simp [hi]),fun z hz=>t3.mem z (by simp [hz]),⟨_,fun y hy=>by simp [hy],t3⟩,⟨fun b' hb'=>⟨(t1.mine id b' hown hb').1,fun i hi hbi=>?_⟩,bb,A6,T,hβ,q1,?_⟩,fun b' hb'=>.inr (.inr ⟨id,hown,hb'⟩)⟩
   ·have:=h.inj id i b' (by rw [hb1]; rfl) (hu i hi) hb' hbi
    subst this
    exact hcon (by simpa using hi)
   ·refine hrep.mono (BY.of_sub fun b' hb'=>?_)
    rcases hb' with hb' | hb'
    ·exact hb'
    ·exact .inr (.inr ⟨id,hown,hb'⟩)
  ·exact rest rfl hy
 ·exact rest rfl hy
theorem Kt:∀ (args:List AV) (k:Nat) (S:AS),(enter k args S).length = args.length + (S.length - args.length)
 | [],_,S=>by simp [enter]
 | x :: r,k,S=>by simp only [enter,List.length_cons,Kt r,List.length_drop]; omega
theorem Nf:∀ n,(ED n).length = n
 | 0=>rfl
 | n + 1=>by simp [ED,Nf n]
theorem Qo:∀ n i,Ar (ED n) i = bS
 | 0,_=>rfl
 | _ + 1,0=>rfl
 | n + 1,i + 1=>Qo n i
theorem ao (k:Nat):∀ (S:AS) (i:Nat),Ar (S.drop k) i = Ar S (k + i):=by
 induction k with
 | zero=>intro S i; simp
 | succ k ih =>
   intro S i
   cases S with
   | nil=>simp [Ar]
   | cons s r=>rw [List.drop_succ_cons,ih,show k + 1 + i = (k + i) + 1 by omega]; rfl
theorem Qp:∀ (args:List AV) (k:Nat) (S:AS) (i:Nat),Ar (enter k args S) i = match args[i]? with | some x=>JK (k + i) x | none=>Ar S i
 | [],k,S,i=>by simp [enter]
 | x :: r,k,S,0=>by simp [enter,Ar]
 | x :: r,k,S,i + 1=>by
   simp only [enter,Ar,Qp r,List.getElem?_cons_succ]
   rw [show k + 1 + i = k + (i + 1) by omega]
   split
   ·rfl
   ·rw [ao,Nat.add_comm]
theorem Rb {w:World} {e:TypeId} {sz n:Nat} {v:Value} {A6:List Value} (h:Dh w e sz v n A6):Nh v = v:=by
 obtain ⟨_,_,_,rfl⟩:=Kz h; rfl
theorem OZ (vs:Array Value) (u:Value):Nh (.agg (vs.push u)) = u:=by simp [Nh]
theorem Ra {O:Nat→Prop} {w:World} {v:Value} {x:AV} (h:WF O w v x) (hm:x.mut = true):A2 (Nh v) = A2 v:=by
 cases x <;> try (cases hm; done)
 ·obtain ⟨_,_,_,hr,_⟩:=h; rw [Rb hr]
 ·obtain ⟨b,_,_,rfl,_⟩:=h; rfl
 ·obtain ⟨_,vs,u,_,_,_,_,⟨_,rfl,_,_,_,_,hr,_⟩,_⟩:=h
  rw [OZ,WN (Kz hr)]
theorem V0 (i:Nat) (sz:Nat) (e:TypeId) (xs:List D):∀ ds:List D,X3 i (ds.map .d++[.own sz e xs]) = ds.map .d++[.sl i 0]
 | []=>rfl
 | d :: r=>by simp only [List.map_cons,List.cons_append,X3,V0 i sz e xs r]
theorem XF (sz:Nat) (e:TypeId) (xs:List D):∀ ds:List D,cG (ds.map .d++[.own sz e xs]) = .row sz e xs
 | []=>rfl
 | d :: r=>by simp only [List.map_cons,List.cons_append,cG,XF sz e xs r]
theorem Zs {ds:List C} {ds':List C} {sz sz':Nat} {e e':TypeId} {xs xs':List D} (h:ds++[C.own sz e xs] = ds'++[C.own sz' e' xs']):ds = ds'∧sz = sz'∧e = e'∧xs = xs':=by
 obtain ⟨h1,h2⟩:=List.append_inj' h rfl
 simp at h2
 exact ⟨h1,h2⟩
theorem Vq {n:Nat} {args:List AV} {O M:Nat→Prop} {w:World} {vs:Array Value} (hO:∀ b,O b→b < w.heap.size) (hG:Tk (fun b=>O b∨Gz vs args b) w) (hlen:vs.size = args.length) (hMO:∀ b,Gz vs args b→¬ O b)
 (hinj:∀ (i j:Nat) v v' x y b,vs[i]? = some v→vs[j]? = some v'→args[i]? = some x→args[j]? = some y→x.mut = true→y.mut = true→A2 v = some b→A2 v' = some b→i = j)
 (hargs:∀ (i:Nat) v x,vs[i]? = some v→args[i]? = some x→WF (fun b=>O b∨Gz vs args b) w v x) :
 AG ⟨w.heap.size,Gz vs args,O,fun _=>False,w,fun i=>Nh (vs.getD i undef),TM hG⟩ (fun _=>False) (fun i=>Nh (vs.getD i undef)) (enter 0 args (ED n)) { tmps:=vs++Array.replicate (n - vs.size) undef,defers:=[] } w:=by
 have hget:∀ i,Ar (enter 0 args (ED n)) i = match args[i]? with | some x=>JK i x | none=>bS:=by
  intro i
  rw [Qp]
  simp only [Nat.zero_add,Qo]
 have hver:∀ i,(Ar (enter 0 args (ED n)) i).ver = 0:=by
  intro i
  rw [hget]
  split
  ·rename_i x _; cases x <;> rfl
  ·rfl
 have hval:∀ (i:Nat) x,args[i]? = some x→vs[i]? = some (vs.getD i undef):=by
  intro i x hx
  have:i < vs.size:=by rw [hlen]; exact AL hx
  simp [Array.getD,this]
 have hown:∀ i,(Ar (enter 0 args (ED n)) i).box.owned = true→∃ x,args[i]? = some x∧x.mut = true:=by
  intro i ho
  rw [hget] at ho
  split at ho
  ·rename_i x hx
   refine ⟨x,hx,?_⟩
   cases x <;> first | rfl | simp [JK,Cg.owned] at ho
  ·simp [bS,Cg.owned] at ho
 have hOS:∀ b,OS (fun i=>Nh (vs.getD i undef)) ⟨w.heap.size,Gz vs args,O,fun _=>False,w,fun i=>Nh (vs.getD i undef),TM hG⟩ (enter 0 args (ED n)) b→O b∨Gz vs args b:=by
  intro b hb
  rcases hb with hb | hb | ⟨i,h1,h2⟩
  ·exact .inl hb
  ·exact hb.elim
  ·obtain ⟨x,hx,hm⟩:=hown i h1
   exact .inr ⟨i,_,x,hval i x hx,hx,hm,by rw [← Ra (hargs i _ x (hval i x hx) hx) hm]; exact h2⟩
 refine ⟨?_,rfl,Bl.refl _ _ _,Nat.le_refl _,fun b hb=>⟨hO b hb,fun hm=>hMO b hm hb⟩,(fun b hb=>hb.elim),?_,?_,?_,?_,?_,?_⟩
 ·rw [Kt,Nf]; simp [hlen]
 ·intro t v hv
  rw [hget]
  split
  ·rename_i x hx
   have hlt:t < vs.size:=by rw [hlen]; exact AL hx
   rw [Array.getElem?_append_left hlt] at hv
   have hr:=hargs t v x hv hx
   have hvd:v = vs.getD t undef:=by simp [hlt] at hv; simp [Array.getD,hlt,hv]
   cases x with
   | any=>trivial
   | d y=>exact AB.mono (BY.of_sub hOS) (show AB _ w v y from hr)
   | lim sz xs =>
     have hr':AB (fun b=>O b∨Gz vs args b) w v (.list sz xs)∧Ps v = xs.length:=hr
     exact ⟨hr'.1.mono (BY.of_sub hOS),hr'.2⟩
   | own sz e xs =>
     obtain ⟨_,_,_,hrr,_⟩:=hr
     exact ⟨Nat.zero_le _,fun _=>by show v = Nh _; rw [← hvd,Rb hrr]⟩
   | optr cs =>
     obtain ⟨b,A6,T,h1,h2,h3⟩:=hr
     exact ⟨Nat.zero_le _,fun _=>⟨b,by show Nh (vs.getD t undef) = _; rw [← hvd,h1]; rfl,h1⟩⟩
   | cc k l =>
     obtain ⟨rfl,vs',u,ds,sz,e,xs,⟨rfl,h2,h3,_⟩,h4⟩:=hr
     simp only [JK,V0]
     refine ⟨vs'.push u,h2,by simp [h3],fun j q y hq hy=>?_⟩
     rcases Nat.lt_or_ge j vs'.size with hj | hj
     ·rw [Array.getElem?_push_lt hj] at hq
      have hj':j < ds.length:=by rw [← h3]; exact hj
      rw [List.getElem?_append_left (by simpa using hj')] at hy
      simp at hq
      simp [hj'] at hy
      subst hy
      have:=h4.2 j q ds[j] (by simp [hj,hq]) (by simp [hj'])
      exact ⟨⟨this.1.mono (BY.of_sub hOS),this.2⟩,Rm this.1 this.2⟩
     ·have hj2:j = vs'.size:=by have:=FW hq; simp at this; omega
      subst hj2
      simp at hq
      subst hq
      rw [h3,List.getElem?_append_right (by simp)] at hy
      simp at hy
      subst hy
      refine ⟨⟨Nat.zero_le _,fun _=>by show _ = Nh _; rw [← hvd,h2,OZ]⟩,?_⟩
      have:=hargs t v _ hv hx
      obtain ⟨_,vs2,u2,_,_,_,_,⟨_,q2,_,_,_,_,q5,_⟩,_⟩:=this
      rw [h2] at q2
      simp at q2
      obtain ⟨ad,m,c,hu⟩:=Kz q5
      rw [(Array.push_eq_push.1 q2).1,hu]; rfl
   | bot | ptr _ _ _ | sl _ _ | eptr _ _ _ _ _ | tup _ | under _ _ _=>exact hr.elim
  ·trivial
 ·intro i
  rw [hget]
  split
  ·rename_i x hx
   have hr:=hargs i _ x (hval i x hx) hx
   cases x with
   | any | d _ | lim _ _ | bot | ptr _ _ _ | sl _ _ | eptr _ _ _ _ _ | tup _ | under _ _ _=>trivial
   | own sz e xs =>
     obtain ⟨h1,h2,A6,h3,h4⟩:=hr
     exact ⟨h1,h2,A6,by show Dh w e sz (Nh (vs.getD i undef)) _ _; rw [Rb h3]; exact h3,h4.mono (BY.of_sub hOS)⟩
   | cc k l =>
     obtain ⟨rfl,vs',u,ds,sz,e,xs,⟨rfl,h2,h3,h4,h5,A6,h6,h7⟩,_⟩:=hr
     simp only [JK,XF]
     exact ⟨h4,h5,A6,by show Dh w e sz (Nh (vs.getD i undef)) _ _; rw [h2,OZ]; exact h6,h7.mono (BY.of_sub hOS)⟩
   | optr cs =>
     obtain ⟨b,A6,T,h1,h2,h3⟩:=hr
     exact ⟨b,A6,T,by show Nh (vs.getD i undef) = _; rw [h1]; rfl,h2,by have:=h3.1; simpa using this,fun j v c hv hc=>(h3.mono (BY.of_sub hOS)).cells j v c (by simpa using hv) hc⟩
  ·trivial
 ·intro i b ho hb
  obtain ⟨x,hx,hm⟩:=hown i ho
  exact ⟨.inr ⟨i,_,x,hval i x hx,hx,hm,by rw [← Ra (hargs i _ x (hval i x hx) hx) hm]; exact hb⟩,fun h=>h⟩
 ·intro i j b hi hj hbi hbj
  obtain ⟨x,hx,hm⟩:=hown i hi
  obtain ⟨y,hy,hm'⟩:=hown j hj
  exact hinj i j _ _ x y b (hval i x hx) (hval j y hy) hx hy hm hm' (by rw [← Ra (hargs i _ x (hval i x hx) hx) hm]; exact hbi) (by rw [← Ra (hargs j _ y (hval j y hy) hy) hm']; exact hbj)
 ·intro t u hu
  rw [hget] at hu
  split at hu
  ·rename_i x hx
   have hr:=hargs t _ x (hval t x hx) hx
   cases x <;> simp [JK,AV.guards] at hu
   exact hr.elim
  ·simp [bS,AV.guards] at hu
 ·intro i _ _; rfl
theorem Oh {vs:Array Value} {args:List AV} (h:∀ x∈args,x.mut = false) (b:Nat):¬ Gz vs args b:=by
 rintro ⟨i,v,x,_,hx,hm,_⟩
 rw [h x (List.mem_of_getElem? hx)] at hm
 cases hm
theorem Po {J:List Nat} (hdraw:Mh P) {f:FuncId} {fn:Func} {args:List AV} {r:AV} (hf:P.funcs[f]? = some fn) (hname:(fn.name == "runtime.NumGoroutine") = false) (hr:YP P J fn args r):Al P f args r:=by
 unfold YP at hr
 split at hr
 ·rename_i c hc
  refine ⟨by simp [Fp,hf,hname,hc],fun O w vs hO hG0 hlen hargs=>?_⟩
  rw [HJ] at hr
  refine calls_of_wp hf hc ?_
  have hnm:∀ x∈args,x.mut = false:=by
   intro x hx
   obtain ⟨i,hi⟩:=List.mem_iff_getElem?.1 hx
   have hlt:i < vs.size:=by rw [hlen]; exact AL hi
   have:=hargs i vs[i] x (by simp [hlt]) hi
   cases x <;> first | rfl | exact this.elim
  have hG:Tk (fun b=>O b∨Gz vs args b) w:=fun g cs hg=>(hG0 g cs hg).mono (BY.of_sub fun b hb=>hb.resolve_right (Oh hnm b))
  have hsim:=Vq (n:=fn.ntmps) (M:=fun _=>False) hO hG hlen (fun b hm=>absurd hm (Oh hnm b)) (fun i j v v' x y b _ _ hx _ hm=>by rw [hnm x (List.mem_of_getElem? hx)] at hm; cases hm)
   (fun i v x hv hx=>by
    have h1:=(hargs i v x hv hx).mono (O':=fun b=>O b∨Gz vs args b) (BY.of_sub fun b hb=>hb.resolve_right (Oh hnm b))
    have h2:=hnm x (List.mem_of_getElem? hx)
    cases x <;> first | exact h1 | cases h2)
  refine wp_mono (F0 hdraw c hr hsim) fun e a' w' hq=>?_
  obtain ⟨β',S',hq,hs⟩:=hq
  have fin:ak P fn.results.toList [] [] S' r→a'.defers = []∧∃ v,(results fn a'.tmps).run P w' = .ok v w'∧∃ v',Ending.returned v = .returned v'∧Below w.heap.size w w'∧Dg (fun b=>w.heap.size≤b) O w' v' r:=by
   intro hq
   obtain ⟨v,T,h1,h2,_,_,_,h3,_⟩:=Ut hs (frz:=[]) trivial (fun _ h=>by cases h) hq
   refine ⟨hs.df,v,h1,v,rfl,hs.below.below (Oh hnm),h3.mono (fun b hb=>hb.1.resolve_right (Oh hnm b)) (fun b hb=>.inl hb)⟩
  cases e with
  | normal=>exact fin hq
  | ret=>exact fin hq
  | exit id=>exact hq.elim
  | goto l=>exact hq.elim
  | panic ch=>exact hq.elim
  | outgrown=>exact hq.elim
 ·exact hr.elim
theorem JO (h:AG X (fun _=>False) β S a w):∀ {outs:List AV} {k:Nat} {K:List Nat→Bx→Prop},Oc S k outs K →
 ∃ used frz,K used frz∧FZ S [] frz∧(∀ i∈used,(Ar S i).box.owned = true) ∧
   ∀ (i:Nat) y,outs[i]? = some y→y.mut = true→k + i∈used∧(Ar S (k + i)).ver = 0∧match y with
     | .own sz e ys=>(Ar S (k + i)).box = .row sz e ys
     | .optr l=>∃ cs,(Ar S (k + i)).box = .var cs∧Je S frz cs l
     | .cc _ l=>∃ (ds:List C) (sz:Nat) (e:TypeId) (ys:List D),l = ds++[.own sz e ys]∧(Ar S (k + i)).box = .row sz e ys
     | _=>False
 | [],k,K,hy=>⟨[],[],hy,trivial,(fun _ h=>by cases h),fun i y h=>by simp at h⟩
 | q :: r,k,K,hy=>by
   have skip:Oc S (k + 1) r K→q.mut = false→∃ used frz,K used frz∧FZ S [] frz∧(∀ i∈used,(Ar S i).box.owned = true) ∧
    ∀ (i:Nat) y,(q :: r)[i]? = some y→y.mut = true→k + i∈used∧(Ar S (k + i)).ver = 0∧match y with
      | .own sz e ys=>(Ar S (k + i)).box = .row sz e ys
      | .optr l=>∃ cs,(Ar S (k + i)).box = .var cs∧Je S frz cs l
      | .cc _ l=>∃ (ds:List C) (sz:Nat) (e:TypeId) (ys:List D),l = ds++[.own sz e ys]∧(Ar S (k + i)).box = .row sz e ys
      | _=>False:=by
    intro hy hm
    obtain ⟨used,frz,hK,h1,h2,h3⟩:=JO h hy
    refine ⟨used,frz,hK,h1,h2,fun i y hi hmy=>?_⟩
    cases i with
    | zero=>simp at hi; subst hi; rw [hm] at hmy; cases hmy
    | succ i=>have:=h3 i y (by simpa using hi) hmy; rw [show k + (i + 1) = k + 1 + i by omega]; exact this
   cases q with
   | own sz e ys =>
     unfold Oc at hy
     split at hy
     ·rename_i av sz' e' xs hs
      obtain ⟨⟨rfl,rfl,rfl⟩,hy⟩:=hy
      obtain ⟨used,frz,hK,h1,h2,h3⟩:=JO h hy
      refine ⟨_,frz,hK,h1,fun i hi=>?_,fun i y hi hmy=>?_⟩
      ·rcases List.mem_cons.1 hi with rfl | hi
       ·rw [hs]; rfl
       ·exact h2 i hi
      ·cases i with
       | zero=>simp at hi; subst hi; simp only [Nat.add_zero]; exact ⟨by simp,by rw [hs],by simp only [hs]⟩
       | succ i=>have:=h3 i y (by simpa using hi) hmy; rw [show k + (i + 1) = k + 1 + i by omega]; exact ⟨by simp [this.1],this.2⟩
     ·exact hy.elim
   | optr l =>
     unfold Oc at hy
     split at hy
     ·rename_i av cs hs
      obtain ⟨l',b,hy2,hFb,hfr,hcd,_⟩:=MQ h hy
      obtain ⟨el,hy3⟩:=hy2
      subst el
      obtain ⟨used,frz,hK,h1,h2,h3⟩:=JO h hy3
      refine ⟨_,_,hK,hFb.append h1,fun i hi=>?_,fun i y hi hmy=>?_⟩
      ·rcases List.mem_cons.1 hi with rfl | hi
       ·rw [hs]; rfl
       ·exact h2 i hi
      ·cases i with
       | zero=>simp at hi; subst hi; simp only [Nat.add_zero]; exact ⟨by simp,by rw [hs],cs,by rw [hs],hcd.mono fun y hy=>by simp [hy]⟩
       | succ i =>
         have:=h3 i y (by simpa using hi) hmy
         rw [show k + (i + 1) = k + 1 + i by omega]
         refine ⟨by simp [this.1],this.2.1,?_⟩
         have h4:=this.2.2
         cases y <;> first | exact h4 | (obtain ⟨cs',h5,h6⟩:=h4; exact ⟨cs',h5,h6.mono fun y hy=>by simp [hy]⟩)
     ·exact hy.elim
   | any=>exact skip hy rfl
   | bot=>exact skip hy rfl
   | d _=>exact skip hy rfl
   | lim _ _=>exact skip hy rfl
   | ptr _ _ _=>exact skip hy rfl
   | sl _ _=>exact skip hy rfl
   | eptr _ _ _ _ _=>exact skip hy rfl
   | tup _=>exact skip hy rfl
   | under _ _ _=>exact skip hy rfl
   | cc k' l =>
     unfold Oc at hy
     obtain ⟨ds,sz,e,ys,hl,hy⟩:=LC hy
     split at hy
     ·rename_i av sz' e' xs hs
      obtain ⟨⟨rfl,rfl,rfl⟩,hy⟩:=hy
      obtain ⟨used,frz,hK,h1,h2,h3⟩:=JO h hy
      refine ⟨_,frz,hK,h1,fun i hi=>?_,fun i y hi hmy=>?_⟩
      ·rcases List.mem_cons.1 hi with rfl | hi
       ·rw [hs]; rfl
       ·exact h2 i hi
      ·cases i with
       | zero=>simp at hi; subst hi; simp only [Nat.add_zero]; exact ⟨by simp,by rw [hs],ds,_,_,_,hl,by rw [hs]⟩
       | succ i=>have:=h3 i y (by simpa using hi) hmy; rw [show k + (i + 1) = k + 1 + i by omega]; exact ⟨by simp [this.1],this.2⟩
     ·exact hy.elim
theorem Pz {J:List Nat} (hdraw:Mh P) {f:FuncId} {fn:Func} {args outs:List AV} {r:AV} (hf:P.funcs[f]? = some fn) (hname:(fn.name == "runtime.NumGoroutine") = false) (hol:outs.length = args.length)
 (hfit:∀ (i:Nat) x y,args[i]? = some x→outs[i]? = some y→match y with
  | .own sz e _=>∃ xs,x = .own sz e xs
  | .optr cs=>∃ cs',x = .optr cs'∧cs.length = cs'.length
  | .cc _ l=>∃ (ds:List D) (sz:Nat) (e:TypeId) (xs ys:List D),x = .cc none (ds.map .d++[.own sz e xs])∧l = ds.map .d++[.own sz e ys]
  | _=>True) (hr:VJ P J fn args outs r):CY P f args outs r:=by
 unfold VJ at hr
 split at hr
 ·rename_i c hc
  refine ⟨by simp [Fp,hf,hname,hc],hol,fun O w vs hO hG hlen hMO hinj hargs=>?_⟩
  rw [HJ] at hr
  refine calls_of_wp hf hc ?_
  have hsim:=Vq (n:=fn.ntmps) (M:=fun _=>False) hO hG hlen hMO hinj hargs
  refine wp_mono (F0 hdraw c hr hsim) fun e a' w' hq=>?_
  obtain ⟨β',S',hq,hs⟩:=hq
  have fin:(Oc S' 0 outs fun u b=>ak P fn.results.toList u b S' r)→a'.defers = []∧∃ v,(results fn a'.tmps).run P w' = .ok v w'∧∃ v',Ending.returned v = .returned v'∧Bl w.heap.size (Gz vs args) w w' ∧
   Dg (fun b=>w.heap.size≤b∨(Gz vs args b∧¬ Gz vs outs b)) (fun b=>O b∨Gz vs outs b) w' v' r ∧
   ∀ (i:Nat) u x y,vs[i]? = some u→args[i]? = some x→outs[i]? = some y→NH (fun b=>O b∨Gz vs outs b∨D9 v' r b) w' u x y:=by
   intro hq
   obtain ⟨used,frz,hq,hF,hu,hk⟩:=JO hs hq
   obtain ⟨v,T,h1,h2,h3,h4,⟨F,hFF,hFr⟩,h5,h6⟩:=Ut hs hF hu hq
   have hβ:∀ (i:Nat) u y,vs[i]? = some u→outs[i]? = some y→y.mut = true→i∈used∧β' i = Nh u∧A2 (Nh u) = A2 u:=by
    intro i u y hi hy hm
    have:=hk i y hy hm
    simp only [Nat.zero_add] at this
    have hxi:args[i]? = some (args[i]'(by rw [← hol]; exact AL hy)):=List.getElem?_eq_getElem _
    refine ⟨this.1,?_,Ra (hargs i u _ hi hxi) (by
     have hft:=hfit i _ y hxi hy
     generalize args[i]'(by rw [← hol]; exact AL hy) = q at hft
     cases y <;> try (cases hm; done)
     ·obtain ⟨_,rfl⟩:=hft; rfl
     ·obtain ⟨_,rfl,_⟩:=hft; rfl
     ·obtain ⟨_,_,_,_,_,rfl,_⟩:=hft; rfl)⟩
    have hne:(Ar S' i).box≠.none:=by intro e; have:=hu i this.1; rw [e] at this; cases this
    have hini:=hs.ini i this.2.1 hne
    have hlt:=FW hi
    rw [hini]
    simp [hlt] at hi
    simp [Array.getD,hlt,hi]
   have hMo:∀ b,Gz vs outs b→∃ i∈used,A2 (β' i) = some b:=by
    rintro b ⟨i,u,y,hi,hy,hm,hb⟩
    obtain ⟨k1,k2⟩:=hβ i u y hi hy hm
    exact ⟨i,k1,by rw [k2.1,k2.2]; exact hb⟩
   have hMT:∀ b,Gz vs outs b→OS β' ⟨w.heap.size,Gz vs args,O,fun _=>False,w,fun i=>Nh (vs.getD i undef),TM hG⟩ T b:=by
    intro b hb
    obtain ⟨i,hi,hb⟩:=hMo b hb
    exact .inr (.inr ⟨i,by rw [h3 i hi]; exact hu i hi,hb⟩)
   refine ⟨hs.df,v,h1,v,rfl,hs.below,h5.mono (fun b hb=>?_) (fun b hb=>?_),fun i u x y hu' hx hy=>?_⟩
   ·rcases hb.1 with hb' | hb'
    ·exact .inl hb'
    ·exact .inr ⟨hb',fun hm=>by obtain ⟨i,hi,hbi⟩:=hMo b hm; exact hb.2 i hi hbi⟩
   ·rcases hb with hb | hb
    ·exact .inl hb
    ·exact hMT b hb
   ·have hsub:∀ b,(O b∨Gz vs outs b∨D9 v r b)→OS β' ⟨w.heap.size,Gz vs args,O,fun _=>False,w,fun i=>Nh (vs.getD i undef),TM hG⟩ T b:=by
     intro b hb
     rcases hb with hb | hb | hb
     ·exact .inl hb
     ·exact hMT b hb
     ·exact h6 b hb
    have hft:=hfit i x y hx hy
    cases y <;> try trivial
    ·rename_i sz e ys
     obtain ⟨k1,k2⟩:=hβ i u _ hu' hy rfl
     have hki:=(hk i _ hy rfl).2.2
     simp only [Nat.zero_add] at hki
     have hb:=h2.boxes i
     rw [h3 i k1,hki] at hb
     obtain ⟨j1,j2,A6,j3,j4⟩:=hb
     obtain ⟨xs,rfl⟩:=hft
     obtain ⟨_,_,_,hrr,_⟩:=hargs i u _ hu' hx
     rw [k2.1,Rb hrr] at j3
     exact ⟨⟨j1,j2,A6,j3,j4.mono (BY.of_sub hsub)⟩,xs,rfl⟩
    ·rename_i l
     obtain ⟨k1,k2⟩:=hβ i u _ hu' hy rfl
     obtain ⟨cs,hkb,hcd⟩:=(hk i _ hy rfl).2.2
     simp only [Nat.zero_add] at hkb
     have hb:=h2.boxes i
     rw [h3 i k1,hkb] at hb
     obtain ⟨b,A6,T',j1,j2,j3,j4⟩:=hb
     obtain ⟨cs',rfl,hcl⟩:=hft
     have hpu:Nh u = u:=by obtain ⟨_,_,_,rfl,_⟩:=hargs i u _ hu' hx; rfl
     rw [k2.1,hpu] at j1
     refine ⟨⟨b,A6,T',j1,j2,?_⟩,cs',rfl,hcl⟩
     refine (R0 hFr h2 (hcd.mono hFF) (A6:=A6.toList) (by simpa using j3) (fun j v c hv hc=>j4 j v c (by simpa using hv) hc)).mono (BY.of_sub hsub)
    ·rename_i k0 l
     obtain ⟨k1,k2⟩:=hβ i u _ hu' hy rfl
     obtain ⟨ds1,sz1,e1,ys1,hl1,hkb⟩:=(hk i _ hy rfl).2.2
     simp only [Nat.zero_add] at hkb
     have hb:=h2.boxes i
     rw [h3 i k1,hkb] at hb
     obtain ⟨j1,j2,A6,j3,j4⟩:=hb
     obtain ⟨ds,sz,e,xs,ys,rfl,rfl⟩:=hft
     obtain ⟨rfl,rfl,rfl,rfl⟩:=Zs hl1
     obtain ⟨_,vs',u',ds',sz',e',xs',⟨q1,rfl,q3,_⟩,_⟩:=hargs i u _ hu' hx
     obtain ⟨q1,rfl,rfl,rfl⟩:=Zs q1
     have q1:ds.length = ds'.length:=by simpa using congrArg List.length q1
     rw [k2.1,OZ] at j3
     exact ⟨vs',u',ds,_,_,ys,rfl,rfl,by rw [q3,q1],j1,j2,A6,j3,j4.mono (BY.of_sub hsub)⟩
  cases e with
  | normal=>exact fin hq
  | ret=>exact fin hq
  | exit id=>exact hq.elim
  | goto l=>exact hq.elim
  | panic ch=>exact hq.elim
  | outgrown=>exact hq.elim
 ·exact hr.elim
theorem XI {n k q sz:Nat} {e:TypeId} {xs:List D} {args:List AV} (hk:k < args.length) (hq:q < args.length) (hkq:q≠k) (i:Nat) :
 Ar (Ba (Ba (Et (enter 0 args (ED n)) k (.ptr k 0 0)) k (.var [.sl q 0]) 0) q (.row sz e xs) 0) i =
  if i = q then ⟨(Ar (enter 0 args (ED n)) q).av,.row sz e xs,0⟩ else if i = k then ⟨.ptr k 0 0,.var [.sl q 0],0⟩ else Ar (enter 0 args (ED n)) i:=by
 have hl:args.length≤(enter 0 args (ED n)).length:=by rw [Kt]; omega
 rw [BK,BK,BK,Cs,Cs,Cs]
 simp only [C2,GM]
 have h1:k < (enter 0 args (ED n)).length:=by omega
 have h2:q < (enter 0 args (ED n)).length:=by omega
 by_cases e1:i = q
 ·subst e1; simp [h1,h2,hkq]
 ·by_cases e2:i = k
  ·subst e2; simp [h1,h2,e1]
  ·simp [h1,h2,e1,e2]
theorem Vb {J:List Nat} (hdraw:Mh P) {f:FuncId} {fn:Func} {args:List AV} {k q sz:Nat} {e:TypeId} {xs ys:List D} (hf:P.funcs[f]? = some fn) (hname:(fn.name == "runtime.NumGoroutine") = false) (hres:fn.results = #[])
 (hk:args[k]? = some .any) (hq:q < args.length) (hkq:q≠k) (hmut:args.all (fun x=>!x.mut) = true) (hr:aJ P J fn args k q sz e xs ys):WG P f args k sz e xs ys:=by
 unfold aJ at hr
 split at hr
 ·rename_i c hc
  refine ⟨by simp [Fp,hf,hname,hc],fun O w vs b u T hO hG hlen hvk hh hbO huO hsz hxs hrow hargs=>?_⟩
  rw [HJ] at hr
  refine calls_of_wp hf hc ?_
  have hkl:k < args.length:=AL hk
  obtain ⟨rvals,hrr,hrl⟩:=hrow
  have hnm:∀ x∈args,x.mut = false:=by
   intro x hx
   have:=List.all_eq_true.1 hmut x hx
   simpa using this
  have hbw:b < w.heap.size:=by
   rcases Nat.lt_or_ge b w.heap.size with h | h
   ·exact h
   ·rw [Array.getElem?_eq_none h] at hh; cases hh
  let β:Nat→Value:=fun i=>if i = q then u else vs.getD i undef
  have hβq:β q = u:=if_pos rfl
  have hβ:∀ i,i≠q→β i = vs.getD i undef:=fun i hi=>if_neg hi
  have hkv:vs.getD k undef = .pointer (some ⟨b,0,none⟩):=by
   have:=FW hvk
   simp [this] at hvk
   simp [Array.getD,this,hvk]
  have hβk:β k = .pointer (some ⟨b,0,none⟩):=by rw [hβ k (fun h=>hkq h.symm)]; exact hkv
  have hget0:∀ i,Ar (enter 0 args (ED fn.ntmps)) i = match args[i]? with | some x=>JK i x | none=>bS:=by
   intro i
   rw [Qp]
   simp only [Nat.zero_add,Qo]
  have hbx0:∀ i,(Ar (enter 0 args (ED fn.ntmps)) i).box = .none∧(Ar (enter 0 args (ED fn.ntmps)) i).ver = 0:=by
   intro i
   rw [hget0]
   split
   ·rename_i x hx
    have:=hnm x (List.mem_of_getElem? hx)
    cases x <;> first | exact ⟨rfl,rfl⟩ | cases this
   ·exact ⟨rfl,rfl⟩
  have hget:=XI (n:=fn.ntmps) (sz:=sz) (e:=e) (xs:=xs) hkl hq hkq
  have hown:∀ i,(Ar (Ba (Ba (Et (enter 0 args (ED fn.ntmps)) k (.ptr k 0 0)) k (.var [.sl q 0]) 0) q (.row sz e xs) 0) i).box.owned = true→i = q∨i = k:=by
   intro i hi
   rw [hget] at hi
   by_cases e1:i = q
   ·exact .inl e1
   ·by_cases e2:i = k
    ·exact .inr e2
    ·rw [if_neg e1,if_neg e2,(hbx0 i).1] at hi; cases hi
  have hver:∀ i,(Ar (Ba (Ba (Et (enter 0 args (ED fn.ntmps)) k (.ptr k 0 0)) k (.var [.sl q 0]) 0) q (.row sz e xs) 0) i).ver = 0:=by
   intro i
   rw [hget]
   split
   ·rfl
   ·split
    ·rfl
    ·exact (hbx0 i).2
  let Xc:Cx:=⟨w.heap.size,fun c=>c = b∨A2 u = some c,O,fun _=>False,w,β,TM (M:=fun c=>c = b∨A2 u = some c) hG⟩
  have hOS:∀ c',OS β Xc (Ba (Ba (Et (enter 0 args (ED fn.ntmps)) k (.ptr k 0 0)) k (.var [.sl q 0]) 0) q (.row sz e xs) 0) c'→O c'∨c' = b∨A2 u = some c':=by
   intro c' hc'
   rcases hc' with hc' | hc' | ⟨i,h1,h2⟩
   ·exact .inl hc'
   ·exact hc'.elim
   ·rcases hown i h1 with rfl | rfl
    ·rw [hβq] at h2; exact .inr (.inr h2)
    ·rw [hβk] at h2; simp [A2] at h2; exact .inr (.inl h2.symm)
  have hsim:AG Xc (fun _=>False) β (Ba (Ba (Et (enter 0 args (ED fn.ntmps)) k (.ptr k 0 0)) k (.var [.sl q 0]) 0) q (.row sz e xs) 0) { tmps:=vs++Array.replicate (fn.ntmps - vs.size) undef,defers:=[] } w:=by
   refine ⟨?_,rfl,Bl.refl _ _ _,Nat.le_refl _,fun c' hc'=>⟨hO c' hc',fun hm=>?_⟩,(fun b hb=>hb.elim),?_,?_,?_,?_,?_,?_⟩
   ·rw [C2,C2,GM,Kt,Nf]; simp [hlen]
   ·rcases hm with rfl | hm
    ·exact hbO hc'
    ·exact (huO c' hm).1 hc'
   ·intro t v hv
    rw [hget]
    have base:t≠k→IV β (Bb (Ba (Ba (Et (enter 0 args (ED fn.ntmps)) k (.ptr k 0 0)) k (.var [.sl q 0]) 0) q (.row sz e xs) 0)) (OS β Xc (Ba (Ba (Et (enter 0 args (ED fn.ntmps)) k (.ptr k 0 0)) k (.var [.sl q 0]) 0) q (.row sz e xs) 0)) w (vs++Array.replicate (fn.ntmps - vs.size) undef) v (Ar (enter 0 args (ED fn.ntmps)) t).av:=by
     intro _
     rw [hget0]
     split
     ·rename_i x hx
      have hlt:t < vs.size:=by rw [hlen]; exact AL hx
      rw [Array.getElem?_append_left hlt] at hv
      have hr:=hargs t v x hv hx
      cases x with
      | any=>trivial
      | d y=>exact AB.mono (BY.of_sub hOS) (show AB _ w v y from hr)
      | lim sz xs =>
        have hr':AB (fun c=>O c∨c = b∨A2 u = some c) w v (.list sz xs)∧Ps v = xs.length:=hr
        exact ⟨hr'.1.mono (BY.of_sub hOS),hr'.2⟩
      | bot | ptr _ _ _ | sl _ _ | eptr _ _ _ _ _ | tup _ | under _ _ _ | cc _ _ | own _ _ _ | optr _=>exact hr.elim
     ·trivial
    by_cases e1:t = q
    ·subst e1
     rw [if_pos rfl]
     exact base hkq
    ·rw [if_neg e1]
     by_cases e2:t = k
     ·rw [if_pos e2]
      subst e2
      have hlt:t < vs.size:=by rw [hlen]; exact hkl
      rw [Array.getElem?_append_left hlt,hvk] at hv
      cases hv
      exact ⟨Nat.zero_le _,fun _=>⟨b,hβk,rfl⟩⟩
     ·rw [if_neg e2]
      exact base e2
   ·intro i
    rw [hget]
    by_cases e1:i = q
    ·rw [if_pos e1,e1]
     exact ⟨hsz,hxs,rvals,by rw [hβq]; exact hrr,hrl.mono (BY.of_sub hOS)⟩
    ·rw [if_neg e1]
     by_cases e2:i = k
     ·rw [if_pos e2,e2]
      refine ⟨b,#[u],T,hβk,hh,rfl,fun j v c hv hc=>?_⟩
      cases j with
      | zero=>simp at hv hc; subst hv; subst hc; exact ⟨Nat.zero_le _,fun _=>hβq.symm⟩
      | succ j=>simp at hc
     ·rw [if_neg e2,(hbx0 i).1]
      trivial
   ·intro i c' ho hb
    refine ⟨.inr ?_,fun h=>h⟩
    rcases hown i ho with rfl | rfl
    ·rw [hβq] at hb; exact .inr hb
    ·rw [hβk] at hb; simp [A2] at hb; exact .inl hb.symm
   ·intro i j c' hi hj hbi hbj
    rcases hown i hi with rfl | rfl <;> rcases hown j hj with rfl | rfl
    ·rfl
    ·rw [hβq] at hbi; rw [hβk] at hbj; simp [A2] at hbj; exact ((huO c' hbi).2 hbj.symm).elim
    ·rw [hβq] at hbj; rw [hβk] at hbi; simp [A2] at hbi; exact ((huO c' hbj).2 hbi.symm).elim
    ·rfl
   ·intro t g hg
    rw [hget] at hg
    have h0:∀ i,(Ar (enter 0 args (ED fn.ntmps)) i).av.guards = []:=by
     intro i
     rw [hget0]
     split
     ·rename_i x hx
      have hlt:i < vs.size:=by rw [hlen]; exact AL hx
      have hr:=hargs i vs[i] x (by simp [hlt]) hx
      cases x <;> first | rfl | exact hr.elim
     ·rfl
    by_cases e1:t = q
    ·rw [if_pos e1] at hg; rw [h0] at hg; cases hg
    ·rw [if_neg e1] at hg
     by_cases e2:t = k
     ·rw [if_pos e2] at hg; cases hg
     ·rw [if_neg e2,h0] at hg; cases hg
   ·intro i _ _; rfl
  refine wp_mono (F0 hdraw c hr hsim) fun e' a' w' hq'=>?_
  obtain ⟨β',S',hq',hs⟩:=hq'
  have fin:d7 S' k q sz e ys→a'.defers = []∧∃ v,(results fn a'.tmps).run P w' = .ok v w'∧∃ v' u' T',Ending.returned v = .returned v'∧Bl w.heap.size (fun c=>c = b∨A2 u = some c) w w' ∧
   w'.heap[b]? = some (.cells #[u'] T' (0,0))∧(∀ c,A2 u' = some c→A2 u = some c∨w.heap.size≤c)∧(∀ x∈ys,x.cells.length = sz) ∧
   ∃ A6,Dh w' e sz u' ys.length A6∧Bo (fun c=>O c∨c = b∨A2 u' = some c) w' A6 (ys.flatMap D.cells):=by
   intro hq'
   unfold d7 at hq'
   split at hq' <;> try exact hq'.elim
   rename_i av1 q' n hk1
   split at hq' <;> try exact hq'.elim
   rename_i av2 sz' e2 xs' m hk2
   obtain ⟨rfl,rfl,rfl,rfl,rfl⟩:=hq'
   have hb1:=hs.boxes k
   rw [hk1] at hb1
   obtain ⟨b1,A6,T1,j1,j2,j3,j4⟩:=hb1
   have hini:=hs.ini k (by rw [hk1]) (by rw [hk1]; simp)
   have hini':β' k = β k:=hini
   rw [hini',hβk] at j1
   simp only [Value.pointer.injEq,Option.some.injEq,Addr.mk.injEq] at j1
   obtain ⟨rfl,_⟩:=j1
   obtain ⟨u',rfl⟩:∃ u',A6 = #[u']:=by
    have:A6.size = 1:=j3
    exact ⟨A6[0],by apply Array.ext; simp [this]; intro i h1 h2; simp at h2; subst h2; rfl⟩
   have hcu:=j4 0 u' (.sl q' n) rfl rfl
   have hu':u' = β' q':=hcu.2 (by simp only [Bb,hk2])
   have hb2:=hs.boxes q'
   rw [hk2] at hb2
   obtain ⟨l1,l2,vals2,l3,l4⟩:=hb2
   have o1:(Ar S' k).box.owned = true:=by rw [hk1]; rfl
   have o2:(Ar S' q').box.owned = true:=by rw [hk2]; rfl
   have hbk:A2 (β' k) = some b:=by rw [hini',hβk]; rfl
   refine ⟨hs.df,.tuple #[],?_,.tuple #[],u',T1,rfl,hs.below,j2,fun c' hc'=>?_,l2,vals2,by rw [hu']; exact l3,l4.mono (BY.of_sub fun c' hc'=>?_)⟩
   ·have:=O5 (P:=P) (w:=w') (a:=a') (fn:=fn) (vs:=[]) (by rw [hres]; rfl)
    simpa using this
   ·rw [hu'] at hc'
    have:=(hs.mine q' c' o2 hc').1
    rcases this with h1 | h1
    ·exact .inr h1
    ·rcases h1 with h1 | h1
     ·subst h1
      exact (hkq (hs.inj q' k c' o2 o1 hc' hbk)).elim
     ·exact .inl h1
   ·rcases hc' with hc' | rfl | hc'
    ·exact .inl hc'
    ·exact .inr (.inr ⟨k,o1,hbk⟩)
    ·exact .inr (.inr ⟨q',o2,by rw [← hu']; exact hc'⟩)
  cases e' with
  | normal=>exact fin hq'
  | ret=>exact fin hq'
  | exit id=>exact hq'.elim
  | goto l=>exact hq'.elim
  | panic ch=>exact hq'.elim
  | outgrown=>exact hq'.elim
 ·exact hr.elim
end
end Go.Abs
set_option linter.unusedVariables false
set_option linter.unusedSimpArgs false
namespace Go.Abs
def Dn {α:Type} (F:(α→Prop)→Prop):Prop:=(∀ K K':α→Prop,(∀ x,K x→K' x)→F K→F K')∧∀ K,F K→∃ x,F (fun y=>y = x)∧K x
def Fo {α γ:Type} (F:(α→γ→Prop)→Prop):Prop:=(∀ K K':α→γ→Prop,(∀ x y,K x y→K' x y)→F K→F K')∧∀ K,F K→∃ x y,F (fun x' y'=>x' = x∧y' = y)∧K x y
section
variable {α γ δ:Type}
theorem Ao (x:α):Dn fun K:α→Prop=>K x:=⟨fun _ _ h hk=>h _ hk,fun _ hk=>⟨x,rfl,hk⟩⟩
theorem Am:Dn fun _:α→Prop=>False:=⟨fun _ _ _ h=>h,fun _ h=>h.elim⟩
theorem Bt (x:α) (y:γ):Fo fun K:α→γ→Prop=>K x y:=⟨fun _ _ h hk=>h _ _ hk,fun _ hk=>⟨x,y,⟨rfl,rfl⟩,hk⟩⟩
theorem D2:Fo fun _:α→γ→Prop=>False:=⟨fun _ _ _ h=>h,fun _ h=>h.elim⟩
theorem A8 {F:(α→Prop)→Prop} {Gf:α→(γ→Prop)→Prop} (hF:Dn F) (hG:∀ x,Dn (Gf x)):Dn fun K:γ→Prop=>F fun x=>Gf x K:=by
 refine ⟨fun K K' h hk=>hF.1 _ _ (fun x hx=>(hG x).1 _ _ h hx) hk,fun K hk=>?_⟩
 obtain ⟨x,h1,h2⟩:=hF.2 _ hk
 obtain ⟨y,h3,h4⟩:=(hG x).2 _ h2
 exact ⟨y,hF.1 _ _ (fun z hz=>by subst hz; exact h3) h1,h4⟩
theorem Ca {F:(α→γ→Prop)→Prop} {Gf:α→γ→(δ→Prop)→Prop} (hF:Fo F) (hG:∀ x y,Dn (Gf x y)):Dn fun K:δ→Prop=>F fun x y=>Gf x y K:=by
 refine ⟨fun K K' h hk=>hF.1 _ _ (fun x y hx=>(hG x y).1 _ _ h hx) hk,fun K hk=>?_⟩
 obtain ⟨x,y,h1,h2⟩:=hF.2 _ hk
 obtain ⟨z,h3,h4⟩:=(hG x y).2 _ h2
 exact ⟨z,hF.1 _ _ (fun u v huv=>by obtain ⟨rfl,rfl⟩:=huv; exact h3) h1,h4⟩
theorem BB {ε:Type} {F:(α→γ→Prop)→Prop} {Gf:α→γ→(δ→ε→Prop)→Prop} (hF:Fo F) (hG:∀ x y,Fo (Gf x y)):Fo fun K:δ→ε→Prop=>F fun x y=>Gf x y K:=by
 refine ⟨fun K K' h hk=>hF.1 _ _ (fun x y hx=>(hG x y).1 _ _ h hx) hk,fun K hk=>?_⟩
 obtain ⟨x,y,h1,h2⟩:=hF.2 _ hk
 obtain ⟨z,z',h3,h4⟩:=(hG x y).2 _ h2
 exact ⟨z,z',hF.1 _ _ (fun u v huv=>by obtain ⟨rfl,rfl⟩:=huv; exact h3) h1,h4⟩
theorem Cy {F:(α→Prop)→Prop} (p:Prop) (hF:Dn F):Dn fun K:α→Prop=>Jg p (F K):=by
 refine ⟨fun K K' h hk=>⟨hk.1,hF.1 _ _ h hk.2⟩,fun K hk=>?_⟩
 obtain ⟨x,h1,h2⟩:=hF.2 _ hk.2
 exact ⟨x,⟨hk.1,h1⟩,h2⟩
theorem Bp {F:(α→Prop)→Prop} (c:Prop) [Decidable c] (hF:Dn F):Dn fun K:α→Prop=>if c then F K else False:=by
 by_cases h:c
 ·simp only [h,if_true]; exact hF
 ·simp only [h,if_false]; exact Am
theorem OR (xs:List D) (i:Int):Dn fun K:D→Prop=>At xs i K :=
 ⟨fun _ _ h hk=>by obtain ⟨h0,x,h1,h2⟩:=hk.go; exact ⟨⟨h0,x,h1,h _ h2⟩⟩,fun _ hk=>by obtain ⟨h0,x,h1,h2⟩:=hk.go; exact ⟨x,⟨⟨h0,x,h1,rfl⟩⟩,h2⟩⟩
theorem L6 {F F':(α→Prop)→Prop} (hF:Dn F) (hF':Dn F'):Dn fun K:α→Prop=>Rx (F K) (F' K):=by
 refine ⟨fun K K' h hk=>⟨hk.go.imp (hF.1 _ _ h) (hF'.1 _ _ h)⟩,fun K hk=>?_⟩
 rcases hk.go with hk | hk
 ·obtain ⟨x,h1,h2⟩:=hF.2 _ hk; exact ⟨x,⟨.inl h1⟩,h2⟩
 ·obtain ⟨x,h1,h2⟩:=hF'.2 _ hk; exact ⟨x,⟨.inr h1⟩,h2⟩
theorem Ys {F:List (Nat × Nat)→(α→Prop)→Prop} (hF:∀ hs,Dn (F hs)):Dn fun K:α→Prop=>cW fun hs=>F hs K:=by
 refine ⟨fun K K' h hk=>?_,fun K hk=>?_⟩
 ·obtain ⟨hs,hk⟩:=hk.go; exact ⟨⟨hs,(hF hs).1 _ _ h hk⟩⟩
 ·obtain ⟨hs,hk⟩:=hk.go
  obtain ⟨x,h1,h2⟩:=(hF hs).2 _ hk
  exact ⟨x,⟨⟨hs,h1⟩⟩,h2⟩
theorem ZT {P:Program} {f:FuncId} {nils:List Nat} {vs ms:List AV} {F:AV→(α→Prop)→Prop} {F':List AV→AV→(α→Prop)→Prop} (hF:∀ r,Dn (F r)) (hF':∀ o r,Dn (F' o r)) :
 Dn fun K:α→Prop=>Iq P f nils vs (fun r=>F r K) ms (fun o r=>F' o r K):=by
 refine ⟨fun K K' h hk=>?_,fun K hk=>?_⟩
 ·rcases hk.go with ⟨r,h1,h2⟩ | ⟨o,r,h1,h2⟩
  ·exact ⟨.inl ⟨r,h1,(hF r).1 _ _ h h2⟩⟩
  ·exact ⟨.inr ⟨o,r,h1,(hF' o r).1 _ _ h h2⟩⟩
 ·rcases hk.go with ⟨r,h1,h2⟩ | ⟨o,r,h1,h2⟩
  ·obtain ⟨x,h3,h4⟩:=(hF r).2 _ h2; exact ⟨x,⟨.inl ⟨r,h1,h3⟩⟩,h4⟩
  ·obtain ⟨x,h3,h4⟩:=(hF' o r).2 _ h2; exact ⟨x,⟨.inr ⟨o,r,h1,h3⟩⟩,h4⟩
theorem HL {F:(α→Prop)→Prop} {Gf:α→(γ→δ→Prop)→Prop} (hF:Dn F) (hG:∀ x,Fo (Gf x)):Fo fun K:γ→δ→Prop=>F fun x=>Gf x K:=by
 refine ⟨fun K K' h hk=>hF.1 _ _ (fun x hx=>(hG x).1 _ _ h hx) hk,fun K hk=>?_⟩
 obtain ⟨x,h1,h2⟩:=hF.2 _ hk
 obtain ⟨y,z,h3,h4⟩:=(hG x).2 _ h2
 exact ⟨y,z,hF.1 _ _ (fun u hu=>by subst hu; exact h3) h1,h4⟩
theorem R7 {F:(α→γ→Prop)→Prop} (c:Prop) [Decidable c] (hF:Fo F):Fo fun K:α→γ→Prop=>if c then F K else False:=by
 by_cases h:c
 ·simp only [h,if_true]; exact hF
 ·simp only [h,if_false]; exact D2
def K5 {α γ δ:Type} (F:(α→γ→δ→Prop)→Prop):Prop:=(∀ K K':α→γ→δ→Prop,(∀ x y z,K x y z→K' x y z)→F K→F K')∧∀ K,F K→∃ x y z,F (fun x' y' z'=>x' = x∧y' = y∧z' = z)∧K x y z
theorem ET (x:α) (y:γ) (z:δ):K5 fun K:α→γ→δ→Prop=>K x y z:=⟨fun _ _ h hk=>h _ _ _ hk,fun _ hk=>⟨x,y,z,⟨rfl,rfl,rfl⟩,hk⟩⟩
theorem G9:K5 fun _:α→γ→δ→Prop=>False:=⟨fun _ _ _ h=>h,fun _ h=>h.elim⟩
theorem TN {ε:Type} {F:(α→γ→δ→Prop)→Prop} {Gf:α→γ→δ→(ε→Prop)→Prop} (hF:K5 F) (hG:∀ x y z,Dn (Gf x y z)):Dn fun K:ε→Prop=>F fun x y z=>Gf x y z K:=by
 refine ⟨fun K K' h hk=>hF.1 _ _ (fun x y z hx=>(hG x y z).1 _ _ h hx) hk,fun K hk=>?_⟩
 obtain ⟨x,y,z,h1,h2⟩:=hF.2 _ hk
 obtain ⟨u,h3,h4⟩:=(hG x y z).2 _ h2
 exact ⟨u,hF.1 _ _ (fun a b c h=>by obtain ⟨rfl,rfl,rfl⟩:=h; exact h3) h1,h4⟩
theorem JL {ε ζ η:Type} {F:(α→γ→δ→Prop)→Prop} {Gf:α→γ→δ→(ε→ζ→η→Prop)→Prop} (hF:K5 F) (hG:∀ x y z,K5 (Gf x y z)):K5 fun K:ε→ζ→η→Prop=>F fun x y z=>Gf x y z K:=by
 refine ⟨fun K K' h hk=>hF.1 _ _ (fun x y z hx=>(hG x y z).1 _ _ h hx) hk,fun K hk=>?_⟩
 obtain ⟨x,y,z,h1,h2⟩:=hF.2 _ hk
 obtain ⟨u,v,t,h3,h4⟩:=(hG x y z).2 _ h2
 exact ⟨u,v,t,hF.1 _ _ (fun a b c h=>by obtain ⟨rfl,rfl,rfl⟩:=h; exact h3) h1,h4⟩
theorem S2 {ε ζ η:Type} {F:(α→γ→Prop)→Prop} {Gf:α→γ→(ε→ζ→η→Prop)→Prop} (hF:Fo F) (hG:∀ x y,K5 (Gf x y)):K5 fun K:ε→ζ→η→Prop=>F fun x y=>Gf x y K:=by
 refine ⟨fun K K' h hk=>hF.1 _ _ (fun x y hx=>(hG x y).1 _ _ h hx) hk,fun K hk=>?_⟩
 obtain ⟨x,y,h1,h2⟩:=hF.2 _ hk
 obtain ⟨u,v,t,h3,h4⟩:=(hG x y).2 _ h2
 exact ⟨u,v,t,hF.1 _ _ (fun a b h=>by obtain ⟨rfl,rfl⟩:=h; exact h3) h1,h4⟩
theorem Qb {ε ζ η:Type} {F:(α→Prop)→Prop} {Gf:α→(ε→ζ→η→Prop)→Prop} (hF:Dn F) (hG:∀ x,K5 (Gf x)):K5 fun K:ε→ζ→η→Prop=>F fun x=>Gf x K:=by
 refine ⟨fun K K' h hk=>hF.1 _ _ (fun x hx=>(hG x).1 _ _ h hx) hk,fun K hk=>?_⟩
 obtain ⟨x,h1,h2⟩:=hF.2 _ hk
 obtain ⟨u,v,t,h3,h4⟩:=(hG x).2 _ h2
 exact ⟨u,v,t,hF.1 _ _ (fun a h=>by subst h; exact h3) h1,h4⟩
theorem BV {β:Type} (l:List β):Dn fun K:List β→Prop=>Cr l K:=by simp only [BG]; exact Ao l
end
theorem KN:∀ l:List D,Dn fun K=>Nz l K
 | []=>Ao _
 | x :: r=>by
   unfold Nz
   refine A8 (KN r) fun r=>?_
   split <;> exact Ao _
theorem Na (x:D):Dn fun K=>P0 x K:=by
 cases x <;> simp only [P0] <;> first | exact Ao _ | exact A8 (KN _) fun l=>Ao _
theorem Mv (r:RV):Fo fun K=>Vh r K:=by cases r <;> simp only [Vh] <;> first | exact Bt _ _ | exact D2
theorem Xp (r:RV):Fo fun K=>da r K:=by
 unfold da
 exact BB (Mv r) fun x b=>HL (Na x) fun y=>Bt _ _
theorem HW (σ:Nat→Nat→RV):∀ l,Fo fun K=>Dx σ l K
 | []=>Bt _ _
 | .d x :: r=>by
   show Fo fun K=>Dx σ r fun l b=>K (x :: l) b
   exact BB (HW σ r) fun l b=>Bt _ _
 | .sl id n :: r=>by
   show Fo fun K=>Vh (σ id n) fun x b=>Dx σ r fun l b'=>K (x :: l) (b++b')
   exact BB (Mv _) fun x b=>BB (HW σ r) fun l b=>Bt _ _
 | .own _ _ _ :: _=>D2
theorem JM:∀ l:List D,Dn fun K=>XL l K
 | []=>Ao _
 | x :: r=>by
   show Dn fun K=>XL r fun r=>K (.d x :: r)
   exact A8 (JM r) fun r=>Ao _
theorem TO:∀ l:List D,Dn fun K=>Tw l K
 | []=>Ao _
 | x :: r=>by
   show Dn fun K=>Tw r fun r=>K (.d x :: r)
   exact A8 (TO r) fun r=>Ao _
theorem MY (σ:Nat→Nat→RV) (r:RV):Fo fun K=>Nt σ r K:=by
 cases r <;> simp only [Nt] <;> first | exact Bt _ _ | exact D2 | skip
 ·exact HL (Na _) fun x=>Bt _ _
 ·exact BB (HW σ _) fun l b=>HL (KN _) fun l=>HL (BV _) fun l'=>Bt _ _
 ·exact HL (OR _ _) fun x=>HL (BV _) fun l=>Bt _ _
theorem TR (P:Program) (t:TypeId):Dn fun K=>V2 P t K:=by
 unfold V2
 split
 ·exact Ao _
 ·exact Am
theorem L5 (P:Program) (σ:Nat→Nat→RV) (ρ:Operand→RV):∀ l ts,Fo fun K=>G1 P σ ρ l ts K
 | [],_=>Bt _ _
 | x :: r,ts=>by
   unfold G1
   split
   ·split
    ·exact HL (TR _ _) fun v=>BB (L5 P σ ρ r _) fun vs bs=>Bt _ _
    ·exact D2
   ·exact BB (MY _ _) fun v b=>BB (L5 P σ ρ r _) fun vs bs=>Bt _ _
theorem Vw (σ:Nat→Nat→RV):∀ l,K5 fun K=>Qt σ l K
 | []=>G9
 | .d x :: r=>by
   show K5 fun K=>P0 x fun x=>Qt σ r fun l id n=>K (.d x :: l) id n
   exact Qb (Na _) fun x=>JL (Vw σ r) fun l id n=>ET _ _ _
 | .sl id n :: r=>by
   simp only [Qt]
   split
   ·split
    ·exact ET _ _ _
    ·exact G9
   ·exact G9
 | .own _ _ _ :: _=>G9
theorem Qd:∀ l,K5 fun K=>S7 l K
 | []=>G9
 | .d _ :: r=>Qd r
 | .sl _ _ :: r=>Qd r
 | .own sz e xs :: r=>by
   simp only [S7]
   split
   ·exact ET _ _ _
   ·exact G9
theorem Xr (σ:Nat→Nat→RV) (r:RV):K5 fun K=>Qe σ r K:=by
 unfold Qe
 split
 ·exact ET _ _ _
 ·exact S2 (HW σ _) fun l b=>Qb (KN _) fun l=>ET _ _ _
 ·exact JL (Vw σ _) fun l id n=>ET _ _ _
 ·exact S2 (MY σ _) fun v b=>ET _ _ _
theorem MZ (P:Program) (σ:Nat→Nat→RV) (ρ:Operand→RV):∀ l ts,K5 fun K=>FP P σ ρ l ts K
 | [],_=>ET _ _ _
 | x :: r,ts=>by
   unfold FP
   split
   ·split
    ·exact Qb (TR _ _) fun v=>JL (MZ P σ ρ r _) fun vs bs us=>ET _ _ _
    ·exact G9
   ·exact JL (Xr _ _) fun v b u=>JL (MZ P σ ρ r _) fun vs bs us=>ET _ _ _
theorem NZ (ρ:Operand→RV):∀ l,Fo fun K=>JS ρ l K
 | []=>Bt _ _
 | (i,x) :: r=>by
   show Fo fun K=>Vh (ρ x) fun v b=>JS ρ r fun vs bs=>K ((i,v) :: vs) (b++bs)
   exact BB (Mv (ρ x)) fun v b=>BB (NZ ρ r) fun vs bs=>Bt _ _
theorem S5 (ρ:Operand→RV):∀ l,Fo fun K=>KW ρ l K
 | []=>Bt _ _
 | (i,x) :: r=>by
   show Fo fun K=>da (ρ x) fun v b=>KW ρ r fun vs bs=>K ((i,v) :: vs) (b++bs)
   exact BB (Xp (ρ x)) fun v b=>BB (S5 ρ r) fun vs bs=>Bt _ _
theorem NX (σ:Nat→Nat→RV) (ρ:Operand→RV):∀ l,Fo fun K=>HG σ ρ l K
 | []=>Bt _ _
 | x :: r=>by
   unfold HG
   refine BB (MY σ (ρ x)) fun v b=>?_
   split
   ·exact R7 _ (BB (NX σ ρ r) fun l bs=>Bt _ _)
   ·exact D2
theorem NW (σ:Nat→Nat→RV) (ρ:Operand→RV):∀ l,Fo fun K=>HE σ ρ l K
 | []=>Bt _ _
 | x :: r=>by
   unfold HE
   split
   ·exact BB (NW σ ρ r) fun l bs=>Bt _ _
   ·refine BB (MY σ (ρ x)) fun v b=>?_
    split
    ·exact R7 _ (BB (NW σ ρ r) fun l bs=>Bt _ _)
    ·exact D2
theorem Wk (r:RV):Dn fun K=>cellsOf r K:=by
 cases r <;> simp only [cellsOf] <;> first | exact Ao _ | exact Am | exact JM _
theorem S4 (ρ:Operand→RV):∀ l,Dn fun K=>KU ρ l K
 | []=>Ao _
 | (i,x) :: r=>by
   unfold KU
   exact A8 (Wk _) fun c=>A8 (S4 ρ r) fun ps=>Ao _
theorem Yv (P:Program) (f:FuncId) (args:List AV) (k sz:Nat) (e:TypeId) (xs:List D):Dn fun K=>YQ P f args k sz e xs K :=
 ⟨fun _ _ h hk=>by obtain ⟨ys,h1,h2⟩:=hk.go; exact ⟨⟨ys,h1,h _ h2⟩⟩,fun _ hk=>by obtain ⟨ys,h1,h2⟩:=hk.go; exact ⟨ys,⟨⟨ys,h1,rfl⟩⟩,h2⟩⟩
theorem bp {α:Type} {F:(α→Prop)→Prop} (c:Prop) [Decidable c] (hF:Dn F):Dn fun K:α→Prop=>if c then False else F K:=by
 by_cases h:c
 ·simp only [h,if_true]; exact Am
 ·simp only [h,if_false]; exact hF
theorem S3 (r:RV):Fo fun K=>LR r K:=by
 unfold LR
 split <;> first | exact Bt _ _ | exact D2
theorem TQ (P:Program) (t:TypeId) (cs:List D):Dn fun K=>Zh P t cs K:=by
 unfold Zh
 split
 ·split
  ·exact A8 (BV _) fun l=>Bp _ (Ao _)
  ·exact Am
 ·split
  ·exact Ao _
  ·exact Am
 ·exact Am
theorem bo (P:Program) (σ:Nat→Nat→RV) (t:TypeId) (cs:List C):Dn fun K=>bY P σ t cs K:=by
 unfold bY
 split
 ·split
  ·refine A8 (BV _) fun l=>Bp _ ?_
   split
   ·exact Ca (HW σ _) fun l b=>Ao _
   ·exact L6 (Ca (HW σ _) fun l b=>Ao _) (Bp _ (Ao _))
  ·exact Am
 ·split <;> first | exact Ao _ | exact Am
 ·exact Am
theorem Yr (op:BinOp) (k:IntKind) (a b:Int):Dn fun K=>So op k a b K:=by
 cases op <;> simp only [So] <;> first | exact Ao _ | exact Am | exact Cy _ (Ao _)
theorem S6 (op:BinOp) (k:IntKind) (a b:Int):Dn fun K=>Sb op k a b K:=by
 cases op <;> simp only [Sb] <;> first | exact Cy _ (Ao _) | exact Am
theorem ZU (op:BinOp) (a b:ByteArray):Dn fun K=>YH op a b K:=by
 cases op <;> simp only [YH] <;> first | exact Ao _ | exact Am | exact Cy _ (Ao _)
theorem TP (P:Program):∀ (n:Nat) (t:TypeId) (xs ys:List D),Dn fun K=>Xi P n t xs ys K
 | 0,_,_,_=>Am
 | n + 1,t,xs,ys=>by
   unfold Xi
   split
   ·split
    ·exact Bp _ (Ao _)
    ·exact Am
   ·split
    ·exact Ao _
    ·exact Am
   ·split
    ·exact Ao _
    ·exact Am
   ·rename_i fs _
    refine Cy _ ?_
    generalize fs.toList = l
    induction l with
    | nil=>exact Ao _
    | cons f r ih=>exact A8 (TP P n f.type _ _) fun a=>A8 ih fun b=>Ao _
   ·exact Am
theorem ZS (P:Program) (t:TypeId) (op:BinOp) (x y:D):Dn fun K=>WM P t op x y K:=by
 unfold WM
 split
 ·split
  ·exact S6 _ _ _ _
  ·exact S6 _ _ _ _
  ·exact Bp _ (Yr _ _ _ _)
 ·exact ZU _ _ _
 ·split
  ·split <;> first | exact Ao _ | exact Am
  ·exact Am
 ·refine Cy _ ?_
  split
  ·exact A8 (TP _ _ _ _ _) fun b=>Ao _
  ·exact A8 (TP _ _ _ _ _) fun b=>Ao _
  ·exact Am
 ·exact Am
theorem bq (op:UnOp) (x:D):Dn fun K=>dL op x K:=by
 cases op <;> cases x <;> simp only [dL] <;> first | exact Ao _ | exact Am
theorem Yt (r:AV) (b:Bx):Dn fun K=>X4 r b K:=by
 unfold X4
 split
 ·exact Ao _
 ·split <;> exact Ao _
theorem Qc:∀ (l:List C) (hs:List (Nat × Nat)),Fo fun K=>Pu l hs K
 | [],[]=>Bt _ _
 | .d x :: r,hs=>by
   unfold Pu
   exact BB (Qc r hs) fun l b=>Bt _ _
 | .own sz e xs :: r,(h,n) :: hs=>by
   unfold Pu
   exact BB (Qc r hs) fun l b=>R7 _ (Bt _ _)
 | [],_ :: _=>D2
 | .own _ _ _ :: _,[]=>D2
 | .sl _ _ :: _,hs=>by unfold Pu; exact D2
theorem Xq (d n:Nat) (r:AV) (b:Bx):Dn fun K=>aB d n r b K:=by
 unfold aB
 split
 ·exact Bp _ (Ao _)
 ·exact Bp _ (A8 (JM _) fun l=>Ao _)
 ·split
  ·exact Ao _
  ·exact Ys fun hs=>Ca (Qc _ _) fun l hb=>Bp _ (Ao _)
 all_goals first | exact Ao _ | exact Am
theorem KO:∀ (us:List (Option (Nat × Nat))) (os:List AV),Dn fun K=>Kl us os K
 | [],[]=>Ao _
 | none :: us,o :: os=>by
   unfold Kl
   exact KO us os
 | some (id,n) :: us,o :: os=>by
   cases o <;> simp only [Kl] <;> first | exact Am | exact A8 (KO us os) (fun b=>Bp _ (Ao _)) | exact A8 (JM _) fun l=>A8 (KO us os) (fun b=>Bp _ (Ao _)) | exact TN (Qd _) fun _ _ _=>A8 (KO us os) (fun b=>Bp _ (Ao _))
 | [],_ :: _=>by simp only [Kl]; exact Am
 | _ :: _,[]=>by simp only [Kl]; exact Am
theorem Yw (P:Program) (t:TypeId):Dn fun K=>VH P t K:=by
 unfold VH
 split
 ·split
  ·exact A8 (KN _) fun l=>Ao _
  ·split
   ·exact Na _
   ·exact Am
  ·exact Am
 ·exact Am
theorem NY (ρ:Operand→RV) (x:Option Operand) (n:Int):Dn fun K=>XR ρ x n K:=by
 unfold XR
 split
 ·exact Ao _
 ·split
  ·exact Ao _
  ·exact Am
theorem L8 (ρ:Operand→RV) (sz:Nat) (xs:List D) (lo hi mx:Option Operand) (b:Bx):Dn fun K=>Ke ρ sz xs lo hi mx b K:=by
 unfold Ke
 refine A8 (NY _ _ _) fun l=>A8 (NY _ _ _) fun h=>?_
 split
 ·exact Cy _ (Ao _)
 ·by_cases hh:hi.isNone = true
  ·simp only [hh,if_true]; exact Am
  ·simp only [hh,Bool.false_eq_true,if_false]
   split
   ·exact Cy _ (Ao _)
   ·exact Am
theorem UF (r:Option D) (z:D):Fo fun K=>Qr r z K :=
 ⟨fun _ _ h hk=>by obtain ⟨v,b,h1,h2,h3⟩:=hk.go; exact ⟨⟨v,b,h1,h2,h _ _ h3⟩⟩,fun _ hk=>by obtain ⟨v,b,h1,h2,h3⟩:=hk.go; exact ⟨v,b,⟨⟨v,b,h1,h2,⟨rfl,rfl⟩⟩⟩,h3⟩⟩
theorem Yu (P:Program) (kt et:TypeId) (x ix:RV) (ok:Bool):Dn fun K=>Zm P kt et x ix ok K:=by
 unfold Zm
 split
 ·split
  ·split
   ·refine Cy _ ?_
    split
    ·refine Ca (UF _ _) fun v b=>?_
     split
     ·exact Ao _
     ·exact Ao _
    ·exact Am
   ·exact Am
  ·exact Am
 ·exact Am
theorem ZV (P:Program) (kt:TypeId) (m k x:RV):Dn fun K=>cR P kt m k x K:=by
 unfold cR
 split
 ·split
  ·split
   ·split
    ·exact Cy _ (Ao _)
    ·exact Am
   ·exact Am
  ·exact Am
 ·exact Am
set_option maxHeartbeats 1000000 in
theorem YZ (P:Program) (σ:Nat→Nat→RV) (ρ:Option (Nat × Bool)→Operand→RV) (g:Option (Nat × Bool)) (o:Oper) (d n:Nat):Dn fun K=>yA P σ ρ g o d n K:=by
 unfold yA
 split
 ·exact Ao _
 ·split
  ·split
   ·exact Bp _ (Ao _)
   ·exact Am
  ·exact Ao _
 ·split
  ·exact Ao _
  ·split
   ·split
    ·exact Ao _
    ·exact Am
   ·split
    ·exact Ao _
    ·exact Ao _
    ·exact Am
   ·exact Am
  ·exact Am
 ·split
  ·exact Ao _
  ·exact Ao _
  ·exact Ca (Mv _) fun v b=>A8 (JM _) fun l=>Ao _
 ·split
  ·exact A8 (JM _) fun l=>Ao _
  ·exact Am
 ·split
  ·split
   ·refine Bp _ ?_
    split
    ·refine Ca (NZ _ _) fun ps b=>?_
     split
     ·exact A8 (BV _) fun l=>Ao _
     ·exact Am
    ·refine L6 ?_ ?_
     ·refine Ca (NZ _ _) fun ps b=>?_
      split
      ·exact A8 (BV _) fun l=>Ao _
      ·exact Am
     ·refine A8 (JM _) fun zc=>A8 (S4 _ _) fun ps=>?_
      split
      ·exact A8 (BV _) fun l=>Ao _
      ·exact Am
   ·exact Am
  ·exact Am
 ·split
  ·refine Ca (S5 _ _) fun ps b=>?_
   split
   ·exact A8 (BV _) fun l=>Bp _ (Ao _)
   ·exact Am
  ·exact Am
 ·split
  ·split
   ·split
    ·exact Bp _ (A8 (Yw _ _) fun z=>Cy _ (Ao _))
    ·exact Am
   ·exact Am
  ·exact Am
 ·split
  ·split
   ·exact Ca (NX _ _ _) fun l b=>Ao _
   ·exact L6 (Ca (NX _ _ _) fun l b=>Ao _) (Ca (NW _ _ _) fun l b=>Ao _)
  ·exact Am
 ·split
  ·exact Ao _
  ·exact bo _ _ _ _
  ·exact A8 (TQ _ _ _) fun x=>Ao _
  ·exact A8 (OR _ _) fun x=>A8 (TQ _ _ _) fun x=>Ao _
  ·exact Am
 ·refine Bp _ ?_
  split
  ·split
   ·split
    ·exact Bp _ (A8 (BV _) fun l=>Ao _)
    ·exact Ca (Mv _) fun v b=>Bp _ (A8 (JM _) fun l=>A8 (BV _) fun l=>Ao _)
   ·refine Bp _ ?_
    split
    ·exact A8 (BV _) fun l=>Ao _
    ·exact Ca (Mv _) fun v b=>Bp _ (A8 (BV _) fun l=>Ao _)
   ·exact Am
  ·refine Ca (Xp _) fun v b=>A8 (OR _ _) fun y=>Bp _ ?_
   split
   ·exact A8 (BV _) fun l=>Ao _
   ·exact Bp _ (Ao _)
  ·exact Am
 ·split <;> first | exact Ao _ | exact Am
 ·split
  ·exact Ao _
  ·split
   ·exact Ao _
   ·exact A8 (ZS _ _ _ _ _) fun x=>Ao _
   ·exact Am
  ·exact Am
 ·split
  ·exact Ao _
  ·exact A8 (bq _ _) fun x=>Ao _
  ·exact Am
 ·split
  ·split
   ·split <;> first | exact Ao _ | exact Am
   ·split <;> first | exact Ao _ | exact Am
   ·split
    ·split <;> first | exact Ao _ | exact Am
    ·exact Am
   ·exact Am
  ·exact Am
 ·split
  ·split
   ·refine Bp _ ?_
    split
    ·exact Ao _
    ·exact Ao _
    ·exact A8 (BV _) fun l=>Ao _
    ·exact Ao _
    ·exact Am
   ·exact Am
  ·exact Am
 ·split
  ·split
   ·split
    ·exact Ao _
    ·exact A8 (TQ _ _ _) fun x=>Ao _
    ·exact Am
   ·exact Am
  ·exact Am
 ·split
  ·split
   ·split
    ·exact Bp _ (A8 (OR _ _) fun x=>A8 (BV _) fun l=>Ao _)
    ·exact Bp _ (A8 (OR _ _) fun x=>A8 (BV _) fun l=>Ao _)
    ·exact Bp _ (Cy _ (Ao _))
    ·exact Am
   ·exact Am
  ·split
   ·split
    ·exact Bp _ (Cy _ (A8 (OR _ _) fun x=>Ao _))
    ·exact Am
   ·exact Am
  ·exact Am
 ·split
  ·split
   ·split
    ·exact Cy _ (Ao _)
    ·exact Am
   ·exact Am
  ·exact Am
 ·split
  ·split
   ·split
    ·exact A8 (NY _ _ _) fun l=>A8 (NY _ _ _) fun h=>Cy _ (Ao _)
    ·exact Am
   ·exact Am
  ·split
   ·exact Bp _ (L8 _ _ _ _ _ _ _)
   ·exact Bp _ (L8 _ _ _ _ _ _ _)
   ·exact Bp _ (L8 _ _ _ _ _ _ _)
   ·refine Bp _ (L6 (L8 _ _ _ _ _ _ _) ?_)
    split
    ·split
     ·exact A8 (NY _ _ _) fun h=>Cy _ (Ao _)
     ·exact Am
    ·exact Am
   ·exact Am
  ·exact Am
 ·split
  ·split
   ·refine A8 (TO _) fun cv=>Ca (L5 _ _ _ _ _) fun vs bs=>TN (MZ _ _ _ _ _) fun ms mb us=>?_
    refine ZT (fun r=>A8 (Yt _ _) fun b=>Xq _ _ _ _) fun o r=>A8 (KO _ _) fun ub=>Bp _ (Xq _ _ _ _)
   ·split
    ·refine Ca (L5 _ _ _ _ _) fun vs bs=>?_
     split
     ·exact A8 (BV _) fun cv=>A8 (Yv _ _ _ _ _ _ _) fun ys=>bp _ (Ao _)
     ·exact Am
    ·exact Am
   ·exact Am
  ·split
   ·split
    ·split <;> first | exact Ao _ | exact Am
    ·split
     ·exact Ao _
     ·exact Ca (S3 _) fun _ xs=>Ao _
    ·exact Am
   ·exact Am
  ·split
   ·split
    ·split <;> first | exact Ao _ | exact Am
    ·exact Am
   ·exact Am
  ·split
   ·split
    ·split <;> first | exact Ao _ | exact Am
    ·exact Am
   ·exact Am
  ·split
   ·split
    ·refine Bp _ (Ca (S3 _) fun sz' ys=>?_)
     dsimp only
     split
     ·exact Bp _ (Cy _ (Ao _))
     ·exact Cy _ (Ao _)
     ·exact Bp _ (Cy _ (Ao _))
     ·exact Am
    ·exact Am
   ·exact Am
  ·exact Am
 ·split
  ·split <;> first | exact Ao _ | exact Am
  ·exact Am
 ·split
  ·exact Ao _
  ·exact Am
 ·split
  ·exact Yu _ _ _ _ _ _
  ·exact Am
 ·split
  ·exact ZV _ _ _ _ _
  ·exact Am
 ·exact Am
def VK (σ σ':Nat→Nat→RV) (r:RV):Prop:=(∀ id n o cs,r = .vptr id n o cs→∀ id' n',C.sl id' n'∈cs→σ id' n' = σ' id' n')∧(∀ f cs k id n rid rn,r = .clo f cs k id n rid rn→σ rid rn = σ' rid rn)∧∀ cs,r = .cagg cs→∀ id' n',C.sl id' n'∈cs→σ id' n' = σ' id' n'
section
variable {P:Program} {σ σ':Nat→Nat→RV} {ρ ρ':Operand→RV}
theorem Iv:∀ {l:List C} {K:List D→Bx→Prop},(∀ id n,C.sl id n∈l→σ id n = σ' id n)→Dx σ l K = Dx σ' l K
 | [],_,_=>rfl
 | .d x :: r,K,h=>by
   simp only [Dx]
   exact Iv fun id n hm=>h id n (by simp [hm])
 | .sl id n :: r,K,h=>by
   simp only [Dx]
   rw [h id n (by simp)]
   congr 1
   funext x b
   exact Iv fun id n hm=>h id n (by simp [hm])
 | .own _ _ _ :: _,_,_=>rfl
theorem Lu {r:RV} {K:AV→Bx→Prop} (h:VK σ σ' r):Nt σ r K = Nt σ' r K:=by
 cases r <;> try rfl
 case vptr id n o cs=>exact Iv (h.1 id n o cs rfl)
theorem Tr:∀ {l:List C} {K:List C→Nat→Nat→Prop},(∀ id n,C.sl id n∈l→σ id n = σ' id n)→Qt σ l K = Qt σ' l K
 | [],_,_=>rfl
 | .d x :: r,K,h=>by
   have ih:∀ {K:List C→Nat→Nat→Prop},Qt σ r K = Qt σ' r K:=Tr fun id n hm=>h id n (by simp [hm])
   simp only [Qt,ih]
 | .sl id n :: r,K,h=>by
   simp only [Qt]
   rw [h id n (by simp)]
 | .own _ _ _ :: _,_,_=>rfl
theorem Wo {r:RV} {K:AV→Bx→Option (Nat × Nat)→Prop} (h:VK σ σ' r):Qe σ r K = Qe σ' r K:=by
 cases r <;> try rfl
 case cagg cs=>exact Tr (h.2.2 cs rfl)
 case vptr id n o cs =>
  cases o with
  | zero=>exact Iv (h.1 id n 0 cs rfl)
  | succ o =>
    show Nt σ (.vptr id n (o + 1) cs) (fun v b=>K v b none) = Nt σ' (.vptr id n (o + 1) cs) (fun v b=>K v b none)
    exact Lu h
theorem Qv:∀ {l:List Operand} {ts:List TypeId} {K:List AV→Bx→Prop},(∀ x∈l,ρ x = ρ' x∧VK σ σ' (ρ' x))→G1 P σ ρ l ts K = G1 P σ' ρ' l ts K
 | [],_,_,_=>rfl
 | x :: r,ts,K,h=>by
   have ih:∀ {ts:List TypeId} {K:List AV→Bx→Prop},G1 P σ ρ r ts K = G1 P σ' ρ' r ts K:=Qv fun y hy=>h y (by simp [hy])
   simp only [G1,ih]
   rw [(h x (by simp)).1,Lu (h x (by simp)).2]
theorem Py:∀ {l:List Operand} {ts:List TypeId} {K:List AV→Bx→List (Option (Nat × Nat))→Prop},(∀ x∈l,ρ x = ρ' x∧VK σ σ' (ρ' x))→FP P σ ρ l ts K = FP P σ' ρ' l ts K
 | [],_,_,_=>rfl
 | x :: r,ts,K,h=>by
   have ih:∀ {ts:List TypeId} {K:List AV→Bx→List (Option (Nat × Nat))→Prop},FP P σ ρ r ts K = FP P σ' ρ' r ts K:=Py fun y hy=>h y (by simp [hy])
   simp only [FP,ih]
   rw [(h x (by simp)).1,Wo (h x (by simp)).2]
theorem Qy:∀ {l:List Operand} {K:List D→Bx→Prop},(∀ x∈l,ρ x = ρ' x∧VK σ σ' (ρ' x))→HG σ ρ l K = HG σ' ρ' l K
 | [],_,_=>rfl
 | x :: r,K,h=>by
   have ih:∀ {K:List D→Bx→Prop},HG σ ρ r K = HG σ' ρ' r K:=Qy fun y hy=>h y (by simp [hy])
   simp only [HG,ih]
   rw [(h x (by simp)).1,Lu (h x (by simp)).2]
theorem SC:∀ {l:List Operand},(∀ x∈l,ρ x = ρ' x)→QQ ρ l = QQ ρ' l
 | [],_=>rfl
 | x :: r,h=>by
   have ih:QQ ρ r = QQ ρ' r:=SC fun y hy=>h y (by simp [hy])
   simp only [QQ,ih,h x (by simp)]
theorem Qx:∀ {l:List Operand} {K:List C→Bx→Prop},(∀ x∈l,ρ x = ρ' x∧VK σ σ' (ρ' x))→HE σ ρ l K = HE σ' ρ' l K
 | [],_,_=>rfl
 | x :: r,K,h=>by
   have ih:∀ {K:List C→Bx→Prop},HE σ ρ r K = HE σ' ρ' r K:=Qx fun y hy=>h y (by simp [hy])
   simp only [HE,ih]
   rw [(h x (by simp)).1,Lu (h x (by simp)).2]
theorem Nm:∀ {l:List C},(∀ id n,C.sl id n∈l→σ id n = σ' id n)→O4 σ l = O4 σ' l
 | [],_=>rfl
 | .d _ :: r,h=>Nm (l:=r) fun id n hm=>h id n (by simp [hm])
 | .sl id n :: r,h=>by simp only [O4]; rw [h id n (by simp),Nm (l:=r) fun id n hm=>h id n (by simp [hm])]
 | .own _ _ _ :: _,_=>rfl
theorem ZY {t:TypeId} {cs:List C} {K:Gu→Prop} (h:∀ id n,C.sl id n∈cs→σ id n = σ' id n):bY P σ t cs K = bY P σ' t cs K:=by
 unfold bY
 split
 ·split
  ·rename_i i _
   rw [BG,BG]
   have e1:∀ K':List D→Bx→Prop,Dx σ (cs.take i.size) K' = Dx σ' (cs.take i.size) K':=fun K'=>Iv fun id n hm=>h id n (List.mem_of_mem_take hm)
   have e2:=Nm (σ:=σ) (σ':=σ') (l:=cs.take i.size) fun id n hm=>h id n (List.mem_of_mem_take hm)
   simp only [e1,e2]
  ·rfl
 ·rfl
 ·rfl
theorem QW:∀ {l:List (Nat × Operand)} {K:List (Nat × D)→Bx→Prop},(∀ x∈l,ρ x.2 = ρ' x.2)→JS ρ l K = JS ρ' l K
 | [],_,_=>rfl
 | (i,x) :: r,K,h=>by
   simp only [JS]
   rw [h (i,x) (by simp)]
   congr 1
   funext v b
   exact QW fun y hy=>h y (by simp [hy])
theorem SH:∀ {l:List (Nat × Operand)},(∀ x∈l,ρ x.2 = ρ' x.2)→Ro ρ l = Ro ρ' l
 | [],_=>rfl
 | (i,x) :: r,h=>by
   have ih:Ro ρ r = Ro ρ' r:=SH fun y hy=>h y (by simp [hy])
   simp only [Ro,ih,h (i,x) (by simp)]
theorem QT:∀ {l:List (Nat × Operand)} {K:List (Nat × List C)→Prop},(∀ x∈l,ρ x.2 = ρ' x.2)→KU ρ l K = KU ρ' l K
 | [],_,_=>rfl
 | (i,x) :: r,K,h=>by
   simp only [KU]
   rw [h (i,x) (by simp)]
   congr 1
   funext c
   exact QT fun y hy=>h y (by simp [hy])
theorem QY:∀ {l:List (Nat × Operand)} {K:List (Nat × D)→Bx→Prop},(∀ x∈l,ρ x.2 = ρ' x.2)→KW ρ l K = KW ρ' l K
 | [],_,_=>rfl
 | (i,x) :: r,K,h=>by
   simp only [KW]
   rw [h (i,x) (by simp)]
   congr 1
   funext v b
   exact QY fun y hy=>h y (by simp [hy])
theorem OV {x:Option Operand} {n:Int} {K:Int→Prop} (h:∀ y,x = some y→ρ y = ρ' y):XR ρ x n K = XR ρ' x n K:=by
 cases x with
 | none=>rfl
 | some x=>unfold XR; simp only; rw [h x rfl]
theorem W3 {sz:Nat} {xs:List D} {lo hi mx:Option Operand} {b:Bx} {K:Gu→Prop} (h1:∀ y,lo = some y→ρ y = ρ' y) (h2:∀ y,hi = some y→ρ y = ρ' y) (h3:∀ y,mx = some y→ρ y = ρ' y) :
 Ke ρ sz xs lo hi mx b K = Ke ρ' sz xs lo hi mx b K:=by
 unfold Ke
 rw [OV h1]
 congr 1
 funext l
 rw [OV h2]
 congr 1
 funext h
 cases mx with
 | none=>rfl
 | some m=>simp only; rw [h3 m rfl]
end
set_option maxHeartbeats 1000000 in
theorem bV {P:Program} {σ σ':Nat→Nat→RV} {ρ ρ':Option (Nat × Bool)→Operand→RV} {g:Option (Nat × Bool)} {o:Oper} {d n n':Nat} {K:Gu→Prop}
 (h:∀ g' x,x∈o.op.operands.toList→ρ g' x = ρ' g' x) (hs:∀ g' x,x∈o.op.operands.toList→VK σ σ' (ρ' g' x)) (hn:X7 o.op = true→n = n') (hy:yA P σ ρ g o d n K):yA P σ' ρ' g o d n' K:=by
 have hn':∀ {c:Bool},X7 o.op = c→c = true→n = n':=fun e1 e2=>hn (e1.trans e2)
 unfold yA at hy ⊢
 split at hy
 ·rename_i x ho
  simp only [ho] at h ⊢
  rw [h g x (by simp [Op.operands])] at hy; exact hy
 ·rename_i x ho
  have:=hn' (by rw [ho]; rfl) rfl
  subst this
  simp only [ho] at h ⊢
  rw [h g x (by simp [Op.operands])] at hy; exact hy
 ·rename_i t x y ho
  simp only [ho] at h ⊢
  rw [h g (.tmp t) (by simp [Op.operands]),h (some (t,true)) x (by simp [Op.operands]),h (some (t,false)) y (by simp [Op.operands])] at hy; exact hy
 ·rename_i T x ho
  have:=hn' (by rw [ho]; rfl) rfl
  subst this
  simp only [ho] at h ⊢
  rw [h g x (by simp [Op.operands])] at hy; exact hy
 ·rename_i T ho
  have:=hn' (by rw [ho]; rfl) rfl
  subst this
  first | exact hy | (simp only [ho]; exact hy)
 ·rename_i t parts ho
  simp only [ho] at h ⊢
  have e:∀ (K':List (Nat × D)→Bx→Prop),JS (ρ g) parts.toList K' = JS (ρ' g) parts.toList K':=fun K'=>QW fun x hx=>h g x.2 (by simp only [Op.operands]; simp; exact ⟨x.1,by simpa using hx⟩)
  have e2:∀ (K':List (Nat × List C)→Prop),KU (ρ g) parts.toList K' = KU (ρ' g) parts.toList K':=fun K'=>QT fun x hx=>h g x.2 (by simp only [Op.operands]; simp; exact ⟨x.1,by simpa using hx⟩)
  have e3:Ro (ρ g) parts.toList = Ro (ρ' g) parts.toList:=SH fun x hx=>h g x.2 (by simp only [Op.operands]; simp; exact ⟨x.1,by simpa using hx⟩)
  simp only [e,e2,e3] at hy; exact hy
 ·rename_i t m parts ho
  have:=hn' (by rw [ho]; rfl) rfl
  subst this
  simp only [ho] at h ⊢
  have e:∀ (K':List (Nat × D)→Bx→Prop),KW (ρ g) parts.toList K' = KW (ρ' g) parts.toList K':=fun K'=>QY fun x hx=>h g x.2 (by simp only [Op.operands]; simp; exact ⟨x.1,by simpa using hx⟩)
  simp only [e] at hy; exact hy
 ·rename_i t l c ho
  have:=hn' (by rw [ho]; rfl) rfl
  subst this
  simp only [ho] at h ⊢
  rw [h g l (by simp [Op.operands]),h g c (by simp [Op.operands])] at hy; exact hy
 ·rename_i f first caps ho
  simp only [ho] at h hs ⊢
  have e:∀ (K':List D→Bx→Prop),HG σ (ρ g) caps.toList K' = HG σ' (ρ' g) caps.toList K':=fun K'=>Qy fun x hx=>by
   have hx':x∈caps:=by simpa using hx
   have hm:x∈(Op.makeFunc (.func f) first caps).operands.toList:=by simp [Op.operands,hx']
   exact ⟨h g x hm,hs g x hm⟩
  have e2:∀ (K':List C→Bx→Prop),HE σ (ρ g) caps.toList K' = HE σ' (ρ' g) caps.toList K':=fun K'=>Qx fun x hx=>by
   have hx':x∈caps:=by simpa using hx
   have hm:x∈(Op.makeFunc (.func f) first caps).operands.toList:=by simp [Op.operands,hx']
   exact ⟨h g x hm,hs g x hm⟩
  have e3:QQ (ρ g) caps.toList = QQ (ρ' g) caps.toList:=SC fun x hx=>by
   have hx':x∈caps:=by simpa using hx
   exact h g x (by simp [Op.operands,hx'])
  simp only [e,e2,e3] at hy; exact hy
 ·rename_i t x ho
  simp only [ho] at h hs ⊢
  have h2:=(hs g x (by simp [Op.operands])).1
  rw [h g x (by simp [Op.operands])] at hy
  split at hy
  ·rename_i e; first | exact hy | (simp only [e]; exact hy)
  ·rename_i id n' o' cs e
   try simp only [e]
   rw [ZY (σ':=σ') fun i m hm=>h2 _ _ _ _ e i m (List.mem_of_mem_drop hm)] at hy
   exact hy
  ·rename_i e; first | exact hy | (simp only [e]; exact hy)
  ·rename_i e; first | exact hy | (simp only [e]; exact hy)
  ·exact hy.elim
 ·rename_i t p x ho
  simp only [ho] at h ⊢
  rw [h g p (by simp [Op.operands]),h g x (by simp [Op.operands])] at hy; exact hy
 ·rename_i x ho
  simp only [ho] at h ⊢
  rw [h g x (by simp [Op.operands])] at hy; exact hy
 ·rename_i op t x y U ho
  simp only [ho] at h ⊢
  rw [h g x (by simp [Op.operands]),h g y (by simp [Op.operands])] at hy; exact hy
 ·rename_i op t x ho
  simp only [ho] at h ⊢
  rw [h g x (by simp [Op.operands])] at hy; exact hy
 ·rename_i s t x ho
  simp only [ho] at h ⊢
  rw [h g x (by simp [Op.operands])] at hy; exact hy
 ·rename_i s x f ho
  simp only [ho] at h ⊢
  rw [h g x (by simp [Op.operands])] at hy; exact hy
 ·rename_i s x f ho
  simp only [ho] at h ⊢
  rw [h g x (by simp [Op.operands])] at hy; exact hy
 ·rename_i t x ix ho
  simp only [ho] at h ⊢
  rw [h g x (by simp [Op.operands]),h g ix (by simp [Op.operands])] at hy; exact hy
 ·rename_i t x ix ho
  simp only [ho] at h ⊢
  rw [h g x (by simp [Op.operands]),h g ix (by simp [Op.operands])] at hy; exact hy
 ·rename_i t x lo hi mx ho
  simp only [ho] at h ⊢
  have h1:∀ y,lo = some y→ρ g y = ρ' g y:=fun y e=>h g y (by subst e; simp [Op.operands])
  have h2:∀ y,hi = some y→ρ g y = ρ' g y:=fun y e=>h g y (by subst e; simp [Op.operands])
  have h3:∀ y,mx = some y→ρ g y = ρ' g y:=fun y e=>h g y (by subst e; simp [Op.operands])
  rw [h g x (by simp [Op.operands])] at hy
  have e1:∀ {sz:Nat} {xs:List D} {b:Bx} {K:Gu→Prop},Ke (ρ g) sz xs lo hi mx b K = Ke (ρ' g) sz xs lo hi mx b K:=W3 h1 h2 h3
  have e2:∀ {n:Int} {K:Int→Prop},XR (ρ g) lo n K = XR (ρ' g) lo n K:=OV h1
  have e3:∀ {n:Int} {K:Int→Prop},XR (ρ g) hi n K = XR (ρ' g) hi n K:=OV h2
  simp only [e1,e2,e3] at hy
  exact hy
 ·rename_i c ho
  simp only [ho] at h hs ⊢
  split at hy
  ·rename_i fo hc
   have:=hn' (by rw [ho]; simp only [X7,hc]) rfl
   subst this
   have h1:=h g fo (by simp [Op.operands,Call.operands,hc])
   have hx:∀ x∈c.args.toList,ρ g x = ρ' g x∧VK σ σ' (ρ' g x):=fun x hx=>by
    have hm:x∈(Op.call c).operands.toList:=by simp [Op.operands,Call.operands]; exact .inr (by simpa using hx)
    exact ⟨h g x hm,hs g x hm⟩
   have e:∀ (K':List AV→Bx→Prop),G1 P σ (ρ g) c.args.toList c.argTypes.toList K' = G1 P σ' (ρ' g) c.args.toList c.argTypes.toList K':=fun K'=>Qv hx
   have e':∀ (K':List AV→Bx→List (Option (Nat × Nat))→Prop),FP P σ (ρ g) c.args.toList c.argTypes.toList K' = FP P σ' (ρ' g) c.args.toList c.argTypes.toList K':=fun K'=>Py hx
   have h2:=(hs g fo (by simp [Op.operands,Call.operands,hc])).2.1
   simp only [h1,e,e'] at hy
   try simp only [hc]
   split at hy
   ·rename_i hfo; first | exact hy | (simp only [hfo]; exact hy)
   ·rename_i hfo
    rw [h2 _ _ _ _ _ _ _ hfo] at hy
    first | exact hy | (simp only [hfo]; exact hy)
   ·exact hy.elim
  ·rename_i hc
   try simp only [hc]
   split at hy
   ·rename_i x t hx ht
    have h1:=h g x (by simp only [Op.operands,Call.operands,hc]; rw [VS hx]; simp)
    simp only [h1] at hy
    try simp only [hx,ht]
    exact hy
   ·exact hy.elim
  ·rename_i hc
   try simp only [hc]
   split at hy
   ·rename_i x y hx
    have h1:=h g x (by simp only [Op.operands,Call.operands,hc]; rw [Jz hx]; simp)
    have h2:=h g y (by simp only [Op.operands,Call.operands,hc]; rw [Jz hx]; simp)
    simp only [h1,h2] at hy
    try simp only [hx]
    exact hy
   ·exact hy.elim
  ·rename_i hc
   try simp only [hc]
   split at hy
   ·rename_i x y hx
    have h1:=h g x (by simp only [Op.operands,Call.operands,hc]; rw [Jz hx]; simp)
    have h2:=h g y (by simp only [Op.operands,Call.operands,hc]; rw [Jz hx]; simp)
    simp only [h1,h2] at hy
    try simp only [hx]
    exact hy
   ·exact hy.elim
  ·rename_i hc
   have:=hn' (by rw [ho]; simp only [X7,hc]) rfl
   subst this
   try simp only [hc]
   split at hy
   ·rename_i x y t u hx ht
    have h1:=h g x (by simp only [Op.operands,Call.operands,hc]; rw [Jz hx]; simp)
    have h2:=h g y (by simp only [Op.operands,Call.operands,hc]; rw [Jz hx]; simp)
    simp only [h1,h2] at hy
    try simp only [hx,ht]
    exact hy
   ·exact hy.elim
  ·exact hy.elim
 ·rename_i t i ho
  simp only [ho] at h ⊢
  rw [h g t (by simp [Op.operands])] at hy; exact hy
 ·rename_i t ho
  have:=hn' (by rw [ho]; rfl) rfl
  subst this
  exact hy
 ·rename_i t x ix ok ho
  simp only [ho] at h ⊢
  rw [h g x (by simp [Op.operands]),h g ix (by simp [Op.operands])] at hy; exact hy
 ·rename_i t m k x ho
  simp only [ho] at h ⊢
  rw [h g m (by simp [Op.operands]),h g k (by simp [Op.operands]),h g x (by simp [Op.operands])] at hy; exact hy
 ·exact hy.elim
end Go.Abs
set_option linter.unusedVariables false
set_option linter.unusedSimpArgs false
namespace Go.Abs
open Go.RowKit (Below)
def SN (S T:AS) (t:Nat):Prop:=(Ar S t).av = (Ar T t).av
def Rv (S T:AS) (b:Nat):Prop:=(Ar S b).box = (Ar T b).box∧(Ar S b).ver = (Ar T b).ver
theorem Tj:∀ (S:AS) (d:Nat) (K:Nat→Prop),d < S.length→K (Ar S d).ver→Se S d K
 | [],_,_,h,_=>by simp at h
 | ⟨_,_,_⟩ :: _,0,_,_,h=>h
 | s :: r,d + 1,K,hd,h=>Tj r d K (by simpa using hd) h
theorem aV {x:Option Nat} {K:Nat→Prop} (h:K (x.getD 0)):dK x K:=by cases x <;> exact h
theorem Gd (g:Option (Nat × Bool)) (v:AV):∀ i∈IW (dN g v),i∈IW v:=by
 cases v <;> try (intro i hi; exact hi)
 case under t w y =>
  intro i hi
  simp only [dN] at hi
  cases g with
  | none=>simp [IW] at hi
  | some p =>
    obtain ⟨t',w'⟩:=p
    simp only at hi
    split at hi
    ·exact hi
    ·simp [IW] at hi
theorem Iu:∀ {cs:List C} {id n:Nat},C.sl id n∈cs→id∈K9 cs
 | [],_,_,h=>by simp at h
 | c :: r,id,n,h=>by
   rcases List.mem_cons.1 h with h | h
   ·subst h; simp [K9]
   ·have:=Iu h
    cases c <;> simp [K9,this]
theorem K3 {S T:AS} {v:AV} (h:∀ i∈IW v,Rv S T i):res S v = res T v:=by
 cases v <;> try rfl
 case ptr id n o =>
  obtain ⟨h1,h2⟩:=h id (by simp [IW])
  simp only [res]
  generalize Ar S id = s at *
  generalize Ar T id = t at *
  obtain ⟨_,b,m⟩:=s
  obtain ⟨_,b',m'⟩:=t
  simp only at h1 h2
  subst h1; subst h2
  cases b <;> rfl
 case sl id n =>
  obtain ⟨h1,h2⟩:=h id (by simp [IW])
  simp only [res]
  generalize Ar S id = s at *
  generalize Ar T id = t at *
  obtain ⟨_,b,m⟩:=s
  obtain ⟨_,b',m'⟩:=t
  simp only at h1 h2
  subst h1; subst h2
  cases b <;> rfl
 case eptr id n sz i o =>
  obtain ⟨h1,h2⟩:=h id (by simp [IW])
  simp only [res]
  generalize Ar S id = s at *
  generalize Ar T id = t at *
  obtain ⟨_,b,m⟩:=s
  obtain ⟨_,b',m'⟩:=t
  simp only at h1 h2
  subst h1; subst h2
  cases b <;> rfl
 case cc k xs =>
  cases k with
  | none=>rfl
  | some f =>
    simp only [res]
    split
    ·rename_i j id n hat
     obtain ⟨h1,h2⟩:=h id (by simp only [IW]; exact Iu (List.mem_of_getElem? (OC hat)))
     generalize Ar S id = s at *
     generalize Ar T id = t at *
     obtain ⟨_,b,m⟩:=s
     obtain ⟨_,b',m'⟩:=t
     simp only at h1 h2
     subst h1; subst h2
     cases b <;> try rfl
     rename_i cs
     match cs with
     | []=>rfl
     | [.d _]=>rfl
     | [.sl _ _]=>rfl
     | [.own _ _ _]=>rfl
     | .d _ :: _ :: _=>rfl
     | .sl _ _ :: _ :: _=>rfl
     | .own _ _ _ :: _ :: _=>rfl
    ·rfl
def RR (S:AS) (all:List Oper) (o:Oper) (e:Gu):List Nat:=U9 S (DU all o) o++e.homes.map (·.1)
theorem Pv {S T:AS} (hl:S.length = T.length):∀ {hs:List (Nat × Nat)},(∀ b∈hs.map (·.1),Rv S T b)→FK S hs = FK T hs
 | [],_=>rfl
 | (h,n) :: r,hb=>by
   simp only [FK]
   rw [hl,(hb h (by simp)).2,Pv hl fun b hm=>hb b (by simp only [List.map_cons,List.mem_cons]; exact .inr hm)]
theorem KT:∀ {l:List Operand} {t:Nat},Operand.tmp t∈l→t∈RH l
 | [],_,h=>by simp at h
 | x :: r,t,h=>by
   rcases List.mem_cons.1 h with h | h
   ·subst h; simp [RH]
   ·have:=KT h
    cases x <;> simp [RH,this]
section
variable {P:Program} {all:List Oper} {o:Oper}
theorem ρ_congr {S T:AS} (hm:J9 S o = false) (h1:∀ t∈DU all o,SN S T t) (h2:∀ b∈U9 S (DU all o) o,Rv S T b):∀ g x,x∈o.op.operands.toList→ρOf S g x = ρOf T g x:=by
 intro g x hx
 unfold ρOf
 cases x with
 | tmp t =>
   have ht:t∈DU all o:=by simp only [DU,List.mem_append]; exact .inr (KT hx)
   simp only [ev]
   have ha:=h1 t ht
   unfold SN at ha
   rw [← ha]
   refine K3 fun i hi=>h2 i ?_
   simp only [U9,hm,List.mem_append,List.mem_flatMap]
   exact .inr ⟨t,ht,i,Gd g _ i hi,by simp [Zu]⟩
 | const v =>
   simp only [ev]
   refine K3 fun i hi=>?_
   have:=Gd g _ i hi
   exfalso
   revert this
   unfold Yd
   split <;> simp [IW]
 | global q =>
   simp only [ev]
   refine K3 fun i hi=>?_
   have:=Gd g _ i hi
   exfalso
   revert this
   split <;> simp [IW]
 | func f =>
   simp only [ev]
   exact K3 fun i hi=>by have:=Gd g _ i hi; simp [IW] at this
theorem bK {S:AS} {v:AV} {id n o:Nat} {cs:List C} (h:res S v = .vptr id n o cs):id∈IW v∧(Ar S id).box = .var cs:=by
 cases v <;> simp only [res] at h <;> try (cases h; done)
 case ptr id' n' o' =>
  split at h
  ·rename_i m hs
   split at h
   ·cases h; exact ⟨by simp [IW],by rw [hs]⟩
   ·cases h
  ·split at h <;> cases h
  ·cases h
 case sl id' n' =>
  split at h
  ·split at h <;> cases h
  ·split at h <;> cases h
  ·split at h <;> cases h
  ·cases h
 case eptr =>
  split at h
  ·split at h <;> cases h
  ·cases h
 case cc k' xs =>
  cases k' with
  | none=>cases h
  | some f' =>
    simp only at h
    split at h
    ·split at h
     ·split at h <;> cases h
     ·cases h
    ·cases h
theorem cE {S:AS} {v:AV} {f:FuncId} {cs:List C} {k id n rid rn:Nat} (h:res S v = .clo f cs k id n rid rn):id∈IW v∧(Ar S id).box = .var [.sl rid rn]:=by
 cases v <;> simp only [res] at h <;> try (cases h; done)
 case ptr id' n' o' =>
  split at h
  ·split at h <;> cases h
  ·split at h <;> cases h
  ·cases h
 case sl id' n' =>
  split at h
  ·split at h <;> cases h
  ·split at h <;> cases h
  ·split at h <;> cases h
  ·cases h
 case eptr =>
  split at h
  ·split at h <;> cases h
  ·cases h
 case cc k' xs =>
  cases k' with
  | none=>cases h
  | some f' =>
    simp only at h
    split at h
    ·rename_i j id' n' hat
     split at h
     ·rename_i av rid' rn' m hs
      split at h
      ·cases h
       exact ⟨by simp only [IW]; exact Iu (List.mem_of_getElem? (OC hat)),by rw [hs]⟩
      ·cases h
     ·cases h
    ·cases h
theorem bJ {S:AS} {v:AV} {cs:List C} (h:res S v = .cagg cs):v = .cc none cs:=by
 cases v <;> simp only [res] at h <;> try (cases h; done)
 case ptr id' n' o' =>
  split at h
  ·split at h <;> cases h
  ·split at h <;> cases h
  ·cases h
 case sl id' n' =>
  split at h
  ·split at h <;> cases h
  ·split at h <;> cases h
  ·split at h <;> cases h
  ·cases h
 case eptr =>
  split at h
  ·split at h <;> cases h
  ·cases h
 case cc k' xs =>
  cases k' with
  | none=>cases h; rfl
  | some f' =>
    simp only at h
    split at h
    ·split at h
     ·split at h <;> cases h
     ·cases h
    ·cases h
theorem cH {S T:AS} (hmv:J9 S o = false) (h1:∀ t∈DU all o,SN S T t) (h2:∀ b∈U9 S (DU all o) o,Rv S T b):∀ g x,x∈o.op.operands.toList→VK (σOf S) (σOf T) (ρOf T g x):=by
 intro g x hx
 have key:∀ (id:Nat) (cs:List C),id∈IW (dN g (ev S x))→(Ar S id).box = .var cs→∀ id' n',C.sl id' n'∈cs→σOf S id' n' = σOf T id' n':=by
  intro id cs h3 h4 id' n' hm
  refine K3 fun i hi=>?_
  simp only [IW,List.mem_singleton] at hi
  subst hi
  cases x with
  | tmp t =>
    have ht:t∈DU all o:=by simp only [DU,List.mem_append]; exact .inr (KT hx)
    refine h2 _ ?_
    simp only [U9,hmv,List.mem_append,List.mem_flatMap]
    refine .inr ⟨t,ht,id,Gd g _ id h3,?_⟩
    simp only [Zu,h4,List.mem_cons]
    exact .inr (Iu hm)
  | const v =>
    have:=Gd g _ id h3
    exfalso
    revert this
    simp only [ev]
    unfold Yd
    split <;> simp [IW]
  | global q =>
    have:=Gd g _ id h3
    exfalso
    revert this
    simp only [ev]
    split <;> simp [IW]
  | func f=>have:=Gd g _ id h3; simp [ev,IW] at this
 refine ⟨fun id n of cs hr id' n' hm=>?_,fun f cs k id n rid rn hr=>?_,fun cs hr id' n' hm=>?_⟩
 ·rw [← ρ_congr hmv h1 h2 g x hx] at hr
  obtain ⟨h3,h4⟩:=bK hr
  exact key id cs h3 h4 id' n' hm
 ·rw [← ρ_congr hmv h1 h2 g x hx] at hr
  obtain ⟨h3,h4⟩:=cE hr
  exact key id _ h3 h4 rid rn (by simp)
 ·rw [← ρ_congr hmv h1 h2 g x hx] at hr
  have hu:=bJ hr
  have hi':id'∈IW (dN g (ev S x)):=by rw [hu]; exact Iu hm
  refine K3 fun i hi=>?_
  simp only [IW,List.mem_singleton] at hi
  subst hi
  cases x with
  | tmp t =>
    have ht:t∈DU all o:=by simp only [DU,List.mem_append]; exact .inr (KT hx)
    refine h2 _ ?_
    simp only [U9,hmv,List.mem_append,List.mem_flatMap]
    exact .inr ⟨t,ht,i,Gd g _ i hi',by simp [Zu]⟩
  | const v =>
    have:=Gd g _ i hi'
    exfalso
    revert this
    simp only [ev]
    unfold Yd
    split <;> simp [IW]
  | global q =>
    have:=Gd g _ i hi'
    exfalso
    revert this
    simp only [ev]
    split <;> simp [IW]
  | func f=>have:=Gd g _ i hi'; simp [ev,IW] at this
theorem Xj {S T:AS} (h1:∀ t∈DU all o,SN S T t) {x:Operand} (hx:x∈o.op.operands.toList):ev S x = ev T x:=by
 cases x with
 | tmp t =>
   have ht:t∈DU all o:=by simp only [DU,List.mem_append]; exact .inr (KT hx)
   exact h1 t ht
 | const v=>rfl
 | global q=>rfl
 | func f=>rfl
theorem UH {S T:AS} (h1:∀ t∈DU all o,SN S T t):J9 S o = J9 T o:=by
 unfold J9
 split
 ·rename_i x ho
  rw [Xj h1 (x:=x) (by rw [ho]; simp [Op.operands])]
 ·rfl
theorem eQ {S:AS} {g:Option (Nat × Bool)} {d n:Nat} {K:Gu→Prop} (hm:J9 S o = false) (hy:yA P (σOf S) (ρOf S) g o d n K):yS P S g o d n K:=by
 unfold yS
 unfold J9 at hm
 split
 ·rename_i x ho
  rw [ho] at hm
  simp only at hm
  split
  ·rename_i he; rw [he] at hm; cases hm
  ·exact hy
 ·exact hy
theorem Za (P:Program) (S:AS) (g:Option (Nat × Bool)) (o:Oper) (d n:Nat):Dn fun K=>yS P S g o d n K:=by
 unfold yS
 split
 ·split
  ·exact Ao _
  ·exact YZ _ _ _ _ _ _ _
 ·exact YZ _ _ _ _ _ _ _
theorem WB {S T:AS} {g:Option (Nat × Bool)} {K:Gu→Prop} (h1:∀ t∈DU all o,SN S T t) (h2:∀ b∈U9 S (DU all o) o,Rv S T b) (hl:S.length = T.length)
 (hy:dK o.dst fun d=>Se S d fun n=>yS P S g o d n K):dK o.dst fun d=>Se T d fun n=>yS P T g o d n K:=by
 obtain ⟨hd,hy⟩:=LI _ _ _ (Vl hy)
 refine aV (Tj _ _ _ (by rw [← hl]; exact hd) ?_)
 rcases U5 hy with ⟨x,id,v,k,ho,he,hK⟩ | ⟨hm,hy⟩
 ·unfold yS
  rw [ho]
  simp only
  rw [← Xj h1 (x:=x) (by rw [ho]; simp [Op.operands]),he]
  exact hK
 ·refine eQ (by rw [← UH h1]; exact hm) (bV (ρ_congr hm h1 h2) (cH hm h1 h2) (fun hmk=>?_) hy)
  exact (h2 _ (by simp [U9,hmk])).2
theorem Z2.move {lk:List Nat} {S T:AS} (h:∀ t∈lk,SN S T t):∀ {n t:Nat} {r:Option Bool},Z2 lk n t S r→Z2 lk n t T r
 | 0,_,_,hd=>hd.elim
 | n + 1,t,r,⟨hlk,hd⟩=>by
   have e:=h t hlk
   unfold SN at e
   refine ⟨hlk,?_⟩
   rcases hd with ⟨b,hb,hr⟩ | ⟨t',w',b,r',hb,hd,hr⟩ | ⟨t',w',hb,hr⟩
   ·exact .inl ⟨b,by rw [← e]; exact hb,hr⟩
   ·exact .inr (.inl ⟨t',w',b,r',by rw [← e]; exact hb,Z2.move h hd,hr⟩)
   ·exact .inr (.inr ⟨t',w',by rw [← e]; exact hb,hr⟩)
theorem bD {done:List Nat} {S:AS} {K:AS→Gu→Prop} (hy:ah P all done o S K) :
 ∃ e,K S e∧∀ (done':List Nat) (T:AS),(∀ t∈DU all o,SN S T t)→(∀ b∈RR S all o e,Rv S T b)→S.length = T.length→(∀ j want t,o.guard = some (j,want)→Sx all j = some t→t∈done') →
   ah P all done' o T (fun T' f=>T' = T∧f = e):=by
 have ex:∀ {g:Option (Nat × Bool)} {F:Gu→Prop},(dK o.dst fun d=>Se S d fun n=>yS P S g o d n F)→∃ e,F e∧dK o.dst fun d=>Se S d fun n=>yS P S g o d n fun f=>f = e:=by
  intro g F hy
  obtain ⟨hd,hy⟩:=LI _ _ _ (Vl hy)
  obtain ⟨e,he,hF⟩:=(Za P S g o (o.dst.getD 0) (Ar S (o.dst.getD 0)).ver).2 _ hy
  exact ⟨e,hF,aV (Tj _ _ _ hd he)⟩
 have mon:∀ {T:AS} {g:Option (Nat × Bool)} {F F':Gu→Prop},(∀ e,F e→F' e)→(dK o.dst fun d=>Se T d fun n=>yS P T g o d n F)→dK o.dst fun d=>Se T d fun n=>yS P T g o d n F':=by
  intro T g F F' hF hy
  obtain ⟨hd,hy⟩:=LI _ _ _ (Vl hy)
  exact aV (Tj _ _ _ hd ((Za P T g o (o.dst.getD 0) (Ar T (o.dst.getD 0)).ver).1 _ _ hF hy))
 have sub:∀ {T:AS} {e:Gu},(∀ b∈RR S all o e,Rv S T b)→∀ b∈U9 S (DU all o) o,Rv S T b:=fun h b hb=>h b (by simp only [RR,List.mem_append]; exact .inl hb)
 have hom:∀ {T:AS} {e:Gu},S.length = T.length→(∀ b∈RR S all o e,Rv S T b)→FK S e.homes = FK T e.homes:=fun hl h=>Pv hl fun b hb=>h b (by simp only [RR,List.mem_append]; exact .inr hb)
 unfold ah at hy
 split at hy
 ·rename_i hgd
  obtain ⟨e,hK,he⟩:=ex hy
  obtain ⟨hho,hK⟩:=Aq hK
  refine ⟨e,hK,fun _ T h1 h2 hl _=>?_⟩
  unfold ah
  simp only [hgd]
  refine mon (fun f hf=>?_) (WB h1 (sub h2) hl he)
  subst hf
  rw [if_pos (by rw [← hom hl h2]; exact hho)]
  first | exact ⟨rfl,rfl⟩ | exact ⟨trivial,rfl⟩
 ·rename_i j want hgd
  split at hy
  ·exact hy.elim
  ·rename_i t ht
   obtain ⟨hdone,hy⟩:=Aq hy
   split at hy
   ·rename_i hh
    obtain ⟨e,hK,he⟩:=ex hy
    split at hK
    ·rename_i v
     refine ⟨_,hK,fun _ T h1 h2 hl hdn=>?_⟩
     unfold ah
     simp only [hgd,ht,hh]
     rw [if_pos (by simpa using hdn j want t hgd ht)]
     refine mon (fun f hf=>?_) (WB h1 (sub h2) hl he)
     subst hf
     first | exact ⟨rfl,rfl⟩ | exact ⟨trivial,rfl⟩
    ·exact hK.elim
   ·rename_i hh
    obtain ⟨r,hy,hdec⟩:=PT hy
    have hdT:∀ T:AS,(∀ t∈DU all o,SN S T t)→Z2 (DU all o) 5 t T r:=fun T h1=>hdec.move h1
    rcases Is.1 hy with ⟨hrw,hgo⟩ | ⟨hne,hK⟩
    ·obtain ⟨e,hK,he⟩:=ex hgo
     obtain ⟨hho,hK⟩:=Aq hK
     refine ⟨e,hK,fun _ T h1 h2 hl hdn=>?_⟩
     unfold ah
     simp only [hgd,ht,hh]
     rw [if_pos (by simpa using hdn j want t hgd ht)]
     refine VV (hdT T h1) (Is.2 (.inl ⟨hrw,mon (fun f hf=>?_) (WB h1 (sub h2) hl he)⟩))
     subst hf
     rw [if_pos (by rw [← hom hl h2]; exact hho)]
     exact ⟨rfl,rfl⟩
    ·refine ⟨_,hK,fun _ T h1 h2 hl hdn=>?_⟩
     unfold ah
     simp only [hgd,ht,hh]
     rw [if_pos (by simpa using hdn j want t hgd ht)]
     exact VV (hdT T h1) (Is.2 (.inr ⟨hne,by first | exact ⟨rfl,rfl⟩ | exact ⟨rfl,trivial⟩ | exact ⟨trivial,trivial⟩⟩))
structure U7 (P:Program) (all:List Oper) (S₀:AS) (St:Nat→AS) (E:Nat→Gu):Prop where
 start:St 0 = S₀
 next:∀ (i:Nat) (o:Oper),all[i]? = some o→St (i + 1) = Vg o.dst (E i) (St i)
 once:∀ (i j:Nat) (o o':Oper),i < j→all[i]? = some o→all[j]? = some o'→∀ d,o.dst = some d→o'.dst≠some d
 does:∀ (i:Nat) (o:Oper),all[i]? = some o→∀ (T:AS) (done:List Nat),(∀ t∈DU all o,SN (St i) T t)→(∀ b∈RR (St i) all o (E i),Rv (St i) T b)→(St i).length = T.length →
  (∀ j want t,o.guard = some (j,want)→Sx all j = some t→t∈done)→ah P all done o T (fun T' f=>T' = T∧f = E i)
 box:∀ (i j:Nat) (o o':Oper),i < j→all[i]? = some o→all[j]? = some o'→Pt all o' i = false →
  SP ((E i).bx.map (·.1)) (RR (St j) all o' (E j)++(E j).bx.map (·.1)) = true∧SP (RR (St i) all o (E i)) ((E j).bx.map (·.1)) = true
theorem bP (P:Program) (all:List Oper):∀ (l:List Oper) (k:Nat) (log:List (Nat × List Nat × List Nat)) (done:List Nat) (S:AS) (K:AS→Prop),(∀ j,l[j]? = all[k + j]?)→dG P all k log done l S K →
 ∃ (St:Nat→AS) (E:Nat→Gu),St k = S∧K (St (k + l.length)) ∧
   (∀ (i:Nat) (o:Oper),k≤i→all[i]? = some o→St (i + 1) = Vg o.dst (E i) (St i)) ∧
   (∀ (i:Nat) (o:Oper),k≤i→all[i]? = some o→∀ d,o.dst = some d→d ∉ done) ∧
   (∀ (i j:Nat) (o o':Oper),k≤i→i < j→all[i]? = some o→all[j]? = some o'→∀ d,o.dst = some d→o'.dst≠some d) ∧
   (∀ (i:Nat) (o:Oper),k≤i→all[i]? = some o→∀ (T:AS) (done:List Nat),(∀ t∈DU all o,SN (St i) T t)→(∀ b∈RR (St i) all o (E i),Rv (St i) T b)→(St i).length = T.length →
    (∀ j want t,o.guard = some (j,want)→Sx all j = some t→t∈done)→ah P all done o T (fun T' f=>T' = T∧f = E i)) ∧
   (∀ (i:Nat) (o:Oper),k≤i→all[i]? = some o→∀ x∈log,Pt all o x.1 = false→SP x.2.2 (RR (St i) all o (E i)++(E i).bx.map (·.1)) = true∧SP x.2.1 ((E i).bx.map (·.1)) = true) ∧
   (∀ (i j:Nat) (o o':Oper),k≤i→i < j→all[i]? = some o→all[j]? = some o'→Pt all o' i = false →
    SP ((E i).bx.map (·.1)) (RR (St j) all o' (E j)++(E j).bx.map (·.1)) = true∧SP (RR (St i) all o (E i)) ((E j).bx.map (·.1)) = true)
 | [],k,log,done,S,K,hall,hy=>by
   have none:∀ i,k≤i→all[i]? = none:=by
    intro i hi
    have hk:=hall 0
    simp at hk
    exact List.getElem?_eq_none (by omega)
   refine ⟨fun _=>S,fun _=>⟨.any,[],[]⟩,rfl,hy,?_,?_,?_,?_,?_,?_⟩
   ·intro i o hi ho; rw [none i hi] at ho; cases ho
   ·intro i o hi ho; rw [none i hi] at ho; cases ho
   ·intro i j o o' hi _ ho; rw [none i hi] at ho; cases ho
   ·intro i o hi ho; rw [none i hi] at ho; cases ho
   ·intro i o hi ho; rw [none i hi] at ho; cases ho
   ·intro i j o o' hi _ ho; rw [none i hi] at ho; cases ho
 | o :: r,k,log,done,S,K,hall,hy=>by
   obtain ⟨hnd,hy⟩:=Aq hy
   obtain ⟨e,hK,hmove'⟩:=bD hy
   rw [Jl,Jl] at hK
   obtain ⟨hok,hK⟩:=Aq hK
   rw [VO,Jl] at hK
   have ho:all[k]? = some o:=by have:=hall 0; simpa using this.symm
   obtain ⟨St,E,hs,hKn,hnext,hnd',honce,hdoes,hlog,hbox⟩:=bP P all r (k + 1) _ _ _ K (fun j=>by have:=hall (j + 1); rw [List.getElem?_cons_succ] at this; rw [this]; congr 1; omega) hK
   have hne:∀ i,k + 1≤i→i≠k:=fun i hi=>by omega
   refine ⟨fun i=>if i = k then S else St i,fun i=>if i = k then e else E i,by simp,?_,?_,?_,?_,?_,?_,?_⟩
   ·have:k + (o :: r).length≠k:=by simp
    simp only [this,if_false]
    rw [show k + (o :: r).length = k + 1 + r.length by simp; omega]
    exact hKn
   ·intro i o' hi ho'
    by_cases hik:i = k
    ·subst hik
     rw [ho] at ho'; cases ho'
     simp [hs]
    ·have h1:i + 1≠k:=by omega
     simp only [hik,h1,if_false]
     exact hnext i o' (by omega) ho'
   ·intro i o' hi ho' d hd
    by_cases hik:i = k
    ·subst hik
     rw [ho] at ho'; cases ho'
     simp [hd,Dt] at hnd
     exact hnd
    ·have:=hnd' i o' (by omega) ho' d hd
     intro hm; exact this (by simp [hm])
   ·intro i j o1 o2 hi hij h1 h2 d hd
    by_cases hik:i = k
    ·subst hik
     rw [ho] at h1; cases h1
     intro hd2
     exact hnd' j o2 (by omega) h2 d hd2 (by simp [hd,Dt])
    ·exact honce i j o1 o2 (by omega) hij h1 h2 d hd
   ·intro i o' hi ho'
    by_cases hik:i = k
    ·subst hik
     rw [ho] at ho'; cases ho'
     simp only [if_true]
     intro T done' h1 h2 hl hdn
     exact hmove' done' T h1 h2 hl hdn
    ·simp only [hik,if_false]
     exact hdoes i o' (by omega) ho'
   ·intro i o' hi ho' x hx hed
    by_cases hik:i = k
    ·subst hik
     rw [ho] at ho'; cases ho'
     simp only [if_true]
     simp only [dp,List.all_eq_true] at hok
     have:=hok x hx
     simp [hed] at this
     simp only [RR,List.append_assoc]
     exact this
    ·simp only [hik,if_false]
     exact hlog i o' (by omega) ho' x (by simp [hx]) hed
   ·intro i j o1 o2 hi hij h1 h2 hed
    have hjk:j≠k:=by omega
    by_cases hik:i = k
    ·subst hik
     rw [ho] at h1; cases h1
     simp only [if_true,hjk,if_false]
     exact hlog j o2 (by omega) h2 (i,RR S all o e,e.bx.map (·.1)) (by simp [RR]) hed
    ·simp only [hik,hjk,if_false]
     exact hbox i j o1 o2 (by omega) hij h1 h2 hed
theorem HB:∀ (b:Bx) (S:AS) (i:Nat),i ∉ b.map (·.1)→Ar (Bm b S) i = Ar S i
 | [],_,_,_=>rfl
 | (id,B,n) :: r,S,i,h=>by
   simp only [List.map_cons,List.mem_cons,not_or] at h
   simp only [Bm]
   rw [HB r _ i h.2,BK,if_neg (fun e=>h.1 e.1)]
theorem VT:∀ (b:Bx) (S:AS) (i:Nat),(Ar (Bm b S) i).av = (Ar S i).av
 | [],_,_=>rfl
 | (id,B,n) :: r,S,i=>by
   simp only [Bm]
   rw [VT r,BK]
   split
   ·rename_i e; rw [e.1]
   ·rfl
theorem Pr:∀ (b:Bx) (S T:AS) (i:Nat),S.length = T.length→i∈b.map (·.1)→Rv (Bm b S) (Bm b T) i
 | [],_,_,_,_,h=>by simp at h
 | (id,B,n) :: r,S,T,i,hl,h=>by
   simp only [Bm]
   by_cases hr:i∈r.map (·.1)
   ·exact Pr r _ _ i (by simp [C2,hl]) hr
   ·have hi:i = id:=by simp at h hr; rcases h with h | ⟨x,y,h⟩; exact h; exact absurd h (hr x y)
    unfold Rv
    rw [HB r _ i hr,HB r _ i hr,BK,BK,hi,hl]
    split
    ·exact ⟨rfl,rfl⟩
    ·rename_i hn
     have h1:T.length≤id:=by
      rcases Nat.lt_or_ge id T.length with h | h
      ·exact absurd ⟨rfl,h⟩ hn
      ·exact h
     rw [K0 S id (by omega),K0 T id h1]
     exact ⟨rfl,rfl⟩
theorem TX (dst:Option Nat) (e:Gu) (S:AS):(Vg dst e S).length = S.length:=by
 cases dst <;> simp [Vg,GM,Cj]
theorem Qu {dst:Option Nat} {e:Gu} {S:AS} {t:Nat} (h:dst≠some t):SN (Vg dst e S) S t:=by
 unfold SN
 cases dst with
 | none=>simp [Vg,VT]
 | some d =>
   simp only [Vg]
   rw [Cs,if_neg (fun hh=>h (by rw [hh.1])),VT]
theorem WI {dst:Option Nat} {e:Gu} {S T:AS} {t:Nat} (hl:S.length = T.length) (h:dst = some t):SN (Vg dst e S) (Vg dst e T) t:=by
 unfold SN
 subst h
 simp only [Vg]
 rw [Cs,Cs,Cj,Cj,hl]
 split
 ·rfl
 ·rename_i hn
  have h1:T.length≤t:=by
   rcases Nat.lt_or_ge t T.length with h | h
   ·exact absurd ⟨rfl,h⟩ hn
   ·exact h
  rw [K0 _ t (by rw [Cj]; omega),K0 _ t (by rw [Cj]; exact h1)]
theorem VP {dst:Option Nat} {e:Gu} {S:AS} {b:Nat}:Rv (Vg dst e S) (Bm e.bx S) b:=by
 unfold Rv
 cases dst with
 | none=>exact ⟨rfl,rfl⟩
 | some d =>
   simp only [Vg]
   rw [Cs]
   split
   ·rename_i hh; rw [hh.1]; exact ⟨rfl,rfl⟩
   ·exact ⟨rfl,rfl⟩
theorem Pp {dst:Option Nat} {e:Gu} {S:AS} {b:Nat} (h:b ∉ e.bx.map (·.1)):Rv (Vg dst e S) S b:=by
 have:=VP (dst:=dst) (e:=e) (S:=S) (b:=b)
 unfold Rv at *
 rw [this.1,this.2,HB _ _ _ h]
 exact ⟨rfl,rfl⟩
theorem VQ {dst:Option Nat} {e:Gu} {S T:AS} {b:Nat} (hl:S.length = T.length) (h:b∈e.bx.map (·.1)):Rv (Vg dst e S) (Vg dst e T) b:=by
 have h1:=VP (dst:=dst) (e:=e) (S:=S) (b:=b)
 have h2:=VP (dst:=dst) (e:=e) (S:=T) (b:=b)
 have h3:=Pr e.bx S T b hl h
 unfold Rv at *
 rw [h1.1,h1.2,h2.1,h2.2]
 exact h3
theorem bl:∀ {S T:AS},S.length = T.length→(∀ t,SN S T t)→(∀ b,Rv S T b)→S = T
 | [],[],_,_,_=>rfl
 | s :: S,t :: T,hl,h1,h2=>by
   have e1:=h1 0
   have e2:=h2 0
   simp only [SN,Rv,Ar] at e1 e2
   have:s = t:=by obtain ⟨_,_,_⟩:=s; obtain ⟨_,_,_⟩:=t; simp_all
   rw [this,bl (S:=S) (T:=T) (by simpa using hl) (fun i=>h1 (i + 1)) (fun i=>h2 (i + 1))]
 | [],_ :: _,hl,_,_=>by simp at hl
 | _ :: _,[],hl,_,_=>by simp at hl
theorem Mn {x y:List Nat} (h:SP x y = true):∀ i∈x,i ∉ y:=by simpa [SP] using h
theorem MB:∀ (l:List Oper) (k:Nat),(∀ j,l[j]? = all[k + j]?)→YA all k l = true →
 ∀ i o,k≤i→all[i]? = some o→((∀ e∈o.after,Region.binds .any e = true→e.on < i)∧∀ j want,o.guard = some (j,want)→j < i) ∧
   ∀ j o',j < i→all[j]? = some o'→Pt all o j = true∨((∀ d,o'.dst = some d→d ∉ DU all o)∧(∀ d,o.dst = some d→d ∉ DU all o'))
 | [],k,hall,_,i,o,hi,ho=>by
   have hk:=hall 0
   simp at hk
   rw [List.getElem?_eq_none (by omega)] at ho
   cases ho
 | x :: r,k,hall,h,i,o,hi,ho=>by
   simp only [YA,Bool.and_eq_true] at h
   obtain ⟨⟨⟨h1,h1g⟩,h2⟩,h3⟩:=h
   by_cases hik:i = k
   ·subst hik
    have hx:all[i]? = some x:=by have:=hall 0; simpa using this.symm
    rw [hx] at ho; cases ho
    refine ⟨⟨fun e he hb=>?_,fun j want hg=>by simpa [hg] using h1g⟩,fun j o' hj ho'=>?_⟩
    ·have:=List.all_eq_true.1 h1 e (by simpa using he)
     simpa [hb] using this
    ·have:=List.all_eq_true.1 h2 (o',j) (by
      rw [List.mem_iff_getElem?]
      refine ⟨j,?_⟩
      rw [List.getElem?_zipIdx,List.getElem?_take_of_lt hj,ho']
      simp)
     simp only [Bool.or_eq_true,Bool.and_eq_true] at this
     rcases this with ⟨h4,h5⟩ | h4
     ·refine .inr ⟨fun d hd=>Mn h4 d (by simp [hd,Dt]),fun d hd hm=>Mn h5 d hm (by simp [hd,Dt])⟩
     ·exact .inl h4
   ·exact MB r (k + 1) (fun j=>by have:=hall (j + 1); rw [List.getElem?_cons_succ] at this; rw [this]; congr 1; omega) h3 i o (by omega) ho
end
structure aG (all:List Oper) (St:Nat→AS) (E:Nat→Gu) (S₀:AS) (f:Nat→Bool) (T:AS):Prop where
 len:T.length = S₀.length
 dc:∀ (k:Nat) (o:Oper),all[k]? = some o→f k = true→∀ i,UC o i = true→f i = true
 vs:∀ (t i:Nat),i≤all.length→(∀ (k:Nat) (o:Oper),all[k]? = some o→o.dst = some t→(f k = true↔k < i))→SN T (St i) t
 vb:∀ (b i:Nat),i≤all.length→(∀ (k:Nat) (o:Oper),all[k]? = some o→b∈(E k).bx.map (·.1)→(f k = true↔k < i))→Rv T (St i) b
section
variable {P:Program} {all:List Oper} {St:Nat→AS} {E:Nat→Gu} {S₀:AS}
theorem U7.len (h:U7 P all S₀ St E):∀ i,i≤all.length→(St i).length = S₀.length
 | 0,_=>by rw [h.start]
 | i + 1,hi=>by
   rw [h.next i all[i] (List.getElem?_eq_getElem (by omega)),TX]
   exact h.len i (by omega)
theorem U7.keepS (h:U7 P all S₀ St E) {t i:Nat}:∀ j,i≤j→j≤all.length→(∀ (k:Nat) (o:Oper),i≤k→k < j→all[k]? = some o→o.dst≠some t)→SN (St j) (St i) t:=by
 intro j
 induction j with
 | zero=>intro hij _ _; have:i = 0:=by omega
         subst this; exact rfl
 | succ j ih =>
   intro hij hj hk
   by_cases e:i = j + 1
   ·subst e; exact rfl
   ·have h1:=ih (by omega) (by omega) (fun k o h1 h2=>hk k o h1 (by omega))
    have h2:SN (St (j + 1)) (St j) t:=by
     rw [h.next j all[j] (List.getElem?_eq_getElem (by omega))]
     exact Qu (hk j _ (by omega) (by omega) (List.getElem?_eq_getElem (by omega)))
    exact Eq.trans h2 h1
theorem U7.keepB (h:U7 P all S₀ St E) {b i:Nat}:∀ j,i≤j→j≤all.length→(∀ (k:Nat) (o:Oper),i≤k→k < j→all[k]? = some o→b ∉ (E k).bx.map (·.1))→Rv (St j) (St i) b:=by
 intro j
 induction j with
 | zero=>intro hij _ _; have:i = 0:=by omega
         subst this; exact ⟨rfl,rfl⟩
 | succ j ih =>
   intro hij hj hk
   by_cases e:i = j + 1
   ·subst e; exact ⟨rfl,rfl⟩
   ·have h1:=ih (by omega) (by omega) (fun k o h1 h2=>hk k o h1 (by omega))
    have h2:Rv (St (j + 1)) (St j) b:=by
     rw [h.next j all[j] (List.getElem?_eq_getElem (by omega))]
     exact Pp (hk j _ (by omega) (by omega) (List.getElem?_eq_getElem (by omega)))
    exact ⟨h2.1.trans h1.1,h2.2.trans h1.2⟩
theorem aG.readyN {f:Nat→Bool} {T:AS} (m:aG all St E S₀ f T):∀ (n:Nat) {o:Oper} {j:Nat},(∀ j,UC o j = true→f j = true)→YY all n o j = true→f j = true
 | 0,_,_,hready,h=>hready _ h
 | n + 1,o,j,hready,h=>by
   simp only [YY,Bool.or_eq_true,List.any_eq_true,Bool.and_eq_true] at h
   rcases h with h | ⟨e,he,hb,hm⟩
   ·exact hready _ h
   ·split at hm
    ·rename_i om hom
     refine m.readyN n (fun i hi=>m.dc e.on om hom (hready e.on ?_) i hi) hm
     simp only [UC,List.any_eq_true,Bool.and_eq_true,beq_iff_eq]
     exact ⟨e,he,rfl,hb⟩
    ·cases hm
theorem aG.ready2 {f:Nat→Bool} {T:AS} (m:aG all St E S₀ f T) {o:Oper} (hready:∀ j,UC o j = true→f j = true) {j:Nat} (h:Pt all o j = true):f j = true :=
 m.readyN 4 hready h
theorem aG.step (h:U7 P all S₀ St E) (hreg:YA all 0 all = true) {f:Nat→Bool} {T:AS} (m:aG all St E S₀ f T) {i:Nat} {o:Oper} (ho:all[i]? = some o) (hf:f i = false) (hready:∀ j,UC o j = true→f j = true) :
 (∀ t∈DU all o,SN (St i) T t)∧(∀ b∈RR (St i) all o (E i),Rv (St i) T b)∧aG all St E S₀ (fun k=>if k = i then true else f k) (Vg o.dst (E i) T):=by
 have hreg':=MB all 0 (fun j=>by simp) hreg
 have hi:i < all.length:=by
  rcases Nat.lt_or_ge i all.length with h | h
  ·exact h
  ·simp [List.getElem?_eq_none h] at ho
 have later:∀ (k:Nat) (o':Oper),all[k]? = some o'→i < k→f k = true→Pt all o' i = false:=by
  intro k o' ho' hik hfk
  cases he:Pt all o' i with
  | false=>rfl
  | true=>have:=m.ready2 (fun j hj=>m.dc k o' ho' hfk j hj) he; rw [hf] at this; cases this
 have hlenT:(St i).length = T.length:=by rw [h.len i (by omega),m.len]
 have hS:∀ t∈DU all o,SN (St i) T t:=by
  intro t ht
  refine (m.vs t i (by omega) fun k o' ho' hd=>?_).symm
  rcases Nat.lt_trichotomy k i with hk | hk | hk
  ·refine ⟨fun _=>hk,fun _=>?_⟩
   rcases (hreg' i o (by omega) ho).2 k o' hk ho' with he | ⟨h1,_⟩
   ·exact m.ready2 hready he
   ·exact absurd ht (h1 t hd)
  ·subst hk; rw [hf]; simp
  ·refine ⟨fun hfk=>?_,fun hh=>by omega⟩
   rcases (hreg' k o' (by omega) ho').2 i o hk ho with he | ⟨_,h2⟩
   ·have:=m.ready2 (fun j hj=>m.dc k o' ho' hfk j hj) he
    rw [hf] at this; cases this
   ·exact absurd ht (h2 t hd)
 have hB:∀ b∈RR (St i) all o (E i),Rv (St i) T b:=by
  intro b hb
  have key:=m.vb b i (by omega) fun k o' ho' hd=>?_
  ·exact ⟨key.1.symm,key.2.symm⟩
  ·rcases Nat.lt_trichotomy k i with hk | hk | hk
   ·refine ⟨fun _=>hk,fun _=>?_⟩
    cases he:Pt all o k with
    | true=>exact m.ready2 hready he
    | false=>exact absurd (List.mem_append.2 (.inl hb)) (Mn (h.box k i o' o hk ho' ho he).1 b hd)
   ·subst hk; rw [hf]; simp
   ·refine ⟨fun hfk=>?_,fun hh=>by omega⟩
    exact absurd hd (Mn (h.box i k o o' hk ho ho' (later k o' ho' hk hfk)).2 b hb)
 refine ⟨hS,hB,?_⟩
 have hnx:=h.next i o ho
 refine ⟨by rw [TX]; exact m.len,?_,?_,?_⟩
 ·intro k o' ho' hk j hj
  by_cases hki:k = i
  ·subst hki
   rw [ho] at ho'; cases ho'
   have:=hready j hj
   simp [this]
  ·simp only [hki,if_false] at hk
   have:=m.dc k o' ho' hk j hj
   simp [this]
 ·intro t j hj hcut
  by_cases hd:o.dst = some t
  ·have hij:i < j:=(hcut i o ho hd).1 (by simp)
   have h1:SN (St j) (St (i + 1)) t:=h.keepS j (by omega) hj fun k o' hk1 hk2 ho' hd'=>h.once i k o o' (by omega) ho ho' t hd hd'
   have h2:SN (Vg o.dst (E i) T) (St (i + 1)) t:=by rw [hnx]; exact WI hlenT.symm hd
   exact h2.trans h1.symm
  ·have h1:=m.vs t j hj fun k o' ho' hd'=>by
    have:=hcut k o' ho' hd'
    by_cases hki:k = i
    ·subst hki; rw [ho] at ho'; cases ho'; exact absurd hd' hd
    ·simpa [hki] using this
   exact (Qu hd).trans h1
 ·intro b j hj hcut
  by_cases hd:b∈(E i).bx.map (·.1)
  ·have hij:i < j:=(hcut i o ho hd).1 (by simp)
   have h1:Rv (St j) (St (i + 1)) b:=h.keepB j (by omega) hj fun k o' hk1 hk2 ho' hd'=>by
    have hfk:f k = true:=by
     have:=(hcut k o' ho' hd').2 hk2
     simpa [show k≠i by omega] using this
    have he:=later k o' ho' (by omega) hfk
    exact Mn (h.box i k o o' (by omega) ho ho' he).1 b hd (List.mem_append.2 (.inr hd'))
   have h2:Rv (Vg o.dst (E i) T) (St (i + 1)) b:=by rw [hnx]; exact VQ hlenT.symm hd
   exact ⟨h2.1.trans h1.1.symm,h2.2.trans h1.2.symm⟩
  ·have h1:=m.vb b j hj fun k o' ho' hd'=>by
    have:=hcut k o' ho' hd'
    by_cases hki:k = i
    ·subst hki; exact absurd hd' hd
    ·simpa [hki] using this
   have h2:=Pp (dst:=o.dst) (e:=E i) (S:=T) hd
   exact ⟨h2.1.trans h1.1,h2.2.trans h1.2⟩
end
end Go.Abs
set_option linter.unusedVariables false
set_option linter.unusedSimpArgs false
namespace Go.Abs
open Go.RowKit (Below)
section
variable {P:Program} {X:Cx} {ops:Array Oper} {St:Nat→AS} {E:Nat→Gu} {S₀:AS}
def UD (listed:Array Bool) (k:Nat):Bool:=listed.getD k false
def T8 (all:List Oper) (f:Nat→Bool):List Nat:=((List.range all.length).filter f).flatMap fun k=>Dt ((all[k]?).bind (·.dst))
theorem KS {all:List Oper} {f:Nat→Bool} {t:Nat}:t∈T8 all f↔∃ (k:Nat) (o:Oper),all[k]? = some o∧f k = true∧o.dst = some t:=by
 simp only [T8,List.mem_flatMap,List.mem_filter,List.mem_range]
 constructor
 ·rintro ⟨k,⟨hk,hf⟩,ht⟩
  refine ⟨k,all[k],List.getElem?_eq_getElem hk,hf,?_⟩
  rw [List.getElem?_eq_getElem hk] at ht
  simp only [Option.bind_some] at ht
  cases hd:all[k].dst with
  | none=>simp [hd,Dt] at ht
  | some d=>simp [hd,Dt] at ht; rw [ht]
 ·rintro ⟨k,o,ho,hf,hd⟩
  have hk:k < all.length:=by
   rcases Nat.lt_or_ge k all.length with h | h
   ·exact h
   ·simp [List.getElem?_eq_none h] at ho
  exact ⟨k,⟨hk,hf⟩,by simp [ho,hd,Dt]⟩
theorem Sz {p p':Nat→Bool} {i:Nat} (h1:p i = true) (h2:p' i = false) (h3:∀ x,x≠i→p' x = p x):∀ l:List Nat,(l.filter p').length + l.count i = (l.filter p).length
 | []=>rfl
 | x :: r=>by
   have ih:=Sz h1 h2 h3 r
   by_cases e:x = i
   ·subst e; simp [List.filter_cons,h1,h2,← ih]; omega
   ·have hb:(x==i) = false:=by simp [e]
    rw [List.count_cons,hb]
    by_cases hp:p x = true
    ·simp [List.filter_cons,hp,h3 x e]; omega
    ·simp [List.filter_cons,hp,h3 x e]; omega
theorem aG.all_done (h:U7 P ops.toList S₀ St E) {f:Nat→Bool} {T:AS} (m:aG ops.toList St E S₀ f T) (hf:∀ k,k < ops.size→f k = true):T = St ops.size:=by
 have hk:∀ (k:Nat) (o:Oper),ops.toList[k]? = some o→k < ops.size:=by
  intro k o ho
  rcases Nat.lt_or_ge k ops.size with h | h
  ·exact h
  ·simp [h] at ho
 have hle:ops.size≤ops.toList.length:=by simp
 refine bl (by rw [m.len,h.len _ hle]) (fun t=>m.vs t _ hle fun k o ho _=>?_) (fun b=>m.vb b _ hle fun k o ho _=>?_)
 ·exact ⟨fun _=>hk k o ho,fun hh=>hf k hh⟩
 ·exact ⟨fun _=>hk k o ho,fun hh=>hf k hh⟩
theorem bf {o:Oper} {i:Nat}:UC o i = true↔∃ e∈o.after,e.on = i∧Region.binds .any e = true:=by
 simp only [UC,List.any_eq_true,Array.mem_toList_iff,Bool.and_eq_true,beq_iff_eq]
theorem Z5 (h:U7 P ops.toList S₀ St E) (hreg:YA ops.toList 0 ops.toList = true) {Q:Exit→Act→World→Prop}
 (hQ:∀ β a w (done:List Nat),AG X (·∈done) β (St ops.size) a w→Q .normal a w) :
 ∀ (fuel:Nat) (listed:Array Bool) (T:AS) (β:Nat→Value) (a:Act) (w:World),listed.size = ops.size→aG ops.toList St E S₀ (UD listed) T→AG X (·∈T8 ops.toList (UD listed)) β T a w →
   ((List.range ops.size).filter fun k=>!UD listed k).length≤fuel→wpAny P .any ops Q fuel listed a w:=by
 have stop:∀ (listed:Array Bool) (T:AS) (β:Nat→Value) (a:Act) (w:World),listed.size = ops.size→aG ops.toList St E S₀ (UD listed) T→AG X (·∈T8 ops.toList (UD listed)) β T a w →
  Region.ready .any ops listed = []→Q .normal a w:=by
  intro listed T β a w hsz m hs hr
  have all_:∀ k,k < ops.size→UD listed k = true:=by
   intro k
   induction k using Nat.strongRecOn with
   | _ k ih =>
     intro hk
     cases hfk:UD listed k with
     | true=>rfl
     | false =>
       exfalso
       have hmem:k∈Region.ready .any ops listed:=by
        refine mem_ready.2 ⟨?_,ops[k],by simp [hk],fun e he hb=>?_⟩
        ·simp only [UD,Array.getD] at hfk ⊢
         rw [dif_pos (by omega)] at hfk ⊢
         exact hfk
        ·have hlt:=(MB (all:=ops.toList) ops.toList 0 (fun j=>by simp) hreg k ops[k] (by omega) (by simp [hk])).1.1 e he hb
         exact ih e.on hlt (by omega)
       rw [hr] at hmem
       cases hmem
  rw [m.all_done h all_] at hs
  exact hQ β a w _ hs
 intro fuel
 induction fuel with
 | zero =>
   intro listed T β a w hsz m hs hc
   have hr:Region.ready .any ops listed = []:=by
    cases hr:Region.ready .any ops listed with
    | nil=>rfl
    | cons i r =>
      exfalso
      have hi:=(mem_ready.1 (show i∈Region.ready .any ops listed by rw [hr]; simp))
      obtain ⟨h1,o,ho,_⟩:=hi
      have hlt:i < ops.size:=by
       rcases Nat.lt_or_ge i ops.size with h | h
       ·exact h
       ·simp [Array.getElem?_eq_none h] at ho
      have:i∈(List.range ops.size).filter fun k=>!UD listed k:=by
       simp only [List.mem_filter,List.mem_range,Bool.not_eq_true']
       refine ⟨hlt,?_⟩
       simp only [UD,Array.getD] at h1 ⊢
       rw [dif_pos (by omega)] at h1 ⊢
       exact h1
      have:=List.length_pos_of_mem this
      omega
   exact ⟨hr,stop listed T β a w hsz m hs hr⟩
 | succ fuel ih =>
   intro listed T β a w hsz m hs hc
   refine ⟨fun hr=>stop listed T β a w hsz m hs hr,fun i hi=>?_⟩
   obtain ⟨h1,o,ho,hall⟩:=mem_ready.1 hi
   have hlt:i < ops.size:=by
    rcases Nat.lt_or_ge i ops.size with h | h
    ·exact h
    ·simp [Array.getElem?_eq_none h] at ho
   have hol:ops.toList[i]? = some o:=by simpa using ho
   have hfi:UD listed i = false:=by
    simp only [UD,Array.getD] at h1 ⊢
    rw [dif_pos (by omega)] at h1 ⊢
    exact h1
   have hready:∀ j,UC o j = true→UD listed j = true:=by
    intro j hj
    obtain ⟨e,he,hon,hb⟩:=bf.1 hj
    rw [← hon]
    exact hall e he hb
   obtain ⟨hS,hB,m'⟩:=m.step h hreg hol hfi hready
   have hlenT:(St i).length = T.length:=by rw [h.len i (by simp; omega),m.len]
   have hy:=h.does i o hol T (T8 ops.toList (UD listed)) hS hB hlenT (fun j want t hg ht=>by
    rw [QB] at ht
    cases hoj:ops.toList[j]? with
    | none=>simp [hoj] at ht
    | some oj =>
      simp [hoj] at ht
      refine KS.2 ⟨j,oj,hoj,?_,ht⟩
      have hin:t∈DU ops.toList o:=by simp [DU,TS,hg,QB,hoj,ht,Dt]
      have hji:=(MB (all:=ops.toList) ops.toList 0 (fun j=>by simp) hreg i o (by omega) hol).1.2 j want hg
      rcases (MB (all:=ops.toList) ops.toList 0 (fun j=>by simp) hreg i o (by omega) hol).2 j oj hji hoj with hed | ⟨hno,_⟩
      ·exact m.ready2 hready hed
      ·exact absurd hin (hno t ht))
   obtain ⟨e,⟨_,he⟩,hok⟩:=V3 hs hy
   subst he
   have hstep:=hok.step (Q:=Q) (K:=wpAny P .any ops Q fuel (listed.setIfInBounds i true)) (fun d hd hm=>by
    obtain ⟨k,ok,hok',hfk,hdk⟩:=KS.1 hm
    rcases Nat.lt_trichotomy k i with hk | hk | hk
    ·exact h.once k i ok o hk hok' hol d hdk hd
    ·subst hk; rw [hfi] at hfk; cases hfk
    ·exact h.once i k o ok hk hol hok' d hd hdk)
    (fun β' a' w' hs'=>by
     have hf':UD (listed.setIfInBounds i true) = fun k=>if k = i then true else UD listed k:=by
      funext k
      simp only [UD,Array.getD_eq_getD_getElem?,Array.getElem?_setIfInBounds]
      by_cases hki:k = i
      ·subst hki; simp [hsz,hlt]
      ·simp [Ne.symm hki,hki]
     refine ih _ _ β' a' w' (by simp [hsz]) (by rw [hf']; exact m') (hs'.weaken fun t ht=>?_) ?_
     ·rw [hf']
      rcases List.mem_append.1 ht with ht | ht
      ·refine KS.2 ⟨i,o,hol,by simp,?_⟩
       cases hd:o.dst with
       | none=>simp [hd,Dt] at ht
       | some d=>simp [hd,Dt] at ht; rw [ht]
      ·obtain ⟨k,ok,hok',hfk,hdk⟩:=KS.1 ht
       exact KS.2 ⟨k,ok,hok',by simp [hfk],hdk⟩
     ·have:=Sz (p:=fun k=>!UD listed k) (p':=fun k=>!UD (listed.setIfInBounds i true) k) (i:=i) (by simp [hfi]) (by simp [hf']) (fun x hx=>by simp [hf',hx]) (List.range ops.size)
      have hpos:0 < (List.range ops.size).count i:=List.count_pos_iff.2 (by simp [hlt])
      omega)
   unfold wpOp
   simp only [ho]
   split
   ·rename_i hw; rw [if_pos hw] at hstep; exact .inl hstep
   ·rename_i hw; rw [if_neg hw] at hstep; exact hstep
theorem Lk (P:Program):Mh P:=by
 intro id ops Q S X β a w hy hs
 have hy:Jg (YA ops.toList 0 ops.toList = true∧P.follows .mixedOrders = true) (dG P ops.toList 0 [] [] ops.toList S fun S=>plain S (Q .normal)):=hy
 obtain ⟨⟨hreg,hm⟩,hy⟩:=hy
 obtain ⟨St,E,h0,hK,hnext,_,honce,hdoes,_,hbox⟩:=bP P ops.toList ops.toList 0 [] [] S _ (fun j=>by simp) hy
 have hrun:U7 P ops.toList S St E:=⟨h0,fun i o ho=>hnext i o (by omega) ho,fun i j o o' hij h1 h2=>honce i j o o' (by omega) hij h1 h2,fun i o ho=>hdoes i o (by omega) ho,fun i j o o' hij h1 h2=>hbox i j o o' (by omega) hij h1 h2⟩
 refine wp_region_any hm ?_
 have hw:AG X (fun _=>False) β S a { w with drawn:=w.drawn + 1 }:=hs.world ⟨rfl,rfl,rfl,Nat.le_refl _,fun _ _=>rfl⟩
 refine Z5 hrun hreg (fun β' a' w' done hs'=>?_) ops.size _ S β a _ (by simp) ?_ (hw.weaken fun _ hf=>hf.elim) ?_
 ·rw [Ud] at hK
  simp only [Nat.zero_add,Array.length_toList] at hK
  exact ⟨β',_,hK,hs'.plain⟩
 ·have hf:∀ k,UD (Array.replicate ops.size false) k = false:=by
   intro k
   simp only [UD,Array.getD]
   split <;> simp
  refine ⟨rfl,(fun k o _ hk=>by rw [hf k] at hk; cases hk),fun t i hi hcut=>?_,fun b i hi hcut=>?_⟩
  ·rw [← h0]
   refine (hrun.keepS (i:=0) i (by omega) hi fun k o _ hk ho hd=>?_).symm
   have:=(hcut k o ho hd).2 hk
   rw [hf k] at this; cases this
  ·rw [← h0]
   have:=hrun.keepB (b:=b) (i:=0) i (by omega) hi fun k o _ hk ho hd=>by
    have:=(hcut k o ho hd).2 hk
    rw [hf k] at this; cases this
   exact ⟨this.1.symm,this.2.symm⟩
 ·exact Nat.le_trans (List.length_filter_le _ _) (by simp)
theorem DO {f:FuncId} {fn:Func} {args:List AV} {r:AV} (hf:P.funcs[f]? = some fn) (hname:(fn.name == "runtime.NumGoroutine") = false) (hr:dR P fn args r):Al P f args r :=
 Po (Lk P) hf hname hr
theorem Oe {f:FuncId} {fn:Func} {args outs:List AV} {r:AV} (hf:P.funcs[f]? = some fn) (hname:(fn.name == "runtime.NumGoroutine") = false) (hol:outs.length = args.length)
 (hfit:∀ (i:Nat) x y,args[i]? = some x→outs[i]? = some y→match y with
  | .own sz e _=>∃ xs,x = .own sz e xs
  | .optr cs=>∃ cs',x = .optr cs'∧cs.length = cs'.length
  | .cc _ l=>∃ (ds:List D) (sz:Nat) (e:TypeId) (xs ys:List D),x = .cc none (ds.map .d++[.own sz e xs])∧l = ds.map .d++[.own sz e ys]
  | _=>True) (hr:dS P fn args outs r):CY P f args outs r :=
 Pz (Lk P) hf hname hol hfit hr
theorem Ek (J:List Nat) {f:FuncId} {fn:Func} {args:List AV} {r:AV} (hf:P.funcs[f]? = some fn) (hname:(fn.name == "runtime.NumGoroutine") = false) (hr:YP P J fn args r):Al P f args r :=
 Po (Lk P) hf hname hr
theorem RF (J:List Nat) {f:FuncId} {fn:Func} {args outs:List AV} {r:AV} (hf:P.funcs[f]? = some fn) (hname:(fn.name == "runtime.NumGoroutine") = false) (hol:outs.length = args.length)
 (hfit:∀ (i:Nat) x y,args[i]? = some x→outs[i]? = some y→match y with
  | .own sz e _=>∃ xs,x = .own sz e xs
  | .optr cs=>∃ cs',x = .optr cs'∧cs.length = cs'.length
  | .cc _ l=>∃ (ds:List D) (sz:Nat) (e:TypeId) (xs ys:List D),x = .cc none (ds.map .d++[.own sz e xs])∧l = ds.map .d++[.own sz e ys]
  | _=>True) (hr:VJ P J fn args outs r):CY P f args outs r :=
 Pz (Lk P) hf hname hol hfit hr
theorem eP (J:List Nat) {f:FuncId} {fn:Func} {args:List AV} {k sz:Nat} {e:TypeId} {xs ys:List D} (q:Nat) (hf:P.funcs[f]? = some fn) (hname:(fn.name == "runtime.NumGoroutine") = false) (hres:fn.results = #[])
 (hk:args[k]? = some .any) (hq:q < args.length) (hkq:q≠k) (hmut:args.all (fun x=>!x.mut) = true) (hr:aJ P J fn args k q sz e xs ys):WG P f args k sz e xs ys :=
 Vb (Lk P) hf hname hres hk hq hkq hmut hr
end
end Go.Abs
set_option linter.unusedVariables false
set_option linter.unusedSimpArgs false
namespace Go.Abs
theorem TW {S S':AS} (h:Fg S' (fun S'=>Le S S')):Le S S':=by rw [HJ] at h; exact h
end Go.Abs
set_option linter.unusedVariables false
set_option linter.unusedSimpArgs false
namespace Go.Proofs.YtjghjdokjgcehaaGreatDoor.P
open Go.Abs Go.Proofs
@[reducible] def Ah {α:Type} (sz:Nat) (f:α→D) (l:List α):D:=.list sz (l.map f)
theorem Rw {ρ:Type} {b b':Bool} {x y:Prop} {X Y:Option ρ} {R:ρ} (hF:(bif b' then X else Y) = some R) (e:b = b') (h1:X = some R→x) (h2:Y = some R→y):Bool.rec y x b:=by
 subst e
 cases b with
 | true=>exact h1 hF
 | false=>exact h2 hF
theorem K1 {ρ:Type} {b b':Bool} {x y:Prop} {X Y:Option ρ} {R:ρ} (hF:(bif b' then X else Y) = some R) (e:b = b') (h1:b' = true→X = some R→x) (h2:b' = false→Y = some R→y):Bool.rec y x b:=by
 subst e
 cases b with
 | true=>exact h1 rfl hF
 | false=>exact h2 rfl hF
theorem Lt {b b':Bool} {x y:Prop} (e:b = b') (h:b' = true) (k:x):Bool.rec y x b:=by
 subst e; subst h; exact k
theorem eW {b b':Bool} {x y:Prop} (e:b = b') (h:b' = false) (k:y):Bool.rec y x b:=by
 subst e; subst h; exact k
theorem fh {x a b:Int} (h:(x==a) = true) (k:(a==b) = false:=by rfl):(x==b) = false:=by
 rw [beq_iff_eq.1 h]; exact k
theorem fw {α:Type} {xs:List α} {i j:Int} {x:α} {f:α→D} {K:D→Prop} (h:idx xs i = some x) (e:j = i) (k:K (f x)):At (xs.map f) j K:=by
 obtain ⟨h0,_,h1⟩:=TT h
 subst e
 exact ⟨⟨h0,_,by rw [List.getElem?_map,h1]; rfl,k⟩⟩
theorem Z7 {α:Type} {xs:List α} {i j:Int} {x:α} {f:α→D} {K:D→Prop} (h:idx xs i = some x) (e:j = ((i.toNat:Nat):Int)) (k:K (f x)):At (xs.map f) j K:=by
 obtain ⟨h0,_,_⟩:=TT h
 exact fw h (e.trans (Int.toNat_of_nonneg h0)) k
theorem fl {α:Type} {xs:List α} {i j:Int} {x:α} {f:α→D} {k:Prop} (h:idx xs i = some x) (e:j = i) (hk:k):Jg (0≤j∧j.toNat < (xs.map f).length) k:=by
 obtain ⟨h0,h1,_⟩:=TT h
 subst e
 exact ⟨⟨h0,by rw [List.length_map]; exact h1⟩,hk⟩
theorem eT {α ρ:Type} {xs:List α} {i j:Int} {f:α→D} {K:D→Prop} {G:α→Option ρ} {R:ρ} (hF:(idx xs i).bind G = some R) (e:j = i) (k:∀ x,idx xs i = some x→G x = some R→K (f x)):At (xs.map f) j K:=by
 obtain ⟨x,h,hF⟩:=A9 hF
 exact fw h e (k x h hF)
theorem RX {α ρ:Type} {xs:List α} {f:α→D} {i j:Int} {k:Prop} {G:α→Option ρ} {R:ρ} (hF:(idx xs i).bind G = some R) (e:j = i) (hk:∀ x,idx xs i = some x→G x = some R→k):Jg (0≤j∧j.toNat < (xs.map f).length) k:=by
 obtain ⟨x,h,hF⟩:=A9 hF
 exact fl h e (hk x h hF)
theorem snoc {α:Type} (f:α→D) (xs:List α) (x:α):xs.map f++[f x] = (xs++[x]).map f:=by simp
theorem SK (k:IntKind) (xs:List Int) (x:Int):xs.map (D.int k)++[D.int k x] = (xs++[x]).map (D.int k):=by simp
theorem eM {α:Type} (sz:Nat) (f:α→D) (xs:List (List α)) (x:List α):xs.map (Ah sz f)++[D.list sz (x.map f)] = (xs++[x]).map (Ah sz f):=by simp [Ah]
theorem dX {α:Type} (f:α→D) (xs ys:List α):xs.map f++ys.map f = (xs++ys).map f:=List.map_append.symm
theorem SO {α:Type} (f:α→D) (xs:List α) (l h:Int):Im (xs.map f) l h = (Im xs l h).map f:=by simp [Im,List.map_take,List.map_drop]
theorem cD {α:Type} (f:α→D) (n:Nat) (x:α):List.replicate n (f x) = (List.replicate n x).map f:=List.map_replicate.symm
theorem bR {α:Type} (f:α→D) (xs:List α) (i:Nat) (x:α):(xs.map f).set i (f x) = (xs.set i x).map f:=by rw [List.map_set]
theorem Bq {n m b:Nat} {q:Prop} (h:rm n m = true) (hb:b≤1024) (hq:q):n + m≤maxLen∧(n + m) * b≤140737488355328∧q:=by
 have h:=of_decide_eq_true h
 refine ⟨by unfold maxLen; omega,?_,hq⟩
 calc (n + m) * b≤137438953472 * 1024:=Nat.mul_le_mul h hb
  _ = 140737488355328:=by decide
theorem S9 {l:Int} {b:Nat} (h:(decide (0≤l) && rm l.toNat 0) = true) (hb:b≤1024):0≤l∧l≤l∧l≤(maxLen:Int)∧(b:Int) * l≤281474976710656:=by
 obtain ⟨h1,h2⟩:=Bool.and_eq_true_iff.1 h
 have h1:=of_decide_eq_true h1
 have h2:=of_decide_eq_true h2
 refine ⟨h1,Int.le_refl _,by unfold maxLen; omega,?_⟩
 have h3:l≤137438953472:=by omega
 calc (b:Int) * l≤1024 * l:=Int.mul_le_mul_of_nonneg_right (by omega) h1
  _≤281474976710656:=by omega
end Go.Proofs.YtjghjdokjgcehaaGreatDoor.P
set_option linter.unusedVariables false
set_option linter.unusedSimpArgs false
namespace Go.Abs
section
variable {β:Type}
def Jm (k:Int):List (Int × β)→Option β
 | []=>none
 | p :: r=>bif k==p.1 then some p.2 else Jm k r
def Va (k:Int) (v:β):List (Int × β)→List (Int × β)
 | []=>[(k,v)]
 | p :: r=>bif k==p.1 then (k,v) :: r else p :: Va k v r
def Wi (k:ByteArray):List (ByteArray × β)→Option β
 | []=>none
 | p :: r=>bif k==p.1 then some p.2 else Wi k r
def bU (k:ByteArray) (v:β):List (ByteArray × β)→List (ByteArray × β)
 | []=>[(k,v)]
 | p :: r=>bif k==p.1 then (k,v) :: r else p :: bU k v r
def bC (kd:IntKind) (f:β→D) (es:List (Int × β)):List (D × D):=es.map fun p=>(.int kd p.1,f p.2)
def dn (f:β→D) (es:List (ByteArray × β)):List (D × D):=es.map fun p=>(.str p.1,f p.2)
theorem Xk (kd:IntKind) (f:β→D) (k:Int):∀ es,Mq (.int kd k) (bC kd f es) = (Jm k es).map f
 | []=>rfl
 | p :: r=>by
   have ih:=Xk kd f k r
   simp only [bC,List.map_cons,Mq,Jm,HZ] at ih ⊢
   cases k==p.1
   ·simpa using ih
   ·rfl
theorem WA (kd:IntKind) (f:β→D) (k:Int) (v:β):∀ es,U3 (.int kd k) (f v) (bC kd f es) = bC kd f (Va k v es)
 | []=>rfl
 | p :: r=>by
   have ih:=WA kd f k v r
   simp only [bC,List.map_cons,U3,Va,HZ] at ih ⊢
   cases k==p.1
   ·simpa using ih
   ·rfl
theorem Xl (f:β→D) (k:ByteArray):∀ es,Mq (.str k) (dn f es) = (Wi k es).map f
 | []=>rfl
 | p :: r=>by
   have ih:=Xl f k r
   simp only [dn,List.map_cons,Mq,Wi,HZ] at ih ⊢
   cases k==p.1
   ·simpa using ih
   ·rfl
theorem Zy (f:β→D) (k:ByteArray) (v:β):∀ es,U3 (.str k) (f v) (dn f es) = dn f (bU k v es)
 | []=>rfl
 | p :: r=>by
   have ih:=Zy f k v r
   simp only [dn,List.map_cons,U3,bU,HZ] at ih ⊢
   cases k==p.1
   ·simpa using ih
   ·rfl
theorem M3 (kd:IntKind) (f:β→D) (k:Int) (es:List (Int × β)):∀ p∈bC kd f es,GJ (.int kd k) p.1 = true:=by
 intro p hp
 obtain ⟨q,_,rfl⟩:=List.mem_map.1 hp
 simp [GJ]
theorem Xx (f:β→D) (k:ByteArray) (es:List (ByteArray × β)):∀ p∈dn f es,GJ (.str k) p.1 = true:=by
 intro p hp
 obtain ⟨q,_,rfl⟩:=List.mem_map.1 hp
 rfl
theorem QM {kd:IntKind} {f:β→D} {k:Int} {es:List (Int × β)} {z:β} {K:D→Bool→Prop} (h:K (f ((Jm k es).getD z)) (Jm k es).isSome):Qr (Mq (.int kd k) (bC kd f es)) (f z) K:=by
 refine ⟨⟨f ((Jm k es).getD z),(Jm k es).isSome,?_,?_,h⟩⟩ <;> rw [Xk] <;> cases Jm k es <;> rfl
theorem b6 {f:β→D} {k:ByteArray} {es:List (ByteArray × β)} {z:β} {K:D→Bool→Prop} (h:K (f ((Wi k es).getD z)) (Wi k es).isSome):Qr (Mq (.str k) (dn f es)) (f z) K:=by
 refine ⟨⟨f ((Wi k es).getD z),(Wi k es).isSome,?_,?_,h⟩⟩ <;> rw [Xl] <;> cases Wi k es <;> rfl
end
end Go.Abs
set_option linter.unusedVariables false
set_option linter.unusedSimpArgs false
namespace Go.Abs
open Go.Proofs Go.Shelf Go.Sort
def Fb (xs:List Int):List Int:=xs.mergeSort fun x y=>decide (x≤y)
theorem length_sortI (xs:List Int):(Fb xs).length = xs.length:=by simp [Fb,List.length_mergeSort]
theorem Jk (xs:List Int):(xs.map (D.int .i64)).flatMap D.cells = xs.map (D.int .i64):=by
 induction xs with
 | nil=>rfl
 | cons x r ih=>simp [D.cells,ih]
theorem Sd {O:Nat→Prop} {w:World} {A6:List Value} {xs:List Int} (h:Bo O w A6 (xs.map (D.int .i64))):A6 = xs.map (Value.int .i64):=by
 apply List.ext_getElem?
 intro j
 by_cases hj:j < A6.length
 ·have hj2:j < xs.length:=by have:=h.1; simp at this; omega
  have:=(h.2 j A6[j] (.int .i64 xs[j]) (by simp [hj]) (by simp [hj2])).1
  cases h3:A6[j] with
  | int k n=>rw [h3] at this; cases this; simp [hj,hj2,h3]
  | _=>rw [h3] at this; cases this
 ·have hj2:¬ j < xs.length:=by have:=h.1; simp at this; omega
  rw [List.getElem?_eq_none (by omega),List.getElem?_eq_none (by simp; omega)]
theorem Pa (O:Nat→Prop) (w:World) (xs:List Int):Bo O w (xs.map (Value.int .i64)) (xs.map (D.int .i64)):=by
 refine ⟨by simp,fun j v y hv hy=>?_⟩
 simp only [List.getElem?_map] at hv hy
 cases h:xs[j]? with
 | none=>simp [h] at hv
 | some n=>simp [h] at hv hy; subst hv; subst hy; exact ⟨.int _ _,rfl⟩
theorem e8 {P:Program} {ρ:Ren} (Ly:Lays.n189 P ρ) (hc:Fp P (ρ.f 189) = true) (e:TypeId) (xs:List Int) (hl:xs.length < 4611686018427387904) :
 CY P (ρ.f 189) [.own 1 e (xs.map (D.int .i64))] [.own 1 e ((Fb xs).map (D.int .i64))] (.tup []):=by
 refine ⟨hc,rfl,fun O w vs hO _ hlen hMO hinj hargs=>?_⟩
 obtain ⟨v,rfl⟩:∃ v,vs = #[v]:=by
  obtain ⟨l⟩:=vs
  match l,hlen with
  | [v],_=>exact ⟨v,rfl⟩
 obtain ⟨_,_,A6,hrow,hL⟩:=hargs 0 v _ rfl rfl
 rw [Jk] at hL
 obtain rfl:=Sd hL
 have fin:∀ {w':World} {e':Ending},e' = .returned (.tuple #[])→Bl w.heap.size (Gz #[v] [.own 1 e (xs.map (D.int .i64))]) w w'→Dh w' e 1 v (Fb xs).length ((Fb xs).map (Value.int .i64)) →
  ∃ u,e' = .returned u∧Bl w.heap.size (Gz #[v] [.own 1 e (xs.map (D.int .i64))]) w w' ∧
  Dg (fun b=>w.heap.size≤b∨(Gz #[v] [.own 1 e (xs.map (D.int .i64))] b∧¬ Gz #[v] [.own 1 e ((Fb xs).map (D.int .i64))] b)) (fun b=>O b∨Gz #[v] [.own 1 e ((Fb xs).map (D.int .i64))] b) w' u (.tup []) ∧
  ∀ (i:Nat) u' x y,#[v][i]? = some u'→[AV.own 1 e (xs.map (D.int .i64))][i]? = some x→[AV.own 1 e ((Fb xs).map (D.int .i64))][i]? = some y→NH (fun b=>O b∨Gz #[v] [.own 1 e ((Fb xs).map (D.int .i64))] b∨D9 u (.tup []) b) w' u' x y:=by
  intro w' e' he hb hr
  refine ⟨_,he,hb,⟨#[],rfl,rfl,fun i u x h=>by simp at h,fun i j u u' sz e ys sz' e' ys' b h=>by simp at h⟩,fun i u' x y h1 h2 h3=>?_⟩
  match i,h1,h2,h3 with
  | 0,h1,h2,h3 =>
    simp at h1 h2 h3
    subst h1; subst h2; subst h3
    refine ⟨⟨by omega,fun x hx=>?_,(Fb xs).map (Value.int .i64),by simpa using hr,by rw [Jk]; exact Pa _ _ _⟩,_,rfl⟩
    obtain ⟨n,_,rfl⟩:=List.mem_map.1 hx
    rfl
  | i + 1,h1,_,_=>simp at h1
 have none:xs = []→∀ p cap,v = .slice p 0 cap→Calls P (ρ.f 189) #[v] w fun e' w'=>∃ u,e' = .returned u∧Bl w.heap.size (Gz #[v] [.own 1 e (xs.map (D.int .i64))]) w w' ∧
  Dg (fun b=>w.heap.size≤b∨(Gz #[v] [.own 1 e (xs.map (D.int .i64))] b∧¬ Gz #[v] [.own 1 e ((Fb xs).map (D.int .i64))] b)) (fun b=>O b∨Gz #[v] [.own 1 e ((Fb xs).map (D.int .i64))] b) w' u (.tup []) ∧
  ∀ (i:Nat) u' x y,#[v][i]? = some u'→[AV.own 1 e (xs.map (D.int .i64))][i]? = some x→[AV.own 1 e ((Fb xs).map (D.int .i64))][i]? = some y→NH (fun b=>O b∨Gz #[v] [.own 1 e ((Fb xs).map (D.int .i64))] b∨D9 u (.tup []) b) w' u' x y:=by
  intro h0 p cap hv
  subst h0
  have hc:=Any.slices_Sort_int_none Ly p cap w
  rw [← hv] at hc
  refine hc.mono fun e' w' ⟨he,hw⟩=>?_
  subst hw
  refine fin he ⟨rfl,rfl,rfl,Nat.le_refl _,fun _ _ _=>rfl⟩ ?_
  simpa [Fb] using hrow
 rcases hrow with hrow' | ⟨h0,_,a,hv⟩
 ·rcases hrow'.2 with ⟨hv,h0⟩ | ⟨g,cap,cur,hv,hbase,hb,h1,h2,h3,h4⟩
  ·exact none (by simpa using h0) _ _ hv
  ·rw [List.length_map] at h1 hv
   by_cases h00:cap = 0
   ·have hx:xs = []:=List.eq_nil_of_length_eq_zero (by omega)
    exact none hx (some ⟨g,0,Option.none⟩) cap (by rw [hv,hx]; rfl)
   have hH:Holds (Value.int .i64) w g 0 xs.toArray:=holds_of_blockI hb (by simpa using h4)
   have hg:g < w.heap.size:=(Array.getElem?_eq_some_iff.1 hb).1
   have hc:=Any.slices_Sort_int Ly g 0 cap xs w hH hg hl
   rw [← hv] at hc
   refine hc.mono fun e' w' ⟨he,n,os,hw⟩=>?_
   have hgr:=grownBy_sortedI (w:=w) (g:=g) (n:=n) (os:=os) (xs.mergeSort fun x y=>decide (x≤y)).toArray
   rw [← hw] at hgr
   refine fin he ⟨hgr.os,hgr.tape,hgr.output,hgr.size,fun k hk hm=>hgr.block k hk fun hkg=>?_⟩ (.inl ?_)
   ·refine hm ⟨0,v,_,rfl,rfl,rfl,?_⟩
    rw [hv]
    simp only [A2,h00,if_false]
    exact hkg.symm
   ·have:=ownsRow_sortedI (w:=w) (base:=0) (g:=g) (cap:=cap) (n:=n) (e:=e) (os:=os) (cur:=cur) (ss:=xs) (ts:=Fb xs) (length_sortI xs) hbase hb h1 h2 h3
    rw [length_sortI,hw,hv]
    exact this
 ·exact none (by simpa using h0) _ _ hv
end Go.Abs
set_option linter.unusedVariables false
set_option linter.unusedSimpArgs false
namespace Go.Abs
open Go Go.Proofs Go.Lib Go.Sort
open Go.RowKit (Below)
structure DW (w:World) (g cap n:Nat) (T:TypeId) (wr:World) (dk:Array Int):Prop where
 below:Bl w.heap.size (fun b=>b = g) w wr
 size:dk.size = n
 cells:∃ cur,wr.heap[g]? = some (.cells cur T (0,0))∧cur.size = cap * 1∧cur.toList.take n = dk.toList.map (Value.int .i64)
theorem DW.holds {w wr:World} {g cap n:Nat} {T:TypeId} {dk:Array Int} (h:DW w g cap n T wr dk):Holds (Value.int .i64) wr g 0 dk:=by
 obtain ⟨cur,h1,_,h3⟩:=h.cells
 have:=holds_of_blockI (ss:=dk.toList) h1 (by rw [show dk.toList.length = n from by simpa using h.size]; exact h3)
 rwa [Array.toArray_toList] at this
theorem DW.lt {w wr:World} {g cap n:Nat} {T:TypeId} {dk:Array Int} (h:DW w g cap n T wr dk):g < wr.heap.size:=by
 obtain ⟨cur,h1,_,_⟩:=h.cells
 exact (Array.getElem?_eq_some_iff.1 h1).1
theorem DW.call {w wr w':World} {g cap n:Nat} {T:TypeId} {dk:Array Int} (h:DW w g cap n T wr dk) (hb:Below wr.heap.size wr w'):DW w g cap n T w' dk:=by
 refine ⟨h.below.trans ((Bl.of hb).weaken h.below.size fun _ _ hk=>hk),h.size,?_⟩
 obtain ⟨cur,h1,h2,h3⟩:=h.cells
 exact ⟨cur,by rw [hb.block g h.lt]; exact h1,h2,h3⟩
theorem DW.store {w wr:World} {g cap n:Nat} {T:TypeId} {dk:Array Int} (h:DW w g cap n T wr dk) {i:Nat} (hi:i < n) (hn:n≤cap) (u:Int):DW w g cap n T (wr.setCell ⟨g,i,none⟩ (.int .i64 u)) (dk.setIfInBounds i u):=by
 obtain ⟨cur,h1,h2,h3⟩:=h.cells
 have hg:=h.lt
 refine ⟨⟨h.below.os,h.below.tape,h.below.output,by show w.heap.size≤(Array.modify _ _ _).size; rw [Array.size_modify]; exact h.below.size,fun k hk hm=>?_⟩,by simp [h.size],cur.setIfInBounds i (.int .i64 u),?_,by simp [h2],?_⟩
 ·show (Array.modify _ _ _)[k]? = _
  rw [Array.getElem?_modify,if_neg (fun e=>hm e.symm)]
  exact h.below.block k hk hm
 ·show (Array.modify _ _ _)[g]? = _
  rw [Array.getElem?_modify,if_pos rfl,h1]
  rfl
 ·rw [Array.toList_setIfInBounds,Array.toList_setIfInBounds,List.map_set,← h3,List.take_set]
theorem DW.clear {w:World} {g cap n:Nat} {T:TypeId} (hn:n≤cap):∀ (zs:List Int) {wr:World} {dk:Array Int} (k:Nat),DW w g cap n T wr dk→k + zs.length≤n→DW w g cap n T (wr.setCells g k (zs.map (Value.int .i64))) (lay dk k zs)
 | [],_,_,_,h,_=>h
 | z :: r,wr,dk,k,h,hk=>by
   simp only [List.length_cons] at hk
   exact DW.clear hn r (k + 1) (h.store (by omega) hn z) (by omega)
theorem DW.row {w wr:World} {g cap n:Nat} {T:TypeId} {dk:Array Int} (h:DW w g cap n T wr dk) {R:List Int} (hR:R.length≤n) (hd:dk.toList.take R.length = R) (hn:n≤cap) (hcap:cap≤maxLen):Dh wr T 1 (.slice (some ⟨g,0,none⟩) R.length cap) R.length (R.map (Value.int .i64)):=by
 obtain ⟨cur,h1,h2,h3⟩:=h.cells
 refine .inl ⟨by simp,.inr ⟨g,cap,cur,rfl,Nat.zero_le _,h1,by omega,hcap,h2,?_⟩⟩
 have e:cur.toList.take (R.length * 1) = (cur.toList.take n).take R.length:=by rw [List.take_take,Nat.min_eq_left hR,Nat.mul_one]
 rw [e,h3,← List.map_take,hd]
end Go.Abs
set_option linter.unusedVariables false
set_option linter.unusedSimpArgs false
namespace Go.Abs
open Go.Proofs Go.Shelf Go.Sort
theorem Vx (w:World):grow w #[] = w:=by simp [grow]
theorem TY (xs:List Int):(Lib.compact xs).length≤xs.length:=by
 unfold Lib.compact Lib.compactUpTo
 rw [List.length_map]
 exact Nat.le_trans (List.length_filter_le _ _) (by simp)
theorem b8 {P:Program} {ρ:Ren} (Ly:Lays2.n20 P ρ) (hc:Fp P (ρ.f 20) = true) (e:TypeId) (xs:List Int) (hl:xs.length < 4611686018427387904) :
 CY P (ρ.f 20) [.own 1 e (xs.map (D.int .i64))] [.any] (.own 1 e ((Lib.compact xs).map (D.int .i64))):=by
 refine ⟨hc,rfl,fun O w vs hO _ hlen hMO hinj hargs=>?_⟩
 obtain ⟨v,rfl⟩:∃ v,vs = #[v]:=by
  obtain ⟨l⟩:=vs
  match l,hlen with
  | [v],_=>exact ⟨v,rfl⟩
 obtain ⟨_,_,A6,hrow,hL⟩:=hargs 0 v _ rfl rfl
 rw [Jk] at hL
 obtain rfl:=Sd hL
 have hmut:∀ b,A2 v = some b→Gz #[v] [.own 1 e (xs.map (D.int .i64))] b:=fun b hb=>⟨0,v,_,rfl,rfl,rfl,hb⟩
 have hnot:∀ b,¬ Gz #[v] [.any] b:=by
  rintro b ⟨i,u,x,h1,h2,h3,_⟩
  match i,h1,h2 with
  | 0,h1,h2=>simp at h2; subst h2; simp [AV.mut] at h3
  | i + 1,h1,h2=>simp at h1
 have fin:∀ {w':World} {e':Ending} {u:Value},e' = .returned u→(∀ b,A2 u = some b→A2 v = some b)→Bl w.heap.size (Gz #[v] [.own 1 e (xs.map (D.int .i64))]) w w'→Dh w' e 1 u (Lib.compact xs).length ((Lib.compact xs).map (Value.int .i64)) →
  ∃ u,e' = .returned u∧Bl w.heap.size (Gz #[v] [.own 1 e (xs.map (D.int .i64))]) w w' ∧
  Dg (fun b=>w.heap.size≤b∨(Gz #[v] [.own 1 e (xs.map (D.int .i64))] b∧¬ Gz #[v] [.any] b)) (fun b=>O b∨Gz #[v] [.any] b) w' u (.own 1 e ((Lib.compact xs).map (D.int .i64))) ∧
  ∀ (i:Nat) u' x y,#[v][i]? = some u'→[AV.own 1 e (xs.map (D.int .i64))][i]? = some x→[AV.any][i]? = some y→NH (fun b=>O b∨Gz #[v] [.any] b∨D9 u (.own 1 e ((Lib.compact xs).map (D.int .i64))) b) w' u' x y:=by
  intro w' e' u he hbl hb hr
  refine ⟨u,he,hb,⟨by omega,fun x hx=>?_,fun b hb'=>.inr ⟨hmut b (hbl b hb'),hnot b⟩,_,by simpa using hr,by rw [Jk]; exact Pa _ _ _⟩,fun i u' x y h1 h2 h3=>?_⟩
  ·obtain ⟨n,_,rfl⟩:=List.mem_map.1 hx
   rfl
  ·match i,h3 with
   | 0,h3=>simp at h3; subst h3; trivial
   | i + 1,h3=>simp at h3
 have none:xs = []→∀ p cap,v = .slice p 0 cap→Calls P (ρ.f 20) #[v] w fun e' w'=>∃ u,e' = .returned u∧Bl w.heap.size (Gz #[v] [.own 1 e (xs.map (D.int .i64))]) w w' ∧
  Dg (fun b=>w.heap.size≤b∨(Gz #[v] [.own 1 e (xs.map (D.int .i64))] b∧¬ Gz #[v] [.any] b)) (fun b=>O b∨Gz #[v] [.any] b) w' u (.own 1 e ((Lib.compact xs).map (D.int .i64))) ∧
  ∀ (i:Nat) u' x y,#[v][i]? = some u'→[AV.own 1 e (xs.map (D.int .i64))][i]? = some x→[AV.any][i]? = some y→NH (fun b=>O b∨Gz #[v] [.any] b∨D9 u (.own 1 e ((Lib.compact xs).map (D.int .i64))) b) w' u' x y:=by
  intro h0 p cap hv
  subst h0
  have hc:=Any.slices_Compact_int_empty Ly p cap w
  rw [← hv] at hc
  refine hc.mono fun e' w' ⟨he,hw⟩=>?_
  subst hw
  refine fin he (fun _ h=>h) ⟨rfl,rfl,rfl,Nat.le_refl _,fun _ _ _=>rfl⟩ ?_
  simpa [Lib.compact,Lib.compactUpTo] using hrow
 rcases hrow with hrow' | ⟨h0,_,a,hv⟩
 ·rcases hrow'.2 with ⟨hv,h0⟩ | ⟨g,cap,cur,hv,hbase,hb,h1,h2,h3,h4⟩
  ·exact none (by simpa using h0) _ _ hv
  ·rw [List.length_map] at h1 hv
   by_cases h00:cap = 0
   ·have hx:xs = []:=List.eq_nil_of_length_eq_zero (by omega)
    exact none hx (some ⟨g,0,Option.none⟩) cap (by rw [hv,hx]; rfl)
   have hH:Holds (Value.int .i64) w g 0 xs.toArray:=holds_of_blockI hb (by simpa using h4)
   have hc:=Any.slices_Compact_int Ly g 0 cap xs w hH (by omega) h1
   rw [← hv] at hc
   refine hc.mono fun e' w' ⟨he,n,hw⟩=>?_
   have hcl:=TY xs
   generalize hts:Lib.compact xs++List.replicate (xs.length - (Lib.compact xs).length) 0 = ts at hw
   have htl:ts.length = xs.length:=by rw [← hts]; simp; omega
   have hgr:=grownBy_sortedI (w:=w) (g:=g) (n:=n) (os:=#[]) ts.toArray
   rw [Vx,← hw] at hgr
   refine fin he (fun b hb'=>?_) ⟨hgr.os,hgr.tape,hgr.output,hgr.size,fun k hk hm=>hgr.block k hk fun hkg=>?_⟩ (.inl ?_)
   ·rw [hv]; simpa [A2] using hb'
   ·refine hm ⟨0,v,_,rfl,rfl,rfl,?_⟩
    rw [hv]
    simp only [A2,h00,if_false]
    exact hkg.symm
   ·have ho:=ownsRow_sortedI (w:=w) (base:=0) (g:=g) (cap:=cap) (n:=n) (e:=e) (os:=#[]) (cur:=cur) (ss:=xs) (ts:=ts) htl hbase hb h1 h2 h3
    rw [Vx,← hw] at ho
    refine ⟨by simp,.inr ?_⟩
    rcases ho.2 with ⟨h,_⟩ | ⟨g',cap',cur',hv',hb',hh',hn',hc',hs',ht'⟩
    ·cases h
    cases hv'
    refine ⟨g,cap,cur',rfl,hb',hh',by omega,hc',hs',?_⟩
    have:cur'.toList.take ((Lib.compact xs).length * 1) = (cur'.toList.take (xs.length * 1)).take ((Lib.compact xs).length * 1):=by
     rw [List.take_take,Nat.min_eq_left (by omega)]
    rw [this,ht',← hts]
    simp
 ·exact none (by simpa using h0) _ _ hv
end Go.Abs
set_option linter.unusedVariables false
set_option linter.unusedSimpArgs false
namespace Go.Abs
open Go.ChangeShapes Go.WideShapes
theorem bv {H:Type} {enc:TypeId × Value→H} {P:Program} {W:World} {base:Nat} {spare:Nat→Bool} {held:Bool} {t e:TypeId} {k:IntKind} {v:Value} {d:DataW H} {p:List MemPlace}
 (ht:P.underlying t = some (.slice e)) (he:P.underlying e = some (.int k)) (hc:P.cellsOf e = 1) (hv:∃ a n c,v = .slice a n c) (h:DataW.Trod enc P W base spare held t v d p) :
 ∃ xs:List Int,AB (fun _=>False) W v (.list 1 (xs.map (D.int k)))∧xs.length≤maxLen∧∀ n∈xs,(Lit.int k n).wf = true:=by
 obtain ⟨fuel,hf⟩:=h
 obtain ⟨a0,n0,c0,rfl⟩:=hv
 rcases open_ints ht he hc hf with ⟨hcs,_⟩ | ⟨x,l,c,zs,hcs,_,hl,hm,hz,_,hcell,hwz⟩
 ·simp [Value.cells] at hcs
  obtain ⟨rfl,rfl,rfl⟩:=hcs
  exact ⟨[],.emp _ _ _,by simp [maxLen],fun n hn=>by simp at hn⟩
 ·simp [Value.cells] at hcs
  obtain ⟨rfl,rfl,rfl⟩:=hcs
  have hln:n0≤zs.length:=by rw [hz]; split <;> omega
  refine ⟨zs.take n0,?_,by simp; omega,fun n hn=>hwz n (List.mem_of_mem_take hn)⟩
  have hlen:(zs.take n0).length = n0:=by simp; omega
  by_cases h0:n0 = 0
  ·subst h0; exact .emp _ _ _
  ·obtain ⟨b,off,spot⟩:=x
   have hc0:=hcell 0 (by omega)
   have hspot:spot = none:=by simpa [Addr.add] using World.cell?_spot hc0
   subst hspot
   have hb:b < W.heap.size:=by
    rcases Nat.lt_or_ge b W.heap.size with h | h
    ·exact h
    ·simp [World.cell?,Addr.add,Array.getElem?_eq_none h] at hc0
   have hlm:((zs.take n0).map (D.int k)).length = n0:=by rw [List.length_map,hlen]
   have hget:∀ (i:Nat) (y:D),((zs.take n0).map (D.int k))[i]? = some y→i < n0∧y = .int k (zs.getD i 0):=by
    intro i y hy
    simp only [List.getElem?_map,List.getElem?_take] at hy
    split at hy
    ·rename_i hi
     refine ⟨hi,?_⟩
     have hi':i < zs.length:=by omega
     simp [List.getElem?_eq_getElem hi'] at hy
     simp [List.getD,List.getElem?_eq_getElem hi',hy]
    ·simp at hy
   have key:=AB.list (O:=fun _=>False) (w:=W) b off c0 1 ((zs.take n0).map (D.int k)) (fun i _=>.int k (zs.getD i 0)) (by intro h; rw [← List.length_eq_zero_iff,hlm] at h; exact h0 h) hb (fun h=>h) (by rw [hlm]; exact hl)
    (fun y hy=>by obtain ⟨m,_,rfl⟩:=List.mem_map.1 hy; rfl) (fun y hy z hz=>by obtain ⟨m,_,rfl⟩:=List.mem_map.1 hy; simp [D.cells] at hz; subst hz; rfl)
    (fun i y j z hy hz=>by
     obtain ⟨hi,rfl⟩:=hget i y hy
     have hj:j = 0:=by cases j with | zero=>rfl | succ j=>simp [D.cells] at hz
     subst hj
     have:=hcell i (by omega)
     rw [DT] at this
     simpa using this)
    (fun i y j z hy hz=>by
     obtain ⟨hi,rfl⟩:=hget i y hy
     have hj:j = 0:=by cases j with | zero=>rfl | succ j=>simp [D.cells] at hz
     subst hj
     simp [D.cells] at hz
     subst hz
     exact .int _ _)
   rw [hlm] at key
   exact key
end Go.Abs
set_option linter.unusedVariables false
set_option linter.unusedSimpArgs false
namespace Go.Abs
open Go.ChangeShapes Go.WideShapes
def Zo (agg:Bool) (ys:List D):D:=if agg then .agg ys else ys.headD (.nil 0)
def Em (P:Program) (t:TypeId):Bool:=match P.underlying t with | some (.struct _)=>true | _=>false
def G0 (P:Program):Nat→TypeId→List D→Prop
 | 0,_,_=>False
 | n + 1,t,ys=>match P.underlying t with
   | some .bool=>∃ b,ys = [.bool b]
   | some (.int k)=>∃ m,ys = [.int k m]∧(Lit.int k m).wf = true
   | some .string=>∃ s:ByteArray,ys = [.str s]∧s.size≤maxLen
   | some (.slice e)=>∃ xs:List (List D),ys = [.list (P.cellsOf e) (xs.map (Zo (Em P e)))]∧xs.length≤maxLen∧∀ x∈xs,G0 P n e x
   | some (.struct fs)=>ys.length = P.cellsOf t∧∀ f∈fs.toList,G0 P n f.type ((ys.drop f.offset).take (P.cellsOf f.type))
   | _=>False
def TV (P:Program):Nat→List Field→Option Nat
 | o,[]=>some o
 | o,f :: r=>if f.offset = o then TV P (o + P.cellsOf f.type) r else none
def Q1 (P:Program) (ts:List TypeId):Bool:=ts.all fun t=>match P.underlying t with
 | some .bool | some (.int _) | some .string=>P.cellsOf t==1
 | some (.slice e)=>P.cellsOf t==1 && (ts.contains e && decide (0 < P.cellsOf e))
 | some (.struct fs)=>fs.toList.all (fun f=>ts.contains f.type) && (TV P 0 fs.toList==some (P.cellsOf t))
 | _=>false
section
variable {H:Type} {enc:TypeId × Value→H} {P:Program} {w:World} {base:Nat} {spare:Nat→Bool} {held:Bool}
theorem QE {ts:List TypeId} (hc:Q1 P ts = true) {n:Nat} {t:TypeId} (ht:ts.contains t = true) {ys:List D} (h:G0 P n t ys):ys.length = P.cellsOf t:=by
 have:=List.all_eq_true.1 hc t (by simpa using ht)
 cases n with
 | zero=>exact h.elim
 | succ n =>
   unfold G0 at h
   split at h <;> rename_i hu <;> simp only [hu] at this
   ·obtain ⟨b,rfl⟩:=h; simp at this; rw [this]; rfl
   ·obtain ⟨b,rfl,_⟩:=h; simp at this; rw [this]; rfl
   ·obtain ⟨b,rfl,_⟩:=h; simp at this; rw [this]; rfl
   ·obtain ⟨b,rfl,_⟩:=h; simp at this; rw [this.1]; rfl
   ·exact h.1
   ·exact h.elim
theorem aS {ts:List TypeId} (hc:Q1 P ts = true) {n:Nat} {t:TypeId} (ht:ts.contains t = true) {ys:List D} (h:G0 P n t ys) (h1:∀ y∈ys,y.one = true):(Zo (Em P t) ys).cells = ys:=by
 have hl:=QE hc ht h
 have:=List.all_eq_true.1 hc t (by simpa using ht)
 unfold Zo Em
 split <;> rename_i hu
 ·rfl
 ·have h2:ys.length = 1:=by
   rw [hl]
   split at this <;> simp_all
  match ys,h2 with
  | [y],_ =>
    have:=h1 y (by simp)
    cases y <;> first | rfl | cases this
theorem TB {ts:List TypeId} (hc:Q1 P ts = true) {n:Nat} (ih:∀ t cs (x:DataW H × List MemPlace),ts.contains t = true→DataW.trod enc P w base spare held n t cs = some x→∃ ys,Bo (fun _=>False) w cs ys∧G0 P n t ys) :
 ∀ (fs:List Field) (o m:Nat) (cs:List Value),TV P o fs = some m→cs.length = m→(∀ f∈fs,ts.contains f.type = true) →
   (∀ f∈fs,∃ x,DataW.trod enc P w base spare held n f.type ((cs.drop f.offset).take (P.cellsOf f.type)) = some x) →
   ∃ ys,o + ys.length = m∧Bo (fun _=>False) w (cs.drop o) ys∧∀ f∈fs,o≤f.offset∧G0 P n f.type ((ys.drop (f.offset - o)).take (P.cellsOf f.type))
 | [],o,m,cs,hl,hm,_,_=>by
   simp only [TV,Option.some.injEq] at hl
   subst hl
   exact ⟨[],rfl,by rw [List.drop_eq_nil_of_le (by omega)]; exact ⟨rfl,fun j v y hv=>by simp at hv⟩,fun f hf=>by simp at hf⟩
 | f :: r,o,m,cs,hl,hm,hT,hx=>by
   unfold TV at hl
   split at hl
   ·rename_i ho
    obtain ⟨x,hx0⟩:=hx f (by simp)
    obtain ⟨y0,hr0,hf0⟩:=ih _ _ _ (hT f (by simp)) hx0
    obtain ⟨ys,e,hr,hf⟩:=TB hc ih r _ m cs hl hm (fun g hg=>hT g (by simp [hg])) (fun g hg=>hx g (by simp [hg]))
    have hy0:=QE hc (hT f (by simp)) hf0
    refine ⟨y0++ys,by rw [List.length_append,hy0]; omega,?_,fun g hg=>?_⟩
    ·have:cs.drop o = (cs.drop f.offset).take (P.cellsOf f.type)++cs.drop (o + P.cellsOf f.type):=by
      rw [ho,← List.drop_drop,List.take_append_drop]
     rw [this]
     exact hr0.append hr
    ·rcases List.mem_cons.1 hg with rfl | hg
     ·refine ⟨by omega,?_⟩
      rw [ho,Nat.sub_self,List.drop_zero,← hy0,List.take_left]
      exact hf0
     ·obtain ⟨h1,h2⟩:=hf g hg
      refine ⟨by omega,?_⟩
      rw [show g.offset - o = y0.length + (g.offset - (o + P.cellsOf f.type)) by omega,← List.drop_drop,List.drop_left]
      exact h2
   ·cases hl
theorem We {ts:List TypeId} (hc:Q1 P ts = true):∀ (n:Nat) (t:TypeId) (cs:List Value) (x:DataW H × List MemPlace),ts.contains t = true→DataW.trod enc P w base spare held n t cs = some x →
 ∃ ys,Bo (fun _=>False) w cs ys∧G0 P n t ys
 | 0,_,_,_,_,h=>by simp [DataW.trod] at h
 | n + 1,t,cs,x,ht,h=>by
   have hcl:=List.all_eq_true.1 hc t (by simpa using ht)
   have one:∀ (v:Value) (y:D),AB (fun _=>False) w v y→y.one = true→Bo (fun _=>False) w [v] [y]:=fun v y h1 h2=>⟨rfl,fun j v' y' hv hy=>by
    cases j with
    | zero=>simp at hv hy; subst hv; subst hy; exact ⟨h1,h2⟩
    | succ j=>simp at hv⟩
   unfold G0
   split at hcl <;> rename_i hu
   ·obtain ⟨b,rfl,_⟩:=DataW.trod_bool hu h
    exact ⟨_,one _ _ (.bool b) rfl,by exact ⟨b,rfl⟩⟩
   ·obtain ⟨m,rfl,_,hw⟩:=DataW.trod_int hu h
    exact ⟨_,one _ _ (.int _ m) rfl,by exact ⟨m,rfl,hw⟩⟩
   ·obtain ⟨s,rfl,_,hw⟩:=DataW.trod_string hu h
    exact ⟨_,one _ _ (.str s) rfl,by exact ⟨s,rfl,hw⟩⟩
   ·rename_i e
    simp only [Bool.and_eq_true,decide_eq_true_eq] at hcl
    obtain ⟨_,hce,hsz⟩:=hcl
    rcases DataW.trod_slice hu h with ⟨rfl,_⟩ | ⟨a,len,cap,elems,rest,n',en,rfl,_,hb,hl,hm,hlen,hel,_,_⟩
    ·exact ⟨_,one _ _ (.emp _ 0 (P.cellsOf e)) rfl,by exact ⟨[],rfl,by simp [maxLen],fun x hx=>by simp at hx⟩⟩
    obtain rfl:n = n':=by omega
    have each:∀ i,i < len→∃ cs ys,w.cells? base (a.add (i * P.cellsOf e)) (P.cellsOf e) = some cs∧Bo (fun _=>False) w cs ys∧G0 P n e ys:=by
     intro i hi
     have h1:=hel i hi
     rw [List.getElem?_eq_getElem (by omega),Option.bind_eq_some_iff] at h1
     obtain ⟨cs,h2,h3⟩:=h1
     obtain ⟨ys,h4,h5⟩:=We hc n e cs _ hce h3
     exact ⟨cs,ys,h2,h4,h5⟩
    have hex:∃ xs:List (List D),xs.length = len∧∀ i (hi:i < xs.length),∃ cs,w.cells? base (a.add (i * P.cellsOf e)) (P.cellsOf e) = some cs∧Bo (fun _=>False) w cs xs[i]∧G0 P n e xs[i]:=by
     have:∀ k,k≤len→∃ xs:List (List D),xs.length = k∧∀ i (hi:i < xs.length),∃ cs,w.cells? base (a.add (i * P.cellsOf e)) (P.cellsOf e) = some cs∧Bo (fun _=>False) w cs xs[i]∧G0 P n e xs[i]:=by
      intro k
      induction k with
      | zero=>exact fun _=>⟨[],rfl,fun i hi=>by simp at hi⟩
      | succ k ihk =>
        intro hk
        obtain ⟨xs,h1,h2⟩:=ihk (by omega)
        obtain ⟨cs,ys,h3,h4,h5⟩:=each k (by omega)
        refine ⟨xs++[ys],by simp [h1],fun i hi=>?_⟩
        by_cases hik:i < xs.length
        ·rw [List.getElem_append_left hik]; exact h2 i hik
        ·have:i = k:=by simp at hi; omega
         subst this
         have he:(xs++[ys])[i] = ys:=by simp [List.getElem_append_right,h1]
         rw [he]
         exact ⟨cs,h3,h4,h5⟩
     exact this len (Nat.le_refl _)
    obtain ⟨xs,hxl,hxs⟩:=hex
    have hones:∀ x∈xs,(∀ y∈x,y.one = true)∧(Zo (Em P e) x).cells = x∧x.length = P.cellsOf e∧G0 P n e x:=by
     intro x hx
     obtain ⟨i,hi,rfl⟩:=List.getElem_of_mem hx
     obtain ⟨cs,h1,h2,h3⟩:=hxs i hi
     have h4:∀ y∈xs[i],y.one = true:=by
      intro y hy
      obtain ⟨j,hj,rfl⟩:=List.getElem_of_mem hy
      exact (h2.2 j (cs[j]'(by rw [h2.1]; exact hj)) _ (List.getElem?_eq_getElem _) (List.getElem?_eq_getElem hj)).2
     exact ⟨h4,aS hc hce h3 h4,QE hc hce h3,h3⟩
    refine ⟨[.list (P.cellsOf e) (xs.map (Zo (Em P e)))],one _ _ ?_ rfl,by exact ⟨xs,rfl,by omega,fun x hx=>(hones x hx).2.2.2⟩⟩
    by_cases h0:len = 0
    ·subst h0
     obtain rfl:xs = []:=List.length_eq_zero_iff.1 hxl
     exact .emp _ _ _
    obtain ⟨b,off,spot⟩:=a
    have hsp:spot = none:=by
     have hz:0 < xs.length:=by omega
     obtain ⟨cs,h1,_,_⟩:=hxs 0 hz
     obtain ⟨_,h5,h6⟩:=World.cells?_some h1
     have:=h6 0 hsz
     rw [List.getElem?_eq_getElem (by omega)] at this
     have:=World.cell?_spot this
     simpa [Addr.add] using this
    subst hsp
    have cell0:∀ i (hi:i < xs.length) (j:Nat) y,xs[i][j]? = some y→∃ v,w.cell? ((⟨b,off,none⟩:Addr).add (i * P.cellsOf e + j)) = some v∧AB (fun _=>False) w v y:=by
     intro i hi j y hy
     obtain ⟨cs,h1,h2,h3⟩:=hxs i hi
     obtain ⟨_,h5,h6⟩:=World.cells?_some h1
     have hj:j < P.cellsOf e:=by
      have:=(List.getElem?_eq_some_iff.1 hy).1
      rw [QE hc hce h3] at this
      exact this
     have h7:=h6 j hj
     rw [List.getElem?_eq_getElem (by omega)] at h7
     refine ⟨cs[j],?_,(h2.2 j _ _ (List.getElem?_eq_getElem (by omega)) hy).1⟩
     rw [← h7]
     rw [DT,DT,DT,Nat.add_assoc]
    have hbl:b < w.heap.size:=by
     have hz:0 < xs.length:=by omega
     obtain ⟨cs,h1,_,_⟩:=hxs 0 hz
     obtain ⟨_,h5,h6⟩:=World.cells?_some h1
     have h7:=h6 0 hsz
     rw [List.getElem?_eq_getElem (by omega)] at h7
     rcases Nat.lt_or_ge b w.heap.size with h | h
     ·exact h
     ·simp [World.cell?,Addr.add,Array.getElem?_eq_none h] at h7
    have hget:∀ (i:Nat) (z:D),(xs.map (Zo (Em P e)))[i]? = some z→∃ hi:i < xs.length,z = Zo (Em P e) xs[i]∧z.cells = xs[i]:=by
     intro i z hz
     rw [List.getElem?_map] at hz
     obtain ⟨x,hx,rfl⟩:=Option.map_eq_some_iff.1 hz
     obtain ⟨hi,rfl⟩:=List.getElem?_eq_some_iff.1 hx
     exact ⟨hi,rfl,(hones _ (List.getElem_mem hi)).2.1⟩
    have key:=AB.list (O:=fun _=>False) (w:=w) b off cap (P.cellsOf e) (xs.map (Zo (Em P e))) (fun i j=>(w.cell? ⟨b,off + i * P.cellsOf e + j,none⟩).getD undef)
     (fun h=>by have:=congrArg List.length h; rw [List.length_map,List.length_nil] at this; omega) hbl (fun h=>h) (by simp; omega)
     (fun z hz=>by obtain ⟨x,hx,rfl⟩:=List.mem_map.1 hz; rw [(hones x hx).2.1]; exact (hones x hx).2.2.1)
     (fun z hz y hy=>by obtain ⟨x,hx,rfl⟩:=List.mem_map.1 hz; rw [(hones x hx).2.1] at hy; exact (hones x hx).1 y hy)
     (fun i z j y hz hy=>by
      obtain ⟨hi,_,h2⟩:=hget i z hz
      rw [h2] at hy
      obtain ⟨v,h3,_⟩:=cell0 i hi j y hy
      rw [DT,← Nat.add_assoc] at h3
      rw [h3]; rfl)
     (fun i z j y hz hy=>by
      obtain ⟨hi,_,h2⟩:=hget i z hz
      rw [h2] at hy
      obtain ⟨v,h3,h4⟩:=cell0 i hi j y hy
      rw [DT,← Nat.add_assoc] at h3
      rw [h3]
      exact h4)
    rw [show (xs.map (Zo (Em P e))).length = len by simp [hxl]] at key
    exact key
   ·rename_i fs
    simp only [Bool.and_eq_true,beq_iff_eq] at hcl
    obtain ⟨hT,hlay⟩:=hcl
    obtain ⟨xs,n',en,_,hlen,hxl,hxs⟩:=DataW.trod_struct hu h
    obtain rfl:n = n':=by omega
    obtain ⟨ys,hy1,hy2,hy3⟩:=TB hc (fun t cs x=>We hc n t cs x) fs.toList 0 _ cs hlay hlen (fun f hf=>List.all_eq_true.1 hT f hf) (fun f hf=>by
     obtain ⟨i,hi,e⟩:=List.getElem_of_mem hf
     have hi':i < fs.size:=by simpa using hi
     have:=hxs i f (by rw [← e]; simp [hi'])
     rw [List.getElem?_eq_getElem (by omega)] at this
     exact ⟨_,this⟩)
    refine ⟨ys,by simpa using hy2,?_⟩
    exact ⟨by omega,fun f hf=>by simpa using (hy3 f hf).2⟩
   ·cases hcl
theorem cb {ts:List TypeId} (hc:Q1 P ts = true) {t:TypeId} (ht:ts.contains t = true) {v:Value} (hv:Em P t = true→∃ cs,v = .agg cs) (hv1:Em P t = false→v.cells = #[v]) {d:DataW H} {p:List MemPlace} (h:DataW.Trod enc P w base spare held t v d p) :
 ∃ n ys,G0 P n t ys∧AB (fun _=>False) w v (Zo (Em P t) ys):=by
 obtain ⟨n,h⟩:=h
 obtain ⟨ys,h1,h2⟩:=We hc n t _ _ ht h
 refine ⟨n,ys,h2,?_⟩
 cases ha:Em P t with
 | true =>
   obtain ⟨cs,rfl⟩:=hv ha
   have h1:Bo (fun _=>False) w cs.toList ys:=h1
   refine .agg cs ys (by simpa using h1.1) (fun y hy=>?_) fun i v y hi hy=>(h1.2 i v y (by simpa using hi) hy).1
   obtain ⟨j,hj,rfl⟩:=List.getElem_of_mem hy
   exact (h1.2 j (cs.toList[j]'(by rw [h1.1]; exact hj)) _ (List.getElem?_eq_getElem _) (List.getElem?_eq_getElem hj)).2
 | false =>
   have h1:Bo (fun _=>False) w v.cells.toList ys:=h1
   rw [hv1 ha] at h1
   have hl:=h1.1
   match ys,hl with
   | [y],_=>exact (h1.2 0 v y rfl rfl).1
theorem Qa {α:Type} {n:Nat} {t e:TypeId} {ys:List D} (ht:P.underlying t = some (.slice e)) (h:G0 P n t ys) {f:α→D} {p:α→Prop} (h1:∀ m x,G0 P m e x→∃ a,Zo (Em P e) x = f a∧p a) :
 ∃ l:List α,ys = [.list (P.cellsOf e) (l.map f)]∧l.length≤maxLen∧∀ a∈l,p a:=by
 cases n with
 | zero=>exact h.elim
 | succ n =>
   unfold G0 at h
   rw [ht] at h
   obtain ⟨xs,rfl,hl,hx⟩:=h
   have:∃ l:List α,xs.map (Zo (Em P e)) = l.map f∧l.length = xs.length∧∀ a∈l,p a:=by
    clear hl
    induction xs with
    | nil=>exact ⟨[],rfl,rfl,fun a ha=>by simp at ha⟩
    | cons x r ih =>
      obtain ⟨a,h2,h3⟩:=h1 n x (hx x (by simp))
      obtain ⟨l,h4,h5,h6⟩:=ih fun y hy=>hx y (by simp [hy])
      refine ⟨a :: l,by rw [List.map_cons,h2,h4]; rfl,by simp [h5],fun b hb=>?_⟩
      rcases List.mem_cons.1 hb with rfl | hb
      ·exact h3
      ·exact h6 b hb
   obtain ⟨l,h2,h3,h4⟩:=this
   exact ⟨l,by rw [h2],by omega,h4⟩
end
end Go.Abs
