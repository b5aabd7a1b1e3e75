/- M3 -/
import Derived.Test.YtjgeigjjfcnojaaGreatDoorM2
import Derived.Tactics
import Derived.Shelf.Sort.Plain
import Derived.Shelf.Slices.In.SortNone
import Derived.Sort.OwnSortedInts
import Derived.Shelf.Slices.CompactI
import Derived.Lib.SlKept
import Derived.Lib.SliceRun
import Derived.ChangeSlices
import Derived.OpenShut
set_option linter.unusedVariables false
set_option linter.unusedSimpArgs false
namespace Go.Abs
open Go.RowKit (Below)
section
variable {P:Program} {X:Cx} {G:Nat→Prop} {β:Nat→Value} {S:AS} {a:Act} {w:World} {o:Oper}
theorem VB {α:Type} {x:Array α} {p:α} (h:x.toList = [p]):x = #[p]:=by cases x; simp_all
theorem IG {α:Type} {x:Array α} {p q:α} (h:x.toList = [p,q]):x = #[p,q]:=by cases x; simp_all
theorem AJ {K:FC→Prop} (h:∃ e,K e∧Cw P X G S a w o e):∃ e,K e∧(EX S e.homes = true→Cw P X G S a w o e):=by
 obtain ⟨e,h1,h2⟩:=h
 exact ⟨e,h1,fun _=>h2⟩
set_option maxHeartbeats 2000000 in
theorem bC (h:AG X G β S a w) {g:Option (Nat × Bool)} (hg:B7 g a) {d:Nat} (hd:d < S.length) {K:FC→Prop} (hy:yA P (σOf S) (ρOf S) g o d (As S d).ver K) :
 ∃ e,K e∧(EX S e.homes = true→Cw P X G S a w o e):=by
 unfold yA at hy
 split at hy
 ·rename_i x ho
  exact AJ ⟨_,hy,Vh h hg (.inl ho)⟩
 ·rename_i x ho
  split at hy
  ·rename_i hn
   split at hy
   ·rename_i e _
    obtain ⟨h1,hy⟩:=Aq hy
    exact AJ ⟨_,hy,ay h hd ho hn h1⟩
   ·exact hy.elim
  ·exact AJ ⟨_,hy,Vh h hg (.inr ho)⟩
 ·rename_i t x y ho
  split at hy
  ·rename_i hc; have h1:=ρ_sound h hg (.tmp t); rw [hc] at h1; exact h1.elim
  ·rename_i c hc
   split at hy
   ·rename_i h1
    split at hy
    ·rename_i b2 h2
     exact AJ ⟨_,hy,XN h hg ho hc h1 h2⟩
    ·exact hy.elim
   ·rename_i b1 h1
    split at hy
    ·rename_i h2
     exact AJ ⟨_,hy,XO h hg ho hc h1 h2⟩
    ·rename_i b2 h2
     exact AJ ⟨_,hy,Zw h hg ho hc h1 h2⟩
    ·exact hy.elim
   ·exact hy.elim
  ·exact hy.elim
 ·rename_i T x ho
  exact AJ (au h hg hd ho hy)
 ·rename_i T ho
  split at hy
  ·rename_i l hl
   exact AJ (XJ h hd ho hl hy)
  ·exact hy.elim
 ·rename_i t parts ho
  split at hy
  ·rename_i fields hu
   split at hy
   ·rename_i zd hzd
    obtain ⟨hall,hy⟩:=Aq hy
    split at hy
    ·exact AJ (T2 h hg ho hu hzd hall hy)
    ·rcases hy.go with hy | hy
     ·exact AJ (T2 h hg ho hu hzd hall hy)
     ·exact AJ (WI h hg ho hu hzd hall hy)
   ·exact hy.elim
  ·exact hy.elim
 ·rename_i t n parts ho
  split at hy
  ·rename_i e hu
   exact AJ (SP h hg hd ho hu hy)
  ·exact hy.elim
 ·rename_i t x y ho
  split at hy
  ·rename_i e hu
   split at hy
   ·rename_i k l hl
    split at hy
    ·rename_i k' c hc
     obtain ⟨⟨h1,h2⟩,hy⟩:=Aq hy
     exact AJ (Zv h hg hd ho hu h1 h2 hl hc hy)
    ·exact hy.elim
   ·exact hy.elim
  ·exact hy.elim
 ·rename_i f first caps ho
  split at hy
  ·rename_i hf
   split at hy
   ·exact AJ (Vg h hg ho hf hy)
   ·rcases hy.go with hy | hy
    ·exact AJ (Vg h hg ho hf hy)
    ·exact AJ (XM h hg ho hf hy)
  ·exact hy.elim
 ·rename_i t x ho
  have hr:=ρ_sound h hg x
  split at hy
  ·rename_i hx; rw [hx] at hr; exact hr.elim
  ·rename_i id n off cs hx
   rw [hx] at hr
   exact AJ (WL h ho hr hy)
  ·rename_i cs hx
   rw [hx] at hr
   exact AJ (WJ h ho hr hy)
  ·rename_i id n sz e xs i off hx
   rw [hx] at hr
   exact AJ (WK h ho hr hy)
  ·exact hy.elim
 ·rename_i t p x ho
  obtain ⟨hi,hy⟩:=Aq hy
  obtain ⟨i,hi⟩:=Option.isSome_iff_exists.1 hi
  have hr:=ρ_sound h hg p
  split at hy
  ·rename_i id n off cs hx
   rw [hx] at hr
   exact AJ (VQ h hg ho hr hi hy)
  ·rename_i id n sz e xs k off hx
   rw [hx] at hr
   exact AJ (VP h hg ho hr hi hy)
  ·exact hy.elim
 ·rename_i x ho
  have hr:=ρ_sound h hg x
  split at hy
  ·rename_i id n off cs hx
   rw [hx] at hr
   have hb:=Kd (tm:=a.tmps) hr
   obtain ⟨_,_,b,_,hv⟩:=hr
   exact AJ ⟨_,hy,IJ h ho (.inl ⟨_,hv⟩) hb.1 hb.2⟩
  ·rename_i cs hx
   rw [hx] at hr
   have hb:=Kd (tm:=a.tmps) hr
   obtain ⟨b,off,hv,_⟩:=Uk hr
   exact AJ ⟨_,hy,IJ h ho (.inl ⟨_,hv⟩) hb.1 hb.2⟩
  ·rename_i f cs hx
   rw [hx] at hr
   have hb:=Kd (tm:=a.tmps) hr
   obtain ⟨vs,hv,_⟩:=YY hr
   exact AJ ⟨_,hy,IJ h ho (.inr ⟨f,vs,hv⟩) hb.1 hb.2⟩
  ·rename_i id n sz e xs i off hx
   rw [hx] at hr
   have hb:=Kd (tm:=a.tmps) hr
   obtain ⟨_,_,b,m,cap,_,hv⟩:=hr
   exact AJ ⟨_,hy,IJ h ho (.inl ⟨_,hv⟩) hb.1 hb.2⟩
  ·exact hy.elim
 ·rename_i op t x y U ho
  have hrx:=ρ_sound h hg x
  have hry:=ρ_sound h hg y
  split at hy
  ·rename_i hp; rw [hp] at hrx; exact hrx.elim
  ·rename_i p hp
   rw [hp] at hrx
   split at hy
   ·rename_i hq; rw [hq] at hry; exact hry.elim
   ·rename_i q hq
    rw [hq] at hry
    exact AJ (XK h ho hrx hry hy)
   ·exact hy.elim
  ·exact hy.elim
 ·rename_i op t x ho
  have hrx:=ρ_sound h hg x
  split at hy
  ·rename_i hp; rw [hp] at hrx; exact hrx.elim
  ·rename_i p hp
   rw [hp] at hrx
   exact AJ (Zx h ho hrx hy)
  ·exact hy.elim
 ·rename_i s t x ho
  have hrx:=ρ_sound h hg x
  split at hy
  ·rename_i ds hs
   split at hy
   ·rename_i k ht
    split at hy
    ·rename_i hx; rw [hx] at hrx; exact hrx.elim
    ·rename_i k' n hx
     rw [hx] at hrx
     exact AJ ⟨_,hy,VJ h ho ht ⟨_,hs⟩ hrx⟩
    ·exact hy.elim
   ·rename_i ht
    split at hy
    ·rename_i hx; rw [hx] at hrx; exact hrx.elim
    ·rename_i b hx
     rw [hx] at hrx
     exact AJ ⟨_,hy,VK h ho ht ⟨_,hs⟩ hrx⟩
    ·exact hy.elim
   ·rename_i e ht
    split at hy <;> try exact hy.elim
    rename_i he
    split at hy
    ·rename_i hx; rw [hx] at hrx; exact hrx.elim
    ·rename_i b hx
     rw [hx] at hrx
     exact AJ ⟨_,hy,T3 h ho ht he ⟨_,hs⟩ hrx⟩
    ·exact hy.elim
   ·exact hy.elim
  ·exact hy.elim
 ·rename_i s x f ho
  split at hy
  ·rename_i fields hu
   split at hy
   ·rename_i fd hf
    obtain ⟨hz,hy⟩:=Aq hy
    exact AJ (T4 h hg ho hu hf hz hy)
   ·exact hy.elim
  ·exact hy.elim
 ·rename_i s x f ho
  have hrx:=ρ_sound h hg x
  split at hy
  ·rename_i fields hu
   split at hy
   ·rename_i fd hf
    split at hy
    ·rename_i hx; rw [hx] at hrx; exact hrx.elim
    ·rename_i cs hx
     rw [hx] at hrx
     exact AJ (XL h ho hu hf hrx hy)
    ·exact hy.elim
   ·exact hy.elim
  ·exact hy.elim
 ·rename_i t x ix ho
  have hrx:=ρ_sound h hg x
  have hri:=ρ_sound h hg ix
  split at hy
  ·rename_i e hu
   split at hy
   ·rename_i k i hi
    rw [hi] at hri
    split at hy
    ·rename_i sz xs hx
     rw [hx] at hrx
     obtain ⟨⟨hs,hs0⟩,hy⟩:=Aq hy
     exact AJ (QA h ho hu hs hs0 hri hrx hy)
    ·rename_i sz xs hx
     rw [hx] at hrx
     obtain ⟨⟨hs,hs0⟩,hy⟩:=Aq hy
     exact AJ (QA h ho hu hs hs0 hri hrx.1 hy)
    ·rename_i id n sz e' xs hx
     rw [hx] at hrx
     obtain ⟨hs,hy⟩:=Aq hy
     obtain ⟨⟨h0,h1⟩,hy⟩:=hy
     exact AJ ⟨_,hy,T6 h ho hu hri hs hrx h0 h1⟩
    ·exact hy.elim
   ·exact hy.elim
  ·rename_i n e hu
   split at hy
   ·rename_i k i hi
    rw [hi] at hri
    split at hy
    ·rename_i cs hx
     rw [hx] at hrx
     obtain ⟨hs,hy⟩:=Aq hy
     obtain ⟨hn,hy⟩:=hy
     exact AJ (T5 h ho hu hs hri hrx hn hy)
    ·exact hy.elim
   ·exact hy.elim
  ·exact hy.elim
 ·rename_i t x ix ho
  have hrx:=ρ_sound h hg x
  have hri:=ρ_sound h hg ix
  split at hy
  ·rename_i hu
   split at hy
   ·rename_i k i hi
    rw [hi] at hri
    split at hy
    ·rename_i b hx
     rw [hx] at hrx
     obtain ⟨⟨h0,h1⟩,hy⟩:=hy
     exact AJ ⟨_,hy,VL h ho hu hri hrx h0 h1⟩
    ·exact hy.elim
   ·exact hy.elim
  ·exact hy.elim
 ·rename_i t x lo hi mx ho
  have hrx:=ρ_sound h hg x
  split at hy
  ·rename_i hu
   cases mx with
   | some m=>exact hy.elim
   | none =>
     simp only at hy
     split at hy
     ·rename_i b hx
      rw [hx] at hrx
      obtain ⟨l,hy,hl⟩:=Mf h hg hy
      obtain ⟨r,hy,hr⟩:=Mf h hg hy
      obtain ⟨⟨h0,h1,h2⟩,hy⟩:=hy
      exact AJ ⟨_,hy,VO h ho hu hrx hl hr h0 h1 h2⟩
     ·exact hy.elim
  ·rename_i e hu
   split at hy
   ·rename_i sz xs hx
    rw [hx] at hrx
    obtain ⟨⟨hs,hs0⟩,hy⟩:=Aq hy
    exact AJ (JB h hg ho hu hs hs0 (bx:=[]) trivial hrx hy)
   ·rename_i sz hx
    rw [hx] at hrx
    obtain ⟨⟨hs,hs0⟩,hy⟩:=Aq hy
    exact AJ (JB h hg ho hu hs hs0 (bx:=[]) (xs:=[]) trivial (AB.norm hrx) hy)
   ·rename_i sz xs hx
    rw [hx] at hrx
    obtain ⟨⟨hs,hs0⟩,hy⟩:=Aq hy
    exact AJ (JB h hg ho hu hs hs0 (bx:=[]) trivial hrx.1 hy)
   ·rename_i id n sz e' xs hx
    rw [hx] at hrx
    obtain ⟨⟨hs,hs0⟩,hy⟩:=Aq hy
    rcases hy.go with hy | hy
    ·obtain ⟨y,b,hK,hF,_,hh⟩:=Hc (x:=X) (G:=G) (a:=a) (K:=fun y b=>y = .list sz xs∧b = [(id,BP.frow sz xs,n)]) hrx ⟨rfl,rfl⟩
     obtain ⟨rfl,rfl⟩:=hK
     exact AJ (JB h hg ho hu hs hs0 hF (hh.now h hF) hy)
    ·cases lo with
     | some q=>exact hy.elim
     | none =>
       cases mx with
       | some q=>exact hy.elim
       | none =>
         simp only at hy
         obtain ⟨r,hy,hr⟩:=Mf h hg hy
         obtain ⟨⟨h0,h2⟩,hy⟩:=hy
         exact AJ ⟨_,hy,aw h ho hu hs hs0 hrx hr h0 h2⟩
   ·exact hy.elim
  ·exact hy.elim
 ·rename_i c ho
  split at hy
  ·rename_i fo hc
   split at hy
   ·rename_i f caps hf
    exact Zt h hg hd ho hc hf hy
   ·rename_i f cs k id n rid rn hf
    split at hy <;> try exact hy.elim
    rename_i hr
    exact AJ (XP h hg ho hc hf hr hy)
   ·exact hy.elim
  ·rename_i hc
   split at hy
   ·rename_i x t hx ht
    have hce:c = ⟨.builtin .len,#[x],#[t]⟩:=by
     obtain ⟨callee,args,ts⟩:=c
     simp only at hc hx ht
     rw [hc,VB hx,VB ht]
    rw [hce] at ho
    have hrx:=ρ_sound h hg x
    split at hy
    ·rename_i hu
     split at hy
     ·rename_i hs; rw [hs] at hrx; exact hrx.elim
     ·rename_i s hs
      rw [hs] at hrx
      exact AJ ⟨_,hy,Zu h ho (Ih hrx) hu⟩
     ·exact hy.elim
    ·rename_i e hu
     split at hy
     ·rename_i hs; rw [hs] at hrx; exact hrx.elim
     ·obtain ⟨sz,ys,hK,ad,c',hv,_⟩:=Pb h hrx hy
      exact AJ ⟨_,hK,ax h ho ⟨ad,c',hv⟩ hu⟩
    ·exact hy.elim
   ·exact hy.elim
  ·rename_i hc
   split at hy
   ·rename_i x y hx
    have hce:c = ⟨.builtin .min,#[x,y],c.argTypes⟩:=by
     obtain ⟨callee,args,ts⟩:=c
     simp only at hc hx
     rw [hc,IG hx]
    rw [hce] at ho
    split at hy
    ·rename_i k m hm
     have hrx:=ρ_sound h hg x
     rw [hm] at hrx
     split at hy
     ·rename_i k' n hn
      have hry:=ρ_sound h hg y
      rw [hn] at hry
      exact AJ ⟨_,hy,(So h ho hrx hry).1 rfl⟩
     ·exact hy.elim
    ·exact hy.elim
   ·exact hy.elim
  ·rename_i hc
   split at hy
   ·rename_i x y hx
    have hce:c = ⟨.builtin .max,#[x,y],c.argTypes⟩:=by
     obtain ⟨callee,args,ts⟩:=c
     simp only at hc hx
     rw [hc,IG hx]
    rw [hce] at ho
    split at hy
    ·rename_i k m hm
     have hrx:=ρ_sound h hg x
     rw [hm] at hrx
     split at hy
     ·rename_i k' n hn
      have hry:=ρ_sound h hg y
      rw [hn] at hry
      exact AJ ⟨_,hy,(So h ho hrx hry).2 rfl⟩
     ·exact hy.elim
    ·exact hy.elim
   ·exact hy.elim
  ·rename_i hc
   split at hy
   ·rename_i x y t u hx ht
    have hce:t = u→c = ⟨.builtin .append,#[x,y],#[t,t]⟩:=by
     intro e
     subst e
     obtain ⟨callee,args,ts⟩:=c
     simp only at hc hx ht
     rw [hc,IG hx,IG ht]
    split at hy
    ·rename_i e hu
     obtain ⟨⟨htu,hs0,hz⟩,hy⟩:=Aq hy
     rw [hce htu] at ho
     obtain ⟨sz',ys,hK,ad,c',hv,hys⟩:=Pb h (ρ_sound h hg y) hy
     have hrx:=ρ_sound h hg x
     split at hK
     ·rename_i id n sz e' xs hxr
      obtain ⟨⟨he,hsz⟩,hK2⟩:=Aq hK
      subst he
      rw [hxr] at hrx
      obtain ⟨⟨h1,h2,h3⟩,hK3⟩:=hK2
      exact AJ ⟨_,hK3,WH h ho hu hrx hsz hz hv hys h1 h2 (by rw [hsz]; exact h3)⟩
     ·rename_i s hxr
      rw [hxr] at hrx
      have hrx:AB (OS β X S) w (a.eval x) (.nil s):=hrx
      obtain ⟨⟨h1,h2,h3⟩,hK3⟩:=hK
      have hx0:∃ ad0,a.eval x = .slice ad0 0 0:=by
       generalize a.eval x = v at hrx
       cases hrx
       exact ⟨_,rfl⟩
      obtain ⟨ad0,hx0⟩:=hx0
      exact AJ ⟨_,hK3,Np h hd ho hu (xs:=[]) rfl hs0 hz hv hys (by simpa using h1) (by simpa using h2) h3 (.inl ⟨ad0,hx0,rfl⟩)⟩
     ·rename_i sz xs hxr
      obtain ⟨hsz,hK2⟩:=Aq hK
      rw [hxr] at hrx
      obtain ⟨⟨⟨h1,h2,h3⟩,h4⟩,hK3⟩:=hK2
      exact AJ ⟨_,hK3,Np h hd ho hu hsz (by rw [hsz]; exact hs0) hz hv hys h1 h2 (by rw [hsz]; exact h3) (.inr ⟨hrx.1,hrx.2,h4⟩)⟩
     ·exact hK.elim
    ·exact hy.elim
   ·exact hy.elim
  ·exact hy.elim
 ·rename_i t i ho
  have hrx:=ρ_sound h hg t
  split at hy
  ·rename_i xs hx
   rw [hx] at hrx
   split at hy
   ·rename_i y hyy
    exact AJ ⟨_,hy,(Q9 h ho hrx hyy).1 _ rfl⟩
   ·rename_i id n hyy
    exact AJ ⟨_,hy,(Q9 h ho hrx hyy).2 _ _ rfl⟩
   ·exact hy.elim
  ·exact hy.elim
 ·rename_i t ho
  split at hy
  ·exact AJ ⟨_,hy,VM h hd ho⟩
  ·exact hy.elim
 ·rename_i t x ix ok ho
  split at hy
  ·rename_i kt et hu
   unfold YN at hy
   split at hy <;> try exact hy.elim
   rename_i id n es hx
   split at hy <;> try exact hy.elim
   rename_i q hq
   split at hy <;> try exact hy.elim
   rename_i kd hkq
   obtain ⟨⟨hku,hkk⟩,hy⟩:=hy
   split at hy <;> try exact hy.elim
   rename_i z hz
   obtain ⟨v,b,rfl,rfl,hy⟩:=hy.go
   have hd':=WM h hg ho hu hx hq hkq hku hkk hz
   cases ok
   ·exact AJ ⟨_,hy,by simpa using hd'⟩
   ·exact AJ ⟨_,hy,by simpa using hd'⟩
  ·exact hy.elim
 ·rename_i t m k x ho
  split at hy
  ·rename_i kt et hu
   unfold cq at hy
   split at hy <;> try exact hy.elim
   rename_i id n es hm
   split at hy <;> try exact hy.elim
   rename_i q hq
   split at hy <;> try exact hy.elim
   rename_i y hyy
   split at hy <;> try exact hy.elim
   rename_i kd hkq
   obtain ⟨⟨hb,hku,hkk⟩,hy⟩:=hy
   exact AJ ⟨_,hy,WN h hg ho hu hm hq hyy hb hkq hku hkk⟩
  ·exact hy.elim
 ·exact hy.elim
theorem Yg {t:TypeId} {cs:List D} {K:D→Prop} (hy:YH P t cs K):∃ x,K x:=by
 unfold YH at hy
 split at hy
 ·split at hy
  ·rw [By] at hy
   exact ⟨_,(Aq hy).2⟩
  ·exact hy.elim
 ·split at hy
  ·exact ⟨_,hy⟩
  ·exact hy.elim
 ·exact hy.elim
theorem al {op:BinOp} {k:IntKind} {m n:Int} {K:D→Prop} (hy:Sg op k m n K):∃ x,K x:=by
 cases op <;> simp only [Sg] at hy <;> first | exact hy.elim | exact ⟨_,hy⟩ | exact ⟨_,hy.2⟩
theorem cm {op:BinOp} {x y:ByteArray} {K:D→Prop} (hy:Yy op x y K):∃ x,K x:=by
 cases op <;> simp only [Yy] at hy <;> first | exact hy.elim | exact ⟨_,hy⟩ | exact ⟨_,hy.2⟩
theorem aB:∀ (n:Nat) {t:TypeId} {xs ys:List D} {K:Bool→Prop},WO P n t xs ys K→∃ b,K b
 | 0,_,_,_,_,h=>h.elim
 | n + 1,t,xs,ys,K,h=>by
   unfold WO at h
   split at h
   ·split at h
    ·exact ⟨_,(Aq h).2⟩
    ·exact h.elim
   ·split at h
    ·exact ⟨_,h⟩
    ·exact h.elim
   ·split at h
    ·exact ⟨_,h⟩
    ·exact h.elim
   ·obtain ⟨_,h⟩:=h
    ·have key:∀ (l:List Field) (K:Bool→Prop),List.rec (motive:=fun _=>(Bool→Prop)→Prop) (fun K=>K true)
      (fun f _ ih K=>WO P n f.type ((xs.drop f.offset).take (AL P f.type)) ((ys.drop f.offset).take (AL P f.type)) fun a=>ih fun b=>K (a && b)) l K→∃ b,K b:=by
      intro l
      induction l with
      | nil=>intro K h; exact ⟨_,h⟩
      | cons f r ih =>
        intro K h
        obtain ⟨a,ha⟩:=aB n h
        obtain ⟨b,hb⟩:=ih _ ha
        exact ⟨_,hb⟩
     exact key _ _ h
   ·exact h.elim
theorem bH {t:TypeId} {op:BinOp} {x y:D} {K:D→Prop} (hy:W7 P t op x y K):∃ x,K x:=by
 cases x <;> cases y <;> simp only [W7] at hy
 case bool.bool =>
  split at hy
  ·cases op <;> first | exact hy.elim | exact ⟨_,hy⟩
  ·exact hy.elim
 case int.int k m k' n =>
  have sh:op = .shl∨op = .shr∨(op≠.shl∧op≠.shr):=by cases op <;> simp
  rcases sh with rfl | rfl | ⟨hs1,hs2⟩
  ·exact ⟨_,hy.2⟩
  ·exact ⟨_,hy.2⟩
  ·have hb':if k = k' then Sg op k m n K else False:=by cases op <;> first | exact hy | exact absurd rfl hs1 | exact absurd rfl hs2
   exact al (Aq hb').2
 case str.str=>exact cm hy
 case agg.agg =>
  obtain ⟨_,hy⟩:=hy
  cases op <;> first | exact hy.elim | (obtain ⟨b,hb⟩:=aB 12 hy; exact ⟨_,hb⟩)
theorem dw {op:UnOp} {x:D} {K:D→Prop} (hy:du op x K):∃ x,K x:=by
 cases op <;> cases x <;> simp only [du] at hy <;> exact ⟨_,hy⟩
theorem ZC {r:RV} {K:Nat→List D→Prop} (hy:Lw r K):∃ n xs,K n xs:=by
 cases r <;> simp only [Lw] at hy
 case d x=>cases x <;> simp only at hy <;> exact ⟨_,_,hy⟩
 case lim=>exact ⟨_,_,hy⟩
 case row=>exact ⟨_,_,hy⟩
theorem cN {r:RV} {K:D→Bx→Prop} (hy:UZ r K):∃ x b,K x b:=by
 cases r <;> simp only [UZ] at hy <;> exact ⟨_,_,hy⟩
theorem OP {σ:Nat→Nat→RV}:∀ {cs:List C} {K:List D→Bx→Prop},CK σ cs K→∃ l b,K l b
 | [],K,h=>⟨_,_,h⟩
 | .d x :: r,K,h=>by
   have h:CK σ r fun l b=>K (x :: l) b:=h
   obtain ⟨l,b,h⟩:=OP h
   exact ⟨_,_,h⟩
 | .sl id n :: r,K,h=>by
   have h:UZ (σ id n) fun x b=>CK σ r fun l b'=>K (x :: l) (b++b'):=h
   obtain ⟨x,b,h⟩:=cN h
   obtain ⟨l,b',h⟩:=OP h
   exact ⟨_,_,h⟩
 | .own _ _ _ :: r,K,h=>h.elim
theorem cZ {σ:Nat→Nat→RV} {t:TypeId} {cs:List C} {K:FC→Prop} (hy:bE P σ t cs K):∃ e,K e∧e.av.guards = []:=by
 unfold bE at hy
 split at hy
 ·split at hy
  ·rw [By] at hy
   have hy:=(Aq hy).2
   split at hy
   ·obtain ⟨l,b,h⟩:=OP hy
    exact ⟨_,h,rfl⟩
   ·rcases hy.go with hy | hy
    ·obtain ⟨l,b,h⟩:=OP hy
     exact ⟨_,h,rfl⟩
    ·exact ⟨_,(Aq hy).2,rfl⟩
  ·exact hy.elim
 ·split at hy
  ·exact ⟨_,hy,rfl⟩
  ·exact ⟨_,hy,rfl⟩
  ·exact hy.elim
 ·exact hy.elim
theorem W6 (r:RV):(back r).guards = []:=by cases r <;> rfl
theorem X4 {σ:Nat→Nat→RV} {ρ:Option (Nat × Bool)→Operand→RV} {g:Option (Nat × Bool)} {d n:Nat} {K:FC→Prop} (hh:Jg o.op = true) (hy:yA P σ ρ g o d n K):∃ e,K e∧e.av.guards = []:=by
 unfold yA at hy
 split at hy
 all_goals (rename_i ho; try (rw [ho] at hh; simp [Jg] at hh; done))
 ·exact ⟨_,hy,W6 _⟩
 ·split at hy
  ·exact ⟨_,hy,rfl⟩
  ·split at hy
   ·split at hy
    ·exact ⟨_,hy,rfl⟩
    ·exact hy.elim
   ·split at hy
    ·exact ⟨_,hy,rfl⟩
    ·exact ⟨_,hy,rfl⟩
    ·exact hy.elim
   ·exact hy.elim
  ·exact hy.elim
 ·split at hy
  ·exact ⟨_,hy,rfl⟩
  ·exact cZ hy
  ·obtain ⟨x,hx⟩:=Yg hy; exact ⟨_,hx,rfl⟩
  ·obtain ⟨_,y,_,hy⟩:=hy.go
   obtain ⟨x,hx⟩:=Yg hy; exact ⟨_,hx,rfl⟩
  ·exact hy.elim
 ·split at hy
  ·exact ⟨_,hy,rfl⟩
  ·split at hy
   ·exact ⟨_,hy,rfl⟩
   ·obtain ⟨x,hx⟩:=bH hy; exact ⟨_,hx,rfl⟩
   ·exact hy.elim
  ·exact hy.elim
 ·split at hy
  ·exact ⟨_,hy,rfl⟩
  ·obtain ⟨x,hx⟩:=dw hy; exact ⟨_,hx,rfl⟩
  ·exact hy.elim
 ·split at hy
  ·split at hy
   ·split at hy
    ·exact ⟨_,hy,rfl⟩
    ·exact ⟨_,hy,rfl⟩
    ·exact hy.elim
   ·split at hy
    ·exact ⟨_,hy,rfl⟩
    ·exact ⟨_,hy,rfl⟩
    ·exact hy.elim
   ·split at hy <;> try exact hy.elim
    split at hy
    ·exact ⟨_,hy,rfl⟩
    ·exact ⟨_,hy,rfl⟩
    ·exact hy.elim
   ·exact hy.elim
  ·exact hy.elim
 ·split at hy
  ·split at hy
   ·have hy:=(Aq hy).2
    split at hy
    ·exact ⟨_,hy,rfl⟩
    ·exact ⟨_,hy,rfl⟩
    ·rw [By] at hy; exact ⟨_,hy,rfl⟩
    ·exact ⟨_,hy,rfl⟩
    ·exact hy.elim
   ·exact hy.elim
  ·exact hy.elim
 ·split at hy
  ·split at hy
   ·split at hy
    ·exact ⟨_,hy,rfl⟩
    ·obtain ⟨x,hx⟩:=Yg hy; exact ⟨_,hx,rfl⟩
    ·exact hy.elim
   ·exact hy.elim
  ·exact hy.elim
 ·rw [ho] at hh
  split at hy
  ·rename_i hc; simp [Jg,hc] at hh
  ·split at hy
   ·split at hy
    ·split at hy
     ·exact ⟨_,hy,rfl⟩
     ·exact ⟨_,hy,rfl⟩
     ·exact hy.elim
    ·split at hy
     ·exact ⟨_,hy,rfl⟩
     ·obtain ⟨_,_,hx⟩:=ZC hy; exact ⟨_,hx,rfl⟩
    ·exact hy.elim
   ·exact hy.elim
  ·rename_i hc; simp [Jg,hc] at hh
  ·rename_i hc; simp [Jg,hc] at hh
  ·rename_i hc; simp [Jg,hc] at hh
  ·exact hy.elim
 ·exact hy.elim
end
end Go.Abs
set_option linter.unusedVariables false
set_option linter.unusedSimpArgs false
namespace Go.Abs
open Go.RowKit (Below)
theorem TE (v:AV) (K:AV→Prop):Tg v K = K v:=by
 cases v <;> simp only [Tg,JU]
 case under t w x=>cases x <;> simp only [JU]
theorem Vm (b:BP) (K:BP→Prop):VS b K = K b:=by
 cases b <;> simp only [VS,JU]
theorem GV:∀ (S:AS) (K:AS→Prop),EV S K = K S
 | [],_=>rfl
 | ⟨_,_,_⟩ :: r,K=>by rw [EV,GV r]; simp only [TE,Vm,JU]
theorem I4:∀ (l:List Nat) (K:List Nat→Prop),KT l K = K l
 | [],_=>rfl
 | x :: r,K=>by rw [KT,I4 r]
theorem Pa:∀ (S:AS) (d:Nat) (v:AV) (K:AS→Prop),OG S d v K = K (DC S d v)
 | [],_,_,_=>rfl
 | ⟨_,_,_⟩ :: _,0,_,_=>rfl
 | s :: r,d + 1,v,K=>by rw [OG,Pa r]; rfl
theorem Uq:∀ (S:AS) (d:Nat) (b:BP) (n:Nat) (K:AS→Prop),Tj S d b n K = K (AO S d b n)
 | [],_,_,_,_=>rfl
 | ⟨_,_,_⟩ :: _,0,_,_,_=>rfl
 | s :: r,d + 1,b,n,K=>by rw [Tj,Uq r]; rfl
theorem LM:∀ (b:Bx) (S:AS) (K:AS→Prop),NE b S K = K (Bg b S)
 | [],_,_=>rfl
 | (id,b,n) :: r,S,K=>by rw [NE,JU,Vm,Uq,LM r]; rfl
theorem V8 (dst:Option Nat) (e:FC) (S:AS) (K:AS→Prop):Zm dst e S K = K (UY dst e S):=by
 obtain ⟨v,bx,hm⟩:=e
 cases dst with
 | none=>simp only [Zm,LM]; rfl
 | some d=>simp only [Zm,TE,LM,Pa]; rfl
theorem Ll:∀ (S:AS) (d:Nat) (K:Nat→Prop),RX S d K→d < S.length∧K (As S d).ver
 | [],_,_,h=>h.elim
 | ⟨_,_,_⟩ :: _,0,_,h=>⟨by simp,h⟩
 | s :: r,d + 1,K,h=>by
   obtain ⟨h1,h2⟩:=Ll r d K h
   exact ⟨by simpa using h1,h2⟩
theorem QC:∀ (l:List Oper) (j:Nat),Sq l j = (l[j]?).bind (·.dst)
 | [],_=>rfl
 | _ :: _,0=>rfl
 | _ :: r,j + 1=>by simp only [Sq,List.getElem?_cons_succ]; exact QC r j
section
variable {P:Program} {X:Cx} {G:Nat→Prop} {β:Nat→Value} {S:AS} {a:Act} {w:World} {o:Oper}
def RZ (X:Cx) (G:Nat→Prop) (S:AS) (a:Act) (e:FC) (v:Value) (w':World):Prop :=
 ∃ β',AG X G β' (Bg e.bx S) a w'∧Il β' (AP (Bg e.bx S)) (OS β' X (Bg e.bx S)) w' a.tmps v e.av∧∀ u∈e.av.guards,G u
def ae (P:Program) (ops:Array Oper) (X:Cx) (G:Nat→Prop) (S:AS) (a:Act) (w:World) (o:Oper) (e:FC):Prop :=
 (Region.wanted o (yielded ops a.tmps) = true ∧
  ((∃ v w',(execOp a.eval o).run P w = .ok (.value v) w'∧RZ X G S a e v w') ∨
   (∃ w',(execOp a.eval o).run P w = .ok .skip w'∧RZ X G S a e undef w') ∨
   (∃ f args,(execOp a.eval o).run P w = .ok (.enter f args) w∧Calls P f args w fun e' w'=>∃ v,e' = .returned v∧RZ X G S a e v w'))) ∨
 (Region.wanted o (yielded ops a.tmps) = false∧RZ X G S a e undef w)
theorem Pi.toG {e:FC} {v:Value} {w':World} (h:Pi X G S a e v w'):RZ X G S a e v w':=by
 obtain ⟨β',h1,h2,h3⟩:=h
 exact ⟨β',h1,h2,by rw [h3]; simp⟩
theorem Pi.toU {e:FC} {v:Value} {w':World} {t:Nat} {want:Bool} (ht:G t) (hw:a.tmps[t]? = some (.bool want)) (h:Pi X G S a e v w'):RZ X G S a ⟨.under t want e.av,e.bx,[]⟩ v w':=by
 obtain ⟨β',h1,h2,h3⟩:=h
 refine ⟨β',h1,⟨fun _=>h2,fun hn=>absurd hw hn⟩,?_⟩
 intro u hu
 simp only [AV.guards,h3,List.mem_singleton] at hu
 rw [hu]; exact ht
theorem Cw.to {ops:Array Oper} {e e':FC} (hw:Region.wanted o (yielded ops a.tmps) = true) (hd:Cw P X G S a w o e)
 (hp:∀ v w',Pi X G S a e v w'→RZ X G S a e' v w'):ae P ops X G S a w o e':=by
 refine .inl ⟨hw,?_⟩
 rcases hd with ⟨v,w',h1,h2⟩ | ⟨w',h1,h2⟩ | ⟨f,args,h1,h2⟩
 ·exact .inl ⟨v,w',h1,hp v w' h2⟩
 ·exact .inr (.inl ⟨w',h1,hp _ w' h2⟩)
 ·exact .inr (.inr ⟨f,args,h1,h2.mono fun e' w' ⟨v,h3,h4⟩=>⟨v,h3,hp v w' h4⟩⟩)
theorem Vf {x:Option Nat} {K:Nat→Prop} (h:dK x K):K (x.getD 0):=by cases x <;> exact h
theorem Up:∀ (S:AS) (t:Nat) (v:AV),(As S t).av = v→DC S t v = S
 | [],_,_,_=>rfl
 | ⟨x,b,n⟩ :: r,0,v,h=>by simp only [As] at h; subst h; rfl
 | s :: r,t + 1,v,h=>by rw [DC,Up r t v h]
theorem Wr {t:Nat} {x:AV} (h:AG X G β S a w) (hx:(As S t).av = x) (hne:x≠.any):∃ v,a.tmps[t]? = some v∧Il β (AP S) (OS β X S) w a.tmps v x:=by
 have hlt:t < S.length:=by
  rcases Nat.lt_or_ge t S.length with h' | h'
  ·exact h'
  ·rw [JP S t h'] at hx; exact absurd hx.symm hne
 have hlt':t < a.tmps.size:=by rw [h.len]; exact hlt
 refine ⟨a.tmps[t],by simp [hlt'],?_⟩
 have:=h.slots t a.tmps[t] (by simp [hlt'])
 rwa [hx] at this
def Zi (lk:List Nat):Nat→Nat→AS→Option Bool→Prop
 | 0,_,_,_=>False
 | n + 1,t,S,r=>t∈lk∧((∃ b,(As S t).av = .d (.bool b)∧r = some b) ∨
     (∃ t' w' b r',(As S t).av = .under t' w' (.d (.bool b))∧Zi lk n t' S r'∧(r' = some w'∧r = some b∨r'≠some w'∧r = none)) ∨
     ∃ t' w',(As S t).av = .under t' w' .bot∧r = none)
theorem KN {S:AS} {t:Nat} {mk:Bool→AV} {b:Bool} {K:AS→Option Bool→Prop} (hb:(As S t).av = mk b):Vb S t mk b K↔K S (some b):=by
 unfold Vb
 cases b <;> simp only [Si] <;> rw [Pa,Up S t _ hb]
theorem PX {lk:List Nat}:∀ {n t:Nat} {S:AS} {K:AS→Option Bool→Prop},Zs lk n t S K→∃ r,K S r∧Zi lk n t S r
 | 0,_,_,_,h=>h.elim
 | n + 1,t,S,K,h=>by
   unfold Zs at h
   obtain ⟨hlk,h⟩:=Aq h
   have hlk:t∈lk:=by simpa using hlk
   split at h
   ·rename_i b hb
    exact ⟨some b,(KN hb).1 h,hlk,.inl ⟨b,hb,rfl⟩⟩
   ·rename_i t' w' b hb
    obtain ⟨r,h,hd⟩:=PX h
    have yes:r = some w'→Vb S t (fun b=>.under t' w' (.d (.bool b))) b K→∃ r,K S r∧Zi lk (n + 1) t S r:=fun e h =>
     ⟨some b,(KN (mk:=fun b=>.under t' w' (.d (.bool b))) hb).1 h,hlk,.inr (.inl ⟨t',w',b,r,hb,hd,.inl ⟨e,rfl⟩⟩)⟩
    have no:r≠some w'→K S none→∃ r,K S r∧Zi lk (n + 1) t S r:=fun e h=>⟨none,h,hlk,.inr (.inl ⟨t',w',b,r,hb,hd,.inr ⟨e,rfl⟩⟩)⟩
    match r,w',h,yes,no with
    | none,_,h,_,no=>exact no (by simp) h
    | some true,true,h,yes,_=>exact yes rfl h
    | some true,false,h,_,no=>exact no (by simp) h
    | some false,true,h,_,no=>exact no (by simp) h
    | some false,false,h,yes,_=>exact yes rfl h
   ·rename_i t' w' hb
    exact ⟨none,h,hlk,.inr (.inr ⟨t',w',hb,rfl⟩)⟩
   ·exact h.elim
theorem VI {lk:List Nat}:∀ {n t:Nat} {S:AS} {r:Option Bool} {K:AS→Option Bool→Prop},Zi lk n t S r→K S r→Zs lk n t S K
 | 0,_,_,_,_,h,_=>h.elim
 | n + 1,t,S,r,K,⟨hlk,h⟩,hK=>by
   unfold Zs
   rw [if_pos (by simpa using hlk)]
   rcases h with ⟨b,hb,rfl⟩ | ⟨t',w',b,r',hb,hd,h⟩ | ⟨t',w',hb,rfl⟩
   rotate_left 2
   ·rw [hb]; exact hK
   ·rw [hb]
    exact (KN hb).2 hK
   ·rw [hb]
    refine VI hd ?_
    rcases h with ⟨rfl,rfl⟩ | ⟨hne,rfl⟩
    ·cases w' <;> exact (KN (mk:=fun b=>.under t' _ (.d (.bool b))) hb).2 hK
    ·match r',w',hne with
     | none,_,_=>exact hK
     | some true,false,_=>exact hK
     | some false,true,_=>exact hK
     | some true,true,h=>exact absurd rfl h
     | some false,false,h=>exact absurd rfl h
theorem Zi.tmp {lk:List Nat} (h:AG X G β S a w):∀ {n t:Nat} {r:Option Bool},Zi lk n t S r→(∀ b,r = some b→a.tmps[t]? = some (.bool b))∧(r = none→∀ b,a.tmps[t]?≠some (.bool b))
 | 0,_,_,hd=>hd.elim
 | n + 1,t,r,⟨_,hd⟩=>by
   rcases hd with ⟨b,hb,rfl⟩ | ⟨t',w',b,r',hb,hd,hr⟩ | ⟨t',w',hb,rfl⟩
   rotate_left 2
   ·obtain ⟨v,hv,hrep⟩:=Wr h hb (by simp)
    refine ⟨fun b' e=>(by cases e),fun _ b'=>?_⟩
    by_cases hw:a.tmps[t']? = some (.bool w')
    ·exact (hrep.1 hw).elim
    ·rw [hv,hrep.2 hw]
     intro hh; cases hh
   ·obtain ⟨v,hv,hr⟩:=Wr h hb (by simp)
    exact ⟨fun b' e=>by cases e; rw [hv,DU hr],fun e=>by cases e⟩
   ·obtain ⟨v,hv,hrep⟩:=Wr h hb (by simp)
    obtain ⟨h1,h2⟩:=Zi.tmp h hd
    rcases hr with ⟨rfl,rfl⟩ | ⟨hne,rfl⟩
    ·exact ⟨fun b' e=>by cases e; rw [hv,DU (hrep.1 (h1 _ rfl))],fun e=>by cases e⟩
    ·refine ⟨fun b' e=>(by cases e),fun _ b'=>?_⟩
     have hnw:a.tmps[t']?≠some (.bool w'):=by
      cases r' with
      | none=>exact h2 rfl w'
      | some c=>rw [h1 c rfl]; intro hh; cases hh; exact hne rfl
     rw [hv,hrep.2 hnw]
     intro hh; cases hh
theorem Hw {want:Bool} {r:Option Bool} {go skip:Prop}:Tw want r go skip↔(r = some want∧go)∨(r≠some want∧skip):=by
 unfold Tw
 match r,want with
 | none,_=>simp
 | some true,true=>simp
 | some true,false=>simp
 | some false,true=>simp
 | some false,false=>simp
theorem Ux {g:Option (Nat × Bool)} {d n:Nat} {K:FC→Prop} (hy:yS P S g o d n K):(∃ x id v k,o.op = .move x∧ev S x = .ptr id v k∧K ⟨.ptr id v k,[],[]⟩)∨(IQ S o = false∧yA P (σOf S) (ρOf S) g o d n K):=by
 unfold yS at hy
 unfold IQ
 split at hy
 ·rename_i x ho
  split at hy
  ·rename_i id v k he
   exact .inl ⟨x,id,v,k,ho,he,hy⟩
  ·exact .inr ⟨rfl,hy⟩
 ·exact .inr ⟨rfl,hy⟩
theorem Uy (h:AG X G β S a w) {g:Option (Nat × Bool)} (hg:B7 g a) {d:Nat} (hd:d < S.length) {K:FC→Prop} (hy:yS P S g o d (As S d).ver K) :
 ∃ e,K e∧(EX S e.homes = true→Cw P X G S a w o e):=by
 rcases Ux hy with ⟨x,id,v,k,ho,he,hK⟩ | ⟨_,hy⟩
 ·refine ⟨_,hK,fun _=>AN h (v:=a.eval x) (by simp [execOp,ho]) ?_ rfl⟩
  cases x with
  | tmp t =>
    simp only [ev] at he
    simp only [Act.eval]
    by_cases ht:t < a.tmps.size
    ·have:=h.slots t a.tmps[t] (by simp [ht])
     rw [he] at this
     simpa [Array.getD,ht] using this
    ·have e:As S t = bz:=JP S t (by rw [← h.len]; exact Nat.le_of_not_lt ht)
     rw [e] at he; cases he
  | const c=>simp only [ev] at he; unfold XH at he; split at he <;> cases he
  | global q=>simp only [ev] at he; split at he <;> cases he
  | func f=>cases he
 ·exact bC h hg hd hy
theorem X5 {g:Option (Nat × Bool)} {d n:Nat} {K:FC→Prop} (hh:Jg o.op = true) (hy:yS P S g o d n K):∃ e,K e∧e.av.guards = []:=by
 rcases Ux hy with ⟨x,id,v,k,ho,he,hK⟩ | ⟨_,hy⟩
 ·exact ⟨_,hK,rfl⟩
 ·exact X4 hh hy
theorem Vt {ops:Array Oper} {done:List Nat} (h:AG X (·∈done) β S a w) {K:AS→FC→Prop} (hy:ZE P ops.toList done o S K) :
 ∃ e,K S e∧ae P ops X (·∈done) S a w o e:=by
 unfold ZE at hy
 split at hy
 ·rename_i hgd
  obtain ⟨hd,hy⟩:=Ll _ _ _ (Vf hy)
  obtain ⟨e,hK,hdo⟩:=Uy h (g:=none) (fun _ _ e=>by cases e) hd hy
  obtain ⟨hok,hK⟩:=Aq hK
  exact ⟨e,hK,(hdo hok).to (by simp [Region.wanted,hgd]) fun v w' hp=>hp.toG⟩
 ·rename_i j want hgd
  split at hy
  ·exact hy.elim
  ·rename_i t ht
   obtain ⟨hdone,hy⟩:=Aq hy
   have htd:t∈done:=by simpa using hdone
   have hyl:yielded ops a.tmps j = (match a.tmps[t]? with | some (.bool b)=>some b | _=>none):=by
    have:(ops[j]?).bind (·.dst) = some t:=by rw [← ht,QC]; simp
    simp only [yielded,this,Option.bind_some]
    cases a.tmps[t]? with
    | none=>rfl
    | some v=>cases v <;> rfl
   have hwant:Region.wanted o (yielded ops a.tmps) = true↔a.tmps[t]? = some (.bool want):=by
    simp only [Region.wanted,hgd,hyl]
    constructor
    ·intro hh
     split at hh
     ·rename_i b hb; simp at hh; rw [hb,hh]
     ·simp at hh
    ·intro hh; simp [hh]
   split at hy
   ·rename_i hh
    obtain ⟨hd,hy⟩:=Ll _ _ _ (Vf hy)
    by_cases hw:a.tmps[t]? = some (.bool want)
    ·obtain ⟨e,hK,hdo⟩:=Uy h (g:=some (t,want)) (fun _ _ e=>by cases e; exact hw) hd hy
     split at hK
     ·exact ⟨_,hK,(hdo rfl).to (hwant.2 hw) fun v w' hp=>hp.toU htd hw⟩
     ·exact hK.elim
    ·obtain ⟨e,hK,hgs⟩:=X5 hh hy
     split at hK
     ·rename_i v
      refine ⟨_,hK,.inr ⟨by rw [Bool.eq_false_iff]; exact fun hh=>hw (hwant.1 hh),β,h,⟨fun hh=>absurd hh hw,fun _=>rfl⟩,?_⟩⟩
      intro u hu
      simp only at hgs
      simp only [AV.guards,hgs,List.mem_singleton] at hu
      rw [hu]; exact htd
     ·exact hK.elim
   ·obtain ⟨r,hy,hdec⟩:=PX hy
    obtain ⟨hs1,hs2⟩:=hdec.tmp h
    rcases Hw.1 hy with ⟨hrw,hgo⟩ | ⟨hne,hK⟩
    ·have hbt:=hs1 want hrw
     obtain ⟨hd,hy⟩:=Ll _ _ _ (Vf hgo)
     obtain ⟨e,hK,hdo⟩:=Uy h (g:=some (t,want)) (fun _ _ e=>by cases e; exact hbt) hd hy
     obtain ⟨hok,hK⟩:=Aq hK
     exact ⟨e,hK,(hdo hok).to (hwant.2 hbt) fun v w' hp=>hp.toG⟩
    ·have hnw:a.tmps[t]?≠some (.bool want):=by
      cases r with
      | none=>exact hs2 rfl want
      | some c=>rw [hs1 c rfl]; intro hh; cases hh; exact hne rfl
     refine ⟨_,hK,.inr ⟨?_,β,h,⟨fun hh=>absurd hh hnw,fun _=>rfl⟩,fun u hu=>by simp [AV.guards] at hu; rw [hu]; exact htd⟩⟩
     rw [Bool.eq_false_iff]
     exact fun hh=>hnw (hwant.1 hh)
theorem AG.weaken {G':Nat→Prop} (h:AG X G β S a w) (hG:∀ t,G t→G' t):AG X G' β S a w :=
 { h with gds:=fun t u hu=>hG u (h.gds t u hu) }
theorem ae.step {ops:Array Oper} {e:FC} {K:Act→World→Prop} {Q:Exit→Act→World→Prop} {done:List Nat} (hd:∀ d,o.dst = some d→d ∉ done) (h:ae P ops X (·∈done) S a w o e)
 (hK:∀ β' a' w',AG X (·∈CC o.dst++done) β' (UY o.dst e S) a' w'→K a' w') :
 if Region.wanted o (yielded ops a.tmps) then o.wp P a w K Q else K (a.put o.dst undef) w:=by
 have El:∀ v w',RZ X (·∈done) S a e v w'→K (a.put o.dst v) w':=by
  intro v w' hp
  obtain ⟨β',h1,h2,h3⟩:=hp
  refine hK β' _ w' ?_
  cases hdst:o.dst with
  | none=>exact h1
  | some d=>exact (h1.put (hd d hdst) h2 h3).weaken fun t ht=>by simp [ht]
 rcases h with ⟨hw,h⟩ | ⟨hw,h⟩
 ·rw [if_pos hw]
  unfold Oper.wp
  rcases h with ⟨v,w',h1,h2⟩ | ⟨w',h1,h2⟩ | ⟨f,args,h1,h2⟩
  ·rw [h1]; exact El v w' h2
  ·rw [h1]; exact El undef w' h2
  ·rw [h1]
   exact h2.mono fun e' w' ⟨v,h3,h4⟩=>by subst h3; exact El v w' h4
 ·rw [if_neg (by simp [hw])]
  exact El undef w h
theorem QQ {pos:Bool} {x:Operand} (h:QP P o = some (pos,x)):∃ op t y u e,o.op = .binOp op t x y u∧Kt y = true∧o.guard = none∧P.underlying t = some (.slice e)∧(op = .eql∧pos = true∨op = .neq∧pos = false):=by
 unfold QP at h
 split at h
 ·rename_i op t x' y u ho
  split at h
  ·rename_i e h1 h2 h3
   split at h
   ·simp at h; exact ⟨_,t,y,u,e,by rw [ho,h.2],h1,h2,h3,.inl ⟨rfl,h.1⟩⟩
   ·simp at h; exact ⟨_,t,y,u,e,by rw [ho,h.2],h1,h2,h3,.inr ⟨rfl,h.1⟩⟩
   ·cases h
  ·cases h
 ·cases h
theorem VN (h:AG X G β S a w) {pos:Bool} {x:Operand} (ht:QP P o = some (pos,x)) {K:Bool→Prop} (hy:Lw (ρOf S none x) fun _ xs=>cu xs K) :
 ∃ b,K b∧Cw P X G S a w o ⟨.d (.bool (b==pos)),[],[]⟩:=by
 obtain ⟨op,t,y,u,e,ho,hn,_,hu,hop⟩:=QQ ht
 obtain ⟨sz,xs,hK,ad,c,hv,hrest⟩:=Pb h (ρ_sound h (g:=none) (fun _ _ e=>by cases e) x) hy
 have ey:=Me hn
 have hev:a.eval y = .slice none 0 0:=by rw [ey]; rfl
 refine ⟨ad.isNone,hK.go _ (fun hne=>?_),?_⟩
 ·obtain ⟨ad',news,rfl,_⟩:=hrest.resolve_left hne
  rfl
 ·have heq:(Op.equalIn 10000 t (.slice ad xs.length c) (.slice none 0 0)).run P w = .ok ad.isNone w:=by
   have key:∀ m,(Op.equalIn (m + 1) t (.slice ad xs.length c) (.slice none 0 0)).run P w = .ok ad.isNone w:=by
    intro m
    cases ad with
    | none=>simp [Op.equalIn,run_underlying hu]
    | some q=>simp [Op.equalIn,run_underlying hu]
   exact key 9999
  refine AN h (v:=.bool (ad.isNone==pos)) ?_ (.bool _) rfl
  rcases hop with ⟨rfl,rfl⟩ | ⟨rfl,rfl⟩
  ·simp [execOp,ho,hv,hev,eqGuard,binOp,Op.equal,Op.maxDepth,heq]
  ·simp [execOp,ho,hv,hev,eqGuard,binOp,Op.equal,Op.maxDepth,heq]
theorem Qg {ops:Array Oper} {Q:Exit→Act→World→Prop}:∀ {l:List Oper} {done:List Nat} {S:AS} {β:Nat→Value} {a:Act} {w:World} {K:AS→Prop},
 dh P ops.toList done l S K→AG X (·∈done) β S a w→(∀ β' S' a' w' (done':List Nat),K S'→AG X (·∈done') β' S' a' w'→Q .normal a' w')→wpList P ops Q l a w
 | [],done,S,β,a,w,K,hy,h,hQ=>wpList_nil (hQ β S a w done hy h)
 | o :: r,done,S,β,a,w,K,hy,h,hQ=>by
   obtain ⟨hnd,hy⟩:=Aq hy
   have hd:∀ d,o.dst = some d→d ∉ done:=by
    intro d hd hm
    rw [hd] at hnd
    simp [CC] at hnd
    exact hnd hm
   cases ht:QP P o with
   | some q =>
     obtain ⟨pos,x⟩:=q
     simp only [ht] at hy
     obtain ⟨b,hK,hdo⟩:=VN h ht hy
     rw [V8,I4] at hK
     obtain ⟨_,_,_,_,_,_,_,hgd,_⟩:=QQ ht
     have hok:ae P ops X (·∈done) S a w o ⟨.d (.bool (b==pos)),[],[]⟩:=hdo.to (by simp [Region.wanted,hgd]) fun v w' hp=>hp.toG
     exact wpList_step fun K' hK'=>hok.step hd fun β' a' w' h'=>hK' _ _ (Qg hK h' hQ)
   | none =>
     simp only [ht] at hy
     obtain ⟨e,hK,hok⟩:=Vt h hy
     rw [V8,I4] at hK
     exact wpList_step fun K' hK'=>hok.step hd fun β' a' w' h'=>hK' _ _ (Qg hK h' hQ)
def JH (s:Sl):Sl:=match s with
 | ⟨.under _ _ _,b,n⟩=>⟨.any,b,n⟩
 | s=>s
theorem TW:∀ (S:AS) (K:AS→Prop),plain S K = K (S.map JH)
 | [],_=>rfl
 | s :: r,K=>by
   rw [plain,TW r]
   obtain ⟨v,b,n⟩:=s
   cases v <;> rfl
theorem Ch:∀ (S:AS) (i:Nat),As (S.map JH) i = JH (As S i)
 | [],_=>rfl
 | _ :: _,0=>rfl
 | _ :: r,i + 1=>Ch r i
theorem Hg (s:Sl):(JH s).box = s.box:=by obtain ⟨v,b,n⟩:=s; cases v <;> rfl
theorem S9 (s:Sl):(JH s).ver = s.ver:=by obtain ⟨v,b,n⟩:=s; cases v <;> rfl
theorem AG.plain (h:AG X G β S a w):AG X (fun _=>False) β (S.map JH) a w:=by
 have hO:OS β X (S.map JH) = OS β X S:=by funext b; simp only [OS,Ch,Hg]
 have hv:AP (S.map JH) = AP S:=by funext i; simp only [AP,Ch,S9]
 refine ⟨by simp [h.len],h.df,h.below,h.hbase,h.o₀,h.rs,?_,?_,?_,?_,?_,?_⟩
 ·intro t v ht
  rw [hO,hv,Ch]
  have:=h.slots t v ht
  generalize As S t = s at this ⊢
  obtain ⟨x,b,n⟩:=s
  cases x <;> first | exact this | trivial
 ·intro i; rw [hO,hv,Ch,Hg]; exact h.boxes i
 ·intro i b; rw [Ch,Hg]; exact h.mine i b
 ·intro i j b; rw [Ch,Ch,Hg,Hg]; exact h.inj i j b
 ·intro t u hu
  rw [Ch] at hu
  generalize As S t = s at hu
  obtain ⟨x,b,n⟩:=s
  cases x <;> simp [JH,AV.guards] at hu
 ·intro i; rw [Ch,Hg,S9]; exact h.ini i
theorem Vj {x y:D} {K:Prop} (h:aE x y K):K∧(x.one = true→y.one = true)∧∀ (O:Nat→Prop) (w:World) (u:Value),AB O w u x→AB O w u y:=by
 unfold aE at h
 split at h
 ·rename_i s
  obtain ⟨h,hK⟩:=h
  rcases h with rfl | rfl
  ·exact ⟨hK,fun h=>h,fun _ _ _ h=>h⟩
  ·refine ⟨hK,fun _=>rfl,fun O w u h=>?_⟩
   cases h
   exact .emp _ _ _
 ·obtain ⟨rfl,hK⟩:=h
  exact ⟨hK,fun h=>h,fun _ _ _ h=>h⟩
theorem aF {x y:D} {K:Prop} (h:aE x y K):aE x y True:=by
 unfold aE at h ⊢
 split at h
 ·exact ⟨h.1,trivial⟩
 ·exact ⟨h.1,trivial⟩
def eM (v v':Nat→Nat) (cs cs':List C):Prop:=cs.length = cs'.length∧∀ (β:Nat→Value) (O:Nat→Prop) (w:World) (j:Nat) (u:Value) c c',cs[j]? = some c→cs'[j]? = some c'→B8 β v O w u c→B8 β v' O w u c'
theorem IL {v v':Nat→Nat} {K:Prop}:∀ {cs cs':List C},Gl v v' cs cs' K→K∧eM v v' cs cs'
 | [],[],h=>⟨h,rfl,fun _ _ _ j u c c' hc=>by simp at hc⟩
 | [],_ :: _,h=>h.elim
 | .d x :: r,[],h=>h.elim
 | .sl _ _ :: r,[],h=>h.elim
 | .own _ _ _ :: r,[],h=>h.elim
 | .d x :: r,.d y :: q,h=>by
   obtain ⟨h,ho,hx⟩:=Vj (show aE x y (Gl v v' r q K) from h)
   obtain ⟨h1,h2,h3⟩:=IL h
   refine ⟨h1,by simp [h2],fun β O w j u c c' hc hc' hr=>?_⟩
   cases j with
   | zero=>simp at hc hc'; subst hc; subst hc'; exact ⟨hx O w u hr.1,ho hr.2⟩
   | succ j=>exact h3 β O w j u c c' (by simpa using hc) (by simpa using hc') hr
 | .sl id n :: r,.sl id' n' :: q,h=>by
   have h:if id = id'∧n = v id∧n' = v' id then Gl v v' r q K else False:=h
   obtain ⟨⟨e0,e1,e2⟩,h'⟩:=Aq h
   obtain ⟨h1,h2,h3⟩:=IL h'
   subst e0
   refine ⟨h1,by simp [h2],fun β O w j u c c' hc hc' hr=>?_⟩
   cases j with
   | zero=>simp at hc hc'; subst hc; subst hc'; exact ⟨Nat.le_of_eq e2,fun _=>hr.2 e1⟩
   | succ j=>exact h3 β O w j u c c' (by simpa using hc) (by simpa using hc') hr
 | .d _ :: _,.sl _ _ :: _,h=>h.elim
 | .d _ :: _,.own _ _ _ :: _,h=>h.elim
 | .sl _ _ :: _,.d _ :: _,h=>h.elim
 | .sl _ _ :: _,.own _ _ _ :: _,h=>h.elim
 | .own _ _ _ :: _,.d _ :: _,h=>h.elim
 | .own _ _ _ :: _,.sl _ _ :: _,h=>h.elim
 | .own _ _ _ :: _,.own _ _ _ :: _,h=>h.elim
theorem JF {v v':Nat→Nat} {K:Prop}:∀ {cs cs':List C},Gl v v' cs cs' K→Gl v v' cs cs' True
 | [],[],_=>trivial
 | [],_ :: _,h=>h.elim
 | .d x :: r,[],h=>h.elim
 | .sl _ _ :: r,[],h=>h.elim
 | .own _ _ _ :: r,[],h=>h.elim
 | .d x :: r,.d y :: q,h=>by
   have h:aE x y (Gl v v' r q K):=h
   show aE x y (Gl v v' r q True)
   unfold aE at h ⊢
   split at h
   ·exact ⟨h.1,JF h.2⟩
   ·exact ⟨h.1,JF h.2⟩
 | .sl id n :: r,.sl id' n' :: q,h=>by
   have h:if id = id'∧n = v id∧n' = v' id then Gl v v' r q K else False:=h
   obtain ⟨h1,h2⟩:=Aq h
   show if id = id'∧n = v id∧n' = v' id then Gl v v' r q True else False
   rw [if_pos h1]; exact JF h2
 | .d _ :: _,.sl _ _ :: _,h=>h.elim
 | .d _ :: _,.own _ _ _ :: _,h=>h.elim
 | .sl _ _ :: _,.d _ :: _,h=>h.elim
 | .sl _ _ :: _,.own _ _ _ :: _,h=>h.elim
 | .own _ _ _ :: _,.d _ :: _,h=>h.elim
 | .own _ _ _ :: _,.sl _ _ :: _,h=>h.elim
 | .own _ _ _ :: _,.own _ _ _ :: _,h=>h.elim
theorem QN {v v':Nat→Nat} {y y':AV} {K:Prop} (h:Lv v v' y y' K) :
 K∧∀ (β:Nat→Value) (O:Nat→Prop) (w:World) (tm:Array Value) (u:Value),Il β v O w tm u y→Il β v' O w tm u y':=by
 cases y' <;> simp only [Lv] at h
 case any=>exact ⟨h,fun _ _ _ _ _ _=>trivial⟩
 case d y =>
  split at h
  ·obtain ⟨h,_,h1⟩:=Vj h; exact ⟨h,fun _ O w _ u hr=>h1 O w u hr⟩
  ·obtain ⟨rfl,h⟩:=h; exact ⟨h,fun _ _ _ _ _ hr=>hr.1⟩
  ·exact h.elim
 case lim sz xs=>obtain ⟨rfl,h⟩:=h; exact ⟨h,fun _ _ _ _ _ hr=>hr⟩
 case ptr id n o =>
  split at h
  ·rename_i id' n' o'
   obtain ⟨⟨rfl,h1,h2⟩,rfl,h3⟩:=Aq h
   exact ⟨h3,fun _ _ _ _ _ hr=>⟨Nat.le_of_eq h2,fun _=>hr.2 h1⟩⟩
  ·exact h.elim
 case sl id n =>
  split at h
  ·rename_i id' n'
   obtain ⟨⟨rfl,h1,h2⟩,h3⟩:=Aq h
   exact ⟨h3,fun _ _ _ _ _ hr=>⟨Nat.le_of_eq h2,fun _=>hr.2 h1⟩⟩
  ·exact h.elim
 case cc k xs' =>
  split at h
  ·rename_i k' xs
   obtain ⟨rfl,hh⟩:=Aq h
   obtain ⟨h1,h2,h3⟩:=IL hh
   refine ⟨h1,fun β O w tm u hr=>?_⟩
   obtain ⟨vs,hv,hl,hr⟩:=hr
   refine ⟨vs,hv,by rw [hl,h2],fun i u' c hu hc=>?_⟩
   have hi:i < xs.length:=by rw [h2]; exact AH hc
   exact ⟨h3 β O w i u' xs[i] c (List.getElem?_eq_getElem hi) hc (hr i u' _ hu (List.getElem?_eq_getElem hi)).1,(hr i u' _ hu (List.getElem?_eq_getElem hi)).2⟩
  ·exact h.elim
theorem Xe {v v':Nat→Nat} {y y':AV} {K:Prop} (h:Lv v v' y y' K):Lv v v' y y' True:=by
 cases y' <;> simp only [Lv] at h ⊢
 case d y =>
  split at h
  ·exact aF h
  ·exact ⟨h.1,trivial⟩
  ·exact h.elim
 case lim sz xs=>exact ⟨h.1,trivial⟩
 case ptr id n o =>
  split at h
  ·obtain ⟨h1,h2⟩:=Aq h
   rw [if_pos h1]; exact ⟨h2.1,trivial⟩
  ·exact h.elim
 case sl id n =>
  split at h
  ·obtain ⟨h1,h2⟩:=Aq h
   rw [if_pos h1]; trivial
  ·exact h.elim
 case cc k xs' =>
  split at h
  ·obtain ⟨h1,h2⟩:=Aq h
   rw [if_pos h1]; exact JF h2
  ·exact h.elim
 all_goals first | exact h.elim | trivial
def eL (v v':Nat→Nat) (b b':BP):Prop:=b' = .none∨(b = b'∧∀ cs,b≠.var cs)∨(∃ sz e xs,b' = .frow sz xs∧b = .row sz e xs)∨∃ cs cs',b = .var cs∧b' = .var cs'∧eM v v' cs cs'
theorem Xd {v v':Nat→Nat} {b b':BP} {K:Prop} (h:YI v v' b b' K):K∧eL v v' b b':=by
 cases b' <;> simp only [YI] at h
 case none=>exact ⟨h,.inl rfl⟩
 case frow sz xs =>
  rcases h.1 with h1 | ⟨e,h1⟩
  ·exact ⟨h.2,.inr (.inl ⟨h1,fun cs e=>by rw [h1] at e; cases e⟩)⟩
  ·exact ⟨h.2,.inr (.inr (.inl ⟨sz,e,xs,rfl,h1⟩))⟩
 case fvar cs=>exact ⟨h.2,.inr (.inl ⟨h.1,fun cs e=>by rw [h.1] at e; cases e⟩)⟩
 case map es=>exact ⟨h.2,.inr (.inl ⟨h.1,fun cs e=>by rw [h.1] at e; cases e⟩)⟩
 case row sz e xs=>exact ⟨h.2,.inr (.inl ⟨h.1,fun cs e=>by rw [h.1] at e; cases e⟩)⟩
 case var cs' =>
  cases b <;> try exact h.elim
  case var cs =>
   obtain ⟨h1,h2⟩:=IL h
   exact ⟨h1,.inr (.inr (.inr ⟨cs,cs',rfl,rfl,h2⟩))⟩
theorem Xf {b':BP} {n n':Nat} {K:Prop} (h:YJ b' n n' K):K∧(n' = 0→b'≠.none→n = 0):=by
 unfold YJ at h
 split at h
 ·exact ⟨h,fun _ hh=>absurd rfl hh⟩
 ·split at h
  ·rename_i hh; exact ⟨h,fun e _=>hh e⟩
  ·exact h.elim
theorem S3 {v v':Nat→Nat}:∀ {S S':AS},Xb v v' S S'→S.length = S'.length∧∀ i,Lv v v' (As S i).av (As S' i).av True∧eL v v' (As S i).box (As S' i).box∧((As S' i).ver = 0→(As S' i).box≠.none→(As S i).ver = 0)
 | [],[],_=>⟨rfl,fun i=>⟨by simp [As,bz,Lv],.inl rfl,fun _ h=>absurd rfl h⟩⟩
 | ⟨sv,sb,sn⟩ :: r,⟨sv',sb',sn'⟩ :: r',h=>by
   have h0:Lv v v' sv sv' (YJ sb' sn sn' (YI v v' sb sb' (Xb v v' r r'))):=h
   have h1:=QN h0
   have h1':=Xf h1.1
   have h2:=Xd h1'.1
   obtain ⟨h3,h4⟩:=S3 h2.1
   refine ⟨by simp [h3],fun i=>?_⟩
   cases i with
   | zero=>exact ⟨Xe h0,h2.2,h1'.2⟩
   | succ i=>exact h4 i
theorem AG.le0 (h:AG X (fun _=>False) β S a w) {S':AS} (hl:Xb (fun i=>(As S i).ver) (fun i=>(As S' i).ver) S S'):AG X (fun _=>False) β S' a w:=by
 obtain ⟨hlen,hall⟩:=S3 hl
 have hbx:=fun i=>(hall i).2.1
 have hown:∀ i,(As S' i).box.owned = true→(As S i).box.owned = true:=by
  intro i ho
  rcases hbx i with h1 | ⟨h1,_⟩ | ⟨sz,e,xs,h1,_⟩ | ⟨cs,cs',h1,h2,_⟩
  ·rw [h1] at ho; cases ho
  ·rw [h1]; exact ho
  ·rw [h1] at ho; cases ho
  ·rw [h1]; rfl
 have hO:∀ b,OS β X S' b→OS β X S b:=by
  intro b hb
  rcases hb with hb | hb | ⟨i,h1,h2⟩
  ·exact .inl hb
  ·exact .inr (.inl hb)
  ·exact .inr (.inr ⟨i,hown i h1,h2⟩)
 have hk:BG (OS β X S) (OS β X S') w w:=BG.of_sub hO
 have same:∀ i,(fun i=>(As S i).ver) i < (fun i=>(As S i).ver) i∨((fun i=>(As S i).ver) i = (fun i=>(As S i).ver) i∧β i = β i):=fun i=>.inr ⟨rfl,rfl⟩
 refine ⟨by rw [← hlen]; exact h.len,h.df,h.below,h.hbase,h.o₀,h.rs,?_,?_,?_,?_,?_,?_⟩
 ·intro t u ht
  have hr:=(h.slots t u ht).mono hk (fun _=>.inr ⟨rfl,rfl⟩) (fun _ _=>rfl)
  exact (QN (hall t).1).2 β (OS β X S') w a.tmps u hr
 ·intro i
  have hno:(As S' i).box.owned = false→(As S i).box.owned = true→∀ b,Ay (β i) = some b→¬ OS β X S' b:=by
   intro h1 h2 b hb hh
   have hm:=h.mine i b h2 hb
   rcases hh with hh | hh | ⟨j,h3,h4⟩
   ·have:=h.o₀ b hh; rcases hm.1 with h5 | h5; omega; exact this.2 h5
   ·exact hm.2 hh
   ·have:=h.inj j i b (hown j h3) h2 h4 hb
    rw [this,h1] at h3; cases h3
  have hb:=h.boxes i
  rcases hbx i with h1 | ⟨h1,h2⟩ | ⟨sz,e,xs,h1,h2⟩ | ⟨cs,cs',h1,h2,h3⟩
  ·rw [h1]; trivial
  ·rw [← h1]
   cases hB:(As S i).box with
   | none=>trivial
   | var cs=>exact absurd hB (h2 cs)
   | row sz e xs =>
     rw [hB] at hb
     obtain ⟨k1,k2,vals,k3,k4⟩:=hb
     exact ⟨k1,k2,vals,k3,k4.mono hk⟩
   | fvar cs=>rw [hB] at hb; exact ⟨hb.1.mono hk,hb.2⟩
   | frow sz xs=>rw [hB] at hb; exact AB.mono hk hb
   | map es =>
     rw [hB] at hb
     obtain ⟨b,vs,clock,k1,k2,k3,k4⟩:=hb
     exact ⟨b,vs,clock,k1,k2,k3,fun i e p hv hc=>⟨(k4 i e p hv hc).1.mono hk,(k4 i e p hv hc).2.1.mono hk,(k4 i e p hv hc).2.2⟩⟩
  ·rw [h1]
   have hno':=hno (by rw [h1]; rfl) (by rw [h2]; rfl)
   rw [h2] at hb
   obtain ⟨k1,k2,vals,k3,k4⟩:=hb
   exact Um k1 k2 k3 (k4.mono hk) hno'
  ·rw [h2]
   rw [h1] at hb
   obtain ⟨b,vals,T,k1,k2,k3,k4⟩:=hb
   refine ⟨b,vals,T,k1,k2,by rw [← h3.1]; exact k3,fun j u c hu hc=>?_⟩
   have hj:j < cs.length:=by rw [h3.1]; exact AH hc
   exact h3.2 β _ w j u cs[j] c (List.getElem?_eq_getElem hj) hc ((k4 j u cs[j] hu (List.getElem?_eq_getElem hj)).mono hk (fun _=>.inr ⟨rfl,rfl⟩))
 ·intro i b hi
  exact h.mine i b (hown i hi)
 ·intro i j b hi hj
  exact h.inj i j b (hown i hi) (hown j hj)
 ·intro t u hu
  have:=(hall t).1
  generalize (As S' t).av = y' at hu this
  cases y' <;> simp [AV.guards] at hu
  simp [Lv] at this
 ·intro i h0 hne
  refine h.ini i ((hall i).2.2 h0 hne) fun hh=>?_
  rcases hbx i with h1 | ⟨h1,_⟩ | ⟨sz,e,xs,_,h1⟩ | ⟨cs,cs',h1,_,_⟩
  ·exact hne h1
  ·rw [hh] at h1; exact hne h1.symm
  ·rw [hh] at h1; cases h1
  ·rw [hh] at h1; cases h1
theorem AG.know (h:AG X G β S a w) {t:Nat} {x:D} (hx:∀ v,a.tmps[t]? = some v→AB (OS β X S) w v x):AG X G β (DC S t (.d x)) a w:=by
 have hb:∀ i,(As (DC S t (.d x)) i).box = (As S i).box∧(As (DC S t (.d x)) i).ver = (As S i).ver:=by
  intro i
  rw [BZ]
  split
  ·rename_i e; rw [e.1]; exact ⟨rfl,rfl⟩
  ·exact ⟨rfl,rfl⟩
 have hO:OS β X (DC S t (.d x)) = OS β X S:=by funext b; simp only [OS,hb]
 have hv:AP (DC S t (.d x)) = AP S:=by funext i; simp only [AP,hb]
 refine ⟨by rw [Gm]; exact h.len,h.df,h.below,h.hbase,h.o₀,h.rs,?_,?_,?_,?_,?_,?_⟩
 ·intro i v hi
  rw [hO,hv,BZ]
  split
  ·rename_i e; rw [e.1] at hi; exact hx v hi
  ·exact h.slots i v hi
 ·intro i; rw [hO,hv,(hb i).1]; exact h.boxes i
 ·intro i b; rw [(hb i).1]; exact h.mine i b
 ·intro i j b; rw [(hb i).1,(hb j).1]; exact h.inj i j b
 ·intro i u hu
  rw [BZ] at hu
  split at hu
  ·simp [AV.guards] at hu
  ·exact h.gds i u hu
 ·intro i; rw [(hb i).1,(hb i).2]; exact h.ini i
theorem PW:∀ {frs:List Nat} {S:AS} {K:AS→Prop},WF frs S K→AG X (fun _=>False) β S a w→∃ S',K S'∧AG X (fun _=>False) β S' a w
 | [],S,K,hy,h=>⟨S,hy,h⟩
 | t :: r,S,K,hy,h=>by
   have hy:UZ (ρOf S none (.tmp t)) fun x b=>NE b S fun S=>OG S t (.d x) fun S=>WF r S K:=hy
   obtain ⟨y,b,hK,hF,_,hh⟩:=Hc (x:=X) (G:=fun _=>False) (a:=a) (ρ_sound h (g:=none) (fun _ _ e=>by cases e) (.tmp t)) hy
   rw [LM,Pa] at hK
   have hr:=hh.now h hF
   refine PW hK ((hF.run h).1.know fun v hv=>?_)
   have:a.eval (.tmp t) = v:=by simp [Act.eval,Array.getD_eq_getD_getElem?,hv]
   rw [this] at hr
   exact hr
theorem AG.le (h:AG X (fun _=>False) β S a w) {S':AS} (hl:Le S S'):AG X (fun _=>False) β S' a w:=by
 obtain ⟨S1,h1,h2⟩:=PW hl h
 exact h2.le0 h1
theorem Sd:∀ {ads:List (Nat × Nat × Nat × TypeId)} {S:AS} {β:Nat→Value} {K:AS→Prop},Tt ads S K→AG X (fun _=>False) β S a w→∃ β' S',K S'∧AG X (fun _=>False) β' S' a w
 | [],S,β,K,hy,h=>⟨β,S,hy,h⟩
 | (v,j,q,e) :: r,S,β,K,hy,h=>by
   unfold Tt at hy
   split at hy
   ·rename_i av cs n hsv
    split at hy
    ·rename_i s hcj
     obtain ⟨⟨hs0,hvq⟩,hy⟩:=Aq hy
     obtain ⟨hq,hy⟩:=Ll _ _ _ hy
     rw [By,LM] at hy
     have hbv:(As S v).box = .var cs:=by rw [hsv]
     have hvv:(As S v).ver = n:=by rw [hsv]
     have hlv:v < S.length:=Nr hbv (by simp)
     have hbx:=h.boxes v
     rw [hbv] at hbx
     obtain ⟨b,vals,T,k1,k2,k3,k4⟩:=hbx
     have hj:j < vals.size:=by rw [k3]; exact AH hcj
     have hcell:=k4 j vals[j] _ (by simp [hj]) hcj
     obtain ⟨ad,hval⟩:∃ ad,vals[j] = .slice ad 0 0:=by
      have:=hcell.1
      generalize vals[j] = u at this
      cases this
      exact ⟨_,rfl⟩
     obtain ⟨β',h1,hβ',_⟩:=aZ h hq (n:=(As S q).ver + 1) (Nat.lt_succ_self _) (R':=X.R) (fun _ h=>h) (Below.refl _ _) (v:=.slice ad 0 0) (e:=e) (xs:=[]) (vals:=[]) hs0 (fun _ h=>by cases h)
      (by cases ad with
       | none=>exact .inl (World.ownsRow_nil w _ e _)
       | some p=>exact .inr ⟨rfl,rfl,p,rfl⟩) (fun b hb=>by cases ad <;> simp [Ay] at hb) Bo.nil
     have h1:AG X (fun _=>False) β' (AO S q (.row s e []) ((As S q).ver + 1)) a w:=h1
     have hβv:β' v = β v:=by rw [hβ']; simp [M6,hvq]
     have hβq:β' q = .slice ad 0 0:=by rw [hβ']; simp [M6]
     have hg1:As (AO S q (.row s e []) ((As S q).ver + 1)) v = As S v:=by rw [Hr hq]; simp [hvq]
     have hgq:(As (AO S q (.row s e []) ((As S q).ver + 1)) q).ver = (As S q).ver + 1:=by rw [Hr hq]; simp
     have hbx1:=h1.boxes v
     rw [hg1,hbv] at hbx1
     obtain ⟨b',vals',T',j1,j2,j3,j4⟩:=hbx1
     rw [hβv,k1] at j1
     simp at j1
     subst j1
     rw [k2] at j2
     simp at j2
     obtain ⟨rfl,rfl⟩:=j2
     have hlj:j < cs.length:=AH hcj
     have h2:=h1.rebox (R':=X.R) (id:=v) (B:=.var (splice cs j [.sl q ((As S q).ver + 1)])) (v:=β' v) (n:=n) (w':=w) (fun _ h=>h) (by rw [Cg]; exact hlv) (.inr ⟨by rw [hg1,hvv],rfl,by rw [hg1,hbv]; simp⟩) (Nat.le_refl _) (Bf.refl _ _ _) (fun _ _ _=>rfl)
      (fun _ b hb=>⟨.inl ⟨hb,by rw [hg1,hbv]; rfl⟩,(h1.mine v b (by rw [hg1,hbv]; rfl) hb).2⟩)
      (fun k hv=>by
       rw [F1] at k hv ⊢
       refine ⟨b,vals,T,by rw [hβv,k1],k2,?_,fun i u c hu hc=>?_⟩
       ·rw [DV _ _ _ (by omega)]; simp; omega
       ·rw [DV _ _ _ (by omega)] at hc
        have hlt:(cs.take j).length = j:=by simp; omega
        rcases Nat.lt_trichotomy i j with hi | hi | hi
        ·rw [List.append_assoc,List.getElem?_append_left (by rw [hlt]; exact hi),List.getElem?_take_of_lt hi] at hc
         exact (j4 i u c hu hc).mono k hv
        ·subst hi
         rw [List.append_assoc,List.getElem?_append_right (by rw [hlt]; exact Nat.le_refl _),hlt] at hc
         simp at hc
         subst hc
         refine B8.mono k hv ?_
         have:u = vals[i]:=by simp [hj] at hu; exact hu.symm
         rw [this]
         exact ⟨by simp only [AP]; rw [hgq]; exact Nat.le_refl _,fun _=>by rw [hβq,hval]⟩
        ·rw [List.append_assoc,List.getElem?_append_right (by rw [hlt]; omega),hlt] at hc
         rw [show ([C.sl q ((As S q).ver + 1)]++cs.drop (j + [C.sl q ((As S q).ver + 1)].length)) = C.sl q ((As S q).ver + 1) :: cs.drop (j + 1) from rfl] at hc
         rw [show i - j = (i - j - 1) + 1 by omega,List.getElem?_cons_succ,List.getElem?_drop] at hc
         exact (j4 i u c hu (by rw [show i = j + 1 + (i - j - 1) by omega]; exact hc)).mono k hv)
     rw [F1] at h2
     exact Sd hy h2
    ·exact hy.elim
   ·exact hy.elim
theorem Zp (h:AG X (fun _=>False) β S a w) {c:Operand} {b:Bool} (hc:ρOf S none c = .d (.bool b)):a.eval c = .bool b:=by
 have:=ρ_sound h (g:=none) (fun _ _ e=>by cases e) c
 rw [hc] at this
 exact DU this
def d9 (X:Cx) (Q:Exit→AS→Prop) (e:Exit) (a:Act) (w:World):Prop:=∃ β S,Q e S∧AG X (fun _=>False) β S a w
def LK (P:Program):Prop:=∀ (id:Nat) (ops:Array Oper) (Q:Exit→AS→Prop) (S:AS) (X:Cx) (β:Nat→Value) (a:Act) (w:World),
 ZT P [] (.region id ops true) Q S→AG X (fun _=>False) β S a w→(Code.region id ops true).wp P (d9 X Q) a w
theorem dP (p:Nat→Prop):∀ n,p n→∃ m,p m∧∀ k,p k→m≤k:=by
 intro n
 induction n using Nat.strongRecOn with
 | _ n ih =>
   intro hn
   by_cases hk:∃ k,k < n∧p k
   ·obtain ⟨k,h1,h2⟩:=hk; exact ih k h1 h2
   ·exact ⟨n,hn,fun k hk'=>Nat.le_of_not_lt fun hlt=>hk ⟨k,hlt,hk'⟩⟩
theorem EF {J:List Nat} (hdraw:LK P):∀ (c:Code) {Q:Exit→AS→Prop} {S:AS} {β:Nat→Value} {a:Act} {w:World},ZT P J c Q S→AG X (fun _=>False) β S a w→c.wp P (d9 X Q) a w
 | .skip,Q,S,β,a,w,hy,h=>wp_skip ⟨β,S,hy,h⟩
 | .label _,Q,S,β,a,w,hy,h=>wp_label ⟨β,S,hy,h⟩
 | .region id ops draw,Q,S,β,a,w,hy,h=>by
   cases draw with
   | true=>exact hdraw id ops Q S X β a w hy h
   | false =>
     have hy:dh P ops.toList [] ops.toList S fun S=>plain S (Q .normal):=hy
     refine wp_region_list (Qg hy (h.weaken fun _ hf=>hf.elim) fun β' S' a' w' done' hK hs=>?_)
     rw [TW] at hK
     exact ⟨β',_,hK,hs.plain⟩
 | .seq x y,Q,S,β,a,w,hy,h=>by
   have hy:match aQ J y with
    | false=>ZT P J x (fun e S=>match e with | .normal=>ZT P J y Q S | e=>Q e S) S
    | true=>To S (ZT P J x) (ZT P J y) Q:=hy
   split at hy
   ·refine wp_seq (wp_mono (EF hdraw x hy h) fun e a' w' hq=>?_)
    obtain ⟨β',S',hq,hs⟩:=hq
    cases e with
    | normal=>exact EF hdraw y hq hs
    | exit id=>exact ⟨β',S',hq,hs⟩
    | goto l=>exact ⟨β',S',hq,hs⟩
    | ret=>exact ⟨β',S',hq,hs⟩
    | panic ch=>exact ⟨β',S',hq,hs⟩
    | outgrown=>exact ⟨β',S',hq,hs⟩
   ·obtain ⟨ι,Inv,hx,hall⟩:=hy.go
    simp only [GV] at hall
    refine wp_seq (wp_mono (EF hdraw x hx h) fun e a' w' hq=>?_)
    obtain ⟨β',S',hq,hs⟩:=hq
    cases e with
    | normal =>
      obtain ⟨i,hle⟩:=hq
      exact EF hdraw y (hall i) (hs.le hle)
    | exit id=>exact ⟨β',S',hq,hs⟩
    | goto l=>exact ⟨β',S',hq,hs⟩
    | ret=>exact ⟨β',S',hq,hs⟩
    | panic ch=>exact ⟨β',S',hq,hs⟩
    | outgrown=>exact ⟨β',S',hq,hs⟩
 | .cond c x y,Q,S,β,a,w,hy,h=>by
   have hy:match ρOf S none c with
    | .d (.bool b)=>Si b (ZT P J x Q S) (ZT P J y Q S)
    | _=>False:=hy
   split at hy
   ·rename_i b hb
    exact wp_cond_split (Zp h hb) (fun ht=>EF hdraw x (hy.pos ht) h) (fun hf=>EF hdraw y (hy.neg hf) h)
   ·exact hy.elim
 | .ret,Q,S,β,a,w,hy,h=>wp_ret ⟨β,S,hy,h⟩
 | .block id c,Q,S,β,a,w,hy,h=>by
   have hy:ZT P J c (fun e S=>match e with | .exit id'=>if id' = id then Q .normal S else Q (.exit id') S | e=>Q e S) S:=hy
   refine wp_block (wp_mono (EF hdraw c hy h) fun e a' w' hq=>?_)
   obtain ⟨β',S',hq,hs⟩:=hq
   cases e with
   | exit id' =>
     simp only [Exit.inBlock] at hq ⊢
     split
     ·rename_i he; rw [if_pos he] at hq; exact ⟨β',S',hq,hs⟩
     ·rename_i he; rw [if_neg he] at hq; exact ⟨β',S',hq,hs⟩
   | normal=>exact ⟨β',S',hq,hs⟩
   | goto l=>exact ⟨β',S',hq,hs⟩
   | ret=>exact ⟨β',S',hq,hs⟩
   | panic ch=>exact ⟨β',S',hq,hs⟩
   | outgrown=>exact ⟨β',S',hq,hs⟩
 | .exit id,Q,S,β,a,w,hy,h=>wp_exit ⟨β,S,hy,h⟩
 | .loop c,Q,S,β,a,w,hy,h=>by
   have hy:Qt S (ZT P J c) Q:=hy
   obtain ⟨ads,frs,ι,Inv,μ,i₀,hle,hround⟩:=hy.go
   simp only [GV] at hround
   obtain ⟨β,S,hle,h⟩:=Sd hle h
   obtain ⟨S,hle,h⟩:=PW hle h
   let I:Act→World→Nat→Prop:=fun a w n=>∃ i β,μ i = n∧AG X (fun _=>False) β (Inv i) a w
   have hex:∃ n,I a w n:=⟨_,i₀,β,rfl,h.le hle⟩
   have spec:∀ a w,(∃ n,I a w n)→I a w (Classical.epsilon fun m=>I a w m∧∀ k,I a w k→m≤k)∧∀ k,I a w k→(Classical.epsilon fun m=>I a w m∧∀ k,I a w k→m≤k)≤k :=
    fun a w ⟨n,hn⟩=>Classical.epsilon_spec (p:=fun m=>I a w m∧∀ k,I a w k→m≤k) (dP (I a w) n hn)
   refine wp_loop (fun a w=>∃ n,I a w n) (fun a w=>Classical.epsilon fun m=>I a w m∧∀ k,I a w k→m≤k) hex fun a w hI=>?_
   obtain ⟨i,β,hi,hs⟩:=(spec a w hI).1
   refine wp_mono (EF hdraw c (hround i) hs) fun e a' w' hq=>?_
   obtain ⟨β',S',hq,hs'⟩:=hq
   cases e with
   | normal =>
     obtain ⟨j,hlj,hlt⟩:=hq
     have hI':I a' w' (μ j):=⟨j,β',rfl,hs'.le hlj⟩
     refine ⟨⟨_,hI'⟩,?_⟩
     have:=(spec a' w' ⟨_,hI'⟩).2 _ hI'
     rw [← hi]
     exact Nat.lt_of_le_of_lt this hlt
   | exit id=>exact ⟨β',S',hq,hs'⟩
   | goto l=>exact ⟨β',S',hq,hs'⟩
   | ret=>exact ⟨β',S',hq,hs'⟩
   | panic ch=>exact ⟨β',S',hq,hs'⟩
   | outgrown=>exact ⟨β',S',hq,hs'⟩
 | .scope _,_,_,_,_,_,hy,_=>hy.elim
 | .goto _,_,_,_,_,_,hy,_=>hy.elim
 | .refuse _,_,_,_,_,_,hy,_=>hy.elim
 | .rangeFunc _ _ _ _,_,_,_,_,_,hy,_=>hy.elim
end
end Go.Abs
set_option linter.unusedVariables false
set_option linter.unusedSimpArgs false
namespace Go.Abs
open Go.RowKit (Below)
section
variable {P:Program} {X:Cx} {β:Nat→Value} {S:AS} {a:Act} {w:World}
def Rk (tmps:Array Value):ResultVar→Sem Value
 | .tmp t=>pure (tmps.getD t undef)
 | .cell a t=>do loadVar t (← asAddr (tmps.getD a undef))
theorem no:B7 none a:=fun _ _ e=>by cases e
def Tr (X:Cx) (β:Nat→Value) (S:AS) (a:Act) (w:World) (used:List Nat) (frz:Bx) (v:Value):C→Prop
 | .d y=>Iu X (fun _=>False) β S a w frz fun O=>AB O w v y
 | .own sz e xs=>∃ id,id∈used∧v = β id∧(As S id).box = .row sz e xs∧∀ x∈xs,∀ y∈x.cells,y.bare = true
 | .sl _ _=>False
theorem Tr.mono {used used':List Nat} {frz frz':Bx} (hu:∀ i∈used,i∈used') (hf:∀ y∈frz,y∈frz') {v:Value} {c:C} (h:Tr X β S a w used frz v c):Tr X β S a w used' frz' v c:=by
 cases c with
 | d y=>exact Iu.mono (show Iu X (fun _=>False) β S a w frz fun O=>AB O w v y from h) hf fun _ h=>h
 | own sz e xs=>obtain ⟨id,h1,h2⟩:=h; exact ⟨id,hu id h1,h2⟩
 | sl _ _=>exact h
theorem Ve:∀ {cs:List C} {K:List D→Prop},VH cs K→∃ l,K l∧cs = l.map .d
 | [],K,h=>⟨[],h,rfl⟩
 | .d x :: r,K,h=>by
   have h:VH r fun l=>K (x :: l):=h
   obtain ⟨l,h1,h2⟩:=Ve h
   exact ⟨_,h1,by rw [h2]; rfl⟩
 | .sl _ _ :: r,K,h=>h.elim
 | .own _ _ _ :: r,K,h=>h.elim
theorem Lh (h:AG X (fun _=>False) β S a w):∀ {rs:List ResultVar} {used:List Nat} {frz:Bx} {K:List C→List Nat→Bx→Prop},O9 P S used frz rs K→FZ S [] frz→(∀ i∈used,(As S i).box.owned = true) →
 ∃ cs used' frz',K cs used' frz'∧FZ S [] frz'∧(∀ i∈used,i∈used')∧(∀ y∈frz,y∈frz')∧(∀ i∈used',(As S i).box.owned = true)∧∃ vs:List Value,(rs.mapM (Rk a.tmps)).run P w = .ok vs w∧vs.length = cs.length ∧
   (∀ (i:Nat) v c,vs[i]? = some v→cs[i]? = some c→Tr X β S a w used' frz' v c) ∧
   (∀ (i:Nat) v sz e xs b,vs[i]? = some v→cs[i]? = some (.own sz e xs)→Ay v = some b→∀ j∈used,Ay (β j)≠some b) ∧
   (∀ (i j:Nat) v v' sz e xs sz' e' xs' b,vs[i]? = some v→vs[j]? = some v'→cs[i]? = some (.own sz e xs)→cs[j]? = some (.own sz' e' xs')→Ay v = some b→Ay v' = some b→i = j)
 | [],used,frz,K,hy,hF,hu=>⟨[],used,frz,hy,hF,(fun _ h=>h),(fun _ h=>h),hu,[],rfl,rfl,(fun i v c hv=>by simp at hv),(fun i v sz e xs b hv=>by simp at hv),fun i j v v' sz e xs sz' e' xs' b hv=>by simp at hv⟩
 | .tmp t :: r,used,frz,K,hy,hF,hu=>by
   have data:∀ (y:D) (b:Bx),FZ S [] b→Iu X (fun _=>False) β S a w b (fun O=>AB O w (a.eval (.tmp t)) y)→(O9 P S used (frz++b) r fun l u b=>K (.d y :: l) u b) →
    ∃ cs used' frz',K cs used' frz'∧FZ S [] frz'∧(∀ i∈used,i∈used')∧(∀ y∈frz,y∈frz')∧(∀ i∈used',(As S i).box.owned = true)∧∃ vs:List Value,((ResultVar.tmp t :: r).mapM (Rk a.tmps)).run P w = .ok vs w∧vs.length = cs.length ∧
    (∀ (i:Nat) v c,vs[i]? = some v→cs[i]? = some c→Tr X β S a w used' frz' v c) ∧
    (∀ (i:Nat) v sz e xs b,vs[i]? = some v→cs[i]? = some (.own sz e xs)→Ay v = some b→∀ j∈used,Ay (β j)≠some b) ∧
    (∀ (i j:Nat) v v' sz e xs sz' e' xs' b,vs[i]? = some v→vs[j]? = some v'→cs[i]? = some (.own sz e xs)→cs[j]? = some (.own sz' e' xs')→Ay v = some b→Ay v' = some b→i = j):=by
    intro y b hFb hh hy
    obtain ⟨cs,used',frz',hK,k1,k2,k3,k3',vs,k4,k5,k6,k7,k8⟩:=Lh h hy (hF.append hFb) hu
    refine ⟨_,used',frz',hK,k1,k2,fun y hy=>k3 y (by simp [hy]),k3',a.eval (.tmp t) :: vs,?_,by simp [k5],fun i v c hv hc=>?_,fun i v sz e xs b hv hc=>?_,fun i j v v' sz e xs sz' e' xs' b hv hv' hc hc' hb hb'=>?_⟩
    ·simp only [List.mapM_cons,Rk,Sem.run_bind,Sem.run_pure,Result.andThen_ok,k4]
     rfl
    ·cases i with
     | zero=>simp at hv hc; subst hv; subst hc; exact hh.mono (fun y hy=>k3 y (by simp [hy])) fun _ h=>h
     | succ i=>exact k6 i v c (by simpa using hv) (by simpa using hc)
    ·cases i with
     | zero=>simp at hc
     | succ i=>exact k7 i v sz e xs b (by simpa using hv) (by simpa using hc)
    ·cases i with
     | zero=>simp at hc
     | succ i=>cases j with
       | zero=>simp at hc'
       | succ j=>rw [k8 i j v v' sz e xs sz' e' xs' b (by simpa using hv) (by simpa using hv') (by simpa using hc) (by simpa using hc') hb hb']
   unfold O9 at hy
   have hr:=ρ_sound h no (.tmp t)
   split at hy
   ·rename_i id n sz e xs hx
    rw [hx] at hr
    rcases hy.go with hy | hy
    ·obtain ⟨y,b,hK,hFb,_,hh⟩:=Hc (x:=X) (G:=fun _=>False) (a:=a) (K:=fun y b=>y = .list sz xs∧b = [(id,BP.frow sz xs,n)]) hr ⟨rfl,rfl⟩
     obtain ⟨rfl,rfl⟩:=hK
     exact data _ _ hFb hh hy
    ·split at hy
     ·exact hy.elim
     rename_i hcon
     obtain ⟨hbare,hy⟩:=hy
     obtain ⟨hb1,hb2,hb3⟩:=hr
     have hown:(As S id).box.owned = true:=by rw [hb1]; rfl
     obtain ⟨cs,used',frz',hK,k1,k2,k3,k3',vs,k4,k5,k6,k7,k8⟩:=Lh h hy hF (fun i hi=>by
      rcases List.mem_cons.1 hi with rfl | hi
      ·exact hown
      ·exact hu i hi)
     refine ⟨_,used',frz',hK,k1,fun i hi=>k2 i (by simp [hi]),k3,k3',a.eval (.tmp t) :: vs,?_,by simp [k5],fun i v c hv hc=>?_,fun i v sz' e' xs' b hv hc hb j hj=>?_,fun i j v v' sz1 e1 xs1 sz' e' xs' b hv hv' hc hc' hb hb'=>?_⟩
     ·simp only [List.mapM_cons,Rk,Sem.run_bind,Sem.run_pure,Result.andThen_ok,k4]
      rfl
     ·cases i with
      | zero=>simp at hv hc; subst hv; subst hc; exact ⟨id,k2 id (by simp),hb3,hb1,hbare⟩
      | succ i=>exact k6 i v c (by simpa using hv) (by simpa using hc)
     ·cases i with
      | zero =>
        simp at hv hc
        subst hv
        intro hjb
        rw [hb3] at hb
        have:=h.inj id j b hown (hu j hj) hb hjb
        subst this
        exact hcon (by simpa using hj)
      | succ i=>exact k7 i v sz' e' xs' b (by simpa using hv) (by simpa using hc) hb j (by simp [hj])
     ·cases i with
      | zero=>cases j with
        | zero=>rfl
        | succ j =>
          simp at hv
          subst hv
          rw [hb3] at hb
          exact absurd hb (k7 j v' sz' e' xs' b (by simpa using hv') (by simpa using hc') hb' id (by simp))
      | succ i=>cases j with
        | zero =>
          simp at hv'
          subst hv'
          rw [hb3] at hb'
          exact absurd hb' (k7 i v sz1 e1 xs1 b (by simpa using hv) (by simpa using hc) hb id (by simp))
        | succ j=>rw [k8 i j v v' sz1 e1 xs1 sz' e' xs' b (by simpa using hv) (by simpa using hv') (by simpa using hc) (by simpa using hc') hb hb']
   ·obtain ⟨y,b,hK,hFb,_,hh⟩:=Rs (x:=X) (G:=fun _=>False) (a:=a) hr hy
    exact data y b hFb hh hK
 | .cell t ty :: r,used,frz,K,hy,hF,hu=>by
   unfold O9 at hy
   have hr:=ρ_sound h no (.tmp t)
   split at hy
   ·rename_i id n off cs0 hx
    rw [hx] at hr
    obtain ⟨hb,_,bb,hβ,hv⟩:=hr
    obtain ⟨l0,hy,hcs⟩:=Ve hy
    obtain ⟨vals,T,h3,h4,h5⟩:=JY h hb hβ
    obtain ⟨y,hy,v0,hl,hvr⟩:=R5 (P:=P) (O:=OS β X S) (w:=w) (b:=bb) (off:=off) hy (fun j y hy=>by
     simp only [List.getElem?_drop] at hy
     have hc:cs0[off + j]? = some (.d y):=by rw [hcs]; simp [hy]
     have hlt:off + j < vals.size:=by rw [h4]; exact AH hc
     have:=h5 (off + j) vals[off + j] _ (by simp [hlt]) hc
     exact ⟨vals[off + j],by simp [World.cell?,h3,hlt],this.1,this.2⟩)
    rw [Oh] at hy
    obtain ⟨cs,used',frz',hK,k1,k2,k3,k3',vs,k4,k5,k6,k7,k8⟩:=Lh h hy hF hu
    have hv':a.tmps.getD t undef = .pointer (some ⟨bb,off,none⟩):=hv
    refine ⟨_,used',frz',hK,k1,k2,k3,k3',v0 :: vs,?_,by simp [k5],fun i v c hv hc=>?_,fun i v sz e xs b hv hc=>?_,fun i j v v' sz e xs sz' e' xs' b hv hv' hc hc' hb hb'=>?_⟩
    ·simp only [List.mapM_cons,Rk,hv',asAddr,Sem.run_bind,Sem.run_pure,Result.andThen_ok,hl,k4]
    ·cases i with
     | zero=>simp at hv hc; subst hv; subst hc; exact fun B _ _ _ hk=>(hvr.mono (BG.of_sub hk)).norm
     | succ i=>exact k6 i v c (by simpa using hv) (by simpa using hc)
    ·cases i with
     | zero=>simp at hc
     | succ i=>exact k7 i v sz e xs b (by simpa using hv) (by simpa using hc)
    ·cases i with
     | zero=>simp at hc
     | succ i=>cases j with
       | zero=>simp at hc'
       | succ j=>rw [k8 i j v v' sz e xs sz' e' xs' b (by simpa using hv) (by simpa using hv') (by simpa using hc) (by simpa using hc') hb hb']
   ·exact hy.elim
theorem OB {fn:Func} {vs:List Value} (h:(fn.results.toList.mapM (Rk a.tmps)).run P w = .ok vs w) :
 (results fn a.tmps).run P w = .ok (if h:vs.toArray.size = 1 then vs.toArray[0] else .tuple vs.toArray) w:=by
 have e:(fn.results.mapM (Rk a.tmps)).run P w = .ok vs.toArray w:=by
  rw [Array.mapM_eq_mapM_toList,Sem.run_map,h]
  simp
 have e2:results fn a.tmps = (do let vs ← fn.results.mapM (Rk a.tmps); pure (if h:vs.size = 1 then vs[0] else .tuple vs)):=by
  unfold results
  congr 2
 rw [e2,Sem.run_bind,e]
 rfl
theorem UX {used:List Nat} {frz:Bx} (h:used.all (fun i=>Gt i frz) = true):∀ i∈used,∀ y∈frz,y.1≠i:=fun i hi=>Et (List.all_eq_true.1 h i hi)
theorem Ul (h:AG X (fun _=>False) β S a w) {fn:Func} {used:List Nat} {frz:Bx} {r:AV} (hF:FZ S [] frz) (hu:∀ i∈used,(As S i).box.owned = true) (hy:ZI P fn.results.toList used frz S r) :
 ∃ v T,(results fn a.tmps).run P w = .ok v w∧AG X (fun _=>False) β T a w∧(∀ i∈used,As T i = As S i)∧(∀ z∈frz,(As T z.1).box = z.2.1)∧(∃ F,(∀ y∈frz,y∈F)∧Fr S F T) ∧
   C2 (fun b=>X.mine b∧∀ i∈used,Ay (β i)≠some b) (OS β X T) w v r∧(∀ b,CS v r b→OS β X T b):=by
 have ownR:∀ {T:AS} {used':List Nat} {v:Value} {sz:Nat} {e:TypeId} {xs:List D},AG X (fun _=>False) β T a w→(∀ i∈used',As T i = As S i)→(∃ id,id∈used'∧v = β id∧(As S id).box = .row sz e xs∧∀ x∈xs,∀ y∈x.cells,y.bare = true) →
  (∀ b,Ay v = some b→∀ j∈used,Ay (β j)≠some b)→Tq (fun b=>X.mine b∧∀ i∈used,Ay (β i)≠some b) w v sz e xs∧∀ b,Ay v = some b→OS β X T b:=by
  intro T used' v sz e xs hT hsame ⟨id,h1,h2,h3,h4⟩ hne
  have hbT:(As T id).box = .row sz e xs:=by rw [hsame id h1]; exact h3
  have hown:(As T id).box.owned = true:=by rw [hbT]; rfl
  have hb:=hT.boxes id
  rw [hbT] at hb
  obtain ⟨k1,k2,vals,k3,k4⟩:=hb
  refine ⟨⟨k1,k2,fun b hbb=>⟨(hT.mine id b hown (by rw [← h2]; exact hbb)).1,hne b hbb⟩,vals,by rw [h2]; exact k3,?_⟩,fun b hbb=>.inr (.inr ⟨id,hown,by rw [← h2]; exact hbb⟩)⟩
  refine ⟨k4.1,fun j u y hu hy=>?_⟩
  have:=k4.2 j u y hu hy
  refine ⟨Pl this.1 ?_,this.2⟩
  have hm:=List.mem_of_getElem? hy
  obtain ⟨x,hx,hyx⟩:=List.mem_flatMap.1 hm
  exact h4 x hx y hyx
 have rest:∀ {rs:List ResultVar},rs = fn.results.toList→(O9 P S used frz rs fun l u b=>cb l u b r)→∃ v T,(results fn a.tmps).run P w = .ok v w∧AG X (fun _=>False) β T a w∧(∀ i∈used,As T i = As S i)∧(∀ z∈frz,(As T z.1).box = z.2.1)∧(∃ F,(∀ y∈frz,y∈F)∧Fr S F T) ∧
  C2 (fun b=>X.mine b∧∀ i∈used,Ay (β i)≠some b) (OS β X T) w v r∧(∀ b,CS v r b→OS β X T b):=by
  intro rs hrs hy
  obtain ⟨cs,used',frz',hK,k1,k2,k3,k3',vs,k4,k5,k6,k7,k8⟩:=Lh h hy hF hu
  unfold cb at hK
  obtain ⟨hall,hK2⟩:=Aq hK
  clear hK
  have hnot:=UX hall
  obtain ⟨t1,t2,t3⟩:=k1.run h
  have hsame:∀ i∈used',As (Bg frz' S) i = As S i:=by
   intro i hi
   have e1:=t3.other i (hnot i hi)
   have e2:=t3.ver i
   have e3:=t3.av i
   generalize As (Bg frz' S) i = p at e1 e2 e3
   generalize As S i = q at e1 e2 e3
   obtain ⟨_,_,_⟩:=p
   obtain ⟨_,_,_⟩:=q
   simp only at e1 e2 e3
   rw [e1,e2,e3]
  have hdat:∀ (i:Nat) v y,vs[i]? = some v→cs[i]? = some (.d y)→AB (OS β X (Bg frz' S)) w v y:=fun i v y hv hc=>(show Iu X (fun _=>False) β S a w frz' fun O=>AB O w v y from k6 i v _ hv hc) frz' (fun _ h=>h) t3 t1 t2
  have hrow:∀ (i:Nat) v sz e xs,vs[i]? = some v→cs[i]? = some (.own sz e xs)→Tq (fun b=>X.mine b∧∀ i∈used,Ay (β i)≠some b) w v sz e xs∧∀ b,Ay v = some b→OS β X (Bg frz' S) b:=by
   intro i v sz e xs hv hc
   exact ownR t1 hsame (k6 i v _ hv hc) (fun b hb=>k7 i v sz e xs b hv hc hb)
  have El:∀ v,(results fn a.tmps).run P w = .ok v w→C2 (fun b=>X.mine b∧∀ i∈used,Ay (β i)≠some b) (OS β X (Bg frz' S)) w v r→(∀ b,CS v r b→OS β X (Bg frz' S) b)→∃ v T,(results fn a.tmps).run P w = .ok v w∧AG X (fun _=>False) β T a w∧(∀ i∈used,As T i = As S i)∧(∀ z∈frz,(As T z.1).box = z.2.1)∧(∃ F,(∀ y∈frz,y∈F)∧Fr S F T) ∧
   C2 (fun b=>X.mine b∧∀ i∈used,Ay (β i)≠some b) (OS β X T) w v r∧(∀ b,CS v r b→OS β X T b) :=
   fun v hv hr hb=>⟨v,_,hv,t1,fun i hi=>hsame i (k2 i hi),fun z hz=>t3.mem z (k3 z hz),⟨frz',k3,t3⟩,hr,hb⟩
  have hrun:=OB (P:=P) (w:=w) (a:=a) (fn:=fn) (vs:=vs) (by rw [← hrs]; exact k4)
  have tup:d6 (.tup cs) r→cs.length≠1→∃ v T,(results fn a.tmps).run P w = .ok v w∧AG X (fun _=>False) β T a w∧(∀ i∈used,As T i = As S i)∧(∀ z∈frz,(As T z.1).box = z.2.1)∧(∃ F,(∀ y∈frz,y∈F)∧Fr S F T) ∧
   C2 (fun b=>X.mine b∧∀ i∈used,Ay (β i)≠some b) (OS β X T) w v r∧(∀ b,CS v r b→OS β X T b):=by
   intro hr hne
   have hl:¬ vs.toArray.size = 1:=by intro hh; apply hne; rw [← k5]; simpa using hh
   rw [dif_neg hl] at hrun
   have hr:=hr.go
   subst hr
   have hres:∀ b,CS (.tuple vs.toArray) (.tup cs) b→OS β X (Bg frz' S) b:=by
    rintro b ⟨vs',i,u,sz,e,ys,h1,h2,h3,h4⟩
    cases h1
    exact (hrow i u sz e ys (by simpa using h2) h3).2 b h4
   refine El _ hrun ⟨vs.toArray,rfl,by simpa using k5,fun i u c hu' hc=>?_,fun i j u u' sz e ys sz' e' ys' b h1 h2 h3 h4 h5 h6=>k8 i j u u' sz e ys sz' e' ys' b (by simpa using h1) (by simpa using h2) h3 h4 h5 h6⟩ hres
   cases c with
   | d y =>
     refine AB.mono (BG.of_sub fun b hb=>?_) (hdat i u y (by simpa using hu') hc)
     rcases hb with hb | hb
     ·exact hb
     ·exact hres b hb
   | own sz e ys=>exact (hrow i u sz e ys (by simpa using hu') hc).1
   | sl _ _=>exact (k6 i u _ (by simpa using hu') hc).elim
  match cs,hK2,k5,k6,k7,k8,hdat,hrow,tup with
  | [],hK2,k5,k6,k7,k8,hdat,hrow,tup=>exact tup hK2 (by simp)
  | c1 :: c2 :: q,hK2,k5,k6,k7,k8,hdat,hrow,tup=>exact tup hK2 (by simp)
  | [c],hK2,k5,k6,k7,k8,hdat,hrow,tup =>
    have hl:vs.length = 1:=k5
    obtain ⟨v,rfl⟩:=List.length_eq_one_iff.1 hl
    have hrv:(results fn a.tmps).run P w = .ok v w:=by simpa using hrun
    have hr:=(show d6 (an c) r from hK2).go
    subst hr
    cases c with
    | d y=>exact El v hrv (hdat 0 v y rfl rfl) (fun b hb=>hb.elim)
    | own sz e xs =>
      obtain ⟨j1,j2⟩:=hrow 0 v sz e xs rfl rfl
      exact El v hrv j1 j2
    | sl _ _=>exact (k6 0 v _ rfl rfl).elim
 unfold ZI at hy
 split at hy
 ·rename_i t hrs
  split at hy
  ·rename_i id n cs hx
   have hr:=ρ_sound h no (.tmp t)
   rw [hx] at hr
   obtain ⟨hb1,hb2,bb,hβ,hv⟩:=hr
   split at hy
   ·exact hy.elim
   rename_i hcon
   obtain ⟨l,b,hK,hFb,hfr,hcd,hh⟩:=MD h hy
   obtain ⟨hall,hK⟩:=Aq hK
   obtain ⟨rfl⟩:=hK
   have hnot:=UX hall
   have hFF:=hF.append hFb
   obtain ⟨t1,t2,t3⟩:=hFF.run h
   have hsame:∀ i∈id :: used,As (Bg (frz++b) S) i = As S i:=by
    intro i hi
    have e1:=t3.other i (hnot i hi)
    have e2:=t3.ver i
    have e3:=t3.av i
    generalize As (Bg (frz++b) S) i = p at e1 e2 e3
    generalize As S i = q at e1 e2 e3
    obtain ⟨_,_,_⟩:=p
    obtain ⟨_,_,_⟩:=q
    simp only at e1 e2 e3
    rw [e1,e2,e3]
   have hbT:(As (Bg (frz++b) S) id).box = .var cs:=by rw [hsame id (by simp)]; exact hb1
   have hown:(As (Bg (frz++b) S) id).box.owned = true:=by rw [hbT]; rfl
   obtain ⟨vals,T,q1,q2,q3⟩:=JY t1 hbT hβ
   have hcd':It S (frz++b) cs l:=hcd.mono fun y hy=>by simp [hy]
   have hrep:=Ru t3 t1 hcd' (vals:=vals.toList) (by simpa using q2) (fun j v c hv hc=>q3 j v c (by simpa using hv) hc)
   have hblk:Ay (β id) = some bb:=by rw [hβ]; rfl
   have hvb:a.eval (.tmp t) = β id:=by rw [hv,hβ]
   have hrun:(results fn a.tmps).run P w = .ok (β id) w:=by
    have:=OB (P:=P) (w:=w) (a:=a) (fn:=fn) (vs:=[β id]) (by
     rw [hrs]
     simp only [List.mapM_cons,Rk,List.mapM_nil,Sem.run_bind,Sem.run_pure,Result.andThen_ok]
     rw [← hvb]; rfl)
    simpa using this
   refine ⟨β id,_,hrun,t1,fun i hi=>hsame i (by simp [hi]),fun z hz=>t3.mem z (by simp [hz]),⟨_,fun y hy=>by simp [hy],t3⟩,⟨fun b' hb'=>⟨(t1.mine id b' hown hb').1,fun i hi hbi=>?_⟩,bb,vals,T,hβ,q1,?_⟩,fun b' hb'=>.inr (.inr ⟨id,hown,hb'⟩)⟩
   ·have:=h.inj id i b' (by rw [hb1]; rfl) (hu i hi) hb' hbi
    subst this
    exact hcon (by simpa using hi)
   ·refine hrep.mono (BG.of_sub fun b' hb'=>?_)
    rcases hb' with hb' | hb'
    ·exact hb'
    ·exact .inr (.inr ⟨id,hown,hb'⟩)
  ·exact rest rfl hy
 ·exact rest rfl hy
theorem JG:∀ (args:List AV) (k:Nat) (S:AS),(enter k args S).length = args.length + (S.length - args.length)
 | [],_,S=>by simp [enter]
 | x :: r,k,S=>by simp only [enter,List.length_cons,JG r,List.length_drop]; omega
theorem MO:∀ n,(DY n).length = n
 | 0=>rfl
 | n + 1=>by simp [DY,MO n]
theorem Qq:∀ n i,As (DY n) i = bz
 | 0,_=>rfl
 | _ + 1,0=>rfl
 | n + 1,i + 1=>Qq n i
theorem ZN (k:Nat):∀ (S:AS) (i:Nat),As (S.drop k) i = As S (k + i):=by
 induction k with
 | zero=>intro S i; simp
 | succ k ih =>
   intro S i
   cases S with
   | nil=>simp [As]
   | cons s r=>rw [List.drop_succ_cons,ih,show k + 1 + i = (k + i) + 1 by omega]; rfl
theorem Qr:∀ (args:List AV) (k:Nat) (S:AS) (i:Nat),As (enter k args S) i = match args[i]? with | some x=>Jd (k + i) x | none=>As S i
 | [],k,S,i=>by simp [enter]
 | x :: r,k,S,0=>by simp [enter,As]
 | x :: r,k,S,i + 1=>by
   simp only [enter,As,Qr r,List.getElem?_cons_succ]
   rw [show k + 1 + i = k + (i + 1) by omega]
   split
   ·rfl
   ·rw [ZN,Nat.add_comm]
theorem Ra {w:World} {e:TypeId} {sz n:Nat} {v:Value} {vals:List Value} (h:C3 w e sz v n vals):MQ v = v:=by
 obtain ⟨_,_,_,rfl⟩:=JO h; rfl
theorem OW (vs:Array Value) (u:Value):MQ (.agg (vs.push u)) = u:=by simp [MQ]
theorem QZ {O:Nat→Prop} {w:World} {v:Value} {x:AV} (h:W3 O w v x) (hm:x.mut = true):Ay (MQ v) = Ay v:=by
 cases x <;> try (cases hm; done)
 ·obtain ⟨_,_,_,hr,_⟩:=h; rw [Ra hr]
 ·obtain ⟨b,_,_,rfl,_⟩:=h; rfl
 ·obtain ⟨_,vs,u,_,_,_,_,⟨_,rfl,_,_,_,_,hr,_⟩,_⟩:=h
  rw [OW,W8 (JO hr)]
theorem Vr (i:Nat) (sz:Nat) (e:TypeId) (xs:List D):∀ ds:List D,Xg i (ds.map .d++[.own sz e xs]) = ds.map .d++[.sl i 0]
 | []=>rfl
 | d :: r=>by simp only [List.map_cons,List.cons_append,Xg,Vr i sz e xs r]
theorem Xu (sz:Nat) (e:TypeId) (xs:List D):∀ ds:List D,ce (ds.map .d++[.own sz e xs]) = .row sz e xs
 | []=>rfl
 | d :: r=>by simp only [List.map_cons,List.cons_append,ce,Xu sz e xs r]
theorem YS {ds:List C} {ds':List C} {sz sz':Nat} {e e':TypeId} {xs xs':List D} (h:ds++[C.own sz e xs] = ds'++[C.own sz' e' xs']):ds = ds'∧sz = sz'∧e = e'∧xs = xs':=by
 obtain ⟨h1,h2⟩:=List.append_inj' h rfl
 simp at h2
 exact ⟨h1,h2⟩
theorem Vi {n:Nat} {args:List AV} {O M:Nat→Prop} {w:World} {vs:Array Value} (hO:∀ b,O b→b < w.heap.size) (hG:Tn (fun b=>O b∨FJ vs args b) w) (hlen:vs.size = args.length) (hMO:∀ b,FJ vs args b→¬ O b)
 (hinj:∀ (i j:Nat) v v' x y b,vs[i]? = some v→vs[j]? = some v'→args[i]? = some x→args[j]? = some y→x.mut = true→y.mut = true→Ay v = some b→Ay v' = some b→i = j)
 (hargs:∀ (i:Nat) v x,vs[i]? = some v→args[i]? = some x→W3 (fun b=>O b∨FJ vs args b) w v x) :
 AG ⟨w.heap.size,FJ vs args,O,fun _=>False,w,fun i=>MQ (vs.getD i undef),TF hG⟩ (fun _=>False) (fun i=>MQ (vs.getD i undef)) (enter 0 args (DY n)) { tmps:=vs++Array.replicate (n - vs.size) undef,defers:=[] } w:=by
 have hget:∀ i,As (enter 0 args (DY n)) i = match args[i]? with | some x=>Jd i x | none=>bz:=by
  intro i
  rw [Qr]
  simp only [Nat.zero_add,Qq]
 have hver:∀ i,(As (enter 0 args (DY n)) i).ver = 0:=by
  intro i
  rw [hget]
  split
  ·rename_i x _; cases x <;> rfl
  ·rfl
 have hval:∀ (i:Nat) x,args[i]? = some x→vs[i]? = some (vs.getD i undef):=by
  intro i x hx
  have:i < vs.size:=by rw [hlen]; exact AH hx
  simp [Array.getD,this]
 have hown:∀ i,(As (enter 0 args (DY n)) i).box.owned = true→∃ x,args[i]? = some x∧x.mut = true:=by
  intro i ho
  rw [hget] at ho
  split at ho
  ·rename_i x hx
   refine ⟨x,hx,?_⟩
   cases x <;> first | rfl | simp [Jd,BP.owned] at ho
  ·simp [bz,BP.owned] at ho
 have hOS:∀ b,OS (fun i=>MQ (vs.getD i undef)) ⟨w.heap.size,FJ vs args,O,fun _=>False,w,fun i=>MQ (vs.getD i undef),TF hG⟩ (enter 0 args (DY n)) b→O b∨FJ vs args b:=by
  intro b hb
  rcases hb with hb | hb | ⟨i,h1,h2⟩
  ·exact .inl hb
  ·exact hb.elim
  ·obtain ⟨x,hx,hm⟩:=hown i h1
   exact .inr ⟨i,_,x,hval i x hx,hx,hm,by rw [← QZ (hargs i _ x (hval i x hx) hx) hm]; exact h2⟩
 refine ⟨?_,rfl,Bf.refl _ _ _,Nat.le_refl _,fun b hb=>⟨hO b hb,fun hm=>hMO b hm hb⟩,(fun b hb=>hb.elim),?_,?_,?_,?_,?_,?_⟩
 ·rw [JG,MO]; simp [hlen]
 ·intro t v hv
  rw [hget]
  split
  ·rename_i x hx
   have hlt:t < vs.size:=by rw [hlen]; exact AH hx
   rw [Array.getElem?_append_left hlt] at hv
   have hr:=hargs t v x hv hx
   have hvd:v = vs.getD t undef:=by simp [hlt] at hv; simp [Array.getD,hlt,hv]
   cases x with
   | any=>trivial
   | d y=>exact AB.mono (BG.of_sub hOS) (show AB _ w v y from hr)
   | lim sz xs =>
     have hr':AB (fun b=>O b∨FJ vs args b) w v (.list sz xs)∧Pn v = xs.length:=hr
     exact ⟨hr'.1.mono (BG.of_sub hOS),hr'.2⟩
   | own sz e xs =>
     obtain ⟨_,_,_,hrr,_⟩:=hr
     exact ⟨Nat.zero_le _,fun _=>by show v = MQ _; rw [← hvd,Ra hrr]⟩
   | optr cs =>
     obtain ⟨b,vals,T,h1,h2,h3⟩:=hr
     exact ⟨Nat.zero_le _,fun _=>⟨b,by show MQ (vs.getD t undef) = _; rw [← hvd,h1]; rfl,h1⟩⟩
   | cc k l =>
     obtain ⟨rfl,vs',u,ds,sz,e,xs,⟨rfl,h2,h3,_⟩,h4⟩:=hr
     simp only [Jd,Vr]
     refine ⟨vs'.push u,h2,by simp [h3],fun j q y hq hy=>?_⟩
     rcases Nat.lt_or_ge j vs'.size with hj | hj
     ·rw [Array.getElem?_push_lt hj] at hq
      have hj':j < ds.length:=by rw [← h3]; exact hj
      rw [List.getElem?_append_left (by simpa using hj')] at hy
      simp at hq
      simp [hj'] at hy
      subst hy
      have:=h4.2 j q ds[j] (by simp [hj,hq]) (by simp [hj'])
      exact ⟨⟨this.1.mono (BG.of_sub hOS),this.2⟩,Rj this.1 this.2⟩
     ·have hj2:j = vs'.size:=by have:=Fs hq; simp at this; omega
      subst hj2
      simp at hq
      subst hq
      rw [h3,List.getElem?_append_right (by simp)] at hy
      simp at hy
      subst hy
      refine ⟨⟨Nat.zero_le _,fun _=>by show _ = MQ _; rw [← hvd,h2,OW]⟩,?_⟩
      have:=hargs t v _ hv hx
      obtain ⟨_,vs2,u2,_,_,_,_,⟨_,q2,_,_,_,_,q5,_⟩,_⟩:=this
      rw [h2] at q2
      simp at q2
      obtain ⟨ad,m,c,hu⟩:=JO q5
      rw [(Array.push_eq_push.1 q2).1,hu]; rfl
   | bot | ptr _ _ _ | sl _ _ | eptr _ _ _ _ _ | tup _ | under _ _ _=>exact hr.elim
  ·trivial
 ·intro i
  rw [hget]
  split
  ·rename_i x hx
   have hr:=hargs i _ x (hval i x hx) hx
   cases x with
   | any | d _ | lim _ _ | bot | ptr _ _ _ | sl _ _ | eptr _ _ _ _ _ | tup _ | under _ _ _=>trivial
   | own sz e xs =>
     obtain ⟨h1,h2,vals,h3,h4⟩:=hr
     exact ⟨h1,h2,vals,by show C3 w e sz (MQ (vs.getD i undef)) _ _; rw [Ra h3]; exact h3,h4.mono (BG.of_sub hOS)⟩
   | cc k l =>
     obtain ⟨rfl,vs',u,ds,sz,e,xs,⟨rfl,h2,h3,h4,h5,vals,h6,h7⟩,_⟩:=hr
     simp only [Jd,Xu]
     exact ⟨h4,h5,vals,by show C3 w e sz (MQ (vs.getD i undef)) _ _; rw [h2,OW]; exact h6,h7.mono (BG.of_sub hOS)⟩
   | optr cs =>
     obtain ⟨b,vals,T,h1,h2,h3⟩:=hr
     exact ⟨b,vals,T,by show MQ (vs.getD i undef) = _; rw [h1]; rfl,h2,by have:=h3.1; simpa using this,fun j v c hv hc=>(h3.mono (BG.of_sub hOS)).cells j v c (by simpa using hv) hc⟩
  ·trivial
 ·intro i b ho hb
  obtain ⟨x,hx,hm⟩:=hown i ho
  exact ⟨.inr ⟨i,_,x,hval i x hx,hx,hm,by rw [← QZ (hargs i _ x (hval i x hx) hx) hm]; exact hb⟩,fun h=>h⟩
 ·intro i j b hi hj hbi hbj
  obtain ⟨x,hx,hm⟩:=hown i hi
  obtain ⟨y,hy,hm'⟩:=hown j hj
  exact hinj i j _ _ x y b (hval i x hx) (hval j y hy) hx hy hm hm' (by rw [← QZ (hargs i _ x (hval i x hx) hx) hm]; exact hbi) (by rw [← QZ (hargs j _ y (hval j y hy) hy) hm']; exact hbj)
 ·intro t u hu
  rw [hget] at hu
  split at hu
  ·rename_i x hx
   have hr:=hargs t _ x (hval t x hx) hx
   cases x <;> simp [Jd,AV.guards] at hu
   exact hr.elim
  ·simp [bz,AV.guards] at hu
 ·intro i _ _; rfl
theorem Oe {vs:Array Value} {args:List AV} (h:∀ x∈args,x.mut = false) (b:Nat):¬ FJ vs args b:=by
 rintro ⟨i,v,x,_,hx,hm,_⟩
 rw [h x (List.mem_of_getElem? hx)] at hm
 cases hm
theorem Pj {J:List Nat} (hdraw:LK P) {f:FuncId} {fn:Func} {args:List AV} {r:AV} (hf:P.funcs[f]? = some fn) (hname:(fn.name == "runtime.NumGoroutine") = false) (hr:Y4 P J fn args r):Aj P f args r:=by
 unfold Y4 at hr
 split at hr
 ·rename_i c hc
  refine ⟨by simp [E6,hf,hname,hc],fun O w vs hO hG0 hlen hargs=>?_⟩
  rw [GV] at hr
  refine calls_of_wp hf hc ?_
  have hnm:∀ x∈args,x.mut = false:=by
   intro x hx
   obtain ⟨i,hi⟩:=List.mem_iff_getElem?.1 hx
   have hlt:i < vs.size:=by rw [hlen]; exact AH hi
   have:=hargs i vs[i] x (by simp [hlt]) hi
   cases x <;> first | rfl | exact this.elim
  have hG:Tn (fun b=>O b∨FJ vs args b) w:=fun g cs hg=>(hG0 g cs hg).mono (BG.of_sub fun b hb=>hb.resolve_right (Oe hnm b))
  have hsim:=Vi (n:=fn.ntmps) (M:=fun _=>False) hO hG hlen (fun b hm=>absurd hm (Oe hnm b)) (fun i j v v' x y b _ _ hx _ hm=>by rw [hnm x (List.mem_of_getElem? hx)] at hm; cases hm)
   (fun i v x hv hx=>by
    have h1:=(hargs i v x hv hx).mono (O':=fun b=>O b∨FJ vs args b) (BG.of_sub fun b hb=>hb.resolve_right (Oe hnm b))
    have h2:=hnm x (List.mem_of_getElem? hx)
    cases x <;> first | exact h1 | cases h2)
  refine wp_mono (EF hdraw c hr hsim) fun e a' w' hq=>?_
  obtain ⟨β',S',hq,hs⟩:=hq
  have El:ZI P fn.results.toList [] [] S' r→a'.defers = []∧∃ v,(results fn a'.tmps).run P w' = .ok v w'∧∃ v',Ending.returned v = .returned v'∧Below w.heap.size w w'∧C2 (fun b=>w.heap.size≤b) O w' v' r:=by
   intro hq
   obtain ⟨v,T,h1,h2,_,_,_,h3,_⟩:=Ul hs (frz:=[]) trivial (fun _ h=>by cases h) hq
   refine ⟨hs.df,v,h1,v,rfl,hs.below.below (Oe hnm),h3.mono (fun b hb=>hb.1.resolve_right (Oe hnm b)) (fun b hb=>.inl hb)⟩
  cases e with
  | normal=>exact El hq
  | ret=>exact El hq
  | exit id=>exact hq.elim
  | goto l=>exact hq.elim
  | panic ch=>exact hq.elim
  | outgrown=>exact hq.elim
 ·exact hr.elim
theorem Ji (h:AG X (fun _=>False) β S a w):∀ {outs:List AV} {k:Nat} {K:List Nat→Bx→Prop},Oc S k outs K →
 ∃ used frz,K used frz∧FZ S [] frz∧(∀ i∈used,(As S i).box.owned = true) ∧
   ∀ (i:Nat) y,outs[i]? = some y→y.mut = true→k + i∈used∧(As S (k + i)).ver = 0∧match y with
     | .own sz e ys=>(As S (k + i)).box = .row sz e ys
     | .optr l=>∃ cs,(As S (k + i)).box = .var cs∧It S frz cs l
     | .cc _ l=>∃ (ds:List C) (sz:Nat) (e:TypeId) (ys:List D),l = ds++[.own sz e ys]∧(As S (k + i)).box = .row sz e ys
     | _=>False
 | [],k,K,hy=>⟨[],[],hy,trivial,(fun _ h=>by cases h),fun i y h=>by simp at h⟩
 | q :: r,k,K,hy=>by
   have skip:Oc S (k + 1) r K→q.mut = false→∃ used frz,K used frz∧FZ S [] frz∧(∀ i∈used,(As S i).box.owned = true) ∧
    ∀ (i:Nat) y,(q :: r)[i]? = some y→y.mut = true→k + i∈used∧(As S (k + i)).ver = 0∧match y with
      | .own sz e ys=>(As S (k + i)).box = .row sz e ys
      | .optr l=>∃ cs,(As S (k + i)).box = .var cs∧It S frz cs l
      | .cc _ l=>∃ (ds:List C) (sz:Nat) (e:TypeId) (ys:List D),l = ds++[.own sz e ys]∧(As S (k + i)).box = .row sz e ys
      | _=>False:=by
    intro hy hm
    obtain ⟨used,frz,hK,h1,h2,h3⟩:=Ji h hy
    refine ⟨used,frz,hK,h1,h2,fun i y hi hmy=>?_⟩
    cases i with
    | zero=>simp at hi; subst hi; rw [hm] at hmy; cases hmy
    | succ i=>have:=h3 i y (by simpa using hi) hmy; rw [show k + (i + 1) = k + 1 + i by omega]; exact this
   cases q with
   | own sz e ys =>
     unfold Oc at hy
     split at hy
     ·rename_i av sz' e' xs hs
      obtain ⟨⟨rfl,rfl,rfl⟩,hy⟩:=hy
      obtain ⟨used,frz,hK,h1,h2,h3⟩:=Ji h hy
      refine ⟨_,frz,hK,h1,fun i hi=>?_,fun i y hi hmy=>?_⟩
      ·rcases List.mem_cons.1 hi with rfl | hi
       ·rw [hs]; rfl
       ·exact h2 i hi
      ·cases i with
       | zero=>simp at hi; subst hi; simp only [Nat.add_zero]; exact ⟨by simp,by rw [hs],by simp only [hs]⟩
       | succ i=>have:=h3 i y (by simpa using hi) hmy; rw [show k + (i + 1) = k + 1 + i by omega]; exact ⟨by simp [this.1],this.2⟩
     ·exact hy.elim
   | optr l =>
     unfold Oc at hy
     split at hy
     ·rename_i av cs hs
      obtain ⟨l',b,hy2,hFb,hfr,hcd,_⟩:=MD h hy
      obtain ⟨el,hy3⟩:=hy2
      subst el
      obtain ⟨used,frz,hK,h1,h2,h3⟩:=Ji h hy3
      refine ⟨_,_,hK,hFb.append h1,fun i hi=>?_,fun i y hi hmy=>?_⟩
      ·rcases List.mem_cons.1 hi with rfl | hi
       ·rw [hs]; rfl
       ·exact h2 i hi
      ·cases i with
       | zero=>simp at hi; subst hi; simp only [Nat.add_zero]; exact ⟨by simp,by rw [hs],cs,by rw [hs],hcd.mono fun y hy=>by simp [hy]⟩
       | succ i =>
         have:=h3 i y (by simpa using hi) hmy
         rw [show k + (i + 1) = k + 1 + i by omega]
         refine ⟨by simp [this.1],this.2.1,?_⟩
         have h4:=this.2.2
         cases y <;> first | exact h4 | (obtain ⟨cs',h5,h6⟩:=h4; exact ⟨cs',h5,h6.mono fun y hy=>by simp [hy]⟩)
     ·exact hy.elim
   | any=>exact skip hy rfl
   | bot=>exact skip hy rfl
   | d _=>exact skip hy rfl
   | lim _ _=>exact skip hy rfl
   | ptr _ _ _=>exact skip hy rfl
   | sl _ _=>exact skip hy rfl
   | eptr _ _ _ _ _=>exact skip hy rfl
   | tup _=>exact skip hy rfl
   | under _ _ _=>exact skip hy rfl
   | cc k' l =>
     unfold Oc at hy
     obtain ⟨ds,sz,e,ys,hl,hy⟩:=KZ hy
     split at hy
     ·rename_i av sz' e' xs hs
      obtain ⟨⟨rfl,rfl,rfl⟩,hy⟩:=hy
      obtain ⟨used,frz,hK,h1,h2,h3⟩:=Ji h hy
      refine ⟨_,frz,hK,h1,fun i hi=>?_,fun i y hi hmy=>?_⟩
      ·rcases List.mem_cons.1 hi with rfl | hi
       ·rw [hs]; rfl
       ·exact h2 i hi
      ·cases i with
       | zero=>simp at hi; subst hi; simp only [Nat.add_zero]; exact ⟨by simp,by rw [hs],ds,_,_,_,hl,by rw [hs]⟩
       | succ i=>have:=h3 i y (by simpa using hi) hmy; rw [show k + (i + 1) = k + 1 + i by omega]; exact ⟨by simp [this.1],this.2⟩
     ·exact hy.elim
theorem Pv {J:List Nat} (hdraw:LK P) {f:FuncId} {fn:Func} {args outs:List AV} {r:AV} (hf:P.funcs[f]? = some fn) (hname:(fn.name == "runtime.NumGoroutine") = false) (hol:outs.length = args.length)
 (hfit:∀ (i:Nat) x y,args[i]? = some x→outs[i]? = some y→match y with
  | .own sz e _=>∃ xs,x = .own sz e xs
  | .optr cs=>∃ cs',x = .optr cs'∧cs.length = cs'.length
  | .cc _ l=>∃ (ds:List D) (sz:Nat) (e:TypeId) (xs ys:List D),x = .cc none (ds.map .d++[.own sz e xs])∧l = ds.map .d++[.own sz e ys]
  | _=>True) (hr:V6 P J fn args outs r):CZ P f args outs r:=by
 unfold V6 at hr
 split at hr
 ·rename_i c hc
  refine ⟨by simp [E6,hf,hname,hc],hol,fun O w vs hO hG hlen hMO hinj hargs=>?_⟩
  rw [GV] at hr
  refine calls_of_wp hf hc ?_
  have hsim:=Vi (n:=fn.ntmps) (M:=fun _=>False) hO hG hlen hMO hinj hargs
  refine wp_mono (EF hdraw c hr hsim) fun e a' w' hq=>?_
  obtain ⟨β',S',hq,hs⟩:=hq
  have El:(Oc S' 0 outs fun u b=>ZI P fn.results.toList u b S' r)→a'.defers = []∧∃ v,(results fn a'.tmps).run P w' = .ok v w'∧∃ v',Ending.returned v = .returned v'∧Bf w.heap.size (FJ vs args) w w' ∧
   C2 (fun b=>w.heap.size≤b∨(FJ vs args b∧¬ FJ vs outs b)) (fun b=>O b∨FJ vs outs b) w' v' r ∧
   ∀ (i:Nat) u x y,vs[i]? = some u→args[i]? = some x→outs[i]? = some y→ND (fun b=>O b∨FJ vs outs b∨CS v' r b) w' u x y:=by
   intro hq
   obtain ⟨used,frz,hq,hF,hu,hk⟩:=Ji hs hq
   obtain ⟨v,T,h1,h2,h3,h4,⟨F,hFF,hFr⟩,h5,h6⟩:=Ul hs hF hu hq
   have hβ:∀ (i:Nat) u y,vs[i]? = some u→outs[i]? = some y→y.mut = true→i∈used∧β' i = MQ u∧Ay (MQ u) = Ay u:=by
    intro i u y hi hy hm
    have:=hk i y hy hm
    simp only [Nat.zero_add] at this
    have hxi:args[i]? = some (args[i]'(by rw [← hol]; exact AH hy)):=List.getElem?_eq_getElem _
    refine ⟨this.1,?_,QZ (hargs i u _ hi hxi) (by
     have hft:=hfit i _ y hxi hy
     generalize args[i]'(by rw [← hol]; exact AH hy) = q at hft
     cases y <;> try (cases hm; done)
     ·obtain ⟨_,rfl⟩:=hft; rfl
     ·obtain ⟨_,rfl,_⟩:=hft; rfl
     ·obtain ⟨_,_,_,_,_,rfl,_⟩:=hft; rfl)⟩
    have hne:(As S' i).box≠.none:=by intro e; have:=hu i this.1; rw [e] at this; cases this
    have hini:=hs.ini i this.2.1 hne
    have hlt:=Fs hi
    rw [hini]
    simp [hlt] at hi
    simp [Array.getD,hlt,hi]
   have hMo:∀ b,FJ vs outs b→∃ i∈used,Ay (β' i) = some b:=by
    rintro b ⟨i,u,y,hi,hy,hm,hb⟩
    obtain ⟨k1,k2⟩:=hβ i u y hi hy hm
    exact ⟨i,k1,by rw [k2.1,k2.2]; exact hb⟩
   have hMT:∀ b,FJ vs outs b→OS β' ⟨w.heap.size,FJ vs args,O,fun _=>False,w,fun i=>MQ (vs.getD i undef),TF hG⟩ T b:=by
    intro b hb
    obtain ⟨i,hi,hb⟩:=hMo b hb
    exact .inr (.inr ⟨i,by rw [h3 i hi]; exact hu i hi,hb⟩)
   refine ⟨hs.df,v,h1,v,rfl,hs.below,h5.mono (fun b hb=>?_) (fun b hb=>?_),fun i u x y hu' hx hy=>?_⟩
   ·rcases hb.1 with hb' | hb'
    ·exact .inl hb'
    ·exact .inr ⟨hb',fun hm=>by obtain ⟨i,hi,hbi⟩:=hMo b hm; exact hb.2 i hi hbi⟩
   ·rcases hb with hb | hb
    ·exact .inl hb
    ·exact hMT b hb
   ·have hsub:∀ b,(O b∨FJ vs outs b∨CS v r b)→OS β' ⟨w.heap.size,FJ vs args,O,fun _=>False,w,fun i=>MQ (vs.getD i undef),TF hG⟩ T b:=by
     intro b hb
     rcases hb with hb | hb | hb
     ·exact .inl hb
     ·exact hMT b hb
     ·exact h6 b hb
    have hft:=hfit i x y hx hy
    cases y <;> try trivial
    ·rename_i sz e ys
     obtain ⟨k1,k2⟩:=hβ i u _ hu' hy rfl
     have hki:=(hk i _ hy rfl).2.2
     simp only [Nat.zero_add] at hki
     have hb:=h2.boxes i
     rw [h3 i k1,hki] at hb
     obtain ⟨j1,j2,vals,j3,j4⟩:=hb
     obtain ⟨xs,rfl⟩:=hft
     obtain ⟨_,_,_,hrr,_⟩:=hargs i u _ hu' hx
     rw [k2.1,Ra hrr] at j3
     exact ⟨⟨j1,j2,vals,j3,j4.mono (BG.of_sub hsub)⟩,xs,rfl⟩
    ·rename_i l
     obtain ⟨k1,k2⟩:=hβ i u _ hu' hy rfl
     obtain ⟨cs,hkb,hcd⟩:=(hk i _ hy rfl).2.2
     simp only [Nat.zero_add] at hkb
     have hb:=h2.boxes i
     rw [h3 i k1,hkb] at hb
     obtain ⟨b,vals,T',j1,j2,j3,j4⟩:=hb
     obtain ⟨cs',rfl,hcl⟩:=hft
     have hpu:MQ u = u:=by obtain ⟨_,_,_,rfl,_⟩:=hargs i u _ hu' hx; rfl
     rw [k2.1,hpu] at j1
     refine ⟨⟨b,vals,T',j1,j2,?_⟩,cs',rfl,hcl⟩
     refine (Ru hFr h2 (hcd.mono hFF) (vals:=vals.toList) (by simpa using j3) (fun j v c hv hc=>j4 j v c (by simpa using hv) hc)).mono (BG.of_sub hsub)
    ·rename_i k0 l
     obtain ⟨k1,k2⟩:=hβ i u _ hu' hy rfl
     obtain ⟨ds1,sz1,e1,ys1,hl1,hkb⟩:=(hk i _ hy rfl).2.2
     simp only [Nat.zero_add] at hkb
     have hb:=h2.boxes i
     rw [h3 i k1,hkb] at hb
     obtain ⟨j1,j2,vals,j3,j4⟩:=hb
     obtain ⟨ds,sz,e,xs,ys,rfl,rfl⟩:=hft
     obtain ⟨rfl,rfl,rfl,rfl⟩:=YS hl1
     obtain ⟨_,vs',u',ds',sz',e',xs',⟨q1,rfl,q3,_⟩,_⟩:=hargs i u _ hu' hx
     obtain ⟨q1,rfl,rfl,rfl⟩:=YS q1
     have q1:ds.length = ds'.length:=by simpa using congrArg List.length q1
     rw [k2.1,OW] at j3
     exact ⟨vs',u',ds,_,_,ys,rfl,rfl,by rw [q3,q1],j1,j2,vals,j3,j4.mono (BG.of_sub hsub)⟩
  cases e with
  | normal=>exact El hq
  | ret=>exact El hq
  | exit id=>exact hq.elim
  | goto l=>exact hq.elim
  | panic ch=>exact hq.elim
  | outgrown=>exact hq.elim
 ·exact hr.elim
theorem Xx {n k q sz:Nat} {e:TypeId} {xs:List D} {args:List AV} (hk:k < args.length) (hq:q < args.length) (hkq:q≠k) (i:Nat) :
 As (AO (AO (DC (enter 0 args (DY n)) k (.ptr k 0 0)) k (.var [.sl q 0]) 0) q (.row sz e xs) 0) i =
  if i = q then ⟨(As (enter 0 args (DY n)) q).av,.row sz e xs,0⟩ else if i = k then ⟨.ptr k 0 0,.var [.sl q 0],0⟩ else As (enter 0 args (DY n)) i:=by
 have hl:args.length≤(enter 0 args (DY n)).length:=by rw [JG]; omega
 rw [B1,B1,B1,BZ,BZ,BZ]
 simp only [Cg,Gm]
 have h1:k < (enter 0 args (DY n)).length:=by omega
 have h2:q < (enter 0 args (DY n)).length:=by omega
 by_cases e1:i = q
 ·subst e1; simp [h1,h2,hkq]
 ·by_cases e2:i = k
  ·subst e2; simp [h1,h2,e1]
  ·simp [h1,h2,e1,e2]
theorem UU {J:List Nat} (hdraw:LK P) {f:FuncId} {fn:Func} {args:List AV} {k q sz:Nat} {e:TypeId} {xs ys:List D} (hf:P.funcs[f]? = some fn) (hname:(fn.name == "runtime.NumGoroutine") = false) (hres:fn.results = #[])
 (hk:args[k]? = some .any) (hq:q < args.length) (hkq:q≠k) (hmut:args.all (fun x=>!x.mut) = true) (hr:ah P J fn args k q sz e xs ys):W4 P f args k sz e xs ys:=by
 unfold ah at hr
 split at hr
 ·rename_i c hc
  refine ⟨by simp [E6,hf,hname,hc],fun O w vs b u T hO hG hlen hvk hh hbO huO hsz hxs hrow hargs=>?_⟩
  rw [GV] at hr
  refine calls_of_wp hf hc ?_
  have hkl:k < args.length:=AH hk
  obtain ⟨rvals,hrr,hrl⟩:=hrow
  have hnm:∀ x∈args,x.mut = false:=by
   intro x hx
   have:=List.all_eq_true.1 hmut x hx
   simpa using this
  have hbw:b < w.heap.size:=by
   rcases Nat.lt_or_ge b w.heap.size with h | h
   ·exact h
   ·rw [Array.getElem?_eq_none h] at hh; cases hh
  let β:Nat→Value:=fun i=>if i = q then u else vs.getD i undef
  have hβq:β q = u:=if_pos rfl
  have hβ:∀ i,i≠q→β i = vs.getD i undef:=fun i hi=>if_neg hi
  have hkv:vs.getD k undef = .pointer (some ⟨b,0,none⟩):=by
   have:=Fs hvk
   simp [this] at hvk
   simp [Array.getD,this,hvk]
  have hβk:β k = .pointer (some ⟨b,0,none⟩):=by rw [hβ k (fun h=>hkq h.symm)]; exact hkv
  have hget0:∀ i,As (enter 0 args (DY fn.ntmps)) i = match args[i]? with | some x=>Jd i x | none=>bz:=by
   intro i
   rw [Qr]
   simp only [Nat.zero_add,Qq]
  have hbx0:∀ i,(As (enter 0 args (DY fn.ntmps)) i).box = .none∧(As (enter 0 args (DY fn.ntmps)) i).ver = 0:=by
   intro i
   rw [hget0]
   split
   ·rename_i x hx
    have:=hnm x (List.mem_of_getElem? hx)
    cases x <;> first | exact ⟨rfl,rfl⟩ | cases this
   ·exact ⟨rfl,rfl⟩
  have hget:=Xx (n:=fn.ntmps) (sz:=sz) (e:=e) (xs:=xs) hkl hq hkq
  have hown:∀ i,(As (AO (AO (DC (enter 0 args (DY fn.ntmps)) k (.ptr k 0 0)) k (.var [.sl q 0]) 0) q (.row sz e xs) 0) i).box.owned = true→i = q∨i = k:=by
   intro i hi
   rw [hget] at hi
   by_cases e1:i = q
   ·exact .inl e1
   ·by_cases e2:i = k
    ·exact .inr e2
    ·rw [if_neg e1,if_neg e2,(hbx0 i).1] at hi; cases hi
  have hver:∀ i,(As (AO (AO (DC (enter 0 args (DY fn.ntmps)) k (.ptr k 0 0)) k (.var [.sl q 0]) 0) q (.row sz e xs) 0) i).ver = 0:=by
   intro i
   rw [hget]
   split
   ·rfl
   ·split
    ·rfl
    ·exact (hbx0 i).2
  let Xc:Cx:=⟨w.heap.size,fun c=>c = b∨Ay u = some c,O,fun _=>False,w,β,TF (M:=fun c=>c = b∨Ay u = some c) hG⟩
  have hOS:∀ c',OS β Xc (AO (AO (DC (enter 0 args (DY fn.ntmps)) k (.ptr k 0 0)) k (.var [.sl q 0]) 0) q (.row sz e xs) 0) c'→O c'∨c' = b∨Ay u = some c':=by
   intro c' hc'
   rcases hc' with hc' | hc' | ⟨i,h1,h2⟩
   ·exact .inl hc'
   ·exact hc'.elim
   ·rcases hown i h1 with rfl | rfl
    ·rw [hβq] at h2; exact .inr (.inr h2)
    ·rw [hβk] at h2; simp [Ay] at h2; exact .inr (.inl h2.symm)
  have hsim:AG Xc (fun _=>False) β (AO (AO (DC (enter 0 args (DY fn.ntmps)) k (.ptr k 0 0)) k (.var [.sl q 0]) 0) q (.row sz e xs) 0) { tmps:=vs++Array.replicate (fn.ntmps - vs.size) undef,defers:=[] } w:=by
   refine ⟨?_,rfl,Bf.refl _ _ _,Nat.le_refl _,fun c' hc'=>⟨hO c' hc',fun hm=>?_⟩,(fun b hb=>hb.elim),?_,?_,?_,?_,?_,?_⟩
   ·rw [Cg,Cg,Gm,JG,MO]; simp [hlen]
   ·rcases hm with rfl | hm
    ·exact hbO hc'
    ·exact (huO c' hm).1 hc'
   ·intro t v hv
    rw [hget]
    have base:t≠k→Il β (AP (AO (AO (DC (enter 0 args (DY fn.ntmps)) k (.ptr k 0 0)) k (.var [.sl q 0]) 0) q (.row sz e xs) 0)) (OS β Xc (AO (AO (DC (enter 0 args (DY fn.ntmps)) k (.ptr k 0 0)) k (.var [.sl q 0]) 0) q (.row sz e xs) 0)) w (vs++Array.replicate (fn.ntmps - vs.size) undef) v (As (enter 0 args (DY fn.ntmps)) t).av:=by
     intro _
     rw [hget0]
     split
     ·rename_i x hx
      have hlt:t < vs.size:=by rw [hlen]; exact AH hx
      rw [Array.getElem?_append_left hlt] at hv
      have hr:=hargs t v x hv hx
      cases x with
      | any=>trivial
      | d y=>exact AB.mono (BG.of_sub hOS) (show AB _ w v y from hr)
      | lim sz xs =>
        have hr':AB (fun c=>O c∨c = b∨Ay u = some c) w v (.list sz xs)∧Pn v = xs.length:=hr
        exact ⟨hr'.1.mono (BG.of_sub hOS),hr'.2⟩
      | bot | ptr _ _ _ | sl _ _ | eptr _ _ _ _ _ | tup _ | under _ _ _ | cc _ _ | own _ _ _ | optr _=>exact hr.elim
     ·trivial
    by_cases e1:t = q
    ·subst e1
     rw [if_pos rfl]
     exact base hkq
    ·rw [if_neg e1]
     by_cases e2:t = k
     ·rw [if_pos e2]
      subst e2
      have hlt:t < vs.size:=by rw [hlen]; exact hkl
      rw [Array.getElem?_append_left hlt,hvk] at hv
      cases hv
      exact ⟨Nat.zero_le _,fun _=>⟨b,hβk,rfl⟩⟩
     ·rw [if_neg e2]
      exact base e2
   ·intro i
    rw [hget]
    by_cases e1:i = q
    ·rw [if_pos e1,e1]
     exact ⟨hsz,hxs,rvals,by rw [hβq]; exact hrr,hrl.mono (BG.of_sub hOS)⟩
    ·rw [if_neg e1]
     by_cases e2:i = k
     ·rw [if_pos e2,e2]
      refine ⟨b,#[u],T,hβk,hh,rfl,fun j v c hv hc=>?_⟩
      cases j with
      | zero=>simp at hv hc; subst hv; subst hc; exact ⟨Nat.zero_le _,fun _=>hβq.symm⟩
      | succ j=>simp at hc
     ·rw [if_neg e2,(hbx0 i).1]
      trivial
   ·intro i c' ho hb
    refine ⟨.inr ?_,fun h=>h⟩
    rcases hown i ho with rfl | rfl
    ·rw [hβq] at hb; exact .inr hb
    ·rw [hβk] at hb; simp [Ay] at hb; exact .inl hb.symm
   ·intro i j c' hi hj hbi hbj
    rcases hown i hi with rfl | rfl <;> rcases hown j hj with rfl | rfl
    ·rfl
    ·rw [hβq] at hbi; rw [hβk] at hbj; simp [Ay] at hbj; exact ((huO c' hbi).2 hbj.symm).elim
    ·rw [hβq] at hbj; rw [hβk] at hbi; simp [Ay] at hbi; exact ((huO c' hbj).2 hbi.symm).elim
    ·rfl
   ·intro t g hg
    rw [hget] at hg
    have h0:∀ i,(As (enter 0 args (DY fn.ntmps)) i).av.guards = []:=by
     intro i
     rw [hget0]
     split
     ·rename_i x hx
      have hlt:i < vs.size:=by rw [hlen]; exact AH hx
      have hr:=hargs i vs[i] x (by simp [hlt]) hx
      cases x <;> first | rfl | exact hr.elim
     ·rfl
    by_cases e1:t = q
    ·rw [if_pos e1] at hg; rw [h0] at hg; cases hg
    ·rw [if_neg e1] at hg
     by_cases e2:t = k
     ·rw [if_pos e2] at hg; cases hg
     ·rw [if_neg e2,h0] at hg; cases hg
   ·intro i _ _; rfl
  refine wp_mono (EF hdraw c hr hsim) fun e' a' w' hq'=>?_
  obtain ⟨β',S',hq',hs⟩:=hq'
  have El:cR S' k q sz e ys→a'.defers = []∧∃ v,(results fn a'.tmps).run P w' = .ok v w'∧∃ v' u' T',Ending.returned v = .returned v'∧Bf w.heap.size (fun c=>c = b∨Ay u = some c) w w' ∧
   w'.heap[b]? = some (.cells #[u'] T' (0,0))∧(∀ c,Ay u' = some c→Ay u = some c∨w.heap.size≤c)∧(∀ x∈ys,x.cells.length = sz) ∧
   ∃ vals,C3 w' e sz u' ys.length vals∧Bo (fun c=>O c∨c = b∨Ay u' = some c) w' vals (ys.flatMap D.cells):=by
   intro hq'
   unfold cR at hq'
   split at hq' <;> try exact hq'.elim
   rename_i av1 q' n hk1
   split at hq' <;> try exact hq'.elim
   rename_i av2 sz' e2 xs' m hk2
   obtain ⟨rfl,rfl,rfl,rfl,rfl⟩:=hq'
   have hb1:=hs.boxes k
   rw [hk1] at hb1
   obtain ⟨b1,vals,T1,j1,j2,j3,j4⟩:=hb1
   have hini:=hs.ini k (by rw [hk1]) (by rw [hk1]; simp)
   have hini':β' k = β k:=hini
   rw [hini',hβk] at j1
   simp only [Value.pointer.injEq,Option.some.injEq,Addr.mk.injEq] at j1
   obtain ⟨rfl,_⟩:=j1
   obtain ⟨u',rfl⟩:∃ u',vals = #[u']:=by
    have:vals.size = 1:=j3
    exact ⟨vals[0],by apply Array.ext; simp [this]; intro i h1 h2; simp at h2; subst h2; rfl⟩
   have hcu:=j4 0 u' (.sl q' n) rfl rfl
   have hu':u' = β' q':=hcu.2 (by simp only [AP,hk2])
   have hb2:=hs.boxes q'
   rw [hk2] at hb2
   obtain ⟨l1,l2,vals2,l3,l4⟩:=hb2
   have o1:(As S' k).box.owned = true:=by rw [hk1]; rfl
   have o2:(As S' q').box.owned = true:=by rw [hk2]; rfl
   have hbk:Ay (β' k) = some b:=by rw [hini',hβk]; rfl
   refine ⟨hs.df,.tuple #[],?_,.tuple #[],u',T1,rfl,hs.below,j2,fun c' hc'=>?_,l2,vals2,by rw [hu']; exact l3,l4.mono (BG.of_sub fun c' hc'=>?_)⟩
   ·have:=OB (P:=P) (w:=w') (a:=a') (fn:=fn) (vs:=[]) (by rw [hres]; rfl)
    simpa using this
   ·rw [hu'] at hc'
    have:=(hs.mine q' c' o2 hc').1
    rcases this with h1 | h1
    ·exact .inr h1
    ·rcases h1 with h1 | h1
     ·subst h1
      exact (hkq (hs.inj q' k c' o2 o1 hc' hbk)).elim
     ·exact .inl h1
   ·rcases hc' with hc' | rfl | hc'
    ·exact .inl hc'
    ·exact .inr (.inr ⟨k,o1,hbk⟩)
    ·exact .inr (.inr ⟨q',o2,by rw [← hu']; exact hc'⟩)
  cases e' with
  | normal=>exact El hq'
  | ret=>exact El hq'
  | exit id=>exact hq'.elim
  | goto l=>exact hq'.elim
  | panic ch=>exact hq'.elim
  | outgrown=>exact hq'.elim
 ·exact hr.elim
end
end Go.Abs
set_option linter.unusedVariables false
set_option linter.unusedSimpArgs false
namespace Go.Abs
def C7 {α:Type} (F:(α→Prop)→Prop):Prop:=(∀ K K':α→Prop,(∀ x,K x→K' x)→F K→F K')∧∀ K,F K→∃ x,F (fun y=>y = x)∧K x
def E4 {α γ:Type} (F:(α→γ→Prop)→Prop):Prop:=(∀ K K':α→γ→Prop,(∀ x y,K x y→K' x y)→F K→F K')∧∀ K,F K→∃ x y,F (fun x' y'=>x' = x∧y' = y)∧K x y
section
variable {α γ δ:Type}
theorem Ao (x:α):C7 fun K:α→Prop=>K x:=⟨fun _ _ h hk=>h _ hk,fun _ hk=>⟨x,rfl,hk⟩⟩
theorem Al:C7 fun _:α→Prop=>False:=⟨fun _ _ _ h=>h,fun _ h=>h.elim⟩
theorem Bl (x:α) (y:γ):E4 fun K:α→γ→Prop=>K x y:=⟨fun _ _ h hk=>h _ _ hk,fun _ hk=>⟨x,y,⟨rfl,rfl⟩,hk⟩⟩
theorem CN:E4 fun _:α→γ→Prop=>False:=⟨fun _ _ _ h=>h,fun _ h=>h.elim⟩
theorem A6 {F:(α→Prop)→Prop} {Gf:α→(γ→Prop)→Prop} (hF:C7 F) (hG:∀ x,C7 (Gf x)):C7 fun K:γ→Prop=>F fun x=>Gf x K:=by
 refine ⟨fun K K' h hk=>hF.1 _ _ (fun x hx=>(hG x).1 _ _ h hx) hk,fun K hk=>?_⟩
 obtain ⟨x,h1,h2⟩:=hF.2 _ hk
 obtain ⟨y,h3,h4⟩:=(hG x).2 _ h2
 exact ⟨y,hF.1 _ _ (fun z hz=>by subst hz; exact h3) h1,h4⟩
theorem BL {F:(α→γ→Prop)→Prop} {Gf:α→γ→(δ→Prop)→Prop} (hF:E4 F) (hG:∀ x y,C7 (Gf x y)):C7 fun K:δ→Prop=>F fun x y=>Gf x y K:=by
 refine ⟨fun K K' h hk=>hF.1 _ _ (fun x y hx=>(hG x y).1 _ _ h hx) hk,fun K hk=>?_⟩
 obtain ⟨x,y,h1,h2⟩:=hF.2 _ hk
 obtain ⟨z,h3,h4⟩:=(hG x y).2 _ h2
 exact ⟨z,hF.1 _ _ (fun u v huv=>by obtain ⟨rfl,rfl⟩:=huv; exact h3) h1,h4⟩
theorem Bw {ε:Type} {F:(α→γ→Prop)→Prop} {Gf:α→γ→(δ→ε→Prop)→Prop} (hF:E4 F) (hG:∀ x y,E4 (Gf x y)):E4 fun K:δ→ε→Prop=>F fun x y=>Gf x y K:=by
 refine ⟨fun K K' h hk=>hF.1 _ _ (fun x y hx=>(hG x y).1 _ _ h hx) hk,fun K hk=>?_⟩
 obtain ⟨x,y,h1,h2⟩:=hF.2 _ hk
 obtain ⟨z,z',h3,h4⟩:=(hG x y).2 _ h2
 exact ⟨z,z',hF.1 _ _ (fun u v huv=>by obtain ⟨rfl,rfl⟩:=huv; exact h3) h1,h4⟩
theorem Cd {F:(α→Prop)→Prop} (p:Prop) (hF:C7 F):C7 fun K:α→Prop=>Iv p (F K):=by
 refine ⟨fun K K' h hk=>⟨hk.1,hF.1 _ _ h hk.2⟩,fun K hk=>?_⟩
 obtain ⟨x,h1,h2⟩:=hF.2 _ hk.2
 exact ⟨x,⟨hk.1,h1⟩,h2⟩
theorem Bi {F:(α→Prop)→Prop} (c:Prop) [Decidable c] (hF:C7 F):C7 fun K:α→Prop=>if c then F K else False:=by
 by_cases h:c
 ·simp only [h,if_true]; exact hF
 ·simp only [h,if_false]; exact Al
theorem OQ (xs:List D) (i:Int):C7 fun K:D→Prop=>At xs i K :=
 ⟨fun _ _ h hk=>by obtain ⟨h0,x,h1,h2⟩:=hk.go; exact ⟨⟨h0,x,h1,h _ h2⟩⟩,fun _ hk=>by obtain ⟨h0,x,h1,h2⟩:=hk.go; exact ⟨x,⟨⟨h0,x,h1,rfl⟩⟩,h2⟩⟩
theorem KV {F F':(α→Prop)→Prop} (hF:C7 F) (hF':C7 F'):C7 fun K:α→Prop=>Rr (F K) (F' K):=by
 refine ⟨fun K K' h hk=>⟨hk.go.imp (hF.1 _ _ h) (hF'.1 _ _ h)⟩,fun K hk=>?_⟩
 rcases hk.go with hk | hk
 ·obtain ⟨x,h1,h2⟩:=hF.2 _ hk; exact ⟨x,⟨.inl h1⟩,h2⟩
 ·obtain ⟨x,h1,h2⟩:=hF'.2 _ hk; exact ⟨x,⟨.inr h1⟩,h2⟩
theorem XX {F:List (Nat × Nat)→(α→Prop)→Prop} (hF:∀ hs,C7 (F hs)):C7 fun K:α→Prop=>ct fun hs=>F hs K:=by
 refine ⟨fun K K' h hk=>?_,fun K hk=>?_⟩
 ·obtain ⟨hs,hk⟩:=hk.go; exact ⟨⟨hs,(hF hs).1 _ _ h hk⟩⟩
 ·obtain ⟨hs,hk⟩:=hk.go
  obtain ⟨x,h1,h2⟩:=(hF hs).2 _ hk
  exact ⟨x,⟨⟨hs,h1⟩⟩,h2⟩
theorem Z4 {P:Program} {f:FuncId} {nils:List Nat} {vs ms:List AV} {F:AV→(α→Prop)→Prop} {F':List AV→AV→(α→Prop)→Prop} (hF:∀ r,C7 (F r)) (hF':∀ o r,C7 (F' o r)) :
 C7 fun K:α→Prop=>Hu P f nils vs (fun r=>F r K) ms (fun o r=>F' o r K):=by
 refine ⟨fun K K' h hk=>?_,fun K hk=>?_⟩
 ·rcases hk.go with ⟨r,h1,h2⟩ | ⟨o,r,h1,h2⟩
  ·exact ⟨.inl ⟨r,h1,(hF r).1 _ _ h h2⟩⟩
  ·exact ⟨.inr ⟨o,r,h1,(hF' o r).1 _ _ h h2⟩⟩
 ·rcases hk.go with ⟨r,h1,h2⟩ | ⟨o,r,h1,h2⟩
  ·obtain ⟨x,h3,h4⟩:=(hF r).2 _ h2; exact ⟨x,⟨.inl ⟨r,h1,h3⟩⟩,h4⟩
  ·obtain ⟨x,h3,h4⟩:=(hF' o r).2 _ h2; exact ⟨x,⟨.inr ⟨o,r,h1,h3⟩⟩,h4⟩
theorem GW {F:(α→Prop)→Prop} {Gf:α→(γ→δ→Prop)→Prop} (hF:C7 F) (hG:∀ x,E4 (Gf x)):E4 fun K:γ→δ→Prop=>F fun x=>Gf x K:=by
 refine ⟨fun K K' h hk=>hF.1 _ _ (fun x hx=>(hG x).1 _ _ h hx) hk,fun K hk=>?_⟩
 obtain ⟨x,h1,h2⟩:=hF.2 _ hk
 obtain ⟨y,z,h3,h4⟩:=(hG x).2 _ h2
 exact ⟨y,z,hF.1 _ _ (fun u hu=>by subst hu; exact h3) h1,h4⟩
theorem R0 {F:(α→γ→Prop)→Prop} (c:Prop) [Decidable c] (hF:E4 F):E4 fun K:α→γ→Prop=>if c then F K else False:=by
 by_cases h:c
 ·simp only [h,if_true]; exact hF
 ·simp only [h,if_false]; exact CN
def Kb {α γ δ:Type} (F:(α→γ→δ→Prop)→Prop):Prop:=(∀ K K':α→γ→δ→Prop,(∀ x y z,K x y z→K' x y z)→F K→F K')∧∀ K,F K→∃ x y z,F (fun x' y' z'=>x' = x∧y' = y∧z' = z)∧K x y z
theorem Er (x:α) (y:γ) (z:δ):Kb fun K:α→γ→δ→Prop=>K x y z:=⟨fun _ _ h hk=>h _ _ _ hk,fun _ hk=>⟨x,y,z,⟨rfl,rfl,rfl⟩,hk⟩⟩
theorem FV:Kb fun _:α→γ→δ→Prop=>False:=⟨fun _ _ _ h=>h,fun _ h=>h.elim⟩
theorem TG {ε:Type} {F:(α→γ→δ→Prop)→Prop} {Gf:α→γ→δ→(ε→Prop)→Prop} (hF:Kb F) (hG:∀ x y z,C7 (Gf x y z)):C7 fun K:ε→Prop=>F fun x y z=>Gf x y z K:=by
 refine ⟨fun K K' h hk=>hF.1 _ _ (fun x y z hx=>(hG x y z).1 _ _ h hx) hk,fun K hk=>?_⟩
 obtain ⟨x,y,z,h1,h2⟩:=hF.2 _ hk
 obtain ⟨u,h3,h4⟩:=(hG x y z).2 _ h2
 exact ⟨u,hF.1 _ _ (fun a b c h=>by obtain ⟨rfl,rfl,rfl⟩:=h; exact h3) h1,h4⟩
theorem Je {ε ζ η:Type} {F:(α→γ→δ→Prop)→Prop} {Gf:α→γ→δ→(ε→ζ→η→Prop)→Prop} (hF:Kb F) (hG:∀ x y z,Kb (Gf x y z)):Kb fun K:ε→ζ→η→Prop=>F fun x y z=>Gf x y z K:=by
 refine ⟨fun K K' h hk=>hF.1 _ _ (fun x y z hx=>(hG x y z).1 _ _ h hx) hk,fun K hk=>?_⟩
 obtain ⟨x,y,z,h1,h2⟩:=hF.2 _ hk
 obtain ⟨u,v,t,h3,h4⟩:=(hG x y z).2 _ h2
 exact ⟨u,v,t,hF.1 _ _ (fun a b c h=>by obtain ⟨rfl,rfl,rfl⟩:=h; exact h3) h1,h4⟩
theorem Sv {ε ζ η:Type} {F:(α→γ→Prop)→Prop} {Gf:α→γ→(ε→ζ→η→Prop)→Prop} (hF:E4 F) (hG:∀ x y,Kb (Gf x y)):Kb fun K:ε→ζ→η→Prop=>F fun x y=>Gf x y K:=by
 refine ⟨fun K K' h hk=>hF.1 _ _ (fun x y hx=>(hG x y).1 _ _ h hx) hk,fun K hk=>?_⟩
 obtain ⟨x,y,h1,h2⟩:=hF.2 _ hk
 obtain ⟨u,v,t,h3,h4⟩:=(hG x y).2 _ h2
 exact ⟨u,v,t,hF.1 _ _ (fun a b h=>by obtain ⟨rfl,rfl⟩:=h; exact h3) h1,h4⟩
theorem Qc {ε ζ η:Type} {F:(α→Prop)→Prop} {Gf:α→(ε→ζ→η→Prop)→Prop} (hF:C7 F) (hG:∀ x,Kb (Gf x)):Kb fun K:ε→ζ→η→Prop=>F fun x=>Gf x K:=by
 refine ⟨fun K K' h hk=>hF.1 _ _ (fun x hx=>(hG x).1 _ _ h hx) hk,fun K hk=>?_⟩
 obtain ⟨x,h1,h2⟩:=hF.2 _ hk
 obtain ⟨u,v,t,h3,h4⟩:=(hG x).2 _ h2
 exact ⟨u,v,t,hF.1 _ _ (fun a h=>by subst h; exact h3) h1,h4⟩
theorem BC {β:Type} (l:List β):C7 fun K:List β→Prop=>BY l K:=by simp only [By]; exact Ao l
end
theorem Kp:∀ l:List D,C7 fun K=>Nt l K
 | []=>Ao _
 | x :: r=>by
   unfold Nt
   refine A6 (Kp r) fun r=>?_
   split <;> exact Ao _
theorem MJ (x:D):C7 fun K=>Pw x K:=by
 cases x <;> simp only [Pw] <;> first | exact Ao _ | exact A6 (Kp _) fun l=>Ao _
theorem LY (r:RV):E4 fun K=>UZ r K:=by cases r <;> simp only [UZ] <;> first | exact Bl _ _ | exact CN
theorem WU (r:RV):E4 fun K=>cz r K:=by
 unfold cz
 exact Bw (LY r) fun x b=>GW (MJ x) fun y=>Bl _ _
theorem Hd (σ:Nat→Nat→RV):∀ l,E4 fun K=>CK σ l K
 | []=>Bl _ _
 | .d x :: r=>by
   show E4 fun K=>CK σ r fun l b=>K (x :: l) b
   exact Bw (Hd σ r) fun l b=>Bl _ _
 | .sl id n :: r=>by
   show E4 fun K=>UZ (σ id n) fun x b=>CK σ r fun l b'=>K (x :: l) (b++b')
   exact Bw (LY _) fun x b=>Bw (Hd σ r) fun l b=>Bl _ _
 | .own _ _ _ :: _=>CN
theorem Jf:∀ l:List D,C7 fun K=>X1 l K
 | []=>Ao _
 | x :: r=>by
   show C7 fun K=>X1 r fun r=>K (.d x :: r)
   exact A6 (Jf r) fun r=>Ao _
theorem TH:∀ l:List D,C7 fun K=>Ty l K
 | []=>Ao _
 | x :: r=>by
   show C7 fun K=>Ty r fun r=>K (.d x :: r)
   exact A6 (TH r) fun r=>Ao _
theorem MH (σ:Nat→Nat→RV) (r:RV):E4 fun K=>Nm σ r K:=by
 cases r <;> simp only [Nm] <;> first | exact Bl _ _ | exact CN | skip
 ·exact GW (MJ _) fun x=>Bl _ _
 ·exact Bw (Hd σ _) fun l b=>GW (Kp _) fun l=>GW (BC _) fun l'=>Bl _ _
 ·exact GW (OQ _ _) fun x=>GW (BC _) fun l=>Bl _ _
theorem TK (P:Program) (t:TypeId):C7 fun K=>Vs P t K:=by
 unfold Vs
 split
 ·exact Ao _
 ·exact Al
theorem KU (P:Program) (σ:Nat→Nat→RV) (ρ:Operand→RV):∀ l ts,E4 fun K=>FL P σ ρ l ts K
 | [],_=>Bl _ _
 | x :: r,ts=>by
   unfold FL
   split
   ·split
    ·exact GW (TK _ _) fun v=>Bw (KU P σ ρ r _) fun vs bs=>Bl _ _
    ·exact CN
   ·exact Bw (MH _ _) fun v b=>Bw (KU P σ ρ r _) fun vs bs=>Bl _ _
theorem Vn (σ:Nat→Nat→RV):∀ l,Kb fun K=>Qv σ l K
 | []=>FV
 | .d x :: r=>by
   show Kb fun K=>Pw x fun x=>Qv σ r fun l id n=>K (.d x :: l) id n
   exact Qc (MJ _) fun x=>Je (Vn σ r) fun l id n=>Er _ _ _
 | .sl id n :: r=>by
   simp only [Qv]
   split
   ·split
    ·exact Er _ _ _
    ·exact FV
   ·exact FV
 | .own _ _ _ :: _=>FV
theorem Qe:∀ l,Kb fun K=>S2 l K
 | []=>FV
 | .d _ :: r=>Qe r
 | .sl _ _ :: r=>Qe r
 | .own sz e xs :: r=>by
   simp only [S2]
   split
   ·exact Er _ _ _
   ·exact FV
theorem WW (σ:Nat→Nat→RV) (r:RV):Kb fun K=>Qf σ r K:=by
 unfold Qf
 split
 ·exact Er _ _ _
 ·exact Sv (Hd σ _) fun l b=>Qc (Kp _) fun l=>Er _ _ _
 ·exact Je (Vn σ _) fun l id n=>Er _ _ _
 ·exact Sv (MH σ _) fun v b=>Er _ _ _
theorem MI (P:Program) (σ:Nat→Nat→RV) (ρ:Operand→RV):∀ l ts,Kb fun K=>EY P σ ρ l ts K
 | [],_=>Er _ _ _
 | x :: r,ts=>by
   unfold EY
   split
   ·split
    ·exact Qc (TK _ _) fun v=>Je (MI P σ ρ r _) fun vs bs us=>Er _ _ _
    ·exact FV
   ·exact Je (WW _ _) fun v b u=>Je (MI P σ ρ r _) fun vs bs us=>Er _ _ _
theorem NZ (ρ:Operand→RV):∀ l,E4 fun K=>Jt ρ l K
 | []=>Bl _ _
 | (i,x) :: r=>by
   show E4 fun K=>UZ (ρ x) fun v b=>Jt ρ r fun vs bs=>K ((i,v) :: vs) (b++bs)
   exact Bw (LY (ρ x)) fun v b=>Bw (NZ ρ r) fun vs bs=>Bl _ _
theorem Sy (ρ:Operand→RV):∀ l,E4 fun K=>Kx ρ l K
 | []=>Bl _ _
 | (i,x) :: r=>by
   show E4 fun K=>cz (ρ x) fun v b=>Kx ρ r fun vs bs=>K ((i,v) :: vs) (b++bs)
   exact Bw (WU (ρ x)) fun v b=>Bw (Sy ρ r) fun vs bs=>Bl _ _
theorem NX (σ:Nat→Nat→RV) (ρ:Operand→RV):∀ l,E4 fun K=>GO σ ρ l K
 | []=>Bl _ _
 | x :: r=>by
   unfold GO
   refine Bw (MH σ (ρ x)) fun v b=>?_
   split
   ·exact R0 _ (Bw (NX σ ρ r) fun l bs=>Bl _ _)
   ·exact CN
theorem NW (σ:Nat→Nat→RV) (ρ:Operand→RV):∀ l,E4 fun K=>GN σ ρ l K
 | []=>Bl _ _
 | x :: r=>by
   unfold GN
   split
   ·exact Bw (NW σ ρ r) fun l bs=>Bl _ _
   ·refine Bw (MH σ (ρ x)) fun v b=>?_
    split
    ·exact R0 _ (Bw (NW σ ρ r) fun l bs=>Bl _ _)
    ·exact CN
theorem VV (r:RV):C7 fun K=>cellsOf r K:=by
 cases r <;> simp only [cellsOf] <;> first | exact Ao _ | exact Al | exact Jf _
theorem Sx (ρ:Operand→RV):∀ l,C7 fun K=>Kw ρ l K
 | []=>Ao _
 | (i,x) :: r=>by
   unfold Kw
   exact A6 (VV _) fun c=>A6 (Sx ρ r) fun ps=>Ao _
theorem Ya (P:Program) (f:FuncId) (args:List AV) (k sz:Nat) (e:TypeId) (xs:List D):C7 fun K=>Y5 P f args k sz e xs K :=
 ⟨fun _ _ h hk=>by obtain ⟨ys,h1,h2⟩:=hk.go; exact ⟨⟨ys,h1,h _ h2⟩⟩,fun _ hk=>by obtain ⟨ys,h1,h2⟩:=hk.go; exact ⟨ys,⟨⟨ys,h1,rfl⟩⟩,h2⟩⟩
theorem aL {α:Type} {F:(α→Prop)→Prop} (c:Prop) [Decidable c] (hF:C7 F):C7 fun K:α→Prop=>if c then False else F K:=by
 by_cases h:c
 ·simp only [h,if_true]; exact Al
 ·simp only [h,if_false]; exact hF
theorem Sw (r:RV):E4 fun K=>Lw r K:=by
 unfold Lw
 split <;> first | exact Bl _ _ | exact CN
theorem TJ (P:Program) (t:TypeId) (cs:List D):C7 fun K=>YH P t cs K:=by
 unfold YH
 split
 ·split
  ·exact A6 (BC _) fun l=>Bi _ (Ao _)
  ·exact Al
 ·split
  ·exact Ao _
  ·exact Al
 ·exact Al
theorem aK (P:Program) (σ:Nat→Nat→RV) (t:TypeId) (cs:List C):C7 fun K=>bE P σ t cs K:=by
 unfold bE
 split
 ·split
  ·refine A6 (BC _) fun l=>Bi _ ?_
   split
   ·exact BL (Hd σ _) fun l b=>Ao _
   ·exact KV (BL (Hd σ _) fun l b=>Ao _) (Bi _ (Ao _))
  ·exact Al
 ·split <;> first | exact Ao _ | exact Al
 ·exact Al
theorem XW (op:BinOp) (k:IntKind) (a b:Int):C7 fun K=>Sg op k a b K:=by
 cases op <;> simp only [Sg] <;> first | exact Ao _ | exact Al | exact Cd _ (Ao _)
theorem Sz (op:BinOp) (k:IntKind) (a b:Int):C7 fun K=>RS op k a b K:=by
 cases op <;> simp only [RS] <;> first | exact Cd _ (Ao _) | exact Al
theorem Z5 (op:BinOp) (a b:ByteArray):C7 fun K=>Yy op a b K:=by
 cases op <;> simp only [Yy] <;> first | exact Ao _ | exact Al | exact Cd _ (Ao _)
theorem TI (P:Program):∀ (n:Nat) (t:TypeId) (xs ys:List D),C7 fun K=>WO P n t xs ys K
 | 0,_,_,_=>Al
 | n + 1,t,xs,ys=>by
   unfold WO
   split
   ·split
    ·exact Bi _ (Ao _)
    ·exact Al
   ·split
    ·exact Ao _
    ·exact Al
   ·split
    ·exact Ao _
    ·exact Al
   ·rename_i fs _
    refine Cd _ ?_
    generalize fs.toList = l
    induction l with
    | nil=>exact Ao _
    | cons f r ih=>exact A6 (TI P n f.type _ _) fun a=>A6 ih fun b=>Ao _
   ·exact Al
theorem Z3 (P:Program) (t:TypeId) (op:BinOp) (x y:D):C7 fun K=>W7 P t op x y K:=by
 unfold W7
 split
 ·split
  ·exact Sz _ _ _ _
  ·exact Sz _ _ _ _
  ·exact Bi _ (XW _ _ _ _)
 ·exact Z5 _ _ _
 ·split
  ·split <;> first | exact Ao _ | exact Al
  ·exact Al
 ·refine Cd _ ?_
  split
  ·exact A6 (TI _ _ _ _ _) fun b=>Ao _
  ·exact A6 (TI _ _ _ _ _) fun b=>Ao _
  ·exact Al
 ·exact Al
theorem aM (op:UnOp) (x:D):C7 fun K=>du op x K:=by
 cases op <;> cases x <;> simp only [du] <;> first | exact Ao _ | exact Al
theorem XY (r:AV) (b:Bx):C7 fun K=>Xh r b K:=by
 unfold Xh
 split
 ·exact Ao _
 ·split <;> exact Ao _
theorem Qd:∀ (l:List C) (hs:List (Nat × Nat)),E4 fun K=>Pq l hs K
 | [],[]=>Bl _ _
 | .d x :: r,hs=>by
   unfold Pq
   exact Bw (Qd r hs) fun l b=>Bl _ _
 | .own sz e xs :: r,(h,n) :: hs=>by
   unfold Pq
   exact Bw (Qd r hs) fun l b=>R0 _ (Bl _ _)
 | [],_ :: _=>CN
 | .own _ _ _ :: _,[]=>CN
 | .sl _ _ :: _,hs=>by unfold Pq; exact CN
theorem WV (d n:Nat) (r:AV) (b:Bx):C7 fun K=>ZW d n r b K:=by
 unfold ZW
 split
 ·exact Bi _ (Ao _)
 ·exact Bi _ (A6 (Jf _) fun l=>Ao _)
 ·split
  ·exact Ao _
  ·exact XX fun hs=>BL (Qd _ _) fun l hb=>Bi _ (Ao _)
 all_goals first | exact Ao _ | exact Al
theorem Kq:∀ (us:List (Option (Nat × Nat))) (os:List AV),C7 fun K=>J6 us os K
 | [],[]=>Ao _
 | none :: us,o :: os=>by
   unfold J6
   exact Kq us os
 | some (id,n) :: us,o :: os=>by
   cases o <;> simp only [J6] <;> first | exact Al | exact A6 (Kq us os) (fun b=>Bi _ (Ao _)) | exact A6 (Jf _) fun l=>A6 (Kq us os) (fun b=>Bi _ (Ao _)) | exact TG (Qe _) fun _ _ _=>A6 (Kq us os) (fun b=>Bi _ (Ao _))
 | [],_ :: _=>by simp only [J6]; exact Al
 | _ :: _,[]=>by simp only [J6]; exact Al
theorem Yb (P:Program) (t:TypeId):C7 fun K=>V4 P t K:=by
 unfold V4
 split
 ·split
  ·exact A6 (Kp _) fun l=>Ao _
  ·split
   ·exact MJ _
   ·exact Al
  ·exact Al
 ·exact Al
theorem NY (ρ:Operand→RV) (x:Option Operand) (n:Int):C7 fun K=>X8 ρ x n K:=by
 unfold X8
 split
 ·exact Ao _
 ·split
  ·exact Ao _
  ·exact Al
theorem KW (ρ:Operand→RV) (sz:Nat) (xs:List D) (lo hi mx:Option Operand) (b:Bx):C7 fun K=>J3 ρ sz xs lo hi mx b K:=by
 unfold J3
 refine A6 (NY _ _ _) fun l=>A6 (NY _ _ _) fun h=>?_
 split
 ·exact Cd _ (Ao _)
 ·by_cases hh:hi.isNone = true
  ·simp only [hh,if_true]; exact Al
  ·simp only [hh,Bool.false_eq_true,if_false]
   split
   ·exact Cd _ (Ao _)
   ·exact Al
theorem U7 (r:Option D) (z:D):E4 fun K=>Qs r z K :=
 ⟨fun _ _ h hk=>by obtain ⟨v,b,h1,h2,h3⟩:=hk.go; exact ⟨⟨v,b,h1,h2,h _ _ h3⟩⟩,fun _ hk=>by obtain ⟨v,b,h1,h2,h3⟩:=hk.go; exact ⟨v,b,⟨⟨v,b,h1,h2,⟨rfl,rfl⟩⟩⟩,h3⟩⟩
theorem XZ (P:Program) (kt et:TypeId) (x ix:RV) (ok:Bool):C7 fun K=>YN P kt et x ix ok K:=by
 unfold YN
 split
 ·split
  ·split
   ·refine Cd _ ?_
    split
    ·refine BL (U7 _ _) fun v b=>?_
     split
     ·exact Ao _
     ·exact Ao _
    ·exact Al
   ·exact Al
  ·exact Al
 ·exact Al
theorem Z6 (P:Program) (kt:TypeId) (m k x:RV):C7 fun K=>cq P kt m k x K:=by
 unfold cq
 split
 ·split
  ·split
   ·split
    ·exact Cd _ (Ao _)
    ·exact Al
   ·exact Al
  ·exact Al
 ·exact Al
set_option maxHeartbeats 1000000 in
theorem YE (P:Program) (σ:Nat→Nat→RV) (ρ:Option (Nat × Bool)→Operand→RV) (g:Option (Nat × Bool)) (o:Oper) (d n:Nat):C7 fun K=>yA P σ ρ g o d n K:=by
 unfold yA
 split
 ·exact Ao _
 ·split
  ·split
   ·exact Bi _ (Ao _)
   ·exact Al
  ·exact Ao _
 ·split
  ·exact Ao _
  ·split
   ·split
    ·exact Ao _
    ·exact Al
   ·split
    ·exact Ao _
    ·exact Ao _
    ·exact Al
   ·exact Al
  ·exact Al
 ·split
  ·exact Ao _
  ·exact Ao _
  ·exact BL (LY _) fun v b=>A6 (Jf _) fun l=>Ao _
 ·split
  ·exact A6 (Jf _) fun l=>Ao _
  ·exact Al
 ·split
  ·split
   ·refine Bi _ ?_
    split
    ·refine BL (NZ _ _) fun ps b=>?_
     split
     ·exact A6 (BC _) fun l=>Ao _
     ·exact Al
    ·refine KV ?_ ?_
     ·refine BL (NZ _ _) fun ps b=>?_
      split
      ·exact A6 (BC _) fun l=>Ao _
      ·exact Al
     ·refine A6 (Jf _) fun zc=>A6 (Sx _ _) fun ps=>?_
      split
      ·exact A6 (BC _) fun l=>Ao _
      ·exact Al
   ·exact Al
  ·exact Al
 ·split
  ·refine BL (Sy _ _) fun ps b=>?_
   split
   ·exact A6 (BC _) fun l=>Bi _ (Ao _)
   ·exact Al
  ·exact Al
 ·split
  ·split
   ·split
    ·exact Bi _ (A6 (Yb _ _) fun z=>Cd _ (Ao _))
    ·exact Al
   ·exact Al
  ·exact Al
 ·split
  ·split
   ·exact BL (NX _ _ _) fun l b=>Ao _
   ·exact KV (BL (NX _ _ _) fun l b=>Ao _) (BL (NW _ _ _) fun l b=>Ao _)
  ·exact Al
 ·split
  ·exact Ao _
  ·exact aK _ _ _ _
  ·exact A6 (TJ _ _ _) fun x=>Ao _
  ·exact A6 (OQ _ _) fun x=>A6 (TJ _ _ _) fun x=>Ao _
  ·exact Al
 ·refine Bi _ ?_
  split
  ·split
   ·split
    ·exact Bi _ (A6 (BC _) fun l=>Ao _)
    ·exact BL (LY _) fun v b=>Bi _ (A6 (Jf _) fun l=>A6 (BC _) fun l=>Ao _)
   ·refine Bi _ ?_
    split
    ·exact A6 (BC _) fun l=>Ao _
    ·exact BL (LY _) fun v b=>Bi _ (A6 (BC _) fun l=>Ao _)
   ·exact Al
  ·refine BL (WU _) fun v b=>A6 (OQ _ _) fun y=>Bi _ ?_
   split
   ·exact A6 (BC _) fun l=>Ao _
   ·exact Bi _ (Ao _)
  ·exact Al
 ·split <;> first | exact Ao _ | exact Al
 ·split
  ·exact Ao _
  ·split
   ·exact Ao _
   ·exact A6 (Z3 _ _ _ _ _) fun x=>Ao _
   ·exact Al
  ·exact Al
 ·split
  ·exact Ao _
  ·exact A6 (aM _ _) fun x=>Ao _
  ·exact Al
 ·split
  ·split
   ·split <;> first | exact Ao _ | exact Al
   ·split <;> first | exact Ao _ | exact Al
   ·split
    ·split <;> first | exact Ao _ | exact Al
    ·exact Al
   ·exact Al
  ·exact Al
 ·split
  ·split
   ·refine Bi _ ?_
    split
    ·exact Ao _
    ·exact Ao _
    ·exact A6 (BC _) fun l=>Ao _
    ·exact Ao _
    ·exact Al
   ·exact Al
  ·exact Al
 ·split
  ·split
   ·split
    ·exact Ao _
    ·exact A6 (TJ _ _ _) fun x=>Ao _
    ·exact Al
   ·exact Al
  ·exact Al
 ·split
  ·split
   ·split
    ·exact Bi _ (A6 (OQ _ _) fun x=>A6 (BC _) fun l=>Ao _)
    ·exact Bi _ (A6 (OQ _ _) fun x=>A6 (BC _) fun l=>Ao _)
    ·exact Bi _ (Cd _ (Ao _))
    ·exact Al
   ·exact Al
  ·split
   ·split
    ·exact Bi _ (Cd _ (A6 (OQ _ _) fun x=>Ao _))
    ·exact Al
   ·exact Al
  ·exact Al
 ·split
  ·split
   ·split
    ·exact Cd _ (Ao _)
    ·exact Al
   ·exact Al
  ·exact Al
 ·split
  ·split
   ·split
    ·exact A6 (NY _ _ _) fun l=>A6 (NY _ _ _) fun h=>Cd _ (Ao _)
    ·exact Al
   ·exact Al
  ·split
   ·exact Bi _ (KW _ _ _ _ _ _ _)
   ·exact Bi _ (KW _ _ _ _ _ _ _)
   ·exact Bi _ (KW _ _ _ _ _ _ _)
   ·refine Bi _ (KV (KW _ _ _ _ _ _ _) ?_)
    split
    ·split
     ·exact A6 (NY _ _ _) fun h=>Cd _ (Ao _)
     ·exact Al
    ·exact Al
   ·exact Al
  ·exact Al
 ·split
  ·split
   ·refine A6 (TH _) fun cv=>BL (KU _ _ _ _ _) fun vs bs=>TG (MI _ _ _ _ _) fun ms mb us=>?_
    refine Z4 (fun r=>A6 (XY _ _) fun b=>WV _ _ _ _) fun o r=>A6 (Kq _ _) fun ub=>Bi _ (WV _ _ _ _)
   ·split
    ·refine BL (KU _ _ _ _ _) fun vs bs=>?_
     split
     ·exact A6 (BC _) fun cv=>A6 (Ya _ _ _ _ _ _ _) fun ys=>aL _ (Ao _)
     ·exact Al
    ·exact Al
   ·exact Al
  ·split
   ·split
    ·split <;> first | exact Ao _ | exact Al
    ·split
     ·exact Ao _
     ·exact BL (Sw _) fun _ xs=>Ao _
    ·exact Al
   ·exact Al
  ·split
   ·split
    ·split <;> first | exact Ao _ | exact Al
    ·exact Al
   ·exact Al
  ·split
   ·split
    ·split <;> first | exact Ao _ | exact Al
    ·exact Al
   ·exact Al
  ·split
   ·split
    ·refine Bi _ (BL (Sw _) fun sz' ys=>?_)
     dsimp only
     split
     ·exact Bi _ (Cd _ (Ao _))
     ·exact Cd _ (Ao _)
     ·exact Bi _ (Cd _ (Ao _))
     ·exact Al
    ·exact Al
   ·exact Al
  ·exact Al
 ·split
  ·split <;> first | exact Ao _ | exact Al
  ·exact Al
 ·split
  ·exact Ao _
  ·exact Al
 ·split
  ·exact XZ _ _ _ _ _ _
  ·exact Al
 ·split
  ·exact Z6 _ _ _ _ _
  ·exact Al
 ·exact Al
def V7 (σ σ':Nat→Nat→RV) (r:RV):Prop:=(∀ id n o cs,r = .vptr id n o cs→∀ id' n',C.sl id' n'∈cs→σ id' n' = σ' id' n')∧(∀ f cs k id n rid rn,r = .clo f cs k id n rid rn→σ rid rn = σ' rid rn)∧∀ cs,r = .cagg cs→∀ id' n',C.sl id' n'∈cs→σ id' n' = σ' id' n'
section
variable {P:Program} {σ σ':Nat→Nat→RV} {ρ ρ':Operand→RV}
theorem Hy:∀ {l:List C} {K:List D→Bx→Prop},(∀ id n,C.sl id n∈l→σ id n = σ' id n)→CK σ l K = CK σ' l K
 | [],_,_=>rfl
 | .d x :: r,K,h=>by
   simp only [CK]
   exact Hy fun id n hm=>h id n (by simp [hm])
 | .sl id n :: r,K,h=>by
   simp only [CK]
   rw [h id n (by simp)]
   congr 1
   funext x b
   exact Hy fun id n hm=>h id n (by simp [hm])
 | .own _ _ _ :: _,_,_=>rfl
theorem KJ {r:RV} {K:AV→Bx→Prop} (h:V7 σ σ' r):Nm σ r K = Nm σ' r K:=by
 cases r <;> try rfl
 case vptr id n o cs=>exact Hy (h.1 id n o cs rfl)
theorem Tu:∀ {l:List C} {K:List C→Nat→Nat→Prop},(∀ id n,C.sl id n∈l→σ id n = σ' id n)→Qv σ l K = Qv σ' l K
 | [],_,_=>rfl
 | .d x :: r,K,h=>by
   have ih:∀ {K:List C→Nat→Nat→Prop},Qv σ r K = Qv σ' r K:=Tu fun id n hm=>h id n (by simp [hm])
   simp only [Qv,ih]
 | .sl id n :: r,K,h=>by
   simp only [Qv]
   rw [h id n (by simp)]
 | .own _ _ _ :: _,_,_=>rfl
theorem Wa {r:RV} {K:AV→Bx→Option (Nat × Nat)→Prop} (h:V7 σ σ' r):Qf σ r K = Qf σ' r K:=by
 cases r <;> try rfl
 case cagg cs=>exact Tu (h.2.2 cs rfl)
 case vptr id n o cs =>
  cases o with
  | zero=>exact Hy (h.1 id n 0 cs rfl)
  | succ o =>
    show Nm σ (.vptr id n (o + 1) cs) (fun v b=>K v b none) = Nm σ' (.vptr id n (o + 1) cs) (fun v b=>K v b none)
    exact KJ h
theorem Qx:∀ {l:List Operand} {ts:List TypeId} {K:List AV→Bx→Prop},(∀ x∈l,ρ x = ρ' x∧V7 σ σ' (ρ' x))→FL P σ ρ l ts K = FL P σ' ρ' l ts K
 | [],_,_,_=>rfl
 | x :: r,ts,K,h=>by
   have ih:∀ {ts:List TypeId} {K:List AV→Bx→Prop},FL P σ ρ r ts K = FL P σ' ρ' r ts K:=Qx fun y hy=>h y (by simp [hy])
   simp only [FL,ih]
   rw [(h x (by simp)).1,KJ (h x (by simp)).2]
theorem Pu:∀ {l:List Operand} {ts:List TypeId} {K:List AV→Bx→List (Option (Nat × Nat))→Prop},(∀ x∈l,ρ x = ρ' x∧V7 σ σ' (ρ' x))→EY P σ ρ l ts K = EY P σ' ρ' l ts K
 | [],_,_,_=>rfl
 | x :: r,ts,K,h=>by
   have ih:∀ {ts:List TypeId} {K:List AV→Bx→List (Option (Nat × Nat))→Prop},EY P σ ρ r ts K = EY P σ' ρ' r ts K:=Pu fun y hy=>h y (by simp [hy])
   simp only [EY,ih]
   rw [(h x (by simp)).1,Wa (h x (by simp)).2]
theorem Q0:∀ {l:List Operand} {K:List D→Bx→Prop},(∀ x∈l,ρ x = ρ' x∧V7 σ σ' (ρ' x))→GO σ ρ l K = GO σ' ρ' l K
 | [],_,_=>rfl
 | x :: r,K,h=>by
   have ih:∀ {K:List D→Bx→Prop},GO σ ρ r K = GO σ' ρ' r K:=Q0 fun y hy=>h y (by simp [hy])
   simp only [GO,ih]
   rw [(h x (by simp)).1,KJ (h x (by simp)).2]
theorem S8:∀ {l:List Operand},(∀ x∈l,ρ x = ρ' x)→QS ρ l = QS ρ' l
 | [],_=>rfl
 | x :: r,h=>by
   have ih:QS ρ r = QS ρ' r:=S8 fun y hy=>h y (by simp [hy])
   simp only [QS,ih,h x (by simp)]
theorem Qz:∀ {l:List Operand} {K:List C→Bx→Prop},(∀ x∈l,ρ x = ρ' x∧V7 σ σ' (ρ' x))→GN σ ρ l K = GN σ' ρ' l K
 | [],_,_=>rfl
 | x :: r,K,h=>by
   have ih:∀ {K:List C→Bx→Prop},GN σ ρ r K = GN σ' ρ' r K:=Qz fun y hy=>h y (by simp [hy])
   simp only [GN,ih]
   rw [(h x (by simp)).1,KJ (h x (by simp)).2]
theorem Nh:∀ {l:List C},(∀ id n,C.sl id n∈l→σ id n = σ' id n)→OA σ l = OA σ' l
 | [],_=>rfl
 | .d _ :: r,h=>Nh (l:=r) fun id n hm=>h id n (by simp [hm])
 | .sl id n :: r,h=>by simp only [OA]; rw [h id n (by simp),Nh (l:=r) fun id n hm=>h id n (by simp [hm])]
 | .own _ _ _ :: _,_=>rfl
theorem Z9 {t:TypeId} {cs:List C} {K:FC→Prop} (h:∀ id n,C.sl id n∈cs→σ id n = σ' id n):bE P σ t cs K = bE P σ' t cs K:=by
 unfold bE
 split
 ·split
  ·rename_i i _
   rw [By,By]
   have e1:∀ K':List D→Bx→Prop,CK σ (cs.take i.size) K' = CK σ' (cs.take i.size) K':=fun K'=>Hy fun id n hm=>h id n (List.mem_of_mem_take hm)
   have e2:=Nh (σ:=σ) (σ':=σ') (l:=cs.take i.size) fun id n hm=>h id n (List.mem_of_mem_take hm)
   simp only [e1,e2]
  ·rfl
 ·rfl
 ·rfl
theorem QV:∀ {l:List (Nat × Operand)} {K:List (Nat × D)→Bx→Prop},(∀ x∈l,ρ x.2 = ρ' x.2)→Jt ρ l K = Jt ρ' l K
 | [],_,_=>rfl
 | (i,x) :: r,K,h=>by
   simp only [Jt]
   rw [h (i,x) (by simp)]
   congr 1
   funext v b
   exact QV fun y hy=>h y (by simp [hy])
theorem SF:∀ {l:List (Nat × Operand)},(∀ x∈l,ρ x.2 = ρ' x.2)→Rl ρ l = Rl ρ' l
 | [],_=>rfl
 | (i,x) :: r,h=>by
   have ih:Rl ρ r = Rl ρ' r:=SF fun y hy=>h y (by simp [hy])
   simp only [Rl,ih,h (i,x) (by simp)]
theorem QT:∀ {l:List (Nat × Operand)} {K:List (Nat × List C)→Prop},(∀ x∈l,ρ x.2 = ρ' x.2)→Kw ρ l K = Kw ρ' l K
 | [],_,_=>rfl
 | (i,x) :: r,K,h=>by
   simp only [Kw]
   rw [h (i,x) (by simp)]
   congr 1
   funext c
   exact QT fun y hy=>h y (by simp [hy])
theorem QX:∀ {l:List (Nat × Operand)} {K:List (Nat × D)→Bx→Prop},(∀ x∈l,ρ x.2 = ρ' x.2)→Kx ρ l K = Kx ρ' l K
 | [],_,_=>rfl
 | (i,x) :: r,K,h=>by
   simp only [Kx]
   rw [h (i,x) (by simp)]
   congr 1
   funext v b
   exact QX fun y hy=>h y (by simp [hy])
theorem OT {x:Option Operand} {n:Int} {K:Int→Prop} (h:∀ y,x = some y→ρ y = ρ' y):X8 ρ x n K = X8 ρ' x n K:=by
 cases x with
 | none=>rfl
 | some x=>unfold X8; simp only; rw [h x rfl]
theorem Wq {sz:Nat} {xs:List D} {lo hi mx:Option Operand} {b:Bx} {K:FC→Prop} (h1:∀ y,lo = some y→ρ y = ρ' y) (h2:∀ y,hi = some y→ρ y = ρ' y) (h3:∀ y,mx = some y→ρ y = ρ' y) :
 J3 ρ sz xs lo hi mx b K = J3 ρ' sz xs lo hi mx b K:=by
 unfold J3
 rw [OT h1]
 congr 1
 funext l
 rw [OT h2]
 congr 1
 funext h
 cases mx with
 | none=>rfl
 | some m=>simp only; rw [h3 m rfl]
end
set_option maxHeartbeats 1000000 in
theorem bB {P:Program} {σ σ':Nat→Nat→RV} {ρ ρ':Option (Nat × Bool)→Operand→RV} {g:Option (Nat × Bool)} {o:Oper} {d n n':Nat} {K:FC→Prop}
 (h:∀ g' x,x∈o.op.operands.toList→ρ g' x = ρ' g' x) (hs:∀ g' x,x∈o.op.operands.toList→V7 σ σ' (ρ' g' x)) (hn:Xj o.op = true→n = n') (hy:yA P σ ρ g o d n K):yA P σ' ρ' g o d n' K:=by
 have hn':∀ {c:Bool},Xj o.op = c→c = true→n = n':=fun e1 e2=>hn (e1.trans e2)
 unfold yA at hy ⊢
 split at hy
 ·rename_i x ho
  simp only [ho] at h ⊢
  rw [h g x (by simp [Op.operands])] at hy; exact hy
 ·rename_i x ho
  have:=hn' (by rw [ho]; rfl) rfl
  subst this
  simp only [ho] at h ⊢
  rw [h g x (by simp [Op.operands])] at hy; exact hy
 ·rename_i t x y ho
  simp only [ho] at h ⊢
  rw [h g (.tmp t) (by simp [Op.operands]),h (some (t,true)) x (by simp [Op.operands]),h (some (t,false)) y (by simp [Op.operands])] at hy; exact hy
 ·rename_i T x ho
  have:=hn' (by rw [ho]; rfl) rfl
  subst this
  simp only [ho] at h ⊢
  rw [h g x (by simp [Op.operands])] at hy; exact hy
 ·rename_i T ho
  have:=hn' (by rw [ho]; rfl) rfl
  subst this
  first | exact hy | (simp only [ho]; exact hy)
 ·rename_i t parts ho
  simp only [ho] at h ⊢
  have e:∀ (K':List (Nat × D)→Bx→Prop),Jt (ρ g) parts.toList K' = Jt (ρ' g) parts.toList K':=fun K'=>QV fun x hx=>h g x.2 (by simp only [Op.operands]; simp; exact ⟨x.1,by simpa using hx⟩)
  have e2:∀ (K':List (Nat × List C)→Prop),Kw (ρ g) parts.toList K' = Kw (ρ' g) parts.toList K':=fun K'=>QT fun x hx=>h g x.2 (by simp only [Op.operands]; simp; exact ⟨x.1,by simpa using hx⟩)
  have e3:Rl (ρ g) parts.toList = Rl (ρ' g) parts.toList:=SF fun x hx=>h g x.2 (by simp only [Op.operands]; simp; exact ⟨x.1,by simpa using hx⟩)
  simp only [e,e2,e3] at hy; exact hy
 ·rename_i t m parts ho
  have:=hn' (by rw [ho]; rfl) rfl
  subst this
  simp only [ho] at h ⊢
  have e:∀ (K':List (Nat × D)→Bx→Prop),Kx (ρ g) parts.toList K' = Kx (ρ' g) parts.toList K':=fun K'=>QX fun x hx=>h g x.2 (by simp only [Op.operands]; simp; exact ⟨x.1,by simpa using hx⟩)
  simp only [e] at hy; exact hy
 ·rename_i t l c ho
  have:=hn' (by rw [ho]; rfl) rfl
  subst this
  simp only [ho] at h ⊢
  rw [h g l (by simp [Op.operands]),h g c (by simp [Op.operands])] at hy; exact hy
 ·rename_i f first caps ho
  simp only [ho] at h hs ⊢
  have e:∀ (K':List D→Bx→Prop),GO σ (ρ g) caps.toList K' = GO σ' (ρ' g) caps.toList K':=fun K'=>Q0 fun x hx=>by
   have hx':x∈caps:=by simpa using hx
   have hm:x∈(Op.makeFunc (.func f) first caps).operands.toList:=by simp [Op.operands,hx']
   exact ⟨h g x hm,hs g x hm⟩
  have e2:∀ (K':List C→Bx→Prop),GN σ (ρ g) caps.toList K' = GN σ' (ρ' g) caps.toList K':=fun K'=>Qz fun x hx=>by
   have hx':x∈caps:=by simpa using hx
   have hm:x∈(Op.makeFunc (.func f) first caps).operands.toList:=by simp [Op.operands,hx']
   exact ⟨h g x hm,hs g x hm⟩
  have e3:QS (ρ g) caps.toList = QS (ρ' g) caps.toList:=S8 fun x hx=>by
   have hx':x∈caps:=by simpa using hx
   exact h g x (by simp [Op.operands,hx'])
  simp only [e,e2,e3] at hy; exact hy
 ·rename_i t x ho
  simp only [ho] at h hs ⊢
  have h2:=(hs g x (by simp [Op.operands])).1
  rw [h g x (by simp [Op.operands])] at hy
  split at hy
  ·rename_i e; first | exact hy | (simp only [e]; exact hy)
  ·rename_i id n' o' cs e
   try simp only [e]
   rw [Z9 (σ':=σ') fun i m hm=>h2 _ _ _ _ e i m (List.mem_of_mem_drop hm)] at hy
   exact hy
  ·rename_i e; first | exact hy | (simp only [e]; exact hy)
  ·rename_i e; first | exact hy | (simp only [e]; exact hy)
  ·exact hy.elim
 ·rename_i t p x ho
  simp only [ho] at h ⊢
  rw [h g p (by simp [Op.operands]),h g x (by simp [Op.operands])] at hy; exact hy
 ·rename_i x ho
  simp only [ho] at h ⊢
  rw [h g x (by simp [Op.operands])] at hy; exact hy
 ·rename_i op t x y U ho
  simp only [ho] at h ⊢
  rw [h g x (by simp [Op.operands]),h g y (by simp [Op.operands])] at hy; exact hy
 ·rename_i op t x ho
  simp only [ho] at h ⊢
  rw [h g x (by simp [Op.operands])] at hy; exact hy
 ·rename_i s t x ho
  simp only [ho] at h ⊢
  rw [h g x (by simp [Op.operands])] at hy; exact hy
 ·rename_i s x f ho
  simp only [ho] at h ⊢
  rw [h g x (by simp [Op.operands])] at hy; exact hy
 ·rename_i s x f ho
  simp only [ho] at h ⊢
  rw [h g x (by simp [Op.operands])] at hy; exact hy
 ·rename_i t x ix ho
  simp only [ho] at h ⊢
  rw [h g x (by simp [Op.operands]),h g ix (by simp [Op.operands])] at hy; exact hy
 ·rename_i t x ix ho
  simp only [ho] at h ⊢
  rw [h g x (by simp [Op.operands]),h g ix (by simp [Op.operands])] at hy; exact hy
 ·rename_i t x lo hi mx ho
  simp only [ho] at h ⊢
  have h1:∀ y,lo = some y→ρ g y = ρ' g y:=fun y e=>h g y (by subst e; simp [Op.operands])
  have h2:∀ y,hi = some y→ρ g y = ρ' g y:=fun y e=>h g y (by subst e; simp [Op.operands])
  have h3:∀ y,mx = some y→ρ g y = ρ' g y:=fun y e=>h g y (by subst e; simp [Op.operands])
  rw [h g x (by simp [Op.operands])] at hy
  have e1:∀ {sz:Nat} {xs:List D} {b:Bx} {K:FC→Prop},J3 (ρ g) sz xs lo hi mx b K = J3 (ρ' g) sz xs lo hi mx b K:=Wq h1 h2 h3
  have e2:∀ {n:Int} {K:Int→Prop},X8 (ρ g) lo n K = X8 (ρ' g) lo n K:=OT h1
  have e3:∀ {n:Int} {K:Int→Prop},X8 (ρ g) hi n K = X8 (ρ' g) hi n K:=OT h2
  simp only [e1,e2,e3] at hy
  exact hy
 ·rename_i c ho
  simp only [ho] at h hs ⊢
  split at hy
  ·rename_i fo hc
   have:=hn' (by rw [ho]; simp only [Xj,hc]) rfl
   subst this
   have h1:=h g fo (by simp [Op.operands,Call.operands,hc])
   have hx:∀ x∈c.args.toList,ρ g x = ρ' g x∧V7 σ σ' (ρ' g x):=fun x hx=>by
    have hm:x∈(Op.call c).operands.toList:=by simp [Op.operands,Call.operands]; exact .inr (by simpa using hx)
    exact ⟨h g x hm,hs g x hm⟩
   have e:∀ (K':List AV→Bx→Prop),FL P σ (ρ g) c.args.toList c.argTypes.toList K' = FL P σ' (ρ' g) c.args.toList c.argTypes.toList K':=fun K'=>Qx hx
   have e':∀ (K':List AV→Bx→List (Option (Nat × Nat))→Prop),EY P σ (ρ g) c.args.toList c.argTypes.toList K' = EY P σ' (ρ' g) c.args.toList c.argTypes.toList K':=fun K'=>Pu hx
   have h2:=(hs g fo (by simp [Op.operands,Call.operands,hc])).2.1
   simp only [h1,e,e'] at hy
   try simp only [hc]
   split at hy
   ·rename_i hfo; first | exact hy | (simp only [hfo]; exact hy)
   ·rename_i hfo
    rw [h2 _ _ _ _ _ _ _ hfo] at hy
    first | exact hy | (simp only [hfo]; exact hy)
   ·exact hy.elim
  ·rename_i hc
   try simp only [hc]
   split at hy
   ·rename_i x t hx ht
    have h1:=h g x (by simp only [Op.operands,Call.operands,hc]; rw [VB hx]; simp)
    simp only [h1] at hy
    try simp only [hx,ht]
    exact hy
   ·exact hy.elim
  ·rename_i hc
   try simp only [hc]
   split at hy
   ·rename_i x y hx
    have h1:=h g x (by simp only [Op.operands,Call.operands,hc]; rw [IG hx]; simp)
    have h2:=h g y (by simp only [Op.operands,Call.operands,hc]; rw [IG hx]; simp)
    simp only [h1,h2] at hy
    try simp only [hx]
    exact hy
   ·exact hy.elim
  ·rename_i hc
   try simp only [hc]
   split at hy
   ·rename_i x y hx
    have h1:=h g x (by simp only [Op.operands,Call.operands,hc]; rw [IG hx]; simp)
    have h2:=h g y (by simp only [Op.operands,Call.operands,hc]; rw [IG hx]; simp)
    simp only [h1,h2] at hy
    try simp only [hx]
    exact hy
   ·exact hy.elim
  ·rename_i hc
   have:=hn' (by rw [ho]; simp only [Xj,hc]) rfl
   subst this
   try simp only [hc]
   split at hy
   ·rename_i x y t u hx ht
    have h1:=h g x (by simp only [Op.operands,Call.operands,hc]; rw [IG hx]; simp)
    have h2:=h g y (by simp only [Op.operands,Call.operands,hc]; rw [IG hx]; simp)
    simp only [h1,h2] at hy
    try simp only [hx,ht]
    exact hy
   ·exact hy.elim
  ·exact hy.elim
 ·rename_i t i ho
  simp only [ho] at h ⊢
  rw [h g t (by simp [Op.operands])] at hy; exact hy
 ·rename_i t ho
  have:=hn' (by rw [ho]; rfl) rfl
  subst this
  exact hy
 ·rename_i t x ix ok ho
  simp only [ho] at h ⊢
  rw [h g x (by simp [Op.operands]),h g ix (by simp [Op.operands])] at hy; exact hy
 ·rename_i t m k x ho
  simp only [ho] at h ⊢
  rw [h g m (by simp [Op.operands]),h g k (by simp [Op.operands]),h g x (by simp [Op.operands])] at hy; exact hy
 ·exact hy.elim
end Go.Abs
set_option linter.unusedVariables false
set_option linter.unusedSimpArgs false
namespace Go.Abs
open Go.RowKit (Below)
def SL (S T:AS) (t:Nat):Prop:=(As S t).av = (As T t).av
def Rp (S T:AS) (b:Nat):Prop:=(As S b).box = (As T b).box∧(As S b).ver = (As T b).ver
theorem Tk:∀ (S:AS) (d:Nat) (K:Nat→Prop),d < S.length→K (As S d).ver→RX S d K
 | [],_,_,h,_=>by simp at h
 | ⟨_,_,_⟩ :: _,0,_,_,h=>h
 | s :: r,d + 1,K,hd,h=>Tk r d K (by simpa using hd) h
theorem ap {x:Option Nat} {K:Nat→Prop} (h:K (x.getD 0)):dK x K:=by cases x <;> exact h
theorem Fw (g:Option (Nat × Bool)) (v:AV):∀ i∈Im (dx g v),i∈Im v:=by
 cases v <;> try (intro i hi; exact hi)
 case under t w y =>
  intro i hi
  simp only [dx] at hi
  cases g with
  | none=>simp [Im] at hi
  | some p =>
    obtain ⟨t',w'⟩:=p
    simp only at hi
    split at hi
    ·exact hi
    ·simp [Im] at hi
theorem Hx:∀ {cs:List C} {id n:Nat},C.sl id n∈cs→id∈Kf cs
 | [],_,_,h=>by simp at h
 | c :: r,id,n,h=>by
   rcases List.mem_cons.1 h with h | h
   ·subst h; simp [Kf]
   ·have:=Hx h
    cases c <;> simp [Kf,this]
theorem JX {S T:AS} {v:AV} (h:∀ i∈Im v,Rp S T i):res S v = res T v:=by
 cases v <;> try rfl
 case ptr id n o =>
  obtain ⟨h1,h2⟩:=h id (by simp [Im])
  simp only [res]
  generalize As S id = s at *
  generalize As T id = t at *
  obtain ⟨_,b,m⟩:=s
  obtain ⟨_,b',m'⟩:=t
  simp only at h1 h2
  subst h1; subst h2
  cases b <;> rfl
 case sl id n =>
  obtain ⟨h1,h2⟩:=h id (by simp [Im])
  simp only [res]
  generalize As S id = s at *
  generalize As T id = t at *
  obtain ⟨_,b,m⟩:=s
  obtain ⟨_,b',m'⟩:=t
  simp only at h1 h2
  subst h1; subst h2
  cases b <;> rfl
 case eptr id n sz i o =>
  obtain ⟨h1,h2⟩:=h id (by simp [Im])
  simp only [res]
  generalize As S id = s at *
  generalize As T id = t at *
  obtain ⟨_,b,m⟩:=s
  obtain ⟨_,b',m'⟩:=t
  simp only at h1 h2
  subst h1; subst h2
  cases b <;> rfl
 case cc k xs =>
  cases k with
  | none=>rfl
  | some f =>
    simp only [res]
    split
    ·rename_i j id n hat
     obtain ⟨h1,h2⟩:=h id (by simp only [Im]; exact Hx (List.mem_of_getElem? (OJ hat)))
     generalize As S id = s at *
     generalize As T id = t at *
     obtain ⟨_,b,m⟩:=s
     obtain ⟨_,b',m'⟩:=t
     simp only at h1 h2
     subst h1; subst h2
     cases b <;> try rfl
     rename_i cs
     match cs with
     | []=>rfl
     | [.d _]=>rfl
     | [.sl _ _]=>rfl
     | [.own _ _ _]=>rfl
     | .d _ :: _ :: _=>rfl
     | .sl _ _ :: _ :: _=>rfl
     | .own _ _ _ :: _ :: _=>rfl
    ·rfl
def RR (S:AS) (all:List Oper) (o:Oper) (e:FC):List Nat:=U2 S (Di all o) o++e.homes.map (·.1)
theorem Pr {S T:AS} (hl:S.length = T.length):∀ {hs:List (Nat × Nat)},(∀ b∈hs.map (·.1),Rp S T b)→EX S hs = EX T hs
 | [],_=>rfl
 | (h,n) :: r,hb=>by
   simp only [EX]
   rw [hl,(hb h (by simp)).2,Pr hl fun b hm=>hb b (by simp only [List.map_cons,List.mem_cons]; exact .inr hm)]
theorem Kv:∀ {l:List Operand} {t:Nat},Operand.tmp t∈l→t∈R8 l
 | [],_,h=>by simp at h
 | x :: r,t,h=>by
   rcases List.mem_cons.1 h with h | h
   ·subst h; simp [R8]
   ·have:=Kv h
    cases x <;> simp [R8,this]
section
variable {P:Program} {all:List Oper} {o:Oper}
theorem ρ_congr {S T:AS} (hm:IQ S o = false) (h1:∀ t∈Di all o,SL S T t) (h2:∀ b∈U2 S (Di all o) o,Rp S T b):∀ g x,x∈o.op.operands.toList→ρOf S g x = ρOf T g x:=by
 intro g x hx
 unfold ρOf
 cases x with
 | tmp t =>
   have ht:t∈Di all o:=by simp only [Di,List.mem_append]; exact .inr (Kv hx)
   simp only [ev]
   have ha:=h1 t ht
   unfold SL at ha
   rw [← ha]
   refine JX fun i hi=>h2 i ?_
   simp only [U2,hm,List.mem_append,List.mem_flatMap]
   exact .inr ⟨t,ht,i,Fw g _ i hi,by simp [YX]⟩
 | const v =>
   simp only [ev]
   refine JX fun i hi=>?_
   have:=Fw g _ i hi
   exfalso
   revert this
   unfold XH
   split <;> simp [Im]
 | global q =>
   simp only [ev]
   refine JX fun i hi=>?_
   have:=Fw g _ i hi
   exfalso
   revert this
   split <;> simp [Im]
 | func f =>
   simp only [ev]
   exact JX fun i hi=>by have:=Fw g _ i hi; simp [Im] at this
theorem bj {S:AS} {v:AV} {id n o:Nat} {cs:List C} (h:res S v = .vptr id n o cs):id∈Im v∧(As S id).box = .var cs:=by
 cases v <;> simp only [res] at h <;> try (cases h; done)
 case ptr id' n' o' =>
  split at h
  ·rename_i m hs
   split at h
   ·cases h; exact ⟨by simp [Im],by rw [hs]⟩
   ·cases h
  ·split at h <;> cases h
  ·cases h
 case sl id' n' =>
  split at h
  ·split at h <;> cases h
  ·split at h <;> cases h
  ·split at h <;> cases h
  ·cases h
 case eptr =>
  split at h
  ·split at h <;> cases h
  ·cases h
 case cc k' xs =>
  cases k' with
  | none=>cases h
  | some f' =>
    simp only at h
    split at h
    ·split at h
     ·split at h <;> cases h
     ·cases h
    ·cases h
theorem ca {S:AS} {v:AV} {f:FuncId} {cs:List C} {k id n rid rn:Nat} (h:res S v = .clo f cs k id n rid rn):id∈Im v∧(As S id).box = .var [.sl rid rn]:=by
 cases v <;> simp only [res] at h <;> try (cases h; done)
 case ptr id' n' o' =>
  split at h
  ·split at h <;> cases h
  ·split at h <;> cases h
  ·cases h
 case sl id' n' =>
  split at h
  ·split at h <;> cases h
  ·split at h <;> cases h
  ·split at h <;> cases h
  ·cases h
 case eptr =>
  split at h
  ·split at h <;> cases h
  ·cases h
 case cc k' xs =>
  cases k' with
  | none=>cases h
  | some f' =>
    simp only at h
    split at h
    ·rename_i j id' n' hat
     split at h
     ·rename_i av rid' rn' m hs
      split at h
      ·cases h
       exact ⟨by simp only [Im]; exact Hx (List.mem_of_getElem? (OJ hat)),by rw [hs]⟩
      ·cases h
     ·cases h
    ·cases h
theorem bi {S:AS} {v:AV} {cs:List C} (h:res S v = .cagg cs):v = .cc none cs:=by
 cases v <;> simp only [res] at h <;> try (cases h; done)
 case ptr id' n' o' =>
  split at h
  ·split at h <;> cases h
  ·split at h <;> cases h
  ·cases h
 case sl id' n' =>
  split at h
  ·split at h <;> cases h
  ·split at h <;> cases h
  ·split at h <;> cases h
  ·cases h
 case eptr =>
  split at h
  ·split at h <;> cases h
  ·cases h
 case cc k' xs =>
  cases k' with
  | none=>cases h; rfl
  | some f' =>
    simp only at h
    split at h
    ·split at h
     ·split at h <;> cases h
     ·cases h
    ·cases h
theorem cg {S T:AS} (hmv:IQ S o = false) (h1:∀ t∈Di all o,SL S T t) (h2:∀ b∈U2 S (Di all o) o,Rp S T b):∀ g x,x∈o.op.operands.toList→V7 (σOf S) (σOf T) (ρOf T g x):=by
 intro g x hx
 have key:∀ (id:Nat) (cs:List C),id∈Im (dx g (ev S x))→(As S id).box = .var cs→∀ id' n',C.sl id' n'∈cs→σOf S id' n' = σOf T id' n':=by
  intro id cs h3 h4 id' n' hm
  refine JX fun i hi=>?_
  simp only [Im,List.mem_singleton] at hi
  subst hi
  cases x with
  | tmp t =>
    have ht:t∈Di all o:=by simp only [Di,List.mem_append]; exact .inr (Kv hx)
    refine h2 _ ?_
    simp only [U2,hmv,List.mem_append,List.mem_flatMap]
    refine .inr ⟨t,ht,id,Fw g _ id h3,?_⟩
    simp only [YX,h4,List.mem_cons]
    exact .inr (Hx hm)
  | const v =>
    have:=Fw g _ id h3
    exfalso
    revert this
    simp only [ev]
    unfold XH
    split <;> simp [Im]
  | global q =>
    have:=Fw g _ id h3
    exfalso
    revert this
    simp only [ev]
    split <;> simp [Im]
  | func f=>have:=Fw g _ id h3; simp [ev,Im] at this
 refine ⟨fun id n of cs hr id' n' hm=>?_,fun f cs k id n rid rn hr=>?_,fun cs hr id' n' hm=>?_⟩
 ·rw [← ρ_congr hmv h1 h2 g x hx] at hr
  obtain ⟨h3,h4⟩:=bj hr
  exact key id cs h3 h4 id' n' hm
 ·rw [← ρ_congr hmv h1 h2 g x hx] at hr
  obtain ⟨h3,h4⟩:=ca hr
  exact key id _ h3 h4 rid rn (by simp)
 ·rw [← ρ_congr hmv h1 h2 g x hx] at hr
  have hu:=bi hr
  have hi':id'∈Im (dx g (ev S x)):=by rw [hu]; exact Hx hm
  refine JX fun i hi=>?_
  simp only [Im,List.mem_singleton] at hi
  subst hi
  cases x with
  | tmp t =>
    have ht:t∈Di all o:=by simp only [Di,List.mem_append]; exact .inr (Kv hx)
    refine h2 _ ?_
    simp only [U2,hmv,List.mem_append,List.mem_flatMap]
    exact .inr ⟨t,ht,i,Fw g _ i hi',by simp [YX]⟩
  | const v =>
    have:=Fw g _ i hi'
    exfalso
    revert this
    simp only [ev]
    unfold XH
    split <;> simp [Im]
  | global q =>
    have:=Fw g _ i hi'
    exfalso
    revert this
    simp only [ev]
    split <;> simp [Im]
  | func f=>have:=Fw g _ i hi'; simp [ev,Im] at this
theorem WP {S T:AS} (h1:∀ t∈Di all o,SL S T t) {x:Operand} (hx:x∈o.op.operands.toList):ev S x = ev T x:=by
 cases x with
 | tmp t =>
   have ht:t∈Di all o:=by simp only [Di,List.mem_append]; exact .inr (Kv hx)
   exact h1 t ht
 | const v=>rfl
 | global q=>rfl
 | func f=>rfl
theorem U9 {S T:AS} (h1:∀ t∈Di all o,SL S T t):IQ S o = IQ T o:=by
 unfold IQ
 split
 ·rename_i x ho
  rw [WP h1 (x:=x) (by rw [ho]; simp [Op.operands])]
 ·rfl
theorem em {S:AS} {g:Option (Nat × Bool)} {d n:Nat} {K:FC→Prop} (hm:IQ S o = false) (hy:yA P (σOf S) (ρOf S) g o d n K):yS P S g o d n K:=by
 unfold yS
 unfold IQ at hm
 split
 ·rename_i x ho
  rw [ho] at hm
  simp only at hm
  split
  ·rename_i he; rw [he] at hm; cases hm
  ·exact hy
 ·exact hy
theorem YF (P:Program) (S:AS) (g:Option (Nat × Bool)) (o:Oper) (d n:Nat):C7 fun K=>yS P S g o d n K:=by
 unfold yS
 split
 ·split
  ·exact Ao _
  ·exact YE _ _ _ _ _ _ _
 ·exact YE _ _ _ _ _ _ _
theorem Wy {S T:AS} {g:Option (Nat × Bool)} {K:FC→Prop} (h1:∀ t∈Di all o,SL S T t) (h2:∀ b∈U2 S (Di all o) o,Rp S T b) (hl:S.length = T.length)
 (hy:dK o.dst fun d=>RX S d fun n=>yS P S g o d n K):dK o.dst fun d=>RX T d fun n=>yS P T g o d n K:=by
 obtain ⟨hd,hy⟩:=Ll _ _ _ (Vf hy)
 refine ap (Tk _ _ _ (by rw [← hl]; exact hd) ?_)
 rcases Ux hy with ⟨x,id,v,k,ho,he,hK⟩ | ⟨hm,hy⟩
 ·unfold yS
  rw [ho]
  simp only
  rw [← WP h1 (x:=x) (by rw [ho]; simp [Op.operands]),he]
  exact hK
 ·refine em (by rw [← U9 h1]; exact hm) (bB (ρ_congr hm h1 h2) (cg hm h1 h2) (fun hmk=>?_) hy)
  exact (h2 _ (by simp [U2,hmk])).2
theorem Zi.move {lk:List Nat} {S T:AS} (h:∀ t∈lk,SL S T t):∀ {n t:Nat} {r:Option Bool},Zi lk n t S r→Zi lk n t T r
 | 0,_,_,hd=>hd.elim
 | n + 1,t,r,⟨hlk,hd⟩=>by
   have e:=h t hlk
   unfold SL at e
   refine ⟨hlk,?_⟩
   rcases hd with ⟨b,hb,hr⟩ | ⟨t',w',b,r',hb,hd,hr⟩ | ⟨t',w',hb,hr⟩
   ·exact .inl ⟨b,by rw [← e]; exact hb,hr⟩
   ·exact .inr (.inl ⟨t',w',b,r',by rw [← e]; exact hb,Zi.move h hd,hr⟩)
   ·exact .inr (.inr ⟨t',w',by rw [← e]; exact hb,hr⟩)
theorem bd {done:List Nat} {S:AS} {K:AS→FC→Prop} (hy:ZE P all done o S K) :
 ∃ e,K S e∧∀ (done':List Nat) (T:AS),(∀ t∈Di all o,SL S T t)→(∀ b∈RR S all o e,Rp S T b)→S.length = T.length→(∀ j want t,o.guard = some (j,want)→Sq all j = some t→t∈done') →
   ZE P all done' o T (fun T' f=>T' = T∧f = e):=by
 have ex:∀ {g:Option (Nat × Bool)} {F:FC→Prop},(dK o.dst fun d=>RX S d fun n=>yS P S g o d n F)→∃ e,F e∧dK o.dst fun d=>RX S d fun n=>yS P S g o d n fun f=>f = e:=by
  intro g F hy
  obtain ⟨hd,hy⟩:=Ll _ _ _ (Vf hy)
  obtain ⟨e,he,hF⟩:=(YF P S g o (o.dst.getD 0) (As S (o.dst.getD 0)).ver).2 _ hy
  exact ⟨e,hF,ap (Tk _ _ _ hd he)⟩
 have mon:∀ {T:AS} {g:Option (Nat × Bool)} {F F':FC→Prop},(∀ e,F e→F' e)→(dK o.dst fun d=>RX T d fun n=>yS P T g o d n F)→dK o.dst fun d=>RX T d fun n=>yS P T g o d n F':=by
  intro T g F F' hF hy
  obtain ⟨hd,hy⟩:=Ll _ _ _ (Vf hy)
  exact ap (Tk _ _ _ hd ((YF P T g o (o.dst.getD 0) (As T (o.dst.getD 0)).ver).1 _ _ hF hy))
 have sub:∀ {T:AS} {e:FC},(∀ b∈RR S all o e,Rp S T b)→∀ b∈U2 S (Di all o) o,Rp S T b:=fun h b hb=>h b (by simp only [RR,List.mem_append]; exact .inl hb)
 have hom:∀ {T:AS} {e:FC},S.length = T.length→(∀ b∈RR S all o e,Rp S T b)→EX S e.homes = EX T e.homes:=fun hl h=>Pr hl fun b hb=>h b (by simp only [RR,List.mem_append]; exact .inr hb)
 unfold ZE at hy
 split at hy
 ·rename_i hgd
  obtain ⟨e,hK,he⟩:=ex hy
  obtain ⟨hho,hK⟩:=Aq hK
  refine ⟨e,hK,fun _ T h1 h2 hl _=>?_⟩
  unfold ZE
  simp only [hgd]
  refine mon (fun f hf=>?_) (Wy h1 (sub h2) hl he)
  subst hf
  rw [if_pos (by rw [← hom hl h2]; exact hho)]
  first | exact ⟨rfl,rfl⟩ | exact ⟨trivial,rfl⟩
 ·rename_i j want hgd
  split at hy
  ·exact hy.elim
  ·rename_i t ht
   obtain ⟨hdone,hy⟩:=Aq hy
   split at hy
   ·rename_i hh
    obtain ⟨e,hK,he⟩:=ex hy
    split at hK
    ·rename_i v
     refine ⟨_,hK,fun _ T h1 h2 hl hdn=>?_⟩
     unfold ZE
     simp only [hgd,ht,hh]
     rw [if_pos (by simpa using hdn j want t hgd ht)]
     refine mon (fun f hf=>?_) (Wy h1 (sub h2) hl he)
     subst hf
     first | exact ⟨rfl,rfl⟩ | exact ⟨trivial,rfl⟩
    ·exact hK.elim
   ·rename_i hh
    obtain ⟨r,hy,hdec⟩:=PX hy
    have hdT:∀ T:AS,(∀ t∈Di all o,SL S T t)→Zi (Di all o) 5 t T r:=fun T h1=>hdec.move h1
    rcases Hw.1 hy with ⟨hrw,hgo⟩ | ⟨hne,hK⟩
    ·obtain ⟨e,hK,he⟩:=ex hgo
     obtain ⟨hho,hK⟩:=Aq hK
     refine ⟨e,hK,fun _ T h1 h2 hl hdn=>?_⟩
     unfold ZE
     simp only [hgd,ht,hh]
     rw [if_pos (by simpa using hdn j want t hgd ht)]
     refine VI (hdT T h1) (Hw.2 (.inl ⟨hrw,mon (fun f hf=>?_) (Wy h1 (sub h2) hl he)⟩))
     subst hf
     rw [if_pos (by rw [← hom hl h2]; exact hho)]
     exact ⟨rfl,rfl⟩
    ·refine ⟨_,hK,fun _ T h1 h2 hl hdn=>?_⟩
     unfold ZE
     simp only [hgd,ht,hh]
     rw [if_pos (by simpa using hdn j want t hgd ht)]
     exact VI (hdT T h1) (Hw.2 (.inr ⟨hne,by first | exact ⟨rfl,rfl⟩ | exact ⟨rfl,trivial⟩ | exact ⟨trivial,trivial⟩⟩))
structure U0 (P:Program) (all:List Oper) (S₀:AS) (St:Nat→AS) (E:Nat→FC):Prop where
 start:St 0 = S₀
 next:∀ (i:Nat) (o:Oper),all[i]? = some o→St (i + 1) = UY o.dst (E i) (St i)
 once:∀ (i j:Nat) (o o':Oper),i < j→all[i]? = some o→all[j]? = some o'→∀ d,o.dst = some d→o'.dst≠some d
 does:∀ (i:Nat) (o:Oper),all[i]? = some o→∀ (T:AS) (done:List Nat),(∀ t∈Di all o,SL (St i) T t)→(∀ b∈RR (St i) all o (E i),Rp (St i) T b)→(St i).length = T.length →
  (∀ j want t,o.guard = some (j,want)→Sq all j = some t→t∈done)→ZE P all done o T (fun T' f=>T' = T∧f = E i)
 box:∀ (i j:Nat) (o o':Oper),i < j→all[i]? = some o→all[j]? = some o'→Pp all o' i = false →
  SO ((E i).bx.map (·.1)) (RR (St j) all o' (E j)++(E j).bx.map (·.1)) = true∧SO (RR (St i) all o (E i)) ((E j).bx.map (·.1)) = true
theorem bp (P:Program) (all:List Oper):∀ (l:List Oper) (k:Nat) (log:List (Nat × List Nat × List Nat)) (done:List Nat) (S:AS) (K:AS→Prop),(∀ j,l[j]? = all[k + j]?)→di P all k log done l S K →
 ∃ (St:Nat→AS) (E:Nat→FC),St k = S∧K (St (k + l.length)) ∧
   (∀ (i:Nat) (o:Oper),k≤i→all[i]? = some o→St (i + 1) = UY o.dst (E i) (St i)) ∧
   (∀ (i:Nat) (o:Oper),k≤i→all[i]? = some o→∀ d,o.dst = some d→d ∉ done) ∧
   (∀ (i j:Nat) (o o':Oper),k≤i→i < j→all[i]? = some o→all[j]? = some o'→∀ d,o.dst = some d→o'.dst≠some d) ∧
   (∀ (i:Nat) (o:Oper),k≤i→all[i]? = some o→∀ (T:AS) (done:List Nat),(∀ t∈Di all o,SL (St i) T t)→(∀ b∈RR (St i) all o (E i),Rp (St i) T b)→(St i).length = T.length →
    (∀ j want t,o.guard = some (j,want)→Sq all j = some t→t∈done)→ZE P all done o T (fun T' f=>T' = T∧f = E i)) ∧
   (∀ (i:Nat) (o:Oper),k≤i→all[i]? = some o→∀ x∈log,Pp all o x.1 = false→SO x.2.2 (RR (St i) all o (E i)++(E i).bx.map (·.1)) = true∧SO x.2.1 ((E i).bx.map (·.1)) = true) ∧
   (∀ (i j:Nat) (o o':Oper),k≤i→i < j→all[i]? = some o→all[j]? = some o'→Pp all o' i = false →
    SO ((E i).bx.map (·.1)) (RR (St j) all o' (E j)++(E j).bx.map (·.1)) = true∧SO (RR (St i) all o (E i)) ((E j).bx.map (·.1)) = true)
 | [],k,log,done,S,K,hall,hy=>by
   have none:∀ i,k≤i→all[i]? = none:=by
    intro i hi
    have hk:=hall 0
    simp at hk
    exact List.getElem?_eq_none (by omega)
   refine ⟨fun _=>S,fun _=>⟨.any,[],[]⟩,rfl,hy,?_,?_,?_,?_,?_,?_⟩
   ·intro i o hi ho; rw [none i hi] at ho; cases ho
   ·intro i o hi ho; rw [none i hi] at ho; cases ho
   ·intro i j o o' hi _ ho; rw [none i hi] at ho; cases ho
   ·intro i o hi ho; rw [none i hi] at ho; cases ho
   ·intro i o hi ho; rw [none i hi] at ho; cases ho
   ·intro i j o o' hi _ ho; rw [none i hi] at ho; cases ho
 | o :: r,k,log,done,S,K,hall,hy=>by
   obtain ⟨hnd,hy⟩:=Aq hy
   obtain ⟨e,hK,hmove'⟩:=bd hy
   rw [I4,I4] at hK
   obtain ⟨hok,hK⟩:=Aq hK
   rw [V8,I4] at hK
   have ho:all[k]? = some o:=by have:=hall 0; simpa using this.symm
   obtain ⟨St,E,hs,hKn,hnext,hnd',honce,hdoes,hlog,hbox⟩:=bp P all r (k + 1) _ _ _ K (fun j=>by have:=hall (j + 1); rw [List.getElem?_cons_succ] at this; rw [this]; congr 1; omega) hK
   have hne:∀ i,k + 1≤i→i≠k:=fun i hi=>by omega
   refine ⟨fun i=>if i = k then S else St i,fun i=>if i = k then e else E i,by simp,?_,?_,?_,?_,?_,?_,?_⟩
   ·have:k + (o :: r).length≠k:=by simp
    simp only [this,if_false]
    rw [show k + (o :: r).length = k + 1 + r.length by simp; omega]
    exact hKn
   ·intro i o' hi ho'
    by_cases hik:i = k
    ·subst hik
     rw [ho] at ho'; cases ho'
     simp [hs]
    ·have h1:i + 1≠k:=by omega
     simp only [hik,h1,if_false]
     exact hnext i o' (by omega) ho'
   ·intro i o' hi ho' d hd
    by_cases hik:i = k
    ·subst hik
     rw [ho] at ho'; cases ho'
     simp [hd,CC] at hnd
     exact hnd
    ·have:=hnd' i o' (by omega) ho' d hd
     intro hm; exact this (by simp [hm])
   ·intro i j o1 o2 hi hij h1 h2 d hd
    by_cases hik:i = k
    ·subst hik
     rw [ho] at h1; cases h1
     intro hd2
     exact hnd' j o2 (by omega) h2 d hd2 (by simp [hd,CC])
    ·exact honce i j o1 o2 (by omega) hij h1 h2 d hd
   ·intro i o' hi ho'
    by_cases hik:i = k
    ·subst hik
     rw [ho] at ho'; cases ho'
     simp only [if_true]
     intro T done' h1 h2 hl hdn
     exact hmove' done' T h1 h2 hl hdn
    ·simp only [hik,if_false]
     exact hdoes i o' (by omega) ho'
   ·intro i o' hi ho' x hx hed
    by_cases hik:i = k
    ·subst hik
     rw [ho] at ho'; cases ho'
     simp only [if_true]
     simp only [cD,List.all_eq_true] at hok
     have:=hok x hx
     simp [hed] at this
     simp only [RR,List.append_assoc]
     exact this
    ·simp only [hik,if_false]
     exact hlog i o' (by omega) ho' x (by simp [hx]) hed
   ·intro i j o1 o2 hi hij h1 h2 hed
    have hjk:j≠k:=by omega
    by_cases hik:i = k
    ·subst hik
     rw [ho] at h1; cases h1
     simp only [if_true,hjk,if_false]
     exact hlog j o2 (by omega) h2 (i,RR S all o e,e.bx.map (·.1)) (by simp [RR]) hed
    ·simp only [hik,hjk,if_false]
     exact hbox i j o1 o2 (by omega) hij h1 h2 hed
theorem GL:∀ (b:Bx) (S:AS) (i:Nat),i ∉ b.map (·.1)→As (Bg b S) i = As S i
 | [],_,_,_=>rfl
 | (id,B,n) :: r,S,i,h=>by
   simp only [List.map_cons,List.mem_cons,not_or] at h
   simp only [Bg]
   rw [GL r _ i h.2,B1,if_neg (fun e=>h.1 e.1)]
theorem VC:∀ (b:Bx) (S:AS) (i:Nat),(As (Bg b S) i).av = (As S i).av
 | [],_,_=>rfl
 | (id,B,n) :: r,S,i=>by
   simp only [Bg]
   rw [VC r,B1]
   split
   ·rename_i e; rw [e.1]
   ·rfl
theorem Pm:∀ (b:Bx) (S T:AS) (i:Nat),S.length = T.length→i∈b.map (·.1)→Rp (Bg b S) (Bg b T) i
 | [],_,_,_,_,h=>by simp at h
 | (id,B,n) :: r,S,T,i,hl,h=>by
   simp only [Bg]
   by_cases hr:i∈r.map (·.1)
   ·exact Pm r _ _ i (by simp [Cg,hl]) hr
   ·have hi:i = id:=by simp at h hr; rcases h with h | ⟨x,y,h⟩; exact h; exact absurd h (hr x y)
    unfold Rp
    rw [GL r _ i hr,GL r _ i hr,B1,B1,hi,hl]
    split
    ·exact ⟨rfl,rfl⟩
    ·rename_i hn
     have h1:T.length≤id:=by
      rcases Nat.lt_or_ge id T.length with h | h
      ·exact absurd ⟨rfl,h⟩ hn
      ·exact h
     rw [JP S id (by omega),JP T id h1]
     exact ⟨rfl,rfl⟩
theorem TQ (dst:Option Nat) (e:FC) (S:AS):(UY dst e S).length = S.length:=by
 cases dst <;> simp [UY,Gm,BR]
theorem Qw {dst:Option Nat} {e:FC} {S:AS} {t:Nat} (h:dst≠some t):SL (UY dst e S) S t:=by
 unfold SL
 cases dst with
 | none=>simp [UY,VC]
 | some d =>
   simp only [UY]
   rw [BZ,if_neg (fun hh=>h (by rw [hh.1])),VC]
theorem W5 {dst:Option Nat} {e:FC} {S T:AS} {t:Nat} (hl:S.length = T.length) (h:dst = some t):SL (UY dst e S) (UY dst e T) t:=by
 unfold SL
 subst h
 simp only [UY]
 rw [BZ,BZ,BR,BR,hl]
 split
 ·rfl
 ·rename_i hn
  have h1:T.length≤t:=by
   rcases Nat.lt_or_ge t T.length with h | h
   ·exact absurd ⟨rfl,h⟩ hn
   ·exact h
  rw [JP _ t (by rw [BR]; omega),JP _ t (by rw [BR]; exact h1)]
theorem V9 {dst:Option Nat} {e:FC} {S:AS} {b:Nat}:Rp (UY dst e S) (Bg e.bx S) b:=by
 unfold Rp
 cases dst with
 | none=>exact ⟨rfl,rfl⟩
 | some d =>
   simp only [UY]
   rw [BZ]
   split
   ·rename_i hh; rw [hh.1]; exact ⟨rfl,rfl⟩
   ·exact ⟨rfl,rfl⟩
theorem Pk {dst:Option Nat} {e:FC} {S:AS} {b:Nat} (h:b ∉ e.bx.map (·.1)):Rp (UY dst e S) S b:=by
 have:=V9 (dst:=dst) (e:=e) (S:=S) (b:=b)
 unfold Rp at *
 rw [this.1,this.2,GL _ _ _ h]
 exact ⟨rfl,rfl⟩
theorem VA {dst:Option Nat} {e:FC} {S T:AS} {b:Nat} (hl:S.length = T.length) (h:b∈e.bx.map (·.1)):Rp (UY dst e S) (UY dst e T) b:=by
 have h1:=V9 (dst:=dst) (e:=e) (S:=S) (b:=b)
 have h2:=V9 (dst:=dst) (e:=e) (S:=T) (b:=b)
 have h3:=Pm e.bx S T b hl h
 unfold Rp at *
 rw [h1.1,h1.2,h2.1,h2.2]
 exact h3
theorem aG:∀ {S T:AS},S.length = T.length→(∀ t,SL S T t)→(∀ b,Rp S T b)→S = T
 | [],[],_,_,_=>rfl
 | s :: S,t :: T,hl,h1,h2=>by
   have e1:=h1 0
   have e2:=h2 0
   simp only [SL,Rp,As] at e1 e2
   have:s = t:=by obtain ⟨_,_,_⟩:=s; obtain ⟨_,_,_⟩:=t; simp_all
   rw [this,aG (S:=S) (T:=T) (by simpa using hl) (fun i=>h1 (i + 1)) (fun i=>h2 (i + 1))]
 | [],_ :: _,hl,_,_=>by simp at hl
 | _ :: _,[],hl,_,_=>by simp at hl
theorem LQ {x y:List Nat} (h:SO x y = true):∀ i∈x,i ∉ y:=by simpa [SO] using h
theorem Mx:∀ (l:List Oper) (k:Nat),(∀ j,l[j]? = all[k + j]?)→Yt all k l = true →
 ∀ i o,k≤i→all[i]? = some o→((∀ e∈o.after,Region.binds .any e = true→e.on < i)∧∀ j want,o.guard = some (j,want)→j < i) ∧
   ∀ j o',j < i→all[j]? = some o'→Pp all o j = true∨((∀ d,o'.dst = some d→d ∉ Di all o)∧(∀ d,o.dst = some d→d ∉ Di all o'))
 | [],k,hall,_,i,o,hi,ho=>by
   have hk:=hall 0
   simp at hk
   rw [List.getElem?_eq_none (by omega)] at ho
   cases ho
 | x :: r,k,hall,h,i,o,hi,ho=>by
   simp only [Yt,Bool.and_eq_true] at h
   obtain ⟨⟨⟨h1,h1g⟩,h2⟩,h3⟩:=h
   by_cases hik:i = k
   ·subst hik
    have hx:all[i]? = some x:=by have:=hall 0; simpa using this.symm
    rw [hx] at ho; cases ho
    refine ⟨⟨fun e he hb=>?_,fun j want hg=>by simpa [hg] using h1g⟩,fun j o' hj ho'=>?_⟩
    ·have:=List.all_eq_true.1 h1 e (by simpa using he)
     simpa [hb] using this
    ·have:=List.all_eq_true.1 h2 (o',j) (by
      rw [List.mem_iff_getElem?]
      refine ⟨j,?_⟩
      rw [List.getElem?_zipIdx,List.getElem?_take_of_lt hj,ho']
      simp)
     simp only [Bool.or_eq_true,Bool.and_eq_true] at this
     rcases this with ⟨h4,h5⟩ | h4
     ·refine .inr ⟨fun d hd=>LQ h4 d (by simp [hd,CC]),fun d hd hm=>LQ h5 d hm (by simp [hd,CC])⟩
     ·exact .inl h4
   ·exact Mx r (k + 1) (fun j=>by have:=hall (j + 1); rw [List.getElem?_cons_succ] at this; rw [this]; congr 1; omega) h3 i o (by omega) ho
end
structure ac (all:List Oper) (St:Nat→AS) (E:Nat→FC) (S₀:AS) (f:Nat→Bool) (T:AS):Prop where
 len:T.length = S₀.length
 dc:∀ (k:Nat) (o:Oper),all[k]? = some o→f k = true→∀ i,U5 o i = true→f i = true
 vs:∀ (t i:Nat),i≤all.length→(∀ (k:Nat) (o:Oper),all[k]? = some o→o.dst = some t→(f k = true↔k < i))→SL T (St i) t
 vb:∀ (b i:Nat),i≤all.length→(∀ (k:Nat) (o:Oper),all[k]? = some o→b∈(E k).bx.map (·.1)→(f k = true↔k < i))→Rp T (St i) b
section
variable {P:Program} {all:List Oper} {St:Nat→AS} {E:Nat→FC} {S₀:AS}
theorem U0.len (h:U0 P all S₀ St E):∀ i,i≤all.length→(St i).length = S₀.length
 | 0,_=>by rw [h.start]
 | i + 1,hi=>by
   rw [h.next i all[i] (List.getElem?_eq_getElem (by omega)),TQ]
   exact h.len i (by omega)
theorem U0.keepS (h:U0 P all S₀ St E) {t i:Nat}:∀ j,i≤j→j≤all.length→(∀ (k:Nat) (o:Oper),i≤k→k < j→all[k]? = some o→o.dst≠some t)→SL (St j) (St i) t:=by
 intro j
 induction j with
 | zero=>intro hij _ _; have:i = 0:=by omega
         subst this; exact rfl
 | succ j ih =>
   intro hij hj hk
   by_cases e:i = j + 1
   ·subst e; exact rfl
   ·have h1:=ih (by omega) (by omega) (fun k o h1 h2=>hk k o h1 (by omega))
    have h2:SL (St (j + 1)) (St j) t:=by
     rw [h.next j all[j] (List.getElem?_eq_getElem (by omega))]
     exact Qw (hk j _ (by omega) (by omega) (List.getElem?_eq_getElem (by omega)))
    exact Eq.trans h2 h1
theorem U0.keepB (h:U0 P all S₀ St E) {b i:Nat}:∀ j,i≤j→j≤all.length→(∀ (k:Nat) (o:Oper),i≤k→k < j→all[k]? = some o→b ∉ (E k).bx.map (·.1))→Rp (St j) (St i) b:=by
 intro j
 induction j with
 | zero=>intro hij _ _; have:i = 0:=by omega
         subst this; exact ⟨rfl,rfl⟩
 | succ j ih =>
   intro hij hj hk
   by_cases e:i = j + 1
   ·subst e; exact ⟨rfl,rfl⟩
   ·have h1:=ih (by omega) (by omega) (fun k o h1 h2=>hk k o h1 (by omega))
    have h2:Rp (St (j + 1)) (St j) b:=by
     rw [h.next j all[j] (List.getElem?_eq_getElem (by omega))]
     exact Pk (hk j _ (by omega) (by omega) (List.getElem?_eq_getElem (by omega)))
    exact ⟨h2.1.trans h1.1,h2.2.trans h1.2⟩
theorem ac.readyN {f:Nat→Bool} {T:AS} (m:ac all St E S₀ f T):∀ (n:Nat) {o:Oper} {j:Nat},(∀ j,U5 o j = true→f j = true)→YD all n o j = true→f j = true
 | 0,_,_,hready,h=>hready _ h
 | n + 1,o,j,hready,h=>by
   simp only [YD,Bool.or_eq_true,List.any_eq_true,Bool.and_eq_true] at h
   rcases h with h | ⟨e,he,hb,hm⟩
   ·exact hready _ h
   ·split at hm
    ·rename_i om hom
     refine m.readyN n (fun i hi=>m.dc e.on om hom (hready e.on ?_) i hi) hm
     simp only [U5,List.any_eq_true,Bool.and_eq_true,beq_iff_eq]
     exact ⟨e,he,rfl,hb⟩
    ·cases hm
theorem ac.ready2 {f:Nat→Bool} {T:AS} (m:ac all St E S₀ f T) {o:Oper} (hready:∀ j,U5 o j = true→f j = true) {j:Nat} (h:Pp all o j = true):f j = true :=
 m.readyN 4 hready h
theorem ac.step (h:U0 P all S₀ St E) (hreg:Yt all 0 all = true) {f:Nat→Bool} {T:AS} (m:ac all St E S₀ f T) {i:Nat} {o:Oper} (ho:all[i]? = some o) (hf:f i = false) (hready:∀ j,U5 o j = true→f j = true) :
 (∀ t∈Di all o,SL (St i) T t)∧(∀ b∈RR (St i) all o (E i),Rp (St i) T b)∧ac all St E S₀ (fun k=>if k = i then true else f k) (UY o.dst (E i) T):=by
 have hreg':=Mx all 0 (fun j=>by simp) hreg
 have hi:i < all.length:=by
  rcases Nat.lt_or_ge i all.length with h | h
  ·exact h
  ·simp [List.getElem?_eq_none h] at ho
 have later:∀ (k:Nat) (o':Oper),all[k]? = some o'→i < k→f k = true→Pp all o' i = false:=by
  intro k o' ho' hik hfk
  cases he:Pp all o' i with
  | false=>rfl
  | true=>have:=m.ready2 (fun j hj=>m.dc k o' ho' hfk j hj) he; rw [hf] at this; cases this
 have hlenT:(St i).length = T.length:=by rw [h.len i (by omega),m.len]
 have hS:∀ t∈Di all o,SL (St i) T t:=by
  intro t ht
  refine (m.vs t i (by omega) fun k o' ho' hd=>?_).symm
  rcases Nat.lt_trichotomy k i with hk | hk | hk
  ·refine ⟨fun _=>hk,fun _=>?_⟩
   rcases (hreg' i o (by omega) ho).2 k o' hk ho' with he | ⟨h1,_⟩
   ·exact m.ready2 hready he
   ·exact absurd ht (h1 t hd)
  ·subst hk; rw [hf]; simp
  ·refine ⟨fun hfk=>?_,fun hh=>by omega⟩
   rcases (hreg' k o' (by omega) ho').2 i o hk ho with he | ⟨_,h2⟩
   ·have:=m.ready2 (fun j hj=>m.dc k o' ho' hfk j hj) he
    rw [hf] at this; cases this
   ·exact absurd ht (h2 t hd)
 have hB:∀ b∈RR (St i) all o (E i),Rp (St i) T b:=by
  intro b hb
  have key:=m.vb b i (by omega) fun k o' ho' hd=>?_
  ·exact ⟨key.1.symm,key.2.symm⟩
  ·rcases Nat.lt_trichotomy k i with hk | hk | hk
   ·refine ⟨fun _=>hk,fun _=>?_⟩
    cases he:Pp all o k with
    | true=>exact m.ready2 hready he
    | false=>exact absurd (List.mem_append.2 (.inl hb)) (LQ (h.box k i o' o hk ho' ho he).1 b hd)
   ·subst hk; rw [hf]; simp
   ·refine ⟨fun hfk=>?_,fun hh=>by omega⟩
    exact absurd hd (LQ (h.box i k o o' hk ho ho' (later k o' ho' hk hfk)).2 b hb)
 refine ⟨hS,hB,?_⟩
 have hnx:=h.next i o ho
 refine ⟨by rw [TQ]; exact m.len,?_,?_,?_⟩
 ·intro k o' ho' hk j hj
  by_cases hki:k = i
  ·subst hki
   rw [ho] at ho'; cases ho'
   have:=hready j hj
   simp [this]
  ·simp only [hki,if_false] at hk
   have:=m.dc k o' ho' hk j hj
   simp [this]
 ·intro t j hj hcut
  by_cases hd:o.dst = some t
  ·have hij:i < j:=(hcut i o ho hd).1 (by simp)
   have h1:SL (St j) (St (i + 1)) t:=h.keepS j (by omega) hj fun k o' hk1 hk2 ho' hd'=>h.once i k o o' (by omega) ho ho' t hd hd'
   have h2:SL (UY o.dst (E i) T) (St (i + 1)) t:=by rw [hnx]; exact W5 hlenT.symm hd
   exact h2.trans h1.symm
  ·have h1:=m.vs t j hj fun k o' ho' hd'=>by
    have:=hcut k o' ho' hd'
    by_cases hki:k = i
    ·subst hki; rw [ho] at ho'; cases ho'; exact absurd hd' hd
    ·simpa [hki] using this
   exact (Qw hd).trans h1
 ·intro b j hj hcut
  by_cases hd:b∈(E i).bx.map (·.1)
  ·have hij:i < j:=(hcut i o ho hd).1 (by simp)
   have h1:Rp (St j) (St (i + 1)) b:=h.keepB j (by omega) hj fun k o' hk1 hk2 ho' hd'=>by
    have hfk:f k = true:=by
     have:=(hcut k o' ho' hd').2 hk2
     simpa [show k≠i by omega] using this
    have he:=later k o' ho' (by omega) hfk
    exact LQ (h.box i k o o' (by omega) ho ho' he).1 b hd (List.mem_append.2 (.inr hd'))
   have h2:Rp (UY o.dst (E i) T) (St (i + 1)) b:=by rw [hnx]; exact VA hlenT.symm hd
   exact ⟨h2.1.trans h1.1.symm,h2.2.trans h1.2.symm⟩
  ·have h1:=m.vb b j hj fun k o' ho' hd'=>by
    have:=hcut k o' ho' hd'
    by_cases hki:k = i
    ·subst hki; exact absurd hd' hd
    ·simpa [hki] using this
   have h2:=Pk (dst:=o.dst) (e:=E i) (S:=T) hd
   exact ⟨h2.1.trans h1.1,h2.2.trans h1.2⟩
end
end Go.Abs
set_option linter.unusedVariables false
set_option linter.unusedSimpArgs false
namespace Go.Abs
open Go.RowKit (Below)
section
variable {P:Program} {X:Cx} {ops:Array Oper} {St:Nat→AS} {E:Nat→FC} {S₀:AS}
def U6 (listed:Array Bool) (k:Nat):Bool:=listed.getD k false
def T7 (all:List Oper) (f:Nat→Bool):List Nat:=((List.range all.length).filter f).flatMap fun k=>CC ((all[k]?).bind (·.dst))
theorem Ku {all:List Oper} {f:Nat→Bool} {t:Nat}:t∈T7 all f↔∃ (k:Nat) (o:Oper),all[k]? = some o∧f k = true∧o.dst = some t:=by
 simp only [T7,List.mem_flatMap,List.mem_filter,List.mem_range]
 constructor
 ·rintro ⟨k,⟨hk,hf⟩,ht⟩
  refine ⟨k,all[k],List.getElem?_eq_getElem hk,hf,?_⟩
  rw [List.getElem?_eq_getElem hk] at ht
  simp only [Option.bind_some] at ht
  cases hd:all[k].dst with
  | none=>simp [hd,CC] at ht
  | some d=>simp [hd,CC] at ht; rw [ht]
 ·rintro ⟨k,o,ho,hf,hd⟩
  have hk:k < all.length:=by
   rcases Nat.lt_or_ge k all.length with h | h
   ·exact h
   ·simp [List.getElem?_eq_none h] at ho
  exact ⟨k,⟨hk,hf⟩,by simp [ho,hd,CC]⟩
theorem Su {p p':Nat→Bool} {i:Nat} (h1:p i = true) (h2:p' i = false) (h3:∀ x,x≠i→p' x = p x):∀ l:List Nat,(l.filter p').length + l.count i = (l.filter p).length
 | []=>rfl
 | x :: r=>by
   have ih:=Su h1 h2 h3 r
   by_cases e:x = i
   ·subst e; simp [List.filter_cons,h1,h2,← ih]; omega
   ·have hb:(x==i) = false:=by simp [e]
    rw [List.count_cons,hb]
    by_cases hp:p x = true
    ·simp [List.filter_cons,hp,h3 x e]; omega
    ·simp [List.filter_cons,hp,h3 x e]; omega
theorem ac.all_done (h:U0 P ops.toList S₀ St E) {f:Nat→Bool} {T:AS} (m:ac ops.toList St E S₀ f T) (hf:∀ k,k < ops.size→f k = true):T = St ops.size:=by
 have hk:∀ (k:Nat) (o:Oper),ops.toList[k]? = some o→k < ops.size:=by
  intro k o ho
  rcases Nat.lt_or_ge k ops.size with h | h
  ·exact h
  ·simp [h] at ho
 have hle:ops.size≤ops.toList.length:=by simp
 refine aG (by rw [m.len,h.len _ hle]) (fun t=>m.vs t _ hle fun k o ho _=>?_) (fun b=>m.vb b _ hle fun k o ho _=>?_)
 ·exact ⟨fun _=>hk k o ho,fun hh=>hf k hh⟩
 ·exact ⟨fun _=>hk k o ho,fun hh=>hf k hh⟩
theorem aA {o:Oper} {i:Nat}:U5 o i = true↔∃ e∈o.after,e.on = i∧Region.binds .any e = true:=by
 simp only [U5,List.any_eq_true,Array.mem_toList_iff,Bool.and_eq_true,beq_iff_eq]
theorem Zl (h:U0 P ops.toList S₀ St E) (hreg:Yt ops.toList 0 ops.toList = true) {Q:Exit→Act→World→Prop}
 (hQ:∀ β a w (done:List Nat),AG X (·∈done) β (St ops.size) a w→Q .normal a w) :
 ∀ (fuel:Nat) (listed:Array Bool) (T:AS) (β:Nat→Value) (a:Act) (w:World),listed.size = ops.size→ac ops.toList St E S₀ (U6 listed) T→AG X (·∈T7 ops.toList (U6 listed)) β T a w →
   ((List.range ops.size).filter fun k=>!U6 listed k).length≤fuel→wpAny P .any ops Q fuel listed a w:=by
 have stop:∀ (listed:Array Bool) (T:AS) (β:Nat→Value) (a:Act) (w:World),listed.size = ops.size→ac ops.toList St E S₀ (U6 listed) T→AG X (·∈T7 ops.toList (U6 listed)) β T a w →
  Region.ready .any ops listed = []→Q .normal a w:=by
  intro listed T β a w hsz m hs hr
  have all_:∀ k,k < ops.size→U6 listed k = true:=by
   intro k
   induction k using Nat.strongRecOn with
   | _ k ih =>
     intro hk
     cases hfk:U6 listed k with
     | true=>rfl
     | false =>
       exfalso
       have hmem:k∈Region.ready .any ops listed:=by
        refine mem_ready.2 ⟨?_,ops[k],by simp [hk],fun e he hb=>?_⟩
        ·simp only [U6,Array.getD] at hfk ⊢
         rw [dif_pos (by omega)] at hfk ⊢
         exact hfk
        ·have hlt:=(Mx (all:=ops.toList) ops.toList 0 (fun j=>by simp) hreg k ops[k] (by omega) (by simp [hk])).1.1 e he hb
         exact ih e.on hlt (by omega)
       rw [hr] at hmem
       cases hmem
  rw [m.all_done h all_] at hs
  exact hQ β a w _ hs
 intro fuel
 induction fuel with
 | zero =>
   intro listed T β a w hsz m hs hc
   have hr:Region.ready .any ops listed = []:=by
    cases hr:Region.ready .any ops listed with
    | nil=>rfl
    | cons i r =>
      exfalso
      have hi:=(mem_ready.1 (show i∈Region.ready .any ops listed by rw [hr]; simp))
      obtain ⟨h1,o,ho,_⟩:=hi
      have hlt:i < ops.size:=by
       rcases Nat.lt_or_ge i ops.size with h | h
       ·exact h
       ·simp [Array.getElem?_eq_none h] at ho
      have:i∈(List.range ops.size).filter fun k=>!U6 listed k:=by
       simp only [List.mem_filter,List.mem_range,Bool.not_eq_true']
       refine ⟨hlt,?_⟩
       simp only [U6,Array.getD] at h1 ⊢
       rw [dif_pos (by omega)] at h1 ⊢
       exact h1
      have:=List.length_pos_of_mem this
      omega
   exact ⟨hr,stop listed T β a w hsz m hs hr⟩
 | succ fuel ih =>
   intro listed T β a w hsz m hs hc
   refine ⟨fun hr=>stop listed T β a w hsz m hs hr,fun i hi=>?_⟩
   obtain ⟨h1,o,ho,hall⟩:=mem_ready.1 hi
   have hlt:i < ops.size:=by
    rcases Nat.lt_or_ge i ops.size with h | h
    ·exact h
    ·simp [Array.getElem?_eq_none h] at ho
   have hol:ops.toList[i]? = some o:=by simpa using ho
   have hfi:U6 listed i = false:=by
    simp only [U6,Array.getD] at h1 ⊢
    rw [dif_pos (by omega)] at h1 ⊢
    exact h1
   have hready:∀ j,U5 o j = true→U6 listed j = true:=by
    intro j hj
    obtain ⟨e,he,hon,hb⟩:=aA.1 hj
    rw [← hon]
    exact hall e he hb
   obtain ⟨hS,hB,m'⟩:=m.step h hreg hol hfi hready
   have hlenT:(St i).length = T.length:=by rw [h.len i (by simp; omega),m.len]
   have hy:=h.does i o hol T (T7 ops.toList (U6 listed)) hS hB hlenT (fun j want t hg ht=>by
    rw [QC] at ht
    cases hoj:ops.toList[j]? with
    | none=>simp [hoj] at ht
    | some oj =>
      simp [hoj] at ht
      refine Ku.2 ⟨j,oj,hoj,?_,ht⟩
      have hin:t∈Di ops.toList o:=by simp [Di,TL,hg,QC,hoj,ht,CC]
      have hji:=(Mx (all:=ops.toList) ops.toList 0 (fun j=>by simp) hreg i o (by omega) hol).1.2 j want hg
      rcases (Mx (all:=ops.toList) ops.toList 0 (fun j=>by simp) hreg i o (by omega) hol).2 j oj hji hoj with hed | ⟨hno,_⟩
      ·exact m.ready2 hready hed
      ·exact absurd hin (hno t ht))
   obtain ⟨e,⟨_,he⟩,hok⟩:=Vt hs hy
   subst he
   have hstep:=hok.step (Q:=Q) (K:=wpAny P .any ops Q fuel (listed.setIfInBounds i true)) (fun d hd hm=>by
    obtain ⟨k,ok,hok',hfk,hdk⟩:=Ku.1 hm
    rcases Nat.lt_trichotomy k i with hk | hk | hk
    ·exact h.once k i ok o hk hok' hol d hdk hd
    ·subst hk; rw [hfi] at hfk; cases hfk
    ·exact h.once i k o ok hk hol hok' d hd hdk)
    (fun β' a' w' hs'=>by
     have hf':U6 (listed.setIfInBounds i true) = fun k=>if k = i then true else U6 listed k:=by
      funext k
      simp only [U6,Array.getD_eq_getD_getElem?,Array.getElem?_setIfInBounds]
      by_cases hki:k = i
      ·subst hki; simp [hsz,hlt]
      ·simp [Ne.symm hki,hki]
     refine ih _ _ β' a' w' (by simp [hsz]) (by rw [hf']; exact m') (hs'.weaken fun t ht=>?_) ?_
     ·rw [hf']
      rcases List.mem_append.1 ht with ht | ht
      ·refine Ku.2 ⟨i,o,hol,by simp,?_⟩
       cases hd:o.dst with
       | none=>simp [hd,CC] at ht
       | some d=>simp [hd,CC] at ht; rw [ht]
      ·obtain ⟨k,ok,hok',hfk,hdk⟩:=Ku.1 ht
       exact Ku.2 ⟨k,ok,hok',by simp [hfk],hdk⟩
     ·have:=Su (p:=fun k=>!U6 listed k) (p':=fun k=>!U6 (listed.setIfInBounds i true) k) (i:=i) (by simp [hfi]) (by simp [hf']) (fun x hx=>by simp [hf',hx]) (List.range ops.size)
      have hpos:0 < (List.range ops.size).count i:=List.count_pos_iff.2 (by simp [hlt])
      omega)
   unfold wpOp
   simp only [ho]
   split
   ·rename_i hw; rw [if_pos hw] at hstep; exact .inl hstep
   ·rename_i hw; rw [if_neg hw] at hstep; exact hstep
theorem KC (P:Program):LK P:=by
 intro id ops Q S X β a w hy hs
 have hy:Iv (Yt ops.toList 0 ops.toList = true∧P.follows .mixedOrders = true) (di P ops.toList 0 [] [] ops.toList S fun S=>plain S (Q .normal)):=hy
 obtain ⟨⟨hreg,hm⟩,hy⟩:=hy
 obtain ⟨St,E,h0,hK,hnext,_,honce,hdoes,_,hbox⟩:=bp P ops.toList ops.toList 0 [] [] S _ (fun j=>by simp) hy
 have hrun:U0 P ops.toList S St E:=⟨h0,fun i o ho=>hnext i o (by omega) ho,fun i j o o' hij h1 h2=>honce i j o o' (by omega) hij h1 h2,fun i o ho=>hdoes i o (by omega) ho,fun i j o o' hij h1 h2=>hbox i j o o' (by omega) hij h1 h2⟩
 refine wp_region_any hm ?_
 have hw:AG X (fun _=>False) β S a { w with drawn:=w.drawn + 1 }:=hs.world ⟨rfl,rfl,rfl,Nat.le_refl _,fun _ _=>rfl⟩
 refine Zl hrun hreg (fun β' a' w' done hs'=>?_) ops.size _ S β a _ (by simp) ?_ (hw.weaken fun _ hf=>hf.elim) ?_
 ·rw [TW] at hK
  simp only [Nat.zero_add,Array.length_toList] at hK
  exact ⟨β',_,hK,hs'.plain⟩
 ·have hf:∀ k,U6 (Array.replicate ops.size false) k = false:=by
   intro k
   simp only [U6,Array.getD]
   split <;> simp
  refine ⟨rfl,(fun k o _ hk=>by rw [hf k] at hk; cases hk),fun t i hi hcut=>?_,fun b i hi hcut=>?_⟩
  ·rw [← h0]
   refine (hrun.keepS (i:=0) i (by omega) hi fun k o _ hk ho hd=>?_).symm
   have:=(hcut k o ho hd).2 hk
   rw [hf k] at this; cases this
  ·rw [← h0]
   have:=hrun.keepB (b:=b) (i:=0) i (by omega) hi fun k o _ hk ho hd=>by
    have:=(hcut k o ho hd).2 hk
    rw [hf k] at this; cases this
   exact ⟨this.1.symm,this.2.symm⟩
 ·exact Nat.le_trans (List.length_filter_le _ _) (by simp)
theorem BS {f:FuncId} {fn:Func} {args:List AV} {r:AV} (hf:P.funcs[f]? = some fn) (hname:(fn.name == "runtime.NumGoroutine") = false) (hr:d7 P fn args r):Aj P f args r :=
 Pj (KC P) hf hname hr
theorem Ns {f:FuncId} {fn:Func} {args outs:List AV} {r:AV} (hf:P.funcs[f]? = some fn) (hname:(fn.name == "runtime.NumGoroutine") = false) (hol:outs.length = args.length)
 (hfit:∀ (i:Nat) x y,args[i]? = some x→outs[i]? = some y→match y with
  | .own sz e _=>∃ xs,x = .own sz e xs
  | .optr cs=>∃ cs',x = .optr cs'∧cs.length = cs'.length
  | .cc _ l=>∃ (ds:List D) (sz:Nat) (e:TypeId) (xs ys:List D),x = .cc none (ds.map .d++[.own sz e xs])∧l = ds.map .d++[.own sz e ys]
  | _=>True) (hr:d8 P fn args outs r):CZ P f args outs r :=
 Pv (KC P) hf hname hol hfit hr
theorem Dk (J:List Nat) {f:FuncId} {fn:Func} {args:List AV} {r:AV} (hf:P.funcs[f]? = some fn) (hname:(fn.name == "runtime.NumGoroutine") = false) (hr:Y4 P J fn args r):Aj P f args r :=
 Pj (KC P) hf hname hr
theorem Wc (J:List Nat) {f:FuncId} {fn:Func} {args outs:List AV} {r:AV} (hf:P.funcs[f]? = some fn) (hname:(fn.name == "runtime.NumGoroutine") = false) (hol:outs.length = args.length)
 (hfit:∀ (i:Nat) x y,args[i]? = some x→outs[i]? = some y→match y with
  | .own sz e _=>∃ xs,x = .own sz e xs
  | .optr cs=>∃ cs',x = .optr cs'∧cs.length = cs'.length
  | .cc _ l=>∃ (ds:List D) (sz:Nat) (e:TypeId) (xs ys:List D),x = .cc none (ds.map .d++[.own sz e xs])∧l = ds.map .d++[.own sz e ys]
  | _=>True) (hr:V6 P J fn args outs r):CZ P f args outs r :=
 Pv (KC P) hf hname hol hfit hr
theorem ek (J:List Nat) {f:FuncId} {fn:Func} {args:List AV} {k sz:Nat} {e:TypeId} {xs ys:List D} (q:Nat) (hf:P.funcs[f]? = some fn) (hname:(fn.name == "runtime.NumGoroutine") = false) (hres:fn.results = #[])
 (hk:args[k]? = some .any) (hq:q < args.length) (hkq:q≠k) (hmut:args.all (fun x=>!x.mut) = true) (hr:ah P J fn args k q sz e xs ys):W4 P f args k sz e xs ys :=
 UU (KC P) hf hname hres hk hq hkq hmut hr
end
end Go.Abs
set_option linter.unusedVariables false
set_option linter.unusedSimpArgs false
namespace Go.Abs
theorem QM {S S':AS} (h:EV S' (fun S'=>Le S S')):Le S S':=by rw [GV] at h; exact h
end Go.Abs
set_option linter.unusedVariables false
set_option linter.unusedSimpArgs false
namespace Go.Proofs.YtjgeigjjfcnojaaGreatDoor.P
open Go.Abs Go.Proofs
@[reducible] def Ah {α:Type} (sz:Nat) (f:α→D) (l:List α):D:=.list sz (l.map f)
theorem Rq {ρ:Type} {b b':Bool} {x y:Prop} {X Y:Option ρ} {R:ρ} (hF:(bif b' then X else Y) = some R) (e:b = b') (h1:X = some R→x) (h2:Y = some R→y):Bool.rec y x b:=by
 subst e
 cases b with
 | true=>exact h1 hF
 | false=>exact h2 hF
theorem MB {ρ:Type} {b b':Bool} {x y:Prop} {X Y:Option ρ} {R:ρ} (hF:(bif b' then X else Y) = some R) (e:b = b') (h1:b' = true→X = some R→x) (h2:b' = false→Y = some R→y):Bool.rec y x b:=by
 subst e
 cases b with
 | true=>exact h1 rfl hF
 | false=>exact h2 rfl hF
theorem N6 {b b':Bool} {x y:Prop} (e:b = b') (h:b' = true) (k:x):Bool.rec y x b:=by
 subst e; subst h; exact k
theorem ez {b b':Bool} {x y:Prop} (e:b = b') (h:b' = false) (k:y):Bool.rec y x b:=by
 subst e; subst h; exact k
theorem eA {x a b:Int} (h:(x==a) = true) (k:(a==b) = false:=by rfl):(x==b) = false:=by
 rw [beq_iff_eq.1 h]; exact k
theorem eK {α:Type} {xs:List α} {i j:Int} {x:α} {f:α→D} {K:D→Prop} (h:idx xs i = some x) (e:j = i) (k:K (f x)):At (xs.map f) j K:=by
 obtain ⟨h0,_,h1⟩:=TN h
 subst e
 exact ⟨⟨h0,_,by rw [List.getElem?_map,h1]; rfl,k⟩⟩
theorem ZV {α:Type} {xs:List α} {i j:Int} {x:α} {f:α→D} {K:D→Prop} (h:idx xs i = some x) (e:j = ((i.toNat:Nat):Int)) (k:K (f x)):At (xs.map f) j K:=by
 obtain ⟨h0,_,_⟩:=TN h
 exact eK h (e.trans (Int.toNat_of_nonneg h0)) k
theorem eC {α:Type} {xs:List α} {i j:Int} {x:α} {f:α→D} {k:Prop} (h:idx xs i = some x) (e:j = i) (hk:k):Iv (0≤j∧j.toNat < (xs.map f).length) k:=by
 obtain ⟨h0,h1,_⟩:=TN h
 subst e
 exact ⟨⟨h0,by rw [List.length_map]; exact h1⟩,hk⟩
theorem eo {α ρ:Type} {xs:List α} {i j:Int} {f:α→D} {K:D→Prop} {G:α→Option ρ} {R:ρ} (hF:(idx xs i).bind G = some R) (e:j = i) (k:∀ x,idx xs i = some x→G x = some R→K (f x)):At (xs.map f) j K:=by
 obtain ⟨x,h,hF⟩:=A8 hF
 exact eK h e (k x h hF)
theorem Tc {α ρ:Type} {xs:List α} {f:α→D} {i j:Int} {k:Prop} {G:α→Option ρ} {R:ρ} (hF:(idx xs i).bind G = some R) (e:j = i) (hk:∀ x,idx xs i = some x→G x = some R→k):Iv (0≤j∧j.toNat < (xs.map f).length) k:=by
 obtain ⟨x,h,hF⟩:=A8 hF
 exact eC h e (hk x h hF)
theorem snoc {α:Type} (f:α→D) (xs:List α) (x:α):xs.map f++[f x] = (xs++[x]).map f:=by simp
theorem M1 (k:IntKind) (xs:List Int) (x:Int):xs.map (D.int k)++[D.int k x] = (xs++[x]).map (D.int k):=by simp
theorem Xy {α:Type} (sz:Nat) (f:α→D) (xs:List (List α)) (x:List α):xs.map (Ah sz f)++[D.list sz (x.map f)] = (xs++[x]).map (Ah sz f):=by simp [Ah]
theorem dC {α:Type} (f:α→D) (xs ys:List α):xs.map f++ys.map f = (xs++ys).map f:=List.map_append.symm
theorem WE {α:Type} (f:α→D) (xs:List α) (l h:Int):Sm (xs.map f) l h = (Sm xs l h).map f:=by simp [Sm,List.map_take,List.map_drop]
theorem bZ {α:Type} (f:α→D) (n:Nat) (x:α):List.replicate n (f x) = (List.replicate n x).map f:=List.map_replicate.symm
theorem bv {α:Type} (f:α→D) (xs:List α) (i:Nat) (x:α):(xs.map f).set i (f x) = (xs.set i x).map f:=by rw [List.map_set]
theorem Bb {n m b:Nat} {q:Prop} (h:rm n m = true) (hb:b≤1024) (hq:q):n + m≤maxLen∧(n + m) * b≤140737488355328∧q:=by
 have h:=of_decide_eq_true h
 refine ⟨by unfold maxLen; omega,?_,hq⟩
 calc (n + m) * b≤137438953472 * 1024:=Nat.mul_le_mul h hb
  _ = 140737488355328:=by decide
theorem S5 {l:Int} {b:Nat} (h:(decide (0≤l) && rm l.toNat 0) = true) (hb:b≤1024):0≤l∧l≤l∧l≤(maxLen:Int)∧(b:Int) * l≤281474976710656:=by
 obtain ⟨h1,h2⟩:=Bool.and_eq_true_iff.1 h
 have h1:=of_decide_eq_true h1
 have h2:=of_decide_eq_true h2
 refine ⟨h1,Int.le_refl _,by unfold maxLen; omega,?_⟩
 have h3:l≤137438953472:=by omega
 calc (b:Int) * l≤1024 * l:=Int.mul_le_mul_of_nonneg_right (by omega) h1
  _≤281474976710656:=by omega
end Go.Proofs.YtjgeigjjfcnojaaGreatDoor.P
set_option linter.unusedVariables false
set_option linter.unusedSimpArgs false
namespace Go.Abs
section
variable {β:Type}
def JD (k:Int):List (Int × β)→Option β
 | []=>none
 | p :: r=>bif k==p.1 then some p.2 else JD k r
def Y1 (k:Int) (v:β):List (Int × β)→List (Int × β)
 | []=>[(k,v)]
 | p :: r=>bif k==p.1 then (k,v) :: r else p :: Y1 k v r
def VT (k:ByteArray):List (ByteArray × β)→Option β
 | []=>none
 | p :: r=>bif k==p.1 then some p.2 else VT k r
def b6 (k:ByteArray) (v:β):List (ByteArray × β)→List (ByteArray × β)
 | []=>[(k,v)]
 | p :: r=>bif k==p.1 then (k,v) :: r else p :: b6 k v r
def bc (kd:IntKind) (f:β→D) (es:List (Int × β)):List (D × D):=es.map fun p=>(.int kd p.1,f p.2)
def cC (f:β→D) (es:List (ByteArray × β)):List (D × D):=es.map fun p=>(.str p.1,f p.2)
theorem WQ (kd:IntKind) (f:β→D) (k:Int):∀ es,LU (.int kd k) (bc kd f es) = (JD k es).map f
 | []=>rfl
 | p :: r=>by
   have ih:=WQ kd f k r
   simp only [bc,List.map_cons,LU,JD,He] at ih ⊢
   cases k==p.1
   ·simpa using ih
   ·rfl
theorem Ww (kd:IntKind) (f:β→D) (k:Int) (v:β):∀ es,Uv (.int kd k) (f v) (bc kd f es) = bc kd f (Y1 k v es)
 | []=>rfl
 | p :: r=>by
   have ih:=Ww kd f k v r
   simp only [bc,List.map_cons,Uv,Y1,He] at ih ⊢
   cases k==p.1
   ·simpa using ih
   ·rfl
theorem WR (f:β→D) (k:ByteArray):∀ es,LU (.str k) (cC f es) = (VT k es).map f
 | []=>rfl
 | p :: r=>by
   have ih:=WR f k r
   simp only [cC,List.map_cons,LU,VT,He] at ih ⊢
   cases k==p.1
   ·simpa using ih
   ·rfl
theorem Zd (f:β→D) (k:ByteArray) (v:β):∀ es,Uv (.str k) (f v) (cC f es) = cC f (b6 k v es)
 | []=>rfl
 | p :: r=>by
   have ih:=Zd f k v r
   simp only [cC,List.map_cons,Uv,b6,He] at ih ⊢
   cases k==p.1
   ·simpa using ih
   ·rfl
theorem Mh (kd:IntKind) (f:β→D) (k:Int) (es:List (Int × β)):∀ p∈bc kd f es,Gj (.int kd k) p.1 = true:=by
 intro p hp
 obtain ⟨q,_,rfl⟩:=List.mem_map.1 hp
 simp [Gj]
theorem WZ (f:β→D) (k:ByteArray) (es:List (ByteArray × β)):∀ p∈cC f es,Gj (.str k) p.1 = true:=by
 intro p hp
 obtain ⟨q,_,rfl⟩:=List.mem_map.1 hp
 rfl
theorem QO {kd:IntKind} {f:β→D} {k:Int} {es:List (Int × β)} {z:β} {K:D→Bool→Prop} (h:K (f ((JD k es).getD z)) (JD k es).isSome):Qs (LU (.int kd k) (bc kd f es)) (f z) K:=by
 refine ⟨⟨f ((JD k es).getD z),(JD k es).isSome,?_,?_,h⟩⟩ <;> rw [WQ] <;> cases JD k es <;> rfl
theorem aV {f:β→D} {k:ByteArray} {es:List (ByteArray × β)} {z:β} {K:D→Bool→Prop} (h:K (f ((VT k es).getD z)) (VT k es).isSome):Qs (LU (.str k) (cC f es)) (f z) K:=by
 refine ⟨⟨f ((VT k es).getD z),(VT k es).isSome,?_,?_,h⟩⟩ <;> rw [WR] <;> cases VT k es <;> rfl
end
end Go.Abs
set_option linter.unusedVariables false
set_option linter.unusedSimpArgs false
namespace Go.Abs
open Go.Proofs Go.Shelf Go.Sort
def Ex (xs:List Int):List Int:=xs.mergeSort fun x y=>decide (x≤y)
theorem length_sortI (xs:List Int):(Ex xs).length = xs.length:=by simp [Ex,List.length_mergeSort]
theorem I3 (xs:List Int):(xs.map (D.int .i64)).flatMap D.cells = xs.map (D.int .i64):=by
 induction xs with
 | nil=>rfl
 | cons x r ih=>simp [D.cells,ih]
theorem RU {O:Nat→Prop} {w:World} {vals:List Value} {xs:List Int} (h:Bo O w vals (xs.map (D.int .i64))):vals = xs.map (Value.int .i64):=by
 apply List.ext_getElem?
 intro j
 by_cases hj:j < vals.length
 ·have hj2:j < xs.length:=by have:=h.1; simp at this; omega
  have:=(h.2 j vals[j] (.int .i64 xs[j]) (by simp [hj]) (by simp [hj2])).1
  cases h3:vals[j] with
  | int k n=>rw [h3] at this; cases this; simp [hj,hj2,h3]
  | _=>rw [h3] at this; cases this
 ·have hj2:¬ j < xs.length:=by have:=h.1; simp at this; omega
  rw [List.getElem?_eq_none (by omega),List.getElem?_eq_none (by simp; omega)]
theorem OZ (O:Nat→Prop) (w:World) (xs:List Int):Bo O w (xs.map (Value.int .i64)) (xs.map (D.int .i64)):=by
 refine ⟨by simp,fun j v y hv hy=>?_⟩
 simp only [List.getElem?_map] at hv hy
 cases h:xs[j]? with
 | none=>simp [h] at hv
 | some n=>simp [h] at hv hy; subst hv; subst hy; exact ⟨.int _ _,rfl⟩
theorem dR {P:Program} {ρ:Ren} (Ly:Lays.n189 P ρ) (hc:E6 P (ρ.f 189) = true) (e:TypeId) (xs:List Int) (hl:xs.length < 4611686018427387904) :
 CZ P (ρ.f 189) [.own 1 e (xs.map (D.int .i64))] [.own 1 e ((Ex xs).map (D.int .i64))] (.tup []):=by
 refine ⟨hc,rfl,fun O w vs hO _ hlen hMO hinj hargs=>?_⟩
 obtain ⟨v,rfl⟩:∃ v,vs = #[v]:=by
  obtain ⟨l⟩:=vs
  match l,hlen with
  | [v],_=>exact ⟨v,rfl⟩
 obtain ⟨_,_,vals,hrow,hL⟩:=hargs 0 v _ rfl rfl
 rw [I3] at hL
 obtain rfl:=RU hL
 have El:∀ {w':World} {e':Ending},e' = .returned (.tuple #[])→Bf w.heap.size (FJ #[v] [.own 1 e (xs.map (D.int .i64))]) w w'→C3 w' e 1 v (Ex xs).length ((Ex xs).map (Value.int .i64)) →
  ∃ u,e' = .returned u∧Bf w.heap.size (FJ #[v] [.own 1 e (xs.map (D.int .i64))]) w w' ∧
  C2 (fun b=>w.heap.size≤b∨(FJ #[v] [.own 1 e (xs.map (D.int .i64))] b∧¬ FJ #[v] [.own 1 e ((Ex xs).map (D.int .i64))] b)) (fun b=>O b∨FJ #[v] [.own 1 e ((Ex xs).map (D.int .i64))] b) w' u (.tup []) ∧
  ∀ (i:Nat) u' x y,#[v][i]? = some u'→[AV.own 1 e (xs.map (D.int .i64))][i]? = some x→[AV.own 1 e ((Ex xs).map (D.int .i64))][i]? = some y→ND (fun b=>O b∨FJ #[v] [.own 1 e ((Ex xs).map (D.int .i64))] b∨CS u (.tup []) b) w' u' x y:=by
  intro w' e' he hb hr
  refine ⟨_,he,hb,⟨#[],rfl,rfl,fun i u x h=>by simp at h,fun i j u u' sz e ys sz' e' ys' b h=>by simp at h⟩,fun i u' x y h1 h2 h3=>?_⟩
  match i,h1,h2,h3 with
  | 0,h1,h2,h3 =>
    simp at h1 h2 h3
    subst h1; subst h2; subst h3
    refine ⟨⟨by omega,fun x hx=>?_,(Ex xs).map (Value.int .i64),by simpa using hr,by rw [I3]; exact OZ _ _ _⟩,_,rfl⟩
    obtain ⟨n,_,rfl⟩:=List.mem_map.1 hx
    rfl
  | i + 1,h1,_,_=>simp at h1
 have none:xs = []→∀ p cap,v = .slice p 0 cap→Calls P (ρ.f 189) #[v] w fun e' w'=>∃ u,e' = .returned u∧Bf w.heap.size (FJ #[v] [.own 1 e (xs.map (D.int .i64))]) w w' ∧
  C2 (fun b=>w.heap.size≤b∨(FJ #[v] [.own 1 e (xs.map (D.int .i64))] b∧¬ FJ #[v] [.own 1 e ((Ex xs).map (D.int .i64))] b)) (fun b=>O b∨FJ #[v] [.own 1 e ((Ex xs).map (D.int .i64))] b) w' u (.tup []) ∧
  ∀ (i:Nat) u' x y,#[v][i]? = some u'→[AV.own 1 e (xs.map (D.int .i64))][i]? = some x→[AV.own 1 e ((Ex xs).map (D.int .i64))][i]? = some y→ND (fun b=>O b∨FJ #[v] [.own 1 e ((Ex xs).map (D.int .i64))] b∨CS u (.tup []) b) w' u' x y:=by
  intro h0 p cap hv
  subst h0
  have hc:=Any.slices_Sort_int_none Ly p cap w
  rw [← hv] at hc
  refine hc.mono fun e' w' ⟨he,hw⟩=>?_
  subst hw
  refine El he ⟨rfl,rfl,rfl,Nat.le_refl _,fun _ _ _=>rfl⟩ ?_
  simpa [Ex] using hrow
 rcases hrow with hrow' | ⟨h0,_,a,hv⟩
 ·rcases hrow'.2 with ⟨hv,h0⟩ | ⟨g,cap,cur,hv,hbase,hb,h1,h2,h3,h4⟩
  ·exact none (by simpa using h0) _ _ hv
  ·rw [List.length_map] at h1 hv
   by_cases h00:cap = 0
   ·have hx:xs = []:=List.eq_nil_of_length_eq_zero (by omega)
    exact none hx (some ⟨g,0,Option.none⟩) cap (by rw [hv,hx]; rfl)
   have hH:Holds (Value.int .i64) w g 0 xs.toArray:=holds_of_blockI hb (by simpa using h4)
   have hg:g < w.heap.size:=(Array.getElem?_eq_some_iff.1 hb).1
   have hc:=Any.slices_Sort_int Ly g 0 cap xs w hH hg hl
   rw [← hv] at hc
   refine hc.mono fun e' w' ⟨he,n,os,hw⟩=>?_
   have hgr:=grownBy_sortedI (w:=w) (g:=g) (n:=n) (os:=os) (xs.mergeSort fun x y=>decide (x≤y)).toArray
   rw [← hw] at hgr
   refine El he ⟨hgr.os,hgr.tape,hgr.output,hgr.size,fun k hk hm=>hgr.block k hk fun hkg=>?_⟩ (.inl ?_)
   ·refine hm ⟨0,v,_,rfl,rfl,rfl,?_⟩
    rw [hv]
    simp only [Ay,h00,if_false]
    exact hkg.symm
   ·have:=ownsRow_sortedI (w:=w) (base:=0) (g:=g) (cap:=cap) (n:=n) (e:=e) (os:=os) (cur:=cur) (ss:=xs) (ts:=Ex xs) (length_sortI xs) hbase hb h1 h2 h3
    rw [length_sortI,hw,hv]
    exact this
 ·exact none (by simpa using h0) _ _ hv
end Go.Abs
set_option linter.unusedVariables false
set_option linter.unusedSimpArgs false
namespace Go.Abs
open Go.Proofs Go.Shelf Go.Sort
theorem Vo (w:World):grow w #[] = w:=by simp [grow]
theorem TR (xs:List Int):(Lib.compact xs).length≤xs.length:=by
 unfold Lib.compact Lib.compactUpTo
 rw [List.length_map]
 exact Nat.le_trans (List.length_filter_le _ _) (by simp)
theorem aX {P:Program} {ρ:Ren} (Ly:Lays2.n20 P ρ) (hc:E6 P (ρ.f 20) = true) (e:TypeId) (xs:List Int) (hl:xs.length < 4611686018427387904) :
 CZ P (ρ.f 20) [.own 1 e (xs.map (D.int .i64))] [.any] (.own 1 e ((Lib.compact xs).map (D.int .i64))):=by
 refine ⟨hc,rfl,fun O w vs hO _ hlen hMO hinj hargs=>?_⟩
 obtain ⟨v,rfl⟩:∃ v,vs = #[v]:=by
  obtain ⟨l⟩:=vs
  match l,hlen with
  | [v],_=>exact ⟨v,rfl⟩
 obtain ⟨_,_,vals,hrow,hL⟩:=hargs 0 v _ rfl rfl
 rw [I3] at hL
 obtain rfl:=RU hL
 have hmut:∀ b,Ay v = some b→FJ #[v] [.own 1 e (xs.map (D.int .i64))] b:=fun b hb=>⟨0,v,_,rfl,rfl,rfl,hb⟩
 have hnot:∀ b,¬ FJ #[v] [.any] b:=by
  rintro b ⟨i,u,x,h1,h2,h3,_⟩
  match i,h1,h2 with
  | 0,h1,h2=>simp at h2; subst h2; simp [AV.mut] at h3
  | i + 1,h1,h2=>simp at h1
 have El:∀ {w':World} {e':Ending} {u:Value},e' = .returned u→(∀ b,Ay u = some b→Ay v = some b)→Bf w.heap.size (FJ #[v] [.own 1 e (xs.map (D.int .i64))]) w w'→C3 w' e 1 u (Lib.compact xs).length ((Lib.compact xs).map (Value.int .i64)) →
  ∃ u,e' = .returned u∧Bf w.heap.size (FJ #[v] [.own 1 e (xs.map (D.int .i64))]) w w' ∧
  C2 (fun b=>w.heap.size≤b∨(FJ #[v] [.own 1 e (xs.map (D.int .i64))] b∧¬ FJ #[v] [.any] b)) (fun b=>O b∨FJ #[v] [.any] b) w' u (.own 1 e ((Lib.compact xs).map (D.int .i64))) ∧
  ∀ (i:Nat) u' x y,#[v][i]? = some u'→[AV.own 1 e (xs.map (D.int .i64))][i]? = some x→[AV.any][i]? = some y→ND (fun b=>O b∨FJ #[v] [.any] b∨CS u (.own 1 e ((Lib.compact xs).map (D.int .i64))) b) w' u' x y:=by
  intro w' e' u he hbl hb hr
  refine ⟨u,he,hb,⟨by omega,fun x hx=>?_,fun b hb'=>.inr ⟨hmut b (hbl b hb'),hnot b⟩,_,by simpa using hr,by rw [I3]; exact OZ _ _ _⟩,fun i u' x y h1 h2 h3=>?_⟩
  ·obtain ⟨n,_,rfl⟩:=List.mem_map.1 hx
   rfl
  ·match i,h3 with
   | 0,h3=>simp at h3; subst h3; trivial
   | i + 1,h3=>simp at h3
 have none:xs = []→∀ p cap,v = .slice p 0 cap→Calls P (ρ.f 20) #[v] w fun e' w'=>∃ u,e' = .returned u∧Bf w.heap.size (FJ #[v] [.own 1 e (xs.map (D.int .i64))]) w w' ∧
  C2 (fun b=>w.heap.size≤b∨(FJ #[v] [.own 1 e (xs.map (D.int .i64))] b∧¬ FJ #[v] [.any] b)) (fun b=>O b∨FJ #[v] [.any] b) w' u (.own 1 e ((Lib.compact xs).map (D.int .i64))) ∧
  ∀ (i:Nat) u' x y,#[v][i]? = some u'→[AV.own 1 e (xs.map (D.int .i64))][i]? = some x→[AV.any][i]? = some y→ND (fun b=>O b∨FJ #[v] [.any] b∨CS u (.own 1 e ((Lib.compact xs).map (D.int .i64))) b) w' u' x y:=by
  intro h0 p cap hv
  subst h0
  have hc:=Any.slices_Compact_int_empty Ly p cap w
  rw [← hv] at hc
  refine hc.mono fun e' w' ⟨he,hw⟩=>?_
  subst hw
  refine El he (fun _ h=>h) ⟨rfl,rfl,rfl,Nat.le_refl _,fun _ _ _=>rfl⟩ ?_
  simpa [Lib.compact,Lib.compactUpTo] using hrow
 rcases hrow with hrow' | ⟨h0,_,a,hv⟩
 ·rcases hrow'.2 with ⟨hv,h0⟩ | ⟨g,cap,cur,hv,hbase,hb,h1,h2,h3,h4⟩
  ·exact none (by simpa using h0) _ _ hv
  ·rw [List.length_map] at h1 hv
   by_cases h00:cap = 0
   ·have hx:xs = []:=List.eq_nil_of_length_eq_zero (by omega)
    exact none hx (some ⟨g,0,Option.none⟩) cap (by rw [hv,hx]; rfl)
   have hH:Holds (Value.int .i64) w g 0 xs.toArray:=holds_of_blockI hb (by simpa using h4)
   have hc:=Any.slices_Compact_int Ly g 0 cap xs w hH (by omega) h1
   rw [← hv] at hc
   refine hc.mono fun e' w' ⟨he,n,hw⟩=>?_
   have hcl:=TR xs
   generalize hts:Lib.compact xs++List.replicate (xs.length - (Lib.compact xs).length) 0 = ts at hw
   have htl:ts.length = xs.length:=by rw [← hts]; simp; omega
   have hgr:=grownBy_sortedI (w:=w) (g:=g) (n:=n) (os:=#[]) ts.toArray
   rw [Vo,← hw] at hgr
   refine El he (fun b hb'=>?_) ⟨hgr.os,hgr.tape,hgr.output,hgr.size,fun k hk hm=>hgr.block k hk fun hkg=>?_⟩ (.inl ?_)
   ·rw [hv]; simpa [Ay] using hb'
   ·refine hm ⟨0,v,_,rfl,rfl,rfl,?_⟩
    rw [hv]
    simp only [Ay,h00,if_false]
    exact hkg.symm
   ·have ho:=ownsRow_sortedI (w:=w) (base:=0) (g:=g) (cap:=cap) (n:=n) (e:=e) (os:=#[]) (cur:=cur) (ss:=xs) (ts:=ts) htl hbase hb h1 h2 h3
    rw [Vo,← hw] at ho
    refine ⟨by simp,.inr ?_⟩
    rcases ho.2 with ⟨h,_⟩ | ⟨g',cap',cur',hv',hb',hh',hn',hc',hs',ht'⟩
    ·cases h
    cases hv'
    refine ⟨g,cap,cur',rfl,hb',hh',by omega,hc',hs',?_⟩
    have:cur'.toList.take ((Lib.compact xs).length * 1) = (cur'.toList.take (xs.length * 1)).take ((Lib.compact xs).length * 1):=by
     rw [List.take_take,Nat.min_eq_left (by omega)]
    rw [this,ht',← hts]
    simp
 ·exact none (by simpa using h0) _ _ hv
end Go.Abs
set_option linter.unusedVariables false
set_option linter.unusedSimpArgs false
namespace Go.Abs
open Go Go.Proofs Go.Lib Go.Sort
open Go.RowKit (Below)
structure DW (w:World) (g cap n:Nat) (T:TypeId) (wr:World) (dk:Array Int):Prop where
 below:Bf w.heap.size (fun b=>b = g) w wr
 size:dk.size = n
 cells:∃ cur,wr.heap[g]? = some (.cells cur T (0,0))∧cur.size = cap * 1∧cur.toList.take n = dk.toList.map (Value.int .i64)
theorem DW.holds {w wr:World} {g cap n:Nat} {T:TypeId} {dk:Array Int} (h:DW w g cap n T wr dk):Holds (Value.int .i64) wr g 0 dk:=by
 obtain ⟨cur,h1,_,h3⟩:=h.cells
 have:=holds_of_blockI (ss:=dk.toList) h1 (by rw [show dk.toList.length = n from by simpa using h.size]; exact h3)
 rwa [Array.toArray_toList] at this
theorem DW.lt {w wr:World} {g cap n:Nat} {T:TypeId} {dk:Array Int} (h:DW w g cap n T wr dk):g < wr.heap.size:=by
 obtain ⟨cur,h1,_,_⟩:=h.cells
 exact (Array.getElem?_eq_some_iff.1 h1).1
theorem DW.call {w wr w':World} {g cap n:Nat} {T:TypeId} {dk:Array Int} (h:DW w g cap n T wr dk) (hb:Below wr.heap.size wr w'):DW w g cap n T w' dk:=by
 refine ⟨h.below.trans ((Bf.of hb).weaken h.below.size fun _ _ hk=>hk),h.size,?_⟩
 obtain ⟨cur,h1,h2,h3⟩:=h.cells
 exact ⟨cur,by rw [hb.block g h.lt]; exact h1,h2,h3⟩
theorem DW.store {w wr:World} {g cap n:Nat} {T:TypeId} {dk:Array Int} (h:DW w g cap n T wr dk) {i:Nat} (hi:i < n) (hn:n≤cap) (u:Int):DW w g cap n T (wr.setCell ⟨g,i,none⟩ (.int .i64 u)) (dk.setIfInBounds i u):=by
 obtain ⟨cur,h1,h2,h3⟩:=h.cells
 have hg:=h.lt
 refine ⟨⟨h.below.os,h.below.tape,h.below.output,by show w.heap.size≤(Array.modify _ _ _).size; rw [Array.size_modify]; exact h.below.size,fun k hk hm=>?_⟩,by simp [h.size],cur.setIfInBounds i (.int .i64 u),?_,by simp [h2],?_⟩
 ·show (Array.modify _ _ _)[k]? = _
  rw [Array.getElem?_modify,if_neg (fun e=>hm e.symm)]
  exact h.below.block k hk hm
 ·show (Array.modify _ _ _)[g]? = _
  rw [Array.getElem?_modify,if_pos rfl,h1]
  rfl
 ·rw [Array.toList_setIfInBounds,Array.toList_setIfInBounds,List.map_set,← h3,List.take_set]
theorem DW.clear {w:World} {g cap n:Nat} {T:TypeId} (hn:n≤cap):∀ (zs:List Int) {wr:World} {dk:Array Int} (k:Nat),DW w g cap n T wr dk→k + zs.length≤n→DW w g cap n T (wr.setCells g k (zs.map (Value.int .i64))) (lay dk k zs)
 | [],_,_,_,h,_=>h
 | z :: r,wr,dk,k,h,hk=>by
   simp only [List.length_cons] at hk
   exact DW.clear hn r (k + 1) (h.store (by omega) hn z) (by omega)
theorem DW.row {w wr:World} {g cap n:Nat} {T:TypeId} {dk:Array Int} (h:DW w g cap n T wr dk) {R:List Int} (hR:R.length≤n) (hd:dk.toList.take R.length = R) (hn:n≤cap) (hcap:cap≤maxLen):C3 wr T 1 (.slice (some ⟨g,0,none⟩) R.length cap) R.length (R.map (Value.int .i64)):=by
 obtain ⟨cur,h1,h2,h3⟩:=h.cells
 refine .inl ⟨by simp,.inr ⟨g,cap,cur,rfl,Nat.zero_le _,h1,by omega,hcap,h2,?_⟩⟩
 have e:cur.toList.take (R.length * 1) = (cur.toList.take n).take R.length:=by rw [List.take_take,Nat.min_eq_left hR,Nat.mul_one]
 rw [e,h3,← List.map_take,hd]
end Go.Abs
set_option linter.unusedVariables false
set_option linter.unusedSimpArgs false
namespace Go.Abs
open Go.ChangeShapes Go.WideShapes
theorem aO {H:Type} {enc:TypeId × Value→H} {P:Program} {W:World} {base:Nat} {spare:Nat→Bool} {held:Bool} {t e:TypeId} {k:IntKind} {v:Value} {d:DataW H} {p:List MemPlace}
 (ht:P.underlying t = some (.slice e)) (he:P.underlying e = some (.int k)) (hc:P.cellsOf e = 1) (hv:∃ a n c,v = .slice a n c) (h:DataW.Trod enc P W base spare held t v d p) :
 ∃ xs:List Int,AB (fun _=>False) W v (.list 1 (xs.map (D.int k)))∧xs.length≤maxLen∧∀ n∈xs,(Lit.int k n).wf = true:=by
 obtain ⟨fuel,hf⟩:=h
 obtain ⟨a0,n0,c0,rfl⟩:=hv
 rcases open_ints ht he hc hf with ⟨hcs,_⟩ | ⟨x,l,c,zs,hcs,_,hl,hm,hz,_,hcell,hwz⟩
 ·simp [Value.cells] at hcs
  obtain ⟨rfl,rfl,rfl⟩:=hcs
  exact ⟨[],.emp _ _ _,by simp [maxLen],fun n hn=>by simp at hn⟩
 ·simp [Value.cells] at hcs
  obtain ⟨rfl,rfl,rfl⟩:=hcs
  have hln:n0≤zs.length:=by rw [hz]; split <;> omega
  refine ⟨zs.take n0,?_,by simp; omega,fun n hn=>hwz n (List.mem_of_mem_take hn)⟩
  have hlen:(zs.take n0).length = n0:=by simp; omega
  by_cases h0:n0 = 0
  ·subst h0; exact .emp _ _ _
  ·obtain ⟨b,off,spot⟩:=x
   have hc0:=hcell 0 (by omega)
   have hspot:spot = none:=by simpa [Addr.add] using World.cell?_spot hc0
   subst hspot
   have hb:b < W.heap.size:=by
    rcases Nat.lt_or_ge b W.heap.size with h | h
    ·exact h
    ·simp [World.cell?,Addr.add,Array.getElem?_eq_none h] at hc0
   have hlm:((zs.take n0).map (D.int k)).length = n0:=by rw [List.length_map,hlen]
   have hget:∀ (i:Nat) (y:D),((zs.take n0).map (D.int k))[i]? = some y→i < n0∧y = .int k (zs.getD i 0):=by
    intro i y hy
    simp only [List.getElem?_map,List.getElem?_take] at hy
    split at hy
    ·rename_i hi
     refine ⟨hi,?_⟩
     have hi':i < zs.length:=by omega
     simp [List.getElem?_eq_getElem hi'] at hy
     simp [List.getD,List.getElem?_eq_getElem hi',hy]
    ·simp at hy
   have key:=AB.list (O:=fun _=>False) (w:=W) b off c0 1 ((zs.take n0).map (D.int k)) (fun i _=>.int k (zs.getD i 0)) (by intro h; rw [← List.length_eq_zero_iff,hlm] at h; exact h0 h) hb (fun h=>h) (by rw [hlm]; exact hl)
    (fun y hy=>by obtain ⟨m,_,rfl⟩:=List.mem_map.1 hy; rfl) (fun y hy z hz=>by obtain ⟨m,_,rfl⟩:=List.mem_map.1 hy; simp [D.cells] at hz; subst hz; rfl)
    (fun i y j z hy hz=>by
     obtain ⟨hi,rfl⟩:=hget i y hy
     have hj:j = 0:=by cases j with | zero=>rfl | succ j=>simp [D.cells] at hz
     subst hj
     have:=hcell i (by omega)
     rw [FK] at this
     simpa using this)
    (fun i y j z hy hz=>by
     obtain ⟨hi,rfl⟩:=hget i y hy
     have hj:j = 0:=by cases j with | zero=>rfl | succ j=>simp [D.cells] at hz
     subst hj
     simp [D.cells] at hz
     subst hz
     exact .int _ _)
   rw [hlm] at key
   exact key
end Go.Abs
