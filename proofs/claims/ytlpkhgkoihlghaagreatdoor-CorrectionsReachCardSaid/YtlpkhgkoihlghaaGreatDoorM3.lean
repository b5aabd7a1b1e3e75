/- M3 -/
import Derived.Test.YtlpkhgkoihlghaaGreatDoorM2
import Derived.Tactics
import Derived.Shelf.Sort.Plain
import Derived.Shelf.Slices.In.SortNone
import Derived.Sort.OwnSortedInts
import Derived.Shelf.Spec.SlicesInsertGrow
import Derived.Shelf.Slices.CompactI
import Derived.ChangeSlices
import Derived.OpenShut
set_option linter.unusedVariables false
set_option linter.unusedSimpArgs false
namespace Go.Abs
open Go.RowKit (Below)
section
variable {P:Program} {X:Cx} {G:Nat→Prop} {β:Nat→Value} {S:AS} {a:Act} {w:World} {o:Oper}
theorem Xk {α:Type} {x:Array α} {p:α} (h:x.toList = [p]):x = #[p]:=by cases x; simp_all
theorem J2 {α:Type} {x:Array α} {p q:α} (h:x.toList = [p,q]):x = #[p,q]:=by cases x; simp_all
theorem AK {K:F3→Prop} (h:∃ e,K e∧Cw P X G S a w o e):∃ e,K e∧(Fp S e.homes = true→Cw P X G S a w o e):=by
 obtain ⟨e,h1,h2⟩:=h
 exact ⟨e,h1,fun _=>h2⟩
set_option maxHeartbeats 2000000 in
theorem db (h:AE X G β S a w) {g:Option (Nat × Bool)} (hg:BB g a) {d:Nat} (hd:d < S.length) {K:F3→Prop} (hy:yA P (σOf S) (ρOf S) g o d (Av S d).ver K) :
 ∃ e,K e∧(Fp S e.homes = true→Cw P X G S a w o e):=by
 unfold yA at hy
 split at hy
 ·rename_i x ho
  exact AK ⟨_,hy,W3 h hg (.inl ho)⟩
 ·rename_i x ho
  split at hy
  ·rename_i hn
   split at hy
   ·rename_i e _
    obtain ⟨h1,hy⟩:=Au hy
    exact AK ⟨_,hy,cd h hd ho hn h1⟩
   ·exact hy.elim
  ·exact AK ⟨_,hy,W3 h hg (.inr ho)⟩
 ·rename_i t x y ho
  split at hy
  ·rename_i hc; have h1:=ρ_sound h hg (.tmp t); rw [hc] at h1; exact h1.elim
  ·rename_i c hc
   split at hy
   ·rename_i h1
    split at hy
    ·rename_i b2 h2
     exact AK ⟨_,hy,Z2 h hg ho hc h1 h2⟩
    ·exact hy.elim
   ·rename_i b1 h1
    split at hy
    ·rename_i h2
     exact AK ⟨_,hy,Z3 h hg ho hc h1 h2⟩
    ·rename_i b2 h2
     exact AK ⟨_,hy,aY h hg ho hc h1 h2⟩
    ·exact hy.elim
   ·exact hy.elim
  ·exact hy.elim
 ·rename_i T x ho
  exact AK (bX h hg hd ho hy)
 ·rename_i T ho
  split at hy
  ·rename_i l hl
   exact AK (Zx h hd ho hl hy)
  ·exact hy.elim
 ·rename_i t BX ho
  split at hy
  ·rename_i fields hu
   split at hy
   ·rename_i zd hzd
    obtain ⟨hall,hy⟩:=Au hy
    split at hy
    ·exact AK (UD h hg ho hu hzd hall hy)
    ·rcases hy.go with hy | hy
     ·exact AK (UD h hg ho hu hzd hall hy)
     ·exact AK (Yq h hg ho hu hzd hall hy)
   ·exact hy.elim
  ·exact hy.elim
 ·rename_i t n BX ho
  split at hy
  ·rename_i e hu
   exact AK (TX h hg hd ho hu hy)
  ·exact hy.elim
 ·rename_i t x y ho
  split at hy
  ·rename_i e hu
   split at hy
   ·rename_i k l hl
    split at hy
    ·rename_i k' c hc
     obtain ⟨⟨h1,h2⟩,hy⟩:=Au hy
     exact AK (aX h hg hd ho hu h1 h2 hl hc hy)
    ·exact hy.elim
   ·exact hy.elim
  ·exact hy.elim
 ·rename_i f first caps ho
  split at hy
  ·rename_i hf
   split at hy
   ·exact AK (W2 h hg ho hf hy)
   ·rcases hy.go with hy | hy
    ·exact AK (W2 h hg ho hf hy)
    ·exact AK (Z0 h hg ho hf hy)
  ·exact hy.elim
 ·rename_i t x ho
  have hr:=ρ_sound h hg x
  split at hy
  ·rename_i hx; rw [hx] at hr; exact hr.elim
  ·rename_i id n off cs hx
   rw [hx] at hr
   exact AK (Yt h ho hr hy)
  ·rename_i cs hx
   rw [hx] at hr
   exact AK (Yr h ho hr hy)
  ·rename_i id n sz e xs i off hx
   rw [hx] at hr
   exact AK (Ys h ho hr hy)
  ·exact hy.elim
 ·rename_i t p x ho
  obtain ⟨hi,hy⟩:=Au hy
  obtain ⟨i,hi⟩:=Option.isSome_iff_exists.1 hi
  have hr:=ρ_sound h hg p
  split at hy
  ·rename_i id n off cs hx
   rw [hx] at hr
   exact AK (Xw h hg ho hr hi hy)
  ·rename_i id n sz e xs k off hx
   rw [hx] at hr
   exact AK (Xv h hg ho hr hi hy)
  ·exact hy.elim
 ·rename_i x ho
  have hr:=ρ_sound h hg x
  split at hy
  ·rename_i id n off cs hx
   rw [hx] at hr
   have hb:=Lc (tm:=a.tmps) hr
   obtain ⟨_,_,b,_,hv⟩:=hr
   exact AK ⟨_,hy,J6 h ho (.inl ⟨_,hv⟩) hb.1 hb.2⟩
  ·rename_i cs hx
   rw [hx] at hr
   have hb:=Lc (tm:=a.tmps) hr
   obtain ⟨b,off,hv,_⟩:=Vs hr
   exact AK ⟨_,hy,J6 h ho (.inl ⟨_,hv⟩) hb.1 hb.2⟩
  ·rename_i f cs hx
   rw [hx] at hr
   have hb:=Lc (tm:=a.tmps) hr
   obtain ⟨vs,hv,_⟩:=aI hr
   exact AK ⟨_,hy,J6 h ho (.inr ⟨f,vs,hv⟩) hb.1 hb.2⟩
  ·rename_i id n sz e xs i off hx
   rw [hx] at hr
   have hb:=Lc (tm:=a.tmps) hr
   obtain ⟨_,_,b,m,cap,_,hv⟩:=hr
   exact AK ⟨_,hy,J6 h ho (.inl ⟨_,hv⟩) hb.1 hb.2⟩
  ·exact hy.elim
 ·rename_i op t x y U ho
  have hrx:=ρ_sound h hg x
  have hry:=ρ_sound h hg y
  split at hy
  ·rename_i hp; rw [hp] at hrx; exact hrx.elim
  ·rename_i p hp
   rw [hp] at hrx
   split at hy
   ·rename_i hq; rw [hq] at hry; exact hry.elim
   ·rename_i q hq
    rw [hq] at hry
    exact AK (Zy h ho hrx hry hy)
   ·exact hy.elim
  ·exact hy.elim
 ·rename_i op t x ho
  have hrx:=ρ_sound h hg x
  split at hy
  ·rename_i hp; rw [hp] at hrx; exact hrx.elim
  ·rename_i p hp
   rw [hp] at hrx
   exact AK (aZ h ho hrx hy)
  ·exact hy.elim
 ·rename_i s t x ho
  have hrx:=ρ_sound h hg x
  split at hy
  ·rename_i ds hs
   split at hy
   ·rename_i k ht
    split at hy
    ·rename_i hx; rw [hx] at hrx; exact hrx.elim
    ·rename_i k' n hx
     rw [hx] at hrx
     exact AK ⟨_,hy,Xp h ho ht ⟨_,hs⟩ hrx⟩
    ·exact hy.elim
   ·rename_i ht
    split at hy
    ·rename_i hx; rw [hx] at hrx; exact hrx.elim
    ·rename_i b hx
     rw [hx] at hrx
     exact AK ⟨_,hy,Xq h ho ht ⟨_,hs⟩ hrx⟩
    ·exact hy.elim
   ·rename_i e ht
    split at hy <;> try exact hy.elim
    rename_i he
    split at hy
    ·rename_i hx; rw [hx] at hrx; exact hrx.elim
    ·rename_i b hx
     rw [hx] at hrx
     exact AK ⟨_,hy,UE h ho ht he ⟨_,hs⟩ hrx⟩
    ·exact hy.elim
   ·exact hy.elim
  ·exact hy.elim
 ·rename_i s x f ho
  split at hy
  ·rename_i fields hu
   split at hy
   ·rename_i fd hf
    obtain ⟨hz,hy⟩:=Au hy
    exact AK (UF h hg ho hu hf hz hy)
   ·exact hy.elim
  ·exact hy.elim
 ·rename_i s x f ho
  have hrx:=ρ_sound h hg x
  split at hy
  ·rename_i fields hu
   split at hy
   ·rename_i fd hf
    split at hy
    ·rename_i hx; rw [hx] at hrx; exact hrx.elim
    ·rename_i cs hx
     rw [hx] at hrx
     exact AK (Zz h ho hu hf hrx hy)
    ·exact hy.elim
   ·exact hy.elim
  ·exact hy.elim
 ·rename_i t x ix ho
  have hrx:=ρ_sound h hg x
  have hri:=ρ_sound h hg ix
  split at hy
  ·rename_i e hu
   split at hy
   ·rename_i k i hi
    rw [hi] at hri
    split at hy
    ·rename_i sz xs hx
     rw [hx] at hrx
     obtain ⟨⟨hs,hs0⟩,hy⟩:=Au hy
     exact AK (RS h ho hu hs hs0 hri hrx hy)
    ·rename_i sz xs hx
     rw [hx] at hrx
     obtain ⟨⟨hs,hs0⟩,hy⟩:=Au hy
     exact AK (RS h ho hu hs hs0 hri hrx.1 hy)
    ·rename_i id n sz e' xs hx
     rw [hx] at hrx
     obtain ⟨hs,hy⟩:=Au hy
     obtain ⟨⟨h0,h1⟩,hy⟩:=hy
     exact AK ⟨_,hy,UI h ho hu hri hs hrx h0 h1⟩
    ·exact hy.elim
   ·exact hy.elim
  ·rename_i n e hu
   split at hy
   ·rename_i k i hi
    rw [hi] at hri
    split at hy
    ·rename_i cs hx
     rw [hx] at hrx
     obtain ⟨hs,hy⟩:=Au hy
     obtain ⟨hn,hy⟩:=hy
     exact AK (UH h ho hu hs hri hrx hn hy)
    ·rename_i id m off cs hx
     rw [hx] at hrx
     obtain ⟨hs,hy⟩:=Au hy
     obtain ⟨⟨h0,hn⟩,hy⟩:=hy
     exact AK ⟨_,hy,TY h ho hu hs hri hrx h0 hn⟩
    ·exact hy.elim
   ·exact hy.elim
  ·exact hy.elim
 ·rename_i t x ix ho
  have hrx:=ρ_sound h hg x
  have hri:=ρ_sound h hg ix
  split at hy
  ·rename_i n e hu
   split at hy
   ·rename_i k i hi
    rw [hi] at hri
    split at hy
    ·rename_i cs hx
     rw [hx] at hrx
     obtain ⟨hs,hy⟩:=Au hy
     obtain ⟨⟨h0,hn⟩,hy⟩:=hy
     exact AK (UG h ho hu hri hrx hs h0 hn hy)
    ·exact hy.elim
   ·exact hy.elim
  ·rename_i hu
   split at hy
   ·rename_i k i hi
    rw [hi] at hri
    split at hy
    ·rename_i b hx
     rw [hx] at hrx
     obtain ⟨⟨h0,h1⟩,hy⟩:=hy
     exact AK ⟨_,hy,Xr h ho hu hri hrx h0 h1⟩
    ·exact hy.elim
   ·exact hy.elim
  ·exact hy.elim
 ·rename_i t x lo hi mx ho
  have hrx:=ρ_sound h hg x
  split at hy
  ·rename_i hu
   cases mx with
   | some m=>exact hy.elim
   | none =>
     simp only at hy
     split at hy
     ·rename_i b hx
      rw [hx] at hrx
      obtain ⟨l,hy,hl⟩:=Nl h hg hy
      obtain ⟨r,hy,hr⟩:=Nl h hg hy
      obtain ⟨⟨h0,h1,h2⟩,hy⟩:=hy
      exact AK ⟨_,hy,Xu h ho hu hrx hl hr h0 h1 h2⟩
     ·exact hy.elim
  ·rename_i e hu
   split at hy
   ·rename_i sz xs hx
    rw [hx] at hrx
    obtain ⟨⟨hs,hs0⟩,hy⟩:=Au hy
    exact AK (K4 h hg ho hu hs hs0 (bx:=[]) trivial hrx hy)
   ·rename_i sz hx
    rw [hx] at hrx
    obtain ⟨⟨hs,hs0⟩,hy⟩:=Au hy
    exact AK (K4 h hg ho hu hs hs0 (bx:=[]) (xs:=[]) trivial (AB.norm hrx) hy)
   ·rename_i sz xs hx
    rw [hx] at hrx
    obtain ⟨⟨hs,hs0⟩,hy⟩:=Au hy
    exact AK (K4 h hg ho hu hs hs0 (bx:=[]) trivial hrx.1 hy)
   ·rename_i id n sz e' xs hx
    rw [hx] at hrx
    obtain ⟨⟨hs,hs0⟩,hy⟩:=Au hy
    rcases hy.go with hy | hy
    ·obtain ⟨y,b,hK,hF,_,hh⟩:=HO (x:=X) (G:=G) (a:=a) (K:=fun y b=>y = .list sz xs∧b = [(id,BJ.frow sz xs,n)]) hrx ⟨rfl,rfl⟩
     obtain ⟨rfl,rfl⟩:=hK
     exact AK (K4 h hg ho hu hs hs0 hF (hh.now h hF) hy)
    ·cases lo with
     | some q=>exact hy.elim
     | none =>
       cases mx with
       | some q=>exact hy.elim
       | none =>
         simp only at hy
         obtain ⟨r,hy,hr⟩:=Nl h hg hy
         obtain ⟨⟨h0,h2⟩,hy⟩:=hy
         exact AK ⟨_,hy,bY h ho hu hs hs0 hrx hr h0 h2⟩
   ·exact hy.elim
  ·exact hy.elim
 ·rename_i c ho
  split at hy
  ·rename_i fo hc
   split at hy
   ·rename_i f caps hf
    split at hy
    ·exact W0 h hg hd ho hc hf hy
    ·rename_i k id n cl hfd
     rcases hy.go with hy | hy
     ·split at hy <;> try exact hy.elim
      exact AK (Z1 h hg ho hc hf hfd hy)
     ·exact W0 h hg hd ho hc hf hy
   ·rename_i f cs k id n rid rn hf
    split at hy <;> try exact hy.elim
    rename_i hr
    exact AK (Z4 h hg ho hc hf hr hy)
   ·exact hy.elim
  ·rename_i hc
   split at hy
   ·rename_i x t hx ht
    have hce:c = ⟨.builtin .len,#[x],#[t]⟩:=by
     obtain ⟨callee,args,ts⟩:=c
     simp only at hc hx ht
     rw [hc,Xk hx,Xk ht]
    rw [hce] at ho
    have hrx:=ρ_sound h hg x
    split at hy
    ·rename_i hu
     split at hy
     ·rename_i hs; rw [hs] at hrx; exact hrx.elim
     ·rename_i s hs
      rw [hs] at hrx
      exact AK ⟨_,hy,aW h ho (IU hrx) hu⟩
     ·exact hy.elim
    ·rename_i e hu
     split at hy
     ·rename_i hs; rw [hs] at hrx; exact hrx.elim
     ·obtain ⟨sz,ys,hK,ad,c',hv,_⟩:=Qb h hrx hy
      exact AK ⟨_,hK,bZ h ho ⟨ad,c',hv⟩ hu⟩
    ·exact hy.elim
   ·exact hy.elim
  ·rename_i hc
   split at hy
   ·rename_i x y hx
    have hce:c = ⟨.builtin .min,#[x,y],c.argTypes⟩:=by
     obtain ⟨callee,args,ts⟩:=c
     simp only at hc hx
     rw [hc,J2 hx]
    rw [hce] at ho
    split at hy
    ·rename_i k m hm
     have hrx:=ρ_sound h hg x
     rw [hm] at hrx
     split at hy
     ·rename_i k' n hn
      have hry:=ρ_sound h hg y
      rw [hn] at hry
      exact AK ⟨_,hy,(T6 h ho hrx hry).1 rfl⟩
     ·exact hy.elim
    ·exact hy.elim
   ·exact hy.elim
  ·rename_i hc
   split at hy
   ·rename_i x y hx
    have hce:c = ⟨.builtin .max,#[x,y],c.argTypes⟩:=by
     obtain ⟨callee,args,ts⟩:=c
     simp only at hc hx
     rw [hc,J2 hx]
    rw [hce] at ho
    split at hy
    ·rename_i k m hm
     have hrx:=ρ_sound h hg x
     rw [hm] at hrx
     split at hy
     ·rename_i k' n hn
      have hry:=ρ_sound h hg y
      rw [hn] at hry
      exact AK ⟨_,hy,(T6 h ho hrx hry).2 rfl⟩
     ·exact hy.elim
    ·exact hy.elim
   ·exact hy.elim
  ·rename_i hc
   split at hy
   ·rename_i x y t u hx ht
    have hce:t = u→c = ⟨.builtin .append,#[x,y],#[t,t]⟩:=by
     intro e
     subst e
     obtain ⟨callee,args,ts⟩:=c
     simp only at hc hx ht
     rw [hc,J2 hx,J2 ht]
    split at hy
    ·rename_i e hu
     obtain ⟨⟨htu,hs0,hz⟩,hy⟩:=Au hy
     rw [hce htu] at ho
     obtain ⟨sz',ys,hK,ad,c',hv,hys⟩:=Qb h (ρ_sound h hg y) hy
     have hrx:=ρ_sound h hg x
     split at hK
     ·rename_i id n sz e' xs hxr
      obtain ⟨⟨he,hsz⟩,hK2⟩:=Au hK
      subst he
      rw [hxr] at hrx
      obtain ⟨⟨h1,h2,h3⟩,hK3⟩:=hK2
      exact AK ⟨_,hK3,Yp h ho hu hrx hsz hz hv hys h1 h2 (by rw [hsz]; exact h3)⟩
     ·rename_i s hxr
      rw [hxr] at hrx
      have hrx:AB (OS β X S) w (a.eval x) (.nil s):=hrx
      obtain ⟨⟨h1,h2,h3⟩,hK3⟩:=hK
      have hx0:∃ ad0,a.eval x = .slice ad0 0 0:=by
       generalize a.eval x = v at hrx
       cases hrx
       exact ⟨_,rfl⟩
      obtain ⟨ad0,hx0⟩:=hx0
      exact AK ⟨_,hK3,Od h hd ho hu (xs:=[]) rfl hs0 hz hv hys (by simpa using h1) (by simpa using h2) h3 (.inl ⟨ad0,hx0,rfl⟩)⟩
     ·rename_i sz xs hxr
      obtain ⟨hsz,hK2⟩:=Au hK
      rw [hxr] at hrx
      obtain ⟨⟨⟨h1,h2,h3⟩,h4⟩,hK3⟩:=hK2
      exact AK ⟨_,hK3,Od h hd ho hu hsz (by rw [hsz]; exact hs0) hz hv hys h1 h2 (by rw [hsz]; exact h3) (.inr ⟨hrx.1,hrx.2,h4⟩)⟩
     ·exact hK.elim
    ·exact hy.elim
   ·exact hy.elim
  ·exact hy.elim
 ·rename_i t i ho
  have hrx:=ρ_sound h hg t
  split at hy
  ·rename_i xs hx
   rw [hx] at hrx
   split at hy
   ·rename_i y hyy
    exact AK ⟨_,hy,(RQ h ho hrx hyy).1 _ rfl⟩
   ·rename_i id n hyy
    exact AK ⟨_,hy,(RQ h ho hrx hyy).2 _ _ rfl⟩
   ·exact hy.elim
  ·exact hy.elim
 ·rename_i t ho
  split at hy
  ·exact AK ⟨_,hy,Xs h hd ho⟩
  ·exact hy.elim
 ·rename_i t x ix ok ho
  split at hy
  ·rename_i kt et hu
   unfold aB at hy
   split at hy <;> try exact hy.elim
   rename_i id n es hx
   split at hy <;> try exact hy.elim
   rename_i q hq
   split at hy <;> try exact hy.elim
   rename_i kd hkq
   obtain ⟨⟨hku,hkk⟩,hy⟩:=hy
   split at hy <;> try exact hy.elim
   rename_i z hz
   obtain ⟨v,b,rfl,rfl,hy⟩:=hy.go
   have hd':=Yu h hg ho hu hx hq hkq hku hkk hz
   cases ok
   ·exact AK ⟨_,hy,by simpa using hd'⟩
   ·exact AK ⟨_,hy,by simpa using hd'⟩
  ·exact hy.elim
 ·rename_i t m k x ho
  split at hy
  ·rename_i kt et hu
   unfold dJ at hy
   split at hy <;> try exact hy.elim
   rename_i id n es hm
   split at hy <;> try exact hy.elim
   rename_i q hq
   split at hy <;> try exact hy.elim
   rename_i y hyy
   split at hy <;> try exact hy.elim
   rename_i kd hkq
   obtain ⟨⟨hb,hku,hkk⟩,hy⟩:=hy
   exact AK ⟨_,hy,Yv h hg ho hu hm hq hyy hb hkq hku hkk⟩
  ·exact hy.elim
 ·exact hy.elim
theorem ZJ {t:TypeId} {cs:List D} {K:D→Prop} (hy:YC P t cs K):∃ x,K x:=by
 unfold YC at hy
 split at hy
 ·split at hy
  ·rw [B5] at hy
   exact ⟨_,(Au hy).2⟩
  ·exact hy.elim
 ·split at hy
  ·exact ⟨_,hy⟩
  ·exact hy.elim
 ·exact hy.elim
theorem bQ {op:BinOp} {k:IntKind} {m n:Int} {K:D→Prop} (hy:Tz op k m n K):∃ x,K x:=by
 cases op <;> simp only [Tz] at hy <;> first | exact hy.elim | exact ⟨_,hy⟩ | exact ⟨_,hy.2⟩
theorem dI {op:BinOp} {x y:ByteArray} {K:D→Prop} (hy:ZX op x y K):∃ x,K x:=by
 cases op <;> simp only [ZX] at hy <;> first | exact hy.elim | exact ⟨_,hy⟩ | exact ⟨_,hy.2⟩
theorem ci:∀ (n:Nat) {t:TypeId} {xs ys:List D} {K:Bool→Prop},Yw P n t xs ys K→∃ b,K b
 | 0,_,_,_,_,h=>h.elim
 | n + 1,t,xs,ys,K,h=>by
   unfold Yw at h
   split at h
   ·split at h
    ·exact ⟨_,(Au h).2⟩
    ·exact h.elim
   ·split at h
    ·exact ⟨_,h⟩
    ·exact h.elim
   ·split at h
    ·exact ⟨_,h⟩
    ·exact h.elim
   ·obtain ⟨_,h⟩:=h
    ·have key:∀ (l:List Field) (K:Bool→Prop),List.rec (motive:=fun _=>(Bool→Prop)→Prop) (fun K=>K true)
      (fun f _ ih K=>Yw P n f.type ((xs.drop f.offset).take (AF P f.type)) ((ys.drop f.offset).take (AF P f.type)) fun a=>ih fun b=>K (a && b)) l K→∃ b,K b:=by
      intro l
      induction l with
      | nil=>intro K h; exact ⟨_,h⟩
      | cons f r ih =>
        intro K h
        obtain ⟨a,ha⟩:=ci n h
        obtain ⟨b,hb⟩:=ih _ ha
        exact ⟨_,hb⟩
     exact key _ _ h
   ·exact h.elim
theorem dj {t:TypeId} {op:BinOp} {x y:D} {K:D→Prop} (hy:Yh P t op x y K):∃ x,K x:=by
 cases x <;> cases y <;> simp only [Yh] at hy
 case bool.bool =>
  split at hy
  ·cases op <;> first | exact hy.elim | exact ⟨_,hy⟩
  ·exact hy.elim
 case int.int k m k' n =>
  have sh:op = .shl∨op = .shr∨(op≠.shl∧op≠.shr):=by cases op <;> simp
  rcases sh with rfl | rfl | ⟨hs1,hs2⟩
  ·exact ⟨_,hy.2⟩
  ·exact ⟨_,hy.2⟩
  ·have hb':if k = k' then Tz op k m n K else False:=by cases op <;> first | exact hy | exact absurd rfl hs1 | exact absurd rfl hs2
   exact bQ (Au hb').2
 case str.str=>exact dI hy
 case agg.agg =>
  obtain ⟨_,hy⟩:=hy
  cases op <;> first | exact hy.elim | (obtain ⟨b,hb⟩:=ci 12 hy; exact ⟨_,hb⟩)
theorem eU {op:UnOp} {x:D} {K:D→Prop} (hy:eT op x K):∃ x,K x:=by
 cases op <;> cases x <;> simp only [eT] at hy <;> exact ⟨_,hy⟩
theorem bq {r:RV} {K:Nat→List D→Prop} (hy:M8 r K):∃ n xs,K n xs:=by
 cases r <;> simp only [M8] at hy
 case d x=>cases x <;> simp only at hy <;> exact ⟨_,_,hy⟩
 case lim=>exact ⟨_,_,hy⟩
 case row=>exact ⟨_,_,hy⟩
theorem ew {r:RV} {K:D→Bx→Prop} (hy:Wt r K):∃ x b,K x b:=by
 cases r <;> simp only [Wt] at hy <;> exact ⟨_,_,hy⟩
theorem PN {σ:Nat→Nat→RV}:∀ {cs:List C} {K:List D→Bx→Prop},CB σ cs K→∃ l b,K l b
 | [],K,h=>⟨_,_,h⟩
 | .d x :: r,K,h=>by
   have h:CB σ r fun l b=>K (x :: l) b:=h
   obtain ⟨l,b,h⟩:=PN h
   exact ⟨_,_,h⟩
 | .sl id n :: r,K,h=>by
   have h:Wt (σ id n) fun x b=>CB σ r fun l b'=>K (x :: l) (b++b'):=h
   obtain ⟨x,b,h⟩:=ew h
   obtain ⟨l,b',h⟩:=PN h
   exact ⟨_,_,h⟩
 | .own _ _ _ :: r,K,h=>h.elim
theorem eE {σ:Nat→Nat→RV} {t:TypeId} {cs:List C} {K:F3→Prop} (hy:dh P σ t cs K):∃ e,K e∧e.av.guards = []:=by
 unfold dh at hy
 split at hy
 ·split at hy
  ·rw [B5] at hy
   have hy:=(Au hy).2
   split at hy
   ·obtain ⟨l,b,h⟩:=PN hy
    exact ⟨_,h,rfl⟩
   ·rcases hy.go with hy | hy
    ·obtain ⟨l,b,h⟩:=PN hy
     exact ⟨_,h,rfl⟩
    ·exact ⟨_,(Au hy).2,rfl⟩
  ·exact hy.elim
 ·split at hy
  ·exact ⟨_,hy,rfl⟩
  ·exact ⟨_,hy,rfl⟩
  ·exact hy.elim
 ·exact hy.elim
theorem Yg (r:RV):(back r).guards = []:=by cases r <;> rfl
theorem Zg {σ:Nat→Nat→RV} {ρ:Option (Nat × Bool)→Operand→RV} {g:Option (Nat × Bool)} {d n:Nat} {K:F3→Prop} (hh:JY o.op = true) (hy:yA P σ ρ g o d n K):∃ e,K e∧e.av.guards = []:=by
 unfold yA at hy
 split at hy
 all_goals (rename_i ho; try (rw [ho] at hh; simp [JY] at hh; done))
 ·exact ⟨_,hy,Yg _⟩
 ·split at hy
  ·exact ⟨_,hy,rfl⟩
  ·split at hy
   ·split at hy
    ·exact ⟨_,hy,rfl⟩
    ·exact hy.elim
   ·split at hy
    ·exact ⟨_,hy,rfl⟩
    ·exact ⟨_,hy,rfl⟩
    ·exact hy.elim
   ·exact hy.elim
  ·exact hy.elim
 ·split at hy
  ·exact ⟨_,hy,rfl⟩
  ·exact eE hy
  ·obtain ⟨x,hx⟩:=ZJ hy; exact ⟨_,hx,rfl⟩
  ·obtain ⟨_,y,_,hy⟩:=hy.go
   obtain ⟨x,hx⟩:=ZJ hy; exact ⟨_,hx,rfl⟩
  ·exact hy.elim
 ·split at hy
  ·exact ⟨_,hy,rfl⟩
  ·split at hy
   ·exact ⟨_,hy,rfl⟩
   ·obtain ⟨x,hx⟩:=dj hy; exact ⟨_,hx,rfl⟩
   ·exact hy.elim
  ·exact hy.elim
 ·split at hy
  ·exact ⟨_,hy,rfl⟩
  ·obtain ⟨x,hx⟩:=eU hy; exact ⟨_,hx,rfl⟩
  ·exact hy.elim
 ·split at hy
  ·split at hy
   ·split at hy
    ·exact ⟨_,hy,rfl⟩
    ·exact ⟨_,hy,rfl⟩
    ·exact hy.elim
   ·split at hy
    ·exact ⟨_,hy,rfl⟩
    ·exact ⟨_,hy,rfl⟩
    ·exact hy.elim
   ·split at hy <;> try exact hy.elim
    split at hy
    ·exact ⟨_,hy,rfl⟩
    ·exact ⟨_,hy,rfl⟩
    ·exact hy.elim
   ·exact hy.elim
  ·exact hy.elim
 ·split at hy
  ·split at hy
   ·have hy:=(Au hy).2
    split at hy
    ·exact ⟨_,hy,rfl⟩
    ·exact ⟨_,hy,rfl⟩
    ·rw [B5] at hy; exact ⟨_,hy,rfl⟩
    ·exact ⟨_,hy,rfl⟩
    ·exact hy.elim
   ·exact hy.elim
  ·exact hy.elim
 ·split at hy
  ·split at hy
   ·split at hy
    ·exact ⟨_,hy,rfl⟩
    ·obtain ⟨x,hx⟩:=ZJ hy; exact ⟨_,hx,rfl⟩
    ·exact hy.elim
   ·exact hy.elim
  ·exact hy.elim
 ·rw [ho] at hh
  split at hy
  ·rename_i hc; simp [JY,hc] at hh
  ·split at hy
   ·split at hy
    ·split at hy
     ·exact ⟨_,hy,rfl⟩
     ·exact ⟨_,hy,rfl⟩
     ·exact hy.elim
    ·split at hy
     ·exact ⟨_,hy,rfl⟩
     ·obtain ⟨_,_,hx⟩:=bq hy; exact ⟨_,hx,rfl⟩
    ·exact hy.elim
   ·exact hy.elim
  ·rename_i hc; simp [JY,hc] at hh
  ·rename_i hc; simp [JY,hc] at hh
  ·rename_i hc; simp [JY,hc] at hh
  ·exact hy.elim
 ·exact hy.elim
end
end Go.Abs
set_option linter.unusedVariables false
set_option linter.unusedSimpArgs false
namespace Go.Abs
open Go.RowKit (Below)
theorem UO (v:AV) (K:AV→Prop):Uo v K = K v:=by
 cases v <;> simp only [Uo,KT]
 case under t w x=>cases x <;> simp only [KT]
theorem W9 (b:BJ) (K:BJ→Prop):Xx b K = K b:=by
 cases b <;> simp only [Xx,KT]
theorem HM:∀ (S:AS) (K:AS→Prop),EE S K = K S
 | [],_=>rfl
 | ⟨_,_,_⟩ :: r,K=>by rw [EE,HM r]; simp only [UO,W9,KT]
theorem Jp:∀ (l:List Nat) (K:List Nat→Prop),Ma l K = K l
 | [],_=>rfl
 | x :: r,K=>by rw [Ma,Jp r]
theorem PZ:∀ (S:AS) (d:Nat) (v:AV) (K:AS→Prop),PF S d v K = K (Gy S d v)
 | [],_,_,_=>rfl
 | ⟨_,_,_⟩ :: _,0,_,_=>rfl
 | s :: r,d + 1,v,K=>by rw [PF,PZ r]; rfl
theorem V0:∀ (S:AS) (d:Nat) (b:BJ) (n:Nat) (K:AS→Prop),Uq S d b n K = K (Bq S d b n)
 | [],_,_,_,_=>rfl
 | ⟨_,_,_⟩ :: _,0,_,_,_=>rfl
 | s :: r,d + 1,b,n,K=>by rw [Uq,V0 r]; rfl
theorem KP:∀ (b:Bx) (S:AS) (K:AS→Prop),N7 b S K = K (Be b S)
 | [],_,_=>rfl
 | (id,b,n) :: r,S,K=>by rw [N7,KT,W9,V0,KP r]; rfl
theorem Xh (dst:Option Nat) (e:F3) (S:AS) (K:AS→Prop):aR dst e S K = K (Ws dst e S):=by
 obtain ⟨v,bx,hm⟩:=e
 cases dst with
 | none=>simp only [aR,KP]; rfl
 | some d=>simp only [aR,UO,KP,PZ]; rfl
theorem Mv:∀ (S:AS) (d:Nat) (K:Nat→Prop),Tr S d K→d < S.length∧K (Av S d).ver
 | [],_,_,h=>h.elim
 | ⟨_,_,_⟩ :: _,0,_,h=>⟨by simp,h⟩
 | s :: r,d + 1,K,h=>by
   obtain ⟨h1,h2⟩:=Mv r d K h
   exact ⟨by simpa using h1,h2⟩
theorem RZ:∀ (l:List Oper) (j:Nat),T8 l j = (l[j]?).bind (·.dst)
 | [],_=>rfl
 | _ :: _,0=>rfl
 | _ :: r,j + 1=>by simp only [T8,List.getElem?_cons_succ]; exact RZ r j
section
variable {P:Program} {X:Cx} {G:Nat→Prop} {β:Nat→Value} {S:AS} {a:Act} {w:World} {o:Oper}
def Tt (X:Cx) (G:Nat→Prop) (S:AS) (a:Act) (e:F3) (v:Value) (w':World):Prop :=
 ∃ β',AE X G β' (Be e.bx S) a w'∧IZ β' (AU (Be e.bx S)) (OS β' X (Be e.bx S)) w' a.tmps v e.av∧∀ u∈e.av.guards,G u
def bL (P:Program) (ops:Array Oper) (X:Cx) (G:Nat→Prop) (S:AS) (a:Act) (w:World) (o:Oper) (e:F3):Prop :=
 (Region.wanted o (yielded ops a.tmps) = true ∧
  ((∃ v w',(execOp a.eval o).run P w = .ok (.value v) w'∧Tt X G S a e v w') ∨
   (∃ w',(execOp a.eval o).run P w = .ok .skip w'∧Tt X G S a e undef w') ∨
   (∃ f args,(execOp a.eval o).run P w = .ok (.enter f args) w∧Calls P f args w fun e' w'=>∃ v,e' = .returned v∧Tt X G S a e v w'))) ∨
 (Region.wanted o (yielded ops a.tmps) = false∧Tt X G S a e undef w)
theorem Qo.toG {e:F3} {v:Value} {w':World} (h:Qo X G S a e v w'):Tt X G S a e v w':=by
 obtain ⟨β',h1,h2,h3⟩:=h
 exact ⟨β',h1,h2,by rw [h3]; simp⟩
theorem Qo.toU {e:F3} {v:Value} {w':World} {t:Nat} {want:Bool} (ht:G t) (hw:a.tmps[t]? = some (.bool want)) (h:Qo X G S a e v w'):Tt X G S a ⟨.under t want e.av,e.bx,[]⟩ v w':=by
 obtain ⟨β',h1,h2,h3⟩:=h
 refine ⟨β',h1,⟨fun _=>h2,fun hn=>absurd hw hn⟩,?_⟩
 intro u hu
 simp only [AV.guards,h3,List.mem_singleton] at hu
 rw [hu]; exact ht
theorem Cw.to {ops:Array Oper} {e e':F3} (hw:Region.wanted o (yielded ops a.tmps) = true) (hd:Cw P X G S a w o e)
 (hp:∀ v w',Qo X G S a e v w'→Tt X G S a e' v w'):bL P ops X G S a w o e':=by
 refine .inl ⟨hw,?_⟩
 rcases hd with ⟨v,w',h1,h2⟩ | ⟨w',h1,h2⟩ | ⟨f,args,h1,h2⟩
 ·exact .inl ⟨v,w',h1,hp v w' h2⟩
 ·exact .inr (.inl ⟨w',h1,hp _ w' h2⟩)
 ·exact .inr (.inr ⟨f,args,h1,h2.mono fun e' w' ⟨v,h3,h4⟩=>⟨v,h3,hp v w' h4⟩⟩)
theorem Wx {x:Option Nat} {K:Nat→Prop} (h:dK x K):K (x.getD 0):=by cases x <;> exact h
theorem Vz:∀ (S:AS) (t:Nat) (v:AV),(Av S t).av = v→Gy S t v = S
 | [],_,_,_=>rfl
 | ⟨x,b,n⟩ :: r,0,v,h=>by simp only [Av] at h; subst h; rfl
 | s :: r,t + 1,v,h=>by rw [Gy,Vz r t v h]
theorem XS {t:Nat} {x:AV} (h:AE X G β S a w) (hx:(Av S t).av = x) (hne:x≠.any):∃ v,a.tmps[t]? = some v∧IZ β (AU S) (OS β X S) w a.tmps v x:=by
 have hlt:t < S.length:=by
  rcases Nat.lt_or_ge t S.length with h' | h'
  ·exact h'
  ·rw [KJ S t h'] at hx; exact absurd hx.symm hne
 have hlt':t < a.tmps.size:=by rw [h.len]; exact hlt
 refine ⟨a.tmps[t],by simp [hlt'],?_⟩
 have:=h.slots t a.tmps[t] (by simp [hlt'])
 rwa [hx] at this
def aO (lk:List Nat):Nat→Nat→AS→Option Bool→Prop
 | 0,_,_,_=>False
 | n + 1,t,S,r=>t∈lk∧((∃ b,(Av S t).av = .d (.bool b)∧r = some b) ∨
     (∃ t' w' b r',(Av S t).av = .under t' w' (.d (.bool b))∧aO lk n t' S r'∧(r' = some w'∧r = some b∨r'≠some w'∧r = none)) ∨
     ∃ t' w',(Av S t).av = .under t' w' .bot∧r = none)
theorem LS {S:AS} {t:Nat} {mk:Bool→AV} {b:Bool} {K:AS→Option Bool→Prop} (hb:(Av S t).av = mk b):Wu S t mk b K↔K S (some b):=by
 unfold Wu
 cases b <;> simp only [T2] <;> rw [PZ,Vz S t _ hb]
theorem QZ {lk:List Nat}:∀ {n t:Nat} {S:AS} {K:AS→Option Bool→Prop},aV lk n t S K→∃ r,K S r∧aO lk n t S r
 | 0,_,_,_,h=>h.elim
 | n + 1,t,S,K,h=>by
   unfold aV at h
   obtain ⟨hlk,h⟩:=Au h
   have hlk:t∈lk:=by simpa using hlk
   split at h
   ·rename_i b hb
    exact ⟨some b,(LS hb).1 h,hlk,.inl ⟨b,hb,rfl⟩⟩
   ·rename_i t' w' b hb
    obtain ⟨r,h,hd⟩:=QZ h
    have yes:r = some w'→Wu S t (fun b=>.under t' w' (.d (.bool b))) b K→∃ r,K S r∧aO lk (n + 1) t S r:=fun e h =>
     ⟨some b,(LS (mk:=fun b=>.under t' w' (.d (.bool b))) hb).1 h,hlk,.inr (.inl ⟨t',w',b,r,hb,hd,.inl ⟨e,rfl⟩⟩)⟩
    have no:r≠some w'→K S none→∃ r,K S r∧aO lk (n + 1) t S r:=fun e h=>⟨none,h,hlk,.inr (.inl ⟨t',w',b,r,hb,hd,.inr ⟨e,rfl⟩⟩)⟩
    match r,w',h,yes,no with
    | none,_,h,_,no=>exact no (by simp) h
    | some true,true,h,yes,_=>exact yes rfl h
    | some true,false,h,_,no=>exact no (by simp) h
    | some false,true,h,_,no=>exact no (by simp) h
    | some false,false,h,yes,_=>exact yes rfl h
   ·rename_i t' w' hb
    exact ⟨none,h,hlk,.inr (.inr ⟨t',w',hb,rfl⟩)⟩
   ·exact h.elim
theorem Xo {lk:List Nat}:∀ {n t:Nat} {S:AS} {r:Option Bool} {K:AS→Option Bool→Prop},aO lk n t S r→K S r→aV lk n t S K
 | 0,_,_,_,_,h,_=>h.elim
 | n + 1,t,S,r,K,⟨hlk,h⟩,hK=>by
   unfold aV
   rw [if_pos (by simpa using hlk)]
   rcases h with ⟨b,hb,rfl⟩ | ⟨t',w',b,r',hb,hd,h⟩ | ⟨t',w',hb,rfl⟩
   rotate_left 2
   ·rw [hb]; exact hK
   ·rw [hb]
    exact (LS hb).2 hK
   ·rw [hb]
    refine Xo hd ?_
    rcases h with ⟨rfl,rfl⟩ | ⟨hne,rfl⟩
    ·cases w' <;> exact (LS (mk:=fun b=>.under t' _ (.d (.bool b))) hb).2 hK
    ·match r',w',hne with
     | none,_,_=>exact hK
     | some true,false,_=>exact hK
     | some false,true,_=>exact hK
     | some true,true,h=>exact absurd rfl h
     | some false,false,h=>exact absurd rfl h
theorem aO.tmp {lk:List Nat} (h:AE X G β S a w):∀ {n t:Nat} {r:Option Bool},aO lk n t S r→(∀ b,r = some b→a.tmps[t]? = some (.bool b))∧(r = none→∀ b,a.tmps[t]?≠some (.bool b))
 | 0,_,_,hd=>hd.elim
 | n + 1,t,r,⟨_,hd⟩=>by
   rcases hd with ⟨b,hb,rfl⟩ | ⟨t',w',b,r',hb,hd,hr⟩ | ⟨t',w',hb,rfl⟩
   rotate_left 2
   ·obtain ⟨v,hv,hrep⟩:=XS h hb (by simp)
    refine ⟨fun b' e=>(by cases e),fun _ b'=>?_⟩
    by_cases hw:a.tmps[t']? = some (.bool w')
    ·exact (hrep.1 hw).elim
    ·rw [hv,hrep.2 hw]
     intro hh; cases hh
   ·obtain ⟨v,hv,hr⟩:=XS h hb (by simp)
    exact ⟨fun b' e=>by cases e; rw [hv,Ek hr],fun e=>by cases e⟩
   ·obtain ⟨v,hv,hrep⟩:=XS h hb (by simp)
    obtain ⟨h1,h2⟩:=aO.tmp h hd
    rcases hr with ⟨rfl,rfl⟩ | ⟨hne,rfl⟩
    ·exact ⟨fun b' e=>by cases e; rw [hv,Ek (hrep.1 (h1 _ rfl))],fun e=>by cases e⟩
    ·refine ⟨fun b' e=>(by cases e),fun _ b'=>?_⟩
     have hnw:a.tmps[t']?≠some (.bool w'):=by
      cases r' with
      | none=>exact h2 rfl w'
      | some c=>rw [h1 c rfl]; intro hh; cases hh; exact hne rfl
     rw [hv,hrep.2 hnw]
     intro hh; cases hh
theorem Ik {want:Bool} {r:Option Bool} {go skip:Prop}:U2 want r go skip↔(r = some want∧go)∨(r≠some want∧skip):=by
 unfold U2
 match r,want with
 | none,_=>simp
 | some true,true=>simp
 | some true,false=>simp
 | some false,true=>simp
 | some false,false=>simp
theorem VC {g:Option (Nat × Bool)} {d n:Nat} {K:F3→Prop} (hy:yS P S g o d n K):(∃ x,o.op = .move x∧c9 (ev S x) = true∧K ⟨ev S x,[],[]⟩)∨(J9 S o = false∧yA P (σOf S) (ρOf S) g o d n K):=by
 unfold yS at hy
 unfold J9
 split at hy
 ·rename_i x ho
  split at hy
  ·rename_i id v k he
   exact .inl ⟨x,ho,by rw [he]; rfl,by rw [he]; exact hy⟩
  ·rename_i id v he
   exact .inl ⟨x,ho,by rw [he]; rfl,by rw [he]; exact hy⟩
  ·rename_i h1 h2
   refine .inr ⟨?_,hy⟩
   cases he:ev S x with
   | ptr id v k=>exact absurd he (h1 _ _ _)
   | sl id v=>exact absurd he (h2 _ _)
   | _=>rfl
 ·exact .inr ⟨rfl,hy⟩
theorem Si {x:AV} (h:c9 x = true):x.guards = []:=by
 cases x with
 | ptr=>rfl
 | sl=>rfl
 | _=>cases h
theorem VD (h:AE X G β S a w) {g:Option (Nat × Bool)} (hg:BB g a) {d:Nat} (hd:d < S.length) {K:F3→Prop} (hy:yS P S g o d (Av S d).ver K) :
 ∃ e,K e∧(Fp S e.homes = true→Cw P X G S a w o e):=by
 rcases VC hy with ⟨x,ho,he,hK⟩ | ⟨_,hy⟩
 ·refine ⟨_,hK,fun _=>AM h (v:=a.eval x) (by simp [execOp,ho]) ?_ (Si he)⟩
  cases x with
  | tmp t =>
    simp only [ev] at he ⊢
    simp only [Act.eval]
    by_cases ht:t < a.tmps.size
    ·have:=h.slots t a.tmps[t] (by simp [ht])
     simpa [Array.getD,ht] using this
    ·have e:Av S t = bH:=KJ S t (by rw [← h.len]; exact Nat.le_of_not_lt ht)
     rw [e] at he; cases he
  | const c=>simp only [ev] at he; unfold Zv at he; split at he <;> cases he
  | global q=>simp only [ev] at he; split at he <;> cases he
  | func f=>cases he
 ·exact db h hg hd hy
theorem Zh {g:Option (Nat × Bool)} {d n:Nat} {K:F3→Prop} (hh:JY o.op = true) (hy:yS P S g o d n K):∃ e,K e∧e.av.guards = []:=by
 rcases VC hy with ⟨x,ho,he,hK⟩ | ⟨_,hy⟩
 ·exact ⟨_,hK,Si he⟩
 ·exact Zg hh hy
theorem WM {ops:Array Oper} {done:List Nat} (h:AE X (·∈done) β S a w) {K:AS→F3→Prop} (hy:bu P ops.toList done o S K) :
 ∃ e,K S e∧bL P ops X (·∈done) S a w o e:=by
 unfold bu at hy
 split at hy
 ·rename_i hgd
  obtain ⟨hd,hy⟩:=Mv _ _ _ (Wx hy)
  obtain ⟨e,hK,hdo⟩:=VD h (g:=none) (fun _ _ e=>by cases e) hd hy
  obtain ⟨hok,hK⟩:=Au hK
  exact ⟨e,hK,(hdo hok).to (by simp [Region.wanted,hgd]) fun v w' hp=>hp.toG⟩
 ·rename_i j want hgd
  split at hy
  ·exact hy.elim
  ·rename_i t ht
   obtain ⟨hdone,hy⟩:=Au hy
   have htd:t∈done:=by simpa using hdone
   have hyl:yielded ops a.tmps j = (match a.tmps[t]? with | some (.bool b)=>some b | _=>none):=by
    have:(ops[j]?).bind (·.dst) = some t:=by rw [← ht,RZ]; simp
    simp only [yielded,this,Option.bind_some]
    cases a.tmps[t]? with
    | none=>rfl
    | some v=>cases v <;> rfl
   have hwant:Region.wanted o (yielded ops a.tmps) = true↔a.tmps[t]? = some (.bool want):=by
    simp only [Region.wanted,hgd,hyl]
    constructor
    ·intro hh
     split at hh
     ·rename_i b hb; simp at hh; rw [hb,hh]
     ·simp at hh
    ·intro hh; simp [hh]
   split at hy
   ·rename_i hh
    obtain ⟨hd,hy⟩:=Mv _ _ _ (Wx hy)
    by_cases hw:a.tmps[t]? = some (.bool want)
    ·obtain ⟨e,hK,hdo⟩:=VD h (g:=some (t,want)) (fun _ _ e=>by cases e; exact hw) hd hy
     split at hK
     ·exact ⟨_,hK,(hdo rfl).to (hwant.2 hw) fun v w' hp=>hp.toU htd hw⟩
     ·exact hK.elim
    ·obtain ⟨e,hK,hgs⟩:=Zh hh hy
     split at hK
     ·rename_i v
      refine ⟨_,hK,.inr ⟨by rw [Bool.eq_false_iff]; exact fun hh=>hw (hwant.1 hh),β,h,⟨fun hh=>absurd hh hw,fun _=>rfl⟩,?_⟩⟩
      intro u hu
      simp only at hgs
      simp only [AV.guards,hgs,List.mem_singleton] at hu
      rw [hu]; exact htd
     ·exact hK.elim
   ·obtain ⟨r,hy,hdec⟩:=QZ hy
    obtain ⟨hs1,hs2⟩:=hdec.tmp h
    rcases Ik.1 hy with ⟨hrw,hgo⟩ | ⟨hne,hK⟩
    ·have hbt:=hs1 want hrw
     obtain ⟨hd,hy⟩:=Mv _ _ _ (Wx hgo)
     obtain ⟨e,hK,hdo⟩:=VD h (g:=some (t,want)) (fun _ _ e=>by cases e; exact hbt) hd hy
     obtain ⟨hok,hK⟩:=Au hK
     exact ⟨e,hK,(hdo hok).to (hwant.2 hbt) fun v w' hp=>hp.toG⟩
    ·have hnw:a.tmps[t]?≠some (.bool want):=by
      cases r with
      | none=>exact hs2 rfl want
      | some c=>rw [hs1 c rfl]; intro hh; cases hh; exact hne rfl
     refine ⟨_,hK,.inr ⟨?_,β,h,⟨fun hh=>absurd hh hnw,fun _=>rfl⟩,fun u hu=>by simp [AV.guards] at hu; rw [hu]; exact htd⟩⟩
     rw [Bool.eq_false_iff]
     exact fun hh=>hnw (hwant.1 hh)
theorem AE.weaken {G':Nat→Prop} (h:AE X G β S a w) (hG:∀ t,G t→G' t):AE X G' β S a w :=
 { h with gds:=fun t u hu=>hG u (h.gds t u hu) }
theorem bL.step {ops:Array Oper} {e:F3} {K:Act→World→Prop} {Q:Exit→Act→World→Prop} {done:List Nat} (hd:∀ d,o.dst = some d→d ∉ done) (h:bL P ops X (·∈done) S a w o e)
 (hK:∀ β' a' w',AE X (·∈Db o.dst++done) β' (Ws o.dst e S) a' w'→K a' w') :
 if Region.wanted o (yielded ops a.tmps) then o.wp P a w K Q else K (a.put o.dst undef) w:=by
 have GD:∀ v w',Tt X (·∈done) S a e v w'→K (a.put o.dst v) w':=by
  intro v w' hp
  obtain ⟨β',h1,h2,h3⟩:=hp
  refine hK β' _ w' ?_
  cases hdst:o.dst with
  | none=>exact h1
  | some d=>exact (h1.put (hd d hdst) h2 h3).weaken fun t ht=>by simp [ht]
 rcases h with ⟨hw,h⟩ | ⟨hw,h⟩
 ·rw [if_pos hw]
  unfold Oper.wp
  rcases h with ⟨v,w',h1,h2⟩ | ⟨w',h1,h2⟩ | ⟨f,args,h1,h2⟩
  ·rw [h1]; exact GD v w' h2
  ·rw [h1]; exact GD undef w' h2
  ·rw [h1]
   exact h2.mono fun e' w' ⟨v,h3,h4⟩=>by subst h3; exact GD v w' h4
 ·rw [if_neg (by simp [hw])]
  exact GD undef w h
theorem Su {pos:Bool} {x:Operand} (h:Ss P o = some (pos,x)):∃ op t y u e,o.op = .binOp op t x y u∧Lw y = true∧o.guard = none∧P.underlying t = some (.slice e)∧(op = .eql∧pos = true∨op = .neq∧pos = false):=by
 unfold Ss at h
 split at h
 ·rename_i op t x' y u ho
  split at h
  ·rename_i e h1 h2 h3
   split at h
   ·simp at h; exact ⟨_,t,y,u,e,by rw [ho,h.2],h1,h2,h3,.inl ⟨rfl,h.1⟩⟩
   ·simp at h; exact ⟨_,t,y,u,e,by rw [ho,h.2],h1,h2,h3,.inr ⟨rfl,h.1⟩⟩
   ·cases h
  ·cases h
 ·cases h
theorem Xt (h:AE X G β S a w) {pos:Bool} {x:Operand} (ht:Ss P o = some (pos,x)) {K:Bool→Prop} (hy:M8 (ρOf S none x) fun _ xs=>dN xs K) :
 ∃ b,K b∧Cw P X G S a w o ⟨.d (.bool (b==pos)),[],[]⟩:=by
 obtain ⟨op,t,y,u,e,ho,hn,_,hu,hop⟩:=Su ht
 obtain ⟨sz,xs,hK,ad,c,hv,hrest⟩:=Qb h (ρ_sound h (g:=none) (fun _ _ e=>by cases e) x) hy
 have ey:=Nk hn
 have hev:a.eval y = .slice none 0 0:=by rw [ey]; rfl
 refine ⟨ad.isNone,hK.go _ (fun hne=>?_),?_⟩
 ·obtain ⟨ad',news,rfl,_⟩:=hrest.resolve_left hne
  rfl
 ·have heq:(Op.equalIn 10000 t (.slice ad xs.length c) (.slice none 0 0)).run P w = .ok ad.isNone w:=by
   have key:∀ m,(Op.equalIn (m + 1) t (.slice ad xs.length c) (.slice none 0 0)).run P w = .ok ad.isNone w:=by
    intro m
    cases ad with
    | none=>simp [Op.equalIn,run_underlying hu]
    | some q=>simp [Op.equalIn,run_underlying hu]
   exact key 9999
  refine AM h (v:=.bool (ad.isNone==pos)) ?_ (.bool _) rfl
  rcases hop with ⟨rfl,rfl⟩ | ⟨rfl,rfl⟩
  ·simp [execOp,ho,hv,hev,eqGuard,binOp,Op.equal,Op.maxDepth,heq]
  ·simp [execOp,ho,hv,hev,eqGuard,binOp,Op.equal,Op.maxDepth,heq]
theorem Rr {ops:Array Oper} {Q:Exit→Act→World→Prop}:∀ {l:List Oper} {done:List Nat} {S:AS} {β:Nat→Value} {a:Act} {w:World} {K:AS→Prop},
 eH P ops.toList done l S K→AE X (·∈done) β S a w→(∀ β' S' a' w' (done':List Nat),K S'→AE X (·∈done') β' S' a' w'→Q .normal a' w')→wpList P ops Q l a w
 | [],done,S,β,a,w,K,hy,h,hQ=>wpList_nil (hQ β S a w done hy h)
 | o :: r,done,S,β,a,w,K,hy,h,hQ=>by
   obtain ⟨hnd,hy⟩:=Au hy
   have hd:∀ d,o.dst = some d→d ∉ done:=by
    intro d hd hm
    rw [hd] at hnd
    simp [Db] at hnd
    exact hnd hm
   cases ht:Ss P o with
   | some q =>
     obtain ⟨pos,x⟩:=q
     simp only [ht] at hy
     obtain ⟨b,hK,hdo⟩:=Xt h ht hy
     rw [Xh,Jp] at hK
     obtain ⟨_,_,_,_,_,_,_,hgd,_⟩:=Su ht
     have hok:bL P ops X (·∈done) S a w o ⟨.d (.bool (b==pos)),[],[]⟩:=hdo.to (by simp [Region.wanted,hgd]) fun v w' hp=>hp.toG
     exact wpList_step fun K' hK'=>hok.step hd fun β' a' w' h'=>hK' _ _ (Rr hK h' hQ)
   | none =>
     simp only [ht] at hy
     obtain ⟨e,hK,hok⟩:=WM h hy
     rw [Xh,Jp] at hK
     exact wpList_step fun K' hK'=>hok.step hd fun β' a' w' h'=>hK' _ _ (Rr hK h' hQ)
def KB (s:Sl):Sl:=match s with
 | ⟨.under _ _ _,b,n⟩=>⟨.any,b,n⟩
 | s=>s
theorem Vg:∀ (S:AS) (K:AS→Prop),plain S K = K (S.map KB)
 | [],_=>rfl
 | s :: r,K=>by
   rw [plain,Vg r]
   obtain ⟨v,b,n⟩:=s
   cases v <;> rfl
theorem Cm:∀ (S:AS) (i:Nat),Av (S.map KB) i = KB (Av S i)
 | [],_=>rfl
 | _ :: _,0=>rfl
 | _ :: r,i + 1=>Cm r i
theorem HU (s:Sl):(KB s).box = s.box:=by obtain ⟨v,b,n⟩:=s; cases v <;> rfl
theorem TN (s:Sl):(KB s).ver = s.ver:=by obtain ⟨v,b,n⟩:=s; cases v <;> rfl
theorem AE.plain (h:AE X G β S a w):AE X (fun _=>False) β (S.map KB) a w:=by
 have hO:OS β X (S.map KB) = OS β X S:=by funext b; simp only [OS,Cm,HU]
 have hv:AU (S.map KB) = AU S:=by funext i; simp only [AU,Cm,TN]
 refine ⟨by simp [h.len],h.df,h.below,h.hbase,h.o₀,h.rs,?_,?_,?_,?_,?_,?_⟩
 ·intro t v ht
  rw [hO,hv,Cm]
  have:=h.slots t v ht
  generalize Av S t = s at this ⊢
  obtain ⟨x,b,n⟩:=s
  cases x <;> first | exact this | trivial
 ·intro i; rw [hO,hv,Cm,HU]; exact h.boxes i
 ·intro i b; rw [Cm,HU]; exact h.mine i b
 ·intro i j b; rw [Cm,Cm,HU,HU]; exact h.inj i j b
 ·intro t u hu
  rw [Cm] at hu
  generalize Av S t = s at hu
  obtain ⟨x,b,n⟩:=s
  cases x <;> simp [KB,AV.guards] at hu
 ·intro i; rw [Cm,HU,TN]; exact h.ini i
theorem W5 {x y:D} {K:Prop} (h:ck x y K):K∧(x.one = true→y.one = true)∧∀ (O:Nat→Prop) (w:World) (u:Value),AB O w u x→AB O w u y:=by
 unfold ck at h
 split at h
 ·rename_i s
  obtain ⟨h,hK⟩:=h
  rcases h with rfl | rfl
  ·exact ⟨hK,fun h=>h,fun _ _ _ h=>h⟩
  ·refine ⟨hK,fun _=>rfl,fun O w u h=>?_⟩
   cases h
   exact .emp _ _ _
 ·obtain ⟨rfl,hK⟩:=h
  exact ⟨hK,fun h=>h,fun _ _ _ h=>h⟩
theorem cm {x y:D} {K:Prop} (h:ck x y K):ck x y True:=by
 unfold ck at h ⊢
 split at h
 ·exact ⟨h.1,trivial⟩
 ·exact ⟨h.1,trivial⟩
def fQ (v v':Nat→Nat) (cs cs':List C):Prop:=cs.length = cs'.length∧∀ (β:Nat→Value) (O:Nat→Prop) (w:World) (j:Nat) (u:Value) c c',cs[j]? = some c→cs'[j]? = some c'→BK β v O w u c→BK β v' O w u c'
theorem J8 {v v':Nat→Nat} {K:Prop}:∀ {cs cs':List C},GG v v' cs cs' K→K∧fQ v v' cs cs'
 | [],[],h=>⟨h,rfl,fun _ _ _ j u c c' hc=>by simp at hc⟩
 | [],_ :: _,h=>h.elim
 | .d x :: r,[],h=>h.elim
 | .sl _ _ :: r,[],h=>h.elim
 | .own _ _ _ :: r,[],h=>h.elim
 | .d x :: r,.d y :: q,h=>by
   obtain ⟨h,ho,hx⟩:=W5 (show ck x y (GG v v' r q K) from h)
   obtain ⟨h1,h2,h3⟩:=J8 h
   refine ⟨h1,by simp [h2],fun β O w j u c c' hc hc' hr=>?_⟩
   cases j with
   | zero=>simp at hc hc'; subst hc; subst hc'; exact ⟨hx O w u hr.1,ho hr.2⟩
   | succ j=>exact h3 β O w j u c c' (by simpa using hc) (by simpa using hc') hr
 | .sl id n :: r,.sl id' n' :: q,h=>by
   have h:if id = id'∧n = v id∧n' = v' id then GG v v' r q K else False:=h
   obtain ⟨⟨e0,e1,e2⟩,h'⟩:=Au h
   obtain ⟨h1,h2,h3⟩:=J8 h'
   subst e0
   refine ⟨h1,by simp [h2],fun β O w j u c c' hc hc' hr=>?_⟩
   cases j with
   | zero=>simp at hc hc'; subst hc; subst hc'; exact ⟨Nat.le_of_eq e2,fun _=>hr.2 e1⟩
   | succ j=>exact h3 β O w j u c c' (by simpa using hc) (by simpa using hc') hr
 | .d _ :: _,.sl _ _ :: _,h=>h.elim
 | .d _ :: _,.own _ _ _ :: _,h=>h.elim
 | .sl _ _ :: _,.d _ :: _,h=>h.elim
 | .sl _ _ :: _,.own _ _ _ :: _,h=>h.elim
 | .own _ _ _ :: _,.d _ :: _,h=>h.elim
 | .own _ _ _ :: _,.sl _ _ :: _,h=>h.elim
 | .own _ _ _ :: _,.own _ _ _ :: _,h=>h.elim
theorem K8 {v v':Nat→Nat} {K:Prop}:∀ {cs cs':List C},GG v v' cs cs' K→GG v v' cs cs' True
 | [],[],_=>trivial
 | [],_ :: _,h=>h.elim
 | .d x :: r,[],h=>h.elim
 | .sl _ _ :: r,[],h=>h.elim
 | .own _ _ _ :: r,[],h=>h.elim
 | .d x :: r,.d y :: q,h=>by
   have h:ck x y (GG v v' r q K):=h
   show ck x y (GG v v' r q True)
   unfold ck at h ⊢
   split at h
   ·exact ⟨h.1,K8 h.2⟩
   ·exact ⟨h.1,K8 h.2⟩
 | .sl id n :: r,.sl id' n' :: q,h=>by
   have h:if id = id'∧n = v id∧n' = v' id then GG v v' r q K else False:=h
   obtain ⟨h1,h2⟩:=Au h
   show if id = id'∧n = v id∧n' = v' id then GG v v' r q True else False
   rw [if_pos h1]; exact K8 h2
 | .d _ :: _,.sl _ _ :: _,h=>h.elim
 | .d _ :: _,.own _ _ _ :: _,h=>h.elim
 | .sl _ _ :: _,.d _ :: _,h=>h.elim
 | .sl _ _ :: _,.own _ _ _ :: _,h=>h.elim
 | .own _ _ _ :: _,.d _ :: _,h=>h.elim
 | .own _ _ _ :: _,.sl _ _ :: _,h=>h.elim
 | .own _ _ _ :: _,.own _ _ _ :: _,h=>h.elim
theorem Sk {v v':Nat→Nat} {y y':AV} {K:Prop} (h:M5 v v' y y' K) :
 K∧∀ (β:Nat→Value) (O:Nat→Prop) (w:World) (tm:Array Value) (u:Value),IZ β v O w tm u y→IZ β v' O w tm u y':=by
 cases y' <;> simp only [M5] at h
 case any=>exact ⟨h,fun _ _ _ _ _ _=>trivial⟩
 case d y =>
  split at h
  ·obtain ⟨h,_,h1⟩:=W5 h; exact ⟨h,fun _ O w _ u hr=>h1 O w u hr⟩
  ·obtain ⟨rfl,h⟩:=h; exact ⟨h,fun _ _ _ _ _ hr=>hr.1⟩
  ·exact h.elim
 case lim sz xs=>obtain ⟨rfl,h⟩:=h; exact ⟨h,fun _ _ _ _ _ hr=>hr⟩
 case ptr id n o =>
  split at h
  ·rename_i id' n' o'
   obtain ⟨⟨rfl,h1,h2⟩,rfl,h3⟩:=Au h
   exact ⟨h3,fun _ _ _ _ _ hr=>⟨Nat.le_of_eq h2,fun _=>hr.2 h1⟩⟩
  ·exact h.elim
 case sl id n =>
  split at h
  ·rename_i id' n'
   obtain ⟨⟨rfl,h1,h2⟩,h3⟩:=Au h
   exact ⟨h3,fun _ _ _ _ _ hr=>⟨Nat.le_of_eq h2,fun _=>hr.2 h1⟩⟩
  ·exact h.elim
 case cc k xs' =>
  split at h
  ·rename_i k' xs
   obtain ⟨rfl,hh⟩:=Au h
   obtain ⟨h1,h2,h3⟩:=J8 hh
   refine ⟨h1,fun β O w tm u hr=>?_⟩
   obtain ⟨vs,hv,hl,hr⟩:=hr
   refine ⟨vs,hv,by rw [hl,h2],fun i u' c hu hc=>?_⟩
   have hi:i < xs.length:=by rw [h2]; exact AD hc
   exact ⟨h3 β O w i u' xs[i] c (List.getElem?_eq_getElem hi) hc (hr i u' _ hu (List.getElem?_eq_getElem hi)).1,(hr i u' _ hu (List.getElem?_eq_getElem hi)).2⟩
  ·exact h.elim
theorem YF {v v':Nat→Nat} {y y':AV} {K:Prop} (h:M5 v v' y y' K):M5 v v' y y' True:=by
 cases y' <;> simp only [M5] at h ⊢
 case d y =>
  split at h
  ·exact cm h
  ·exact ⟨h.1,trivial⟩
  ·exact h.elim
 case lim sz xs=>exact ⟨h.1,trivial⟩
 case ptr id n o =>
  split at h
  ·obtain ⟨h1,h2⟩:=Au h
   rw [if_pos h1]; exact ⟨h2.1,trivial⟩
  ·exact h.elim
 case sl id n =>
  split at h
  ·obtain ⟨h1,h2⟩:=Au h
   rw [if_pos h1]; trivial
  ·exact h.elim
 case cc k xs' =>
  split at h
  ·obtain ⟨h1,h2⟩:=Au h
   rw [if_pos h1]; exact K8 h2
  ·exact h.elim
 all_goals first | exact h.elim | trivial
def fP (v v':Nat→Nat) (b b':BJ):Prop:=b' = .none∨(b = b'∧∀ cs,b≠.var cs)∨(∃ sz e xs,b' = .frow sz xs∧b = .row sz e xs)∨∃ cs cs',b = .var cs∧b' = .var cs'∧fQ v v' cs cs'
theorem YE {v v':Nat→Nat} {b b':BJ} {K:Prop} (h:ay v v' b b' K):K∧fP v v' b b':=by
 cases b' <;> simp only [ay] at h
 case none=>exact ⟨h,.inl rfl⟩
 case frow sz xs =>
  rcases h.1 with h1 | ⟨e,h1⟩
  ·exact ⟨h.2,.inr (.inl ⟨h1,fun cs e=>by rw [h1] at e; cases e⟩)⟩
  ·exact ⟨h.2,.inr (.inr (.inl ⟨sz,e,xs,rfl,h1⟩))⟩
 case fvar cs=>exact ⟨h.2,.inr (.inl ⟨h.1,fun cs e=>by rw [h.1] at e; cases e⟩)⟩
 case map es=>exact ⟨h.2,.inr (.inl ⟨h.1,fun cs e=>by rw [h.1] at e; cases e⟩)⟩
 case row sz e xs=>exact ⟨h.2,.inr (.inl ⟨h.1,fun cs e=>by rw [h.1] at e; cases e⟩)⟩
 case var cs' =>
  cases b <;> try exact h.elim
  case var cs =>
   obtain ⟨h1,h2⟩:=J8 h
   exact ⟨h1,.inr (.inr (.inr ⟨cs,cs',rfl,rfl,h2⟩))⟩
theorem YG {b':BJ} {n n':Nat} {K:Prop} (h:az b' n n' K):K∧(n' = 0→b'≠.none→n = 0):=by
 unfold az at h
 split at h
 ·exact ⟨h,fun _ hh=>absurd rfl hh⟩
 ·split at h
  ·rename_i hh; exact ⟨h,fun e _=>hh e⟩
  ·exact h.elim
theorem TI {v v':Nat→Nat}:∀ {S S':AS},YD v v' S S'→S.length = S'.length∧∀ i,M5 v v' (Av S i).av (Av S' i).av True∧fP v v' (Av S i).box (Av S' i).box∧((Av S' i).ver = 0→(Av S' i).box≠.none→(Av S i).ver = 0)
 | [],[],_=>⟨rfl,fun i=>⟨by simp [Av,bH,M5],.inl rfl,fun _ h=>absurd rfl h⟩⟩
 | ⟨sv,sb,sn⟩ :: r,⟨sv',sb',sn'⟩ :: r',h=>by
   have h0:M5 v v' sv sv' (az sb' sn sn' (ay v v' sb sb' (YD v v' r r'))):=h
   have h1:=Sk h0
   have h1':=YG h1.1
   have h2:=YE h1'.1
   obtain ⟨h3,h4⟩:=TI h2.1
   refine ⟨by simp [h3],fun i=>?_⟩
   cases i with
   | zero=>exact ⟨YF h0,h2.2,h1'.2⟩
   | succ i=>exact h4 i
theorem AE.le0 (h:AE X (fun _=>False) β S a w) {S':AS} (hl:YD (fun i=>(Av S i).ver) (fun i=>(Av S' i).ver) S S'):AE X (fun _=>False) β S' a w:=by
 obtain ⟨hlen,hall⟩:=TI hl
 have hbx:=fun i=>(hall i).2.1
 have hown:∀ i,(Av S' i).box.owned = true→(Av S i).box.owned = true:=by
  intro i ho
  rcases hbx i with h1 | ⟨h1,_⟩ | ⟨sz,e,xs,h1,_⟩ | ⟨cs,cs',h1,h2,_⟩
  ·rw [h1] at ho; cases ho
  ·rw [h1]; exact ho
  ·rw [h1] at ho; cases ho
  ·rw [h1]; rfl
 have hO:∀ b,OS β X S' b→OS β X S b:=by
  intro b hb
  rcases hb with hb | hb | ⟨i,h1,h2⟩
  ·exact .inl hb
  ·exact .inr (.inl hb)
  ·exact .inr (.inr ⟨i,hown i h1,h2⟩)
 have hk:B4 (OS β X S) (OS β X S') w w:=B4.of_sub hO
 have same:∀ i,(fun i=>(Av S i).ver) i < (fun i=>(Av S i).ver) i∨((fun i=>(Av S i).ver) i = (fun i=>(Av S i).ver) i∧β i = β i):=fun i=>.inr ⟨rfl,rfl⟩
 refine ⟨by rw [← hlen]; exact h.len,h.df,h.below,h.hbase,h.o₀,h.rs,?_,?_,?_,?_,?_,?_⟩
 ·intro t u ht
  have hr:=(h.slots t u ht).mono hk (fun _=>.inr ⟨rfl,rfl⟩) (fun _ _=>rfl)
  exact (Sk (hall t).1).2 β (OS β X S') w a.tmps u hr
 ·intro i
  have hno:(Av S' i).box.owned = false→(Av S i).box.owned = true→∀ b,A1 (β i) = some b→¬ OS β X S' b:=by
   intro h1 h2 b hb hh
   have hm:=h.mine i b h2 hb
   rcases hh with hh | hh | ⟨j,h3,h4⟩
   ·have:=h.o₀ b hh; rcases hm.1 with h5 | h5; omega; exact this.2 h5
   ·exact hm.2 hh
   ·have:=h.inj j i b (hown j h3) h2 h4 hb
    rw [this,h1] at h3; cases h3
  have hb:=h.boxes i
  rcases hbx i with h1 | ⟨h1,h2⟩ | ⟨sz,e,xs,h1,h2⟩ | ⟨cs,cs',h1,h2,h3⟩
  ·rw [h1]; trivial
  ·rw [← h1]
   cases hB:(Av S i).box with
   | none=>trivial
   | var cs=>exact absurd hB (h2 cs)
   | row sz e xs =>
     rw [hB] at hb
     obtain ⟨k1,k2,vals,k3,k4⟩:=hb
     exact ⟨k1,k2,vals,k3,k4.mono hk⟩
   | fvar cs=>rw [hB] at hb; exact ⟨hb.1.mono hk,hb.2⟩
   | frow sz xs=>rw [hB] at hb; exact AB.mono hk hb
   | map es =>
     rw [hB] at hb
     obtain ⟨b,vs,clock,k1,k2,k3,k4⟩:=hb
     exact ⟨b,vs,clock,k1,k2,k3,fun i e p hv hc=>⟨(k4 i e p hv hc).1.mono hk,(k4 i e p hv hc).2.1.mono hk,(k4 i e p hv hc).2.2⟩⟩
  ·rw [h1]
   have hno':=hno (by rw [h1]; rfl) (by rw [h2]; rfl)
   rw [h2] at hb
   obtain ⟨k1,k2,vals,k3,k4⟩:=hb
   exact YZ k1 k2 k3 (k4.mono hk) hno'
  ·rw [h2]
   rw [h1] at hb
   obtain ⟨b,vals,T,k1,k2,k3,k4⟩:=hb
   refine ⟨b,vals,T,k1,k2,by rw [← h3.1]; exact k3,fun j u c hu hc=>?_⟩
   have hj:j < cs.length:=by rw [h3.1]; exact AD hc
   exact h3.2 β _ w j u cs[j] c (List.getElem?_eq_getElem hj) hc ((k4 j u cs[j] hu (List.getElem?_eq_getElem hj)).mono hk (fun _=>.inr ⟨rfl,rfl⟩))
 ·intro i b hi
  exact h.mine i b (hown i hi)
 ·intro i j b hi hj
  exact h.inj i j b (hown i hi) (hown j hj)
 ·intro t u hu
  have:=(hall t).1
  generalize (Av S' t).av = y' at hu this
  cases y' <;> simp [AV.guards] at hu
  simp [M5] at this
 ·intro i h0 hne
  refine h.ini i ((hall i).2.2 h0 hne) fun hh=>?_
  rcases hbx i with h1 | ⟨h1,_⟩ | ⟨sz,e,xs,_,h1⟩ | ⟨cs,cs',h1,_,_⟩
  ·exact hne h1
  ·rw [hh] at h1; exact hne h1.symm
  ·rw [hh] at h1; cases h1
  ·rw [hh] at h1; cases h1
theorem AE.know (h:AE X G β S a w) {t:Nat} {x:D} (hx:∀ v,a.tmps[t]? = some v→AB (OS β X S) w v x):AE X G β (Gy S t (.d x)) a w:=by
 have hb:∀ i,(Av (Gy S t (.d x)) i).box = (Av S i).box∧(Av (Gy S t (.d x)) i).ver = (Av S i).ver:=by
  intro i
  rw [CW]
  split
  ·rename_i e; rw [e.1]; exact ⟨rfl,rfl⟩
  ·exact ⟨rfl,rfl⟩
 have hO:OS β X (Gy S t (.d x)) = OS β X S:=by funext b; simp only [OS,hb]
 have hv:AU (Gy S t (.d x)) = AU S:=by funext i; simp only [AU,hb]
 refine ⟨by rw [K9]; exact h.len,h.df,h.below,h.hbase,h.o₀,h.rs,?_,?_,?_,?_,?_,?_⟩
 ·intro i v hi
  rw [hO,hv,CW]
  split
  ·rename_i e; rw [e.1] at hi; exact hx v hi
  ·exact h.slots i v hi
 ·intro i; rw [hO,hv,(hb i).1]; exact h.boxes i
 ·intro i b; rw [(hb i).1]; exact h.mine i b
 ·intro i j b; rw [(hb i).1,(hb j).1]; exact h.inj i j b
 ·intro i u hu
  rw [CW] at hu
  split at hu
  ·simp [AV.guards] at hu
  ·exact h.gds i u hu
 ·intro i; rw [(hb i).1,(hb i).2]; exact h.ini i
theorem QY:∀ {frs:List Nat} {S:AS} {K:AS→Prop},Yo frs S K→AE X (fun _=>False) β S a w→∃ S',K S'∧AE X (fun _=>False) β S' a w
 | [],S,K,hy,h=>⟨S,hy,h⟩
 | t :: r,S,K,hy,h=>by
   have hy:Wt (ρOf S none (.tmp t)) fun x b=>N7 b S fun S=>PF S t (.d x) fun S=>Yo r S K:=hy
   obtain ⟨y,b,hK,hF,_,hh⟩:=HO (x:=X) (G:=fun _=>False) (a:=a) (ρ_sound h (g:=none) (fun _ _ e=>by cases e) (.tmp t)) hy
   rw [KP,PZ] at hK
   have hr:=hh.now h hF
   refine QY hK ((hF.run h).1.know fun v hv=>?_)
   have:a.eval (.tmp t) = v:=by simp [Act.eval,Array.getD_eq_getD_getElem?,hv]
   rw [this] at hr
   exact hr
theorem UN:∀ {ts:List Nat} {S:AS} {K:AS→Prop},ap ts S K→AE X (fun _=>False) β S a w→∃ S',K S'∧AE X (fun _=>False) β S' a w
 | [],S,K,hy,h=>⟨S,hy,h⟩
 | t :: r,S,K,hy,h=>by
   unfold ap at hy
   split at hy
   ·rename_i av cs n hst
    obtain ⟨l,b,hy,hF,hfr,hl,-,hh⟩:=Im h hy
    rw [NX,KP,Bz] at hy
    have hbv:(Av S t).box = .var cs:=by rw [hst]
    have hvv:(Av S t).ver = n:=by rw [hst]
    have hlt:t < S.length:=Lv hbv (by simp)
    obtain ⟨h1,hO,hfr1⟩:=hF.run h
    have hbx:=h1.boxes t
    have hno:∀ y∈b,y.1≠t:=fun y hy e=>by
     obtain ⟨sz,xs,hx⟩:=hfr y hy
     have hz:∀ {seen b:Bx},FZ S seen b→∀ y∈b,∃ seen',af S seen' y:=by
      intro seen b
      induction b generalizing seen with
      | nil=>intro _ y hy; cases hy
      | cons z q ih =>
        intro hf y hy
        rcases List.mem_cons.1 hy with e | e
        ·exact ⟨_,by rw [e]; exact hf.1⟩
        ·exact ih hf.2 y e
     obtain ⟨_,hz1⟩:=hz hF y hy
     rcases hz1.2 with ⟨sz',e',xs',k1,_⟩ | ⟨cs',ds',_,k2,_⟩ | ⟨k1,_⟩
     ·rw [e,hbv] at k1; cases k1
     ·rw [hx] at k2; cases k2
     ·rw [e,hbv,hx] at k1; cases k1
    have hbt:(Av (Be b S) t).box = .var cs:=(hfr1.other t hno).trans hbv
    have hvt:(Av (Be b S) t).ver = n:=(hfr1.ver t).trans hvv
    rw [hbt] at hbx
    obtain ⟨bb,vals,T,k1,k2,k3,k4⟩:=hbx
    have hbx0:=h.boxes t
    rw [hbv] at hbx0
    obtain ⟨bb0,vals0,T0,j1,j2,j3,j4⟩:=hbx0
    rw [k1] at j1
    simp at j1
    subst j1
    rw [k2] at j2
    simp at j2
    obtain ⟨rfl,rfl⟩:=j2
    have hrep:=(hh vals.toList (by simpa using k3) fun j v c hv hc=>j4 j v c (by simpa using hv) hc).now h hF
    have h2:=h1.rebox (R':=X.R) (id:=t) (B:=.var (l.map .d)) (v:=β t) (n:=n) (w':=w) (fun _ h=>h) (by rw [BP]; exact hlt) (.inr ⟨hvt.symm,rfl,by rw [hbt]; simp⟩) (Nat.le_refl _) (AT.refl _ _ _) (fun _ _ _=>rfl)
     (fun _ b hb=>⟨.inl ⟨hb,by rw [hbt]; rfl⟩,(h1.mine t b (by rw [hbt]; rfl) hb).2⟩)
     (fun k hv=>by
      rw [E3] at k hv ⊢
      refine ⟨bb,vals,T,k1,k2,by simp; rw [← hl]; exact k3,fun i u c hu hc=>?_⟩
      rw [List.getElem?_map] at hc
      cases hd:l[i]? with
      | none=>rw [hd] at hc; cases hc
      | some y =>
        rw [hd] at hc
        obtain rfl:=Option.some.inj hc
        have:=hrep.2 i u y (by simpa using hu) hd
        exact ⟨this.1.mono k,this.2⟩)
    rw [E3] at h2
    exact UN hy h2
   ·exact hy.elim
theorem AE.le (h:AE X (fun _=>False) β S a w) {S':AS} (hl:Le S S'):AE X (fun _=>False) β S' a w:=by
 obtain ⟨S1,h1,h2⟩:=QY hl h
 obtain ⟨S2,h3,h4⟩:=UN h1 h2
 exact h4.le0 h3
theorem Tw:∀ {ads:List (Nat × Nat × Nat × TypeId)} {S:AS} {β:Nat→Value} {K:AS→Prop},Uz ads S K→AE X (fun _=>False) β S a w→∃ β' S',K S'∧AE X (fun _=>False) β' S' a w
 | [],S,β,K,hy,h=>⟨β,S,hy,h⟩
 | (v,j,q,e) :: r,S,β,K,hy,h=>by
   unfold Uz at hy
   split at hy
   ·rename_i av cs n hsv
    split at hy
    ·rename_i s hcj
     obtain ⟨⟨hs0,hvq⟩,hy⟩:=Au hy
     obtain ⟨hq,hy⟩:=Mv _ _ _ hy
     rw [B5,KP] at hy
     have hbv:(Av S v).box = .var cs:=by rw [hsv]
     have hvv:(Av S v).ver = n:=by rw [hsv]
     have hlv:v < S.length:=Lv hbv (by simp)
     have hbx:=h.boxes v
     rw [hbv] at hbx
     obtain ⟨b,vals,T,k1,k2,k3,k4⟩:=hbx
     have hj:j < vals.size:=by rw [k3]; exact AD hcj
     have hcell:=k4 j vals[j] _ (by simp [hj]) hcj
     obtain ⟨ad,hval⟩:∃ ad,vals[j] = .slice ad 0 0:=by
      have:=hcell.1
      generalize vals[j] = u at this
      cases this
      exact ⟨_,rfl⟩
     obtain ⟨β',h1,hβ',_⟩:=cF h hq (n:=(Av S q).ver + 1) (Nat.lt_succ_self _) (R':=X.R) (fun _ h=>h) (Below.refl _ _) (v:=.slice ad 0 0) (e:=e) (xs:=[]) (vals:=[]) hs0 (fun _ h=>by cases h)
      (by cases ad with
       | none=>exact .inl (World.ownsRow_nil w _ e _)
       | some p=>exact .inr ⟨rfl,rfl,p,rfl⟩) (fun b hb=>by cases ad <;> simp [A1] at hb) Bo.nil
     have h1:AE X (fun _=>False) β' (Bq S q (.row s e []) ((Av S q).ver + 1)) a w:=h1
     have hβv:β' v = β v:=by rw [hβ']; simp [IY,hvq]
     have hβq:β' q = .slice ad 0 0:=by rw [hβ']; simp [IY]
     have hg1:Av (Bq S q (.row s e []) ((Av S q).ver + 1)) v = Av S v:=by rw [Ie hq]; simp [hvq]
     have hgq:(Av (Bq S q (.row s e []) ((Av S q).ver + 1)) q).ver = (Av S q).ver + 1:=by rw [Ie hq]; simp
     have hbx1:=h1.boxes v
     rw [hg1,hbv] at hbx1
     obtain ⟨b',vals',T',j1,j2,j3,j4⟩:=hbx1
     rw [hβv,k1] at j1
     simp at j1
     subst j1
     rw [k2] at j2
     simp at j2
     obtain ⟨rfl,rfl⟩:=j2
     have hlj:j < cs.length:=AD hcj
     have h2:=h1.rebox (R':=X.R) (id:=v) (B:=.var (splice cs j [.sl q ((Av S q).ver + 1)])) (v:=β' v) (n:=n) (w':=w) (fun _ h=>h) (by rw [Dx]; exact hlv) (.inr ⟨by rw [hg1,hvv],rfl,by rw [hg1,hbv]; simp⟩) (Nat.le_refl _) (AT.refl _ _ _) (fun _ _ _=>rfl)
      (fun _ b hb=>⟨.inl ⟨hb,by rw [hg1,hbv]; rfl⟩,(h1.mine v b (by rw [hg1,hbv]; rfl) hb).2⟩)
      (fun k hv=>by
       rw [E3] at k hv ⊢
       refine ⟨b,vals,T,by rw [hβv,k1],k2,?_,fun i u c hu hc=>?_⟩
       ·rw [Em _ _ _ (by omega)]; simp; omega
       ·rw [Em _ _ _ (by omega)] at hc
        have hlt:(cs.take j).length = j:=by simp; omega
        rcases Nat.lt_trichotomy i j with hi | hi | hi
        ·rw [List.append_assoc,List.getElem?_append_left (by rw [hlt]; exact hi),List.getElem?_take_of_lt hi] at hc
         exact (j4 i u c hu hc).mono k hv
        ·subst hi
         rw [List.append_assoc,List.getElem?_append_right (by rw [hlt]; exact Nat.le_refl _),hlt] at hc
         simp at hc
         subst hc
         refine BK.mono k hv ?_
         have:u = vals[i]:=by simp [hj] at hu; exact hu.symm
         rw [this]
         exact ⟨by simp only [AU]; rw [hgq]; exact Nat.le_refl _,fun _=>by rw [hβq,hval]⟩
        ·rw [List.append_assoc,List.getElem?_append_right (by rw [hlt]; omega),hlt] at hc
         rw [show ([C.sl q ((Av S q).ver + 1)]++cs.drop (j + [C.sl q ((Av S q).ver + 1)].length)) = C.sl q ((Av S q).ver + 1) :: cs.drop (j + 1) from rfl] at hc
         rw [show i - j = (i - j - 1) + 1 by omega,List.getElem?_cons_succ,List.getElem?_drop] at hc
         exact (j4 i u c hu (by rw [show i = j + 1 + (i - j - 1) by omega]; exact hc)).mono k hv)
     rw [E3] at h2
     exact Tw hy h2
    ·exact hy.elim
   ·exact hy.elim
theorem aU (h:AE X (fun _=>False) β S a w) {c:Operand} {b:Bool} (hc:ρOf S none c = .d (.bool b)):a.eval c = .bool b:=by
 have:=ρ_sound h (g:=none) (fun _ _ e=>by cases e) c
 rw [hc] at this
 exact Ek this
def fe (X:Cx) (Q:Exit→AS→Prop) (e:Exit) (a:Act) (w:World):Prop:=∃ β S,Q e S∧AE X (fun _=>False) β S a w
def MO (P:Program):Prop:=∀ (id:Nat) (ops:Array Oper) (Q:Exit→AS→Prop) (S:AS) (X:Cx) (β:Nat→Value) (a:Act) (w:World),
 bE P [] (.region id ops true) Q S→AE X (fun _=>False) β S a w→(Code.region id ops true).wp P (fe X Q) a w
theorem fq (p:Nat→Prop):∀ n,p n→∃ m,p m∧∀ k,p k→m≤k:=by
 intro n
 induction n using Nat.strongRecOn with
 | _ n ih =>
   intro hn
   by_cases hk:∃ k,k < n∧p k
   ·obtain ⟨k,h1,h2⟩:=hk; exact ih k h1 h2
   ·exact ⟨n,hn,fun k hk'=>Nat.le_of_not_lt fun hlt=>hk ⟨k,hlt,hk'⟩⟩
theorem ER {J:List Nat} (hdraw:MO P):∀ (c:Code) {Q:Exit→AS→Prop} {S:AS} {β:Nat→Value} {a:Act} {w:World},bE P J c Q S→AE X (fun _=>False) β S a w→c.wp P (fe X Q) a w
 | .skip,Q,S,β,a,w,hy,h=>wp_skip ⟨β,S,hy,h⟩
 | .label _,Q,S,β,a,w,hy,h=>wp_label ⟨β,S,hy,h⟩
 | .region id ops draw,Q,S,β,a,w,hy,h=>by
   cases draw with
   | true=>exact hdraw id ops Q S X β a w hy h
   | false =>
     have hy:eH P ops.toList [] ops.toList S fun S=>plain S (Q .normal):=hy
     refine wp_region_list (Rr hy (h.weaken fun _ hf=>hf.elim) fun β' S' a' w' done' hK hs=>?_)
     rw [Vg] at hK
     exact ⟨β',_,hK,hs.plain⟩
 | .seq x y,Q,S,β,a,w,hy,h=>by
   have hy:match cA J y with
    | false=>bE P J x (fun e S=>match e with | .normal=>bE P J y Q S | e=>Q e S) S
    | true=>Uv S (bE P J x) (bE P J y) Q:=hy
   split at hy
   ·refine wp_seq (wp_mono (ER hdraw x hy h) fun e a' w' hq=>?_)
    obtain ⟨β',S',hq,hs⟩:=hq
    cases e with
    | normal=>exact ER hdraw y hq hs
    | exit id=>exact ⟨β',S',hq,hs⟩
    | goto l=>exact ⟨β',S',hq,hs⟩
    | ret=>exact ⟨β',S',hq,hs⟩
    | panic ch=>exact ⟨β',S',hq,hs⟩
    | outgrown=>exact ⟨β',S',hq,hs⟩
   ·obtain ⟨ι,Inv,hx,hall⟩:=hy.go
    simp only [HM] at hall
    refine wp_seq (wp_mono (ER hdraw x hx h) fun e a' w' hq=>?_)
    obtain ⟨β',S',hq,hs⟩:=hq
    cases e with
    | normal =>
      obtain ⟨i,hle⟩:=hq
      exact ER hdraw y (hall i) (hs.le hle)
    | exit id=>exact ⟨β',S',hq,hs⟩
    | goto l=>exact ⟨β',S',hq,hs⟩
    | ret=>exact ⟨β',S',hq,hs⟩
    | panic ch=>exact ⟨β',S',hq,hs⟩
    | outgrown=>exact ⟨β',S',hq,hs⟩
 | .cond c x y,Q,S,β,a,w,hy,h=>by
   have hy:match ρOf S none c with
    | .d (.bool b)=>T2 b (bE P J x Q S) (bE P J y Q S)
    | _=>False:=hy
   split at hy
   ·rename_i b hb
    exact wp_cond_split (aU h hb) (fun ht=>ER hdraw x (hy.pos ht) h) (fun hf=>ER hdraw y (hy.neg hf) h)
   ·exact hy.elim
 | .ret,Q,S,β,a,w,hy,h=>wp_ret ⟨β,S,hy,h⟩
 | .block id c,Q,S,β,a,w,hy,h=>by
   have hy:bE P J c (fun e S=>match e with | .exit id'=>if id' = id then Q .normal S else Q (.exit id') S | e=>Q e S) S:=hy
   refine wp_block (wp_mono (ER hdraw c hy h) fun e a' w' hq=>?_)
   obtain ⟨β',S',hq,hs⟩:=hq
   cases e with
   | exit id' =>
     simp only [Exit.inBlock] at hq ⊢
     split
     ·rename_i he; rw [if_pos he] at hq; exact ⟨β',S',hq,hs⟩
     ·rename_i he; rw [if_neg he] at hq; exact ⟨β',S',hq,hs⟩
   | normal=>exact ⟨β',S',hq,hs⟩
   | goto l=>exact ⟨β',S',hq,hs⟩
   | ret=>exact ⟨β',S',hq,hs⟩
   | panic ch=>exact ⟨β',S',hq,hs⟩
   | outgrown=>exact ⟨β',S',hq,hs⟩
 | .exit id,Q,S,β,a,w,hy,h=>wp_exit ⟨β,S,hy,h⟩
 | .loop c,Q,S,β,a,w,hy,h=>by
   have hy:R3 S (bE P J c) Q:=hy
   obtain ⟨ads,frs,ι,Inv,μ,i₀,hle,hround⟩:=hy.go
   simp only [HM] at hround
   obtain ⟨β,S,hle,h⟩:=Tw hle h
   obtain ⟨S,hle,h⟩:=QY hle h
   let I:Act→World→Nat→Prop:=fun a w n=>∃ i β,μ i = n∧AE X (fun _=>False) β (Inv i) a w
   have hex:∃ n,I a w n:=⟨_,i₀,β,rfl,h.le hle⟩
   have spec:∀ a w,(∃ n,I a w n)→I a w (Classical.epsilon fun m=>I a w m∧∀ k,I a w k→m≤k)∧∀ k,I a w k→(Classical.epsilon fun m=>I a w m∧∀ k,I a w k→m≤k)≤k :=
    fun a w ⟨n,hn⟩=>Classical.epsilon_spec (p:=fun m=>I a w m∧∀ k,I a w k→m≤k) (fq (I a w) n hn)
   refine wp_loop (fun a w=>∃ n,I a w n) (fun a w=>Classical.epsilon fun m=>I a w m∧∀ k,I a w k→m≤k) hex fun a w hI=>?_
   obtain ⟨i,β,hi,hs⟩:=(spec a w hI).1
   refine wp_mono (ER hdraw c (hround i) hs) fun e a' w' hq=>?_
   obtain ⟨β',S',hq,hs'⟩:=hq
   cases e with
   | normal =>
     obtain ⟨j,hlj,hlt⟩:=hq
     have hI':I a' w' (μ j):=⟨j,β',rfl,hs'.le hlj⟩
     refine ⟨⟨_,hI'⟩,?_⟩
     have:=(spec a' w' ⟨_,hI'⟩).2 _ hI'
     rw [← hi]
     exact Nat.lt_of_le_of_lt this hlt
   | exit id=>exact ⟨β',S',hq,hs'⟩
   | goto l=>exact ⟨β',S',hq,hs'⟩
   | ret=>exact ⟨β',S',hq,hs'⟩
   | panic ch=>exact ⟨β',S',hq,hs'⟩
   | outgrown=>exact ⟨β',S',hq,hs'⟩
 | .scope _,_,_,_,_,_,hy,_=>hy.elim
 | .goto _,_,_,_,_,_,hy,_=>hy.elim
 | .refuse _,_,_,_,_,_,hy,_=>hy.elim
 | .rangeFunc _ _ _ _,_,_,_,_,_,hy,_=>hy.elim
end
end Go.Abs
set_option linter.unusedVariables false
set_option linter.unusedSimpArgs false
namespace Go.Abs
open Go.RowKit (Below)
section
variable {P:Program} {X:Cx} {β:Nat→Value} {S:AS} {a:Act} {w:World}
def QL (tmps:Array Value):ResultVar→Sem Value
 | .tmp t=>pure (tmps.getD t undef)
 | .cell a t=>do loadVar t (← asAddr (tmps.getD a undef))
theorem no:BB none a:=fun _ _ e=>by cases e
def Uy (X:Cx) (β:Nat→Value) (S:AS) (a:Act) (w:World) (used:List Nat) (frz:Bx) (v:Value):C→Prop
 | .d y=>Ji X (fun _=>False) β S a w frz fun O=>AB O w v y
 | .own sz e xs=>∃ id,id∈used∧v = β id∧(Av S id).box = .row sz e xs∧∀ x∈xs,∀ y∈x.cells,y.bare = true
 | .sl _ _=>False
theorem Uy.mono {used used':List Nat} {frz frz':Bx} (hu:∀ i∈used,i∈used') (hf:∀ y∈frz,y∈frz') {v:Value} {c:C} (h:Uy X β S a w used frz v c):Uy X β S a w used' frz' v c:=by
 cases c with
 | d y=>exact Ji.mono (show Ji X (fun _=>False) β S a w frz fun O=>AB O w v y from h) hf fun _ h=>h
 | own sz e xs=>obtain ⟨id,h1,h2⟩:=h; exact ⟨id,hu id h1,h2⟩
 | sl _ _=>exact h
theorem Ww:∀ {cs:List C} {K:List D→Prop},Xn cs K→∃ l,K l∧cs = l.map .d
 | [],K,h=>⟨[],h,rfl⟩
 | .d x :: r,K,h=>by
   have h:Xn r fun l=>K (x :: l):=h
   obtain ⟨l,h1,h2⟩:=Ww h
   exact ⟨_,h1,by rw [h2]; rfl⟩
 | .sl _ _ :: r,K,h=>h.elim
 | .own _ _ _ :: r,K,h=>h.elim
theorem Mq (h:AE X (fun _=>False) β S a w):∀ {rs:List ResultVar} {used:List Nat} {frz:Bx} {K:List C→List Nat→Bx→Prop},P7 P S used frz rs K→FZ S [] frz→(∀ i∈used,(Av S i).box.owned = true) →
 ∃ cs used' frz',K cs used' frz'∧FZ S [] frz'∧(∀ i∈used,i∈used')∧(∀ y∈frz,y∈frz')∧(∀ i∈used',(Av S i).box.owned = true)∧∃ vs:List Value,(rs.mapM (QL a.tmps)).run P w = .ok vs w∧vs.length = cs.length ∧
   (∀ (i:Nat) v c,vs[i]? = some v→cs[i]? = some c→Uy X β S a w used' frz' v c) ∧
   (∀ (i:Nat) v sz e xs b,vs[i]? = some v→cs[i]? = some (.own sz e xs)→A1 v = some b→∀ j∈used,A1 (β j)≠some b) ∧
   (∀ (i j:Nat) v v' sz e xs sz' e' xs' b,vs[i]? = some v→vs[j]? = some v'→cs[i]? = some (.own sz e xs)→cs[j]? = some (.own sz' e' xs')→A1 v = some b→A1 v' = some b→i = j)
 | [],used,frz,K,hy,hF,hu=>⟨[],used,frz,hy,hF,(fun _ h=>h),(fun _ h=>h),hu,[],rfl,rfl,(fun i v c hv=>by simp at hv),(fun i v sz e xs b hv=>by simp at hv),fun i j v v' sz e xs sz' e' xs' b hv=>by simp at hv⟩
 | .tmp t :: r,used,frz,K,hy,hF,hu=>by
   have data:∀ (y:D) (b:Bx),FZ S [] b→Ji X (fun _=>False) β S a w b (fun O=>AB O w (a.eval (.tmp t)) y)→(P7 P S used (frz++b) r fun l u b=>K (.d y :: l) u b) →
    ∃ cs used' frz',K cs used' frz'∧FZ S [] frz'∧(∀ i∈used,i∈used')∧(∀ y∈frz,y∈frz')∧(∀ i∈used',(Av S i).box.owned = true)∧∃ vs:List Value,((ResultVar.tmp t :: r).mapM (QL a.tmps)).run P w = .ok vs w∧vs.length = cs.length ∧
    (∀ (i:Nat) v c,vs[i]? = some v→cs[i]? = some c→Uy X β S a w used' frz' v c) ∧
    (∀ (i:Nat) v sz e xs b,vs[i]? = some v→cs[i]? = some (.own sz e xs)→A1 v = some b→∀ j∈used,A1 (β j)≠some b) ∧
    (∀ (i j:Nat) v v' sz e xs sz' e' xs' b,vs[i]? = some v→vs[j]? = some v'→cs[i]? = some (.own sz e xs)→cs[j]? = some (.own sz' e' xs')→A1 v = some b→A1 v' = some b→i = j):=by
    intro y b hFb hh hy
    obtain ⟨cs,used',frz',hK,k1,k2,k3,k3',vs,k4,k5,k6,k7,k8⟩:=Mq h hy (hF.append hFb) hu
    refine ⟨_,used',frz',hK,k1,k2,fun y hy=>k3 y (by simp [hy]),k3',a.eval (.tmp t) :: vs,?_,by simp [k5],fun i v c hv hc=>?_,fun i v sz e xs b hv hc=>?_,fun i j v v' sz e xs sz' e' xs' b hv hv' hc hc' hb hb'=>?_⟩
    ·simp only [List.mapM_cons,QL,Sem.run_bind,Sem.run_pure,Result.andThen_ok,k4]
     rfl
    ·cases i with
     | zero=>simp at hv hc; subst hv; subst hc; exact hh.mono (fun y hy=>k3 y (by simp [hy])) fun _ h=>h
     | succ i=>exact k6 i v c (by simpa using hv) (by simpa using hc)
    ·cases i with
     | zero=>simp at hc
     | succ i=>exact k7 i v sz e xs b (by simpa using hv) (by simpa using hc)
    ·cases i with
     | zero=>simp at hc
     | succ i=>cases j with
       | zero=>simp at hc'
       | succ j=>rw [k8 i j v v' sz e xs sz' e' xs' b (by simpa using hv) (by simpa using hv') (by simpa using hc) (by simpa using hc') hb hb']
   unfold P7 at hy
   have hr:=ρ_sound h no (.tmp t)
   split at hy
   ·rename_i id n sz e xs hx
    rw [hx] at hr
    rcases hy.go with hy | hy
    ·obtain ⟨y,b,hK,hFb,_,hh⟩:=HO (x:=X) (G:=fun _=>False) (a:=a) (K:=fun y b=>y = .list sz xs∧b = [(id,BJ.frow sz xs,n)]) hr ⟨rfl,rfl⟩
     obtain ⟨rfl,rfl⟩:=hK
     exact data _ _ hFb hh hy
    ·split at hy
     ·exact hy.elim
     rename_i hcon
     obtain ⟨hbare,hy⟩:=hy
     obtain ⟨hb1,hb2,hb3⟩:=hr
     have hown:(Av S id).box.owned = true:=by rw [hb1]; rfl
     obtain ⟨cs,used',frz',hK,k1,k2,k3,k3',vs,k4,k5,k6,k7,k8⟩:=Mq h hy hF (fun i hi=>by
      rcases List.mem_cons.1 hi with rfl | hi
      ·exact hown
      ·exact hu i hi)
     refine ⟨_,used',frz',hK,k1,fun i hi=>k2 i (by simp [hi]),k3,k3',a.eval (.tmp t) :: vs,?_,by simp [k5],fun i v c hv hc=>?_,fun i v sz' e' xs' b hv hc hb j hj=>?_,fun i j v v' sz1 e1 xs1 sz' e' xs' b hv hv' hc hc' hb hb'=>?_⟩
     ·simp only [List.mapM_cons,QL,Sem.run_bind,Sem.run_pure,Result.andThen_ok,k4]
      rfl
     ·cases i with
      | zero=>simp at hv hc; subst hv; subst hc; exact ⟨id,k2 id (by simp),hb3,hb1,hbare⟩
      | succ i=>exact k6 i v c (by simpa using hv) (by simpa using hc)
     ·cases i with
      | zero =>
        simp at hv hc
        subst hv
        intro hjb
        rw [hb3] at hb
        have:=h.inj id j b hown (hu j hj) hb hjb
        subst this
        exact hcon (by simpa using hj)
      | succ i=>exact k7 i v sz' e' xs' b (by simpa using hv) (by simpa using hc) hb j (by simp [hj])
     ·cases i with
      | zero=>cases j with
        | zero=>rfl
        | succ j =>
          simp at hv
          subst hv
          rw [hb3] at hb
          exact absurd hb (k7 j v' sz' e' xs' b (by simpa using hv') (by simpa using hc') hb' id (by simp))
      | succ i=>cases j with
        | zero =>
          simp at hv'
          subst hv'
          rw [hb3] at hb'
          exact absurd hb' (k7 i v sz1 e1 xs1 b (by simpa using hv) (by simpa using hc) hb id (by simp))
        | succ j=>rw [k8 i j v v' sz1 e1 xs1 sz' e' xs' b (by simpa using hv) (by simpa using hv') (by simpa using hc) (by simpa using hc') hb hb']
   ·obtain ⟨y,b,hK,hFb,_,hh⟩:=SS (x:=X) (G:=fun _=>False) (a:=a) hr hy
    exact data y b hFb hh hK
 | .cell t ty :: r,used,frz,K,hy,hF,hu=>by
   unfold P7 at hy
   have hr:=ρ_sound h no (.tmp t)
   split at hy
   ·rename_i id n off cs0 hx
    rw [hx] at hr
    obtain ⟨hb,_,bb,hβ,hv⟩:=hr
    obtain ⟨l0,hy,hcs⟩:=Ww hy
    obtain ⟨vals,T,h3,h4,h5⟩:=KX h hb hβ
    obtain ⟨y,hy,v0,hl,hvr⟩:=Tc (P:=P) (O:=OS β X S) (w:=w) (b:=bb) (off:=off) hy (fun j y hy=>by
     simp only [List.getElem?_drop] at hy
     have hc:cs0[off + j]? = some (.d y):=by rw [hcs]; simp [hy]
     have hlt:off + j < vals.size:=by rw [h4]; exact AD hc
     have:=h5 (off + j) vals[off + j] _ (by simp [hlt]) hc
     exact ⟨vals[off + j],by simp [World.cell?,h3,hlt],this.1,this.2⟩)
    rw [I0] at hy
    obtain ⟨cs,used',frz',hK,k1,k2,k3,k3',vs,k4,k5,k6,k7,k8⟩:=Mq h hy hF hu
    have hv':a.tmps.getD t undef = .pointer (some ⟨bb,off,none⟩):=hv
    refine ⟨_,used',frz',hK,k1,k2,k3,k3',v0 :: vs,?_,by simp [k5],fun i v c hv hc=>?_,fun i v sz e xs b hv hc=>?_,fun i j v v' sz e xs sz' e' xs' b hv hv' hc hc' hb hb'=>?_⟩
    ·simp only [List.mapM_cons,QL,hv',asAddr,Sem.run_bind,Sem.run_pure,Result.andThen_ok,hl,k4]
    ·cases i with
     | zero=>simp at hv hc; subst hv; subst hc; exact fun B _ _ _ hk=>(hvr.mono (B4.of_sub hk)).norm
     | succ i=>exact k6 i v c (by simpa using hv) (by simpa using hc)
    ·cases i with
     | zero=>simp at hc
     | succ i=>exact k7 i v sz e xs b (by simpa using hv) (by simpa using hc)
    ·cases i with
     | zero=>simp at hc
     | succ i=>cases j with
       | zero=>simp at hc'
       | succ j=>rw [k8 i j v v' sz e xs sz' e' xs' b (by simpa using hv) (by simpa using hv') (by simpa using hc) (by simpa using hc') hb hb']
   ·exact hy.elim
theorem Mr {fn:Func} {vs:List Value} (h:(fn.results.toList.mapM (QL a.tmps)).run P w = .ok vs w) :
 (results fn a.tmps).run P w = .ok (if h:vs.toArray.size = 1 then vs.toArray[0] else .tuple vs.toArray) w:=by
 have e:(fn.results.mapM (QL a.tmps)).run P w = .ok vs.toArray w:=by
  rw [Array.mapM_eq_mapM_toList,Sem.run_map,h]
  simp
 have e2:results fn a.tmps = (do let vs ← fn.results.mapM (QL a.tmps); pure (if h:vs.size = 1 then vs[0] else .tuple vs)):=by
  unfold results
  congr 2
 rw [e2,Sem.run_bind,e]
 rfl
theorem SR {used:List Nat} {frz:Bx} (h:used.all (fun i=>DX i frz) = true):∀ i∈used,∀ y∈frz,y.1≠i:=fun i hi=>Do (List.all_eq_true.1 h i hi)
theorem Vt (h:AE X (fun _=>False) β S a w) {fn:Func} {used:List Nat} {frz:Bx} {r:AV} (hF:FZ S [] frz) (hu:∀ i∈used,(Av S i).box.owned = true) (hy:b5 P fn.results.toList used frz S r) :
 ∃ v T,(results fn a.tmps).run P w = .ok v w∧AE X (fun _=>False) β T a w∧(∀ i∈used,Av T i = Av S i)∧(∀ z∈frz,(Av T z.1).box = z.2.1)∧(∃ F,(∀ y∈frz,y∈F)∧Fr S F T) ∧
   C9 (fun b=>X.mine b∧∀ i∈used,A1 (β i)≠some b) (OS β X T) w v r∧(∀ b,CC v r b→OS β X T b):=by
 have ownR:∀ {T:AS} {used':List Nat} {v:Value} {sz:Nat} {e:TypeId} {xs:List D},AE X (fun _=>False) β T a w→(∀ i∈used',Av T i = Av S i)→(∃ id,id∈used'∧v = β id∧(Av S id).box = .row sz e xs∧∀ x∈xs,∀ y∈x.cells,y.bare = true) →
  (∀ b,A1 v = some b→∀ j∈used,A1 (β j)≠some b)→Ux (fun b=>X.mine b∧∀ i∈used,A1 (β i)≠some b) w v sz e xs∧∀ b,A1 v = some b→OS β X T b:=by
  intro T used' v sz e xs hT hsame ⟨id,h1,h2,h3,h4⟩ hne
  have hbT:(Av T id).box = .row sz e xs:=by rw [hsame id h1]; exact h3
  have hown:(Av T id).box.owned = true:=by rw [hbT]; rfl
  have hb:=hT.boxes id
  rw [hbT] at hb
  obtain ⟨k1,k2,vals,k3,k4⟩:=hb
  refine ⟨⟨k1,k2,fun b hbb=>⟨(hT.mine id b hown (by rw [← h2]; exact hbb)).1,hne b hbb⟩,vals,by rw [h2]; exact k3,?_⟩,fun b hbb=>.inr (.inr ⟨id,hown,by rw [← h2]; exact hbb⟩)⟩
  refine ⟨k4.1,fun j u y hu hy=>?_⟩
  have:=k4.2 j u y hu hy
  refine ⟨Qr this.1 ?_,this.2⟩
  have hm:=List.mem_of_getElem? hy
  obtain ⟨x,hx,hyx⟩:=List.mem_flatMap.1 hm
  exact h4 x hx y hyx
 have rest:∀ {rs:List ResultVar},rs = fn.results.toList→(P7 P S used frz rs fun l u b=>dD l u b r)→∃ v T,(results fn a.tmps).run P w = .ok v w∧AE X (fun _=>False) β T a w∧(∀ i∈used,Av T i = Av S i)∧(∀ z∈frz,(Av T z.1).box = z.2.1)∧(∃ F,(∀ y∈frz,y∈F)∧Fr S F T) ∧
  C9 (fun b=>X.mine b∧∀ i∈used,A1 (β i)≠some b) (OS β X T) w v r∧(∀ b,CC v r b→OS β X T b):=by
  intro rs hrs hy
  obtain ⟨cs,used',frz',hK,k1,k2,k3,k3',vs,k4,k5,k6,k7,k8⟩:=Mq h hy hF hu
  unfold dD at hK
  obtain ⟨hall,hK2⟩:=Au hK
  clear hK
  have hnot:=SR hall
  obtain ⟨t1,t2,t3⟩:=k1.run h
  have hsame:∀ i∈used',Av (Be frz' S) i = Av S i:=by
   intro i hi
   have e1:=t3.other i (hnot i hi)
   have e2:=t3.ver i
   have e3:=t3.av i
   generalize Av (Be frz' S) i = p at e1 e2 e3
   generalize Av S i = q at e1 e2 e3
   obtain ⟨_,_,_⟩:=p
   obtain ⟨_,_,_⟩:=q
   simp only at e1 e2 e3
   rw [e1,e2,e3]
  have hdat:∀ (i:Nat) v y,vs[i]? = some v→cs[i]? = some (.d y)→AB (OS β X (Be frz' S)) w v y:=fun i v y hv hc=>(show Ji X (fun _=>False) β S a w frz' fun O=>AB O w v y from k6 i v _ hv hc) frz' (fun _ h=>h) t3 t1 t2
  have hrow:∀ (i:Nat) v sz e xs,vs[i]? = some v→cs[i]? = some (.own sz e xs)→Ux (fun b=>X.mine b∧∀ i∈used,A1 (β i)≠some b) w v sz e xs∧∀ b,A1 v = some b→OS β X (Be frz' S) b:=by
   intro i v sz e xs hv hc
   exact ownR t1 hsame (k6 i v _ hv hc) (fun b hb=>k7 i v sz e xs b hv hc hb)
  have GD:∀ v,(results fn a.tmps).run P w = .ok v w→C9 (fun b=>X.mine b∧∀ i∈used,A1 (β i)≠some b) (OS β X (Be frz' S)) w v r→(∀ b,CC v r b→OS β X (Be frz' S) b)→∃ v T,(results fn a.tmps).run P w = .ok v w∧AE X (fun _=>False) β T a w∧(∀ i∈used,Av T i = Av S i)∧(∀ z∈frz,(Av T z.1).box = z.2.1)∧(∃ F,(∀ y∈frz,y∈F)∧Fr S F T) ∧
   C9 (fun b=>X.mine b∧∀ i∈used,A1 (β i)≠some b) (OS β X T) w v r∧(∀ b,CC v r b→OS β X T b) :=
   fun v hv hr hb=>⟨v,_,hv,t1,fun i hi=>hsame i (k2 i hi),fun z hz=>t3.mem z (k3 z hz),⟨frz',k3,t3⟩,hr,hb⟩
  have hrun:=Mr (P:=P) (w:=w) (a:=a) (fn:=fn) (vs:=vs) (by rw [← hrs]; exact k4)
  have tup:eo (.tup cs) r→cs.length≠1→∃ v T,(results fn a.tmps).run P w = .ok v w∧AE X (fun _=>False) β T a w∧(∀ i∈used,Av T i = Av S i)∧(∀ z∈frz,(Av T z.1).box = z.2.1)∧(∃ F,(∀ y∈frz,y∈F)∧Fr S F T) ∧
   C9 (fun b=>X.mine b∧∀ i∈used,A1 (β i)≠some b) (OS β X T) w v r∧(∀ b,CC v r b→OS β X T b):=by
   intro hr hne
   have hl:¬ vs.toArray.size = 1:=by intro hh; apply hne; rw [← k5]; simpa using hh
   rw [dif_neg hl] at hrun
   have hr:=hr.go
   subst hr
   have hres:∀ b,CC (.tuple vs.toArray) (.tup cs) b→OS β X (Be frz' S) b:=by
    rintro b ⟨vs',i,u,sz,e,ys,h1,h2,h3,h4⟩
    cases h1
    exact (hrow i u sz e ys (by simpa using h2) h3).2 b h4
   refine GD _ hrun ⟨vs.toArray,rfl,by simpa using k5,fun i u c hu' hc=>?_,fun i j u u' sz e ys sz' e' ys' b h1 h2 h3 h4 h5 h6=>k8 i j u u' sz e ys sz' e' ys' b (by simpa using h1) (by simpa using h2) h3 h4 h5 h6⟩ hres
   cases c with
   | d y =>
     refine AB.mono (B4.of_sub fun b hb=>?_) (hdat i u y (by simpa using hu') hc)
     rcases hb with hb | hb
     ·exact hb
     ·exact hres b hb
   | own sz e ys=>exact (hrow i u sz e ys (by simpa using hu') hc).1
   | sl _ _=>exact (k6 i u _ (by simpa using hu') hc).elim
  match cs,hK2,k5,k6,k7,k8,hdat,hrow,tup with
  | [],hK2,k5,k6,k7,k8,hdat,hrow,tup=>exact tup hK2 (by simp)
  | c1 :: c2 :: q,hK2,k5,k6,k7,k8,hdat,hrow,tup=>exact tup hK2 (by simp)
  | [c],hK2,k5,k6,k7,k8,hdat,hrow,tup =>
    have hl:vs.length = 1:=k5
    obtain ⟨v,rfl⟩:=List.length_eq_one_iff.1 hl
    have hrv:(results fn a.tmps).run P w = .ok v w:=by simpa using hrun
    have hr:=(show eo (fO c) r from hK2).go
    subst hr
    cases c with
    | d y=>exact GD v hrv (hdat 0 v y rfl rfl) (fun b hb=>hb.elim)
    | own sz e xs =>
      obtain ⟨j1,j2⟩:=hrow 0 v sz e xs rfl rfl
      exact GD v hrv j1 j2
    | sl _ _=>exact (k6 0 v _ rfl rfl).elim
 unfold b5 at hy
 split at hy
 ·
  rename_i k0 l0
  split at hy <;> try exact hy.elim
  rename_i t hrs
  split at hy <;> try exact hy.elim
  rename_i id n sz e xs hx
  have hr:=ρ_sound h no (.tmp t)
  rw [hx] at hr
  obtain ⟨hb1,hb2,hv⟩:=hr
  split at hy
  ·exact hy.elim
  rename_i hcon
  obtain ⟨hall,hK⟩:=Au hy
  have hK:=hK.go
  cases hK
  have hnot:=SR hall
  obtain ⟨t1,t2,t3⟩:=hF.run h
  have hsame:∀ i∈id :: used,Av (Be frz S) i = Av S i:=by
   intro i hi
   have e1:=t3.other i (hnot i hi)
   have e2:=t3.ver i
   have e3:=t3.av i
   generalize Av (Be frz S) i = p at e1 e2 e3
   generalize Av S i = q at e1 e2 e3
   obtain ⟨_,_,_⟩:=p
   obtain ⟨_,_,_⟩:=q
   simp only at e1 e2 e3
   rw [e1,e2,e3]
  have hbT:(Av (Be frz S) id).box = .row sz e xs:=by rw [hsame id (by simp)]; exact hb1
  have hown:(Av (Be frz S) id).box.owned = true:=by rw [hbT]; rfl
  have hb:=t1.boxes id
  rw [hbT] at hb
  obtain ⟨k1,k2,vals,k3,k4⟩:=hb
  have hrun:(results fn a.tmps).run P w = .ok (β id) w:=by
   have:=Mr (P:=P) (w:=w) (a:=a) (fn:=fn) (vs:=[β id]) (by
    rw [hrs]
    simp only [List.mapM_cons,QL,List.mapM_nil,Sem.run_bind,Sem.run_pure,Result.andThen_ok]
    rw [← hv]; rfl)
   simpa using this
  refine ⟨β id,_,hrun,t1,fun i hi=>hsame i (by simp [hi]),fun z hz=>t3.mem z hz,⟨_,fun y hy=>hy,t3⟩,⟨k1,k2,fun b hbb=>⟨(t1.mine id b hown hbb).1,fun i hi hbi=>?_⟩,vals,k3,k4.mono (B4.of_sub fun b hb=>?_)⟩,fun b' hb'=>.inr (.inr ⟨id,hown,hb'⟩)⟩
  ·have:=h.inj id i b (by rw [hb1]; rfl) (hu i hi) hbb hbi
   subst this
   exact hcon (by simpa using hi)
  ·rcases hb with hb | hb
   ·exact hb
   ·exact .inr (.inr ⟨id,hown,hb⟩)
 split at hy
 ·rename_i t hrs
  split at hy
  ·rename_i id n cs hx
   have hr:=ρ_sound h no (.tmp t)
   rw [hx] at hr
   obtain ⟨hb1,hb2,bb,hβ,hv⟩:=hr
   split at hy
   ·exact hy.elim
   rename_i hcon
   obtain ⟨l,b,hK,hFb,hfr,hcd,hh⟩:=Lf h hy
   obtain ⟨hall,hK⟩:=Au hK
   obtain ⟨rfl⟩:=hK
   have hnot:=SR hall
   have hFF:=hF.append hFb
   obtain ⟨t1,t2,t3⟩:=hFF.run h
   have hsame:∀ i∈id :: used,Av (Be (frz++b) S) i = Av S i:=by
    intro i hi
    have e1:=t3.other i (hnot i hi)
    have e2:=t3.ver i
    have e3:=t3.av i
    generalize Av (Be (frz++b) S) i = p at e1 e2 e3
    generalize Av S i = q at e1 e2 e3
    obtain ⟨_,_,_⟩:=p
    obtain ⟨_,_,_⟩:=q
    simp only at e1 e2 e3
    rw [e1,e2,e3]
   have hbT:(Av (Be (frz++b) S) id).box = .var cs:=by rw [hsame id (by simp)]; exact hb1
   have hown:(Av (Be (frz++b) S) id).box.owned = true:=by rw [hbT]; rfl
   obtain ⟨vals,T,q1,q2,q3⟩:=KX t1 hbT hβ
   have hcd':Jh S (frz++b) cs l:=hcd.mono fun y hy=>by simp [hy]
   have hrep:=PO t3 t1 hcd' (vals:=vals.toList) (by simpa using q2) (fun j v c hv hc=>q3 j v c (by simpa using hv) hc)
   have hblk:A1 (β id) = some bb:=by rw [hβ]; rfl
   have hvb:a.eval (.tmp t) = β id:=by rw [hv,hβ]
   have hrun:(results fn a.tmps).run P w = .ok (β id) w:=by
    have:=Mr (P:=P) (w:=w) (a:=a) (fn:=fn) (vs:=[β id]) (by
     rw [hrs]
     simp only [List.mapM_cons,QL,List.mapM_nil,Sem.run_bind,Sem.run_pure,Result.andThen_ok]
     rw [← hvb]; rfl)
    simpa using this
   refine ⟨β id,_,hrun,t1,fun i hi=>hsame i (by simp [hi]),fun z hz=>t3.mem z (by simp [hz]),⟨_,fun y hy=>by simp [hy],t3⟩,⟨fun b' hb'=>⟨(t1.mine id b' hown hb').1,fun i hi hbi=>?_⟩,bb,vals,T,hβ,q1,?_⟩,fun b' hb'=>.inr (.inr ⟨id,hown,hb'⟩)⟩
   ·have:=h.inj id i b' (by rw [hb1]; rfl) (hu i hi) hb' hbi
    subst this
    exact hcon (by simpa using hi)
   ·refine hrep.mono (B4.of_sub fun b' hb'=>?_)
    rcases hb' with hb' | hb'
    ·exact hb'
    ·exact .inr (.inr ⟨id,hown,hb'⟩)
  ·exact rest rfl hy
 ·exact rest rfl hy
theorem Sn:∀ (args:List AV) (k:Nat) (S:AS),(enter k args S).length = args.length + (S.length - args.length)
 | [],_,S=>by simp [enter]
 | x :: r,k,S=>by simp only [enter,List.length_cons,Sn r,List.length_drop]; omega
theorem Sm:∀ n,(O3 n).length = n
 | 0=>rfl
 | n + 1=>by simp [O3,Sm n]
theorem V1:∀ n i,Av (O3 n) i = bH
 | 0,_=>rfl
 | _ + 1,0=>rfl
 | n + 1,i + 1=>V1 n i
theorem bA (k:Nat):∀ (S:AS) (i:Nat),Av (S.drop k) i = Av S (k + i):=by
 induction k with
 | zero=>intro S i; simp
 | succ k ih =>
   intro S i
   cases S with
   | nil=>simp [Av]
   | cons s r=>rw [List.drop_succ_cons,ih,show k + 1 + i = (k + i) + 1 by omega]; rfl
theorem V2:∀ (args:List AV) (k:Nat) (S:AS) (i:Nat),Av (enter k args S) i = match args[i]? with | some x=>Lr (k + i) x | none=>Av S i
 | [],k,S,i=>by simp [enter]
 | x :: r,k,S,0=>by simp [enter,Av]
 | x :: r,k,S,i + 1=>by
   simp only [enter,Av,V2 r,List.getElem?_cons_succ]
   rw [show k + 1 + i = k + (i + 1) by omega]
   split
   ·rfl
   ·rw [bA,Nat.add_comm]
theorem S7 {w:World} {e:TypeId} {sz n:Nat} {v:Value} {vals:List Value} (h:Ca w e sz v n vals):NH v = v:=by
 obtain ⟨_,_,_,rfl⟩:=KH h; rfl
theorem PW (vs:Array Value) (u:Value):NH (.agg (vs.push u)) = u:=by simp [NH]
theorem S6 {O:Nat→Prop} {w:World} {v:Value} {x:AV} (h:Ye O w v x) (hm:x.mut = true):A1 (NH v) = A1 v:=by
 cases x <;> try (cases hm; done)
 ·obtain ⟨_,_,_,hr,_⟩:=h; rw [S7 hr]
 ·obtain ⟨b,_,_,rfl,_⟩:=h; rfl
 ·obtain ⟨_,vs,u,_,_,_,_,⟨_,rfl,_,_,_,_,hr,_⟩,_⟩:=h
  rw [PW,Yj (KH hr)]
theorem WH (i:Nat) (sz:Nat) (e:TypeId) (xs:List D):∀ ds:List D,YI i (ds.map .d++[.own sz e xs]) = ds.map .d++[.sl i 0]
 | []=>rfl
 | d :: r=>by simp only [List.map_cons,List.cons_append,YI,WH i sz e xs r]
theorem YY (sz:Nat) (e:TypeId) (xs:List D):∀ ds:List D,dF (ds.map .d++[.own sz e xs]) = .row sz e xs
 | []=>rfl
 | d :: r=>by simp only [List.map_cons,List.cons_append,dF,YY sz e xs r]
theorem aD {ds:List C} {ds':List C} {sz sz':Nat} {e e':TypeId} {xs xs':List D} (h:ds++[C.own sz e xs] = ds'++[C.own sz' e' xs']):ds = ds'∧sz = sz'∧e = e'∧xs = xs':=by
 obtain ⟨h1,h2⟩:=List.append_inj' h rfl
 simp at h2
 exact ⟨h1,h2⟩
theorem W4 {n:Nat} {args:List AV} {O M:Nat→Prop} {w:World} {vs:Array Value} (hO:∀ b,O b→b < w.heap.size) (hG:TT (fun b=>O b∨DV vs args b) w) (hlen:vs.size = args.length) (hMO:∀ b,DV vs args b→¬ O b)
 (hinj:∀ (i j:Nat) v v' x y b,vs[i]? = some v→vs[j]? = some v'→args[i]? = some x→args[j]? = some y→x.mut = true→y.mut = true→A1 v = some b→A1 v' = some b→i = j)
 (hargs:∀ (i:Nat) v x,vs[i]? = some v→args[i]? = some x→Ye (fun b=>O b∨DV vs args b) w v x) :
 AE ⟨w.heap.size,DV vs args,O,fun _=>False,w,fun i=>NH (vs.getD i undef),UP hG⟩ (fun _=>False) (fun i=>NH (vs.getD i undef)) (enter 0 args (O3 n)) { tmps:=vs++Array.replicate (n - vs.size) undef,defers:=[] } w:=by
 have hget:∀ i,Av (enter 0 args (O3 n)) i = match args[i]? with | some x=>Lr i x | none=>bH:=by
  intro i
  rw [V2]
  simp only [Nat.zero_add,V1]
 have hver:∀ i,(Av (enter 0 args (O3 n)) i).ver = 0:=by
  intro i
  rw [hget]
  split
  ·rename_i x _; cases x <;> rfl
  ·rfl
 have hval:∀ (i:Nat) x,args[i]? = some x→vs[i]? = some (vs.getD i undef):=by
  intro i x hx
  have:i < vs.size:=by rw [hlen]; exact AD hx
  simp [Array.getD,this]
 have hown:∀ i,(Av (enter 0 args (O3 n)) i).box.owned = true→∃ x,args[i]? = some x∧x.mut = true:=by
  intro i ho
  rw [hget] at ho
  split at ho
  ·rename_i x hx
   refine ⟨x,hx,?_⟩
   cases x <;> first | rfl | simp [Lr,BJ.owned] at ho
  ·simp [bH,BJ.owned] at ho
 have hOS:∀ b,OS (fun i=>NH (vs.getD i undef)) ⟨w.heap.size,DV vs args,O,fun _=>False,w,fun i=>NH (vs.getD i undef),UP hG⟩ (enter 0 args (O3 n)) b→O b∨DV vs args b:=by
  intro b hb
  rcases hb with hb | hb | ⟨i,h1,h2⟩
  ·exact .inl hb
  ·exact hb.elim
  ·obtain ⟨x,hx,hm⟩:=hown i h1
   exact .inr ⟨i,_,x,hval i x hx,hx,hm,by rw [← S6 (hargs i _ x (hval i x hx) hx) hm]; exact h2⟩
 refine ⟨?_,rfl,AT.refl _ _ _,Nat.le_refl _,fun b hb=>⟨hO b hb,fun hm=>hMO b hm hb⟩,(fun b hb=>hb.elim),?_,?_,?_,?_,?_,?_⟩
 ·rw [Sn,Sm]; simp [hlen]
 ·intro t v hv
  rw [hget]
  split
  ·rename_i x hx
   have hlt:t < vs.size:=by rw [hlen]; exact AD hx
   rw [Array.getElem?_append_left hlt] at hv
   have hr:=hargs t v x hv hx
   have hvd:v = vs.getD t undef:=by simp [hlt] at hv; simp [Array.getD,hlt,hv]
   cases x with
   | any=>trivial
   | d y=>exact AB.mono (B4.of_sub hOS) (show AB _ w v y from hr)
   | lim sz xs =>
     have hr':AB (fun b=>O b∨DV vs args b) w v (.list sz xs)∧Qu v = xs.length:=hr
     exact ⟨hr'.1.mono (B4.of_sub hOS),hr'.2⟩
   | own sz e xs =>
     obtain ⟨_,_,_,hrr,_⟩:=hr
     exact ⟨Nat.zero_le _,fun _=>by show v = NH _; rw [← hvd,S7 hrr]⟩
   | optr cs =>
     obtain ⟨b,vals,T,h1,h2,h3⟩:=hr
     exact ⟨Nat.zero_le _,fun _=>⟨b,by show NH (vs.getD t undef) = _; rw [← hvd,h1]; rfl,h1⟩⟩
   | cc k l =>
     obtain ⟨rfl,vs',u,ds,sz,e,xs,⟨rfl,h2,h3,_⟩,h4⟩:=hr
     simp only [Lr,WH]
     refine ⟨vs'.push u,h2,by simp [h3],fun j q y hq hy=>?_⟩
     rcases Nat.lt_or_ge j vs'.size with hj | hj
     ·rw [Array.getElem?_push_lt hj] at hq
      have hj':j < ds.length:=by rw [← h3]; exact hj
      rw [List.getElem?_append_left (by simpa using hj')] at hy
      simp at hq
      simp [hj'] at hy
      subst hy
      have:=h4.2 j q ds[j] (by simp [hj,hq]) (by simp [hj'])
      exact ⟨⟨this.1.mono (B4.of_sub hOS),this.2⟩,SI this.1 this.2⟩
     ·have hj2:j = vs'.size:=by have:=En hq; simp at this; omega
      subst hj2
      simp at hq
      subst hq
      rw [h3,List.getElem?_append_right (by simp)] at hy
      simp at hy
      subst hy
      refine ⟨⟨Nat.zero_le _,fun _=>by show _ = NH _; rw [← hvd,h2,PW]⟩,?_⟩
      have:=hargs t v _ hv hx
      obtain ⟨_,vs2,u2,_,_,_,_,⟨_,q2,_,_,_,_,q5,_⟩,_⟩:=this
      rw [h2] at q2
      simp at q2
      obtain ⟨ad,m,c,hu⟩:=KH q5
      rw [(Array.push_eq_push.1 q2).1,hu]; rfl
   | bot | ptr _ _ _ | sl _ _ | eptr _ _ _ _ _ | tup _ | under _ _ _=>exact hr.elim
  ·trivial
 ·intro i
  rw [hget]
  split
  ·rename_i x hx
   have hr:=hargs i _ x (hval i x hx) hx
   cases x with
   | any | d _ | lim _ _ | bot | ptr _ _ _ | sl _ _ | eptr _ _ _ _ _ | tup _ | under _ _ _=>trivial
   | own sz e xs =>
     obtain ⟨h1,h2,vals,h3,h4⟩:=hr
     exact ⟨h1,h2,vals,by show Ca w e sz (NH (vs.getD i undef)) _ _; rw [S7 h3]; exact h3,h4.mono (B4.of_sub hOS)⟩
   | cc k l =>
     obtain ⟨rfl,vs',u,ds,sz,e,xs,⟨rfl,h2,h3,h4,h5,vals,h6,h7⟩,_⟩:=hr
     simp only [Lr,YY]
     exact ⟨h4,h5,vals,by show Ca w e sz (NH (vs.getD i undef)) _ _; rw [h2,PW]; exact h6,h7.mono (B4.of_sub hOS)⟩
   | optr cs =>
     obtain ⟨b,vals,T,h1,h2,h3⟩:=hr
     exact ⟨b,vals,T,by show NH (vs.getD i undef) = _; rw [h1]; rfl,h2,by have:=h3.1; simpa using this,fun j v c hv hc=>(h3.mono (B4.of_sub hOS)).cells j v c (by simpa using hv) hc⟩
  ·trivial
 ·intro i b ho hb
  obtain ⟨x,hx,hm⟩:=hown i ho
  exact ⟨.inr ⟨i,_,x,hval i x hx,hx,hm,by rw [← S6 (hargs i _ x (hval i x hx) hx) hm]; exact hb⟩,fun h=>h⟩
 ·intro i j b hi hj hbi hbj
  obtain ⟨x,hx,hm⟩:=hown i hi
  obtain ⟨y,hy,hm'⟩:=hown j hj
  exact hinj i j _ _ x y b (hval i x hx) (hval j y hy) hx hy hm hm' (by rw [← S6 (hargs i _ x (hval i x hx) hx) hm]; exact hbi) (by rw [← S6 (hargs j _ y (hval j y hy) hy) hm']; exact hbj)
 ·intro t u hu
  rw [hget] at hu
  split at hu
  ·rename_i x hx
   have hr:=hargs t _ x (hval t x hx) hx
   cases x <;> simp [Lr,AV.guards] at hu
   exact hr.elim
  ·simp [bH,AV.guards] at hu
 ·intro i _ _; rfl
theorem Pa {vs:Array Value} {args:List AV} (h:∀ x∈args,x.mut = false) (b:Nat):¬ DV vs args b:=by
 rintro ⟨i,v,x,_,hx,hm,_⟩
 rw [h x (List.mem_of_getElem? hx)] at hm
 cases hm
theorem Qp {J:List Nat} (hdraw:MO P) {f:FuncId} {fn:Func} {args:List AV} {r:AV} (hf:P.funcs[f]? = some fn) (hname:(fn.name == "runtime.NumGoroutine") = false) (hr:ai P J fn args r):Aw P f args r:=by
 unfold ai at hr
 split at hr
 ·rename_i c hc
  refine ⟨by simp [EH,hf,hname,hc],fun O w vs hO hG0 hlen hargs=>?_⟩
  rw [HM] at hr
  refine calls_of_wp hf hc ?_
  have hnm:∀ x∈args,x.mut = false:=by
   intro x hx
   obtain ⟨i,hi⟩:=List.mem_iff_getElem?.1 hx
   have hlt:i < vs.size:=by rw [hlen]; exact AD hi
   have:=hargs i vs[i] x (by simp [hlt]) hi
   cases x <;> first | rfl | exact this.elim
  have hG:TT (fun b=>O b∨DV vs args b) w:=fun g cs hg=>(hG0 g cs hg).mono (B4.of_sub fun b hb=>hb.resolve_right (Pa hnm b))
  have hsim:=W4 (n:=fn.ntmps) (M:=fun _=>False) hO hG hlen (fun b hm=>absurd hm (Pa hnm b)) (fun i j v v' x y b _ _ hx _ hm=>by rw [hnm x (List.mem_of_getElem? hx)] at hm; cases hm)
   (fun i v x hv hx=>by
    have h1:=(hargs i v x hv hx).mono (O':=fun b=>O b∨DV vs args b) (B4.of_sub fun b hb=>hb.resolve_right (Pa hnm b))
    have h2:=hnm x (List.mem_of_getElem? hx)
    cases x <;> first | exact h1 | cases h2)
  refine wp_mono (ER hdraw c hr hsim) fun e a' w' hq=>?_
  obtain ⟨β',S',hq,hs⟩:=hq
  have GD:b5 P fn.results.toList [] [] S' r→a'.defers = []∧∃ v,(results fn a'.tmps).run P w' = .ok v w'∧∃ v',Ending.returned v = .returned v'∧Below w.heap.size w w'∧C9 (fun b=>w.heap.size≤b) O w' v' r:=by
   intro hq
   obtain ⟨v,T,h1,h2,_,_,_,h3,_⟩:=Vt hs (frz:=[]) trivial (fun _ h=>by cases h) hq
   refine ⟨hs.df,v,h1,v,rfl,hs.below.below (Pa hnm),h3.mono (fun b hb=>hb.1.resolve_right (Pa hnm b)) (fun b hb=>.inl hb)⟩
  cases e with
  | normal=>exact GD hq
  | ret=>exact GD hq
  | exit id=>exact hq.elim
  | goto l=>exact hq.elim
  | panic ch=>exact hq.elim
  | outgrown=>exact hq.elim
 ·exact hr.elim
theorem JZ (h:AE X (fun _=>False) β S a w):∀ {outs:List AV} {k:Nat} {K:List Nat→Bx→Prop},OZ S k outs K →
 ∃ used frz,K used frz∧FZ S [] frz∧(∀ i∈used,(Av S i).box.owned = true) ∧
   ∀ (i:Nat) y,outs[i]? = some y→y.mut = true→k + i∈used∧(Av S (k + i)).ver = 0∧match y with
     | .own sz e ys=>(Av S (k + i)).box = .row sz e ys
     | .optr l=>∃ cs,(Av S (k + i)).box = .var cs∧Jh S frz cs l
     | .cc _ l=>∃ (ds:List C) (sz:Nat) (e:TypeId) (ys:List D),l = ds++[.own sz e ys]∧(Av S (k + i)).box = .row sz e ys
     | _=>False
 | [],k,K,hy=>⟨[],[],hy,trivial,(fun _ h=>by cases h),fun i y h=>by simp at h⟩
 | q :: r,k,K,hy=>by
   have skip:OZ S (k + 1) r K→q.mut = false→∃ used frz,K used frz∧FZ S [] frz∧(∀ i∈used,(Av S i).box.owned = true) ∧
    ∀ (i:Nat) y,(q :: r)[i]? = some y→y.mut = true→k + i∈used∧(Av S (k + i)).ver = 0∧match y with
      | .own sz e ys=>(Av S (k + i)).box = .row sz e ys
      | .optr l=>∃ cs,(Av S (k + i)).box = .var cs∧Jh S frz cs l
      | .cc _ l=>∃ (ds:List C) (sz:Nat) (e:TypeId) (ys:List D),l = ds++[.own sz e ys]∧(Av S (k + i)).box = .row sz e ys
      | _=>False:=by
    intro hy hm
    obtain ⟨used,frz,hK,h1,h2,h3⟩:=JZ h hy
    refine ⟨used,frz,hK,h1,h2,fun i y hi hmy=>?_⟩
    cases i with
    | zero=>simp at hi; subst hi; rw [hm] at hmy; cases hmy
    | succ i=>have:=h3 i y (by simpa using hi) hmy; rw [show k + (i + 1) = k + 1 + i by omega]; exact this
   cases q with
   | own sz e ys =>
     unfold OZ at hy
     split at hy
     ·rename_i av sz' e' xs hs
      obtain ⟨⟨rfl,rfl,rfl⟩,hy⟩:=hy
      obtain ⟨used,frz,hK,h1,h2,h3⟩:=JZ h hy
      refine ⟨_,frz,hK,h1,fun i hi=>?_,fun i y hi hmy=>?_⟩
      ·rcases List.mem_cons.1 hi with rfl | hi
       ·rw [hs]; rfl
       ·exact h2 i hi
      ·cases i with
       | zero=>simp at hi; subst hi; simp only [Nat.add_zero]; exact ⟨by simp,by rw [hs],by simp only [hs]⟩
       | succ i=>have:=h3 i y (by simpa using hi) hmy; rw [show k + (i + 1) = k + 1 + i by omega]; exact ⟨by simp [this.1],this.2⟩
     ·exact hy.elim
   | optr l =>
     unfold OZ at hy
     split at hy
     ·rename_i av cs hs
      obtain ⟨l',b,hy2,hFb,hfr,hcd,_⟩:=Lf h hy
      obtain ⟨el,hy3⟩:=hy2
      subst el
      obtain ⟨used,frz,hK,h1,h2,h3⟩:=JZ h hy3
      refine ⟨_,_,hK,hFb.append h1,fun i hi=>?_,fun i y hi hmy=>?_⟩
      ·rcases List.mem_cons.1 hi with rfl | hi
       ·rw [hs]; rfl
       ·exact h2 i hi
      ·cases i with
       | zero=>simp at hi; subst hi; simp only [Nat.add_zero]; exact ⟨by simp,by rw [hs],cs,by rw [hs],hcd.mono fun y hy=>by simp [hy]⟩
       | succ i =>
         have:=h3 i y (by simpa using hi) hmy
         rw [show k + (i + 1) = k + 1 + i by omega]
         refine ⟨by simp [this.1],this.2.1,?_⟩
         have h4:=this.2.2
         cases y <;> first | exact h4 | (obtain ⟨cs',h5,h6⟩:=h4; exact ⟨cs',h5,h6.mono fun y hy=>by simp [hy]⟩)
     ·exact hy.elim
   | any=>exact skip hy rfl
   | bot=>exact skip hy rfl
   | d _=>exact skip hy rfl
   | lim _ _=>exact skip hy rfl
   | ptr _ _ _=>exact skip hy rfl
   | sl _ _=>exact skip hy rfl
   | eptr _ _ _ _ _=>exact skip hy rfl
   | tup _=>exact skip hy rfl
   | under _ _ _=>exact skip hy rfl
   | cc k' l =>
     unfold OZ at hy
     obtain ⟨ds,sz,e,ys,hl,hy⟩:=Md hy
     split at hy
     ·rename_i av sz' e' xs hs
      obtain ⟨⟨rfl,rfl,rfl⟩,hy⟩:=hy
      obtain ⟨used,frz,hK,h1,h2,h3⟩:=JZ h hy
      refine ⟨_,frz,hK,h1,fun i hi=>?_,fun i y hi hmy=>?_⟩
      ·rcases List.mem_cons.1 hi with rfl | hi
       ·rw [hs]; rfl
       ·exact h2 i hi
      ·cases i with
       | zero=>simp at hi; subst hi; simp only [Nat.add_zero]; exact ⟨by simp,by rw [hs],ds,_,_,_,hl,by rw [hs]⟩
       | succ i=>have:=h3 i y (by simpa using hi) hmy; rw [show k + (i + 1) = k + 1 + i by omega]; exact ⟨by simp [this.1],this.2⟩
     ·exact hy.elim
theorem Q2 {J:List Nat} (hdraw:MO P) {f:FuncId} {fn:Func} {args outs:List AV} {r:AV} (hf:P.funcs[f]? = some fn) (hname:(fn.name == "runtime.NumGoroutine") = false) (hol:outs.length = args.length)
 (hfit:∀ (i:Nat) x y,args[i]? = some x→outs[i]? = some y→match y with
  | .own sz e _=>∃ xs,x = .own sz e xs
  | .optr cs=>∃ cs',x = .optr cs'∧cs.length = cs'.length
  | .cc _ l=>∃ (ds:List D) (sz:Nat) (e:TypeId) (xs ys:List D),x = .cc none (ds.map .d++[.own sz e xs])∧l = ds.map .d++[.own sz e ys]
  | _=>True) (hr:Xd P J fn args outs r):Ck P f args outs r:=by
 unfold Xd at hr
 split at hr
 ·rename_i c hc
  refine ⟨by simp [EH,hf,hname,hc],hol,fun O w vs hO hG hlen hMO hinj hargs=>?_⟩
  rw [HM] at hr
  refine calls_of_wp hf hc ?_
  have hsim:=W4 (n:=fn.ntmps) (M:=fun _=>False) hO hG hlen hMO hinj hargs
  refine wp_mono (ER hdraw c hr hsim) fun e a' w' hq=>?_
  obtain ⟨β',S',hq,hs⟩:=hq
  have GD:(OZ S' 0 outs fun u b=>b5 P fn.results.toList u b S' r)→a'.defers = []∧∃ v,(results fn a'.tmps).run P w' = .ok v w'∧∃ v',Ending.returned v = .returned v'∧AT w.heap.size (DV vs args) w w' ∧
   C9 (fun b=>w.heap.size≤b∨(DV vs args b∧¬ DV vs outs b)) (fun b=>O b∨DV vs outs b) w' v' r ∧
   ∀ (i:Nat) u x y,vs[i]? = some u→args[i]? = some x→outs[i]? = some y→N5 (fun b=>O b∨DV vs outs b∨CC v' r b) w' u x y:=by
   intro hq
   obtain ⟨used,frz,hq,hF,hu,hk⟩:=JZ hs hq
   obtain ⟨v,T,h1,h2,h3,h4,⟨F,hFF,hFr⟩,h5,h6⟩:=Vt hs hF hu hq
   have hβ:∀ (i:Nat) u y,vs[i]? = some u→outs[i]? = some y→y.mut = true→i∈used∧β' i = NH u∧A1 (NH u) = A1 u:=by
    intro i u y hi hy hm
    have:=hk i y hy hm
    simp only [Nat.zero_add] at this
    have hxi:args[i]? = some (args[i]'(by rw [← hol]; exact AD hy)):=List.getElem?_eq_getElem _
    refine ⟨this.1,?_,S6 (hargs i u _ hi hxi) (by
     have hft:=hfit i _ y hxi hy
     generalize args[i]'(by rw [← hol]; exact AD hy) = q at hft
     cases y <;> try (cases hm; done)
     ·obtain ⟨_,rfl⟩:=hft; rfl
     ·obtain ⟨_,rfl,_⟩:=hft; rfl
     ·obtain ⟨_,_,_,_,_,rfl,_⟩:=hft; rfl)⟩
    have hne:(Av S' i).box≠.none:=by intro e; have:=hu i this.1; rw [e] at this; cases this
    have hini:=hs.ini i this.2.1 hne
    have hlt:=En hi
    rw [hini]
    simp [hlt] at hi
    simp [Array.getD,hlt,hi]
   have hMo:∀ b,DV vs outs b→∃ i∈used,A1 (β' i) = some b:=by
    rintro b ⟨i,u,y,hi,hy,hm,hb⟩
    obtain ⟨k1,k2⟩:=hβ i u y hi hy hm
    exact ⟨i,k1,by rw [k2.1,k2.2]; exact hb⟩
   have hMT:∀ b,DV vs outs b→OS β' ⟨w.heap.size,DV vs args,O,fun _=>False,w,fun i=>NH (vs.getD i undef),UP hG⟩ T b:=by
    intro b hb
    obtain ⟨i,hi,hb⟩:=hMo b hb
    exact .inr (.inr ⟨i,by rw [h3 i hi]; exact hu i hi,hb⟩)
   refine ⟨hs.df,v,h1,v,rfl,hs.below,h5.mono (fun b hb=>?_) (fun b hb=>?_),fun i u x y hu' hx hy=>?_⟩
   ·rcases hb.1 with hb' | hb'
    ·exact .inl hb'
    ·exact .inr ⟨hb',fun hm=>by obtain ⟨i,hi,hbi⟩:=hMo b hm; exact hb.2 i hi hbi⟩
   ·rcases hb with hb | hb
    ·exact .inl hb
    ·exact hMT b hb
   ·have hsub:∀ b,(O b∨DV vs outs b∨CC v r b)→OS β' ⟨w.heap.size,DV vs args,O,fun _=>False,w,fun i=>NH (vs.getD i undef),UP hG⟩ T b:=by
     intro b hb
     rcases hb with hb | hb | hb
     ·exact .inl hb
     ·exact hMT b hb
     ·exact h6 b hb
    have hft:=hfit i x y hx hy
    cases y <;> try trivial
    ·rename_i sz e ys
     obtain ⟨k1,k2⟩:=hβ i u _ hu' hy rfl
     have hki:=(hk i _ hy rfl).2.2
     simp only [Nat.zero_add] at hki
     have hb:=h2.boxes i
     rw [h3 i k1,hki] at hb
     obtain ⟨j1,j2,vals,j3,j4⟩:=hb
     obtain ⟨xs,rfl⟩:=hft
     obtain ⟨_,_,_,hrr,_⟩:=hargs i u _ hu' hx
     rw [k2.1,S7 hrr] at j3
     exact ⟨⟨j1,j2,vals,j3,j4.mono (B4.of_sub hsub)⟩,xs,rfl⟩
    ·rename_i l
     obtain ⟨k1,k2⟩:=hβ i u _ hu' hy rfl
     obtain ⟨cs,hkb,hcd⟩:=(hk i _ hy rfl).2.2
     simp only [Nat.zero_add] at hkb
     have hb:=h2.boxes i
     rw [h3 i k1,hkb] at hb
     obtain ⟨b,vals,T',j1,j2,j3,j4⟩:=hb
     obtain ⟨cs',rfl,hcl⟩:=hft
     have hpu:NH u = u:=by obtain ⟨_,_,_,rfl,_⟩:=hargs i u _ hu' hx; rfl
     rw [k2.1,hpu] at j1
     refine ⟨⟨b,vals,T',j1,j2,?_⟩,cs',rfl,hcl⟩
     refine (PO hFr h2 (hcd.mono hFF) (vals:=vals.toList) (by simpa using j3) (fun j v c hv hc=>j4 j v c (by simpa using hv) hc)).mono (B4.of_sub hsub)
    ·rename_i k0 l
     obtain ⟨k1,k2⟩:=hβ i u _ hu' hy rfl
     obtain ⟨ds1,sz1,e1,ys1,hl1,hkb⟩:=(hk i _ hy rfl).2.2
     simp only [Nat.zero_add] at hkb
     have hb:=h2.boxes i
     rw [h3 i k1,hkb] at hb
     obtain ⟨j1,j2,vals,j3,j4⟩:=hb
     obtain ⟨ds,sz,e,xs,ys,rfl,rfl⟩:=hft
     obtain ⟨rfl,rfl,rfl,rfl⟩:=aD hl1
     obtain ⟨_,vs',u',ds',sz',e',xs',⟨q1,rfl,q3,_⟩,_⟩:=hargs i u _ hu' hx
     obtain ⟨q1,rfl,rfl,rfl⟩:=aD q1
     have q1:ds.length = ds'.length:=by simpa using congrArg List.length q1
     rw [k2.1,PW] at j3
     exact ⟨vs',u',ds,_,_,ys,rfl,rfl,by rw [q3,q1],j1,j2,vals,j3,j4.mono (B4.of_sub hsub)⟩
  cases e with
  | normal=>exact GD hq
  | ret=>exact GD hq
  | exit id=>exact hq.elim
  | goto l=>exact hq.elim
  | panic ch=>exact hq.elim
  | outgrown=>exact hq.elim
 ·exact hr.elim
end
end Go.Abs
set_option linter.unusedVariables false
set_option linter.unusedSimpArgs false
namespace Go.Abs
def C5 {α:Type} (F:(α→Prop)→Prop):Prop:=(∀ K K':α→Prop,(∀ x,K x→K' x)→F K→F K')∧∀ K,F K→∃ x,F (fun y=>y = x)∧K x
def D3 {α γ:Type} (F:(α→γ→Prop)→Prop):Prop:=(∀ K K':α→γ→Prop,(∀ x y,K x y→K' x y)→F K→F K')∧∀ K,F K→∃ x y,F (fun x' y'=>x' = x∧y' = y)∧K x y
section
variable {α γ δ:Type}
theorem Ar (x:α):C5 fun K:α→Prop=>K x:=⟨fun _ _ h hk=>h _ hk,fun _ hk=>⟨x,rfl,hk⟩⟩
theorem Ao:C5 fun _:α→Prop=>False:=⟨fun _ _ _ h=>h,fun _ h=>h.elim⟩
theorem Bg (x:α) (y:γ):D3 fun K:α→γ→Prop=>K x y:=⟨fun _ _ h hk=>h _ _ hk,fun _ hk=>⟨x,y,⟨rfl,rfl⟩,hk⟩⟩
theorem BE:D3 fun _:α→γ→Prop=>False:=⟨fun _ _ _ h=>h,fun _ h=>h.elim⟩
theorem A5 {F:(α→Prop)→Prop} {Gf:α→(γ→Prop)→Prop} (hF:C5 F) (hG:∀ x,C5 (Gf x)):C5 fun K:γ→Prop=>F fun x=>Gf x K:=by
 refine ⟨fun K K' h hk=>hF.1 _ _ (fun x hx=>(hG x).1 _ _ h hx) hk,fun K hk=>?_⟩
 obtain ⟨x,h1,h2⟩:=hF.2 _ hk
 obtain ⟨y,h3,h4⟩:=(hG x).2 _ h2
 exact ⟨y,hF.1 _ _ (fun z hz=>by subst hz; exact h3) h1,h4⟩
theorem BH {F:(α→γ→Prop)→Prop} {Gf:α→γ→(δ→Prop)→Prop} (hF:D3 F) (hG:∀ x y,C5 (Gf x y)):C5 fun K:δ→Prop=>F fun x y=>Gf x y K:=by
 refine ⟨fun K K' h hk=>hF.1 _ _ (fun x y hx=>(hG x y).1 _ _ h hx) hk,fun K hk=>?_⟩
 obtain ⟨x,y,h1,h2⟩:=hF.2 _ hk
 obtain ⟨z,h3,h4⟩:=(hG x y).2 _ h2
 exact ⟨z,hF.1 _ _ (fun u v huv=>by obtain ⟨rfl,rfl⟩:=huv; exact h3) h1,h4⟩
theorem Bs {ε:Type} {F:(α→γ→Prop)→Prop} {Gf:α→γ→(δ→ε→Prop)→Prop} (hF:D3 F) (hG:∀ x y,D3 (Gf x y)):D3 fun K:δ→ε→Prop=>F fun x y=>Gf x y K:=by
 refine ⟨fun K K' h hk=>hF.1 _ _ (fun x y hx=>(hG x y).1 _ _ h hx) hk,fun K hk=>?_⟩
 obtain ⟨x,y,h1,h2⟩:=hF.2 _ hk
 obtain ⟨z,z',h3,h4⟩:=(hG x y).2 _ h2
 exact ⟨z,z',hF.1 _ _ (fun u v huv=>by obtain ⟨rfl,rfl⟩:=huv; exact h3) h1,h4⟩
theorem BY {F:(α→Prop)→Prop} (p:Prop) (hF:C5 F):C5 fun K:α→Prop=>Ij p (F K):=by
 refine ⟨fun K K' h hk=>⟨hk.1,hF.1 _ _ h hk.2⟩,fun K hk=>?_⟩
 obtain ⟨x,h1,h2⟩:=hF.2 _ hk.2
 exact ⟨x,⟨hk.1,h1⟩,h2⟩
theorem Bh {F:(α→Prop)→Prop} (c:Prop) [Decidable c] (hF:C5 F):C5 fun K:α→Prop=>if c then F K else False:=by
 by_cases h:c
 ·simp only [h,if_true]; exact hF
 ·simp only [h,if_false]; exact Ao
theorem PR (xs:List D) (i:Int):C5 fun K:D→Prop=>At xs i K :=
 ⟨fun _ _ h hk=>by obtain ⟨h0,x,h1,h2⟩:=hk.go; exact ⟨⟨h0,x,h1,h _ h2⟩⟩,fun _ hk=>by obtain ⟨h0,x,h1,h2⟩:=hk.go; exact ⟨x,⟨⟨h0,x,h1,rfl⟩⟩,h2⟩⟩
theorem JW {F F':(α→Prop)→Prop} (hF:C5 F) (hF':C5 F'):C5 fun K:α→Prop=>QQ (F K) (F' K):=by
 refine ⟨fun K K' h hk=>⟨hk.go.imp (hF.1 _ _ h) (hF'.1 _ _ h)⟩,fun K hk=>?_⟩
 rcases hk.go with hk | hk
 ·obtain ⟨x,h1,h2⟩:=hF.2 _ hk; exact ⟨x,⟨.inl h1⟩,h2⟩
 ·obtain ⟨x,h1,h2⟩:=hF'.2 _ hk; exact ⟨x,⟨.inr h1⟩,h2⟩
theorem ZC {F:List (Nat × Nat)→(α→Prop)→Prop} (hF:∀ hs,C5 (F hs)):C5 fun K:α→Prop=>dM fun hs=>F hs K:=by
 refine ⟨fun K K' h hk=>?_,fun K hk=>?_⟩
 ·obtain ⟨hs,hk⟩:=hk.go; exact ⟨⟨hs,(hF hs).1 _ _ h hk⟩⟩
 ·obtain ⟨hs,hk⟩:=hk.go
  obtain ⟨x,h1,h2⟩:=(hF hs).2 _ hk
  exact ⟨x,⟨⟨hs,h1⟩⟩,h2⟩
theorem bj {P:Program} {f:FuncId} {nils:List Nat} {vs ms:List AV} {F:AV→(α→Prop)→Prop} {F':List AV→AV→(α→Prop)→Prop} (hF:∀ r,C5 (F r)) (hF':∀ o r,C5 (F' o r)) :
 C5 fun K:α→Prop=>Oz P f nils vs (fun r=>F r K) ms (fun o r=>F' o r K):=by
 refine ⟨fun K K' h hk=>?_,fun K hk=>?_⟩
 ·rcases hk.go with ⟨r,h1,h2⟩ | ⟨o,r,h1,h2⟩
  ·exact ⟨.inl ⟨r,h1,(hF r).1 _ _ h h2⟩⟩
  ·exact ⟨.inr ⟨o,r,h1,(hF' o r).1 _ _ h h2⟩⟩
 ·rcases hk.go with ⟨r,h1,h2⟩ | ⟨o,r,h1,h2⟩
  ·obtain ⟨x,h3,h4⟩:=(hF r).2 _ h2; exact ⟨x,⟨.inl ⟨r,h1,h3⟩⟩,h4⟩
  ·obtain ⟨x,h3,h4⟩:=(hF' o r).2 _ h2; exact ⟨x,⟨.inr ⟨o,r,h1,h3⟩⟩,h4⟩
theorem Gj {F:(α→Prop)→Prop} {Gf:α→(γ→δ→Prop)→Prop} (hF:C5 F) (hG:∀ x,D3 (Gf x)):D3 fun K:γ→δ→Prop=>F fun x=>Gf x K:=by
 refine ⟨fun K K' h hk=>hF.1 _ _ (fun x hx=>(hG x).1 _ _ h hx) hk,fun K hk=>?_⟩
 obtain ⟨x,h1,h2⟩:=hF.2 _ hk
 obtain ⟨y,z,h3,h4⟩:=(hG x).2 _ h2
 exact ⟨y,z,hF.1 _ _ (fun u hu=>by subst hu; exact h3) h1,h4⟩
theorem PQ {F:(α→γ→Prop)→Prop} (c:Prop) [Decidable c] (hF:D3 F):D3 fun K:α→γ→Prop=>if c then F K else False:=by
 by_cases h:c
 ·simp only [h,if_true]; exact hF
 ·simp only [h,if_false]; exact BE
def KY {α γ δ:Type} (F:(α→γ→δ→Prop)→Prop):Prop:=(∀ K K':α→γ→δ→Prop,(∀ x y z,K x y z→K' x y z)→F K→F K')∧∀ K,F K→∃ x y z,F (fun x' y' z'=>x' = x∧y' = y∧z' = z)∧K x y z
theorem D6 (x:α) (y:γ) (z:δ):KY fun K:α→γ→δ→Prop=>K x y z:=⟨fun _ _ h hk=>h _ _ _ hk,fun _ hk=>⟨x,y,z,⟨rfl,rfl,rfl⟩,hk⟩⟩
theorem Gk:KY fun _:α→γ→δ→Prop=>False:=⟨fun _ _ _ h=>h,fun _ h=>h.elim⟩
theorem UQ {ε:Type} {F:(α→γ→δ→Prop)→Prop} {Gf:α→γ→δ→(ε→Prop)→Prop} (hF:KY F) (hG:∀ x y z,C5 (Gf x y z)):C5 fun K:ε→Prop=>F fun x y z=>Gf x y z K:=by
 refine ⟨fun K K' h hk=>hF.1 _ _ (fun x y z hx=>(hG x y z).1 _ _ h hx) hk,fun K hk=>?_⟩
 obtain ⟨x,y,z,h1,h2⟩:=hF.2 _ hk
 obtain ⟨u,h3,h4⟩:=(hG x y z).2 _ h2
 exact ⟨u,hF.1 _ _ (fun a b c h=>by obtain ⟨rfl,rfl,rfl⟩:=h; exact h3) h1,h4⟩
theorem JV {ε ζ η:Type} {F:(α→γ→δ→Prop)→Prop} {Gf:α→γ→δ→(ε→ζ→η→Prop)→Prop} (hF:KY F) (hG:∀ x y z,KY (Gf x y z)):KY fun K:ε→ζ→η→Prop=>F fun x y z=>Gf x y z K:=by
 refine ⟨fun K K' h hk=>hF.1 _ _ (fun x y z hx=>(hG x y z).1 _ _ h hx) hk,fun K hk=>?_⟩
 obtain ⟨x,y,z,h1,h2⟩:=hF.2 _ hk
 obtain ⟨u,v,t,h3,h4⟩:=(hG x y z).2 _ h2
 exact ⟨u,v,t,hF.1 _ _ (fun a b c h=>by obtain ⟨rfl,rfl,rfl⟩:=h; exact h3) h1,h4⟩
theorem OP {ε ζ η:Type} {F:(α→γ→Prop)→Prop} {Gf:α→γ→(ε→ζ→η→Prop)→Prop} (hF:D3 F) (hG:∀ x y,KY (Gf x y)):KY fun K:ε→ζ→η→Prop=>F fun x y=>Gf x y K:=by
 refine ⟨fun K K' h hk=>hF.1 _ _ (fun x y hx=>(hG x y).1 _ _ h hx) hk,fun K hk=>?_⟩
 obtain ⟨x,y,h1,h2⟩:=hF.2 _ hk
 obtain ⟨u,v,t,h3,h4⟩:=(hG x y).2 _ h2
 exact ⟨u,v,t,hF.1 _ _ (fun a b h=>by obtain ⟨rfl,rfl⟩:=h; exact h3) h1,h4⟩
theorem Rl {ε ζ η:Type} {F:(α→Prop)→Prop} {Gf:α→(ε→ζ→η→Prop)→Prop} (hF:C5 F) (hG:∀ x,KY (Gf x)):KY fun K:ε→ζ→η→Prop=>F fun x=>Gf x K:=by
 refine ⟨fun K K' h hk=>hF.1 _ _ (fun x hx=>(hG x).1 _ _ h hx) hk,fun K hk=>?_⟩
 obtain ⟨x,h1,h2⟩:=hF.2 _ hk
 obtain ⟨u,v,t,h3,h4⟩:=(hG x).2 _ h2
 exact ⟨u,v,t,hF.1 _ _ (fun a h=>by subst h; exact h3) h1,h4⟩
theorem BO {β:Type} (l:List β):C5 fun K:List β→Prop=>Ci l K:=by simp only [B5]; exact Ar l
end
theorem Jq:∀ l:List D,C5 fun K=>No l K
 | []=>Ar _
 | x :: r=>by
   unfold No
   refine A5 (Jq r) fun r=>?_
   split <;> exact Ar _
theorem Jr (x:D):C5 fun K=>Mg x K:=by
 cases x <;> simp only [Mg] <;> first | exact Ar _ | exact A5 (Jq _) fun l=>Ar _
theorem Nj (r:RV):D3 fun K=>Wt r K:=by cases r <;> simp only [Wt] <;> first | exact Bg _ _ | exact BE
theorem Y3 (r:RV):D3 fun K=>dP r K:=by
 unfold dP
 exact Bs (Nj r) fun x b=>Gj (Jr x) fun y=>Bg _ _
theorem Gl (σ:Nat→Nat→RV):∀ l,D3 fun K=>CB σ l K
 | []=>Bg _ _
 | .d x :: r=>by
   show D3 fun K=>CB σ r fun l b=>K (x :: l) b
   exact Bs (Gl σ r) fun l b=>Bg _ _
 | .sl id n :: r=>by
   show D3 fun K=>Wt (σ id n) fun x b=>CB σ r fun l b'=>K (x :: l) (b++b')
   exact Bs (Nj _) fun x b=>Bs (Gl σ r) fun l b=>Bg _ _
 | .own _ _ _ :: _=>BE
theorem JX:∀ l:List D,C5 fun K=>Yc l K
 | []=>Ar _
 | x :: r=>by
   show C5 fun K=>Yc r fun r=>K (.d x :: r)
   exact A5 (JX r) fun r=>Ar _
theorem US:∀ l:List D,C5 fun K=>U6 l K
 | []=>Ar _
 | x :: r=>by
   show C5 fun K=>U6 r fun r=>K (.d x :: r)
   exact A5 (US r) fun r=>Ar _
theorem Lt (σ:Nat→Nat→RV) (r:RV):D3 fun K=>Lb σ r K:=by
 cases r <;> simp only [Lb] <;> first | exact Bg _ _ | exact BE | skip
 ·exact Gj (Jr _) fun x=>Bg _ _
 ·exact Bs (Gl σ _) fun l b=>Gj (Jq _) fun l=>Gj (BO _) fun l'=>Bg _ _
 ·exact Gj (PR _ _) fun x=>Gj (BO _) fun l=>Bg _ _
 ·exact Bs (Gl σ _) fun l b=>Gj (Jq _) fun l=>Bg _ _
theorem UU (P:Program) (t:TypeId):C5 fun K=>WK P t K:=by
 unfold WK
 split
 ·exact Ar _
 ·exact Ao
theorem Mb (P:Program) (σ:Nat→Nat→RV) (ρ:Operand→RV):∀ l ts,D3 fun K=>Ga P σ ρ l ts K
 | [],_=>Bg _ _
 | x :: r,ts=>by
   unfold Ga
   split
   ·split
    ·exact Gj (UU _ _) fun v=>Bs (Mb P σ ρ r _) fun vs bs=>Bg _ _
    ·exact BE
   ·exact Bs (Lt _ _) fun v b=>Bs (Mb P σ ρ r _) fun vs bs=>Bg _ _
theorem WC (σ:Nat→Nat→RV):∀ l,KY fun K=>Qf σ l K
 | []=>Gk
 | .d x :: r=>by
   show KY fun K=>Mg x fun x=>Qf σ r fun l id n=>K (.d x :: l) id n
   exact Rl (Jr _) fun x=>JV (WC σ r) fun l id n=>D6 _ _ _
 | .sl id n :: r=>by
   simp only [Qf]
   split
   ·split
    ·exact D6 _ _ _
    ·exact Gk
   ·exact Gk
 | .own _ _ _ :: _=>Gk
theorem Rp:∀ l,KY fun K=>TH l K
 | []=>Gk
 | .d _ :: r=>Rp r
 | .sl _ _ :: r=>Rp r
 | .own sz e xs :: r=>by
   simp only [TH]
   split
   ·exact D6 _ _ _
   ·exact Gk
theorem Y5 (σ:Nat→Nat→RV) (r:RV):KY fun K=>Rq σ r K:=by
 unfold Rq
 split
 ·exact D6 _ _ _
 ·exact OP (Gl σ _) fun l b=>Rl (Jq _) fun l=>D6 _ _ _
 ·split
  ·exact JV (WC σ _) fun l id n=>D6 _ _ _
  ·exact OP (Lt σ _) fun v b=>D6 _ _ _
 ·exact OP (Lt σ _) fun v b=>D6 _ _ _
theorem NF (P:Program) (σ:Nat→Nat→RV) (ρ:Operand→RV):∀ l ts,KY fun K=>Fq P σ ρ l ts K
 | [],_=>D6 _ _ _
 | x :: r,ts=>by
   unfold Fq
   split
   ·split
    ·exact Rl (UU _ _) fun v=>JV (NF P σ ρ r _) fun vs bs us=>D6 _ _ _
    ·exact Gk
   ·exact JV (Y5 _ _) fun v b u=>JV (NF P σ ρ r _) fun vs bs us=>D6 _ _ _
theorem OV (ρ:Operand→RV):∀ l,D3 fun K=>Kp ρ l K
 | []=>Bg _ _
 | (i,x) :: r=>by
   show D3 fun K=>Wt (ρ x) fun v b=>Kp ρ r fun vs bs=>K ((i,v) :: vs) (b++bs)
   exact Bs (Nj (ρ x)) fun v b=>Bs (OV ρ r) fun vs bs=>Bg _ _
theorem TF (ρ:Operand→RV):∀ l,D3 fun K=>L3 ρ l K
 | []=>Bg _ _
 | (i,x) :: r=>by
   show D3 fun K=>dP (ρ x) fun v b=>L3 ρ r fun vs bs=>K ((i,v) :: vs) (b++bs)
   exact Bs (Y3 (ρ x)) fun v b=>Bs (TF ρ r) fun vs bs=>Bg _ _
theorem OR (σ:Nat→Nat→RV) (ρ:Operand→RV):∀ l,D3 fun K=>HF σ ρ l K
 | []=>Bg _ _
 | x :: r=>by
   unfold HF
   refine Bs (Lt σ (ρ x)) fun v b=>?_
   split
   ·exact PQ _ (Bs (OR σ ρ r) fun l bs=>Bg _ _)
   ·exact BE
theorem OQ (σ:Nat→Nat→RV) (ρ:Operand→RV):∀ l,D3 fun K=>HE σ ρ l K
 | []=>Bg _ _
 | x :: r=>by
   unfold HE
   split
   ·exact Bs (OQ σ ρ r) fun l bs=>Bg _ _
   ·refine Bs (Lt σ (ρ x)) fun v b=>?_
    split
    ·exact PQ _ (Bs (OQ σ ρ r) fun l bs=>Bg _ _)
    ·exact BE
theorem X2 (r:RV):C5 fun K=>cellsOf r K:=by
 cases r <;> simp only [cellsOf] <;> first | exact Ar _ | exact Ao | exact JX _
theorem TE (ρ:Operand→RV):∀ l,C5 fun K=>L2 ρ l K
 | []=>Ar _
 | (i,x) :: r=>by
   unfold L2
   exact A5 (X2 _) fun c=>A5 (TE ρ r) fun ps=>Ar _
theorem ZF (P:Program) (f:FuncId) (args:List AV) (k sz:Nat) (e:TypeId) (xs:List D):C5 fun K=>bO P f args k sz e xs K :=
 ⟨fun _ _ h hk=>by obtain ⟨ys,h1,h2⟩:=hk.go; exact ⟨⟨ys,h1,h _ h2⟩⟩,fun _ hk=>by obtain ⟨ys,h1,h2⟩:=hk.go; exact ⟨ys,⟨⟨ys,h1,rfl⟩⟩,h2⟩⟩
theorem ZB (P:Program) (f:FuncId) (args:List AV) (k:Nat) (cs:List C):D3 fun K=>ah P f args k cs K :=
 ⟨fun _ _ h hk=>by obtain ⟨cs',r,h1,h2⟩:=hk.go; exact ⟨⟨cs',r,h1,h _ _ h2⟩⟩,fun _ hk=>by obtain ⟨cs',r,h1,h2⟩:=hk.go; exact ⟨cs',r,⟨⟨cs',r,h1,rfl,rfl⟩⟩,h2⟩⟩
theorem Rm (ρ:Operand→RV) (k:Nat):∀ l i,C5 fun K=>Ls ρ k l i K
 | [],_=>Ar _
 | x :: r,i=>by
   unfold Ls
   split
   ·exact A5 (Rm ρ k r _) fun l=>Ar _
   ·split
    ·exact A5 (Jr _) fun y=>A5 (Rm ρ k r _) fun l=>Ar _
    ·exact Ao
theorem OT (σ:Nat→Nat→RV):∀ l,C5 fun K=>Hd σ l K
 | []=>Ar _
 | c :: r=>by
   unfold Hd
   split
   ·exact A5 (Jr _) fun x=>A5 (OT σ r) fun l=>Ar _
   ·split
    ·exact A5 (OT σ r) fun l=>Ar _
    ·exact Ao
   ·exact Ao
theorem Rn:∀ l l',D3 fun K=>Qx l l' K
 | [],[]=>Bg _ _
 | [],c :: r=>by cases c <;> exact BE
 | c :: r,[]=>by cases c <;> exact BE
 | c :: r,c' :: r'=>by
   cases c with
   | own _ _ _=>cases c' <;> exact BE
   | d x =>
     cases c' with
     | sl _ _=>exact BE
     | own _ _ _=>exact BE
     | d y =>
       show D3 fun K=>Qx r r' fun l b=>K (.d y :: l) b
       exact Bs (Rn r r') fun l b=>Bg _ _
   | sl q n =>
     cases c' with
     | sl _ _=>exact BE
     | d _=>exact BE
     | own sz e ys =>
       show D3 fun K=>Qx r r' fun l b=>if DX q b = true then K (.sl q (n + 1) :: l) ((q,.row sz e ys,n + 1) :: b) else False
       exact Bs (Rn r r') fun l b=>PQ (DX q b = true) (Bg (C.sl q (n + 1) :: l) ((q,BJ.row sz e ys,n + 1) :: b))
theorem cu {α:Type} {F:(α→Prop)→Prop} (c:Prop) [Decidable c] (hF:C5 F):C5 fun K:α→Prop=>if c then False else F K:=by
 by_cases h:c
 ·simp only [h,if_true]; exact Ao
 ·simp only [h,if_false]; exact hF
theorem TD (r:RV):D3 fun K=>M8 r K:=by
 unfold M8
 split <;> first | exact Bg _ _ | exact BE
theorem Sf (P:Program) (t:TypeId) (cs:List D):C5 fun K=>YC P t cs K:=by
 unfold YC
 split
 ·split
  ·exact A5 (BO _) fun l=>Bh _ (Ar _)
  ·exact Ao
 ·split
  ·exact Ar _
  ·exact Ao
 ·exact Ao
theorem ct (P:Program) (σ:Nat→Nat→RV) (t:TypeId) (cs:List C):C5 fun K=>dh P σ t cs K:=by
 unfold dh
 split
 ·split
  ·refine A5 (BO _) fun l=>Bh _ ?_
   split
   ·exact BH (Gl σ _) fun l b=>Ar _
   ·exact JW (BH (Gl σ _) fun l b=>Ar _) (Bh _ (Ar _))
  ·exact Ao
 ·split <;> first | exact Ar _ | exact Ao
 ·exact Ao
theorem ZA (op:BinOp) (k:IntKind) (a b:Int):C5 fun K=>Tz op k a b K:=by
 cases op <;> simp only [Tz] <;> first | exact Ar _ | exact Ao | exact BY _ (Ar _)
theorem TG (op:BinOp) (k:IntKind) (a b:Int):C5 fun K=>Tp op k a b K:=by
 cases op <;> simp only [Tp] <;> first | exact BY _ (Ar _) | exact Ao
theorem bk (op:BinOp) (a b:ByteArray):C5 fun K=>ZX op a b K:=by
 cases op <;> simp only [ZX] <;> first | exact Ar _ | exact Ao | exact BY _ (Ar _)
theorem UT (P:Program):∀ (n:Nat) (t:TypeId) (xs ys:List D),C5 fun K=>Yw P n t xs ys K
 | 0,_,_,_=>Ao
 | n + 1,t,xs,ys=>by
   unfold Yw
   split
   ·split
    ·exact Bh _ (Ar _)
    ·exact Ao
   ·split
    ·exact Ar _
    ·exact Ao
   ·split
    ·exact Ar _
    ·exact Ao
   ·rename_i fs _
    refine BY _ ?_
    generalize fs.toList = l
    induction l with
    | nil=>exact Ar _
    | cons f r ih=>exact A5 (UT P n f.type _ _) fun a=>A5 ih fun b=>Ar _
   ·exact Ao
theorem bi (P:Program) (t:TypeId) (op:BinOp) (x y:D):C5 fun K=>Yh P t op x y K:=by
 unfold Yh
 split
 ·split
  ·exact TG _ _ _ _
  ·exact TG _ _ _ _
  ·exact Bh _ (ZA _ _ _ _)
 ·exact bk _ _ _
 ·split
  ·split <;> first | exact Ar _ | exact Ao
  ·exact Ao
 ·refine BY _ ?_
  split
  ·exact A5 (UT _ _ _ _ _) fun b=>Ar _
  ·exact A5 (UT _ _ _ _ _) fun b=>Ar _
  ·exact Ao
 ·exact Ao
theorem cw (op:UnOp) (x:D):C5 fun K=>eT op x K:=by
 cases op <;> cases x <;> simp only [eT] <;> first | exact Ar _ | exact Ao
theorem ZD (r:AV) (b:Bx):C5 fun K=>YJ r b K:=by
 unfold YJ
 split
 ·exact Ar _
 ·split <;> exact Ar _
theorem Ro:∀ (l:List C) (hs:List (Nat × Nat)),D3 fun K=>Qy l hs K
 | [],[]=>Bg _ _
 | .d x :: r,hs=>by
   unfold Qy
   exact Bs (Ro r hs) fun l b=>Bg _ _
 | .own sz e xs :: r,(h,n) :: hs=>by
   unfold Qy
   exact Bs (Ro r hs) fun l b=>PQ _ (Bg _ _)
 | [],_ :: _=>BE
 | .own _ _ _ :: _,[]=>BE
 | .sl _ _ :: _,hs=>by unfold Qy; exact BE
theorem Y4 (d n:Nat) (r:AV) (b:Bx):C5 fun K=>bm d n r b K:=by
 unfold bm
 split
 ·exact Bh _ (Ar _)
 ·exact Bh _ (A5 (JX _) fun l=>Ar _)
 ·split
  ·exact Ar _
  ·exact ZC fun hs=>BH (Ro _ _) fun l hb=>Bh _ (Ar _)
 ·split
  ·exact Bh _ (Ar _)
  ·exact Ao
 all_goals first | exact Ar _ | exact Ao
theorem Lu:∀ (us:List (Option (Nat × Nat))) (os:List AV),C5 fun K=>K0 us os K
 | [],[]=>Ar _
 | none :: us,o :: os=>by
   unfold K0
   exact Lu us os
 | some (id,n) :: us,o :: os=>by
   cases o <;> simp only [K0] <;> first | exact Ao | exact A5 (Lu us os) (fun b=>Bh _ (Ar _)) | exact A5 (JX _) fun l=>A5 (Lu us os) (fun b=>Bh _ (Ar _)) | exact UQ (Rp _) fun _ _ _=>A5 (Lu us os) (fun b=>Bh _ (Ar _))
 | [],_ :: _=>by simp only [K0]; exact Ao
 | _ :: _,[]=>by simp only [K0]; exact Ao
theorem ZG (P:Program) (t:TypeId):C5 fun K=>Xa P t K:=by
 unfold Xa
 split
 ·split
  ·exact A5 (Jq _) fun l=>Ar _
  ·split
   ·exact Jr _
   ·exact Ao
  ·exact Ao
 ·exact Ao
theorem OU (ρ:Operand→RV) (x:Option Operand) (n:Int):C5 fun K=>Zk ρ x n K:=by
 unfold Zk
 split
 ·exact Ar _
 ·split
  ·exact Ar _
  ·exact Ao
theorem Mc (ρ:Operand→RV) (sz:Nat) (xs:List D) (lo hi mx:Option Operand) (b:Bx):C5 fun K=>Kw ρ sz xs lo hi mx b K:=by
 unfold Kw
 refine A5 (OU _ _ _) fun l=>A5 (OU _ _ _) fun h=>?_
 split
 ·exact BY _ (Ar _)
 ·by_cases hh:hi.isNone = true
  ·simp only [hh,if_true]; exact Ao
  ·simp only [hh,Bool.false_eq_true,if_false]
   split
   ·exact BY _ (Ar _)
   ·exact Ao
theorem VN (r:Option D) (z:D):D3 fun K=>R2 r z K :=
 ⟨fun _ _ h hk=>by obtain ⟨v,b,h1,h2,h3⟩:=hk.go; exact ⟨⟨v,b,h1,h2,h _ _ h3⟩⟩,fun _ hk=>by obtain ⟨v,b,h1,h2,h3⟩:=hk.go; exact ⟨v,b,⟨⟨v,b,h1,h2,⟨rfl,rfl⟩⟩⟩,h3⟩⟩
theorem ZE (P:Program) (kt et:TypeId) (x ix:RV) (ok:Bool):C5 fun K=>aB P kt et x ix ok K:=by
 unfold aB
 split
 ·split
  ·split
   ·refine BY _ ?_
    split
    ·refine BH (VN _ _) fun v b=>?_
     split
     ·exact Ar _
     ·exact Ar _
    ·exact Ao
   ·exact Ao
  ·exact Ao
 ·exact Ao
theorem bl (P:Program) (kt:TypeId) (m k x:RV):C5 fun K=>dJ P kt m k x K:=by
 unfold dJ
 split
 ·split
  ·split
   ·split
    ·exact BY _ (Ar _)
    ·exact Ao
   ·exact Ao
  ·exact Ao
 ·exact Ao
set_option maxHeartbeats 1000000 in
theorem UR (P:Program) (σ:Nat→Nat→RV) (ρ:Operand→RV) (c:Call) (f:FuncId) (caps:List D) (d dv:Nat):C5 fun K=>U5 P σ ρ c f caps d dv K:=by
 unfold U5
 refine A5 (US _) fun cv=>BH (Mb _ _ _ _ _) fun vs bs=>UQ (NF _ _ _ _ _) fun ms mb us=>?_
 exact bj (fun r=>A5 (ZD _ _) fun b=>Y4 _ _ _ _) fun o r=>A5 (Lu _ _) fun ub=>Bh _ (Y4 _ _ _ _)
theorem ar (P:Program) (σ:Nat→Nat→RV) (ρ:Option (Nat × Bool)→Operand→RV) (g:Option (Nat × Bool)) (o:Oper) (d n:Nat):C5 fun K=>yA P σ ρ g o d n K:=by
 unfold yA
 split
 ·exact Ar _
 ·split
  ·split
   ·exact Bh _ (Ar _)
   ·exact Ao
  ·exact Ar _
 ·split
  ·exact Ar _
  ·split
   ·split
    ·exact Ar _
    ·exact Ao
   ·split
    ·exact Ar _
    ·exact Ar _
    ·exact Ao
   ·exact Ao
  ·exact Ao
 ·split
  ·exact Ar _
  ·exact Ar _
  ·exact BH (Nj _) fun v b=>A5 (JX _) fun l=>Ar _
 ·split
  ·exact A5 (JX _) fun l=>Ar _
  ·exact Ao
 ·split
  ·split
   ·refine Bh _ ?_
    split
    ·refine BH (OV _ _) fun ps b=>?_
     split
     ·exact A5 (BO _) fun l=>Ar _
     ·exact Ao
    ·refine JW ?_ ?_
     ·refine BH (OV _ _) fun ps b=>?_
      split
      ·exact A5 (BO _) fun l=>Ar _
      ·exact Ao
     ·refine A5 (JX _) fun zc=>A5 (TE _ _) fun ps=>?_
      split
      ·exact A5 (BO _) fun l=>Ar _
      ·exact Ao
   ·exact Ao
  ·exact Ao
 ·split
  ·refine BH (TF _ _) fun ps b=>?_
   split
   ·exact A5 (BO _) fun l=>Bh _ (Ar _)
   ·exact Ao
  ·exact Ao
 ·split
  ·split
   ·split
    ·exact Bh _ (A5 (ZG _ _) fun z=>BY _ (Ar _))
    ·exact Ao
   ·exact Ao
  ·exact Ao
 ·split
  ·split
   ·exact BH (OR _ _ _) fun l b=>Ar _
   ·exact JW (BH (OR _ _ _) fun l b=>Ar _) (BH (OQ _ _ _) fun l b=>Ar _)
  ·exact Ao
 ·split
  ·exact Ar _
  ·exact ct _ _ _ _
  ·exact A5 (Sf _ _ _) fun x=>Ar _
  ·exact A5 (PR _ _) fun x=>A5 (Sf _ _ _) fun x=>Ar _
  ·exact Ao
 ·refine Bh _ ?_
  split
  ·split
   ·split
    ·exact Bh _ (A5 (BO _) fun l=>Ar _)
    ·exact BH (Nj _) fun v b=>Bh _ (A5 (JX _) fun l=>A5 (BO _) fun l=>Ar _)
   ·refine Bh _ ?_
    split
    ·exact A5 (BO _) fun l=>Ar _
    ·exact BH (Nj _) fun v b=>Bh _ (A5 (BO _) fun l=>Ar _)
   ·exact Ao
  ·refine BH (Y3 _) fun v b=>A5 (PR _ _) fun y=>Bh _ ?_
   split
   ·exact A5 (BO _) fun l=>Ar _
   ·exact Bh _ (Ar _)
  ·exact Ao
 ·split <;> first | exact Ar _ | exact Ao
 ·split
  ·exact Ar _
  ·split
   ·exact Ar _
   ·exact A5 (bi _ _ _ _ _) fun x=>Ar _
   ·exact Ao
  ·exact Ao
 ·split
  ·exact Ar _
  ·exact A5 (cw _ _) fun x=>Ar _
  ·exact Ao
 ·split
  ·split
   ·split <;> first | exact Ar _ | exact Ao
   ·split <;> first | exact Ar _ | exact Ao
   ·split
    ·split <;> first | exact Ar _ | exact Ao
    ·exact Ao
   ·exact Ao
  ·exact Ao
 ·split
  ·split
   ·refine Bh _ ?_
    split
    ·exact Ar _
    ·exact Ar _
    ·exact A5 (BO _) fun l=>Ar _
    ·exact Ar _
    ·exact Ao
   ·exact Ao
  ·exact Ao
 ·split
  ·split
   ·split
    ·exact Ar _
    ·exact A5 (Sf _ _ _) fun x=>Ar _
    ·exact Ao
   ·exact Ao
  ·exact Ao
 ·split
  ·split
   ·split
    ·exact Bh _ (A5 (PR _ _) fun x=>A5 (BO _) fun l=>Ar _)
    ·exact Bh _ (A5 (PR _ _) fun x=>A5 (BO _) fun l=>Ar _)
    ·exact Bh _ (BY _ (Ar _))
    ·exact Ao
   ·exact Ao
  ·split
   ·split
    ·exact Bh _ (BY _ (A5 (PR _ _) fun x=>Ar _))
    ·exact Bh _ (BY _ (Ar _))
    ·exact Ao
   ·exact Ao
  ·exact Ao
 ·split
  ·split
   ·split
    ·exact Bh _ (BY _ (A5 (Sf _ _ _) fun x=>Ar _))
    ·exact Ao
   ·exact Ao
  ·split
   ·split
    ·exact BY _ (Ar _)
    ·exact Ao
   ·exact Ao
  ·exact Ao
 ·split
  ·split
   ·split
    ·exact A5 (OU _ _ _) fun l=>A5 (OU _ _ _) fun h=>BY _ (Ar _)
    ·exact Ao
   ·exact Ao
  ·split
   ·exact Bh _ (Mc _ _ _ _ _ _ _)
   ·exact Bh _ (Mc _ _ _ _ _ _ _)
   ·exact Bh _ (Mc _ _ _ _ _ _ _)
   ·refine Bh _ (JW (Mc _ _ _ _ _ _ _) ?_)
    split
    ·split
     ·exact A5 (OU _ _ _) fun h=>BY _ (Ar _)
     ·exact Ao
    ·exact Ao
   ·exact Ao
  ·exact Ao
 ·split
  ·split
   ·split
    ·exact UR _ _ _ _ _ _ _ _
    ·refine JW ?_ (UR _ _ _ _ _ _ _ _)
     split
     ·exact A5 (Rm _ _ _ _) fun vs=>A5 (OT _ _) fun cs=>BH (ZB _ _ _ _ _) fun cs' r=>BH (Rn _ _) fun l ub=>Bh _ (Ar _)
     ·exact Ao
   ·split
    ·refine BH (Mb _ _ _ _ _) fun vs bs=>?_
     split
     ·exact A5 (BO _) fun cv=>A5 (ZF _ _ _ _ _ _ _) fun ys=>cu _ (Ar _)
     ·exact Ao
    ·exact Ao
   ·exact Ao
  ·split
   ·split
    ·split <;> first | exact Ar _ | exact Ao
    ·split
     ·exact Ar _
     ·exact BH (TD _) fun _ xs=>Ar _
    ·exact Ao
   ·exact Ao
  ·split
   ·split
    ·split <;> first | exact Ar _ | exact Ao
    ·exact Ao
   ·exact Ao
  ·split
   ·split
    ·split <;> first | exact Ar _ | exact Ao
    ·exact Ao
   ·exact Ao
  ·split
   ·split
    ·refine Bh _ (BH (TD _) fun sz' ys=>?_)
     dsimp only
     split
     ·exact Bh _ (BY _ (Ar _))
     ·exact BY _ (Ar _)
     ·exact Bh _ (BY _ (Ar _))
     ·exact Ao
    ·exact Ao
   ·exact Ao
  ·exact Ao
 ·split
  ·split <;> first | exact Ar _ | exact Ao
  ·exact Ao
 ·split
  ·exact Ar _
  ·exact Ao
 ·split
  ·exact ZE _ _ _ _ _ _
  ·exact Ao
 ·split
  ·exact bl _ _ _ _ _
  ·exact Ao
 ·exact Ao
def Xe (σ σ':Nat→Nat→RV) (r:RV):Prop:=(∀ id n o cs,r = .vptr id n o cs→∀ id' n',C.sl id' n'∈cs→σ id' n' = σ' id' n')∧(∀ f cs k id n rid rn,r = .clo f cs k id n rid rn→σ rid rn = σ' rid rn)∧∀ cs,r = .cagg cs→∀ id' n',C.sl id' n'∈cs→σ id' n' = σ' id' n'
section
variable {P:Program} {σ σ':Nat→Nat→RV} {ρ ρ':Operand→RV}
theorem G3:∀ {l:List C} {K:List D→Bx→Prop},(∀ id n,C.sl id n∈l→σ id n = σ' id n)→CB σ l K = CB σ' l K
 | [],_,_=>rfl
 | .d x :: r,K,h=>by
   simp only [CB]
   exact G3 fun id n hm=>h id n (by simp [hm])
 | .sl id n :: r,K,h=>by
   simp only [CB]
   rw [h id n (by simp)]
   congr 1
   funext x b
   exact G3 fun id n hm=>h id n (by simp [hm])
 | .own _ _ _ :: _,_,_=>rfl
theorem JL {r:RV} {K:AV→Bx→Prop} (h:Xe σ σ' r):Lb σ r K = Lb σ' r K:=by
 cases r <;> try rfl
 case vptr id n o cs=>exact G3 (h.1 id n o cs rfl)
 case cagg cs=>exact G3 (h.2.2 cs rfl)
theorem U0:∀ {l:List C} {K:List C→Nat→Nat→Prop},(∀ id n,C.sl id n∈l→σ id n = σ' id n)→Qf σ l K = Qf σ' l K
 | [],_,_=>rfl
 | .d x :: r,K,h=>by
   have ih:∀ {K:List C→Nat→Nat→Prop},Qf σ r K = Qf σ' r K:=U0 fun id n hm=>h id n (by simp [hm])
   simp only [Qf,ih]
 | .sl id n :: r,K,h=>by
   simp only [Qf]
   rw [h id n (by simp)]
 | .own _ _ _ :: _,_,_=>rfl
theorem X8 {r:RV} {K:AV→Bx→Option (Nat × Nat)→Prop} (h:Xe σ σ' r):Rq σ r K = Rq σ' r K:=by
 cases r <;> try rfl
 case cagg cs =>
  show (match UZ cs with | true=>Qf σ cs fun l id n=>K (.cc none l) [] (some (id,n)) | false=>Lb σ (.cagg cs) fun v b=>K v b none) = (match UZ cs with | true=>Qf σ' cs fun l id n=>K (.cc none l) [] (some (id,n)) | false=>Lb σ' (.cagg cs) fun v b=>K v b none)
  cases UZ cs with
  | true=>exact U0 (h.2.2 cs rfl)
  | false=>exact JL h
 case vptr id n o cs =>
  cases o with
  | zero=>exact G3 (h.1 id n 0 cs rfl)
  | succ o =>
    show Lb σ (.vptr id n (o + 1) cs) (fun v b=>K v b none) = Lb σ' (.vptr id n (o + 1) cs) (fun v b=>K v b none)
    exact JL h
theorem R6:∀ {l:List Operand} {ts:List TypeId} {K:List AV→Bx→Prop},(∀ x∈l,ρ x = ρ' x∧Xe σ σ' (ρ' x))→Ga P σ ρ l ts K = Ga P σ' ρ' l ts K
 | [],_,_,_=>rfl
 | x :: r,ts,K,h=>by
   have ih:∀ {ts:List TypeId} {K:List AV→Bx→Prop},Ga P σ ρ r ts K = Ga P σ' ρ' r ts K:=R6 fun y hy=>h y (by simp [hy])
   simp only [Ga,ih]
   rw [(h x (by simp)).1,JL (h x (by simp)).2]
theorem Q1:∀ {l:List Operand} {ts:List TypeId} {K:List AV→Bx→List (Option (Nat × Nat))→Prop},(∀ x∈l,ρ x = ρ' x∧Xe σ σ' (ρ' x))→Fq P σ ρ l ts K = Fq P σ' ρ' l ts K
 | [],_,_,_=>rfl
 | x :: r,ts,K,h=>by
   have ih:∀ {ts:List TypeId} {K:List AV→Bx→List (Option (Nat × Nat))→Prop},Fq P σ ρ r ts K = Fq P σ' ρ' r ts K:=Q1 fun y hy=>h y (by simp [hy])
   simp only [Fq,ih]
   rw [(h x (by simp)).1,X8 (h x (by simp)).2]
theorem RD:∀ {l:List Operand} {K:List D→Bx→Prop},(∀ x∈l,ρ x = ρ' x∧Xe σ σ' (ρ' x))→HF σ ρ l K = HF σ' ρ' l K
 | [],_,_=>rfl
 | x :: r,K,h=>by
   have ih:∀ {K:List D→Bx→Prop},HF σ ρ r K = HF σ' ρ' r K:=RD fun y hy=>h y (by simp [hy])
   simp only [HF,ih]
   rw [(h x (by simp)).1,JL (h x (by simp)).2]
theorem TC:∀ {l:List Operand} {i:Nat},(∀ x∈l,ρ x = ρ' x)→Kz ρ l i = Kz ρ' l i
 | [],_,_=>rfl
 | x :: r,i,h=>by
   have ih:∀ {i:Nat},Kz ρ r i = Kz ρ' r i:=TC fun y hy=>h y (by simp [hy])
   simp only [Kz,ih]
   rw [h x (by simp)]
theorem TB {k:Nat}:∀ {l:List Operand} {i:Nat} {K:List AV→Prop},(∀ x∈l,ρ x = ρ' x)→Ls ρ k l i K = Ls ρ' k l i K
 | [],_,_,_=>rfl
 | x :: r,i,K,h=>by
   have ih:∀ {i:Nat} {K:List AV→Prop},Ls ρ k r i K = Ls ρ' k r i K:=TB fun y hy=>h y (by simp [hy])
   simp only [Ls,ih]
   rw [h x (by simp)]
theorem Sd:∀ {l:List C} {K:List C→Prop},(∀ id n,C.sl id n∈l→σ id n = σ' id n)→Hd σ l K = Hd σ' l K
 | [],_,_=>rfl
 | c :: r,K,h=>by
   have ih:∀ {K:List C→Prop},Hd σ r K = Hd σ' r K:=Sd fun id n hm=>h id n (by simp [hm])
   cases c with
   | d x=>simp only [Hd,ih]
   | sl id n=>simp only [Hd,ih]; rw [h id n (by simp)]
   | own _ _ _=>rfl
theorem TM:∀ {l:List Operand},(∀ x∈l,ρ x = ρ' x)→Sw ρ l = Sw ρ' l
 | [],_=>rfl
 | x :: r,h=>by
   have ih:Sw ρ r = Sw ρ' r:=TM fun y hy=>h y (by simp [hy])
   simp only [Sw,ih,h x (by simp)]
theorem RA:∀ {l:List Operand} {K:List C→Bx→Prop},(∀ x∈l,ρ x = ρ' x∧Xe σ σ' (ρ' x))→HE σ ρ l K = HE σ' ρ' l K
 | [],_,_=>rfl
 | x :: r,K,h=>by
   have ih:∀ {K:List C→Bx→Prop},HE σ ρ r K = HE σ' ρ' r K:=RA fun y hy=>h y (by simp [hy])
   simp only [HE,ih]
   rw [(h x (by simp)).1,JL (h x (by simp)).2]
theorem NU:∀ {l:List C},(∀ id n,C.sl id n∈l→σ id n = σ' id n)→P8 σ l = P8 σ' l
 | [],_=>rfl
 | .d _ :: r,h=>NU (l:=r) fun id n hm=>h id n (by simp [hm])
 | .sl id n :: r,h=>by simp only [P8]; rw [h id n (by simp),NU (l:=r) fun id n hm=>h id n (by simp [hm])]
 | .own _ _ _ :: _,_=>rfl
theorem bo {t:TypeId} {cs:List C} {K:F3→Prop} (h:∀ id n,C.sl id n∈cs→σ id n = σ' id n):dh P σ t cs K = dh P σ' t cs K:=by
 unfold dh
 split
 ·split
  ·rename_i i _
   rw [B5,B5]
   have e1:∀ K':List D→Bx→Prop,CB σ (cs.take i.size) K' = CB σ' (cs.take i.size) K':=fun K'=>G3 fun id n hm=>h id n (List.mem_of_mem_take hm)
   have e2:=NU (σ:=σ) (σ':=σ') (l:=cs.take i.size) fun id n hm=>h id n (List.mem_of_mem_take hm)
   simp only [e1,e2]
  ·rfl
 ·rfl
 ·rfl
theorem Sz:∀ {l:List (Nat × Operand)} {K:List (Nat × D)→Bx→Prop},(∀ x∈l,ρ x.2 = ρ' x.2)→Kp ρ l K = Kp ρ' l K
 | [],_,_=>rfl
 | (i,x) :: r,K,h=>by
   simp only [Kp]
   rw [h (i,x) (by simp)]
   congr 1
   funext v b
   exact Sz fun y hy=>h y (by simp [hy])
theorem TQ:∀ {l:List (Nat × Operand)},(∀ x∈l,ρ x.2 = ρ' x.2)→SJ ρ l = SJ ρ' l
 | [],_=>rfl
 | (i,x) :: r,h=>by
   have ih:SJ ρ r = SJ ρ' r:=TQ fun y hy=>h y (by simp [hy])
   simp only [SJ,ih,h (i,x) (by simp)]
theorem Sx:∀ {l:List (Nat × Operand)} {K:List (Nat × List C)→Prop},(∀ x∈l,ρ x.2 = ρ' x.2)→L2 ρ l K = L2 ρ' l K
 | [],_,_=>rfl
 | (i,x) :: r,K,h=>by
   simp only [L2]
   rw [h (i,x) (by simp)]
   congr 1
   funext c
   exact Sx fun y hy=>h y (by simp [hy])
theorem S4:∀ {l:List (Nat × Operand)} {K:List (Nat × D)→Bx→Prop},(∀ x∈l,ρ x.2 = ρ' x.2)→L3 ρ l K = L3 ρ' l K
 | [],_,_=>rfl
 | (i,x) :: r,K,h=>by
   simp only [L3]
   rw [h (i,x) (by simp)]
   congr 1
   funext v b
   exact S4 fun y hy=>h y (by simp [hy])
theorem PT {x:Option Operand} {n:Int} {K:Int→Prop} (h:∀ y,x = some y→ρ y = ρ' y):Zk ρ x n K = Zk ρ' x n K:=by
 cases x with
 | none=>rfl
 | some x=>unfold Zk; simp only; rw [h x rfl]
theorem XR {sz:Nat} {xs:List D} {lo hi mx:Option Operand} {b:Bx} {K:F3→Prop} (h1:∀ y,lo = some y→ρ y = ρ' y) (h2:∀ y,hi = some y→ρ y = ρ' y) (h3:∀ y,mx = some y→ρ y = ρ' y) :
 Kw ρ sz xs lo hi mx b K = Kw ρ' sz xs lo hi mx b K:=by
 unfold Kw
 rw [PT h1]
 congr 1
 funext l
 rw [PT h2]
 congr 1
 funext h
 cases mx with
 | none=>rfl
 | some m=>simp only; rw [h3 m rfl]
end
set_option maxHeartbeats 1000000 in
theorem cZ {P:Program} {σ σ':Nat→Nat→RV} {ρ ρ':Option (Nat × Bool)→Operand→RV} {g:Option (Nat × Bool)} {o:Oper} {d n n':Nat} {K:F3→Prop}
 (h:∀ g' x,x∈o.op.operands.toList→ρ g' x = ρ' g' x) (hs:∀ g' x,x∈o.op.operands.toList→Xe σ σ' (ρ' g' x)) (hn:YL o.op = true→n = n') (hy:yA P σ ρ g o d n K):yA P σ' ρ' g o d n' K:=by
 have hn':∀ {c:Bool},YL o.op = c→c = true→n = n':=fun e1 e2=>hn (e1.trans e2)
 unfold yA at hy ⊢
 split at hy
 ·rename_i x ho
  simp only [ho] at h ⊢
  rw [h g x (by simp [Op.operands])] at hy; exact hy
 ·rename_i x ho
  have:=hn' (by rw [ho]; rfl) rfl
  subst this
  simp only [ho] at h ⊢
  rw [h g x (by simp [Op.operands])] at hy; exact hy
 ·rename_i t x y ho
  simp only [ho] at h ⊢
  rw [h g (.tmp t) (by simp [Op.operands]),h (some (t,true)) x (by simp [Op.operands]),h (some (t,false)) y (by simp [Op.operands])] at hy; exact hy
 ·rename_i T x ho
  have:=hn' (by rw [ho]; rfl) rfl
  subst this
  simp only [ho] at h ⊢
  rw [h g x (by simp [Op.operands])] at hy; exact hy
 ·rename_i T ho
  have:=hn' (by rw [ho]; rfl) rfl
  subst this
  first | exact hy | (simp only [ho]; exact hy)
 ·rename_i t BX ho
  simp only [ho] at h ⊢
  have e:∀ (K':List (Nat × D)→Bx→Prop),Kp (ρ g) BX.toList K' = Kp (ρ' g) BX.toList K':=fun K'=>Sz fun x hx=>h g x.2 (by simp only [Op.operands]; simp; exact ⟨x.1,by simpa using hx⟩)
  have e2:∀ (K':List (Nat × List C)→Prop),L2 (ρ g) BX.toList K' = L2 (ρ' g) BX.toList K':=fun K'=>Sx fun x hx=>h g x.2 (by simp only [Op.operands]; simp; exact ⟨x.1,by simpa using hx⟩)
  have e3:SJ (ρ g) BX.toList = SJ (ρ' g) BX.toList:=TQ fun x hx=>h g x.2 (by simp only [Op.operands]; simp; exact ⟨x.1,by simpa using hx⟩)
  simp only [e,e2,e3] at hy; exact hy
 ·rename_i t m BX ho
  have:=hn' (by rw [ho]; rfl) rfl
  subst this
  simp only [ho] at h ⊢
  have e:∀ (K':List (Nat × D)→Bx→Prop),L3 (ρ g) BX.toList K' = L3 (ρ' g) BX.toList K':=fun K'=>S4 fun x hx=>h g x.2 (by simp only [Op.operands]; simp; exact ⟨x.1,by simpa using hx⟩)
  simp only [e] at hy; exact hy
 ·rename_i t l c ho
  have:=hn' (by rw [ho]; rfl) rfl
  subst this
  simp only [ho] at h ⊢
  rw [h g l (by simp [Op.operands]),h g c (by simp [Op.operands])] at hy; exact hy
 ·rename_i f first caps ho
  simp only [ho] at h hs ⊢
  have e:∀ (K':List D→Bx→Prop),HF σ (ρ g) caps.toList K' = HF σ' (ρ' g) caps.toList K':=fun K'=>RD fun x hx=>by
   have hx':x∈caps:=by simpa using hx
   have hm:x∈(Op.makeFunc (.func f) first caps).operands.toList:=by simp [Op.operands,hx']
   exact ⟨h g x hm,hs g x hm⟩
  have e2:∀ (K':List C→Bx→Prop),HE σ (ρ g) caps.toList K' = HE σ' (ρ' g) caps.toList K':=fun K'=>RA fun x hx=>by
   have hx':x∈caps:=by simpa using hx
   have hm:x∈(Op.makeFunc (.func f) first caps).operands.toList:=by simp [Op.operands,hx']
   exact ⟨h g x hm,hs g x hm⟩
  have e3:Sw (ρ g) caps.toList = Sw (ρ' g) caps.toList:=TM fun x hx=>by
   have hx':x∈caps:=by simpa using hx
   exact h g x (by simp [Op.operands,hx'])
  simp only [e,e2,e3] at hy; exact hy
 ·rename_i t x ho
  simp only [ho] at h hs ⊢
  have h2:=(hs g x (by simp [Op.operands])).1
  rw [h g x (by simp [Op.operands])] at hy
  split at hy
  ·rename_i e; first | exact hy | (simp only [e]; exact hy)
  ·rename_i id n' o' cs e
   try simp only [e]
   rw [bo (σ':=σ') fun i m hm=>h2 _ _ _ _ e i m (List.mem_of_mem_drop hm)] at hy
   exact hy
  ·rename_i e; first | exact hy | (simp only [e]; exact hy)
  ·rename_i e; first | exact hy | (simp only [e]; exact hy)
  ·exact hy.elim
 ·rename_i t p x ho
  simp only [ho] at h ⊢
  rw [h g p (by simp [Op.operands]),h g x (by simp [Op.operands])] at hy; exact hy
 ·rename_i x ho
  simp only [ho] at h ⊢
  rw [h g x (by simp [Op.operands])] at hy; exact hy
 ·rename_i op t x y U ho
  simp only [ho] at h ⊢
  rw [h g x (by simp [Op.operands]),h g y (by simp [Op.operands])] at hy; exact hy
 ·rename_i op t x ho
  simp only [ho] at h ⊢
  rw [h g x (by simp [Op.operands])] at hy; exact hy
 ·rename_i s t x ho
  simp only [ho] at h ⊢
  rw [h g x (by simp [Op.operands])] at hy; exact hy
 ·rename_i s x f ho
  simp only [ho] at h ⊢
  rw [h g x (by simp [Op.operands])] at hy; exact hy
 ·rename_i s x f ho
  simp only [ho] at h ⊢
  rw [h g x (by simp [Op.operands])] at hy; exact hy
 ·rename_i t x ix ho
  simp only [ho] at h ⊢
  rw [h g x (by simp [Op.operands]),h g ix (by simp [Op.operands])] at hy; exact hy
 ·rename_i t x ix ho
  simp only [ho] at h ⊢
  rw [h g x (by simp [Op.operands]),h g ix (by simp [Op.operands])] at hy; exact hy
 ·rename_i t x lo hi mx ho
  simp only [ho] at h ⊢
  have h1:∀ y,lo = some y→ρ g y = ρ' g y:=fun y e=>h g y (by subst e; simp [Op.operands])
  have h2:∀ y,hi = some y→ρ g y = ρ' g y:=fun y e=>h g y (by subst e; simp [Op.operands])
  have h3:∀ y,mx = some y→ρ g y = ρ' g y:=fun y e=>h g y (by subst e; simp [Op.operands])
  rw [h g x (by simp [Op.operands])] at hy
  have e1:∀ {sz:Nat} {xs:List D} {b:Bx} {K:F3→Prop},Kw (ρ g) sz xs lo hi mx b K = Kw (ρ' g) sz xs lo hi mx b K:=XR h1 h2 h3
  have e2:∀ {n:Int} {K:Int→Prop},Zk (ρ g) lo n K = Zk (ρ' g) lo n K:=PT h1
  have e3:∀ {n:Int} {K:Int→Prop},Zk (ρ g) hi n K = Zk (ρ' g) hi n K:=PT h2
  simp only [e1,e2,e3] at hy
  exact hy
 ·rename_i c ho
  simp only [ho] at h hs ⊢
  split at hy
  ·rename_i fo hc
   have:=hn' (by rw [ho]; simp only [YL,hc]) rfl
   subst this
   have h1:=h g fo (by simp [Op.operands,Call.operands,hc])
   have hx:∀ x∈c.args.toList,ρ g x = ρ' g x∧Xe σ σ' (ρ' g x):=fun x hx=>by
    have hm:x∈(Op.call c).operands.toList:=by simp [Op.operands,Call.operands]; exact .inr (by simpa using hx)
    exact ⟨h g x hm,hs g x hm⟩
   have e:∀ (K':List AV→Bx→Prop),Ga P σ (ρ g) c.args.toList c.argTypes.toList K' = Ga P σ' (ρ' g) c.args.toList c.argTypes.toList K':=fun K'=>R6 hx
   have e':∀ (K':List AV→Bx→List (Option (Nat × Nat))→Prop),Fq P σ (ρ g) c.args.toList c.argTypes.toList K' = Fq P σ' (ρ' g) c.args.toList c.argTypes.toList K':=fun K'=>Q1 hx
   have h2:=(hs g fo (by simp [Op.operands,Call.operands,hc])).2.1
   have e3:∀ (f:FuncId) (caps:List D) (d dv:Nat) (K':F3→Prop),U5 P σ (ρ g) c f caps d dv K' = U5 P σ' (ρ' g) c f caps d dv K':=fun f caps d dv K'=>by unfold U5; simp only [e,e']
   have e4:Kz (ρ g) c.args.toList 0 = Kz (ρ' g) c.args.toList 0:=TC fun x hm=>(hx x hm).1
   have e5:∀ (k:Nat) (K':List AV→Prop),Ls (ρ g) k c.args.toList 0 K' = Ls (ρ' g) k c.args.toList 0 K':=fun k K'=>TB fun x hm=>(hx x hm).1
   simp only [h1,e,e3,e4,e5] at hy
   try simp only [hc]
   split at hy
   ·rename_i hfo
    try simp only [hfo]
    cases hgf:Kz (ρ' g) c.args.toList 0 with
    | none=>rw [hgf] at hy; exact hy
    | some q =>
      obtain ⟨k,id,n1,cl⟩:=q
      rw [hgf] at hy
      obtain ⟨j,x,_,hxj,hxr⟩:=ON hgf
      have e6:∀ (K':List C→Prop),Hd σ cl K' = Hd σ' cl K':=fun K'=>Sd fun i m hm=>(hx x (List.mem_of_getElem? hxj)).2.1 _ _ _ _ hxr i m hm
      simp only [e6] at hy
      exact hy
   ·rename_i hfo
    rw [h2 _ _ _ _ _ _ _ hfo] at hy
    first | exact hy | (simp only [hfo]; exact hy)
   ·exact hy.elim
  ·rename_i hc
   try simp only [hc]
   split at hy
   ·rename_i x t hx ht
    have h1:=h g x (by simp only [Op.operands,Call.operands,hc]; rw [Xk hx]; simp)
    simp only [h1] at hy
    try simp only [hx,ht]
    exact hy
   ·exact hy.elim
  ·rename_i hc
   try simp only [hc]
   split at hy
   ·rename_i x y hx
    have h1:=h g x (by simp only [Op.operands,Call.operands,hc]; rw [J2 hx]; simp)
    have h2:=h g y (by simp only [Op.operands,Call.operands,hc]; rw [J2 hx]; simp)
    simp only [h1,h2] at hy
    try simp only [hx]
    exact hy
   ·exact hy.elim
  ·rename_i hc
   try simp only [hc]
   split at hy
   ·rename_i x y hx
    have h1:=h g x (by simp only [Op.operands,Call.operands,hc]; rw [J2 hx]; simp)
    have h2:=h g y (by simp only [Op.operands,Call.operands,hc]; rw [J2 hx]; simp)
    simp only [h1,h2] at hy
    try simp only [hx]
    exact hy
   ·exact hy.elim
  ·rename_i hc
   have:=hn' (by rw [ho]; simp only [YL,hc]) rfl
   subst this
   try simp only [hc]
   split at hy
   ·rename_i x y t u hx ht
    have h1:=h g x (by simp only [Op.operands,Call.operands,hc]; rw [J2 hx]; simp)
    have h2:=h g y (by simp only [Op.operands,Call.operands,hc]; rw [J2 hx]; simp)
    simp only [h1,h2] at hy
    try simp only [hx,ht]
    exact hy
   ·exact hy.elim
  ·exact hy.elim
 ·rename_i t i ho
  simp only [ho] at h ⊢
  rw [h g t (by simp [Op.operands])] at hy; exact hy
 ·rename_i t ho
  have:=hn' (by rw [ho]; rfl) rfl
  subst this
  exact hy
 ·rename_i t x ix ok ho
  simp only [ho] at h ⊢
  rw [h g x (by simp [Op.operands]),h g ix (by simp [Op.operands])] at hy; exact hy
 ·rename_i t m k x ho
  simp only [ho] at h ⊢
  rw [h g m (by simp [Op.operands]),h g k (by simp [Op.operands]),h g x (by simp [Op.operands])] at hy; exact hy
 ·exact hy.elim
end Go.Abs
set_option linter.unusedVariables false
set_option linter.unusedSimpArgs false
namespace Go.Abs
open Go.RowKit (Below)
def TU (S T:AS) (t:Nat):Prop:=(Av S t).av = (Av T t).av
def SQ (S T:AS) (b:Nat):Prop:=(Av S b).box = (Av T b).box∧(Av S b).ver = (Av T b).ver
theorem Us:∀ (S:AS) (d:Nat) (K:Nat→Prop),d < S.length→K (Av S d).ver→Tr S d K
 | [],_,_,h,_=>by simp at h
 | ⟨_,_,_⟩ :: _,0,_,_,h=>h
 | s :: r,d + 1,K,hd,h=>Us r d K (by simpa using hd) h
theorem bW {x:Option Nat} {K:Nat→Prop} (h:K (x.getD 0)):dK x K:=by cases x <;> exact h
theorem FD (g:Option (Nat × Bool)) (v:AV):∀ i∈Jb (eV g v),i∈Jb v:=by
 cases v <;> try (intro i hi; exact hi)
 case under t w y =>
  intro i hi
  simp only [eV] at hi
  cases g with
  | none=>simp [Jb] at hi
  | some p =>
    obtain ⟨t',w'⟩:=p
    simp only at hi
    split at hi
    ·exact hi
    ·simp [Jb] at hi
theorem Il:∀ {cs:List C} {id n:Nat},C.sl id n∈cs→id∈Ld cs
 | [],_,_,h=>by simp at h
 | c :: r,id,n,h=>by
   rcases List.mem_cons.1 h with h | h
   ·subst h; simp [Ld]
   ·have:=Il h
    cases c <;> simp [Ld,this]
theorem KV {S T:AS} {v:AV} (h:∀ i∈Jb v,SQ S T i):res S v = res T v:=by
 cases v <;> try rfl
 case ptr id n o =>
  obtain ⟨h1,h2⟩:=h id (by simp [Jb])
  simp only [res]
  generalize Av S id = s at *
  generalize Av T id = t at *
  obtain ⟨_,b,m⟩:=s
  obtain ⟨_,b',m'⟩:=t
  simp only at h1 h2
  subst h1; subst h2
  cases b <;> rfl
 case sl id n =>
  obtain ⟨h1,h2⟩:=h id (by simp [Jb])
  simp only [res]
  generalize Av S id = s at *
  generalize Av T id = t at *
  obtain ⟨_,b,m⟩:=s
  obtain ⟨_,b',m'⟩:=t
  simp only at h1 h2
  subst h1; subst h2
  cases b <;> rfl
 case eptr id n sz i o =>
  obtain ⟨h1,h2⟩:=h id (by simp [Jb])
  simp only [res]
  generalize Av S id = s at *
  generalize Av T id = t at *
  obtain ⟨_,b,m⟩:=s
  obtain ⟨_,b',m'⟩:=t
  simp only at h1 h2
  subst h1; subst h2
  cases b <;> rfl
 case cc k xs =>
  cases k with
  | none=>rfl
  | some f =>
    simp only [res]
    split
    ·rename_i j id n hat
     obtain ⟨h1,h2⟩:=h id (by simp only [Jb]; exact Il (List.mem_of_getElem? (PH hat)))
     generalize Av S id = s at *
     generalize Av T id = t at *
     obtain ⟨_,b,m⟩:=s
     obtain ⟨_,b',m'⟩:=t
     simp only at h1 h2
     subst h1; subst h2
     cases b <;> try rfl
     rename_i cs
     match cs with
     | []=>rfl
     | [.d _]=>rfl
     | [.sl _ _]=>rfl
     | [.own _ _ _]=>rfl
     | .d _ :: _ :: _=>rfl
     | .sl _ _ :: _ :: _=>rfl
     | .own _ _ _ :: _ :: _=>rfl
    ·rfl
def RR (S:AS) (all:List Oper) (o:Oper) (e:F3):List Nat:=VG S (Ds all o) o++e.homes.map (·.1)
theorem Qz {S T:AS} (hl:S.length = T.length):∀ {hs:List (Nat × Nat)},(∀ b∈hs.map (·.1),SQ S T b)→Fp S hs = Fp T hs
 | [],_=>rfl
 | (h,n) :: r,hb=>by
   simp only [Fp]
   rw [hl,(hb h (by simp)).2,Qz hl fun b hm=>hb b (by simp only [List.map_cons,List.mem_cons]; exact .inr hm)]
theorem L0:∀ {l:List Operand} {t:Nat},Operand.tmp t∈l→t∈Tg l
 | [],_,h=>by simp at h
 | x :: r,t,h=>by
   rcases List.mem_cons.1 h with h | h
   ·subst h; simp [Tg]
   ·have:=L0 h
    cases x <;> simp [Tg,this]
section
variable {P:Program} {all:List Oper} {o:Oper}
theorem ρ_congr {S T:AS} (hm:J9 S o = false) (h1:∀ t∈Ds all o,TU S T t) (h2:∀ b∈VG S (Ds all o) o,SQ S T b):∀ g x,x∈o.op.operands.toList→ρOf S g x = ρOf T g x:=by
 intro g x hx
 unfold ρOf
 cases x with
 | tmp t =>
   have ht:t∈Ds all o:=by simp only [Ds,List.mem_append]; exact .inr (L0 hx)
   simp only [ev]
   have ha:=h1 t ht
   unfold TU at ha
   rw [← ha]
   refine KV fun i hi=>h2 i ?_
   simp only [VG,hm,List.mem_append,List.mem_flatMap]
   exact .inr ⟨t,ht,i,FD g _ i hi,by simp [aH]⟩
 | const v =>
   simp only [ev]
   refine KV fun i hi=>?_
   have:=FD g _ i hi
   exfalso
   revert this
   unfold Zv
   split <;> simp [Jb]
 | global q =>
   simp only [ev]
   refine KV fun i hi=>?_
   have:=FD g _ i hi
   exfalso
   revert this
   split <;> simp [Jb]
 | func f =>
   simp only [ev]
   exact KV fun i hi=>by have:=FD g _ i hi; simp [Jb] at this
theorem cN {S:AS} {v:AV} {id n o:Nat} {cs:List C} (h:res S v = .vptr id n o cs):id∈Jb v∧(Av S id).box = .var cs:=by
 cases v <;> simp only [res] at h <;> try (cases h; done)
 case ptr id' n' o' =>
  split at h
  ·rename_i m hs
   split at h
   ·cases h; exact ⟨by simp [Jb],by rw [hs]⟩
   ·cases h
  ·split at h <;> cases h
  ·cases h
 case sl id' n' =>
  split at h
  ·split at h <;> cases h
  ·split at h <;> cases h
  ·split at h <;> cases h
  ·cases h
 case eptr =>
  split at h
  ·split at h <;> cases h
  ·cases h
 case cc k' xs =>
  cases k' with
  | none=>cases h
  | some f' =>
    simp only at h
    split at h
    ·split at h
     ·split at h <;> cases h
     ·cases h
    ·cases h
theorem dC {S:AS} {v:AV} {f:FuncId} {cs:List C} {k id n rid rn:Nat} (h:res S v = .clo f cs k id n rid rn):id∈Jb v∧(Av S id).box = .var [.sl rid rn]:=by
 cases v <;> simp only [res] at h <;> try (cases h; done)
 case ptr id' n' o' =>
  split at h
  ·split at h <;> cases h
  ·split at h <;> cases h
  ·cases h
 case sl id' n' =>
  split at h
  ·split at h <;> cases h
  ·split at h <;> cases h
  ·split at h <;> cases h
  ·cases h
 case eptr =>
  split at h
  ·split at h <;> cases h
  ·cases h
 case cc k' xs =>
  cases k' with
  | none=>cases h
  | some f' =>
    simp only at h
    split at h
    ·rename_i j id' n' hat
     split at h
     ·rename_i av rid' rn' m hs
      split at h
      ·cases h
       exact ⟨by simp only [Jb]; exact Il (List.mem_of_getElem? (PH hat)),by rw [hs]⟩
      ·cases h
     ·cases h
    ·cases h
theorem cM {S:AS} {v:AV} {cs:List C} (h:res S v = .cagg cs):v = .cc none cs:=by
 cases v <;> simp only [res] at h <;> try (cases h; done)
 case ptr id' n' o' =>
  split at h
  ·split at h <;> cases h
  ·split at h <;> cases h
  ·cases h
 case sl id' n' =>
  split at h
  ·split at h <;> cases h
  ·split at h <;> cases h
  ·split at h <;> cases h
  ·cases h
 case eptr =>
  split at h
  ·split at h <;> cases h
  ·cases h
 case cc k' xs =>
  cases k' with
  | none=>cases h; rfl
  | some f' =>
    simp only at h
    split at h
    ·split at h
     ·split at h <;> cases h
     ·cases h
    ·cases h
theorem dG {S T:AS} (hmv:J9 S o = false) (h1:∀ t∈Ds all o,TU S T t) (h2:∀ b∈VG S (Ds all o) o,SQ S T b):∀ g x,x∈o.op.operands.toList→Xe (σOf S) (σOf T) (ρOf T g x):=by
 intro g x hx
 have key:∀ (id:Nat) (cs:List C),id∈Jb (eV g (ev S x))→(Av S id).box = .var cs→∀ id' n',C.sl id' n'∈cs→σOf S id' n' = σOf T id' n':=by
  intro id cs h3 h4 id' n' hm
  refine KV fun i hi=>?_
  simp only [Jb,List.mem_singleton] at hi
  subst hi
  cases x with
  | tmp t =>
    have ht:t∈Ds all o:=by simp only [Ds,List.mem_append]; exact .inr (L0 hx)
    refine h2 _ ?_
    simp only [VG,hmv,List.mem_append,List.mem_flatMap]
    refine .inr ⟨t,ht,id,FD g _ id h3,?_⟩
    simp only [aH,h4,List.mem_cons]
    exact .inr (Il hm)
  | const v =>
    have:=FD g _ id h3
    exfalso
    revert this
    simp only [ev]
    unfold Zv
    split <;> simp [Jb]
  | global q =>
    have:=FD g _ id h3
    exfalso
    revert this
    simp only [ev]
    split <;> simp [Jb]
  | func f=>have:=FD g _ id h3; simp [ev,Jb] at this
 refine ⟨fun id n of cs hr id' n' hm=>?_,fun f cs k id n rid rn hr=>?_,fun cs hr id' n' hm=>?_⟩
 ·rw [← ρ_congr hmv h1 h2 g x hx] at hr
  obtain ⟨h3,h4⟩:=cN hr
  exact key id cs h3 h4 id' n' hm
 ·rw [← ρ_congr hmv h1 h2 g x hx] at hr
  obtain ⟨h3,h4⟩:=dC hr
  exact key id _ h3 h4 rid rn (by simp)
 ·rw [← ρ_congr hmv h1 h2 g x hx] at hr
  have hu:=cM hr
  have hi':id'∈Jb (eV g (ev S x)):=by rw [hu]; exact Il hm
  refine KV fun i hi=>?_
  simp only [Jb,List.mem_singleton] at hi
  subst hi
  cases x with
  | tmp t =>
    have ht:t∈Ds all o:=by simp only [Ds,List.mem_append]; exact .inr (L0 hx)
    refine h2 _ ?_
    simp only [VG,hmv,List.mem_append,List.mem_flatMap]
    exact .inr ⟨t,ht,i,FD g _ i hi',by simp [aH]⟩
  | const v =>
    have:=FD g _ i hi'
    exfalso
    revert this
    simp only [ev]
    unfold Zv
    split <;> simp [Jb]
  | global q =>
    have:=FD g _ i hi'
    exfalso
    revert this
    simp only [ev]
    split <;> simp [Jb]
  | func f=>have:=FD g _ i hi'; simp [ev,Jb] at this
theorem Yx {S T:AS} (h1:∀ t∈Ds all o,TU S T t) {x:Operand} (hx:x∈o.op.operands.toList):ev S x = ev T x:=by
 cases x with
 | tmp t =>
   have ht:t∈Ds all o:=by simp only [Ds,List.mem_append]; exact .inr (L0 hx)
   exact h1 t ht
 | const v=>rfl
 | global q=>rfl
 | func f=>rfl
theorem VR {S T:AS} (h1:∀ t∈Ds all o,TU S T t):J9 S o = J9 T o:=by
 unfold J9
 split
 ·rename_i x ho
  rw [Yx h1 (x:=x) (by rw [ho]; simp [Op.operands])]
 ·rfl
theorem f4 {S:AS} {g:Option (Nat × Bool)} {d n:Nat} {K:F3→Prop} (hm:J9 S o = false) (hy:yA P (σOf S) (ρOf S) g o d n K):yS P S g o d n K:=by
 unfold yS
 unfold J9 at hm
 split
 ·rename_i x ho
  rw [ho] at hm
  simp only at hm
  split
  ·rename_i he; rw [he] at hm; cases hm
  ·rename_i he; rw [he] at hm; cases hm
  ·exact hy
 ·exact hy
theorem au (P:Program) (S:AS) (g:Option (Nat × Bool)) (o:Oper) (d n:Nat):C5 fun K=>yS P S g o d n K:=by
 unfold yS
 split
 ·split
  ·exact Ar _
  ·exact Ar _
  ·exact ar _ _ _ _ _ _ _
 ·exact ar _ _ _ _ _ _ _
theorem XZ {S T:AS} {g:Option (Nat × Bool)} {K:F3→Prop} (h1:∀ t∈Ds all o,TU S T t) (h2:∀ b∈VG S (Ds all o) o,SQ S T b) (hl:S.length = T.length)
 (hy:dK o.dst fun d=>Tr S d fun n=>yS P S g o d n K):dK o.dst fun d=>Tr T d fun n=>yS P T g o d n K:=by
 obtain ⟨hd,hy⟩:=Mv _ _ _ (Wx hy)
 refine bW (Us _ _ _ (by rw [← hl]; exact hd) ?_)
 rcases VC hy with ⟨x,ho,he,hK⟩ | ⟨hm,hy⟩
 ·unfold yS
  rw [ho]
  simp only
  rw [← Yx h1 (x:=x) (by rw [ho]; simp [Op.operands])]
  cases h:ev S x with
  | ptr id v k=>rw [h] at hK; exact hK
  | sl id v=>rw [h] at hK; exact hK
  | _=>rw [h] at he; cases he
 ·refine f4 (by rw [← VR h1]; exact hm) (cZ (ρ_congr hm h1 h2) (dG hm h1 h2) (fun hmk=>?_) hy)
  exact (h2 _ (by simp [VG,hmk])).2
theorem aO.move {lk:List Nat} {S T:AS} (h:∀ t∈lk,TU S T t):∀ {n t:Nat} {r:Option Bool},aO lk n t S r→aO lk n t T r
 | 0,_,_,hd=>hd.elim
 | n + 1,t,r,⟨hlk,hd⟩=>by
   have e:=h t hlk
   unfold TU at e
   refine ⟨hlk,?_⟩
   rcases hd with ⟨b,hb,hr⟩ | ⟨t',w',b,r',hb,hd,hr⟩ | ⟨t',w',hb,hr⟩
   ·exact .inl ⟨b,by rw [← e]; exact hb,hr⟩
   ·exact .inr (.inl ⟨t',w',b,r',by rw [← e]; exact hb,aO.move h hd,hr⟩)
   ·exact .inr (.inr ⟨t',w',by rw [← e]; exact hb,hr⟩)
theorem cJ {done:List Nat} {S:AS} {K:AS→F3→Prop} (hy:bu P all done o S K) :
 ∃ e,K S e∧∀ (done':List Nat) (T:AS),(∀ t∈Ds all o,TU S T t)→(∀ b∈RR S all o e,SQ S T b)→S.length = T.length→(∀ j want t,o.guard = some (j,want)→T8 all j = some t→t∈done') →
   bu P all done' o T (fun T' f=>T' = T∧f = e):=by
 have ex:∀ {g:Option (Nat × Bool)} {F:F3→Prop},(dK o.dst fun d=>Tr S d fun n=>yS P S g o d n F)→∃ e,F e∧dK o.dst fun d=>Tr S d fun n=>yS P S g o d n fun f=>f = e:=by
  intro g F hy
  obtain ⟨hd,hy⟩:=Mv _ _ _ (Wx hy)
  obtain ⟨e,he,hF⟩:=(au P S g o (o.dst.getD 0) (Av S (o.dst.getD 0)).ver).2 _ hy
  exact ⟨e,hF,bW (Us _ _ _ hd he)⟩
 have mon:∀ {T:AS} {g:Option (Nat × Bool)} {F F':F3→Prop},(∀ e,F e→F' e)→(dK o.dst fun d=>Tr T d fun n=>yS P T g o d n F)→dK o.dst fun d=>Tr T d fun n=>yS P T g o d n F':=by
  intro T g F F' hF hy
  obtain ⟨hd,hy⟩:=Mv _ _ _ (Wx hy)
  exact bW (Us _ _ _ hd ((au P T g o (o.dst.getD 0) (Av T (o.dst.getD 0)).ver).1 _ _ hF hy))
 have sub:∀ {T:AS} {e:F3},(∀ b∈RR S all o e,SQ S T b)→∀ b∈VG S (Ds all o) o,SQ S T b:=fun h b hb=>h b (by simp only [RR,List.mem_append]; exact .inl hb)
 have hom:∀ {T:AS} {e:F3},S.length = T.length→(∀ b∈RR S all o e,SQ S T b)→Fp S e.homes = Fp T e.homes:=fun hl h=>Qz hl fun b hb=>h b (by simp only [RR,List.mem_append]; exact .inr hb)
 unfold bu at hy
 split at hy
 ·rename_i hgd
  obtain ⟨e,hK,he⟩:=ex hy
  obtain ⟨hho,hK⟩:=Au hK
  refine ⟨e,hK,fun _ T h1 h2 hl _=>?_⟩
  unfold bu
  simp only [hgd]
  refine mon (fun f hf=>?_) (XZ h1 (sub h2) hl he)
  subst hf
  rw [if_pos (by rw [← hom hl h2]; exact hho)]
  first | exact ⟨rfl,rfl⟩ | exact ⟨trivial,rfl⟩
 ·rename_i j want hgd
  split at hy
  ·exact hy.elim
  ·rename_i t ht
   obtain ⟨hdone,hy⟩:=Au hy
   split at hy
   ·rename_i hh
    obtain ⟨e,hK,he⟩:=ex hy
    split at hK
    ·rename_i v
     refine ⟨_,hK,fun _ T h1 h2 hl hdn=>?_⟩
     unfold bu
     simp only [hgd,ht,hh]
     rw [if_pos (by simpa using hdn j want t hgd ht)]
     refine mon (fun f hf=>?_) (XZ h1 (sub h2) hl he)
     subst hf
     first | exact ⟨rfl,rfl⟩ | exact ⟨trivial,rfl⟩
    ·exact hK.elim
   ·rename_i hh
    obtain ⟨r,hy,hdec⟩:=QZ hy
    have hdT:∀ T:AS,(∀ t∈Ds all o,TU S T t)→aO (Ds all o) 5 t T r:=fun T h1=>hdec.move h1
    rcases Ik.1 hy with ⟨hrw,hgo⟩ | ⟨hne,hK⟩
    ·obtain ⟨e,hK,he⟩:=ex hgo
     obtain ⟨hho,hK⟩:=Au hK
     refine ⟨e,hK,fun _ T h1 h2 hl hdn=>?_⟩
     unfold bu
     simp only [hgd,ht,hh]
     rw [if_pos (by simpa using hdn j want t hgd ht)]
     refine Xo (hdT T h1) (Ik.2 (.inl ⟨hrw,mon (fun f hf=>?_) (XZ h1 (sub h2) hl he)⟩))
     subst hf
     rw [if_pos (by rw [← hom hl h2]; exact hho)]
     exact ⟨rfl,rfl⟩
    ·refine ⟨_,hK,fun _ T h1 h2 hl hdn=>?_⟩
     unfold bu
     simp only [hgd,ht,hh]
     rw [if_pos (by simpa using hdn j want t hgd ht)]
     exact Xo (hdT T h1) (Ik.2 (.inr ⟨hne,by first | exact ⟨rfl,rfl⟩ | exact ⟨rfl,trivial⟩ | exact ⟨trivial,trivial⟩⟩))
structure VE (P:Program) (all:List Oper) (S₀:AS) (St:Nat→AS) (E:Nat→F3):Prop where
 start:St 0 = S₀
 next:∀ (i:Nat) (o:Oper),all[i]? = some o→St (i + 1) = Ws o.dst (E i) (St i)
 once:∀ (i j:Nat) (o o':Oper),i < j→all[i]? = some o→all[j]? = some o'→∀ d,o.dst = some d→o'.dst≠some d
 does:∀ (i:Nat) (o:Oper),all[i]? = some o→∀ (T:AS) (done:List Nat),(∀ t∈Ds all o,TU (St i) T t)→(∀ b∈RR (St i) all o (E i),SQ (St i) T b)→(St i).length = T.length →
  (∀ j want t,o.guard = some (j,want)→T8 all j = some t→t∈done)→bu P all done o T (fun T' f=>T' = T∧f = E i)
 box:∀ (i j:Nat) (o o':Oper),i < j→all[i]? = some o→all[j]? = some o'→Qw all o' i = false →
  TW ((E i).bx.map (·.1)) (RR (St j) all o' (E j)++(E j).bx.map (·.1)) = true∧TW (RR (St i) all o (E i)) ((E j).bx.map (·.1)) = true
theorem cS (P:Program) (all:List Oper):∀ (l:List Oper) (k:Nat) (log:List (Nat × List Nat × List Nat)) (done:List Nat) (S:AS) (K:AS→Prop),(∀ j,l[j]? = all[k + j]?)→eI P all k log done l S K →
 ∃ (St:Nat→AS) (E:Nat→F3),St k = S∧K (St (k + l.length)) ∧
   (∀ (i:Nat) (o:Oper),k≤i→all[i]? = some o→St (i + 1) = Ws o.dst (E i) (St i)) ∧
   (∀ (i:Nat) (o:Oper),k≤i→all[i]? = some o→∀ d,o.dst = some d→d ∉ done) ∧
   (∀ (i j:Nat) (o o':Oper),k≤i→i < j→all[i]? = some o→all[j]? = some o'→∀ d,o.dst = some d→o'.dst≠some d) ∧
   (∀ (i:Nat) (o:Oper),k≤i→all[i]? = some o→∀ (T:AS) (done:List Nat),(∀ t∈Ds all o,TU (St i) T t)→(∀ b∈RR (St i) all o (E i),SQ (St i) T b)→(St i).length = T.length →
    (∀ j want t,o.guard = some (j,want)→T8 all j = some t→t∈done)→bu P all done o T (fun T' f=>T' = T∧f = E i)) ∧
   (∀ (i:Nat) (o:Oper),k≤i→all[i]? = some o→∀ x∈log,Qw all o x.1 = false→TW x.2.2 (RR (St i) all o (E i)++(E i).bx.map (·.1)) = true∧TW x.2.1 ((E i).bx.map (·.1)) = true) ∧
   (∀ (i j:Nat) (o o':Oper),k≤i→i < j→all[i]? = some o→all[j]? = some o'→Qw all o' i = false →
    TW ((E i).bx.map (·.1)) (RR (St j) all o' (E j)++(E j).bx.map (·.1)) = true∧TW (RR (St i) all o (E i)) ((E j).bx.map (·.1)) = true)
 | [],k,log,done,S,K,hall,hy=>by
   have none:∀ i,k≤i→all[i]? = none:=by
    intro i hi
    have hk:=hall 0
    simp at hk
    exact List.getElem?_eq_none (by omega)
   refine ⟨fun _=>S,fun _=>⟨.any,[],[]⟩,rfl,hy,?_,?_,?_,?_,?_,?_⟩
   ·intro i o hi ho; rw [none i hi] at ho; cases ho
   ·intro i o hi ho; rw [none i hi] at ho; cases ho
   ·intro i j o o' hi _ ho; rw [none i hi] at ho; cases ho
   ·intro i o hi ho; rw [none i hi] at ho; cases ho
   ·intro i o hi ho; rw [none i hi] at ho; cases ho
   ·intro i j o o' hi _ ho; rw [none i hi] at ho; cases ho
 | o :: r,k,log,done,S,K,hall,hy=>by
   obtain ⟨hnd,hy⟩:=Au hy
   obtain ⟨e,hK,hmove'⟩:=cJ hy
   rw [Jp,Jp] at hK
   obtain ⟨hok,hK⟩:=Au hK
   rw [Xh,Jp] at hK
   have ho:all[k]? = some o:=by have:=hall 0; simpa using this.symm
   obtain ⟨St,E,hs,hKn,hnext,hnd',honce,hdoes,hlog,hbox⟩:=cS P all r (k + 1) _ _ _ K (fun j=>by have:=hall (j + 1); rw [List.getElem?_cons_succ] at this; rw [this]; congr 1; omega) hK
   have hne:∀ i,k + 1≤i→i≠k:=fun i hi=>by omega
   refine ⟨fun i=>if i = k then S else St i,fun i=>if i = k then e else E i,by simp,?_,?_,?_,?_,?_,?_,?_⟩
   ·have:k + (o :: r).length≠k:=by simp
    simp only [this,if_false]
    rw [show k + (o :: r).length = k + 1 + r.length by simp; omega]
    exact hKn
   ·intro i o' hi ho'
    by_cases hik:i = k
    ·subst hik
     rw [ho] at ho'; cases ho'
     simp [hs]
    ·have h1:i + 1≠k:=by omega
     simp only [hik,h1,if_false]
     exact hnext i o' (by omega) ho'
   ·intro i o' hi ho' d hd
    by_cases hik:i = k
    ·subst hik
     rw [ho] at ho'; cases ho'
     simp [hd,Db] at hnd
     exact hnd
    ·have:=hnd' i o' (by omega) ho' d hd
     intro hm; exact this (by simp [hm])
   ·intro i j o1 o2 hi hij h1 h2 d hd
    by_cases hik:i = k
    ·subst hik
     rw [ho] at h1; cases h1
     intro hd2
     exact hnd' j o2 (by omega) h2 d hd2 (by simp [hd,Db])
    ·exact honce i j o1 o2 (by omega) hij h1 h2 d hd
   ·intro i o' hi ho'
    by_cases hik:i = k
    ·subst hik
     rw [ho] at ho'; cases ho'
     simp only [if_true]
     intro T done' h1 h2 hl hdn
     exact hmove' done' T h1 h2 hl hdn
    ·simp only [hik,if_false]
     exact hdoes i o' (by omega) ho'
   ·intro i o' hi ho' x hx hed
    by_cases hik:i = k
    ·subst hik
     rw [ho] at ho'; cases ho'
     simp only [if_true]
     simp only [dY,List.all_eq_true] at hok
     have:=hok x hx
     simp [hed] at this
     simp only [RR,List.append_assoc]
     exact this
    ·simp only [hik,if_false]
     exact hlog i o' (by omega) ho' x (by simp [hx]) hed
   ·intro i j o1 o2 hi hij h1 h2 hed
    have hjk:j≠k:=by omega
    by_cases hik:i = k
    ·subst hik
     rw [ho] at h1; cases h1
     simp only [if_true,hjk,if_false]
     exact hlog j o2 (by omega) h2 (i,RR S all o e,e.bx.map (·.1)) (by simp [RR]) hed
    ·simp only [hik,hjk,if_false]
     exact hbox i j o1 o2 (by omega) hij h1 h2 hed
theorem HA:∀ (b:Bx) (S:AS) (i:Nat),i ∉ b.map (·.1)→Av (Be b S) i = Av S i
 | [],_,_,_=>rfl
 | (id,B,n) :: r,S,i,h=>by
   simp only [List.map_cons,List.mem_cons,not_or] at h
   simp only [Be]
   rw [HA r _ i h.2,Cd,if_neg (fun e=>h.1 e.1)]
theorem Xl:∀ (b:Bx) (S:AS) (i:Nat),(Av (Be b S) i).av = (Av S i).av
 | [],_,_=>rfl
 | (id,B,n) :: r,S,i=>by
   simp only [Be]
   rw [Xl r,Cd]
   split
   ·rename_i e; rw [e.1]
   ·rfl
theorem Qs:∀ (b:Bx) (S T:AS) (i:Nat),S.length = T.length→i∈b.map (·.1)→SQ (Be b S) (Be b T) i
 | [],_,_,_,_,h=>by simp at h
 | (id,B,n) :: r,S,T,i,hl,h=>by
   simp only [Be]
   by_cases hr:i∈r.map (·.1)
   ·exact Qs r _ _ i (by simp [Dx,hl]) hr
   ·have hi:i = id:=by simp at h hr; rcases h with h | ⟨x,y,h⟩; exact h; exact absurd h (hr x y)
    unfold SQ
    rw [HA r _ i hr,HA r _ i hr,Cd,Cd,hi,hl]
    split
    ·exact ⟨rfl,rfl⟩
    ·rename_i hn
     have h1:T.length≤id:=by
      rcases Nat.lt_or_ge id T.length with h | h
      ·exact absurd ⟨rfl,h⟩ hn
      ·exact h
     rw [KJ S id (by omega),KJ T id h1]
     exact ⟨rfl,rfl⟩
theorem Va (dst:Option Nat) (e:F3) (S:AS):(Ws dst e S).length = S.length:=by
 cases dst <;> simp [Ws,K9,BP]
theorem R5 {dst:Option Nat} {e:F3} {S:AS} {t:Nat} (h:dst≠some t):TU (Ws dst e S) S t:=by
 unfold TU
 cases dst with
 | none=>simp [Ws,Xl]
 | some d =>
   simp only [Ws]
   rw [CW,if_neg (fun hh=>h (by rw [hh.1])),Xl]
theorem Yf {dst:Option Nat} {e:F3} {S T:AS} {t:Nat} (hl:S.length = T.length) (h:dst = some t):TU (Ws dst e S) (Ws dst e T) t:=by
 unfold TU
 subst h
 simp only [Ws]
 rw [CW,CW,BP,BP,hl]
 split
 ·rfl
 ·rename_i hn
  have h1:T.length≤t:=by
   rcases Nat.lt_or_ge t T.length with h | h
   ·exact absurd ⟨rfl,h⟩ hn
   ·exact h
  rw [KJ _ t (by rw [BP]; omega),KJ _ t (by rw [BP]; exact h1)]
theorem Xi {dst:Option Nat} {e:F3} {S:AS} {b:Nat}:SQ (Ws dst e S) (Be e.bx S) b:=by
 unfold SQ
 cases dst with
 | none=>exact ⟨rfl,rfl⟩
 | some d =>
   simp only [Ws]
   rw [CW]
   split
   ·rename_i hh; rw [hh.1]; exact ⟨rfl,rfl⟩
   ·exact ⟨rfl,rfl⟩
theorem Qq {dst:Option Nat} {e:F3} {S:AS} {b:Nat} (h:b ∉ e.bx.map (·.1)):SQ (Ws dst e S) S b:=by
 have:=Xi (dst:=dst) (e:=e) (S:=S) (b:=b)
 unfold SQ at *
 rw [this.1,this.2,HA _ _ _ h]
 exact ⟨rfl,rfl⟩
theorem Xj {dst:Option Nat} {e:F3} {S T:AS} {b:Nat} (hl:S.length = T.length) (h:b∈e.bx.map (·.1)):SQ (Ws dst e S) (Ws dst e T) b:=by
 have h1:=Xi (dst:=dst) (e:=e) (S:=S) (b:=b)
 have h2:=Xi (dst:=dst) (e:=e) (S:=T) (b:=b)
 have h3:=Qs e.bx S T b hl h
 unfold SQ at *
 rw [h1.1,h1.2,h2.1,h2.2]
 exact h3
theorem cn:∀ {S T:AS},S.length = T.length→(∀ t,TU S T t)→(∀ b,SQ S T b)→S = T
 | [],[],_,_,_=>rfl
 | s :: S,t :: T,hl,h1,h2=>by
   have e1:=h1 0
   have e2:=h2 0
   simp only [TU,SQ,Av] at e1 e2
   have:s = t:=by obtain ⟨_,_,_⟩:=s; obtain ⟨_,_,_⟩:=t; simp_all
   rw [this,cn (S:=S) (T:=T) (by simpa using hl) (fun i=>h1 (i + 1)) (fun i=>h2 (i + 1))]
 | [],_ :: _,hl,_,_=>by simp at hl
 | _ :: _,[],hl,_,_=>by simp at hl
theorem MY {x y:List Nat} (h:TW x y = true):∀ i∈x,i ∉ y:=by simpa [TW] using h
theorem Ny:∀ (l:List Oper) (k:Nat),(∀ j,l[j]? = all[k + j]?)→ZS all k l = true →
 ∀ i o,k≤i→all[i]? = some o→((∀ e∈o.after,Region.binds .any e = true→e.on < i)∧∀ j want,o.guard = some (j,want)→j < i) ∧
   ∀ j o',j < i→all[j]? = some o'→Qw all o j = true∨((∀ d,o'.dst = some d→d ∉ Ds all o)∧(∀ d,o.dst = some d→d ∉ Ds all o'))
 | [],k,hall,_,i,o,hi,ho=>by
   have hk:=hall 0
   simp at hk
   rw [List.getElem?_eq_none (by omega)] at ho
   cases ho
 | x :: r,k,hall,h,i,o,hi,ho=>by
   simp only [ZS,Bool.and_eq_true] at h
   obtain ⟨⟨⟨h1,h1g⟩,h2⟩,h3⟩:=h
   by_cases hik:i = k
   ·subst hik
    have hx:all[i]? = some x:=by have:=hall 0; simpa using this.symm
    rw [hx] at ho; cases ho
    refine ⟨⟨fun e he hb=>?_,fun j want hg=>by simpa [hg] using h1g⟩,fun j o' hj ho'=>?_⟩
    ·have:=List.all_eq_true.1 h1 e (by simpa using he)
     simpa [hb] using this
    ·have:=List.all_eq_true.1 h2 (o',j) (by
      rw [List.mem_iff_getElem?]
      refine ⟨j,?_⟩
      rw [List.getElem?_zipIdx,List.getElem?_take_of_lt hj,ho']
      simp)
     simp only [Bool.or_eq_true,Bool.and_eq_true] at this
     rcases this with ⟨h4,h5⟩ | h4
     ·refine .inr ⟨fun d hd=>MY h4 d (by simp [hd,Db]),fun d hd hm=>MY h5 d hm (by simp [hd,Db])⟩
     ·exact .inl h4
   ·exact Ny r (k + 1) (fun j=>by have:=hall (j + 1); rw [List.getElem?_cons_succ] at this; rw [this]; congr 1; omega) h3 i o (by omega) ho
end
structure bK (all:List Oper) (St:Nat→AS) (E:Nat→F3) (S₀:AS) (f:Nat→Bool) (T:AS):Prop where
 len:T.length = S₀.length
 dc:∀ (k:Nat) (o:Oper),all[k]? = some o→f k = true→∀ i,VK o i = true→f i = true
 vs:∀ (t i:Nat),i≤all.length→(∀ (k:Nat) (o:Oper),all[k]? = some o→o.dst = some t→(f k = true↔k < i))→TU T (St i) t
 vb:∀ (b i:Nat),i≤all.length→(∀ (k:Nat) (o:Oper),all[k]? = some o→b∈(E k).bx.map (·.1)→(f k = true↔k < i))→SQ T (St i) b
section
variable {P:Program} {all:List Oper} {St:Nat→AS} {E:Nat→F3} {S₀:AS}
theorem VE.len (h:VE P all S₀ St E):∀ i,i≤all.length→(St i).length = S₀.length
 | 0,_=>by rw [h.start]
 | i + 1,hi=>by
   rw [h.next i all[i] (List.getElem?_eq_getElem (by omega)),Va]
   exact h.len i (by omega)
theorem VE.keepS (h:VE P all S₀ St E) {t i:Nat}:∀ j,i≤j→j≤all.length→(∀ (k:Nat) (o:Oper),i≤k→k < j→all[k]? = some o→o.dst≠some t)→TU (St j) (St i) t:=by
 intro j
 induction j with
 | zero=>intro hij _ _; have:i = 0:=by omega
         subst this; exact rfl
 | succ j ih =>
   intro hij hj hk
   by_cases e:i = j + 1
   ·subst e; exact rfl
   ·have h1:=ih (by omega) (by omega) (fun k o h1 h2=>hk k o h1 (by omega))
    have h2:TU (St (j + 1)) (St j) t:=by
     rw [h.next j all[j] (List.getElem?_eq_getElem (by omega))]
     exact R5 (hk j _ (by omega) (by omega) (List.getElem?_eq_getElem (by omega)))
    exact Eq.trans h2 h1
theorem VE.keepB (h:VE P all S₀ St E) {b i:Nat}:∀ j,i≤j→j≤all.length→(∀ (k:Nat) (o:Oper),i≤k→k < j→all[k]? = some o→b ∉ (E k).bx.map (·.1))→SQ (St j) (St i) b:=by
 intro j
 induction j with
 | zero=>intro hij _ _; have:i = 0:=by omega
         subst this; exact ⟨rfl,rfl⟩
 | succ j ih =>
   intro hij hj hk
   by_cases e:i = j + 1
   ·subst e; exact ⟨rfl,rfl⟩
   ·have h1:=ih (by omega) (by omega) (fun k o h1 h2=>hk k o h1 (by omega))
    have h2:SQ (St (j + 1)) (St j) b:=by
     rw [h.next j all[j] (List.getElem?_eq_getElem (by omega))]
     exact Qq (hk j _ (by omega) (by omega) (List.getElem?_eq_getElem (by omega)))
    exact ⟨h2.1.trans h1.1,h2.2.trans h1.2⟩
theorem bK.readyN {f:Nat→Bool} {T:AS} (m:bK all St E S₀ f T):∀ (n:Nat) {o:Oper} {j:Nat},(∀ j,VK o j = true→f j = true)→am all n o j = true→f j = true
 | 0,_,_,hready,h=>hready _ h
 | n + 1,o,j,hready,h=>by
   simp only [am,Bool.or_eq_true,List.any_eq_true,Bool.and_eq_true] at h
   rcases h with h | ⟨e,he,hb,hm⟩
   ·exact hready _ h
   ·split at hm
    ·rename_i om hom
     refine m.readyN n (fun i hi=>m.dc e.on om hom (hready e.on ?_) i hi) hm
     simp only [VK,List.any_eq_true,Bool.and_eq_true,beq_iff_eq]
     exact ⟨e,he,rfl,hb⟩
    ·cases hm
theorem bK.ready2 {f:Nat→Bool} {T:AS} (m:bK all St E S₀ f T) {o:Oper} (hready:∀ j,VK o j = true→f j = true) {j:Nat} (h:Qw all o j = true):f j = true :=
 m.readyN 4 hready h
theorem bK.step (h:VE P all S₀ St E) (hreg:ZS all 0 all = true) {f:Nat→Bool} {T:AS} (m:bK all St E S₀ f T) {i:Nat} {o:Oper} (ho:all[i]? = some o) (hf:f i = false) (hready:∀ j,VK o j = true→f j = true) :
 (∀ t∈Ds all o,TU (St i) T t)∧(∀ b∈RR (St i) all o (E i),SQ (St i) T b)∧bK all St E S₀ (fun k=>if k = i then true else f k) (Ws o.dst (E i) T):=by
 have hreg':=Ny all 0 (fun j=>by simp) hreg
 have hi:i < all.length:=by
  rcases Nat.lt_or_ge i all.length with h | h
  ·exact h
  ·simp [List.getElem?_eq_none h] at ho
 have later:∀ (k:Nat) (o':Oper),all[k]? = some o'→i < k→f k = true→Qw all o' i = false:=by
  intro k o' ho' hik hfk
  cases he:Qw all o' i with
  | false=>rfl
  | true=>have:=m.ready2 (fun j hj=>m.dc k o' ho' hfk j hj) he; rw [hf] at this; cases this
 have hlenT:(St i).length = T.length:=by rw [h.len i (by omega),m.len]
 have hS:∀ t∈Ds all o,TU (St i) T t:=by
  intro t ht
  refine (m.vs t i (by omega) fun k o' ho' hd=>?_).symm
  rcases Nat.lt_trichotomy k i with hk | hk | hk
  ·refine ⟨fun _=>hk,fun _=>?_⟩
   rcases (hreg' i o (by omega) ho).2 k o' hk ho' with he | ⟨h1,_⟩
   ·exact m.ready2 hready he
   ·exact absurd ht (h1 t hd)
  ·subst hk; rw [hf]; simp
  ·refine ⟨fun hfk=>?_,fun hh=>by omega⟩
   rcases (hreg' k o' (by omega) ho').2 i o hk ho with he | ⟨_,h2⟩
   ·have:=m.ready2 (fun j hj=>m.dc k o' ho' hfk j hj) he
    rw [hf] at this; cases this
   ·exact absurd ht (h2 t hd)
 have hB:∀ b∈RR (St i) all o (E i),SQ (St i) T b:=by
  intro b hb
  have key:=m.vb b i (by omega) fun k o' ho' hd=>?_
  ·exact ⟨key.1.symm,key.2.symm⟩
  ·rcases Nat.lt_trichotomy k i with hk | hk | hk
   ·refine ⟨fun _=>hk,fun _=>?_⟩
    cases he:Qw all o k with
    | true=>exact m.ready2 hready he
    | false=>exact absurd (List.mem_append.2 (.inl hb)) (MY (h.box k i o' o hk ho' ho he).1 b hd)
   ·subst hk; rw [hf]; simp
   ·refine ⟨fun hfk=>?_,fun hh=>by omega⟩
    exact absurd hd (MY (h.box i k o o' hk ho ho' (later k o' ho' hk hfk)).2 b hb)
 refine ⟨hS,hB,?_⟩
 have hnx:=h.next i o ho
 refine ⟨by rw [Va]; exact m.len,?_,?_,?_⟩
 ·intro k o' ho' hk j hj
  by_cases hki:k = i
  ·subst hki
   rw [ho] at ho'; cases ho'
   have:=hready j hj
   simp [this]
  ·simp only [hki,if_false] at hk
   have:=m.dc k o' ho' hk j hj
   simp [this]
 ·intro t j hj hcut
  by_cases hd:o.dst = some t
  ·have hij:i < j:=(hcut i o ho hd).1 (by simp)
   have h1:TU (St j) (St (i + 1)) t:=h.keepS j (by omega) hj fun k o' hk1 hk2 ho' hd'=>h.once i k o o' (by omega) ho ho' t hd hd'
   have h2:TU (Ws o.dst (E i) T) (St (i + 1)) t:=by rw [hnx]; exact Yf hlenT.symm hd
   exact h2.trans h1.symm
  ·have h1:=m.vs t j hj fun k o' ho' hd'=>by
    have:=hcut k o' ho' hd'
    by_cases hki:k = i
    ·subst hki; rw [ho] at ho'; cases ho'; exact absurd hd' hd
    ·simpa [hki] using this
   exact (R5 hd).trans h1
 ·intro b j hj hcut
  by_cases hd:b∈(E i).bx.map (·.1)
  ·have hij:i < j:=(hcut i o ho hd).1 (by simp)
   have h1:SQ (St j) (St (i + 1)) b:=h.keepB j (by omega) hj fun k o' hk1 hk2 ho' hd'=>by
    have hfk:f k = true:=by
     have:=(hcut k o' ho' hd').2 hk2
     simpa [show k≠i by omega] using this
    have he:=later k o' ho' (by omega) hfk
    exact MY (h.box i k o o' (by omega) ho ho' he).1 b hd (List.mem_append.2 (.inr hd'))
   have h2:SQ (Ws o.dst (E i) T) (St (i + 1)) b:=by rw [hnx]; exact Xj hlenT.symm hd
   exact ⟨h2.1.trans h1.1.symm,h2.2.trans h1.2.symm⟩
  ·have h1:=m.vb b j hj fun k o' ho' hd'=>by
    have:=hcut k o' ho' hd'
    by_cases hki:k = i
    ·subst hki; exact absurd hd' hd
    ·simpa [hki] using this
   have h2:=Qq (dst:=o.dst) (e:=E i) (S:=T) hd
   exact ⟨h2.1.trans h1.1,h2.2.trans h1.2⟩
end
end Go.Abs
set_option linter.unusedVariables false
set_option linter.unusedSimpArgs false
namespace Go.Abs
open Go.RowKit (Below)
section
variable {P:Program} {X:Cx} {G:Nat→Prop} {β:Nat→Value} {S:AS} {a:Act} {w:World}
theorem bS {a b:Nat} (h:a≠b):Nat.beq a b = false:=by
 cases e:Nat.beq a b with
 | false=>rfl
 | true=>exact absurd (Nat.eq_of_beq_eq_true e) h
theorem TJ (N:Nat) (f:Nat→Sl):∀ n,(Wp N n f).length = n
 | 0=>rfl
 | n + 1=>by simp [Wp,TJ N f n]
theorem WU (N:Nat) (f:Nat→Sl):∀ (n i:Nat),n≤N→Av (Wp N n f) i = if i < n then f (N - n + i) else bH
 | 0,i,_=>by simp [Wp,Av]
 | n + 1,0,h=>by
   show f (Nat.sub N (Nat.succ n)) = _
   simp
 | n + 1,i + 1,h=>by
   show Av (Wp N n f) i = _
   rw [WU N f n i (by omega)]
   by_cases e:i < n
   ·rw [if_pos e,if_pos (by omega)]
    congr 1; omega
   ·rw [if_neg e,if_neg (by omega)]
structure Xb (args:List AV) (n k:Nat) (cs:List C) (qs:List Nat):Prop where
 len:qs.length = cs.length
 kl:k < args.length
 small:args.length≤n
 lt:∀ (j:Nat) sz e xs q,cs[j]? = some (.own sz e xs)→qs[j]? = some q→q < n∧q≠k
 inj:∀ (i j:Nat) sz e xs sz' e' xs' q,cs[i]? = some (.own sz e xs)→cs[j]? = some (.own sz' e' xs')→qs[i]? = some q→qs[j]? = some q→i = j
 no:∀ c∈cs,∀ i n,c≠.sl i n
theorem WA {i:Nat}:∀ {cs:List C} {qs:List Nat},Ua i cs qs≠.none→∃ (j:Nat) (sz:Nat) (e:TypeId) (xs:List D),cs[j]? = some (.own sz e xs)∧qs[j]? = some i∧Ua i cs qs = .row sz e xs
 | [],_,h=>absurd (by cases ‹List Nat› <;> rfl) h
 | c :: r,[],h=>absurd (by cases c <;> rfl) h
 | c :: r,q :: qs,h=>by
   have step:∀ (hh:Ua i (c :: r) (q :: qs) = Ua i r qs),∃ (j:Nat) (sz:Nat) (e:TypeId) (xs:List D),(c :: r)[j]? = some (.own sz e xs)∧(q :: qs)[j]? = some i∧Ua i (c :: r) (q :: qs) = .row sz e xs:=by
    intro hh
    rw [hh] at h ⊢
    obtain ⟨j,sz,e,xs,h1,h2,h3⟩:=WA h
    exact ⟨j + 1,sz,e,xs,by simpa using h1,by simpa using h2,h3⟩
   cases c with
   | d x=>exact step rfl
   | sl a b=>exact step rfl
   | own sz e xs =>
     by_cases hq:q = i
     ·subst hq
      exact ⟨0,sz,e,xs,rfl,rfl,by simp [Ua]⟩
     ·exact step (by
       have:Nat.beq q i = false:=bS hq
       simp only [Ua,this])
theorem Y1:∀ {cs:List C} {qs:List Nat} {j:Nat} {c:C},qs.length = cs.length→(Se cs qs)[j]? = some c→∃ c0,cs[j]? = some c0∧((∃ sz e xs q,c0 = .own sz e xs∧qs[j]? = some q∧c = .sl q 0)∨(c = c0∧∀ sz e xs,c0≠.own sz e xs))
 | [],qs,j,c,hl,h=>by simp [Se] at h
 | c0 :: r,[],j,c,hl,h=>by simp at hl
 | c0 :: r,q :: qs,0,c,hl,h=>by
   cases c0 <;> simp [Se] at h <;> subst h
   ·exact ⟨_,rfl,.inr ⟨rfl,by simp⟩⟩
   ·exact ⟨_,rfl,.inr ⟨rfl,by simp⟩⟩
   ·exact ⟨_,rfl,.inl ⟨_,_,_,q,rfl,rfl,rfl⟩⟩
 | c0 :: r,q :: qs,j + 1,c,hl,h=>by
   have h':(Se r qs)[j]? = some c:=by cases c0 <;> simpa [Se] using h
   obtain ⟨c1,h1,h2⟩:=Y1 (by simpa using hl) h'
   exact ⟨c1,by simpa using h1,by simpa using h2⟩
theorem OM:∀ (cs:List C) (qs:List Nat),(Se cs qs).length = cs.length
 | [],_=>by simp [Se]
 | c :: r,[]=>by cases c <;> simp [Se,OM r []]
 | c :: r,q :: qs=>by cases c <;> simp [Se,OM r qs]
theorem Xy:∀ (args:List AV) (i:Nat),de args i = (args[i]?).getD .any
 | [],_=>by simp [de]
 | x :: r,0=>by simp [de]
 | x :: r,i + 1=>by simp [de,Xy r i]
def Xz (cs:List C) (qs:List Nat) (vals:Array Value) (i:Nat):Option Value :=
 match (List.range cs.length).find? (fun j=>(match cs[j]? with | some (.own _ _ _)=>true | _=>false) && (qs[j]?==some i)) with
 | some j=>vals[j]?
 | none=>none
theorem du {args:List AV} {n k:Nat} {cs:List C} {qs:List Nat} (h:Xb args n k cs qs) {vals:Array Value} {j sz q:Nat} {e:TypeId} {xs:List D} (hc:cs[j]? = some (.own sz e xs)) (hq:qs[j]? = some q):Xz cs qs vals q = vals[j]?:=by
 unfold Xz
 cases hf:(List.range cs.length).find? (fun j=>(match cs[j]? with | some (.own _ _ _)=>true | _=>false) && (qs[j]?==some q)) with
 | none =>
   rw [List.find?_eq_none] at hf
   have:=hf j (List.mem_range.2 (AD hc))
   rw [hc,hq] at this
   simp at this
 | some j' =>
   have h1:=List.find?_some hf
   simp only [Bool.and_eq_true,beq_iff_eq] at h1
   obtain ⟨h2,h3⟩:=h1
   have:∃ sz' e' xs',cs[j']? = some (.own sz' e' xs'):=by
    split at h2
    ·rename_i a b c hh; exact ⟨_,_,_,hh⟩
    ·cases h2
   obtain ⟨sz',e',xs',h4⟩:=this
   rw [h.inj j j' _ _ _ _ _ _ q hc h4 hq h3]
theorem bf {cs:List C} {qs:List Nat} {vals:Array Value} {i:Nat} {u:Value} (h:Xz cs qs vals i = some u):∃ (j:Nat) (sz:Nat) (e:TypeId) (xs:List D),cs[j]? = some (.own sz e xs)∧qs[j]? = some i∧vals[j]? = some u:=by
 unfold Xz at h
 split at h
 ·rename_i j hf
  have h1:=List.find?_some hf
  simp only [Bool.and_eq_true,beq_iff_eq] at h1
  obtain ⟨h2,h3⟩:=h1
  split at h2
  ·rename_i a b c hh; exact ⟨j,_,_,_,hh,h3,h⟩
  ·cases h2
 ·cases h
structure GE (S:AS) (cl cs':List C) (used:List Nat):Prop where
 len:cl.length = cs'.length
 at_:∀ (j:Nat) c c',cl[j]? = some c→cs'[j]? = some c'→(∃ x,c = .d x∧c' = .d (norm x))∨(∃ q n sz e ys av,c = .sl q n∧c' = .own sz e ys∧Av S q = ⟨av,.row sz e ys,n⟩∧q∈used)
 inj:∀ (i j:Nat) q n n',cl[i]? = some (.sl q n)→cl[j]? = some (.sl q n')→i = j
 used:∀ (j:Nat) q n,cl[j]? = some (.sl q n)→q∈used
theorem Rk:∀ {cl cs':List C} {K:List Nat→Prop},be S cl cs' K→∃ used,K used∧GE S cl cs' used
 | [],[],K,h=>⟨[],h,⟨rfl,fun j c c' hc=>by simp at hc,fun i j q n n' hc=>by simp at hc,fun j q n hc=>by simp at hc⟩⟩
 | [],c' :: r',K,h=>by cases c' <;> exact h.elim
 | c :: r,[],K,h=>by cases c <;> exact h.elim
 | c :: r,c' :: r',K,h=>by
   cases c with
   | own _ _ _=>cases c' <;> exact h.elim
   | d x =>
     cases c' with
     | sl _ _=>exact h.elim
     | own _ _ _=>exact h.elim
     | d y =>
       simp only [be,I0] at h
       obtain ⟨h1,h2⟩:=h
       subst h1
       obtain ⟨used,h3,h4⟩:=Rk h2
       refine ⟨used,h3,⟨by simp [h4.len],fun j c c' hc hc'=>?_,fun i j q n n' hi hj=>?_,fun j q n hj=>?_⟩⟩
       ·cases j with
        | zero=>simp at hc hc'; subst hc; subst hc'; exact .inl ⟨x,rfl,rfl⟩
        | succ j=>exact h4.at_ j c c' (by simpa using hc) (by simpa using hc')
       ·cases i with
        | zero=>simp at hi
        | succ i=>cases j with
          | zero=>simp at hj
          | succ j=>rw [h4.inj i j q n n' (by simpa using hi) (by simpa using hj)]
       ·cases j with
        | zero=>simp at hj
        | succ j=>exact h4.used j q n (by simpa using hj)
   | sl q n =>
     cases c' with
     | sl _ _=>exact h.elim
     | d _=>exact h.elim
     | own sz e ys =>
       simp only [be] at h
       split at h <;> try exact h.elim
       rename_i av sz' e' xs m hq
       obtain ⟨⟨rfl,rfl,rfl,rfl⟩,h2⟩:=h
       obtain ⟨used,h3,h4⟩:=Rk h2
       split at h3
       ·exact h3.elim
       rename_i hnu
       have hnu:q ∉ used:=by simpa using hnu
       refine ⟨q :: used,h3,⟨by simp [h4.len],fun j c c' hc hc'=>?_,fun i j q' n' n2 hi hj=>?_,fun j q' n' hj=>?_⟩⟩
       ·cases j with
        | zero=>simp at hc hc'; subst hc; subst hc'; exact .inr ⟨q,n,_,_,_,av,rfl,rfl,hq,List.mem_cons_self ..⟩
        | succ j =>
          rcases h4.at_ j c c' (by simpa using hc) (by simpa using hc') with h | ⟨q',n',sz2,e2,ys2,av2,h5,h6,h7,h8⟩
          ·exact .inl h
          ·exact .inr ⟨q',n',sz2,e2,ys2,av2,h5,h6,h7,List.mem_cons_of_mem _ h8⟩
       ·cases i with
        | zero=>cases j with
          | zero=>rfl
          | succ j =>
            simp at hi hj
            obtain ⟨rfl,rfl⟩:=hi
            exact absurd (h4.used j q n2 hj) hnu
        | succ i=>cases j with
          | zero =>
            simp at hi hj
            obtain ⟨rfl,rfl⟩:=hj
            exact absurd (h4.used i q n' hi) hnu
          | succ j=>rw [h4.inj i j q' n' n2 (by simpa using hi) (by simpa using hj)]
       ·cases j with
        | zero=>simp at hj; rw [hj.1]; exact List.mem_cons_self ..
        | succ j=>exact List.mem_cons_of_mem _ (h4.used j q' n' (by simpa using hj))
def fw:C→Bool
 | .own _ _ _=>true
 | _=>false
def fX:C→Bool
 | .sl _ _=>true
 | _=>false
def YR (sh:List Bool) (qs:List Nat) (m n k:Nat):Bool :=
 (Nat.beq qs.length sh.length && Nat.ble (k + 1) m && Nat.ble m n) && (List.range sh.length).all fun j=>!(sh.getD j false) || (Nat.ble (qs.getD j 0 + 1) n && !(Nat.beq (qs.getD j 0) k) && (List.range sh.length).all fun i=>!(sh.getD i false) || Nat.beq i j || !(Nat.beq (qs.getD i 0) (qs.getD j 0)))
theorem WO {args:List AV} {n k:Nat} {cs:List C} {qs:List Nat} (sh:List Bool) (hsh:cs.map fw = sh) (hno:cs.all (fun c=>!fX c) = true) (h:YR sh qs args.length n k = true):Xb args n k cs qs:=by
 subst hsh
 unfold YR at h
 simp only [Bool.and_eq_true,List.all_eq_true,Bool.or_eq_true,Bool.not_eq_true',List.length_map,List.mem_range] at h
 obtain ⟨⟨⟨h1,h2⟩,h3⟩,h4⟩:=h
 have h1:qs.length = cs.length:=Nat.eq_of_beq_eq_true h1
 have at_:∀ (j:Nat) sz e xs q,cs[j]? = some (.own sz e xs)→qs[j]? = some q→(cs.map fw).getD j false = true∧qs.getD j 0 = q∧j < cs.length:=by
  intro j sz e xs q hc hq
  refine ⟨?_,?_,AD hc⟩
  ·rw [List.getD_eq_getElem?_getD,List.getElem?_map,hc]; rfl
  ·rw [List.getD_eq_getElem?_getD,hq]; rfl
 refine ⟨h1,Nat.le_of_ble_eq_true h2,Nat.le_of_ble_eq_true h3,fun j sz e xs q hc hq=>?_,fun i j sz e xs sz' e' xs' q hi hj hqi hqj=>?_,fun c hc i n e=>?_⟩
 ·obtain ⟨a1,a2,a3⟩:=at_ j sz e xs q hc hq
  rcases h4 j a3 with h5 | ⟨⟨h5,h6⟩,_⟩
  ·rw [a1] at h5; cases h5
  ·rw [a2] at h5 h6
   exact ⟨Nat.le_of_ble_eq_true h5,fun e=>by subst e; rw [Nat.beq_refl] at h6; cases h6⟩
 ·obtain ⟨a1,a2,a3⟩:=at_ j sz' e' xs' q hj hqj
  obtain ⟨b1,b2,b3⟩:=at_ i sz e xs q hi hqi
  rcases h4 j a3 with h5 | ⟨_,h6⟩
  ·rw [a1] at h5; cases h5
  ·rcases h6 i b3 with (h7 | h7) | h7
   ·rw [b1] at h7; cases h7
   ·exact Nat.eq_of_beq_eq_true h7
   ·rw [a2,b2,Nat.beq_refl] at h7; cases h7
 ·have:=List.all_eq_true.1 hno c hc
  subst e
  cases this
theorem VM {J:List Nat} (hdraw:MO P) {f:FuncId} {fn:Func} {args:List AV} {k:Nat} {qs:List Nat} {cs cs':List C} {r:D} (hf:P.funcs[f]? = some fn) (hname:(fn.name == "runtime.NumGoroutine") = false)
 (hP:Xb args fn.ntmps k cs qs) (hmut:args.all (fun x=>!x.mut) = true) (hr:bM P J fn args k qs cs cs' r):Wq P f args k cs cs' r:=by
 unfold bM at hr
 split at hr
 ·rename_i c hc
  refine ⟨by simp [EH,hf,hname,hc],fun O w vs b vals hO hG hlen hvk hV hVO hargs=>?_⟩
  rw [HM] at hr
  refine calls_of_wp hf hc ?_
  have hkl:=hP.kl
  have hsm:=hP.small
  have hnm:∀ x∈args,x.mut = false:=by
   intro x hx
   have:=List.all_eq_true.1 hmut x hx
   simpa using this
  obtain ⟨T0,hh⟩:=hV.cells
  have hvsz:=hV.size
  have hbw:b < w.heap.size:=by
   rcases Nat.lt_or_ge b w.heap.size with h | h
   ·exact h
   ·rw [Array.getElem?_eq_none h] at hh; cases hh
  let β:Nat→Value:=fun i=>(Xz cs qs vals i).getD (vs.getD i undef)
  have hkv:vs.getD k undef = .pointer (some ⟨b,0,none⟩):=by
   have:=En hvk
   simp [this] at hvk
   simp [Array.getD,this,hvk]
  have hgk:Xz cs qs vals k = none:=by
   cases h:Xz cs qs vals k with
   | none=>rfl
   | some u =>
     obtain ⟨j,sz,e,xs,h1,h2,_⟩:=bf h
     exact absurd rfl (hP.lt j sz e xs k h1 h2).2
  have hβk:β k = .pointer (some ⟨b,0,none⟩):=by show (Xz cs qs vals k).getD _ = _; rw [hgk]; exact hkv
  have hvat:∀ {j:Nat} {c:C},cs[j]? = some c→∃ u,vals[j]? = some u:=fun {j c} h=>by
   have:j < vals.size:=by rw [hvsz]; exact AD h
   exact ⟨vals[j],by simp [this]⟩
  have hβq:∀ {j sz q:Nat} {e:TypeId} {xs:List D} {u:Value},cs[j]? = some (.own sz e xs)→qs[j]? = some q→vals[j]? = some u→β q = u:=by
   intro j sz q e xs u h1 h2 h3
   show (Xz cs qs vals q).getD _ = _
   rw [du hP h1 h2,h3]; rfl
  have hget:∀ i,Av (Wp fn.ntmps fn.ntmps (WB args k cs qs)) i = if i < fn.ntmps then WB args k cs qs i else bH:=by
   intro i
   rw [WU _ _ _ _ (Nat.le_refl _),Nat.sub_self,Nat.zero_add]
  generalize hS0:Wp fn.ntmps fn.ntmps (WB args k cs qs) = S0 at hr hget
  have hgetk:Av S0 k = ⟨.ptr k 0 0,.var (Se cs qs),0⟩:=by
   rw [hget,if_pos (by omega)]
   simp [WB]
  have hgeto:∀ i,i≠k→i < fn.ntmps→Av S0 i = ⟨de args i,Ua i cs qs,0⟩:=by
   intro i hi hn
   rw [hget,if_pos hn]
   have:Nat.beq i k = false:=bS hi
   simp only [WB,this]
  have hbox:∀ i,i≠k→(Av S0 i).box≠.none→∃ (j sz:Nat) (e:TypeId) (xs:List D) (u:Value),cs[j]? = some (.own sz e xs)∧qs[j]? = some i∧vals[j]? = some u∧β i = u∧(Av S0 i).box = .row sz e xs:=by
   intro i hi hb
   by_cases hn:i < fn.ntmps
   ·rw [hgeto i hi hn] at hb ⊢
    obtain ⟨j,sz,e,xs,h1,h2,h3⟩:=WA hb
    obtain ⟨u,hu⟩:=hvat h1
    exact ⟨j,sz,e,xs,u,h1,h2,hu,hβq h1 h2 hu,h3⟩
   ·rw [hget,if_neg hn] at hb
    exact (hb rfl).elim
  have hver:∀ i,(Av S0 i).ver = 0:=by
   intro i
   by_cases e:i = k
   ·subst e; rw [hgetk]
   ·by_cases hn:i < fn.ntmps
    ·rw [hgeto i e hn]
    ·rw [hget,if_neg hn]; rfl
  have hown:∀ i c',(Av S0 i).box.owned = true→A1 (β i) = some c'→(i = k∧c' = b)∨(i≠k∧∃ (j sz:Nat) (e:TypeId) (xs:List D) (u:Value),cs[j]? = some (.own sz e xs)∧qs[j]? = some i∧vals[j]? = some u∧A1 u = some c'):=by
   intro i c' ho hb
   by_cases e:i = k
   ·subst e
    rw [hβk] at hb
    simp [A1] at hb
    exact .inl ⟨rfl,hb.symm⟩
   ·obtain ⟨j,sz,e',xs,u,h1,h2,h3,h4,_⟩:=hbox i e (by intro h; rw [h] at ho; cases ho)
    exact .inr ⟨e,j,sz,e',xs,u,h1,h2,h3,by rw [← h4]; exact hb⟩
  let Xc:Cx:=⟨w.heap.size,fun c=>c = b∨Cj vals cs c,O,fun _=>False,w,β,UP (M:=fun c=>c = b∨Cj vals cs c) hG⟩
  have hOS:∀ c',OS β Xc S0 c'→O c'∨c' = b∨Cj vals cs c':=by
   intro c' hc'
   rcases hc' with hc' | hc' | ⟨i,h1,h2⟩
   ·exact .inl hc'
   ·exact hc'.elim
   ·rcases hown i c' h1 h2 with ⟨_,h3⟩ | ⟨_,j,sz,e,xs,u,h3,_,h5,h6⟩
    ·exact .inr (.inl h3)
    ·exact .inr (.inr ⟨j,u,sz,e,xs,h5,h3,h6⟩)
  have hsim:AE Xc (fun _=>False) β S0 { tmps:=vs++Array.replicate (fn.ntmps - vs.size) undef,defers:=[] } w:=by
   refine ⟨?_,rfl,AT.refl _ _ _,Nat.le_refl _,fun c' hc'=>⟨hO c' hc',fun hm=>hVO c' hm hc'⟩,(fun b hb=>hb.elim),?_,?_,?_,?_,?_,?_⟩
   ·rw [← hS0,TJ]; simp [hlen]; omega
   ·intro t v hv
    by_cases e:t = k
    ·subst e
     rw [hgetk]
     rw [Array.getElem?_append_left (by rw [hlen]; exact hkl),hvk] at hv
     cases hv
     exact ⟨Nat.zero_le _,fun _=>⟨b,hβk,rfl⟩⟩
    ·by_cases hn:t < fn.ntmps
     ·rw [hgeto t e hn]
      show IZ _ _ _ _ _ _ (de args t)
      rw [Xy]
      cases hx:args[t]? with
      | none=>trivial
      | some x =>
        have hlt:t < vs.size:=by rw [hlen]; exact AD hx
        rw [Array.getElem?_append_left hlt] at hv
        have hr:=hargs t v x hv hx
        cases x with
        | any=>trivial
        | d y=>exact AB.mono (B4.of_sub hOS) (show AB _ w v y from hr)
        | lim sz xs =>
          have hr':AB (fun c=>O c∨c = b∨Cj vals cs c) w v (.list sz xs)∧Qu v = xs.length:=hr
          exact ⟨hr'.1.mono (B4.of_sub hOS),hr'.2⟩
        | bot | ptr _ _ _ | sl _ _ | eptr _ _ _ _ _ | tup _ | under _ _ _ | cc _ _ | own _ _ _ | optr _=>exact hr.elim
     ·rw [hget,if_neg hn]; trivial
   ·intro i
    by_cases e:i = k
    ·subst e
     rw [hgetk]
     refine ⟨b,vals,T0,hβk,hh,by rw [OM]; exact hvsz,fun j v c hv hc=>?_⟩
     obtain ⟨c0,h1,h2⟩:=Y1 hP.len hc
     have hg:=hV.rep j v c0 hv h1
     rcases h2 with ⟨sz,e,xs,q,rfl,h3,rfl⟩ | ⟨rfl,h3⟩
     ·exact ⟨Nat.zero_le _,fun _=>(hβq h1 h3 hv).symm⟩
     ·cases c with
      | d x=>exact ⟨hg.1.mono (B4.of_sub hOS),hg.2⟩
      | sl _ _=>exact hg.elim
      | own sz e xs=>exact absurd rfl (h3 sz e xs)
    ·cases hb:(Av S0 i).box with
     | none=>trivial
     | _ =>
       obtain ⟨j,sz,e',xs,u,h1,h2,h3,h4,h5⟩:=hbox i e (by rw [hb]; simp)
       rw [← hb,h5]
       obtain ⟨g1,g2,rv,g3,g4⟩:=hV.rep j u _ h3 h1
       exact ⟨g1,g2,rv,by rw [h4]; exact g3,g4.mono (B4.of_sub hOS)⟩
   ·intro i c' ho hb
    refine ⟨.inr ?_,fun h=>h⟩
    rcases hown i c' ho hb with ⟨_,h3⟩ | ⟨_,j,sz,e,xs,u,h3,_,h5,h6⟩
    ·exact .inl h3
    ·exact .inr ⟨j,u,sz,e,xs,h5,h3,h6⟩
   ·intro i j c' hi hj hbi hbj
    rcases hown i c' hi hbi with ⟨rfl,rfl⟩ | ⟨_,j1,sz,e,xs,u,h3,h4,h5,h6⟩ <;> rcases hown j c' hj hbj with ⟨rfl,h7⟩ | ⟨_,j2,sz',e',xs',u',h3',h4',h5',h6'⟩
    ·rfl
    ·exact absurd rfl (hV.ne c' ⟨j2,u',sz',e',xs',h5',h3',h6'⟩)
    ·exact absurd h7 (hV.ne c' ⟨j1,u,sz,e,xs,h5,h3,h6⟩)
    ·have:=hV.inj j1 j2 u u' _ _ _ _ _ _ c' h5 h5' h3 h3' h6 h6'
     subst this
     rw [h4] at h4'
     exact Option.some.inj h4'
   ·intro t g hg
    by_cases e:t = k
    ·subst e; rw [hgetk] at hg; cases hg
    ·by_cases hn:t < fn.ntmps
     ·rw [hgeto t e hn] at hg
      rw [show (⟨de args t,Ua t cs qs,0⟩:Sl).av = de args t from rfl,Xy] at hg
      cases hx:args[t]? with
      | none=>rw [hx] at hg; cases hg
      | some x =>
        rw [hx] at hg
        have hlt:t < vs.size:=by rw [hlen]; exact AD hx
        have hr:=hargs t vs[t] x (by simp [hlt]) hx
        cases x <;> first | exact hr.elim | cases hg
     ·rw [hget,if_neg hn] at hg; cases hg
   ·intro i _ _; rfl
  refine wp_mono (ER hdraw c hr hsim) fun e' a' w' hq'=>?_
  obtain ⟨β',S',hq',hs⟩:=hq'
  have GD:e7 fn S' k cs' r→a'.defers = []∧∃ v,(results fn a'.tmps).run P w' = .ok v w'∧∃ v' vals',Ending.returned v = .returned v'∧AT w.heap.size (fun c=>c = b∨Cj vals cs c) w w' ∧
   Zo (fun c=>O c∨c = b∨Cj vals' cs' c) w' b cs' vals'∧(∀ c,Cj vals' cs' c→Cj vals cs c∨w.heap.size≤c)∧AB (fun c=>O c∨c = b∨Cj vals' cs' c) w' v' r:=by
   intro hq'
   unfold e7 at hq'
   split at hq' <;> try exact hq'.elim
   rename_i av1 cl hk1
   obtain ⟨used,hq',hE⟩:=Rk hq'
   split at hq'
   ·exact hq'.elim
   rename_i hku
   have hku:k ∉ used:=by simpa using hku
   split at hq' <;> try exact hq'.elim
   rename_i t hres
   split at hq' <;> try exact hq'.elim
   rename_i x hx
   rw [I0] at hq'
   obtain rfl:norm x = r:=AV.d.inj hq'.go
   have hb1:=hs.boxes k
   rw [hk1] at hb1
   obtain ⟨b1,vals1,T1,j1,j2,j3,j4⟩:=hb1
   have hini:β' k = β k:=hs.ini k (by rw [hk1]) (by rw [hk1]; simp)
   rw [hini,hβk] at j1
   simp only [Value.pointer.injEq,Option.some.injEq,Addr.mk.injEq] at j1
   obtain ⟨rfl,_⟩:=j1
   have o1:(Av S' k).box.owned = true:=by rw [hk1]; rfl
   have hbk:A1 (β' k) = some b:=by rw [hini,hβk]; rfl
   have hrow:∀ (j:Nat) u sz e xs,vals1[j]? = some u→cs'[j]? = some (.own sz e xs)→∃ q n,cl[j]? = some (.sl q n)∧u = β' q∧(∃ av,Av S' q = ⟨av,.row sz e xs,n⟩)∧q∈used:=by
    intro j u sz e xs hu hc
    have hjl:j < cl.length:=by rw [← j3]; exact En hu
    have hcl:cl[j]? = some cl[j]:=List.getElem?_eq_getElem hjl
    rcases hE.at_ j _ _ hcl hc with ⟨x,_,h2⟩ | ⟨q,n,sz',e',ys,av,h1,h2,h3,h4⟩
    ·cases h2
    ·cases h2
     rw [h1] at hcl
     have:=j4 j u _ hu hcl
     exact ⟨q,n,hcl,this.2 (by simp only [AU,h3]),⟨av,h3⟩,h4⟩
   have hblk:∀ c,Cj vals1 cs' c→∃ (j q n sz:Nat) (e:TypeId) (xs:List D),cl[j]? = some (.sl q n)∧q∈used∧(Av S' q).box = .row sz e xs∧A1 (β' q) = some c:=by
    rintro c ⟨j,u,sz,e,xs,h1,h2,h3⟩
    obtain ⟨q,n,h4,h5,⟨av,h6⟩,h7⟩:=hrow j u sz e xs h1 h2
    exact ⟨j,q,n,sz,e,xs,h4,h7,by rw [h6],by rw [← h5]; exact h3⟩
   have hne:∀ c,Cj vals1 cs' c→c≠b:=by
    intro c hc e
    subst e
    obtain ⟨j,q,n,sz,e,xs,_,h2,h3,h4⟩:=hblk c hc
    have:=hs.inj q k c (by rw [h3]; rfl) o1 h4 hbk
    exact hku (this ▸ h2)
   have hsub:∀ c,O c∨c = b∨Cj vals1 cs' c→OS β' Xc S' c:=by
    intro c hc
    rcases hc with hc | rfl | hc
    ·exact .inl hc
    ·exact .inr (.inr ⟨k,o1,hbk⟩)
    ·obtain ⟨j,q,n,sz,e,xs,_,h2,h3,h4⟩:=hblk c hc
     exact .inr (.inr ⟨q,by rw [h3]; rfl,h4⟩)
   have hrd:=ρ_sound hs no (.tmp t)
   rw [hx] at hrd
   have hrd:AB (OS β' Xc S') w' (a'.tmps.getD t undef) x:=hrd
   refine ⟨hs.df,a'.tmps.getD t undef,?_,_,vals1,rfl,hs.below,⟨⟨T1,j2⟩,by rw [j3,hE.len],fun j v c hv hc=>?_,hne,fun i j u u' sz e xs sz' e' xs' c hu hu' hc hc' hb hb'=>?_⟩,fun c hc=>?_,(hrd.mono (B4.of_sub hsub)).norm⟩
   ·have:=Mr (P:=P) (w:=w') (a:=a') (fn:=fn) (vs:=[a'.tmps.getD t undef]) (by rw [hres]; rfl)
    simpa using this
   ·have hjl:j < cl.length:=by rw [← j3]; exact En hv
    have hcl:cl[j]? = some cl[j]:=List.getElem?_eq_getElem hjl
    rcases hE.at_ j _ _ hcl hc with ⟨x',h1,rfl⟩ | ⟨q,n,sz',e',ys,av,h1,rfl,h3,h4⟩
    ·rw [h1] at hcl
     have:=j4 j v _ hv hcl
     exact ⟨(this.1.mono (B4.of_sub hsub)).norm,YO this.2⟩
    ·obtain ⟨q,n,_,h5,⟨av,h6⟩,_⟩:=hrow j v _ _ _ hv hc
     have hb2:=hs.boxes q
     rw [h6] at hb2
     obtain ⟨l1,l2,vals2,l3,l4⟩:=hb2
     exact ⟨l1,l2,vals2,by rw [h5]; exact l3,l4.mono (B4.of_sub hsub)⟩
   ·obtain ⟨q,n,h1,h2,⟨av,h3⟩,_⟩:=hrow i u _ _ _ hu hc
    obtain ⟨q',n',h1',h2',⟨av',h3'⟩,_⟩:=hrow j u' _ _ _ hu' hc'
    have:=hs.inj q q' c (by rw [h3]; rfl) (by rw [h3']; rfl) (by rw [← h2]; exact hb) (by rw [← h2']; exact hb')
    subst this
    exact hE.inj i j q n n' h1 h1'
   ·obtain ⟨j,q,n,sz,e,xs,_,h2,h3,h4⟩:=hblk c hc
    rcases (hs.mine q c (by rw [h3]; rfl) h4).1 with h5 | h5 | h5
    ·exact .inr h5
    ·exact absurd h5 (hne c hc)
    ·exact .inl h5
  cases e' with
  | normal=>exact GD hq'
  | ret=>exact GD hq'
  | exit id=>exact hq'.elim
  | goto l=>exact hq'.elim
  | panic ch=>exact hq'.elim
  | outgrown=>exact hq'.elim
 ·exact hr.elim
end
end Go.Abs
set_option linter.unusedVariables false
set_option linter.unusedSimpArgs false
namespace Go.Abs
open Go.RowKit (Below)
section
variable {P:Program} {X:Cx} {ops:Array Oper} {St:Nat→AS} {E:Nat→F3} {S₀:AS}
def VL (listed:Array Bool) (k:Nat):Bool:=listed.getD k false
def UJ (all:List Oper) (f:Nat→Bool):List Nat:=((List.range all.length).filter f).flatMap fun k=>Db ((all[k]?).bind (·.dst))
theorem Lz {all:List Oper} {f:Nat→Bool} {t:Nat}:t∈UJ all f↔∃ (k:Nat) (o:Oper),all[k]? = some o∧f k = true∧o.dst = some t:=by
 simp only [UJ,List.mem_flatMap,List.mem_filter,List.mem_range]
 constructor
 ·rintro ⟨k,⟨hk,hf⟩,ht⟩
  refine ⟨k,all[k],List.getElem?_eq_getElem hk,hf,?_⟩
  rw [List.getElem?_eq_getElem hk] at ht
  simp only [Option.bind_some] at ht
  cases hd:all[k].dst with
  | none=>simp [hd,Db] at ht
  | some d=>simp [hd,Db] at ht; rw [ht]
 ·rintro ⟨k,o,ho,hf,hd⟩
  have hk:k < all.length:=by
   rcases Nat.lt_or_ge k all.length with h | h
   ·exact h
   ·simp [List.getElem?_eq_none h] at ho
  exact ⟨k,⟨hk,hf⟩,by simp [ho,hd,Db]⟩
theorem TA {p p':Nat→Bool} {i:Nat} (h1:p i = true) (h2:p' i = false) (h3:∀ x,x≠i→p' x = p x):∀ l:List Nat,(l.filter p').length + l.count i = (l.filter p).length
 | []=>rfl
 | x :: r=>by
   have ih:=TA h1 h2 h3 r
   by_cases e:x = i
   ·subst e; simp [List.filter_cons,h1,h2,← ih]; omega
   ·have hb:(x==i) = false:=by simp [e]
    rw [List.count_cons,hb]
    by_cases hp:p x = true
    ·simp [List.filter_cons,hp,h3 x e]; omega
    ·simp [List.filter_cons,hp,h3 x e]; omega
theorem bK.all_done (h:VE P ops.toList S₀ St E) {f:Nat→Bool} {T:AS} (m:bK ops.toList St E S₀ f T) (hf:∀ k,k < ops.size→f k = true):T = St ops.size:=by
 have hk:∀ (k:Nat) (o:Oper),ops.toList[k]? = some o→k < ops.size:=by
  intro k o ho
  rcases Nat.lt_or_ge k ops.size with h | h
  ·exact h
  ·simp [h] at ho
 have hle:ops.size≤ops.toList.length:=by simp
 refine cn (by rw [m.len,h.len _ hle]) (fun t=>m.vs t _ hle fun k o ho _=>?_) (fun b=>m.vb b _ hle fun k o ho _=>?_)
 ·exact ⟨fun _=>hk k o ho,fun hh=>hf k hh⟩
 ·exact ⟨fun _=>hk k o ho,fun hh=>hf k hh⟩
theorem cf {o:Oper} {i:Nat}:VK o i = true↔∃ e∈o.after,e.on = i∧Region.binds .any e = true:=by
 simp only [VK,List.any_eq_true,Array.mem_toList_iff,Bool.and_eq_true,beq_iff_eq]
theorem aQ (h:VE P ops.toList S₀ St E) (hreg:ZS ops.toList 0 ops.toList = true) {Q:Exit→Act→World→Prop}
 (hQ:∀ β a w (done:List Nat),AE X (·∈done) β (St ops.size) a w→Q .normal a w) :
 ∀ (fuel:Nat) (listed:Array Bool) (T:AS) (β:Nat→Value) (a:Act) (w:World),listed.size = ops.size→bK ops.toList St E S₀ (VL listed) T→AE X (·∈UJ ops.toList (VL listed)) β T a w →
   ((List.range ops.size).filter fun k=>!VL listed k).length≤fuel→wpAny P .any ops Q fuel listed a w:=by
 have stop:∀ (listed:Array Bool) (T:AS) (β:Nat→Value) (a:Act) (w:World),listed.size = ops.size→bK ops.toList St E S₀ (VL listed) T→AE X (·∈UJ ops.toList (VL listed)) β T a w →
  Region.ready .any ops listed = []→Q .normal a w:=by
  intro listed T β a w hsz m hs hr
  have all_:∀ k,k < ops.size→VL listed k = true:=by
   intro k
   induction k using Nat.strongRecOn with
   | _ k ih =>
     intro hk
     cases hfk:VL listed k with
     | true=>rfl
     | false =>
       exfalso
       have hmem:k∈Region.ready .any ops listed:=by
        refine mem_ready.2 ⟨?_,ops[k],by simp [hk],fun e he hb=>?_⟩
        ·simp only [VL,Array.getD] at hfk ⊢
         rw [dif_pos (by omega)] at hfk ⊢
         exact hfk
        ·have hlt:=(Ny (all:=ops.toList) ops.toList 0 (fun j=>by simp) hreg k ops[k] (by omega) (by simp [hk])).1.1 e he hb
         exact ih e.on hlt (by omega)
       rw [hr] at hmem
       cases hmem
  rw [m.all_done h all_] at hs
  exact hQ β a w _ hs
 intro fuel
 induction fuel with
 | zero =>
   intro listed T β a w hsz m hs hc
   have hr:Region.ready .any ops listed = []:=by
    cases hr:Region.ready .any ops listed with
    | nil=>rfl
    | cons i r =>
      exfalso
      have hi:=(mem_ready.1 (show i∈Region.ready .any ops listed by rw [hr]; simp))
      obtain ⟨h1,o,ho,_⟩:=hi
      have hlt:i < ops.size:=by
       rcases Nat.lt_or_ge i ops.size with h | h
       ·exact h
       ·simp [Array.getElem?_eq_none h] at ho
      have:i∈(List.range ops.size).filter fun k=>!VL listed k:=by
       simp only [List.mem_filter,List.mem_range,Bool.not_eq_true']
       refine ⟨hlt,?_⟩
       simp only [VL,Array.getD] at h1 ⊢
       rw [dif_pos (by omega)] at h1 ⊢
       exact h1
      have:=List.length_pos_of_mem this
      omega
   exact ⟨hr,stop listed T β a w hsz m hs hr⟩
 | succ fuel ih =>
   intro listed T β a w hsz m hs hc
   refine ⟨fun hr=>stop listed T β a w hsz m hs hr,fun i hi=>?_⟩
   obtain ⟨h1,o,ho,hall⟩:=mem_ready.1 hi
   have hlt:i < ops.size:=by
    rcases Nat.lt_or_ge i ops.size with h | h
    ·exact h
    ·simp [Array.getElem?_eq_none h] at ho
   have hol:ops.toList[i]? = some o:=by simpa using ho
   have hfi:VL listed i = false:=by
    simp only [VL,Array.getD] at h1 ⊢
    rw [dif_pos (by omega)] at h1 ⊢
    exact h1
   have hready:∀ j,VK o j = true→VL listed j = true:=by
    intro j hj
    obtain ⟨e,he,hon,hb⟩:=cf.1 hj
    rw [← hon]
    exact hall e he hb
   obtain ⟨hS,hB,m'⟩:=m.step h hreg hol hfi hready
   have hlenT:(St i).length = T.length:=by rw [h.len i (by simp; omega),m.len]
   have hy:=h.does i o hol T (UJ ops.toList (VL listed)) hS hB hlenT (fun j want t hg ht=>by
    rw [RZ] at ht
    cases hoj:ops.toList[j]? with
    | none=>simp [hoj] at ht
    | some oj =>
      simp [hoj] at ht
      refine Lz.2 ⟨j,oj,hoj,?_,ht⟩
      have hin:t∈Ds ops.toList o:=by simp [Ds,UV,hg,RZ,hoj,ht,Db]
      have hji:=(Ny (all:=ops.toList) ops.toList 0 (fun j=>by simp) hreg i o (by omega) hol).1.2 j want hg
      rcases (Ny (all:=ops.toList) ops.toList 0 (fun j=>by simp) hreg i o (by omega) hol).2 j oj hji hoj with hed | ⟨hno,_⟩
      ·exact m.ready2 hready hed
      ·exact absurd hin (hno t ht))
   obtain ⟨e,⟨_,he⟩,hok⟩:=WM hs hy
   subst he
   have hstep:=hok.step (Q:=Q) (K:=wpAny P .any ops Q fuel (listed.setIfInBounds i true)) (fun d hd hm=>by
    obtain ⟨k,ok,hok',hfk,hdk⟩:=Lz.1 hm
    rcases Nat.lt_trichotomy k i with hk | hk | hk
    ·exact h.once k i ok o hk hok' hol d hdk hd
    ·subst hk; rw [hfi] at hfk; cases hfk
    ·exact h.once i k o ok hk hol hok' d hd hdk)
    (fun β' a' w' hs'=>by
     have hf':VL (listed.setIfInBounds i true) = fun k=>if k = i then true else VL listed k:=by
      funext k
      simp only [VL,Array.getD_eq_getD_getElem?,Array.getElem?_setIfInBounds]
      by_cases hki:k = i
      ·subst hki; simp [hsz,hlt]
      ·simp [Ne.symm hki,hki]
     refine ih _ _ β' a' w' (by simp [hsz]) (by rw [hf']; exact m') (hs'.weaken fun t ht=>?_) ?_
     ·rw [hf']
      rcases List.mem_append.1 ht with ht | ht
      ·refine Lz.2 ⟨i,o,hol,by simp,?_⟩
       cases hd:o.dst with
       | none=>simp [hd,Db] at ht
       | some d=>simp [hd,Db] at ht; rw [ht]
      ·obtain ⟨k,ok,hok',hfk,hdk⟩:=Lz.1 ht
       exact Lz.2 ⟨k,ok,hok',by simp [hfk],hdk⟩
     ·have:=TA (p:=fun k=>!VL listed k) (p':=fun k=>!VL (listed.setIfInBounds i true) k) (i:=i) (by simp [hfi]) (by simp [hf']) (fun x hx=>by simp [hf',hx]) (List.range ops.size)
      have hpos:0 < (List.range ops.size).count i:=List.count_pos_iff.2 (by simp [hlt])
      omega)
   unfold wpOp
   simp only [ho]
   split
   ·rename_i hw; rw [if_pos hw] at hstep; exact .inl hstep
   ·rename_i hw; rw [if_neg hw] at hstep; exact hstep
theorem LN (P:Program):MO P:=by
 intro id ops Q S X β a w hy hs
 have hy:Ij (ZS ops.toList 0 ops.toList = true∧P.follows .mixedOrders = true) (eI P ops.toList 0 [] [] ops.toList S fun S=>plain S (Q .normal)):=hy
 obtain ⟨⟨hreg,hm⟩,hy⟩:=hy
 obtain ⟨St,E,h0,hK,hnext,_,honce,hdoes,_,hbox⟩:=cS P ops.toList ops.toList 0 [] [] S _ (fun j=>by simp) hy
 have hrun:VE P ops.toList S St E:=⟨h0,fun i o ho=>hnext i o (by omega) ho,fun i j o o' hij h1 h2=>honce i j o o' (by omega) hij h1 h2,fun i o ho=>hdoes i o (by omega) ho,fun i j o o' hij h1 h2=>hbox i j o o' (by omega) hij h1 h2⟩
 refine wp_region_any hm ?_
 have hw:AE X (fun _=>False) β S a { w with drawn:=w.drawn + 1 }:=hs.world ⟨rfl,rfl,rfl,Nat.le_refl _,fun _ _=>rfl⟩
 refine aQ hrun hreg (fun β' a' w' done hs'=>?_) ops.size _ S β a _ (by simp) ?_ (hw.weaken fun _ hf=>hf.elim) ?_
 ·rw [Vg] at hK
  simp only [Nat.zero_add,Array.length_toList] at hK
  exact ⟨β',_,hK,hs'.plain⟩
 ·have hf:∀ k,VL (Array.replicate ops.size false) k = false:=by
   intro k
   simp only [VL,Array.getD]
   split <;> simp
  refine ⟨rfl,(fun k o _ hk=>by rw [hf k] at hk; cases hk),fun t i hi hcut=>?_,fun b i hi hcut=>?_⟩
  ·rw [← h0]
   refine (hrun.keepS (i:=0) i (by omega) hi fun k o _ hk ho hd=>?_).symm
   have:=(hcut k o ho hd).2 hk
   rw [hf k] at this; cases this
  ·rw [← h0]
   have:=hrun.keepB (b:=b) (i:=0) i (by omega) hi fun k o _ hk ho hd=>by
    have:=(hcut k o ho hd).2 hk
    rw [hf k] at this; cases this
   exact ⟨this.1.symm,this.2.symm⟩
 ·exact Nat.le_trans (List.length_filter_le _ _) (by simp)
theorem dO {f:FuncId} {fn:Func} {args:List AV} {r:AV} (hf:P.funcs[f]? = some fn) (hname:(fn.name == "runtime.NumGoroutine") = false) (hr:fb P fn args r):Aw P f args r :=
 Qp (LN P) hf hname hr
theorem Kc {f:FuncId} {fn:Func} {args outs:List AV} {r:AV} (hf:P.funcs[f]? = some fn) (hname:(fn.name == "runtime.NumGoroutine") = false) (hol:outs.length = args.length)
 (hfit:∀ (i:Nat) x y,args[i]? = some x→outs[i]? = some y→match y with
  | .own sz e _=>∃ xs,x = .own sz e xs
  | .optr cs=>∃ cs',x = .optr cs'∧cs.length = cs'.length
  | .cc _ l=>∃ (ds:List D) (sz:Nat) (e:TypeId) (xs ys:List D),x = .cc none (ds.map .d++[.own sz e xs])∧l = ds.map .d++[.own sz e ys]
  | _=>True) (hr:fc P fn args outs r):Ck P f args outs r :=
 Q2 (LN P) hf hname hol hfit hr
theorem DY (J:List Nat) {f:FuncId} {fn:Func} {args:List AV} {r:AV} (hf:P.funcs[f]? = some fn) (hname:(fn.name == "runtime.NumGoroutine") = false) (hr:ai P J fn args r):Aw P f args r :=
 Qp (LN P) hf hname hr
theorem Vd (J:List Nat) {f:FuncId} {fn:Func} {args outs:List AV} {r:AV} (hf:P.funcs[f]? = some fn) (hname:(fn.name == "runtime.NumGoroutine") = false) (hol:outs.length = args.length)
 (hfit:∀ (i:Nat) x y,args[i]? = some x→outs[i]? = some y→match y with
  | .own sz e _=>∃ xs,x = .own sz e xs
  | .optr cs=>∃ cs',x = .optr cs'∧cs.length = cs'.length
  | .cc _ l=>∃ (ds:List D) (sz:Nat) (e:TypeId) (xs ys:List D),x = .cc none (ds.map .d++[.own sz e xs])∧l = ds.map .d++[.own sz e ys]
  | _=>True) (hr:Xd P J fn args outs r):Ck P f args outs r :=
 Q2 (LN P) hf hname hol hfit hr
theorem dR (J:List Nat) (qs:List Nat) {f:FuncId} {fn:Func} {args:List AV} {k:Nat} {cs cs':List C} {r:D} (hf:P.funcs[f]? = some fn) (hname:(fn.name == "runtime.NumGoroutine") = false)
 (hP:Xb args fn.ntmps k cs qs) (hmut:args.all (fun x=>!x.mut) = true) (hr:bM P J fn args k qs cs cs' r):Wq P f args k cs cs' r :=
 VM (LN P) hf hname hP hmut hr
end
end Go.Abs
set_option linter.unusedVariables false
set_option linter.unusedSimpArgs false
namespace Go.Abs
theorem fB {S S':AS} (h:EE S' (fun S'=>Le S S')):Le S S':=by rw [HM] at h; exact h
end Go.Abs
set_option linter.unusedVariables false
set_option linter.unusedSimpArgs false
namespace Go.Proofs.YtlpkhgkoihlghaaGreatDoor.P
open Go.Abs Go.Proofs
@[reducible] def Aj {α:Type} (sz:Nat) (f:α→D) (l:List α):D:=.list sz (l.map f)
theorem f8 {ρ:Type} {b b':Bool} {x y:Prop} {X Y:Option ρ} {R:ρ} (hF:(bif b' then X else Y) = some R) (e:b = b') (h1:X = some R→x) (h2:Y = some R→y):Bool.rec y x b:=by
 subst e
 cases b with
 | true=>exact h1 hF
 | false=>exact h2 hF
theorem Qt {ρ:Type} {b b':Bool} {x y:Prop} {X Y:Option ρ} {R:ρ} (hF:(bif b' then X else Y) = some R) (e:b = b') (h1:b' = true→X = some R→x) (h2:b' = false→Y = some R→y):Bool.rec y x b:=by
 subst e
 cases b with
 | true=>exact h1 rfl hF
 | false=>exact h2 rfl hF
theorem R1 {b b':Bool} {x y:Prop} (e:b = b') (h:b' = true) (k:x):Bool.rec y x b:=by
 subst e; subst h; exact k
theorem f9 {b b':Bool} {x y:Prop} (e:b = b') (h:b' = false) (k:y):Bool.rec y x b:=by
 subst e; subst h; exact k
theorem fI {x a b:Int} (h:(x==a) = true) (k:(a==b) = false:=by rfl):(x==b) = false:=by
 rw [beq_iff_eq.1 h]; exact k
theorem fN {α:Type} {xs:List α} {i j:Int} {x:α} {f:α→D} {K:D→Prop} (h:idx xs i = some x) (e:j = i) (k:K (f x)):At (xs.map f) j K:=by
 obtain ⟨h0,_,h1⟩:=UW h
 subst e
 exact ⟨⟨h0,_,by rw [List.getElem?_map,h1]; rfl,k⟩⟩
theorem bR {α:Type} {xs:List α} {i j:Int} {x:α} {f:α→D} {K:D→Prop} (h:idx xs i = some x) (e:j = ((i.toNat:Nat):Int)) (k:K (f x)):At (xs.map f) j K:=by
 obtain ⟨h0,_,_⟩:=UW h
 exact fN h (e.trans (Int.toNat_of_nonneg h0)) k
theorem fM {α:Type} {xs:List α} {i j:Int} {x:α} {f:α→D} {k:Prop} (h:idx xs i = some x) (e:j = i) (hk:k):Ij (0≤j∧j.toNat < (xs.map f).length) k:=by
 obtain ⟨h0,h1,_⟩:=UW h
 subst e
 exact ⟨⟨h0,by rw [List.length_map]; exact h1⟩,hk⟩
theorem fU {α ρ:Type} {xs:List α} {i j:Int} {f:α→D} {K:D→Prop} {G:α→Option ρ} {R:ρ} (hF:(idx xs i).bind G = some R) (e:j = i) (k:∀ x,idx xs i = some x→G x = some R→K (f x)):At (xs.map f) j K:=by
 obtain ⟨x,h,hF⟩:=Yi hF
 exact fN h e (k x h hF)
theorem Vu {α ρ:Type} {xs:List α} {f:α→D} {i j:Int} {k:Prop} {G:α→Option ρ} {R:ρ} (hF:(idx xs i).bind G = some R) (e:j = i) (hk:∀ x,idx xs i = some x→G x = some R→k):Ij (0≤j∧j.toNat < (xs.map f).length) k:=by
 obtain ⟨x,h,hF⟩:=Yi hF
 exact fM h e (hk x h hF)
theorem snoc {α:Type} (f:α→D) (xs:List α) (x:α):xs.map f++[f x] = (xs++[x]).map f:=by simp
theorem Hp (k:IntKind) (xs:List Int) (x:Int):xs.map (D.int k)++[D.int k x] = (xs++[x]).map (D.int k):=by simp
theorem fz (xs:List ByteArray) (x:ByteArray):xs.map D.str++[D.str x] = (xs++[x]).map D.str:=by simp
theorem N3 {α:Type} (sz:Nat) (f:α→D) (xs:List (List α)) (x:List α):xs.map (Aj sz f)++[D.list sz (x.map f)] = (xs++[x]).map (Aj sz f):=by simp [Aj]
theorem fh {α:Type} (f:α→D) (xs ys:List α):xs.map f++ys.map f = (xs++ys).map f:=List.map_append.symm
theorem VJ {α:Type} (f:α→D) (xs:List α) (l h:Int):HR (xs.map f) l h = (HR xs l h).map f:=by simp [HR,List.map_take,List.map_drop]
theorem eM {α:Type} (f:α→D) (n:Nat) (x:α):List.replicate n (f x) = (List.replicate n x).map f:=List.map_replicate.symm
theorem cU {α:Type} (f:α→D) (xs:List α) (i:Nat) (x:α):(xs.map f).set i (f x) = (xs.set i x).map f:=by rw [List.map_set]
theorem AG {n m b:Nat} {q:Prop} (h:rm n m = true) (hb:b≤1024) (hq:q):n + m≤maxLen∧(n + m) * b≤140737488355328∧q:=by
 have h:=of_decide_eq_true h
 refine ⟨by unfold maxLen; omega,?_,hq⟩
 calc (n + m) * b≤137438953472 * 1024:=Nat.mul_le_mul h hb
  _ = 140737488355328:=by decide
theorem WJ {l:Int} {b:Nat} (h:(decide (0≤l) && rm l.toNat 0) = true) (hb:b≤1024):0≤l∧l≤l∧l≤(maxLen:Int)∧(b:Int) * l≤281474976710656:=by
 obtain ⟨h1,h2⟩:=Bool.and_eq_true_iff.1 h
 have h1:=of_decide_eq_true h1
 have h2:=of_decide_eq_true h2
 refine ⟨h1,Int.le_refl _,by unfold maxLen; omega,?_⟩
 have h3:l≤137438953472:=by omega
 calc (b:Int) * l≤1024 * l:=Int.mul_le_mul_of_nonneg_right (by omega) h1
  _≤281474976710656:=by omega
end Go.Proofs.YtlpkhgkoihlghaaGreatDoor.P
set_option linter.unusedVariables false
set_option linter.unusedSimpArgs false
namespace Go.Abs
section
variable {β:Type}
def OO (k:Int):List (Int × β)→Option β
 | []=>none
 | p :: r=>bif k==p.1 then some p.2 else OO k r
def cW (k:Int) (v:β):List (Int × β)→List (Int × β)
 | []=>[(k,v)]
 | p :: r=>bif k==p.1 then (k,v) :: r else p :: cW k v r
def X0 (k:ByteArray):List (ByteArray × β)→Option β
 | []=>none
 | p :: r=>bif k==p.1 then some p.2 else X0 k r
def cX (k:ByteArray) (v:β):List (ByteArray × β)→List (ByteArray × β)
 | []=>[(k,v)]
 | p :: r=>bif k==p.1 then (k,v) :: r else p :: cX k v r
def cH (kd:IntKind) (f:β→D) (es:List (Int × β)):List (D × D):=es.map fun p=>(.int kd p.1,f p.2)
def dX (f:β→D) (es:List (ByteArray × β)):List (D × D):=es.map fun p=>(.str p.1,f p.2)
theorem Yy (kd:IntKind) (f:β→D) (k:Int):∀ es,Ng (.int kd k) (cH kd f es) = (OO k es).map f
 | []=>rfl
 | p :: r=>by
   have ih:=Yy kd f k r
   simp only [cH,List.map_cons,Ng,OO,HT] at ih ⊢
   cases k==p.1
   ·simpa using ih
   ·rfl
theorem XY (kd:IntKind) (f:β→D) (k:Int) (v:β):∀ es,VA (.int kd k) (f v) (cH kd f es) = cH kd f (cW k v es)
 | []=>rfl
 | p :: r=>by
   have ih:=XY kd f k v r
   simp only [cH,List.map_cons,VA,cW,HT] at ih ⊢
   cases k==p.1
   ·simpa using ih
   ·rfl
theorem Yz (f:β→D) (k:ByteArray):∀ es,Ng (.str k) (dX f es) = (X0 k es).map f
 | []=>rfl
 | p :: r=>by
   have ih:=Yz f k r
   simp only [dX,List.map_cons,Ng,X0,HT] at ih ⊢
   cases k==p.1
   ·simpa using ih
   ·rfl
theorem aM (f:β→D) (k:ByteArray) (v:β):∀ es,VA (.str k) (f v) (dX f es) = dX f (cX k v es)
 | []=>rfl
 | p :: r=>by
   have ih:=aM f k v r
   simp only [dX,List.map_cons,VA,cX,HT] at ih ⊢
   cases k==p.1
   ·simpa using ih
   ·rfl
theorem Nm (kd:IntKind) (f:β→D) (k:Int) (es:List (Int × β)):∀ p∈cH kd f es,GF (.int kd k) p.1 = true:=by
 intro p hp
 obtain ⟨q,_,rfl⟩:=List.mem_map.1 hp
 simp [GF]
theorem YA (f:β→D) (k:ByteArray) (es:List (ByteArray × β)):∀ p∈dX f es,GF (.str k) p.1 = true:=by
 intro p hp
 obtain ⟨q,_,rfl⟩:=List.mem_map.1 hp
 rfl
theorem Sq {kd:IntKind} {f:β→D} {k:Int} {es:List (Int × β)} {z:β} {K:D→Bool→Prop} (h:K (f ((OO k es).getD z)) (OO k es).isSome):R2 (Ng (.int kd k) (cH kd f es)) (f z) K:=by
 refine ⟨⟨f ((OO k es).getD z),(OO k es).isSome,?_,?_,h⟩⟩ <;> rw [Yy] <;> cases OO k es <;> rfl
theorem cB {f:β→D} {k:ByteArray} {es:List (ByteArray × β)} {z:β} {K:D→Bool→Prop} (h:K (f ((X0 k es).getD z)) (X0 k es).isSome):R2 (Ng (.str k) (dX f es)) (f z) K:=by
 refine ⟨⟨f ((X0 k es).getD z),(X0 k es).isSome,?_,?_,h⟩⟩ <;> rw [Yz] <;> cases X0 k es <;> rfl
end
end Go.Abs
set_option linter.unusedVariables false
set_option linter.unusedSimpArgs false
namespace Go.Abs
open Go.Proofs Go.Shelf Go.Sort
def K1 (xs:List Int):List Int:=xs.mergeSort fun x y=>decide (x≤y)
theorem So (xs:List Int):(K1 xs).length = xs.length:=by simp [K1,List.length_mergeSort]
theorem KR (xs:List Int):(xs.map (D.int .i64)).flatMap D.cells = xs.map (D.int .i64):=by
 induction xs with
 | nil=>rfl
 | cons x r ih=>simp [D.cells,ih]
theorem Qc {O:Nat→Prop} {w:World} {vals:List Value} {xs:List Int} (h:Bo O w vals (xs.map (D.int .i64))):vals = xs.map (Value.int .i64):=by
 apply List.ext_getElem?
 intro j
 by_cases hj:j < vals.length
 ·have hj2:j < xs.length:=by have:=h.1; simp at this; omega
  have:=(h.2 j vals[j] (.int .i64 xs[j]) (by simp [hj]) (by simp [hj2])).1
  cases h3:vals[j] with
  | int k n=>rw [h3] at this; cases this; simp [hj,hj2,h3]
  | _=>rw [h3] at this; cases this
 ·have hj2:¬ j < xs.length:=by have:=h.1; simp at this; omega
  rw [List.getElem?_eq_none (by omega),List.getElem?_eq_none (by simp; omega)]
theorem Tl (O:Nat→Prop) (w:World) (xs:List Int):Bo O w (xs.map (Value.int .i64)) (xs.map (D.int .i64)):=by
 refine ⟨by simp,fun j v y hv hy=>?_⟩
 simp only [List.getElem?_map] at hv hy
 cases h:xs[j]? with
 | none=>simp [h] at hv
 | some n=>simp [h] at hv hy; subst hv; subst hy; exact ⟨.int _ _,rfl⟩
theorem ft {P:Program} {ρ:Ren} (Ly:Lays.n189 P ρ) (hc:EH P (ρ.f 189) = true) (e:TypeId) (xs:List Int) (hl:xs.length < 4611686018427387904) :
 Ck P (ρ.f 189) [.own 1 e (xs.map (D.int .i64))] [.own 1 e ((K1 xs).map (D.int .i64))] (.tup []):=by
 refine ⟨hc,rfl,fun O w vs hO _ hlen hMO hinj hargs=>?_⟩
 obtain ⟨v,rfl⟩:∃ v,vs = #[v]:=by
  obtain ⟨l⟩:=vs
  match l,hlen with
  | [v],_=>exact ⟨v,rfl⟩
 obtain ⟨_,_,vals,hrow,hL⟩:=hargs 0 v _ rfl rfl
 rw [KR] at hL
 obtain rfl:=Qc hL
 have GD:∀ {w':World} {e':Ending},e' = .returned (.tuple #[])→AT w.heap.size (DV #[v] [.own 1 e (xs.map (D.int .i64))]) w w'→Ca w' e 1 v (K1 xs).length ((K1 xs).map (Value.int .i64)) →
  ∃ u,e' = .returned u∧AT w.heap.size (DV #[v] [.own 1 e (xs.map (D.int .i64))]) w w' ∧
  C9 (fun b=>w.heap.size≤b∨(DV #[v] [.own 1 e (xs.map (D.int .i64))] b∧¬ DV #[v] [.own 1 e ((K1 xs).map (D.int .i64))] b)) (fun b=>O b∨DV #[v] [.own 1 e ((K1 xs).map (D.int .i64))] b) w' u (.tup []) ∧
  ∀ (i:Nat) u' x y,#[v][i]? = some u'→[AV.own 1 e (xs.map (D.int .i64))][i]? = some x→[AV.own 1 e ((K1 xs).map (D.int .i64))][i]? = some y→N5 (fun b=>O b∨DV #[v] [.own 1 e ((K1 xs).map (D.int .i64))] b∨CC u (.tup []) b) w' u' x y:=by
  intro w' e' he hb hr
  refine ⟨_,he,hb,⟨#[],rfl,rfl,fun i u x h=>by simp at h,fun i j u u' sz e ys sz' e' ys' b h=>by simp at h⟩,fun i u' x y h1 h2 h3=>?_⟩
  match i,h1,h2,h3 with
  | 0,h1,h2,h3 =>
    simp at h1 h2 h3
    subst h1; subst h2; subst h3
    refine ⟨⟨by omega,fun x hx=>?_,(K1 xs).map (Value.int .i64),by simpa using hr,by rw [KR]; exact Tl _ _ _⟩,_,rfl⟩
    obtain ⟨n,_,rfl⟩:=List.mem_map.1 hx
    rfl
  | i + 1,h1,_,_=>simp at h1
 have none:xs = []→∀ p cap,v = .slice p 0 cap→Calls P (ρ.f 189) #[v] w fun e' w'=>∃ u,e' = .returned u∧AT w.heap.size (DV #[v] [.own 1 e (xs.map (D.int .i64))]) w w' ∧
  C9 (fun b=>w.heap.size≤b∨(DV #[v] [.own 1 e (xs.map (D.int .i64))] b∧¬ DV #[v] [.own 1 e ((K1 xs).map (D.int .i64))] b)) (fun b=>O b∨DV #[v] [.own 1 e ((K1 xs).map (D.int .i64))] b) w' u (.tup []) ∧
  ∀ (i:Nat) u' x y,#[v][i]? = some u'→[AV.own 1 e (xs.map (D.int .i64))][i]? = some x→[AV.own 1 e ((K1 xs).map (D.int .i64))][i]? = some y→N5 (fun b=>O b∨DV #[v] [.own 1 e ((K1 xs).map (D.int .i64))] b∨CC u (.tup []) b) w' u' x y:=by
  intro h0 p cap hv
  subst h0
  have hc:=Any.slices_Sort_int_none Ly p cap w
  rw [← hv] at hc
  refine hc.mono fun e' w' ⟨he,hw⟩=>?_
  subst hw
  refine GD he ⟨rfl,rfl,rfl,Nat.le_refl _,fun _ _ _=>rfl⟩ ?_
  simpa [K1] using hrow
 rcases hrow with hrow' | ⟨h0,_,a,hv⟩
 ·rcases hrow'.2 with ⟨hv,h0⟩ | ⟨g,cap,cur,hv,hbase,hb,h1,h2,h3,h4⟩
  ·exact none (by simpa using h0) _ _ hv
  ·rw [List.length_map] at h1 hv
   by_cases h00:cap = 0
   ·have hx:xs = []:=List.eq_nil_of_length_eq_zero (by omega)
    exact none hx (some ⟨g,0,Option.none⟩) cap (by rw [hv,hx]; rfl)
   have hH:Holds (Value.int .i64) w g 0 xs.toArray:=holds_of_blockI hb (by simpa using h4)
   have hg:g < w.heap.size:=(Array.getElem?_eq_some_iff.1 hb).1
   have hc:=Any.slices_Sort_int Ly g 0 cap xs w hH hg hl
   rw [← hv] at hc
   refine hc.mono fun e' w' ⟨he,n,os,hw⟩=>?_
   have hgr:=grownBy_sortedI (w:=w) (g:=g) (n:=n) (os:=os) (xs.mergeSort fun x y=>decide (x≤y)).toArray
   rw [← hw] at hgr
   refine GD he ⟨hgr.os,hgr.tape,hgr.output,hgr.size,fun k hk hm=>hgr.block k hk fun hkg=>?_⟩ (.inl ?_)
   ·refine hm ⟨0,v,_,rfl,rfl,rfl,?_⟩
    rw [hv]
    simp only [A1,h00,if_false]
    exact hkg.symm
   ·have:=ownsRow_sortedI (w:=w) (base:=0) (g:=g) (cap:=cap) (n:=n) (e:=e) (os:=os) (cur:=cur) (ss:=xs) (ts:=K1 xs) (So xs) hbase hb h1 h2 h3
    rw [So,hw,hv]
    exact this
 ·exact none (by simpa using h0) _ _ hv
end Go.Abs
set_option linter.unusedVariables false
set_option linter.unusedSimpArgs false
namespace Go.Abs
open Go Go.Proofs Go.Shelf Go.Sort
theorem ZL {vs:Array Value} {outs:List AV} (ho:∀ y∈outs,y = AV.any) (b:Nat):¬ DV vs outs b:=by
 rintro ⟨i,v,x,_,h2,h3,_⟩
 rw [ho x (List.mem_of_getElem? h2)] at h3
 cases h3
theorem Y2 {vs:Array Value} {args outs:List AV} {O:Nat→Prop} {w w':World} {E:TypeId} {u:Value} {ys:List D} {vals:List Value} (ho:∀ y∈outs,y = AV.any)
 (hm:∀ b,A1 u = some b→w.heap.size≤b∨DV vs args b) (hb:AT w.heap.size (DV vs args) w w') (hc:∀ y∈ys,y.cells.length = 1) (hr:Ca w' E 1 u ys.length vals)
 (hL:Bo (fun b=>O b∨A1 u = some b) w' vals (ys.flatMap D.cells)) :
 ∃ v,Ending.returned u = .returned v∧AT w.heap.size (DV vs args) w w' ∧
   C9 (fun b=>w.heap.size≤b∨(DV vs args b∧¬ DV vs outs b)) (fun b=>O b∨DV vs outs b) w' v (.cc none [.own 1 E ys]) ∧
   ∀ (i:Nat) z x y,vs[i]? = some z→args[i]? = some x→outs[i]? = some y→N5 (fun b=>O b∨DV vs outs b∨CC v (.cc none [.own 1 E ys]) b) w' z x y:=by
 refine ⟨u,rfl,hb,⟨by omega,hc,fun b h=>(hm b h).imp id fun h=>⟨h,ZL ho b⟩,vals,hr,hL.mono (B4.of_sub fun b h=>?_)⟩,fun i z x y _ _ h3=>?_⟩
 ·rcases h with (h | h) | h
  ·exact .inl h
  ·exact absurd h (ZL ho b)
  ·exact .inr h
 ·rw [ho y (List.mem_of_getElem? h3)]; trivial
theorem bh {vs:Array Value} {args outs:List AV} {O:Nat→Prop} {w w':World} {E:TypeId} {u:Value} {ys:List Int} (ho:∀ y∈outs,y = AV.any)
 (hm:∀ b,A1 u = some b→w.heap.size≤b∨DV vs args b) (hb:AT w.heap.size (DV vs args) w w') (hr:Ca w' E 1 u ys.length (ys.map (Value.int .i64))) :
 ∃ v,Ending.returned u = .returned v∧AT w.heap.size (DV vs args) w w' ∧
   C9 (fun b=>w.heap.size≤b∨(DV vs args b∧¬ DV vs outs b)) (fun b=>O b∨DV vs outs b) w' v (.own 1 E (ys.map (D.int .i64))) ∧
   ∀ (i:Nat) z x y,vs[i]? = some z→args[i]? = some x→outs[i]? = some y→N5 (fun b=>O b∨DV vs outs b∨CC v (.own 1 E (ys.map (D.int .i64))) b) w' z x y:=by
 refine ⟨u,rfl,hb,⟨by omega,fun x hx=>?_,fun b h=>(hm b h).imp id fun h=>⟨h,ZL ho b⟩,_,by simpa using hr,by rw [KR]; exact Tl _ _ _⟩,fun i z x y _ _ h3=>?_⟩
 ·obtain ⟨n,_,rfl⟩:=List.mem_map.1 hx
  rfl
 ·rw [ho y (List.mem_of_getElem? h3)]; trivial
theorem PY {vs:Array Value} {args:List AV} {O:Nat→Prop} {w w':World} {u:Value} {vals:List Value} {ds:List D} (hm:∀ b,A1 u = some b→w.heap.size≤b∨DV vs args b) (hb:AT w.heap.size (DV vs args) w w')
 (h:Bo (fun b=>O b∨DV vs args b) w vals ds):Bo (fun b=>O b∨A1 u = some b) w' vals ds :=
 h.mono ⟨hb.size,fun b hlt h=>h.imp id fun h=>(hm b h).resolve_left (by omega),fun b hlt h=>hb.block b hlt fun h2=>h (.inr h2)⟩
def FA (r:List Int):D:=D.list 1 (r.map (D.int .i64))
theorem KS (xs:List (List Int)):(xs.map FA).flatMap D.cells = xs.map FA:=by
 induction xs with
 | nil=>rfl
 | cons x r ih=>rw [List.map_cons,List.flatMap_cons,ih]; rfl
theorem QR {xs:List (List Int)}:∀ y∈xs.map FA,y.cells.length = 1:=fun y hy=>by
 obtain ⟨r,_,rfl⟩:=List.mem_map.1 hy
 rfl
theorem PX {w:World} {e:TypeId} {v:Value} {n:Nat} {vals:List Value} (h:Ca w e 1 v n vals) :
 (n = 0∧vals = []∧∃ a,v = .slice a 0 0) ∨
 ∃ g cap cur,v = .slice (some ⟨g,0,none⟩) n cap∧cap≠0∧w.heap[g]? = some (.cells cur e (0,0))∧n≤cap∧cap≤maxLen∧cur.size = cap∧cur.toList.take n = vals∧vals.length = n:=by
 rcases h with ⟨hl,⟨hv,h0⟩ | ⟨g,cap,cur,hv,_,hb,h1,h2,h3,h4⟩⟩ | ⟨h0,h1,a,hv⟩
 ·subst h0
  exact .inl ⟨rfl,List.eq_nil_of_length_eq_zero (by simpa using hl),none,hv⟩
 ·by_cases hc:cap = 0
  ·have hn:n = 0:=by omega
   subst hn; subst hc
   exact .inl ⟨rfl,List.eq_nil_of_length_eq_zero (by simpa using hl),_,hv⟩
  ·exact .inr ⟨g,cap,cur,hv,hc,hb,h1,h2,by simpa using h3,by simpa using h4,by simpa using hl⟩
 ·exact .inl ⟨h0,h1,_,hv⟩
theorem Tm {w:World} {e:TypeId} {g cap n:Nat} {cur:Array Value} {vals:List Value} (hb:w.heap[g]? = some (.cells cur e (0,0))) (h1:n≤cap) (h2:cap≤maxLen) (h3:cur.size = cap) (h4:cur.toList.take n = vals) (hl:vals.length = n):Ca w e 1 (.slice (some ⟨g,0,none⟩) n cap) n vals :=
 .inl ⟨by simpa using hl,.inr ⟨g,cap,cur,rfl,Nat.zero_le _,hb,h1,h2,by simpa using h3,by simpa using h4⟩⟩
theorem U7 {w:World} {e:TypeId} {g n:Nat} {cur:Array Value} {vals:List Value} (hb:w.heap[g]? = some (.cells cur e (0,0))) (h4:cur.toList.take n = vals) {j:Nat} {v:Value} (h:vals[j]? = some v):w.cell? ⟨g,j,none⟩ = some v:=by
 rw [← h4,List.getElem?_take] at h
 split at h
 ·simp only [World.cell?,hb]
  simp only [Option.isSome_none,Bool.false_eq_true,if_false]
  rw [← Array.getElem?_toList,h]
 ·cases h
theorem J3 {g cap n:Nat} (hc:cap≠0):A1 (.slice (some ⟨g,0,none⟩) n cap) = some g:=by simp [A1,hc]
theorem Y6 (w:World):grow w #[] = w:=by simp [grow]
theorem GR {g:Nat} {T:TypeId}:∀ (vs:List Value) (o:Nat) (w:World) (cur:Array Value),w.heap[g]? = some (.cells cur T (0,0))→o + vs.length≤cur.size →
 ∃ cur':Array Value,(w.setCells g o vs).heap[g]? = some (.cells cur' T (0,0))∧cur'.size = cur.size∧cur'.toList = cur.toList.take o++vs++cur.toList.drop (o + vs.length)∧∀ (B:Nat) (M:Nat→Prop),M g→AT B M w (w.setCells g o vs)
 | [],o,w,cur,hb,_=>⟨cur,hb,rfl,by simp,fun B M _=>AT.refl B M w⟩
 | v :: r,o,w,cur,hb,ho=>by
   simp only [List.length_cons] at ho
   have hb1:(w.setCell ⟨g,o,none⟩ v).heap[g]? = some (.cells (cur.setIfInBounds o v) T (0,0)):=by
    show (Array.modify _ _ _)[g]? = _
    rw [Array.getElem?_modify,if_pos rfl,hb]
    rfl
   obtain ⟨cur',h1,h2,h3,h4⟩:=GR r (o + 1) _ _ hb1 (by simp; omega)
   refine ⟨cur',h1,by rw [h2]; simp,?_,fun B M hM=>(show AT B M w (w.setCell ⟨g,o,none⟩ v) from ⟨rfl,rfl,rfl,?_,fun k _ hk=>?_⟩).trans (h4 B M hM)⟩
   ·have hol:o < cur.toList.length:=by simp; omega
    have a1:(cur.toList.set o v).take (o + 1) = cur.toList.take o++[v]:=by
     rw [List.take_succ_eq_append_getElem (by simpa using hol),List.take_set_of_le (Nat.le_refl _),List.getElem_set_self]
    rw [h3,Array.toList_setIfInBounds,a1,List.drop_set_of_lt (by omega),List.length_cons,show o + (r.length + 1) = o + 1 + r.length by omega]
    simp
   ·show w.heap.size≤(Array.modify _ _ _).size
    rw [Array.size_modify]; exact Nat.le_refl _
   ·show (Array.modify _ _ _)[k]? = _
    rw [Array.getElem?_modify,if_neg (fun e:g = k=>hk (by rw [← e]; exact hM))]
structure Uu (P:Program) (f:FuncId) (E:TypeId) (z:Value):Prop where
 room:∀ (b n c vb vc:Nat) (x:Value) (w:World),n + 1≤c→c≤9223372036854775807→1≤vc→(w.cell? ⟨b,n,none⟩).isSome = true→w.frozen? ⟨b,n,none⟩ = false→w.cell? ⟨vb,0,none⟩ = some x→x.oneCell' = true →
  Calls P f #[.slice (some ⟨b,0,none⟩) n c,.int .i64 n,.slice (some ⟨vb,0,none⟩) 1 vc] w fun e w'=>e = .returned (.slice (some ⟨b,0,none⟩) (n + 1) c)∧w' = w.setCells b n [x]
 new_:∀ (base:Option Addr) (n c vb vc:Nat) (cs:List Value) (x:Value) (w:World),n≤c→c < n + 1→n≤1000000→1≤vc→cs.length = n→(base = none→n = 0)→(∀ a,base = some a→∀ j v,cs[j]? = some v→w.cell? (a.add j) = some v)→w.cell? ⟨vb,0,none⟩ = some x→x.oneCell' = true →
  Calls P f #[.slice base n c,.int .i64 n,.slice (some ⟨vb,0,none⟩) 1 vc] w fun e w'=>e = .returned (.slice (some ⟨w.heap.size,0,none⟩) (n + 1) (grownCap w (n + 1) c E))∧w' = w.drew.alloc (.cells ((cs++[x]).toArray++Builtin.zeroCells #[z] (grownCap w (n + 1) c E - (n + 1))) E)
 shift:∀ (b n c i vb vc:Nat) (cs:List Value) (x:Value) (w:World),i < n→n + 1≤c→c≤9223372036854775807→1≤vc→vb≠b→cs.length = n→(∀ j v,cs[j]? = some v→w.cell? ⟨b,j,none⟩ = some v)→(∀ j,j < n + 1→(w.cell? ⟨b,j,none⟩).isSome = true)→(∀ j,w.frozen? ⟨b,j,none⟩ = false)→w.cell? ⟨vb,0,none⟩ = some x→(∀ v∈cs,v.oneCell' = true)→x.oneCell' = true →
  ∀ (tA tB:TypeId) (kA kB:Nat),w.shape? vb = some (tA,kA)→w.shape? b = some (tB,kB)→kB≠0→(∀ j,w.frozen? ⟨vb,j,none⟩ = false) →
  Calls P f #[.slice (some ⟨b,0,none⟩) n c,.int .i64 i,.slice (some ⟨vb,0,none⟩) 1 vc] w fun e w'=>e = .returned (.slice (some ⟨b,0,none⟩) (n + 1) c)∧w' = (w.drew.setCells b (i + 1) (cs.drop i)).setCells b i [x]
 grow:∀ (b n c i vb vc:Nat) (cs:List Value) (x:Value) (w:World),i < n→n≤c→c < n + 1→n≤1000000→1≤vc→cs.length = n→(∀ j v,cs[j]? = some v→w.cell? ⟨b,j,none⟩ = some v)→w.cell? ⟨vb,0,none⟩ = some x→(∀ v∈cs,v.oneCell' = true)→x.oneCell' = true →
  Calls P f #[.slice (some ⟨b,0,none⟩) n c,.int .i64 i,.slice (some ⟨vb,0,none⟩) 1 vc] w fun e w'=>e = .returned (.slice (some ⟨w.heap.size,0,none⟩) (n + 1) (grownCap w (n + 1) c E)) ∧
   w' = (((w.alloc (.cells ((cs.take i).toArray++Builtin.zeroCells #[z] (n + 1 - i)++Builtin.zeroCells #[z] (grownCap w (n + 1) c E - (n + 1))) E)).drew.setCells w.heap.size i [x]).drew).setCells w.heap.size (i + 1) (cs.drop i)
theorem SK (z:Value) (k:Nat):(Builtin.zeroCells #[z] k).size = k:=by simp [Builtin.zeroCells]
theorem Rj {w:World} {g:Nat} {cur:Array Value} {e:TypeId} (hb:w.heap[g]? = some (.cells cur e (0,0))) (j:Nat):w.frozen? ⟨g,j,none⟩ = false:=by simp [World.frozen?,hb]
theorem N6 (B:Nat) (M:Nat→Prop) (w:World):AT B M w w.drew:=⟨rfl,rfl,rfl,Nat.le_refl _,fun _ _ _=>rfl⟩
theorem R7 (w:World) (M:Nat→Prop) (o:Obj):AT w.heap.size M w (w.alloc o):=(AT.of (HP o)).weaken (Nat.le_refl _) fun _ _ _ h=>h
theorem Y8 {P:Program} {f:FuncId} {E:TypeId} {z:Value} (h:Uu P f E z) {w:World} {v u x:Value} {vals:List Value} {n i:Nat} {M:Nat→Prop} (hi:i≤n) (hn:n≤1000000) (hv:Ca w E 1 v n vals) (hu:Ca w E 1 u 1 [x])
 (h1:∀ y∈vals,y.oneCell' = true) (hx:x.oneCell' = true) (hM:∀ b,A1 v = some b→M b) (hap:∀ b,A1 v = some b→A1 u≠some b) :
 Calls P f #[v,.int .i64 i,u] w fun e' w'=>∃ r,e' = .returned r∧AT w.heap.size M w w'∧(∀ b,A1 r = some b→w.heap.size≤b∨M b)∧Ca w' E 1 r (n + 1) (vals.take i++[x]++vals.drop i):=by
 rcases PX hu with ⟨h0,_⟩ | ⟨vb,vc,curu,rfl,hvc,hbu,ku1,ku2,ku3,ku4,ku5⟩
 ·omega
 have hxc:w.cell? ⟨vb,0,none⟩ = some x:=U7 hbu ku4 (j:=0) rfl
 have hcap:∀ c,n + 1≤grownCap w (n + 1) c E∧grownCap w (n + 1) c E≤maxLen:=fun c=>⟨grownCap_ge w _ _ _,grownCap_le_maxLen w (n + 1) c E (by unfold maxLen; omega)⟩
 have atEnd:∀ (base:Option Addr) (c:Nat),v = .slice base n c→i = n→n≤c→c < n + 1→vals.length = n→(base = none→n = 0)→(∀ a,base = some a→∀ j v,vals[j]? = some v→w.cell? (a.add j) = some v) →
  Calls P f #[v,.int .i64 i,.slice (some ⟨vb,0,none⟩) 1 vc] w fun e' w'=>∃ r,e' = .returned r∧AT w.heap.size M w w'∧(∀ b,A1 r = some b→w.heap.size≤b∨M b)∧Ca w' E 1 r (n + 1) (vals.take i++[x]++vals.drop i):=by
  intro base c hvv hin k1 k2 k3 k4 k5
  subst hvv; subst hin
  refine (h.new_ base i c vb vc vals x w k1 k2 hn (by omega) k3 k4 k5 hxc hx).mono fun e' w' ⟨he,hw⟩=>⟨_,he,?_,fun b hb=>?_,?_⟩
  ·rw [hw]; exact (N6 _ _ w).trans (R7 w.drew M _)
  ·rw [J3 (by have:=hcap c; omega)] at hb
   cases hb
   exact .inl (Nat.le_refl _)
  ·rw [hw]
   refine Tm (heap_alloc_new w.drew _) (hcap c).1 (hcap c).2 ?_ ?_ (by simp; omega)
   ·simp only [Array.size_append,SK,List.size_toArray,List.length_append,List.length_singleton]
    have:=(hcap c).1
    omega
   ·rw [Array.toList_append,List.take_append_of_le_length (by simp; omega)]
    have e1:(vals++[x]).toArray.toList.take (i + 1) = vals++[x]:=List.take_of_length_le (by simp; omega)
    rw [e1,List.take_of_length_le (by omega),List.drop_eq_nil_of_le (by omega),List.append_nil]
 rcases PX hv with ⟨h0,h0v,a,hva⟩ | ⟨g,c,cur,hvv,hc,hb,k1,k2,k3,k4,k5⟩
 ·subst h0; subst h0v
  have hi0:i = 0:=by omega
  exact atEnd a 0 hva hi0 (Nat.le_refl _) (by omega) rfl (fun _=>rfl) (fun a _ j v hj=>by simp at hj)
 ·have hMg:M g:=hM g (by rw [hvv]; exact J3 hc)
  have hne:vb≠g:=fun e=>hap g (by rw [hvv]; exact J3 hc) (by rw [← e]; exact J3 hvc)
  have hcs:∀ j y,vals[j]? = some y→w.cell? ⟨g,j,none⟩ = some y:=fun j y hj=>U7 hb k4 hj
  have hsome:∀ j,j < c→(w.cell? ⟨g,j,none⟩).isSome = true:=fun j hj=>by
   simp only [World.cell?,hb]
   simp [show j < cur.size by omega]
  by_cases hroom:n + 1≤c
  ·have hc63:c≤9223372036854775807:=by unfold maxLen at k2; omega
   by_cases hin:i = n
   ·subst hin; subst hvv
    refine (h.room g i c vb vc x w hroom hc63 (by omega) (hsome i (by omega)) (Rj hb i) hxc hx).mono fun e' w' ⟨he,hw⟩=>?_
    obtain ⟨cur',j1,j2,j3,j4⟩:=GR [x] i w cur hb (by simp; omega)
    refine ⟨_,he,by rw [hw]; exact j4 _ _ hMg,fun b hb2=>?_,?_⟩
    ·rw [J3 hc] at hb2; cases hb2; exact .inr hMg
    ·rw [hw]
     refine Tm j1 hroom k2 (by omega) ?_ (by simp; omega)
     rw [j3,k4,List.take_append_of_le_length (by simp; omega),List.take_of_length_le (l:=vals++[x]) (by simp; omega),List.take_of_length_le (l:=vals) (by omega),List.drop_eq_nil_of_le (by omega),List.append_nil]
   ·subst hvv
    refine (h.shift g n c i vb vc vals x w (by omega) hroom hc63 (by omega) hne k5 hcs (fun j hj=>hsome j (by omega)) (Rj hb) hxc h1 hx E E curu.size c (by simp [World.shape?,hbu]) (by simp [World.shape?,hb,k3]) hc (Rj hbu)).mono fun e' w' ⟨he,hw⟩=>?_
    obtain ⟨cur1,j1,j2,j3,j4⟩:=GR (vals.drop i) (i + 1) w.drew cur hb (by simp; omega)
    obtain ⟨cur2,l1,l2,l3,l4⟩:=GR [x] i _ cur1 j1 (by simp; omega)
    refine ⟨_,he,by rw [hw]; exact (N6 _ _ w).trans ((j4 _ _ hMg).trans (l4 _ _ hMg)),fun b hb2=>?_,?_⟩
    ·rw [J3 hc] at hb2; cases hb2; exact .inr hMg
    ·rw [hw]
     refine Tm l1 hroom k2 (by omega) ?_ (by simp; omega)
     have e0:vals.take i = cur.toList.take i:=by rw [← k4,List.take_take,Nat.min_eq_left hi]
     have e1:cur1.toList.take i = vals.take i:=by
      rw [j3,List.append_assoc,List.take_append_of_le_length (by simp; omega),List.take_take,Nat.min_eq_left (by omega),e0]
     have e2:cur1.toList.drop (i + 1) = vals.drop i++cur.toList.drop (i + 1 + (vals.drop i).length):=by
      rw [j3,List.append_assoc,List.drop_append_of_le_length (by simp; omega),List.drop_eq_nil_of_le (by simp; omega),List.nil_append]
     rw [l3,List.length_singleton,e1,e2,← List.append_assoc,List.take_append_of_le_length (by simp; omega)]
     exact List.take_of_length_le (by simp; omega)
  ·by_cases hin:i = n
   ·exact atEnd _ c hvv hin k1 (by omega) k5 (fun e=>by cases e) (fun a ha j y hj=>by cases ha; rw [Addr.add_lit,Nat.zero_add]; exact hcs j y hj)
   ·subst hvv
    refine (h.grow g n c i vb vc vals x w (by omega) k1 (by omega) hn (by omega) k5 hcs hxc h1 hx).mono fun e' w' ⟨he,hw⟩=>?_
    have hG:=hcap c
    generalize grownCap w (n + 1) c E = G at he hw hG
    obtain ⟨ROW,hROW⟩:∃ ROW:Array Value,ROW = (vals.take i).toArray++Builtin.zeroCells #[z] (n + 1 - i)++Builtin.zeroCells #[z] (G - (n + 1)):=⟨_,rfl⟩
    rw [← hROW] at hw
    have hsz:ROW.size = G:=by
     rw [hROW]
     simp only [Array.size_append,SK,List.size_toArray,List.length_take]
     omega
    have hrt:ROW.toList.take i = vals.take i:=by
     rw [hROW,Array.toList_append,Array.toList_append,List.append_assoc,List.take_append_of_le_length (by simp; omega)]
     exact List.take_of_length_le (by simp; omega)
    have hb0:(w.alloc (.cells ROW E)).drew.heap[w.heap.size]? = some (.cells ROW E (0,0)):=heap_alloc_new w _
    obtain ⟨cur1,j1,j2,j3,j4⟩:=GR [x] i _ ROW hb0 (by simp; omega)
    obtain ⟨cur2,l1,l2,l3,l4⟩:=GR (vals.drop i) (i + 1) ((w.alloc (.cells ROW E)).drew.setCells w.heap.size i [x]).drew cur1 j1 (by simp; omega)
    have hB:AT w.heap.size (fun b=>M b∨w.heap.size≤b) w w':=by
     rw [hw]
     exact (R7 w _ _).trans ((N6 _ _ _).trans ((j4 _ _ (.inr (Nat.le_refl _))).trans ((N6 _ _ _).trans (l4 _ _ (.inr (Nat.le_refl _))))))
    refine ⟨_,he,hB.weaken (Nat.le_refl _) fun k hk hm=>fun hh=>hh.elim hm fun h=>by omega,fun b hb2=>?_,?_⟩
    ·rw [J3 (by omega)] at hb2; cases hb2; exact .inl (Nat.le_refl _)
    ·rw [hw]
     refine Tm l1 hG.1 hG.2 (by omega) ?_ (by simp; omega)
     have e1:cur1.toList.take (i + 1) = vals.take i++[x]:=by
      rw [j3,hrt,List.take_append_of_le_length (by simp; omega)]
      exact List.take_of_length_le (by simp; omega)
     rw [l3,e1,List.take_append_of_le_length (by simp; omega)]
     exact List.take_of_length_le (by simp; omega)
variable {α:Type} [Inhabited α] {enc:α→Value}
theorem cz {w:World} {g:Nat} {cur:Array Value} {e:TypeId} {ss:List α} (hb:w.heap[g]? = some (.cells cur e (0,0))) (ht:cur.toList.take ss.length = ss.map enc):Holds enc w g 0 ss.toArray:=by
 intro j hj
 have hj':j < ss.length:=by simpa using hj
 refine ⟨?_,by simp [World.frozen?,hb]⟩
 have:=U7 hb ht (j:=j) (v:=enc ss[j]) (by simp [hj'])
 rw [Nat.zero_add,this]
 simp [hj']
theorem dT {w:World} {g n:Nat} {os:Array Obj} {cur:Array Value} {e:TypeId} {fr:Nat × Nat} (d:Array α) (hb:w.heap[g]? = some (.cells cur e fr)) :
 (grow (putRow enc (Sort.ahead w n) g 0 d) os).heap[g]? = some (.cells (putCells enc 0 d cur) e fr):=by
 have hg:g < w.heap.size:=(Array.getElem?_eq_some_iff.1 hb).1
 rw [heap_grow_old _ _ (by simpa using hg)]
 simp [putRow,mapBlock,Sort.ahead,Array.getElem?_modify,hb,onCells]
theorem Zs {w:World} {g n:Nat} {os:Array Obj} (d:Array α) {M:Nat→Prop} (hM:M g):AT w.heap.size M w (grow (putRow enc (Sort.ahead w n) g 0 d) os):=by
 refine ⟨rfl,rfl,rfl,by simp,fun k hk hne=>?_⟩
 rw [heap_grow_old _ _ (by simpa using hk)]
 have:g≠k:=fun e=>hne (e ▸ hM)
 simp [putRow,mapBlock,Sort.ahead,Array.getElem?_modify,this]
theorem eg (cur:Array Value) (ts:List α) (h:ts.length≤cur.size):(putCells enc 0 ts.toArray cur).toList.take ts.length = ts.map enc:=by
 apply List.ext_getElem?
 intro j
 by_cases hj:j < ts.length
 ·rw [List.getElem?_take_of_lt hj,Array.getElem?_toList]
  simp [putCells,hj,show j < cur.size by omega]
 ·rw [List.getElem?_take_eq_none (by omega),List.getElem?_eq_none (by simp; omega)]
abbrev em:Type:={ v:Value // v.oneCell' = true }
instance:Inhabited em:=⟨⟨.slice none 0 0,rfl⟩⟩
theorem fu:∀ {vals:List Value},(∀ v∈vals,v.oneCell' = true)→∃ l:List em,l.map Subtype.val = vals
 | [],_=>⟨[],rfl⟩
 | v :: r,h=>by
   obtain ⟨l,hl⟩:=fu (vals:=r) fun u hu=>h u (List.mem_cons_of_mem _ hu)
   exact ⟨⟨v,h v (List.mem_cons_self ..)⟩ :: l,by rw [List.map_cons,hl]⟩
end Go.Abs
set_option linter.unusedVariables false
set_option linter.unusedSimpArgs false
namespace Go.Abs
open Go.Proofs Go.Shelf Go.Sort
theorem WE (w:World):grow w #[] = w:=by simp [grow]
theorem Vb (xs:List Int):(Lib.compact xs).length≤xs.length:=by
 unfold Lib.compact Lib.compactUpTo
 rw [List.length_map]
 exact Nat.le_trans (List.length_filter_le _ _) (by simp)
theorem cD {P:Program} {ρ:Ren} (Ly:Lays2.n20 P ρ) (hc:EH P (ρ.f 20) = true) (e:TypeId) (xs:List Int) (hl:xs.length < 4611686018427387904) :
 Ck P (ρ.f 20) [.own 1 e (xs.map (D.int .i64))] [.any] (.own 1 e ((Lib.compact xs).map (D.int .i64))):=by
 refine ⟨hc,rfl,fun O w vs hO _ hlen hMO hinj hargs=>?_⟩
 obtain ⟨v,rfl⟩:∃ v,vs = #[v]:=by
  obtain ⟨l⟩:=vs
  match l,hlen with
  | [v],_=>exact ⟨v,rfl⟩
 obtain ⟨_,_,vals,hrow,hL⟩:=hargs 0 v _ rfl rfl
 rw [KR] at hL
 obtain rfl:=Qc hL
 have hmut:∀ b,A1 v = some b→DV #[v] [.own 1 e (xs.map (D.int .i64))] b:=fun b hb=>⟨0,v,_,rfl,rfl,rfl,hb⟩
 have hnot:∀ b,¬ DV #[v] [.any] b:=by
  rintro b ⟨i,u,x,h1,h2,h3,_⟩
  match i,h1,h2 with
  | 0,h1,h2=>simp at h2; subst h2; simp [AV.mut] at h3
  | i + 1,h1,h2=>simp at h1
 have GD:∀ {w':World} {e':Ending} {u:Value},e' = .returned u→(∀ b,A1 u = some b→A1 v = some b)→AT w.heap.size (DV #[v] [.own 1 e (xs.map (D.int .i64))]) w w'→Ca w' e 1 u (Lib.compact xs).length ((Lib.compact xs).map (Value.int .i64)) →
  ∃ u,e' = .returned u∧AT w.heap.size (DV #[v] [.own 1 e (xs.map (D.int .i64))]) w w' ∧
  C9 (fun b=>w.heap.size≤b∨(DV #[v] [.own 1 e (xs.map (D.int .i64))] b∧¬ DV #[v] [.any] b)) (fun b=>O b∨DV #[v] [.any] b) w' u (.own 1 e ((Lib.compact xs).map (D.int .i64))) ∧
  ∀ (i:Nat) u' x y,#[v][i]? = some u'→[AV.own 1 e (xs.map (D.int .i64))][i]? = some x→[AV.any][i]? = some y→N5 (fun b=>O b∨DV #[v] [.any] b∨CC u (.own 1 e ((Lib.compact xs).map (D.int .i64))) b) w' u' x y:=by
  intro w' e' u he hbl hb hr
  refine ⟨u,he,hb,⟨by omega,fun x hx=>?_,fun b hb'=>.inr ⟨hmut b (hbl b hb'),hnot b⟩,_,by simpa using hr,by rw [KR]; exact Tl _ _ _⟩,fun i u' x y h1 h2 h3=>?_⟩
  ·obtain ⟨n,_,rfl⟩:=List.mem_map.1 hx
   rfl
  ·match i,h3 with
   | 0,h3=>simp at h3; subst h3; trivial
   | i + 1,h3=>simp at h3
 have none:xs = []→∀ p cap,v = .slice p 0 cap→Calls P (ρ.f 20) #[v] w fun e' w'=>∃ u,e' = .returned u∧AT w.heap.size (DV #[v] [.own 1 e (xs.map (D.int .i64))]) w w' ∧
  C9 (fun b=>w.heap.size≤b∨(DV #[v] [.own 1 e (xs.map (D.int .i64))] b∧¬ DV #[v] [.any] b)) (fun b=>O b∨DV #[v] [.any] b) w' u (.own 1 e ((Lib.compact xs).map (D.int .i64))) ∧
  ∀ (i:Nat) u' x y,#[v][i]? = some u'→[AV.own 1 e (xs.map (D.int .i64))][i]? = some x→[AV.any][i]? = some y→N5 (fun b=>O b∨DV #[v] [.any] b∨CC u (.own 1 e ((Lib.compact xs).map (D.int .i64))) b) w' u' x y:=by
  intro h0 p cap hv
  subst h0
  have hc:=Any.slices_Compact_int_empty Ly p cap w
  rw [← hv] at hc
  refine hc.mono fun e' w' ⟨he,hw⟩=>?_
  subst hw
  refine GD he (fun _ h=>h) ⟨rfl,rfl,rfl,Nat.le_refl _,fun _ _ _=>rfl⟩ ?_
  simpa [Lib.compact,Lib.compactUpTo] using hrow
 rcases hrow with hrow' | ⟨h0,_,a,hv⟩
 ·rcases hrow'.2 with ⟨hv,h0⟩ | ⟨g,cap,cur,hv,hbase,hb,h1,h2,h3,h4⟩
  ·exact none (by simpa using h0) _ _ hv
  ·rw [List.length_map] at h1 hv
   by_cases h00:cap = 0
   ·have hx:xs = []:=List.eq_nil_of_length_eq_zero (by omega)
    exact none hx (some ⟨g,0,Option.none⟩) cap (by rw [hv,hx]; rfl)
   have hH:Holds (Value.int .i64) w g 0 xs.toArray:=holds_of_blockI hb (by simpa using h4)
   have hc:=Any.slices_Compact_int Ly g 0 cap xs w hH (by omega) h1
   rw [← hv] at hc
   refine hc.mono fun e' w' ⟨he,n,hw⟩=>?_
   have hcl:=Vb xs
   generalize hts:Lib.compact xs++List.replicate (xs.length - (Lib.compact xs).length) 0 = ts at hw
   have htl:ts.length = xs.length:=by rw [← hts]; simp; omega
   have hgr:=grownBy_sortedI (w:=w) (g:=g) (n:=n) (os:=#[]) ts.toArray
   rw [WE,← hw] at hgr
   refine GD he (fun b hb'=>?_) ⟨hgr.os,hgr.tape,hgr.output,hgr.size,fun k hk hm=>hgr.block k hk fun hkg=>?_⟩ (.inl ?_)
   ·rw [hv]; simpa [A1] using hb'
   ·refine hm ⟨0,v,_,rfl,rfl,rfl,?_⟩
    rw [hv]
    simp only [A1,h00,if_false]
    exact hkg.symm
   ·have ho:=ownsRow_sortedI (w:=w) (base:=0) (g:=g) (cap:=cap) (n:=n) (e:=e) (os:=#[]) (cur:=cur) (ss:=xs) (ts:=ts) htl hbase hb h1 h2 h3
    rw [WE,← hw] at ho
    refine ⟨by simp,.inr ?_⟩
    rcases ho.2 with ⟨h,_⟩ | ⟨g',cap',cur',hv',hb',hh',hn',hc',hs',ht'⟩
    ·cases h
    cases hv'
    refine ⟨g,cap,cur',rfl,hb',hh',by omega,hc',hs',?_⟩
    have:cur'.toList.take ((Lib.compact xs).length * 1) = (cur'.toList.take (xs.length * 1)).take ((Lib.compact xs).length * 1):=by
     rw [List.take_take,Nat.min_eq_left (by omega)]
    rw [this,ht',← hts]
    simp
 ·exact none (by simpa using h0) _ _ hv
end Go.Abs
set_option linter.unusedVariables false
set_option linter.unusedSimpArgs false
namespace Go.Abs
open Go.ChangeShapes Go.WideShapes
theorem c8 {H:Type} {enc:TypeId × Value→H} {P:Program} {W:World} {base:Nat} {spare:Nat→Bool} {held:Bool} {t e:TypeId} {k:IntKind} {v:Value} {d:DataW H} {p:List MemPlace}
 (ht:P.underlying t = some (.slice e)) (he:P.underlying e = some (.int k)) (hc:P.cellsOf e = 1) (hv:∃ a n c,v = .slice a n c) (h:DataW.Trod enc P W base spare held t v d p) :
 ∃ xs:List Int,AB (fun _=>False) W v (.list 1 (xs.map (D.int k)))∧xs.length≤maxLen∧∀ n∈xs,(Lit.int k n).wf = true:=by
 obtain ⟨fuel,hf⟩:=h
 obtain ⟨a0,n0,c0,rfl⟩:=hv
 rcases open_ints ht he hc hf with ⟨hcs,_⟩ | ⟨x,l,c,zs,hcs,_,hl,hm,hz,_,hcell,hwz⟩
 ·simp [Value.cells] at hcs
  obtain ⟨rfl,rfl,rfl⟩:=hcs
  exact ⟨[],.emp _ _ _,by simp [maxLen],fun n hn=>by simp at hn⟩
 ·simp [Value.cells] at hcs
  obtain ⟨rfl,rfl,rfl⟩:=hcs
  have hln:n0≤zs.length:=by rw [hz]; split <;> omega
  refine ⟨zs.take n0,?_,by simp; omega,fun n hn=>hwz n (List.mem_of_mem_take hn)⟩
  have hlen:(zs.take n0).length = n0:=by simp; omega
  by_cases h0:n0 = 0
  ·subst h0; exact .emp _ _ _
  ·obtain ⟨b,off,spot⟩:=x
   have hc0:=hcell 0 (by omega)
   have hspot:spot = none:=by simpa [Addr.add] using World.cell?_spot hc0
   subst hspot
   have hb:b < W.heap.size:=by
    rcases Nat.lt_or_ge b W.heap.size with h | h
    ·exact h
    ·simp [World.cell?,Addr.add,Array.getElem?_eq_none h] at hc0
   have hlm:((zs.take n0).map (D.int k)).length = n0:=by rw [List.length_map,hlen]
   have hget:∀ (i:Nat) (y:D),((zs.take n0).map (D.int k))[i]? = some y→i < n0∧y = .int k (zs.getD i 0):=by
    intro i y hy
    simp only [List.getElem?_map,List.getElem?_take] at hy
    split at hy
    ·rename_i hi
     refine ⟨hi,?_⟩
     have hi':i < zs.length:=by omega
     simp [List.getElem?_eq_getElem hi'] at hy
     simp [List.getD,List.getElem?_eq_getElem hi',hy]
    ·simp at hy
   have key:=AB.list (O:=fun _=>False) (w:=W) b off c0 1 ((zs.take n0).map (D.int k)) (fun i _=>.int k (zs.getD i 0)) (by intro h; rw [← List.length_eq_zero_iff,hlm] at h; exact h0 h) hb (fun h=>h) (by rw [hlm]; exact hl)
    (fun y hy=>by obtain ⟨m,_,rfl⟩:=List.mem_map.1 hy; rfl) (fun y hy z hz=>by obtain ⟨m,_,rfl⟩:=List.mem_map.1 hy; simp [D.cells] at hz; subst hz; rfl)
    (fun i y j z hy hz=>by
     obtain ⟨hi,rfl⟩:=hget i y hy
     have hj:j = 0:=by cases j with | zero=>rfl | succ j=>simp [D.cells] at hz
     subst hj
     have:=hcell i (by omega)
     rw [F4] at this
     simpa using this)
    (fun i y j z hy hz=>by
     obtain ⟨hi,rfl⟩:=hget i y hy
     have hj:j = 0:=by cases j with | zero=>rfl | succ j=>simp [D.cells] at hz
     subst hj
     simp [D.cells] at hz
     subst hz
     exact .int _ _)
   rw [hlm] at key
   exact key
end Go.Abs
