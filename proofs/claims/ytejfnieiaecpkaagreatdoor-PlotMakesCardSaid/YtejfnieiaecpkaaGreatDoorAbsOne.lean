/- The abstract machine: an operation, whatever it is, has the effect that the machine says. -/
import Derived.Test.YtejfnieiaecpkaaGreatDoorAbsClo
import Derived.Test.YtejfnieiaecpkaaGreatDoorAbsMap
set_option linter.unusedVariables false
set_option linter.unusedSimpArgs false
namespace Go.Abs
open Go.RowKit (Below)
section
variable {P:Program} {X:Cx} {G:Nat→Prop} {β:Nat→Value} {S:AS} {a:Act} {w:World} {o:Oper}
theorem Xl {α:Type} {x:Array α} {p:α} (h:x.toList = [p]):x = #[p]:=by cases x; simp_all
theorem Ks {α:Type} {x:Array α} {p q:α} (h:x.toList = [p,q]):x = #[p,q]:=by cases x; simp_all
theorem AL {K:GD→Prop} (h:∃ e,K e∧Dh P X G S a w o e):∃ e,K e∧(FH S e.homes = true→Dh P X G S a w o e):=by
 obtain ⟨e,h1,h2⟩:=h
 exact ⟨e,h1,fun _=>h2⟩
set_option maxHeartbeats 2000000 in
theorem bH (h:AB X G β S a w) {g:Option (Nat × Bool)} (hg:BN g a) {d:Nat} (hd:d < S.length) {K:GD→Prop} (hy:yA P (σOf S) (ρOf S) g o d (As S d).ver K) :
 ∃ e,K e∧(FH S e.homes = true→Dh P X G S a w o e):=by
 unfold yA at hy
 split at hy
 ·rename_i x ho
  exact AL ⟨_,hy,Wb h hg (.inl ho)⟩
 ·rename_i x ho
  split at hy
  ·rename_i hn
   split at hy
   ·rename_i e _
    obtain ⟨h1,hy⟩:=Ar hy
    exact AL ⟨_,hy,bk h hd ho hn h1⟩
   ·exact hy.elim
  ·exact AL ⟨_,hy,Wb h hg (.inr ho)⟩
 ·rename_i t x y ho
  split at hy
  ·rename_i hc; have h1:=ρ_sound h hg (.tmp t); rw [hc] at h1; exact h1.elim
  ·rename_i c hc
   split at hy
   ·rename_i h1
    split at hy
    ·rename_i b2 h2
     exact AL ⟨_,hy,Zl h hg ho hc h1 h2⟩
    ·exact hy.elim
   ·rename_i b1 h1
    split at hy
    ·rename_i h2
     exact AL ⟨_,hy,Zg h hg ho hc h1 h2⟩
    ·rename_i b2 h2
     exact AL ⟨_,hy,aT h hg ho hc h1 h2⟩
    ·exact hy.elim
   ·exact hy.elim
  ·exact hy.elim
 ·rename_i T x ho
  exact AL (c3 h hg hd ho hy)
 ·rename_i T ho
  split at hy
  ·rename_i l hl
   exact AL (YE h hd ho hl hy)
  ·exact hy.elim
 ·rename_i t parts ho
  split at hy
  ·rename_i fields hu
   split at hy
   ·rename_i zd hzd
    obtain ⟨hall,hy⟩:=Ar hy
    split at hy
    ·exact AL (TL h hg ho hu hzd hall hy)
    ·rcases hy.go with hy | hy
     ·exact AL (TL h hg ho hu hzd hall hy)
     ·exact AL (Yr h hg ho hu hzd hall hy)
   ·exact hy.elim
  ·exact hy.elim
 ·rename_i t n parts ho
  split at hy
  ·rename_i e hu
   exact AL (TC h hg hd ho hu hy)
  ·exact hy.elim
 ·rename_i t x y ho
  split at hy
  ·rename_i e hu
   split at hy
   ·rename_i k l hl
    split at hy
    ·rename_i k' c hc
     obtain ⟨⟨h1,h2⟩,hy⟩:=Ar hy
     exact AL (aG h hg hd ho hu h1 h2 hl hc hy)
    ·exact hy.elim
   ·exact hy.elim
  ·exact hy.elim
 ·rename_i f first caps ho
  split at hy
  ·rename_i hf
   split at hy
   ·exact AL (VB h hg ho hf hy)
   ·rcases hy.go with hy | hy
    ·exact AL (VB h hg ho hf hy)
    ·exact AL (Y2 h hg ho hf hy)
  ·exact hy.elim
 ·rename_i t x ho
  have hr:=ρ_sound h hg x
  split at hy
  ·rename_i hx; rw [hx] at hr; exact hr.elim
  ·rename_i id n off cs hx
   rw [hx] at hr
   exact AL (XO h ho hr hy)
  ·rename_i cs hx
   rw [hx] at hr
   exact AL (X0 h ho hr hy)
  ·rename_i id n sz e xs i off hx
   rw [hx] at hr
   exact AL (Yy h ho hr hy)
  ·exact hy.elim
 ·rename_i t p x ho
  obtain ⟨hi,hy⟩:=Ar hy
  obtain ⟨i,hi⟩:=Option.isSome_iff_exists.1 hi
  have hr:=ρ_sound h hg p
  split at hy
  ·rename_i id n off cs hx
   rw [hx] at hr
   exact AL (Wt h hg ho hr hi hy)
  ·rename_i id n sz e xs k off hx
   rw [hx] at hr
   exact AL (WC h hg ho hr hi hy)
  ·exact hy.elim
 ·rename_i x ho
  have hr:=ρ_sound h hg x
  split at hy
  ·rename_i id n off cs hx
   rw [hx] at hr
   have hb:=Mc (tm:=a.tmps) hr
   obtain ⟨_,_,b,_,hv⟩:=hr
   exact AL ⟨_,hy,Kp h ho (.inl ⟨_,hv⟩) hb.1 hb.2⟩
  ·rename_i cs hx
   rw [hx] at hr
   have hb:=Mc (tm:=a.tmps) hr
   obtain ⟨b,off,hv,_⟩:=Vb hr
   exact AL ⟨_,hy,Kp h ho (.inl ⟨_,hv⟩) hb.1 hb.2⟩
  ·rename_i f cs hx
   rw [hx] at hr
   have hb:=Mc (tm:=a.tmps) hr
   obtain ⟨vs,hv,_⟩:=ZE hr
   exact AL ⟨_,hy,Kp h ho (.inr ⟨f,vs,hv⟩) hb.1 hb.2⟩
  ·rename_i id n sz e xs i off hx
   rw [hx] at hr
   have hb:=Mc (tm:=a.tmps) hr
   obtain ⟨_,_,b,m,cap,_,hv⟩:=hr
   exact AL ⟨_,hy,Kp h ho (.inl ⟨_,hv⟩) hb.1 hb.2⟩
  ·exact hy.elim
 ·rename_i op t x y U ho
  have hrx:=ρ_sound h hg x
  have hry:=ρ_sound h hg y
  split at hy
  ·rename_i hp; rw [hp] at hrx; exact hrx.elim
  ·rename_i p hp
   rw [hp] at hrx
   split at hy
   ·rename_i hq; rw [hq] at hry; exact hry.elim
   ·rename_i q hq
    rw [hq] at hry
    exact AL (YH h ho hrx hry hy)
   ·exact hy.elim
  ·exact hy.elim
 ·rename_i op t x ho
  have hrx:=ρ_sound h hg x
  split at hy
  ·rename_i hp; rw [hp] at hrx; exact hrx.elim
  ·rename_i p hp
   rw [hp] at hrx
   exact AL (aN h ho hrx hy)
  ·exact hy.elim
 ·rename_i s t x ho
  have hrx:=ρ_sound h hg x
  split at hy
  ·rename_i ds hs
   split at hy
   ·rename_i k ht
    split at hy
    ·rename_i hx; rw [hx] at hrx; exact hrx.elim
    ·rename_i k' n hx
     rw [hx] at hrx
     exact AL ⟨_,hy,W1 h ho ht ⟨_,hs⟩ hrx⟩
    ·exact hy.elim
   ·rename_i ht
    split at hy
    ·rename_i hx; rw [hx] at hrx; exact hrx.elim
    ·rename_i b hx
     rw [hx] at hrx
     exact AL ⟨_,hy,WA h ho ht ⟨_,hs⟩ hrx⟩
    ·exact hy.elim
   ·rename_i e ht
    split at hy <;> try exact hy.elim
    rename_i he
    split at hy
    ·rename_i hx; rw [hx] at hrx; exact hrx.elim
    ·rename_i b hx
     rw [hx] at hrx
     exact AL ⟨_,hy,TW h ho ht he ⟨_,hs⟩ hrx⟩
    ·exact hy.elim
   ·exact hy.elim
  ·exact hy.elim
 ·rename_i s x f ho
  split at hy
  ·rename_i fields hu
   split at hy
   ·rename_i fd hf
    obtain ⟨hz,hy⟩:=Ar hy
    exact AL (Ut h hg ho hu hf hz hy)
   ·exact hy.elim
  ·exact hy.elim
 ·rename_i s x f ho
  have hrx:=ρ_sound h hg x
  split at hy
  ·rename_i fields hu
   split at hy
   ·rename_i fd hf
    split at hy
    ·rename_i hx; rw [hx] at hrx; exact hrx.elim
    ·rename_i cs hx
     rw [hx] at hrx
     exact AL (Zc h ho hu hf hrx hy)
    ·exact hy.elim
   ·exact hy.elim
  ·exact hy.elim
 ·rename_i t x ix ho
  have hrx:=ρ_sound h hg x
  have hri:=ρ_sound h hg ix
  split at hy
  ·rename_i e hu
   split at hy
   ·rename_i k i hi
    rw [hi] at hri
    split at hy
    ·rename_i sz xs hx
     rw [hx] at hrx
     obtain ⟨⟨hs,hs0⟩,hy⟩:=Ar hy
     exact AL (QJ h ho hu hs hs0 hri hrx hy)
    ·rename_i sz xs hx
     rw [hx] at hrx
     obtain ⟨⟨hs,hs0⟩,hy⟩:=Ar hy
     exact AL (QJ h ho hu hs hs0 hri hrx.1 hy)
    ·rename_i id n sz e' xs hx
     rw [hx] at hrx
     obtain ⟨hs,hy⟩:=Ar hy
     obtain ⟨⟨h0,h1⟩,hy⟩:=hy
     exact AL ⟨_,hy,UB h ho hu hri hs hrx h0 h1⟩
    ·exact hy.elim
   ·exact hy.elim
  ·rename_i n e hu
   split at hy
   ·rename_i k i hi
    rw [hi] at hri
    split at hy
    ·rename_i cs hx
     rw [hx] at hrx
     obtain ⟨hs,hy⟩:=Ar hy
     obtain ⟨hn,hy⟩:=hy
     exact AL (Uh h ho hu hs hri hrx hn hy)
    ·exact hy.elim
   ·exact hy.elim
  ·exact hy.elim
 ·rename_i t x ix ho
  have hrx:=ρ_sound h hg x
  have hri:=ρ_sound h hg ix
  split at hy
  ·rename_i hu
   split at hy
   ·rename_i k i hi
    rw [hi] at hri
    split at hy
    ·rename_i b hx
     rw [hx] at hrx
     obtain ⟨⟨h0,h1⟩,hy⟩:=hy
     exact AL ⟨_,hy,WS h ho hu hri hrx h0 h1⟩
    ·exact hy.elim
   ·exact hy.elim
  ·exact hy.elim
 ·rename_i t x lo hi mx ho
  have hrx:=ρ_sound h hg x
  split at hy
  ·rename_i hu
   cases mx with
   | some m=>exact hy.elim
   | none =>
     simp only at hy
     split at hy
     ·rename_i b hx
      rw [hx] at hrx
      obtain ⟨l,hy,hl⟩:=Nr h hg hy
      obtain ⟨r,hy,hr⟩:=Nr h hg hy
      obtain ⟨⟨h0,h1,h2⟩,hy⟩:=hy
      exact AL ⟨_,hy,WN h ho hu hrx hl hr h0 h1 h2⟩
     ·exact hy.elim
  ·rename_i e hu
   split at hy
   ·rename_i sz xs hx
    rw [hx] at hrx
    obtain ⟨⟨hs,hs0⟩,hy⟩:=Ar hy
    exact AL (Lk h hg ho hu hs hs0 (bx:=[]) trivial hrx hy)
   ·rename_i sz hx
    rw [hx] at hrx
    obtain ⟨⟨hs,hs0⟩,hy⟩:=Ar hy
    exact AL (Lk h hg ho hu hs hs0 (bx:=[]) (xs:=[]) trivial (A9.norm hrx) hy)
   ·rename_i sz xs hx
    rw [hx] at hrx
    obtain ⟨⟨hs,hs0⟩,hy⟩:=Ar hy
    exact AL (Lk h hg ho hu hs hs0 (bx:=[]) trivial hrx.1 hy)
   ·rename_i id n sz e' xs hx
    rw [hx] at hrx
    obtain ⟨⟨hs,hs0⟩,hy⟩:=Ar hy
    rcases hy.go with hy | hy
    ·obtain ⟨y,b,hK,hF,_,hh⟩:=I1 (x:=X) (G:=G) (a:=a) (K:=fun y b=>y = .list sz xs∧b = [(id,Ct.frow sz xs,n)]) hrx ⟨rfl,rfl⟩
     obtain ⟨rfl,rfl⟩:=hK
     exact AL (Lk h hg ho hu hs hs0 hF (hh.now h hF) hy)
    ·cases lo with
     | some q=>exact hy.elim
     | none =>
       cases mx with
       | some q=>exact hy.elim
       | none =>
         simp only at hy
         obtain ⟨r,hy,hr⟩:=Nr h hg hy
         obtain ⟨⟨h0,h2⟩,hy⟩:=hy
         exact AL ⟨_,hy,bd h ho hu hs hs0 hrx hr h0 h2⟩
   ·exact hy.elim
  ·exact hy.elim
 ·rename_i c ho
  split at hy
  ·rename_i fo hc
   split at hy
   ·rename_i f caps hf
    exact ak h hg hd ho hc hf hy
   ·rename_i f cs k id n rid rn hf
    split at hy <;> try exact hy.elim
    rename_i hr
    exact AL (Zi h hg ho hc hf hr hy)
   ·exact hy.elim
  ·rename_i hc
   split at hy
   ·rename_i x t hx ht
    have hce:c = ⟨.builtin .len,#[x],#[t]⟩:=by
     obtain ⟨callee,args,ts⟩:=c
     simp only at hc hx ht
     rw [hc,Xl hx,Xl ht]
    rw [hce] at ho
    have hrx:=ρ_sound h hg x
    split at hy
    ·rename_i hu
     split at hy
     ·rename_i hs; rw [hs] at hrx; exact hrx.elim
     ·rename_i s hs
      rw [hs] at hrx
      exact AL ⟨_,hy,aE h ho (Je hrx) hu⟩
     ·exact hy.elim
    ·rename_i e hu
     split at hy
     ·rename_i hs; rw [hs] at hrx; exact hrx.elim
     ·obtain ⟨sz,ys,hK,ad,c',hv,_⟩:=P7 h hrx hy
      exact AL ⟨_,hK,bP h ho ⟨ad,c',hv⟩ hu⟩
    ·exact hy.elim
   ·exact hy.elim
  ·rename_i hc
   split at hy
   ·rename_i x y hx
    have hce:c = ⟨.builtin .min,#[x,y],c.argTypes⟩:=by
     obtain ⟨callee,args,ts⟩:=c
     simp only at hc hx
     rw [hc,Ks hx]
    rw [hce] at ho
    split at hy
    ·rename_i k m hm
     have hrx:=ρ_sound h hg x
     rw [hm] at hrx
     split at hy
     ·rename_i k' n hn
      have hry:=ρ_sound h hg y
      rw [hn] at hry
      exact AL ⟨_,hy,(Ta h ho hrx hry).1 rfl⟩
     ·exact hy.elim
    ·exact hy.elim
   ·exact hy.elim
  ·rename_i hc
   split at hy
   ·rename_i x y hx
    have hce:c = ⟨.builtin .max,#[x,y],c.argTypes⟩:=by
     obtain ⟨callee,args,ts⟩:=c
     simp only at hc hx
     rw [hc,Ks hx]
    rw [hce] at ho
    split at hy
    ·rename_i k m hm
     have hrx:=ρ_sound h hg x
     rw [hm] at hrx
     split at hy
     ·rename_i k' n hn
      have hry:=ρ_sound h hg y
      rw [hn] at hry
      exact AL ⟨_,hy,(Ta h ho hrx hry).2 rfl⟩
     ·exact hy.elim
    ·exact hy.elim
   ·exact hy.elim
  ·rename_i hc
   split at hy
   ·rename_i x y t u hx ht
    have hce:t = u→c = ⟨.builtin .append,#[x,y],#[t,t]⟩:=by
     intro e
     subst e
     obtain ⟨callee,args,ts⟩:=c
     simp only at hc hx ht
     rw [hc,Ks hx,Ks ht]
    split at hy
    ·rename_i e hu
     obtain ⟨⟨htu,hs0,hz⟩,hy⟩:=Ar hy
     rw [hce htu] at ho
     obtain ⟨sz',ys,hK,ad,c',hv,hys⟩:=P7 h (ρ_sound h hg y) hy
     have hrx:=ρ_sound h hg x
     split at hK
     ·rename_i id n sz e' xs hxr
      obtain ⟨⟨he,hsz⟩,hK2⟩:=Ar hK
      subst he
      rw [hxr] at hrx
      obtain ⟨⟨h1,h2,h3⟩,hK3⟩:=hK2
      exact AL ⟨_,hK3,X6 h ho hu hrx hsz hz hv hys h1 h2 (by rw [hsz]; exact h3)⟩
     ·rename_i s hxr
      rw [hxr] at hrx
      have hrx:A9 (OS β X S) w (a.eval x) (.nil s):=hrx
      obtain ⟨⟨h1,h2,h3⟩,hK3⟩:=hK
      have hx0:∃ ad0,a.eval x = .slice ad0 0 0:=by
       generalize a.eval x = v at hrx
       cases hrx
       exact ⟨_,rfl⟩
      obtain ⟨ad0,hx0⟩:=hx0
      exact AL ⟨_,hK3,Oh h hd ho hu (xs:=[]) rfl hs0 hz hv hys (by simpa using h1) (by simpa using h2) h3 (.inl ⟨ad0,hx0,rfl⟩)⟩
     ·rename_i sz xs hxr
      obtain ⟨hsz,hK2⟩:=Ar hK
      rw [hxr] at hrx
      obtain ⟨⟨⟨h1,h2,h3⟩,h4⟩,hK3⟩:=hK2
      exact AL ⟨_,hK3,Oh h hd ho hu hsz (by rw [hsz]; exact hs0) hz hv hys h1 h2 (by rw [hsz]; exact h3) (.inr ⟨hrx.1,hrx.2,h4⟩)⟩
     ·exact hK.elim
    ·exact hy.elim
   ·exact hy.elim
  ·exact hy.elim
 ·rename_i t i ho
  have hrx:=ρ_sound h hg t
  split at hy
  ·rename_i xs hx
   rw [hx] at hrx
   split at hy
   ·rename_i y hyy
    exact AL ⟨_,hy,(Re h ho hrx hyy).1 _ rfl⟩
   ·rename_i id n hyy
    exact AL ⟨_,hy,(Re h ho hrx hyy).2 _ _ rfl⟩
   ·exact hy.elim
  ·exact hy.elim
 ·rename_i t ho
  split at hy
  ·exact AL ⟨_,hy,Ww h hd ho⟩
  ·exact hy.elim
 ·rename_i t x ix ok ho
  split at hy
  ·rename_i kt et hu
   unfold ZO at hy
   split at hy <;> try exact hy.elim
   rename_i id n es hx
   split at hy <;> try exact hy.elim
   rename_i q hq
   split at hy <;> try exact hy.elim
   rename_i kd hkq
   obtain ⟨⟨hku,hkk⟩,hy⟩:=hy
   split at hy <;> try exact hy.elim
   rename_i z hz
   obtain ⟨v,b,rfl,rfl,hy⟩:=hy.go
   have hd':=Xs h hg ho hu hx hq hkq hku hkk hz
   cases ok
   ·exact AL ⟨_,hy,by simpa using hd'⟩
   ·exact AL ⟨_,hy,by simpa using hd'⟩
  ·exact hy.elim
 ·rename_i t m k x ho
  split at hy
  ·rename_i kt et hu
   unfold cV at hy
   split at hy <;> try exact hy.elim
   rename_i id n es hm
   split at hy <;> try exact hy.elim
   rename_i q hq
   split at hy <;> try exact hy.elim
   rename_i y hyy
   split at hy <;> try exact hy.elim
   rename_i kd hkq
   obtain ⟨⟨hb,hku,hkk⟩,hy⟩:=hy
   exact AL ⟨_,hy,Yh h hg ho hu hm hq hyy hb hkq hku hkk⟩
  ·exact hy.elim
 ·exact hy.elim
theorem YR {t:TypeId} {cs:List D} {K:D→Prop} (hy:Z5 P t cs K):∃ x,K x:=by
 unfold Z5 at hy
 split at hy
 ·split at hy
  ·rw [BG] at hy
   exact ⟨_,(Ar hy).2⟩
  ·exact hy.elim
 ·split at hy
  ·exact ⟨_,hy⟩
  ·exact hy.elim
 ·exact hy.elim
theorem bV {op:BinOp} {k:IntKind} {m n:Int} {K:D→Prop} (hy:SY op k m n K):∃ x,K x:=by
 cases op <;> simp only [SY] at hy <;> first | exact hy.elim | exact ⟨_,hy⟩ | exact ⟨_,hy.2⟩
theorem dw {op:BinOp} {x y:ByteArray} {K:D→Prop} (hy:Y5 op x y K):∃ x,K x:=by
 cases op <;> simp only [Y5] at hy <;> first | exact hy.elim | exact ⟨_,hy⟩ | exact ⟨_,hy.2⟩
theorem ce:∀ (n:Nat) {t:TypeId} {xs ys:List D} {K:Bool→Prop},XL P n t xs ys K→∃ b,K b
 | 0,_,_,_,_,h=>h.elim
 | n + 1,t,xs,ys,K,h=>by
   unfold XL at h
   split at h
   ·split at h
    ·exact ⟨_,(Ar h).2⟩
    ·exact h.elim
   ·split at h
    ·exact ⟨_,h⟩
    ·exact h.elim
   ·split at h
    ·exact ⟨_,h⟩
    ·exact h.elim
   ·obtain ⟨_,h⟩:=h
    ·have key:∀ (l:List Field) (K:Bool→Prop),List.rec (motive:=fun _=>(Bool→Prop)→Prop) (fun K=>K true)
      (fun f _ ih K=>XL P n f.type ((xs.drop f.offset).take (AN P f.type)) ((ys.drop f.offset).take (AN P f.type)) fun a=>ih fun b=>K (a && b)) l K→∃ b,K b:=by
      intro l
      induction l with
      | nil=>intro K h; exact ⟨_,h⟩
      | cons f r ih =>
        intro K h
        obtain ⟨a,ha⟩:=ce n h
        obtain ⟨b,hb⟩:=ih _ ha
        exact ⟨_,hb⟩
     exact key _ _ h
   ·exact h.elim
theorem d4 {t:TypeId} {op:BinOp} {x y:D} {K:D→Prop} (hy:Yd P t op x y K):∃ x,K x:=by
 cases x <;> cases y <;> simp only [Yd] at hy
 case bool.bool =>
  split at hy
  ·cases op <;> first | exact hy.elim | exact ⟨_,hy⟩
  ·exact hy.elim
 case int.int k m k' n =>
  have sh:op = .shl∨op = .shr∨(op≠.shl∧op≠.shr):=by cases op <;> simp
  rcases sh with rfl | rfl | ⟨hs1,hs2⟩
  ·exact ⟨_,hy.2⟩
  ·exact ⟨_,hy.2⟩
  ·have hb':if k = k' then SY op k m n K else False:=by cases op <;> first | exact hy | exact absurd rfl hs1 | exact absurd rfl hs2
   exact bV (Ar hb').2
 case str.str=>exact dw hy
 case agg.agg =>
  obtain ⟨_,hy⟩:=hy
  cases op <;> first | exact hy.elim | (obtain ⟨b,hb⟩:=ce 12 hy; exact ⟨_,hb⟩)
theorem eR {op:UnOp} {x:D} {K:D→Prop} (hy:e5 op x K):∃ x,K x:=by
 cases op <;> cases x <;> simp only [e5] at hy <;> exact ⟨_,hy⟩
theorem aa {r:RV} {K:Nat→List D→Prop} (hy:MG r K):∃ n xs,K n xs:=by
 cases r <;> simp only [MG] at hy
 case d x=>cases x <;> simp only at hy <;> exact ⟨_,_,hy⟩
 case lim=>exact ⟨_,_,hy⟩
 case row=>exact ⟨_,_,hy⟩
theorem eO {r:RV} {K:D→Bx→Prop} (hy:VX r K):∃ x b,K x b:=by
 cases r <;> simp only [VX] at hy <;> exact ⟨_,_,hy⟩
theorem Sw {σ:Nat→Nat→RV}:∀ {cs:List C} {K:List D→Bx→Prop},Ev σ cs K→∃ l b,K l b
 | [],K,h=>⟨_,_,h⟩
 | .d x :: r,K,h=>by
   have h:Ev σ r fun l b=>K (x :: l) b:=h
   obtain ⟨l,b,h⟩:=Sw h
   exact ⟨_,_,h⟩
 | .sl id n :: r,K,h=>by
   have h:VX (σ id n) fun x b=>Ev σ r fun l b'=>K (x :: l) (b++b'):=h
   obtain ⟨x,b,h⟩:=eO h
   obtain ⟨l,b',h⟩:=Sw h
   exact ⟨_,_,h⟩
 | .own _ _ _ :: r,K,h=>h.elim
theorem eA {σ:Nat→Nat→RV} {t:TypeId} {cs:List C} {K:GD→Prop} (hy:cS P σ t cs K):∃ e,K e∧e.av.guards = []:=by
 unfold cS at hy
 split at hy
 ·split at hy
  ·rw [BG] at hy
   obtain ⟨l,b,h⟩:=Sw (Ar hy).2
   exact ⟨_,h,rfl⟩
  ·exact hy.elim
 ·split at hy
  ·exact ⟨_,hy,rfl⟩
  ·exact ⟨_,hy,rfl⟩
  ·exact hy.elim
 ·exact hy.elim
theorem Yc (r:RV):(ar r).guards = []:=by cases r <;> rfl
theorem X1 {σ:Nat→Nat→RV} {ρ:Option (Nat × Bool)→Operand→RV} {g:Option (Nat × Bool)} {d n:Nat} {K:GD→Prop} (hh:KA o.op = true) (hy:yA P σ ρ g o d n K):∃ e,K e∧e.av.guards = []:=by
 unfold yA at hy
 split at hy
 all_goals (rename_i ho; try (rw [ho] at hh; simp [KA] at hh; done))
 ·exact ⟨_,hy,Yc _⟩
 ·split at hy
  ·exact ⟨_,hy,rfl⟩
  ·split at hy
   ·split at hy
    ·exact ⟨_,hy,rfl⟩
    ·exact hy.elim
   ·split at hy
    ·exact ⟨_,hy,rfl⟩
    ·exact ⟨_,hy,rfl⟩
    ·exact hy.elim
   ·exact hy.elim
  ·exact hy.elim
 ·split at hy
  ·exact ⟨_,hy,rfl⟩
  ·exact eA hy
  ·obtain ⟨x,hx⟩:=YR hy; exact ⟨_,hx,rfl⟩
  ·obtain ⟨_,y,_,hy⟩:=hy.go
   obtain ⟨x,hx⟩:=YR hy; exact ⟨_,hx,rfl⟩
  ·exact hy.elim
 ·split at hy
  ·exact ⟨_,hy,rfl⟩
  ·split at hy
   ·exact ⟨_,hy,rfl⟩
   ·obtain ⟨x,hx⟩:=d4 hy; exact ⟨_,hx,rfl⟩
   ·exact hy.elim
  ·exact hy.elim
 ·split at hy
  ·exact ⟨_,hy,rfl⟩
  ·obtain ⟨x,hx⟩:=eR hy; exact ⟨_,hx,rfl⟩
  ·exact hy.elim
 ·split at hy
  ·split at hy
   ·split at hy
    ·exact ⟨_,hy,rfl⟩
    ·exact ⟨_,hy,rfl⟩
    ·exact hy.elim
   ·split at hy
    ·exact ⟨_,hy,rfl⟩
    ·exact ⟨_,hy,rfl⟩
    ·exact hy.elim
   ·split at hy <;> try exact hy.elim
    split at hy
    ·exact ⟨_,hy,rfl⟩
    ·exact ⟨_,hy,rfl⟩
    ·exact hy.elim
   ·exact hy.elim
  ·exact hy.elim
 ·split at hy
  ·split at hy
   ·have hy:=(Ar hy).2
    split at hy
    ·exact ⟨_,hy,rfl⟩
    ·exact ⟨_,hy,rfl⟩
    ·rw [BG] at hy; exact ⟨_,hy,rfl⟩
    ·exact ⟨_,hy,rfl⟩
    ·exact hy.elim
   ·exact hy.elim
  ·exact hy.elim
 ·split at hy
  ·split at hy
   ·split at hy
    ·exact ⟨_,hy,rfl⟩
    ·obtain ⟨x,hx⟩:=YR hy; exact ⟨_,hx,rfl⟩
    ·exact hy.elim
   ·exact hy.elim
  ·exact hy.elim
 ·rw [ho] at hh
  split at hy
  ·rename_i hc; simp [KA,hc] at hh
  ·split at hy
   ·split at hy
    ·split at hy
     ·exact ⟨_,hy,rfl⟩
     ·exact ⟨_,hy,rfl⟩
     ·exact hy.elim
    ·split at hy
     ·exact ⟨_,hy,rfl⟩
     ·obtain ⟨_,_,hx⟩:=aa hy; exact ⟨_,hx,rfl⟩
    ·exact hy.elim
   ·exact hy.elim
  ·rename_i hc; simp [KA,hc] at hh
  ·rename_i hc; simp [KA,hc] at hh
  ·rename_i hc; simp [KA,hc] at hh
  ·exact hy.elim
 ·exact hy.elim
end
end Go.Abs
