/- M3 -/
import Derived.Test.YthchnhoalhbkcaaGreatDoorM2
import Derived.Tactics
import Derived.Shelf.Sort.Plain
import Derived.Shelf.Slices.In.SortNone
import Derived.Sort.OwnSortedInts
import Derived.Shelf.Slices.CompactI
import Derived.Lib.SlKept
import Derived.Lib.SliceRun
import Derived.ChangeSlices
import Derived.OpenShut
set_option linter.unusedVariables false
set_option linter.unusedSimpArgs false
namespace Go.Abs
open Go.RowKit (Below)
section
variable {P:Program} {X:Cx} {G:Nat->Prop} {β:Nat->Value} {S:AS} {a:Act} {w:World} {o:Oper}
theorem Za{α:Type}{x:Array α}{p:α}(h:x.toList=[p]):x=#[p]:=by cases x;simp_all
theorem KW{α:Type}{x:Array α}{p q:α}(h:x.toList=[p,q]):x=#[p,q]:=by cases x;simp_all
theorem AH{K:GJ->Prop}(h:∃e,K e/\CW P X G S a w o e):∃e,K e/\(G4 S e.homes=true->CW P X G S a w o e):=by
 obtain⟨e,h1,h2⟩:=h;exact⟨e,h1,λ_=>h2⟩
set_option maxHeartbeats 2000000 in
theorem lz(h:SimB X G β S a w){g:Option (Nat×Bool)}(hg:BN g a){d:Nat}(hd:d<S.length){K:GJ->Prop}(hy:yA P (σOf S) (ρOf S) g o d (Af S d).ver K) :
 ∃e,K e/\(G4 S e.homes=true->CW P X G S a w o e):=by
 unfold yA at hy;split at hy
 ·rename_i x ho
  exact AH ⟨_,hy,Yy h hg (.inl ho)⟩
 ·rename_i x ho
  split at hy
  ·rename_i hn
   split at hy
   ·rename_i e _
    obtain⟨h1,hy⟩:=Ak hy;exact AH ⟨_,hy,jn h hd ho hn h1⟩
   ·exact hy.elim
  ·exact AH ⟨_,hy,Yy h hg (.inr ho)⟩
 ·rename_i t x y ho
  split at hy
  ·rename_i hc;have h1:=ρ_sound h hg (.tmp t);rw[hc]at h1;exact h1.elim
  ·rename_i c hc
   split at hy
   ·rename_i h1
    split at hy
    ·rename_i b2 h2
     exact AH ⟨_,hy,cY h hg ho hc h1 h2⟩
    ·exact hy.elim
   ·rename_i b1 h1
    split at hy
    ·rename_i h2
     exact AH ⟨_,hy,cZ h hg ho hc h1 h2⟩
    ·rename_i b2 h2
     exact AH ⟨_,hy,gF h hg ho hc h1 h2⟩
    ·exact hy.elim
   ·exact hy.elim
  ·exact hy.elim
 ·rename_i T x ho
  exact AH (jk h hg hd ho hy)
 ·rename_i T ho
  split at hy
  ·rename_i l hl
   exact AH (cQ h hd ho hl hy)
  ·exact hy.elim
 ·rename_i t parts ho
  split at hy
  ·rename_i fields hu
   split at hy
   ·rename_i zd hzd
    obtain⟨hall,hy⟩:=Ak hy;split at hy
    ·exact AH (WE h hg ho hu hzd hall hy)
    ·rcases hy.go with hy|hy
     ·exact AH (WE h hg ho hu hzd hall hy)
     ·exact AH (aO h hg ho hu hzd hall hy)
   ·exact hy.elim
  ·exact hy.elim
 ·rename_i t n parts ho
  split at hy
  ·rename_i e hu
   exact AH (VQ h hg hd ho hu hy)
  ·exact hy.elim
 ·rename_i t x y ho
  split at hy
  ·rename_i e hu
   split at hy
   ·rename_i k l hl
    split at hy
    ·rename_i k' c hc
     obtain⟨⟨h1,h2⟩,hy⟩:=Ak hy;exact AH (gD h hg hd ho hu h1 h2 hl hc hy)
    ·exact hy.elim
   ·exact hy.elim
  ·exact hy.elim
 ·rename_i f first caps ho
  split at hy
  ·rename_i hf
   split at hy
   ·exact AH (Yx h hg ho hf hy)
   ·rcases hy.go with hy|hy
    ·exact AH (Yx h hg ho hf hy)
    ·exact AH (cU h hg ho hf hy)
  ·exact hy.elim
 ·rename_i t x ho
  have hr:=ρ_sound h hg x;split at hy
  ·rename_i hx;rw[hx]at hr;exact hr.elim
  ·rename_i id n off cs hx
   rw[hx]at hr;exact AH (aR h ho hr hy)
  ·rename_i cs hx
   rw[hx]at hr;exact AH (aP h ho hr hy)
  ·rename_i id n sz e xs i off hx
   rw[hx]at hr;exact AH (aQ h ho hr hy)
  ·exact hy.elim
 ·rename_i t p x ho
  obtain⟨hi,hy⟩:=Ak hy;obtain⟨i,hi⟩:=Option.isSome_iff_exists.1 hi;have hr:=ρ_sound h hg p;split at hy
  ·rename_i id n off cs hx
   rw[hx]at hr;exact AH (Zs h hg ho hr hi hy)
  ·rename_i id n sz e xs k off hx
   rw[hx]at hr;exact AH (Zr h hg ho hr hi hy)
  ·exact hy.elim
 ·rename_i x ho
  have hr:=ρ_sound h hg x;split at hy
  ·rename_i id n off cs hx
   rw[hx]at hr;have hb:=MA (tm:=a.tmps) hr;obtain⟨_,_,b,_,hv⟩:=hr;exact AH ⟨_,hy,KX h ho (.inl ⟨_,hv⟩) hb.1 hb.2⟩
  ·rename_i cs hx
   rw[hx]at hr;have hb:=MA (tm:=a.tmps) hr;obtain⟨b,off,hv,_⟩:=Xx hr;exact AH ⟨_,hy,KX h ho (.inl ⟨_,hv⟩) hb.1 hb.2⟩
  ·rename_i f cs hx
   rw[hx]at hr;have hb:=MA (tm:=a.tmps) hr;obtain⟨vs,hv,_⟩:=fG hr;exact AH ⟨_,hy,KX h ho (.inr ⟨f,vs,hv⟩) hb.1 hb.2⟩
  ·rename_i id n sz e xs i off hx
   rw[hx]at hr;have hb:=MA (tm:=a.tmps) hr;obtain⟨_,_,b,m,cap,_,hv⟩:=hr;exact AH ⟨_,hy,KX h ho (.inl ⟨_,hv⟩) hb.1 hb.2⟩
  ·exact hy.elim
 ·rename_i op t x y U ho
  have hrx:=ρ_sound h hg x;have hry:=ρ_sound h hg y;split at hy
  ·rename_i hp;rw[hp]at hrx;exact hrx.elim
  ·rename_i p hp
   rw[hp]at hrx;split at hy
   ·rename_i hq;rw[hq]at hry;exact hry.elim
   ·rename_i q hq
    rw[hq]at hry;exact AH (cR h ho hrx hry hy)
   ·exact hy.elim
  ·exact hy.elim
 ·rename_i op t x ho
  have hrx:=ρ_sound h hg x;split at hy
  ·rename_i hp;rw[hp]at hrx;exact hrx.elim
  ·rename_i p hp
   rw[hp]at hrx;exact AH (gG h ho hrx hy)
  ·exact hy.elim
 ·rename_i s t x ho
  have hrx:=ρ_sound h hg x;split at hy
  ·rename_i ds hs
   split at hy
   ·rename_i k ht
    split at hy
    ·rename_i hx;rw[hx]at hrx;exact hrx.elim
    ·rename_i k' n hx
     rw[hx]at hrx;exact AH ⟨_,hy,Zl h ho ht ⟨_,hs⟩ hrx⟩
    ·exact hy.elim
   ·rename_i ht
    split at hy
    ·rename_i hx;rw[hx]at hrx;exact hrx.elim
    ·rename_i b hx
     rw[hx]at hrx;exact AH ⟨_,hy,Zm h ho ht ⟨_,hs⟩ hrx⟩
    ·exact hy.elim
   ·rename_i e ht
    split at hy<;>try exact hy.elim
    rename_i he
    split at hy
    ·rename_i hx;rw[hx]at hrx;exact hrx.elim
    ·rename_i b hx
     rw[hx]at hrx;exact AH ⟨_,hy,WF h ho ht he ⟨_,hs⟩ hrx⟩
    ·exact hy.elim
   ·exact hy.elim
  ·exact hy.elim
 ·rename_i s x f ho
  split at hy
  ·rename_i fields hu
   split at hy
   ·rename_i fd hf
    obtain⟨hz,hy⟩:=Ak hy;exact AH (WG h hg ho hu hf hz hy)
   ·exact hy.elim
  ·exact hy.elim
 ·rename_i s x f ho
  have hrx:=ρ_sound h hg x;split at hy
  ·rename_i fields hu
   split at hy
   ·rename_i fd hf
    split at hy
    ·rename_i hx;rw[hx]at hrx;exact hrx.elim
    ·rename_i cs hx
     rw[hx]at hrx;exact AH (cS h ho hu hf hrx hy)
    ·exact hy.elim
   ·exact hy.elim
  ·exact hy.elim
 ·rename_i t x ix ho
  have hrx:=ρ_sound h hg x;have hri:=ρ_sound h hg ix;split at hy
  ·rename_i e hu
   split at hy
   ·rename_i k i hi
    rw[hi]at hri;split at hy
    ·rename_i sz xs hx
     rw[hx]at hrx;obtain⟨⟨hs,hs0⟩,hy⟩:=Ak hy;exact AH (T9 h ho hu hs hs0 hri hrx hy)
    ·rename_i sz xs hx
     rw[hx]at hrx;obtain⟨⟨hs,hs0⟩,hy⟩:=Ak hy;exact AH (T9 h ho hu hs hs0 hri hrx.1 hy)
    ·rename_i id n sz e' xs hx
     rw[hx]at hrx;obtain⟨hs,hy⟩:=Ak hy;obtain⟨⟨h0,h1⟩,hy⟩:=hy;exact AH ⟨_,hy,WJ h ho hu hri hs hrx h0 h1⟩
    ·exact hy.elim
   ·exact hy.elim
  ·rename_i n e hu
   split at hy
   ·rename_i k i hi
    rw[hi]at hri;split at hy
    ·rename_i cs hx
     rw[hx]at hrx;obtain⟨hs,hy⟩:=Ak hy;obtain⟨hn,hy⟩:=hy;exact AH (WI h ho hu hs hri hrx hn hy)
    ·rename_i id m off cs hx
     rw[hx]at hrx;obtain⟨hs,hy⟩:=Ak hy;obtain⟨⟨h0,hn⟩,hy⟩:=hy;exact AH ⟨_,hy,VR h ho hu hs hri hrx h0 hn⟩
    ·exact hy.elim
   ·exact hy.elim
  ·exact hy.elim
 ·rename_i t x ix ho
  have hrx:=ρ_sound h hg x;have hri:=ρ_sound h hg ix;split at hy
  ·rename_i n e hu
   split at hy
   ·rename_i k i hi
    rw[hi]at hri;split at hy
    ·rename_i cs hx
     rw[hx]at hrx;obtain⟨hs,hy⟩:=Ak hy;obtain⟨⟨h0,hn⟩,hy⟩:=hy;exact AH (WH h ho hu hri hrx hs h0 hn hy)
    ·exact hy.elim
   ·exact hy.elim
  ·rename_i hu
   split at hy
   ·rename_i k i hi
    rw[hi]at hri;split at hy
    ·rename_i b hx
     rw[hx]at hrx;obtain⟨⟨h0,h1⟩,hy⟩:=hy;exact AH ⟨_,hy,Zn h ho hu hri hrx h0 h1⟩
    ·exact hy.elim
   ·exact hy.elim
  ·exact hy.elim
 ·rename_i t x lo hi mx ho
  have hrx:=ρ_sound h hg x;split at hy
  ·rename_i hu
   cases mx with
   | some m=>exact hy.elim
   | none =>
     simp only at hy;split at hy
     ·rename_i b hx
      rw[hx]at hrx;obtain⟨l,hy,hl⟩:=O7 h hg hy;obtain⟨r,hy,hr⟩:=O7 h hg hy;obtain⟨⟨h0,h1,h2⟩,hy⟩:=hy;exact AH ⟨_,hy,Zq h ho hu hrx hl hr h0 h1 h2⟩
     ·exact hy.elim
  ·rename_i e hu
   split at hy
   ·rename_i sz xs hx
    rw[hx]at hrx;obtain⟨⟨hs,hs0⟩,hy⟩:=Ak hy;exact AH (Ma h hg ho hu hs hs0 (bx:=[]) trivial hrx hy)
   ·rename_i sz hx
    rw[hx]at hrx;obtain⟨⟨hs,hs0⟩,hy⟩:=Ak hy;exact AH (Ma h hg ho hu hs hs0 (bx:=[]) (xs:=[]) trivial (Aw.norm hrx) hy)
   ·rename_i sz xs hx
    rw[hx]at hrx;obtain⟨⟨hs,hs0⟩,hy⟩:=Ak hy;exact AH (Ma h hg ho hu hs hs0 (bx:=[]) trivial hrx.1 hy)
   ·rename_i id n sz e' xs hx
    rw[hx]at hrx;obtain⟨⟨hs,hs0⟩,hy⟩:=Ak hy;rcases hy.go with hy|hy
    ·obtain⟨y,b,hK,hF,_,hh⟩:=Jn (x:=X) (G:=G) (a:=a) (K:=λy b=>y=.list sz xs/\b=[(id,B6.frow sz xs,n)]) hrx ⟨rfl,rfl⟩;obtain⟨rfl,rfl⟩:=hK;exact AH (Ma h hg ho hu hs hs0 hF (hh.now h hF) hy)
    ·cases lo with
     | some q=>exact hy.elim
     | none =>
       cases mx with
       | some q=>exact hy.elim
       | none =>
         simp only at hy;obtain⟨r,hy,hr⟩:=O7 h hg hy;obtain⟨⟨h0,h2⟩,hy⟩:=hy;exact AH ⟨_,hy,jl h ho hu hs hs0 hrx hr h0 h2⟩
   ·exact hy.elim
  ·exact hy.elim
 ·rename_i c ho
  split at hy
  ·rename_i fo hc
   split at hy
   ·rename_i f caps hf
    split at hy
    ·exact Yw h hg hd ho hc hf hy
    ·rename_i k id n cl hfd
     rcases hy.go with hy|hy
     ·split at hy<;>try exact hy.elim
      exact AH (cX h hg ho hc hf hfd hy)
     ·exact Yw h hg hd ho hc hf hy
   ·rename_i f cs k id n rid rn hf
    split at hy<;>try exact hy.elim
    rename_i hr
    exact AH (da h hg ho hc hf hr hy)
   ·exact hy.elim
  ·rename_i hc
   split at hy
   ·rename_i x t hx ht
    have hce:c=⟨.builtin .len,#[x],#[t]⟩:=by
     obtain⟨callee,args,ts⟩:=c;simp only at hc hx ht;rw[hc,Za hx,Za ht]
    rw[hce]at ho;have hrx:=ρ_sound h hg x;split at hy
    ·rename_i hu
     split at hy
     ·rename_i hs;rw[hs]at hrx;exact hrx.elim
     ·rename_i s hs
      rw[hs]at hrx;exact AH ⟨_,hy,gC h ho (Ks hrx) hu⟩
     ·exact hy.elim
    ·rename_i e hu
     split at hy
     ·rename_i hs;rw[hs]at hrx;exact hrx.elim
     ·obtain⟨sz,ys,hK,ad,c',hv,_⟩:=Ry h hrx hy;exact AH ⟨_,hK,jm h ho ⟨ad,c',hv⟩ hu⟩
    ·exact hy.elim
   ·exact hy.elim
  ·rename_i hc
   split at hy
   ·rename_i x y hx
    have hce:c=⟨.builtin .min,#[x,y],c.argTypes⟩:=by
     obtain⟨callee,args,ts⟩:=c;simp only at hc hx;rw[hc,KW hx]
    rw[hce]at ho;split at hy
    ·rename_i k m hm
     have hrx:=ρ_sound h hg x;rw[hm]at hrx;split at hy
     ·rename_i k' n hn
      have hry:=ρ_sound h hg y;rw[hn]at hry;exact AH ⟨_,hy,(Vp h ho hrx hry).1 rfl⟩
     ·exact hy.elim
    ·exact hy.elim
   ·exact hy.elim
  ·rename_i hc
   split at hy
   ·rename_i x y hx
    have hce:c=⟨.builtin .max,#[x,y],c.argTypes⟩:=by
     obtain⟨callee,args,ts⟩:=c;simp only at hc hx;rw[hc,KW hx]
    rw[hce]at ho;split at hy
    ·rename_i k m hm
     have hrx:=ρ_sound h hg x;rw[hm]at hrx;split at hy
     ·rename_i k' n hn
      have hry:=ρ_sound h hg y;rw[hn]at hry;exact AH ⟨_,hy,(Vp h ho hrx hry).2 rfl⟩
     ·exact hy.elim
    ·exact hy.elim
   ·exact hy.elim
  ·rename_i hc
   split at hy
   ·rename_i x y t u hx ht
    have hce:t=u->c=⟨.builtin .append,#[x,y],#[t,t]⟩:=by
     intro e;subst e;obtain⟨callee,args,ts⟩:=c;simp only at hc hx ht;rw[hc,KW hx,KW ht]
    split at hy
    ·rename_i e hu
     obtain⟨⟨htu,hs0,hz⟩,hy⟩:=Ak hy;rw[hce htu]at ho;obtain⟨sz',ys,hK,ad,c',hv,hys⟩:=Ry h (ρ_sound h hg y) hy;have hrx:=ρ_sound h hg x;split at hK
     ·rename_i id n sz e' xs hxr
      obtain⟨⟨he,hsz⟩,hK2⟩:=Ak hK;subst he;rw[hxr]at hrx;obtain⟨⟨h1,h2,h3⟩,hK3⟩:=hK2;exact AH ⟨_,hK3,aN h ho hu hrx hsz hz hv hys h1 h2 (by rw[hsz];exact h3)⟩
     ·rename_i s hxr
      rw[hxr]at hrx;have hrx:Aw (OS β X S) w (a.eval x) (.nil s):=hrx;obtain⟨⟨h1,h2,h3⟩,hK3⟩:=hK
      have hx0:∃ad0,a.eval x=.slice ad0 0 0:=by
       generalize a.eval x=v at hrx
       cases hrx
       exact⟨_,rfl⟩
      obtain⟨ad0,hx0⟩:=hx0;exact AH ⟨_,hK3,PG h hd ho hu (xs:=[]) rfl hs0 hz hv hys (by simpa using h1) (by simpa using h2) h3 (.inl ⟨ad0,hx0,rfl⟩)⟩
     ·rename_i sz xs hxr
      obtain⟨hsz,hK2⟩:=Ak hK;rw[hxr]at hrx;obtain⟨⟨⟨h1,h2,h3⟩,h4⟩,hK3⟩:=hK2;exact AH ⟨_,hK3,PG h hd ho hu hsz (by rw[hsz];exact hs0) hz hv hys h1 h2 (by rw[hsz];exact h3) (.inr ⟨hrx.1,hrx.2,h4⟩)⟩
     ·exact hK.elim
    ·exact hy.elim
   ·exact hy.elim
  ·exact hy.elim
 ·rename_i t i ho
  have hrx:=ρ_sound h hg t;split at hy
  ·rename_i xs hx
   rw[hx]at hrx;split at hy
   ·rename_i y hyy
    exact AH ⟨_,hy,(T8 h ho hrx hyy).1 _ rfl⟩
   ·rename_i id n hyy
    exact AH ⟨_,hy,(T8 h ho hrx hyy).2 _ _ rfl⟩
   ·exact hy.elim
  ·exact hy.elim
 ·rename_i t ho
  split at hy
  ·exact AH ⟨_,hy,Zo h hd ho⟩
  ·exact hy.elim
 ·rename_i t x ix ok ho
  split at hy
  ·rename_i kt et hu
   unfold fu at hy;split at hy<;>try exact hy.elim
   rename_i id n es hx
   split at hy<;>try exact hy.elim
   rename_i q hq
   split at hy<;>try exact hy.elim
   rename_i kd hkq
   obtain⟨⟨hku,hkk⟩,hy⟩:=hy;split at hy<;>try exact hy.elim
   rename_i z hz
   obtain⟨v,b,rfl,rfl,hy⟩:=hy.go;have hd':=aS h hg ho hu hx hq hkq hku hkk hz
   cases ok
   ·exact AH ⟨_,hy,by simpa using hd'⟩
   ·exact AH ⟨_,hy,by simpa using hd'⟩
  ·exact hy.elim
 ·rename_i t m k x ho
  split at hy
  ·rename_i kt et hu
   unfold mJ at hy;split at hy<;>try exact hy.elim
   rename_i id n es hm
   split at hy<;>try exact hy.elim
   rename_i q hq
   split at hy<;>try exact hy.elim
   rename_i y hyy
   split at hy<;>try exact hy.elim
   rename_i kd hkq
   obtain⟨⟨hb,hku,hkk⟩,hy⟩:=hy;exact AH ⟨_,hy,aT h hg ho hu hm hq hyy hb hkq hku hkk⟩
  ·exact hy.elim
 ·exact hy.elim
theorem dz{t:TypeId}{cs:List D}{K:D->Prop}(hy:bA P t cs K):∃x,K x:=by
 unfold bA at hy;split at hy
 ·split at hy
  ·rw[BI]at hy;exact⟨_,(Ak hy).2⟩
  ·exact hy.elim
 ·split at hy
  ·exact⟨_,hy⟩
  ·exact hy.elim
 ·exact hy.elim
theorem iX{op:BinOp}{k:IntKind}{m n:Int}{K:D->Prop}(hy:Ws op k m n K):∃x,K x:=by
 cases op<;>simp only[Ws]at hy<;>first|exact hy.elim|exact⟨_,hy⟩|exact⟨_,hy.2⟩
theorem mE{op:BinOp}{x y:ByteArray}{K:D->Prop}(hy:ef op x y K):∃x,K x:=by
 cases op<;>simp only[ef]at hy<;>first|exact hy.elim|exact⟨_,hy⟩|exact⟨_,hy.2⟩
theorem jt:∀(n:Nat){t:TypeId}{xs ys:List D}{K:Bool->Prop},aV P n t xs ys K->∃b,K b
 | 0,_,_,_,_,h=>h.elim
 | n+1,t,xs,ys,K,h=>by
   unfold aV at h;split at h
   ·split at h
    ·exact⟨_,(Ak h).2⟩
    ·exact h.elim
   ·split at h
    ·exact⟨_,h⟩
    ·exact h.elim
   ·split at h
    ·exact⟨_,h⟩
    ·exact h.elim
   ·obtain⟨_,h⟩:=h
    ·have key:∀(l:List Field)(K:Bool->Prop),List.rec (motive:=λ_=>(Bool->Prop)->Prop) (λK=>K true)
      (λf _ ih K=>aV P n f.type ((xs.drop f.offset).take (AB P f.type)) ((ys.drop f.offset).take (AB P f.type)) λa=>ih λb=>K (a&&b)) l K->∃b,K b:=by
      intro l
      induction l with
      | nil=>intro K h;exact⟨_,h⟩
      | cons f r ih =>
        intro K h;obtain⟨a,ha⟩:=jt n h;obtain⟨b,hb⟩:=ih _ ha;exact⟨_,hb⟩
     exact key _ _ h
   ·exact h.elim
theorem lJ{t:TypeId}{op:BinOp}{x y:D}{K:D->Prop}(hy:aj P t op x y K):∃x,K x:=by
 cases x<;>cases y<;>simp only[aj]at hy
 case bool.bool =>
  split at hy
  ·cases op<;>first|exact hy.elim|exact⟨_,hy⟩
  ·exact hy.elim
 case int.int k m k' n =>
  have sh:op=.shl\/op=.shr\/(op≠.shl/\op≠.shr):=by cases op<;>simp
  rcases sh with rfl|rfl|⟨hs1,hs2⟩
  ·exact⟨_,hy.2⟩
  ·exact⟨_,hy.2⟩
  ·have hb':if k=k' then Ws op k m n K else False:=by cases op<;>first|exact hy|exact absurd rfl hs1|exact absurd rfl hs2
   exact iX (Ak hb').2
 case str.str=>exact mE hy
 case agg.agg =>
  obtain⟨_,hy⟩:=hy
  cases op<;>first|exact hy.elim|(obtain⟨b,hb⟩:=jt 12 hy;exact⟨_,hb⟩)
theorem oz{op:UnOp}{x:D}{K:D->Prop}(hy:oy op x K):∃x,K x:=by
 cases op<;>cases x<;>simp only[oy]at hy<;>exact⟨_,hy⟩
theorem gZ{r:RV}{K:Nat->List D->Prop}(hy:Oa r K):∃n xs,K n xs:=by
 cases r<;>simp only[Oa]at hy
 case d x=>cases x<;>simp only at hy<;>exact⟨_,_,hy⟩
 case lim=>exact⟨_,_,hy⟩
 case row=>exact⟨_,_,hy⟩
theorem nF{r:RV}{K:D->Bx->Prop}(hy:Yn r K):∃x b,K x b:=by
 cases r<;>simp only[Yn]at hy<;>exact⟨_,_,hy⟩
theorem Re{σ:Nat->Nat->RV}:∀{cs:List C}{K:List D->Bx->Prop},Dv σ cs K->∃l b,K l b
 | [],K,h=>⟨_,_,h⟩
 | .d x :: r,K,h=>by
   have h:Dv σ r λl b=>K (x :: l) b:=h;obtain⟨l,b,h⟩:=Re h;exact⟨_,_,h⟩
 | .sl id n :: r,K,h=>by
   have h:Yn (σ id n) λx b=>Dv σ r λl b'=>K (x :: l) (b++b'):=h;obtain⟨x,b,h⟩:=nF h;obtain⟨l,b',h⟩:=Re h;exact⟨_,_,h⟩
 | .own _ _ _ :: r,K,h=>h.elim
theorem nU{σ:Nat->Nat->RV}{t:TypeId}{cs:List C}{K:GJ->Prop}(hy:lD P σ t cs K):∃e,K e/\e.av.guards=[]:=by
 unfold lD at hy;split at hy
 ·split at hy
  ·rw[BI]at hy;have hy:=(Ak hy).2;split at hy
   ·obtain⟨l,b,h⟩:=Re hy;exact⟨_,h,rfl⟩
   ·rcases hy.go with hy|hy
    ·obtain⟨l,b,h⟩:=Re hy;exact⟨_,h,rfl⟩
    ·exact⟨_,(Ak hy).2,rfl⟩
  ·exact hy.elim
 ·split at hy
  ·exact⟨_,hy,rfl⟩
  ·exact⟨_,hy,rfl⟩
  ·exact hy.elim
 ·exact hy.elim
theorem ai(r:RV):(back r).guards=[]:=by cases r<;>rfl
theorem cz{σ:Nat->Nat->RV}{ρ:Option (Nat×Bool)->Operand->RV}{g:Option (Nat×Bool)}{d n:Nat}{K:GJ->Prop}(hh:Lz o.op=true)(hy:yA P σ ρ g o d n K):∃e,K e/\e.av.guards=[]:=by
 unfold yA at hy;split at hy
 all_goals (rename_i ho;try (rw[ho]at hh;simp[Lz]at hh;done))
 ·exact⟨_,hy,ai _⟩
 ·split at hy
  ·exact⟨_,hy,rfl⟩
  ·split at hy
   ·split at hy
    ·exact⟨_,hy,rfl⟩
    ·exact hy.elim
   ·split at hy
    ·exact⟨_,hy,rfl⟩
    ·exact⟨_,hy,rfl⟩
    ·exact hy.elim
   ·exact hy.elim
  ·exact hy.elim
 ·split at hy
  ·exact⟨_,hy,rfl⟩
  ·exact nU hy
  ·obtain⟨x,hx⟩:=dz hy;exact⟨_,hx,rfl⟩
  ·obtain⟨_,y,_,hy⟩:=hy.go;obtain⟨x,hx⟩:=dz hy;exact⟨_,hx,rfl⟩
  ·exact hy.elim
 ·split at hy
  ·exact⟨_,hy,rfl⟩
  ·split at hy
   ·exact⟨_,hy,rfl⟩
   ·obtain⟨x,hx⟩:=lJ hy;exact⟨_,hx,rfl⟩
   ·exact hy.elim
  ·exact hy.elim
 ·split at hy
  ·exact⟨_,hy,rfl⟩
  ·obtain⟨x,hx⟩:=oz hy;exact⟨_,hx,rfl⟩
  ·exact hy.elim
 ·split at hy
  ·split at hy
   ·split at hy
    ·exact⟨_,hy,rfl⟩
    ·exact⟨_,hy,rfl⟩
    ·exact hy.elim
   ·split at hy
    ·exact⟨_,hy,rfl⟩
    ·exact⟨_,hy,rfl⟩
    ·exact hy.elim
   ·split at hy<;>try exact hy.elim
    split at hy
    ·exact⟨_,hy,rfl⟩
    ·exact⟨_,hy,rfl⟩
    ·exact hy.elim
   ·exact hy.elim
  ·exact hy.elim
 ·split at hy
  ·split at hy
   ·have hy:=(Ak hy).2;split at hy
    ·exact⟨_,hy,rfl⟩
    ·exact⟨_,hy,rfl⟩
    ·rw[BI]at hy;exact⟨_,hy,rfl⟩
    ·exact⟨_,hy,rfl⟩
    ·exact hy.elim
   ·exact hy.elim
  ·exact hy.elim
 ·split at hy
  ·split at hy
   ·split at hy
    ·exact⟨_,hy,rfl⟩
    ·obtain⟨x,hx⟩:=dz hy;exact⟨_,hx,rfl⟩
    ·exact hy.elim
   ·exact hy.elim
  ·exact hy.elim
 ·rw[ho]at hh;split at hy
  ·rename_i hc;simp[Lz,hc]at hh
  ·split at hy
   ·split at hy
    ·split at hy
     ·exact⟨_,hy,rfl⟩
     ·exact⟨_,hy,rfl⟩
     ·exact hy.elim
    ·split at hy
     ·exact⟨_,hy,rfl⟩
     ·obtain⟨_,_,hx⟩:=gZ hy;exact⟨_,hx,rfl⟩
    ·exact hy.elim
   ·exact hy.elim
  ·rename_i hc;simp[Lz,hc]at hh
  ·rename_i hc;simp[Lz,hc]at hh
  ·rename_i hc;simp[Lz,hc]at hh
  ·exact hy.elim
 ·exact hy.elim
end
theorem WR(v:AV)(K:AV->Prop):We v K=K v:=by
 cases v<;>simp only[We,O2]
 grind
theorem Y3(b:B6)(K:B6->Prop):Zv b K=K b:=by
 cases b<;>simp only[Zv,O2]
theorem EL:∀(S:AS)(K:AS->Prop),Es S K=K S
 | [],_=>rfl
 | ⟨_,_,_⟩ :: r,K=>by rw[Es,EL r];simp only[WR,Y3,O2]
theorem KC:∀(l:List Nat)(K:List Nat->Prop),NB l K=K l
 | [],_=>rfl
 | x :: r,K=>by rw[NB,KC r]
theorem Rw:∀(S:AS)(d:Nat)(v:AV)(K:AS->Prop),QT S d v K=K (Fb S d v)
 | [],_,_,_=>rfl
 | ⟨_,_,_⟩ :: _,0,_,_=>rfl
 | s :: r,d+1,v,K=>by rw[QT,Rw r];rfl
theorem X2:∀(S:AS)(d:Nat)(b:B6)(n:Nat)(K:AS->Prop),Wh S d b n K=K (AQ S d b n)
 | [],_,_,_,_=>rfl
 | ⟨_,_,_⟩ :: _,0,_,_,_=>rfl
 | s :: r,d+1,b,n,K=>by rw[Wh,X2 r];rfl
theorem My:∀(b:Bx)(S:AS)(K:AS->Prop),OZ b S K=K (AZ b S)
 | [],_,_=>rfl
 | (id,b,n) :: r,S,K=>by rw[OZ,O2,Y3,X2,My r];rfl
theorem YX(dst:Option Nat)(e:GJ)(S:AS)(K:AS->Prop):gm dst e S K=K (Ym dst e S):=by
 obtain⟨v,bx,hm⟩:=e
 cases dst with
 | none=>simp only[gm,My];rfl
 | some d=>simp only[gm,WR,My,Rw];rfl
theorem NW:∀(S:AS)(d:Nat)(K:Nat->Prop),UW S d K->d<S.length/\K (Af S d).ver
 | [],_,_,h=>h.elim
 | ⟨_,_,_⟩ :: _,0,_,h=>⟨by simp,h⟩
 | s :: r,d+1,K,h=>by
   obtain⟨h1,h2⟩:=NW r d K h;exact⟨by simpa using h1,h2⟩
theorem TA:∀(l:List Oper)(j:Nat),Vq l j=(l[j]?).bind (·.dst)
 | [],_=>rfl
 | _ :: _,0=>rfl
 | _ :: r,j+1=>by simp only[Vq,qD];exact TA r j
section
variable {P:Program} {X:Cx} {G:Nat->Prop} {β:Nat->Value} {S:AS} {a:Act} {w:World} {o:Oper}
def UY(X:Cx)(G:Nat->Prop)(S:AS)(a:Act)(e:GJ)(v:Value)(w':World):Prop :=
 ∃β',SimB X G β' (AZ e.bx S) a w'/\JB β' (AG (AZ e.bx S)) (OS β' X (AZ e.bx S)) w' a.tmps v e.av/\∀u∈e.av.guards,G u
def iO(P:Program)(ops:Array Oper)(X:Cx)(G:Nat->Prop)(S:AS)(a:Act)(w:World)(o:Oper)(e:GJ):Prop :=
 (Region.wanted o (yielded ops a.tmps)=true /\
  ((∃v w',(execOp a.eval o).run P w=.ok (.value v) w'/\UY X G S a e v w') \/
   (∃w',(execOp a.eval o).run P w=.ok .skip w'/\UY X G S a e undef w') \/
   (∃f args,(execOp a.eval o).run P w=.ok (.enter f args) w/\Calls P f args w λe' w'=>∃v,e'=.returned v/\UY X G S a e v w'))) \/
 (Region.wanted o (yielded ops a.tmps)=false/\UY X G S a e undef w)
theorem R6.toG{e:GJ}{v:Value}{w':World}(h:R6 X G S a e v w'):UY X G S a e v w':=by
 obtain⟨β',h1,h2,h3⟩:=h;exact⟨β',h1,h2,by rw[h3];simp⟩
theorem R6.toU{e:GJ}{v:Value}{w':World}{t:Nat}{want:Bool}(ht:G t)(hw:a.tmps[t]?=some (.bool want))(h:R6 X G S a e v w'):UY X G S a ⟨.under t want e.av,e.bx,[]⟩ v w':=by
 obtain⟨β',h1,h2,h3⟩:=h;refine⟨β',h1,⟨λ_=>h2,λhn=>absurd hw hn⟩,?_⟩;intro u hu;simp only[AV.guards,h3,rR]at hu;grind
theorem CW.to{ops:Array Oper}{e e':GJ}(hw:Region.wanted o (yielded ops a.tmps)=true)(hd:CW P X G S a w o e)
 (hp:∀v w',R6 X G S a e v w'->UY X G S a e' v w'):iO P ops X G S a w o e':=by
 refine .inl ⟨hw,?_⟩;rcases hd with⟨v,w',h1,h2⟩|⟨w',h1,h2⟩|⟨f,args,h1,h2⟩
 ·grind
 ·grind
 ·exact .inr (.inr ⟨f,args,h1,h2.mono λe' w' ⟨v,h3,h4⟩=>⟨v,h3,hp v w' h4⟩⟩)
theorem Yu{x:Option Nat}{K:Nat->Prop}(h:dK x K):K (x.getD 0):=by cases x<;>exact h
theorem X1:∀(S:AS)(t:Nat)(v:AV),(Af S t).av=v->Fb S t v=S
 | [],_,_,_=>rfl
 | ⟨x,b,n⟩ :: r,0,v,h=>by simp only[Af]at h;subst h;rfl
 | s :: r,t+1,v,h=>by rw[Fb,X1 r t v h]
theorem ZJ{t:Nat}{x:AV}(h:SimB X G β S a w)(hx:(Af S t).av=x)(hne:x≠.any):∃v,a.tmps[t]?=some v/\JB β (AG S) (OS β X S) w a.tmps v x:=by
 have hlt:t<S.length:=by
  rcases qw t S.length with h'|h'
  ·exact h'
  ·rw[Mt S t h']at hx;exact absurd hx.symm hne
 have hlt':t<a.tmps.size:=by rw[h.len];exact hlt
 refine⟨a.tmps[t],by simp[hlt'],?_⟩;have:=h.slots t a.tmps[t] (by grind);grind
def gh(lk:List Nat):Nat->Nat->AS->Option Bool->Prop
 | 0,_,_,_=>False
 | n+1,t,S,r=>t∈lk/\((∃b,(Af S t).av=.d (.bool b)/\r=some b) \/
     (∃t' w' b r',(Af S t).av=.under t' w' (.d (.bool b))/\gh lk n t' S r'/\(r'=some w'/\r=some b\/r'≠some w'/\r=none)) \/
     ∃t' w',(Af S t).av=.under t' w' .bot/\r=none)
theorem N3{S:AS}{t:Nat}{mk:Bool->AV}{b:Bool}{K:AS->Option Bool->Prop}(hb:(Af S t).av=mk b):Yp S t mk b K↔K S (some b):=by
 unfold Yp
 cases b<;>simp only[Vh]<;>rw[Rw,X1 S t _ hb]
theorem S9{lk:List Nat}:∀{n t:Nat}{S:AS}{K:AS->Option Bool->Prop},gA lk n t S K->∃r,K S r/\gh lk n t S r
 | 0,_,_,_,h=>h.elim
 | n+1,t,S,K,h=>by
   unfold gA at h;obtain⟨hlk,h⟩:=Ak h;have hlk:t∈lk:=by grind
   split at h
   ·rename_i b hb
    exact⟨some b,(N3 hb).1 h,hlk,.inl ⟨b,hb,rfl⟩⟩
   ·rename_i t' w' b hb
    obtain⟨r,h,hd⟩:=S9 h
    have yes:r=some w'->Yp S t (λb=>.under t' w' (.d (.bool b))) b K->∃r,K S r/\gh lk (n+1) t S r:=λe h =>
     ⟨some b,(N3 (mk:=λb=>.under t' w' (.d (.bool b))) hb).1 h,hlk,.inr (.inl ⟨t',w',b,r,hb,hd,.inl ⟨e,rfl⟩⟩)⟩
    have no:r≠some w'->K S none->∃r,K S r/\gh lk (n+1) t S r:=λe h=>⟨none,h,hlk,.inr (.inl ⟨t',w',b,r,hb,hd,.inr ⟨e,rfl⟩⟩)⟩
    match r,w',h,yes,no with
    | none,_,h,_,no=>exact no (by simp) h
    | some true,true,h,yes,_=>exact yes rfl h
    | some true,false,h,_,no=>exact no (by simp) h
    | some false,true,h,_,no=>exact no (by simp) h
    | some false,false,h,yes,_=>exact yes rfl h
   ·rename_i t' w' hb
    exact⟨none,h,hlk,.inr (.inr ⟨t',w',hb,rfl⟩)⟩
   ·grind
theorem Zi{lk:List Nat}:∀{n t:Nat}{S:AS}{r:Option Bool}{K:AS->Option Bool->Prop},gh lk n t S r->K S r->gA lk n t S K
 | 0,_,_,_,_,h,_=>h.elim
 | n+1,t,S,r,K,⟨hlk,h⟩,hK=>by
   unfold gA;rw[qf (by grind)];rcases h with⟨b,hb,rfl⟩|⟨t',w',b,r',hb,hd,h⟩|⟨t',w',hb,rfl⟩
   rotate_left 2
   ·grind
   ·rw[hb];exact(N3 hb).2 hK
   ·rw[hb];refine Zi hd ?_;rcases h with⟨rfl,rfl⟩|⟨hne,rfl⟩
    ·cases w'<;>exact(N3 (mk:=λb=>.under t' _ (.d (.bool b))) hb).2 hK
    ·grind
theorem gh.tmp{lk:List Nat}(h:SimB X G β S a w):∀{n t:Nat}{r:Option Bool},gh lk n t S r->(∀b,r=some b->a.tmps[t]?=some (.bool b))/\(r=none->∀b,a.tmps[t]?≠some (.bool b))
 | 0,_,_,hd=>hd.elim
 | n+1,t,r,⟨_,hd⟩=>by
   rcases hd with⟨b,hb,rfl⟩|⟨t',w',b,r',hb,hd,hr⟩|⟨t',w',hb,rfl⟩
   rotate_left 2
   ·obtain⟨v,hv,hrep⟩:=ZJ h hb (by simp);refine⟨λb' e=>(by cases e),λ_ b'=>?_⟩;by_cases hw:a.tmps[t']?=some (.bool w')
    ·exact(hrep.1 hw).elim
    ·rw[hv,hrep.2 hw];intro hh;cases hh
   ·obtain⟨v,hv,hr⟩:=ZJ h hb (by simp);exact⟨λb' e=>by cases e;rw[hv,Ec hr],λe=>by cases e⟩
   ·obtain⟨v,hv,hrep⟩:=ZJ h hb (by simp);obtain⟨h1,h2⟩:=gh.tmp h hd;rcases hr with⟨rfl,rfl⟩|⟨hne,rfl⟩
    ·exact⟨λb' e=>by cases e;rw[hv,Ec (hrep.1 (h1 _ rfl))],λe=>by cases e⟩
    ·refine⟨λb' e=>(by cases e),λ_ b'=>?_⟩
     have hnw:a.tmps[t']?≠some (.bool w'):=by
      cases r' with
      | none=>exact h2 rfl w'
      | some c=>rw[h1 c rfl];intro hh;cases hh;exact hne rfl
     rw[hv,hrep.2 hnw];intro hh;cases hh
theorem JD{want:Bool}{r:Option Bool}{go skip:Prop}:Wt want r go skip↔(r=some want/\go)\/(r≠some want/\skip):=by
 unfold Wt;grind
theorem XI{g:Option (Nat×Bool)}{d n:Nat}{K:GJ->Prop}(hy:yS P S g o d n K):(∃x,o.op=.move x/\jH (ev S x)=true/\K ⟨ev S x,[],[]⟩)\/(Ld S o=false/\yA P (σOf S) (ρOf S) g o d n K):=by
 unfold yS at hy;unfold Ld;split at hy
 ·rename_i x ho
  split at hy
  ·rename_i id v k he
   exact .inl ⟨x,ho,by rw[he];rfl,by rw[he];exact hy⟩
  ·rename_i id v he
   exact .inl ⟨x,ho,by rw[he];rfl,by rw[he];exact hy⟩
  ·rename_i h1 h2
   refine .inr ⟨?_,hy⟩
   cases he:ev S x with
   | ptr id v k=>grind
   | sl id v=>grind
   | _=>rfl
 ·grind
theorem TI{x:AV}(h:jH x=true):x.guards=[]:=by
 cases x with
 | ptr=>rfl
 | sl=>rfl
 | _=>cases h
theorem XJ(h:SimB X G β S a w){g:Option (Nat×Bool)}(hg:BN g a){d:Nat}(hd:d<S.length){K:GJ->Prop}(hy:yS P S g o d (Af S d).ver K) :
 ∃e,K e/\(G4 S e.homes=true->CW P X G S a w o e):=by
 rcases XI hy with⟨x,ho,he,hK⟩|⟨_,hy⟩
 ·refine⟨_,hK,λ_=>AK h (v:=a.eval x) (by simp[execOp,ho]) ?_ (TI he)⟩
  cases x with
  | tmp t =>
    simp only[ev]at he ⊢;simp only[Act.eval];by_cases ht:t<a.tmps.size
    ·have:=h.slots t a.tmps[t] (by simp[ht]);simp_all
    ·have e:Af S t=cF:=Mt S t (by rw[<-h.len];exact Nat.le_of_not_lt ht);rw[e]at he;cases he
  | const c=>simp only[ev]at he;unfold cN at he;split at he<;>cases he
  | global q=>simp only[ev]at he;split at he<;>cases he
  | func f=>cases he
 ·exact lz h hg hd hy
theorem c9{g:Option (Nat×Bool)}{d n:Nat}{K:GJ->Prop}(hh:Lz o.op=true)(hy:yS P S g o d n K):∃e,K e/\e.av.guards=[]:=by
 rcases XI hy with⟨x,ho,he,hK⟩|⟨_,hy⟩
 ·exact⟨_,hK,TI he⟩
 ·exact cz hh hy
theorem YF{ops:Array Oper}{done:List Nat}(h:SimB X (·∈done) β S a w){K:AS->GJ->Prop}(hy:ij P ops.toList done o S K) :
 ∃e,K S e/\iO P ops X (·∈done) S a w o e:=by
 unfold ij at hy;split at hy
 ·rename_i hgd
  obtain⟨hd,hy⟩:=NW _ _ _ (Yu hy);obtain⟨e,hK,hdo⟩:=XJ h (g:=none) (λ_ _ e=>by cases e) hd hy;obtain⟨hok,hK⟩:=Ak hK;exact⟨e,hK,(hdo hok).to (by simp[Region.wanted,hgd]) λv w' hp=>hp.toG⟩
 ·rename_i j want hgd
  split at hy
  ·grind
  ·rename_i t ht
   obtain⟨hdone,hy⟩:=Ak hy;have htd:t∈done:=by grind
   have hyl:yielded ops a.tmps j=(match a.tmps[t]? with|some (.bool b)=>some b|_=>none):=by
    have:(ops[j]?).bind (·.dst)=some t:=by rw[<-ht,TA];simp
    simp only[yielded,this,qd];grind
   have hwant:Region.wanted o (yielded ops a.tmps)=true↔a.tmps[t]?=some (.bool want):=by
    simp only[Region.wanted,hgd,hyl];grind
   split at hy
   ·rename_i hh
    obtain⟨hd,hy⟩:=NW _ _ _ (Yu hy);by_cases hw:a.tmps[t]?=some (.bool want)
    ·obtain⟨e,hK,hdo⟩:=XJ h (g:=some (t,want)) (λ_ _ e=>by cases e;exact hw) hd hy;split at hK
     ·exact⟨_,hK,(hdo rfl).to (hwant.2 hw) λv w' hp=>hp.toU htd hw⟩
     ·grind
    ·obtain⟨e,hK,hgs⟩:=c9 hh hy;split at hK
     ·rename_i v
      refine⟨_,hK,.inr ⟨by rw[Bool.eq_false_iff];exact λhh=>hw (hwant.1 hh),β,h,⟨λhh=>absurd hh hw,λ_=>rfl⟩,?_⟩⟩;intro u hu;simp only at hgs;simp only[AV.guards,hgs,rR]at hu;grind
     ·grind
   ·obtain⟨r,hy,hdec⟩:=S9 hy;obtain⟨hs1,hs2⟩:=hdec.tmp h;rcases JD.1 hy with⟨hrw,hgo⟩|⟨hne,hK⟩
    ·have hbt:=hs1 want hrw;obtain⟨hd,hy⟩:=NW _ _ _ (Yu hgo);obtain⟨e,hK,hdo⟩:=XJ h (g:=some (t,want)) (λ_ _ e=>by cases e;exact hbt) hd hy;obtain⟨hok,hK⟩:=Ak hK;exact⟨e,hK,(hdo hok).to (hwant.2 hbt) λv w' hp=>hp.toG⟩
    ·have hnw:a.tmps[t]?≠some (.bool want):=by
      cases r with
      | none=>grind
      | some c=>grind
     refine⟨_,hK,.inr ⟨?_,β,h,⟨λhh=>absurd hh hnw,λ_=>rfl⟩,λu hu=>by simp[AV.guards]at hu;rw[hu];exact htd⟩⟩;grind
theorem SimB.weaken{G':Nat->Prop}(h:SimB X G β S a w)(hG:∀t,G t->G' t):SimB X G' β S a w :=
 { h with gds:=λt u hu=>hG u (h.gds t u hu) }
theorem iO.step{ops:Array Oper}{e:GJ}{K:Act->World->Prop}{Q:Exit->Act->World->Prop}{done:List Nat}(hd:∀d,o.dst=some d->d ∉ done)(h:iO P ops X (·∈done) S a w o e)
 (hK:∀β' a' w',SimB X (·∈DK o.dst++done) β' (Ym o.dst e S) a' w'->K a' w') :
 if Region.wanted o (yielded ops a.tmps)then o.wp P a w K Q else K (a.put o.dst undef) w:=by
 have Ef:∀v w',UY X (·∈done) S a e v w'->K (a.put o.dst v) w':=by
  intro v w' hp;obtain⟨β',h1,h2,h3⟩:=hp;refine hK β' _ w' ?_
  cases hdst:o.dst with
  | none=>exact h1
  | some d=>exact(h1.put (hd d hdst) h2 h3).weaken λt ht=>by simp[ht]
 rcases h with⟨hw,h⟩|⟨hw,h⟩
 ·rw[qf hw];unfold Oper.wp;rcases h with⟨v,w',h1,h2⟩|⟨w',h1,h2⟩|⟨f,args,h1,h2⟩
  ·rw[h1];exact Ef v w' h2
  ·rw[h1];exact Ef undef w' h2
  ·rw[h1];exact h2.mono λe' w' ⟨v,h3,h4⟩=>by grind
 ·grind
theorem TU{pos:Bool}{x:Operand}(h:TT P o=some (pos,x)):∃op t y u e,o.op=.binOp op t x y u/\Na y=true/\o.guard=none/\P.underlying t=some (.slice e)/\(op=.eql/\pos=true\/op=.neq/\pos=false):=by
 unfold TT at h;grind
theorem Zp(h:SimB X G β S a w){pos:Bool}{x:Operand}(ht:TT P o=some (pos,x)){K:Bool->Prop}(hy:Oa (ρOf S none x) λ_ xs=>mP xs K) :
 ∃b,K b/\CW P X G S a w o ⟨.d (.bool (b==pos)),[],[]⟩:=by
 obtain⟨op,t,y,u,e,ho,hn,_,hu,hop⟩:=TU ht;obtain⟨sz,xs,hK,ad,c,hv,hrest⟩:=Ry h (ρ_sound h (g:=none) (λ_ _ e=>by cases e) x) hy;have ey:=O6 hn;have hev:a.eval y=.slice none 0 0:=by rw[ey];rfl
 refine⟨ad.isNone,hK.go _ (λhne=>?_),?_⟩
 ·obtain⟨ad',news,rfl,_⟩:=hrest.resolve_left hne;rfl
 ·have heq:(Op.equalIn 10000 t (.slice ad xs.length c) (.slice none 0 0)).run P w=.ok ad.isNone w:=by
   have key:∀m,(Op.equalIn (m+1) t (.slice ad xs.length c) (.slice none 0 0)).run P w=.ok ad.isNone w:=by
    intro m
    cases ad with
    | none=>simp[Op.equalIn,run_underlying hu]
    | some q=>simp[Op.equalIn,run_underlying hu]
   exact key 9999
  refine AK h (v:=.bool (ad.isNone==pos)) ?_ (.bool _) rfl;rcases hop with⟨rfl,rfl⟩|⟨rfl,rfl⟩
  ·simp[execOp,ho,hv,hev,eqGuard,binOp,Op.equal,Op.maxDepth,heq]
  ·simp[execOp,ho,hv,hev,eqGuard,binOp,Op.equal,Op.maxDepth,heq]
theorem SK{ops:Array Oper}{Q:Exit->Act->World->Prop}:∀{l:List Oper}{done:List Nat}{S:AS}{β:Nat->Value}{a:Act}{w:World}{K:AS->Prop},
 oe P ops.toList done l S K->SimB X (·∈done) β S a w->(∀β' S' a' w' (done':List Nat),K S'->SimB X (·∈done') β' S' a' w'->Q .normal a' w')->wpList P ops Q l a w
 | [],done,S,β,a,w,K,hy,h,hQ=>wpList_nil (hQ β S a w done hy h)
 | o :: r,done,S,β,a,w,K,hy,h,hQ=>by
   obtain⟨hnd,hy⟩:=Ak hy
   have hd:∀d,o.dst=some d->d ∉ done:=by
    intro d hd hm;rw[hd]at hnd;simp[DK]at hnd;exact hnd hm
   cases ht:TT P o with
   | some q =>
     obtain⟨pos,x⟩:=q;simp only[ht]at hy;obtain⟨b,hK,hdo⟩:=Zp h ht hy;rw[YX,KC]at hK;obtain⟨_,_,_,_,_,_,_,hgd,_⟩:=TU ht;have hok:iO P ops X (·∈done) S a w o ⟨.d (.bool (b==pos)),[],[]⟩:=hdo.to (by simp[Region.wanted,hgd]) λv w' hp=>hp.toG;exact wpList_step λK' hK'=>hok.step hd λβ' a' w' h'=>hK' _ _ (SK hK h' hQ)
   | none =>
     simp only[ht]at hy;obtain⟨e,hK,hok⟩:=YF h hy;rw[YX,KC]at hK;exact wpList_step λK' hK'=>hok.step hd λβ' a' w' h'=>hK' _ _ (SK hK h' hQ)
def Mj(s:Sl):Sl:=match s with
 | ⟨.under _ _ _,b,n⟩=>⟨.any,b,n⟩
 | s=>s
theorem Xm:∀(S:AS)(K:AS->Prop),plain S K=K (S.map Mj)
 | [],_=>rfl
 | s :: r,K=>by
   rw[plain,Xm r];obtain⟨v,b,n⟩:=s
   cases v<;>rfl
theorem C9:∀(S:AS)(i:Nat),Af (S.map Mj) i=Mj (Af S i)
 | [],_=>rfl
 | _ :: _,0=>rfl
 | _ :: r,i+1=>C9 r i
theorem Ju(s:Sl):(Mj s).box=s.box:=by obtain⟨v,b,n⟩:=s;cases v<;>rfl
theorem VC(s:Sl):(Mj s).ver=s.ver:=by obtain⟨v,b,n⟩:=s;cases v<;>rfl
theorem SimB.plain(h:SimB X G β S a w):SimB X (λ_=>False) β (S.map Mj) a w:=by
 have hO:OS β X (S.map Mj)=OS β X S:=by funext b;simp only[OS,C9,Ju]
 have hv:AG (S.map Mj)=AG S:=by funext i;simp only[AG,C9,VC]
 refine⟨by simp[h.len],h.df,h.below,h.hbase,h.o₀,h.rs,?_,?_,?_,?_,?_,?_⟩
 ·intro t v ht;rw[hO,hv,C9];have:=h.slots t v ht;generalize Af S t=s at this ⊢;obtain⟨x,b,n⟩:=s
  cases x<;>first|exact this|trivial
 ·intro i;rw[hO,hv,C9,Ju];exact h.boxes i
 ·intro i b;rw[C9,Ju];exact h.mine i b
 ·intro i j b;rw[C9,C9,Ju,Ju];exact h.inj i j b
 ·intro t u hu;rw[C9]at hu;generalize Af S t=s at hu;obtain⟨x,b,n⟩:=s
  cases x<;>simp[Mj,AV.guards]at hu
 ·intro i;rw[C9,Ju,VC];exact h.ini i
theorem Y0{x y:D}{K:Prop}(h:jv x y K):K/\(x.one=true->y.one=true)/\∀(O:Nat->Prop)(w:World)(u:Value),Aw O w u x->Aw O w u y:=by
 unfold jv at h;split at h
 ·rename_i s
  obtain⟨h,hK⟩:=h;rcases h with rfl|rfl
  ·grind
  ·refine⟨hK,λ_=>rfl,λO w u h=>?_⟩
   cases h
   exact .emp _ _ _
 ·grind
theorem jw{x y:D}{K:Prop}(h:jv x y K):jv x y True:=by
 unfold jv at h ⊢;grind
def pO(v v':Nat->Nat)(cs cs':List C):Prop:=cs.length=cs'.length/\∀(β:Nat->Value)(O:Nat->Prop)(w:World)(j:Nat)(u:Value) c c',cs[j]?=some c->cs'[j]?=some c'->BQ β v O w u c->BQ β v' O w u c'
theorem La{v v':Nat->Nat}{K:Prop}:∀{cs cs':List C},Iq v v' cs cs' K->K/\pO v v' cs cs'
 | [],[],h=>⟨h,rfl,λ_ _ _ j u c c' hc=>by simp at hc⟩
 | [],_ :: _,h=>h.elim
 | .d x :: r,[],h=>h.elim
 | .sl _ _ :: r,[],h=>h.elim
 | .own _ _ _ :: r,[],h=>h.elim
 | .d x :: r,.d y :: q,h=>by
   obtain⟨h,ho,hx⟩:=Y0 (show jv x y (Iq v v' r q K)from h);obtain⟨h1,h2,h3⟩:=La h;refine⟨h1,by simp[h2],λβ O w j u c c' hc hc' hr=>?_⟩
   cases j with
   | zero=>simp at hc hc';subst hc;subst hc';exact⟨hx O w u hr.1,ho hr.2⟩
   | succ j=>exact h3 β O w j u c c' (by simpa using hc) (by grind) hr
 | .sl id n :: r,.sl id' n' :: q,h=>by
   have h:if id=id'/\n=v id/\n'=v' id then Iq v v' r q K else False:=h
   obtain⟨⟨e0,e1,e2⟩,h'⟩:=Ak h;obtain⟨h1,h2,h3⟩:=La h';subst e0;refine⟨h1,by simp[h2],λβ O w j u c c' hc hc' hr=>?_⟩
   cases j with
   | zero=>simp at hc hc';subst hc;subst hc';exact⟨ru e2,λ_=>hr.2 e1⟩
   | succ j=>exact h3 β O w j u c c' (by simpa using hc) (by grind) hr
 | .d _ :: _,.sl _ _ :: _,h=>h.elim
 | .d _ :: _,.own _ _ _ :: _,h=>h.elim
 | .sl _ _ :: _,.d _ :: _,h=>h.elim
 | .sl _ _ :: _,.own _ _ _ :: _,h=>h.elim
 | .own _ _ _ :: _,.d _ :: _,h=>h.elim
 | .own _ _ _ :: _,.sl _ _ :: _,h=>h.elim
 | .own _ _ _ :: _,.own _ _ _ :: _,h=>h.elim
theorem Mg{v v':Nat->Nat}{K:Prop}:∀{cs cs':List C},Iq v v' cs cs' K->Iq v v' cs cs' True
 | [],[],_=>trivial
 | [],_ :: _,h=>h.elim
 | .d x :: r,[],h=>h.elim
 | .sl _ _ :: r,[],h=>h.elim
 | .own _ _ _ :: r,[],h=>h.elim
 | .d x :: r,.d y :: q,h=>by
   have h:jv x y (Iq v v' r q K):=h;show jv x y (Iq v v' r q True);unfold jv at h ⊢;split at h
   ·exact⟨h.1,Mg h.2⟩
   ·exact⟨h.1,Mg h.2⟩
 | .sl id n :: r,.sl id' n' :: q,h=>by
   have h:if id=id'/\n=v id/\n'=v' id then Iq v v' r q K else False:=h
   obtain⟨h1,h2⟩:=Ak h;show if id=id'/\n=v id/\n'=v' id then Iq v v' r q True else False
   rw[qf h1];exact Mg h2
 | .d _ :: _,.sl _ _ :: _,h=>h.elim
 | .d _ :: _,.own _ _ _ :: _,h=>h.elim
 | .sl _ _ :: _,.d _ :: _,h=>h.elim
 | .sl _ _ :: _,.own _ _ _ :: _,h=>h.elim
 | .own _ _ _ :: _,.d _ :: _,h=>h.elim
 | .own _ _ _ :: _,.sl _ _ :: _,h=>h.elim
 | .own _ _ _ :: _,.own _ _ _ :: _,h=>h.elim
theorem TL{v v':Nat->Nat}{y y':AV}{K:Prop}(h:NZ v v' y y' K) :
 K/\∀(β:Nat->Value)(O:Nat->Prop)(w:World)(tm:Array Value)(u:Value),JB β v O w tm u y->JB β v' O w tm u y':=by
 cases y'<;>simp only[NZ]at h
 case any=>exact⟨h,λ_ _ _ _ _ _=>trivial⟩
 case d y =>
  split at h
  ·obtain⟨h,_,h1⟩:=Y0 h;exact⟨h,λ_ O w _ u hr=>h1 O w u hr⟩
  ·obtain⟨rfl,h⟩:=h;exact⟨h,λ_ _ _ _ _ hr=>hr.1⟩
  ·grind
 case lim sz xs=>obtain⟨rfl,h⟩:=h;exact⟨h,λ_ _ _ _ _ hr=>hr⟩
 case ptr id n o =>
  split at h
  ·rename_i id' n' o'
   obtain⟨⟨rfl,h1,h2⟩,rfl,h3⟩:=Ak h;exact⟨h3,λ_ _ _ _ _ hr=>⟨ru h2,λ_=>hr.2 h1⟩⟩
  ·grind
 case sl id n =>
  split at h
  ·rename_i id' n'
   obtain⟨⟨rfl,h1,h2⟩,h3⟩:=Ak h;exact⟨h3,λ_ _ _ _ _ hr=>⟨ru h2,λ_=>hr.2 h1⟩⟩
  ·grind
 case cc k xs' =>
  split at h
  ·rename_i k' xs
   obtain⟨rfl,hh⟩:=Ak h;obtain⟨h1,h2,h3⟩:=La hh;refine⟨h1,λβ O w tm u hr=>?_⟩;obtain⟨vs,hv,hl,hr⟩:=hr;refine⟨vs,hv,by rw[hl,h2],λi u' c hu hc=>?_⟩;grind
  ·grind
theorem bD{v v':Nat->Nat}{y y':AV}{K:Prop}(h:NZ v v' y y' K):NZ v v' y y' True:=by
 cases y'<;>simp only[NZ]at h ⊢
 case d y =>
  split at h
  ·exact jw h
  all_goals grind
 case lim sz xs=>exact⟨h.1,trivial⟩
 case ptr id n o =>
  grind
 case sl id n =>
  grind
 case cc k xs' =>
  split at h
  ·obtain⟨h1,h2⟩:=Ak h;rw[qf h1];exact Mg h2
  ·grind
 all_goals first|exact h.elim|trivial
def pN(v v':Nat->Nat)(b b':B6):Prop:=b'=.none\/(b=b'/\∀cs,b≠.var cs)\/(∃sz e xs,b'=.frow sz xs/\b=.row sz e xs)\/∃cs cs',b=.var cs/\b'=.var cs'/\pO v v' cs cs'
theorem bC{v v':Nat->Nat}{b b':B6}{K:Prop}(h:fl v v' b b' K):K/\pN v v' b b':=by
 cases b'<;>simp only[fl]at h
 case none=>exact⟨h,.inl rfl⟩
 case frow sz xs =>
  rcases h.1 with h1|⟨e,h1⟩
  ·exact⟨h.2,.inr (.inl ⟨h1,λcs e=>by rw[h1]at e;cases e⟩)⟩
  ·exact⟨h.2,.inr (.inr (.inl ⟨sz,e,xs,rfl,h1⟩))⟩
 case fvar cs=>exact⟨h.2,.inr (.inl ⟨h.1,λcs e=>by rw[h.1]at e;cases e⟩)⟩
 case map es=>exact⟨h.2,.inr (.inl ⟨h.1,λcs e=>by rw[h.1]at e;cases e⟩)⟩
 case row sz e xs=>exact⟨h.2,.inr (.inl ⟨h.1,λcs e=>by rw[h.1]at e;cases e⟩)⟩
 case var cs' =>
  cases b <;>  simp_all
  case var cs =>
   obtain⟨h1,h2⟩:=La h;exact⟨h1,.inr (.inr (.inr ⟨cs,cs',rfl,rfl,h2⟩))⟩
theorem bE{b':B6}{n n':Nat}{K:Prop}(h:fm b' n n' K):K/\(n'=0->b'≠.none->n=0):=by
 unfold fm at h;grind
theorem V4{v v':Nat->Nat}:∀{S S':AS},bB v v' S S'->S.length=S'.length/\∀i,NZ v v' (Af S i).av (Af S' i).av True/\pN v v' (Af S i).box (Af S' i).box/\((Af S' i).ver=0->(Af S' i).box≠.none->(Af S i).ver=0)
 | [],[],_=>⟨rfl,λi=>⟨by simp[Af,cF,NZ],.inl rfl,λ_ h=>absurd rfl h⟩⟩
 | ⟨sv,sb,sn⟩ :: r,⟨sv',sb',sn'⟩ :: r',h=>by
   have h0:NZ v v' sv sv' (fm sb' sn sn' (fl v v' sb sb' (bB v v' r r'))):=h;have h1:=TL h0;have h1':=bE h1.1;have h2:=bC h1'.1;obtain⟨h3,h4⟩:=V4 h2.1;refine⟨by simp[h3],λi=>?_⟩
   cases i with
   | zero=>exact⟨bD h0,h2.2,h1'.2⟩
   | succ i=>exact h4 i
theorem SimB.le0(h:SimB X (λ_=>False) β S a w){S':AS}(hl:bB (λi=>(Af S i).ver) (λi=>(Af S' i).ver) S S'):SimB X (λ_=>False) β S' a w:=by
 obtain⟨hlen,hall⟩:=V4 hl;have hbx:=λi=>(hall i).2.1
 have hown:∀i,(Af S' i).box.owned=true->(Af S i).box.owned=true:=by
  intro i ho;rcases hbx i with h1|⟨h1,_⟩|⟨sz,e,xs,h1,_⟩|⟨cs,cs',h1,h2,_⟩
  ·rw[h1]at ho;cases ho
  ·grind
  ·rw[h1]at ho;cases ho
  ·rw[h1];rfl
 have hO:∀b,OS β X S' b->OS β X S b:=by
  intro b hb;rcases hb with hb|hb|⟨i,h1,h2⟩
  ·exact .inl hb
  ·exact .inr (.inl hb)
  ·exact .inr (.inr ⟨i,hown i h1,h2⟩)
 have hk:B0 (OS β X S) (OS β X S') w w:=B0.of_sub hO;have same:∀i,(λi=>(Af S i).ver) i<(λi=>(Af S i).ver) i\/((λi=>(Af S i).ver) i=(λi=>(Af S i).ver) i/\β i=β i):=λi=>.inr ⟨rfl,rfl⟩;refine⟨by rw[<-hlen];exact h.len,h.df,h.below,h.hbase,h.o₀,h.rs,?_,?_,?_,?_,?_,?_⟩
 ·intro t u ht;have hr:=(h.slots t u ht).mono hk (λ_=>.inr ⟨rfl,rfl⟩) (λ_ _=>rfl);exact(TL (hall t).1).2 β (OS β X S') w a.tmps u hr
 ·intro i
  have hno:(Af S' i).box.owned=false->(Af S i).box.owned=true->∀b,Ac (β i)=some b->¬OS β X S' b:=by
   intro h1 h2 b hb hh;have hm:=h.mine i b h2 hb;rcases hh with hh|hh|⟨j,h3,h4⟩
   ·have:=h.o₀ b hh;rcases hm.1 with h5|h5;omega;exact this.2 h5
   ·grind
   ·have:=h.inj j i b (hown j h3) h2 h4 hb;grind
  have hb:=h.boxes i;rcases hbx i with h1|⟨h1,h2⟩|⟨sz,e,xs,h1,h2⟩|⟨cs,cs',h1,h2,h3⟩
  ·rw[h1];trivial
  ·rw[<-h1]
   cases hB:(Af S i).box with
   | none=>trivial
   | var cs=>grind
   | row sz e xs =>
     rw[hB]at hb;obtain⟨k1,k2,vals,k3,k4⟩:=hb;exact⟨k1,k2,vals,k3,k4.mono hk⟩
   | fvar cs=>rw[hB]at hb;exact⟨hb.1.mono hk,hb.2⟩
   | frow sz xs=>rw[hB]at hb;exact Aw.mono hk hb
   | map es =>
     rw[hB]at hb;obtain⟨b,vs,clock,k1,k2,k3,k4⟩:=hb;exact⟨b,vs,clock,k1,k2,k3,λi e p hv hc=>⟨(k4 i e p hv hc).1.mono hk,(k4 i e p hv hc).2.1.mono hk,(k4 i e p hv hc).2.2⟩⟩
  ·rw[h1];have hno':=hno (by rw[h1];rfl) (by rw[h2];rfl);rw[h2]at hb;obtain⟨k1,k2,vals,k3,k4⟩:=hb;exact Xy k1 k2 k3 (k4.mono hk) hno'
  ·rw[h2];rw[h1]at hb;obtain⟨b,vals,T,k1,k2,k3,k4⟩:=hb;refine⟨b,vals,T,k1,k2,by rw[<-h3.1];exact k3,λj u c hu hc=>?_⟩;have hj:j<cs.length:=by grind
   exact h3.2 β _ w j u cs[j] c (P2 hj) hc ((k4 j u cs[j] hu (P2 hj)).mono hk (λ_=>.inr ⟨rfl,rfl⟩))
 ·intro i b hi;exact h.mine i b (hown i hi)
 ·intro i j b hi hj;exact h.inj i j b (hown i hi) (hown j hj)
 ·intro t u hu;have:=(hall t).1;generalize (Af S' t).av=y' at hu this
  cases y'<;>simp[AV.guards]at hu
  simp[NZ]at this
 ·intro i h0 hne;refine h.ini i ((hall i).2.2 h0 hne) λhh=>?_;rcases hbx i with h1|⟨h1,_⟩|⟨sz,e,xs,_,h1⟩|⟨cs,cs',h1,_,_⟩
  all_goals grind
theorem SimB.know(h:SimB X G β S a w){t:Nat}{x:D}(hx:∀v,a.tmps[t]?=some v->Aw (OS β X S) w v x):SimB X G β (Fb S t (.d x)) a w:=by
 have hb:∀i,(Af (Fb S t (.d x)) i).box=(Af S i).box/\(Af (Fb S t (.d x)) i).ver=(Af S i).ver:=by
  intro i;rw[C3];grind
 have hO:OS β X (Fb S t (.d x))=OS β X S:=by funext b;simp only[OS,hb]
 have hv:AG (Fb S t (.d x))=AG S:=by funext i;simp only[AG,hb]
 refine⟨by rw[Ir];exact h.len,h.df,h.below,h.hbase,h.o₀,h.rs,?_,?_,?_,?_,?_,?_⟩
 ·intro i v hi;rw[hO,hv,C3];split
  ·rename_i e;rw[e.1]at hi;exact hx v hi
  ·exact h.slots i v hi
 ·intro i;rw[hO,hv,(hb i).1];exact h.boxes i
 ·intro i b;rw[(hb i).1];exact h.mine i b
 ·intro i j b;rw[(hb i).1,(hb j).1];exact h.inj i j b
 ·intro i u hu;rw[C3]at hu;split at hu
  ·simp[AV.guards]at hu
  ·exact h.gds i u hu
 ·intro i;rw[(hb i).1,(hb i).2];exact h.ini i
theorem S8:∀{frs:List Nat}{S:AS}{K:AS->Prop},aL frs S K->SimB X (λ_=>False) β S a w->∃S',K S'/\SimB X (λ_=>False) β S' a w
 | [],S,K,hy,h=>⟨S,hy,h⟩
 | t :: r,S,K,hy,h=>by
   have hy:Yn (ρOf S none (.tmp t)) λx b=>OZ b S λS=>QT S t (.d x) λS=>aL r S K:=hy;obtain⟨y,b,hK,hF,_,hh⟩:=Jn (x:=X) (G:=λ_=>False) (a:=a) (ρ_sound h (g:=none) (λ_ _ e=>by cases e) (.tmp t)) hy;rw[My,Rw]at hK;have hr:=hh.now h hF;refine S8 hK ((hF.run h).1.know λv hv=>?_);have:a.eval (.tmp t)=v:=by simp[Act.eval,qI,hv]
   grind
theorem WQ:∀{ts:List Nat}{S:AS}{K:AS->Prop},ff ts S K->SimB X (λ_=>False) β S a w->∃S',K S'/\SimB X (λ_=>False) β S' a w
 | [],S,K,hy,h=>⟨S,hy,h⟩
 | t :: r,S,K,hy,h=>by
   unfold ff at hy;split at hy
   ·rename_i av cs n hst
    obtain⟨l,b,hy,hF,hfr,hl,-,hh⟩:=JF h hy;rw[P6,My,BB]at hy;have hbv:(Af S t).box=.var cs:=by rw[hst]
    have hvv:(Af S t).ver=n:=by rw[hst]
    have hlt:t<S.length:=MZ hbv (by simp);obtain⟨h1,hO,hfr1⟩:=hF.run h;have hbx:=h1.boxes t
    have hno:∀y∈b,y.1≠t:=λy hy e=>by
     obtain⟨sz,xs,hx⟩:=hfr y hy
     have hz:∀{seen b:Bx},FZ S seen b->∀y∈b,∃seen',eC S seen' y:=by
      intro seen b
      induction b generalizing seen with
      | nil=>intro _ y hy;cases hy
      | cons z q ih =>
        intro hf y hy;rcases List.mem_cons.1 hy with e|e
        ·exact⟨_,by rw[e];exact hf.1⟩
        ·exact ih hf.2 y e
     obtain⟨_,hz1⟩:=hz hF y hy;rcases hz1.2 with⟨sz',e',xs',k1,_⟩|⟨cs',ds',_,k2,_⟩|⟨k1,_⟩
     all_goals grind
    have hbt:(Af (AZ b S) t).box=.var cs:=(hfr1.other t hno).trans hbv;have hvt:(Af (AZ b S) t).ver=n:=(hfr1.ver t).trans hvv;rw[hbt]at hbx;obtain⟨bb,vals,T,k1,k2,k3,k4⟩:=hbx;have hbx0:=h.boxes t;rw[hbv]at hbx0;obtain⟨bb0,vals0,T0,j1,j2,j3,j4⟩:=hbx0;rw[k1]at j1;simp at j1;subst j1;rw[k2]at j2;simp at j2;obtain⟨rfl,rfl⟩:=j2;have hrep:=(hh vals.toList (by simpa using k3) λj v c hv hc=>j4 j v c (by grind) hc).now h hF
    have h2:=h1.rebox (R':=X.R) (id:=t) (B:=.var (l.map .d)) (v:=β t) (n:=n) (w':=w) (λ_ h=>h) (by rw[Cc];exact hlt) (.inr ⟨hvt.symm,rfl,by rw[hbt];simp⟩) (qb _) (A7.refl _ _ _) (λ_ _ _=>rfl)
     (λ_ b hb=>⟨.inl ⟨hb,by rw[hbt];rfl⟩,(h1.mine t b (by rw[hbt];rfl) hb).2⟩)
     (λk hv=>by
      rw[FI]at k hv ⊢;refine⟨bb,vals,T,k1,k2,by simp;rw[<-hl];exact k3,λi u c hu hc=>?_⟩;rw[ql]at hc
      cases hd:l[i]? with
      | none=>rw[hd]at hc;cases hc
      | some y =>
        rw[hd]at hc;obtain rfl:=P3 hc;have:=hrep.2 i u y (by simpa using hu) hd;exact⟨this.1.mono k,this.2⟩)
    rw[FI]at h2;exact WQ hy h2
   ·grind
theorem SimB.le(h:SimB X (λ_=>False) β S a w){S':AS}(hl:Le S S'):SimB X (λ_=>False) β S' a w:=by
 obtain⟨S1,h1,h2⟩:=S8 hl h;obtain⟨S2,h3,h4⟩:=WQ h1 h2;exact h4.le0 h3
theorem Ve:∀{ads:List (Nat×Nat×Nat×TypeId)}{S:AS}{β:Nat->Value}{K:AS->Prop},Wp ads S K->SimB X (λ_=>False) β S a w->∃β' S',K S'/\SimB X (λ_=>False) β' S' a w
 | [],S,β,K,hy,h=>⟨β,S,hy,h⟩
 | (v,j,q,e) :: r,S,β,K,hy,h=>by
   unfold Wp at hy;split at hy
   ·rename_i av cs n hsv
    split at hy
    ·rename_i s hcj
     obtain⟨⟨hs0,hvq⟩,hy⟩:=Ak hy;obtain⟨hq,hy⟩:=NW _ _ _ hy;rw[BI,My]at hy;have hbv:(Af S v).box=.var cs:=by grind
     have hvv:(Af S v).ver=n:=by grind
     have hlv:v<S.length:=MZ hbv (by simp);have hbx:=h.boxes v;rw[hbv]at hbx;obtain⟨b,vals,T,k1,k2,k3,k4⟩:=hbx;have hj:j<vals.size:=by grind
     have hcell:=k4 j vals[j] _ (by simp[hj]) hcj
     obtain⟨ad,hval⟩:∃ad,vals[j]=.slice ad 0 0:=by
      have:=hcell.1;generalize vals[j]=u at this
      cases this
      exact⟨_,rfl⟩
     obtain⟨β',h1,hβ',_⟩:=jW h hq (n:=(Af S q).ver+1) (rx _) (R':=X.R) (λ_ h=>h) (Below.refl _ _) (v:=.slice ad 0 0) (e:=e) (xs:=[]) (vals:=[]) hs0 (λ_ h=>by cases h)
      (by cases ad with
       | none=>exact .inl (World.ownsRow_nil w _ e _)
       | some p=>exact .inr ⟨rfl,rfl,p,rfl⟩) (λb hb=>by cases ad<;>simp[Ac]at hb) Bl.nil
     have h1:SimB X (λ_=>False) β' (AQ S q (.row s e []) ((Af S q).ver+1)) a w:=h1;have hβv:β' v=β v:=by rw[hβ'];simp[Kz,hvq]
     have hβq:β' q=.slice ad 0 0:=by rw[hβ'];simp[Kz]
     have hg1:Af (AQ S q (.row s e []) ((Af S q).ver+1)) v=Af S v:=by rw[J7 hq];simp[hvq]
     have hgq:(Af (AQ S q (.row s e []) ((Af S q).ver+1)) q).ver=(Af S q).ver+1:=by rw[J7 hq];simp
     have hbx1:=h1.boxes v;rw[hg1,hbv]at hbx1;obtain⟨b',vals',T',j1,j2,j3,j4⟩:=hbx1;rw[hβv,k1]at j1;simp at j1;subst j1;rw[k2]at j2;simp at j2;obtain⟨rfl,rfl⟩:=j2;have hlj:j<cs.length:=A5 hcj
     have h2:=h1.rebox (R':=X.R) (id:=v) (B:=.var (splice cs j [.sl q ((Af S q).ver+1)])) (v:=β' v) (n:=n) (w':=w) (λ_ h=>h) (by rw[C6];exact hlv) (.inr ⟨by rw[hg1,hvv],rfl,by rw[hg1,hbv];simp⟩) (qb _) (A7.refl _ _ _) (λ_ _ _=>rfl)
      (λ_ b hb=>⟨.inl ⟨hb,by rw[hg1,hbv];rfl⟩,(h1.mine v b (by rw[hg1,hbv];rfl) hb).2⟩)
      (λk hv=>by
       rw[FI]at k hv ⊢;refine⟨b,vals,T,by rw[hβv,k1],k2,?_,λi u c hu hc=>?_⟩
       ·rw[Fw _ _ _ (by omega)];simp;omega
       ·rw[Fw _ _ _ (by omega)]at hc;have hlt:(cs.take j).length=j:=by grind
        rcases sa i j with hi|hi|hi
        ·rw[rN,qj (by rw[hlt];exact hi),ra hi]at hc;exact(j4 i u c hu hc).mono k hv
        ·subst hi;rw[rN,qg (by rw[hlt];exact qb _),hlt]at hc;simp at hc;subst hc;refine BQ.mono k hv ?_;have:u=vals[i]:=by simp[hj]at hu;exact hu.symm
         rw[this];exact⟨by simp only[AG];rw[hgq];exact qb _,λ_=>by rw[hβq,hval]⟩
        ·rw[rN,qg (by rw[hlt];omega),hlt]at hc;rw[show([C.sl q ((Af S q).ver+1)]++cs.drop (j+[C.sl q ((Af S q).ver+1)].length))=C.sl q ((Af S q).ver+1) :: cs.drop (j+1)from rfl]at hc;rw[show i-j=(i-j-1)+1 by omega,qD,qE]at hc;exact(j4 i u c hu (by rw[show i=j+1+(i-j-1) by omega];exact hc)).mono k hv)
     rw[FI]at h2;exact Ve hy h2
    ·grind
   ·grind
theorem gy(h:SimB X (λ_=>False) β S a w){c:Operand}{b:Bool}(hc:ρOf S none c=.d (.bool b)):a.eval c=.bool b:=by
 have:=ρ_sound h (g:=none) (λ_ _ e=>by cases e) c;rw[hc]at this;exact Ec this
def nB(X:Cx)(Q:Exit->AS->Prop)(e:Exit)(a:Act)(w:World):Prop:=∃β S,Q e S/\SimB X (λ_=>False) β S a w
def Mw(P:Program):Prop:=∀(id:Nat)(ops:Array Oper)(Q:Exit->AS->Prop)(S:AS)(X:Cx)(β:Nat->Value)(a:Act)(w:World),
 YO P [] (.region id ops true) Q S->SimB X (λ_=>False) β S a w->(Code.region id ops true).wp P (nB X Q) a w
theorem least(p:Nat->Prop):∀n,p n->∃m,p m/\∀k,p k->m<=k:=by
 intro n
 induction n using Nat.strongRecOn with
 | _ n ih=>grind
theorem Ed{J:List Nat}(hdraw:Mw P):∀(c:Code){Q:Exit->AS->Prop}{S:AS}{β:Nat->Value}{a:Act}{w:World},YO P J c Q S->SimB X (λ_=>False) β S a w->c.wp P (nB X Q) a w
 | .skip,Q,S,β,a,w,hy,h=>wp_skip ⟨β,S,hy,h⟩
 | .label _,Q,S,β,a,w,hy,h=>wp_label ⟨β,S,hy,h⟩
 | .region id ops draw,Q,S,β,a,w,hy,h=>by
   have hy:match Z0 J (1000000+id)with
    | true=>Qd P S (.region id ops draw) Q
    | false=>YO P [] (.region id ops draw) Q S:=hy
   split at hy
   ·obtain⟨S₁,ι,Inv,hle,hx,hall⟩:=hy.go;simp only[EL]at hall;refine wp_mono (hx X β a w (h.le hle)) λe a' w' hq=>?_;obtain⟨rfl,i,β',hs⟩:=hq;exact⟨β',_,hall i,hs⟩
   cases draw with
   | true=>exact hdraw id ops Q S X β a w hy h
   | false =>
     have hy:oe P ops.toList [] ops.toList S λS=>plain S (Q .normal):=hy;refine wp_region_list (SK hy (h.weaken λ_ hf=>hf.elim) λβ' S' a' w' done' hK hs=>?_);rw[Xm]at hK;exact⟨β',_,hK,hs.plain⟩
 | .seq x y,Q,S,β,a,w,hy,h=>by
   have hy:match Z3 J y with
    | false=>YO P J x (λe S=>match e with|.normal=>YO P J y Q S|e=>Q e S) S
    | true=>Qe S (YO P J x) (YO P J y) Q:=hy
   split at hy
   ·refine wp_seq (wp_mono (Ed hdraw x hy h) λe a' w' hq=>?_);obtain⟨β',S',hq,hs⟩:=hq
    cases e with
    | normal=>exact Ed hdraw y hq hs
    | exit id=>exact⟨β',S',hq,hs⟩
    | goto l=>exact⟨β',S',hq,hs⟩
    | ret=>exact⟨β',S',hq,hs⟩
    | panic ch=>exact⟨β',S',hq,hs⟩
    | outgrown=>exact⟨β',S',hq,hs⟩
   ·obtain⟨ι,Inv,hx,hall⟩:=hy.go;simp only[EL]at hall;refine wp_seq (wp_mono (Ed hdraw x hx h) λe a' w' hq=>?_);obtain⟨β',S',hq,hs⟩:=hq
    cases e with
    | normal =>
      obtain⟨i,hle⟩:=hq;exact Ed hdraw y (hall i) (hs.le hle)
    | exit id=>exact⟨β',S',hq,hs⟩
    | goto l=>exact⟨β',S',hq,hs⟩
    | ret=>exact⟨β',S',hq,hs⟩
    | panic ch=>exact⟨β',S',hq,hs⟩
    | outgrown=>exact⟨β',S',hq,hs⟩
 | .cond c x y,Q,S,β,a,w,hy,h=>by
   have hy:match ρOf S none c with
    | .d (.bool b)=>Vh b (YO P J x Q S) (YO P J y Q S)
    | _=>False:=hy
   split at hy
   ·rename_i b hb
    exact wp_cond_split (gy h hb) (λht=>Ed hdraw x (hy.pos ht) h) (λhf=>Ed hdraw y (hy.neg hf) h)
   ·grind
 | .ret,Q,S,β,a,w,hy,h=>wp_ret ⟨β,S,hy,h⟩
 | .block id c,Q,S,β,a,w,hy,h=>by
   have hy:match Z0 J id with
    | true=>Qd P S (.block id c) Q
    | false=>YO P J c (λe S=>match e with|.exit id'=>if id'=id then Q .normal S else Q (.exit id') S|e=>Q e S) S:=hy
   split at hy
   ·obtain⟨S₁,ι,Inv,hle,hx,hall⟩:=hy.go;simp only[EL]at hall;refine wp_mono (hx X β a w (h.le hle)) λe a' w' hq=>?_;obtain⟨rfl,i,β',hs⟩:=hq;exact⟨β',_,hall i,hs⟩
   refine wp_block (wp_mono (Ed hdraw c hy h) λe a' w' hq=>?_);obtain⟨β',S',hq,hs⟩:=hq
   cases e with
   | exit id' =>
     simp only[Exit.inBlock]at hq ⊢;split
     ·rename_i he;rw[qf he]at hq;exact⟨β',S',hq,hs⟩
     ·rename_i he;rw[qi he]at hq;exact⟨β',S',hq,hs⟩
   | normal=>exact⟨β',S',hq,hs⟩
   | goto l=>exact⟨β',S',hq,hs⟩
   | ret=>exact⟨β',S',hq,hs⟩
   | panic ch=>exact⟨β',S',hq,hs⟩
   | outgrown=>exact⟨β',S',hq,hs⟩
 | .exit id,Q,S,β,a,w,hy,h=>wp_exit ⟨β,S,hy,h⟩
 | .loop c,Q,S,β,a,w,hy,h=>by
   have hy:Qf S (YO P J c) Q:=hy;obtain⟨ads,frs,ι,Inv,μ,i₀,hle,hround⟩:=hy.go;simp only[EL]at hround;obtain⟨β,S,hle,h⟩:=Ve hle h;obtain⟨S,hle,h⟩:=S8 hle h;let I:Act->World->Nat->Prop:=λa w n=>∃i β,μ i=n/\SimB X (λ_=>False) β (Inv i) a w;have hex:∃n,I a w n:=⟨_,i₀,β,rfl,h.le hle⟩
   have spec:∀a w,(∃n,I a w n)->I a w (Classical.epsilon λm=>I a w m/\∀k,I a w k->m<=k)/\∀k,I a w k->(Classical.epsilon λm=>I a w m/\∀k,I a w k->m<=k)<=k :=
    λa w ⟨n,hn⟩=>Classical.epsilon_spec (p:=λm=>I a w m/\∀k,I a w k->m<=k) (least (I a w) n hn)
   refine wp_loop (λa w=>∃n,I a w n) (λa w=>Classical.epsilon λm=>I a w m/\∀k,I a w k->m<=k) hex λa w hI=>?_;obtain⟨i,β,hi,hs⟩:=(spec a w hI).1;refine wp_mono (Ed hdraw c (hround i) hs) λe a' w' hq=>?_;obtain⟨β',S',hq,hs'⟩:=hq
   cases e with
   | normal =>
     obtain⟨j,hlj,hlt⟩:=hq;have hI':I a' w' (μ j):=⟨j,β',rfl,hs'.le hlj⟩;refine⟨⟨_,hI'⟩,?_⟩;have:=(spec a' w' ⟨_,hI'⟩).2 _ hI';grind
   | exit id=>exact⟨β',S',hq,hs'⟩
   | goto l=>exact⟨β',S',hq,hs'⟩
   | ret=>exact⟨β',S',hq,hs'⟩
   | panic ch=>exact⟨β',S',hq,hs'⟩
   | outgrown=>exact⟨β',S',hq,hs'⟩
 | .scope _,_,_,_,_,_,hy,_=>hy.elim
 | .goto _,_,_,_,_,_,hy,_=>hy.elim
 | .refuse _,_,_,_,_,_,hy,_=>hy.elim
 | .rangeFunc _ _ _ _,_,_,_,_,_,hy,_=>hy.elim
end
section
variable {P:Program} {X:Cx} {β:Nat->Value} {S:AS} {a:Act} {w:World}
def Sr(tmps:Array Value):ResultVar->Sem Value
 | .tmp t=>pure (tmps.getD t undef)
 | .cell a t=>do loadVar t (<-asAddr (tmps.getD a undef))
theorem no:BN none a:=λ_ _ e=>by cases e
def Wl(X:Cx)(β:Nat->Value)(S:AS)(a:Act)(w:World)(used:List Nat)(frz:Bx)(v:Value):C->Prop
 | .d y=>K5 X (λ_=>False) β S a w frz λO=>Aw O w v y
 | .own sz e xs=>∃id,id∈used/\v=β id/\(Af S id).box=.row sz e xs/\∀x∈xs,∀y∈x.cells,y.bare=true
 | .sl _ _=>False
theorem Wl.mono{used used':List Nat}{frz frz':Bx}(hu:∀i∈used,i∈used')(hf:∀y∈frz,y∈frz'){v:Value}{c:C}(h:Wl X β S a w used frz v c):Wl X β S a w used' frz' v c:=by
 cases c with
 | d y=>exact K5.mono (show K5 X (λ_=>False) β S a w frz λO=>Aw O w v y from h) hf λ_ h=>h
 | own sz e xs=>obtain⟨id,h1,h2⟩:=h;exact⟨id,hu id h1,h2⟩
 | sl _ _=>exact h
theorem Yt:∀{cs:List C}{K:List D->Prop},Zh cs K->∃l,K l/\cs=l.map .d
 | [],K,h=>⟨[],h,rfl⟩
 | .d x :: r,K,h=>by
   have h:Zh r λl=>K (x :: l):=h;obtain⟨l,h1,h2⟩:=Yt h;grind
 | .sl _ _ :: r,K,h=>h.elim
 | .own _ _ _ :: r,K,h=>h.elim
theorem NO(h:SimB X (λ_=>False) β S a w):∀{rs:List ResultVar}{used:List Nat}{frz:Bx}{K:List C->List Nat->Bx->Prop},QP P S used frz rs K->FZ S [] frz->(∀i∈used,(Af S i).box.owned=true) ->
 ∃cs used' frz',K cs used' frz'/\FZ S [] frz'/\(∀i∈used,i∈used')/\(∀y∈frz,y∈frz')/\(∀i∈used',(Af S i).box.owned=true)/\∃vs:List Value,(rs.mapM (Sr a.tmps)).run P w=.ok vs w/\vs.length=cs.length /\
  (∀(i:Nat) v c,vs[i]?=some v->cs[i]?=some c->Wl X β S a w used' frz' v c) /\
  (∀(i:Nat) v sz e xs b,vs[i]?=some v->cs[i]?=some (.own sz e xs)->Ac v=some b->∀j∈used,Ac (β j)≠some b) /\
  (∀(i j:Nat) v v' sz e xs sz' e' xs' b,vs[i]?=some v->vs[j]?=some v'->cs[i]?=some (.own sz e xs)->cs[j]?=some (.own sz' e' xs')->Ac v=some b->Ac v'=some b->i=j)
 | [],used,frz,K,hy,hF,hu=>⟨[],used,frz,hy,hF,(λ_ h=>h),(λ_ h=>h),hu,[],rfl,rfl,(λi v c hv=>by simp at hv),(λi v sz e xs b hv=>by simp at hv),λi j v v' sz e xs sz' e' xs' b hv=>by simp at hv⟩
 | .tmp t :: r,used,frz,K,hy,hF,hu=>by
   have data:∀(y:D)(b:Bx),FZ S [] b->K5 X (λ_=>False) β S a w b (λO=>Aw O w (a.eval (.tmp t)) y)->(QP P S used (frz++b) r λl u b=>K (.d y :: l) u b) ->
    ∃cs used' frz',K cs used' frz'/\FZ S [] frz'/\(∀i∈used,i∈used')/\(∀y∈frz,y∈frz')/\(∀i∈used',(Af S i).box.owned=true)/\∃vs:List Value,((ResultVar.tmp t :: r).mapM (Sr a.tmps)).run P w=.ok vs w/\vs.length=cs.length /\
    (∀(i:Nat) v c,vs[i]?=some v->cs[i]?=some c->Wl X β S a w used' frz' v c) /\
    (∀(i:Nat) v sz e xs b,vs[i]?=some v->cs[i]?=some (.own sz e xs)->Ac v=some b->∀j∈used,Ac (β j)≠some b) /\
    (∀(i j:Nat) v v' sz e xs sz' e' xs' b,vs[i]?=some v->vs[j]?=some v'->cs[i]?=some (.own sz e xs)->cs[j]?=some (.own sz' e' xs')->Ac v=some b->Ac v'=some b->i=j):=by
    intro y b hFb hh hy;obtain⟨cs,used',frz',hK,k1,k2,k3,k3',vs,k4,k5,k6,k7,k8⟩:=NO h hy (hF.append hFb) hu;refine⟨_,used',frz',hK,k1,k2,λy hy=>k3 y (by simp[hy]),k3',a.eval (.tmp t) :: vs,?_,by simp[k5],λi v c hv hc=>?_,λi v sz e xs b hv hc=>?_,λi j v v' sz e xs sz' e' xs' b hv hv' hc hc' hb hb'=>?_⟩
    ·simp only[s4,Sr,Sem.run_bind,Sem.run_pure,Result.andThen_ok,k4];rfl
    ·cases i with
     | zero=>simp at hv hc;subst hv;subst hc;exact hh.mono (λy hy=>k3 y (by simp[hy])) λ_ h=>h
     | succ i=>exact k6 i v c (by simpa using hv) (by grind)
    ·grind
    ·cases i with
     | zero=>simp at hc
     | succ i=>cases j with
       | zero=>simp at hc'
       | succ j=>rw[k8 i j v v' sz e xs sz' e' xs' b (by simpa using hv) (by simpa using hv') (by simpa using hc) (by simpa using hc') hb hb']
   unfold QP at hy;have hr:=ρ_sound h no (.tmp t);split at hy
   ·rename_i id n sz e xs hx
    rw[hx]at hr;rcases hy.go with hy|hy
    ·obtain⟨y,b,hK,hFb,_,hh⟩:=Jn (x:=X) (G:=λ_=>False) (a:=a) (K:=λy b=>y=.list sz xs/\b=[(id,B6.frow sz xs,n)]) hr ⟨rfl,rfl⟩;obtain⟨rfl,rfl⟩:=hK;exact data _ _ hFb hh hy
    ·split at hy
     ·exact hy.elim
     rename_i hcon
     obtain⟨hbare,hy⟩:=hy;obtain⟨hb1,hb2,hb3⟩:=hr;have hown:(Af S id).box.owned=true:=by rw[hb1];rfl
     obtain⟨cs,used',frz',hK,k1,k2,k3,k3',vs,k4,k5,k6,k7,k8⟩:=NO h hy hF (λi hi=>by
      rcases List.mem_cons.1 hi with rfl|hi
      ·grind
      ·exact hu i hi)
     refine⟨_,used',frz',hK,k1,λi hi=>k2 i (by simp[hi]),k3,k3',a.eval (.tmp t) :: vs,?_,by simp[k5],λi v c hv hc=>?_,λi v sz' e' xs' b hv hc hb j hj=>?_,λi j v v' sz1 e1 xs1 sz' e' xs' b hv hv' hc hc' hb hb'=>?_⟩
     ·simp only[s4,Sr,Sem.run_bind,Sem.run_pure,Result.andThen_ok,k4];rfl
     ·cases i with
      | zero=>simp at hv hc;subst hv;subst hc;exact⟨id,k2 id (by simp),hb3,hb1,hbare⟩
      | succ i=>exact k6 i v c (by grind) (by simpa using hc)
     ·cases i with
      | zero =>
        simp at hv hc;subst hv;intro hjb;rw[hb3]at hb;have:=h.inj id j b hown (hu j hj) hb hjb;subst this;exact hcon (by simpa using hj)
      | succ i=>exact k7 i v sz' e' xs' b (by simpa using hv) (by simpa using hc) hb j (by simp[hj])
     ·cases i with
      | zero=>cases j with
        | zero=>rfl
        | succ j=>grind
      | succ i=>cases j with
        | zero=>grind
        | succ j=>rw[k8 i j v v' sz1 e1 xs1 sz' e' xs' b (by simpa using hv) (by simpa using hv') (by simpa using hc) (by simpa using hc') hb hb']
   ·obtain⟨y,b,hK,hFb,_,hh⟩:=U0 (x:=X) (G:=λ_=>False) (a:=a) hr hy;exact data y b hFb hh hK
 | .cell t ty :: r,used,frz,K,hy,hF,hu=>by
   unfold QP at hy;have hr:=ρ_sound h no (.tmp t);split at hy
   ·rename_i id n off cs0 hx
    rw[hx]at hr;obtain⟨hb,_,bb,hβ,hv⟩:=hr;obtain⟨l0,hy,hcs⟩:=Yt hy;obtain⟨vals,T,h3,h4,h5⟩:=M4 h hb hβ
    obtain⟨y,hy,v0,hl,hvr⟩:=U9 (P:=P) (O:=OS β X S) (w:=w) (b:=bb) (off:=off) hy (λj y hy=>by
     simp only[qE]at hy;have hc:cs0[off+j]?=some (.d y):=by rw[hcs];simp[hy]
     have hlt:off+j<vals.size:=by rw[h4];exact A5 hc
     have:=h5 (off+j) vals[off+j] _ (by simp[hlt]) hc;exact⟨vals[off+j],by simp[World.cell?,h3,hlt],this.1,this.2⟩)
    rw[Nf]at hy;obtain⟨cs,used',frz',hK,k1,k2,k3,k3',vs,k4,k5,k6,k7,k8⟩:=NO h hy hF hu;have hv':a.tmps.getD t undef=.pointer (some ⟨bb,off,none⟩):=hv;refine⟨_,used',frz',hK,k1,k2,k3,k3',v0 :: vs,?_,by simp[k5],λi v c hv hc=>?_,λi v sz e xs b hv hc=>?_,λi j v v' sz e xs sz' e' xs' b hv hv' hc hc' hb hb'=>?_⟩
    ·simp only[s4,Sr,hv',asAddr,Sem.run_bind,Sem.run_pure,Result.andThen_ok,hl,k4]
    ·cases i with
     | zero=>simp at hv hc;subst hv;subst hc;exact λB _ _ _ hk=>(hvr.mono (B0.of_sub hk)).norm
     | succ i=>exact k6 i v c (by simpa using hv) (by simpa using hc)
    ·grind
    ·cases i with
     | zero=>simp at hc
     | succ i=>cases j with
       | zero=>simp at hc'
       | succ j=>rw[k8 i j v v' sz e xs sz' e' xs' b (by simpa using hv) (by simpa using hv') (by simpa using hc) (by simpa using hc') hb hb']
   ·grind
theorem NP{fn:Func}{vs:List Value}(h:(fn.results.toList.mapM (Sr a.tmps)).run P w=.ok vs w) :
 (results fn a.tmps).run P w=.ok (if h:vs.toArray.size=1 then vs.toArray[0]else .tuple vs.toArray) w:=by
 have e:(fn.results.mapM (Sr a.tmps)).run P w=.ok vs.toArray w:=by
  rw[sE,Sem.run_map,h];simp
 have e2:results fn a.tmps=(do let vs<-fn.results.mapM (Sr a.tmps);pure (if h:vs.size=1 then vs[0]else .tuple vs)):=by
  unfold results;congr 2
 rw[e2,Sem.run_bind,e];rfl
theorem Uz{used:List Nat}{frz:Bx}(h:used.all (λi=>Fj i frz)=true):∀i∈used,∀y∈frz,y.1≠i:=λi hi=>EP (List.all_eq_true.1 h i hi)
theorem SU(h:SimB X (λ_=>False) β S a w){fn:Func}{used:List Nat}{frz:Bx}{r:AV}(hF:FZ S [] frz)(hu:∀i∈used,(Af S i).box.owned=true)(hy:dM P fn.results.toList used frz S r) :
 ∃v T,(results fn a.tmps).run P w=.ok v w/\SimB X (λ_=>False) β T a w/\(∀i∈used,Af T i=Af S i)/\(∀z∈frz,(Af T z.1).box=z.2.1)/\(∃F,(∀y∈frz,y∈F)/\Fr S F T) /\
  CK (λb=>X.mine b/\∀i∈used,Ac (β i)≠some b) (OS β X T) w v r/\(∀b,Dw v r b->OS β X T b):=by
 have ownR:∀{T:AS}{used':List Nat}{v:Value}{sz:Nat}{e:TypeId}{xs:List D},SimB X (λ_=>False) β T a w->(∀i∈used',Af T i=Af S i)->(∃id,id∈used'/\v=β id/\(Af S id).box=.row sz e xs/\∀x∈xs,∀y∈x.cells,y.bare=true) ->
  (∀b,Ac v=some b->∀j∈used,Ac (β j)≠some b)->Uw (λb=>X.mine b/\∀i∈used,Ac (β i)≠some b) w v sz e xs/\∀b,Ac v=some b->OS β X T b:=by
  intro T used' v sz e xs hT hsame ⟨id,h1,h2,h3,h4⟩ hne;have hbT:(Af T id).box=.row sz e xs:=by grind
  have hown:(Af T id).box.owned=true:=by rw[hbT];rfl
  have hb:=hT.boxes id;rw[hbT]at hb;obtain⟨k1,k2,vals,k3,k4⟩:=hb;refine⟨⟨k1,k2,λb hbb=>⟨(hT.mine id b hown (by grind)).1,hne b hbb⟩,vals,by rw[h2];exact k3,?_⟩,λb hbb=>.inr (.inr ⟨id,hown,by rw[<-h2];exact hbb⟩)⟩;refine⟨k4.1,λj u y hu hy=>?_⟩;have:=k4.2 j u y hu hy;refine⟨RA this.1 ?_,this.2⟩;have hm:=qn hy;grind
 have rest:∀{rs:List ResultVar},rs=fn.results.toList->(QP P S used frz rs λl u b=>mz l u b r)->∃v T,(results fn a.tmps).run P w=.ok v w/\SimB X (λ_=>False) β T a w/\(∀i∈used,Af T i=Af S i)/\(∀z∈frz,(Af T z.1).box=z.2.1)/\(∃F,(∀y∈frz,y∈F)/\Fr S F T) /\
  CK (λb=>X.mine b/\∀i∈used,Ac (β i)≠some b) (OS β X T) w v r/\(∀b,Dw v r b->OS β X T b):=by
  intro rs hrs hy;obtain⟨cs,used',frz',hK,k1,k2,k3,k3',vs,k4,k5,k6,k7,k8⟩:=NO h hy hF hu;unfold mz at hK;obtain⟨hall,hK2⟩:=Ak hK;clear hK;have hnot:=Uz hall;obtain⟨t1,t2,t3⟩:=k1.run h
  have hsame:∀i∈used',Af (AZ frz' S) i=Af S i:=by
   intro i hi;have e1:=t3.other i (hnot i hi);have e2:=t3.ver i;have e3:=t3.av i;generalize Af (AZ frz' S) i=p at e1 e2 e3;generalize Af S i=q at e1 e2 e3;obtain⟨_,_,_⟩:=p;obtain⟨_,_,_⟩:=q;grind
  have hdat:∀(i:Nat) v y,vs[i]?=some v->cs[i]?=some (.d y)->Aw (OS β X (AZ frz' S)) w v y:=λi v y hv hc=>(show K5 X (λ_=>False) β S a w frz' λO=>Aw O w v y from k6 i v _ hv hc) frz' (λ_ h=>h) t3 t1 t2
  have hrow:∀(i:Nat) v sz e xs,vs[i]?=some v->cs[i]?=some (.own sz e xs)->Uw (λb=>X.mine b/\∀i∈used,Ac (β i)≠some b) w v sz e xs/\∀b,Ac v=some b->OS β X (AZ frz' S) b:=by
   intro i v sz e xs hv hc;exact ownR t1 hsame (k6 i v _ hv hc) (λb hb=>k7 i v sz e xs b hv hc hb)
  have Ef:∀v,(results fn a.tmps).run P w=.ok v w->CK (λb=>X.mine b/\∀i∈used,Ac (β i)≠some b) (OS β X (AZ frz' S)) w v r->(∀b,Dw v r b->OS β X (AZ frz' S) b)->∃v T,(results fn a.tmps).run P w=.ok v w/\SimB X (λ_=>False) β T a w/\(∀i∈used,Af T i=Af S i)/\(∀z∈frz,(Af T z.1).box=z.2.1)/\(∃F,(∀y∈frz,y∈F)/\Fr S F T) /\
   CK (λb=>X.mine b/\∀i∈used,Ac (β i)≠some b) (OS β X T) w v r/\(∀b,Dw v r b->OS β X T b) :=
   λv hv hr hb=>⟨v,_,hv,t1,λi hi=>hsame i (k2 i hi),λz hz=>t3.mem z (k3 z hz),⟨frz',k3,t3⟩,hr,hb⟩
  have hrun:=NP (P:=P) (w:=w) (a:=a) (fn:=fn) (vs:=vs) (by grind)
  have tup:o9 (.tup cs) r->cs.length≠1->∃v T,(results fn a.tmps).run P w=.ok v w/\SimB X (λ_=>False) β T a w/\(∀i∈used,Af T i=Af S i)/\(∀z∈frz,(Af T z.1).box=z.2.1)/\(∃F,(∀y∈frz,y∈F)/\Fr S F T) /\
   CK (λb=>X.mine b/\∀i∈used,Ac (β i)≠some b) (OS β X T) w v r/\(∀b,Dw v r b->OS β X T b):=by
   intro hr hne;have hl:¬vs.toArray.size=1:=by grind
   rw[dif_neg hl]at hrun;have hr:=hr.go;subst hr
   have hres:∀b,Dw (.tuple vs.toArray) (.tup cs) b->OS β X (AZ frz' S) b:=by
    rintro b ⟨vs',i,u,sz,e,ys,h1,h2,h3,h4⟩;grind
   refine Ef _ hrun ⟨vs.toArray,rfl,by simpa using k5,λi u c hu' hc=>?_,λi j u u' sz e ys sz' e' ys' b h1 h2 h3 h4 h5 h6=>k8 i j u u' sz e ys sz' e' ys' b (by grind) (by simpa using h2) h3 h4 h5 h6⟩ hres
   cases c with
   | d y =>
     refine Aw.mono (B0.of_sub λb hb=>?_) (hdat i u y (by grind) hc);grind
   | own sz e ys=>grind
   | sl _ _=>exact(k6 i u _ (by grind) hc).elim
  match cs,hK2,k5,k6,k7,k8,hdat,hrow,tup with
  | [],hK2,k5,k6,k7,k8,hdat,hrow,tup=>exact tup hK2 (by simp)
  | c1 :: c2 :: q,hK2,k5,k6,k7,k8,hdat,hrow,tup=>exact tup hK2 (by simp)
  | [c],hK2,k5,k6,k7,k8,hdat,hrow,tup =>
    have hl:vs.length=1:=k5;obtain⟨v,rfl⟩:=List.length_eq_one_iff.1 hl;have hrv:(results fn a.tmps).run P w=.ok v w:=by grind
    have hr:=(show o9 (jc c) r from hK2).go;subst hr
    cases c with
    | d y=>exact Ef v hrv (hdat 0 v y rfl rfl) (λb hb=>hb.elim)
    | own sz e xs =>
      obtain⟨j1,j2⟩:=hrow 0 v sz e xs rfl rfl;exact Ef v hrv j1 j2
    | sl _ _=>exact(k6 0 v _ rfl rfl).elim
 unfold dM at hy;split at hy
 ·
  rename_i k0 l0
  split at hy<;>try exact hy.elim
  rename_i t hrs
  split at hy<;>try exact hy.elim
  rename_i id n sz e xs hx
  have hr:=ρ_sound h no (.tmp t);rw[hx]at hr;obtain⟨hb1,hb2,hv⟩:=hr;split at hy
  ·grind
  rename_i hcon
  obtain⟨hall,hK⟩:=Ak hy;have hK:=hK.go
  cases hK
  have hnot:=Uz hall;obtain⟨t1,t2,t3⟩:=hF.run h
  have hsame:∀i∈id :: used,Af (AZ frz S) i=Af S i:=by
   intro i hi;have e1:=t3.other i (hnot i hi);have e2:=t3.ver i;have e3:=t3.av i;generalize Af (AZ frz S) i=p at e1 e2 e3;generalize Af S i=q at e1 e2 e3;obtain⟨_,_,_⟩:=p;obtain⟨_,_,_⟩:=q;grind
  have hbT:(Af (AZ frz S) id).box=.row sz e xs:=by grind
  have hown:(Af (AZ frz S) id).box.owned=true:=by rw[hbT];rfl
  have hb:=t1.boxes id;rw[hbT]at hb;obtain⟨k1,k2,vals,k3,k4⟩:=hb
  have hrun:(results fn a.tmps).run P w=.ok (β id) w:=by
   have:=NP (P:=P) (w:=w) (a:=a) (fn:=fn) (vs:=[β id]) (by
    rw[hrs];simp only[s4,Sr,List.mapM_nil,Sem.run_bind,Sem.run_pure,Result.andThen_ok];rw[<-hv];rfl)
   grind
  refine⟨β id,_,hrun,t1,λi hi=>hsame i (by simp[hi]),λz hz=>t3.mem z hz,⟨_,λy hy=>hy,t3⟩,⟨k1,k2,λb hbb=>⟨(t1.mine id b hown hbb).1,λi hi hbi=>?_⟩,vals,k3,k4.mono (B0.of_sub λb hb=>?_)⟩,λb' hb'=>.inr (.inr ⟨id,hown,hb'⟩)⟩
  ·have:=h.inj id i b (by grind) (hu i hi) hbb hbi;grind
  ·rcases hb with hb|hb
   ·exact hb
   ·exact .inr (.inr ⟨id,hown,hb⟩)
 split at hy
 ·rename_i t hrs
  split at hy
  ·rename_i id n cs hx
   have hr:=ρ_sound h no (.tmp t);rw[hx]at hr;obtain⟨hb1,hb2,bb,hβ,hv⟩:=hr;split at hy
   ·grind
   rename_i hcon
   obtain⟨l,b,hK,hFb,hfr,hcd,hh⟩:=MC h hy;obtain⟨hall,hK⟩:=Ak hK;obtain⟨rfl⟩:=hK;have hnot:=Uz hall;have hFF:=hF.append hFb;obtain⟨t1,t2,t3⟩:=hFF.run h
   have hsame:∀i∈id :: used,Af (AZ (frz++b) S) i=Af S i:=by
    intro i hi;have e1:=t3.other i (hnot i hi);have e2:=t3.ver i;have e3:=t3.av i;generalize Af (AZ (frz++b) S) i=p at e1 e2 e3;generalize Af S i=q at e1 e2 e3;obtain⟨_,_,_⟩:=p;obtain⟨_,_,_⟩:=q;grind
   have hbT:(Af (AZ (frz++b) S) id).box=.var cs:=by grind
   have hown:(Af (AZ (frz++b) S) id).box.owned=true:=by rw[hbT];rfl
   obtain⟨vals,T,q1,q2,q3⟩:=M4 t1 hbT hβ;have hcd':K4 S (frz++b) cs l:=hcd.mono λy hy=>by grind
   have hrep:=Rf t3 t1 hcd' (vals:=vals.toList) (by simpa using q2) (λj v c hv hc=>q3 j v c (by grind) hc);have hblk:Ac (β id)=some bb:=by rw[hβ];rfl
   have hvb:a.eval (.tmp t)=β id:=by grind
   have hrun:(results fn a.tmps).run P w=.ok (β id) w:=by
    have:=NP (P:=P) (w:=w) (a:=a) (fn:=fn) (vs:=[β id]) (by
     rw[hrs];simp only[s4,Sr,List.mapM_nil,Sem.run_bind,Sem.run_pure,Result.andThen_ok];rw[<-hvb];rfl)
    grind
   refine⟨β id,_,hrun,t1,λi hi=>hsame i (by simp[hi]),λz hz=>t3.mem z (by simp[hz]),⟨_,λy hy=>by simp[hy],t3⟩,⟨λb' hb'=>⟨(t1.mine id b' hown hb').1,λi hi hbi=>?_⟩,bb,vals,T,hβ,q1,?_⟩,λb' hb'=>.inr (.inr ⟨id,hown,hb'⟩)⟩
   ·have:=h.inj id i b' (by grind) (hu i hi) hb' hbi;grind
   ·refine hrep.mono (B0.of_sub λb' hb'=>?_);rcases hb' with hb'|hb'
    ·grind
    ·exact .inr (.inr ⟨id,hown,hb'⟩)
  ·grind
 ·grind
theorem Mh:∀(args:List AV)(k:Nat)(S:AS),(enter k args S).length=args.length+(S.length-args.length)
 | [],_,S=>by simp[enter]
 | x :: r,k,S=>by simp only[enter,qP,Mh r,rj];omega
theorem Pm:∀n,(Fi n).length=n
 | 0=>rfl
 | n+1=>by simp[Fi,Pm n]
theorem SY:∀n i,Af (Fi n) i=cF
 | 0,_=>rfl
 | _+1,0=>rfl
 | n+1,i+1=>SY n i
theorem i7(k:Nat):∀(S:AS)(i:Nat),Af (S.drop k) i=Af S (k+i):=by
 induction k with
 | zero=>grind
 | succ k ih =>
   intro S i
   cases S with
   | nil=>simp[Af]
   | cons s r=>rw[List.drop_succ_cons,ih,show k+1+i=(k+i)+1 by omega];rfl
theorem SZ:∀(args:List AV)(k:Nat)(S:AS)(i:Nat),Af (enter k args S) i=match args[i]? with|some x=>Ls (k+i) x|none=>Af S i
 | [],k,S,i=>by simp[enter]
 | x :: r,k,S,0=>by simp[enter,Af]
 | x :: r,k,S,i+1=>by
   simp only[enter,Af,SZ r,qD];rw[show k+1+i=k+(i+1) by omega];split
   ·rfl
   ·rw[i7,Nat.add_comm]
theorem Uf{w:World}{e:TypeId}{sz n:Nat}{v:Value}{vals:List Value}(h:Bj w e sz v n vals):Pq v=v:=by
 obtain⟨_,_,_,rfl⟩:=Mr h;rfl
theorem Rt(vs:Array Value)(u:Value):Pq (.agg (vs.push u))=u:=by simp[Pq]
theorem Ue{O:Nat->Prop}{w:World}{v:Value}{x:AV}(h:ZX O w v x)(hm:x.mut=true):Ac (Pq v)=Ac v:=by
 cases x<;>try (cases hm;done)
 ·obtain⟨_,_,_,hr,_⟩:=h;rw[Uf hr]
 ·obtain⟨b,_,_,rfl,_⟩:=h;rfl
 ·obtain⟨_,vs,u,_,_,_,_,⟨_,rfl,_,_,_,_,hr,_⟩,_⟩:=h;rw[Rt,ak (Mr hr)]
theorem YB(i:Nat)(sz:Nat)(e:TypeId)(xs:List D):∀ds:List D,bF i (ds.map .d++[.own sz e xs])=ds.map .d++[.sl i 0]
 | []=>rfl
 | d :: r=>by simp only[qk,s7,bF,YB i sz e xs r]
theorem bS(sz:Nat)(e:TypeId)(xs:List D):∀ds:List D,m7 (ds.map .d++[.own sz e xs])=.row sz e xs
 | []=>rfl
 | d :: r=>by simp only[qk,s7,m7,bS sz e xs r]
theorem fC{ds:List C}{ds':List C}{sz sz':Nat}{e e':TypeId}{xs xs':List D}(h:ds++[C.own sz e xs]=ds'++[C.own sz' e' xs']):ds=ds'/\sz=sz'/\e=e'/\xs=xs':=by
 obtain⟨h1,h2⟩:=List.append_inj' h rfl;grind
theorem U3{n:Nat}{args:List AV}{O M:Nat->Prop}{w:World}{vs:Array Value}(hO:∀b,O b->b<w.heap.size)(hG:Oq (λb=>O b\/Hl vs args b) w)(hlen:vs.size=args.length)(hMO:∀b,Hl vs args b->¬O b)
 (hinj:∀(i j:Nat) v v' x y b,vs[i]?=some v->vs[j]?=some v'->args[i]?=some x->args[j]?=some y->x.mut=true->y.mut=true->Ac v=some b->Ac v'=some b->i=j)
 (hargs:∀(i:Nat) v x,vs[i]?=some v->args[i]?=some x->ZX (λb=>O b\/Hl vs args b) w v x) :
 SimB ⟨w.heap.size,Hl vs args,O,λ_=>False,w,λi=>Pq (vs.getD i undef),WS hG⟩ (λ_=>False) (λi=>Pq (vs.getD i undef)) (enter 0 args (Fi n)) { tmps:=vs++Array.replicate (n-vs.size) undef,defers:=[] } w:=by
 have hget:∀i,Af (enter 0 args (Fi n)) i=match args[i]? with|some x=>Ls i x|none=>cF:=by
  intro i;rw[SZ];simp only[qy,SY]
 have hver:∀i,(Af (enter 0 args (Fi n)) i).ver=0:=by
  intro i;rw[hget];split
  ·rename_i x _;cases x<;>rfl
  ·rfl
 have hval:∀(i:Nat) x,args[i]?=some x->vs[i]?=some (vs.getD i undef):=by
  intro i x hx;have:i<vs.size:=by rw[hlen];exact A5 hx
  simp[Array.getD,this]
 have hown:∀i,(Af (enter 0 args (Fi n)) i).box.owned=true->∃x,args[i]?=some x/\x.mut=true:=by
  intro i ho;rw[hget]at ho;split at ho
  ·rename_i x hx
   refine⟨x,hx,?_⟩
   cases x<;>first|rfl|simp[Ls,B6.owned]at ho
  ·simp[cF,B6.owned]at ho
 have hOS:∀b,OS (λi=>Pq (vs.getD i undef)) ⟨w.heap.size,Hl vs args,O,λ_=>False,w,λi=>Pq (vs.getD i undef),WS hG⟩ (enter 0 args (Fi n)) b->O b\/Hl vs args b:=by
  intro b hb;rcases hb with hb|hb|⟨i,h1,h2⟩
  ·exact .inl hb
  ·exact hb.elim
  ·obtain⟨x,hx,hm⟩:=hown i h1;exact .inr ⟨i,_,x,hval i x hx,hx,hm,by rw[<-Ue (hargs i _ x (hval i x hx) hx) hm];exact h2⟩
 refine⟨?_,rfl,A7.refl _ _ _,qb _,λb hb=>⟨hO b hb,λhm=>hMO b hm hb⟩,(λb hb=>hb.elim),?_,?_,?_,?_,?_,?_⟩
 ·rw[Mh,Pm];simp[hlen]
 ·intro t v hv;rw[hget];split
  ·rename_i x hx
   have hlt:t<vs.size:=by rw[hlen];exact A5 hx
   rw[qA hlt]at hv;have hr:=hargs t v x hv hx;have hvd:v=vs.getD t undef:=by simp[hlt]at hv;simp[Array.getD,hlt,hv]
   cases x with
   | any=>trivial
   | d y=>exact Aw.mono (B0.of_sub hOS) (show Aw _ w v y from hr)
   | lim sz xs =>
     have hr':Aw (λb=>O b\/Hl vs args b) w v (.list sz xs)/\RE v=xs.length:=hr;exact⟨hr'.1.mono (B0.of_sub hOS),hr'.2⟩
   | own sz e xs =>
     obtain⟨_,_,_,hrr,_⟩:=hr;exact⟨pY _,λ_=>by show v=Pq _;rw[<-hvd,Uf hrr]⟩
   | optr cs =>
     obtain⟨b,vals,T,h1,h2,h3⟩:=hr;exact⟨pY _,λ_=>⟨b,by show Pq (vs.getD t undef)=_;rw[<-hvd,h1];rfl,h1⟩⟩
   | cc k l =>
     obtain⟨rfl,vs',u,ds,sz,e,xs,⟨rfl,h2,h3,_⟩,h4⟩:=hr;simp only[Ls,YB];refine⟨vs'.push u,h2,by simp[h3],λj q y hq hy=>?_⟩;rcases qw j vs'.size with hj|hj
     ·rw[Array.getElem?_push_lt hj]at hq;have hj':j<ds.length:=by rw[<-h3];exact hj
      rw[qj (by simpa using hj')]at hy;simp at hq;simp[hj']at hy;subst hy;have:=h4.2 j q ds[j] (by simp[hj,hq]) (by simp[hj']);exact⟨⟨this.1.mono (B0.of_sub hOS),this.2⟩,Ui this.1 this.2⟩
     ·have hj2:j=vs'.size:=by have:=CP hq;simp at this;omega
      subst hj2;simp at hq;subst hq;rw[h3,qg (by simp)]at hy;simp at hy;subst hy;refine⟨⟨pY _,λ_=>by show _=Pq _;rw[<-hvd,h2,Rt]⟩,?_⟩;have:=hargs t v _ hv hx;obtain⟨_,vs2,u2,_,_,_,_,⟨_,q2,_,_,_,_,q5,_⟩,_⟩:=this;rw[h2]at q2;simp at q2;obtain⟨ad,m,c,hu⟩:=Mr q5;rw[(Array.push_eq_push.1 q2).1,hu];rfl
   | bot|ptr _ _ _|sl _ _|eptr _ _ _ _ _|tup _|under _ _ _=>exact hr.elim
  ·trivial
 ·intro i;rw[hget];split
  ·rename_i x hx
   have hr:=hargs i _ x (hval i x hx) hx
   cases x with
   | any|d _|lim _ _|bot|ptr _ _ _|sl _ _|eptr _ _ _ _ _|tup _|under _ _ _=>trivial
   | own sz e xs =>
     obtain⟨h1,h2,vals,h3,h4⟩:=hr;exact⟨h1,h2,vals,by show Bj w e sz (Pq (vs.getD i undef)) _ _;rw[Uf h3];exact h3,h4.mono (B0.of_sub hOS)⟩
   | cc k l =>
     obtain⟨rfl,vs',u,ds,sz,e,xs,⟨rfl,h2,h3,h4,h5,vals,h6,h7⟩,_⟩:=hr;simp only[Ls,bS];exact⟨h4,h5,vals,by show Bj w e sz (Pq (vs.getD i undef)) _ _;rw[h2,Rt];exact h6,h7.mono (B0.of_sub hOS)⟩
   | optr cs =>
     obtain⟨b,vals,T,h1,h2,h3⟩:=hr;exact⟨b,vals,T,by show Pq (vs.getD i undef)=_;rw[h1];rfl,h2,by have:=h3.1;simpa using this,λj v c hv hc=>(h3.mono (B0.of_sub hOS)).cells j v c (by simpa using hv) hc⟩
  ·trivial
 ·intro i b ho hb;obtain⟨x,hx,hm⟩:=hown i ho;exact⟨.inr ⟨i,_,x,hval i x hx,hx,hm,by rw[<-Ue (hargs i _ x (hval i x hx) hx) hm];exact hb⟩,λh=>h⟩
 ·intro i j b hi hj hbi hbj;obtain⟨x,hx,hm⟩:=hown i hi;obtain⟨y,hy,hm'⟩:=hown j hj;exact hinj i j _ _ x y b (hval i x hx) (hval j y hy) hx hy hm hm' (by rw[<-Ue (hargs i _ x (hval i x hx) hx) hm];exact hbi) (by rw[<-Ue (hargs j _ y (hval j y hy) hy) hm'];exact hbj)
 ·intro t u hu;rw[hget]at hu;split at hu
  ·rename_i x hx
   have hr:=hargs t _ x (hval t x hx) hx
   cases x<;>simp[Ls,AV.guards]at hu
   exact hr.elim
  ·simp[cF,AV.guards]at hu
 ·intro i _ _;rfl
theorem H9{vs:Array Value}{args:List AV}(h:∀x∈args,x.mut=false)(b:Nat):¬Hl vs args b:=by
 rintro⟨i,v,x,_,hx,hm,_⟩;grind
theorem R8{J:List Nat}(hdraw:Mw P){f:FuncId}{fn:Func}{args:List AV}{r:AV}(hf:P.funcs[f]?=some fn)(hname:(fn.name == "runtime.NumGoroutine")=false)(hr:ZY P J fn args r):Ax P f args r:=by
 unfold ZY at hr;split at hr
 ·rename_i c hc
  refine⟨by simp[EG,hf,hname,hc],λO w vs hO hG0 hlen hargs=>?_⟩;rw[EL]at hr;refine calls_of_wp hf hc ?_
  have hnm:∀x∈args,x.mut=false:=by
   intro x hx;obtain⟨i,hi⟩:=List.mem_iff_getElem?.1 hx;have hlt:i<vs.size:=by grind
   have:=hargs i vs[i] x (by simp[hlt]) hi
   cases x<;>first|rfl|exact this.elim
  have hG:Oq (λb=>O b\/Hl vs args b) w:=λg cs hg=>(hG0 g cs hg).mono (B0.of_sub λb hb=>hb.resolve_right (H9 hnm b))
  have hsim:=U3 (n:=fn.ntmps) (M:=λ_=>False) hO hG hlen (λb hm=>absurd hm (H9 hnm b)) (λi j v v' x y b _ _ hx _ hm=>by rw[hnm x (qn hx)]at hm;cases hm)
   (λi v x hv hx=>by
    have h1:=(hargs i v x hv hx).mono (O':=λb=>O b\/Hl vs args b) (B0.of_sub λb hb=>hb.resolve_right (H9 hnm b));have h2:=hnm x (qn hx)
    cases x<;>first|exact h1|cases h2)
  refine wp_mono (Ed hdraw c hr hsim) λe a' w' hq=>?_;obtain⟨β',S',hq,hs⟩:=hq
  have Ef:dM P fn.results.toList [] [] S' r->a'.defers=[]/\∃v,(results fn a'.tmps).run P w'=.ok v w'/\∃v',Ending.returned v=.returned v'/\Below w.heap.size w w'/\CK (λb=>w.heap.size<=b) O w' v' r:=by
   intro hq;obtain⟨v,T,h1,h2,_,_,_,h3,_⟩:=SU hs (frz:=[]) trivial (λ_ h=>by cases h) hq;refine⟨hs.df,v,h1,v,rfl,hs.below.below (H9 hnm),h3.mono (λb hb=>hb.1.resolve_right (H9 hnm b)) (λb hb=>.inl hb)⟩
  cases e with
  | normal=>exact Ef hq
  | ret=>exact Ef hq
  | exit id=>grind
  | goto l=>grind
  | panic ch=>grind
  | outgrown=>grind
 ·grind
theorem L0(h:SimB X (λ_=>False) β S a w):∀{outs:List AV}{k:Nat}{K:List Nat->Bx->Prop},Q2 S k outs K ->
 ∃used frz,K used frz/\FZ S [] frz/\(∀i∈used,(Af S i).box.owned=true) /\
  ∀(i:Nat) y,outs[i]?=some y->y.mut=true->k+i∈used/\(Af S (k+i)).ver=0/\match y with
   | .own sz e ys=>(Af S (k+i)).box=.row sz e ys
   | .optr l=>∃cs,(Af S (k+i)).box=.var cs/\K4 S frz cs l
   | .cc _ l=>∃(ds:List C)(sz:Nat)(e:TypeId)(ys:List D),l=ds++[.own sz e ys]/\(Af S (k+i)).box=.row sz e ys
   | _=>False
 | [],k,K,hy=>⟨[],[],hy,trivial,(λ_ h=>by cases h),λi y h=>by simp at h⟩
 | q :: r,k,K,hy=>by
   have skip:Q2 S (k+1) r K->q.mut=false->∃used frz,K used frz/\FZ S [] frz/\(∀i∈used,(Af S i).box.owned=true) /\
    ∀(i:Nat) y,(q :: r)[i]?=some y->y.mut=true->k+i∈used/\(Af S (k+i)).ver=0/\match y with
     | .own sz e ys=>(Af S (k+i)).box=.row sz e ys
     | .optr l=>∃cs,(Af S (k+i)).box=.var cs/\K4 S frz cs l
     | .cc _ l=>∃(ds:List C)(sz:Nat)(e:TypeId)(ys:List D),l=ds++[.own sz e ys]/\(Af S (k+i)).box=.row sz e ys
     | _=>False:=by
    intro hy hm;obtain⟨used,frz,hK,h1,h2,h3⟩:=L0 h hy;refine⟨used,frz,hK,h1,h2,λi y hi hmy=>?_⟩
    cases i with
    | zero=>simp at hi;subst hi;rw[hm]at hmy;cases hmy
    | succ i=>have:=h3 i y (by grind) hmy;rw[show k+(i+1)=k+1+i by omega];exact this
   cases q with
   | own sz e ys =>
     unfold Q2 at hy;split at hy
     ·rename_i av sz' e' xs hs
      obtain⟨⟨rfl,rfl,rfl⟩,hy⟩:=hy;obtain⟨used,frz,hK,h1,h2,h3⟩:=L0 h hy;refine⟨_,frz,hK,h1,λi hi=>?_,λi y hi hmy=>?_⟩
      ·rcases List.mem_cons.1 hi with rfl|hi
       ·rw[hs];rfl
       ·exact h2 i hi
      ·cases i with
       | zero=>simp at hi;subst hi;simp only[qY];exact⟨by simp,by rw[hs],by simp only[hs]⟩
       | succ i=>have:=h3 i y (by grind) hmy;rw[show k+(i+1)=k+1+i by omega];exact⟨by simp[this.1],this.2⟩
     ·grind
   | optr l =>
     unfold Q2 at hy;split at hy
     ·rename_i av cs hs
      obtain⟨l',b,hy2,hFb,hfr,hcd,_⟩:=MC h hy;obtain⟨el,hy3⟩:=hy2;subst el;obtain⟨used,frz,hK,h1,h2,h3⟩:=L0 h hy3;refine⟨_,_,hK,hFb.append h1,λi hi=>?_,λi y hi hmy=>?_⟩
      ·rcases List.mem_cons.1 hi with rfl|hi
       ·rw[hs];rfl
       ·exact h2 i hi
      ·cases i with
       | zero=>simp at hi;subst hi;simp only[qY];exact⟨by simp,by rw[hs],cs,by rw[hs],hcd.mono λy hy=>by simp[hy]⟩
       | succ i =>
         have:=h3 i y (by grind) hmy;rw[show k+(i+1)=k+1+i by omega];refine⟨by simp[this.1],this.2.1,?_⟩;have h4:=this.2.2
         cases y<;>first|exact h4|(obtain⟨cs',h5,h6⟩:=h4;exact⟨cs',h5,h6.mono λy hy=>by simp[hy]⟩)
     ·grind
   | any=>exact skip hy rfl
   | bot=>exact skip hy rfl
   | d _=>exact skip hy rfl
   | lim _ _=>exact skip hy rfl
   | ptr _ _ _=>exact skip hy rfl
   | sl _ _=>exact skip hy rfl
   | eptr _ _ _ _ _=>exact skip hy rfl
   | tup _=>exact skip hy rfl
   | under _ _ _=>exact skip hy rfl
   | cc k' l =>
     unfold Q2 at hy;obtain⟨ds,sz,e,ys,hl,hy⟩:=NG hy;split at hy
     ·rename_i av sz' e' xs hs
      obtain⟨⟨rfl,rfl,rfl⟩,hy⟩:=hy;obtain⟨used,frz,hK,h1,h2,h3⟩:=L0 h hy;refine⟨_,frz,hK,h1,λi hi=>?_,λi y hi hmy=>?_⟩
      ·rcases List.mem_cons.1 hi with rfl|hi
       ·rw[hs];rfl
       ·exact h2 i hi
      ·cases i with
       | zero=>simp at hi;subst hi;simp only[qY];exact⟨by simp,by rw[hs],ds,_,_,_,hl,by rw[hs]⟩
       | succ i=>have:=h3 i y (by grind) hmy;rw[show k+(i+1)=k+1+i by omega];exact⟨by simp[this.1],this.2⟩
     ·grind
theorem RY{J:List Nat}(hdraw:Mw P){f:FuncId}{fn:Func}{args outs:List AV}{r:AV}(hf:P.funcs[f]?=some fn)(hname:(fn.name == "runtime.NumGoroutine")=false)(hol:outs.length=args.length)
 (hfit:∀(i:Nat) x y,args[i]?=some x->outs[i]?=some y->match y with
  | .own sz e _=>∃xs,x=.own sz e xs
  | .optr cs=>∃cs',x=.optr cs'/\cs.length=cs'.length
  | .cc _ l=>∃(ds:List D)(sz:Nat)(e:TypeId)(xs ys:List D),x=.cc none (ds.map .d++[.own sz e xs])/\l=ds.map .d++[.own sz e ys]
  | _=>True) (hr:Wn P J fn args outs r):Dl P f args outs r:=by
 unfold Wn at hr;split at hr
 ·rename_i c hc
  refine⟨by simp[EG,hf,hname,hc],hol,λO w vs hO hG hlen hMO hinj hargs=>?_⟩;rw[EL]at hr;refine calls_of_wp hf hc ?_;have hsim:=U3 (n:=fn.ntmps) (M:=λ_=>False) hO hG hlen hMO hinj hargs;refine wp_mono (Ed hdraw c hr hsim) λe a' w' hq=>?_;obtain⟨β',S',hq,hs⟩:=hq
  have Ef:(Q2 S' 0 outs λu b=>dM P fn.results.toList u b S' r)->a'.defers=[]/\∃v,(results fn a'.tmps).run P w'=.ok v w'/\∃v',Ending.returned v=.returned v'/\A7 w.heap.size (Hl vs args) w w' /\
   CK (λb=>w.heap.size<=b\/(Hl vs args b/\¬Hl vs outs b)) (λb=>O b\/Hl vs outs b) w' v' r /\
   ∀(i:Nat) u x y,vs[i]?=some u->args[i]?=some x->outs[i]?=some y->Qh (λb=>O b\/Hl vs outs b\/Dw v' r b) w' u x y:=by
   intro hq;obtain⟨used,frz,hq,hF,hu,hk⟩:=L0 hs hq;obtain⟨v,T,h1,h2,h3,h4,⟨F,hFF,hFr⟩,h5,h6⟩:=SU hs hF hu hq
   have hβ:∀(i:Nat) u y,vs[i]?=some u->outs[i]?=some y->y.mut=true->i∈used/\β' i=Pq u/\Ac (Pq u)=Ac u:=by
    intro i u y hi hy hm;have:=hk i y hy hm;simp only[qy]at this;have hxi:args[i]?=some (args[i]'(by grind)):=P2 _
    refine⟨this.1,?_,Ue (hargs i u _ hi hxi) (by
     have hft:=hfit i _ y hxi hy;generalize args[i]'(by grind)=q at hft
     cases y<;>try (cases hm;done)
     ·obtain⟨_,rfl⟩:=hft;rfl
     ·obtain⟨_,rfl,_⟩:=hft;rfl
     ·obtain⟨_,_,_,_,_,rfl,_⟩:=hft;rfl)⟩
    have hne:(Af S' i).box≠.none:=by intro e;have:=hu i this.1;rw[e]at this;cases this
    have hini:=hs.ini i this.2.1 hne;have hlt:=CP hi;rw[hini];simp[hlt]at hi;simp[Array.getD,hlt,hi]
   have hMo:∀b,Hl vs outs b->∃i∈used,Ac (β' i)=some b:=by
    rintro b ⟨i,u,y,hi,hy,hm,hb⟩;obtain⟨k1,k2⟩:=hβ i u y hi hy hm;exact⟨i,k1,by rw[k2.1,k2.2];exact hb⟩
   have hMT:∀b,Hl vs outs b->OS β' ⟨w.heap.size,Hl vs args,O,λ_=>False,w,λi=>Pq (vs.getD i undef),WS hG⟩ T b:=by
    intro b hb;obtain⟨i,hi,hb⟩:=hMo b hb;exact .inr (.inr ⟨i,by rw[h3 i hi];exact hu i hi,hb⟩)
   refine⟨hs.df,v,h1,v,rfl,hs.below,h5.mono (λb hb=>?_) (λb hb=>?_),λi u x y hu' hx hy=>?_⟩
   ·rcases hb.1 with hb'|hb'
    ·exact .inl hb'
    ·exact .inr ⟨hb',λhm=>by obtain⟨i,hi,hbi⟩:=hMo b hm;exact hb.2 i hi hbi⟩
   ·rcases hb with hb|hb
    ·exact .inl hb
    ·grind
   ·have hsub:∀b,(O b\/Hl vs outs b\/Dw v r b)->OS β' ⟨w.heap.size,Hl vs args,O,λ_=>False,w,λi=>Pq (vs.getD i undef),WS hG⟩ T b:=by
     intro b hb;rcases hb with hb|hb|hb
     ·exact .inl hb
     ·exact hMT b hb
     ·exact h6 b hb
    have hft:=hfit i x y hx hy
    cases y<;>try trivial
    ·rename_i sz e ys
     obtain⟨k1,k2⟩:=hβ i u _ hu' hy rfl;have hki:=(hk i _ hy rfl).2.2;simp only[qy]at hki;have hb:=h2.boxes i;rw[h3 i k1,hki]at hb;obtain⟨j1,j2,vals,j3,j4⟩:=hb;obtain⟨xs,rfl⟩:=hft;obtain⟨_,_,_,hrr,_⟩:=hargs i u _ hu' hx;rw[k2.1,Uf hrr]at j3;exact⟨⟨j1,j2,vals,j3,j4.mono (B0.of_sub hsub)⟩,xs,rfl⟩
    ·rename_i l
     obtain⟨k1,k2⟩:=hβ i u _ hu' hy rfl;obtain⟨cs,hkb,hcd⟩:=(hk i _ hy rfl).2.2;simp only[qy]at hkb;have hb:=h2.boxes i;rw[h3 i k1,hkb]at hb;obtain⟨b,vals,T',j1,j2,j3,j4⟩:=hb;obtain⟨cs',rfl,hcl⟩:=hft;have hpu:Pq u=u:=by obtain⟨_,_,_,rfl,_⟩:=hargs i u _ hu' hx;rfl
     rw[k2.1,hpu]at j1;refine⟨⟨b,vals,T',j1,j2,?_⟩,cs',rfl,hcl⟩;refine(Rf hFr h2 (hcd.mono hFF) (vals:=vals.toList) (by simpa using j3) (λj v c hv hc=>j4 j v c (by simpa using hv) hc)).mono (B0.of_sub hsub)
    ·rename_i k0 l
     obtain⟨k1,k2⟩:=hβ i u _ hu' hy rfl;obtain⟨ds1,sz1,e1,ys1,hl1,hkb⟩:=(hk i _ hy rfl).2.2;simp only[qy]at hkb;have hb:=h2.boxes i;rw[h3 i k1,hkb]at hb;obtain⟨j1,j2,vals,j3,j4⟩:=hb;obtain⟨ds,sz,e,xs,ys,rfl,rfl⟩:=hft;obtain⟨rfl,rfl,rfl,rfl⟩:=fC hl1;obtain⟨_,vs',u',ds',sz',e',xs',⟨q1,rfl,q3,_⟩,_⟩:=hargs i u _ hu' hx;obtain⟨q1,rfl,rfl,rfl⟩:=fC q1;have q1:ds.length=ds'.length:=by simpa using congrArg List.length q1
     rw[k2.1,Rt]at j3;exact⟨vs',u',ds,_,_,ys,rfl,rfl,by rw[q3,q1],j1,j2,vals,j3,j4.mono (B0.of_sub hsub)⟩
  cases e with
  | normal=>exact Ef hq
  | ret=>exact Ef hq
  | exit id=>exact hq.elim
  | goto l=>exact hq.elim
  | panic ch=>exact hq.elim
  | outgrown=>exact hq.elim
 ·grind
theorem cf{n k q sz:Nat}{e:TypeId}{xs:List D}{args:List AV}(hk:k<args.length)(hq:q<args.length)(hkq:q≠k)(i:Nat) :
 Af (AQ (AQ (Fb (enter 0 args (Fi n)) k (.ptr k 0 0)) k (.var [.sl q 0]) 0) q (.row sz e xs) 0) i =
  if i=q then⟨(Af (enter 0 args (Fi n)) q).av,.row sz e xs,0⟩else if i=k then⟨.ptr k 0 0,.var [.sl q 0],0⟩else Af (enter 0 args (Fi n)) i:=by
 have hl:args.length<=(enter 0 args (Fi n)).length:=by rw[Mh];omega
 rw[BP,BP,BP,C3,C3,C3];simp only[C6,Ir];have h1:k<(enter 0 args (Fi n)).length:=by omega
 have h2:q<(enter 0 args (Fi n)).length:=by omega
 by_cases e1:i=q
 ·subst e1;simp[h1,h2,hkq]
 ·by_cases e2:i=k
  ·subst e2;simp[h1,h2,e1]
  ·simp[h1,h2,e1,e2]
theorem Yj{J:List Nat}(hdraw:Mw P){f:FuncId}{fn:Func}{args:List AV}{k q sz:Nat}{e:TypeId}{xs ys:List D}(hf:P.funcs[f]?=some fn)(hname:(fn.name == "runtime.NumGoroutine")=false)(hres:fn.results=#[])
 (hk:args[k]?=some .any) (hq:q<args.length) (hkq:q≠k) (hmut:args.all (λx=>!x.mut)=true) (hr:iQ P J fn args k q sz e xs ys):UZ P f args k sz e xs ys:=by
 unfold iQ at hr;split at hr
 ·rename_i c hc
  refine⟨by simp[EG,hf,hname,hc],λO w vs b u T hO hG hlen hvk hh hbO huO hsz hxs hrow hargs=>?_⟩;rw[EL]at hr;refine calls_of_wp hf hc ?_;have hkl:k<args.length:=A5 hk;obtain⟨rvals,hrr,hrl⟩:=hrow
  have hnm:∀x∈args,x.mut=false:=by
   intro x hx;have:=List.all_eq_true.1 hmut x hx
   simpa using this
  have hbw:b<w.heap.size:=by
   rcases qw b w.heap.size with h|h
   ·exact h
   ·rw[qT h]at hh;cases hh
  let β:Nat->Value:=λi=>if i=q then u else vs.getD i undef
  have hβq:β q=u:=qf rfl;have hβ:∀i,i≠q->β i=vs.getD i undef:=λi hi=>qi hi
  have hkv:vs.getD k undef=.pointer (some ⟨b,0,none⟩):=by
   have:=CP hvk;simp[this]at hvk;simp[Array.getD,this,hvk]
  have hβk:β k=.pointer (some ⟨b,0,none⟩):=by rw[hβ k (λh=>hkq h.symm)];exact hkv
  have hget0:∀i,Af (enter 0 args (Fi fn.ntmps)) i=match args[i]? with|some x=>Ls i x|none=>cF:=by
   intro i;rw[SZ];simp only[qy,SY]
  have hbx0:∀i,(Af (enter 0 args (Fi fn.ntmps)) i).box=.none/\(Af (enter 0 args (Fi fn.ntmps)) i).ver=0:=by
   intro i;rw[hget0];split
   ·rename_i x hx
    have:=hnm x (qn hx)
    cases x<;>first|exact⟨rfl,rfl⟩|cases this
   ·exact⟨rfl,rfl⟩
  have hget:=cf (n:=fn.ntmps) (sz:=sz) (e:=e) (xs:=xs) hkl hq hkq
  have hown:∀i,(Af (AQ (AQ (Fb (enter 0 args (Fi fn.ntmps)) k (.ptr k 0 0)) k (.var [.sl q 0]) 0) q (.row sz e xs) 0) i).box.owned=true->i=q\/i=k:=by
   intro i hi;rw[hget]at hi;by_cases e1:i=q
   ·exact .inl e1
   ·by_cases e2:i=k
    ·exact .inr e2
    ·rw[qi e1,qi e2,(hbx0 i).1]at hi;cases hi
  have hver:∀i,(Af (AQ (AQ (Fb (enter 0 args (Fi fn.ntmps)) k (.ptr k 0 0)) k (.var [.sl q 0]) 0) q (.row sz e xs) 0) i).ver=0:=by
   intro i;rw[hget];split
   ·rfl
   ·split
    ·rfl
    ·exact(hbx0 i).2
  let Xc:Cx:=⟨w.heap.size,λc=>c=b\/Ac u=some c,O,λ_=>False,w,β,WS (M:=λc=>c=b\/Ac u=some c) hG⟩
  have hOS:∀c',OS β Xc (AQ (AQ (Fb (enter 0 args (Fi fn.ntmps)) k (.ptr k 0 0)) k (.var [.sl q 0]) 0) q (.row sz e xs) 0) c'->O c'\/c'=b\/Ac u=some c':=by
   intro c' hc';rcases hc' with hc'|hc'|⟨i,h1,h2⟩
   ·exact .inl hc'
   ·exact hc'.elim
   ·rcases hown i h1 with rfl|rfl
    ·rw[hβq]at h2;exact .inr (.inr h2)
    ·rw[hβk]at h2;simp[Ac]at h2;exact .inr (.inl h2.symm)
  have hsim:SimB Xc (λ_=>False) β (AQ (AQ (Fb (enter 0 args (Fi fn.ntmps)) k (.ptr k 0 0)) k (.var [.sl q 0]) 0) q (.row sz e xs) 0) { tmps:=vs++Array.replicate (fn.ntmps-vs.size) undef,defers:=[] } w:=by
   refine⟨?_,rfl,A7.refl _ _ _,qb _,λc' hc'=>⟨hO c' hc',λhm=>?_⟩,(λb hb=>hb.elim),?_,?_,?_,?_,?_,?_⟩
   ·rw[C6,C6,Ir,Mh,Pm];simp[hlen]
   ·rcases hm with rfl|hm
    ·exact hbO hc'
    ·exact(huO c' hm).1 hc'
   ·intro t v hv;rw[hget]
    have base:t≠k->JB β (AG (AQ (AQ (Fb (enter 0 args (Fi fn.ntmps)) k (.ptr k 0 0)) k (.var [.sl q 0]) 0) q (.row sz e xs) 0)) (OS β Xc (AQ (AQ (Fb (enter 0 args (Fi fn.ntmps)) k (.ptr k 0 0)) k (.var [.sl q 0]) 0) q (.row sz e xs) 0)) w (vs++Array.replicate (fn.ntmps-vs.size) undef) v (Af (enter 0 args (Fi fn.ntmps)) t).av:=by
     intro _;rw[hget0];split
     ·rename_i x hx
      have hlt:t<vs.size:=by rw[hlen];exact A5 hx
      rw[qA hlt]at hv;have hr:=hargs t v x hv hx
      cases x with
      | any=>trivial
      | d y=>exact Aw.mono (B0.of_sub hOS) (show Aw _ w v y from hr)
      | lim sz xs =>
        have hr':Aw (λc=>O c\/c=b\/Ac u=some c) w v (.list sz xs)/\RE v=xs.length:=hr;exact⟨hr'.1.mono (B0.of_sub hOS),hr'.2⟩
      | bot|ptr _ _ _|sl _ _|eptr _ _ _ _ _|tup _|under _ _ _|cc _ _|own _ _ _|optr _=>exact hr.elim
     ·trivial
    by_cases e1:t=q
    ·subst e1;rw[qf rfl];exact base hkq
    ·rw[qi e1];by_cases e2:t=k
     ·rw[qf e2];subst e2;have hlt:t<vs.size:=by rw[hlen];exact hkl
      rw[qA hlt,hvk]at hv
      cases hv
      exact⟨pY _,λ_=>⟨b,hβk,rfl⟩⟩
     ·rw[qi e2];exact base e2
   ·intro i;rw[hget];by_cases e1:i=q
    ·rw[qf e1,e1];exact⟨hsz,hxs,rvals,by rw[hβq];exact hrr,hrl.mono (B0.of_sub hOS)⟩
    ·rw[qi e1];by_cases e2:i=k
     ·rw[qf e2,e2];refine⟨b,#[u],T,hβk,hh,rfl,λj v c hv hc=>?_⟩
      cases j with
      | zero=>simp at hv hc;subst hv;subst hc;exact⟨pY _,λ_=>hβq.symm⟩
      | succ j=>simp at hc
     ·rw[qi e2,(hbx0 i).1];trivial
   ·intro i c' ho hb;refine⟨.inr ?_,λh=>h⟩;rcases hown i ho with rfl|rfl
    ·rw[hβq]at hb;exact .inr hb
    ·rw[hβk]at hb;simp[Ac]at hb;exact .inl hb.symm
   ·intro i j c' hi hj hbi hbj;rcases hown i hi with rfl|rfl<;>rcases hown j hj with rfl|rfl
    ·rfl
    ·rw[hβq]at hbi;rw[hβk]at hbj;simp[Ac]at hbj;exact((huO c' hbi).2 hbj.symm).elim
    ·rw[hβq]at hbj;rw[hβk]at hbi;simp[Ac]at hbi;exact((huO c' hbj).2 hbi.symm).elim
    ·rfl
   ·intro t g hg;rw[hget]at hg
    have h0:∀i,(Af (enter 0 args (Fi fn.ntmps)) i).av.guards=[]:=by
     intro i;rw[hget0];split
     ·rename_i x hx
      have hlt:i<vs.size:=by rw[hlen];exact A5 hx
      have hr:=hargs i vs[i] x (by simp[hlt]) hx
      cases x<;>first|rfl|exact hr.elim
     ·rfl
    by_cases e1:t=q
    ·rw[qf e1]at hg;rw[h0]at hg;cases hg
    ·rw[qi e1]at hg;by_cases e2:t=k
     ·rw[qf e2]at hg;cases hg
     ·rw[qi e2,h0]at hg;cases hg
   ·intro i _ _;rfl
  refine wp_mono (Ed hdraw c hr hsim) λe' a' w' hq'=>?_;obtain⟨β',S',hq',hs⟩:=hq'
  have Ef:nM S' k q sz e ys->a'.defers=[]/\∃v,(results fn a'.tmps).run P w'=.ok v w'/\∃v' u' T',Ending.returned v=.returned v'/\A7 w.heap.size (λc=>c=b\/Ac u=some c) w w' /\
   w'.heap[b]?=some (.cells #[u'] T' (0,0))/\(∀c,Ac u'=some c->Ac u=some c\/w.heap.size<=c)/\(∀x∈ys,x.cells.length=sz) /\
   ∃vals,Bj w' e sz u' ys.length vals/\Bl (λc=>O c\/c=b\/Ac u'=some c) w' vals (ys.flatMap D.cells):=by
   intro hq';unfold nM at hq';split at hq'<;>try exact hq'.elim
   rename_i av1 q' n hk1
   split at hq'<;>try exact hq'.elim
   rename_i av2 sz' e2 xs' m hk2
   obtain⟨rfl,rfl,rfl,rfl,rfl⟩:=hq';have hb1:=hs.boxes k;rw[hk1]at hb1;obtain⟨b1,vals,T1,j1,j2,j3,j4⟩:=hb1;have hini:=hs.ini k (by rw[hk1]) (by rw[hk1];simp);have hini':β' k=β k:=hini;rw[hini',hβk]at j1;simp only[Value.pointer.injEq,Option.some.injEq,Addr.mk.injEq]at j1;obtain⟨rfl,_⟩:=j1
   obtain⟨u',rfl⟩:∃u',vals=#[u']:=by
    have:vals.size=1:=j3;exact⟨vals[0],by apply Array.ext;simp[this];intro i h1 h2;simp at h2;subst h2;rfl⟩
   have hcu:=j4 0 u' (.sl q' n) rfl rfl;have hu':u'=β' q':=hcu.2 (by simp only[AG,hk2]);have hb2:=hs.boxes q';rw[hk2]at hb2;obtain⟨l1,l2,vals2,l3,l4⟩:=hb2;have o1:(Af S' k).box.owned=true:=by rw[hk1];rfl
   have o2:(Af S' q').box.owned=true:=by rw[hk2];rfl
   have hbk:Ac (β' k)=some b:=by rw[hini',hβk];rfl
   refine⟨hs.df,.tuple #[],?_,.tuple #[],u',T1,rfl,hs.below,j2,λc' hc'=>?_,l2,vals2,by rw[hu'];exact l3,l4.mono (B0.of_sub λc' hc'=>?_)⟩
   ·have:=NP (P:=P) (w:=w') (a:=a') (fn:=fn) (vs:=[]) (by rw[hres];rfl)
    simpa using this
   ·rw[hu']at hc';have:=(hs.mine q' c' o2 hc').1;rcases this with h1|h1
    ·exact .inr h1
    ·rcases h1 with h1|h1
     ·subst h1;exact(hkq (hs.inj q' k c' o2 o1 hc' hbk)).elim
     ·exact .inl h1
   ·rcases hc' with hc'|rfl|hc'
    ·exact .inl hc'
    ·exact .inr (.inr ⟨k,o1,hbk⟩)
    ·exact .inr (.inr ⟨q',o2,by rw[<-hu'];exact hc'⟩)
  cases e' with
  | normal=>exact Ef hq'
  | ret=>exact Ef hq'
  | exit id=>exact hq'.elim
  | goto l=>exact hq'.elim
  | panic ch=>exact hq'.elim
  | outgrown=>exact hq'.elim
 ·exact hr.elim
end
def Dk{α:Type}(F:(α->Prop)->Prop):Prop:=(∀K K':α->Prop,(∀x,K x->K' x)->F K->F K')/\∀K,F K->∃x,F (λy=>y=x)/\K x
def EF{α γ:Type}(F:(α->γ->Prop)->Prop):Prop:=(∀K K':α->γ->Prop,(∀x y,K x y->K' x y)->F K->F K')/\∀K,F K->∃x y,F (λx' y'=>x'=x/\y'=y)/\K x y
section
variable {α γ δ:Type}
theorem Ai(x:α):Dk λK:α->Prop=>K x:=⟨λ_ _ h hk=>h _ hk,λ_ hk=>⟨x,rfl,hk⟩⟩
theorem Ae:Dk λ_:α->Prop=>False:=⟨λ_ _ _ h=>h,λ_ h=>h.elim⟩
theorem Bb(x:α)(y:γ):EF λK:α->γ->Prop=>K x y:=⟨λ_ _ h hk=>h _ _ hk,λ_ hk=>⟨x,y,⟨rfl,rfl⟩,hk⟩⟩
theorem BO:EF λ_:α->γ->Prop=>False:=⟨λ_ _ _ h=>h,λ_ h=>h.elim⟩
theorem Az{F:(α->Prop)->Prop}{Gf:α->(γ->Prop)->Prop}(hF:Dk F)(hG:∀x,Dk (Gf x)):Dk λK:γ->Prop=>F λx=>Gf x K:=by
 refine⟨λK K' h hk=>hF.1 _ _ (λx hx=>(hG x).1 _ _ h hx) hk,λK hk=>?_⟩;obtain⟨x,h1,h2⟩:=hF.2 _ hk;obtain⟨y,h3,h4⟩:=(hG x).2 _ h2;exact⟨y,hF.1 _ _ (λz hz=>by subst hz;exact h3) h1,h4⟩
theorem BV{F:(α->γ->Prop)->Prop}{Gf:α->γ->(δ->Prop)->Prop}(hF:EF F)(hG:∀x y,Dk (Gf x y)):Dk λK:δ->Prop=>F λx y=>Gf x y K:=by
 refine⟨λK K' h hk=>hF.1 _ _ (λx y hx=>(hG x y).1 _ _ h hx) hk,λK hk=>?_⟩;obtain⟨x,y,h1,h2⟩:=hF.2 _ hk;obtain⟨z,h3,h4⟩:=(hG x y).2 _ h2;exact⟨z,hF.1 _ _ (λu v huv=>by obtain⟨rfl,rfl⟩:=huv;exact h3) h1,h4⟩
theorem Bz{ε:Type}{F:(α->γ->Prop)->Prop}{Gf:α->γ->(δ->ε->Prop)->Prop}(hF:EF F)(hG:∀x y,EF (Gf x y)):EF λK:δ->ε->Prop=>F λx y=>Gf x y K:=by
 refine⟨λK K' h hk=>hF.1 _ _ (λx y hx=>(hG x y).1 _ _ h hx) hk,λK hk=>?_⟩;obtain⟨x,y,h1,h2⟩:=hF.2 _ hk;obtain⟨z,z',h3,h4⟩:=(hG x y).2 _ h2;exact⟨z,z',hF.1 _ _ (λu v huv=>by obtain⟨rfl,rfl⟩:=huv;exact h3) h1,h4⟩
theorem Cp{F:(α->Prop)->Prop}(p:Prop)(hF:Dk F):Dk λK:α->Prop=>JA p (F K):=by
 refine⟨λK K' h hk=>⟨hk.1,hF.1 _ _ h hk.2⟩,λK hk=>?_⟩;obtain⟨x,h1,h2⟩:=hF.2 _ hk.2;exact⟨x,⟨hk.1,h1⟩,h2⟩
theorem Bd{F:(α->Prop)->Prop}(c:Prop)[Decidable c](hF:Dk F):Dk λK:α->Prop=>if c then F K else False:=by
 by_cases h:c
 ·simp only[h,if_true];exact hF
 ·simp only[h,if_false];exact Ae
theorem Rk(xs:List D)(i:Int):Dk λK:D->Prop=>At xs i K :=
 ⟨λ_ _ h hk=>by obtain⟨h0,x,h1,h2⟩:=hk.go;exact⟨⟨h0,x,h1,h _ h2⟩⟩,λ_ hk=>by obtain⟨h0,x,h1,h2⟩:=hk.go;exact⟨x,⟨⟨h0,x,h1,rfl⟩⟩,h2⟩⟩
theorem Lw{F F':(α->Prop)->Prop}(hF:Dk F)(hF':Dk F'):Dk λK:α->Prop=>Sz (F K) (F' K):=by
 refine⟨λK K' h hk=>⟨hk.go.imp (hF.1 _ _ h) (hF'.1 _ _ h)⟩,λK hk=>?_⟩;rcases hk.go with hk|hk
 ·obtain⟨x,h1,h2⟩:=hF.2 _ hk;exact⟨x,⟨.inl h1⟩,h2⟩
 ·obtain⟨x,h1,h2⟩:=hF'.2 _ hk;exact⟨x,⟨.inr h1⟩,h2⟩
theorem dl{F:List (Nat×Nat)->(α->Prop)->Prop}(hF:∀hs,Dk (F hs)):Dk λK:α->Prop=>mO λhs=>F hs K:=by
 refine⟨λK K' h hk=>?_,λK hk=>?_⟩
 ·obtain⟨hs,hk⟩:=hk.go;exact⟨⟨hs,(hF hs).1 _ _ h hk⟩⟩
 ·obtain⟨hs,hk⟩:=hk.go;obtain⟨x,h1,h2⟩:=(hF hs).2 _ hk;exact⟨x,⟨⟨hs,h1⟩⟩,h2⟩
theorem gP{P:Program}{f:FuncId}{nils:List Nat}{vs ms:List AV}{F:AV->(α->Prop)->Prop}{F':List AV->AV->(α->Prop)->Prop}(hF:∀r,Dk (F r))(hF':∀o r,Dk (F' o r)) :
 Dk λK:α->Prop=>Hs P f nils vs (λr=>F r K) ms (λo r=>F' o r K):=by
 refine⟨λK K' h hk=>?_,λK hk=>?_⟩
 ·rcases hk.go with⟨r,h1,h2⟩|⟨o,r,h1,h2⟩
  ·exact⟨.inl ⟨r,h1,(hF r).1 _ _ h h2⟩⟩
  ·exact⟨.inr ⟨o,r,h1,(hF' o r).1 _ _ h h2⟩⟩
 ·rcases hk.go with⟨r,h1,h2⟩|⟨o,r,h1,h2⟩
  ·obtain⟨x,h3,h4⟩:=(hF r).2 _ h2;exact⟨x,⟨.inl ⟨r,h1,h3⟩⟩,h4⟩
  ·obtain⟨x,h3,h4⟩:=(hF' o r).2 _ h2;exact⟨x,⟨.inr ⟨o,r,h1,h3⟩⟩,h4⟩
theorem H6{F:(α->Prop)->Prop}{Gf:α->(γ->δ->Prop)->Prop}(hF:Dk F)(hG:∀x,EF (Gf x)):EF λK:γ->δ->Prop=>F λx=>Gf x K:=by
 refine⟨λK K' h hk=>hF.1 _ _ (λx hx=>(hG x).1 _ _ h hx) hk,λK hk=>?_⟩;obtain⟨x,h1,h2⟩:=hF.2 _ hk;obtain⟨y,z,h3,h4⟩:=(hG x).2 _ h2;exact⟨y,z,hF.1 _ _ (λu hu=>by subst hu;exact h3) h1,h4⟩
theorem Rj{F:(α->γ->Prop)->Prop}(c:Prop)[Decidable c](hF:EF F):EF λK:α->γ->Prop=>if c then F K else False:=by
 by_cases h:c
 ·simp only[h,if_true];exact hF
 ·simp only[h,if_false];exact BO
def M6{α γ δ:Type}(F:(α->γ->δ->Prop)->Prop):Prop:=(∀K K':α->γ->δ->Prop,(∀x y z,K x y z->K' x y z)->F K->F K')/\∀K,F K->∃x y z,F (λx' y' z'=>x'=x/\y'=y/\z'=z)/\K x y z
theorem EO(x:α)(y:γ)(z:δ):M6 λK:α->γ->δ->Prop=>K x y z:=⟨λ_ _ h hk=>h _ _ _ hk,λ_ hk=>⟨x,y,z,⟨rfl,rfl,rfl⟩,hk⟩⟩
theorem H7:M6 λ_:α->γ->δ->Prop=>False:=⟨λ_ _ _ h=>h,λ_ h=>h.elim⟩
theorem WT{ε:Type}{F:(α->γ->δ->Prop)->Prop}{Gf:α->γ->δ->(ε->Prop)->Prop}(hF:M6 F)(hG:∀x y z,Dk (Gf x y z)):Dk λK:ε->Prop=>F λx y z=>Gf x y z K:=by
 refine⟨λK K' h hk=>hF.1 _ _ (λx y z hx=>(hG x y z).1 _ _ h hx) hk,λK hk=>?_⟩;obtain⟨x,y,z,h1,h2⟩:=hF.2 _ hk;obtain⟨u,h3,h4⟩:=(hG x y z).2 _ h2;exact⟨u,hF.1 _ _ (λa b c h=>by obtain⟨rfl,rfl,rfl⟩:=h;exact h3) h1,h4⟩
theorem Lv{ε ζ η:Type}{F:(α->γ->δ->Prop)->Prop}{Gf:α->γ->δ->(ε->ζ->η->Prop)->Prop}(hF:M6 F)(hG:∀x y z,M6 (Gf x y z)):M6 λK:ε->ζ->η->Prop=>F λx y z=>Gf x y z K:=by
 refine⟨λK K' h hk=>hF.1 _ _ (λx y z hx=>(hG x y z).1 _ _ h hx) hk,λK hk=>?_⟩;obtain⟨x,y,z,h1,h2⟩:=hF.2 _ hk;obtain⟨u,v,t,h3,h4⟩:=(hG x y z).2 _ h2;exact⟨u,v,t,hF.1 _ _ (λa b c h=>by obtain⟨rfl,rfl,rfl⟩:=h;exact h3) h1,h4⟩
theorem Qt{ε ζ η:Type}{F:(α->γ->Prop)->Prop}{Gf:α->γ->(ε->ζ->η->Prop)->Prop}(hF:EF F)(hG:∀x y,M6 (Gf x y)):M6 λK:ε->ζ->η->Prop=>F λx y=>Gf x y K:=by
 refine⟨λK K' h hk=>hF.1 _ _ (λx y hx=>(hG x y).1 _ _ h hx) hk,λK hk=>?_⟩;obtain⟨x,y,h1,h2⟩:=hF.2 _ hk;obtain⟨u,v,t,h3,h4⟩:=(hG x y).2 _ h2;exact⟨u,v,t,hF.1 _ _ (λa b h=>by obtain⟨rfl,rfl⟩:=h;exact h3) h1,h4⟩
theorem SD{ε ζ η:Type}{F:(α->Prop)->Prop}{Gf:α->(ε->ζ->η->Prop)->Prop}(hF:Dk F)(hG:∀x,M6 (Gf x)):M6 λK:ε->ζ->η->Prop=>F λx=>Gf x K:=by
 refine⟨λK K' h hk=>hF.1 _ _ (λx hx=>(hG x).1 _ _ h hx) hk,λK hk=>?_⟩;obtain⟨x,h1,h2⟩:=hF.2 _ hk;obtain⟨u,v,t,h3,h4⟩:=(hG x).2 _ h2;exact⟨u,v,t,hF.1 _ _ (λa h=>by subst h;exact h3) h1,h4⟩
theorem Cb{β:Type}(l:List β):Dk λK:List β->Prop=>C0 l K:=by simp only[BI];exact Ai l
end
theorem KE:∀l:List D,Dk λK=>O9 l K
 | []=>Ai _
 | x :: r=>by
   unfold O9;refine Az (KE r) λr=>?_;split<;>exact Ai _
theorem KF(x:D):Dk λK=>PP x K:=by
 cases x<;>simp only[PP]<;>first|exact Ai _|exact Az (KE _) λl=>Ai _
theorem O3(r:RV):EF λK=>Yn r K:=by cases r<;>simp only[Yn]<;>first|exact Bb _ _|exact BO
theorem bh(r:RV):EF λK=>mT r K:=by
 unfold mT;exact Bz (O3 r) λx b=>H6 (KF x) λy=>Bb _ _
theorem H8(σ:Nat->Nat->RV):∀l,EF λK=>Dv σ l K
 | []=>Bb _ _
 | .d x :: r=>by
   show EF λK=>Dv σ r λl b=>K (x :: l) b;exact Bz (H8 σ r) λl b=>Bb _ _
 | .sl id n :: r=>by
   show EF λK=>Yn (σ id n) λx b=>Dv σ r λl b'=>K (x :: l) (b++b');exact Bz (O3 _) λx b=>Bz (H8 σ r) λl b=>Bb _ _
 | .own _ _ _ :: _=>BO
theorem Lx:∀l:List D,Dk λK=>ZV l K
 | []=>Ai _
 | x :: r=>by
   show Dk λK=>ZV r λr=>K (.d x :: r);exact Az (Lx r) λr=>Ai _
theorem WV:∀l:List D,Dk λK=>Wx l K
 | []=>Ai _
 | x :: r=>by
   show Dk λK=>Wx r λr=>K (.d x :: r);exact Az (WV r) λr=>Ai _
theorem MW(σ:Nat->Nat->RV)(r:RV):EF λK=>M9 σ r K:=by
 cases r<;>simp only[M9]<;>first|exact Bb _ _|exact BO|skip
 ·exact H6 (KF _) λx=>Bb _ _
 ·exact Bz (H8 σ _) λl b=>H6 (KE _) λl=>H6 (Cb _) λl'=>Bb _ _
 ·exact H6 (Rk _ _) λx=>H6 (Cb _) λl=>Bb _ _
 ·exact Bz (H8 σ _) λl b=>H6 (KE _) λl=>Bb _ _
theorem WX(P:Program)(t:TypeId):Dk λK=>YD P t K:=by
 unfold YD;split
 ·exact Ai _
 ·exact Ae
theorem NC(P:Program)(σ:Nat->Nat->RV)(ρ:Operand->RV):∀l ts,EF λK=>Hu P σ ρ l ts K
 | [],_=>Bb _ _
 | x :: r,ts=>by
   unfold Hu;split
   ·split
    ·exact H6 (WX _ _) λv=>Bz (NC P σ ρ r _) λvs bs=>Bb _ _
    ·exact BO
   ·exact Bz (MW _ _) λv b=>Bz (NC P σ ρ r _) λvs bs=>Bb _ _
theorem Y6(σ:Nat->Nat->RV):∀l,M6 λK=>R1 σ l K
 | []=>H7
 | .d x :: r=>by
   show M6 λK=>PP x λx=>R1 σ r λl id n=>K (.d x :: l) id n;exact SD (KF _) λx=>Lv (Y6 σ r) λl id n=>EO _ _ _
 | .sl id n :: r=>by
   simp only[R1];split
   ·split
    ·exact EO _ _ _
    ·exact H7
   ·exact H7
 | .own _ _ _ :: _=>H7
theorem SH:∀l,M6 λK=>V3 l K
 | []=>H7
 | .d _ :: r=>SH r
 | .sl _ _ :: r=>SH r
 | .own sz e xs :: r=>by
   simp only[V3];split
   ·exact EO _ _ _
   ·exact H7
theorem bj(σ:Nat->Nat->RV)(r:RV):M6 λK=>SJ σ r K:=by
 unfold SJ;split
 ·exact EO _ _ _
 ·exact Qt (H8 σ _) λl b=>SD (KE _) λl=>EO _ _ _
 ·split
  ·exact Lv (Y6 σ _) λl id n=>EO _ _ _
  ·exact Qt (MW σ _) λv b=>EO _ _ _
 ·exact Qt (MW σ _) λv b=>EO _ _ _
theorem Pg(P:Program)(σ:Nat->Nat->RV)(ρ:Operand->RV):∀l ts,M6 λK=>G5 P σ ρ l ts K
 | [],_=>EO _ _ _
 | x :: r,ts=>by
   unfold G5;split
   ·split
    ·exact SD (WX _ _) λv=>Lv (Pg P σ ρ r _) λvs bs us=>EO _ _ _
    ·exact H7
   ·exact Lv (bj _ _) λv b u=>Lv (Pg P σ ρ r _) λvs bs us=>EO _ _ _
theorem Qy(ρ:Operand->RV):∀l,EF λK=>LG ρ l K
 | []=>Bb _ _
 | (i,x) :: r=>by
   show EF λK=>Yn (ρ x) λv b=>LG ρ r λvs bs=>K ((i,v) :: vs) (b++bs);exact Bz (O3 (ρ x)) λv b=>Bz (Qy ρ r) λvs bs=>Bb _ _
theorem Vy(ρ:Operand->RV):∀l,EF λK=>Nh ρ l K
 | []=>Bb _ _
 | (i,x) :: r=>by
   show EF λK=>mT (ρ x) λv b=>Nh ρ r λvs bs=>K ((i,v) :: vs) (b++bs);exact Bz (bh (ρ x)) λv b=>Bz (Vy ρ r) λvs bs=>Bb _ _
theorem Qv(σ:Nat->Nat->RV)(ρ:Operand->RV):∀l,EF λK=>Je σ ρ l K
 | []=>Bb _ _
 | x :: r=>by
   unfold Je;refine Bz (MW σ (ρ x)) λv b=>?_;split
   ·exact Rj _ (Bz (Qv σ ρ r) λl bs=>Bb _ _)
   ·exact BO
theorem Qu(σ:Nat->Nat->RV)(ρ:Operand->RV):∀l,EF λK=>Jd σ ρ l K
 | []=>Bb _ _
 | x :: r=>by
   unfold Jd;split
   ·exact Bz (Qu σ ρ r) λl bs=>Bb _ _
   ·refine Bz (MW σ (ρ x)) λv b=>?_;split
    ·exact Rj _ (Bz (Qu σ ρ r) λl bs=>Bb _ _)
    ·exact BO
theorem Zz(r:RV):Dk λK=>cellsOf r K:=by
 cases r<;>simp only[cellsOf]<;>first|exact Ai _|exact Ae|exact Lx _
theorem Vx(ρ:Operand->RV):∀l,Dk λK=>Ng ρ l K
 | []=>Ai _
 | (i,x) :: r=>by
   unfold Ng;exact Az (Zz _) λc=>Az (Vx ρ r) λps=>Ai _
theorem dq(P:Program)(f:FuncId)(args:List AV)(k sz:Nat)(e:TypeId)(xs:List D):Dk λK=>ZZ P f args k sz e xs K :=
 ⟨λ_ _ h hk=>by obtain⟨ys,h1,h2⟩:=hk.go;exact⟨⟨ys,h1,h _ h2⟩⟩,λ_ hk=>by obtain⟨ys,h1,h2⟩:=hk.go;exact⟨ys,⟨⟨ys,h1,rfl⟩⟩,h2⟩⟩
theorem dj(P:Program)(f:FuncId)(args:List AV)(k:Nat)(cs:List C):EF λK=>iL P f args k cs K :=
 ⟨λ_ _ h hk=>by obtain⟨cs',r,h1,h2⟩:=hk.go;exact⟨⟨cs',r,h1,h _ _ h2⟩⟩,λ_ hk=>by obtain⟨cs',r,h1,h2⟩:=hk.go;exact⟨cs',r,⟨⟨cs',r,h1,rfl,rfl⟩⟩,h2⟩⟩
theorem SE(ρ:Operand->RV)(k:Nat):∀l i,Dk λK=>MU ρ k l i K
 | [],_=>Ai _
 | x :: r,i=>by
   unfold MU;split
   ·exact Az (SE ρ k r _) λl=>Ai _
   ·split
    ·exact Az (KF _) λy=>Az (SE ρ k r _) λl=>Ai _
    ·exact Ae
theorem Qw(σ:Nat->Nat->RV):∀l,Dk λK=>I4 σ l K
 | []=>Ai _
 | c :: r=>by
   unfold I4;split
   ·exact Az (KF _) λx=>Az (Qw σ r) λl=>Ai _
   ·split
    ·exact Az (Qw σ r) λl=>Ai _
    ·exact Ae
   ·exact Ae
theorem SF:∀l l',EF λK=>RJ l l' K
 | [],[]=>Bb _ _
 | [],c :: r=>by cases c<;>exact BO
 | c :: r,[]=>by cases c<;>exact BO
 | c :: r,c' :: r'=>by
   cases c with
   | own _ _ _=>cases c'<;>exact BO
   | d x =>
     cases c' with
     | sl _ _=>exact BO
     | own _ _ _=>exact BO
     | d y =>
       show EF λK=>RJ r r' λl b=>K (.d y :: l) b;exact Bz (SF r r') λl b=>Bb _ _
   | sl q n =>
     cases c' with
     | sl _ _=>exact BO
     | d _=>exact BO
     | own sz e ys =>
       show EF λK=>RJ r r' λl b=>if Fj q b=true then K (.sl q (n+1) :: l) ((q,.row sz e ys,n+1) :: b)else False
       exact Bz (SF r r') λl b=>Rj (Fj q b=true) (Bb (C.sl q (n+1) :: l) ((q,B6.row sz e ys,n+1) :: b))
theorem jB{α:Type}{F:(α->Prop)->Prop}(c:Prop)[Decidable c](hF:Dk F):Dk λK:α->Prop=>if c then False else F K:=by
 by_cases h:c
 ·simp only[h,if_true];exact Ae
 ·simp only[h,if_false];exact hF
theorem Vw(r:RV):EF λK=>Oa r K:=by
 unfold Oa;split<;>first|exact Bb _ _|exact BO
theorem TG(P:Program)(t:TypeId)(cs:List D):Dk λK=>bA P t cs K:=by
 unfold bA;split
 ·split
  ·exact Az (Cb _) λl=>Bd _ (Ai _)
  ·exact Ae
 ·split
  ·exact Ai _
  ·exact Ae
 ·exact Ae
theorem jA(P:Program)(σ:Nat->Nat->RV)(t:TypeId)(cs:List C):Dk λK=>lD P σ t cs K:=by
 unfold lD;split
 ·split
  ·refine Az (Cb _) λl=>Bd _ ?_;split
   ·exact BV (H8 σ _) λl b=>Ai _
   ·exact Lw (BV (H8 σ _) λl b=>Ai _) (Bd _ (Ai _))
  ·exact Ae
 ·split<;>first|exact Ai _|exact Ae
 ·exact Ae
theorem di(op:BinOp)(k:IntKind)(a b:Int):Dk λK=>Ws op k a b K:=by
 cases op<;>simp only[Ws]<;>first|exact Ai _|exact Ae|exact Cp _ (Ai _)
theorem Vz(op:BinOp)(k:IntKind)(a b:Int):Dk λK=>UQ op k a b K:=by
 cases op<;>simp only[UQ]<;>first|exact Cp _ (Ai _)|exact Ae
theorem gQ(op:BinOp)(a b:ByteArray):Dk λK=>ef op a b K:=by
 cases op<;>simp only[ef]<;>first|exact Ai _|exact Ae|exact Cp _ (Ai _)
theorem WW(P:Program):∀(n:Nat)(t:TypeId)(xs ys:List D),Dk λK=>aV P n t xs ys K
 | 0,_,_,_=>Ae
 | n+1,t,xs,ys=>by
   unfold aV;split
   ·split
    ·exact Bd _ (Ai _)
    ·exact Ae
   ·split
    ·exact Ai _
    ·exact Ae
   ·split
    ·exact Ai _
    ·exact Ae
   ·rename_i fs _
    refine Cp _ ?_;generalize fs.toList=l
    induction l with
    | nil=>exact Ai _
    | cons f r ih=>exact Az (WW P n f.type _ _) λa=>Az ih λb=>Ai _
   ·exact Ae
theorem gO(P:Program)(t:TypeId)(op:BinOp)(x y:D):Dk λK=>aj P t op x y K:=by
 unfold aj;split
 ·split
  ·exact Vz _ _ _ _
  ·exact Vz _ _ _ _
  ·exact Bd _ (di _ _ _ _)
 ·exact gQ _ _ _
 ·split
  ·split<;>first|exact Ai _|exact Ae
  ·exact Ae
 ·refine Cp _ ?_;split
  ·exact Az (WW _ _ _ _ _) λb=>Ai _
  ·exact Az (WW _ _ _ _ _) λb=>Ai _
  ·exact Ae
 ·exact Ae
theorem jC(op:UnOp)(x:D):Dk λK=>oy op x K:=by
 cases op<;>cases x<;>simp only[oy]<;>first|exact Ai _|exact Ae
theorem dm(r:AV)(b:Bx):Dk λK=>bG r b K:=by
 unfold bG;split
 ·exact Ai _
 ·split<;>exact Ai _
theorem SG:∀(l:List C)(hs:List (Nat×Nat)),EF λK=>RP l hs K
 | [],[]=>Bb _ _
 | .d x :: r,hs=>by
   unfold RP;exact Bz (SG r hs) λl b=>Bb _ _
 | .own sz e xs :: r,(h,n) :: hs=>by
   unfold RP;exact Bz (SG r hs) λl b=>Rj _ (Bb _ _)
 | [],_ :: _=>BO
 | .own _ _ _ :: _,[]=>BO
 | .sl _ _ :: _,hs=>by unfold RP;exact BO
theorem bi(d n:Nat)(r:AV)(b:Bx):Dk λK=>gS d n r b K:=by
 unfold gS;split
 ·exact Bd _ (Ai _)
 ·exact Bd _ (Az (Lx _) λl=>Ai _)
 ·split
  ·exact Ai _
  ·exact dl λhs=>BV (SG _ _) λl hb=>Bd _ (Ai _)
 ·split
  ·exact Bd _ (Ai _)
  ·exact Ae
 all_goals first|exact Ai _|exact Ae
theorem MY:∀(us:List (Option (Nat×Nat)))(os:List AV),Dk λK=>LO us os K
 | [],[]=>Ai _
 | none :: us,o :: os=>by
   unfold LO;exact MY us os
 | some (id,n) :: us,o :: os=>by
   cases o<;>simp only[LO]<;>first|exact Ae|exact Az (MY us os) (λb=>Bd _ (Ai _))|exact Az (Lx _) λl=>Az (MY us os) (λb=>Bd _ (Ai _))|exact WT (SH _) λ_ _ _=>Az (MY us os) (λb=>Bd _ (Ai _))
 | [],_ :: _=>by simp only[LO];exact Ae
 | _ :: _,[]=>by simp only[LO];exact Ae
theorem dr(P:Program)(t:TypeId):Dk λK=>YQ P t K:=by
 unfold YQ;split
 ·split
  ·exact Az (KE _) λl=>Ai _
  ·split
   ·exact KF _
   ·exact Ae
  ·exact Ae
 ·exact Ae
theorem Qx(ρ:Operand->RV)(x:Option Operand)(n:Int):Dk λK=>cE ρ x n K:=by
 unfold cE;split
 ·exact Ai _
 ·split
  ·exact Ai _
  ·exact Ae
theorem ND(ρ:Operand->RV)(sz:Nat)(xs:List D)(lo hi mx:Option Operand)(b:Bx):Dk λK=>LL ρ sz xs lo hi mx b K:=by
 unfold LL;refine Az (Qx _ _ _) λl=>Az (Qx _ _ _) λh=>?_;split
 ·exact Cp _ (Ai _)
 ·by_cases hh:hi.isNone=true
  ·simp only[hh,if_true];exact Ae
  ·simp only[hh,qZ,if_false];split
   ·exact Cp _ (Ai _)
   ·exact Ae
theorem XR(r:Option D)(z:D):EF λK=>Tg r z K :=
 ⟨λ_ _ h hk=>by obtain⟨v,b,h1,h2,h3⟩:=hk.go;exact⟨⟨v,b,h1,h2,h _ _ h3⟩⟩,λ_ hk=>by obtain⟨v,b,h1,h2,h3⟩:=hk.go;exact⟨v,b,⟨⟨v,b,h1,h2,⟨rfl,rfl⟩⟩⟩,h3⟩⟩
theorem dp(P:Program)(kt et:TypeId)(x ix:RV)(ok:Bool):Dk λK=>fu P kt et x ix ok K:=by
 unfold fu;split
 ·split
  ·split
   ·refine Cp _ ?_;split
    ·refine BV (XR _ _) λv b=>?_;split
     ·exact Ai _
     ·exact Ai _
    ·exact Ae
   ·exact Ae
  ·exact Ae
 ·exact Ae
theorem gR(P:Program)(kt:TypeId)(m k x:RV):Dk λK=>mJ P kt m k x K:=by
 unfold mJ;split
 ·split
  ·split
   ·split
    ·exact Cp _ (Ai _)
    ·exact Ae
   ·exact Ae
  ·exact Ae
 ·exact Ae
set_option maxHeartbeats 1000000 in
theorem WU(P:Program)(σ:Nat->Nat->RV)(ρ:Operand->RV)(c:Call)(f:FuncId)(caps:List D)(d dv:Nat):Dk λK=>Tq P σ ρ c f caps d dv K:=by
 unfold Tq;refine Az (WV _) λcv=>BV (NC _ _ _ _ _) λvs bs=>WT (Pg _ _ _ _ _) λms mb us=>?_;exact gP (λr=>Az (dm _ _) λb=>bi _ _ _ _) λo r=>Az (MY _ _) λub=>Bd _ (bi _ _ _ _)
theorem fg(P:Program)(σ:Nat->Nat->RV)(ρ:Option (Nat×Bool)->Operand->RV)(g:Option (Nat×Bool))(o:Oper)(d n:Nat):Dk λK=>yA P σ ρ g o d n K:=by
 unfold yA;split
 ·exact Ai _
 ·split
  ·split
   ·exact Bd _ (Ai _)
   ·exact Ae
  ·exact Ai _
 ·split
  ·exact Ai _
  ·split
   ·split
    ·exact Ai _
    ·exact Ae
   ·split
    ·exact Ai _
    ·exact Ai _
    ·exact Ae
   ·exact Ae
  ·exact Ae
 ·split
  ·exact Ai _
  ·exact Ai _
  ·exact BV (O3 _) λv b=>Az (Lx _) λl=>Ai _
 ·split
  ·exact Az (Lx _) λl=>Ai _
  ·exact Ae
 ·split
  ·split
   ·refine Bd _ ?_;split
    ·refine BV (Qy _ _) λps b=>?_;split
     ·exact Az (Cb _) λl=>Ai _
     ·exact Ae
    ·refine Lw ?_ ?_
     ·refine BV (Qy _ _) λps b=>?_;split
      ·exact Az (Cb _) λl=>Ai _
      ·exact Ae
     ·refine Az (Lx _) λzc=>Az (Vx _ _) λps=>?_;split
      ·exact Az (Cb _) λl=>Ai _
      ·exact Ae
   ·exact Ae
  ·exact Ae
 ·split
  ·refine BV (Vy _ _) λps b=>?_;split
   ·exact Az (Cb _) λl=>Bd _ (Ai _)
   ·exact Ae
  ·exact Ae
 ·split
  ·split
   ·split
    ·exact Bd _ (Az (dr _ _) λz=>Cp _ (Ai _))
    ·exact Ae
   ·exact Ae
  ·exact Ae
 ·split
  ·split
   ·exact BV (Qv _ _ _) λl b=>Ai _
   ·exact Lw (BV (Qv _ _ _) λl b=>Ai _) (BV (Qu _ _ _) λl b=>Ai _)
  ·exact Ae
 ·split
  ·exact Ai _
  ·exact jA _ _ _ _
  ·exact Az (TG _ _ _) λx=>Ai _
  ·exact Az (Rk _ _) λx=>Az (TG _ _ _) λx=>Ai _
  ·exact Ae
 ·refine Bd _ ?_;split
  ·split
   ·split
    ·exact Bd _ (Az (Cb _) λl=>Ai _)
    ·exact BV (O3 _) λv b=>Bd _ (Az (Lx _) λl=>Az (Cb _) λl=>Ai _)
   ·refine Bd _ ?_;split
    ·exact Az (Cb _) λl=>Ai _
    ·exact BV (O3 _) λv b=>Bd _ (Az (Cb _) λl=>Ai _)
   ·exact Ae
  ·refine BV (bh _) λv b=>Az (Rk _ _) λy=>Bd _ ?_;split
   ·exact Az (Cb _) λl=>Ai _
   ·exact Bd _ (Ai _)
  ·exact Ae
 ·split<;>first|exact Ai _|exact Ae
 ·split
  ·exact Ai _
  ·split
   ·exact Ai _
   ·exact Az (gO _ _ _ _ _) λx=>Ai _
   ·exact Ae
  ·exact Ae
 ·split
  ·exact Ai _
  ·exact Az (jC _ _) λx=>Ai _
  ·exact Ae
 ·split
  ·split
   ·split<;>first|exact Ai _|exact Ae
   ·split<;>first|exact Ai _|exact Ae
   ·split
    ·split<;>first|exact Ai _|exact Ae
    ·exact Ae
   ·exact Ae
  ·exact Ae
 ·split
  ·split
   ·refine Bd _ ?_;split
    ·exact Ai _
    ·exact Ai _
    ·exact Az (Cb _) λl=>Ai _
    ·exact Ai _
    ·exact Ae
   ·exact Ae
  ·exact Ae
 ·split
  ·split
   ·split
    ·exact Ai _
    ·exact Az (TG _ _ _) λx=>Ai _
    ·exact Ae
   ·exact Ae
  ·exact Ae
 ·split
  ·split
   ·split
    ·exact Bd _ (Az (Rk _ _) λx=>Az (Cb _) λl=>Ai _)
    ·exact Bd _ (Az (Rk _ _) λx=>Az (Cb _) λl=>Ai _)
    ·exact Bd _ (Cp _ (Ai _))
    ·exact Ae
   ·exact Ae
  ·split
   ·split
    ·exact Bd _ (Cp _ (Az (Rk _ _) λx=>Ai _))
    ·exact Bd _ (Cp _ (Ai _))
    ·exact Ae
   ·exact Ae
  ·exact Ae
 ·split
  ·split
   ·split
    ·exact Bd _ (Cp _ (Az (TG _ _ _) λx=>Ai _))
    ·exact Ae
   ·exact Ae
  ·split
   ·split
    ·exact Cp _ (Ai _)
    ·exact Ae
   ·exact Ae
  ·exact Ae
 ·split
  ·split
   ·split
    ·exact Az (Qx _ _ _) λl=>Az (Qx _ _ _) λh=>Cp _ (Ai _)
    ·exact Ae
   ·exact Ae
  ·split
   ·exact Bd _ (ND _ _ _ _ _ _ _)
   ·exact Bd _ (ND _ _ _ _ _ _ _)
   ·exact Bd _ (ND _ _ _ _ _ _ _)
   ·refine Bd _ (Lw (ND _ _ _ _ _ _ _) ?_);split
    ·split
     ·exact Az (Qx _ _ _) λh=>Cp _ (Ai _)
     ·exact Ae
    ·exact Ae
   ·exact Ae
  ·exact Ae
 ·split
  ·split
   ·split
    ·exact WU _ _ _ _ _ _ _ _
    ·refine Lw ?_ (WU _ _ _ _ _ _ _ _);split
     ·exact Az (SE _ _ _ _) λvs=>Az (Qw _ _) λcs=>BV (dj _ _ _ _ _) λcs' r=>BV (SF _ _) λl ub=>Bd _ (Ai _)
     ·exact Ae
   ·split
    ·refine BV (NC _ _ _ _ _) λvs bs=>?_;split
     ·exact Az (Cb _) λcv=>Az (dq _ _ _ _ _ _ _) λys=>jB _ (Ai _)
     ·exact Ae
    ·exact Ae
   ·exact Ae
  ·split
   ·split
    ·split<;>first|exact Ai _|exact Ae
    ·split
     ·exact Ai _
     ·exact BV (Vw _) λ_ xs=>Ai _
    ·exact Ae
   ·exact Ae
  ·split
   ·split
    ·split<;>first|exact Ai _|exact Ae
    ·exact Ae
   ·exact Ae
  ·split
   ·split
    ·split<;>first|exact Ai _|exact Ae
    ·exact Ae
   ·exact Ae
  ·split
   ·split
    ·refine Bd _ (BV (Vw _) λsz' ys=>?_);dsimp only;split
     ·exact Bd _ (Cp _ (Ai _))
     ·exact Cp _ (Ai _)
     ·exact Bd _ (Cp _ (Ai _))
     ·exact Ae
    ·exact Ae
   ·exact Ae
  ·exact Ae
 ·split
  ·split<;>first|exact Ai _|exact Ae
  ·exact Ae
 ·split
  ·exact Ai _
  ·exact Ae
 ·split
  ·exact dp _ _ _ _ _ _
  ·exact Ae
 ·split
  ·exact gR _ _ _ _ _
  ·exact Ae
 ·exact Ae
def YT(σ σ':Nat->Nat->RV)(r:RV):Prop:=(∀id n o cs,r=.vptr id n o cs->∀id' n',C.sl id' n'∈cs->σ id' n'=σ' id' n')/\(∀f cs k id n rid rn,r=.clo f cs k id n rid rn->σ rid rn=σ' rid rn)/\∀cs,r=.cagg cs->∀id' n',C.sl id' n'∈cs->σ id' n'=σ' id' n'
section
variable {P:Program} {σ σ':Nat->Nat->RV} {ρ ρ':Operand->RV}
theorem Ij:∀{l:List C}{K:List D->Bx->Prop},(∀id n,C.sl id n∈l->σ id n=σ' id n)->Dv σ l K=Dv σ' l K
 | [],_,_=>rfl
 | .d x :: r,K,h=>by
   simp only[Dv];exact Ij λid n hm=>h id n (by simp[hm])
 | .sl id n :: r,K,h=>by
   simp only[Dv];rw[h id n (by simp)];congr 1;funext x b;exact Ij λid n hm=>h id n (by simp[hm])
 | .own _ _ _ :: _,_,_=>rfl
theorem Lk{r:RV}{K:AV->Bx->Prop}(h:YT σ σ' r):M9 σ r K=M9 σ' r K:=by
 cases r<;>try rfl
 case vptr id n o cs=>exact Ij (h.1 id n o cs rfl)
 case cagg cs=>exact Ij (h.2.2 cs rfl)
theorem Wq:∀{l:List C}{K:List C->Nat->Nat->Prop},(∀id n,C.sl id n∈l->σ id n=σ' id n)->R1 σ l K=R1 σ' l K
 | [],_,_=>rfl
 | .d x :: r,K,h=>by
   have ih:∀{K:List C->Nat->Nat->Prop},R1 σ r K=R1 σ' r K:=Wq λid n hm=>h id n (by simp[hm]);simp only[R1,ih]
 | .sl id n :: r,K,h=>by
   simp only[R1];rw[h id n (by simp)]
 | .own _ _ _ :: _,_,_=>rfl
theorem Z6{r:RV}{K:AV->Bx->Option (Nat×Nat)->Prop}(h:YT σ σ' r):SJ σ r K=SJ σ' r K:=by
 cases r<;>try rfl
 case cagg cs =>
  show(match Xa cs with|true=>R1 σ cs λl id n=>K (.cc none l) [] (some (id,n))|false=>M9 σ (.cagg cs) λv b=>K v b none)=(match Xa cs with|true=>R1 σ' cs λl id n=>K (.cc none l) [] (some (id,n))|false=>M9 σ' (.cagg cs) λv b=>K v b none)
  cases Xa cs with
  | true=>exact Wq (h.2.2 cs rfl)
  | false=>exact Lk h
 case vptr id n o cs =>
  cases o with
  | zero=>exact Ij (h.1 id n 0 cs rfl)
  | succ o =>
    show M9 σ (.vptr id n (o+1) cs) (λv b=>K v b none)=M9 σ' (.vptr id n (o+1) cs) (λv b=>K v b none);exact Lk h
theorem Tp:∀{l:List Operand}{ts:List TypeId}{K:List AV->Bx->Prop},(∀x∈l,ρ x=ρ' x/\YT σ σ' (ρ' x))->Hu P σ ρ l ts K=Hu P σ' ρ' l ts K
 | [],_,_,_=>rfl
 | x :: r,ts,K,h=>by
   have ih:∀{ts:List TypeId}{K:List AV->Bx->Prop},Hu P σ ρ r ts K=Hu P σ' ρ' r ts K:=Tp λy hy=>h y (by simp[hy]);simp only[Hu,ih];rw[(h x (by simp)).1,Lk (h x (by simp)).2]
theorem RX:∀{l:List Operand}{ts:List TypeId}{K:List AV->Bx->List (Option (Nat×Nat))->Prop},(∀x∈l,ρ x=ρ' x/\YT σ σ' (ρ' x))->G5 P σ ρ l ts K=G5 P σ' ρ' l ts K
 | [],_,_,_=>rfl
 | x :: r,ts,K,h=>by
   have ih:∀{ts:List TypeId}{K:List AV->Bx->List (Option (Nat×Nat))->Prop},G5 P σ ρ r ts K=G5 P σ' ρ' r ts K:=RX λy hy=>h y (by simp[hy]);simp only[G5,ih];rw[(h x (by simp)).1,Z6 (h x (by simp)).2]
theorem Tu:∀{l:List Operand}{K:List D->Bx->Prop},(∀x∈l,ρ x=ρ' x/\YT σ σ' (ρ' x))->Je σ ρ l K=Je σ' ρ' l K
 | [],_,_=>rfl
 | x :: r,K,h=>by
   have ih:∀{K:List D->Bx->Prop},Je σ ρ r K=Je σ' ρ' r K:=Tu λy hy=>h y (by simp[hy]);simp only[Je,ih];rw[(h x (by simp)).1,Lk (h x (by simp)).2]
theorem Vu:∀{l:List Operand}{i:Nat},(∀x∈l,ρ x=ρ' x)->LN ρ l i=LN ρ' l i
 | [],_,_=>rfl
 | x :: r,i,h=>by
   have ih:∀{i:Nat},LN ρ r i=LN ρ' r i:=Vu λy hy=>h y (by simp[hy]);simp only[LN,ih];rw[h x (by simp)]
theorem Vt{k:Nat}:∀{l:List Operand}{i:Nat}{K:List AV->Prop},(∀x∈l,ρ x=ρ' x)->MU ρ k l i K=MU ρ' k l i K
 | [],_,_,_=>rfl
 | x :: r,i,K,h=>by
   have ih:∀{i:Nat}{K:List AV->Prop},MU ρ k r i K=MU ρ' k r i K:=Vt λy hy=>h y (by simp[hy]);simp only[MU,ih];rw[h x (by simp)]
theorem TE:∀{l:List C}{K:List C->Prop},(∀id n,C.sl id n∈l->σ id n=σ' id n)->I4 σ l K=I4 σ' l K
 | [],_,_=>rfl
 | c :: r,K,h=>by
   have ih:∀{K:List C->Prop},I4 σ r K=I4 σ' r K:=TE λid n hm=>h id n (by simp[hm])
   cases c with
   | d x=>simp only[I4,ih]
   | sl id n=>simp only[I4,ih];rw[h id n (by simp)]
   | own _ _ _=>rfl
theorem VA:∀{l:List Operand},(∀x∈l,ρ x=ρ' x)->TX ρ l=TX ρ' l
 | [],_=>rfl
 | x :: r,h=>by
   have ih:TX ρ r=TX ρ' r:=VA λy hy=>h y (by simp[hy]);simp only[TX,ih,h x (by simp)]
theorem Tt:∀{l:List Operand}{K:List C->Bx->Prop},(∀x∈l,ρ x=ρ' x/\YT σ σ' (ρ' x))->Jd σ ρ l K=Jd σ' ρ' l K
 | [],_,_=>rfl
 | x :: r,K,h=>by
   have ih:∀{K:List C->Bx->Prop},Jd σ ρ r K=Jd σ' ρ' r K:=Tt λy hy=>h y (by simp[hy]);simp only[Jd,ih];rw[(h x (by simp)).1,Lk (h x (by simp)).2]
theorem P0:∀{l:List C},(∀id n,C.sl id n∈l->σ id n=σ' id n)->QS σ l=QS σ' l
 | [],_=>rfl
 | .d _ :: r,h=>P0 (l:=r) λid n hm=>h id n (by simp[hm])
 | .sl id n :: r,h=>by simp only[QS];rw[h id n (by simp),P0 (l:=r) λid n hm=>h id n (by simp[hm])]
 | .own _ _ _ :: _,_=>rfl
theorem gV{t:TypeId}{cs:List C}{K:GJ->Prop}(h:∀id n,C.sl id n∈cs->σ id n=σ' id n):lD P σ t cs K=lD P σ' t cs K:=by
 unfold lD;split
 ·split
  ·rename_i i _
   rw[BI,BI];have e1:∀K':List D->Bx->Prop,Dv σ (cs.take i.size) K'=Dv σ' (cs.take i.size) K':=λK'=>Ij λid n hm=>h id n (qV hm);have e2:=P0 (σ:=σ) (σ':=σ') (l:=cs.take i.size) λid n hm=>h id n (qV hm);simp only[e1,e2]
  ·rfl
 ·rfl
 ·rfl
theorem Ua:∀{l:List (Nat×Operand)}{K:List (Nat×D)->Bx->Prop},(∀x∈l,ρ x.2=ρ' x.2)->LG ρ l K=LG ρ' l K
 | [],_,_=>rfl
 | (i,x) :: r,K,h=>by
   simp only[LG];rw[h (i,x) (by simp)];congr 1;funext v b;exact Ua λy hy=>h y (by simp[hy])
theorem VH:∀{l:List (Nat×Operand)},(∀x∈l,ρ x.2=ρ' x.2)->Uj ρ l=Uj ρ' l
 | [],_=>rfl
 | (i,x) :: r,h=>by
   have ih:Uj ρ r=Uj ρ' r:=VH λy hy=>h y (by simp[hy]);simp only[Uj,ih,h (i,x) (by simp)]
theorem TY:∀{l:List (Nat×Operand)}{K:List (Nat×List C)->Prop},(∀x∈l,ρ x.2=ρ' x.2)->Ng ρ l K=Ng ρ' l K
 | [],_,_=>rfl
 | (i,x) :: r,K,h=>by
   simp only[Ng];rw[h (i,x) (by simp)];congr 1;funext c;exact TY λy hy=>h y (by simp[hy])
theorem Uc:∀{l:List (Nat×Operand)}{K:List (Nat×D)->Bx->Prop},(∀x∈l,ρ x.2=ρ' x.2)->Nh ρ l K=Nh ρ' l K
 | [],_,_=>rfl
 | (i,x) :: r,K,h=>by
   simp only[Nh];rw[h (i,x) (by simp)];congr 1;funext v b;exact Uc λy hy=>h y (by simp[hy])
theorem Rn{x:Option Operand}{n:Int}{K:Int->Prop}(h:∀y,x=some y->ρ y=ρ' y):cE ρ x n K=cE ρ' x n K:=by
 cases x with
 | none=>rfl
 | some x=>unfold cE;simp only;rw[h x rfl]
theorem ZI{sz:Nat}{xs:List D}{lo hi mx:Option Operand}{b:Bx}{K:GJ->Prop}(h1:∀y,lo=some y->ρ y=ρ' y)(h2:∀y,hi=some y->ρ y=ρ' y)(h3:∀y,mx=some y->ρ y=ρ' y) :
 LL ρ sz xs lo hi mx b K=LL ρ' sz xs lo hi mx b K:=by
 unfold LL;rw[Rn h1];congr 1;funext l;rw[Rn h2];congr 1;funext h
 cases mx with
 | none=>rfl
 | some m=>simp only;rw[h3 m rfl]
end
set_option maxHeartbeats 1000000 in
theorem ly{P:Program}{σ σ':Nat->Nat->RV}{ρ ρ':Option (Nat×Bool)->Operand->RV}{g:Option (Nat×Bool)}{o:Oper}{d n n':Nat}{K:GJ->Prop}
 (h:∀g' x,x∈o.op.operands.toList->ρ g' x=ρ' g' x) (hs:∀g' x,x∈o.op.operands.toList->YT σ σ' (ρ' g' x)) (hn:bJ o.op=true->n=n') (hy:yA P σ ρ g o d n K):yA P σ' ρ' g o d n' K:=by
 have hn':∀{c:Bool},bJ o.op=c->c=true->n=n':=λe1 e2=>hn (e1.trans e2);unfold yA at hy ⊢;split at hy
 ·rename_i x ho
  simp only[ho]at h ⊢;rw[h g x (by simp[Op.operands])]at hy;exact hy
 ·rename_i x ho
  have:=hn' (by rw[ho];rfl) rfl;subst this;simp only[ho]at h ⊢;rw[h g x (by simp[Op.operands])]at hy;exact hy
 ·rename_i t x y ho
  simp only[ho]at h ⊢;rw[h g (.tmp t) (by simp[Op.operands]),h (some (t,true)) x (by simp[Op.operands]),h (some (t,false)) y (by simp[Op.operands])]at hy;exact hy
 ·rename_i T x ho
  have:=hn' (by rw[ho];rfl) rfl;subst this;simp only[ho]at h ⊢;rw[h g x (by simp[Op.operands])]at hy;exact hy
 ·rename_i T ho
  have:=hn' (by rw[ho];rfl) rfl;subst this
  first|exact hy|(simp only[ho];exact hy)
 ·rename_i t parts ho
  simp only[ho]at h ⊢;have e:∀(K':List (Nat×D)->Bx->Prop),LG (ρ g) parts.toList K'=LG (ρ' g) parts.toList K':=λK'=>Ua λx hx=>h g x.2 (by simp only[Op.operands];simp;exact⟨x.1,by simpa using hx⟩);have e2:∀(K':List (Nat×List C)->Prop),Ng (ρ g) parts.toList K'=Ng (ρ' g) parts.toList K':=λK'=>TY λx hx=>h g x.2 (by simp only[Op.operands];simp;exact⟨x.1,by simpa using hx⟩);have e3:Uj (ρ g) parts.toList=Uj (ρ' g) parts.toList:=VH λx hx=>h g x.2 (by simp only[Op.operands];simp;exact⟨x.1,by simpa using hx⟩);simp only[e,e2,e3]at hy;exact hy
 ·rename_i t m parts ho
  have:=hn' (by rw[ho];rfl) rfl;subst this;simp only[ho]at h ⊢;have e:∀(K':List (Nat×D)->Bx->Prop),Nh (ρ g) parts.toList K'=Nh (ρ' g) parts.toList K':=λK'=>Uc λx hx=>h g x.2 (by simp only[Op.operands];simp;exact⟨x.1,by simpa using hx⟩);simp only[e]at hy;exact hy
 ·rename_i t l c ho
  have:=hn' (by rw[ho];rfl) rfl;subst this;simp only[ho]at h ⊢;rw[h g l (by simp[Op.operands]),h g c (by simp[Op.operands])]at hy;exact hy
 ·rename_i f first caps ho
  simp only[ho]at h hs ⊢
  have e:∀(K':List D->Bx->Prop),Je σ (ρ g) caps.toList K'=Je σ' (ρ' g) caps.toList K':=λK'=>Tu λx hx=>by
   have hx':x∈caps:=by simpa using hx
   have hm:x∈(Op.makeFunc (.func f) first caps).operands.toList:=by simp[Op.operands,hx']
   exact⟨h g x hm,hs g x hm⟩
  have e2:∀(K':List C->Bx->Prop),Jd σ (ρ g) caps.toList K'=Jd σ' (ρ' g) caps.toList K':=λK'=>Tt λx hx=>by
   have hx':x∈caps:=by simpa using hx
   have hm:x∈(Op.makeFunc (.func f) first caps).operands.toList:=by simp[Op.operands,hx']
   exact⟨h g x hm,hs g x hm⟩
  have e3:TX (ρ g) caps.toList=TX (ρ' g) caps.toList:=VA λx hx=>by
   have hx':x∈caps:=by simpa using hx
   exact h g x (by simp[Op.operands,hx'])
  simp only[e,e2,e3]at hy;exact hy
 ·rename_i t x ho
  simp only[ho]at h hs ⊢;have h2:=(hs g x (by simp[Op.operands])).1;rw[h g x (by simp[Op.operands])]at hy;split at hy
  ·rename_i e;first|exact hy|(simp only[e];exact hy)
  ·rename_i id n' o' cs e
   try simp only[e]
   rw[gV (σ':=σ') λi m hm=>h2 _ _ _ _ e i m (ri hm)]at hy;exact hy
  ·rename_i e;first|exact hy|(simp only[e];exact hy)
  ·rename_i e;first|exact hy|(simp only[e];exact hy)
  ·exact hy.elim
 ·rename_i t p x ho
  simp only[ho]at h ⊢;rw[h g p (by simp[Op.operands]),h g x (by simp[Op.operands])]at hy;exact hy
 ·rename_i x ho
  simp only[ho]at h ⊢;rw[h g x (by simp[Op.operands])]at hy;exact hy
 ·rename_i op t x y U ho
  simp only[ho]at h ⊢;rw[h g x (by simp[Op.operands]),h g y (by simp[Op.operands])]at hy;exact hy
 ·rename_i op t x ho
  simp only[ho]at h ⊢;rw[h g x (by simp[Op.operands])]at hy;exact hy
 ·rename_i s t x ho
  simp only[ho]at h ⊢;rw[h g x (by simp[Op.operands])]at hy;exact hy
 ·rename_i s x f ho
  simp only[ho]at h ⊢;rw[h g x (by simp[Op.operands])]at hy;exact hy
 ·rename_i s x f ho
  simp only[ho]at h ⊢;rw[h g x (by simp[Op.operands])]at hy;exact hy
 ·rename_i t x ix ho
  simp only[ho]at h ⊢;rw[h g x (by simp[Op.operands]),h g ix (by simp[Op.operands])]at hy;exact hy
 ·rename_i t x ix ho
  simp only[ho]at h ⊢;rw[h g x (by simp[Op.operands]),h g ix (by simp[Op.operands])]at hy;exact hy
 ·rename_i t x lo hi mx ho
  simp only[ho]at h ⊢;have h1:∀y,lo=some y->ρ g y=ρ' g y:=λy e=>h g y (by subst e;simp[Op.operands]);have h2:∀y,hi=some y->ρ g y=ρ' g y:=λy e=>h g y (by subst e;simp[Op.operands]);have h3:∀y,mx=some y->ρ g y=ρ' g y:=λy e=>h g y (by subst e;simp[Op.operands]);rw[h g x (by simp[Op.operands])]at hy;have e1:∀{sz:Nat}{xs:List D}{b:Bx}{K:GJ->Prop},LL (ρ g) sz xs lo hi mx b K=LL (ρ' g) sz xs lo hi mx b K:=ZI h1 h2 h3;have e2:∀{n:Int}{K:Int->Prop},cE (ρ g) lo n K=cE (ρ' g) lo n K:=Rn h1;have e3:∀{n:Int}{K:Int->Prop},cE (ρ g) hi n K=cE (ρ' g) hi n K:=Rn h2;simp only[e1,e2,e3]at hy;exact hy
 ·rename_i c ho
  simp only[ho]at h hs ⊢;split at hy
  ·rename_i fo hc
   have:=hn' (by rw[ho];simp only[bJ,hc]) rfl;subst this;have h1:=h g fo (by simp[Op.operands,Call.operands,hc])
   have hx:∀x∈c.args.toList,ρ g x=ρ' g x/\YT σ σ' (ρ' g x):=λx hx=>by
    have hm:x∈(Op.call c).operands.toList:=by simp[Op.operands,Call.operands];exact .inr (by simpa using hx)
    exact⟨h g x hm,hs g x hm⟩
   have e:∀(K':List AV->Bx->Prop),Hu P σ (ρ g) c.args.toList c.argTypes.toList K'=Hu P σ' (ρ' g) c.args.toList c.argTypes.toList K':=λK'=>Tp hx;have e':∀(K':List AV->Bx->List (Option (Nat×Nat))->Prop),G5 P σ (ρ g) c.args.toList c.argTypes.toList K'=G5 P σ' (ρ' g) c.args.toList c.argTypes.toList K':=λK'=>RX hx;have h2:=(hs g fo (by simp[Op.operands,Call.operands,hc])).2.1;have e3:∀(f:FuncId)(caps:List D)(d dv:Nat)(K':GJ->Prop),Tq P σ (ρ g) c f caps d dv K'=Tq P σ' (ρ' g) c f caps d dv K':=λf caps d dv K'=>by unfold Tq;simp only[e,e']
   have e4:LN (ρ g) c.args.toList 0=LN (ρ' g) c.args.toList 0:=Vu λx hm=>(hx x hm).1;have e5:∀(k:Nat)(K':List AV->Prop),MU (ρ g) k c.args.toList 0 K'=MU (ρ' g) k c.args.toList 0 K':=λk K'=>Vt λx hm=>(hx x hm).1;simp only[h1,e,e3,e4,e5]at hy
   try simp only[hc]
   split at hy
   ·rename_i hfo
    try simp only[hfo]
    cases hgf:LN (ρ' g) c.args.toList 0 with
    | none=>rw[hgf]at hy;exact hy
    | some q =>
      obtain⟨k,id,n1,cl⟩:=q;rw[hgf]at hy;obtain⟨j,x,_,hxj,hxr⟩:=Qs hgf;have e6:∀(K':List C->Prop),I4 σ cl K'=I4 σ' cl K':=λK'=>TE λi m hm=>(hx x (qn hxj)).2.1 _ _ _ _ hxr i m hm;simp only[e6]at hy;exact hy
   ·rename_i hfo
    rw[h2 _ _ _ _ _ _ _ hfo]at hy
    first|exact hy|(simp only[hfo];exact hy)
   ·exact hy.elim
  ·rename_i hc
   try simp only[hc]
   split at hy
   ·rename_i x t hx ht
    have h1:=h g x (by simp only[Op.operands,Call.operands,hc];rw[Za hx];simp);simp only[h1]at hy
    try simp only[hx,ht]
    exact hy
   ·exact hy.elim
  ·rename_i hc
   try simp only[hc]
   split at hy
   ·rename_i x y hx
    have h1:=h g x (by simp only[Op.operands,Call.operands,hc];rw[KW hx];simp);have h2:=h g y (by simp only[Op.operands,Call.operands,hc];rw[KW hx];simp);simp only[h1,h2]at hy
    try simp only[hx]
    exact hy
   ·exact hy.elim
  ·rename_i hc
   try simp only[hc]
   split at hy
   ·rename_i x y hx
    have h1:=h g x (by simp only[Op.operands,Call.operands,hc];rw[KW hx];simp);have h2:=h g y (by simp only[Op.operands,Call.operands,hc];rw[KW hx];simp);simp only[h1,h2]at hy
    try simp only[hx]
    exact hy
   ·exact hy.elim
  ·rename_i hc
   have:=hn' (by rw[ho];simp only[bJ,hc]) rfl;subst this
   try simp only[hc]
   split at hy
   ·rename_i x y t u hx ht
    have h1:=h g x (by simp only[Op.operands,Call.operands,hc];rw[KW hx];simp);have h2:=h g y (by simp only[Op.operands,Call.operands,hc];rw[KW hx];simp);simp only[h1,h2]at hy
    try simp only[hx,ht]
    exact hy
   ·exact hy.elim
  ·exact hy.elim
 ·rename_i t i ho
  simp only[ho]at h ⊢;rw[h g t (by simp[Op.operands])]at hy;exact hy
 ·rename_i t ho
  have:=hn' (by rw[ho];rfl) rfl;subst this;exact hy
 ·rename_i t x ix ok ho
  simp only[ho]at h ⊢;rw[h g x (by simp[Op.operands]),h g ix (by simp[Op.operands])]at hy;exact hy
 ·rename_i t m k x ho
  simp only[ho]at h ⊢;rw[h g m (by simp[Op.operands]),h g k (by simp[Op.operands]),h g x (by simp[Op.operands])]at hy;exact hy
 ·exact hy.elim
def VO(S T:AS)(t:Nat):Prop:=(Af S t).av=(Af T t).av
def Uu(S T:AS)(b:Nat):Prop:=(Af S b).box=(Af T b).box/\(Af S b).ver=(Af T b).ver
theorem Wi:∀(S:AS)(d:Nat)(K:Nat->Prop),d<S.length->K (Af S d).ver->UW S d K
 | [],_,_,h,_=>by grind
 | ⟨_,_,_⟩ :: _,0,_,_,h=>h
 | s :: r,d+1,K,hd,h=>Wi r d K (by grind) h
theorem jh{x:Option Nat}{K:Nat->Prop}(h:K (x.getD 0)):dK x K:=by cases x<;>exact h
theorem GZ(g:Option (Nat×Bool))(v:AV):∀i∈Ky (o0 g v),i∈Ky v:=by
 cases v<;>try (intro i hi;exact hi)
 case under t w y =>
  intro i hi;simp only[o0]at hi
  cases g with
  | none=>simp[Ky]at hi
  | some p =>
    obtain⟨t',w'⟩:=p;simp only at hi;split at hi
    ·exact hi
    ·simp[Ky]at hi
theorem JE:∀{cs:List C}{id n:Nat},C.sl id n∈cs->id∈MB cs
 | [],_,_,h=>by grind
 | c :: r,id,n,h=>by
   rcases List.mem_cons.1 h with h|h
   ·subst h;simp[MB]
   ·have:=JE h
    cases c<;>simp[MB,this]
theorem M2{S T:AS}{v:AV}(h:∀i∈Ky v,Uu S T i):res S v=res T v:=by
 cases v<;>try rfl
 case ptr id n o =>
  obtain⟨h1,h2⟩:=h id (by simp[Ky]);simp only[res];generalize Af S id=s at *;generalize Af T id=t at *;obtain⟨_,b,m⟩:=s;obtain⟨_,b',m'⟩:=t;grind
 case sl id n =>
  obtain⟨h1,h2⟩:=h id (by simp[Ky]);simp only[res];generalize Af S id=s at *;generalize Af T id=t at *;obtain⟨_,b,m⟩:=s;obtain⟨_,b',m'⟩:=t;grind
 case eptr id n sz i o =>
  obtain⟨h1,h2⟩:=h id (by simp[Ky]);simp only[res];generalize Af S id=s at *;generalize Af T id=t at *;obtain⟨_,b,m⟩:=s;obtain⟨_,b',m'⟩:=t;grind
 case cc k xs =>
  cases k with
  | none=>rfl
  | some f =>
    simp only[res];split
    ·rename_i j id n hat
     obtain⟨h1,h2⟩:=h id (by simp only[Ky];exact JE (qn (QX hat)));generalize Af S id=s at *;generalize Af T id=t at *;obtain⟨_,b,m⟩:=s;obtain⟨_,b',m'⟩:=t;grind
    ·rfl
def RR(S:AS)(all:List Oper)(o:Oper)(e:GJ):List Nat:=XN S (Ek all o) o++e.homes.map (·.1)
theorem RQ{S T:AS}(hl:S.length=T.length):∀{hs:List (Nat×Nat)},(∀b∈hs.map (·.1),Uu S T b)->G4 S hs=G4 T hs
 | [],_=>rfl
 | (h,n) :: r,hb=>by
   simp only[G4];rw[hl,(hb h (by simp)).2,RQ hl λb hm=>hb b (by grind)]
theorem Nc:∀{l:List Operand}{t:Nat},Operand.tmp t∈l->t∈UB l
 | [],_,h=>by grind
 | x :: r,t,h=>by
   rcases List.mem_cons.1 h with h|h
   ·subst h;simp[UB]
   ·have:=Nc h
    cases x<;>simp[UB,this]
section
variable {P:Program} {all:List Oper} {o:Oper}
theorem ρ_congr{S T:AS}(hm:Ld S o=false)(h1:∀t∈Ek all o,VO S T t)(h2:∀b∈XN S (Ek all o) o,Uu S T b):∀g x,x∈o.op.operands.toList->ρOf S g x=ρOf T g x:=by
 intro g x hx;unfold ρOf
 cases x with
 | tmp t =>
   have ht:t∈Ek all o:=by simp only[Ek,rC];exact .inr (Nc hx)
   simp only[ev];have ha:=h1 t ht;unfold VO at ha;rw[<-ha];refine M2 λi hi=>h2 i ?_;simp only[XN,hm,rC,rG];exact .inr ⟨t,ht,i,GZ g _ i hi,by simp[fF]⟩
 | const v =>
   simp only[ev];refine M2 λi hi=>?_;have:=GZ g _ i hi
   exfalso
   revert this;unfold cN;split<;>simp[Ky]
 | global q =>
   simp only[ev];refine M2 λi hi=>?_;have:=GZ g _ i hi
   exfalso
   revert this;split<;>simp[Ky]
 | func f =>
   simp only[ev];exact M2 λi hi=>by have:=GZ g _ i hi;simp[Ky]at this
theorem kG{S:AS}{v:AV}{id n o:Nat}{cs:List C}(h:res S v=.vptr id n o cs):id∈Ky v/\(Af S id).box=.var cs:=by
 cases v<;>simp only[res]at h<;>try (cases h;done)
 case ptr id' n' o' =>
  split at h
  ·rename_i m hs
   split at h
   ·cases h;exact⟨by simp[Ky],by rw[hs]⟩
   ·cases h
  all_goals grind
 case sl id' n' =>
  grind
 case eptr =>
  grind
 grind
theorem my{S:AS}{v:AV}{f:FuncId}{cs:List C}{k id n rid rn:Nat}(h:res S v=.clo f cs k id n rid rn):id∈Ky v/\(Af S id).box=.var [.sl rid rn]:=by
 cases v<;>simp only[res]at h<;>try (cases h;done)
 case ptr id' n' o' =>
  grind
 case sl id' n' =>
  grind
 case eptr =>
  grind
 case cc k' xs =>
  cases k' with
  | none=>cases h
  | some f' =>
    simp only at h;split at h
    ·rename_i j id' n' hat
     split at h
     ·rename_i av rid' rn' m hs
      split at h
      ·cases h
       exact⟨by simp only[Ky];exact JE (qn (QX hat)),by rw[hs]⟩
      ·grind
     ·cases h
    ·cases h
theorem kF{S:AS}{v:AV}{cs:List C}(h:res S v=.cagg cs):v=.cc none cs:=by
 cases v<;>simp only[res]at h<;>try (cases h;done)
 case ptr id' n' o' =>
  grind
 case sl id' n' =>
  grind
 case eptr =>
  grind
 grind
theorem m9{S T:AS}(hmv:Ld S o=false)(h1:∀t∈Ek all o,VO S T t)(h2:∀b∈XN S (Ek all o) o,Uu S T b):∀g x,x∈o.op.operands.toList->YT (σOf S) (σOf T) (ρOf T g x):=by
 intro g x hx
 have key:∀(id:Nat)(cs:List C),id∈Ky (o0 g (ev S x))->(Af S id).box=.var cs->∀id' n',C.sl id' n'∈cs->σOf S id' n'=σOf T id' n':=by
  intro id cs h3 h4 id' n' hm;refine M2 λi hi=>?_;simp only[Ky,rR]at hi;subst hi
  cases x with
  | tmp t =>
    have ht:t∈Ek all o:=by simp only[Ek,rC];exact .inr (Nc hx)
    refine h2 _ ?_;simp only[XN,hmv,rC,rG];refine .inr ⟨t,ht,id,GZ g _ id h3,?_⟩;simp only[fF,h4,sf];exact .inr (JE hm)
  | const v =>
    have:=GZ g _ id h3
    exfalso
    revert this;simp only[ev];unfold cN;split<;>simp[Ky]
  | global q =>
    have:=GZ g _ id h3
    exfalso
    revert this;simp only[ev];split<;>simp[Ky]
  | func f=>have:=GZ g _ id h3;simp[ev,Ky]at this
 refine⟨λid n of cs hr id' n' hm=>?_,λf cs k id n rid rn hr=>?_,λcs hr id' n' hm=>?_⟩
 ·rw[<-ρ_congr hmv h1 h2 g x hx]at hr;obtain⟨h3,h4⟩:=kG hr;grind
 ·rw[<-ρ_congr hmv h1 h2 g x hx]at hr;obtain⟨h3,h4⟩:=my hr;grind
 ·rw[<-ρ_congr hmv h1 h2 g x hx]at hr;have hu:=kF hr;have hi':id'∈Ky (o0 g (ev S x)):=by rw[hu];exact JE hm
  refine M2 λi hi=>?_;simp only[Ky,rR]at hi;subst hi
  cases x with
  | tmp t =>
    have ht:t∈Ek all o:=by simp only[Ek,rC];exact .inr (Nc hx)
    refine h2 _ ?_;simp only[XN,hmv,rC,rG];exact .inr ⟨t,ht,i,GZ g _ i hi',by simp[fF]⟩
  | const v =>
    have:=GZ g _ i hi'
    exfalso
    revert this;simp only[ev];unfold cN;split<;>simp[Ky]
  | global q =>
    have:=GZ g _ i hi'
    exfalso
    revert this;simp only[ev];split<;>simp[Ky]
  | func f=>have:=GZ g _ i hi';simp[ev,Ky]at this
theorem aW{S T:AS}(h1:∀t∈Ek all o,VO S T t){x:Operand}(hx:x∈o.op.operands.toList):ev S x=ev T x:=by
 cases x with
 | tmp t =>
   have ht:t∈Ek all o:=by simp only[Ek,rC];exact .inr (Nc hx)
   exact h1 t ht
 | const v=>rfl
 | global q=>rfl
 | func f=>rfl
theorem XT{S T:AS}(h1:∀t∈Ek all o,VO S T t):Ld S o=Ld T o:=by
 unfold Ld;split
 ·rename_i x ho
  rw[aW h1 (x:=x) (by rw[ho];simp[Op.operands])]
 ·rfl
theorem pg{S:AS}{g:Option (Nat×Bool)}{d n:Nat}{K:GJ->Prop}(hm:Ld S o=false)(hy:yA P (σOf S) (ρOf S) g o d n K):yS P S g o d n K:=by
 unfold yS;unfold Ld at hm;split
 ·rename_i x ho
  rw[ho]at hm;simp only at hm;split
  ·rename_i he;rw[he]at hm;cases hm
  ·rename_i he;rw[he]at hm;cases hm
  ·exact hy
 ·exact hy
theorem fh(P:Program)(S:AS)(g:Option (Nat×Bool))(o:Oper)(d n:Nat):Dk λK=>yS P S g o d n K:=by
 unfold yS;split
 ·split
  ·exact Ai _
  ·exact Ai _
  ·exact fg _ _ _ _ _ _ _
 ·exact fg _ _ _ _ _ _ _
theorem ZS{S T:AS}{g:Option (Nat×Bool)}{K:GJ->Prop}(h1:∀t∈Ek all o,VO S T t)(h2:∀b∈XN S (Ek all o) o,Uu S T b)(hl:S.length=T.length)
 (hy:dK o.dst λd=>UW S d λn=>yS P S g o d n K):dK o.dst λd=>UW T d λn=>yS P T g o d n K:=by
 obtain⟨hd,hy⟩:=NW _ _ _ (Yu hy);refine jh (Wi _ _ _ (by grind) ?_);rcases XI hy with⟨x,ho,he,hK⟩|⟨hm,hy⟩
 ·unfold yS;rw[ho];simp only;rw[<-aW h1 (x:=x) (by rw[ho];simp[Op.operands])]
  cases h:ev S x with
  | ptr id v k=>grind
  | sl id v=>grind
  | _=>rw[h]at he;cases he
 ·refine pg (by rw[<-XT h1];exact hm) (ly (ρ_congr hm h1 h2) (m9 hm h1 h2) (λhmk=>?_) hy);exact(h2 _ (by simp[XN,hmk])).2
theorem gh.move{lk:List Nat}{S T:AS}(h:∀t∈lk,VO S T t):∀{n t:Nat}{r:Option Bool},gh lk n t S r->gh lk n t T r
 | 0,_,_,hd=>hd.elim
 | n+1,t,r,⟨hlk,hd⟩=>by
   have e:=h t hlk;unfold VO at e;refine⟨hlk,?_⟩;rcases hd with⟨b,hb,hr⟩|⟨t',w',b,r',hb,hd,hr⟩|⟨t',w',hb,hr⟩
   ·grind
   ·exact .inr (.inl ⟨t',w',b,r',by rw[<-e];exact hb,gh.move h hd,hr⟩)
   ·grind
theorem ki{done:List Nat}{S:AS}{K:AS->GJ->Prop}(hy:ij P all done o S K) :
 ∃e,K S e/\∀(done':List Nat)(T:AS),(∀t∈Ek all o,VO S T t)->(∀b∈RR S all o e,Uu S T b)->S.length=T.length->(∀j want t,o.guard=some (j,want)->Vq all j=some t->t∈done') ->
  ij P all done' o T (λT' f=>T'=T/\f=e):=by
 have ex:∀{g:Option (Nat×Bool)}{F:GJ->Prop},(dK o.dst λd=>UW S d λn=>yS P S g o d n F)->∃e,F e/\dK o.dst λd=>UW S d λn=>yS P S g o d n λf=>f=e:=by
  intro g F hy;obtain⟨hd,hy⟩:=NW _ _ _ (Yu hy);obtain⟨e,he,hF⟩:=(fh P S g o (o.dst.getD 0) (Af S (o.dst.getD 0)).ver).2 _ hy;exact⟨e,hF,jh (Wi _ _ _ hd he)⟩
 have mon:∀{T:AS}{g:Option (Nat×Bool)}{F F':GJ->Prop},(∀e,F e->F' e)->(dK o.dst λd=>UW T d λn=>yS P T g o d n F)->dK o.dst λd=>UW T d λn=>yS P T g o d n F':=by
  intro T g F F' hF hy;obtain⟨hd,hy⟩:=NW _ _ _ (Yu hy);exact jh (Wi _ _ _ hd ((fh P T g o (o.dst.getD 0) (Af T (o.dst.getD 0)).ver).1 _ _ hF hy))
 have sub:∀{T:AS}{e:GJ},(∀b∈RR S all o e,Uu S T b)->∀b∈XN S (Ek all o) o,Uu S T b:=λh b hb=>h b (by simp only[RR,rC];exact .inl hb);have hom:∀{T:AS}{e:GJ},S.length=T.length->(∀b∈RR S all o e,Uu S T b)->G4 S e.homes=G4 T e.homes:=λhl h=>RQ hl λb hb=>h b (by simp only[RR,rC];exact .inr hb);unfold ij at hy;split at hy
 ·rename_i hgd
  obtain⟨e,hK,he⟩:=ex hy;obtain⟨hho,hK⟩:=Ak hK;refine⟨e,hK,λ_ T h1 h2 hl _=>?_⟩;unfold ij;simp only[hgd];refine mon (λf hf=>?_) (ZS h1 (sub h2) hl he);grind
 ·rename_i j want hgd
  split at hy
  ·grind
  ·rename_i t ht
   obtain⟨hdone,hy⟩:=Ak hy;split at hy
   ·rename_i hh
    obtain⟨e,hK,he⟩:=ex hy;split at hK
    ·rename_i v
     refine⟨_,hK,λ_ T h1 h2 hl hdn=>?_⟩;unfold ij;simp only[hgd,ht,hh];rw[qf (by grind)];refine mon (λf hf=>?_) (ZS h1 (sub h2) hl he);grind
    ·grind
   ·rename_i hh
    obtain⟨r,hy,hdec⟩:=S9 hy;have hdT:∀T:AS,(∀t∈Ek all o,VO S T t)->gh (Ek all o) 5 t T r:=λT h1=>hdec.move h1;rcases JD.1 hy with⟨hrw,hgo⟩|⟨hne,hK⟩
    ·obtain⟨e,hK,he⟩:=ex hgo;obtain⟨hho,hK⟩:=Ak hK;refine⟨e,hK,λ_ T h1 h2 hl hdn=>?_⟩;unfold ij;simp only[hgd,ht,hh];rw[qf (by grind)];refine Zi (hdT T h1) (JD.2 (.inl ⟨hrw,mon (λf hf=>?_) (ZS h1 (sub h2) hl he)⟩));grind
    ·refine⟨_,hK,λ_ T h1 h2 hl hdn=>?_⟩;unfold ij;simp only[hgd,ht,hh];rw[qf (by grind)];exact Zi (hdT T h1) (JD.2 (.inr ⟨hne,by first|exact⟨rfl,rfl⟩|exact⟨rfl,trivial⟩|exact⟨trivial,trivial⟩⟩))
structure XL(P:Program)(all:List Oper)(S₀:AS)(St:Nat->AS)(E:Nat->GJ):Prop where
 start:St 0=S₀
 next:∀(i:Nat)(o:Oper),all[i]?=some o->St (i+1)=Ym o.dst (E i) (St i)
 once:∀(i j:Nat)(o o':Oper),i<j->all[i]?=some o->all[j]?=some o'->∀d,o.dst=some d->o'.dst≠some d
 does:∀(i:Nat)(o:Oper),all[i]?=some o->∀(T:AS)(done:List Nat),(∀t∈Ek all o,VO (St i) T t)->(∀b∈RR (St i) all o (E i),Uu (St i) T b)->(St i).length=T.length ->
  (∀j want t,o.guard=some (j,want)->Vq all j=some t->t∈done)->ij P all done o T (λT' f=>T'=T/\f=E i)
 box:∀(i j:Nat)(o o':Oper),i<j->all[i]?=some o->all[j]?=some o'->RH all o' i=false ->
  VP ((E i).bx.map (·.1)) (RR (St j) all o' (E j)++(E j).bx.map (·.1))=true/\VP (RR (St i) all o (E i)) ((E j).bx.map (·.1))=true
theorem kP(P:Program)(all:List Oper):∀(l:List Oper)(k:Nat)(log:List (Nat×List Nat×List Nat))(done:List Nat)(S:AS)(K:AS->Prop),(∀j,l[j]?=all[k+j]?)->og P all k log done l S K ->
 ∃(St:Nat->AS)(E:Nat->GJ),St k=S/\K (St (k+l.length)) /\
  (∀(i:Nat)(o:Oper),k<=i->all[i]?=some o->St (i+1)=Ym o.dst (E i) (St i)) /\
  (∀(i:Nat)(o:Oper),k<=i->all[i]?=some o->∀d,o.dst=some d->d ∉ done) /\
  (∀(i j:Nat)(o o':Oper),k<=i->i<j->all[i]?=some o->all[j]?=some o'->∀d,o.dst=some d->o'.dst≠some d) /\
  (∀(i:Nat)(o:Oper),k<=i->all[i]?=some o->∀(T:AS)(done:List Nat),(∀t∈Ek all o,VO (St i) T t)->(∀b∈RR (St i) all o (E i),Uu (St i) T b)->(St i).length=T.length ->
   (∀j want t,o.guard=some (j,want)->Vq all j=some t->t∈done)->ij P all done o T (λT' f=>T'=T/\f=E i)) /\
  (∀(i:Nat)(o:Oper),k<=i->all[i]?=some o->∀x∈log,RH all o x.1=false->VP x.2.2 (RR (St i) all o (E i)++(E i).bx.map (·.1))=true/\VP x.2.1 ((E i).bx.map (·.1))=true) /\
  (∀(i j:Nat)(o o':Oper),k<=i->i<j->all[i]?=some o->all[j]?=some o'->RH all o' i=false ->
   VP ((E i).bx.map (·.1)) (RR (St j) all o' (E j)++(E j).bx.map (·.1))=true/\VP (RR (St i) all o (E i)) ((E j).bx.map (·.1))=true)
 | [],k,log,done,S,K,hall,hy=>by
   have none:∀i,k<=i->all[i]?=none:=by
    intro i hi;have hk:=hall 0;simp at hk;exact qv (by omega)
   refine⟨λ_=>S,λ_=>⟨.any,[],[]⟩,rfl,hy,?_,?_,?_,?_,?_,?_⟩
   all_goals grind
 | o :: r,k,log,done,S,K,hall,hy=>by
   obtain⟨hnd,hy⟩:=Ak hy;obtain⟨e,hK,hmove'⟩:=ki hy;rw[KC,KC]at hK;obtain⟨hok,hK⟩:=Ak hK;rw[YX,KC]at hK;have ho:all[k]?=some o:=by have:=hall 0;simpa using this.symm
   obtain⟨St,E,hs,hKn,hnext,hnd',honce,hdoes,hlog,hbox⟩:=kP P all r (k+1) _ _ _ K (λj=>by have:=hall (j+1);rw[qD]at this;rw[this];congr 1;omega) hK;have hne:∀i,k+1<=i->i≠k:=λi hi=>by omega
   refine⟨λi=>if i=k then S else St i,λi=>if i=k then e else E i,by simp,?_,?_,?_,?_,?_,?_,?_⟩
   ·have:k+(o :: r).length≠k:=by simp
    simp only[this,if_false];rw[show k+(o :: r).length=k+1+r.length by simp;omega];exact hKn
   ·intro i o' hi ho';by_cases hik:i=k
    ·subst hik;grind
    ·have h1:i+1≠k:=by omega
     simp only[hik,h1,if_false];exact hnext i o' (by omega) ho'
   ·intro i o' hi ho' d hd;by_cases hik:i=k
    ·subst hik;rw[ho]at ho';cases ho';simp[hd,DK]at hnd;exact hnd
    ·grind
   ·intro i j o1 o2 hi hij h1 h2 d hd;by_cases hik:i=k
    ·subst hik;rw[ho]at h1;cases h1;intro hd2;exact hnd' j o2 (by omega) h2 d hd2 (by simp[hd,DK])
    ·grind
   ·intro i o' hi ho';by_cases hik:i=k
    ·subst hik;rw[ho]at ho';cases ho';simp only[if_true];intro T done' h1 h2 hl hdn;exact hmove' done' T h1 h2 hl hdn
    ·simp only[hik,if_false];exact hdoes i o' (by omega) ho'
   ·intro i o' hi ho' x hx hed;by_cases hik:i=k
    ·subst hik;rw[ho]at ho';cases ho';simp only[if_true];simp only[nl,rQ]at hok;have:=hok x hx;simp[hed]at this;simp only[RR,rN];exact this
    ·grind
   ·intro i j o1 o2 hi hij h1 h2 hed;have hjk:j≠k:=by omega
    by_cases hik:i=k
    ·subst hik;rw[ho]at h1;cases h1;simp only[if_true,hjk,if_false];exact hlog j o2 (by omega) h2 (i,RR S all o e,e.bx.map (·.1)) (by simp[RR]) hed
    ·simp only[hik,hjk,if_false];exact hbox i j o1 o2 (by omega) hij h1 h2 hed
theorem Jc:∀(b:Bx)(S:AS)(i:Nat),i ∉ b.map (·.1)->Af (AZ b S) i=Af S i
 | [],_,_,_=>rfl
 | (id,B,n) :: r,S,i,h=>by
   simp only[qk,sf,not_or]at h;simp only[AZ];rw[Jc r _ i h.2,BP,qi (λe=>h.1 e.1)]
theorem Zc:∀(b:Bx)(S:AS)(i:Nat),(Af (AZ b S) i).av=(Af S i).av
 | [],_,_=>rfl
 | (id,B,n) :: r,S,i=>by
   simp only[AZ];rw[Zc r,BP];grind
theorem RD:∀(b:Bx)(S T:AS)(i:Nat),S.length=T.length->i∈b.map (·.1)->Uu (AZ b S) (AZ b T) i
 | [],_,_,_,_,h=>by grind
 | (id,B,n) :: r,S,T,i,hl,h=>by
   simp only[AZ];by_cases hr:i∈r.map (·.1)
   ·exact RD r _ _ i (by simp[C6,hl]) hr
   ·have hi:i=id:=by simp at h hr;rcases h with h|⟨x,y,h⟩;exact h;exact absurd h (hr x y)
    unfold Uu;rw[Jc r _ i hr,Jc r _ i hr,BP,BP,hi,hl];split
    ·grind
    ·rename_i hn
     have h1:T.length<=id:=by grind
     rw[Mt S id (by omega),Mt T id h1];grind
theorem Xb(dst:Option Nat)(e:GJ)(S:AS):(Ym dst e S).length=S.length:=by
 cases dst<;>simp[Ym,Ir,Cc]
theorem To{dst:Option Nat}{e:GJ}{S:AS}{t:Nat}(h:dst≠some t):VO (Ym dst e S) S t:=by
 unfold VO
 cases dst with
 | none=>simp[Ym,Zc]
 | some d =>
   simp only[Ym];rw[C3,qi (λhh=>h (by rw[hh.1])),Zc]
theorem ae{dst:Option Nat}{e:GJ}{S T:AS}{t:Nat}(hl:S.length=T.length)(h:dst=some t):VO (Ym dst e S) (Ym dst e T) t:=by
 unfold VO;subst h;simp only[Ym];rw[C3,C3,Cc,Cc,hl];split
 ·rfl
 ·rename_i hn
  have h1:T.length<=t:=by grind
  rw[Mt _ t (by rw[Cc];omega),Mt _ t (by rw[Cc];exact h1)]
theorem YY{dst:Option Nat}{e:GJ}{S:AS}{b:Nat}:Uu (Ym dst e S) (AZ e.bx S) b:=by
 unfold Uu
 cases dst with
 | none=>exact⟨rfl,rfl⟩
 | some d =>
   simp only[Ym];rw[C3];grind
theorem R9{dst:Option Nat}{e:GJ}{S:AS}{b:Nat}(h:b ∉ e.bx.map (·.1)):Uu (Ym dst e S) S b:=by
 have:=YY (dst:=dst) (e:=e) (S:=S) (b:=b);unfold Uu at *;rw[this.1,this.2,Jc _ _ _ h];grind
theorem YZ{dst:Option Nat}{e:GJ}{S T:AS}{b:Nat}(hl:S.length=T.length)(h:b∈e.bx.map (·.1)):Uu (Ym dst e S) (Ym dst e T) b:=by
 have h1:=YY (dst:=dst) (e:=e) (S:=S) (b:=b);have h2:=YY (dst:=dst) (e:=e) (S:=T) (b:=b);have h3:=RD e.bx S T b hl h;unfold Uu at *;grind
theorem jz:∀{S T:AS},S.length=T.length->(∀t,VO S T t)->(∀b,Uu S T b)->S=T
 | [],[],_,_,_=>rfl
 | s :: S,t :: T,hl,h1,h2=>by
   have e1:=h1 0;have e2:=h2 0;simp only[VO,Uu,Af]at e1 e2;have:s=t:=by obtain⟨_,_,_⟩:=s;obtain⟨_,_,_⟩:=t;simp_all
   rw[this,jz (S:=S) (T:=T) (by grind) (λi=>h1 (i+1)) (λi=>h2 (i+1))]
 | [],_ :: _,hl,_,_=>by grind
 | _ :: _,[],hl,_,_=>by grind
theorem Ox{x y:List Nat}(h:VP x y=true):∀i∈x,i ∉ y:=by simpa [VP] using h
theorem OP:∀(l:List Oper)(k:Nat),(∀j,l[j]?=all[k+j]?)->dJ all k l=true ->
 ∀i o,k<=i->all[i]?=some o->((∀e∈o.after,Region.binds .any e=true->e.on<i)/\∀j want,o.guard=some (j,want)->j<i) /\
  ∀j o',j<i->all[j]?=some o'->RH all o j=true\/((∀d,o'.dst=some d->d ∉ Ek all o)/\(∀d,o.dst=some d->d ∉ Ek all o'))
 | [],k,hall,_,i,o,hi,ho=>by
   have hk:=hall 0;grind
 | x :: r,k,hall,h,i,o,hi,ho=>by
   simp only[dJ,qX]at h;obtain⟨⟨⟨h1,h1g⟩,h2⟩,h3⟩:=h;by_cases hik:i=k
   ·subst hik;have hx:all[i]?=some x:=by have:=hall 0;simpa using this.symm
    rw[hx]at ho;cases ho;refine⟨⟨λe he hb=>?_,λj want hg=>by simpa [hg] using h1g⟩,λj o' hj ho'=>?_⟩
    ·grind
    ·have:=List.all_eq_true.1 h2 (o',j) (by
      rw[List.mem_iff_getElem?];refine⟨j,?_⟩;rw[List.getElem?_zipIdx,ra hj,ho'];simp)
     simp only[Bool.or_eq_true,qX]at this;rcases this with⟨h4,h5⟩|h4
     ·refine .inr ⟨λd hd=>Ox h4 d (by simp[hd,DK]),λd hd hm=>Ox h5 d hm (by simp[hd,DK])⟩
     ·grind
   ·exact OP r (k+1) (λj=>by have:=hall (j+1);rw[qD]at this;rw[this];congr 1;omega) h3 i o (by omega) ho
end
structure iN(all:List Oper)(St:Nat->AS)(E:Nat->GJ)(S₀:AS)(f:Nat->Bool)(T:AS):Prop where
 len:T.length=S₀.length
 dc:∀(k:Nat)(o:Oper),all[k]?=some o->f k=true->∀i,XP o i=true->f i=true
 vs:∀(t i:Nat),i<=all.length->(∀(k:Nat)(o:Oper),all[k]?=some o->o.dst=some t->(f k=true↔k<i))->VO T (St i) t
 vb:∀(b i:Nat),i<=all.length->(∀(k:Nat)(o:Oper),all[k]?=some o->b∈(E k).bx.map (·.1)->(f k=true↔k<i))->Uu T (St i) b
section
variable {P:Program} {all:List Oper} {St:Nat->AS} {E:Nat->GJ} {S₀:AS}
theorem XL.len(h:XL P all S₀ St E):∀i,i<=all.length->(St i).length=S₀.length
 | 0,_=>by rw[h.start]
 | i+1,hi=>by
   rw[h.next i all[i] (P2 (by omega)),Xb];exact h.len i (by omega)
theorem XL.keepS(h:XL P all S₀ St E){t i:Nat}:∀j,i<=j->j<=all.length->(∀(k:Nat)(o:Oper),i<=k->k<j->all[k]?=some o->o.dst≠some t)->VO (St j) (St i) t:=by
 intro j
 induction j with
 | zero=>intro hij _ _;have:i=0:=by omega
         subst this;exact rfl
 | succ j ih =>
   intro hij hj hk;by_cases e:i=j+1
   ·subst e;exact rfl
   ·have h1:=ih (by omega) (by omega) (λk o h1 h2=>hk k o h1 (by omega))
    have h2:VO (St (j+1)) (St j) t:=by
     rw[h.next j all[j] (P2 (by omega))];exact To (hk j _ (by omega) (by omega) (P2 (by omega)))
    exact Eq.trans h2 h1
theorem XL.keepB(h:XL P all S₀ St E){b i:Nat}:∀j,i<=j->j<=all.length->(∀(k:Nat)(o:Oper),i<=k->k<j->all[k]?=some o->b ∉ (E k).bx.map (·.1))->Uu (St j) (St i) b:=by
 intro j
 induction j with
 | zero=>intro hij _ _;have:i=0:=by omega
         subst this;exact⟨rfl,rfl⟩
 | succ j ih =>
   intro hij hj hk;by_cases e:i=j+1
   ·subst e;exact⟨rfl,rfl⟩
   ·have h1:=ih (by omega) (by omega) (λk o h1 h2=>hk k o h1 (by omega))
    have h2:Uu (St (j+1)) (St j) b:=by
     rw[h.next j all[j] (P2 (by omega))];exact R9 (hk j _ (by omega) (by omega) (P2 (by omega)))
    exact⟨h2.1.trans h1.1,h2.2.trans h1.2⟩
theorem iN.readyN{f:Nat->Bool}{T:AS}(m:iN all St E S₀ f T):∀(n:Nat){o:Oper}{j:Nat},(∀j,XP o j=true->f j=true)->eV all n o j=true->f j=true
 | 0,_,_,hready,h=>hready _ h
 | n+1,o,j,hready,h=>by
   simp only[eV,Bool.or_eq_true,tb,qX]at h;rcases h with h|⟨e,he,hb,hm⟩
   ·grind
   ·split at hm
    ·rename_i om hom
     refine m.readyN n (λi hi=>m.dc e.on om hom (hready e.on ?_) i hi) hm;simp only[XP,tb,qX,beq_iff_eq];grind
    ·cases hm
theorem iN.ready2{f:Nat->Bool}{T:AS}(m:iN all St E S₀ f T){o:Oper}(hready:∀j,XP o j=true->f j=true){j:Nat}(h:RH all o j=true):f j=true :=
 m.readyN 4 hready h
theorem iN.step(h:XL P all S₀ St E)(hreg:dJ all 0 all=true){f:Nat->Bool}{T:AS}(m:iN all St E S₀ f T){i:Nat}{o:Oper}(ho:all[i]?=some o)(hf:f i=false)(hready:∀j,XP o j=true->f j=true) :
 (∀t∈Ek all o,VO (St i) T t)/\(∀b∈RR (St i) all o (E i),Uu (St i) T b)/\iN all St E S₀ (λk=>if k=i then true else f k) (Ym o.dst (E i) T):=by
 have hreg':=OP all 0 (λj=>by simp) hreg;have hi:i<all.length:=by grind
 have later:∀(k:Nat)(o':Oper),all[k]?=some o'->i<k->f k=true->RH all o' i=false:=by
  intro k o' ho' hik hfk
  cases he:RH all o' i with
  | false=>rfl
  | true=>have:=m.ready2 (λj hj=>m.dc k o' ho' hfk j hj) he;rw[hf]at this;cases this
 have hlenT:(St i).length=T.length:=by rw[h.len i (by omega),m.len]
 have hS:∀t∈Ek all o,VO (St i) T t:=by
  intro t ht;refine(m.vs t i (by omega) λk o' ho' hd=>?_).symm;rcases sa k i with hk|hk|hk
  ·refine⟨λ_=>hk,λ_=>?_⟩;rcases(hreg' i o (by omega) ho).2 k o' hk ho' with he|⟨h1,_⟩
   ·exact m.ready2 hready he
   ·grind
  all_goals grind
 have hB:∀b∈RR (St i) all o (E i),Uu (St i) T b:=by
  intro b hb;have key:=m.vb b i (by omega) λk o' ho' hd=>?_
  ·exact⟨key.1.symm,key.2.symm⟩
  ·rcases sa k i with hk|hk|hk
   ·refine⟨λ_=>hk,λ_=>?_⟩
    cases he:RH all o k with
    | true=>exact m.ready2 hready he
    | false=>exact absurd (List.mem_append.2 (.inl hb)) (Ox (h.box k i o' o hk ho' ho he).1 b hd)
   ·grind
   ·refine⟨λhfk=>?_,λhh=>by omega⟩;exact absurd hd (Ox (h.box i k o o' hk ho ho' (later k o' ho' hk hfk)).2 b hb)
 refine⟨hS,hB,?_⟩;have hnx:=h.next i o ho;refine⟨by rw[Xb];exact m.len,?_,?_,?_⟩
 ·intro k o' ho' hk j hj;by_cases hki:k=i
  ·grind
  ·simp only[hki,if_false]at hk;have:=m.dc k o' ho' hk j hj;simp[this]
 ·intro t j hj hcut;by_cases hd:o.dst=some t
  ·have hij:i<j:=(hcut i o ho hd).1 (by simp);have h1:VO (St j) (St (i+1)) t:=h.keepS j (by omega) hj λk o' hk1 hk2 ho' hd'=>h.once i k o o' (by omega) ho ho' t hd hd';have h2:VO (Ym o.dst (E i) T) (St (i+1)) t:=by rw[hnx];exact ae hlenT.symm hd
   exact h2.trans h1.symm
  ·have h1:=m.vs t j hj λk o' ho' hd'=>by
    grind
   exact(To hd).trans h1
 ·intro b j hj hcut;by_cases hd:b∈(E i).bx.map (·.1)
  ·have hij:i<j:=(hcut i o ho hd).1 (by simp)
   have h1:Uu (St j) (St (i+1)) b:=h.keepB j (by omega) hj λk o' hk1 hk2 ho' hd'=>by
    have hfk:f k=true:=by grind
    have he:=later k o' ho' (by omega) hfk;exact Ox (h.box i k o o' (by omega) ho ho' he).1 b hd (List.mem_append.2 (.inr hd'))
   have h2:Uu (Ym o.dst (E i) T) (St (i+1)) b:=by rw[hnx];exact YZ hlenT.symm hd
   exact⟨h2.1.trans h1.1.symm,h2.2.trans h1.2.symm⟩
  ·have h1:=m.vb b j hj λk o' ho' hd'=>by
    grind
   have h2:=R9 (dst:=o.dst) (e:=E i) (S:=T) hd;exact⟨h2.1.trans h1.1,h2.2.trans h1.2⟩
end
section
variable {P:Program} {X:Cx} {G:Nat->Prop} {β:Nat->Value} {S:AS} {a:Act} {w:World}
theorem V5(N:Nat)(f:Nat->Sl):∀n,(ct N n f).length=n
 | 0=>rfl
 | n+1=>by simp[ct,V5 N f n]
theorem YI(N:Nat)(f:Nat->Sl):∀(n i:Nat),n<=N->Af (ct N n f) i=if i<n then f (N-n+i)else cF
 | 0,i,_=>by simp[ct,Af]
 | n+1,0,h=>by
   show f (Nat.sub N (Nat.succ n))=_;simp
 | n+1,i+1,h=>by
   show Af (ct N n f) i=_;rw[YI N f n i (by omega)];by_cases e:i<n
   ·rw[qf e,qf (by omega)];congr 1;omega
   ·rw[qi e,qi (by omega)]
structure pq(args:List AV)(n k:Nat)(cs:List C)(qs:List Nat):Prop where
 len:qs.length=cs.length
 kl:k<args.length
 small:args.length<=n
 lt:∀(j:Nat) sz e xs q,cs[j]?=some (.own sz e xs)->qs[j]?=some q->q<n/\q≠k
 inj:∀(i j:Nat) sz e xs sz' e' xs' q,cs[i]?=some (.own sz e xs)->cs[j]?=some (.own sz' e' xs')->qs[i]?=some q->qs[j]?=some q->i=j
 no:∀c∈cs,∀i n,c≠.sl i n
structure GE(S:AS)(cl cs':List C)(used:List Nat):Prop where
 len:cl.length=cs'.length
 at_:∀(j:Nat) c c',cl[j]?=some c->cs'[j]?=some c'->(∃x,c=.d x/\c'=.d (norm x))\/(∃q n sz e ys av,c=.sl q n/\c'=.own sz e ys/\Af S q=⟨av,.row sz e ys,n⟩/\q∈used)
 inj:∀(i j:Nat) q n n',cl[i]?=some (.sl q n)->cl[j]?=some (.sl q n')->i=j
 used:∀(j:Nat) q n,cl[j]?=some (.sl q n)->q∈used
end
section
variable {P:Program} {X:Cx} {ops:Array Oper} {St:Nat->AS} {E:Nat->GJ} {S₀:AS}
def XQ(listed:Array Bool)(k:Nat):Bool:=listed.getD k false
def WK(all:List Oper)(f:Nat->Bool):List Nat:=((List.range all.length).filter f).flatMap λk=>DK ((all[k]?).bind (·.dst))
theorem Nb{all:List Oper}{f:Nat->Bool}{t:Nat}:t∈WK all f↔∃(k:Nat)(o:Oper),all[k]?=some o/\f k=true/\o.dst=some t:=by
 simp only[WK,rG,List.mem_filter,List.mem_range];constructor
 ·rintro⟨k,⟨hk,hf⟩,ht⟩;refine⟨k,all[k],P2 hk,hf,?_⟩;rw[P2 hk]at ht;simp only[qd]at ht
  cases hd:all[k].dst with
  | none=>simp[hd,DK]at ht
  | some d=>simp[hd,DK]at ht;rw[ht]
 ·rintro⟨k,o,ho,hf,hd⟩
  have hk:k<all.length:=by
   rcases qw k all.length with h|h
   ·exact h
   ·simp[qv h]at ho
  exact⟨k,⟨hk,hf⟩,by simp[ho,hd,DK]⟩
theorem Vs{p p':Nat->Bool}{i:Nat}(h1:p i=true)(h2:p' i=false)(h3:∀x,x≠i->p' x=p x):∀l:List Nat,(l.filter p').length+l.count i=(l.filter p).length
 | []=>rfl
 | x :: r=>by
   have ih:=Vs h1 h2 h3 r;by_cases e:x=i
   ·subst e;simp[sA,h1,h2,<-ih];omega
   ·have hb:(x==i)=false:=by simp[e]
    rw[sI,hb];by_cases hp:p x=true
    ·simp[sA,hp,h3 x e];omega
    ·simp[sA,hp,h3 x e];omega
theorem iN.all_done(h:XL P ops.toList S₀ St E){f:Nat->Bool}{T:AS}(m:iN ops.toList St E S₀ f T)(hf:∀k,k<ops.size->f k=true):T=St ops.size:=by
 have hk:∀(k:Nat)(o:Oper),ops.toList[k]?=some o->k<ops.size:=by
  intro k o ho;rcases qw k ops.size with h|h
  ·exact h
  ·simp[h]at ho
 have hle:ops.size<=ops.toList.length:=by simp
 refine jz (by rw[m.len,h.len _ hle]) (λt=>m.vs t _ hle λk o ho _=>?_) (λb=>m.vb b _ hle λk o ho _=>?_)
 ·exact⟨λ_=>hk k o ho,λhh=>hf k hh⟩
 ·exact⟨λ_=>hk k o ho,λhh=>hf k hh⟩
theorem js{o:Oper}{i:Nat}:XP o i=true↔∃e∈o.after,e.on=i/\Region.binds .any e=true:=by
 simp only[XP,tb,Array.mem_toList_iff,qX,beq_iff_eq]
theorem gk(h:XL P ops.toList S₀ St E)(hreg:dJ ops.toList 0 ops.toList=true){Q:Exit->Act->World->Prop}
 (hQ:∀β a w (done:List Nat),SimB X (·∈done) β (St ops.size) a w->Q .normal a w) :
 ∀(fuel:Nat)(listed:Array Bool)(T:AS)(β:Nat->Value)(a:Act)(w:World),listed.size=ops.size->iN ops.toList St E S₀ (XQ listed) T->SimB X (·∈WK ops.toList (XQ listed)) β T a w ->
  ((List.range ops.size).filter λk=>!XQ listed k).length<=fuel->wpAny P .any ops Q fuel listed a w:=by
 have stop:∀(listed:Array Bool)(T:AS)(β:Nat->Value)(a:Act)(w:World),listed.size=ops.size->iN ops.toList St E S₀ (XQ listed) T->SimB X (·∈WK ops.toList (XQ listed)) β T a w ->
  Region.ready .any ops listed=[]->Q .normal a w:=by
  intro listed T β a w hsz m hs hr
  have all_:∀k,k<ops.size->XQ listed k=true:=by
   intro k
   induction k using Nat.strongRecOn with
   | _ k ih =>
     intro hk
     cases hfk:XQ listed k with
     | true=>rfl
     | false =>
       exfalso
       have hmem:k∈Region.ready .any ops listed:=by
        refine mem_ready.2 ⟨?_,ops[k],by simp[hk],λe he hb=>?_⟩
        ·simp only[XQ,Array.getD]at hfk ⊢;rw[dif_pos (by omega)]at hfk ⊢;exact hfk
        ·have hlt:=(OP (all:=ops.toList) ops.toList 0 (λj=>by simp) hreg k ops[k] (by omega) (by simp[hk])).1.1 e he hb;exact ih e.on hlt (by omega)
       rw[hr]at hmem
       cases hmem
  rw[m.all_done h all_]at hs;exact hQ β a w _ hs
 intro fuel
 induction fuel with
 | zero =>
   intro listed T β a w hsz m hs hc
   have hr:Region.ready .any ops listed=[]:=by
    cases hr:Region.ready .any ops listed with
    | nil=>rfl
    | cons i r =>
      exfalso
      have hi:=(mem_ready.1 (show i∈Region.ready .any ops listed by rw[hr];simp));obtain⟨h1,o,ho,_⟩:=hi
      have hlt:i<ops.size:=by
       rcases qw i ops.size with h|h
       ·exact h
       ·simp[qT h]at ho
      have:i∈(List.range ops.size).filter λk=>!XQ listed k:=by
       simp only[List.mem_filter,List.mem_range,sY];refine⟨hlt,?_⟩;simp only[XQ,Array.getD]at h1 ⊢;rw[dif_pos (by omega)]at h1 ⊢;exact h1
      have:=List.length_pos_of_mem this;omega
   exact⟨hr,stop listed T β a w hsz m hs hr⟩
 | succ fuel ih =>
   intro listed T β a w hsz m hs hc;refine⟨λhr=>stop listed T β a w hsz m hs hr,λi hi=>?_⟩;obtain⟨h1,o,ho,hall⟩:=mem_ready.1 hi
   have hlt:i<ops.size:=by
    rcases qw i ops.size with h|h
    ·exact h
    ·simp[qT h]at ho
   have hol:ops.toList[i]?=some o:=by simpa using ho
   have hfi:XQ listed i=false:=by
    simp only[XQ,Array.getD]at h1 ⊢;rw[dif_pos (by omega)]at h1 ⊢;exact h1
   have hready:∀j,XP o j=true->XQ listed j=true:=by
    intro j hj;obtain⟨e,he,hon,hb⟩:=js.1 hj;rw[<-hon];exact hall e he hb
   obtain⟨hS,hB,m'⟩:=m.step h hreg hol hfi hready;have hlenT:(St i).length=T.length:=by rw[h.len i (by simp;omega),m.len]
   have hy:=h.does i o hol T (WK ops.toList (XQ listed)) hS hB hlenT (λj want t hg ht=>by
    rw[TA]at ht
    cases hoj:ops.toList[j]? with
    | none=>simp[hoj]at ht
    | some oj =>
      simp[hoj]at ht;refine Nb.2 ⟨j,oj,hoj,?_,ht⟩;have hin:t∈Ek ops.toList o:=by simp[Ek,WY,hg,TA,hoj,ht,DK]
      have hji:=(OP (all:=ops.toList) ops.toList 0 (λj=>by simp) hreg i o (by omega) hol).1.2 j want hg;rcases(OP (all:=ops.toList) ops.toList 0 (λj=>by simp) hreg i o (by omega) hol).2 j oj hji hoj with hed|⟨hno,_⟩
      ·exact m.ready2 hready hed
      ·exact absurd hin (hno t ht))
   obtain⟨e,⟨_,he⟩,hok⟩:=YF hs hy;subst he
   have hstep:=hok.step (Q:=Q) (K:=wpAny P .any ops Q fuel (listed.setIfInBounds i true)) (λd hd hm=>by
    obtain⟨k,ok,hok',hfk,hdk⟩:=Nb.1 hm;rcases sa k i with hk|hk|hk
    ·exact h.once k i ok o hk hok' hol d hdk hd
    ·subst hk;rw[hfi]at hfk;cases hfk
    ·exact h.once i k o ok hk hol hok' d hd hdk)
    (λβ' a' w' hs'=>by
     have hf':XQ (listed.setIfInBounds i true)=λk=>if k=i then true else XQ listed k:=by
      funext k;simp only[XQ,qI,qR];by_cases hki:k=i
      ·subst hki;simp[hsz,hlt]
      ·simp[Ne.symm hki,hki]
     refine ih _ _ β' a' w' (by simp[hsz]) (by rw[hf'];exact m') (hs'.weaken λt ht=>?_) ?_
     ·rw[hf'];rcases List.mem_append.1 ht with ht|ht
      ·refine Nb.2 ⟨i,o,hol,by simp,?_⟩
       cases hd:o.dst with
       | none=>simp[hd,DK]at ht
       | some d=>simp[hd,DK]at ht;rw[ht]
      ·obtain⟨k,ok,hok',hfk,hdk⟩:=Nb.1 ht;exact Nb.2 ⟨k,ok,hok',by simp[hfk],hdk⟩
     ·have:=Vs (p:=λk=>!XQ listed k) (p':=λk=>!XQ (listed.setIfInBounds i true) k) (i:=i) (by simp[hfi]) (by simp[hf']) (λx hx=>by simp[hf',hx]) (List.range ops.size);have hpos:0<(List.range ops.size).count i:=List.count_pos_iff.2 (by simp[hlt]);omega)
   unfold wpOp;simp only[ho];split
   ·rename_i hw;rw[qf hw]at hstep;exact .inl hstep
   ·rename_i hw;rw[qi hw]at hstep;exact hstep
theorem KO(P:Program):Mw P:=by
 intro id ops Q S X β a w hy hs;have hy:JA (dJ ops.toList 0 ops.toList=true/\P.follows .mixedOrders=true) (og P ops.toList 0 [] [] ops.toList S λS=>plain S (Q .normal)):=hy;obtain⟨⟨hreg,hm⟩,hy⟩:=hy;obtain⟨St,E,h0,hK,hnext,_,honce,hdoes,_,hbox⟩:=kP P ops.toList ops.toList 0 [] [] S _ (λj=>by simp) hy;have hrun:XL P ops.toList S St E:=⟨h0,λi o ho=>hnext i o (by omega) ho,λi j o o' hij h1 h2=>honce i j o o' (by omega) hij h1 h2,λi o ho=>hdoes i o (by omega) ho,λi j o o' hij h1 h2=>hbox i j o o' (by omega) hij h1 h2⟩;refine wp_region_any hm ?_;have hw:SimB X (λ_=>False) β S a { w with drawn:=w.drawn+1 }:=hs.world ⟨rfl,rfl,rfl,qb _,λ_ _=>rfl⟩;refine gk hrun hreg (λβ' a' w' done hs'=>?_) ops.size _ S β a _ (by simp) ?_ (hw.weaken λ_ hf=>hf.elim) ?_
 ·rw[Xm]at hK;simp only[qy,q8]at hK;exact⟨β',_,hK,hs'.plain⟩
 ·have hf:∀k,XQ (Array.replicate ops.size false) k=false:=by
   intro k;simp only[XQ,Array.getD];split<;>simp
  refine⟨rfl,(λk o _ hk=>by rw[hf k]at hk;cases hk),λt i hi hcut=>?_,λb i hi hcut=>?_⟩
  ·rw[<-h0];refine(hrun.keepS (i:=0) i (by omega) hi λk o _ hk ho hd=>?_).symm;have:=(hcut k o ho hd).2 hk;rw[hf k]at this;cases this
  ·rw[<-h0]
   have:=hrun.keepB (b:=b) (i:=0) i (by omega) hi λk o _ hk ho hd=>by
    have:=(hcut k o ho hd).2 hk;rw[hf k]at this;cases this
   exact⟨this.1.symm,this.2.symm⟩
 ·exact qt (rl _ _) (by simp)
theorem Da{f:FuncId}{fn:Func}{args:List AV}{r:AV}(hf:P.funcs[f]?=some fn)(hname:(fn.name == "runtime.NumGoroutine")=false)(hr:nA P fn args r):Ax P f args r :=
 R8 (KO P) hf hname hr
theorem bK{f:FuncId}{fn:Func}{args outs:List AV}{r:AV}(hf:P.funcs[f]?=some fn)(hname:(fn.name == "runtime.NumGoroutine")=false)(hol:outs.length=args.length)
 (hfit:∀(i:Nat) x y,args[i]?=some x->outs[i]?=some y->match y with
  | .own sz e _=>∃xs,x=.own sz e xs
  | .optr cs=>∃cs',x=.optr cs'/\cs.length=cs'.length
  | .cc _ l=>∃(ds:List D)(sz:Nat)(e:TypeId)(xs ys:List D),x=.cc none (ds.map .d++[.own sz e xs])/\l=ds.map .d++[.own sz e ys]
  | _=>True) (hr:mS P fn args outs r):Dl P f args outs r :=
 RY (KO P) hf hname hol hfit hr
theorem Ux(J:List Nat){f:FuncId}{fn:Func}{args:List AV}{r:AV}(hf:P.funcs[f]?=some fn)(hname:(fn.name == "runtime.NumGoroutine")=false)(hr:ZY P J fn args r):Ax P f args r :=
 R8 (KO P) hf hname hr
theorem dB(J:List Nat){f:FuncId}{fn:Func}{args outs:List AV}{r:AV}(hf:P.funcs[f]?=some fn)(hname:(fn.name == "runtime.NumGoroutine")=false)(hol:outs.length=args.length)
 (hfit:∀(i:Nat) x y,args[i]?=some x->outs[i]?=some y->match y with
  | .own sz e _=>∃xs,x=.own sz e xs
  | .optr cs=>∃cs',x=.optr cs'/\cs.length=cs'.length
  | .cc _ l=>∃(ds:List D)(sz:Nat)(e:TypeId)(xs ys:List D),x=.cc none (ds.map .d++[.own sz e xs])/\l=ds.map .d++[.own sz e ys]
  | _=>True) (hr:Wn P J fn args outs r):Dl P f args outs r :=
 RY (KO P) hf hname hol hfit hr
theorem pe(J:List Nat){f:FuncId}{fn:Func}{args:List AV}{k sz:Nat}{e:TypeId}{xs ys:List D}(q:Nat)(hf:P.funcs[f]?=some fn)(hname:(fn.name == "runtime.NumGoroutine")=false)(hres:fn.results=#[])
 (hk:args[k]?=some .any) (hq:q<args.length) (hkq:q≠k) (hmut:args.all (λx=>!x.mut)=true) (hr:iQ P J fn args k q sz e xs ys):UZ P f args k sz e xs ys :=
 Yj (KO P) hf hname hres hk hq hkq hmut hr
end
theorem Rp{S S':AS}(h:Es S' (λS'=>Le S S')):Le S S':=by rw[EL]at h;exact h
end Go.Abs
namespace Go.Proofs.YthchnhoalhbkcaaGreatDoor.P
open Go.Abs Go.Proofs
@[reducible] def An{α:Type}(sz:Nat)(f:α->D)(l:List α):D:=.list sz (l.map f)
theorem Td{ρ:Type}{b b':Bool}{x y:Prop}{X Y:Option ρ}{R:ρ}(hF:(bif b' then X else Y)=some R)(e:b=b')(h1:X=some R->x)(h2:Y=some R->y):Bool.rec y x b:=by
 subst e
 cases b with
 | true=>exact h1 hF
 | false=>exact h2 hF
theorem lC{ρ:Type}{b b':Bool}{x y:Prop}{X Y:Option ρ}{R:ρ}(hF:(bif b' then X else Y)=some R)(e:b=b')(h1:b'=true->X=some R->x)(h2:b'=false->Y=some R->y):Bool.rec y x b:=by
 subst e
 cases b with
 | true=>exact h1 rfl hF
 | false=>exact h2 rfl hF
theorem lL{b b':Bool}{x y:Prop}(e:b=b')(h:b'=true)(k:x):Bool.rec y x b:=by
 subst e;subst h;exact k
theorem oH{b b':Bool}{x y:Prop}(e:b=b')(h:b'=false)(k:y):Bool.rec y x b:=by
 subst e;subst h;exact k
theorem pm{x a b:Int}(h:(x==a)=true)(k:(a==b)=false:=by rfl):(x==b)=false:=by
 rw[beq_iff_eq.1 h];exact k
theorem pL{α:Type}{xs:List α}{i j:Int}{x:α}{f:α->D}{K:D->Prop}(h:idx xs i=some x)(e:j=i)(k:K (f x)):At (xs.map f) j K:=by
 obtain⟨h0,_,h1⟩:=Q1 h;subst e;exact⟨⟨h0,_,by rw[ql,h1];rfl,k⟩⟩
theorem Yo{α:Type}{xs:List α}{i j:Int}{x:α}{f:α->D}{K:D->Prop}(h:idx xs i=some x)(e:j=((i.toNat:Nat):Int))(k:K (f x)):At (xs.map f) j K:=by
 obtain⟨h0,_,_⟩:=Q1 h;exact pL h (e.trans (Int.toNat_of_nonneg h0)) k
theorem pG{α:Type}{xs:List α}{i j:Int}{x:α}{f:α->D}{k:Prop}(h:idx xs i=some x)(e:j=i)(hk:k):JA (0<=j/\j.toNat<(xs.map f).length) k:=by
 obtain⟨h0,h1,_⟩:=Q1 h;subst e;exact⟨⟨h0,by rw[pX];exact h1⟩,hk⟩
theorem oA{α ρ:Type}{xs:List α}{i j:Int}{f:α->D}{K:D->Prop}{G:α->Option ρ}{R:ρ}(hF:(idx xs i).bind G=some R)(e:j=i)(k:∀x,idx xs i=some x->G x=some R->K (f x)):At (xs.map f) j K:=by
 obtain⟨x,h,hF⟩:=Vi hF;exact pL h e (k x h hF)
theorem OQ{α ρ:Type}{xs:List α}{f:α->D}{i j:Int}{k:Prop}{G:α->Option ρ}{R:ρ}(hF:(idx xs i).bind G=some R)(e:j=i)(hk:∀x,idx xs i=some x->G x=some R->k):JA (0<=j/\j.toNat<(xs.map f).length) k:=by
 obtain⟨x,h,hF⟩:=Vi hF;exact pG h e (hk x h hF)
theorem snoc{α:Type}(f:α->D)(xs:List α)(x:α):xs.map f++[f x]=(xs++[x]).map f:=by simp
theorem kW(k:IntKind)(xs:List Int)(x:Int):xs.map (D.int k)++[D.int k x]=(xs++[x]).map (D.int k):=by simp
theorem pc(xs:List Bool)(x:Bool):xs.map D.bool++[D.bool x]=(xs++[x]).map D.bool:=by simp
theorem pd(xs:List ByteArray)(x:ByteArray):xs.map D.str++[D.str x]=(xs++[x]).map D.str:=by simp
theorem fN{α:Type}(sz:Nat)(f:α->D)(xs:List (List α))(x:List α):xs.map (An sz f)++[D.list sz (x.map f)]=(xs++[x]).map (An sz f):=by simp[An]
theorem mi(k:IntKind)(x:Int)(xs:List Int):[D.int k x]++xs.map (D.int k)=([x]++xs).map (D.int k):=rfl
theorem pE{α:Type}(sz:Nat)(f:α->D)(x:List α)(xs:List (List α)):[D.list sz (x.map f)]++xs.map (An sz f)=([x]++xs).map (An sz f):=rfl
theorem oF{α:Type}(f:α->D)(xs ys:List α):xs.map f++ys.map f=(xs++ys).map f:=List.map_append.symm
theorem nK{α:Type}(f:α->D)(xs:List α)(l h:Int):LZ (xs.map f) l h=(LZ xs l h).map f:=by simp[LZ,List.map_take,List.map_drop]
theorem mw{α:Type}(f:α->D)(n:Nat)(x:α):List.replicate n (f x)=(List.replicate n x).map f:=List.map_replicate.symm
theorem pb{α:Type}(f:α->D)(xs:List α)(i:Nat)(x:α):(xs.map f).set i (f x)=(xs.set i x).map f:=by rw[q7]
theorem CG{n m b:Nat}{q:Prop}(h:rm n m=true)(hb:b<=1024)(hq:q):n+m<=maxLen/\(n+m)*b<=140737488355328/\q:=by
 have h:=pZ h;refine⟨by unfold maxLen;omega,?_,hq⟩
 calc (n+m)*b<=137438953472*1024:=sy h hb
  _=140737488355328:=by decide
theorem V7{l:Int}{b:Nat}(h:(decide (0<=l)&&rm l.toNat 0)=true)(hb:b<=1024):0<=l/\l<=l/\l<=(maxLen:Int)/\(b:Int)*l<=281474976710656:=by
 obtain⟨h1,h2⟩:=Bool.and_eq_true_iff.1 h;have h1:=pZ h1;have h2:=pZ h2;refine⟨h1,rk _,by unfold maxLen;omega,?_⟩;have h3:l<=137438953472:=by omega
 calc (b:Int)*l<=1024*l:=Int.mul_le_mul_of_nonneg_right (by omega) h1
  _<=281474976710656:=by omega
end Go.Proofs.YthchnhoalhbkcaaGreatDoor.P
namespace Go.Abs
section
variable {β:Type}
def Lu(k:Int):List (Int×β)->Option β
 | []=>none
 | p :: r=>bif k==p.1 then some p.2 else Lu k r
def XG(k:Int)(v:β):List (Int×β)->List (Int×β)
 | []=>[(k,v)]
 | p :: r=>bif k==p.1 then(k,v) :: r else p :: XG k v r
def Zw(k:ByteArray):List (ByteArray×β)->Option β
 | []=>none
 | p :: r=>bif k==p.1 then some p.2 else Zw k r
def lq(k:ByteArray)(v:β):List (ByteArray×β)->List (ByteArray×β)
 | []=>[(k,v)]
 | p :: r=>bif k==p.1 then(k,v) :: r else p :: lq k v r
def jZ(kd:IntKind)(f:β->D)(es:List (Int×β)):List (D×D):=es.map λp=>(.int kd p.1,f p.2)
def nh(f:β->D)(es:List (ByteArray×β)):List (D×D):=es.map λp=>(.str p.1,f p.2)
theorem aY(kd:IntKind)(f:β->D)(k:Int):∀es,O0 (.int kd k) (jZ kd f es)=(Lu k es).map f
 | []=>rfl
 | p :: r=>by
   have ih:=aY kd f k r;simp only[jZ,qk,O0,Lu,Jr]at ih ⊢
   cases k==p.1
   ·simpa using ih
   ·rfl
theorem ZP(kd:IntKind)(f:β->D)(k:Int)(v:β):∀es,XF (.int kd k) (f v) (jZ kd f es)=jZ kd f (XG k v es)
 | []=>rfl
 | p :: r=>by
   have ih:=ZP kd f k v r;simp only[jZ,qk,XF,XG,Jr]at ih ⊢
   cases k==p.1
   ·simpa using ih
   ·rfl
theorem aZ(f:β->D)(k:ByteArray):∀es,O0 (.str k) (nh f es)=(Zw k es).map f
 | []=>rfl
 | p :: r=>by
   have ih:=aZ f k r;simp only[nh,qk,O0,Zw,Jr]at ih ⊢
   cases k==p.1
   ·simpa using ih
   ·rfl
theorem fT(f:β->D)(k:ByteArray)(v:β):∀es,XF (.str k) (f v) (nh f es)=nh f (lq k v es)
 | []=>rfl
 | p :: r=>by
   have ih:=fT f k v r;simp only[nh,qk,XF,lq,Jr]at ih ⊢
   cases k==p.1
   ·simpa using ih
   ·rfl
theorem O8(kd:IntKind)(f:β->D)(k:Int)(es:List (Int×β)):∀p∈jZ kd f es,Ip (.int kd k) p.1=true:=by
 intro p hp;obtain⟨q,_,rfl⟩:=List.mem_map.1 hp;simp[Ip]
theorem bu(f:β->D)(k:ByteArray)(es:List (ByteArray×β)):∀p∈nh f es,Ip (.str k) p.1=true:=by
 intro p hp;obtain⟨q,_,rfl⟩:=List.mem_map.1 hp;rfl
theorem TR{kd:IntKind}{f:β->D}{k:Int}{es:List (Int×β)}{z:β}{K:D->Bool->Prop}(h:K (f ((Lu k es).getD z)) (Lu k es).isSome):Tg (O0 (.int kd k) (jZ kd f es)) (f z) K:=by
 refine⟨⟨f ((Lu k es).getD z),(Lu k es).isSome,?_,?_,h⟩⟩<;>rw[aY]<;>cases Lu k es<;>rfl
theorem jQ{f:β->D}{k:ByteArray}{es:List (ByteArray×β)}{z:β}{K:D->Bool->Prop}(h:K (f ((Zw k es).getD z)) (Zw k es).isSome):Tg (O0 (.str k) (nh f es)) (f z) K:=by
 refine⟨⟨f ((Zw k es).getD z),(Zw k es).isSome,?_,?_,h⟩⟩<;>rw[aZ]<;>cases Zw k es<;>rfl
end
open Go.Proofs Go.Shelf Go.Sort
def Fc(xs:List Int):List Int:=xs.mergeSort λx y=>decide (x<=y)
theorem length_sortI(xs:List Int):(Fc xs).length=xs.length:=by simp[Fc,rT]
theorem Jo(xs:List Int):(xs.map (D.int .i64)).flatMap D.cells=xs.map (D.int .i64):=by
 induction xs with
 | nil=>rfl
 | cons x r ih=>simp[D.cells,ih]
theorem R0{O:Nat->Prop}{w:World}{vals:List Value}{xs:List Int}(h:Bl O w vals (xs.map (D.int .i64))):vals=xs.map (Value.int .i64):=by
 apply r7;intro j;by_cases hj:j<vals.length
 ·have hj2:j<xs.length:=by have:=h.1;simp at this;omega
  have:=(h.2 j vals[j] (.int .i64 xs[j]) (by simp[hj]) (by simp[hj2])).1
  cases h3:vals[j]with
  | int k n=>rw[h3]at this;cases this;simp[hj,hj2,h3]
  | _=>rw[h3]at this;cases this
 ·have hj2:¬j<xs.length:=by have:=h.1;simp at this;omega
  rw[qv (by omega),qv (by simp;omega)]
theorem Rv(O:Nat->Prop)(w:World)(xs:List Int):Bl O w (xs.map (Value.int .i64)) (xs.map (D.int .i64)):=by
 refine⟨by simp,λj v y hv hy=>?_⟩;simp only[ql]at hv hy
 cases h:xs[j]? with
 | none=>simp[h]at hv
 | some n=>simp[h]at hv hy;subst hv;subst hy;exact⟨.int _ _,rfl⟩
theorem ni{P:Program}{ρ:Ren}(Ly:Lays.n189 P ρ)(hc:EG P (ρ.f 189)=true)(e:TypeId)(xs:List Int)(hl:xs.length<4611686018427387904) :
 Dl P (ρ.f 189) [.own 1 e (xs.map (D.int .i64))] [.own 1 e ((Fc xs).map (D.int .i64))] (.tup []):=by
 refine⟨hc,rfl,λO w vs hO _ hlen hMO hinj hargs=>?_⟩
 obtain⟨v,rfl⟩:∃v,vs=#[v]:=by
  obtain⟨l⟩:=vs
  match l,hlen with
  | [v],_=>exact⟨v,rfl⟩
 obtain⟨_,_,vals,hrow,hL⟩:=hargs 0 v _ rfl rfl;rw[Jo]at hL;obtain rfl:=R0 hL
 have Ef:∀{w':World}{e':Ending},e'=.returned (.tuple #[])->A7 w.heap.size (Hl #[v] [.own 1 e (xs.map (D.int .i64))]) w w'->Bj w' e 1 v (Fc xs).length ((Fc xs).map (Value.int .i64)) ->
  ∃u,e'=.returned u/\A7 w.heap.size (Hl #[v] [.own 1 e (xs.map (D.int .i64))]) w w' /\
  CK (λb=>w.heap.size<=b\/(Hl #[v] [.own 1 e (xs.map (D.int .i64))] b/\¬Hl #[v] [.own 1 e ((Fc xs).map (D.int .i64))] b)) (λb=>O b\/Hl #[v] [.own 1 e ((Fc xs).map (D.int .i64))] b) w' u (.tup []) /\
  ∀(i:Nat) u' x y,#[v][i]?=some u'->[AV.own 1 e (xs.map (D.int .i64))][i]?=some x->[AV.own 1 e ((Fc xs).map (D.int .i64))][i]?=some y->Qh (λb=>O b\/Hl #[v] [.own 1 e ((Fc xs).map (D.int .i64))] b\/Dw u (.tup []) b) w' u' x y:=by
  intro w' e' he hb hr;refine⟨_,he,hb,⟨#[],rfl,rfl,λi u x h=>by simp at h,λi j u u' sz e ys sz' e' ys' b h=>by simp at h⟩,λi u' x y h1 h2 h3=>?_⟩
  match i,h1,h2,h3 with
  | 0,h1,h2,h3 =>
    simp at h1 h2 h3;subst h1;subst h2;subst h3;refine⟨⟨by omega,λx hx=>?_,(Fc xs).map (Value.int .i64),by simpa using hr,by rw[Jo];exact Rv _ _ _⟩,_,rfl⟩;obtain⟨n,_,rfl⟩:=List.mem_map.1 hx;rfl
  | i+1,h1,_,_=>simp at h1
 have none:xs=[]->∀p cap,v=.slice p 0 cap->Calls P (ρ.f 189) #[v] w λe' w'=>∃u,e'=.returned u/\A7 w.heap.size (Hl #[v] [.own 1 e (xs.map (D.int .i64))]) w w' /\
  CK (λb=>w.heap.size<=b\/(Hl #[v] [.own 1 e (xs.map (D.int .i64))] b/\¬Hl #[v] [.own 1 e ((Fc xs).map (D.int .i64))] b)) (λb=>O b\/Hl #[v] [.own 1 e ((Fc xs).map (D.int .i64))] b) w' u (.tup []) /\
  ∀(i:Nat) u' x y,#[v][i]?=some u'->[AV.own 1 e (xs.map (D.int .i64))][i]?=some x->[AV.own 1 e ((Fc xs).map (D.int .i64))][i]?=some y->Qh (λb=>O b\/Hl #[v] [.own 1 e ((Fc xs).map (D.int .i64))] b\/Dw u (.tup []) b) w' u' x y:=by
  intro h0 p cap hv;subst h0;have hc:=Any.slices_Sort_int_none Ly p cap w;rw[<-hv]at hc;refine hc.mono λe' w' ⟨he,hw⟩=>?_;subst hw;refine Ef he ⟨rfl,rfl,rfl,qb _,λ_ _ _=>rfl⟩ ?_
  simpa [Fc] using hrow
 rcases hrow with hrow'|⟨h0,_,a,hv⟩
 ·rcases hrow'.2 with⟨hv,h0⟩|⟨g,cap,cur,hv,hbase,hb,h1,h2,h3,h4⟩
  ·exact none (by simpa using h0) _ _ hv
  ·rw[pX]at h1 hv;by_cases h00:cap=0
   ·have hx:xs=[]:=qq (by omega);exact none hx (some ⟨g,0,Option.none⟩) cap (by rw[hv,hx];rfl)
   have hH:Holds (Value.int .i64) w g 0 xs.toArray:=holds_of_blockI hb (by simpa using h4);have hg:g<w.heap.size:=(Array.getElem?_eq_some_iff.1 hb).1;have hc:=Any.slices_Sort_int Ly g 0 cap xs w hH hg hl;rw[<-hv]at hc;refine hc.mono λe' w' ⟨he,n,os,hw⟩=>?_;have hgr:=grownBy_sortedI (w:=w) (g:=g) (n:=n) (os:=os) (xs.mergeSort λx y=>decide (x<=y)).toArray;rw[<-hw]at hgr;refine Ef he ⟨hgr.os,hgr.tape,hgr.output,hgr.size,λk hk hm=>hgr.block k hk λhkg=>?_⟩ (.inl ?_)
   ·refine hm ⟨0,v,_,rfl,rfl,rfl,?_⟩;rw[hv];simp only[Ac,h00,if_false];exact hkg.symm
   ·have:=ownsRow_sortedI (w:=w) (base:=0) (g:=g) (cap:=cap) (n:=n) (e:=e) (os:=os) (cur:=cur) (ss:=xs) (ts:=Fc xs) (length_sortI xs) hbase hb h1 h2 h3;rw[length_sortI,hw,hv];exact this
 ·exact none (by simpa using h0) _ _ hv
open Go
theorem Em(n:Nat)(l:List (Nat×AV))(b:Bx)(i:Nat):Af (CJ n l b) i=if i<n then Cn b i (Dp l i)else cF:=by
 unfold CJ;rw[YI _ _ _ _ (qb _),Nat.sub_self,qy]
theorem KG(n:Nat)(l:List (Nat×AV))(b:Bx):(CJ n l b).length=n:=V5 _ _ _
theorem I9:∀(b:Bx)(k:Nat)(v:AV),(Cn b k v).av=v
 | [],_,_=>rfl
 | (t,x,n) :: r,k,v=>by
   unfold Cn
   cases Nat.beq t k<;>simp only[I9 r]
section
variable {X:Cx} {G:Nat->Prop} {β β':Nat->Value} {S S':AS} {a a':Act} {w w':World}
theorem SimB.exit(h:SimB X G β S a w)(ch:Nat->Prop)(hlen:S'.length=S.length)(hsz:a'.tmps.size=a.tmps.size)(hdf:a'.defers=[])
 (hb:A7 w.heap.size (λb=>∃i,ch i/\(Af S i).box.owned=true/\Ac (β i)=some b) w w')
 (hsame:∀i,¬ch i->β' i=β i/\(Af S' i).box=(Af S i).box/\(Af S' i).ver=(Af S i).ver)
 (hver:∀i,ch i->(Af S i).ver<(Af S' i).ver\/((Af S' i).ver=(Af S i).ver/\β' i=β i))
 (hnew:∀i b,ch i->(Af S' i).box.owned=true->Ac (β' i)=some b->w.heap.size<=b\/((Af S i).box.owned=true/\Ac (β i)=some b))
 (hinj:∀i j b,ch i->ch j->(Af S' i).box.owned=true->(Af S' j).box.owned=true->Ac (β' i)=some b->Ac (β' j)=some b->i=j)
 (hbox:∀i,ch i->I3 β' (AG S') (OS β' X S') w' i (Af S' i).box)
 (hini:∀i,ch i->(Af S' i).ver≠0\/((Af S' i).ver=(Af S i).ver/\β' i=β i/\(Af S i).box≠.none))
 (hslots:∀(t:Nat) v,a'.tmps[t]?=some v->(Af S' t).av=.any\/((Af S' t).av=(Af S t).av/\(Af S t).av.guards=[]/\a.tmps[t]?=some v)\/((Af S' t).av.guards=[]/\JB β' (AG S') (OS β' X S') w' a'.tmps v (Af S' t).av))
 (hg:∀t,(Af S' t).av.guards=[]):SimB X G β' S' a' w':=by
 have hos:∀b,b<w.heap.size->OS β' X S' b->OS β X S b:=by
  rintro b hlt (h1|h1|⟨i,h1,h2⟩)
  ·exact .inl h1
  ·exact .inr (.inl h1)
  ·by_cases hc:ch i
   ·rcases hnew i b hc h1 h2 with h3|⟨h3,h4⟩
    ·omega
    ·exact .inr (.inr ⟨i,h3,h4⟩)
   ·obtain⟨e1,e2,_⟩:=hsame i hc;exact .inr (.inr ⟨i,by rw[<-e2];exact h1,by rw[<-e1];exact h2⟩)
 have hk:B0 (OS β X S) (OS β' X S') w w':=⟨hb.size,hos,λb hlt ho=>hb.block b hlt λ⟨i,_,h1,h2⟩=>ho (.inr (.inr ⟨i,h1,h2⟩))⟩
 have hn:∀i,AG S i<AG S' i\/(AG S' i=AG S i/\β' i=β i):=λi=>by
  by_cases hc:ch i
  ·exact hver i hc
  ·obtain⟨e1,_,e3⟩:=hsame i hc;exact .inr ⟨e3,e1⟩
 refine⟨by rw[hsz,h.len,hlen],hdf,h.below.trans (hb.weaken h.hbase λk hk hm=>?_),qt h.hbase hb.size,h.o₀,λb hb'=>⟨(h.rs b hb').1,qm (h.rs b hb').2 hb.size⟩,λt v hv=>?_,λi=>?_,λi b h1 h2=>?_,λi j b h1 h2 h3 h4=>?_,λt u hu=>?_,λi h1 h2=>?_⟩
 ·rintro⟨i,_,h1,h2⟩;rcases(h.mine i k h1 h2).1 with h3|h3
  ·omega
  ·exact hm h3
 ·rcases hslots t v hv with e|⟨e,e2,e3⟩|⟨_,e⟩
  ·rw[e];trivial
  ·rw[e];exact JB.mono hk hn (λu hu=>by rw[e2]at hu;cases hu) (h.slots t v e3)
  ·exact e
 ·by_cases hc:ch i
  ·exact hbox i hc
  ·obtain⟨e1,e2,_⟩:=hsame i hc;rw[e2];refine I3.mono hk hn e1 (λb hlt ho hbk=>hb.block b hlt ?_) (h.boxes i);rintro⟨j,hj,h1,h2⟩;exact hc (h.inj i j b ho h1 hbk h2▸hj)
 ·by_cases hc:ch i
  ·rcases hnew i b hc h1 h2 with h3|⟨h3,h4⟩
   ·exact⟨.inl (qt h.hbase h3),λhr=>by have:=(h.rs b hr).2;omega⟩
   ·exact h.mine i b h3 h4
  ·obtain⟨e1,e2,_⟩:=hsame i hc;exact h.mine i b (by rw[<-e2];exact h1) (by rw[<-e1];exact h2)
 ·have old:∀i,¬ch i->(Af S' i).box.owned=true->Ac (β' i)=some b->(Af S i).box.owned=true/\Ac (β i)=some b:=λi hc h1 h2=>by
   obtain⟨e1,e2,_⟩:=hsame i hc;exact⟨by rw[<-e2];exact h1,by rw[<-e1];exact h2⟩
  by_cases hi:ch i
  ·by_cases hj:ch j
   ·exact hinj i j b hi hj h1 h2 h3 h4
   ·obtain⟨k1,k2⟩:=old j hj h2 h4;rcases hnew i b hi h1 h3 with q|⟨q1,q2⟩
    ·have:=h.blk k1 k2;omega
    ·exact h.inj i j b q1 k1 q2 k2
  ·obtain⟨k1,k2⟩:=old i hi h1 h3;by_cases hj:ch j
   ·rcases hnew j b hj h2 h4 with q|⟨q1,q2⟩
    ·have:=h.blk k1 k2;omega
    ·exact h.inj i j b k1 q1 k2 q2
   ·obtain⟨m1,m2⟩:=old j hj h2 h4;exact h.inj i j b k1 m1 k2 m2
 ·rw[hg t]at hu;cases hu
 ·by_cases hc:ch i
  ·rcases hini i hc with h3|⟨h3,h4,h5⟩
   ·exact absurd h1 h3
   ·rw[h4];exact h.ini i (by rw[<-h3];exact h1) h5
  ·obtain⟨e1,e2,e3⟩:=hsame i hc;rw[e1];exact h.ini i (by rw[<-e3];exact h1) (by rw[<-e2];exact h2)
theorem SimB.exitRow{n q sz v:Nat}{e:TypeId}{xs ys:List D}{L:List (Nat×AV)}{B:Bx}(h:SimB X (λ_=>False) β (CJ n L B) a w)(K:List Nat)(hq:q<n)(hB:∀u,Cn B q u=⟨u,.row sz e xs,v⟩)(hgd:∀p∈L,p.2.guards=[])
 (hsz:a'.tmps.size=a.tmps.size) (hdf:a'.defers=[]) (hK:∀k∈K,a'.tmps[k]?=a.tmps[k]?)
 (hb:A7 w.heap.size (λb=>Ac (β q)=some b) w w') (hc:∀y∈ys,y.cells.length=sz)
 (hr:∃vals,Bj w' e sz (β q) ys.length vals/\∀O:Nat->Prop,(∀b,O b->OS β X (CJ n L B) b)->Bl O w' vals (ys.flatMap D.cells)) :
 SimB X (λ_=>False) β (CJ n (L.filter λp=>K.contains p.1) (B.map λp=>if p.1=q then(p.1,.row sz e ys,p.2.2)else p)) a' w':=by
 have hlA:∀k,Dp (L.filter λp=>K.contains p.1) k=if K.contains k then Dp L k else .any:=by
  intro k;clear hgd h hr
  induction L with
  | nil=>simp[Dp]
  | cons p r ih =>
    obtain⟨t,x⟩:=p;rw[sA];by_cases hc:K.contains t=true
    ·rw[qf (by simpa using hc)];unfold Dp
     cases hb:Nat.beq t k with
     | true =>
       have:=qG hb;subst this;simp only[hc,if_true]
     | false=>simp only[ih]
    ·rw[qi (by simpa using hc),ih];by_cases hk:K.contains k=true
     ·have:Nat.beq t k=false:=by
       cases hb:Nat.beq t k with
       | true=>rw[qG hb]at hc;exact absurd hk hc
       | false=>rfl
      rw[qf hk,qf hk]
      conv=>rhs;unfold Dp
      simp only[this]
     ·rw[qi hk,qi hk]
 have hlS:∀(B:Bx) k u,Cn (B.map λp=>if p.1=q then(p.1,.row sz e ys,p.2.2)else p) k u=if k=q/\(∃p∈B,p.1=q)then⟨u,.row sz e ys,(Cn B k u).ver⟩else Cn B k u:=by
  intro B k u
  induction B with
  | nil=>simp[Cn]
  | cons p r ih =>
    obtain⟨t,x,m⟩:=p;rw[qk];by_cases ht:t=q
    ·subst ht;simp only[if_true];unfold Cn
     cases hb:Nat.beq t k with
     | true =>
       have:=qG hb;subst this;simp
     | false =>
       have hne:k≠t:=λe=>by subst e;simp at hb
       simp only[ih];simp[hne]
    ·simp only[ht,if_false];unfold Cn
     cases hb:Nat.beq t k with
     | true =>
       have:=qG hb;subst this;rw[qi (λh=>ht h.1)]
     | false =>
       have e1:(∃p∈(t,x,m) :: r,p.1=q)↔∃p∈r,p.1=q:=⟨λ⟨p,hp,hq⟩=>by
        rcases List.mem_cons.1 hp with e2|e2
        ·rw[e2]at hq;exact absurd hq ht
        ·exact⟨p,e2,hq⟩,λ⟨p,hp,hq⟩=>⟨p,rh _ hp,hq⟩⟩
       show Cn _ k u=if _ then _ else _
       rw[ih];simp only[e1]
 have hex:∃p∈B,p.1=q:=by
  have h1:=hB .any;clear hlS hB hr h
  induction B with
  | nil=>simp[Cn]at h1
  | cons p r ih =>
    obtain⟨t,x,m⟩:=p;unfold Cn at h1
    cases hb:Nat.beq t q with
    | true=>exact⟨_,rD ..,qG hb⟩
    | false =>
      rw[hb]at h1;obtain⟨p,hp,he⟩:=ih h1;exact⟨p,rh _ hp,he⟩
 have hsg:∀i,Af (CJ n (L.filter λp=>K.contains p.1) (B.map λp=>if p.1=q then(p.1,.row sz e ys,p.2.2)else p)) i=if i<n then(if i=q then⟨if K.contains i then Dp L i else .any,.row sz e ys,v⟩else Cn B i (if K.contains i then Dp L i else .any))else cF:=by
  intro i;rw[Em,hlA,hlS];by_cases hi:i<n
  ·rw[qf hi,qf hi];by_cases hiq:i=q
   ·subst hiq;rw[qf ⟨rfl,hex⟩,qf rfl,hB]
   ·rw[qi (λh=>hiq h.1),qi hiq]
  ·rw[qi hi,qi hi]
 have hbx:∀i u u',(Cn B i u).box=(Cn B i u').box/\(Cn B i u).ver=(Cn B i u').ver:=by
  intro i u u';clear hlS hB hr h hex hsg
  induction B with
  | nil=>exact⟨rfl,rfl⟩
  | cons p r ih =>
    obtain⟨t,x,m⟩:=p;unfold Cn
    cases Nat.beq t i
    ·exact ih
    ·exact⟨rfl,rfl⟩
 have hsq:Af (CJ n L B) q=⟨Dp L q,.row sz e xs,v⟩:=by rw[Em,qf hq,hB]
 have hgA:∀k,(Dp L k).guards=[]:=by
  intro k;clear hlA h hr hsg hsq
  induction L with
  | nil=>rfl
  | cons p r ih =>
    obtain⟨t,x⟩:=p;unfold Dp
    cases Nat.beq t k with
    | true=>exact hgd _ (rD ..)
    | false=>exact ih λp hp=>hgd p (rh _ hp)
 have hav:∀i,(Af (CJ n (L.filter λp=>K.contains p.1) (B.map λp=>if p.1=q then(p.1,.row sz e ys,p.2.2)else p)) i).av=if i<n then(if K.contains i then Dp L i else .any)else .any:=by
  intro i;rw[hsg];by_cases hi:i<n
  ·rw[qf hi,qf hi];by_cases hiq:i=q
   ·rw[qf hiq]
   ·rw[qi hiq,I9]
  ·rw[qi hi,qi hi];rfl
 have hbo:∀i,i≠q->(Af (CJ n (L.filter λp=>K.contains p.1) (B.map λp=>if p.1=q then(p.1,.row sz e ys,p.2.2)else p)) i).box=(Af (CJ n L B) i).box/\(Af (CJ n (L.filter λp=>K.contains p.1) (B.map λp=>if p.1=q then(p.1,.row sz e ys,p.2.2)else p)) i).ver=(Af (CJ n L B) i).ver:=by
  intro i hiq;rw[hsg,Em];by_cases hi:i<n
  ·rw[qf hi,qf hi,qi hiq];exact hbx _ _ _
  ·rw[qi hi,qi hi];exact⟨rfl,rfl⟩
 have hq2:Af (CJ n (L.filter λp=>K.contains p.1) (B.map λp=>if p.1=q then(p.1,.row sz e ys,p.2.2)else p)) q=⟨if K.contains q then Dp L q else .any,.row sz e ys,v⟩:=by rw[hsg,qf hq,qf rfl]
 refine h.exit (λi=>i=q) (by rw[KG,KG]) hsz hdf (hb.weaken (qb _) λk _ hk=>λhh=>hk ⟨q,rfl,by rw[hsq];rfl,hh⟩) (λi hi=>⟨rfl,(hbo i hi).1,(hbo i hi).2⟩) (λi hi=>by subst hi;rw[hq2,hsq];exact .inr ⟨rfl,rfl⟩)
  (λi b hi h1 h2=>by subst hi;exact .inr ⟨by rw[hsq];rfl,h2⟩) (λi j b hi hj _ _ _ _=>hi.trans hj.symm) (λi hi=>?_) (λi hi=>by subst hi;exact .inr ⟨by rw[hq2,hsq],rfl,by rw[hsq];simp⟩) (λt u hu=>?_) (λt=>?_)
 ·subst hi;rw[hq2];have h0:=h.boxes i;rw[hsq]at h0;obtain⟨vals,h1,h2⟩:=hr;refine⟨h0.1,hc,vals,h1,h2 _ ?_⟩;rintro b (h3|h3|⟨j,h3,h4⟩)
  ·exact .inl h3
  ·exact .inr (.inl h3)
  ·refine .inr (.inr ⟨j,?_,h4⟩);by_cases hj:j=i
   ·subst hj;rw[hsq];rfl
   ·rw[<-(hbo j hj).1];exact h3
 ·rw[hav];by_cases hi:t<n
  ·rw[qf hi];by_cases hk:K.contains t=true
   ·rw[qf hk];refine .inr (.inl ⟨?_,?_,?_⟩)
    ·rw[Em,qf hi,I9]
    ·rw[Em,qf hi,I9];exact hgA t
    ·rw[<-hK t (by simpa using hk)];exact hu
   ·rw[qi hk];exact .inl rfl
  ·rw[qi hi];exact .inl rfl
 ·rw[hav];by_cases hi:t<n
  ·rw[qf hi];by_cases hk:K.contains t=true
   ·rw[qf hk];exact hgA t
   ·rw[qi hk];rfl
  ·rw[qi hi];rfl
theorem Mi(K:List Nat):∀(L:List (Nat×AV))(k:Nat),Dp (L.filter λp=>K.contains p.1) k=if K.contains k then Dp L k else .any
 | [],k=>by simp[Dp]
 | (t,x) :: r,k=>by
   rw[sA];by_cases hc:K.contains t=true
   ·rw[qf (by simpa using hc)];unfold Dp
    cases hb:Nat.beq t k with
    | true =>
      have:=qG hb;subst this;simp only[hc,if_true]
    | false=>simp only[Mi K r]
   ·rw[qi (by simpa using hc),Mi K r];by_cases hk:K.contains k=true
    ·have:Nat.beq t k=false:=by
      cases hb:Nat.beq t k with
      | true=>rw[qG hb]at hc;exact absurd hk hc
      | false=>rfl
     rw[qf hk,qf hk]
     conv=>rhs;unfold Dp
     simp only[this]
    ·rw[qi hk,qi hk]
theorem Xe(t:Nat)(x:AV):∀(L:List (Nat×AV))(k:Nat),(∀p∈L,p.1≠t)->Dp (L++[(t,x)]) k=if k=t then x else Dp L k
 | [],k,_=>by
   show Dp [(t,x)] k=_;unfold Dp
   cases hb:Nat.beq t k with
   | true=>rw[qf (qG hb).symm]
   | false =>
     rw[qi (λe=>by subst e;simp at hb)];rfl
 | (s,y) :: r,k,h=>by
   show Dp ((s,y) :: (r++[(t,x)])) k=_;unfold Dp
   cases hb:Nat.beq s k with
   | true =>
     have e:=qG hb;subst e;rw[qi (h (s,y) (rD ..))]
   | false=>exact Xe t x r k λp hp=>h p (rh _ hp)
theorem Xg(q:Nat)(x:B6)(m:Nat):∀(B:Bx)(k:Nat)(u:AV),(∀p∈B,p.1≠q)->Cn (B++[(q,x,m)]) k u=if k=q then⟨u,x,m⟩else Cn B k u
 | [],k,u,_=>by
   show Cn [(q,x,m)] k u=_;unfold Cn
   cases hb:Nat.beq q k with
   | true=>rw[qf (qG hb).symm]
   | false =>
     rw[qi (λe=>by subst e;simp at hb)];rfl
 | (s,y,j) :: r,k,u,h=>by
   show Cn ((s,y,j) :: (r++[(q,x,m)])) k u=_;unfold Cn
   cases hb:Nat.beq s k with
   | true =>
     have e:=qG hb;subst e;rw[qi (h (s,y,j) (rD ..))]
   | false=>exact Xg q x m r k u λp hp=>h p (rh _ hp)
theorem YC(q:Nat):∀(B:Bx)(u:AV),(∀p∈B,p.1≠q)->Cn B q u=⟨u,.none,0⟩
 | [],_,_=>rfl
 | (s,y,j) :: r,u,h=>by
   unfold Cn
   cases hb:Nat.beq s q with
   | true=>exact absurd (qG hb) (h (s,y,j) (rD ..))
   | false=>exact YC q r u λp hp=>h p (rh _ hp)
theorem TQ{L:List (Nat×AV)}(h:∀p∈L,p.2.guards=[])(k:Nat):(Dp L k).guards=[]:=by
 induction L with
 | nil=>rfl
 | cons p r ih =>
   obtain⟨t,x⟩:=p;unfold Dp
   cases Nat.beq t k with
   | true=>exact h _ (rD ..)
   | false=>exact ih λp hp=>h p (rh _ hp)
theorem V6(i:Nat)(u u':AV)(B:Bx):(Cn B i u).box=(Cn B i u').box/\(Cn B i u).ver=(Cn B i u').ver:=by
 induction B with
 | nil=>exact⟨rfl,rfl⟩
 | cons p r ih =>
   obtain⟨t,x,m⟩:=p;unfold Cn
   cases Nat.beq t i
   ·exact ih
   ·exact⟨rfl,rfl⟩
theorem SimB.exitNew{n q sz t:Nat}{e:TypeId}{ys:List D}{L:List (Nat×AV)}{B:Bx}{v:Value}(h:SimB X (λ_=>False) β (CJ n L B) a w)(K:List Nat)(hq:q<n)(ht:t<n)(hB:∀p∈B,p.1≠q)(hL:∀p∈L,p.1≠t)(hgd:∀p∈L,p.2.guards=[])
 (hsz:a'.tmps.size=a.tmps.size) (hdf:a'.defers=[]) (hK:∀k∈K,a'.tmps[k]?=a.tmps[k]?) (hv:a'.tmps[t]?=some v) (hb:RowKit.Below w.heap.size w w') (h0:0<sz) (hc:∀y∈ys,y.cells.length=sz) (hnew:∀b,Ac v=some b->w.heap.size<=b)
 (hr:∃vals,Bj w' e sz v ys.length vals/\∀O:Nat->Prop,Bl O w' vals (ys.flatMap D.cells)) :
 SimB X (λ_=>False) (Kz β q v) (CJ n ((L.filter λp=>K.contains p.1)++[(t,.sl q 1)]) (B++[(q,.row sz e ys,1)])) a' w':=by
 have hLf:∀p∈L.filter λp=>K.contains p.1,p.1≠t:=λp hp=>hL p (List.mem_filter.1 hp).1
 have hsg:∀i,Af (CJ n ((L.filter λp=>K.contains p.1)++[(t,.sl q 1)]) (B++[(q,.row sz e ys,1)])) i=if i<n then(if i=q then⟨if i=t then .sl q 1 else if K.contains i then Dp L i else .any,.row sz e ys,1⟩else Cn B i (if i=t then .sl q 1 else if K.contains i then Dp L i else .any))else cF:=by
  intro i;rw[Em,Xe _ _ _ _ hLf,Mi,Xg _ _ _ _ _ _ hB]
 have hsq:Af (CJ n L B) q=⟨Dp L q,.none,0⟩:=by rw[Em,qf hq,YC q B _ hB]
 have hq2:(Af (CJ n ((L.filter λp=>K.contains p.1)++[(t,.sl q 1)]) (B++[(q,.row sz e ys,1)])) q).box=.row sz e ys/\(Af (CJ n ((L.filter λp=>K.contains p.1)++[(t,.sl q 1)]) (B++[(q,.row sz e ys,1)])) q).ver=1:=by
  rw[hsg,qf hq,qf rfl];exact⟨rfl,rfl⟩
 have hbo:∀i,i≠q->(Af (CJ n ((L.filter λp=>K.contains p.1)++[(t,.sl q 1)]) (B++[(q,.row sz e ys,1)])) i).box=(Af (CJ n L B) i).box/\(Af (CJ n ((L.filter λp=>K.contains p.1)++[(t,.sl q 1)]) (B++[(q,.row sz e ys,1)])) i).ver=(Af (CJ n L B) i).ver:=by
  intro i hiq;rw[hsg,Em];by_cases hi:i<n
  ·rw[qf hi,qf hi,qi hiq];exact V6 _ _ _ _
  ·rw[qi hi,qi hi];exact⟨rfl,rfl⟩
 have hav:∀i,(Af (CJ n ((L.filter λp=>K.contains p.1)++[(t,.sl q 1)]) (B++[(q,.row sz e ys,1)])) i).av=if i<n then(if i=t then .sl q 1 else if K.contains i then Dp L i else .any)else .any:=by
  intro i;rw[hsg];by_cases hi:i<n
  ·rw[qf hi,qf hi];by_cases hiq:i=q
   ·rw[qf hiq]
   ·rw[qi hiq,I9]
  ·rw[qi hi,qi hi];rfl
 refine h.exit (λi=>i=q) (by rw[KG,KG]) hsz hdf ⟨hb.os,hb.tape,hb.output,hb.size,λk hk _=>hb.block k hk⟩ (λi hi=>⟨by simp[Kz,hi],(hbo i hi).1,(hbo i hi).2⟩) (λi hi=>by subst hi;rw[hq2.2,hsq];exact .inl (Nat.zero_lt_one))
  (λi b hi h1 h2=>by subst hi;exact .inl (hnew b (by simpa [Kz] using h2))) (λi j b hi hj _ _ _ _=>hi.trans hj.symm) (λi hi=>?_) (λi hi=>by subst hi;exact .inl (by rw[hq2.2];exact Nat.one_ne_zero)) (λs u hu=>?_) (λs=>?_)
 ·subst hi;rw[hq2.1];obtain⟨vals,h1,h2⟩:=hr;exact⟨h0,hc,vals,by simpa [Kz] using h1,h2 _⟩
 ·rw[hav];by_cases hi:s<n
  ·rw[qf hi];by_cases hst:s=t
   ·subst hst;rw[qf rfl];refine .inr (.inr ⟨rfl,?_⟩);have:u=v:=P3 (hu.symm.trans hv);subst this;exact⟨by simp only[AG];rw[hq2.2];exact qb _,λ_=>by simp[Kz]⟩
   ·rw[qi hst];by_cases hk:K.contains s=true
    ·rw[qf hk];refine .inr (.inl ⟨?_,?_,?_⟩)
     ·rw[Em,qf hi,I9]
     ·rw[Em,qf hi,I9];exact TQ hgd s
     ·rw[<-hK s (by simpa using hk)];exact hu
    ·rw[qi hk];exact .inl rfl
  ·rw[qi hi];exact .inl rfl
 ·rw[hav];by_cases hi:s<n
  ·rw[qf hi];by_cases hst:s=t
   ·rw[qf hst];rfl
   ·rw[qi hst];by_cases hk:K.contains s=true
    ·rw[qf hk];exact TQ hgd s
    ·rw[qi hk];rfl
  ·rw[qi hi];rfl
theorem SimB.exitApp{n q vb j sz m mv bv:Nat}{e T:TypeId}{xs ys:List D}{L:List (Nat×AV)}{B:Bx}{cs:List C}{u':Value}{cv:Array Value}(h:SimB X (λ_=>False) β (CJ n L B) a w)(K:List Nat)(hq:q<n)(hvb:vb<n)(hne:vb≠q)
 (hBq:∀u,Cn B q u=⟨u,.row sz e xs,m⟩) (hBv:∀u,Cn B vb u=⟨u,.var cs,mv⟩) (hgd:∀p∈L,p.2.guards=[])
 (hB':∀i u,i<n->Cn (B.map λp=>if p.1=q then(q,.row sz e ys,m+1)else if p.1=vb then(vb,.var (cs.set j (.sl q (m+1))),p.2.2)else p) i u=if i=q then⟨u,.row sz e ys,m+1⟩else if i=vb then⟨u,.var (cs.set j (.sl q (m+1))),mv⟩else Cn B i u)
 (hsz:a'.tmps.size=a.tmps.size) (hdf:a'.defers=[]) (hK:∀k∈K,a'.tmps[k]?=a.tmps[k]?) (hβ:β vb=.pointer (some ⟨bv,0,none⟩)) (hw0:w.heap[bv]?=some (.cells cv T (0,0))) (hw1:w'.heap[bv]?=some (.cells (cv.setIfInBounds j u') T (0,0)))
 (hb:A7 w.heap.size (λb=>Ac (β q)=some b\/b=bv) w w') (hnew:∀b,Ac u'=some b->Ac (β q)=some b\/w.heap.size<=b) (hc:∀y∈ys,y.cells.length=sz)
 (hr:∃vals,Bj w' e sz u' ys.length vals/\∀O:Nat->Prop,(∀b,b<w.heap.size->O b->OS β X (CJ n L B) b)->(∀b,w.heap.size<=b->O b->Ac u'=some b)->Bl O w' vals (ys.flatMap D.cells)) :
 SimB X (λ_=>False) (Kz β q u') (CJ n (L.filter λp=>K.contains p.1) (B.map λp=>if p.1=q then(q,.row sz e ys,m+1)else if p.1=vb then(vb,.var (cs.set j (.sl q (m+1))),p.2.2)else p)) a' w':=by
 obtain⟨B',eB⟩:∃B',B'=B.map λp=>if p.1=q then(q,.row sz e ys,m+1)else if p.1=vb then(vb,.var (cs.set j (.sl q (m+1))),p.2.2)else p:=⟨_,rfl⟩
 rw[<-eB]at hB' ⊢;clear eB;obtain⟨S',eS⟩:∃S',S'=CJ n (L.filter λp=>K.contains p.1) B':=⟨_,rfl⟩;have hsg:∀i,Af S' i=if i<n then Cn B' i (if K.contains i then Dp L i else .any)else cF:=λi=>by rw[eS,Em,Mi]
 rw[<-eS];have hsq:Af (CJ n L B) q=⟨Dp L q,.row sz e xs,m⟩:=by rw[Em,qf hq,hBq]
 have hsv:Af (CJ n L B) vb=⟨Dp L vb,.var cs,mv⟩:=by rw[Em,qf hvb,hBv]
 have hq2:(Af S' q).box=.row sz e ys/\(Af S' q).ver=m+1:=by rw[hsg,qf hq,hB' q _ hq,qf rfl];exact⟨rfl,rfl⟩
 have hv2:(Af S' vb).box=.var (cs.set j (.sl q (m+1)))/\(Af S' vb).ver=mv:=by rw[hsg,qf hvb,hB' vb _ hvb,qi hne,qf rfl];exact⟨rfl,rfl⟩
 have hbo:∀i,i≠q->i≠vb->(Af S' i).box=(Af (CJ n L B) i).box/\(Af S' i).ver=(Af (CJ n L B) i).ver:=by
  intro i h1 h2;rw[hsg,Em];by_cases hi:i<n
  ·rw[qf hi,qf hi,hB' i _ hi,qi h1,qi h2];exact V6 _ _ _ _
  ·rw[qi hi,qi hi];exact⟨rfl,rfl⟩
 have hav:∀i,(Af S' i).av=if i<n then(if K.contains i then Dp L i else .any)else .any:=by
  intro i;rw[hsg];by_cases hi:i<n
  ·rw[qf hi,qf hi,hB' i _ hi];by_cases h1:i=q
   ·rw[qf h1]
   ·rw[qi h1];by_cases h2:i=vb
    ·rw[qf h2]
    ·rw[qi h2,I9]
  ·rw[qi hi,qi hi];rfl
 have ubq:Kz β q u' q=u':=by simp[Kz]
 have ubo:∀i,i≠q->Kz β q u' i=β i:=λi hi=>by simp[Kz,hi]
 have hbv:bv<w.heap.size:=CP hw0;have hqv:Ac (β q)≠some bv:=λe=>hne (h.inj vb q bv (by rw[hsv];rfl) (by rw[hsq];rfl) (by rw[hβ];rfl) e)
 have hOS:∀b,OS (Kz β q u') X S' b->(b<w.heap.size->OS β X (CJ n L B) b)/\(w.heap.size<=b->Ac u'=some b):=by
  rintro b (h1|h1|⟨i,h1,h2⟩)
  ·exact⟨λ_=>.inl h1,λhle=>by have:=(h.o₀ b h1).1;have:=h.hbase;omega⟩
  ·exact⟨λ_=>.inr (.inl h1),λhle=>by have:=(h.rs b h1).2;omega⟩
  ·by_cases hi:i=q
   ·subst hi;rw[ubq]at h2;refine⟨λhlt=>?_,λ_=>h2⟩;rcases hnew b h2 with h3|h3
    ·exact .inr (.inr ⟨i,by rw[hsq];rfl,h3⟩)
    ·omega
   ·rw[ubo i hi]at h2
    have ho:(Af (CJ n L B) i).box.owned=true:=by
     by_cases hv:i=vb
     ·rw[hv,hsv];rfl
     ·rw[<-(hbo i hi hv).1];exact h1
    exact⟨λ_=>.inr (.inr ⟨i,ho,h2⟩),λhle=>by have:=h.blk ho h2;omega⟩
 refine h.exit (λi=>i=q\/i=vb) (by rw[eS,KG,KG]) hsz hdf (hb.weaken (qb _) λk _ hk=>?_) (λi hi=>⟨ubo i (λe=>hi (.inl e)),hbo i (λe=>hi (.inl e)) (λe=>hi (.inr e))⟩)
  (λi hi=>?_) (λi b hi h1 h2=>?_) (λi j b hi hj h1 h2 h3 h4=>?_) (λi hi=>?_) (λi hi=>?_) (λt u hu=>?_) (λt=>?_)
 ·rintro(hh|hh)
  ·exact hk ⟨q,.inl rfl,by rw[hsq];rfl,hh⟩
  ·exact hk ⟨vb,.inr rfl,by rw[hsv];rfl,by rw[hβ,hh];rfl⟩
 ·rcases hi with rfl|rfl
  ·rw[hq2.2,hsq];exact .inl (rx _)
  ·rw[hv2.2,hsv];exact .inr ⟨rfl,ubo _ hne⟩
 ·rcases hi with rfl|rfl
  ·rw[ubq]at h2;rcases hnew b h2 with h3|h3
   ·exact .inr ⟨by rw[hsq];rfl,h3⟩
   ·exact .inl h3
  ·rw[ubo _ hne]at h2;exact .inr ⟨by rw[hsv];rfl,h2⟩
 ·have hx:∀b,Ac (Kz β q u' q)=some b->Ac (Kz β q u' vb)=some b->False:=λb e1 e2=>by
   rw[ubq]at e1;rw[ubo vb hne,hβ]at e2;have e2:bv=b:=by simpa [Ac] using e2
   subst e2;rcases hnew _ e1 with h5|h5
   ·exact hqv h5
   ·omega
  rcases hi with rfl|rfl<;>rcases hj with rfl|rfl
  ·rfl
  ·exact(hx b h3 h4).elim
  ·exact(hx b h4 h3).elim
  ·rfl
 ·rcases hi with rfl|rfl
  ·rw[hq2.1];have h0:=h.boxes i;rw[hsq]at h0;obtain⟨vals,h1,h2⟩:=hr;exact⟨h0.1,hc,vals,by rw[ubq];exact h1,h2 _ (λb hlt hb=>(hOS b hb).1 hlt) (λb hle hb=>(hOS b hb).2 hle)⟩
  ·rw[hv2.1];have h0:=h.boxes i;rw[hsv]at h0;obtain⟨b0,vals,T0,k1,k2,k3,k4⟩:=h0;rw[hβ]at k1;have k1:bv=b0:=by simpa using k1
   subst k1;rw[hw0]at k2;obtain⟨rfl,rfl⟩:cv=vals/\T=T0:=by simpa using k2
   refine⟨bv,_,T,by rw[ubo i hne];exact hβ,hw1,by simp[k3],λt v c hv hc=>?_⟩;have hkk:B0 (OS β X (CJ n L B)) (OS (Kz β q u') X S') w w':=⟨hb.size,λb hlt hb'=>(hOS b hb').1 hlt,λb hlt ho=>hb.block b hlt λhh=>ho (hh.elim (λe=>.inr (.inr ⟨q,by rw[hsq];rfl,e⟩)) λe=>.inr (.inr ⟨i,by rw[hsv];rfl,by rw[hβ,e];rfl⟩))⟩
   have hvr:∀i',AG (CJ n L B) i'<AG S' i'\/(AG S' i'=AG (CJ n L B) i'/\Kz β q u' i'=β i'):=λi'=>by
    by_cases h1:i'=q
    ·subst h1;left;show(Af _ _).ver<(Af _ _).ver;rw[hsq,hq2.2];exact rx _
    ·by_cases h2:i'=i
     ·subst h2;right;exact⟨by show(Af _ _).ver=(Af _ _).ver;rw[hsv,hv2.2],ubo _ h1⟩
     ·right;exact⟨(hbo i' h1 h2).2,ubo _ h1⟩
   rw[qO]at hc;rw[qR]at hv;by_cases ht:j=t
   ·subst ht;rw[qf rfl]at hc hv;split at hc
    ·split at hv
     ·obtain rfl:=P3 hc;obtain rfl:=P3 hv;exact⟨by show m+1<=(Af S' q).ver;rw[hq2.2];exact qb _,λ_=>by rw[ubq]⟩
     ·cases hv
    ·cases hc
   ·rw[qi ht]at hc hv;exact(k4 t v c hv hc).mono hkk hvr
 ·rcases hi with rfl|rfl
  ·exact .inl (by rw[hq2.2];exact Nat.succ_ne_zero _)
  ·exact .inr ⟨by rw[hv2.2,hsv],ubo _ hne,by rw[hsv];simp⟩
 ·rw[hav];by_cases hi:t<n
  ·rw[qf hi];by_cases hk:K.contains t=true
   ·rw[qf hk];refine .inr (.inl ⟨?_,?_,?_⟩)
    ·rw[Em,qf hi,I9]
    ·rw[Em,qf hi,I9];exact TQ hgd t
    ·rw[<-hK t (by simpa using hk)];exact hu
   ·rw[qi hk];exact .inl rfl
  ·rw[qi hi];exact .inl rfl
 ·rw[hav];by_cases hi:t<n
  ·rw[qf hi];by_cases hk:K.contains t=true
   ·rw[qf hk];exact TQ hgd t
   ·rw[qi hk];rfl
  ·rw[qi hi];rfl
end
theorem Y7(w:World):grow w #[]=w:=by simp[grow]
theorem Xd(xs:List Int):(Lib.compact xs).length<=xs.length:=by
 unfold Lib.compact Lib.compactUpTo;rw[pX];exact qt (rl _ _) (by simp)
theorem jU{P:Program}{ρ:Ren}(Ly:Lays2.n20 P ρ)(hc:EG P (ρ.f 20)=true)(e:TypeId)(xs:List Int)(hl:xs.length<4611686018427387904) :
 Dl P (ρ.f 20) [.own 1 e (xs.map (D.int .i64))] [.any] (.own 1 e ((Lib.compact xs).map (D.int .i64))):=by
 refine⟨hc,rfl,λO w vs hO _ hlen hMO hinj hargs=>?_⟩
 obtain⟨v,rfl⟩:∃v,vs=#[v]:=by
  obtain⟨l⟩:=vs
  match l,hlen with
  | [v],_=>exact⟨v,rfl⟩
 obtain⟨_,_,vals,hrow,hL⟩:=hargs 0 v _ rfl rfl;rw[Jo]at hL;obtain rfl:=R0 hL;have hmut:∀b,Ac v=some b->Hl #[v] [.own 1 e (xs.map (D.int .i64))] b:=λb hb=>⟨0,v,_,rfl,rfl,rfl,hb⟩
 have hnot:∀b,¬Hl #[v] [.any] b:=by
  rintro b ⟨i,u,x,h1,h2,h3,_⟩
  match i,h1,h2 with
  | 0,h1,h2=>simp at h2;subst h2;simp[AV.mut]at h3
  | i+1,h1,h2=>simp at h1
 have Ef:∀{w':World}{e':Ending}{u:Value},e'=.returned u->(∀b,Ac u=some b->Ac v=some b)->A7 w.heap.size (Hl #[v] [.own 1 e (xs.map (D.int .i64))]) w w'->Bj w' e 1 u (Lib.compact xs).length ((Lib.compact xs).map (Value.int .i64)) ->
  ∃u,e'=.returned u/\A7 w.heap.size (Hl #[v] [.own 1 e (xs.map (D.int .i64))]) w w' /\
  CK (λb=>w.heap.size<=b\/(Hl #[v] [.own 1 e (xs.map (D.int .i64))] b/\¬Hl #[v] [.any] b)) (λb=>O b\/Hl #[v] [.any] b) w' u (.own 1 e ((Lib.compact xs).map (D.int .i64))) /\
  ∀(i:Nat) u' x y,#[v][i]?=some u'->[AV.own 1 e (xs.map (D.int .i64))][i]?=some x->[AV.any][i]?=some y->Qh (λb=>O b\/Hl #[v] [.any] b\/Dw u (.own 1 e ((Lib.compact xs).map (D.int .i64))) b) w' u' x y:=by
  intro w' e' u he hbl hb hr;refine⟨u,he,hb,⟨by omega,λx hx=>?_,λb hb'=>.inr ⟨hmut b (hbl b hb'),hnot b⟩,_,by simpa using hr,by rw[Jo];exact Rv _ _ _⟩,λi u' x y h1 h2 h3=>?_⟩
  ·obtain⟨n,_,rfl⟩:=List.mem_map.1 hx;rfl
  ·match i,h3 with
   | 0,h3=>simp at h3;subst h3;trivial
   | i+1,h3=>simp at h3
 have none:xs=[]->∀p cap,v=.slice p 0 cap->Calls P (ρ.f 20) #[v] w λe' w'=>∃u,e'=.returned u/\A7 w.heap.size (Hl #[v] [.own 1 e (xs.map (D.int .i64))]) w w' /\
  CK (λb=>w.heap.size<=b\/(Hl #[v] [.own 1 e (xs.map (D.int .i64))] b/\¬Hl #[v] [.any] b)) (λb=>O b\/Hl #[v] [.any] b) w' u (.own 1 e ((Lib.compact xs).map (D.int .i64))) /\
  ∀(i:Nat) u' x y,#[v][i]?=some u'->[AV.own 1 e (xs.map (D.int .i64))][i]?=some x->[AV.any][i]?=some y->Qh (λb=>O b\/Hl #[v] [.any] b\/Dw u (.own 1 e ((Lib.compact xs).map (D.int .i64))) b) w' u' x y:=by
  intro h0 p cap hv;subst h0;have hc:=Any.slices_Compact_int_empty Ly p cap w;rw[<-hv]at hc;refine hc.mono λe' w' ⟨he,hw⟩=>?_;subst hw;refine Ef he (λ_ h=>h) ⟨rfl,rfl,rfl,qb _,λ_ _ _=>rfl⟩ ?_
  simpa [Lib.compact,Lib.compactUpTo] using hrow
 rcases hrow with hrow'|⟨h0,_,a,hv⟩
 ·rcases hrow'.2 with⟨hv,h0⟩|⟨g,cap,cur,hv,hbase,hb,h1,h2,h3,h4⟩
  ·exact none (by simpa using h0) _ _ hv
  ·rw[pX]at h1 hv;by_cases h00:cap=0
   ·have hx:xs=[]:=qq (by omega);exact none hx (some ⟨g,0,Option.none⟩) cap (by rw[hv,hx];rfl)
   have hH:Holds (Value.int .i64) w g 0 xs.toArray:=holds_of_blockI hb (by simpa using h4);have hc:=Any.slices_Compact_int Ly g 0 cap xs w hH (by omega) h1;rw[<-hv]at hc;refine hc.mono λe' w' ⟨he,n,hw⟩=>?_;have hcl:=Xd xs;generalize hts:Lib.compact xs++List.replicate (xs.length-(Lib.compact xs).length) 0=ts at hw;have htl:ts.length=xs.length:=by rw[<-hts];simp;omega
   have hgr:=grownBy_sortedI (w:=w) (g:=g) (n:=n) (os:=#[]) ts.toArray;rw[Y7,<-hw]at hgr;refine Ef he (λb hb'=>?_) ⟨hgr.os,hgr.tape,hgr.output,hgr.size,λk hk hm=>hgr.block k hk λhkg=>?_⟩ (.inl ?_)
   ·rw[hv];simpa [Ac] using hb'
   ·refine hm ⟨0,v,_,rfl,rfl,rfl,?_⟩;rw[hv];simp only[Ac,h00,if_false];exact hkg.symm
   ·have ho:=ownsRow_sortedI (w:=w) (base:=0) (g:=g) (cap:=cap) (n:=n) (e:=e) (os:=#[]) (cur:=cur) (ss:=xs) (ts:=ts) htl hbase hb h1 h2 h3;rw[Y7,<-hw]at ho;refine⟨by simp,.inr ?_⟩;rcases ho.2 with⟨h,_⟩|⟨g',cap',cur',hv',hb',hh',hn',hc',hs',ht'⟩
    ·cases h
    cases hv'
    refine⟨g,cap,cur',rfl,hb',hh',by omega,hc',hs',?_⟩
    have:cur'.toList.take ((Lib.compact xs).length*1)=(cur'.toList.take (xs.length*1)).take ((Lib.compact xs).length*1):=by
     rw[List.take_take,rB (by omega)]
    rw[this,ht',<-hts];simp
 ·exact none (by simpa using h0) _ _ hv
open Go.Lib
open Go.RowKit (Below)
structure DW(w:World)(g cap n:Nat)(T:TypeId)(wr:World)(dk:Array Int):Prop where
 below:A7 w.heap.size (λb=>b=g) w wr
 size:dk.size=n
 cells:∃cur,wr.heap[g]?=some (.cells cur T (0,0))/\cur.size=cap*1/\cur.toList.take n=dk.toList.map (Value.int .i64)
theorem DW.holds{w wr:World}{g cap n:Nat}{T:TypeId}{dk:Array Int}(h:DW w g cap n T wr dk):Holds (Value.int .i64) wr g 0 dk:=by
 obtain⟨cur,h1,_,h3⟩:=h.cells;have:=holds_of_blockI (ss:=dk.toList) h1 (by rw[show dk.toList.length=n from by simpa using h.size];exact h3)
 rwa [Array.toArray_toList]at this
theorem DW.lt{w wr:World}{g cap n:Nat}{T:TypeId}{dk:Array Int}(h:DW w g cap n T wr dk):g<wr.heap.size:=by
 obtain⟨cur,h1,_,_⟩:=h.cells;exact(Array.getElem?_eq_some_iff.1 h1).1
theorem DW.call{w wr w':World}{g cap n:Nat}{T:TypeId}{dk:Array Int}(h:DW w g cap n T wr dk)(hb:Below wr.heap.size wr w'):DW w g cap n T w' dk:=by
 refine⟨h.below.trans ((A7.of hb).weaken h.below.size λ_ _ hk=>hk),h.size,?_⟩;obtain⟨cur,h1,h2,h3⟩:=h.cells;exact⟨cur,by rw[hb.block g h.lt];exact h1,h2,h3⟩
theorem DW.store{w wr:World}{g cap n:Nat}{T:TypeId}{dk:Array Int}(h:DW w g cap n T wr dk){i:Nat}(hi:i<n)(hn:n<=cap)(u:Int):DW w g cap n T (wr.setCell ⟨g,i,none⟩ (.int .i64 u)) (dk.setIfInBounds i u):=by
 obtain⟨cur,h1,h2,h3⟩:=h.cells;have hg:=h.lt;refine⟨⟨h.below.os,h.below.tape,h.below.output,by show w.heap.size<=(Array.modify _ _ _).size;rw[Array.size_modify];exact h.below.size,λk hk hm=>?_⟩,by simp[h.size],cur.setIfInBounds i (.int .i64 u),?_,by simp[h2],?_⟩
 ·show(Array.modify _ _ _)[k]?=_;rw[rU,qi (λe=>hm e.symm)];exact h.below.block k hk hm
 ·show(Array.modify _ _ _)[g]?=_;rw[rU,qf rfl,h1];rfl
 ·rw[rq,rq,q7,<-h3,List.take_set]
theorem DW.clear{w:World}{g cap n:Nat}{T:TypeId}(hn:n<=cap):∀(zs:List Int){wr:World}{dk:Array Int}(k:Nat),DW w g cap n T wr dk->k+zs.length<=n->DW w g cap n T (wr.setCells g k (zs.map (Value.int .i64))) (lay dk k zs)
 | [],_,_,_,h,_=>h
 | z :: r,wr,dk,k,h,hk=>by
   simp only[qP]at hk;exact DW.clear hn r (k+1) (h.store (by omega) hn z) (by omega)
theorem DW.row{w wr:World}{g cap n:Nat}{T:TypeId}{dk:Array Int}(h:DW w g cap n T wr dk){R:List Int}(hR:R.length<=n)(hd:dk.toList.take R.length=R)(hn:n<=cap)(hcap:cap<=maxLen):Bj wr T 1 (.slice (some ⟨g,0,none⟩) R.length cap) R.length (R.map (Value.int .i64)):=by
 obtain⟨cur,h1,h2,h3⟩:=h.cells;refine .inl ⟨by simp,.inr ⟨g,cap,cur,rfl,pY _,h1,by omega,hcap,h2,?_⟩⟩;have e:cur.toList.take (R.length*1)=(cur.toList.take n).take R.length:=by rw[List.take_take,rB hR,ry]
 rw[e,h3,<-List.map_take,hd]
open Go.ChangeShapes Go.WideShapes
theorem jG{H:Type}{enc:TypeId×Value->H}{P:Program}{W:World}{base:Nat}{spare:Nat->Bool}{held:Bool}{t e:TypeId}{k:IntKind}{v:Value}{d:DataW H}{p:List MemPlace}
 (ht:P.underlying t=some (.slice e)) (he:P.underlying e=some (.int k)) (hc:P.cellsOf e=1) (hv:∃a n c,v=.slice a n c) (h:DataW.Trod enc P W base spare held t v d p) :
 ∃xs:List Int,Aw (λ_=>False) W v (.list 1 (xs.map (D.int k)))/\xs.length<=maxLen/\∀n∈xs,(Lit.int k n).wf=true:=by
 obtain⟨fuel,hf⟩:=h;obtain⟨a0,n0,c0,rfl⟩:=hv;rcases open_ints ht he hc hf with⟨hcs,_⟩|⟨x,l,c,zs,hcs,_,hl,hm,hz,_,hcell,hwz⟩
 ·simp[Value.cells]at hcs;obtain⟨rfl,rfl,rfl⟩:=hcs;exact⟨[],.emp _ _ _,by simp[maxLen],λn hn=>by simp at hn⟩
 ·simp[Value.cells]at hcs;obtain⟨rfl,rfl,rfl⟩:=hcs;have hln:n0<=zs.length:=by rw[hz];split<;>omega
  refine⟨zs.take n0,?_,by simp;omega,λn hn=>hwz n (qV hn)⟩;have hlen:(zs.take n0).length=n0:=by simp;omega
  by_cases h0:n0=0
  ·subst h0;exact .emp _ _ _
  ·obtain⟨b,off,spot⟩:=x;have hc0:=hcell 0 (by omega);have hspot:spot=none:=by simpa [Addr.add] using World.cell?_spot hc0
   subst hspot
   have hb:b<W.heap.size:=by
    rcases qw b W.heap.size with h|h
    ·exact h
    ·simp[World.cell?,Addr.add,qT h]at hc0
   have hlm:((zs.take n0).map (D.int k)).length=n0:=by rw[pX,hlen]
   have hget:∀(i:Nat)(y:D),((zs.take n0).map (D.int k))[i]?=some y->i<n0/\y=.int k (zs.getD i 0):=by
    intro i y hy;simp only[ql,qB]at hy;split at hy
    ·rename_i hi
     refine⟨hi,?_⟩;have hi':i<zs.length:=by omega
     simp[P2 hi']at hy;simp[List.getD,P2 hi',hy]
    ·simp at hy
   have key:=Aw.list (O:=λ_=>False) (w:=W) b off c0 1 ((zs.take n0).map (D.int k)) (λi _=>.int k (zs.getD i 0)) (by intro h;rw[<-List.length_eq_zero_iff,hlm]at h;exact h0 h) hb (λh=>h) (by rw[hlm];exact hl)
    (λy hy=>by obtain⟨m,_,rfl⟩:=List.mem_map.1 hy;rfl) (λy hy z hz=>by obtain⟨m,_,rfl⟩:=List.mem_map.1 hy;simp[D.cells]at hz;subst hz;rfl)
    (λi y j z hy hz=>by
     obtain⟨hi,rfl⟩:=hget i y hy;have hj:j=0:=by cases j with|zero=>rfl|succ j=>simp[D.cells]at hz
     subst hj;have:=hcell i (by omega);rw[GK]at this
     simpa using this)
    (λi y j z hy hz=>by
     obtain⟨hi,rfl⟩:=hget i y hy;have hj:j=0:=by cases j with|zero=>rfl|succ j=>simp[D.cells]at hz
     subst hj;simp[D.cells]at hz;subst hz;exact .int _ _)
   rw[hlm]at key;exact key
end Go.Abs
