/- M3 -/
import Derived.Test.YtkjijhldfdplgaaGreatDoorM2
import Derived.Tactics
import Derived.Shelf.Sort.Plain
import Derived.Shelf.Slices.In.SortNone
import Derived.Sort.OwnSortedInts
import Derived.Shelf.Slices.CompactI
import Derived.Lib.SlKept
import Derived.Lib.SliceRun
import Derived.ChangeSlices
import Derived.OpenShut
set_option linter.all false
namespace Go.Abs
open Go.RowKit (Below)
section
variable {P:Program} {X:Cx} {G:Nat->Prop} {β:Nat->Value} {S:AS} {a:Act} {w:World} {o:Oper}
theorem aJ{α:Type}{x:Array α}{p:α}(h:x.toList=[p]):x=#[p]:=by grind
theorem LD{α:Type}{x:Array α}{p q:α}(h:x.toList=[p,q]):x=#[p,q]:=by grind
theorem AU{K:Hy->Prop}(h:∃e,K e/\Dx P X G S a w o e):∃e,K e/\(Hn S e.homes=true->Dx P X G S a w o e):=by grind
set_option maxHeartbeats 2000000 in
theorem oq(h:SimB X G β S a w){g:Option (Nat×Bool)}(A:BW g a){d:Nat}(hd:d<S.length){K:Hy->Prop}(hy:yA P (σOf S) (ρOf S) g o d (Ai S d).ver K) :
 ∃e,K e/\(Hn S e.homes=true->Dx P X G S a w o e):=by
 unfold yA at hy;split at hy
 ·rename_i x ho
  exact AU ⟨_,hy,ZE h A (.inl ho)⟩
 ·rename_i x ho
  split at hy
  ·rename_i W
   split at hy
   ·rename_i e _
    obtain⟨H,hy⟩:=Al hy;exact AU ⟨_,hy,lW h hd ho W H⟩
   ·grind
  ·exact AU ⟨_,hy,ZE h A (.inr ho)⟩
 ·rename_i t x y ho
  split at hy
  ·rename_i F;have H:=ρ_sound h A (.tmp t);rw[F]at H;exact H.elim
  ·rename_i c F
   split at hy
   ·rename_i H
    split at hy
    ·rename_i b2 L
     exact AU ⟨_,hy,fU h A ho F H L⟩
    ·grind
   ·rename_i b1 H
    split at hy
    ·rename_i L
     exact AU ⟨_,hy,fV h A ho F H L⟩
    ·rename_i b2 L
     exact AU ⟨_,hy,jN h A ho F H L⟩
    ·grind
   ·grind
  ·grind
 ·rename_i T x ho
  exact AU (lT h A hd ho hy)
 ·rename_i T ho
  split at hy
  ·rename_i l hl
   exact AU (fP h hd ho hl hy)
  ·grind
 ·rename_i t parts ho
  split at hy
  ·rename_i N B
   split at hy
   ·rename_i zd hzd
    obtain⟨Y,hy⟩:=Al hy;split at hy
    ·exact AU (XP h A ho B hzd Y hy)
    ·rcases hy.go with hy|hy
     ·exact AU (XP h A ho B hzd Y hy)
     ·exact AU (dp h A ho B hzd Y hy)
   ·grind
  ·grind
 ·rename_i t n parts ho
  split at hy
  ·rename_i e B
   exact AU (Xh h A hd ho B hy)
  ·grind
 ·rename_i t x y ho
  split at hy
  ·rename_i e B
   split at hy
   ·rename_i k l hl
    split at hy
    ·rename_i k' c F
     obtain⟨⟨H,L⟩,hy⟩:=Al hy;exact AU (jM h A hd ho B H L hl F hy)
    ·grind
   ·grind
  ·grind
 ·rename_i f first caps ho
  split at hy
  ·rename_i O
   split at hy
   ·exact AU (ZD h A ho O hy)
   ·rcases hy.go with hy|hy
    ·exact AU (ZD h A ho O hy)
    ·exact AU (fS h A ho O hy)
  ·grind
 ·rename_i t x ho
  have hr:=ρ_sound h A x;split at hy
  ·rename_i hx;rw[hx]at hr;exact hr.elim
  ·rename_i id n off cs hx
   rw[hx]at hr;exact AU (du h ho hr hy)
  ·rename_i cs hx
   rw[hx]at hr;exact AU (dq h ho hr hy)
  ·rename_i id n sz e xs i off hx
   rw[hx]at hr;exact AU (dr h ho hr hy)
  ·grind
 ·rename_i t p x ho
  obtain⟨Q,hy⟩:=Al hy;obtain⟨i,Q⟩:=Option.isSome_iff_exists.1 Q;have hr:=ρ_sound h A p;split at hy
  ·rename_i id n off cs hx
   rw[hx]at hr;exact AU (bg h A ho hr Q hy)
  ·rename_i id n sz e xs k off hx
   rw[hx]at hr;exact AU (be h A ho hr Q hy)
  ·grind
 ·rename_i x ho
  have hr:=ρ_sound h A x;split at hy
  ·rename_i id n off cs hx
   rw[hx]at hr;have R:=Ny (tm:=a.tmps) hr;obtain⟨_,_,b,_,V⟩:=hr;exact AU ⟨_,hy,LE h ho (.inl ⟨_,V⟩) R.1 R.2⟩
  ·rename_i cs hx
   rw[hx]at hr;have R:=Ny (tm:=a.tmps) hr;obtain⟨b,off,V,_⟩:=YB hr;exact AU ⟨_,hy,LE h ho (.inl ⟨_,V⟩) R.1 R.2⟩
  ·rename_i f cs hx
   rw[hx]at hr;have R:=Ny (tm:=a.tmps) hr;obtain⟨vs,V,_⟩:=jf hr;exact AU ⟨_,hy,LE h ho (.inr ⟨f,vs,V⟩) R.1 R.2⟩
  ·rename_i id n sz e xs i off hx
   rw[hx]at hr;have R:=Ny (tm:=a.tmps) hr;obtain⟨_,_,b,m,cap,_,V⟩:=hr;exact AU ⟨_,hy,LE h ho (.inl ⟨_,V⟩) R.1 R.2⟩
  ·grind
 ·rename_i op t x y U ho
  have j:=ρ_sound h A x;have I:=ρ_sound h A y;split at hy
  ·rename_i hp;rw[hp]at j;exact j.elim
  ·rename_i p hp
   rw[hp]at j;split at hy
   ·rename_i hq;rw[hq]at I;exact I.elim
   ·rename_i q hq
    rw[hq]at I;exact AU (fQ h ho j I hy)
   ·grind
  ·grind
 ·rename_i op t x ho
  have j:=ρ_sound h A x;split at hy
  ·rename_i hp;rw[hp]at j;exact j.elim
  ·rename_i p hp
   rw[hp]at j;exact AU (jO h ho j hy)
  ·grind
 ·rename_i s t x ho
  have j:=ρ_sound h A x;split at hy
  ·rename_i ds C
   split at hy
   ·rename_i k Z
    split at hy
    ·rename_i hx;rw[hx]at j;exact j.elim
    ·rename_i k' n hx
     rw[hx]at j;exact AU ⟨_,hy,aW h ho Z ⟨_,C⟩ j⟩
    ·grind
   ·rename_i Z
    split at hy
    ·rename_i hx;rw[hx]at j;exact j.elim
    ·rename_i b hx
     rw[hx]at j;exact AU ⟨_,hy,aX h ho Z ⟨_,C⟩ j⟩
    ·grind
   ·rename_i e Z
    split at hy<;>try exact hy.elim
    rename_i he
    split at hy
    ·rename_i hx;rw[hx]at j;exact j.elim
    ·rename_i b hx
     rw[hx]at j;exact AU ⟨_,hy,XQ h ho Z he ⟨_,C⟩ j⟩
    ·grind
   ·grind
  ·grind
 ·rename_i s x f ho
  split at hy
  ·rename_i N B
   split at hy
   ·rename_i fd O
    obtain⟨hz,hy⟩:=Al hy;exact AU (XR h A ho B O hz hy)
   ·grind
  ·grind
 ·rename_i s x f ho
  have j:=ρ_sound h A x;split at hy
  ·rename_i N B
   split at hy
   ·rename_i fd O
    split at hy
    ·rename_i hx;rw[hx]at j;exact j.elim
    ·rename_i cs hx
     rw[hx]at j;exact AU (fR h ho B O j hy)
    ·grind
   ·grind
  ·grind
 ·rename_i t x ix ho
  have j:=ρ_sound h A x;have E:=ρ_sound h A ix;split at hy
  ·rename_i e B
   split at hy
   ·rename_i k i Q
    rw[Q]at E;split at hy
    ·rename_i sz xs hx
     rw[hx]at j;obtain⟨⟨C,D⟩,hy⟩:=Al hy;exact AU (UE h ho B C D E j hy)
    ·rename_i sz xs hx
     rw[hx]at j;obtain⟨⟨C,D⟩,hy⟩:=Al hy;exact AU (UE h ho B C D E j.1 hy)
    ·rename_i id n sz e' xs hx
     rw[hx]at j;obtain⟨C,hy⟩:=Al hy;obtain⟨⟨h0,H⟩,hy⟩:=hy;exact AU ⟨_,hy,XU h ho B E C j h0 H⟩
    ·grind
   ·grind
  ·rename_i n e B
   split at hy
   ·rename_i k i Q
    rw[Q]at E;split at hy
    ·rename_i cs hx
     rw[hx]at j;obtain⟨C,hy⟩:=Al hy;obtain⟨W,hy⟩:=hy;exact AU (XT h ho B C E j W hy)
    ·rename_i id m off cs hx
     rw[hx]at j;obtain⟨C,hy⟩:=Al hy;obtain⟨⟨h0,W⟩,hy⟩:=hy;exact AU ⟨_,hy,Xi h ho B C E j h0 W⟩
    ·grind
   ·grind
  ·grind
 ·rename_i t x ix ho
  have j:=ρ_sound h A x;have E:=ρ_sound h A ix;split at hy
  ·rename_i n e B
   split at hy
   ·rename_i k i Q
    rw[Q]at E;split at hy
    ·rename_i cs hx
     rw[hx]at j;obtain⟨C,hy⟩:=Al hy;obtain⟨⟨h0,W⟩,hy⟩:=hy;exact AU (XS h ho B E j C h0 W hy)
    ·grind
   ·grind
  ·rename_i B
   split at hy
   ·rename_i k i Q
    rw[Q]at E;split at hy
    ·rename_i b hx
     rw[hx]at j;obtain⟨⟨h0,H⟩,hy⟩:=hy;exact AU ⟨_,hy,aY h ho B E j h0 H⟩
    ·grind
   ·grind
  ·grind
 ·rename_i t x lo Q mx ho
  have j:=ρ_sound h A x;split at hy
  ·rename_i B
   cases mx with
   | some m=>grind
   | none =>
     simp only at hy;split at hy
     ·rename_i b hx
      rw[hx]at j;obtain⟨l,hy,hl⟩:=P9 h A hy;obtain⟨r,hy,hr⟩:=P9 h A hy;obtain⟨⟨h0,H,L⟩,hy⟩:=hy;exact AU ⟨_,hy,bd h ho B j hl hr h0 H L⟩
     ·grind
  ·rename_i e B
   split at hy
   ·rename_i sz xs hx
    rw[hx]at j;obtain⟨⟨C,D⟩,hy⟩:=Al hy;exact AU (MJ h A ho B C D (bx:=[]) trivial j hy)
   ·rename_i sz hx
    rw[hx]at j;obtain⟨⟨C,D⟩,hy⟩:=Al hy;exact AU (MJ h A ho B C D (bx:=[]) (xs:=[]) trivial (Ax.norm j) hy)
   ·rename_i sz xs hx
    rw[hx]at j;obtain⟨⟨C,D⟩,hy⟩:=Al hy;exact AU (MJ h A ho B C D (bx:=[]) trivial j.1 hy)
   ·rename_i id n sz e' xs hx
    rw[hx]at j;obtain⟨⟨C,D⟩,hy⟩:=Al hy;rcases hy.go with hy|hy
    ·obtain⟨y,b,hK,hF,_,hh⟩:=JJ (x:=X) (G:=G) (a:=a) (K:=λy b=>y=.list sz xs/\b=[(id,BA.frow sz xs,n)]) j ⟨rfl,rfl⟩;obtain⟨rfl,rfl⟩:=hK;exact AU (MJ h A ho B C D hF (hh.now h hF) hy)
    ·cases lo with
     | some q=>grind
     | none =>
       cases mx with
       | some q=>grind
       | none =>
         simp only at hy;obtain⟨r,hy,hr⟩:=P9 h A hy;obtain⟨⟨h0,L⟩,hy⟩:=hy;exact AU ⟨_,hy,lU h ho B C D j hr h0 L⟩
   ·grind
  ·grind
 ·rename_i c ho
  split at hy
  ·rename_i fo F
   split at hy
   ·rename_i f caps O
    split at hy
    ·exact ZC h A hd ho F O hy
    ·rename_i k id n cl hfd
     rcases hy.go with hy|hy
     ·split at hy<;>try exact hy.elim
      exact AU (fT h A ho F O hfd hy)
     ·exact ZC h A hd ho F O hy
   ·rename_i f cs k id n rid rn O
    split at hy<;>try exact hy.elim
    rename_i hr
    exact AU (fW h A ho F O hr hy)
   ·grind
  ·rename_i F
   split at hy
   ·rename_i x t hx Z
    have M:c=⟨.builtin .len,#[x],#[t]⟩:=by
     obtain⟨J,args,ts⟩:=c;simp only at F hx Z;rw[F,aJ hx,aJ Z]
    rw[M]at ho;have j:=ρ_sound h A x;split at hy
    ·rename_i B
     split at hy
     ·rename_i C;rw[C]at j;exact j.elim
     ·rename_i s C
      rw[C]at j;exact AU ⟨_,hy,jL h ho (KW j) B⟩
     ·grind
    ·rename_i e B
     split at hy
     ·rename_i C;rw[C]at j;exact j.elim
     ·obtain⟨sz,ys,hK,ad,c',V,_⟩:=SL h j hy;exact AU ⟨_,hK,lV h ho ⟨ad,c',V⟩ B⟩
    ·grind
   ·grind
  ·rename_i F
   split at hy
   ·rename_i x y hx
    have M:c=⟨.builtin .min,#[x,y],c.argTypes⟩:=by
     obtain⟨J,args,ts⟩:=c;simp only at F hx;rw[F,LD hx]
    rw[M]at ho;split at hy
    ·rename_i k m hm
     have j:=ρ_sound h A x;rw[hm]at j;split at hy
     ·rename_i k' n W
      have I:=ρ_sound h A y;rw[W]at I;exact AU ⟨_,hy,(W7 h ho j I).1 rfl⟩
     ·grind
    ·grind
   ·grind
  ·rename_i F
   split at hy
   ·rename_i x y hx
    have M:c=⟨.builtin .max,#[x,y],c.argTypes⟩:=by
     obtain⟨J,args,ts⟩:=c;simp only at F hx;rw[F,LD hx]
    rw[M]at ho;split at hy
    ·rename_i k m hm
     have j:=ρ_sound h A x;rw[hm]at j;split at hy
     ·rename_i k' n W
      have I:=ρ_sound h A y;rw[W]at I;exact AU ⟨_,hy,(W7 h ho j I).2 rfl⟩
     ·grind
    ·grind
   ·grind
  ·rename_i F
   split at hy
   ·rename_i x y t u hx Z
    have M:t=u->c=⟨.builtin .append,#[x,y],#[t,t]⟩:=by
     intro e;subst e;obtain⟨J,args,ts⟩:=c;simp only at F hx Z;rw[F,LD hx,LD Z]
    split at hy
    ·rename_i e B
     obtain⟨⟨htu,D,hz⟩,hy⟩:=Al hy;rw[M htu]at ho;obtain⟨sz',ys,hK,ad,c',V,hys⟩:=SL h (ρ_sound h A y) hy;have j:=ρ_sound h A x;split at hK
     ·rename_i id n sz e' xs hxr
      obtain⟨⟨he,hsz⟩,hK2⟩:=Al hK;subst he;rw[hxr]at j;obtain⟨⟨H,L,h3⟩,hK3⟩:=hK2;exact AU ⟨_,hK3,dm h ho B j hsz hz V hys H L (by grind)⟩
     ·rename_i s hxr
      rw[hxr]at j;have j:Ax (OS β X S) w (a.eval x) (.nil s):=j;obtain⟨⟨H,L,h3⟩,hK3⟩:=hK
      have hx0:∃ad0,a.eval x=.slice ad0 0 0:=by
       generalize a.eval x=v at j
       cases j
       grind
      obtain⟨ad0,hx0⟩:=hx0;exact AU ⟨_,hK3,QA h hd ho B (xs:=[]) rfl D hz V hys (by grind) (by simpa using L) h3 (.inl ⟨ad0,hx0,rfl⟩)⟩
     ·rename_i sz xs hxr
      obtain⟨hsz,hK2⟩:=Al hK;rw[hxr]at j;obtain⟨⟨⟨H,L,h3⟩,h4⟩,hK3⟩:=hK2;exact AU ⟨_,hK3,QA h hd ho B hsz (by grind) hz V hys H L (by rw[hsz];exact h3) (.inr ⟨j.1,j.2,h4⟩)⟩
     ·grind
    ·grind
   ·grind
  ·grind
 ·rename_i t i ho
  have j:=ρ_sound h A t;split at hy
  ·rename_i xs hx
   rw[hx]at j;split at hy
   ·rename_i y hyy
    exact AU ⟨_,hy,(UD h ho j hyy).1 _ rfl⟩
   ·rename_i id n hyy
    exact AU ⟨_,hy,(UD h ho j hyy).2 _ _ rfl⟩
   ·grind
  ·grind
 ·rename_i t ho
  split at hy
  ·exact AU ⟨_,hy,aZ h hd ho⟩
  ·grind
 ·rename_i t x ix ok ho
  split at hy
  ·rename_i kt et B
   unfold iU at hy;split at hy<;>try exact hy.elim
   rename_i id n es hx
   split at hy<;>try exact hy.elim
   rename_i q hq
   split at hy<;>try exact hy.elim
   rename_i kd hkq
   obtain⟨⟨hku,hkk⟩,hy⟩:=hy;split at hy<;>try exact hy.elim
   rename_i z hz
   obtain⟨v,b,rfl,rfl,hy⟩:=hy.go;have hd':=dw h A ho B hx hq hkq hku hkk hz;grind
  ·grind
 ·rename_i t m k x ho
  split at hy
  ·rename_i kt et B
   unfold pG at hy;split at hy<;>try exact hy.elim
   rename_i id n es hm
   split at hy<;>try exact hy.elim
   rename_i q hq
   split at hy<;>try exact hy.elim
   rename_i y hyy
   split at hy<;>try exact hy.elim
   rename_i kd hkq
   obtain⟨⟨R,hku,hkk⟩,hy⟩:=hy;exact AU ⟨_,hy,dx h A ho B hm hq hyy R hkq hku hkk⟩
  ·grind
 ·grind
theorem gC{t:TypeId}{cs:List D}{K:D->Prop}(hy:dZ P t cs K):∃x,K x:=by
 unfold dZ at hy;split at hy
 ·split at hy
  ·rw[BN]at hy;grind
  ·grind
 all_goals grind
theorem lD{op:BinOp}{k:IntKind}{m n:Int}{K:D->Prop}(hy:X7 op k m n K):∃x,K x:=by
 cases op<;>simp only[X7]at hy<;>first|exact hy.elim|exact⟨_,hy⟩|exact⟨_,hy.2⟩
theorem pA{op:BinOp}{x y:ByteArray}{K:D->Prop}(hy:gY op x y K):∃x,K x:=by
 cases op<;>simp only[gY]at hy<;>first|exact hy.elim|exact⟨_,hy⟩|exact⟨_,hy.2⟩
theorem me:∀(n:Nat){t:TypeId}{xs ys:List D}{K:Bool->Prop},dz P n t xs ys K->∃b,K b
 | 0,_,_,_,_,h=>h.elim
 | n+1,t,xs,ys,K,h=>by
   unfold dz at h;split at h
   ·grind
   ·grind
   ·grind
   ·obtain⟨_,h⟩:=h
    ·have key:∀(l:List Field)(K:Bool->Prop),List.rec (motive:=λ_=>(Bool->Prop)->Prop) (λK=>K true)
      (λf _ ih K=>dz P n f.type ((xs.drop f.offset).take (AF P f.type)) ((ys.drop f.offset).take (AF P f.type)) λa=>ih λb=>K (a&&b)) l K->∃b,K b:=by
      intro l
      induction l with
      | nil=>intro K h;exact⟨_,h⟩
      | cons f r ih =>
        intro K h;obtain⟨a,c⟩:=me n h;grind
     grind
   ·grind
theorem oA{t:TypeId}{op:BinOp}{x y:D}{K:D->Prop}(hy:cN P t op x y K):∃x,K x:=by
 cases x<;>cases y<;>simp only[cN]at hy
 case bool.bool =>
  grind
 case int.int k m k' n =>
  have f:op=.shl\/op=.shr\/(op≠.shl/\op≠.shr):=by grind
  rcases f with rfl|rfl|⟨c,d⟩
  ·exact⟨_,hy.2⟩
  ·exact⟨_,hy.2⟩
  ·have e:if k=k' then X7 op k m n K else False:=by cases op<;>first|exact hy|exact absurd rfl c|exact absurd rfl d
   exact lD (Al e).2
 case str.str=>exact pA hy
 case agg.agg =>
  obtain⟨_,hy⟩:=hy
  cases op<;>first|exact hy.elim|(obtain⟨b,g⟩:=me 12 hy;exact⟨_,g⟩)
theorem rf{op:UnOp}{x:D}{K:D->Prop}(hy:re op x K):∃x,K x:=by
 cases op<;>cases x<;>simp only[re]at hy <;>  grind
theorem kr{r:RV}{K:Nat->List D->Prop}(hy:OZ r K):∃n xs,K n xs:=by
 cases r<;>simp only[OZ]at hy
 case d x=>cases x<;>simp only at hy <;>  grind
 case lim=>exact⟨_,_,hy⟩
 grind
theorem qv{r:RV}{K:D->Bx->Prop}(hy:Z3 r K):∃x b,K x b:=by
 cases r<;>simp only[Z3]at hy<;>exact⟨_,_,hy⟩
theorem Sw{σ:Nat->Nat->RV}:∀{cs:List C}{K:List D->Bx->Prop},Ef σ cs K->∃l b,K l b
 | [],K,h=>⟨_,_,h⟩
 | .d x :: r,K,h=>by
   have h:Ef σ r λl b=>K (x :: l) b:=h;obtain⟨l,b,h⟩:=Sw h;exact⟨_,_,h⟩
 | .sl id n :: r,K,h=>by
   have h:Z3 (σ id n) λx b=>Ef σ r λl c=>K (x :: l) (b++c):=h;obtain⟨x,b,h⟩:=qv h;obtain⟨l,c,h⟩:=Sw h;exact⟨_,_,h⟩
 | .own _ _ _ :: r,K,h=>h.elim
theorem qL{σ:Nat->Nat->RV}{t:TypeId}{cs:List C}{K:Hy->Prop}(hy:o0 P σ t cs K):∃e,K e/\e.av.guards=[]:=by
 unfold o0 at hy;split at hy
 ·split at hy
  ·rw[BN]at hy;have hy:=(Al hy).2;split at hy
   ·obtain⟨l,b,h⟩:=Sw hy;exact⟨_,h,rfl⟩
   ·rcases hy.go with hy|hy
    ·obtain⟨l,b,h⟩:=Sw hy;exact⟨_,h,rfl⟩
    ·exact⟨_,(Al hy).2,rfl⟩
  ·grind
 ·split at hy
  ·exact⟨_,hy,rfl⟩
  ·exact⟨_,hy,rfl⟩
  ·grind
 ·grind
theorem cM(r:RV):(back r).guards=[]:=by cases r<;>rfl
theorem f7{σ:Nat->Nat->RV}{ρ:Option (Nat×Bool)->Operand->RV}{g:Option (Nat×Bool)}{d n:Nat}{K:Hy->Prop}(b:Ml o.op=true)(hy:yA P σ ρ g o d n K):∃e,K e/\e.av.guards=[]:=by
 unfold yA at hy;split at hy
 all_goals (rename_i ho;try (rw[ho]at b;simp[Ml]at b;done))
 ·exact⟨_,hy,cM _⟩
 ·split at hy
  ·exact⟨_,hy,rfl⟩
  ·split at hy
   ·split at hy
    ·exact⟨_,hy,rfl⟩
    ·grind
   ·split at hy
    ·exact⟨_,hy,rfl⟩
    ·exact⟨_,hy,rfl⟩
    ·grind
   ·grind
  ·grind
 ·split at hy
  ·exact⟨_,hy,rfl⟩
  ·exact qL hy
  ·obtain⟨x,hx⟩:=gC hy;exact⟨_,hx,rfl⟩
  ·obtain⟨_,y,_,hy⟩:=hy.go;obtain⟨x,hx⟩:=gC hy;exact⟨_,hx,rfl⟩
  ·grind
 ·split at hy
  ·exact⟨_,hy,rfl⟩
  ·split at hy
   ·exact⟨_,hy,rfl⟩
   ·obtain⟨x,hx⟩:=oA hy;exact⟨_,hx,rfl⟩
   ·grind
  ·grind
 ·split at hy
  ·exact⟨_,hy,rfl⟩
  ·obtain⟨x,hx⟩:=rf hy;exact⟨_,hx,rfl⟩
  ·grind
 ·split at hy
  ·split at hy
   ·split at hy
    ·exact⟨_,hy,rfl⟩
    ·exact⟨_,hy,rfl⟩
    ·grind
   ·split at hy
    ·exact⟨_,hy,rfl⟩
    ·exact⟨_,hy,rfl⟩
    ·grind
   ·split at hy<;>try exact hy.elim
    split at hy
    ·exact⟨_,hy,rfl⟩
    ·exact⟨_,hy,rfl⟩
    ·grind
   ·grind
  ·grind
 ·split at hy
  ·split at hy
   ·have hy:=(Al hy).2;split at hy
    ·exact⟨_,hy,rfl⟩
    ·exact⟨_,hy,rfl⟩
    ·rw[BN]at hy;exact⟨_,hy,rfl⟩
    ·exact⟨_,hy,rfl⟩
    ·grind
   ·grind
  ·grind
 ·split at hy
  ·split at hy
   ·split at hy
    ·exact⟨_,hy,rfl⟩
    ·obtain⟨x,hx⟩:=gC hy;exact⟨_,hx,rfl⟩
    ·grind
   ·grind
  ·grind
 ·rw[ho]at b;split at hy
  ·rename_i c;simp[Ml,c]at b
  ·split at hy
   ·split at hy
    ·split at hy
     ·exact⟨_,hy,rfl⟩
     ·exact⟨_,hy,rfl⟩
     ·grind
    ·split at hy
     ·exact⟨_,hy,rfl⟩
     ·obtain⟨_,_,hx⟩:=kr hy;exact⟨_,hx,rfl⟩
    ·grind
   ·grind
  ·rename_i c;simp[Ml,c]at b
  ·rename_i c;simp[Ml,c]at b
  ·rename_i c;simp[Ml,c]at b
  ·grind
 ·grind
end
theorem Yd(v:AV)(K:AV->Prop):Xt v K=K v:=by
 cases v<;>simp only[Xt,P0]
 grind
theorem ZK(b:BA)(K:BA->Prop):bk b K=K b:=by
 cases b<;>simp only[bk,P0]
theorem Fz:∀(S:AS)(K:AS->Prop),EC S K=K S
 | [],_=>rfl
 | ⟨_,_,_⟩ :: r,K=>by rw[EC,Fz r];simp only[Yd,ZK,P0]
theorem Lt:∀(l:List Nat)(K:List Nat->Prop),O7 l K=K l
 | [],_=>rfl
 | x :: r,K=>by rw[O7,Lt r]
theorem SJ:∀(S:AS)(d:Nat)(v:AV)(K:AS->Prop),Si S d v K=K (FA S d v)
 | [],_,_,_=>rfl
 | ⟨_,_,_⟩ :: _,0,_,_=>rfl
 | s :: r,d+1,v,K=>by rw[Si,SJ r];rfl
theorem YG:∀(S:AS)(d:Nat)(b:BA)(n:Nat)(K:AS->Prop),Xv S d b n K=K (Ba S d b n)
 | [],_,_,_,_=>rfl
 | ⟨_,_,_⟩ :: _,0,_,_,_=>rfl
 | s :: r,d+1,b,n,K=>by rw[Xv,YG r];rfl
theorem Nl:∀(b:Bx)(S:AS)(K:AS->Prop),Qd b S K=K (Bj b S)
 | [],_,_=>rfl
 | (id,b,n) :: r,S,K=>by rw[Qd,P0,ZK,YG,Nl r];rfl
theorem aF(dst:Option Nat)(e:Hy)(S:AS)(K:AS->Prop):jA dst e S K=K (Z2 dst e S):=by
 obtain⟨v,bx,a⟩:=e
 cases dst with
 | none=>simp only[jA,Nl];rfl
 | some d=>simp only[jA,Yd,Nl,SJ];rfl
theorem OR:∀(S:AS)(d:Nat)(K:Nat->Prop),We S d K->d<S.length/\K (Ai S d).ver
 | [],_,_,h=>h.elim
 | ⟨_,_,_⟩ :: _,0,_,h=>⟨by simp,h⟩
 | s :: r,d+1,K,h=>by
   obtain⟨a,b⟩:=OR r d K h;exact⟨by simpa using a,b⟩
theorem UF:∀(l:List Oper)(j:Nat),W8 l j=(l[j]?).bind (·.dst)
 | [],_=>rfl
 | _ :: _,0=>rfl
 | _ :: r,j+1=>by simp only[W8,tX];exact UF r j
section
variable {P:Program} {X:Cx} {G:Nat->Prop} {β:Nat->Value} {S:AS} {a:Act} {w:World} {o:Oper}
def Wi(X:Cx)(G:Nat->Prop)(S:AS)(a:Act)(e:Hy)(v:Value)(w':World):Prop :=
 ∃β',SimB X G β' (Bj e.bx S) a w'/\Kc β' (AM (Bj e.bx S)) (OS β' X (Bj e.bx S)) w' a.tmps v e.av/\∀u∈e.av.guards,G u
def lw(P:Program)(ops:Array Oper)(X:Cx)(G:Nat->Prop)(S:AS)(a:Act)(w:World)(o:Oper)(e:Hy):Prop :=
 (Region.wanted o (yielded ops a.tmps)=true /\
  ((∃v w',(execOp a.eval o).run P w=.ok (.value v) w'/\Wi X G S a e v w') \/
   (∃w',(execOp a.eval o).run P w=.ok .skip w'/\Wi X G S a e undef w') \/
   (∃f args,(execOp a.eval o).run P w=.ok (.enter f args) w/\Calls P f args w λe' w'=>∃v,e'=.returned v/\Wi X G S a e v w'))) \/
 (Region.wanted o (yielded ops a.tmps)=false/\Wi X G S a e undef w)
theorem SX.toG{e:Hy}{v:Value}{w':World}(h:SX X G S a e v w'):Wi X G S a e v w':=by
 obtain⟨b,c,d,f⟩:=h;exact⟨b,c,d,by rw[f];simp⟩
theorem SX.toU{e:Hy}{v:Value}{w':World}{t:Nat}{b:Bool}(l:G t)(c:a.tmps[t]?=some (.bool b))(h:SX X G S a e v w'):Wi X G S a ⟨.under t b e.av,e.bx,[]⟩ v w':=by
 obtain⟨d,f,g,i⟩:=h;refine⟨d,f,⟨λ_=>g,λj=>absurd c j⟩,?_⟩;intro u k;simp only[AV.guards,i,vi]at k;grind
theorem Dx.to{b:Array Oper}{e c:Hy}(h:Region.wanted o (yielded b a.tmps)=true)(hd:Dx P X G S a w o e)
 (hp:∀v w',SX X G S a e v w'->Wi X G S a c v w'):lw P b X G S a w o c:=by
 refine .inl ⟨h,?_⟩;rcases hd with⟨v,w',d,g⟩|⟨w',d,g⟩|⟨f,args,d,g⟩
 ·grind
 ·grind
 ·exact .inr (.inr ⟨f,args,d,g.mono λc w' ⟨v,i,j⟩=>⟨v,i,hp v w' j⟩⟩)
theorem Z9{x:Option Nat}{K:Nat->Prop}(h:dK x K):K (x.getD 0):=by cases x<;>exact h
theorem YF:∀(S:AS)(t:Nat)(v:AV),(Ai S t).av=v->FA S t v=S
 | [],_,_,_=>rfl
 | ⟨x,b,n⟩ :: r,0,v,h=>by simp only[Ai]at h;subst h;rfl
 | s :: r,t+1,v,h=>by rw[FA,YF r t v h]
theorem bW{t:Nat}{x:AV}(h:SimB X G β S a w)(hx:(Ai S t).av=x)(c:x≠.any):∃v,a.tmps[t]?=some v/\Kc β (AM S) (OS β X S) w a.tmps v x:=by
 have d:t<S.length:=by
  rcases tG t S.length with e|e
  ·exact e
  ·rw[Nh S t e]at hx;exact absurd hx.symm c
 have b:t<a.tmps.size:=by rw[h.len];exact d
 refine⟨a.tmps[t],by simp[b],?_⟩;have:=h.slots t a.tmps[t] (by grind);grind
def j6(lk:List Nat):Nat->Nat->AS->Option Bool->Prop
 | 0,_,_,_=>False
 | n+1,t,S,r=>t∈lk/\((∃b,(Ai S t).av=.d (.bool b)/\r=some b) \/
     (∃t' w' b r',(Ai S t).av=.under t' w' (.d (.bool b))/\j6 lk n t' S r'/\(r'=some w'/\r=some b\/r'≠some w'/\r=none)) \/
     ∃t' w',(Ai S t).av=.under t' w' .bot/\r=none)
theorem O0{S:AS}{t:Nat}{mk:Bool->AV}{b:Bool}{K:AS->Option Bool->Prop}(c:(Ai S t).av=mk b):Z4 S t mk b K↔K S (some b):=by
 unfold Z4
 cases b<;>simp only[Wr]<;>rw[SJ,YF S t _ c]
theorem TS{i:List Nat}:∀{n t:Nat}{S:AS}{K:AS->Option Bool->Prop},jJ i n t S K->∃r,K S r/\j6 i n t S r
 | 0,_,_,_,h=>h.elim
 | n+1,t,S,K,h=>by
   unfold jJ at h;obtain⟨c,h⟩:=Al h;have c:t∈i:=by grind
   split at h
   ·rename_i b f
    exact⟨some b,(O0 f).1 h,c,.inl ⟨b,f,rfl⟩⟩
   ·rename_i g w' b f
    obtain⟨r,h,hd⟩:=TS h
    have d:r=some w'->Z4 S t (λb=>.under g w' (.d (.bool b))) b K->∃r,K S r/\j6 i (n+1) t S r:=λe h =>
     ⟨some b,(O0 (mk:=λb=>.under g w' (.d (.bool b))) f).1 h,c,.inr (.inl ⟨g,w',b,r,f,hd,.inl ⟨e,rfl⟩⟩)⟩
    have no:r≠some w'->K S none->∃r,K S r/\j6 i (n+1) t S r:=λe h=>⟨none,h,c,.inr (.inl ⟨g,w',b,r,f,hd,.inr ⟨e,rfl⟩⟩)⟩
    match r,w',h,d,no with
    | none,_,h,_,no=>exact no (by simp) h
    | some true,true,h,d,_=>exact d rfl h
    | some true,false,h,_,no=>exact no (by simp) h
    | some false,true,h,_,no=>exact no (by simp) h
    | some false,false,h,d,_=>exact d rfl h
   ·rename_i g w' f
    exact⟨none,h,c,.inr (.inr ⟨g,w',f,rfl⟩)⟩
   ·grind
theorem aT{d:List Nat}:∀{n t:Nat}{S:AS}{r:Option Bool}{K:AS->Option Bool->Prop},j6 d n t S r->K S r->jJ d n t S K
 | 0,_,_,_,_,h,_=>h.elim
 | n+1,t,S,r,K,⟨hlk,h⟩,hK=>by
   unfold jJ;rw[tf (by grind)];rcases h with⟨b,c,rfl⟩|⟨e,w',b,g,c,hd,h⟩|⟨e,w',c,rfl⟩
   rotate_left 2
   ·grind
   ·rw[c];exact(O0 c).2 hK
   ·rw[c];refine aT hd ?_;rcases h with⟨rfl,rfl⟩|⟨f,rfl⟩
    ·cases w'<;>exact(O0 (mk:=λb=>.under e _ (.d (.bool b))) c).2 hK
    ·grind
theorem j6.tmp{s:List Nat}(h:SimB X G β S a w):∀{n t:Nat}{r:Option Bool},j6 s n t S r->(∀b,r=some b->a.tmps[t]?=some (.bool b))/\(r=none->∀b,a.tmps[t]?≠some (.bool b))
 | 0,_,_,hd=>hd.elim
 | n+1,t,r,⟨_,hd⟩=>by
   rcases hd with⟨b,g,rfl⟩|⟨k,w',b,u,g,hd,hr⟩|⟨k,w',g,rfl⟩
   rotate_left 2
   ·obtain⟨v,f,d⟩:=bW h g (by simp);refine⟨λi e=>(by cases e),λ_ i=>?_⟩;by_cases p:a.tmps[k]?=some (.bool w')
    ·exact(d.1 p).elim
    ·rw[f,d.2 p];intro j;cases j
   ·obtain⟨v,f,hr⟩:=bW h g (by simp);exact⟨λi e=>by cases e;rw[f,ED hr],λe=>by cases e⟩
   ·obtain⟨v,f,d⟩:=bW h g (by simp);obtain⟨q,x⟩:=j6.tmp h hd;rcases hr with⟨rfl,rfl⟩|⟨l,rfl⟩
    ·exact⟨λi e=>by cases e;rw[f,ED (d.1 (q _ rfl))],λe=>by cases e⟩
    ·refine⟨λi e=>(by cases e),λ_ i=>?_⟩
     have m:a.tmps[k]?≠some (.bool w'):=by
      cases u with
      | none=>exact x rfl w'
      | some c=>rw[q c rfl];intro j;cases j;exact l rfl
     rw[f,d.2 m];intro j;cases j
theorem Ke{b:Bool}{r:Option Bool}{go skip:Prop}:X8 b r go skip↔(r=some b/\go)\/(r≠some b/\skip):=by
 unfold X8;grind
theorem YW{g:Option (Nat×Bool)}{d n:Nat}{K:Hy->Prop}(hy:yS P S g o d n K):(∃x,o.op=.move x/\mB (ev S x)=true/\K ⟨ev S x,[],[]⟩)\/(LJ S o=false/\yA P (σOf S) (ρOf S) g o d n K):=by
 unfold yS at hy;unfold LJ;split at hy
 ·rename_i x ho
  split at hy
  ·rename_i id v k he
   exact .inl ⟨x,ho,by rw[he];rfl,by rw[he];exact hy⟩
  ·rename_i id v he
   exact .inl ⟨x,ho,by rw[he];rfl,by rw[he];exact hy⟩
  ·rename_i b c
   refine .inr ⟨?_,hy⟩
   cases he:ev S x with
   | ptr id v k=>grind
   | sl id v=>grind
   | _=>rfl
 ·grind
theorem UM{x:AV}(h:mB x=true):x.guards=[]:=by
 cases x with
 | ptr=>rfl
 | sl=>rfl
 | _=>cases h
theorem YX(h:SimB X G β S a w){g:Option (Nat×Bool)}(j:BW g a){d:Nat}(hd:d<S.length){K:Hy->Prop}(hy:yS P S g o d (Ai S d).ver K) :
 ∃e,K e/\(Hn S e.homes=true->Dx P X G S a w o e):=by
 rcases YW hy with⟨x,ho,b,hK⟩|⟨_,hy⟩
 ·refine⟨_,hK,λ_=>AW h (v:=a.eval x) (by simp[execOp,ho]) ?_ (UM b)⟩
  cases x with
  | tmp t =>
    simp only[ev]at b ⊢;simp only[Act.eval];by_cases i:t<a.tmps.size
    ·have:=h.slots t a.tmps[t] (by simp[i]);simp_all
    ·have e:Ai S t=fD:=Nh S t (by rw[<-h.len];exact Nat.le_of_not_lt i);rw[e]at b;cases b
  | const c=>simp only[ev]at b;unfold fM at b;split at b<;>cases b
  | global q=>simp only[ev]at b;split at b<;>cases b
  | func f=>cases b
 ·exact oq h j hd hy
theorem f9{g:Option (Nat×Bool)}{d n:Nat}{K:Hy->Prop}(b:Ml o.op=true)(hy:yS P S g o d n K):∃e,K e/\e.av.guards=[]:=by
 rcases YW hy with⟨x,ho,c,hK⟩|⟨_,hy⟩
 ·exact⟨_,hK,UM c⟩
 ·exact f7 b hy
theorem ZW{i:Array Oper}{done:List Nat}(h:SimB X (·∈done) β S a w){K:AS->Hy->Prop}(hy:kD P i.toList done o S K) :
 ∃e,K S e/\lw P i X (·∈done) S a w o e:=by
 unfold kD at hy;split at hy
 ·rename_i l
  obtain⟨hd,hy⟩:=OR _ _ _ (Z9 hy);obtain⟨e,hK,k⟩:=YX h (g:=none) (λ_ _ e=>by cases e) hd hy;obtain⟨m,hK⟩:=Al hK;exact⟨e,hK,(k m).to (by simp[Region.wanted,l]) λv w' hp=>hp.toG⟩
 ·rename_i j d l
  split at hy
  ·grind
  ·rename_i t H
   obtain⟨A,hy⟩:=Al hy;have p:t∈done:=by grind
   have B:yielded i a.tmps j=(match a.tmps[t]? with|some (.bool b)=>some b|_=>none):=by
    have:(i[j]?).bind (·.dst)=some t:=by rw[<-H,UF];simp
    simp only[yielded,this,tc];grind
   have f:Region.wanted o (yielded i a.tmps)=true↔a.tmps[t]?=some (.bool d):=by
    simp only[Region.wanted,l,B];grind
   split at hy
   ·rename_i n
    obtain⟨hd,hy⟩:=OR _ _ _ (Z9 hy);by_cases q:a.tmps[t]?=some (.bool d)
    ·obtain⟨e,hK,k⟩:=YX h (g:=some (t,d)) (λ_ _ e=>by cases e;exact q) hd hy;split at hK
     ·exact⟨_,hK,(k rfl).to (f.2 q) λv w' hp=>hp.toU p q⟩
     ·grind
    ·obtain⟨e,hK,s⟩:=f9 n hy;split at hK
     ·rename_i v
      refine⟨_,hK,.inr ⟨by rw[Bool.eq_false_iff];exact λn=>q (f.1 n),β,h,⟨λn=>absurd n q,λ_=>rfl⟩,?_⟩⟩;intro u z;simp only at s;simp only[AV.guards,s,vi]at z;grind
     ·grind
   ·obtain⟨r,hy,x⟩:=TS hy;obtain⟨C,I⟩:=x.tmp h;rcases Ke.1 hy with⟨D,E⟩|⟨J,hK⟩
    ·have y:=C d D;obtain⟨hd,hy⟩:=OR _ _ _ (Z9 E);obtain⟨e,hK,k⟩:=YX h (g:=some (t,d)) (λ_ _ e=>by cases e;exact y) hd hy;obtain⟨m,hK⟩:=Al hK;exact⟨e,hK,(k m).to (f.2 y) λv w' hp=>hp.toG⟩
    ·have F:a.tmps[t]?≠some (.bool d):=by
      cases r with
      | none=>grind
      | some c=>grind
     refine⟨_,hK,.inr ⟨?_,β,h,⟨λn=>absurd n F,λ_=>rfl⟩,λu z=>by simp[AV.guards]at z;rw[z];exact p⟩⟩;grind
theorem SimB.weaken{b:Nat->Prop}(h:SimB X G β S a w)(c:∀t,G t->b t):SimB X b β S a w :=
 { h with gds:=λt u d=>c u (h.gds t u d) }
theorem lw.step{g:Array Oper}{e:Hy}{K:Act->World->Prop}{Q:Exit->Act->World->Prop}{done:List Nat}(hd:∀d,o.dst=some d->d ∉ done)(h:lw P g X (·∈done) S a w o e)
 (hK:∀i j w',SimB X (·∈Ey o.dst++done) i (Z2 o.dst e S) j w'->K j w') :
 if Region.wanted o (yielded g a.tmps)then o.wp P a w K Q else K (a.put o.dst undef) w:=by
 have Da:∀v w',Wi X (·∈done) S a e v w'->K (a.put o.dst v) w':=by
  intro v w' hp;obtain⟨i,b,c,k⟩:=hp;refine hK i _ w' ?_
  cases hdst:o.dst with
  | none=>exact b
  | some d=>exact(b.put (hd d hdst) c k).weaken λt m=>by simp[m]
 rcases h with⟨l,h⟩|⟨l,h⟩
 ·rw[tf l];unfold Oper.wp;rcases h with⟨v,w',b,c⟩|⟨w',b,c⟩|⟨f,args,b,c⟩
  ·rw[b];exact Da v w' c
  ·rw[b];exact Da undef w' c
  ·rw[b];exact c.mono λn w' ⟨v,k,p⟩=>by grind
 ·grind
theorem UU{pos:Bool}{x:Operand}(h:UT P o=some (pos,x)):∃op t y u e,o.op=.binOp op t x y u/\NN y=true/\o.guard=none/\P.underlying t=some (.slice e)/\(op=.eql/\pos=true\/op=.neq/\pos=false):=by
 unfold UT at h;grind
theorem ba(h:SimB X G β S a w){pos:Bool}{x:Operand}(s:UT P o=some (pos,x)){K:Bool->Prop}(hy:OZ (ρOf S none x) λ_ xs=>pN xs K) :
 ∃b,K b/\Dx P X G S a w o ⟨.d (.bool (b==pos)),[],[]⟩:=by
 obtain⟨op,t,y,u,e,ho,z,_,n,k⟩:=UU s;obtain⟨sz,xs,hK,d,c,p,f⟩:=SL h (ρ_sound h (g:=none) (λ_ _ e=>by cases e) x) hy;have A:=P8 z;have i:a.eval y=.slice none 0 0:=by rw[A];rfl
 refine⟨d.isNone,hK.go _ (λl=>?_),?_⟩
 ·obtain⟨B,r,rfl,_⟩:=f.resolve_left l;rfl
 ·have j:(Op.equalIn 10000 t (.slice d xs.length c) (.slice none 0 0)).run P w=.ok d.isNone w:=by
   have key:∀m,(Op.equalIn (m+1) t (.slice d xs.length c) (.slice none 0 0)).run P w=.ok d.isNone w:=by
    intro m
    cases d with
    | none=>simp[Op.equalIn,run_underlying n]
    | some q=>simp[Op.equalIn,run_underlying n]
   exact key 9999
  refine AW h (v:=.bool (d.isNone==pos)) ?_ (.bool _) rfl;rcases k with⟨rfl,rfl⟩|⟨rfl,rfl⟩
  ·simp[execOp,ho,p,i,eqGuard,binOp,Op.equal,Op.maxDepth,j]
  ·simp[execOp,ho,p,i,eqGuard,binOp,Op.equal,Op.maxDepth,j]
theorem Uf{c:Array Oper}{Q:Exit->Act->World->Prop}:∀{l:List Oper}{done:List Nat}{S:AS}{β:Nat->Value}{a:Act}{w:World}{K:AS->Prop},
 qS P c.toList done l S K->SimB X (·∈done) β S a w->(∀m S' k w' (f:List Nat),K S'->SimB X (·∈f) m S' k w'->Q .normal k w')->wpList P c Q l a w
 | [],done,S,β,a,w,K,hy,h,hQ=>wpList_nil (hQ β S a w done hy h)
 | o :: r,done,S,β,a,w,K,hy,h,hQ=>by
   obtain⟨g,hy⟩:=Al hy
   have hd:∀d,o.dst=some d->d ∉ done:=by
    intro d hd t;rw[hd]at g;simp[Ey]at g;exact g t
   cases ht:UT P o with
   | some q =>
     obtain⟨pos,x⟩:=q;simp only[ht]at hy;obtain⟨b,hK,n⟩:=ba h ht hy;rw[aF,Lt]at hK;obtain⟨_,_,_,_,_,_,_,p,_⟩:=UU ht;have i:lw P c X (·∈done) S a w o ⟨.d (.bool (b==pos)),[],[]⟩:=n.to (by simp[Region.wanted,p]) λv w' hp=>hp.toG;exact wpList_step λu j=>i.step hd λm k w' s=>j _ _ (Uf hK s hQ)
   | none =>
     simp only[ht]at hy;obtain⟨e,hK,i⟩:=ZW h hy;rw[aF,Lt]at hK;exact wpList_step λu j=>i.step hd λm k w' s=>j _ _ (Uf hK s hQ)
def MU(s:Sl):Sl:=match s with
 | ⟨.under _ _ _,b,n⟩=>⟨.any,b,n⟩
 | s=>s
theorem Y2:∀(S:AS)(K:AS->Prop),plain S K=K (S.map MU)
 | [],_=>rfl
 | s :: r,K=>by
   rw[plain,Y2 r];obtain⟨v,b,n⟩:=s
   cases v<;>rfl
theorem Df:∀(S:AS)(i:Nat),Ai (S.map MU) i=MU (Ai S i)
 | [],_=>rfl
 | _ :: _,0=>rfl
 | _ :: r,i+1=>Df r i
theorem JQ(s:Sl):(MU s).box=s.box:=by obtain⟨v,b,n⟩:=s;cases v<;>rfl
theorem WU(s:Sl):(MU s).ver=s.ver:=by obtain⟨v,b,n⟩:=s;cases v<;>rfl
theorem SimB.plain(h:SimB X G β S a w):SimB X (λ_=>False) β (S.map MU) a w:=by
 have d:OS β X (S.map MU)=OS β X S:=by funext b;simp only[OS,Df,JQ]
 have e:AM (S.map MU)=AM S:=by funext i;simp only[AM,Df,WU]
 refine⟨by simp[h.len],h.df,h.below,h.hbase,h.o₀,h.rs,?_,?_,?_,?_,?_,?_⟩
 ·intro t v f;rw[d,e,Df];have:=h.slots t v f;generalize Ai S t=s at this ⊢;obtain⟨x,b,n⟩:=s
  cases x<;>first|exact this|trivial
 ·intro i;rw[d,e,Df,JQ];exact h.boxes i
 ·intro i b;rw[Df,JQ];exact h.mine i b
 ·intro i j b;rw[Df,Df,JQ,JQ];exact h.inj i j b
 ·intro t u c;rw[Df]at c;generalize Ai S t=s at c;obtain⟨x,b,n⟩:=s
  cases x<;>simp[MU,AV.guards]at c
 ·intro i;rw[Df,JQ,WU];exact h.ini i
theorem ZG{x y:D}{K:Prop}(h:mg x y K):K/\(x.one=true->y.one=true)/\∀(O:Nat->Prop)(w:World)(u:Value),Ax O w u x->Ax O w u y:=by
 unfold mg at h;split at h
 ·rename_i s
  obtain⟨h,hK⟩:=h;rcases h with rfl|rfl
  ·grind
  ·refine⟨hK,λ_=>rfl,λO w u h=>?_⟩
   cases h
   exact .emp _ _ _
 ·grind
theorem mh{x y:D}{K:Prop}(h:mg x y K):mg x y True:=by
 unfold mg at h ⊢;grind
def sO(v v':Nat->Nat)(cs cs':List C):Prop:=cs.length=cs'.length/\∀(β:Nat->Value)(O:Nat->Prop)(w:World)(j:Nat)(u:Value) c c',cs[j]?=some c->cs'[j]?=some c'->Ce β v O w u c->Ce β v' O w u c'
theorem LG{v e:Nat->Nat}{K:Prop}:∀{cs f:List C},IU v e cs f K->K/\sO v e cs f
 | [],[],h=>⟨h,rfl,λ_ _ _ j u c c' d=>by simp at d⟩
 | [],_ :: _,h=>h.elim
 | .d x :: r,[],h=>h.elim
 | .sl _ _ :: r,[],h=>h.elim
 | .own _ _ _ :: r,[],h=>h.elim
 | .d x :: r,.d y :: q,h=>by
   obtain⟨h,ho,hx⟩:=ZG (show mg x y (IU v e r q K)from h);obtain⟨g,i,k⟩:=LG h;refine⟨g,by simp[i],λβ O w j u c c' d b hr=>?_⟩
   cases j with
   | zero=>simp at d b;subst d;subst b;exact⟨hx O w u hr.1,ho hr.2⟩
   | succ j=>exact k β O w j u c c' (by simpa using d) (by grind) hr
 | .sl id n :: r,.sl id' n' :: q,h=>by
   have h:if id=id'/\n=v id/\n'=e id then IU v e r q K else False:=h
   obtain⟨⟨l,m,p⟩,s⟩:=Al h;obtain⟨g,i,k⟩:=LG s;subst l;refine⟨g,by simp[i],λβ O w j u c c' d b hr=>?_⟩
   cases j with
   | zero=>simp at d b;subst d;subst b;exact⟨u1 p,λ_=>hr.2 m⟩
   | succ j=>exact k β O w j u c c' (by simpa using d) (by grind) hr
 | .d _ :: _,.sl _ _ :: _,h=>h.elim
 | .d _ :: _,.own _ _ _ :: _,h=>h.elim
 | .sl _ _ :: _,.d _ :: _,h=>h.elim
 | .sl _ _ :: _,.own _ _ _ :: _,h=>h.elim
 | .own _ _ _ :: _,.d _ :: _,h=>h.elim
 | .own _ _ _ :: _,.sl _ _ :: _,h=>h.elim
 | .own _ _ _ :: _,.own _ _ _ :: _,h=>h.elim
theorem MQ{v b:Nat->Nat}{K:Prop}:∀{cs c:List C},IU v b cs c K->IU v b cs c True
 | [],[],_=>trivial
 | [],_ :: _,h=>h.elim
 | .d x :: r,[],h=>h.elim
 | .sl _ _ :: r,[],h=>h.elim
 | .own _ _ _ :: r,[],h=>h.elim
 | .d x :: r,.d y :: q,h=>by
   have h:mg x y (IU v b r q K):=h;show mg x y (IU v b r q True);unfold mg at h ⊢;split at h
   ·exact⟨h.1,MQ h.2⟩
   ·exact⟨h.1,MQ h.2⟩
 | .sl id n :: r,.sl id' n' :: q,h=>by
   have h:if id=id'/\n=v id/\n'=b id then IU v b r q K else False:=h
   obtain⟨d,e⟩:=Al h;show if id=id'/\n=v id/\n'=b id then IU v b r q True else False
   rw[tf d];exact MQ e
 | .d _ :: _,.sl _ _ :: _,h=>h.elim
 | .d _ :: _,.own _ _ _ :: _,h=>h.elim
 | .sl _ _ :: _,.d _ :: _,h=>h.elim
 | .sl _ _ :: _,.own _ _ _ :: _,h=>h.elim
 | .own _ _ _ :: _,.d _ :: _,h=>h.elim
 | .own _ _ _ :: _,.sl _ _ :: _,h=>h.elim
 | .own _ _ _ :: _,.own _ _ _ :: _,h=>h.elim
theorem UN{v j:Nat->Nat}{y y':AV}{K:Prop}(h:OY v j y y' K) :
 K/\∀(β:Nat->Value)(O:Nat->Prop)(w:World)(tm:Array Value)(u:Value),Kc β v O w tm u y->Kc β j O w tm u y':=by
 cases y'<;>simp only[OY]at h
 case any=>exact⟨h,λ_ _ _ _ _ _=>trivial⟩
 case d y =>
  split at h
  ·obtain⟨h,_,b⟩:=ZG h;exact⟨h,λ_ O w _ u hr=>b O w u hr⟩
  ·obtain⟨rfl,h⟩:=h;exact⟨h,λ_ _ _ _ _ hr=>hr.1⟩
  ·grind
 case lim sz xs=>obtain⟨rfl,h⟩:=h;exact⟨h,λ_ _ _ _ _ hr=>hr⟩
 case ptr id n o =>
  split at h
  ·rename_i g l o'
   obtain⟨⟨rfl,b,e⟩,rfl,f⟩:=Al h;exact⟨f,λ_ _ _ _ _ hr=>⟨u1 e,λ_=>hr.2 b⟩⟩
  ·grind
 case sl id n =>
  split at h
  ·rename_i g l
   obtain⟨⟨rfl,b,e⟩,f⟩:=Al h;exact⟨f,λ_ _ _ _ _ hr=>⟨u1 e,λ_=>hr.2 b⟩⟩
  ·grind
 case cc k xs' =>
  split at h
  ·rename_i r xs
   obtain⟨rfl,m⟩:=Al h;obtain⟨b,e,f⟩:=LG m;refine⟨b,λβ O w tm u hr=>?_⟩;obtain⟨vs,p,q,hr⟩:=hr;refine⟨vs,p,by rw[q,e],λi u' c s t=>?_⟩;grind
  ·grind
theorem em{v b:Nat->Nat}{y y':AV}{K:Prop}(h:OY v b y y' K):OY v b y y' True:=by
 cases y'<;>simp only[OY]at h ⊢
 case d y =>
  split at h
  ·exact mh h
  all_goals grind
 case lim sz xs=>exact⟨h.1,trivial⟩
 case ptr id n o =>
  grind
 case sl id n =>
  grind
 case cc k xs' =>
  split at h
  ·obtain⟨c,e⟩:=Al h;rw[tf c];exact MQ e
  ·grind
 all_goals first|exact h.elim|trivial
def sN(v v':Nat->Nat)(b b':BA):Prop:=b'=.none\/(b=b'/\∀cs,b≠.var cs)\/(∃sz e xs,b'=.frow sz xs/\b=.row sz e xs)\/∃cs cs',b=.var cs/\b'=.var cs'/\sO v v' cs cs'
theorem eh{v f:Nat->Nat}{b d:BA}{K:Prop}(h:iQ v f b d K):K/\sN v f b d:=by
 cases d<;>simp only[iQ]at h
 case none=>exact⟨h,.inl rfl⟩
 case frow sz xs =>
  rcases h.1 with c|⟨e,c⟩
  ·exact⟨h.2,.inr (.inl ⟨c,λcs e=>by rw[c]at e;cases e⟩)⟩
  ·exact⟨h.2,.inr (.inr (.inl ⟨sz,e,xs,rfl,c⟩))⟩
 case fvar cs=>exact⟨h.2,.inr (.inl ⟨h.1,λcs e=>by rw[h.1]at e;cases e⟩)⟩
 case map es=>exact⟨h.2,.inr (.inl ⟨h.1,λcs e=>by rw[h.1]at e;cases e⟩)⟩
 case row sz e xs=>exact⟨h.2,.inr (.inl ⟨h.1,λcs e=>by rw[h.1]at e;cases e⟩)⟩
 case var cs' =>
  cases b <;>  simp_all
  case var cs =>
   obtain⟨c,g⟩:=LG h;exact⟨c,.inr (.inr (.inr ⟨cs,cs',rfl,rfl,g⟩))⟩
theorem en{b:BA}{n c:Nat}{K:Prop}(h:iR b n c K):K/\(c=0->b≠.none->n=0):=by
 unfold iR at h;grind
theorem WK{v b:Nat->Nat}:∀{S S':AS},ef v b S S'->S.length=S'.length/\∀i,OY v b (Ai S i).av (Ai S' i).av True/\sN v b (Ai S i).box (Ai S' i).box/\((Ai S' i).ver=0->(Ai S' i).box≠.none->(Ai S i).ver=0)
 | [],[],_=>⟨rfl,λi=>⟨by simp[Ai,fD,OY],.inl rfl,λ_ h=>absurd rfl h⟩⟩
 | ⟨sv,sb,sn⟩ :: r,⟨sv',sb',sn'⟩ :: r',h=>by
   have d:OY v b sv sv' (iR sb' sn sn' (iQ v b sb sb' (ef v b r r'))):=h;have f:=UN d;have c:=en f.1;have e:=eh c.1;obtain⟨g,j⟩:=WK e.1;refine⟨by simp[g],λi=>?_⟩
   cases i with
   | zero=>exact⟨em d,e.2,c.2⟩
   | succ i=>exact j i
theorem SimB.le0(h:SimB X (λ_=>False) β S a w){S':AS}(M:ef (λi=>(Ai S i).ver) (λi=>(Ai S' i).ver) S S'):SimB X (λ_=>False) β S' a w:=by
 obtain⟨x,k⟩:=WK M;have n:=λi=>(k i).2.1
 have g:∀i,(Ai S' i).box.owned=true->(Ai S i).box.owned=true:=by
  intro i ho;rcases n i with d|⟨d,_⟩|⟨sz,e,xs,d,_⟩|⟨cs,y,d,l,_⟩
  ·rw[d]at ho;cases ho
  ·grind
  ·rw[d]at ho;cases ho
  ·rw[d];rfl
 have N:∀b,OS β X S' b->OS β X S b:=by
  intro b f;rcases f with f|f|⟨i,d,l⟩
  ·exact .inl f
  ·exact .inr (.inl f)
  ·exact .inr (.inr ⟨i,g i d,l⟩)
 have hk:B7 (OS β X S) (OS β X S') w w:=B7.of_sub N;have K:∀i,(λi=>(Ai S i).ver) i<(λi=>(Ai S i).ver) i\/((λi=>(Ai S i).ver) i=(λi=>(Ai S i).ver) i/\β i=β i):=λi=>.inr ⟨rfl,rfl⟩;refine⟨by rw[<-x];exact h.len,h.df,h.below,h.hbase,h.o₀,h.rs,?_,?_,?_,?_,?_,?_⟩
 ·intro t u O;have hr:=(h.slots t u O).mono hk (λ_=>.inr ⟨rfl,rfl⟩) (λ_ _=>rfl);exact(UN (k t).1).2 β (OS β X S') w a.tmps u hr
 ·intro i
  have F:(Ai S' i).box.owned=false->(Ai S i).box.owned=true->∀b,Af (β i)=some b->¬OS β X S' b:=by
   intro d l b f z;have Q:=h.mine i b l f;rcases z with z|z|⟨j,C,R⟩
   ·have:=h.o₀ b z;rcases Q.1 with L|L;omega;exact this.2 L
   ·grind
   ·have:=h.inj j i b (g j C) l R f;grind
  have f:=h.boxes i;rcases n i with d|⟨d,l⟩|⟨sz,e,xs,d,l⟩|⟨cs,y,d,l,C⟩
  ·rw[d];trivial
  ·rw[<-d]
   cases hB:(Ai S i).box with
   | none=>trivial
   | var cs=>grind
   | row sz e xs =>
     rw[hB]at f;obtain⟨q,r,vals,s,m⟩:=f;exact⟨q,r,vals,s,m.mono hk⟩
   | fvar cs=>rw[hB]at f;exact⟨f.1.mono hk,f.2⟩
   | frow sz xs=>rw[hB]at f;exact Ax.mono hk f
   | map es =>
     rw[hB]at f;obtain⟨b,vs,v,q,r,s,m⟩:=f;exact⟨b,vs,v,q,r,s,λi e p H A=>⟨(m i e p H A).1.mono hk,(m i e p H A).2.1.mono hk,(m i e p H A).2.2⟩⟩
  ·rw[d];have B:=F (by rw[d];rfl) (by rw[l];rfl);rw[l]at f;obtain⟨q,r,vals,s,m⟩:=f;exact YC q r s (m.mono hk) B
  ·rw[l];rw[d]at f;obtain⟨b,vals,T,q,r,s,m⟩:=f;refine⟨b,vals,T,q,r,by rw[<-C.1];exact s,λj u c D A=>?_⟩;have E:j<cs.length:=by grind
   exact C.2 β _ w j u cs[j] c (P3 E) A ((m j u cs[j] D (P3 E)).mono hk (λ_=>.inr ⟨rfl,rfl⟩))
 ·intro i b I;exact h.mine i b (g i I)
 ·intro i j b I E;exact h.inj i j b (g i I) (g j E)
 ·intro t u D;have:=(k t).1;generalize (Ai S' t).av=y' at D this
  cases y'<;>simp[AV.guards]at D
  simp[OY]at this
 ·intro i U J;refine h.ini i ((k i).2.2 U J) λz=>?_;rcases n i with d|⟨d,_⟩|⟨sz,e,xs,_,d⟩|⟨cs,y,d,_,_⟩
  all_goals grind
theorem SimB.know(h:SimB X G β S a w){t:Nat}{x:D}(hx:∀v,a.tmps[t]?=some v->Ax (OS β X S) w v x):SimB X G β (FA S t (.d x)) a w:=by
 have c:∀i,(Ai (FA S t (.d x)) i).box=(Ai S i).box/\(Ai (FA S t (.d x)) i).ver=(Ai S i).ver:=by
  intro i;rw[CX];grind
 have g:OS β X (FA S t (.d x))=OS β X S:=by funext b;simp only[OS,c]
 have k:AM (FA S t (.d x))=AM S:=by funext i;simp only[AM,c]
 refine⟨by rw[IV];exact h.len,h.df,h.below,h.hbase,h.o₀,h.rs,?_,?_,?_,?_,?_,?_⟩
 ·intro i v f;rw[g,k,CX];split
  ·rename_i e;rw[e.1]at f;exact hx v f
  ·exact h.slots i v f
 ·intro i;rw[g,k,(c i).1];exact h.boxes i
 ·intro i b;rw[(c i).1];exact h.mine i b
 ·intro i j b;rw[(c i).1,(c j).1];exact h.inj i j b
 ·intro i u d;rw[CX]at d;split at d
  ·simp[AV.guards]at d
  ·exact h.gds i u d
 ·intro i;rw[(c i).1,(c i).2];exact h.ini i
theorem TR:∀{c:List Nat}{S:AS}{K:AS->Prop},dj c S K->SimB X (λ_=>False) β S a w->∃S',K S'/\SimB X (λ_=>False) β S' a w
 | [],S,K,hy,h=>⟨S,hy,h⟩
 | t :: r,S,K,hy,h=>by
   have hy:Z3 (ρOf S none (.tmp t)) λx b=>Qd b S λS=>Si S t (.d x) λS=>dj r S K:=hy;obtain⟨y,b,hK,d,_,f⟩:=JJ (x:=X) (G:=λ_=>False) (a:=a) (ρ_sound h (g:=none) (λ_ _ e=>by cases e) (.tmp t)) hy;rw[Nl,SJ]at hK;have hr:=f.now h d;refine TR hK ((d.run h).1.know λv i=>?_);have:a.eval (.tmp t)=v:=by simp[Act.eval,tT,i]
   grind
theorem Yc:∀{ts:List Nat}{S:AS}{K:AS->Prop},iJ ts S K->SimB X (λ_=>False) β S a w->∃S',K S'/\SimB X (λ_=>False) β S' a w
 | [],S,K,hy,h=>⟨S,hy,h⟩
 | t :: r,S,K,hy,h=>by
   unfold iJ at hy;split at hy
   ·rename_i av cs n s
    obtain⟨l,b,hy,D,E,hl,-,hh⟩:=Kg h hy;rw[Q2,Nl,BH]at hy;have m:(Ai S t).box=.var cs:=by rw[s]
    have F:(Ai S t).ver=n:=by rw[s]
    have H:t<S.length:=NM m (by simp);obtain⟨I,hO,f⟩:=D.run h;have x:=I.boxes t
    have J:∀y∈b,y.1≠t:=λy hy e=>by
     obtain⟨sz,xs,hx⟩:=E y hy
     have hz:∀{seen b:Bx},FZ S seen b->∀y∈b,∃seen',ij S seen' y:=by
      intro seen b
      induction b generalizing seen with
      | nil=>intro _ y hy;cases hy
      | cons z q ih =>
        intro U y hy;rcases List.mem_cons.1 hy with e|e
        ·exact⟨_,by rw[e];exact U.1⟩
        ·exact ih U.2 y e
     obtain⟨_,L⟩:=hz D y hy;rcases L.2 with⟨sz',e',xs',C,_⟩|⟨cs',ds',_,M,_⟩|⟨C,_⟩
     all_goals grind
    have d:(Ai (Bj b S) t).box=.var cs:=(f.other t J).trans m;have N:(Ai (Bj b S) t).ver=n:=(f.ver t).trans F;rw[d]at x;obtain⟨bb,vals,T,C,M,V,k4⟩:=x;have g:=h.boxes t;rw[m]at g;obtain⟨bb0,O,T0,Q,R,j3,j4⟩:=g;rw[C]at Q;simp at Q;subst Q;rw[M]at R;simp at R;obtain⟨rfl,rfl⟩:=R;have A:=(hh vals.toList (by simpa using V) λj v c W p=>j4 j v c (by grind) p).now h D
    have Y:=I.rebox (R':=X.R) (id:=t) (B:=.var (l.map .d)) (v:=β t) (n:=n) (w':=w) (λ_ h=>h) (by rw[Cp];exact H) (.inr ⟨N.symm,rfl,by rw[d];simp⟩) (td _) (AA.refl _ _ _) (λ_ _ _=>rfl)
     (λ_ b Z=>⟨.inl ⟨Z,by rw[d];rfl⟩,(I.mine t b (by rw[d];rfl) Z).2⟩)
     (λk W=>by
      rw[Gx]at k W ⊢;refine⟨bb,vals,T,C,M,by simp;rw[<-hl];exact V,λi u c hu p=>?_⟩;rw[tr]at p
      cases hd:l[i]? with
      | none=>rw[hd]at p;cases p
      | some y =>
        rw[hd]at p;obtain rfl:=sY p;have:=A.2 i u y (by simpa using hu) hd;exact⟨this.1.mono k,this.2⟩)
    rw[Gx]at Y;exact Yc hy Y
   ·grind
theorem SimB.le(h:SimB X (λ_=>False) β S a w){S':AS}(b:Le S S'):SimB X (λ_=>False) β S' a w:=by
 obtain⟨g,c,d⟩:=TR b h;obtain⟨i,e,f⟩:=Yc c d;exact f.le0 e
theorem Wo:∀{O:List (Nat×Nat×Nat×TypeId)}{S:AS}{β:Nat->Value}{K:AS->Prop},X4 O S K->SimB X (λ_=>False) β S a w->∃x S',K S'/\SimB X (λ_=>False) x S' a w
 | [],S,β,K,hy,h=>⟨β,S,hy,h⟩
 | (v,j,q,e) :: r,S,β,K,hy,h=>by
   unfold X4 at hy;split at hy
   ·rename_i av cs n hsv
    split at hy
    ·rename_i s z
     obtain⟨⟨Q,A⟩,hy⟩:=Al hy;obtain⟨hq,hy⟩:=OR _ _ _ hy;rw[BN,Nl]at hy;have d:(Ai S v).box=.var cs:=by grind
     have R:(Ai S v).ver=n:=by grind
     have U:v<S.length:=NM d (by simp);have D:=h.boxes v;rw[d]at D;obtain⟨b,vals,T,k1,k2,k3,k4⟩:=D;have hj:j<vals.size:=by grind
     have t:=k4 j vals[j] _ (by simp[hj]) z
     obtain⟨y,E⟩:∃y,vals[j]=.slice y 0 0:=by
      have:=t.1;generalize vals[j]=u at this
      cases this
      exact⟨_,rfl⟩
     obtain⟨x,F,H,_⟩:=mQ h hq (n:=(Ai S q).ver+1) (u3 _) (R':=X.R) (λ_ h=>h) (Below.refl _ _) (v:=.slice y 0 0) (e:=e) (xs:=[]) (vals:=[]) Q (λ_ h=>by cases h)
      (by cases y with
       | none=>exact .inl (World.ownsRow_nil w _ e _)
       | some p=>exact .inr ⟨rfl,rfl,p,rfl⟩) (λb L=>by cases y<;>simp[Af]at L) B3.nil
     have F:SimB X (λ_=>False) x (Ba S q (.row s e []) ((Ai S q).ver+1)) a w:=F;have I:x v=β v:=by rw[H];simp[Lg,A]
     have V:x q=.slice y 0 0:=by rw[H];simp[Lg]
     have f:Ai (Ba S q (.row s e []) ((Ai S q).ver+1)) v=Ai S v:=by rw[JZ hq];simp[A]
     have W:(Ai (Ba S q (.row s e []) ((Ai S q).ver+1)) q).ver=(Ai S q).ver+1:=by rw[JZ hq];simp
     have m:=F.boxes v;rw[f,d]at m;obtain⟨b',Y,T',Z,j2,j3,j4⟩:=m;rw[I,k1]at Z;simp at Z;subst Z;rw[k2]at j2;simp at j2;obtain⟨rfl,rfl⟩:=j2;have hlj:j<cs.length:=A7 z
     have h2:=F.rebox (R':=X.R) (id:=v) (B:=.var (splice cs j [.sl q ((Ai S q).ver+1)])) (v:=x v) (n:=n) (w':=w) (λ_ h=>h) (by rw[Dc];exact U) (.inr ⟨by rw[f,R],rfl,by rw[f,d];simp⟩) (td _) (AA.refl _ _ _) (λ_ _ _=>rfl)
      (λ_ b L=>⟨.inl ⟨L,by rw[f,d];rfl⟩,(F.mine v b (by rw[f,d];rfl) L).2⟩)
      (λk M=>by
       rw[Gx]at k M ⊢;refine⟨b,vals,T,by rw[I,k1],k2,?_,λi u c N l=>?_⟩
       ·rw[FT _ _ _ (by omega)];simp;omega
       ·rw[FT _ _ _ (by omega)]at l;have g:(cs.take j).length=j:=by grind
        rcases vz i j with J|J|J
        ·rw[uZ,tq (by rw[g];exact J),ul J]at l;exact(j4 i u c N l).mono k M
        ·subst J;rw[uZ,tj (by rw[g];exact td _),g]at l;simp at l;subst l;refine Ce.mono k M ?_;have:u=vals[i]:=by simp[hj]at N;exact N.symm
         rw[this];exact⟨by simp only[AM];rw[W];exact td _,λ_=>by rw[V,E]⟩
        ·rw[uZ,tj (by rw[g];omega),g]at l;rw[show([C.sl q ((Ai S q).ver+1)]++cs.drop (j+[C.sl q ((Ai S q).ver+1)].length))=C.sl q ((Ai S q).ver+1) :: cs.drop (j+1)from rfl]at l;rw[show i-j=(i-j-1)+1 by omega,tX,tQ]at l;exact(j4 i u c N (by rw[show i=j+1+(i-j-1) by omega];exact l)).mono k M)
     rw[Gx]at h2;exact Wo hy h2
    ·grind
   ·grind
theorem jH(h:SimB X (λ_=>False) β S a w){c:Operand}{b:Bool}(d:ρOf S none c=.d (.bool b)):a.eval c=.bool b:=by
 have:=ρ_sound h (g:=none) (λ_ _ e=>by cases e) c;rw[d]at this;exact ED this
def qp(X:Cx)(Q:Exit->AS->Prop)(e:Exit)(a:Act)(w:World):Prop:=∃β S,Q e S/\SimB X (λ_=>False) β S a w
def Nk(P:Program):Prop:=∀(id:Nat)(ops:Array Oper)(Q:Exit->AS->Prop)(S:AS)(X:Cx)(β:Nat->Value)(a:Act)(w:World),
 ao P [] (.region id ops true) Q S->SimB X (λ_=>False) β S a w->(Code.region id ops true).wp P (qp X Q) a w
theorem least(p:Nat->Prop):∀n,p n->∃m,p m/\∀k,p k->m<=k:=by
 intro n
 induction n using Nat.strongRecOn with
 | _ n ih=>grind
theorem EF{J:List Nat}(d:Nk P):∀(c:Code){Q:Exit->AS->Prop}{S:AS}{β:Nat->Value}{a:Act}{w:World},ao P J c Q S->SimB X (λ_=>False) β S a w->c.wp P (qp X Q) a w
 | .skip,Q,S,β,a,w,hy,h=>wp_skip ⟨β,S,hy,h⟩
 | .label _,Q,S,β,a,w,hy,h=>wp_label ⟨β,S,hy,h⟩
 | .region id ops draw,Q,S,β,a,w,hy,h=>by
   have hy:match b7 J (1000000+id)with
    | true=>QY P S (.region id ops draw) Q
    | false=>ao P [] (.region id ops draw) Q S:=hy
   split at hy
   ·obtain⟨K,ι,Inv,r,hx,q⟩:=hy.go;simp only[Fz]at q;refine wp_mono (hx X β a w (h.le r)) λe u w' hq=>?_;obtain⟨rfl,i,f,g⟩:=hq;exact⟨f,_,q i,g⟩
   cases draw with
   | true=>exact d id ops Q S X β a w hy h
   | false =>
     have hy:qS P ops.toList [] ops.toList S λS=>plain S (Q .normal):=hy;refine wp_region_list (Uf hy (h.weaken λ_ B=>B.elim) λf S' u w' C hK g=>?_);rw[Y2]at hK;exact⟨f,_,hK,g.plain⟩
 | .seq x y,Q,S,β,a,w,hy,h=>by
   have hy:match bD J y with
    | false=>ao P J x (λe S=>match e with|.normal=>ao P J y Q S|e=>Q e S) S
    | true=>QZ S (ao P J x) (ao P J y) Q:=hy
   split at hy
   ·refine wp_seq (wp_mono (EF d x hy h) λe u w' hq=>?_);obtain⟨f,S',hq,g⟩:=hq
    cases e with
    | normal=>exact EF d y hq g
    | exit id=>exact⟨f,S',hq,g⟩
    | goto l=>exact⟨f,S',hq,g⟩
    | ret=>exact⟨f,S',hq,g⟩
    | panic D=>exact⟨f,S',hq,g⟩
    | outgrown=>exact⟨f,S',hq,g⟩
   ·obtain⟨ι,Inv,hx,q⟩:=hy.go;simp only[Fz]at q;refine wp_seq (wp_mono (EF d x hx h) λe u w' hq=>?_);obtain⟨f,S',hq,g⟩:=hq
    cases e with
    | normal =>
      obtain⟨i,r⟩:=hq;exact EF d y (q i) (g.le r)
    | exit id=>exact⟨f,S',hq,g⟩
    | goto l=>exact⟨f,S',hq,g⟩
    | ret=>exact⟨f,S',hq,g⟩
    | panic D=>exact⟨f,S',hq,g⟩
    | outgrown=>exact⟨f,S',hq,g⟩
 | .cond c x y,Q,S,β,a,w,hy,h=>by
   have hy:match ρOf S none c with
    | .d (.bool b)=>Wr b (ao P J x Q S) (ao P J y Q S)
    | _=>False:=hy
   split at hy
   ·rename_i b L
    exact wp_cond_split (jH h L) (λM=>EF d x (hy.pos M) h) (λB=>EF d y (hy.neg B) h)
   ·grind
 | .ret,Q,S,β,a,w,hy,h=>wp_ret ⟨β,S,hy,h⟩
 | .block id c,Q,S,β,a,w,hy,h=>by
   have hy:match b7 J id with
    | true=>QY P S (.block id c) Q
    | false=>ao P J c (λe S=>match e with|.exit z=>if z=id then Q .normal S else Q (.exit z) S|e=>Q e S) S:=hy
   split at hy
   ·obtain⟨K,ι,Inv,r,hx,q⟩:=hy.go;simp only[Fz]at q;refine wp_mono (hx X β a w (h.le r)) λe u w' hq=>?_;obtain⟨rfl,i,f,g⟩:=hq;exact⟨f,_,q i,g⟩
   refine wp_block (wp_mono (EF d c hy h) λe u w' hq=>?_);obtain⟨f,S',hq,g⟩:=hq
   cases e with
   | exit z =>
     simp only[Exit.inBlock]at hq ⊢;split
     ·rename_i E;rw[tf E]at hq;exact⟨f,S',hq,g⟩
     ·rename_i E;rw[tn E]at hq;exact⟨f,S',hq,g⟩
   | normal=>exact⟨f,S',hq,g⟩
   | goto l=>exact⟨f,S',hq,g⟩
   | ret=>exact⟨f,S',hq,g⟩
   | panic D=>exact⟨f,S',hq,g⟩
   | outgrown=>exact⟨f,S',hq,g⟩
 | .exit id,Q,S,β,a,w,hy,h=>wp_exit ⟨β,S,hy,h⟩
 | .loop c,Q,S,β,a,w,hy,h=>by
   have hy:Ra S (ao P J c) Q:=hy;obtain⟨N,O,ι,Inv,μ,R,r,s⟩:=hy.go;simp only[Fz]at s;obtain⟨β,S,r,h⟩:=Wo r h;obtain⟨S,r,h⟩:=TR r h;let I:Act->World->Nat->Prop:=λa w n=>∃i β,μ i=n/\SimB X (λ_=>False) β (Inv i) a w;have F:∃n,I a w n:=⟨_,R,β,rfl,h.le r⟩
   have v:∀a w,(∃n,I a w n)->I a w (Classical.epsilon λm=>I a w m/\∀k,I a w k->m<=k)/\∀k,I a w k->(Classical.epsilon λm=>I a w m/\∀k,I a w k->m<=k)<=k :=
    λa w ⟨n,T⟩=>Classical.epsilon_spec (p:=λm=>I a w m/\∀k,I a w k->m<=k) (least (I a w) n T)
   refine wp_loop (λa w=>∃n,I a w n) (λa w=>Classical.epsilon λm=>I a w m/\∀k,I a w k->m<=k) F λa w U=>?_;obtain⟨i,β,W,g⟩:=(v a w U).1;refine wp_mono (EF d c (s i) g) λe u w' hq=>?_;obtain⟨f,S',hq,t⟩:=hq
   cases e with
   | normal =>
     obtain⟨j,H,V⟩:=hq;have A:I u w' (μ j):=⟨j,f,rfl,t.le H⟩;refine⟨⟨_,A⟩,?_⟩;have:=(v u w' ⟨_,A⟩).2 _ A;grind
   | exit id=>exact⟨f,S',hq,t⟩
   | goto l=>exact⟨f,S',hq,t⟩
   | ret=>exact⟨f,S',hq,t⟩
   | panic D=>exact⟨f,S',hq,t⟩
   | outgrown=>exact⟨f,S',hq,t⟩
 | .scope _,_,_,_,_,_,hy,_=>hy.elim
 | .goto _,_,_,_,_,_,hy,_=>hy.elim
 | .refuse _,_,_,_,_,_,hy,_=>hy.elim
 | .rangeFunc _ _ _ _,_,_,_,_,_,hy,_=>hy.elim
end
section
variable {P:Program} {X:Cx} {β:Nat->Value} {S:AS} {a:Act} {w:World}
def TB(tmps:Array Value):ResultVar->Sem Value
 | .tmp t=>pure (tmps.getD t undef)
 | .cell a t=>do loadVar t (<-asAddr (tmps.getD a undef))
theorem no:BW none a:=λ_ _ e=>by cases e
def X1(X:Cx)(β:Nat->Value)(S:AS)(a:Act)(w:World)(used:List Nat)(frz:Bx)(v:Value):C->Prop
 | .d y=>Lk X (λ_=>False) β S a w frz λO=>Ax O w v y
 | .own sz e xs=>∃id,id∈used/\v=β id/\(Ai S id).box=.row sz e xs/\∀x∈xs,∀y∈x.cells,y.bare=true
 | .sl _ _=>False
theorem X1.mono{f b:List Nat}{frz g:Bx}(j:∀i∈f,i∈b)(k:∀y∈frz,y∈g){v:Value}{c:C}(h:X1 X β S a w f frz v c):X1 X β S a w b g v c:=by
 cases c with
 | d y=>exact Lk.mono (show Lk X (λ_=>False) β S a w frz λO=>Ax O w v y from h) k λ_ h=>h
 | own sz e xs=>obtain⟨id,h1,h2⟩:=h;exact⟨id,j id h1,h2⟩
 | sl _ _=>exact h
theorem Z8:∀{cs:List C}{K:List D->Prop},aS cs K->∃l,K l/\cs=l.map .d
 | [],K,h=>⟨[],h,rfl⟩
 | .d x :: r,K,h=>by
   have h:aS r λl=>K (x :: l):=h;obtain⟨l,b,c⟩:=Z8 h;grind
 | .sl _ _ :: r,K,h=>h.elim
 | .own _ _ _ :: r,K,h=>h.elim
theorem OI(h:SimB X (λ_=>False) β S a w):∀{rs:List ResultVar}{g:List Nat}{frz:Bx}{K:List C->List Nat->Bx->Prop},Sc P S g frz rs K->FZ S [] frz->(∀i∈g,(Ai S i).box.owned=true) ->
 ∃cs d f,K cs d f/\FZ S [] f/\(∀i∈g,i∈d)/\(∀y∈frz,y∈f)/\(∀i∈d,(Ai S i).box.owned=true)/\∃vs:List Value,(rs.mapM (TB a.tmps)).run P w=.ok vs w/\vs.length=cs.length /\
  (∀(i:Nat) v c,vs[i]?=some v->cs[i]?=some c->X1 X β S a w d f v c) /\
  (∀(i:Nat) v sz e xs b,vs[i]?=some v->cs[i]?=some (.own sz e xs)->Af v=some b->∀j∈g,Af (β j)≠some b) /\
  (∀(i j:Nat) v z sz e xs o A p b,vs[i]?=some v->vs[j]?=some z->cs[i]?=some (.own sz e xs)->cs[j]?=some (.own o A p)->Af v=some b->Af z=some b->i=j)
 | [],g,frz,K,hy,hF,hu=>⟨[],g,frz,hy,hF,(λ_ h=>h),(λ_ h=>h),hu,[],rfl,rfl,(λi v c k=>by simp at k),(λi v sz e xs b k=>by simp at k),λi j v z sz e xs o A p b k=>by simp at k⟩
 | .tmp t :: r,g,frz,K,hy,hF,hu=>by
   have data:∀(y:D)(b:Bx),FZ S [] b->Lk X (λ_=>False) β S a w b (λO=>Ax O w (a.eval (.tmp t)) y)->(Sc P S g (frz++b) r λl u b=>K (.d y :: l) u b) ->
    ∃cs d f,K cs d f/\FZ S [] f/\(∀i∈g,i∈d)/\(∀y∈frz,y∈f)/\(∀i∈d,(Ai S i).box.owned=true)/\∃vs:List Value,((ResultVar.tmp t :: r).mapM (TB a.tmps)).run P w=.ok vs w/\vs.length=cs.length /\
    (∀(i:Nat) v c,vs[i]?=some v->cs[i]?=some c->X1 X β S a w d f v c) /\
    (∀(i:Nat) v sz e xs b,vs[i]?=some v->cs[i]?=some (.own sz e xs)->Af v=some b->∀j∈g,Af (β j)≠some b) /\
    (∀(i j:Nat) v z sz e xs o A p b,vs[i]?=some v->vs[j]?=some z->cs[i]?=some (.own sz e xs)->cs[j]?=some (.own o A p)->Af v=some b->Af z=some b->i=j):=by
    intro y b E N hy;obtain⟨cs,d,f,hK,Q,L,M,F,vs,R,U,V,k7,W⟩:=OI h hy (hF.append E) hu;refine⟨_,d,f,hK,Q,L,λy hy=>M y (by simp[hy]),F,a.eval (.tmp t) :: vs,?_,by simp[U],λi v c k m=>?_,λi v sz e xs b k m=>?_,λi j v z sz e xs o A p b k q m s H I=>?_⟩
    ·simp only[vQ,TB,Sem.run_bind,Sem.run_pure,Result.andThen_ok,R];rfl
    ·cases i with
     | zero=>simp at k m;subst k;subst m;exact N.mono (λy hy=>M y (by simp[hy])) λ_ h=>h
     | succ i=>exact V i v c (by simpa using k) (by grind)
    ·grind
    ·cases i with
     | zero=>simp at m
     | succ i=>cases j with
       | zero=>simp at s
       | succ j=>rw[W i j v z sz e xs o A p b (by simpa using k) (by simpa using q) (by simpa using m) (by simpa using s) H I]
   unfold Sc at hy;have hr:=ρ_sound h no (.tmp t);split at hy
   ·rename_i id n sz e xs hx
    rw[hx]at hr;rcases hy.go with hy|hy
    ·obtain⟨y,b,hK,E,_,N⟩:=JJ (x:=X) (G:=λ_=>False) (a:=a) (K:=λy b=>y=.list sz xs/\b=[(id,BA.frow sz xs,n)]) hr ⟨rfl,rfl⟩;obtain⟨rfl,rfl⟩:=hK;exact data _ _ E N hy
    ·split at hy
     ·exact hy.elim
     rename_i Y
     obtain⟨J,hy⟩:=hy;obtain⟨Z,hb2,hb3⟩:=hr;have hown:(Ai S id).box.owned=true:=by rw[Z];rfl
     obtain⟨cs,d,f,hK,Q,L,M,F,vs,R,U,V,k7,W⟩:=OI h hy hF (λi hi=>by
      rcases List.mem_cons.1 hi with rfl|hi
      ·grind
      ·exact hu i hi)
     refine⟨_,d,f,hK,Q,λi hi=>L i (by simp[hi]),M,F,a.eval (.tmp t) :: vs,?_,by simp[U],λi v c k m=>?_,λi v o A p b k m H j hj=>?_,λi j v z sz1 e1 xs1 o A p b k q m s H I=>?_⟩
     ·simp only[vQ,TB,Sem.run_bind,Sem.run_pure,Result.andThen_ok,R];rfl
     ·cases i with
      | zero=>simp at k m;subst k;subst m;exact⟨id,L id (by simp),hb3,Z,J⟩
      | succ i=>exact V i v c (by grind) (by simpa using m)
     ·cases i with
      | zero =>
        simp at k m;subst k;intro hjb;rw[hb3]at H;have:=h.inj id j b hown (hu j hj) H hjb;subst this;exact Y (by simpa using hj)
      | succ i=>exact k7 i v o A p b (by simpa using k) (by simpa using m) H j (by simp[hj])
     ·cases i with
      | zero=>cases j with
        | zero=>rfl
        | succ j=>grind
      | succ i=>cases j with
        | zero=>grind
        | succ j=>rw[W i j v z sz1 e1 xs1 o A p b (by simpa using k) (by simpa using q) (by simpa using m) (by simpa using s) H I]
   ·obtain⟨y,b,hK,E,_,N⟩:=V3 (x:=X) (G:=λ_=>False) (a:=a) hr hy;exact data y b E N hK
 | .cell t ty :: r,g,frz,K,hy,hF,hu=>by
   unfold Sc at hy;have hr:=ρ_sound h no (.tmp t);split at hy
   ·rename_i id n off cs0 hx
    rw[hx]at hr;obtain⟨H,_,bb,hβ,k⟩:=hr;obtain⟨l0,hy,hcs⟩:=Z8 hy;obtain⟨vals,T,h3,h4,h5⟩:=Ns h H hβ
    obtain⟨y,hy,v0,hl,hvr⟩:=VH (P:=P) (O:=OS β X S) (w:=w) (b:=bb) (off:=off) hy (λj y hy=>by
     simp only[tQ]at hy;have m:cs0[off+j]?=some (.d y):=by rw[hcs];simp[hy]
     have hlt:off+j<vals.size:=by rw[h4];exact A7 m
     have:=h5 (off+j) vals[off+j] _ (by simp[hlt]) m;exact⟨vals[off+j],by simp[World.cell?,h3,hlt],this.1,this.2⟩)
    rw[NS]at hy;obtain⟨cs,d,f,hK,Q,L,M,F,vs,R,U,V,k7,W⟩:=OI h hy hF hu;have q:a.tmps.getD t undef=.pointer (some ⟨bb,off,none⟩):=k;refine⟨_,d,f,hK,Q,L,M,F,v0 :: vs,?_,by simp[U],λi v c k m=>?_,λi v sz e xs b k m=>?_,λi j v z sz e xs o A p b k q m s H I=>?_⟩
    ·simp only[vQ,TB,q,asAddr,Sem.run_bind,Sem.run_pure,Result.andThen_ok,hl,R]
    ·cases i with
     | zero=>simp at k m;subst k;subst m;exact λB _ _ _ hk=>(hvr.mono (B7.of_sub hk)).norm
     | succ i=>exact V i v c (by simpa using k) (by simpa using m)
    ·grind
    ·cases i with
     | zero=>simp at m
     | succ i=>cases j with
       | zero=>simp at s
       | succ j=>rw[W i j v z sz e xs o A p b (by simpa using k) (by simpa using q) (by simpa using m) (by simpa using s) H I]
   ·grind
theorem OJ{fn:Func}{vs:List Value}(h:(fn.results.toList.mapM (TB a.tmps)).run P w=.ok vs w) :
 (results fn a.tmps).run P w=.ok (if h:vs.toArray.size=1 then vs.toArray[0]else .tuple vs.toArray) w:=by
 have e:(fn.results.mapM (TB a.tmps)).run P w=.ok vs.toArray w:=by
  rw[vX,Sem.run_map,h];simp
 have b:results fn a.tmps=(do let vs<-fn.results.mapM (TB a.tmps);pure (if h:vs.size=1 then vs[0]else .tuple vs)):=by
  unfold results;congr 2
 rw[b,Sem.run_bind,e];rfl
theorem Vz{b:List Nat}{frz:Bx}(h:b.all (λi=>FH i frz)=true):∀i∈b,∀y∈frz,y.1≠i:=λi c=>Gz (List.all_eq_true.1 h i c)
theorem Ul(h:SimB X (λ_=>False) β S a w){fn:Func}{f:List Nat}{frz:Bx}{r:AV}(hF:FZ S [] frz)(hu:∀i∈f,(Ai S i).box.owned=true)(hy:gO P fn.results.toList f frz S r) :
 ∃v T,(results fn a.tmps).run P w=.ok v w/\SimB X (λ_=>False) β T a w/\(∀i∈f,Ai T i=Ai S i)/\(∀z∈frz,(Ai T z.1).box=z.2.1)/\(∃F,(∀y∈frz,y∈F)/\Fr S F T) /\
  Dp (λb=>X.mine b/\∀i∈f,Af (β i)≠some b) (OS β X T) w v r/\(∀b,Eg v r b->OS β X T b):=by
 have ownR:∀{T:AS}{o:List Nat}{v:Value}{sz:Nat}{e:TypeId}{xs:List D},SimB X (λ_=>False) β T a w->(∀i∈o,Ai T i=Ai S i)->(∃id,id∈o/\v=β id/\(Ai S id).box=.row sz e xs/\∀x∈xs,∀y∈x.cells,y.bare=true) ->
  (∀b,Af v=some b->∀j∈f,Af (β j)≠some b)->Vx (λb=>X.mine b/\∀i∈f,Af (β i)≠some b) w v sz e xs/\∀b,Af v=some b->OS β X T b:=by
  intro T o v sz e xs hT m ⟨id,h1,h2,h3,h4⟩ hne;have E:(Ai T id).box=.row sz e xs:=by grind
  have g:(Ai T id).box.owned=true:=by rw[E];rfl
  have C:=hT.boxes id;rw[E]at C;obtain⟨k1,k2,vals,k3,k4⟩:=C;refine⟨⟨k1,k2,λb L=>⟨(hT.mine id b g (by grind)).1,hne b L⟩,vals,by rw[h2];exact k3,?_⟩,λb L=>.inr (.inr ⟨id,g,by rw[<-h2];exact L⟩)⟩;refine⟨k4.1,λj u y hu hy=>?_⟩;have:=k4.2 j u y hu hy;refine⟨Tb this.1 ?_,this.2⟩;have hm:=tz hy;grind
 have rest:∀{rs:List ResultVar},rs=fn.results.toList->(Sc P S f frz rs λl u b=>pn l u b r)->∃v T,(results fn a.tmps).run P w=.ok v w/\SimB X (λ_=>False) β T a w/\(∀i∈f,Ai T i=Ai S i)/\(∀z∈frz,(Ai T z.1).box=z.2.1)/\(∃F,(∀y∈frz,y∈F)/\Fr S F T) /\
  Dp (λb=>X.mine b/\∀i∈f,Af (β i)≠some b) (OS β X T) w v r/\(∀b,Eg v r b->OS β X T b):=by
  intro rs Q hy;obtain⟨cs,o,k,hK,k1,k2,k3,k3',vs,k4,k5,U,k7,k8⟩:=OI h hy hF hu;unfold pn at hK;obtain⟨G,J⟩:=Al hK;clear hK;have H:=Vz G;obtain⟨t1,t2,t3⟩:=k1.run h
  have m:∀i∈o,Ai (Bj k S) i=Ai S i:=by
   intro i K;have V:=t3.other i (H i K);have W:=t3.ver i;have Y:=t3.av i;generalize Ai (Bj k S) i=p at V W Y;generalize Ai S i=q at V W Y;obtain⟨_,_,_⟩:=p;obtain⟨_,_,_⟩:=q;grind
  have A:∀(i:Nat) v y,vs[i]?=some v->cs[i]?=some (.d y)->Ax (OS β X (Bj k S)) w v y:=λi v y N R=>(show Lk X (λ_=>False) β S a w k λO=>Ax O w v y from U i v _ N R) k (λ_ h=>h) t3 t1 t2
  have I:∀(i:Nat) v sz e xs,vs[i]?=some v->cs[i]?=some (.own sz e xs)->Vx (λb=>X.mine b/\∀i∈f,Af (β i)≠some b) w v sz e xs/\∀b,Af v=some b->OS β X (Bj k S) b:=by
   intro i v sz e xs N R;exact ownR t1 m (U i v _ N R) (λb C=>k7 i v sz e xs b N R C)
  have Da:∀v,(results fn a.tmps).run P w=.ok v w->Dp (λb=>X.mine b/\∀i∈f,Af (β i)≠some b) (OS β X (Bj k S)) w v r->(∀b,Eg v r b->OS β X (Bj k S) b)->∃v T,(results fn a.tmps).run P w=.ok v w/\SimB X (λ_=>False) β T a w/\(∀i∈f,Ai T i=Ai S i)/\(∀z∈frz,(Ai T z.1).box=z.2.1)/\(∃F,(∀y∈frz,y∈F)/\Fr S F T) /\
   Dp (λb=>X.mine b/\∀i∈f,Af (β i)≠some b) (OS β X T) w v r/\(∀b,Eg v r b->OS β X T b) :=
   λv N hr C=>⟨v,_,N,t1,λi K=>m i (k2 i K),λz hz=>t3.mem z (k3 z hz),⟨k,k3,t3⟩,hr,C⟩
  have B:=OJ (P:=P) (w:=w) (a:=a) (fn:=fn) (vs:=vs) (by grind)
  have M:rp (.tup cs) r->cs.length≠1->∃v T,(results fn a.tmps).run P w=.ok v w/\SimB X (λ_=>False) β T a w/\(∀i∈f,Ai T i=Ai S i)/\(∀z∈frz,(Ai T z.1).box=z.2.1)/\(∃F,(∀y∈frz,y∈F)/\Fr S F T) /\
   Dp (λb=>X.mine b/\∀i∈f,Af (β i)≠some b) (OS β X T) w v r/\(∀b,Eg v r b->OS β X T b):=by
   intro hr hne;have hl:¬vs.toArray.size=1:=by grind
   rw[dif_neg hl]at B;have hr:=hr.go;subst hr
   have hres:∀b,Eg (.tuple vs.toArray) (.tup cs) b->OS β X (Bj k S) b:=by
    rintro b ⟨vs',i,u,sz,e,ys,h1,h2,h3,h4⟩;grind
   refine Da _ B ⟨vs.toArray,rfl,by simpa using k5,λi u c hu' R=>?_,λi j u u' sz e ys sz' e' ys' b h1 h2 h3 h4 h5 h6=>k8 i j u u' sz e ys sz' e' ys' b (by grind) (by simpa using h2) h3 h4 h5 h6⟩ hres
   cases c with
   | d y =>
     refine Ax.mono (B7.of_sub λb C=>?_) (A i u y (by grind) R);grind
   | own sz e ys=>grind
   | sl _ _=>exact(U i u _ (by grind) R).elim
  match cs,J,k5,U,k7,k8,A,I,M with
  | [],J,k5,U,k7,k8,A,I,M=>exact M J (by simp)
  | c1 :: c2 :: q,J,k5,U,k7,k8,A,I,M=>exact M J (by simp)
  | [c],J,k5,U,k7,k8,A,I,M =>
    have hl:vs.length=1:=k5;obtain⟨v,rfl⟩:=List.length_eq_one_iff.1 hl;have hrv:(results fn a.tmps).run P w=.ok v w:=by grind
    have hr:=(show rp (lK c) r from J).go;subst hr
    cases c with
    | d y=>exact Da v hrv (A 0 v y rfl rfl) (λb C=>C.elim)
    | own sz e xs =>
      obtain⟨j1,j2⟩:=I 0 v sz e xs rfl rfl;exact Da v hrv j1 j2
    | sl _ _=>exact(U 0 v _ rfl rfl).elim
 unfold gO at hy;split at hy
 ·
   rename_i k0 l0
   split at hy<;>try exact hy.elim
   rename_i t Q
   split at hy<;>try exact hy.elim
   rename_i id n sz e xs hx
   have hr:=ρ_sound h no (.tmp t);rw[hx]at hr;obtain⟨hb1,hb2,N⟩:=hr;split at hy
   ·grind
   rename_i hcon
   obtain⟨G,hK⟩:=Al hy;have hK:=hK.go
   cases hK
   have H:=Vz G;obtain⟨t1,t2,t3⟩:=hF.run h
   have m:∀i∈id :: f,Ai (Bj frz S) i=Ai S i:=by
    intro i K;have V:=t3.other i (H i K);have W:=t3.ver i;have Y:=t3.av i;generalize Ai (Bj frz S) i=p at V W Y;generalize Ai S i=q at V W Y;obtain⟨_,_,_⟩:=p;obtain⟨_,_,_⟩:=q;grind
   have E:(Ai (Bj frz S) id).box=.row sz e xs:=by grind
   have g:(Ai (Bj frz S) id).box.owned=true:=by rw[E];rfl
   have C:=t1.boxes id;rw[E]at C;obtain⟨k1,k2,vals,k3,k4⟩:=C
   have B:(results fn a.tmps).run P w=.ok (β id) w:=by
    have:=OJ (P:=P) (w:=w) (a:=a) (fn:=fn) (vs:=[β id]) (by
     rw[Q];simp only[vQ,TB,List.mapM_nil,Sem.run_bind,Sem.run_pure,Result.andThen_ok];rw[<-N];rfl)
    grind
   refine⟨β id,_,B,t1,λi K=>m i (by simp[K]),λz hz=>t3.mem z hz,⟨_,λy hy=>hy,t3⟩,⟨k1,k2,λb L=>⟨(t1.mine id b g L).1,λi K Z=>?_⟩,vals,k3,k4.mono (B7.of_sub λb C=>?_)⟩,λb' s=>.inr (.inr ⟨id,g,s⟩)⟩
   ·have:=h.inj id i b (by grind) (hu i K) L Z;grind
   ·rcases C with C|C
    ·exact C
    ·exact .inr (.inr ⟨id,g,C⟩)
 split at hy
 ·rename_i t Q
  split at hy
  ·rename_i id n cs hx
   have hr:=ρ_sound h no (.tmp t);rw[hx]at hr;obtain⟨hb1,hb2,bb,hβ,N⟩:=hr;split at hy
   ·grind
   rename_i hcon
   obtain⟨l,b,hK,hFb,hfr,hcd,hh⟩:=N0 h hy;obtain⟨G,hK⟩:=Al hK;obtain⟨rfl⟩:=hK;have H:=Vz G;have hFF:=hF.append hFb;obtain⟨t1,t2,t3⟩:=hFF.run h
   have m:∀i∈id :: f,Ai (Bj (frz++b) S) i=Ai S i:=by
    intro i K;have V:=t3.other i (H i K);have W:=t3.ver i;have Y:=t3.av i;generalize Ai (Bj (frz++b) S) i=p at V W Y;generalize Ai S i=q at V W Y;obtain⟨_,_,_⟩:=p;obtain⟨_,_,_⟩:=q;grind
   have E:(Ai (Bj (frz++b) S) id).box=.var cs:=by grind
   have g:(Ai (Bj (frz++b) S) id).box.owned=true:=by rw[E];rfl
   obtain⟨vals,T,q1,q2,q3⟩:=Ns t1 E hβ;have hcd':Lj S (frz++b) cs l:=hcd.mono λy hy=>by grind
   have hrep:=Sx t3 t1 hcd' (vals:=vals.toList) (by simpa using q2) (λj v c N R=>q3 j v c (by grind) R);have hblk:Af (β id)=some bb:=by rw[hβ];rfl
   have hvb:a.eval (.tmp t)=β id:=by grind
   have B:(results fn a.tmps).run P w=.ok (β id) w:=by
    have:=OJ (P:=P) (w:=w) (a:=a) (fn:=fn) (vs:=[β id]) (by
     rw[Q];simp only[vQ,TB,List.mapM_nil,Sem.run_bind,Sem.run_pure,Result.andThen_ok];rw[<-hvb];rfl)
    grind
   refine⟨β id,_,B,t1,λi K=>m i (by simp[K]),λz hz=>t3.mem z (by simp[hz]),⟨_,λy hy=>by simp[hy],t3⟩,⟨λb' s=>⟨(t1.mine id b' g s).1,λi K Z=>?_⟩,bb,vals,T,hβ,q1,?_⟩,λb' s=>.inr (.inr ⟨id,g,s⟩)⟩
   ·have:=h.inj id i b' (by grind) (hu i K) s Z;grind
   ·refine hrep.mono (B7.of_sub λb' s=>?_);rcases s with s|s
    ·grind
    ·exact .inr (.inr ⟨id,g,s⟩)
  ·grind
 ·grind
theorem MR:∀(args:List AV)(k:Nat)(S:AS),(enter k args S).length=args.length+(S.length-args.length)
 | [],_,S=>by simp[enter]
 | x :: r,k,S=>by simp only[enter,tS,MR r,uJ];omega
theorem Qq:∀n,(FG n).length=n
 | 0=>rfl
 | n+1=>by simp[FG,Qq n]
theorem Uo:∀n i,Ai (FG n) i=fD
 | 0,_=>rfl
 | _+1,0=>rfl
 | n+1,i+1=>Uo n i
theorem kP(k:Nat):∀(S:AS)(i:Nat),Ai (S.drop k) i=Ai S (k+i):=by
 induction k with
 | zero=>grind
 | succ k ih =>
   intro S i
   cases S with
   | nil=>simp[Ai]
   | cons s r=>rw[List.drop_succ_cons,ih,show k+1+i=(k+i)+1 by omega];rfl
theorem Up:∀(args:List AV)(k:Nat)(S:AS)(i:Nat),Ai (enter k args S) i=match args[i]? with|some x=>Mf (k+i) x|none=>Ai S i
 | [],k,S,i=>by simp[enter]
 | x :: r,k,S,0=>by simp[enter,Ai]
 | x :: r,k,S,i+1=>by
   simp only[enter,Ai,Up r,tX];rw[show k+1+i=k+(i+1) by omega];split
   ·rfl
   ·rw[kP,Nat.add_comm]
theorem Vf{w:World}{e:TypeId}{sz n:Nat}{v:Value}{vals:List Value}(h:B0 w e sz v n vals):Qt v=v:=by
 obtain⟨_,_,_,rfl⟩:=Ng h;rfl
theorem SG(vs:Array Value)(u:Value):Qt (.agg (vs.push u))=u:=by simp[Qt]
theorem Ve{O:Nat->Prop}{w:World}{v:Value}{x:AV}(h:cD O w v x)(c:x.mut=true):Af (Qt v)=Af v:=by
 cases x<;>try (cases c;done)
 ·obtain⟨_,_,_,hr,_⟩:=h;rw[Vf hr]
 ·obtain⟨b,_,_,rfl,_⟩:=h;rfl
 ·obtain⟨_,vs,u,_,_,_,_,⟨_,rfl,_,_,_,_,hr,_⟩,_⟩:=h;rw[SG,cO (Ng hr)]
theorem ZT(i:Nat)(sz:Nat)(e:TypeId)(xs:List D):∀ds:List D,eo i (ds.map .d++[.own sz e xs])=ds.map .d++[.sl i 0]
 | []=>rfl
 | d :: r=>by simp only[tg,w7,eo,ZT i sz e xs r]
theorem eO(sz:Nat)(e:TypeId)(xs:List D):∀ds:List D,pq (ds.map .d++[.own sz e xs])=.row sz e xs
 | []=>rfl
 | d :: r=>by simp only[tg,w7,pq,eO sz e xs r]
theorem ja{ds:List C}{b:List C}{sz c:Nat}{e f:TypeId}{xs d:List D}(h:ds++[C.own sz e xs]=b++[C.own c f d]):ds=b/\sz=c/\e=f/\xs=d:=by
 obtain⟨g,i⟩:=List.append_inj' h rfl;grind
theorem V6{n:Nat}{args:List AV}{O M:Nat->Prop}{w:World}{vs:Array Value}(hO:∀b,O b->b<w.heap.size)(hG:Pq (λb=>O b\/Ip vs args b) w)(A:vs.size=args.length)(U:∀b,Ip vs args b->¬O b)
 (L:∀(i j:Nat) v v' x y b,vs[i]?=some v->vs[j]?=some v'->args[i]?=some x->args[j]?=some y->x.mut=true->y.mut=true->Af v=some b->Af v'=some b->i=j)
 (f:∀(i:Nat) v x,vs[i]?=some v->args[i]?=some x->cD (λb=>O b\/Ip vs args b) w v x) :
 SimB ⟨w.heap.size,Ip vs args,O,λ_=>False,w,λi=>Qt (vs.getD i undef),Ye hG⟩ (λ_=>False) (λi=>Qt (vs.getD i undef)) (enter 0 args (FG n)) { tmps:=vs++Array.replicate (n-vs.size) undef,defers:=[] } w:=by
 have o:∀i,Ai (enter 0 args (FG n)) i=match args[i]? with|some x=>Mf i x|none=>fD:=by
  intro i;rw[Up];simp only[tE,Uo]
 have hver:∀i,(Ai (enter 0 args (FG n)) i).ver=0:=by
  intro i;rw[o];split
  ·rename_i x _;cases x<;>rfl
  ·rfl
 have g:∀(i:Nat) x,args[i]?=some x->vs[i]?=some (vs.getD i undef):=by
  intro i x hx;have:i<vs.size:=by rw[A];exact A7 hx
  simp[Array.getD,this]
 have p:∀i,(Ai (enter 0 args (FG n)) i).box.owned=true->∃x,args[i]?=some x/\x.mut=true:=by
  intro i ho;rw[o]at ho;split at ho
  ·rename_i x hx
   refine⟨x,hx,?_⟩
   cases x<;>first|rfl|simp[Mf,BA.owned]at ho
  ·simp[fD,BA.owned]at ho
 have r:∀b,OS (λi=>Qt (vs.getD i undef)) ⟨w.heap.size,Ip vs args,O,λ_=>False,w,λi=>Qt (vs.getD i undef),Ye hG⟩ (enter 0 args (FG n)) b->O b\/Ip vs args b:=by
  intro b s;rcases s with s|s|⟨i,E,z⟩
  ·exact .inl s
  ·exact s.elim
  ·obtain⟨x,hx,C⟩:=p i E;exact .inr ⟨i,_,x,g i x hx,hx,C,by rw[<-Ve (f i _ x (g i x hx) hx) C];exact z⟩
 refine⟨?_,rfl,AA.refl _ _ _,td _,λb s=>⟨hO b s,λC=>U b C s⟩,(λb s=>s.elim),?_,?_,?_,?_,?_,?_⟩
 ·rw[MR,Qq];simp[A]
 ·intro t v F;rw[o];split
  ·rename_i x hx
   have G:t<vs.size:=by rw[A];exact A7 hx
   rw[tL G]at F;have hr:=f t v x F hx;have H:v=vs.getD t undef:=by simp[G]at F;simp[Array.getD,G,F]
   cases x with
   | any=>trivial
   | d y=>exact Ax.mono (B7.of_sub r) (show Ax _ w v y from hr)
   | lim sz xs =>
     have N:Ax (λb=>O b\/Ip vs args b) w v (.list sz xs)/\Te v=xs.length:=hr;exact⟨N.1.mono (B7.of_sub r),N.2⟩
   | own sz e xs =>
     obtain⟨_,_,_,V,_⟩:=hr;exact⟨sZ _,λ_=>by show v=Qt _;rw[<-H,Vf V]⟩
   | optr cs =>
     obtain⟨b,vals,T,E,z,B⟩:=hr;exact⟨sZ _,λ_=>⟨b,by show Qt (vs.getD t undef)=_;rw[<-H,E];rfl,E⟩⟩
   | cc k l =>
     obtain⟨rfl,D,u,ds,sz,e,xs,⟨rfl,z,B,_⟩,Q⟩:=hr;simp only[Mf,ZT];refine⟨D.push u,z,by simp[B],λj q y hq hy=>?_⟩;rcases tG j D.size with J|J
     ·rw[Array.getElem?_push_lt J]at hq;have I:j<ds.length:=by rw[<-B];exact J
      rw[tq (by simpa using I)]at hy;simp at hq;simp[I]at hy;subst hy;have:=Q.2 j q ds[j] (by simp[J,hq]) (by simp[I]);exact⟨⟨this.1.mono (B7.of_sub r),this.2⟩,Vi this.1 this.2⟩
     ·have W:j=D.size:=by have:=D7 hq;simp at this;omega
      subst W;simp at hq;subst hq;rw[B,tj (by simp)]at hy;simp at hy;subst hy;refine⟨⟨sZ _,λ_=>by show _=Qt _;rw[<-H,z,SG]⟩,?_⟩;have:=f t v _ F hx;obtain⟨_,vs2,u2,_,_,_,_,⟨_,Y,_,_,_,_,q5,_⟩,_⟩:=this;rw[z]at Y;simp at Y;obtain⟨ad,m,c,K⟩:=Ng q5;rw[(Array.push_eq_push.1 Y).1,K];rfl
   | bot|ptr _ _ _|sl _ _|eptr _ _ _ _ _|tup _|under _ _ _=>exact hr.elim
  ·trivial
 ·intro i;rw[o];split
  ·rename_i x hx
   have hr:=f i _ x (g i x hx) hx
   cases x with
   | any|d _|lim _ _|bot|ptr _ _ _|sl _ _|eptr _ _ _ _ _|tup _|under _ _ _=>trivial
   | own sz e xs =>
     obtain⟨E,z,vals,B,Q⟩:=hr;exact⟨E,z,vals,by show B0 w e sz (Qt (vs.getD i undef)) _ _;rw[Vf B];exact B,Q.mono (B7.of_sub r)⟩
   | cc k l =>
     obtain⟨rfl,D,u,ds,sz,e,xs,⟨rfl,z,B,Q,h5,vals,h6,h7⟩,_⟩:=hr;simp only[Mf,eO];exact⟨Q,h5,vals,by show B0 w e sz (Qt (vs.getD i undef)) _ _;rw[z,SG];exact h6,h7.mono (B7.of_sub r)⟩
   | optr cs =>
     obtain⟨b,vals,T,E,z,B⟩:=hr;exact⟨b,vals,T,by show Qt (vs.getD i undef)=_;rw[E];rfl,z,by have:=B.1;simpa using this,λj v c F hc=>(B.mono (B7.of_sub r)).cells j v c (by simpa using F) hc⟩
  ·trivial
 ·intro i b ho s;obtain⟨x,hx,C⟩:=p i ho;exact⟨.inr ⟨i,_,x,g i x hx,hx,C,by rw[<-Ve (f i _ x (g i x hx) hx) C];exact s⟩,λh=>h⟩
 ·intro i j b hi J Z hbj;obtain⟨x,hx,C⟩:=p i hi;obtain⟨y,hy,R⟩:=p j J;exact L i j _ _ x y b (g i x hx) (g j y hy) hx hy C R (by rw[<-Ve (f i _ x (g i x hx) hx) C];exact Z) (by rw[<-Ve (f j _ y (g j y hy) hy) R];exact hbj)
 ·intro t u K;rw[o]at K;split at K
  ·rename_i x hx
   have hr:=f t _ x (g t x hx) hx
   cases x<;>simp[Mf,AV.guards]at K
   exact hr.elim
  ·simp[fD,AV.guards]at K
 ·intro i _ _;rfl
theorem I9{vs:Array Value}{args:List AV}(h:∀x∈args,x.mut=false)(b:Nat):¬Ip vs args b:=by
 rintro⟨i,v,x,_,hx,c,_⟩;grind
theorem SZ{J:List Nat}(m:Nk P){f:FuncId}{fn:Func}{args:List AV}{r:AV}(D:P.funcs[f]?=some fn)(o:(fn.name == "runtime.NumGoroutine")=false)(hr:cE P J fn args r):Ay P f args r:=by
 unfold cE at hr;split at hr
 ·rename_i c E
  refine⟨by simp[Ft,D,o,E],λO w vs H u q k=>?_⟩;rw[Fz]at hr;refine calls_of_wp D E ?_
  have d:∀x∈args,x.mut=false:=by
   intro x hx;obtain⟨i,I⟩:=List.mem_iff_getElem?.1 hx;have z:i<vs.size:=by grind
   have:=k i vs[i] x (by simp[z]) I
   cases x<;>first|rfl|exact this.elim
  have K:Pq (λb=>O b\/Ip vs args b) w:=λg cs L=>(u g cs L).mono (B7.of_sub λb p=>p.resolve_right (I9 d b))
  have s:=V6 (n:=fn.ntmps) (M:=λ_=>False) H K q (λb t=>absurd t (I9 d b)) (λi j v A x y b _ _ hx _ t=>by rw[d x (tz hx)]at t;cases t)
   (λi v x N hx=>by
    have B:=(k i v x N hx).mono (O':=λb=>O b\/Ip vs args b) (B7.of_sub λb p=>p.resolve_right (I9 d b));have F:=d x (tz hx)
    cases x<;>first|exact B|cases F)
  refine wp_mono (EF m c hr s) λe G w' hq=>?_;obtain⟨R,S',hq,C⟩:=hq
  have Da:gO P fn.results.toList [] [] S' r->G.defers=[]/\∃v,(results fn G.tmps).run P w'=.ok v w'/\∃A,Ending.returned v=.returned A/\Below w.heap.size w w'/\Dp (λb=>w.heap.size<=b) O w' A r:=by
   intro hq;obtain⟨v,T,B,F,_,_,_,Q,_⟩:=Ul C (frz:=[]) trivial (λ_ h=>by cases h) hq;refine⟨C.df,v,B,v,rfl,C.below.below (I9 d),Q.mono (λb p=>p.1.resolve_right (I9 d b)) (λb p=>.inl p)⟩
  cases e with
  | normal=>exact Da hq
  | ret=>exact Da hq
  | exit id=>grind
  | goto l=>grind
  | panic U=>grind
  | outgrown=>grind
 ·grind
theorem Mm(h:SimB X (λ_=>False) β S a w):∀{m:List AV}{k:Nat}{K:List Nat->Bx->Prop},R0 S k m K ->
 ∃c frz,K c frz/\FZ S [] frz/\(∀i∈c,(Ai S i).box.owned=true) /\
  ∀(i:Nat) y,m[i]?=some y->y.mut=true->k+i∈c/\(Ai S (k+i)).ver=0/\match y with
   | .own sz e ys=>(Ai S (k+i)).box=.row sz e ys
   | .optr l=>∃cs,(Ai S (k+i)).box=.var cs/\Lj S frz cs l
   | .cc _ l=>∃(ds:List C)(sz:Nat)(e:TypeId)(ys:List D),l=ds++[.own sz e ys]/\(Ai S (k+i)).box=.row sz e ys
   | _=>False
 | [],k,K,hy=>⟨[],[],hy,trivial,(λ_ h=>by cases h),λi y h=>by simp at h⟩
 | q :: r,k,K,hy=>by
   have skip:R0 S (k+1) r K->q.mut=false->∃c frz,K c frz/\FZ S [] frz/\(∀i∈c,(Ai S i).box.owned=true) /\
    ∀(i:Nat) y,(q :: r)[i]?=some y->y.mut=true->k+i∈c/\(Ai S (k+i)).ver=0/\match y with
     | .own sz e ys=>(Ai S (k+i)).box=.row sz e ys
     | .optr l=>∃cs,(Ai S (k+i)).box=.var cs/\Lj S frz cs l
     | .cc _ l=>∃(ds:List C)(sz:Nat)(e:TypeId)(ys:List D),l=ds++[.own sz e ys]/\(Ai S (k+i)).box=.row sz e ys
     | _=>False:=by
    intro hy E;obtain⟨c,frz,hK,n,o,p⟩:=Mm h hy;refine⟨c,frz,hK,n,o,λi y f g=>?_⟩
    cases i with
    | zero=>simp at f;subst f;rw[E]at g;cases g
    | succ i=>have:=p i y (by grind) g;rw[show k+(i+1)=k+1+i by omega];exact this
   cases q with
   | own sz e ys =>
     unfold R0 at hy;split at hy
     ·rename_i A s F xs j
      obtain⟨⟨rfl,rfl,rfl⟩,hy⟩:=hy;obtain⟨c,frz,hK,n,o,p⟩:=Mm h hy;refine⟨_,frz,hK,n,λi f=>?_,λi y f g=>?_⟩
      ·rcases List.mem_cons.1 f with rfl|f
       ·rw[j];rfl
       ·exact o i f
      ·cases i with
       | zero=>simp at f;subst f;simp only[ui];exact⟨by simp,by rw[j],by simp only[j]⟩
       | succ i=>have:=p i y (by grind) g;rw[show k+(i+1)=k+1+i by omega];exact⟨by simp[this.1],this.2⟩
     ·grind
   | optr l =>
     unfold R0 at hy;split at hy
     ·rename_i A cs j
      obtain⟨L,b,t,u,G,v,_⟩:=N0 h hy;obtain⟨el,x⟩:=t;subst el;obtain⟨c,frz,hK,n,o,p⟩:=Mm h x;refine⟨_,_,hK,u.append n,λi f=>?_,λi y f g=>?_⟩
      ·rcases List.mem_cons.1 f with rfl|f
       ·rw[j];rfl
       ·exact o i f
      ·cases i with
       | zero=>simp at f;subst f;simp only[ui];exact⟨by simp,by rw[j],cs,by rw[j],v.mono λy hy=>by simp[hy]⟩
       | succ i =>
         have:=p i y (by grind) g;rw[show k+(i+1)=k+1+i by omega];refine⟨by simp[this.1],this.2.1,?_⟩;have B:=this.2.2
         cases y<;>first|exact B|(obtain⟨z,H,I⟩:=B;exact⟨z,H,I.mono λy hy=>by simp[hy]⟩)
     ·grind
   | any=>exact skip hy rfl
   | bot=>exact skip hy rfl
   | d _=>exact skip hy rfl
   | lim _ _=>exact skip hy rfl
   | ptr _ _ _=>exact skip hy rfl
   | sl _ _=>exact skip hy rfl
   | eptr _ _ _ _ _=>exact skip hy rfl
   | tup _=>exact skip hy rfl
   | under _ _ _=>exact skip hy rfl
   | cc M l =>
     unfold R0 at hy;obtain⟨ds,sz,e,ys,J,hy⟩:=OB hy;split at hy
     ·rename_i A s F xs j
      obtain⟨⟨rfl,rfl,rfl⟩,hy⟩:=hy;obtain⟨c,frz,hK,n,o,p⟩:=Mm h hy;refine⟨_,frz,hK,n,λi f=>?_,λi y f g=>?_⟩
      ·rcases List.mem_cons.1 f with rfl|f
       ·rw[j];rfl
       ·exact o i f
      ·cases i with
       | zero=>simp at f;subst f;simp only[ui];exact⟨by simp,by rw[j],ds,_,_,_,J,by rw[j]⟩
       | succ i=>have:=p i y (by grind) g;rw[show k+(i+1)=k+1+i by omega];exact⟨by simp[this.1],this.2⟩
     ·grind
theorem Tp{J:List Nat}(C:Nk P){f:FuncId}{fn:Func}{args d:List AV}{r:AV}(hf:P.funcs[f]?=some fn)(E:(fn.name == "runtime.NumGoroutine")=false)(hol:d.length=args.length)
 (z:∀(i:Nat) x y,args[i]?=some x->d[i]?=some y->match y with
  | .own sz e _=>∃xs,x=.own sz e xs
  | .optr cs=>∃t,x=.optr t/\cs.length=t.length
  | .cc _ l=>∃(ds:List D)(sz:Nat)(e:TypeId)(xs ys:List D),x=.cc none (ds.map .d++[.own sz e xs])/\l=ds.map .d++[.own sz e ys]
  | _=>True) (hr:X3 P J fn args d r):DU P f args d r:=by
 unfold X3 at hr;split at hr
 ·rename_i c hc
  refine⟨by simp[Ft,hf,E,hc],hol,λO w vs hO hG N hMO Q h=>?_⟩;rw[Fz]at hr;refine calls_of_wp hf hc ?_;have R:=V6 (n:=fn.ntmps) (M:=λ_=>False) hO hG N hMO Q h;refine wp_mono (EF C c hr R) λe a' w' hq=>?_;obtain⟨β',S',hq,U⟩:=hq
  have Da:(R0 S' 0 d λu b=>gO P fn.results.toList u b S' r)->a'.defers=[]/\∃v,(results fn a'.tmps).run P w'=.ok v w'/\∃v',Ending.returned v=.returned v'/\AA w.heap.size (Ip vs args) w w' /\
   Dp (λb=>w.heap.size<=b\/(Ip vs args b/\¬Ip vs d b)) (λb=>O b\/Ip vs d b) w' v' r /\
   ∀(i:Nat) u x y,vs[i]?=some u->args[i]?=some x->d[i]?=some y->Rc (λb=>O b\/Ip vs d b\/Eg v' r b) w' u x y:=by
   intro hq;obtain⟨A,frz,hq,hF,hu,hk⟩:=Mm U hq;obtain⟨v,T,h1,h2,h3,h4,⟨F,hFF,hFr⟩,h5,h6⟩:=Ul U hF hu hq
   have hβ:∀(i:Nat) u y,vs[i]?=some u->d[i]?=some y->y.mut=true->i∈A/\β' i=Qt u/\Af (Qt u)=Af u:=by
    intro i u y o hy K;have:=hk i y hy K;simp only[tE]at this;have V:args[i]?=some (args[i]'(by grind)):=P3 _
    refine⟨this.1,?_,Ve (h i u _ o V) (by
     have k:=z i _ y V hy;generalize args[i]'(by grind)=q at k
     cases y<;>try (cases K;done)
     ·obtain⟨_,rfl⟩:=k;rfl
     ·obtain⟨_,rfl,_⟩:=k;rfl
     ·obtain⟨_,_,_,_,_,rfl,_⟩:=k;rfl)⟩
    have hne:(Ai S' i).box≠.none:=by intro e;have:=hu i this.1;rw[e]at this;cases this
    have W:=U.ini i this.2.1 hne;have Y:=D7 o;rw[W];simp[Y]at o;simp[Array.getD,Y,o]
   have Z:∀b,Ip vs d b->∃i∈A,Af (β' i)=some b:=by
    rintro b ⟨i,u,y,o,hy,K,g⟩;obtain⟨G,B⟩:=hβ i u y o hy K;exact⟨i,G,by rw[B.1,B.2];exact g⟩
   have hMT:∀b,Ip vs d b->OS β' ⟨w.heap.size,Ip vs args,O,λ_=>False,w,λi=>Qt (vs.getD i undef),Ye hG⟩ T b:=by
    intro b g;obtain⟨i,o,g⟩:=Z b g;exact .inr (.inr ⟨i,by rw[h3 i o];exact hu i o,g⟩)
   refine⟨U.df,v,h1,v,rfl,U.below,h5.mono (λb g=>?_) (λb g=>?_),λi u x y m hx hy=>?_⟩
   ·rcases g.1 with H|H
    ·exact .inl H
    ·exact .inr ⟨H,λK=>by obtain⟨i,o,hbi⟩:=Z b K;exact g.2 i o hbi⟩
   ·rcases g with g|g
    ·exact .inl g
    ·grind
   ·have p:∀b,(O b\/Ip vs d b\/Eg v r b)->OS β' ⟨w.heap.size,Ip vs args,O,λ_=>False,w,λi=>Qt (vs.getD i undef),Ye hG⟩ T b:=by
     intro b g;rcases g with g|g|g
     ·exact .inl g
     ·exact hMT b g
     ·exact h6 b g
    have k:=z i x y hx hy
    cases y<;>try trivial
    ·rename_i sz e ys
     obtain⟨G,B⟩:=hβ i u _ m hy rfl;have hki:=(hk i _ hy rfl).2.2;simp only[tE]at hki;have g:=h2.boxes i;rw[h3 i G,hki]at g;obtain⟨L,j2,vals,I,j4⟩:=g;obtain⟨xs,rfl⟩:=k;obtain⟨_,_,_,hrr,_⟩:=h i u _ m hx;rw[B.1,Vf hrr]at I;exact⟨⟨L,j2,vals,I,j4.mono (B7.of_sub p)⟩,xs,rfl⟩
    ·rename_i l
     obtain⟨G,B⟩:=hβ i u _ m hy rfl;obtain⟨cs,s,hcd⟩:=(hk i _ hy rfl).2.2;simp only[tE]at s;have g:=h2.boxes i;rw[h3 i G,s]at g;obtain⟨b,vals,T',L,j2,I,j4⟩:=g;obtain⟨t,rfl,hcl⟩:=k;have hpu:Qt u=u:=by obtain⟨_,_,_,rfl,_⟩:=h i u _ m hx;rfl
     rw[B.1,hpu]at L;refine⟨⟨b,vals,T',L,j2,?_⟩,t,rfl,hcl⟩;refine(Sx hFr h2 (hcd.mono hFF) (vals:=vals.toList) (by simpa using I) (λj v c hv hc=>j4 j v c (by simpa using hv) hc)).mono (B7.of_sub p)
    ·rename_i k0 l
     obtain⟨G,B⟩:=hβ i u _ m hy rfl;obtain⟨ds1,sz1,e1,ys1,hl1,s⟩:=(hk i _ hy rfl).2.2;simp only[tE]at s;have g:=h2.boxes i;rw[h3 i G,s]at g;obtain⟨L,j2,vals,I,j4⟩:=g;obtain⟨ds,sz,e,xs,ys,rfl,rfl⟩:=k;obtain⟨rfl,rfl,rfl,rfl⟩:=ja hl1;obtain⟨_,vs',u',ds',sz',e',xs',⟨q1,rfl,q3,_⟩,_⟩:=h i u _ m hx;obtain⟨q1,rfl,rfl,rfl⟩:=ja q1;have q1:ds.length=ds'.length:=by simpa using congrArg List.length q1
     rw[B.1,SG]at I;exact⟨vs',u',ds,_,_,ys,rfl,rfl,by rw[q3,q1],L,j2,vals,I,j4.mono (B7.of_sub p)⟩
  cases e with
  | normal=>exact Da hq
  | ret=>exact Da hq
  | exit id=>exact hq.elim
  | goto l=>exact hq.elim
  | panic ch=>exact hq.elim
  | outgrown=>exact hq.elim
 ·grind
theorem fe{n k q sz:Nat}{e:TypeId}{xs:List D}{args:List AV}(hk:k<args.length)(hq:q<args.length)(b:q≠k)(i:Nat) :
 Ai (Ba (Ba (FA (enter 0 args (FG n)) k (.ptr k 0 0)) k (.var [.sl q 0]) 0) q (.row sz e xs) 0) i =
  if i=q then⟨(Ai (enter 0 args (FG n)) q).av,.row sz e xs,0⟩else if i=k then⟨.ptr k 0 0,.var [.sl q 0],0⟩else Ai (enter 0 args (FG n)) i:=by
 have h:args.length<=(enter 0 args (FG n)).length:=by rw[MR];omega
 rw[Cc,Cc,Cc,CX,CX,CX];simp only[Dc,IV];have c:k<(enter 0 args (FG n)).length:=by omega
 have d:q<(enter 0 args (FG n)).length:=by omega
 by_cases f:i=q
 ·subst f;simp[c,d,b]
 ·by_cases g:i=k
  ·subst g;simp[c,d,f]
  ·simp[c,d,f,g]
theorem Zz{J:List Nat}(Z:Nk P){f:FuncId}{fn:Func}{args:List AV}{k q sz:Nat}{e:TypeId}{xs ys:List D}(hf:P.funcs[f]?=some fn)(hname:(fn.name == "runtime.NumGoroutine")=false)(hres:fn.results=#[])
 (hk:args[k]?=some .any) (hq:q<args.length) (R:q≠k) (hmut:args.all (λx=>!x.mut)=true) (hr:ly P J fn args k q sz e xs ys):Wj P f args k sz e xs ys:=by
 unfold ly at hr;split at hr
 ·rename_i c hc
  refine⟨by simp[Ft,hf,hname,hc],λO w vs b u T hO hG B U hh hbO huO hsz hxs hrow G=>?_⟩;rw[Fz]at hr;refine calls_of_wp hf hc ?_;have hkl:k<args.length:=A7 hk;obtain⟨rvals,hrr,hrl⟩:=hrow
  have hnm:∀x∈args,x.mut=false:=by
   intro x hx;have:=List.all_eq_true.1 hmut x hx
   simpa using this
  have hbw:b<w.heap.size:=by
   rcases tG b w.heap.size with h|h
   ·exact h
   ·rw[uj h]at hh;cases hh
  let β:Nat->Value:=λi=>if i=q then u else vs.getD i undef
  have E:β q=u:=tf rfl;have hβ:∀i,i≠q->β i=vs.getD i undef:=λi hi=>tn hi
  have hkv:vs.getD k undef=.pointer (some ⟨b,0,none⟩):=by
   have:=D7 U;simp[this]at U;simp[Array.getD,this,U]
  have r:β k=.pointer (some ⟨b,0,none⟩):=by rw[hβ k (λh=>R h.symm)];exact hkv
  have z:∀i,Ai (enter 0 args (FG fn.ntmps)) i=match args[i]? with|some x=>Mf i x|none=>fD:=by
   intro i;rw[Up];simp only[tE,Uo]
  have H:∀i,(Ai (enter 0 args (FG fn.ntmps)) i).box=.none/\(Ai (enter 0 args (FG fn.ntmps)) i).ver=0:=by
   intro i;rw[z];split
   ·rename_i x hx
    have:=hnm x (tz hx)
    cases x<;>first|exact⟨rfl,rfl⟩|cases this
   ·exact⟨rfl,rfl⟩
  have s:=fe (n:=fn.ntmps) (sz:=sz) (e:=e) (xs:=xs) hkl hq R
  have C:∀i,(Ai (Ba (Ba (FA (enter 0 args (FG fn.ntmps)) k (.ptr k 0 0)) k (.var [.sl q 0]) 0) q (.row sz e xs) 0) i).box.owned=true->i=q\/i=k:=by
   intro i hi;rw[s]at hi;by_cases F:i=q
   ·exact .inl F
   ·by_cases A:i=k
    ·exact .inr A
    ·rw[tn F,tn A,(H i).1]at hi;cases hi
  have hver:∀i,(Ai (Ba (Ba (FA (enter 0 args (FG fn.ntmps)) k (.ptr k 0 0)) k (.var [.sl q 0]) 0) q (.row sz e xs) 0) i).ver=0:=by
   intro i;rw[s];split
   ·rfl
   ·split
    ·rfl
    ·exact(H i).2
  let Xc:Cx:=⟨w.heap.size,λc=>c=b\/Af u=some c,O,λ_=>False,w,β,Ye (M:=λc=>c=b\/Af u=some c) hG⟩
  have hOS:∀c',OS β Xc (Ba (Ba (FA (enter 0 args (FG fn.ntmps)) k (.ptr k 0 0)) k (.var [.sl q 0]) 0) q (.row sz e xs) 0) c'->O c'\/c'=b\/Af u=some c':=by
   intro c' o;rcases o with o|o|⟨i,Q,Y⟩
   ·exact .inl o
   ·exact o.elim
   ·rcases C i Q with rfl|rfl
    ·rw[E]at Y;exact .inr (.inr Y)
    ·rw[r]at Y;simp[Af]at Y;exact .inr (.inl Y.symm)
  have hsim:SimB Xc (λ_=>False) β (Ba (Ba (FA (enter 0 args (FG fn.ntmps)) k (.ptr k 0 0)) k (.var [.sl q 0]) 0) q (.row sz e xs) 0) { tmps:=vs++Array.replicate (fn.ntmps-vs.size) undef,defers:=[] } w:=by
   refine⟨?_,rfl,AA.refl _ _ _,td _,λc' o=>⟨hO c' o,λhm=>?_⟩,(λb hb=>hb.elim),?_,?_,?_,?_,?_,?_⟩
   ·rw[Dc,Dc,IV,MR,Qq];simp[B]
   ·rcases hm with rfl|hm
    ·exact hbO o
    ·exact(huO c' hm).1 o
   ·intro t v hv;rw[s]
    have base:t≠k->Kc β (AM (Ba (Ba (FA (enter 0 args (FG fn.ntmps)) k (.ptr k 0 0)) k (.var [.sl q 0]) 0) q (.row sz e xs) 0)) (OS β Xc (Ba (Ba (FA (enter 0 args (FG fn.ntmps)) k (.ptr k 0 0)) k (.var [.sl q 0]) 0) q (.row sz e xs) 0)) w (vs++Array.replicate (fn.ntmps-vs.size) undef) v (Ai (enter 0 args (FG fn.ntmps)) t).av:=by
     intro _;rw[z];split
     ·rename_i x hx
      have I:t<vs.size:=by rw[B];exact A7 hx
      rw[tL I]at hv;have hr:=G t v x hv hx
      cases x with
      | any=>trivial
      | d y=>exact Ax.mono (B7.of_sub hOS) (show Ax _ w v y from hr)
      | lim sz xs =>
        have hr':Ax (λc=>O c\/c=b\/Af u=some c) w v (.list sz xs)/\Te v=xs.length:=hr;exact⟨hr'.1.mono (B7.of_sub hOS),hr'.2⟩
      | bot|ptr _ _ _|sl _ _|eptr _ _ _ _ _|tup _|under _ _ _|cc _ _|own _ _ _|optr _=>exact hr.elim
     ·trivial
    by_cases F:t=q
    ·subst F;rw[tf rfl];exact base R
    ·rw[tn F];by_cases A:t=k
     ·rw[tf A];subst A;have I:t<vs.size:=by rw[B];exact hkl
      rw[tL I,U]at hv
      cases hv
      exact⟨sZ _,λ_=>⟨b,r,rfl⟩⟩
     ·rw[tn A];exact base A
   ·intro i;rw[s];by_cases F:i=q
    ·rw[tf F,F];exact⟨hsz,hxs,rvals,by rw[E];exact hrr,hrl.mono (B7.of_sub hOS)⟩
    ·rw[tn F];by_cases A:i=k
     ·rw[tf A,A];refine⟨b,#[u],T,r,hh,rfl,λj v c hv hc=>?_⟩
      cases j with
      | zero=>simp at hv hc;subst hv;subst hc;exact⟨sZ _,λ_=>E.symm⟩
      | succ j=>simp at hc
     ·rw[tn A,(H i).1];trivial
   ·intro i c' ho hb;refine⟨.inr ?_,λh=>h⟩;rcases C i ho with rfl|rfl
    ·rw[E]at hb;exact .inr hb
    ·rw[r]at hb;simp[Af]at hb;exact .inl hb.symm
   ·intro i j c' hi hj K L;rcases C i hi with rfl|rfl<;>rcases C j hj with rfl|rfl
    ·rfl
    ·rw[E]at K;rw[r]at L;simp[Af]at L;exact((huO c' K).2 L.symm).elim
    ·rw[E]at L;rw[r]at K;simp[Af]at K;exact((huO c' L).2 K.symm).elim
    ·rfl
   ·intro t g V;rw[s]at V
    have h0:∀i,(Ai (enter 0 args (FG fn.ntmps)) i).av.guards=[]:=by
     intro i;rw[z];split
     ·rename_i x hx
      have I:i<vs.size:=by rw[B];exact A7 hx
      have hr:=G i vs[i] x (by simp[I]) hx
      cases x<;>first|rfl|exact hr.elim
     ·rfl
    by_cases F:t=q
    ·rw[tf F]at V;rw[h0]at V;cases V
    ·rw[tn F]at V;by_cases A:t=k
     ·rw[tf A]at V;cases V
     ·rw[tn A,h0]at V;cases V
   ·intro i _ _;rfl
  refine wp_mono (EF Z c hr hsim) λe' a' w' p=>?_;obtain⟨β',S',p,hs⟩:=p
  have Da:qB S' k q sz e ys->a'.defers=[]/\∃v,(results fn a'.tmps).run P w'=.ok v w'/\∃v' u' T',Ending.returned v=.returned v'/\AA w.heap.size (λc=>c=b\/Af u=some c) w w' /\
   w'.heap[b]?=some (.cells #[u'] T' (0,0))/\(∀c,Af u'=some c->Af u=some c\/w.heap.size<=c)/\(∀x∈ys,x.cells.length=sz) /\
   ∃vals,B0 w' e sz u' ys.length vals/\B3 (λc=>O c\/c=b\/Af u'=some c) w' vals (ys.flatMap D.cells):=by
   intro p;unfold qB at p;split at p<;>try exact p.elim
   rename_i av1 q' n W
   split at p<;>try exact p.elim
   rename_i av2 sz' A xs' m hk2
   obtain⟨rfl,rfl,rfl,rfl,rfl⟩:=p;have hb1:=hs.boxes k;rw[W]at hb1;obtain⟨b1,vals,T1,j1,j2,j3,j4⟩:=hb1;have hini:=hs.ini k (by rw[W]) (by rw[W];simp);have N:β' k=β k:=hini;rw[N,r]at j1;simp only[Value.pointer.injEq,Option.some.injEq,Addr.mk.injEq]at j1;obtain⟨rfl,_⟩:=j1
   obtain⟨u',rfl⟩:∃u',vals=#[u']:=by
    have:vals.size=1:=j3;exact⟨vals[0],by apply Array.ext;simp[this];intro i Q Y;simp at Y;subst Y;rfl⟩
   have hcu:=j4 0 u' (.sl q' n) rfl rfl;have hu':u'=β' q':=hcu.2 (by simp only[AM,hk2]);have hb2:=hs.boxes q';rw[hk2]at hb2;obtain⟨l1,l2,vals2,l3,l4⟩:=hb2;have o1:(Ai S' k).box.owned=true:=by rw[W];rfl
   have o2:(Ai S' q').box.owned=true:=by rw[hk2];rfl
   have hbk:Af (β' k)=some b:=by rw[N,r];rfl
   refine⟨hs.df,.tuple #[],?_,.tuple #[],u',T1,rfl,hs.below,j2,λc' o=>?_,l2,vals2,by rw[hu'];exact l3,l4.mono (B7.of_sub λc' o=>?_)⟩
   ·have:=OJ (P:=P) (w:=w') (a:=a') (fn:=fn) (vs:=[]) (by rw[hres];rfl)
    simpa using this
   ·rw[hu']at o;have:=(hs.mine q' c' o2 o).1;rcases this with Q|Q
    ·exact .inr Q
    ·rcases Q with Q|Q
     ·subst Q;exact(R (hs.inj q' k c' o2 o1 o hbk)).elim
     ·exact .inl Q
   ·rcases o with o|rfl|o
    ·exact .inl o
    ·exact .inr (.inr ⟨k,o1,hbk⟩)
    ·exact .inr (.inr ⟨q',o2,by rw[<-hu'];exact o⟩)
  cases e' with
  | normal=>exact Da p
  | ret=>exact Da p
  | exit id=>exact p.elim
  | goto l=>exact p.elim
  | panic ch=>exact p.elim
  | outgrown=>exact p.elim
 ·exact hr.elim
end
def DT{α:Type}(F:(α->Prop)->Prop):Prop:=(∀K K':α->Prop,(∀x,K x->K' x)->F K->F K')/\∀K,F K->∃x,F (λy=>y=x)/\K x
def Fs{α γ:Type}(F:(α->γ->Prop)->Prop):Prop:=(∀K K':α->γ->Prop,(∀x y,K x y->K' x y)->F K->F K')/\∀K,F K->∃x y,F (λx' y'=>x'=x/\y'=y)/\K x y
section
variable {α γ δ:Type}
theorem Aj(x:α):DT λK:α->Prop=>K x:=⟨λ_ _ h hk=>h _ hk,λ_ hk=>⟨x,rfl,hk⟩⟩
theorem Ag:DT λ_:α->Prop=>False:=⟨λ_ _ _ h=>h,λ_ h=>h.elim⟩
theorem Bn(x:α)(y:γ):Fs λK:α->γ->Prop=>K x y:=⟨λ_ _ h hk=>h _ _ hk,λ_ hk=>⟨x,y,⟨rfl,rfl⟩,hk⟩⟩
theorem Ca:Fs λ_:α->γ->Prop=>False:=⟨λ_ _ _ h=>h,λ_ h=>h.elim⟩
theorem A4{F:(α->Prop)->Prop}{b:α->(γ->Prop)->Prop}(a:DT F)(c:∀x,DT (b x)):DT λK:γ->Prop=>F λx=>b x K:=by
 refine⟨λK j h hk=>a.1 _ _ (λx hx=>(c x).1 _ _ h hx) hk,λK hk=>?_⟩;obtain⟨x,d,e⟩:=a.2 _ hk;obtain⟨y,f,g⟩:=(c x).2 _ e;exact⟨y,a.1 _ _ (λz i=>by subst i;exact f) d,g⟩
theorem Cj{F:(α->γ->Prop)->Prop}{c:α->γ->(δ->Prop)->Prop}(a:Fs F)(d:∀x y,DT (c x y)):DT λK:δ->Prop=>F λx y=>c x y K:=by
 refine⟨λK j h hk=>a.1 _ _ (λx y hx=>(d x y).1 _ _ h hx) hk,λK hk=>?_⟩;obtain⟨x,y,e,f⟩:=a.2 _ hk;obtain⟨z,g,i⟩:=(d x y).2 _ f;exact⟨z,a.1 _ _ (λu v b=>by obtain⟨rfl,rfl⟩:=b;exact g) e,i⟩
theorem B6{ε:Type}{F:(α->γ->Prop)->Prop}{c:α->γ->(δ->ε->Prop)->Prop}(a:Fs F)(d:∀x y,Fs (c x y)):Fs λK:δ->ε->Prop=>F λx y=>c x y K:=by
 refine⟨λK k h hk=>a.1 _ _ (λx y hx=>(d x y).1 _ _ h hx) hk,λK hk=>?_⟩;obtain⟨x,y,e,f⟩:=a.2 _ hk;obtain⟨z,g,i,j⟩:=(d x y).2 _ f;exact⟨z,g,a.1 _ _ (λu v b=>by obtain⟨rfl,rfl⟩:=b;exact i) e,j⟩
theorem CC{F:(α->Prop)->Prop}(p:Prop)(a:DT F):DT λK:α->Prop=>Kb p (F K):=by
 refine⟨λK d h hk=>⟨hk.1,a.1 _ _ h hk.2⟩,λK hk=>?_⟩;obtain⟨x,b,c⟩:=a.2 _ hk.2;exact⟨x,⟨hk.1,b⟩,c⟩
theorem Bp{F:(α->Prop)->Prop}(c:Prop)[Decidable c](a:DT F):DT λK:α->Prop=>if c then F K else False:=by
 by_cases h:c
 ·simp only[h,if_true];exact a
 ·simp only[h,if_false];exact Ag
theorem S5(xs:List D)(i:Int):DT λK:D->Prop=>At xs i K :=
 ⟨λ_ _ h hk=>by obtain⟨a,x,b,c⟩:=hk.go;exact⟨⟨a,x,b,h _ c⟩⟩,λ_ hk=>by obtain⟨a,x,b,c⟩:=hk.go;exact⟨x,⟨⟨a,x,b,rfl⟩⟩,c⟩⟩
theorem Mj{F d:(α->Prop)->Prop}(e:DT F)(a:DT d):DT λK:α->Prop=>TG (F K) (d K):=by
 refine⟨λK f h hk=>⟨hk.go.imp (e.1 _ _ h) (a.1 _ _ h)⟩,λK hk=>?_⟩;rcases hk.go with hk|hk
 ·obtain⟨x,b,c⟩:=e.2 _ hk;exact⟨x,⟨.inl b⟩,c⟩
 ·obtain⟨x,b,c⟩:=a.2 _ hk;exact⟨x,⟨.inr b⟩,c⟩
theorem gk{F:List (Nat×Nat)->(α->Prop)->Prop}(b:∀a,DT (F a)):DT λK:α->Prop=>pM λa=>F a K:=by
 refine⟨λK e h hk=>?_,λK hk=>?_⟩
 ·obtain⟨a,hk⟩:=hk.go;exact⟨⟨a,(b a).1 _ _ h hk⟩⟩
 ·obtain⟨a,hk⟩:=hk.go;obtain⟨x,c,d⟩:=(b a).2 _ hk;exact⟨x,⟨⟨a,c⟩⟩,d⟩
theorem jX{P:Program}{f:FuncId}{c:List Nat}{vs k:List AV}{F:AV->(α->Prop)->Prop}{i:List AV->AV->(α->Prop)->Prop}(j:∀r,DT (F r))(d:∀o r,DT (i o r)) :
 DT λK:α->Prop=>Iv P f c vs (λr=>F r K) k (λo r=>i o r K):=by
 refine⟨λK l h hk=>?_,λK hk=>?_⟩
 ·rcases hk.go with⟨r,a,b⟩|⟨o,r,a,b⟩
  ·exact⟨.inl ⟨r,a,(j r).1 _ _ h b⟩⟩
  ·exact⟨.inr ⟨o,r,a,(d o r).1 _ _ h b⟩⟩
 ·rcases hk.go with⟨r,a,b⟩|⟨o,r,a,b⟩
  ·obtain⟨x,e,g⟩:=(j r).2 _ b;exact⟨x,⟨.inl ⟨r,a,e⟩⟩,g⟩
  ·obtain⟨x,e,g⟩:=(d o r).2 _ b;exact⟨x,⟨.inr ⟨o,r,a,e⟩⟩,g⟩
theorem I6{F:(α->Prop)->Prop}{b:α->(γ->δ->Prop)->Prop}(a:DT F)(c:∀x,Fs (b x)):Fs λK:γ->δ->Prop=>F λx=>b x K:=by
 refine⟨λK j h hk=>a.1 _ _ (λx hx=>(c x).1 _ _ h hx) hk,λK hk=>?_⟩;obtain⟨x,d,e⟩:=a.2 _ hk;obtain⟨y,z,f,g⟩:=(c x).2 _ e;exact⟨y,z,a.1 _ _ (λu i=>by subst i;exact f) d,g⟩
theorem S4{F:(α->γ->Prop)->Prop}(c:Prop)[Decidable c](a:Fs F):Fs λK:α->γ->Prop=>if c then F K else False:=by
 by_cases h:c
 ·simp only[h,if_true];exact a
 ·simp only[h,if_false];exact Ca
def Nu{α γ δ:Type}(F:(α->γ->δ->Prop)->Prop):Prop:=(∀K K':α->γ->δ->Prop,(∀x y z,K x y z->K' x y z)->F K->F K')/\∀K,F K->∃x y z,F (λx' y' z'=>x'=x/\y'=y/\z'=z)/\K x y z
theorem F2(x:α)(y:γ)(z:δ):Nu λK:α->γ->δ->Prop=>K x y z:=⟨λ_ _ h hk=>h _ _ _ hk,λ_ hk=>⟨x,y,z,⟨rfl,rfl,rfl⟩,hk⟩⟩
theorem I7:Nu λ_:α->γ->δ->Prop=>False:=⟨λ_ _ _ h=>h,λ_ h=>h.elim⟩
theorem Yf{ε:Type}{F:(α->γ->δ->Prop)->Prop}{e:α->γ->δ->(ε->Prop)->Prop}(d:Nu F)(f:∀x y z,DT (e x y z)):DT λK:ε->Prop=>F λx y z=>e x y z K:=by
 refine⟨λK l h hk=>d.1 _ _ (λx y z hx=>(f x y z).1 _ _ h hx) hk,λK hk=>?_⟩;obtain⟨x,y,z,g,i⟩:=d.2 _ hk;obtain⟨u,j,k⟩:=(f x y z).2 _ i;exact⟨u,d.1 _ _ (λa b c h=>by obtain⟨rfl,rfl,rfl⟩:=h;exact j) g,k⟩
theorem Mi{ε ζ η:Type}{F:(α->γ->δ->Prop)->Prop}{e:α->γ->δ->(ε->ζ->η->Prop)->Prop}(d:Nu F)(f:∀x y z,Nu (e x y z)):Nu λK:ε->ζ->η->Prop=>F λx y z=>e x y z K:=by
 refine⟨λK l h hk=>d.1 _ _ (λx y z hx=>(f x y z).1 _ _ h hx) hk,λK hk=>?_⟩;obtain⟨x,y,z,g,i⟩:=d.2 _ hk;obtain⟨u,v,t,j,k⟩:=(f x y z).2 _ i;exact⟨u,v,t,d.1 _ _ (λa b c h=>by obtain⟨rfl,rfl,rfl⟩:=h;exact j) g,k⟩
theorem Rr{ε ζ η:Type}{F:(α->γ->Prop)->Prop}{d:α->γ->(ε->ζ->η->Prop)->Prop}(c:Fs F)(e:∀x y,Nu (d x y)):Nu λK:ε->ζ->η->Prop=>F λx y=>d x y K:=by
 refine⟨λK k h hk=>c.1 _ _ (λx y hx=>(e x y).1 _ _ h hx) hk,λK hk=>?_⟩;obtain⟨x,y,f,g⟩:=c.2 _ hk;obtain⟨u,v,t,i,j⟩:=(e x y).2 _ g;exact⟨u,v,t,c.1 _ _ (λa b h=>by obtain⟨rfl,rfl⟩:=h;exact i) f,j⟩
theorem TX{ε ζ η:Type}{F:(α->Prop)->Prop}{c:α->(ε->ζ->η->Prop)->Prop}(b:DT F)(d:∀x,Nu (c x)):Nu λK:ε->ζ->η->Prop=>F λx=>c x K:=by
 refine⟨λK j h hk=>b.1 _ _ (λx hx=>(d x).1 _ _ h hx) hk,λK hk=>?_⟩;obtain⟨x,e,f⟩:=b.2 _ hk;obtain⟨u,v,t,g,i⟩:=(d x).2 _ f;exact⟨u,v,t,b.1 _ _ (λa h=>by subst h;exact g) e,i⟩
theorem Co{β:Type}(l:List β):DT λK:List β->Prop=>CU l K:=by simp only[BN];exact Aj l
end
theorem Lv:∀l:List D,DT λK=>PD l K
 | []=>Aj _
 | x :: r=>by
   unfold PD;refine A4 (Lv r) λr=>?_;split<;>exact Aj _
theorem Lw(x:D):DT λK=>QK x K:=by
 cases x<;>simp only[QK]<;>first|exact Aj _|exact A4 (Lv _) λl=>Aj _
theorem P4(r:RV):Fs λK=>Z3 r K:=by cases r<;>simp only[Z3]<;>first|exact Bn _ _|exact Ca
theorem dL(r:RV):Fs λK=>pS r K:=by
 unfold pS;exact B6 (P4 r) λx b=>I6 (Lw x) λy=>Bn _ _
theorem I8(σ:Nat->Nat->RV):∀l,Fs λK=>Ef σ l K
 | []=>Bn _ _
 | .d x :: r=>by
   show Fs λK=>Ef σ r λl b=>K (x :: l) b;exact B6 (I8 σ r) λl b=>Bn _ _
 | .sl id n :: r=>by
   show Fs λK=>Z3 (σ id n) λx b=>Ef σ r λl a=>K (x :: l) (b++a);exact B6 (P4 _) λx b=>B6 (I8 σ r) λl b=>Bn _ _
 | .own _ _ _ :: _=>Ca
theorem Mk:∀l:List D,DT λK=>cA l K
 | []=>Aj _
 | x :: r=>by
   show DT λK=>cA r λr=>K (.d x :: r);exact A4 (Mk r) λr=>Aj _
theorem Yh:∀l:List D,DT λK=>XD l K
 | []=>Aj _
 | x :: r=>by
   show DT λK=>XD r λr=>K (.d x :: r);exact A4 (Yh r) λr=>Aj _
theorem NK(σ:Nat->Nat->RV)(r:RV):Fs λK=>Nx σ r K:=by
 cases r<;>simp only[Nx]<;>first|exact Bn _ _|exact Ca|skip
 ·exact I6 (Lw _) λx=>Bn _ _
 ·exact B6 (I8 σ _) λl b=>I6 (Lv _) λl=>I6 (Co _) λa=>Bn _ _
 ·exact I6 (S5 _ _) λx=>I6 (Co _) λl=>Bn _ _
 ·exact B6 (I8 σ _) λl b=>I6 (Lv _) λl=>Bn _ _
theorem Yj(P:Program)(t:TypeId):DT λK=>ZV P t K:=by
 unfold ZV;split
 ·exact Aj _
 ·exact Ag
theorem O8(P:Program)(σ:Nat->Nat->RV)(ρ:Operand->RV):∀l ts,Fs λK=>Iw P σ ρ l ts K
 | [],_=>Bn _ _
 | x :: r,ts=>by
   unfold Iw;split
   ·split
    ·exact I6 (Yj _ _) λv=>B6 (O8 P σ ρ r _) λvs a=>Bn _ _
    ·exact Ca
   ·exact B6 (NK _ _) λv b=>B6 (O8 P σ ρ r _) λvs a=>Bn _ _
theorem ZN(σ:Nat->Nat->RV):∀l,Nu λK=>SQ σ l K
 | []=>I7
 | .d x :: r=>by
   show Nu λK=>QK x λx=>SQ σ r λl id n=>K (.d x :: l) id n;exact TX (Lw _) λx=>Mi (ZN σ r) λl id n=>F2 _ _ _
 | .sl id n :: r=>by
   simp only[SQ];split
   ·split
    ·exact F2 _ _ _
    ·exact I7
   ·exact I7
 | .own _ _ _ :: _=>I7
theorem Ub:∀l,Nu λK=>WJ l K
 | []=>I7
 | .d _ :: r=>Ub r
 | .sl _ _ :: r=>Ub r
 | .own sz e xs :: r=>by
   simp only[WJ];split
   ·exact F2 _ _ _
   ·exact I7
theorem dN(σ:Nat->Nat->RV)(r:RV):Nu λK=>Ue σ r K:=by
 unfold Ue;split
 ·exact F2 _ _ _
 ·exact Rr (I8 σ _) λl b=>TX (Lv _) λl=>F2 _ _ _
 ·split
  ·exact Mi (ZN σ _) λl id n=>F2 _ _ _
  ·exact Rr (NK σ _) λv b=>F2 _ _ _
 ·exact Rr (NK σ _) λv b=>F2 _ _ _
theorem Qj(P:Program)(σ:Nat->Nat->RV)(ρ:Operand->RV):∀l ts,Nu λK=>Ho P σ ρ l ts K
 | [],_=>F2 _ _ _
 | x :: r,ts=>by
   unfold Ho;split
   ·split
    ·exact TX (Yj _ _) λv=>Mi (Qj P σ ρ r _) λvs a us=>F2 _ _ _
    ·exact I7
   ·exact Mi (dN _ _) λv b u=>Mi (Qj P σ ρ r _) λvs a us=>F2 _ _ _
theorem Rw(ρ:Operand->RV):∀l,Fs λK=>M1 ρ l K
 | []=>Bn _ _
 | (i,x) :: r=>by
   show Fs λK=>Z3 (ρ x) λv b=>M1 ρ r λvs a=>K ((i,v) :: vs) (b++a);exact B6 (P4 (ρ x)) λv b=>B6 (Rw ρ r) λvs a=>Bn _ _
theorem WH(ρ:Operand->RV):∀l,Fs λK=>NW ρ l K
 | []=>Bn _ _
 | (i,x) :: r=>by
   show Fs λK=>pS (ρ x) λv b=>NW ρ r λvs a=>K ((i,v) :: vs) (b++a);exact B6 (dL (ρ x)) λv b=>B6 (WH ρ r) λvs a=>Bn _ _
theorem Rt(σ:Nat->Nat->RV)(ρ:Operand->RV):∀l,Fs λK=>JA σ ρ l K
 | []=>Bn _ _
 | x :: r=>by
   unfold JA;refine B6 (NK σ (ρ x)) λv b=>?_;split
   ·exact S4 _ (B6 (Rt σ ρ r) λl a=>Bn _ _)
   ·exact Ca
theorem Rs(σ:Nat->Nat->RV)(ρ:Operand->RV):∀l,Fs λK=>J9 σ ρ l K
 | []=>Bn _ _
 | x :: r=>by
   unfold J9;split
   ·exact B6 (Rs σ ρ r) λl a=>Bn _ _
   ·refine B6 (NK σ (ρ x)) λv b=>?_;split
    ·exact S4 _ (B6 (Rs σ ρ r) λl a=>Bn _ _)
    ·exact Ca
theorem bu(r:RV):DT λK=>cellsOf r K:=by
 cases r<;>simp only[cellsOf]<;>first|exact Aj _|exact Ag|exact Mk _
theorem WG(ρ:Operand->RV):∀l,DT λK=>NU ρ l K
 | []=>Aj _
 | (i,x) :: r=>by
   unfold NU;exact A4 (bu _) λc=>A4 (WG ρ r) λa=>Aj _
theorem gp(P:Program)(f:FuncId)(args:List AV)(k sz:Nat)(e:TypeId)(xs:List D):DT λK=>cG P f args k sz e xs K :=
 ⟨λ_ _ h hk=>by obtain⟨ys,a,b⟩:=hk.go;exact⟨⟨ys,a,h _ b⟩⟩,λ_ hk=>by obtain⟨ys,a,b⟩:=hk.go;exact⟨ys,⟨⟨ys,a,rfl⟩⟩,b⟩⟩
theorem gj(P:Program)(f:FuncId)(args:List AV)(k:Nat)(cs:List C):Fs λK=>lr P f args k cs K :=
 ⟨λ_ _ h hk=>by obtain⟨a,r,b,c⟩:=hk.go;exact⟨⟨a,r,b,h _ _ c⟩⟩,λ_ hk=>by obtain⟨a,r,b,c⟩:=hk.go;exact⟨a,r,⟨⟨a,r,b,rfl,rfl⟩⟩,c⟩⟩
theorem TY(ρ:Operand->RV)(k:Nat):∀l i,DT λK=>NJ ρ k l i K
 | [],_=>Aj _
 | x :: r,i=>by
   unfold NJ;split
   ·exact A4 (TY ρ k r _) λl=>Aj _
   ·split
    ·exact A4 (Lw _) λy=>A4 (TY ρ k r _) λl=>Aj _
    ·exact Ag
theorem Ru(σ:Nat->Nat->RV):∀l,DT λK=>Ji σ l K
 | []=>Aj _
 | c :: r=>by
   unfold Ji;split
   ·exact A4 (Lw _) λx=>A4 (Ru σ r) λl=>Aj _
   ·split
    ·exact A4 (Ru σ r) λl=>Aj _
    ·exact Ag
   ·exact Ag
theorem TZ:∀l a,Fs λK=>Tj l a K
 | [],[]=>Bn _ _
 | [],c :: r=>by cases c<;>exact Ca
 | c :: r,[]=>by cases c<;>exact Ca
 | c :: r,c' :: r'=>by
   cases c with
   | own _ _ _=>cases c'<;>exact Ca
   | d x =>
     cases c' with
     | sl _ _=>exact Ca
     | own _ _ _=>exact Ca
     | d y =>
       show Fs λK=>Tj r r' λl b=>K (.d y :: l) b;exact B6 (TZ r r') λl b=>Bn _ _
   | sl q n =>
     cases c' with
     | sl _ _=>exact Ca
     | d _=>exact Ca
     | own sz e ys =>
       show Fs λK=>Tj r r' λl b=>if FH q b=true then K (.sl q (n+1) :: l) ((q,.row sz e ys,n+1) :: b)else False
       exact B6 (TZ r r') λl b=>S4 (FH q b=true) (Bn (C.sl q (n+1) :: l) ((q,BA.row sz e ys,n+1) :: b))
theorem mw{α:Type}{F:(α->Prop)->Prop}(c:Prop)[Decidable c](a:DT F):DT λK:α->Prop=>if c then False else F K:=by
 by_cases h:c
 ·simp only[h,if_true];exact Ag
 ·simp only[h,if_false];exact a
theorem WF(r:RV):Fs λK=>OZ r K:=by
 unfold OZ;split<;>first|exact Bn _ _|exact Ca
theorem UK(P:Program)(t:TypeId)(cs:List D):DT λK=>dZ P t cs K:=by
 unfold dZ;split
 ·split
  ·exact A4 (Co _) λl=>Bp _ (Aj _)
  ·exact Ag
 ·split
  ·exact Aj _
  ·exact Ag
 ·exact Ag
theorem mu(P:Program)(σ:Nat->Nat->RV)(t:TypeId)(cs:List C):DT λK=>o0 P σ t cs K:=by
 unfold o0;split
 ·split
  ·refine A4 (Co _) λl=>Bp _ ?_;split
   ·exact Cj (I8 σ _) λl b=>Aj _
   ·exact Mj (Cj (I8 σ _) λl b=>Aj _) (Bp _ (Aj _))
  ·exact Ag
 ·split<;>first|exact Aj _|exact Ag
 ·exact Ag
theorem gi(op:BinOp)(k:IntKind)(a b:Int):DT λK=>X7 op k a b K:=by
 cases op<;>simp only[X7]<;>first|exact Aj _|exact Ag|exact CC _ (Aj _)
theorem WI(op:BinOp)(k:IntKind)(a b:Int):DT λK=>VZ op k a b K:=by
 cases op<;>simp only[VZ]<;>first|exact CC _ (Aj _)|exact Ag
theorem jY(op:BinOp)(a b:ByteArray):DT λK=>gY op a b K:=by
 cases op<;>simp only[gY]<;>first|exact Aj _|exact Ag|exact CC _ (Aj _)
theorem Yi(P:Program):∀(n:Nat)(t:TypeId)(xs ys:List D),DT λK=>dz P n t xs ys K
 | 0,_,_,_=>Ag
 | n+1,t,xs,ys=>by
   unfold dz;split
   ·split
    ·exact Bp _ (Aj _)
    ·exact Ag
   ·split
    ·exact Aj _
    ·exact Ag
   ·split
    ·exact Aj _
    ·exact Ag
   ·rename_i c _
    refine CC _ ?_;generalize c.toList=l
    induction l with
    | nil=>exact Aj _
    | cons f r ih=>exact A4 (Yi P n f.type _ _) λa=>A4 ih λb=>Aj _
   ·exact Ag
theorem jW(P:Program)(t:TypeId)(op:BinOp)(x y:D):DT λK=>cN P t op x y K:=by
 unfold cN;split
 ·split
  ·exact WI _ _ _ _
  ·exact WI _ _ _ _
  ·exact Bp _ (gi _ _ _ _)
 ·exact jY _ _ _
 ·split
  ·split<;>first|exact Aj _|exact Ag
  ·exact Ag
 ·refine CC _ ?_;split
  ·exact A4 (Yi _ _ _ _ _) λb=>Aj _
  ·exact A4 (Yi _ _ _ _ _) λb=>Aj _
  ·exact Ag
 ·exact Ag
theorem my(op:UnOp)(x:D):DT λK=>re op x K:=by
 cases op<;>cases x<;>simp only[re]<;>first|exact Aj _|exact Ag
theorem gm(r:AV)(b:Bx):DT λK=>ep r b K:=by
 unfold ep;split
 ·exact Aj _
 ·split<;>exact Aj _
theorem Ua:∀(l:List C)(a:List (Nat×Nat)),Fs λK=>Tl l a K
 | [],[]=>Bn _ _
 | .d x :: r,a=>by
   unfold Tl;exact B6 (Ua r a) λl b=>Bn _ _
 | .own sz e xs :: r,(h,n) :: a=>by
   unfold Tl;exact B6 (Ua r a) λl b=>S4 _ (Bn _ _)
 | [],_ :: _=>Ca
 | .own _ _ _ :: _,[]=>Ca
 | .sl _ _ :: _,a=>by unfold Tl;exact Ca
theorem dM(d n:Nat)(r:AV)(b:Bx):DT λK=>kf d n r b K:=by
 unfold kf;split
 ·exact Bp _ (Aj _)
 ·exact Bp _ (A4 (Mk _) λl=>Aj _)
 ·split
  ·exact Aj _
  ·exact gk λa=>Cj (Ua _ _) λl c=>Bp _ (Aj _)
 ·split
  ·exact Bp _ (Aj _)
  ·exact Ag
 all_goals first|exact Aj _|exact Ag
theorem NL:∀(us:List (Option (Nat×Nat)))(os:List AV),DT λK=>MB us os K
 | [],[]=>Aj _
 | none :: us,o :: os=>by
   unfold MB;exact NL us os
 | some (id,n) :: us,o :: os=>by
   cases o<;>simp only[MB]<;>first|exact Ag|exact A4 (NL us os) (λb=>Bp _ (Aj _))|exact A4 (Mk _) λl=>A4 (NL us os) (λb=>Bp _ (Aj _))|exact Yf (Ub _) λ_ _ _=>A4 (NL us os) (λb=>Bp _ (Aj _))
 | [],_ :: _=>by simp only[MB];exact Ag
 | _ :: _,[]=>by simp only[MB];exact Ag
theorem gq(P:Program)(t:TypeId):DT λK=>au P t K:=by
 unfold au;split
 ·split
  ·exact A4 (Lv _) λl=>Aj _
  ·split
   ·exact Lw _
   ·exact Ag
  ·exact Ag
 ·exact Ag
theorem Rv(ρ:Operand->RV)(x:Option Operand)(n:Int):DT λK=>fC ρ x n K:=by
 unfold fC;split
 ·exact Aj _
 ·split
  ·exact Aj _
  ·exact Ag
theorem O9(ρ:Operand->RV)(sz:Nat)(xs:List D)(lo a d:Option Operand)(b:Bx):DT λK=>M6 ρ sz xs lo a d b K:=by
 unfold M6;refine A4 (Rv _ _ _) λl=>A4 (Rv _ _ _) λh=>?_;split
 ·exact CC _ (Aj _)
 ·by_cases c:a.isNone=true
  ·simp only[c,if_true];exact Ag
  ·simp only[c,uk,if_false];split
   ·exact CC _ (Aj _)
   ·exact Ag
theorem Zi(r:Option D)(z:D):Fs λK=>Uu r z K :=
 ⟨λ_ _ h hk=>by obtain⟨v,b,a,c,d⟩:=hk.go;exact⟨⟨v,b,a,c,h _ _ d⟩⟩,λ_ hk=>by obtain⟨v,b,a,c,d⟩:=hk.go;exact⟨v,b,⟨⟨v,b,a,c,⟨rfl,rfl⟩⟩⟩,d⟩⟩
theorem gn(P:Program)(a c:TypeId)(x d:RV)(ok:Bool):DT λK=>iU P a c x d ok K:=by
 unfold iU;split
 ·split
  ·split
   ·refine CC _ ?_;split
    ·refine Cj (Zi _ _) λv b=>?_;split
     ·exact Aj _
     ·exact Aj _
    ·exact Ag
   ·exact Ag
  ·exact Ag
 ·exact Ag
theorem jZ(P:Program)(a:TypeId)(m k x:RV):DT λK=>pG P a m k x K:=by
 unfold pG;split
 ·split
  ·split
   ·split
    ·exact CC _ (Aj _)
    ·exact Ag
   ·exact Ag
  ·exact Ag
 ·exact Ag
set_option maxHeartbeats 1000000 in
theorem Yg(P:Program)(σ:Nat->Nat->RV)(ρ:Operand->RV)(c:Call)(f:FuncId)(a:List D)(d dv:Nat):DT λK=>U1 P σ ρ c f a d dv K:=by
 unfold U1;refine A4 (Yh _) λcv=>Cj (O8 _ _ _ _ _) λvs e=>Yf (Qj _ _ _ _ _) λg h us=>?_;exact jX (λr=>A4 (gm _ _) λb=>dM _ _ _ _) λo r=>A4 (NL _ _) λub=>Bp _ (dM _ _ _ _)
theorem iK(P:Program)(σ:Nat->Nat->RV)(ρ:Option (Nat×Bool)->Operand->RV)(g:Option (Nat×Bool))(o:Oper)(d n:Nat):DT λK=>yA P σ ρ g o d n K:=by
 unfold yA;split
 ·exact Aj _
 ·split
  ·split
   ·exact Bp _ (Aj _)
   ·exact Ag
  ·exact Aj _
 ·split
  ·exact Aj _
  ·split
   ·split
    ·exact Aj _
    ·exact Ag
   ·split
    ·exact Aj _
    ·exact Aj _
    ·exact Ag
   ·exact Ag
  ·exact Ag
 ·split
  ·exact Aj _
  ·exact Aj _
  ·exact Cj (P4 _) λv b=>A4 (Mk _) λl=>Aj _
 ·split
  ·exact A4 (Mk _) λl=>Aj _
  ·exact Ag
 ·split
  ·split
   ·refine Bp _ ?_;split
    ·refine Cj (Rw _ _) λa b=>?_;split
     ·exact A4 (Co _) λl=>Aj _
     ·exact Ag
    ·refine Mj ?_ ?_
     ·refine Cj (Rw _ _) λa b=>?_;split
      ·exact A4 (Co _) λl=>Aj _
      ·exact Ag
     ·refine A4 (Mk _) λf=>A4 (WG _ _) λa=>?_;split
      ·exact A4 (Co _) λl=>Aj _
      ·exact Ag
   ·exact Ag
  ·exact Ag
 ·split
  ·refine Cj (WH _ _) λa b=>?_;split
   ·exact A4 (Co _) λl=>Bp _ (Aj _)
   ·exact Ag
  ·exact Ag
 ·split
  ·split
   ·split
    ·exact Bp _ (A4 (gq _ _) λz=>CC _ (Aj _))
    ·exact Ag
   ·exact Ag
  ·exact Ag
 ·split
  ·split
   ·exact Cj (Rt _ _ _) λl b=>Aj _
   ·exact Mj (Cj (Rt _ _ _) λl b=>Aj _) (Cj (Rs _ _ _) λl b=>Aj _)
  ·exact Ag
 ·split
  ·exact Aj _
  ·exact mu _ _ _ _
  ·exact A4 (UK _ _ _) λx=>Aj _
  ·exact A4 (S5 _ _) λx=>A4 (UK _ _ _) λx=>Aj _
  ·exact Ag
 ·refine Bp _ ?_;split
  ·split
   ·split
    ·exact Bp _ (A4 (Co _) λl=>Aj _)
    ·exact Cj (P4 _) λv b=>Bp _ (A4 (Mk _) λl=>A4 (Co _) λl=>Aj _)
   ·refine Bp _ ?_;split
    ·exact A4 (Co _) λl=>Aj _
    ·exact Cj (P4 _) λv b=>Bp _ (A4 (Co _) λl=>Aj _)
   ·exact Ag
  ·refine Cj (dL _) λv b=>A4 (S5 _ _) λy=>Bp _ ?_;split
   ·exact A4 (Co _) λl=>Aj _
   ·exact Bp _ (Aj _)
  ·exact Ag
 ·split<;>first|exact Aj _|exact Ag
 ·split
  ·exact Aj _
  ·split
   ·exact Aj _
   ·exact A4 (jW _ _ _ _ _) λx=>Aj _
   ·exact Ag
  ·exact Ag
 ·split
  ·exact Aj _
  ·exact A4 (my _ _) λx=>Aj _
  ·exact Ag
 ·split
  ·split
   ·split<;>first|exact Aj _|exact Ag
   ·split<;>first|exact Aj _|exact Ag
   ·split
    ·split<;>first|exact Aj _|exact Ag
    ·exact Ag
   ·exact Ag
  ·exact Ag
 ·split
  ·split
   ·refine Bp _ ?_;split
    ·exact Aj _
    ·exact Aj _
    ·exact A4 (Co _) λl=>Aj _
    ·exact Aj _
    ·exact Ag
   ·exact Ag
  ·exact Ag
 ·split
  ·split
   ·split
    ·exact Aj _
    ·exact A4 (UK _ _ _) λx=>Aj _
    ·exact Ag
   ·exact Ag
  ·exact Ag
 ·split
  ·split
   ·split
    ·exact Bp _ (A4 (S5 _ _) λx=>A4 (Co _) λl=>Aj _)
    ·exact Bp _ (A4 (S5 _ _) λx=>A4 (Co _) λl=>Aj _)
    ·exact Bp _ (CC _ (Aj _))
    ·exact Ag
   ·exact Ag
  ·split
   ·split
    ·exact Bp _ (CC _ (A4 (S5 _ _) λx=>Aj _))
    ·exact Bp _ (CC _ (Aj _))
    ·exact Ag
   ·exact Ag
  ·exact Ag
 ·split
  ·split
   ·split
    ·exact Bp _ (CC _ (A4 (UK _ _ _) λx=>Aj _))
    ·exact Ag
   ·exact Ag
  ·split
   ·split
    ·exact CC _ (Aj _)
    ·exact Ag
   ·exact Ag
  ·exact Ag
 ·split
  ·split
   ·split
    ·exact A4 (Rv _ _ _) λl=>A4 (Rv _ _ _) λh=>CC _ (Aj _)
    ·exact Ag
   ·exact Ag
  ·split
   ·exact Bp _ (O9 _ _ _ _ _ _ _)
   ·exact Bp _ (O9 _ _ _ _ _ _ _)
   ·exact Bp _ (O9 _ _ _ _ _ _ _)
   ·refine Bp _ (Mj (O9 _ _ _ _ _ _ _) ?_);split
    ·split
     ·exact A4 (Rv _ _ _) λh=>CC _ (Aj _)
     ·exact Ag
    ·exact Ag
   ·exact Ag
  ·exact Ag
 ·split
  ·split
   ·split
    ·exact Yg _ _ _ _ _ _ _ _
    ·refine Mj ?_ (Yg _ _ _ _ _ _ _ _);split
     ·exact A4 (TY _ _ _ _) λvs=>A4 (Ru _ _) λcs=>Cj (gj _ _ _ _ _) λc r=>Cj (TZ _ _) λl ub=>Bp _ (Aj _)
     ·exact Ag
   ·split
    ·refine Cj (O8 _ _ _ _ _) λvs i=>?_;split
     ·exact A4 (Co _) λcv=>A4 (gp _ _ _ _ _ _ _) λys=>mw _ (Aj _)
     ·exact Ag
    ·exact Ag
   ·exact Ag
  ·split
   ·split
    ·split<;>first|exact Aj _|exact Ag
    ·split
     ·exact Aj _
     ·exact Cj (WF _) λ_ xs=>Aj _
    ·exact Ag
   ·exact Ag
  ·split
   ·split
    ·split<;>first|exact Aj _|exact Ag
    ·exact Ag
   ·exact Ag
  ·split
   ·split
    ·split<;>first|exact Aj _|exact Ag
    ·exact Ag
   ·exact Ag
  ·split
   ·split
    ·refine Bp _ (Cj (WF _) λe ys=>?_);dsimp only;split
     ·exact Bp _ (CC _ (Aj _))
     ·exact CC _ (Aj _)
     ·exact Bp _ (CC _ (Aj _))
     ·exact Ag
    ·exact Ag
   ·exact Ag
  ·exact Ag
 ·split
  ·split<;>first|exact Aj _|exact Ag
  ·exact Ag
 ·split
  ·exact Aj _
  ·exact Ag
 ·split
  ·exact gn _ _ _ _ _ _
  ·exact Ag
 ·split
  ·exact jZ _ _ _ _ _
  ·exact Ag
 ·exact Ag
def az(σ σ':Nat->Nat->RV)(r:RV):Prop:=(∀id n o cs,r=.vptr id n o cs->∀id' n',C.sl id' n'∈cs->σ id' n'=σ' id' n')/\(∀f cs k id n rid rn,r=.clo f cs k id n rid rn->σ rid rn=σ' rid rn)/\∀cs,r=.cagg cs->∀id' n',C.sl id' n'∈cs->σ id' n'=σ' id' n'
section
variable {P:Program} {σ σ':Nat->Nat->RV} {ρ ρ':Operand->RV}
theorem IL:∀{l:List C}{K:List D->Bx->Prop},(∀id n,C.sl id n∈l->σ id n=σ' id n)->Ef σ l K=Ef σ' l K
 | [],_,_=>rfl
 | .d x :: r,K,h=>by
   simp only[Ef];exact IL λid n hm=>h id n (by simp[hm])
 | .sl id n :: r,K,h=>by
   simp only[Ef];rw[h id n (by simp)];congr 1;funext x b;exact IL λid n hm=>h id n (by simp[hm])
 | .own _ _ _ :: _,_,_=>rfl
theorem LZ{r:RV}{K:AV->Bx->Prop}(h:az σ σ' r):Nx σ r K=Nx σ' r K:=by
 cases r<;>try rfl
 case vptr id n o cs=>exact IL (h.1 id n o cs rfl)
 case cagg cs=>exact IL (h.2.2 cs rfl)
theorem X5:∀{l:List C}{K:List C->Nat->Nat->Prop},(∀id n,C.sl id n∈l->σ id n=σ' id n)->SQ σ l K=SQ σ' l K
 | [],_,_=>rfl
 | .d x :: r,K,h=>by
   have ih:∀{K:List C->Nat->Nat->Prop},SQ σ r K=SQ σ' r K:=X5 λid n hm=>h id n (by simp[hm]);simp only[SQ,ih]
 | .sl id n :: r,K,h=>by
   simp only[SQ];rw[h id n (by simp)]
 | .own _ _ _ :: _,_,_=>rfl
theorem bF{r:RV}{K:AV->Bx->Option (Nat×Nat)->Prop}(h:az σ σ' r):Ue σ r K=Ue σ' r K:=by
 cases r<;>try rfl
 case cagg cs =>
  show(match Yp cs with|true=>SQ σ cs λl id n=>K (.cc none l) [] (some (id,n))|false=>Nx σ (.cagg cs) λv b=>K v b none)=(match Yp cs with|true=>SQ σ' cs λl id n=>K (.cc none l) [] (some (id,n))|false=>Nx σ' (.cagg cs) λv b=>K v b none)
  cases Yp cs with
  | true=>exact X5 (h.2.2 cs rfl)
  | false=>exact LZ h
 case vptr id n o cs =>
  cases o with
  | zero=>exact IL (h.1 id n 0 cs rfl)
  | succ o =>
    show Nx σ (.vptr id n (o+1) cs) (λv b=>K v b none)=Nx σ' (.vptr id n (o+1) cs) (λv b=>K v b none);exact LZ h
theorem U0:∀{l:List Operand}{ts:List TypeId}{K:List AV->Bx->Prop},(∀x∈l,ρ x=ρ' x/\az σ σ' (ρ' x))->Iw P σ ρ l ts K=Iw P σ' ρ' l ts K
 | [],_,_,_=>rfl
 | x :: r,ts,K,h=>by
   have ih:∀{ts:List TypeId}{K:List AV->Bx->Prop},Iw P σ ρ r ts K=Iw P σ' ρ' r ts K:=U0 λy hy=>h y (by simp[hy]);simp only[Iw,ih];rw[(h x (by simp)).1,LZ (h x (by simp)).2]
theorem To:∀{l:List Operand}{ts:List TypeId}{K:List AV->Bx->List (Option (Nat×Nat))->Prop},(∀x∈l,ρ x=ρ' x/\az σ σ' (ρ' x))->Ho P σ ρ l ts K=Ho P σ' ρ' l ts K
 | [],_,_,_=>rfl
 | x :: r,ts,K,h=>by
   have ih:∀{ts:List TypeId}{K:List AV->Bx->List (Option (Nat×Nat))->Prop},Ho P σ ρ r ts K=Ho P σ' ρ' r ts K:=To λy hy=>h y (by simp[hy]);simp only[Ho,ih];rw[(h x (by simp)).1,bF (h x (by simp)).2]
theorem U5:∀{l:List Operand}{K:List D->Bx->Prop},(∀x∈l,ρ x=ρ' x/\az σ σ' (ρ' x))->JA σ ρ l K=JA σ' ρ' l K
 | [],_,_=>rfl
 | x :: r,K,h=>by
   have ih:∀{K:List D->Bx->Prop},JA σ ρ r K=JA σ' ρ' r K:=U5 λy hy=>h y (by simp[hy]);simp only[JA,ih];rw[(h x (by simp)).1,LZ (h x (by simp)).2]
theorem WC:∀{l:List Operand}{i:Nat},(∀x∈l,ρ x=ρ' x)->M9 ρ l i=M9 ρ' l i
 | [],_,_=>rfl
 | x :: r,i,h=>by
   have ih:∀{i:Nat},M9 ρ r i=M9 ρ' r i:=WC λy hy=>h y (by simp[hy]);simp only[M9,ih];rw[h x (by simp)]
theorem WB{k:Nat}:∀{l:List Operand}{i:Nat}{K:List AV->Prop},(∀x∈l,ρ x=ρ' x)->NJ ρ k l i K=NJ ρ' k l i K
 | [],_,_,_=>rfl
 | x :: r,i,K,h=>by
   have ih:∀{i:Nat}{K:List AV->Prop},NJ ρ k r i K=NJ ρ' k r i K:=WB λy hy=>h y (by simp[hy]);simp only[NJ,ih];rw[h x (by simp)]
theorem UJ:∀{l:List C}{K:List C->Prop},(∀id n,C.sl id n∈l->σ id n=σ' id n)->Ji σ l K=Ji σ' l K
 | [],_,_=>rfl
 | c :: r,K,h=>by
   have ih:∀{K:List C->Prop},Ji σ r K=Ji σ' r K:=UJ λid n hm=>h id n (by simp[hm])
   cases c with
   | d x=>simp only[Ji,ih]
   | sl id n=>simp only[Ji,ih];rw[h id n (by simp)]
   | own _ _ _=>rfl
theorem WT:∀{l:List Operand},(∀x∈l,ρ x=ρ' x)->UW ρ l=UW ρ' l
 | [],_=>rfl
 | x :: r,h=>by
   have ih:UW ρ r=UW ρ' r:=WT λy hy=>h y (by simp[hy]);simp only[UW,ih,h x (by simp)]
theorem U4:∀{l:List Operand}{K:List C->Bx->Prop},(∀x∈l,ρ x=ρ' x/\az σ σ' (ρ' x))->J9 σ ρ l K=J9 σ' ρ' l K
 | [],_,_=>rfl
 | x :: r,K,h=>by
   have ih:∀{K:List C->Bx->Prop},J9 σ ρ r K=J9 σ' ρ' r K:=U4 λy hy=>h y (by simp[hy]);simp only[J9,ih];rw[(h x (by simp)).1,LZ (h x (by simp)).2]
theorem Qz:∀{l:List C},(∀id n,C.sl id n∈l->σ id n=σ' id n)->Sg σ l=Sg σ' l
 | [],_=>rfl
 | .d _ :: r,h=>Qz (l:=r) λid n hm=>h id n (by simp[hm])
 | .sl id n :: r,h=>by simp only[Sg];rw[h id n (by simp),Qz (l:=r) λid n hm=>h id n (by simp[hm])]
 | .own _ _ _ :: _,_=>rfl
theorem kn{t:TypeId}{cs:List C}{K:Hy->Prop}(h:∀id n,C.sl id n∈cs->σ id n=σ' id n):o0 P σ t cs K=o0 P σ' t cs K:=by
 unfold o0;split
 ·split
  ·rename_i i _
   rw[BN,BN];have b:∀a:List D->Bx->Prop,Ef σ (cs.take i.size) a=Ef σ' (cs.take i.size) a:=λa=>IL λid n hm=>h id n (uf hm);have c:=Qz (σ:=σ) (σ':=σ') (l:=cs.take i.size) λid n hm=>h id n (uf hm);simp only[b,c]
  ·rfl
 ·rfl
 ·rfl
theorem UZ:∀{l:List (Nat×Operand)}{K:List (Nat×D)->Bx->Prop},(∀x∈l,ρ x.2=ρ' x.2)->M1 ρ l K=M1 ρ' l K
 | [],_,_=>rfl
 | (i,x) :: r,K,h=>by
   simp only[M1];rw[h (i,x) (by simp)];congr 1;funext v b;exact UZ λy hy=>h y (by simp[hy])
theorem WX:∀{l:List (Nat×Operand)},(∀x∈l,ρ x.2=ρ' x.2)->Vj ρ l=Vj ρ' l
 | [],_=>rfl
 | (i,x) :: r,h=>by
   have ih:Vj ρ r=Vj ρ' r:=WX λy hy=>h y (by simp[hy]);simp only[Vj,ih,h (i,x) (by simp)]
theorem UX:∀{l:List (Nat×Operand)}{K:List (Nat×List C)->Prop},(∀x∈l,ρ x.2=ρ' x.2)->NU ρ l K=NU ρ' l K
 | [],_,_=>rfl
 | (i,x) :: r,K,h=>by
   simp only[NU];rw[h (i,x) (by simp)];congr 1;funext c;exact UX λy hy=>h y (by simp[hy])
theorem Vb:∀{l:List (Nat×Operand)}{K:List (Nat×D)->Bx->Prop},(∀x∈l,ρ x.2=ρ' x.2)->NW ρ l K=NW ρ' l K
 | [],_,_=>rfl
 | (i,x) :: r,K,h=>by
   simp only[NW];rw[h (i,x) (by simp)];congr 1;funext v b;exact Vb λy hy=>h y (by simp[hy])
theorem S9{x:Option Operand}{n:Int}{K:Int->Prop}(h:∀y,x=some y->ρ y=ρ' y):fC ρ x n K=fC ρ' x n K:=by
 cases x with
 | none=>rfl
 | some x=>unfold fC;simp only;rw[h x rfl]
theorem bV{sz:Nat}{xs:List D}{lo c a:Option Operand}{b:Bx}{K:Hy->Prop}(d:∀y,lo=some y->ρ y=ρ' y)(e:∀y,c=some y->ρ y=ρ' y)(f:∀y,a=some y->ρ y=ρ' y) :
 M6 ρ sz xs lo c a b K=M6 ρ' sz xs lo c a b K:=by
 unfold M6;rw[S9 d];congr 1;funext l;rw[S9 e];congr 1;funext h
 cases a with
 | none=>rfl
 | some m=>simp only;rw[f m rfl]
end
set_option maxHeartbeats 1000000 in
theorem oo{P:Program}{σ σ':Nat->Nat->RV}{ρ v:Option (Nat×Bool)->Operand->RV}{g:Option (Nat×Bool)}{o:Oper}{d n N:Nat}{K:Hy->Prop}
 (h:∀O x,x∈o.op.operands.toList->ρ O x=v O x) (H:∀O x,x∈o.op.operands.toList->az σ σ' (v O x)) (Y:eA o.op=true->n=N) (hy:yA P σ ρ g o d n K):yA P σ' v g o d N K:=by
 have z:∀{c:Bool},eA o.op=c->c=true->n=N:=λQ I=>Y (Q.trans I);unfold yA at hy ⊢;split at hy
 ·rename_i x ho
  simp only[ho]at h ⊢;rw[h g x (by simp[Op.operands])]at hy;exact hy
 ·rename_i x ho
  have:=z (by rw[ho];rfl) rfl;subst this;simp only[ho]at h ⊢;rw[h g x (by simp[Op.operands])]at hy;exact hy
 ·rename_i t x y ho
  simp only[ho]at h ⊢;rw[h g (.tmp t) (by simp[Op.operands]),h (some (t,true)) x (by simp[Op.operands]),h (some (t,false)) y (by simp[Op.operands])]at hy;exact hy
 ·rename_i T x ho
  have:=z (by rw[ho];rfl) rfl;subst this;simp only[ho]at h ⊢;rw[h g x (by simp[Op.operands])]at hy;exact hy
 ·rename_i T ho
  have:=z (by rw[ho];rfl) rfl;subst this
  first|exact hy|(simp only[ho];exact hy)
 ·rename_i t parts ho
  simp only[ho]at h ⊢;have e:∀(r:List (Nat×D)->Bx->Prop),M1 (ρ g) parts.toList r=M1 (v g) parts.toList r:=λr=>UZ λx hx=>h g x.2 (by simp only[Op.operands];simp;exact⟨x.1,by simpa using hx⟩);have I:∀(r:List (Nat×List C)->Prop),NU (ρ g) parts.toList r=NU (v g) parts.toList r:=λr=>UX λx hx=>h g x.2 (by simp only[Op.operands];simp;exact⟨x.1,by simpa using hx⟩);have J:Vj (ρ g) parts.toList=Vj (v g) parts.toList:=WX λx hx=>h g x.2 (by simp only[Op.operands];simp;exact⟨x.1,by simpa using hx⟩);simp only[e,I,J]at hy;exact hy
 ·rename_i t m parts ho
  have:=z (by rw[ho];rfl) rfl;subst this;simp only[ho]at h ⊢;have e:∀(r:List (Nat×D)->Bx->Prop),NW (ρ g) parts.toList r=NW (v g) parts.toList r:=λr=>Vb λx hx=>h g x.2 (by simp only[Op.operands];simp;exact⟨x.1,by simpa using hx⟩);simp only[e]at hy;exact hy
 ·rename_i t l c ho
  have:=z (by rw[ho];rfl) rfl;subst this;simp only[ho]at h ⊢;rw[h g l (by simp[Op.operands]),h g c (by simp[Op.operands])]at hy;exact hy
 ·rename_i f first a ho
  simp only[ho]at h H ⊢
  have e:∀(r:List D->Bx->Prop),JA σ (ρ g) a.toList r=JA σ' (v g) a.toList r:=λr=>U5 λx hx=>by
   have F:x∈a:=by simpa using hx
   have A:x∈(Op.makeFunc (.func f) first a).operands.toList:=by simp[Op.operands,F]
   exact⟨h g x A,H g x A⟩
  have I:∀(r:List C->Bx->Prop),J9 σ (ρ g) a.toList r=J9 σ' (v g) a.toList r:=λr=>U4 λx hx=>by
   have F:x∈a:=by simpa using hx
   have A:x∈(Op.makeFunc (.func f) first a).operands.toList:=by simp[Op.operands,F]
   exact⟨h g x A,H g x A⟩
  have J:UW (ρ g) a.toList=UW (v g) a.toList:=WT λx hx=>by
   have F:x∈a:=by simpa using hx
   exact h g x (by simp[Op.operands,F])
  simp only[e,I,J]at hy;exact hy
 ·rename_i t x ho
  simp only[ho]at h H ⊢;have B:=(H g x (by simp[Op.operands])).1;rw[h g x (by simp[Op.operands])]at hy;split at hy
  ·rename_i e;first|exact hy|(simp only[e];exact hy)
  ·rename_i id N o' cs e
   try simp only[e]
   rw[kn (σ':=σ') λi m A=>B _ _ _ _ e i m (uu A)]at hy;exact hy
  ·rename_i e;first|exact hy|(simp only[e];exact hy)
  ·rename_i e;first|exact hy|(simp only[e];exact hy)
  ·exact hy.elim
 ·rename_i t p x ho
  simp only[ho]at h ⊢;rw[h g p (by simp[Op.operands]),h g x (by simp[Op.operands])]at hy;exact hy
 ·rename_i x ho
  simp only[ho]at h ⊢;rw[h g x (by simp[Op.operands])]at hy;exact hy
 ·rename_i op t x y U ho
  simp only[ho]at h ⊢;rw[h g x (by simp[Op.operands]),h g y (by simp[Op.operands])]at hy;exact hy
 ·rename_i op t x ho
  simp only[ho]at h ⊢;rw[h g x (by simp[Op.operands])]at hy;exact hy
 ·rename_i s t x ho
  simp only[ho]at h ⊢;rw[h g x (by simp[Op.operands])]at hy;exact hy
 ·rename_i s x f ho
  simp only[ho]at h ⊢;rw[h g x (by simp[Op.operands])]at hy;exact hy
 ·rename_i s x f ho
  simp only[ho]at h ⊢;rw[h g x (by simp[Op.operands])]at hy;exact hy
 ·rename_i t x L ho
  simp only[ho]at h ⊢;rw[h g x (by simp[Op.operands]),h g L (by simp[Op.operands])]at hy;exact hy
 ·rename_i t x L ho
  simp only[ho]at h ⊢;rw[h g x (by simp[Op.operands]),h g L (by simp[Op.operands])]at hy;exact hy
 ·rename_i t x lo M R ho
  simp only[ho]at h ⊢;have E:∀y,lo=some y->ρ g y=v g y:=λy e=>h g y (by subst e;simp[Op.operands]);have B:∀y,M=some y->ρ g y=v g y:=λy e=>h g y (by subst e;simp[Op.operands]);have Z:∀y,R=some y->ρ g y=v g y:=λy e=>h g y (by subst e;simp[Op.operands]);rw[h g x (by simp[Op.operands])]at hy;have Q:∀{sz:Nat}{xs:List D}{b:Bx}{K:Hy->Prop},M6 (ρ g) sz xs lo M R b K=M6 (v g) sz xs lo M R b K:=bV E B Z;have I:∀{n:Int}{K:Int->Prop},fC (ρ g) lo n K=fC (v g) lo n K:=S9 E;have J:∀{n:Int}{K:Int->Prop},fC (ρ g) M n K=fC (v g) M n K:=S9 B;simp only[Q,I,J]at hy;exact hy
 ·rename_i c ho
  simp only[ho]at h H ⊢;split at hy
  ·rename_i X w
   have:=z (by rw[ho];simp only[eA,w]) rfl;subst this;have E:=h g X (by simp[Op.operands,Call.operands,w])
   have hx:∀x∈c.args.toList,ρ g x=v g x/\az σ σ' (v g x):=λx hx=>by
    have A:x∈(Op.call c).operands.toList:=by simp[Op.operands,Call.operands];exact .inr (by simpa using hx)
    exact⟨h g x A,H g x A⟩
   have e:∀(r:List AV->Bx->Prop),Iw P σ (ρ g) c.args.toList c.argTypes.toList r=Iw P σ' (v g) c.args.toList c.argTypes.toList r:=λr=>U0 hx;have e':∀(r:List AV->Bx->List (Option (Nat×Nat))->Prop),Ho P σ (ρ g) c.args.toList c.argTypes.toList r=Ho P σ' (v g) c.args.toList c.argTypes.toList r:=λr=>To hx;have B:=(H g X (by simp[Op.operands,Call.operands,w])).2.1;have J:∀(f:FuncId)(a:List D)(d dv:Nat)(r:Hy->Prop),U1 P σ (ρ g) c f a d dv r=U1 P σ' (v g) c f a d dv r:=λf a d dv r=>by unfold U1;simp only[e,e']
   have e4:M9 (ρ g) c.args.toList 0=M9 (v g) c.args.toList 0:=WC λx A=>(hx x A).1;have e5:∀(k:Nat)(r:List AV->Prop),NJ (ρ g) k c.args.toList 0 r=NJ (v g) k c.args.toList 0 r:=λk r=>WB λx A=>(hx x A).1;simp only[E,e,J,e4,e5]at hy
   try simp only[w]
   split at hy
   ·rename_i G
    try simp only[G]
    cases hgf:M9 (v g) c.args.toList 0 with
    | none=>rw[hgf]at hy;exact hy
    | some q =>
      obtain⟨k,id,n1,cl⟩:=q;rw[hgf]at hy;obtain⟨j,x,_,S,V⟩:=Rq hgf;have e6:∀(r:List C->Prop),Ji σ cl r=Ji σ' cl r:=λr=>UJ λi m A=>(hx x (tz S)).2.1 _ _ _ _ V i m A;simp only[e6]at hy;exact hy
   ·rename_i G
    rw[B _ _ _ _ _ _ _ G]at hy
    first|exact hy|(simp only[G];exact hy)
   ·exact hy.elim
  ·rename_i w
   try simp only[w]
   split at hy
   ·rename_i x t hx W
    have E:=h g x (by simp only[Op.operands,Call.operands,w];rw[aJ hx];simp);simp only[E]at hy
    try simp only[hx,W]
    exact hy
   ·exact hy.elim
  ·rename_i w
   try simp only[w]
   split at hy
   ·rename_i x y hx
    have E:=h g x (by simp only[Op.operands,Call.operands,w];rw[LD hx];simp);have B:=h g y (by simp only[Op.operands,Call.operands,w];rw[LD hx];simp);simp only[E,B]at hy
    try simp only[hx]
    exact hy
   ·exact hy.elim
  ·rename_i w
   try simp only[w]
   split at hy
   ·rename_i x y hx
    have E:=h g x (by simp only[Op.operands,Call.operands,w];rw[LD hx];simp);have B:=h g y (by simp only[Op.operands,Call.operands,w];rw[LD hx];simp);simp only[E,B]at hy
    try simp only[hx]
    exact hy
   ·exact hy.elim
  ·rename_i w
   have:=z (by rw[ho];simp only[eA,w]) rfl;subst this
   try simp only[w]
   split at hy
   ·rename_i x y t u hx W
    have E:=h g x (by simp only[Op.operands,Call.operands,w];rw[LD hx];simp);have B:=h g y (by simp only[Op.operands,Call.operands,w];rw[LD hx];simp);simp only[E,B]at hy
    try simp only[hx,W]
    exact hy
   ·exact hy.elim
  ·exact hy.elim
 ·rename_i t i ho
  simp only[ho]at h ⊢;rw[h g t (by simp[Op.operands])]at hy;exact hy
 ·rename_i t ho
  have:=z (by rw[ho];rfl) rfl;subst this;exact hy
 ·rename_i t x L ok ho
  simp only[ho]at h ⊢;rw[h g x (by simp[Op.operands]),h g L (by simp[Op.operands])]at hy;exact hy
 ·rename_i t m k x ho
  simp only[ho]at h ⊢;rw[h g m (by simp[Op.operands]),h g k (by simp[Op.operands]),h g x (by simp[Op.operands])]at hy;exact hy
 ·exact hy.elim
def Xf(S T:AS)(t:Nat):Prop:=(Ai S t).av=(Ai T t).av
def Vv(S T:AS)(b:Nat):Prop:=(Ai S b).box=(Ai T b).box/\(Ai S b).ver=(Ai T b).ver
theorem Xw:∀(S:AS)(d:Nat)(K:Nat->Prop),d<S.length->K (Ai S d).ver->We S d K
 | [],_,_,h,_=>by grind
 | ⟨_,_,_⟩ :: _,0,_,_,h=>h
 | s :: r,d+1,K,hd,h=>Xw r d K (by grind) h
theorem lQ{x:Option Nat}{K:Nat->Prop}(h:K (x.getD 0)):dK x K:=by cases x<;>exact h
theorem Ic(g:Option (Nat×Bool))(v:AV):∀i∈Lf (rh g v),i∈Lf v:=by
 cases v<;>try (intro i a;exact a)
 case under t w y =>
  intro i a;simp only[rh]at a
  cases g with
  | none=>simp[Lf]at a
  | some p =>
    obtain⟨b,w'⟩:=p;simp only at a;split at a
    ·exact a
    ·simp[Lf]at a
theorem Kf:∀{cs:List C}{id n:Nat},C.sl id n∈cs->id∈Nz cs
 | [],_,_,h=>by grind
 | c :: r,id,n,h=>by
   rcases List.mem_cons.1 h with h|h
   ·subst h;simp[Nz]
   ·have:=Kf h
    cases c<;>simp[Nz,this]
theorem Nq{S T:AS}{v:AV}(h:∀i∈Lf v,Vv S T i):res S v=res T v:=by
 cases v<;>try rfl
 case ptr id n o =>
  obtain⟨a,c⟩:=h id (by simp[Lf]);simp only[res];generalize Ai S id=s at *;generalize Ai T id=t at *;obtain⟨_,b,m⟩:=s;obtain⟨_,d,e⟩:=t;grind
 case sl id n =>
  obtain⟨a,c⟩:=h id (by simp[Lf]);simp only[res];generalize Ai S id=s at *;generalize Ai T id=t at *;obtain⟨_,b,m⟩:=s;obtain⟨_,d,e⟩:=t;grind
 case eptr id n sz i o =>
  obtain⟨a,c⟩:=h id (by simp[Lf]);simp only[res];generalize Ai S id=s at *;generalize Ai T id=t at *;obtain⟨_,b,m⟩:=s;obtain⟨_,d,e⟩:=t;grind
 case cc k xs =>
  cases k with
  | none=>rfl
  | some f =>
    simp only[res];split
    ·rename_i j id n hat
     obtain⟨a,c⟩:=h id (by simp only[Lf];exact Kf (tz (Sn hat)));generalize Ai S id=s at *;generalize Ai T id=t at *;obtain⟨_,b,m⟩:=s;obtain⟨_,d,e⟩:=t;grind
    ·rfl
def RR(S:AS)(all:List Oper)(o:Oper)(e:Hy):List Nat:=Zd S (EO all o) o++e.homes.map (·.1)
theorem Tm{S T:AS}(c:S.length=T.length):∀{a:List (Nat×Nat)},(∀b∈a.map (·.1),Vv S T b)->Hn S a=Hn T a
 | [],_=>rfl
 | (h,n) :: r,hb=>by
   simp only[Hn];rw[c,(hb h (by simp)).2,Tm c λb d=>hb b (by grind)]
theorem NQ:∀{l:List Operand}{t:Nat},Operand.tmp t∈l->t∈VM l
 | [],_,h=>by grind
 | x :: r,t,h=>by
   rcases List.mem_cons.1 h with h|h
   ·subst h;simp[VM]
   ·have:=NQ h
    cases x<;>simp[VM,this]
section
variable {P:Program} {all:List Oper} {o:Oper}
theorem ρ_congr{S T:AS}(e:LJ S o=false)(h:∀t∈EO all o,Xf S T t)(j:∀b∈Zd S (EO all o) o,Vv S T b):∀g x,x∈o.op.operands.toList->ρOf S g x=ρOf T g x:=by
 intro g x hx;unfold ρOf
 cases x with
 | tmp t =>
   have c:t∈EO all o:=by simp only[EO,uB];exact .inr (NQ hx)
   simp only[ev];have d:=h t c;unfold Xf at d;rw[<-d];refine Nq λi a=>j i ?_;simp only[Zd,e,uB,uK];exact .inr ⟨t,c,i,Ic g _ i a,by simp[je]⟩
 | const v =>
   simp only[ev];refine Nq λi a=>?_;have:=Ic g _ i a
   exfalso
   revert this;unfold fM;split<;>simp[Lf]
 | global q =>
   simp only[ev];refine Nq λi a=>?_;have:=Ic g _ i a
   exfalso
   revert this;split<;>simp[Lf]
 | func f =>
   simp only[ev];exact Nq λi a=>by have:=Ic g _ i a;simp[Lf]at this
theorem nE{S:AS}{v:AV}{id n o:Nat}{cs:List C}(h:res S v=.vptr id n o cs):id∈Lf v/\(Ai S id).box=.var cs:=by
 cases v<;>simp only[res]at h<;>try (cases h;done)
 case ptr id' n' o' =>
  split at h
  ·rename_i m a
   split at h
   ·cases h;exact⟨by simp[Lf],by rw[a]⟩
   ·cases h
  all_goals grind
 case sl id' n' =>
  grind
 case eptr =>
  grind
 grind
theorem pm{S:AS}{v:AV}{f:FuncId}{cs:List C}{k id n rid rn:Nat}(h:res S v=.clo f cs k id n rid rn):id∈Lf v/\(Ai S id).box=.var [.sl rid rn]:=by
 cases v<;>simp only[res]at h<;>try (cases h;done)
 case ptr a c o' =>
  grind
 case sl a c =>
  grind
 case eptr =>
  grind
 case cc k' xs =>
  cases k' with
  | none=>cases h
  | some f' =>
    simp only at h;split at h
    ·rename_i j a c b
     split at h
     ·rename_i i d e m g
      split at h
      ·cases h
       exact⟨by simp only[Lf];exact Kf (tz (Sn b)),by rw[g]⟩
      ·grind
     ·cases h
    ·cases h
theorem nD{S:AS}{v:AV}{cs:List C}(h:res S v=.cagg cs):v=.cc none cs:=by
 cases v<;>simp only[res]at h<;>try (cases h;done)
 case ptr id' n' o' =>
  grind
 case sl id' n' =>
  grind
 case eptr =>
  grind
 grind
theorem pr{S T:AS}(c:LJ S o=false)(p:∀t∈EO all o,Xf S T t)(j:∀b∈Zd S (EO all o) o,Vv S T b):∀g x,x∈o.op.operands.toList->az (σOf S) (σOf T) (ρOf T g x):=by
 intro g x hx
 have key:∀(id:Nat)(cs:List C),id∈Lf (rh g (ev S x))->(Ai S id).box=.var cs->∀a e,C.sl a e∈cs->σOf S a e=σOf T a e:=by
  intro id cs h r a e m;refine Nq λi l=>?_;simp only[Lf,vi]at l;subst l
  cases x with
  | tmp t =>
    have s:t∈EO all o:=by simp only[EO,uB];exact .inr (NQ hx)
    refine j _ ?_;simp only[Zd,c,uB,uK];refine .inr ⟨t,s,id,Ic g _ id h,?_⟩;simp only[je,r,vA];exact .inr (Kf m)
  | const v =>
    have:=Ic g _ id h
    exfalso
    revert this;simp only[ev];unfold fM;split<;>simp[Lf]
  | global q =>
    have:=Ic g _ id h
    exfalso
    revert this;simp only[ev];split<;>simp[Lf]
  | func f=>have:=Ic g _ id h;simp[ev,Lf]at this
 refine⟨λid n of cs hr a e m=>?_,λf cs k id n rid rn hr=>?_,λcs hr a e m=>?_⟩
 ·rw[<-ρ_congr c p j g x hx]at hr;obtain⟨h,r⟩:=nE hr;grind
 ·rw[<-ρ_congr c p j g x hx]at hr;obtain⟨h,r⟩:=pm hr;grind
 ·rw[<-ρ_congr c p j g x hx]at hr;have u:=nD hr;have d:a∈Lf (rh g (ev S x)):=by rw[u];exact Kf m
  refine Nq λi l=>?_;simp only[Lf,vi]at l;subst l
  cases x with
  | tmp t =>
    have s:t∈EO all o:=by simp only[EO,uB];exact .inr (NQ hx)
    refine j _ ?_;simp only[Zd,c,uB,uK];exact .inr ⟨t,s,i,Ic g _ i d,by simp[je]⟩
  | const v =>
    have:=Ic g _ i d
    exfalso
    revert this;simp only[ev];unfold fM;split<;>simp[Lf]
  | global q =>
    have:=Ic g _ i d
    exfalso
    revert this;simp only[ev];split<;>simp[Lf]
  | func f=>have:=Ic g _ i d;simp[ev,Lf]at this
theorem dA{S T:AS}(a:∀t∈EO all o,Xf S T t){x:Operand}(hx:x∈o.op.operands.toList):ev S x=ev T x:=by
 cases x with
 | tmp t =>
   have b:t∈EO all o:=by simp only[EO,uB];exact .inr (NQ hx)
   exact a t b
 | const v=>rfl
 | global q=>rfl
 | func f=>rfl
theorem Zk{S T:AS}(a:∀t∈EO all o,Xf S T t):LJ S o=LJ T o:=by
 unfold LJ;split
 ·rename_i x ho
  rw[dA a (x:=x) (by rw[ho];simp[Op.operands])]
 ·rfl
theorem sd{S:AS}{g:Option (Nat×Bool)}{d n:Nat}{K:Hy->Prop}(a:LJ S o=false)(hy:yA P (σOf S) (ρOf S) g o d n K):yS P S g o d n K:=by
 unfold yS;unfold LJ at a;split
 ·rename_i x ho
  rw[ho]at a;simp only at a;split
  ·rename_i b;rw[b]at a;cases a
  ·rename_i b;rw[b]at a;cases a
  ·exact hy
 ·exact hy
theorem iL(P:Program)(S:AS)(g:Option (Nat×Bool))(o:Oper)(d n:Nat):DT λK=>yS P S g o d n K:=by
 unfold yS;split
 ·split
  ·exact Aj _
  ·exact Aj _
  ·exact iK _ _ _ _ _ _ _
 ·exact iK _ _ _ _ _ _ _
theorem ct{S T:AS}{g:Option (Nat×Bool)}{K:Hy->Prop}(a:∀t∈EO all o,Xf S T t)(c:∀b∈Zd S (EO all o) o,Vv S T b)(j:S.length=T.length)
 (hy:dK o.dst λd=>We S d λn=>yS P S g o d n K):dK o.dst λd=>We T d λn=>yS P T g o d n K:=by
 obtain⟨hd,hy⟩:=OR _ _ _ (Z9 hy);refine lQ (Xw _ _ _ (by grind) ?_);rcases YW hy with⟨x,ho,i,hK⟩|⟨e,hy⟩
 ·unfold yS;rw[ho];simp only;rw[<-dA a (x:=x) (by rw[ho];simp[Op.operands])]
  cases h:ev S x with
  | ptr id v k=>grind
  | sl id v=>grind
  | _=>rw[h]at i;cases i
 ·refine sd (by rw[<-Zk a];exact e) (oo (ρ_congr e a c) (pr e a c) (λf=>?_) hy);exact(c _ (by simp[Zd,f])).2
theorem j6.move{a:List Nat}{S T:AS}(h:∀t∈a,Xf S T t):∀{n t:Nat}{r:Option Bool},j6 a n t S r->j6 a n t T r
 | 0,_,_,hd=>hd.elim
 | n+1,t,r,⟨hlk,hd⟩=>by
   have e:=h t hlk;unfold Xf at e;refine⟨hlk,?_⟩;rcases hd with⟨b,c,hr⟩|⟨d,w',b,f,c,hd,hr⟩|⟨d,w',c,hr⟩
   ·grind
   ·exact .inr (.inl ⟨d,w',b,f,by rw[<-e];exact c,j6.move h hd,hr⟩)
   ·grind
theorem nc{done:List Nat}{S:AS}{K:AS->Hy->Prop}(hy:kD P all done o S K) :
 ∃e,K S e/\∀(a:List Nat)(T:AS),(∀t∈EO all o,Xf S T t)->(∀b∈RR S all o e,Vv S T b)->S.length=T.length->(∀j k t,o.guard=some (j,k)->W8 all j=some t->t∈a) ->
  kD P all a o T (λM f=>M=T/\f=e):=by
 have z:∀{g:Option (Nat×Bool)}{F:Hy->Prop},(dK o.dst λd=>We S d λn=>yS P S g o d n F)->∃e,F e/\dK o.dst λd=>We S d λn=>yS P S g o d n λf=>f=e:=by
  intro g F hy;obtain⟨hd,hy⟩:=OR _ _ _ (Z9 hy);obtain⟨e,m,A⟩:=(iL P S g o (o.dst.getD 0) (Ai S (o.dst.getD 0)).ver).2 _ hy;exact⟨e,A,lQ (Xw _ _ _ hd m)⟩
 have p:∀{T:AS}{g:Option (Nat×Bool)}{F B:Hy->Prop},(∀e,F e->B e)->(dK o.dst λd=>We T d λn=>yS P T g o d n F)->dK o.dst λd=>We T d λn=>yS P T g o d n B:=by
  intro T g F B A hy;obtain⟨hd,hy⟩:=OR _ _ _ (Z9 hy);exact lQ (Xw _ _ _ hd ((iL P T g o (o.dst.getD 0) (Ai T (o.dst.getD 0)).ver).1 _ _ A hy))
 have q:∀{T:AS}{e:Hy},(∀b∈RR S all o e,Vv S T b)->∀b∈Zd S (EO all o) o,Vv S T b:=λh b C=>h b (by simp only[RR,uB];exact .inl C);have N:∀{T:AS}{e:Hy},S.length=T.length->(∀b∈RR S all o e,Vv S T b)->Hn S e.homes=Hn T e.homes:=λl h=>Tm l λb C=>h b (by simp only[RR,uB];exact .inr C);unfold kD at hy;split at hy
 ·rename_i c
  obtain⟨e,hK,m⟩:=z hy;obtain⟨D,hK⟩:=Al hK;refine⟨e,hK,λ_ T i s l _=>?_⟩;unfold kD;simp only[c];refine p (λf L=>?_) (ct i (q s) l m);grind
 ·rename_i j k c
  split at hy
  ·grind
  ·rename_i t E
   obtain⟨G,hy⟩:=Al hy;split at hy
   ·rename_i y
    obtain⟨e,hK,m⟩:=z hy;split at hK
    ·rename_i v
     refine⟨_,hK,λ_ T i s l u=>?_⟩;unfold kD;simp only[c,E,y];rw[tf (by grind)];refine p (λf L=>?_) (ct i (q s) l m);grind
    ·grind
   ·rename_i y
    obtain⟨r,hy,w⟩:=TS hy;have x:∀T:AS,(∀t∈EO all o,Xf S T t)->j6 (EO all o) 5 t T r:=λT i=>w.move i;rcases Ke.1 hy with⟨H,I⟩|⟨J,hK⟩
    ·obtain⟨e,hK,m⟩:=z I;obtain⟨D,hK⟩:=Al hK;refine⟨e,hK,λ_ T i s l u=>?_⟩;unfold kD;simp only[c,E,y];rw[tf (by grind)];refine aT (x T i) (Ke.2 (.inl ⟨H,p (λf L=>?_) (ct i (q s) l m)⟩));grind
    ·refine⟨_,hK,λ_ T i s l u=>?_⟩;unfold kD;simp only[c,E,y];rw[tf (by grind)];exact aT (x T i) (Ke.2 (.inr ⟨J,by first|exact⟨rfl,rfl⟩|exact⟨rfl,trivial⟩|exact⟨trivial,trivial⟩⟩))
structure Za(P:Program)(all:List Oper)(S₀:AS)(St:Nat->AS)(E:Nat->Hy):Prop where
 start:St 0=S₀
 next:∀(i:Nat)(o:Oper),all[i]?=some o->St (i+1)=Z2 o.dst (E i) (St i)
 once:∀(i j:Nat)(o o':Oper),i<j->all[i]?=some o->all[j]?=some o'->∀d,o.dst=some d->o'.dst≠some d
 does:∀(i:Nat)(o:Oper),all[i]?=some o->∀(T:AS)(done:List Nat),(∀t∈EO all o,Xf (St i) T t)->(∀b∈RR (St i) all o (E i),Vv (St i) T b)->(St i).length=T.length ->
  (∀j want t,o.guard=some (j,want)->W8 all j=some t->t∈done)->kD P all done o T (λT' f=>T'=T/\f=E i)
 box:∀(i j:Nat)(o o':Oper),i<j->all[i]?=some o->all[j]?=some o'->Ti all o' i=false ->
  Xg ((E i).bx.map (·.1)) (RR (St j) all o' (E j)++(E j).bx.map (·.1))=true/\Xg (RR (St i) all o (E i)) ((E j).bx.map (·.1))=true
theorem nM(P:Program)(all:List Oper):∀(l:List Oper)(k:Nat)(h:List (Nat×List Nat×List Nat))(done:List Nat)(S:AS)(K:AS->Prop),(∀j,l[j]?=all[k+j]?)->qT P all k h done l S K ->
 ∃(St:Nat->AS)(E:Nat->Hy),St k=S/\K (St (k+l.length)) /\
  (∀(i:Nat)(o:Oper),k<=i->all[i]?=some o->St (i+1)=Z2 o.dst (E i) (St i)) /\
  (∀(i:Nat)(o:Oper),k<=i->all[i]?=some o->∀d,o.dst=some d->d ∉ done) /\
  (∀(i j:Nat)(o o':Oper),k<=i->i<j->all[i]?=some o->all[j]?=some o'->∀d,o.dst=some d->o'.dst≠some d) /\
  (∀(i:Nat)(o:Oper),k<=i->all[i]?=some o->∀(T:AS)(done:List Nat),(∀t∈EO all o,Xf (St i) T t)->(∀b∈RR (St i) all o (E i),Vv (St i) T b)->(St i).length=T.length ->
   (∀j w t,o.guard=some (j,w)->W8 all j=some t->t∈done)->kD P all done o T (λN f=>N=T/\f=E i)) /\
  (∀(i:Nat)(o:Oper),k<=i->all[i]?=some o->∀x∈h,Ti all o x.1=false->Xg x.2.2 (RR (St i) all o (E i)++(E i).bx.map (·.1))=true/\Xg x.2.1 ((E i).bx.map (·.1))=true) /\
  (∀(i j:Nat)(o o':Oper),k<=i->i<j->all[i]?=some o->all[j]?=some o'->Ti all o' i=false ->
   Xg ((E i).bx.map (·.1)) (RR (St j) all o' (E j)++(E j).bx.map (·.1))=true/\Xg (RR (St i) all o (E i)) ((E j).bx.map (·.1))=true)
 | [],k,h,done,S,K,hall,hy=>by
   have none:∀i,k<=i->all[i]?=none:=by
    intro i p;have hk:=hall 0;simp at hk;exact tB (by omega)
   refine⟨λ_=>S,λ_=>⟨.any,[],[]⟩,rfl,hy,?_,?_,?_,?_,?_,?_⟩
   all_goals grind
 | o :: r,k,h,done,S,K,hall,hy=>by
   obtain⟨y,hy⟩:=Al hy;obtain⟨e,hK,m⟩:=nc hy;rw[Lt,Lt]at hK;obtain⟨z,hK⟩:=Al hK;rw[aF,Lt]at hK;have ho:all[k]?=some o:=by have:=hall 0;simpa using this.symm
   obtain⟨St,E,R,H,q,A,I,s,B,C⟩:=nM P all r (k+1) _ _ _ K (λj=>by have:=hall (j+1);rw[tX]at this;rw[this];congr 1;omega) hK;have O:∀i,k+1<=i->i≠k:=λi p=>by omega
   refine⟨λi=>if i=k then S else St i,λi=>if i=k then e else E i,by simp,?_,?_,?_,?_,?_,?_,?_⟩
   ·have:k+(o :: r).length≠k:=by simp
    simp only[this,if_false];rw[show k+(o :: r).length=k+1+r.length by simp;omega];exact H
   ·intro i o' p c;by_cases a:i=k
    ·subst a;grind
    ·have g:i+1≠k:=by omega
     simp only[a,g,if_false];exact q i o' (by omega) c
   ·intro i o' p c d hd;by_cases a:i=k
    ·subst a;rw[ho]at c;cases c;simp[hd,Ey]at y;exact y
    ·grind
   ·intro i j M G p D g v d hd;by_cases a:i=k
    ·subst a;rw[ho]at g;cases g;intro J;exact A j G (by omega) v d J (by simp[hd,Ey])
    ·grind
   ·intro i o' p c;by_cases a:i=k
    ·subst a;rw[ho]at c;cases c;simp only[if_true];intro T u g v Q L;exact m u T g v Q L
    ·simp only[a,if_false];exact s i o' (by omega) c
   ·intro i o' p c x hx n;by_cases a:i=k
    ·subst a;rw[ho]at c;cases c;simp only[if_true];simp only[qc,vg]at z;have:=z x hx;simp[n]at this;simp only[RR,uZ];exact this
    ·grind
   ·intro i j M G p D g v n;have F:j≠k:=by omega
    by_cases a:i=k
    ·subst a;rw[ho]at g;cases g;simp only[if_true,F,if_false];exact B j G (by omega) v (i,RR S all o e,e.bx.map (·.1)) (by simp[RR]) n
    ·simp only[a,F,if_false];exact C i j M G (by omega) D g v n
theorem J8:∀(b:Bx)(S:AS)(i:Nat),i ∉ b.map (·.1)->Ai (Bj b S) i=Ai S i
 | [],_,_,_=>rfl
 | (id,B,n) :: r,S,i,h=>by
   simp only[tg,vA,not_or]at h;simp only[Bj];rw[J8 r _ i h.2,Cc,tn (λe=>h.1 e.1)]
theorem aM:∀(b:Bx)(S:AS)(i:Nat),(Ai (Bj b S) i).av=(Ai S i).av
 | [],_,_=>rfl
 | (id,B,n) :: r,S,i=>by
   simp only[Bj];rw[aM r,Cc];grind
theorem Tc:∀(b:Bx)(S T:AS)(i:Nat),S.length=T.length->i∈b.map (·.1)->Vv (Bj b S) (Bj b T) i
 | [],_,_,_,_,h=>by grind
 | (id,B,n) :: r,S,T,i,hl,h=>by
   simp only[Bj];by_cases hr:i∈r.map (·.1)
   ·exact Tc r _ _ i (by simp[Dc,hl]) hr
   ·have a:i=id:=by simp at h hr;rcases h with h|⟨x,y,h⟩;exact h;exact absurd h (hr x y)
    unfold Vv;rw[J8 r _ i hr,J8 r _ i hr,Cc,Cc,a,hl];split
    ·grind
    ·rename_i d
     have c:T.length<=id:=by grind
     rw[Nh S id (by omega),Nh T id c];grind
theorem Yq(dst:Option Nat)(e:Hy)(S:AS):(Z2 dst e S).length=S.length:=by
 cases dst<;>simp[Z2,IV,Cp]
theorem Uz{dst:Option Nat}{e:Hy}{S:AS}{t:Nat}(h:dst≠some t):Xf (Z2 dst e S) S t:=by
 unfold Xf
 cases dst with
 | none=>simp[Z2,aM]
 | some d =>
   simp only[Z2];rw[CX,tn (λa=>h (by rw[a.1])),aM]
theorem cK{dst:Option Nat}{e:Hy}{S T:AS}{t:Nat}(a:S.length=T.length)(h:dst=some t):Xf (Z2 dst e S) (Z2 dst e T) t:=by
 unfold Xf;subst h;simp only[Z2];rw[CX,CX,Cp,Cp,a];split
 ·rfl
 ·rename_i c
  have b:T.length<=t:=by grind
  rw[Nh _ t (by rw[Cp];omega),Nh _ t (by rw[Cp];exact b)]
theorem aG{dst:Option Nat}{e:Hy}{S:AS}{b:Nat}:Vv (Z2 dst e S) (Bj e.bx S) b:=by
 unfold Vv
 cases dst with
 | none=>exact⟨rfl,rfl⟩
 | some d =>
   simp only[Z2];rw[CX];grind
theorem Ta{dst:Option Nat}{e:Hy}{S:AS}{b:Nat}(h:b ∉ e.bx.map (·.1)):Vv (Z2 dst e S) S b:=by
 have:=aG (dst:=dst) (e:=e) (S:=S) (b:=b);unfold Vv at *;rw[this.1,this.2,J8 _ _ _ h];grind
theorem aH{dst:Option Nat}{e:Hy}{S T:AS}{b:Nat}(a:S.length=T.length)(h:b∈e.bx.map (·.1)):Vv (Z2 dst e S) (Z2 dst e T) b:=by
 have c:=aG (dst:=dst) (e:=e) (S:=S) (b:=b);have d:=aG (dst:=dst) (e:=e) (S:=T) (b:=b);have f:=Tc e.bx S T b a h;unfold Vv at *;grind
theorem ml:∀{S T:AS},S.length=T.length->(∀t,Xf S T t)->(∀b,Vv S T b)->S=T
 | [],[],_,_,_=>rfl
 | s :: S,t :: T,hl,h1,h2=>by
   have a:=h1 0;have c:=h2 0;simp only[Xf,Vv,Ai]at a c;have:s=t:=by obtain⟨_,_,_⟩:=s;obtain⟨_,_,_⟩:=t;simp_all
   rw[this,ml (S:=S) (T:=T) (by grind) (λi=>h1 (i+1)) (λi=>h2 (i+1))]
 | [],_ :: _,hl,_,_=>by grind
 | _ :: _,[],hl,_,_=>by grind
theorem Pv{x y:List Nat}(h:Xg x y=true):∀i∈x,i ∉ y:=by simpa [Xg] using h
theorem PT:∀(l:List Oper)(k:Nat),(∀j,l[j]?=all[k+j]?)->gM all k l=true ->
 ∀i o,k<=i->all[i]?=some o->((∀e∈o.after,Region.binds .any e=true->e.on<i)/\∀j a,o.guard=some (j,a)->j<i) /\
  ∀j o',j<i->all[j]?=some o'->Ti all o j=true\/((∀d,o'.dst=some d->d ∉ EO all o)/\(∀d,o.dst=some d->d ∉ EO all o'))
 | [],k,hall,_,i,o,hi,ho=>by
   have hk:=hall 0;grind
 | x :: r,k,hall,h,i,o,hi,ho=>by
   simp only[gM,uh]at h;obtain⟨⟨⟨u,b⟩,m⟩,n⟩:=h;by_cases c:i=k
   ·subst c;have hx:all[i]?=some x:=by have:=hall 0;simpa using this.symm
    rw[hx]at ho;cases ho;refine⟨⟨λe v w=>?_,λj a p=>by simpa [p] using b⟩,λj o' q f=>?_⟩
    ·grind
    ·have:=List.all_eq_true.1 m (o',j) (by
      rw[List.mem_iff_getElem?];refine⟨j,?_⟩;rw[List.getElem?_zipIdx,ul q,f];simp)
     simp only[Bool.or_eq_true,uh]at this;rcases this with⟨g,s⟩|g
     ·refine .inr ⟨λd hd=>Pv g d (by simp[hd,Ey]),λd hd t=>Pv s d t (by simp[hd,Ey])⟩
     ·grind
   ·exact PT r (k+1) (λj=>by have:=hall (j+1);rw[tX]at this;rw[this];congr 1;omega) n i o (by omega) ho
end
structure lu(all:List Oper)(St:Nat->AS)(E:Nat->Hy)(S₀:AS)(f:Nat->Bool)(T:AS):Prop where
 len:T.length=S₀.length
 dc:∀(k:Nat)(o:Oper),all[k]?=some o->f k=true->∀i,Zg o i=true->f i=true
 vs:∀(t i:Nat),i<=all.length->(∀(k:Nat)(o:Oper),all[k]?=some o->o.dst=some t->(f k=true↔k<i))->Xf T (St i) t
 vb:∀(b i:Nat),i<=all.length->(∀(k:Nat)(o:Oper),all[k]?=some o->b∈(E k).bx.map (·.1)->(f k=true↔k<i))->Vv T (St i) b
section
variable {P:Program} {all:List Oper} {St:Nat->AS} {E:Nat->Hy} {S₀:AS}
theorem Za.len(h:Za P all S₀ St E):∀i,i<=all.length->(St i).length=S₀.length
 | 0,_=>by rw[h.start]
 | i+1,hi=>by
   rw[h.next i all[i] (P3 (by omega)),Yq];exact h.len i (by omega)
theorem Za.keepS(h:Za P all S₀ St E){t i:Nat}:∀j,i<=j->j<=all.length->(∀(k:Nat)(o:Oper),i<=k->k<j->all[k]?=some o->o.dst≠some t)->Xf (St j) (St i) t:=by
 intro j
 induction j with
 | zero=>intro a _ _;have:i=0:=by omega
         subst this;exact rfl
 | succ j ih =>
   intro a d hk;by_cases e:i=j+1
   ·subst e;exact rfl
   ·have b:=ih (by omega) (by omega) (λk o b c=>hk k o b (by omega))
    have c:Xf (St (j+1)) (St j) t:=by
     rw[h.next j all[j] (P3 (by omega))];exact Uz (hk j _ (by omega) (by omega) (P3 (by omega)))
    exact Eq.trans c b
theorem Za.keepB(h:Za P all S₀ St E){b i:Nat}:∀j,i<=j->j<=all.length->(∀(k:Nat)(o:Oper),i<=k->k<j->all[k]?=some o->b ∉ (E k).bx.map (·.1))->Vv (St j) (St i) b:=by
 intro j
 induction j with
 | zero=>intro c _ _;have:i=0:=by omega
         subst this;exact⟨rfl,rfl⟩
 | succ j ih =>
   intro c f hk;by_cases e:i=j+1
   ·subst e;exact⟨rfl,rfl⟩
   ·have a:=ih (by omega) (by omega) (λk o a d=>hk k o a (by omega))
    have d:Vv (St (j+1)) (St j) b:=by
     rw[h.next j all[j] (P3 (by omega))];exact Ta (hk j _ (by omega) (by omega) (P3 (by omega)))
    exact⟨d.1.trans a.1,d.2.trans a.2⟩
theorem lu.readyN{f:Nat->Bool}{T:AS}(m:lu all St E S₀ f T):∀(n:Nat){o:Oper}{j:Nat},(∀j,Zg o j=true->f j=true)->iC all n o j=true->f j=true
 | 0,_,_,hready,h=>hready _ h
 | n+1,o,j,hready,h=>by
   simp only[iC,Bool.or_eq_true,w6,uh]at h;rcases h with h|⟨e,g,k,a⟩
   ·grind
   ·split at a
    ·rename_i c b
     refine m.readyN n (λi d=>m.dc e.on c b (hready e.on ?_) i d) a;simp only[Zg,w6,uh,beq_iff_eq];grind
    ·cases a
theorem lu.ready2{f:Nat->Bool}{T:AS}(m:lu all St E S₀ f T){o:Oper}(a:∀j,Zg o j=true->f j=true){j:Nat}(h:Ti all o j=true):f j=true :=
 m.readyN 4 a h
theorem lu.step(h:Za P all S₀ St E)(w:gM all 0 all=true){f:Nat->Bool}{T:AS}(m:lu all St E S₀ f T){i:Nat}{o:Oper}(ho:all[i]?=some o)(D:f i=false)(c:∀j,Zg o j=true->f j=true) :
 (∀t∈EO all o,Xf (St i) T t)/\(∀b∈RR (St i) all o (E i),Vv (St i) T b)/\lu all St E S₀ (λk=>if k=i then true else f k) (Z2 o.dst (E i) T):=by
 have u:=PT all 0 (λj=>by simp) w;have I:i<all.length:=by grind
 have d:∀(k:Nat)(o':Oper),all[k]?=some o'->i<k->f k=true->Ti all o' i=false:=by
  intro k o' a F g
  cases s:Ti all o' i with
  | false=>rfl
  | true=>have:=m.ready2 (λj r=>m.dc k o' a g j r) s;rw[D]at this;cases this
 have l:(St i).length=T.length:=by rw[h.len i (by omega),m.len]
 have G:∀t∈EO all o,Xf (St i) T t:=by
  intro t J;refine(m.vs t i (by omega) λk o' a hd=>?_).symm;rcases vz k i with hk|hk|hk
  ·refine⟨λ_=>hk,λ_=>?_⟩;rcases(u i o (by omega) ho).2 k o' hk a with s|⟨q,_⟩
   ·exact m.ready2 c s
   ·grind
  all_goals grind
 have H:∀b∈RR (St i) all o (E i),Vv (St i) T b:=by
  intro b C;have key:=m.vb b i (by omega) λk o' a hd=>?_
  ·exact⟨key.1.symm,key.2.symm⟩
  ·rcases vz k i with hk|hk|hk
   ·refine⟨λ_=>hk,λ_=>?_⟩
    cases s:Ti all o k with
    | true=>exact m.ready2 c s
    | false=>exact absurd (List.mem_append.2 (.inl C)) (Pv (h.box k i o' o hk a ho s).1 b hd)
   ·grind
   ·refine⟨λg=>?_,λK=>by omega⟩;exact absurd hd (Pv (h.box i k o o' hk ho a (d k o' a hk g)).2 b C)
 refine⟨G,H,?_⟩;have x:=h.next i o ho;refine⟨by rw[Yq];exact m.len,?_,?_,?_⟩
 ·intro k o' a hk j r;by_cases y:k=i
  ·grind
  ·simp only[y,if_false]at hk;have:=m.dc k o' a hk j r;simp[this]
 ·intro t j r n;by_cases hd:o.dst=some t
  ·have z:i<j:=(n i o ho hd).1 (by simp);have q:Xf (St j) (St (i+1)) t:=h.keepS j (by omega) r λk o' A B a p=>h.once i k o o' (by omega) ho a t hd p;have v:Xf (Z2 o.dst (E i) T) (St (i+1)) t:=by rw[x];exact cK l.symm hd
   exact v.trans q.symm
  ·have q:=m.vs t j r λk o' a p=>by
    grind
   exact(Uz hd).trans q
 ·intro b j r n;by_cases hd:b∈(E i).bx.map (·.1)
  ·have z:i<j:=(n i o ho hd).1 (by simp)
   have q:Vv (St j) (St (i+1)) b:=h.keepB j (by omega) r λk o' A B a p=>by
    have g:f k=true:=by grind
    have s:=d k o' a (by omega) g;exact Pv (h.box i k o o' (by omega) ho a s).1 b hd (List.mem_append.2 (.inr p))
   have v:Vv (Z2 o.dst (E i) T) (St (i+1)) b:=by rw[x];exact aH l.symm hd
   exact⟨v.1.trans q.1.symm,v.2.trans q.2.symm⟩
  ·have q:=m.vb b j r λk o' a p=>by
    grind
   have v:=Ta (dst:=o.dst) (e:=E i) (S:=T) hd;exact⟨v.1.trans q.1,v.2.trans q.2⟩
end
section
variable {P:Program} {X:Cx} {G:Nat->Prop} {β:Nat->Value} {S:AS} {a:Act} {w:World}
theorem WN(N:Nat)(f:Nat->Sl):∀n,(fl N n f).length=n
 | 0=>rfl
 | n+1=>by simp[fl,WN N f n]
theorem ae(N:Nat)(f:Nat->Sl):∀(n i:Nat),n<=N->Ai (fl N n f) i=if i<n then f (N-n+i)else fD
 | 0,i,_=>by simp[fl,Ai]
 | n+1,0,h=>by
   show f (Nat.sub N (Nat.succ n))=_;simp
 | n+1,i+1,h=>by
   show Ai (fl N n f) i=_;rw[ae N f n i (by omega)];by_cases e:i<n
   ·rw[tf e,tf (by omega)];congr 1;omega
   ·rw[tn e,tn (by omega)]
structure sp(args:List AV)(n k:Nat)(cs:List C)(qs:List Nat):Prop where
 len:qs.length=cs.length
 kl:k<args.length
 small:args.length<=n
 lt:∀(j:Nat) sz e xs q,cs[j]?=some (.own sz e xs)->qs[j]?=some q->q<n/\q≠k
 inj:∀(i j:Nat) sz e xs sz' e' xs' q,cs[i]?=some (.own sz e xs)->cs[j]?=some (.own sz' e' xs')->qs[i]?=some q->qs[j]?=some q->i=j
 no:∀c∈cs,∀i n,c≠.sl i n
structure GE(S:AS)(cl cs':List C)(used:List Nat):Prop where
 len:cl.length=cs'.length
 at_:∀(j:Nat) c c',cl[j]?=some c->cs'[j]?=some c'->(∃x,c=.d x/\c'=.d (norm x))\/(∃q n sz e ys av,c=.sl q n/\c'=.own sz e ys/\Ai S q=⟨av,.row sz e ys,n⟩/\q∈used)
 inj:∀(i j:Nat) q n n',cl[i]?=some (.sl q n)->cl[j]?=some (.sl q n')->i=j
 used:∀(j:Nat) q n,cl[j]?=some (.sl q n)->q∈used
end
section
variable {P:Program} {X:Cx} {ops:Array Oper} {St:Nat->AS} {E:Nat->Hy} {S₀:AS}
def Zh(listed:Array Bool)(k:Nat):Bool:=listed.getD k false
def XW(all:List Oper)(f:Nat->Bool):List Nat:=((List.range all.length).filter f).flatMap λk=>Ey ((all[k]?).bind (·.dst))
theorem NP{all:List Oper}{f:Nat->Bool}{t:Nat}:t∈XW all f↔∃(k:Nat)(o:Oper),all[k]?=some o/\f k=true/\o.dst=some t:=by
 simp only[XW,uK,List.mem_filter,List.mem_range];constructor
 ·rintro⟨k,⟨hk,b⟩,a⟩;refine⟨k,all[k],P3 hk,b,?_⟩;rw[P3 hk]at a;simp only[tc]at a
  cases hd:all[k].dst with
  | none=>simp[hd,Ey]at a
  | some d=>simp[hd,Ey]at a;rw[a]
 ·rintro⟨k,o,ho,b,hd⟩
  have hk:k<all.length:=by
   rcases tG k all.length with h|h
   ·exact h
   ·simp[tB h]at ho
  exact⟨k,⟨hk,b⟩,by simp[ho,hd,Ey]⟩
theorem WA{p p':Nat->Bool}{i:Nat}(b:p i=true)(c:p' i=false)(a:∀x,x≠i->p' x=p x):∀l:List Nat,(l.filter p').length+l.count i=(l.filter p).length
 | []=>rfl
 | x :: r=>by
   have ih:=WA b c a r;by_cases e:x=i
   ·subst e;simp[vF,b,c,<-ih];omega
   ·have d:(x==i)=false:=by simp[e]
    rw[we,d];by_cases hp:p x=true
    ·simp[vF,hp,a x e];omega
    ·simp[vF,hp,a x e];omega
theorem lu.all_done(h:Za P ops.toList S₀ St E){f:Nat->Bool}{T:AS}(m:lu ops.toList St E S₀ f T)(d:∀k,k<ops.size->f k=true):T=St ops.size:=by
 have hk:∀(k:Nat)(o:Oper),ops.toList[k]?=some o->k<ops.size:=by
  intro k o ho;rcases tG k ops.size with h|h
  ·exact h
  ·simp[h]at ho
 have a:ops.size<=ops.toList.length:=by simp
 refine ml (by rw[m.len,h.len _ a]) (λt=>m.vs t _ a λk o ho _=>?_) (λb=>m.vb b _ a λk o ho _=>?_)
 ·exact⟨λ_=>hk k o ho,λc=>d k c⟩
 ·exact⟨λ_=>hk k o ho,λc=>d k c⟩
theorem mc{o:Oper}{i:Nat}:Zg o i=true↔∃e∈o.after,e.on=i/\Region.binds .any e=true:=by
 simp only[Zg,w6,Array.mem_toList_iff,uh,beq_iff_eq]
theorem j9(h:Za P ops.toList S₀ St E)(g:gM ops.toList 0 ops.toList=true){Q:Exit->Act->World->Prop}
 (hQ:∀β a w (done:List Nat),SimB X (·∈done) β (St ops.size) a w->Q .normal a w) :
 ∀(fuel:Nat)(b:Array Bool)(T:AS)(β:Nat->Value)(a:Act)(w:World),b.size=ops.size->lu ops.toList St E S₀ (Zh b) T->SimB X (·∈XW ops.toList (Zh b)) β T a w ->
  ((List.range ops.size).filter λk=>!Zh b k).length<=fuel->wpAny P .any ops Q fuel b a w:=by
 have v:∀(b:Array Bool)(T:AS)(β:Nat->Value)(a:Act)(w:World),b.size=ops.size->lu ops.toList St E S₀ (Zh b) T->SimB X (·∈XW ops.toList (Zh b)) β T a w ->
  Region.ready .any ops b=[]->Q .normal a w:=by
  intro b T β a w q m z hr
  have F:∀k,k<ops.size->Zh b k=true:=by
   intro k
   induction k using Nat.strongRecOn with
   | _ k ih =>
     intro hk
     cases hfk:Zh b k with
     | true=>rfl
     | false =>
       exfalso
       have y:k∈Region.ready .any ops b:=by
        refine mem_ready.2 ⟨?_,ops[k],by simp[hk],λe G J=>?_⟩
        ·simp only[Zh,Array.getD]at hfk ⊢;rw[dif_pos (by omega)]at hfk ⊢;exact hfk
        ·have s:=(PT (all:=ops.toList) ops.toList 0 (λj=>by simp) g k ops[k] (by omega) (by simp[hk])).1.1 e G J;exact ih e.on s (by omega)
       rw[hr]at y
       cases y
  rw[m.all_done h F]at z;exact hQ β a w _ z
 intro fuel
 induction fuel with
 | zero =>
   intro b T β a w q m z hc
   have hr:Region.ready .any ops b=[]:=by
    cases hr:Region.ready .any ops b with
    | nil=>rfl
    | cons i r =>
      exfalso
      have L:=(mem_ready.1 (show i∈Region.ready .any ops b by rw[hr];simp));obtain⟨A,o,ho,_⟩:=L
      have s:i<ops.size:=by
       rcases tG i ops.size with h|h
       ·exact h
       ·simp[uj h]at ho
      have:i∈(List.range ops.size).filter λk=>!Zh b k:=by
       simp only[List.mem_filter,List.mem_range,wz];refine⟨s,?_⟩;simp only[Zh,Array.getD]at A ⊢;rw[dif_pos (by omega)]at A ⊢;exact A
      have:=List.length_pos_of_mem this;omega
   exact⟨hr,v b T β a w q m z hr⟩
 | succ fuel ih =>
   intro b T β a w q m z hc;refine⟨λhr=>v b T β a w q m z hr,λi L=>?_⟩;obtain⟨A,o,ho,H⟩:=mem_ready.1 L
   have s:i<ops.size:=by
    rcases tG i ops.size with h|h
    ·exact h
    ·simp[uj h]at ho
   have f:ops.toList[i]?=some o:=by simpa using ho
   have B:Zh b i=false:=by
    simp only[Zh,Array.getD]at A ⊢;rw[dif_pos (by omega)]at A ⊢;exact A
   have l:∀j,Zg o j=true->Zh b j=true:=by
    intro j hj;obtain⟨e,G,M,J⟩:=mc.1 hj;rw[<-M];exact H e G J
   obtain⟨hS,hB,m'⟩:=m.step h g f B l;have C:(St i).length=T.length:=by rw[h.len i (by simp;omega),m.len]
   have hy:=h.does i o f T (XW ops.toList (Zh b)) hS hB C (λj I t Y n=>by
    rw[UF]at n
    cases hoj:ops.toList[j]? with
    | none=>simp[hoj]at n
    | some oj =>
      simp[hoj]at n;refine NP.2 ⟨j,oj,hoj,?_,n⟩;have N:t∈EO ops.toList o:=by simp[EO,Yk,Y,UF,hoj,n,Ey]
      have O:=(PT (all:=ops.toList) ops.toList 0 (λj=>by simp) g i o (by omega) f).1.2 j I Y;rcases(PT (all:=ops.toList) ops.toList 0 (λj=>by simp) g i o (by omega) f).2 j oj O hoj with R|⟨S,_⟩
      ·exact m.ready2 l R
      ·exact absurd N (S t n))
   obtain⟨e,⟨_,G⟩,U⟩:=ZW z hy;subst G
   have c:=U.step (Q:=Q) (K:=wpAny P .any ops Q fuel (b.setIfInBounds i true)) (λd hd hm=>by
    obtain⟨k,ok,hok',hfk,hdk⟩:=NP.1 hm;rcases vz k i with hk|hk|hk
    ·exact h.once k i ok o hk hok' f d hdk hd
    ·subst hk;rw[B]at hfk;cases hfk
    ·exact h.once i k o ok hk f hok' d hd hdk)
    (λβ' a' w' V=>by
     have u:Zh (b.setIfInBounds i true)=λk=>if k=i then true else Zh b k:=by
      funext k;simp only[Zh,tT,ue];by_cases D:k=i
      ·subst D;simp[q,s]
      ·simp[Ne.symm D,D]
     refine ih _ _ β' a' w' (by simp[q]) (by rw[u];exact m') (V.weaken λt n=>?_) ?_
     ·rw[u];rcases List.mem_append.1 n with n|n
      ·refine NP.2 ⟨i,o,f,by simp,?_⟩
       cases hd:o.dst with
       | none=>simp[hd,Ey]at n
       | some d=>simp[hd,Ey]at n;rw[n]
      ·obtain⟨k,ok,hok',hfk,hdk⟩:=NP.1 n;exact NP.2 ⟨k,ok,hok',by simp[hfk],hdk⟩
     ·have:=WA (p:=λk=>!Zh b k) (p':=λk=>!Zh (b.setIfInBounds i true) k) (i:=i) (by simp[B]) (by simp[u]) (λx hx=>by simp[u,hx]) (List.range ops.size);have Z:0<(List.range ops.size).count i:=List.count_pos_iff.2 (by simp[s]);omega)
   unfold wpOp;simp only[ho];split
   ·rename_i W;rw[tf W]at c;exact .inl c
   ·rename_i W;rw[tn W]at c;exact c
theorem L4(P:Program):Nk P:=by
 intro id ops Q S X β a w hy hs;have hy:Kb (gM ops.toList 0 ops.toList=true/\P.follows .mixedOrders=true) (qT P ops.toList 0 [] [] ops.toList S λS=>plain S (Q .normal)):=hy;obtain⟨⟨l,u⟩,hy⟩:=hy;obtain⟨St,E,p,hK,e,_,f,g,_,m⟩:=nM P ops.toList ops.toList 0 [] [] S _ (λj=>by simp) hy;have c:Za P ops.toList S St E:=⟨p,λi o ho=>e i o (by omega) ho,λi j o o' h q r=>f i j o o' (by omega) h q r,λi o ho=>g i o (by omega) ho,λi j o o' h q r=>m i j o o' (by omega) h q r⟩;refine wp_region_any u ?_;have v:SimB X (λ_=>False) β S a { w with drawn:=w.drawn+1 }:=hs.world ⟨rfl,rfl,rfl,td _,λ_ _=>rfl⟩;refine j9 c l (λx y w' done hs'=>?_) ops.size _ S β a _ (by simp) ?_ (v.weaken λ_ n=>n.elim) ?_
 ·rw[Y2]at hK;simp only[tE,tK]at hK;exact⟨x,_,hK,hs'.plain⟩
 ·have n:∀k,Zh (Array.replicate ops.size false) k=false:=by
   intro k;simp only[Zh,Array.getD];split<;>simp
  refine⟨rfl,(λk o _ hk=>by rw[n k]at hk;cases hk),λt i s d=>?_,λb i s d=>?_⟩
  ·rw[<-p];refine(c.keepS (i:=0) i (by omega) s λk o _ hk ho hd=>?_).symm;have:=(d k o ho hd).2 hk;rw[n k]at this;cases this
  ·rw[<-p]
   have:=c.keepB (b:=b) (i:=0) i (by omega) s λk o _ hk ho hd=>by
    have:=(d k o ho hd).2 hk;rw[n k]at this;cases this
   exact⟨this.1.symm,this.2.symm⟩
 ·exact tw (ug _ _) (by simp)
theorem D2{f:FuncId}{fn:Func}{args:List AV}{r:AV}(b:P.funcs[f]?=some fn)(a:(fn.name == "runtime.NumGoroutine")=false)(hr:qo P fn args r):Ay P f args r :=
 SZ (L4 P) b a hr
theorem eC{f:FuncId}{fn:Func}{args a:List AV}{r:AV}(h:P.funcs[f]?=some fn)(b:(fn.name == "runtime.NumGoroutine")=false)(g:a.length=args.length)
 (c:∀(i:Nat) x y,args[i]?=some x->a[i]?=some y->match y with
  | .own sz e _=>∃xs,x=.own sz e xs
  | .optr cs=>∃d,x=.optr d/\cs.length=d.length
  | .cc _ l=>∃(ds:List D)(sz:Nat)(e:TypeId)(xs ys:List D),x=.cc none (ds.map .d++[.own sz e xs])/\l=ds.map .d++[.own sz e ys]
  | _=>True) (hr:pR P fn args a r):DU P f args a r :=
 Tp (L4 P) h b g c hr
theorem OT(J:List Nat){f:FuncId}{fn:Func}{args:List AV}{r:AV}(b:P.funcs[f]?=some fn)(a:(fn.name == "runtime.NumGoroutine")=false)(hr:cE P J fn args r):Ay P f args r :=
 SZ (L4 P) b a hr
theorem Yw(J:List Nat){f:FuncId}{fn:Func}{args a:List AV}{r:AV}(h:P.funcs[f]?=some fn)(b:(fn.name == "runtime.NumGoroutine")=false)(g:a.length=args.length)
 (c:∀(i:Nat) x y,args[i]?=some x->a[i]?=some y->match y with
  | .own sz e _=>∃xs,x=.own sz e xs
  | .optr cs=>∃d,x=.optr d/\cs.length=d.length
  | .cc _ l=>∃(ds:List D)(sz:Nat)(e:TypeId)(xs ys:List D),x=.cc none (ds.map .d++[.own sz e xs])/\l=ds.map .d++[.own sz e ys]
  | _=>True) (hr:X3 P J fn args a r):DU P f args a r :=
 Tp (L4 P) h b g c hr
theorem sa(J:List Nat){f:FuncId}{fn:Func}{args:List AV}{k sz:Nat}{e:TypeId}{xs ys:List D}(q:Nat)(g:P.funcs[f]?=some fn)(a:(fn.name == "runtime.NumGoroutine")=false)(b:fn.results=#[])
 (hk:args[k]?=some .any) (hq:q<args.length) (d:q≠k) (c:args.all (λx=>!x.mut)=true) (hr:ly P J fn args k q sz e xs ys):Wj P f args k sz e xs ys :=
 Zz (L4 P) g a b hk hq d c hr
end
theorem R1{S S':AS}(h:EC S' (λS'=>Le S S')):Le S S':=by rw[Fz]at h;exact h
end Go.Abs
namespace Go.Proofs.YtkjijhldfdplgaaGreatDoor.P
open Go.Abs Go.Proofs
@[reducible] def Am{α:Type}(sz:Nat)(f:α->D)(l:List α):D:=.list sz (l.map f)
theorem Td{ρ:Type}{b a:Bool}{x y:Prop}{X Y:Option ρ}{R:ρ}(c:(bif a then X else Y)=some R)(e:b=a)(d:X=some R->x)(f:Y=some R->y):Bool.rec y x b:=by
 subst e
 cases b with
 | true=>exact d c
 | false=>exact f c
theorem lI{ρ:Type}{b a:Bool}{x y:Prop}{X Y:Option ρ}{R:ρ}(c:(bif a then X else Y)=some R)(e:b=a)(d:a=true->X=some R->x)(f:a=false->Y=some R->y):Bool.rec y x b:=by
 subst e
 cases b with
 | true=>exact d rfl c
 | false=>exact f rfl c
theorem oy{b a:Bool}{x y:Prop}(e:b=a)(h:a=true)(k:x):Bool.rec y x b:=by
 subst e;subst h;exact k
theorem r7{b a:Bool}{x y:Prop}(e:b=a)(h:a=false)(k:y):Bool.rec y x b:=by
 subst e;subst h;exact k
theorem sj{x a b:Int}(h:(x==a)=true)(k:(a==b)=false:=by rfl):(x==b)=false:=by
 rw[beq_iff_eq.1 h];exact k
theorem sL{α:Type}{xs:List α}{i j:Int}{x:α}{f:α->D}{K:D->Prop}(h:idx xs i=some x)(e:j=i)(k:K (f x)):At (xs.map f) j K:=by
 obtain⟨a,_,b⟩:=Rz h;subst e;exact⟨⟨a,_,by rw[tr,b];rfl,k⟩⟩
theorem Zc{α:Type}{xs:List α}{i j:Int}{x:α}{f:α->D}{K:D->Prop}(h:idx xs i=some x)(e:j=((i.toNat:Nat):Int))(k:K (f x)):At (xs.map f) j K:=by
 obtain⟨a,_,_⟩:=Rz h;exact sL h (e.trans (Int.toNat_of_nonneg a)) k
theorem sF{α:Type}{xs:List α}{i j:Int}{x:α}{f:α->D}{k:Prop}(h:idx xs i=some x)(e:j=i)(hk:k):Kb (0<=j/\j.toNat<(xs.map f).length) k:=by
 obtain⟨a,b,_⟩:=Rz h;subst e;exact⟨⟨a,by rw[sX];exact b⟩,hk⟩
theorem rq{α ρ:Type}{xs:List α}{i j:Int}{f:α->D}{K:D->Prop}{G:α->Option ρ}{R:ρ}(a:(idx xs i).bind G=some R)(e:j=i)(k:∀x,idx xs i=some x->G x=some R->K (f x)):At (xs.map f) j K:=by
 obtain⟨x,h,a⟩:=Ws a;exact sL h e (k x h a)
theorem Ph{α ρ:Type}{xs:List α}{f:α->D}{i j:Int}{k:Prop}{G:α->Option ρ}{R:ρ}(a:(idx xs i).bind G=some R)(e:j=i)(hk:∀x,idx xs i=some x->G x=some R->k):Kb (0<=j/\j.toNat<(xs.map f).length) k:=by
 obtain⟨x,h,a⟩:=Ws a;exact sF h e (hk x h a)
theorem snoc{α:Type}(f:α->D)(xs:List α)(x:α):xs.map f++[f x]=(xs++[x]).map f:=by simp
theorem jl(k:IntKind)(xs:List Int)(x:Int):xs.map (D.int k)++[D.int k x]=(xs++[x]).map (D.int k):=by simp
theorem rY(xs:List Bool)(x:Bool):xs.map D.bool++[D.bool x]=(xs++[x]).map D.bool:=by simp
theorem rZ(xs:List ByteArray)(x:ByteArray):xs.map D.str++[D.str x]=(xs++[x]).map D.str:=by simp
theorem jm{α:Type}(sz:Nat)(f:α->D)(xs:List (List α))(x:List α):xs.map (Am sz f)++[D.list sz (x.map f)]=(xs++[x]).map (Am sz f):=by simp[Am]
theorem pa(k:IntKind)(x:Int)(xs:List Int):[D.int k x]++xs.map (D.int k)=([x]++xs).map (D.int k):=rfl
theorem sD{α:Type}(sz:Nat)(f:α->D)(x:List α)(xs:List (List α)):[D.list sz (x.map f)]++xs.map (Am sz f)=([x]++xs).map (Am sz f):=rfl
theorem ry{α:Type}(f:α->D)(xs ys:List α):xs.map f++ys.map f=(xs++ys).map f:=List.map_append.symm
theorem rA{α:Type}(f:α->D)(xs:List α)(l h:Int):NB (xs.map f) l h=(NB xs l h).map f:=by simp[NB,List.map_take,List.map_drop]
theorem pk{α:Type}(f:α->D)(n:Nat)(x:α):List.replicate n (f x)=(List.replicate n x).map f:=List.map_replicate.symm
theorem rX{α:Type}(f:α->D)(xs:List α)(i:Nat)(x:α):(xs.map f).set i (f x)=(xs.set i x).map f:=by rw[tH]
theorem C8{n m b:Nat}{q:Prop}(h:rm n m=true)(a:b<=1024)(hq:q):n+m<=maxLen/\(n+m)*b<=140737488355328/\q:=by
 have h:=tb h;refine⟨by unfold maxLen;omega,?_,hq⟩
 calc (n+m)*b<=137438953472*1024:=vh h a
  _=140737488355328:=by decide
theorem WP{l:Int}{b:Nat}(h:(decide (0<=l)&&rm l.toNat 0)=true)(d:b<=1024):0<=l/\l<=l/\l<=(maxLen:Int)/\(b:Int)*l<=281474976710656:=by
 obtain⟨a,c⟩:=Bool.and_eq_true_iff.1 h;have a:=tb a;have c:=tb c;refine⟨a,ua _,by unfold maxLen;omega,?_⟩;have e:l<=137438953472:=by omega
 calc (b:Int)*l<=1024*l:=Int.mul_le_mul_of_nonneg_right (by omega) a
  _<=281474976710656:=by omega
end Go.Proofs.YtkjijhldfdplgaaGreatDoor.P
namespace Go.Abs
section
variable {β:Type}
def Mh(k:Int):List (Int×β)->Option β
 | []=>none
 | p :: r=>bif k==p.1 then some p.2 else Mh k r
def YT(k:Int)(v:β):List (Int×β)->List (Int×β)
 | []=>[(k,v)]
 | p :: r=>bif k==p.1 then(k,v) :: r else p :: YT k v r
def bm(k:ByteArray):List (ByteArray×β)->Option β
 | []=>none
 | p :: r=>bif k==p.1 then some p.2 else bm k r
def oh(k:ByteArray)(v:β):List (ByteArray×β)->List (ByteArray×β)
 | []=>[(k,v)]
 | p :: r=>bif k==p.1 then(k,v) :: r else p :: oh k v r
def mU(kd:IntKind)(f:β->D)(es:List (Int×β)):List (D×D):=es.map λp=>(.int kd p.1,f p.2)
def qa(f:β->D)(es:List (ByteArray×β)):List (D×D):=es.map λp=>(.str p.1,f p.2)
theorem dD(kd:IntKind)(f:β->D)(k:Int):∀es,Py (.int kd k) (mU kd f es)=(Mh k es).map f
 | []=>rfl
 | p :: r=>by
   have ih:=dD kd f k r;simp only[mU,tg,Py,Mh,JM]at ih ⊢
   cases k==p.1
   ·simpa using ih
   ·rfl
theorem cf(kd:IntKind)(f:β->D)(k:Int)(v:β):∀es,YS (.int kd k) (f v) (mU kd f es)=mU kd f (YT k v es)
 | []=>rfl
 | p :: r=>by
   have ih:=cf kd f k v r;simp only[mU,tg,YS,YT,JM]at ih ⊢
   cases k==p.1
   ·simpa using ih
   ·rfl
theorem dE(f:β->D)(k:ByteArray):∀es,Py (.str k) (qa f es)=(bm k es).map f
 | []=>rfl
 | p :: r=>by
   have ih:=dE f k r;simp only[qa,tg,Py,bm,JM]at ih ⊢
   cases k==p.1
   ·simpa using ih
   ·rfl
theorem jt(f:β->D)(k:ByteArray)(v:β):∀es,YS (.str k) (f v) (qa f es)=qa f (oh k v es)
 | []=>rfl
 | p :: r=>by
   have ih:=jt f k v r;simp only[qa,tg,YS,oh,JM]at ih ⊢
   cases k==p.1
   ·simpa using ih
   ·rfl
theorem PC(kd:IntKind)(f:β->D)(k:Int)(es:List (Int×β)):∀p∈mU kd f es,IT (.int kd k) p.1=true:=by
 intro p hp;obtain⟨q,_,rfl⟩:=List.mem_map.1 hp;simp[IT]
theorem dT(f:β->D)(k:ByteArray)(es:List (ByteArray×β)):∀p∈qa f es,IT (.str k) p.1=true:=by
 intro p hp;obtain⟨q,_,rfl⟩:=List.mem_map.1 hp;rfl
theorem UR{kd:IntKind}{f:β->D}{k:Int}{es:List (Int×β)}{z:β}{K:D->Bool->Prop}(h:K (f ((Mh k es).getD z)) (Mh k es).isSome):Uu (Py (.int kd k) (mU kd f es)) (f z) K:=by
 refine⟨⟨f ((Mh k es).getD z),(Mh k es).isSome,?_,?_,h⟩⟩<;>rw[dD]<;>cases Mh k es<;>rfl
theorem mK{f:β->D}{k:ByteArray}{es:List (ByteArray×β)}{z:β}{K:D->Bool->Prop}(h:K (f ((bm k es).getD z)) (bm k es).isSome):Uu (Py (.str k) (qa f es)) (f z) K:=by
 refine⟨⟨f ((bm k es).getD z),(bm k es).isSome,?_,?_,h⟩⟩<;>rw[dE]<;>cases bm k es<;>rfl
end
open Go.Proofs Go.Shelf Go.Sort
def FB(xs:List Int):List Int:=xs.mergeSort λx y=>decide (x<=y)
theorem length_sortI(xs:List Int):(FB xs).length=xs.length:=by simp[FB,vm]
theorem JK(xs:List Int):(xs.map (D.int .i64)).flatMap D.cells=xs.map (D.int .i64):=by
 induction xs with
 | nil=>rfl
 | cons x r ih=>simp[D.cells,ih]
theorem SP{O:Nat->Prop}{w:World}{vals:List Value}{xs:List Int}(h:B3 O w vals (xs.map (D.int .i64))):vals=xs.map (Value.int .i64):=by
 apply u6;intro j;by_cases b:j<vals.length
 ·have a:j<xs.length:=by have:=h.1;simp at this;omega
  have:=(h.2 j vals[j] (.int .i64 xs[j]) (by simp[b]) (by simp[a])).1
  cases h3:vals[j]with
  | int k n=>rw[h3]at this;cases this;simp[b,a,h3]
  | _=>rw[h3]at this;cases this
 ·have a:¬j<xs.length:=by have:=h.1;simp at this;omega
  rw[tB (by omega),tB (by simp;omega)]
theorem SI(O:Nat->Prop)(w:World)(xs:List Int):B3 O w (xs.map (Value.int .i64)) (xs.map (D.int .i64)):=by
 refine⟨by simp,λj v y a hy=>?_⟩;simp only[tr]at a hy
 cases h:xs[j]? with
 | none=>simp[h]at a
 | some n=>simp[h]at a hy;subst a;subst hy;exact⟨.int _ _,rfl⟩
theorem qb{P:Program}{ρ:Ren}(J:Lays.n189 P ρ)(q:Ft P (ρ.f 189)=true)(e:TypeId)(xs:List Int)(M:xs.length<4611686018427387904) :
 DU P (ρ.f 189) [.own 1 e (xs.map (D.int .i64))] [.own 1 e ((FB xs).map (D.int .i64))] (.tup []):=by
 refine⟨q,rfl,λO w vs W _ B N K r=>?_⟩
 obtain⟨v,rfl⟩:∃v,vs=#[v]:=by
  obtain⟨l⟩:=vs
  match l,B with
  | [v],_=>exact⟨v,rfl⟩
 obtain⟨_,_,vals,m,L⟩:=r 0 v _ rfl rfl;rw[JK]at L;obtain rfl:=SP L
 have Da:∀{w':World}{o:Ending},o=.returned (.tuple #[])->AA w.heap.size (Ip #[v] [.own 1 e (xs.map (D.int .i64))]) w w'->B0 w' e 1 v (FB xs).length ((FB xs).map (Value.int .i64)) ->
  ∃u,o=.returned u/\AA w.heap.size (Ip #[v] [.own 1 e (xs.map (D.int .i64))]) w w' /\
  Dp (λb=>w.heap.size<=b\/(Ip #[v] [.own 1 e (xs.map (D.int .i64))] b/\¬Ip #[v] [.own 1 e ((FB xs).map (D.int .i64))] b)) (λb=>O b\/Ip #[v] [.own 1 e ((FB xs).map (D.int .i64))] b) w' u (.tup []) /\
  ∀(i:Nat) u' x y,#[v][i]?=some u'->[AV.own 1 e (xs.map (D.int .i64))][i]?=some x->[AV.own 1 e ((FB xs).map (D.int .i64))][i]?=some y->Rc (λb=>O b\/Ip #[v] [.own 1 e ((FB xs).map (D.int .i64))] b\/Eg u (.tup []) b) w' u' x y:=by
  intro w' o C E hr;refine⟨_,C,E,⟨#[],rfl,rfl,λi u x h=>by simp at h,λi j u u' sz e ys Q o R b h=>by simp at h⟩,λi u' x y f z A=>?_⟩
  match i,f,z,A with
  | 0,f,z,A =>
    simp at f z A;subst f;subst z;subst A;refine⟨⟨by omega,λx hx=>?_,(FB xs).map (Value.int .i64),by simpa using hr,by rw[JK];exact SI _ _ _⟩,_,rfl⟩;obtain⟨n,_,rfl⟩:=List.mem_map.1 hx;rfl
  | i+1,f,_,_=>simp at f
 have none:xs=[]->∀p cap,v=.slice p 0 cap->Calls P (ρ.f 189) #[v] w λo w'=>∃u,o=.returned u/\AA w.heap.size (Ip #[v] [.own 1 e (xs.map (D.int .i64))]) w w' /\
  Dp (λb=>w.heap.size<=b\/(Ip #[v] [.own 1 e (xs.map (D.int .i64))] b/\¬Ip #[v] [.own 1 e ((FB xs).map (D.int .i64))] b)) (λb=>O b\/Ip #[v] [.own 1 e ((FB xs).map (D.int .i64))] b) w' u (.tup []) /\
  ∀(i:Nat) u' x y,#[v][i]?=some u'->[AV.own 1 e (xs.map (D.int .i64))][i]?=some x->[AV.own 1 e ((FB xs).map (D.int .i64))][i]?=some y->Rc (λb=>O b\/Ip #[v] [.own 1 e ((FB xs).map (D.int .i64))] b\/Eg u (.tup []) b) w' u' x y:=by
  intro F p cap d;subst F;have q:=Any.slices_Sort_int_none J p cap w;rw[<-d]at q;refine q.mono λo w' ⟨C,G⟩=>?_;subst G;refine Da C ⟨rfl,rfl,rfl,td _,λ_ _ _=>rfl⟩ ?_
  simpa [FB] using m
 rcases m with s|⟨F,_,a,d⟩
 ·rcases s.2 with⟨d,F⟩|⟨g,cap,cur,d,t,E,f,z,A,S⟩
  ·exact none (by simpa using F) _ _ d
  ·rw[sX]at f d;by_cases H:cap=0
   ·have hx:xs=[]:=tx (by omega);exact none hx (some ⟨g,0,Option.none⟩) cap (by rw[d,hx];rfl)
   have T:Holds (Value.int .i64) w g 0 xs.toArray:=holds_of_blockI E (by simpa using S);have U:g<w.heap.size:=(Array.getElem?_eq_some_iff.1 E).1;have q:=Any.slices_Sort_int J g 0 cap xs w T U M;rw[<-d]at q;refine q.mono λo w' ⟨C,n,os,G⟩=>?_;have c:=grownBy_sortedI (w:=w) (g:=g) (n:=n) (os:=os) (xs.mergeSort λx y=>decide (x<=y)).toArray;rw[<-G]at c;refine Da C ⟨c.os,c.tape,c.output,c.size,λk hk V=>c.block k hk λI=>?_⟩ (.inl ?_)
   ·refine V ⟨0,v,_,rfl,rfl,rfl,?_⟩;rw[d];simp only[Af,H,if_false];exact I.symm
   ·have:=ownsRow_sortedI (w:=w) (base:=0) (g:=g) (cap:=cap) (n:=n) (e:=e) (os:=os) (cur:=cur) (ss:=xs) (ts:=FB xs) (length_sortI xs) t E f z A;rw[length_sortI,G,d];exact this
 ·exact none (by simpa using F) _ _ d
open Go
theorem EQ(n:Nat)(l:List (Nat×AV))(b:Bx)(i:Nat):Ai (CY n l b) i=if i<n then C7 b i (DZ l i)else fD:=by
 unfold CY;rw[ae _ _ _ _ (td _),Nat.sub_self,tE]
theorem Lx(n:Nat)(l:List (Nat×AV))(b:Bx):(CY n l b).length=n:=WN _ _ _
theorem Jm:∀(b:Bx)(k:Nat)(v:AV),(C7 b k v).av=v
 | [],_,_=>rfl
 | (t,x,n) :: r,k,v=>by
   unfold C7
   cases Nat.beq t k<;>simp only[Jm r]
section
variable {X:Cx} {G:Nat->Prop} {β β':Nat->Value} {S S':AS} {a a':Act} {w w':World}
theorem SimB.exit(h:SimB X G β S a w)(g:Nat->Prop)(D:S'.length=S.length)(M:a'.tmps.size=a.tmps.size)(N:a'.defers=[])
 (A:AA w.heap.size (λb=>∃i,g i/\(Ai S i).box.owned=true/\Af (β i)=some b) w w')
 (c:∀i,¬g i->β' i=β i/\(Ai S' i).box=(Ai S i).box/\(Ai S' i).ver=(Ai S i).ver)
 (E:∀i,g i->(Ai S i).ver<(Ai S' i).ver\/((Ai S' i).ver=(Ai S i).ver/\β' i=β i))
 (n:∀i b,g i->(Ai S' i).box.owned=true->Af (β' i)=some b->w.heap.size<=b\/((Ai S i).box.owned=true/\Af (β i)=some b))
 (F:∀i j b,g i->g j->(Ai S' i).box.owned=true->(Ai S' j).box.owned=true->Af (β' i)=some b->Af (β' j)=some b->i=j)
 (H:∀i,g i->Jh β' (AM S') (OS β' X S') w' i (Ai S' i).box)
 (I:∀i,g i->(Ai S' i).ver≠0\/((Ai S' i).ver=(Ai S i).ver/\β' i=β i/\(Ai S i).box≠.none))
 (s:∀(t:Nat) v,a'.tmps[t]?=some v->(Ai S' t).av=.any\/((Ai S' t).av=(Ai S t).av/\(Ai S t).av.guards=[]/\a.tmps[t]?=some v)\/((Ai S' t).av.guards=[]/\Kc β' (AM S') (OS β' X S') w' a'.tmps v (Ai S' t).av))
 (V:∀t,(Ai S' t).av.guards=[]):SimB X G β' S' a' w':=by
 have O:∀b,b<w.heap.size->OS β' X S' b->OS β X S b:=by
  rintro b x (d|d|⟨i,d,f⟩)
  ·exact .inl d
  ·exact .inr (.inl d)
  ·by_cases l:g i
   ·rcases n i b l d f with m|⟨m,r⟩
    ·omega
    ·exact .inr (.inr ⟨i,m,r⟩)
   ·obtain⟨o,p,_⟩:=c i l;exact .inr (.inr ⟨i,by rw[<-p];exact d,by rw[<-o];exact f⟩)
 have hk:B7 (OS β X S) (OS β' X S') w w':=⟨A.size,O,λb x ho=>A.block b x λ⟨i,_,d,f⟩=>ho (.inr (.inr ⟨i,d,f⟩))⟩
 have U:∀i,AM S i<AM S' i\/(AM S' i=AM S i/\β' i=β i):=λi=>by
  by_cases l:g i
  ·exact E i l
  ·obtain⟨o,_,J⟩:=c i l;exact .inr ⟨J,o⟩
 refine⟨by rw[M,h.len,D],N,h.below.trans (A.weaken h.hbase λk hk W=>?_),tw h.hbase A.size,h.o₀,λb K=>⟨(h.rs b K).1,tt (h.rs b K).2 A.size⟩,λt v Y=>?_,λi=>?_,λi b d f=>?_,λi j b d f m r=>?_,λt u L=>?_,λi d f=>?_⟩
 ·rintro⟨i,_,d,f⟩;rcases(h.mine i k d f).1 with m|m
  ·omega
  ·exact W m
 ·rcases s t v Y with e|⟨e,p,J⟩|⟨_,e⟩
  ·rw[e];trivial
  ·rw[e];exact Kc.mono hk U (λu L=>by rw[p]at L;cases L) (h.slots t v J)
  ·exact e
 ·by_cases l:g i
  ·exact H i l
  ·obtain⟨o,p,_⟩:=c i l;rw[p];refine Jh.mono hk U o (λb x ho P=>A.block b x ?_) (h.boxes i);rintro⟨j,y,d,f⟩;exact l (h.inj i j b ho d P f▸y)
 ·by_cases l:g i
  ·rcases n i b l d f with m|⟨m,r⟩
   ·exact⟨.inl (tw h.hbase m),λhr=>by have:=(h.rs b hr).2;omega⟩
   ·exact h.mine i b m r
  ·obtain⟨o,p,_⟩:=c i l;exact h.mine i b (by rw[<-p];exact d) (by rw[<-o];exact f)
 ·have z:∀i,¬g i->(Ai S' i).box.owned=true->Af (β' i)=some b->(Ai S i).box.owned=true/\Af (β i)=some b:=λi l d f=>by
   obtain⟨o,p,_⟩:=c i l;exact⟨by rw[<-p];exact d,by rw[<-o];exact f⟩
  by_cases Q:g i
  ·by_cases y:g j
   ·exact F i j b Q y d f m r
   ·obtain⟨B,C⟩:=z j y f r;rcases n i b Q d m with q|⟨R,T⟩
    ·have:=h.blk B C;omega
    ·exact h.inj i j b R B T C
  ·obtain⟨B,C⟩:=z i Q d m;by_cases y:g j
   ·rcases n j b y f r with q|⟨R,T⟩
    ·have:=h.blk B C;omega
    ·exact h.inj i j b B R C T
   ·obtain⟨Z,m2⟩:=z j y f r;exact h.inj i j b B Z C m2
 ·rw[V t]at L;cases L
 ·by_cases l:g i
  ·rcases I i l with m|⟨m,r,h5⟩
   ·exact absurd d m
   ·rw[r];exact h.ini i (by rw[<-m];exact d) h5
  ·obtain⟨o,p,J⟩:=c i l;rw[o];exact h.ini i (by rw[<-J];exact d) (by rw[<-p];exact f)
theorem SimB.exitRow{n q sz v:Nat}{e:TypeId}{xs ys:List D}{L:List (Nat×AV)}{B:Bx}(h:SimB X (λ_=>False) β (CY n L B) a w)(K:List Nat)(hq:q<n)(F:∀u,C7 B q u=⟨u,.row sz e xs,v⟩)(o:∀p∈L,p.2.guards=[])
 (Q:a'.tmps.size=a.tmps.size) (R:a'.defers=[]) (hK:∀k∈K,a'.tmps[k]?=a.tmps[k]?)
 (g:AA w.heap.size (λb=>Af (β q)=some b) w w') (s:∀y∈ys,y.cells.length=sz)
 (hr:∃vals,B0 w' e sz (β q) ys.length vals/\∀O:Nat->Prop,(∀b,O b->OS β X (CY n L B) b)->B3 O w' vals (ys.flatMap D.cells)) :
 SimB X (λ_=>False) β (CY n (L.filter λp=>K.contains p.1) (B.map λp=>if p.1=q then(p.1,.row sz e ys,p.2.2)else p)) a' w':=by
 have H:∀k,DZ (L.filter λp=>K.contains p.1) k=if K.contains k then DZ L k else .any:=by
  intro k;clear o h hr
  induction L with
  | nil=>simp[DZ]
  | cons p r ih =>
    obtain⟨t,x⟩:=p;rw[vF];by_cases s:K.contains t=true
    ·rw[tf (by simpa using s)];unfold DZ
     cases g:Nat.beq t k with
     | true =>
       have:=tN g;subst this;simp only[s,if_true]
     | false=>simp only[ih]
    ·rw[tn (by simpa using s),ih];by_cases hk:K.contains k=true
     ·have:Nat.beq t k=false:=by
       cases g:Nat.beq t k with
       | true=>rw[tN g]at s;exact absurd hk s
       | false=>rfl
      rw[tf hk,tf hk]
      conv=>rhs;unfold DZ
      simp only[this]
     ·rw[tn hk,tn hk]
 have z:∀(B:Bx) k u,C7 (B.map λp=>if p.1=q then(p.1,.row sz e ys,p.2.2)else p) k u=if k=q/\(∃p∈B,p.1=q)then⟨u,.row sz e ys,(C7 B k u).ver⟩else C7 B k u:=by
  intro B k u
  induction B with
  | nil=>simp[C7]
  | cons p r ih =>
    obtain⟨t,x,m⟩:=p;rw[tg];by_cases N:t=q
    ·subst N;simp only[if_true];unfold C7
     cases g:Nat.beq t k with
     | true =>
       have:=tN g;subst this;simp
     | false =>
       have T:k≠t:=λe=>by subst e;simp at g
       simp only[ih];simp[T]
    ·simp only[N,if_false];unfold C7
     cases g:Nat.beq t k with
     | true =>
       have:=tN g;subst this;rw[tn (λh=>N h.1)]
     | false =>
       have Z:(∃p∈(t,x,m) :: r,p.1=q)↔∃p∈r,p.1=q:=⟨λ⟨p,hp,hq⟩=>by
        rcases List.mem_cons.1 hp with U|U
        ·rw[U]at hq;exact absurd hq N
        ·exact⟨p,U,hq⟩,λ⟨p,hp,hq⟩=>⟨p,ut _ hp,hq⟩⟩
       show C7 _ k u=if _ then _ else _
       rw[ih];simp only[Z]
 have I:∃p∈B,p.1=q:=by
  have A:=F .any;clear z F hr h
  induction B with
  | nil=>simp[C7]at A
  | cons p r ih =>
    obtain⟨t,x,m⟩:=p;unfold C7 at A
    cases g:Nat.beq t q with
    | true=>exact⟨_,uH ..,tN g⟩
    | false =>
      rw[g]at A;obtain⟨p,hp,he⟩:=ih A;exact⟨p,ut _ hp,he⟩
 have l:∀i,Ai (CY n (L.filter λp=>K.contains p.1) (B.map λp=>if p.1=q then(p.1,.row sz e ys,p.2.2)else p)) i=if i<n then(if i=q then⟨if K.contains i then DZ L i else .any,.row sz e ys,v⟩else C7 B i (if K.contains i then DZ L i else .any))else fD:=by
  intro i;rw[EQ,H,z];by_cases c:i<n
  ·rw[tf c,tf c];by_cases d:i=q
   ·subst d;rw[tf ⟨rfl,I⟩,tf rfl,F]
   ·rw[tn (λh=>d h.1),tn d]
  ·rw[tn c,tn c]
 have V:∀i u u',(C7 B i u).box=(C7 B i u').box/\(C7 B i u).ver=(C7 B i u').ver:=by
  intro i u u';clear z F hr h I l
  induction B with
  | nil=>exact⟨rfl,rfl⟩
  | cons p r ih =>
    obtain⟨t,x,m⟩:=p;unfold C7
    cases Nat.beq t i
    ·exact ih
    ·exact⟨rfl,rfl⟩
 have f:Ai (CY n L B) q=⟨DZ L q,.row sz e xs,v⟩:=by rw[EQ,tf hq,F]
 have J:∀k,(DZ L k).guards=[]:=by
  intro k;clear H h hr l f
  induction L with
  | nil=>rfl
  | cons p r ih =>
    obtain⟨t,x⟩:=p;unfold DZ
    cases Nat.beq t k with
    | true=>exact o _ (uH ..)
    | false=>exact ih λp hp=>o p (ut _ hp)
 have M:∀i,(Ai (CY n (L.filter λp=>K.contains p.1) (B.map λp=>if p.1=q then(p.1,.row sz e ys,p.2.2)else p)) i).av=if i<n then(if K.contains i then DZ L i else .any)else .any:=by
  intro i;rw[l];by_cases c:i<n
  ·rw[tf c,tf c];by_cases d:i=q
   ·rw[tf d]
   ·rw[tn d,Jm]
  ·rw[tn c,tn c];rfl
 have C:∀i,i≠q->(Ai (CY n (L.filter λp=>K.contains p.1) (B.map λp=>if p.1=q then(p.1,.row sz e ys,p.2.2)else p)) i).box=(Ai (CY n L B) i).box/\(Ai (CY n (L.filter λp=>K.contains p.1) (B.map λp=>if p.1=q then(p.1,.row sz e ys,p.2.2)else p)) i).ver=(Ai (CY n L B) i).ver:=by
  intro i d;rw[l,EQ];by_cases c:i<n
  ·rw[tf c,tf c,tn d];exact V _ _ _
  ·rw[tn c,tn c];exact⟨rfl,rfl⟩
 have E:Ai (CY n (L.filter λp=>K.contains p.1) (B.map λp=>if p.1=q then(p.1,.row sz e ys,p.2.2)else p)) q=⟨if K.contains q then DZ L q else .any,.row sz e ys,v⟩:=by rw[l,tf hq,tf rfl]
 refine h.exit (λi=>i=q) (by rw[Lx,Lx]) Q R (g.weaken (td _) λk _ hk=>λhh=>hk ⟨q,rfl,by rw[f];rfl,hh⟩) (λi c=>⟨rfl,(C i c).1,(C i c).2⟩) (λi c=>by subst c;rw[E,f];exact .inr ⟨rfl,rfl⟩)
  (λi b c A W=>by subst c;exact .inr ⟨by rw[f];rfl,W⟩) (λi j b c P _ _ _ _=>c.trans P.symm) (λi c=>?_) (λi c=>by subst c;exact .inr ⟨by rw[E,f],rfl,by rw[f];simp⟩) (λt u hu=>?_) (λt=>?_)
 ·subst c;rw[E];have Y:=h.boxes i;rw[f]at Y;obtain⟨vals,A,W⟩:=hr;refine⟨Y.1,s,vals,A,W _ ?_⟩;rintro b (h3|h3|⟨j,h3,h4⟩)
  ·exact .inl h3
  ·exact .inr (.inl h3)
  ·refine .inr (.inr ⟨j,?_,h4⟩);by_cases P:j=i
   ·subst P;rw[f];rfl
   ·rw[<-(C j P).1];exact h3
 ·rw[M];by_cases c:t<n
  ·rw[tf c];by_cases hk:K.contains t=true
   ·rw[tf hk];refine .inr (.inl ⟨?_,?_,?_⟩)
    ·rw[EQ,tf c,Jm]
    ·rw[EQ,tf c,Jm];exact J t
    ·rw[<-hK t (by simpa using hk)];exact hu
   ·rw[tn hk];exact .inl rfl
  ·rw[tn c];exact .inl rfl
 ·rw[M];by_cases c:t<n
  ·rw[tf c];by_cases hk:K.contains t=true
   ·rw[tf hk];exact J t
   ·rw[tn hk];rfl
  ·rw[tn c];rfl
theorem MS(K:List Nat):∀(L:List (Nat×AV))(k:Nat),DZ (L.filter λp=>K.contains p.1) k=if K.contains k then DZ L k else .any
 | [],k=>by simp[DZ]
 | (t,x) :: r,k=>by
   rw[vF];by_cases b:K.contains t=true
   ·rw[tf (by simpa using b)];unfold DZ
    cases hb:Nat.beq t k with
    | true =>
      have:=tN hb;subst this;simp only[b,if_true]
    | false=>simp only[MS K r]
   ·rw[tn (by simpa using b),MS K r];by_cases hk:K.contains k=true
    ·have:Nat.beq t k=false:=by
      cases hb:Nat.beq t k with
      | true=>rw[tN hb]at b;exact absurd hk b
      | false=>rfl
     rw[tf hk,tf hk]
     conv=>rhs;unfold DZ
     simp only[this]
    ·rw[tn hk,tn hk]
theorem Yt(t:Nat)(x:AV):∀(L:List (Nat×AV))(k:Nat),(∀p∈L,p.1≠t)->DZ (L++[(t,x)]) k=if k=t then x else DZ L k
 | [],k,_=>by
   show DZ [(t,x)] k=_;unfold DZ
   cases hb:Nat.beq t k with
   | true=>rw[tf (tN hb).symm]
   | false =>
     rw[tn (λe=>by subst e;simp at hb)];rfl
 | (s,y) :: r,k,h=>by
   show DZ ((s,y) :: (r++[(t,x)])) k=_;unfold DZ
   cases hb:Nat.beq s k with
   | true =>
     have e:=tN hb;subst e;rw[tn (h (s,y) (uH ..))]
   | false=>exact Yt t x r k λp hp=>h p (ut _ hp)
theorem Yv(q:Nat)(x:BA)(m:Nat):∀(B:Bx)(k:Nat)(u:AV),(∀p∈B,p.1≠q)->C7 (B++[(q,x,m)]) k u=if k=q then⟨u,x,m⟩else C7 B k u
 | [],k,u,_=>by
   show C7 [(q,x,m)] k u=_;unfold C7
   cases hb:Nat.beq q k with
   | true=>rw[tf (tN hb).symm]
   | false =>
     rw[tn (λe=>by subst e;simp at hb)];rfl
 | (s,y,j) :: r,k,u,h=>by
   show C7 ((s,y,j) :: (r++[(q,x,m)])) k u=_;unfold C7
   cases hb:Nat.beq s k with
   | true =>
     have e:=tN hb;subst e;rw[tn (h (s,y,j) (uH ..))]
   | false=>exact Yv q x m r k u λp hp=>h p (ut _ hp)
theorem ZU(q:Nat):∀(B:Bx)(u:AV),(∀p∈B,p.1≠q)->C7 B q u=⟨u,.none,0⟩
 | [],_,_=>rfl
 | (s,y,j) :: r,u,h=>by
   unfold C7
   cases hb:Nat.beq s q with
   | true=>exact absurd (tN hb) (h (s,y,j) (uH ..))
   | false=>exact ZU q r u λp hp=>h p (ut _ hp)
theorem UQ{L:List (Nat×AV)}(h:∀p∈L,p.2.guards=[])(k:Nat):(DZ L k).guards=[]:=by
 induction L with
 | nil=>rfl
 | cons p r ih =>
   obtain⟨t,x⟩:=p;unfold DZ
   cases Nat.beq t k with
   | true=>exact h _ (uH ..)
   | false=>exact ih λp hp=>h p (ut _ hp)
theorem WO(i:Nat)(u u':AV)(B:Bx):(C7 B i u).box=(C7 B i u').box/\(C7 B i u).ver=(C7 B i u').ver:=by
 induction B with
 | nil=>exact⟨rfl,rfl⟩
 | cons p r ih =>
   obtain⟨t,x,m⟩:=p;unfold C7
   cases Nat.beq t i
   ·exact ih
   ·exact⟨rfl,rfl⟩
theorem SimB.exitNew{n q sz t:Nat}{e:TypeId}{ys:List D}{L:List (Nat×AV)}{B:Bx}{v:Value}(h:SimB X (λ_=>False) β (CY n L B) a w)(K:List Nat)(hq:q<n)(U:t<n)(I:∀p∈B,p.1≠q)(N:∀p∈L,p.1≠t)(m:∀p∈L,p.2.guards=[])
 (A:a'.tmps.size=a.tmps.size) (C:a'.defers=[]) (hK:∀k∈K,a'.tmps[k]?=a.tmps[k]?) (P:a'.tmps[t]?=some v) (o:RowKit.Below w.heap.size w w') (Q:0<sz) (R:∀y∈ys,y.cells.length=sz) (r:∀b,Af v=some b->w.heap.size<=b)
 (hr:∃vals,B0 w' e sz v ys.length vals/\∀O:Nat->Prop,B3 O w' vals (ys.flatMap D.cells)) :
 SimB X (λ_=>False) (Lg β q v) (CY n ((L.filter λp=>K.contains p.1)++[(t,.sl q 1)]) (B++[(q,.row sz e ys,1)])) a' w':=by
 have E:∀p∈L.filter λp=>K.contains p.1,p.1≠t:=λp hp=>N p (List.mem_filter.1 hp).1
 have l:∀i,Ai (CY n ((L.filter λp=>K.contains p.1)++[(t,.sl q 1)]) (B++[(q,.row sz e ys,1)])) i=if i<n then(if i=q then⟨if i=t then .sl q 1 else if K.contains i then DZ L i else .any,.row sz e ys,1⟩else C7 B i (if i=t then .sl q 1 else if K.contains i then DZ L i else .any))else fD:=by
  intro i;rw[EQ,Yt _ _ _ _ E,MS,Yv _ _ _ _ _ _ I]
 have F:Ai (CY n L B) q=⟨DZ L q,.none,0⟩:=by rw[EQ,tf hq,ZU q B _ I]
 have f:(Ai (CY n ((L.filter λp=>K.contains p.1)++[(t,.sl q 1)]) (B++[(q,.row sz e ys,1)])) q).box=.row sz e ys/\(Ai (CY n ((L.filter λp=>K.contains p.1)++[(t,.sl q 1)]) (B++[(q,.row sz e ys,1)])) q).ver=1:=by
  rw[l,tf hq,tf rfl];exact⟨rfl,rfl⟩
 have x:∀i,i≠q->(Ai (CY n ((L.filter λp=>K.contains p.1)++[(t,.sl q 1)]) (B++[(q,.row sz e ys,1)])) i).box=(Ai (CY n L B) i).box/\(Ai (CY n ((L.filter λp=>K.contains p.1)++[(t,.sl q 1)]) (B++[(q,.row sz e ys,1)])) i).ver=(Ai (CY n L B) i).ver:=by
  intro i g;rw[l,EQ];by_cases c:i<n
  ·rw[tf c,tf c,tn g];exact WO _ _ _ _
  ·rw[tn c,tn c];exact⟨rfl,rfl⟩
 have z:∀i,(Ai (CY n ((L.filter λp=>K.contains p.1)++[(t,.sl q 1)]) (B++[(q,.row sz e ys,1)])) i).av=if i<n then(if i=t then .sl q 1 else if K.contains i then DZ L i else .any)else .any:=by
  intro i;rw[l];by_cases c:i<n
  ·rw[tf c,tf c];by_cases g:i=q
   ·rw[tf g]
   ·rw[tn g,Jm]
  ·rw[tn c,tn c];rfl
 refine h.exit (λi=>i=q) (by rw[Lx,Lx]) A C ⟨o.os,o.tape,o.output,o.size,λk hk _=>o.block k hk⟩ (λi c=>⟨by simp[Lg,c],(x i c).1,(x i c).2⟩) (λi c=>by subst c;rw[f.2,F];exact .inl (Nat.zero_lt_one))
  (λi b c J H=>by subst c;exact .inl (r b (by simpa [Lg] using H))) (λi j b c T _ _ _ _=>c.trans T.symm) (λi c=>?_) (λi c=>by subst c;exact .inl (by rw[f.2];exact Nat.one_ne_zero)) (λs u M=>?_) (λs=>?_)
 ·subst c;rw[f.1];obtain⟨vals,J,H⟩:=hr;exact⟨Q,R,vals,by simpa [Lg] using J,H _⟩
 ·rw[z];by_cases c:s<n
  ·rw[tf c];by_cases d:s=t
   ·subst d;rw[tf rfl];refine .inr (.inr ⟨rfl,?_⟩);have:u=v:=sY (M.symm.trans P);subst this;exact⟨by simp only[AM];rw[f.2];exact td _,λ_=>by simp[Lg]⟩
   ·rw[tn d];by_cases hk:K.contains s=true
    ·rw[tf hk];refine .inr (.inl ⟨?_,?_,?_⟩)
     ·rw[EQ,tf c,Jm]
     ·rw[EQ,tf c,Jm];exact UQ m s
     ·rw[<-hK s (by simpa using hk)];exact M
    ·rw[tn hk];exact .inl rfl
  ·rw[tn c];exact .inl rfl
 ·rw[z];by_cases c:s<n
  ·rw[tf c];by_cases d:s=t
   ·rw[tf d];rfl
   ·rw[tn d];by_cases hk:K.contains s=true
    ·rw[tf hk];exact UQ m s
    ·rw[tn hk];rfl
  ·rw[tn c];rfl
theorem SimB.exitApp{n q vb j sz m mv H:Nat}{e T:TypeId}{xs ys:List D}{L:List (Nat×AV)}{B:Bx}{cs:List C}{u':Value}{cv:Array Value}(h:SimB X (λ_=>False) β (CY n L B) a w)(K:List Nat)(hq:q<n)(U:vb<n)(s:vb≠q)
 (hBq:∀u,C7 B q u=⟨u,.row sz e xs,m⟩) (hBv:∀u,C7 B vb u=⟨u,.var cs,mv⟩) (hgd:∀p∈L,p.2.guards=[])
 (z:∀i u,i<n->C7 (B.map λp=>if p.1=q then(q,.row sz e ys,m+1)else if p.1=vb then(vb,.var (cs.set j (.sl q (m+1))),p.2.2)else p) i u=if i=q then⟨u,.row sz e ys,m+1⟩else if i=vb then⟨u,.var (cs.set j (.sl q (m+1))),mv⟩else C7 B i u)
 (hsz:a'.tmps.size=a.tmps.size) (hdf:a'.defers=[]) (hK:∀k∈K,a'.tmps[k]?=a.tmps[k]?) (Z:β vb=.pointer (some ⟨H,0,none⟩)) (hw0:w.heap[H]?=some (.cells cv T (0,0))) (hw1:w'.heap[H]?=some (.cells (cv.setIfInBounds j u') T (0,0)))
 (V:AA w.heap.size (λb=>Af (β q)=some b\/b=H) w w') (A:∀b,Af u'=some b->Af (β q)=some b\/w.heap.size<=b) (M:∀y∈ys,y.cells.length=sz)
 (hr:∃vals,B0 w' e sz u' ys.length vals/\∀O:Nat->Prop,(∀b,b<w.heap.size->O b->OS β X (CY n L B) b)->(∀b,w.heap.size<=b->O b->Af u'=some b)->B3 O w' vals (ys.flatMap D.cells)) :
 SimB X (λ_=>False) (Lg β q u') (CY n (L.filter λp=>K.contains p.1) (B.map λp=>if p.1=q then(q,.row sz e ys,m+1)else if p.1=vb then(vb,.var (cs.set j (.sl q (m+1))),p.2.2)else p)) a' w':=by
 obtain⟨B',eB⟩:∃B',B'=B.map λp=>if p.1=q then(q,.row sz e ys,m+1)else if p.1=vb then(vb,.var (cs.set j (.sl q (m+1))),p.2.2)else p:=⟨_,rfl⟩
 rw[<-eB]at z ⊢;clear eB;obtain⟨S',eS⟩:∃S',S'=CY n (L.filter λp=>K.contains p.1) B':=⟨_,rfl⟩;have N:∀i,Ai S' i=if i<n then C7 B' i (if K.contains i then DZ L i else .any)else fD:=λi=>by rw[eS,EQ,MS]
 rw[<-eS];have r:Ai (CY n L B) q=⟨DZ L q,.row sz e xs,m⟩:=by rw[EQ,tf hq,hBq]
 have g:Ai (CY n L B) vb=⟨DZ L vb,.var cs,mv⟩:=by rw[EQ,tf U,hBv]
 have E:(Ai S' q).box=.row sz e ys/\(Ai S' q).ver=m+1:=by rw[N,tf hq,z q _ hq,tf rfl];exact⟨rfl,rfl⟩
 have P:(Ai S' vb).box=.var (cs.set j (.sl q (m+1)))/\(Ai S' vb).ver=mv:=by rw[N,tf U,z vb _ U,tn s,tf rfl];exact⟨rfl,rfl⟩
 have W:∀i,i≠q->i≠vb->(Ai S' i).box=(Ai (CY n L B) i).box/\(Ai S' i).ver=(Ai (CY n L B) i).ver:=by
  intro i l f;rw[N,EQ];by_cases d:i<n
  ·rw[tf d,tf d,z i _ d,tn l,tn f];exact WO _ _ _ _
  ·rw[tn d,tn d];exact⟨rfl,rfl⟩
 have hav:∀i,(Ai S' i).av=if i<n then(if K.contains i then DZ L i else .any)else .any:=by
  intro i;rw[N];by_cases d:i<n
  ·rw[tf d,tf d,z i _ d];by_cases l:i=q
   ·rw[tf l]
   ·rw[tn l];by_cases f:i=vb
    ·rw[tf f]
    ·rw[tn f,Jm]
  ·rw[tn d,tn d];rfl
 have F:Lg β q u' q=u':=by simp[Lg]
 have o:∀i,i≠q->Lg β q u' i=β i:=λi d=>by simp[Lg,d]
 have hbv:H<w.heap.size:=D7 hw0;have hqv:Af (β q)≠some H:=λe=>s (h.inj vb q H (by rw[g];rfl) (by rw[r];rfl) (by rw[Z];rfl) e)
 have Y:∀b,OS (Lg β q u') X S' b->(b<w.heap.size->OS β X (CY n L B) b)/\(w.heap.size<=b->Af u'=some b):=by
  rintro b (l|l|⟨i,l,f⟩)
  ·exact⟨λ_=>.inl l,λQ=>by have:=(h.o₀ b l).1;have:=h.hbase;omega⟩
  ·exact⟨λ_=>.inr (.inl l),λQ=>by have:=(h.rs b l).2;omega⟩
  ·by_cases d:i=q
   ·subst d;rw[F]at f;refine⟨λx=>?_,λ_=>f⟩;rcases A b f with R|R
    ·exact .inr (.inr ⟨i,by rw[r];rfl,R⟩)
    ·omega
   ·rw[o i d]at f
    have ho:(Ai (CY n L B) i).box.owned=true:=by
     by_cases I:i=vb
     ·rw[I,g];rfl
     ·rw[<-(W i d I).1];exact l
    exact⟨λ_=>.inr (.inr ⟨i,ho,f⟩),λQ=>by have:=h.blk ho f;omega⟩
 refine h.exit (λi=>i=q\/i=vb) (by rw[eS,Lx,Lx]) hsz hdf (V.weaken (td _) λk _ hk=>?_) (λi d=>⟨o i (λe=>d (.inl e)),W i (λe=>d (.inl e)) (λe=>d (.inr e))⟩)
  (λi d=>?_) (λi b d l f=>?_) (λi j b d hj l f R h4=>?_) (λi d=>?_) (λi d=>?_) (λt u hu=>?_) (λt=>?_)
 ·rintro(hh|hh)
  ·exact hk ⟨q,.inl rfl,by rw[r];rfl,hh⟩
  ·exact hk ⟨vb,.inr rfl,by rw[g];rfl,by rw[Z,hh];rfl⟩
 ·rcases d with rfl|rfl
  ·rw[E.2,r];exact .inl (u3 _)
  ·rw[P.2,g];exact .inr ⟨rfl,o _ s⟩
 ·rcases d with rfl|rfl
  ·rw[F]at f;rcases A b f with R|R
   ·exact .inr ⟨by rw[r];rfl,R⟩
   ·exact .inl R
  ·rw[o _ s]at f;exact .inr ⟨by rw[g];rfl,f⟩
 ·have hx:∀b,Af (Lg β q u' q)=some b->Af (Lg β q u' vb)=some b->False:=λb e1 e2=>by
   rw[F]at e1;rw[o vb s,Z]at e2;have e2:H=b:=by simpa [Af] using e2
   subst e2;rcases A _ e1 with h5|h5
   ·exact hqv h5
   ·omega
  rcases d with rfl|rfl<;>rcases hj with rfl|rfl
  ·rfl
  ·exact(hx b R h4).elim
  ·exact(hx b h4 R).elim
  ·rfl
 ·rcases d with rfl|rfl
  ·rw[E.1];have h0:=h.boxes i;rw[r]at h0;obtain⟨vals,l,f⟩:=hr;exact⟨h0.1,M,vals,by rw[F];exact l,f _ (λb x V=>(Y b V).1 x) (λb Q V=>(Y b V).2 Q)⟩
  ·rw[P.1];have h0:=h.boxes i;rw[g]at h0;obtain⟨b0,vals,T0,k1,k2,k3,k4⟩:=h0;rw[Z]at k1;have k1:H=b0:=by simpa using k1
   subst k1;rw[hw0]at k2;obtain⟨rfl,rfl⟩:cv=vals/\T=T0:=by simpa using k2
   refine⟨H,_,T,by rw[o i s];exact Z,hw1,by simp[k3],λt v c I M=>?_⟩;have hkk:B7 (OS β X (CY n L B)) (OS (Lg β q u') X S') w w':=⟨V.size,λb x hb'=>(Y b hb').1 x,λb x ho=>V.block b x λhh=>ho (hh.elim (λe=>.inr (.inr ⟨q,by rw[r];rfl,e⟩)) λe=>.inr (.inr ⟨i,by rw[g];rfl,by rw[Z,e];rfl⟩))⟩
   have hvr:∀J,AM (CY n L B) J<AM S' J\/(AM S' J=AM (CY n L B) J/\Lg β q u' J=β J):=λJ=>by
    by_cases l:J=q
    ·subst l;left;show(Ai _ _).ver<(Ai _ _).ver;rw[r,E.2];exact u3 _
    ·by_cases f:J=i
     ·subst f;right;exact⟨by show(Ai _ _).ver=(Ai _ _).ver;rw[g,P.2],o _ l⟩
     ·right;exact⟨(W J l f).2,o _ l⟩
   rw[tZ]at M;rw[ue]at I;by_cases ht:j=t
   ·subst ht;rw[tf rfl]at M I;split at M
    ·split at I
     ·obtain rfl:=sY M;obtain rfl:=sY I;exact⟨by show m+1<=(Ai S' q).ver;rw[E.2];exact td _,λ_=>by rw[F]⟩
     ·cases I
    ·cases M
   ·rw[tn ht]at M I;exact(k4 t v c I M).mono hkk hvr
 ·rcases d with rfl|rfl
  ·exact .inl (by rw[E.2];exact Nat.succ_ne_zero _)
  ·exact .inr ⟨by rw[P.2,g],o _ s,by rw[g];simp⟩
 ·rw[hav];by_cases d:t<n
  ·rw[tf d];by_cases hk:K.contains t=true
   ·rw[tf hk];refine .inr (.inl ⟨?_,?_,?_⟩)
    ·rw[EQ,tf d,Jm]
    ·rw[EQ,tf d,Jm];exact UQ hgd t
    ·rw[<-hK t (by simpa using hk)];exact hu
   ·rw[tn hk];exact .inl rfl
  ·rw[tn d];exact .inl rfl
 ·rw[hav];by_cases d:t<n
  ·rw[tf d];by_cases hk:K.contains t=true
   ·rw[tf hk];exact UQ hgd t
   ·rw[tn hk];rfl
  ·rw[tn d];rfl
end
theorem ZO(w:World):grow w #[]=w:=by simp[grow]
theorem Yr(xs:List Int):(Lib.compact xs).length<=xs.length:=by
 unfold Lib.compact Lib.compactUpTo;rw[sX];exact tw (ug _ _) (by simp)
theorem mO{P:Program}{ρ:Ren}(W:Lays2.n20 P ρ)(s:Ft P (ρ.f 20)=true)(e:TypeId)(xs:List Int)(hl:xs.length<4611686018427387904) :
 DU P (ρ.f 20) [.own 1 e (xs.map (D.int .i64))] [.any] (.own 1 e ((Lib.compact xs).map (D.int .i64))):=by
 refine⟨s,rfl,λO w vs hO _ E hMO X t=>?_⟩
 obtain⟨v,rfl⟩:∃v,vs=#[v]:=by
  obtain⟨l⟩:=vs
  match l,E with
  | [v],_=>exact⟨v,rfl⟩
 obtain⟨_,_,vals,q,Y⟩:=t 0 v _ rfl rfl;rw[JK]at Y;obtain rfl:=SP Y;have F:∀b,Af v=some b->Ip #[v] [.own 1 e (xs.map (D.int .i64))] b:=λb C=>⟨0,v,_,rfl,rfl,rfl,C⟩
 have G:∀b,¬Ip #[v] [.any] b:=by
  rintro b ⟨i,u,x,o,r,m,_⟩
  match i,o,r with
  | 0,o,r=>simp at r;subst r;simp[AV.mut]at m
  | i+1,o,r=>simp at o
 have Da:∀{w':World}{z:Ending}{u:Value},z=.returned u->(∀b,Af u=some b->Af v=some b)->AA w.heap.size (Ip #[v] [.own 1 e (xs.map (D.int .i64))]) w w'->B0 w' e 1 u (Lib.compact xs).length ((Lib.compact xs).map (Value.int .i64)) ->
  ∃u,z=.returned u/\AA w.heap.size (Ip #[v] [.own 1 e (xs.map (D.int .i64))]) w w' /\
  Dp (λb=>w.heap.size<=b\/(Ip #[v] [.own 1 e (xs.map (D.int .i64))] b/\¬Ip #[v] [.any] b)) (λb=>O b\/Ip #[v] [.any] b) w' u (.own 1 e ((Lib.compact xs).map (D.int .i64))) /\
  ∀(i:Nat) u' x y,#[v][i]?=some u'->[AV.own 1 e (xs.map (D.int .i64))][i]?=some x->[AV.any][i]?=some y->Rc (λb=>O b\/Ip #[v] [.any] b\/Eg u (.own 1 e ((Lib.compact xs).map (D.int .i64))) b) w' u' x y:=by
  intro w' z u H L C hr;refine⟨u,H,C,⟨by omega,λx hx=>?_,λb d=>.inr ⟨F b (L b d),G b⟩,_,by simpa using hr,by rw[JK];exact SI _ _ _⟩,λi u' x y o r m=>?_⟩
  ·obtain⟨n,_,rfl⟩:=List.mem_map.1 hx;rfl
  ·match i,m with
   | 0,m=>simp at m;subst m;trivial
   | i+1,m=>simp at m
 have none:xs=[]->∀p cap,v=.slice p 0 cap->Calls P (ρ.f 20) #[v] w λz w'=>∃u,z=.returned u/\AA w.heap.size (Ip #[v] [.own 1 e (xs.map (D.int .i64))]) w w' /\
  Dp (λb=>w.heap.size<=b\/(Ip #[v] [.own 1 e (xs.map (D.int .i64))] b/\¬Ip #[v] [.any] b)) (λb=>O b\/Ip #[v] [.any] b) w' u (.own 1 e ((Lib.compact xs).map (D.int .i64))) /\
  ∀(i:Nat) u' x y,#[v][i]?=some u'->[AV.own 1 e (xs.map (D.int .i64))][i]?=some x->[AV.any][i]?=some y->Rc (λb=>O b\/Ip #[v] [.any] b\/Eg u (.own 1 e ((Lib.compact xs).map (D.int .i64))) b) w' u' x y:=by
  intro I p cap f;subst I;have s:=Any.slices_Compact_int_empty W p cap w;rw[<-f]at s;refine s.mono λz w' ⟨H,J⟩=>?_;subst J;refine Da H (λ_ h=>h) ⟨rfl,rfl,rfl,td _,λ_ _ _=>rfl⟩ ?_
  simpa [Lib.compact,Lib.compactUpTo] using q
 rcases q with A|⟨I,_,a,f⟩
 ·rcases A.2 with⟨f,I⟩|⟨g,cap,cur,f,B,C,o,r,m,h4⟩
  ·exact none (by simpa using I) _ _ f
  ·rw[sX]at o f;by_cases M:cap=0
   ·have hx:xs=[]:=tx (by omega);exact none hx (some ⟨g,0,Option.none⟩) cap (by rw[f,hx];rfl)
   have hH:Holds (Value.int .i64) w g 0 xs.toArray:=holds_of_blockI C (by simpa using h4);have s:=Any.slices_Compact_int W g 0 cap xs w hH (by omega) o;rw[<-f]at s;refine s.mono λz w' ⟨H,n,J⟩=>?_;have hcl:=Yr xs;generalize K:Lib.compact xs++List.replicate (xs.length-(Lib.compact xs).length) 0=ts at J;have N:ts.length=xs.length:=by rw[<-K];simp;omega
   have c:=grownBy_sortedI (w:=w) (g:=g) (n:=n) (os:=#[]) ts.toArray;rw[ZO,<-J]at c;refine Da H (λb d=>?_) ⟨c.os,c.tape,c.output,c.size,λk hk hm=>c.block k hk λQ=>?_⟩ (.inl ?_)
   ·rw[f];simpa [Af] using d
   ·refine hm ⟨0,v,_,rfl,rfl,rfl,?_⟩;rw[f];simp only[Af,M,if_false];exact Q.symm
   ·have ho:=ownsRow_sortedI (w:=w) (base:=0) (g:=g) (cap:=cap) (n:=n) (e:=e) (os:=#[]) (cur:=cur) (ss:=xs) (ts:=ts) N B C o r m;rw[ZO,<-J]at ho;refine⟨by simp,.inr ?_⟩;rcases ho.2 with⟨h,_⟩|⟨g',Z,j,R,d,S,hn',T,U,V⟩
    ·cases h
    cases R
    refine⟨g,cap,j,rfl,d,S,by omega,T,U,?_⟩
    have:j.toList.take ((Lib.compact xs).length*1)=(j.toList.take (xs.length*1)).take ((Lib.compact xs).length*1):=by
     rw[List.take_take,u9 (by omega)]
    rw[this,V,<-K];simp
 ·exact none (by simpa using I) _ _ f
open Go.Lib
open Go.RowKit (Below)
structure DW(w:World)(g cap n:Nat)(T:TypeId)(wr:World)(dk:Array Int):Prop where
 below:AA w.heap.size (λb=>b=g) w wr
 size:dk.size=n
 cells:∃cur,wr.heap[g]?=some (.cells cur T (0,0))/\cur.size=cap*1/\cur.toList.take n=dk.toList.map (Value.int .i64)
theorem DW.holds{w wr:World}{g cap n:Nat}{T:TypeId}{a:Array Int}(h:DW w g cap n T wr a):Holds (Value.int .i64) wr g 0 a:=by
 obtain⟨cur,b,_,c⟩:=h.cells;have:=holds_of_blockI (ss:=a.toList) b (by rw[show a.toList.length=n from by simpa using h.size];exact c)
 rwa [Array.toArray_toList]at this
theorem DW.lt{w wr:World}{g cap n:Nat}{T:TypeId}{a:Array Int}(h:DW w g cap n T wr a):g<wr.heap.size:=by
 obtain⟨cur,b,_,_⟩:=h.cells;exact(Array.getElem?_eq_some_iff.1 b).1
theorem DW.call{w wr w':World}{g cap n:Nat}{T:TypeId}{a:Array Int}(h:DW w g cap n T wr a)(b:Below wr.heap.size wr w'):DW w g cap n T w' a:=by
 refine⟨h.below.trans ((AA.of b).weaken h.below.size λ_ _ hk=>hk),h.size,?_⟩;obtain⟨cur,c,d,e⟩:=h.cells;exact⟨cur,by rw[b.block g h.lt];exact c,d,e⟩
theorem DW.store{w wr:World}{g cap n:Nat}{T:TypeId}{a:Array Int}(h:DW w g cap n T wr a){i:Nat}(j:i<n)(l:n<=cap)(u:Int):DW w g cap n T (wr.setCell ⟨g,i,none⟩ (.int .i64 u)) (a.setIfInBounds i u):=by
 obtain⟨cur,c,d,f⟩:=h.cells;have m:=h.lt;refine⟨⟨h.below.os,h.below.tape,h.below.output,by show w.heap.size<=(Array.modify _ _ _).size;rw[Array.size_modify];exact h.below.size,λk hk b=>?_⟩,by simp[h.size],cur.setIfInBounds i (.int .i64 u),?_,by simp[d],?_⟩
 ·show(Array.modify _ _ _)[k]?=_;rw[vr,tn (λe=>b e.symm)];exact h.below.block k hk b
 ·show(Array.modify _ _ _)[g]?=_;rw[vr,tf rfl,c];rfl
 ·rw[uy,uy,tH,<-f,List.take_set]
theorem DW.clear{w:World}{g cap n:Nat}{T:TypeId}(c:n<=cap):∀(a:List Int){wr:World}{b:Array Int}(k:Nat),DW w g cap n T wr b->k+a.length<=n->DW w g cap n T (wr.setCells g k (a.map (Value.int .i64))) (lay b k a)
 | [],_,_,_,h,_=>h
 | z :: r,wr,b,k,h,hk=>by
   simp only[tS]at hk;exact DW.clear c r (k+1) (h.store (by omega) c z) (by omega)
theorem DW.row{w wr:World}{g cap n:Nat}{T:TypeId}{b:Array Int}(h:DW w g cap n T wr b){R:List Int}(c:R.length<=n)(hd:b.toList.take R.length=R)(j:n<=cap)(a:cap<=maxLen):B0 wr T 1 (.slice (some ⟨g,0,none⟩) R.length cap) R.length (R.map (Value.int .i64)):=by
 obtain⟨cur,d,f,i⟩:=h.cells;refine .inl ⟨by simp,.inr ⟨g,cap,cur,rfl,sZ _,d,by omega,a,f,?_⟩⟩;have e:cur.toList.take (R.length*1)=(cur.toList.take n).take R.length:=by rw[List.take_take,u9 c,u4]
 rw[e,i,<-List.map_take,hd]
open Go.ChangeShapes Go.WideShapes
theorem mA{H:Type}{enc:TypeId×Value->H}{P:Program}{W:World}{base:Nat}{u:Nat->Bool}{C:Bool}{t e:TypeId}{k:IntKind}{v:Value}{d:DataW H}{p:List MemPlace}
 (Q:P.underlying t=some (.slice e)) (R:P.underlying e=some (.int k)) (S:P.cellsOf e=1) (T:∃a n c,v=.slice a n c) (h:DataW.Trod enc P W base u C t v d p) :
 ∃xs:List Int,Ax (λ_=>False) W v (.list 1 (xs.map (D.int k)))/\xs.length<=maxLen/\∀n∈xs,(Lit.int k n).wf=true:=by
 obtain⟨fuel,U⟩:=h;obtain⟨a0,o,V,rfl⟩:=T;rcases open_ints Q R S U with⟨f,_⟩|⟨x,l,c,r,f,_,X,hm,q,_,g,J⟩
 ·simp[Value.cells]at f;obtain⟨rfl,rfl,rfl⟩:=f;exact⟨[],.emp _ _ _,by simp[maxLen],λn K=>by simp at K⟩
 ·simp[Value.cells]at f;obtain⟨rfl,rfl,rfl⟩:=f;have Y:o<=r.length:=by rw[q];split<;>omega
  refine⟨r.take o,?_,by simp;omega,λn K=>J n (uf K)⟩;have E:(r.take o).length=o:=by simp;omega
  by_cases N:o=0
  ·subst N;exact .emp _ _ _
  ·obtain⟨b,off,F⟩:=x;have G:=g 0 (by omega);have A:F=none:=by simpa [Addr.add] using World.cell?_spot G
   subst A
   have Z:b<W.heap.size:=by
    rcases tG b W.heap.size with h|h
    ·exact h
    ·simp[World.cell?,Addr.add,uj h]at G
   have B:((r.take o).map (D.int k)).length=o:=by rw[sX,E]
   have s:∀(i:Nat)(y:D),((r.take o).map (D.int k))[i]?=some y->i<o/\y=.int k (r.getD i 0):=by
    intro i y hy;simp only[tr,tM]at hy;split at hy
    ·rename_i L
     refine⟨L,?_⟩;have I:i<r.length:=by omega
     simp[P3 I]at hy;simp[List.getD,P3 I,hy]
    ·simp at hy
   have key:=Ax.list (O:=λ_=>False) (w:=W) b off V 1 ((r.take o).map (D.int k)) (λi _=>.int k (r.getD i 0)) (by intro h;rw[<-List.length_eq_zero_iff,B]at h;exact N h) Z (λh=>h) (by rw[B];exact X)
    (λy hy=>by obtain⟨m,_,rfl⟩:=List.mem_map.1 hy;rfl) (λy hy z q=>by obtain⟨m,_,rfl⟩:=List.mem_map.1 hy;simp[D.cells]at q;subst q;rfl)
    (λi y j z hy q=>by
     obtain⟨L,rfl⟩:=s i y hy;have M:j=0:=by cases j with|zero=>rfl|succ j=>simp[D.cells]at q
     subst M;have:=g i (by omega);rw[Hz]at this
     simpa using this)
    (λi y j z hy q=>by
     obtain⟨L,rfl⟩:=s i y hy;have M:j=0:=by cases j with|zero=>rfl|succ j=>simp[D.cells]at q
     subst M;simp[D.cells]at q;subst q;exact .int _ _)
   rw[B]at key;exact key
