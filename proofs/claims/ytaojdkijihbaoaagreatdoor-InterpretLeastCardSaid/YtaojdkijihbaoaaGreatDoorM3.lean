/- M3 -/
import Derived.Test.YtaojdkijihbaoaaGreatDoorM2
import Derived.Tactics
import Derived.Shelf.Sort.Plain
import Derived.Shelf.Slices.In.SortNone
import Derived.Sort.OwnSortedInts
import Derived.Shelf.Slices.CompactI
import Derived.Lib.SlKept
import Derived.Lib.SliceRun
import Derived.ChangeSlices
import Derived.OpenShut
set_option linter.all false
namespace Go.Abs
open Go.RowKit (Below)
section
variable {P:Program} {X:Cx} {G:Nat->Prop} {β:Nat->Value} {S:AS} {a:Act} {w:World} {o:Oper}
theorem ZV{α:Type}{x:Array α}{p:α}(h:x.toList=[p]):x=#[p]:=by grind
theorem LM{α:Type}{x:Array α}{p q:α}(h:x.toList=[p,q]):x=#[p,q]:=by grind
theorem AK{K:Hn->Prop}(h:∃e,K e/\Dp P X G S a w o e):∃e,K e/\(Hg S e.homes=true->Dp P X G S a w o e):=by grind
set_option maxHeartbeats 2000000 in
theorem o8(h:SimB X G β S a w){g:Option (Nat×Bool)}(A:Ce g a){d:Nat}(hd:d<S.length){K:Hn->Prop}(hy:yA P (σOf S) (ρOf S) g o d (Ag S d).ver K) :
 ∃e,K e/\(Hg S e.homes=true->Dp P X G S a w o e):=by
 unfold yA at hy;split at hy
 ·rename_i x ho
  exact AK ⟨_,hy,Zq h A (.inl ho)⟩
 ·rename_i x ho
  split at hy
  ·rename_i W
   split at hy
   ·rename_i e _
    obtain⟨H,hy⟩:=Al hy;exact AK ⟨_,hy,lU h hd ho W H⟩
   ·grind
  ·exact AK ⟨_,hy,Zq h A (.inr ho)⟩
 ·rename_i t x y ho
  split at hy
  ·rename_i F;have H:=ρ_sound h A (.tmp t);rw[F]at H;exact H.elim
  ·rename_i c F
   split at hy
   ·rename_i H
    split at hy
    ·rename_i b2 L
     exact AK ⟨_,hy,fk h A ho F H L⟩
    ·grind
   ·rename_i b1 H
    split at hy
    ·rename_i L
     exact AK ⟨_,hy,fl h A ho F H L⟩
    ·rename_i b2 L
     exact AK ⟨_,hy,jC h A ho F H L⟩
    ·grind
   ·grind
  ·grind
 ·rename_i T x ho
  exact AK (lR h A hd ho hy)
 ·rename_i T ho
  split at hy
  ·rename_i l hl
   exact AK (fe h hd ho hl hy)
  ·grind
 ·rename_i t parts ho
  split at hy
  ·rename_i N B
   split at hy
   ·rename_i zd hzd
    obtain⟨Y,hy⟩:=Al hy;split at hy
    ·exact AK (X8 h A ho B hzd Y hy)
    ·rcases hy.go with hy|hy
     ·exact AK (X8 h A ho B hzd Y hy)
     ·exact AK (cA h A ho B hzd Y hy)
   ·grind
  ·grind
 ·rename_i t n parts ho
  split at hy
  ·rename_i e B
   exact AK (WK h A hd ho B hy)
  ·grind
 ·rename_i t x y ho
  split at hy
  ·rename_i e B
   split at hy
   ·rename_i k l hl
    split at hy
    ·rename_i k' c F
     obtain⟨⟨H,L⟩,hy⟩:=Al hy;exact AK (jB h A hd ho B H L hl F hy)
    ·grind
   ·grind
  ·grind
 ·rename_i f first caps ho
  split at hy
  ·rename_i O
   split at hy
   ·exact AK (Zp h A ho O hy)
   ·rcases hy.go with hy|hy
    ·exact AK (Zp h A ho O hy)
    ·exact AK (fh h A ho O hy)
  ·grind
 ·rename_i t x ho
  have hr:=ρ_sound h A x;split at hy
  ·rename_i hx;rw[hx]at hr;exact hr.elim
  ·rename_i id n off cs hx
   rw[hx]at hr;exact AK (cE h ho hr hy)
  ·rename_i cs hx
   rw[hx]at hr;exact AK (cC h ho hr hy)
  ·rename_i id n sz e xs i off hx
   rw[hx]at hr;exact AK (cD h ho hr hy)
  ·grind
 ·rename_i t p x ho
  obtain⟨Q,hy⟩:=Al hy;obtain⟨i,Q⟩:=Option.isSome_iff_exists.1 Q;have hr:=ρ_sound h A p;split at hy
  ·rename_i id n off cs hx
   rw[hx]at hr;exact AK (an h A ho hr Q hy)
  ·rename_i id n sz e xs k off hx
   rw[hx]at hr;exact AK (am h A ho hr Q hy)
  ·grind
 ·rename_i x ho
  have hr:=ρ_sound h A x;split at hy
  ·rename_i id n off cs hx
   rw[hx]at hr;have R:=Nw (tm:=a.tmps) hr;obtain⟨_,_,b,_,V⟩:=hr;exact AK ⟨_,hy,LN h ho (.inl ⟨_,V⟩) R.1 R.2⟩
  ·rename_i cs hx
   rw[hx]at hr;have R:=Nw (tm:=a.tmps) hr;obtain⟨b,off,V,_⟩:=Yr hr;exact AK ⟨_,hy,LN h ho (.inl ⟨_,V⟩) R.1 R.2⟩
  ·rename_i f cs hx
   rw[hx]at hr;have R:=Nw (tm:=a.tmps) hr;obtain⟨vs,V,_⟩:=iU hr;exact AK ⟨_,hy,LN h ho (.inr ⟨f,vs,V⟩) R.1 R.2⟩
  ·rename_i id n sz e xs i off hx
   rw[hx]at hr;have R:=Nw (tm:=a.tmps) hr;obtain⟨_,_,b,m,cap,_,V⟩:=hr;exact AK ⟨_,hy,LN h ho (.inl ⟨_,V⟩) R.1 R.2⟩
  ·grind
 ·rename_i op t x y U ho
  have j:=ρ_sound h A x;have I:=ρ_sound h A y;split at hy
  ·rename_i hp;rw[hp]at j;exact j.elim
  ·rename_i p hp
   rw[hp]at j;split at hy
   ·rename_i hq;rw[hq]at I;exact I.elim
   ·rename_i q hq
    rw[hq]at I;exact AK (ff h ho j I hy)
   ·grind
  ·grind
 ·rename_i op t x ho
  have j:=ρ_sound h A x;split at hy
  ·rename_i hp;rw[hp]at j;exact j.elim
  ·rename_i p hp
   rw[hp]at j;exact AK (jD h ho j hy)
  ·grind
 ·rename_i s t x ho
  have j:=ρ_sound h A x;split at hy
  ·rename_i ds C
   split at hy
   ·rename_i k Z
    split at hy
    ·rename_i hx;rw[hx]at j;exact j.elim
    ·rename_i k' n hx
     rw[hx]at j;exact AK ⟨_,hy,ae h ho Z ⟨_,C⟩ j⟩
    ·grind
   ·rename_i Z
    split at hy
    ·rename_i hx;rw[hx]at j;exact j.elim
    ·rename_i b hx
     rw[hx]at j;exact AK ⟨_,hy,af h ho Z ⟨_,C⟩ j⟩
    ·grind
   ·rename_i e Z
    split at hy<;>try exact hy.elim
    rename_i he
    split at hy
    ·rename_i hx;rw[hx]at j;exact j.elim
    ·rename_i b hx
     rw[hx]at j;exact AK ⟨_,hy,X9 h ho Z he ⟨_,C⟩ j⟩
    ·grind
   ·grind
  ·grind
 ·rename_i s x f ho
  split at hy
  ·rename_i N B
   split at hy
   ·rename_i fd O
    obtain⟨hz,hy⟩:=Al hy;exact AK (XA h A ho B O hz hy)
   ·grind
  ·grind
 ·rename_i s x f ho
  have j:=ρ_sound h A x;split at hy
  ·rename_i N B
   split at hy
   ·rename_i fd O
    split at hy
    ·rename_i hx;rw[hx]at j;exact j.elim
    ·rename_i cs hx
     rw[hx]at j;exact AK (fg h ho B O j hy)
    ·grind
   ·grind
  ·grind
 ·rename_i t x ix ho
  have j:=ρ_sound h A x;have E:=ρ_sound h A ix;split at hy
  ·rename_i e B
   split at hy
   ·rename_i k i Q
    rw[Q]at E;split at hy
    ·rename_i sz xs hx
     rw[hx]at j;obtain⟨⟨C,D⟩,hy⟩:=Al hy;exact AK (Uq h ho B C D E j hy)
    ·rename_i sz xs hx
     rw[hx]at j;obtain⟨⟨C,D⟩,hy⟩:=Al hy;exact AK (Uq h ho B C D E j.1 hy)
    ·rename_i id n sz e' xs hx
     rw[hx]at j;obtain⟨C,hy⟩:=Al hy;obtain⟨⟨h0,H⟩,hy⟩:=hy;exact AK ⟨_,hy,XD h ho B E C j h0 H⟩
    ·grind
   ·grind
  ·rename_i n e B
   split at hy
   ·rename_i k i Q
    rw[Q]at E;split at hy
    ·rename_i cs hx
     rw[hx]at j;obtain⟨C,hy⟩:=Al hy;obtain⟨W,hy⟩:=hy;exact AK (XC h ho B C E j W hy)
    ·rename_i id m off cs hx
     rw[hx]at j;obtain⟨C,hy⟩:=Al hy;obtain⟨⟨h0,W⟩,hy⟩:=hy;exact AK ⟨_,hy,WL h ho B C E j h0 W⟩
    ·grind
   ·grind
  ·grind
 ·rename_i t x ix ho
  have j:=ρ_sound h A x;have E:=ρ_sound h A ix;split at hy
  ·rename_i n e B
   split at hy
   ·rename_i k i Q
    rw[Q]at E;split at hy
    ·rename_i cs hx
     rw[hx]at j;obtain⟨C,hy⟩:=Al hy;obtain⟨⟨h0,W⟩,hy⟩:=hy;exact AK (XB h ho B E j C h0 W hy)
    ·grind
   ·grind
  ·rename_i B
   split at hy
   ·rename_i k i Q
    rw[Q]at E;split at hy
    ·rename_i b hx
     rw[hx]at j;obtain⟨⟨h0,H⟩,hy⟩:=hy;exact AK ⟨_,hy,ah h ho B E j h0 H⟩
    ·grind
   ·grind
  ·grind
 ·rename_i t x lo Q mx ho
  have j:=ρ_sound h A x;split at hy
  ·rename_i B
   cases mx with
   | some m=>grind
   | none =>
     simp only at hy;split at hy
     ·rename_i b hx
      rw[hx]at j;obtain⟨l,hy,hl⟩:=Pp h A hy;obtain⟨r,hy,hr⟩:=Pp h A hy;obtain⟨⟨h0,H,L⟩,hy⟩:=hy;exact AK ⟨_,hy,ak h ho B j hl hr h0 H L⟩
     ·grind
  ·rename_i e B
   split at hy
   ·rename_i sz xs hx
    rw[hx]at j;obtain⟨⟨C,D⟩,hy⟩:=Al hy;exact AK (MO h A ho B C D (bx:=[]) trivial j hy)
   ·rename_i sz hx
    rw[hx]at j;obtain⟨⟨C,D⟩,hy⟩:=Al hy;exact AK (MO h A ho B C D (bx:=[]) (xs:=[]) trivial (Ay.norm j) hy)
   ·rename_i sz xs hx
    rw[hx]at j;obtain⟨⟨C,D⟩,hy⟩:=Al hy;exact AK (MO h A ho B C D (bx:=[]) trivial j.1 hy)
   ·rename_i id n sz e' xs hx
    rw[hx]at j;obtain⟨⟨C,D⟩,hy⟩:=Al hy;rcases hy.go with hy|hy
    ·obtain⟨y,b,hK,hF,_,hh⟩:=JC (x:=X) (G:=G) (a:=a) (K:=λy b=>y=.list sz xs/\b=[(id,BJ.frow sz xs,n)]) j ⟨rfl,rfl⟩;obtain⟨rfl,rfl⟩:=hK;exact AK (MO h A ho B C D hF (hh.now h hF) hy)
    ·cases lo with
     | some q=>grind
     | none =>
       cases mx with
       | some q=>grind
       | none =>
         simp only at hy;obtain⟨r,hy,hr⟩:=Pp h A hy;obtain⟨⟨h0,L⟩,hy⟩:=hy;exact AK ⟨_,hy,lS h ho B C D j hr h0 L⟩
   ·grind
  ·grind
 ·rename_i c ho
  split at hy
  ·rename_i fo F
   split at hy
   ·rename_i f caps O
    split at hy
    ·exact Zo h A hd ho F O hy
    ·rename_i k id n cl hfd
     rcases hy.go with hy|hy
     ·split at hy<;>try exact hy.elim
      exact AK (fj h A ho F O hfd hy)
     ·exact Zo h A hd ho F O hy
   ·rename_i f cs k id n rid rn O
    split at hy<;>try exact hy.elim
    rename_i hr
    exact AK (fm h A ho F O hr hy)
   ·grind
  ·rename_i F
   split at hy
   ·rename_i x t hx Z
    have M:c=⟨.builtin .len,#[x],#[t]⟩:=by
     obtain⟨J,args,ts⟩:=c;simp only at F hx Z;rw[F,ZV hx,ZV Z]
    rw[M]at ho;have j:=ρ_sound h A x;split at hy
    ·rename_i B
     split at hy
     ·rename_i C;rw[C]at j;exact j.elim
     ·rename_i s C
      rw[C]at j;exact AK ⟨_,hy,jA h ho (KS j) B⟩
     ·grind
    ·rename_i e B
     split at hy
     ·rename_i C;rw[C]at j;exact j.elim
     ·obtain⟨sz,ys,hK,ad,c',V,_⟩:=RZ h j hy;exact AK ⟨_,hK,lT h ho ⟨ad,c',V⟩ B⟩
    ·grind
   ·grind
  ·rename_i F
   split at hy
   ·rename_i x y hx
    have M:c=⟨.builtin .min,#[x,y],c.argTypes⟩:=by
     obtain⟨J,args,ts⟩:=c;simp only at F hx;rw[F,LM hx]
    rw[M]at ho;split at hy
    ·rename_i k m hm
     have j:=ρ_sound h A x;rw[hm]at j;split at hy
     ·rename_i k' n W
      have I:=ρ_sound h A y;rw[W]at I;exact AK ⟨_,hy,(Wc h ho j I).1 rfl⟩
     ·grind
    ·grind
   ·grind
  ·rename_i F
   split at hy
   ·rename_i x y hx
    have M:c=⟨.builtin .max,#[x,y],c.argTypes⟩:=by
     obtain⟨J,args,ts⟩:=c;simp only at F hx;rw[F,LM hx]
    rw[M]at ho;split at hy
    ·rename_i k m hm
     have j:=ρ_sound h A x;rw[hm]at j;split at hy
     ·rename_i k' n W
      have I:=ρ_sound h A y;rw[W]at I;exact AK ⟨_,hy,(Wc h ho j I).2 rfl⟩
     ·grind
    ·grind
   ·grind
  ·rename_i F
   split at hy
   ·rename_i x y t u hx Z
    have M:t=u->c=⟨.builtin .append,#[x,y],#[t,t]⟩:=by
     intro e;subst e;obtain⟨J,args,ts⟩:=c;simp only at F hx Z;rw[F,LM hx,LM Z]
    split at hy
    ·rename_i e B
     obtain⟨⟨htu,D,hz⟩,hy⟩:=Al hy;rw[M htu]at ho;obtain⟨sz',ys,hK,ad,c',V,hys⟩:=RZ h (ρ_sound h A y) hy;have j:=ρ_sound h A x;split at hK
     ·rename_i id n sz e' xs hxr
      obtain⟨⟨he,hsz⟩,hK2⟩:=Al hK;subst he;rw[hxr]at j;obtain⟨⟨H,L,h3⟩,hK3⟩:=hK2;exact AK ⟨_,hK3,c9 h ho B j hsz hz V hys H L (by grind)⟩
     ·rename_i s hxr
      rw[hxr]at j;have j:Ay (OS β X S) w (a.eval x) (.nil s):=j;obtain⟨⟨H,L,h3⟩,hK3⟩:=hK
      have hx0:∃ad0,a.eval x=.slice ad0 0 0:=by
       generalize a.eval x=v at j
       cases j
       grind
      obtain⟨ad0,hx0⟩:=hx0;exact AK ⟨_,hK3,Qk h hd ho B (xs:=[]) rfl D hz V hys (by grind) (by simpa using L) h3 (.inl ⟨ad0,hx0,rfl⟩)⟩
     ·rename_i sz xs hxr
      obtain⟨hsz,hK2⟩:=Al hK;rw[hxr]at j;obtain⟨⟨⟨H,L,h3⟩,h4⟩,hK3⟩:=hK2;exact AK ⟨_,hK3,Qk h hd ho B hsz (by grind) hz V hys H L (by rw[hsz];exact h3) (.inr ⟨j.1,j.2,h4⟩)⟩
     ·grind
    ·grind
   ·grind
  ·grind
 ·rename_i t i ho
  have j:=ρ_sound h A t;split at hy
  ·rename_i xs hx
   rw[hx]at j;split at hy
   ·rename_i y hyy
    exact AK ⟨_,hy,(Up h ho j hyy).1 _ rfl⟩
   ·rename_i id n hyy
    exact AK ⟨_,hy,(Up h ho j hyy).2 _ _ rfl⟩
   ·grind
  ·grind
 ·rename_i t ho
  split at hy
  ·exact AK ⟨_,hy,ai h hd ho⟩
  ·grind
 ·rename_i t x ix ok ho
  split at hy
  ·rename_i kt et B
   unfold iJ at hy;split at hy<;>try exact hy.elim
   rename_i id n es hx
   split at hy<;>try exact hy.elim
   rename_i q hq
   split at hy<;>try exact hy.elim
   rename_i kd hkq
   obtain⟨⟨hku,hkk⟩,hy⟩:=hy;split at hy<;>try exact hy.elim
   rename_i z hz
   obtain⟨v,b,rfl,rfl,hy⟩:=hy.go;have hd':=cF h A ho B hx hq hkq hku hkk hz;grind
  ·grind
 ·rename_i t m k x ho
  split at hy
  ·rename_i kt et B
   unfold qa at hy;split at hy<;>try exact hy.elim
   rename_i id n es hm
   split at hy<;>try exact hy.elim
   rename_i q hq
   split at hy<;>try exact hy.elim
   rename_i y hyy
   split at hy<;>try exact hy.elim
   rename_i kd hkq
   obtain⟨⟨R,hku,hkk⟩,hy⟩:=hy;exact AK ⟨_,hy,cG h A ho B hm hq hyy R hkq hku hkk⟩
  ·grind
 ·grind
theorem fN{t:TypeId}{cs:List D}{K:D->Prop}(hy:dj P t cs K):∃x,K x:=by
 unfold dj at hy;split at hy
 ·split at hy
  ·rw[BW]at hy;grind
  ·grind
 all_goals grind
theorem lA{b:BinOp}{k:IntKind}{m n:Int}{K:D->Prop}(hy:Xs b k m n K):∃x,K x:=by
 cases b<;>simp only[Xs]at hy<;>first|exact hy.elim|exact⟨_,hy⟩|exact⟨_,hy.2⟩
theorem pU{b:BinOp}{x y:ByteArray}{K:D->Prop}(hy:gH b x y K):∃x,K x:=by
 cases b<;>simp only[gH]at hy<;>first|exact hy.elim|exact⟨_,hy⟩|exact⟨_,hy.2⟩
theorem ma:∀(n:Nat){t:TypeId}{xs ys:List D}{K:Bool->Prop},cI P n t xs ys K->∃b,K b
 | 0,_,_,_,_,h=>h.elim
 | n+1,t,xs,ys,K,h=>by
   unfold cI at h;split at h
   ·grind
   ·grind
   ·grind
   ·obtain⟨_,h⟩:=h
    ·have key:∀(l:List Field)(K:Bool->Prop),List.rec (motive:=λ_=>(Bool->Prop)->Prop) (λK=>K true)
      (λf _ ih K=>cI P n f.type ((xs.drop f.offset).take (AD P f.type)) ((ys.drop f.offset).take (AD P f.type)) λa=>ih λb=>K (a&&b)) l K->∃b,K b:=by
      intro l
      induction l with
      | nil=>intro K h;exact⟨_,h⟩
      | cons f r ih =>
        intro K h;obtain⟨a,c⟩:=ma n h;grind
     grind
   ·grind
theorem oK{t:TypeId}{c:BinOp}{x y:D}{K:D->Prop}(hy:bO P t c x y K):∃x,K x:=by
 cases x<;>cases y<;>simp only[bO]at hy
 case bool.bool =>
  grind
 case int.int k m k' n =>
  have g:c=.shl\/c=.shr\/(c≠.shl/\c≠.shr):=by grind
  rcases g with rfl|rfl|⟨d,e⟩
  ·exact⟨_,hy.2⟩
  ·exact⟨_,hy.2⟩
  ·have f:if k=k' then Xs c k m n K else False:=by cases c<;>first|exact hy|exact absurd rfl d|exact absurd rfl e
   exact lA (Al f).2
 case str.str=>exact pU hy
 case agg.agg =>
  obtain⟨_,hy⟩:=hy
  cases c<;>first|exact hy.elim|(obtain⟨b,h⟩:=ma 12 hy;exact⟨_,h⟩)
theorem rK{b:UnOp}{x:D}{K:D->Prop}(hy:rJ b x K):∃x,K x:=by
 cases b<;>cases x<;>simp only[rJ]at hy <;>  grind
theorem jW{r:RV}{K:Nat->List D->Prop}(hy:OK r K):∃n xs,K n xs:=by
 cases r<;>simp only[OK]at hy
 case d x=>cases x<;>simp only at hy <;>  grind
 case lim=>exact⟨_,_,hy⟩
 grind
theorem qM{r:RV}{K:D->Bx->Prop}(hy:Zd r K):∃x b,K x b:=by
 cases r<;>simp only[Zd]at hy<;>exact⟨_,_,hy⟩
theorem R6{σ:Nat->Nat->RV}:∀{cs:List C}{K:List D->Bx->Prop},Ea σ cs K->∃l b,K l b
 | [],K,h=>⟨_,_,h⟩
 | .d x :: r,K,h=>by
   have h:Ea σ r λl b=>K (x :: l) b:=h;obtain⟨l,b,h⟩:=R6 h;exact⟨_,_,h⟩
 | .sl id n :: r,K,h=>by
   have h:Zd (σ id n) λx b=>Ea σ r λl c=>K (x :: l) (b++c):=h;obtain⟨x,b,h⟩:=qM h;obtain⟨l,c,h⟩:=R6 h;exact⟨_,_,h⟩
 | .own _ _ _ :: r,K,h=>h.elim
theorem rk{σ:Nat->Nat->RV}{t:TypeId}{cs:List C}{K:Hn->Prop}(hy:oD P σ t cs K):∃e,K e/\e.av.guards=[]:=by
 unfold oD at hy;split at hy
 ·split at hy
  ·rw[BW]at hy;have hy:=(Al hy).2;split at hy
   ·obtain⟨l,b,h⟩:=R6 hy;exact⟨_,h,rfl⟩
   ·rcases hy.go with hy|hy
    ·obtain⟨l,b,h⟩:=R6 hy;exact⟨_,h,rfl⟩
    ·exact⟨_,(Al hy).2,rfl⟩
  ·grind
 ·split at hy
  ·exact⟨_,hy,rfl⟩
  ·exact⟨_,hy,rfl⟩
  ·grind
 ·grind
theorem bN(r:RV):(back r).guards=[]:=by cases r<;>rfl
theorem eC{σ:Nat->Nat->RV}{ρ:Option (Nat×Bool)->Operand->RV}{g:Option (Nat×Bool)}{d n:Nat}{K:Hn->Prop}(b:Mo o.op=true)(hy:yA P σ ρ g o d n K):∃e,K e/\e.av.guards=[]:=by
 unfold yA at hy;split at hy
 all_goals (rename_i ho;try (rw[ho]at b;simp[Mo]at b;done))
 ·exact⟨_,hy,bN _⟩
 ·split at hy
  ·exact⟨_,hy,rfl⟩
  ·split at hy
   ·split at hy
    ·exact⟨_,hy,rfl⟩
    ·grind
   ·split at hy
    ·exact⟨_,hy,rfl⟩
    ·exact⟨_,hy,rfl⟩
    ·grind
   ·grind
  ·grind
 ·split at hy
  ·exact⟨_,hy,rfl⟩
  ·exact rk hy
  ·obtain⟨x,hx⟩:=fN hy;exact⟨_,hx,rfl⟩
  ·obtain⟨_,y,_,hy⟩:=hy.go;obtain⟨x,hx⟩:=fN hy;exact⟨_,hx,rfl⟩
  ·grind
 ·split at hy
  ·exact⟨_,hy,rfl⟩
  ·split at hy
   ·exact⟨_,hy,rfl⟩
   ·obtain⟨x,hx⟩:=oK hy;exact⟨_,hx,rfl⟩
   ·grind
  ·grind
 ·split at hy
  ·exact⟨_,hy,rfl⟩
  ·obtain⟨x,hx⟩:=rK hy;exact⟨_,hx,rfl⟩
  ·grind
 ·split at hy
  ·split at hy
   ·split at hy
    ·exact⟨_,hy,rfl⟩
    ·exact⟨_,hy,rfl⟩
    ·grind
   ·split at hy
    ·exact⟨_,hy,rfl⟩
    ·exact⟨_,hy,rfl⟩
    ·grind
   ·split at hy<;>try exact hy.elim
    split at hy
    ·exact⟨_,hy,rfl⟩
    ·exact⟨_,hy,rfl⟩
    ·grind
   ·grind
  ·grind
 ·split at hy
  ·split at hy
   ·have hy:=(Al hy).2;split at hy
    ·exact⟨_,hy,rfl⟩
    ·exact⟨_,hy,rfl⟩
    ·rw[BW]at hy;exact⟨_,hy,rfl⟩
    ·exact⟨_,hy,rfl⟩
    ·grind
   ·grind
  ·grind
 ·split at hy
  ·split at hy
   ·split at hy
    ·exact⟨_,hy,rfl⟩
    ·obtain⟨x,hx⟩:=fN hy;exact⟨_,hx,rfl⟩
    ·grind
   ·grind
  ·grind
 ·rw[ho]at b;split at hy
  ·rename_i c;simp[Mo,c]at b
  ·split at hy
   ·split at hy
    ·split at hy
     ·exact⟨_,hy,rfl⟩
     ·exact⟨_,hy,rfl⟩
     ·grind
    ·split at hy
     ·exact⟨_,hy,rfl⟩
     ·obtain⟨_,_,hx⟩:=jW hy;exact⟨_,hx,rfl⟩
    ·grind
   ·grind
  ·rename_i c;simp[Mo,c]at b
  ·rename_i c;simp[Mo,c]at b
  ·rename_i c;simp[Mo,c]at b
  ·grind
 ·grind
end
theorem XL(v:AV)(K:AV->Prop):WV v K=K v:=by
 cases v<;>simp only[WV,Pk]
 grind
theorem Zw(b:BJ)(K:BJ->Prop):au b K=K b:=by
 cases b<;>simp only[au,Pk]
theorem F5:∀(S:AS)(K:AS->Prop),EF S K=K S
 | [],_=>rfl
 | ⟨_,_,_⟩ :: r,K=>by rw[EF,F5 r];simp only[XL,Zw,Pk]
theorem Lw:∀(l:List Nat)(K:List Nat->Prop),Oy l K=K l
 | [],_=>rfl
 | x :: r,K=>by rw[Oy,Lw r]
theorem RX:∀(S:AS)(d:Nat)(v:AV)(K:AS->Prop),Rw S d v K=K (FB S d v)
 | [],_,_,_=>rfl
 | ⟨_,_,_⟩ :: _,0,_,_=>rfl
 | s :: r,d+1,v,K=>by rw[Rw,RX r];rfl
theorem Yw:∀(S:AS)(d:Nat)(b:BJ)(n:Nat)(K:AS->Prop),Xd S d b n K=K (AY S d b n)
 | [],_,_,_,_=>rfl
 | ⟨_,_,_⟩ :: _,0,_,_,_=>rfl
 | s :: r,d+1,b,n,K=>by rw[Xd,Yw r];rfl
theorem Ni:∀(b:Bx)(S:AS)(K:AS->Prop),PD b S K=K (Bh b S)
 | [],_,_=>rfl
 | (id,b,n) :: r,S,K=>by rw[PD,Pk,Zw,Yw,Ni r];rfl
theorem ZS(dst:Option Nat)(e:Hn)(S:AS)(K:AS->Prop):jr dst e S K=K (Zc dst e S):=by
 obtain⟨v,bx,a⟩:=e
 cases dst with
 | none=>simp only[jr,Ni];rfl
 | some d=>simp only[jr,XL,Ni,RX];rfl
theorem OG:∀(S:AS)(d:Nat)(K:Nat->Prop),VG S d K->d<S.length/\K (Ag S d).ver
 | [],_,_,h=>h.elim
 | ⟨_,_,_⟩ :: _,0,_,h=>⟨by simp,h⟩
 | s :: r,d+1,K,h=>by
   obtain⟨a,b⟩:=OG r d K h;exact⟨by simpa using a,b⟩
theorem Ur:∀(l:List Oper)(j:Nat),Wd l j=(l[j]?).bind (·.dst)
 | [],_=>rfl
 | _ :: _,0=>rfl
 | _ :: r,j+1=>by simp only[Wd,vm];exact Ur r j
section
variable {P:Program} {X:Cx} {G:Nat->Prop} {β:Nat->Value} {S:AS} {a:Act} {w:World} {o:Oper}
def VJ(X:Cx)(G:Nat->Prop)(S:AS)(a:Act)(e:Hn)(v:Value)(w':World):Prop :=
 ∃β',SimB X G β' (Bh e.bx S) a w'/\JX β' (AH (Bh e.bx S)) (OS β' X (Bh e.bx S)) w' a.tmps v e.av/\∀u∈e.av.guards,G u
def lq(P:Program)(ops:Array Oper)(X:Cx)(G:Nat->Prop)(S:AS)(a:Act)(w:World)(o:Oper)(e:Hn):Prop :=
 (Region.wanted o (yielded ops a.tmps)=true /\
  ((∃v w',(execOp a.eval o).run P w=.ok (.value v) w'/\VJ X G S a e v w') \/
   (∃w',(execOp a.eval o).run P w=.ok .skip w'/\VJ X G S a e undef w') \/
   (∃f args,(execOp a.eval o).run P w=.ok (.enter f args) w/\Calls P f args w λe' w'=>∃v,e'=.returned v/\VJ X G S a e v w'))) \/
 (Region.wanted o (yielded ops a.tmps)=false/\VJ X G S a e undef w)
theorem Sm.toG{e:Hn}{v:Value}{w':World}(h:Sm X G S a e v w'):VJ X G S a e v w':=by
 obtain⟨b,c,d,f⟩:=h;exact⟨b,c,d,by rw[f];simp⟩
theorem Sm.toU{e:Hn}{v:Value}{w':World}{t:Nat}{b:Bool}(l:G t)(c:a.tmps[t]?=some (.bool b))(h:Sm X G S a e v w'):VJ X G S a ⟨.under t b e.av,e.bx,[]⟩ v w':=by
 obtain⟨d,f,g,i⟩:=h;refine⟨d,f,⟨λ_=>g,λj=>absurd c j⟩,?_⟩;intro u k;simp only[AV.guards,i,vR]at k;grind
theorem Dp.to{b:Array Oper}{e c:Hn}(h:Region.wanted o (yielded b a.tmps)=true)(hd:Dp P X G S a w o e)
 (hp:∀v w',Sm X G S a e v w'->VJ X G S a c v w'):lq P b X G S a w o c:=by
 refine .inl ⟨h,?_⟩;rcases hd with⟨v,w',d,g⟩|⟨w',d,g⟩|⟨f,args,d,g⟩
 ·grind
 ·grind
 ·exact .inr (.inr ⟨f,args,d,g.mono λc w' ⟨v,i,j⟩=>⟨v,i,hp v w' j⟩⟩)
theorem Zl{x:Option Nat}{K:Nat->Prop}(h:dK x K):K (x.getD 0):=by cases x<;>exact h
theorem Yv:∀(S:AS)(t:Nat)(v:AV),(Ag S t).av=v->FB S t v=S
 | [],_,_,_=>rfl
 | ⟨x,b,n⟩ :: r,0,v,h=>by simp only[Ag]at h;subst h;rfl
 | s :: r,t+1,v,h=>by rw[FB,Yv r t v h]
theorem bi{t:Nat}{x:AV}(h:SimB X G β S a w)(hx:(Ag S t).av=x)(c:x≠.any):∃v,a.tmps[t]?=some v/\JX β (AH S) (OS β X S) w a.tmps v x:=by
 have d:t<S.length:=by
  rcases uZ t S.length with e|e
  ·exact e
  ·rw[Nf S t e]at hx;exact absurd hx.symm c
 have b:t<a.tmps.size:=by rw[h.len];exact d
 refine⟨a.tmps[t],by simp[b],?_⟩;have:=h.slots t a.tmps[t] (by grind);grind
def jl(lk:List Nat):Nat->Nat->AS->Option Bool->Prop
 | 0,_,_,_=>False
 | n+1,t,S,r=>t∈lk/\((∃b,(Ag S t).av=.d (.bool b)/\r=some b) \/
     (∃t' w' b r',(Ag S t).av=.under t' w' (.d (.bool b))/\jl lk n t' S r'/\(r'=some w'/\r=some b\/r'≠some w'/\r=none)) \/
     ∃t' w',(Ag S t).av=.under t' w' .bot/\r=none)
theorem Ot{S:AS}{t:Nat}{mk:Bool->AV}{b:Bool}{K:AS->Option Bool->Prop}(c:(Ag S t).av=mk b):Zg S t mk b K↔K S (some b):=by
 unfold Zg
 cases b<;>simp only[VT]<;>rw[RX,Yv S t _ c]
theorem Tn{lk:List Nat}:∀{n t:Nat}{S:AS}{K:AS->Option Bool->Prop},j6 lk n t S K->∃r,K S r/\jl lk n t S r
 | 0,_,_,_,h=>h.elim
 | n+1,t,S,K,h=>by
   unfold j6 at h;obtain⟨c,h⟩:=Al h;have c:t∈lk:=by grind
   split at h
   ·rename_i b f
    exact⟨some b,(Ot f).1 h,c,.inl ⟨b,f,rfl⟩⟩
   ·rename_i g w' b f
    obtain⟨r,h,hd⟩:=Tn h
    have d:r=some w'->Zg S t (λb=>.under g w' (.d (.bool b))) b K->∃r,K S r/\jl lk (n+1) t S r:=λe h =>
     ⟨some b,(Ot (mk:=λb=>.under g w' (.d (.bool b))) f).1 h,c,.inr (.inl ⟨g,w',b,r,f,hd,.inl ⟨e,rfl⟩⟩)⟩
    have no:r≠some w'->K S none->∃r,K S r/\jl lk (n+1) t S r:=λe h=>⟨none,h,c,.inr (.inl ⟨g,w',b,r,f,hd,.inr ⟨e,rfl⟩⟩)⟩
    match r,w',h,d,no with
    | none,_,h,_,no=>exact no (by simp) h
    | some true,true,h,d,_=>exact d rfl h
    | some true,false,h,_,no=>exact no (by simp) h
    | some false,true,h,_,no=>exact no (by simp) h
    | some false,false,h,d,_=>exact d rfl h
   ·rename_i g w' f
    exact⟨none,h,c,.inr (.inr ⟨g,w',f,rfl⟩)⟩
   ·grind
theorem aa{lk:List Nat}:∀{n t:Nat}{S:AS}{r:Option Bool}{K:AS->Option Bool->Prop},jl lk n t S r->K S r->j6 lk n t S K
 | 0,_,_,_,_,h,_=>h.elim
 | n+1,t,S,r,K,⟨hlk,h⟩,hK=>by
   unfold j6;rw[uk (by grind)];rcases h with⟨b,c,rfl⟩|⟨d,w',b,f,c,hd,h⟩|⟨d,w',c,rfl⟩
   rotate_left 2
   ·grind
   ·rw[c];exact(Ot c).2 hK
   ·rw[c];refine aa hd ?_;rcases h with⟨rfl,rfl⟩|⟨e,rfl⟩
    ·cases w'<;>exact(Ot (mk:=λb=>.under d _ (.d (.bool b))) c).2 hK
    ·grind
theorem jl.tmp{lk:List Nat}(h:SimB X G β S a w):∀{n t:Nat}{r:Option Bool},jl lk n t S r->(∀b,r=some b->a.tmps[t]?=some (.bool b))/\(r=none->∀b,a.tmps[t]?≠some (.bool b))
 | 0,_,_,hd=>hd.elim
 | n+1,t,r,⟨_,hd⟩=>by
   rcases hd with⟨b,g,rfl⟩|⟨k,w',b,s,g,hd,hr⟩|⟨k,w',g,rfl⟩
   rotate_left 2
   ·obtain⟨v,f,d⟩:=bi h g (by simp);refine⟨λi e=>(by cases e),λ_ i=>?_⟩;by_cases p:a.tmps[k]?=some (.bool w')
    ·exact(d.1 p).elim
    ·rw[f,d.2 p];intro j;cases j
   ·obtain⟨v,f,hr⟩:=bi h g (by simp);exact⟨λi e=>by cases e;rw[f,EH hr],λe=>by cases e⟩
   ·obtain⟨v,f,d⟩:=bi h g (by simp);obtain⟨q,u⟩:=jl.tmp h hd;rcases hr with⟨rfl,rfl⟩|⟨l,rfl⟩
    ·exact⟨λi e=>by cases e;rw[f,EH (d.1 (q _ rfl))],λe=>by cases e⟩
    ·refine⟨λi e=>(by cases e),λ_ i=>?_⟩
     have m:a.tmps[k]?≠some (.bool w'):=by
      cases s with
      | none=>exact u rfl w'
      | some c=>rw[q c rfl];intro j;cases j;exact l rfl
     rw[f,d.2 m];intro j;cases j
theorem Ka{b:Bool}{r:Option Bool}{go skip:Prop}:Xt b r go skip↔(r=some b/\go)\/(r≠some b/\skip):=by
 unfold Xt;grind
theorem YA{g:Option (Nat×Bool)}{d n:Nat}{K:Hn->Prop}(hy:yS P S g o d n K):(∃x,o.op=.move x/\mA (ev S x)=true/\K ⟨ev S x,[],[]⟩)\/(LU S o=false/\yA P (σOf S) (ρOf S) g o d n K):=by
 unfold yS at hy;unfold LU;split at hy
 ·rename_i x ho
  split at hy
  ·rename_i id v k he
   exact .inl ⟨x,ho,by rw[he];rfl,by rw[he];exact hy⟩
  ·rename_i id v he
   exact .inl ⟨x,ho,by rw[he];rfl,by rw[he];exact hy⟩
  ·rename_i b c
   refine .inr ⟨?_,hy⟩
   cases he:ev S x with
   | ptr id v k=>grind
   | sl id v=>grind
   | _=>rfl
 ·grind
theorem U4{x:AV}(h:mA x=true):x.guards=[]:=by
 cases x with
 | ptr=>rfl
 | sl=>rfl
 | _=>cases h
theorem YB(h:SimB X G β S a w){g:Option (Nat×Bool)}(j:Ce g a){d:Nat}(hd:d<S.length){K:Hn->Prop}(hy:yS P S g o d (Ag S d).ver K) :
 ∃e,K e/\(Hg S e.homes=true->Dp P X G S a w o e):=by
 rcases YA hy with⟨x,ho,b,hK⟩|⟨_,hy⟩
 ·refine⟨_,hK,λ_=>AM h (v:=a.eval x) (by simp[execOp,ho]) ?_ (U4 b)⟩
  cases x with
  | tmp t =>
    simp only[ev]at b ⊢;simp only[Act.eval];by_cases i:t<a.tmps.size
    ·have:=h.slots t a.tmps[t] (by simp[i]);simp_all
    ·have e:Ag S t=eK:=Nf S t (by rw[<-h.len];exact Nat.le_of_not_lt i);rw[e]at b;cases b
  | const c=>simp only[ev]at b;unfold eZ at b;split at b<;>cases b
  | global q=>simp only[ev]at b;split at b<;>cases b
  | func f=>cases b
 ·exact o8 h j hd hy
theorem eE{g:Option (Nat×Bool)}{d n:Nat}{K:Hn->Prop}(b:Mo o.op=true)(hy:yS P S g o d n K):∃e,K e/\e.av.guards=[]:=by
 rcases YA hy with⟨x,ho,c,hK⟩|⟨_,hy⟩
 ·exact⟨_,hK,U4 c⟩
 ·exact eC b hy
theorem Z8{i:Array Oper}{done:List Nat}(h:SimB X (·∈done) β S a w){K:AS->Hn->Prop}(hy:kq P i.toList done o S K) :
 ∃e,K S e/\lq P i X (·∈done) S a w o e:=by
 unfold kq at hy;split at hy
 ·rename_i l
  obtain⟨hd,hy⟩:=OG _ _ _ (Zl hy);obtain⟨e,hK,k⟩:=YB h (g:=none) (λ_ _ e=>by cases e) hd hy;obtain⟨m,hK⟩:=Al hK;exact⟨e,hK,(k m).to (by simp[Region.wanted,l]) λv w' hp=>hp.toG⟩
 ·rename_i j d l
  split at hy
  ·grind
  ·rename_i t H
   obtain⟨A,hy⟩:=Al hy;have p:t∈done:=by grind
   have B:yielded i a.tmps j=(match a.tmps[t]? with|some (.bool b)=>some b|_=>none):=by
    have:(i[j]?).bind (·.dst)=some t:=by rw[<-H,Ur];simp
    simp only[yielded,this,ue];grind
   have f:Region.wanted o (yielded i a.tmps)=true↔a.tmps[t]?=some (.bool d):=by
    simp only[Region.wanted,l,B];grind
   split at hy
   ·rename_i n
    obtain⟨hd,hy⟩:=OG _ _ _ (Zl hy);by_cases q:a.tmps[t]?=some (.bool d)
    ·obtain⟨e,hK,k⟩:=YB h (g:=some (t,d)) (λ_ _ e=>by cases e;exact q) hd hy;split at hK
     ·exact⟨_,hK,(k rfl).to (f.2 q) λv w' hp=>hp.toU p q⟩
     ·grind
    ·obtain⟨e,hK,s⟩:=eE n hy;split at hK
     ·rename_i v
      refine⟨_,hK,.inr ⟨by rw[Bool.eq_false_iff];exact λn=>q (f.1 n),β,h,⟨λn=>absurd n q,λ_=>rfl⟩,?_⟩⟩;intro u z;simp only at s;simp only[AV.guards,s,vR]at z;grind
     ·grind
   ·obtain⟨r,hy,x⟩:=Tn hy;obtain⟨C,I⟩:=x.tmp h;rcases Ka.1 hy with⟨D,E⟩|⟨J,hK⟩
    ·have y:=C d D;obtain⟨hd,hy⟩:=OG _ _ _ (Zl E);obtain⟨e,hK,k⟩:=YB h (g:=some (t,d)) (λ_ _ e=>by cases e;exact y) hd hy;obtain⟨m,hK⟩:=Al hK;exact⟨e,hK,(k m).to (f.2 y) λv w' hp=>hp.toG⟩
    ·have F:a.tmps[t]?≠some (.bool d):=by
      cases r with
      | none=>grind
      | some c=>grind
     refine⟨_,hK,.inr ⟨?_,β,h,⟨λn=>absurd n F,λ_=>rfl⟩,λu z=>by simp[AV.guards]at z;rw[z];exact p⟩⟩;grind
theorem SimB.weaken{b:Nat->Prop}(h:SimB X G β S a w)(c:∀t,G t->b t):SimB X b β S a w :=
 { h with gds:=λt u d=>c u (h.gds t u d) }
theorem lq.step{g:Array Oper}{e:Hn}{K:Act->World->Prop}{Q:Exit->Act->World->Prop}{done:List Nat}(hd:∀d,o.dst=some d->d ∉ done)(h:lq P g X (·∈done) S a w o e)
 (hK:∀i j w',SimB X (·∈Ew o.dst++done) i (Zc o.dst e S) j w'->K j w') :
 if Region.wanted o (yielded g a.tmps)then o.wp P a w K Q else K (a.put o.dst undef) w:=by
 have fin:∀v w',VJ X (·∈done) S a e v w'->K (a.put o.dst v) w':=by
  intro v w' hp;obtain⟨i,b,c,k⟩:=hp;refine hK i _ w' ?_
  cases hdst:o.dst with
  | none=>exact b
  | some d=>exact(b.put (hd d hdst) c k).weaken λt m=>by simp[m]
 rcases h with⟨l,h⟩|⟨l,h⟩
 ·rw[uk l];unfold Oper.wp;rcases h with⟨v,w',b,c⟩|⟨w',b,c⟩|⟨f,args,b,c⟩
  ·rw[b];exact fin v w' c
  ·rw[b];exact fin undef w' c
  ·rw[b];exact c.mono λn w' ⟨v,k,p⟩=>by grind
 ·grind
theorem UE{pos:Bool}{x:Operand}(h:UD P o=some (pos,x)):∃b t y u e,o.op=.binOp b t x y u/\NE y=true/\o.guard=none/\P.underlying t=some (.slice e)/\(b=.eql/\pos=true\/b=.neq/\pos=false):=by
 unfold UD at h;grind
theorem aj(h:SimB X G β S a w){pos:Bool}{x:Operand}(s:UD P o=some (pos,x)){K:Bool->Prop}(hy:OK (ρOf S none x) λ_ xs=>qi xs K) :
 ∃b,K b/\Dp P X G S a w o ⟨.d (.bool (b==pos)),[],[]⟩:=by
 obtain⟨C,t,y,u,e,ho,z,_,n,k⟩:=UE s;obtain⟨sz,xs,hK,d,c,p,f⟩:=RZ h (ρ_sound h (g:=none) (λ_ _ e=>by cases e) x) hy;have A:=Po z;have i:a.eval y=.slice none 0 0:=by rw[A];rfl
 refine⟨d.isNone,hK.go _ (λl=>?_),?_⟩
 ·obtain⟨B,r,rfl,_⟩:=f.resolve_left l;rfl
 ·have j:(Op.equalIn 10000 t (.slice d xs.length c) (.slice none 0 0)).run P w=.ok d.isNone w:=by
   have key:∀m,(Op.equalIn (m+1) t (.slice d xs.length c) (.slice none 0 0)).run P w=.ok d.isNone w:=by
    intro m
    cases d with
    | none=>simp[Op.equalIn,run_underlying n]
    | some q=>simp[Op.equalIn,run_underlying n]
   exact key 9999
  refine AM h (v:=.bool (d.isNone==pos)) ?_ (.bool _) rfl;rcases k with⟨rfl,rfl⟩|⟨rfl,rfl⟩
  ·simp[execOp,ho,p,i,eqGuard,binOp,Op.equal,Op.maxDepth,j]
  ·simp[execOp,ho,p,i,eqGuard,binOp,Op.equal,Op.maxDepth,j]
theorem T4{c:Array Oper}{Q:Exit->Act->World->Prop}:∀{l:List Oper}{done:List Nat}{S:AS}{β:Nat->Value}{a:Act}{w:World}{K:AS->Prop},
 rz P c.toList done l S K->SimB X (·∈done) β S a w->(∀m S' k w' (f:List Nat),K S'->SimB X (·∈f) m S' k w'->Q .normal k w')->wpList P c Q l a w
 | [],done,S,β,a,w,K,hy,h,hQ=>wpList_nil (hQ β S a w done hy h)
 | o :: r,done,S,β,a,w,K,hy,h,hQ=>by
   obtain⟨g,hy⟩:=Al hy
   have hd:∀d,o.dst=some d->d ∉ done:=by
    intro d hd t;rw[hd]at g;simp[Ew]at g;exact g t
   cases ht:UD P o with
   | some q =>
     obtain⟨pos,x⟩:=q;simp only[ht]at hy;obtain⟨b,hK,n⟩:=aj h ht hy;rw[ZS,Lw]at hK;obtain⟨_,_,_,_,_,_,_,p,_⟩:=UE ht;have i:lq P c X (·∈done) S a w o ⟨.d (.bool (b==pos)),[],[]⟩:=n.to (by simp[Region.wanted,p]) λv w' hp=>hp.toG;exact wpList_step λu j=>i.step hd λm k w' s=>j _ _ (T4 hK s hQ)
   | none =>
     simp only[ht]at hy;obtain⟨e,hK,i⟩:=Z8 h hy;rw[ZS,Lw]at hK;exact wpList_step λu j=>i.step hd λm k w' s=>j _ _ (T4 hK s hQ)
def MU(s:Sl):Sl:=match s with
 | ⟨.under _ _ _,b,n⟩=>⟨.any,b,n⟩
 | s=>s
theorem Yg:∀(S:AS)(K:AS->Prop),plain S K=K (S.map MU)
 | [],_=>rfl
 | s :: r,K=>by
   rw[plain,Yg r];obtain⟨v,b,n⟩:=s
   cases v<;>rfl
theorem CZ:∀(S:AS)(i:Nat),Ag (S.map MU) i=MU (Ag S i)
 | [],_=>rfl
 | _ :: _,0=>rfl
 | _ :: r,i+1=>CZ r i
theorem JI(s:Sl):(MU s).box=s.box:=by obtain⟨v,b,n⟩:=s;cases v<;>rfl
theorem Ww(s:Sl):(MU s).ver=s.ver:=by obtain⟨v,b,n⟩:=s;cases v<;>rfl
theorem SimB.plain(h:SimB X G β S a w):SimB X (λ_=>False) β (S.map MU) a w:=by
 have d:OS β X (S.map MU)=OS β X S:=by funext b;simp only[OS,CZ,JI]
 have e:AH (S.map MU)=AH S:=by funext i;simp only[AH,CZ,Ww]
 refine⟨by simp[h.len],h.df,h.below,h.hbase,h.o₀,h.rs,?_,?_,?_,?_,?_,?_⟩
 ·intro t v f;rw[d,e,CZ];have:=h.slots t v f;generalize Ag S t=s at this ⊢;obtain⟨x,b,n⟩:=s
  cases x<;>first|exact this|trivial
 ·intro i;rw[d,e,CZ,JI];exact h.boxes i
 ·intro i b;rw[CZ,JI];exact h.mine i b
 ·intro i j b;rw[CZ,CZ,JI,JI];exact h.inj i j b
 ·intro t u c;rw[CZ]at c;generalize Ag S t=s at c;obtain⟨x,b,n⟩:=s
  cases x<;>simp[MU,AV.guards]at c
 ·intro i;rw[CZ,JI,Ww];exact h.ini i
theorem Zs{x y:D}{K:Prop}(h:me x y K):K/\(x.one=true->y.one=true)/\∀(O:Nat->Prop)(w:World)(u:Value),Ay O w u x->Ay O w u y:=by
 unfold me at h;split at h
 ·rename_i s
  obtain⟨h,hK⟩:=h;rcases h with rfl|rfl
  ·grind
  ·refine⟨hK,λ_=>rfl,λO w u h=>?_⟩
   cases h
   exact .emp _ _ _
 ·grind
theorem mf{x y:D}{K:Prop}(h:me x y K):me x y True:=by
 unfold me at h ⊢;grind
def tN(v v':Nat->Nat)(cs cs':List C):Prop:=cs.length=cs'.length/\∀(β:Nat->Value)(O:Nat->Prop)(w:World)(j:Nat)(u:Value) c c',cs[j]?=some c->cs'[j]?=some c'->Cj β v O w u c->Cj β v' O w u c'
theorem LR{v e:Nat->Nat}{K:Prop}:∀{cs f:List C},IE v e cs f K->K/\tN v e cs f
 | [],[],h=>⟨h,rfl,λ_ _ _ j u c c' d=>by simp at d⟩
 | [],_ :: _,h=>h.elim
 | .d x :: r,[],h=>h.elim
 | .sl _ _ :: r,[],h=>h.elim
 | .own _ _ _ :: r,[],h=>h.elim
 | .d x :: r,.d y :: q,h=>by
   obtain⟨h,ho,hx⟩:=Zs (show me x y (IE v e r q K)from h);obtain⟨g,i,k⟩:=LR h;refine⟨g,by simp[i],λβ O w j u c c' d b hr=>?_⟩
   cases j with
   | zero=>simp at d b;subst d;subst b;exact⟨hx O w u hr.1,ho hr.2⟩
   | succ j=>exact k β O w j u c c' (by simpa using d) (by grind) hr
 | .sl id n :: r,.sl id' n' :: q,h=>by
   have h:if id=id'/\n=v id/\n'=e id then IE v e r q K else False:=h
   obtain⟨⟨l,m,p⟩,s⟩:=Al h;obtain⟨g,i,k⟩:=LR s;subst l;refine⟨g,by simp[i],λβ O w j u c c' d b hr=>?_⟩
   cases j with
   | zero=>simp at d b;subst d;subst b;exact⟨vU p,λ_=>hr.2 m⟩
   | succ j=>exact k β O w j u c c' (by simpa using d) (by grind) hr
 | .d _ :: _,.sl _ _ :: _,h=>h.elim
 | .d _ :: _,.own _ _ _ :: _,h=>h.elim
 | .sl _ _ :: _,.d _ :: _,h=>h.elim
 | .sl _ _ :: _,.own _ _ _ :: _,h=>h.elim
 | .own _ _ _ :: _,.d _ :: _,h=>h.elim
 | .own _ _ _ :: _,.sl _ _ :: _,h=>h.elim
 | .own _ _ _ :: _,.own _ _ _ :: _,h=>h.elim
theorem MQ{v b:Nat->Nat}{K:Prop}:∀{cs c:List C},IE v b cs c K->IE v b cs c True
 | [],[],_=>trivial
 | [],_ :: _,h=>h.elim
 | .d x :: r,[],h=>h.elim
 | .sl _ _ :: r,[],h=>h.elim
 | .own _ _ _ :: r,[],h=>h.elim
 | .d x :: r,.d y :: q,h=>by
   have h:me x y (IE v b r q K):=h;show me x y (IE v b r q True);unfold me at h ⊢;split at h
   ·exact⟨h.1,MQ h.2⟩
   ·exact⟨h.1,MQ h.2⟩
 | .sl id n :: r,.sl id' n' :: q,h=>by
   have h:if id=id'/\n=v id/\n'=b id then IE v b r q K else False:=h
   obtain⟨d,e⟩:=Al h;show if id=id'/\n=v id/\n'=b id then IE v b r q True else False
   rw[uk d];exact MQ e
 | .d _ :: _,.sl _ _ :: _,h=>h.elim
 | .d _ :: _,.own _ _ _ :: _,h=>h.elim
 | .sl _ _ :: _,.d _ :: _,h=>h.elim
 | .sl _ _ :: _,.own _ _ _ :: _,h=>h.elim
 | .own _ _ _ :: _,.d _ :: _,h=>h.elim
 | .own _ _ _ :: _,.sl _ _ :: _,h=>h.elim
 | .own _ _ _ :: _,.own _ _ _ :: _,h=>h.elim
theorem U6{v j:Nat->Nat}{y y':AV}{K:Prop}(h:OJ v j y y' K) :
 K/\∀(β:Nat->Value)(O:Nat->Prop)(w:World)(tm:Array Value)(u:Value),JX β v O w tm u y->JX β j O w tm u y':=by
 cases y'<;>simp only[OJ]at h
 case any=>exact⟨h,λ_ _ _ _ _ _=>trivial⟩
 case d y =>
  split at h
  ·obtain⟨h,_,b⟩:=Zs h;exact⟨h,λ_ O w _ u hr=>b O w u hr⟩
  ·obtain⟨rfl,h⟩:=h;exact⟨h,λ_ _ _ _ _ hr=>hr.1⟩
  ·grind
 case lim sz xs=>obtain⟨rfl,h⟩:=h;exact⟨h,λ_ _ _ _ _ hr=>hr⟩
 case ptr id n o =>
  split at h
  ·rename_i g l o'
   obtain⟨⟨rfl,b,e⟩,rfl,f⟩:=Al h;exact⟨f,λ_ _ _ _ _ hr=>⟨vU e,λ_=>hr.2 b⟩⟩
  ·grind
 case sl id n =>
  split at h
  ·rename_i g l
   obtain⟨⟨rfl,b,e⟩,f⟩:=Al h;exact⟨f,λ_ _ _ _ _ hr=>⟨vU e,λ_=>hr.2 b⟩⟩
  ·grind
 case cc k xs' =>
  split at h
  ·rename_i r xs
   obtain⟨rfl,m⟩:=Al h;obtain⟨b,e,f⟩:=LR m;refine⟨b,λβ O w tm u hr=>?_⟩;obtain⟨vs,p,q,hr⟩:=hr;refine⟨vs,p,by rw[q,e],λi u' c s t=>?_⟩;grind
  ·grind
theorem dp{v b:Nat->Nat}{y y':AV}{K:Prop}(h:OJ v b y y' K):OJ v b y y' True:=by
 cases y'<;>simp only[OJ]at h ⊢
 case d y =>
  split at h
  ·exact mf h
  all_goals grind
 case lim sz xs=>exact⟨h.1,trivial⟩
 case ptr id n o =>
  grind
 case sl id n =>
  grind
 case cc k xs' =>
  split at h
  ·obtain⟨c,e⟩:=Al h;rw[uk c];exact MQ e
  ·grind
 all_goals first|exact h.elim|trivial
def tM(v v':Nat->Nat)(b b':BJ):Prop:=b'=.none\/(b=b'/\∀cs,b≠.var cs)\/(∃sz e xs,b'=.frow sz xs/\b=.row sz e xs)\/∃cs cs',b=.var cs/\b'=.var cs'/\tN v v' cs cs'
theorem dm{v f:Nat->Nat}{b d:BJ}{K:Prop}(h:iE v f b d K):K/\tM v f b d:=by
 cases d<;>simp only[iE]at h
 case none=>exact⟨h,.inl rfl⟩
 case frow sz xs =>
  rcases h.1 with c|⟨e,c⟩
  ·exact⟨h.2,.inr (.inl ⟨c,λcs e=>by rw[c]at e;cases e⟩)⟩
  ·exact⟨h.2,.inr (.inr (.inl ⟨sz,e,xs,rfl,c⟩))⟩
 case fvar cs=>exact⟨h.2,.inr (.inl ⟨h.1,λcs e=>by rw[h.1]at e;cases e⟩)⟩
 case map es=>exact⟨h.2,.inr (.inl ⟨h.1,λcs e=>by rw[h.1]at e;cases e⟩)⟩
 case row sz e xs=>exact⟨h.2,.inr (.inl ⟨h.1,λcs e=>by rw[h.1]at e;cases e⟩)⟩
 case var cs' =>
  cases b <;>  simp_all
  case var cs =>
   obtain⟨c,g⟩:=LR h;exact⟨c,.inr (.inr (.inr ⟨cs,cs',rfl,rfl,g⟩))⟩
theorem dq{b:BJ}{n c:Nat}{K:Prop}(h:iF b n c K):K/\(c=0->b≠.none->n=0):=by
 unfold iF at h;grind
theorem Wp{v b:Nat->Nat}:∀{S S':AS},dl v b S S'->S.length=S'.length/\∀i,OJ v b (Ag S i).av (Ag S' i).av True/\tM v b (Ag S i).box (Ag S' i).box/\((Ag S' i).ver=0->(Ag S' i).box≠.none->(Ag S i).ver=0)
 | [],[],_=>⟨rfl,λi=>⟨by simp[Ag,eK,OJ],.inl rfl,λ_ h=>absurd rfl h⟩⟩
 | ⟨sv,sb,sn⟩ :: r,⟨sv',sb',sn'⟩ :: r',h=>by
   have d:OJ v b sv sv' (iF sb' sn sn' (iE v b sb sb' (dl v b r r'))):=h;have f:=U6 d;have c:=dq f.1;have e:=dm c.1;obtain⟨g,j⟩:=Wp e.1;refine⟨by simp[g],λi=>?_⟩
   cases i with
   | zero=>exact⟨dp d,e.2,c.2⟩
   | succ i=>exact j i
theorem SimB.le0(h:SimB X (λ_=>False) β S a w){S':AS}(M:dl (λi=>(Ag S i).ver) (λi=>(Ag S' i).ver) S S'):SimB X (λ_=>False) β S' a w:=by
 obtain⟨x,k⟩:=Wp M;have n:=λi=>(k i).2.1
 have g:∀i,(Ag S' i).box.owned=true->(Ag S i).box.owned=true:=by
  intro i ho;rcases n i with d|⟨d,_⟩|⟨sz,e,xs,d,_⟩|⟨cs,y,d,l,_⟩
  ·rw[d]at ho;cases ho
  ·grind
  ·rw[d]at ho;cases ho
  ·rw[d];rfl
 have N:∀b,OS β X S' b->OS β X S b:=by
  intro b f;rcases f with f|f|⟨i,d,l⟩
  ·exact .inl f
  ·exact .inr (.inl f)
  ·exact .inr (.inr ⟨i,g i d,l⟩)
 have hk:BA (OS β X S) (OS β X S') w w:=BA.of_sub N;have K:∀i,(λi=>(Ag S i).ver) i<(λi=>(Ag S i).ver) i\/((λi=>(Ag S i).ver) i=(λi=>(Ag S i).ver) i/\β i=β i):=λi=>.inr ⟨rfl,rfl⟩;refine⟨by rw[<-x];exact h.len,h.df,h.below,h.hbase,h.o₀,h.rs,?_,?_,?_,?_,?_,?_⟩
 ·intro t u O;have hr:=(h.slots t u O).mono hk (λ_=>.inr ⟨rfl,rfl⟩) (λ_ _=>rfl);exact(U6 (k t).1).2 β (OS β X S') w a.tmps u hr
 ·intro i
  have F:(Ag S' i).box.owned=false->(Ag S i).box.owned=true->∀b,Ae (β i)=some b->¬OS β X S' b:=by
   intro d l b f z;have Q:=h.mine i b l f;rcases z with z|z|⟨j,C,R⟩
   ·have:=h.o₀ b z;rcases Q.1 with L|L;omega;exact this.2 L
   ·grind
   ·have:=h.inj j i b (g j C) l R f;grind
  have f:=h.boxes i;rcases n i with d|⟨d,l⟩|⟨sz,e,xs,d,l⟩|⟨cs,y,d,l,C⟩
  ·rw[d];trivial
  ·rw[<-d]
   cases hB:(Ag S i).box with
   | none=>trivial
   | var cs=>grind
   | row sz e xs =>
     rw[hB]at f;obtain⟨q,r,vals,s,m⟩:=f;exact⟨q,r,vals,s,m.mono hk⟩
   | fvar cs=>rw[hB]at f;exact⟨f.1.mono hk,f.2⟩
   | frow sz xs=>rw[hB]at f;exact Ay.mono hk f
   | map es =>
     rw[hB]at f;obtain⟨b,vs,v,q,r,s,m⟩:=f;exact⟨b,vs,v,q,r,s,λi e p H A=>⟨(m i e p H A).1.mono hk,(m i e p H A).2.1.mono hk,(m i e p H A).2.2⟩⟩
  ·rw[d];have B:=F (by rw[d];rfl) (by rw[l];rfl);rw[l]at f;obtain⟨q,r,vals,s,m⟩:=f;exact Ys q r s (m.mono hk) B
  ·rw[l];rw[d]at f;obtain⟨b,vals,T,q,r,s,m⟩:=f;refine⟨b,vals,T,q,r,by rw[<-C.1];exact s,λj u c D A=>?_⟩;have E:j<cs.length:=by grind
   exact C.2 β _ w j u cs[j] c (P3 E) A ((m j u cs[j] D (P3 E)).mono hk (λ_=>.inr ⟨rfl,rfl⟩))
 ·intro i b I;exact h.mine i b (g i I)
 ·intro i j b I E;exact h.inj i j b (g i I) (g j E)
 ·intro t u D;have:=(k t).1;generalize (Ag S' t).av=y' at D this
  cases y'<;>simp[AV.guards]at D
  simp[OJ]at this
 ·intro i U J;refine h.ini i ((k i).2.2 U J) λz=>?_;rcases n i with d|⟨d,_⟩|⟨sz,e,xs,_,d⟩|⟨cs,y,d,_,_⟩
  all_goals grind
theorem SimB.know(h:SimB X G β S a w){t:Nat}{x:D}(hx:∀v,a.tmps[t]?=some v->Ay (OS β X S) w v x):SimB X G β (FB S t (.d x)) a w:=by
 have c:∀i,(Ag (FB S t (.d x)) i).box=(Ag S i).box/\(Ag (FB S t (.d x)) i).ver=(Ag S i).ver:=by
  intro i;rw[CQ];grind
 have g:OS β X (FB S t (.d x))=OS β X S:=by funext b;simp only[OS,c]
 have k:AH (FB S t (.d x))=AH S:=by funext i;simp only[AH,c]
 refine⟨by rw[IF];exact h.len,h.df,h.below,h.hbase,h.o₀,h.rs,?_,?_,?_,?_,?_,?_⟩
 ·intro i v f;rw[g,k,CQ];split
  ·rename_i e;rw[e.1]at f;exact hx v f
  ·exact h.slots i v f
 ·intro i;rw[g,k,(c i).1];exact h.boxes i
 ·intro i b;rw[(c i).1];exact h.mine i b
 ·intro i j b;rw[(c i).1,(c j).1];exact h.inj i j b
 ·intro i u d;rw[CQ]at d;split at d
  ·simp[AV.guards]at d
  ·exact h.gds i u d
 ·intro i;rw[(c i).1,(c i).2];exact h.ini i
theorem Tm:∀{c:List Nat}{S:AS}{K:AS->Prop},cw c S K->SimB X (λ_=>False) β S a w->∃S',K S'/\SimB X (λ_=>False) β S' a w
 | [],S,K,hy,h=>⟨S,hy,h⟩
 | t :: r,S,K,hy,h=>by
   have hy:Zd (ρOf S none (.tmp t)) λx b=>PD b S λS=>Rw S t (.d x) λS=>cw r S K:=hy;obtain⟨y,b,hK,d,_,f⟩:=JC (x:=X) (G:=λ_=>False) (a:=a) (ρ_sound h (g:=none) (λ_ _ e=>by cases e) (.tmp t)) hy;rw[Ni,RX]at hK;have hr:=f.now h d;refine Tm hK ((d.run h).1.know λv i=>?_);have:a.eval (.tmp t)=v:=by simp[Act.eval,vn,i]
   grind
theorem XK:∀{ts:List Nat}{S:AS}{K:AS->Prop},iz ts S K->SimB X (λ_=>False) β S a w->∃S',K S'/\SimB X (λ_=>False) β S' a w
 | [],S,K,hy,h=>⟨S,hy,h⟩
 | t :: r,S,K,hy,h=>by
   unfold iz at hy;split at hy
   ·rename_i av cs n s
    obtain⟨l,b,hy,D,E,hl,-,hh⟩:=Kc h hy;rw[Qd,Ni,BO]at hy;have m:(Ag S t).box=.var cs:=by rw[s]
    have F:(Ag S t).ver=n:=by rw[s]
    have H:t<S.length:=ND m (by simp);obtain⟨I,hO,f⟩:=D.run h;have x:=I.boxes t
    have J:∀y∈b,y.1≠t:=λy hy e=>by
     obtain⟨sz,xs,hx⟩:=E y hy
     have hz:∀{seen b:Bx},FZ S seen b->∀y∈b,∃seen',gS S seen' y:=by
      intro seen b
      induction b generalizing seen with
      | nil=>intro _ y hy;cases hy
      | cons z q ih =>
        intro U y hy;rcases List.mem_cons.1 hy with e|e
        ·exact⟨_,by rw[e];exact U.1⟩
        ·exact ih U.2 y e
     obtain⟨_,L⟩:=hz D y hy;rcases L.2 with⟨sz',e',xs',C,_⟩|⟨cs',ds',_,M,_⟩|⟨C,_⟩
     all_goals grind
    have d:(Ag (Bh b S) t).box=.var cs:=(f.other t J).trans m;have N:(Ag (Bh b S) t).ver=n:=(f.ver t).trans F;rw[d]at x;obtain⟨bb,vals,T,C,M,V,k4⟩:=x;have g:=h.boxes t;rw[m]at g;obtain⟨bb0,O,T0,Q,R,j3,j4⟩:=g;rw[C]at Q;simp at Q;subst Q;rw[M]at R;simp at R;obtain⟨rfl,rfl⟩:=R;have A:=(hh vals.toList (by simpa using V) λj v c W p=>j4 j v c (by grind) p).now h D
    have Y:=I.rebox (R':=X.R) (id:=t) (B:=.var (l.map .d)) (v:=β t) (n:=n) (w':=w) (λ_ h=>h) (by rw[Cr];exact H) (.inr ⟨N.symm,rfl,by rw[d];simp⟩) (uh _) (A8.refl _ _ _) (λ_ _ _=>rfl)
     (λ_ b Z=>⟨.inl ⟨Z,by rw[d];rfl⟩,(I.mine t b (by rw[d];rfl) Z).2⟩)
     (λk W=>by
      rw[Gu]at k W ⊢;refine⟨bb,vals,T,C,M,by simp;rw[<-hl];exact V,λi u c hu p=>?_⟩;rw[uu]at p
      cases hd:l[i]? with
      | none=>rw[hd]at p;cases p
      | some y =>
        rw[hd]at p;obtain rfl:=uc p;have:=A.2 i u y (by simpa using hu) hd;exact⟨this.1.mono k,this.2⟩)
    rw[Gu]at Y;exact XK hy Y
   ·grind
theorem SimB.le(h:SimB X (λ_=>False) β S a w){S':AS}(b:Le S S'):SimB X (λ_=>False) β S' a w:=by
 obtain⟨g,c,d⟩:=Tm b h;obtain⟨i,e,f⟩:=XK c d;exact f.le0 e
theorem VO:∀{O:List (Nat×Nat×Nat×TypeId)}{S:AS}{β:Nat->Value}{K:AS->Prop},Xp O S K->SimB X (λ_=>False) β S a w->∃x S',K S'/\SimB X (λ_=>False) x S' a w
 | [],S,β,K,hy,h=>⟨β,S,hy,h⟩
 | (v,j,q,e) :: r,S,β,K,hy,h=>by
   unfold Xp at hy;split at hy
   ·rename_i av cs n hsv
    split at hy
    ·rename_i s z
     obtain⟨⟨Q,A⟩,hy⟩:=Al hy;obtain⟨R,hy⟩:=OG _ _ _ hy;rw[BW,Ni]at hy;have d:(Ag S v).box=.var cs:=by grind
     have U:(Ag S v).ver=n:=by grind
     have V:v<S.length:=ND d (by simp);have D:=h.boxes v;rw[d]at D;obtain⟨b,vals,T,k1,k2,k3,k4⟩:=D;have hj:j<vals.size:=by grind
     have t:=k4 j vals[j] _ (by simp[hj]) z
     obtain⟨y,E⟩:∃y,vals[j]=.slice y 0 0:=by
      have:=t.1;generalize vals[j]=u at this
      cases this
      exact⟨_,rfl⟩
     obtain⟨x,F,H,_⟩:=mT h R (n:=(Ag S q).ver+1) (wm _) (R':=X.R) (λ_ h=>h) (Below.refl _ _) (v:=.slice y 0 0) (e:=e) (xs:=[]) (vals:=[]) Q (λ_ h=>by cases h)
      (by cases y with
       | none=>exact .inl (World.ownsRow_nil w _ e _)
       | some p=>exact .inr ⟨rfl,rfl,p,rfl⟩) (λb L=>by cases y<;>simp[Ae]at L) By.nil
     have F:SimB X (λ_=>False) x (AY S q (.row s e []) ((Ag S q).ver+1)) a w:=F;have I:x v=β v:=by rw[H];simp[Lg,A]
     have W:x q=.slice y 0 0:=by rw[H];simp[Lg]
     have f:Ag (AY S q (.row s e []) ((Ag S q).ver+1)) v=Ag S v:=by rw[JS R];simp[A]
     have Y:(Ag (AY S q (.row s e []) ((Ag S q).ver+1)) q).ver=(Ag S q).ver+1:=by rw[JS R];simp
     have m:=F.boxes v;rw[f,d]at m;obtain⟨b',Z,T',j1,j2,j3,j4⟩:=m;rw[I,k1]at j1;simp at j1;subst j1;rw[k2]at j2;simp at j2;obtain⟨rfl,rfl⟩:=j2;have hlj:j<cs.length:=A6 z
     have h2:=F.rebox (R':=X.R) (id:=v) (B:=.var (splice cs j [.sl q ((Ag S q).ver+1)])) (v:=x v) (n:=n) (w':=w) (λ_ h=>h) (by rw[CX];exact V) (.inr ⟨by rw[f,U],rfl,by rw[f,d];simp⟩) (uh _) (A8.refl _ _ _) (λ_ _ _=>rfl)
      (λ_ b L=>⟨.inl ⟨L,by rw[f,d];rfl⟩,(F.mine v b (by rw[f,d];rfl) L).2⟩)
      (λk M=>by
       rw[Gu]at k M ⊢;refine⟨b,vals,T,by rw[I,k1],k2,?_,λi u c N l=>?_⟩
       ·rw[FO _ _ _ (by omega)];simp;omega
       ·rw[FO _ _ _ (by omega)]at l;have g:(cs.take j).length=j:=by grind
        rcases wH i j with J|J|J
        ·rw[w6,ut (by rw[g];exact J),vJ J]at l;exact(j4 i u c N l).mono k M
        ·subst J;rw[w6,uq (by rw[g];exact uh _),g]at l;simp at l;subst l;refine Cj.mono k M ?_;have:u=vals[i]:=by simp[hj]at N;exact N.symm
         rw[this];exact⟨by simp only[AH];rw[Y];exact uh _,λ_=>by rw[W,E]⟩
        ·rw[w6,uq (by rw[g];omega),g]at l;rw[show([C.sl q ((Ag S q).ver+1)]++cs.drop (j+[C.sl q ((Ag S q).ver+1)].length))=C.sl q ((Ag S q).ver+1) :: cs.drop (j+1)from rfl]at l;rw[show i-j=(i-j-1)+1 by omega,vm,vh]at l;exact(j4 i u c N (by rw[show i=j+1+(i-j-1) by omega];exact l)).mono k M)
     rw[Gu]at h2;exact VO hy h2
    ·grind
   ·grind
theorem jy(h:SimB X (λ_=>False) β S a w){c:Operand}{b:Bool}(d:ρOf S none c=.d (.bool b)):a.eval c=.bool b:=by
 have:=ρ_sound h (g:=none) (λ_ _ e=>by cases e) c;rw[d]at this;exact EH this
def qJ(X:Cx)(Q:Exit->AS->Prop)(e:Exit)(a:Act)(w:World):Prop:=∃β S,Q e S/\SimB X (λ_=>False) β S a w
def Nh(P:Program):Prop:=∀(id:Nat)(ops:Array Oper)(Q:Exit->AS->Prop)(S:AS)(X:Cx)(β:Nat->Value)(a:Act)(w:World),
 ZJ P [] (.region id ops true) Q S->SimB X (λ_=>False) β S a w->(Code.region id ops true).wp P (qJ X Q) a w
theorem least(p:Nat->Prop):∀n,p n->∃m,p m/\∀k,p k->m<=k:=by
 intro n
 induction n using Nat.strongRecOn with
 | _ n ih=>grind
theorem EI{J:List Nat}(f:Nh P):∀(c:Code){Q:Exit->AS->Prop}{S:AS}{β:Nat->Value}{a:Act}{w:World},ZJ P J c Q S->SimB X (λ_=>False) β S a w->c.wp P (qJ X Q) a w
 | .skip,Q,S,β,a,w,hy,h=>wp_skip ⟨β,S,hy,h⟩
 | .label _,Q,S,β,a,w,hy,h=>wp_label ⟨β,S,hy,h⟩
 | .region id ops draw,Q,S,β,a,w,hy,h=>by
   have hy:match aA J (1000000+id)with
    | true=>Q2 P S (.region id ops draw) Q
    | false=>ZJ P [] (.region id ops draw) Q S:=hy
   split at hy
   ·obtain⟨L,ι,Inv,s,hx,r⟩:=hy.go;simp only[F5]at r;refine wp_mono (hx X β a w (h.le s)) λe v w' d=>?_;obtain⟨rfl,i,g,q⟩:=d;exact⟨g,_,r i,q⟩
   cases draw with
   | true=>exact f id ops Q S X β a w hy h
   | false =>
     have hy:rz P ops.toList [] ops.toList S λS=>plain S (Q .normal):=hy;refine wp_region_list (T4 hy (h.weaken λ_ C=>C.elim) λg S' v w' D hK q=>?_);rw[Yg]at hK;exact⟨g,_,hK,q.plain⟩
 | .seq x y,Q,S,β,a,w,hy,h=>by
   have hy:match aJ J y with
    | false=>ZJ P J x (λe S=>match e with|.normal=>ZJ P J y Q S|e=>Q e S) S
    | true=>Q3 S (ZJ P J x) (ZJ P J y) Q:=hy
   split at hy
   ·refine wp_seq (wp_mono (EI f x hy h) λe v w' d=>?_);obtain⟨g,S',d,q⟩:=d
    cases e with
    | normal=>exact EI f y d q
    | exit id=>exact⟨g,S',d,q⟩
    | goto l=>exact⟨g,S',d,q⟩
    | ret=>exact⟨g,S',d,q⟩
    | panic E=>exact⟨g,S',d,q⟩
    | outgrown=>exact⟨g,S',d,q⟩
   ·obtain⟨ι,Inv,hx,r⟩:=hy.go;simp only[F5]at r;refine wp_seq (wp_mono (EI f x hx h) λe v w' d=>?_);obtain⟨g,S',d,q⟩:=d
    cases e with
    | normal =>
      obtain⟨i,s⟩:=d;exact EI f y (r i) (q.le s)
    | exit id=>exact⟨g,S',d,q⟩
    | goto l=>exact⟨g,S',d,q⟩
    | ret=>exact⟨g,S',d,q⟩
    | panic E=>exact⟨g,S',d,q⟩
    | outgrown=>exact⟨g,S',d,q⟩
 | .cond c x y,Q,S,β,a,w,hy,h=>by
   have hy:match ρOf S none c with
    | .d (.bool b)=>VT b (ZJ P J x Q S) (ZJ P J y Q S)
    | _=>False:=hy
   split at hy
   ·rename_i b M
    exact wp_cond_split (jy h M) (λN=>EI f x (hy.pos N) h) (λC=>EI f y (hy.neg C) h)
   ·grind
 | .ret,Q,S,β,a,w,hy,h=>wp_ret ⟨β,S,hy,h⟩
 | .block id c,Q,S,β,a,w,hy,h=>by
   have hy:match aA J id with
    | true=>Q2 P S (.block id c) Q
    | false=>ZJ P J c (λe S=>match e with|.exit A=>if A=id then Q .normal S else Q (.exit A) S|e=>Q e S) S:=hy
   split at hy
   ·obtain⟨L,ι,Inv,s,hx,r⟩:=hy.go;simp only[F5]at r;refine wp_mono (hx X β a w (h.le s)) λe v w' d=>?_;obtain⟨rfl,i,g,q⟩:=d;exact⟨g,_,r i,q⟩
   refine wp_block (wp_mono (EI f c hy h) λe v w' d=>?_);obtain⟨g,S',d,q⟩:=d
   cases e with
   | exit A =>
     simp only[Exit.inBlock]at d ⊢;split
     ·rename_i F;rw[uk F]at d;exact⟨g,S',d,q⟩
     ·rename_i F;rw[uo F]at d;exact⟨g,S',d,q⟩
   | normal=>exact⟨g,S',d,q⟩
   | goto l=>exact⟨g,S',d,q⟩
   | ret=>exact⟨g,S',d,q⟩
   | panic E=>exact⟨g,S',d,q⟩
   | outgrown=>exact⟨g,S',d,q⟩
 | .exit id,Q,S,β,a,w,hy,h=>wp_exit ⟨β,S,hy,h⟩
 | .loop c,Q,S,β,a,w,hy,h=>by
   have hy:Q4 S (ZJ P J c) Q:=hy;obtain⟨O,R,ι,Inv,μ,T,s,t⟩:=hy.go;simp only[F5]at t;obtain⟨β,S,s,h⟩:=VO s h;obtain⟨S,s,h⟩:=Tm s h;let I:Act->World->Nat->Prop:=λa w n=>∃i β,μ i=n/\SimB X (λ_=>False) β (Inv i) a w;have H:∃n,I a w n:=⟨_,T,β,rfl,h.le s⟩
   have z:∀a w,(∃n,I a w n)->I a w (Classical.epsilon λm=>I a w m/\∀k,I a w k->m<=k)/\∀k,I a w k->(Classical.epsilon λm=>I a w m/\∀k,I a w k->m<=k)<=k :=
    λa w ⟨n,U⟩=>Classical.epsilon_spec (p:=λm=>I a w m/\∀k,I a w k->m<=k) (least (I a w) n U)
   refine wp_loop (λa w=>∃n,I a w n) (λa w=>Classical.epsilon λm=>I a w m/\∀k,I a w k->m<=k) H λa w V=>?_;obtain⟨i,β,Y,q⟩:=(z a w V).1;refine wp_mono (EI f c (t i) q) λe v w' d=>?_;obtain⟨g,S',d,u⟩:=d
   cases e with
   | normal =>
     obtain⟨j,K,W⟩:=d;have B:I v w' (μ j):=⟨j,g,rfl,u.le K⟩;refine⟨⟨_,B⟩,?_⟩;have:=(z v w' ⟨_,B⟩).2 _ B;grind
   | exit id=>exact⟨g,S',d,u⟩
   | goto l=>exact⟨g,S',d,u⟩
   | ret=>exact⟨g,S',d,u⟩
   | panic E=>exact⟨g,S',d,u⟩
   | outgrown=>exact⟨g,S',d,u⟩
 | .scope _,_,_,_,_,_,hy,_=>hy.elim
 | .goto _,_,_,_,_,_,hy,_=>hy.elim
 | .refuse _,_,_,_,_,_,hy,_=>hy.elim
 | .rangeFunc _ _ _ _,_,_,_,_,_,hy,_=>hy.elim
end
section
variable {P:Program} {X:Cx} {β:Nat->Value} {S:AS} {a:Act} {w:World}
def SX(tmps:Array Value):ResultVar->Sem Value
 | .tmp t=>pure (tmps.getD t undef)
 | .cell a t=>do loadVar t (<-asAddr (tmps.getD a undef))
theorem no:Ce none a:=λ_ _ e=>by cases e
def Xm(X:Cx)(β:Nat->Value)(S:AS)(a:Act)(w:World)(used:List Nat)(frz:Bx)(v:Value):C->Prop
 | .d y=>Lk X (λ_=>False) β S a w frz λO=>Ay O w v y
 | .own sz e xs=>∃id,id∈used/\v=β id/\(Ag S id).box=.row sz e xs/\∀x∈xs,∀y∈x.cells,y.bare=true
 | .sl _ _=>False
theorem Xm.mono{f b:List Nat}{frz g:Bx}(j:∀i∈f,i∈b)(k:∀y∈frz,y∈g){v:Value}{c:C}(h:Xm X β S a w f frz v c):Xm X β S a w b g v c:=by
 cases c with
 | d y=>exact Lk.mono (show Lk X (λ_=>False) β S a w frz λO=>Ay O w v y from h) k λ_ h=>h
 | own sz e xs=>obtain⟨id,h1,h2⟩:=h;exact⟨id,j id h1,h2⟩
 | sl _ _=>exact h
theorem Zk:∀{cs:List C}{K:List D->Prop},ZZ cs K->∃l,K l/\cs=l.map .d
 | [],K,h=>⟨[],h,rfl⟩
 | .d x :: r,K,h=>by
   have h:ZZ r λl=>K (x :: l):=h;obtain⟨l,b,c⟩:=Zk h;grind
 | .sl _ _ :: r,K,h=>h.elim
 | .own _ _ _ :: r,K,h=>h.elim
theorem OA(h:SimB X (λ_=>False) β S a w):∀{rs:List ResultVar}{g:List Nat}{frz:Bx}{K:List C->List Nat->Bx->Prop},Rr P S g frz rs K->FZ S [] frz->(∀i∈g,(Ag S i).box.owned=true) ->
 ∃cs d f,K cs d f/\FZ S [] f/\(∀i∈g,i∈d)/\(∀y∈frz,y∈f)/\(∀i∈d,(Ag S i).box.owned=true)/\∃vs:List Value,(rs.mapM (SX a.tmps)).run P w=.ok vs w/\vs.length=cs.length /\
  (∀(i:Nat) v c,vs[i]?=some v->cs[i]?=some c->Xm X β S a w d f v c) /\
  (∀(i:Nat) v sz e xs b,vs[i]?=some v->cs[i]?=some (.own sz e xs)->Ae v=some b->∀j∈g,Ae (β j)≠some b) /\
  (∀(i j:Nat) v z sz e xs o A p b,vs[i]?=some v->vs[j]?=some z->cs[i]?=some (.own sz e xs)->cs[j]?=some (.own o A p)->Ae v=some b->Ae z=some b->i=j)
 | [],g,frz,K,hy,hF,hu=>⟨[],g,frz,hy,hF,(λ_ h=>h),(λ_ h=>h),hu,[],rfl,rfl,(λi v c k=>by simp at k),(λi v sz e xs b k=>by simp at k),λi j v z sz e xs o A p b k=>by simp at k⟩
 | .tmp t :: r,g,frz,K,hy,hF,hu=>by
   have data:∀(y:D)(b:Bx),FZ S [] b->Lk X (λ_=>False) β S a w b (λO=>Ay O w (a.eval (.tmp t)) y)->(Rr P S g (frz++b) r λl u b=>K (.d y :: l) u b) ->
    ∃cs d f,K cs d f/\FZ S [] f/\(∀i∈g,i∈d)/\(∀y∈frz,y∈f)/\(∀i∈d,(Ag S i).box.owned=true)/\∃vs:List Value,((ResultVar.tmp t :: r).mapM (SX a.tmps)).run P w=.ok vs w/\vs.length=cs.length /\
    (∀(i:Nat) v c,vs[i]?=some v->cs[i]?=some c->Xm X β S a w d f v c) /\
    (∀(i:Nat) v sz e xs b,vs[i]?=some v->cs[i]?=some (.own sz e xs)->Ae v=some b->∀j∈g,Ae (β j)≠some b) /\
    (∀(i j:Nat) v z sz e xs o A p b,vs[i]?=some v->vs[j]?=some z->cs[i]?=some (.own sz e xs)->cs[j]?=some (.own o A p)->Ae v=some b->Ae z=some b->i=j):=by
    intro y b E N hy;obtain⟨cs,d,f,hK,Q,L,M,F,vs,R,U,V,k7,W⟩:=OA h hy (hF.append E) hu;refine⟨_,d,f,hK,Q,L,λy hy=>M y (by simp[hy]),F,a.eval (.tmp t) :: vs,?_,by simp[U],λi v c k m=>?_,λi v sz e xs b k m=>?_,λi j v z sz e xs o A p b k q m s H I=>?_⟩
    ·simp only[wZ,SX,Sem.run_bind,Sem.run_pure,Result.andThen_ok,R];rfl
    ·cases i with
     | zero=>simp at k m;subst k;subst m;exact N.mono (λy hy=>M y (by simp[hy])) λ_ h=>h
     | succ i=>exact V i v c (by simpa using k) (by grind)
    ·grind
    ·cases i with
     | zero=>simp at m
     | succ i=>cases j with
       | zero=>simp at s
       | succ j=>rw[W i j v z sz e xs o A p b (by simpa using k) (by simpa using q) (by simpa using m) (by simpa using s) H I]
   unfold Rr at hy;have hr:=ρ_sound h no (.tmp t);split at hy
   ·rename_i id n sz e xs hx
    rw[hx]at hr;rcases hy.go with hy|hy
    ·obtain⟨y,b,hK,E,_,N⟩:=JC (x:=X) (G:=λ_=>False) (a:=a) (K:=λy b=>y=.list sz xs/\b=[(id,BJ.frow sz xs,n)]) hr ⟨rfl,rfl⟩;obtain⟨rfl,rfl⟩:=hK;exact data _ _ E N hy
    ·split at hy
     ·exact hy.elim
     rename_i Y
     obtain⟨J,hy⟩:=hy;obtain⟨Z,hb2,hb3⟩:=hr;have hown:(Ag S id).box.owned=true:=by rw[Z];rfl
     obtain⟨cs,d,f,hK,Q,L,M,F,vs,R,U,V,k7,W⟩:=OA h hy hF (λi hi=>by
      rcases List.mem_cons.1 hi with rfl|hi
      ·grind
      ·exact hu i hi)
     refine⟨_,d,f,hK,Q,λi hi=>L i (by simp[hi]),M,F,a.eval (.tmp t) :: vs,?_,by simp[U],λi v c k m=>?_,λi v o A p b k m H j hj=>?_,λi j v z sz1 e1 xs1 o A p b k q m s H I=>?_⟩
     ·simp only[wZ,SX,Sem.run_bind,Sem.run_pure,Result.andThen_ok,R];rfl
     ·cases i with
      | zero=>simp at k m;subst k;subst m;exact⟨id,L id (by simp),hb3,Z,J⟩
      | succ i=>exact V i v c (by grind) (by simpa using m)
     ·cases i with
      | zero =>
        simp at k m;subst k;intro hjb;rw[hb3]at H;have:=h.inj id j b hown (hu j hj) H hjb;subst this;exact Y (by simpa using hj)
      | succ i=>exact k7 i v o A p b (by simpa using k) (by simpa using m) H j (by simp[hj])
     ·cases i with
      | zero=>cases j with
        | zero=>rfl
        | succ j=>grind
      | succ i=>cases j with
        | zero=>grind
        | succ j=>rw[W i j v z sz1 e1 xs1 o A p b (by simpa using k) (by simpa using q) (by simpa using m) (by simpa using s) H I]
   ·obtain⟨y,b,hK,E,_,N⟩:=Vf (x:=X) (G:=λ_=>False) (a:=a) hr hy;exact data y b E N hK
 | .cell t ty :: r,g,frz,K,hy,hF,hu=>by
   unfold Rr at hy;have hr:=ρ_sound h no (.tmp t);split at hy
   ·rename_i id n off cs0 hx
    rw[hx]at hr;obtain⟨H,_,bb,hβ,k⟩:=hr;obtain⟨l0,hy,hcs⟩:=Zk hy;obtain⟨vals,T,h3,h4,h5⟩:=Np h H hβ
    obtain⟨y,hy,v0,hl,hvr⟩:=Vs (P:=P) (O:=OS β X S) (w:=w) (b:=bb) (off:=off) hy (λj y hy=>by
     simp only[vh]at hy;have m:cs0[off+j]?=some (.d y):=by rw[hcs];simp[hy]
     have hlt:off+j<vals.size:=by rw[h4];exact A6 m
     have:=h5 (off+j) vals[off+j] _ (by simp[hlt]) m;exact⟨vals[off+j],by simp[World.cell?,h3,hlt],this.1,this.2⟩)
    rw[NH]at hy;obtain⟨cs,d,f,hK,Q,L,M,F,vs,R,U,V,k7,W⟩:=OA h hy hF hu;have q:a.tmps.getD t undef=.pointer (some ⟨bb,off,none⟩):=k;refine⟨_,d,f,hK,Q,L,M,F,v0 :: vs,?_,by simp[U],λi v c k m=>?_,λi v sz e xs b k m=>?_,λi j v z sz e xs o A p b k q m s H I=>?_⟩
    ·simp only[wZ,SX,q,asAddr,Sem.run_bind,Sem.run_pure,Result.andThen_ok,hl,R]
    ·cases i with
     | zero=>simp at k m;subst k;subst m;exact λB _ _ _ hk=>(hvr.mono (BA.of_sub hk)).norm
     | succ i=>exact V i v c (by simpa using k) (by simpa using m)
    ·grind
    ·cases i with
     | zero=>simp at m
     | succ i=>cases j with
       | zero=>simp at s
       | succ j=>rw[W i j v z sz e xs o A p b (by simpa using k) (by simpa using q) (by simpa using m) (by simpa using s) H I]
   ·grind
theorem OB{fn:Func}{vs:List Value}(h:(fn.results.toList.mapM (SX a.tmps)).run P w=.ok vs w) :
 (results fn a.tmps).run P w=.ok (if h:vs.toArray.size=1 then vs.toArray[0]else .tuple vs.toArray) w:=by
 have e:(fn.results.mapM (SX a.tmps)).run P w=.ok vs.toArray w:=by
  rw[xf,Sem.run_map,h];simp
 have b:results fn a.tmps=(do let vs<-fn.results.mapM (SX a.tmps);pure (if h:vs.size=1 then vs[0]else .tuple vs)):=by
  unfold results;congr 2
 rw[b,Sem.run_bind,e];rfl
theorem Ve{b:List Nat}{frz:Bx}(h:b.all (λi=>FH i frz)=true):∀i∈b,∀y∈frz,y.1≠i:=λi c=>Gx (List.all_eq_true.1 h i c)
theorem TC(h:SimB X (λ_=>False) β S a w){fn:Func}{f:List Nat}{frz:Bx}{r:AV}(hF:FZ S [] frz)(hu:∀i∈f,(Ag S i).box.owned=true)(hy:gk P fn.results.toList f frz S r) :
 ∃v T,(results fn a.tmps).run P w=.ok v w/\SimB X (λ_=>False) β T a w/\(∀i∈f,Ag T i=Ag S i)/\(∀z∈frz,(Ag T z.1).box=z.2.1)/\(∃F,(∀y∈frz,y∈F)/\Fr S F T) /\
  Di (λb=>X.mine b/\∀i∈f,Ae (β i)≠some b) (OS β X T) w v r/\(∀b,Eb v r b->OS β X T b):=by
 have ownR:∀{T:AS}{o:List Nat}{v:Value}{sz:Nat}{e:TypeId}{xs:List D},SimB X (λ_=>False) β T a w->(∀i∈o,Ag T i=Ag S i)->(∃id,id∈o/\v=β id/\(Ag S id).box=.row sz e xs/\∀x∈xs,∀y∈x.cells,y.bare=true) ->
  (∀b,Ae v=some b->∀j∈f,Ae (β j)≠some b)->Vb (λb=>X.mine b/\∀i∈f,Ae (β i)≠some b) w v sz e xs/\∀b,Ae v=some b->OS β X T b:=by
  intro T o v sz e xs hT m ⟨id,h1,h2,h3,h4⟩ hne;have E:(Ag T id).box=.row sz e xs:=by grind
  have g:(Ag T id).box.owned=true:=by rw[E];rfl
  have C:=hT.boxes id;rw[E]at C;obtain⟨k1,k2,vals,k3,k4⟩:=C;refine⟨⟨k1,k2,λb L=>⟨(hT.mine id b g (by grind)).1,hne b L⟩,vals,by rw[h2];exact k3,?_⟩,λb L=>.inr (.inr ⟨id,g,by rw[<-h2];exact L⟩)⟩;refine⟨k4.1,λj u y hu hy=>?_⟩;have:=k4.2 j u y hu hy;refine⟨Sr this.1 ?_,this.2⟩;have hm:=uy hy;grind
 have rest:∀{rs:List ResultVar},rs=fn.results.toList->(Rr P S f frz rs λl u b=>pH l u b r)->∃v T,(results fn a.tmps).run P w=.ok v w/\SimB X (λ_=>False) β T a w/\(∀i∈f,Ag T i=Ag S i)/\(∀z∈frz,(Ag T z.1).box=z.2.1)/\(∃F,(∀y∈frz,y∈F)/\Fr S F T) /\
  Di (λb=>X.mine b/\∀i∈f,Ae (β i)≠some b) (OS β X T) w v r/\(∀b,Eb v r b->OS β X T b):=by
  intro rs Q hy;obtain⟨cs,o,k,hK,k1,k2,k3,k3',vs,k4,k5,U,k7,k8⟩:=OA h hy hF hu;unfold pH at hK;obtain⟨G,J⟩:=Al hK;clear hK;have H:=Ve G;obtain⟨t1,t2,t3⟩:=k1.run h
  have m:∀i∈o,Ag (Bh k S) i=Ag S i:=by
   intro i K;have V:=t3.other i (H i K);have W:=t3.ver i;have Y:=t3.av i;generalize Ag (Bh k S) i=p at V W Y;generalize Ag S i=q at V W Y;obtain⟨_,_,_⟩:=p;obtain⟨_,_,_⟩:=q;grind
  have A:∀(i:Nat) v y,vs[i]?=some v->cs[i]?=some (.d y)->Ay (OS β X (Bh k S)) w v y:=λi v y N R=>(show Lk X (λ_=>False) β S a w k λO=>Ay O w v y from U i v _ N R) k (λ_ h=>h) t3 t1 t2
  have I:∀(i:Nat) v sz e xs,vs[i]?=some v->cs[i]?=some (.own sz e xs)->Vb (λb=>X.mine b/\∀i∈f,Ae (β i)≠some b) w v sz e xs/\∀b,Ae v=some b->OS β X (Bh k S) b:=by
   intro i v sz e xs N R;exact ownR t1 m (U i v _ N R) (λb C=>k7 i v sz e xs b N R C)
  have fin:∀v,(results fn a.tmps).run P w=.ok v w->Di (λb=>X.mine b/\∀i∈f,Ae (β i)≠some b) (OS β X (Bh k S)) w v r->(∀b,Eb v r b->OS β X (Bh k S) b)->∃v T,(results fn a.tmps).run P w=.ok v w/\SimB X (λ_=>False) β T a w/\(∀i∈f,Ag T i=Ag S i)/\(∀z∈frz,(Ag T z.1).box=z.2.1)/\(∃F,(∀y∈frz,y∈F)/\Fr S F T) /\
   Di (λb=>X.mine b/\∀i∈f,Ae (β i)≠some b) (OS β X T) w v r/\(∀b,Eb v r b->OS β X T b) :=
   λv N hr C=>⟨v,_,N,t1,λi K=>m i (k2 i K),λz hz=>t3.mem z (k3 z hz),⟨k,k3,t3⟩,hr,C⟩
  have B:=OB (P:=P) (w:=w) (a:=a) (fn:=fn) (vs:=vs) (by grind)
  have M:rN (.tup cs) r->cs.length≠1->∃v T,(results fn a.tmps).run P w=.ok v w/\SimB X (λ_=>False) β T a w/\(∀i∈f,Ag T i=Ag S i)/\(∀z∈frz,(Ag T z.1).box=z.2.1)/\(∃F,(∀y∈frz,y∈F)/\Fr S F T) /\
   Di (λb=>X.mine b/\∀i∈f,Ae (β i)≠some b) (OS β X T) w v r/\(∀b,Eb v r b->OS β X T b):=by
   intro hr hne;have hl:¬vs.toArray.size=1:=by grind
   rw[dif_neg hl]at B;have hr:=hr.go;subst hr
   have hres:∀b,Eb (.tuple vs.toArray) (.tup cs) b->OS β X (Bh k S) b:=by
    rintro b ⟨vs',i,u,sz,e,ys,h1,h2,h3,h4⟩;grind
   refine fin _ B ⟨vs.toArray,rfl,by simpa using k5,λi u c hu' R=>?_,λi j u u' sz e ys sz' e' ys' b h1 h2 h3 h4 h5 h6=>k8 i j u u' sz e ys sz' e' ys' b (by grind) (by simpa using h2) h3 h4 h5 h6⟩ hres
   cases c with
   | d y =>
     refine Ay.mono (BA.of_sub λb C=>?_) (A i u y (by grind) R);grind
   | own sz e ys=>grind
   | sl _ _=>exact(U i u _ (by grind) R).elim
  match cs,J,k5,U,k7,k8,A,I,M with
  | [],J,k5,U,k7,k8,A,I,M=>exact M J (by simp)
  | c1 :: c2 :: q,J,k5,U,k7,k8,A,I,M=>exact M J (by simp)
  | [c],J,k5,U,k7,k8,A,I,M =>
    have hl:vs.length=1:=k5;obtain⟨v,rfl⟩:=List.length_eq_one_iff.1 hl;have hrv:(results fn a.tmps).run P w=.ok v w:=by grind
    have hr:=(show rN (lJ c) r from J).go;subst hr
    cases c with
    | d y=>exact fin v hrv (A 0 v y rfl rfl) (λb C=>C.elim)
    | own sz e xs =>
      obtain⟨j1,j2⟩:=I 0 v sz e xs rfl rfl;exact fin v hrv j1 j2
    | sl _ _=>exact(U 0 v _ rfl rfl).elim
 unfold gk at hy;split at hy
 ·
   rename_i k0 l0
   split at hy<;>try exact hy.elim
   rename_i t Q
   split at hy<;>try exact hy.elim
   rename_i id n sz e xs hx
   have hr:=ρ_sound h no (.tmp t);rw[hx]at hr;obtain⟨hb1,hb2,N⟩:=hr;split at hy
   ·grind
   rename_i hcon
   obtain⟨G,hK⟩:=Al hy;have hK:=hK.go
   cases hK
   have H:=Ve G;obtain⟨t1,t2,t3⟩:=hF.run h
   have m:∀i∈id :: f,Ag (Bh frz S) i=Ag S i:=by
    intro i K;have V:=t3.other i (H i K);have W:=t3.ver i;have Y:=t3.av i;generalize Ag (Bh frz S) i=p at V W Y;generalize Ag S i=q at V W Y;obtain⟨_,_,_⟩:=p;obtain⟨_,_,_⟩:=q;grind
   have E:(Ag (Bh frz S) id).box=.row sz e xs:=by grind
   have g:(Ag (Bh frz S) id).box.owned=true:=by rw[E];rfl
   have C:=t1.boxes id;rw[E]at C;obtain⟨k1,k2,vals,k3,k4⟩:=C
   have B:(results fn a.tmps).run P w=.ok (β id) w:=by
    have:=OB (P:=P) (w:=w) (a:=a) (fn:=fn) (vs:=[β id]) (by
     rw[Q];simp only[wZ,SX,List.mapM_nil,Sem.run_bind,Sem.run_pure,Result.andThen_ok];rw[<-N];rfl)
    grind
   refine⟨β id,_,B,t1,λi K=>m i (by simp[K]),λz hz=>t3.mem z hz,⟨_,λy hy=>hy,t3⟩,⟨k1,k2,λb L=>⟨(t1.mine id b g L).1,λi K Z=>?_⟩,vals,k3,k4.mono (BA.of_sub λb C=>?_)⟩,λb' s=>.inr (.inr ⟨id,g,s⟩)⟩
   ·have:=h.inj id i b (by grind) (hu i K) L Z;grind
   ·rcases C with C|C
    ·exact C
    ·exact .inr (.inr ⟨id,g,C⟩)
 split at hy
 ·rename_i t Q
  split at hy
  ·rename_i id n cs hx
   have hr:=ρ_sound h no (.tmp t);rw[hx]at hr;obtain⟨hb1,hb2,bb,hβ,N⟩:=hr;split at hy
   ·grind
   rename_i hcon
   obtain⟨l,b,hK,hFb,hfr,hcd,hh⟩:=Ny h hy;obtain⟨G,hK⟩:=Al hK;obtain⟨rfl⟩:=hK;have H:=Ve G;have hFF:=hF.append hFb;obtain⟨t1,t2,t3⟩:=hFF.run h
   have m:∀i∈id :: f,Ag (Bh (frz++b) S) i=Ag S i:=by
    intro i K;have V:=t3.other i (H i K);have W:=t3.ver i;have Y:=t3.av i;generalize Ag (Bh (frz++b) S) i=p at V W Y;generalize Ag S i=q at V W Y;obtain⟨_,_,_⟩:=p;obtain⟨_,_,_⟩:=q;grind
   have E:(Ag (Bh (frz++b) S) id).box=.var cs:=by grind
   have g:(Ag (Bh (frz++b) S) id).box.owned=true:=by rw[E];rfl
   obtain⟨vals,T,q1,q2,q3⟩:=Np t1 E hβ;have hcd':Lj S (frz++b) cs l:=hcd.mono λy hy=>by grind
   have hrep:=R7 t3 t1 hcd' (vals:=vals.toList) (by simpa using q2) (λj v c N R=>q3 j v c (by grind) R);have hblk:Ae (β id)=some bb:=by rw[hβ];rfl
   have hvb:a.eval (.tmp t)=β id:=by grind
   have B:(results fn a.tmps).run P w=.ok (β id) w:=by
    have:=OB (P:=P) (w:=w) (a:=a) (fn:=fn) (vs:=[β id]) (by
     rw[Q];simp only[wZ,SX,List.mapM_nil,Sem.run_bind,Sem.run_pure,Result.andThen_ok];rw[<-hvb];rfl)
    grind
   refine⟨β id,_,B,t1,λi K=>m i (by simp[K]),λz hz=>t3.mem z (by simp[hz]),⟨_,λy hy=>by simp[hy],t3⟩,⟨λb' s=>⟨(t1.mine id b' g s).1,λi K Z=>?_⟩,bb,vals,T,hβ,q1,?_⟩,λb' s=>.inr (.inr ⟨id,g,s⟩)⟩
   ·have:=h.inj id i b' (by grind) (hu i K) s Z;grind
   ·refine hrep.mono (BA.of_sub λb' s=>?_);rcases s with s|s
    ·grind
    ·exact .inr (.inr ⟨id,g,s⟩)
  ·grind
 ·grind
theorem MR:∀(args:List AV)(k:Nat)(S:AS),(enter k args S).length=args.length+(S.length-args.length)
 | [],_,S=>by simp[enter]
 | x :: r,k,S=>by simp only[enter,vu,MR r,vS];omega
theorem PR:∀n,(FG n).length=n
 | 0=>rfl
 | n+1=>by simp[FG,PR n]
theorem TF:∀n i,Ag (FG n) i=eK
 | 0,_=>rfl
 | _+1,0=>rfl
 | n+1,i+1=>TF n i
theorem kH(k:Nat):∀(S:AS)(i:Nat),Ag (S.drop k) i=Ag S (k+i):=by
 induction k with
 | zero=>grind
 | succ k ih =>
   intro S i
   cases S with
   | nil=>simp[Ag]
   | cons s r=>rw[List.drop_succ_cons,ih,show k+1+i=(k+i)+1 by omega];rfl
theorem TG:∀(args:List AV)(k:Nat)(S:AS)(i:Nat),Ag (enter k args S) i=match args[i]? with|some x=>Mi (k+i) x|none=>Ag S i
 | [],k,S,i=>by simp[enter]
 | x :: r,k,S,0=>by simp[enter,Ag]
 | x :: r,k,S,i+1=>by
   simp only[enter,Ag,TG r,vm];rw[show k+1+i=k+(i+1) by omega];split
   ·rfl
   ·rw[kH,Nat.add_comm]
theorem UP{w:World}{e:TypeId}{sz n:Nat}{v:Value}{vals:List Value}(h:Bw w e sz v n vals):PV v=v:=by
 obtain⟨_,_,_,rfl⟩:=Nc h;rfl
theorem RQ(vs:Array Value)(u:Value):PV (.agg (vs.push u))=u:=by simp[PV]
theorem UO{O:Nat->Prop}{w:World}{v:Value}{x:AV}(h:bE O w v x)(c:x.mut=true):Ae (PV v)=Ae v:=by
 cases x<;>try (cases c;done)
 ·obtain⟨_,_,_,hr,_⟩:=h;rw[UP hr]
 ·obtain⟨b,_,_,rfl,_⟩:=h;rfl
 ·obtain⟨_,vs,u,_,_,_,_,⟨_,rfl,_,_,_,_,hr,_⟩,_⟩:=h;rw[RQ,bP (Nc hr)]
theorem Z5(i:Nat)(sz:Nat)(e:TypeId)(xs:List D):∀ds:List D,du i (ds.map .d++[.own sz e xs])=ds.map .d++[.sl i 0]
 | []=>rfl
 | d :: r=>by simp only[ul,xa,du,Z5 i sz e xs r]
theorem dJ(sz:Nat)(e:TypeId)(xs:List D):∀ds:List D,pJ (ds.map .d++[.own sz e xs])=.row sz e xs
 | []=>rfl
 | d :: r=>by simp only[ul,xa,pJ,dJ sz e xs r]
theorem iO{ds:List C}{b:List C}{sz c:Nat}{e f:TypeId}{xs d:List D}(h:ds++[C.own sz e xs]=b++[C.own c f d]):ds=b/\sz=c/\e=f/\xs=d:=by
 obtain⟨g,i⟩:=List.append_inj' h rfl;grind
theorem Vj{n:Nat}{args:List AV}{O M:Nat->Prop}{w:World}{vs:Array Value}(hO:∀b,O b->b<w.heap.size)(hG:OY (λb=>O b\/HQ vs args b) w)(A:vs.size=args.length)(V:∀b,HQ vs args b->¬O b)
 (N:∀(i j:Nat) v v' x y b,vs[i]?=some v->vs[j]?=some v'->args[i]?=some x->args[j]?=some y->x.mut=true->y.mut=true->Ae v=some b->Ae v'=some b->i=j)
 (f:∀(i:Nat) v x,vs[i]?=some v->args[i]?=some x->bE (λb=>O b\/HQ vs args b) w v x) :
 SimB ⟨w.heap.size,HQ vs args,O,λ_=>False,w,λi=>PV (vs.getD i undef),XM hG⟩ (λ_=>False) (λi=>PV (vs.getD i undef)) (enter 0 args (FG n)) { tmps:=vs++Array.replicate (n-vs.size) undef,defers:=[] } w:=by
 have o:∀i,Ag (enter 0 args (FG n)) i=match args[i]? with|some x=>Mi i x|none=>eK:=by
  intro i;rw[TG];simp only[uQ,TF]
 have hver:∀i,(Ag (enter 0 args (FG n)) i).ver=0:=by
  intro i;rw[o];split
  ·rename_i x _;cases x<;>rfl
  ·rfl
 have g:∀(i:Nat) x,args[i]?=some x->vs[i]?=some (vs.getD i undef):=by
  intro i x hx;have:i<vs.size:=by rw[A];exact A6 hx
  simp[Array.getD,this]
 have p:∀i,(Ag (enter 0 args (FG n)) i).box.owned=true->∃x,args[i]?=some x/\x.mut=true:=by
  intro i ho;rw[o]at ho;split at ho
  ·rename_i x hx
   refine⟨x,hx,?_⟩
   cases x<;>first|rfl|simp[Mi,BJ.owned]at ho
  ·simp[eK,BJ.owned]at ho
 have r:∀b,OS (λi=>PV (vs.getD i undef)) ⟨w.heap.size,HQ vs args,O,λ_=>False,w,λi=>PV (vs.getD i undef),XM hG⟩ (enter 0 args (FG n)) b->O b\/HQ vs args b:=by
  intro b s;rcases s with s|s|⟨i,E,z⟩
  ·exact .inl s
  ·exact s.elim
  ·obtain⟨x,hx,C⟩:=p i E;exact .inr ⟨i,_,x,g i x hx,hx,C,by rw[<-UO (f i _ x (g i x hx) hx) C];exact z⟩
 refine⟨?_,rfl,A8.refl _ _ _,uh _,λb s=>⟨hO b s,λC=>V b C s⟩,(λb s=>s.elim),?_,?_,?_,?_,?_,?_⟩
 ·rw[MR,PR];simp[A]
 ·intro t v F;rw[o];split
  ·rename_i x hx
   have G:t<vs.size:=by rw[A];exact A6 hx
   rw[vf G]at F;have hr:=f t v x F hx;have H:v=vs.getD t undef:=by simp[G]at F;simp[Array.getD,G,F]
   cases x with
   | any=>trivial
   | d y=>exact Ay.mono (BA.of_sub r) (show Ay _ w v y from hr)
   | lim sz xs =>
     have Q:Ay (λb=>O b\/HQ vs args b) w v (.list sz xs)/\Su v=xs.length:=hr;exact⟨Q.1.mono (BA.of_sub r),Q.2⟩
   | own sz e xs =>
     obtain⟨_,_,_,W,_⟩:=hr;exact⟨ug _,λ_=>by show v=PV _;rw[<-H,UP W]⟩
   | optr cs =>
     obtain⟨b,vals,T,E,z,B⟩:=hr;exact⟨ug _,λ_=>⟨b,by show PV (vs.getD t undef)=_;rw[<-H,E];rfl,E⟩⟩
   | cc k l =>
     obtain⟨rfl,D,u,ds,sz,e,xs,⟨rfl,z,B,_⟩,R⟩:=hr;simp only[Mi,Z5];refine⟨D.push u,z,by simp[B],λj q y J hy=>?_⟩;rcases uZ j D.size with K|K
     ·rw[Array.getElem?_push_lt K]at J;have I:j<ds.length:=by rw[<-B];exact K
      rw[ut (by simpa using I)]at hy;simp at J;simp[I]at hy;subst hy;have:=R.2 j q ds[j] (by simp[K,J]) (by simp[I]);exact⟨⟨this.1.mono (BA.of_sub r),this.2⟩,UR this.1 this.2⟩
     ·have Y:j=D.size:=by have:=Dz J;simp at this;omega
      subst Y;simp at J;subst J;rw[B,uq (by simp)]at hy;simp at hy;subst hy;refine⟨⟨ug _,λ_=>by show _=PV _;rw[<-H,z,RQ]⟩,?_⟩;have:=f t v _ F hx;obtain⟨_,vs2,u2,_,_,_,_,⟨_,Z,_,_,_,_,q5,_⟩,_⟩:=this;rw[z]at Z;simp at Z;obtain⟨ad,m,c,L⟩:=Nc q5;rw[(Array.push_eq_push.1 Z).1,L];rfl
   | bot|ptr _ _ _|sl _ _|eptr _ _ _ _ _|tup _|under _ _ _=>exact hr.elim
  ·trivial
 ·intro i;rw[o];split
  ·rename_i x hx
   have hr:=f i _ x (g i x hx) hx
   cases x with
   | any|d _|lim _ _|bot|ptr _ _ _|sl _ _|eptr _ _ _ _ _|tup _|under _ _ _=>trivial
   | own sz e xs =>
     obtain⟨E,z,vals,B,R⟩:=hr;exact⟨E,z,vals,by show Bw w e sz (PV (vs.getD i undef)) _ _;rw[UP B];exact B,R.mono (BA.of_sub r)⟩
   | cc k l =>
     obtain⟨rfl,D,u,ds,sz,e,xs,⟨rfl,z,B,R,h5,vals,h6,h7⟩,_⟩:=hr;simp only[Mi,dJ];exact⟨R,h5,vals,by show Bw w e sz (PV (vs.getD i undef)) _ _;rw[z,RQ];exact h6,h7.mono (BA.of_sub r)⟩
   | optr cs =>
     obtain⟨b,vals,T,E,z,B⟩:=hr;exact⟨b,vals,T,by show PV (vs.getD i undef)=_;rw[E];rfl,z,by have:=B.1;simpa using this,λj v c F hc=>(B.mono (BA.of_sub r)).cells j v c (by simpa using F) hc⟩
  ·trivial
 ·intro i b ho s;obtain⟨x,hx,C⟩:=p i ho;exact⟨.inr ⟨i,_,x,g i x hx,hx,C,by rw[<-UO (f i _ x (g i x hx) hx) C];exact s⟩,λh=>h⟩
 ·intro i j b hi K hbi hbj;obtain⟨x,hx,C⟩:=p i hi;obtain⟨y,hy,U⟩:=p j K;exact N i j _ _ x y b (g i x hx) (g j y hy) hx hy C U (by rw[<-UO (f i _ x (g i x hx) hx) C];exact hbi) (by rw[<-UO (f j _ y (g j y hy) hy) U];exact hbj)
 ·intro t u L;rw[o]at L;split at L
  ·rename_i x hx
   have hr:=f t _ x (g t x hx) hx
   cases x<;>simp[Mi,AV.guards]at L
   exact hr.elim
  ·simp[eK,AV.guards]at L
 ·intro i _ _;rfl
theorem Iv{vs:Array Value}{args:List AV}(h:∀x∈args,x.mut=false)(b:Nat):¬HQ vs args b:=by
 rintro⟨i,v,x,_,hx,c,_⟩;grind
theorem So{J:List Nat}(m:Nh P){f:FuncId}{fn:Func}{args:List AV}{r:AV}(E:P.funcs[f]?=some fn)(o:(fn.name == "runtime.NumGoroutine")=false)(hr:bF P J fn args r):Ax P f args r:=by
 unfold bF at hr;split at hr
 ·rename_i c F
  refine⟨by simp[F0,E,o,F],λO w vs I z s k=>?_⟩;rw[F5]at hr;refine calls_of_wp E F ?_
  have d:∀x∈args,x.mut=false:=by
   intro x hx;obtain⟨i,K⟩:=List.mem_iff_getElem?.1 hx;have A:i<vs.size:=by grind
   have:=k i vs[i] x (by simp[A]) K
   cases x<;>first|rfl|exact this.elim
  have L:OY (λb=>O b\/HQ vs args b) w:=λg cs N=>(z g cs N).mono (BA.of_sub λb p=>p.resolve_right (Iv d b))
  have t:=Vj (n:=fn.ntmps) (M:=λ_=>False) I L s (λb u=>absurd u (Iv d b)) (λi j v B x y b _ _ hx _ u=>by rw[d x (uy hx)]at u;cases u)
   (λi v x Q hx=>by
    have C:=(k i v x Q hx).mono (O':=λb=>O b\/HQ vs args b) (BA.of_sub λb p=>p.resolve_right (Iv d b));have G:=d x (uy hx)
    cases x<;>first|exact C|cases G)
  refine wp_mono (EI m c hr t) λe H w' q=>?_;obtain⟨U,S',q,D⟩:=q
  have fin:gk P fn.results.toList [] [] S' r->H.defers=[]/\∃v,(results fn H.tmps).run P w'=.ok v w'/\∃B,Ending.returned v=.returned B/\Below w.heap.size w w'/\Di (λb=>w.heap.size<=b) O w' B r:=by
   intro q;obtain⟨v,T,C,G,_,_,_,R,_⟩:=TC D (frz:=[]) trivial (λ_ h=>by cases h) q;refine⟨D.df,v,C,v,rfl,D.below.below (Iv d),R.mono (λb p=>p.1.resolve_right (Iv d b)) (λb p=>.inl p)⟩
  cases e with
  | normal=>exact fin q
  | ret=>exact fin q
  | exit id=>grind
  | goto l=>grind
  | panic V=>grind
  | outgrown=>grind
 ·grind
theorem Mp(h:SimB X (λ_=>False) β S a w):∀{m:List AV}{k:Nat}{K:List Nat->Bx->Prop},QV S k m K ->
 ∃c frz,K c frz/\FZ S [] frz/\(∀i∈c,(Ag S i).box.owned=true) /\
  ∀(i:Nat) y,m[i]?=some y->y.mut=true->k+i∈c/\(Ag S (k+i)).ver=0/\match y with
   | .own sz e ys=>(Ag S (k+i)).box=.row sz e ys
   | .optr l=>∃cs,(Ag S (k+i)).box=.var cs/\Lj S frz cs l
   | .cc _ l=>∃(ds:List C)(sz:Nat)(e:TypeId)(ys:List D),l=ds++[.own sz e ys]/\(Ag S (k+i)).box=.row sz e ys
   | _=>False
 | [],k,K,hy=>⟨[],[],hy,trivial,(λ_ h=>by cases h),λi y h=>by simp at h⟩
 | q :: r,k,K,hy=>by
   have skip:QV S (k+1) r K->q.mut=false->∃c frz,K c frz/\FZ S [] frz/\(∀i∈c,(Ag S i).box.owned=true) /\
    ∀(i:Nat) y,(q :: r)[i]?=some y->y.mut=true->k+i∈c/\(Ag S (k+i)).ver=0/\match y with
     | .own sz e ys=>(Ag S (k+i)).box=.row sz e ys
     | .optr l=>∃cs,(Ag S (k+i)).box=.var cs/\Lj S frz cs l
     | .cc _ l=>∃(ds:List C)(sz:Nat)(e:TypeId)(ys:List D),l=ds++[.own sz e ys]/\(Ag S (k+i)).box=.row sz e ys
     | _=>False:=by
    intro hy E;obtain⟨c,frz,hK,n,o,p⟩:=Mp h hy;refine⟨c,frz,hK,n,o,λi y f g=>?_⟩
    cases i with
    | zero=>simp at f;subst f;rw[E]at g;cases g
    | succ i=>have:=p i y (by grind) g;rw[show k+(i+1)=k+1+i by omega];exact this
   cases q with
   | own sz e ys =>
     unfold QV at hy;split at hy
     ·rename_i A s F xs j
      obtain⟨⟨rfl,rfl,rfl⟩,hy⟩:=hy;obtain⟨c,frz,hK,n,o,p⟩:=Mp h hy;refine⟨_,frz,hK,n,λi f=>?_,λi y f g=>?_⟩
      ·rcases List.mem_cons.1 f with rfl|f
       ·rw[j];rfl
       ·exact o i f
      ·cases i with
       | zero=>simp at f;subst f;simp only[vF];exact⟨by simp,by rw[j],by simp only[j]⟩
       | succ i=>have:=p i y (by grind) g;rw[show k+(i+1)=k+1+i by omega];exact⟨by simp[this.1],this.2⟩
     ·grind
   | optr l =>
     unfold QV at hy;split at hy
     ·rename_i A cs j
      obtain⟨L,b,t,u,G,v,_⟩:=Ny h hy;obtain⟨el,x⟩:=t;subst el;obtain⟨c,frz,hK,n,o,p⟩:=Mp h x;refine⟨_,_,hK,u.append n,λi f=>?_,λi y f g=>?_⟩
      ·rcases List.mem_cons.1 f with rfl|f
       ·rw[j];rfl
       ·exact o i f
      ·cases i with
       | zero=>simp at f;subst f;simp only[vF];exact⟨by simp,by rw[j],cs,by rw[j],v.mono λy hy=>by simp[hy]⟩
       | succ i =>
         have:=p i y (by grind) g;rw[show k+(i+1)=k+1+i by omega];refine⟨by simp[this.1],this.2.1,?_⟩;have B:=this.2.2
         cases y<;>first|exact B|(obtain⟨z,H,I⟩:=B;exact⟨z,H,I.mono λy hy=>by simp[hy]⟩)
     ·grind
   | any=>exact skip hy rfl
   | bot=>exact skip hy rfl
   | d _=>exact skip hy rfl
   | lim _ _=>exact skip hy rfl
   | ptr _ _ _=>exact skip hy rfl
   | sl _ _=>exact skip hy rfl
   | eptr _ _ _ _ _=>exact skip hy rfl
   | tup _=>exact skip hy rfl
   | under _ _ _=>exact skip hy rfl
   | cc M l =>
     unfold QV at hy;obtain⟨ds,sz,e,ys,J,hy⟩:=O3 hy;split at hy
     ·rename_i A s F xs j
      obtain⟨⟨rfl,rfl,rfl⟩,hy⟩:=hy;obtain⟨c,frz,hK,n,o,p⟩:=Mp h hy;refine⟨_,frz,hK,n,λi f=>?_,λi y f g=>?_⟩
      ·rcases List.mem_cons.1 f with rfl|f
       ·rw[j];rfl
       ·exact o i f
      ·cases i with
       | zero=>simp at f;subst f;simp only[vF];exact⟨by simp,by rw[j],ds,_,_,_,J,by rw[j]⟩
       | succ i=>have:=p i y (by grind) g;rw[show k+(i+1)=k+1+i by omega];exact⟨by simp[this.1],this.2⟩
     ·grind
theorem SA{J:List Nat}(E:Nh P){f:FuncId}{fn:Func}{args d:List AV}{r:AV}(hf:P.funcs[f]?=some fn)(G:(fn.name == "runtime.NumGoroutine")=false)(hol:d.length=args.length)
 (A:∀(i:Nat) x y,args[i]?=some x->d[i]?=some y->match y with
  | .own sz e _=>∃xs,x=.own sz e xs
  | .optr cs=>∃z,x=.optr z/\cs.length=z.length
  | .cc _ l=>∃(ds:List D)(sz:Nat)(e:TypeId)(xs ys:List D),x=.cc none (ds.map .d++[.own sz e xs])/\l=ds.map .d++[.own sz e ys]
  | _=>True) (hr:Xo P J fn args d r):Fz P f args d r:=by
 unfold Xo at hr;split at hr
 ·rename_i c hc
  refine⟨by simp[F0,hf,G,hc],hol,λO w vs hO hG Q hMO R h=>?_⟩;rw[F5]at hr;refine calls_of_wp hf hc ?_;have U:=Vj (n:=fn.ntmps) (M:=λ_=>False) hO hG Q hMO R h;refine wp_mono (EI E c hr U) λe a' w' o=>?_;obtain⟨β',S',o,V⟩:=o
  have fin:(QV S' 0 d λu b=>gk P fn.results.toList u b S' r)->a'.defers=[]/\∃v,(results fn a'.tmps).run P w'=.ok v w'/\∃v',Ending.returned v=.returned v'/\A8 w.heap.size (HQ vs args) w w' /\
   Di (λb=>w.heap.size<=b\/(HQ vs args b/\¬HQ vs d b)) (λb=>O b\/HQ vs d b) w' v' r /\
   ∀(i:Nat) u x y,vs[i]?=some u->args[i]?=some x->d[i]?=some y->Q6 (λb=>O b\/HQ vs d b\/Eb v' r b) w' u x y:=by
   intro o;obtain⟨B,frz,o,hF,hu,hk⟩:=Mp V o;obtain⟨v,T,h1,h2,h3,h4,⟨F,hFF,hFr⟩,h5,h6⟩:=TC V hF hu o
   have hβ:∀(i:Nat) u y,vs[i]?=some u->d[i]?=some y->y.mut=true->i∈B/\β' i=PV u/\Ae (PV u)=Ae u:=by
    intro i u y p hy L;have:=hk i y hy L;simp only[uQ]at this;have W:args[i]?=some (args[i]'(by grind)):=P3 _
    refine⟨this.1,?_,UO (h i u _ p W) (by
     have k:=A i _ y W hy;generalize args[i]'(by grind)=q at k
     cases y<;>try (cases L;done)
     ·obtain⟨_,rfl⟩:=k;rfl
     ·obtain⟨_,rfl,_⟩:=k;rfl
     ·obtain⟨_,_,_,_,_,rfl,_⟩:=k;rfl)⟩
    have hne:(Ag S' i).box≠.none:=by intro e;have:=hu i this.1;rw[e]at this;cases this
    have Y:=V.ini i this.2.1 hne;have Z:=Dz p;rw[Y];simp[Z]at p;simp[Array.getD,Z,p]
   have hMo:∀b,HQ vs d b->∃i∈B,Ae (β' i)=some b:=by
    rintro b ⟨i,u,y,p,hy,L,g⟩;obtain⟨H,C⟩:=hβ i u y p hy L;exact⟨i,H,by rw[C.1,C.2];exact g⟩
   have hMT:∀b,HQ vs d b->OS β' ⟨w.heap.size,HQ vs args,O,λ_=>False,w,λi=>PV (vs.getD i undef),XM hG⟩ T b:=by
    intro b g;obtain⟨i,p,g⟩:=hMo b g;exact .inr (.inr ⟨i,by rw[h3 i p];exact hu i p,g⟩)
   refine⟨V.df,v,h1,v,rfl,V.below,h5.mono (λb g=>?_) (λb g=>?_),λi u x y m hx hy=>?_⟩
   ·rcases g.1 with I|I
    ·exact .inl I
    ·exact .inr ⟨I,λL=>by obtain⟨i,p,hbi⟩:=hMo b L;exact g.2 i p hbi⟩
   ·rcases g with g|g
    ·exact .inl g
    ·grind
   ·have s:∀b,(O b\/HQ vs d b\/Eb v r b)->OS β' ⟨w.heap.size,HQ vs args,O,λ_=>False,w,λi=>PV (vs.getD i undef),XM hG⟩ T b:=by
     intro b g;rcases g with g|g|g
     ·exact .inl g
     ·exact hMT b g
     ·exact h6 b g
    have k:=A i x y hx hy
    cases y<;>try trivial
    ·rename_i sz e ys
     obtain⟨H,C⟩:=hβ i u _ m hy rfl;have hki:=(hk i _ hy rfl).2.2;simp only[uQ]at hki;have g:=h2.boxes i;rw[h3 i H,hki]at g;obtain⟨N,j2,vals,K,j4⟩:=g;obtain⟨xs,rfl⟩:=k;obtain⟨_,_,_,hrr,_⟩:=h i u _ m hx;rw[C.1,UP hrr]at K;exact⟨⟨N,j2,vals,K,j4.mono (BA.of_sub s)⟩,xs,rfl⟩
    ·rename_i l
     obtain⟨H,C⟩:=hβ i u _ m hy rfl;obtain⟨cs,t,hcd⟩:=(hk i _ hy rfl).2.2;simp only[uQ]at t;have g:=h2.boxes i;rw[h3 i H,t]at g;obtain⟨b,vals,T',N,j2,K,j4⟩:=g;obtain⟨z,rfl,hcl⟩:=k;have hpu:PV u=u:=by obtain⟨_,_,_,rfl,_⟩:=h i u _ m hx;rfl
     rw[C.1,hpu]at N;refine⟨⟨b,vals,T',N,j2,?_⟩,z,rfl,hcl⟩;refine(R7 hFr h2 (hcd.mono hFF) (vals:=vals.toList) (by simpa using K) (λj v c hv hc=>j4 j v c (by simpa using hv) hc)).mono (BA.of_sub s)
    ·rename_i k0 l
     obtain⟨H,C⟩:=hβ i u _ m hy rfl;obtain⟨ds1,sz1,e1,ys1,hl1,t⟩:=(hk i _ hy rfl).2.2;simp only[uQ]at t;have g:=h2.boxes i;rw[h3 i H,t]at g;obtain⟨N,j2,vals,K,j4⟩:=g;obtain⟨ds,sz,e,xs,ys,rfl,rfl⟩:=k;obtain⟨rfl,rfl,rfl,rfl⟩:=iO hl1;obtain⟨_,vs',u',ds',sz',e',xs',⟨q1,rfl,q3,_⟩,_⟩:=h i u _ m hx;obtain⟨q1,rfl,rfl,rfl⟩:=iO q1;have q1:ds.length=ds'.length:=by simpa using congrArg List.length q1
     rw[C.1,RQ]at K;exact⟨vs',u',ds,_,_,ys,rfl,rfl,by rw[q3,q1],N,j2,vals,K,j4.mono (BA.of_sub s)⟩
  cases e with
  | normal=>exact fin o
  | ret=>exact fin o
  | exit id=>exact o.elim
  | goto l=>exact o.elim
  | panic ch=>exact o.elim
  | outgrown=>exact o.elim
 ·grind
theorem dV{n k q sz:Nat}{e:TypeId}{xs:List D}{args:List AV}(hk:k<args.length)(h:q<args.length)(b:q≠k)(i:Nat) :
 Ag (AY (AY (FB (enter 0 args (FG n)) k (.ptr k 0 0)) k (.var [.sl q 0]) 0) q (.row sz e xs) 0) i =
  if i=q then⟨(Ag (enter 0 args (FG n)) q).av,.row sz e xs,0⟩else if i=k then⟨.ptr k 0 0,.var [.sl q 0],0⟩else Ag (enter 0 args (FG n)) i:=by
 have j:args.length<=(enter 0 args (FG n)).length:=by rw[MR];omega
 rw[Ci,Ci,Ci,CQ,CQ,CQ];simp only[CX,IF];have c:k<(enter 0 args (FG n)).length:=by omega
 have d:q<(enter 0 args (FG n)).length:=by omega
 by_cases f:i=q
 ·subst f;simp[c,d,b]
 ·by_cases g:i=k
  ·subst g;simp[c,d,f]
  ·simp[c,d,f,g]
theorem Za{J:List Nat}(Z:Nh P){f:FuncId}{fn:Func}{args:List AV}{k q sz:Nat}{e:TypeId}{xs ys:List D}(hf:P.funcs[f]?=some fn)(hname:(fn.name == "runtime.NumGoroutine")=false)(hres:fn.results=#[])
 (hk:args[k]?=some .any) (hq:q<args.length) (R:q≠k) (hmut:args.all (λx=>!x.mut)=true) (hr:lu P J fn args k q sz e xs ys):VK P f args k sz e xs ys:=by
 unfold lu at hr;split at hr
 ·rename_i c hc
  refine⟨by simp[F0,hf,hname,hc],λO w vs b u T hO hG B U hh hbO huO hsz hxs hrow G=>?_⟩;rw[F5]at hr;refine calls_of_wp hf hc ?_;have hkl:k<args.length:=A6 hk;obtain⟨rvals,hrr,hrl⟩:=hrow
  have hnm:∀x∈args,x.mut=false:=by
   intro x hx;have:=List.all_eq_true.1 hmut x hx
   simpa using this
  have hbw:b<w.heap.size:=by
   rcases uZ b w.heap.size with h|h
   ·exact h
   ·rw[vH h]at hh;cases hh
  let β:Nat->Value:=λi=>if i=q then u else vs.getD i undef
  have E:β q=u:=uk rfl;have hβ:∀i,i≠q->β i=vs.getD i undef:=λi hi=>uo hi
  have hkv:vs.getD k undef=.pointer (some ⟨b,0,none⟩):=by
   have:=Dz U;simp[this]at U;simp[Array.getD,this,U]
  have r:β k=.pointer (some ⟨b,0,none⟩):=by rw[hβ k (λh=>R h.symm)];exact hkv
  have z:∀i,Ag (enter 0 args (FG fn.ntmps)) i=match args[i]? with|some x=>Mi i x|none=>eK:=by
   intro i;rw[TG];simp only[uQ,TF]
  have H:∀i,(Ag (enter 0 args (FG fn.ntmps)) i).box=.none/\(Ag (enter 0 args (FG fn.ntmps)) i).ver=0:=by
   intro i;rw[z];split
   ·rename_i x hx
    have:=hnm x (uy hx)
    cases x<;>first|exact⟨rfl,rfl⟩|cases this
   ·exact⟨rfl,rfl⟩
  have s:=dV (n:=fn.ntmps) (sz:=sz) (e:=e) (xs:=xs) hkl hq R
  have C:∀i,(Ag (AY (AY (FB (enter 0 args (FG fn.ntmps)) k (.ptr k 0 0)) k (.var [.sl q 0]) 0) q (.row sz e xs) 0) i).box.owned=true->i=q\/i=k:=by
   intro i hi;rw[s]at hi;by_cases F:i=q
   ·exact .inl F
   ·by_cases A:i=k
    ·exact .inr A
    ·rw[uo F,uo A,(H i).1]at hi;cases hi
  have hver:∀i,(Ag (AY (AY (FB (enter 0 args (FG fn.ntmps)) k (.ptr k 0 0)) k (.var [.sl q 0]) 0) q (.row sz e xs) 0) i).ver=0:=by
   intro i;rw[s];split
   ·rfl
   ·split
    ·rfl
    ·exact(H i).2
  let Xc:Cx:=⟨w.heap.size,λc=>c=b\/Ae u=some c,O,λ_=>False,w,β,XM (M:=λc=>c=b\/Ae u=some c) hG⟩
  have hOS:∀c',OS β Xc (AY (AY (FB (enter 0 args (FG fn.ntmps)) k (.ptr k 0 0)) k (.var [.sl q 0]) 0) q (.row sz e xs) 0) c'->O c'\/c'=b\/Ae u=some c':=by
   intro c' o;rcases o with o|o|⟨i,Q,Y⟩
   ·exact .inl o
   ·exact o.elim
   ·rcases C i Q with rfl|rfl
    ·rw[E]at Y;exact .inr (.inr Y)
    ·rw[r]at Y;simp[Ae]at Y;exact .inr (.inl Y.symm)
  have hsim:SimB Xc (λ_=>False) β (AY (AY (FB (enter 0 args (FG fn.ntmps)) k (.ptr k 0 0)) k (.var [.sl q 0]) 0) q (.row sz e xs) 0) { tmps:=vs++Array.replicate (fn.ntmps-vs.size) undef,defers:=[] } w:=by
   refine⟨?_,rfl,A8.refl _ _ _,uh _,λc' o=>⟨hO c' o,λhm=>?_⟩,(λb hb=>hb.elim),?_,?_,?_,?_,?_,?_⟩
   ·rw[CX,CX,IF,MR,PR];simp[B]
   ·rcases hm with rfl|hm
    ·exact hbO o
    ·exact(huO c' hm).1 o
   ·intro t v hv;rw[s]
    have base:t≠k->JX β (AH (AY (AY (FB (enter 0 args (FG fn.ntmps)) k (.ptr k 0 0)) k (.var [.sl q 0]) 0) q (.row sz e xs) 0)) (OS β Xc (AY (AY (FB (enter 0 args (FG fn.ntmps)) k (.ptr k 0 0)) k (.var [.sl q 0]) 0) q (.row sz e xs) 0)) w (vs++Array.replicate (fn.ntmps-vs.size) undef) v (Ag (enter 0 args (FG fn.ntmps)) t).av:=by
     intro _;rw[z];split
     ·rename_i x hx
      have I:t<vs.size:=by rw[B];exact A6 hx
      rw[vf I]at hv;have hr:=G t v x hv hx
      cases x with
      | any=>trivial
      | d y=>exact Ay.mono (BA.of_sub hOS) (show Ay _ w v y from hr)
      | lim sz xs =>
        have hr':Ay (λc=>O c\/c=b\/Ae u=some c) w v (.list sz xs)/\Su v=xs.length:=hr;exact⟨hr'.1.mono (BA.of_sub hOS),hr'.2⟩
      | bot|ptr _ _ _|sl _ _|eptr _ _ _ _ _|tup _|under _ _ _|cc _ _|own _ _ _|optr _=>exact hr.elim
     ·trivial
    by_cases F:t=q
    ·subst F;rw[uk rfl];exact base R
    ·rw[uo F];by_cases A:t=k
     ·rw[uk A];subst A;have I:t<vs.size:=by rw[B];exact hkl
      rw[vf I,U]at hv
      cases hv
      exact⟨ug _,λ_=>⟨b,r,rfl⟩⟩
     ·rw[uo A];exact base A
   ·intro i;rw[s];by_cases F:i=q
    ·rw[uk F,F];exact⟨hsz,hxs,rvals,by rw[E];exact hrr,hrl.mono (BA.of_sub hOS)⟩
    ·rw[uo F];by_cases A:i=k
     ·rw[uk A,A];refine⟨b,#[u],T,r,hh,rfl,λj v c hv hc=>?_⟩
      cases j with
      | zero=>simp at hv hc;subst hv;subst hc;exact⟨ug _,λ_=>E.symm⟩
      | succ j=>simp at hc
     ·rw[uo A,(H i).1];trivial
   ·intro i c' ho hb;refine⟨.inr ?_,λh=>h⟩;rcases C i ho with rfl|rfl
    ·rw[E]at hb;exact .inr hb
    ·rw[r]at hb;simp[Ae]at hb;exact .inl hb.symm
   ·intro i j c' hi hj K L;rcases C i hi with rfl|rfl<;>rcases C j hj with rfl|rfl
    ·rfl
    ·rw[E]at K;rw[r]at L;simp[Ae]at L;exact((huO c' K).2 L.symm).elim
    ·rw[E]at L;rw[r]at K;simp[Ae]at K;exact((huO c' L).2 K.symm).elim
    ·rfl
   ·intro t g V;rw[s]at V
    have h0:∀i,(Ag (enter 0 args (FG fn.ntmps)) i).av.guards=[]:=by
     intro i;rw[z];split
     ·rename_i x hx
      have I:i<vs.size:=by rw[B];exact A6 hx
      have hr:=G i vs[i] x (by simp[I]) hx
      cases x<;>first|rfl|exact hr.elim
     ·rfl
    by_cases F:t=q
    ·rw[uk F]at V;rw[h0]at V;cases V
    ·rw[uo F]at V;by_cases A:t=k
     ·rw[uk A]at V;cases V
     ·rw[uo A,h0]at V;cases V
   ·intro i _ _;rfl
  refine wp_mono (EI Z c hr hsim) λe' a' w' p=>?_;obtain⟨β',S',p,hs⟩:=p
  have fin:qV S' k q sz e ys->a'.defers=[]/\∃v,(results fn a'.tmps).run P w'=.ok v w'/\∃v' u' T',Ending.returned v=.returned v'/\A8 w.heap.size (λc=>c=b\/Ae u=some c) w w' /\
   w'.heap[b]?=some (.cells #[u'] T' (0,0))/\(∀c,Ae u'=some c->Ae u=some c\/w.heap.size<=c)/\(∀x∈ys,x.cells.length=sz) /\
   ∃vals,Bw w' e sz u' ys.length vals/\By (λc=>O c\/c=b\/Ae u'=some c) w' vals (ys.flatMap D.cells):=by
   intro p;unfold qV at p;split at p<;>try exact p.elim
   rename_i av1 q' n W
   split at p<;>try exact p.elim
   rename_i av2 sz' A xs' m hk2
   obtain⟨rfl,rfl,rfl,rfl,rfl⟩:=p;have hb1:=hs.boxes k;rw[W]at hb1;obtain⟨b1,vals,T1,j1,j2,j3,j4⟩:=hb1;have hini:=hs.ini k (by rw[W]) (by rw[W];simp);have N:β' k=β k:=hini;rw[N,r]at j1;simp only[Value.pointer.injEq,Option.some.injEq,Addr.mk.injEq]at j1;obtain⟨rfl,_⟩:=j1
   obtain⟨u',rfl⟩:∃u',vals=#[u']:=by
    have:vals.size=1:=j3;exact⟨vals[0],by apply Array.ext;simp[this];intro i Q Y;simp at Y;subst Y;rfl⟩
   have hcu:=j4 0 u' (.sl q' n) rfl rfl;have hu':u'=β' q':=hcu.2 (by simp only[AH,hk2]);have hb2:=hs.boxes q';rw[hk2]at hb2;obtain⟨l1,l2,vals2,l3,l4⟩:=hb2;have o1:(Ag S' k).box.owned=true:=by rw[W];rfl
   have o2:(Ag S' q').box.owned=true:=by rw[hk2];rfl
   have hbk:Ae (β' k)=some b:=by rw[N,r];rfl
   refine⟨hs.df,.tuple #[],?_,.tuple #[],u',T1,rfl,hs.below,j2,λc' o=>?_,l2,vals2,by rw[hu'];exact l3,l4.mono (BA.of_sub λc' o=>?_)⟩
   ·have:=OB (P:=P) (w:=w') (a:=a') (fn:=fn) (vs:=[]) (by rw[hres];rfl)
    simpa using this
   ·rw[hu']at o;have:=(hs.mine q' c' o2 o).1;rcases this with Q|Q
    ·exact .inr Q
    ·rcases Q with Q|Q
     ·subst Q;exact(R (hs.inj q' k c' o2 o1 o hbk)).elim
     ·exact .inl Q
   ·rcases o with o|rfl|o
    ·exact .inl o
    ·exact .inr (.inr ⟨k,o1,hbk⟩)
    ·exact .inr (.inr ⟨q',o2,by rw[<-hu'];exact o⟩)
  cases e' with
  | normal=>exact fin p
  | ret=>exact fin p
  | exit id=>exact p.elim
  | goto l=>exact p.elim
  | panic ch=>exact p.elim
  | outgrown=>exact p.elim
 ·exact hr.elim
end
def DK{α:Type}(F:(α->Prop)->Prop):Prop:=(∀K K':α->Prop,(∀x,K x->K' x)->F K->F K')/\∀K,F K->∃x,F (λy=>y=x)/\K x
def Fy{α γ:Type}(F:(α->γ->Prop)->Prop):Prop:=(∀K K':α->γ->Prop,(∀x y,K x y->K' x y)->F K->F K')/\∀K,F K->∃x y,F (λx' y'=>x'=x/\y'=y)/\K x y
section
variable {α γ δ:Type}
theorem Ak(x:α):DK λK:α->Prop=>K x:=⟨λ_ _ h hk=>h _ hk,λ_ hk=>⟨x,rfl,hk⟩⟩
theorem Af:DK λ_:α->Prop=>False:=⟨λ_ _ _ h=>h,λ_ h=>h.elim⟩
theorem Bm(x:α)(y:γ):Fy λK:α->γ->Prop=>K x y:=⟨λ_ _ h hk=>h _ _ hk,λ_ hk=>⟨x,y,⟨rfl,rfl⟩,hk⟩⟩
theorem Ch:Fy λ_:α->γ->Prop=>False:=⟨λ_ _ _ h=>h,λ_ h=>h.elim⟩
theorem A0{F:(α->Prop)->Prop}{b:α->(γ->Prop)->Prop}(a:DK F)(c:∀x,DK (b x)):DK λK:γ->Prop=>F λx=>b x K:=by
 refine⟨λK j h hk=>a.1 _ _ (λx hx=>(c x).1 _ _ h hx) hk,λK hk=>?_⟩;obtain⟨x,d,e⟩:=a.2 _ hk;obtain⟨y,f,g⟩:=(c x).2 _ e;exact⟨y,a.1 _ _ (λz i=>by subst i;exact f) d,g⟩
theorem Cm{F:(α->γ->Prop)->Prop}{c:α->γ->(δ->Prop)->Prop}(a:Fy F)(d:∀x y,DK (c x y)):DK λK:δ->Prop=>F λx y=>c x y K:=by
 refine⟨λK j h hk=>a.1 _ _ (λx y hx=>(d x y).1 _ _ h hx) hk,λK hk=>?_⟩;obtain⟨x,y,e,f⟩:=a.2 _ hk;obtain⟨z,g,i⟩:=(d x y).2 _ f;exact⟨z,a.1 _ _ (λu v b=>by obtain⟨rfl,rfl⟩:=b;exact g) e,i⟩
theorem B9{ε:Type}{F:(α->γ->Prop)->Prop}{c:α->γ->(δ->ε->Prop)->Prop}(a:Fy F)(d:∀x y,Fy (c x y)):Fy λK:δ->ε->Prop=>F λx y=>c x y K:=by
 refine⟨λK k h hk=>a.1 _ _ (λx y hx=>(d x y).1 _ _ h hx) hk,λK hk=>?_⟩;obtain⟨x,y,e,f⟩:=a.2 _ hk;obtain⟨z,g,i,j⟩:=(d x y).2 _ f;exact⟨z,g,a.1 _ _ (λu v b=>by obtain⟨rfl,rfl⟩:=b;exact i) e,j⟩
theorem C6{F:(α->Prop)->Prop}(p:Prop)(a:DK F):DK λK:α->Prop=>JW p (F K):=by
 refine⟨λK d h hk=>⟨hk.1,a.1 _ _ h hk.2⟩,λK hk=>?_⟩;obtain⟨x,b,c⟩:=a.2 _ hk.2;exact⟨x,⟨hk.1,b⟩,c⟩
theorem Bn{F:(α->Prop)->Prop}(c:Prop)[Decidable c](a:DK F):DK λK:α->Prop=>if c then F K else False:=by
 by_cases h:c
 ·simp only[h,if_true];exact a
 ·simp only[h,if_false];exact Af
theorem RE(xs:List D)(i:Int):DK λK:D->Prop=>At xs i K :=
 ⟨λ_ _ h hk=>by obtain⟨a,x,b,c⟩:=hk.go;exact⟨⟨a,x,b,h _ c⟩⟩,λ_ hk=>by obtain⟨a,x,b,c⟩:=hk.go;exact⟨x,⟨⟨a,x,b,rfl⟩⟩,c⟩⟩
theorem Mm{F d:(α->Prop)->Prop}(e:DK F)(a:DK d):DK λK:α->Prop=>Te (F K) (d K):=by
 refine⟨λK f h hk=>⟨hk.go.imp (e.1 _ _ h) (a.1 _ _ h)⟩,λK hk=>?_⟩;rcases hk.go with hk|hk
 ·obtain⟨x,b,c⟩:=e.2 _ hk;exact⟨x,⟨.inl b⟩,c⟩
 ·obtain⟨x,b,c⟩:=a.2 _ hk;exact⟨x,⟨.inr b⟩,c⟩
theorem fA{F:List (Nat×Nat)->(α->Prop)->Prop}(b:∀a,DK (F a)):DK λK:α->Prop=>qh λa=>F a K:=by
 refine⟨λK e h hk=>?_,λK hk=>?_⟩
 ·obtain⟨a,hk⟩:=hk.go;exact⟨⟨a,(b a).1 _ _ h hk⟩⟩
 ·obtain⟨a,hk⟩:=hk.go;obtain⟨x,c,d⟩:=(b a).2 _ hk;exact⟨x,⟨⟨a,c⟩⟩,d⟩
theorem jL{P:Program}{f:FuncId}{c:List Nat}{vs k:List AV}{F:AV->(α->Prop)->Prop}{i:List AV->AV->(α->Prop)->Prop}(j:∀r,DK (F r))(d:∀o r,DK (i o r)) :
 DK λK:α->Prop=>Ii P f c vs (λr=>F r K) k (λo r=>i o r K):=by
 refine⟨λK l h hk=>?_,λK hk=>?_⟩
 ·rcases hk.go with⟨r,a,b⟩|⟨o,r,a,b⟩
  ·exact⟨.inl ⟨r,a,(j r).1 _ _ h b⟩⟩
  ·exact⟨.inr ⟨o,r,a,(d o r).1 _ _ h b⟩⟩
 ·rcases hk.go with⟨r,a,b⟩|⟨o,r,a,b⟩
  ·obtain⟨x,e,g⟩:=(j r).2 _ b;exact⟨x,⟨.inl ⟨r,a,e⟩⟩,g⟩
  ·obtain⟨x,e,g⟩:=(d o r).2 _ b;exact⟨x,⟨.inr ⟨o,r,a,e⟩⟩,g⟩
theorem Is{F:(α->Prop)->Prop}{b:α->(γ->δ->Prop)->Prop}(a:DK F)(c:∀x,Fy (b x)):Fy λK:γ->δ->Prop=>F λx=>b x K:=by
 refine⟨λK j h hk=>a.1 _ _ (λx hx=>(c x).1 _ _ h hx) hk,λK hk=>?_⟩;obtain⟨x,d,e⟩:=a.2 _ hk;obtain⟨y,z,f,g⟩:=(c x).2 _ e;exact⟨y,z,a.1 _ _ (λu i=>by subst i;exact f) d,g⟩
theorem RD{F:(α->γ->Prop)->Prop}(c:Prop)[Decidable c](a:Fy F):Fy λK:α->γ->Prop=>if c then F K else False:=by
 by_cases h:c
 ·simp only[h,if_true];exact a
 ·simp only[h,if_false];exact Ch
def Nr{α γ δ:Type}(F:(α->γ->δ->Prop)->Prop):Prop:=(∀K K':α->γ->δ->Prop,(∀x y z,K x y z->K' x y z)->F K->F K')/\∀K,F K->∃x y z,F (λx' y' z'=>x'=x/\y'=y/\z'=z)/\K x y z
theorem F7(x:α)(y:γ)(z:δ):Nr λK:α->γ->δ->Prop=>K x y z:=⟨λ_ _ h hk=>h _ _ _ hk,λ_ hk=>⟨x,y,z,⟨rfl,rfl,rfl⟩,hk⟩⟩
theorem It:Nr λ_:α->γ->δ->Prop=>False:=⟨λ_ _ _ h=>h,λ_ h=>h.elim⟩
theorem XN{ε:Type}{F:(α->γ->δ->Prop)->Prop}{e:α->γ->δ->(ε->Prop)->Prop}(d:Nr F)(f:∀x y z,DK (e x y z)):DK λK:ε->Prop=>F λx y z=>e x y z K:=by
 refine⟨λK l h hk=>d.1 _ _ (λx y z hx=>(f x y z).1 _ _ h hx) hk,λK hk=>?_⟩;obtain⟨x,y,z,g,i⟩:=d.2 _ hk;obtain⟨u,j,k⟩:=(f x y z).2 _ i;exact⟨u,d.1 _ _ (λa b c h=>by obtain⟨rfl,rfl,rfl⟩:=h;exact j) g,k⟩
theorem Ml{ε ζ η:Type}{F:(α->γ->δ->Prop)->Prop}{e:α->γ->δ->(ε->ζ->η->Prop)->Prop}(d:Nr F)(f:∀x y z,Nr (e x y z)):Nr λK:ε->ζ->η->Prop=>F λx y z=>e x y z K:=by
 refine⟨λK l h hk=>d.1 _ _ (λx y z hx=>(f x y z).1 _ _ h hx) hk,λK hk=>?_⟩;obtain⟨x,y,z,g,i⟩:=d.2 _ hk;obtain⟨u,v,t,j,k⟩:=(f x y z).2 _ i;exact⟨u,v,t,d.1 _ _ (λa b c h=>by obtain⟨rfl,rfl,rfl⟩:=h;exact j) g,k⟩
theorem QJ{ε ζ η:Type}{F:(α->γ->Prop)->Prop}{d:α->γ->(ε->ζ->η->Prop)->Prop}(c:Fy F)(e:∀x y,Nr (d x y)):Nr λK:ε->ζ->η->Prop=>F λx y=>d x y K:=by
 refine⟨λK k h hk=>c.1 _ _ (λx y hx=>(e x y).1 _ _ h hx) hk,λK hk=>?_⟩;obtain⟨x,y,f,g⟩:=c.2 _ hk;obtain⟨u,v,t,i,j⟩:=(e x y).2 _ g;exact⟨u,v,t,c.1 _ _ (λa b h=>by obtain⟨rfl,rfl⟩:=h;exact i) f,j⟩
theorem Tr{ε ζ η:Type}{F:(α->Prop)->Prop}{c:α->(ε->ζ->η->Prop)->Prop}(b:DK F)(d:∀x,Nr (c x)):Nr λK:ε->ζ->η->Prop=>F λx=>c x K:=by
 refine⟨λK j h hk=>b.1 _ _ (λx hx=>(d x).1 _ _ h hx) hk,λK hk=>?_⟩;obtain⟨x,e,f⟩:=b.2 _ hk;obtain⟨u,v,t,g,i⟩:=(d x).2 _ f;exact⟨u,v,t,b.1 _ _ (λa h=>by subst h;exact g) e,i⟩
theorem Cq{β:Type}(l:List β):DK λK:List β->Prop=>CN l K:=by simp only[BW];exact Ak l
end
theorem Lz:∀l:List D,DK λK=>Ps l K
 | []=>Ak _
 | x :: r=>by
   unfold Ps;refine A0 (Lz r) λr=>?_;split<;>exact Ak _
theorem L0(x:D):DK λK=>Qs x K:=by
 cases x<;>simp only[Qs]<;>first|exact Ak _|exact A0 (Lz _) λl=>Ak _
theorem Pl(r:RV):Fy λK=>Zd r K:=by cases r<;>simp only[Zd]<;>first|exact Bm _ _|exact Ch
theorem cX(r:RV):Fy λK=>qm r K:=by
 unfold qm;exact B9 (Pl r) λx b=>Is (L0 x) λy=>Bm _ _
theorem Iu(σ:Nat->Nat->RV):∀l,Fy λK=>Ea σ l K
 | []=>Bm _ _
 | .d x :: r=>by
   show Fy λK=>Ea σ r λl b=>K (x :: l) b;exact B9 (Iu σ r) λl b=>Bm _ _
 | .sl id n :: r=>by
   show Fy λK=>Zd (σ id n) λx b=>Ea σ r λl a=>K (x :: l) (b++a);exact B9 (Pl _) λx b=>B9 (Iu σ r) λl b=>Bm _ _
 | .own _ _ _ :: _=>Ch
theorem Mn:∀l:List D,DK λK=>bC l K
 | []=>Ak _
 | x :: r=>by
   show DK λK=>bC r λr=>K (.d x :: r);exact A0 (Mn r) λr=>Ak _
theorem XP:∀l:List D,DK λK=>X0 l K
 | []=>Ak _
 | x :: r=>by
   show DK λK=>X0 r λr=>K (.d x :: r);exact A0 (XP r) λr=>Ak _
theorem NB(σ:Nat->Nat->RV)(r:RV):Fy λK=>Nv σ r K:=by
 cases r<;>simp only[Nv]<;>first|exact Bm _ _|exact Ch|skip
 ·exact Is (L0 _) λx=>Bm _ _
 ·exact B9 (Iu σ _) λl b=>Is (Lz _) λl=>Is (Cq _) λa=>Bm _ _
 ·exact Is (RE _ _) λx=>Is (Cq _) λl=>Bm _ _
 ·exact B9 (Iu σ _) λl b=>Is (Lz _) λl=>Bm _ _
theorem XR(P:Program)(t:TypeId):DK λK=>Z7 P t K:=by
 unfold Z7;split
 ·exact Ak _
 ·exact Af
theorem Oz(P:Program)(σ:Nat->Nat->RV)(ρ:Operand->RV):∀l ts,Fy λK=>Ij P σ ρ l ts K
 | [],_=>Bm _ _
 | x :: r,ts=>by
   unfold Ij;split
   ·split
    ·exact Is (XR _ _) λv=>B9 (Oz P σ ρ r _) λvs a=>Bm _ _
    ·exact Ch
   ·exact B9 (NB _ _) λv b=>B9 (Oz P σ ρ r _) λvs a=>Bm _ _
theorem Zy(σ:Nat->Nat->RV):∀l,Nr λK=>Sd σ l K
 | []=>It
 | .d x :: r=>by
   show Nr λK=>Qs x λx=>Sd σ r λl id n=>K (.d x :: l) id n;exact Tr (L0 _) λx=>Ml (Zy σ r) λl id n=>F7 _ _ _
 | .sl id n :: r=>by
   simp only[Sd];split
   ·split
    ·exact F7 _ _ _
    ·exact It
   ·exact It
 | .own _ _ _ :: _=>It
theorem Tv:∀l,Nr λK=>Wo l K
 | []=>It
 | .d _ :: r=>Tv r
 | .sl _ _ :: r=>Tv r
 | .own sz e xs :: r=>by
   simp only[Wo];split
   ·exact F7 _ _ _
   ·exact It
theorem cZ(σ:Nat->Nat->RV)(r:RV):Nr λK=>Tz σ r K:=by
 unfold Tz;split
 ·exact F7 _ _ _
 ·exact QJ (Iu σ _) λl b=>Tr (Lz _) λl=>F7 _ _ _
 ·split
  ·exact Ml (Zy σ _) λl id n=>F7 _ _ _
  ·exact QJ (NB σ _) λv b=>F7 _ _ _
 ·exact QJ (NB σ _) λv b=>F7 _ _ _
theorem PL(P:Program)(σ:Nat->Nat->RV)(ρ:Operand->RV):∀l ts,Nr λK=>Hh P σ ρ l ts K
 | [],_=>F7 _ _ _
 | x :: r,ts=>by
   unfold Hh;split
   ·split
    ·exact Tr (XR _ _) λv=>Ml (PL P σ ρ r _) λvs a us=>F7 _ _ _
    ·exact It
   ·exact Ml (cZ _ _) λv b u=>Ml (PL P σ ρ r _) λvs a us=>F7 _ _ _
theorem QO(ρ:Operand->RV):∀l,Fy λK=>M4 ρ l K
 | []=>Bm _ _
 | (i,x) :: r=>by
   show Fy λK=>Zd (ρ x) λv b=>M4 ρ r λvs a=>K ((i,v) :: vs) (b++a);exact B9 (Pl (ρ x)) λv b=>B9 (QO ρ r) λvs a=>Bm _ _
theorem Wm(ρ:Operand->RV):∀l,Fy λK=>NJ ρ l K
 | []=>Bm _ _
 | (i,x) :: r=>by
   show Fy λK=>qm (ρ x) λv b=>NJ ρ r λvs a=>K ((i,v) :: vs) (b++a);exact B9 (cX (ρ x)) λv b=>B9 (Wm ρ r) λvs a=>Bm _ _
theorem QL(σ:Nat->Nat->RV)(ρ:Operand->RV):∀l,Fy λK=>J2 σ ρ l K
 | []=>Bm _ _
 | x :: r=>by
   unfold J2;refine B9 (NB σ (ρ x)) λv b=>?_;split
   ·exact RD _ (B9 (QL σ ρ r) λl a=>Bm _ _)
   ·exact Ch
theorem QK(σ:Nat->Nat->RV)(ρ:Operand->RV):∀l,Fy λK=>J1 σ ρ l K
 | []=>Bm _ _
 | x :: r=>by
   unfold J1;split
   ·exact B9 (QK σ ρ r) λl a=>Bm _ _
   ·refine B9 (NB σ (ρ x)) λv b=>?_;split
    ·exact RD _ (B9 (QK σ ρ r) λl a=>Bm _ _)
    ·exact Ch
theorem az(r:RV):DK λK=>cellsOf r K:=by
 cases r<;>simp only[cellsOf]<;>first|exact Ak _|exact Af|exact Mn _
theorem Wl(ρ:Operand->RV):∀l,DK λK=>NI ρ l K
 | []=>Ak _
 | (i,x) :: r=>by
   unfold NI;exact A0 (az _) λc=>A0 (Wl ρ r) λa=>Ak _
theorem fD(P:Program)(f:FuncId)(args:List AV)(k sz:Nat)(e:TypeId)(xs:List D):DK λK=>bH P f args k sz e xs K :=
 ⟨λ_ _ h hk=>by obtain⟨ys,a,b⟩:=hk.go;exact⟨⟨ys,a,h _ b⟩⟩,λ_ hk=>by obtain⟨ys,a,b⟩:=hk.go;exact⟨ys,⟨⟨ys,a,rfl⟩⟩,b⟩⟩
theorem f9(P:Program)(f:FuncId)(args:List AV)(k:Nat)(cs:List C):Fy λK=>lj P f args k cs K :=
 ⟨λ_ _ h hk=>by obtain⟨a,r,b,c⟩:=hk.go;exact⟨⟨a,r,b,h _ _ c⟩⟩,λ_ hk=>by obtain⟨a,r,b,c⟩:=hk.go;exact⟨a,r,⟨⟨a,r,b,rfl,rfl⟩⟩,c⟩⟩
theorem Ts(ρ:Operand->RV)(k:Nat):∀l i,DK λK=>N9 ρ k l i K
 | [],_=>Ak _
 | x :: r,i=>by
   unfold N9;split
   ·exact A0 (Ts ρ k r _) λl=>Ak _
   ·split
    ·exact A0 (L0 _) λy=>A0 (Ts ρ k r _) λl=>Ak _
    ·exact Af
theorem QM(σ:Nat->Nat->RV):∀l,DK λK=>IV σ l K
 | []=>Ak _
 | c :: r=>by
   unfold IV;split
   ·exact A0 (L0 _) λx=>A0 (QM σ r) λl=>Ak _
   ·split
    ·exact A0 (QM σ r) λl=>Ak _
    ·exact Af
   ·exact Af
theorem Tt:∀l a,Fy λK=>Sz l a K
 | [],[]=>Bm _ _
 | [],c :: r=>by cases c<;>exact Ch
 | c :: r,[]=>by cases c<;>exact Ch
 | c :: r,c' :: r'=>by
   cases c with
   | own _ _ _=>cases c'<;>exact Ch
   | d x =>
     cases c' with
     | sl _ _=>exact Ch
     | own _ _ _=>exact Ch
     | d y =>
       show Fy λK=>Sz r r' λl b=>K (.d y :: l) b;exact B9 (Tt r r') λl b=>Bm _ _
   | sl q n =>
     cases c' with
     | sl _ _=>exact Ch
     | d _=>exact Ch
     | own sz e ys =>
       show Fy λK=>Sz r r' λl b=>if FH q b=true then K (.sl q (n+1) :: l) ((q,.row sz e ys,n+1) :: b)else False
       exact B9 (Tt r r') λl b=>RD (FH q b=true) (Bm (C.sl q (n+1) :: l) ((q,BJ.row sz e ys,n+1) :: b))
theorem mu{α:Type}{F:(α->Prop)->Prop}(c:Prop)[Decidable c](a:DK F):DK λK:α->Prop=>if c then False else F K:=by
 by_cases h:c
 ·simp only[h,if_true];exact Af
 ·simp only[h,if_false];exact a
theorem Wk(r:RV):Fy λK=>OK r K:=by
 unfold OK;split<;>first|exact Bm _ _|exact Ch
theorem U0(P:Program)(t:TypeId)(cs:List D):DK λK=>dj P t cs K:=by
 unfold dj;split
 ·split
  ·exact A0 (Cq _) λl=>Bn _ (Ak _)
  ·exact Af
 ·split
  ·exact Ak _
  ·exact Af
 ·exact Af
theorem mt(P:Program)(σ:Nat->Nat->RV)(t:TypeId)(cs:List C):DK λK=>oD P σ t cs K:=by
 unfold oD;split
 ·split
  ·refine A0 (Cq _) λl=>Bn _ ?_;split
   ·exact Cm (Iu σ _) λl b=>Ak _
   ·exact Mm (Cm (Iu σ _) λl b=>Ak _) (Bn _ (Ak _))
  ·exact Af
 ·split<;>first|exact Ak _|exact Af
 ·exact Af
theorem f7(c:BinOp)(k:IntKind)(a b:Int):DK λK=>Xs c k a b K:=by
 cases c<;>simp only[Xs]<;>first|exact Ak _|exact Af|exact C6 _ (Ak _)
theorem Wn(c:BinOp)(k:IntKind)(a b:Int):DK λK=>V7 c k a b K:=by
 cases c<;>simp only[V7]<;>first|exact C6 _ (Ak _)|exact Af
theorem jM(c:BinOp)(a b:ByteArray):DK λK=>gH c a b K:=by
 cases c<;>simp only[gH]<;>first|exact Ak _|exact Af|exact C6 _ (Ak _)
theorem XQ(P:Program):∀(n:Nat)(t:TypeId)(xs ys:List D),DK λK=>cI P n t xs ys K
 | 0,_,_,_=>Af
 | n+1,t,xs,ys=>by
   unfold cI;split
   ·split
    ·exact Bn _ (Ak _)
    ·exact Af
   ·split
    ·exact Ak _
    ·exact Af
   ·split
    ·exact Ak _
    ·exact Af
   ·rename_i c _
    refine C6 _ ?_;generalize c.toList=l
    induction l with
    | nil=>exact Ak _
    | cons f r ih=>exact A0 (XQ P n f.type _ _) λa=>A0 ih λb=>Ak _
   ·exact Af
theorem jK(P:Program)(t:TypeId)(a:BinOp)(x y:D):DK λK=>bO P t a x y K:=by
 unfold bO;split
 ·split
  ·exact Wn _ _ _ _
  ·exact Wn _ _ _ _
  ·exact Bn _ (f7 _ _ _ _)
 ·exact jM _ _ _
 ·split
  ·split<;>first|exact Ak _|exact Af
  ·exact Af
 ·refine C6 _ ?_;split
  ·exact A0 (XQ _ _ _ _ _) λb=>Ak _
  ·exact A0 (XQ _ _ _ _ _) λb=>Ak _
  ·exact Af
 ·exact Af
theorem mw(a:UnOp)(x:D):DK λK=>rJ a x K:=by
 cases a<;>cases x<;>simp only[rJ]<;>first|exact Ak _|exact Af
theorem fB(r:AV)(b:Bx):DK λK=>dw r b K:=by
 unfold dw;split
 ·exact Ak _
 ·split<;>exact Ak _
theorem Tu:∀(l:List C)(a:List (Nat×Nat)),Fy λK=>S5 l a K
 | [],[]=>Bm _ _
 | .d x :: r,a=>by
   unfold S5;exact B9 (Tu r a) λl b=>Bm _ _
 | .own sz e xs :: r,(h,n) :: a=>by
   unfold S5;exact B9 (Tu r a) λl b=>RD _ (Bm _ _)
 | [],_ :: _=>Ch
 | .own _ _ _ :: _,[]=>Ch
 | .sl _ _ :: _,a=>by unfold S5;exact Ch
theorem cY(d n:Nat)(r:AV)(b:Bx):DK λK=>jO d n r b K:=by
 unfold jO;split
 ·exact Bn _ (Ak _)
 ·exact Bn _ (A0 (Mn _) λl=>Ak _)
 ·split
  ·exact Ak _
  ·exact fA λa=>Cm (Tu _ _) λl c=>Bn _ (Ak _)
 ·split
  ·exact Bn _ (Ak _)
  ·exact Af
 all_goals first|exact Ak _|exact Af
theorem NC:∀(us:List (Option (Nat×Nat)))(os:List AV),DK λK=>MG us os K
 | [],[]=>Ak _
 | none :: us,o :: os=>by
   unfold MG;exact NC us os
 | some (id,n) :: us,o :: os=>by
   cases o<;>simp only[MG]<;>first|exact Af|exact A0 (NC us os) (λb=>Bn _ (Ak _))|exact A0 (Mn _) λl=>A0 (NC us os) (λb=>Bn _ (Ak _))|exact XN (Tv _) λ_ _ _=>A0 (NC us os) (λb=>Bn _ (Ak _))
 | [],_ :: _=>by simp only[MG];exact Af
 | _ :: _,[]=>by simp only[MG];exact Af
theorem fE(P:Program)(t:TypeId):DK λK=>ZL P t K:=by
 unfold ZL;split
 ·split
  ·exact A0 (Lz _) λl=>Ak _
  ·split
   ·exact L0 _
   ·exact Af
  ·exact Af
 ·exact Af
theorem QN(ρ:Operand->RV)(x:Option Operand)(n:Int):DK λK=>eJ ρ x n K:=by
 unfold eJ;split
 ·exact Ak _
 ·split
  ·exact Ak _
  ·exact Af
theorem O0(ρ:Operand->RV)(sz:Nat)(xs:List D)(lo a d:Option Operand)(b:Bx):DK λK=>M9 ρ sz xs lo a d b K:=by
 unfold M9;refine A0 (QN _ _ _) λl=>A0 (QN _ _ _) λh=>?_;split
 ·exact C6 _ (Ak _)
 ·by_cases c:a.isNone=true
  ·simp only[c,if_true];exact Af
  ·simp only[c,vI,if_false];split
   ·exact C6 _ (Ak _)
   ·exact Af
theorem YK(r:Option D)(z:D):Fy λK=>TO r z K :=
 ⟨λ_ _ h hk=>by obtain⟨v,b,a,c,d⟩:=hk.go;exact⟨⟨v,b,a,c,h _ _ d⟩⟩,λ_ hk=>by obtain⟨v,b,a,c,d⟩:=hk.go;exact⟨v,b,⟨⟨v,b,a,c,⟨rfl,rfl⟩⟩⟩,d⟩⟩
theorem fC(P:Program)(a c:TypeId)(x d:RV)(ok:Bool):DK λK=>iJ P a c x d ok K:=by
 unfold iJ;split
 ·split
  ·split
   ·refine C6 _ ?_;split
    ·refine Cm (YK _ _) λv b=>?_;split
     ·exact Ak _
     ·exact Ak _
    ·exact Af
   ·exact Af
  ·exact Af
 ·exact Af
theorem jN(P:Program)(a:TypeId)(m k x:RV):DK λK=>qa P a m k x K:=by
 unfold qa;split
 ·split
  ·split
   ·split
    ·exact C6 _ (Ak _)
    ·exact Af
   ·exact Af
  ·exact Af
 ·exact Af
set_option maxHeartbeats 1000000 in
theorem XO(P:Program)(σ:Nat->Nat->RV)(ρ:Operand->RV)(c:Call)(f:FuncId)(a:List D)(d dv:Nat):DK λK=>TZ P σ ρ c f a d dv K:=by
 unfold TZ;refine A0 (XP _) λcv=>Cm (Oz _ _ _ _ _) λvs e=>XN (PL _ _ _ _ _) λg h us=>?_;exact jL (λr=>A0 (fB _ _) λb=>cY _ _ _ _) λo r=>A0 (NC _ _) λub=>Bn _ (cY _ _ _ _)
theorem i8(P:Program)(σ:Nat->Nat->RV)(ρ:Option (Nat×Bool)->Operand->RV)(g:Option (Nat×Bool))(o:Oper)(d n:Nat):DK λK=>yA P σ ρ g o d n K:=by
 unfold yA;split
 ·exact Ak _
 ·split
  ·split
   ·exact Bn _ (Ak _)
   ·exact Af
  ·exact Ak _
 ·split
  ·exact Ak _
  ·split
   ·split
    ·exact Ak _
    ·exact Af
   ·split
    ·exact Ak _
    ·exact Ak _
    ·exact Af
   ·exact Af
  ·exact Af
 ·split
  ·exact Ak _
  ·exact Ak _
  ·exact Cm (Pl _) λv b=>A0 (Mn _) λl=>Ak _
 ·split
  ·exact A0 (Mn _) λl=>Ak _
  ·exact Af
 ·split
  ·split
   ·refine Bn _ ?_;split
    ·refine Cm (QO _ _) λa b=>?_;split
     ·exact A0 (Cq _) λl=>Ak _
     ·exact Af
    ·refine Mm ?_ ?_
     ·refine Cm (QO _ _) λa b=>?_;split
      ·exact A0 (Cq _) λl=>Ak _
      ·exact Af
     ·refine A0 (Mn _) λf=>A0 (Wl _ _) λa=>?_;split
      ·exact A0 (Cq _) λl=>Ak _
      ·exact Af
   ·exact Af
  ·exact Af
 ·split
  ·refine Cm (Wm _ _) λa b=>?_;split
   ·exact A0 (Cq _) λl=>Bn _ (Ak _)
   ·exact Af
  ·exact Af
 ·split
  ·split
   ·split
    ·exact Bn _ (A0 (fE _ _) λz=>C6 _ (Ak _))
    ·exact Af
   ·exact Af
  ·exact Af
 ·split
  ·split
   ·exact Cm (QL _ _ _) λl b=>Ak _
   ·exact Mm (Cm (QL _ _ _) λl b=>Ak _) (Cm (QK _ _ _) λl b=>Ak _)
  ·exact Af
 ·split
  ·exact Ak _
  ·exact mt _ _ _ _
  ·exact A0 (U0 _ _ _) λx=>Ak _
  ·exact A0 (RE _ _) λx=>A0 (U0 _ _ _) λx=>Ak _
  ·exact Af
 ·refine Bn _ ?_;split
  ·split
   ·split
    ·exact Bn _ (A0 (Cq _) λl=>Ak _)
    ·exact Cm (Pl _) λv b=>Bn _ (A0 (Mn _) λl=>A0 (Cq _) λl=>Ak _)
   ·refine Bn _ ?_;split
    ·exact A0 (Cq _) λl=>Ak _
    ·exact Cm (Pl _) λv b=>Bn _ (A0 (Cq _) λl=>Ak _)
   ·exact Af
  ·refine Cm (cX _) λv b=>A0 (RE _ _) λy=>Bn _ ?_;split
   ·exact A0 (Cq _) λl=>Ak _
   ·exact Bn _ (Ak _)
  ·exact Af
 ·split<;>first|exact Ak _|exact Af
 ·split
  ·exact Ak _
  ·split
   ·exact Ak _
   ·exact A0 (jK _ _ _ _ _) λx=>Ak _
   ·exact Af
  ·exact Af
 ·split
  ·exact Ak _
  ·exact A0 (mw _ _) λx=>Ak _
  ·exact Af
 ·split
  ·split
   ·split<;>first|exact Ak _|exact Af
   ·split<;>first|exact Ak _|exact Af
   ·split
    ·split<;>first|exact Ak _|exact Af
    ·exact Af
   ·exact Af
  ·exact Af
 ·split
  ·split
   ·refine Bn _ ?_;split
    ·exact Ak _
    ·exact Ak _
    ·exact A0 (Cq _) λl=>Ak _
    ·exact Ak _
    ·exact Af
   ·exact Af
  ·exact Af
 ·split
  ·split
   ·split
    ·exact Ak _
    ·exact A0 (U0 _ _ _) λx=>Ak _
    ·exact Af
   ·exact Af
  ·exact Af
 ·split
  ·split
   ·split
    ·exact Bn _ (A0 (RE _ _) λx=>A0 (Cq _) λl=>Ak _)
    ·exact Bn _ (A0 (RE _ _) λx=>A0 (Cq _) λl=>Ak _)
    ·exact Bn _ (C6 _ (Ak _))
    ·exact Af
   ·exact Af
  ·split
   ·split
    ·exact Bn _ (C6 _ (A0 (RE _ _) λx=>Ak _))
    ·exact Bn _ (C6 _ (Ak _))
    ·exact Af
   ·exact Af
  ·exact Af
 ·split
  ·split
   ·split
    ·exact Bn _ (C6 _ (A0 (U0 _ _ _) λx=>Ak _))
    ·exact Af
   ·exact Af
  ·split
   ·split
    ·exact C6 _ (Ak _)
    ·exact Af
   ·exact Af
  ·exact Af
 ·split
  ·split
   ·split
    ·exact A0 (QN _ _ _) λl=>A0 (QN _ _ _) λh=>C6 _ (Ak _)
    ·exact Af
   ·exact Af
  ·split
   ·exact Bn _ (O0 _ _ _ _ _ _ _)
   ·exact Bn _ (O0 _ _ _ _ _ _ _)
   ·exact Bn _ (O0 _ _ _ _ _ _ _)
   ·refine Bn _ (Mm (O0 _ _ _ _ _ _ _) ?_);split
    ·split
     ·exact A0 (QN _ _ _) λh=>C6 _ (Ak _)
     ·exact Af
    ·exact Af
   ·exact Af
  ·exact Af
 ·split
  ·split
   ·split
    ·exact XO _ _ _ _ _ _ _ _
    ·refine Mm ?_ (XO _ _ _ _ _ _ _ _);split
     ·exact A0 (Ts _ _ _ _) λvs=>A0 (QM _ _) λcs=>Cm (f9 _ _ _ _ _) λc r=>Cm (Tt _ _) λl ub=>Bn _ (Ak _)
     ·exact Af
   ·split
    ·refine Cm (Oz _ _ _ _ _) λvs i=>?_;split
     ·exact A0 (Cq _) λcv=>A0 (fD _ _ _ _ _ _ _) λys=>mu _ (Ak _)
     ·exact Af
    ·exact Af
   ·exact Af
  ·split
   ·split
    ·split<;>first|exact Ak _|exact Af
    ·split
     ·exact Ak _
     ·exact Cm (Wk _) λ_ xs=>Ak _
    ·exact Af
   ·exact Af
  ·split
   ·split
    ·split<;>first|exact Ak _|exact Af
    ·exact Af
   ·exact Af
  ·split
   ·split
    ·split<;>first|exact Ak _|exact Af
    ·exact Af
   ·exact Af
  ·split
   ·split
    ·refine Bn _ (Cm (Wk _) λe ys=>?_);dsimp only;split
     ·exact Bn _ (C6 _ (Ak _))
     ·exact C6 _ (Ak _)
     ·exact Bn _ (C6 _ (Ak _))
     ·exact Af
    ·exact Af
   ·exact Af
  ·exact Af
 ·split
  ·split<;>first|exact Ak _|exact Af
  ·exact Af
 ·split
  ·exact Ak _
  ·exact Af
 ·split
  ·exact fC _ _ _ _ _ _
  ·exact Af
 ·split
  ·exact jN _ _ _ _ _
  ·exact Af
 ·exact Af
def ZP(σ σ':Nat->Nat->RV)(r:RV):Prop:=(∀id n o cs,r=.vptr id n o cs->∀id' n',C.sl id' n'∈cs->σ id' n'=σ' id' n')/\(∀f cs k id n rid rn,r=.clo f cs k id n rid rn->σ rid rn=σ' rid rn)/\∀cs,r=.cagg cs->∀id' n',C.sl id' n'∈cs->σ id' n'=σ' id' n'
section
variable {P:Program} {σ σ':Nat->Nat->RV} {ρ ρ':Operand->RV}
theorem I8:∀{l:List C}{K:List D->Bx->Prop},(∀id n,C.sl id n∈l->σ id n=σ' id n)->Ea σ l K=Ea σ' l K
 | [],_,_=>rfl
 | .d x :: r,K,h=>by
   simp only[Ea];exact I8 λid n hm=>h id n (by simp[hm])
 | .sl id n :: r,K,h=>by
   simp only[Ea];rw[h id n (by simp)];congr 1;funext x b;exact I8 λid n hm=>h id n (by simp[hm])
 | .own _ _ _ :: _,_,_=>rfl
theorem Ma{r:RV}{K:AV->Bx->Prop}(h:ZP σ σ' r):Nv σ r K=Nv σ' r K:=by
 cases r<;>try rfl
 case vptr id n o cs=>exact I8 (h.1 id n o cs rfl)
 case cagg cs=>exact I8 (h.2.2 cs rfl)
theorem Xq:∀{l:List C}{K:List C->Nat->Nat->Prop},(∀id n,C.sl id n∈l->σ id n=σ' id n)->Sd σ l K=Sd σ' l K
 | [],_,_=>rfl
 | .d x :: r,K,h=>by
   have ih:∀{K:List C->Nat->Nat->Prop},Sd σ r K=Sd σ' r K:=Xq λid n hm=>h id n (by simp[hm]);simp only[Sd,ih]
 | .sl id n :: r,K,h=>by
   simp only[Sd];rw[h id n (by simp)]
 | .own _ _ _ :: _,_,_=>rfl
theorem aP{r:RV}{K:AV->Bx->Option (Nat×Nat)->Prop}(h:ZP σ σ' r):Tz σ r K=Tz σ' r K:=by
 cases r<;>try rfl
 case cagg cs =>
  show(match XW cs with|true=>Sd σ cs λl id n=>K (.cc none l) [] (some (id,n))|false=>Nv σ (.cagg cs) λv b=>K v b none)=(match XW cs with|true=>Sd σ' cs λl id n=>K (.cc none l) [] (some (id,n))|false=>Nv σ' (.cagg cs) λv b=>K v b none)
  cases XW cs with
  | true=>exact Xq (h.2.2 cs rfl)
  | false=>exact Ma h
 case vptr id n o cs =>
  cases o with
  | zero=>exact I8 (h.1 id n 0 cs rfl)
  | succ o =>
    show Nv σ (.vptr id n (o+1) cs) (λv b=>K v b none)=Nv σ' (.vptr id n (o+1) cs) (λv b=>K v b none);exact Ma h
theorem TU:∀{l:List Operand}{ts:List TypeId}{K:List AV->Bx->Prop},(∀x∈l,ρ x=ρ' x/\ZP σ σ' (ρ' x))->Ij P σ ρ l ts K=Ij P σ' ρ' l ts K
 | [],_,_,_=>rfl
 | x :: r,ts,K,h=>by
   have ih:∀{ts:List TypeId}{K:List AV->Bx->Prop},Ij P σ ρ r ts K=Ij P σ' ρ' r ts K:=TU λy hy=>h y (by simp[hy]);simp only[Ij,ih];rw[(h x (by simp)).1,Ma (h x (by simp)).2]
theorem S9:∀{l:List Operand}{ts:List TypeId}{K:List AV->Bx->List (Option (Nat×Nat))->Prop},(∀x∈l,ρ x=ρ' x/\ZP σ σ' (ρ' x))->Hh P σ ρ l ts K=Hh P σ' ρ' l ts K
 | [],_,_,_=>rfl
 | x :: r,ts,K,h=>by
   have ih:∀{ts:List TypeId}{K:List AV->Bx->List (Option (Nat×Nat))->Prop},Hh P σ ρ r ts K=Hh P σ' ρ' r ts K:=S9 λy hy=>h y (by simp[hy]);simp only[Hh,ih];rw[(h x (by simp)).1,aP (h x (by simp)).2]
theorem Ud:∀{l:List Operand}{K:List D->Bx->Prop},(∀x∈l,ρ x=ρ' x/\ZP σ σ' (ρ' x))->J2 σ ρ l K=J2 σ' ρ' l K
 | [],_,_=>rfl
 | x :: r,K,h=>by
   have ih:∀{K:List D->Bx->Prop},J2 σ ρ r K=J2 σ' ρ' r K:=Ud λy hy=>h y (by simp[hy]);simp only[J2,ih];rw[(h x (by simp)).1,Ma (h x (by simp)).2]
theorem Wi:∀{l:List Operand}{i:Nat},(∀x∈l,ρ x=ρ' x)->MD ρ l i=MD ρ' l i
 | [],_,_=>rfl
 | x :: r,i,h=>by
   have ih:∀{i:Nat},MD ρ r i=MD ρ' r i:=Wi λy hy=>h y (by simp[hy]);simp only[MD,ih];rw[h x (by simp)]
theorem Wh{k:Nat}:∀{l:List Operand}{i:Nat}{K:List AV->Prop},(∀x∈l,ρ x=ρ' x)->N9 ρ k l i K=N9 ρ' k l i K
 | [],_,_,_=>rfl
 | x :: r,i,K,h=>by
   have ih:∀{i:Nat}{K:List AV->Prop},N9 ρ k r i K=N9 ρ' k r i K:=Wh λy hy=>h y (by simp[hy]);simp only[N9,ih];rw[h x (by simp)]
theorem Uz:∀{l:List C}{K:List C->Prop},(∀id n,C.sl id n∈l->σ id n=σ' id n)->IV σ l K=IV σ' l K
 | [],_,_=>rfl
 | c :: r,K,h=>by
   have ih:∀{K:List C->Prop},IV σ r K=IV σ' r K:=Uz λid n hm=>h id n (by simp[hm])
   cases c with
   | d x=>simp only[IV,ih]
   | sl id n=>simp only[IV,ih];rw[h id n (by simp)]
   | own _ _ _=>rfl
theorem Wv:∀{l:List Operand},(∀x∈l,ρ x=ρ' x)->UG ρ l=UG ρ' l
 | [],_=>rfl
 | x :: r,h=>by
   have ih:UG ρ r=UG ρ' r:=Wv λy hy=>h y (by simp[hy]);simp only[UG,ih,h x (by simp)]
theorem Uc:∀{l:List Operand}{K:List C->Bx->Prop},(∀x∈l,ρ x=ρ' x/\ZP σ σ' (ρ' x))->J1 σ ρ l K=J1 σ' ρ' l K
 | [],_,_=>rfl
 | x :: r,K,h=>by
   have ih:∀{K:List C->Bx->Prop},J1 σ ρ r K=J1 σ' ρ' r K:=Uc λy hy=>h y (by simp[hy]);simp only[J1,ih];rw[(h x (by simp)).1,Ma (h x (by simp)).2]
theorem Qa:∀{l:List C},(∀id n,C.sl id n∈l->σ id n=σ' id n)->Ru σ l=Ru σ' l
 | [],_=>rfl
 | .d _ :: r,h=>Qa (l:=r) λid n hm=>h id n (by simp[hm])
 | .sl id n :: r,h=>by simp only[Ru];rw[h id n (by simp),Qa (l:=r) λid n hm=>h id n (by simp[hm])]
 | .own _ _ _ :: _,_=>rfl
theorem jS{t:TypeId}{cs:List C}{K:Hn->Prop}(h:∀id n,C.sl id n∈cs->σ id n=σ' id n):oD P σ t cs K=oD P σ' t cs K:=by
 unfold oD;split
 ·split
  ·rename_i i _
   rw[BW,BW];have b:∀a:List D->Bx->Prop,Ea σ (cs.take i.size) a=Ea σ' (cs.take i.size) a:=λa=>I8 λid n hm=>h id n (vz hm);have c:=Qa (σ:=σ) (σ':=σ') (l:=cs.take i.size) λid n hm=>h id n (vz hm);simp only[b,c]
  ·rfl
 ·rfl
 ·rfl
theorem UJ:∀{l:List (Nat×Operand)}{K:List (Nat×D)->Bx->Prop},(∀x∈l,ρ x.2=ρ' x.2)->M4 ρ l K=M4 ρ' l K
 | [],_,_=>rfl
 | (i,x) :: r,K,h=>by
   simp only[M4];rw[h (i,x) (by simp)];congr 1;funext v b;exact UJ λy hy=>h y (by simp[hy])
theorem W7:∀{l:List (Nat×Operand)},(∀x∈l,ρ x.2=ρ' x.2)->US ρ l=US ρ' l
 | [],_=>rfl
 | (i,x) :: r,h=>by
   have ih:US ρ r=US ρ' r:=W7 λy hy=>h y (by simp[hy]);simp only[US,ih,h (i,x) (by simp)]
theorem UH:∀{l:List (Nat×Operand)}{K:List (Nat×List C)->Prop},(∀x∈l,ρ x.2=ρ' x.2)->NI ρ l K=NI ρ' l K
 | [],_,_=>rfl
 | (i,x) :: r,K,h=>by
   simp only[NI];rw[h (i,x) (by simp)];congr 1;funext c;exact UH λy hy=>h y (by simp[hy])
theorem UL:∀{l:List (Nat×Operand)}{K:List (Nat×D)->Bx->Prop},(∀x∈l,ρ x.2=ρ' x.2)->NJ ρ l K=NJ ρ' l K
 | [],_,_=>rfl
 | (i,x) :: r,K,h=>by
   simp only[NJ];rw[h (i,x) (by simp)];congr 1;funext v b;exact UL λy hy=>h y (by simp[hy])
theorem RH{x:Option Operand}{n:Int}{K:Int->Prop}(h:∀y,x=some y->ρ y=ρ' y):eJ ρ x n K=eJ ρ' x n K:=by
 cases x with
 | none=>rfl
 | some x=>unfold eJ;simp only;rw[h x rfl]
theorem bh{sz:Nat}{xs:List D}{lo c a:Option Operand}{b:Bx}{K:Hn->Prop}(d:∀y,lo=some y->ρ y=ρ' y)(e:∀y,c=some y->ρ y=ρ' y)(f:∀y,a=some y->ρ y=ρ' y) :
 M9 ρ sz xs lo c a b K=M9 ρ' sz xs lo c a b K:=by
 unfold M9;rw[RH d];congr 1;funext l;rw[RH e];congr 1;funext h
 cases a with
 | none=>rfl
 | some m=>simp only;rw[f m rfl]
end
set_option maxHeartbeats 1000000 in
theorem o7{P:Program}{σ σ':Nat->Nat->RV}{ρ v:Option (Nat×Bool)->Operand->RV}{g:Option (Nat×Bool)}{o:Oper}{d n N:Nat}{K:Hn->Prop}
 (h:∀O x,x∈o.op.operands.toList->ρ O x=v O x) (H:∀O x,x∈o.op.operands.toList->ZP σ σ' (v O x)) (Y:dB o.op=true->n=N) (hy:yA P σ ρ g o d n K):yA P σ' v g o d N K:=by
 have z:∀{c:Bool},dB o.op=c->c=true->n=N:=λQ I=>Y (Q.trans I);unfold yA at hy ⊢;split at hy
 ·rename_i x ho
  simp only[ho]at h ⊢;rw[h g x (by simp[Op.operands])]at hy;exact hy
 ·rename_i x ho
  have:=z (by rw[ho];rfl) rfl;subst this;simp only[ho]at h ⊢;rw[h g x (by simp[Op.operands])]at hy;exact hy
 ·rename_i t x y ho
  simp only[ho]at h ⊢;rw[h g (.tmp t) (by simp[Op.operands]),h (some (t,true)) x (by simp[Op.operands]),h (some (t,false)) y (by simp[Op.operands])]at hy;exact hy
 ·rename_i T x ho
  have:=z (by rw[ho];rfl) rfl;subst this;simp only[ho]at h ⊢;rw[h g x (by simp[Op.operands])]at hy;exact hy
 ·rename_i T ho
  have:=z (by rw[ho];rfl) rfl;subst this
  first|exact hy|(simp only[ho];exact hy)
 ·rename_i t parts ho
  simp only[ho]at h ⊢;have e:∀(r:List (Nat×D)->Bx->Prop),M4 (ρ g) parts.toList r=M4 (v g) parts.toList r:=λr=>UJ λx hx=>h g x.2 (by simp only[Op.operands];simp;exact⟨x.1,by simpa using hx⟩);have I:∀(r:List (Nat×List C)->Prop),NI (ρ g) parts.toList r=NI (v g) parts.toList r:=λr=>UH λx hx=>h g x.2 (by simp only[Op.operands];simp;exact⟨x.1,by simpa using hx⟩);have J:US (ρ g) parts.toList=US (v g) parts.toList:=W7 λx hx=>h g x.2 (by simp only[Op.operands];simp;exact⟨x.1,by simpa using hx⟩);simp only[e,I,J]at hy;exact hy
 ·rename_i t m parts ho
  have:=z (by rw[ho];rfl) rfl;subst this;simp only[ho]at h ⊢;have e:∀(r:List (Nat×D)->Bx->Prop),NJ (ρ g) parts.toList r=NJ (v g) parts.toList r:=λr=>UL λx hx=>h g x.2 (by simp only[Op.operands];simp;exact⟨x.1,by simpa using hx⟩);simp only[e]at hy;exact hy
 ·rename_i t l c ho
  have:=z (by rw[ho];rfl) rfl;subst this;simp only[ho]at h ⊢;rw[h g l (by simp[Op.operands]),h g c (by simp[Op.operands])]at hy;exact hy
 ·rename_i f first a ho
  simp only[ho]at h H ⊢
  have e:∀(r:List D->Bx->Prop),J2 σ (ρ g) a.toList r=J2 σ' (v g) a.toList r:=λr=>Ud λx hx=>by
   have F:x∈a:=by simpa using hx
   have A:x∈(Op.makeFunc (.func f) first a).operands.toList:=by simp[Op.operands,F]
   exact⟨h g x A,H g x A⟩
  have I:∀(r:List C->Bx->Prop),J1 σ (ρ g) a.toList r=J1 σ' (v g) a.toList r:=λr=>Uc λx hx=>by
   have F:x∈a:=by simpa using hx
   have A:x∈(Op.makeFunc (.func f) first a).operands.toList:=by simp[Op.operands,F]
   exact⟨h g x A,H g x A⟩
  have J:UG (ρ g) a.toList=UG (v g) a.toList:=Wv λx hx=>by
   have F:x∈a:=by simpa using hx
   exact h g x (by simp[Op.operands,F])
  simp only[e,I,J]at hy;exact hy
 ·rename_i t x ho
  simp only[ho]at h H ⊢;have B:=(H g x (by simp[Op.operands])).1;rw[h g x (by simp[Op.operands])]at hy;split at hy
  ·rename_i e;first|exact hy|(simp only[e];exact hy)
  ·rename_i id N o' cs e
   try simp only[e]
   rw[jS (σ':=σ') λi m A=>B _ _ _ _ e i m (vL A)]at hy;exact hy
  ·rename_i e;first|exact hy|(simp only[e];exact hy)
  ·rename_i e;first|exact hy|(simp only[e];exact hy)
  ·exact hy.elim
 ·rename_i t p x ho
  simp only[ho]at h ⊢;rw[h g p (by simp[Op.operands]),h g x (by simp[Op.operands])]at hy;exact hy
 ·rename_i x ho
  simp only[ho]at h ⊢;rw[h g x (by simp[Op.operands])]at hy;exact hy
 ·rename_i Z t x y U ho
  simp only[ho]at h ⊢;rw[h g x (by simp[Op.operands]),h g y (by simp[Op.operands])]at hy;exact hy
 ·rename_i Z t x ho
  simp only[ho]at h ⊢;rw[h g x (by simp[Op.operands])]at hy;exact hy
 ·rename_i s t x ho
  simp only[ho]at h ⊢;rw[h g x (by simp[Op.operands])]at hy;exact hy
 ·rename_i s x f ho
  simp only[ho]at h ⊢;rw[h g x (by simp[Op.operands])]at hy;exact hy
 ·rename_i s x f ho
  simp only[ho]at h ⊢;rw[h g x (by simp[Op.operands])]at hy;exact hy
 ·rename_i t x L ho
  simp only[ho]at h ⊢;rw[h g x (by simp[Op.operands]),h g L (by simp[Op.operands])]at hy;exact hy
 ·rename_i t x L ho
  simp only[ho]at h ⊢;rw[h g x (by simp[Op.operands]),h g L (by simp[Op.operands])]at hy;exact hy
 ·rename_i t x lo M R ho
  simp only[ho]at h ⊢;have E:∀y,lo=some y->ρ g y=v g y:=λy e=>h g y (by subst e;simp[Op.operands]);have B:∀y,M=some y->ρ g y=v g y:=λy e=>h g y (by subst e;simp[Op.operands]);have h3:∀y,R=some y->ρ g y=v g y:=λy e=>h g y (by subst e;simp[Op.operands]);rw[h g x (by simp[Op.operands])]at hy;have Q:∀{sz:Nat}{xs:List D}{b:Bx}{K:Hn->Prop},M9 (ρ g) sz xs lo M R b K=M9 (v g) sz xs lo M R b K:=bh E B h3;have I:∀{n:Int}{K:Int->Prop},eJ (ρ g) lo n K=eJ (v g) lo n K:=RH E;have J:∀{n:Int}{K:Int->Prop},eJ (ρ g) M n K=eJ (v g) M n K:=RH B;simp only[Q,I,J]at hy;exact hy
 ·rename_i c ho
  simp only[ho]at h H ⊢;split at hy
  ·rename_i X w
   have:=z (by rw[ho];simp only[dB,w]) rfl;subst this;have E:=h g X (by simp[Op.operands,Call.operands,w])
   have hx:∀x∈c.args.toList,ρ g x=v g x/\ZP σ σ' (v g x):=λx hx=>by
    have A:x∈(Op.call c).operands.toList:=by simp[Op.operands,Call.operands];exact .inr (by simpa using hx)
    exact⟨h g x A,H g x A⟩
   have e:∀(r:List AV->Bx->Prop),Ij P σ (ρ g) c.args.toList c.argTypes.toList r=Ij P σ' (v g) c.args.toList c.argTypes.toList r:=λr=>TU hx;have e':∀(r:List AV->Bx->List (Option (Nat×Nat))->Prop),Hh P σ (ρ g) c.args.toList c.argTypes.toList r=Hh P σ' (v g) c.args.toList c.argTypes.toList r:=λr=>S9 hx;have B:=(H g X (by simp[Op.operands,Call.operands,w])).2.1;have J:∀(f:FuncId)(a:List D)(d dv:Nat)(r:Hn->Prop),TZ P σ (ρ g) c f a d dv r=TZ P σ' (v g) c f a d dv r:=λf a d dv r=>by unfold TZ;simp only[e,e']
   have e4:MD (ρ g) c.args.toList 0=MD (v g) c.args.toList 0:=Wi λx A=>(hx x A).1;have e5:∀(k:Nat)(r:List AV->Prop),N9 (ρ g) k c.args.toList 0 r=N9 (v g) k c.args.toList 0 r:=λk r=>Wh λx A=>(hx x A).1;simp only[E,e,J,e4,e5]at hy
   try simp only[w]
   split at hy
   ·rename_i G
    try simp only[G]
    cases hgf:MD (v g) c.args.toList 0 with
    | none=>rw[hgf]at hy;exact hy
    | some q =>
      obtain⟨k,id,n1,cl⟩:=q;rw[hgf]at hy;obtain⟨j,x,_,S,V⟩:=QI hgf;have e6:∀(r:List C->Prop),IV σ cl r=IV σ' cl r:=λr=>Uz λi m A=>(hx x (uy S)).2.1 _ _ _ _ V i m A;simp only[e6]at hy;exact hy
   ·rename_i G
    rw[B _ _ _ _ _ _ _ G]at hy
    first|exact hy|(simp only[G];exact hy)
   ·exact hy.elim
  ·rename_i w
   try simp only[w]
   split at hy
   ·rename_i x t hx W
    have E:=h g x (by simp only[Op.operands,Call.operands,w];rw[ZV hx];simp);simp only[E]at hy
    try simp only[hx,W]
    exact hy
   ·exact hy.elim
  ·rename_i w
   try simp only[w]
   split at hy
   ·rename_i x y hx
    have E:=h g x (by simp only[Op.operands,Call.operands,w];rw[LM hx];simp);have B:=h g y (by simp only[Op.operands,Call.operands,w];rw[LM hx];simp);simp only[E,B]at hy
    try simp only[hx]
    exact hy
   ·exact hy.elim
  ·rename_i w
   try simp only[w]
   split at hy
   ·rename_i x y hx
    have E:=h g x (by simp only[Op.operands,Call.operands,w];rw[LM hx];simp);have B:=h g y (by simp only[Op.operands,Call.operands,w];rw[LM hx];simp);simp only[E,B]at hy
    try simp only[hx]
    exact hy
   ·exact hy.elim
  ·rename_i w
   have:=z (by rw[ho];simp only[dB,w]) rfl;subst this
   try simp only[w]
   split at hy
   ·rename_i x y t u hx W
    have E:=h g x (by simp only[Op.operands,Call.operands,w];rw[LM hx];simp);have B:=h g y (by simp only[Op.operands,Call.operands,w];rw[LM hx];simp);simp only[E,B]at hy
    try simp only[hx,W]
    exact hy
   ·exact hy.elim
  ·exact hy.elim
 ·rename_i t i ho
  simp only[ho]at h ⊢;rw[h g t (by simp[Op.operands])]at hy;exact hy
 ·rename_i t ho
  have:=z (by rw[ho];rfl) rfl;subst this;exact hy
 ·rename_i t x L ok ho
  simp only[ho]at h ⊢;rw[h g x (by simp[Op.operands]),h g L (by simp[Op.operands])]at hy;exact hy
 ·rename_i t m k x ho
  simp only[ho]at h ⊢;rw[h g m (by simp[Op.operands]),h g k (by simp[Op.operands]),h g x (by simp[Op.operands])]at hy;exact hy
 ·exact hy.elim
def WI(S T:AS)(t:Nat):Prop:=(Ag S t).av=(Ag T t).av
def Va(S T:AS)(b:Nat):Prop:=(Ag S b).box=(Ag T b).box/\(Ag S b).ver=(Ag T b).ver
theorem Xe:∀(S:AS)(d:Nat)(K:Nat->Prop),d<S.length->K (Ag S d).ver->VG S d K
 | [],_,_,h,_=>by grind
 | ⟨_,_,_⟩ :: _,0,_,_,h=>h
 | s :: r,d+1,K,hd,h=>Xe r d K (by grind) h
theorem lP{x:Option Nat}{K:Nat->Prop}(h:K (x.getD 0)):dK x K:=by cases x<;>exact h
theorem H1(g:Option (Nat×Bool))(v:AV):∀i∈Lf (rL g v),i∈Lf v:=by
 cases v<;>try (intro i a;exact a)
 case under t w y =>
  intro i a;simp only[rL]at a
  cases g with
  | none=>simp[Lf]at a
  | some p =>
    obtain⟨b,w'⟩:=p;simp only at a;split at a
    ·exact a
    ·simp[Lf]at a
theorem Kb:∀{cs:List C}{id n:Nat},C.sl id n∈cs->id∈Nx cs
 | [],_,_,h=>by grind
 | c :: r,id,n,h=>by
   rcases List.mem_cons.1 h with h|h
   ·subst h;simp[Nx]
   ·have:=Kb h
    cases c<;>simp[Nx,this]
theorem No{S T:AS}{v:AV}(h:∀i∈Lf v,Va S T i):res S v=res T v:=by
 cases v<;>try rfl
 case ptr id n o =>
  obtain⟨a,c⟩:=h id (by simp[Lf]);simp only[res];generalize Ag S id=s at *;generalize Ag T id=t at *;obtain⟨_,b,m⟩:=s;obtain⟨_,d,e⟩:=t;grind
 case sl id n =>
  obtain⟨a,c⟩:=h id (by simp[Lf]);simp only[res];generalize Ag S id=s at *;generalize Ag T id=t at *;obtain⟨_,b,m⟩:=s;obtain⟨_,d,e⟩:=t;grind
 case eptr id n sz i o =>
  obtain⟨a,c⟩:=h id (by simp[Lf]);simp only[res];generalize Ag S id=s at *;generalize Ag T id=t at *;obtain⟨_,b,m⟩:=s;obtain⟨_,d,e⟩:=t;grind
 case cc k xs =>
  cases k with
  | none=>rfl
  | some f =>
    simp only[res];split
    ·rename_i j id n hat
     obtain⟨a,c⟩:=h id (by simp only[Lf];exact Kb (uy (R0 hat)));generalize Ag S id=s at *;generalize Ag T id=t at *;obtain⟨_,b,m⟩:=s;obtain⟨_,d,e⟩:=t;grind
    ·rfl
def RR(S:AS)(all:List Oper)(o:Oper)(e:Hn):List Nat:=YG S (EQ all o) o++e.homes.map (·.1)
theorem S6{S T:AS}(c:S.length=T.length):∀{a:List (Nat×Nat)},(∀b∈a.map (·.1),Va S T b)->Hg S a=Hg T a
 | [],_=>rfl
 | (h,n) :: r,hb=>by
   simp only[Hg];rw[c,(hb h (by simp)).2,S6 c λb d=>hb b (by grind)]
theorem NG:∀{l:List Operand}{t:Nat},Operand.tmp t∈l->t∈Vt l
 | [],_,h=>by grind
 | x :: r,t,h=>by
   rcases List.mem_cons.1 h with h|h
   ·subst h;simp[Vt]
   ·have:=NG h
    cases x<;>simp[Vt,this]
section
variable {P:Program} {all:List Oper} {o:Oper}
theorem ρ_congr{S T:AS}(e:LU S o=false)(h:∀t∈EQ all o,WI S T t)(j:∀b∈YG S (EQ all o) o,Va S T b):∀g x,x∈o.op.operands.toList->ρOf S g x=ρOf T g x:=by
 intro g x hx;unfold ρOf
 cases x with
 | tmp t =>
   have c:t∈EQ all o:=by simp only[EQ,wg];exact .inr (NG hx)
   simp only[ev];have d:=h t c;unfold WI at d;rw[<-d];refine No λi a=>j i ?_;simp only[YG,e,wg,wn];exact .inr ⟨t,c,i,H1 g _ i a,by simp[iT]⟩
 | const v =>
   simp only[ev];refine No λi a=>?_;have:=H1 g _ i a
   exfalso
   revert this;unfold eZ;split<;>simp[Lf]
 | global q =>
   simp only[ev];refine No λi a=>?_;have:=H1 g _ i a
   exfalso
   revert this;split<;>simp[Lf]
 | func f =>
   simp only[ev];exact No λi a=>by have:=H1 g _ i a;simp[Lf]at this
theorem nI{S:AS}{v:AV}{id n o:Nat}{cs:List C}(h:res S v=.vptr id n o cs):id∈Lf v/\(Ag S id).box=.var cs:=by
 cases v<;>simp only[res]at h<;>try (cases h;done)
 case ptr id' n' o' =>
  split at h
  ·rename_i m a
   split at h
   ·cases h;exact⟨by simp[Lf],by rw[a]⟩
   ·cases h
  all_goals grind
 case sl id' n' =>
  grind
 case eptr =>
  grind
 grind
theorem pG{S:AS}{v:AV}{f:FuncId}{cs:List C}{k id n rid rn:Nat}(h:res S v=.clo f cs k id n rid rn):id∈Lf v/\(Ag S id).box=.var [.sl rid rn]:=by
 cases v<;>simp only[res]at h<;>try (cases h;done)
 case ptr a c o' =>
  grind
 case sl a c =>
  grind
 case eptr =>
  grind
 case cc k' xs =>
  cases k' with
  | none=>cases h
  | some f' =>
    simp only at h;split at h
    ·rename_i j a c b
     split at h
     ·rename_i i d e m g
      split at h
      ·cases h
       exact⟨by simp only[Lf];exact Kb (uy (R0 b)),by rw[g]⟩
      ·grind
     ·cases h
    ·cases h
theorem nH{S:AS}{v:AV}{cs:List C}(h:res S v=.cagg cs):v=.cc none cs:=by
 cases v<;>simp only[res]at h<;>try (cases h;done)
 case ptr id' n' o' =>
  grind
 case sl id' n' =>
  grind
 case eptr =>
  grind
 grind
theorem pM{S T:AS}(c:LU S o=false)(p:∀t∈EQ all o,WI S T t)(j:∀b∈YG S (EQ all o) o,Va S T b):∀g x,x∈o.op.operands.toList->ZP (σOf S) (σOf T) (ρOf T g x):=by
 intro g x hx
 have key:∀(id:Nat)(cs:List C),id∈Lf (rL g (ev S x))->(Ag S id).box=.var cs->∀a e,C.sl a e∈cs->σOf S a e=σOf T a e:=by
  intro id cs h r a e m;refine No λi l=>?_;simp only[Lf,vR]at l;subst l
  cases x with
  | tmp t =>
    have s:t∈EQ all o:=by simp only[EQ,wg];exact .inr (NG hx)
    refine j _ ?_;simp only[YG,c,wg,wn];refine .inr ⟨t,s,id,H1 g _ id h,?_⟩;simp only[iT,r,w9];exact .inr (Kb m)
  | const v =>
    have:=H1 g _ id h
    exfalso
    revert this;simp only[ev];unfold eZ;split<;>simp[Lf]
  | global q =>
    have:=H1 g _ id h
    exfalso
    revert this;simp only[ev];split<;>simp[Lf]
  | func f=>have:=H1 g _ id h;simp[ev,Lf]at this
 refine⟨λid n of cs hr a e m=>?_,λf cs k id n rid rn hr=>?_,λcs hr a e m=>?_⟩
 ·rw[<-ρ_congr c p j g x hx]at hr;obtain⟨h,r⟩:=nI hr;grind
 ·rw[<-ρ_congr c p j g x hx]at hr;obtain⟨h,r⟩:=pG hr;grind
 ·rw[<-ρ_congr c p j g x hx]at hr;have u:=nH hr;have d:a∈Lf (rL g (ev S x)):=by rw[u];exact Kb m
  refine No λi l=>?_;simp only[Lf,vR]at l;subst l
  cases x with
  | tmp t =>
    have s:t∈EQ all o:=by simp only[EQ,wg];exact .inr (NG hx)
    refine j _ ?_;simp only[YG,c,wg,wn];exact .inr ⟨t,s,i,H1 g _ i d,by simp[iT]⟩
  | const v =>
    have:=H1 g _ i d
    exfalso
    revert this;simp only[ev];unfold eZ;split<;>simp[Lf]
  | global q =>
    have:=H1 g _ i d
    exfalso
    revert this;simp only[ev];split<;>simp[Lf]
  | func f=>have:=H1 g _ i d;simp[ev,Lf]at this
theorem cJ{S T:AS}(a:∀t∈EQ all o,WI S T t){x:Operand}(hx:x∈o.op.operands.toList):ev S x=ev T x:=by
 cases x with
 | tmp t =>
   have b:t∈EQ all o:=by simp only[EQ,wg];exact .inr (NG hx)
   exact a t b
 | const v=>rfl
 | global q=>rfl
 | func f=>rfl
theorem YN{S T:AS}(a:∀t∈EQ all o,WI S T t):LU S o=LU T o:=by
 unfold LU;split
 ·rename_i x ho
  rw[cJ a (x:=x) (by rw[ho];simp[Op.operands])]
 ·rfl
theorem sP{S:AS}{g:Option (Nat×Bool)}{d n:Nat}{K:Hn->Prop}(a:LU S o=false)(hy:yA P (σOf S) (ρOf S) g o d n K):yS P S g o d n K:=by
 unfold yS;unfold LU at a;split
 ·rename_i x ho
  rw[ho]at a;simp only at a;split
  ·rename_i b;rw[b]at a;cases a
  ·rename_i b;rw[b]at a;cases a
  ·exact hy
 ·exact hy
theorem i9(P:Program)(S:AS)(g:Option (Nat×Bool))(o:Oper)(d n:Nat):DK λK=>yS P S g o d n K:=by
 unfold yS;split
 ·split
  ·exact Ak _
  ·exact Ak _
  ·exact i8 _ _ _ _ _ _ _
 ·exact i8 _ _ _ _ _ _ _
theorem bz{S T:AS}{g:Option (Nat×Bool)}{K:Hn->Prop}(a:∀t∈EQ all o,WI S T t)(c:∀b∈YG S (EQ all o) o,Va S T b)(j:S.length=T.length)
 (hy:dK o.dst λd=>VG S d λn=>yS P S g o d n K):dK o.dst λd=>VG T d λn=>yS P T g o d n K:=by
 obtain⟨hd,hy⟩:=OG _ _ _ (Zl hy);refine lP (Xe _ _ _ (by grind) ?_);rcases YA hy with⟨x,ho,i,hK⟩|⟨e,hy⟩
 ·unfold yS;rw[ho];simp only;rw[<-cJ a (x:=x) (by rw[ho];simp[Op.operands])]
  cases h:ev S x with
  | ptr id v k=>grind
  | sl id v=>grind
  | _=>rw[h]at i;cases i
 ·refine sP (by rw[<-YN a];exact e) (o7 (ρ_congr e a c) (pM e a c) (λf=>?_) hy);exact(c _ (by simp[YG,f])).2
theorem jl.move{lk:List Nat}{S T:AS}(h:∀t∈lk,WI S T t):∀{n t:Nat}{r:Option Bool},jl lk n t S r->jl lk n t T r
 | 0,_,_,hd=>hd.elim
 | n+1,t,r,⟨hlk,hd⟩=>by
   have e:=h t hlk;unfold WI at e;refine⟨hlk,?_⟩;rcases hd with⟨b,a,hr⟩|⟨c,w',b,d,a,hd,hr⟩|⟨c,w',a,hr⟩
   ·grind
   ·exact .inr (.inl ⟨c,w',b,d,by rw[<-e];exact a,jl.move h hd,hr⟩)
   ·grind
theorem nc{done:List Nat}{S:AS}{K:AS->Hn->Prop}(hy:kq P all done o S K) :
 ∃e,K S e/\∀(a:List Nat)(T:AS),(∀t∈EQ all o,WI S T t)->(∀b∈RR S all o e,Va S T b)->S.length=T.length->(∀j k t,o.guard=some (j,k)->Wd all j=some t->t∈a) ->
  kq P all a o T (λM f=>M=T/\f=e):=by
 have z:∀{g:Option (Nat×Bool)}{F:Hn->Prop},(dK o.dst λd=>VG S d λn=>yS P S g o d n F)->∃e,F e/\dK o.dst λd=>VG S d λn=>yS P S g o d n λf=>f=e:=by
  intro g F hy;obtain⟨hd,hy⟩:=OG _ _ _ (Zl hy);obtain⟨e,m,A⟩:=(i9 P S g o (o.dst.getD 0) (Ag S (o.dst.getD 0)).ver).2 _ hy;exact⟨e,A,lP (Xe _ _ _ hd m)⟩
 have p:∀{T:AS}{g:Option (Nat×Bool)}{F B:Hn->Prop},(∀e,F e->B e)->(dK o.dst λd=>VG T d λn=>yS P T g o d n F)->dK o.dst λd=>VG T d λn=>yS P T g o d n B:=by
  intro T g F B A hy;obtain⟨hd,hy⟩:=OG _ _ _ (Zl hy);exact lP (Xe _ _ _ hd ((i9 P T g o (o.dst.getD 0) (Ag T (o.dst.getD 0)).ver).1 _ _ A hy))
 have q:∀{T:AS}{e:Hn},(∀b∈RR S all o e,Va S T b)->∀b∈YG S (EQ all o) o,Va S T b:=λh b C=>h b (by simp only[RR,wg];exact .inl C);have N:∀{T:AS}{e:Hn},S.length=T.length->(∀b∈RR S all o e,Va S T b)->Hg S e.homes=Hg T e.homes:=λl h=>S6 l λb C=>h b (by simp only[RR,wg];exact .inr C);unfold kq at hy;split at hy
 ·rename_i c
  obtain⟨e,hK,m⟩:=z hy;obtain⟨D,hK⟩:=Al hK;refine⟨e,hK,λ_ T i s l _=>?_⟩;unfold kq;simp only[c];refine p (λf L=>?_) (bz i (q s) l m);grind
 ·rename_i j k c
  split at hy
  ·grind
  ·rename_i t E
   obtain⟨G,hy⟩:=Al hy;split at hy
   ·rename_i y
    obtain⟨e,hK,m⟩:=z hy;split at hK
    ·rename_i v
     refine⟨_,hK,λ_ T i s l u=>?_⟩;unfold kq;simp only[c,E,y];rw[uk (by grind)];refine p (λf L=>?_) (bz i (q s) l m);grind
    ·grind
   ·rename_i y
    obtain⟨r,hy,w⟩:=Tn hy;have x:∀T:AS,(∀t∈EQ all o,WI S T t)->jl (EQ all o) 5 t T r:=λT i=>w.move i;rcases Ka.1 hy with⟨H,I⟩|⟨J,hK⟩
    ·obtain⟨e,hK,m⟩:=z I;obtain⟨D,hK⟩:=Al hK;refine⟨e,hK,λ_ T i s l u=>?_⟩;unfold kq;simp only[c,E,y];rw[uk (by grind)];refine aa (x T i) (Ka.2 (.inl ⟨H,p (λf L=>?_) (bz i (q s) l m)⟩));grind
    ·refine⟨_,hK,λ_ T i s l u=>?_⟩;unfold kq;simp only[c,E,y];rw[uk (by grind)];exact aa (x T i) (Ka.2 (.inr ⟨J,by first|exact⟨rfl,rfl⟩|exact⟨rfl,trivial⟩|exact⟨trivial,trivial⟩⟩))
structure YD(P:Program)(all:List Oper)(S₀:AS)(St:Nat->AS)(E:Nat->Hn):Prop where
 start:St 0=S₀
 next:∀(i:Nat)(o:Oper),all[i]?=some o->St (i+1)=Zc o.dst (E i) (St i)
 once:∀(i j:Nat)(o o':Oper),i<j->all[i]?=some o->all[j]?=some o'->∀d,o.dst=some d->o'.dst≠some d
 does:∀(i:Nat)(o:Oper),all[i]?=some o->∀(T:AS)(done:List Nat),(∀t∈EQ all o,WI (St i) T t)->(∀b∈RR (St i) all o (E i),Va (St i) T b)->(St i).length=T.length ->
  (∀j want t,o.guard=some (j,want)->Wd all j=some t->t∈done)->kq P all done o T (λT' f=>T'=T/\f=E i)
 box:∀(i j:Nat)(o o':Oper),i<j->all[i]?=some o->all[j]?=some o'->Sx all o' i=false ->
  WJ ((E i).bx.map (·.1)) (RR (St j) all o' (E j)++(E j).bx.map (·.1))=true/\WJ (RR (St i) all o (E i)) ((E j).bx.map (·.1))=true
theorem nS(P:Program)(all:List Oper):∀(l:List Oper)(k:Nat)(h:List (Nat×List Nat×List Nat))(done:List Nat)(S:AS)(K:AS->Prop),(∀j,l[j]?=all[k+j]?)->r7 P all k h done l S K ->
 ∃(St:Nat->AS)(E:Nat->Hn),St k=S/\K (St (k+l.length)) /\
  (∀(i:Nat)(o:Oper),k<=i->all[i]?=some o->St (i+1)=Zc o.dst (E i) (St i)) /\
  (∀(i:Nat)(o:Oper),k<=i->all[i]?=some o->∀d,o.dst=some d->d ∉ done) /\
  (∀(i j:Nat)(o o':Oper),k<=i->i<j->all[i]?=some o->all[j]?=some o'->∀d,o.dst=some d->o'.dst≠some d) /\
  (∀(i:Nat)(o:Oper),k<=i->all[i]?=some o->∀(T:AS)(done:List Nat),(∀t∈EQ all o,WI (St i) T t)->(∀b∈RR (St i) all o (E i),Va (St i) T b)->(St i).length=T.length ->
   (∀j w t,o.guard=some (j,w)->Wd all j=some t->t∈done)->kq P all done o T (λN f=>N=T/\f=E i)) /\
  (∀(i:Nat)(o:Oper),k<=i->all[i]?=some o->∀x∈h,Sx all o x.1=false->WJ x.2.2 (RR (St i) all o (E i)++(E i).bx.map (·.1))=true/\WJ x.2.1 ((E i).bx.map (·.1))=true) /\
  (∀(i j:Nat)(o o':Oper),k<=i->i<j->all[i]?=some o->all[j]?=some o'->Sx all o' i=false ->
   WJ ((E i).bx.map (·.1)) (RR (St j) all o' (E j)++(E j).bx.map (·.1))=true/\WJ (RR (St i) all o (E i)) ((E j).bx.map (·.1))=true)
 | [],k,h,done,S,K,hall,hy=>by
   have none:∀i,k<=i->all[i]?=none:=by
    intro i p;have hk:=hall 0;simp at hk;exact uP (by omega)
   refine⟨λ_=>S,λ_=>⟨.any,[],[]⟩,rfl,hy,?_,?_,?_,?_,?_,?_⟩
   all_goals grind
 | o :: r,k,h,done,S,K,hall,hy=>by
   obtain⟨y,hy⟩:=Al hy;obtain⟨e,hK,m⟩:=nc hy;rw[Lw,Lw]at hK;obtain⟨z,hK⟩:=Al hK;rw[ZS,Lw]at hK;have ho:all[k]?=some o:=by have:=hall 0;simpa using this.symm
   obtain⟨St,E,R,H,q,A,I,s,B,C⟩:=nS P all r (k+1) _ _ _ K (λj=>by have:=hall (j+1);rw[vm]at this;rw[this];congr 1;omega) hK;have O:∀i,k+1<=i->i≠k:=λi p=>by omega
   refine⟨λi=>if i=k then S else St i,λi=>if i=k then e else E i,by simp,?_,?_,?_,?_,?_,?_,?_⟩
   ·have:k+(o :: r).length≠k:=by simp
    simp only[this,if_false];rw[show k+(o :: r).length=k+1+r.length by simp;omega];exact H
   ·intro i o' p c;by_cases a:i=k
    ·subst a;grind
    ·have g:i+1≠k:=by omega
     simp only[a,g,if_false];exact q i o' (by omega) c
   ·intro i o' p c d hd;by_cases a:i=k
    ·subst a;rw[ho]at c;cases c;simp[hd,Ew]at y;exact y
    ·grind
   ·intro i j M G p D g v d hd;by_cases a:i=k
    ·subst a;rw[ho]at g;cases g;intro J;exact A j G (by omega) v d J (by simp[hd,Ew])
    ·grind
   ·intro i o' p c;by_cases a:i=k
    ·subst a;rw[ho]at c;cases c;simp only[if_true];intro T u g v Q L;exact m u T g v Q L
    ·simp only[a,if_false];exact s i o' (by omega) c
   ·intro i o' p c x hx n;by_cases a:i=k
    ·subst a;rw[ho]at c;cases c;simp only[if_true];simp only[q9,w3]at z;have:=z x hx;simp[n]at this;simp only[RR,w6];exact this
    ·grind
   ·intro i j M G p D g v n;have F:j≠k:=by omega
    by_cases a:i=k
    ·subst a;rw[ho]at g;cases g;simp only[if_true,F,if_false];exact B j G (by omega) v (i,RR S all o e,e.bx.map (·.1)) (by simp[RR]) n
    ·simp only[a,F,if_false];exact C i j M G (by omega) D g v n
theorem J0:∀(b:Bx)(S:AS)(i:Nat),i ∉ b.map (·.1)->Ag (Bh b S) i=Ag S i
 | [],_,_,_=>rfl
 | (id,B,n) :: r,S,i,h=>by
   simp only[ul,w9,not_or]at h;simp only[Bh];rw[J0 r _ i h.2,Ci,uo (λe=>h.1 e.1)]
theorem ZX:∀(b:Bx)(S:AS)(i:Nat),(Ag (Bh b S) i).av=(Ag S i).av
 | [],_,_=>rfl
 | (id,B,n) :: r,S,i=>by
   simp only[Bh];rw[ZX r,Ci];grind
theorem Ss:∀(b:Bx)(S T:AS)(i:Nat),S.length=T.length->i∈b.map (·.1)->Va (Bh b S) (Bh b T) i
 | [],_,_,_,_,h=>by grind
 | (id,B,n) :: r,S,T,i,hl,h=>by
   simp only[Bh];by_cases hr:i∈r.map (·.1)
   ·exact Ss r _ _ i (by simp[CX,hl]) hr
   ·have a:i=id:=by simp at h hr;rcases h with h|⟨x,y,h⟩;exact h;exact absurd h (hr x y)
    unfold Va;rw[J0 r _ i hr,J0 r _ i hr,Ci,Ci,a,hl];split
    ·grind
    ·rename_i d
     have c:T.length<=id:=by grind
     rw[Nf S id (by omega),Nf T id c];grind
theorem XX(dst:Option Nat)(e:Hn)(S:AS):(Zc dst e S).length=S.length:=by
 cases dst<;>simp[Zc,IF,Cr]
theorem TT{dst:Option Nat}{e:Hn}{S:AS}{t:Nat}(h:dst≠some t):WI (Zc dst e S) S t:=by
 unfold WI
 cases dst with
 | none=>simp[Zc,ZX]
 | some d =>
   simp only[Zc];rw[CQ,uo (λa=>h (by rw[a.1])),ZX]
theorem bL{dst:Option Nat}{e:Hn}{S T:AS}{t:Nat}(a:S.length=T.length)(h:dst=some t):WI (Zc dst e S) (Zc dst e T) t:=by
 unfold WI;subst h;simp only[Zc];rw[CQ,CQ,Cr,Cr,a];split
 ·rfl
 ·rename_i c
  have b:T.length<=t:=by grind
  rw[Nf _ t (by rw[Cr];omega),Nf _ t (by rw[Cr];exact b)]
theorem ZT{dst:Option Nat}{e:Hn}{S:AS}{b:Nat}:Va (Zc dst e S) (Bh e.bx S) b:=by
 unfold Va
 cases dst with
 | none=>exact⟨rfl,rfl⟩
 | some d =>
   simp only[Zc];rw[CQ];grind
theorem Sq{dst:Option Nat}{e:Hn}{S:AS}{b:Nat}(h:b ∉ e.bx.map (·.1)):Va (Zc dst e S) S b:=by
 have:=ZT (dst:=dst) (e:=e) (S:=S) (b:=b);unfold Va at *;rw[this.1,this.2,J0 _ _ _ h];grind
theorem ZU{dst:Option Nat}{e:Hn}{S T:AS}{b:Nat}(a:S.length=T.length)(h:b∈e.bx.map (·.1)):Va (Zc dst e S) (Zc dst e T) b:=by
 have c:=ZT (dst:=dst) (e:=e) (S:=S) (b:=b);have d:=ZT (dst:=dst) (e:=e) (S:=T) (b:=b);have f:=Ss e.bx S T b a h;unfold Va at *;grind
theorem mi:∀{S T:AS},S.length=T.length->(∀t,WI S T t)->(∀b,Va S T b)->S=T
 | [],[],_,_,_=>rfl
 | s :: S,t :: T,hl,h1,h2=>by
   have a:=h1 0;have c:=h2 0;simp only[WI,Va,Ag]at a c;have:s=t:=by obtain⟨_,_,_⟩:=s;obtain⟨_,_,_⟩:=t;simp_all
   rw[this,mi (S:=S) (T:=T) (by grind) (λi=>h1 (i+1)) (λi=>h2 (i+1))]
 | [],_ :: _,hl,_,_=>by grind
 | _ :: _,[],hl,_,_=>by grind
theorem Pf{x y:List Nat}(h:WJ x y=true):∀i∈x,i ∉ y:=by simpa [WJ] using h
theorem Pz:∀(l:List Oper)(k:Nat),(∀j,l[j]?=all[k+j]?)->gh all k l=true ->
 ∀i o,k<=i->all[i]?=some o->((∀e∈o.after,Region.binds .any e=true->e.on<i)/\∀j a,o.guard=some (j,a)->j<i) /\
  ∀j o',j<i->all[j]?=some o'->Sx all o j=true\/((∀d,o'.dst=some d->d ∉ EQ all o)/\(∀d,o.dst=some d->d ∉ EQ all o'))
 | [],k,hall,_,i,o,hi,ho=>by
   have hk:=hall 0;grind
 | x :: r,k,hall,h,i,o,hi,ho=>by
   simp only[gh,vi]at h;obtain⟨⟨⟨u,b⟩,m⟩,n⟩:=h;by_cases c:i=k
   ·subst c;have hx:all[i]?=some x:=by have:=hall 0;simpa using this.symm
    rw[hx]at ho;cases ho;refine⟨⟨λe v w=>?_,λj a p=>by simpa [p] using b⟩,λj o' q f=>?_⟩
    ·grind
    ·have:=List.all_eq_true.1 m (o',j) (by
      rw[List.mem_iff_getElem?];refine⟨j,?_⟩;rw[List.getElem?_zipIdx,vJ q,f];simp)
     simp only[Bool.or_eq_true,vi]at this;rcases this with⟨g,s⟩|g
     ·refine .inr ⟨λd hd=>Pf g d (by simp[hd,Ew]),λd hd t=>Pf s d t (by simp[hd,Ew])⟩
     ·grind
   ·exact Pz r (k+1) (λj=>by have:=hall (j+1);rw[vm]at this;rw[this];congr 1;omega) n i o (by omega) ho
end
structure ln(all:List Oper)(St:Nat->AS)(E:Nat->Hn)(S₀:AS)(f:Nat->Bool)(T:AS):Prop where
 len:T.length=S₀.length
 dc:∀(k:Nat)(o:Oper),all[k]?=some o->f k=true->∀i,YI o i=true->f i=true
 vs:∀(t i:Nat),i<=all.length->(∀(k:Nat)(o:Oper),all[k]?=some o->o.dst=some t->(f k=true↔k<i))->WI T (St i) t
 vb:∀(b i:Nat),i<=all.length->(∀(k:Nat)(o:Oper),all[k]?=some o->b∈(E k).bx.map (·.1)->(f k=true↔k<i))->Va T (St i) b
section
variable {P:Program} {all:List Oper} {St:Nat->AS} {E:Nat->Hn} {S₀:AS}
theorem YD.len(h:YD P all S₀ St E):∀i,i<=all.length->(St i).length=S₀.length
 | 0,_=>by rw[h.start]
 | i+1,hi=>by
   rw[h.next i all[i] (P3 (by omega)),XX];exact h.len i (by omega)
theorem YD.keepS(h:YD P all S₀ St E){t i:Nat}:∀j,i<=j->j<=all.length->(∀(k:Nat)(o:Oper),i<=k->k<j->all[k]?=some o->o.dst≠some t)->WI (St j) (St i) t:=by
 intro j
 induction j with
 | zero=>intro a _ _;have:i=0:=by omega
         subst this;exact rfl
 | succ j ih =>
   intro a d hk;by_cases e:i=j+1
   ·subst e;exact rfl
   ·have b:=ih (by omega) (by omega) (λk o b c=>hk k o b (by omega))
    have c:WI (St (j+1)) (St j) t:=by
     rw[h.next j all[j] (P3 (by omega))];exact TT (hk j _ (by omega) (by omega) (P3 (by omega)))
    exact Eq.trans c b
theorem YD.keepB(h:YD P all S₀ St E){b i:Nat}:∀j,i<=j->j<=all.length->(∀(k:Nat)(o:Oper),i<=k->k<j->all[k]?=some o->b ∉ (E k).bx.map (·.1))->Va (St j) (St i) b:=by
 intro j
 induction j with
 | zero=>intro c _ _;have:i=0:=by omega
         subst this;exact⟨rfl,rfl⟩
 | succ j ih =>
   intro c f hk;by_cases e:i=j+1
   ·subst e;exact⟨rfl,rfl⟩
   ·have a:=ih (by omega) (by omega) (λk o a d=>hk k o a (by omega))
    have d:Va (St (j+1)) (St j) b:=by
     rw[h.next j all[j] (P3 (by omega))];exact Sq (hk j _ (by omega) (by omega) (P3 (by omega)))
    exact⟨d.1.trans a.1,d.2.trans a.2⟩
theorem ln.readyN{f:Nat->Bool}{T:AS}(m:ln all St E S₀ f T):∀(n:Nat){o:Oper}{j:Nat},(∀j,YI o j=true->f j=true)->ir all n o j=true->f j=true
 | 0,_,_,hready,h=>hready _ h
 | n+1,o,j,hready,h=>by
   simp only[ir,Bool.or_eq_true,List.any_eq_true,vi]at h;rcases h with h|⟨e,g,k,a⟩
   ·grind
   ·split at a
    ·rename_i c b
     refine m.readyN n (λi d=>m.dc e.on c b (hready e.on ?_) i d) a;simp only[YI,List.any_eq_true,vi,wU];grind
    ·cases a
theorem ln.ready2{f:Nat->Bool}{T:AS}(m:ln all St E S₀ f T){o:Oper}(a:∀j,YI o j=true->f j=true){j:Nat}(h:Sx all o j=true):f j=true :=
 m.readyN 4 a h
theorem ln.step(h:YD P all S₀ St E)(w:gh all 0 all=true){f:Nat->Bool}{T:AS}(m:ln all St E S₀ f T){i:Nat}{o:Oper}(ho:all[i]?=some o)(D:f i=false)(c:∀j,YI o j=true->f j=true) :
 (∀t∈EQ all o,WI (St i) T t)/\(∀b∈RR (St i) all o (E i),Va (St i) T b)/\ln all St E S₀ (λk=>if k=i then true else f k) (Zc o.dst (E i) T):=by
 have u:=Pz all 0 (λj=>by simp) w;have I:i<all.length:=by grind
 have d:∀(k:Nat)(o':Oper),all[k]?=some o'->i<k->f k=true->Sx all o' i=false:=by
  intro k o' a F g
  cases s:Sx all o' i with
  | false=>rfl
  | true=>have:=m.ready2 (λj r=>m.dc k o' a g j r) s;rw[D]at this;cases this
 have l:(St i).length=T.length:=by rw[h.len i (by omega),m.len]
 have G:∀t∈EQ all o,WI (St i) T t:=by
  intro t J;refine(m.vs t i (by omega) λk o' a hd=>?_).symm;rcases wH k i with hk|hk|hk
  ·refine⟨λ_=>hk,λ_=>?_⟩;rcases(u i o (by omega) ho).2 k o' hk a with s|⟨q,_⟩
   ·exact m.ready2 c s
   ·grind
  all_goals grind
 have H:∀b∈RR (St i) all o (E i),Va (St i) T b:=by
  intro b C;have key:=m.vb b i (by omega) λk o' a hd=>?_
  ·exact⟨key.1.symm,key.2.symm⟩
  ·rcases wH k i with hk|hk|hk
   ·refine⟨λ_=>hk,λ_=>?_⟩
    cases s:Sx all o k with
    | true=>exact m.ready2 c s
    | false=>exact absurd (List.mem_append.2 (.inl C)) (Pf (h.box k i o' o hk a ho s).1 b hd)
   ·grind
   ·refine⟨λg=>?_,λK=>by omega⟩;exact absurd hd (Pf (h.box i k o o' hk ho a (d k o' a hk g)).2 b C)
 refine⟨G,H,?_⟩;have x:=h.next i o ho;refine⟨by rw[XX];exact m.len,?_,?_,?_⟩
 ·intro k o' a hk j r;by_cases y:k=i
  ·grind
  ·simp only[y,if_false]at hk;have:=m.dc k o' a hk j r;simp[this]
 ·intro t j r n;by_cases hd:o.dst=some t
  ·have z:i<j:=(n i o ho hd).1 (by simp);have q:WI (St j) (St (i+1)) t:=h.keepS j (by omega) r λk o' A B a p=>h.once i k o o' (by omega) ho a t hd p;have v:WI (Zc o.dst (E i) T) (St (i+1)) t:=by rw[x];exact bL l.symm hd
   exact v.trans q.symm
  ·have q:=m.vs t j r λk o' a p=>by
    grind
   exact(TT hd).trans q
 ·intro b j r n;by_cases hd:b∈(E i).bx.map (·.1)
  ·have z:i<j:=(n i o ho hd).1 (by simp)
   have q:Va (St j) (St (i+1)) b:=h.keepB j (by omega) r λk o' A B a p=>by
    have g:f k=true:=by grind
    have s:=d k o' a (by omega) g;exact Pf (h.box i k o o' (by omega) ho a s).1 b hd (List.mem_append.2 (.inr p))
   have v:Va (Zc o.dst (E i) T) (St (i+1)) b:=by rw[x];exact ZU l.symm hd
   exact⟨v.1.trans q.1.symm,v.2.trans q.2.symm⟩
  ·have q:=m.vb b j r λk o' a p=>by
    grind
   have v:=Sq (dst:=o.dst) (e:=E i) (S:=T) hd;exact⟨v.1.trans q.1,v.2.trans q.2⟩
end
section
variable {P:Program} {X:Cx} {G:Nat->Prop} {β:Nat->Value} {S:AS} {a:Act} {w:World}
theorem Wq(N:Nat)(f:Nat->Sl):∀n,(ef N n f).length=n
 | 0=>rfl
 | n+1=>by simp[ef,Wq N f n]
theorem ZC(N:Nat)(f:Nat->Sl):∀(n i:Nat),n<=N->Ag (ef N n f) i=if i<n then f (N-n+i)else eK
 | 0,i,_=>by simp[ef,Ag]
 | n+1,0,h=>by
   show f (Nat.sub N (Nat.succ n))=_;simp
 | n+1,i+1,h=>by
   show Ag (ef N n f) i=_;rw[ZC N f n i (by omega)];by_cases e:i<n
   ·rw[uk e,uk (by omega)];congr 1;omega
   ·rw[uo e,uo (by omega)]
structure sX(args:List AV)(n k:Nat)(cs:List C)(qs:List Nat):Prop where
 len:qs.length=cs.length
 kl:k<args.length
 small:args.length<=n
 lt:∀(j:Nat) sz e xs q,cs[j]?=some (.own sz e xs)->qs[j]?=some q->q<n/\q≠k
 inj:∀(i j:Nat) sz e xs sz' e' xs' q,cs[i]?=some (.own sz e xs)->cs[j]?=some (.own sz' e' xs')->qs[i]?=some q->qs[j]?=some q->i=j
 no:∀c∈cs,∀i n,c≠.sl i n
structure GE(S:AS)(cl cs':List C)(used:List Nat):Prop where
 len:cl.length=cs'.length
 at_:∀(j:Nat) c c',cl[j]?=some c->cs'[j]?=some c'->(∃x,c=.d x/\c'=.d (norm x))\/(∃q n sz e ys av,c=.sl q n/\c'=.own sz e ys/\Ag S q=⟨av,.row sz e ys,n⟩/\q∈used)
 inj:∀(i j:Nat) q n n',cl[i]?=some (.sl q n)->cl[j]?=some (.sl q n')->i=j
 used:∀(j:Nat) q n,cl[j]?=some (.sl q n)->q∈used
end
section
variable {P:Program} {X:Cx} {ops:Array Oper} {St:Nat->AS} {E:Nat->Hn} {S₀:AS}
def YJ(listed:Array Bool)(k:Nat):Bool:=listed.getD k false
def XE(all:List Oper)(f:Nat->Bool):List Nat:=((List.range all.length).filter f).flatMap λk=>Ew ((all[k]?).bind (·.dst))
theorem NF{all:List Oper}{f:Nat->Bool}{t:Nat}:t∈XE all f↔∃(k:Nat)(o:Oper),all[k]?=some o/\f k=true/\o.dst=some t:=by
 simp only[XE,wn,List.mem_filter,List.mem_range];constructor
 ·rintro⟨k,⟨hk,b⟩,a⟩;refine⟨k,all[k],P3 hk,b,?_⟩;rw[P3 hk]at a;simp only[ue]at a
  cases hd:all[k].dst with
  | none=>simp[hd,Ew]at a
  | some d=>simp[hd,Ew]at a;rw[a]
 ·rintro⟨k,o,ho,b,hd⟩
  have hk:k<all.length:=by
   rcases uZ k all.length with h|h
   ·exact h
   ·simp[uP h]at ho
  exact⟨k,⟨hk,b⟩,by simp[ho,hd,Ew]⟩
theorem Wg{p p':Nat->Bool}{i:Nat}(b:p i=true)(c:p' i=false)(a:∀x,x≠i->p' x=p x):∀l:List Nat,(l.filter p').length+l.count i=(l.filter p).length
 | []=>rfl
 | x :: r=>by
   have ih:=Wg b c a r;by_cases e:x=i
   ·subst e;simp[xc,b,c,<-ih];omega
   ·have d:(x==i)=false:=by simp[e]
    rw[xj,d];by_cases hp:p x=true
    ·simp[xc,hp,a x e];omega
    ·simp[xc,hp,a x e];omega
theorem ln.all_done(h:YD P ops.toList S₀ St E){f:Nat->Bool}{T:AS}(m:ln ops.toList St E S₀ f T)(d:∀k,k<ops.size->f k=true):T=St ops.size:=by
 have hk:∀(k:Nat)(o:Oper),ops.toList[k]?=some o->k<ops.size:=by
  intro k o ho;rcases uZ k ops.size with h|h
  ·exact h
  ·simp[h]at ho
 have a:ops.size<=ops.toList.length:=by simp
 refine mi (by rw[m.len,h.len _ a]) (λt=>m.vs t _ a λk o ho _=>?_) (λb=>m.vb b _ a λk o ho _=>?_)
 ·exact⟨λ_=>hk k o ho,λc=>d k c⟩
 ·exact⟨λ_=>hk k o ho,λc=>d k c⟩
theorem lZ{o:Oper}{i:Nat}:YI o i=true↔∃e∈o.after,e.on=i/\Region.binds .any e=true:=by
 simp only[YI,List.any_eq_true,Array.mem_toList_iff,vi,wU]
theorem jq(h:YD P ops.toList S₀ St E)(g:gh ops.toList 0 ops.toList=true){Q:Exit->Act->World->Prop}
 (hQ:∀β a w (done:List Nat),SimB X (·∈done) β (St ops.size) a w->Q .normal a w) :
 ∀(fuel:Nat)(b:Array Bool)(T:AS)(β:Nat->Value)(a:Act)(w:World),b.size=ops.size->ln ops.toList St E S₀ (YJ b) T->SimB X (·∈XE ops.toList (YJ b)) β T a w ->
  ((List.range ops.size).filter λk=>!YJ b k).length<=fuel->wpAny P .any ops Q fuel b a w:=by
 have v:∀(b:Array Bool)(T:AS)(β:Nat->Value)(a:Act)(w:World),b.size=ops.size->ln ops.toList St E S₀ (YJ b) T->SimB X (·∈XE ops.toList (YJ b)) β T a w ->
  Region.ready .any ops b=[]->Q .normal a w:=by
  intro b T β a w q m z hr
  have F:∀k,k<ops.size->YJ b k=true:=by
   intro k
   induction k using Nat.strongRecOn with
   | _ k ih =>
     intro hk
     cases hfk:YJ b k with
     | true=>rfl
     | false =>
       exfalso
       have y:k∈Region.ready .any ops b:=by
        refine mem_ready.2 ⟨?_,ops[k],by simp[hk],λe G J=>?_⟩
        ·simp only[YJ,Array.getD]at hfk ⊢;rw[dif_pos (by omega)]at hfk ⊢;exact hfk
        ·have s:=(Pz (all:=ops.toList) ops.toList 0 (λj=>by simp) g k ops[k] (by omega) (by simp[hk])).1.1 e G J;exact ih e.on s (by omega)
       rw[hr]at y
       cases y
  rw[m.all_done h F]at z;exact hQ β a w _ z
 intro fuel
 induction fuel with
 | zero =>
   intro b T β a w q m z hc
   have hr:Region.ready .any ops b=[]:=by
    cases hr:Region.ready .any ops b with
    | nil=>rfl
    | cons i r =>
      exfalso
      have L:=(mem_ready.1 (show i∈Region.ready .any ops b by rw[hr];simp));obtain⟨A,o,ho,_⟩:=L
      have s:i<ops.size:=by
       rcases uZ i ops.size with h|h
       ·exact h
       ·simp[vH h]at ho
      have:i∈(List.range ops.size).filter λk=>!YJ b k:=by
       simp only[List.mem_filter,List.mem_range,Bool.not_eq_true'];refine⟨s,?_⟩;simp only[YJ,Array.getD]at A ⊢;rw[dif_pos (by omega)]at A ⊢;exact A
      have:=List.length_pos_of_mem this;omega
   exact⟨hr,v b T β a w q m z hr⟩
 | succ fuel ih =>
   intro b T β a w q m z hc;refine⟨λhr=>v b T β a w q m z hr,λi L=>?_⟩;obtain⟨A,o,ho,H⟩:=mem_ready.1 L
   have s:i<ops.size:=by
    rcases uZ i ops.size with h|h
    ·exact h
    ·simp[vH h]at ho
   have f:ops.toList[i]?=some o:=by simpa using ho
   have B:YJ b i=false:=by
    simp only[YJ,Array.getD]at A ⊢;rw[dif_pos (by omega)]at A ⊢;exact A
   have l:∀j,YI o j=true->YJ b j=true:=by
    intro j hj;obtain⟨e,G,M,J⟩:=lZ.1 hj;rw[<-M];exact H e G J
   obtain⟨hS,hB,m'⟩:=m.step h g f B l;have C:(St i).length=T.length:=by rw[h.len i (by simp;omega),m.len]
   have hy:=h.does i o f T (XE ops.toList (YJ b)) hS hB C (λj I t Y n=>by
    rw[Ur]at n
    cases hoj:ops.toList[j]? with
    | none=>simp[hoj]at n
    | some oj =>
      simp[hoj]at n;refine NF.2 ⟨j,oj,hoj,?_,n⟩;have N:t∈EQ ops.toList o:=by simp[EQ,XS,Y,Ur,hoj,n,Ew]
      have O:=(Pz (all:=ops.toList) ops.toList 0 (λj=>by simp) g i o (by omega) f).1.2 j I Y;rcases(Pz (all:=ops.toList) ops.toList 0 (λj=>by simp) g i o (by omega) f).2 j oj O hoj with R|⟨S,_⟩
      ·exact m.ready2 l R
      ·exact absurd N (S t n))
   obtain⟨e,⟨_,G⟩,U⟩:=Z8 z hy;subst G
   have c:=U.step (Q:=Q) (K:=wpAny P .any ops Q fuel (b.setIfInBounds i true)) (λd hd hm=>by
    obtain⟨k,ok,hok',hfk,hdk⟩:=NF.1 hm;rcases wH k i with hk|hk|hk
    ·exact h.once k i ok o hk hok' f d hdk hd
    ·subst hk;rw[B]at hfk;cases hfk
    ·exact h.once i k o ok hk f hok' d hd hdk)
    (λβ' a' w' V=>by
     have u:YJ (b.setIfInBounds i true)=λk=>if k=i then true else YJ b k:=by
      funext k;simp only[YJ,vn,vB];by_cases D:k=i
      ·subst D;simp[q,s]
      ·simp[Ne.symm D,D]
     refine ih _ _ β' a' w' (by simp[q]) (by rw[u];exact m') (V.weaken λt n=>?_) ?_
     ·rw[u];rcases List.mem_append.1 n with n|n
      ·refine NF.2 ⟨i,o,f,by simp,?_⟩
       cases hd:o.dst with
       | none=>simp[hd,Ew]at n
       | some d=>simp[hd,Ew]at n;rw[n]
      ·obtain⟨k,ok,hok',hfk,hdk⟩:=NF.1 n;exact NF.2 ⟨k,ok,hok',by simp[hfk],hdk⟩
     ·have:=Wg (p:=λk=>!YJ b k) (p':=λk=>!YJ (b.setIfInBounds i true) k) (i:=i) (by simp[B]) (by simp[u]) (λx hx=>by simp[u,hx]) (List.range ops.size);have Z:0<(List.range ops.size).count i:=List.count_pos_iff.2 (by simp[s]);omega)
   unfold wpOp;simp only[ho];split
   ·rename_i W;rw[uk W]at c;exact .inl c
   ·rename_i W;rw[uo W]at c;exact c
theorem LG(P:Program):Nh P:=by
 intro id ops Q S X β a w hy hs;have hy:JW (gh ops.toList 0 ops.toList=true/\P.follows .mixedOrders=true) (r7 P ops.toList 0 [] [] ops.toList S λS=>plain S (Q .normal)):=hy;obtain⟨⟨l,u⟩,hy⟩:=hy;obtain⟨St,E,p,hK,e,_,f,g,_,m⟩:=nS P ops.toList ops.toList 0 [] [] S _ (λj=>by simp) hy;have c:YD P ops.toList S St E:=⟨p,λi o ho=>e i o (by omega) ho,λi j o o' h q r=>f i j o o' (by omega) h q r,λi o ho=>g i o (by omega) ho,λi j o o' h q r=>m i j o o' (by omega) h q r⟩;refine wp_region_any u ?_;have v:SimB X (λ_=>False) β S a { w with drawn:=w.drawn+1 }:=hs.world ⟨rfl,rfl,rfl,uh _,λ_ _=>rfl⟩;refine jq c l (λx y w' done hs'=>?_) ops.size _ S β a _ (by simp) ?_ (v.weaken λ_ n=>n.elim) ?_
 ·rw[Yg]at hK;simp only[uQ,ve]at hK;exact⟨x,_,hK,hs'.plain⟩
 ·have n:∀k,YJ (Array.replicate ops.size false) k=false:=by
   intro k;simp only[YJ,Array.getD];split<;>simp
  refine⟨rfl,(λk o _ hk=>by rw[n k]at hk;cases hk),λt i s d=>?_,λb i s d=>?_⟩
  ·rw[<-p];refine(c.keepS (i:=0) i (by omega) s λk o _ hk ho hd=>?_).symm;have:=(d k o ho hd).2 hk;rw[n k]at this;cases this
  ·rw[<-p]
   have:=c.keepB (b:=b) (i:=0) i (by omega) s λk o _ hk ho hd=>by
    have:=(d k o ho hd).2 hk;rw[n k]at this;cases this
   exact⟨this.1.symm,this.2.symm⟩
 ·exact uK (vZ _ _) (by simp)
theorem Du{f:FuncId}{fn:Func}{args:List AV}{r:AV}(b:P.funcs[f]?=some fn)(a:(fn.name == "runtime.NumGoroutine")=false)(hr:qI P fn args r):Ax P f args r :=
 So (LG P) b a hr
theorem dC{f:FuncId}{fn:Func}{args a:List AV}{r:AV}(h:P.funcs[f]?=some fn)(b:(fn.name == "runtime.NumGoroutine")=false)(g:a.length=args.length)
 (c:∀(i:Nat) x y,args[i]?=some x->a[i]?=some y->match y with
  | .own sz e _=>∃xs,x=.own sz e xs
  | .optr cs=>∃d,x=.optr d/\cs.length=d.length
  | .cc _ l=>∃(ds:List D)(sz:Nat)(e:TypeId)(xs ys:List D),x=.cc none (ds.map .d++[.own sz e xs])/\l=ds.map .d++[.own sz e ys]
  | _=>True) (hr:ql P fn args a r):Fz P f args a r :=
 SA (LG P) h b g c hr
theorem Q7(J:List Nat){f:FuncId}{fn:Func}{args:List AV}{r:AV}(b:P.funcs[f]?=some fn)(a:(fn.name == "runtime.NumGoroutine")=false)(hr:bF P J fn args r):Ax P f args r :=
 So (LG P) b a hr
theorem fS(J:List Nat){f:FuncId}{fn:Func}{args a:List AV}{r:AV}(h:P.funcs[f]?=some fn)(b:(fn.name == "runtime.NumGoroutine")=false)(g:a.length=args.length)
 (c:∀(i:Nat) x y,args[i]?=some x->a[i]?=some y->match y with
  | .own sz e _=>∃xs,x=.own sz e xs
  | .optr cs=>∃d,x=.optr d/\cs.length=d.length
  | .cc _ l=>∃(ds:List D)(sz:Nat)(e:TypeId)(xs ys:List D),x=.cc none (ds.map .d++[.own sz e xs])/\l=ds.map .d++[.own sz e ys]
  | _=>True) (hr:Xo P J fn args a r):Fz P f args a r :=
 SA (LG P) h b g c hr
theorem sN(J:List Nat){f:FuncId}{fn:Func}{args:List AV}{k sz:Nat}{e:TypeId}{xs ys:List D}(q:Nat)(g:P.funcs[f]?=some fn)(a:(fn.name == "runtime.NumGoroutine")=false)(b:fn.results=#[])
 (hk:args[k]?=some .any) (h:q<args.length) (d:q≠k) (c:args.all (λx=>!x.mut)=true) (hr:lu P J fn args k q sz e xs ys):VK P f args k sz e xs ys :=
 Za (LG P) g a b hk h d c hr
end
theorem TL{S S':AS}(h:EF S' (λS'=>Le S S')):Le S S':=by rw[F5]at h;exact h
end Go.Abs
namespace Go.Proofs.YtaojdkijihbaoaaGreatDoor.P
open Go.Abs Go.Proofs
@[reducible] def Ao{α:Type}(sz:Nat)(f:α->D)(l:List α):D:=.list sz (l.map f)
theorem Vh{ρ:Type}{b a:Bool}{x y:Prop}{X Y:Option ρ}{R:ρ}(c:(bif a then X else Y)=some R)(e:b=a)(d:X=some R->x)(f:Y=some R->y):Bool.rec y x b:=by
 subst e
 cases b with
 | true=>exact d c
 | false=>exact f c
theorem lH{ρ:Type}{b a:Bool}{x y:Prop}{X Y:Option ρ}{R:ρ}(c:(bif a then X else Y)=some R)(e:b=a)(d:a=true->X=some R->x)(f:a=false->Y=some R->y):Bool.rec y x b:=by
 subst e
 cases b with
 | true=>exact d rfl c
 | false=>exact f rfl c
theorem oC{b a:Bool}{x y:Prop}(e:b=a)(h:a=true)(k:x):Bool.rec y x b:=by
 subst e;subst h;exact k
theorem rW{b a:Bool}{x y:Prop}(e:b=a)(h:a=false)(k:y):Bool.rec y x b:=by
 subst e;subst h;exact k
theorem sU{x a b:Int}(h:(x==a)=true)(k:(a==b)=false:=by rfl):(x==b)=false:=by
 rw[beq_iff_eq.1 h];exact k
theorem tH{α:Type}{xs:List α}{i j:Int}{x:α}{f:α->D}{K:D->Prop}(h:idx xs i=some x)(e:j=i)(k:K (f x)):At (xs.map f) j K:=by
 obtain⟨a,_,b⟩:=QU h;subst e;exact⟨⟨a,_,by rw[uu,b];rfl,k⟩⟩
theorem qP{α:Type}{xs:List α}{i j:Int}{x:α}{f:α->D}{K:D->Prop}(h:idx xs i=some x)(e:j=((i.toNat:Nat):Int))(k:K (f x)):At (xs.map f) j K:=by
 obtain⟨a,_,_⟩:=QU h;exact tH h (e.trans (wt a)) k
theorem t9{α:Type}{xs:List α}{i j:Int}{x:α}{f:α->D}{k:Prop}(h:idx xs i=some x)(e:j=i)(hk:k):JW (0<=j/\j.toNat<(xs.map f).length) k:=by
 obtain⟨a,b,_⟩:=QU h;subst e;exact⟨⟨a,by rw[ua];exact b⟩,hk⟩
theorem rV{α ρ:Type}{xs:List α}{i j:Int}{f:α->D}{K:D->Prop}{G:α->Option ρ}{R:ρ}(a:(idx xs i).bind G=some R)(e:j=i)(k:∀x,idx xs i=some x->G x=some R->K (f x)):At (xs.map f) j K:=by
 obtain⟨x,h,a⟩:=VU a;exact tH h e (k x h a)
theorem gm{α ρ:Type}{xs:List α}{f:α->D}{i j:Int}{k:Prop}{G:α->Option ρ}{R:ρ}(a:(idx xs i).bind G=some R)(e:j=i)(hk:∀x,idx xs i=some x->G x=some R->k):JW (0<=j/\j.toNat<(xs.map f).length) k:=by
 obtain⟨x,h,a⟩:=VU a;exact t9 h e (hk x h a)
theorem snoc{α:Type}(f:α->D)(xs:List α)(x:α):xs.map f++[f x]=(xs++[x]).map f:=by simp
theorem nY(k:IntKind)(xs:List Int)(x:Int):xs.map (D.int k)++[D.int k x]=(xs++[x]).map (D.int k):=by simp
theorem sK(xs:List Bool)(x:Bool):xs.map D.bool++[D.bool x]=(xs++[x]).map D.bool:=by simp
theorem sL(xs:List ByteArray)(x:ByteArray):xs.map D.str++[D.str x]=(xs++[x]).map D.str:=by simp
theorem jb{α:Type}(sz:Nat)(f:α->D)(xs:List (List α))(x:List α):xs.map (Ao sz f)++[D.list sz (x.map f)]=(xs++[x]).map (Ao sz f):=by simp[Ao]
theorem pt(k:IntKind)(x:Int)(xs:List Int):[D.int k x]++xs.map (D.int k)=([x]++xs).map (D.int k):=rfl
theorem tw{α:Type}(sz:Nat)(f:α->D)(x:List α)(xs:List (List α)):[D.list sz (x.map f)]++xs.map (Ao sz f)=([x]++xs).map (Ao sz f):=rfl
theorem rU{α:Type}(f:α->D)(xs ys:List α):xs.map f++ys.map f=(xs++ys).map f:=List.map_append.symm
theorem sa{α:Type}(f:α->D)(xs:List α)(l h:Int):M1 (xs.map f) l h=(M1 xs l h).map f:=by simp[M1,List.map_take,List.map_drop]
theorem pF{α:Type}(f:α->D)(n:Nat)(x:α):List.replicate n (f x)=(List.replicate n x).map f:=List.map_replicate.symm
theorem sJ{α:Type}(f:α->D)(xs:List α)(i:Nat)(x:α):(xs.map f).set i (f x)=(xs.set i x).map f:=by rw[vd]
theorem Dg{n m b:Nat}{q:Prop}(h:rm n m=true)(a:b<=1024)(c:q):n+m<=maxLen/\(n+m)*b<=140737488355328/\q:=by
 have h:=uf h;refine⟨by unfold maxLen;omega,?_,c⟩
 calc (n+m)*b<=137438953472*1024:=wX h a
  _=140737488355328:=by decide
theorem Ws{l:Int}{b:Nat}(h:(decide (0<=l)&&rm l.toNat 0)=true)(d:b<=1024):0<=l/\l<=l/\l<=(maxLen:Int)/\(b:Int)*l<=281474976710656:=by
 obtain⟨a,c⟩:=Bool.and_eq_true_iff.1 h;have a:=uf a;have c:=uf c;refine⟨a,uU _,by unfold maxLen;omega,?_⟩;have e:l<=137438953472:=by omega
 calc (b:Int)*l<=1024*l:=Int.mul_le_mul_of_nonneg_right (by omega) a
  _<=281474976710656:=by omega
end Go.Proofs.YtaojdkijihbaoaaGreatDoor.P
namespace Go.Abs
section
variable {β:Type}
def JY(k:Int):List (Int×β)->Option β
 | []=>none
 | p :: r=>bif k==p.1 then some p.2 else JY k r
def VD(k:Int)(v:β):List (Int×β)->List (Int×β)
 | []=>[(k,v)]
 | p :: r=>bif k==p.1 then(k,v) :: r else p :: VD k v r
def aw(k:ByteArray):List (ByteArray×β)->Option β
 | []=>none
 | p :: r=>bif k==p.1 then some p.2 else aw k r
def ov(k:ByteArray)(v:β):List (ByteArray×β)->List (ByteArray×β)
 | []=>[(k,v)]
 | p :: r=>bif k==p.1 then(k,v) :: r else p :: ov k v r
def mV(kd:IntKind)(f:β->D)(es:List (Int×β)):List (D×D):=es.map λp=>(.int kd p.1,f p.2)
def q7(f:β->D)(es:List (ByteArray×β)):List (D×D):=es.map λp=>(.str p.1,f p.2)
theorem cN(kd:IntKind)(f:β->D)(k:Int):∀es,Pi (.int kd k) (mV kd f es)=(JY k es).map f
 | []=>rfl
 | p :: r=>by
   have ih:=cN kd f k r;simp only[mV,ul,Pi,JY,JG]at ih ⊢
   cases k==p.1
   ·simpa using ih
   ·rfl
theorem bu(kd:IntKind)(f:β->D)(k:Int)(v:β):∀es,Y8 (.int kd k) (f v) (mV kd f es)=mV kd f (VD k v es)
 | []=>rfl
 | p :: r=>by
   have ih:=bu kd f k v r;simp only[mV,ul,Y8,VD,JG]at ih ⊢
   cases k==p.1
   ·simpa using ih
   ·rfl
theorem cO(f:β->D)(k:ByteArray):∀es,Pi (.str k) (q7 f es)=(aw k es).map f
 | []=>rfl
 | p :: r=>by
   have ih:=cO f k r;simp only[q7,ul,Pi,aw,JG]at ih ⊢
   cases k==p.1
   ·simpa using ih
   ·rfl
theorem jh(f:β->D)(k:ByteArray)(v:β):∀es,Y8 (.str k) (f v) (q7 f es)=q7 f (ov k v es)
 | []=>rfl
 | p :: r=>by
   have ih:=jh f k v r;simp only[q7,ul,Y8,ov,JG]at ih ⊢
   cases k==p.1
   ·simpa using ih
   ·rfl
theorem Pq(kd:IntKind)(f:β->D)(k:Int)(es:List (Int×β)):∀p∈mV kd f es,ID (.int kd k) p.1=true:=by
 intro p hp;obtain⟨q,_,rfl⟩:=List.mem_map.1 hp;simp[ID]
theorem dh(f:β->D)(k:ByteArray)(es:List (ByteArray×β)):∀p∈q7 f es,ID (.str k) p.1=true:=by
 intro p hp;obtain⟨q,_,rfl⟩:=List.mem_map.1 hp;rfl
theorem UB{kd:IntKind}{f:β->D}{k:Int}{es:List (Int×β)}{z:β}{K:D->Bool->Prop}(h:K (f ((JY k es).getD z)) (JY k es).isSome):TO (Pi (.int kd k) (mV kd f es)) (f z) K:=by
 refine⟨⟨f ((JY k es).getD z),(JY k es).isSome,?_,?_,h⟩⟩<;>rw[cN]<;>cases JY k es<;>rfl
theorem mM{f:β->D}{k:ByteArray}{es:List (ByteArray×β)}{z:β}{K:D->Bool->Prop}(h:K (f ((aw k es).getD z)) (aw k es).isSome):TO (Pi (.str k) (q7 f es)) (f z) K:=by
 refine⟨⟨f ((aw k es).getD z),(aw k es).isSome,?_,?_,h⟩⟩<;>rw[cO]<;>cases aw k es<;>rfl
end
open Go.Proofs Go.Shelf Go.Sort
def FD(xs:List Int):List Int:=xs.mergeSort λx y=>decide (x<=y)
theorem length_sortI(xs:List Int):(FD xs).length=xs.length:=by simp[FD,List.length_mergeSort]
theorem JD(xs:List Int):(xs.map (D.int .i64)).flatMap D.cells=xs.map (D.int .i64):=by
 induction xs with
 | nil=>rfl
 | cons x r ih=>simp[D.cells,ih]
theorem Sb{O:Nat->Prop}{w:World}{vals:List Value}{xs:List Int}(h:By O w vals (xs.map (D.int .i64))):vals=xs.map (Value.int .i64):=by
 apply vX;intro j;by_cases b:j<vals.length
 ·have a:j<xs.length:=by have:=h.1;simp at this;omega
  have:=(h.2 j vals[j] (.int .i64 xs[j]) (by simp[b]) (by simp[a])).1
  cases h3:vals[j]with
  | int k n=>rw[h3]at this;cases this;simp[b,a,h3]
  | _=>rw[h3]at this;cases this
 ·have a:¬j<xs.length:=by have:=h.1;simp at this;omega
  rw[uP (by omega),uP (by simp;omega)]
theorem RU(O:Nat->Prop)(w:World)(xs:List Int):By O w (xs.map (Value.int .i64)) (xs.map (D.int .i64)):=by
 refine⟨by simp,λj v y a hy=>?_⟩;simp only[uu]at a hy
 cases h:xs[j]? with
 | none=>simp[h]at a
 | some n=>simp[h]at a hy;subst a;subst hy;exact⟨.int _ _,rfl⟩
theorem q8{P:Program}{ρ:Ren}(J:Lays.n189 P ρ)(q:F0 P (ρ.f 189)=true)(e:TypeId)(xs:List Int)(M:xs.length<4611686018427387904) :
 Fz P (ρ.f 189) [.own 1 e (xs.map (D.int .i64))] [.own 1 e ((FD xs).map (D.int .i64))] (.tup []):=by
 refine⟨q,rfl,λO w vs W _ B N K r=>?_⟩
 obtain⟨v,rfl⟩:∃v,vs=#[v]:=by
  obtain⟨l⟩:=vs
  match l,B with
  | [v],_=>exact⟨v,rfl⟩
 obtain⟨_,_,vals,m,L⟩:=r 0 v _ rfl rfl;rw[JD]at L;obtain rfl:=Sb L
 have fin:∀{w':World}{o:Ending},o=.returned (.tuple #[])->A8 w.heap.size (HQ #[v] [.own 1 e (xs.map (D.int .i64))]) w w'->Bw w' e 1 v (FD xs).length ((FD xs).map (Value.int .i64)) ->
  ∃u,o=.returned u/\A8 w.heap.size (HQ #[v] [.own 1 e (xs.map (D.int .i64))]) w w' /\
  Di (λb=>w.heap.size<=b\/(HQ #[v] [.own 1 e (xs.map (D.int .i64))] b/\¬HQ #[v] [.own 1 e ((FD xs).map (D.int .i64))] b)) (λb=>O b\/HQ #[v] [.own 1 e ((FD xs).map (D.int .i64))] b) w' u (.tup []) /\
  ∀(i:Nat) u' x y,#[v][i]?=some u'->[AV.own 1 e (xs.map (D.int .i64))][i]?=some x->[AV.own 1 e ((FD xs).map (D.int .i64))][i]?=some y->Q6 (λb=>O b\/HQ #[v] [.own 1 e ((FD xs).map (D.int .i64))] b\/Eb u (.tup []) b) w' u' x y:=by
  intro w' o C E hr;refine⟨_,C,E,⟨#[],rfl,rfl,λi u x h=>by simp at h,λi j u u' sz e ys Q o R b h=>by simp at h⟩,λi u' x y f z A=>?_⟩
  match i,f,z,A with
  | 0,f,z,A =>
    simp at f z A;subst f;subst z;subst A;refine⟨⟨by omega,λx hx=>?_,(FD xs).map (Value.int .i64),by simpa using hr,by rw[JD];exact RU _ _ _⟩,_,rfl⟩;obtain⟨n,_,rfl⟩:=List.mem_map.1 hx;rfl
  | i+1,f,_,_=>simp at f
 have none:xs=[]->∀p cap,v=.slice p 0 cap->Calls P (ρ.f 189) #[v] w λo w'=>∃u,o=.returned u/\A8 w.heap.size (HQ #[v] [.own 1 e (xs.map (D.int .i64))]) w w' /\
  Di (λb=>w.heap.size<=b\/(HQ #[v] [.own 1 e (xs.map (D.int .i64))] b/\¬HQ #[v] [.own 1 e ((FD xs).map (D.int .i64))] b)) (λb=>O b\/HQ #[v] [.own 1 e ((FD xs).map (D.int .i64))] b) w' u (.tup []) /\
  ∀(i:Nat) u' x y,#[v][i]?=some u'->[AV.own 1 e (xs.map (D.int .i64))][i]?=some x->[AV.own 1 e ((FD xs).map (D.int .i64))][i]?=some y->Q6 (λb=>O b\/HQ #[v] [.own 1 e ((FD xs).map (D.int .i64))] b\/Eb u (.tup []) b) w' u' x y:=by
  intro F p cap d;subst F;have q:=Any.slices_Sort_int_none J p cap w;rw[<-d]at q;refine q.mono λo w' ⟨C,G⟩=>?_;subst G;refine fin C ⟨rfl,rfl,rfl,uh _,λ_ _ _=>rfl⟩ ?_
  simpa [FD] using m
 rcases m with s|⟨F,_,a,d⟩
 ·rcases s.2 with⟨d,F⟩|⟨g,cap,cur,d,t,E,f,z,A,S⟩
  ·exact none (by simpa using F) _ _ d
  ·rw[ua]at f d;by_cases H:cap=0
   ·have hx:xs=[]:=uJ (by omega);exact none hx (some ⟨g,0,Option.none⟩) cap (by rw[d,hx];rfl)
   have T:Holds (Value.int .i64) w g 0 xs.toArray:=holds_of_blockI E (by simpa using S);have U:g<w.heap.size:=(Array.getElem?_eq_some_iff.1 E).1;have q:=Any.slices_Sort_int J g 0 cap xs w T U M;rw[<-d]at q;refine q.mono λo w' ⟨C,n,os,G⟩=>?_;have c:=grownBy_sortedI (w:=w) (g:=g) (n:=n) (os:=os) (xs.mergeSort λx y=>decide (x<=y)).toArray;rw[<-G]at c;refine fin C ⟨c.os,c.tape,c.output,c.size,λk hk V=>c.block k hk λI=>?_⟩ (.inl ?_)
   ·refine V ⟨0,v,_,rfl,rfl,rfl,?_⟩;rw[d];simp only[Ae,H,if_false];exact I.symm
   ·have:=ownsRow_sortedI (w:=w) (base:=0) (g:=g) (cap:=cap) (n:=n) (e:=e) (os:=os) (cur:=cur) (ss:=xs) (ts:=FD xs) (length_sortI xs) t E f z A;rw[length_sortI,G,d];exact this
 ·exact none (by simpa using F) _ _ d
open Go
theorem ES(n:Nat)(l:List (Nat×AV))(b:Bx)(i:Nat):Ag (Dk n l b) i=if i<n then C1 b i (DN l i)else eK:=by
 unfold Dk;rw[ZC _ _ _ _ (uh _),Nat.sub_self,uQ]
theorem L3(n:Nat)(l:List (Nat×AV))(b:Bx):(Dk n l b).length=n:=Wq _ _ _
theorem Ja:∀(b:Bx)(k:Nat)(v:AV),(C1 b k v).av=v
 | [],_,_=>rfl
 | (t,x,n) :: r,k,v=>by
   unfold C1
   cases Nat.beq t k<;>simp only[Ja r]
section
variable {X:Cx} {G:Nat->Prop} {β β':Nat->Value} {S S':AS} {a a':Act} {w w':World}
theorem SimB.exit(h:SimB X G β S a w)(g:Nat->Prop)(D:S'.length=S.length)(M:a'.tmps.size=a.tmps.size)(N:a'.defers=[])
 (A:A8 w.heap.size (λb=>∃i,g i/\(Ag S i).box.owned=true/\Ae (β i)=some b) w w')
 (c:∀i,¬g i->β' i=β i/\(Ag S' i).box=(Ag S i).box/\(Ag S' i).ver=(Ag S i).ver)
 (E:∀i,g i->(Ag S i).ver<(Ag S' i).ver\/((Ag S' i).ver=(Ag S i).ver/\β' i=β i))
 (n:∀i b,g i->(Ag S' i).box.owned=true->Ae (β' i)=some b->w.heap.size<=b\/((Ag S i).box.owned=true/\Ae (β i)=some b))
 (F:∀i j b,g i->g j->(Ag S' i).box.owned=true->(Ag S' j).box.owned=true->Ae (β' i)=some b->Ae (β' j)=some b->i=j)
 (H:∀i,g i->IU β' (AH S') (OS β' X S') w' i (Ag S' i).box)
 (I:∀i,g i->(Ag S' i).ver≠0\/((Ag S' i).ver=(Ag S i).ver/\β' i=β i/\(Ag S i).box≠.none))
 (s:∀(t:Nat) v,a'.tmps[t]?=some v->(Ag S' t).av=.any\/((Ag S' t).av=(Ag S t).av/\(Ag S t).av.guards=[]/\a.tmps[t]?=some v)\/((Ag S' t).av.guards=[]/\JX β' (AH S') (OS β' X S') w' a'.tmps v (Ag S' t).av))
 (V:∀t,(Ag S' t).av.guards=[]):SimB X G β' S' a' w':=by
 have O:∀b,b<w.heap.size->OS β' X S' b->OS β X S b:=by
  rintro b x (d|d|⟨i,d,f⟩)
  ·exact .inl d
  ·exact .inr (.inl d)
  ·by_cases l:g i
   ·rcases n i b l d f with m|⟨m,r⟩
    ·omega
    ·exact .inr (.inr ⟨i,m,r⟩)
   ·obtain⟨o,p,_⟩:=c i l;exact .inr (.inr ⟨i,by rw[<-p];exact d,by rw[<-o];exact f⟩)
 have hk:BA (OS β X S) (OS β' X S') w w':=⟨A.size,O,λb x ho=>A.block b x λ⟨i,_,d,f⟩=>ho (.inr (.inr ⟨i,d,f⟩))⟩
 have U:∀i,AH S i<AH S' i\/(AH S' i=AH S i/\β' i=β i):=λi=>by
  by_cases l:g i
  ·exact E i l
  ·obtain⟨o,_,J⟩:=c i l;exact .inr ⟨J,o⟩
 refine⟨by rw[M,h.len,D],N,h.below.trans (A.weaken h.hbase λk hk W=>?_),uK h.hbase A.size,h.o₀,λb K=>⟨(h.rs b K).1,uw (h.rs b K).2 A.size⟩,λt v Y=>?_,λi=>?_,λi b d f=>?_,λi j b d f m r=>?_,λt u L=>?_,λi d f=>?_⟩
 ·rintro⟨i,_,d,f⟩;rcases(h.mine i k d f).1 with m|m
  ·omega
  ·exact W m
 ·rcases s t v Y with e|⟨e,p,J⟩|⟨_,e⟩
  ·rw[e];trivial
  ·rw[e];exact JX.mono hk U (λu L=>by rw[p]at L;cases L) (h.slots t v J)
  ·exact e
 ·by_cases l:g i
  ·exact H i l
  ·obtain⟨o,p,_⟩:=c i l;rw[p];refine IU.mono hk U o (λb x ho P=>A.block b x ?_) (h.boxes i);rintro⟨j,y,d,f⟩;exact l (h.inj i j b ho d P f▸y)
 ·by_cases l:g i
  ·rcases n i b l d f with m|⟨m,r⟩
   ·exact⟨.inl (uK h.hbase m),λhr=>by have:=(h.rs b hr).2;omega⟩
   ·exact h.mine i b m r
  ·obtain⟨o,p,_⟩:=c i l;exact h.mine i b (by rw[<-p];exact d) (by rw[<-o];exact f)
 ·have z:∀i,¬g i->(Ag S' i).box.owned=true->Ae (β' i)=some b->(Ag S i).box.owned=true/\Ae (β i)=some b:=λi l d f=>by
   obtain⟨o,p,_⟩:=c i l;exact⟨by rw[<-p];exact d,by rw[<-o];exact f⟩
  by_cases Q:g i
  ·by_cases y:g j
   ·exact F i j b Q y d f m r
   ·obtain⟨B,C⟩:=z j y f r;rcases n i b Q d m with q|⟨R,T⟩
    ·have:=h.blk B C;omega
    ·exact h.inj i j b R B T C
  ·obtain⟨B,C⟩:=z i Q d m;by_cases y:g j
   ·rcases n j b y f r with q|⟨R,T⟩
    ·have:=h.blk B C;omega
    ·exact h.inj i j b B R C T
   ·obtain⟨Z,m2⟩:=z j y f r;exact h.inj i j b B Z C m2
 ·rw[V t]at L;cases L
 ·by_cases l:g i
  ·rcases I i l with m|⟨m,r,h5⟩
   ·exact absurd d m
   ·rw[r];exact h.ini i (by rw[<-m];exact d) h5
  ·obtain⟨o,p,J⟩:=c i l;rw[o];exact h.ini i (by rw[<-J];exact d) (by rw[<-p];exact f)
theorem SimB.exitRow{n q sz v:Nat}{e:TypeId}{xs ys:List D}{L:List (Nat×AV)}{B:Bx}(h:SimB X (λ_=>False) β (Dk n L B) a w)(K:List Nat)(o:q<n)(H:∀u,C1 B q u=⟨u,.row sz e xs,v⟩)(s:∀p∈L,p.2.guards=[])
 (R:a'.tmps.size=a.tmps.size) (T:a'.defers=[]) (hK:∀k∈K,a'.tmps[k]?=a.tmps[k]?)
 (g:A8 w.heap.size (λb=>Ae (β q)=some b) w w') (z:∀y∈ys,y.cells.length=sz)
 (hr:∃vals,Bw w' e sz (β q) ys.length vals/\∀O:Nat->Prop,(∀b,O b->OS β X (Dk n L B) b)->By O w' vals (ys.flatMap D.cells)) :
 SimB X (λ_=>False) β (Dk n (L.filter λp=>K.contains p.1) (B.map λp=>if p.1=q then(p.1,.row sz e ys,p.2.2)else p)) a' w':=by
 have I:∀k,DN (L.filter λp=>K.contains p.1) k=if K.contains k then DN L k else .any:=by
  intro k;clear s h hr
  induction L with
  | nil=>simp[DN]
  | cons p r ih =>
    obtain⟨t,x⟩:=p;rw[xc];by_cases z:K.contains t=true
    ·rw[uk (by simpa using z)];unfold DN
     cases g:Nat.beq t k with
     | true =>
       have:=vj g;subst this;simp only[z,if_true]
     | false=>simp only[ih]
    ·rw[uo (by simpa using z),ih];by_cases hk:K.contains k=true
     ·have:Nat.beq t k=false:=by
       cases g:Nat.beq t k with
       | true=>rw[vj g]at z;exact absurd hk z
       | false=>rfl
      rw[uk hk,uk hk]
      conv=>rhs;unfold DN
      simp only[this]
     ·rw[uo hk,uo hk]
 have A:∀(B:Bx) k u,C1 (B.map λp=>if p.1=q then(p.1,.row sz e ys,p.2.2)else p) k u=if k=q/\(∃p∈B,p.1=q)then⟨u,.row sz e ys,(C1 B k u).ver⟩else C1 B k u:=by
  intro B k u
  induction B with
  | nil=>simp[C1]
  | cons p r ih =>
    obtain⟨t,x,m⟩:=p;rw[ul];by_cases P:t=q
    ·subst P;simp only[if_true];unfold C1
     cases g:Nat.beq t k with
     | true =>
       have:=vj g;subst this;simp
     | false =>
       have U:k≠t:=λe=>by subst e;simp at g
       simp only[ih];simp[U]
    ·simp only[P,if_false];unfold C1
     cases g:Nat.beq t k with
     | true =>
       have:=vj g;subst this;rw[uo (λh=>P h.1)]
     | false =>
       have e1:(∃p∈(t,x,m) :: r,p.1=q)↔∃p∈r,p.1=q:=⟨λ⟨p,hp,o⟩=>by
        rcases List.mem_cons.1 hp with V|V
        ·rw[V]at o;exact absurd o P
        ·exact⟨p,V,o⟩,λ⟨p,hp,o⟩=>⟨p,vK _ hp,o⟩⟩
       show C1 _ k u=if _ then _ else _
       rw[ih];simp only[e1]
 have J:∃p∈B,p.1=q:=by
  have C:=H .any;clear A H hr h
  induction B with
  | nil=>simp[C1]at C
  | cons p r ih =>
    obtain⟨t,x,m⟩:=p;unfold C1 at C
    cases g:Nat.beq t q with
    | true=>exact⟨_,wh ..,vj g⟩
    | false =>
      rw[g]at C;obtain⟨p,hp,he⟩:=ih C;exact⟨p,vK _ hp,he⟩
 have l:∀i,Ag (Dk n (L.filter λp=>K.contains p.1) (B.map λp=>if p.1=q then(p.1,.row sz e ys,p.2.2)else p)) i=if i<n then(if i=q then⟨if K.contains i then DN L i else .any,.row sz e ys,v⟩else C1 B i (if K.contains i then DN L i else .any))else eK:=by
  intro i;rw[ES,I,A];by_cases c:i<n
  ·rw[uk c,uk c];by_cases d:i=q
   ·subst d;rw[uk ⟨rfl,J⟩,uk rfl,H]
   ·rw[uo (λh=>d h.1),uo d]
  ·rw[uo c,uo c]
 have W:∀i u u',(C1 B i u).box=(C1 B i u').box/\(C1 B i u).ver=(C1 B i u').ver:=by
  intro i u u';clear A H hr h J l
  induction B with
  | nil=>exact⟨rfl,rfl⟩
  | cons p r ih =>
    obtain⟨t,x,m⟩:=p;unfold C1
    cases Nat.beq t i
    ·exact ih
    ·exact⟨rfl,rfl⟩
 have f:Ag (Dk n L B) q=⟨DN L q,.row sz e xs,v⟩:=by rw[ES,uk o,H]
 have M:∀k,(DN L k).guards=[]:=by
  intro k;clear I h hr l f
  induction L with
  | nil=>rfl
  | cons p r ih =>
    obtain⟨t,x⟩:=p;unfold DN
    cases Nat.beq t k with
    | true=>exact s _ (wh ..)
    | false=>exact ih λp hp=>s p (vK _ hp)
 have N:∀i,(Ag (Dk n (L.filter λp=>K.contains p.1) (B.map λp=>if p.1=q then(p.1,.row sz e ys,p.2.2)else p)) i).av=if i<n then(if K.contains i then DN L i else .any)else .any:=by
  intro i;rw[l];by_cases c:i<n
  ·rw[uk c,uk c];by_cases d:i=q
   ·rw[uk d]
   ·rw[uo d,Ja]
  ·rw[uo c,uo c];rfl
 have E:∀i,i≠q->(Ag (Dk n (L.filter λp=>K.contains p.1) (B.map λp=>if p.1=q then(p.1,.row sz e ys,p.2.2)else p)) i).box=(Ag (Dk n L B) i).box/\(Ag (Dk n (L.filter λp=>K.contains p.1) (B.map λp=>if p.1=q then(p.1,.row sz e ys,p.2.2)else p)) i).ver=(Ag (Dk n L B) i).ver:=by
  intro i d;rw[l,ES];by_cases c:i<n
  ·rw[uk c,uk c,uo d];exact W _ _ _
  ·rw[uo c,uo c];exact⟨rfl,rfl⟩
 have F:Ag (Dk n (L.filter λp=>K.contains p.1) (B.map λp=>if p.1=q then(p.1,.row sz e ys,p.2.2)else p)) q=⟨if K.contains q then DN L q else .any,.row sz e ys,v⟩:=by rw[l,uk o,uk rfl]
 refine h.exit (λi=>i=q) (by rw[L3,L3]) R T (g.weaken (uh _) λk _ hk=>λhh=>hk ⟨q,rfl,by rw[f];rfl,hh⟩) (λi c=>⟨rfl,(E i c).1,(E i c).2⟩) (λi c=>by subst c;rw[F,f];exact .inr ⟨rfl,rfl⟩)
  (λi b c C Y=>by subst c;exact .inr ⟨by rw[f];rfl,Y⟩) (λi j b c Q _ _ _ _=>c.trans Q.symm) (λi c=>?_) (λi c=>by subst c;exact .inr ⟨by rw[F,f],rfl,by rw[f];simp⟩) (λt u hu=>?_) (λt=>?_)
 ·subst c;rw[F];have Z:=h.boxes i;rw[f]at Z;obtain⟨vals,C,Y⟩:=hr;refine⟨Z.1,z,vals,C,Y _ ?_⟩;rintro b (h3|h3|⟨j,h3,h4⟩)
  ·exact .inl h3
  ·exact .inr (.inl h3)
  ·refine .inr (.inr ⟨j,?_,h4⟩);by_cases Q:j=i
   ·subst Q;rw[f];rfl
   ·rw[<-(E j Q).1];exact h3
 ·rw[N];by_cases c:t<n
  ·rw[uk c];by_cases hk:K.contains t=true
   ·rw[uk hk];refine .inr (.inl ⟨?_,?_,?_⟩)
    ·rw[ES,uk c,Ja]
    ·rw[ES,uk c,Ja];exact M t
    ·rw[<-hK t (by simpa using hk)];exact hu
   ·rw[uo hk];exact .inl rfl
  ·rw[uo c];exact .inl rfl
 ·rw[N];by_cases c:t<n
  ·rw[uk c];by_cases hk:K.contains t=true
   ·rw[uk hk];exact M t
   ·rw[uo hk];rfl
  ·rw[uo c];rfl
theorem MS(K:List Nat):∀(L:List (Nat×AV))(k:Nat),DN (L.filter λp=>K.contains p.1) k=if K.contains k then DN L k else .any
 | [],k=>by simp[DN]
 | (t,x) :: r,k=>by
   rw[xc];by_cases b:K.contains t=true
   ·rw[uk (by simpa using b)];unfold DN
    cases hb:Nat.beq t k with
    | true =>
      have:=vj hb;subst this;simp only[b,if_true]
    | false=>simp only[MS K r]
   ·rw[uo (by simpa using b),MS K r];by_cases hk:K.contains k=true
    ·have:Nat.beq t k=false:=by
      cases hb:Nat.beq t k with
      | true=>rw[vj hb]at b;exact absurd hk b
      | false=>rfl
     rw[uk hk,uk hk]
     conv=>rhs;unfold DN
     simp only[this]
    ·rw[uo hk,uo hk]
theorem XZ(t:Nat)(x:AV):∀(L:List (Nat×AV))(k:Nat),(∀p∈L,p.1≠t)->DN (L++[(t,x)]) k=if k=t then x else DN L k
 | [],k,_=>by
   show DN [(t,x)] k=_;unfold DN
   cases hb:Nat.beq t k with
   | true=>rw[uk (vj hb).symm]
   | false =>
     rw[uo (λe=>by subst e;simp at hb)];rfl
 | (s,y) :: r,k,h=>by
   show DN ((s,y) :: (r++[(t,x)])) k=_;unfold DN
   cases hb:Nat.beq s k with
   | true =>
     have e:=vj hb;subst e;rw[uo (h (s,y) (wh ..))]
   | false=>exact XZ t x r k λp hp=>h p (vK _ hp)
theorem Yb(q:Nat)(x:BJ)(m:Nat):∀(B:Bx)(k:Nat)(u:AV),(∀p∈B,p.1≠q)->C1 (B++[(q,x,m)]) k u=if k=q then⟨u,x,m⟩else C1 B k u
 | [],k,u,_=>by
   show C1 [(q,x,m)] k u=_;unfold C1
   cases hb:Nat.beq q k with
   | true=>rw[uk (vj hb).symm]
   | false =>
     rw[uo (λe=>by subst e;simp at hb)];rfl
 | (s,y,j) :: r,k,u,h=>by
   show C1 ((s,y,j) :: (r++[(q,x,m)])) k u=_;unfold C1
   cases hb:Nat.beq s k with
   | true =>
     have e:=vj hb;subst e;rw[uo (h (s,y,j) (wh ..))]
   | false=>exact Yb q x m r k u λp hp=>h p (vK _ hp)
theorem Z6(q:Nat):∀(B:Bx)(u:AV),(∀p∈B,p.1≠q)->C1 B q u=⟨u,.none,0⟩
 | [],_,_=>rfl
 | (s,y,j) :: r,u,h=>by
   unfold C1
   cases hb:Nat.beq s q with
   | true=>exact absurd (vj hb) (h (s,y,j) (wh ..))
   | false=>exact Z6 q r u λp hp=>h p (vK _ hp)
theorem UA{L:List (Nat×AV)}(h:∀p∈L,p.2.guards=[])(k:Nat):(DN L k).guards=[]:=by
 induction L with
 | nil=>rfl
 | cons p r ih =>
   obtain⟨t,x⟩:=p;unfold DN
   cases Nat.beq t k with
   | true=>exact h _ (wh ..)
   | false=>exact ih λp hp=>h p (vK _ hp)
theorem Wr(i:Nat)(u u':AV)(B:Bx):(C1 B i u).box=(C1 B i u').box/\(C1 B i u).ver=(C1 B i u').ver:=by
 induction B with
 | nil=>exact⟨rfl,rfl⟩
 | cons p r ih =>
   obtain⟨t,x,m⟩:=p;unfold C1
   cases Nat.beq t i
   ·exact ih
   ·exact⟨rfl,rfl⟩
theorem SimB.exitNew{n q sz t:Nat}{e:TypeId}{ys:List D}{L:List (Nat×AV)}{B:Bx}{v:Value}(h:SimB X (λ_=>False) β (Dk n L B) a w)(K:List Nat)(I:q<n)(V:t<n)(J:∀p∈B,p.1≠q)(P:∀p∈L,p.1≠t)(m:∀p∈L,p.2.guards=[])
 (A:a'.tmps.size=a.tmps.size) (C:a'.defers=[]) (hK:∀k∈K,a'.tmps[k]?=a.tmps[k]?) (Q:a'.tmps[t]?=some v) (o:RowKit.Below w.heap.size w w') (R:0<sz) (T:∀y∈ys,y.cells.length=sz) (r:∀b,Ae v=some b->w.heap.size<=b)
 (hr:∃vals,Bw w' e sz v ys.length vals/\∀O:Nat->Prop,By O w' vals (ys.flatMap D.cells)) :
 SimB X (λ_=>False) (Lg β q v) (Dk n ((L.filter λp=>K.contains p.1)++[(t,.sl q 1)]) (B++[(q,.row sz e ys,1)])) a' w':=by
 have E:∀p∈L.filter λp=>K.contains p.1,p.1≠t:=λp hp=>P p (List.mem_filter.1 hp).1
 have l:∀i,Ag (Dk n ((L.filter λp=>K.contains p.1)++[(t,.sl q 1)]) (B++[(q,.row sz e ys,1)])) i=if i<n then(if i=q then⟨if i=t then .sl q 1 else if K.contains i then DN L i else .any,.row sz e ys,1⟩else C1 B i (if i=t then .sl q 1 else if K.contains i then DN L i else .any))else eK:=by
  intro i;rw[ES,XZ _ _ _ _ E,MS,Yb _ _ _ _ _ _ J]
 have F:Ag (Dk n L B) q=⟨DN L q,.none,0⟩:=by rw[ES,uk I,Z6 q B _ J]
 have f:(Ag (Dk n ((L.filter λp=>K.contains p.1)++[(t,.sl q 1)]) (B++[(q,.row sz e ys,1)])) q).box=.row sz e ys/\(Ag (Dk n ((L.filter λp=>K.contains p.1)++[(t,.sl q 1)]) (B++[(q,.row sz e ys,1)])) q).ver=1:=by
  rw[l,uk I,uk rfl];exact⟨rfl,rfl⟩
 have x:∀i,i≠q->(Ag (Dk n ((L.filter λp=>K.contains p.1)++[(t,.sl q 1)]) (B++[(q,.row sz e ys,1)])) i).box=(Ag (Dk n L B) i).box/\(Ag (Dk n ((L.filter λp=>K.contains p.1)++[(t,.sl q 1)]) (B++[(q,.row sz e ys,1)])) i).ver=(Ag (Dk n L B) i).ver:=by
  intro i g;rw[l,ES];by_cases c:i<n
  ·rw[uk c,uk c,uo g];exact Wr _ _ _ _
  ·rw[uo c,uo c];exact⟨rfl,rfl⟩
 have z:∀i,(Ag (Dk n ((L.filter λp=>K.contains p.1)++[(t,.sl q 1)]) (B++[(q,.row sz e ys,1)])) i).av=if i<n then(if i=t then .sl q 1 else if K.contains i then DN L i else .any)else .any:=by
  intro i;rw[l];by_cases c:i<n
  ·rw[uk c,uk c];by_cases g:i=q
   ·rw[uk g]
   ·rw[uo g,Ja]
  ·rw[uo c,uo c];rfl
 refine h.exit (λi=>i=q) (by rw[L3,L3]) A C ⟨o.os,o.tape,o.output,o.size,λk hk _=>o.block k hk⟩ (λi c=>⟨by simp[Lg,c],(x i c).1,(x i c).2⟩) (λi c=>by subst c;rw[f.2,F];exact .inl (Nat.zero_lt_one))
  (λi b c M H=>by subst c;exact .inl (r b (by simpa [Lg] using H))) (λi j b c U _ _ _ _=>c.trans U.symm) (λi c=>?_) (λi c=>by subst c;exact .inl (by rw[f.2];exact Nat.one_ne_zero)) (λs u N=>?_) (λs=>?_)
 ·subst c;rw[f.1];obtain⟨vals,M,H⟩:=hr;exact⟨R,T,vals,by simpa [Lg] using M,H _⟩
 ·rw[z];by_cases c:s<n
  ·rw[uk c];by_cases d:s=t
   ·subst d;rw[uk rfl];refine .inr (.inr ⟨rfl,?_⟩);have:u=v:=uc (N.symm.trans Q);subst this;exact⟨by simp only[AH];rw[f.2];exact uh _,λ_=>by simp[Lg]⟩
   ·rw[uo d];by_cases hk:K.contains s=true
    ·rw[uk hk];refine .inr (.inl ⟨?_,?_,?_⟩)
     ·rw[ES,uk c,Ja]
     ·rw[ES,uk c,Ja];exact UA m s
     ·rw[<-hK s (by simpa using hk)];exact N
    ·rw[uo hk];exact .inl rfl
  ·rw[uo c];exact .inl rfl
 ·rw[z];by_cases c:s<n
  ·rw[uk c];by_cases d:s=t
   ·rw[uk d];rfl
   ·rw[uo d];by_cases hk:K.contains s=true
    ·rw[uk hk];exact UA m s
    ·rw[uo hk];rfl
  ·rw[uo c];rfl
theorem SimB.exitApp{n q vb j sz m mv H:Nat}{e T:TypeId}{xs ys:List D}{L:List (Nat×AV)}{B:Bx}{cs:List C}{u':Value}{cv:Array Value}(h:SimB X (λ_=>False) β (Dk n L B) a w)(K:List Nat)(hq:q<n)(U:vb<n)(s:vb≠q)
 (hBq:∀u,C1 B q u=⟨u,.row sz e xs,m⟩) (hBv:∀u,C1 B vb u=⟨u,.var cs,mv⟩) (hgd:∀p∈L,p.2.guards=[])
 (z:∀i u,i<n->C1 (B.map λp=>if p.1=q then(q,.row sz e ys,m+1)else if p.1=vb then(vb,.var (cs.set j (.sl q (m+1))),p.2.2)else p) i u=if i=q then⟨u,.row sz e ys,m+1⟩else if i=vb then⟨u,.var (cs.set j (.sl q (m+1))),mv⟩else C1 B i u)
 (hsz:a'.tmps.size=a.tmps.size) (hdf:a'.defers=[]) (hK:∀k∈K,a'.tmps[k]?=a.tmps[k]?) (Z:β vb=.pointer (some ⟨H,0,none⟩)) (hw0:w.heap[H]?=some (.cells cv T (0,0))) (hw1:w'.heap[H]?=some (.cells (cv.setIfInBounds j u') T (0,0)))
 (V:A8 w.heap.size (λb=>Ae (β q)=some b\/b=H) w w') (A:∀b,Ae u'=some b->Ae (β q)=some b\/w.heap.size<=b) (M:∀y∈ys,y.cells.length=sz)
 (hr:∃vals,Bw w' e sz u' ys.length vals/\∀O:Nat->Prop,(∀b,b<w.heap.size->O b->OS β X (Dk n L B) b)->(∀b,w.heap.size<=b->O b->Ae u'=some b)->By O w' vals (ys.flatMap D.cells)) :
 SimB X (λ_=>False) (Lg β q u') (Dk n (L.filter λp=>K.contains p.1) (B.map λp=>if p.1=q then(q,.row sz e ys,m+1)else if p.1=vb then(vb,.var (cs.set j (.sl q (m+1))),p.2.2)else p)) a' w':=by
 obtain⟨B',eB⟩:∃B',B'=B.map λp=>if p.1=q then(q,.row sz e ys,m+1)else if p.1=vb then(vb,.var (cs.set j (.sl q (m+1))),p.2.2)else p:=⟨_,rfl⟩
 rw[<-eB]at z ⊢;clear eB;obtain⟨S',eS⟩:∃S',S'=Dk n (L.filter λp=>K.contains p.1) B':=⟨_,rfl⟩;have N:∀i,Ag S' i=if i<n then C1 B' i (if K.contains i then DN L i else .any)else eK:=λi=>by rw[eS,ES,MS]
 rw[<-eS];have r:Ag (Dk n L B) q=⟨DN L q,.row sz e xs,m⟩:=by rw[ES,uk hq,hBq]
 have g:Ag (Dk n L B) vb=⟨DN L vb,.var cs,mv⟩:=by rw[ES,uk U,hBv]
 have E:(Ag S' q).box=.row sz e ys/\(Ag S' q).ver=m+1:=by rw[N,uk hq,z q _ hq,uk rfl];exact⟨rfl,rfl⟩
 have P:(Ag S' vb).box=.var (cs.set j (.sl q (m+1)))/\(Ag S' vb).ver=mv:=by rw[N,uk U,z vb _ U,uo s,uk rfl];exact⟨rfl,rfl⟩
 have W:∀i,i≠q->i≠vb->(Ag S' i).box=(Ag (Dk n L B) i).box/\(Ag S' i).ver=(Ag (Dk n L B) i).ver:=by
  intro i l f;rw[N,ES];by_cases d:i<n
  ·rw[uk d,uk d,z i _ d,uo l,uo f];exact Wr _ _ _ _
  ·rw[uo d,uo d];exact⟨rfl,rfl⟩
 have hav:∀i,(Ag S' i).av=if i<n then(if K.contains i then DN L i else .any)else .any:=by
  intro i;rw[N];by_cases d:i<n
  ·rw[uk d,uk d,z i _ d];by_cases l:i=q
   ·rw[uk l]
   ·rw[uo l];by_cases f:i=vb
    ·rw[uk f]
    ·rw[uo f,Ja]
  ·rw[uo d,uo d];rfl
 have F:Lg β q u' q=u':=by simp[Lg]
 have o:∀i,i≠q->Lg β q u' i=β i:=λi d=>by simp[Lg,d]
 have hbv:H<w.heap.size:=Dz hw0;have hqv:Ae (β q)≠some H:=λe=>s (h.inj vb q H (by rw[g];rfl) (by rw[r];rfl) (by rw[Z];rfl) e)
 have Y:∀b,OS (Lg β q u') X S' b->(b<w.heap.size->OS β X (Dk n L B) b)/\(w.heap.size<=b->Ae u'=some b):=by
  rintro b (l|l|⟨i,l,f⟩)
  ·exact⟨λ_=>.inl l,λQ=>by have:=(h.o₀ b l).1;have:=h.hbase;omega⟩
  ·exact⟨λ_=>.inr (.inl l),λQ=>by have:=(h.rs b l).2;omega⟩
  ·by_cases d:i=q
   ·subst d;rw[F]at f;refine⟨λx=>?_,λ_=>f⟩;rcases A b f with R|R
    ·exact .inr (.inr ⟨i,by rw[r];rfl,R⟩)
    ·omega
   ·rw[o i d]at f
    have ho:(Ag (Dk n L B) i).box.owned=true:=by
     by_cases I:i=vb
     ·rw[I,g];rfl
     ·rw[<-(W i d I).1];exact l
    exact⟨λ_=>.inr (.inr ⟨i,ho,f⟩),λQ=>by have:=h.blk ho f;omega⟩
 refine h.exit (λi=>i=q\/i=vb) (by rw[eS,L3,L3]) hsz hdf (V.weaken (uh _) λk _ hk=>?_) (λi d=>⟨o i (λe=>d (.inl e)),W i (λe=>d (.inl e)) (λe=>d (.inr e))⟩)
  (λi d=>?_) (λi b d l f=>?_) (λi j b d hj l f R h4=>?_) (λi d=>?_) (λi d=>?_) (λt u hu=>?_) (λt=>?_)
 ·rintro(hh|hh)
  ·exact hk ⟨q,.inl rfl,by rw[r];rfl,hh⟩
  ·exact hk ⟨vb,.inr rfl,by rw[g];rfl,by rw[Z,hh];rfl⟩
 ·rcases d with rfl|rfl
  ·rw[E.2,r];exact .inl (wm _)
  ·rw[P.2,g];exact .inr ⟨rfl,o _ s⟩
 ·rcases d with rfl|rfl
  ·rw[F]at f;rcases A b f with R|R
   ·exact .inr ⟨by rw[r];rfl,R⟩
   ·exact .inl R
  ·rw[o _ s]at f;exact .inr ⟨by rw[g];rfl,f⟩
 ·have hx:∀b,Ae (Lg β q u' q)=some b->Ae (Lg β q u' vb)=some b->False:=λb e1 e2=>by
   rw[F]at e1;rw[o vb s,Z]at e2;have e2:H=b:=by simpa [Ae] using e2
   subst e2;rcases A _ e1 with h5|h5
   ·exact hqv h5
   ·omega
  rcases d with rfl|rfl<;>rcases hj with rfl|rfl
  ·rfl
  ·exact(hx b R h4).elim
  ·exact(hx b h4 R).elim
  ·rfl
 ·rcases d with rfl|rfl
  ·rw[E.1];have h0:=h.boxes i;rw[r]at h0;obtain⟨vals,l,f⟩:=hr;exact⟨h0.1,M,vals,by rw[F];exact l,f _ (λb x V=>(Y b V).1 x) (λb Q V=>(Y b V).2 Q)⟩
  ·rw[P.1];have h0:=h.boxes i;rw[g]at h0;obtain⟨b0,vals,T0,k1,k2,k3,k4⟩:=h0;rw[Z]at k1;have k1:H=b0:=by simpa using k1
   subst k1;rw[hw0]at k2;obtain⟨rfl,rfl⟩:cv=vals/\T=T0:=by simpa using k2
   refine⟨H,_,T,by rw[o i s];exact Z,hw1,by simp[k3],λt v c I M=>?_⟩;have hkk:BA (OS β X (Dk n L B)) (OS (Lg β q u') X S') w w':=⟨V.size,λb x hb'=>(Y b hb').1 x,λb x ho=>V.block b x λhh=>ho (hh.elim (λe=>.inr (.inr ⟨q,by rw[r];rfl,e⟩)) λe=>.inr (.inr ⟨i,by rw[g];rfl,by rw[Z,e];rfl⟩))⟩
   have hvr:∀J,AH (Dk n L B) J<AH S' J\/(AH S' J=AH (Dk n L B) J/\Lg β q u' J=β J):=λJ=>by
    by_cases l:J=q
    ·subst l;left;show(Ag _ _).ver<(Ag _ _).ver;rw[r,E.2];exact wm _
    ·by_cases f:J=i
     ·subst f;right;exact⟨by show(Ag _ _).ver=(Ag _ _).ver;rw[g,P.2],o _ l⟩
     ·right;exact⟨(W J l f).2,o _ l⟩
   rw[vk]at M;rw[vB]at I;by_cases ht:j=t
   ·subst ht;rw[uk rfl]at M I;split at M
    ·split at I
     ·obtain rfl:=uc M;obtain rfl:=uc I;exact⟨by show m+1<=(Ag S' q).ver;rw[E.2];exact uh _,λ_=>by rw[F]⟩
     ·cases I
    ·cases M
   ·rw[uo ht]at M I;exact(k4 t v c I M).mono hkk hvr
 ·rcases d with rfl|rfl
  ·exact .inl (by rw[E.2];exact Nat.succ_ne_zero _)
  ·exact .inr ⟨by rw[P.2,g],o _ s,by rw[g];simp⟩
 ·rw[hav];by_cases d:t<n
  ·rw[uk d];by_cases hk:K.contains t=true
   ·rw[uk hk];refine .inr (.inl ⟨?_,?_,?_⟩)
    ·rw[ES,uk d,Ja]
    ·rw[ES,uk d,Ja];exact UA hgd t
    ·rw[<-hK t (by simpa using hk)];exact hu
   ·rw[uo hk];exact .inl rfl
  ·rw[uo d];exact .inl rfl
 ·rw[hav];by_cases d:t<n
  ·rw[uk d];by_cases hk:K.contains t=true
   ·rw[uk hk];exact UA hgd t
   ·rw[uo hk];rfl
  ·rw[uo d];rfl
end
theorem Zz(w:World):grow w #[]=w:=by simp[grow]
theorem XY(xs:List Int):(Lib.compact xs).length<=xs.length:=by
 unfold Lib.compact Lib.compactUpTo;rw[ua];exact uK (vZ _ _) (by simp)
theorem mQ{P:Program}{ρ:Ren}(W:Lays2.n20 P ρ)(s:F0 P (ρ.f 20)=true)(e:TypeId)(xs:List Int)(hl:xs.length<4611686018427387904) :
 Fz P (ρ.f 20) [.own 1 e (xs.map (D.int .i64))] [.any] (.own 1 e ((Lib.compact xs).map (D.int .i64))):=by
 refine⟨s,rfl,λO w vs hO _ E hMO X t=>?_⟩
 obtain⟨v,rfl⟩:∃v,vs=#[v]:=by
  obtain⟨l⟩:=vs
  match l,E with
  | [v],_=>exact⟨v,rfl⟩
 obtain⟨_,_,vals,q,Y⟩:=t 0 v _ rfl rfl;rw[JD]at Y;obtain rfl:=Sb Y;have F:∀b,Ae v=some b->HQ #[v] [.own 1 e (xs.map (D.int .i64))] b:=λb C=>⟨0,v,_,rfl,rfl,rfl,C⟩
 have G:∀b,¬HQ #[v] [.any] b:=by
  rintro b ⟨i,u,x,o,r,m,_⟩
  match i,o,r with
  | 0,o,r=>simp at r;subst r;simp[AV.mut]at m
  | i+1,o,r=>simp at o
 have fin:∀{w':World}{z:Ending}{u:Value},z=.returned u->(∀b,Ae u=some b->Ae v=some b)->A8 w.heap.size (HQ #[v] [.own 1 e (xs.map (D.int .i64))]) w w'->Bw w' e 1 u (Lib.compact xs).length ((Lib.compact xs).map (Value.int .i64)) ->
  ∃u,z=.returned u/\A8 w.heap.size (HQ #[v] [.own 1 e (xs.map (D.int .i64))]) w w' /\
  Di (λb=>w.heap.size<=b\/(HQ #[v] [.own 1 e (xs.map (D.int .i64))] b/\¬HQ #[v] [.any] b)) (λb=>O b\/HQ #[v] [.any] b) w' u (.own 1 e ((Lib.compact xs).map (D.int .i64))) /\
  ∀(i:Nat) u' x y,#[v][i]?=some u'->[AV.own 1 e (xs.map (D.int .i64))][i]?=some x->[AV.any][i]?=some y->Q6 (λb=>O b\/HQ #[v] [.any] b\/Eb u (.own 1 e ((Lib.compact xs).map (D.int .i64))) b) w' u' x y:=by
  intro w' z u H L C hr;refine⟨u,H,C,⟨by omega,λx hx=>?_,λb d=>.inr ⟨F b (L b d),G b⟩,_,by simpa using hr,by rw[JD];exact RU _ _ _⟩,λi u' x y o r m=>?_⟩
  ·obtain⟨n,_,rfl⟩:=List.mem_map.1 hx;rfl
  ·match i,m with
   | 0,m=>simp at m;subst m;trivial
   | i+1,m=>simp at m
 have none:xs=[]->∀p cap,v=.slice p 0 cap->Calls P (ρ.f 20) #[v] w λz w'=>∃u,z=.returned u/\A8 w.heap.size (HQ #[v] [.own 1 e (xs.map (D.int .i64))]) w w' /\
  Di (λb=>w.heap.size<=b\/(HQ #[v] [.own 1 e (xs.map (D.int .i64))] b/\¬HQ #[v] [.any] b)) (λb=>O b\/HQ #[v] [.any] b) w' u (.own 1 e ((Lib.compact xs).map (D.int .i64))) /\
  ∀(i:Nat) u' x y,#[v][i]?=some u'->[AV.own 1 e (xs.map (D.int .i64))][i]?=some x->[AV.any][i]?=some y->Q6 (λb=>O b\/HQ #[v] [.any] b\/Eb u (.own 1 e ((Lib.compact xs).map (D.int .i64))) b) w' u' x y:=by
  intro I p cap f;subst I;have s:=Any.slices_Compact_int_empty W p cap w;rw[<-f]at s;refine s.mono λz w' ⟨H,J⟩=>?_;subst J;refine fin H (λ_ h=>h) ⟨rfl,rfl,rfl,uh _,λ_ _ _=>rfl⟩ ?_
  simpa [Lib.compact,Lib.compactUpTo] using q
 rcases q with A|⟨I,_,a,f⟩
 ·rcases A.2 with⟨f,I⟩|⟨g,cap,cur,f,B,C,o,r,m,h4⟩
  ·exact none (by simpa using I) _ _ f
  ·rw[ua]at o f;by_cases M:cap=0
   ·have hx:xs=[]:=uJ (by omega);exact none hx (some ⟨g,0,Option.none⟩) cap (by rw[f,hx];rfl)
   have hH:Holds (Value.int .i64) w g 0 xs.toArray:=holds_of_blockI C (by simpa using h4);have s:=Any.slices_Compact_int W g 0 cap xs w hH (by omega) o;rw[<-f]at s;refine s.mono λz w' ⟨H,n,J⟩=>?_;have hcl:=XY xs;generalize K:Lib.compact xs++List.replicate (xs.length-(Lib.compact xs).length) 0=ts at J;have N:ts.length=xs.length:=by rw[<-K];simp;omega
   have c:=grownBy_sortedI (w:=w) (g:=g) (n:=n) (os:=#[]) ts.toArray;rw[Zz,<-J]at c;refine fin H (λb d=>?_) ⟨c.os,c.tape,c.output,c.size,λk hk hm=>c.block k hk λQ=>?_⟩ (.inl ?_)
   ·rw[f];simpa [Ae] using d
   ·refine hm ⟨0,v,_,rfl,rfl,rfl,?_⟩;rw[f];simp only[Ae,M,if_false];exact Q.symm
   ·have ho:=ownsRow_sortedI (w:=w) (base:=0) (g:=g) (cap:=cap) (n:=n) (e:=e) (os:=#[]) (cur:=cur) (ss:=xs) (ts:=ts) N B C o r m;rw[Zz,<-J]at ho;refine⟨by simp,.inr ?_⟩;rcases ho.2 with⟨h,_⟩|⟨g',Z,j,R,d,S,hn',T,U,V⟩
    ·cases h
    cases R
    refine⟨g,cap,j,rfl,d,S,by omega,T,U,?_⟩
    have:j.toList.take ((Lib.compact xs).length*1)=(j.toList.take (xs.length*1)).take ((Lib.compact xs).length*1):=by
     rw[List.take_take,we (by omega)]
    rw[this,V,<-K];simp
 ·exact none (by simpa using I) _ _ f
open Go.Lib
open Go.RowKit (Below)
structure DW(w:World)(g cap n:Nat)(T:TypeId)(wr:World)(dk:Array Int):Prop where
 below:A8 w.heap.size (λb=>b=g) w wr
 size:dk.size=n
 cells:∃cur,wr.heap[g]?=some (.cells cur T (0,0))/\cur.size=cap*1/\cur.toList.take n=dk.toList.map (Value.int .i64)
theorem DW.holds{w wr:World}{g cap n:Nat}{T:TypeId}{a:Array Int}(h:DW w g cap n T wr a):Holds (Value.int .i64) wr g 0 a:=by
 obtain⟨cur,b,_,c⟩:=h.cells;have:=holds_of_blockI (ss:=a.toList) b (by rw[show a.toList.length=n from by simpa using h.size];exact c)
 rwa [Array.toArray_toList]at this
theorem DW.lt{w wr:World}{g cap n:Nat}{T:TypeId}{a:Array Int}(h:DW w g cap n T wr a):g<wr.heap.size:=by
 obtain⟨cur,b,_,_⟩:=h.cells;exact(Array.getElem?_eq_some_iff.1 b).1
theorem DW.call{w wr w':World}{g cap n:Nat}{T:TypeId}{a:Array Int}(h:DW w g cap n T wr a)(b:Below wr.heap.size wr w'):DW w g cap n T w' a:=by
 refine⟨h.below.trans ((A8.of b).weaken h.below.size λ_ _ hk=>hk),h.size,?_⟩;obtain⟨cur,c,d,e⟩:=h.cells;exact⟨cur,by rw[b.block g h.lt];exact c,d,e⟩
theorem DW.store{w wr:World}{g cap n:Nat}{T:TypeId}{a:Array Int}(h:DW w g cap n T wr a){i:Nat}(j:i<n)(l:n<=cap)(u:Int):DW w g cap n T (wr.setCell ⟨g,i,none⟩ (.int .i64 u)) (a.setIfInBounds i u):=by
 obtain⟨cur,c,d,f⟩:=h.cells;have m:=h.lt;refine⟨⟨h.below.os,h.below.tape,h.below.output,by show w.heap.size<=(Array.modify _ _ _).size;rw[Array.size_modify];exact h.below.size,λk hk b=>?_⟩,by simp[h.size],cur.setIfInBounds i (.int .i64 u),?_,by simp[d],?_⟩
 ·show(Array.modify _ _ _)[k]?=_;rw[wD,uo (λe=>b e.symm)];exact h.below.block k hk b
 ·show(Array.modify _ _ _)[g]?=_;rw[wD,uk rfl,c];rfl
 ·rw[vQ,vQ,vd,<-f,List.take_set]
theorem DW.clear{w:World}{g cap n:Nat}{T:TypeId}(c:n<=cap):∀(a:List Int){wr:World}{b:Array Int}(k:Nat),DW w g cap n T wr b->k+a.length<=n->DW w g cap n T (wr.setCells g k (a.map (Value.int .i64))) (lay b k a)
 | [],_,_,_,h,_=>h
 | z :: r,wr,b,k,h,hk=>by
   simp only[vu]at hk;exact DW.clear c r (k+1) (h.store (by omega) c z) (by omega)
theorem DW.row{w wr:World}{g cap n:Nat}{T:TypeId}{b:Array Int}(h:DW w g cap n T wr b){R:List Int}(c:R.length<=n)(hd:b.toList.take R.length=R)(j:n<=cap)(a:cap<=maxLen):Bw wr T 1 (.slice (some ⟨g,0,none⟩) R.length cap) R.length (R.map (Value.int .i64)):=by
 obtain⟨cur,d,f,i⟩:=h.cells;refine .inl ⟨by simp,.inr ⟨g,cap,cur,rfl,ug _,d,by omega,a,f,?_⟩⟩;have e:cur.toList.take (R.length*1)=(cur.toList.take n).take R.length:=by rw[List.take_take,we c,vV]
 rw[e,i,<-List.map_take,hd]
open Go.ChangeShapes Go.WideShapes
theorem m9{H:Type}{enc:TypeId×Value->H}{P:Program}{W:World}{base:Nat}{u:Nat->Bool}{C:Bool}{t e:TypeId}{k:IntKind}{v:Value}{d:DataW H}{p:List MemPlace}
 (Q:P.underlying t=some (.slice e)) (R:P.underlying e=some (.int k)) (S:P.cellsOf e=1) (T:∃a n c,v=.slice a n c) (h:DataW.Trod enc P W base u C t v d p) :
 ∃xs:List Int,Ay (λ_=>False) W v (.list 1 (xs.map (D.int k)))/\xs.length<=maxLen/\∀n∈xs,(Lit.int k n).wf=true:=by
 obtain⟨fuel,U⟩:=h;obtain⟨a0,o,V,rfl⟩:=T;rcases open_ints Q R S U with⟨f,_⟩|⟨x,l,c,r,f,_,X,hm,q,_,g,J⟩
 ·simp[Value.cells]at f;obtain⟨rfl,rfl,rfl⟩:=f;exact⟨[],.emp _ _ _,by simp[maxLen],λn K=>by simp at K⟩
 ·simp[Value.cells]at f;obtain⟨rfl,rfl,rfl⟩:=f;have Y:o<=r.length:=by rw[q];split<;>omega
  refine⟨r.take o,?_,by simp;omega,λn K=>J n (vz K)⟩;have E:(r.take o).length=o:=by simp;omega
  by_cases N:o=0
  ·subst N;exact .emp _ _ _
  ·obtain⟨b,off,F⟩:=x;have G:=g 0 (by omega);have A:F=none:=by simpa [Addr.add] using World.cell?_spot G
   subst A
   have Z:b<W.heap.size:=by
    rcases uZ b W.heap.size with h|h
    ·exact h
    ·simp[World.cell?,Addr.add,vH h]at G
   have B:((r.take o).map (D.int k)).length=o:=by rw[ua,E]
   have s:∀(i:Nat)(y:D),((r.take o).map (D.int k))[i]?=some y->i<o/\y=.int k (r.getD i 0):=by
    intro i y hy;simp only[uu,vg]at hy;split at hy
    ·rename_i L
     refine⟨L,?_⟩;have I:i<r.length:=by omega
     simp[P3 I]at hy;simp[List.getD,P3 I,hy]
    ·simp at hy
   have key:=Ay.list (O:=λ_=>False) (w:=W) b off V 1 ((r.take o).map (D.int k)) (λi _=>.int k (r.getD i 0)) (by intro h;rw[<-List.length_eq_zero_iff,B]at h;exact N h) Z (λh=>h) (by rw[B];exact X)
    (λy hy=>by obtain⟨m,_,rfl⟩:=List.mem_map.1 hy;rfl) (λy hy z q=>by obtain⟨m,_,rfl⟩:=List.mem_map.1 hy;simp[D.cells]at q;subst q;rfl)
    (λi y j z hy q=>by
     obtain⟨L,rfl⟩:=s i y hy;have M:j=0:=by cases j with|zero=>rfl|succ j=>simp[D.cells]at q
     subst M;have:=g i (by omega);rw[Ho]at this
     simpa using this)
    (λi y j z hy q=>by
     obtain⟨L,rfl⟩:=s i y hy;have M:j=0:=by cases j with|zero=>rfl|succ j=>simp[D.cells]at q
     subst M;simp[D.cells]at q;subst q;exact .int _ _)
   rw[B]at key;exact key
