/- M3 -/
import Derived.Test.YthifolbledpmkaaGreatDoorM2
import Derived.Tactics
import Derived.Shelf.Sort.Plain
import Derived.Shelf.Slices.In.SortNone
import Derived.Sort.OwnSortedInts
import Derived.Lib.SlKept
import Derived.Lib.SliceRun
import Derived.Shelf.Slices.CompactI
import Derived.ChangeSlices
import Derived.OpenShut
open Option renaming some → θ, none → κ
open Bool renaming true → ν, false → ξ
open List renaming length → Ξ
set_option linter.all false
namespace Go.Abs
open Go.RowKit (Below)
section
variable {P:Η} {X:Cx} {G:Nat->Prop} {β:Nat->Ψ} {S:AS} {a:Act} {w:Λ} {o:Oper}
def kM{α:Type}{x}{p:α}(h:x.toList=[p]):x=#[p]:=z5
def PZ{α:Type}{x}{p q:α}(h:x.toList=[p,q]):x=#[p,q]:=z5
def Bb{K:J4->Prop}(h:∃e,K e/\EE P X G S a w o e):∃e,K e/\(Jj S e.homes=ν->EE P X G S a w o e):=z5
set_option maxHeartbeats 2000000 in
def y9(h:SimB X G β S a w){g}(A:CZ g a){d}(hd:d<Ξ S){K}(hy:yA P (σOf S) (ρOf S) g o d (An S d).ver K):
 ∃e,K e/\(Jj S e.homes=ν->EE P X G S a w o e):=by
 unfold yA at hy;split at hy;rename_i x ho;exact Bb ⟨_,hy,j9 h A (.inl ho)⟩;rename_i x ho;split at hy;rename_i R;split at hy;rename_i e _;have⟨h1,hy⟩:=Av hy;split at hy;rcases hy.go with hy|hy;exact Bb ⟨_,hy,Ba h (v:=.slice κ 0 0) (by rw[UR R]at ho;simp[execOp,ho,Act.eval]) (.nil _) rfl⟩;exact Bb ⟨_,hy,wq h hd ho R h1⟩;exact Bb ⟨_,hy,wq h hd ho R h1⟩;grind;exact Bb ⟨_,hy,j9 h A (.inr ho)⟩;rename_i t x y ho;split at hy;rename_i F;have h1:=ρ_sound h A (.tmp t);rw[F]at h1;exact h1.elim;rename_i c F;split at hy;rename_i h1;split at hy;rename_i b2 h2;exact Bb ⟨_,hy,pB h A ho F h1 h2⟩;grind;rename_i b1 h1;split at hy;rename_i h2;exact Bb ⟨_,hy,pC h A ho F h1 h2⟩;rename_i b2 h2;exact Bb ⟨_,hy,t9 h A ho F h1 h2⟩;grind;grind;grind;rename_i T x ho;exact Bb (wm h A hd ho hy);rename_i T ho;split at hy;rename_i l hl;exact Bb (pw h hd ho hl hy);grind;rename_i t parts ho;split at hy;rename_i L B;split at hy;rename_i zd hzd;have⟨V,hy⟩:=Av hy;split at hy;exact Bb (fF h A ho B hzd V hy);rcases hy.go with hy|hy;exact Bb (fF h A ho B hzd V hy);exact Bb (nc h A ho B hzd V hy);grind;grind;rename_i t n parts ho;split at hy;rename_i e B;exact Bb (dY h A hd ho B hy);grind;rename_i t x y ho;split at hy;rename_i e B;split at hy;rename_i k l hl;split at hy;rename_i k' c F;have⟨⟨h1,h2⟩,hy⟩:=Av hy;exact Bb (t7 h A hd ho B h1 h2 hl F hy);grind;grind;grind;rename_i f first caps ho
 split at hy;rename_i Q;split at hy;exact Bb (j8 h A ho Q hy);rcases hy.go with hy|hy;exact Bb (j8 h A ho Q hy);exact Bb (pA h A ho Q hy);grind;rename_i t x ho;have hr:=ρ_sound h A x;split at hy;rename_i hx;rw[hx]at hr;exact hr.elim;rename_i id n off cs hx;rw[hx]at hr;exact Bb (nj h ho hr hy);rename_i cs hx;rw[hx]at hr;exact Bb (nh h ho hr hy);rename_i id n sz e xs i off hx;rw[hx]at hr;exact Bb (ni h ho hr hy);grind;rename_i t p x ho;have⟨M,hy⟩:=Av hy;have⟨i,M⟩:=Option.isSome_iff_exists.1 M;have hr:=ρ_sound h A p;split at hy;rename_i id n off cs hx;rw[hx]at hr;exact Bb (lg h A ho hr M hy);rename_i id n sz e xs k off hx;rw[hx]at hr;exact Bb (lf h A ho hr M hy);grind;rename_i x ho;have hr:=ρ_sound h A x;split at hy;rename_i id n off cs hx;rw[hx]at hr;have N:=SI (tm:=a.tmps) hr;have⟨_,_,b,_,O⟩:=hr;exact Bb ⟨_,hy,Qa h ho O N.1 N.2⟩;grind;rename_i op t x y U ho;have j:=ρ_sound h A x;have H:=ρ_sound h A y;split at hy;rename_i hp;rw[hp]at j;exact j.elim;rename_i p hp;rw[hp]at j;split at hy;rename_i hq;rw[hq]at H;exact H.elim;rename_i q hq;rw[hq]at H;exact Bb (pz h ho j H hy);grind;grind;rename_i op t x ho;have j:=ρ_sound h A x;split at hy;rename_i hp;rw[hp]at j;exact j.elim;rename_i p hp;rw[hp]at j;exact Bb (tA h ho j hy);grind;rename_i s t x ho;have j:=ρ_sound h A x;split at hy;rename_i ds C;split at hy;rename_i k W;split at hy;rename_i hx;rw[hx]at j;exact j.elim;rename_i k' n hx;rw[hx]at j;exact Bb ⟨_,hy,kU h ho W ⟨_,C⟩ j⟩;grind;rename_i e W;split at hy<;>try exact hy.elim
 rename_i he;split at hy;rename_i hx;rw[hx]at j;exact j.elim;rename_i b hx;rw[hx]at j;exact Bb ⟨_,hy,fG h ho W he ⟨_,C⟩ j⟩;grind;grind;grind;rename_i s x f ho;split at hy;rename_i L B;split at hy;rename_i fd Q;have⟨hz,hy⟩:=Av hy;exact Bb (fH h A ho B Q hz hy);grind;grind;rename_i t x ix ho;have j:=ρ_sound h A x;have E:=ρ_sound h A ix;split at hy;rename_i e B;split at hy;rename_i k i M;rw[M]at E;split at hy;rename_i sz xs hx;rw[hx]at j;have⟨⟨C,D⟩,hy⟩:=Av hy;exact Bb (ZT h ho B C D E j hy);rename_i sz xs hx;rw[hx]at j;have⟨⟨C,D⟩,hy⟩:=Av hy;exact Bb (ZT h ho B C D E j.1 hy);rename_i id n sz e' xs hx;rw[hx]at j;have⟨C,hy⟩:=Av hy;have⟨⟨Y,h1⟩,hy⟩:=hy;exact Bb ⟨_,hy,fK h ho B E C j Y h1⟩;grind;grind;grind;rename_i t x ix ho;have j:=ρ_sound h A x;have E:=ρ_sound h A ix;split at hy;rename_i B;split at hy;rename_i k i M;rw[M]at E;split at hy;rename_i b hx;rw[hx]at j;have⟨⟨Y,h1⟩,hy⟩:=hy;exact Bb ⟨_,hy,kW h ho B E j Y h1⟩;grind;grind;grind;rename_i t x lo M mx ho;have j:=ρ_sound h A x;split at hy;rename_i e B;split at hy;rename_i sz xs hx;rw[hx]at j;have⟨⟨C,D⟩,hy⟩:=Av hy;exact Bb (R9 h A ho B C D (bx:=[]) trivial j hy);rename_i sz hx;rw[hx]at j;have⟨⟨C,D⟩,hy⟩:=Av hy;exact Bb (R9 h A ho B C D (bx:=[]) (xs:=[]) trivial (A5.norm j) hy);rename_i sz xs hx;rw[hx]at j;have⟨⟨C,D⟩,hy⟩:=Av hy;exact Bb (R9 h A ho B C D (bx:=[]) trivial j.1 hy);rename_i id n sz e' xs hx;rw[hx]at j;have⟨⟨C,D⟩,hy⟩:=Av hy;rcases hy.go with hy|hy;have⟨y,b,hK,hF,_,hh⟩:=Nt (x:=X) (G:=G) (a:=a) (K:=λy b=>y=.list sz xs/\b=[(id,Cq.frow sz xs,n)]) j ⟨rfl,rfl⟩;obtain⟨rfl,rfl⟩:=hK;exact Bb (R9 h A ho B C D hF (hh.now h hF) hy);exact hy.elim;grind;grind;rename_i c ho;split at hy;rename_i fo F;split at hy;rename_i f caps Q;split at hy;exact j7 h A hd ho F Q hy;rcases hy.go with hy|hy;exact hy.elim;exact j7 h A hd ho F Q hy;rename_i f cs k id n rid rn Q;split at hy<;>try exact hy.elim
 rename_i hr;exact Bb (pD h A ho F Q hr hy);grind;rename_i F;split at hy;rename_i x t hx W
 have J:c=⟨.builtin .len,#[x],#[t]⟩:=by
  have⟨I,args,ts⟩:=c;simp only at F hx W;rw[F,kM hx,kM W]
 rw[J]at ho;have j:=ρ_sound h A x;split at hy;rename_i B;split at hy;rename_i C;rw[C]at j;exact j.elim;rename_i s C;rw[C]at j;exact Bb ⟨_,hy,t4 h ho (Pd j) B⟩;grind;rename_i e B;split at hy;rename_i C;rw[C]at j;exact j.elim;have⟨sz,ys,hK,ad,c',O,_⟩:=Yj h j hy;exact Bb ⟨_,hK,wo h ho ⟨ad,c',O⟩ B⟩;grind;grind;rename_i F;split at hy;rename_i x y hx
 have J:c=⟨.builtin .min,#[x,y],c.argTypes⟩:=by
  have⟨I,args,ts⟩:=c;simp only at F hx;rw[F,PZ hx]
 rw[J]at ho;split at hy;rename_i k m hm;have j:=ρ_sound h A x;rw[hm]at j;split at hy;rename_i k' n R;have H:=ρ_sound h A y;rw[R]at H;exact Bb ⟨_,hy,(dj h ho j H).1 rfl⟩;grind;grind;grind;rename_i F;split at hy;rename_i x y hx
 have J:c=⟨.builtin .max,#[x,y],c.argTypes⟩:=by
  have⟨I,args,ts⟩:=c;simp only at F hx;rw[F,PZ hx]
 rw[J]at ho;split at hy;rename_i k m hm;have j:=ρ_sound h A x;rw[hm]at j;split at hy;rename_i k' n R;have H:=ρ_sound h A y;rw[R]at H;exact Bb ⟨_,hy,(dj h ho j H).2 rfl⟩;grind;grind;grind;rename_i F;split at hy;rename_i x y t u hx W
 have J:t=u->c=⟨.builtin .append,#[x,y],#[t,t]⟩:=by
  intro e;subst e;have⟨I,args,ts⟩:=c;simp only at F hx W;rw[F,PZ hx,PZ W]
 split at hy;rename_i e B;have⟨⟨htu,D,hz⟩,hy⟩:=Av hy;rw[J htu]at ho;have⟨sz',ys,hK,ad,c',O,hys⟩:=Yj h (ρ_sound h A y) hy;have j:=ρ_sound h A x;split at hK;rename_i id n sz e' xs Z;have⟨⟨he,hsz⟩,hK2⟩:=Av hK;subst he;rw[Z]at j;have⟨⟨h1,h2,h3⟩,hK3⟩:=hK2;exact Bb ⟨_,hK3,mZ h ho B j hsz hz O hys h1 h2 z5⟩;rename_i s Z;rw[Z]at j;have⟨⟨h1,h2,h3⟩,hK3⟩:=hK
 have hx0:∃ad0,a.eval x=.slice ad0 0 0:=by
  generalize a.eval x=v at j
  cases j
  grind
 have⟨ad0,hx0⟩:=hx0;exact Bb ⟨_,hK3,Wg h hd ho B (xs:=[]) rfl D hz O hys z5 (by simpa using h2) h3 (.inl ⟨ad0,hx0,rfl⟩)⟩;rename_i sz xs Z;have⟨hsz,hK2⟩:=Av hK;rw[Z]at j;have⟨⟨⟨h1,h2,h3⟩,h4⟩,hK3⟩:=hK2;exact Bb ⟨_,hK3,Wg h hd ho B hsz z5 hz O hys h1 h2 (by rw[hsz];exact h3) (.inr ⟨j.1,j.2,h4⟩)⟩;grind;grind;grind;grind;rename_i t i ho;have j:=ρ_sound h A t;split at hy;rename_i xs hx;rw[hx]at j;split at hy;rename_i y hyy;exact Bb ⟨_,hy,(ZS h ho j hyy).1 _ rfl⟩;rename_i id n hyy;exact Bb ⟨_,hy,(ZS h ho j hyy).2 _ _ rfl⟩;grind;grind;rename_i t ho;split at hy;exact Bb ⟨_,hy,kX h hd ho⟩;grind;rename_i t x ix ok ho;split at hy;rename_i kt et B;unfold rP at hy;split at hy<;>try exact hy.elim
 rename_i id n es hx;split at hy<;>try exact hy.elim
 rename_i q hq;split at hy<;>try exact hy.elim
 rename_i kd hkq;have⟨⟨hku,hkk⟩,hy⟩:=hy;split at hy<;>try exact hy.elim
 rename_i z hz;obtain⟨v,b,rfl,rfl,hy⟩:=hy.go;have hd':=nl h A ho B hx hq hkq hku hkk hz;grind;grind;rename_i t m k x ho;split at hy;rename_i kt et B;unfold Aab at hy;split at hy<;>try exact hy.elim
 rename_i id n es hm;split at hy<;>try exact hy.elim
 rename_i q hq;split at hy<;>try exact hy.elim
 rename_i y hyy;split at hy<;>try exact hy.elim
 rename_i kd hkq;have⟨⟨N,hku,hkk⟩,hy⟩:=hy;exact Bb ⟨_,hy,nn h A ho B hm hq hyy N hkq hku hkk⟩;grind;grind
def qc{t}{cs}{K}(hy:nQ P t cs K):∃x,K x:=by
 unfold nQ at hy;split at hy;split at hy;rw[Ct]at hy;grind;grind
 all_goals grind
def vH{b}{k}{m n}{K}(hy:fg b k m n K):∃x,K x:=by
 cases b<;>rw[fg]at hy<;>first|exact hy.elim|exact⟨_,hy⟩|exact⟨_,hy.2⟩
def zV{b}{x y}{K}(hy:qC b x y K):∃x,K x:=by
 cases b<;>rw[qC]at hy<;>first|exact hy.elim|exact⟨_,hy⟩|exact⟨_,hy.2⟩
theorem w6:∀n{t}{xs ys}{K},nu P n t xs ys K->∃b,K b
 | 0,_,_,_,_,h=>h.elim
 | n+1,t,xs,ys,K,h=>by
   unfold nu at h;split at h;grind;grind;grind;have⟨_,h⟩:=h
   have key:∀(l:Γ Field)K,List.rec (motive:=λ_=>(Ω->Prop)->Prop) (λK=>K ν)
    (λf _ ih K=>nu P n f.type ((xs.drop f.offset).take (AJ P f.type)) ((ys.drop f.offset).take (AJ P f.type)) λa=>ih λb=>K (a&&b)) l K->∃b,K b:=by
    intro l
    induction l with
    | nil=>intro K h;exact⟨_,h⟩
    | cons f r ih=>
      intro K h;have⟨a,c⟩:=w6 n h;grind
   grind;grind
def yJ{t}{c}{x y}{K}(hy:mI P t c x y K):∃x,K x:=by
 cases x<;>cases y<;>simp only[mI]at hy
 case bool.bool=>
  grind
 case int.int k m k' n=>
  have g:c=.shl\/c=.shr\/(c≠.shl/\c≠.shr):=z5;rcases g with rfl|rfl|⟨d,e⟩;exact⟨_,hy.2⟩;exact⟨_,hy.2⟩;have f:if k=k' then fg c k m n K else False:=by cases c<;>first|exact hy|exact absurd rfl d|exact absurd rfl e
  exact vH (Av f).2
 case str.str=>exact zV hy
 case agg.agg=>
  have⟨_,hy⟩:=hy
  cases c<;>first|exact hy.elim|(have⟨b,h⟩:=w6 12 hy;exact⟨_,h⟩)
def Ac1{b}{x}{K}(hy:unD b x K):∃x,K x:=by
 cases b<;>cases x<;>rw[unD]at hy <;> grind
def uc{r}{K}(hy:VA r K):∃n xs,K n xs:=by
 cases r<;>simp[VA]at hy
 case d x=>cases x<;>simp only at hy <;> grind
 case lim=>exact⟨_,_,hy⟩
 grind
def Abe{r}{K}(hy:jo r K):∃x b,K x b:=by
 cases r<;>simp[jo]at hy<;>exact⟨_,_,hy⟩
theorem XM{σ}:∀{cs}{K},EY σ cs K->∃l b,K l b
 | [],K,h=>⟨_,_,h⟩
 | .d x::r,K,h=>by
   have h:EY σ r λl b=>K (x::l) b:=h;have⟨l,b,h⟩:=XM h;exact⟨_,_,h⟩
 | .sl id n::r,K,h=>by
   have⟨x,b,h⟩:=Abe h;have⟨l,c,h⟩:=XM h;exact⟨_,_,h⟩
 | .own _ _ _::r,K,h=>h.elim
def Ab1{σ}{t}{cs}{K}(hy:yE P σ t cs K):∃e,K e/\e.av.guards=[]:=by
 unfold yE at hy;split at hy;split at hy;rw[Ct]at hy;have hy:=(Av hy).2;split at hy;have⟨l,b,h⟩:=XM hy;exact⟨_,h,rfl⟩;rcases hy.go with hy|hy;have⟨l,b,h⟩:=XM hy;exact⟨_,h,rfl⟩;exact⟨_,(Av hy).2,rfl⟩;grind;split at hy;exact⟨_,hy,rfl⟩;exact⟨_,hy,rfl⟩;grind;grind
def mH r:(back r).guards=[]:=by cases r<;>rfl
def oN{σ}{ρ}{g}{d n}{K}(b:QR o.op=ν)(hy:yA P σ ρ g o d n K):∃e,K e/\e.av.guards=[]:=by
 unfold yA at hy;split at hy<;>rename_i ho<;>try (rw[ho]at b;simp[QR]at b;done)
 all_goals((try rw[ho]at b);repeat' first|exact hy.elim|exact⟨_,hy,rfl⟩|exact⟨_,hy,mH _⟩|exact Ab1 hy|(have⟨x,hx⟩:=qc hy;exact⟨_,hx,rfl⟩)|(have⟨x,hx⟩:=yJ hy;exact⟨_,hx,rfl⟩)|(have⟨x,hx⟩:=Ac1 hy;exact⟨_,hx,rfl⟩)|(have⟨_,_,hx⟩:=uc hy;exact⟨_,hx,rfl⟩)|replace hy:=(Av hy).2|(obtain⟨_,y,_,hy⟩:=hy.go)|rw[Ct]at hy|grind[QR]|split at hy)
end
def fT(v:AV)(K:AV->Prop):eG v K=K v:=by
 cases v<;>simp only[eG,UL]
 grind
def jJ b K:lq b K=K b:=by
 cases b<;>simp[lq,UL]
theorem GL:∀S K,Gk S K=K S
 | [],_=>rfl
 | ⟨_,_,_⟩::r,K=>by rw[Gk,GL r];simp[fT,jJ,UL]
theorem Pv:∀l K,TS l K=K l
 | [],_=>rfl
 | x::r,K=>by rw[TS,Pv r]
theorem Yh:∀S d v K,XA S d v K=K (GT S d v)
 | [],_,_,_=>rfl
 | ⟨_,_,_⟩::_,0,_,_=>rfl
 | s::r,d+1,v,K=>by rw[XA,Yh r];rfl
theorem ig:∀S d b n K,eT S d b n K=K (Bp S d b n)
 | [],_,_,_,_=>rfl
 | ⟨_,_,_⟩::_,0,_,_,_=>rfl
 | s::r,d+1,b,n,K=>by rw[eT,ig r];rfl
theorem Sy:∀b S K,Vs b S K=K (B5 b S)
 | [],_,_=>rfl
 | (id,b,n)::r,S,K=>by rw[Vs,UL,jJ,ig,Sy r];rfl
theorem kJ dst e S K:sX dst e S K=K (app dst e S):=by
 cases dst with
 | none=>rw[sX,Sy];rfl
 | some d=>rw[sX,fT,Sy,Yh];rfl
theorem Uu:∀S d K,cK S d K->d<Ξ S/\K (An S d).ver
 | [],_,_,h=>h.elim
 | ⟨_,_,_⟩::_,0,_,h=>⟨zs,h⟩
 | s::r,d+1,K,h=>by
   have⟨h1,h2⟩:=Uu r d K h;exact⟨by simpa using h1,h2⟩
theorem ZU:∀l j,dl l j=(l[j]?).bind (·.dst)
 | [],_=>rfl
 | _::_,0=>rfl
 | _::r,j+1=>by exact ZU r j
section
variable {P:Η} {X:Cx} {G:Nat->Prop} {β:Nat->Ψ} {S:AS} {a:Act} {w:Λ} {o:Oper}
def cM X G S a(e:J4)v w':=∃β',SimB X G β' (B5 e.bx S) a w'/\NM β' (AU (B5 e.bx S)) (OS β' X (B5 e.bx S)) w' a.tmps v e.av/\∀u∈e.av.guards,G u
def vt P ops X G S a w o e:=(Region.wanted o (yielded ops a.tmps)=ν/\((∃v w',(execOp a.eval o).run P w=.ok (.value v) w'/\cM X G S a e v w')\/(∃w',(execOp a.eval o).run P w=.ok .skip w'/\cM X G S a e undef w')\/(∃f args,(execOp a.eval o).run P w=.ok (.enter f args) w/\Calls P f args w λe' w'=>∃v,e'=.returned v/\cM X G S a e v w')))\/(Region.wanted o (yielded ops a.tmps)=ξ/\cM X G S a e undef w)
def Ys.toG{e}{v}{w'}(h:Ys X G S a e v w'):cM X G S a e v w':=by
 have⟨b,h1,h2,c⟩:=h;exact⟨b,h1,h2,by rw[c];simp⟩
def Ys.toU{e}{v}{w'}{t}{b}(j:G t)(c:a.tmps[t]?=θ (.bool b))(h:Ys X G S a e v w'):cM X G S a ⟨.under t b e.av,e.bx,[]⟩ v w':=by
 have⟨d,h1,h2,f⟩:=h;refine⟨d,h1,⟨λ_=>h2,λg=>absurd c g⟩,?_⟩;intro u i;rw[AV.guards,f,Zbb]at i;grind
def EE.to{b}{e c}(d:Region.wanted o (yielded b a.tmps)=ν)(hd:EE P X G S a w o e)(g:∀v w',Ys X G S a e v w'->cM X G S a c v w'):vt P b X G S a w o c:=by
 refine .inl ⟨d,?_⟩;rcases hd with⟨v,w',h1,h2⟩|⟨w',h1,h2⟩|⟨f,args,h1,h2⟩;grind;grind;exact .inr (.inr ⟨f,args,h1,h2.mono λc w' ⟨v,h,i⟩=>⟨v,h,g v w' i⟩⟩)
def jx{x}{K}(h:dK x K):K (x.getD 0):=by cases x<;>exact h
theorem ie:∀S t v,(An S t).av=v->GT S t v=S
 | [],_,_,_=>rfl
 | ⟨x,b,n⟩::r,0,v,h=>by subst h;rfl
 | s::r,t+1,v,h=>by rw[GT,ie r t v h]
def me{t}{x}(h:SimB X G β S a w)(hx:(An S t).av=x)(c:x≠.any):∃v,a.tmps[t]?=θ v/\NM β (AU S) (OS β X S) w a.tmps v x:=by
 have d:t<Ξ S:=by
  rcases Zbk t (Ξ S) with e|e;exact e;rw[Sq S t e]at hx;exact absurd hx.symm c
 have b:t<a.tmps.size:=by rw[h.len];exact d
 refine⟨a.tmps[t],by simp[b],?_⟩;have:=h.slots t a.tmps[t] z5;grind
def sR(lk:Γ Nat):Nat->Nat->AS->Δ Ω->Prop| 0,_,_,_=>False| n+1,t,S,r=>t∈lk/\((∃b,(An S t).av=.d (.bool b)/\r=θ b)\/(∃t' w' b r',(An S t).av=.under t' w' (.d (.bool b))/\sR lk n t' S r'/\(r'=θ w'/\r=θ b\/r'≠θ w'/\r=κ)) \/ ∃t' w',(An S t).av=.under t' w' .bot/\r=κ)
def TI{S}{t}{mk}{b}{K}(c:(An S t).av=mk b):jr S t mk b K↔K S (θ b):=by
 unfold jr
 cases b<;>simp[cX]<;>rw[Yh,ie S t _ c]
theorem Zd{lk}:∀{n t}{S}{K},tr lk n t S K->∃r,K S r/\sR lk n t S r
 | 0,_,_,_,h=>h.elim
 | n+1,t,S,K,h=>by
   have⟨c,h⟩:=Av h;have c:t∈lk:=z5;split at h;rename_i b f;exact⟨θ b,(TI f).1 h,c,.inl ⟨b,f,rfl⟩⟩;rename_i g w' b f;have⟨r,h,hd⟩:=Zd h
   have d:r=θ w'->jr S t (λb=>.under g w' (.d (.bool b))) b K->∃r,K S r/\sR lk (n+1) t S r:=λe h=>
    ⟨θ b,(TI (mk:=λb=>.under g w' (.d (.bool b))) f).1 h,c,.inr (.inl ⟨g,w',b,r,f,hd,.inl ⟨e,rfl⟩⟩)⟩
   have no:r≠θ w'->K S κ->∃r,K S r/\sR lk (n+1) t S r:=λe h=>⟨κ,h,c,.inr (.inl ⟨g,w',b,r,f,hd,.inr ⟨e,rfl⟩⟩)⟩
   match r,w',h,d,no with
   | none,_,h,_,no=>exact no zs h
   | some true,true,h,d,_=>exact d rfl h
   | some true,false,h,_,no=>exact no zs h
   | some false,true,h,_,no=>exact no zs h
   | some false,false,h,d,_=>exact d rfl h
   rename_i g w' f;exact⟨κ,h,c,.inr (.inr ⟨g,w',f,rfl⟩)⟩;grind
theorem kT{lk}:∀{n t}{S}{r}{K},sR lk n t S r->K S r->tr lk n t S K
 | 0,_,_,_,_,h,_=>h.elim
 | n+1,t,S,r,K,⟨hlk,h⟩,hK=>by
   unfold tr;rw[Zai z5];rcases h with⟨b,c,rfl⟩|⟨d,w',b,f,c,hd,h⟩|⟨d,w',c,rfl⟩
   rotate_left 2
   grind;rw[c];exact(TI c).2 hK;rw[c];apply kT hd;rcases h with⟨rfl,rfl⟩|⟨e,rfl⟩
   cases w'<;>exact(TI (mk:=λb=>.under d _ (.d (.bool b))) c).2 hK
   grind
theorem sR.tmp{lk}(h:SimB X G β S a w):∀{n t}{r},sR lk n t S r->(∀b,r=θ b->a.tmps[t]?=θ (.bool b))/\(r=κ->∀b,a.tmps[t]?≠θ (.bool b))
 | 0,_,_,hd=>hd.elim
 | n+1,t,r,⟨_,hd⟩=>by
   rcases hd with⟨b,g,rfl⟩|⟨k,w',b,q,g,hd,hr⟩|⟨k,w',g,rfl⟩
   rotate_left 2
   have⟨v,f,d⟩:=me h g zs;refine⟨λi e=>(by cases e),λ_ i=>?_⟩;by_cases p:a.tmps[k]?=θ (.bool w');exact(d.1 p).elim;rw[f,d.2 p];intro j;cases j;have⟨v,f,hr⟩:=me h g zs;exact⟨λi e=>by cases e;rw[f,FS hr],λe=>by cases e⟩;have⟨v,f,d⟩:=me h g zs;have⟨h1,h2⟩:=sR.tmp h hd;rcases hr with⟨rfl,rfl⟩|⟨l,rfl⟩;exact⟨λi e=>by cases e;rw[f,FS (d.1 (h1 _ rfl))],λe=>by cases e⟩;refine⟨λi e=>(by cases e),λ_ i=>?_⟩
   have m:a.tmps[k]?≠θ (.bool w'):=by
    cases q with
    | none=>exact h2 rfl w'
    | some c=>rw[h1 c rfl];intro j;cases j;exact l rfl
   rw[f,d.2 m];intro j;cases j
def NR{b}{r}{go skip}:fh b r go skip↔(r=θ b/\go)\/(r≠θ b/\skip):=by
 unfold fh;grind
theorem iB{g}{d n}{K}(hy:yS P S g o d n K):(∃x,o.op=.move x/\wQ (ev S x)=ν/\K ⟨ev S x,[],[]⟩)\/(Qd S o=ξ/\yA P (σOf S) (ρOf S) g o d n K):=by
 unfold yS at hy;unfold Qd;split at hy;rename_i x ho;split at hy;rename_i id v k he;exact .inl ⟨x,ho,by rw[he];rfl,by rw[he];exact hy⟩;rename_i id v he;exact .inl ⟨x,ho,by rw[he];rfl,by rw[he];exact hy⟩;rename_i h1 h2;refine .inr ⟨?_,hy⟩
 cases he:ev S x with
 | ptr id v k=>grind
 | sl id v=>grind
 | _=>rfl
 grind
theorem aj{x}(h:wQ x=ν):x.guards=[]:=by
 cases x with
 | ptr=>rfl
 | sl=>rfl
 | _=>cases h
theorem iC(h:SimB X G β S a w){g}(i:CZ g a){d}(hd:d<Ξ S){K}(hy:yS P S g o d (An S d).ver K):
 ∃e,K e/\(Jj S e.homes=ν->EE P X G S a w o e):=by
 rcases iB hy with⟨x,ho,he,hK⟩|⟨_,hy⟩;refine⟨_,hK,λ_=>Ba h (v:=a.eval x) (by simp[execOp,ho]) ?_ (aj he)⟩
 cases x with
 | tmp t=>
   rw[ev]at he ⊢;rw[Act.eval];by_cases b:t<a.tmps.size;have:=h.slots t a.tmps[t] (by simp[b]);simp_all;have e:=Sq S t (by rw[<-h.len];exact Nat.le_of_not_lt b);rw[e]at he;cases he
 | const c=>rw[ev]at he;unfold pp at he;split at he<;>cases he
 | global q=>rw[ev]at he;split at he<;>cases he
 | func f=>cases he
 exact y9 h i hd hy
def oO{g}{d n}{K}(b:QR o.op=ν)(hy:yS P S g o d n K):∃e,K e/\e.av.guards=[]:=by
 rcases iB hy with⟨x,ho,he,hK⟩|⟨_,hy⟩;exact⟨_,hK,aj he⟩;exact oN b hy
def ki{i}{done}(h:SimB X (·∈done) β S a w){K}(hy:uk P i.toList done o S K):
 ∃e,K S e/\vt P i X (·∈done) S a w o e:=by
 unfold uk at hy;split at hy;rename_i l;have⟨hd,hy⟩:=Uu _ _ _ (jx hy);have⟨e,hK,k⟩:=iC h (g:=κ) (λ_ _ e=>by cases e) hd hy;have⟨m,hK⟩:=Av hK;exact⟨e,hK,(k m).to (by simp[Region.wanted,l]) λv w' p=>p.toG⟩;rename_i j d l;split at hy;grind;rename_i t I;have⟨B,hy⟩:=Av hy;have q:t∈done:=z5
 have C:yielded i a.tmps j=(match a.tmps[t]? with|θ (.bool b)=>θ b|_=>κ):=by
  have:(i[j]?).bind (·.dst)=θ t:=by rw[<-I,ZU];simp
  rw[yielded,this,Zad];grind
 have f:Region.wanted o (yielded i a.tmps)=ν↔a.tmps[t]?=θ (.bool d):=by
  simp[Region.wanted,l,C];grind
 split at hy;rename_i n;have⟨hd,hy⟩:=Uu _ _ _ (jx hy);by_cases s:a.tmps[t]?=θ (.bool d);have⟨e,hK,k⟩:=iC h (g:=θ (t,d)) (λ_ _ e=>by cases e;exact s) hd hy;split at hK;exact⟨_,hK,(k rfl).to (f.2 s) λv w' p=>p.toU q s⟩;grind;have⟨e,hK,x⟩:=oO n hy;split at hK;rename_i v;refine⟨_,hK,.inr ⟨by rw[Bool.eq_false_iff];exact λn=>s (f.1 n),β,h,⟨λn=>absurd n s,λ_=>rfl⟩,?_⟩⟩;intro u A;rw[AV.guards,x,Zbb]at A;grind;grind;have⟨r,hy,y⟩:=Zd hy;have⟨D,J⟩:=y.tmp h;rcases NR.1 hy with⟨E,F⟩|⟨L,hK⟩;have z:=D d E;have⟨hd,hy⟩:=Uu _ _ _ (jx F);have⟨e,hK,k⟩:=iC h (g:=θ (t,d)) (λ_ _ e=>by cases e;exact z) hd hy;have⟨m,hK⟩:=Av hK;exact⟨e,hK,(k m).to (f.2 z) λv w' p=>p.toG⟩
 have H:a.tmps[t]?≠θ (.bool d):=by
  cases r with
  | _=>grind
 refine⟨_,hK,.inr ⟨?_,β,h,⟨λn=>absurd n H,λ_=>rfl⟩,λu A=>by simp[AV.guards]at A;rw[A];exact q⟩⟩;grind
def SimB.weaken{b}(h:SimB X G β S a w)(c:∀t,G t->b t):SimB X b β S a w:=
 { h with gds:=λt u d=>c u (h.gds t u d) }
def vt.step{b}{e}{K}{Q}{done}(hd:∀d,o.dst=θ d->d∉done)(h:vt P b X (·∈done) S a w o e)(hK:∀c g w',SimB X (·∈F2 o.dst++done) c (app o.dst e S) g w'->K g w'):
 if Region.wanted o (yielded b a.tmps)then o.wp P a w K Q else K (a.put o.dst undef) w:=by
 have fin:∀v w',cM X (·∈done) S a e v w'->K (a.put o.dst v) w':=by
  intro v w' k;have⟨c,h1,h2,i⟩:=k;apply hK c _ w'
  cases hdst:o.dst with
  | none=>exact h1
  | some d=>exact(h1.put (hd d hdst) h2 i).weaken λt l=>by simp[l]
 rcases h with⟨j,h⟩|⟨j,h⟩;rw[Zai j];unfold Oper.wp;rcases h with⟨v,w',h1,h2⟩|⟨w',h1,h2⟩|⟨f,args,h1,h2⟩;rw[h1];exact fin v w' h2;rw[h1];exact fin undef w' h2;rw[h1];exact h2.mono λm w' ⟨v,i,n⟩=>by grind
 grind
def aH{pos}{x}(h:aG P o=θ (pos,x)):∃b t y u e,o.op=.binOp b t x y u/\SY y=ν/\o.guard=κ/\P.underlying t=θ (.slice e)/\(b=.eql/\pos=ν\/b=.neq/\pos=ξ):=by
 unfold aG at h;grind
def kY(h:SimB X G β S a w){pos}{x}(A:aG P o=θ (pos,x)){K}(hy:Ace (ρOf S κ x) K):
 ∃b,K b/\EE P X G S a w o ⟨.d (.bool (b==pos)),[],[]⟩:=by
 have⟨E,t,y,u,e,ho,B,_,s,p⟩:=aH A;have i:=ρ_sound h (g:=κ) (λ_ _ e=>by cases e) x
 obtain⟨d,n,c,l,hK⟩:∃d n c,a.eval x=.slice d n c/\K d.isNone:=by
  unfold Ace at hy;split at hy;rename_i hr;rw[hr]at i;generalize a.eval x=v at i ⊢
  cases i
  exact⟨κ,0,0,rfl,hy⟩;have⟨sz,xs,hK,d,c,l,f⟩:=Yj h i hy;exact⟨d,_,c,l,hK.go _ λr=>by obtain⟨C,z,rfl,_⟩:=f.resolve_left r;rfl⟩
 have D:=UR B;have j:a.eval y=.slice κ 0 0:=by rw[D];rfl
 refine⟨d.isNone,hK,?_⟩
 have k:(Op.equalIn 10000 t (.slice d n c) (.slice κ 0 0)).run P w=.ok d.isNone w:=by
  have key:∀m,(Op.equalIn (m+1) t (.slice d n c) (.slice κ 0 0)).run P w=.ok d.isNone w:=by
   intro m
   cases d with
   | _=>simp[Op.equalIn,run_underlying s]
  exact key 9999
 refine Ba h (v:=.bool (d.isNone==pos)) ?_ (.bool _) rfl;rcases p with⟨rfl,rfl⟩|⟨rfl,rfl⟩;simp[execOp,ho,l,j,eqGuard,binOp,Op.equal,Op.maxDepth,k];simp[execOp,ho,l,j,eqGuard,binOp,Op.equal,Op.maxDepth,k]
theorem Zo{c}{Q}:∀{l}{done}{S}{β}{a}{w}{K},
 Ach P c.toList done l S K->SimB X (·∈done) β S a w->(∀m S' k w' (f:Γ Nat),K S'->SimB X (·∈f) m S' k w'->Q .normal k w')->wpList P c Q l a w
 | [],done,S,β,a,w,K,hy,h,hQ=>wpList_nil (hQ β S a w done hy h)
 | o::r,done,S,β,a,w,K,hy,h,hQ=>by
   have⟨g,hy⟩:=Av hy
   have hd:∀d,o.dst=θ d->d∉done:=by
    intro d hd t;rw[hd]at g;simp[F2]at g;exact g t
   cases ht:aG P o with
   | some q=>
     have⟨pos,x⟩:=q;rw[ht]at hy;have⟨b,hK,n⟩:=kY h ht hy;rw[kJ,Pv]at hK;have⟨_,_,_,_,_,_,_,p,_⟩:=aH ht;have i:vt P c X (·∈done) S a w o ⟨.d (.bool (b==pos)),[],[]⟩:=n.to (by simp[Region.wanted,p]) λv w' u=>u.toG;exact wpList_step λy j=>i.step hd λm k w' s=>j _ _ (Zo hK s hQ)
   | none=>
     rw[ht]at hy;have⟨e,hK,i⟩:=ki h hy;rw[kJ,Pv]at hK;exact wpList_step λy j=>i.step hd λm k w' s=>j _ _ (Zo hK s hQ)
def RL(s:Sl):Sl:=match s with
 | ⟨.under _ _ _,b,n⟩=>⟨.any,b,n⟩
 | s=>s
theorem gG:∀S K,plain S K=K (S.map RL)
 | [],_=>rfl
 | s::r,K=>by
   rw[plain,gG r];have⟨v,b,n⟩:=s
   cases v<;>rfl
theorem El:∀S i,An (S.map RL) i=RL (An S i)
 | [],_=>rfl
 | _::_,0=>rfl
 | _::r,i+1=>El r i
def N0 s:(RL s).box=s.box:=by have⟨v,b,n⟩:=s;cases v<;>rfl
def dH s:(RL s).ver=s.ver:=by have⟨v,b,n⟩:=s;cases v<;>rfl
def SimB.plain(h:SimB X G β S a w):SimB X (λ_=>False) β (S.map RL) a w:=by
 have d:OS β X (S.map RL)=OS β X S:=by funext b;simp[OS,El,N0]
 have e:AU (S.map RL)=AU S:=by funext i;simp[AU,El,dH]
 refine⟨by simp[h.len],h.df,h.below,h.hbase,h.o₀,h.rs,?_,?_,?_,?_,?_,?_⟩;intro t v f;rw[d,e,El];have:=h.slots t v f;generalize An S t=s at this ⊢;have⟨x,b,n⟩:=s
 cases x<;>first|exact this|trivial
 intro i;rw[d,e,El,N0];exact h.boxes i;intro i b;rw[El,N0];exact h.mine i b;intro i j b;rw[El,El,N0,N0];exact h.inj i j b;intro t u c;rw[El]at c;generalize An S t=s at c;have⟨x,b,n⟩:=s
 cases x<;>simp[RL,AV.guards]at c
 intro i;rw[El,N0,dH];exact h.ini i
def jC{x y}{K}(h:w8 x y K):K/\(x.one=ν->y.one=ν)/\∀O w u,A5 O w u x->A5 O w u y:=by
 unfold w8 at h;split at h;rename_i s;have⟨h,hK⟩:=h;rcases h with rfl|rfl;grind;refine⟨hK,λ_=>rfl,λO w u h=>?_⟩
 cases h
 exact .emp _ _ _;grind
def w9{x y}{K}(h:w8 x y K):w8 x y True:=by
 unfold w8 at h ⊢;grind
def leC v v'(cs cs':Γ C):=Ξ cs=Ξ cs'/\∀β O w (j:Nat) u c c',cs[j]?=θ c->cs'[j]?=θ c'->CI β v O w u c->CI β v' O w u c'
theorem Qc{v e}{K}:∀{cs f},L6 v e cs f K->K/\leC v e cs f
 | [],[],h=>⟨h,rfl,λ_ _ _ j u c c' d=>by simp at d⟩
 | [],_::_,h=>h.elim
 | .d x::r,[],h=>h.elim
 | .sl _ _::r,[],h=>h.elim
 | .own _ _ _::r,[],h=>h.elim
 | .d x::r,.d y::q,h=>by
   have⟨h,ho,hx⟩:=jC (show w8 x y (L6 v e r q K)from h);have⟨h1,h2,g⟩:=Qc h;refine⟨h1,by simp[h2],λβ O w j u c c' d b hr=>?_⟩
   cases j with
   | zero=>simp at d b;subst d;subst b;exact⟨hx O w u hr.1,ho hr.2⟩
   | succ j=>exact g β O w j u c c' (by simpa using d) z5 hr
 | .sl id n::r,.sl id' n'::q,h=>by
   have⟨⟨i,k,l⟩,m⟩:=Av h;have⟨h1,h2,g⟩:=Qc m;subst i;refine⟨h1,by simp[h2],λβ O w j u c c' d b hr=>?_⟩
   cases j with
   | zero=>simp at d b;subst d;subst b;exact⟨Zdr l,λ_=>hr.2 k⟩
   | succ j=>exact g β O w j u c c' (by simpa using d) z5 hr
 | .d _::_,.sl _ _::_,h=>h.elim
 | .d _::_,.own _ _ _::_,h=>h.elim
 | .sl _ _::_,.d _::_,h=>h.elim
 | .sl _ _::_,.own _ _ _::_,h=>h.elim
 | .own _ _ _::_,.d _::_,h=>h.elim
 | .own _ _ _::_,.sl _ _::_,h=>h.elim
 | .own _ _ _::_,.own _ _ _::_,h=>h.elim
theorem RF{v b}{K}:∀{cs c},L6 v b cs c K->L6 v b cs c True
 | [],[],_=>trivial
 | [],_::_,h=>h.elim
 | .d x::r,[],h=>h.elim
 | .sl _ _::r,[],h=>h.elim
 | .own _ _ _::r,[],h=>h.elim
 | .d x::r,.d y::q,h=>by
   have h:w8 x y (L6 v b r q K):=h;show w8 x y (L6 v b r q True);unfold w8 at h ⊢;split at h;exact⟨h.1,RF h.2⟩;exact⟨h.1,RF h.2⟩
 | .sl id n::r,.sl id' n'::q,h=>by
   have⟨h1,h2⟩:=Av h;show if id=id'/\n=v id/\n'=b id then L6 v b r q True else False;rw[Zai h1];exact RF h2
 | .d _::_,.sl _ _::_,h=>h.elim
 | .d _::_,.own _ _ _::_,h=>h.elim
 | .sl _ _::_,.d _::_,h=>h.elim
 | .sl _ _::_,.own _ _ _::_,h=>h.elim
 | .own _ _ _::_,.d _::_,h=>h.elim
 | .own _ _ _::_,.sl _ _::_,h=>h.elim
 | .own _ _ _::_,.own _ _ _::_,h=>h.elim
def ar{v f}{y y'}{K}(h:Uy v f y y' K):
 K/\∀β O w tm u,NM β v O w tm u y->NM β f O w tm u y':=by
 cases y'<;>simp only[Uy]at h
 case any=>exact⟨h,λ_ _ _ _ _ _=>trivial⟩
 case d y=>
  split at h;have⟨h,_,h1⟩:=jC h;exact⟨h,λ_ O w _ u hr=>h1 O w u hr⟩;obtain⟨rfl,h⟩:=h;exact⟨h,λ_ _ _ _ _ hr=>hr.1⟩;grind
 case lim sz xs=>obtain⟨rfl,h⟩:=h;exact⟨h,λ_ _ _ _ _ hr=>hr⟩
 case ptr id n o=>
  split at h;rename_i e g o';obtain⟨⟨rfl,h1,h2⟩,rfl,b⟩:=Av h;exact⟨b,λ_ _ _ _ _ hr=>⟨Zdr h2,λ_=>hr.2 h1⟩⟩;grind
 case sl id n=>
  split at h;rename_i e g;obtain⟨⟨rfl,h1,h2⟩,b⟩:=Av h;exact⟨b,λ_ _ _ _ _ hr=>⟨Zdr h2,λ_=>hr.2 h1⟩⟩;grind
 case cc k xs'=>
  split at h;rename_i p xs;obtain⟨rfl,j⟩:=Av h;have⟨h1,h2,b⟩:=Qc j;refine⟨h1,λβ O w tm u hr=>?_⟩;have⟨vs,l,m,hr⟩:=hr;refine⟨vs,l,by rw[m,h2],λi u' c q r=>?_⟩;grind;grind
def nT{v b}{y y'}{K}(h:Uy v b y y' K):Uy v b y y' True:=by
 cases y'<;>simp only[Uy]at h ⊢
 case d y=>
  split at h;exact w9 h
  all_goals grind
 case lim sz xs=>exact⟨h.1,trivial⟩
 case ptr id n o=>
  grind
 case sl id n=>
  grind
 case cc k xs'=>
  split at h;have⟨h1,h2⟩:=Av h;rw[Zai h1];exact RF h2;grind
def leB v v'(b b':Cq):=b'=.none\/(b=b'/\∀cs,b≠.var cs)\/(∃sz e xs,b'=.frow sz xs/\b=.row sz e xs)\/∃cs cs',b=.var cs/\b'=.var cs'/\leC v v' cs cs'
def nS{v d}{b c}{K}(h:rL v d b c K):K/\leB v d b c:=by
 cases c<;>simp[rL]at h
 case none=>exact⟨h,.inl rfl⟩
 case frow sz xs=>
  rcases h.1 with h1|⟨e,h1⟩;exact⟨h.2,.inr (.inl ⟨h1,λcs e=>by rw[h1]at e;cases e⟩)⟩;exact⟨h.2,.inr (.inr (.inl ⟨sz,e,xs,rfl,h1⟩))⟩
 case fvar cs=>exact⟨h.2,.inr (.inl ⟨h.1,λcs e=>by rw[h.1]at e;cases e⟩)⟩
 case map es=>exact⟨h.2,.inr (.inl ⟨h.1,λcs e=>by rw[h.1]at e;cases e⟩)⟩
 case row sz e xs=>exact⟨h.2,.inr (.inl ⟨h.1,λcs e=>by rw[h.1]at e;cases e⟩)⟩
 case var cs'=>
  cases b <;> simp_all
  case var cs=>
   have⟨h1,h2⟩:=Qc h;exact⟨h1,.inr (.inr (.inr ⟨cs,cs',rfl,rfl,h2⟩))⟩
def nU{b}{n c}{K}(h:rM b n c K):K/\(c=0->b≠.none->n=0):=by
 unfold rM at h;grind
theorem dB{v b}:∀{S S'},nR v b S S'->Ξ S=Ξ S'/\∀i,Uy v b (An S i).av (An S' i).av True/\leB v b (An S i).box (An S' i).box/\((An S' i).ver=0->(An S' i).box≠.none->(An S i).ver=0)
 | [],[],_=>⟨rfl,λi=>⟨by simp[An,oV,Uy],.inl rfl,λ_ h=>absurd rfl h⟩⟩
 | ⟨sv,sb,sn⟩::r,⟨sv',sb',sn'⟩::r',h=>by
   have d:=h;have h1:=ar d;have c:=nU h1.1;have h2:=nS c.1;have⟨e,f⟩:=dB h2.1;refine⟨by simp[e],λi=>?_⟩
   cases i with
   | zero=>exact⟨nT d,h2.2,c.2⟩
   | succ i=>exact f i
theorem SimB.le0(h:SimB X (λ_=>False) β S a w){S'}(L:nR (λi=>(An S i).ver) (λi=>(An S' i).ver) S S'):SimB X (λ_=>False) β S' a w:=by
 have⟨v,g⟩:=dB L;have m:=λi=>(g i).2.1
 have f:∀i,(An S' i).box.owned=ν->(An S i).box.owned=ν:=by
  intro i ho;rcases m i with h1|⟨h1,_⟩|⟨sz,e,xs,h1,_⟩|⟨cs,x,h1,h2,_⟩;rw[h1]at ho;cases ho;grind;rw[h1]at ho;cases ho;rw[h1];rfl
 have M:∀b,OS β X S' b->OS β X S b:=by
  intro b d;rcases d with d|d|⟨i,h1,h2⟩;exact .inl d;exact .inr (.inl d);exact .inr (.inr ⟨i,f i h1,h2⟩)
 have l:Cg (OS β X S) (OS β X S') w w:=Cg.of_sub M;refine⟨by rw[<-v];exact h.len,h.df,h.below,h.hbase,h.o₀,h.rs,?_,?_,?_,?_,?_,?_⟩;intro t u N;have hr:=(h.slots t u N).mono l (λ_=>.inr ⟨rfl,rfl⟩) λ_ _=>rfl;exact(ar (g t).1).2 β (OS β X S') w a.tmps u hr;intro i
 have E:(An S' i).box.owned=ξ->(An S i).box.owned=ν->∀b,Ai (β i)=θ b->¬OS β X S' b:=by
  intro h1 h2 b d y;have O:=h.mine i b h2 d;rcases y with y|y|⟨j,B,Q⟩;have:=h.o₀ b y;rcases O.1 with K|K;omega;exact this.2 K;grind;have:=h.inj j i b (f j B) h2 Q d;grind
 have d:=h.boxes i;rcases m i with h1|⟨h1,h2⟩|⟨sz,e,xs,h1,h2⟩|⟨cs,x,h1,h2,B⟩;rw[h1];trivial;rw[<-h1]
 cases hB:(An S i).box with
 | none=>trivial
 | var cs=>grind
 | row sz e xs=>
   rw[hB]at d;have⟨n,q,vals,r,k⟩:=d;exact⟨n,q,vals,r,k.mono l⟩
 | fvar cs=>rw[hB]at d;exact⟨d.1.mono l,d.2⟩
 | frow sz xs=>rw[hB]at d;exact A5.mono l d
 | map es=>
   rw[hB]at d;have⟨b,vs,s,n,q,r,k⟩:=d;exact⟨b,vs,s,n,q,r,λi e p F z=>⟨(k i e p F z).1.mono l,(k i e p F z).2.1.mono l,(k i e p F z).2.2⟩⟩
 rw[h1];have A:=E (by rw[h1];rfl) (by rw[h2];rfl);rw[h2]at d;have⟨n,q,vals,r,k⟩:=d;exact gZ n q r (k.mono l) A;rw[h2];rw[h1]at d;have⟨b,vals,T,n,q,r,k⟩:=d;refine⟨b,vals,T,n,q,by rw[<-B.1];exact r,λj u c C z=>?_⟩;have D:j<Ξ cs:=z5;exact B.2 β _ w j u cs[j] c (Zaa D) z ((k j u cs[j] C (Zaa D)).mono l λ_=>.inr ⟨rfl,rfl⟩);intro i b H;exact h.mine i b (f i H);intro i j b H D;exact h.inj i j b (f i H) (f j D);intro t u C;have:=(g t).1;generalize (An S' t).av=y' at C this
 cases y'<;>simp[AV.guards]at C
 simp[Uy]at this;intro i R I;refine h.ini i ((g i).2.2 R I) λy=>?_;rcases m i with h1|⟨h1,_⟩|⟨sz,e,xs,_,h1⟩|⟨cs,x,h1,_,_⟩
 all_goals grind
def SimB.know(h:SimB X G β S a w){t}{x}(hx:∀v,a.tmps[t]?=θ v->A5 (OS β X S) w v x):SimB X G β (GT S t (.d x)) a w:=by
 have c:∀i,(An (GT S t (.d x)) i).box=(An S i).box/\(An (GT S t (.d x)) i).ver=(An S i).ver:=by
  intro i;rw[Ea];grind
 have g:OS β X (GT S t (.d x))=OS β X S:=by funext b;simp[OS,c]
 have k:AU (GT S t (.d x))=AU S:=by funext i;simp[AU,c]
 refine⟨by rw[L8];exact h.len,h.df,h.below,h.hbase,h.o₀,h.rs,?_,?_,?_,?_,?_,?_⟩;intro i v f;rw[g,k,Ea];split;rename_i e;rw[e.1]at f;exact hx v f;exact h.slots i v f;intro i;rw[g,k,(c i).1];exact h.boxes i;intro i b;rw[(c i).1];exact h.mine i b;intro i j b;rw[(c i).1,(c j).1];exact h.inj i j b;intro i u d;rw[Ea]at d;split at d;simp[AV.guards]at d;exact h.gds i u d;intro i;rw[(c i).1,(c i).2];exact h.ini i
theorem Zc:∀{c}{S}{K},mV c S K->SimB X (λ_=>False) β S a w->∃S',K S'/\SimB X (λ_=>False) β S' a w
 | [],S,K,hy,h=>⟨S,hy,h⟩
 | t::r,S,K,hy,h=>by
   have⟨y,b,hK,d,_,f⟩:=Nt (x:=X) (G:=λ_=>False) (a:=a) (ρ_sound h (g:=κ) (λ_ _ e=>by cases e) (.tmp t)) hy;rw[Sy,Yh]at hK;have hr:=f.now h d;refine Zc hK ((d.run h).1.know λv i=>?_);have:a.eval (.tmp t)=v:=by simp[Act.eval,Zci,i]
   grind
theorem uM:∀{ts}{S}{K},uD ts S K->SimB X (λ_=>False) β S a w->∃S',K S'/\SimB X (λ_=>False) β S' a w
 | [],S,K,hy,h=>⟨S,hy,h⟩
 | t :: r,S,K,hy,h=>by
   unfold uD at hy;split at hy;rename_i av cs n s;obtain⟨l,b,hy,D,E,Y,-,Z⟩:=NU h hy;rw[Wa,Sy,Cl]at hy;have m:(An S t).box=.var cs:=by rw[s]
   have F:(An S t).ver=n:=by rw[s]
   have H:=UO m zs;have⟨h1,hO,f⟩:=D.run h;have x:=h1.boxes t
   have I:∀y∈b,y.1≠t:=λy hy e=>by
    have hz:∀{seen b:Bx},FZ S seen b->∀y∈b,∃seen',qM S seen' y:=by
     intro seen b
     induction b generalizing seen with
     | nil=>intro _ y hy;cases hy
     | cons z q ih =>
       intro R y hy;rcases List.mem_cons.1 hy with e|e;exact⟨_,by rw[e];exact R.1⟩;exact ih R.2 y e
    have⟨_,J⟩:=hz D y hy;rcases J.2 with⟨sz',e',xs',C,_⟩|⟨cs',ds',_,L,_⟩|⟨C,_⟩
    all_goals grind
   have d:=(f.other t I).trans m;have M:=(f.ver t).trans F;rw[d]at x;have⟨bb,vals,T,C,L,U,k4⟩:=x;have g:=h.boxes t;rw[m]at g;have⟨bb0,N,T0,O,Q,j3,j4⟩:=g;rw[C]at O;simp at O;subst O;rw[L]at Q;have A:=(Z vals.toList (by simpa using U) λj v c V p=>j4 j v c z5 p).now h D
   have h2:=h1.rebox (R':=X.R) (id:=t) (B:=.var (l.map .d)) (v:=β t) (n:=n) (w':=w) (λ_ h=>h) (by rw[Dx];exact H) (.inr ⟨M.symm,rfl,by rw[d];simp⟩) (Zam _) (AC.refl _ _ _) (λ_ _ _=>rfl)
    (λ_ b W=>⟨.inl ⟨W,by rw[d];rfl⟩,(h1.mine t b (by rw[d];rfl) W).2⟩)
    (λk V=>by
     rw[HW]at k V ⊢;refine⟨bb,vals,T,C,L,by simp;rw[<-Y];exact U,λi u c hu p=>?_⟩;rw[Zaz]at p
     cases hd:l[i]? with
     | none=>rw[hd]at p;cases p
     | some y =>
       rw[hd]at p;cases p;have:=A.2 i u y (by simpa using hu) hd;exact⟨this.1.mono k,this.2⟩)
   rw[HW]at h2;exact uM hy h2;grind
def SimB.le(h:SimB X (λ_=>False) β S a w){S'}(b:Le S S'):SimB X (λ_=>False) β S' a w:=by
 have⟨e,h1,h2⟩:=Zc b h;have⟨f,c,d⟩:=uM h1 h2;exact d.le0 c
theorem cR:∀{N}{S}{β}{K},fb N S K->SimB X (λ_=>False) β S a w->∃x S',K S'/\SimB X (λ_=>False) x S' a w
 | [],S,β,K,hy,h=>⟨β,S,hy,h⟩
 | (v,j,q,e)::r,S,β,K,hy,h=>by
   unfold fb at hy;split at hy;rename_i av cs n hsv;split at hy;rename_i s z;have⟨⟨O,A⟩,hy⟩:=Av hy;have⟨Q,hy⟩:=Uu _ _ _ hy;rw[Ct,Sy]at hy;have d:(An S v).box=.var cs:=z5;have R:(An S v).ver=n:=z5;have U:=UO d zs;have D:=h.boxes v;rw[d]at D;have⟨b,vals,T,k1,k2,k3,k4⟩:=D;have hj:j<vals.size:=z5;have t:=k4 j vals[j] _ (by simp[hj]) z
   obtain⟨y,E⟩:∃y,vals[j]=.slice y 0 0:=by
    have:=t.1;generalize vals[j]=u at this
    cases this
    exact⟨_,rfl⟩
   have⟨x,h1,F,_⟩:=xe h Q (n:=(An S q).ver+1) (Zds _) (R':=X.R) (λ_ h=>h) (Below.refl _ _) (v:=.slice y 0 0) (e:=e) (xs:=[]) (vals:=[]) O (λ_ h=>by cases h)
    (by cases y with
     | none=>exact .inl (World.ownsRow_nil w _ e _)
     | some p=>exact .inr ⟨rfl,rfl,p,rfl⟩) (λb J=>by cases y<;>simp[Ai]at J) BC.nil
   have H:x v=β v:=by rw[F];simp[Pn,A]
   have V:x q=.slice y 0 0:=by rw[F];simp[Pn]
   have f:An (Bp S q (.row s e []) ((An S q).ver+1)) v=An S v:=by rw[NJ Q];simp[A]
   have W:(An (Bp S q (.row s e []) ((An S q).ver+1)) q).ver=(An S q).ver+1:=by rw[NJ Q];simp
   have m:=h1.boxes v;rw[f,d]at m;have⟨b',Y,T',Z,j2,j3,j4⟩:=m;rw[H,k1]at Z;simp at Z;subst Z;rw[k2]at j2;obtain⟨rfl,rfl⟩:=j2
   have h2:=h1.rebox (R':=X.R) (id:=v) (B:=.var (splice cs j [.sl q ((An S q).ver+1)])) (v:=x v) (n:=n) (w':=w) (λ_ h=>h) (by rw[Ef];exact U) (.inr ⟨by rw[f,R],rfl,by rw[f,d];simp⟩) (Zam _) (AC.refl _ _ _) (λ_ _ _=>rfl)
    (λ_ b J=>⟨.inl ⟨J,by rw[f,d];rfl⟩,(h1.mine v b (by rw[f,d];rfl) J).2⟩)
    (λk L=>by
     rw[HW]at k L ⊢;refine⟨b,vals,T,by rw[H,k1],k2,?_,λi u c M l=>?_⟩;rw[Hm _ _ _ z0];simp;omega;rw[Hm _ _ _ z0]at l;have g:Ξ (cs.take j)=j:=z5;rcases Zed i j with I|I|I;rw[Zcn,Zba (by rw[g];exact I),Zda I]at l;exact(j4 i u c M l).mono k L;subst I;rw[Zcn,Zat (by rw[g];exact Zam _),g]at l;simp at l;subst l;apply CI.mono k L;have:u=vals[i]:=by simp[hj]at M;exact M.symm
     rw[this];exact⟨by rw[AU];rw[W];exact Zam _,λ_=>by rw[V,E]⟩;rw[Zcn,Zat (by rw[g];omega),g]at l;rw[show([C.sl q ((An S q).ver+1)]++cs.drop (j+Ξ [C.sl q ((An S q).ver+1)]))=C.sl q ((An S q).ver+1)::cs.drop (j+1)from rfl]at l;rw[show i-j=(i-j-1)+1 by omega,Zcg,Zca]at l;exact(j4 i u c M (by rw[show i=j+1+(i-j-1) by omega];exact l)).mono k L)
   exact cR hy h2;grind;grind
def tp(h:SimB X (λ_=>False) β S a w){c}{b}(d:ρOf S κ c=.d (.bool b)):a.eval c=.bool b:=by
 have:=ρ_sound h (g:=κ) (λ_ _ e=>by cases e) c;rw[d]at this;exact FS this
def Abc X(Q:Exit->AS->Prop)e a w:=∃β S,Q e S/\SimB X (λ_=>False) β S a w
def Sx P:=∀id ops Q S X β a w,kD P [] (.region id ops ν) Q S->SimB X (λ_=>False) β S a w->(Code.region id ops ν).wp P (Abc X Q) a w
theorem least(p:Nat->Prop):∀n,p n->∃m,p m/\∀k,p k->m<=k:=by
 intro n
 induction n using Nat.strongRecOn with
 | _ n ih=>grind
theorem FU{J}(f:Sx P):∀c{Q}{S}{β}{a}{w},kD P J c Q S->SimB X (λ_=>False) β S a w->c.wp P (Abc X Q) a w
 | .skip,Q,S,β,a,w,hy,h=>wp_skip ⟨β,S,hy,h⟩
 | .label _,Q,S,β,a,w,hy,h=>wp_label ⟨β,S,hy,h⟩
 | .region id ops draw,Q,S,β,a,w,hy,h=>by
   have hy:match lz J (1000000+id)with
    | true=>Wq P S (.region id ops draw) Q
    | false=>kD P [] (.region id ops draw) Q S:=hy
   split at hy;have⟨K,ι,Inv,s,hx,r⟩:=hy.go;simp[GL]at r;refine wp_mono (hx X β a w (h.le s)) λe v w' d=>?_;obtain⟨rfl,i,g,q⟩:=d;exact⟨g,_,r i,q⟩
   cases draw with
   | true=>exact f id ops Q S X β a w hy h
   | false=>
     refine wp_region_list (Zo hy (h.weaken λ_ C=>C.elim) λg S' v w' D hK q=>?_);rw[gG]at hK;exact⟨g,_,hK,q.plain⟩
 | .seq x y,Q,S,β,a,w,hy,h=>by
   have hy:match lC J y with
    | false=>kD P J x (λe S=>match e with|.normal=>kD P J y Q S|e=>Q e S) S
    | true=>Wr S (kD P J x) (kD P J y) Q:=hy
   split at hy;refine wp_seq (wp_mono (FU f x hy h) λe v w' d=>?_);have⟨g,S',d,q⟩:=d
   cases e with
   | normal=>exact FU f y d q
   | _=>exact⟨g,S',d,q⟩
   have⟨ι,Inv,hx,r⟩:=hy.go;simp[GL]at r;refine wp_seq (wp_mono (FU f x hx h) λe v w' d=>?_);have⟨g,S',d,q⟩:=d
   cases e with
   | normal=>
     have⟨i,s⟩:=d;exact FU f y (r i) (q.le s)
   | _=>exact⟨g,S',d,q⟩
 | .cond c x y,Q,S,β,a,w,hy,h=>by
   have hy:match ρOf S κ c with
    | .d (.bool b)=>cX b (kD P J x Q S) (kD P J y Q S)
    | _=>False:=hy
   split at hy;rename_i b L;exact wp_cond_split (tp h L) (λM=>FU f x (hy.pos M) h) λC=>FU f y (hy.neg C) h;grind
 | .ret,Q,S,β,a,w,hy,h=>wp_ret ⟨β,S,hy,h⟩
 | .block id c,Q,S,β,a,w,hy,h=>by
   have hy:match lz J id with
    | true=>Wq P S (.block id c) Q
    | false=>kD P J c (λe S=>match e with|.exit A=>if A=id then Q .normal S else Q (.exit A) S|e=>Q e S) S:=hy
   split at hy;have⟨K,ι,Inv,s,hx,r⟩:=hy.go;simp[GL]at r;refine wp_mono (hx X β a w (h.le s)) λe v w' d=>?_;obtain⟨rfl,i,g,q⟩:=d;exact⟨g,_,r i,q⟩;refine wp_block (wp_mono (FU f c hy h) λe v w' d=>?_);have⟨g,S',d,q⟩:=d
   cases e with
   | exit A=>
     simp[Exit.inBlock]at d ⊢;split;rename_i he;rw[Zai he]at d;exact⟨g,S',d,q⟩;rename_i he;rw[Zah he]at d;exact⟨g,S',d,q⟩
   | _=>exact⟨g,S',d,q⟩
 | .exit id,Q,S,β,a,w,hy,h=>wp_exit ⟨β,S,hy,h⟩
 | .loop c,Q,S,β,a,w,hy,h=>by
   have⟨N,O,ι,Inv,μ,R,s,t⟩:=hy.go;simp[GL]at t;have⟨β,S,s,h⟩:=cR s h;have⟨S,s,h⟩:=Zc s h;let I:Act->Λ->Nat->Prop:=λa w n=>∃i β,μ i=n/\SimB X (λ_=>False) β (Inv i) a w;have F:∃n,I a w n:=⟨_,R,β,rfl,h.le s⟩
   have z:∀a w,(∃n,I a w n)->I a w (Classical.epsilon λm=>I a w m/\∀k,I a w k->m<=k)/\∀k,I a w k->(Classical.epsilon λm=>I a w m/\∀k,I a w k->m<=k)<=k:=
    λa w ⟨n,T⟩=>Classical.epsilon_spec (p:=λm=>I a w m/\∀k,I a w k->m<=k) (least (I a w) n T)
   refine wp_loop (λa w=>∃n,I a w n) (λa w=>Classical.epsilon λm=>I a w m/\∀k,I a w k->m<=k) F λa w U=>?_;have⟨i,β,W,q⟩:=(z a w U).1;refine wp_mono (FU f c (t i) q) λe v w' d=>?_;have⟨g,S',d,u⟩:=d
   cases e with
   | normal=>
     have⟨j,H,V⟩:=d;have B:I v w' (μ j):=⟨j,g,rfl,u.le H⟩;refine⟨⟨_,B⟩,?_⟩;have:=(z v w' ⟨_,B⟩).2 _ B;grind
   | _=>exact⟨g,S',d,u⟩
 | .scope _,_,_,_,_,_,hy,_=>hy.elim
 | .goto _,_,_,_,_,_,hy,_=>hy.elim
 | .refuse _,_,_,_,_,_,hy,_=>hy.elim
 | .rangeFunc _ _ _ _,_,_,_,_,_,hy,_=>hy.elim
end
section
variable {P:Η} {X:Cx} {β:Nat->Ψ} {S:AS} {a:Act} {w:Λ}
def YR(tmps:Array Ψ):ResultVar->Sem Ψ| .tmp t=>pure (tmps.getD t undef)| .cell a t=>do loadVar t (<-asAddr (tmps.getD a undef))
def no:CZ κ a:=λ_ _ e=>by cases e
def eY(X:Cx)(β:Nat->Ψ)(S:AS)(a:Act)(w:Λ)(used:Γ Nat)(frz:Bx)(v:Ψ):C->Prop| .d y=>Pr X (λ_=>False) β S a w frz λO=>A5 O w v y| .own sz e xs=>∃id,id∈used/\v=β id/\(An S id).box=.row sz e xs/\∀x∈xs,∀y∈x.cells,y.bare=ν| .sl _ _=>False
theorem eY.mono{f b}{frz g}(j:∀i∈f,i∈b)(k:∀y∈frz,y∈g){v}{c}(h:eY X β S a w f frz v c):eY X β S a w b g v c:=by
 cases c with
 | d y=>exact Pr.mono (show Pr X (λ_=>False) β S a w frz λO=>A5 O w v y from h) k λ_ h=>h
 | own sz e xs=>have⟨id,h1,h2⟩:=h;exact⟨id,j id h1,h2⟩
 | sl _ _=>exact h
theorem jw:∀{cs}{K},kS cs K->∃l,K l/\cs=l.map .d
 | [],K,h=>⟨[],h,rfl⟩
 | .d x::r,K,h=>by
   have h:kS r λl=>K (x::l):=h;have⟨l,h1,h2⟩:=jw h;grind
 | .sl _ _::r,K,h=>h.elim
 | .own _ _ _::r,K,h=>h.elim
theorem Un(h:SimB X (λ_=>False) β S a w):∀{rs}{g}{frz}{K},X5 P S g frz rs K->FZ S [] frz->(∀i∈g,(An S i).box.owned=ν)->
 ∃cs d f,K cs d f/\FZ S [] f/\(∀i∈g,i∈d)/\(∀y∈frz,y∈f)/\(∀i∈d,(An S i).box.owned=ν)/\∃vs:Γ Ψ,(rs.mapM (YR a.tmps)).run P w=.ok vs w/\Ξ vs=Ξ cs /\
  (∀(i:Nat) v c,vs[i]?=θ v->cs[i]?=θ c->eY X β S a w d f v c) /\
  (∀(i:Nat) v sz e xs b,vs[i]?=θ v->cs[i]?=θ (.own sz e xs)->Ai v=θ b->∀j∈g,Ai (β j)≠θ b) /\
  (∀(i j:Nat) v z sz e xs o A p b,vs[i]?=θ v->vs[j]?=θ z->cs[i]?=θ (.own sz e xs)->cs[j]?=θ (.own o A p)->Ai v=θ b->Ai z=θ b->i=j)
 | [],g,frz,K,hy,hF,hu=>⟨[],g,frz,hy,hF,(λ_ h=>h),(λ_ h=>h),hu,[],rfl,rfl,(λi v c k=>by simp at k),(λi v sz e xs b k=>by simp at k),λi j v z sz e xs o A p b k=>by simp at k⟩
 | .tmp t::r,g,frz,K,hy,hF,hu=>by
   have data:∀y b,FZ S [] b->Pr X (λ_=>False) β S a w b (λO=>A5 O w (a.eval (.tmp t)) y)->(X5 P S g (frz++b) r λl u b=>K (.d y::l) u b)->
    ∃cs d f,K cs d f/\FZ S [] f/\(∀i∈g,i∈d)/\(∀y∈frz,y∈f)/\(∀i∈d,(An S i).box.owned=ν)/\∃vs:Γ Ψ,((ResultVar.tmp t::r).mapM (YR a.tmps)).run P w=.ok vs w/\Ξ vs=Ξ cs /\
    (∀(i:Nat) v c,vs[i]?=θ v->cs[i]?=θ c->eY X β S a w d f v c) /\
    (∀(i:Nat) v sz e xs b,vs[i]?=θ v->cs[i]?=θ (.own sz e xs)->Ai v=θ b->∀j∈g,Ai (β j)≠θ b) /\
    (∀(i j:Nat) v z sz e xs o A p b,vs[i]?=θ v->vs[j]?=θ z->cs[i]?=θ (.own sz e xs)->cs[j]?=θ (.own o A p)->Ai v=θ b->Ai z=θ b->i=j):=by
    intro y b E N hy;have⟨cs,d,f,hK,Q,L,M,F,vs,R,U,V,k7,W⟩:=Un h hy (hF.append E) hu;refine⟨_,d,f,hK,Q,L,λy hy=>M y (by simp[hy]),F,a.eval (.tmp t)::vs,?_,by simp[U],λi v c k m=>?_,λi v sz e xs b k m=>?_,λi j v z sz e xs o A p b k q m s H I=>?_⟩;simp only[Zge,YR,Sem.run_bind,Sem.run_pure,Result.andThen_ok,R];rfl
    cases i with
    | zero=>simp at k m;subst k;subst m;exact N.mono (λy hy=>M y (by simp[hy])) λ_ h=>h
    | succ i=>exact V i v c (by simpa using k) z5
    grind
    cases i with
    | zero=>simp at m
    | succ i=>cases j with
      | zero=>simp at s
      | succ j=>rw[W i j v z sz e xs o A p b (by simpa using k) (by simpa using q) (by simpa using m) (by simpa using s) H I]
   unfold X5 at hy;have hr:=ρ_sound h no (.tmp t);split at hy;rename_i id n sz e xs hx;rw[hx]at hr;rcases hy.go with hy|hy;have⟨y,b,hK,E,_,N⟩:=Nt (x:=X) (G:=λ_=>False) (a:=a) (K:=λy b=>y=.list sz xs/\b=[(id,Cq.frow sz xs,n)]) hr ⟨rfl,rfl⟩;obtain⟨rfl,rfl⟩:=hK;exact data _ _ E N hy;split at hy;exact hy.elim;rename_i Y;have⟨J,hy⟩:=hy;have⟨Z,hb2,hb3⟩:=hr;have hown:(An S id).box.owned=ν:=by rw[Z];rfl
   have⟨cs,d,f,hK,Q,L,M,F,vs,R,U,V,k7,W⟩:=Un h hy hF (λi hi=>by
    rcases List.mem_cons.1 hi with rfl|hi;grind;exact hu i hi)
   refine⟨_,d,f,hK,Q,λi hi=>L i (by simp[hi]),M,F,a.eval (.tmp t)::vs,?_,by simp[U],λi v c k m=>?_,λi v o A p b k m H j hj=>?_,λi j v z sz1 e1 xs1 o A p b k q m s H I=>?_⟩;simp only[Zge,YR,Sem.run_bind,Sem.run_pure,Result.andThen_ok,R];rfl
   cases i with
   | zero=>simp at k m;subst k;subst m;exact⟨id,L id zs,hb3,Z,J⟩
   | succ i=>exact V i v c z5 (by simpa using m)
   cases i with
   | zero=>
     simp at k m;subst k;intro hjb;rw[hb3]at H;have:=h.inj id j b hown (hu j hj) H hjb;subst this;exact Y (by simpa using hj)
   | succ i=>exact k7 i v o A p b (by simpa using k) (by simpa using m) H j (by simp[hj])
   cases i with
   | zero=>cases j with
     | zero=>rfl
     | succ j=>grind
   | succ i=>cases j with
     | zero=>grind
     | succ j=>rw[W i j v z sz1 e1 xs1 o A p b (by simpa using k) (by simpa using q) (by simpa using m) (by simpa using s) H I]
   rename_i s hx;rw[hx]at hr;rcases hy.go with hy|hy;have⟨y,b,hK,E,_,N⟩:=bD (x:=X) (G:=λ_=>False) (a:=a) (K:=λy b=>y=.list s []/\b=[]) hr ⟨rfl,rfl⟩;obtain⟨rfl,rfl⟩:=hK;exact data _ _ E N hy;have⟨y,b,hK,E,_,N⟩:=Nt (x:=X) (G:=λ_=>False) (a:=a) (K:=λy b=>y=.nil s/\b=[]) hr ⟨rfl,rfl⟩;obtain⟨rfl,rfl⟩:=hK;exact data _ _ E N hy;have⟨y,b,hK,E,_,N⟩:=bD (x:=X) (G:=λ_=>False) (a:=a) hr hy;exact data y b E N hK
 | .cell t ty::r,g,frz,K,hy,hF,hu=>by
   unfold X5 at hy;have hr:=ρ_sound h no (.tmp t);split at hy;rename_i id n off cs0 hx;rw[hx]at hr;have⟨H,_,bb,hβ,k⟩:=hr;have⟨l0,hy,hcs⟩:=jw hy;have⟨vals,T,h3,h4,h5⟩:=SA h H hβ
   have⟨y,hy,v0,hl,hvr⟩:=bU (P:=P) (O:=OS β X S) (w:=w) (b:=bb) (off:=off) hy (λj y hy=>by
    rw[Zca]at hy;have m:cs0[off+j]?=θ (.d y):=by rw[hcs];simp[hy]
    have hlt:off+j<vals.size:=by rw[h4];exact AG m
    have:=h5 (off+j) vals[off+j] _ (by simp[hlt]) m;exact⟨vals[off+j],by simp[World.cell?,h3,hlt],this.1,this.2⟩)
   rw[WV]at hy;have⟨cs,d,f,hK,Q,L,M,F,vs,R,U,V,k7,W⟩:=Un h hy hF hu;have q:a.tmps.getD t undef=.pointer (θ ⟨bb,off,κ⟩):=k;refine⟨_,d,f,hK,Q,L,M,F,v0::vs,?_,by simp[U],λi v c k m=>?_,λi v sz e xs b k m=>?_,λi j v z sz e xs o A p b k q m s H I=>?_⟩;simp[Zge,YR,q,asAddr,Sem.run_bind,Sem.run_pure,Result.andThen_ok,hl,R]
   cases i with
   | zero=>simp at k m;subst k;subst m;exact λB _ _ _ hk=>(hvr.mono (Cg.of_sub hk)).norm
   | succ i=>exact V i v c (by simpa using k) (by simpa using m)
   grind
   cases i with
   | zero=>simp at m
   | succ i=>cases j with
     | zero=>simp at s
     | succ j=>rw[W i j v z sz e xs o A p b (by simpa using k) (by simpa using q) (by simpa using m) (by simpa using s) H I]
   grind
def Uo{fn:Func}{vs:Γ Ψ}(h:(fn.results.toList.mapM (YR a.tmps)).run P w=.ok vs w):
 (results fn a.tmps).run P w=.ok (if h:vs.toArray.size=1 then vs.toArray[0]else .tuple vs.toArray) w:=by
 have e:(fn.results.mapM (YR a.tmps)).run P w=.ok vs.toArray w:=by
  rw[Zgk,Sem.run_map,h];simp
 have b:results fn a.tmps=(do let vs<-fn.results.mapM (YR a.tmps);pure (if h:vs.size=1 then vs[0]else .tuple vs)):=by
  congr 2
 rw[b,Sem.run_bind,e];rfl
def bC{b:Γ Nat}{frz}(h:b.all (λi=>Ku i frz)=ν):∀i∈b,∀y∈frz,y.1≠i:=λi c=>KI (List.all_eq_true.1 h i c)
def Zv(h:SimB X (λ_=>False) β S a w){fn}{f}{frz}{r}(hF:FZ S [] frz)(hu:∀i∈f,(An S i).box.owned=ν)(hy:qs P fn.results.toList f frz S r):
 ∃v T,(results fn a.tmps).run P w=.ok v w/\SimB X (λ_=>False) β T a w/\(∀i∈f,An T i=An S i)/\(∀z∈frz,(An T z.1).box=z.2.1)/\(∃F,(∀y∈frz,y∈F)/\Fr S F T) /\
  Eu (λb=>X.mine b/\∀i∈f,Ai (β i)≠θ b) (OS β X T) w v r/\(∀b,EZ v r b->OS β X T b):=by
 have ownR:∀{T:AS}{o:Γ Nat}{v:Ψ}{sz:Nat}{e:Υ}{xs:Γ D},SimB X (λ_=>False) β T a w->(∀i∈o,An T i=An S i)->(∃id,id∈o/\v=β id/\(An S id).box=.row sz e xs/\∀x∈xs,∀y∈x.cells,y.bare=ν)->
  (∀b,Ai v=θ b->∀j∈f,Ai (β j)≠θ b)->bA (λb=>X.mine b/\∀i∈f,Ai (β i)≠θ b) w v sz e xs/\∀b,Ai v=θ b->OS β X T b:=by
  intro T o v sz e xs hT m ⟨id,h1,h2,h3,h4⟩ hne;have G:(An T id).box=.row sz e xs:=z5;have g:(An T id).box.owned=ν:=by rw[G];rfl
  have E:=hT.boxes id;rw[G]at E;have⟨k1,k2,vals,k3,k4⟩:=E;refine⟨⟨k1,k2,λb M=>⟨(hT.mine id b g z5).1,hne b M⟩,vals,by rw[h2];exact k3,?_⟩,λb M=>.inr (.inr ⟨id,g,by rw[<-h2];exact M⟩)⟩;refine⟨k4.1,λj u y hu hy=>?_⟩;have:=k4.2 j u y hu hy;refine⟨Yv this.1 ?_,this.2⟩;have hm:=Zbf hy;grind
 have rest:∀{rs:Γ ResultVar},rs=fn.results.toList->(X5 P S f frz rs λl u b=>zF l u b r)->∃v T,(results fn a.tmps).run P w=.ok v w/\SimB X (λ_=>False) β T a w/\(∀i∈f,An T i=An S i)/\(∀z∈frz,(An T z.1).box=z.2.1)/\(∃F,(∀y∈frz,y∈F)/\Fr S F T) /\
  Eu (λb=>X.mine b/\∀i∈f,Ai (β i)≠θ b) (OS β X T) w v r/\(∀b,EZ v r b->OS β X T b):=by
  intro rs U hy;have⟨cs,o,k,hK,k1,k2,k3,k3',vs,k4,k5,W,k7,k8⟩:=Un h hy hF hu;have⟨H,K⟩:=Av hK;have I:=bC H;have⟨Q,t2,C⟩:=k1.run h
  have m:∀i∈o,An (B5 k S) i=An S i:=by
   intro i L;have Y:=C.other i (I i L);have Z:=C.ver i;have e3:=C.av i;generalize An (B5 k S) i=p at Y Z e3;generalize An S i=q at Y Z e3;have⟨_,_,_⟩:=p;have⟨_,_,_⟩:=q;grind
  have A:∀(i:Nat) v y,vs[i]?=θ v->cs[i]?=θ (.d y)->A5 (OS β X (B5 k S)) w v y:=λi v y R V=>(W i v _ R V) k (λ_ h=>h) C Q t2
  have J:∀(i:Nat) v sz e xs,vs[i]?=θ v->cs[i]?=θ (.own sz e xs)->bA (λb=>X.mine b/\∀i∈f,Ai (β i)≠θ b) w v sz e xs/\∀b,Ai v=θ b->OS β X (B5 k S) b:=by
   intro i v sz e xs R V;exact ownR Q m (W i v _ R V) (λb E=>k7 i v sz e xs b R V E)
  have fin:∀v,(results fn a.tmps).run P w=.ok v w->Eu (λb=>X.mine b/\∀i∈f,Ai (β i)≠θ b) (OS β X (B5 k S)) w v r->(∀b,EZ v r b->OS β X (B5 k S) b)->∃v T,(results fn a.tmps).run P w=.ok v w/\SimB X (λ_=>False) β T a w/\(∀i∈f,An T i=An S i)/\(∀z∈frz,(An T z.1).box=z.2.1)/\(∃F,(∀y∈frz,y∈F)/\Fr S F T) /\
   Eu (λb=>X.mine b/\∀i∈f,Ai (β i)≠θ b) (OS β X T) w v r/\(∀b,EZ v r b->OS β X T b):=
   λv R hr E=>⟨v,_,R,Q,λi L=>m i (k2 i L),λz hz=>C.mem z (k3 z hz),⟨k,k3,C⟩,hr,E⟩
  have B:=Uo (P:=P) (w:=w) (a:=a) (fn:=fn) (vs:=vs) z5
  have N:Ret (.tup cs) r->Ξ cs≠1->∃v T,(results fn a.tmps).run P w=.ok v w/\SimB X (λ_=>False) β T a w/\(∀i∈f,An T i=An S i)/\(∀z∈frz,(An T z.1).box=z.2.1)/\(∃F,(∀y∈frz,y∈F)/\Fr S F T) /\
   Eu (λb=>X.mine b/\∀i∈f,Ai (β i)≠θ b) (OS β X T) w v r/\(∀b,EZ v r b->OS β X T b):=by
   intro hr hne;have hl:¬vs.toArray.size=1:=z5;rw[dif_neg hl]at B;have hr:=hr.go;subst hr
   have hres:∀b,EZ (.tuple vs.toArray) (.tup cs) b->OS β X (B5 k S) b:=by
    rintro b ⟨vs',i,u,sz,e,ys,h1,h2,h3,h4⟩;grind
   refine fin _ B ⟨vs.toArray,rfl,by simpa using k5,λi u c hu' V=>?_,λi j u u' sz e ys sz' e' ys' b h1 h2 h3 h4 h5 h6=>k8 i j u u' sz e ys sz' e' ys' b z5 (by simpa using h2) h3 h4 h5 h6⟩ hres
   cases c with
   | d y=>
     refine A5.mono (Cg.of_sub λb E=>?_) (A i u y z5 V);grind
   | own sz e ys=>grind
   | sl _ _=>exact(W i u _ z5 V).elim
  match cs,K,k5,W,k7,k8,A,J,N with
  | [],K,k5,W,k7,k8,A,J,N=>exact N K zs
  | c1::c2::q,K,k5,W,k7,k8,A,J,N=>exact N K zs
  | [c],K,k5,W,k7,k8,A,J,N=>
    have hl:=k5;obtain⟨v,rfl⟩:=List.length_eq_one_iff.1 hl;have hrv:(results fn a.tmps).run P w=.ok v w:=z5;have hr:=K.go;subst hr
    cases c with
    | d y=>exact fin v hrv (A 0 v y rfl rfl) (λb E=>E.elim)
    | own sz e xs=>
      have⟨j1,j2⟩:=J 0 v sz e xs rfl rfl;exact fin v hrv j1 j2
    | sl _ _=>exact(W 0 v _ rfl rfl).elim
 unfold qs at hy;split at hy
 ·
   split at hy<;>try exact hy.elim
   rename_i t U;split at hy<;>try exact hy.elim
   rename_i id n sz e xs hx;have hr:=ρ_sound h no (.tmp t);rw[hx]at hr;have⟨hb1,hb2,R⟩:=hr;split at hy;grind;have⟨H,hK⟩:=Av hy;have hK:=hK.go
   cases hK
   have I:=bC H;have⟨Q,t2,C⟩:=hF.run h
   have m:∀i∈id::f,An (B5 frz S) i=An S i:=by
    intro i L;have Y:=C.other i (I i L);have Z:=C.ver i;have e3:=C.av i;generalize An (B5 frz S) i=p at Y Z e3;generalize An S i=q at Y Z e3;have⟨_,_,_⟩:=p;have⟨_,_,_⟩:=q;grind
   have G:(An (B5 frz S) id).box=.row sz e xs:=z5;have g:(An (B5 frz S) id).box.owned=ν:=by rw[G];rfl
   have E:=Q.boxes id;rw[G]at E;have⟨k1,k2,vals,k3,k4⟩:=E
   have B:(results fn a.tmps).run P w=.ok (β id) w:=by
    have:=Uo (P:=P) (w:=w) (a:=a) (fn:=fn) (vs:=[β id]) (by
     rw[U];rw[<-R];rfl)
    grind
   refine⟨β id,_,B,Q,λi L=>m i (by simp[L]),λz hz=>C.mem z hz,⟨_,λy hy=>hy,C⟩,⟨k1,k2,λb M=>⟨(Q.mine id b g M).1,λi L hbi=>?_⟩,vals,k3,k4.mono (Cg.of_sub λb E=>?_)⟩,λb' s=>.inr (.inr ⟨id,g,s⟩)⟩;have:=h.inj id i b z5 (hu i L) M hbi;grind
   ·rcases E with E|E;exact E;exact .inr (.inr ⟨id,g,E⟩)
 split at hy
 ·rename_i t U;split at hy
  ·rename_i id n cs hx;have hr:=ρ_sound h no (.tmp t);rw[hx]at hr;have⟨hb1,hb2,bb,hβ,R⟩:=hr;split at hy;grind;have⟨l,b,hK,hFb,hfr,hcd,hh⟩:=SL h hy;have⟨H,hK⟩:=Av hK;obtain⟨rfl⟩:=hK;have I:=bC H;have hFF:=hF.append hFb;have⟨Q,t2,C⟩:=hFF.run h
   have m:∀i∈id::f,An (B5 (frz++b) S) i=An S i:=by
    intro i L;have Y:=C.other i (I i L);have Z:=C.ver i;have e3:=C.av i;generalize An (B5 (frz++b) S) i=p at Y Z e3;generalize An S i=q at Y Z e3;have⟨_,_,_⟩:=p;have⟨_,_,_⟩:=q;grind
   have G:(An (B5 (frz++b) S) id).box=.var cs:=z5;have g:(An (B5 (frz++b) S) id).box.owned=ν:=by rw[G];rfl
   have⟨vals,T,q1,q2,q3⟩:=SA Q G hβ;have hcd':Pq S (frz++b) cs l:=hcd.mono λy hy=>by grind
   have hrep:=XN C Q hcd' (vals:=vals.toList) (by simpa using q2) λj v c R V=>q3 j v c z5 V;have hblk:Ai (β id)=θ bb:=by rw[hβ];rfl
   have hvb:a.eval (.tmp t)=β id:=z5
   have B:(results fn a.tmps).run P w=.ok (β id) w:=by
    have:=Uo (P:=P) (w:=w) (a:=a) (fn:=fn) (vs:=[β id]) (by
     rw[U];rw[<-hvb];rfl)
    grind
   refine⟨β id,_,B,Q,λi L=>m i (by simp[L]),λz hz=>C.mem z (by simp[hz]),⟨_,λy hy=>by simp[hy],C⟩,⟨λb' s=>⟨(Q.mine id b' g s).1,λi L hbi=>?_⟩,bb,vals,T,hβ,q1,?_⟩,λb' s=>.inr (.inr ⟨id,g,s⟩)⟩;have:=h.inj id i b' z5 (hu i L) s hbi;grind
   ·refine hrep.mono (Cg.of_sub λb' s=>?_);rcases s with s|s;grind;exact .inr (.inr ⟨id,g,s⟩)
  grind
 grind
theorem RH:∀args k S,Ξ (enter k args S)=Ξ args+(Ξ S-Ξ args)
 | [],_,S=>by simp[enter]
 | x::r,k,S=>by simp[enter,Zbq,RH r,Zcd];omega
theorem V9:∀n,Ξ (GZ n)=n
 | 0=>rfl
 | n+1=>by simp[GZ,V9 n]
theorem Zy:∀n i,An (GZ n) i=oV
 | 0,_=>rfl
 | _+1,0=>rfl
 | n+1,i+1=>Zy n i
theorem uK k:∀S i,An (S.drop k) i=An S (k+i):=by
 induction k with
 | zero=>grind
 | succ k ih=>
   intro S i
   cases S with
   | nil=>simp[An]
   | cons s r=>rw[List.drop_succ_cons,ih,show k+1+i=(k+i)+1 by omega];rfl
theorem Zz:∀(args:List AV)(k:Nat)(S:AS)(i:Nat),An (enter k args S) i=match args[i]? with|θ x=>QN (k+i) x|κ=>An S i
 | [],k,S,i=>by simp[enter]
 | x::r,k,S,0=>by simp[enter,An]
 | x::r,k,S,i+1=>by
   rw[enter,An,Zz r,Zcg];rw[show k+1+i=k+(i+1) by omega];split;rfl;rw[uK,Nat.add_comm]
def aX{w}{e}{sz n}{v}{vals}(h:BM w e sz v n vals):VH v=v:=by
 obtain⟨_,_,_,rfl⟩:=So h;rfl
def Yc(vs:Array Ψ)u:VH (.agg (vs.push u))=u:=by simp[VH]
def aW{O}{w}{v}{x}(h:m7 O w v x)(c:x.mut=ν):Ai (VH v)=Ai v:=by
 cases x<;>try (cases c;done)
 have⟨_,_,_,hr,_⟩:=h;rw[aX hr];obtain⟨b,_,_,rfl,_⟩:=h;rfl;obtain⟨_,vs,u,_,_,_,_,⟨_,rfl,_,_,_,_,hr,_⟩,_⟩:=h;rw[Yc,mJ (So hr)]
theorem jU i sz e xs:∀ds:Γ D,nX i (ds.map .d++[.own sz e xs])=ds.map .d++[.sl i 0]
 | []=>rfl
 | d::r=>by simp[Zas,Zgg,nX,jU i sz e xs r]
theorem o7 sz e xs:∀ds:Γ D,zJ (ds.map .d++[.own sz e xs])=.row sz e xs
 | []=>rfl
 | d::r=>by simp[Zas,Zgg,zJ,o7 sz e xs r]
def rZ{ds b}{sz c}{e f}{xs d}(h:ds++[C.own sz e xs]=b++[C.own c f d]):ds=b/\sz=c/\e=f/\xs=d:=by
 have⟨h1,h2⟩:=List.append_inj' h rfl;grind
def bJ{n}{args}{O M:Nat->Prop}{w}{vs}(hO:∀b,O b->b<w.heap.size)hG(z:vs.size=Ξ args)(R:∀b,Km vs args b->¬O b)(K:∀(i j:Nat) v v' x y b,vs[i]?=θ v->vs[j]?=θ v'->args[i]?=θ x->args[j]?=θ y->x.mut=ν->y.mut=ν->Ai v=θ b->Ai v'=θ b->i=j)(f:∀(i:Nat) v x,vs[i]?=θ v->args[i]?=θ x->m7 (λb=>O b\/Km vs args b) w v x):
 SimB ⟨w.heap.size,Km vs args,O,λ_=>False,w,λi=>VH (vs.getD i undef),fU hG⟩ (λ_=>False) (λi=>VH (vs.getD i undef)) (enter 0 args (GZ n)) { tmps:=vs++Array.replicate (n-vs.size) undef,defers:=[] } w:=by
 have o:∀i,An (enter 0 args (GZ n)) i=match args[i]? with|θ x=>QN i x|κ=>oV:=by
  intro i;rw[Zz];simp only[Zbn,Zy]
 have hver:∀i,(An (enter 0 args (GZ n)) i).ver=0:=by
  intro i;rw[o];split
  ·rename_i x _;cases x<;>rfl
  ·rfl
 have g:∀(i:Nat) x,args[i]?=θ x->vs[i]?=θ (vs.getD i undef):=by
  intro i x hx;have:i<vs.size:=by rw[z];exact AG hx
  simp[Array.getD,this]
 have p:∀i,(An (enter 0 args (GZ n)) i).box.owned=ν->∃x,args[i]?=θ x/\x.mut=ν:=by
  intro i ho;rw[o]at ho;split at ho
  ·rename_i x hx
   refine⟨x,hx,?_⟩
   cases x<;>first|rfl|simp[QN,Cq.owned]at ho
  ·simp[oV,Cq.owned]at ho
 have r:∀b,OS (λi=>VH (vs.getD i undef)) ⟨w.heap.size,Km vs args,O,λ_=>False,w,λi=>VH (vs.getD i undef),fU hG⟩ (enter 0 args (GZ n)) b->O b\/Km vs args b:=by
  intro b s;rcases s with s|s|⟨i,h1,h2⟩
  ·exact .inl s
  ·exact s.elim
  ·obtain⟨x,hx,B⟩:=p i h1;exact .inr ⟨i,_,x,g i x hx,hx,B,by rw[<-aW (f i _ x (g i x hx) hx) B];exact h2⟩
 refine⟨?_,rfl,AC.refl _ _ _,Zam _,λb s=>⟨hO b s,λB=>R b B s⟩,(λb s=>s.elim),?_,?_,?_,?_,?_,?_⟩
 ·rw[RH,V9];simp[z]
 ·intro t v D;rw[o];split
  ·rename_i x hx
   have E:t<vs.size:=by rw[z];exact AG hx
   rw[Zbx E]at D;have hr:=f t v x D hx;have F:v=vs.getD t undef:=by simp[E]at D;simp[Array.getD,E,D]
   cases x with
   | any=>trivial
   | d y=>exact A5.mono (Cg.of_sub r) (show A5 _ w v y from hr)
   | lim sz xs=>
     have L:A5 (λb=>O b\/Km vs args b) w v (.list sz xs)/\Yx v=Ξ xs:=hr;exact⟨L.1.mono (Cg.of_sub r),L.2⟩
   | own sz e xs=>
     obtain⟨_,_,_,U,_⟩:=hr;exact⟨Zag _,λ_=>by show v=VH _;rw[<-F,aX U]⟩
   | optr cs=>
     obtain⟨b,vals,T,h1,h2,A⟩:=hr;exact⟨Zag _,λ_=>⟨b,by show VH (vs.getD t undef)=_;rw[<-F,h1];rfl,h1⟩⟩
   | cc k l=>
     obtain⟨rfl,C,u,ds,sz,e,xs,⟨rfl,h2,A,_⟩,N⟩:=hr;simp only[QN,jU];refine⟨C.push u,h2,by simp[A],λj q y H hy=>?_⟩;rcases Zbk j C.size with I|I
     ·rw[Array.getElem?_push_lt I]at H;have G:j<Ξ ds:=by rw[<-A];exact I
      rw[Zba (by simpa using G)]at hy;simp at H;simp[G]at hy;subst hy;have:=N.2 j q ds[j] (by simp[I,H]) (by simp[G]);exact⟨⟨this.1.mono (Cg.of_sub r),this.2⟩,be this.1 this.2⟩
     ·have V:j=C.size:=by have:=EF H;simp at this;omega
      subst V;simp at H;subst H;rw[A,Zat zs]at hy;simp at hy;subst hy;refine⟨⟨Zag _,λ_=>by show _=VH _;rw[<-F,h2,Yc]⟩,?_⟩;have:=f t v _ D hx;obtain⟨_,vs2,u2,_,_,_,_,⟨_,W,_,_,_,_,q5,_⟩,_⟩:=this;rw[h2]at W;simp at W;obtain⟨ad,m,c,J⟩:=So q5;rw[(Array.push_eq_push.1 W).1,J];rfl
   | bot|ptr _ _ _|sl _ _|eptr _ _ _ _ _|tup _|under _ _ _=>exact hr.elim
  ·trivial
 ·intro i;rw[o];split
  ·rename_i x hx
   have hr:=f i _ x (g i x hx) hx
   cases x with
   | any|d _|lim _ _|bot|ptr _ _ _|sl _ _|eptr _ _ _ _ _|tup _|under _ _ _=>trivial
   | own sz e xs=>
     obtain⟨h1,h2,vals,A,N⟩:=hr;exact⟨h1,h2,vals,by show BM w e sz (VH (vs.getD i undef)) _ _;rw[aX A];exact A,N.mono (Cg.of_sub r)⟩
   | cc k l=>
     obtain⟨rfl,C,u,ds,sz,e,xs,⟨rfl,h2,A,N,h5,vals,h6,h7⟩,_⟩:=hr;simp only[QN,o7];exact⟨N,h5,vals,by show BM w e sz (VH (vs.getD i undef)) _ _;rw[h2,Yc];exact h6,h7.mono (Cg.of_sub r)⟩
   | optr cs=>
     obtain⟨b,vals,T,h1,h2,A⟩:=hr;exact⟨b,vals,T,by show VH (vs.getD i undef)=_;rw[h1];rfl,h2,by have:=A.1;simpa using this,λj v c D hc=>(A.mono (Cg.of_sub r)).cells j v c (by simpa using D) hc⟩
  ·trivial
 ·intro i b ho s;obtain⟨x,hx,B⟩:=p i ho;exact⟨.inr ⟨i,_,x,g i x hx,hx,B,by rw[<-aW (f i _ x (g i x hx) hx) B];exact s⟩,λh=>h⟩
 ·intro i j b hi I Y Z;obtain⟨x,hx,B⟩:=p i hi;obtain⟨y,hy,Q⟩:=p j I;exact K i j _ _ x y b (g i x hx) (g j y hy) hx hy B Q (by rw[<-aW (f i _ x (g i x hx) hx) B];exact Y) (by rw[<-aW (f j _ y (g j y hy) hy) Q];exact Z)
 ·intro t u J;rw[o]at J;split at J
  ·rename_i x hx
   have hr:=f t _ x (g t x hx) hx
   cases x<;>simp[QN,AV.guards]at J
   exact hr.elim
  ·simp[oV,AV.guards]at J
 ·intro i _ _;rfl
def KH{vs}{args}(h:∀x∈args,x.mut=ξ)b:¬Km vs args b:=by
 rintro⟨i,v,x,_,hx,c,_⟩;grind
theorem Yt{J}(m:Sx P){f}{fn}{args}{r}(D:P.funcs[f]?=θ fn)(o:(fn.name == "runtime.NumGoroutine")=ξ)(hr:m8 P J fn args r):A9 P f args r:=by
 unfold m8 at hr;split at hr;rename_i c E;refine⟨by simp[Hq,D,o,E],λO w vs G z s k=>?_⟩;rw[GL]at hr;apply calls_of_wp D E
 have d:∀x∈args,x.mut=ξ:=by
  intro x hx;have⟨i,H⟩:=List.mem_iff_getElem?.1 hx;have A:i<vs.size:=z5;have:=k i vs[i] x (by simp[A]) H
  cases x<;>first|rfl|exact this.elim
 have I:Vo (λb=>O b\/Km vs args b) w:=λg cs K=>(z g cs K).mono (Cg.of_sub λb p=>p.resolve_right (KH d b))
 have t:=bJ (n:=fn.ntmps) (M:=λ_=>False) G I s (λb u=>absurd u (KH d b)) (λi j v B x y b _ _ hx _ u=>by rw[d x (Zbf hx)]at u;cases u)
  (λi v x L hx=>by
   have h1:=(k i v x L hx).mono (O':=λb=>O b\/Km vs args b) (Cg.of_sub λb p=>p.resolve_right (KH d b));have h2:=d x (Zbf hx)
   cases x<;>first|exact h1|cases h2)
 refine wp_mono (FU m c hr t) λe F w' q=>?_;have⟨Q,S',q,C⟩:=q
 have fin:qs P fn.results.toList [] [] S' r->F.defers=[]/\∃v,(results fn F.tmps).run P w'=.ok v w'/\∃B,Ending.returned v=.returned B/\Below w.heap.size w w'/\Eu (λb=>w.heap.size<=b) O w' B r:=by
  intro q;have⟨v,T,h1,h2,_,_,_,N,_⟩:=Zv C (frz:=[]) trivial (λ_ h=>by cases h) q;refine⟨C.df,v,h1,v,rfl,C.below.below (KH d),N.mono (λb p=>p.1.resolve_right (KH d b)) λb p=>.inl p⟩
 cases e with
 | normal=>exact fin q
 | ret=>exact fin q
 | _=>grind
 grind
theorem QT(h:SimB X (λ_=>False) β S a w):∀{m:Γ AV}{k:Nat}{K:Γ Nat->Bx->Prop},WP S k m K->
 ∃c frz,K c frz/\FZ S [] frz/\(∀i∈c,(An S i).box.owned=ν) /\
  ∀(i:Nat) y,m[i]?=θ y->y.mut=ν->k+i∈c/\(An S (k+i)).ver=0/\match y with
   | .own sz e ys=>(An S (k+i)).box=.row sz e ys
   | .optr l=>∃cs,(An S (k+i)).box=.var cs/\Pq S frz cs l
   | .cc _ l=>∃(ds:Γ C)(sz:Nat)(e:Υ)(ys:Γ D),l=ds++[.own sz e ys]/\(An S (k+i)).box=.row sz e ys
   | _=>False
 | [],k,K,hy=>⟨[],[],hy,trivial,(λ_ h=>by cases h),λi y h=>by simp at h⟩
 | q::r,k,K,hy=>by
   have skip:WP S (k+1) r K->q.mut=ξ->∃c frz,K c frz/\FZ S [] frz/\(∀i∈c,(An S i).box.owned=ν) /\
    ∀i y,(q::r)[i]?=θ y->y.mut=ν->k+i∈c/\(An S (k+i)).ver=0/\match y with
     | .own sz e ys=>(An S (k+i)).box=.row sz e ys
     | .optr l=>∃cs,(An S (k+i)).box=.var cs/\Pq S frz cs l
     | .cc _ l=>∃(ds:Γ C)(sz:Nat)(e:Υ)(ys:Γ D),l=ds++[.own sz e ys]/\(An S (k+i)).box=.row sz e ys
     | _=>False:=by
    intro hy A;have⟨c,frz,hK,h1,h2,n⟩:=QT h hy;refine⟨c,frz,hK,h1,h2,λi y f g=>?_⟩
    cases i with
    | zero=>simp at f;subst f;rw[A]at g;cases g
    | succ i=>have:=n i y z5 g;rw[show k+(i+1)=k+1+i by omega];exact this
   cases q with
   | own sz e ys=>
     unfold WP at hy;split at hy;rename_i x o B xs j;obtain⟨⟨rfl,rfl,rfl⟩,hy⟩:=hy;have⟨c,frz,hK,h1,h2,n⟩:=QT h hy;refine⟨_,frz,hK,h1,λi f=>?_,λi y f g=>?_⟩;rcases List.mem_cons.1 f with rfl|f;rw[j];rfl;exact h2 i f
     cases i with
     | zero=>simp at f;subst f;rw[Zcy];exact⟨zs,by rw[j],by rw[j]⟩
     | succ i=>have:=n i y z5 g;rw[show k+(i+1)=k+1+i by omega];exact⟨by simp[this.1],this.2⟩
     grind
   | optr l=>
     unfold WP at hy;split at hy;rename_i x cs j;have⟨J,b,p,s,E,t,_⟩:=SL h hy;have⟨F,u⟩:=p;subst F;have⟨c,frz,hK,h1,h2,n⟩:=QT h u;refine⟨_,_,hK,s.append h1,λi f=>?_,λi y f g=>?_⟩;rcases List.mem_cons.1 f with rfl|f;rw[j];rfl;exact h2 i f
     cases i with
     | zero=>simp at f;subst f;rw[Zcy];exact⟨zs,by rw[j],cs,by rw[j],t.mono λy hy=>by simp[hy]⟩
     | succ i=>
       have:=n i y z5 g;rw[show k+(i+1)=k+1+i by omega];refine⟨by simp[this.1],this.2.1,?_⟩;have z:=this.2.2
       cases y<;>first|exact z|(have⟨v,G,H⟩:=z;exact⟨v,G,H.mono λy hy=>by simp[hy]⟩)
     grind
   | cc L l=>
     have⟨ds,sz,e,ys,I,hy⟩:=Ua hy;split at hy;rename_i x o B xs j;obtain⟨⟨rfl,rfl,rfl⟩,hy⟩:=hy;have⟨c,frz,hK,h1,h2,n⟩:=QT h hy;refine⟨_,frz,hK,h1,λi f=>?_,λi y f g=>?_⟩;rcases List.mem_cons.1 f with rfl|f;rw[j];rfl;exact h2 i f
     cases i with
     | zero=>simp at f;subst f;rw[Zcy];exact⟨zs,by rw[j],ds,_,_,_,I,by rw[j]⟩
     | succ i=>have:=n i y z5 g;rw[show k+(i+1)=k+1+i by omega];exact⟨by simp[this.1],this.2⟩
     grind
   | _=>exact skip hy rfl
theorem Y6{J:Γ Nat}(E:Sx P){f:FuncId}{fn:Func}{args d:Γ AV}{r:AV}(hf:P.funcs[f]?=θ fn)(G:(fn.name == "runtime.NumGoroutine")=ξ)(hol:Ξ d=Ξ args)
 (A:∀(i:Nat) x y,args[i]?=θ x->d[i]?=θ y->match y with
  | .own sz e _=>∃xs,x=.own sz e xs
  | .optr cs=>∃z,x=.optr z/\Ξ cs=Ξ z
  | .cc _ l=>∃(ds:Γ D)(sz:Nat)(e:Υ)(xs ys:Γ D),x=.cc κ (ds.map .d++[.own sz e xs])/\l=ds.map .d++[.own sz e ys]
  | _=>True) (hr:fa P J fn args d r):Et P f args d r:=by
 unfold fa at hr;split at hr;rename_i c hc;refine⟨by simp[Hq,hf,G,hc],hol,λO w vs hO hG Q hMO R h=>?_⟩;rw[GL]at hr;apply calls_of_wp hf hc;have U:=bJ (n:=fn.ntmps) (M:=λ_=>False) hO hG Q hMO R h;refine wp_mono (FU E c hr U) λe a' w' o=>?_;have⟨β',S',o,V⟩:=o
 have fin:(WP S' 0 d λu b=>qs P fn.results.toList u b S' r)->a'.defers=[]/\∃v,(results fn a'.tmps).run P w'=.ok v w'/\∃v',Ending.returned v=.returned v'/\AC w.heap.size (Km vs args) w w' /\
  Eu (λb=>w.heap.size<=b\/(Km vs args b/\¬Km vs d b)) (λb=>O b\/Km vs d b) w' v' r /\
  ∀(i:Nat) u x y,vs[i]?=θ u->args[i]?=θ x->d[i]?=θ y->Wu (λb=>O b\/Km vs d b\/EZ v' r b) w' u x y:=by
  intro o;have⟨B,frz,o,hF,hu,hk⟩:=QT V o;have⟨v,T,h1,h2,h3,h4,⟨F,hFF,hFr⟩,h5,h6⟩:=Zv V hF hu o
  have hβ:∀i u y,vs[i]?=θ u->d[i]?=θ y->y.mut=ν->i∈B/\β' i=VH u/\Ai (VH u)=Ai u:=by
   intro i u y p hy L;have:=hk i y hy L;rw[Zbn]at this;have W:args[i]?=θ (args[i]'z5):=Zaa _
   refine⟨this.1,?_,aW (h i u _ p W) (by
    have k:=A i _ y W hy;generalize args[i]'z5=q at k
    cases y<;>try (cases L;done)
    obtain⟨_,rfl⟩:=k;rfl;obtain⟨_,rfl,_⟩:=k;rfl;obtain⟨_,_,_,_,_,rfl,_⟩:=k;rfl)⟩
   have hne:(An S' i).box≠.none:=by intro e;have:=hu i this.1;rw[e]at this;cases this
   have Y:=V.ini i this.2.1 hne;have Z:=EF p;rw[Y];simp[Z]at p;simp[Array.getD,Z,p]
  have hMo:∀b,Km vs d b->∃i∈B,Ai (β' i)=θ b:=by
   rintro b ⟨i,u,y,p,hy,L,g⟩;have⟨H,C⟩:=hβ i u y p hy L;exact⟨i,H,by rw[C.1,C.2];exact g⟩
  have hMT:∀b,Km vs d b->OS β' ⟨w.heap.size,Km vs args,O,λ_=>False,w,λi=>VH (vs.getD i undef),fU hG⟩ T b:=by
   intro b g;have⟨i,p,g⟩:=hMo b g;exact .inr (.inr ⟨i,by rw[h3 i p];exact hu i p,g⟩)
  refine⟨V.df,v,h1,v,rfl,V.below,h5.mono (λb g=>?_) λb g=>?_,λi u x y m hx hy=>?_⟩;rcases g.1 with I|I;exact .inl I;exact .inr ⟨I,λL=>by have⟨i,p,hbi⟩:=hMo b L;exact g.2 i p hbi⟩;rcases g with g|g;exact .inl g;grind
  have s:∀b,(O b\/Km vs d b\/EZ v r b)->OS β' ⟨w.heap.size,Km vs args,O,λ_=>False,w,λi=>VH (vs.getD i undef),fU hG⟩ T b:=by
   intro b g;rcases g with g|g|g;exact .inl g;exact hMT b g;exact h6 b g
  have k:=A i x y hx hy
  cases y<;>try trivial
  rename_i sz e ys;have⟨H,C⟩:=hβ i u _ m hy rfl;have hki:=(hk i _ hy rfl).2.2;rw[Zbn]at hki;have g:=h2.boxes i;rw[h3 i H,hki]at g;have⟨N,j2,vals,K,j4⟩:=g;obtain⟨xs,rfl⟩:=k;have⟨_,_,_,hrr,_⟩:=h i u _ m hx;rw[C.1,aX hrr]at K;exact⟨⟨N,j2,vals,K,j4.mono (Cg.of_sub s)⟩,xs,rfl⟩;rename_i l;have⟨H,C⟩:=hβ i u _ m hy rfl;have⟨cs,t,hcd⟩:=(hk i _ hy rfl).2.2;rw[Zbn]at t;have g:=h2.boxes i;rw[h3 i H,t]at g;have⟨b,vals,T',N,j2,K,j4⟩:=g;obtain⟨z,rfl,hcl⟩:=k;have hpu:VH u=u:=by obtain⟨_,_,_,rfl,_⟩:=h i u _ m hx;rfl
  rw[C.1,hpu]at N;refine⟨⟨b,vals,T',N,j2,?_⟩,z,rfl,hcl⟩;refine(XN hFr h2 (hcd.mono hFF) (vals:=vals.toList) (by simpa using K) (λj v c hv hc=>j4 j v c (by simpa using hv) hc)).mono (Cg.of_sub s);rename_i k0 l;have⟨H,C⟩:=hβ i u _ m hy rfl;have⟨ds1,sz1,e1,ys1,hl1,t⟩:=(hk i _ hy rfl).2.2;rw[Zbn]at t;have g:=h2.boxes i;rw[h3 i H,t]at g;have⟨N,j2,vals,K,j4⟩:=g;obtain⟨ds,sz,e,xs,ys,rfl,rfl⟩:=k;obtain⟨rfl,rfl,rfl,rfl⟩:=rZ hl1;obtain⟨_,vs',u',ds',sz',e',xs',⟨q1,rfl,q3,_⟩,_⟩:=h i u _ m hx;have q1:Ξ ds=Ξ ds':=by simpa using congrArg List.length q1
  rw[C.1,Yc]at K;exact⟨vs',u',ds,_,_,ys,rfl,rfl,by rw[q3,q1],N,j2,vals,K,j4.mono (Cg.of_sub s)⟩
 cases e with
 | normal=>exact fin o
 | ret=>exact fin o
 | _=>exact o.elim
 grind
def oG{n k q sz}{e}{xs}{args}(f:k<Ξ args)(g:q<Ξ args)(b:q≠k)i:
 An (Bp (Bp (GT (enter 0 args (GZ n)) k (.ptr k 0 0)) k (.var [.sl q 0]) 0) q (.row sz e xs) 0) i =
  if i=q then⟨(An (enter 0 args (GZ n)) q).av,.row sz e xs,0⟩else if i=k then⟨.ptr k 0 0,.var [.sl q 0],0⟩else An (enter 0 args (GZ n)) i:=by
 have h:Ξ args<=Ξ (enter 0 args (GZ n)):=by rw[RH];omega
 rw[CG,CG,CG,Ea,Ea,Ea];rw[Ef,L8];have h1:k<Ξ (enter 0 args (GZ n)):=z0;have h2:q<Ξ (enter 0 args (GZ n)):=z0;by_cases c:i=q;subst c;simp[h1,h2,b];by_cases d:i=k;subst d;simp[h1,h2,c];simp[h1,h2,c,d]
def jj{J}(W:Sx P){f}{fn}{args}{k q sz}{e}{xs ys}(hf:P.funcs[f]?=θ fn)(Y:(fn.name == "runtime.NumGoroutine")=ξ)(hres:fn.results=#[])(hk:args[k]?=θ .any)(hq:q<Ξ args)(Q:q≠k)(hmut:args.all (λx=>!x.mut)=ν)(hr:vu P J fn args k q sz e xs ys):cN P f args k sz e xs ys:=by
 unfold vu at hr;split at hr
 ·rename_i c hc
  refine⟨by simp[Hq,hf,Y,hc],λO w vs b u T hO hG B R hh hbO Z hsz hxs hrow G=>?_⟩;rw[GL]at hr;refine calls_of_wp hf hc ?_;have hkl:k<Ξ args:=AG hk;obtain⟨rvals,hrr,hrl⟩:=hrow
  have hnm:∀x∈args,x.mut=ξ:=by
   intro x hx;have:=List.all_eq_true.1 hmut x hx
   simpa using this
  have hbw:b<w.heap.size:=by
   rcases Zbk b w.heap.size with h|h
   ·exact h
   ·rw[Zct h]at hh;cases hh
  let β:Nat->Ψ:=λi=>if i=q then u else vs.getD i undef
  have E:β q=u:=Zai rfl;have hβ:∀i,i≠q->β i=vs.getD i undef:=λi hi=>Zah hi
  have hkv:vs.getD k undef=.pointer (θ ⟨b,0,κ⟩):=by
   have:=EF R;simp[this]at R;simp[Array.getD,this,R]
  have r:β k=.pointer (θ ⟨b,0,κ⟩):=by rw[hβ k λh=>Q h.symm];exact hkv
  have z:∀i,An (enter 0 args (GZ fn.ntmps)) i=match args[i]? with|θ x=>QN i x|κ=>oV:=by
   intro i;rw[Zz];simp only[Zbn,Zy]
  have H:∀i,(An (enter 0 args (GZ fn.ntmps)) i).box=.none/\(An (enter 0 args (GZ fn.ntmps)) i).ver=0:=by
   intro i;rw[z];split
   ·rename_i x hx
    have:=hnm x (Zbf hx)
    cases x<;>first|exact⟨rfl,rfl⟩|cases this
   ·exact⟨rfl,rfl⟩
  have s:=oG (n:=fn.ntmps) (sz:=sz) (e:=e) (xs:=xs) hkl hq Q
  have C:∀i,(An (Bp (Bp (GT (enter 0 args (GZ fn.ntmps)) k (.ptr k 0 0)) k (.var [.sl q 0]) 0) q (.row sz e xs) 0) i).box.owned=ν->i=q\/i=k:=by
   intro i hi;rw[s]at hi;by_cases F:i=q
   ·exact .inl F
   ·by_cases A:i=k
    ·exact .inr A
    ·rw[Zah F,Zah A,(H i).1]at hi;cases hi
  have hver:∀i,(An (Bp (Bp (GT (enter 0 args (GZ fn.ntmps)) k (.ptr k 0 0)) k (.var [.sl q 0]) 0) q (.row sz e xs) 0) i).ver=0:=by
   intro i;rw[s];split
   ·rfl
   ·split
    ·rfl
    ·exact(H i).2
  let Xc:Cx:=⟨w.heap.size,λc=>c=b\/Ai u=θ c,O,λ_=>False,w,β,fU (M:=λc=>c=b\/Ai u=θ c) hG⟩
  have hOS:∀c',OS β Xc (Bp (Bp (GT (enter 0 args (GZ fn.ntmps)) k (.ptr k 0 0)) k (.var [.sl q 0]) 0) q (.row sz e xs) 0) c'->O c'\/c'=b\/Ai u=θ c':=by
   intro c' o;rcases o with o|o|⟨i,h1,h2⟩
   ·exact .inl o
   ·exact o.elim
   ·rcases C i h1 with rfl|rfl
    ·rw[E]at h2;exact .inr (.inr h2)
    ·rw[r]at h2;simp[Ai]at h2;exact .inr (.inl h2.symm)
  have hsim:SimB Xc (λ_=>False) β (Bp (Bp (GT (enter 0 args (GZ fn.ntmps)) k (.ptr k 0 0)) k (.var [.sl q 0]) 0) q (.row sz e xs) 0) { tmps:=vs++Array.replicate (fn.ntmps-vs.size) undef,defers:=[] } w:=by
   refine⟨?_,rfl,AC.refl _ _ _,Zam _,λc' o=>⟨hO c' o,λhm=>?_⟩,(λb hb=>hb.elim),?_,?_,?_,?_,?_,?_⟩
   ·rw[Ef,Ef,L8,RH,V9];simp[B]
   ·rcases hm with rfl|hm
    ·exact hbO o
    ·exact(Z c' hm).1 o
   ·intro t v hv;rw[s]
    have base:t≠k->NM β (AU (Bp (Bp (GT (enter 0 args (GZ fn.ntmps)) k (.ptr k 0 0)) k (.var [.sl q 0]) 0) q (.row sz e xs) 0)) (OS β Xc (Bp (Bp (GT (enter 0 args (GZ fn.ntmps)) k (.ptr k 0 0)) k (.var [.sl q 0]) 0) q (.row sz e xs) 0)) w (vs++Array.replicate (fn.ntmps-vs.size) undef) v (An (enter 0 args (GZ fn.ntmps)) t).av:=by
     intro _;rw[z];split
     ·rename_i x hx
      have I:t<vs.size:=by rw[B];exact AG hx
      rw[Zbx I]at hv;have hr:=G t v x hv hx
      cases x with
      | any=>trivial
      | d y=>exact A5.mono (Cg.of_sub hOS) (show A5 _ w v y from hr)
      | lim sz xs=>
        have hr':A5 (λc=>O c\/c=b\/Ai u=θ c) w v (.list sz xs)/\Yx v=Ξ xs:=hr;exact⟨hr'.1.mono (Cg.of_sub hOS),hr'.2⟩
      | bot|ptr _ _ _|sl _ _|eptr _ _ _ _ _|tup _|under _ _ _|cc _ _|own _ _ _|optr _=>exact hr.elim
     ·trivial
    by_cases F:t=q
    ·subst F;rw[Zai rfl];exact base Q
    ·rw[Zah F];by_cases A:t=k
     ·rw[Zai A];subst A;have I:t<vs.size:=by rw[B];exact hkl
      rw[Zbx I,R]at hv
      cases hv
      exact⟨Zag _,λ_=>⟨b,r,rfl⟩⟩
     ·rw[Zah A];exact base A
   ·intro i;rw[s];by_cases F:i=q
    ·rw[Zai F,F];exact⟨hsz,hxs,rvals,by rw[E];exact hrr,hrl.mono (Cg.of_sub hOS)⟩
    ·rw[Zah F];by_cases A:i=k
     ·rw[Zai A,A];refine⟨b,#[u],T,r,hh,rfl,λj v c hv hc=>?_⟩
      cases j with
      | zero=>simp at hv hc;subst hv;subst hc;exact⟨Zag _,λ_=>E.symm⟩
      | succ j=>simp at hc
     ·rw[Zah A,(H i).1];trivial
   ·intro i c' ho hb;refine⟨.inr ?_,λh=>h⟩;rcases C i ho with rfl|rfl
    ·rw[E]at hb;exact .inr hb
    ·rw[r]at hb;simp[Ai]at hb;exact .inl hb.symm
   ·intro i j c' hi hj K L;rcases C i hi with rfl|rfl<;>rcases C j hj with rfl|rfl
    ·rfl
    ·rw[E]at K;rw[r]at L;simp[Ai]at L;exact((Z c' K).2 L.symm).elim
    ·rw[E]at L;rw[r]at K;simp[Ai]at K;exact((Z c' L).2 K.symm).elim
    ·rfl
   ·intro t g U;rw[s]at U
    have h0:∀i,(An (enter 0 args (GZ fn.ntmps)) i).av.guards=[]:=by
     intro i;rw[z];split
     ·rename_i x hx
      have I:i<vs.size:=by rw[B];exact AG hx
      have hr:=G i vs[i] x (by simp[I]) hx
      cases x<;>first|rfl|exact hr.elim
     ·rfl
    by_cases F:t=q
    ·rw[Zai F]at U;rw[h0]at U;cases U
    ·rw[Zah F]at U;by_cases A:t=k
     ·rw[Zai A]at U;cases U
     ·rw[Zah A,h0]at U;cases U
   ·intro i _ _;rfl
  refine wp_mono (FU W c hr hsim) λe' a' w' p=>?_;obtain⟨β',S',p,hs⟩:=p
  have fin:Abq S' k q sz e ys->a'.defers=[]/\∃v,(results fn a'.tmps).run P w'=.ok v w'/\∃v' u' T',Ending.returned v=.returned v'/\AC w.heap.size (λc=>c=b\/Ai u=θ c) w w' /\
   w'.heap[b]?=θ (.cells #[u'] T' (0,0))/\(∀c,Ai u'=θ c->Ai u=θ c\/w.heap.size<=c)/\(∀x∈ys,Ξ x.cells=sz) /\
   ∃vals,BM w' e sz u' (Ξ ys) vals/\BC (λc=>O c\/c=b\/Ai u'=θ c) w' vals (ys.flatMap D.cells):=by
   intro p;unfold Abq at p;split at p<;>try exact p.elim
   rename_i av1 q' n V
   split at p<;>try exact p.elim
   rename_i av2 sz' A xs' m hk2
   obtain⟨rfl,rfl,rfl,rfl,rfl⟩:=p;have hb1:=hs.boxes k;rw[V]at hb1;obtain⟨b1,vals,T1,j1,j2,j3,j4⟩:=hb1;have hini:=hs.ini k (by rw[V]) (by rw[V];simp);have N:β' k=β k:=hini;rw[N,r]at j1;simp only[Value.pointer.injEq,Option.some.injEq,Addr.mk.injEq]at j1;obtain⟨rfl,_⟩:=j1
   obtain⟨u',rfl⟩:∃u',vals=#[u']:=by
    have:vals.size=1:=j3;exact⟨vals[0],by apply Array.ext;simp[this];intro i h1 h2;simp at h2;subst h2;rfl⟩
   have hcu:=j4 0 u' (.sl q' n) rfl rfl;have hu':u'=β' q':=hcu.2 (by simp only[AU,hk2]);have hb2:=hs.boxes q';rw[hk2]at hb2;obtain⟨l1,l2,vals2,l3,l4⟩:=hb2;have o1:(An S' k).box.owned=ν:=by rw[V];rfl
   have o2:(An S' q').box.owned=ν:=by rw[hk2];rfl
   have hbk:Ai (β' k)=θ b:=by rw[N,r];rfl
   refine⟨hs.df,.tuple #[],?_,.tuple #[],u',T1,rfl,hs.below,j2,λc' o=>?_,l2,vals2,by rw[hu'];exact l3,l4.mono (Cg.of_sub λc' o=>?_)⟩
   ·have:=Uo (P:=P) (w:=w') (a:=a') (fn:=fn) (vs:=[]) (by rw[hres];rfl)
    simpa using this
   ·rw[hu']at o;have:=(hs.mine q' c' o2 o).1;rcases this with h1|h1
    ·exact .inr h1
    ·rcases h1 with h1|h1
     ·subst h1;exact(Q (hs.inj q' k c' o2 o1 o hbk)).elim
     ·exact .inl h1
   ·rcases o with o|rfl|o
    ·exact .inl o
    ·exact .inr (.inr ⟨k,o1,hbk⟩)
    ·exact .inr (.inr ⟨q',o2,by rw[<-hu'];exact o⟩)
  cases e' with
  | normal=>exact fin p
  | ret=>exact fin p
  | exit id=>exact p.elim
  | goto l=>exact p.elim
  | panic ch=>exact p.elim
  | outgrown=>exact p.elim
 ·exact hr.elim
end
def Fg{α:Type}(F:(α->Prop)->Prop):=(∀K K':α->Prop,(∀x,K x->K' x)->F K->F K')/\∀K,F K->∃x,F (λy=>y=x)/\K x
def Iz{α γ:Type}(F:(α->γ->Prop)->Prop):=(∀K K':α->γ->Prop,(∀x y,K x y->K' x y)->F K->F K')/\∀K,F K->∃x y,F (λx' y'=>x'=x/\y'=y)/\K x y
section
variable {α γ δ:Type}
def As x:Fg λK:α->Prop=>K x:=⟨λ_ _ h a=>h _ a,λ_ a=>⟨x,rfl,a⟩⟩
def Al:Fg λ_:α->Prop=>False:=⟨λ_ _ _ h=>h,λ_ h=>h.elim⟩
def BO x y:Iz λK:α->γ->Prop=>K x y:=⟨λ_ _ h a=>h _ _ a,λ_ a=>⟨x,y,⟨rfl,rfl⟩,a⟩⟩
def FF:Iz λ_:α->γ->Prop=>False:=⟨λ_ _ _ h=>h,λ_ h=>h.elim⟩
def AA{F}{c:α->(γ->Prop)->Prop}(a:Fg F)(d:∀x,Fg (c x)):Fg λK:γ->Prop=>F λx=>c x K:=by
 refine⟨λK i h b=>a.1 _ _ (λx hx=>(d x).1 _ _ h hx) b,λK b=>?_⟩;have⟨x,h1,h2⟩:=a.2 _ b;have⟨y,e,f⟩:=(d x).2 _ h2;exact⟨y,a.1 _ _ (λz g=>by subst g;exact e) h1,f⟩
def Dy{F}{d:α->γ->(δ->Prop)->Prop}(a:Iz F)(e:∀x y,Fg (d x y)):Fg λK:δ->Prop=>F λx y=>d x y K:=by
 refine⟨λK i h b=>a.1 _ _ (λx y hx=>(e x y).1 _ _ h hx) b,λK b=>?_⟩;have⟨x,y,h1,h2⟩:=a.2 _ b;have⟨z,f,g⟩:=(e x y).2 _ h2;exact⟨z,a.1 _ _ (λu v c=>by obtain⟨rfl,rfl⟩:=c;exact f) h1,g⟩
def Cn{ε}{F}{d:α->γ->(δ->ε->Prop)->Prop}(a:Iz F)(e:∀x y,Iz (d x y)):Iz λK:δ->ε->Prop=>F λx y=>d x y K:=by
 refine⟨λK j h b=>a.1 _ _ (λx y hx=>(e x y).1 _ _ h hx) b,λK b=>?_⟩;have⟨x,y,h1,h2⟩:=a.2 _ b;have⟨z,f,g,i⟩:=(e x y).2 _ h2;exact⟨z,f,a.1 _ _ (λu v c=>by obtain⟨rfl,rfl⟩:=c;exact g) h1,i⟩
def D4{F}p(b:Fg F):Fg λK:α->Prop=>NL p (F K):=by
 refine⟨λK c h a=>⟨a.1,b.1 _ _ h a.2⟩,λK a=>?_⟩;have⟨x,h1,h2⟩:=b.2 _ a.2;exact⟨x,⟨a.1,h1⟩,h2⟩
def BB{F}c[Decidable c](a:Fg F):Fg λK:α->Prop=>if c then F K else False:=by
 by_cases h:c;simp[h,if_true];exact a;simp[h,if_false];exact Al
def XT xs i:Fg λK:D->Prop=>At xs i K:=
 ⟨λ_ _ h a=>by have⟨b,x,h1,h2⟩:=a.go;exact⟨⟨b,x,h1,h _ h2⟩⟩,λ_ a=>by have⟨b,x,h1,h2⟩:=a.go;exact⟨x,⟨⟨b,x,h1,rfl⟩⟩,h2⟩⟩
def QP{F c}(d:Fg F)(b:Fg c):Fg λK:α->Prop=>YV (F K) (c K):=by
 refine⟨λK e h a=>⟨a.go.imp (d.1 _ _ h) (b.1 _ _ h)⟩,λK a=>?_⟩;rcases a.go with a|a;have⟨x,h1,h2⟩:=d.2 _ a;exact⟨x,⟨.inl h1⟩,h2⟩;have⟨x,h1,h2⟩:=b.2 _ a;exact⟨x,⟨.inr h1⟩,h2⟩
def pM{F:Γ (Nat×Nat)->(α->Prop)->Prop}(c:∀a,Fg (F a)):Fg λK:α->Prop=>Aaj λa=>F a K:=by
 refine⟨λK d h b=>?_,λK b=>?_⟩;have⟨a,b⟩:=b.go;exact⟨⟨a,(c a).1 _ _ h b⟩⟩;have⟨a,b⟩:=b.go;have⟨x,h1,h2⟩:=(c a).2 _ b;exact⟨x,⟨⟨a,h1⟩⟩,h2⟩
def tT{P}{f}{a}{vs j}{F:AV->(α->Prop)->Prop}{g:Γ AV->AV->(α->Prop)->Prop}(i:∀r,Fg (F r))(b:∀o r,Fg (g o r)):
 Fg λK:α->Prop=>K3 P f a vs (λr=>F r K) j (λo r=>g o r K):=by
 refine⟨λK k h c=>?_,λK c=>?_⟩;rcases c.go with⟨r,h1,h2⟩|⟨o,r,h1,h2⟩;exact⟨.inl ⟨r,h1,(i r).1 _ _ h h2⟩⟩;exact⟨.inr ⟨o,r,h1,(b o r).1 _ _ h h2⟩⟩;rcases c.go with⟨r,h1,h2⟩|⟨o,r,h1,h2⟩;have⟨x,d,e⟩:=(i r).2 _ h2;exact⟨x,⟨.inl ⟨r,h1,d⟩⟩,e⟩;have⟨x,d,e⟩:=(b o r).2 _ h2;exact⟨x,⟨.inr ⟨o,r,h1,d⟩⟩,e⟩
def KB{F}{c:α->(γ->δ->Prop)->Prop}(a:Fg F)(d:∀x,Iz (c x)):Iz λK:γ->δ->Prop=>F λx=>c x K:=by
 refine⟨λK i h b=>a.1 _ _ (λx hx=>(d x).1 _ _ h hx) b,λK b=>?_⟩;have⟨x,h1,h2⟩:=a.2 _ b;have⟨y,z,e,f⟩:=(d x).2 _ h2;exact⟨y,z,a.1 _ _ (λu g=>by subst g;exact e) h1,f⟩
def bQ{F}c[Decidable c](a:Iz F):Iz λK:α->γ->Prop=>if c then F K else False:=by
 by_cases h:c;simp[h,if_true];exact a;simp[h,if_false];exact FF
def SC{α γ δ:Type}(F:(α->γ->δ->Prop)->Prop):=(∀K K':α->γ->δ->Prop,(∀x y z,K x y z->K' x y z)->F K->F K')/\∀K,F K->∃x y z,F (λx' y' z'=>x'=x/\y'=y/\z'=z)/\K x y z
def GM x y z:SC λK:α->γ->δ->Prop=>K x y z:=⟨λ_ _ h a=>h _ _ _ a,λ_ a=>⟨x,y,z,⟨rfl,rfl,rfl⟩,a⟩⟩
def KC:SC λ_:α->γ->δ->Prop=>False:=⟨λ_ _ _ h=>h,λ_ h=>h.elim⟩
def fV{ε}{F}{f:α->γ->δ->(ε->Prop)->Prop}(d:SC F)(g:∀x y z,Fg (f x y z)):Fg λK:ε->Prop=>F λx y z=>f x y z K:=by
 refine⟨λK k h e=>d.1 _ _ (λx y z hx=>(g x y z).1 _ _ h hx) e,λK e=>?_⟩;have⟨x,y,z,h1,h2⟩:=d.2 _ e;have⟨u,i,j⟩:=(g x y z).2 _ h2;exact⟨u,d.1 _ _ (λa b c h=>by obtain⟨rfl,rfl,rfl⟩:=h;exact i) h1,j⟩
def QO{ε ζ η}{F}{f:α->γ->δ->(ε->ζ->η->Prop)->Prop}(d:SC F)(g:∀x y z,SC (f x y z)):SC λK:ε->ζ->η->Prop=>F λx y z=>f x y z K:=by
 refine⟨λK k h e=>d.1 _ _ (λx y z hx=>(g x y z).1 _ _ h hx) e,λK e=>?_⟩;have⟨x,y,z,h1,h2⟩:=d.2 _ e;have⟨u,v,t,i,j⟩:=(g x y z).2 _ h2;exact⟨u,v,t,d.1 _ _ (λa b c h=>by obtain⟨rfl,rfl,rfl⟩:=h;exact i) h1,j⟩
def WH{ε ζ η}{F}{e:α->γ->(ε->ζ->η->Prop)->Prop}(c:Iz F)(f:∀x y,SC (e x y)):SC λK:ε->ζ->η->Prop=>F λx y=>e x y K:=by
 refine⟨λK j h d=>c.1 _ _ (λx y hx=>(f x y).1 _ _ h hx) d,λK d=>?_⟩;have⟨x,y,h1,h2⟩:=c.2 _ d;have⟨u,v,t,g,i⟩:=(f x y).2 _ h2;exact⟨u,v,t,c.1 _ _ (λa b h=>by obtain⟨rfl,rfl⟩:=h;exact g) h1,i⟩
def Zj{ε ζ η}{F}{d:α->(ε->ζ->η->Prop)->Prop}(b:Fg F)(e:∀x,SC (d x)):SC λK:ε->ζ->η->Prop=>F λx=>d x K:=by
 refine⟨λK i h c=>b.1 _ _ (λx hx=>(e x).1 _ _ h hx) c,λK c=>?_⟩;have⟨x,h1,h2⟩:=b.2 _ c;have⟨u,v,t,f,g⟩:=(e x).2 _ h2;exact⟨u,v,t,b.1 _ _ (λa h=>by subst h;exact f) h1,g⟩
def Df{β}l:Fg λK:Γ β->Prop=>DY l K:=by simp[Ct];exact As l
end
theorem Pw:∀l:Γ D,Fg λK=>UX l K
 | []=>As _
 | x::r=>by
   unfold UX;refine AA (Pw r) λr=>?_;split<;>exact As _
def Vz x:Fg λK=>Y8 x K:=by
 cases x<;>simp[Y8]<;>first|exact As _|exact AA (Pw _) λl=>As _
def UN r:Iz λK=>jo r K:=by cases r<;>simp[jo]<;>first|exact BO _ _|exact FF
def nG r:Iz λK=>asN r K:=by
 unfold asN;exact Cn (UN r) λx b=>KB (Vz x) λy=>BO _ _
theorem KE σ:∀l,Iz λK=>EY σ l K
 | []=>BO _ _
 | .d x::r=>by
   show Iz λK=>EY σ r λl b=>K (x::l) b;exact Cn (KE σ r) λl b=>BO _ _
 | .sl id n::r=>by
   show Iz λK=>jo (σ id n) λx b=>EY σ r λl a=>K (x::l) (b++a);exact Cn (UN _) λx b=>Cn (KE σ r) λl b=>BO _ _
 | .own _ _ _::_=>FF
theorem QQ:∀l:Γ D,Fg λK=>m5 l K
 | []=>As _
 | x::r=>by
   show Fg λK=>m5 r λr=>K (.d x::r);exact AA (QQ r) λr=>As _
theorem fX:∀l:Γ D,Fg λK=>fy l K
 | []=>As _
 | x::r=>by
   show Fg λK=>fy r λr=>K (.d x::r);exact AA (fX r) λr=>As _
def SV σ r:Iz λK=>SH σ r K:=by
 cases r<;>simp[SH]<;>first|exact BO _ _|exact FF|skip
 exact KB (Vz _) λx=>BO _ _;exact Cn (KE σ _) λl b=>KB (Pw _) λl=>KB (Df _) λa=>BO _ _;exact KB (XT _ _) λx=>KB (Df _) λl=>BO _ _;exact Cn (KE σ _) λl b=>KB (Pw _) λl=>BO _ _
def fZ P t:Fg λK=>jZ P t K:=by
 unfold jZ;split;exact As _;exact Al
theorem TT P σ ρ:∀l ts,Iz λK=>K4 P σ ρ l ts K
 | [],_=>BO _ _
 | x::r,ts=>by
   unfold K4;split;split;exact KB (fZ _ _) λv=>Cn (TT P σ ρ r _) λvs bs=>BO _ _;exact FF;exact Cn (SV _ _) λv b=>Cn (TT P σ ρ r _) λvs bs=>BO _ _
theorem jM σ:∀l,SC λK=>Yn σ l K
 | []=>KC
 | .d x::r=>by
   show SC λK=>Y8 x λx=>Yn σ r λl id n=>K (.d x::l) id n;exact Zj (Vz _) λx=>QO (jM σ r) λl id n=>GM _ _ _
 | .sl id n::r=>by
   simp[Yn];split;split;exact GM _ _ _;exact KC;exact KC
 | .own _ _ _::_=>KC
theorem Zl:∀l,SC λK=>dA l K
 | []=>KC
 | .d _::r=>Zl r
 | .sl _ _::r=>Zl r
 | .own sz e xs::r=>by
   simp[dA];split;exact GM _ _ _;exact KC
def nI σ r:SC λK=>Zn σ r K:=by
 unfold Zn;split;exact GM _ _ _;exact WH (KE σ _) λl b=>Zj (Pw _) λl=>GM _ _ _;split;exact QO (jM σ _) λl id n=>GM _ _ _;exact WH (SV σ _) λv b=>GM _ _ _;exact WH (SV σ _) λv b=>GM _ _ _
theorem Vy P σ ρ:∀l ts,SC λK=>Jl P σ ρ l ts K
 | [],_=>GM _ _ _
 | x::r,ts=>by
   unfold Jl;split;split;exact Zj (fZ _ _) λv=>QO (Vy P σ ρ r _) λvs bs us=>GM _ _ _;exact KC;exact QO (nI _ _) λv b u=>QO (Vy P σ ρ r _) λvs bs us=>GM _ _ _
theorem WL ρ:∀l,Iz λK=>Rq ρ l K
 | []=>BO _ _
 | (i,x)::r=>by
   show Iz λK=>jo (ρ x) λv b=>Rq ρ r λvs bs=>K ((i,v)::vs) (b++bs);exact Cn (UN (ρ x)) λv b=>Cn (WL ρ r) λvs bs=>BO _ _
theorem dy ρ:∀l,Iz λK=>Te ρ l K
 | []=>BO _ _
 | (i,x)::r=>by
   show Iz λK=>asN (ρ x) λv b=>Te ρ r λvs bs=>K ((i,v)::vs) (b++bs);exact Cn (nG (ρ x)) λv b=>Cn (dy ρ r) λvs bs=>BO _ _
theorem WJ σ ρ:∀l,Iz λK=>Nc σ ρ l K
 | []=>BO _ _
 | x::r=>by
   unfold Nc;refine Cn (SV σ (ρ x)) λv b=>?_;split;exact bQ _ (Cn (WJ σ ρ r) λl bs=>BO _ _);exact FF
theorem WI σ ρ:∀l,Iz λK=>Nb σ ρ l K
 | []=>BO _ _
 | x::r=>by
   unfold Nb;split;exact Cn (WI σ ρ r) λl bs=>BO _ _;refine Cn (SV σ (ρ x)) λv b=>?_;split;exact bQ _ (Cn (WI σ ρ r) λl bs=>BO _ _);exact FF
def lx r:Fg λK=>cellsOf r K:=by
 cases r<;>simp[cellsOf]<;>first|exact As _|exact Al|exact QQ _
theorem dw ρ:∀l,Fg λK=>Td ρ l K
 | []=>As _
 | (i,x)::r=>by
   unfold Td;exact AA (lx _) λc=>AA (dw ρ r) λa=>As _
def pP P f args k sz e xs:Fg λK=>m9 P f args k sz e xs K:=
 ⟨λ_ _ h a=>by have⟨ys,h1,h2⟩:=a.go;exact⟨⟨ys,h1,h _ h2⟩⟩,λ_ a=>by have⟨ys,h1,h2⟩:=a.go;exact⟨ys,⟨⟨ys,h1,rfl⟩⟩,h2⟩⟩
def wL{α}{F}c[Decidable c](a:Fg F):Fg λK:α->Prop=>if c then False else F K:=by
 by_cases h:c;simp[h,if_true];exact Al;simp[h,if_false];exact a
def du r:Iz λK=>VA r K:=by
 unfold VA;split<;>first|exact BO _ _|exact FF
def af P t cs:Fg λK=>nQ P t cs K:=by
 unfold nQ;split;split;exact AA (Df _) λl=>BB _ (As _);exact Al;split;exact As _;exact Al;exact Al
def wK P σ t cs:Fg λK=>yE P σ t cs K:=by
 unfold yE;split;split;refine AA (Df _) λl=>BB _ ?_;split;exact Dy (KE σ _) λl b=>As _;exact QP (Dy (KE σ _) λl b=>As _) (BB _ (As _));exact Al;split<;>first|exact As _|exact Al
 exact Al
def pL c k a b:Fg λK=>fg c k a b K:=by
 cases c<;>simp[fg]<;>first|exact As _|exact Al|exact D4 _ (As _)
def dz c k a b:Fg λK=>cF c k a b K:=by
 cases c<;>simp[cF]<;>first|exact D4 _ (As _)|exact Al
def tU c a b:Fg λK=>qC c a b K:=by
 cases c<;>simp[qC]<;>first|exact As _|exact Al|exact D4 _ (As _)
theorem fY P:∀n t xs ys,Fg λK=>nu P n t xs ys K
 | 0,_,_,_=>Al
 | n+1,t,xs,ys=>by
   unfold nu;split;split;exact BB _ (As _);exact Al;split;exact As _;exact Al;split;exact As _;exact Al;rename_i c _;apply D4 _;generalize c.toList=l
   induction l with
   | nil=>exact As _
   | cons f r ih=>exact AA (fY P n f.type _ _) λa=>AA ih λb=>As _
   exact Al
def tS P t a x y:Fg λK=>mI P t a x y K:=by
 unfold mI;split;split;exact dz _ _ _ _;exact dz _ _ _ _;exact BB _ (pL _ _ _ _);exact tU _ _ _;split;split<;>first|exact As _|exact Al
 exact Al;apply D4 _;split;exact AA (fY _ _ _ _ _) λb=>As _;exact AA (fY _ _ _ _ _) λb=>As _;exact Al;exact Al
def wM a x:Fg λK=>unD a x K:=by
 cases a<;>cases x<;>simp[unD]<;>first|exact As _|exact Al
def pN r b:Fg λK=>nY r b K:=by
 unfold nY;split;exact As _;split<;>exact As _
theorem Zk:∀l a,Iz λK=>Y2 l a K
 | [],[]=>BO _ _
 | .d x::r,a=>by
   unfold Y2;exact Cn (Zk r a) λl b=>BO _ _
 | .own sz e xs::r,(h,n)::a=>by
   unfold Y2;exact Cn (Zk r a) λl b=>bQ _ (BO _ _)
 | [],_::_=>FF
 | .own _ _ _::_,[]=>FF
 | .sl _ _::_,a=>by exact FF
def nH d n r b:Fg λK=>tW d n r b K:=by
 unfold tW;split;exact BB _ (As _);exact BB _ (AA (QQ _) λl=>As _);split;exact As _;exact pM λa=>Dy (Zk _ _) λl c=>BB _ (As _);split;exact BB _ (As _);exact Al
 all_goals first|exact As _|exact Al
theorem SX:∀us os,Fg λK=>R0 us os K
 | [],[]=>As _
 | none::us,o::os=>by
   exact SX us os
 | some (id,n)::us,o::os=>by
   cases o<;>simp only[R0]<;>first|exact Al|exact AA (SX us os) (λb=>BB _ (As _))|exact AA (QQ _) λl=>AA (SX us os) (λb=>BB _ (As _))|exact fV (Zl _) λ_ _ _=>AA (SX us os) (λb=>BB _ (As _))
 | [],_::_=>by exact Al
 | _::_,[]=>by simp[R0];exact Al
def pQ P t:Fg λK=>kF P t K:=by
 unfold kF;split;split;exact AA (Pw _) λl=>As _;split;exact Vz _;exact Al;exact Al;exact Al
def WK ρ x n:Fg λK=>oT ρ x n K:=by
 unfold oT;split;exact As _;split;exact As _;exact Al
def TU ρ sz xs lo a d b:Fg λK=>Rx ρ sz xs lo a d b K:=by
 unfold Rx;refine AA (WK _ _ _) λl=>AA (WK _ _ _) λh=>?_;split;exact D4 _ (As _);by_cases c:a.isNone=ν;simp[c,if_true];exact Al;simp[c,Zcz,if_false];split;exact D4 _ (As _);exact Al
def iO r z:Iz λK=>Z4 r z K:=
 ⟨λ_ _ h a=>by have⟨v,b,h1,h2,c⟩:=a.go;exact⟨⟨v,b,h1,h2,h _ _ c⟩⟩,λ_ a=>by have⟨v,b,h1,h2,c⟩:=a.go;exact⟨v,b,⟨⟨v,b,h1,h2,⟨rfl,rfl⟩⟩⟩,c⟩⟩
def pO P a c x d ok:Fg λK=>rP P a c x d ok K:=by
 unfold rP;split;split;split;apply D4 _;split;refine Dy (iO _ _) λv b=>?_;split;exact As _;exact As _;exact Al;exact Al;exact Al;exact Al
def tV P a m k x:Fg λK=>Aab P a m k x K:=by
 unfold Aab;split;split;split;split;exact D4 _ (As _);exact Al;exact Al;exact Al;exact Al
set_option maxHeartbeats 1000000 in
def fW P σ ρ c f a d dv:Fg λK=>ZF P σ ρ c f a d dv K:=by
 unfold ZF;refine AA (fX _) λcv=>Dy (TT _ _ _ _ _) λvs bs=>fV (Vy _ _ _ _ _) λe g us=>?_;exact tT (λr=>AA (pN _ _) λb=>nH _ _ _ _) λo r=>AA (SX _ _) λub=>BB _ (nH _ _ _ _)
def rC P σ ρ g o d n:Fg λK=>yA P σ ρ g o d n K:=by
 unfold yA;repeat' first|exact Al|exact As _|exact wK _ _ _ _|exact TU _ _ _ _ _ _ _|exact fW _ _ _ _ _ _ _ _|exact pO _ _ _ _ _ _|exact tV _ _ _ _ _|refine BB _ ?_|refine D4 _ ?_|refine wL _ ?_|refine QP ?_ ?_|refine AA (QQ _) λ_=>?_|refine AA (Df _) λ_=>?_|refine AA (af _ _ _) λ_=>?_|refine AA (XT _ _) λ_=>?_|refine AA (dw _ _) λ_=>?_|refine AA (pQ _ _) λ_=>?_|refine AA (tS _ _ _ _ _) λ_=>?_|refine AA (wM _ _) λ_=>?_|refine AA (WK _ _ _) λ_=>?_|refine AA (pP _ _ _ _ _ _ _) λ_=>?_|refine Dy (UN _) λ_ _=>?_|refine Dy (WL _ _) λ_ _=>?_|refine Dy (dy _ _) λ_ _=>?_|refine Dy (WJ _ _ _) λ_ _=>?_|refine Dy (WI _ _ _) λ_ _=>?_|refine Dy (nG _) λ_ _=>?_|refine Dy (TT _ _ _ _ _) λ_ _=>?_|refine Dy (du _) λ_ _=>?_|split
def kH(σ σ':Nat->Nat->RV)(r:RV):=(∀id n o cs,r=.vptr id n o cs->∀id' n',C.sl id' n'∈cs->σ id' n'=σ' id' n')/\(∀f cs k id n rid rn,r=.clo f cs k id n rid rn->σ rid rn=σ' rid rn)/\∀cs,r=.cagg cs->∀id' n',C.sl id' n'∈cs->σ id' n'=σ' id' n'
section
variable {P:Η} {σ σ':Nat->Nat->RV} {ρ ρ':Ly->RV}
theorem Lv:∀{l}{K},(∀id n,C.sl id n∈l->σ id n=σ' id n)->EY σ l K=EY σ' l K
 | [],_,_=>rfl
 | .d x::r,K,h=>by
   rw[EY];exact Lv λid n hm=>h id n (by simp[hm])
 | .sl id n::r,K,h=>by
   rw[EY];rw[h id n zs];congr 1;funext x b;exact Lv λid n hm=>h id n (by simp[hm])
 | .own _ _ _::_,_,_=>rfl
def QD{r}{K}(h:kH σ σ' r):SH σ r K=SH σ' r K:=by
 cases r<;>try rfl
 case vptr id n o cs=>exact Lv (h.1 id n o cs rfl)
 case cagg cs=>exact Lv (h.2.2 cs rfl)
theorem fc:∀{l}{K},(∀id n,C.sl id n∈l->σ id n=σ' id n)->Yn σ l K=Yn σ' l K
 | [],_,_=>rfl
 | .d x::r,K,h=>by
   have ih:∀{K:Γ C->Nat->Nat->Prop},Yn σ r K=Yn σ' r K:=fc λid n hm=>h id n (by simp[hm]);simp[Yn,ih]
 | .sl id n::r,K,h=>by
   simp[Yn];rw[h id n zs]
 | .own _ _ _::_,_,_=>rfl
def lF{r}{K}(h:kH σ σ' r):Zn σ r K=Zn σ' r K:=by
 cases r<;>try rfl
 case cagg cs=>
  show(match gn cs with|ν=>Yn σ cs λl id n=>K (.cc κ l) [] (θ (id,n))|ξ=>SH σ (.cagg cs) λv b=>K v b κ)=(match gn cs with|ν=>Yn σ' cs λl id n=>K (.cc κ l) [] (θ (id,n))|ξ=>SH σ' (.cagg cs) λv b=>K v b κ)
  cases gn cs with
  | true=>exact fc (h.2.2 cs rfl)
  | false=>exact QD h
 case vptr id n o cs=>
  cases o with
  | zero=>exact Lv (h.1 id n 0 cs rfl)
  | succ o=>
    show SH σ (.vptr id n (o+1) cs) (λv b=>K v b κ)=SH σ' (.vptr id n (o+1) cs) λv b=>K v b κ;exact QD h
theorem ZC:∀{l}{ts}{K},(∀x∈l,ρ x=ρ' x/\kH σ σ' (ρ' x))->K4 P σ ρ l ts K=K4 P σ' ρ' l ts K
 | [],_,_,_=>rfl
 | x::r,ts,K,h=>by
   have ih:∀{ts:Γ Υ}{K:Γ AV->Bx->Prop},K4 P σ ρ r ts K=K4 P σ' ρ' r ts K:=ZC λy hy=>h y (by simp[hy]);simp[K4,ih];rw[(h x zs).1,QD (h x zs).2]
theorem Y5:∀{l}{ts}{K},(∀x∈l,ρ x=ρ' x/\kH σ σ' (ρ' x))->Jl P σ ρ l ts K=Jl P σ' ρ' l ts K
 | [],_,_,_=>rfl
 | x::r,ts,K,h=>by
   have ih:∀{ts:Γ Υ}{K:Γ AV->Bx->Γ (Δ (Nat×Nat))->Prop},Jl P σ ρ r ts K=Jl P σ' ρ' r ts K:=Y5 λy hy=>h y (by simp[hy]);simp[Jl,ih];rw[(h x zs).1,lF (h x zs).2]
theorem ZK:∀{l}{K},(∀x∈l,ρ x=ρ' x/\kH σ σ' (ρ' x))->Nc σ ρ l K=Nc σ' ρ' l K
 | [],_,_=>rfl
 | x::r,K,h=>by
   have ih:∀{K:Γ D->Bx->Prop},Nc σ ρ r K=Nc σ' ρ' r K:=ZK λy hy=>h y (by simp[hy]);simp[Nc,ih];rw[(h x zs).1,QD (h x zs).2]
theorem dr:∀{l},(∀x∈l,ρ x=ρ' x)->Y0 ρ l=Y0 ρ' l
 | [],_=>rfl
 | x::r,h=>by
   have ih:Y0 ρ r=Y0 ρ' r:=dr λy hy=>h y (by simp[hy]);simp[Y0,ih];rw[h x zs]
theorem dG:∀{l},(∀x∈l,ρ x=ρ' x)->aN ρ l=aN ρ' l
 | [],_=>rfl
 | x::r,h=>by
   have ih:aN ρ r=aN ρ' r:=dG λy hy=>h y (by simp[hy]);simp[aN,ih,h x zs]
theorem ZJ:∀{l}{K},(∀x∈l,ρ x=ρ' x/\kH σ σ' (ρ' x))->Nb σ ρ l K=Nb σ' ρ' l K
 | [],_,_=>rfl
 | x::r,K,h=>by
   have ih:∀{K:Γ C->Bx->Prop},Nb σ ρ r K=Nb σ' ρ' r K:=ZJ λy hy=>h y (by simp[hy]);simp[Nb,ih];rw[(h x zs).1,QD (h x zs).2]
theorem VW:∀{l},(∀id n,C.sl id n∈l->σ id n=σ' id n)->X9 σ l=X9 σ' l
 | [],_=>rfl
 | .d _::r,h=>VW (l:=r) λid n hm=>h id n (by simp[hm])
 | .sl id n::r,h=>by simp[X9];rw[h id n zs,VW (l:=r) λid n hm=>h id n (by simp[hm])]
 | .own _ _ _::_,_=>rfl
def tZ{t}{cs}{K}(h:∀id n,C.sl id n∈cs->σ id n=σ' id n):yE P σ t cs K=yE P σ' t cs K:=by
 unfold yE;split;split;rename_i i _;rw[Ct,Ct];have b:∀a:Γ D->Bx->Prop,EY σ (cs.take i.size) a=EY σ' (cs.take i.size) a:=λa=>Lv λid n hm=>h id n (Zbo hm);have c:=VW (σ:=σ) (σ':=σ') (l:=cs.take i.size) λid n hm=>h id n (Zbo hm);rw[b,c];rfl;rfl;rfl
theorem aQ:∀{l}{K},(∀x∈l,ρ x.2=ρ' x.2)->Rq ρ l K=Rq ρ' l K
 | [],_,_=>rfl
 | (i,x)::r,K,h=>by
   rw[Rq];rw[h (i,x) zs];congr 1;funext v b;exact aQ λy hy=>h y (by simp[hy])
theorem dM:∀{l},(∀x∈l,ρ x.2=ρ' x.2)->bg ρ l=bg ρ' l
 | [],_=>rfl
 | (i,x)::r,h=>by
   have ih:bg ρ r=bg ρ' r:=dM λy hy=>h y (by simp[hy]);simp[bg,ih,h (i,x) zs]
theorem aO:∀{l}{K},(∀x∈l,ρ x.2=ρ' x.2)->Td ρ l K=Td ρ' l K
 | [],_,_=>rfl
 | (i,x)::r,K,h=>by
   rw[Td];rw[h (i,x) zs];congr 1;funext c;exact aO λy hy=>h y (by simp[hy])
theorem aS:∀{l}{K},(∀x∈l,ρ x.2=ρ' x.2)->Te ρ l K=Te ρ' l K
 | [],_,_=>rfl
 | (i,x)::r,K,h=>by
   rw[Te];rw[h (i,x) zs];congr 1;funext v b;exact aS λy hy=>h y (by simp[hy])
theorem XY{x}{n}{K}(h:∀y,x=θ y->ρ y=ρ' y):oT ρ x n K=oT ρ' x n K:=by
 cases x with
 | none=>rfl
 | some x=>unfold oT;simp only;rw[h x rfl]
theorem mc{sz}{xs}{lo c a}{b}{K}(h1:∀y,lo=θ y->ρ y=ρ' y)(h2:∀y,c=θ y->ρ y=ρ' y)(d:∀y,a=θ y->ρ y=ρ' y):
 Rx ρ sz xs lo c a b K=Rx ρ' sz xs lo c a b K:=by
 unfold Rx;rw[XY h1];congr 1;funext l;rw[XY h2];congr 1
 cases a with
 | none=>rfl
 | some m=>simp only;rw[d m rfl]
end
set_option maxHeartbeats 1000000 in
def y8{P}{σ σ'}{ρ r}{g}{o}{d n J}{K}(h:∀L x,x∈o.op.operands.toList->ρ L x=r L x)(E:∀L x,x∈o.op.operands.toList->kH σ σ' (r L x))(R:oh o.op=ν->n=J)(hy:yA P σ ρ g o d n K):yA P σ' r g o d J K:=by
 have w:∀{c:Ω},oh o.op=c->c=ν->n=J:=λM F=>R (M.trans F);unfold yA at hy ⊢;split at hy
 all_goals(rename_i ho;(try have:=w (by rw[ho];rfl) rfl;subst this);(try simp only[ho]at h E);try first|exact hy|(simp[Op.operands]at h;simp only[h]at hy;exact hy))
 rename_i t j;have e:∀q,Rq (ρ g) j.toList q=Rq (r g) j.toList q:=λq=>aQ λx hx=>h g x.2 (by rw[Op.operands];simp;exact⟨x.1,by simpa using hx⟩);have F:∀q,Td (ρ g) j.toList q=Td (r g) j.toList q:=λq=>aO λx hx=>h g x.2 (by rw[Op.operands];simp;exact⟨x.1,by simpa using hx⟩);have G:bg (ρ g) j.toList=bg (r g) j.toList:=dM λx hx=>h g x.2 (by rw[Op.operands];simp;exact⟨x.1,by simpa using hx⟩);simp only[e,F,G]at hy;exact hy;rename_i t m j;have e:∀q,Te (ρ g) j.toList q=Te (r g) j.toList q:=λq=>aS λx hx=>h g x.2 (by rw[Op.operands];simp;exact⟨x.1,by simpa using hx⟩);simp only[e]at hy;exact hy;rename_i f first a
 have e:∀q,Nc σ (ρ g) a.toList q=Nc σ' (r g) a.toList q:=λq=>ZK λx hx=>by
  have A:x∈a:=by simpa using hx
  have z:x∈(Op.makeFunc (.func f) first a).operands.toList:=by simp[Op.operands,A]
  exact⟨h g x z,E g x z⟩
 have F:∀q,Nb σ (ρ g) a.toList q=Nb σ' (r g) a.toList q:=λq=>ZJ λx hx=>by
  have A:x∈a:=by simpa using hx
  have z:x∈(Op.makeFunc (.func f) first a).operands.toList:=by simp[Op.operands,A]
  exact⟨h g x z,E g x z⟩
 have G:aN (ρ g) a.toList=aN (r g) a.toList:=dG λx hx=>by
  have A:x∈a:=by simpa using hx
  exact h g x (by simp[Op.operands,A])
 rw[e,F,G]at hy;exact hy;rename_i t x;have h2:=(E g x (by simp[Op.operands])).1;rw[h g x (by simp[Op.operands])]at hy;split at hy
 first|exact hy|(rw[e];exact hy)
 rename_i id J o' cs e;rw[tZ (σ':=σ') λi m z=>h2 _ _ _ _ e i m (Zdf z)]at hy;exact hy
 first|exact hy|(rw[e];exact hy)
 first|exact hy|(rw[e];exact hy)
 exact hy.elim;rename_i t x lo I N;have h1:∀y,lo=θ y->ρ g y=r g y:=λy e=>h g y (by subst e;simp[Op.operands]);have h2:∀y,I=θ y->ρ g y=r g y:=λy e=>h g y (by subst e;simp[Op.operands]);have V:∀y,N=θ y->ρ g y=r g y:=λy e=>h g y (by subst e;simp[Op.operands]);rw[h g x (by simp[Op.operands])]at hy;have M:∀{sz:Nat}{xs:Γ D}{b:Bx}{K:J4->Prop},Rx (ρ g) sz xs lo I N b K=Rx (r g) sz xs lo I N b K:=mc h1 h2 V;simp only[M]at hy;exact hy;rename_i c;split at hy;rename_i Q v;have:=w (by rw[ho];rw[oh,v]) rfl;subst this;have h1:=h g Q (by simp[Op.operands,Call.operands,v])
 have hx:∀x∈c.args.toList,ρ g x=r g x/\kH σ σ' (r g x):=λx hx=>by
  have z:x∈(Op.call c).operands.toList:=by simp[Op.operands,Call.operands];exact .inr (by simpa using hx)
  exact⟨h g x z,E g x z⟩
 have e:∀q,K4 P σ (ρ g) c.args.toList c.argTypes.toList q=K4 P σ' (r g) c.args.toList c.argTypes.toList q:=λq=>ZC hx;have W:∀q,Jl P σ (ρ g) c.args.toList c.argTypes.toList q=Jl P σ' (r g) c.args.toList c.argTypes.toList q:=λq=>Y5 hx;have h2:=(E g Q (by simp[Op.operands,Call.operands,v])).2.1;have G:∀f a(d dv)q,ZF P σ (ρ g) c f a d dv q=ZF P σ' (r g) c f a d dv q:=λf a d dv q=>by unfold ZF;simp[e,W]
 have X:=dr λx z=>(hx x z).1;simp only[h1,e,G,X]at hy;split at hy;rename_i B;exact hy;rename_i B;rw[h2 _ _ _ _ _ _ _ B]at hy
 first|exact hy|(rw[B];exact hy)
 exact hy.elim;rename_i v;split at hy;rename_i x t hx O;have h1:=h g x (by rw[Op.operands,Call.operands,v];rw[kM hx];simp);rw[h1]at hy;exact hy;exact hy.elim;rename_i v;split at hy;rename_i x y hx;have h1:=h g x (by rw[Op.operands,Call.operands,v];rw[PZ hx];simp);have h2:=h g y (by rw[Op.operands,Call.operands,v];rw[PZ hx];simp);rw[h1,h2]at hy;exact hy;exact hy.elim;rename_i v;split at hy;rename_i x y hx;have h1:=h g x (by rw[Op.operands,Call.operands,v];rw[PZ hx];simp);have h2:=h g y (by rw[Op.operands,Call.operands,v];rw[PZ hx];simp);rw[h1,h2]at hy;exact hy;exact hy.elim;rename_i v;have:=w (by rw[ho];rw[oh,v]) rfl;subst this;split at hy;rename_i x y t u hx O;have h1:=h g x (by rw[Op.operands,Call.operands,v];rw[PZ hx];simp);have h2:=h g y (by rw[Op.operands,Call.operands,v];rw[PZ hx];simp);rw[h1,h2]at hy;exact hy;exact hy.elim;exact hy.elim
def dU S T t:=(An S t).av=(An T t).av
def b7 S T b:=(An S b).box=(An T b).box/\(An S b).ver=(An T b).ver
theorem eU:∀S d K,d<Ξ S->K (An S d).ver->cK S d K
 | [],_,_,h,_=>by grind
 | ⟨_,_,_⟩::_,0,_,_,h=>h
 | s::r,d+1,K,hd,h=>eU r d K z5 h
def wg{x}{K}(h:K (x.getD 0)):dK x K:=by cases x<;>exact h
def JQ g v:∀i∈Pl (unw g v),i∈Pl v:=by
 cases v<;>try (intro i a;exact a)
 case under t w y=>
  intro i a;simp[unw]at a
  cases g with
  | none=>simp[Pl]at a
  | some p=>
    simp only at a;split at a;exact a;simp[Pl]at a
theorem NT:∀{cs}{id n},C.sl id n∈cs->id∈SK cs
 | [],_,_,h=>by grind
 | c::r,id,n,h=>by
   rcases List.mem_cons.1 h with h|h;subst h;simp[SK];have:=NT h
   cases c<;>simp[SK,this]
def S9{S T}{v}(h:∀i∈Pl v,b7 S T i):res S v=res T v:=by
 cases v<;>try rfl
 case ptr id n o=>
  have⟨h1,h2⟩:=h id (by simp[Pl]);simp[res];generalize An S id=s at *;generalize An T id=t at *;have⟨_,b,m⟩:=s;have⟨_,a,c⟩:=t;grind
 case sl id n=>
  have⟨h1,h2⟩:=h id (by simp[Pl]);simp[res];generalize An S id=s at *;generalize An T id=t at *;have⟨_,b,m⟩:=s;have⟨_,a,c⟩:=t;grind
 case eptr id n sz i o=>
  have⟨h1,h2⟩:=h id (by simp[Pl]);simp[res];generalize An S id=s at *;generalize An T id=t at *;have⟨_,b,m⟩:=s;have⟨_,a,c⟩:=t;grind
 case cc k xs=>
  cases k with
  | none=>rfl
  | some f=>
    simp[res];split;rename_i j id n hat;have⟨h1,h2⟩:=h id (by rw[Pl];exact NT (Zbf (XE hat)));generalize An S id=s at *;generalize An T id=t at *;have⟨_,b,m⟩:=s;have⟨_,a,c⟩:=t;grind;rfl
def RR S all o(e:J4):=iI S (Ge all o) o++e.homes.map (·.1)
theorem Y3{S T}(c:Ξ S=Ξ T):∀{a},(∀b∈a.map (·.1),b7 S T b)->Jj S a=Jj T a
 | [],_=>rfl
 | (h,n)::r,hb=>by
   simp[Jj];rw[c,(hb h zs).2,Y3 c λb d=>hb b z5]
theorem Tc:∀{l}{t:Nat},Operand.tmp t∈l->t∈bX l
 | [],_,h=>by grind
 | x::r,t,h=>by
   rcases List.mem_cons.1 h with h|h;subst h;simp[bX];have:=Tc h
   cases x<;>simp[bX,this]
section
variable {P:Η} {all:Γ Oper} {o:Oper}
theorem ρ_congr{S T}(e:Qd S o=ξ)(h1:∀t∈Ge all o,dU S T t)(h2:∀b∈iI S (Ge all o) o,b7 S T b):∀g x,x∈o.op.operands.toList->ρOf S g x=ρOf T g x:=by
 intro g x hx;unfold ρOf
 cases x with
 | tmp t=>
   have c:t∈Ge all o:=by rw[Ge,Zcj];exact .inr (Tc hx)
   simp[ev];have d:=h1 t c;rw[<-d];refine S9 λi a=>h2 i ?_;simp[iI,e,Zcj,Zdz];exact .inr ⟨t,c,i,JQ g _ i a,by simp[sj]⟩
 | const v=>
   rw[ev];refine S9 λi a=>?_;have:=JQ g _ i a;revert this;unfold pp;split<;>simp[Pl]
 | global q=>
   rw[ev];refine S9 λi a=>?_;have:=JQ g _ i a;revert this;split<;>simp[Pl]
 | func f=>
   rw[ev];exact S9 λi a=>by have:=JQ g _ i a;simp[Pl]at this
def xQ{S:AS}{v:AV}{id n o:Nat}{cs:Γ C}(h:res S v=.vptr id n o cs):id∈Pl v/\(An S id).box=.var cs:=by
 cases v<;>simp only[res]at h<;>try (cases h;done)
 case ptr id' n' o'=>
  split at h
  ·rename_i m a
   split at h
   ·cases h;exact⟨by simp[Pl],by rw[a]⟩
   ·cases h
  all_goals grind
 case sl id' n'=>
  grind
 case eptr=>
  grind
 grind
def zE{S:AS}{v:AV}{f:FuncId}{cs:Γ C}{k id n rid rn:Nat}(h:res S v=.clo f cs k id n rid rn):id∈Pl v/\(An S id).box=.var [.sl rid rn]:=by
 cases v<;>simp only[res]at h<;>try (cases h;done)
 case ptr a c o'=>
  grind
 case sl a c=>
  grind
 case eptr=>
  grind
 case cc k' xs=>
  cases k' with
  | none=>cases h
  | some f'=>
    simp only at h;split at h
    ·rename_i j a c b
     split at h
     ·rename_i i d e m g
      split at h
      ·cases h
       exact⟨by simp only[Pl];exact NT (Zbf (XE b)),by rw[g]⟩
      ·grind
     ·cases h
    ·cases h
def xP{S:AS}{v:AV}{cs:Γ C}(h:res S v=.cagg cs):v=.cc κ cs:=by
 cases v<;>simp only[res]at h<;>try (cases h;done)
 case ptr id' n' o'=>
  grind
 case sl id' n'=>
  grind
 case eptr=>
  grind
 grind
theorem zS{S T}(c:Qd S o=ξ)(h1:∀t∈Ge all o,dU S T t)(h2:∀b∈iI S (Ge all o) o,b7 S T b):∀g x,x∈o.op.operands.toList->kH (σOf S) (σOf T) (ρOf T g x):=by
 intro g x hx
 have key:∀id cs,id∈Pl (unw g (ev S x))->(An S id).box=.var cs->∀a e,C.sl a e∈cs->σOf S a e=σOf T a e:=by
  intro id cs h m a e l;refine S9 λi j=>?_;rw[Pl,Zbb]at j;subst j
  cases x with
  | tmp t=>
    have p:t∈Ge all o:=by rw[Ge,Zcj];exact .inr (Tc hx)
    apply h2 _;simp[iI,c,Zcj,Zdz];refine .inr ⟨t,p,id,JQ g _ id h,?_⟩;rw[sj,m,Zdd];exact .inr (NT l)
  | const v=>
    have:=JQ g _ id h;revert this;rw[ev];unfold pp;split<;>simp[Pl]
  | global q=>
    have:=JQ g _ id h;revert this;rw[ev];split<;>simp[Pl]
  | func f=>have:=JQ g _ id h;simp[ev,Pl]at this
 refine⟨λid n of cs hr a e l=>?_,λf cs k id n rid rn hr=>?_,λcs hr a e l=>?_⟩;rw[<-ρ_congr c h1 h2 g x hx]at hr;have⟨h,m⟩:=xQ hr;grind;rw[<-ρ_congr c h1 h2 g x hx]at hr;have⟨h,m⟩:=zE hr;grind;rw[<-ρ_congr c h1 h2 g x hx]at hr;have r:=xP hr;have d:a∈Pl (unw g (ev S x)):=by rw[r];exact NT l
 refine S9 λi j=>?_;rw[Pl,Zbb]at j;subst j
 cases x with
 | tmp t=>
   have p:t∈Ge all o:=by rw[Ge,Zcj];exact .inr (Tc hx)
   apply h2 _;simp[iI,c,Zcj,Zdz];exact .inr ⟨t,p,i,JQ g _ i d,by simp[sj]⟩
 | const v=>
   have:=JQ g _ i d;revert this;rw[ev];unfold pp;split<;>simp[Pl]
 | global q=>
   have:=JQ g _ i d;revert this;rw[ev];split<;>simp[Pl]
 | func f=>have:=JQ g _ i d;simp[ev,Pl]at this
theorem nv{S T}(h1:∀t∈Ge all o,dU S T t){x}(hx:x∈o.op.operands.toList):ev S x=ev T x:=by
 cases x with
 | tmp t=>
   have a:t∈Ge all o:=by rw[Ge,Zcj];exact .inr (Tc hx)
   exact h1 t a
 | _=>rfl
def iS{S T}(h1:∀t∈Ge all o,dU S T t):Qd S o=Qd T o:=by
 unfold Qd;split;rename_i x ho;rw[nv h1 (x:=x) (by rw[ho];simp[Op.operands])];rfl
def Aeq{S}{g}{d n}{K}(a:Qd S o=ξ)(hy:yA P (σOf S) (ρOf S) g o d n K):yS P S g o d n K:=by
 unfold yS;unfold Qd at a;split;rename_i x ho;rw[ho]at a;simp only at a;split;rename_i he;rw[he]at a;cases a;rename_i he;rw[he]at a;cases a;exact hy;exact hy
def rD P S g o d n:Fg λK=>yS P S g o d n K:=by
 unfold yS;split;split;exact As _;exact As _;exact rC _ _ _ _ _ _ _;exact rC _ _ _ _ _ _ _
theorem mw{S T}{g}{K}(h1:∀t∈Ge all o,dU S T t)(h2:∀b∈iI S (Ge all o) o,b7 S T b)(e:Ξ S=Ξ T)(hy:dK o.dst λd=>cK S d λn=>yS P S g o d n K):dK o.dst λd=>cK T d λn=>yS P T g o d n K:=by
 have⟨hd,hy⟩:=Uu _ _ _ (jx hy);refine wg (eU _ _ _ z5 ?_);rcases iB hy with⟨x,ho,he,hK⟩|⟨a,hy⟩;unfold yS;rw[ho];simp only;rw[<-nv h1 (x:=x) (by rw[ho];simp[Op.operands])]
 cases h:ev S x with
 | ptr id v k=>grind
 | sl id v=>grind
 | _=>rw[h]at he;cases he
 refine Aeq (by rw[<-iS h1];exact a) (y8 (ρ_congr a h1 h2) (zS a h1 h2) (λc=>?_) hy);exact(h2 _ (by simp[iI,c])).2
theorem sR.move{lk}{S T}(h:∀t∈lk,dU S T t):∀{n t}{r},sR lk n t S r->sR lk n t T r
 | 0,_,_,hd=>hd.elim
 | n+1,t,r,⟨hlk,hd⟩=>by
   have e:=h t hlk;unfold dU at e;refine⟨hlk,?_⟩;rcases hd with⟨b,a,hr⟩|⟨c,w',b,d,a,hd,hr⟩|⟨c,w',a,hr⟩;grind;exact .inr (.inl ⟨c,w',b,d,by rw[<-e];exact a,sR.move h hd,hr⟩);grind
def xt{done}{S}{K}(hy:uk P all done o S K):
 ∃e,K S e/\∀a T,(∀t∈Ge all o,dU S T t)->(∀b∈RR S all o e,b7 S T b)->Ξ S=Ξ T->(∀j i t,o.guard=θ (j,i)->dl all j=θ t->t∈a)->
  uk P all a o T (λI f=>I=T/\f=e):=by
 have w:∀{g:Δ (Nat×Ω)}{F:J4->Prop},(dK o.dst λd=>cK S d λn=>yS P S g o d n F)->∃e,F e/\dK o.dst λd=>cK S d λn=>yS P S g o d n λf=>f=e:=by
  intro g F hy;have⟨hd,hy⟩:=Uu _ _ _ (jx hy);have⟨e,he,x⟩:=(rD P S g o (o.dst.getD 0) (An S (o.dst.getD 0)).ver).2 _ hy;exact⟨e,x,wg (eU _ _ _ hd he)⟩
 have l:∀{T:AS}{g:Δ (Nat×Ω)}{F y:J4->Prop},(∀e,F e->y e)->(dK o.dst λd=>cK T d λn=>yS P T g o d n F)->dK o.dst λd=>cK T d λn=>yS P T g o d n y:=by
  intro T g F y x hy;have⟨hd,hy⟩:=Uu _ _ _ (jx hy);exact wg (eU _ _ _ hd ((rD P T g o (o.dst.getD 0) (An T (o.dst.getD 0)).ver).1 _ _ x hy))
 have m:∀{T:AS}{e:J4},(∀b∈RR S all o e,b7 S T b)->∀b∈iI S (Ge all o) o,b7 S T b:=λh b z=>h b (by rw[RR,Zcj];exact .inl z);have J:∀{T:AS}{e:J4},Ξ S=Ξ T->(∀b∈RR S all o e,b7 S T b)->Jj S e.homes=Jj T e.homes:=λk h=>Y3 k λb z=>h b (by rw[RR,Zcj];exact .inr z);unfold uk at hy;split at hy;rename_i c;have⟨e,hK,he⟩:=w hy;have⟨A,hK⟩:=Av hK;refine⟨e,hK,λ_ T h1 h2 k _=>?_⟩;unfold uk;rw[c];refine l (λf H=>?_) (mw h1 (m h2) k he);grind;rename_i j i c;split at hy;grind;rename_i t B;have⟨C,hy⟩:=Av hy;split at hy;rename_i u;have⟨e,hK,he⟩:=w hy;split at hK;rename_i v;refine⟨_,hK,λ_ T h1 h2 k p=>?_⟩;unfold uk;simp only[c,B,u];rw[Zai z5];refine l (λf H=>?_) (mw h1 (m h2) k he);grind;grind;rename_i u;have⟨r,hy,q⟩:=Zd hy;have s:∀T:AS,(∀t∈Ge all o,dU S T t)->sR (Ge all o) 5 t T r:=λT h1=>q.move h1;rcases NR.1 hy with⟨D,E⟩|⟨G,hK⟩;have⟨e,hK,he⟩:=w E;have⟨A,hK⟩:=Av hK;refine⟨e,hK,λ_ T h1 h2 k p=>?_⟩;unfold uk;simp only[c,B,u];rw[Zai z5];refine kT (s T h1) (NR.2 (.inl ⟨D,l (λf H=>?_) (mw h1 (m h2) k he)⟩));grind;refine⟨_,hK,λ_ T h1 h2 k p=>?_⟩;unfold uk;simp only[c,B,u];rw[Zai z5];exact kT (s T h1) (NR.2 (.inr ⟨G,by first|exact⟨rfl,rfl⟩|exact⟨rfl,trivial⟩|exact⟨trivial,trivial⟩⟩))
structure iF(P:Program)(all:List Oper)(S₀:AS)(St:Nat->AS)(E:Nat->J4):Prop where
 start:St 0=S₀
 next:∀(i:Nat)(o:Oper),all[i]?=some o->St (i+1)=app o.dst (E i) (St i)
 once:∀(i j:Nat)(o o':Oper),i<j->all[i]?=some o->all[j]?=some o'->∀d,o.dst=some d->o'.dst≠some d
 does:∀(i:Nat)(o:Oper),all[i]?=some o->∀(T:AS)(done:List Nat),(∀t∈Ge all o,dU (St i) T t)->(∀b∈RR (St i) all o (E i),b7 (St i) T b)->Ξ (St i)=Ξ T->
  (∀j want t,o.guard=some (j,want)->dl all j=some t->t∈done)->uk P all done o T (λT' f=>T'=T/\f=E i)
 box:∀(i j:Nat)(o o':Oper),i<j->all[i]?=some o->all[j]?=some o'->Yy all o' i=false->
  dW ((E i).bx.map (·.1)) (RR (St j) all o' (E j)++(E j).bx.map (·.1))=true/\dW (RR (St i) all o (E i)) ((E j).bx.map (·.1))=true
theorem yf P all:∀l k h done S K,(∀j,l[j]?=all[k+j]?)->Aci P all k h done l S K->
 ∃(g:Nat->AS)(E:Nat->J4),g k=S/\K (g (k+Ξ l)) /\
  (∀i o,k<=i->all[i]?=θ o->g (i+1)=app o.dst (E i) (g i)) /\
  (∀i o,k<=i->all[i]?=θ o->∀d,o.dst=θ d->d∉done) /\
  (∀i j o o',k<=i->i<j->all[i]?=θ o->all[j]?=θ o'->∀d,o.dst=θ d->o'.dst≠θ d) /\
  (∀i o,k<=i->all[i]?=θ o->∀T done,(∀t∈Ge all o,dU (g i) T t)->(∀b∈RR (g i) all o (E i),b7 (g i) T b)->Ξ (g i)=Ξ T->
   (∀j v t,o.guard=θ (j,v)->dl all j=θ t->t∈done)->uk P all done o T λM f=>M=T/\f=E i) /\
  (∀i o,k<=i->all[i]?=θ o->∀x∈h,Yy all o x.1=ξ->dW x.2.2 (RR (g i) all o (E i)++(E i).bx.map (·.1))=ν/\dW x.2.1 ((E i).bx.map (·.1))=ν) /\
  (∀i j o o',k<=i->i<j->all[i]?=θ o->all[j]?=θ o'->Yy all o' i=ξ->
   dW ((E i).bx.map (·.1)) (RR (g j) all o' (E j)++(E j).bx.map (·.1))=ν/\dW (RR (g i) all o (E i)) ((E j).bx.map (·.1))=ν)
 | [],k,h,done,S,K,hall,hy=>by
   have κ:∀i,k<=i->all[i]?=κ:=by
    intro i p;have N:=hall 0;simp at N;exact Zbj z0
   refine⟨λ_=>S,λ_=>⟨.any,[],[]⟩,rfl,hy,?_,?_,?_,?_,?_,?_⟩
   all_goals grind
 | o::r,k,h,done,S,K,hall,hy=>by
   have⟨w,hy⟩:=Av hy;have⟨e,hK,m⟩:=xt hy;rw[Pv,Pv]at hK;have⟨y,hK⟩:=Av hK;rw[kJ,Pv]at hK;have ho:all[k]?=θ o:=by have:=hall 0;simpa using this.symm
   have⟨g,E,R,G,q,z,H,s,A,B⟩:=yf P all r (k+1) _ _ _ K (λj=>by have:=hall (j+1);rw[Zcg]at this;rw[this];congr 1;omega) hK;refine⟨λi=>if i=k then S else g i,λi=>if i=k then e else E i,zs,?_,?_,?_,?_,?_,?_,?_⟩;have:k+Ξ (o::r)≠k:=zs;simp only[this,if_false];rw[show k+Ξ (o::r)=k+1+Ξ r by simp;omega];exact G;intro i o' p c;by_cases a:i=k;grind;have h1:i+1≠k:=z0;simp only[a,h1,if_false];exact q i o' z0 c;intro i o' p c d hd;by_cases a:i=k;subst a;rw[ho]at c;cases c;simp[hd,F2]at w;exact w;grind;intro i j L F p C h1 h2 d hd;by_cases a:i=k;subst a;rw[ho]at h1;cases h1;intro I;exact z j F z0 h2 d I (by simp[hd,F2]);grind;intro i o' p c;by_cases a:i=k;subst a;rw[ho]at c;cases c;simp only[if_true];intro T u h1 h2 Q J;exact m u T h1 h2 Q J;simp only[a,if_false];exact s i o' z0 c;intro i o' p c x hx n;by_cases a:i=k;subst a;rw[ho]at c;cases c;rw[Aaw,Zem]at y;have:=y x hx;simp[n]at this;simp only[RR,Zcn];exact this;grind;intro i j L F p C h1 h2 n;have D:j≠k:=z0;by_cases a:i=k;subst a;rw[ho]at h1;cases h1;simp only[if_true,D,if_false];exact A j F z0 h2 (i,RR S all o e,e.bx.map (·.1)) (by simp[RR]) n
   simp only[a,D,if_false];exact B i j L F z0 C h1 h2 n
theorem MZ:∀b S i,i∉b.map (·.1)->An (B5 b S) i=An S i
 | [],_,_,_=>rfl
 | (id,B,n)::r,S,i,h=>by
   rw[Zas,Zdd,not_or]at h;rw[B5];rw[MZ r _ i h.2,CG,Zah λe=>h.1 e.1]
theorem kP:∀b S i,(An (B5 b S) i).av=(An S i).av
 | [],_,_=>rfl
 | (id,B,n)::r,S,i=>by
   rw[B5];rw[kP r,CG];grind
theorem Yw:∀b S T i,Ξ S=Ξ T->i∈b.map (·.1)->b7 (B5 b S) (B5 b T) i
 | [],_,_,_,_,h=>by grind
 | (id,B,n)::r,S,T,i,hl,h=>by
   simp[B5];by_cases hr:i∈r.map (·.1)
   exact Yw r _ _ i (by simp[Ef,hl]) hr;have a:i=id:=by simp at h hr;rcases h with h|⟨x,y,h⟩;exact h;exact absurd h (hr x y)
   unfold b7;rw[MZ r _ i hr,MZ r _ i hr,CG,CG,a,hl];split;grind;rename_i c;have h1:Ξ T<=id:=z5;rw[Sq S id z0,Sq T id h1];grind
def gu dst e S:Ξ (app dst e S)=Ξ S:=by
 cases dst<;>simp[app,L8,Dx]
theorem ZB{dst}{e}{S}{t}(h:dst≠θ t):dU (app dst e S) S t:=by
 unfold dU
 cases dst with
 | none=>simp[app,kP]
 | some d=>
   rw[app];rw[Ea,Zah (λa=>h (by rw[a.1])),kP]
def mD{dst}{e}{S T}{t}(a:Ξ S=Ξ T)(h:dst=θ t):dU (app dst e S) (app dst e T) t:=by
 unfold dU;subst h;simp[app];rw[Ea,Ea,Dx,Dx,a];split;rfl;rename_i b;have h1:Ξ T<=t:=z5;rw[Sq _ t (by rw[Dx];omega),Sq _ t (by rw[Dx];exact h1)]
theorem kK{dst}{e}{S}{b}:b7 (app dst e S) (B5 e.bx S) b:=by
 unfold b7
 cases dst with
 | none=>exact⟨rfl,rfl⟩
 | some d=>
   rw[app];rw[Ea];grind
def Yu{dst}{e}{S}{b}(h:b∉e.bx.map (·.1)):b7 (app dst e S) S b:=by
 have:=kK (dst:=dst) (e:=e) (S:=S) (b:=b);unfold b7 at *;rw[this.1,this.2,MZ _ _ _ h];grind
def kL{dst}{e}{S T}{b}(a:Ξ S=Ξ T)(h:b∈e.bx.map (·.1)):b7 (app dst e S) (app dst e T) b:=by
 have h1:=kK (dst:=dst) (e:=e) (S:=S) (b:=b);have h2:=kK (dst:=dst) (e:=e) (S:=T) (b:=b);have c:=Yw e.bx S T b a h;unfold b7 at *;grind
theorem wC:∀{S T},Ξ S=Ξ T->(∀t,dU S T t)->(∀b,b7 S T b)->S=T
 | [],[],_,_,_=>rfl
 | s::S,t::T,hl,h1,h2=>by
   have a:=h1 0;have c:=h2 0;simp[dU,b7,An]at a c;have:s=t:=by have⟨_,_,_⟩:=s;simp_all
   rw[this,wC (S:=S) (T:=T) z5 (λi=>h1 (i+1)) λi=>h2 (i+1)]
 | [],_::_,hl,_,_=>by grind
 | _::_,[],hl,_,_=>by grind
def UG{x y}(h:dW x y=ν):∀i∈x,i∉y:=by simpa [dW] using h
theorem Vi:∀l k,(∀j,l[j]?=all[k+j]?)->qp all k l=ν->
 ∀i o,k<=i->all[i]?=θ o->((∀e∈o.after,Region.binds .any e=ν->e.on<i)/\∀j a,o.guard=θ (j,a)->j<i) /\
  ∀j o',j<i->all[j]?=θ o'->Yy all o j=ν\/((∀d,o'.dst=θ d->d∉Ge all o)/\(∀d,o.dst=θ d->d∉Ge all o'))
 | [],k,hall,_,i,o,hi,ho=>by
   have t:=hall 0;grind
 | x::r,k,hall,h,i,o,hi,ho=>by
   simp only[qp,Zax]at h;have⟨⟨⟨h1,b⟩,h2⟩,m⟩:=h;by_cases c:i=k;subst c;have hx:all[i]?=θ x:=by have:=hall 0;simpa using this.symm
   rw[hx]at ho;cases ho;refine⟨⟨λe he u=>?_,λj a n=>by simpa [n] using b⟩,λj o' p f=>?_⟩;grind
   have:=List.all_eq_true.1 h2 (o',j) (by
    rw[List.mem_iff_getElem?];refine⟨j,?_⟩;rw[List.getElem?_zipIdx,Zda p,f];simp)
   rw[Zft,Zax]at this;rcases this with⟨g,q⟩|g;refine .inr ⟨λd hd=>UG g d (by simp[hd,F2]),λd hd s=>UG q d s (by simp[hd,F2])⟩;grind;exact Vi r (k+1) (λj=>by have:=hall (j+1);rw[Zcg]at this;rw[this];congr 1;omega) m i o z0 ho
end
structure vr(all:List Oper)(St:Nat->AS)(E:Nat->J4)(S₀:AS)(f:Nat->Bool)(T:AS):Prop where
 len:Ξ T=Ξ S₀
 dc:∀(k:Nat)(o:Oper),all[k]?=some o->f k=true->∀i,iL o i=true->f i=true
 vs:∀(t i:Nat),i<=Ξ all->(∀(k:Nat)(o:Oper),all[k]?=some o->o.dst=some t->(f k=true↔k<i))->dU T (St i) t
 vb:∀(b i:Nat),i<=Ξ all->(∀(k:Nat)(o:Oper),all[k]?=some o->b∈(E k).bx.map (·.1)->(f k=true↔k<i))->b7 T (St i) b
section
variable {P:Η} {all:Γ Oper} {St:Nat->AS} {E:Nat->J4} {S₀:AS}
theorem iF.len(h:iF P all S₀ St E):∀i,i<=Ξ all->Ξ (St i)=Ξ S₀
 | 0,_=>by rw[h.start]
 | i+1,hi=>by
   rw[h.next i all[i] (Zaa z0),gu];exact h.len i z0
theorem iF.keepS(h:iF P all S₀ St E){t i:Nat}:∀j,i<=j->j<=Ξ all->(∀k o,i<=k->k<j->all[k]?=θ o->o.dst≠θ t)->dU (St j) (St i) t:=by
 intro j
 induction j with
 | zero=>intro a _ _;have:i=0:=z0
         subst this;exact rfl
 | succ j ih=>
   intro a c b;by_cases e:i=j+1;subst e;exact rfl;have h1:=ih z0 z0 (λk o h1 h2=>b k o h1 z0)
   have h2:dU (St (j+1)) (St j) t:=by
    rw[h.next j all[j] (Zaa z0)];exact ZB (b j _ z0 z0 (Zaa z0))
   exact Eq.trans h2 h1
theorem iF.keepB(h:iF P all S₀ St E){b i}:∀j,i<=j->j<=Ξ all->(∀k o,i<=k->k<j->all[k]?=θ o->b∉(E k).bx.map (·.1))->b7 (St j) (St i) b:=by
 intro j
 induction j with
 | zero=>intro a _ _;have:i=0:=z0
         subst this;exact⟨rfl,rfl⟩
 | succ j ih=>
   intro a d c;by_cases e:i=j+1;subst e;exact⟨rfl,rfl⟩;have h1:=ih z0 z0 (λk o h1 h2=>c k o h1 z0)
   have h2:b7 (St (j+1)) (St j) b:=by
    rw[h.next j all[j] (Zaa z0)];exact Yu (c j _ z0 z0 (Zaa z0))
   exact⟨h2.1.trans h1.1,h2.2.trans h1.2⟩
theorem vr.readyN{f}{T}(m:vr all St E S₀ f T):∀n{o}{j},(∀j,iL o j=ν->f j=ν)->rp all n o j=ν->f j=ν
 | 0,_,_,hready,h=>hready _ h
 | n+1,o,j,hready,h=>by
   simp only[rp,Zft,Zff,Zax]at h;rcases h with h|⟨e,he,g,a⟩;grind;split at a;rename_i c b;refine m.readyN n (λi d=>m.dc e.on c b (hready e.on ?_) i d) a;simp only[iL,Zff,Zax,Zdk];grind
   cases a
def vr.ready2{f}{T}(m:vr all St E S₀ f T){o}(a:∀j,iL o j=ν->f j=ν){j}(h:Yy all o j=ν):f j=ν:=
 m.readyN 4 a h
def vr.step(h:iF P all S₀ St E)(u:qp all 0 all=ν){f}{T}(m:vr all St E S₀ f T){i}{o}(ho:all[i]?=θ o)(B:f i=ξ)(c:∀j,iL o j=ν->f j=ν):
 (∀t∈Ge all o,dU (St i) T t)/\(∀b∈RR (St i) all o (E i),b7 (St i) T b)/\vr all St E S₀ (λk=>if k=i then ν else f k) (app o.dst (E i) T):=by
 have s:=Vi all 0 (λj=>zs) u;have G:i<Ξ all:=z5
 have g:∀k o',all[k]?=θ o'->i<k->f k=ν->Yy all o' i=ξ:=by
  intro k o' a C l
  cases he:Yy all o' i with
  | false=>rfl
  | true=>have:=m.ready2 (λj r=>m.dc k o' a l j r) he;rw[B]at this;cases this
 have n:Ξ (St i)=Ξ T:=by rw[h.len i z0,m.len]
 have D:∀t∈Ge all o,dU (St i) T t:=by
  intro t H;refine(m.vs t i z0 λk o' a hd=>?_).symm;rcases Zed k i with d|d|d;refine⟨λ_=>d,λ_=>?_⟩;rcases(s i o z0 ho).2 k o' d a with he|⟨h1,_⟩;exact m.ready2 c he;grind
  all_goals grind
 have F:∀b∈RR (St i) all o (E i),b7 (St i) T b:=by
  intro b A;have key:=m.vb b i z0 λk o' a hd=>?_;exact⟨key.1.symm,key.2.symm⟩;rcases Zed k i with d|d|d;refine⟨λ_=>d,λ_=>?_⟩
  cases he:Yy all o k with
  | true=>exact m.ready2 c he
  | false=>exact absurd (List.mem_append.2 (.inl A)) (UG (h.box k i o' o d a ho he).1 b hd)
  grind;refine⟨λl=>?_,λI=>z0⟩;exact absurd hd (UG (h.box i k o o' d ho a (g k o' a d l)).2 b A)
 refine⟨D,F,?_⟩;have v:=h.next i o ho;refine⟨by rw[gu];exact m.len,?_,?_,?_⟩
 intro k o' a d j r;by_cases w:k=i;grind;simp[w,if_false]at d;have:=m.dc k o' a d j r;simp[this];intro t j r p;by_cases hd:o.dst=θ t;have x:=(p i o ho hd).1 zs;have h1:dU (St j) (St (i+1)) t:=h.keepS j z0 r λk o' y z a q=>h.once i k o o' z0 ho a t hd q;have h2:dU (app o.dst (E i) T) (St (i+1)) t:=by rw[v];exact mD n.symm hd
 exact h2.trans h1.symm
 have h1:=m.vs t j r λk o' a q=>by
  grind
 exact(ZB hd).trans h1;intro b j r p;by_cases hd:b∈(E i).bx.map (·.1)
 have x:=(p i o ho hd).1 zs
 have h1:b7 (St j) (St (i+1)) b:=h.keepB j z0 r λk o' y z a q=>by
  have l:f k=ν:=z5;have he:=g k o' a z0 l;exact UG (h.box i k o o' z0 ho a he).1 b hd (List.mem_append.2 (.inr q))
 have h2:b7 (app o.dst (E i) T) (St (i+1)) b:=by rw[v];exact kL n.symm hd
 exact⟨h2.1.trans h1.1.symm,h2.2.trans h1.2.symm⟩
 have h1:=m.vb b j r λk o' a q=>by
  grind
 have h2:=Yu (dst:=o.dst) (e:=E i) (S:=T) hd;exact⟨h2.1.trans h1.1,h2.2.trans h1.2⟩
end
section
variable {P:Η} {X:Cx} {ops:Array Oper} {St:Nat->AS} {E:Nat->J4} {S₀:AS}
def iM(listed:Array Ω)k:=listed.getD k ξ
def fL(all:Γ Oper)f:=((List.range (Ξ all)).filter f).flatMap λk=>F2 ((all[k]?).bind (·.dst))
theorem Tb{all}{f}{t}:t∈fL all f↔∃(k:Nat)(o:Oper),all[k]?=θ o/\f k=ν/\o.dst=θ t:=by
 simp[fL,Zdz,List.mem_filter,List.mem_range];constructor;rintro⟨k,⟨b,c⟩,a⟩;refine⟨k,all[k],Zaa b,c,?_⟩;rw[Zaa b]at a;rw[Zad]at a
 cases hd:all[k].dst with
 | none=>simp[hd,F2]at a
 | some d=>simp[hd,F2]at a;rw[a]
 rintro⟨k,o,ho,c,hd⟩
 have b:k<Ξ all:=by
  rcases Zbk k (Ξ all) with h|h;exact h;simp[Zbj h]at ho
 exact⟨k,⟨b,c⟩,by simp[ho,hd,F2]⟩
theorem dq{p p'}{i}(h1:p i=ν)(h2:p' i=ξ)(a:∀x,x≠i->p' x=p x):∀l:Γ Nat,Ξ (l.filter p')+l.count i=Ξ (l.filter p)
 | []=>rfl
 | x::r=>by
   have ih:=dq h1 h2 a r;by_cases e:x=i;subst e;simp[Zfg,h1,h2,<-ih];omega;have c:(x==i)=ξ:=by simp[e]
   rw[Zgn,c];by_cases b:p x=ν;simp[Zfg,b,a x e];omega;simp[Zfg,b,a x e];omega
def vr.all_done(h:iF P ops.toList S₀ St E){f}{T}(m:vr ops.toList St E S₀ f T)(d:∀k,k<ops.size->f k=ν):T=St ops.size:=by
 have e:∀k o,ops.toList[k]?=θ o->k<ops.size:=by
  intro k o ho;rcases Zbk k ops.size with h|h;exact h;simp[h]at ho
 have a:ops.size<=Ξ ops.toList:=zs;refine wC (by rw[m.len,h.len _ a]) (λt=>m.vs t _ a λk o ho _=>?_) λb=>m.vb b _ a λk o ho _=>?_;exact⟨λ_=>e k o ho,λc=>d k c⟩;exact⟨λ_=>e k o ho,λc=>d k c⟩
def w5{o}{i}:iL o i=ν↔∃e∈o.after,e.on=i/\Region.binds .any e=ν:=by
 simp only[iL,Zff,Array.mem_toList_iff,Zax,Zdk]
theorem sW(h:iF P ops.toList S₀ St E)(g:qp ops.toList 0 ops.toList=ν){Q}(Z:∀β a w (done:Γ Nat),SimB X (·∈done) β (St ops.size) a w->Q .normal a w):
 ∀fuel b T β a w,b.size=ops.size->vr ops.toList St E S₀ (iM b) T->SimB X (·∈fL ops.toList (iM b)) β T a w->
  (Ξ ((List.range ops.size).filter λk=>!iM b k))<=fuel->wpAny P .any ops Q fuel b a w:=by
 have v:∀b (T:AS)β(a:Act)w,b.size=ops.size->vr ops.toList St E S₀ (iM b) T->SimB X (·∈fL ops.toList (iM b)) β T a w->
  Region.ready .any ops b=[]->Q .normal a w:=by
  intro b T β a w q m A hr
  have F:∀k,k<ops.size->iM b k=ν:=by
   intro k
   induction k using Nat.strongRecOn with
   | _ k ih=>
     intro y
     cases hfk:iM b k with
     | true=>rfl
     | false=>
       have z:k∈Region.ready .any ops b:=by
        refine mem_ready.2 ⟨?_,ops[k],by simp[y],λe he I=>?_⟩;simp only[iM,Array.getD]at hfk ⊢;rw[dif_pos z0]at hfk ⊢;exact hfk;have s:=(Vi (all:=ops.toList) ops.toList 0 (λj=>zs) g k ops[k] z0 (by simp[y])).1.1 e he I;exact ih e.on s z0
       rw[hr]at z
       cases z
  rw[m.all_done h F]at A;exact Z β a w _ A
 intro fuel
 induction fuel with
 | zero=>
   intro b T β a w q m A hc
   have hr:Region.ready .any ops b=[]:=by
    cases hr:Region.ready .any ops b with
    | nil=>rfl
    | cons i r=>
      have J:=(mem_ready.1 (show i∈Region.ready .any ops b by rw[hr];simp));have⟨h1,o,ho,_⟩:=J
      have s:i<ops.size:=by
       rcases Zbk i ops.size with h|h;exact h;simp[Zct h]at ho
      have:i∈(List.range ops.size).filter λk=>!iM b k:=by
       rw[List.mem_filter,List.mem_range,Zgc];refine⟨s,?_⟩;simp only[iM,Array.getD]at h1 ⊢;rw[dif_pos z0]at h1 ⊢;exact h1
      have:=List.length_pos_of_mem this;omega
   exact⟨hr,v b T β a w q m A hr⟩
 | succ fuel ih=>
   intro b T β a w q m A hc;refine⟨λhr=>v b T β a w q m A hr,λi J=>?_⟩;have⟨h1,o,ho,G⟩:=mem_ready.1 J
   have s:i<ops.size:=by
    rcases Zbk i ops.size with h|h;exact h;simp[Zct h]at ho
   have f:ops.toList[i]?=θ o:=by simpa using ho
   have B:iM b i=ξ:=by
    simp only[iM,Array.getD]at h1 ⊢;rw[dif_pos z0]at h1 ⊢;exact h1
   have l:∀j,iL o j=ν->iM b j=ν:=by
    intro j hj;have⟨e,he,L,I⟩:=w5.1 hj;rw[<-L];exact G e he I
   have⟨hS,hB,m'⟩:=m.step h g f B l;have C:Ξ (St i)=Ξ T:=by rw[h.len i zv,m.len]
   have hy:=h.does i o f T (fL ops.toList (iM b)) hS hB C (λj H t W n=>by
    rw[ZU]at n
    cases hoj:ops.toList[j]? with
    | none=>simp[hoj]at n
    | some oj=>
      simp[hoj]at n;refine Tb.2 ⟨j,oj,hoj,?_,n⟩;have M:t∈Ge ops.toList o:=by simp[Ge,ge,W,ZU,hoj,n,F2]
      have N:=(Vi (all:=ops.toList) ops.toList 0 (λj=>zs) g i o z0 f).1.2 j H W;rcases(Vi (all:=ops.toList) ops.toList 0 (λj=>zs) g i o z0 f).2 j oj N hoj with O|⟨R,_⟩;exact m.ready2 l O;exact absurd M (R t n))
   have⟨e,⟨_,he⟩,S⟩:=ki A hy;subst he
   have c:=S.step (Q:=Q) (K:=wpAny P .any ops Q fuel (b.setIfInBounds i ν)) (λd hd hm=>by
    have⟨k,ok,hok',hfk,hdk⟩:=Tb.1 hm;rcases Zed k i with y|y|y;exact h.once k i ok o y hok' f d hdk hd;subst y;rw[B]at hfk;cases hfk;exact h.once i k o ok y f hok' d hd hdk)
    (λβ' a' w' U=>by
     have u:iM (b.setIfInBounds i ν)=λk=>if k=i then ν else iM b k:=by
      funext k;simp[iM,Zci,Zcr];by_cases D:k=i;subst D;simp[q,s];simp[Ne.symm D,D]
     refine ih _ _ β' a' w' (by simp[q]) (by rw[u];exact m') (U.weaken λt n=>?_) ?_;rw[u];rcases List.mem_append.1 n with n|n;refine Tb.2 ⟨i,o,f,zs,?_⟩
     cases hd:o.dst with
     | none=>simp[hd,F2]at n
     | some d=>simp[hd,F2]at n;rw[n]
     have⟨k,ok,hok',hfk,hdk⟩:=Tb.1 n;exact Tb.2 ⟨k,ok,hok',by simp[hfk],hdk⟩;have:=dq (p:=λk=>!iM b k) (p':=λk=>!iM (b.setIfInBounds i ν) k) (i:=i) (by simp[B]) (by simp[u]) (λx hx=>by simp[u,hx]) (List.range ops.size);have Y:0<(List.range ops.size).count i:=List.count_pos_iff.2 (by simp[s]);omega)
   unfold wpOp;simp[ho];split;rename_i V;rw[Zai V]at c;exact .inl c;rename_i V;rw[Zah V]at c;exact c
def PQ P:Sx P:=by
 intro id ops Q S X β a w hy hs;have⟨⟨m,s⟩,hy⟩:=hy;have⟨St,E,q,hK,e,_,f,g,_,n⟩:=yf P ops.toList ops.toList 0 [] [] S _ (λj=>zs) hy;have c:iF P ops.toList S St E:=⟨q,λi o ho=>e i o z0 ho,λi j o o' h h1 h2=>f i j o o' z0 h h1 h2,λi o ho=>g i o z0 ho,λi j o o' h h1 h2=>n i j o o' z0 h h1 h2⟩;apply wp_region_any s;have u:SimB X (λ_=>False) β S a { w with drawn:=w.drawn+1 }:=hs.world ⟨rfl,rfl,rfl,Zam _,λ_ _=>rfl⟩;refine sW c m (λv x w' done hs'=>?_) ops.size _ S β a _ zs ?_ (u.weaken λ_ p=>p.elim) ?_;rw[gG]at hK;rw[Zbn,Zbv]at hK;exact⟨v,_,hK,hs'.plain⟩
 have p:∀k,iM (Array.replicate ops.size ξ) k=ξ:=by
  intro k;rw[iM,Array.getD];split<;>simp
 refine⟨rfl,(λk o _ l=>by rw[p k]at l;cases l),λt i r d=>?_,λb i r d=>?_⟩;rw[<-q];refine(c.keepS (i:=0) i z0 r λk o _ l ho hd=>?_).symm;have:=(d k o ho hd).2 l;rw[p k]at this;cases this;rw[<-q]
 have:=c.keepB (b:=b) (i:=0) i z0 r λk o _ l ho hd=>by
  have:=(d k o ho hd).2 l;rw[p k]at this;cases this
 exact⟨this.1.symm,this.2.symm⟩;exact Zbl (Zce _ _) zs
def UA{f}{fn}{args}{r}(b:P.funcs[f]?=θ fn)(a:(fn.name == "runtime.NumGoroutine")=ξ)(hr:Abb P fn args r):A9 P f args r :=
 Yt (PQ P) b a hr
def oi{f:FuncId}{fn:Func}{args a:Γ AV}{r:AV}(h:P.funcs[f]?=θ fn)(b:(fn.name == "runtime.NumGoroutine")=ξ)(g:Ξ a=Ξ args)
 (c:∀(i:Nat) x y,args[i]?=θ x->a[i]?=θ y->match y with
  | .own sz e _=>∃xs,x=.own sz e xs
  | .optr cs=>∃d,x=.optr d/\Ξ cs=Ξ d
  | .cc _ l=>∃(ds:Γ D)(sz:Nat)(e:Υ)(xs ys:Γ D),x=.cc κ (ds.map .d++[.own sz e xs])/\l=ds.map .d++[.own sz e ys]
  | _=>True) (hr:Aal P fn args a r):Et P f args a r:=
 Y6 (PQ P) h b g c hr
def Vp J{f}{fn}{args}{r}(b:P.funcs[f]?=θ fn)(a:(fn.name == "runtime.NumGoroutine")=ξ)(hr:m8 P J fn args r):A9 P f args r :=
 Yt (PQ P) b a hr
def lH(J:Γ Nat){f:FuncId}{fn:Func}{args a:Γ AV}{r:AV}(h:P.funcs[f]?=θ fn)(b:(fn.name == "runtime.NumGoroutine")=ξ)(g:Ξ a=Ξ args)
 (c:∀(i:Nat) x y,args[i]?=θ x->a[i]?=θ y->match y with
  | .own sz e _=>∃xs,x=.own sz e xs
  | .optr cs=>∃d,x=.optr d/\Ξ cs=Ξ d
  | .cc _ l=>∃(ds:Γ D)(sz:Nat)(e:Υ)(xs ys:Γ D),x=.cc κ (ds.map .d++[.own sz e xs])/\l=ds.map .d++[.own sz e ys]
  | _=>True) (hr:fa P J fn args a r):Et P f args a r:=
 Y6 (PQ P) h b g c hr
def Aem J{f}{fn}{args}{k sz}{e}{xs ys}q(g:P.funcs[f]?=θ fn)(a:(fn.name == "runtime.NumGoroutine")=ξ)(b:fn.results=#[])(h:args[k]?=θ .any)(i:q<Ξ args)(d:q≠k)(c:args.all (λx=>!x.mut)=ν)(hr:vu P J fn args k q sz e xs ys):cN P f args k sz e xs ys :=
 jj (PQ P) g a b h i d c hr
end
def jS{S S'}(h:Gk S' λS'=>Le S S'):Le S S':=by rw[GL]at h;exact h
end Go.Abs
namespace Go.Proofs.YthifolbledpmkaaGreatDoor.P
open Go.Abs Go.Proofs
@[reducible] def Aq{α:Type}(sz:Nat)(f:α->D)(l:Γ α):D:=.list sz (l.map f)
theorem YX{ρ:Type}{b a}{x y:Prop}{X Y}{R:ρ}(c:(bif a then X else Y)=θ R)(e:b=a)(h1:X=θ R->x)(h2:Y=θ R->y):Bool.rec y x b:=by
 subst e
 cases b with
 | true=>exact h1 c
 | false=>exact h2 c
theorem vQ{ρ:Type}{b a}{x y:Prop}{X Y}{R:ρ}(c:(bif a then X else Y)=θ R)(e:b=a)(h1:a=ν->X=θ R->x)(h2:a=ξ->Y=θ R->y):Bool.rec y x b:=by
 subst e
 cases b with
 | true=>exact h1 rfl c
 | false=>exact h2 rfl c
def yL{b a}{x y:Prop}(e:b=a)(h:a=ν)(k:x):Bool.rec y x b:=by
 subst e;subst h;exact k
def brN{b a}{x y:Prop}(e:b=a)(h:a=ξ)(k:y):Bool.rec y x b:=by
 subst e;subst h;exact k
def neB{x a b:Int}(h:(x==a)=true)(k:(a==b)=false:=by rfl):(x==b)=false:=by
 rw[beq_iff_eq.1 h];exact k
def atH{α}{xs}{i j}{x:α}{f}{K}(h:idx xs i=θ x)(e:j=i)(k:K (f x)):At (xs.map f) j K:=by
 have⟨a,_,h1⟩:=WO h;subst e;exact⟨⟨a,_,by rw[Zaz,h1];rfl,k⟩⟩
def fk{α}{xs}{i j}{x:α}{f}{K}(h:idx xs i=θ x)(e:j=((i.toNat:Nat):Int))(k:K (f x)):At (xs.map f) j K:=by
 have⟨a,_,_⟩:=WO h;exact atH h (e.trans (Zdh a)) k
def Afp{α}{xs}{i j}{x}{f:α->D}{k}(h:idx xs i=θ x)(e:j=i)(a:k):NL (0<=j/\j.toNat<Ξ (xs.map f)) k:=by
 have⟨b,h1,_⟩:=WO h;subst e;exact⟨⟨b,by rw[Zac];exact h1⟩,a⟩
def atF{α ρ:Type}{xs}{i j}{f:α->D}{K}{G}{R:ρ}(a:(idx xs i).bind G=θ R)(e:j=i)(k:∀x,idx xs i=θ x->G x=θ R->K (f x)):At (xs.map f) j K:=by
 have⟨x,h,a⟩:=cY a;exact atH h e (k x h a)
def T4{α ρ:Type}{xs}{f:α->D}{i j}{k}{G}{R:ρ}(a:(idx xs i).bind G=θ R)(e:j=i)(b:∀x,idx xs i=θ x->G x=θ R->k):NL (0<=j/\j.toNat<Ξ (xs.map f)) k:=by
 have⟨x,h,a⟩:=cY a;exact Afp h e (b x h a)
def snoc{α:Type}(f:α->D)xs x:xs.map f++[f x]=(xs++[x]).map f:=zs
def ym k xs x:xs.map (D.int k)++[D.int k x]=(xs++[x]).map (D.int k):=zs
def Aeh xs x:xs.map D.bool++[D.bool x]=(xs++[x]).map D.bool:=zs
def Aei xs x:xs.map D.str++[D.str x]=(xs++[x]).map D.str:=zs
def s9{α}sz(f:α->D)xs x:xs.map (Aq sz f)++[D.list sz (x.map f)]=(xs++[x]).map (Aq sz f):=by simp[Aq]
def iQ k x xs:[D.int k x]++xs.map (D.int k)=([x]++xs).map (D.int k):=rfl
def Afl{α}sz(f:α->D)x xs:[D.list sz (x.map f)]++xs.map (Aq sz f)=([x]++xs).map (Aq sz f):=rfl
def Adh{α:Type}(f:α->D)(xs ys:Γ α):xs.map f++ys.map f=(xs++ys).map f:=List.map_append.symm
def mU{α}(f:α->D)xs l h:Ia (xs.map f) l h=(Ia xs l h).map f:=by simp[Ia,List.map_take,List.map_drop]
def xO{α:Type}(f:α->D)n x:List.replicate n (f x)=(List.replicate n x).map f:=List.map_replicate.symm
def Aeg{α:Type}(f:α->D)(xs:Γ α)i x:(xs.map f).set i (f x)=(xs.set i x).map f:=by rw[Zbr]
def CN{n m b}{q}(h:rm n m=ν)(a:b<=1024)(c:q):n+m<=maxLen/\(n+m)*b<=140737488355328/\q:=by
 have h:=Zal h;refine⟨by unfold maxLen;omega,?_,c⟩
 calc (n+m)*b<=137438953472*1024:=Zec h a
def Y7{l:Int}{b:Nat}(h:(0<=l&&rm l.toNat 0)=ν)(a:b<=1024):0<=l/\l<=l/\l<=maxLen/\b*l<=281474976710656:=by
 have⟨h1,h2⟩:=Bool.and_eq_true_iff.1 h;have h1:=Zal h1;have h2:=Zal h2;refine⟨h1,Zbh _,by unfold maxLen;omega,?_⟩
 calc b*l<=1024*l:=Int.mul_le_mul_of_nonneg_right z0 h1
  _<=281474976710656:=z0
end Go.Proofs.YthifolbledpmkaaGreatDoor.P
namespace Go.Abs
section
variable {β:Type}
def NZ(k:Int):Γ (Int×β)->Δ β| []=>κ| p::r=>bif k==p.1 then θ p.2 else NZ k r
def iz(k:Int)(v:β):Γ (Int×β)->Γ (Int×β)| []=>[(k,v)]| p::r=>bif k==p.1 then(k,v)::r else p::iz k v r
def lr(k:Θ):Γ (Θ×β)->Δ β| []=>κ| p::r=>bif k==p.1 then θ p.2 else lr k r
def yv(k:Θ)(v:β):Γ (Θ×β)->Γ (Θ×β)| []=>[(k,v)]| p::r=>bif k==p.1 then(k,v)::r else p::yv k v r
def xg(kd:IntKind)(f:β->D)(es:Γ (Int×β)):Γ (D×D):=es.map λp=>(.int kd p.1,f p.2)
def mpS(f:β->D)(es:Γ (Θ×β)):Γ (D×D):=es.map λp=>(.str p.1,f p.2)
theorem nx a(f:β->D)k:∀es,UJ (.int a k) (xg a f es)=(NZ k es).map f
 | []=>rfl
 | p::r=>by
   have ih:=nx a f k r;simp[xg,Zas,UJ,NZ,Nx]at ih ⊢
   cases k==p.1
   simpa using ih;rfl
theorem mn a f k(v:β):∀es,iy (.int a k) (f v) (xg a f es)=xg a f (iz k v es)
 | []=>rfl
 | p::r=>by
   have ih:=mn a f k v r;simp[xg,Zas,iy,iz,Nx]at ih ⊢
   cases k==p.1
   simpa using ih;rfl
theorem ny(f:β->D)k:∀es,UJ (.str k) (mpS f es)=(lr k es).map f
 | []=>rfl
 | p::r=>by
   have ih:=ny f k r;simp[mpS,Zas,UJ,lr,Nx]at ih ⊢
   cases k==p.1
   simpa using ih;rfl
theorem sG f k(v:β):∀es,iy (.str k) (f v) (mpS f es)=mpS f (yv k v es)
 | []=>rfl
 | p::r=>by
   have ih:=sG f k v r;simp[mpS,Zas,iy,yv,Nx]at ih ⊢
   cases k==p.1
   simpa using ih;rfl
def UV a(f:β->D)k es:∀p∈xg a f es,L5 (.int a k) p.1=ν:=by
 intro p b;obtain⟨q,_,rfl⟩:=List.mem_map.1 b;simp[L5]
def nO(f:β->D)k es:∀p∈mpS f es,L5 (.str k) p.1=ν:=by
 intro p a;obtain⟨q,_,rfl⟩:=List.mem_map.1 a;rfl
def aA{a}{f}{k}{es}{z:β}{K}(h:K (f ((NZ k es).getD z)) (NZ k es).isSome):Z4 (UJ (.int a k) (xg a f es)) (f z) K:=by
 refine⟨⟨f ((NZ k es).getD z),(NZ k es).isSome,?_,?_,h⟩⟩<;>rw[nx]<;>cases NZ k es<;>rfl
def wY{f}{k}{es}{z:β}{K}(h:K (f ((lr k es).getD z)) (lr k es).isSome):Z4 (UJ (.str k) (mpS f es)) (f z) K:=by
 refine⟨⟨f ((lr k es).getD z),(lr k es).isSome,?_,?_,h⟩⟩<;>rw[ny]<;>cases lr k es<;>rfl
end
end Go.Abs
namespace Go.Proofs.YthifolbledpmkaaGreatDoor.P
open Go.Abs
def yZ{α}(f:α->D):Γ α->D| []=>.nil 1| x::r=>Aq 1 f (x::r)
def za{α}(f:α->D){l}(h:l.isEmpty=ξ):yZ f l=Aq 1 f l:=by cases l;cases h;rfl
def nt{α}(f:α->D){l}(h:(!l.isEmpty)=ν):yZ f l=Aq 1 f l:=by cases l;cases h;rfl
def XS{α}{f:α->D}{l}{P}{g}{a}(h:(!l.isEmpty)=ν)(k:A9 P g a (.d (yZ f l))):A9 P g a (.d (Aq 1 f l)):=nt f h▸k
def Afk{α ρ:Type}{l:Γ α}{A B}{R:ρ}{p:Prop}(h:(bif l.isEmpty then A else B)=θ R)(h1:l=[]->A=θ R->p)(h2:l.isEmpty=ξ->B=θ R->p):p:=by
 cases l
 exact h1 rfl h;exact h2 rfl h
def Adx{α β:Type}{f:α->β}{l:Γ α}(h:l.isEmpty=ξ):l.map f≠[]:=by cases l;cases h;simp
end Go.Proofs.YthifolbledpmkaaGreatDoor.P
namespace Go.Abs
open Go.Proofs Go.Shelf Go.Sort
def R2(xs:Γ Int):=xs.mergeSort λx y=>x<=y
def ay xs:Ξ (R2 xs)=Ξ xs:=by simp[R2,Zgb]
theorem Nw(xs:Γ Int):(xs.map (D.int .i64)).flatMap D.cells=xs.map (D.int .i64):=by
 induction xs with
 | nil=>rfl
 | cons x r ih=>simp[D.cells,ih]
theorem Yl{O}{w}{vals}{xs:Γ Int}(h:BC O w vals (xs.map (D.int .i64))):vals=xs.map (Value.int .i64):=by
 apply Zdv;intro j;by_cases b:j<Ξ vals;have a:j<Ξ xs:=by have:=h.1;simp at this;omega
 have:=(h.2 j vals[j] (.int .i64 xs[j]) (by simp[b]) (by simp[a])).1
 cases h3:vals[j]with
 | int k n=>rw[h3]at this;cases this;simp[b,a,h3]
 | _=>rw[h3]at this;cases this
 have a:¬j<Ξ xs:=by have:=h.1;simp at this;omega
 rw[Zbj z0,Zbj zv]
theorem Yf O w(xs:Γ Int):BC O w (xs.map (Value.int .i64)) (xs.map (D.int .i64)):=by
 refine⟨zs,λj v y a hy=>?_⟩
 cases h:xs[j]? with
 | none=>simp[h]at a
 | some n=>simp[h]at a hy;subst a;subst hy;exact⟨.int _ _,rfl⟩
def Ady{P}{ρ}(G:Lays.n189 P ρ)(o:Hq P (ρ.f 189)=ν)e xs(J:Ξ xs<4611686018427387904):
 Et P (ρ.f 189) [.own 1 e (xs.map (D.int .i64))] [.own 1 e ((R2 xs).map (D.int .i64))] (.tup []):=by
 refine⟨o,rfl,λO w vs U _ z K H q=>?_⟩
 obtain⟨v,rfl⟩:∃v,vs=#[v]:=by
  have⟨l⟩:=vs
  match l,z with
  | [v],_=>exact⟨v,rfl⟩
 have⟨_,_,vals,f,I⟩:=q 0 v _ rfl rfl;rw[Nw]at I;cases Yl I
 have fin:∀{w':Λ}{m:Ending},m=.returned (.tuple #[])->AC w.heap.size (Km #[v] [.own 1 e (xs.map (D.int .i64))]) w w'->BM w' e 1 v (Ξ (R2 xs)) ((R2 xs).map (Value.int .i64))->
  ∃u,m=.returned u/\AC w.heap.size (Km #[v] [.own 1 e (xs.map (D.int .i64))]) w w' /\
  Eu (λb=>w.heap.size<=b\/(Km #[v] [.own 1 e (xs.map (D.int .i64))] b/\¬Km #[v] [.own 1 e ((R2 xs).map (D.int .i64))] b)) (λb=>O b\/Km #[v] [.own 1 e ((R2 xs).map (D.int .i64))] b) w' u (.tup []) /\
  ∀(i:Nat) u' x y,#[v][i]?=θ u'->[AV.own 1 e (xs.map (D.int .i64))][i]?=θ x->[AV.own 1 e ((R2 xs).map (D.int .i64))][i]?=θ y->Wu (λb=>O b\/Km #[v] [.own 1 e ((R2 xs).map (D.int .i64))] b\/EZ u (.tup []) b) w' u' x y:=by
  intro w' m he A hr;refine⟨_,he,A,⟨#[],rfl,rfl,λi u x h=>by simp at h,λi j u u' sz e ys L m M b h=>by simp at h⟩,λi u' x y h1 h2 t=>?_⟩
  match i,h1,h2,t with
  | 0,h1,h2,t=>
    simp at h1 h2 t;subst h1;subst h2;subst t;refine⟨⟨z0,λx hx=>?_,(R2 xs).map (Value.int .i64),by simpa using hr,by rw[Nw];exact Yf _ _ _⟩,_,rfl⟩;obtain⟨n,_,rfl⟩:=List.mem_map.1 hx;rfl
  | i+1,h1,_,_=>simp at h1
 have κ:xs=[]->∀p cap,v=.slice p 0 cap->Calls P (ρ.f 189) #[v] w λm w'=>∃u,m=.returned u/\AC w.heap.size (Km #[v] [.own 1 e (xs.map (D.int .i64))]) w w' /\
  Eu (λb=>w.heap.size<=b\/(Km #[v] [.own 1 e (xs.map (D.int .i64))] b/\¬Km #[v] [.own 1 e ((R2 xs).map (D.int .i64))] b)) (λb=>O b\/Km #[v] [.own 1 e ((R2 xs).map (D.int .i64))] b) w' u (.tup []) /\
  ∀(i:Nat) u' x y,#[v][i]?=θ u'->[AV.own 1 e (xs.map (D.int .i64))][i]?=θ x->[AV.own 1 e ((R2 xs).map (D.int .i64))][i]?=θ y->Wu (λb=>O b\/Km #[v] [.own 1 e ((R2 xs).map (D.int .i64))] b\/EZ u (.tup []) b) w' u' x y:=by
  intro B p cap d;subst B;have o:=Any.slices_Sort_int_none G p cap w;rw[<-d]at o;refine o.mono λm w' ⟨he,C⟩=>?_;subst C;apply fin he ⟨rfl,rfl,rfl,Zam _,λ_ _ _=>rfl⟩;simpa [R2] using f
 rcases f with r|⟨B,_,a,d⟩;rcases r.2 with⟨d,B⟩|⟨g,cap,cur,d,s,A,h1,h2,t,N⟩;exact κ (by simpa using B) _ _ d;rw[Zac]at h1 d;by_cases E:cap=0;have hx:xs=[]:=Zau z0;exact κ hx (θ ⟨g,0,Option.none⟩) cap (by rw[d,hx];rfl);have Q:=holds_of_blockI A (by simpa using N);have R:=(Array.getElem?_eq_some_iff.1 A).1;have o:=Any.slices_Sort_int G g 0 cap xs w Q R J;rw[<-d]at o;refine o.mono λm w' ⟨he,n,os,C⟩=>?_;have c:=grownBy_sortedI (w:=w) (g:=g) (n:=n) (os:=os) (xs.mergeSort λx y=>decide (x<=y)).toArray;rw[<-C]at c;refine fin he ⟨c.os,c.tape,c.output,c.size,λk S T=>c.block k S λF=>?_⟩ (.inl ?_);refine T ⟨0,v,_,rfl,rfl,rfl,?_⟩;rw[d];simp only[Ai,E,if_false];exact F.symm;have:=ownsRow_sortedI (w:=w) (base:=0) (g:=g) (cap:=cap) (n:=n) (e:=e) (os:=os) (cur:=cur) (ss:=xs) (ts:=R2 xs) (ay xs) s A h1 h2 t;rw[ay,C,d];exact this;exact κ (by simpa using B) _ _ d
open Go
theorem dC N f:∀n,Ξ (oM N n f)=n
 | 0=>rfl
 | n+1=>by simp[oM,dC N f n]
theorem kw N f:∀n i,n<=N->An (oM N n f) i=if i<n then f (N-n+i)else oV
 | 0,i,_=>by simp[oM,An]
 | n+1,0,h=>by
   show f (Nat.sub N (Nat.succ n))=_;simp
 | n+1,i+1,h=>by
   show An (oM N n f) i=_;rw[kw N f n i z0];by_cases e:i<n;rw[Zai e,Zai z0];congr 1;omega;rw[Zah e,Zah z0]
def Gh n l b i:An (C9 n l b) i=if i<n then D2 b i (ET l i)else oV:=by
 unfold C9;rw[kw _ _ _ _ (Zam _),Zes,Zbn]
def Py n l b:Ξ (C9 n l b)=n:=dC _ _ _
theorem Mh:∀b k v,(D2 b k v).av=v
 | [],_,_=>rfl
 | (t,x,n)::r,k,v=>by
   unfold D2
   cases Nat.beq t k<;>simp[Mh r]
section
variable {X:Cx} {G:Nat->Prop} {β β':Nat->Ψ} {S S':AS} {a a':Act} {w w':Λ}
def SimB.exit(h:SimB X G β S a w)(d:Nat->Prop)(B:Ξ S'=Ξ S)(K:a'.tmps.size=a.tmps.size)(L:a'.defers=[])
 (y:AC w.heap.size (λb=>∃i,d i/\(An S i).box.owned=ν/\Ai (β i)=θ b) w w')
 (c:∀i,¬d i->β' i=β i/\(An S' i).box=(An S i).box/\(An S' i).ver=(An S i).ver)
 (C:∀i,d i->(An S i).ver<(An S' i).ver\/((An S' i).ver=(An S i).ver/\β' i=β i))
 (l:∀i b,d i->(An S' i).box.owned=ν->Ai (β' i)=θ b->w.heap.size<=b\/((An S i).box.owned=ν/\Ai (β i)=θ b))
 (D:∀i j b,d i->d j->(An S' i).box.owned=ν->(An S' j).box.owned=ν->Ai (β' i)=θ b->Ai (β' j)=θ b->i=j)
 (E:∀i,d i->LZ β' (AU S') (OS β' X S') w' i (An S' i).box)
 (F:∀i,d i->(An S' i).ver≠0\/((An S' i).ver=(An S i).ver/\β' i=β i/\(An S i).box≠.none))
 (p:∀(t:Nat) v,a'.tmps[t]?=θ v->(An S' t).av=.any\/((An S' t).av=(An S t).av/\(An S t).av.guards=[]/\a.tmps[t]?=θ v)\/((An S' t).av.guards=[]/\NM β' (AU S') (OS β' X S') w' a'.tmps v (An S' t).av))
 (U:∀t,(An S' t).av.guards=[]):SimB X G β' S' a' w':=by
 have M:∀b,b<w.heap.size->OS β' X S' b->OS β X S b:=by
  rintro b r (h1|h1|⟨i,h1,h2⟩);exact .inl h1;exact .inr (.inl h1);by_cases f:d i;rcases l i b f h1 h2 with g|⟨g,o⟩;omega;exact .inr (.inr ⟨i,g,o⟩);have⟨m,n,_⟩:=c i f;exact .inr (.inr ⟨i,by rw[<-n];exact h1,by rw[<-m];exact h2⟩)
 have N:Cg (OS β X S) (OS β' X S') w w':=⟨y.size,M,λb r ho=>y.block b r λ⟨i,_,h1,h2⟩=>ho (.inr (.inr ⟨i,h1,h2⟩))⟩
 have T:∀i,AU S i<AU S' i\/(AU S' i=AU S i/\β' i=β i):=λi=>by
  by_cases f:d i;exact C i f;have⟨m,_,H⟩:=c i f;exact .inr ⟨H,m⟩
 refine⟨by rw[K,h.len,B],L,h.below.trans (y.weaken h.hbase λk N V=>?_),Zbl h.hbase y.size,h.o₀,λb I=>⟨(h.rs b I).1,Zbc (h.rs b I).2 y.size⟩,λt v W=>?_,λi=>?_,λi b h1 h2=>?_,λi j b h1 h2 g o=>?_,λt u J=>?_,λi h1 h2=>?_⟩;rintro⟨i,_,h1,h2⟩;rcases(h.mine i k h1 h2).1 with g|g;omega;exact V g;rcases p t v W with e|⟨e,n,H⟩|⟨_,e⟩;rw[e];trivial;rw[e];exact NM.mono N T (λu J=>by rw[n]at J;cases J) (h.slots t v H);exact e;by_cases f:d i;exact E i f;have⟨m,n,_⟩:=c i f;rw[n];refine LZ.mono N T m (λb r ho O=>y.block b r ?_) (h.boxes i);rintro⟨j,s,h1,h2⟩;exact f (h.inj i j b ho h1 O h2▸s);by_cases f:d i;rcases l i b f h1 h2 with g|⟨g,o⟩;exact⟨.inl (Zbl h.hbase g),λhr=>by have:=(h.rs b hr).2;omega⟩;exact h.mine i b g o;have⟨m,n,_⟩:=c i f;exact h.mine i b (by rw[<-n];exact h1) (by rw[<-m];exact h2)
 have x:∀i,¬d i->(An S' i).box.owned=ν->Ai (β' i)=θ b->(An S i).box.owned=ν/\Ai (β i)=θ b:=λi f h1 h2=>by
  have⟨m,n,_⟩:=c i f;exact⟨by rw[<-n];exact h1,by rw[<-m];exact h2⟩
 by_cases P:d i;by_cases s:d j;exact D i j b P s h1 h2 g o;have⟨z,A⟩:=x j s h2 o;rcases l i b P h1 g with q|⟨Q,R⟩;have:=h.blk z A;omega;exact h.inj i j b Q z R A;have⟨z,A⟩:=x i P h1 g;by_cases s:d j;rcases l j b s h2 o with q|⟨Q,R⟩;have:=h.blk z A;omega;exact h.inj i j b z Q A R;have⟨Y,Z⟩:=x j s h2 o;exact h.inj i j b z Y A Z;rw[U t]at J;cases J;by_cases f:d i;rcases F i f with g|⟨g,o,h5⟩;exact absurd h1 g;rw[o];exact h.ini i (by rw[<-g];exact h1) h5;have⟨m,n,H⟩:=c i f;rw[m];exact h.ini i (by rw[<-H];exact h1) (by rw[<-n];exact h2)
def SimB.exitRow{n q sz v}{e}{xs ys}{L}{B}(h:SimB X (λ_=>False) β (C9 n L B) a w)(K:Γ Nat)(s:q<n)(I:∀u,D2 B q u=⟨u,.row sz e xs,v⟩)(z:∀p∈L,p.2.guards=[])(T:a'.tmps.size=a.tmps.size)(U:a'.defers=[])(hK:∀k∈K,a'.tmps[k]?=a.tmps[k]?)(l:AC w.heap.size (λb=>Ai (β q)=θ b) w w')(A:∀y∈ys,Ξ y.cells=sz)(hr:∃vals,BM w' e sz (β q) (Ξ ys) vals/\∀O:Nat->Prop,(∀b,O b->OS β X (C9 n L B) b)->BC O w' vals (ys.flatMap D.cells)):
 SimB X (λ_=>False) β (C9 n (L.filter λp=>K.contains p.1) (B.map λp=>if p.1=q then(p.1,.row sz e ys,p.2.2)else p)) a' w':=by
 have J:∀k,ET (L.filter λp=>K.contains p.1) k=if K.contains k then ET L k else .any:=by
  intro k;clear z h hr
  induction L with
  | nil=>simp[ET]
  | cons p r ih=>
    have⟨t,x⟩:=p;rw[Zfg];by_cases A:K.contains t=ν;rw[Zai (by simpa using A)];unfold ET
    cases l:Nat.beq t k with
    | true=>
      have:=Zcc l;subst this;simp only[A,if_true]
    | false=>rw[ih]
    rw[Zah (by simpa using A),ih];by_cases g:K.contains k=ν
    have:Nat.beq t k=ξ:=by
     cases l:Nat.beq t k with
     | true=>rw[Zcc l]at A;exact absurd g A
     | false=>rfl
    conv=>rhs;unfold ET
    rw[this];rw[Zah g,Zah g]
 have C:∀B k u,D2 (B.map λp=>if p.1=q then(p.1,.row sz e ys,p.2.2)else p) k u=if k=q/\(∃p∈B,p.1=q)then⟨u,.row sz e ys,(D2 B k u).ver⟩else D2 B k u:=by
  intro B k u
  induction B with
  | nil=>simp[D2]
  | cons p r ih=>
    have⟨t,x,m⟩:=p;rw[Zas];by_cases Q:t=q;subst Q;simp[if_true];unfold D2
    cases l:Nat.beq t k with
    | true=>
      have:=Zcc l;subst this;simp
    | false=>
      have V:k≠t:=λe=>by subst e;simp at l
      rw[ih];simp[V]
    simp[Q,if_false];unfold D2
    cases l:Nat.beq t k with
    | true=>
      have:=Zcc l;subst this;rw[Zah λh=>Q h.1]
    | false=>
      have e1:(∃p∈(t,x,m)::r,p.1=q)↔∃p∈r,p.1=q:=⟨λ⟨p,E,s⟩=>by
       rcases List.mem_cons.1 E with W|W;rw[W]at s;exact absurd s Q;exact⟨p,W,s⟩,λ⟨p,E,s⟩=>⟨p,Zdn _ E,s⟩⟩
      rw[ih];simp only[e1]
 have M:∃p∈B,p.1=q:=by
  have h1:=I .any;clear C I hr h
  induction B with
  | nil=>simp[D2]at h1
  | cons p r ih=>
    have⟨t,x,m⟩:=p;unfold D2 at h1
    cases l:Nat.beq t q with
    | true=>exact⟨_,Zdg ..,Zcc l⟩
    | false=>
      rw[l]at h1;have⟨p,E,he⟩:=ih h1;exact⟨p,Zdn _ E,he⟩
 have o:∀i,An (C9 n (L.filter λp=>K.contains p.1) (B.map λp=>if p.1=q then(p.1,.row sz e ys,p.2.2)else p)) i=if i<n then(if i=q then⟨if K.contains i then ET L i else .any,.row sz e ys,v⟩else D2 B i (if K.contains i then ET L i else .any))else oV:=by
  intro i;rw[Gh,J,C];by_cases c:i<n;rw[Zai c,Zai c];by_cases d:i=q;subst d;rw[Zai ⟨rfl,M⟩,Zai rfl,I];rw[Zah λh=>d h.1,Zah d];rw[Zah c,Zah c]
 have Y:∀i u u',(D2 B i u).box=(D2 B i u').box/\(D2 B i u).ver=(D2 B i u').ver:=by
  intro i u u';clear C I hr h M o
  induction B with
  | nil=>exact⟨rfl,rfl⟩
  | cons p r ih=>
    have⟨t,x,m⟩:=p;unfold D2
    cases Nat.beq t i
    exact ih;exact⟨rfl,rfl⟩
 have f:An (C9 n L B) q=⟨ET L q,.row sz e xs,v⟩:=by rw[Gh,Zai s,I]
 have N:∀k,(ET L k).guards=[]:=by
  intro k;clear J h hr o f
  induction L with
  | nil=>rfl
  | cons p r ih=>
    have⟨t,x⟩:=p;unfold ET
    cases Nat.beq t k with
    | true=>exact z _ (Zdg ..)
    | false=>exact ih λp E=>z p (Zdn _ E)
 have P:∀i,(An (C9 n (L.filter λp=>K.contains p.1) (B.map λp=>if p.1=q then(p.1,.row sz e ys,p.2.2)else p)) i).av=if i<n then(if K.contains i then ET L i else .any)else .any:=by
  intro i;rw[o];by_cases c:i<n;rw[Zai c,Zai c];by_cases d:i=q;rw[Zai d];rw[Zah d,Mh];rw[Zah c,Zah c];rfl
 have F:∀i,i≠q->(An (C9 n (L.filter λp=>K.contains p.1) (B.map λp=>if p.1=q then(p.1,.row sz e ys,p.2.2)else p)) i).box=(An (C9 n L B) i).box/\(An (C9 n (L.filter λp=>K.contains p.1) (B.map λp=>if p.1=q then(p.1,.row sz e ys,p.2.2)else p)) i).ver=(An (C9 n L B) i).ver:=by
  intro i d;rw[o,Gh];by_cases c:i<n;rw[Zai c,Zai c,Zah d];exact Y _ _ _;rw[Zah c,Zah c];exact⟨rfl,rfl⟩
 have H:An (C9 n (L.filter λp=>K.contains p.1) (B.map λp=>if p.1=q then(p.1,.row sz e ys,p.2.2)else p)) q=⟨if K.contains q then ET L q else .any,.row sz e ys,v⟩:=by rw[o,Zai s,Zai rfl]
 refine h.exit (λi=>i=q) (by rw[Py,Py]) T U (l.weaken (Zam _) λk _ g=>λhh=>g ⟨q,rfl,by rw[f];rfl,hh⟩) (λi c=>⟨rfl,(F i c).1,(F i c).2⟩) (λi c=>by subst c;rw[H,f];exact .inr ⟨rfl,rfl⟩)
  (λi b c h1 h2=>by subst c;exact .inr ⟨by rw[f];rfl,h2⟩) (λi j b c R _ _ _ _=>c.trans R.symm) (λi c=>?_) (λi c=>by subst c;exact .inr ⟨by rw[H,f],rfl,by rw[f];simp⟩) (λt u hu=>?_) (λt=>?_)
 subst c;rw[H];have Z:=h.boxes i;rw[f]at Z;have⟨vals,h1,h2⟩:=hr;refine⟨Z.1,A,vals,h1,h2 _ ?_⟩;rintro b (h3|h3|⟨j,h3,h4⟩);exact .inl h3;exact .inr (.inl h3);refine .inr (.inr ⟨j,?_,h4⟩);by_cases R:j=i;subst R;rw[f];rfl;rw[<-(F j R).1];exact h3;rw[P];by_cases c:t<n;rw[Zai c];by_cases g:K.contains t=ν;rw[Zai g];refine .inr (.inl ⟨?_,?_,?_⟩);rw[Gh,Zai c,Mh];rw[Gh,Zai c,Mh];exact N t;rw[<-hK t (by simpa using g)];exact hu;rw[Zah g];exact .inl rfl;rw[Zah c];exact .inl rfl;rw[P];by_cases c:t<n;rw[Zai c];by_cases g:K.contains t=ν;rw[Zai g];exact N t;rw[Zah g];rfl;rw[Zah c];rfl
theorem RJ(K:Γ Nat):∀L k,ET (L.filter λp=>K.contains p.1) k=if K.contains k then ET L k else .any
 | [],k=>by simp[ET]
 | (t,x)::r,k=>by
   rw[Zfg];by_cases b:K.contains t=ν;rw[Zai (by simpa using b)];unfold ET
   cases hb:Nat.beq t k with
   | true=>
     have:=Zcc hb;subst this;simp only[b,if_true]
   | false=>rw[RJ K r]
   rw[Zah (by simpa using b),RJ K r];by_cases c:K.contains k=ν
   have:Nat.beq t k=ξ:=by
    cases hb:Nat.beq t k with
    | true=>rw[Zcc hb]at b;exact absurd c b
    | false=>rfl
   conv=>rhs;unfold ET
   rw[this];rw[Zah c,Zah c]
theorem gy t x:∀L k,(∀p∈L,p.1≠t)->ET (L++[(t,x)]) k=if k=t then x else ET L k
 | [],k,_=>by
   show ET [(t,x)] k=_;unfold ET
   cases hb:Nat.beq t k with
   | true=>rw[Zai (Zcc hb).symm]
   | false=>
     rw[Zah (λe=>by subst e;simp at hb)];rfl
 | (s,y)::r,k,h=>by
   show ET ((s,y)::(r++[(t,x)])) k=_;unfold ET
   cases hb:Nat.beq s k with
   | true=>
     have e:=Zcc hb;subst e;rw[Zah (h (s,y) (Zdg ..))]
   | false=>exact gy t x r k λp b=>h p (Zdn _ b)
theorem g7 q x m:∀B k u,(∀p∈B,p.1≠q)->D2 (B++[(q,x,m)]) k u=if k=q then⟨u,x,m⟩else D2 B k u
 | [],k,u,_=>by
   show D2 [(q,x,m)] k u=_;unfold D2
   cases hb:Nat.beq q k with
   | true=>rw[Zai (Zcc hb).symm]
   | false=>
     rw[Zah (λe=>by subst e;simp at hb)];rfl
 | (s,y,j)::r,k,u,h=>by
   show D2 ((s,y,j)::(r++[(q,x,m)])) k u=_;unfold D2
   cases hb:Nat.beq s k with
   | true=>
     have e:=Zcc hb;subst e;rw[Zah (h (s,y,j) (Zdg ..))]
   | false=>exact g7 q x m r k u λp b=>h p (Zdn _ b)
theorem jV q:∀B u,(∀p∈B,p.1≠q)->D2 B q u=⟨u,.none,0⟩
 | [],_,_=>rfl
 | (s,y,j)::r,u,h=>by
   unfold D2
   cases hb:Nat.beq s q with
   | true=>exact absurd (Zcc hb) (h (s,y,j) (Zdg ..))
   | false=>exact jV q r u λp b=>h p (Zdn _ b)
theorem az{L}(h:∀p∈L,p.2.guards=[])k:(ET L k).guards=[]:=by
 induction L with
 | nil=>rfl
 | cons p r ih=>
   have⟨t,x⟩:=p;unfold ET
   cases Nat.beq t k with
   | true=>exact h _ (Zdg ..)
   | false=>exact ih λp b=>h p (Zdn _ b)
theorem dD i u u' B:(D2 B i u).box=(D2 B i u').box/\(D2 B i u).ver=(D2 B i u').ver:=by
 induction B with
 | nil=>exact⟨rfl,rfl⟩
 | cons p r ih=>
   have⟨t,x,m⟩:=p;unfold D2
   cases Nat.beq t i
   exact ih;exact⟨rfl,rfl⟩
def SimB.exitNew{n q sz t}{e}{ys}{L}{B}{v}(h:SimB X (λ_=>False) β (C9 n L B) a w)(K:Γ Nat)(I:q<n)(V:t<n)(J:∀p∈B,p.1≠q)(N:∀p∈L,p.1≠t)(o:∀p∈L,p.2.guards=[])(C:a'.tmps.size=a.tmps.size)(E:a'.defers=[])(hK:∀k∈K,a'.tmps[k]?=a.tmps[k]?)(P:a'.tmps[t]?=θ v)(r:RowKit.Below w.heap.size w w')(Q:0<sz)(R:∀y∈ys,Ξ y.cells=sz)(x:∀b,Ai v=θ b->w.heap.size<=b)(hr:∃vals,BM w' e sz v (Ξ ys) vals/\∀O:Nat->Prop,BC O w' vals (ys.flatMap D.cells)):
 SimB X (λ_=>False) (Pn β q v) (C9 n ((L.filter λp=>K.contains p.1)++[(t,.sl q 1)]) (B++[(q,.row sz e ys,1)])) a' w':=by
 have F:∀p∈L.filter λp=>K.contains p.1,p.1≠t:=λp T=>N p (List.mem_filter.1 T).1
 have m:∀i,An (C9 n ((L.filter λp=>K.contains p.1)++[(t,.sl q 1)]) (B++[(q,.row sz e ys,1)])) i=if i<n then(if i=q then⟨if i=t then .sl q 1 else if K.contains i then ET L i else .any,.row sz e ys,1⟩else D2 B i (if i=t then .sl q 1 else if K.contains i then ET L i else .any))else oV:=by
  intro i;rw[Gh,gy _ _ _ _ F,RJ,g7 _ _ _ _ _ _ J]
 have H:An (C9 n L B) q=⟨ET L q,.none,0⟩:=by rw[Gh,Zai I,jV q B _ J]
 have f:(An (C9 n ((L.filter λp=>K.contains p.1)++[(t,.sl q 1)]) (B++[(q,.row sz e ys,1)])) q).box=.row sz e ys/\(An (C9 n ((L.filter λp=>K.contains p.1)++[(t,.sl q 1)]) (B++[(q,.row sz e ys,1)])) q).ver=1:=by
  rw[m,Zai I,Zai rfl];exact⟨rfl,rfl⟩
 have z:∀i,i≠q->(An (C9 n ((L.filter λp=>K.contains p.1)++[(t,.sl q 1)]) (B++[(q,.row sz e ys,1)])) i).box=(An (C9 n L B) i).box/\(An (C9 n ((L.filter λp=>K.contains p.1)++[(t,.sl q 1)]) (B++[(q,.row sz e ys,1)])) i).ver=(An (C9 n L B) i).ver:=by
  intro i g;rw[m,Gh];by_cases c:i<n;rw[Zai c,Zai c,Zah g];exact dD _ _ _ _;rw[Zah c,Zah c];exact⟨rfl,rfl⟩
 have A:∀i,(An (C9 n ((L.filter λp=>K.contains p.1)++[(t,.sl q 1)]) (B++[(q,.row sz e ys,1)])) i).av=if i<n then(if i=t then .sl q 1 else if K.contains i then ET L i else .any)else .any:=by
  intro i;rw[m];by_cases c:i<n;rw[Zai c,Zai c];by_cases g:i=q;rw[Zai g];rw[Zah g,Mh];rw[Zah c,Zah c];rfl
 refine h.exit (λi=>i=q) (by rw[Py,Py]) C E ⟨r.os,r.tape,r.output,r.size,λk l _=>r.block k l⟩ (λi c=>⟨by simp[Pn,c],(z i c).1,(z i c).2⟩) (λi c=>by subst c;rw[f.2,H];exact .inl (Nat.zero_lt_one))
  (λi b c h1 h2=>by subst c;exact .inl (x b (by simpa [Pn] using h2))) (λi j b c U _ _ _ _=>c.trans U.symm) (λi c=>?_) (λi c=>by subst c;exact .inl (by rw[f.2];exact Nat.one_ne_zero)) (λs u M=>?_) (λs=>?_)
 subst c;rw[f.1];have⟨vals,h1,h2⟩:=hr;exact⟨Q,R,vals,by simpa [Pn] using h1,h2 _⟩;rw[A];by_cases c:s<n;rw[Zai c];by_cases d:s=t;subst d;rw[Zai rfl];refine .inr (.inr ⟨rfl,?_⟩);have:=Zaf (M.symm.trans P);subst this;exact⟨by rw[AU];rw[f.2];exact Zam _,λ_=>by simp[Pn]⟩;rw[Zah d];by_cases l:K.contains s=ν;rw[Zai l];refine .inr (.inl ⟨?_,?_,?_⟩);rw[Gh,Zai c,Mh];rw[Gh,Zai c,Mh];exact az o s;rw[<-hK s (by simpa using l)];exact M;rw[Zah l];exact .inl rfl;rw[Zah c];exact .inl rfl;rw[A];by_cases c:s<n;rw[Zai c];by_cases d:s=t;rw[Zai d];rfl;rw[Zah d];by_cases l:K.contains s=ν;rw[Zai l];exact az o s;rw[Zah l];rfl;rw[Zah c];rfl
def SimB.exitApp{n q vb j sz m mv E}{e T}{xs ys}{L}{B}{cs}{u'}{cv}(h:SimB X (λ_=>False) β (C9 n L B) a w)(K:Γ Nat)(hq:q<n)(R:vb<n)(o:vb≠q)(hBq:∀u,D2 B q u=⟨u,.row sz e xs,m⟩)(hBv:∀u,D2 B vb u=⟨u,.var cs,mv⟩)(Z:∀p∈L,p.2.guards=[])(s:∀i u,i<n->D2 (B.map λp=>if p.1=q then(q,.row sz e ys,m+1)else if p.1=vb then(vb,.var (cs.set j (.sl q (m+1))),p.2.2)else p) i u=if i=q then⟨u,.row sz e ys,m+1⟩else if i=vb then⟨u,.var (cs.set j (.sl q (m+1))),mv⟩else D2 B i u)(hsz:a'.tmps.size=a.tmps.size)(hdf:a'.defers=[])(hK:∀k∈K,a'.tmps[k]?=a.tmps[k]?)(Y:β vb=.pointer (θ ⟨E,0,κ⟩))(hw0:w.heap[E]?=θ (.cells cv T (0,0)))(hw1:w'.heap[E]?=θ (.cells (cv.setIfInBounds j u') T (0,0)))(U:AC w.heap.size (λb=>Ai (β q)=θ b\/b=E) w w')(x:∀b,Ai u'=θ b->Ai (β q)=θ b\/w.heap.size<=b)(I:∀y∈ys,Ξ y.cells=sz)(hr:∃vals,BM w' e sz u' (Ξ ys) vals/\∀O:Nat->Prop,(∀b,b<w.heap.size->O b->OS β X (C9 n L B) b)->(∀b,w.heap.size<=b->O b->Ai u'=θ b)->BC O w' vals (ys.flatMap D.cells)):
 SimB X (λ_=>False) (Pn β q u') (C9 n (L.filter λp=>K.contains p.1) (B.map λp=>if p.1=q then(q,.row sz e ys,m+1)else if p.1=vb then(vb,.var (cs.set j (.sl q (m+1))),p.2.2)else p)) a' w':=by
 obtain⟨B',eB⟩:∃B',B'=B.map λp=>if p.1=q then(q,.row sz e ys,m+1)else if p.1=vb then(vb,.var (cs.set j (.sl q (m+1))),p.2.2)else p:=⟨_,rfl⟩;rw[<-eB]at s ⊢;obtain⟨S',eS⟩:∃S',S'=C9 n (L.filter λp=>K.contains p.1) B':=⟨_,rfl⟩;have J:∀i,An S' i=if i<n then D2 B' i (if K.contains i then ET L i else .any)else oV:=λi=>by rw[eS,Gh,RJ]
 rw[<-eS];have l:An (C9 n L B) q=⟨ET L q,.row sz e xs,m⟩:=by rw[Gh,Zai hq,hBq]
 have f:An (C9 n L B) vb=⟨ET L vb,.var cs,mv⟩:=by rw[Gh,Zai R,hBv]
 have z:(An S' q).box=.row sz e ys/\(An S' q).ver=m+1:=by rw[J,Zai hq,s q _ hq,Zai rfl];exact⟨rfl,rfl⟩
 have M:(An S' vb).box=.var (cs.set j (.sl q (m+1)))/\(An S' vb).ver=mv:=by rw[J,Zai R,s vb _ R,Zah o,Zai rfl];exact⟨rfl,rfl⟩
 have V:∀i,i≠q->i≠vb->(An S' i).box=(An (C9 n L B) i).box/\(An S' i).ver=(An (C9 n L B) i).ver:=by
  intro i h1 h2;rw[J,Gh];by_cases d:i<n;rw[Zai d,Zai d,s i _ d,Zah h1,Zah h2];exact dD _ _ _ _;rw[Zah d,Zah d];exact⟨rfl,rfl⟩
 have hav:∀i,(An S' i).av=if i<n then(if K.contains i then ET L i else .any)else .any:=by
  intro i;rw[J];by_cases d:i<n;rw[Zai d,Zai d,s i _ d];by_cases h1:i=q;rw[Zai h1];rw[Zah h1];by_cases h2:i=vb;rw[Zai h2];rw[Zah h2,Mh];rw[Zah d,Zah d];rfl
 have A:Pn β q u' q=u':=by simp[Pn]
 have g:∀i,i≠q->Pn β q u' i=β i:=λi d=>by simp[Pn,d]
 have hbv:=EF hw0;have hqv:Ai (β q)≠θ E:=λe=>o (h.inj vb q E (by rw[f];rfl) (by rw[l];rfl) (by rw[Y];rfl) e)
 have W:∀b,OS (Pn β q u') X S' b->(b<w.heap.size->OS β X (C9 n L B) b)/\(w.heap.size<=b->Ai u'=θ b):=by
  rintro b (h1|h1|⟨i,h1,h2⟩);exact⟨λ_=>.inl h1,λN=>by have:=(h.o₀ b h1).1;have:=h.hbase;omega⟩;exact⟨λ_=>.inr (.inl h1),λN=>by have:=(h.rs b h1).2;omega⟩;by_cases d:i=q;subst d;rw[A]at h2;refine⟨λr=>?_,λ_=>h2⟩;rcases x b h2 with P|P;exact .inr (.inr ⟨i,by rw[l];rfl,P⟩);omega;rw[g i d]at h2
  have ho:(An (C9 n L B) i).box.owned=ν:=by
   by_cases F:i=vb;rw[F,f];rfl;rw[<-(V i d F).1];exact h1
  exact⟨λ_=>.inr (.inr ⟨i,ho,h2⟩),λN=>by have:=h.blk ho h2;omega⟩
 refine h.exit (λi=>i=q\/i=vb) (by rw[eS,Py,Py]) hsz hdf (U.weaken (Zam _) λk _ Q=>?_) (λi d=>⟨g i λe=>d (.inl e),V i (λe=>d (.inl e)) λe=>d (.inr e)⟩)
  (λi d=>?_) (λi b d h1 h2=>?_) (λi j b d hj h1 h2 P h4=>?_) (λi d=>?_) (λi d=>?_) (λt u hu=>?_) (λt=>?_)
 rintro(hh|hh);exact Q ⟨q,.inl rfl,by rw[l];rfl,hh⟩;exact Q ⟨vb,.inr rfl,by rw[f];rfl,by rw[Y,hh];rfl⟩;rcases d with rfl|rfl;rw[z.2,l];exact .inl (Zds _);rw[M.2,f];exact .inr ⟨rfl,g _ o⟩;rcases d with rfl|rfl;rw[A]at h2;rcases x b h2 with P|P;exact .inr ⟨by rw[l];rfl,P⟩;exact .inl P;rw[g _ o]at h2;exact .inr ⟨by rw[f];rfl,h2⟩
 have hx:∀b,Ai (Pn β q u' q)=θ b->Ai (Pn β q u' vb)=θ b->False:=λb e1 e2=>by
  rw[A]at e1;rw[g vb o,Y]at e2;have e2:E=b:=by simpa [Ai] using e2
  subst e2;rcases x _ e1 with h5|h5;exact hqv h5;omega
 rcases d with rfl|rfl<;>rcases hj with rfl|rfl
 rfl;exact(hx b P h4).elim;exact(hx b h4 P).elim;rfl;rcases d with rfl|rfl;rw[z.1];have h0:=h.boxes i;rw[l]at h0;have⟨vals,h1,h2⟩:=hr;exact⟨h0.1,I,vals,by rw[A];exact h1,h2 _ (λb r U=>(W b U).1 r) λb N U=>(W b U).2 N⟩;rw[M.1];have h0:=h.boxes i;rw[f]at h0;have⟨b0,vals,T0,k1,k2,k3,k4⟩:=h0;rw[Y]at k1;have k1:E=b0:=by simpa using k1
 subst k1;rw[hw0]at k2;obtain⟨rfl,rfl⟩:cv=vals/\T=T0:=by simpa using k2
 refine⟨E,_,T,by rw[g i o];exact Y,hw1,by simp[k3],λt v c F I=>?_⟩;have hkk:Cg (OS β X (C9 n L B)) (OS (Pn β q u') X S') w w':=⟨U.size,λb r hb'=>(W b hb').1 r,λb r ho=>U.block b r λhh=>ho (hh.elim (λe=>.inr (.inr ⟨q,by rw[l];rfl,e⟩)) λe=>.inr (.inr ⟨i,by rw[f];rfl,by rw[Y,e];rfl⟩))⟩
 have hvr:∀H,AU (C9 n L B) H<AU S' H\/(AU S' H=AU (C9 n L B) H/\Pn β q u' H=β H):=λH=>by
  by_cases h1:H=q;subst h1;left;show(An _ _).ver<(An _ _).ver;rw[l,z.2];exact Zds _;by_cases h2:H=i;subst h2;right;exact⟨by show(An _ _).ver=(An _ _).ver;rw[f,M.2],g _ h1⟩;right;exact⟨(V H h1 h2).2,g _ h1⟩
 rw[Zbz]at I;rw[Zcr]at F;by_cases ht:j=t;subst ht;rw[Zai rfl]at I F;split at I;split at F
 cases I;cases F;exact⟨by show m+1<=(An S' q).ver;rw[z.2];exact Zam _,λ_=>by rw[A]⟩
 cases F
 cases I
 rw[Zah ht]at I F;exact(k4 t v c F I).mono hkk hvr;rcases d with rfl|rfl;exact .inl (by rw[z.2];exact Nat.succ_ne_zero _);exact .inr ⟨by rw[M.2,f],g _ o,by rw[f];simp⟩;rw[hav];by_cases d:t<n;rw[Zai d];by_cases Q:K.contains t=ν;rw[Zai Q];refine .inr (.inl ⟨?_,?_,?_⟩);rw[Gh,Zai d,Mh];rw[Gh,Zai d,Mh];exact az Z t;rw[<-hK t (by simpa using Q)];exact hu;rw[Zah Q];exact .inl rfl;rw[Zah d];exact .inl rfl;rw[hav];by_cases d:t<n;rw[Zai d];by_cases Q:K.contains t=ν;rw[Zai Q];exact az Z t;rw[Zah Q];rfl;rw[Zah d];rfl
end
open Go.Lib
open Go.RowKit (Below)
structure DW(w:World)(g cap n:Nat)(T:TypeId)(wr:World)(dk:Array Int):Prop where
 below:AC w.heap.size (λb=>b=g) w wr
 size:dk.size=n
 cells:∃cur,wr.heap[g]?=some (.cells cur T (0,0))/\cur.size=cap*1/\cur.toList.take n=dk.toList.map (Value.int .i64)
def DW.holds{w wr}{g cap n}{T}{a}(h:DW w g cap n T wr a):Holds (Value.int .i64) wr g 0 a:=by
 have⟨cur,h1,_,b⟩:=h.cells;have:=holds_of_blockI (ss:=a.toList) h1 (by rw[show Ξ a.toList=n from by simpa using h.size];exact b);rwa [Array.toArray_toList]at this
def DW.lt{w wr}{g cap n}{T}{a}(h:DW w g cap n T wr a):g<wr.heap.size:=by
 have⟨cur,h1,_,_⟩:=h.cells;exact(Array.getElem?_eq_some_iff.1 h1).1
def DW.call{w wr w'}{g cap n}{T}{a}(h:DW w g cap n T wr a)(b:Below wr.heap.size wr w'):DW w g cap n T w' a:=by
 refine⟨h.below.trans ((AC.of b).weaken h.below.size λ_ _ c=>c),h.size,?_⟩;have⟨cur,h1,h2,d⟩:=h.cells;exact⟨cur,by rw[b.block g h.lt];exact h1,h2,d⟩
def DW.store{w wr}{g cap n}{T}{a}(h:DW w g cap n T wr a){i}(f:i<n)(j:n<=cap)u:DW w g cap n T (wr.setCell ⟨g,i,κ⟩ (.int .i64 u)) (a.setIfInBounds i u):=by
 have⟨cur,h1,h2,c⟩:=h.cells;refine⟨⟨h.below.os,h.below.tape,h.below.output,by show w.heap.size<=(Array.modify _ _ _).size;rw[Array.size_modify];exact h.below.size,λk d b=>?_⟩,by simp[h.size],cur.setIfInBounds i (.int .i64 u),?_,by simp[h2],?_⟩;show(Array.modify _ _ _)[k]?=_;rw[Zex,Zah λe=>b e.symm];exact h.below.block k d b;show(Array.modify _ _ _)[g]?=_;rw[Zex,Zai rfl,h1];rfl;rw[Zdm,Zdm,Zbr,<-c,List.take_set]
theorem DW.clear{w}{g cap n}{T}(c:n<=cap):∀a{wr}{b}k,DW w g cap n T wr b->k+Ξ a<=n->DW w g cap n T (wr.setCells g k (a.map (Value.int .i64))) (lay b k a)
 | [],_,_,_,h,_=>h
 | z::r,wr,b,k,h,hk=>by
   rw[Zbq]at hk;exact DW.clear c r (k+1) (h.store z0 c z) z0
def DW.row{w wr}{g cap n}{T}{b}(h:DW w g cap n T wr b){R}(c:Ξ R<=n)(hd:b.toList.take (Ξ R)=R)(f:n<=cap)(a:cap<=maxLen):BM wr T 1 (.slice (θ ⟨g,0,κ⟩) (Ξ R) cap) (Ξ R) (R.map (Value.int .i64)):=by
 have⟨cur,h1,h2,d⟩:=h.cells;refine .inl ⟨zs,.inr ⟨g,cap,cur,rfl,Zag _,h1,z0,a,h2,?_⟩⟩;have e:cur.toList.take (Ξ R*1)=(cur.toList.take n).take (Ξ R):=by rw[List.take_take,Zdp c,Zdu]
 rw[e,d,<-List.map_take,hd]
def jN w:grow w #[]=w:=by simp[grow]
def gw(xs:Γ Int):Ξ (Lib.compact xs)<=Ξ xs:=by
 unfold Lib.compact Lib.compactUpTo;rw[Zac];exact Zbl (Zce _ _) zs
def xb{P}{ρ}(T:Lays2.n20 P ρ)(q:Hq P (ρ.f 20)=ν)e xs(hl:Ξ xs<4611686018427387904):
 Et P (ρ.f 20) [.own 1 e (xs.map (D.int .i64))] [.any] (.own 1 e ((Lib.compact xs).map (D.int .i64))):=by
 refine⟨q,rfl,λO w vs hO _ B X U r=>?_⟩
 obtain⟨v,rfl⟩:∃v,vs=#[v]:=by
  have⟨l⟩:=vs
  match l,B with
  | [v],_=>exact⟨v,rfl⟩
 have⟨_,_,vals,o,V⟩:=r 0 v _ rfl rfl;rw[Nw]at V;cases Yl V;have C:∀b,Ai v=θ b->Km #[v] [.own 1 e (xs.map (D.int .i64))] b:=λb A=>⟨0,v,_,rfl,rfl,rfl,A⟩
 have E:∀b,¬Km #[v] [.any] b:=by
  rintro b ⟨i,u,x,h1,h2,m,_⟩
  match i,h1,h2 with
  | 0,h1,h2=>simp at h2;subst h2;simp[AV.mut]at m
  | i+1,h1,h2=>simp at h1
 have fin:∀{w':Λ}{s:Ending}{u:Ψ},s=.returned u->(∀b,Ai u=θ b->Ai v=θ b)->AC w.heap.size (Km #[v] [.own 1 e (xs.map (D.int .i64))]) w w'->BM w' e 1 u (Ξ (Lib.compact xs)) ((Lib.compact xs).map (Value.int .i64))->
  ∃u,s=.returned u/\AC w.heap.size (Km #[v] [.own 1 e (xs.map (D.int .i64))]) w w' /\
  Eu (λb=>w.heap.size<=b\/(Km #[v] [.own 1 e (xs.map (D.int .i64))] b/\¬Km #[v] [.any] b)) (λb=>O b\/Km #[v] [.any] b) w' u (.own 1 e ((Lib.compact xs).map (D.int .i64))) /\
  ∀(i:Nat) u' x y,#[v][i]?=θ u'->[AV.own 1 e (xs.map (D.int .i64))][i]?=θ x->[AV.any][i]?=θ y->Wu (λb=>O b\/Km #[v] [.any] b\/EZ u (.own 1 e ((Lib.compact xs).map (D.int .i64))) b) w' u' x y:=by
  intro w' s u he I A hr;refine⟨u,he,A,⟨z0,λx hx=>?_,λb d=>.inr ⟨C b (I b d),E b⟩,_,by simpa using hr,by rw[Nw];exact Yf _ _ _⟩,λi u' x y h1 h2 m=>?_⟩;obtain⟨n,_,rfl⟩:=List.mem_map.1 hx;rfl
  match i,m with
  | 0,m=>simp at m;subst m;trivial
  | i+1,m=>simp at m
 have κ:xs=[]->∀p cap,v=.slice p 0 cap->Calls P (ρ.f 20) #[v] w λs w'=>∃u,s=.returned u/\AC w.heap.size (Km #[v] [.own 1 e (xs.map (D.int .i64))]) w w' /\
  Eu (λb=>w.heap.size<=b\/(Km #[v] [.own 1 e (xs.map (D.int .i64))] b/\¬Km #[v] [.any] b)) (λb=>O b\/Km #[v] [.any] b) w' u (.own 1 e ((Lib.compact xs).map (D.int .i64))) /\
  ∀(i:Nat) u' x y,#[v][i]?=θ u'->[AV.own 1 e (xs.map (D.int .i64))][i]?=θ x->[AV.any][i]?=θ y->Wu (λb=>O b\/Km #[v] [.any] b\/EZ u (.own 1 e ((Lib.compact xs).map (D.int .i64))) b) w' u' x y:=by
  intro F p cap f;subst F;have q:=Any.slices_Compact_int_empty T p cap w;rw[<-f]at q;refine q.mono λs w' ⟨he,G⟩=>?_;subst G;apply fin he (λ_ h=>h) ⟨rfl,rfl,rfl,Zam _,λ_ _ _=>rfl⟩;simpa [Lib.compact,Lib.compactUpTo] using o
 rcases o with t|⟨F,_,a,f⟩;rcases t.2 with⟨f,F⟩|⟨g,cap,cur,f,z,A,h1,h2,m,Y⟩;exact κ (by simpa using F) _ _ f;rw[Zac]at h1 f;by_cases J:cap=0;have hx:xs=[]:=Zau z0;exact κ hx (θ ⟨g,0,Option.none⟩) cap (by rw[f,hx];rfl);have Z:=holds_of_blockI A (by simpa using Y);have q:=Any.slices_Compact_int T g 0 cap xs w Z z0 h1;rw[<-f]at q;refine q.mono λs w' ⟨he,n,G⟩=>?_;have hcl:=gw xs;generalize H:Lib.compact xs++List.replicate (Ξ xs-Ξ (Lib.compact xs)) 0=ts at G;have K:Ξ ts=Ξ xs:=by rw[<-H];simp;omega
 have c:=grownBy_sortedI (w:=w) (g:=g) (n:=n) (os:=#[]) ts.toArray;rw[jN,<-G]at c;refine fin he (λb d=>?_) ⟨c.os,c.tape,c.output,c.size,λk hk hm=>c.block k hk λL=>?_⟩ (.inl ?_);rw[f];simpa [Ai] using d;refine hm ⟨0,v,_,rfl,rfl,rfl,?_⟩;rw[f];simp only[Ai,J,if_false];exact L.symm;have ho:=ownsRow_sortedI (w:=w) (base:=0) (g:=g) (cap:=cap) (n:=n) (e:=e) (os:=#[]) (cur:=cur) (ss:=xs) (ts:=ts) K z A h1 h2 m;rw[jN,<-G]at ho;refine⟨zs,.inr ?_⟩;rcases ho.2 with⟨h,_⟩|⟨g',W,j,M,d,N,hn',Q,R,S⟩
 cases h
 cases M
 refine⟨g,cap,j,rfl,d,N,z0,Q,R,?_⟩
 have:j.toList.take (Ξ (Lib.compact xs)*1)=(j.toList.take (Ξ xs*1)).take (Ξ (Lib.compact xs)*1):=by
  rw[List.take_take,Zdp z0]
 rw[this,S,<-H];simp;exact κ (by simpa using F) _ _ f
open Go.ChangeShapes Go.WideShapes
def wP{H}{enc}{P}{W}{base}{u}{C}{t e}{k}{v}{d:DataW H}{p}(Q:P.underlying t=θ (.slice e))(he:P.underlying e=θ (.int k))(R:P.cellsOf e=1)(S:∃a n c,v=.slice a n c)(h:DataW.Trod enc P W base u C t v d p):
 ∃xs:Γ Int,A5 (λ_=>False) W v (.list 1 (xs.map (D.int k)))/\Ξ xs<=maxLen/\∀n∈xs,(Lit.int k n).wf=ν:=by
 have⟨fuel,T⟩:=h;obtain⟨a0,o,U,rfl⟩:=S;rcases open_ints Q he R T with⟨f,_⟩|⟨x,l,c,r,f,_,V,Z,q,_,g,J⟩;obtain⟨rfl,rfl,rfl⟩:=f;exact⟨[],.emp _ _ _,by simp[maxLen],λn K=>by simp at K⟩;obtain⟨rfl,rfl,rfl⟩:=f;have X:o<=Ξ r:=by rw[q];split<;>omega
 refine⟨r.take o,?_,zv,λn K=>J n (Zbo K)⟩;have E:Ξ (r.take o)=o:=zv;by_cases N:o=0;subst N;exact .emp _ _ _;have⟨b,off,F⟩:=x;have G:=g 0 z0;have A:F=κ:=by simpa [Addr.add] using World.cell?_spot G
 subst A
 have Y:b<W.heap.size:=by
  rcases Zbk b W.heap.size with h|h;exact h;simp[World.cell?,Addr.add,Zct h]at G
 have B:Ξ ((r.take o).map (D.int k))=o:=by rw[Zac,E]
 have s:∀i y,((r.take o).map (D.int k))[i]?=θ y->i<o/\y=.int k (r.getD i 0):=by
  intro i y hy;rw[Zaz,Zbw]at hy;split at hy;rename_i L;refine⟨L,?_⟩;have I:i<Ξ r:=z0;simp[Zaa I]at hy;simp[List.getD,Zaa I,hy];simp at hy
 have key:=A5.list (O:=λ_=>False) (w:=W) b off U 1 ((r.take o).map (D.int k)) (λi _=>.int k (r.getD i 0)) (by intro h;rw[<-List.length_eq_zero_iff,B]at h;exact N h) Y (λh=>h) (by rw[B];exact V)
  (λy hy=>by obtain⟨m,_,rfl⟩:=List.mem_map.1 hy;rfl) (λy hy z q=>by obtain⟨m,_,rfl⟩:=List.mem_map.1 hy;simp[D.cells]at q;subst q;rfl)
  (λi y j z hy q=>by
   obtain⟨L,rfl⟩:=s i y hy;have M:j=0:=by cases j with|zero=>rfl|succ j=>simp[D.cells]at q
   subst M;have:=g i z0;rw[FC]at this;simpa using this)
  (λi y j z hy q=>by
   obtain⟨L,rfl⟩:=s i y hy;have M:j=0:=by cases j with|zero=>rfl|succ j=>simp[D.cells]at q
   subst M;simp[D.cells]at q;subst q;exact .int _ _)
 rw[B]at key;exact key
