/- M2 -/
import Derived.Test.YthifolbledpmkaaGreatDoorM1
import Derived.Laws.StructEq
import Derived.Laws.Concat
import Derived.Lib.ConvBytes
import Derived.Laws.CopyOwn
import Derived.Laws.OwnMore
import Derived.MapKept
open Option renaming some → θ, none → κ
open Bool renaming true → ν, false → ξ
open List renaming length → Ξ
set_option linter.all false
namespace Go.Abs
open Go.RowKit (Below)
def Av{c p}[Decidable c](h:if c then p else False):c/\p:=z5
section
variable {P:Η} {X:Cx} {G:Nat->Prop} {β:Nat->Ψ} {S:AS} {a:Act} {w:Λ} {o:Oper}
def Ys X G S a(e:J4)v w':=∃β',SimB X G β' (B5 e.bx S) a w'/\NM β' (AU (B5 e.bx S)) (OS β' X (B5 e.bx S)) w' a.tmps v e.av/\e.av.guards=[]
def EE P X G S a w o e:=(∃v w',(execOp a.eval o).run P w=.ok (.value v) w'/\Ys X G S a e v w')\/(∃w',(execOp a.eval o).run P w=.ok .skip w'/\Ys X G S a e undef w')\/(∃f args,(execOp a.eval o).run P w=.ok (.enter f args) w/\Calls P f args w λe' w'=>∃v,e'=.returned v/\Ys X G S a e v w')
def Ba(h:SimB X G β S a w){v}{x}(b:(execOp a.eval o).run P w=.ok (.value v) w)(hr:NM β (AU S) (OS β X S) w a.tmps v x)(c:x.guards=[]):EE P X G S a w o ⟨x,[],[]⟩:=
 .inl ⟨v,w,b,β,h,hr,c⟩
theorem SI{O}{tm}{v}{r}(h:U9 β O S w v r):NM β (AU S) O w tm v (back r)/\(back r).guards=[]:=by
 cases r with
 | any=>exact⟨trivial,rfl⟩
 | bot=>exact h.elim
 | d x=>exact⟨h,rfl⟩
 | lim sz xs=>exact⟨h,rfl⟩
 | tup xs=>exact⟨h,rfl⟩
 | cagg xs=>exact⟨h,rfl⟩
 | cfun f xs=>exact⟨h,rfl⟩
 | clo f xs k id n rid rn=>exact⟨h.1,rfl⟩
 | _=>have⟨_,h2,b⟩:=h;exact⟨⟨Zdr h2.symm,λ_=>b⟩,rfl⟩
def FS{O}{v}{b}(h:A5 O w v (.bool b)):v=.bool b:=by cases h;rfl
def AP{O}{v}{k}{n}(h:A5 O w v (.int k n)):v=.int k n:=by cases h;rfl
def Pd{O}{v}{s}(h:A5 O w v (.str s)):v=.string s:=by cases h;rfl
def be{O}{v}{x}(h:A5 O w v x)(h1:x.one=ν):v.oneCell'=ν:=by cases h<;>first|rfl|(simp[D.one]at h1)
def j9(h:SimB X G β S a w){g}(c:CZ g a){x}(ho:o.op=.move x\/o.op=.assign x):
 EE P X G S a w o ⟨back (ρOf S g x),[],[]⟩:=by
 have b:=SI (tm:=a.tmps) (ρ_sound h c x);refine Ba h (v:=a.eval x) ?_ b.1 b.2;rcases ho with ho|ho<;>simp[execOp,ho]
theorem t9(h:SimB X G β S a w){g}(k:CZ g a){t:Nat}{x y}(ho:o.op=.pick (.tmp t) x y){c d f}(l:ρOf S g (.tmp t)=.d (.bool c))(hx:ρOf S (θ (t,ν)) x=.d (.bool d))(hy:ρOf S (θ (t,ξ)) y=.d (.bool f)):
 EE P X G S a w o ⟨.d (.bool (bif c then d else f)),[],[]⟩:=by
 have h1:=ρ_sound h k (.tmp t);rw[l]at h1;have b:=FS h1
 have i:a.tmps[t]?=θ (.bool c):=by
  simp only[Act.eval,Array.getD]at b;split at b;simp_all;simp[undef]at b
 have j:(execOp a.eval o).run P w=.ok (.value (if c then a.eval x else a.eval y)) w:=by simp[execOp,ho,b,asBool]
 cases c with
 | true=>
   have h2:=ρ_sound h (g:=θ (t,ν)) (λm w' e=>by cases e;exact i) x;rw[hx]at h2;exact Ba h (v:=a.eval x) z5 h2 rfl
 | false=>
   have h2:=ρ_sound h (g:=θ (t,ξ)) (λm w' e=>by cases e;exact i) y;rw[hy]at h2;exact Ba h (v:=a.eval y) z5 h2 rfl
theorem pB(h:SimB X G β S a w){g}(j:CZ g a){t:Nat}{x y}(ho:o.op=.pick (.tmp t) x y){c d}(k:ρOf S g (.tmp t)=.d (.bool c))(hx:ρOf S (θ (t,ν)) x=.bot)(hy:ρOf S (θ (t,ξ)) y=.d (.bool d)):
 EE P X G S a w o ⟨.d (.bool d),[],[]⟩:=by
 have h1:=ρ_sound h j (.tmp t);rw[k]at h1;have b:=FS h1
 have f:a.tmps[t]?=θ (.bool c):=by
  simp only[Act.eval,Array.getD]at b;split at b;simp_all;simp[undef]at b
 have i:(execOp a.eval o).run P w=.ok (.value (if c then a.eval x else a.eval y)) w:=by simp[execOp,ho,b,asBool]
 cases c with
 | true=>
   have h2:=ρ_sound h (g:=θ (t,ν)) (λl w' e=>by cases e;exact f) x;rw[hx]at h2;exact h2.elim
 | false=>
   have h2:=ρ_sound h (g:=θ (t,ξ)) (λl w' e=>by cases e;exact f) y;rw[hy]at h2;exact Ba h (v:=a.eval y) z5 h2 rfl
theorem pC(h:SimB X G β S a w){g}(j:CZ g a){t:Nat}{x y}(ho:o.op=.pick (.tmp t) x y){c d}(k:ρOf S g (.tmp t)=.d (.bool c))(hx:ρOf S (θ (t,ν)) x=.d (.bool d))(hy:ρOf S (θ (t,ξ)) y=.bot):
 EE P X G S a w o ⟨.d (.bool d),[],[]⟩:=by
 have h1:=ρ_sound h j (.tmp t);rw[k]at h1;have b:=FS h1
 have f:a.tmps[t]?=θ (.bool c):=by
  simp only[Act.eval,Array.getD]at b;split at b;simp_all;simp[undef]at b
 have i:(execOp a.eval o).run P w=.ok (.value (if c then a.eval x else a.eval y)) w:=by simp[execOp,ho,b,asBool]
 cases c with
 | true=>
   have h2:=ρ_sound h (g:=θ (t,ν)) (λl w' e=>by cases e;exact f) x;rw[hx]at h2;exact Ba h (v:=a.eval x) z5 h2 rfl
 | false=>
   have h2:=ρ_sound h (g:=θ (t,ξ)) (λl w' e=>by cases e;exact f) y;rw[hy]at h2;exact h2.elim
def FC b off j:(⟨b,off,κ⟩:Addr).add j=⟨b,off+j,κ⟩:=by unfold Addr.add;split<;>simp_all
theorem ZN{R:Nat->Ψ->D->Prop}:∀(cs:Γ D) n,(∀j y,cs[j]?=θ y->∃c,R (n+j) c y)->
 ∃vs:Γ Ψ,Ξ vs=Ξ cs/\∀j v y,vs[j]?=θ v->cs[j]?=θ y->R (n+j) v y
 | [],n,_=>by simp_all
 | c::r,n,h=>by
   obtain⟨v,d⟩:=h 0 c zs;obtain⟨vs,b,hr⟩:=ZN r (n+1) (λj y hy=>by have:=h (j+1) y z5;rwa [show n+(j+1)=n+1+j by omega]at this);refine⟨v::vs,by simp[b],λj u y e hy=>?_⟩;grind
def UB{t}(h:SD P t=θ ν):(isAgg t).run P w=.ok ν w:=by
 unfold SD at h;unfold isAgg;split at h<;>simp_all[run_underlying]
def SE{t}(h:SD P t=θ ξ):(isAgg t).run P w=.ok ξ w:=by
 unfold SD at h;unfold isAgg;split at h;simp at h;simp at h;rename_i d hd _ _ b;simp only[Sem.run_bind,run_underlying b,Result.andThen_ok];rfl;simp at h
def bU{O}{t}{cs}{b off}{K}(hy:nQ P t cs K)(k:∀(j:Nat) y,cs[j]?=θ y->∃c,w.cell? ⟨b,off+j,κ⟩=θ c/\A5 O w c y/\y.one=ν):
 ∃x,K x/\∃v,(loadVar t ⟨b,off,κ⟩).run P w=.ok v w/\A5 O w v x:=by
 unfold nQ at hy;split at hy;rename_i d;split at hy;rename_i i l;rw[Ct]at hy;split at hy;rename_i e
 have⟨vs,m,hr⟩:=ZN (R:=λj c y=>w.cell? ⟨b,off+j,κ⟩=θ c/\A5 O w c y/\y.one=ν) (cs.take i.size) 0
  (λj y hy=>by
   rw[Zbn];refine k j y ?_;rw[Zbw]at hy;split at hy;exact hy
   cases hy)
 have f:∀j,j<Ξ vs->∃y,(cs.take i.size)[j]?=θ y:=λj h=>⟨_,Zaa z0⟩;refine⟨_,hy,.agg vs.toArray,?_,?_⟩
 have g:=run_loadCells_list (P:=P) w ⟨b,off,κ⟩ vs (λj v n=>by
  have h:j<Ξ vs:=z5;have⟨y,hy⟩:=f j h;have:=(hr j v y n hy).1;rw[Zbn]at this;rw[FC];exact this)
 rw[m,e]at g;simp[loadVar,UB d,sizeOf,typeInfo,l,g];refine .agg _ _ z5 ?_ ?_;intro x hx;have⟨j,h⟩:=List.mem_iff_getElem?.1 hx;grind;grind;grind;grind;rename_i d;split at hy;rename_i y r;have⟨c,h1,h2,_⟩:=k 0 y zs;refine⟨y,hy,c,?_,h2⟩;rw[Zcy]at h1;simp[loadVar,SE d,run_load,h1];grind;grind
def VX{t}{x}{b off}{v}(ho:o.op=.load t x)(hx:a.eval x=.pointer (θ ⟨b,off,κ⟩))(c:(loadVar t ⟨b,off,κ⟩).run P w=.ok v w):(execOp a.eval o).run P w=.ok (.value v) w:=by
 simp[execOp,ho,Instr.loadAt,hx,Instr.sureAddr,c]
theorem gX{O}{v}{cs}(h:A5 O w v (.ptr cs)):∃b off,v=.pointer (θ ⟨b,off,κ⟩)/\∀j y,cs[j]?=θ y->∃c,w.cell? ⟨b,off+j,κ⟩=θ c/\A5 O w c y/\y.one=ν:=by
 cases h with
 | ptr b off _ c e f h1 d hr=>grind
def nh(h:SimB X G β S a w){t}{x}(ho:o.op=.load t x){cs}(hr:A5 (OS β X S) w (a.eval x) (.ptr cs)){K:J4->Prop}(hy:nQ P t cs λx=>K ⟨.d x,[],[]⟩):∃e,K e/\EE P X G S a w o e:=by
 have⟨b,off,d,f⟩:=gX hr;have⟨i,hK,v,g,c⟩:=bU hy f;exact⟨_,hK,Ba h (VX ho d g) c rfl⟩
def SA(h:SimB X G β S a w){id}{cs}(e:(An S id).box=.var cs){b}(f:β id=.pointer (θ ⟨b,0,κ⟩)):
 ∃vals T,w.heap[b]?=θ (.cells vals T (0,0))/\vals.size=Ξ cs/\∀(j:Nat) v c,vals[j]?=θ v->cs[j]?=θ c->CI β (AU S) (OS β X S) w v c:=by
 have d:=h.boxes id;rw[e]at d;have⟨g,vals,T,h1,i,k,l⟩:=d;grind
theorem Zw(h:SimB X G β S a w):∀{l},X9 (σOf S) l=ν->∀c∈l,∀{v},CI β (AU S) (OS β X S) w v c->v.oneCell'=ν
 | [],_,_,b,_,_=>by grind
 | .d x::r,hr,c,b,v,hv=>by
   rcases List.mem_cons.1 b with rfl|b;exact be hv.1 hv.2;exact Zw h (l:=r) hr c b hv
 | .sl id n::r,hr,c,b,v,hv=>by
   simp only[X9]at hr;split at hr;rename_i f s k t m p;rcases List.mem_cons.1 b with rfl|b;have d:=σ_sound h hv;rw[p]at d;have⟨q,_,g⟩:=d;have e:=h.boxes f;rw[q]at e;have⟨_,_,vals,i,_⟩:=e;rw[g];rcases i with⟨_,⟨j,_⟩|⟨_,_,_,j,_⟩⟩|⟨_,_,_,j⟩<;>(rw[j];rfl);exact Zw h (l:=r) hr c b hv
   cases hr
 | .own _ _ _::_,hr,_,_,_,_=>by cases hr
def nj(h:SimB X G β S a w){t}{x}(ho:o.op=.load t x){id n off}{cs}(hr:U9 β (OS β X S) S w (a.eval x) (.vptr id n off cs)){K}(hy:yE P (σOf S) t (cs.drop off) K):∃e,K e/\EE P X G S a w o e:=by
 have⟨M,_,b,N,g⟩:=hr;have⟨vals,T,I,Z,O⟩:=SA h M N;unfold yE at hy;split at hy;rename_i d;split at hy;rename_i i Q;rw[Ct]at hy;have⟨s,hy⟩:=Av hy;have f:∀(j:Nat) v c,(((vals.toList).drop off).take i.size)[j]?=θ v->((cs.drop off).take i.size)[j]?=θ c->CI β (AU S) (OS β X S) w v c:=z5;have m:Ξ (((vals.toList).drop off).take i.size)=Ξ ((cs.drop off).take i.size):=z5
 have k:(execOp a.eval o).run P w=.ok (.value (.agg (((vals.toList).drop off).take i.size).toArray)) w:=by
  refine VX ho g ?_
  have z:=run_loadCells_list (P:=P) w ⟨b,off,κ⟩ (((vals.toList).drop off).take i.size) (λj v g=>by
   rw[Zbw]at g;split at g;rw[Zca]at g;rw[FC];simp[World.cell?,I];grind
   cases g)
  rw[m,s]at z;simp[loadVar,UB d,sizeOf,typeInfo,Q,z]
 have data:(EY (σOf S) ((cs.drop off).take i.size) λl b=>K ⟨.d (.agg l),b,[]⟩)->∃e,K e/\EE P X G S a w o e:=by
  intro hy;have⟨l,bx,hK,J,R,hl,A,U⟩:=NU h hy;have B:=U (((vals.toList).drop off).take i.size) m f;have⟨V,k2,k3⟩:=J.run h;have L:=B.now h J;refine⟨_,hK,.inl ⟨_,w,k,β,V,?_,rfl⟩⟩;refine .agg _ _ z5 (λy hy=>?_) (λj v y g hy=>(L.2 j v y (by simpa using g) hy).1);have⟨j,W⟩:=List.mem_iff_getElem?.1 hy;have p:j<Ξ (((vals.toList).drop off).take i.size):=z5;exact(L.2 j _ y (Zaa p) W).2
 split at hy;grind;rcases hy.go with hy|hy;grind;have⟨q,hK⟩:=Av hy;refine⟨_,hK,.inl ⟨_,w,k,β,h,⟨_,rfl,by simpa using m,λj u c hu A=>?_⟩,rfl⟩⟩;have D:=f j u c z5 A;exact⟨D,Zw h q c (Zbf A) D⟩;grind;rename_i d
 have key:∀c r,cs.drop off=c::r->∃v,(execOp a.eval o).run P w=.ok (.value v) w/\CI β (AU S) (OS β X S) w v c:=by
  intro c r hd
  have A:cs[off]?=θ c:=by
   have:(cs.drop off)[0]?=θ c:=z5;grind
  have p:off<vals.size:=z5;have E:vals[off]?=θ vals[off]:=z5;refine⟨vals[off],VX ho g ?_,O off _ c E A⟩;simp[loadVar,SE d,run_load,World.cell?,I,p]
 split at hy;rename_i y r hd;have⟨v,F,H⟩:=key _ _ hd;exact⟨_,hy,Ba h F H.1 rfl⟩;rename_i Y n' r hd;have⟨v,F,H⟩:=key _ _ hd;exact⟨_,hy,Ba h F H rfl⟩;grind;grind
def xW(h:SimB X G β S a w){id sz}{e}{xs}(t:(An S id).box=.row sz e xs){b m cap}(u:β id=.slice (θ ⟨b,0,κ⟩) m cap){i}{x}(hx:xs[i]?=θ x){j}{y}(hy:x.cells[j]?=θ y):∃c,w.cell? ⟨b,i*sz+j,κ⟩=θ c/\A5 (OS β X S) w c y/\y.one=ν:=by
 have d:=h.boxes id;rw[t]at d;have⟨h1,h2,vals,v,l⟩:=d;have n:0<Ξ xs:=z5;rcases v with⟨p,⟨f,z⟩|⟨g,q,cur,f,A,B,F,H,C,E⟩⟩|⟨z,_⟩;omega;rw[u]at f;simp at f;obtain⟨rfl,rfl,rfl⟩:=f;have r:=UK xs h2 i x j y hx hy;have k:i*sz+j<Ξ vals:=by rw[l.1];exact AG r
 have s:vals[i*sz+j]?=θ vals[i*sz+j]:=Zaa k;refine⟨vals[i*sz+j],?_,l.2 _ _ _ s r⟩;rw[<-s,<-E,Zda z5];simp[World.cell?,B];omega
def ni(h:SimB X G β S a w){t}{x}(ho:o.op=.load t x){id n sz i off}{e}{xs}(hr:U9 β (OS β X S) S w (a.eval x) (.eptr id n sz e xs i off)){K:J4->Prop}(hy:At xs i λx=>nQ P t (x.cells.drop off) λx=>K ⟨.d x,[],[]⟩):∃e,K e/\EE P X G S a w o e:=by
 have⟨g,_,b,m,cap,k,l⟩:=hr;have⟨_,y,c,hy⟩:=hy.go;simp only[Zaw]at c
 have⟨q,hK,v,p,f⟩:=bU (O:=OS β X S) (w:=w) (b:=b) (off:=i*sz+off) hy (λj y' d=>by
  simp only[Zca]at d;have:=xW h g k c d;rwa [<-Zfx]at this)
 exact⟨_,hK,Ba h (VX ho l p) f rfl⟩
def lB{t}(h:pW P t=ν):P.underlying t=θ .bool:=by
 unfold pW at h;grind
def D.sv:D->Ψ| .bool b=>.bool b| .int k n=>.int k n| .str s=>.string s| _=>undef
theorem kz{α:Type}{l}{n}{x:α}{r}(h:l.take n=x::r):l=x::l.drop 1:=by
 cases l with
 | nil=>simp at h
 | cons y q=>cases n with
   | zero=>simp at h
   | succ n=>grind
def NN O w(vs:Array Ψ)off(xs:Γ D):=∀(j:Nat) y,xs[j]?=θ y->∃v,vs[off+j]?=θ v/\A5 O w v y
def NN.drop{O}{vs}{off}{xs}(h:NN O w vs off xs)n:NN O w vs (off+n) (xs.drop n):=by
 intro j y hy;rw[Zca]at hy;have:=h (n+j) y hy;grind
def o9{t}{vs}{off}{xs}{O}(h:NN O w vs off xs)(c:(P.info? t).isSome=ν)(e:AJ P t<=Ξ xs):
 (SD P t=θ ν->(part t vs off).run P w=.ok (.agg (vs.extract off (off+AJ P t))) w)/\(SD P t=θ ξ->∀y r,xs=y::r->∃v,(part t vs off).run P w=.ok v w/\A5 O w v y):=by
 have⟨i,d⟩:=Option.isSome_iff_exists.1 c;refine⟨λb=>?_,λb y r hx=>?_⟩;simp[part,UB b,sizeOf,typeInfo,d,AJ];have⟨v,h1,h2⟩:=h 0 y z5;rw[Zcy]at h1;exact⟨v,by simp[part,SE b,h1],h2⟩
def NN.extract{O}{vs}{off n}{xs}(h:NN O w vs off xs):NN O w (vs.extract off (off+n)) 0 (xs.take n):=by
 intro j y hy;rw[Zbw]at hy;split at hy;rename_i b;have⟨v,h1,h2⟩:=h j y hy;grind
 cases hy
theorem w7 n{t}{xs ys}{K}(h:nu P n t xs ys K):SD P t≠κ:=by
 cases n with
 | zero=>exact h.elim
 | succ n=>
   unfold nu at h;unfold SD;grind
theorem Abr n{t}{xs ys}{K}(b:SD P t=θ ξ)(h:nu P n t xs ys K):∃x r y q,xs=x::r/\ys=y::q:=by
 cases n with
 | zero=>exact h.elim
 | succ n=>
   unfold nu at h;split at h;grind;grind;grind;rename_i d c;unfold SD at b;rw[c]at b;simp at b;grind
theorem bK{O}:∀n m,n<m->∀{t}{xs ys}{vs us}{K},nu P n t xs ys K->
 (SD P t=θ ν->NN O w vs 0 xs->NN O w us 0 ys->∃b,K b/\(Op.equalIn m t (.agg vs) (.agg us)).run P w=.ok b w) /\
 (SD P t=θ ξ->∀x y r q v u,xs=x::r->ys=y::q->A5 O w v x->A5 O w u y->∃b,K b/\(Op.equalIn m t v u).run P w=.ok b w)
 | 0,_,_,t,xs,ys,vs,us,K,h=>h.elim
 | n+1,0,hm,t,xs,ys,vs,us,K,h=>by omega
 | n+1,m+1,hm,t,xs,ys,vs,us,K,h=>by
   unfold nu at h;split at h;rename_i k g;refine⟨λd=>by unfold SD at d;rw[g]at d;simp at d,λ_ x y r q v u hx hy B i=>?_⟩;subst hx;subst hy;split at h;rename_i k1 R _ k2 T _ j e;simp at j e;obtain⟨rfl,_⟩:=j;obtain⟨rfl,_⟩:=e;have⟨L,M⟩:=Av h;subst L;rw[AP B,AP i];exact⟨_,M,run_equalIn_int w m t _ _ _ _ g⟩;grind;rename_i g;refine⟨λd=>by unfold SD at d;rw[g]at d;simp at d,λ_ x y r q v u hx hy B i=>?_⟩;subst hx;subst hy;split at h;rename_i R _ T _ j e;simp at j e;obtain⟨rfl,_⟩:=j;obtain⟨rfl,_⟩:=e;rw[FS B,FS i];exact⟨_,h,run_equalIn_bool' w m t _ _ g⟩;grind;rename_i g;refine⟨λd=>by unfold SD at d;rw[g]at d;simp at d,λ_ x y r q v u hx hy B i=>?_⟩;subst hx;subst hy;split at h;rename_i R _ T _ j e;simp at j e;obtain⟨rfl,_⟩:=j;obtain⟨rfl,_⟩:=e;rw[Pd B,Pd i];exact⟨_,h,run_equalIn_string w m t _ _ g⟩;grind;rename_i U g;refine⟨λ_ hx hy=>?_,λd=>by unfold SD at d;rw[g]at d;simp at d⟩;have⟨C,h⟩:=h
   have V:P.stoodInHeld t=ξ/\∀f∈U.toList,f.name ≠ "_"/\(P.info? f.type).isSome=ν/\f.offset+AJ P f.type<=Ξ xs/\f.offset+AJ P f.type<=Ξ ys:=by
    simp only[Adm,Zax,Zgc,Zem,decide_eq_true_eq,Zbt]at C;exact C
   have N:P.fieldsOf t=U:=by simp[Program.fieldsOf,g]
   have key:∀(l:Γ Field)(K:Ω->Prop),(∀f∈l,f.name ≠ "_"/\(P.info? f.type).isSome=ν/\f.offset+AJ P f.type<=Ξ xs/\f.offset+AJ P f.type<=Ξ ys)->List.rec (motive:=λ_=>(Ω->Prop)->Prop) (λK=>K ν)
    (λf _ ih K=>nu P n f.type ((xs.drop f.offset).take (AJ P f.type)) ((ys.drop f.offset).take (AJ P f.type)) λa=>ih λb=>K (a&&b)) l K->
    ∃b,K b/\(Op.eqFields m vs us l).run P w=.ok b w:=by
    intro l
    induction l with
    | nil=>intro K _ h;exact⟨_,h,rfl⟩
    | cons f r ih=>
      intro K W h;have⟨h1,h2,h3,h4⟩:=W f zs;have J:=h;have p:=hx.drop f.offset;have s:=hy.drop f.offset;rw[Zbn]at p s;have px:=o9 (P:=P) p h2 z5;have py:=o9 (P:=P) s h2 z5
      have Q:∃c E F,(part f.type vs f.offset).run P w=.ok E w/\(part f.type us f.offset).run P w=.ok F w/\(Op.equalIn m f.type E F).run P w=.ok c w/\List.rec (motive:=λ_=>(Ω->Prop)->Prop) (λK=>K ν)
       (λf _ ih K=>nu P n f.type ((xs.drop f.offset).take (AJ P f.type)) ((ys.drop f.offset).take (AJ P f.type)) λa=>ih λb=>K (a&&b)) r λb=>K (c&&b):=by
       cases d:SD P f.type with
       | none=>
         exact absurd d (w7 n J)
       | some ag=>
         cases ag with
         | true=>
           have⟨c,hc,hr⟩:=(bK n m z0 (vs:=vs.extract f.offset (f.offset+AJ P f.type)) (us:=us.extract f.offset (f.offset+AJ P f.type)) J).1 d p.extract s.extract;grind
         | false=>
           have⟨Y,r0,Z,q0,H,I⟩:=Abr n d J;have⟨E,j,e⟩:=px.2 d Y _ (kz H);have⟨F,e3,e4⟩:=py.2 d Z _ (kz I);have⟨c,hc,hr⟩:=(bK n m z0 (vs:=#[]) (us:=#[]) J).2 d Y Z r0 q0 E F H I e e4;grind
      have⟨c,E,F,j,e,e3,M⟩:=Q;have⟨b,z,A⟩:=ih _ (λf N=>W f (by simp[N])) M;refine⟨c&&b,z,?_⟩;simp only[Op.eqFields];rw[Zai h1];simp only[Sem.run_bind,j,e,e3,Result.andThen_ok]
      cases c with
      | true=>simpa using A
      | false=>simp
   have⟨b,z,A⟩:=key _ _ V.2 h;refine⟨b,z,?_⟩;rw[run_equalIn_struct w m t vs us z5 V.1,N];exact A;grind
def qD{c}{T U}{x y}(ho:o.op=.binOp c T x y U){s t}(d:a.eval x=.string s)(e:a.eval y=.string t){K}(b:qC c s t K):
 ∃z,K z/\(execOp a.eval o).run P w=.ok (.value z.sv) w/\(∀O':Nat->Prop,∀w':Λ,A5 O' w' z.sv z):=by
 cases c<;>simp only[qC]at b<;>first
  | exact b.elim
  | exact⟨_,b,by simp[D.sv,execOp,ho,d,e,eqGuard,binOp,Op.stringOp],λ_ _=>.bool _⟩
  | (have⟨f,b⟩:=b
     refine⟨_,b,?_,λ_ _=>.str _⟩;simp only[execOp,ho,d,e,eqGuard,Sem.run_bind,binOp];simp[D.sv,run_string_add_sum _ s t f])
def pe{d}{T U}{x y}(ho:o.op=.binOp d T x y U){O}{p q}(hx:A5 O w (a.eval x) p)(hy:A5 O w (a.eval y) q){K}(c:mI P T d p q K):
 ∃z,K z/\(execOp a.eval o).run P w=.ok (.value z.sv) w/\(∀O':Nat->Prop,∀w':Λ,A5 O' w' z.sv z):=by
 cases p<;>cases q<;>simp only[mI]at c
 case bool.bool b1 b2=>
  have e:=FS hx;have f:=FS hy;split at c;rename_i F;have H:=lB F
  cases d<;>first
   | exact c.elim
   | exact⟨_,c,by simp[D.sv,execOp,ho,e,f,eqGuard,binOp,Op.equal,Op.maxDepth,run_equalIn_bool' w 9999 T b1 b2 H],λ_ _=>.bool _⟩
  grind
 case int.int k m k' n=>
  have e:=AP hx;have f:=AP hy;have I:d=.shl\/d=.shr\/(d≠.shl/\d≠.shr):=z5;rcases I with rfl|rfl|⟨v,A⟩;simp only[cF]at c;have⟨B,c⟩:=c;have g:¬n<0:=z0;exact⟨_,c,by simp[D.sv,execOp,ho,e,f,eqGuard,binOp,Op.shift,g],λ_ _=>.int _ _⟩;simp only[cF]at c;have⟨B,c⟩:=c;have g:¬n<0:=z0;exact⟨_,c,by simp[D.sv,execOp,ho,e,f,eqGuard,binOp,Op.shift,g],λ_ _=>.int _ _⟩;have i:if k=k' then fg d k m n K else False:=by cases d<;>first|exact c|exact absurd rfl v|exact absurd rfl A
  clear c;obtain⟨rfl,c⟩:=Av i;clear i
  cases d <;> simp_all
  all_goals first
   | exact c.elim
   | exact⟨_,c,by simp[D.sv,execOp,ho,e,f,eqGuard,binOp,Op.intArith,Op.intCmp,Op.intBits],λ_ _=>by first|exact .int _ _|exact .bool _⟩
   | (have⟨B,c⟩:=c
      exact⟨_,c,by simp[D.sv,execOp,ho,e,f,eqGuard,binOp,Op.intDiv,B],λ_ _=>.int _ _⟩)
 case str.str s t=>exact qD ho (Pd hx) (Pd hy) c
 case agg.agg xs ys=>
  have⟨l,c⟩:=c;generalize e:a.eval x=vx at hx;generalize f:a.eval y=vy at hy
  cases hx with
  | agg vs _ E h1 hr=>
    cases hy with
    | agg us _ r J C=>
      have L:NN O w vs 0 xs:=λj z h=>⟨vs[j]'(by rw[E];exact AG h),by simp[show j<vs.size by rw[E];exact AG h],hr j _ z z5 h⟩;have M:NN O w us 0 ys:=λj z h=>⟨us[j]'(by rw[r];exact AG h),by simp[show j<us.size by rw[r];exact AG h],C j _ z z5 h⟩;have u:(eqGuard d T x y (.agg vs) (.agg us)).run P w=.ok () w:=run_eqGuard_agg w d T x y vs us l.1
      have agg:∀{K:Ω->Prop},nu P 12 T xs ys K->∃b,K b/\(Op.equalIn 10000 T (.agg vs) (.agg us)).run P w=.ok b w:=by
       intro K c;exact(bK 12 10000 z0 c).1 l.2 L M
      cases d<;>first|exact c.elim|skip
      have⟨b,hK,hr⟩:=agg c;refine⟨_,hK,?_,λ_ _=>.bool _⟩;simp only[execOp,ho,e,f,Sem.run_bind,u,Result.andThen_ok,run_eql_struct,hr,Sem.run_pure,D.sv];have⟨b,hK,hr⟩:=agg c;refine⟨_,hK,?_,λ_ _=>.bool _⟩;simp only[execOp,ho,e,f,Sem.run_bind,u,Result.andThen_ok,run_neq_struct,hr,Sem.run_pure,D.sv]
def pz(h:SimB X G β S a w){c}{T U}{x y}(ho:o.op=.binOp c T x y U){p q}(hx:A5 (OS β X S) w (a.eval x) p)(hy:A5 (OS β X S) w (a.eval y) q){K:J4->Prop}(d:mI P T c p q λx=>K ⟨.d x,[],[]⟩):∃e,K e/\EE P X G S a w o e:=by
 have⟨z,hK,b,f⟩:=pe ho hx hy d;exact⟨_,hK,Ba h b (f _ _) rfl⟩
def tA(h:SimB X G β S a w){f}{T}{x}(ho:o.op=.unOp f T x){p}(hx:A5 (OS β X S) w (a.eval x) p){K:J4->Prop}(d:unD f p λx=>K ⟨.d x,[],[]⟩):∃e,K e/\EE P X G S a w o e:=by
 cases f<;>cases p<;>simp only[unD]at d
 case not.bool b=>
  have c:=FS hx;exact⟨_,d,Ba h (v:=.bool !b) (by simp[execOp,ho,c,Op.unary]) (.bool _) rfl⟩
 case neg.int k n=>
  have c:=AP hx;exact⟨_,d,Ba h (v:=.int k (k.wrap (0-n))) (by simp[execOp,ho,c,Op.unary,Op.intArith]) (.int _ _) rfl⟩
 case xor.int k n=>
  have c:=AP hx;exact⟨_,d,Ba h (v:=.int k (k.wrap (BitVec.ofInt k.bits (if k.signed then -1 else k.max) ^^^ BitVec.ofInt k.bits n).toNat)) (by simp[execOp,ho,c,Op.unary,Op.intBits]) (.int _ _) rfl⟩
def kU(h:SimB X G β S a w){s t}{x}(ho:o.op=.convert s t x){k b}{n}(c:P.underlying t=θ (.int k))(e:∃d,P.underlying s=θ d)(hx:A5 (OS β X S) w (a.eval x) (.int b n)):EE P X G S a w o ⟨.d (.int k (k.wrap n)),[],[]⟩:=by
 have f:=AP hx;have⟨d,hd⟩:=e;exact Ba h (v:=.int k (k.wrap n)) (by simp[execOp,ho,f,convert,run_underlying c,run_underlying hd,Conv.intToInt]) (.int _ _) rfl
def U6{s}{x}{f}(ho:o.op=.fieldAddr s x f){c}(g:P.underlying s=θ (.struct c)){d}(h:c[f]?=θ d)(e:0<AJ P d.type){b off}(hx:a.eval x=.pointer (θ ⟨b,off,κ⟩)):(execOp a.eval o).run P w=.ok (.value (.pointer (θ ⟨b,off+d.offset,κ⟩))) w:=by
 unfold AJ at e;split at e;rename_i i j;have:i.size≠0:=z0;simp[execOp,ho,Instr.fieldAt,run_underlying g,h,hx,Instr.sureAddr,fieldPlace,sizeOf,typeInfo,j,this,FC];omega
def PS{t}(h:0<AJ P t):(sizeOf t).run P w=.ok (AJ P t) w:=by
 unfold AJ at h ⊢;split at h;rename_i i b;simp[sizeOf,typeInfo,b];omega
theorem ZT(h:SimB X G β S a w){t e}{x r}(ho:o.op=.indexAddr t x r)(A:P.underlying t=θ (.slice e)){sz}(q:sz=AJ P e)(f:0<sz){k}{i}(B:A5 (OS β X S) w (a.eval r) (.int k i)){xs}(hx:A5 (OS β X S) w (a.eval x) (.list sz xs)){K:J4->Prop}(hy:At xs i λx=>DY x.cells λl=>K ⟨.d (.ptr l),[],[]⟩):
 ∃e,K e/\EE P X G S a w o e:=by
 have C:=AP B;have⟨E,y,d,hy⟩:=hy.go;rw[Ct]at hy;have F:=AG d;generalize H:a.eval x=v at hx
 cases hx with
 | emp=>grind
 | list b off cap _ _ c I J L s u h1 g m=>
   refine⟨_,hy,?_⟩;have M:(sizeOf e).run P w=.ok sz w:=by rw[q]at f ⊢;exact PS f
   have n:i<(Ξ xs:Int):=z0;refine Ba h (v:=.pointer (θ ⟨b,off+i.toNat*sz,κ⟩)) ?_ ?_ rfl;simp[execOp,ho,Instr.indexAt,C,asIntOf,H,run_underlying A,E,n,M,FC];exact A5.ptr b (off+i.toNat*sz) y.cells (λj=>c i.toNat j) (λ_=>J) (λ_=>L) (λz p=>h1 y (Zbf d) z p) (λj z p=>g _ _ _ _ d p) λj z p=>m _ _ _ _ d p
def fK(h:SimB X G β S a w){t e}{x m}(ho:o.op=.indexAddr t x m)(q:P.underlying t=θ (.slice e)){k}{i}(r:A5 (OS β X S) w (a.eval m) (.int k i)){id n sz}{s}{xs}(j:sz=AJ P e)(hx:U9 β (OS β X S) S w (a.eval x) (.row id n sz s xs))(u:0<=i)(y:i.toNat<Ξ xs):
 EE P X G S a w o ⟨.eptr id n sz i.toNat 0,[],[]⟩:=by
 have z:=AP r;have⟨A,B,C⟩:=hx;have f:=h.boxes id;rw[A]at f;have⟨b,_,vals,hr,_⟩:=f;rcases hr with⟨c,⟨d,l⟩|⟨g,p,cur,d,_⟩⟩|⟨l,_⟩;omega;have E:(sizeOf e).run P w=.ok sz w:=by rw[j]at b ⊢;exact PS b
 have c:i<(Ξ xs:Int):=z0;refine Ba h (v:=.pointer (θ ⟨g,i.toNat*sz+0,κ⟩)) ?_ ⟨Zdr B.symm,λ_=>⟨g,_,_,d,rfl⟩⟩ rfl;simp[execOp,ho,Instr.indexAt,z,asIntOf,C,d,run_underlying q,u,c,E,FC];omega
def wo(h:SimB X G β S a w){x}{t}(ho:o.op=.call ⟨.builtin .len,#[x],#[t]⟩){n}(b:∃c cap,a.eval x=.slice c n cap){e}(d:P.underlying t=θ (.slice e)):
 EE P X G S a w o ⟨.d (.int .i64 n),[],[]⟩:=by
 have⟨c,cap,b⟩:=b;refine Ba h (v:=.int .i64 n) ?_ (.int _ _) rfl;simp[execOp,ho,resolve,invoke,builtin,Builtin.len_,b,run_underlying d,goInt]
def t4(h:SimB X G β S a w){x}{t}(ho:o.op=.call ⟨.builtin .len,#[x],#[t]⟩){s}(b:a.eval x=.string s)(c:P.underlying t=θ .string):EE P X G S a w o ⟨.d (.int .i64 s.size),[],[]⟩:=by
 refine Ba h (v:=.int .i64 s.size) ?_ (.int _ _) rfl;simp[execOp,ho,resolve,invoke,builtin,Builtin.len_,b,run_underlying c,goInt]
def ZS(h:SimB X G β S a w){x}{i}(ho:o.op=.extract x i){xs}(hx:U9 β (OS β X S) S w (a.eval x) (.tup xs)){y}(hy:xs[i]?=θ y):
 (∀z,y=.d z->EE P X G S a w o ⟨.d z,[],[]⟩)/\(∀id n,y=.sl id n->EE P X G S a w o ⟨.sl id n,[],[]⟩):=by
 have⟨vs,f,g,hr⟩:=hx;have b:i<vs.size:=z5;have c:(execOp a.eval o).run P w=.ok (.value vs[i]) w:=by simp[execOp,ho,Instr.extract,f,b]
 have d:=hr i vs[i] y (by simp[b]) hy;refine⟨λz e=>?_,λid n e=>?_⟩;subst e;exact Ba h c d rfl;subst e;exact Ba h c d rfl
def Qa(h:SimB X G β S a w){x}(ho:o.op=.nilCheck x){b:Addr}(hx:a.eval x=.pointer (θ b)){v}(hr:NM β (AU S) (OS β X S) w a.tmps (a.eval x) v)(c:v.guards=[]):
 EE P X G S a w o ⟨v,[],[]⟩:=by
 refine Ba h (v:=a.eval x) ?_ hr c;simp[execOp,ho,hx]
def fH(h:SimB X G β S a w){g:Δ (Nat×Ω)}(j:CZ g a){s:Υ}{x:Ly}{f:Nat}(ho:o.op=.fieldAddr s x f){c:Array Field}(k:P.underlying s=θ (.struct c)){d:Field}(p:c[f]?=θ d)
 (q:0<AJ P d.type) {K:J4->Prop} (hy:match ρOf S g x with
  | .bot=>K ⟨.bot,[],[]⟩
  | .vptr id n o _=>K ⟨.ptr id n (o+d.offset),[],[]⟩
  | .d (.ptr cs)=>DY (cs.drop d.offset) λl=>K ⟨.d (.ptr l),[],[]⟩
  | .eptr id n sz _ _ i o=>K ⟨.eptr id n sz i (o+d.offset),[],[]⟩
  | _=>False):∃e,K e/\EE P X G S a w o e:=by
 have hr:=ρ_sound h j x;split at hy;rename_i hx;rw[hx]at hr;exact hr.elim;rename_i id n off cs hx;rw[hx]at hr;have⟨_,h2,b,r,t⟩:=hr;exact⟨_,hy,Ba h (U6 ho k p q t) ⟨Zdr h2.symm,λ_=>⟨b,r,rfl⟩⟩ rfl⟩;rename_i cs hx;rw[hx]at hr;rw[Ct]at hy;have hr:A5 (OS β X S) w (a.eval x) (.ptr cs):=hr;have⟨b,off,h1,_⟩:=gX hr;refine⟨_,hy,Ba h (U6 ho k p q h1) ?_ rfl⟩;rw[h1]at hr;exact hr.drop _;rename_i id n sz e xs i off hx;rw[hx]at hr;have⟨_,h2,b,m,cap,r,t⟩:=hr;exact⟨_,hy,Ba h (U6 ho k p q t) ⟨Zdr h2.symm,λ_=>⟨b,m,cap,r,by rw[Zfx]⟩⟩ rfl⟩;grind
def fG(h:SimB X G β S a w){s t e}{x}(ho:o.op=.convert s t x){b}(q:P.underlying t=θ (.slice e))(he:P.underlying e=θ (.int .u8))(r:∃d,P.underlying s=θ d)(hx:A5 (OS β X S) w (a.eval x) (.str b)):EE P X G S a w o ⟨.d (.list 1 ((Lu b).map (D.int .u8))),[],[]⟩:=by
 have u:=Pd hx;have⟨d,hd⟩:=r;have m:Below w.heap.size w (Lib.bytesWorld w e b):=⟨rfl,rfl,rfl,by rw[Lib.bytesWorld_size];omega,λk v=>Lib.bytesWorld_at_old w e b k v⟩;have f:Ξ ((Lu b).map (D.int .u8))=b.size:=by simp[Lu]
 refine .inl ⟨.slice (θ ⟨w.heap.size,0,κ⟩) b.size (grownCap w b.size 0 e),Lib.bytesWorld w e b,?_,β,h.world m,?_,rfl⟩;simp only[execOp,ho,u,Sem.run_bind,Lib.run_convert_string_bytes w s t e b hd q he,Result.andThen_ok];rfl;show A5 _ _ _ _;by_cases l:(Lu b).map (D.int .u8)=[];have A:b.size=0:=by rw[<-f,l];rfl
 rw[l,A];exact .emp _ _ _;rw[<-f];refine .list w.heap.size 0 _ 1 _ (λi _=>.int .u8 (b.data.toList.getD i 0).toNat) l (by rw[Lib.bytesWorld_size];omega) (λB=>?_) (by rw[f];exact grownCap_ge w _ _ _) ?_ ?_ ?_ ?_;have:=h.os_lt B;omega;intro y hy;obtain⟨n,_,rfl⟩:=List.mem_map.1 hy;rfl;intro y hy z g;obtain⟨n,_,rfl⟩:=List.mem_map.1 hy;simp[D.cells]at g;subst g;rfl;intro i y j z hy g;have C:i<b.size:=z5;simp only[Zaz]at hy;obtain⟨n,_,rfl⟩:=Option.map_eq_some_iff.1 hy
 have p:j=0:=by
  have:=AG g;simp[D.cells]at this;exact this
 subst p;rw[show 0+i*1+0=i by omega];exact Lib.bytesWorld_cell w e b i C;intro i y j z hy g;simp only[Zaz,Lu]at hy;obtain⟨n,E,rfl⟩:=Option.map_eq_some_iff.1 hy;obtain⟨c,F,rfl⟩:=Option.map_eq_some_iff.1 E
 have p:j=0:=by
  have:=AG g;simp[D.cells]at this;exact this
 subst p;simp[D.cells]at g;subst g;rw[Zao,F];exact .int _ _
def kW(h:SimB X G β S a w){t}{x c}(ho:o.op=.index t x c)(d:P.underlying t=θ .string){k}{i}(f:A5 (OS β X S) w (a.eval c) (.int k i)){s}(hx:A5 (OS β X S) w (a.eval x) (.str s))(g:0<=i)(b:i.toNat<s.size):
 EE P X G S a w o ⟨.d (.int .u8 (Gi s i)),[],[]⟩:=by
 have j:=AP f;have l:=Pd hx;have m:s[i.toNat]?=θ (s[i.toNat]'b):=by simp[b]
 refine Ba h (v:=.int .u8 (Gi s i)) ?_ (.int _ _) rfl
 have e:Gi s i=((s[i.toNat]'b).toNat:Int):=by
  unfold Gi;congr 2;have n:i.toNat<Ξ s.data.toList:=by simp_all
  rw[Zao,Zaa n];simp;rfl
 simp[execOp,ho,Instr.index,j,asIntOf,l,run_underlying d,g,m,e]
def UT(h:SimB X G β S a w){g}(c:CZ g a){y}{b}{K}(hy:oT (ρOf S g) y b K):
 ∃i,K i/\(y=κ/\i=b\/∃q k,y=θ q/\a.eval q=.int k i):=by
 unfold oT at hy;split at hy;grind;rename_i q;split at hy;rename_i k i d;have:=ρ_sound h c q;rw[d]at this;exact⟨i,hy,.inr ⟨q,k,rfl,AP this⟩⟩;grind
def PR{k}{i:Int}{y:Nat}{code}(b:0<=i)(h1:i<=y):(Instr.sliceBound (.int k i) y code).run P w=.ok i.toNat w:=by
 simp[Instr.sliceBound,asIntOf,b,h1]
def Zx{isSlice}{len cap:Nat}{lo c}{l h:Int}(j:lo=κ/\l=0\/∃q k,lo=θ q/\a.eval q=.int k l)(m:c=κ/\h=len\/∃q k,c=θ q/\a.eval q=.int k h)(d:0<=l)(h1:l<=h)(h2:h<=len)(r:len<=cap):
 (Instr.sliceBounds isSlice len cap (lo.map a.eval) (c.map a.eval) κ).run P w=.ok (l.toNat,h.toNat,cap) w:=by
 rcases j with⟨rfl,rfl⟩|⟨q,k,rfl,f⟩<;>rcases m with⟨rfl,rfl⟩|⟨s,g,rfl,b⟩
 simp[Instr.sliceBounds];have e:=PR (P:=P) (w:=w) (k:=g) (i:=h) (y:=cap) (code:=if isSlice then .sliceAcap else .sliceAlen) z0 z0;simp[Instr.sliceBounds,b,e];have e:=PR (P:=P) (w:=w) (k:=k) (i:=l) (y:=len) (code:=.sliceB) d z0;simp[Instr.sliceBounds,f,e];have n:=PR (P:=P) (w:=w) (k:=g) (i:=h) (y:=cap) (code:=if isSlice then .sliceAcap else .sliceAlen) z0 z0;have p:=PR (P:=P) (w:=w) (k:=k) (i:=l) (y:=h.toNat) (code:=.sliceB) d z0;simp[Instr.sliceBounds,f,b,n,p]
def o8{isSlice}{len cap:Nat}{lo c}{l h}{m}{d}(e:a.eval m=.int d h)(j:lo=κ/\l=0\/∃q k,lo=θ q/\a.eval q=.int k l)(n:∃q k,c=θ q/\a.eval q=.int k h)(p:0<=l)(h1:l<=h)(h2:h<=cap):
 (Instr.sliceBounds isSlice len cap (lo.map a.eval) (c.map a.eval) (θ (a.eval m))).run P w=.ok (l.toNat,h.toNat,h.toNat) w:=by
 obtain⟨u,r,rfl,b⟩:=n;have f:=PR (P:=P) (w:=w) (k:=d) (i:=h) (y:=cap) (code:=if isSlice then .slice3Acap else .slice3Alen) z0 h2;have g:=PR (P:=P) (w:=w) (k:=r) (i:=h) (y:=h.toNat) (code:=.slice3B) z0 z0;rcases j with⟨rfl,rfl⟩|⟨q,k,rfl,s⟩;simp[Instr.sliceBounds,b,e,f,g];have t:=PR (P:=P) (w:=w) (k:=k) (i:=l) (y:=h.toNat) (code:=.slice3C) p z0;simp[Instr.sliceBounds,s,b,e,f,g,t]
def rj{α}{xs}{l h}{i}{y:α}(hy:(Ia xs l h)[i]?=θ y):xs[l.toNat+i]?=θ y:=by
 unfold Ia at hy;grind
def fE{α}{xs:Γ α}{l h:Int}(b:0<=l)(h1:l<=h)(h2:h<=Ξ xs):Ξ (Ia xs l h)=h.toNat-l.toNat:=by
 unfold Ia;simp;omega
theorem im{O}{k}{sz}{xs}{len cap m}(hx:A5 O w (.slice k len cap) (.list sz xs)){l h:Int}(r:0<=l)(h1:l<=h)(h2:h<=Ξ xs)(v:h.toNat<=m):
 A5 O w (.slice (if m=l.toNat then k else k.map (·.add (l.toNat*sz))) (h.toNat-l.toNat) (m-l.toNat)) (.list sz (Ia xs l h)):=by
 have e:=fE r h1 h2;by_cases he:h.toNat-l.toNat=0;have:Ia xs l h=[]:=Zau z5;rw[this,he];exact .emp _ _ _;rw[Zah z0]
 cases hx with
 | emp=>grind
 | list b off _ _ _ c s t u q f n d g=>
   simp only[Zer,FC];rw[<-e]
   refine A5.list b (off+l.toNat*sz) (m-l.toNat) sz (Ia xs l h) (λi j=>c (l.toNat+i) j) z5 t u (by rw[e];omega)
    (λy hy=>f y (Zdf (Zbo hy))) (λy hy=>n y (Zdf (Zbo hy))) (λi y j z hy p=>?_) (λi y j z hy p=>g _ _ _ _ (rj hy) p)
   have:=d _ _ _ _ (rj hy) p;grind
theorem qq{O}{v}{sz}{xs}(h:A5 O w v (.list sz xs)):∃e cap,v=.slice e (Ξ xs) cap/\Ξ xs<=cap:=by
 cases h with
 | emp a cap _=>simp_all
 | list b off cap _ _ c f g i d _ _ _ _=>grind
theorem R9(h:SimB X G β S a w){g}(j:CZ g a){t e}{x}{lo n p}(ho:o.op=.slice t x lo n p)(y:P.underlying t=θ (.slice e)){sz}(s:sz=AJ P e)(c:0<sz){xs}{bx}(E:FZ S [] bx)(hx:A5 (OS β X (B5 bx S)) w (a.eval x) (.list sz xs)){K}(hy:Rx (ρOf S g) sz xs lo n p bx K):∃e,K e/\EE P X G S a w o e:=by
 have⟨z,_,_⟩:=E.run h;have⟨l,hy,A⟩:=UT h j hy;have⟨r,hy,hr⟩:=UT h j hy;have⟨J,cap,i,f⟩:=qq hx;have B:(sizeOf e).run P w=.ok sz w:=by rw[s]at c ⊢;exact PS c
 cases p with
 | none=>
   have⟨⟨d,h1,h2⟩,hK⟩:=hy;have u:=Zx (P:=P) (w:=w) (a:=a) (isSlice:=ν) (len:=Ξ xs) (cap:=cap) A hr d h1 h2 f;rw[i]at hx;refine⟨_,hK,.inl ⟨_,w,?_,β,z,im (m:=cap) hx d h1 h2 z0,rfl⟩⟩;simp[execOp,ho,Instr.sliceAt,Instr.slice,i,run_underlying y,u,B]
 | some m=>
   simp only at hy;split at hy;grind;rename_i F;split at hy;rename_i L C H;have⟨⟨d,h1,h2,I⟩,hK⟩:=hy;subst I;have b:=ρ_sound h j m;rw[H]at b;have b:=AP b
   have v:∃q k,n=θ q/\a.eval q=.int k C:=by
    grind
   have u:=o8 (P:=P) (w:=w) (a:=a) (isSlice:=ν) (len:=Ξ xs) (cap:=cap) b A v d h1 z0;rw[i]at hx;have hd:=im (m:=C.toNat) hx d h1 h2 (Zam _);refine⟨_,hK,.inl ⟨_,w,?_,β,z,⟨hd,?_⟩,rfl⟩⟩;simp[execOp,ho,Instr.sliceAt,Instr.slice,i,run_underlying y,u,B];simp only[Yx];rw[fE d h1 h2];grind
def dj(h:SimB X G β S a w){x y}{ts}{b}(ho:o.op=.call ⟨.builtin b,#[x,y],ts⟩){k f}{m n}(hx:A5 (OS β X S) w (a.eval x) (.int k m))(hy:A5 (OS β X S) w (a.eval y) (.int f n)):
 (b=.min->EE P X G S a w o ⟨.d (.int k (if n<m then n else m)),[],[]⟩)/\(b=.max->EE P X G S a w o ⟨.d (.int k (if n>m then n else m)),[],[]⟩):=by
 have c:=AP hx;have d:=AP hy;refine⟨λe=>?_,λe=>?_⟩;subst e;refine Ba h (v:=.int k (if n<m then n else m)) ?_ (.int _ _) rfl;simp[execOp,ho,resolve,invoke,builtin,Builtin.min_,Builtin.min2,c,d];subst e;refine Ba h (v:=.int k (if n>m then n else m)) ?_ (.int _ _) rfl;simp[execOp,ho,resolve,invoke,builtin,Builtin.max_,Builtin.max2,c,d]
end
section lists
variable {O:Nat->Prop} {w:Λ}
def BC.append{vs us}{xs ys}(h:BC O w vs xs)(k:BC O w us ys):BC O w (vs++us) (xs++ys):=by
 refine⟨by simp[h.1,k.1],λj v y b hy=>?_⟩;rcases Zbk j (Ξ vs) with a|a;rw[Zba a]at b;rw[Zba (by rw[<-h.1];exact a)]at hy;exact h.2 j v y b hy;rw[Zat a]at b;rw[Zat (by rw[<-h.1];exact a),<-h.1]at hy;exact k.2 _ v y b hy
def BC.take{vs}{xs}(h:BC O w vs xs)n:BC O w (vs.take n) (xs.take n):=by
 refine⟨by simp[h.1],λj v y a hy=>?_⟩;rw[Zbw]at a hy;split at a;rename_i b;rw[Zai b]at hy;exact h.2 j v y a hy
 cases a
def BC.drop{vs}{xs}(h:BC O w vs xs)n:BC O w (vs.drop n) (xs.drop n):=by
 refine⟨by simp[h.1],λj v y a hy=>?_⟩;rw[Zca]at a hy;exact h.2 _ v y a hy
def BC.nil:BC O w [] []:=⟨rfl,λj v y h _=>by simp at h⟩
def BC.one{v}{x}(h:A5 O w v x)(h1:x.one=ν):BC O w [v] [x]:=by
 refine⟨rfl,λj u y a hy=>?_⟩;grind
theorem Jv{v}{x}(h:A5 O w v x):BC O w v.cells.toList x.cells:=by
 cases h with
 | agg vs xs g h1 h=>
   refine⟨by simpa [Value.cells,D.cells] using g,λj v y p hy=>?_⟩;simp only[Value.cells,Zcp]at p;simp only[D.cells]at hy;grind
 | bool b=>exact BC.one (.bool b) rfl
 | int k n=>exact BC.one (.int k n) rfl
 | str s=>exact BC.one (.str s) rfl
 | fn f vs xs g h1 h=>exact BC.one (.fn f vs xs g h1 h) rfl
 | ptr b off cs c i l h1 d h=>exact BC.one (.ptr b off cs c i l h1 d h) rfl
 | nil sz=>exact BC.one (.nil sz) rfl
 | emp a cap sz=>exact BC.one (.emp a cap sz) rfl
 | list b off cap sz xs c m i l e o h1 d h=>exact BC.one (.list b off cap sz xs c m i l e o h1 d h) rfl
def BC.oneCell{vs}{xs}(h:BC O w vs xs):∀v∈vs,v.oneCell'=ν:=by
 intro v b;have⟨j,c⟩:=List.mem_iff_getElem?.1 b
 have a:j<Ξ xs:=by
  rw[<-h.1];grind
 have:=h.2 j v xs[j] c (Zaa a);exact be this.1 this.2
theorem Hm{α}:∀cs o (ys:Γ α),o<=Ξ cs->splice cs o ys=cs.take o++ys++cs.drop (o+Ξ ys)
 | cs,0,ys,_=>by simp[splice]
 | [],o+1,ys,h=>by grind
 | c::cs,o+1,ys,h=>by
   rw[splice,Hm cs o ys z5];grind
def BC.splice{vs us:Γ Ψ}{xs ys:Γ D}(h:BC O w vs xs)(k:BC O w us ys){o:Nat}(ho:o<=Ξ xs):
 BC O w (vs.take o++us++vs.drop (o+Ξ us)) (splice xs o ys):=by
 rw[Hm _ _ _ ho,k.1];exact((h.take o).append k).append (h.drop _)
end lists
section
variable {P:Η} {X:Cx} {G:Nat->Prop} {β:Nat->Ψ} {S:AS} {a:Act} {w:Λ} {o:Oper}
def QG b:Below w.heap.size w (w.alloc b):=(Below.refl _ _).alloc (Zam _) _
def lL(h:SimB X G β S a w){d}(hd:d<Ξ S){vals}{T}{cs}(m:vals.size=Ξ cs)(n:∀(j:Nat) v c,vals[j]?=θ v->cs[j]?=θ c->CI β (AU S) (OS β X S) w v c):
 ∃f,SimB X G f (Bp S d (.var cs) ((An S d).ver+1)) a (w.alloc (.cells vals T)) /\
  NM f (AU (Bp S d (.var cs) ((An S d).ver+1))) (OS f X (Bp S d (.var cs) ((An S d).ver+1))) (w.alloc (.cells vals T)) a.tmps (.pointer (θ ⟨w.heap.size,0,κ⟩)) (.ptr d ((An S d).ver+1) 0):=by
 refine⟨Pn β d (.pointer (θ ⟨w.heap.size,0,κ⟩)),h.rebox (R':=X.R) (λ_ h=>h) hd (.inl (Zds _)) zs ((AC.of (QG _)).weaken h.hbase λ_ _ h=>h) (λb e _=>heap_alloc_old w _ b e)
  (λ_ b e=>⟨.inr (.inl (by simp[Ai]at e;omega)),λhr=>by simp[Ai]at e;have:=(h.rs b hr).2;omega⟩) (λk g=>⟨w.heap.size,vals,T,by simp[Pn],heap_alloc_new w _,m,λj v c i l=>(n j v c i l).mono k g⟩),?_⟩
 have g:AU (Bp S d (.var cs) ((An S d).ver+1)) d=(An S d).ver+1:=by simp[AU,CG,hd]
 exact⟨by rw[g];exact Zam _,λ_=>⟨w.heap.size,by simp[Pn],rfl⟩⟩
def xe(h:SimB X G β S a w){d}(hd:d<Ξ S){n}(r:(An S d).ver<n){R'}(q:∀b,R' b->X.R b){w'}(l:Below w.heap.size w w'){v}{sz}{e}{xs}{vals}(m:0<sz)(s:∀x∈xs,Ξ x.cells=sz)(hr:BM w' e sz v (Ξ xs) vals)(f:∀b,Ai v=θ b->(w.heap.size<=b\/X.R b)/\¬R' b)(t:BC (λb=>OS β X S b\/Ai v=θ b) w' vals (xs.flatMap D.cells)):
 ∃g,SimB (X.less R') G g (Bp S d (.row sz e xs) n) a w'/\g=Pn β d v /\
  NM g (AU (Bp S d (.row sz e xs) n)) (OS g (X.less R') (Bp S d (.row sz e xs) n)) w' a.tmps v (.sl d n):=by
 refine⟨Pn β d v,h.rebox q hd (.inl r) l.size ((AC.of l).weaken h.hbase λ_ _ h=>h) (λb f _=>l.block b f) (λ_ b j=>⟨.inr (f b j).1,(f b j).2⟩) λk _=>⟨m,s,vals,?_,?_⟩,rfl,?_⟩;simp only[Pn,if_true];exact hr;refine t.mono (Cg.of_sub λb c=>?_);rcases c with c|c|⟨i,h1,h2⟩;exact .inl (.inl c);exact .inl (.inr (.inl (q b c)));rw[CG]at h1;split at h1;rename_i p;rw[p.1]at h2;simp[Pn]at h2;exact .inr h2;rename_i p;have u:i≠d:=λy=>p ⟨y,hd⟩;simp[Pn,u]at h2;exact .inl (.inr (.inr ⟨i,h1,h2⟩));have j:AU (Bp S d (.row sz e xs) n) d=n:=by simp[AU,CG,hd]
 exact⟨by rw[j];exact Zam _,λ_=>by simp[Pn]⟩
def P0(h:SimB X G β S a w){d}(hd:d<Ξ S){w'}(j:Below w.heap.size w w'){v}{sz}{e}{xs}{vals}(f:0<sz)(k:∀x∈xs,Ξ x.cells=sz)(hr:BM w' e sz v (Ξ xs) vals)(g:∀b,Ai v=θ b->w.heap.size<=b)(l:BC (λb=>OS β X S b\/Ai v=θ b) w' vals (xs.flatMap D.cells)):
 ∃c,SimB X G c (Bp S d (.row sz e xs) ((An S d).ver+1)) a w' /\
  NM c (AU (Bp S d (.row sz e xs) ((An S d).ver+1))) (OS c X (Bp S d (.row sz e xs) ((An S d).ver+1))) w' a.tmps v (.sl d ((An S d).ver+1)):=by
 have⟨c,h1,_,h2⟩:=xe h hd (n:=(An S d).ver+1) (Zds _) (R':=X.R) (λ_ h=>h) j f k hr (λb i=>⟨.inl (g b i),λhr=>by have:=(h.rs b hr).2;have:=g b i;omega⟩) l;exact⟨c,h1,h2⟩
theorem BC.cells{O}{vs}{ys}(h:BC O w vs ys){n}:∀(j:Nat) v c,vs[j]?=θ v->(ys.map C.d)[j]?=θ c->CI β n O w v c:=by
 intro j v c d b;simp only[Zaz]at b
 cases hy:ys[j]? with
 | none=>grind
 | some y=>simp[hy]at b;subst b;exact h.2 j v y d hy
def wm(h:SimB X G β S a w){g:Δ (Nat×Ω)}(D:CZ g a){d:Nat}(hd:d<Ξ S){T:Υ}{x:Ly}(ho:o.op=.box T x){K:J4->Prop}
 (hy:match ρOf S g x with
  | .row id n _ _ _=>K ⟨.ptr d ((An S d).ver+1) 0,[(d,.var [.sl id n],(An S d).ver+1)],[]⟩
  | .cagg l=>K ⟨.ptr d ((An S d).ver+1) 0,[(d,.var l,(An S d).ver+1)],[]⟩
  | r=>jo r λv b=>m5 v.cells λl=>K ⟨.ptr d ((An S d).ver+1) 0,b++[(d,.var l,(An S d).ver+1)],[]⟩):∃e,K e/\EE P X G S a w o e:=by
 have f:=ρ_sound h D x;have i:(execOp a.eval o).run P w=.ok (.value (.pointer (θ ⟨w.heap.size,0,κ⟩))) (w.alloc (.cells (a.eval x).cells T)):=by simp[execOp,ho,Instr.box,newVar,newRow]
 split at hy;rename_i id n sz e xs hx;rw[hx]at f;have⟨h1,h2,y⟩:=f
 have s:(a.eval x).cells=#[a.eval x]:=by
  have B:=h.boxes id;rw[h1]at B;have⟨_,_,vals,hr,_⟩:=B;rw[y];rcases hr with⟨_,⟨k,_⟩|⟨I,cap,cur,k,_⟩⟩|⟨_,_,J,k⟩<;>(rw[k];rfl)
 have⟨t,p,q⟩:=lL h hd (T:=T) (vals:=(a.eval x).cells) (cs:=[.sl id n]) z5 (λj v c k m=>by
  cases j with
  | zero=>rw[s]at k;simp at k m;subst k;subst m;exact⟨Zdr h2.symm,λ_=>y⟩
  | succ j=>simp at m)
 exact⟨_,hy,.inl ⟨_,_,i,t,p,q,rfl⟩⟩;rename_i l hx;rw[hx]at f;have⟨vs,k,E,m⟩:=f;have z:(a.eval x).cells=vs:=by rw[k];rfl
 have⟨t,p,q⟩:=lL h hd (T:=T) (vals:=(a.eval x).cells) (cs:=l) (by rw[z];exact E) λj v c k A=>(m j v c z5 A).1;exact⟨_,hy,.inl ⟨_,_,i,t,p,q,rfl⟩⟩;have⟨F,b,hK,C,H,u⟩:=Nt (x:=X) (G:=G) (a:=a) f hy;rw[Wa]at hK;have⟨h1,h2,y⟩:=C.run h;have hr:=u.now h C;have⟨t,p,q⟩:=lL h1 (d:=d) (by rw[Dx];exact hd) (T:=T) (vals:=(a.eval x).cells) (cs:=F.cells.map .d) (by have:=(Jv hr).1;simpa using this) λj v c k m=>(Jv hr).cells j v c z5 m;rw[y.ver]at p q;refine⟨_,hK,.inl ⟨_,_,i,t,?_,?_,rfl⟩⟩;simp only[Cl,B5];exact p;simp only[Cl,B5];exact q
def oP{O}{w}{v}{x}(h:zD v=θ x):A5 O w v x/\x.one=ν:=by
 unfold zD at h;split at h<;>simp at h<;>subst h;exact⟨.int _ _,rfl⟩;exact⟨.bool _,rfl⟩;exact⟨.str _,rfl⟩;exact⟨.nil _,rfl⟩
theorem kE{O}{w}:∀{vs}{xs},zDs vs=θ xs->BC O w vs xs
 | [],xs,h=>by simp[zDs]at h;subst h;exact BC.nil
 | v::r,xs,h=>by
   simp only[zDs]at h;split at h;rename_i x l hx b;simp at h;subst h;have h1:=oP (O:=O) (w:=w) hx;exact(BC.one h1.1 h1.2).append (kE b)
   cases h
theorem Wn{O}{w}:∀{vs}{xs}ss,BC O w vs xs->BC O w vs (PY xs ss)
 | vs,[],ss,h=>by simpa [PY] using h
 | [],x::r,ss,h=>by have:=h.1;simp at this
 | v::vs,x::r,[],h=>by cases x<;>simpa [PY] using h
 | v::vs,x::r,s::q,h=>by
   have b:=h.2 0 v x rfl rfl;have c:BC O w vs r:=⟨by simpa using h.1,λj u y d hy=>h.2 (j+1) u y (by simpa using d) z5⟩;have ih:=Wn q c
   cases x<;>simp only[PY]
   case nil s'=>
    obtain rfl:v=.slice κ 0 0:=by cases b.1;rfl
    exact(BC.one (.nil s) rfl).append ih
   all_goals exact(BC.one b.1 b.2).append ih
def JU{O}{w}{t}{l}(h:zeroCells P t=θ l):∃i z,P.info? t=θ i/\i.zero=θ z/\BC O w z.cells.toList l:=by
 unfold zeroCells at h;split at h;rename_i i b;split at h;rename_i z c;split at h;rename_i e d;simp at h;subst h;exact⟨i,z,b,c,Wn _ (kE d)⟩
 cases h
 cases h
 cases h
def pw(h:SimB X G β S a w){d}(hd:d<Ξ S){T}(ho:o.op=.alloc T){l}(b:zeroCells P T=θ l){K:J4->Prop}(hy:m5 l λl=>K ⟨.ptr d ((An S d).ver+1) 0,[(d,.var l,(An S d).ver+1)],[]⟩):∃e,K e/\EE P X G S a w o e:=by
 rw[Wa]at hy;have⟨i,z,f,b,hr⟩:=JU (O:=OS β X S) (w:=w) b;have⟨g,k,m⟩:=lL h hd (T:=T) (vals:=z.cells) (cs:=l.map .d) (by have:=hr.1;simpa using this) λj v c p n=>hr.cells j v c z5 n;refine⟨_,hy,.inl ⟨.pointer (θ ⟨w.heap.size,0,κ⟩),w.alloc (.cells z.cells T),?_,g,k,m,rfl⟩⟩;simp[execOp,ho,Instr.alloc,zeroValue,typeInfo,f,b,newVar,newRow]
def UR{x}(h:SY x=ν):x=.const (.slice κ 0 0):=by
 unfold SY at h;grind
def wq(h:SimB X G β S a w){d}(hd:d<Ξ S){x}(ho:o.op=.assign x)(hx:SY x=ν){e}(c:0<AJ P e):
 EE P X G S a w o ⟨.sl d ((An S d).ver+1),[(d,.row (AJ P e) e [],(An S d).ver+1)],[]⟩:=by
 rw[UR hx]at ho;have⟨f,g,i⟩:=P0 h hd (Below.refl _ _) (v:=.slice κ 0 0) (e:=e) (xs:=[]) (vals:=[]) c (λ_ h=>by cases h) (.inl (World.ownsRow_nil w _ e _)) (λb j=>by simp[Ai]at j) BC.nil;exact .inl ⟨_,w,by simp[execOp,ho,Act.eval],f,g,i,rfl⟩
def Up{T}{p x}(ho:o.op=.store T p x){b off}(d:a.eval p=.pointer (θ ⟨b,off,κ⟩)){i}(e:P.info? T=θ i)(f:(a.eval x).cells.size=i.size){cur}{E}(g:w.heap[b]?=θ (.cells cur E (0,0)))(c:off+(a.eval x).cells.size<=cur.size)(h1:∀v∈(a.eval x).cells.toList,v.oneCell'=ν):
 (execOp a.eval o).run P w=.ok .skip (w.setRow b (cur.toList.take off++(a.eval x).cells.toList++cur.toList.drop (off+(a.eval x).cells.size)).toArray):=by
 have:=run_storeCells_at P b off E (a.eval x).cells.toList 0 cur w g z5 h1;simp only[Zcy,Zbv]at this;simp[execOp,ho,Instr.storeAt,d,Instr.sureAddr,storeVar,sizeOf,typeInfo,e,f,this]
def Lq{T}{i}(b:P.info? T=θ i):AJ P T=i.size:=by simp[AJ,b]
def cg(h:SimB X G β S a w){id n}{cs}(m:(An S id).box=.var cs)(z:(An S id).ver=n){b}(r:β id=.pointer (θ ⟨b,0,κ⟩)){vals}{E}(A:w.heap[b]?=θ (.cells vals E (0,0)))(D:vals.size=Ξ cs)(p:∀(j:Nat) v c,vals[j]?=θ v->cs[j]?=θ c->CI β (AU S) (OS β X S) w v c){off}{us}{ns}(F:Ξ us=Ξ ns)(s:off+Ξ ns<=Ξ cs)(t:∀(j:Nat) v c,us[j]?=θ v->ns[j]?=θ c->CI β (AU S) (OS β X S) w v c):
 SimB X G β (Bp S id (.var (splice cs off ns)) n) a (w.setRow b (vals.toList.take off++us++vals.toList.drop (off+Ξ us)).toArray):=by
 have hid:=UO m zs;have ho:(An S id).box.owned=ν:=by rw[m];rfl
 have q:Ai (β id)=θ b:=by rw[r];rfl
 have u:=h.rebox (R':=X.R) (id:=id) (B:=.var (splice cs off ns)) (v:=β id) (n:=n) (w':=w.setRow b (vals.toList.take off++us++vals.toList.drop (off+Ξ us)).toArray)
  (λ_ h=>h) hid (.inr ⟨z.symm,rfl,by rw[m];simp⟩) zs (AC.setRow _ _ _ (h.mine id b ho q).1)
  (λk _ i=>setRow_other w b k _ λe=>i ho z5)
  (λ_ k i=>⟨.inl ⟨i,ho⟩,(h.mine id k ho i).2⟩)
  (λk x=>by
   rw[HW]at k x ⊢;refine⟨b,_,E,r,setRow_heap w b vals _ E _ A,?_,λj v c d l=>?_⟩;rw[Hm _ _ _ z0];simp;omega;rw[Hm _ _ _ z0]at l;simp only[Zej]at d;refine CI.mono k x ?_;have f:Ξ (vals.toList.take off)=Ξ (cs.take off):=z5;rcases Zbk j (Ξ (cs.take off)) with y|y;grind;rw[Zcn,Zat z5,f]at d;rw[Zcn,Zat y]at l;rcases Zbk (j-Ξ (cs.take off)) (Ξ ns) with g|g;grind;rw[Zat z5,Zca,F]at d;rw[Zat g,Zca]at l;exact p _ v c z5 l)
 rw[HW]at u;exact u
def xl{t}{x}(h:x.one=ν):(nilT P t x).one=ν:=by
 unfold nilT;split;split<;>rfl;exact h
def A5.nilT{O:Nat->Prop}{w:Λ}{v:Ψ}{t:Υ}{y:D}(h:A5 O w v y):A5 O w v (nilT P t y):=by
 unfold Go.Abs.nilT;split
 ·split
  ·cases h;exact .nil _
  ·exact h
 ·exact h
def lg(h:SimB X G β S a w){g:Δ (Nat×Ω)}(hg:CZ g a){T:Υ}{p x:Ly}(ho:o.op=.store T p x){id n off:Nat}{cs:Γ C}
 (hp:U9 β (OS β X S) S w (a.eval p) (.vptr id n off cs)) {i:TypeInfo} (R:P.info? T=θ i) {K:J4->Prop}
 (hy:match SD P T with
  | some true=>match ρOf S g x with
    | .cagg l=>if Ξ l=AJ P T/\off+Ξ l<=Ξ cs then DY (splice cs off l) λl=>K ⟨.any,[(id,.var l,n)],[]⟩else False
    | r=>jo r λv b=>
      if Ξ v.cells=AJ P T/\off+Ξ v.cells<=Ξ cs then m5 v.cells λl=>DY (splice cs off l) λl=>K ⟨.any,b++[(id,.var l,n)],[]⟩else False
  | some false=>if AJ P T=1/\off<Ξ cs then match ρOf S g x with
   | .row F n' _ _ _=>DY (splice cs off [.sl F n']) λl=>K ⟨.any,[(id,.var l,n)],[]⟩
   | r=>jo r λv b=>if v.one=ν then DY (splice cs off [.d (nilT P T v)]) λl=>K ⟨.any,b++[(id,.var l,n)],[]⟩else False
   else False
  | none=>False):
 ∃e,K e/\EE P X G S a w o e:=by
 have⟨W,hn,blk,U,M⟩:=hp
 have data:∀{v:D}{b:Bx},FZ S [] b->(∀z∈b,∃sz xs,z.2.1=.frow sz xs)->Pr X G β S a w b (λO=>A5 O w (a.eval x) v)->Ξ v.cells=AJ P T->off+Ξ v.cells<=Ξ cs->
  K ⟨.any,b++[(id,.var (splice cs off (v.cells.map .d)),n)],[]⟩->∃e,K e/\EE P X G S a w o e:=by
  intro v b V H m I N hK;have⟨h1,h2,h3⟩:=V.run h;have hr:=Jv (m.now h V)
  have u:(An (B5 b S) id).box=.var cs:=by
   rw[h3.other id λz hz e=>?_];exact W;have⟨sz,xs,e2⟩:=H z hz;rcases(V.each z hz).2 with⟨_,_,_,k1,_⟩|⟨_,_,k1,k2,_⟩|⟨k1,k2⟩
   all_goals grind
  have Y:(An (B5 b S) id).ver=n:=by rw[h3.ver,hn]
  have⟨vals,E,L,q,A⟩:=SA h1 u U;have J:(a.eval x).cells.size=Ξ v.cells:=by have:=hr.1;simpa using this
  have f:=Up (P:=P) ho M R (by rw[J,I,Lq R]) L z5 hr.oneCell;refine⟨_,hK,.inr (.inl ⟨_,f,β,?_,trivial,rfl⟩)⟩;have:=cg h1 u Y U L q A (off:=off) (us:=(a.eval x).cells.toList) (ns:=v.cells.map .d) (by rw[hr.1];simp) z5 hr.cells;simp only[Cl,B5];grind
 split at hy;have k:=ρ_sound h hg x;split at hy;rename_i l hx;rw[hx]at k;have⟨⟨I,N⟩,hK⟩:=Av hy;rw[Ct]at hK;have⟨us,hu,Z,huc⟩:=k;have Q:(a.eval x).cells=us:=by rw[hu];rfl
 have⟨vals,E,L,q,A⟩:=SA h W U
 have d:∀v∈us.toList,v.oneCell'=ν:=by
  intro v s;have⟨j,hj⟩:=List.mem_iff_getElem?.1 s;have hjl:j<Ξ l:=z5;exact(huc j v l[j] z5 (Zaa hjl)).2
 have f:=Up (P:=P) ho M R (by rw[Q,Z,I,Lq R]) L z5 (by rw[Q];exact d);refine⟨_,hK,.inr (.inl ⟨_,f,β,?_,trivial,rfl⟩)⟩;have:=cg h W hn U L q A (off:=off) (us:=(a.eval x).cells.toList) (ns:=l) (by rw[Q];simpa using Z) (by simpa using N) λj v c s hc=>(huc j v c z5 hc).1;simp only[B5];grind;have⟨xd,b,hK,V,H,m⟩:=Nt (x:=X) (G:=G) (a:=a) k hy;have⟨⟨I,N⟩,hK⟩:=Av hK;rw[Wa,Ct]at hK;grind;have⟨⟨hs1,hof⟩,hy⟩:=Av hy;have k:=ρ_sound h hg x;split at hy;rename_i F n' sz e xs hx;rw[hx]at k;rw[Ct]at hy;have⟨k1,k2,k3⟩:=k
 have d:(a.eval x).cells=#[a.eval x]/\(a.eval x).oneCell'=ν:=by
  have hb':=h.boxes F;rw[k1]at hb';have⟨_,_,vals,hr,_⟩:=hb';rw[k3];rcases hr with⟨_,⟨M,_⟩|⟨g',cap,cur,M,_⟩⟩|⟨_,_,ad,M⟩<;>(rw[M];exact⟨rfl,rfl⟩)
 have⟨vals,E,L,q,A⟩:=SA h W U;have f:=Up (P:=P) ho M R (by rw[d.1,<-Lq R,hs1];rfl) L (by rw[d.1,q];exact hof) z5;refine⟨_,hy,.inr (.inl ⟨_,f,β,?_,trivial,rfl⟩)⟩
 have:=cg h W hn U L q A (off:=off) (us:=(a.eval x).cells.toList) (ns:=[.sl F n']) z5 hof (λj v c s hc=>by
  cases j with
  | zero=>rw[d.1]at s;simp at s hc;subst s;subst hc;exact⟨Zdr k2.symm,λ_=>k3⟩
  | succ j=>simp at hc)
 simp only[B5];grind;have⟨xd,b,hK,V,H,m⟩:=Nt (x:=X) (G:=G) (a:=a) k hy;have⟨d,hK⟩:=Av hK;rw[Ct]at hK
 have hx1:(nilT P T xd).cells=[nilT P T xd]:=by
  have:=xl (P:=P) (t:=T) d;generalize nilT P T xd=y at this
  cases y<;>first|rfl|simp[D.one]at this
 exact data V H (v:=nilT P T xd) (λB h1 h2 h3 h4=>(m B h1 h2 h3 h4).nilT) (by rw[hx1,hs1];rfl) z5 (by rw[hx1];exact hK);grind
theorem YS{α}:∀A B i (ys:Γ α),splice (A++B) (Ξ A+i) ys=A++splice B i ys
 | [],B,i,ys=>by simp
 | c::A,B,i,ys=>by
   rw[Zgg,Zbq,show Ξ A+1+i=(Ξ A+i)+1 by omega,splice,YS A B i ys];rfl
theorem nD{sz}:∀(xs:Γ D) i x y,(∀x∈xs,Ξ x.cells=sz)->xs[i]?=θ x->Ξ y.cells=sz->
 (xs.set i y).flatMap D.cells=splice (xs.flatMap D.cells) (i*sz) y.cells
 | [],i,x,y,_,hx,_=>by grind
 | z::r,0,x,y,hs,hx,hy=>by
   have b:Ξ z.cells=sz:=hs z zs;rw[Hm _ _ _ zs];grind
 | z::r,i+1,x,y,hs,hx,hy=>by
   have b:Ξ z.cells=sz:=hs z zs;have ih:=nD r i x y (λx hx=>hs x (by simp[hx])) z5 hy;rw[List.set_cons_succ,Zcf,ih,Zcf,show(i+1)*sz=Ξ z.cells+i*sz by rw[b,Zcu];omega,YS]
def jg(L ys b:Γ D)i o(e:i+Ξ ys<=Ξ L)(ho:o+Ξ b<=Ξ ys)(d:(L.drop i).take (Ξ ys)=ys):
 splice L i (splice ys o b)=splice L (i+o) b:=by
 rw[Hm ys o b z0,Hm L i _ z0,Hm L (i+o) b z0];have c:Ξ (ys.take o++b++ys.drop (o+Ξ b))=Ξ ys:=z5;rw[c];have f:L.take (i+o)=L.take i++ys.take o:=z5
 have g:L.drop (i+o+Ξ b)=ys.drop (o+Ξ b)++L.drop (i+Ξ ys):=by
  have:L.drop i=ys++L.drop (i+Ξ ys):=by
   conv=>lhs;rw[<-Zdj (Ξ ys) (L.drop i),d,List.drop_drop]
  rw[show i+o+Ξ b=i+(o+Ξ b) by omega,<-List.drop_drop,this,List.drop_append_of_le_length ho]
 grind
theorem KI{id}:∀{b},Ku id b=ν->∀z∈b,z.1≠id
 | [],_,_,h=>by cases h
 | q::r,hq,z,c=>by
   simp[Ku]at hq;rcases List.mem_cons.1 c with rfl|c;grind;exact KI hq.2 z c
def lf(h:SimB X G β S a w){g:Δ (Nat×Ω)}(hg:CZ g a){T:Υ}{p x:Ly}(ho:o.op=.store T p x){id n sz:Nat}{e:Υ}{xs:Γ D}{k off:Nat}
 (hp:U9 β (OS β X S) S w (a.eval p) (.eptr id n sz e xs k off)) {i:TypeInfo} (hi:P.info? T=θ i) {K:J4->Prop}
 (hy:asN (ρOf S g x) λv b=>At xs k λy=>
  if Ξ v.cells=AJ P T/\off+Ξ v.cells<=Ξ y.cells/\Ku id b=ν then
   match y with
   | .agg cs=>DY (splice cs off v.cells) λl=>K ⟨.any,b++[(id,.row sz e (xs.set k (.agg l)),n)],[]⟩
   | _=>if v.one then K ⟨.any,b++[(id,.row sz e (xs.set k v),n)],[]⟩else False
  else False):
 ∃e,K e/\EE P X G S a w o e:=by
 obtain⟨s,b,hK,hF,hfr,N⟩:=bD (x:=X) (G:=G) (a:=a) (ρ_sound h hg x) hy;obtain⟨_,y,t,hK⟩:=hK.go;simp only[Zaw]at t;obtain⟨⟨hc1,H,hnr⟩,hK⟩:=Av hK;obtain⟨h1,h2,h3⟩:=hF.run h;have hr:=Jv (N.now h hF);obtain⟨hb,hn,blk,m,cap,hβ,hv⟩:=hp;have d:(An (B5 b S) id).box=.row sz e xs:=by rw[h3.other id (KI hnr)];exact hb
 have O:(An (B5 b S) id).ver=n:=by rw[h3.ver,hn]
 have Q:=h1.boxes id;rw[d]at Q;obtain⟨R,c,vals,U,hl⟩:=Q;have hid:id<Ξ S:=UO hb zs;have V:=AG t;have C:Ξ y.cells=sz:=c y (Zbf t)
 obtain⟨y',I,hK⟩:∃y',(y'.cells=splice y.cells off s.cells/\Ξ y'.cells=sz)/\K ⟨.any,b++[(id,.row sz e (xs.set k y'),n)],[]⟩:=by
  have E:Ξ (splice y.cells off s.cells)=sz:=by rw[Hm _ _ _ z0];simp;omega
  cases y with
  | agg cs=>simp only[Ct]at hK;exact⟨.agg (splice cs off s.cells),⟨rfl,E⟩,hK⟩
  | bool _|int _ _|str _|fn _ _|ptr _|nil _|list _ _=>
    obtain⟨W,hK2⟩:=Av (show(if s.one=ν then K ⟨.any,b++[(id,.row sz e (xs.set k s),n)],[]⟩else False)from hK);have J:s.cells=[s]:=by cases s<;>first|rfl|simp[D.one]at W
    rw[J]at H;have hc2':off+1<=1:=H;have ho0:off=0:=z0
    subst ho0;refine⟨s,⟨?_,?_⟩,hK2⟩
    ·rw[J];rfl
    ·rw[J];exact C
 rcases U with⟨E,⟨A,h0⟩|⟨gb,F,cur,A,hbg,hh,Y,hm,hcs,ht⟩⟩|⟨h0,_⟩
 ·omega
 ·have L:=hβ;rw[A]at L;simp at L;obtain⟨rfl,rfl,rfl⟩:=L;have f:(a.eval x).cells.size=Ξ s.cells:=by have:=hr.1;simpa using this
  have hle:k*sz+sz<=Ξ xs*sz:=by rw[<-Nat.succ_mul];exact Zcx _ V
  have hle2:Ξ xs*sz<=cur.size:=by rw[hcs];exact Zcx _ Y
  have Z:k*sz+off+(a.eval x).cells.size<=cur.size:=by rw[f];omega
  have hrun:=Up (P:=P) ho hv hi (by rw[f,hc1,Lq hi]) hh Z hr.oneCell;refine⟨_,hK,.inr (.inl ⟨_,hrun,?_⟩)⟩;have u:=Gs xs c
  have hsp:(xs.set k y').flatMap D.cells=splice (xs.flatMap D.cells) (k*sz+off) s.cells:=by
   rw[nD xs k y y' c t I.2,I.1];refine jg _ _ _ _ _ (by rw[u,C];exact hle) H ?_;apply Zdv;intro j;rw[Zbw];split
   ·rename_i hj
    rw[Zca,UK xs c k y j _ t (Zaa hj),Zaa hj]
   ·rename_i hj
    rw[Zbj z0]
  have M:F≠0:=z0
  have r:(An (B5 b S) id).box.owned=ν:=by rw[d];rfl
  have hbl:Ai (β id)=θ gb:=by rw[A];simp[Ai,M]
  have h5:=h1.rebox (R':=X.R) (id:=id) (B:=.row sz e (xs.set k y')) (v:=β id) (n:=n)
   (w':=w.setRow gb (cur.toList.take (k*sz+off)++(a.eval x).cells.toList++cur.toList.drop (k*sz+off+(a.eval x).cells.size)).toArray)
   (λ_ h=>h) (by rw[Dx];exact hid) (.inr ⟨O.symm,rfl,by rw[d];simp⟩) zs (AC.setRow _ _ _ (h1.mine id gb r hbl).1)
   (λq _ hk=>setRow_other w gb q _ (λe=>hk r (by rw[hbl,e])))
   (λ_ q hq=>⟨.inl ⟨hq,r⟩,(h1.mine id q r hq).2⟩)
   (λkp _=>by
    rw[HW]at kp ⊢;refine⟨R,?_,vals.take (k*sz+off)++(a.eval x).cells.toList++vals.drop (k*sz+off+Ξ (a.eval x).cells.toList),.inl ⟨?_,.inr ⟨gb,F,_,by rw[A];simp,hbg,setRow_heap w gb cur _ e _ hh,?_,hm,?_,?_⟩⟩,?_⟩
    ·intro z hz;rcases List.mem_or_eq_of_mem_set hz with hz|hz
     ·exact c z hz
     ·rw[hz];exact I.2
    ·simp only[Zar,Zan,Zcd,Zdo,Zbv];omega
    ·simpa using Y
    ·simp only[Zdt,Zar,Zan,Zcd,Zbv];omega
    ·simp only[Zdo];rw[<-ht];apply Zdv;intro j;simp only[Zbw,List.getElem?_append,Zca,Zar,Zan,Zbv];split
     ·rename_i hj
      repeat' split
      all_goals first
       | rfl
       | omega
       | (congr 1;omega)
       | (rw[Zai z0];congr 1;omega)
     ·rename_i hj
      repeat' split
      all_goals first
       | rfl
       | omega
       | (rw[Zbj];simp;omega)
       | (rw[Zah z0])
    ·rw[hsp];exact(hl.splice hr (o:=k*sz+off) (by rw[u];omega)).mono kp)
  rw[HW]at h5;refine⟨β,?_,trivial,rfl⟩;simp only[Cl,B5];exact h5
 ·omega
end
section
variable {P:Η} {X:Cx} {G:Nat->Prop} {β:Nat->Ψ} {S:AS} {a:Act} {w:Λ} {o:Oper}
theorem ac off:∀(vs:Γ Ψ) n cells,off+n+Ξ vs<=cells.size->
 ((vs.zipIdx n).foldl (λ(cs:Array Ψ) x=>cs.setIfInBounds (off+x.2) x.1) cells).toList=cells.toList.take (off+n)++vs++cells.toList.drop (off+n+Ξ vs)
 | [],n,cells,_=>by simp
 | v::r,n,cells,h=>by
   simp only[Zbq]at h;rw[List.zipIdx_cons,List.foldl_cons,ac off r (n+1) (cells.setIfInBounds (off+n) v) z5];have e:=list_seg_step cells.toList (off+n) v r z5;simp only[Zdm];rw[show off+(n+1)=off+n+1 by omega];simpa using e
def Wt(O:Nat->Prop)(w:Λ):Γ (Nat×Ψ)->Γ (Nat×D)->Prop| [],[]=>True| (i,v)::r,(j,x)::s=>i=j/\A5 O w v x/\Wt O w r s| _,_=>False
theorem fP{O}{w}{b}:∀{m}{n}{cells}{cs l},Wt O w m n->BC O w cells.toList cs->fN b cs n=θ l->
 ∃d,Instr.fill b cells m=θ d/\BC O w d.toList l
 | [],[],cells,cs,l,_,hc,hf=>by simp[fN]at hf;subst hf;exact⟨cells,rfl,hc⟩
 | (i,v)::r,(j,x)::s,cells,cs,l,e,hc,hf=>by
   obtain⟨rfl,q,e⟩:=e;simp only[fN]at hf;split at hf
   cases hf
   rename_i off p h;split at hf;rename_i k;have f:=Jv q;have t:v.cells.size=Ξ x.cells:=by simpa using f.1
   have u:cells.size=Ξ cs:=by simpa using hc.1
   have c:=ac off v.cells.toList 0 cells z5;simp only[Zcy]at c
   have g:BC O w (v.cells.zipIdx.foldl (λcs (x:Ψ×Nat)=>cs.setIfInBounds (off+x.2) x.1) cells).toList (splice cs off x.cells):=by
    rw[<-Array.foldl_toList,Array.toList_zipIdx,c];exact hc.splice f z0
   have⟨d,h1,h2⟩:=fP e g hf;refine⟨d,?_,h2⟩;simp only[Instr.fill,h];grind
   cases hf
 | [],_::_,_,_,_,e,_,_=>e.elim
 | (_,_)::_,[],_,_,_,e,_,_=>e.elim
theorem aR(h:SimB X G β S a w){g}(k:CZ g a):∀{c}{K},Rq (ρOf S g) c K->
 ∃f b,K f b/\FZ S [] b/\Pr X G β S a w b λO=>Wt O w (c.map λx=>(x.1,a.eval x.2)) f
 | [],K,hy=>⟨[],[],hy,trivial,λ_ _ _ _ _=>trivial⟩
 | (i,x)::r,K,hy=>by
   have⟨m,b,hK,l,_,e⟩:=Nt (x:=X) (G:=G) (a:=a) (ρ_sound h k x) hy;have⟨f,bs,hK,j,d⟩:=aR h k hK;exact⟨_,_,hK,l.append j,(e.and d).mono (λ_ h=>h) λO h=>⟨rfl,h.1,h.2⟩⟩
theorem aT(h:SimB X G β S a w){g}(k:CZ g a):∀{c}{K},Te (ρOf S g) c K->
 ∃f b,K f b/\FZ S [] b/\Pr X G β S a w b λO=>Wt O w (c.map λx=>(x.1,a.eval x.2)) f
 | [],K,hy=>⟨[],[],hy,trivial,λ_ _ _ _ _=>trivial⟩
 | (i,x)::r,K,hy=>by
   have⟨m,b,hK,l,_,e⟩:=bD (x:=X) (G:=G) (a:=a) (ρ_sound h k x) hy;have⟨f,bs,hK,j,d⟩:=aT h k hK;exact⟨_,_,hK,l.append j,(e.and d).mono (λ_ h=>h) λO h=>⟨rfl,h.1,h.2⟩⟩
theorem ib{b:Γ Field}(h:b.all (λf=>(P.info? f.type).isSome)=ν):
 (b.mapM λ(f:Field)=>(do pure (f.offset,<-sizeOf f.type))).run P w=.ok (b.map λf=>(f.offset,AJ P f.type)) w:=by
 induction b with
 | nil=>simp
 | cons f r ih=>
   simp only[List.all_cons,Zax]at h;have⟨h1,h2⟩:=h
   cases hi:P.info? f.type with
   | none=>grind
   | some i=>
     have c:=ih h2;simp only[Zge,Sem.run_bind,sizeOf,typeInfo,run_program,Result.andThen_ok,hi,Sem.run_pure,Zas,AJ]at c ⊢;rw[c];simp
def fF(h:SimB X G β S a w){g:Δ (Nat×Ω)}(H:CZ g a){t:Υ}{d:Array (Nat×Ly)}(ho:o.op=.build t d){c:Array Field}(I:P.underlying t=θ (.struct c))
 {A:Γ D} (r:zeroCells P t=θ A) (m:c.toList.all (λf=>(P.info? f.type).isSome)=ν) {K:J4->Prop}
 (hy:Rq (ρOf S g) d.toList λB b=>match fN (λi=>match c[i]? with|θ f=>θ (f.offset,AJ P f.type)|κ=>κ) A B with
  | some l=>DY l λl=>K ⟨.d (.agg l),b,[]⟩
  | none=>False):∃e,K e/\EE P X G S a w o e:=by
 have⟨B,b,hK,C,n⟩:=aR h H hy;have⟨h1,h2,_⟩:=C.run h;have J:=n.now h C;split at hK;rename_i l L;rw[Ct]at hK;have⟨i,z,M,N,s⟩:=JU (O:=OS β X (B5 b S)) (w:=w) r;have⟨p,E,q⟩:=fP J s L;have k:(λ(i:Nat)=>match (c[i]?:Δ Field)with|θ f=>θ (f.offset,AJ P f.type)|κ=>κ)=λi=>(c.map λ(f:Field)=>(f.offset,AJ P f.type))[i]?:=z5;rw[k]at E
 have u:(c.mapM λ(f:Field)=>(do pure (f.offset,<-sizeOf f.type):Sem (Nat×Nat))).run P w=.ok (c.map λ(f:Field)=>(f.offset,AJ P f.type)) w:=by
  rw[Zgk,Sem.run_map,ib m];simp only[Result.andThen_ok];congr 1;grind
 refine⟨_,hK,.inl ⟨.agg p,w,?_,β,h1,?_,rfl⟩⟩;simp only[execOp,ho,Instr.build,Sem.run_bind,zeroValue,typeInfo,run_program,M,N,Result.andThen_ok,Sem.run_pure,run_underlying I,u,Array.toList_map];rw[E];simp;refine .agg _ _ (by simpa using q.1) (λy hy=>?_) λj v y Q hy=>(q.2 j v y z5 hy).1;have⟨j,F⟩:=List.mem_iff_getElem?.1 hy;have x:j<Ξ p.toList:=by rw[q.1];exact AG F
 exact(q.2 j _ y (Zaa x) F).2;grind
theorem fO{sz}:∀d k cells,(∀j x,d[j]?=θ x->x.1=k+j/\x.2.cells.size=sz)->cells.size=(k+Ξ d)*sz->
 ∃c,Instr.fill (λi=>θ (i*sz,sz)) cells d=θ c/\c.toList=cells.toList.take (k*sz)++d.flatMap (λx=>x.2.cells.toList)
 | [],k,cells,_,hc=>⟨cells,rfl,by simp at hc ⊢;rw[<-hc];exact(Zbe zs).symm⟩
 | (i,v)::r,k,cells,hp,hc=>by
   have⟨h1,h2⟩:=hp 0 (i,v) zs;simp only[Zcy]at h1 h2;subst h1;simp only[Zbq]at hc;have g:(i+(Ξ r+1))*sz=i*sz+sz+Ξ r*sz:=z5;have e:i*sz+v.cells.size<=cells.size:=z0;have b:=ac (i*sz) v.cells.toList 0 cells z5;simp only[Zcy,Zbv]at b
   have f:(v.cells.zipIdx.foldl (λ(cs:Array Ψ)(x:Ψ×Nat)=>cs.setIfInBounds (i*sz+x.2) x.1) cells).toList=cells.toList.take (i*sz)++v.cells.toList++cells.toList.drop (i*sz+v.cells.size):=by
    rw[<-Array.foldl_toList,Array.toList_zipIdx];exact b
   have⟨c,l,h⟩:=fO (sz:=sz) r (i+1) (v.cells.zipIdx.foldl (λ(cs:Array Ψ)(x:Ψ×Nat)=>cs.setIfInBounds (i*sz+x.2) x.1) cells)
    (λj x hx=>by have:=hp (j+1) x z5;omega)
    (by rw[<-Zbv,f];simp;rw[show i+1+Ξ r=i+(Ξ r+1) by omega];omega)
   refine⟨c,?_,?_⟩;simp only[Instr.fill];grind;rw[h,f,Zcf];rw[Zfm (by simp[Zcu];omega),Zbe z5];simp
theorem Y4{O}{w}:∀{c}{e}{k}{l},Wt O w c e->XX k e=θ l->
 (Ξ c)=Ξ l/\(∀j x,c[j]?=θ x->x.1=k+j/\∃y,l[j]?=θ y/\A5 O w x.2 y)/\BC O w (c.flatMap λx=>x.2.cells.toList) (l.flatMap D.cells)
 | [],[],k,l,_,hl=>by simp[XX]at hl;subst hl;exact⟨rfl,λj x hx=>by simp at hx,BC.nil⟩
 | (i,v)::r,(j,x)::s,k,l,b,hl=>by
   obtain⟨rfl,f,b⟩:=b;simp only[XX]at hl;split at hl;rename_i d;subst d;simp at hl;obtain⟨h,h1,rfl⟩:=hl;have⟨h2,m,g⟩:=Y4 b h1;refine⟨by simp[h2],λj y hy=>?_,?_⟩;grind;simp only[Zcf];exact(Jv f).append g
   cases hl
 | [],_::_,_,_,b,_=>b.elim
 | (_,_)::_,[],_,_,b,_=>b.elim
def Oa{e}(h:Qb P e=ν):∃i z,P.info? e=θ i/\i.zero=θ z/\z.cells.size=i.size:=by
 unfold Qb at h;grind
def dY(h:SimB X G β S a w){g:Δ (Nat×Ω)}(hg:CZ g a){d:Nat}(hd:d<Ξ S){t e:Υ}{n:Nat}{f:Array (Nat×Ly)}(ho:o.op=.buildSlice t n f)(W:P.underlying t=θ (.slice e))
 {K:J4->Prop} (hy:Te (ρOf S g) f.toList λY b=>match XX 0 Y with
  | some l=>DY l λl=>
    if Ξ l=n/\0<AJ P e/\Qb P e=ν/\n*AJ P e<=16777216/\l.all (λx=>Ξ x.cells==AJ P e)then K ⟨.sl d ((An S d).ver+1),b++[(d,.row (AJ P e) e l,(An S d).ver+1)],[]⟩else False
  | none=>False):∃e,K e/\EE P X G S a w o e:=by
 have⟨Y,b,hK,Z,A⟩:=aT h hg hy;have⟨h1,h2,B⟩:=Z.run h;have hp:=A.now h Z;split at hK;rename_i l hl;rw[Ct]at hK;have⟨⟨C,q,I,F,hall⟩,D⟩:=Av hK;clear hK;have⟨i,z,J,I,hzs⟩:=Oa I;have c:AJ P e=i.size:=Lq J;have⟨h3,h4,h5⟩:=Y4 hp hl;have k:∀x∈l,Ξ x.cells=AJ P e:=z5;have L:f.size=n:=z5;by_cases r:n=0;subst r;have M:l=[]:=Zau C;subst M;have N:f.toList=[]:=z5
 have⟨O,s,u⟩:=P0 h1 (d:=d) (by rw[Dx];exact hd) (QG (.cells #[] e)) (v:=.slice (θ ⟨w.heap.size,0,κ⟩) 0 0) (e:=e) (xs:=[]) (vals:=[]) q (λ_ h=>by cases h)
  (.inr ⟨rfl,rfl,_,rfl⟩) (λb Q=>by simp[Ai]at Q) BC.nil
 rw[B.ver]at s u;refine⟨_,D,.inl ⟨.slice (θ ⟨w.heap.size,0,κ⟩) 0 0,w.alloc (.cells #[] e),?_,O,?_,?_,rfl⟩⟩;simp[execOp,ho,Instr.buildSlice,run_underlying W,sizeOf,typeInfo,J,N,Instr.fill,newRow,Array.range_zero'];simp only[Cl,B5];exact s;simp only[Cl,B5];exact u;have r:0<n:=Nat.pos_of_ne_zero r
 have⟨m,h6,R⟩:=fO (sz:=i.size) (f.toList.map λx=>(x.1,a.eval x.2)) 0 ((Array.range (n*i.size)).map (z.cells[·%z.cells.size]!))
  (λj x hx=>by
   have⟨s,y,u,T⟩:=h4 j x hx;refine⟨s,?_⟩;have:=(Jv T).1;rw[k y (Zbf u),c]at this;simpa using this)
  (by simp[L])
 simp only[Nat.zero_mul,List.take_zero,Zgo]at R
 have p:m.size=n*i.size:=by
  have:=h5.1;rw[<-R,Gs l k,C,c]at this;simpa using this
 have⟨O,s,u⟩:=P0 h1 (d:=d) (by rw[Dx];exact hd) (QG (.cells m e)) (v:=.slice (θ ⟨w.heap.size,0,κ⟩) n n) (e:=e) (xs:=l) (vals:=m.toList) q k
  (.inl ⟨by rw[C,c];rw[Zbv];exact p,.inr ⟨w.heap.size,n,m,by rw[C],Zag _,heap_alloc_new w _,z0,by
   have:n<=n*AJ P e:=Zco n q;unfold maxLen;omega,by rw[c];exact p,by rw[C,c,<-p];exact Zbe zs⟩⟩)
  (λb Q=>by simp[Ai]at Q;omega)
  (by
   rw[R];refine h5.mono ⟨zs,λb' E H=>?_,λb' E _=>heap_alloc_old w _ b' E⟩;rcases H with H|H;grind;simp[Ai]at H;omega)
 rw[B.ver]at s u;refine⟨_,D,.inl ⟨.slice (θ ⟨w.heap.size,0,κ⟩) n n,w.alloc (.cells m e),?_,O,?_,?_,rfl⟩⟩;have U:¬(n*i.size>2^24):=by rw[<-c];omega
 have V:¬(n*i.size=0):=by
  rw[<-c];have:=Nat.mul_pos r q;omega
 simp only[execOp,ho,Instr.buildSlice,Sem.run_bind,run_underlying W,Result.andThen_ok,sizeOf,typeInfo,run_program,J,Sem.run_pure,U,if_false,V,zeroValue,I,Array.toList_map];rw[h6];simp[newRow];simp only[Cl,B5];exact s;simp only[Cl,B5];exact u;grind
def wZ{O}{z:Ψ}{sz}{x}(hx:BC O w z.cells.toList x.cells)(i:z.cells.size=sz)(k:0<sz)n c(l:n<=c):
 (Ξ ((madeCells z.cells (c*sz)).toList.take (n*sz)))=n*sz/\BC O w ((madeCells z.cells (c*sz)).toList.take (n*sz)) ((List.replicate n x).flatMap D.cells):=by
 have q:n*sz<=c*sz:=Zcx _ l;have b:Ξ ((madeCells z.cells (c*sz)).toList.take (n*sz))=n*sz:=by simp[size_madeCells,Zdp l]
 have d:Ξ x.cells=sz:=by rw[<-hx.1];simpa using i
 have e:=Gs (sz:=sz) (List.replicate n x) (λy hy=>by rw[Zgm hy];exact d);refine⟨b,by rw[b,e];simp,λj v y m hy=>?_⟩;have p:j<n*sz:=z5;have f:j/sz<n:=by rw[Zey k];exact p
 have t:j%sz<sz:=Zev _ k
 have g:((List.replicate n x).flatMap D.cells)[j]?=θ (x.cells[j%sz]'z5):=by
  have:=UK (sz:=sz) (List.replicate n x) (λy hy=>by rw[Zgm hy];exact d) (j/sz) x (j%sz) _ (by simp[f]) (Zaa z5);rwa [Zcm,Zei]at this
 rw[g]at hy
 cases hy
 rw[Zda p]at m
 have r:v=z.cells.toList[j%sz]'z5:=by
  have h:j<c*sz:=z0;have s:j%sz<z.cells.size:=z5;simp[madeCells,h,i]at m;grind
 exact hx.2 (j%sz) v _ z5 (Zaa _)
def oQ{t}{K}(hy:kF P t K):∃x,K x/\∃i z,P.info? t=θ i/\i.zero=θ z/\∀O w,BC O w z.cells.toList x.cells:=by
 unfold kF at hy;split at hy;rename_i l b;obtain⟨i,z,c,d,-⟩:=JU (O:=λ_=>True) (w:=default) b
 have hr:∀(O:Nat->Prop)(w:Λ),BC O w z.cells.toList l:=by
  intro O w;have⟨h,j,f,g,hr⟩:=JU (O:=O) (w:=w) b;grind
 split at hy;rw[aK]at hy;exact⟨_,hy,i,z,c,d,λO w=>(hr O w).norm⟩;split at hy;rename_i y;rw[WV]at hy;refine⟨_,hy,i,z,c,d,λO w=>?_⟩;have h1:y.one=ν:=((hr O w).2 0 _ y (Zaa (by rw[(hr O w).1];simp)) rfl).2;have e:(norm y).cells=[norm1 y]:=by cases y<;>first|rfl|simp[D.one]at h1
 rw[e];exact(hr O w).norm;grind;grind;grind
def t7(h:SimB X G β S a w){g}(I:CZ g a){d}(hd:d<Ξ S){t e}{x y}(ho:o.op=.makeSlice t x y)(M:P.underlying t=θ (.slice e))(F:0<AJ P e)(N:Qb P e=ν){k J}{l c}(hx:ρOf S g x=.d (.int k l))(hy:ρOf S g y=.d (.int J c)){K:J4->Prop}(m:kF P e λz=>NL (0<=l/\l<=c/\c<=maxLen/\(SJ P e:Int)*c<=281474976710656) (K ⟨.sl d ((An S d).ver+1),[(d,.row (AJ P e) e (List.replicate l.toNat z),(An S d).ver+1)],[]⟩)):∃e,K e/\EE P X G S a w o e:=by
 have B:=ρ_sound h I x;rw[hx]at B;have B:=AP B;have C:=ρ_sound h I y;rw[hy]at C;have C:=AP C;have⟨z,m,i,D,E,n,p⟩:=oQ m;have⟨⟨O,h1,h2,L⟩,hK⟩:=m;have⟨V,W,q,r,s⟩:=Oa N;rw[E]at q;cases q;rw[n]at r;cases r;have f:AJ P e=i.size:=Lq E;have j:SJ P e=i.bytes:=by simp[SJ,E]
 rw[j]at L;have Y:maxLen<=9223372036854775807:=by unfold maxLen;omega
 have u:=run_make (P:=P) w t e i D M E n k J l c O h1 L z0;have A:=wZ (w:=w.alloc (.cells (madeCells D.cells (c.toNat*i.size)) e)) (p (λb=>OS β X S b\/Ai (.slice (θ ⟨w.heap.size,0,κ⟩) l.toNat c.toNat)=θ b) _) s z5 l.toNat c.toNat z0;have H:Ξ z.cells=i.size:=by have:=(p (λ_=>True) w).1;rw[<-this];simpa using s
 have⟨Q,R,T⟩:=P0 h hd (QG (.cells (madeCells D.cells (c.toNat*i.size)) e)) (v:=.slice (θ ⟨w.heap.size,0,κ⟩) l.toNat c.toNat) (e:=e) (sz:=AJ P e) (xs:=List.replicate l.toNat z)
  (vals:=(madeCells D.cells (c.toNat*i.size)).toList.take (l.toNat*i.size)) F (λy hy=>by rw[Zgm hy,f];exact H)
  (.inl ⟨by rw[f,A.1];simp,.inr ⟨w.heap.size,c.toNat,_,zs,Zag _,heap_alloc_new w _,zv,z0,by rw[size_madeCells,f],by rw[f];simp⟩⟩)
  (λb U=>by simp[Ai]at U;omega) A.2
 refine⟨_,hK,.inl ⟨_,_,?_,Q,R,T,rfl⟩⟩;simp[execOp,ho,B,C,u]
def uo{f}{N j}{u:Ψ}(h:((List.range N).map f)[j]?=θ u):j<N/\f j=u:=z5
def Yj(h:SimB X G β S a w){r}{v}(hr:U9 β (OS β X S) S w v r){K}(hy:VA r K):
 ∃sz ys,K sz ys/\∃k c,v=.slice k (Ξ ys) c/\(ys=[]\/∃i f,k=θ i/\BC (OS β X S) w f (ys.flatMap D.cells)/\(∀x∈ys,Ξ x.cells=sz)/\∀j u,f[j]?=θ u->w.cell? (i.add j)=θ u):=by
 have key:∀sz ys,A5 (OS β X S) w v (.list sz ys)->∃k c,v=.slice k (Ξ ys) c/\(ys=[]\/∃i f,k=θ i/\BC (OS β X S) w f (ys.flatMap D.cells)/\(∀x∈ys,Ξ x.cells=sz)/\∀(j:Nat) u,f[j]?=θ u->w.cell? (i.add j)=θ u):=by
  intro sz ys L
  cases L with
  | emp k cap _=>grind
  | list b off cap _ _ c M E V F l h1 m H=>
    refine⟨_,cap,rfl,.inr ?_⟩
    have t:∀j,j<Ξ (ys.flatMap D.cells)->∃x y,ys[j/sz]?=θ x/\x.cells[j%sz]?=θ y/\(ys.flatMap D.cells)[j]?=θ y/\0<sz:=by
     intro j A;rw[Gs ys l]at A;have p:0<sz:=z5;have hd:j/sz<Ξ ys:=by rw[Zey p];exact A
     have B:j%sz<Ξ ys[j/sz].cells:=by rw[l _ (Zae hd)];exact Zev _ p
     refine⟨ys[j/sz],ys[j/sz].cells[j%sz],Zaa hd,Zaa B,?_,p⟩;have:=UK ys l (j/sz) _ (j%sz) _ (Zaa hd) (Zaa B);rwa [Zcm,Zei]at this
    refine⟨⟨b,off,κ⟩,(List.range (Ξ (ys.flatMap D.cells))).map λj=>c (j/sz) (j%sz),rfl,⟨zs,λj u y q hy=>?_⟩,l,λj u q=>?_⟩;grind;obtain⟨A,rfl⟩:=uo q;have⟨x,y',h2,C,I,_⟩:=t j A;rw[FC];have:=m _ _ _ _ h2 C;rwa [Zfx,Zcm,Zei]at this
 cases r<;>simp only[VA]at hy
 case d x=>
  cases x<;>simp only at hy
  case nil sz=>
   have hr:A5 (OS β X S) w v (.nil sz):=hr;have:∃k,v=.slice k 0 0:=by cases hr;exact⟨_,rfl⟩
   grind
  case list sz xs=>exact⟨sz,xs,hy,key sz xs hr⟩
 case lim sz xs=>exact⟨sz,xs,hy,key sz xs hr.1⟩
 case row id n sz e xs=>
  have⟨E,_,N⟩:=hr;have z:=h.boxes id;rw[E]at z;have⟨h1,h2,vals,C,I⟩:=z;refine⟨sz,xs,hy,?_⟩;rcases C with⟨J,⟨s,O⟩|⟨g,cap,cur,s,Q,R,W,B,T,U⟩⟩|⟨O,_,k,s⟩;grind;refine⟨θ ⟨g,0,κ⟩,cap,by rw[N,s],.inr ⟨_,vals,rfl,I,h2,λj u q=>?_⟩⟩;rw[FC,Zbn];rw[<-U,Zbw]at q;split at q;simp[World.cell?,R];simpa using q
  cases q
  grind
def Wm{t ty e}{i}(f:P.underlying t=θ (.slice e))(g:P.info? e=θ i)b d n cap c(h:n<=cap):
 (Builtin.append_ #[t,t] ty #[.slice b n cap,.slice d 0 c]).run P w=.ok (.slice b n cap) w:=by
 cases b<;>cases d<;>simp[Builtin.append_,run_underlying f,sizeOf,typeInfo,g,Builtin.lenOf,h,Builtin.firstCells,loadCells,loadCellsFrom,storeCells]
def cU(h:SimB X G β S a w){x y}{t e}(ho:o.op=.call ⟨.builtin .append,#[x,y],#[t,t]⟩)(R:P.underlying t=θ (.slice e)){sz}{ys}(T:sz=AJ P e)(F:Qb P e=ν){p}{ad}{c}(hy:a.eval y=.slice ad (Ξ ys) c)(U:ys=[]\/∃m d,ad=θ m/\BC (OS β X S) w d (ys.flatMap D.cells)/\(∀x∈ys,Ξ x.cells=p)/\∀(j:Nat) u,d[j]?=θ u->w.cell? (m.add j)=θ u)(V:ys=[]\/p=sz){xs}(H:∀x∈xs,Ξ x.cells=sz){vals}{O}(hO:∀b,O b->OS β X S b)(hl:BC O w vals (xs.flatMap D.cells)){I}{cap}(Q:a.eval x=.slice I (Ξ xs) cap)(hcap:Ξ xs<=cap)(J:Ξ xs=0/\cap=0\/∃q,I=θ q/\∀(j:Nat) u,vals[j]?=θ u->w.cell? (q.add j)=θ u)(hm:Ξ xs+Ξ ys<=maxLen)(W:(Ξ xs+Ξ ys)*SJ P e<=140737488355328)(Y:cap<Ξ xs+Ξ ys):
 ∃cp w',(execOp a.eval o).run P w=.ok (.value (.slice (θ ⟨w.heap.size,0,κ⟩) (Ξ xs+Ξ ys) cp)) w'/\Below w.heap.size w w' /\
  ∃n,BM w' e sz (.slice (θ ⟨w.heap.size,0,κ⟩) (Ξ xs+Ξ ys) cp) (Ξ (xs++ys)) n/\BC O w n ((xs++ys).flatMap D.cells)/\(∀x∈ys,Ξ x.cells=sz):=by
 have⟨i,z,K,F,Z⟩:=Oa F;have g:sz=i.size:=by rw[T,Lq K]
 have r:SJ P e=i.bytes:=by simp[SJ,K]
 rw[r]at W;have B:ys≠[]:=z5;obtain⟨m,d,rfl,L,A,k⟩:=U.resolve_left B;have hse:p=sz:=V.resolve_left B;subst hse;have hm0:0<Ξ ys:=List.length_pos_iff.2 B;have f:Ξ d=Ξ ys*i.size:=by rw[L.1,Gs ys A,g]
 have l:Ξ vals=Ξ xs*i.size:=by rw[hl.1,Gs xs H,g]
 have M:((Ξ xs+Ξ ys:Nat):Int)<=9223372036854775807:=by unfold maxLen at hm;omega
 have C:BC O w (vals++d) ((xs++ys).flatMap D.cells):=by rw[Zcw];exact hl.append (L.mono (Cg.of_sub hO))
 have E:∀v' w',(Builtin.append_ #[t,t] o.type #[a.eval x,a.eval y]).run P w=.ok v' w'->(execOp a.eval o).run P w=.ok (.value v') w':=by
  intro v' w' hr;simp[execOp,ho,resolve,invoke,builtin,hr]
 have hge:Ξ xs+Ξ ys<=grownCap w (Ξ xs+Ξ ys) cap e:=grownCap_ge w _ cap e;have hcm:grownCap w (Ξ xs+Ξ ys) cap e<=maxLen:=grownCap_le_maxLen w _ cap e hm
 have hr:(Builtin.append_ #[t,t] o.type #[a.eval x,a.eval y]).run P w=.ok (.slice (θ ⟨w.heap.size,0,κ⟩) (Ξ xs+Ξ ys) (grownCap w (Ξ xs+Ξ ys) cap e)) (w.drew.alloc (.cells (vals.toArray++d.toArray++Builtin.zeroCells z.cells (grownCap w (Ξ xs+Ξ ys) cap e-(Ξ xs+Ξ ys))) e)):=by
  rcases J with⟨hx0,hc0⟩|⟨q,rfl,s⟩;subst hc0;have hxe:xs=[]:=Zau hx0;subst hxe;have N:vals=[]:=Zau z5;subst N;rw[Q,hy]
  cases I with
  | none=>
    have:=run_append_nil (P:=P) w t o.type e i z R K F m (Ξ ys) c d f k hm0 (by simpa using M) z5;grind
  | some I=>
    have:=run_append_grow (P:=P) w t o.type e i z R K F I 0 0 [] zs (λj v Q=>by simp at Q) m (Ξ ys) c d f k z0 z5 (growslice_fits z0 (by simpa using W));grind
  rw[Q,hy];exact run_append_grow (P:=P) w t o.type e i z R K F q (Ξ xs) cap vals l s m (Ξ ys) c d f k z0 M (growslice_fits z0 W)
 refine⟨_,_,E _ _ hr,(Below.refl _ _).drew.alloc (Zam _) _,vals++d,.inl ⟨?_,.inr ⟨w.heap.size,grownCap w (Ξ xs+Ξ ys) cap e,_,zs,Zag _,heap_alloc_new w.drew _,by simpa using hge,hcm,?_,?_⟩⟩,C,A⟩;grind;simp only[Array.size_append,Zdt,size_zeroCells,Z,l,f,<-g,<-Zcu];grind;have:Ξ (xs++ys)*p=Ξ (vals++d):=by simp[l,f,g,Zcu]
 grind
def mZ(h:SimB X G β S a w){x y}{t e}(ho:o.op=.call ⟨.builtin .append,#[x,y],#[t,t]⟩)(hu:P.underlying t=θ (.slice e)){id n sz}{xs ys}(hx:U9 β (OS β X S) S w (a.eval x) (.row id n sz e xs))(hsz:sz=AJ P e)(M:Qb P e=ν){J}{ad}{c}(hy:a.eval y=.slice ad (Ξ ys) c)(hys:ys=[]\/∃B d,ad=θ B/\BC (OS β X S) w d (ys.flatMap D.cells)/\(∀x∈ys,Ξ x.cells=J)/\∀(j:Nat) u,d[j]?=θ u->w.cell? (B.add j)=θ u)(hm:Ξ xs+Ξ ys<=maxLen)(s:(Ξ xs+Ξ ys)*SJ P e<=140737488355328)(hs':ys=[]\/J=sz):
 EE P X G S a w o ⟨.sl id (n+1),[(id,.row sz e (xs++ys),n+1)],[]⟩:=by
 have⟨R,hver,T⟩:=hx;have hid:id<Ξ S:=UO R zs;have N:=h.boxes id;rw[R]at N;have⟨hpos,C,vals,E,hl⟩:=N;have v:(An S id).box.owned=ν:=by rw[R];rfl
 have fin:∀I w',(execOp a.eval o).run P w=.ok (.value I) w'->w.heap.size<=w'.heap.size->AC X.base X.M w w'->
  (∀b,b<w.heap.size->Ai (β id)≠θ b->w'.heap[b]?=w.heap[b]?)->(∀b,Ai I=θ b->Ai (β id)=θ b\/w.heap.size<=b)->(∀x∈ys,Ξ x.cells=sz)->
  (∃f,BM w' e sz I (Ξ (xs++ys)) f/\BC (OS β X S) w f ((xs++ys).flatMap D.cells))->
  EE P X G S a w o ⟨.sl id (n+1),[(id,.row sz e (xs++ys),n+1)],[]⟩:=by
  intro I w' hr hs F U V W hrw;have⟨f,Y,Z⟩:=hrw;refine .inl ⟨I,w',hr,Pn β id I,?_,?_,rfl⟩
  ·exact h.rebox (R':=X.R) (λ_ h=>h) hid (.inl (by rw[hver];omega)) hs F (λb s hk=>U b s (hk v))
    (λ_ b s=>by
     rcases V b s with K|K;exact⟨.inl ⟨K,v⟩,(h.mine id b v K).2⟩;exact⟨.inr (.inl K),λhr=>by have:=(h.rs b hr).2;omega⟩)
    (λk _=>⟨hpos,λz M=>by rcases List.mem_append.1 M with M|M;exact C z M;exact W z M,f,by simp only[Pn,if_true];exact Y,Z.mono k⟩)
  have:AU (B5 [(id,.row sz e (xs++ys),n+1)] S) id=n+1:=by simp[B5,AU,CG,hid]
  exact⟨by rw[this];exact Zam _,λ_=>by simp[Pn]⟩
 have⟨i,z,hi,hz',hzs⟩:=Oa M;have l:sz=i.size:=by rw[hsz,Lq hi]
 obtain⟨b0,cap,q,hle,hold⟩:∃b0 cap,a.eval x=.slice b0 (Ξ xs) cap/\Ξ xs<=cap/\(Ξ xs=0/\cap=0\/∃ad0,b0=θ ad0/\∀(j:Nat) u,vals[j]?=θ u->w.cell? (ad0.add j)=θ u):=by
  rw[T];rcases E with⟨_,⟨m,h0⟩|⟨g,cap,cur,m,_,K,hn,_,_,htk⟩⟩|⟨h0,_,B,m⟩;exact⟨_,_,by rw[m,h0],z0,.inl ⟨h0,rfl⟩⟩
  ·refine⟨_,cap,m,hn,.inr ⟨_,rfl,λj u hj=>?_⟩⟩;rw[FC,Zbn];rw[<-htk,Zbw]at hj;split at hj;simp[World.cell?,K];simpa using hj
   cases hj
  exact⟨_,_,by rw[m,h0],z0,.inl ⟨h0,rfl⟩⟩
 by_cases L:ys=[];subst L;simp only[Zcq]at fin ⊢;refine fin (a.eval x) w ?_ (Zam _) (AC.refl _ _ _) (λ_ _ _=>rfl) (λb s=>.inl (by rw[<-T];exact s)) (λ_ h=>by cases h) ⟨vals,by rw[T];exact E,hl⟩;have:=Wm (P:=P) (w:=w) (ty:=o.type) hu hi b0 ad (Ξ xs) cap c hle;simp only[execOp,ho,resolve,invoke,builtin,Sem.run_bind,Sem.run_pure,Result.andThen_ok];simp only[List.map_toArray,Zas,Zbm,hy,q,Zfs];rw[this];simp
 ·by_cases r:Ξ xs+Ξ ys<=cap
  ·
    obtain⟨B,d,rfl,hnl,O,hnews⟩:=hys.resolve_left L;have hse:J=sz:=hs'.resolve_left L;subst hse;have hm0:0<Ξ ys:=List.length_pos_iff.2 L;have p:Ξ d=Ξ ys*i.size:=by rw[hnl.1,Gs ys O,l]
    have H:Ξ vals=Ξ xs*i.size:=by rw[hl.1,Gs xs C,l]
    have hflat:BC (OS β X S) w (vals++d) ((xs++ys).flatMap D.cells):=by rw[Zcw];exact hl.append hnl
    rcases E with⟨hlen,⟨m,h0⟩|⟨g,A,cur,m,hbg,K,hn,hcm,hcs,htk⟩⟩|⟨h0,_,a0,m⟩;rw[T,m]at q;simp at q;omega
    ·have hcc:A=cap:=by rw[T,m]at q;simp at q;omega
     subst hcc;have hc0:A≠0:=z0;have Q:Ξ xs*i.size+Ξ d<=cur.size:=by rw[p,hcs,l,<-Zcu];exact Zcx _ r
     have hr:=run_append_room (P:=P) w t o.type e i hu hi g (Ξ xs) A cur K B (Ξ ys) c d p hnews hnl.oneCell r Q;have hβb:Ai (β id)=θ g:=by rw[m];simp[Ai,hc0]
     have hexec:∀I w',(Builtin.append_ #[t,t] o.type #[a.eval x,a.eval y]).run P w=.ok I w'->(execOp a.eval o).run P w=.ok (.value I) w':=by
      intro I w' hr;simp[execOp,ho,resolve,invoke,builtin,hr]
     refine fin _ _ (hexec _ _ (by rw[T,m,hy];exact hr)) zs (AC.setRow _ _ _ (h.mine id g v hβb).1) (λb _ hk=>setRow_other w g b _ (λe=>hk (by rw[hβb,e]))) (λb s=>.inl (by rw[hβb];simp[Ai,hc0]at s;rw[s])) O
      ⟨vals++d,.inl ⟨by simp[H,p,l,Zcu],.inr ⟨g,A,_,zs,hbg,setRow_heap w g cur _ e _ K,by simpa using r,hcm,?_,?_⟩⟩,hflat⟩
     simp only[Zdt,Zar,Zan,Zcd,Zbv];rw[hcs]at Q ⊢;omega;have:Ξ (xs++ys)*J=Ξ (vals++d):=by simp[H,p,l,Zcu]
     rw[this,<-l,htk];exact Zfd
    rw[T,m]at q;simp at q;omega
  have⟨cp,w',hr,F,f,Y,Z,W⟩:=cU h ho hu hsz M hy hys hs' C (λ_ h=>h) hl q hle hold hm s z0;exact fin _ _ hr F.size ((AC.of F).weaken h.hbase λ_ _ h=>h) (λb s _=>F.block b s) (λb s=>.inr (by simp[Ai]at s;omega)) W ⟨f,Y,Z⟩
def Wg(h:SimB X G β S a w){d}(hd:d<Ξ S){x y}{t e}(ho:o.op=.call ⟨.builtin .append,#[x,y],#[t,t]⟩)(hu:P.underlying t=θ (.slice e)){sz}{xs ys}(Q:sz=AJ P e)(F:0<sz)(hz:Qb P e=ν){H}{R}{c}(hy:a.eval y=.slice R (Ξ ys) c)(T:ys=[]\/∃I g,R=θ I/\BC (OS β X S) w g (ys.flatMap D.cells)/\(∀x∈ys,Ξ x.cells=H)/\∀(j:Nat) u,g[j]?=θ u->w.cell? (I.add j)=θ u)(hm:Ξ xs+Ξ ys<=maxLen)(m:(Ξ xs+Ξ ys)*SJ P e<=140737488355328)(U:ys=[]\/H=sz)(hx:(∃f,a.eval x=.slice f 0 0/\xs=[])\/(A5 (OS β X S) w (a.eval x) (.list sz xs)/\Yx (a.eval x)=Ξ xs/\ys≠[])):
 EE P X G S a w o ⟨.sl d ((An S d).ver+1),[(d,.row sz e (xs++ys),(An S d).ver+1)],[]⟩:=by
 have⟨i,z,hi,hz',hzs⟩:=Oa hz;by_cases J:ys=[];subst J;obtain⟨f,k,rfl⟩:=hx.resolve_right λh=>h.2.2 rfl
 have L:(execOp a.eval o).run P w=.ok (.value (.slice f 0 0)) w:=by
  have:=Wm (P:=P) (w:=w) (ty:=o.type) hu hi f R 0 0 c (Zam _);simp only[execOp,ho,resolve,invoke,builtin,Sem.run_bind,Sem.run_pure,Result.andThen_ok];simp only[List.map_toArray,Zas,Zbm,hy,k,Zfs];rw[this];simp
 have⟨V,W,Y⟩:=P0 h hd (Below.refl _ _) (v:=.slice f 0 0) (e:=e) (xs:=[]) (vals:=[]) F (λ_ h=>by cases h)
  (by cases f with
   | none=>exact .inl (World.ownsRow_nil w _ e _)
   | some q=>exact .inr ⟨rfl,rfl,q,rfl⟩) (λb m=>by cases f<;>simp[Ai]at m) BC.nil
 exact .inl ⟨_,w,L,V,W,Y,rfl⟩;have hpos:0<Ξ ys:=List.length_pos_iff.2 J
 obtain⟨Z,cap,vals,k,hle,M,n,hl,hcap⟩:∃Z cap,∃vals:Γ Ψ,a.eval x=.slice Z (Ξ xs) cap/\Ξ xs<=cap/\(Ξ xs=0/\cap=0\/∃f,Z=θ f/\∀(j:Nat) u,vals[j]?=θ u->w.cell? (f.add j)=θ u) /\
  (∀x∈xs,Ξ x.cells=sz)/\BC (OS β X S) w vals (xs.flatMap D.cells)/\cap=Ξ xs:=by
  rcases hx with⟨f,k,rfl⟩|⟨hr,hc,_⟩;exact⟨f,0,[],by simpa using k,zs,.inl ⟨rfl,rfl⟩,(λ_ h=>by cases h),BC.nil,rfl⟩;obtain⟨sz2,xs2,⟨rfl,rfl⟩,ad1,c1,p,A⟩:=Yj h (r:=.d (.list sz xs)) hr (K:=λs l=>sz=s/\xs=l) ⟨rfl,rfl⟩;have B:c1=Ξ xs:=by rw[p]at hc;simpa [Yx] using hc
  rcases A with hxe|⟨ad2,g,rfl,h3,h4,h5⟩;subst hxe;exact⟨ad1,c1,[],p,zs,.inl ⟨rfl,by simpa using B⟩,(λ_ h=>by cases h),BC.nil,B⟩;exact⟨_,c1,g,p,z0,.inr ⟨ad2,rfl,h5⟩,h4,h3,B⟩
 have⟨cp,w',hr,C,E,hr1,hr2,hyz⟩:=cU h ho hu Q hz hy T U n (λ_ h=>h) hl k hle M hm m z0
 have⟨V,W,Y⟩:=P0 h hd C (e:=e) (xs:=xs++ys) (vals:=E) F (λq N=>by rcases List.mem_append.1 N with N|N;exact n q N;exact hyz q N) hr1 (λb m=>by simp[Ai]at m;omega)
  (hr2.mono ⟨C.size,λb m O=>by
   rcases O with O|O;grind;simp[Ai]at O;omega,λb m _=>C.block b m⟩)
 exact .inl ⟨_,w',hr,V,W,Y,rfl⟩
end
section
variable {P:Η} {X:Cx} {G:Nat->Prop} {β:Nat->Ψ} {S:AS} {a:Act} {w:Λ} {o:Oper}
theorem Yv{O O'}{w w'}{v}{y}(h:A5 O w v y)(d:y.bare=ν):A5 O' w' v y:=by
 cases h with
 | bool b=>exact .bool b
 | int k n=>exact .int k n
 | str s=>exact .str s
 | fn f vs xs g h1 h=>
   cases xs with
   | nil=>exact .fn f vs [] g h1 λi v y _ hy=>by simp at hy
   | cons q r=>simp[D.bare]at d
 | nil sz=>exact .nil sz
 | emp a cap sz=>exact .emp a cap sz
 | list b off cap sz xs c e=>cases xs with
   | nil=>exact absurd rfl e
   | cons q r=>simp[D.bare]at d
 | _=>simp[D.bare]at d
theorem SL(h:SimB X G β S a w){cs}{K:Γ D->Bx->Prop}(hy:EY (σOf S) cs λl b=>UX l λl=>K l b):
 ∃l b,K l b/\FZ S [] b/\(∀z∈b,∃sz xs,z.2.1=.frow sz xs)/\Pq S b cs l /\
  ∀vs:Γ Ψ,Ξ vs=Ξ cs->(∀(j:Nat) v c,vs[j]?=θ v->cs[j]?=θ c->CI β (AU S) (OS β X S) w v c)->Pr X G β S a w b λO=>BC O w vs l:=by
 have⟨l,b,hK,i,f,k,m,p⟩:=NU h hy;rw[aK]at hK;refine⟨_,b,hK,i,f,⟨by simp[k],λj c y g e=>?_⟩,λvs r hr=>(p vs r hr).mono (λ_ h=>h) λO h=>h.norm⟩;simp only[Zaz]at e
 cases hz:l[j]? with
 | none=>simp[hz]at e
 | some z=>
   simp[hz]at e;subst e;have:=m j c z g hz
   cases c with
   | d q=>rw[this]
   | sl id n=>
     have⟨sz,xs,h1,h2,s⟩:=this;exact⟨sz,xs,by rw[h1];rfl,h2,s⟩
   | own _ _ _=>exact this
theorem XN{b}{T}(p:Fr S b T)(h:SimB X G β T a w){cs}{l}(i:Pq S b cs l){vals}(r:Ξ vals=Ξ cs)(s:∀(j:Nat) v c,vals[j]?=θ v->cs[j]?=θ c->CI β (AU T) (OS β X T) w v c):
 BC (OS β X T) w vals l:=by
 refine⟨by rw[r];exact i.1,λj v z A x=>?_⟩;have y:j<Ξ cs:=by rw[i.1];exact AG x
 have f:=s j v cs[j] A (Zaa y);have g:=i.2 j cs[j] z (Zaa y) x;generalize cs[j]=c at f g
 cases c with
 | d q=>rw[g];exact⟨f.1.norm1,Ya q f.2⟩
 | sl id n=>
   have⟨sz,xs,B,E,k⟩:=g
   have t:(An T id).box=.frow sz xs:=by
    rcases k with⟨_,k⟩|k;exact p.mem _ k;rw[p.keepF id (by rw[k];rfl)];exact k
   have m:=h.boxes id;rw[t]at m;have u:=f.2 (by simp only[AU];rw[p.ver];exact E.symm);rw[B,u];exact⟨m,rfl⟩
 | own sz e xs=>exact g.elim
def QE(h:SimB X G β S a w){r}{v}(hr:U9 β (OS β X S) S w v r){K}(hy:SH (σOf S) r K):
 ∃y b,K y b/\FZ S [] b/\y.mut=ξ/\Pr X G β S a w b λO=>Wo O w v y:=by
 cases r<;>simp only[SH]at hy
 case any=>exact⟨_,[],hy,trivial,rfl,λ_ _ _ _ _=>trivial⟩
 case d y=>
  rw[WV]at hy;exact⟨_,[],hy,trivial,rfl,λB _ _ _ q=>(A5.mono (Cg.of_sub q) hr).norm⟩
 case lim sz xs=>exact⟨_,[],hy,trivial,rfl,λB _ _ _ q=>A5.mono (Cg.of_sub q) hr.1⟩
 case vptr id n off cs=>
  have⟨l,b,hK,F,H,s,hh⟩:=SL h hy;rw[Ct]at hK;have⟨h1,h2,I,C,J⟩:=hr;have L:FZ S [] (b++[(id,.fvar l,n)]):=F.snoc ⟨h2,.inr (.inl ⟨cs,l,h1,rfl,by simpa using s⟩)⟩;refine⟨_,_,hK,L,rfl,λB t p u q=>?_⟩;have f:=u.boxes id;rw[p.mem (id,.fvar l,n) (t _ zs)]at f;have⟨U,_⟩:=f;rw[C]at U;have:=U.drop off;rw[Zbn]at this;show A5 _ _ _ _;rw[J];exact this
 case row id n sz e xs=>
  have⟨h1,h2,C⟩:=hr;refine⟨_,_,hy,⟨⟨h2,.inl ⟨sz,e,xs,h1,rfl⟩⟩,trivial⟩,rfl,λB t p u q=>?_⟩;have f:=u.boxes id;rw[p.mem (id,.frow sz xs,n) (t _ zs)]at f;show A5 _ _ _ _;rw[C];exact f
 case eptr id n sz e xs i off=>
  have⟨h1,h2,I,m,cap,C,J⟩:=hr;have⟨_,y,k,hK⟩:=hy.go;simp only[Zaw]at k;rw[Ct]at hK;refine⟨_,_,hK,⟨⟨h2,.inl ⟨sz,e,xs,h1,rfl⟩⟩,trivial⟩,rfl,λB t p u q=>?_⟩;have f:=u.boxes id;rw[p.mem (id,.frow sz xs,n) (t _ zs)]at f;show A5 _ _ _ _;have f:A5 _ _ _ _:=f;rw[C]at f;rw[J];generalize D:Value.slice (θ ⟨I,0,κ⟩) m cap=vv at f
  cases f with
  | emp=>simp at k
  | list b' V W _ _ c hne hb hO Y Z M A g=>
    simp at D;obtain⟨⟨rfl,rfl⟩,_,_⟩:=D;have:=A5.ptr (O:=OS β X (B5 B S)) (w:=w) I (0+i*sz) y.cells (λj=>c i j) (λ_=>hb) (λ_=>hO) (λz E=>M y (Zbf k) z E) (λj z E=>A _ _ _ _ k E) λj z E=>g _ _ _ _ k E;have:=this.drop off;rwa [Zbn]at this
 case cagg cs=>
  have⟨l,b,hK,F,H,s,hh⟩:=SL h hy;have⟨us,hu,N,Q⟩:=hr;refine⟨_,_,hK,F,rfl,λB t p u q=>?_⟩
  have g:=XN p u (s.mono t) (vals:=us.toList) (by simpa using N) (λj v c R hc=>by
   have:=(Q j v c (by simpa using R) hc).1
   cases c with
   | d x=>exact⟨this.1.mono (Cg.of_sub q),this.2⟩
   | sl id n=>exact⟨by have h1:=this.1;simp only[AU]at h1 ⊢;rw[p.ver];exact h1,λe=>this.2 (by simp only[AU]at e ⊢;rw[p.ver]at e;exact e)⟩
   | own _ _ _=>exact this)
  show A5 _ _ _ _;rw[hu]
  exact .agg us l (by have:=g.1;simpa using this) (λy hy=>by
   obtain⟨j,hj,rfl⟩:=List.mem_iff_getElem.1 hy;have T:j<us.size:=by have:=g.1;simp at this;omega
   exact(g.2 j us[j] l[j] (by simp[T]) (Zaa hj)).2) λi v x R hx=>(g.2 i v x (by simpa using R) hx).1
def dF{t}{K}(hy:jZ P t K):∃y,K (.d y)/\∀O w,A5 O w (.slice κ 0 0) y:=by
 unfold jZ at hy;split at hy;exact⟨_,hy,λ_ _=>.emp _ _ _⟩;exact hy.elim
theorem R8(h:SimB X G β S a w){g}(m:CZ g a):∀{args}{ts}{K},K4 P (σOf S) (ρOf S g) args ts K->
 ∃vs b,K vs b/\FZ S [] b/\Ξ vs=Ξ args/\Pr X G β S a w b λO=>∀(i:Nat) p y,args[i]?=θ p->vs[i]?=θ y->Wo O w (a.eval p) y
 | [],ts,K,hy=>⟨[],[],hy,trivial,rfl,λ_ _ _ _ _ i p y e _=>by simp at e⟩
 | q::r,ts,K,hy=>by
   unfold K4 at hy;split at hy;rename_i k
   cases ts with
   | nil=>exact hy.elim
   | cons t ts=>
     have⟨y,hy,d⟩:=dF hy;have⟨vs,bs,hK,f,n,c⟩:=R8 h m hy;refine⟨_,_,hK,f,by simp[n],c.mono (λ_ h=>h) λO l i p z e j=>?_⟩
     cases i with
     | zero=>simp at e j;subst e;subst j;rw[UR k];exact d O w
     | succ i=>exact l i p z (by simpa using e) (by simpa using j)
   have⟨y,b,hK,s,_,d⟩:=QE h (ρ_sound h m q) hy;have⟨vs,bs,hK,f,n,c⟩:=R8 h m hK;refine⟨_,_,hK,s.append f,by simp[n],(d.and c).mono (λ_ h=>h) λO l i p z e j=>?_⟩
   cases i with
   | zero=>simp at e j;subst e;subst j;exact l.1
   | succ i=>exact l.2 i p z (by simpa using e) (by simpa using j)
def eX(β:Nat->Ψ)(O:Nat->Prop)(w:Λ)(S:AS)(b:Bx)(v:Ψ)(id n:Nat):AV->Prop| .own sz e xs=>(An S id).box=.row sz e xs/\(An S id).ver=n/\v=β id| .optr l=>∃cs,(An S id).box=.var cs/\(An S id).ver=n/\v=β id/\Pq S b cs l| .cc k l=>k=κ/\∃(vs:Array Ψ)(ds:Γ D)(sz:Nat)(e:Υ)(xs:Γ D),l=ds.map .d++[.own sz e xs]/\v=.agg (vs.push (β id))/\BC O w vs.toList ds/\(An S id).box=.row sz e xs/\(An S id).ver=n| _=>False
def eX.mono{O}{b c}(d:∀y∈b,y∈c){v}{id n}{y}(h:eX β O w S b v id n y):eX β O w S c v id n y:=by
 cases y<;>first|exact h|(have⟨cs,h1,h2,e,f⟩:=h;exact⟨cs,h1,h2,e,f.mono d⟩)
def σ_row{id n id' n' sz}{e}{xs}(h:σOf S id n=.row id' n' sz e xs):id'=id/\n'=n/\(An S id).box=.row sz e xs/\(An S id).ver=n:=by
 simp only[σOf,res]at h;generalize An S id=s at h;have⟨d,b,m⟩:=s
 cases b<;>simp only at h<;>try (cases h;done)
 all_goals (split at h<;>cases h)
 rename_i c;exact⟨rfl,rfl,rfl,c.symm⟩
theorem ff:∀{cs}{K},Yn (σOf S) cs K->∀{vs},Ξ vs=Ξ cs->
 (∀(i:Nat) u x,vs[i]?=θ u->cs[i]?=θ x->CI β (AU S) (OS β X S) w u x/\u.oneCell'=ν)->
 ∃l id n,K l id n/\∃(us:Γ Ψ)(ds:Γ D)(sz:Nat)(e:Υ)(xs:Γ D),l=ds.map .d++[.own sz e xs]/\vs=us++[β id]/\BC (OS β X S) w us ds/\(An S id).box=.row sz e xs/\(An S id).ver=n
 | [],_,hy,_,_,_=>hy.elim
 | .d x::r,K,hy,vs,hl,hc=>by
   simp only[Yn,WV]at hy
   cases vs with
   | nil=>simp at hl
   | cons v vs=>
     have⟨l,id,n,hK,us,ds,sz,e,xs,h1,h2,b,h4⟩:=ff hy (vs:=vs) (by simpa using hl) λi u x c hx=>hc (i+1) u x (by simpa using c) (by simpa using hx);have d:=(hc 0 v (.d x) rfl rfl).1;refine⟨_,id,n,hK,v::us,_::ds,sz,e,xs,by rw[h1];rfl,by rw[h2];rfl,⟨by simp[b.1],λj u y c hy=>?_⟩,h4⟩
     cases j with
     | zero=>simp at c hy;subst c;subst hy;exact⟨d.1.norm,by cases x<;>first|rfl|exact d.2⟩
     | succ j=>exact b.2 j u y (by simpa using c) (by simpa using hy)
 | .sl id n::r,K,hy,vs,hl,hc=>by
   simp only[Yn]at hy;split at hy;split at hy;rename_i f g sz e xs hr
   match vs,hl with
   | [v],_=>
     have d:=(hc 0 v (.sl id n) rfl rfl).1;have h1:=σ_row hr;obtain⟨rfl,rfl,h2,b⟩:=h1;exact⟨_,_,_,hy,[],[],sz,e,xs,rfl,by rw[d.2 b.symm];rfl,BC.nil,h2,b⟩
   exact hy.elim;exact hy.elim
 | .own _ _ _::_,_,hy,_,_,_=>hy.elim
def lG(h:SimB X G β S a w){r:RV}{v:Ψ}(hr:U9 β (OS β X S) S w v r){K:AV->Bx->Δ (Nat×Nat)->Prop}(hy:Zn (σOf S) r K):
 ∃y b u,K y b u/\FZ S [] b/\match u with
  | none=>y.mut=ξ/\Pr X G β S a w b λO=>Wo O w v y
  | some (id,n)=>eX β (OS β X S) w S b v id n y:=by
 unfold Zn at hy;split at hy;rename_i id n sz e xs;exact⟨_,[],θ (id,n),hy,trivial,hr⟩;rename_i id n cs;have⟨l,b,hK,d,m,f,t⟩:=SL h hy;have⟨h1,h2,z,g,j⟩:=hr;exact⟨_,b,θ (id,n),hK,d,cs,h1,h2,by rw[j,g],f⟩;rename_i cs;split at hy;obtain⟨vs,rfl,p,q⟩:=hr;have⟨l,id,n,hK,us,ds,sz,e,xs,h1,h2,g,j,h5⟩:=ff hy (vs:=vs.toList) (by simpa using p) λi u x s hx=>q i u x (by simpa using s) hx;exact⟨_,[],θ (id,n),hK,trivial,rfl,us.toArray,ds,sz,e,xs,h1,by rw[show vs=us.toArray.push (β id)from by apply Array.ext';simp[h2]],by simpa using g,j,h5⟩;have⟨y,b,hK,d,k,c⟩:=QE h hr hy;exact⟨y,b,κ,hK,d,k,c⟩;have⟨y,b,hK,d,k,c⟩:=QE h hr hy;exact⟨y,b,κ,hK,d,k,c⟩
theorem Uz(h:SimB X G β S a w){g}(A:CZ g a):∀{args}{ts}{K},Jl P (σOf S) (ρOf S g) args ts K->
 ∃vs b us,K vs b us/\FZ S [] b/\Ξ vs=Ξ args/\Ξ us=Ξ args /\
  (∀(i:Nat) p y id n,args[i]?=θ p->vs[i]?=θ y->us[i]?=θ (θ (id,n))->eX β (OS β X S) w S b (a.eval p) id n y) /\
  (∀(i:Nat) y,vs[i]?=θ y->us[i]?=θ κ->y.mut=ξ) /\
  Pr X G β S a w b λO=>∀(i:Nat) p y,args[i]?=θ p->vs[i]?=θ y->us[i]?=θ κ->Wo O w (a.eval p) y
 | [],ts,K,hy=>⟨[],[],[],hy,trivial,rfl,rfl,(λi p y id n e=>by simp at e),(λi y hy=>by simp at hy),λ_ _ _ _ _ i p y e _=>by simp at e⟩
 | q::r,ts,K,hy=>by
   unfold Jl at hy;split at hy;rename_i v
   cases ts with
   | nil=>exact hy.elim
   | cons t ts=>
     have⟨y,hy,x⟩:=dF hy;have⟨vs,bs,us,hK,l,C,m,j,s,f⟩:=Uz h A hy;refine⟨_,_,_,hK,l,by simp[C],by simp[m],λi p z id n e d k=>?_,λi z d k=>?_,f.mono (λ_ h=>h) λO I i p z e d k=>?_⟩
     cases i with
     | zero=>simp at k
     | succ i=>exact j i p z id n (by simpa using e) (by simpa using d) (by simpa using k)
     cases i with
     | zero=>simp at d;subst d;rfl
     | succ i=>exact s i z (by simpa using d) (by simpa using k)
     cases i with
     | zero=>simp at e d;subst e;subst d;rw[UR v];exact x O w
     | succ i=>exact I i p z (by simpa using e) (by simpa using d) (by simpa using k)
   have⟨y,b,u,hK,J,k⟩:=lG h (ρ_sound h A q) hy;have⟨vs,bs,us,hK,l,C,m,j,s,f⟩:=Uz h A hK;refine⟨_,_,_,hK,J.append l,by simp[C],by simp[m],λi p z id n e d c=>?_,λi z d c=>?_,?_⟩
   cases i with
   | zero=>simp at e d c;subst e;subst d;subst c;exact k.mono λy hy=>by simp[hy]
   | succ i=>exact(j i p z id n (by simpa using e) (by simpa using d) (by simpa using c)).mono λy hy=>by simp[hy]
   cases i with
   | zero=>simp at d c;subst d;subst c;exact k.1
   | succ i=>exact s i z (by simpa using d) (by simpa using c)
   intro B D E F H i p z e d c
   cases i with
   | zero=>simp at e d c;subst e;subst d;subst c;exact k.2 B (λy hy=>D y (by simp[hy])) E F H
   | succ i=>exact f B (λy hy=>D y (by simp[hy])) E F H i p z (by simpa using e) (by simpa using d) (by simpa using c)
theorem ZL(h:SimB X G β S a w){g}(k:CZ g a):∀{args}{K},Nc (σOf S) (ρOf S g) args K->
 ∃l b,K l b/\FZ S [] b/\Ξ l=Ξ args/\(∀y∈l,y.one=ν)/\Pr X G β S a w b λO=>∀(i:Nat) p y,args[i]?=θ p->l[i]?=θ y->A5 O w (a.eval p) y
 | [],K,hy=>⟨[],[],hy,trivial,rfl,(λ_ h=>by cases h),λ_ _ _ _ _ i p y e _=>by simp at e⟩
 | q::r,K,hy=>by
   unfold Nc at hy;have⟨y,b,hK,n,_,f⟩:=QE h (ρ_sound h k q) hy;split at hK;rename_i t;have⟨h1,hK⟩:=Av hK;have⟨l,bs,hK,j,s,ho,c⟩:=ZL h k hK;refine⟨_,_,hK,n.append j,by simp[s],λz d=>?_,(f.and c).mono (λ_ h=>h) λO m i p z e d=>?_⟩;rcases List.mem_cons.1 d with rfl|d;exact h1;exact ho z d
   cases i with
   | zero=>simp at e d;subst e;subst d;exact m.1
   | succ i=>exact m.2 i p z (by simpa using e) (by simpa using d)
   exact hK.elim
theorem j8(h:SimB X G β S a w){g}(m:CZ g a){f}{first caps}(ho:o.op=.makeFunc (.func f) first caps)(q:first.toList=[]){K:J4->Prop}(hy:Nc (σOf S) (ρOf S g) caps.toList λl b=>K ⟨.d (.fn f l),b,[]⟩):∃e,K e/\EE P X G S a w o e:=by
 have⟨l,b,hK,k,n,j,c⟩:=ZL h m hy;have⟨h1,_,_⟩:=k.run h;have hr:=c.now h k;refine⟨_,hK,.inl ⟨.func (.func f) #[] (caps.map a.eval),w,?_,β,h1,?_,rfl⟩⟩;have:first=#[]:=by cases first;simp_all
 simp[execOp,ho,Instr.makeFunc,this];refine .fn f _ _ (by simp[n]) j λi v y d hy=>?_;rw[Array.getElem?_map]at d
 cases hc:caps[i]? with
 | none=>simp[hc]at d
 | some p=>simp[hc]at d;subst d;exact hr i p y (by simpa using hc) hy
def Pe{f}(b:Hq P f=ν)args:(callFunc f args).run P w=.ok (.enter f args) w:=by
 unfold Hq at b;split at b;rename_i fn c;simp only[Zax,Zgc]at b;have d:fn.body.isNone=ξ:=by cases hfb:fn.body<;>simp[hfb]at b ⊢
 simp only[callFunc,Sem.run_bind,run_program,Result.andThen_ok,c];simp only[b.1,d,Zcz,if_false,Sem.run_pure]
 cases b
theorem ZI:∀l K,fy l K=K (l.map .d)
 | [],_=>rfl
 | x::r,K=>by rw[fy,ZI r];rfl
theorem cE:∀(b:Bx)(S:AS)(i:Nat),(∀y∈b,y.1<Ξ S)->(b.map (·.1)).Nodup->An (B5 b S) i=match b.find? (λy=>y.1==i)with|θ y=>⟨(An S i).av,y.2.1,y.2.2⟩|κ=>An S i
 | [],_,_,_,_=>rfl
 | (id,B,n)::r,S,i,hl,hn=>by
   simp only[Zas,List.nodup_cons]at hn;have hid:id<Ξ S:=hl (id,B,n) zs;simp only[B5];rw[cE r _ i (λy hy=>by rw[Ef];exact hl y (by simp[hy])) hn.2,NJ hid];by_cases he:id=i;subst he
   have c:r.find? (λy=>y.1==id)=κ:=by
    rw[List.find?_eq_none];intro y hy e;simp at e;exact hn.1 (List.mem_map.2 ⟨y,hy,e⟩)
   rw[c];simp;have d:¬i=id:=λh=>he h.symm;have f:(id==i)=ξ:=by simp[he]
   simp only[List.find?_cons,f,d,if_false]
end
def cL(A:Nat->Prop)(w:Λ)(v:Ψ):Cq->Prop| .row sz e xs=>0<sz/\(∀x∈xs,Ξ x.cells=sz)/\∃vals,BM w e sz v (Ξ xs) vals/\BC A w vals (xs.flatMap D.cells)| .var cs=>∃ds,cs=ds.map .d/\oW A w v ds| _=>False
abbrev RB:=Γ (Nat×Cq×Nat×Ψ)
def Yr(r:RB):Bx:=r.map λy=>(y.1,y.2.1,y.2.2.1)
def sF(β:Nat->Ψ)(r:RB)(i:Nat):Ψ:=match List.find? (λy=>y.1==i) r with|θ y=>y.2.2.2|κ=>β i
section
variable {P:Η} {X:Cx} {G:Nat->Prop} {β:Nat->Ψ} {S:AS} {a:Act} {w:Λ} {o:Oper}
theorem cL.rep{A}{v}{B}(h:cL A w v B){O}(f:∀b,O b->A b){β}{n}{i}(g:β i=v):LZ β n O w i B:=by
 cases B with
 | none=>trivial
 | row sz e xs=>
   have⟨h1,h2,vals,d,k⟩:=h;exact⟨h1,h2,vals,by rw[g];exact d,k.mono (Cg.of_sub f)⟩
 | var cs=>
   obtain⟨ds,rfl,b,vals,T,h1,h2,d⟩:=h;exact⟨b,vals,T,by rw[g];exact h1,h2,by have:=d.1;simpa using this,λj v c m l=>(d.mono (Cg.of_sub f)).cells j v c z5 l⟩
 | _=>exact h.elim
def jG{α:Type}{l:Γ α}{p}{y}(h:l.find? p=θ y):y∈l/\p y=ν:=z5
theorem bV:∀{l:Bx},(l.map (·.1)).Nodup->∀{y z},y∈l->z∈l->y.1=z.1->y=z
 | [],_,_,_,h,_,_=>by cases h
 | q::r,hn,y,z,hy,b,e=>by
   simp only[Zas,List.nodup_cons]at hn;rcases List.mem_cons.1 hy with hy|hy<;>rcases List.mem_cons.1 b with b|b
   grind;grind;grind;exact bV hn.2 hy b e
def Zp(h:SimB X G β S a w){ub}{rb}{w'}(g:((ub++Yr rb).map (·.1)).Nodup)(U:∀y∈ub++Yr rb,y.1<Ξ S)(c:∀y∈ub,(An S y.1).box.owned=ν/\((y.2.1.owned=ν/\y.2.2=(An S y.1).ver)\/(y.2.1=.none/\(An S y.1).ver<y.2.2)))(hrb:∀y:Nat×Cq×Nat×Ψ,y∈rb->y.2.1.owned=ν/\(An S y.1).ver<y.2.2.1)(V:AC w.heap.size (λb=>∃y∈ub,Ai (β y.1)=θ b) w w')A(H:∀b,OS β X S b->(∀y∈ub,Ai (β y.1)≠θ b)->A b)(hA2:∀b,∀y∈ub,y.2.1.owned=ν->Ai (β y.1)=θ b->A b)(hA3:∀b,∀y:Nat×Cq×Nat×Ψ,y∈rb->Ai y.2.2.2=θ b->A b)(l:∀y:Nat×Cq×Nat×Ψ,y∈rb->∀b,Ai y.2.2.2=θ b->w.heap.size<=b\/∃z∈ub,z.2.1=.none/\Ai (β z.1)=θ b)(I:∀y z:Nat×Cq×Nat×Ψ,y∈rb->z∈rb->∀b,Ai y.2.2.2=θ b->Ai z.2.2.2=θ b->y.1=z.1)(W:∀y∈ub,y.2.1.owned=ν->cL A w' (β y.1) y.2.1)(Y:∀y:Nat×Cq×Nat×Ψ,y∈rb->cL A w' y.2.2.2 y.2.1):
 SimB X G (sF β rb) (B5 (ub++Yr rb) S) a w'/\(∀b,OS (sF β rb) X (B5 (ub++Yr rb) S) b->A b):=by
 have Z:=λi=>cE (ub++Yr rb) S i U g
 have hfr:∀i,List.find? (λy=>y.1==i) (Yr rb)=(List.find? (λy=>y.1==i) rb).map λy=>(y.1,y.2.1,y.2.2.1):=by
  intro i;unfold Yr;rw[List.find?_map];rfl
 let E:Nat->Δ (Cq×Nat×Ψ):=λi=>match List.find? (λy=>y.1==i) ub with
  | some y=>θ (y.2.1,y.2.2,β i)
  | none=>match List.find? (λy=>y.1==i) rb with
    | some y=>θ (y.2.1,y.2.2.1,y.2.2.2)
    | none=>κ
 have m:∀i B n v,E i=θ (B,n,v)->(∃y∈ub,y.1=i/\B=y.2.1/\n=y.2.2/\v=β i)\/(∃y,y∈rb/\y.1=i/\B=y.2.1/\n=y.2.2.1/\v=y.2.2.2):=z5
 have R:∀y∈ub,∃B n v,E y.1=θ (B,n,v):=by
  intro y hy;simp only[E]
  cases hf:List.find? (λz=>z.1==y.1) ub with
  | _=>grind
 have hdis:∀y∈ub,∀z,z∈rb->y.1≠z.1:=by
  intro y hy z d e;rw[Zay,Zeq]at g;refine g.2.2 y.1 (List.mem_map.2 ⟨y,hy,rfl⟩) z.1 ?_ e;exact List.mem_map.2 ⟨(z.1,z.2.1,z.2.2.1),List.mem_map.2 ⟨z,d,rfl⟩,rfl⟩
 have J:∀y∈ub,∀z∈ub,y.1=z.1->y=z:=by
  intro y hy z d e;rw[Zay,Zeq]at g;exact bV g.1 hy d e
 have hS:∀i,An (B5 (ub++Yr rb) S) i=match E i with|θ (B,n,_)=>⟨(An S i).av,B,n⟩|κ=>An S i:=by
  intro i;rw[Z i,List.find?_append,hfr];simp only[E]
  cases List.find? (λy=>y.1==i) ub with
  | some y=>rfl
  | none=>grind
 have hβ:∀i,sF β rb i=match E i with|θ (_,_,v)=>v|κ=>β i:=by
  intro i;simp only[sF,E];grind
 have K:∀b,OS (sF β rb) X (B5 (ub++Yr rb) S) b->A b:=by
  intro b s;rcases s with s|s|⟨i,h1,h2⟩;refine H b (.inl s) λy hy f=>?_;have:=h.o₀ b s;rcases(h.mine y.1 b (c y hy).1 f).1 with N|N;omega;grind;exact H b (.inr (.inl s)) λy hy f=>(h.mine y.1 b (c y hy).1 f).2 s;rw[hS]at h1;rw[hβ]at h2
  cases hE:E i with
  | none=>
    rw[hE]at h1 h2;refine H b (.inr (.inr ⟨i,h1,h2⟩)) λy hy f=>?_;have:=h.inj i y.1 b h1 (c y hy).1 h2 f;grind
  | some q=>grind
 refine⟨h.multi E hS hβ (Dx _ _) V.size (V.weaken h.hbase λk hk hm hh=>?_) ?_ ?_ ?_ ?_ ?_,K⟩;have⟨y,hy,f⟩:=hh;rcases(h.mine y.1 k (c y hy).1 f).1 with N|N;omega;grind;intro i B n v hE;rcases m i B n v hE with⟨y,hy,rfl,r,t,p⟩|⟨y,hy,rfl,r,t,p⟩;rcases(c y hy).2 with⟨_,L⟩|⟨_,L⟩;exact .inr ⟨by rw[t,L],p,λhh=>by have:=(c y hy).1;rw[hh]at this;cases this⟩;grind;grind;intro b s hno;refine V.block b s λ⟨y,hy,f⟩=>?_;grind;intro i B n v b hE O Q;rcases m i B n v hE with⟨y,hy,rfl,r,t,p⟩|⟨y,hy,rfl,r,t,p⟩;grind;rcases l y hy b z5 with L|⟨z,d,_,hzb⟩;grind;have⟨D,F,u,hEz⟩:=R z d;grind;intro i j B n v D F u b x C O hB' Q M
 have key:∀i j B n v D F u,E i=θ (B,n,v)->E j=θ (D,F,u)->B.owned=ν->Ai v=θ b->Ai u=θ b->(∃y∈ub,y.1=i/\B=y.2.1/\n=y.2.2/\v=β i)->(∃y,y∈rb/\y.1=j/\D=y.2.1/\F=y.2.2.1/\u=y.2.2.2)->False:=by
  intro i j B n v D F u x C O Q M ⟨y,hy,N,r,t,p⟩ ⟨z,d,k3,k4,k5,k6⟩;have T:Ai (β y.1)=θ b:=z5;rcases l z d b z5 with L|⟨q,hq,hqn,hqb⟩;have:=h.blk (c y hy).1 T;omega;have:=h.inj y.1 q.1 b (c y hy).1 (c q hq).1 T hqb;have e:=J y hy q hq this;rw[r,e,hqn]at O
  cases O
 rcases m i B n v x with hy|hy<;>rcases m j D F u C with d|d
 obtain⟨y,hy,rfl,r,t,p⟩:=hy;obtain⟨z,d,rfl,k4,k5,k6⟩:=d;exact h.inj y.1 z.1 b (c y hy).1 (c z d).1 (by rw[<-p];exact Q) z5;exact(key i j B n v D F u x C O Q M hy d).elim;exact(key j i D F u B n v C x hB' M Q d hy).elim;obtain⟨y,hy,rfl,r,t,p⟩:=hy;obtain⟨z,d,rfl,k4,k5,k6⟩:=d;exact I y z hy d b (by rw[<-p];exact Q) z5;intro k hvv i B n v hE;rcases m i B n v hE with⟨y,hy,N,r,t,p⟩|⟨y,hy,N,r,t,p⟩;by_cases O:B.owned=ν;refine cL.rep (v:=β y.1) z5 K ?_;grind;rcases(c y hy).2 with⟨L,_⟩|⟨L,_⟩;grind;rw[r,L];trivial;refine cL.rep (v:=y.2.2.2) z5 K ?_;grind
theorem WM:∀{xs:Γ C}{f:Γ (Nat×Nat)}{K:Γ C->Bx->Prop},Y2 xs f K->
 ∃l b,K l b/\Ξ l=Ξ xs/\(b.map (·.1)).Nodup/\(b.map λy=>(y.1,y.2.2))=f /\
  (∀(i:Nat) c c',xs[i]?=θ c->l[i]?=θ c'->match c with
   | .d y=>c'=.d y
   | .own sz e ys=>∃h n,c'=.sl h n/\(h,Cq.row sz e ys,n)∈b
   | .sl _ _=>False) /\
  (∀y∈b,∃(i sz:Nat)(e:Υ)(ys:Γ D),xs[i]?=θ (.own sz e ys)/\l[i]?=θ (.sl y.1 y.2.2)/\y.2.1=.row sz e ys) /\
  (∀(i j h n g:Nat),l[i]?=θ (.sl h n)->l[j]?=θ (.sl h g)->i=j)
 | [],[],K,hy=>⟨[],[],hy,rfl,zs,rfl,(λi c c' h=>by simp at h),(λy hy=>by cases hy),λi j h n g h1=>by simp at h1⟩
 | [],_::_,K,hy=>hy.elim
 | .d x::r,f,K,hy=>by
   have hy:Y2 r f λl b=>K (.d x::l) b:=by cases f<;>exact hy
   have⟨l,b,hK,h1,h2,u,H,v,J⟩:=WM hy;refine⟨_,_,hK,by simp[h1],h2,u,λi c c' L z=>?_,λy hy=>?_,λi j h n g M A=>?_⟩;grind;have⟨i,sz,e,ys,k,m,B⟩:=v y hy;exact⟨i+1,sz,e,ys,by simpa using k,by simpa using m,B⟩;grind
 | .own sz e ys::r,[],K,hy=>hy.elim
 | .own sz e ys::r,(h,n)::f,K,hy=>by
   have hy:Y2 r f λl b=>if Ku h b=ν then K (.sl h n::l) ((h,.row sz e ys,n)::b)else False:=hy;have⟨l,b,hK,h1,h2,u,H,v,J⟩:=WM hy;have⟨E,hK⟩:=Av hK
   have t:∀(j g:Nat),l[j]?≠θ (.sl h g):=by
    intro j g A;have F:j<Ξ r:=z5;have:=H j r[j] _ (Zaa F) A;generalize r[j]=q at this
    cases q with
    | d y=>cases this
    | own p I s=>have⟨N,O,k,m⟩:=this;simp at k;exact KI E _ m k.1.symm
    | sl _ _=>exact this
   refine⟨_,_,hK,by simp[h1],?_,by simp[u],λi c c' L z=>?_,λy hy=>?_,λi j N Q g M A=>?_⟩;grind;grind;rcases List.mem_cons.1 hy with rfl|hy;exact⟨0,sz,e,ys,rfl,rfl,rfl⟩;have⟨i,p,I,s,k,m,B⟩:=v y hy;exact⟨i+1,p,I,s,by simpa using k,by simpa using m,B⟩;grind
 | .sl _ _::r,[],K,hy=>hy.elim
 | .sl _ _::r,_::_,K,hy=>hy.elim
theorem RE:∀{xs},bS xs=ξ->∀(i:Nat) sz e ys,xs[i]?≠θ (.own sz e ys)
 | [],_,i,sz,e,ys=>by simp
 | .d x::r,h,0,sz,e,ys=>by simp
 | .d x::r,h,i+1,sz,e,ys=>by simpa using RE (show bS r=ξ from h) i sz e ys
 | .sl _ _::r,h,0,sz,e,ys=>by simp
 | .sl _ _::r,h,i+1,sz,e,ys=>by simpa using RE (show bS r=ξ from h) i sz e ys
 | .own _ _ _::r,h,_,_,_,_=>by simp[bS]at h
structure Aba(X:Cx)(G:Nat->Prop)(β:Nat->Value)(S:AS)(a:Act)(w:World)(ub:Bx)(A:Nat->Prop)(r:AV)(v:Value)(w':World):Prop where
 sim:SimB X G β S a w
 hub:∀y∈ub,(An S y.1).box.owned=true/\((y.2.1.owned=true/\y.2.2=(An S y.1).ver)\/(y.2.1=.none/\(An S y.1).ver<y.2.2))
 hw:AC w.heap.size (λb=>∃y∈ub,Ai (β y.1)=some b) w w'
 hA1:∀b,OS β X S b->(∀y∈ub,Ai (β y.1)≠some b)->A b
 hA2:∀b,∀y∈ub,y.2.1.owned=true->Ai (β y.1)=some b->A b
 res:Eu (λb=>w.heap.size<=b\/∃z∈ub,z.2.1=.none/\Ai (β z.1)=some b) A w' v r
 outs:∀y∈ub,y.2.1.owned=true->cL (λb=>A b\/EZ v r b) w' (β y.1) y.2.1
theorem i6{rb}{ub}(b:((ub++Yr rb).map (·.1)).Nodup)(d:∀y∈ub++Yr rb,y.1<Ξ S){y}(hy:y∈rb):AU (B5 (ub++Yr rb) S) y.1=y.2.2.1/\sF β rb y.1=y.2.2.2:=by
 have c:(y.1,y.2.1,y.2.2.1)∈ub++Yr rb:=List.mem_append.2 (.inr (List.mem_map.2 ⟨y,hy,rfl⟩));constructor;simp only[AU];rw[cE _ S y.1 d b]
 cases hf:(ub++Yr rb).find? (λz=>z.1==y.1)with
 | none=>grind
 | some z=>
   have:=jG hf;have e:=bV b this.1 c z5;simp only[e]
 unfold sF
 cases hf:rb.find? (λz=>z.1==y.1)with
 | none=>grind
 | some z=>
   have h:=jG hf;have e:z.1=y.1:=z5
   have:z=y:=by
    rw[Zay,Zeq]at b;have i:((Yr rb).map (·.1)).Nodup:=b.2.1;clear c d b hf
    induction rb with
    | nil=>grind
    | cons q r ih=>
      simp only[Yr,Zas,List.nodup_cons]at i;rcases List.mem_cons.1 hy with f|f<;>rcases List.mem_cons.1 h.1 with g|g
      grind;grind;grind;exact ih f ⟨g,h.2⟩ i.2
   rw[this]
theorem bR{pre ub}{S0}(O:S=B5 pre S0){d}(hd:d<Ξ S){dv}(hdv:(An S d).ver<=dv){r}{K}(hnd:(ub.map (·.1)).Nodup)(Q:∀y∈ub,y.1<Ξ S)(hy:tW d dv r (pre++ub) K)(hvp:∀i,(An S i).ver=(An S0 i).ver):
 ∃e,K e/\∀A v w',Aba X G β S a w ub A r v w'->Jj S0 e.homes=ν->Ys X G S0 a e v w':=by
 have hlen:Ξ S=Ξ S0:=by rw[O,Dx]
 have one:∀(B:Cq)(A:Nat->Prop)(v:Ψ)(w':Λ),Ku d (pre++ub)=ν->Aba X G β S a w ub A r v w'->B.owned=ν->(∀b,Ai v=θ b->w.heap.size<=b\/∃z∈ub,z.2.1=.none/\Ai (β z.1)=θ b)->(∀b,Ai v=θ b->EZ v r b)->
  cL (λb=>A b\/EZ v r b) w' v B->SimB X G (sF β [(d,B,dv+1,v)]) (B5 (ub++Yr [(d,B,dv+1,v)]) S) a w'/\AU (B5 (ub++Yr [(d,B,dv+1,v)]) S) d=dv+1/\sF β [(d,B,dv+1,v)] d=v:=by
  intro B A v w' J k hB hmine hres hbox
  have E:((ub++Yr [(d,B,dv+1,v)]).map (·.1)).Nodup:=by
   simp only[Yr,Zay,Zas,Zbm];rw[Zeq];refine⟨hnd,zs,λp k q hq e=>?_⟩;simp at hq;subst hq;obtain⟨y,hy,rfl⟩:=List.mem_map.1 k;exact KI J y (by simp[hy]) e
  have F:∀y∈ub++Yr [(d,B,dv+1,v)],y.1<Ξ S:=by
   intro y hy;rcases List.mem_append.1 hy with hy|hy;exact Q y hy;simp[Yr]at hy;rw[hy];exact hd
  have h1:=Zp k.sim E F k.hub (λy hy=>by simp at hy;subst hy;exact⟨hB,by simp only;omega⟩) k.hw (λb=>A b\/EZ v r b)
   (λb m hn=>.inl (k.hA1 b m hn)) (λb y hy ho m=>.inl (k.hA2 b y hy ho m)) (λb y hy m=>by simp at hy;subst hy;exact .inr (hres b m))
   (λy hy b m=>by simp at hy;subst hy;exact hmine b m) (λy z hy H b _ _=>by simp at hy H;rw[hy,H]) k.outs (λy hy=>by simp at hy;subst hy;exact hbox)
  have h2:=i6 (β:=β) E F (y:=(d,B,dv+1,v)) zs;exact⟨h1.1,h2.1,h2.2⟩
 have C:∀(A:Nat->Prop)(v:Ψ)(w':Λ),Aba X G β S a w ub A r v w'->(∀b,¬EZ v r b)->SimB X G β (B5 ub S) a w'/\∀b,OS β X (B5 ub S) b->A b:=by
  intro A v w' k W
  have h1:=Zp (rb:=[]) k.sim (by simpa [Yr] using hnd) (by simpa [Yr] using Q) k.hub (λy hy=>by cases hy) k.hw A k.hA1 k.hA2 (λb y hy=>by cases hy) (λy hy=>by cases hy) (λy z hy=>by cases hy)
   (λy hy ho=>by
    have:=k.outs y hy ho;have e:(λb=>A b\/EZ v r b)=A:=by funext b;apply propext;exact⟨λh=>h.resolve_right (W b),.inl⟩
    rwa [e]at this) (λy hy=>by cases hy)
  have e:sF β []=β:=by funext i;rfl
  rw[e]at h1;simpa [Yr] using h1
 cases r with
 | own sz e xs=>
   simp only[tW]at hy;have⟨J,hK⟩:=Av hy;refine⟨_,hK,λA v w' k _=>?_⟩;have⟨h1,h2,h3,vals,h4,h5⟩:=k.res;have⟨I,R,M⟩:=one (.row sz e xs) A v w' J k rfl h3 (λb m=>m) ⟨h1,h2,vals,h4,h5.mono (Cg.of_sub λ_ _=>trivial)⟩;have ee:B5 ((pre++ub)++[(d,Cq.row sz e xs,dv+1)]) S0=B5 (ub++Yr [(d,.row sz e xs,dv+1,v)]) S:=by simp only[Cl];rw[<-O];rfl
   refine⟨sF β [(d,.row sz e xs,dv+1,v)],?_,?_,rfl⟩;simp only[ee];exact I;simp only[ee];exact⟨by rw[R];exact Zam _,λ_=>M.symm⟩
 | cc k0 l=>
   simp only[tW]at hy;split at hy<;>try exact hy.elim
   rename_i sz e xs;have⟨J,hK⟩:=Av hy;refine⟨_,hK,λA v w' k _=>?_⟩;obtain⟨h1,h2,h3,vals,h4,h5⟩:Z5 _ A w' v [.own sz e xs]:=k.res;have⟨I,R,M⟩:=one (.row sz e xs) A v w' J k rfl h3 (λb m=>m) ⟨h1,h2,vals,h4,h5⟩;have ee:B5 ((pre++ub)++[(d,Cq.row sz e xs,dv+1)]) S0=B5 (ub++Yr [(d,.row sz e xs,dv+1,v)]) S:=by simp only[Cl];rw[<-O];rfl
   refine⟨sF β [(d,.row sz e xs,dv+1,v)],?_,?_,rfl⟩;simp only[ee];exact I;simp only[ee];exact⟨by rw[R];exact Zam _,λ_=>M.symm⟩
 | optr cs=>
   simp only[tW]at hy;have⟨J,hK⟩:=Av hy;rw[Wa]at hK;refine⟨_,hK,λA v w' k _=>?_⟩;have⟨h1,h2⟩:=k.res;have⟨I,R,M⟩:=one (.var (cs.map .d)) A v w' J k rfl h1 (λb m=>m) ⟨cs,rfl,h2⟩;have e:B5 ((pre++ub)++[(d,Cq.var (cs.map .d),dv+1)]) S0=B5 (ub++Yr [(d,.var (cs.map .d),dv+1,v)]) S:=by simp only[Cl];rw[<-O];rfl
   refine⟨sF β [(d,.var (cs.map .d),dv+1,v)],?_,?_,rfl⟩;simp only[e];exact I;simp only[e];have⟨b,vals,T,h3,_,_⟩:=h2;exact⟨by rw[R];exact Zam _,λ_=>⟨b,by rw[M,h3],h3⟩⟩
 | tup xs=>
   simp only[tW]at hy;split at hy;rename_i W;refine⟨_,hy,λA v w' k _=>?_⟩
   have hnr:∀b,¬EZ v (.tup xs) b:=by
    rintro b ⟨vs,i,u,sz,e,ys,_,_,h3,_⟩;exact RE W i sz e ys h3
   have⟨h1,h2⟩:=C A v w' k hnr;have⟨vs,hv,hl,hr,_⟩:=k.res;refine⟨β,?_,⟨vs,hv,hl,λi u c hu hc=>?_⟩,rfl⟩;simp only[Cl];rw[<-O];exact h1;have:=hr i u c hu hc
   cases c with
   | d y=>
     refine A5.mono (Cg.of_sub λb m=>.inl (h2 b ?_)) this;simp only[Cl]at m;rw[<-O]at m;exact m
   | own sz e ys=>exact absurd hc (RE W i sz e ys)
   | sl _ _=>exact this.elim
   have⟨hs,hy⟩:=hy.go;have⟨l,m,hK,hl,hbn,hhs,hpt,hpb,hlinj⟩:=WM hy;have⟨hall,hK⟩:=Av hK;refine⟨_,hK,λA v w' k N=>?_⟩;have⟨vs,hv,hvl,hr,hri⟩:=k.res;have hx:∀y∈m,∃(i sz:Nat)(e:Υ)(ys:Γ D),xs[i]?=θ (.own sz e ys)/\l[i]?=θ (.sl y.1 y.2.2)/\y.2.1=.row sz e ys:=hpb
   have hch:∃f:Nat×Cq×Nat->Ψ,∀y∈m,∃(i sz:Nat)(e:Υ)(ys:Γ D),xs[i]?=θ (.own sz e ys)/\l[i]?=θ (.sl y.1 y.2.2)/\y.2.1=.row sz e ys/\vs[i]?=θ (f y):=by
    refine⟨λy=>Classical.epsilon λu=>∃(i sz:Nat)(e:Υ)(ys:Γ D),xs[i]?=θ (.own sz e ys)/\l[i]?=θ (.sl y.1 y.2.2)/\y.2.1=.row sz e ys/\vs[i]?=θ u,λy g=>?_⟩;have⟨i,sz,e,ys,I,R,M⟩:=hx y g;have hlt:i<vs.size:=by rw[hvl];exact AG I
    exact Classical.epsilon_spec (p:=λu=>∃(i sz:Nat)(e:Υ)(ys:Γ D),xs[i]?=θ (.own sz e ys)/\l[i]?=θ (.sl y.1 y.2.2)/\y.2.1=.row sz e ys/\vs[i]?=θ u) ⟨vs[i],i,sz,e,ys,I,R,M,by simp[hlt]⟩
   have⟨f,hf⟩:=hch;let rb:RB:=m.map λy=>(y.1,y.2.1,y.2.2,f y);have U:Yr rb=m:=by simp[Yr,rb,Zfo,Function.comp_def]
   have s:∀y,y∈rb->∃z∈m,y=(z.1,z.2.1,z.2.2,f z):=by
    intro y g;obtain⟨z,H,rfl⟩:=List.mem_map.1 g;exact⟨z,H,rfl⟩
   have E:((ub++Yr rb).map (·.1)).Nodup:=by
    rw[U,Zay,Zeq];refine⟨hnd,hbn,λp L q hq e=>?_⟩;obtain⟨y,g,rfl⟩:=List.mem_map.1 L;obtain⟨z,H,rfl⟩:=List.mem_map.1 hq;have:=List.all_eq_true.1 hall z H;exact KI this y (by simp[g]) e
   have V:∀y∈m,y.1<Ξ S/\(An S y.1).ver<y.2.2:=by
    intro y g;have:(y.1,y.2.2)∈hs:=by rw[<-hhs];exact List.mem_map.2 ⟨y,g,rfl⟩
    have key:∀(hs:Γ (Nat×Nat)),Jj S0 hs=ν->∀p∈hs,p.1<Ξ S0/\(An S0 p.1).ver<p.2:=by
     intro hs
     induction hs with
     | nil=>intro _ p L;cases L
     | cons q r ih=>
       intro N p L;have⟨q1,q2⟩:=q;simp[Jj]at N;rcases List.mem_cons.1 L with rfl|L;exact⟨N.1.1,N.1.2⟩;exact ih N.2 p L
    have:=key hs N _ this;exact⟨by rw[hlen];exact this.1,by rw[hvp];exact this.2⟩
   have F:∀y∈ub++Yr rb,y.1<Ξ S:=by
    intro y g;rw[U]at g;rcases List.mem_append.1 g with g|g;exact Q y g;exact(V y g).1
   have x:∀z∈m,∃(i sz:Nat)(e:Υ)(ys:Γ D),xs[i]?=θ (.own sz e ys)/\l[i]?=θ (.sl z.1 z.2.2)/\z.2.1=.row sz e ys/\vs[i]?=θ (f z)/\bA (λb=>w.heap.size<=b\/∃z∈ub,z.2.1=.none/\Ai (β z.1)=θ b) w' (f z) sz e ys:=by
    intro z H;have⟨i,sz,e,ys,I,R,M,k4⟩:=hf z H;exact⟨i,sz,e,ys,I,R,M,k4,hr i _ _ k4 I⟩
   have h1:=Zp (rb:=rb) k.sim E F k.hub
    (λy g=>by
     obtain⟨z,H,rfl⟩:=s y g;have⟨i,sz,e,ys,_,_,M,_⟩:=x z H;exact⟨by simp only[M];rfl,(V z H).2⟩) k.hw (λb=>A b\/EZ v (.tup xs) b)
    (λb m hn=>.inl (k.hA1 b m hn)) (λb y hy ho m=>.inl (k.hA2 b y hy ho m))
    (λb y g hbb=>by
     obtain⟨z,H,rfl⟩:=s y g;have⟨i,sz,e,ys,I,_,_,k4,_⟩:=x z H;exact .inr ⟨vs,i,f z,sz,e,ys,hv,k4,I,hbb⟩)
    (λy g b hbb=>by
     obtain⟨z,H,rfl⟩:=s y g;have⟨i,sz,e,ys,I,_,_,k4,k5⟩:=x z H;exact k5.2.2.1 b hbb)
    (λy z g hzz b hb1 hb2=>by
     obtain⟨y',hy',rfl⟩:=s y g;obtain⟨z',hz',rfl⟩:=s z hzz;have⟨i,sz,e,ys,I,R,_,k4,_⟩:=x y' hy';have⟨j,sz2,e2,ys2,q1,q2,_,q4,_⟩:=x z' hz';have:=hri i j _ _ sz e ys sz2 e2 ys2 b k4 q4 I q1 hb1 hb2;subst this;rw[R]at q2;simp at q2;exact q2.1) k.outs
    (λy g=>by
     obtain⟨z,H,rfl⟩:=s y g;have⟨i,sz,e,ys,I,_,M,k4,k5⟩:=x z H;simp only[M];have⟨j1,j2,j3,vals,j4,j5⟩:=k5;exact⟨j1,j2,vals,j4,j5.mono (Cg.of_sub λ_ _=>trivial)⟩)
   have hee:B5 ((pre++ub)++m) S0=B5 (ub++Yr rb) S:=by rw[U];simp only[Cl];rw[<-O]
   refine⟨sF β rb,?_,⟨vs,hv,by rw[hl];exact hvl,λi u c hu hc=>?_⟩,rfl⟩;simp only[hee];exact h1.1;simp only[hee];have hix:i<Ξ xs:=by rw[<-hl];exact AG hc
   have hxi:xs[i]?=θ xs[i]:=Zaa hix;have Y:=hpt i xs[i] c hxi hc;have hr1:=hr i u xs[i] hu hxi;generalize xs[i]=q at Y hr1 hxi
   cases q with
   | d y=>subst Y;exact A5.mono (Cg.of_sub λb m=>h1.2 b m) hr1
   | own sz e ys=>
     obtain⟨h,n,rfl,hmem⟩:=Y;have hy2:(h,Cq.row sz e ys,n,f (h,.row sz e ys,n))∈rb:=List.mem_map.2 ⟨_,hmem,rfl⟩;have Z:=i6 (β:=β) E F hy2;have⟨j,sz2,e2,ys2,q1,q2,_,q4,_⟩:=x _ hmem;refine⟨by simp only at Z;rw[Z.1];exact Zam _,λ_=>?_⟩;simp only at Z;rw[Z.2];have hij:i=j:=hlinj i j h n n hc q2;subst hij;rw[hu]at q4;exact Zaf q4
   | sl _ _=>exact Y.elim
 | any=>
   refine⟨_,hy,λA v w' k _=>?_⟩;have⟨h1,h2⟩:=C A v w' k λb h=>h;refine⟨β,?_,trivial,rfl⟩;simp only[Cl];rw[<-O];exact h1
 | bot=>
   refine⟨_,hy,λA v w' k _=>?_⟩;exact k.res.elim
 | d y=>
   refine⟨_,hy,λA v w' k _=>?_⟩;have⟨h1,h2⟩:=C A v w' k λb h=>h;have hr:A5 A w' v y:=k.res;refine⟨β,?_,?_,rfl⟩;simp only[Cl];rw[<-O];exact h1;show A5 _ _ _ _;simp only[Cl];rw[<-O];exact hr.mono (Cg.of_sub h2)
 | lim sz xs=>
   refine⟨_,hy,λA v w' k _=>?_⟩;have⟨h1,h2⟩:=C A v w' k λb h=>h;have hr:A5 A w' v (.list sz xs)/\Yx v=Ξ xs:=k.res;refine⟨β,?_,?_,rfl⟩;simp only[Cl];rw[<-O];exact h1;show A5 _ _ _ _/\_;simp only[Cl];rw[<-O];exact⟨hr.1.mono (Cg.of_sub h2),hr.2⟩
 | _=>exact hy.elim
end
section
variable {P:Η} {X:Cx} {G:Nat->Prop} {β:Nat->Ψ} {S:AS} {a:Act} {w:Λ} {o:Oper}
theorem Aao{O O'}{w w'}{v}{y}(h:A5 O w v y)(e:(AV.d y).bare=ν):A5 O' w' v y:=by
 cases h with
 | agg vs xs l h1 h=>
   simp only[AV.bare,Zem]at e;exact .agg vs xs l h1 λi v x r hx=>Yv (h i v x r hx) (e x (Zbf hx))
 | bool b=>exact .bool b
 | int k n=>exact .int k n
 | str s=>exact .str s
 | fn f vs xs l h1 h=>exact Yv (.fn f vs xs l h1 h) e
 | ptr b off cs c g q h1 d h=>simp[AV.bare,D.bare]at e
 | nil sz=>exact .nil sz
 | emp a cap sz=>exact .emp a cap sz
 | list b off cap sz xs c m g q j p h1 d h=>exact Yv (.list b off cap sz xs c m g q j p h1 d h) e
def Eu.bare{b O}{v}{r}(h:Eu b O w v r)(f:r.bare=ν):Eu b (λ_=>True) w v r:=by
 cases r<;>try (simp[AV.bare]at f;done)
 case d x=>
  have k:A5 O w v x:=h;clear h;show A5 _ _ _ _;exact Aao k f
 case tup xs=>
  simp only[AV.bare,Zem]at f;have⟨vs,h1,h2,l,m⟩:=h;refine⟨vs,h1,h2,λi u c n j=>?_,m⟩;have:=l i u c n j;have g:=f c (Zbf j)
  cases c with
  | d y=>exact Aao this (by cases y<;>exact g)
  | _=>grind
 case own sz e xs=>exact h
theorem Eu.mono{j f O O'}{v}{r}(n:∀b,j b->f b)(m:∀b,O' b->O b)(h:Eu j O w v r):Eu f O' w v r:=by
 cases r with
 | own sz e xs=>exact⟨h.1,h.2.1,λb g=>n b (h.2.2.1 b g),h.2.2.2⟩
 | optr cs=>
   refine⟨λb g=>n b (h.1 b g),?_⟩;have⟨b,vals,T,h1,h2,p⟩:=h.2;exact⟨b,vals,T,h1,h2,p.mono (Cg.of_sub λb g=>g.imp (m b) λh=>h)⟩
 | tup xs=>
   have⟨vs,h1,h2,p,q⟩:=h;refine⟨vs,h1,h2,λi u c s t=>?_,q⟩;have:=p i u c s t
   cases c with
   | d y=>exact A5.mono (Cg.of_sub λb g=>g.imp (m b) λh=>h) this
   | own sz e ys=>exact⟨this.1,this.2.1,λb g=>n b (this.2.2.1 b g),this.2.2.2⟩
   | sl _ _=>grind
 | cc z l=>
   have k:Z5 j O w v l:=h;show Z5 f O' w v l;unfold Z5 at k ⊢;split at k<;>try exact k.elim
   exact⟨k.1,k.2.1,λb g=>n b (k.2.2.1 b g),by have⟨vals,h1,h2⟩:=k.2.2.2;exact⟨vals,h1,h2.mono (Cg.of_sub λb g=>g.imp (m b) λh=>h)⟩⟩
 | any=>trivial
 | d x=>exact A5.mono (Cg.of_sub m) (show A5 O w v x from h)
 | lim sz xs=>
   have k:A5 O w v (.list sz xs)/\Yx v=Ξ xs:=h;exact⟨k.1.mono (Cg.of_sub m),k.2⟩
 | bot|ptr _ _ _|sl _ _|eptr _ _ _ _ _|under _ _ _=>exact h.elim
def jk(y:Nat×Cq×Nat)(n:Nat):AV->Prop| .own sz e ys=>y.2.1=.row sz e ys/\y.2.2=n| .optr cs=>y.2.1=.var (cs.map .d)/\y.2.2=n| .any=>y.2.1=.none/\y.2.2=n+1| .cc _ l=>(∃(ds:Γ C)(sz:Nat)(e:Υ)(ys:Γ D),l=ds++[.own sz e ys]/\y.2.1=.row sz e ys)/\y.2.2=n| _=>False
theorem Ua:∀{l}{K},dA l K->∃ds sz e ys,l=ds++[.own sz e ys]/\K sz e ys
 | [],_,h=>h.elim
 | .own sz e xs::r,K,h=>by
   simp only[dA]at h
   cases r with
   | nil=>exact⟨[],sz,e,xs,rfl,h⟩
   | cons _ _=>exact h.elim
 | .d x::r,K,h=>by
   have⟨ds,sz,e,ys,h1,h2⟩:=Ua (l:=r) h;grind
 | .sl i n::r,K,h=>by
   have⟨ds,sz,e,ys,h1,h2⟩:=Ua (l:=r) h;grind
def So{e}{sz n}{v}{vals}(h:BM w e sz v n vals):∃d m c,v=.slice d m c:=by
 rcases h with⟨_,⟨b,_⟩|⟨_,_,_,b,_⟩⟩|⟨_,_,_,b⟩ <;> grind
def mJ{vs:Array Ψ}{u}(h:∃b m c,u=.slice b m c):Ai (.agg (vs.push u))=Ai u:=by
 obtain⟨b,m,c,rfl⟩:=h
 cases b<;>simp[Ai]
theorem WX:∀{us}{f}{K},R0 us f K->
 ∃ub,K ub/\(ub.map (·.1)).Nodup/\(∀(i id n:Nat),us[i]?=θ (θ (id,n))->∃y∈ub,y.1=id/\∃q,f[i]?=θ q/\jk y n q)/\(∀y∈ub,∃(i n:Nat)(q:AV),us[i]?=θ (θ (y.1,n))/\f[i]?=θ q/\jk y n q) /\
  ∀(i j id n c:Nat),us[i]?=θ (θ (id,n))->us[j]?=θ (θ (id,c))->i=j
 | [],[],K,hy=>⟨[],hy,zs,(λi id n h=>by simp at h),(λy hy=>by cases hy),λi j id n c h=>by simp at h⟩
 | [],_::_,K,hy=>hy.elim
 | none::us,[],K,hy=>hy.elim
 | none::us,q::os,K,hy=>by
   have hy:R0 us os K:=hy;have⟨ub,hK,h1,h2,r,D⟩:=WX hy;refine⟨ub,hK,h1,λi id n s=>?_,λy hy=>?_,λi j id n c s t=>?_⟩;grind;have⟨i,n,u,v,x,z⟩:=r y hy;exact⟨i+1,n,u,by simpa using v,by simpa using x,z⟩;grind
 | some (id,n)::us,[],K,hy=>hy.elim
 | some (id,n)::us,q::os,K,hy=>by
   have step:∀(B:Cq)(m:Nat),jk (id,B,m) n q->(R0 us os λb=>if Ku id b=ν then K ((id,B,m)::b)else False)->∃ub,K ub/\(ub.map (·.1)).Nodup/\(∀(i d c:Nat),(θ (id,n)::us)[i]?=θ (θ (d,c))->∃y∈ub,y.1=d/\∃p,(q::os)[i]?=θ p/\jk y c p)/\(∀y∈ub,∃(i c:Nat)(p:AV),(θ (id,n)::us)[i]?=θ (θ (y.1,c))/\(q::os)[i]?=θ p/\jk y c p) /\
    ∀(i j d C c:Nat),(θ (id,n)::us)[i]?=θ (θ (d,C))->(θ (id,n)::us)[j]?=θ (θ (d,c))->i=j:=by
    intro B m ho hy;have⟨ub,hK,h1,h2,r,D⟩:=WX hy;have⟨A,hK⟩:=Av hK
    have g:∀(j c:Nat),us[j]?≠θ (θ (id,c)):=by
     intro j c t;have⟨y,hy,e,_⟩:=h2 j id c t;exact KI A y hy e
    refine⟨_,hK,?_,λi d c s=>?_,λy hy=>?_,λi j d C c s t=>?_⟩;grind;grind;rcases List.mem_cons.1 hy with rfl|hy;exact⟨0,n,q,rfl,rfl,ho⟩;have⟨i,c,u,v,x,z⟩:=r y hy;exact⟨i+1,c,u,by simpa using v,by simpa using x,z⟩;grind
   cases q<;>try exact hy.elim
   case any=>exact step .none (n+1) ⟨rfl,rfl⟩ hy
   case own sz e ys=>exact step (.row sz e ys) n ⟨rfl,rfl⟩ hy
   case optr cs=>
    have hy:m5 cs λl=>R0 us os λb=>if Ku id b=ν then K ((id,.var l,n)::b)else False:=hy;rw[Wa]at hy;exact step (.var (cs.map .d)) n ⟨rfl,rfl⟩ hy
   case cc k l=>
    have⟨ds,sz,e,ys,h1,hy⟩:=Ua (show dA l _ from hy);exact step (.row sz e ys) n ⟨⟨ds,sz,e,ys,h1,rfl⟩,rfl⟩ hy
theorem sk{O}{v}{f}{cs}(h:A5 O w v (.fn f cs)):∃vs:Array Ψ,v=.func (.func f) #[] vs/\vs.size=Ξ cs/\∀(i:Nat) u y,vs[i]?=θ u->cs[i]?=θ y->A5 O w u y:=by
 cases h with
 | fn _ vs _ b h1 h=>grind
theorem gB:∀{l}{n i},i∈WT l n->∃p,l[i-n]?=θ p/\SY p=ν/\n<=i
 | [],_,_,h=>by simp[WT]at h
 | x::r,n,i,h=>by
   simp only[WT]at h
   have next:i∈WT r (n+1)->∃p,(x::r)[i-n]?=θ p/\SY p=ν/\n<=i:=by
    intro h;have⟨p,h1,h2,b⟩:=gB h;grind
   grind
def j7(h:SimB X G β S a w){g}(hg:CZ g a){d}(hd:d<Ξ S){c}(ho:o.op=.call c){fo}(hc:c.callee=.value fo){f}{B}(hf:ρOf S g fo=.d (.fn f B)){K}(hy:fy B λcv=>K4 P (σOf S) (ρOf S g) c.args.toList c.argTypes.toList λvs bs=>Jl P (σOf S) (ρOf S g) c.args.toList c.argTypes.toList λms mb us=>
  K3 P f (WT c.args.toList 0) (vs++cv) (λr=>nY r bs λb=>tW d (An S d).ver r b K)
   (ms++cv) (λY r=>R0 (us++cv.map λ_=>κ) Y λub=>if ub.all (λx=>Ku x.1 mb)=ν then tW d (An S d).ver r (mb++ub) K else False)):
 ∃e,K e/\(Jj S e.homes=ν->EE P X G S a w o e):=by
 rw[ZI]at hy;obtain⟨vs,bs,hy,hF,hlen,hrep⟩:=R8 h hg hy;obtain⟨ms,mb,us,hK,hMF,C,J,hmut,hnm,hmrep⟩:=Uz h hg hy;have hfv:=ρ_sound h hg fo;rw[hf]at hfv;obtain⟨t,hfe,hcl,hcr⟩:=sk hfv
 have hrun:Hq P f=ν->(execOp a.eval o).run P w=.ok (.enter f (c.args.map a.eval++t)) w:=by
  intro hcal;simp only[execOp,ho,resolve,hc,hfe,Deferred.ofValue,Sem.run_bind,Sem.run_pure,Result.andThen_ok,invoke];simp only[Array.empty_append];rw[Pe hcal]
 have hval:∀(i:Nat) v,(c.args.map a.eval++t)[i]?=θ v->(∃p,c.args.toList[i]?=θ p/\v=a.eval p)\/(c.args.size<=i/\t[i-c.args.size]?=θ v):=by
  intro i v O;rcases Zbk i c.args.size with I|I;rw[Zbx (by simpa using I)]at O;simp[I]at O;exact .inl ⟨c.args[i],by simp[I],O.symm⟩;rw[Zeb (by simpa using I)]at O;exact .inr ⟨I,by simpa using O⟩
 rcases hK.go with⟨r,s,hK⟩|⟨Y,r,s,hK⟩
 ·
   obtain⟨h1,h2,h3⟩:=hF.run h;have hargs:=hrep.now h hF;have hsize:(c.args.map a.eval++t).size=Ξ (vs++B.map AV.d):=by simp[hlen,hcl]
   have hreps:∀(i:Nat) v y,(c.args.map a.eval++t)[i]?=θ v->(vs++B.map AV.d)[i]?=θ y->Wo (OS β X (B5 bs S)) w v y:=(λi v y O hy=>by
    rcases hval i v O with⟨p,Q,rfl⟩|⟨I,O⟩;rw[Zba (by rw[hlen];exact AG Q)]at hy;exact hargs i p y Q hy;rw[Zat (by rw[hlen];simpa using I),hlen]at hy;simp only[Zaz,Zbv]at hy
    cases hz:B[i-c.args.size]? with
    | none=>simp[hz]at hy
    | some z=>simp[hz]at hy;subst hy;exact(hcr _ v z O hz).mono (Cg.of_sub h2))
   have hrunX:∀v,(callFunc f (c.args.map a.eval++t)).run P w=.ok (.value v) w->(execOp a.eval o).run P w=.ok (.value v) w:=by
    intro v O;simp only[execOp,ho,resolve,hc,hfe,Deferred.ofValue,Sem.run_bind,Sem.run_pure,Result.andThen_ok,invoke];simp only[Array.empty_append];rw[O]
   have fin:∀{e:J4},(∀v w',Below w.heap.size w w'->Eu (λb=>w.heap.size<=b) (OS β X (B5 bs S)) w' v r->Ys X G S a e v w')->EE P X G S a w o e:=by
    intro e E;rcases s with s|s|s
    rotate_left
    rotate_left
    refine .inr (.inr ⟨f,_,hrun s.1,(s.2 (OS β X (B5 bs S)) w _ (λb l=>h1.os_lt l) h1.glob hsize (λi I=>?_) hreps).mono λe' w' ⟨v,h4,h5,h6⟩=>⟨v,h4,E v w' h5 h6⟩⟩);obtain⟨p,Q,hnil,_⟩:=gB I;rw[Nat.sub_zero]at Q;have hlt:i<c.args.size:=by have:=AG Q;simpa using this
    rw[Zbx (by simpa using hlt)];have:c.args[i]?=θ p:=by simpa using Q
    rw[Array.getElem?_map,this,UR hnil];rfl;exact .inr (.inr ⟨f,_,hrun s.1,(s.2 (OS β X (B5 bs S)) w _ (λb l=>h1.os_lt l) h1.glob hsize hreps).mono λe' w' ⟨v,h4,h5,h6⟩=>⟨v,h4,E v w' h5 h6⟩⟩);obtain⟨v,h4,h6⟩:=s (OS β X (B5 bs S)) w _ hsize hreps;exact .inl ⟨v,w,hrunX v h4,E v w ⟨rfl,rfl,rfl,Zam _,λ_ _=>rfl⟩ h6⟩
   have hK':(∃A:Nat->Prop,(∀b,OS β X S b->A b)/\(∀v w',Eu (λb=>w.heap.size<=b) (OS β X (B5 bs S)) w' v r->Eu (λb=>w.heap.size<=b) A w' v r)/\tW d (An S d).ver r [] K)\/tW d (An S d).ver r bs K:=by
    unfold nY at hK;split at hK;exact .inl ⟨OS β X S,λ_ h=>h,λ_ _ h=>h,hK⟩
    ·split at hK;rename_i hbr;exact .inl ⟨λ_=>True,λ_ _=>trivial,λv w' h=>h.bare hbr,hK⟩;exact .inr hK
   rcases hK' with⟨A,hA,hres,hK⟩|hK;obtain⟨e,hKe,E⟩:=bR (X:=X) (G:=G) (β:=β) (a:=a) (w:=w) (S:=S) (S0:=S) (pre:=[]) (ub:=[]) rfl hd (Zam _) zs (λ_ h=>by cases h) (by simpa using hK) λ_=>rfl;refine⟨e,hKe,λhok=>fin λv w' h5 h6=>E A v w' ⟨h,(λ_ h=>by cases h),.of h5,λb l _=>hA b l,(λb y hy=>by cases hy),?_,λy hy=>by cases hy⟩ hok⟩;exact(hres v w' h6).mono (λb l=>.inl l) λ_ h=>h;obtain⟨e,hKe,E⟩:=bR (X:=X) (G:=G) (β:=β) (a:=a) (w:=w) (S:=B5 bs S) (S0:=S) (pre:=bs) (ub:=[]) rfl (by rw[Dx];exact hd) (dv:=(An S d).ver) (by rw[h3.ver];exact Zam _) zs (λ_ h=>by cases h) (by simpa using hK) h3.ver;refine⟨e,hKe,λhok=>fin λv w' h5 h6=>E _ v w' ⟨h1,(λ_ h=>by cases h),.of h5,λb l _=>l,(λb y hy=>by cases hy),?_,λy hy=>by cases hy⟩ hok⟩;exact h6.mono (λb l=>.inl l) (λ_ h=>h)
 ·
   obtain⟨ub,hK,hund,hu1,hu2,hu3⟩:=WX hK;obtain⟨hnot,hK⟩:=Av hK;obtain⟨h1,h2,h3⟩:=hMF.run h;have hargs:=hmrep.now h hMF
   have hpos:∀(i id n:Nat),(us++(B.map AV.d).map λ_=>(κ:Δ (Nat×Nat)))[i]?=θ (θ (id,n))->us[i]?=θ (θ (id,n))/\i<c.args.size:=by
    intro i id n I;rcases Zbk i (Ξ us) with hl|hl;rw[Zba hl]at I;exact⟨I,by rw[J]at hl;simpa using hl⟩;rw[Zat hl]at I;simp only[Zaz]at I
    cases B[i-Ξ us]?<;>simp at I
   have L:∀(i id n:Nat),us[i]?=θ (θ (id,n))->(us++(B.map AV.d).map λ_=>(κ:Δ (Nat×Nat)))[i]?=θ (θ (id,n)):=by
    intro i id n I;rw[Zba (AG I)];exact I
   have Z:∀y∈ub,∃(i n:Nat)(q:AV)(p:Ly)(m:AV),us[i]?=θ (θ (y.1,n))/\Y[i]?=θ q/\jk y n q/\c.args.toList[i]?=θ p/\ms[i]?=θ m/\eX β (OS β X S) w S mb (a.eval p) y.1 n m:=by
    intro y hy;obtain⟨i,n,q,R,V,F⟩:=hu2 y hy;obtain⟨R,I⟩:=hpos i y.1 n R;have Q:c.args.toList[i]?=θ c.args.toList[i]:=Zaa (by simpa using I);have hm:ms[i]?=θ (ms[i]'(by rw[C];simpa using I)):=Zaa _;exact⟨i,n,q,_,_,R,V,F,Q,hm,hmut i _ _ y.1 n Q hm R⟩
   have hsame:∀y∈ub,(An (B5 mb S) y.1).box=(An S y.1).box:=λy hy=>h3.other y.1 (KI (List.all_eq_true.1 hnot y hy))
   have hsl:∀{id sz:Nat}{e:Υ}{xs:Γ D},(An S id).box=.row sz e xs->∃ad m c,β id=.slice ad m c:=by
    intro id sz e xs l;have M:=h.boxes id;rw[l]at M;obtain⟨_,_,vals,hr,_⟩:=M;exact So hr
   have W:∀{v:Ψ}{id n:Nat}{m:AV},eX β (OS β X S) w S mb v id n m->Ai v=Ai (β id)/\(An S id).ver=n/\(An S id).box.owned=ν/\m.mut=ν:=by
    intro v id n m U
    cases m<;>try exact U.elim
    obtain⟨R,V,F⟩:=U;exact⟨by rw[F],V,by rw[R];rfl,rfl⟩;obtain⟨cs,R,V,F,_⟩:=U;exact⟨by rw[F],V,by rw[R];rfl,rfl⟩;obtain⟨_,vs,ds,sz,e,xs,_,F,_,R,V⟩:=U;exact⟨by rw[F,mJ (hsl R)],V,by rw[R];rfl,rfl⟩
   have N:∀y∈ub,(An (B5 mb S) y.1).box.owned=ν:=by
    intro y hy;obtain⟨i,n,q,p,m,_,_,_,_,_,U⟩:=Z y hy;rw[hsame y hy];exact(W U).2.2.1
   have hMut:∀b,Km (c.args.map a.eval++t) (ms++B.map .d) b↔∃y∈ub,Ai (β y.1)=θ b:=by
    intro b;constructor
    ·rintro⟨i,v,x,O,hx,hm,l⟩;rcases hval i v O with⟨p,Q,rfl⟩|⟨I,O⟩;rw[Zba (by rw[C];exact AG Q)]at hx;have H:us[i]?=θ (us[i]'(by rw[J];exact AG Q)):=Zaa _
     cases hq:us[i]'(by rw[J];exact AG Q)with
     | none=>rw[hq]at H;rw[hnm i x hx H]at hm;cases hm
     | some q=>
       obtain⟨id,n⟩:=q;rw[hq]at H;obtain⟨y,hy,e,_⟩:=hu1 i id n (L i id n H);refine⟨y,hy,?_⟩;rw[e,<-(W (hmut i p x id n Q hx H)).1];exact l
     rw[Zat (by rw[C];simpa using I)]at hx;simp only[Zaz]at hx
     cases hz:B[i-Ξ ms]? with
     | none=>simp[hz]at hx
     | some z=>simp[hz]at hx;subst hx;cases hm
    rintro⟨y,hy,l⟩;obtain⟨i,n,q,p,m,R,V,F,k4,k5,k6⟩:=Z y hy;have I:i<c.args.size:=by have:=AG k4;simpa using this
    refine⟨i,a.eval p,m,?_,by rw[Zba (AG k5)];exact k5,(W k6).2.2.2,by rw[(W k6).1];exact l⟩;rw[Zbx (by simpa using I)];have:c.args[i]?=θ p:=by simpa using k4
    simp[this]
   have hMb:∀b,(∃y∈ub,Ai (β y.1)=θ b)->OS β X (B5 mb S) b:=λb ⟨y,hy,l⟩=>.inr (.inr ⟨y.1,N y hy,l⟩)
   have hcl':=s.2.2 (λb=>OS β X (B5 mb S) b/\¬∃y∈ub,Ai (β y.1)=θ b) w (c.args.map a.eval++t) (λb l=>h1.os_lt l.1) (λg cs hg=>(h1.glob g cs hg).mono (Cg.of_sub λb l=>by
    rcases l with l|l;exact l.1;obtain⟨y,hy,l⟩:=(hMut b).1 l;exact .inr (.inr ⟨y.1,N y hy,l⟩))) (by simp[C,hcl]) (λb l hO=>hO.2 ((hMut b).1 l))
    (λi j v v' x y b O hv' hx hy hmx hmy l hb'=>by
     have one:∀(i:Nat) v x,(c.args.map a.eval++t)[i]?=θ v->(ms++B.map .d)[i]?=θ x->x.mut=ν->∃id n,us[i]?=θ (θ (id,n))/\Ai v=Ai (β id):=by
      intro i v x O hx hm;rcases hval i v O with⟨p,Q,rfl⟩|⟨I,O⟩;rw[Zba (by rw[C];exact AG Q)]at hx;have H:us[i]?=θ (us[i]'(by rw[J];exact AG Q)):=Zaa _
      cases hq:us[i]'(by rw[J];exact AG Q)with
      | none=>rw[hq]at H;rw[hnm i x hx H]at hm;cases hm
      | some q=>
        obtain⟨id,n⟩:=q;rw[hq]at H;exact⟨id,n,H,(W (hmut i p x id n Q hx H)).1⟩
      rw[Zat (by rw[C];simpa using I)]at hx;simp only[Zaz]at hx
      cases hz:B[i-Ξ ms]? with
      | none=>simp[hz]at hx
      | some z=>simp[hz]at hx;subst hx;cases hm
     obtain⟨id,n,R,ev1⟩:=one i v x O hx hmx;obtain⟨id',n',k1',ev2⟩:=one j v' y hv' hy hmy;rw[ev1]at l;rw[ev2]at hb';obtain⟨z,hz,e,_⟩:=hu1 i id n (L i id n R);obtain⟨z',hz',e',_⟩:=hu1 j id' n' (L j id' n' k1');have:=h1.inj id id' b (by rw[<-e];exact N z hz) (by rw[<-e'];exact N z' hz') l hb';subst this;exact hu3 i j id n n' (L i id n R) (L j id n' k1'))
    (λi v x O hx=>by
     have sub:∀b,((OS β X (B5 mb S) b/\¬∃y∈ub,Ai (β y.1)=θ b)\/Km (c.args.map a.eval++t) (ms++B.map .d) b)->OS β X (B5 mb S) b:=by
      intro b l;rcases l with l|l;exact l.1;exact hMb b ((hMut b).1 l)
     rcases hval i v O with⟨p,Q,rfl⟩|⟨I,O⟩
     ·rw[Zba (by rw[C];exact AG Q)]at hx;have H:us[i]?=θ (us[i]'(by rw[J];exact AG Q)):=Zaa _
      cases hq:us[i]'(by rw[J];exact AG Q)with
      | none=>
        rw[hq]at H;have hC:=(hargs i p x Q hx H).mono (Cg.of_sub sub);have hnm':=hnm i x hx H
        cases x<;>first|exact hC|cases hnm'
      | some q=>
        obtain⟨id,n⟩:=q;rw[hq]at H;have U:=hmut i p x id n Q hx H;obtain⟨z,hz,e,_⟩:=hu1 i id n (L i id n H);have hsm:=hsame z hz;rw[e]at hsm;have M:=h1.boxes id;rw[hsm]at M
        cases x<;>try exact U.elim
        obtain⟨R,V,F⟩:=U;rw[R]at M;obtain⟨j1,j2,vals,j3,j4⟩:=M;exact⟨j1,j2,vals,by rw[F];exact j3,j4.mono (Cg.of_sub sub)⟩;obtain⟨cs,R,V,F,k4⟩:=U;rw[R]at M;obtain⟨b',vals,T,j1,j2,j3,j4⟩:=M;exact⟨b',vals,T,by rw[F];exact j1,j2,(XN h3 h1 k4 (by simpa using j3) (λj v c O hc=>j4 j v c (by simpa using O) hc)).mono (Cg.of_sub sub)⟩;obtain⟨k0,vs',ds,sz,e,xs,R,V,F,k4,k5⟩:=U;rw[k4]at M;obtain⟨j1,j2,vals,j3,j4⟩:=M;exact⟨k0,vs',β id,ds,sz,e,xs,⟨R,V,by simpa using F.1,j1,j2,vals,j3,j4.mono (Cg.of_sub sub)⟩,F.mono (Cg.of_sub λb l=>h2 b (sub b l))⟩
     rw[Zat (by rw[C];simpa using I),C]at hx;simp only[Zaz,Zbv]at hx
     cases hz:B[i-c.args.size]? with
     | none=>simp[hz]at hx
     | some z=>
       simp[hz]at hx;subst hx;exact(hcr _ v z O hz).mono ((Cg.of_sub λb l=>h2 b (sub b l))))
   obtain⟨e,hKe,E⟩:=bR (X:=X) (G:=G) (β:=β) (a:=a) (w:=w) (S:=B5 mb S) (S0:=S) (pre:=mb) (ub:=ub) rfl (by rw[Dx];exact hd) (dv:=(An S d).ver) (by rw[h3.ver];exact Zam _) hund
    (λy hy=>by
     have:(An (B5 mb S) y.1).box≠.none:=by intro hh;have:=N y hy;rw[hh]at this;cases this
     exact UO rfl this) hK h3.ver
   refine⟨e,hKe,λhok=>.inr (.inr ⟨f,_,hrun s.1,hcl'.mono λe' w' ⟨v,h4,h5,h6,h7⟩=>⟨v,h4,E (λb=>(OS β X (B5 mb S) b/\¬∃y∈ub,Ai (β y.1)=θ b)\/Km (c.args.map a.eval++t) Y b) v w' ⟨h1,λy hy=>?_,?_,λb l hn=>.inl ⟨l,λ⟨y,hy,hyb⟩=>hn y hy hyb⟩,λb y hy ho l=>?_,?_,λy hy ho=>?_⟩ hok⟩⟩)⟩
   ·
     obtain⟨i,n,q,p,m,R,V,F,k4,k5,k6⟩:=Z y hy;refine⟨N y hy,?_⟩;rw[h3.ver,(W k6).2.1]
     cases q<;>try exact F.elim
     exact .inr ⟨F.1,by rw[F.2];omega⟩;exact .inl ⟨by rw[F.1];rfl,F.2⟩;exact .inl ⟨by rw[F.1];rfl,F.2⟩;obtain⟨⟨_,_,_,_,_,F⟩,k4⟩:=F;exact .inl ⟨by rw[F];rfl,k4⟩
   exact h5.weaken (Zam _) λk _ hno hm=>hno ((hMut k).1 hm)
   ·
     obtain⟨i,n,q,p,m,R,V,F,k4,k5,k6⟩:=Z y hy;have I:i<c.args.size:=by have:=AG k4;simpa using this
     refine .inr ⟨i,a.eval p,q,?_,V,?_,by rw[(W k6).1];exact l⟩;rw[Zbx (by simpa using I)];have:c.args[i]?=θ p:=by simpa using k4
     simp[this]
     ·cases q<;>try exact F.elim
      rw[F.1]at ho;cases ho;rfl;rfl;rfl
   ·refine h6.mono (λb l=>?_) λb l=>l;rcases l with l|⟨l,hno⟩;exact .inl l
    ·obtain⟨y,hy,hyb⟩:=(hMut b).1 l;refine .inr ⟨y,hy,?_,hyb⟩;obtain⟨i,n,q,p,m,R,V,F,k4,k5,k6⟩:=Z y hy;have I:i<c.args.size:=by have:=AG k4;simpa using this
     have hvi:(c.args.map a.eval++t)[i]?=θ (a.eval p):=by
      rw[Zbx (by simpa using I)];have:c.args[i]?=θ p:=by simpa using k4
      simp[this]
     cases q<;>try exact F.elim
     exact F.1;exact absurd ⟨i,a.eval p,_,hvi,V,rfl,by rw[(W k6).1];exact hyb⟩ hno;exact absurd ⟨i,a.eval p,_,hvi,V,rfl,by rw[(W k6).1];exact hyb⟩ hno;exact absurd ⟨i,a.eval p,_,hvi,V,rfl,by rw[(W k6).1];exact hyb⟩ hno
   ·obtain⟨i,n,q,p,m,R,V,F,k4,k5,k6⟩:=Z y hy;have I:i<c.args.size:=by have:=AG k4;simpa using this
    have hvi:(c.args.map a.eval++t)[i]?=θ (a.eval p):=by
     rw[Zbx (by simpa using I)];have:c.args[i]?=θ p:=by simpa using k4
     simp[this]
    have hro:=h7 i (a.eval p) m q hvi (by rw[Zba (AG k5)];exact k5) V
    have esub:∀b,((((OS β X (B5 mb S) b/\¬∃y∈ub,Ai (β y.1)=θ b)\/Km (c.args.map a.eval++t) Y b)\/EZ v r b)->((OS β X (B5 mb S) b/\¬∃y∈ub,Ai (β y.1)=θ b)\/Km (c.args.map a.eval++t) Y b\/EZ v r b)):=by
     intro b l;rcases l with(l|l)|l;exact .inl l;exact .inr (.inl l);exact .inr (.inr l)
    cases q<;>try exact F.elim
    rw[F.1]at ho;cases ho;rw[F.1];obtain⟨⟨j1,j2,vals,j3,j4⟩,_,rfl⟩:=hro;rw[k6.2.2]at j3;exact⟨j1,j2,vals,j3,j4.mono (Cg.of_sub esub)⟩;rw[F.1];obtain⟨⟨b',vals,T,j1,j2,j3⟩,_,rfl,_⟩:=hro;obtain⟨_,_,_,k7,_⟩:=k6;rw[k7]at j1;exact⟨_,rfl,b',vals,T,j1,j2,j3.mono (Cg.of_sub esub)⟩
    ·obtain⟨⟨ds',sz',e',ys',q1,q2⟩,_⟩:=F;obtain⟨vs,u,ds,sz,e,ys,q3,q4,q5,j1,j2,vals,j3,j4⟩:=hro;rw[q3]at q1;obtain⟨_,q1⟩:=List.append_inj' q1 rfl;simp at q1;obtain⟨rfl,rfl,rfl⟩:=q1;rw[q2]
     have hu:u=β y.1:=by
      cases m<;>try exact k6.elim
      obtain⟨z1,_,z3⟩:=k6;obtain⟨ad,m',c',z4⟩:=hsl z1;rw[z3,z4]at q4;cases q4;obtain⟨cs,z1,_,z3,_⟩:=k6;have M:=h.boxes y.1;rw[z1]at M;obtain⟨_,_,_,z4,_⟩:=M;rw[z3,z4]at q4;cases q4;obtain⟨_,vs',_,_,_,_,_,z2,_⟩:=k6;rw[z2]at q4;simp at q4;exact(Array.push_eq_push.1 q4).1.symm
     rw[hu]at j3;exact⟨j1,j2,vals,j3,j4.mono (Cg.of_sub esub)⟩
end
section
variable {P:Η} {X:Cx} {G:Nat->Prop} {β:Nat->Ψ} {S:AS} {a:Act} {w:Λ} {o:Oper}
def Ix(R:Ψ->C->Prop)(vs:Γ Ψ)(cs:Γ C):=Ξ vs=Ξ cs/\∀(j:Nat) v c,vs[j]?=θ v->cs[j]?=θ c->R v c
def Ix.append{R}{vs us}{xs ys}(h:Ix R vs xs)(k:Ix R us ys):Ix R (vs++us) (xs++ys):=by
 refine⟨by simp[h.1,k.1],λj v y b hy=>?_⟩;by_cases c:j<Ξ vs;rw[Zba c]at b;rw[Zba (by rw[<-h.1];exact c)]at hy;exact h.2 j v y b hy;rw[Zat z0]at b;rw[Zat (by rw[<-h.1];omega)]at hy;rw[<-h.1]at hy;exact k.2 _ v y b hy
def Ix.take{R}{vs}{xs}(h:Ix R vs xs)n:Ix R (vs.take n) (xs.take n):=by
 refine⟨by simp[h.1],λj v y b hy=>?_⟩;rw[Zbw]at b hy;split at b;rw[Zai ‹_›]at hy;exact h.2 j v y b hy
 cases b
def Ix.drop{R}{vs}{xs}(h:Ix R vs xs)n:Ix R (vs.drop n) (xs.drop n):=by
 refine⟨by simp[h.1],λj v y b hy=>?_⟩;rw[Zca]at b hy;exact h.2 _ v y b hy
def Ix.splice{R:Ψ->C->Prop}{vs us:Γ Ψ}{xs ys:Γ C}(h:Ix R vs xs)(k:Ix R us ys){o:Nat}(ho:o<=Ξ xs):
 Ix R (vs.take o++us++vs.drop (o+Ξ us)) (splice xs o ys):=by
 rw[Hm xs o ys ho,k.1];exact((h.take o).append k).append (h.drop _)
def oX(R:Ψ->C->Prop):Γ (Nat×Ψ)->Γ (Nat×Γ C)->Prop| [],[]=>True| (i,v)::r,(j,c)::s=>i=j/\Ix R v.cells.toList c/\oX R r s| _,_=>False
theorem dp{R}{b}:∀{k}{m}{cells}{cs l},oX R k m->Ix R cells.toList cs->jE b cs m=θ l->
 ∃d,Instr.fill b cells k=θ d/\Ix R d.toList l
 | [],[],cells,cs,l,_,hc,hf=>by simp[jE]at hf;subst hf;exact⟨cells,rfl,hc⟩
 | (i,v)::r,(j,x)::s,cells,cs,l,e,hc,hf=>by
   obtain⟨rfl,n,e⟩:=e;simp only[jE]at hf;split at hf
   cases hf
   rename_i off p g;split at hf;rename_i h;have q:v.cells.size=Ξ x:=by simpa using n.1
   have t:cells.size=Ξ cs:=by simpa using hc.1
   have c:=ac off v.cells.toList 0 cells z5;simp only[Zcy]at c
   have f:Ix R (v.cells.zipIdx.foldl (λcs (x:Ψ×Nat)=>cs.setIfInBounds (off+x.2) x.1) cells).toList (splice cs off x):=by
    rw[<-Array.foldl_toList,Array.toList_zipIdx,c];exact hc.splice n z0
   have⟨d,h1,h2⟩:=dp e f hf;refine⟨d,?_,h2⟩;simp only[Instr.fill,g];grind
   cases hf
 | [],_::_,_,_,_,e,_,_=>e.elim
 | (_,_)::_,[],_,_,_,e,_,_=>e.elim
def qL β n O w v c:=CI β n O w v c/\v.oneCell'=ν
def BC.cellsC{O}{n}{vs}{ys}(h:BC O w vs ys):Ix (qL β n O w) vs (ys.map C.d):=⟨by simpa using h.1,λj v c b d=>⟨h.cells j v c b d,h.oneCell v (Zbf b)⟩⟩
def uv(h:SimB X G β S a w){v}{id n sz}{e}{xs}(hr:U9 β (OS β X S) S w v (.row id n sz e xs)):v.cells=#[v]/\qL β (AU S) (OS β X S) w v (.sl id n):=by
 have⟨h1,h2,c⟩:=hr;have d:=h.boxes id;rw[h1]at d;have⟨_,_,vals,hr,_⟩:=d
 have key:v.cells=#[v]/\v.oneCell'=ν:=by
  rw[c];rcases hr with⟨_,⟨b,_⟩|⟨f,cap,cur,b,_⟩⟩|⟨_,_,g,b⟩<;>(rw[b];exact⟨rfl,rfl⟩)
 exact⟨key.1,⟨Zdr h2.symm,λ_=>c⟩,key.2⟩
def iJ(h:SimB X G β S a w){r}{v}(hr:U9 β (OS β X S) S w v r){K}(hy:cellsOf r K):∃c,K c/\Ix (qL β (AU S) (OS β X S) w) v.cells.toList c:=by
 cases r<;>simp only[cellsOf]at hy
 case d x=>
  rw[Wa]at hy;exact⟨_,hy,(Jv (show A5 _ w v x from hr)).cellsC⟩
 case lim sz xs=>exact⟨_,hy,(Jv (x:=.list sz xs) hr.1).cellsC⟩
 case row id n sz e xs=>
  have⟨h1,h2⟩:=uv h hr;refine⟨_,hy,by rw[h1];rfl,λj b c f g=>?_⟩;grind
theorem aP(h:SimB X G β S a w){g}(f:CZ g a):∀{b}{K},Td (ρOf S g) b K->
 ∃d,K d/\oX (qL β (AU S) (OS β X S) w) (b.map λx=>(x.1,a.eval x.2)) d
 | [],K,hy=>⟨[],hy,trivial⟩
 | (i,x)::r,K,hy=>by
   have⟨c,hK,j⟩:=iJ h (ρ_sound h f x) hy;have⟨d,hK,e⟩:=aP h f hK;exact⟨_,hK,rfl,j,e⟩
def nc(h:SimB X G β S a w){g:Δ (Nat×Ω)}(C:CZ g a){t:Υ}{d:Array (Nat×Ly)}(ho:o.op=.build t d){b:Array Field}(v:P.underlying t=θ (.struct b))
 {x:Γ D} (q:zeroCells P t=θ x) (m:b.toList.all (λf=>(P.info? f.type).isSome)=ν) {K:J4->Prop}
 (hy:m5 x λE=>Td (ρOf S g) d.toList λy=>match jE (λi=>match b[i]? with|θ f=>θ (f.offset,AJ P f.type)|κ=>κ) E y with
  | some l=>DY l λl=>K ⟨.cc κ l,[],[]⟩
  | none=>False):∃e,K e/\EE P X G S a w o e:=by
 rw[Wa]at hy;have⟨y,hK,F⟩:=aP h C hy;split at hK;rename_i l H;rw[Ct]at hK;have⟨i,z,I,J,r⟩:=JU (O:=OS β X S) (w:=w) q;have⟨p,A,B⟩:=dp F (r.cellsC (β:=β) (n:=AU S)) H;have k:(λ(i:Nat)=>match (b[i]?:Δ Field)with|θ f=>θ (f.offset,AJ P f.type)|κ=>κ)=λi=>(b.map λ(f:Field)=>(f.offset,AJ P f.type))[i]?:=z5;rw[k]at A
 have s:(b.mapM λ(f:Field)=>(do pure (f.offset,<-sizeOf f.type):Sem (Nat×Nat))).run P w=.ok (b.map λ(f:Field)=>(f.offset,AJ P f.type)) w:=by
  rw[Zgk,Sem.run_map,ib m];simp only[Result.andThen_ok];congr 1;grind
 refine⟨_,hK,.inl ⟨.agg p,w,?_,β,h,⟨p,rfl,by simpa using B.1,λj u c v L=>B.2 j u c z5 L⟩,rfl⟩⟩;simp only[execOp,ho,Instr.build,Sem.run_bind,zeroValue,typeInfo,run_program,I,J,Result.andThen_ok,Sem.run_pure,run_underlying v,s,Array.toList_map];rw[A];simp;grind
theorem Vt(h:SimB X G β S a w){g}(u:CZ g a):∀{args}{K},Nb (σOf S) (ρOf S g) args K->
 ∃l b,K l b/\FZ S [] b/\Ξ l=Ξ args/\(∀(i:Nat) p id n,args[i]?=θ p->l[i]?=θ (.sl id n)->(An S id).ver=n/\a.eval p=β id/\(a.eval p).oneCell'=ν)/\(∀c∈l,∀sz e xs,c≠.own sz e xs) /\
  (∀(i:Nat) y,l[i]?=θ (.d y)->y.one=ν)/\Pr X G β S a w b λO=>∀(i:Nat) p y,args[i]?=θ p->l[i]?=θ (.d y)->A5 O w (a.eval p) y
 | [],K,hy=>⟨[],[],hy,trivial,rfl,(λi p id n f=>by simp at f),(λ_ h=>by cases h),(λi y hy=>by simp at hy),λ_ _ _ _ _ i p y f _=>by simp at f⟩
 | q::r,K,hy=>by
   unfold Nb at hy;split at hy
   ·rename_i id n how;have hr:=ρ_sound h u q;have⟨l,bs,hK,j,v,x,z,m,d⟩:=Vt h u hy
    have H:(An S id).ver=n/\a.eval q=β id/\(a.eval q).oneCell'=ν:=by
     unfold qh at how;split at how<;>try (cases how;done)
     rename_i hx
     cases how
     rw[hx]at hr;have⟨_,h2,b,A,s⟩:=hr;exact⟨h2,by rw[s,A],by rw[s];rfl⟩;rename_i hx
     cases how
     rw[hx]at hr;have⟨_,h2,b,A,s⟩:=hr;exact⟨h2,by rw[s,A],by rw[s];rfl⟩
    refine⟨_,_,hK,j,by simp[v],λi p B E f k=>?_,λc k=>?_,λi y hy=>?_,d.mono (λ_ h=>h) λO D i p y f k=>?_⟩
    all_goals grind
   ·have⟨y,b,hK,F,_,t⟩:=QE h (ρ_sound h u q) hy;split at hK
    ·rename_i I;have⟨h1,hK⟩:=Av hK;have⟨l,bs,hK,j,v,x,z,m,d⟩:=Vt h u hK;refine⟨_,_,hK,F.append j,by simp[v],λi p B E f k=>?_,λc k=>?_,λi y hy=>?_,(t.and d).mono (λ_ h=>h) λO D i p y f k=>?_⟩;grind;grind;grind
     cases i with
     | zero=>simp at f k;subst f;subst k;exact D.1
     | succ i=>exact D.2 i p y (by simpa using f) z5
    grind
theorem pA(h:SimB X G β S a w){g}(u:CZ g a){f}{first caps}(ho:o.op=.makeFunc (.func f) first caps)(C:first.toList=[]){K:J4->Prop}(hy:Nb (σOf S) (ρOf S g) caps.toList λl b=>K ⟨.cc (θ f) l,b,[]⟩):∃e,K e/\EE P X G S a w o e:=by
 have⟨l,b,hK,t,x,r,z,j,k⟩:=Vt h u hy;have⟨h1,_,s⟩:=t.run h;have hr:=k.now h t;refine⟨_,hK,.inl ⟨.func (.func f) #[] (caps.map a.eval),w,?_,β,h1,⟨caps.map a.eval,rfl,by simp[x],λi v c m q=>?_⟩,rfl⟩⟩;have:first=#[]:=by cases first;simp_all
 simp[execOp,ho,Instr.makeFunc,this];rw[Array.getElem?_map]at m
 cases hp:caps[i]? with
 | none=>grind
 | some p=>
   simp[hp]at m;subst m
   cases c with
   | d y=>exact⟨⟨hr i p y (by simpa using hp) q,j i y q⟩,be (hr i p y z5 q) (j i y q)⟩
   | sl id n=>
     have⟨h2,A,B⟩:=r i p id n z5 q;have m:=s.ver id;exact⟨⟨by simp only[AU];rw[m,h2];exact Zam _,λ_=>A⟩,B⟩
   | own sz e xs=>grind
theorem XE:∀{cs}{k id n},qz cs=θ (k,id,n)->cs[k]?=θ (.sl id n)
 | [],_,_,_,h=>by cases h
 | .sl b d::r,k,id,n,h=>by simp[qz]at h;obtain⟨rfl,rfl,rfl⟩:=h;rfl
 | .d y::r,k,id,n,h=>by
   simp only[qz]at h;split at h;rename_i e b d c;simp only[Option.some.injEq,Prod.mk.injEq]at h;obtain⟨rfl,rfl,rfl⟩:=h;simpa using XE c
   cases h
 | .own _ _ _::r,k,id,n,h=>by
   simp only[qz]at h;split at h;rename_i e b d c;simp only[Option.some.injEq,Prod.mk.injEq]at h;obtain⟨rfl,rfl,rfl⟩:=h;simpa using XE c
   cases h
theorem js:∀{cs}{i:Nat}{x},(Wx cs)[i]?=θ x->x=.any\/∃y,x=.d y/\cs[i]?=θ (.d y)
 | [],i,x,h=>by simp[Wx]at h
 | c::r,0,x,h=>by
   cases c<;>simp[Wx]at h<;>subst h
   all_goals grind
 | c::r,i+1,x,h=>by
   have b:(Wx r)[i]?=θ x:=by cases c<;>simpa [Wx] using h
   rcases js b with h|⟨y,h1,h2⟩
   all_goals grind
theorem ZH:∀cs:Γ C,Ξ (Wx cs)=Ξ cs
 | []=>rfl
 | c::r=>by cases c<;>simp[Wx,ZH r]
def pD(h:SimB X G β S a w){g:Δ (Nat×Ω)}(hg:CZ g a){c:Call}(ho:o.op=.call c){fo:Ly}(hc:c.callee=.value fo){f:FuncId}{cs:Γ C}{k id n rid rn:Nat}(hf:ρOf S g fo=.clo f cs k id n rid rn)
 {d s sz:Nat} {e:Υ} {xs:Γ D} (hr:σOf S rid rn=.row d s sz e xs) {K:J4->Prop} (hy:K4 P (σOf S) (ρOf S g) c.args.toList c.argTypes.toList λvs bs=>match bs with
  | []=>DY (Wx cs) λcv=>m9 P f (vs++cv) (Ξ vs+k) sz e xs λys=>if id=rid then False else K ⟨.any,[(rid,.row sz e ys,rn+1),(id,.var [.sl rid (rn+1)],n)],[]⟩
  | _=>False):∃e,K e/\EE P X G S a w o e:=by
 have⟨vs,bs,hy,hF,E,hrep⟩:=R8 h hg hy;split at hy<;>try exact hy.elim
 rw[Ct]at hy;have⟨ys,R,hy⟩:=hy.go;split at hy;exact hy.elim;rename_i O;refine⟨_,hy,?_⟩;have hargs:=hrep.now h hF;have hfv:=ρ_sound h hg fo;rw[hf]at hfv;have⟨⟨z,hfe,hcl,hcr⟩,hat,W,Y⟩:=hfv
 have hrun:(execOp a.eval o).run P w=.ok (.enter f (c.args.map a.eval++z)) w:=by
  simp only[execOp,ho,resolve,hc,hfe,Deferred.ofValue,Sem.run_bind,Sem.run_pure,Result.andThen_ok,invoke];simp only[Array.empty_append];rw[Pe R.1]
 have L:=h.boxes id;rw[W]at L;have⟨b,vals,T,hβ,hh,hvs,hcell⟩:=L
 obtain⟨u,rfl⟩:∃u,vals=#[u]:=by
  have:vals.size=1:=hvs;exact⟨vals[0],by apply Array.ext;simp[this];intro i h1 h2;simp at h2;subst h2;rfl⟩
 have hcu:=hcell 0 u (.sl rid rn) rfl rfl;have hσ:=σ_sound h hcu;rw[hr]at hσ;have⟨hrb,hrv,A⟩:=hσ
 obtain⟨rfl,rfl⟩:d=rid/\s=rn:=by
  simp only[σOf,res]at hr;split at hr<;>(try (split at hr))<;>cases hr<;>exact⟨rfl,rfl⟩
 have Z:=h.boxes d;rw[hrb]at Z;have⟨hsz,hxs,rvals,hrow,hrl⟩:=Z;have N:(An S id).box.owned=ν:=by rw[W];rfl
 have F:(An S d).box.owned=ν:=by rw[hrb];rfl
 have M:Ai (β id)=θ b:=by rw[hβ];rfl
 have hid:=UO W zs;have hrid:=UO hrb zs;have hlt:=h.blk N M
 have hO:∀c',(OS β X S c'/\c'≠b/\Ai u≠θ c')\/c'=b\/Ai u=θ c'->OS β X S c':=by
  intro c' r;rcases r with r|rfl|r;exact r.1;exact .inr (.inr ⟨id,N,M⟩);exact .inr (.inr ⟨d,F,by rw[<-A];exact r⟩)
 have hval:∀(i:Nat) v,(c.args.map a.eval++z)[i]?=θ v->(∃p,c.args.toList[i]?=θ p/\v=a.eval p)\/(c.args.size<=i/\z[i-c.args.size]?=θ v):=by
  intro i v Q;rcases Zbk i c.args.size with hi|hi;rw[Zbx (by simpa using hi)]at Q;simp[hi]at Q;exact .inl ⟨c.args[i],by simp[hi],Q.symm⟩;rw[Zeb (by simpa using hi)]at Q;exact .inr ⟨hi,by simpa using Q⟩
 have hkv:(c.args.map a.eval++z)[Ξ vs+k]?=θ (.pointer (θ ⟨b,0,κ⟩)):=by
  have h1:=XE hat;have h2:k<z.size:=by rw[hcl];exact AG h1
  have h3:=hcr k z[k] _ (by simp[h2]) h1;have h4:z[k]=β id:=h3.1.2 (by simp only[AU];exact Y.symm);rw[Zeb (by simp[E])];simp[E,h2,h4,hβ]
 have:=R.2 (λc'=>OS β X S c'/\c'≠b/\Ai u≠θ c') w (c.args.map a.eval++z) b u T (λc' r=>h.os_lt r.1) (λq l hq=>(h.glob q l hq).mono (Cg.of_sub hO))
  (by simp[E,hcl,ZH]) hkv hh (λhb=>hb.2.1 rfl) (λc' r=>⟨λhx=>hx.2.2 r,λe=>by
   subst e;exact O (h.inj id d c' N F M (by rw[<-A];exact r))⟩) hsz hxs ⟨rvals,by rw[A];exact hrow,hrl.mono (Cg.of_sub hO)⟩
  (λi v x Q hx=>by
   rcases hval i v Q with⟨p,hp,rfl⟩|⟨hi,Q⟩;rw[Zba (by rw[E];exact AG hp)]at hx;exact(hargs i p x hp hx).mono (Cg.of_sub hO);rw[Zat (by rw[E];simpa using hi),E]at hx;simp only[Zbv]at hx;rcases js hx with rfl|⟨y,rfl,hcy⟩;trivial;exact((hcr _ v _ Q hcy).1.1).mono (Cg.of_sub hO))
 refine .inr (.inr ⟨f,_,hrun,this.mono λe' w' ⟨v,u',T',h1,h2,h3,h4,h5,vals',h6,h7⟩=>⟨v,h1,?_⟩⟩);have hsz2:=h2.size;let β':Nat->Ψ:=λi=>if i=d then u' else β i
 have hgs:∀i,An (B5 [(d,.row sz e ys,s+1),(id,.var [.sl d (s+1)],n)] S) i=if i=d then⟨(An S d).av,.row sz e ys,s+1⟩else if i=id then⟨(An S id).av,.var [.sl d (s+1)],n⟩else An S i:=by
  intro i;simp only[B5];rw[NJ (by rw[Ef];exact hid),NJ hrid,NJ hrid];by_cases t:i=id;subst t;simp[O];simp[t]
 have hsim:SimB X G β' (B5 [(d,.row sz e ys,s+1),(id,.var [.sl d (s+1)],n)] S) a w':=by
  refine h.multi (λi=>if i=d then θ (.row sz e ys,s+1,u')else if i=id then θ (.var [.sl d (s+1)],n,β id)else κ) (λi=>?_) (λi=>?_) (Dx _ _) hsz2 ?_ (λi B m v hE=>?_) (λV hb' hk=>?_) (λi B m v V hE hB L=>?_) (λi j B m v B' m' v' V hE H hB hB' L hbv'=>?_) λhk hvv i B m v hE=>?_;rw[hgs];by_cases t:i=d;subst t;simp;by_cases I:i=id;simp[I,O];simp[t,I];show(if i=d then u' else β i)=_;by_cases t:i=d;simp[t];by_cases I:i=id;subst I;simp only[Zah t,if_true];simp[t,I];refine h2.weaken h.hbase λq hq hm hq'=>hm ?_;rcases hq' with rfl|hq';exact((h.mine id q N M).1).resolve_left z0;exact((h.mine d q F (by rw[<-A];exact hq')).1).resolve_left z0;split at hE;rename_i t;subst t;cases hE;exact .inl (by rw[hrv];omega);split at hE;rename_i I;subst I;cases hE;exact .inr ⟨Y.symm,rfl,by rw[W];simp⟩
  cases hE
  refine h2.block V hb' λhm=>?_;rcases hm with rfl|hm;exact hk id (.var [.sl d (s+1)]) n (β id) (by simp[O]) N M;exact hk d (.row sz e ys) (s+1) u' zs F (by rw[<-A];exact hm);split at hE;rename_i t;subst t
  cases hE
  rcases h4 V L with h8|h8;exact .inl ⟨i,.row sz e ys,s+1,u',zs,F,by rw[<-A];exact h8⟩;exact .inr h8;split at hE;rename_i t I;subst I
  cases hE
  exact .inl ⟨i,.var [.sl d (s+1)],n,β i,by simp[O],N,L⟩
  cases hE
  have hdis:∀V,Ai u'=θ V->Ai (β id)≠θ V:=by
   intro V h8 h9;rw[M]at h9
   cases h9
   rcases h4 b h8 with h9|h9;exact O (h.inj id d b N F M (by rw[<-A];exact h9));omega
  by_cases t:i=d<;>by_cases I:j=d;rw[t,I];simp only[t,I,if_true,if_false]at hE H;split at H
  cases hE;cases H;exact(hdis V L hbv').elim
  cases H
  simp only[t,I,if_true,if_false]at hE H;split at hE
  cases hE;cases H;exact(hdis V hbv' L).elim
  cases hE
  simp only[t,I,if_false]at hE H;split at hE;split at H;rename_i e3 e4;rw[e3,e4]
  cases H
  cases hE
  have hOS:∀c',OS β' X (B5 [(d,.row sz e ys,s+1),(id,.var [.sl d (s+1)],n)] S) c'->(OS β X S c'/\c'≠b/\Ai u≠θ c')\/c'=b\/Ai u'=θ c':=by
   intro c' r;by_cases eb:c'=b;exact .inr (.inl eb);by_cases eu:Ai u'=θ c';exact .inr (.inr eu)
   have key:OS β X S c'/\Ai u≠θ c':=by
    rcases r with r|r|⟨i,U,J⟩;refine⟨.inl r,λe=>?_⟩;have:=(h.mine d c' F (by rw[<-A];exact e)).1;have h0:=h.o₀ c' r;rcases this with this|this;omega;exact h0.2 this;refine⟨.inr (.inl r),λe=>(h.mine d c' F (by rw[<-A];exact e)).2 r⟩;rw[hgs]at U;have J:Ai (if i=d then u' else β i)=θ c':=J;by_cases t:i=d;rw[Zai t]at J;exact(eu J).elim;rw[Zah t]at U J;by_cases I:i=id;subst I;rw[M]at J;cases J;exact(eb rfl).elim;rw[Zah I]at U;exact⟨.inr (.inr ⟨i,U,J⟩),λe=>t (h.inj i d c' U F J (by rw[<-A];exact e))⟩
   exact .inl ⟨key.1,eb,key.2⟩
  split at hE;rename_i t;subst t
  cases hE
  exact⟨hsz,h5,vals',by show BM w' e sz (if i=i then u' else β i) _ _;rw[Zai rfl];exact h6,h7.mono (Cg.of_sub hOS)⟩;split at hE;rename_i t I;subst I
  cases hE
  refine⟨b,#[u'],T',by show(if i=d then u' else β i)=_;rw[Zah t];exact hβ,h3,rfl,λj v c' Q r=>?_⟩
  cases j with
  | zero=>
    simp at Q r;subst Q;subst r;have hvr:AU (B5 [(d,.row sz e ys,s+1),(i,.var [.sl d (s+1)],n)] S) d=s+1:=by simp only[AU,hgs,if_true]
    exact⟨by rw[hvr];exact Zam _,λ_=>by show _=if d=d then u' else _;rw[Zai rfl]⟩
  | succ j=>simp at r
  cases hE
 exact⟨β',hsim,trivial,rfl⟩
end
open Go.MapKept
section
variable {P:Η} {X:Cx} {G:Nat->Prop} {β:Nat->Ψ} {S:AS} {a:Act} {w:Λ} {o:Oper}
def iY{O}{d}{v u}{k q}(e:A5 O w v k)(f:A5 O w u q)(c:iP k=θ d)(b:L5 k q=ν):
 Instr.sameNow d v u=θ (Nx k q):=by
 cases k<;>simp only[iP,Option.some.injEq]at c<;>try (cases c;done)
 case int j n=>
  cases q<;>simp only[L5]at b<;>try (cases b;done)
  case int j' m=>
   cases e;cases f
   subst c;have:=Zal b;subst this;simp[Instr.sameNow,Nx]
 case str s=>
  cases q<;>simp only[L5]at b<;>try (cases b;done)
  case str s'=>
   cases e;cases f
   subst c;simp[Instr.sameNow,Nx]
theorem Ux{O:Nat->Prop}{c:TypeDesc}{v:Ψ}{k:D}(d:A5 O w v k)(b:iP k=θ c):
 ∀(vs:Γ MapEntry)(es:Γ (D×D))(i:Nat),Ξ vs=Ξ es->(∀p∈es,L5 k p.1=ν)->(∀(j:Nat)(e:MapEntry)(p:D×D),vs[j]?=θ e->es[j]?=θ p->A5 O w e.key p.1)->
  Instr.findNow c v vs i=θ (match WN k es with|θ j=>(vs[j]?).map λe=>(i+j,e.val)|κ=>κ)
 | [],[],_,_,_,_=>rfl
 | [],_::_,_,h,_,_=>by simp at h
 | _::_,[],_,h,_,_=>by simp at h
 | e::vs,p::es,i,hl,hkk,hr=>by
   have h1:=iY d (hr 0 e p rfl rfl) b (hkk p zs);unfold Instr.findNow WN;rw[h1]
   cases Nx k p.1 with
   | true=>simp
   | false=>
     simp only[Zaq];rw[Ux d b vs es (i+1) (by simpa using hl) (λq g=>hkk q (by simp[g])) (λj f p' he l=>hr (j+1) f p' (by simpa using he) (by simpa using l))]
     cases WN k es with
     | none=>rfl
     | some j=>
       simp only[Zer,Zcg];congr 2;funext f;congr 1;omega
def kX(h:SimB X G β S a w){d}(hd:d<Ξ S){t}(ho:o.op=.makeMap t κ):
 EE P X G S a w o ⟨.sl d ((An S d).ver+1),[(d,.map [],(An S d).ver+1)],[]⟩:=by
 refine .inl ⟨.map (θ w.heap.size),w.alloc (.map #[] 0),?_,Pn β d (.map (θ w.heap.size)),?_,?_,rfl⟩;simp[execOp,ho,Instr.makeMap]
 exact h.rebox (R':=X.R) (λ_ h=>h) hd (.inl (Zds _)) zs ((AC.of (QG _)).weaken h.hbase λ_ _ h=>h) (λb c _=>heap_alloc_old w _ b c)
  (λ_ b c=>⟨.inr (.inl (by simp[Ai]at c;omega)),λhr=>by simp[Ai]at c;have:=(h.rs b hr).2;omega⟩) (λk f=>⟨w.heap.size,#[],0,by simp[Pn],heap_alloc_new w _,rfl,λi e p he=>by simp at he⟩)
 have f:AU (Bp S d (.map []) ((An S d).ver+1)) d=(An S d).ver+1:=by simp[AU,CG,hd]
 exact⟨by simp only[B5];rw[f];exact Zam _,λ_=>by simp[Pn]⟩
theorem l9{q}:∀{es}{j},WN q es=θ j->j<Ξ es
 | [],j,h=>by cases h
 | p::r,j,h=>by
   unfold WN at h
   cases hk:Nx q p.1 with
   | true=>rw[hk]at h;cases h;simp
   | false=>
     rw[hk]at h;simp only[Zaq]at h;obtain⟨i,b,rfl⟩:=Option.map_eq_some_iff.1 h;have:=l9 b;simp;omega
theorem jF q:∀es:Γ (D×D),UJ q es=(WN q es).bind λj=>(es[j]?).map (·.2)
 | []=>rfl
 | p::r=>by
   unfold UJ WN
   cases Nx q p.1 with
   | true=>rfl
   | false=>
     simp only[Zaq];rw[jF q r]
     cases WN q r<;>simp
def nL{O}{c}{q}{u}(b:iP q=θ c)(h:A5 O w u q):IsKey c u:=by
 cases q<;>simp only[iP,Option.some.injEq]at b<;>try (cases b;done)
 case int j n=>cases h;subst b;simp[IsKey]
 case str s=>cases h;subst b;simp[IsKey]
theorem nl(h:SimB X G β S a w){g}(T:CZ g a){t U V}{x K}{ok}(ho:o.op=.lookup t x K ok)(f:P.underlying t=θ (.map U V)){id n}{es}(hx:ρOf S g x=.mp id n es){q}(Z:ρOf S g K=.d q){W}(A:iP q=θ W)(l:P.underlying U=θ W)(M:∀p∈es,L5 q p.1=ν){z}(y:yB P V=θ z):
 EE P X G S a w o ⟨if ok then .tup [.d ((UJ q es).getD z),.d (.bool (UJ q es).isSome)]else .d ((UJ q es).getD z),[],[]⟩:=by
 have h1:=ρ_sound h T x;rw[hx]at h1;have⟨hb,_,hv⟩:=h1;have h2:=ρ_sound h T K;rw[Z]at h2;have B:=h.boxes id;rw[hb]at B;have⟨b,vs,N,hβ,L,hl,hr⟩:=B;have C:A5 (OS β X S) w (a.eval K) q:=h2;have r:=nL A C;have d:=Ux C A vs.toList es 0 (by simpa using hl) M (λj e p he hp=>(hr j e p (by simpa using he) hp).1);unfold yB at y;split at y<;>try (cases y;done)
 rename_i i Y;split at y<;>try (cases y;done)
 rename_i Q E;have F:=λ(O:Nat->Prop)(w:Λ)=>oP (O:=O) (w:=w) y;have s:a.eval x=.map (θ b):=by rw[hv,hβ]
 rw[jF]
 cases hj:WN q es with
 | none=>
   rw[hj]at d;simp only at d
   cases ok with
   | false=>
     refine Ba h (v:=Q) ?_ (F _ _).1 rfl;simp[execOp,ho,Instr.lookup,run_underlying f,s,MapKept.run_getObj_map L,MapKept.run_checkKey l r,MapKept.run_findKey l d,zeroValue,typeInfo,Y,E,Result.andThen]
   | true=>
     refine Ba h (v:=.tuple #[Q,.bool ξ]) ?_ ⟨#[Q,.bool ξ],rfl,rfl,λk u c f m=>?_⟩ rfl;simp[execOp,ho,Instr.lookup,run_underlying f,s,MapKept.run_getObj_map L,MapKept.run_checkKey l r,MapKept.run_findKey l d,zeroValue,typeInfo,Y,E,Result.andThen]
     match k,f,m with
     | 0,f,m=>simp at f m;subst f;subst m;exact(F _ _).1
     | 1,f,m=>simp at f m;subst f;subst m;exact .bool _
     | k+2,f,m=>simp at f
 | some j=>
   rw[hj]at d;have H:=l9 hj;have I:j<vs.size:=z0;have J:=hr j vs[j] es[j] (by simp[I]) (Zaa H);simp only[Zaa H,Zad,Zer,Zel,Option.isSome_some]at d ⊢;have R:vs.toList[j]?=θ vs[j]:=by simp[I]
   rw[R]at d;simp only[Zer]at d
   cases ok with
   | false=>
     refine Ba h (v:=vs[j].val) ?_ J.2.1 rfl;simp[execOp,ho,Instr.lookup,run_underlying f,s,MapKept.run_getObj_map L,MapKept.run_checkKey l r,MapKept.run_findKey l d,Result.andThen]
   | true=>
     refine Ba h (v:=.tuple #[vs[j].val,.bool ν]) ?_ ⟨#[vs[j].val,.bool ν],rfl,rfl,λk u c f m=>?_⟩ rfl;simp[execOp,ho,Instr.lookup,run_underlying f,s,MapKept.run_getObj_map L,MapKept.run_checkKey l r,MapKept.run_findKey l d,Result.andThen]
     match k,f,m with
     | 0,f,m=>simp at f m;subst f;subst m;exact J.2.1
     | 1,f,m=>simp at f m;subst f;subst m;exact .bool _
     | k+2,f,m=>simp at f
theorem kB{q}v:∀{es},WN q es=κ->iy q v es=es++[(q,v)]
 | [],_=>rfl
 | p::r,h=>by
   unfold WN at h;unfold iy
   cases hk:Nx q p.1 with
   | true=>rw[hk]at h;cases h
   | false=>
     rw[hk]at h;simp only[Zaq,Option.map_eq_none_iff]at h;rw[Zaq,kB v h];rfl
theorem kC{q}v:∀{es}{j},WN q es=θ j->iy q v es=es.set j (q,v)
 | [],j,h=>by cases h
 | p::r,j,h=>by
   unfold WN at h;unfold iy
   cases hk:Nx q p.1 with
   | true=>rw[hk]at h;cases h;rfl
   | false=>
     rw[hk]at h;simp only[Zaq]at h;obtain⟨i,b,rfl⟩:=Option.map_eq_some_iff.1 h;rw[Zaq,kC v b];rfl
def si(h:SimB X G β S a w){id n}{es f}(q:(An S id).box=.map es)(x:(An S id).ver=n){b}(t:β id=.map (θ b)){vs d}{g c}(y:w.heap[b]?=θ (.map vs g))(z:d.size=Ξ f)(hr:∀(i:Nat)(e:MapEntry)(p:D×D),d[i]?=θ e->f[i]?=θ p->(∀(O:Nat->Prop)(w:Λ),A5 O w e.key p.1)/\(∀(O:Nat->Prop)(w:Λ),A5 O w e.val p.2)/\p.1.bare=ν/\p.2.bare=ν):
 SimB X G β (Bp S id (.map f) n) a { w with heap:=w.heap.setIfInBounds b (.map d c) }:=by
 have hid:=UO q zs;have ho:(An S id).box.owned=ν:=by rw[q];rfl
 have j:Ai (β id)=θ b:=by rw[t];rfl
 have⟨r,l⟩:=heap_set (o':=.map d c) y
 have u:=h.rebox (R':=X.R) (id:=id) (B:=.map f) (v:=β id) (n:=n) (w':={ w with heap:=w.heap.setIfInBounds b (.map d c) })
  (λ_ h=>h) hid (.inr ⟨x.symm,rfl,by rw[q];simp⟩) zs
  ⟨rfl,rfl,rfl,zs,λk m A=>l k λe=>by subst e;rcases(h.mine id k ho j).1 with h1|h1;omega;exact A h1⟩
  (λk _ m=>l k λe=>m ho (by rw[j,e]))
  (λ_ k m=>⟨.inl ⟨m,ho⟩,(h.mine id k ho m).2⟩)
  (λk C=>by
   rw[HW]at k C ⊢;exact⟨b,d,c,t,r,z,λi e p he s=>⟨(hr i e p he s).1 _ _,(hr i e p he s).2.1 _ _,(hr i e p he s).2.2⟩⟩)
 rw[HW]at u;exact u
theorem rG{q}:∀{es}{j},WN q es=θ j->∀h:j<Ξ es,Nx q es[j].1=ν
 | [],j,h,hl=>by simp at hl
 | p::r,j,h,hl=>by
   unfold WN at h
   cases hk:Nx q p.1 with
   | true=>rw[hk]at h;cases h;exact hk
   | false=>
     rw[hk]at h;simp only[Zaq]at h;obtain⟨i,b,rfl⟩:=Option.map_eq_some_iff.1 h;exact rG b (by simpa using hl)
def yj{O}{q p}{u v}(b:L5 q p=ν)(he:Nx q p=ν)(c:A5 O w u q)(d:A5 O w v p):v=u:=by
 cases q<;>cases p<;>simp only[L5]at b<;>try (cases b;done)
 case int.int j n j' n'=>
  cases c;cases d
  have:=Zal b;subst this;simp only[Nx]at he;rw[eq_of_beq he]
 case str.str s s'=>
  cases c;cases d
  simp only[Nx]at he;rw[(bytes_beq _ _).1 he]
theorem nn(h:SimB X G β S a w){g}(M:CZ g a){t W et}{m k x}(ho:o.op=.mapUpdate t m k x)(Y:P.underlying t=θ (.map W et)){id n}{es}(hm:ρOf S g m=.mp id n es){q y}(hq:ρOf S g k=.d q)(hy:ρOf S g x=.d y)(s:y.bare=ν){Z}(B:iP q=θ Z)(u:P.underlying W=θ Z)(F:∀p∈es,L5 q p.1=ν):
 EE P X G S a w o ⟨.any,[(id,.map (iy q y es),n)],[]⟩:=by
 have h1:=ρ_sound h M m;rw[hm]at h1;have⟨N,hn,hv⟩:=h1;have h2:=ρ_sound h M k;rw[hq]at h2;have l:A5 (OS β X S) w (a.eval k) q:=h2;have h3:=ρ_sound h M x;rw[hy]at h3;have H:A5 (OS β X S) w (a.eval x) y:=h3;have I:=h.boxes id;rw[N]at I;have⟨b,vs,f,Q,E,L,hr⟩:=I;have r:=nL B l;have v:q.bare=ν:=by cases q<;>simp[iP]at B<;>rfl
 have c:=Ux l B vs.toList es 0 (by simpa using L) F (λj e p he d=>(hr j e p (by simpa using he) d).1);have J:a.eval m=.map (θ b):=by rw[hv,Q]
 have K:∀(i:Nat)(e:MapEntry)(p:D×D),vs[i]?=θ e->es[i]?=θ p->(∀(O:Nat->Prop)(w:Λ),A5 O w e.key p.1)/\(∀(O:Nat->Prop)(w:Λ),A5 O w e.val p.2)/\p.1.bare=ν/\p.2.bare=ν:=λi e p he d=>
  ⟨λ_ _=>Yv (hr i e p he d).1 (hr i e p he d).2.2.1,λ_ _=>Yv (hr i e p he d).2.1 (hr i e p he d).2.2.2,(hr i e p he d).2.2⟩
 cases hj:WN q es with
 | none=>
   rw[hj]at c;simp only at c;rw[kB y hj];refine .inr (.inl ⟨{ w with heap:=w.heap.setIfInBounds b (.map (vs.push { key:=a.eval k,val:=a.eval x,born:=f }) (f+1)) },?_,β,?_,trivial,rfl⟩);simp[execOp,ho,Instr.mapUpdate,run_underlying Y,J,MapKept.run_getObj_map E,MapKept.run_checkKey u r,MapKept.run_findKey u c,run_setObj_map _ E,Result.andThen];refine si h N hn Q E (by simp[L]) λi e p he d=>?_;by_cases R:i<vs.size;exact K i e p (by rw[Array.getElem?_push]at he;rw[Zah z0]at he;exact he) (by rw[Zba z0]at d;exact d)
   have T:i=vs.size:=by
    have:=(List.getElem?_eq_some_iff.1 d).1;simp at this;omega
   subst T;simp at he;rw[Zat z0]at d;simp[L]at d;subst he;subst d;exact⟨λ_ _=>Yv l v,λ_ _=>Yv H s,v,s⟩
 | some j=>
   rw[hj]at c;have z:=l9 hj;have A:j<vs.size:=z0;have U:vs.toList[j]?=θ vs[j]:=by simp[A]
   simp only[U,Zer]at c;rw[kC y hj];have V:=hr j vs[j] es[j] (by simp[A]) (Zaa z);have C:vs[j].key=a.eval k:=yj (F _ (Zae z)) (rG hj z) l V.1;refine .inr (.inl ⟨{ w with heap:=w.heap.setIfInBounds b (.map (vs.modify j λe=>{ e with key:=a.eval k,val:=a.eval x }) f) },?_,β,?_,trivial,rfl⟩);simp[execOp,ho,Instr.mapUpdate,run_underlying Y,J,MapKept.run_getObj_map E,MapKept.run_checkKey u r,MapKept.run_findKey u c,run_setObj_map _ E,Result.andThen,A,C,run_keyThatStays r];refine si h N hn Q E (by simp[L]) λi e p he d=>?_;rw[Zex]at he;rw[Zbz]at d;by_cases R:j=i;subst R;rw[Zai rfl]at he d;rw[Zai z]at d;simp[A]at he
   cases d
   subst he;exact⟨λ_ _=>Yv l v,λ_ _=>Yv H s,v,s⟩;rw[Zah R]at he d;exact K i e p he d
