/- M2 -/
import Derived.Test.YtkjijhldfdplgaaGreatDoorM1
import Derived.Laws.StructEq
import Derived.Laws.Concat
import Derived.Lib.ConvBytes
import Derived.Laws.CopyOwn
import Derived.Laws.OwnMore
import Derived.MapKept
set_option linter.all false
namespace Go.Abs
open Go.RowKit (Below)
theorem Al{c p:Prop}[Decidable c](h:if c then p else False):c/\p:=by grind
section
variable {P:Program} {X:Cx} {G:Nat->Prop} {β:Nat->Value} {S:AS} {a:Act} {w:World} {o:Oper}
def SX(X:Cx)(G:Nat->Prop)(S:AS)(a:Act)(e:Hy)(v:Value)(w':World):Prop :=
 ∃β',SimB X G β' (Bj e.bx S) a w'/\Kc β' (AM (Bj e.bx S)) (OS β' X (Bj e.bx S)) w' a.tmps v e.av/\e.av.guards=[]
def Dx(P:Program)(X:Cx)(G:Nat->Prop)(S:AS)(a:Act)(w:World)(o:Oper)(e:Hy):Prop :=
 (∃v w',(execOp a.eval o).run P w=.ok (.value v) w'/\SX X G S a e v w') \/
 (∃w',(execOp a.eval o).run P w=.ok .skip w'/\SX X G S a e undef w') \/
 (∃f args,(execOp a.eval o).run P w=.ok (.enter f args) w/\Calls P f args w λe' w'=>∃v,e'=.returned v/\SX X G S a e v w')
theorem AW(h:SimB X G β S a w){v:Value}{x:AV}(b:(execOp a.eval o).run P w=.ok (.value v) w)
 (hr:Kc β (AM S) (OS β X S) w a.tmps v x) (c:x.guards=[]):Dx P X G S a w o ⟨x,[],[]⟩ :=
 .inl ⟨v,w,b,β,h,hr,c⟩
theorem Ny{O:Nat->Prop}{tm:Array Value}{v:Value}{r:RV}(h:Ps β O S w v r):Kc β (AM S) O w tm v (back r)/\(back r).guards=[]:=by
 cases r with
 | any=>exact⟨trivial,rfl⟩
 | bot=>exact h.elim
 | d x=>exact⟨h,rfl⟩
 | lim sz xs=>exact⟨h,rfl⟩
 | vptr id n o cs=>obtain⟨_,b,c⟩:=h;exact⟨⟨u1 b.symm,λ_=>c⟩,rfl⟩
 | row id n sz e xs=>obtain⟨_,b,c⟩:=h;exact⟨⟨u1 b.symm,λ_=>c⟩,rfl⟩
 | eptr id n sz e xs i o=>obtain⟨_,b,c⟩:=h;exact⟨⟨u1 b.symm,λ_=>c⟩,rfl⟩
 | tup xs=>exact⟨h,rfl⟩
 | cagg xs=>exact⟨h,rfl⟩
 | cfun f xs=>exact⟨h,rfl⟩
 | clo f xs k id n rid rn=>exact⟨h.1,rfl⟩
 | mp id n es=>obtain⟨_,b,c⟩:=h;exact⟨⟨u1 b.symm,λ_=>c⟩,rfl⟩
theorem ED{O:Nat->Prop}{v:Value}{b:Bool}(h:Ax O w v (.bool b)):v=.bool b:=by cases h;rfl
theorem AT{O:Nat->Prop}{v:Value}{k:IntKind}{n:Int}(h:Ax O w v (.int k n)):v=.int k n:=by cases h;rfl
theorem KW{O:Nat->Prop}{v:Value}{s:ByteArray}(h:Ax O w v (.str s)):v=.string s:=by cases h;rfl
theorem Vi{O:Nat->Prop}{v:Value}{x:D}(h:Ax O w v x)(b:x.one=true):v.oneCell'=true:=by cases h<;>first|rfl|(simp[D.one]at b)
theorem ZE(h:SimB X G β S a w){g:Option (Nat×Bool)}(c:BW g a){x:Operand}(ho:o.op=.move x\/o.op=.assign x) :
 Dx P X G S a w o ⟨back (ρOf S g x),[],[]⟩:=by
 have b:=Ny (tm:=a.tmps) (ρ_sound h c x);refine AW h (v:=a.eval x) ?_ b.1 b.2;rcases ho with ho|ho<;>simp[execOp,ho]
theorem jN(h:SimB X G β S a w){g:Option (Nat×Bool)}(m:BW g a){t:Nat}{x y:Operand}(ho:o.op=.pick (.tmp t) x y){c f i:Bool}
 (n:ρOf S g (.tmp t)=.d (.bool c)) (hx:ρOf S (some (t,true)) x=.d (.bool f)) (hy:ρOf S (some (t,false)) y=.d (.bool i)) :
 Dx P X G S a w o ⟨.d (.bool (bif c then f else i)),[],[]⟩:=by
 have j:=ρ_sound h m (.tmp t);rw[n]at j;have d:=ED j
 have k:a.tmps[t]?=some (.bool c):=by
  simp only[Act.eval,Array.getD]at d;split at d
  ·simp_all
  ·simp[undef]at d
 have l:(execOp a.eval o).run P w=.ok (.value (if c then a.eval x else a.eval y)) w:=by simp[execOp,ho,d,asBool]
 cases c with
 | true =>
   have b:=ρ_sound h (g:=some (t,true)) (λp w' e=>by cases e;exact k) x;rw[hx]at b;exact AW h (v:=a.eval x) (by grind) b rfl
 | false =>
   have b:=ρ_sound h (g:=some (t,false)) (λp w' e=>by cases e;exact k) y;rw[hy]at b;exact AW h (v:=a.eval y) (by grind) b rfl
theorem fU(h:SimB X G β S a w){g:Option (Nat×Bool)}(l:BW g a){t:Nat}{x y:Operand}(ho:o.op=.pick (.tmp t) x y){c f:Bool}
 (m:ρOf S g (.tmp t)=.d (.bool c)) (hx:ρOf S (some (t,true)) x=.bot) (hy:ρOf S (some (t,false)) y=.d (.bool f)) :
 Dx P X G S a w o ⟨.d (.bool f),[],[]⟩:=by
 have i:=ρ_sound h l (.tmp t);rw[m]at i;have d:=ED i
 have j:a.tmps[t]?=some (.bool c):=by
  simp only[Act.eval,Array.getD]at d;split at d
  ·simp_all
  ·simp[undef]at d
 have k:(execOp a.eval o).run P w=.ok (.value (if c then a.eval x else a.eval y)) w:=by simp[execOp,ho,d,asBool]
 cases c with
 | true =>
   have b:=ρ_sound h (g:=some (t,true)) (λn w' e=>by cases e;exact j) x;rw[hx]at b;exact b.elim
 | false =>
   have b:=ρ_sound h (g:=some (t,false)) (λn w' e=>by cases e;exact j) y;rw[hy]at b;exact AW h (v:=a.eval y) (by grind) b rfl
theorem fV(h:SimB X G β S a w){g:Option (Nat×Bool)}(l:BW g a){t:Nat}{x y:Operand}(ho:o.op=.pick (.tmp t) x y){c f:Bool}
 (m:ρOf S g (.tmp t)=.d (.bool c)) (hx:ρOf S (some (t,true)) x=.d (.bool f)) (hy:ρOf S (some (t,false)) y=.bot) :
 Dx P X G S a w o ⟨.d (.bool f),[],[]⟩:=by
 have i:=ρ_sound h l (.tmp t);rw[m]at i;have d:=ED i
 have j:a.tmps[t]?=some (.bool c):=by
  simp only[Act.eval,Array.getD]at d;split at d
  ·simp_all
  ·simp[undef]at d
 have k:(execOp a.eval o).run P w=.ok (.value (if c then a.eval x else a.eval y)) w:=by simp[execOp,ho,d,asBool]
 cases c with
 | true =>
   have b:=ρ_sound h (g:=some (t,true)) (λn w' e=>by cases e;exact j) x;rw[hx]at b;exact AW h (v:=a.eval x) (by grind) b rfl
 | false =>
   have b:=ρ_sound h (g:=some (t,false)) (λn w' e=>by cases e;exact j) y;rw[hy]at b;exact b.elim
theorem Hz(b off j:Nat):(⟨b,off,none⟩:Addr).add j=⟨b,off+j,none⟩:=by unfold Addr.add;split<;>simp_all
theorem U9{R:Nat->Value->D->Prop}:∀(cs:List D)(n:Nat),(∀(j:Nat) y,cs[j]?=some y->∃c,R (n+j) c y) ->
 ∃vs:List Value,vs.length=cs.length/\∀(j:Nat) v y,vs[j]?=some v->cs[j]?=some y->R (n+j) v y
 | [],n,_=>by simp_all
 | c :: r,n,h=>by
   obtain⟨v,d⟩:=h 0 c (by simp);obtain⟨vs,b,hr⟩:=U9 r (n+1) (λj y hy=>by have:=h (j+1) y (by grind);rwa [show n+(j+1)=n+1+j by omega]at this);refine⟨v :: vs,by simp[b],λj u y e hy=>?_⟩;grind
theorem Pt{t:TypeId}(h:Nv P t=some true):(isAgg t).run P w=.ok true w:=by
 unfold Nv at h;unfold isAgg;split at h<;>simp_all[run_underlying]
theorem Nw{t:TypeId}(h:Nv P t=some false):(isAgg t).run P w=.ok false w:=by
 unfold Nv at h;unfold isAgg;split at h
 ·simp at h
 ·simp at h
 ·rename_i d hd _ _ b
  simp only[Sem.run_bind,run_underlying b,Result.andThen_ok];rfl
 ·simp at h
theorem VH{O:Nat->Prop}{t:TypeId}{cs:List D}{b off:Nat}{K:D->Prop}(hy:dZ P t cs K)
 (k:∀(j:Nat) y,cs[j]?=some y->∃c,w.cell? ⟨b,off+j,none⟩=some c/\Ax O w c y/\y.one=true) :
 ∃x,K x/\∃v,(loadVar t ⟨b,off,none⟩).run P w=.ok v w/\Ax O w v x:=by
 unfold dZ at hy;split at hy
 ·rename_i d
  split at hy
  ·rename_i i m
   rw[BN]at hy;split at hy
   ·rename_i e
    obtain⟨vs,n,hr⟩:=U9 (R:=λj c y=>w.cell? ⟨b,off+j,none⟩=some c/\Ax O w c y/\y.one=true) (cs.take i.size) 0
     (λj y hy=>by
      rw[tE];refine k j y ?_;rw[tM]at hy;split at hy
      ·exact hy
      ·cases hy)
    have f:∀j,j<vs.length->∃y,(cs.take i.size)[j]?=some y:=λj h=>⟨_,P3 (by omega)⟩;refine⟨_,hy,.agg vs.toArray,?_,?_⟩
    ·have g:=run_loadCells_list (P:=P) w ⟨b,off,none⟩ vs (λj v p=>by
      have h:j<vs.length:=by grind
      obtain⟨y,hy⟩:=f j h;have:=(hr j v y p hy).1;rw[tE]at this;rw[Hz];exact this)
     rw[n,e]at g;simp[loadVar,Pt d,sizeOf,typeInfo,m,g]
    ·refine .agg _ _ (by grind) ?_ ?_
     ·intro x hx;obtain⟨j,h⟩:=List.mem_iff_getElem?.1 hx;grind
     ·grind
   ·grind
  ·grind
 ·rename_i d
  split at hy
  ·rename_i y r
   obtain⟨c,l,q,_⟩:=k 0 y (by simp);refine⟨y,hy,c,?_,q⟩;rw[ui]at l;simp[loadVar,Nw d,run_load,l]
  ·grind
 ·grind
theorem Q0{t:TypeId}{x:Operand}{b off:Nat}{v:Value}(ho:o.op=.load t x)(hx:a.eval x=.pointer (some ⟨b,off,none⟩))
 (c:(loadVar t ⟨b,off,none⟩).run P w=.ok v w):(execOp a.eval o).run P w=.ok (.value v) w:=by
 simp[execOp,ho,Instr.loadAt,hx,Instr.sureAddr,c]
theorem YB{O:Nat->Prop}{v:Value}{cs:List D}(h:Ax O w v (.ptr cs)):∃b off,v=.pointer (some ⟨b,off,none⟩)/\∀(j:Nat) y,cs[j]?=some y->∃c,w.cell? ⟨b,off+j,none⟩=some c/\Ax O w c y/\y.one=true:=by
 cases h with
 | ptr b off _ c e f g d hr=>grind
theorem dq(h:SimB X G β S a w){t:TypeId}{x:Operand}(ho:o.op=.load t x){cs:List D}(hr:Ax (OS β X S) w (a.eval x) (.ptr cs))
 {K:Hy->Prop} (hy:dZ P t cs λx=>K ⟨.d x,[],[]⟩):∃e,K e/\Dx P X G S a w o e:=by
 obtain⟨b,off,d,f⟩:=YB hr;obtain⟨i,hK,v,g,c⟩:=VH hy f;exact⟨_,hK,AW h (Q0 ho d g) c rfl⟩
theorem Ns(h:SimB X G β S a w){id:Nat}{cs:List C}(e:(Ai S id).box=.var cs){b:Nat}(f:β id=.pointer (some ⟨b,0,none⟩)) :
 ∃vals T,w.heap[b]?=some (.cells vals T (0,0))/\vals.size=cs.length/\∀(j:Nat) v c,vals[j]?=some v->cs[j]?=some c->Ce β (AM S) (OS β X S) w v c:=by
 have d:=h.boxes id;rw[e]at d;obtain⟨g,vals,T,i,k,l,m⟩:=d;grind
theorem Um(h:SimB X G β S a w):∀{l:List C},Sg (σOf S) l=true->∀c∈l,∀{v:Value},Ce β (AM S) (OS β X S) w v c->v.oneCell'=true
 | [],_,_,b,_,_=>by grind
 | .d x :: r,hr,c,b,v,hv=>by
   rcases List.mem_cons.1 b with rfl|b
   ·exact Vi hv.1 hv.2
   ·exact Um h (l:=r) hr c b hv
 | .sl id n :: r,hr,c,b,v,hv=>by
   simp only[Sg]at hr;split at hr
   ·rename_i f s k t m p
    rcases List.mem_cons.1 b with rfl|b
    ·have d:=σ_sound h hv;rw[p]at d;obtain⟨q,_,g⟩:=d;have e:=h.boxes f;rw[q]at e;obtain⟨_,_,vals,i,_⟩:=e;rw[g];rcases i with⟨_,⟨j,_⟩|⟨_,_,_,j,_⟩⟩|⟨_,_,_,j⟩<;>(rw[j];rfl)
    ·exact Um h (l:=r) hr c b hv
   ·cases hr
 | .own _ _ _ :: _,hr,_,_,_,_=>by cases hr
theorem du(h:SimB X G β S a w){t:TypeId}{x:Operand}(ho:o.op=.load t x){id n off:Nat}{cs:List C}(hr:Ps β (OS β X S) S w (a.eval x) (.vptr id n off cs))
 {K:Hy->Prop} (hy:o0 P (σOf S) t (cs.drop off) K):∃e,K e/\Dx P X G S a w o e:=by
 obtain⟨M,_,b,N,g⟩:=hr;obtain⟨vals,T,I,Z,O⟩:=Ns h M N;unfold o0 at hy;split at hy
 ·rename_i d
  split at hy
  ·rename_i i Q
   rw[BN]at hy;obtain⟨s,hy⟩:=Al hy;have f:∀(j:Nat) v c,(((vals.toList).drop off).take i.size)[j]?=some v->((cs.drop off).take i.size)[j]?=some c->Ce β (AM S) (OS β X S) w v c:=by grind
   have m:(((vals.toList).drop off).take i.size).length=((cs.drop off).take i.size).length:=by grind
   have k:(execOp a.eval o).run P w=.ok (.value (.agg (((vals.toList).drop off).take i.size).toArray)) w:=by
    refine Q0 ho g ?_
    have z:=run_loadCells_list (P:=P) w ⟨b,off,none⟩ (((vals.toList).drop off).take i.size) (λj v g=>by
     rw[tM]at g;split at g
     ·rw[tQ]at g;rw[Hz];simp[World.cell?,I];grind
     ·cases g)
    rw[m,s]at z;simp[loadVar,Pt d,sizeOf,typeInfo,Q,z]
   have data:(Ef (σOf S) ((cs.drop off).take i.size) λl b=>K ⟨.d (.agg l),b,[]⟩)->∃e,K e/\Dx P X G S a w o e:=by
    intro hy;obtain⟨l,bx,hK,J,R,hl,A,U⟩:=Kg h hy;have B:=U (((vals.toList).drop off).take i.size) m f;obtain⟨V,k2,k3⟩:=J.run h;have L:=B.now h J;refine⟨_,hK,.inl ⟨_,w,k,β,V,?_,rfl⟩⟩;refine .agg _ _ (by grind) (λy hy=>?_) (λj v y g hy=>(L.2 j v y (by simpa using g) hy).1);obtain⟨j,W⟩:=List.mem_iff_getElem?.1 hy;have p:j<(((vals.toList).drop off).take i.size).length:=by grind
    exact(L.2 j _ y (P3 p) W).2
   split at hy
   ·grind
   ·rcases hy.go with hy|hy
    ·grind
    ·obtain⟨q,hK⟩:=Al hy;refine⟨_,hK,.inl ⟨_,w,k,β,h,⟨_,rfl,by simpa using m,λj u c hu A=>?_⟩,rfl⟩⟩;have D:=f j u c (by grind) A;exact⟨D,Um h q c (tz A) D⟩
  ·grind
 ·rename_i d
  have key:∀c r,cs.drop off=c :: r->∃v,(execOp a.eval o).run P w=.ok (.value v) w/\Ce β (AM S) (OS β X S) w v c:=by
   intro c r hd
   have A:cs[off]?=some c:=by
    have:(cs.drop off)[0]?=some c:=by grind
    grind
   have p:off<vals.size:=by grind
   have E:vals[off]?=some vals[off]:=by grind
   refine⟨vals[off],Q0 ho g ?_,O off _ c E A⟩;simp[loadVar,Nw d,run_load,World.cell?,I,p]
  split at hy
  ·rename_i y r hd
   obtain⟨v,F,H⟩:=key _ _ hd;exact⟨_,hy,AW h F H.1 rfl⟩
  ·rename_i Y n' r hd
   obtain⟨v,F,H⟩:=key _ _ hd;exact⟨_,hy,AW h F H rfl⟩
  ·grind
 ·grind
theorem nK(h:SimB X G β S a w){id sz:Nat}{e:TypeId}{xs:List D}(t:(Ai S id).box=.row sz e xs){b m cap:Nat}(u:β id=.slice (some ⟨b,0,none⟩) m cap){i:Nat}{x:D}
 (hx:xs[i]?=some x) {j:Nat} {y:D} (hy:x.cells[j]?=some y):∃c,w.cell? ⟨b,i*sz+j,none⟩=some c/\Ax (OS β X S) w c y/\y.one=true:=by
 have d:=h.boxes id;rw[t]at d;obtain⟨H,v,vals,z,l⟩:=d;have n:0<xs.length:=by grind
 rcases z with⟨p,⟨f,A⟩|⟨g,q,cur,f,B,C,I,J,E,F⟩⟩|⟨A,_⟩
 ·omega
 ·rw[u]at f;simp at f;obtain⟨rfl,rfl,rfl⟩:=f;have r:=Pz xs v i x j y hx hy;have k:i*sz+j<vals.length:=by rw[l.1];exact A7 r
  have s:vals[i*sz+j]?=some vals[i*sz+j]:=P3 k;refine⟨vals[i*sz+j],?_,l.2 _ _ _ s r⟩;rw[<-s,<-F,ul (by grind)];simp[World.cell?,C]
 ·omega
theorem dr(h:SimB X G β S a w){t:TypeId}{x:Operand}(ho:o.op=.load t x){id n sz i off:Nat}{e:TypeId}{xs:List D}(hr:Ps β (OS β X S) S w (a.eval x) (.eptr id n sz e xs i off))
 {K:Hy->Prop} (hy:At xs i λx=>dZ P t (x.cells.drop off) λx=>K ⟨.d x,[],[]⟩):∃e,K e/\Dx P X G S a w o e:=by
 obtain⟨g,_,b,m,cap,k,l⟩:=hr;obtain⟨_,y,c,hy⟩:=hy.go;simp only[tu]at c
 obtain⟨q,hK,v,p,f⟩:=VH (O:=OS β X S) (w:=w) (b:=b) (off:=i*sz+off) hy (λj y' d=>by
  simp only[tQ]at d;have:=nK h g k c d
  rwa [<-Nat.add_assoc]at this)
 exact⟨_,hK,AW h (Q0 ho l p) f rfl⟩
theorem bA{t:TypeId}(h:gz P t=true):P.underlying t=some .bool:=by
 unfold gz at h;grind
def D.sv:D->Value
 | .bool b=>.bool b
 | .int k n=>.int k n
 | .str s=>.string s
 | _=>undef
theorem ah{α:Type}{l:List α}{n:Nat}{x:α}{r:List α}(h:l.take n=x :: r):l=x :: l.drop 1:=by
 cases l with
 | nil=>simp at h
 | cons y q=>cases n with
   | zero=>simp at h
   | succ n=>grind
def Kd(O:Nat->Prop)(w:World)(vs:Array Value)(off:Nat)(xs:List D):Prop:=∀(j:Nat) y,xs[j]?=some y->∃v,vs[off+j]?=some v/\Ax O w v y
theorem Kd.drop{O:Nat->Prop}{vs:Array Value}{off:Nat}{xs:List D}(h:Kd O w vs off xs)(n:Nat):Kd O w vs (off+n) (xs.drop n):=by
 intro j y hy;rw[tQ]at hy;have:=h (n+j) y hy;grind
theorem eT{t:TypeId}{vs:Array Value}{off:Nat}{xs:List D}{O:Nat->Prop}(h:Kd O w vs off xs)(d:(P.info? t).isSome=true)(g:AF P t<=xs.length) :
 (Nv P t=some true->(part t vs off).run P w=.ok (.agg (vs.extract off (off+AF P t))) w)/\(Nv P t=some false->∀y r,xs=y :: r->∃v,(part t vs off).run P w=.ok v w/\Ax O w v y):=by
 obtain⟨i,e⟩:=Option.isSome_iff_exists.1 d;refine⟨λb=>?_,λb y r hx=>?_⟩
 ·simp[part,Pt b,sizeOf,typeInfo,e,AF]
 ·obtain⟨v,c,f⟩:=h 0 y (by grind);rw[ui]at c;exact⟨v,by simp[part,Nw b,c],f⟩
theorem Kd.extract{O:Nat->Prop}{vs:Array Value}{off n:Nat}{xs:List D}(h:Kd O w vs off xs):Kd O w (vs.extract off (off+n)) 0 (xs.take n):=by
 intro j y hy;rw[tM]at hy;split at hy
 ·rename_i b
  obtain⟨v,c,d⟩:=h j y hy;grind
 ·cases hy
theorem mf(n:Nat){t:TypeId}{xs ys:List D}{K:Bool->Prop}(h:dz P n t xs ys K):Nv P t≠none:=by
 cases n with
 | zero=>exact h.elim
 | succ n =>
   unfold dz at h;unfold Nv;grind
theorem qC(n:Nat){t:TypeId}{xs ys:List D}{K:Bool->Prop}(b:Nv P t=some false)(h:dz P n t xs ys K):∃x r y q,xs=x :: r/\ys=y :: q:=by
 cases n with
 | zero=>exact h.elim
 | succ n =>
   unfold dz at h;split at h
   ·grind
   ·grind
   ·grind
   ·rename_i d c;unfold Nv at b;rw[c]at b;simp at b
   ·grind
theorem V7{O:Nat->Prop}:∀(n m:Nat),n<m->∀{t:TypeId}{xs ys:List D}{vs us:Array Value}{K:Bool->Prop},dz P n t xs ys K ->
 (Nv P t=some true->Kd O w vs 0 xs->Kd O w us 0 ys->∃b,K b/\(Op.equalIn m t (.agg vs) (.agg us)).run P w=.ok b w) /\
 (Nv P t=some false->∀x y r q v u,xs=x :: r->ys=y :: q->Ax O w v x->Ax O w u y->∃b,K b/\(Op.equalIn m t v u).run P w=.ok b w)
 | 0,_,_,t,xs,ys,vs,us,K,h=>h.elim
 | n+1,0,hm,t,xs,ys,vs,us,K,h=>by omega
 | n+1,m+1,hm,t,xs,ys,vs,us,K,h=>by
   unfold dz at h;split at h
   ·rename_i k g
    refine⟨λd=>by unfold Nv at d;rw[g]at d;simp at d,λ_ x y r q v u hx hy B i=>?_⟩;subst hx;subst hy;split at h
    ·rename_i k1 R _ k2 T _ j e
     simp at j e;obtain⟨rfl,_⟩:=j;obtain⟨rfl,_⟩:=e;obtain⟨L,M⟩:=Al h;subst L;rw[AT B,AT i];exact⟨_,M,run_equalIn_int w m t _ _ _ _ g⟩
    ·grind
   ·rename_i g
    refine⟨λd=>by unfold Nv at d;rw[g]at d;simp at d,λ_ x y r q v u hx hy B i=>?_⟩;subst hx;subst hy;split at h
    ·rename_i R _ T _ j e
     simp at j e;obtain⟨rfl,_⟩:=j;obtain⟨rfl,_⟩:=e;rw[ED B,ED i];exact⟨_,h,run_equalIn_bool' w m t _ _ g⟩
    ·grind
   ·rename_i g
    refine⟨λd=>by unfold Nv at d;rw[g]at d;simp at d,λ_ x y r q v u hx hy B i=>?_⟩;subst hx;subst hy;split at h
    ·rename_i R _ T _ j e
     simp at j e;obtain⟨rfl,_⟩:=j;obtain⟨rfl,_⟩:=e;rw[KW B,KW i];exact⟨_,h,run_equalIn_string w m t _ _ g⟩
    ·grind
   ·rename_i U g
    refine⟨λ_ hx hy=>?_,λd=>by unfold Nv at d;rw[g]at d;simp at d⟩;obtain⟨C,h⟩:=h
    have hp:P.stoodInHeld t=false/\∀f∈U.toList,f.name ≠ "_"/\(P.info? f.type).isSome=true/\f.offset+AF P f.type<=xs.length/\f.offset+AF P f.type<=ys.length:=by
     simp only[rD,uh,wz,vg,decide_eq_true_eq,beq_eq_false_iff_ne]at C;exact C
    ·have N:P.fieldsOf t=U:=by simp[Program.fieldsOf,g]
     have key:∀(l:List Field)(K:Bool->Prop),(∀f∈l,f.name ≠ "_"/\(P.info? f.type).isSome=true/\f.offset+AF P f.type<=xs.length/\f.offset+AF P f.type<=ys.length)->List.rec (motive:=λ_=>(Bool->Prop)->Prop) (λK=>K true)
      (λf _ ih K=>dz P n f.type ((xs.drop f.offset).take (AF P f.type)) ((ys.drop f.offset).take (AF P f.type)) λa=>ih λb=>K (a&&b)) l K ->
      ∃b,K b/\(Op.eqFields m vs us l).run P w=.ok b w:=by
      intro l
      induction l with
      | nil=>intro K _ h;exact⟨_,h,rfl⟩
      | cons f r ih =>
        intro K V h;obtain⟨h1,W,h3,h4⟩:=V f (by simp);have J:=h;have p:=hx.drop f.offset;have s:=hy.drop f.offset;rw[tE]at p s;have px:=eT (P:=P) p W (by grind);have py:=eT (P:=P) s W (by grind)
        have Q:∃c E F,(part f.type vs f.offset).run P w=.ok E w/\(part f.type us f.offset).run P w=.ok F w/\(Op.equalIn m f.type E F).run P w=.ok c w/\List.rec (motive:=λ_=>(Bool->Prop)->Prop) (λK=>K true)
         (λf _ ih K=>dz P n f.type ((xs.drop f.offset).take (AF P f.type)) ((ys.drop f.offset).take (AF P f.type)) λa=>ih λb=>K (a&&b)) r λb=>K (c&&b):=by
         cases d:Nv P f.type with
         | none =>
           exact absurd d (mf n J)
         | some ag =>
           cases ag with
           | true =>
             obtain⟨c,hc,hr⟩:=(V7 n m (by omega) (vs:=vs.extract f.offset (f.offset+AF P f.type)) (us:=us.extract f.offset (f.offset+AF P f.type)) J).1 d p.extract s.extract;grind
           | false =>
             obtain⟨Y,r0,Z,q0,H,I⟩:=qC n d J;obtain⟨E,j,e⟩:=px.2 d Y _ (ah H);obtain⟨F,e3,e4⟩:=py.2 d Z _ (ah I);obtain⟨c,hc,hr⟩:=(V7 n m (by omega) (vs:=#[]) (us:=#[]) J).2 d Y Z r0 q0 E F H I e e4;grind
        obtain⟨c,E,F,j,e,e3,M⟩:=Q;obtain⟨b,z,A⟩:=ih _ (λf N=>V f (by simp[N])) M;refine⟨c&&b,z,?_⟩;simp only[Op.eqFields];rw[tf h1];simp only[Sem.run_bind,j,e,e3,Result.andThen_ok]
        cases c with
        | true=>simpa using A
        | false=>simp
     obtain⟨b,z,A⟩:=key _ _ hp.2 h;refine⟨b,z,?_⟩;rw[run_equalIn_struct w m t vs us (by grind) hp.1,N];exact A
   ·grind
theorem gZ{op:BinOp}{T U:TypeId}{x y:Operand}(ho:o.op=.binOp op T x y U){s t:ByteArray}(c:a.eval x=.string s)(d:a.eval y=.string t){K:D->Prop}(b:gY op s t K) :
 ∃z,K z/\(execOp a.eval o).run P w=.ok (.value z.sv) w/\(∀O':Nat->Prop,∀w':World,Ax O' w' z.sv z):=by
 cases op<;>simp only[gY]at b<;>first
  | exact b.elim
  | exact⟨_,b,by simp[D.sv,execOp,ho,c,d,eqGuard,binOp,Op.stringOp],λ_ _=>.bool _⟩
  | (obtain⟨e,b⟩:=b
     refine⟨_,b,?_,λ_ _=>.str _⟩;simp only[execOp,ho,c,d,eqGuard,Sem.run_bind,binOp];simp[D.sv,run_string_add_sum _ s t e])
theorem fJ{op:BinOp}{T U:TypeId}{x y:Operand}(ho:o.op=.binOp op T x y U){O:Nat->Prop}{p q:D}(hx:Ax O w (a.eval x) p)(hy:Ax O w (a.eval y) q)
 {K:D->Prop} (c:cN P T op p q K) :
 ∃z,K z/\(execOp a.eval o).run P w=.ok (.value z.sv) w/\(∀O':Nat->Prop,∀w':World,Ax O' w' z.sv z):=by
 cases p<;>cases q<;>simp only[cN]at c
 case bool.bool b1 b2 =>
  have d:=ED hx;have e:=ED hy;split at c
  ·rename_i E
   have F:=bA E
   cases op<;>first
    | exact c.elim
    | exact⟨_,c,by simp[D.sv,execOp,ho,d,e,eqGuard,binOp,Op.equal,Op.maxDepth,run_equalIn_bool' w 9999 T b1 b2 F],λ_ _=>.bool _⟩
  ·grind
 case int.int k m k' n =>
  have d:=AT hx;have e:=AT hy;have H:op=.shl\/op=.shr\/(op≠.shl/\op≠.shr):=by grind
  rcases H with rfl|rfl|⟨u,v⟩
  ·simp only[VZ]at c;obtain⟨A,c⟩:=c;have f:¬n<0:=by omega
   exact⟨_,c,by simp[D.sv,execOp,ho,d,e,eqGuard,binOp,Op.shift,f],λ_ _=>.int _ _⟩
  ·simp only[VZ]at c;obtain⟨A,c⟩:=c;have f:¬n<0:=by omega
   exact⟨_,c,by simp[D.sv,execOp,ho,d,e,eqGuard,binOp,Op.shift,f],λ_ _=>.int _ _⟩
  ·have h:if k=k' then X7 op k m n K else False:=by cases op<;>first|exact c|exact absurd rfl u|exact absurd rfl v
   clear c;obtain⟨rfl,c⟩:=Al h;clear h
   cases op <;>  simp_all
   all_goals first
    | exact c.elim
    | exact⟨_,c,by simp[D.sv,execOp,ho,d,e,eqGuard,binOp,Op.intArith,Op.intCmp,Op.intBits],λ_ _=>by first|exact .int _ _|exact .bool _⟩
    | (obtain⟨A,c⟩:=c
       exact⟨_,c,by simp[D.sv,execOp,ho,d,e,eqGuard,binOp,Op.intDiv,A],λ_ _=>.int _ _⟩)
 case str.str s t=>exact gZ ho (KW hx) (KW hy) c
 case agg.agg xs ys =>
  obtain⟨i,c⟩:=c
  ·generalize d:a.eval x=vx at hx;generalize e:a.eval y=vy at hy
   cases hx with
   | agg vs _ C M hr =>
     cases hy with
     | agg us _ l I B =>
       have J:Kd O w vs 0 xs:=λj z g=>⟨vs[j]'(by rw[C];exact A7 g),by simp[show j<vs.size by rw[C];exact A7 g],hr j _ z (by grind) g⟩;have L:Kd O w us 0 ys:=λj z g=>⟨us[j]'(by rw[l];exact A7 g),by simp[show j<us.size by rw[l];exact A7 g],B j _ z (by grind) g⟩;have r:(eqGuard op T x y (.agg vs) (.agg us)).run P w=.ok () w:=run_eqGuard_agg w op T x y vs us i.1
       have agg:∀{K:Bool->Prop},dz P 12 T xs ys K->∃b,K b/\(Op.equalIn 10000 T (.agg vs) (.agg us)).run P w=.ok b w:=by
        intro K c;exact(V7 12 10000 (by omega) c).1 i.2 J L
       cases op<;>first|exact c.elim|skip
       ·obtain⟨b,hK,hr⟩:=agg c;refine⟨_,hK,?_,λ_ _=>.bool _⟩;simp only[execOp,ho,d,e,Sem.run_bind,r,Result.andThen_ok,run_eql_struct,hr,Sem.run_pure,D.sv]
       ·obtain⟨b,hK,hr⟩:=agg c;refine⟨_,hK,?_,λ_ _=>.bool _⟩;simp only[execOp,ho,d,e,Sem.run_bind,r,Result.andThen_ok,run_neq_struct,hr,Sem.run_pure,D.sv]
theorem fQ(h:SimB X G β S a w){op:BinOp}{T U:TypeId}{x y:Operand}(ho:o.op=.binOp op T x y U){p q:D}(hx:Ax (OS β X S) w (a.eval x) p)(hy:Ax (OS β X S) w (a.eval y) q)
 {K:Hy->Prop} (c:cN P T op p q λx=>K ⟨.d x,[],[]⟩):∃e,K e/\Dx P X G S a w o e:=by
 obtain⟨z,hK,b,d⟩:=fJ ho hx hy c;exact⟨_,hK,AW h b (d _ _) rfl⟩
theorem jO(h:SimB X G β S a w){op:UnOp}{T:TypeId}{x:Operand}(ho:o.op=.unOp op T x){p:D}(hx:Ax (OS β X S) w (a.eval x) p)
 {K:Hy->Prop} (d:re op p λx=>K ⟨.d x,[],[]⟩):∃e,K e/\Dx P X G S a w o e:=by
 cases op<;>cases p<;>simp only[re]at d
 case not.bool b =>
  have c:=ED hx;exact⟨_,d,AW h (v:=.bool !b) (by simp[execOp,ho,c,Op.unary]) (.bool _) rfl⟩
 case neg.int k n =>
  have c:=AT hx;exact⟨_,d,AW h (v:=.int k (k.wrap (0-n))) (by simp[execOp,ho,c,Op.unary,Op.intArith]) (.int _ _) rfl⟩
 case xor.int k n =>
  have c:=AT hx;exact⟨_,d,AW h (v:=.int k (k.wrap (BitVec.ofInt k.bits (if k.signed then -1 else k.max) ^^^ BitVec.ofInt k.bits n).toNat)) (by simp[execOp,ho,c,Op.unary,Op.intBits]) (.int _ _) rfl⟩
theorem aW(h:SimB X G β S a w){s t:TypeId}{x:Operand}(ho:o.op=.convert s t x){k b:IntKind}{n:Int}(c:P.underlying t=some (.int k))(e:∃d,P.underlying s=some d)
 (hx:Ax (OS β X S) w (a.eval x) (.int b n)):Dx P X G S a w o ⟨.d (.int k (k.wrap n)),[],[]⟩:=by
 have f:=AT hx;obtain⟨d,hd⟩:=e;exact AW h (v:=.int k (k.wrap n)) (by simp[execOp,ho,f,convert,run_underlying c,run_underlying hd,Conv.intToInt]) (.int _ _) rfl
theorem Pi{s:TypeId}{x:Operand}{f:Nat}(ho:o.op=.fieldAddr s x f){c:Array Field}(g:P.underlying s=some (.struct c)){d:Field}(h:c[f]?=some d)
 (e:0<AF P d.type) {b off:Nat} (hx:a.eval x=.pointer (some ⟨b,off,none⟩)):(execOp a.eval o).run P w=.ok (.value (.pointer (some ⟨b,off+d.offset,none⟩))) w:=by
 unfold AF at e;split at e
 ·rename_i i j
  have:i.size≠0:=by omega
  simp[execOp,ho,Instr.fieldAt,run_underlying g,h,hx,Instr.sureAddr,fieldPlace,sizeOf,typeInfo,j,this,Hz]
 ·omega
theorem fR(h:SimB X G β S a w){s:TypeId}{x:Operand}{f:Nat}(ho:o.op=.field s x f){b:Array Field}(l:P.underlying s=some (.struct b)){d:Field}(z:b[f]?=some d)
 {cs:List D} (hx:Ax (OS β X S) w (a.eval x) (.agg cs)) {K:Hy->Prop} (hy:dZ P d.type (cs.drop d.offset) λx=>K ⟨.d x,[],[]⟩):∃e,K e/\Dx P X G S a w o e:=by
 generalize A:a.eval x=v at hx
 cases hx with
 | agg vs _ B C hr =>
   unfold dZ at hy
   have m:∀(j:Nat) y,(cs.drop d.offset)[j]?=some y->∃c,vs[d.offset+j]?=some c/\Ax (OS β X S) w c y:=by
    intro j y hy;simp only[tQ]at hy
    have q:d.offset+j<vs.size:=by
     rw[B];rcases tG (d.offset+j) cs.length with h|h
     ·exact h
     ·simp[tB h]at hy
    exact⟨vs[d.offset+j],by simp[q],hr _ _ _ (by simp[q]) hy⟩
   split at hy
   ·rename_i g
    split at hy
    ·rename_i i E
     rw[BN]at hy;obtain⟨n,hy⟩:=Al hy;have t:d.offset+i.size<=cs.length\/i.size=0:=by simp at n;omega
     refine⟨_,hy,AW h (v:=.agg (vs.extract d.offset (d.offset+i.size))) ?_ ?_ rfl⟩
     ·simp[execOp,ho,Instr.field,run_underlying l,z,A,asAgg,part,Pt g,sizeOf,typeInfo,E]
     ·refine .agg _ _ (by simp at n ⊢;omega) (λy hy=>C y (uu (uf hy))) (λj u y l hy=>?_);rw[tM]at hy;split at hy
      ·obtain⟨c,k,p⟩:=m j y hy;rw[Array.getElem?_extract]at l;split at l
       ·rw[k]at l;cases l;exact p
       ·cases l
      ·cases hy
    ·exact hy.elim
   ·rename_i g
    split at hy
    ·rename_i y r hd
     obtain⟨c,k,p⟩:=m 0 y (by rw[hd];rfl);rw[ui]at k;refine⟨_,hy,AW h (v:=c) ?_ p rfl⟩;simp[execOp,ho,Instr.field,run_underlying l,z,A,asAgg,part,Nw g,k]
    ·exact hy.elim
   ·exact hy.elim
theorem L6{t:TypeId}(h:0<AF P t):(sizeOf t).run P w=.ok (AF P t) w:=by
 unfold AF at h ⊢;split at h
 ·rename_i i b
  simp[sizeOf,typeInfo,b]
 ·omega
theorem UE(h:SimB X G β S a w){t e:TypeId}{x r:Operand}(ho:o.op=.indexAddr t x r)(A:P.underlying t=some (.slice e)){sz:Nat}(q:sz=AF P e)(f:0<sz){k:IntKind}{i:Int}
 (B:Ax (OS β X S) w (a.eval r) (.int k i)) {xs:List D} (hx:Ax (OS β X S) w (a.eval x) (.list sz xs)) {K:Hy->Prop} (hy:At xs i λx=>CU x.cells λl=>K ⟨.d (.ptr l),[],[]⟩) :
 ∃e,K e/\Dx P X G S a w o e:=by
 have C:=AT B;obtain⟨E,y,d,hy⟩:=hy.go;rw[BN]at hy;have F:=A7 d;generalize H:a.eval x=v at hx
 cases hx with
 | emp=>grind
 | list b off cap _ _ c I J L s u M g m =>
   refine⟨_,hy,?_⟩;have N:(sizeOf e).run P w=.ok sz w:=by rw[q]at f ⊢;exact L6 f
   have n:i<(xs.length:Int):=by omega
   refine AW h (v:=.pointer (some ⟨b,off+i.toNat*sz,none⟩)) ?_ ?_ rfl
   ·simp[execOp,ho,Instr.indexAt,C,asIntOf,H,run_underlying A,E,n,N,Hz]
   ·exact Ax.ptr b (off+i.toNat*sz) y.cells (λj=>c i.toNat j) (λ_=>J) (λ_=>L) (λz p=>M y (tz d) z p) (λj z p=>g _ _ _ _ d p) (λj z p=>m _ _ _ _ d p)
theorem XT(h:SimB X G β S a w){t e:TypeId}{n:Nat}{x l:Operand}(ho:o.op=.indexAddr t x l)(q:P.underlying t=some (.array n e))(f:AF P e=1){k:IntKind}{i:Int}
 (r:Ax (OS β X S) w (a.eval l) (.int k i)) {cs:List D} (hx:Ax (OS β X S) w (a.eval x) (.ptr cs)) (s:i<n) {K:Hy->Prop} (hy:At cs i λy=>K ⟨.d (.ptr [y]),[],[]⟩) :
 ∃e,K e/\Dx P X G S a w o e:=by
 have u:=AT r;obtain⟨A,y,B,hy⟩:=hy.go;generalize C:a.eval x=v at hx
 cases hx with
 | ptr b off _ c E F I g m =>
   refine⟨_,hy,?_⟩;have d:cs≠[]:=by grind
   have H:(sizeOf e).run P w=.ok 1 w:=by rw[<-f];exact L6 (by omega)
   refine AW h (v:=.pointer (some ⟨b,off+i.toNat,none⟩)) ?_ ?_ rfl
   ·simp[execOp,ho,Instr.indexAt,Instr.sureAddr,u,asIntOf,C,run_underlying q,A,s,H,Hz]
   ·refine Ax.ptr b (off+i.toNat) [y] (λj=>c (i.toNat+j)) (λ_=>E d) (λ_=>F d) (λz p=>?_) (λj z p=>?_) (λj z p=>?_)
    all_goals grind
theorem Xi(h:SimB X G β S a w){t e:TypeId}{n:Nat}{x d:Operand}(ho:o.op=.indexAddr t x d)(g:P.underlying t=some (.array n e))(b:0<AF P e){k:IntKind}{i:Int}
 (j:Ax (OS β X S) w (a.eval d) (.int k i)) {id m off:Nat} {cs:List C} (hx:Ps β (OS β X S) S w (a.eval x) (.vptr id m off cs)) (l:0<=i) (p:i<n) :
 Dx P X G S a w o ⟨.ptr id m (off+i.toNat*AF P e),[],[]⟩:=by
 have q:=AT j;obtain⟨y,c,f,r,s⟩:=hx;have u:(sizeOf e).run P w=.ok (AF P e) w:=L6 b;refine AW h (v:=.pointer (some ⟨f,off+i.toNat*AF P e,none⟩)) ?_ ⟨u1 c.symm,λ_=>⟨f,r,rfl⟩⟩ rfl;simp[execOp,ho,Instr.indexAt,Instr.sureAddr,q,asIntOf,s,run_underlying g,l,p,u,Hz]
theorem XS(h:SimB X G β S a w){t e:TypeId}{n:Nat}{x C:Operand}(ho:o.op=.index t x C)(l:P.underlying t=some (.array n e)){k:IntKind}{i:Int}
 (J:Ax (OS β X S) w (a.eval C) (.int k i)) {cs:List D} (hx:Ax (OS β X S) w (a.eval x) (.agg cs)) (q:0<AF P e) (E:0<=i) (F:i<n) {K:Hy->Prop} (hy:dZ P e (cs.drop (i.toNat*AF P e)) λx=>K ⟨.d x,[],[]⟩):∃e,K e/\Dx P X G S a w o e:=by
 have H:=AT J;generalize I:a.eval x=v at hx
 cases hx with
 | agg vs _ L M hr =>
   unfold dZ at hy
   have b:∀(j:Nat) y,(cs.drop (i.toNat*AF P e))[j]?=some y->∃c,vs[i.toNat*AF P e+j]?=some c/\Ax (OS β X S) w c y:=by
    intro j y hy;simp only[tQ]at hy
    have s:i.toNat*AF P e+j<vs.size:=by
     rw[L];rcases tG (i.toNat*AF P e+j) cs.length with h|h
     ·exact h
     ·simp[tB h]at hy
    exact⟨vs[i.toNat*AF P e+j],by simp[s],hr _ _ _ (by simp[s]) hy⟩
   split at hy
   ·rename_i d
    split at hy
    ·rename_i m z
     rw[BN]at hy;obtain⟨f,hy⟩:=Al hy;have A:AF P e=m.size:=by unfold AF;rw[z]
     rw[A]at b f hy;have B:i.toNat*m.size+m.size<=cs.length\/m.size=0:=by simp at f;omega
     refine⟨_,hy,AW h (v:=.agg (vs.extract (i.toNat*m.size) (i.toNat*m.size+m.size))) ?_ ?_ rfl⟩
     ·simp[execOp,ho,Instr.index,H,asIntOf,run_underlying l,I,E,F,part,Pt d,sizeOf,typeInfo,z]
     ·refine .agg _ _ (by simp at f ⊢;omega) (λy hy=>M y (uu (uf hy))) (λj u y l hy=>?_);rw[tM]at hy;split at hy
      ·obtain⟨c,g,p⟩:=b j y hy;rw[Array.getElem?_extract]at l;split at l
       ·rw[g]at l;cases l;exact p
       ·cases l
      ·cases hy
    ·exact hy.elim
   ·rename_i d
    split at hy
    ·rename_i y r hd
     obtain⟨c,g,p⟩:=b 0 y (by rw[hd];rfl);rw[ui]at g;have N:(sizeOf e).run P w=.ok (AF P e) w:=L6 q;refine⟨_,hy,AW h (v:=c) ?_ p rfl⟩;simp[execOp,ho,Instr.index,H,asIntOf,run_underlying l,I,E,F,part,Nw d,N,g]
    ·exact hy.elim
   ·exact hy.elim
theorem XU(h:SimB X G β S a w){t e:TypeId}{x m:Operand}(ho:o.op=.indexAddr t x m)(q:P.underlying t=some (.slice e)){k:IntKind}{i:Int}
 (r:Ax (OS β X S) w (a.eval m) (.int k i)) {id n sz:Nat} {s:TypeId} {xs:List D} (j:sz=AF P e) (hx:Ps β (OS β X S) S w (a.eval x) (.row id n sz s xs)) (u:0<=i) (y:i.toNat<xs.length) :
 Dx P X G S a w o ⟨.eptr id n sz i.toNat 0,[],[]⟩:=by
 have z:=AT r;obtain⟨A,B,C⟩:=hx;have f:=h.boxes id;rw[A]at f;obtain⟨b,_,vals,hr,_⟩:=f;rcases hr with⟨c,⟨d,l⟩|⟨g,p,cur,d,_⟩⟩|⟨l,_⟩
 ·omega
 ·have E:(sizeOf e).run P w=.ok sz w:=by rw[j]at b ⊢;exact L6 b
  have c:i<(xs.length:Int):=by omega
  refine AW h (v:=.pointer (some ⟨g,i.toNat*sz+0,none⟩)) ?_ ⟨u1 B.symm,λ_=>⟨g,_,_,d,rfl⟩⟩ rfl;simp[execOp,ho,Instr.indexAt,z,asIntOf,C,d,run_underlying q,u,c,E,Hz]
 ·omega
theorem lV(h:SimB X G β S a w){x:Operand}{t:TypeId}(ho:o.op=.call ⟨.builtin .len,#[x],#[t]⟩){n:Nat}
 (b:∃c cap,a.eval x=.slice c n cap) {e:TypeId} (d:P.underlying t=some (.slice e)) :
 Dx P X G S a w o ⟨.d (.int .i64 n),[],[]⟩:=by
 obtain⟨c,cap,b⟩:=b;refine AW h (v:=.int .i64 n) ?_ (.int _ _) rfl;simp[execOp,ho,resolve,invoke,builtin,Builtin.len_,b,run_underlying d,goInt]
theorem jL(h:SimB X G β S a w){x:Operand}{t:TypeId}(ho:o.op=.call ⟨.builtin .len,#[x],#[t]⟩){s:ByteArray}
 (b:a.eval x=.string s) (c:P.underlying t=some .string):Dx P X G S a w o ⟨.d (.int .i64 s.size),[],[]⟩:=by
 refine AW h (v:=.int .i64 s.size) ?_ (.int _ _) rfl;simp[execOp,ho,resolve,invoke,builtin,Builtin.len_,b,run_underlying c,goInt]
theorem UD(h:SimB X G β S a w){x:Operand}{i:Nat}(ho:o.op=.extract x i){xs:List C}(hx:Ps β (OS β X S) S w (a.eval x) (.tup xs)){y:C}(hy:xs[i]?=some y) :
 (∀z,y=.d z->Dx P X G S a w o ⟨.d z,[],[]⟩)/\(∀id n,y=.sl id n->Dx P X G S a w o ⟨.sl id n,[],[]⟩):=by
 obtain⟨vs,d,f,hr⟩:=hx;have b:i<vs.size:=by grind
 have c:(execOp a.eval o).run P w=.ok (.value vs[i]) w:=by simp[execOp,ho,Instr.extract,d,b]
 have hk:=hr i vs[i] y (by simp[b]) hy;refine⟨λz e=>?_,λid n e=>?_⟩
 ·subst e;exact AW h c hk rfl
 ·subst e;exact AW h c hk rfl
theorem LE(h:SimB X G β S a w){x:Operand}(ho:o.op=.nilCheck x)(hx:(∃b:Addr,a.eval x=.pointer (some b))\/∃f cs,a.eval x=.func (.func f) #[] cs){v:AV}(hr:Kc β (AM S) (OS β X S) w a.tmps (a.eval x) v)(c:v.guards=[]) :
 Dx P X G S a w o ⟨v,[],[]⟩:=by
 refine AW h (v:=a.eval x) ?_ hr c;rcases hx with⟨b,hx⟩|⟨f,cs,hx⟩<;>simp[execOp,ho,hx]
theorem XR(h:SimB X G β S a w){g:Option (Nat×Bool)}(j:BW g a){s:TypeId}{x:Operand}{f:Nat}(ho:o.op=.fieldAddr s x f){c:Array Field}(k:P.underlying s=some (.struct c)){d:Field}(p:c[f]?=some d)
 (q:0<AF P d.type) {K:Hy->Prop} (hy:match ρOf S g x with
  | .bot=>K ⟨.bot,[],[]⟩
  | .vptr id n o _=>K ⟨.ptr id n (o+d.offset),[],[]⟩
  | .d (.ptr cs)=>CU (cs.drop d.offset) λl=>K ⟨.d (.ptr l),[],[]⟩
  | .eptr id n sz _ _ i o=>K ⟨.eptr id n sz i (o+d.offset),[],[]⟩
  | _=>False):∃e,K e/\Dx P X G S a w o e:=by
 have hr:=ρ_sound h j x;split at hy
 ·rename_i hx;rw[hx]at hr;exact hr.elim
 ·rename_i id n off cs hx
  rw[hx]at hr;obtain⟨_,r,b,t,u⟩:=hr;exact⟨_,hy,AW h (Pi ho k p q u) ⟨u1 r.symm,λ_=>⟨b,t,rfl⟩⟩ rfl⟩
 ·rename_i cs hx
  rw[hx]at hr;rw[BN]at hy;have hr:Ax (OS β X S) w (a.eval x) (.ptr cs):=hr;obtain⟨b,off,v,_⟩:=YB hr;refine⟨_,hy,AW h (Pi ho k p q v) ?_ rfl⟩;rw[v]at hr;exact hr.drop _
 ·rename_i id n sz e xs i off hx
  rw[hx]at hr;obtain⟨_,r,b,m,cap,t,u⟩:=hr;exact⟨_,hy,AW h (Pi ho k p q u) ⟨u1 r.symm,λ_=>⟨b,m,cap,t,by rw[Nat.add_assoc]⟩⟩ rfl⟩
 ·grind
theorem aX(h:SimB X G β S a w){s t:TypeId}{x:Operand}(ho:o.op=.convert s t x){b:ByteArray}(c:P.underlying t=some .string)(e:∃d,P.underlying s=some d)
 (hx:Ax (OS β X S) w (a.eval x) (.str b)):Dx P X G S a w o ⟨.d (.str b),[],[]⟩:=by
 have f:=KW hx;obtain⟨d,hd⟩:=e;refine AW h (v:=.string b) ?_ (.str _) rfl;simp only[execOp,ho,f,Sem.run_bind,convert,run_underlying c,run_underlying hd,Result.andThen_ok];simp_all
theorem XQ(h:SimB X G β S a w){s t e:TypeId}{x:Operand}(ho:o.op=.convert s t x){b:ByteArray}(q:P.underlying t=some (.slice e))(r:P.underlying e=some (.int .u8))(u:∃d,P.underlying s=some d)
 (hx:Ax (OS β X S) w (a.eval x) (.str b)):Dx P X G S a w o ⟨.d (.list 1 ((O1 b).map (D.int .u8))),[],[]⟩:=by
 have v:=KW hx;obtain⟨d,hd⟩:=u;have m:Below w.heap.size w (Lib.bytesWorld w e b):=⟨rfl,rfl,rfl,by rw[Lib.bytesWorld_size];omega,λk hk=>Lib.bytesWorld_at_old w e b k hk⟩;have f:((O1 b).map (D.int .u8)).length=b.size:=by simp[O1]
 refine .inl ⟨.slice (some ⟨w.heap.size,0,none⟩) b.size (grownCap w b.size 0 e),Lib.bytesWorld w e b,?_,β,h.world m,?_,rfl⟩
 ·simp only[execOp,ho,v,Sem.run_bind,Lib.run_convert_string_bytes w s t e b hd q r,Result.andThen_ok];rfl
 ·show Ax _ _ _ _;by_cases l:(O1 b).map (D.int .u8)=[]
  ·have A:b.size=0:=by rw[<-f,l];rfl
   rw[l,A];exact .emp _ _ _
  ·rw[<-f];refine .list w.heap.size 0 _ 1 _ (λi _=>.int .u8 (b.data.toList.getD i 0).toNat) l (by rw[Lib.bytesWorld_size];omega) (λB=>?_) (by rw[f];exact grownCap_ge w _ _ _) ?_ ?_ ?_ ?_
   ·have:=h.os_lt B;omega
   ·intro y hy;obtain⟨n,_,rfl⟩:=List.mem_map.1 hy;rfl
   ·intro y hy z g;obtain⟨n,_,rfl⟩:=List.mem_map.1 hy;simp[D.cells]at g;subst g;rfl
   ·intro i y j z hy g;have C:i<b.size:=by grind
    simp only[tr]at hy;obtain⟨n,_,rfl⟩:=Option.map_eq_some_iff.1 hy
    have p:j=0:=by
     have:=A7 g;simp[D.cells]at this;exact this
    subst p;rw[show 0+i*1+0=i by omega];exact Lib.bytesWorld_cell w e b i C
   ·intro i y j z hy g;simp only[tr,O1]at hy;obtain⟨n,E,rfl⟩:=Option.map_eq_some_iff.1 hy;obtain⟨c,F,rfl⟩:=Option.map_eq_some_iff.1 E
    have p:j=0:=by
     have:=A7 g;simp[D.cells]at this;exact this
    subst p;simp[D.cells]at g;subst g;rw[te,F];exact .int _ _
theorem aY(h:SimB X G β S a w){t:TypeId}{x c:Operand}(ho:o.op=.index t x c)(d:P.underlying t=some .string){k:IntKind}{i:Int}
 (f:Ax (OS β X S) w (a.eval c) (.int k i)) {s:ByteArray} (hx:Ax (OS β X S) w (a.eval x) (.str s)) (g:0<=i) (b:i.toNat<s.size) :
 Dx P X G S a w o ⟨.d (.int .u8 (Gy s i)),[],[]⟩:=by
 have j:=AT f;have l:=KW hx;have m:s[i.toNat]?=some (s[i.toNat]'b):=by simp[b]
 refine AW h (v:=.int .u8 (Gy s i)) ?_ (.int _ _) rfl
 have e:Gy s i=((s[i.toNat]'b).toNat:Int):=by
  unfold Gy;congr 2;have n:i.toNat<s.data.toList.length:=by simp_all
  rw[te,P3 n];simp;rfl
 simp[execOp,ho,Instr.index,j,asIntOf,l,run_underlying d,g,m,e]
theorem P9(h:SimB X G β S a w){g:Option (Nat×Bool)}(c:BW g a){y:Option Operand}{b:Int}{K:Int->Prop}(hy:fC (ρOf S g) y b K) :
 ∃i,K i/\(y=none/\i=b\/∃q k,y=some q/\a.eval q=.int k i):=by
 unfold fC at hy;split at hy
 ·grind
 ·rename_i q
  split at hy
  ·rename_i k i hq
   have:=ρ_sound h c q;rw[hq]at this;exact⟨i,hy,.inr ⟨q,k,rfl,AT this⟩⟩
  ·grind
theorem L5{k:IntKind}{i:Int}{y:Nat}{code:BoundsCode}(b:0<=i)(c:i<=y):(Instr.sliceBound (.int k i) y code).run P w=.ok i.toNat w:=by
 simp[Instr.sliceBound,asIntOf,b,c]
theorem Un{isSlice:Bool}{len cap:Nat}{lo c:Option Operand}{l h:Int}(g:lo=none/\l=0\/∃q k,lo=some q/\a.eval q=.int k l)(j:c=none/\h=len\/∃q k,c=some q/\a.eval q=.int k h)
 (d:0<=l) (p:l<=h) (r:h<=len) (s:len<=cap) :
 (Instr.sliceBounds isSlice len cap (lo.map a.eval) (c.map a.eval) none).run P w=.ok (l.toNat,h.toNat,cap) w:=by
 rcases g with⟨rfl,rfl⟩|⟨q,k,rfl,hq⟩<;>rcases j with⟨rfl,rfl⟩|⟨t,f,rfl,b⟩
 ·simp[Instr.sliceBounds]
 ·have e:=L5 (P:=P) (w:=w) (k:=f) (i:=h) (y:=cap) (code:=if isSlice then .sliceAcap else .sliceAlen) (by omega) (by omega);simp[Instr.sliceBounds,b,e]
 ·have e:=L5 (P:=P) (w:=w) (k:=k) (i:=l) (y:=len) (code:=.sliceB) d (by omega);simp[Instr.sliceBounds,hq,e]
 ·have m:=L5 (P:=P) (w:=w) (k:=f) (i:=h) (y:=cap) (code:=if isSlice then .sliceAcap else .sliceAlen) (by omega) (by omega);have n:=L5 (P:=P) (w:=w) (k:=k) (i:=l) (y:=h.toNat) (code:=.sliceB) d (by omega);simp[Instr.sliceBounds,hq,b,m,n]
theorem eR{isSlice:Bool}{len cap:Nat}{lo c:Option Operand}{l h:Int}{m:Operand}{d:IntKind}(e:a.eval m=.int d h)(j:lo=none/\l=0\/∃q k,lo=some q/\a.eval q=.int k l)(n:∃q k,c=some q/\a.eval q=.int k h)
 (p:0<=l) (u:l<=h) (r:h<=cap) :
 (Instr.sliceBounds isSlice len cap (lo.map a.eval) (c.map a.eval) (some (a.eval m))).run P w=.ok (l.toNat,h.toNat,h.toNat) w:=by
 obtain⟨v,s,rfl,b⟩:=n;have f:=L5 (P:=P) (w:=w) (k:=d) (i:=h) (y:=cap) (code:=if isSlice then .slice3Acap else .slice3Alen) (by omega) r;have g:=L5 (P:=P) (w:=w) (k:=s) (i:=h) (y:=h.toNat) (code:=.slice3B) (by omega) (by omega);rcases j with⟨rfl,rfl⟩|⟨q,k,rfl,hq⟩
 ·simp[Instr.sliceBounds,b,e,f,g]
 ·have t:=L5 (P:=P) (w:=w) (k:=k) (i:=l) (y:=h.toNat) (code:=.slice3C) p (by omega);simp[Instr.sliceBounds,hq,b,e,f,g,t]
theorem bd(h:SimB X G β S a w){t:TypeId}{x:Operand}{lo b:Option Operand}(ho:o.op=.slice t x lo b none)(c:P.underlying t=some .string){s:ByteArray}(hx:Ax (OS β X S) w (a.eval x) (.str s)){l r:Int}
 (d:lo=none/\l=0\/∃q k,lo=some q/\a.eval q=.int k l) (e:b=none/\r=(s.size:Int)\/∃q k,b=some q/\a.eval q=.int k r) (f:0<=l) (g:l<=r) (i:r<=s.size) :
 Dx P X G S a w o ⟨.d (.str (s.extract l.toNat r.toNat)),[],[]⟩:=by
 have j:=KW hx;have m:=Un (P:=P) (w:=w) (a:=a) (isSlice:=false) (len:=s.size) (cap:=s.size) d e f g i (td _);refine AW h (v:=.string (s.extract l.toNat r.toNat)) ?_ (.str _) rfl;simp[execOp,ho,Instr.sliceAt,Instr.slice,j,run_underlying c,m]
theorem i8{α:Type}{xs:List α}{l h:Int}{i:Nat}{y:α}(hy:(NB xs l h)[i]?=some y):xs[l.toNat+i]?=some y:=by
 unfold NB at hy;grind
theorem XL{α:Type}{xs:List α}{l h:Int}(b:0<=l)(c:l<=h)(d:h<=xs.length):(NB xs l h).length=h.toNat-l.toNat:=by
 unfold NB;simp;omega
theorem YK{O:Nat->Prop}{k:Option Addr}{sz:Nat}{xs:List D}{len cap m:Nat}(hx:Ax O w (.slice k len cap) (.list sz xs)){l h:Int}(r:0<=l)(s:l<=h)(t:h<=xs.length)(B:h.toNat<=m) :
 Ax O w (.slice (if m=l.toNat then k else k.map (·.add (l.toNat*sz))) (h.toNat-l.toNat) (m-l.toNat)) (.list sz (NB xs l h)):=by
 have e:=XL r s t;by_cases u:h.toNat-l.toNat=0
 ·have:NB xs l h=[]:=tx (by grind);rw[this,u];exact .emp _ _ _
 ·rw[tn (by omega)]
  cases hx with
  | emp=>grind
  | list b off _ _ _ c v x A q f n d g =>
    simp only[ve,Hz];rw[<-e]
    refine Ax.list b (off+l.toNat*sz) (m-l.toNat) sz (NB xs l h) (λi j=>c (l.toNat+i) j) (by grind) x A (by rw[e];omega)
     (λy hy=>f y (uu (uf hy))) (λy hy=>n y (uu (uf hy))) (λi y j z hy p=>?_) (λi y j z hy p=>g _ _ _ _ (i8 hy) p)
    have:=d _ _ _ _ (i8 hy) p;grind
theorem gN{O:Nat->Prop}{v:Value}{sz:Nat}{xs:List D}(h:Ax O w v (.list sz xs)):∃e cap,v=.slice e xs.length cap/\xs.length<=cap:=by
 cases h with
 | emp a cap _=>simp_all
 | list b off cap _ _ c f g i d _ _ _ _=>grind
theorem MJ(h:SimB X G β S a w){g:Option (Nat×Bool)}(p:BW g a){t e:TypeId}{x:Operand}{lo s u:Option Operand}(ho:o.op=.slice t x lo s u)(A:P.underlying t=some (.slice e)){sz:Nat}(v:sz=AF P e)(c:0<sz){xs:List D}{bx:Bx}(H:FZ S [] bx)
 (hx:Ax (OS β X (Bj bx S)) w (a.eval x) (.list sz xs)) {K:Hy->Prop} (hy:M6 (ρOf S g) sz xs lo s u bx K):∃e,K e/\Dx P X G S a w o e:=by
 obtain⟨B,_,_⟩:=H.run h;obtain⟨l,hy,C⟩:=P9 h p hy;obtain⟨r,hy,hr⟩:=P9 h p hy;obtain⟨M,cap,n,i⟩:=gN hx;have E:(sizeOf e).run P w=.ok sz w:=by rw[v]at c ⊢;exact L6 c
 cases u with
 | none =>
   obtain⟨⟨d,f,j⟩,hK⟩:=hy;have y:=Un (P:=P) (w:=w) (a:=a) (isSlice:=true) (len:=xs.length) (cap:=cap) C hr d f j i;rw[n]at hx;refine⟨_,hK,.inl ⟨_,w,?_,β,B,YK (m:=cap) hx d f j (by omega),rfl⟩⟩;simp[execOp,ho,Instr.sliceAt,Instr.slice,n,run_underlying A,y,E]
 | some m =>
   simp only at hy;split at hy
   ·grind
   rename_i I
   split at hy
   ·rename_i N F J
    obtain⟨⟨d,f,j,L⟩,hK⟩:=hy;subst L;have b:=ρ_sound h p m;rw[J]at b;have b:=AT b
    have z:∃q k,s=some q/\a.eval q=.int k F:=by
     grind
    have y:=eR (P:=P) (w:=w) (a:=a) (isSlice:=true) (len:=xs.length) (cap:=cap) b C z d f (by omega);rw[n]at hx;have hd:=YK (m:=F.toNat) hx d f j (td _);refine⟨_,hK,.inl ⟨_,w,?_,β,B,⟨hd,?_⟩,rfl⟩⟩
    ·simp[execOp,ho,Instr.sliceAt,Instr.slice,n,run_underlying A,y,E]
    ·simp only[Te];rw[XL d f j]
   ·grind
theorem W7(h:SimB X G β S a w){x y:Operand}{ts:Array TypeId}{b:Builtin}(ho:o.op=.call ⟨.builtin b,#[x,y],ts⟩){k f:IntKind}{m n:Int}(hx:Ax (OS β X S) w (a.eval x) (.int k m))(hy:Ax (OS β X S) w (a.eval y) (.int f n)) :
 (b=.min->Dx P X G S a w o ⟨.d (.int k (if n<m then n else m)),[],[]⟩)/\(b=.max->Dx P X G S a w o ⟨.d (.int k (if n>m then n else m)),[],[]⟩):=by
 have c:=AT hx;have d:=AT hy;refine⟨λe=>?_,λe=>?_⟩
 ·subst e;refine AW h (v:=.int k (if n<m then n else m)) ?_ (.int _ _) rfl;simp[execOp,ho,resolve,invoke,builtin,Builtin.min_,Builtin.min2,c,d]
 ·subst e;refine AW h (v:=.int k (if n>m then n else m)) ?_ (.int _ _) rfl;simp[execOp,ho,resolve,invoke,builtin,Builtin.max_,Builtin.max2,c,d]
end
section lists
variable {O:Nat->Prop} {w:World}
theorem B3.append{vs us:List Value}{xs ys:List D}(h:B3 O w vs xs)(k:B3 O w us ys):B3 O w (vs++us) (xs++ys):=by
 refine⟨by simp[h.1,k.1],λj v y b hy=>?_⟩;rcases tG j vs.length with a|a
 ·rw[tq a]at b;rw[tq (by rw[<-h.1];exact a)]at hy;exact h.2 j v y b hy
 ·rw[tj a]at b;rw[tj (by rw[<-h.1];exact a),<-h.1]at hy;exact k.2 _ v y b hy
theorem B3.take{vs:List Value}{xs:List D}(h:B3 O w vs xs)(n:Nat):B3 O w (vs.take n) (xs.take n):=by
 refine⟨by simp[h.1],λj v y a hy=>?_⟩;rw[tM]at a hy;split at a
 ·rename_i b;rw[tf b]at hy;exact h.2 j v y a hy
 ·cases a
theorem B3.drop{vs:List Value}{xs:List D}(h:B3 O w vs xs)(n:Nat):B3 O w (vs.drop n) (xs.drop n):=by
 refine⟨by simp[h.1],λj v y a hy=>?_⟩;rw[tQ]at a hy;exact h.2 _ v y a hy
theorem B3.nil:B3 O w [] []:=⟨rfl,λj v y h _=>by simp at h⟩
theorem B3.one{v:Value}{x:D}(h:Ax O w v x)(a:x.one=true):B3 O w [v] [x]:=by
 refine⟨rfl,λj u y b hy=>?_⟩;grind
theorem Ht{v:Value}{x:D}(h:Ax O w v x):B3 O w v.cells.toList x.cells:=by
 cases h with
 | agg vs xs i e h =>
   refine⟨by simpa [Value.cells,D.cells] using i,λj v y q hy=>?_⟩;simp only[Value.cells,tU]at q;simp only[D.cells]at hy;grind
 | bool b=>exact B3.one (.bool b) rfl
 | int k n=>exact B3.one (.int k n) rfl
 | str s=>exact B3.one (.str s) rfl
 | fn f vs xs i e h=>exact B3.one (.fn f vs xs i e h) rfl
 | ptr b off cs c l m e d h=>exact B3.one (.ptr b off cs c l m e d h) rfl
 | nil a sz=>exact B3.one (.nil a sz) rfl
 | emp a cap sz=>exact B3.one (.emp a cap sz) rfl
 | list b off cap sz xs c o l m g p e d h=>exact B3.one (.list b off cap sz xs c o l m g p e d h) rfl
theorem B3.oneCell{vs:List Value}{xs:List D}(h:B3 O w vs xs):∀v∈vs,v.oneCell'=true:=by
 intro v b;obtain⟨j,c⟩:=List.mem_iff_getElem?.1 b
 have a:j<xs.length:=by
  rw[<-h.1];grind
 have:=h.2 j v xs[j] c (P3 a);exact Vi this.1 this.2
theorem FT{α:Type}:∀(cs:List α)(o:Nat)(ys:List α),o<=cs.length->splice cs o ys=cs.take o++ys++cs.drop (o+ys.length)
 | cs,0,ys,_=>by simp[splice]
 | [],o+1,ys,h=>by grind
 | c :: cs,o+1,ys,h=>by
   rw[splice,FT cs o ys (by grind)];grind
theorem B3.splice{vs us:List Value}{xs ys:List D}(h:B3 O w vs xs)(k:B3 O w us ys){o:Nat}(ho:o<=xs.length) :
 B3 O w (vs.take o++us++vs.drop (o+us.length)) (splice xs o ys):=by
 rw[FT _ _ _ ho,k.1];exact((h.take o).append k).append (h.drop _)
end lists
section
variable {P:Program} {X:Cx} {G:Nat->Prop} {β:Nat->Value} {S:AS} {a:Act} {w:World} {o:Oper}
theorem Mb(b:Obj):Below w.heap.size w (w.alloc b):=(Below.refl _ _).alloc (td _) _
theorem bJ(h:SimB X G β S a w){d:Nat}(hd:d<S.length){vals:Array Value}{T:TypeId}{cs:List C}(m:vals.size=cs.length)(n:∀(j:Nat) v c,vals[j]?=some v->cs[j]?=some c->Ce β (AM S) (OS β X S) w v c) :
 ∃f,SimB X G f (Ba S d (.var cs) ((Ai S d).ver+1)) a (w.alloc (.cells vals T)) /\
  Kc f (AM (Ba S d (.var cs) ((Ai S d).ver+1))) (OS f X (Ba S d (.var cs) ((Ai S d).ver+1))) (w.alloc (.cells vals T)) a.tmps (.pointer (some ⟨w.heap.size,0,none⟩)) (.ptr d ((Ai S d).ver+1) 0):=by
 refine⟨Lg β d (.pointer (some ⟨w.heap.size,0,none⟩)),h.rebox (R':=X.R) (λ_ h=>h) hd (.inl (u3 _)) (by simp) ((AA.of (Mb _)).weaken h.hbase λ_ _ h=>h) (λb e _=>heap_alloc_old w _ b e)
  (λ_ b e=>⟨.inr (.inl (by simp[Af]at e;omega)),λhr=>by simp[Af]at e;have:=(h.rs b hr).2;omega⟩) (λk g=>⟨w.heap.size,vals,T,by simp[Lg],heap_alloc_new w _,m,λj v c i l=>(n j v c i l).mono k g⟩),?_⟩
 have g:AM (Ba S d (.var cs) ((Ai S d).ver+1)) d=(Ai S d).ver+1:=by simp[AM,Cc,hd]
 exact⟨by rw[g];exact td _,λ_=>⟨w.heap.size,by simp[Lg],rfl⟩⟩
theorem mQ(h:SimB X G β S a w){d:Nat}(hd:d<S.length){n:Nat}(t:(Ai S d).ver<n){R':Nat->Prop}(s:∀b,R' b->X.R b){w':World}(m:Below w.heap.size w w'){v:Value}{sz:Nat}{e:TypeId}{xs:List D}{vals:List Value}(p:0<sz)
 (u:∀x∈xs,x.cells.length=sz) (hr:B0 w' e sz v xs.length vals) (g:∀b,Af v=some b->(w.heap.size<=b\/X.R b)/\¬R' b) (y:B3 (λb=>OS β X S b\/Af v=some b) w' vals (xs.flatMap D.cells)) :
 ∃j,SimB (X.less R') G j (Ba S d (.row sz e xs) n) a w'/\j=Lg β d v /\
  Kc j (AM (Ba S d (.row sz e xs) n)) (OS j (X.less R') (Ba S d (.row sz e xs) n)) w' a.tmps v (.sl d n):=by
 refine⟨Lg β d v,h.rebox s hd (.inl t) m.size ((AA.of m).weaken h.hbase λ_ _ h=>h) (λb g _=>m.block b g) (λ_ b l=>⟨.inr (g b l).1,(g b l).2⟩) (λk _=>⟨p,u,vals,?_,?_⟩),rfl,?_⟩
 ·simp only[Lg,if_true];exact hr
 ·refine y.mono (B7.of_sub λb c=>?_);rcases c with c|c|⟨i,q,f⟩
  ·exact .inl (.inl c)
  ·exact .inl (.inr (.inl (s b c)))
  ·rw[Cc]at q;split at q
   ·rename_i r
    rw[r.1]at f;simp[Lg]at f;exact .inr f
   ·rename_i r
    have z:i≠d:=λA=>r ⟨A,hd⟩;simp[Lg,z]at f;exact .inl (.inr (.inr ⟨i,q,f⟩))
 ·have l:AM (Ba S d (.row sz e xs) n) d=n:=by simp[AM,Cc,hd]
  exact⟨by rw[l];exact td _,λ_=>by simp[Lg]⟩
theorem Lz(h:SimB X G β S a w){d:Nat}(hd:d<S.length){w':World}(j:Below w.heap.size w w'){v:Value}{sz:Nat}{e:TypeId}{xs:List D}{vals:List Value}(f:0<sz)
 (k:∀x∈xs,x.cells.length=sz) (hr:B0 w' e sz v xs.length vals) (g:∀b,Af v=some b->w.heap.size<=b) (l:B3 (λb=>OS β X S b\/Af v=some b) w' vals (xs.flatMap D.cells)) :
 ∃c,SimB X G c (Ba S d (.row sz e xs) ((Ai S d).ver+1)) a w' /\
  Kc c (AM (Ba S d (.row sz e xs) ((Ai S d).ver+1))) (OS c X (Ba S d (.row sz e xs) ((Ai S d).ver+1))) w' a.tmps v (.sl d ((Ai S d).ver+1)):=by
 obtain⟨c,m,_,p⟩:=mQ h hd (n:=(Ai S d).ver+1) (u3 _) (R':=X.R) (λ_ h=>h) j f k hr (λb i=>⟨.inl (g b i),λhr=>by have:=(h.rs b hr).2;have:=g b i;omega⟩) l;exact⟨c,m,p⟩
theorem B3.cells{O:Nat->Prop}{vs:List Value}{ys:List D}(h:B3 O w vs ys){n:Nat->Nat}:∀(j:Nat) v c,vs[j]?=some v->(ys.map C.d)[j]?=some c->Ce β n O w v c:=by
 intro j v c d b;simp only[tr]at b
 cases hy:ys[j]? with
 | none=>grind
 | some y=>simp[hy]at b;subst b;exact h.2 j v y d hy
theorem lT(h:SimB X G β S a w){g:Option (Nat×Bool)}(F:BW g a){d:Nat}(hd:d<S.length){T:TypeId}{x:Operand}(ho:o.op=.box T x){K:Hy->Prop}
 (hy:match ρOf S g x with
  | .row id n _ _ _=>K ⟨.ptr d ((Ai S d).ver+1) 0,[(d,.var [.sl id n],(Ai S d).ver+1)],[]⟩
  | .cagg l=>K ⟨.ptr d ((Ai S d).ver+1) 0,[(d,.var l,(Ai S d).ver+1)],[]⟩
  | r=>Z3 r λv b=>cA v.cells λl=>K ⟨.ptr d ((Ai S d).ver+1) 0,b++[(d,.var l,(Ai S d).ver+1)],[]⟩):∃e,K e/\Dx P X G S a w o e:=by
 have f:=ρ_sound h F x;have i:(execOp a.eval o).run P w=.ok (.value (.pointer (some ⟨w.heap.size,0,none⟩))) (w.alloc (.cells (a.eval x).cells T)):=by simp[execOp,ho,Instr.box,newVar,newRow]
 split at hy
 ·rename_i id n sz e xs hx
  rw[hx]at f;obtain⟨z,C,y⟩:=f
  have s:(a.eval x).cells=#[a.eval x]:=by
   have D:=h.boxes id;rw[z]at D;obtain⟨_,_,vals,hr,_⟩:=D;rw[y];rcases hr with⟨_,⟨k,_⟩|⟨L,cap,cur,k,_⟩⟩|⟨_,_,M,k⟩<;>(rw[k];rfl)
  obtain⟨t,p,q⟩:=bJ h hd (T:=T) (vals:=(a.eval x).cells) (cs:=[.sl id n]) (by grind) (λj v c k m=>by
   cases j with
   | zero=>rw[s]at k;simp at k m;subst k;subst m;exact⟨u1 C.symm,λ_=>y⟩
   | succ j=>simp at m)
  exact⟨_,hy,.inl ⟨_,_,i,t,p,q,rfl⟩⟩
 ·rename_i l hx
  rw[hx]at f;obtain⟨vs,k,H,m⟩:=f;have A:(a.eval x).cells=vs:=by rw[k];rfl
  obtain⟨t,p,q⟩:=bJ h hd (T:=T) (vals:=(a.eval x).cells) (cs:=l) (by rw[A];exact H) (λj v c k B=>(m j v c (by grind) B).1);exact⟨_,hy,.inl ⟨_,_,i,t,p,q,rfl⟩⟩
 ·obtain⟨I,b,hK,E,J,u⟩:=JJ (x:=X) (G:=G) (a:=a) f hy;rw[Q2]at hK;obtain⟨z,C,y⟩:=E.run h;have hr:=u.now h E;obtain⟨t,p,q⟩:=bJ z (d:=d) (by rw[Cp];exact hd) (T:=T) (vals:=(a.eval x).cells) (cs:=I.cells.map .d) (by have:=(Ht hr).1;simpa using this) (λj v c k m=>(Ht hr).cells j v c (by grind) m);rw[y.ver]at p q;refine⟨_,hK,.inl ⟨_,_,i,t,?_,?_,rfl⟩⟩
  ·simp only[BH,Bj];exact p
  ·simp only[BH,Bj];exact q
theorem fA{O:Nat->Prop}{w:World}{v:Value}{x:D}(h:zD v=some x):Ax O w v x/\x.one=true:=by
 unfold zD at h;split at h<;>simp at h<;>subst h
 ·exact⟨.int _ _,rfl⟩
 ·exact⟨.bool _,rfl⟩
 ·exact⟨.str _,rfl⟩
 ·exact⟨.nil _ _,rfl⟩
theorem ar{O:Nat->Prop}{w:World}:∀{vs:List Value}{xs:List D},se vs=some xs->B3 O w vs xs
 | [],xs,h=>by simp[se]at h;subst h;exact B3.nil
 | v :: r,xs,h=>by
   simp only[se]at h;split at h
   ·rename_i x l hx c
    simp at h;subst h;have b:=fA (O:=O) (w:=w) hx;exact(B3.one b.1 b.2).append (ar c)
   ·cases h
theorem QS{O:Nat->Prop}{w:World}:∀{vs:List Value}{xs:List D}(ss:List Nat),B3 O w vs xs->B3 O w vs (LC xs ss)
 | vs,[],ss,h=>by simpa [LC] using h
 | [],x :: r,ss,h=>by have:=h.1;simp at this
 | v :: vs,x :: r,[],h=>by cases x<;>simpa [LC] using h
 | v :: vs,x :: r,s :: q,h=>by
   have b:=h.2 0 v x rfl rfl;have d:B3 O w vs r:=⟨by simpa using h.1,λj u y e hy=>h.2 (j+1) u y (by simpa using e) (by grind)⟩;have ih:=QS q d
   cases x<;>simp only[LC]
   case nil s' =>
    have f:∃c,v=.slice c 0 0:=by cases b.1;exact⟨_,rfl⟩
    obtain⟨c,rfl⟩:=f;exact(B3.one (.nil c s) rfl).append ih
   all_goals exact(B3.one b.1 b.2).append ih
theorem If{O:Nat->Prop}{w:World}{t:TypeId}{l:List D}(h:zeroCells P t=some l):∃i z,P.info? t=some i/\i.zero=some z/\B3 O w z.cells.toList l:=by
 unfold zeroCells at h;split at h
 ·rename_i i b
  split at h
  ·rename_i z c
   split at h
   ·rename_i e d
    simp at h;subst h;exact⟨i,z,b,c,QS _ (ar d)⟩
   ·cases h
  ·cases h
 ·cases h
theorem fP(h:SimB X G β S a w){d:Nat}(hd:d<S.length){T:TypeId}(ho:o.op=.alloc T){l:List D}(b:zeroCells P T=some l){K:Hy->Prop}
 (hy:cA l λl=>K ⟨.ptr d ((Ai S d).ver+1) 0,[(d,.var l,(Ai S d).ver+1)],[]⟩):∃e,K e/\Dx P X G S a w o e:=by
 rw[Q2]at hy;obtain⟨i,z,f,b,hr⟩:=If (O:=OS β X S) (w:=w) b;obtain⟨g,k,m⟩:=bJ h hd (T:=T) (vals:=z.cells) (cs:=l.map .d) (by have:=hr.1;simpa using this) (λj v c p n=>hr.cells j v c (by grind) n);refine⟨_,hy,.inl ⟨.pointer (some ⟨w.heap.size,0,none⟩),w.alloc (.cells z.cells T),?_,g,k,m,rfl⟩⟩;simp[execOp,ho,Instr.alloc,zeroValue,typeInfo,f,b,newVar,newRow]
theorem P8{x:Operand}(h:NN x=true):x=.const (.slice none 0 0):=by
 unfold NN at h;grind
theorem lW(h:SimB X G β S a w){d:Nat}(hd:d<S.length){x:Operand}(ho:o.op=.assign x)(hx:NN x=true){e:TypeId}(c:0<AF P e) :
 Dx P X G S a w o ⟨.sl d ((Ai S d).ver+1),[(d,.row (AF P e) e [],(Ai S d).ver+1)],[]⟩:=by
 rw[P8 hx]at ho;obtain⟨f,g,i⟩:=Lz h hd (Below.refl _ _) (v:=.slice none 0 0) (e:=e) (xs:=[]) (vals:=[]) c (λ_ h=>by cases h) (.inl (World.ownsRow_nil w _ e _)) (λb j=>by simp[Af]at j) B3.nil;exact .inl ⟨_,w,by simp[execOp,ho,Act.eval],f,g,i,rfl⟩
theorem OK{T:TypeId}{p x:Operand}(ho:o.op=.store T p x){b off:Nat}(hp:a.eval p=.pointer (some ⟨b,off,none⟩)){i:TypeInfo}(d:P.info? T=some i)
 (e:(a.eval x).cells.size=i.size) {cur:Array Value} {E:TypeId} (f:w.heap[b]?=some (.cells cur E (0,0))) (c:off+(a.eval x).cells.size<=cur.size) (g:∀v∈(a.eval x).cells.toList,v.oneCell'=true) :
 (execOp a.eval o).run P w=.ok .skip (w.setRow b (cur.toList.take off++(a.eval x).cells.toList++cur.toList.drop (off+(a.eval x).cells.size)).toArray):=by
 have:=run_storeCells_at P b off E (a.eval x).cells.toList 0 cur w f (by grind) g;simp only[ui,tK]at this;simp[execOp,ho,Instr.storeAt,hp,Instr.sureAddr,storeVar,sizeOf,typeInfo,d,e,this]
theorem IK{T:TypeId}{i:TypeInfo}(b:P.info? T=some i):AF P T=i.size:=by simp[AF,b]
theorem VT(h:SimB X G β S a w){id n:Nat}{cs:List C}(l:(Ai S id).box=.var cs)(y:(Ai S id).ver=n){b:Nat}(q:β id=.pointer (some ⟨b,0,none⟩)){vals:Array Value}{E:TypeId}(z:w.heap[b]?=some (.cells vals E (0,0)))
 (A:vals.size=cs.length) (m:∀(j:Nat) v c,vals[j]?=some v->cs[j]?=some c->Ce β (AM S) (OS β X S) w v c) {off:Nat} {us:List Value} {ns:List C} (D:us.length=ns.length) (r:off+ns.length<=cs.length)
 (s:∀(j:Nat) v c,us[j]?=some v->ns[j]?=some c->Ce β (AM S) (OS β X S) w v c) :
 SimB X G β (Ba S id (.var (splice cs off ns)) n) a (w.setRow b (vals.toList.take off++us++vals.toList.drop (off+us.length)).toArray):=by
 have hid:=NM l (by simp);have ho:(Ai S id).box.owned=true:=by rw[l];rfl
 have p:Af (β id)=some b:=by rw[q];rfl
 have t:=h.rebox (R':=X.R) (id:=id) (B:=.var (splice cs off ns)) (v:=β id) (n:=n) (w':=w.setRow b (vals.toList.take off++us++vals.toList.drop (off+us.length)).toArray)
  (λ_ h=>h) hid (.inr ⟨y.symm,rfl,by rw[l];simp⟩) (by simp) (AA.setRow _ _ _ (h.mine id b ho p).1)
  (λk _ hk=>setRow_other w b k _ (λe=>hk ho (by grind)))
  (λ_ k hk=>⟨.inl ⟨hk,ho⟩,(h.mine id k ho hk).2⟩)
  (λk u=>by
   rw[Gx]at k u ⊢;refine⟨b,_,E,q,setRow_heap w b vals _ E _ z,?_,λj v c d i=>?_⟩
   ·rw[FT _ _ _ (by omega)];simp;omega
   ·rw[FT _ _ _ (by omega)]at i;simp only[uQ]at d;refine Ce.mono k u ?_;have f:(vals.toList.take off).length=(cs.take off).length:=by grind
    rcases tG j (cs.take off).length with x|x
    ·grind
    ·rw[uZ,tj (by grind),f]at d;rw[uZ,tj x]at i;rcases tG (j-(cs.take off).length) ns.length with g|g
     ·grind
     ·rw[tj (by grind),tQ,D]at d;rw[tj g,tQ]at i;exact m _ v c (by grind) i)
 rw[Gx]at t;exact t
theorem mW{t:TypeId}{x:D}(h:x.one=true):(nilT P t x).one=true:=by
 unfold nilT;split
 ·split<;>rfl
 ·exact h
theorem Ax.nilT{O:Nat->Prop}{w:World}{v:Value}{t:TypeId}{y:D}(h:Ax O w v y):Ax O w v (nilT P t y):=by
 unfold Go.Abs.nilT;split
 ·split
  ·cases h;exact .nil _ _
  ·exact h
 ·exact h
theorem bg(h:SimB X G β S a w){g:Option (Nat×Bool)}(hg:BW g a){T:TypeId}{p x:Operand}(ho:o.op=.store T p x){id n off:Nat}{cs:List C}
 (hp:Ps β (OS β X S) S w (a.eval p) (.vptr id n off cs)) {i:TypeInfo} (R:P.info? T=some i) {K:Hy->Prop}
 (hy:match Nv P T with
  | some true=>match ρOf S g x with
    | .cagg l=>if l.length=AF P T/\off+l.length<=cs.length then CU (splice cs off l) λl=>K ⟨.any,[(id,.var l,n)],[]⟩else False
    | r=>Z3 r λv b =>
      if v.cells.length=AF P T/\off+v.cells.length<=cs.length then cA v.cells λl=>CU (splice cs off l) λl=>K ⟨.any,b++[(id,.var l,n)],[]⟩else False
  | some false=>if AF P T=1/\off<cs.length then match ρOf S g x with
   | .row F n' _ _ _=>CU (splice cs off [.sl F n']) λl=>K ⟨.any,[(id,.var l,n)],[]⟩
   | r=>Z3 r λv b=>if v.one=true then CU (splice cs off [.d (nilT P T v)]) λl=>K ⟨.any,b++[(id,.var l,n)],[]⟩else False
   else False
  | none=>False) :
 ∃e,K e/\Dx P X G S a w o e:=by
 obtain⟨W,hn,blk,U,M⟩:=hp
 have data:∀{v:D}{b:Bx},FZ S [] b->(∀z∈b,∃sz xs,z.2.1=.frow sz xs)->Lk X G β S a w b (λO=>Ax O w (a.eval x) v)->v.cells.length=AF P T->off+v.cells.length<=cs.length ->
  K ⟨.any,b++[(id,.var (splice cs off (v.cells.map .d)),n)],[]⟩->∃e,K e/\Dx P X G S a w o e:=by
  intro v b V H m I N hK;obtain⟨h1,h2,h3⟩:=V.run h;have hr:=Ht (m.now h V)
  have u:(Ai (Bj b S) id).box=.var cs:=by
   rw[h3.other id λz hz e=>?_]
   ·exact W
   ·obtain⟨sz,xs,e2⟩:=H z hz;rcases(V.each z hz).2 with⟨_,_,_,k1,_⟩|⟨_,_,k1,k2,_⟩|⟨k1,k2⟩
    all_goals grind
  have Y:(Ai (Bj b S) id).ver=n:=by rw[h3.ver,hn]
  obtain⟨vals,E,L,q,A⟩:=Ns h1 u U;have J:(a.eval x).cells.size=v.cells.length:=by have:=hr.1;simpa using this
  have f:=OK (P:=P) ho M R (by rw[J,I,IK R]) L (by grind) hr.oneCell;refine⟨_,hK,.inr (.inl ⟨_,f,β,?_,trivial,rfl⟩)⟩;have:=VT h1 u Y U L q A (off:=off) (us:=(a.eval x).cells.toList) (ns:=v.cells.map .d) (by rw[hr.1];simp) (by grind) hr.cells;simp only[BH,Bj];grind
 split at hy
 ·have k:=ρ_sound h hg x;split at hy
  ·rename_i l hx
   rw[hx]at k;obtain⟨⟨I,N⟩,hK⟩:=Al hy;rw[BN]at hK;obtain⟨us,hu,Z,huc⟩:=k;have Q:(a.eval x).cells=us:=by rw[hu];rfl
   obtain⟨vals,E,L,q,A⟩:=Ns h W U
   have d:∀v∈us.toList,v.oneCell'=true:=by
    intro v s;obtain⟨j,hj⟩:=List.mem_iff_getElem?.1 s;have hjl:j<l.length:=by grind
    exact(huc j v l[j] (by grind) (P3 hjl)).2
   have f:=OK (P:=P) ho M R (by rw[Q,Z,I,IK R]) L (by grind) (by rw[Q];exact d);refine⟨_,hK,.inr (.inl ⟨_,f,β,?_,trivial,rfl⟩)⟩;have:=VT h W hn U L q A (off:=off) (us:=(a.eval x).cells.toList) (ns:=l) (by rw[Q];simpa using Z) (by simpa using N) (λj v c s hc=>(huc j v c (by grind) hc).1);simp only[Bj];grind
  ·obtain⟨xd,b,hK,V,H,m⟩:=JJ (x:=X) (G:=G) (a:=a) k hy;obtain⟨⟨I,N⟩,hK⟩:=Al hK;rw[Q2,BN]at hK;grind
 ·obtain⟨⟨hs1,hof⟩,hy⟩:=Al hy;have k:=ρ_sound h hg x;split at hy
  ·rename_i F n' sz e xs hx
   rw[hx]at k;rw[BN]at hy;obtain⟨k1,k2,k3⟩:=k
   have d:(a.eval x).cells=#[a.eval x]/\(a.eval x).oneCell'=true:=by
    have hb':=h.boxes F;rw[k1]at hb';obtain⟨_,_,vals,hr,_⟩:=hb';rw[k3];rcases hr with⟨_,⟨M,_⟩|⟨g',cap,cur,M,_⟩⟩|⟨_,_,ad,M⟩<;>(rw[M];exact⟨rfl,rfl⟩)
   obtain⟨vals,E,L,q,A⟩:=Ns h W U;have f:=OK (P:=P) ho M R (by rw[d.1,<-IK R,hs1];rfl) L (by rw[d.1,q];exact hof) (by grind);refine⟨_,hy,.inr (.inl ⟨_,f,β,?_,trivial,rfl⟩)⟩
   have:=VT h W hn U L q A (off:=off) (us:=(a.eval x).cells.toList) (ns:=[.sl F n']) (by grind) hof (λj v c s hc=>by
    cases j with
    | zero=>rw[d.1]at s;simp at s hc;subst s;subst hc;exact⟨u1 k2.symm,λ_=>k3⟩
    | succ j=>simp at hc)
   simp only[Bj];grind
  ·obtain⟨xd,b,hK,V,H,m⟩:=JJ (x:=X) (G:=G) (a:=a) k hy;obtain⟨d,hK⟩:=Al hK;rw[BN]at hK
   have hx1:(nilT P T xd).cells=[nilT P T xd]:=by
    have:=mW (P:=P) (t:=T) d;generalize nilT P T xd=y at this
    cases y<;>first|rfl|simp[D.one]at this
   exact data V H (v:=nilT P T xd) (λB h1 h2 h3 h4=>(m B h1 h2 h3 h4).nilT) (by rw[hx1,hs1];rfl) (by grind) (by rw[hx1];exact hK)
 ·grind
theorem TC{α:Type}:∀(A B:List α)(i:Nat)(ys:List α),splice (A++B) (A.length+i) ys=A++splice B i ys
 | [],B,i,ys=>by simp
 | c :: A,B,i,ys=>by
   rw[w7,tS,show A.length+1+i=(A.length+i)+1 by omega,splice,TC A B i ys];rfl
theorem dI{sz:Nat}:∀(xs:List D)(i:Nat)(x y:D),(∀x∈xs,x.cells.length=sz)->xs[i]?=some x->y.cells.length=sz ->
 (xs.set i y).flatMap D.cells=splice (xs.flatMap D.cells) (i*sz) y.cells
 | [],i,x,y,_,hx,_=>by grind
 | z :: r,0,x,y,hs,hx,hy=>by
   have b:z.cells.length=sz:=hs z (by simp);rw[FT _ _ _ (by simp)];grind
 | z :: r,i+1,x,y,hs,hx,hy=>by
   have b:z.cells.length=sz:=hs z (by simp);have ih:=dI r i x y (λx hx=>hs x (by simp[hx])) (by grind) hy;rw[List.set_cons_succ,uq,ih,uq,show(i+1)*sz=z.cells.length+i*sz by rw[b,uo];omega,TC]
theorem Zx(L ys b:List D)(i o:Nat)(e:i+ys.length<=L.length)(ho:o+b.length<=ys.length)(d:(L.drop i).take ys.length=ys) :
 splice L i (splice ys o b)=splice L (i+o) b:=by
 rw[FT ys o b (by omega),FT L i _ (by omega),FT L (i+o) b (by omega)];have c:(ys.take o++b++ys.drop (o+b.length)).length=ys.length:=by grind
 rw[c];have f:L.take (i+o)=L.take i++ys.take o:=by grind
 have g:L.drop (i+o+b.length)=ys.drop (o+b.length)++L.drop (i+ys.length):=by
  have:L.drop i=ys++L.drop (i+ys.length):=by
   conv=>lhs;rw[<-w5 ys.length (L.drop i),d,List.drop_drop]
  rw[show i+o+b.length=i+(o+b.length) by omega,<-List.drop_drop,this,List.drop_append_of_le_length ho]
 grind
theorem Gz{id:Nat}:∀{b:Bx},FH id b=true->∀z∈b,z.1≠id
 | [],_,_,h=>by cases h
 | q :: r,hq,z,c=>by
   simp[FH]at hq;rcases List.mem_cons.1 c with rfl|c
   ·grind
   ·exact Gz hq.2 z c
theorem be(h:SimB X G β S a w){g:Option (Nat×Bool)}(hg:BW g a){T:TypeId}{p x:Operand}(ho:o.op=.store T p x){id n sz:Nat}{e:TypeId}{xs:List D}{k off:Nat}
 (hp:Ps β (OS β X S) S w (a.eval p) (.eptr id n sz e xs k off)) {i:TypeInfo} (hi:P.info? T=some i) {K:Hy->Prop}
 (hy:pS (ρOf S g x) λv b=>At xs k λy =>
  if v.cells.length=AF P T/\off+v.cells.length<=y.cells.length/\FH id b=true then
   match y with
   | .agg cs=>CU (splice cs off v.cells) λl=>K ⟨.any,b++[(id,.row sz e (xs.set k (.agg l)),n)],[]⟩
   | _=>if v.one then K ⟨.any,b++[(id,.row sz e (xs.set k v),n)],[]⟩else False
  else False) :
 ∃e,K e/\Dx P X G S a w o e:=by
 obtain⟨s,b,hK,hF,hfr,N⟩:=V3 (x:=X) (G:=G) (a:=a) (ρ_sound h hg x) hy;obtain⟨_,y,t,hK⟩:=hK.go;simp only[tu]at t;obtain⟨⟨hc1,H,hnr⟩,hK⟩:=Al hK;obtain⟨h1,h2,h3⟩:=hF.run h;have hr:=Ht (N.now h hF);obtain⟨hb,hn,blk,m,cap,hβ,hv⟩:=hp;have d:(Ai (Bj b S) id).box=.row sz e xs:=by rw[h3.other id (Gz hnr)];exact hb
 have O:(Ai (Bj b S) id).ver=n:=by rw[h3.ver,hn]
 have Q:=h1.boxes id;rw[d]at Q;obtain⟨R,c,vals,U,hl⟩:=Q;have hid:id<S.length:=NM hb (by simp);have V:=A7 t;have C:y.cells.length=sz:=c y (tz t)
 obtain⟨y',I,hK⟩:∃y',(y'.cells=splice y.cells off s.cells/\y'.cells.length=sz)/\K ⟨.any,b++[(id,.row sz e (xs.set k y'),n)],[]⟩:=by
  have E:(splice y.cells off s.cells).length=sz:=by rw[FT _ _ _ (by omega)];simp;omega
  cases y with
  | agg cs=>simp only[BN]at hK;exact⟨.agg (splice cs off s.cells),⟨rfl,E⟩,hK⟩
  | bool _|int _ _|str _|fn _ _|ptr _|nil _|list _ _ =>
    obtain⟨W,hK2⟩:=Al (show(if s.one=true then K ⟨.any,b++[(id,.row sz e (xs.set k s),n)],[]⟩else False)from hK);have J:s.cells=[s]:=by cases s<;>first|rfl|simp[D.one]at W
    rw[J]at H;have hc2':off+1<=1:=H;have ho0:off=0:=by omega
    subst ho0;refine⟨s,⟨?_,?_⟩,hK2⟩
    ·rw[J];rfl
    ·rw[J];exact C
 rcases U with⟨E,⟨A,h0⟩|⟨gb,F,cur,A,hbg,hh,Y,hm,hcs,ht⟩⟩|⟨h0,_⟩
 ·omega
 ·have L:=hβ;rw[A]at L;simp at L;obtain⟨rfl,rfl,rfl⟩:=L;have f:(a.eval x).cells.size=s.cells.length:=by have:=hr.1;simpa using this
  have hle:k*sz+sz<=xs.length*sz:=by rw[<-vT];exact tW _ V
  have hle2:xs.length*sz<=cur.size:=by rw[hcs];exact tW _ Y
  have Z:k*sz+off+(a.eval x).cells.size<=cur.size:=by rw[f];omega
  have hrun:=OK (P:=P) ho hv hi (by rw[f,hc1,IK hi]) hh Z hr.oneCell;refine⟨_,hK,.inr (.inl ⟨_,hrun,?_⟩)⟩;have u:=Fb xs c
  have hsp:(xs.set k y').flatMap D.cells=splice (xs.flatMap D.cells) (k*sz+off) s.cells:=by
   rw[dI xs k y y' c t I.2,I.1];refine Zx _ _ _ _ _ (by rw[u,C];exact hle) H ?_;apply u6;intro j;rw[tM];split
   ·rename_i hj
    rw[tQ,Pz xs c k y j _ t (P3 hj),P3 hj]
   ·rename_i hj
    rw[tB (by omega)]
  have M:F≠0:=by omega
  have r:(Ai (Bj b S) id).box.owned=true:=by rw[d];rfl
  have hbl:Af (β id)=some gb:=by rw[A];simp[Af,M]
  have h5:=h1.rebox (R':=X.R) (id:=id) (B:=.row sz e (xs.set k y')) (v:=β id) (n:=n)
   (w':=w.setRow gb (cur.toList.take (k*sz+off)++(a.eval x).cells.toList++cur.toList.drop (k*sz+off+(a.eval x).cells.size)).toArray)
   (λ_ h=>h) (by rw[Cp];exact hid) (.inr ⟨O.symm,rfl,by rw[d];simp⟩) (by simp) (AA.setRow _ _ _ (h1.mine id gb r hbl).1)
   (λq _ hk=>setRow_other w gb q _ (λe=>hk r (by rw[hbl,e])))
   (λ_ q hq=>⟨.inl ⟨hq,r⟩,(h1.mine id q r hq).2⟩)
   (λkp _=>by
    rw[Gx]at kp ⊢;refine⟨R,?_,vals.take (k*sz+off)++(a.eval x).cells.toList++vals.drop (k*sz+off+(a.eval x).cells.toList.length),.inl ⟨?_,.inr ⟨gb,F,_,by rw[A];simp,hbg,setRow_heap w gb cur _ e _ hh,?_,hm,?_,?_⟩⟩,?_⟩
    ·intro z hz;rcases List.mem_or_eq_of_mem_set hz with hz|hz
     ·exact c z hz
     ·rw[hz];exact I.2
    ·simp only[tF,tP,uJ,vL,tK];omega
    ·simpa using Y
    ·simp only[u7,tF,tP,uJ,tK];omega
    ·simp only[vL];rw[<-ht];apply u6;intro j;simp only[tM,List.getElem?_append,tQ,tF,tP,tK];split
     ·rename_i hj
      repeat' split
      all_goals first
       | rfl
       | omega
       | (congr 1;omega)
       | (rw[tf (by omega)];congr 1;omega)
     ·rename_i hj
      repeat' split
      all_goals first
       | rfl
       | omega
       | (rw[tB];simp;omega)
       | (rw[tn (by omega)])
    ·rw[hsp];exact(hl.splice hr (o:=k*sz+off) (by rw[u];omega)).mono kp)
  rw[Gx]at h5;refine⟨β,?_,trivial,rfl⟩;simp only[BH,Bj];exact h5
 ·omega
end
section
variable {P:Program} {X:Cx} {G:Nat->Prop} {β:Nat->Value} {S:AS} {a:Act} {w:World} {o:Oper}
theorem UI(off:Nat):∀(vs:List Value)(n:Nat)(cells:Array Value),off+n+vs.length<=cells.size ->
 ((vs.zipIdx n).foldl (λ(cs:Array Value)(x:Value×Nat)=>cs.setIfInBounds (off+x.2) x.1) cells).toList=cells.toList.take (off+n)++vs++cells.toList.drop (off+n+vs.length)
 | [],n,cells,_=>by simp
 | v :: r,n,cells,h=>by
   simp only[tS]at h;rw[List.zipIdx_cons,List.foldl_cons,UI off r (n+1) (cells.setIfInBounds (off+n) v) (by grind)];have e:=list_seg_step cells.toList (off+n) v r (by grind);simp only[uy];rw[show off+(n+1)=off+n+1 by omega]
   simpa using e
def Rb(O:Nat->Prop)(w:World):List (Nat×Value)->List (Nat×D)->Prop
 | [],[]=>True
 | (i,v) :: r,(j,x) :: s=>i=j/\Ax O w v x/\Rb O w r s
 | _,_=>False
theorem Yb{O:Nat->Prop}{w:World}{b:Nat->Option (Nat×Nat)}:∀{k:List (Nat×Value)}{m:List (Nat×D)}{cells:Array Value}{cs l:List D},Rb O w k m->B3 O w cells.toList cs->XZ b cs m=some l ->
 ∃d,Instr.fill b cells k=some d/\B3 O w d.toList l
 | [],[],cells,cs,l,_,hc,hf=>by simp[XZ]at hf;subst hf;exact⟨cells,rfl,hc⟩
 | (i,v) :: r,(j,x) :: s,cells,cs,l,hp,hc,hf=>by
   obtain⟨rfl,p,hp⟩:=hp;simp only[XZ]at hf;split at hf
   ·cases hf
   ·rename_i off n g
    split at hf
    ·rename_i h
     have e:=Ht p;have q:v.cells.size=x.cells.length:=by simpa using e.1
     have t:cells.size=cs.length:=by simpa using hc.1
     have c:=UI off v.cells.toList 0 cells (by grind);simp only[ui]at c
     have f:B3 O w (v.cells.zipIdx.foldl (λcs (x:Value×Nat)=>cs.setIfInBounds (off+x.2) x.1) cells).toList (splice cs off x.cells):=by
      rw[<-Array.foldl_toList,Array.toList_zipIdx,c];exact hc.splice e (by omega)
     obtain⟨d,y,u⟩:=Yb hp f hf;refine⟨d,?_,u⟩;simp only[Instr.fill,g];grind
    ·cases hf
 | [],_ :: _,_,_,_,hp,_,_=>hp.elim
 | (_,_) :: _,[],_,_,_,hp,_,_=>hp.elim
theorem Va(h:SimB X G β S a w){g:Option (Nat×Bool)}(j:BW g a):∀{parts:List (Nat×Operand)}{K:List (Nat×D)->Bx->Prop},M1 (ρOf S g) parts K ->
 ∃e b,K e b/\FZ S [] b/\Lk X G β S a w b λO=>Rb O w (parts.map λx=>(x.1,a.eval x.2)) e
 | [],K,hy=>⟨[],[],hy,trivial,λ_ _ _ _ _=>trivial⟩
 | (i,x) :: r,K,hy=>by
   obtain⟨l,b,hK,k,_,d⟩:=JJ (x:=X) (G:=G) (a:=a) (ρ_sound h j x) hy;obtain⟨e,m,hK,f,c⟩:=Va h j hK;exact⟨_,_,hK,k.append f,(d.and c).mono (λ_ h=>h) λO h=>⟨rfl,h.1,h.2⟩⟩
theorem Vd(h:SimB X G β S a w){g:Option (Nat×Bool)}(j:BW g a):∀{parts:List (Nat×Operand)}{K:List (Nat×D)->Bx->Prop},NW (ρOf S g) parts K ->
 ∃e b,K e b/\FZ S [] b/\Lk X G β S a w b λO=>Rb O w (parts.map λx=>(x.1,a.eval x.2)) e
 | [],K,hy=>⟨[],[],hy,trivial,λ_ _ _ _ _=>trivial⟩
 | (i,x) :: r,K,hy=>by
   obtain⟨l,b,hK,k,_,d⟩:=V3 (x:=X) (G:=G) (a:=a) (ρ_sound h j x) hy;obtain⟨e,m,hK,f,c⟩:=Vd h j hK;exact⟨_,_,hK,k.append f,(d.and c).mono (λ_ h=>h) λO h=>⟨rfl,h.1,h.2⟩⟩
theorem YE{b:List Field}(h:b.all (λf=>(P.info? f.type).isSome)=true) :
 (b.mapM λ(f:Field)=>(do pure (f.offset,<-sizeOf f.type):Sem (Nat×Nat))).run P w=.ok (b.map λ(f:Field)=>(f.offset,AF P f.type)) w:=by
 induction b with
 | nil=>simp
 | cons f r ih =>
   simp only[List.all_cons,uh]at h;obtain⟨e,d⟩:=h
   cases hi:P.info? f.type with
   | none=>grind
   | some i =>
     have c:=ih d;simp only[vQ,Sem.run_bind,sizeOf,typeInfo,run_program,Result.andThen_ok,hi,Sem.run_pure,tg,AF]at c ⊢;rw[c];simp
theorem XP(h:SimB X G β S a w){g:Option (Nat×Bool)}(F:BW g a){t:TypeId}{parts:Array (Nat×Operand)}(ho:o.op=.build t parts){c:Array Field}(H:P.underlying t=some (.struct c))
 {x:List D} (q:zeroCells P t=some x) (k:c.toList.all (λf=>(P.info? f.type).isSome)=true) {K:Hy->Prop}
 (hy:M1 (ρOf S g) parts.toList λA b=>match XZ (λi=>match c[i]? with|some f=>some (f.offset,AF P f.type)|none=>none) x A with
  | some l=>CU l λl=>K ⟨.d (.agg l),b,[]⟩
  | none=>False):∃e,K e/\Dx P X G S a w o e:=by
 obtain⟨A,b,hK,B,m⟩:=Va h F hy;obtain⟨I,N,_⟩:=B.run h;have hp:=m.now h B;split at hK
 ·rename_i l J
  rw[BN]at hK;obtain⟨i,z,L,M,r⟩:=If (O:=OS β X (Bj b S)) (w:=w) q;obtain⟨n,C,p⟩:=Yb hp r J;have d:(λ(i:Nat)=>match (c[i]?:Option Field)with|some f=>some (f.offset,AF P f.type)|none=>none)=λi=>(c.map λ(f:Field)=>(f.offset,AF P f.type))[i]?:=by grind
  rw[d]at C
  have s:(c.mapM λ(f:Field)=>(do pure (f.offset,<-sizeOf f.type):Sem (Nat×Nat))).run P w=.ok (c.map λ(f:Field)=>(f.offset,AF P f.type)) w:=by
   rw[vX,Sem.run_map,YE k];simp only[Result.andThen_ok];congr 1;grind
  refine⟨_,hK,.inl ⟨.agg n,w,?_,β,I,?_,rfl⟩⟩
  ·simp only[execOp,ho,Instr.build,Sem.run_bind,zeroValue,typeInfo,run_program,L,M,Result.andThen_ok,Sem.run_pure,run_underlying H,s,vU];rw[C];simp
  ·refine .agg _ _ (by simpa using p.1) (λy hy=>?_) (λj v y Q hy=>(p.2 j v y (by grind) hy).1);obtain⟨j,E⟩:=List.mem_iff_getElem?.1 hy;have u:j<n.toList.length:=by rw[p.1];exact A7 E
   exact(p.2 j _ y (P3 u) E).2
 ·grind
theorem Ya{sz:Nat}:∀(d:List (Nat×Value))(k:Nat)(cells:Array Value),(∀(j:Nat) x,d[j]?=some x->x.1=k+j/\x.2.cells.size=sz)->cells.size=(k+d.length)*sz ->
 ∃c,Instr.fill (λi=>some (i*sz,sz)) cells d=some c/\c.toList=cells.toList.take (k*sz)++d.flatMap (λx=>x.2.cells.toList)
 | [],k,cells,_,hc=>⟨cells,rfl,by simp at hc ⊢;rw[<-hc];exact(uv (by simp)).symm⟩
 | (i,v) :: r,k,cells,hp,hc=>by
   obtain⟨e,h⟩:=hp 0 (i,v) (by simp);simp only[ui]at e h;subst e;simp only[tS]at hc;have l:(i+(r.length+1))*sz=i*sz+sz+r.length*sz:=by grind
   have f:i*sz+v.cells.size<=cells.size:=by omega
   have b:=UI (i*sz) v.cells.toList 0 cells (by grind);simp only[ui,tK]at b
   have g:(v.cells.zipIdx.foldl (λ(cs:Array Value)(x:Value×Nat)=>cs.setIfInBounds (i*sz+x.2) x.1) cells).toList=cells.toList.take (i*sz)++v.cells.toList++cells.toList.drop (i*sz+v.cells.size):=by
    rw[<-Array.foldl_toList,Array.toList_zipIdx];exact b
   obtain⟨c,n,m⟩:=Ya (sz:=sz) r (i+1) (v.cells.zipIdx.foldl (λ(cs:Array Value)(x:Value×Nat)=>cs.setIfInBounds (i*sz+x.2) x.1) cells)
    (λj x hx=>by have:=hp (j+1) x (by grind);omega)
    (by rw[<-tK,g];simp;rw[show i+1+r.length=i+(r.length+1) by omega];omega)
   refine⟨c,?_,?_⟩
   ·simp only[Instr.fill];grind
   ·rw[m,g,uq];rw[List.take_append_of_le_length (by simp[uo];omega),uv (by grind)];simp
theorem Tn{O:Nat->Prop}{w:World}:∀{b:List (Nat×Value)}{d:List (Nat×D)}{k:Nat}{l:List D},Rb O w b d->S7 k d=some l ->
 b.length=l.length/\(∀(j:Nat) x,b[j]?=some x->x.1=k+j/\∃y,l[j]?=some y/\Ax O w x.2 y)/\B3 O w (b.flatMap (λx=>x.2.cells.toList)) (l.flatMap D.cells)
 | [],[],k,l,_,hl=>by simp[S7]at hl;subst hl;exact⟨rfl,λj x hx=>by simp at hx,B3.nil⟩
 | (i,v) :: r,(j,x) :: s,k,l,hp,hl=>by
   obtain⟨rfl,e,hp⟩:=hp;simp only[S7]at hl;split at hl
   ·rename_i c
    subst c;simp at hl;obtain⟨m,f,rfl⟩:=hl;obtain⟨g,n,h⟩:=Tn hp f;refine⟨by simp[g],λj y hy=>?_,?_⟩
    ·grind
    ·simp only[uq];exact(Ht e).append h
   ·cases hl
 | [],_ :: _,_,_,hp,_=>hp.elim
 | (_,_) :: _,[],_,_,hp,_=>hp.elim
theorem Kk{e:TypeId}(h:LF P e=true):∃i z,P.info? e=some i/\i.zero=some z/\z.cells.size=i.size:=by
 unfold LF at h;grind
theorem Xh(h:SimB X G β S a w){g:Option (Nat×Bool)}(hg:BW g a){d:Nat}(hd:d<S.length){t e:TypeId}{n:Nat}{parts:Array (Nat×Operand)}(ho:o.op=.buildSlice t n parts)(V:P.underlying t=some (.slice e))
 {K:Hy->Prop} (hy:NW (ρOf S g) parts.toList λW b=>match S7 0 W with
  | some l=>CU l λl =>
    if l.length=n/\0<AF P e/\LF P e=true/\n*AF P e<=16777216/\l.all (λx=>x.cells.length==AF P e)then K ⟨.sl d ((Ai S d).ver+1),b++[(d,.row (AF P e) e l,(Ai S d).ver+1)],[]⟩else False
  | none=>False):∃e,K e/\Dx P X G S a w o e:=by
 obtain⟨W,b,hK,Y,u⟩:=Vd h hg hy;obtain⟨Z,h2,A⟩:=Y.run h;have hp:=u.now h Y;split at hK
 ·rename_i l hl
  rw[BN]at hK;obtain⟨⟨B,p,H,E,hall⟩,C⟩:=Al hK;clear hK;obtain⟨i,z,I,H,hzs⟩:=Kk H;have c:AF P e=i.size:=IK I;obtain⟨h3,h4,h5⟩:=Tn hp hl;have f:∀x∈l,x.cells.length=AF P e:=by grind
  have J:parts.size=n:=by grind
  by_cases q:n=0
  ·subst q;have L:l=[]:=tx B;subst L;have M:parts.toList=[]:=by grind
   obtain⟨N,r,s⟩:=Lz Z (d:=d) (by rw[Cp];exact hd) (Mb (.cells #[] e)) (v:=.slice (some ⟨w.heap.size,0,none⟩) 0 0) (e:=e) (xs:=[]) (vals:=[]) p (λ_ h=>by cases h)
    (.inr ⟨rfl,rfl,_,rfl⟩) (λb O=>by simp[Af]at O) B3.nil
   rw[A.ver]at r s;refine⟨_,C,.inl ⟨.slice (some ⟨w.heap.size,0,none⟩) 0 0,w.alloc (.cells #[] e),?_,N,?_,?_,rfl⟩⟩
   ·simp[execOp,ho,Instr.buildSlice,run_underlying V,sizeOf,typeInfo,I,M,Instr.fill,newRow,Array.range_zero']
   ·simp only[BH,Bj];exact r
   ·simp only[BH,Bj];exact s
  have q:0<n:=Nat.pos_of_ne_zero q
  obtain⟨k,h6,Q⟩:=Ya (sz:=i.size) (parts.toList.map λx=>(x.1,a.eval x.2)) 0 ((Array.range (n*i.size)).map (z.cells[·%z.cells.size]!))
   (λj x hx=>by
    obtain⟨r,y,s,R⟩:=h4 j x hx;refine⟨r,?_⟩;have:=(Ht R).1;rw[f y (tz s),c]at this
    simpa using this)
   (by simp[J])
  simp only[Nat.zero_mul,List.take_zero,List.nil_append]at Q
  have m:k.size=n*i.size:=by
   have:=h5.1;rw[<-Q,Fb l f,B,c]at this
   simpa using this
  obtain⟨N,r,s⟩:=Lz Z (d:=d) (by rw[Cp];exact hd) (Mb (.cells k e)) (v:=.slice (some ⟨w.heap.size,0,none⟩) n n) (e:=e) (xs:=l) (vals:=k.toList) p f
   (.inl ⟨by rw[B,c];rw[tK];exact m,.inr ⟨w.heap.size,n,k,by rw[B],sZ _,heap_alloc_new w _,by omega,by
    have:n<=n*AF P e:=wm n p;unfold maxLen;omega,by rw[c];exact m,by rw[B,c,<-m];exact uv (by simp)⟩⟩)
   (λb O=>by simp[Af]at O;omega)
   (by
    rw[Q];refine h5.mono ⟨by simp,λb' D F=>?_,λb' D _=>heap_alloc_old w _ b' D⟩;rcases F with F|F
    ·grind
    ·simp[Af]at F;omega)
  rw[A.ver]at r s;refine⟨_,C,.inl ⟨.slice (some ⟨w.heap.size,0,none⟩) n n,w.alloc (.cells k e),?_,N,?_,?_,rfl⟩⟩
  ·have T:¬(n*i.size>2 ^ 24):=by rw[<-c];omega
   have U:¬(n*i.size=0):=by
    rw[<-c];have:=Nat.mul_pos q p;omega
   simp only[execOp,ho,Instr.buildSlice,Sem.run_bind,run_underlying V,Result.andThen_ok,sizeOf,typeInfo,run_program,I,Sem.run_pure,T,if_false,U,zeroValue,H,vU];rw[h6];simp[newRow]
  ·simp only[BH,Bj];exact r
  ·simp only[BH,Bj];exact s
 ·grind
theorem mM{O:Nat->Prop}{z:Value}{sz:Nat}{x:D}(hx:B3 O w z.cells.toList x.cells)(i:z.cells.size=sz)(k:0<sz)(n c:Nat)(l:n<=c) :
 ((madeCells z.cells (c*sz)).toList.take (n*sz)).length=n*sz/\B3 O w ((madeCells z.cells (c*sz)).toList.take (n*sz)) ((List.replicate n x).flatMap D.cells):=by
 have q:n*sz<=c*sz:=tW _ l;have b:((madeCells z.cells (c*sz)).toList.take (n*sz)).length=n*sz:=by simp[size_madeCells,u9 l]
 have d:x.cells.length=sz:=by rw[<-hx.1];simpa using i
 have e:=Fb (sz:=sz) (List.replicate n x) (λy hy=>by rw[un hy];exact d);refine⟨b,by rw[b,e];simp,λj v y m hy=>?_⟩;have p:j<n*sz:=by grind
 have f:j/sz<n:=by rw[vk k];exact p
 have t:j%sz<sz:=v9 _ k
 have g:((List.replicate n x).flatMap D.cells)[j]?=some (x.cells[j%sz]'(by grind)):=by
  have:=Pz (sz:=sz) (List.replicate n x) (λy hy=>by rw[un hy];exact d) (j/sz) x (j%sz) _ (by simp[f]) (P3 (by grind))
  rwa [tV,vw]at this
 rw[g]at hy
 cases hy
 rw[ul p]at m
 have r:v=z.cells.toList[j%sz]'(by grind):=by
  have h:j<c*sz:=by omega
  have s:j%sz<z.cells.size:=by grind
  simp[madeCells,h,i]at m;grind
 exact hx.2 (j%sz) v _ (by grind) (P3 _)
theorem fB{t:TypeId}{K:D->Prop}(hy:au P t K):∃x,K x/\∃i z,P.info? t=some i/\i.zero=some z/\∀(O:Nat->Prop)(w:World),B3 O w z.cells.toList x.cells:=by
 unfold au at hy;split at hy
 ·rename_i l b
  obtain⟨i,z,c,d,-⟩:=If (O:=λ_=>True) (w:=default) b
  have hr:∀(O:Nat->Prop)(w:World),B3 O w z.cells.toList l:=by
   intro O w;obtain⟨j,k,f,g,hr⟩:=If (O:=O) (w:=w) b;grind
  split at hy
  ·rw[UV]at hy;exact⟨_,hy,i,z,c,d,λO w=>(hr O w).norm⟩
  ·split at hy
   ·rename_i y
    rw[NS]at hy;refine⟨_,hy,i,z,c,d,λO w=>?_⟩;have h:y.one=true:=((hr O w).2 0 _ y (P3 (by rw[(hr O w).1];simp)) rfl).2;have e:(norm y).cells=[norm1 y]:=by cases y<;>first|rfl|simp[D.one]at h
    rw[e];exact(hr O w).norm
   ·grind
  ·grind
 ·grind
theorem jM(h:SimB X G β S a w){g:Option (Nat×Bool)}(I:BW g a){d:Nat}(hd:d<S.length){t e:TypeId}{x y:Operand}(ho:o.op=.makeSlice t x y)(M:P.underlying t=some (.slice e))(F:0<AF P e)(N:LF P e=true)
 {k J:IntKind} {l c:Int} (hx:ρOf S g x=.d (.int k l)) (hy:ρOf S g y=.d (.int J c)) {K:Hy->Prop}
 (m:au P e λz=>Kb (0<=l/\l<=c/\c<=maxLen/\(Lm P e:Int)*c<=281474976710656) (K ⟨.sl d ((Ai S d).ver+1),[(d,.row (AF P e) e (List.replicate l.toNat z),(Ai S d).ver+1)],[]⟩)):∃e,K e/\Dx P X G S a w o e:=by
 have B:=ρ_sound h I x;rw[hx]at B;have B:=AT B;have C:=ρ_sound h I y;rw[hy]at C;have C:=AT C;obtain⟨z,m,i,D,E,n,p⟩:=fB m;obtain⟨⟨O,Q,W,L⟩,hK⟩:=m;obtain⟨Y,Z,q,r,s⟩:=Kk N;rw[E]at q;cases q;rw[n]at r;cases r;have f:AF P e=i.size:=IK E;have j:Lm P e=i.bytes:=by simp[Lm,E]
 rw[j]at L;have hm:maxLen<=9223372036854775807:=by unfold maxLen;omega
 have u:=run_make (P:=P) w t e i D M E n k J l c O Q L (by omega);have A:=mM (w:=w.alloc (.cells (madeCells D.cells (c.toNat*i.size)) e)) (p (λb=>OS β X S b\/Af (.slice (some ⟨w.heap.size,0,none⟩) l.toNat c.toNat)=some b) _) s (by grind) l.toNat c.toNat (by omega);have H:z.cells.length=i.size:=by have:=(p (λ_=>True) w).1;rw[<-this];simpa using s
 obtain⟨R,T,U⟩:=Lz h hd (Mb (.cells (madeCells D.cells (c.toNat*i.size)) e)) (v:=.slice (some ⟨w.heap.size,0,none⟩) l.toNat c.toNat) (e:=e) (sz:=AF P e) (xs:=List.replicate l.toNat z)
  (vals:=(madeCells D.cells (c.toNat*i.size)).toList.take (l.toNat*i.size)) F (λy hy=>by rw[un hy,f];exact H)
  (.inl ⟨by rw[f,A.1];simp,.inr ⟨w.heap.size,c.toNat,_,by simp,sZ _,heap_alloc_new w _,by simp;omega,by omega,by rw[size_madeCells,f],by rw[f];simp⟩⟩)
  (λb V=>by simp[Af]at V;omega) A.2
 refine⟨_,hK,.inl ⟨_,_,?_,R,T,U,rfl⟩⟩;simp[execOp,ho,B,C,u]
theorem kF{f:Nat->Value}{N j:Nat}{u:Value}(h:((List.range N).map f)[j]?=some u):j<N/\f j=u:=by grind
theorem SL(h:SimB X G β S a w){r:RV}{v:Value}(hr:Ps β (OS β X S) S w v r){K:Nat->List D->Prop}(hy:OZ r K) :
 ∃sz ys,K sz ys/\∃k c,v=.slice k ys.length c/\(ys=[]\/∃i f,k=some i/\B3 (OS β X S) w f (ys.flatMap D.cells)/\(∀x∈ys,x.cells.length=sz)/\∀(j:Nat) u,f[j]?=some u->w.cell? (i.add j)=some u):=by
 have key:∀sz ys,Ax (OS β X S) w v (.list sz ys)->∃k c,v=.slice k ys.length c/\(ys=[]\/∃i f,k=some i/\B3 (OS β X S) w f (ys.flatMap D.cells)/\(∀x∈ys,x.cells.length=sz)/\∀(j:Nat) u,f[j]?=some u->w.cell? (i.add j)=some u):=by
  intro sz ys M
  cases M with
  | emp k cap _=>grind
  | list b off cap _ _ c N F Y H l O m I =>
    refine⟨_,cap,rfl,.inr ?_⟩
    have t:∀j,j<(ys.flatMap D.cells).length->∃x y,ys[j/sz]?=some x/\x.cells[j%sz]?=some y/\(ys.flatMap D.cells)[j]?=some y/\0<sz:=by
     intro j A;rw[Fb ys l]at A;have p:0<sz:=by grind
     have hd:j/sz<ys.length:=by rw[vk p];exact A
     have B:j%sz<ys[j/sz].cells.length:=by rw[l _ (ta hd)];exact v9 _ p
     refine⟨ys[j/sz],ys[j/sz].cells[j%sz],P3 hd,P3 B,?_,p⟩;have:=Pz ys l (j/sz) _ (j%sz) _ (P3 hd) (P3 B)
     rwa [tV,vw]at this
    refine⟨⟨b,off,none⟩,(List.range (ys.flatMap D.cells).length).map λj=>c (j/sz) (j%sz),rfl,⟨by simp,λj u y q hy=>?_⟩,l,λj u q=>?_⟩
    ·grind
    ·obtain⟨A,rfl⟩:=kF q;obtain⟨x,y',C,E,J,_⟩:=t j A;rw[Hz];have:=m _ _ _ _ C E
     rwa [Nat.add_assoc,tV,vw]at this
 cases r<;>simp only[OZ]at hy
 case d x =>
  cases x<;>simp only at hy
  case nil sz =>
   have hr:Ax (OS β X S) w v (.nil sz):=hr;have:∃k,v=.slice k 0 0:=by cases hr;exact⟨_,rfl⟩
   grind
  case list sz xs=>exact⟨sz,xs,hy,key sz xs hr⟩
 case lim sz xs=>exact⟨sz,xs,hy,key sz xs hr.1⟩
 case row id n sz e xs =>
  obtain⟨F,_,Q⟩:=hr;have z:=h.boxes id;rw[F]at z;obtain⟨O,C,vals,E,J⟩:=z;refine⟨sz,xs,hy,?_⟩;rcases E with⟨L,⟨s,R⟩|⟨g,cap,cur,s,T,U,Z,B,V,W⟩⟩|⟨R,_,k,s⟩
  ·grind
  ·refine⟨some ⟨g,0,none⟩,cap,by rw[Q,s],.inr ⟨_,vals,rfl,J,C,λj u q=>?_⟩⟩;rw[Hz,tE];rw[<-W,tM]at q;split at q
   ·simp[World.cell?,U];simpa using q
   ·cases q
  ·grind
theorem QP{t ty e:TypeId}{i:TypeInfo}(f:P.underlying t=some (.slice e))(g:P.info? e=some i)(b d:Option Addr)(n cap c:Nat)(h:n<=cap) :
 (Builtin.append_ #[t,t] ty #[.slice b n cap,.slice d 0 c]).run P w=.ok (.slice b n cap) w:=by
 cases b<;>cases d<;>simp[Builtin.append_,run_underlying f,sizeOf,typeInfo,g,Builtin.lenOf,h,Builtin.firstCells,loadCells,loadCellsFrom,storeCells]
theorem Wq(h:SimB X G β S a w){x y:Operand}{t e:TypeId}(ho:o.op=.call ⟨.builtin .append,#[x,y],#[t,t]⟩)(R:P.underlying t=some (.slice e)){sz:Nat}{ys:List D}(T:sz=AF P e)(F:LF P e=true)
 {p:Nat} {ad:Option Addr} {c:Nat} (hy:a.eval y=.slice ad ys.length c)
 (U:ys=[]\/∃m d,ad=some m/\B3 (OS β X S) w d (ys.flatMap D.cells)/\(∀x∈ys,x.cells.length=p)/\∀(j:Nat) u,d[j]?=some u->w.cell? (m.add j)=some u)
 (V:ys=[]\/p=sz) {xs:List D} (H:∀x∈xs,x.cells.length=sz) {vals:List Value} {O:Nat->Prop} (hO:∀b,O b->OS β X S b) (hl:B3 O w vals (xs.flatMap D.cells))
 {I:Option Addr} {cap:Nat} (Q:a.eval x=.slice I xs.length cap) (hcap:xs.length<=cap) (J:xs.length=0/\cap=0\/∃q,I=some q/\∀(j:Nat) u,vals[j]?=some u->w.cell? (q.add j)=some u)
 (hm:xs.length+ys.length<=maxLen) (W:(xs.length+ys.length)*Lm P e<=140737488355328) (Y:cap<xs.length+ys.length) :
 ∃cp w',(execOp a.eval o).run P w=.ok (.value (.slice (some ⟨w.heap.size,0,none⟩) (xs.length+ys.length) cp)) w'/\Below w.heap.size w w' /\
  ∃n,B0 w' e sz (.slice (some ⟨w.heap.size,0,none⟩) (xs.length+ys.length) cp) (xs++ys).length n/\B3 O w n ((xs++ys).flatMap D.cells)/\(∀x∈ys,x.cells.length=sz):=by
 obtain⟨i,z,K,F,Z⟩:=Kk F;have g:sz=i.size:=by rw[T,IK K]
 have r:Lm P e=i.bytes:=by simp[Lm,K]
 rw[r]at W;have B:ys≠[]:=by grind
 obtain⟨m,d,rfl,L,A,k⟩:=U.resolve_left B;have hse:p=sz:=V.resolve_left B;subst hse;have hm0:0<ys.length:=List.length_pos_iff.2 B;have f:d.length=ys.length*i.size:=by rw[L.1,Fb ys A,g]
 have l:vals.length=xs.length*i.size:=by rw[hl.1,Fb xs H,g]
 have M:((xs.length+ys.length:Nat):Int)<=9223372036854775807:=by unfold maxLen at hm;omega
 have C:B3 O w (vals++d) ((xs++ys).flatMap D.cells):=by rw[vY];exact hl.append (L.mono (B7.of_sub hO))
 have E:∀v' w',(Builtin.append_ #[t,t] o.type #[a.eval x,a.eval y]).run P w=.ok v' w'->(execOp a.eval o).run P w=.ok (.value v') w':=by
  intro v' w' hr;simp[execOp,ho,resolve,invoke,builtin,hr]
 have hge:xs.length+ys.length<=grownCap w (xs.length+ys.length) cap e:=grownCap_ge w _ cap e;have hcm:grownCap w (xs.length+ys.length) cap e<=maxLen:=grownCap_le_maxLen w _ cap e hm
 have hr:(Builtin.append_ #[t,t] o.type #[a.eval x,a.eval y]).run P w=.ok (.slice (some ⟨w.heap.size,0,none⟩) (xs.length+ys.length) (grownCap w (xs.length+ys.length) cap e)) (w.drew.alloc (.cells (vals.toArray++d.toArray++Builtin.zeroCells z.cells (grownCap w (xs.length+ys.length) cap e-(xs.length+ys.length))) e)):=by
  rcases J with⟨hx0,hc0⟩|⟨q,rfl,s⟩
  ·subst hc0;have hxe:xs=[]:=tx hx0;subst hxe;have N:vals=[]:=tx (by grind);subst N;rw[Q,hy]
   cases I with
   | none =>
     have:=run_append_nil (P:=P) w t o.type e i z R K F m ys.length c d f k hm0 (by simpa using M) (by grind);grind
   | some I =>
     have:=run_append_grow (P:=P) w t o.type e i z R K F I 0 0 [] (by simp) (λj v Q=>by simp at Q) m ys.length c d f k (by omega) (by grind) (growslice_fits (by omega) (by simpa using W));grind
  ·rw[Q,hy];exact run_append_grow (P:=P) w t o.type e i z R K F q xs.length cap vals l s m ys.length c d f k (by omega) M (growslice_fits (by omega) W)
 refine⟨_,_,E _ _ hr,(Below.refl _ _).drew.alloc (td _) _,vals++d,.inl ⟨?_,.inr ⟨w.heap.size,grownCap w (xs.length+ys.length) cap e,_,by simp,sZ _,heap_alloc_new w.drew _,by simpa using hge,hcm,?_,?_⟩⟩,C,A⟩
 ·grind
 ·simp only[ww,u7,size_zeroCells,Z,l,f,<-g,<-uo];grind
 ·have:(xs++ys).length*p=(vals++d).length:=by simp[l,f,g,uo]
  grind
theorem dm(h:SimB X G β S a w){x y:Operand}{t e:TypeId}(ho:o.op=.call ⟨.builtin .append,#[x,y],#[t,t]⟩)(hu:P.underlying t=some (.slice e)){id n sz:Nat}{xs ys:List D}
 (hx:Ps β (OS β X S) S w (a.eval x) (.row id n sz e xs)) (hsz:sz=AF P e) (M:LF P e=true) {J:Nat} {ad:Option Addr} {c:Nat} (hy:a.eval y=.slice ad ys.length c)
 (hys:ys=[]\/∃B d,ad=some B/\B3 (OS β X S) w d (ys.flatMap D.cells)/\(∀x∈ys,x.cells.length=J)/\∀(j:Nat) u,d[j]?=some u->w.cell? (B.add j)=some u)
 (hm:xs.length+ys.length<=maxLen) (s:(xs.length+ys.length)*Lm P e<=140737488355328) (hs':ys=[]\/J=sz) :
 Dx P X G S a w o ⟨.sl id (n+1),[(id,.row sz e (xs++ys),n+1)],[]⟩:=by
 obtain⟨R,hver,T⟩:=hx;have hid:id<S.length:=NM R (by simp);have N:=h.boxes id;rw[R]at N;obtain⟨hpos,C,vals,E,hl⟩:=N;have v:(Ai S id).box.owned=true:=by rw[R];rfl
 have Da:∀I w',(execOp a.eval o).run P w=.ok (.value I) w'->w.heap.size<=w'.heap.size->AA X.base X.M w w' ->
  (∀b,b<w.heap.size->Af (β id)≠some b->w'.heap[b]?=w.heap[b]?)->(∀b,Af I=some b->Af (β id)=some b\/w.heap.size<=b)->(∀x∈ys,x.cells.length=sz) ->
  (∃f,B0 w' e sz I (xs++ys).length f/\B3 (OS β X S) w f ((xs++ys).flatMap D.cells)) ->
  Dx P X G S a w o ⟨.sl id (n+1),[(id,.row sz e (xs++ys),n+1)],[]⟩:=by
  intro I w' hr hs F U V W hrw;obtain⟨f,Y,Z⟩:=hrw;refine .inl ⟨I,w',hr,Lg β id I,?_,?_,rfl⟩
  ·exact h.rebox (R':=X.R) (λ_ h=>h) hid (.inl (by rw[hver];omega)) hs F (λb s hk=>U b s (hk v))
    (λ_ b s=>by
     rcases V b s with K|K
     ·exact⟨.inl ⟨K,v⟩,(h.mine id b v K).2⟩
     ·exact⟨.inr (.inl K),λhr=>by have:=(h.rs b hr).2;omega⟩)
    (λk _=>⟨hpos,λz M=>by rcases List.mem_append.1 M with M|M;exact C z M;exact W z M,f,by simp only[Lg,if_true];exact Y,Z.mono k⟩)
  ·have:AM (Bj [(id,.row sz e (xs++ys),n+1)] S) id=n+1:=by simp[Bj,AM,Cc,hid]
   exact⟨by rw[this];exact td _,λ_=>by simp[Lg]⟩
 obtain⟨i,z,hi,hz',hzs⟩:=Kk M;have l:sz=i.size:=by rw[hsz,IK hi]
 obtain⟨b0,cap,q,hle,hold⟩:∃b0 cap,a.eval x=.slice b0 xs.length cap/\xs.length<=cap/\(xs.length=0/\cap=0\/∃ad0,b0=some ad0/\∀(j:Nat) u,vals[j]?=some u->w.cell? (ad0.add j)=some u):=by
  rw[T];rcases E with⟨_,⟨m,h0⟩|⟨g,cap,cur,m,_,K,hn,_,_,htk⟩⟩|⟨h0,_,B,m⟩
  ·exact⟨_,_,by rw[m,h0],by omega,.inl ⟨h0,rfl⟩⟩
  ·refine⟨_,cap,m,hn,.inr ⟨_,rfl,λj u hj=>?_⟩⟩;rw[Hz,tE];rw[<-htk,tM]at hj;split at hj
   ·simp[World.cell?,K];simpa using hj
   ·cases hj
  ·exact⟨_,_,by rw[m,h0],by omega,.inl ⟨h0,rfl⟩⟩
 by_cases L:ys=[]
 ·subst L;simp only[vM]at Da ⊢;refine Da (a.eval x) w ?_ (td _) (AA.refl _ _ _) (λ_ _ _=>rfl) (λb s=>.inl (by rw[<-T];exact s)) (λ_ h=>by cases h) ⟨vals,by rw[T];exact E,hl⟩;have:=QP (P:=P) (w:=w) (ty:=o.type) hu hi b0 ad xs.length cap c hle;simp only[execOp,ho,resolve,invoke,builtin,Sem.run_bind,Sem.run_pure,Result.andThen_ok];simp only[List.map_toArray,tg,t9,hy,q,uP];rw[this];simp
 ·by_cases r:xs.length+ys.length<=cap
  ·
    obtain⟨B,d,rfl,hnl,O,hnews⟩:=hys.resolve_left L;have hse:J=sz:=hs'.resolve_left L;subst hse;have hm0:0<ys.length:=List.length_pos_iff.2 L;have p:d.length=ys.length*i.size:=by rw[hnl.1,Fb ys O,l]
    have H:vals.length=xs.length*i.size:=by rw[hl.1,Fb xs C,l]
    have hflat:B3 (OS β X S) w (vals++d) ((xs++ys).flatMap D.cells):=by rw[vY];exact hl.append hnl
    rcases E with⟨hlen,⟨m,h0⟩|⟨g,A,cur,m,hbg,K,hn,hcm,hcs,htk⟩⟩|⟨h0,_,a0,m⟩
    ·rw[T,m]at q;simp at q;omega
    ·have hcc:A=cap:=by rw[T,m]at q;simp at q;omega
     subst hcc;have hc0:A≠0:=by omega
     have Q:xs.length*i.size+d.length<=cur.size:=by rw[p,hcs,l,<-uo];exact tW _ r
     have hr:=run_append_room (P:=P) w t o.type e i hu hi g xs.length A cur K B ys.length c d p hnews hnl.oneCell r Q;have hβb:Af (β id)=some g:=by rw[m];simp[Af,hc0]
     have hexec:∀I w',(Builtin.append_ #[t,t] o.type #[a.eval x,a.eval y]).run P w=.ok I w'->(execOp a.eval o).run P w=.ok (.value I) w':=by
      intro I w' hr;simp[execOp,ho,resolve,invoke,builtin,hr]
     refine Da _ _ (hexec _ _ (by rw[T,m,hy];exact hr)) (by simp) (AA.setRow _ _ _ (h.mine id g v hβb).1) (λb _ hk=>setRow_other w g b _ (λe=>hk (by rw[hβb,e]))) (λb s=>.inl (by rw[hβb];simp[Af,hc0]at s;rw[s])) O
      ⟨vals++d,.inl ⟨by simp[H,p,l,uo],.inr ⟨g,A,_,by simp,hbg,setRow_heap w g cur _ e _ K,by simpa using r,hcm,?_,?_⟩⟩,hflat⟩
     ·simp only[u7,tF,tP,uJ,tK];rw[hcs]at Q ⊢;omega
     ·have:(xs++ys).length*J=(vals++d).length:=by simp[H,p,l,uo]
      rw[this,<-l,htk];exact vP
    ·rw[T,m]at q;simp at q;omega
  ·obtain⟨cp,w',hr,F,f,Y,Z,W⟩:=Wq h ho hu hsz M hy hys hs' C (λ_ h=>h) hl q hle hold hm s (by omega);exact Da _ _ hr F.size ((AA.of F).weaken h.hbase λ_ _ h=>h) (λb s _=>F.block b s) (λb s=>.inr (by simp[Af]at s;omega)) W ⟨f,Y,Z⟩
theorem QA(h:SimB X G β S a w){d:Nat}(hd:d<S.length){x y:Operand}{t e:TypeId}(ho:o.op=.call ⟨.builtin .append,#[x,y],#[t,t]⟩)(hu:P.underlying t=some (.slice e)){sz:Nat}{xs ys:List D}
 (O:sz=AF P e) (F:0<sz) (hz:LF P e=true) {H:Nat} {Q:Option Addr} {c:Nat} (hy:a.eval y=.slice Q ys.length c)
 (R:ys=[]\/∃I g,Q=some I/\B3 (OS β X S) w g (ys.flatMap D.cells)/\(∀x∈ys,x.cells.length=H)/\∀(j:Nat) u,g[j]?=some u->w.cell? (I.add j)=some u)
 (hm:xs.length+ys.length<=maxLen) (m:(xs.length+ys.length)*Lm P e<=140737488355328) (T:ys=[]\/H=sz)
 (hx:(∃f,a.eval x=.slice f 0 0/\xs=[])\/(Ax (OS β X S) w (a.eval x) (.list sz xs)/\Te (a.eval x)=xs.length/\ys≠[])) :
 Dx P X G S a w o ⟨.sl d ((Ai S d).ver+1),[(d,.row sz e (xs++ys),(Ai S d).ver+1)],[]⟩:=by
 obtain⟨i,z,hi,hz',hzs⟩:=Kk hz;by_cases J:ys=[]
 ·subst J;obtain⟨f,k,rfl⟩:=hx.resolve_right λh=>h.2.2 rfl
  have L:(execOp a.eval o).run P w=.ok (.value (.slice f 0 0)) w:=by
   have:=QP (P:=P) (w:=w) (ty:=o.type) hu hi f Q 0 0 c (td _);simp only[execOp,ho,resolve,invoke,builtin,Sem.run_bind,Sem.run_pure,Result.andThen_ok];simp only[List.map_toArray,tg,t9,hy,k,uP];rw[this];simp
  obtain⟨U,V,W⟩:=Lz h hd (Below.refl _ _) (v:=.slice f 0 0) (e:=e) (xs:=[]) (vals:=[]) F (λ_ h=>by cases h)
   (by cases f with
    | none=>exact .inl (World.ownsRow_nil w _ e _)
    | some q=>exact .inr ⟨rfl,rfl,q,rfl⟩) (λb m=>by cases f<;>simp[Af]at m) B3.nil
  exact .inl ⟨_,w,L,U,V,W,rfl⟩
 ·have hpos:0<ys.length:=List.length_pos_iff.2 J
  obtain⟨Y,cap,vals,k,Z,M,n,hl,hcap⟩:∃Y cap,∃vals:List Value,a.eval x=.slice Y xs.length cap/\xs.length<=cap/\(xs.length=0/\cap=0\/∃f,Y=some f/\∀(j:Nat) u,vals[j]?=some u->w.cell? (f.add j)=some u) /\
   (∀x∈xs,x.cells.length=sz)/\B3 (OS β X S) w vals (xs.flatMap D.cells)/\cap=xs.length:=by
   rcases hx with⟨f,k,rfl⟩|⟨hr,hc,_⟩
   ·exact⟨f,0,[],by simpa using k,by simp,.inl ⟨rfl,rfl⟩,(λ_ h=>by cases h),B3.nil,rfl⟩
   ·obtain⟨sz2,xs2,⟨rfl,rfl⟩,ad1,c1,p,A⟩:=SL h (r:=.d (.list sz xs)) hr (K:=λs l=>sz=s/\xs=l) ⟨rfl,rfl⟩;have B:c1=xs.length:=by rw[p]at hc;simpa [Te] using hc
    rcases A with hxe|⟨ad2,g,rfl,h3,h4,h5⟩
    ·subst hxe;exact⟨ad1,c1,[],p,by simp,.inl ⟨rfl,by simpa using B⟩,(λ_ h=>by cases h),B3.nil,B⟩
    ·exact⟨_,c1,g,p,by omega,.inr ⟨ad2,rfl,h5⟩,h4,h3,B⟩
  obtain⟨cp,w',hr,C,E,hr1,hr2,hyz⟩:=Wq h ho hu O hz hy R T n (λ_ h=>h) hl k Z M hm m (by omega)
  obtain⟨U,V,W⟩:=Lz h hd C (e:=e) (xs:=xs++ys) (vals:=E) F (λq hq=>by rcases List.mem_append.1 hq with hq|hq;exact n q hq;exact hyz q hq) hr1 (λb m=>by simp[Af]at m;omega)
   (hr2.mono ⟨C.size,λb m N=>by
    rcases N with N|N
    ·grind
    ·simp[Af]at N;omega,λb m _=>C.block b m⟩)
  exact .inl ⟨_,w',hr,U,V,W,rfl⟩
theorem lU(h:SimB X G β S a w){t e:TypeId}{x:Operand}{K:Option Operand}(ho:o.op=.slice t x none K none)(hu:P.underlying t=some (.slice e)){sz:Nat}(L:sz=AF P e)(f:0<sz){id n:Nat}{M:TypeId}{xs:List D}
 (hx:Ps β (OS β X S) S w (a.eval x) (.row id n sz M xs)) {r:Int} (W:K=none/\r=(xs.length:Int)\/∃q k,K=some q/\a.eval q=.int k r) (v:0<=r) (h2:r<=xs.length) :
 Dx P X G S a w o ⟨.sl id (n+1),[(id,.row sz M (xs.take r.toNat),n+1)],[]⟩:=by
 obtain⟨s,y,A⟩:=hx;have hid:id<S.length:=NM s (by simp);have i:=h.boxes id;rw[s]at i;obtain⟨_,j,vals,m,hl⟩:=i;have p:(Ai S id).box.owned=true:=by rw[s];rfl
 have hs:(sizeOf e).run P w=.ok sz w:=by rw[L]at f ⊢;exact L6 f
 obtain⟨u,cap,c,B,Y⟩:∃u cap,a.eval x=.slice u xs.length cap/\xs.length<=cap/\(cap=0\/∃g,u=some ⟨g,0,none⟩):=by
  rw[A];rcases m with⟨_,⟨d,v⟩|⟨g,cap,cur,d,_,W,Z,_,_,C⟩⟩|⟨v,_,ad',d⟩
  ·exact⟨_,_,by rw[d,v],by omega,.inl rfl⟩
  ·exact⟨_,cap,d,Z,.inr ⟨g,rfl⟩⟩
  ·exact⟨_,_,by rw[d,v],by omega,.inl rfl⟩
 have hb:=Un (P:=P) (w:=w) (a:=a) (isSlice:=true) (len:=xs.length) (cap:=cap) (lo:=none) (l:=0) (.inl ⟨rfl,rfl⟩) W (by omega) v h2 B
 have E:(execOp a.eval o).run P w=.ok (.value (.slice u r.toNat cap)) w:=by
  simp only[Option.map_none,Int.toNat_zero]at hb;simp[execOp,ho,Instr.sliceAt,Instr.slice,c,run_underlying hu,hb,hs];intro _
  cases u<;>simp[Addr.add]
 have F:(xs.take r.toNat).length=r.toNat:=by simp;omega
 have N:r.toNat*sz<=xs.length*sz:=tW _ (by omega);refine .inl ⟨_,w,E,Lg β id (.slice u r.toNat cap),?_,?_,rfl⟩
 ·refine h.rebox (R':=X.R) (λ_ h=>h) hid (.inl (by rw[y];omega)) (td _) (AA.refl _ _ _) (λ_ _ _=>rfl) (λ_ b H=>?_) (λk _=>⟨f,λz O=>j z (uf O),vals.take (r.toNat*sz),?_,?_⟩)
  ·have:Af (β id)=some b:=by rw[<-A,c];cases u<;>simp[Af]at H ⊢;exact H
   exact⟨.inl ⟨this,p⟩,(h.mine id b p this).2⟩
  ·simp only[Lg,if_true];rw[F];rcases m with⟨I,⟨d,Q⟩|⟨g,J,cur,d,R,T,Z,U,V,C⟩⟩|⟨Q,hv0',a0,d⟩
   ·rw[A,d]at c;simp at c;obtain⟨rfl,_,rfl⟩:=c;have:r.toNat=0:=by omega
    rw[this];simp;exact .inl (World.ownsRow_nil w _ _ _)
   ·rw[A,d]at c;simp at c;obtain⟨rfl,rfl⟩:=c;refine .inl ⟨by simp[I,u9 (show r.toNat<=xs.length by omega)],.inr ⟨g,J,cur,rfl,R,T,by omega,U,V,?_⟩⟩;rw[<-C,List.take_take,u9 N]
   ·rw[A,d]at c;simp at c;obtain⟨rfl,_,rfl⟩:=c;have:r.toNat=0:=by omega
    rw[this];simp;exact .inr ⟨rfl,rfl,a0,rfl⟩
  ·have e1:(xs.take r.toNat).flatMap D.cells=(xs.flatMap D.cells).take (r.toNat*sz):=by
    have h1:(xs.flatMap D.cells)=(xs.take r.toNat).flatMap D.cells++(xs.drop r.toNat).flatMap D.cells:=by rw[<-vY,w5]
    rw[h1,List.take_left'];rw[Fb _ (λz O=>j z (uf O)),F]
   rw[e1];exact(hl.take _).mono k
 ·have:AM (Bj [(id,.row sz M (xs.take r.toNat),n+1)] S) id=n+1:=by simp[Bj,AM,Cc,hid]
  exact⟨by rw[this];exact td _,λ_=>by simp[Lg]⟩
end
section
variable {P:Program} {X:Cx} {G:Nat->Prop} {β:Nat->Value} {S:AS} {a:Act} {w:World} {o:Oper}
theorem Tb{O O':Nat->Prop}{w w':World}{v:Value}{y:D}(h:Ax O w v y)(d:y.bare=true):Ax O' w' v y:=by
 cases h with
 | bool b=>exact .bool b
 | int k n=>exact .int k n
 | str s=>exact .str s
 | fn f vs xs g j h =>
   cases xs with
   | nil=>exact .fn f vs [] g j λi v y _ hy=>by simp at hy
   | cons q r=>simp[D.bare]at d
 | ptr=>simp[D.bare]at d
 | agg=>simp[D.bare]at d
 | nil a sz=>exact .nil a sz
 | emp a cap sz=>exact .emp a cap sz
 | list b off cap sz xs c e=>cases xs with
   | nil=>exact absurd rfl e
   | cons q r=>simp[D.bare]at d
theorem N0(h:SimB X G β S a w){cs:List C}{K:List D->Bx->Prop}(hy:Ef (σOf S) cs λl b=>PD l λl=>K l b) :
 ∃l b,K l b/\FZ S [] b/\(∀z∈b,∃sz xs,z.2.1=.frow sz xs)/\Lj S b cs l /\
  ∀vs:List Value,vs.length=cs.length->(∀(j:Nat) v c,vs[j]?=some v->cs[j]?=some c->Ce β (AM S) (OS β X S) w v c)->Lk X G β S a w b λO=>B3 O w vs l:=by
 obtain⟨l,b,hK,i,f,k,m,p⟩:=Kg h hy;rw[UV]at hK;refine⟨_,b,hK,i,f,⟨by simp[k],λj c y g e=>?_⟩,λvs r hr=>(p vs r hr).mono (λ_ h=>h) λO h=>h.norm⟩;simp only[tr]at e
 cases hz:l[j]? with
 | none=>simp[hz]at e
 | some z =>
   simp[hz]at e;subst e;have:=m j c z g hz
   cases c with
   | d q=>rw[this]
   | sl id n =>
     obtain⟨sz,xs,s,t,u⟩:=this;exact⟨sz,xs,by rw[s];rfl,t,u⟩
   | own _ _ _=>exact this
theorem Sx{b:Bx}{T:AS}(p:Fr S b T)(h:SimB X G β T a w){cs:List C}{l:List D}(i:Lj S b cs l){vals:List Value}(r:vals.length=cs.length)(s:∀(j:Nat) v c,vals[j]?=some v->cs[j]?=some c->Ce β (AM T) (OS β X T) w v c) :
 B3 (OS β X T) w vals l:=by
 refine⟨by rw[r];exact i.1,λj v z A x=>?_⟩;have y:j<cs.length:=by rw[i.1];exact A7 x
 have f:=s j v cs[j] A (P3 y);have g:=i.2 j cs[j] z (P3 y) x;generalize cs[j]=c at f g
 cases c with
 | d q=>rw[g];exact⟨f.1.norm1,SE q f.2⟩
 | sl id n =>
   obtain⟨sz,xs,B,E,k⟩:=g
   have t:(Ai T id).box=.frow sz xs:=by
    rcases k with⟨_,k⟩|k
    ·exact p.mem _ k
    ·rw[p.keepF id (by rw[k];rfl)];exact k
   have m:=h.boxes id;rw[t]at m;have u:=f.2 (by simp only[AM];rw[p.ver];exact E.symm);rw[B,u];exact⟨m,rfl⟩
 | own sz e xs=>exact g.elim
theorem Ma(h:SimB X G β S a w){r:RV}{v:Value}(hr:Ps β (OS β X S) S w v r){K:AV->Bx->Prop}(hy:Nx (σOf S) r K) :
 ∃y b,K y b/\FZ S [] b/\y.mut=false/\Lk X G β S a w b λO=>Pr O w v y:=by
 cases r<;>simp only[Nx]at hy
 case any=>exact⟨_,[],hy,trivial,rfl,λ_ _ _ _ _=>trivial⟩
 case d y =>
  rw[NS]at hy;exact⟨_,[],hy,trivial,rfl,λB _ _ _ hk=>(Ax.mono (B7.of_sub hk) hr).norm⟩
 case lim sz xs=>exact⟨_,[],hy,trivial,rfl,λB _ _ _ hk=>Ax.mono (B7.of_sub hk) hr.1⟩
 case vptr id n off cs =>
  obtain⟨l,b,hK,H,I,s,hh⟩:=N0 h hy;rw[BN]at hK;obtain⟨q,C,J,D,L⟩:=hr;have M:FZ S [] (b++[(id,.fvar l,n)]):=H.snoc ⟨C,.inr (.inl ⟨cs,l,q,rfl,by simpa using s⟩)⟩;refine⟨_,_,hK,M,rfl,λB t p u hk=>?_⟩;have f:=u.boxes id;rw[p.mem (id,.fvar l,n) (t _ (by simp))]at f;obtain⟨V,_⟩:=f;rw[D]at V;have:=V.drop off;rw[tE]at this;show Ax _ _ _ _;rw[L];exact this
 case row id n sz e xs =>
  obtain⟨q,C,D⟩:=hr;refine⟨_,_,hy,⟨⟨C,.inl ⟨sz,e,xs,q,rfl⟩⟩,trivial⟩,rfl,λB t p u hk=>?_⟩;have f:=u.boxes id;rw[p.mem (id,.frow sz xs,n) (t _ (by simp))]at f;show Ax _ _ _ _;rw[D];exact f
 case eptr id n sz e xs i off =>
  obtain⟨q,C,J,m,cap,D,L⟩:=hr;obtain⟨_,y,k,hK⟩:=hy.go;simp only[tu]at k;rw[BN]at hK;refine⟨_,_,hK,⟨⟨C,.inl ⟨sz,e,xs,q,rfl⟩⟩,trivial⟩,rfl,λB t p u hk=>?_⟩;have f:=u.boxes id;rw[p.mem (id,.frow sz xs,n) (t _ (by simp))]at f;show Ax _ _ _ _;have f:Ax _ _ _ _:=f;rw[D]at f;rw[L];generalize E:Value.slice (some ⟨J,0,none⟩) m cap=vv at f
  cases f with
  | emp=>simp at k
  | list b' W Y _ _ c hne hb hO Z hszs N A g =>
    simp at E;obtain⟨⟨rfl,rfl⟩,_,_⟩:=E;have:=Ax.ptr (O:=OS β X (Bj B S)) (w:=w) J (0+i*sz) y.cells (λj=>c i j) (λ_=>hb) (λ_=>hO) (λz F=>N y (tz k) z F) (λj z F=>A _ _ _ _ k F) (λj z F=>g _ _ _ _ k F);have:=this.drop off
    rwa [tE]at this
 case cagg cs =>
  obtain⟨l,b,hK,H,I,s,hh⟩:=N0 h hy;obtain⟨us,hu,Q,R⟩:=hr;refine⟨_,_,hK,H,rfl,λB t p u hk=>?_⟩
  have g:=Sx p u (s.mono t) (vals:=us.toList) (by simpa using Q) (λj v c T hc=>by
   have:=(R j v c (by simpa using T) hc).1
   cases c with
   | d x=>exact⟨this.1.mono (B7.of_sub hk),this.2⟩
   | sl id n=>exact⟨by have q:=this.1;simp only[AM]at q ⊢;rw[p.ver];exact q,λe=>this.2 (by simp only[AM]at e ⊢;rw[p.ver]at e;exact e)⟩
   | own _ _ _=>exact this)
  show Ax _ _ _ _;rw[hu]
  exact .agg us l (by have:=g.1;simpa using this) (λy hy=>by
   obtain⟨j,hj,rfl⟩:=List.mem_iff_getElem.1 hy;have U:j<us.size:=by have:=g.1;simp at this;omega
   exact(g.2 j us[j] l[j] (by simp[U]) (P3 hj)).2) λi v x T hx=>(g.2 i v x (by simpa using T) hx).1
theorem WS{t:TypeId}{K:AV->Prop}(hy:ZV P t K):∃y,K (.d y)/\∀(O:Nat->Prop)(w:World),Ax O w (.slice none 0 0) y:=by
 unfold ZV at hy;split at hy
 ·exact⟨_,hy,λ_ _=>.emp _ _ _⟩
 ·exact hy.elim
theorem MH(h:SimB X G β S a w){g:Option (Nat×Bool)}(l:BW g a):∀{args:List Operand}{ts:List TypeId}{K:List AV->Bx->Prop},Iw P (σOf S) (ρOf S g) args ts K ->
 ∃vs b,K vs b/\FZ S [] b/\vs.length=args.length/\Lk X G β S a w b λO=>∀(i:Nat) p y,args[i]?=some p->vs[i]?=some y->Pr O w (a.eval p) y
 | [],ts,K,hy=>⟨[],[],hy,trivial,rfl,λ_ _ _ _ _ i p y hp _=>by simp at hp⟩
 | q :: r,ts,K,hy=>by
   unfold Iw at hy;split at hy
   ·rename_i j
    cases ts with
    | nil=>exact hy.elim
    | cons t ts =>
      obtain⟨y,hy,d⟩:=WS hy;obtain⟨vs,n,hK,e,m,c⟩:=MH h l hy;refine⟨_,_,hK,e,by simp[m],c.mono (λ_ h=>h) λO k i p z hp f=>?_⟩
      cases i with
      | zero=>simp at hp f;subst hp;subst f;rw[P8 j];exact d O w
      | succ i=>exact k i p z (by simpa using hp) (by simpa using f)
   ·obtain⟨y,b,hK,s,_,d⟩:=Ma h (ρ_sound h l q) hy;obtain⟨vs,n,hK,e,m,c⟩:=MH h l hK;refine⟨_,_,hK,s.append e,by simp[m],(d.and c).mono (λ_ h=>h) λO k i p z hp f=>?_⟩
    cases i with
    | zero=>simp at hp f;subst hp;subst f;exact k.1
    | succ i=>exact k.2 i p z (by simpa using hp) (by simpa using f)
def X0(β:Nat->Value)(O:Nat->Prop)(w:World)(S:AS)(b:Bx)(v:Value)(id n:Nat):AV->Prop
 | .own sz e xs=>(Ai S id).box=.row sz e xs/\(Ai S id).ver=n/\v=β id
 | .optr l=>∃cs,(Ai S id).box=.var cs/\(Ai S id).ver=n/\v=β id/\Lj S b cs l
 | .cc k l=>k=none/\∃(vs:Array Value)(ds:List D)(sz:Nat)(e:TypeId)(xs:List D),l=ds.map .d++[.own sz e xs]/\v=.agg (vs.push (β id))/\B3 O w vs.toList ds/\(Ai S id).box=.row sz e xs/\(Ai S id).ver=n
 | _=>False
theorem X0.mono{O:Nat->Prop}{b c:Bx}(d:∀y∈b,y∈c){v:Value}{id n:Nat}{y:AV}(h:X0 β O w S b v id n y):X0 β O w S c v id n y:=by
 cases y<;>first|exact h|(obtain⟨cs,e,f,g,i⟩:=h;exact⟨cs,e,f,g,i.mono d⟩)
theorem σ_row{id n id' n' sz:Nat}{e:TypeId}{xs:List D}(h:σOf S id n=.row id' n' sz e xs):id'=id/\n'=n/\(Ai S id).box=.row sz e xs/\(Ai S id).ver=n:=by
 simp only[σOf,res]at h;generalize Ai S id=s at h;obtain⟨d,b,m⟩:=s
 cases b<;>simp only at h<;>try (cases h;done)
 all_goals (split at h<;>cases h)
 rename_i c
 exact⟨rfl,rfl,rfl,c.symm⟩
theorem X6:∀{cs:List C}{K:List C->Nat->Nat->Prop},SQ (σOf S) cs K->∀{vs:List Value},vs.length=cs.length ->
 (∀(i:Nat) u x,vs[i]?=some u->cs[i]?=some x->Ce β (AM S) (OS β X S) w u x/\u.oneCell'=true) ->
 ∃l id n,K l id n/\∃(us:List Value)(ds:List D)(sz:Nat)(e:TypeId)(xs:List D),l=ds.map .d++[.own sz e xs]/\vs=us++[β id]/\B3 (OS β X S) w us ds/\(Ai S id).box=.row sz e xs/\(Ai S id).ver=n
 | [],_,hy,_,_,_=>hy.elim
 | .d x :: r,K,hy,vs,hl,hc=>by
   simp only[SQ,NS]at hy
   cases vs with
   | nil=>simp at hl
   | cons v vs =>
     obtain⟨l,id,n,hK,us,ds,sz,e,xs,f,g,b,h4⟩:=X6 hy (vs:=vs) (by simpa using hl) λi u x c hx=>hc (i+1) u x (by simpa using c) (by simpa using hx);have d:=(hc 0 v (.d x) rfl rfl).1;refine⟨_,id,n,hK,v :: us,_ :: ds,sz,e,xs,by rw[f];rfl,by rw[g];rfl,⟨by simp[b.1],λj u y c hy=>?_⟩,h4⟩
     cases j with
     | zero=>simp at c hy;subst c;subst hy;exact⟨d.1.norm,by cases x<;>first|rfl|exact d.2⟩
     | succ j=>exact b.2 j u y (by simpa using c) (by simpa using hy)
 | .sl id n :: r,K,hy,vs,hl,hc=>by
   simp only[SQ]at hy;split at hy
   ·split at hy
    ·rename_i h k sz e xs hr
     match vs,hl with
     | [v],_ =>
       have d:=(hc 0 v (.sl id n) rfl rfl).1;have f:=σ_row hr;obtain⟨rfl,rfl,g,b⟩:=f;exact⟨_,_,_,hy,[],[],sz,e,xs,rfl,by rw[d.2 b.symm];rfl,B3.nil,g,b⟩
    ·exact hy.elim
   ·exact hy.elim
 | .own _ _ _ :: _,_,hy,_,_,_=>hy.elim
theorem bG(h:SimB X G β S a w){r:RV}{v:Value}(hr:Ps β (OS β X S) S w v r){K:AV->Bx->Option (Nat×Nat)->Prop}(hy:Ue (σOf S) r K) :
 ∃y b u,K y b u/\FZ S [] b/\match u with
  | none=>y.mut=false/\Lk X G β S a w b λO=>Pr O w v y
  | some (id,n)=>X0 β (OS β X S) w S b v id n y:=by
 unfold Ue at hy;split at hy
 ·rename_i id n sz e xs
  exact⟨_,[],some (id,n),hy,trivial,hr⟩
 ·rename_i id n cs
  obtain⟨l,b,hK,d,q,f,A⟩:=N0 h hy;obtain⟨g,j,B,k,m⟩:=hr;exact⟨_,b,some (id,n),hK,d,cs,g,j,by rw[m,k],f⟩
 ·rename_i cs
  split at hy
  ·obtain⟨vs,rfl,s,t⟩:=hr;obtain⟨l,id,n,hK,us,ds,sz,e,xs,g,j,k,m,h5⟩:=X6 hy (vs:=vs.toList) (by simpa using s) λi u x z hx=>t i u x (by simpa using z) hx;exact⟨_,[],some (id,n),hK,trivial,rfl,us.toArray,ds,sz,e,xs,g,by rw[show vs=us.toArray.push (β id)from by apply Array.ext';simp[j]],by simpa using k,m,h5⟩
  ·obtain⟨y,b,hK,d,p,c⟩:=Ma h hr hy;exact⟨y,b,none,hK,d,p,c⟩
 ·obtain⟨y,b,hK,d,p,c⟩:=Ma h hr hy;exact⟨y,b,none,hK,d,p,c⟩
theorem Pa(h:SimB X G β S a w){g:Option (Nat×Bool)}(x:BW g a):∀{args:List Operand}{ts:List TypeId}{K:List AV->Bx->List (Option (Nat×Nat))->Prop},Ho P (σOf S) (ρOf S g) args ts K ->
 ∃vs b us,K vs b us/\FZ S [] b/\vs.length=args.length/\us.length=args.length /\
  (∀(i:Nat) p y id n,args[i]?=some p->vs[i]?=some y->us[i]?=some (some (id,n))->X0 β (OS β X S) w S b (a.eval p) id n y) /\
  (∀(i:Nat) y,vs[i]?=some y->us[i]?=some none->y.mut=false) /\
  Lk X G β S a w b λO=>∀(i:Nat) p y,args[i]?=some p->vs[i]?=some y->us[i]?=some none->Pr O w (a.eval p) y
 | [],ts,K,hy=>⟨[],[],[],hy,trivial,rfl,rfl,(λi p y id n hp=>by simp at hp),(λi y hy=>by simp at hy),λ_ _ _ _ _ i p y hp _=>by simp at hp⟩
 | q :: r,ts,K,hy=>by
   unfold Ho at hy;split at hy
   ·rename_i s
    cases ts with
    | nil=>exact hy.elim
    | cons t ts =>
      obtain⟨y,hy,v⟩:=WS hy;obtain⟨vs,F,us,hK,k,A,l,f,m,e⟩:=Pa h x hy;refine⟨_,_,_,hK,k,by simp[A],by simp[l],λi p z id n hp d j=>?_,λi z d j=>?_,e.mono (λ_ h=>h) λO H i p z hp d j=>?_⟩
      ·cases i with
       | zero=>simp at j
       | succ i=>exact f i p z id n (by simpa using hp) (by simpa using d) (by simpa using j)
      ·cases i with
       | zero=>simp at d;subst d;rfl
       | succ i=>exact m i z (by simpa using d) (by simpa using j)
      ·cases i with
       | zero=>simp at hp d;subst hp;subst d;rw[P8 s];exact v O w
       | succ i=>exact H i p z (by simpa using hp) (by simpa using d) (by simpa using j)
   ·obtain⟨y,b,u,hK,I,j⟩:=bG h (ρ_sound h x q) hy;obtain⟨vs,F,us,hK,k,A,l,f,m,e⟩:=Pa h x hK;refine⟨_,_,_,hK,I.append k,by simp[A],by simp[l],λi p z id n hp d c=>?_,λi z d c=>?_,?_⟩
    ·cases i with
     | zero=>simp at hp d c;subst hp;subst d;subst c;exact j.mono λy hy=>by simp[hy]
     | succ i=>exact(f i p z id n (by simpa using hp) (by simpa using d) (by simpa using c)).mono λy hy=>by simp[hy]
    ·cases i with
     | zero=>simp at d c;subst d;subst c;exact j.1
     | succ i=>exact m i z (by simpa using d) (by simpa using c)
    ·intro B C D E hk i p z hp d c
     cases i with
     | zero=>simp at hp d c;subst hp;subst d;subst c;exact j.2 B (λy hy=>C y (by simp[hy])) D E hk
     | succ i=>exact e B (λy hy=>C y (by simp[hy])) D E hk i p z (by simpa using hp) (by simpa using d) (by simpa using c)
theorem U6(h:SimB X G β S a w){g:Option (Nat×Bool)}(j:BW g a):∀{args:List Operand}{K:List D->Bx->Prop},JA (σOf S) (ρOf S g) args K ->
 ∃l b,K l b/\FZ S [] b/\l.length=args.length/\(∀y∈l,y.one=true)/\Lk X G β S a w b λO=>∀(i:Nat) p y,args[i]?=some p->l[i]?=some y->Ax O w (a.eval p) y
 | [],K,hy=>⟨[],[],hy,trivial,rfl,(λ_ h=>by cases h),λ_ _ _ _ _ i p y hp _=>by simp at hp⟩
 | q :: r,K,hy=>by
   unfold JA at hy;obtain⟨y,b,hK,m,_,e⟩:=Ma h (ρ_sound h j q) hy;split at hK
   ·rename_i t
    obtain⟨n,hK⟩:=Al hK;obtain⟨l,u,hK,f,s,ho,c⟩:=U6 h j hK;refine⟨_,_,hK,m.append f,by simp[s],λz d=>?_,(e.and c).mono (λ_ h=>h) λO k i p z hp d=>?_⟩
    ·rcases List.mem_cons.1 d with rfl|d
     ·exact n
     ·exact ho z d
    ·cases i with
     | zero=>simp at hp d;subst hp;subst d;exact k.1
     | succ i=>exact k.2 i p z (by simpa using hp) (by simpa using d)
   ·exact hK.elim
theorem ZD(h:SimB X G β S a w){g:Option (Nat×Bool)}(m:BW g a){f:FuncId}{first caps:Array Operand}(ho:o.op=.makeFunc (.func f) first caps)(r:first.toList=[]){K:Hy->Prop}
 (hy:JA (σOf S) (ρOf S g) caps.toList λl b=>K ⟨.d (.fn f l),b,[]⟩):∃e,K e/\Dx P X G S a w o e:=by
 obtain⟨l,b,hK,k,n,j,c⟩:=U6 h m hy;obtain⟨q,_,_⟩:=k.run h;have hr:=c.now h k;refine⟨_,hK,.inl ⟨.func (.func f) #[] (caps.map a.eval),w,?_,β,q,?_,rfl⟩⟩
 ·have:first=#[]:=by cases first;simp_all
  simp[execOp,ho,Instr.makeFunc,this]
 ·refine .fn f _ _ (by simp[n]) j λi v y d hy=>?_;rw[Array.getElem?_map]at d
  cases hc:caps[i]? with
  | none=>simp[hc]at d
  | some p=>simp[hc]at d;subst d;exact hr i p y (by simpa using hc) hy
theorem Jc{f:FuncId}(b:Ft P f=true)(args:Array Value):(callFunc f args).run P w=.ok (.enter f args) w:=by
 unfold Ft at b;split at b
 ·rename_i fn c
  simp only[uh,wz]at b;have d:fn.body.isNone=false:=by cases hfb:fn.body<;>simp[hfb]at b ⊢
  simp only[callFunc,Sem.run_bind,run_program,Result.andThen_ok,c];simp only[b.1,d,uk,if_false,Sem.run_pure]
 ·cases b
theorem U3:∀(l:List D)(K:List AV->Prop),XD l K=K (l.map .d)
 | [],_=>rfl
 | x :: r,K=>by rw[XD,U3 r];rfl
theorem SK:∀(b:Bx)(S:AS)(i:Nat),(∀y∈b,y.1<S.length)->(b.map (·.1)).Nodup->Ai (Bj b S) i=match b.find? (λy=>y.1==i)with|some y=>⟨(Ai S i).av,y.2.1,y.2.2⟩|none=>Ai S i
 | [],_,_,_,_=>rfl
 | (id,B,n) :: r,S,i,hl,hn=>by
   simp only[tg,List.nodup_cons]at hn;have hid:id<S.length:=hl (id,B,n) (by simp);simp only[Bj];rw[SK r _ i (λy hy=>by rw[Dc];exact hl y (by simp[hy])) hn.2,JZ hid];by_cases d:id=i
   ·subst d
    have c:r.find? (λy=>y.1==id)=none:=by
     rw[vK];intro y hy f;simp at f;exact hn.1 (List.mem_map.2 ⟨y,hy,f⟩)
    rw[c];simp
   ·have e:¬i=id:=λh=>d h.symm;have g:(id==i)=false:=by simp[d]
    simp only[List.find?_cons,g,e,if_false]
end
def Wg(A:Nat->Prop)(w:World)(v:Value):BA->Prop
 | .row sz e xs=>0<sz/\(∀x∈xs,x.cells.length=sz)/\∃vals,B0 w e sz v xs.length vals/\B3 A w vals (xs.flatMap D.cells)
 | .var cs=>∃ds,cs=ds.map .d/\fF A w v ds
 | _=>False
abbrev RB:=List (Nat×BA×Nat×Value)
def SV(r:RB):Bx:=r.map λy=>(y.1,y.2.1,y.2.2.1)
def js(β:Nat->Value)(r:RB)(i:Nat):Value:=match List.find? (λy=>y.1==i) r with|some y=>y.2.2.2|none=>β i
section
variable {P:Program} {X:Cx} {G:Nat->Prop} {β:Nat->Value} {S:AS} {a:Act} {w:World} {o:Oper}
theorem Wg.rep{A:Nat->Prop}{v:Value}{B:BA}(h:Wg A w v B){O:Nat->Prop}(k:∀b,O b->A b){β:Nat->Value}{n:Nat->Nat}{i:Nat}(l:β i=v):Jh β n O w i B:=by
 cases B with
 | none=>trivial
 | row sz e xs =>
   obtain⟨f,g,vals,d,m⟩:=h;exact⟨f,g,vals,by rw[l];exact d,m.mono (B7.of_sub k)⟩
 | var cs =>
   obtain⟨ds,rfl,b,vals,T,f,g,d⟩:=h;exact⟨b,vals,T,by rw[l];exact f,g,by have:=d.1;simpa using this,λj v c q p=>(d.mono (B7.of_sub k)).cells j v c (by grind) p⟩
 | fvar cs=>exact h.elim
 | frow sz xs=>exact h.elim
 | map es=>exact h.elim
theorem S3{α:Type}{l:List α}{p:α->Bool}{y:α}(h:l.find? p=some y):y∈l/\p y=true:=by grind
theorem SD:∀{l:Bx},(l.map (·.1)).Nodup->∀{y z:Nat×BA×Nat},y∈l->z∈l->y.1=z.1->y=z
 | [],_,_,_,h,_,_=>by cases h
 | q :: r,hn,y,z,hy,b,e=>by
   simp only[tg,List.nodup_cons]at hn;rcases List.mem_cons.1 hy with hy|hy<;>rcases List.mem_cons.1 b with b|b
   ·grind
   ·grind
   ·grind
   ·exact SD hn.2 hy b e
theorem Ug(h:SimB X G β S a w){ub:Bx}{rb:RB}{w':World}(g:((ub++SV rb).map (·.1)).Nodup)(Y:∀y∈ub++SV rb,y.1<S.length)
 (c:∀y∈ub,(Ai S y.1).box.owned=true/\((y.2.1.owned=true/\y.2.2=(Ai S y.1).ver)\/(y.2.1=.none/\(Ai S y.1).ver<y.2.2)))
 (hrb:∀y:Nat×BA×Nat×Value,y∈rb->y.2.1.owned=true/\(Ai S y.1).ver<y.2.2.1)
 (Z:AA w.heap.size (λb=>∃y∈ub,Af (β y.1)=some b) w w') (A:Nat->Prop)
 (H:∀b,OS β X S b->(∀y∈ub,Af (β y.1)≠some b)->A b) (hA2:∀b,∀y∈ub,y.2.1.owned=true->Af (β y.1)=some b->A b) (hA3:∀b,∀y:Nat×BA×Nat×Value,y∈rb->Af y.2.2.2=some b->A b)
 (l:∀y:Nat×BA×Nat×Value,y∈rb->∀b,Af y.2.2.2=some b->w.heap.size<=b\/∃z∈ub,z.2.1=.none/\Af (β z.1)=some b)
 (I:∀y z:Nat×BA×Nat×Value,y∈rb->z∈rb->∀b,Af y.2.2.2=some b->Af z.2.2.2=some b->y.1=z.1)
 (hubox:∀y∈ub,y.2.1.owned=true->Wg A w' (β y.1) y.2.1) (hrbox:∀y:Nat×BA×Nat×Value,y∈rb->Wg A w' y.2.2.2 y.2.1) :
 SimB X G (js β rb) (Bj (ub++SV rb) S) a w'/\(∀b,OS (js β rb) X (Bj (ub++SV rb) S) b->A b):=by
 have hsg:=λi=>SK (ub++SV rb) S i Y g
 have hfr:∀i,List.find? (λy=>y.1==i) (SV rb)=(List.find? (λy=>y.1==i) rb).map λy=>(y.1,y.2.1,y.2.2.1):=by
  intro i;unfold SV;rw[List.find?_map];rfl
 let E:Nat->Option (BA×Nat×Value):=λi=>match List.find? (λy=>y.1==i) ub with
  | some y=>some (y.2.1,y.2.2,β i)
  | none=>match List.find? (λy=>y.1==i) rb with
    | some y=>some (y.2.1,y.2.2.1,y.2.2.2)
    | none=>none
 have m:∀i B n v,E i=some (B,n,v)->(∃y∈ub,y.1=i/\B=y.2.1/\n=y.2.2/\v=β i)\/(∃y,y∈rb/\y.1=i/\B=y.2.1/\n=y.2.2.1/\v=y.2.2.2):=by grind
 have T:∀y∈ub,∃B n v,E y.1=some (B,n,v):=by
  intro y hy;simp only[E]
  cases hf:List.find? (λz=>z.1==y.1) ub with
  | some z=>grind
  | none=>grind
 have hdis:∀y∈ub,∀z,z∈rb->y.1≠z.1:=by
  intro y hy z d e;rw[tA,v7]at g;refine g.2.2 y.1 (List.mem_map.2 ⟨y,hy,rfl⟩) z.1 ?_ e;exact List.mem_map.2 ⟨(z.1,z.2.1,z.2.2.1),List.mem_map.2 ⟨z,d,rfl⟩,rfl⟩
 have J:∀y∈ub,∀z∈ub,y.1=z.1->y=z:=by
  intro y hy z d e;rw[tA,v7]at g;exact SD g.1 hy d e
 have hS:∀i,Ai (Bj (ub++SV rb) S) i=match E i with|some (B,n,_)=>⟨(Ai S i).av,B,n⟩|none=>Ai S i:=by
  intro i;rw[hsg i,List.find?_append,hfr];simp only[E]
  cases List.find? (λy=>y.1==i) ub with
  | some y=>rfl
  | none=>grind
 have hβ:∀i,js β rb i=match E i with|some (_,_,v)=>v|none=>β i:=by
  intro i;simp only[js,E];grind
 have K:∀b,OS (js β rb) X (Bj (ub++SV rb) S) b->A b:=by
  intro b s;rcases s with s|s|⟨i,V,W⟩
  ·refine H b (.inl s) λy hy f=>?_;have:=h.o₀ b s;rcases(h.mine y.1 b (c y hy).1 f).1 with O|O
   ·omega
   ·grind
  ·exact H b (.inr (.inl s)) λy hy f=>(h.mine y.1 b (c y hy).1 f).2 s
  ·rw[hS]at V;rw[hβ]at W
   cases L:E i with
   | none =>
     rw[L]at V W;refine H b (.inr (.inr ⟨i,V,W⟩)) λy hy f=>?_;have:=h.inj i y.1 b V (c y hy).1 W f;grind
   | some q=>grind
 refine⟨h.multi E hS hβ (Cp _ _) Z.size (Z.weaken h.hbase λk hk hm hh=>?_) ?_ ?_ ?_ ?_ ?_,K⟩
 ·obtain⟨y,hy,f⟩:=hh;rcases(h.mine y.1 k (c y hy).1 f).1 with O|O
  ·omega
  ·grind
 ·intro i B n v L;rcases m i B n v L with⟨y,hy,rfl,r,t,p⟩|⟨y,hy,rfl,r,t,p⟩
  ·rcases(c y hy).2 with⟨_,M⟩|⟨_,M⟩
   ·exact .inr ⟨by rw[t,M],p,λhh=>by have:=(c y hy).1;rw[hh]at this;cases this⟩
   ·grind
  ·grind
 ·intro b s hno;refine Z.block b s λ⟨y,hy,f⟩=>?_;grind
 ·intro i B n v b L Q R;rcases m i B n v L with⟨y,hy,rfl,r,t,p⟩|⟨y,hy,rfl,r,t,p⟩
  ·grind
  ·rcases l y hy b (by grind)with M|⟨z,d,_,hzb⟩
   ·grind
   ·obtain⟨D,F,u,hEz⟩:=T z d;grind
 ·intro i j B n v D F u b x C Q hB' R N
  have key:∀i j B n v D F u,E i=some (B,n,v)->E j=some (D,F,u)->B.owned=true->Af v=some b->Af u=some b->(∃y∈ub,y.1=i/\B=y.2.1/\n=y.2.2/\v=β i)->(∃y,y∈rb/\y.1=j/\D=y.2.1/\F=y.2.2.1/\u=y.2.2.2)->False:=by
   intro i j B n v D F u x C Q R N ⟨y,hy,O,r,t,p⟩ ⟨z,d,k3,k4,k5,k6⟩;have U:Af (β y.1)=some b:=by grind
   rcases l z d b (by grind)with M|⟨q,hq,hqn,hqb⟩
   ·have:=h.blk (c y hy).1 U;omega
   ·have:=h.inj y.1 q.1 b (c y hy).1 (c q hq).1 U hqb;have e:=J y hy q hq this;rw[r,e,hqn]at Q
    cases Q
  rcases m i B n v x with hy|hy<;>rcases m j D F u C with d|d
  ·obtain⟨y,hy,rfl,r,t,p⟩:=hy;obtain⟨z,d,rfl,k4,k5,k6⟩:=d;exact h.inj y.1 z.1 b (c y hy).1 (c z d).1 (by rw[<-p];exact R) (by grind)
  ·exact(key i j B n v D F u x C Q R N hy d).elim
  ·exact(key j i D F u B n v C x hB' N R d hy).elim
  ·obtain⟨y,hy,rfl,r,t,p⟩:=hy;obtain⟨z,d,rfl,k4,k5,k6⟩:=d;exact I y z hy d b (by rw[<-p];exact R) (by grind)
 ·intro k hvv i B n v L;rcases m i B n v L with⟨y,hy,O,r,t,p⟩|⟨y,hy,O,r,t,p⟩
  ·by_cases Q:B.owned=true
   ·refine Wg.rep (v:=β y.1) (by grind) K ?_;grind
   ·rcases(c y hy).2 with⟨M,_⟩|⟨M,_⟩
    ·grind
    ·rw[r,M];trivial
  ·refine Wg.rep (v:=y.2.2.2) (by grind) K ?_;grind
theorem Rx:∀{xs:List C}{f:List (Nat×Nat)}{K:List C->Bx->Prop},Tl xs f K ->
 ∃l b,K l b/\l.length=xs.length/\(b.map (·.1)).Nodup/\(b.map λy=>(y.1,y.2.2))=f /\
  (∀(i:Nat) c c',xs[i]?=some c->l[i]?=some c'->match c with
   | .d y=>c'=.d y
   | .own sz e ys=>∃h n,c'=.sl h n/\(h,BA.row sz e ys,n)∈b
   | .sl _ _=>False) /\
  (∀y∈b,∃(i:Nat)(sz:Nat)(e:TypeId)(ys:List D),xs[i]?=some (.own sz e ys)/\l[i]?=some (.sl y.1 y.2.2)/\y.2.1=.row sz e ys) /\
  (∀(i j h n g:Nat),l[i]?=some (.sl h n)->l[j]?=some (.sl h g)->i=j)
 | [],[],K,hy=>⟨[],[],hy,rfl,by simp,rfl,(λi c c' h=>by simp at h),(λy hy=>by cases hy),λi j h n g m=>by simp at m⟩
 | [],_ :: _,K,hy=>hy.elim
 | .d x :: r,f,K,hy=>by
   have hy:Tl r f λl b=>K (.d x :: l) b:=by cases f<;>exact hy
   obtain⟨l,b,hK,m,I,v,J,z,M⟩:=Rx hy;refine⟨_,_,hK,by simp[m],I,v,λi c c' N A=>?_,λy hy=>?_,λi j h n g O B=>?_⟩
   ·grind
   ·obtain⟨i,sz,e,ys,k,p,E⟩:=z y hy;exact⟨i+1,sz,e,ys,by simpa using k,by simpa using p,E⟩
   ·grind
 | .own sz e ys :: r,[],K,hy=>hy.elim
 | .own sz e ys :: r,(h,n) :: f,K,hy=>by
   have hy:Tl r f λl b=>if FH h b=true then K (.sl h n :: l) ((h,.row sz e ys,n) :: b)else False:=hy
   obtain⟨l,b,hK,m,I,v,J,z,M⟩:=Rx hy;obtain⟨F,hK⟩:=Al hK
   have u:∀(j g:Nat),l[j]?≠some (.sl h g):=by
    intro j g B;have H:j<r.length:=by grind
    have:=J j r[j] _ (P3 H) B;generalize r[j]=q at this
    cases q with
    | d y=>cases this
    | own s L t=>obtain⟨Q,R,k,p⟩:=this;simp at k;exact Gz F _ p k.1.symm
    | sl _ _=>exact this
   refine⟨_,_,hK,by simp[m],?_,by simp[v],λi c c' N A=>?_,λy hy=>?_,λi j Q T g O B=>?_⟩
   ·grind
   ·grind
   ·rcases List.mem_cons.1 hy with rfl|hy
    ·exact⟨0,sz,e,ys,rfl,rfl,rfl⟩
    ·obtain⟨i,s,L,t,k,p,E⟩:=z y hy;exact⟨i+1,s,L,t,by simpa using k,by simpa using p,E⟩
   ·grind
 | .sl _ _ :: r,[],K,hy=>hy.elim
 | .sl _ _ :: r,_ :: _,K,hy=>hy.elim
theorem MP:∀{xs:List C},VA xs=false->∀(i:Nat) sz e ys,xs[i]?≠some (.own sz e ys)
 | [],_,i,sz,e,ys=>by simp
 | .d x :: r,h,0,sz,e,ys=>by simp
 | .d x :: r,h,i+1,sz,e,ys=>by simpa using MP (show VA r=false from h) i sz e ys
 | .sl _ _ :: r,h,0,sz,e,ys=>by simp
 | .sl _ _ :: r,h,i+1,sz,e,ys=>by simpa using MP (show VA r=false from h) i sz e ys
 | .own _ _ _ :: r,h,_,_,_,_=>by simp[VA]at h
structure qn(X:Cx)(G:Nat->Prop)(β:Nat->Value)(S:AS)(a:Act)(w:World)(ub:Bx)(A:Nat->Prop)(r:AV)(v:Value)(w':World):Prop where
 sim:SimB X G β S a w
 hub:∀y∈ub,(Ai S y.1).box.owned=true/\((y.2.1.owned=true/\y.2.2=(Ai S y.1).ver)\/(y.2.1=.none/\(Ai S y.1).ver<y.2.2))
 hw:AA w.heap.size (λb=>∃y∈ub,Af (β y.1)=some b) w w'
 hA1:∀b,OS β X S b->(∀y∈ub,Af (β y.1)≠some b)->A b
 hA2:∀b,∀y∈ub,y.2.1.owned=true->Af (β y.1)=some b->A b
 res:Dp (λb=>w.heap.size<=b\/∃z∈ub,z.2.1=.none/\Af (β z.1)=some b) A w' v r
 outs:∀y∈ub,y.2.1.owned=true->Wg (λb=>A b\/Eg v r b) w' (β y.1) y.2.1
theorem YV{rb:RB}{ub:Bx}(b:((ub++SV rb).map (·.1)).Nodup)(d:∀y∈ub++SV rb,y.1<S.length){y:Nat×BA×Nat×Value}(hy:y∈rb):AM (Bj (ub++SV rb) S) y.1=y.2.2.1/\js β rb y.1=y.2.2.2:=by
 have c:(y.1,y.2.1,y.2.2.1)∈ub++SV rb:=List.mem_append.2 (.inr (List.mem_map.2 ⟨y,hy,rfl⟩));constructor
 ·simp only[AM];rw[SK _ S y.1 d b]
  cases hf:(ub++SV rb).find? (λz=>z.1==y.1)with
  | none=>grind
  | some z =>
    have:=S3 hf;have e:=SD b this.1 c (by grind);simp only[e]
 ·unfold js
  cases hf:rb.find? (λz=>z.1==y.1)with
  | none=>grind
  | some z =>
    have h:=S3 hf;have e:z.1=y.1:=by grind
    have:z=y:=by
     rw[tA,v7]at b;have i:((SV rb).map (·.1)).Nodup:=b.2.1;clear c d b hf
     induction rb with
     | nil=>grind
     | cons q r ih =>
       simp only[SV,tg,List.nodup_cons]at i;rcases List.mem_cons.1 hy with f|f<;>rcases List.mem_cons.1 h.1 with g|g
       ·grind
       ·grind
       ·grind
       ·exact ih f ⟨g,h.2⟩ i.2
    rw[this]
theorem V9{pre ub:Bx}{S0:AS}(Q:S=Bj pre S0){d:Nat}(hd:d<S.length){dv:Nat}(hdv:(Ai S d).ver<=dv){r:AV}{K:Hy->Prop}(hnd:(ub.map (·.1)).Nodup)(R:∀y∈ub,y.1<S.length)(hy:kf d dv r (pre++ub) K)(hvp:∀i,(Ai S i).ver=(Ai S0 i).ver) :
 ∃e,K e/\∀(A:Nat->Prop) v w',qn X G β S a w ub A r v w'->Hn S0 e.homes=true->SX X G S0 a e v w':=by
 have hlen:S.length=S0.length:=by rw[Q,Cp]
 have one:∀(B:BA)(A:Nat->Prop)(v:Value)(w':World),FH d (pre++ub)=true->qn X G β S a w ub A r v w'->B.owned=true->(∀b,Af v=some b->w.heap.size<=b\/∃z∈ub,z.2.1=.none/\Af (β z.1)=some b)->(∀b,Af v=some b->Eg v r b) ->
  Wg (λb=>A b\/Eg v r b) w' v B->SimB X G (js β [(d,B,dv+1,v)]) (Bj (ub++SV [(d,B,dv+1,v)]) S) a w'/\AM (Bj (ub++SV [(d,B,dv+1,v)]) S) d=dv+1/\js β [(d,B,dv+1,v)] d=v:=by
  intro B A v w' L hp hB hmine hres hbox
  have E:((ub++SV [(d,B,dv+1,v)]).map (·.1)).Nodup:=by
   simp only[SV,tA,tg,t9];rw[v7];refine⟨hnd,by simp,λp hp q hq e=>?_⟩;simp at hq;subst hq;obtain⟨y,hy,rfl⟩:=List.mem_map.1 hp;exact Gz L y (by simp[hy]) e
  have F:∀y∈ub++SV [(d,B,dv+1,v)],y.1<S.length:=by
   intro y hy;rcases List.mem_append.1 hy with hy|hy
   ·exact R y hy
   ·simp[SV]at hy;rw[hy];exact hd
  have x:=Ug hp.sim E F hp.hub (λy hy=>by simp at hy;subst hy;exact⟨hB,by simp only;omega⟩) hp.hw (λb=>A b\/Eg v r b)
   (λb k hn=>.inl (hp.hA1 b k hn)) (λb y hy ho k=>.inl (hp.hA2 b y hy ho k)) (λb y hy k=>by simp at hy;subst hy;exact .inr (hres b k))
   (λy hy b k=>by simp at hy;subst hy;exact hmine b k) (λy z hy H b _ _=>by simp at hy H;rw[hy,H]) hp.outs (λy hy=>by simp at hy;subst hy;exact hbox)
  have J:=YV (β:=β) E F (y:=(d,B,dv+1,v)) (by simp);exact⟨x.1,J.1,J.2⟩
 have C:∀(A:Nat->Prop)(v:Value)(w':World),qn X G β S a w ub A r v w'->(∀b,¬Eg v r b)->SimB X G β (Bj ub S) a w'/\∀b,OS β X (Bj ub S) b->A b:=by
  intro A v w' hp Y
  have x:=Ug (rb:=[]) hp.sim (by simpa [SV] using hnd) (by simpa [SV] using R) hp.hub (λy hy=>by cases hy) hp.hw A hp.hA1 hp.hA2 (λb y hy=>by cases hy) (λy hy=>by cases hy) (λy z hy=>by cases hy)
   (λy hy ho=>by
    have:=hp.outs y hy ho;have e:(λb=>A b\/Eg v r b)=A:=by funext b;apply propext;exact⟨λh=>h.resolve_right (Y b),.inl⟩
    rwa [e]at this) (λy hy=>by cases hy)
  have e:js β []=β:=by funext i;rfl
  rw[e]at x
  simpa [SV] using x
 cases r with
 | own sz e xs =>
   simp only[kf]at hy;obtain⟨L,hK⟩:=Al hy;refine⟨_,hK,λA v w' hp _=>?_⟩;obtain⟨x,J,h3,vals,h4,h5⟩:=hp.res;obtain⟨I,U,N⟩:=one (.row sz e xs) A v w' L hp rfl h3 (λb k=>k) ⟨x,J,vals,h4,h5.mono (B7.of_sub λ_ _=>trivial)⟩;have ee:Bj ((pre++ub)++[(d,BA.row sz e xs,dv+1)]) S0=Bj (ub++SV [(d,.row sz e xs,dv+1,v)]) S:=by simp only[BH];rw[<-Q];rfl
   refine⟨js β [(d,.row sz e xs,dv+1,v)],?_,?_,rfl⟩
   ·simp only[ee];exact I
   ·simp only[ee];exact⟨by rw[U];exact td _,λ_=>N.symm⟩
 | cc k0 l =>
   simp only[kf]at hy;split at hy<;>try exact hy.elim
   rename_i sz e xs
   obtain⟨L,hK⟩:=Al hy;refine⟨_,hK,λA v w' hp _=>?_⟩;obtain⟨x,J,h3,vals,h4,h5⟩:Uv _ A w' v [.own sz e xs]:=hp.res;obtain⟨I,U,N⟩:=one (.row sz e xs) A v w' L hp rfl h3 (λb k=>k) ⟨x,J,vals,h4,h5⟩;have ee:Bj ((pre++ub)++[(d,BA.row sz e xs,dv+1)]) S0=Bj (ub++SV [(d,.row sz e xs,dv+1,v)]) S:=by simp only[BH];rw[<-Q];rfl
   refine⟨js β [(d,.row sz e xs,dv+1,v)],?_,?_,rfl⟩
   ·simp only[ee];exact I
   ·simp only[ee];exact⟨by rw[U];exact td _,λ_=>N.symm⟩
 | optr cs =>
   simp only[kf]at hy;obtain⟨L,hK⟩:=Al hy;rw[Q2]at hK;refine⟨_,hK,λA v w' hp _=>?_⟩;obtain⟨x,J⟩:=hp.res;obtain⟨I,U,N⟩:=one (.var (cs.map .d)) A v w' L hp rfl x (λb k=>k) ⟨cs,rfl,J⟩;have e:Bj ((pre++ub)++[(d,BA.var (cs.map .d),dv+1)]) S0=Bj (ub++SV [(d,.var (cs.map .d),dv+1,v)]) S:=by simp only[BH];rw[<-Q];rfl
   refine⟨js β [(d,.var (cs.map .d),dv+1,v)],?_,?_,rfl⟩
   ·simp only[e];exact I
   ·simp only[e];obtain⟨b,vals,T,h3,_,_⟩:=J;exact⟨by rw[U];exact td _,λ_=>⟨b,by rw[N,h3],h3⟩⟩
 | tup xs =>
   simp only[kf]at hy;split at hy
   ·rename_i Y
    refine⟨_,hy,λA v w' hp _=>?_⟩
    have hnr:∀b,¬Eg v (.tup xs) b:=by
     rintro b ⟨vs,i,u,sz,e,ys,_,_,h3,_⟩;exact MP Y i sz e ys h3
    obtain⟨x,J⟩:=C A v w' hp hnr;obtain⟨vs,hv,hl,hr,_⟩:=hp.res;refine⟨β,?_,⟨vs,hv,hl,λi u c hu hc=>?_⟩,rfl⟩
    ·simp only[BH];rw[<-Q];exact x
    ·have:=hr i u c hu hc
     cases c with
     | d y =>
       refine Ax.mono (B7.of_sub λb k=>.inl (J b ?_)) this;simp only[BH]at k;rw[<-Q]at k;exact k
     | own sz e ys=>exact absurd hc (MP Y i sz e ys)
     | sl _ _=>exact this.elim
   ·obtain⟨hs,hy⟩:=hy.go;obtain⟨l,k,hK,hl,hbn,hhs,hpt,hpb,hlinj⟩:=Rx hy;obtain⟨hall,hK⟩:=Al hK;refine⟨_,hK,λA v w' hp O=>?_⟩;obtain⟨vs,hv,hvl,hr,hri⟩:=hp.res;have hx:∀y∈k,∃(i:Nat)(sz:Nat)(e:TypeId)(ys:List D),xs[i]?=some (.own sz e ys)/\l[i]?=some (.sl y.1 y.2.2)/\y.2.1=.row sz e ys:=hpb
    have hch:∃f:Nat×BA×Nat->Value,∀y∈k,∃(i:Nat)(sz:Nat)(e:TypeId)(ys:List D),xs[i]?=some (.own sz e ys)/\l[i]?=some (.sl y.1 y.2.2)/\y.2.1=.row sz e ys/\vs[i]?=some (f y):=by
     refine⟨λy=>Classical.epsilon λu=>∃(i:Nat)(sz:Nat)(e:TypeId)(ys:List D),xs[i]?=some (.own sz e ys)/\l[i]?=some (.sl y.1 y.2.2)/\y.2.1=.row sz e ys/\vs[i]?=some u,λy g=>?_⟩;obtain⟨i,sz,e,ys,I,U,N⟩:=hx y g;have hlt:i<vs.size:=by rw[hvl];exact A7 I
     exact Classical.epsilon_spec (p:=λu=>∃(i:Nat)(sz:Nat)(e:TypeId)(ys:List D),xs[i]?=some (.own sz e ys)/\l[i]?=some (.sl y.1 y.2.2)/\y.2.1=.row sz e ys/\vs[i]?=some u) ⟨vs[i],i,sz,e,ys,I,U,N,by simp[hlt]⟩
    obtain⟨f,hf⟩:=hch;let rb:RB:=k.map λy=>(y.1,y.2.1,y.2.2,f y);have V:SV rb=k:=by simp[SV,rb,vS,Function.comp_def]
    have m:∀y,y∈rb->∃z∈k,y=(z.1,z.2.1,z.2.2,f z):=by
     intro y g;obtain⟨z,H,rfl⟩:=List.mem_map.1 g;exact⟨z,H,rfl⟩
    have E:((ub++SV rb).map (·.1)).Nodup:=by
     rw[V,tA,v7];refine⟨hnd,hbn,λp M q hq e=>?_⟩;obtain⟨y,g,rfl⟩:=List.mem_map.1 M;obtain⟨z,H,rfl⟩:=List.mem_map.1 hq;have:=List.all_eq_true.1 hall z H;exact Gz this y (by simp[g]) e
    have W:∀y∈k,y.1<S.length/\(Ai S y.1).ver<y.2.2:=by
     intro y g;have:(y.1,y.2.2)∈hs:=by rw[<-hhs];exact List.mem_map.2 ⟨y,g,rfl⟩
     have key:∀(hs:List (Nat×Nat)),Hn S0 hs=true->∀p∈hs,p.1<S0.length/\(Ai S0 p.1).ver<p.2:=by
      intro hs
      induction hs with
      | nil=>intro _ p M;cases M
      | cons q r ih =>
        intro O p M;obtain⟨q1,q2⟩:=q;simp[Hn]at O;rcases List.mem_cons.1 M with rfl|M
        ·exact⟨O.1.1,O.1.2⟩
        ·exact ih O.2 p M
     have:=key hs O _ this;exact⟨by rw[hlen];exact this.1,by rw[hvp];exact this.2⟩
    have F:∀y∈ub++SV rb,y.1<S.length:=by
     intro y g;rw[V]at g;rcases List.mem_append.1 g with g|g
     ·exact R y g
     ·exact(W y g).1
    have s:∀z∈k,∃(i:Nat)(sz:Nat)(e:TypeId)(ys:List D),xs[i]?=some (.own sz e ys)/\l[i]?=some (.sl z.1 z.2.2)/\z.2.1=.row sz e ys/\vs[i]?=some (f z)/\Vx (λb=>w.heap.size<=b\/∃z∈ub,z.2.1=.none/\Af (β z.1)=some b) w' (f z) sz e ys:=by
     intro z H;obtain⟨i,sz,e,ys,I,U,N,k4⟩:=hf z H;exact⟨i,sz,e,ys,I,U,N,k4,hr i _ _ k4 I⟩
    have x:=Ug (rb:=rb) hp.sim E F hp.hub
     (λy g=>by
      obtain⟨z,H,rfl⟩:=m y g;obtain⟨i,sz,e,ys,_,_,N,_⟩:=s z H;exact⟨by simp only[N];rfl,(W z H).2⟩) hp.hw (λb=>A b\/Eg v (.tup xs) b)
     (λb k hn=>.inl (hp.hA1 b k hn)) (λb y hy ho k=>.inl (hp.hA2 b y hy ho k))
     (λb y g hbb=>by
      obtain⟨z,H,rfl⟩:=m y g;obtain⟨i,sz,e,ys,I,_,_,k4,_⟩:=s z H;exact .inr ⟨vs,i,f z,sz,e,ys,hv,k4,I,hbb⟩)
     (λy g b hbb=>by
      obtain⟨z,H,rfl⟩:=m y g;obtain⟨i,sz,e,ys,I,_,_,k4,k5⟩:=s z H;exact k5.2.2.1 b hbb)
     (λy z g hzz b hb1 hb2=>by
      obtain⟨y',hy',rfl⟩:=m y g;obtain⟨z',hz',rfl⟩:=m z hzz;obtain⟨i,sz,e,ys,I,U,_,k4,_⟩:=s y' hy';obtain⟨j,sz2,e2,ys2,q1,q2,_,q4,_⟩:=s z' hz';have:=hri i j _ _ sz e ys sz2 e2 ys2 b k4 q4 I q1 hb1 hb2;subst this;rw[U]at q2;simp at q2;exact q2.1) hp.outs
     (λy g=>by
      obtain⟨z,H,rfl⟩:=m y g;obtain⟨i,sz,e,ys,I,_,N,k4,k5⟩:=s z H;simp only[N];obtain⟨j1,j2,j3,vals,j4,j5⟩:=k5;exact⟨j1,j2,vals,j4,j5.mono (B7.of_sub λ_ _=>trivial)⟩)
    have hee:Bj ((pre++ub)++k) S0=Bj (ub++SV rb) S:=by rw[V];simp only[BH];rw[<-Q]
    refine⟨js β rb,?_,⟨vs,hv,by rw[hl];exact hvl,λi u c hu hc=>?_⟩,rfl⟩
    ·simp only[hee];exact x.1
    ·simp only[hee];have hix:i<xs.length:=by rw[<-hl];exact A7 hc
     have hxi:xs[i]?=some xs[i]:=P3 hix;have Z:=hpt i xs[i] c hxi hc;have hr1:=hr i u xs[i] hu hxi;generalize xs[i]=q at Z hr1 hxi
     cases q with
     | d y=>subst Z;exact Ax.mono (B7.of_sub λb k=>x.2 b k) hr1
     | own sz e ys =>
       obtain⟨h,n,rfl,hmem⟩:=Z;have hy2:(h,BA.row sz e ys,n,f (h,.row sz e ys,n))∈rb:=List.mem_map.2 ⟨_,hmem,rfl⟩;have hvs:=YV (β:=β) E F hy2;obtain⟨j,sz2,e2,ys2,q1,q2,_,q4,_⟩:=s _ hmem;refine⟨by simp only at hvs;rw[hvs.1];exact td _,λ_=>?_⟩;simp only at hvs;rw[hvs.2];have hij:i=j:=hlinj i j h n n hc q2;subst hij;rw[hu]at q4;exact sY q4
     | sl _ _=>exact Z.elim
 | under t want y=>exact hy.elim
 | ptr id n off=>exact hy.elim
 | sl id n=>exact hy.elim
 | eptr id n sz i off=>exact hy.elim
 | any =>
   refine⟨_,hy,λA v w' hp _=>?_⟩;obtain⟨x,J⟩:=C A v w' hp (λb h=>h);refine⟨β,?_,trivial,rfl⟩;simp only[BH];rw[<-Q];exact x
 | bot =>
   refine⟨_,hy,λA v w' hp _=>?_⟩;exact hp.res.elim
 | d y =>
   refine⟨_,hy,λA v w' hp _=>?_⟩;obtain⟨x,J⟩:=C A v w' hp (λb h=>h);have hr:Ax A w' v y:=hp.res;refine⟨β,?_,?_,rfl⟩
   ·simp only[BH];rw[<-Q];exact x
   ·show Ax _ _ _ _;simp only[BH];rw[<-Q];exact hr.mono (B7.of_sub J)
 | lim sz xs =>
   refine⟨_,hy,λA v w' hp _=>?_⟩;obtain⟨x,J⟩:=C A v w' hp (λb h=>h);have hr:Ax A w' v (.list sz xs)/\Te v=xs.length:=hp.res;refine⟨β,?_,?_,rfl⟩
   ·simp only[BH];rw[<-Q];exact x
   ·show Ax _ _ _ _/\_;simp only[BH];rw[<-Q];exact⟨hr.1.mono (B7.of_sub J),hr.2⟩
end
section
variable {P:Program} {X:Cx} {G:Nat->Prop} {β:Nat->Value} {S:AS} {a:Act} {w:World} {o:Oper}
theorem pT{O O':Nat->Prop}{w w':World}{v:Value}{y:D}(h:Ax O w v y)(g:(AV.d y).bare=true):Ax O' w' v y:=by
 cases h with
 | agg vs xs m e h =>
   simp only[AV.bare,vg]at g;exact .agg vs xs m e λi v x t hx=>Tb (h i v x t hx) (g x (tz hx))
 | bool b=>exact .bool b
 | int k n=>exact .int k n
 | str s=>exact .str s
 | fn f vs xs m e h=>exact Tb (.fn f vs xs m e h) g
 | ptr b off cs c j r e d h=>simp[AV.bare,D.bare]at g
 | nil a sz=>exact .nil a sz
 | emp a cap sz=>exact .emp a cap sz
 | list b off cap sz xs c p j r l q e d h=>exact Tb (.list b off cap sz xs c p j r l q e d h) g
theorem Dp.bare{b O:Nat->Prop}{v:Value}{r:AV}(h:Dp b O w v r)(f:r.bare=true):Dp b (λ_=>True) w v r:=by
 cases r<;>try (simp[AV.bare]at f;done)
 case d x =>
  have k:Ax O w v x:=h;clear h;show Ax _ _ _ _;exact pT k f
 case tup xs =>
  simp only[AV.bare,vg]at f;obtain⟨vs,l,m,n,p⟩:=h;refine⟨vs,l,m,λi u c q j=>?_,p⟩;have:=n i u c q j;have g:=f c (tz j)
  cases c with
  | d y=>exact pT this (by cases y<;>exact g)
  | own sz e ys=>grind
  | sl _ _=>grind
 case own sz e xs=>exact h
theorem Dp.mono{j f O O':Nat->Prop}{v:Value}{r:AV}(q:∀b,j b->f b)(m:∀b,O' b->O b)(h:Dp j O w v r):Dp f O' w v r:=by
 cases r with
 | own sz e xs=>exact⟨h.1,h.2.1,λb g=>q b (h.2.2.1 b g),h.2.2.2⟩
 | optr cs =>
   refine⟨λb g=>q b (h.1 b g),?_⟩;obtain⟨b,vals,T,n,p,s⟩:=h.2;exact⟨b,vals,T,n,p,s.mono (B7.of_sub λb g=>g.imp (m b) (λh=>h))⟩
 | tup xs =>
   obtain⟨vs,n,p,s,t⟩:=h;refine⟨vs,n,p,λi u c z A=>?_,t⟩;have:=s i u c z A
   cases c with
   | d y=>exact Ax.mono (B7.of_sub λb g=>g.imp (m b) (λh=>h)) this
   | own sz e ys=>exact⟨this.1,this.2.1,λb g=>q b (this.2.2.1 b g),this.2.2.2⟩
   | sl _ _=>grind
 | cc B l =>
   have k:Uv j O w v l:=h;show Uv f O' w v l;unfold Uv at k ⊢;split at k<;>try exact k.elim
   exact⟨k.1,k.2.1,λb g=>q b (k.2.2.1 b g),by obtain⟨vals,n,p⟩:=k.2.2.2;exact⟨vals,n,p.mono (B7.of_sub λb g=>g.imp (m b) (λh=>h))⟩⟩
 | any=>trivial
 | d x=>exact Ax.mono (B7.of_sub m) (show Ax O w v x from h)
 | lim sz xs =>
   have k:Ax O w v (.list sz xs)/\Te v=xs.length:=h;exact⟨k.1.mono (B7.of_sub m),k.2⟩
 | bot|ptr _ _ _|sl _ _|eptr _ _ _ _ _|under _ _ _=>exact h.elim
def Z0(y:Nat×BA×Nat)(n:Nat):AV->Prop
 | .own sz e ys=>y.2.1=.row sz e ys/\y.2.2=n
 | .optr cs=>y.2.1=.var (cs.map .d)/\y.2.2=n
 | .any=>y.2.1=.none/\y.2.2=n+1
 | .cc _ l=>(∃(ds:List C)(sz:Nat)(e:TypeId)(ys:List D),l=ds++[.own sz e ys]/\y.2.1=.row sz e ys)/\y.2.2=n
 | _=>False
theorem OB:∀{l:List C}{K:Nat->TypeId->List D->Prop},WJ l K->∃(ds:List C)(sz:Nat)(e:TypeId)(ys:List D),l=ds++[.own sz e ys]/\K sz e ys
 | [],_,h=>h.elim
 | .own sz e xs :: r,K,h=>by
   simp only[WJ]at h
   cases r with
   | nil=>exact⟨[],sz,e,xs,rfl,h⟩
   | cons _ _=>exact h.elim
 | .d x :: r,K,h=>by
   obtain⟨ds,sz,e,ys,b,c⟩:=OB (l:=r) h;grind
 | .sl i n :: r,K,h=>by
   obtain⟨ds,sz,e,ys,b,c⟩:=OB (l:=r) h;grind
theorem Ng{e:TypeId}{sz n:Nat}{v:Value}{vals:List Value}(h:B0 w e sz v n vals):∃d m c,v=.slice d m c:=by
 rcases h with⟨_,⟨b,_⟩|⟨_,_,_,b,_⟩⟩|⟨_,_,_,b⟩ <;>  grind
theorem cO{vs:Array Value}{u:Value}(h:∃b m c,u=.slice b m c):Af (.agg (vs.push u))=Af u:=by
 obtain⟨b,m,c,rfl⟩:=h
 cases b<;>simp[Af]
theorem R4:∀{us:List (Option (Nat×Nat))}{f:List AV}{K:Bx->Prop},MB us f K ->
 ∃ub,K ub/\(ub.map (·.1)).Nodup/\(∀(i id n:Nat),us[i]?=some (some (id,n))->∃y∈ub,y.1=id/\∃q,f[i]?=some q/\Z0 y n q)/\(∀y∈ub,∃(i n:Nat)(q:AV),us[i]?=some (some (y.1,n))/\f[i]?=some q/\Z0 y n q) /\
  ∀(i j id n c:Nat),us[i]?=some (some (id,n))->us[j]?=some (some (id,c))->i=j
 | [],[],K,hy=>⟨[],hy,by simp,(λi id n h=>by simp at h),(λy hy=>by cases hy),λi j id n c h=>by simp at h⟩
 | [],_ :: _,K,hy=>hy.elim
 | none :: us,[],K,hy=>hy.elim
 | none :: us,q :: os,K,hy=>by
   have hy:MB us os K:=hy;obtain⟨ub,hK,g,D,s,F⟩:=R4 hy;refine⟨ub,hK,g,λi id n t=>?_,λy hy=>?_,λi j id n c t u=>?_⟩
   ·grind
   ·obtain⟨i,n,v,x,z,A⟩:=s y hy;exact⟨i+1,n,v,by simpa using x,by simpa using z,A⟩
   ·grind
 | some (id,n) :: us,[],K,hy=>hy.elim
 | some (id,n) :: us,q :: os,K,hy=>by
   have step:∀(B:BA)(m:Nat),Z0 (id,B,m) n q->(MB us os λb=>if FH id b=true then K ((id,B,m) :: b)else False)->∃ub,K ub/\(ub.map (·.1)).Nodup/\(∀(i d c:Nat),(some (id,n) :: us)[i]?=some (some (d,c))->∃y∈ub,y.1=d/\∃p,(q :: os)[i]?=some p/\Z0 y c p)/\(∀y∈ub,∃(i c:Nat)(p:AV),(some (id,n) :: us)[i]?=some (some (y.1,c))/\(q :: os)[i]?=some p/\Z0 y c p) /\
    ∀(i j d E c:Nat),(some (id,n) :: us)[i]?=some (some (d,E))->(some (id,n) :: us)[j]?=some (some (d,c))->i=j:=by
    intro B m ho hy;obtain⟨ub,hK,g,D,s,F⟩:=R4 hy;obtain⟨C,hK⟩:=Al hK
    have r:∀(j c:Nat),us[j]?≠some (some (id,c)):=by
     intro j c u;obtain⟨y,hy,e,_⟩:=D j id c u;exact Gz C y hy e
    refine⟨_,hK,?_,λi d c t=>?_,λy hy=>?_,λi j d E c t u=>?_⟩
    ·grind
    ·grind
    ·rcases List.mem_cons.1 hy with rfl|hy
     ·exact⟨0,n,q,rfl,rfl,ho⟩
     ·obtain⟨i,c,v,x,z,A⟩:=s y hy;exact⟨i+1,c,v,by simpa using x,by simpa using z,A⟩
    ·grind
   cases q<;>try exact hy.elim
   case any=>exact step .none (n+1) ⟨rfl,rfl⟩ hy
   case own sz e ys=>exact step (.row sz e ys) n ⟨rfl,rfl⟩ hy
   case optr cs =>
    have hy:cA cs λl=>MB us os λb=>if FH id b=true then K ((id,.var l,n) :: b)else False:=hy
    rw[Q2]at hy;exact step (.var (cs.map .d)) n ⟨rfl,rfl⟩ hy
   case cc k l =>
    obtain⟨ds,sz,e,ys,g,hy⟩:=OB (show WJ l _ from hy);exact step (.row sz e ys) n ⟨⟨ds,sz,e,ys,g,rfl⟩,rfl⟩ hy
theorem jf{O:Nat->Prop}{v:Value}{f:FuncId}{cs:List D}(h:Ax O w v (.fn f cs)):∃vs:Array Value,v=.func (.func f) #[] vs/\vs.size=cs.length/\∀(i:Nat) u y,vs[i]?=some u->cs[i]?=some y->Ax O w u y:=by
 cases h with
 | fn _ vs _ b c h=>grind
theorem Yz:∀{l:List Operand}{n i:Nat},i∈R3 l n->∃p,l[i-n]?=some p/\NN p=true/\n<=i
 | [],_,_,h=>by simp[R3]at h
 | x :: r,n,i,h=>by
   simp only[R3]at h
   have next:i∈R3 r (n+1)->∃p,(x :: r)[i-n]?=some p/\NN p=true/\n<=i:=by
    intro h;obtain⟨p,b,c,d⟩:=Yz h;grind
   grind
theorem ZC(h:SimB X G β S a w){g:Option (Nat×Bool)}(hg:BW g a){d:Nat}(hd:d<S.length){c:Call}(ho:o.op=.call c){fo:Operand}(hc:c.callee=.value fo){f:FuncId}{B:List D}(hf:ρOf S g fo=.d (.fn f B))
 {K:Hy->Prop} (hy:XD B λcv=>Iw P (σOf S) (ρOf S g) c.args.toList c.argTypes.toList λvs bs=>Ho P (σOf S) (ρOf S g) c.args.toList c.argTypes.toList λms mb us =>
  Iv P f (R3 c.args.toList 0) (vs++cv) (λr=>ep r bs λb=>kf d (Ai S d).ver r b K)
   (ms++cv) (λW r=>MB (us++cv.map λ_=>none) W λub=>if ub.all (λx=>FH x.1 mb)=true then kf d (Ai S d).ver r (mb++ub) K else False)) :
 ∃e,K e/\(Hn S e.homes=true->Dx P X G S a w o e):=by
 rw[U3]at hy;obtain⟨vs,bs,hy,hF,hlen,hrep⟩:=MH h hg hy;obtain⟨ms,mb,us,hK,hMF,C,J,hmut,hnm,hmrep⟩:=Pa h hg hy;have hfv:=ρ_sound h hg fo;rw[hf]at hfv;obtain⟨t,hfe,hcl,hcr⟩:=jf hfv
 have hrun:Ft P f=true->(execOp a.eval o).run P w=.ok (.enter f (c.args.map a.eval++t)) w:=by
  intro hcal;simp only[execOp,ho,resolve,hc,hfe,Deferred.ofValue,Sem.run_bind,Sem.run_pure,Result.andThen_ok,invoke];simp only[wh];rw[Jc hcal]
 have hval:∀(i:Nat) v,(c.args.map a.eval++t)[i]?=some v->(∃p,c.args.toList[i]?=some p/\v=a.eval p)\/(c.args.size<=i/\t[i-c.args.size]?=some v):=by
  intro i v O;rcases tG i c.args.size with I|I
  ·rw[tL (by simpa using I)]at O;simp[I]at O;exact .inl ⟨c.args[i],by simp[I],O.symm⟩
  ·rw[uO (by simpa using I)]at O;exact .inr ⟨I,by simpa using O⟩
 rcases hK.go with⟨r,s,hK⟩|⟨W,r,s,hK⟩
 ·
   obtain⟨h1,h2,h3⟩:=hF.run h;have hargs:=hrep.now h hF;have hsize:(c.args.map a.eval++t).size=(vs++B.map AV.d).length:=by simp[hlen,hcl]
   have hreps:∀(i:Nat) v y,(c.args.map a.eval++t)[i]?=some v->(vs++B.map AV.d)[i]?=some y->Pr (OS β X (Bj bs S)) w v y:=(λi v y O hy=>by
    rcases hval i v O with⟨p,hp,rfl⟩|⟨I,O⟩
    ·rw[tq (by rw[hlen];exact A7 hp)]at hy;exact hargs i p y hp hy
    ·rw[tj (by rw[hlen];simpa using I),hlen]at hy;simp only[tr,tK]at hy
     cases hz:B[i-c.args.size]? with
     | none=>simp[hz]at hy
     | some z=>simp[hz]at hy;subst hy;exact(hcr _ v z O hz).mono (B7.of_sub h2))
   have hrunX:∀v,(callFunc f (c.args.map a.eval++t)).run P w=.ok (.value v) w->(execOp a.eval o).run P w=.ok (.value v) w:=by
    intro v O;simp only[execOp,ho,resolve,hc,hfe,Deferred.ofValue,Sem.run_bind,Sem.run_pure,Result.andThen_ok,invoke];simp only[wh];rw[O]
   have Da:∀{e:Hy},(∀v w',Below w.heap.size w w'->Dp (λb=>w.heap.size<=b) (OS β X (Bj bs S)) w' v r->SX X G S a e v w')->Dx P X G S a w o e:=by
    intro e E;rcases s with s|s|s
    rotate_left
    rotate_left
    ·refine .inr (.inr ⟨f,_,hrun s.1,(s.2 (OS β X (Bj bs S)) w _ (λb l=>h1.os_lt l) h1.glob hsize (λi I=>?_) hreps).mono λe' w' ⟨v,h4,h5,h6⟩=>⟨v,h4,E v w' h5 h6⟩⟩);obtain⟨p,hp,hnil,_⟩:=Yz I;rw[Nat.sub_zero]at hp;have hlt:i<c.args.size:=by have:=A7 hp;simpa using this
     rw[tL (by simpa using hlt)];have:c.args[i]?=some p:=by simpa using hp
     rw[Array.getElem?_map,this,P8 hnil];rfl
    ·exact .inr (.inr ⟨f,_,hrun s.1,(s.2 (OS β X (Bj bs S)) w _ (λb l=>h1.os_lt l) h1.glob hsize hreps).mono λe' w' ⟨v,h4,h5,h6⟩=>⟨v,h4,E v w' h5 h6⟩⟩)
    ·obtain⟨v,h4,h6⟩:=s (OS β X (Bj bs S)) w _ hsize hreps;exact .inl ⟨v,w,hrunX v h4,E v w ⟨rfl,rfl,rfl,td _,λ_ _=>rfl⟩ h6⟩
   have hK':(∃A:Nat->Prop,(∀b,OS β X S b->A b)/\(∀v w',Dp (λb=>w.heap.size<=b) (OS β X (Bj bs S)) w' v r->Dp (λb=>w.heap.size<=b) A w' v r)/\kf d (Ai S d).ver r [] K)\/kf d (Ai S d).ver r bs K:=by
    unfold ep at hK;split at hK
    ·exact .inl ⟨OS β X S,λ_ h=>h,λ_ _ h=>h,hK⟩
    ·split at hK
     ·rename_i hbr;exact .inl ⟨λ_=>True,λ_ _=>trivial,λv w' h=>h.bare hbr,hK⟩
     ·exact .inr hK
   rcases hK' with⟨A,hA,hres,hK⟩|hK
   ·obtain⟨e,hKe,E⟩:=V9 (X:=X) (G:=G) (β:=β) (a:=a) (w:=w) (S:=S) (S0:=S) (pre:=[]) (ub:=[]) rfl hd (td _) (by simp) (λ_ h=>by cases h) (by simpa using hK) (λ_=>rfl);refine⟨e,hKe,λhok=>Da λv w' h5 h6=>E A v w' ⟨h,(λ_ h=>by cases h),.of h5,λb l _=>hA b l,(λb y hy=>by cases hy),?_,λy hy=>by cases hy⟩ hok⟩;exact(hres v w' h6).mono (λb l=>.inl l) (λ_ h=>h)
   ·obtain⟨e,hKe,E⟩:=V9 (X:=X) (G:=G) (β:=β) (a:=a) (w:=w) (S:=Bj bs S) (S0:=S) (pre:=bs) (ub:=[]) rfl (by rw[Cp];exact hd) (dv:=(Ai S d).ver) (by rw[h3.ver];exact td _) (by simp) (λ_ h=>by cases h) (by simpa using hK) h3.ver;refine⟨e,hKe,λhok=>Da λv w' h5 h6=>E _ v w' ⟨h1,(λ_ h=>by cases h),.of h5,λb l _=>l,(λb y hy=>by cases hy),?_,λy hy=>by cases hy⟩ hok⟩;exact h6.mono (λb l=>.inl l) (λ_ h=>h)
 ·
   obtain⟨ub,hK,hund,hu1,hu2,hu3⟩:=R4 hK;obtain⟨hnot,hK⟩:=Al hK;obtain⟨h1,h2,h3⟩:=hMF.run h;have hargs:=hmrep.now h hMF
   have hpos:∀(i id n:Nat),(us++(B.map AV.d).map λ_=>(none:Option (Nat×Nat)))[i]?=some (some (id,n))->us[i]?=some (some (id,n))/\i<c.args.size:=by
    intro i id n I;rcases tG i us.length with hl|hl
    ·rw[tq hl]at I;exact⟨I,by rw[J]at hl;simpa using hl⟩
    ·rw[tj hl]at I;simp only[tr]at I
     cases B[i-us.length]?<;>simp at I
   have L:∀(i id n:Nat),us[i]?=some (some (id,n))->(us++(B.map AV.d).map λ_=>(none:Option (Nat×Nat)))[i]?=some (some (id,n)):=by
    intro i id n I;rw[tq (A7 I)];exact I
   have Y:∀y∈ub,∃(i n:Nat)(q:AV)(p:Operand)(m:AV),us[i]?=some (some (y.1,n))/\W[i]?=some q/\Z0 y n q/\c.args.toList[i]?=some p/\ms[i]?=some m/\X0 β (OS β X S) w S mb (a.eval p) y.1 n m:=by
    intro y hy;obtain⟨i,n,q,Q,U,F⟩:=hu2 y hy;obtain⟨Q,I⟩:=hpos i y.1 n Q;have hp:c.args.toList[i]?=some c.args.toList[i]:=P3 (by simpa using I);have hm:ms[i]?=some (ms[i]'(by rw[C];simpa using I)):=P3 _;exact⟨i,n,q,_,_,Q,U,F,hp,hm,hmut i _ _ y.1 n hp hm Q⟩
   have hsame:∀y∈ub,(Ai (Bj mb S) y.1).box=(Ai S y.1).box:=λy hy=>h3.other y.1 (Gz (List.all_eq_true.1 hnot y hy))
   have hsl:∀{id sz:Nat}{e:TypeId}{xs:List D},(Ai S id).box=.row sz e xs->∃ad m c,β id=.slice ad m c:=by
    intro id sz e xs l;have M:=h.boxes id;rw[l]at M;obtain⟨_,_,vals,hr,_⟩:=M;exact Ng hr
   have V:∀{v:Value}{id n:Nat}{m:AV},X0 β (OS β X S) w S mb v id n m->Af v=Af (β id)/\(Ai S id).ver=n/\(Ai S id).box.owned=true/\m.mut=true:=by
    intro v id n m R
    cases m<;>try exact R.elim
    ·obtain⟨Q,U,F⟩:=R;exact⟨by rw[F],U,by rw[Q];rfl,rfl⟩
    ·obtain⟨cs,Q,U,F,_⟩:=R;exact⟨by rw[F],U,by rw[Q];rfl,rfl⟩
    ·obtain⟨_,vs,ds,sz,e,xs,_,F,_,Q,U⟩:=R;exact⟨by rw[F,cO (hsl Q)],U,by rw[Q];rfl,rfl⟩
   have N:∀y∈ub,(Ai (Bj mb S) y.1).box.owned=true:=by
    intro y hy;obtain⟨i,n,q,p,m,_,_,_,_,_,R⟩:=Y y hy;rw[hsame y hy];exact(V R).2.2.1
   have hMut:∀b,Ip (c.args.map a.eval++t) (ms++B.map .d) b↔∃y∈ub,Af (β y.1)=some b:=by
    intro b;constructor
    ·rintro⟨i,v,x,O,hx,hm,l⟩;rcases hval i v O with⟨p,hp,rfl⟩|⟨I,O⟩
     ·rw[tq (by rw[C];exact A7 hp)]at hx;have H:us[i]?=some (us[i]'(by rw[J];exact A7 hp)):=P3 _
      cases hq:us[i]'(by rw[J];exact A7 hp)with
      | none=>rw[hq]at H;rw[hnm i x hx H]at hm;cases hm
      | some q =>
        obtain⟨id,n⟩:=q;rw[hq]at H;obtain⟨y,hy,e,_⟩:=hu1 i id n (L i id n H);refine⟨y,hy,?_⟩;rw[e,<-(V (hmut i p x id n hp hx H)).1];exact l
     ·rw[tj (by rw[C];simpa using I)]at hx;simp only[tr]at hx
      cases hz:B[i-ms.length]? with
      | none=>simp[hz]at hx
      | some z=>simp[hz]at hx;subst hx;cases hm
    ·rintro⟨y,hy,l⟩;obtain⟨i,n,q,p,m,Q,U,F,Z,k5,k6⟩:=Y y hy;have I:i<c.args.size:=by have:=A7 Z;simpa using this
     refine⟨i,a.eval p,m,?_,by rw[tq (A7 k5)];exact k5,(V k6).2.2.2,by rw[(V k6).1];exact l⟩;rw[tL (by simpa using I)];have:c.args[i]?=some p:=by simpa using Z
     simp[this]
   have hMb:∀b,(∃y∈ub,Af (β y.1)=some b)->OS β X (Bj mb S) b:=λb ⟨y,hy,l⟩=>.inr (.inr ⟨y.1,N y hy,l⟩)
   have hcl':=s.2.2 (λb=>OS β X (Bj mb S) b/\¬∃y∈ub,Af (β y.1)=some b) w (c.args.map a.eval++t) (λb l=>h1.os_lt l.1) (λg cs hg=>(h1.glob g cs hg).mono (B7.of_sub λb l=>by
    rcases l with l|l
    ·exact l.1
    ·obtain⟨y,hy,l⟩:=(hMut b).1 l;exact .inr (.inr ⟨y.1,N y hy,l⟩))) (by simp[C,hcl]) (λb l hO=>hO.2 ((hMut b).1 l))
    (λi j v v' x y b O hv' hx hy hmx hmy l hb'=>by
     have one:∀(i:Nat) v x,(c.args.map a.eval++t)[i]?=some v->(ms++B.map .d)[i]?=some x->x.mut=true->∃id n,us[i]?=some (some (id,n))/\Af v=Af (β id):=by
      intro i v x O hx hm;rcases hval i v O with⟨p,hp,rfl⟩|⟨I,O⟩
      ·rw[tq (by rw[C];exact A7 hp)]at hx;have H:us[i]?=some (us[i]'(by rw[J];exact A7 hp)):=P3 _
       cases hq:us[i]'(by rw[J];exact A7 hp)with
       | none=>rw[hq]at H;rw[hnm i x hx H]at hm;cases hm
       | some q =>
         obtain⟨id,n⟩:=q;rw[hq]at H;exact⟨id,n,H,(V (hmut i p x id n hp hx H)).1⟩
      ·rw[tj (by rw[C];simpa using I)]at hx;simp only[tr]at hx
       cases hz:B[i-ms.length]? with
       | none=>simp[hz]at hx
       | some z=>simp[hz]at hx;subst hx;cases hm
     obtain⟨id,n,Q,ev1⟩:=one i v x O hx hmx;obtain⟨id',n',k1',ev2⟩:=one j v' y hv' hy hmy;rw[ev1]at l;rw[ev2]at hb';obtain⟨z,hz,e,_⟩:=hu1 i id n (L i id n Q);obtain⟨z',hz',e',_⟩:=hu1 j id' n' (L j id' n' k1');have:=h1.inj id id' b (by rw[<-e];exact N z hz) (by rw[<-e'];exact N z' hz') l hb';subst this;exact hu3 i j id n n' (L i id n Q) (L j id n' k1'))
    (λi v x O hx=>by
     have sub:∀b,((OS β X (Bj mb S) b/\¬∃y∈ub,Af (β y.1)=some b)\/Ip (c.args.map a.eval++t) (ms++B.map .d) b)->OS β X (Bj mb S) b:=by
      intro b l;rcases l with l|l
      ·exact l.1
      ·exact hMb b ((hMut b).1 l)
     rcases hval i v O with⟨p,hp,rfl⟩|⟨I,O⟩
     ·rw[tq (by rw[C];exact A7 hp)]at hx;have H:us[i]?=some (us[i]'(by rw[J];exact A7 hp)):=P3 _
      cases hq:us[i]'(by rw[J];exact A7 hp)with
      | none =>
        rw[hq]at H;have hC:=(hargs i p x hp hx H).mono (B7.of_sub sub);have hnm':=hnm i x hx H
        cases x<;>first|exact hC|cases hnm'
      | some q =>
        obtain⟨id,n⟩:=q;rw[hq]at H;have R:=hmut i p x id n hp hx H;obtain⟨z,hz,e,_⟩:=hu1 i id n (L i id n H);have hsm:=hsame z hz;rw[e]at hsm;have M:=h1.boxes id;rw[hsm]at M
        cases x<;>try exact R.elim
        ·obtain⟨Q,U,F⟩:=R;rw[Q]at M;obtain⟨j1,j2,vals,j3,j4⟩:=M;exact⟨j1,j2,vals,by rw[F];exact j3,j4.mono (B7.of_sub sub)⟩
        ·obtain⟨cs,Q,U,F,Z⟩:=R;rw[Q]at M;obtain⟨b',vals,T,j1,j2,j3,j4⟩:=M;exact⟨b',vals,T,by rw[F];exact j1,j2,(Sx h3 h1 Z (by simpa using j3) (λj v c O hc=>j4 j v c (by simpa using O) hc)).mono (B7.of_sub sub)⟩
        ·obtain⟨k0,vs',ds,sz,e,xs,Q,U,F,Z,k5⟩:=R;rw[Z]at M;obtain⟨j1,j2,vals,j3,j4⟩:=M;exact⟨k0,vs',β id,ds,sz,e,xs,⟨Q,U,by simpa using F.1,j1,j2,vals,j3,j4.mono (B7.of_sub sub)⟩,F.mono (B7.of_sub λb l=>h2 b (sub b l))⟩
     ·rw[tj (by rw[C];simpa using I),C]at hx;simp only[tr,tK]at hx
      cases hz:B[i-c.args.size]? with
      | none=>simp[hz]at hx
      | some z =>
        simp[hz]at hx;subst hx;exact(hcr _ v z O hz).mono ((B7.of_sub λb l=>h2 b (sub b l))))
   obtain⟨e,hKe,E⟩:=V9 (X:=X) (G:=G) (β:=β) (a:=a) (w:=w) (S:=Bj mb S) (S0:=S) (pre:=mb) (ub:=ub) rfl (by rw[Cp];exact hd) (dv:=(Ai S d).ver) (by rw[h3.ver];exact td _) hund
    (λy hy=>by
     have:(Ai (Bj mb S) y.1).box≠.none:=by intro hh;have:=N y hy;rw[hh]at this;cases this
     exact NM rfl this) hK h3.ver
   refine⟨e,hKe,λhok=>.inr (.inr ⟨f,_,hrun s.1,hcl'.mono λe' w' ⟨v,h4,h5,h6,h7⟩=>⟨v,h4,E (λb=>(OS β X (Bj mb S) b/\¬∃y∈ub,Af (β y.1)=some b)\/Ip (c.args.map a.eval++t) W b) v w' ⟨h1,λy hy=>?_,?_,λb l hn=>.inl ⟨l,λ⟨y,hy,hyb⟩=>hn y hy hyb⟩,λb y hy ho l=>?_,?_,λy hy ho=>?_⟩ hok⟩⟩)⟩
   ·
     obtain⟨i,n,q,p,m,Q,U,F,Z,k5,k6⟩:=Y y hy;refine⟨N y hy,?_⟩;rw[h3.ver,(V k6).2.1]
     cases q<;>try exact F.elim
     ·exact .inr ⟨F.1,by rw[F.2];omega⟩
     ·exact .inl ⟨by rw[F.1];rfl,F.2⟩
     ·exact .inl ⟨by rw[F.1];rfl,F.2⟩
     ·obtain⟨⟨_,_,_,_,_,F⟩,Z⟩:=F;exact .inl ⟨by rw[F];rfl,Z⟩
   ·exact h5.weaken (td _) λk _ hno hm=>hno ((hMut k).1 hm)
   ·
     obtain⟨i,n,q,p,m,Q,U,F,Z,k5,k6⟩:=Y y hy;have I:i<c.args.size:=by have:=A7 Z;simpa using this
     refine .inr ⟨i,a.eval p,q,?_,U,?_,by rw[(V k6).1];exact l⟩
     ·rw[tL (by simpa using I)];have:c.args[i]?=some p:=by simpa using Z
      simp[this]
     ·cases q<;>try exact F.elim
      ·rw[F.1]at ho;cases ho
      ·rfl
      ·rfl
      ·rfl
   ·refine h6.mono (λb l=>?_) (λb l=>l);rcases l with l|⟨l,hno⟩
    ·exact .inl l
    ·obtain⟨y,hy,hyb⟩:=(hMut b).1 l;refine .inr ⟨y,hy,?_,hyb⟩;obtain⟨i,n,q,p,m,Q,U,F,Z,k5,k6⟩:=Y y hy;have I:i<c.args.size:=by have:=A7 Z;simpa using this
     have hvi:(c.args.map a.eval++t)[i]?=some (a.eval p):=by
      rw[tL (by simpa using I)];have:c.args[i]?=some p:=by simpa using Z
      simp[this]
     cases q<;>try exact F.elim
     ·exact F.1
     ·exact absurd ⟨i,a.eval p,_,hvi,U,rfl,by rw[(V k6).1];exact hyb⟩ hno
     ·exact absurd ⟨i,a.eval p,_,hvi,U,rfl,by rw[(V k6).1];exact hyb⟩ hno
     ·exact absurd ⟨i,a.eval p,_,hvi,U,rfl,by rw[(V k6).1];exact hyb⟩ hno
   ·obtain⟨i,n,q,p,m,Q,U,F,Z,k5,k6⟩:=Y y hy;have I:i<c.args.size:=by have:=A7 Z;simpa using this
    have hvi:(c.args.map a.eval++t)[i]?=some (a.eval p):=by
     rw[tL (by simpa using I)];have:c.args[i]?=some p:=by simpa using Z
     simp[this]
    have hro:=h7 i (a.eval p) m q hvi (by rw[tq (A7 k5)];exact k5) U
    have esub:∀b,((((OS β X (Bj mb S) b/\¬∃y∈ub,Af (β y.1)=some b)\/Ip (c.args.map a.eval++t) W b)\/Eg v r b)->((OS β X (Bj mb S) b/\¬∃y∈ub,Af (β y.1)=some b)\/Ip (c.args.map a.eval++t) W b\/Eg v r b)):=by
     intro b l;rcases l with(l|l)|l
     ·exact .inl l
     ·exact .inr (.inl l)
     ·exact .inr (.inr l)
    cases q<;>try exact F.elim
    ·rw[F.1]at ho;cases ho
    ·rw[F.1];obtain⟨⟨j1,j2,vals,j3,j4⟩,_,rfl⟩:=hro;rw[k6.2.2]at j3;exact⟨j1,j2,vals,j3,j4.mono (B7.of_sub esub)⟩
    ·rw[F.1];obtain⟨⟨b',vals,T,j1,j2,j3⟩,_,rfl,_⟩:=hro;obtain⟨_,_,_,k7,_⟩:=k6;rw[k7]at j1;exact⟨_,rfl,b',vals,T,j1,j2,j3.mono (B7.of_sub esub)⟩
    ·obtain⟨⟨ds',sz',e',ys',q1,q2⟩,_⟩:=F;obtain⟨vs,u,ds,sz,e,ys,q3,q4,q5,j1,j2,vals,j3,j4⟩:=hro;rw[q3]at q1;obtain⟨_,q1⟩:=List.append_inj' q1 rfl;simp at q1;obtain⟨rfl,rfl,rfl⟩:=q1;rw[q2]
     have hu:u=β y.1:=by
      cases m<;>try exact k6.elim
      ·obtain⟨z1,_,z3⟩:=k6;obtain⟨ad,m',c',z4⟩:=hsl z1;rw[z3,z4]at q4;cases q4
      ·obtain⟨cs,z1,_,z3,_⟩:=k6;have M:=h.boxes y.1;rw[z1]at M;obtain⟨_,_,_,z4,_⟩:=M;rw[z3,z4]at q4;cases q4
      ·obtain⟨_,vs',_,_,_,_,_,z2,_⟩:=k6;rw[z2]at q4;simp at q4;exact(Array.push_eq_push.1 q4).1.symm
     rw[hu]at j3;exact⟨j1,j2,vals,j3,j4.mono (B7.of_sub esub)⟩
end
section
variable {P:Program} {X:Cx} {G:Nat->Prop} {β:Nat->Value} {S:AS} {a:Act} {w:World} {o:Oper}
def GF(R:Value->C->Prop)(vs:List Value)(cs:List C):Prop:=vs.length=cs.length/\∀(j:Nat) v c,vs[j]?=some v->cs[j]?=some c->R v c
theorem GF.append{R:Value->C->Prop}{vs us:List Value}{xs ys:List C}(h:GF R vs xs)(k:GF R us ys):GF R (vs++us) (xs++ys):=by
 refine⟨by simp[h.1,k.1],λj v y b hy=>?_⟩;by_cases c:j<vs.length
 ·rw[tq c]at b;rw[tq (by rw[<-h.1];exact c)]at hy;exact h.2 j v y b hy
 ·rw[tj (by omega)]at b;rw[tj (by rw[<-h.1];omega)]at hy;rw[<-h.1]at hy;exact k.2 _ v y b hy
theorem GF.take{R:Value->C->Prop}{vs:List Value}{xs:List C}(h:GF R vs xs)(n:Nat):GF R (vs.take n) (xs.take n):=by
 refine⟨by simp[h.1],λj v y b hy=>?_⟩;rw[tM]at b hy;split at b
 ·rw[tf ‹_›]at hy;exact h.2 j v y b hy
 ·cases b
theorem GF.drop{R:Value->C->Prop}{vs:List Value}{xs:List C}(h:GF R vs xs)(n:Nat):GF R (vs.drop n) (xs.drop n):=by
 refine⟨by simp[h.1],λj v y b hy=>?_⟩;rw[tQ]at b hy;exact h.2 _ v y b hy
theorem GF.splice{R:Value->C->Prop}{vs us:List Value}{xs ys:List C}(h:GF R vs xs)(k:GF R us ys){o:Nat}(ho:o<=xs.length) :
 GF R (vs.take o++us++vs.drop (o+us.length)) (splice xs o ys):=by
 rw[FT xs o ys ho,k.1];exact((h.take o).append k).append (h.drop _)
def fG(R:Value->C->Prop):List (Nat×Value)->List (Nat×List C)->Prop
 | [],[]=>True
 | (i,v) :: r,(j,c) :: s=>i=j/\GF R v.cells.toList c/\fG R r s
 | _,_=>False
theorem W9{R:Value->C->Prop}{b:Nat->Option (Nat×Nat)}:∀{h:List (Nat×Value)}{k:List (Nat×List C)}{cells:Array Value}{cs l:List C},fG R h k->GF R cells.toList cs->ZI b cs k=some l ->
 ∃d,Instr.fill b cells h=some d/\GF R d.toList l
 | [],[],cells,cs,l,_,hc,hf=>by simp[ZI]at hf;subst hf;exact⟨cells,rfl,hc⟩
 | (i,v) :: r,(j,x) :: s,cells,cs,l,hp,hc,hf=>by
   obtain⟨rfl,m,hp⟩:=hp;simp only[ZI]at hf;split at hf
   ·cases hf
   ·rename_i off n f
    split at hf
    ·rename_i g
     have p:v.cells.size=x.length:=by simpa using m.1
     have q:cells.size=cs.length:=by simpa using hc.1
     have c:=UI off v.cells.toList 0 cells (by grind);simp only[ui]at c
     have e:GF R (v.cells.zipIdx.foldl (λcs (x:Value×Nat)=>cs.setIfInBounds (off+x.2) x.1) cells).toList (splice cs off x):=by
      rw[<-Array.foldl_toList,Array.toList_zipIdx,c];exact hc.splice m (by omega)
     obtain⟨d,u,t⟩:=W9 hp e hf;refine⟨d,?_,t⟩;simp only[Instr.fill,f];grind
    ·cases hf
 | [],_ :: _,_,_,_,hp,_,_=>hp.elim
 | (_,_) :: _,[],_,_,_,hp,_,_=>hp.elim
def ig(β:Nat->Value)(n:Nat->Nat)(O:Nat->Prop)(w:World)(v:Value)(c:C):Prop:=Ce β n O w v c/\v.oneCell'=true
theorem B3.cellsC{O:Nat->Prop}{n:Nat->Nat}{vs:List Value}{ys:List D}(h:B3 O w vs ys):GF (ig β n O w) vs (ys.map C.d):=⟨by simpa using h.1,λj v c b d=>⟨h.cells j v c b d,h.oneCell v (tz b)⟩⟩
theorem kH(h:SimB X G β S a w){v:Value}{id n sz:Nat}{e:TypeId}{xs:List D}(hr:Ps β (OS β X S) S w v (.row id n sz e xs)):v.cells=#[v]/\ig β (AM S) (OS β X S) w v (.sl id n):=by
 obtain⟨f,g,c⟩:=hr;have d:=h.boxes id;rw[f]at d;obtain⟨_,_,vals,hr,_⟩:=d
 have key:v.cells=#[v]/\v.oneCell'=true:=by
  rw[c];rcases hr with⟨_,⟨b,_⟩|⟨i,cap,cur,b,_⟩⟩|⟨_,_,j,b⟩<;>(rw[b];exact⟨rfl,rfl⟩)
 exact⟨key.1,⟨u1 g.symm,λ_=>c⟩,key.2⟩
theorem Ze(h:SimB X G β S a w){r:RV}{v:Value}(hr:Ps β (OS β X S) S w v r){K:List C->Prop}(hy:cellsOf r K):∃c,K c/\GF (ig β (AM S) (OS β X S) w) v.cells.toList c:=by
 cases r<;>simp only[cellsOf]at hy
 case d x =>
  rw[Q2]at hy;exact⟨_,hy,(Ht (show Ax _ w v x from hr)).cellsC⟩
 case lim sz xs=>exact⟨_,hy,(Ht (x:=.list sz xs) hr.1).cellsC⟩
 case row id n sz e xs =>
  obtain⟨b,f⟩:=kH h hr;refine⟨_,hy,by rw[b];rfl,λj g c i k=>?_⟩;grind
theorem UY(h:SimB X G β S a w){g:Option (Nat×Bool)}(e:BW g a):∀{parts:List (Nat×Operand)}{K:List (Nat×List C)->Prop},NU (ρOf S g) parts K ->
 ∃b,K b/\fG (ig β (AM S) (OS β X S) w) (parts.map λx=>(x.1,a.eval x.2)) b
 | [],K,hy=>⟨[],hy,trivial⟩
 | (i,x) :: r,K,hy=>by
   obtain⟨c,hK,f⟩:=Ze h (ρ_sound h e x) hy;obtain⟨b,hK,d⟩:=UY h e hK;exact⟨_,hK,rfl,f,d⟩
theorem dp(h:SimB X G β S a w){g:Option (Nat×Bool)}(B:BW g a){t:TypeId}{parts:Array (Nat×Operand)}(ho:o.op=.build t parts){b:Array Field}(s:P.underlying t=some (.struct b))
 {v:List D} (p:zeroCells P t=some v) (k:b.toList.all (λf=>(P.info? f.type).isSome)=true) {K:Hy->Prop}
 (hy:cA v λC=>NU (ρOf S g) parts.toList λx=>match ZI (λi=>match b[i]? with|some f=>some (f.offset,AF P f.type)|none=>none) C x with
  | some l=>CU l λl=>K ⟨.cc none l,[],[]⟩
  | none=>False):∃e,K e/\Dx P X G S a w o e:=by
 rw[Q2]at hy;obtain⟨x,hK,hp⟩:=UY h B hy;split at hK
 ·rename_i l E
  rw[BN]at hK;obtain⟨i,z,F,H,q⟩:=If (O:=OS β X S) (w:=w) p;obtain⟨m,y,A⟩:=W9 hp (q.cellsC (β:=β) (n:=AM S)) E;have d:(λ(i:Nat)=>match (b[i]?:Option Field)with|some f=>some (f.offset,AF P f.type)|none=>none)=λi=>(b.map λ(f:Field)=>(f.offset,AF P f.type))[i]?:=by grind
  rw[d]at y
  have r:(b.mapM λ(f:Field)=>(do pure (f.offset,<-sizeOf f.type):Sem (Nat×Nat))).run P w=.ok (b.map λ(f:Field)=>(f.offset,AF P f.type)) w:=by
   rw[vX,Sem.run_map,YE k];simp only[Result.andThen_ok];congr 1;grind
  refine⟨_,hK,.inl ⟨.agg m,w,?_,β,h,⟨m,rfl,by simpa using A.1,λj u c s I=>A.2 j u c (by grind) I⟩,rfl⟩⟩;simp only[execOp,ho,Instr.build,Sem.run_bind,zeroValue,typeInfo,run_program,F,H,Result.andThen_ok,Sem.run_pure,run_underlying s,r,vU];rw[y];simp
 ·grind
theorem Qe(h:SimB X G β S a w){g:Option (Nat×Bool)}(t:BW g a):∀{args:List Operand}{K:List C->Bx->Prop},J9 (σOf S) (ρOf S g) args K ->
 ∃l b,K l b/\FZ S [] b/\l.length=args.length/\(∀(i:Nat) p id n,args[i]?=some p->l[i]?=some (.sl id n)->(Ai S id).ver=n/\a.eval p=β id/\(a.eval p).oneCell'=true)/\(∀c∈l,∀sz e xs,c≠.own sz e xs) /\
  (∀(i:Nat) y,l[i]?=some (.d y)->y.one=true)/\Lk X G β S a w b λO=>∀(i:Nat) p y,args[i]?=some p->l[i]?=some (.d y)->Ax O w (a.eval p) y
 | [],K,hy=>⟨[],[],hy,trivial,rfl,(λi p id n hp=>by simp at hp),(λ_ h=>by cases h),(λi y hy=>by simp at hy),λ_ _ _ _ _ i p y hp _=>by simp at hp⟩
 | q :: r,K,hy=>by
   unfold J9 at hy;split at hy
   ·rename_i id n how
    have hr:=ρ_sound h t q;obtain⟨l,E,hK,f,u,v,x,k,d⟩:=Qe h t hy
    have hq:(Ai S id).ver=n/\a.eval q=β id/\(a.eval q).oneCell'=true:=by
     unfold gK at how;split at how<;>try (cases how;done)
     ·rename_i hx
      cases how
      rw[hx]at hr;obtain⟨_,z,b,A,m⟩:=hr;exact⟨z,by rw[m,A],by rw[m];rfl⟩
     ·rename_i hx
      cases how
      rw[hx]at hr;obtain⟨_,z,b,A,m⟩:=hr;exact⟨z,by rw[m,A],by rw[m];rfl⟩
    refine⟨_,_,hK,f,by simp[u],λi p B F hp j=>?_,λc j=>?_,λi y hy=>?_,d.mono (λ_ h=>h) λO D i p y hp j=>?_⟩
    all_goals grind
   ·obtain⟨y,b,hK,H,_,s⟩:=Ma h (ρ_sound h t q) hy;split at hK
    ·rename_i I
     obtain⟨J,hK⟩:=Al hK;obtain⟨l,E,hK,f,u,v,x,k,d⟩:=Qe h t hK;refine⟨_,_,hK,H.append f,by simp[u],λi p B F hp j=>?_,λc j=>?_,λi y hy=>?_,(s.and d).mono (λ_ h=>h) λO D i p y hp j=>?_⟩
     ·grind
     ·grind
     ·grind
     ·cases i with
      | zero=>simp at hp j;subst hp;subst j;exact D.1
      | succ i=>exact D.2 i p y (by simpa using hp) (by grind)
    ·grind
theorem fS(h:SimB X G β S a w){g:Option (Nat×Bool)}(u:BW g a){f:FuncId}{first caps:Array Operand}(ho:o.op=.makeFunc (.func f) first caps)(E:first.toList=[]){K:Hy->Prop}
 (hy:J9 (σOf S) (ρOf S g) caps.toList λl b=>K ⟨.cc (some f) l,b,[]⟩):∃e,K e/\Dx P X G S a w o e:=by
 obtain⟨l,b,hK,t,x,r,z,j,k⟩:=Qe h u hy;obtain⟨A,_,s⟩:=t.run h;have hr:=k.now h t;refine⟨_,hK,.inl ⟨.func (.func f) #[] (caps.map a.eval),w,?_,β,A,⟨caps.map a.eval,rfl,by simp[x],λi v c m q=>?_⟩,rfl⟩⟩
 ·have:first=#[]:=by cases first;simp_all
  simp[execOp,ho,Instr.makeFunc,this]
 ·rw[Array.getElem?_map]at m
  cases hp:caps[i]? with
  | none=>grind
  | some p =>
    simp[hp]at m;subst m
    cases c with
    | d y=>exact⟨⟨hr i p y (by simpa using hp) q,j i y q⟩,Vi (hr i p y (by grind) q) (j i y q)⟩
    | sl id n =>
      obtain⟨B,C,D⟩:=r i p id n (by grind) q;have m:=s.ver id;exact⟨⟨by simp only[AM];rw[m,B];exact td _,λ_=>C⟩,D⟩
    | own sz e xs=>grind
theorem Sn:∀{cs:List C}{k id n:Nat},gS cs=some (k,id,n)->cs[k]?=some (.sl id n)
 | [],_,_,_,h=>by cases h
 | .sl b d :: r,k,id,n,h=>by simp[gS]at h;obtain⟨rfl,rfl,rfl⟩:=h;rfl
 | .d y :: r,k,id,n,h=>by
   simp only[gS]at h;split at h
   ·rename_i e b d c
    simp only[Option.some.injEq,Prod.mk.injEq]at h;obtain⟨rfl,rfl,rfl⟩:=h
    simpa using Sn c
   ·cases h
 | .own _ _ _ :: r,k,id,n,h=>by
   simp only[gS]at h;split at h
   ·rename_i e b d c
    simp only[Option.some.injEq,Prod.mk.injEq]at h;obtain⟨rfl,rfl,rfl⟩:=h
    simpa using Sn c
   ·cases h
theorem Z5:∀{cs:List C}{i:Nat}{x:AV},(Rf cs)[i]?=some x->x=.any\/∃y,x=.d y/\cs[i]?=some (.d y)
 | [],i,x,h=>by simp[Rf]at h
 | c :: r,0,x,h=>by
   cases c<;>simp[Rf]at h<;>subst h
   all_goals grind
 | c :: r,i+1,x,h=>by
   have b:(Rf r)[i]?=some x:=by cases c<;>simpa [Rf] using h
   rcases Z5 b with h|⟨y,d,e⟩
   all_goals grind
theorem U2:∀cs:List C,(Rf cs).length=cs.length
 | []=>rfl
 | c :: r=>by cases c<;>simp[Rf,U2 r]
theorem fW(h:SimB X G β S a w){g:Option (Nat×Bool)}(hg:BW g a){c:Call}(ho:o.op=.call c){fo:Operand}(hc:c.callee=.value fo){f:FuncId}{cs:List C}{k id n rid rn:Nat}(hf:ρOf S g fo=.clo f cs k id n rid rn)
 {d s sz:Nat} {e:TypeId} {xs:List D} (hr:σOf S rid rn=.row d s sz e xs) {K:Hy->Prop} (hy:Iw P (σOf S) (ρOf S g) c.args.toList c.argTypes.toList λvs bs=>match bs with
  | []=>CU (Rf cs) λcv=>cG P f (vs++cv) (vs.length+k) sz e xs λys=>if id=rid then False else K ⟨.any,[(rid,.row sz e ys,rn+1),(id,.var [.sl rid (rn+1)],n)],[]⟩
  | _=>False):∃e,K e/\Dx P X G S a w o e:=by
 obtain⟨vs,bs,hy,hF,F,hrep⟩:=MH h hg hy;split at hy<;>try exact hy.elim
 rw[BN]at hy;obtain⟨ys,U,hy⟩:=hy.go;split at hy
 ·exact hy.elim
 rename_i Q
 refine⟨_,hy,?_⟩;have hargs:=hrep.now h hF;have hfv:=ρ_sound h hg fo;rw[hf]at hfv;obtain⟨⟨A,hfe,hcl,hcr⟩,hat,Y,hver⟩:=hfv
 have hrun:(execOp a.eval o).run P w=.ok (.enter f (c.args.map a.eval++A)) w:=by
  simp only[execOp,ho,resolve,hc,hfe,Deferred.ofValue,Sem.run_bind,Sem.run_pure,Result.andThen_ok,invoke];simp only[wh];rw[Jc U.1]
 have M:=h.boxes id;rw[Y]at M;obtain⟨b,vals,T,hβ,hh,hvs,hcell⟩:=M
 obtain⟨u,rfl⟩:∃u,vals=#[u]:=by
  have:vals.size=1:=hvs;exact⟨vals[0],by apply Array.ext;simp[this];intro i h1 Z;simp at Z;subst Z;rfl⟩
 have hcu:=hcell 0 u (.sl rid rn) rfl rfl;have hσ:=σ_sound h hcu;rw[hr]at hσ;obtain⟨hrb,hrv,E⟩:=hσ
 obtain⟨rfl,rfl⟩:d=rid/\s=rn:=by
  simp only[σOf,res]at hr;split at hr<;>(try (split at hr))<;>cases hr<;>exact⟨rfl,rfl⟩
 have hrbx:=h.boxes d;rw[hrb]at hrbx;obtain⟨hsz,hxs,rvals,hrow,hrl⟩:=hrbx;have O:(Ai S id).box.owned=true:=by rw[Y];rfl
 have H:(Ai S d).box.owned=true:=by rw[hrb];rfl
 have N:Af (β id)=some b:=by rw[hβ];rfl
 have hid:=NM Y (by simp);have hrid:=NM hrb (by simp);have hlt:=h.blk O N
 have hO:∀c',(OS β X S c'/\c'≠b/\Af u≠some c')\/c'=b\/Af u=some c'->OS β X S c':=by
  intro c' r;rcases r with r|rfl|r
  ·exact r.1
  ·exact .inr (.inr ⟨id,O,N⟩)
  ·exact .inr (.inr ⟨d,H,by rw[<-E];exact r⟩)
 have hval:∀(i:Nat) v,(c.args.map a.eval++A)[i]?=some v->(∃p,c.args.toList[i]?=some p/\v=a.eval p)\/(c.args.size<=i/\A[i-c.args.size]?=some v):=by
  intro i v R;rcases tG i c.args.size with hi|hi
  ·rw[tL (by simpa using hi)]at R;simp[hi]at R;exact .inl ⟨c.args[i],by simp[hi],R.symm⟩
  ·rw[uO (by simpa using hi)]at R;exact .inr ⟨hi,by simpa using R⟩
 have hkv:(c.args.map a.eval++A)[vs.length+k]?=some (.pointer (some ⟨b,0,none⟩)):=by
  have h1:=Sn hat;have Z:k<A.size:=by rw[hcl];exact A7 h1
  have h3:=hcr k A[k] _ (by simp[Z]) h1;have h4:A[k]=β id:=h3.1.2 (by simp only[AM];exact hver.symm);rw[uO (by simp[F])];simp[F,Z,h4,hβ]
 have:=U.2 (λc'=>OS β X S c'/\c'≠b/\Af u≠some c') w (c.args.map a.eval++A) b u T (λc' r=>h.os_lt r.1) (λq l hq=>(h.glob q l hq).mono (B7.of_sub hO))
  (by simp[F,hcl,U2]) hkv hh (λhb=>hb.2.1 rfl) (λc' r=>⟨λhx=>hx.2.2 r,λe=>by
   subst e;exact Q (h.inj id d c' O H N (by rw[<-E];exact r))⟩) hsz hxs ⟨rvals,by rw[E];exact hrow,hrl.mono (B7.of_sub hO)⟩
  (λi v x R hx=>by
   rcases hval i v R with⟨p,hp,rfl⟩|⟨hi,R⟩
   ·rw[tq (by rw[F];exact A7 hp)]at hx;exact(hargs i p x hp hx).mono (B7.of_sub hO)
   ·rw[tj (by rw[F];simpa using hi),F]at hx;simp only[tK]at hx;rcases Z5 hx with rfl|⟨y,rfl,hcy⟩
    ·trivial
    ·exact((hcr _ v _ R hcy).1.1).mono (B7.of_sub hO))
 refine .inr (.inr ⟨f,_,hrun,this.mono λe' w' ⟨v,u',T',h1,Z,h3,h4,h5,vals',h6,h7⟩=>⟨v,h1,?_⟩⟩);have hsz2:=Z.size;let β':Nat->Value:=λi=>if i=d then u' else β i
 have hgs:∀i,Ai (Bj [(d,.row sz e ys,s+1),(id,.var [.sl d (s+1)],n)] S) i=if i=d then⟨(Ai S d).av,.row sz e ys,s+1⟩else if i=id then⟨(Ai S id).av,.var [.sl d (s+1)],n⟩else Ai S i:=by
  intro i;simp only[Bj];rw[JZ (by rw[Dc];exact hid),JZ hrid,JZ hrid];by_cases t:i=id
  ·subst t;simp[Q]
  ·simp[t]
 have hsim:SimB X G β' (Bj [(d,.row sz e ys,s+1),(id,.var [.sl d (s+1)],n)] S) a w':=by
  refine h.multi (λi=>if i=d then some (.row sz e ys,s+1,u')else if i=id then some (.var [.sl d (s+1)],n,β id)else none) (λi=>?_) (λi=>?_) (Cp _ _) hsz2 ?_ (λi B m v z=>?_) (λW hb' hk=>?_) (λi B m v W z hB M=>?_) (λi j B m v B' m' v' W z I hB hB' M hbv'=>?_) (λhk hvv i B m v z=>?_)
  ·rw[hgs];by_cases t:i=d
   ·subst t;simp
   ·by_cases J:i=id
    ·simp[J,Q]
    ·simp[t,J]
  ·show(if i=d then u' else β i)=_;by_cases t:i=d
   ·simp[t]
   ·by_cases J:i=id
    ·subst J;simp only[tn t,if_true]
    ·simp[t,J]
  ·refine Z.weaken h.hbase λq hq hm hq'=>hm ?_;rcases hq' with rfl|hq'
   ·exact((h.mine id q O N).1).resolve_left (by omega)
   ·exact((h.mine d q H (by rw[<-E];exact hq')).1).resolve_left (by omega)
  ·split at z
   ·rename_i t;subst t;cases z;exact .inl (by rw[hrv];omega)
   ·split at z
    ·rename_i J;subst J;cases z;exact .inr ⟨hver.symm,rfl,by rw[Y];simp⟩
    ·cases z
  ·refine Z.block W hb' λhm=>?_;rcases hm with rfl|hm
   ·exact hk id (.var [.sl d (s+1)]) n (β id) (by simp[Q]) O N
   ·exact hk d (.row sz e ys) (s+1) u' (by simp) H (by rw[<-E];exact hm)
  ·split at z
   ·rename_i t
    subst t
    cases z
    rcases h4 W M with h8|h8
    ·exact .inl ⟨i,.row sz e ys,s+1,u',by simp,H,by rw[<-E];exact h8⟩
    ·exact .inr h8
   ·split at z
    ·rename_i t J
     subst J
     cases z
     exact .inl ⟨i,.var [.sl d (s+1)],n,β i,by simp[Q],O,M⟩
    ·cases z
  ·have hdis:∀W,Af u'=some W->Af (β id)≠some W:=by
    intro W h8 h9;rw[N]at h9
    cases h9
    rcases h4 b h8 with h9|h9
    ·exact Q (h.inj id d b O H N (by rw[<-E];exact h9))
    ·omega
   by_cases t:i=d<;>by_cases J:j=d
   ·rw[t,J]
   ·simp only[t,J,if_true,if_false]at z I;split at I
    ·cases z;cases I;exact(hdis W M hbv').elim
    ·cases I
   ·simp only[t,J,if_true,if_false]at z I;split at z
    ·cases z;cases I;exact(hdis W hbv' M).elim
    ·cases z
   ·simp only[t,J,if_false]at z I;split at z
    ·split at I
     ·rename_i e3 e4;rw[e3,e4]
     ·cases I
    ·cases z
  ·have hOS:∀c',OS β' X (Bj [(d,.row sz e ys,s+1),(id,.var [.sl d (s+1)],n)] S) c'->(OS β X S c'/\c'≠b/\Af u≠some c')\/c'=b\/Af u'=some c':=by
    intro c' r;by_cases eb:c'=b
    ·exact .inr (.inl eb)
    by_cases eu:Af u'=some c'
    ·exact .inr (.inr eu)
    have key:OS β X S c'/\Af u≠some c':=by
     rcases r with r|r|⟨i,V,L⟩
     ·refine⟨.inl r,λe=>?_⟩;have:=(h.mine d c' H (by rw[<-E];exact e)).1;have h0:=h.o₀ c' r;rcases this with this|this
      ·omega
      ·exact h0.2 this
     ·refine⟨.inr (.inl r),λe=>(h.mine d c' H (by rw[<-E];exact e)).2 r⟩
     ·rw[hgs]at V;have L:Af (if i=d then u' else β i)=some c':=L;by_cases t:i=d
      ·rw[tf t]at L;exact(eu L).elim
      ·rw[tn t]at V L;by_cases J:i=id
       ·subst J;rw[N]at L;cases L;exact(eb rfl).elim
       ·rw[tn J]at V;exact⟨.inr (.inr ⟨i,V,L⟩),λe=>t (h.inj i d c' V H L (by rw[<-E];exact e))⟩
    exact .inl ⟨key.1,eb,key.2⟩
   split at z
   ·rename_i t
    subst t
    cases z
    exact⟨hsz,h5,vals',by show B0 w' e sz (if i=i then u' else β i) _ _;rw[tf rfl];exact h6,h7.mono (B7.of_sub hOS)⟩
   ·split at z
    ·rename_i t J
     subst J
     cases z
     refine⟨b,#[u'],T',by show(if i=d then u' else β i)=_;rw[tn t];exact hβ,h3,rfl,λj v c' R r=>?_⟩
     cases j with
     | zero =>
       simp at R r;subst R;subst r;have hvr:AM (Bj [(d,.row sz e ys,s+1),(i,.var [.sl d (s+1)],n)] S) d=s+1:=by simp only[AM,hgs,if_true]
       exact⟨by rw[hvr];exact td _,λ_=>by show _=if d=d then u' else _;rw[tf rfl]⟩
     | succ j=>simp at r
    ·cases z
 exact⟨β',hsim,trivial,rfl⟩
end
open Go.MapKept
section
variable {P:Program} {X:Cx} {G:Nat->Prop} {β:Nat->Value} {S:AS} {a:Act} {w:World} {o:Oper}
theorem Zr{O:Nat->Prop}{kd:TypeDesc}{v u:Value}{k q:D}(hk:Ax O w v k)(hq:Ax O w u q)(c:Zj k=some kd)(b:IT k q=true) :
 Instr.sameNow kd v u=some (JM k q):=by
 cases k<;>simp only[Zj,Option.some.injEq]at c<;>try (cases c;done)
 case int j n =>
  cases q<;>simp only[IT]at b<;>try (cases b;done)
  case int j' m =>
   cases hk;cases hq
   subst c;have:=tb b;subst this;simp[Instr.sameNow,JM]
 case str s =>
  cases q<;>simp only[IT]at b<;>try (cases b;done)
  case str s' =>
   cases hk;cases hq
   subst c;simp[Instr.sameNow,JM]
theorem OV{O:Nat->Prop}{kd:TypeDesc}{v:Value}{k:D}(hk:Ax O w v k)(b:Zj k=some kd) :
 ∀(vs:List MapEntry)(es:List (D×D))(i:Nat),vs.length=es.length->(∀p∈es,IT k p.1=true)->(∀(j:Nat)(e:MapEntry)(p:D×D),vs[j]?=some e->es[j]?=some p->Ax O w e.key p.1) ->
  Instr.findNow kd v vs i=some (match Ry k es with|some j=>(vs[j]?).map λe=>(i+j,e.val)|none=>none)
 | [],[],_,_,_,_=>rfl
 | [],_ :: _,_,h,_,_=>by simp at h
 | _ :: _,[],_,h,_,_=>by simp at h
 | e :: vs,p :: es,i,hl,hkk,hr=>by
   have d:=Zr hk (hr 0 e p rfl rfl) b (hkk p (by simp));unfold Instr.findNow Ry;rw[d]
   cases JM k p.1 with
   | true=>simp
   | false =>
     simp only[tC];rw[OV hk b vs es (i+1) (by simpa using hl) (λq hq=>hkk q (by simp[hq])) (λj c p' f hp=>hr (j+1) c p' (by simpa using f) (by simpa using hp))]
     cases Ry k es with
     | none=>rfl
     | some j =>
       simp only[ve,tX];congr 2;funext c;congr 1;omega
theorem aZ(h:SimB X G β S a w){d:Nat}(hd:d<S.length){t:TypeId}(ho:o.op=.makeMap t none) :
 Dx P X G S a w o ⟨.sl d ((Ai S d).ver+1),[(d,.map [],(Ai S d).ver+1)],[]⟩:=by
 refine .inl ⟨.map (some w.heap.size),w.alloc (.map #[] 0),?_,Lg β d (.map (some w.heap.size)),?_,?_,rfl⟩
 ·simp[execOp,ho,Instr.makeMap]
 ·exact h.rebox (R':=X.R) (λ_ h=>h) hd (.inl (u3 _)) (by simp) ((AA.of (Mb _)).weaken h.hbase λ_ _ h=>h) (λb c _=>heap_alloc_old w _ b c)
   (λ_ b c=>⟨.inr (.inl (by simp[Af]at c;omega)),λhr=>by simp[Af]at c;have:=(h.rs b hr).2;omega⟩) (λk f=>⟨w.heap.size,#[],0,by simp[Lg],heap_alloc_new w _,rfl,λi e p g=>by simp at g⟩)
 ·have f:AM (Ba S d (.map []) ((Ai S d).ver+1)) d=(Ai S d).ver+1:=by simp[AM,Cc,hd]
  exact⟨by simp only[Bj];rw[f];exact td _,λ_=>by simp[Lg]⟩
theorem b9{q:D}:∀{es:List (D×D)}{j:Nat},Ry q es=some j->j<es.length
 | [],j,h=>by cases h
 | p :: r,j,h=>by
   unfold Ry at h
   cases hk:JM q p.1 with
   | true=>rw[hk]at h;cases h;simp
   | false =>
     rw[hk]at h;simp only[tC]at h;obtain⟨i,b,rfl⟩:=Option.map_eq_some_iff.1 h;have:=b9 b;simp;omega
theorem ZJ(q:D):∀es:List (D×D),Py q es=(Ry q es).bind λj=>(es[j]?).map (·.2)
 | []=>rfl
 | p :: r=>by
   unfold Py Ry
   cases JM q p.1 with
   | true=>rfl
   | false =>
     simp only[tC];rw[ZJ q r]
     cases Ry q r<;>simp
theorem dQ{O:Nat->Prop}{kd:TypeDesc}{q:D}{u:Value}(b:Zj q=some kd)(h:Ax O w u q):IsKey kd u:=by
 cases q<;>simp only[Zj,Option.some.injEq]at b<;>try (cases b;done)
 case int j n=>cases h;subst b;simp[IsKey]
 case str s=>cases h;subst b;simp[IsKey]
theorem dw(h:SimB X G β S a w){g:Option (Nat×Bool)}(T:BW g a){t U V:TypeId}{x K:Operand}{ok:Bool}(ho:o.op=.lookup t x K ok)(f:P.underlying t=some (.map U V)){id n:Nat}{es:List (D×D)}(hx:ρOf S g x=.mp id n es){q:D}(hq:ρOf S g K=.d q)
 {kd:TypeDesc} (A:Zj q=some kd) (l:P.underlying U=some kd) (M:∀p∈es,IT q p.1=true) {z:D} (y:ou P V=some z) :
 Dx P X G S a w o ⟨if ok then .tup [.d ((Py q es).getD z),.d (.bool (Py q es).isSome)]else .d ((Py q es).getD z),[],[]⟩:=by
 have W:=ρ_sound h T x;rw[hx]at W;obtain⟨hb,_,hv⟩:=W;have Y:=ρ_sound h T K;rw[hq]at Y;have B:=h.boxes id;rw[hb]at B;obtain⟨b,vs,N,hβ,L,hl,hr⟩:=B;have C:Ax (OS β X S) w (a.eval K) q:=Y;have r:=dQ A C;have d:=OV C A vs.toList es 0 (by simpa using hl) M (λj e p he hp=>(hr j e p (by simpa using he) hp).1);unfold ou at y;split at y<;>try (cases y;done)
 rename_i i Z
 split at y<;>try (cases y;done)
 rename_i Q E
 have F:=λ(O:Nat->Prop)(w:World)=>fA (O:=O) (w:=w) y;have s:a.eval x=.map (some b):=by rw[hv,hβ]
 rw[ZJ]
 cases hj:Ry q es with
 | none =>
   rw[hj]at d;simp only at d
   cases ok with
   | false =>
     refine AW h (v:=Q) ?_ (F _ _).1 rfl;simp[execOp,ho,Instr.lookup,run_underlying f,s,MapKept.run_getObj_map L,MapKept.run_checkKey l r,MapKept.run_findKey l d,zeroValue,typeInfo,Z,E,Result.andThen]
   | true =>
     refine AW h (v:=.tuple #[Q,.bool false]) ?_ ⟨#[Q,.bool false],rfl,rfl,λk u c f m=>?_⟩ rfl
     ·simp[execOp,ho,Instr.lookup,run_underlying f,s,MapKept.run_getObj_map L,MapKept.run_checkKey l r,MapKept.run_findKey l d,zeroValue,typeInfo,Z,E,Result.andThen]
     ·match k,f,m with
      | 0,f,m=>simp at f m;subst f;subst m;exact(F _ _).1
      | 1,f,m=>simp at f m;subst f;subst m;exact .bool _
      | k+2,f,m=>simp at f
 | some j =>
   rw[hj]at d;have H:=b9 hj;have I:j<vs.size:=by omega
   have J:=hr j vs[j] es[j] (by simp[I]) (P3 H);simp only[P3 H,tc,ve,uz,Option.isSome_some]at d ⊢;have R:vs.toList[j]?=some vs[j]:=by simp[I]
   rw[R]at d;simp only[ve]at d
   cases ok with
   | false =>
     refine AW h (v:=vs[j].val) ?_ J.2.1 rfl;simp[execOp,ho,Instr.lookup,run_underlying f,s,MapKept.run_getObj_map L,MapKept.run_checkKey l r,MapKept.run_findKey l d,Result.andThen]
   | true =>
     refine AW h (v:=.tuple #[vs[j].val,.bool true]) ?_ ⟨#[vs[j].val,.bool true],rfl,rfl,λk u c f m=>?_⟩ rfl
     ·simp[execOp,ho,Instr.lookup,run_underlying f,s,MapKept.run_getObj_map L,MapKept.run_checkKey l r,MapKept.run_findKey l d,Result.andThen]
     ·match k,f,m with
      | 0,f,m=>simp at f m;subst f;subst m;exact J.2.1
      | 1,f,m=>simp at f m;subst f;subst m;exact .bool _
      | k+2,f,m=>simp at f
theorem aj{q:D}(v:D):∀{es:List (D×D)},Ry q es=none->YS q v es=es++[(q,v)]
 | [],_=>rfl
 | p :: r,h=>by
   unfold Ry at h;unfold YS
   cases hk:JM q p.1 with
   | true=>rw[hk]at h;cases h
   | false =>
     rw[hk]at h;simp only[tC,Option.map_eq_none_iff]at h;rw[tC,aj v h];rfl
theorem ak{q:D}(v:D):∀{es:List (D×D)}{j:Nat},Ry q es=some j->YS q v es=es.set j (q,v)
 | [],j,h=>by cases h
 | p :: r,j,h=>by
   unfold Ry at h;unfold YS
   cases hk:JM q p.1 with
   | true=>rw[hk]at h;cases h;rfl
   | false =>
     rw[hk]at h;simp only[tC]at h;obtain⟨i,b,rfl⟩:=Option.map_eq_some_iff.1 h;rw[tC,ak v b];rfl
theorem jd(h:SimB X G β S a w){id n:Nat}{es f:List (D×D)}(m:(Ai S id).box=.map es)(x:(Ai S id).ver=n){b:Nat}(s:β id=.map (some b)){vs d:Array MapEntry}{g c:Nat}(y:w.heap[b]?=some (.map vs g))
 (z:d.size=f.length) (hr:∀(i:Nat)(e:MapEntry)(p:D×D),d[i]?=some e->f[i]?=some p->(∀(O:Nat->Prop)(w:World),Ax O w e.key p.1)/\(∀(O:Nat->Prop)(w:World),Ax O w e.val p.2)/\p.1.bare=true/\p.2.bare=true) :
 SimB X G β (Ba S id (.map f) n) a { w with heap:=w.heap.setIfInBounds b (.map d c) }:=by
 have hid:=NM m (by simp);have ho:(Ai S id).box.owned=true:=by rw[m];rfl
 have j:Af (β id)=some b:=by rw[s];rfl
 obtain⟨q,l⟩:=heap_set (o':=.map d c) y
 have t:=h.rebox (R':=X.R) (id:=id) (B:=.map f) (v:=β id) (n:=n) (w':={ w with heap:=w.heap.setIfInBounds b (.map d c) })
  (λ_ h=>h) hid (.inr ⟨x.symm,rfl,by rw[m];simp⟩) (by simp)
  ⟨rfl,rfl,rfl,by simp,λk hk A=>l k λe=>by subst e;rcases(h.mine id k ho j).1 with u|u;omega;exact A u⟩
  (λk _ hk=>l k λe=>hk ho (by rw[j,e]))
  (λ_ k hk=>⟨.inl ⟨hk,ho⟩,(h.mine id k ho hk).2⟩)
  (λk C=>by
   rw[Gx]at k C ⊢;exact⟨b,d,c,s,q,z,λi e p r hp=>⟨(hr i e p r hp).1 _ _,(hr i e p r hp).2.1 _ _,(hr i e p r hp).2.2⟩⟩)
 rw[Gx]at t;exact t
theorem iN{q:D}:∀{es:List (D×D)}{j:Nat},Ry q es=some j->∀h:j<es.length,JM q es[j].1=true
 | [],j,h,hl=>by simp at hl
 | p :: r,j,h,hl=>by
   unfold Ry at h
   cases hk:JM q p.1 with
   | true=>rw[hk]at h;cases h;exact hk
   | false =>
     rw[hk]at h;simp only[tC]at h;obtain⟨i,b,rfl⟩:=Option.map_eq_some_iff.1 h;exact iN b (by simpa using hl)
theorem nO{O:Nat->Prop}{q p:D}{u v:Value}(hk:IT q p=true)(b:JM q p=true)(hq:Ax O w u q)(hp:Ax O w v p):v=u:=by
 cases q<;>cases p<;>simp only[IT]at hk<;>try (cases hk;done)
 case int.int j n j' n' =>
  cases hq;cases hp
  have:=tb hk;subst this;simp only[JM]at b;rw[wo b]
 case str.str s s' =>
  cases hq;cases hp
  simp only[JM]at b;rw[(bytes_beq _ _).1 b]
theorem dx(h:SimB X G β S a w){g:Option (Nat×Bool)}(M:BW g a){t W et:TypeId}{m k x:Operand}(ho:o.op=.mapUpdate t m k x)(Y:P.underlying t=some (.map W et)){id n:Nat}{es:List (D×D)}(hm:ρOf S g m=.mp id n es){q y:D}(hq:ρOf S g k=.d q)(hy:ρOf S g x=.d y)(s:y.bare=true)
 {kd:TypeDesc} (B:Zj q=some kd) (u:P.underlying W=some kd) (F:∀p∈es,IT q p.1=true) :
 Dx P X G S a w o ⟨.any,[(id,.map (YS q y es),n)],[]⟩:=by
 have Z:=ρ_sound h M m;rw[hm]at Z;obtain⟨N,hn,hv⟩:=Z;have h2:=ρ_sound h M k;rw[hq]at h2;have l:Ax (OS β X S) w (a.eval k) q:=h2;have h3:=ρ_sound h M x;rw[hy]at h3;have H:Ax (OS β X S) w (a.eval x) y:=h3;have I:=h.boxes id;rw[N]at I;obtain⟨b,vs,f,Q,E,L,hr⟩:=I;have r:=dQ B l;have v:q.bare=true:=by cases q<;>simp[Zj]at B<;>rfl
 have c:=OV l B vs.toList es 0 (by simpa using L) F (λj e p d hp=>(hr j e p (by simpa using d) hp).1);have J:a.eval m=.map (some b):=by rw[hv,Q]
 have K:∀(i:Nat)(e:MapEntry)(p:D×D),vs[i]?=some e->es[i]?=some p->(∀(O:Nat->Prop)(w:World),Ax O w e.key p.1)/\(∀(O:Nat->Prop)(w:World),Ax O w e.val p.2)/\p.1.bare=true/\p.2.bare=true:=λi e p d hp =>
  ⟨λ_ _=>Tb (hr i e p d hp).1 (hr i e p d hp).2.2.1,λ_ _=>Tb (hr i e p d hp).2.1 (hr i e p d hp).2.2.2,(hr i e p d hp).2.2⟩
 cases hj:Ry q es with
 | none =>
   rw[hj]at c;simp only at c;rw[aj y hj];refine .inr (.inl ⟨{ w with heap:=w.heap.setIfInBounds b (.map (vs.push { key:=a.eval k,val:=a.eval x,born:=f }) (f+1)) },?_,β,?_,trivial,rfl⟩)
   ·simp[execOp,ho,Instr.mapUpdate,run_underlying Y,J,MapKept.run_getObj_map E,MapKept.run_checkKey u r,MapKept.run_findKey u c,run_setObj_map _ E,Result.andThen]
   ·refine jd h N hn Q E (by simp[L]) λi e p d hp=>?_;by_cases R:i<vs.size
    ·exact K i e p (by rw[Array.getElem?_push]at d;rw[tn (by omega)]at d;exact d) (by rw[tq (by omega)]at hp;exact hp)
    ·have T:i=vs.size:=by
      have:=(List.getElem?_eq_some_iff.1 hp).1;simp at this;omega
     subst T;simp at d;rw[tj (by omega)]at hp;simp[L]at hp;subst d;subst hp;exact⟨λ_ _=>Tb l v,λ_ _=>Tb H s,v,s⟩
 | some j =>
   rw[hj]at c;have z:=b9 hj;have A:j<vs.size:=by omega
   have U:vs.toList[j]?=some vs[j]:=by simp[A]
   simp only[U,ve]at c;rw[ak y hj];have V:=hr j vs[j] es[j] (by simp[A]) (P3 z);have C:vs[j].key=a.eval k:=nO (F _ (ta z)) (iN hj z) l V.1;refine .inr (.inl ⟨{ w with heap:=w.heap.setIfInBounds b (.map (vs.modify j λe=>{ e with key:=a.eval k,val:=a.eval x }) f) },?_,β,?_,trivial,rfl⟩)
   ·simp[execOp,ho,Instr.mapUpdate,run_underlying Y,J,MapKept.run_getObj_map E,MapKept.run_checkKey u r,MapKept.run_findKey u c,run_setObj_map _ E,Result.andThen,A,C,run_keyThatStays r]
   ·refine jd h N hn Q E (by simp[L]) λi e p d hp=>?_;rw[vr]at d;rw[tZ]at hp;by_cases R:j=i
    ·subst R;rw[tf rfl]at d hp;rw[tf z]at hp;simp[A]at d
     cases hp
     subst d;exact⟨λ_ _=>Tb l v,λ_ _=>Tb H s,v,s⟩
    ·rw[tn R]at d hp;exact K i e p d hp
end
section
variable {P:Program} {X:Cx} {G:Nat->Prop} {β:Nat->Value} {S:AS} {a:Act} {w:World} {o:Oper}
theorem mX{x:D}(h:x.one=true):(norm x).one=true:=by cases x<;>first|rfl|exact h
theorem Rq{ρ:Operand->RV}:∀{l:List Operand}{i k id n:Nat}{cs:List C},M9 ρ l i=some (k,id,n,cs)->∃j x,k=i+j/\l[j]?=some x/\ρ x=.vptr id n 0 cs
 | [],i,k,id,n,cs,h=>by simp[M9]at h
 | x :: r,i,k,id,n,cs,h=>by
   have go:M9 ρ r (i+1)=some (k,id,n,cs)->∃j y,k=i+j/\(x :: r)[j]?=some y/\ρ y=.vptr id n 0 cs:=λh=>by
    obtain⟨j,y,f,b,c⟩:=Rq h;exact⟨j+1,y,by omega,by simpa using b,c⟩
   unfold M9 at h;split at h
   ·rename_i d g e hx
    split at h
    ·cases h;exact⟨0,x,by omega,rfl,hx⟩
    ·exact go h
   ·exact go h
theorem Ro(h:SimB X G β S a w){g:Option (Nat×Bool)}(c:BW g a){k:Nat}:∀{l:List Operand}{i:Nat}{K:List AV->Prop},NJ (ρOf S g) k l i K->∃vs,K vs/\vs.length=l.length/\∀(j:Nat) p y,l[j]?=some p->vs[j]?=some y->Pr (OS β X S) w (a.eval p) y
 | [],i,K,hy=>⟨[],hy,rfl,λj p y hp _=>by simp at hp⟩
 | x :: r,i,K,hy=>by
   unfold NJ at hy;split at hy
   ·obtain⟨vs,d,e,f⟩:=Ro h c hy;refine⟨_,d,by simp[e],λj p y hp b=>?_⟩
    cases j with
    | zero=>simp at b;subst b;trivial
    | succ j=>exact f j p y (by simpa using hp) (by simpa using b)
   ·split at hy<;>try exact hy.elim
    rename_i y hx
    rw[NS]at hy;obtain⟨vs,d,e,f⟩:=Ro h c hy;have hr:=ρ_sound h c x;rw[hx]at hr;have hr:Ax (OS β X S) w (a.eval x) y:=hr;refine⟨_,d,by simp[e],λj p z hp b=>?_⟩
    cases j with
    | zero=>simp at hp b;subst hp;subst b;exact hr.norm
    | succ j=>exact f j p z (by simpa using hp) (by simpa using b)
structure GC(S:AS)(cl cs:List C):Prop where
 len:cl.length=cs.length
 at_:∀(j:Nat) c c',cl[j]?=some c->cs[j]?=some c'->(∃x,c=.d x/\c'=.d (norm x))\/(∃rid rn i' n' sz e xs,c=.sl rid rn/\c'=.own sz e xs/\σOf S rid rn=.row i' n' sz e xs)
theorem Qi:∀{i:List C}{K:List C->Prop},Ji (σOf S) i K->∃cs,K cs/\GC S i cs
 | [],K,h=>⟨[],h,rfl,λj c c' d=>by simp at d⟩
 | c :: r,K,h=>by
   unfold Ji at h;split at h
   ·rename_i x
    rw[NS]at h;obtain⟨cs,g,f⟩:=Qi h;refine⟨_,g,by simp[f.len],λj c c' d b=>?_⟩
    cases j with
    | zero=>simp at d b;subst d;subst b;exact .inl ⟨x,rfl,rfl⟩
    | succ j=>exact f.at_ j c c' (by simpa using d) (by simpa using b)
   ·rename_i id n
    split at h<;>try exact h.elim
    rename_i k l sz e xs hr
    obtain⟨cs,g,f⟩:=Qi h;refine⟨_,g,by simp[f.len],λj c c' d b=>?_⟩
    cases j with
    | zero=>simp at d b;subst d;subst b;exact .inr ⟨id,n,k,l,sz,e,xs,rfl,rfl,hr⟩
    | succ j=>exact f.at_ j c c' (by simpa using d) (by simpa using b)
   ·exact h.elim
structure GB(cl cs' l:List C)(ub:Bx):Prop where
 len:cl.length=cs'.length
 len2:l.length=cl.length
 at_:∀(j:Nat) c c' d,cl[j]?=some c->cs'[j]?=some c'->l[j]?=some d->(∃x y,c=.d x/\c'=.d y/\d=.d y)\/(∃rid rn sz e ys,c=.sl rid rn/\c'=.own sz e ys/\d=.sl rid (rn+1)/\(rid,BA.row sz e ys,rn+1)∈ub)
 of:∀y∈ub,∃(j rn sz:Nat)(e:TypeId)(ys:List D),cl[j]?=some (.sl y.1 rn)/\cs'[j]?=some (.own sz e ys)/\y=(y.1,BA.row sz e ys,rn+1)
 nodup:(ub.map (·.1)).Nodup
 inj:∀(i j:Nat) q n n',cl[i]?=some (.sl q n)->cl[j]?=some (.sl q n')->i=j
theorem Rp:∀{N D:List C}{K:List C->Bx->Prop},Tj N D K->∃l ub,K l ub/\GB N D l ub
 | [],[],K,h=>⟨[],[],h,rfl,rfl,(λj c c' d m=>by simp at m),(λy hy=>by cases hy),List.nodup_nil,(λi j q n v k=>by simp at k)⟩
 | [],c' :: r',K,h=>by cases c'<;>exact h.elim
 | c :: r,[],K,h=>by cases c<;>exact h.elim
 | c :: r,c' :: r',K,h=>by
   cases c with
   | own _ _ _=>cases c'<;>exact h.elim
   | d x =>
     cases c' with
     | sl _ _=>exact h.elim
     | own _ _ _=>exact h.elim
     | d y =>
       simp only[Tj]at h;obtain⟨l,ub,E,b⟩:=Rp h;refine⟨_,ub,E,by simp[b.len],by simp[b.len2],λj c c' d m f hd=>?_,λz A=>?_,b.nodup,λi j q n v k g=>?_⟩
       ·cases j with
        | zero=>simp at m f hd;subst m;subst f;subst hd;exact .inl ⟨x,y,rfl,rfl,rfl⟩
        | succ j=>exact b.at_ j c c' d (by simpa using m) (by simpa using f) (by simpa using hd)
       ·obtain⟨j,B,sz,e,ys,F,H,p⟩:=b.of z A;exact⟨j+1,B,sz,e,ys,by simpa using F,by simpa using H,p⟩
       ·cases i with
        | zero=>simp at k
        | succ i=>cases j with
          | zero=>simp at g
          | succ j=>rw[b.inj i j q n v (by simpa using k) (by simpa using g)]
   | sl q n =>
     cases c' with
     | sl _ _=>exact h.elim
     | d _=>exact h.elim
     | own sz e ys =>
       simp only[Tj]at h;obtain⟨l,ub,E,b⟩:=Rp h;split at E
       ·rename_i s
        have s:=Gz s
        have hq:∀(j v:Nat),r[j]?=some (.sl q v)->False:=by
         intro j v g;have I:=A7 g;have F:r'[j]?=some (r'[j]'(by rw[<-b.len];exact I)):=P3 _;have H:l[j]?=some (l[j]'(by rw[b.len2];exact I)):=P3 _;rcases b.at_ j _ _ _ g F H with⟨x,y,p,_⟩|⟨J,B,t,L,u,p,_,_,M⟩
         ·cases p
         ·cases p;exact s _ M rfl
        refine⟨_,_,E,by simp[b.len],by simp[b.len2],λj c c' d m f hd=>?_,λz A=>?_,?_,λi j Q v O k g=>?_⟩
        ·cases j with
         | zero=>simp at m f hd;subst m;subst f;subst hd;exact .inr ⟨q,n,sz,e,ys,rfl,rfl,rfl,uH ..⟩
         | succ j =>
           rcases b.at_ j c c' d (by simpa using m) (by simpa using f) (by simpa using hd)with h|⟨J,B,t,L,u,p,M,R,T⟩
           ·exact .inl h
           ·exact .inr ⟨J,B,t,L,u,p,M,R,ut _ T⟩
        ·rcases List.mem_cons.1 A with rfl|A
         ·exact⟨0,n,sz,e,ys,rfl,rfl,rfl⟩
         ·obtain⟨j,B,t,L,u,F,H,p⟩:=b.of z A;exact⟨j+1,B,t,L,u,by simpa using F,by simpa using H,p⟩
        ·simp only[tg,List.nodup_cons];refine⟨λU=>?_,b.nodup⟩;obtain⟨z,A,e⟩:=List.mem_map.1 U;exact s z A e
        ·cases i with
         | zero=>cases j with
           | zero=>rfl
           | succ j =>
             simp at k g;obtain⟨rfl,rfl⟩:=k;exact(hq j O g).elim
         | succ i=>cases j with
           | zero =>
             simp at k g;obtain⟨rfl,rfl⟩:=g;exact(hq i v k).elim
           | succ j=>rw[b.inj i j Q v O (by simpa using k) (by simpa using g)]
       ·exact E.elim
def si(cl:List C)(i:Nat):Option Nat:=(List.range cl.length).find? λ(j:Nat)=>match cl[j]? with|some (.sl q _)=>q==i|_=>false
theorem mr{b:List C}{i j n:Nat}(d:b[j]?=some (.sl i n))(c:∀(i j:Nat) q n e,b[i]?=some (.sl q n)->b[j]?=some (.sl q e)->i=j):si b i=some j:=by
 unfold si
 cases hf:(List.range b.length).find? λ(j:Nat)=>match b[j]? with|some (.sl q _)=>q==i|_=>false with
 | none =>
   rw[vK]at hf;have:=hf j (List.mem_range.2 (A7 d));rw[d]at this;simp at this
 | some j' =>
   have f:=List.find?_some hf;split at f
   ·rename_i q e g
    have:q=i:=by simpa using f
    subst this;rw[c j' j q e n g d]
   ·cases f
theorem fT(h:SimB X G β S a w){g:Option (Nat×Bool)}(hg:BW g a){c:Call}(ho:o.op=.call c){fo:Operand}(Y:c.callee=.value fo){f:FuncId}(hf:ρOf S g fo=.d (.fn f []))
 {k id n:Nat} {L:List C} (hfind:M9 (ρOf S g) c.args.toList 0=some (k,id,n,L)) {K:Hy->Prop}
 (hy:NJ (ρOf S g) k c.args.toList 0 λvs=>Ji (σOf S) L λcs=>lr P f vs k cs λO r=>Tj L O λl ub=>if FH id ub=true then K ⟨.d r,ub++[(id,.var l,n)],[]⟩else False):∃e,K e/\Dx P X G S a w o e:=by
 obtain⟨vs,hy,hlen,hargs⟩:=Ro h hg hy;obtain⟨cs,hy,V⟩:=Qi hy;obtain⟨O,r,hcall,hy⟩:=hy.go;obtain⟨l,ub,hy,F⟩:=Rp hy
 obtain⟨hni,hy⟩:FH id ub=true/\K ⟨.d r,ub++[(id,.var l,n)],[]⟩:=by
  split at hy
  ·rename_i Z;exact⟨Z,hy⟩
  ·exact hy.elim
 have hni:=Gz hni;refine⟨_,hy,?_⟩;have hfv:=ρ_sound h hg fo;rw[hf]at hfv;have hfv:Ax (OS β X S) w (a.eval fo) (.fn f []):=hfv
 obtain⟨fvs,hfe,hfs⟩:∃fvs:Array Value,a.eval fo=.func (.func f) #[] fvs/\fvs=#[]:=by
  generalize a.eval fo=v at hfv
  cases hfv with
  | fn _ fvs _ hl _ _=>exact⟨fvs,rfl,by simpa using hl⟩
 subst hfs
 have hrun:(execOp a.eval o).run P w=.ok (.enter f (c.args.map a.eval)) w:=by
  simp only[execOp,ho,resolve,Y,hfe,Deferred.ofValue,Sem.run_bind,Sem.run_pure,Result.andThen_ok,invoke];simp only[wh,Array.append_empty];rw[Jc hcall.1]
 obtain⟨kj,x,hkj,hxk,hxr⟩:=Rq hfind;obtain rfl:k=kj:=by omega
 have hpv:=ρ_sound h hg x;rw[hxr]at hpv;obtain⟨hbx,hver,b,hβ,hpe⟩:=hpv;have R:=h.boxes id;rw[hbx]at R;obtain⟨b',vals,T,hβ',hh,hvs,hcell⟩:=R;obtain rfl:b'=b:=by rw[hβ]at hβ';simp at hβ';exact hβ'.symm
 have ho1:(Ai S id).box.owned=true:=by rw[hbx];rfl
 have hbb:Af (β id)=some b':=by rw[hβ];rfl
 have hid:=NM hbx (by simp);have hlt:=h.blk ho1 hbb
 have hcv:∀{j:Nat}{c:C},L[j]?=some c->∃v,vals[j]?=some v:=λ{j c} W=>by
  have:j<vals.size:=by rw[hvs];exact A7 W
  exact⟨vals[j],by simp[this]⟩
 have hcs:∀{j:Nat}{c:C},L[j]?=some c->∃c',cs[j]?=some c':=λ{j c} W=>⟨cs[j]'(by rw[<-V.len];exact A7 W),P3 _⟩
 have Q:∀(j d s:Nat),L[j]?=some (.sl d s)->d≠id/\∃(sz:Nat)(e:TypeId)(xs:List D),cs[j]?=some (.own sz e xs)/\vals[j]?=some (β d)/\(Ai S d).box=.row sz e xs/\(Ai S d).ver=s:=by
  intro j d s W;obtain⟨u,hu⟩:=hcv W;obtain⟨c',t⟩:=hcs W;have hcu:=hcell j u _ hu W;rcases V.at_ j _ _ W t with⟨x,Z,_⟩|⟨rid',rn',i',n',sz,e,xs,Z,rfl,h3⟩
  ·cases Z
  ·cases Z
   have hσ:=σ_sound h hcu;rw[h3]at hσ;obtain⟨hrb,hrv,hru⟩:=hσ
   obtain⟨rfl,rfl⟩:i'=d/\n'=s:=by
    simp only[σOf,res]at h3;split at h3<;>(try (split at h3))<;>cases h3<;>exact⟨rfl,rfl⟩
   refine⟨λe=>?_,sz,e,xs,t,by rw[hu,hru],hrb,hrv⟩;subst e;rw[hbx]at hrb;cases hrb
 have hro:∀{d:Nat}{sz:Nat}{e:TypeId}{xs:List D},(Ai S d).box=.row sz e xs->(Ai S d).box.owned=true:=λh=>by rw[h];rfl
 have M:∀c,G0 vals cs c->∃(j d s:Nat),L[j]?=some (.sl d s)/\(Ai S d).box.owned=true/\Af (β d)=some c/\d≠id:=by
  rintro c ⟨j,u,sz,e,xs,Z,h2,h3⟩;have hjl:j<L.length:=by rw[V.len];exact A7 h2
  have A:L[j]?=some L[j]:=P3 hjl;rcases V.at_ j _ _ A h2 with⟨x,_,h4⟩|⟨d,s,i',n',sz',e',xs',h4,h5,_⟩
  ·cases h4
  ·rw[h4]at A;obtain⟨k1,sz2,e2,xs2,_,k3,k4,_⟩:=Q j d s A;rw[Z]at k3
   cases k3
   exact⟨j,d,s,A,hro k4,h3,k1⟩
 have hrownblk:∀(j d s c:Nat),L[j]?=some (.sl d s)->Af (β d)=some c->G0 vals cs c:=by
  intro j d s c W hb;obtain⟨_,sz,e,xs,k2,k3,_,_⟩:=Q j d s W;exact⟨j,_,sz,e,xs,k3,k2,hb⟩
 have hneb:∀c,G0 vals cs c->c≠b':=by
  intro c Y e;subst e;obtain⟨j,d,s,_,h2,h3,h4⟩:=M c Y;exact h4 (h.inj d id c h2 ho1 h3 hbb)
 have hO:∀c,(OS β X S c/\c≠b'/\¬G0 vals cs c)\/c=b'\/G0 vals cs c->OS β X S c:=by
  intro c Y;rcases Y with Y|rfl|Y
  ·exact Y.1
  ·exact .inr (.inr ⟨id,ho1,hbb⟩)
  ·obtain⟨j,d,s,_,h2,h3,_⟩:=M c Y;exact .inr (.inr ⟨d,h2,h3⟩)
 have:=hcall.2 (λc=>OS β X S c/\c≠b'/\¬G0 vals cs c) w (c.args.map a.eval) b' vals (λc Y=>h.os_lt Y.1) (λq l hq=>(h.glob q l hq).mono (B7.of_sub hO)) (by simp[hlen])
  (by
   rw[<-tU];simp only[vU,tr];have:c.args.toList[k]?=some x:=by simpa using hxk
   rw[this];simp[hpe])
  ⟨⟨T,hh⟩,by rw[hvs,V.len],λj v c' hv t=>by
    have hjl:j<L.length:=by rw[V.len];exact A7 t
    have A:L[j]?=some L[j]:=P3 hjl;have hrc:=hcell j v _ hv A;rcases V.at_ j _ _ A t with⟨y,Z,rfl⟩|⟨d,s,i',n',sz,e,xs,Z,rfl,_⟩
    ·rw[Z]at hrc;exact⟨(hrc.1.mono (B7.of_sub hO)).norm,mX hrc.2⟩
    ·rw[Z]at A;obtain⟨_,sz2,e2,xs2,k2,k3,k4,_⟩:=Q j d s A;rw[t]at k2
     cases k2
     rw[hv]at k3
     cases k3
     have hb2:=h.boxes d;rw[k4]at hb2;obtain⟨l1,l2,rv,l3,l4⟩:=hb2;exact⟨l1,l2,rv,l3,l4.mono (B7.of_sub hO)⟩,hneb,λi j u u' sz e xs sz' e' xs' c' hu hu' hci hcj hbi hbj=>by
    have g:∀(i:Nat) u sz e xs,vals[i]?=some u->cs[i]?=some (.own sz e xs)->∃d s,L[i]?=some (.sl d s)/\u=β d/\(Ai S d).box.owned=true:=by
     intro i u sz e xs hu hci;have hjl:i<L.length:=by rw[V.len];exact A7 hci
     have A:L[i]?=some L[i]:=P3 hjl;rcases V.at_ i _ _ A hci with⟨y,_,Z⟩|⟨d,s,i',n',sz',e',xs',Z,_,_⟩
     ·cases Z
     ·rw[Z]at A;obtain⟨_,sz2,e2,xs2,k2,k3,k4,_⟩:=Q i d s A;rw[hu]at k3;exact⟨d,s,A,sY k3,hro k4⟩
    obtain⟨r1,n1,J,rfl,H⟩:=g i u sz e xs hu hci;obtain⟨r2,n2,N,rfl,g4⟩:=g j u' sz' e' xs' hu' hcj;have:=h.inj r1 r2 c' H g4 hbi hbj;subst this;exact F.inj i j r1 n1 n2 J N⟩ (λc' t hx=>by
    rcases t with rfl|t
    ·exact hx.2.1 rfl
    ·exact hx.2.2 t)
  (λi v y hv hy=>by
   rw[<-tU]at hv;simp only[vU,tr]at hv
   cases hp:c.args.toList[i]? with
   | none=>rw[hp]at hv;cases hv
   | some p =>
     rw[hp]at hv;obtain rfl:a.eval p=v:=by simpa using hv
     exact(hargs i p y hp hy).mono (B7.of_sub hO))
 refine .inr (.inr ⟨f,_,hrun,this.mono λe' w' ⟨v,z,Z,h2,hV',h4,h5⟩=>⟨v,Z,?_⟩⟩);have hsz2:=h2.size;obtain⟨T',hh'⟩:=hV'.cells
 have hvat:∀{j:Nat}{c:C},O[j]?=some c->∃u,z[j]?=some u:=λ{j c} W=>by
  have:j<z.size:=by rw[hV'.size];exact A7 W
  exact⟨z[j],by simp[this]⟩
 have hnd:((ub++[(id,BA.var l,n)]).map (·.1)).Nodup:=by
  rw[tA,v7];refine⟨F.nodup,by simp,λp hp q hq e=>?_⟩;obtain⟨y,hy,rfl⟩:=List.mem_map.1 hp;simp at hq;exact hni y hy (by rw[e,hq])
 have hubr:∀y∈ub,∃(j s sz:Nat)(e:TypeId)(ys:List D)(u:Value),L[j]?=some (.sl y.1 s)/\O[j]?=some (.own sz e ys)/\z[j]?=some u/\y=(y.1,BA.row sz e ys,s+1)/\si L y.1=some j:=by
  intro y hy;obtain⟨j,s,sz,e,ys,J,H,N⟩:=F.of y hy;obtain⟨u,hu⟩:=hvat H;exact⟨j,s,sz,e,ys,u,J,H,hu,N,mr J F.inj⟩
 let E:Nat->Option (BA×Nat×Value):=λi=>if i=id then some (.var l,n,β id)else match ub.find? (λy=>y.1==i)with
  | some y=>some (y.2.1,y.2.2,(((si L i).bind λj=>z[j]?).getD undef))
  | none=>none
 let β':Nat->Value:=λi=>match E i with|some (_,_,v)=>v|none=>β i
 have hEr:∀i B m v,E i=some (B,m,v)->(i=id/\B=.var l/\m=n/\v=β id)\/(i≠id/\∃(j s sz:Nat)(e:TypeId)(ys:List D),L[j]?=some (.sl i s)/\O[j]?=some (.own sz e ys)/\z[j]?=some v/\B=.row sz e ys/\m=s+1):=by
  intro i B m v I;by_cases e:i=id
  ·simp only[E,tf e]at I
   cases I
   exact .inl ⟨e,rfl,rfl,rfl⟩
  ·simp only[E,tn e]at I;split at I
   ·rename_i y hy
    have hy:=S3 hy;have e2:y.1=i:=by simpa using hy.2
    obtain⟨j,s,sz,e',ys,u,J,H,N,g4,g5⟩:=hubr y hy.1;rw[e2]at J g5;rw[g5,g4]at I;simp only[tc,N,uz,Option.some.injEq,Prod.mk.injEq]at I;obtain⟨rfl,rfl,rfl⟩:=I;exact .inr ⟨e,j,s,sz,e',ys,J,H,N,rfl,rfl⟩
   ·cases I
 have hEof:∀(j d s:Nat),L[j]?=some (.sl d s)->∃B v,E d=some (B,s+1,v)/\z[j]?=some v:=by
  intro j d s W;obtain⟨hne,_⟩:=Q j d s W;have t:O[j]?=some (O[j]'(by rw[<-F.len];exact A7 W)):=P3 _;have hl':l[j]?=some (l[j]'(by rw[F.len2];exact A7 W)):=P3 _;rcases F.at_ j _ _ _ W t hl' with⟨x,y,J,_⟩|⟨rid',rn',sz,e,ys,J,H,N,g4⟩
  ·cases J
  ·cases J
   obtain⟨u,hu⟩:=hvat t
   have hfind:ub.find? (λy=>y.1==d)=some (d,BA.row sz e ys,s+1):=by
    cases hf:ub.find? (λy=>y.1==d)with
    | none =>
      rw[vK]at hf;exact absurd (by simp) (hf _ g4)
    | some y =>
      have hy:=S3 hf;have:y.1=d:=by simpa using hy.2
      rw[SD F.nodup hy.1 g4 this]
   refine⟨BA.row sz e ys,u,?_,hu⟩;simp only[E,tn hne,hfind,mr W F.inj,tc,hu,uz]
 have hS:∀i,Ai (Bj (ub++[(id,.var l,n)]) S) i=match E i with|some (B,m,_)=>⟨(Ai S i).av,B,m⟩|none=>Ai S i:=by
  intro i
  rw[SK _ S i (λy hy=>by
   rcases List.mem_append.1 hy with hy|hy
   ·obtain⟨j,s,sz,e,ys,u,J,_⟩:=hubr y hy;obtain⟨_,_,_,_,_,_,k4,_⟩:=Q j y.1 s J;exact NM k4 (by simp)
   ·simp at hy;subst hy;exact hid) hnd,List.find?_append]
  by_cases e:i=id
  ·subst e
   have:ub.find? (λy=>y.1==i)=none:=by
    rw[vK];intro y hy hh;exact hni y hy (by simpa using hh)
   simp[E,this]
  ·simp only[E,tn e]
   cases hf:ub.find? (λy=>y.1==i)with
   | some y=>rfl
   | none =>
     have:([(id,BA.var l,n)]:Bx).find? (λy=>y.1==i)=none:=by
      rw[vK];intro y hy hh;simp at hy;subst hy;exact e (by simpa using(by simpa using hh:id=i).symm)
     rw[this];rfl
 have hOS:∀c',OS β' X (Bj (ub++[(id,.var l,n)]) S) c'->(OS β X S c'/\c'≠b'/\¬G0 vals cs c')\/c'=b'\/G0 z O c':=by
  intro c' t;by_cases eb:c'=b'
  ·exact .inr (.inl eb)
  by_cases eu:G0 z O c'
  ·exact .inr (.inr eu)
  have key:OS β X S c'/\¬G0 vals cs c':=by
   have hx:∀i,(Ai S i).box.owned=true->Af (β i)=some c'->E i=none->¬G0 vals cs c':=by
    intro i hi hb I Y;obtain⟨j,d,s,J,H,N,_⟩:=M c' Y;have:=h.inj i d c' hi H hb N;subst this;obtain⟨B,v,hE',_⟩:=hEof j i s J;rw[I]at hE';cases hE'
   rcases t with t|t|⟨i,hi1,U⟩
   ·refine⟨.inl t,λY=>?_⟩;obtain⟨j,d,s,_,H,N,_⟩:=M c' Y;have h0:=h.o₀ c' t;rcases(h.mine d c' H N).1 with g4|g4
    ·omega
    ·exact h0.2 g4
   ·refine⟨.inr (.inl t),λY=>?_⟩;obtain⟨j,d,s,_,H,N,_⟩:=M c' Y;exact(h.mine d c' H N).2 t
   ·rw[hS]at hi1;have U:Af (match E i with|some (_,_,v)=>v|none=>β i)=some c':=U
    cases I:E i with
    | none =>
      rw[I]at hi1 U;exact⟨.inr (.inr ⟨i,hi1,U⟩),hx i hi1 U I⟩
    | some q =>
      obtain⟨B,m,v⟩:=q;rw[I]at hi1 U;simp only at U;rcases hEr i B m v I with⟨_,_,_,rfl⟩|⟨_,j,s,sz,e,ys,J,H,N,g4,_⟩
      ·rw[hbb]at U;cases U;exact(eb rfl).elim
      ·exact(eu ⟨j,v,sz,e,ys,N,H,U⟩).elim
  exact .inl ⟨key.1,eb,key.2⟩
 have hsim:SimB X G β' (Bj (ub++[(id,.var l,n)]) S) a w':=by
  refine h.multi E hS (λi=>rfl) (Cp _ _) hsz2 ?_ (λi B m v I=>?_) (λc' t hk=>?_) (λi B m v c' I hB R=>?_) (λi j B m v B2 m2 v2 c' I hE2 hB hB2 R hbv2=>?_) (λhkept hvv i B m v I=>?_)
  ·refine h2.weaken h.hbase λq hq hm hq'=>hm ?_;rcases hq' with rfl|hq'
   ·exact((h.mine id q ho1 hbb).1).resolve_left (by omega)
   ·obtain⟨j,d,s,_,H,N,_⟩:=M q hq';exact((h.mine d q H N).1).resolve_left (by omega)
  ·rcases hEr i B m v I with⟨rfl,_,rfl,rfl⟩|⟨_,j,s,sz,e,ys,J,_,_,_,rfl⟩
   ·exact .inr ⟨hver.symm,rfl,by rw[hbx];simp⟩
   ·obtain⟨_,_,_,_,_,_,_,k5⟩:=Q j i s J;exact .inl (by omega)
  ·refine h2.block c' t λhm=>?_;rcases hm with rfl|hm
   ·exact hk id (.var l) n (β id) (by simp[E]) ho1 hbb
   ·obtain⟨j,d,s,J,H,N,_⟩:=M c' hm;obtain⟨B,v,I,_⟩:=hEof j d s J;exact hk d B (s+1) v I H N
  ·rcases hEr i B m v I with⟨rfl,rfl,rfl,rfl⟩|⟨_,j,s,sz,e,ys,J,H,N,rfl,rfl⟩
   ·exact .inl ⟨i,_,_,_,I,ho1,R⟩
   ·rcases h4 c' ⟨j,v,sz,e,ys,N,H,R⟩with g6|g6
    ·obtain⟨j2,d,rn2,g7,g8,g9,_⟩:=M c' g6;obtain⟨B2,v2,hE2,_⟩:=hEof j2 d rn2 g7;exact .inl ⟨d,B2,_,v2,hE2,g8,g9⟩
    ·exact .inr g6
  ·rcases hEr i B m v I with⟨rfl,rfl,rfl,rfl⟩|⟨_,j1,s,sz,e,ys,J,H,N,rfl,rfl⟩<;>rcases hEr j B2 m2 v2 hE2 with⟨rfl,rfl,rfl,rfl⟩|⟨_,j2,rn2,sz2,e2,ys2,g1',g2',g3',rfl,rfl⟩
   ·rfl
   ·rw[hbb]at R;cases R;exact absurd rfl (hV'.ne b' ⟨j2,v2,sz2,e2,ys2,g3',g2',hbv2⟩)
   ·rw[hbb]at hbv2;cases hbv2;exact absurd rfl (hV'.ne b' ⟨j1,v,sz,e,ys,N,H,R⟩)
   ·have:=hV'.inj j1 j2 v v2 _ _ _ _ _ _ c' N g3' H g2' R hbv2;subst this;rw[J]at g1'
    cases g1';rfl
  ·rcases hEr i B m v I with⟨rfl,rfl,rfl,rfl⟩|⟨_,j,s,sz,e,ys,J,H,N,rfl,rfl⟩
   ·have hβi:β' i=β i:=by show(match E i with|some (_,_,v)=>v|none=>β i)=_;rw[I]
    refine⟨b',z,T',by rw[hβi];exact hβ,hh',by rw[hV'.size,<-F.len,F.len2],λj v c' hv t=>?_⟩;have hjl:j<L.length:=by rw[<-F.len2];exact A7 t
    have A:L[j]?=some L[j]:=P3 hjl;have hcs':O[j]?=some (O[j]'(by rw[<-F.len];exact hjl)):=P3 _;have hg:=hV'.rep j v _ hv hcs';rcases F.at_ j _ _ _ A hcs' t with⟨x,y,J,H,rfl⟩|⟨d,s,sz,e,ys,J,H,rfl,g4⟩
    ·rw[H]at hg;exact⟨hg.1.mono (B7.of_sub hOS),hg.2⟩
    ·rw[J]at A;obtain⟨B,v',hE',hv'⟩:=hEof j d s A;rw[hv]at hv'
     cases hv'
     have hvr:AM (Bj (ub++[(i,.var l,m)]) S) d=s+1:=by simp only[AM,hS,hE']
     exact⟨by rw[hvr];exact td _,λ_=>by show _=(match E d with|some (_,_,v)=>v|none=>β d);rw[hE']⟩
   ·have hβi:β' i=v:=by show(match E i with|some (_,_,v)=>v|none=>β i)=_;rw[I]
    obtain⟨g4,g5,rv,g6,g7⟩:=hV'.rep j v _ N H;exact⟨g4,g5,rv,by rw[hβi];exact g6,g7.mono (B7.of_sub hOS)⟩
 exact⟨β',hsim,Ax.mono (B7.of_sub hOS) h5,rfl⟩
