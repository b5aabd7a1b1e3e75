/- M2 -/
import Derived.Test.YtaojdkijihbaoaaGreatDoorM1
import Derived.Laws.StructEq
import Derived.Laws.Concat
import Derived.Lib.ConvBytes
import Derived.Laws.CopyOwn
import Derived.Laws.OwnMore
import Derived.MapKept
set_option linter.all false
namespace Go.Abs
open Go.RowKit (Below)
theorem Al{c p:Prop}[Decidable c](h:if c then p else False):c/\p:=by grind
section
variable {P:Program} {X:Cx} {G:Nat->Prop} {β:Nat->Value} {S:AS} {a:Act} {w:World} {o:Oper}
def Sm(X:Cx)(G:Nat->Prop)(S:AS)(a:Act)(e:Hn)(v:Value)(w':World):Prop :=
 ∃β',SimB X G β' (Bh e.bx S) a w'/\JX β' (AH (Bh e.bx S)) (OS β' X (Bh e.bx S)) w' a.tmps v e.av/\e.av.guards=[]
def Dp(P:Program)(X:Cx)(G:Nat->Prop)(S:AS)(a:Act)(w:World)(o:Oper)(e:Hn):Prop :=
 (∃v w',(execOp a.eval o).run P w=.ok (.value v) w'/\Sm X G S a e v w') \/
 (∃w',(execOp a.eval o).run P w=.ok .skip w'/\Sm X G S a e undef w') \/
 (∃f args,(execOp a.eval o).run P w=.ok (.enter f args) w/\Calls P f args w λe' w'=>∃v,e'=.returned v/\Sm X G S a e v w')
theorem AM(h:SimB X G β S a w){v:Value}{x:AV}(b:(execOp a.eval o).run P w=.ok (.value v) w)
 (hr:JX β (AH S) (OS β X S) w a.tmps v x) (c:x.guards=[]):Dp P X G S a w o ⟨x,[],[]⟩ :=
 .inl ⟨v,w,b,β,h,hr,c⟩
theorem Nw{O:Nat->Prop}{tm:Array Value}{v:Value}{r:RV}(h:Pa β O S w v r):JX β (AH S) O w tm v (back r)/\(back r).guards=[]:=by
 cases r with
 | any=>exact⟨trivial,rfl⟩
 | bot=>exact h.elim
 | d x=>exact⟨h,rfl⟩
 | lim sz xs=>exact⟨h,rfl⟩
 | vptr id n o cs=>obtain⟨_,b,c⟩:=h;exact⟨⟨vU b.symm,λ_=>c⟩,rfl⟩
 | row id n sz e xs=>obtain⟨_,b,c⟩:=h;exact⟨⟨vU b.symm,λ_=>c⟩,rfl⟩
 | eptr id n sz e xs i o=>obtain⟨_,b,c⟩:=h;exact⟨⟨vU b.symm,λ_=>c⟩,rfl⟩
 | tup xs=>exact⟨h,rfl⟩
 | cagg xs=>exact⟨h,rfl⟩
 | cfun f xs=>exact⟨h,rfl⟩
 | clo f xs k id n rid rn=>exact⟨h.1,rfl⟩
 | mp id n es=>obtain⟨_,b,c⟩:=h;exact⟨⟨vU b.symm,λ_=>c⟩,rfl⟩
theorem EH{O:Nat->Prop}{v:Value}{b:Bool}(h:Ay O w v (.bool b)):v=.bool b:=by cases h;rfl
theorem AJ{O:Nat->Prop}{v:Value}{k:IntKind}{n:Int}(h:Ay O w v (.int k n)):v=.int k n:=by cases h;rfl
theorem KS{O:Nat->Prop}{v:Value}{s:ByteArray}(h:Ay O w v (.str s)):v=.string s:=by cases h;rfl
theorem UR{O:Nat->Prop}{v:Value}{x:D}(h:Ay O w v x)(b:x.one=true):v.oneCell'=true:=by cases h<;>first|rfl|(simp[D.one]at b)
theorem Zq(h:SimB X G β S a w){g:Option (Nat×Bool)}(c:Ce g a){x:Operand}(ho:o.op=.move x\/o.op=.assign x) :
 Dp P X G S a w o ⟨back (ρOf S g x),[],[]⟩:=by
 have b:=Nw (tm:=a.tmps) (ρ_sound h c x);refine AM h (v:=a.eval x) ?_ b.1 b.2;rcases ho with ho|ho<;>simp[execOp,ho]
theorem jC(h:SimB X G β S a w){g:Option (Nat×Bool)}(m:Ce g a){t:Nat}{x y:Operand}(ho:o.op=.pick (.tmp t) x y){c f i:Bool}
 (n:ρOf S g (.tmp t)=.d (.bool c)) (hx:ρOf S (some (t,true)) x=.d (.bool f)) (hy:ρOf S (some (t,false)) y=.d (.bool i)) :
 Dp P X G S a w o ⟨.d (.bool (bif c then f else i)),[],[]⟩:=by
 have j:=ρ_sound h m (.tmp t);rw[n]at j;have d:=EH j
 have k:a.tmps[t]?=some (.bool c):=by
  simp only[Act.eval,Array.getD]at d;split at d
  ·simp_all
  ·simp[undef]at d
 have l:(execOp a.eval o).run P w=.ok (.value (if c then a.eval x else a.eval y)) w:=by simp[execOp,ho,d,asBool]
 cases c with
 | true =>
   have b:=ρ_sound h (g:=some (t,true)) (λp w' e=>by cases e;exact k) x;rw[hx]at b;exact AM h (v:=a.eval x) (by grind) b rfl
 | false =>
   have b:=ρ_sound h (g:=some (t,false)) (λp w' e=>by cases e;exact k) y;rw[hy]at b;exact AM h (v:=a.eval y) (by grind) b rfl
theorem fk(h:SimB X G β S a w){g:Option (Nat×Bool)}(l:Ce g a){t:Nat}{x y:Operand}(ho:o.op=.pick (.tmp t) x y){c f:Bool}
 (m:ρOf S g (.tmp t)=.d (.bool c)) (hx:ρOf S (some (t,true)) x=.bot) (hy:ρOf S (some (t,false)) y=.d (.bool f)) :
 Dp P X G S a w o ⟨.d (.bool f),[],[]⟩:=by
 have i:=ρ_sound h l (.tmp t);rw[m]at i;have d:=EH i
 have j:a.tmps[t]?=some (.bool c):=by
  simp only[Act.eval,Array.getD]at d;split at d
  ·simp_all
  ·simp[undef]at d
 have k:(execOp a.eval o).run P w=.ok (.value (if c then a.eval x else a.eval y)) w:=by simp[execOp,ho,d,asBool]
 cases c with
 | true =>
   have b:=ρ_sound h (g:=some (t,true)) (λn w' e=>by cases e;exact j) x;rw[hx]at b;exact b.elim
 | false =>
   have b:=ρ_sound h (g:=some (t,false)) (λn w' e=>by cases e;exact j) y;rw[hy]at b;exact AM h (v:=a.eval y) (by grind) b rfl
theorem fl(h:SimB X G β S a w){g:Option (Nat×Bool)}(l:Ce g a){t:Nat}{x y:Operand}(ho:o.op=.pick (.tmp t) x y){c f:Bool}
 (m:ρOf S g (.tmp t)=.d (.bool c)) (hx:ρOf S (some (t,true)) x=.d (.bool f)) (hy:ρOf S (some (t,false)) y=.bot) :
 Dp P X G S a w o ⟨.d (.bool f),[],[]⟩:=by
 have i:=ρ_sound h l (.tmp t);rw[m]at i;have d:=EH i
 have j:a.tmps[t]?=some (.bool c):=by
  simp only[Act.eval,Array.getD]at d;split at d
  ·simp_all
  ·simp[undef]at d
 have k:(execOp a.eval o).run P w=.ok (.value (if c then a.eval x else a.eval y)) w:=by simp[execOp,ho,d,asBool]
 cases c with
 | true =>
   have b:=ρ_sound h (g:=some (t,true)) (λn w' e=>by cases e;exact j) x;rw[hx]at b;exact AM h (v:=a.eval x) (by grind) b rfl
 | false =>
   have b:=ρ_sound h (g:=some (t,false)) (λn w' e=>by cases e;exact j) y;rw[hy]at b;exact b.elim
theorem Ho(b off j:Nat):(⟨b,off,none⟩:Addr).add j=⟨b,off+j,none⟩:=by unfold Addr.add;split<;>simp_all
theorem Uh{R:Nat->Value->D->Prop}:∀(cs:List D)(n:Nat),(∀(j:Nat) y,cs[j]?=some y->∃c,R (n+j) c y) ->
 ∃vs:List Value,vs.length=cs.length/\∀(j:Nat) v y,vs[j]?=some v->cs[j]?=some y->R (n+j) v y
 | [],n,_=>by simp_all
 | c :: r,n,h=>by
   obtain⟨v,d⟩:=h 0 c (by simp);obtain⟨vs,b,hr⟩:=Uh r (n+1) (λj y hy=>by have:=h (j+1) y (by grind);rwa [show n+(j+1)=n+1+j by omega]at this);refine⟨v :: vs,by simp[b],λj u y e hy=>?_⟩;grind
theorem Pb{t:TypeId}(h:Nt P t=some true):(isAgg t).run P w=.ok true w:=by
 unfold Nt at h;unfold isAgg;split at h<;>simp_all[run_underlying]
theorem Nu{t:TypeId}(h:Nt P t=some false):(isAgg t).run P w=.ok false w:=by
 unfold Nt at h;unfold isAgg;split at h
 ·simp at h
 ·simp at h
 ·rename_i d hd _ _ b
  simp only[Sem.run_bind,run_underlying b,Result.andThen_ok];rfl
 ·simp at h
theorem Vs{O:Nat->Prop}{t:TypeId}{cs:List D}{b off:Nat}{K:D->Prop}(hy:dj P t cs K)
 (k:∀(j:Nat) y,cs[j]?=some y->∃c,w.cell? ⟨b,off+j,none⟩=some c/\Ay O w c y/\y.one=true) :
 ∃x,K x/\∃v,(loadVar t ⟨b,off,none⟩).run P w=.ok v w/\Ay O w v x:=by
 unfold dj at hy;split at hy
 ·rename_i d
  split at hy
  ·rename_i i m
   rw[BW]at hy;split at hy
   ·rename_i e
    obtain⟨vs,n,hr⟩:=Uh (R:=λj c y=>w.cell? ⟨b,off+j,none⟩=some c/\Ay O w c y/\y.one=true) (cs.take i.size) 0
     (λj y hy=>by
      rw[uQ];refine k j y ?_;rw[vg]at hy;split at hy
      ·exact hy
      ·cases hy)
    have f:∀j,j<vs.length->∃y,(cs.take i.size)[j]?=some y:=λj h=>⟨_,P3 (by omega)⟩;refine⟨_,hy,.agg vs.toArray,?_,?_⟩
    ·have g:=run_loadCells_list (P:=P) w ⟨b,off,none⟩ vs (λj v p=>by
      have h:j<vs.length:=by grind
      obtain⟨y,hy⟩:=f j h;have:=(hr j v y p hy).1;rw[uQ]at this;rw[Ho];exact this)
     rw[n,e]at g;simp[loadVar,Pb d,sizeOf,typeInfo,m,g]
    ·refine .agg _ _ (by grind) ?_ ?_
     ·intro x hx;obtain⟨j,h⟩:=List.mem_iff_getElem?.1 hx;grind
     ·grind
   ·grind
  ·grind
 ·rename_i d
  split at hy
  ·rename_i y r
   obtain⟨c,l,q,_⟩:=k 0 y (by simp);refine⟨y,hy,c,?_,q⟩;rw[vF]at l;simp[loadVar,Nu d,run_load,l]
  ·grind
 ·grind
theorem Qb{t:TypeId}{x:Operand}{b off:Nat}{v:Value}(ho:o.op=.load t x)(hx:a.eval x=.pointer (some ⟨b,off,none⟩))
 (c:(loadVar t ⟨b,off,none⟩).run P w=.ok v w):(execOp a.eval o).run P w=.ok (.value v) w:=by
 simp[execOp,ho,Instr.loadAt,hx,Instr.sureAddr,c]
theorem Yr{O:Nat->Prop}{v:Value}{cs:List D}(h:Ay O w v (.ptr cs)):∃b off,v=.pointer (some ⟨b,off,none⟩)/\∀(j:Nat) y,cs[j]?=some y->∃c,w.cell? ⟨b,off+j,none⟩=some c/\Ay O w c y/\y.one=true:=by
 cases h with
 | ptr b off _ c e f g d hr=>grind
theorem cC(h:SimB X G β S a w){t:TypeId}{x:Operand}(ho:o.op=.load t x){cs:List D}(hr:Ay (OS β X S) w (a.eval x) (.ptr cs))
 {K:Hn->Prop} (hy:dj P t cs λx=>K ⟨.d x,[],[]⟩):∃e,K e/\Dp P X G S a w o e:=by
 obtain⟨b,off,d,f⟩:=Yr hr;obtain⟨i,hK,v,g,c⟩:=Vs hy f;exact⟨_,hK,AM h (Qb ho d g) c rfl⟩
theorem Np(h:SimB X G β S a w){id:Nat}{cs:List C}(e:(Ag S id).box=.var cs){b:Nat}(f:β id=.pointer (some ⟨b,0,none⟩)) :
 ∃vals T,w.heap[b]?=some (.cells vals T (0,0))/\vals.size=cs.length/\∀(j:Nat) v c,vals[j]?=some v->cs[j]?=some c->Cj β (AH S) (OS β X S) w v c:=by
 have d:=h.boxes id;rw[e]at d;obtain⟨g,vals,T,i,k,l,m⟩:=d;grind
theorem TD(h:SimB X G β S a w):∀{l:List C},Ru (σOf S) l=true->∀c∈l,∀{v:Value},Cj β (AH S) (OS β X S) w v c->v.oneCell'=true
 | [],_,_,b,_,_=>by grind
 | .d x :: r,hr,c,b,v,hv=>by
   rcases List.mem_cons.1 b with rfl|b
   ·exact UR hv.1 hv.2
   ·exact TD h (l:=r) hr c b hv
 | .sl id n :: r,hr,c,b,v,hv=>by
   simp only[Ru]at hr;split at hr
   ·rename_i f s k t m p
    rcases List.mem_cons.1 b with rfl|b
    ·have d:=σ_sound h hv;rw[p]at d;obtain⟨q,_,g⟩:=d;have e:=h.boxes f;rw[q]at e;obtain⟨_,_,vals,i,_⟩:=e;rw[g];rcases i with⟨_,⟨j,_⟩|⟨_,_,_,j,_⟩⟩|⟨_,_,_,j⟩<;>(rw[j];rfl)
    ·exact TD h (l:=r) hr c b hv
   ·cases hr
 | .own _ _ _ :: _,hr,_,_,_,_=>by cases hr
theorem cE(h:SimB X G β S a w){t:TypeId}{x:Operand}(ho:o.op=.load t x){id n off:Nat}{cs:List C}(hr:Pa β (OS β X S) S w (a.eval x) (.vptr id n off cs))
 {K:Hn->Prop} (hy:oD P (σOf S) t (cs.drop off) K):∃e,K e/\Dp P X G S a w o e:=by
 obtain⟨M,_,b,N,g⟩:=hr;obtain⟨vals,T,I,Z,O⟩:=Np h M N;unfold oD at hy;split at hy
 ·rename_i d
  split at hy
  ·rename_i i Q
   rw[BW]at hy;obtain⟨s,hy⟩:=Al hy;have f:∀(j:Nat) v c,(((vals.toList).drop off).take i.size)[j]?=some v->((cs.drop off).take i.size)[j]?=some c->Cj β (AH S) (OS β X S) w v c:=by grind
   have m:(((vals.toList).drop off).take i.size).length=((cs.drop off).take i.size).length:=by grind
   have k:(execOp a.eval o).run P w=.ok (.value (.agg (((vals.toList).drop off).take i.size).toArray)) w:=by
    refine Qb ho g ?_
    have z:=run_loadCells_list (P:=P) w ⟨b,off,none⟩ (((vals.toList).drop off).take i.size) (λj v g=>by
     rw[vg]at g;split at g
     ·rw[vh]at g;rw[Ho];simp[World.cell?,I];grind
     ·cases g)
    rw[m,s]at z;simp[loadVar,Pb d,sizeOf,typeInfo,Q,z]
   have data:(Ea (σOf S) ((cs.drop off).take i.size) λl b=>K ⟨.d (.agg l),b,[]⟩)->∃e,K e/\Dp P X G S a w o e:=by
    intro hy;obtain⟨l,bx,hK,J,R,hl,A,U⟩:=Kc h hy;have B:=U (((vals.toList).drop off).take i.size) m f;obtain⟨V,k2,k3⟩:=J.run h;have L:=B.now h J;refine⟨_,hK,.inl ⟨_,w,k,β,V,?_,rfl⟩⟩;refine .agg _ _ (by grind) (λy hy=>?_) (λj v y g hy=>(L.2 j v y (by simpa using g) hy).1);obtain⟨j,W⟩:=List.mem_iff_getElem?.1 hy;have p:j<(((vals.toList).drop off).take i.size).length:=by grind
    exact(L.2 j _ y (P3 p) W).2
   split at hy
   ·grind
   ·rcases hy.go with hy|hy
    ·grind
    ·obtain⟨q,hK⟩:=Al hy;refine⟨_,hK,.inl ⟨_,w,k,β,h,⟨_,rfl,by simpa using m,λj u c hu A=>?_⟩,rfl⟩⟩;have D:=f j u c (by grind) A;exact⟨D,TD h q c (uy A) D⟩
  ·grind
 ·rename_i d
  have key:∀c r,cs.drop off=c :: r->∃v,(execOp a.eval o).run P w=.ok (.value v) w/\Cj β (AH S) (OS β X S) w v c:=by
   intro c r hd
   have A:cs[off]?=some c:=by
    have:(cs.drop off)[0]?=some c:=by grind
    grind
   have p:off<vals.size:=by grind
   have E:vals[off]?=some vals[off]:=by grind
   refine⟨vals[off],Qb ho g ?_,O off _ c E A⟩;simp[loadVar,Nu d,run_load,World.cell?,I,p]
  split at hy
  ·rename_i y r hd
   obtain⟨v,F,H⟩:=key _ _ hd;exact⟨_,hy,AM h F H.1 rfl⟩
  ·rename_i Y n' r hd
   obtain⟨v,F,H⟩:=key _ _ hd;exact⟨_,hy,AM h F H rfl⟩
  ·grind
 ·grind
theorem nO(h:SimB X G β S a w){id sz:Nat}{e:TypeId}{xs:List D}(t:(Ag S id).box=.row sz e xs){b m cap:Nat}(u:β id=.slice (some ⟨b,0,none⟩) m cap){i:Nat}{x:D}
 (hx:xs[i]?=some x) {j:Nat} {y:D} (hy:x.cells[j]?=some y):∃c,w.cell? ⟨b,i*sz+j,none⟩=some c/\Ay (OS β X S) w c y/\y.one=true:=by
 have d:=h.boxes id;rw[t]at d;obtain⟨H,v,vals,z,l⟩:=d;have n:0<xs.length:=by grind
 rcases z with⟨p,⟨f,A⟩|⟨g,q,cur,f,B,C,I,J,E,F⟩⟩|⟨A,_⟩
 ·omega
 ·rw[u]at f;simp at f;obtain⟨rfl,rfl,rfl⟩:=f;have r:=Pj xs v i x j y hx hy;have k:i*sz+j<vals.length:=by rw[l.1];exact A6 r
  have s:vals[i*sz+j]?=some vals[i*sz+j]:=P3 k;refine⟨vals[i*sz+j],?_,l.2 _ _ _ s r⟩;rw[<-s,<-F,vJ (by grind)];simp[World.cell?,C]
 ·omega
theorem cD(h:SimB X G β S a w){t:TypeId}{x:Operand}(ho:o.op=.load t x){id n sz i off:Nat}{e:TypeId}{xs:List D}(hr:Pa β (OS β X S) S w (a.eval x) (.eptr id n sz e xs i off))
 {K:Hn->Prop} (hy:At xs i λx=>dj P t (x.cells.drop off) λx=>K ⟨.d x,[],[]⟩):∃e,K e/\Dp P X G S a w o e:=by
 obtain⟨g,_,b,m,cap,k,l⟩:=hr;obtain⟨_,y,c,hy⟩:=hy.go;simp only[uv]at c
 obtain⟨q,hK,v,p,f⟩:=Vs (O:=OS β X S) (w:=w) (b:=b) (off:=i*sz+off) hy (λj y' d=>by
  simp only[vh]at d;have:=nO h g k c d
  rwa [<-Nat.add_assoc]at this)
 exact⟨_,hK,AM h (Qb ho l p) f rfl⟩
theorem aE{t:TypeId}(h:fK P t=true):P.underlying t=some .bool:=by
 unfold fK at h;grind
def D.sv:D->Value
 | .bool b=>.bool b
 | .int k n=>.int k n
 | .str s=>.string s
 | _=>undef
theorem ZE{α:Type}{l:List α}{n:Nat}{x:α}{r:List α}(h:l.take n=x :: r):l=x :: l.drop 1:=by
 cases l with
 | nil=>simp at h
 | cons y q=>cases n with
   | zero=>simp at h
   | succ n=>grind
def JZ(O:Nat->Prop)(w:World)(vs:Array Value)(off:Nat)(xs:List D):Prop:=∀(j:Nat) y,xs[j]?=some y->∃v,vs[off+j]?=some v/\Ay O w v y
theorem JZ.drop{O:Nat->Prop}{vs:Array Value}{off:Nat}{xs:List D}(h:JZ O w vs off xs)(n:Nat):JZ O w vs (off+n) (xs.drop n):=by
 intro j y hy;rw[vh]at hy;have:=h (n+j) y hy;grind
theorem dN{t:TypeId}{vs:Array Value}{off:Nat}{xs:List D}{O:Nat->Prop}(h:JZ O w vs off xs)(d:(P.info? t).isSome=true)(g:AD P t<=xs.length) :
 (Nt P t=some true->(part t vs off).run P w=.ok (.agg (vs.extract off (off+AD P t))) w)/\(Nt P t=some false->∀y r,xs=y :: r->∃v,(part t vs off).run P w=.ok v w/\Ay O w v y):=by
 obtain⟨i,e⟩:=Option.isSome_iff_exists.1 d;refine⟨λb=>?_,λb y r hx=>?_⟩
 ·simp[part,Pb b,sizeOf,typeInfo,e,AD]
 ·obtain⟨v,c,f⟩:=h 0 y (by grind);rw[vF]at c;exact⟨v,by simp[part,Nu b,c],f⟩
theorem JZ.extract{O:Nat->Prop}{vs:Array Value}{off n:Nat}{xs:List D}(h:JZ O w vs off xs):JZ O w (vs.extract off (off+n)) 0 (xs.take n):=by
 intro j y hy;rw[vg]at hy;split at hy
 ·rename_i b
  obtain⟨v,c,d⟩:=h j y hy;grind
 ·cases hy
theorem mc(n:Nat){t:TypeId}{xs ys:List D}{K:Bool->Prop}(h:cI P n t xs ys K):Nt P t≠none:=by
 cases n with
 | zero=>exact h.elim
 | succ n =>
   unfold cI at h;unfold Nt;grind
theorem qW(n:Nat){t:TypeId}{xs ys:List D}{K:Bool->Prop}(b:Nt P t=some false)(h:cI P n t xs ys K):∃x r y q,xs=x :: r/\ys=y :: q:=by
 cases n with
 | zero=>exact h.elim
 | succ n =>
   unfold cI at h;split at h
   ·grind
   ·grind
   ·grind
   ·rename_i d c;unfold Nt at b;rw[c]at b;simp at b
   ·grind
theorem Vk{O:Nat->Prop}:∀(n m:Nat),n<m->∀{t:TypeId}{xs ys:List D}{vs us:Array Value}{K:Bool->Prop},cI P n t xs ys K ->
 (Nt P t=some true->JZ O w vs 0 xs->JZ O w us 0 ys->∃b,K b/\(Op.equalIn m t (.agg vs) (.agg us)).run P w=.ok b w) /\
 (Nt P t=some false->∀x y r q v u,xs=x :: r->ys=y :: q->Ay O w v x->Ay O w u y->∃b,K b/\(Op.equalIn m t v u).run P w=.ok b w)
 | 0,_,_,t,xs,ys,vs,us,K,h=>h.elim
 | n+1,0,hm,t,xs,ys,vs,us,K,h=>by omega
 | n+1,m+1,hm,t,xs,ys,vs,us,K,h=>by
   unfold cI at h;split at h
   ·rename_i k g
    refine⟨λd=>by unfold Nt at d;rw[g]at d;simp at d,λ_ x y r q v u hx hy B i=>?_⟩;subst hx;subst hy;split at h
    ·rename_i k1 R _ k2 T _ j e
     simp at j e;obtain⟨rfl,_⟩:=j;obtain⟨rfl,_⟩:=e;obtain⟨L,M⟩:=Al h;subst L;rw[AJ B,AJ i];exact⟨_,M,run_equalIn_int w m t _ _ _ _ g⟩
    ·grind
   ·rename_i g
    refine⟨λd=>by unfold Nt at d;rw[g]at d;simp at d,λ_ x y r q v u hx hy B i=>?_⟩;subst hx;subst hy;split at h
    ·rename_i R _ T _ j e
     simp at j e;obtain⟨rfl,_⟩:=j;obtain⟨rfl,_⟩:=e;rw[EH B,EH i];exact⟨_,h,run_equalIn_bool' w m t _ _ g⟩
    ·grind
   ·rename_i g
    refine⟨λd=>by unfold Nt at d;rw[g]at d;simp at d,λ_ x y r q v u hx hy B i=>?_⟩;subst hx;subst hy;split at h
    ·rename_i R _ T _ j e
     simp at j e;obtain⟨rfl,_⟩:=j;obtain⟨rfl,_⟩:=e;rw[KS B,KS i];exact⟨_,h,run_equalIn_string w m t _ _ g⟩
    ·grind
   ·rename_i U g
    refine⟨λ_ hx hy=>?_,λd=>by unfold Nt at d;rw[g]at d;simp at d⟩;obtain⟨C,h⟩:=h
    have hp:P.stoodInHeld t=false/\∀f∈U.toList,f.name ≠ "_"/\(P.info? f.type).isSome=true/\f.offset+AD P f.type<=xs.length/\f.offset+AD P f.type<=ys.length:=by
     simp only[sc,vi,Bool.not_eq_true',w3,decide_eq_true_eq,xg]at C;exact C
    ·have N:P.fieldsOf t=U:=by simp[Program.fieldsOf,g]
     have key:∀(l:List Field)(K:Bool->Prop),(∀f∈l,f.name ≠ "_"/\(P.info? f.type).isSome=true/\f.offset+AD P f.type<=xs.length/\f.offset+AD P f.type<=ys.length)->List.rec (motive:=λ_=>(Bool->Prop)->Prop) (λK=>K true)
      (λf _ ih K=>cI P n f.type ((xs.drop f.offset).take (AD P f.type)) ((ys.drop f.offset).take (AD P f.type)) λa=>ih λb=>K (a&&b)) l K ->
      ∃b,K b/\(Op.eqFields m vs us l).run P w=.ok b w:=by
      intro l
      induction l with
      | nil=>intro K _ h;exact⟨_,h,rfl⟩
      | cons f r ih =>
        intro K V h;obtain⟨h1,W,h3,h4⟩:=V f (by simp);have J:=h;have p:=hx.drop f.offset;have s:=hy.drop f.offset;rw[uQ]at p s;have px:=dN (P:=P) p W (by grind);have py:=dN (P:=P) s W (by grind)
        have Q:∃c E F,(part f.type vs f.offset).run P w=.ok E w/\(part f.type us f.offset).run P w=.ok F w/\(Op.equalIn m f.type E F).run P w=.ok c w/\List.rec (motive:=λ_=>(Bool->Prop)->Prop) (λK=>K true)
         (λf _ ih K=>cI P n f.type ((xs.drop f.offset).take (AD P f.type)) ((ys.drop f.offset).take (AD P f.type)) λa=>ih λb=>K (a&&b)) r λb=>K (c&&b):=by
         cases d:Nt P f.type with
         | none =>
           exact absurd d (mc n J)
         | some ag =>
           cases ag with
           | true =>
             obtain⟨c,hc,hr⟩:=(Vk n m (by omega) (vs:=vs.extract f.offset (f.offset+AD P f.type)) (us:=us.extract f.offset (f.offset+AD P f.type)) J).1 d p.extract s.extract;grind
           | false =>
             obtain⟨Y,r0,Z,q0,H,I⟩:=qW n d J;obtain⟨E,j,e⟩:=px.2 d Y _ (ZE H);obtain⟨F,e3,e4⟩:=py.2 d Z _ (ZE I);obtain⟨c,hc,hr⟩:=(Vk n m (by omega) (vs:=#[]) (us:=#[]) J).2 d Y Z r0 q0 E F H I e e4;grind
        obtain⟨c,E,F,j,e,e3,M⟩:=Q;obtain⟨b,z,A⟩:=ih _ (λf N=>V f (by simp[N])) M;refine⟨c&&b,z,?_⟩;simp only[Op.eqFields];rw[uk h1];simp only[Sem.run_bind,j,e,e3,Result.andThen_ok]
        cases c with
        | true=>simpa using A
        | false=>simp
     obtain⟨b,z,A⟩:=key _ _ hp.2 h;refine⟨b,z,?_⟩;rw[run_equalIn_struct w m t vs us (by grind) hp.1,N];exact A
   ·grind
theorem gI{c:BinOp}{T U:TypeId}{x y:Operand}(ho:o.op=.binOp c T x y U){s t:ByteArray}(d:a.eval x=.string s)(e:a.eval y=.string t){K:D->Prop}(b:gH c s t K) :
 ∃z,K z/\(execOp a.eval o).run P w=.ok (.value z.sv) w/\(∀O':Nat->Prop,∀w':World,Ay O' w' z.sv z):=by
 cases c<;>simp only[gH]at b<;>first
  | exact b.elim
  | exact⟨_,b,by simp[D.sv,execOp,ho,d,e,eqGuard,binOp,Op.stringOp],λ_ _=>.bool _⟩
  | (obtain⟨f,b⟩:=b
     refine⟨_,b,?_,λ_ _=>.str _⟩;simp only[execOp,ho,d,e,eqGuard,Sem.run_bind,binOp];simp[D.sv,run_string_add_sum _ s t f])
theorem eU{d:BinOp}{T U:TypeId}{x y:Operand}(ho:o.op=.binOp d T x y U){O:Nat->Prop}{p q:D}(hx:Ay O w (a.eval x) p)(hy:Ay O w (a.eval y) q)
 {K:D->Prop} (c:bO P T d p q K) :
 ∃z,K z/\(execOp a.eval o).run P w=.ok (.value z.sv) w/\(∀O':Nat->Prop,∀w':World,Ay O' w' z.sv z):=by
 cases p<;>cases q<;>simp only[bO]at c
 case bool.bool b1 b2 =>
  have e:=EH hx;have f:=EH hy;split at c
  ·rename_i F
   have H:=aE F
   cases d<;>first
    | exact c.elim
    | exact⟨_,c,by simp[D.sv,execOp,ho,e,f,eqGuard,binOp,Op.equal,Op.maxDepth,run_equalIn_bool' w 9999 T b1 b2 H],λ_ _=>.bool _⟩
  ·grind
 case int.int k m k' n =>
  have e:=AJ hx;have f:=AJ hy;have I:d=.shl\/d=.shr\/(d≠.shl/\d≠.shr):=by grind
  rcases I with rfl|rfl|⟨v,A⟩
  ·simp only[V7]at c;obtain⟨B,c⟩:=c;have g:¬n<0:=by omega
   exact⟨_,c,by simp[D.sv,execOp,ho,e,f,eqGuard,binOp,Op.shift,g],λ_ _=>.int _ _⟩
  ·simp only[V7]at c;obtain⟨B,c⟩:=c;have g:¬n<0:=by omega
   exact⟨_,c,by simp[D.sv,execOp,ho,e,f,eqGuard,binOp,Op.shift,g],λ_ _=>.int _ _⟩
  ·have i:if k=k' then Xs d k m n K else False:=by cases d<;>first|exact c|exact absurd rfl v|exact absurd rfl A
   clear c;obtain⟨rfl,c⟩:=Al i;clear i
   cases d <;>  simp_all
   all_goals first
    | exact c.elim
    | exact⟨_,c,by simp[D.sv,execOp,ho,e,f,eqGuard,binOp,Op.intArith,Op.intCmp,Op.intBits],λ_ _=>by first|exact .int _ _|exact .bool _⟩
    | (obtain⟨B,c⟩:=c
       exact⟨_,c,by simp[D.sv,execOp,ho,e,f,eqGuard,binOp,Op.intDiv,B],λ_ _=>.int _ _⟩)
 case str.str s t=>exact gI ho (KS hx) (KS hy) c
 case agg.agg xs ys =>
  obtain⟨l,c⟩:=c
  ·generalize e:a.eval x=vx at hx;generalize f:a.eval y=vy at hy
   cases hx with
   | agg vs _ E N hr =>
     cases hy with
     | agg us _ r J C =>
       have L:JZ O w vs 0 xs:=λj z h=>⟨vs[j]'(by rw[E];exact A6 h),by simp[show j<vs.size by rw[E];exact A6 h],hr j _ z (by grind) h⟩;have M:JZ O w us 0 ys:=λj z h=>⟨us[j]'(by rw[r];exact A6 h),by simp[show j<us.size by rw[r];exact A6 h],C j _ z (by grind) h⟩;have u:(eqGuard d T x y (.agg vs) (.agg us)).run P w=.ok () w:=run_eqGuard_agg w d T x y vs us l.1
       have agg:∀{K:Bool->Prop},cI P 12 T xs ys K->∃b,K b/\(Op.equalIn 10000 T (.agg vs) (.agg us)).run P w=.ok b w:=by
        intro K c;exact(Vk 12 10000 (by omega) c).1 l.2 L M
       cases d<;>first|exact c.elim|skip
       ·obtain⟨b,hK,hr⟩:=agg c;refine⟨_,hK,?_,λ_ _=>.bool _⟩;simp only[execOp,ho,e,f,Sem.run_bind,u,Result.andThen_ok,run_eql_struct,hr,Sem.run_pure,D.sv]
       ·obtain⟨b,hK,hr⟩:=agg c;refine⟨_,hK,?_,λ_ _=>.bool _⟩;simp only[execOp,ho,e,f,Sem.run_bind,u,Result.andThen_ok,run_neq_struct,hr,Sem.run_pure,D.sv]
theorem ff(h:SimB X G β S a w){c:BinOp}{T U:TypeId}{x y:Operand}(ho:o.op=.binOp c T x y U){p q:D}(hx:Ay (OS β X S) w (a.eval x) p)(hy:Ay (OS β X S) w (a.eval y) q)
 {K:Hn->Prop} (d:bO P T c p q λx=>K ⟨.d x,[],[]⟩):∃e,K e/\Dp P X G S a w o e:=by
 obtain⟨z,hK,b,f⟩:=eU ho hx hy d;exact⟨_,hK,AM h b (f _ _) rfl⟩
theorem jD(h:SimB X G β S a w){f:UnOp}{T:TypeId}{x:Operand}(ho:o.op=.unOp f T x){p:D}(hx:Ay (OS β X S) w (a.eval x) p)
 {K:Hn->Prop} (d:rJ f p λx=>K ⟨.d x,[],[]⟩):∃e,K e/\Dp P X G S a w o e:=by
 cases f<;>cases p<;>simp only[rJ]at d
 case not.bool b =>
  have c:=EH hx;exact⟨_,d,AM h (v:=.bool !b) (by simp[execOp,ho,c,Op.unary]) (.bool _) rfl⟩
 case neg.int k n =>
  have c:=AJ hx;exact⟨_,d,AM h (v:=.int k (k.wrap (0-n))) (by simp[execOp,ho,c,Op.unary,Op.intArith]) (.int _ _) rfl⟩
 case xor.int k n =>
  have c:=AJ hx;exact⟨_,d,AM h (v:=.int k (k.wrap (BitVec.ofInt k.bits (if k.signed then -1 else k.max) ^^^ BitVec.ofInt k.bits n).toNat)) (by simp[execOp,ho,c,Op.unary,Op.intBits]) (.int _ _) rfl⟩
theorem ae(h:SimB X G β S a w){s t:TypeId}{x:Operand}(ho:o.op=.convert s t x){k b:IntKind}{n:Int}(c:P.underlying t=some (.int k))(e:∃d,P.underlying s=some d)
 (hx:Ay (OS β X S) w (a.eval x) (.int b n)):Dp P X G S a w o ⟨.d (.int k (k.wrap n)),[],[]⟩:=by
 have f:=AJ hx;obtain⟨d,hd⟩:=e;exact AM h (v:=.int k (k.wrap n)) (by simp[execOp,ho,f,convert,run_underlying c,run_underlying hd,Conv.intToInt]) (.int _ _) rfl
theorem OQ{s:TypeId}{x:Operand}{f:Nat}(ho:o.op=.fieldAddr s x f){c:Array Field}(g:P.underlying s=some (.struct c)){d:Field}(h:c[f]?=some d)
 (e:0<AD P d.type) {b off:Nat} (hx:a.eval x=.pointer (some ⟨b,off,none⟩)):(execOp a.eval o).run P w=.ok (.value (.pointer (some ⟨b,off+d.offset,none⟩))) w:=by
 unfold AD at e;split at e
 ·rename_i i j
  have:i.size≠0:=by omega
  simp[execOp,ho,Instr.fieldAt,run_underlying g,h,hx,Instr.sureAddr,fieldPlace,sizeOf,typeInfo,j,this,Ho]
 ·omega
theorem fg(h:SimB X G β S a w){s:TypeId}{x:Operand}{f:Nat}(ho:o.op=.field s x f){b:Array Field}(l:P.underlying s=some (.struct b)){d:Field}(z:b[f]?=some d)
 {cs:List D} (hx:Ay (OS β X S) w (a.eval x) (.agg cs)) {K:Hn->Prop} (hy:dj P d.type (cs.drop d.offset) λx=>K ⟨.d x,[],[]⟩):∃e,K e/\Dp P X G S a w o e:=by
 generalize A:a.eval x=v at hx
 cases hx with
 | agg vs _ B C hr =>
   unfold dj at hy
   have m:∀(j:Nat) y,(cs.drop d.offset)[j]?=some y->∃c,vs[d.offset+j]?=some c/\Ay (OS β X S) w c y:=by
    intro j y hy;simp only[vh]at hy
    have q:d.offset+j<vs.size:=by
     rw[B];rcases uZ (d.offset+j) cs.length with h|h
     ·exact h
     ·simp[uP h]at hy
    exact⟨vs[d.offset+j],by simp[q],hr _ _ _ (by simp[q]) hy⟩
   split at hy
   ·rename_i g
    split at hy
    ·rename_i i E
     rw[BW]at hy;obtain⟨n,hy⟩:=Al hy;have t:d.offset+i.size<=cs.length\/i.size=0:=by simp at n;omega
     refine⟨_,hy,AM h (v:=.agg (vs.extract d.offset (d.offset+i.size))) ?_ ?_ rfl⟩
     ·simp[execOp,ho,Instr.field,run_underlying l,z,A,asAgg,part,Pb g,sizeOf,typeInfo,E]
     ·refine .agg _ _ (by simp at n ⊢;omega) (λy hy=>C y (vL (vz hy))) (λj u y l hy=>?_);rw[vg]at hy;split at hy
      ·obtain⟨c,k,p⟩:=m j y hy;rw[Array.getElem?_extract]at l;split at l
       ·rw[k]at l;cases l;exact p
       ·cases l
      ·cases hy
    ·exact hy.elim
   ·rename_i g
    split at hy
    ·rename_i y r hd
     obtain⟨c,k,p⟩:=m 0 y (by rw[hd];rfl);rw[vF]at k;refine⟨_,hy,AM h (v:=c) ?_ p rfl⟩;simp[execOp,ho,Instr.field,run_underlying l,z,A,asAgg,part,Nu g,k]
    ·exact hy.elim
   ·exact hy.elim
theorem LI{t:TypeId}(h:0<AD P t):(sizeOf t).run P w=.ok (AD P t) w:=by
 unfold AD at h ⊢;split at h
 ·rename_i i b
  simp[sizeOf,typeInfo,b]
 ·omega
theorem Uq(h:SimB X G β S a w){t e:TypeId}{x r:Operand}(ho:o.op=.indexAddr t x r)(A:P.underlying t=some (.slice e)){sz:Nat}(q:sz=AD P e)(f:0<sz){k:IntKind}{i:Int}
 (B:Ay (OS β X S) w (a.eval r) (.int k i)) {xs:List D} (hx:Ay (OS β X S) w (a.eval x) (.list sz xs)) {K:Hn->Prop} (hy:At xs i λx=>CN x.cells λl=>K ⟨.d (.ptr l),[],[]⟩) :
 ∃e,K e/\Dp P X G S a w o e:=by
 have C:=AJ B;obtain⟨E,y,d,hy⟩:=hy.go;rw[BW]at hy;have F:=A6 d;generalize H:a.eval x=v at hx
 cases hx with
 | emp=>grind
 | list b off cap _ _ c I J L s u M g m =>
   refine⟨_,hy,?_⟩;have N:(sizeOf e).run P w=.ok sz w:=by rw[q]at f ⊢;exact LI f
   have n:i<(xs.length:Int):=by omega
   refine AM h (v:=.pointer (some ⟨b,off+i.toNat*sz,none⟩)) ?_ ?_ rfl
   ·simp[execOp,ho,Instr.indexAt,C,asIntOf,H,run_underlying A,E,n,N,Ho]
   ·exact Ay.ptr b (off+i.toNat*sz) y.cells (λj=>c i.toNat j) (λ_=>J) (λ_=>L) (λz p=>M y (uy d) z p) (λj z p=>g _ _ _ _ d p) (λj z p=>m _ _ _ _ d p)
theorem XC(h:SimB X G β S a w){t e:TypeId}{n:Nat}{x l:Operand}(ho:o.op=.indexAddr t x l)(q:P.underlying t=some (.array n e))(f:AD P e=1){k:IntKind}{i:Int}
 (r:Ay (OS β X S) w (a.eval l) (.int k i)) {cs:List D} (hx:Ay (OS β X S) w (a.eval x) (.ptr cs)) (s:i<n) {K:Hn->Prop} (hy:At cs i λy=>K ⟨.d (.ptr [y]),[],[]⟩) :
 ∃e,K e/\Dp P X G S a w o e:=by
 have u:=AJ r;obtain⟨A,y,B,hy⟩:=hy.go;generalize C:a.eval x=v at hx
 cases hx with
 | ptr b off _ c E F I g m =>
   refine⟨_,hy,?_⟩;have d:cs≠[]:=by grind
   have H:(sizeOf e).run P w=.ok 1 w:=by rw[<-f];exact LI (by omega)
   refine AM h (v:=.pointer (some ⟨b,off+i.toNat,none⟩)) ?_ ?_ rfl
   ·simp[execOp,ho,Instr.indexAt,Instr.sureAddr,u,asIntOf,C,run_underlying q,A,s,H,Ho]
   ·refine Ay.ptr b (off+i.toNat) [y] (λj=>c (i.toNat+j)) (λ_=>E d) (λ_=>F d) (λz p=>?_) (λj z p=>?_) (λj z p=>?_)
    all_goals grind
theorem WL(h:SimB X G β S a w){t e:TypeId}{n:Nat}{x d:Operand}(ho:o.op=.indexAddr t x d)(g:P.underlying t=some (.array n e))(b:0<AD P e){k:IntKind}{i:Int}
 (j:Ay (OS β X S) w (a.eval d) (.int k i)) {id m off:Nat} {cs:List C} (hx:Pa β (OS β X S) S w (a.eval x) (.vptr id m off cs)) (l:0<=i) (p:i<n) :
 Dp P X G S a w o ⟨.ptr id m (off+i.toNat*AD P e),[],[]⟩:=by
 have q:=AJ j;obtain⟨y,c,f,r,s⟩:=hx;have u:(sizeOf e).run P w=.ok (AD P e) w:=LI b;refine AM h (v:=.pointer (some ⟨f,off+i.toNat*AD P e,none⟩)) ?_ ⟨vU c.symm,λ_=>⟨f,r,rfl⟩⟩ rfl;simp[execOp,ho,Instr.indexAt,Instr.sureAddr,q,asIntOf,s,run_underlying g,l,p,u,Ho]
theorem XB(h:SimB X G β S a w){t e:TypeId}{n:Nat}{x C:Operand}(ho:o.op=.index t x C)(l:P.underlying t=some (.array n e)){k:IntKind}{i:Int}
 (J:Ay (OS β X S) w (a.eval C) (.int k i)) {cs:List D} (hx:Ay (OS β X S) w (a.eval x) (.agg cs)) (q:0<AD P e) (E:0<=i) (F:i<n) {K:Hn->Prop} (hy:dj P e (cs.drop (i.toNat*AD P e)) λx=>K ⟨.d x,[],[]⟩):∃e,K e/\Dp P X G S a w o e:=by
 have H:=AJ J;generalize I:a.eval x=v at hx
 cases hx with
 | agg vs _ L M hr =>
   unfold dj at hy
   have b:∀(j:Nat) y,(cs.drop (i.toNat*AD P e))[j]?=some y->∃c,vs[i.toNat*AD P e+j]?=some c/\Ay (OS β X S) w c y:=by
    intro j y hy;simp only[vh]at hy
    have s:i.toNat*AD P e+j<vs.size:=by
     rw[L];rcases uZ (i.toNat*AD P e+j) cs.length with h|h
     ·exact h
     ·simp[uP h]at hy
    exact⟨vs[i.toNat*AD P e+j],by simp[s],hr _ _ _ (by simp[s]) hy⟩
   split at hy
   ·rename_i d
    split at hy
    ·rename_i m z
     rw[BW]at hy;obtain⟨f,hy⟩:=Al hy;have A:AD P e=m.size:=by unfold AD;rw[z]
     rw[A]at b f hy;have B:i.toNat*m.size+m.size<=cs.length\/m.size=0:=by simp at f;omega
     refine⟨_,hy,AM h (v:=.agg (vs.extract (i.toNat*m.size) (i.toNat*m.size+m.size))) ?_ ?_ rfl⟩
     ·simp[execOp,ho,Instr.index,H,asIntOf,run_underlying l,I,E,F,part,Pb d,sizeOf,typeInfo,z]
     ·refine .agg _ _ (by simp at f ⊢;omega) (λy hy=>M y (vL (vz hy))) (λj u y l hy=>?_);rw[vg]at hy;split at hy
      ·obtain⟨c,g,p⟩:=b j y hy;rw[Array.getElem?_extract]at l;split at l
       ·rw[g]at l;cases l;exact p
       ·cases l
      ·cases hy
    ·exact hy.elim
   ·rename_i d
    split at hy
    ·rename_i y r hd
     obtain⟨c,g,p⟩:=b 0 y (by rw[hd];rfl);rw[vF]at g;have N:(sizeOf e).run P w=.ok (AD P e) w:=LI q;refine⟨_,hy,AM h (v:=c) ?_ p rfl⟩;simp[execOp,ho,Instr.index,H,asIntOf,run_underlying l,I,E,F,part,Nu d,N,g]
    ·exact hy.elim
   ·exact hy.elim
theorem XD(h:SimB X G β S a w){t e:TypeId}{x m:Operand}(ho:o.op=.indexAddr t x m)(q:P.underlying t=some (.slice e)){k:IntKind}{i:Int}
 (r:Ay (OS β X S) w (a.eval m) (.int k i)) {id n sz:Nat} {s:TypeId} {xs:List D} (j:sz=AD P e) (hx:Pa β (OS β X S) S w (a.eval x) (.row id n sz s xs)) (u:0<=i) (y:i.toNat<xs.length) :
 Dp P X G S a w o ⟨.eptr id n sz i.toNat 0,[],[]⟩:=by
 have z:=AJ r;obtain⟨A,B,C⟩:=hx;have f:=h.boxes id;rw[A]at f;obtain⟨b,_,vals,hr,_⟩:=f;rcases hr with⟨c,⟨d,l⟩|⟨g,p,cur,d,_⟩⟩|⟨l,_⟩
 ·omega
 ·have E:(sizeOf e).run P w=.ok sz w:=by rw[j]at b ⊢;exact LI b
  have c:i<(xs.length:Int):=by omega
  refine AM h (v:=.pointer (some ⟨g,i.toNat*sz+0,none⟩)) ?_ ⟨vU B.symm,λ_=>⟨g,_,_,d,rfl⟩⟩ rfl;simp[execOp,ho,Instr.indexAt,z,asIntOf,C,d,run_underlying q,u,c,E,Ho]
 ·omega
theorem lT(h:SimB X G β S a w){x:Operand}{t:TypeId}(ho:o.op=.call ⟨.builtin .len,#[x],#[t]⟩){n:Nat}
 (b:∃c cap,a.eval x=.slice c n cap) {e:TypeId} (d:P.underlying t=some (.slice e)) :
 Dp P X G S a w o ⟨.d (.int .i64 n),[],[]⟩:=by
 obtain⟨c,cap,b⟩:=b;refine AM h (v:=.int .i64 n) ?_ (.int _ _) rfl;simp[execOp,ho,resolve,invoke,builtin,Builtin.len_,b,run_underlying d,goInt]
theorem jA(h:SimB X G β S a w){x:Operand}{t:TypeId}(ho:o.op=.call ⟨.builtin .len,#[x],#[t]⟩){s:ByteArray}
 (b:a.eval x=.string s) (c:P.underlying t=some .string):Dp P X G S a w o ⟨.d (.int .i64 s.size),[],[]⟩:=by
 refine AM h (v:=.int .i64 s.size) ?_ (.int _ _) rfl;simp[execOp,ho,resolve,invoke,builtin,Builtin.len_,b,run_underlying c,goInt]
theorem Up(h:SimB X G β S a w){x:Operand}{i:Nat}(ho:o.op=.extract x i){xs:List C}(hx:Pa β (OS β X S) S w (a.eval x) (.tup xs)){y:C}(hy:xs[i]?=some y) :
 (∀z,y=.d z->Dp P X G S a w o ⟨.d z,[],[]⟩)/\(∀id n,y=.sl id n->Dp P X G S a w o ⟨.sl id n,[],[]⟩):=by
 obtain⟨vs,d,f,hr⟩:=hx;have b:i<vs.size:=by grind
 have c:(execOp a.eval o).run P w=.ok (.value vs[i]) w:=by simp[execOp,ho,Instr.extract,d,b]
 have hk:=hr i vs[i] y (by simp[b]) hy;refine⟨λz e=>?_,λid n e=>?_⟩
 ·subst e;exact AM h c hk rfl
 ·subst e;exact AM h c hk rfl
theorem LN(h:SimB X G β S a w){x:Operand}(ho:o.op=.nilCheck x)(hx:(∃b:Addr,a.eval x=.pointer (some b))\/∃f cs,a.eval x=.func (.func f) #[] cs){v:AV}(hr:JX β (AH S) (OS β X S) w a.tmps (a.eval x) v)(c:v.guards=[]) :
 Dp P X G S a w o ⟨v,[],[]⟩:=by
 refine AM h (v:=a.eval x) ?_ hr c;rcases hx with⟨b,hx⟩|⟨f,cs,hx⟩<;>simp[execOp,ho,hx]
theorem XA(h:SimB X G β S a w){g:Option (Nat×Bool)}(j:Ce g a){s:TypeId}{x:Operand}{f:Nat}(ho:o.op=.fieldAddr s x f){c:Array Field}(k:P.underlying s=some (.struct c)){d:Field}(p:c[f]?=some d)
 (q:0<AD P d.type) {K:Hn->Prop} (hy:match ρOf S g x with
  | .bot=>K ⟨.bot,[],[]⟩
  | .vptr id n o _=>K ⟨.ptr id n (o+d.offset),[],[]⟩
  | .d (.ptr cs)=>CN (cs.drop d.offset) λl=>K ⟨.d (.ptr l),[],[]⟩
  | .eptr id n sz _ _ i o=>K ⟨.eptr id n sz i (o+d.offset),[],[]⟩
  | _=>False):∃e,K e/\Dp P X G S a w o e:=by
 have hr:=ρ_sound h j x;split at hy
 ·rename_i hx;rw[hx]at hr;exact hr.elim
 ·rename_i id n off cs hx
  rw[hx]at hr;obtain⟨_,r,b,t,u⟩:=hr;exact⟨_,hy,AM h (OQ ho k p q u) ⟨vU r.symm,λ_=>⟨b,t,rfl⟩⟩ rfl⟩
 ·rename_i cs hx
  rw[hx]at hr;rw[BW]at hy;have hr:Ay (OS β X S) w (a.eval x) (.ptr cs):=hr;obtain⟨b,off,v,_⟩:=Yr hr;refine⟨_,hy,AM h (OQ ho k p q v) ?_ rfl⟩;rw[v]at hr;exact hr.drop _
 ·rename_i id n sz e xs i off hx
  rw[hx]at hr;obtain⟨_,r,b,m,cap,t,u⟩:=hr;exact⟨_,hy,AM h (OQ ho k p q u) ⟨vU r.symm,λ_=>⟨b,m,cap,t,by rw[Nat.add_assoc]⟩⟩ rfl⟩
 ·grind
theorem af(h:SimB X G β S a w){s t:TypeId}{x:Operand}(ho:o.op=.convert s t x){b:ByteArray}(c:P.underlying t=some .string)(e:∃d,P.underlying s=some d)
 (hx:Ay (OS β X S) w (a.eval x) (.str b)):Dp P X G S a w o ⟨.d (.str b),[],[]⟩:=by
 have f:=KS hx;obtain⟨d,hd⟩:=e;refine AM h (v:=.string b) ?_ (.str _) rfl;simp only[execOp,ho,f,Sem.run_bind,convert,run_underlying c,run_underlying hd,Result.andThen_ok];simp_all
theorem X9(h:SimB X G β S a w){s t e:TypeId}{x:Operand}(ho:o.op=.convert s t x){b:ByteArray}(q:P.underlying t=some (.slice e))(r:P.underlying e=some (.int .u8))(u:∃d,P.underlying s=some d)
 (hx:Ay (OS β X S) w (a.eval x) (.str b)):Dp P X G S a w o ⟨.d (.list 1 ((Ou b).map (D.int .u8))),[],[]⟩:=by
 have v:=KS hx;obtain⟨d,hd⟩:=u;have m:Below w.heap.size w (Lib.bytesWorld w e b):=⟨rfl,rfl,rfl,by rw[Lib.bytesWorld_size];omega,λk hk=>Lib.bytesWorld_at_old w e b k hk⟩;have f:((Ou b).map (D.int .u8)).length=b.size:=by simp[Ou]
 refine .inl ⟨.slice (some ⟨w.heap.size,0,none⟩) b.size (grownCap w b.size 0 e),Lib.bytesWorld w e b,?_,β,h.world m,?_,rfl⟩
 ·simp only[execOp,ho,v,Sem.run_bind,Lib.run_convert_string_bytes w s t e b hd q r,Result.andThen_ok];rfl
 ·show Ay _ _ _ _;by_cases l:(Ou b).map (D.int .u8)=[]
  ·have A:b.size=0:=by rw[<-f,l];rfl
   rw[l,A];exact .emp _ _ _
  ·rw[<-f];refine .list w.heap.size 0 _ 1 _ (λi _=>.int .u8 (b.data.toList.getD i 0).toNat) l (by rw[Lib.bytesWorld_size];omega) (λB=>?_) (by rw[f];exact grownCap_ge w _ _ _) ?_ ?_ ?_ ?_
   ·have:=h.os_lt B;omega
   ·intro y hy;obtain⟨n,_,rfl⟩:=List.mem_map.1 hy;rfl
   ·intro y hy z g;obtain⟨n,_,rfl⟩:=List.mem_map.1 hy;simp[D.cells]at g;subst g;rfl
   ·intro i y j z hy g;have C:i<b.size:=by grind
    simp only[uu]at hy;obtain⟨n,_,rfl⟩:=Option.map_eq_some_iff.1 hy
    have p:j=0:=by
     have:=A6 g;simp[D.cells]at this;exact this
    subst p;rw[show 0+i*1+0=i by omega];exact Lib.bytesWorld_cell w e b i C
   ·intro i y j z hy g;simp only[uu,Ou]at hy;obtain⟨n,E,rfl⟩:=Option.map_eq_some_iff.1 hy;obtain⟨c,F,rfl⟩:=Option.map_eq_some_iff.1 E
    have p:j=0:=by
     have:=A6 g;simp[D.cells]at this;exact this
    subst p;simp[D.cells]at g;subst g;rw[uj,F];exact .int _ _
theorem ah(h:SimB X G β S a w){t:TypeId}{x c:Operand}(ho:o.op=.index t x c)(d:P.underlying t=some .string){k:IntKind}{i:Int}
 (f:Ay (OS β X S) w (a.eval c) (.int k i)) {s:ByteArray} (hx:Ay (OS β X S) w (a.eval x) (.str s)) (g:0<=i) (b:i.toNat<s.size) :
 Dp P X G S a w o ⟨.d (.int .u8 (Gw s i)),[],[]⟩:=by
 have j:=AJ f;have l:=KS hx;have m:s[i.toNat]?=some (s[i.toNat]'b):=by simp[b]
 refine AM h (v:=.int .u8 (Gw s i)) ?_ (.int _ _) rfl
 have e:Gw s i=((s[i.toNat]'b).toNat:Int):=by
  unfold Gw;congr 2;have n:i.toNat<s.data.toList.length:=by simp_all
  rw[uj,P3 n];simp;rfl
 simp[execOp,ho,Instr.index,j,asIntOf,l,run_underlying d,g,m,e]
theorem Pp(h:SimB X G β S a w){g:Option (Nat×Bool)}(c:Ce g a){y:Option Operand}{b:Int}{K:Int->Prop}(hy:eJ (ρOf S g) y b K) :
 ∃i,K i/\(y=none/\i=b\/∃q k,y=some q/\a.eval q=.int k i):=by
 unfold eJ at hy;split at hy
 ·grind
 ·rename_i q
  split at hy
  ·rename_i k i d
   have:=ρ_sound h c q;rw[d]at this;exact⟨i,hy,.inr ⟨q,k,rfl,AJ this⟩⟩
  ·grind
theorem LH{k:IntKind}{i:Int}{y:Nat}{code:BoundsCode}(b:0<=i)(c:i<=y):(Instr.sliceBound (.int k i) y code).run P w=.ok i.toNat w:=by
 simp[Instr.sliceBound,asIntOf,b,c]
theorem TE{isSlice:Bool}{len cap:Nat}{lo c:Option Operand}{l h:Int}(j:lo=none/\l=0\/∃q k,lo=some q/\a.eval q=.int k l)(m:c=none/\h=len\/∃q k,c=some q/\a.eval q=.int k h)
 (d:0<=l) (r:l<=h) (s:h<=len) (t:len<=cap) :
 (Instr.sliceBounds isSlice len cap (lo.map a.eval) (c.map a.eval) none).run P w=.ok (l.toNat,h.toNat,cap) w:=by
 rcases j with⟨rfl,rfl⟩|⟨q,k,rfl,f⟩<;>rcases m with⟨rfl,rfl⟩|⟨u,g,rfl,b⟩
 ·simp[Instr.sliceBounds]
 ·have e:=LH (P:=P) (w:=w) (k:=g) (i:=h) (y:=cap) (code:=if isSlice then .sliceAcap else .sliceAlen) (by omega) (by omega);simp[Instr.sliceBounds,b,e]
 ·have e:=LH (P:=P) (w:=w) (k:=k) (i:=l) (y:=len) (code:=.sliceB) d (by omega);simp[Instr.sliceBounds,f,e]
 ·have n:=LH (P:=P) (w:=w) (k:=g) (i:=h) (y:=cap) (code:=if isSlice then .sliceAcap else .sliceAlen) (by omega) (by omega);have p:=LH (P:=P) (w:=w) (k:=k) (i:=l) (y:=h.toNat) (code:=.sliceB) d (by omega);simp[Instr.sliceBounds,f,b,n,p]
theorem dM{isSlice:Bool}{len cap:Nat}{lo c:Option Operand}{l h:Int}{m:Operand}{d:IntKind}(e:a.eval m=.int d h)(j:lo=none/\l=0\/∃q k,lo=some q/\a.eval q=.int k l)(n:∃q k,c=some q/\a.eval q=.int k h)
 (p:0<=l) (v:l<=h) (r:h<=cap) :
 (Instr.sliceBounds isSlice len cap (lo.map a.eval) (c.map a.eval) (some (a.eval m))).run P w=.ok (l.toNat,h.toNat,h.toNat) w:=by
 obtain⟨x,s,rfl,b⟩:=n;have f:=LH (P:=P) (w:=w) (k:=d) (i:=h) (y:=cap) (code:=if isSlice then .slice3Acap else .slice3Alen) (by omega) r;have g:=LH (P:=P) (w:=w) (k:=s) (i:=h) (y:=h.toNat) (code:=.slice3B) (by omega) (by omega);rcases j with⟨rfl,rfl⟩|⟨q,k,rfl,t⟩
 ·simp[Instr.sliceBounds,b,e,f,g]
 ·have u:=LH (P:=P) (w:=w) (k:=k) (i:=l) (y:=h.toNat) (code:=.slice3C) p (by omega);simp[Instr.sliceBounds,t,b,e,f,g,u]
theorem ak(h:SimB X G β S a w){t:TypeId}{x:Operand}{lo b:Option Operand}(ho:o.op=.slice t x lo b none)(c:P.underlying t=some .string){s:ByteArray}(hx:Ay (OS β X S) w (a.eval x) (.str s)){l r:Int}
 (d:lo=none/\l=0\/∃q k,lo=some q/\a.eval q=.int k l) (e:b=none/\r=(s.size:Int)\/∃q k,b=some q/\a.eval q=.int k r) (f:0<=l) (g:l<=r) (i:r<=s.size) :
 Dp P X G S a w o ⟨.d (.str (s.extract l.toNat r.toNat)),[],[]⟩:=by
 have j:=KS hx;have m:=TE (P:=P) (w:=w) (a:=a) (isSlice:=false) (len:=s.size) (cap:=s.size) d e f g i (uh _);refine AM h (v:=.string (s.extract l.toNat r.toNat)) ?_ (.str _) rfl;simp[execOp,ho,Instr.sliceAt,Instr.slice,j,run_underlying c,m]
theorem ip{α:Type}{xs:List α}{l h:Int}{i:Nat}{y:α}(hy:(M1 xs l h)[i]?=some y):xs[l.toNat+i]?=some y:=by
 unfold M1 at hy;grind
theorem X5{α:Type}{xs:List α}{l h:Int}(b:0<=l)(c:l<=h)(d:h<=xs.length):(M1 xs l h).length=h.toNat-l.toNat:=by
 unfold M1;simp;omega
theorem Y0{O:Nat->Prop}{k:Option Addr}{sz:Nat}{xs:List D}{len cap m:Nat}(hx:Ay O w (.slice k len cap) (.list sz xs)){l h:Int}(r:0<=l)(s:l<=h)(t:h<=xs.length)(B:h.toNat<=m) :
 Ay O w (.slice (if m=l.toNat then k else k.map (·.add (l.toNat*sz))) (h.toNat-l.toNat) (m-l.toNat)) (.list sz (M1 xs l h)):=by
 have e:=X5 r s t;by_cases u:h.toNat-l.toNat=0
 ·have:M1 xs l h=[]:=uJ (by grind);rw[this,u];exact .emp _ _ _
 ·rw[uo (by omega)]
  cases hx with
  | emp=>grind
  | list b off _ _ _ c v x A q f n d g =>
    simp only[w8,Ho];rw[<-e]
    refine Ay.list b (off+l.toNat*sz) (m-l.toNat) sz (M1 xs l h) (λi j=>c (l.toNat+i) j) (by grind) x A (by rw[e];omega)
     (λy hy=>f y (vL (vz hy))) (λy hy=>n y (vL (vz hy))) (λi y j z hy p=>?_) (λi y j z hy p=>g _ _ _ _ (ip hy) p)
    have:=d _ _ _ _ (ip hy) p;grind
theorem gj{O:Nat->Prop}{v:Value}{sz:Nat}{xs:List D}(h:Ay O w v (.list sz xs)):∃e cap,v=.slice e xs.length cap/\xs.length<=cap:=by
 cases h with
 | emp a cap _=>simp_all
 | list b off cap _ _ c f g i d _ _ _ _=>grind
theorem MO(h:SimB X G β S a w){g:Option (Nat×Bool)}(p:Ce g a){t e:TypeId}{x:Operand}{lo s u:Option Operand}(ho:o.op=.slice t x lo s u)(A:P.underlying t=some (.slice e)){sz:Nat}(v:sz=AD P e)(c:0<sz){xs:List D}{bx:Bx}(H:FZ S [] bx)
 (hx:Ay (OS β X (Bh bx S)) w (a.eval x) (.list sz xs)) {K:Hn->Prop} (hy:M9 (ρOf S g) sz xs lo s u bx K):∃e,K e/\Dp P X G S a w o e:=by
 obtain⟨B,_,_⟩:=H.run h;obtain⟨l,hy,C⟩:=Pp h p hy;obtain⟨r,hy,hr⟩:=Pp h p hy;obtain⟨M,cap,n,i⟩:=gj hx;have E:(sizeOf e).run P w=.ok sz w:=by rw[v]at c ⊢;exact LI c
 cases u with
 | none =>
   obtain⟨⟨d,f,j⟩,hK⟩:=hy;have y:=TE (P:=P) (w:=w) (a:=a) (isSlice:=true) (len:=xs.length) (cap:=cap) C hr d f j i;rw[n]at hx;refine⟨_,hK,.inl ⟨_,w,?_,β,B,Y0 (m:=cap) hx d f j (by omega),rfl⟩⟩;simp[execOp,ho,Instr.sliceAt,Instr.slice,n,run_underlying A,y,E]
 | some m =>
   simp only at hy;split at hy
   ·grind
   rename_i I
   split at hy
   ·rename_i N F J
    obtain⟨⟨d,f,j,L⟩,hK⟩:=hy;subst L;have b:=ρ_sound h p m;rw[J]at b;have b:=AJ b
    have z:∃q k,s=some q/\a.eval q=.int k F:=by
     grind
    have y:=dM (P:=P) (w:=w) (a:=a) (isSlice:=true) (len:=xs.length) (cap:=cap) b C z d f (by omega);rw[n]at hx;have hd:=Y0 (m:=F.toNat) hx d f j (uh _);refine⟨_,hK,.inl ⟨_,w,?_,β,B,⟨hd,?_⟩,rfl⟩⟩
    ·simp[execOp,ho,Instr.sliceAt,Instr.slice,n,run_underlying A,y,E]
    ·simp only[Su];rw[X5 d f j]
   ·grind
theorem Wc(h:SimB X G β S a w){x y:Operand}{ts:Array TypeId}{b:Builtin}(ho:o.op=.call ⟨.builtin b,#[x,y],ts⟩){k f:IntKind}{m n:Int}(hx:Ay (OS β X S) w (a.eval x) (.int k m))(hy:Ay (OS β X S) w (a.eval y) (.int f n)) :
 (b=.min->Dp P X G S a w o ⟨.d (.int k (if n<m then n else m)),[],[]⟩)/\(b=.max->Dp P X G S a w o ⟨.d (.int k (if n>m then n else m)),[],[]⟩):=by
 have c:=AJ hx;have d:=AJ hy;refine⟨λe=>?_,λe=>?_⟩
 ·subst e;refine AM h (v:=.int k (if n<m then n else m)) ?_ (.int _ _) rfl;simp[execOp,ho,resolve,invoke,builtin,Builtin.min_,Builtin.min2,c,d]
 ·subst e;refine AM h (v:=.int k (if n>m then n else m)) ?_ (.int _ _) rfl;simp[execOp,ho,resolve,invoke,builtin,Builtin.max_,Builtin.max2,c,d]
end
section lists
variable {O:Nat->Prop} {w:World}
theorem By.append{vs us:List Value}{xs ys:List D}(h:By O w vs xs)(k:By O w us ys):By O w (vs++us) (xs++ys):=by
 refine⟨by simp[h.1,k.1],λj v y b hy=>?_⟩;rcases uZ j vs.length with a|a
 ·rw[ut a]at b;rw[ut (by rw[<-h.1];exact a)]at hy;exact h.2 j v y b hy
 ·rw[uq a]at b;rw[uq (by rw[<-h.1];exact a),<-h.1]at hy;exact k.2 _ v y b hy
theorem By.take{vs:List Value}{xs:List D}(h:By O w vs xs)(n:Nat):By O w (vs.take n) (xs.take n):=by
 refine⟨by simp[h.1],λj v y a hy=>?_⟩;rw[vg]at a hy;split at a
 ·rename_i b;rw[uk b]at hy;exact h.2 j v y a hy
 ·cases a
theorem By.drop{vs:List Value}{xs:List D}(h:By O w vs xs)(n:Nat):By O w (vs.drop n) (xs.drop n):=by
 refine⟨by simp[h.1],λj v y a hy=>?_⟩;rw[vh]at a hy;exact h.2 _ v y a hy
theorem By.nil:By O w [] []:=⟨rfl,λj v y h _=>by simp at h⟩
theorem By.one{v:Value}{x:D}(h:Ay O w v x)(a:x.one=true):By O w [v] [x]:=by
 refine⟨rfl,λj u y b hy=>?_⟩;grind
theorem Hk{v:Value}{x:D}(h:Ay O w v x):By O w v.cells.toList x.cells:=by
 cases h with
 | agg vs xs i e h =>
   refine⟨by simpa [Value.cells,D.cells] using i,λj v y q hy=>?_⟩;simp only[Value.cells,vr]at q;simp only[D.cells]at hy;grind
 | bool b=>exact By.one (.bool b) rfl
 | int k n=>exact By.one (.int k n) rfl
 | str s=>exact By.one (.str s) rfl
 | fn f vs xs i e h=>exact By.one (.fn f vs xs i e h) rfl
 | ptr b off cs c l m e d h=>exact By.one (.ptr b off cs c l m e d h) rfl
 | nil a sz=>exact By.one (.nil a sz) rfl
 | emp a cap sz=>exact By.one (.emp a cap sz) rfl
 | list b off cap sz xs c o l m g p e d h=>exact By.one (.list b off cap sz xs c o l m g p e d h) rfl
theorem By.oneCell{vs:List Value}{xs:List D}(h:By O w vs xs):∀v∈vs,v.oneCell'=true:=by
 intro v b;obtain⟨j,c⟩:=List.mem_iff_getElem?.1 b
 have a:j<xs.length:=by
  rw[<-h.1];grind
 have:=h.2 j v xs[j] c (P3 a);exact UR this.1 this.2
theorem FO{α:Type}:∀(cs:List α)(o:Nat)(ys:List α),o<=cs.length->splice cs o ys=cs.take o++ys++cs.drop (o+ys.length)
 | cs,0,ys,_=>by simp[splice]
 | [],o+1,ys,h=>by grind
 | c :: cs,o+1,ys,h=>by
   rw[splice,FO cs o ys (by grind)];grind
theorem By.splice{vs us:List Value}{xs ys:List D}(h:By O w vs xs)(k:By O w us ys){o:Nat}(ho:o<=xs.length) :
 By O w (vs.take o++us++vs.drop (o+us.length)) (splice xs o ys):=by
 rw[FO _ _ _ ho,k.1];exact((h.take o).append k).append (h.drop _)
end lists
section
variable {P:Program} {X:Cx} {G:Nat->Prop} {β:Nat->Value} {S:AS} {a:Act} {w:World} {o:Oper}
theorem Mc(b:Obj):Below w.heap.size w (w.alloc b):=(Below.refl _ _).alloc (uh _) _
theorem aT(h:SimB X G β S a w){d:Nat}(hd:d<S.length){vals:Array Value}{T:TypeId}{cs:List C}(m:vals.size=cs.length)(n:∀(j:Nat) v c,vals[j]?=some v->cs[j]?=some c->Cj β (AH S) (OS β X S) w v c) :
 ∃f,SimB X G f (AY S d (.var cs) ((Ag S d).ver+1)) a (w.alloc (.cells vals T)) /\
  JX f (AH (AY S d (.var cs) ((Ag S d).ver+1))) (OS f X (AY S d (.var cs) ((Ag S d).ver+1))) (w.alloc (.cells vals T)) a.tmps (.pointer (some ⟨w.heap.size,0,none⟩)) (.ptr d ((Ag S d).ver+1) 0):=by
 refine⟨Lg β d (.pointer (some ⟨w.heap.size,0,none⟩)),h.rebox (R':=X.R) (λ_ h=>h) hd (.inl (wm _)) (by simp) ((A8.of (Mc _)).weaken h.hbase λ_ _ h=>h) (λb e _=>heap_alloc_old w _ b e)
  (λ_ b e=>⟨.inr (.inl (by simp[Ae]at e;omega)),λhr=>by simp[Ae]at e;have:=(h.rs b hr).2;omega⟩) (λk g=>⟨w.heap.size,vals,T,by simp[Lg],heap_alloc_new w _,m,λj v c i l=>(n j v c i l).mono k g⟩),?_⟩
 have g:AH (AY S d (.var cs) ((Ag S d).ver+1)) d=(Ag S d).ver+1:=by simp[AH,Ci,hd]
 exact⟨by rw[g];exact uh _,λ_=>⟨w.heap.size,by simp[Lg],rfl⟩⟩
theorem mT(h:SimB X G β S a w){d:Nat}(hd:d<S.length){n:Nat}(t:(Ag S d).ver<n){R':Nat->Prop}(s:∀b,R' b->X.R b){w':World}(m:Below w.heap.size w w'){v:Value}{sz:Nat}{e:TypeId}{xs:List D}{vals:List Value}(p:0<sz)
 (u:∀x∈xs,x.cells.length=sz) (hr:Bw w' e sz v xs.length vals) (g:∀b,Ae v=some b->(w.heap.size<=b\/X.R b)/\¬R' b) (y:By (λb=>OS β X S b\/Ae v=some b) w' vals (xs.flatMap D.cells)) :
 ∃j,SimB (X.less R') G j (AY S d (.row sz e xs) n) a w'/\j=Lg β d v /\
  JX j (AH (AY S d (.row sz e xs) n)) (OS j (X.less R') (AY S d (.row sz e xs) n)) w' a.tmps v (.sl d n):=by
 refine⟨Lg β d v,h.rebox s hd (.inl t) m.size ((A8.of m).weaken h.hbase λ_ _ h=>h) (λb g _=>m.block b g) (λ_ b l=>⟨.inr (g b l).1,(g b l).2⟩) (λk _=>⟨p,u,vals,?_,?_⟩),rfl,?_⟩
 ·simp only[Lg,if_true];exact hr
 ·refine y.mono (BA.of_sub λb c=>?_);rcases c with c|c|⟨i,q,f⟩
  ·exact .inl (.inl c)
  ·exact .inl (.inr (.inl (s b c)))
  ·rw[Ci]at q;split at q
   ·rename_i r
    rw[r.1]at f;simp[Lg]at f;exact .inr f
   ·rename_i r
    have z:i≠d:=λA=>r ⟨A,hd⟩;simp[Lg,z]at f;exact .inl (.inr (.inr ⟨i,q,f⟩))
 ·have l:AH (AY S d (.row sz e xs) n) d=n:=by simp[AH,Ci,hd]
  exact⟨by rw[l];exact uh _,λ_=>by simp[Lg]⟩
theorem L4(h:SimB X G β S a w){d:Nat}(hd:d<S.length){w':World}(j:Below w.heap.size w w'){v:Value}{sz:Nat}{e:TypeId}{xs:List D}{vals:List Value}(f:0<sz)
 (k:∀x∈xs,x.cells.length=sz) (hr:Bw w' e sz v xs.length vals) (g:∀b,Ae v=some b->w.heap.size<=b) (l:By (λb=>OS β X S b\/Ae v=some b) w' vals (xs.flatMap D.cells)) :
 ∃c,SimB X G c (AY S d (.row sz e xs) ((Ag S d).ver+1)) a w' /\
  JX c (AH (AY S d (.row sz e xs) ((Ag S d).ver+1))) (OS c X (AY S d (.row sz e xs) ((Ag S d).ver+1))) w' a.tmps v (.sl d ((Ag S d).ver+1)):=by
 obtain⟨c,m,_,p⟩:=mT h hd (n:=(Ag S d).ver+1) (wm _) (R':=X.R) (λ_ h=>h) j f k hr (λb i=>⟨.inl (g b i),λhr=>by have:=(h.rs b hr).2;have:=g b i;omega⟩) l;exact⟨c,m,p⟩
theorem By.cells{O:Nat->Prop}{vs:List Value}{ys:List D}(h:By O w vs ys){n:Nat->Nat}:∀(j:Nat) v c,vs[j]?=some v->(ys.map C.d)[j]?=some c->Cj β n O w v c:=by
 intro j v c d b;simp only[uu]at b
 cases hy:ys[j]? with
 | none=>grind
 | some y=>simp[hy]at b;subst b;exact h.2 j v y d hy
theorem lR(h:SimB X G β S a w){g:Option (Nat×Bool)}(F:Ce g a){d:Nat}(hd:d<S.length){T:TypeId}{x:Operand}(ho:o.op=.box T x){K:Hn->Prop}
 (hy:match ρOf S g x with
  | .row id n _ _ _=>K ⟨.ptr d ((Ag S d).ver+1) 0,[(d,.var [.sl id n],(Ag S d).ver+1)],[]⟩
  | .cagg l=>K ⟨.ptr d ((Ag S d).ver+1) 0,[(d,.var l,(Ag S d).ver+1)],[]⟩
  | r=>Zd r λv b=>bC v.cells λl=>K ⟨.ptr d ((Ag S d).ver+1) 0,b++[(d,.var l,(Ag S d).ver+1)],[]⟩):∃e,K e/\Dp P X G S a w o e:=by
 have f:=ρ_sound h F x;have i:(execOp a.eval o).run P w=.ok (.value (.pointer (some ⟨w.heap.size,0,none⟩))) (w.alloc (.cells (a.eval x).cells T)):=by simp[execOp,ho,Instr.box,newVar,newRow]
 split at hy
 ·rename_i id n sz e xs hx
  rw[hx]at f;obtain⟨z,C,y⟩:=f
  have s:(a.eval x).cells=#[a.eval x]:=by
   have D:=h.boxes id;rw[z]at D;obtain⟨_,_,vals,hr,_⟩:=D;rw[y];rcases hr with⟨_,⟨k,_⟩|⟨L,cap,cur,k,_⟩⟩|⟨_,_,M,k⟩<;>(rw[k];rfl)
  obtain⟨t,p,q⟩:=aT h hd (T:=T) (vals:=(a.eval x).cells) (cs:=[.sl id n]) (by grind) (λj v c k m=>by
   cases j with
   | zero=>rw[s]at k;simp at k m;subst k;subst m;exact⟨vU C.symm,λ_=>y⟩
   | succ j=>simp at m)
  exact⟨_,hy,.inl ⟨_,_,i,t,p,q,rfl⟩⟩
 ·rename_i l hx
  rw[hx]at f;obtain⟨vs,k,H,m⟩:=f;have A:(a.eval x).cells=vs:=by rw[k];rfl
  obtain⟨t,p,q⟩:=aT h hd (T:=T) (vals:=(a.eval x).cells) (cs:=l) (by rw[A];exact H) (λj v c k B=>(m j v c (by grind) B).1);exact⟨_,hy,.inl ⟨_,_,i,t,p,q,rfl⟩⟩
 ·obtain⟨I,b,hK,E,J,u⟩:=JC (x:=X) (G:=G) (a:=a) f hy;rw[Qd]at hK;obtain⟨z,C,y⟩:=E.run h;have hr:=u.now h E;obtain⟨t,p,q⟩:=aT z (d:=d) (by rw[Cr];exact hd) (T:=T) (vals:=(a.eval x).cells) (cs:=I.cells.map .d) (by have:=(Hk hr).1;simpa using this) (λj v c k m=>(Hk hr).cells j v c (by grind) m);rw[y.ver]at p q;refine⟨_,hK,.inl ⟨_,_,i,t,?_,?_,rfl⟩⟩
  ·simp only[BO,Bh];exact p
  ·simp only[BO,Bh];exact q
theorem eF{O:Nat->Prop}{w:World}{v:Value}{x:D}(h:zD v=some x):Ay O w v x/\x.one=true:=by
 unfold zD at h;split at h<;>simp at h<;>subst h
 ·exact⟨.int _ _,rfl⟩
 ·exact⟨.bool _,rfl⟩
 ·exact⟨.str _,rfl⟩
 ·exact⟨.nil _ _,rfl⟩
theorem ZK{O:Nat->Prop}{w:World}:∀{vs:List Value}{xs:List D},sQ vs=some xs->By O w vs xs
 | [],xs,h=>by simp[sQ]at h;subst h;exact By.nil
 | v :: r,xs,h=>by
   simp only[sQ]at h;split at h
   ·rename_i x l hx c
    simp at h;subst h;have b:=eF (O:=O) (w:=w) hx;exact(By.one b.1 b.2).append (ZK c)
   ·cases h
theorem Qy{O:Nat->Prop}{w:World}:∀{vs:List Value}{xs:List D}(ss:List Nat),By O w vs xs->By O w vs (LL xs ss)
 | vs,[],ss,h=>by simpa [LL] using h
 | [],x :: r,ss,h=>by have:=h.1;simp at this
 | v :: vs,x :: r,[],h=>by cases x<;>simpa [LL] using h
 | v :: vs,x :: r,s :: q,h=>by
   have b:=h.2 0 v x rfl rfl;have d:By O w vs r:=⟨by simpa using h.1,λj u y e hy=>h.2 (j+1) u y (by simpa using e) (by grind)⟩;have ih:=Qy q d
   cases x<;>simp only[LL]
   case nil s' =>
    have f:∃c,v=.slice c 0 0:=by cases b.1;exact⟨_,rfl⟩
    obtain⟨c,rfl⟩:=f;exact(By.one (.nil c s) rfl).append ih
   all_goals exact(By.one b.1 b.2).append ih
theorem H5{O:Nat->Prop}{w:World}{t:TypeId}{l:List D}(h:zeroCells P t=some l):∃i z,P.info? t=some i/\i.zero=some z/\By O w z.cells.toList l:=by
 unfold zeroCells at h;split at h
 ·rename_i i b
  split at h
  ·rename_i z c
   split at h
   ·rename_i e d
    simp at h;subst h;exact⟨i,z,b,c,Qy _ (ZK d)⟩
   ·cases h
  ·cases h
 ·cases h
theorem fe(h:SimB X G β S a w){d:Nat}(hd:d<S.length){T:TypeId}(ho:o.op=.alloc T){l:List D}(b:zeroCells P T=some l){K:Hn->Prop}
 (hy:bC l λl=>K ⟨.ptr d ((Ag S d).ver+1) 0,[(d,.var l,(Ag S d).ver+1)],[]⟩):∃e,K e/\Dp P X G S a w o e:=by
 rw[Qd]at hy;obtain⟨i,z,f,b,hr⟩:=H5 (O:=OS β X S) (w:=w) b;obtain⟨g,k,m⟩:=aT h hd (T:=T) (vals:=z.cells) (cs:=l.map .d) (by have:=hr.1;simpa using this) (λj v c p n=>hr.cells j v c (by grind) n);refine⟨_,hy,.inl ⟨.pointer (some ⟨w.heap.size,0,none⟩),w.alloc (.cells z.cells T),?_,g,k,m,rfl⟩⟩;simp[execOp,ho,Instr.alloc,zeroValue,typeInfo,f,b,newVar,newRow]
theorem Po{x:Operand}(h:NE x=true):x=.const (.slice none 0 0):=by
 unfold NE at h;grind
theorem lU(h:SimB X G β S a w){d:Nat}(hd:d<S.length){x:Operand}(ho:o.op=.assign x)(hx:NE x=true){e:TypeId}(c:0<AD P e) :
 Dp P X G S a w o ⟨.sl d ((Ag S d).ver+1),[(d,.row (AD P e) e [],(Ag S d).ver+1)],[]⟩:=by
 rw[Po hx]at ho;obtain⟨f,g,i⟩:=L4 h hd (Below.refl _ _) (v:=.slice none 0 0) (e:=e) (xs:=[]) (vals:=[]) c (λ_ h=>by cases h) (.inl (World.ownsRow_nil w _ e _)) (λb j=>by simp[Ae]at j) By.nil;exact .inl ⟨_,w,by simp[execOp,ho,Act.eval],f,g,i,rfl⟩
theorem OC{T:TypeId}{p x:Operand}(ho:o.op=.store T p x){b off:Nat}(hp:a.eval p=.pointer (some ⟨b,off,none⟩)){i:TypeInfo}(d:P.info? T=some i)
 (e:(a.eval x).cells.size=i.size) {cur:Array Value} {E:TypeId} (f:w.heap[b]?=some (.cells cur E (0,0))) (c:off+(a.eval x).cells.size<=cur.size) (g:∀v∈(a.eval x).cells.toList,v.oneCell'=true) :
 (execOp a.eval o).run P w=.ok .skip (w.setRow b (cur.toList.take off++(a.eval x).cells.toList++cur.toList.drop (off+(a.eval x).cells.size)).toArray):=by
 have:=run_storeCells_at P b off E (a.eval x).cells.toList 0 cur w f (by grind) g;simp only[vF,ve]at this;simp[execOp,ho,Instr.storeAt,hp,Instr.sureAddr,storeVar,sizeOf,typeInfo,d,e,this]
theorem I5{T:TypeId}{i:TypeInfo}(b:P.info? T=some i):AD P T=i.size:=by simp[AD,b]
theorem Vy(h:SimB X G β S a w){id n:Nat}{cs:List C}(l:(Ag S id).box=.var cs)(y:(Ag S id).ver=n){b:Nat}(q:β id=.pointer (some ⟨b,0,none⟩)){vals:Array Value}{E:TypeId}(z:w.heap[b]?=some (.cells vals E (0,0)))
 (A:vals.size=cs.length) (m:∀(j:Nat) v c,vals[j]?=some v->cs[j]?=some c->Cj β (AH S) (OS β X S) w v c) {off:Nat} {us:List Value} {ns:List C} (D:us.length=ns.length) (r:off+ns.length<=cs.length)
 (s:∀(j:Nat) v c,us[j]?=some v->ns[j]?=some c->Cj β (AH S) (OS β X S) w v c) :
 SimB X G β (AY S id (.var (splice cs off ns)) n) a (w.setRow b (vals.toList.take off++us++vals.toList.drop (off+us.length)).toArray):=by
 have hid:=ND l (by simp);have ho:(Ag S id).box.owned=true:=by rw[l];rfl
 have p:Ae (β id)=some b:=by rw[q];rfl
 have t:=h.rebox (R':=X.R) (id:=id) (B:=.var (splice cs off ns)) (v:=β id) (n:=n) (w':=w.setRow b (vals.toList.take off++us++vals.toList.drop (off+us.length)).toArray)
  (λ_ h=>h) hid (.inr ⟨y.symm,rfl,by rw[l];simp⟩) (by simp) (A8.setRow _ _ _ (h.mine id b ho p).1)
  (λk _ hk=>setRow_other w b k _ (λe=>hk ho (by grind)))
  (λ_ k hk=>⟨.inl ⟨hk,ho⟩,(h.mine id k ho hk).2⟩)
  (λk u=>by
   rw[Gu]at k u ⊢;refine⟨b,_,E,q,setRow_heap w b vals _ E _ z,?_,λj v c d i=>?_⟩
   ·rw[FO _ _ _ (by omega)];simp;omega
   ·rw[FO _ _ _ (by omega)]at i;simp only[ww]at d;refine Cj.mono k u ?_;have f:(vals.toList.take off).length=(cs.take off).length:=by grind
    rcases uZ j (cs.take off).length with x|x
    ·grind
    ·rw[w6,uq (by grind),f]at d;rw[w6,uq x]at i;rcases uZ (j-(cs.take off).length) ns.length with g|g
     ·grind
     ·rw[uq (by grind),vh,D]at d;rw[uq g,vh]at i;exact m _ v c (by grind) i)
 rw[Gu]at t;exact t
theorem mY{t:TypeId}{x:D}(h:x.one=true):(nilT P t x).one=true:=by
 unfold nilT;split
 ·split<;>rfl
 ·exact h
theorem Ay.nilT{O:Nat->Prop}{w:World}{v:Value}{t:TypeId}{y:D}(h:Ay O w v y):Ay O w v (nilT P t y):=by
 unfold Go.Abs.nilT;split
 ·split
  ·cases h;exact .nil _ _
  ·exact h
 ·exact h
theorem an(h:SimB X G β S a w){g:Option (Nat×Bool)}(hg:Ce g a){T:TypeId}{p x:Operand}(ho:o.op=.store T p x){id n off:Nat}{cs:List C}
 (hp:Pa β (OS β X S) S w (a.eval p) (.vptr id n off cs)) {i:TypeInfo} (R:P.info? T=some i) {K:Hn->Prop}
 (hy:match Nt P T with
  | some true=>match ρOf S g x with
    | .cagg l=>if l.length=AD P T/\off+l.length<=cs.length then CN (splice cs off l) λl=>K ⟨.any,[(id,.var l,n)],[]⟩else False
    | r=>Zd r λv b =>
      if v.cells.length=AD P T/\off+v.cells.length<=cs.length then bC v.cells λl=>CN (splice cs off l) λl=>K ⟨.any,b++[(id,.var l,n)],[]⟩else False
  | some false=>if AD P T=1/\off<cs.length then match ρOf S g x with
   | .row F n' _ _ _=>CN (splice cs off [.sl F n']) λl=>K ⟨.any,[(id,.var l,n)],[]⟩
   | r=>Zd r λv b=>if v.one=true then CN (splice cs off [.d (nilT P T v)]) λl=>K ⟨.any,b++[(id,.var l,n)],[]⟩else False
   else False
  | none=>False) :
 ∃e,K e/\Dp P X G S a w o e:=by
 obtain⟨W,hn,blk,U,M⟩:=hp
 have data:∀{v:D}{b:Bx},FZ S [] b->(∀z∈b,∃sz xs,z.2.1=.frow sz xs)->Lk X G β S a w b (λO=>Ay O w (a.eval x) v)->v.cells.length=AD P T->off+v.cells.length<=cs.length ->
  K ⟨.any,b++[(id,.var (splice cs off (v.cells.map .d)),n)],[]⟩->∃e,K e/\Dp P X G S a w o e:=by
  intro v b V H m I N hK;obtain⟨h1,h2,h3⟩:=V.run h;have hr:=Hk (m.now h V)
  have u:(Ag (Bh b S) id).box=.var cs:=by
   rw[h3.other id λz hz e=>?_]
   ·exact W
   ·obtain⟨sz,xs,e2⟩:=H z hz;rcases(V.each z hz).2 with⟨_,_,_,k1,_⟩|⟨_,_,k1,k2,_⟩|⟨k1,k2⟩
    all_goals grind
  have Y:(Ag (Bh b S) id).ver=n:=by rw[h3.ver,hn]
  obtain⟨vals,E,L,q,A⟩:=Np h1 u U;have J:(a.eval x).cells.size=v.cells.length:=by have:=hr.1;simpa using this
  have f:=OC (P:=P) ho M R (by rw[J,I,I5 R]) L (by grind) hr.oneCell;refine⟨_,hK,.inr (.inl ⟨_,f,β,?_,trivial,rfl⟩)⟩;have:=Vy h1 u Y U L q A (off:=off) (us:=(a.eval x).cells.toList) (ns:=v.cells.map .d) (by rw[hr.1];simp) (by grind) hr.cells;simp only[BO,Bh];grind
 split at hy
 ·have k:=ρ_sound h hg x;split at hy
  ·rename_i l hx
   rw[hx]at k;obtain⟨⟨I,N⟩,hK⟩:=Al hy;rw[BW]at hK;obtain⟨us,hu,Z,huc⟩:=k;have Q:(a.eval x).cells=us:=by rw[hu];rfl
   obtain⟨vals,E,L,q,A⟩:=Np h W U
   have d:∀v∈us.toList,v.oneCell'=true:=by
    intro v s;obtain⟨j,hj⟩:=List.mem_iff_getElem?.1 s;have hjl:j<l.length:=by grind
    exact(huc j v l[j] (by grind) (P3 hjl)).2
   have f:=OC (P:=P) ho M R (by rw[Q,Z,I,I5 R]) L (by grind) (by rw[Q];exact d);refine⟨_,hK,.inr (.inl ⟨_,f,β,?_,trivial,rfl⟩)⟩;have:=Vy h W hn U L q A (off:=off) (us:=(a.eval x).cells.toList) (ns:=l) (by rw[Q];simpa using Z) (by simpa using N) (λj v c s hc=>(huc j v c (by grind) hc).1);simp only[Bh];grind
  ·obtain⟨xd,b,hK,V,H,m⟩:=JC (x:=X) (G:=G) (a:=a) k hy;obtain⟨⟨I,N⟩,hK⟩:=Al hK;rw[Qd,BW]at hK;grind
 ·obtain⟨⟨hs1,hof⟩,hy⟩:=Al hy;have k:=ρ_sound h hg x;split at hy
  ·rename_i F n' sz e xs hx
   rw[hx]at k;rw[BW]at hy;obtain⟨k1,k2,k3⟩:=k
   have d:(a.eval x).cells=#[a.eval x]/\(a.eval x).oneCell'=true:=by
    have hb':=h.boxes F;rw[k1]at hb';obtain⟨_,_,vals,hr,_⟩:=hb';rw[k3];rcases hr with⟨_,⟨M,_⟩|⟨g',cap,cur,M,_⟩⟩|⟨_,_,ad,M⟩<;>(rw[M];exact⟨rfl,rfl⟩)
   obtain⟨vals,E,L,q,A⟩:=Np h W U;have f:=OC (P:=P) ho M R (by rw[d.1,<-I5 R,hs1];rfl) L (by rw[d.1,q];exact hof) (by grind);refine⟨_,hy,.inr (.inl ⟨_,f,β,?_,trivial,rfl⟩)⟩
   have:=Vy h W hn U L q A (off:=off) (us:=(a.eval x).cells.toList) (ns:=[.sl F n']) (by grind) hof (λj v c s hc=>by
    cases j with
    | zero=>rw[d.1]at s;simp at s hc;subst s;subst hc;exact⟨vU k2.symm,λ_=>k3⟩
    | succ j=>simp at hc)
   simp only[Bh];grind
  ·obtain⟨xd,b,hK,V,H,m⟩:=JC (x:=X) (G:=G) (a:=a) k hy;obtain⟨d,hK⟩:=Al hK;rw[BW]at hK
   have hx1:(nilT P T xd).cells=[nilT P T xd]:=by
    have:=mY (P:=P) (t:=T) d;generalize nilT P T xd=y at this
    cases y<;>first|rfl|simp[D.one]at this
   exact data V H (v:=nilT P T xd) (λB h1 h2 h3 h4=>(m B h1 h2 h3 h4).nilT) (by rw[hx1,hs1];rfl) (by grind) (by rw[hx1];exact hK)
 ·grind
theorem SZ{α:Type}:∀(A B:List α)(i:Nat)(ys:List α),splice (A++B) (A.length+i) ys=A++splice B i ys
 | [],B,i,ys=>by simp
 | c :: A,B,i,ys=>by
   rw[xa,vu,show A.length+1+i=(A.length+i)+1 by omega,splice,SZ A B i ys];rfl
theorem cU{sz:Nat}:∀(xs:List D)(i:Nat)(x y:D),(∀x∈xs,x.cells.length=sz)->xs[i]?=some x->y.cells.length=sz ->
 (xs.set i y).flatMap D.cells=splice (xs.flatMap D.cells) (i*sz) y.cells
 | [],i,x,y,_,hx,_=>by grind
 | z :: r,0,x,y,hs,hx,hy=>by
   have b:z.cells.length=sz:=hs z (by simp);rw[FO _ _ _ (by simp)];grind
 | z :: r,i+1,x,y,hs,hx,hy=>by
   have b:z.cells.length=sz:=hs z (by simp);have ih:=cU r i x y (λx hx=>hs x (by simp[hx])) (by grind) hy;rw[List.set_cons_succ,vG,ih,vG,show(i+1)*sz=z.cells.length+i*sz by rw[b,vD];omega,SZ]
theorem YY(L ys b:List D)(i o:Nat)(e:i+ys.length<=L.length)(ho:o+b.length<=ys.length)(d:(L.drop i).take ys.length=ys) :
 splice L i (splice ys o b)=splice L (i+o) b:=by
 rw[FO ys o b (by omega),FO L i _ (by omega),FO L (i+o) b (by omega)];have c:(ys.take o++b++ys.drop (o+b.length)).length=ys.length:=by grind
 rw[c];have f:L.take (i+o)=L.take i++ys.take o:=by grind
 have g:L.drop (i+o+b.length)=ys.drop (o+b.length)++L.drop (i+ys.length):=by
  have:L.drop i=ys++L.drop (i+ys.length):=by
   conv=>lhs;rw[<-List.take_append_drop ys.length (L.drop i),d,List.drop_drop]
  rw[show i+o+b.length=i+(o+b.length) by omega,<-List.drop_drop,this,List.drop_append_of_le_length ho]
 grind
theorem Gx{id:Nat}:∀{b:Bx},FH id b=true->∀z∈b,z.1≠id
 | [],_,_,h=>by cases h
 | q :: r,hq,z,c=>by
   simp[FH]at hq;rcases List.mem_cons.1 c with rfl|c
   ·grind
   ·exact Gx hq.2 z c
theorem am(h:SimB X G β S a w){g:Option (Nat×Bool)}(hg:Ce g a){T:TypeId}{p x:Operand}(ho:o.op=.store T p x){id n sz:Nat}{e:TypeId}{xs:List D}{k off:Nat}
 (hp:Pa β (OS β X S) S w (a.eval p) (.eptr id n sz e xs k off)) {i:TypeInfo} (hi:P.info? T=some i) {K:Hn->Prop}
 (hy:qm (ρOf S g x) λv b=>At xs k λy =>
  if v.cells.length=AD P T/\off+v.cells.length<=y.cells.length/\FH id b=true then
   match y with
   | .agg cs=>CN (splice cs off v.cells) λl=>K ⟨.any,b++[(id,.row sz e (xs.set k (.agg l)),n)],[]⟩
   | _=>if v.one then K ⟨.any,b++[(id,.row sz e (xs.set k v),n)],[]⟩else False
  else False) :
 ∃e,K e/\Dp P X G S a w o e:=by
 obtain⟨s,b,hK,hF,hfr,N⟩:=Vf (x:=X) (G:=G) (a:=a) (ρ_sound h hg x) hy;obtain⟨_,y,t,hK⟩:=hK.go;simp only[uv]at t;obtain⟨⟨hc1,H,hnr⟩,hK⟩:=Al hK;obtain⟨h1,h2,h3⟩:=hF.run h;have hr:=Hk (N.now h hF);obtain⟨hb,hn,blk,m,cap,hβ,hv⟩:=hp;have d:(Ag (Bh b S) id).box=.row sz e xs:=by rw[h3.other id (Gx hnr)];exact hb
 have O:(Ag (Bh b S) id).ver=n:=by rw[h3.ver,hn]
 have Q:=h1.boxes id;rw[d]at Q;obtain⟨R,c,vals,U,hl⟩:=Q;have hid:id<S.length:=ND hb (by simp);have V:=A6 t;have C:y.cells.length=sz:=c y (uy t)
 obtain⟨y',I,hK⟩:∃y',(y'.cells=splice y.cells off s.cells/\y'.cells.length=sz)/\K ⟨.any,b++[(id,.row sz e (xs.set k y'),n)],[]⟩:=by
  have E:(splice y.cells off s.cells).length=sz:=by rw[FO _ _ _ (by omega)];simp;omega
  cases y with
  | agg cs=>simp only[BW]at hK;exact⟨.agg (splice cs off s.cells),⟨rfl,E⟩,hK⟩
  | bool _|int _ _|str _|fn _ _|ptr _|nil _|list _ _ =>
    obtain⟨W,hK2⟩:=Al (show(if s.one=true then K ⟨.any,b++[(id,.row sz e (xs.set k s),n)],[]⟩else False)from hK);have J:s.cells=[s]:=by cases s<;>first|rfl|simp[D.one]at W
    rw[J]at H;have hc2':off+1<=1:=H;have ho0:off=0:=by omega
    subst ho0;refine⟨s,⟨?_,?_⟩,hK2⟩
    ·rw[J];rfl
    ·rw[J];exact C
 rcases U with⟨E,⟨A,h0⟩|⟨gb,F,cur,A,hbg,hh,Y,hm,hcs,ht⟩⟩|⟨h0,_⟩
 ·omega
 ·have L:=hβ;rw[A]at L;simp at L;obtain⟨rfl,rfl,rfl⟩:=L;have f:(a.eval x).cells.size=s.cells.length:=by have:=hr.1;simpa using this
  have hle:k*sz+sz<=xs.length*sz:=by rw[<-Nat.succ_mul];exact vE _ V
  have hle2:xs.length*sz<=cur.size:=by rw[hcs];exact vE _ Y
  have Z:k*sz+off+(a.eval x).cells.size<=cur.size:=by rw[f];omega
  have hrun:=OC (P:=P) ho hv hi (by rw[f,hc1,I5 hi]) hh Z hr.oneCell;refine⟨_,hK,.inr (.inl ⟨_,hrun,?_⟩)⟩;have u:=Fc xs c
  have hsp:(xs.set k y').flatMap D.cells=splice (xs.flatMap D.cells) (k*sz+off) s.cells:=by
   rw[cU xs k y y' c t I.2,I.1];refine YY _ _ _ _ _ (by rw[u,C];exact hle) H ?_;apply vX;intro j;rw[vg];split
   ·rename_i hj
    rw[vh,Pj xs c k y j _ t (P3 hj),P3 hj]
   ·rename_i hj
    rw[uP (by omega)]
  have M:F≠0:=by omega
  have r:(Ag (Bh b S) id).box.owned=true:=by rw[d];rfl
  have hbl:Ae (β id)=some gb:=by rw[A];simp[Ae,M]
  have h5:=h1.rebox (R':=X.R) (id:=id) (B:=.row sz e (xs.set k y')) (v:=β id) (n:=n)
   (w':=w.setRow gb (cur.toList.take (k*sz+off)++(a.eval x).cells.toList++cur.toList.drop (k*sz+off+(a.eval x).cells.size)).toArray)
   (λ_ h=>h) (by rw[Cr];exact hid) (.inr ⟨O.symm,rfl,by rw[d];simp⟩) (by simp) (A8.setRow _ _ _ (h1.mine id gb r hbl).1)
   (λq _ hk=>setRow_other w gb q _ (λe=>hk r (by rw[hbl,e])))
   (λ_ q hq=>⟨.inl ⟨hq,r⟩,(h1.mine id q r hq).2⟩)
   (λkp _=>by
    rw[Gu]at kp ⊢;refine⟨R,?_,vals.take (k*sz+off)++(a.eval x).cells.toList++vals.drop (k*sz+off+(a.eval x).cells.toList.length),.inl ⟨?_,.inr ⟨gb,F,_,by rw[A];simp,hbg,setRow_heap w gb cur _ e _ hh,?_,hm,?_,?_⟩⟩,?_⟩
    ·intro z hz;rcases List.mem_or_eq_of_mem_set hz with hz|hz
     ·exact c z hz
     ·rw[hz];exact I.2
    ·simp only[uV,uO,vS,w7,ve];omega
    ·simpa using Y
    ·simp only[vY,uV,uO,vS,ve];omega
    ·simp only[w7];rw[<-ht];apply vX;intro j;simp only[vg,List.getElem?_append,vh,uV,uO,ve];split
     ·rename_i hj
      repeat' split
      all_goals first
       | rfl
       | omega
       | (congr 1;omega)
       | (rw[uk (by omega)];congr 1;omega)
     ·rename_i hj
      repeat' split
      all_goals first
       | rfl
       | omega
       | (rw[uP];simp;omega)
       | (rw[uo (by omega)])
    ·rw[hsp];exact(hl.splice hr (o:=k*sz+off) (by rw[u];omega)).mono kp)
  rw[Gu]at h5;refine⟨β,?_,trivial,rfl⟩;simp only[BO,Bh];exact h5
 ·omega
end
section
variable {P:Program} {X:Cx} {G:Nat->Prop} {β:Nat->Value} {S:AS} {a:Act} {w:World} {o:Oper}
theorem Uu(off:Nat):∀(vs:List Value)(n:Nat)(cells:Array Value),off+n+vs.length<=cells.size ->
 ((vs.zipIdx n).foldl (λ(cs:Array Value)(x:Value×Nat)=>cs.setIfInBounds (off+x.2) x.1) cells).toList=cells.toList.take (off+n)++vs++cells.toList.drop (off+n+vs.length)
 | [],n,cells,_=>by simp
 | v :: r,n,cells,h=>by
   simp only[vu]at h;rw[List.zipIdx_cons,List.foldl_cons,Uu off r (n+1) (cells.setIfInBounds (off+n) v) (by grind)];have e:=list_seg_step cells.toList (off+n) v r (by grind);simp only[vQ];rw[show off+(n+1)=off+n+1 by omega]
   simpa using e
def Q5(O:Nat->Prop)(w:World):List (Nat×Value)->List (Nat×D)->Prop
 | [],[]=>True
 | (i,v) :: r,(j,x) :: s=>i=j/\Ay O w v x/\Q5 O w r s
 | _,_=>False
theorem XJ{O:Nat->Prop}{w:World}{b:Nat->Option (Nat×Nat)}:∀{k:List (Nat×Value)}{m:List (Nat×D)}{cells:Array Value}{cs l:List D},Q5 O w k m->By O w cells.toList cs->XH b cs m=some l ->
 ∃d,Instr.fill b cells k=some d/\By O w d.toList l
 | [],[],cells,cs,l,_,hc,hf=>by simp[XH]at hf;subst hf;exact⟨cells,rfl,hc⟩
 | (i,v) :: r,(j,x) :: s,cells,cs,l,hp,hc,hf=>by
   obtain⟨rfl,p,hp⟩:=hp;simp only[XH]at hf;split at hf
   ·cases hf
   ·rename_i off n g
    split at hf
    ·rename_i h
     have e:=Hk p;have q:v.cells.size=x.cells.length:=by simpa using e.1
     have t:cells.size=cs.length:=by simpa using hc.1
     have c:=Uu off v.cells.toList 0 cells (by grind);simp only[vF]at c
     have f:By O w (v.cells.zipIdx.foldl (λcs (x:Value×Nat)=>cs.setIfInBounds (off+x.2) x.1) cells).toList (splice cs off x.cells):=by
      rw[<-Array.foldl_toList,Array.toList_zipIdx,c];exact hc.splice e (by omega)
     obtain⟨d,y,u⟩:=XJ hp f hf;refine⟨d,?_,u⟩;simp only[Instr.fill,g];grind
    ·cases hf
 | [],_ :: _,_,_,_,hp,_,_=>hp.elim
 | (_,_) :: _,[],_,_,_,hp,_,_=>hp.elim
theorem UK(h:SimB X G β S a w){g:Option (Nat×Bool)}(j:Ce g a):∀{parts:List (Nat×Operand)}{K:List (Nat×D)->Bx->Prop},M4 (ρOf S g) parts K ->
 ∃e b,K e b/\FZ S [] b/\Lk X G β S a w b λO=>Q5 O w (parts.map λx=>(x.1,a.eval x.2)) e
 | [],K,hy=>⟨[],[],hy,trivial,λ_ _ _ _ _=>trivial⟩
 | (i,x) :: r,K,hy=>by
   obtain⟨l,b,hK,k,_,d⟩:=JC (x:=X) (G:=G) (a:=a) (ρ_sound h j x) hy;obtain⟨e,m,hK,f,c⟩:=UK h j hK;exact⟨_,_,hK,k.append f,(d.and c).mono (λ_ h=>h) λO h=>⟨rfl,h.1,h.2⟩⟩
theorem UM(h:SimB X G β S a w){g:Option (Nat×Bool)}(j:Ce g a):∀{parts:List (Nat×Operand)}{K:List (Nat×D)->Bx->Prop},NJ (ρOf S g) parts K ->
 ∃e b,K e b/\FZ S [] b/\Lk X G β S a w b λO=>Q5 O w (parts.map λx=>(x.1,a.eval x.2)) e
 | [],K,hy=>⟨[],[],hy,trivial,λ_ _ _ _ _=>trivial⟩
 | (i,x) :: r,K,hy=>by
   obtain⟨l,b,hK,k,_,d⟩:=Vf (x:=X) (G:=G) (a:=a) (ρ_sound h j x) hy;obtain⟨e,m,hK,f,c⟩:=UM h j hK;exact⟨_,_,hK,k.append f,(d.and c).mono (λ_ h=>h) λO h=>⟨rfl,h.1,h.2⟩⟩
theorem Yu{b:List Field}(h:b.all (λf=>(P.info? f.type).isSome)=true) :
 (b.mapM λ(f:Field)=>(do pure (f.offset,<-sizeOf f.type):Sem (Nat×Nat))).run P w=.ok (b.map λ(f:Field)=>(f.offset,AD P f.type)) w:=by
 induction b with
 | nil=>simp
 | cons f r ih =>
   simp only[List.all_cons,vi]at h;obtain⟨e,d⟩:=h
   cases hi:P.info? f.type with
   | none=>grind
   | some i =>
     have c:=ih d;simp only[wZ,Sem.run_bind,sizeOf,typeInfo,run_program,Result.andThen_ok,hi,Sem.run_pure,ul,AD]at c ⊢;rw[c];simp
theorem X8(h:SimB X G β S a w){g:Option (Nat×Bool)}(F:Ce g a){t:TypeId}{parts:Array (Nat×Operand)}(ho:o.op=.build t parts){c:Array Field}(H:P.underlying t=some (.struct c))
 {x:List D} (q:zeroCells P t=some x) (k:c.toList.all (λf=>(P.info? f.type).isSome)=true) {K:Hn->Prop}
 (hy:M4 (ρOf S g) parts.toList λA b=>match XH (λi=>match c[i]? with|some f=>some (f.offset,AD P f.type)|none=>none) x A with
  | some l=>CN l λl=>K ⟨.d (.agg l),b,[]⟩
  | none=>False):∃e,K e/\Dp P X G S a w o e:=by
 obtain⟨A,b,hK,B,m⟩:=UK h F hy;obtain⟨I,N,_⟩:=B.run h;have hp:=m.now h B;split at hK
 ·rename_i l J
  rw[BW]at hK;obtain⟨i,z,L,M,r⟩:=H5 (O:=OS β X (Bh b S)) (w:=w) q;obtain⟨n,C,p⟩:=XJ hp r J;have d:(λ(i:Nat)=>match (c[i]?:Option Field)with|some f=>some (f.offset,AD P f.type)|none=>none)=λi=>(c.map λ(f:Field)=>(f.offset,AD P f.type))[i]?:=by grind
  rw[d]at C
  have s:(c.mapM λ(f:Field)=>(do pure (f.offset,<-sizeOf f.type):Sem (Nat×Nat))).run P w=.ok (c.map λ(f:Field)=>(f.offset,AD P f.type)) w:=by
   rw[xf,Sem.run_map,Yu k];simp only[Result.andThen_ok];congr 1;grind
  refine⟨_,hK,.inl ⟨.agg n,w,?_,β,I,?_,rfl⟩⟩
  ·simp only[execOp,ho,Instr.build,Sem.run_bind,zeroValue,typeInfo,run_program,L,M,Result.andThen_ok,Sem.run_pure,run_underlying H,s,xb];rw[C];simp
  ·refine .agg _ _ (by simpa using p.1) (λy hy=>?_) (λj v y Q hy=>(p.2 j v y (by grind) hy).1);obtain⟨j,E⟩:=List.mem_iff_getElem?.1 hy;have u:j<n.toList.length:=by rw[p.1];exact A6 E
   exact(p.2 j _ y (P3 u) E).2
 ·grind
theorem XI{sz:Nat}:∀(d:List (Nat×Value))(k:Nat)(cells:Array Value),(∀(j:Nat) x,d[j]?=some x->x.1=k+j/\x.2.cells.size=sz)->cells.size=(k+d.length)*sz ->
 ∃c,Instr.fill (λi=>some (i*sz,sz)) cells d=some c/\c.toList=cells.toList.take (k*sz)++d.flatMap (λx=>x.2.cells.toList)
 | [],k,cells,_,hc=>⟨cells,rfl,by simp at hc ⊢;rw[<-hc];exact(vM (by simp)).symm⟩
 | (i,v) :: r,k,cells,hp,hc=>by
   obtain⟨e,h⟩:=hp 0 (i,v) (by simp);simp only[vF]at e h;subst e;simp only[vu]at hc;have l:(i+(r.length+1))*sz=i*sz+sz+r.length*sz:=by grind
   have f:i*sz+v.cells.size<=cells.size:=by omega
   have b:=Uu (i*sz) v.cells.toList 0 cells (by grind);simp only[vF,ve]at b
   have g:(v.cells.zipIdx.foldl (λ(cs:Array Value)(x:Value×Nat)=>cs.setIfInBounds (i*sz+x.2) x.1) cells).toList=cells.toList.take (i*sz)++v.cells.toList++cells.toList.drop (i*sz+v.cells.size):=by
    rw[<-Array.foldl_toList,Array.toList_zipIdx];exact b
   obtain⟨c,n,m⟩:=XI (sz:=sz) r (i+1) (v.cells.zipIdx.foldl (λ(cs:Array Value)(x:Value×Nat)=>cs.setIfInBounds (i*sz+x.2) x.1) cells)
    (λj x hx=>by have:=hp (j+1) x (by grind);omega)
    (by rw[<-ve,g];simp;rw[show i+1+r.length=i+(r.length+1) by omega];omega)
   refine⟨c,?_,?_⟩
   ·simp only[Instr.fill];grind
   ·rw[m,g,vG];rw[List.take_append_of_le_length (by simp[vD];omega),vM (by grind)];simp
theorem S7{O:Nat->Prop}{w:World}:∀{b:List (Nat×Value)}{d:List (Nat×D)}{k:Nat}{l:List D},Q5 O w b d->RF k d=some l ->
 b.length=l.length/\(∀(j:Nat) x,b[j]?=some x->x.1=k+j/\∃y,l[j]?=some y/\Ay O w x.2 y)/\By O w (b.flatMap (λx=>x.2.cells.toList)) (l.flatMap D.cells)
 | [],[],k,l,_,hl=>by simp[RF]at hl;subst hl;exact⟨rfl,λj x hx=>by simp at hx,By.nil⟩
 | (i,v) :: r,(j,x) :: s,k,l,hp,hl=>by
   obtain⟨rfl,e,hp⟩:=hp;simp only[RF]at hl;split at hl
   ·rename_i c
    subst c;simp at hl;obtain⟨m,f,rfl⟩:=hl;obtain⟨g,n,h⟩:=S7 hp f;refine⟨by simp[g],λj y hy=>?_,?_⟩
    ·grind
    ·simp only[vG];exact(Hk e).append h
   ·cases hl
 | [],_ :: _,_,_,hp,_=>hp.elim
 | (_,_) :: _,[],_,_,hp,_=>hp.elim
theorem Kf{e:TypeId}(h:LQ P e=true):∃i z,P.info? e=some i/\i.zero=some z/\z.cells.size=i.size:=by
 unfold LQ at h;grind
theorem WK(h:SimB X G β S a w){g:Option (Nat×Bool)}(hg:Ce g a){d:Nat}(hd:d<S.length){t e:TypeId}{n:Nat}{parts:Array (Nat×Operand)}(ho:o.op=.buildSlice t n parts)(V:P.underlying t=some (.slice e))
 {K:Hn->Prop} (hy:NJ (ρOf S g) parts.toList λW b=>match RF 0 W with
  | some l=>CN l λl =>
    if l.length=n/\0<AD P e/\LQ P e=true/\n*AD P e<=16777216/\l.all (λx=>x.cells.length==AD P e)then K ⟨.sl d ((Ag S d).ver+1),b++[(d,.row (AD P e) e l,(Ag S d).ver+1)],[]⟩else False
  | none=>False):∃e,K e/\Dp P X G S a w o e:=by
 obtain⟨W,b,hK,Y,u⟩:=UM h hg hy;obtain⟨Z,h2,A⟩:=Y.run h;have hp:=u.now h Y;split at hK
 ·rename_i l hl
  rw[BW]at hK;obtain⟨⟨B,p,H,E,hall⟩,C⟩:=Al hK;clear hK;obtain⟨i,z,I,H,hzs⟩:=Kf H;have c:AD P e=i.size:=I5 I;obtain⟨h3,h4,h5⟩:=S7 hp hl;have f:∀x∈l,x.cells.length=AD P e:=by grind
  have J:parts.size=n:=by grind
  by_cases q:n=0
  ·subst q;have L:l=[]:=uJ B;subst L;have M:parts.toList=[]:=by grind
   obtain⟨N,r,s⟩:=L4 Z (d:=d) (by rw[Cr];exact hd) (Mc (.cells #[] e)) (v:=.slice (some ⟨w.heap.size,0,none⟩) 0 0) (e:=e) (xs:=[]) (vals:=[]) p (λ_ h=>by cases h)
    (.inr ⟨rfl,rfl,_,rfl⟩) (λb O=>by simp[Ae]at O) By.nil
   rw[A.ver]at r s;refine⟨_,C,.inl ⟨.slice (some ⟨w.heap.size,0,none⟩) 0 0,w.alloc (.cells #[] e),?_,N,?_,?_,rfl⟩⟩
   ·simp[execOp,ho,Instr.buildSlice,run_underlying V,sizeOf,typeInfo,I,M,Instr.fill,newRow,Array.range_zero']
   ·simp only[BO,Bh];exact r
   ·simp only[BO,Bh];exact s
  have q:0<n:=Nat.pos_of_ne_zero q
  obtain⟨k,h6,Q⟩:=XI (sz:=i.size) (parts.toList.map λx=>(x.1,a.eval x.2)) 0 ((Array.range (n*i.size)).map (z.cells[·%z.cells.size]!))
   (λj x hx=>by
    obtain⟨r,y,s,R⟩:=h4 j x hx;refine⟨r,?_⟩;have:=(Hk R).1;rw[f y (uy s),c]at this
    simpa using this)
   (by simp[J])
  simp only[Nat.zero_mul,List.take_zero,List.nil_append]at Q
  have m:k.size=n*i.size:=by
   have:=h5.1;rw[<-Q,Fc l f,B,c]at this
   simpa using this
  obtain⟨N,r,s⟩:=L4 Z (d:=d) (by rw[Cr];exact hd) (Mc (.cells k e)) (v:=.slice (some ⟨w.heap.size,0,none⟩) n n) (e:=e) (xs:=l) (vals:=k.toList) p f
   (.inl ⟨by rw[B,c];rw[ve];exact m,.inr ⟨w.heap.size,n,k,by rw[B],ug _,heap_alloc_new w _,by omega,by
    have:n<=n*AD P e:=xn n p;unfold maxLen;omega,by rw[c];exact m,by rw[B,c,<-m];exact vM (by simp)⟩⟩)
   (λb O=>by simp[Ae]at O;omega)
   (by
    rw[Q];refine h5.mono ⟨by simp,λb' D F=>?_,λb' D _=>heap_alloc_old w _ b' D⟩;rcases F with F|F
    ·grind
    ·simp[Ae]at F;omega)
  rw[A.ver]at r s;refine⟨_,C,.inl ⟨.slice (some ⟨w.heap.size,0,none⟩) n n,w.alloc (.cells k e),?_,N,?_,?_,rfl⟩⟩
  ·have T:¬(n*i.size>2 ^ 24):=by rw[<-c];omega
   have U:¬(n*i.size=0):=by
    rw[<-c];have:=Nat.mul_pos q p;omega
   simp only[execOp,ho,Instr.buildSlice,Sem.run_bind,run_underlying V,Result.andThen_ok,sizeOf,typeInfo,run_program,I,Sem.run_pure,T,if_false,U,zeroValue,H,xb];rw[h6];simp[newRow]
  ·simp only[BO,Bh];exact r
  ·simp only[BO,Bh];exact s
 ·grind
theorem mO{O:Nat->Prop}{z:Value}{sz:Nat}{x:D}(hx:By O w z.cells.toList x.cells)(i:z.cells.size=sz)(k:0<sz)(n c:Nat)(l:n<=c) :
 ((madeCells z.cells (c*sz)).toList.take (n*sz)).length=n*sz/\By O w ((madeCells z.cells (c*sz)).toList.take (n*sz)) ((List.replicate n x).flatMap D.cells):=by
 have q:n*sz<=c*sz:=vE _ l;have b:((madeCells z.cells (c*sz)).toList.take (n*sz)).length=n*sz:=by simp[size_madeCells,we l]
 have d:x.cells.length=sz:=by rw[<-hx.1];simpa using i
 have e:=Fc (sz:=sz) (List.replicate n x) (λy hy=>by rw[wd hy];exact d);refine⟨b,by rw[b,e];simp,λj v y m hy=>?_⟩;have p:j<n*sz:=by grind
 have f:j/sz<n:=by rw[wC k];exact p
 have t:j%sz<sz:=wK _ k
 have g:((List.replicate n x).flatMap D.cells)[j]?=some (x.cells[j%sz]'(by grind)):=by
  have:=Pj (sz:=sz) (List.replicate n x) (λy hy=>by rw[wd hy];exact d) (j/sz) x (j%sz) _ (by simp[f]) (P3 (by grind))
  rwa [vA,wF]at this
 rw[g]at hy
 cases hy
 rw[vJ p]at m
 have r:v=z.cells.toList[j%sz]'(by grind):=by
  have h:j<c*sz:=by omega
  have s:j%sz<z.cells.size:=by grind
  simp[madeCells,h,i]at m;grind
 exact hx.2 (j%sz) v _ (by grind) (P3 _)
theorem eG{t:TypeId}{K:D->Prop}(hy:ZL P t K):∃x,K x/\∃i z,P.info? t=some i/\i.zero=some z/\∀(O:Nat->Prop)(w:World),By O w z.cells.toList x.cells:=by
 unfold ZL at hy;split at hy
 ·rename_i l b
  obtain⟨i,z,c,d,-⟩:=H5 (O:=λ_=>True) (w:=default) b
  have hr:∀(O:Nat->Prop)(w:World),By O w z.cells.toList l:=by
   intro O w;obtain⟨j,k,f,g,hr⟩:=H5 (O:=O) (w:=w) b;grind
  split at hy
  ·rw[UF]at hy;exact⟨_,hy,i,z,c,d,λO w=>(hr O w).norm⟩
  ·split at hy
   ·rename_i y
    rw[NH]at hy;refine⟨_,hy,i,z,c,d,λO w=>?_⟩;have h:y.one=true:=((hr O w).2 0 _ y (P3 (by rw[(hr O w).1];simp)) rfl).2;have e:(norm y).cells=[norm1 y]:=by cases y<;>first|rfl|simp[D.one]at h
    rw[e];exact(hr O w).norm
   ·grind
  ·grind
 ·grind
theorem jB(h:SimB X G β S a w){g:Option (Nat×Bool)}(I:Ce g a){d:Nat}(hd:d<S.length){t e:TypeId}{x y:Operand}(ho:o.op=.makeSlice t x y)(M:P.underlying t=some (.slice e))(F:0<AD P e)(N:LQ P e=true)
 {k J:IntKind} {l c:Int} (hx:ρOf S g x=.d (.int k l)) (hy:ρOf S g y=.d (.int J c)) {K:Hn->Prop}
 (m:ZL P e λz=>JW (0<=l/\l<=c/\c<=maxLen/\(Lp P e:Int)*c<=281474976710656) (K ⟨.sl d ((Ag S d).ver+1),[(d,.row (AD P e) e (List.replicate l.toNat z),(Ag S d).ver+1)],[]⟩)):∃e,K e/\Dp P X G S a w o e:=by
 have B:=ρ_sound h I x;rw[hx]at B;have B:=AJ B;have C:=ρ_sound h I y;rw[hy]at C;have C:=AJ C;obtain⟨z,m,i,D,E,n,p⟩:=eG m;obtain⟨⟨O,Q,W,L⟩,hK⟩:=m;obtain⟨Y,Z,q,r,s⟩:=Kf N;rw[E]at q;cases q;rw[n]at r;cases r;have f:AD P e=i.size:=I5 E;have j:Lp P e=i.bytes:=by simp[Lp,E]
 rw[j]at L;have hm:maxLen<=9223372036854775807:=by unfold maxLen;omega
 have u:=run_make (P:=P) w t e i D M E n k J l c O Q L (by omega);have A:=mO (w:=w.alloc (.cells (madeCells D.cells (c.toNat*i.size)) e)) (p (λb=>OS β X S b\/Ae (.slice (some ⟨w.heap.size,0,none⟩) l.toNat c.toNat)=some b) _) s (by grind) l.toNat c.toNat (by omega);have H:z.cells.length=i.size:=by have:=(p (λ_=>True) w).1;rw[<-this];simpa using s
 obtain⟨R,T,U⟩:=L4 h hd (Mc (.cells (madeCells D.cells (c.toNat*i.size)) e)) (v:=.slice (some ⟨w.heap.size,0,none⟩) l.toNat c.toNat) (e:=e) (sz:=AD P e) (xs:=List.replicate l.toNat z)
  (vals:=(madeCells D.cells (c.toNat*i.size)).toList.take (l.toNat*i.size)) F (λy hy=>by rw[wd hy,f];exact H)
  (.inl ⟨by rw[f,A.1];simp,.inr ⟨w.heap.size,c.toNat,_,by simp,ug _,heap_alloc_new w _,by simp;omega,by omega,by rw[size_madeCells,f],by rw[f];simp⟩⟩)
  (λb V=>by simp[Ae]at V;omega) A.2
 refine⟨_,hK,.inl ⟨_,_,?_,R,T,U,rfl⟩⟩;simp[execOp,ho,B,C,u]
theorem kw{f:Nat->Value}{N j:Nat}{u:Value}(h:((List.range N).map f)[j]?=some u):j<N/\f j=u:=by grind
theorem RZ(h:SimB X G β S a w){r:RV}{v:Value}(hr:Pa β (OS β X S) S w v r){K:Nat->List D->Prop}(hy:OK r K) :
 ∃sz ys,K sz ys/\∃k c,v=.slice k ys.length c/\(ys=[]\/∃i f,k=some i/\By (OS β X S) w f (ys.flatMap D.cells)/\(∀x∈ys,x.cells.length=sz)/\∀(j:Nat) u,f[j]?=some u->w.cell? (i.add j)=some u):=by
 have key:∀sz ys,Ay (OS β X S) w v (.list sz ys)->∃k c,v=.slice k ys.length c/\(ys=[]\/∃i f,k=some i/\By (OS β X S) w f (ys.flatMap D.cells)/\(∀x∈ys,x.cells.length=sz)/\∀(j:Nat) u,f[j]?=some u->w.cell? (i.add j)=some u):=by
  intro sz ys M
  cases M with
  | emp k cap _=>grind
  | list b off cap _ _ c N F Y H l O m I =>
    refine⟨_,cap,rfl,.inr ?_⟩
    have t:∀j,j<(ys.flatMap D.cells).length->∃x y,ys[j/sz]?=some x/\x.cells[j%sz]?=some y/\(ys.flatMap D.cells)[j]?=some y/\0<sz:=by
     intro j A;rw[Fc ys l]at A;have p:0<sz:=by grind
     have hd:j/sz<ys.length:=by rw[wC p];exact A
     have B:j%sz<ys[j/sz].cells.length:=by rw[l _ (ud hd)];exact wK _ p
     refine⟨ys[j/sz],ys[j/sz].cells[j%sz],P3 hd,P3 B,?_,p⟩;have:=Pj ys l (j/sz) _ (j%sz) _ (P3 hd) (P3 B)
     rwa [vA,wF]at this
    refine⟨⟨b,off,none⟩,(List.range (ys.flatMap D.cells).length).map λj=>c (j/sz) (j%sz),rfl,⟨by simp,λj u y q hy=>?_⟩,l,λj u q=>?_⟩
    ·grind
    ·obtain⟨A,rfl⟩:=kw q;obtain⟨x,y',C,E,J,_⟩:=t j A;rw[Ho];have:=m _ _ _ _ C E
     rwa [Nat.add_assoc,vA,wF]at this
 cases r<;>simp only[OK]at hy
 case d x =>
  cases x<;>simp only at hy
  case nil sz =>
   have hr:Ay (OS β X S) w v (.nil sz):=hr;have:∃k,v=.slice k 0 0:=by cases hr;exact⟨_,rfl⟩
   grind
  case list sz xs=>exact⟨sz,xs,hy,key sz xs hr⟩
 case lim sz xs=>exact⟨sz,xs,hy,key sz xs hr.1⟩
 case row id n sz e xs =>
  obtain⟨F,_,Q⟩:=hr;have z:=h.boxes id;rw[F]at z;obtain⟨O,C,vals,E,J⟩:=z;refine⟨sz,xs,hy,?_⟩;rcases E with⟨L,⟨s,R⟩|⟨g,cap,cur,s,T,U,Z,B,V,W⟩⟩|⟨R,_,k,s⟩
  ·grind
  ·refine⟨some ⟨g,0,none⟩,cap,by rw[Q,s],.inr ⟨_,vals,rfl,J,C,λj u q=>?_⟩⟩;rw[Ho,uQ];rw[<-W,vg]at q;split at q
   ·simp[World.cell?,U];simpa using q
   ·cases q
  ·grind
theorem Qw{t ty e:TypeId}{i:TypeInfo}(f:P.underlying t=some (.slice e))(g:P.info? e=some i)(b d:Option Addr)(n cap c:Nat)(h:n<=cap) :
 (Builtin.append_ #[t,t] ty #[.slice b n cap,.slice d 0 c]).run P w=.ok (.slice b n cap) w:=by
 cases b<;>cases d<;>simp[Builtin.append_,run_underlying f,sizeOf,typeInfo,g,Builtin.lenOf,h,Builtin.firstCells,loadCells,loadCellsFrom,storeCells]
theorem VQ(h:SimB X G β S a w){x y:Operand}{t e:TypeId}(ho:o.op=.call ⟨.builtin .append,#[x,y],#[t,t]⟩)(R:P.underlying t=some (.slice e)){sz:Nat}{ys:List D}(T:sz=AD P e)(F:LQ P e=true)
 {p:Nat} {ad:Option Addr} {c:Nat} (hy:a.eval y=.slice ad ys.length c)
 (U:ys=[]\/∃m d,ad=some m/\By (OS β X S) w d (ys.flatMap D.cells)/\(∀x∈ys,x.cells.length=p)/\∀(j:Nat) u,d[j]?=some u->w.cell? (m.add j)=some u)
 (V:ys=[]\/p=sz) {xs:List D} (H:∀x∈xs,x.cells.length=sz) {vals:List Value} {O:Nat->Prop} (hO:∀b,O b->OS β X S b) (hl:By O w vals (xs.flatMap D.cells))
 {I:Option Addr} {cap:Nat} (Q:a.eval x=.slice I xs.length cap) (hcap:xs.length<=cap) (J:xs.length=0/\cap=0\/∃q,I=some q/\∀(j:Nat) u,vals[j]?=some u->w.cell? (q.add j)=some u)
 (hm:xs.length+ys.length<=maxLen) (W:(xs.length+ys.length)*Lp P e<=140737488355328) (Y:cap<xs.length+ys.length) :
 ∃cp w',(execOp a.eval o).run P w=.ok (.value (.slice (some ⟨w.heap.size,0,none⟩) (xs.length+ys.length) cp)) w'/\Below w.heap.size w w' /\
  ∃n,Bw w' e sz (.slice (some ⟨w.heap.size,0,none⟩) (xs.length+ys.length) cp) (xs++ys).length n/\By O w n ((xs++ys).flatMap D.cells)/\(∀x∈ys,x.cells.length=sz):=by
 obtain⟨i,z,K,F,Z⟩:=Kf F;have g:sz=i.size:=by rw[T,I5 K]
 have r:Lp P e=i.bytes:=by simp[Lp,K]
 rw[r]at W;have B:ys≠[]:=by grind
 obtain⟨m,d,rfl,L,A,k⟩:=U.resolve_left B;have hse:p=sz:=V.resolve_left B;subst hse;have hm0:0<ys.length:=List.length_pos_iff.2 B;have f:d.length=ys.length*i.size:=by rw[L.1,Fc ys A,g]
 have l:vals.length=xs.length*i.size:=by rw[hl.1,Fc xs H,g]
 have M:((xs.length+ys.length:Nat):Int)<=9223372036854775807:=by unfold maxLen at hm;omega
 have C:By O w (vals++d) ((xs++ys).flatMap D.cells):=by rw[wO];exact hl.append (L.mono (BA.of_sub hO))
 have E:∀v' w',(Builtin.append_ #[t,t] o.type #[a.eval x,a.eval y]).run P w=.ok v' w'->(execOp a.eval o).run P w=.ok (.value v') w':=by
  intro v' w' hr;simp[execOp,ho,resolve,invoke,builtin,hr]
 have hge:xs.length+ys.length<=grownCap w (xs.length+ys.length) cap e:=grownCap_ge w _ cap e;have hcm:grownCap w (xs.length+ys.length) cap e<=maxLen:=grownCap_le_maxLen w _ cap e hm
 have hr:(Builtin.append_ #[t,t] o.type #[a.eval x,a.eval y]).run P w=.ok (.slice (some ⟨w.heap.size,0,none⟩) (xs.length+ys.length) (grownCap w (xs.length+ys.length) cap e)) (w.drew.alloc (.cells (vals.toArray++d.toArray++Builtin.zeroCells z.cells (grownCap w (xs.length+ys.length) cap e-(xs.length+ys.length))) e)):=by
  rcases J with⟨hx0,hc0⟩|⟨q,rfl,s⟩
  ·subst hc0;have hxe:xs=[]:=uJ hx0;subst hxe;have N:vals=[]:=uJ (by grind);subst N;rw[Q,hy]
   cases I with
   | none =>
     have:=run_append_nil (P:=P) w t o.type e i z R K F m ys.length c d f k hm0 (by simpa using M) (by grind);grind
   | some I =>
     have:=run_append_grow (P:=P) w t o.type e i z R K F I 0 0 [] (by simp) (λj v Q=>by simp at Q) m ys.length c d f k (by omega) (by grind) (growslice_fits (by omega) (by simpa using W));grind
  ·rw[Q,hy];exact run_append_grow (P:=P) w t o.type e i z R K F q xs.length cap vals l s m ys.length c d f k (by omega) M (growslice_fits (by omega) W)
 refine⟨_,_,E _ _ hr,(Below.refl _ _).drew.alloc (uh _) _,vals++d,.inl ⟨?_,.inr ⟨w.heap.size,grownCap w (xs.length+ys.length) cap e,_,by simp,ug _,heap_alloc_new w.drew _,by simpa using hge,hcm,?_,?_⟩⟩,C,A⟩
 ·grind
 ·simp only[Array.size_append,vY,size_zeroCells,Z,l,f,<-g,<-vD];grind
 ·have:(xs++ys).length*p=(vals++d).length:=by simp[l,f,g,vD]
  grind
theorem c9(h:SimB X G β S a w){x y:Operand}{t e:TypeId}(ho:o.op=.call ⟨.builtin .append,#[x,y],#[t,t]⟩)(hu:P.underlying t=some (.slice e)){id n sz:Nat}{xs ys:List D}
 (hx:Pa β (OS β X S) S w (a.eval x) (.row id n sz e xs)) (hsz:sz=AD P e) (M:LQ P e=true) {J:Nat} {ad:Option Addr} {c:Nat} (hy:a.eval y=.slice ad ys.length c)
 (hys:ys=[]\/∃B d,ad=some B/\By (OS β X S) w d (ys.flatMap D.cells)/\(∀x∈ys,x.cells.length=J)/\∀(j:Nat) u,d[j]?=some u->w.cell? (B.add j)=some u)
 (hm:xs.length+ys.length<=maxLen) (s:(xs.length+ys.length)*Lp P e<=140737488355328) (hs':ys=[]\/J=sz) :
 Dp P X G S a w o ⟨.sl id (n+1),[(id,.row sz e (xs++ys),n+1)],[]⟩:=by
 obtain⟨R,hver,T⟩:=hx;have hid:id<S.length:=ND R (by simp);have N:=h.boxes id;rw[R]at N;obtain⟨hpos,C,vals,E,hl⟩:=N;have v:(Ag S id).box.owned=true:=by rw[R];rfl
 have fin:∀I w',(execOp a.eval o).run P w=.ok (.value I) w'->w.heap.size<=w'.heap.size->A8 X.base X.M w w' ->
  (∀b,b<w.heap.size->Ae (β id)≠some b->w'.heap[b]?=w.heap[b]?)->(∀b,Ae I=some b->Ae (β id)=some b\/w.heap.size<=b)->(∀x∈ys,x.cells.length=sz) ->
  (∃f,Bw w' e sz I (xs++ys).length f/\By (OS β X S) w f ((xs++ys).flatMap D.cells)) ->
  Dp P X G S a w o ⟨.sl id (n+1),[(id,.row sz e (xs++ys),n+1)],[]⟩:=by
  intro I w' hr hs F U V W hrw;obtain⟨f,Y,Z⟩:=hrw;refine .inl ⟨I,w',hr,Lg β id I,?_,?_,rfl⟩
  ·exact h.rebox (R':=X.R) (λ_ h=>h) hid (.inl (by rw[hver];omega)) hs F (λb s hk=>U b s (hk v))
    (λ_ b s=>by
     rcases V b s with K|K
     ·exact⟨.inl ⟨K,v⟩,(h.mine id b v K).2⟩
     ·exact⟨.inr (.inl K),λhr=>by have:=(h.rs b hr).2;omega⟩)
    (λk _=>⟨hpos,λz M=>by rcases List.mem_append.1 M with M|M;exact C z M;exact W z M,f,by simp only[Lg,if_true];exact Y,Z.mono k⟩)
  ·have:AH (Bh [(id,.row sz e (xs++ys),n+1)] S) id=n+1:=by simp[Bh,AH,Ci,hid]
   exact⟨by rw[this];exact uh _,λ_=>by simp[Lg]⟩
 obtain⟨i,z,hi,hz',hzs⟩:=Kf M;have l:sz=i.size:=by rw[hsz,I5 hi]
 obtain⟨b0,cap,q,hle,hold⟩:∃b0 cap,a.eval x=.slice b0 xs.length cap/\xs.length<=cap/\(xs.length=0/\cap=0\/∃ad0,b0=some ad0/\∀(j:Nat) u,vals[j]?=some u->w.cell? (ad0.add j)=some u):=by
  rw[T];rcases E with⟨_,⟨m,h0⟩|⟨g,cap,cur,m,_,K,hn,_,_,htk⟩⟩|⟨h0,_,B,m⟩
  ·exact⟨_,_,by rw[m,h0],by omega,.inl ⟨h0,rfl⟩⟩
  ·refine⟨_,cap,m,hn,.inr ⟨_,rfl,λj u hj=>?_⟩⟩;rw[Ho,uQ];rw[<-htk,vg]at hj;split at hj
   ·simp[World.cell?,K];simpa using hj
   ·cases hj
  ·exact⟨_,_,by rw[m,h0],by omega,.inl ⟨h0,rfl⟩⟩
 by_cases L:ys=[]
 ·subst L;simp only[wV]at fin ⊢;refine fin (a.eval x) w ?_ (uh _) (A8.refl _ _ _) (λ_ _ _=>rfl) (λb s=>.inl (by rw[<-T];exact s)) (λ_ h=>by cases h) ⟨vals,by rw[T];exact E,hl⟩;have:=Qw (P:=P) (w:=w) (ty:=o.type) hu hi b0 ad xs.length cap c hle;simp only[execOp,ho,resolve,invoke,builtin,Sem.run_bind,Sem.run_pure,Result.andThen_ok];simp only[List.map_toArray,ul,uH,hy,q,wu];rw[this];simp
 ·by_cases r:xs.length+ys.length<=cap
  ·
    obtain⟨B,d,rfl,hnl,O,hnews⟩:=hys.resolve_left L;have hse:J=sz:=hs'.resolve_left L;subst hse;have hm0:0<ys.length:=List.length_pos_iff.2 L;have p:d.length=ys.length*i.size:=by rw[hnl.1,Fc ys O,l]
    have H:vals.length=xs.length*i.size:=by rw[hl.1,Fc xs C,l]
    have hflat:By (OS β X S) w (vals++d) ((xs++ys).flatMap D.cells):=by rw[wO];exact hl.append hnl
    rcases E with⟨hlen,⟨m,h0⟩|⟨g,A,cur,m,hbg,K,hn,hcm,hcs,htk⟩⟩|⟨h0,_,a0,m⟩
    ·rw[T,m]at q;simp at q;omega
    ·have hcc:A=cap:=by rw[T,m]at q;simp at q;omega
     subst hcc;have hc0:A≠0:=by omega
     have Q:xs.length*i.size+d.length<=cur.size:=by rw[p,hcs,l,<-vD];exact vE _ r
     have hr:=run_append_room (P:=P) w t o.type e i hu hi g xs.length A cur K B ys.length c d p hnews hnl.oneCell r Q;have hβb:Ae (β id)=some g:=by rw[m];simp[Ae,hc0]
     have hexec:∀I w',(Builtin.append_ #[t,t] o.type #[a.eval x,a.eval y]).run P w=.ok I w'->(execOp a.eval o).run P w=.ok (.value I) w':=by
      intro I w' hr;simp[execOp,ho,resolve,invoke,builtin,hr]
     refine fin _ _ (hexec _ _ (by rw[T,m,hy];exact hr)) (by simp) (A8.setRow _ _ _ (h.mine id g v hβb).1) (λb _ hk=>setRow_other w g b _ (λe=>hk (by rw[hβb,e]))) (λb s=>.inl (by rw[hβb];simp[Ae,hc0]at s;rw[s])) O
      ⟨vals++d,.inl ⟨by simp[H,p,l,vD],.inr ⟨g,A,_,by simp,hbg,setRow_heap w g cur _ e _ K,by simpa using r,hcm,?_,?_⟩⟩,hflat⟩
     ·simp only[vY,uV,uO,vS,ve];rw[hcs]at Q ⊢;omega
     ·have:(xs++ys).length*J=(vals++d).length:=by simp[H,p,l,vD]
      rw[this,<-l,htk];exact wY
    ·rw[T,m]at q;simp at q;omega
  ·obtain⟨cp,w',hr,F,f,Y,Z,W⟩:=VQ h ho hu hsz M hy hys hs' C (λ_ h=>h) hl q hle hold hm s (by omega);exact fin _ _ hr F.size ((A8.of F).weaken h.hbase λ_ _ h=>h) (λb s _=>F.block b s) (λb s=>.inr (by simp[Ae]at s;omega)) W ⟨f,Y,Z⟩
theorem Qk(h:SimB X G β S a w){d:Nat}(hd:d<S.length){x y:Operand}{t e:TypeId}(ho:o.op=.call ⟨.builtin .append,#[x,y],#[t,t]⟩)(hu:P.underlying t=some (.slice e)){sz:Nat}{xs ys:List D}
 (Q:sz=AD P e) (F:0<sz) (hz:LQ P e=true) {H:Nat} {R:Option Addr} {c:Nat} (hy:a.eval y=.slice R ys.length c)
 (T:ys=[]\/∃I g,R=some I/\By (OS β X S) w g (ys.flatMap D.cells)/\(∀x∈ys,x.cells.length=H)/\∀(j:Nat) u,g[j]?=some u->w.cell? (I.add j)=some u)
 (hm:xs.length+ys.length<=maxLen) (m:(xs.length+ys.length)*Lp P e<=140737488355328) (U:ys=[]\/H=sz)
 (hx:(∃f,a.eval x=.slice f 0 0/\xs=[])\/(Ay (OS β X S) w (a.eval x) (.list sz xs)/\Su (a.eval x)=xs.length/\ys≠[])) :
 Dp P X G S a w o ⟨.sl d ((Ag S d).ver+1),[(d,.row sz e (xs++ys),(Ag S d).ver+1)],[]⟩:=by
 obtain⟨i,z,hi,hz',hzs⟩:=Kf hz;by_cases J:ys=[]
 ·subst J;obtain⟨f,k,rfl⟩:=hx.resolve_right λh=>h.2.2 rfl
  have L:(execOp a.eval o).run P w=.ok (.value (.slice f 0 0)) w:=by
   have:=Qw (P:=P) (w:=w) (ty:=o.type) hu hi f R 0 0 c (uh _);simp only[execOp,ho,resolve,invoke,builtin,Sem.run_bind,Sem.run_pure,Result.andThen_ok];simp only[List.map_toArray,ul,uH,hy,k,wu];rw[this];simp
  obtain⟨V,W,Y⟩:=L4 h hd (Below.refl _ _) (v:=.slice f 0 0) (e:=e) (xs:=[]) (vals:=[]) F (λ_ h=>by cases h)
   (by cases f with
    | none=>exact .inl (World.ownsRow_nil w _ e _)
    | some q=>exact .inr ⟨rfl,rfl,q,rfl⟩) (λb m=>by cases f<;>simp[Ae]at m) By.nil
  exact .inl ⟨_,w,L,V,W,Y,rfl⟩
 ·have hpos:0<ys.length:=List.length_pos_iff.2 J
  obtain⟨Z,cap,vals,k,hle,M,n,hl,hcap⟩:∃Z cap,∃vals:List Value,a.eval x=.slice Z xs.length cap/\xs.length<=cap/\(xs.length=0/\cap=0\/∃f,Z=some f/\∀(j:Nat) u,vals[j]?=some u->w.cell? (f.add j)=some u) /\
   (∀x∈xs,x.cells.length=sz)/\By (OS β X S) w vals (xs.flatMap D.cells)/\cap=xs.length:=by
   rcases hx with⟨f,k,rfl⟩|⟨hr,hc,_⟩
   ·exact⟨f,0,[],by simpa using k,by simp,.inl ⟨rfl,rfl⟩,(λ_ h=>by cases h),By.nil,rfl⟩
   ·obtain⟨sz2,xs2,⟨rfl,rfl⟩,ad1,c1,p,A⟩:=RZ h (r:=.d (.list sz xs)) hr (K:=λs l=>sz=s/\xs=l) ⟨rfl,rfl⟩;have B:c1=xs.length:=by rw[p]at hc;simpa [Su] using hc
    rcases A with hxe|⟨ad2,g,rfl,h3,h4,h5⟩
    ·subst hxe;exact⟨ad1,c1,[],p,by simp,.inl ⟨rfl,by simpa using B⟩,(λ_ h=>by cases h),By.nil,B⟩
    ·exact⟨_,c1,g,p,by omega,.inr ⟨ad2,rfl,h5⟩,h4,h3,B⟩
  obtain⟨cp,w',hr,C,E,hr1,hr2,hyz⟩:=VQ h ho hu Q hz hy T U n (λ_ h=>h) hl k hle M hm m (by omega)
  obtain⟨V,W,Y⟩:=L4 h hd C (e:=e) (xs:=xs++ys) (vals:=E) F (λq N=>by rcases List.mem_append.1 N with N|N;exact n q N;exact hyz q N) hr1 (λb m=>by simp[Ae]at m;omega)
   (hr2.mono ⟨C.size,λb m O=>by
    rcases O with O|O
    ·grind
    ·simp[Ae]at O;omega,λb m _=>C.block b m⟩)
  exact .inl ⟨_,w',hr,V,W,Y,rfl⟩
theorem lS(h:SimB X G β S a w){t e:TypeId}{x:Operand}{K:Option Operand}(ho:o.op=.slice t x none K none)(hu:P.underlying t=some (.slice e)){sz:Nat}(L:sz=AD P e)(f:0<sz){id n:Nat}{M:TypeId}{xs:List D}
 (hx:Pa β (OS β X S) S w (a.eval x) (.row id n sz M xs)) {r:Int} (W:K=none/\r=(xs.length:Int)\/∃q k,K=some q/\a.eval q=.int k r) (v:0<=r) (h2:r<=xs.length) :
 Dp P X G S a w o ⟨.sl id (n+1),[(id,.row sz M (xs.take r.toNat),n+1)],[]⟩:=by
 obtain⟨s,y,A⟩:=hx;have hid:id<S.length:=ND s (by simp);have i:=h.boxes id;rw[s]at i;obtain⟨_,j,vals,m,hl⟩:=i;have p:(Ag S id).box.owned=true:=by rw[s];rfl
 have hs:(sizeOf e).run P w=.ok sz w:=by rw[L]at f ⊢;exact LI f
 obtain⟨u,cap,c,B,Y⟩:∃u cap,a.eval x=.slice u xs.length cap/\xs.length<=cap/\(cap=0\/∃g,u=some ⟨g,0,none⟩):=by
  rw[A];rcases m with⟨_,⟨d,v⟩|⟨g,cap,cur,d,_,W,Z,_,_,C⟩⟩|⟨v,_,ad',d⟩
  ·exact⟨_,_,by rw[d,v],by omega,.inl rfl⟩
  ·exact⟨_,cap,d,Z,.inr ⟨g,rfl⟩⟩
  ·exact⟨_,_,by rw[d,v],by omega,.inl rfl⟩
 have hb:=TE (P:=P) (w:=w) (a:=a) (isSlice:=true) (len:=xs.length) (cap:=cap) (lo:=none) (l:=0) (.inl ⟨rfl,rfl⟩) W (by omega) v h2 B
 have E:(execOp a.eval o).run P w=.ok (.value (.slice u r.toNat cap)) w:=by
  simp only[Option.map_none,Int.toNat_zero]at hb;simp[execOp,ho,Instr.sliceAt,Instr.slice,c,run_underlying hu,hb,hs];intro _
  cases u<;>simp[Addr.add]
 have F:(xs.take r.toNat).length=r.toNat:=by simp;omega
 have N:r.toNat*sz<=xs.length*sz:=vE _ (by omega);refine .inl ⟨_,w,E,Lg β id (.slice u r.toNat cap),?_,?_,rfl⟩
 ·refine h.rebox (R':=X.R) (λ_ h=>h) hid (.inl (by rw[y];omega)) (uh _) (A8.refl _ _ _) (λ_ _ _=>rfl) (λ_ b H=>?_) (λk _=>⟨f,λz O=>j z (vz O),vals.take (r.toNat*sz),?_,?_⟩)
  ·have:Ae (β id)=some b:=by rw[<-A,c];cases u<;>simp[Ae]at H ⊢;exact H
   exact⟨.inl ⟨this,p⟩,(h.mine id b p this).2⟩
  ·simp only[Lg,if_true];rw[F];rcases m with⟨I,⟨d,Q⟩|⟨g,J,cur,d,R,T,Z,U,V,C⟩⟩|⟨Q,hv0',a0,d⟩
   ·rw[A,d]at c;simp at c;obtain⟨rfl,_,rfl⟩:=c;have:r.toNat=0:=by omega
    rw[this];simp;exact .inl (World.ownsRow_nil w _ _ _)
   ·rw[A,d]at c;simp at c;obtain⟨rfl,rfl⟩:=c;refine .inl ⟨by simp[I,we (show r.toNat<=xs.length by omega)],.inr ⟨g,J,cur,rfl,R,T,by omega,U,V,?_⟩⟩;rw[<-C,List.take_take,we N]
   ·rw[A,d]at c;simp at c;obtain⟨rfl,_,rfl⟩:=c;have:r.toNat=0:=by omega
    rw[this];simp;exact .inr ⟨rfl,rfl,a0,rfl⟩
  ·have e1:(xs.take r.toNat).flatMap D.cells=(xs.flatMap D.cells).take (r.toNat*sz):=by
    have h1:(xs.flatMap D.cells)=(xs.take r.toNat).flatMap D.cells++(xs.drop r.toNat).flatMap D.cells:=by rw[<-wO,List.take_append_drop]
    rw[h1,List.take_left'];rw[Fc _ (λz O=>j z (vz O)),F]
   rw[e1];exact(hl.take _).mono k
 ·have:AH (Bh [(id,.row sz M (xs.take r.toNat),n+1)] S) id=n+1:=by simp[Bh,AH,Ci,hid]
  exact⟨by rw[this];exact uh _,λ_=>by simp[Lg]⟩
end
section
variable {P:Program} {X:Cx} {G:Nat->Prop} {β:Nat->Value} {S:AS} {a:Act} {w:World} {o:Oper}
theorem Sr{O O':Nat->Prop}{w w':World}{v:Value}{y:D}(h:Ay O w v y)(d:y.bare=true):Ay O' w' v y:=by
 cases h with
 | bool b=>exact .bool b
 | int k n=>exact .int k n
 | str s=>exact .str s
 | fn f vs xs g j h =>
   cases xs with
   | nil=>exact .fn f vs [] g j λi v y _ hy=>by simp at hy
   | cons q r=>simp[D.bare]at d
 | ptr=>simp[D.bare]at d
 | agg=>simp[D.bare]at d
 | nil a sz=>exact .nil a sz
 | emp a cap sz=>exact .emp a cap sz
 | list b off cap sz xs c e=>cases xs with
   | nil=>exact absurd rfl e
   | cons q r=>simp[D.bare]at d
theorem Ny(h:SimB X G β S a w){cs:List C}{K:List D->Bx->Prop}(hy:Ea (σOf S) cs λl b=>Ps l λl=>K l b) :
 ∃l b,K l b/\FZ S [] b/\(∀z∈b,∃sz xs,z.2.1=.frow sz xs)/\Lj S b cs l /\
  ∀vs:List Value,vs.length=cs.length->(∀(j:Nat) v c,vs[j]?=some v->cs[j]?=some c->Cj β (AH S) (OS β X S) w v c)->Lk X G β S a w b λO=>By O w vs l:=by
 obtain⟨l,b,hK,i,f,k,m,p⟩:=Kc h hy;rw[UF]at hK;refine⟨_,b,hK,i,f,⟨by simp[k],λj c y g e=>?_⟩,λvs r hr=>(p vs r hr).mono (λ_ h=>h) λO h=>h.norm⟩;simp only[uu]at e
 cases hz:l[j]? with
 | none=>simp[hz]at e
 | some z =>
   simp[hz]at e;subst e;have:=m j c z g hz
   cases c with
   | d q=>rw[this]
   | sl id n =>
     obtain⟨sz,xs,s,t,u⟩:=this;exact⟨sz,xs,by rw[s];rfl,t,u⟩
   | own _ _ _=>exact this
theorem R7{b:Bx}{T:AS}(p:Fr S b T)(h:SimB X G β T a w){cs:List C}{l:List D}(i:Lj S b cs l){vals:List Value}(r:vals.length=cs.length)(s:∀(j:Nat) v c,vals[j]?=some v->cs[j]?=some c->Cj β (AH T) (OS β X T) w v c) :
 By (OS β X T) w vals l:=by
 refine⟨by rw[r];exact i.1,λj v z A x=>?_⟩;have y:j<cs.length:=by rw[i.1];exact A6 x
 have f:=s j v cs[j] A (P3 y);have g:=i.2 j cs[j] z (P3 y) x;generalize cs[j]=c at f g
 cases c with
 | d q=>rw[g];exact⟨f.1.norm1,RN q f.2⟩
 | sl id n =>
   obtain⟨sz,xs,B,E,k⟩:=g
   have t:(Ag T id).box=.frow sz xs:=by
    rcases k with⟨_,k⟩|k
    ·exact p.mem _ k
    ·rw[p.keepF id (by rw[k];rfl)];exact k
   have m:=h.boxes id;rw[t]at m;have u:=f.2 (by simp only[AH];rw[p.ver];exact E.symm);rw[B,u];exact⟨m,rfl⟩
 | own sz e xs=>exact g.elim
theorem Mb(h:SimB X G β S a w){r:RV}{v:Value}(hr:Pa β (OS β X S) S w v r){K:AV->Bx->Prop}(hy:Nv (σOf S) r K) :
 ∃y b,K y b/\FZ S [] b/\y.mut=false/\Lk X G β S a w b λO=>OZ O w v y:=by
 cases r<;>simp only[Nv]at hy
 case any=>exact⟨_,[],hy,trivial,rfl,λ_ _ _ _ _=>trivial⟩
 case d y =>
  rw[NH]at hy;exact⟨_,[],hy,trivial,rfl,λB _ _ _ hk=>(Ay.mono (BA.of_sub hk) hr).norm⟩
 case lim sz xs=>exact⟨_,[],hy,trivial,rfl,λB _ _ _ hk=>Ay.mono (BA.of_sub hk) hr.1⟩
 case vptr id n off cs =>
  obtain⟨l,b,hK,H,I,s,hh⟩:=Ny h hy;rw[BW]at hK;obtain⟨q,C,J,D,L⟩:=hr;have M:FZ S [] (b++[(id,.fvar l,n)]):=H.snoc ⟨C,.inr (.inl ⟨cs,l,q,rfl,by simpa using s⟩)⟩;refine⟨_,_,hK,M,rfl,λB t p u hk=>?_⟩;have f:=u.boxes id;rw[p.mem (id,.fvar l,n) (t _ (by simp))]at f;obtain⟨V,_⟩:=f;rw[D]at V;have:=V.drop off;rw[uQ]at this;show Ay _ _ _ _;rw[L];exact this
 case row id n sz e xs =>
  obtain⟨q,C,D⟩:=hr;refine⟨_,_,hy,⟨⟨C,.inl ⟨sz,e,xs,q,rfl⟩⟩,trivial⟩,rfl,λB t p u hk=>?_⟩;have f:=u.boxes id;rw[p.mem (id,.frow sz xs,n) (t _ (by simp))]at f;show Ay _ _ _ _;rw[D];exact f
 case eptr id n sz e xs i off =>
  obtain⟨q,C,J,m,cap,D,L⟩:=hr;obtain⟨_,y,k,hK⟩:=hy.go;simp only[uv]at k;rw[BW]at hK;refine⟨_,_,hK,⟨⟨C,.inl ⟨sz,e,xs,q,rfl⟩⟩,trivial⟩,rfl,λB t p u hk=>?_⟩;have f:=u.boxes id;rw[p.mem (id,.frow sz xs,n) (t _ (by simp))]at f;show Ay _ _ _ _;have f:Ay _ _ _ _:=f;rw[D]at f;rw[L];generalize E:Value.slice (some ⟨J,0,none⟩) m cap=vv at f
  cases f with
  | emp=>simp at k
  | list b' W Y _ _ c hne hb hO Z hszs N A g =>
    simp at E;obtain⟨⟨rfl,rfl⟩,_,_⟩:=E;have:=Ay.ptr (O:=OS β X (Bh B S)) (w:=w) J (0+i*sz) y.cells (λj=>c i j) (λ_=>hb) (λ_=>hO) (λz F=>N y (uy k) z F) (λj z F=>A _ _ _ _ k F) (λj z F=>g _ _ _ _ k F);have:=this.drop off
    rwa [uQ]at this
 case cagg cs =>
  obtain⟨l,b,hK,H,I,s,hh⟩:=Ny h hy;obtain⟨us,hu,Q,R⟩:=hr;refine⟨_,_,hK,H,rfl,λB t p u hk=>?_⟩
  have g:=R7 p u (s.mono t) (vals:=us.toList) (by simpa using Q) (λj v c T hc=>by
   have:=(R j v c (by simpa using T) hc).1
   cases c with
   | d x=>exact⟨this.1.mono (BA.of_sub hk),this.2⟩
   | sl id n=>exact⟨by have q:=this.1;simp only[AH]at q ⊢;rw[p.ver];exact q,λe=>this.2 (by simp only[AH]at e ⊢;rw[p.ver]at e;exact e)⟩
   | own _ _ _=>exact this)
  show Ay _ _ _ _;rw[hu]
  exact .agg us l (by have:=g.1;simpa using this) (λy hy=>by
   obtain⟨j,hj,rfl⟩:=List.mem_iff_getElem.1 hy;have U:j<us.size:=by have:=g.1;simp at this;omega
   exact(g.2 j us[j] l[j] (by simp[U]) (P3 hj)).2) λi v x T hx=>(g.2 i v x (by simpa using T) hx).1
theorem Wu{t:TypeId}{K:AV->Prop}(hy:Z7 P t K):∃y,K (.d y)/\∀(O:Nat->Prop)(w:World),Ay O w (.slice none 0 0) y:=by
 unfold Z7 at hy;split at hy
 ·exact⟨_,hy,λ_ _=>.emp _ _ _⟩
 ·exact hy.elim
theorem MM(h:SimB X G β S a w){g:Option (Nat×Bool)}(l:Ce g a):∀{args:List Operand}{ts:List TypeId}{K:List AV->Bx->Prop},Ij P (σOf S) (ρOf S g) args ts K ->
 ∃vs b,K vs b/\FZ S [] b/\vs.length=args.length/\Lk X G β S a w b λO=>∀(i:Nat) p y,args[i]?=some p->vs[i]?=some y->OZ O w (a.eval p) y
 | [],ts,K,hy=>⟨[],[],hy,trivial,rfl,λ_ _ _ _ _ i p y hp _=>by simp at hp⟩
 | q :: r,ts,K,hy=>by
   unfold Ij at hy;split at hy
   ·rename_i j
    cases ts with
    | nil=>exact hy.elim
    | cons t ts =>
      obtain⟨y,hy,d⟩:=Wu hy;obtain⟨vs,n,hK,e,m,c⟩:=MM h l hy;refine⟨_,_,hK,e,by simp[m],c.mono (λ_ h=>h) λO k i p z hp f=>?_⟩
      cases i with
      | zero=>simp at hp f;subst hp;subst f;rw[Po j];exact d O w
      | succ i=>exact k i p z (by simpa using hp) (by simpa using f)
   ·obtain⟨y,b,hK,s,_,d⟩:=Mb h (ρ_sound h l q) hy;obtain⟨vs,n,hK,e,m,c⟩:=MM h l hK;refine⟨_,_,hK,s.append e,by simp[m],(d.and c).mono (λ_ h=>h) λO k i p z hp f=>?_⟩
    cases i with
    | zero=>simp at hp f;subst hp;subst f;exact k.1
    | succ i=>exact k.2 i p z (by simpa using hp) (by simpa using f)
def Xk(β:Nat->Value)(O:Nat->Prop)(w:World)(S:AS)(b:Bx)(v:Value)(id n:Nat):AV->Prop
 | .own sz e xs=>(Ag S id).box=.row sz e xs/\(Ag S id).ver=n/\v=β id
 | .optr l=>∃cs,(Ag S id).box=.var cs/\(Ag S id).ver=n/\v=β id/\Lj S b cs l
 | .cc k l=>k=none/\∃(vs:Array Value)(ds:List D)(sz:Nat)(e:TypeId)(xs:List D),l=ds.map .d++[.own sz e xs]/\v=.agg (vs.push (β id))/\By O w vs.toList ds/\(Ag S id).box=.row sz e xs/\(Ag S id).ver=n
 | _=>False
theorem Xk.mono{O:Nat->Prop}{b c:Bx}(d:∀y∈b,y∈c){v:Value}{id n:Nat}{y:AV}(h:Xk β O w S b v id n y):Xk β O w S c v id n y:=by
 cases y<;>first|exact h|(obtain⟨cs,e,f,g,i⟩:=h;exact⟨cs,e,f,g,i.mono d⟩)
theorem σ_row{id n id' n' sz:Nat}{e:TypeId}{xs:List D}(h:σOf S id n=.row id' n' sz e xs):id'=id/\n'=n/\(Ag S id).box=.row sz e xs/\(Ag S id).ver=n:=by
 simp only[σOf,res]at h;generalize Ag S id=s at h;obtain⟨d,b,m⟩:=s
 cases b<;>simp only at h<;>try (cases h;done)
 all_goals (split at h<;>cases h)
 rename_i c
 exact⟨rfl,rfl,rfl,c.symm⟩
theorem Xr:∀{cs:List C}{K:List C->Nat->Nat->Prop},Sd (σOf S) cs K->∀{vs:List Value},vs.length=cs.length ->
 (∀(i:Nat) u x,vs[i]?=some u->cs[i]?=some x->Cj β (AH S) (OS β X S) w u x/\u.oneCell'=true) ->
 ∃l id n,K l id n/\∃(us:List Value)(ds:List D)(sz:Nat)(e:TypeId)(xs:List D),l=ds.map .d++[.own sz e xs]/\vs=us++[β id]/\By (OS β X S) w us ds/\(Ag S id).box=.row sz e xs/\(Ag S id).ver=n
 | [],_,hy,_,_,_=>hy.elim
 | .d x :: r,K,hy,vs,hl,hc=>by
   simp only[Sd,NH]at hy
   cases vs with
   | nil=>simp at hl
   | cons v vs =>
     obtain⟨l,id,n,hK,us,ds,sz,e,xs,f,g,b,h4⟩:=Xr hy (vs:=vs) (by simpa using hl) λi u x c hx=>hc (i+1) u x (by simpa using c) (by simpa using hx);have d:=(hc 0 v (.d x) rfl rfl).1;refine⟨_,id,n,hK,v :: us,_ :: ds,sz,e,xs,by rw[f];rfl,by rw[g];rfl,⟨by simp[b.1],λj u y c hy=>?_⟩,h4⟩
     cases j with
     | zero=>simp at c hy;subst c;subst hy;exact⟨d.1.norm,by cases x<;>first|rfl|exact d.2⟩
     | succ j=>exact b.2 j u y (by simpa using c) (by simpa using hy)
 | .sl id n :: r,K,hy,vs,hl,hc=>by
   simp only[Sd]at hy;split at hy
   ·split at hy
    ·rename_i h k sz e xs hr
     match vs,hl with
     | [v],_ =>
       have d:=(hc 0 v (.sl id n) rfl rfl).1;have f:=σ_row hr;obtain⟨rfl,rfl,g,b⟩:=f;exact⟨_,_,_,hy,[],[],sz,e,xs,rfl,by rw[d.2 b.symm];rfl,By.nil,g,b⟩
    ·exact hy.elim
   ·exact hy.elim
 | .own _ _ _ :: _,_,hy,_,_,_=>hy.elim
theorem aQ(h:SimB X G β S a w){r:RV}{v:Value}(hr:Pa β (OS β X S) S w v r){K:AV->Bx->Option (Nat×Nat)->Prop}(hy:Tz (σOf S) r K) :
 ∃y b u,K y b u/\FZ S [] b/\match u with
  | none=>y.mut=false/\Lk X G β S a w b λO=>OZ O w v y
  | some (id,n)=>Xk β (OS β X S) w S b v id n y:=by
 unfold Tz at hy;split at hy
 ·rename_i id n sz e xs
  exact⟨_,[],some (id,n),hy,trivial,hr⟩
 ·rename_i id n cs
  obtain⟨l,b,hK,d,q,f,A⟩:=Ny h hy;obtain⟨g,j,B,k,m⟩:=hr;exact⟨_,b,some (id,n),hK,d,cs,g,j,by rw[m,k],f⟩
 ·rename_i cs
  split at hy
  ·obtain⟨vs,rfl,s,t⟩:=hr;obtain⟨l,id,n,hK,us,ds,sz,e,xs,g,j,k,m,h5⟩:=Xr hy (vs:=vs.toList) (by simpa using s) λi u x z hx=>t i u x (by simpa using z) hx;exact⟨_,[],some (id,n),hK,trivial,rfl,us.toArray,ds,sz,e,xs,g,by rw[show vs=us.toArray.push (β id)from by apply Array.ext';simp[j]],by simpa using k,m,h5⟩
  ·obtain⟨y,b,hK,d,p,c⟩:=Mb h hr hy;exact⟨y,b,none,hK,d,p,c⟩
 ·obtain⟨y,b,hK,d,p,c⟩:=Mb h hr hy;exact⟨y,b,none,hK,d,p,c⟩
theorem OL(h:SimB X G β S a w){g:Option (Nat×Bool)}(x:Ce g a):∀{args:List Operand}{ts:List TypeId}{K:List AV->Bx->List (Option (Nat×Nat))->Prop},Hh P (σOf S) (ρOf S g) args ts K ->
 ∃vs b us,K vs b us/\FZ S [] b/\vs.length=args.length/\us.length=args.length /\
  (∀(i:Nat) p y id n,args[i]?=some p->vs[i]?=some y->us[i]?=some (some (id,n))->Xk β (OS β X S) w S b (a.eval p) id n y) /\
  (∀(i:Nat) y,vs[i]?=some y->us[i]?=some none->y.mut=false) /\
  Lk X G β S a w b λO=>∀(i:Nat) p y,args[i]?=some p->vs[i]?=some y->us[i]?=some none->OZ O w (a.eval p) y
 | [],ts,K,hy=>⟨[],[],[],hy,trivial,rfl,rfl,(λi p y id n hp=>by simp at hp),(λi y hy=>by simp at hy),λ_ _ _ _ _ i p y hp _=>by simp at hp⟩
 | q :: r,ts,K,hy=>by
   unfold Hh at hy;split at hy
   ·rename_i s
    cases ts with
    | nil=>exact hy.elim
    | cons t ts =>
      obtain⟨y,hy,v⟩:=Wu hy;obtain⟨vs,F,us,hK,k,A,l,f,m,e⟩:=OL h x hy;refine⟨_,_,_,hK,k,by simp[A],by simp[l],λi p z id n hp d j=>?_,λi z d j=>?_,e.mono (λ_ h=>h) λO H i p z hp d j=>?_⟩
      ·cases i with
       | zero=>simp at j
       | succ i=>exact f i p z id n (by simpa using hp) (by simpa using d) (by simpa using j)
      ·cases i with
       | zero=>simp at d;subst d;rfl
       | succ i=>exact m i z (by simpa using d) (by simpa using j)
      ·cases i with
       | zero=>simp at hp d;subst hp;subst d;rw[Po s];exact v O w
       | succ i=>exact H i p z (by simpa using hp) (by simpa using d) (by simpa using j)
   ·obtain⟨y,b,u,hK,I,j⟩:=aQ h (ρ_sound h x q) hy;obtain⟨vs,F,us,hK,k,A,l,f,m,e⟩:=OL h x hK;refine⟨_,_,_,hK,I.append k,by simp[A],by simp[l],λi p z id n hp d c=>?_,λi z d c=>?_,?_⟩
    ·cases i with
     | zero=>simp at hp d c;subst hp;subst d;subst c;exact j.mono λy hy=>by simp[hy]
     | succ i=>exact(f i p z id n (by simpa using hp) (by simpa using d) (by simpa using c)).mono λy hy=>by simp[hy]
    ·cases i with
     | zero=>simp at d c;subst d;subst c;exact j.1
     | succ i=>exact m i z (by simpa using d) (by simpa using c)
    ·intro B C D E hk i p z hp d c
     cases i with
     | zero=>simp at hp d c;subst hp;subst d;subst c;exact j.2 B (λy hy=>C y (by simp[hy])) D E hk
     | succ i=>exact e B (λy hy=>C y (by simp[hy])) D E hk i p z (by simpa using hp) (by simpa using d) (by simpa using c)
theorem Ue(h:SimB X G β S a w){g:Option (Nat×Bool)}(j:Ce g a):∀{args:List Operand}{K:List D->Bx->Prop},J2 (σOf S) (ρOf S g) args K ->
 ∃l b,K l b/\FZ S [] b/\l.length=args.length/\(∀y∈l,y.one=true)/\Lk X G β S a w b λO=>∀(i:Nat) p y,args[i]?=some p->l[i]?=some y->Ay O w (a.eval p) y
 | [],K,hy=>⟨[],[],hy,trivial,rfl,(λ_ h=>by cases h),λ_ _ _ _ _ i p y hp _=>by simp at hp⟩
 | q :: r,K,hy=>by
   unfold J2 at hy;obtain⟨y,b,hK,m,_,e⟩:=Mb h (ρ_sound h j q) hy;split at hK
   ·rename_i t
    obtain⟨n,hK⟩:=Al hK;obtain⟨l,u,hK,f,s,ho,c⟩:=Ue h j hK;refine⟨_,_,hK,m.append f,by simp[s],λz d=>?_,(e.and c).mono (λ_ h=>h) λO k i p z hp d=>?_⟩
    ·rcases List.mem_cons.1 d with rfl|d
     ·exact n
     ·exact ho z d
    ·cases i with
     | zero=>simp at hp d;subst hp;subst d;exact k.1
     | succ i=>exact k.2 i p z (by simpa using hp) (by simpa using d)
   ·exact hK.elim
theorem Zp(h:SimB X G β S a w){g:Option (Nat×Bool)}(m:Ce g a){f:FuncId}{first caps:Array Operand}(ho:o.op=.makeFunc (.func f) first caps)(r:first.toList=[]){K:Hn->Prop}
 (hy:J2 (σOf S) (ρOf S g) caps.toList λl b=>K ⟨.d (.fn f l),b,[]⟩):∃e,K e/\Dp P X G S a w o e:=by
 obtain⟨l,b,hK,k,n,j,c⟩:=Ue h m hy;obtain⟨q,_,_⟩:=k.run h;have hr:=c.now h k;refine⟨_,hK,.inl ⟨.func (.func f) #[] (caps.map a.eval),w,?_,β,q,?_,rfl⟩⟩
 ·have:first=#[]:=by cases first;simp_all
  simp[execOp,ho,Instr.makeFunc,this]
 ·refine .fn f _ _ (by simp[n]) j λi v y d hy=>?_;rw[Array.getElem?_map]at d
  cases hc:caps[i]? with
  | none=>simp[hc]at d
  | some p=>simp[hc]at d;subst d;exact hr i p y (by simpa using hc) hy
theorem IL{f:FuncId}(b:F0 P f=true)(args:Array Value):(callFunc f args).run P w=.ok (.enter f args) w:=by
 unfold F0 at b;split at b
 ·rename_i fn c
  simp only[vi,Bool.not_eq_true']at b;have d:fn.body.isNone=false:=by cases hfb:fn.body<;>simp[hfb]at b ⊢
  simp only[callFunc,Sem.run_bind,run_program,Result.andThen_ok,c];simp only[b.1,d,vI,if_false,Sem.run_pure]
 ·cases b
theorem Ub:∀(l:List D)(K:List AV->Prop),X0 l K=K (l.map .d)
 | [],_=>rfl
 | x :: r,K=>by rw[X0,Ub r];rfl
theorem RY:∀(b:Bx)(S:AS)(i:Nat),(∀y∈b,y.1<S.length)->(b.map (·.1)).Nodup->Ag (Bh b S) i=match b.find? (λy=>y.1==i)with|some y=>⟨(Ag S i).av,y.2.1,y.2.2⟩|none=>Ag S i
 | [],_,_,_,_=>rfl
 | (id,B,n) :: r,S,i,hl,hn=>by
   simp only[ul,List.nodup_cons]at hn;have hid:id<S.length:=hl (id,B,n) (by simp);simp only[Bh];rw[RY r _ i (λy hy=>by rw[CX];exact hl y (by simp[hy])) hn.2,JS hid];by_cases d:id=i
   ·subst d
    have c:r.find? (λy=>y.1==id)=none:=by
     rw[wT];intro y hy f;simp at f;exact hn.1 (List.mem_map.2 ⟨y,hy,f⟩)
    rw[c];simp
   ·have e:¬i=id:=λh=>d h.symm;have g:(id==i)=false:=by simp[d]
    simp only[List.find?_cons,g,e,if_false]
end
def VI(A:Nat->Prop)(w:World)(v:Value):BJ->Prop
 | .row sz e xs=>0<sz/\(∀x∈xs,x.cells.length=sz)/\∃vals,Bw w e sz v xs.length vals/\By A w vals (xs.flatMap D.cells)
 | .var cs=>∃ds,cs=ds.map .d/\eM A w v ds
 | _=>False
abbrev RB:=List (Nat×BJ×Nat×Value)
def Sj(r:RB):Bx:=r.map λy=>(y.1,y.2.1,y.2.2.1)
def jg(β:Nat->Value)(r:RB)(i:Nat):Value:=match List.find? (λy=>y.1==i) r with|some y=>y.2.2.2|none=>β i
section
variable {P:Program} {X:Cx} {G:Nat->Prop} {β:Nat->Value} {S:AS} {a:Act} {w:World} {o:Oper}
theorem VI.rep{A:Nat->Prop}{v:Value}{B:BJ}(h:VI A w v B){O:Nat->Prop}(k:∀b,O b->A b){β:Nat->Value}{n:Nat->Nat}{i:Nat}(l:β i=v):IU β n O w i B:=by
 cases B with
 | none=>trivial
 | row sz e xs =>
   obtain⟨f,g,vals,d,m⟩:=h;exact⟨f,g,vals,by rw[l];exact d,m.mono (BA.of_sub k)⟩
 | var cs =>
   obtain⟨ds,rfl,b,vals,T,f,g,d⟩:=h;exact⟨b,vals,T,by rw[l];exact f,g,by have:=d.1;simpa using this,λj v c q p=>(d.mono (BA.of_sub k)).cells j v c (by grind) p⟩
 | fvar cs=>exact h.elim
 | frow sz xs=>exact h.elim
 | map es=>exact h.elim
theorem RA{α:Type}{l:List α}{p:α->Bool}{y:α}(h:l.find? p=some y):y∈l/\p y=true:=by grind
theorem RJ:∀{l:Bx},(l.map (·.1)).Nodup->∀{y z:Nat×BJ×Nat},y∈l->z∈l->y.1=z.1->y=z
 | [],_,_,_,h,_,_=>by cases h
 | q :: r,hn,y,z,hy,b,e=>by
   simp only[ul,List.nodup_cons]at hn;rcases List.mem_cons.1 hy with hy|hy<;>rcases List.mem_cons.1 b with b|b
   ·grind
   ·grind
   ·grind
   ·exact RJ hn.2 hy b e
theorem T7(h:SimB X G β S a w){ub:Bx}{rb:RB}{w':World}(g:((ub++Sj rb).map (·.1)).Nodup)(Y:∀y∈ub++Sj rb,y.1<S.length)
 (c:∀y∈ub,(Ag S y.1).box.owned=true/\((y.2.1.owned=true/\y.2.2=(Ag S y.1).ver)\/(y.2.1=.none/\(Ag S y.1).ver<y.2.2)))
 (hrb:∀y:Nat×BJ×Nat×Value,y∈rb->y.2.1.owned=true/\(Ag S y.1).ver<y.2.2.1)
 (Z:A8 w.heap.size (λb=>∃y∈ub,Ae (β y.1)=some b) w w') (A:Nat->Prop)
 (H:∀b,OS β X S b->(∀y∈ub,Ae (β y.1)≠some b)->A b) (hA2:∀b,∀y∈ub,y.2.1.owned=true->Ae (β y.1)=some b->A b) (hA3:∀b,∀y:Nat×BJ×Nat×Value,y∈rb->Ae y.2.2.2=some b->A b)
 (l:∀y:Nat×BJ×Nat×Value,y∈rb->∀b,Ae y.2.2.2=some b->w.heap.size<=b\/∃z∈ub,z.2.1=.none/\Ae (β z.1)=some b)
 (I:∀y z:Nat×BJ×Nat×Value,y∈rb->z∈rb->∀b,Ae y.2.2.2=some b->Ae z.2.2.2=some b->y.1=z.1)
 (hubox:∀y∈ub,y.2.1.owned=true->VI A w' (β y.1) y.2.1) (hrbox:∀y:Nat×BJ×Nat×Value,y∈rb->VI A w' y.2.2.2 y.2.1) :
 SimB X G (jg β rb) (Bh (ub++Sj rb) S) a w'/\(∀b,OS (jg β rb) X (Bh (ub++Sj rb) S) b->A b):=by
 have hsg:=λi=>RY (ub++Sj rb) S i Y g
 have hfr:∀i,List.find? (λy=>y.1==i) (Sj rb)=(List.find? (λy=>y.1==i) rb).map λy=>(y.1,y.2.1,y.2.2.1):=by
  intro i;unfold Sj;rw[List.find?_map];rfl
 let E:Nat->Option (BJ×Nat×Value):=λi=>match List.find? (λy=>y.1==i) ub with
  | some y=>some (y.2.1,y.2.2,β i)
  | none=>match List.find? (λy=>y.1==i) rb with
    | some y=>some (y.2.1,y.2.2.1,y.2.2.2)
    | none=>none
 have m:∀i B n v,E i=some (B,n,v)->(∃y∈ub,y.1=i/\B=y.2.1/\n=y.2.2/\v=β i)\/(∃y,y∈rb/\y.1=i/\B=y.2.1/\n=y.2.2.1/\v=y.2.2.2):=by grind
 have T:∀y∈ub,∃B n v,E y.1=some (B,n,v):=by
  intro y hy;simp only[E]
  cases hf:List.find? (λz=>z.1==y.1) ub with
  | some z=>grind
  | none=>grind
 have hdis:∀y∈ub,∀z,z∈rb->y.1≠z.1:=by
  intro y hy z d e;rw[uI,wJ]at g;refine g.2.2 y.1 (List.mem_map.2 ⟨y,hy,rfl⟩) z.1 ?_ e;exact List.mem_map.2 ⟨(z.1,z.2.1,z.2.2.1),List.mem_map.2 ⟨z,d,rfl⟩,rfl⟩
 have J:∀y∈ub,∀z∈ub,y.1=z.1->y=z:=by
  intro y hy z d e;rw[uI,wJ]at g;exact RJ g.1 hy d e
 have hS:∀i,Ag (Bh (ub++Sj rb) S) i=match E i with|some (B,n,_)=>⟨(Ag S i).av,B,n⟩|none=>Ag S i:=by
  intro i;rw[hsg i,List.find?_append,hfr];simp only[E]
  cases List.find? (λy=>y.1==i) ub with
  | some y=>rfl
  | none=>grind
 have hβ:∀i,jg β rb i=match E i with|some (_,_,v)=>v|none=>β i:=by
  intro i;simp only[jg,E];grind
 have K:∀b,OS (jg β rb) X (Bh (ub++Sj rb) S) b->A b:=by
  intro b s;rcases s with s|s|⟨i,V,W⟩
  ·refine H b (.inl s) λy hy f=>?_;have:=h.o₀ b s;rcases(h.mine y.1 b (c y hy).1 f).1 with O|O
   ·omega
   ·grind
  ·exact H b (.inr (.inl s)) λy hy f=>(h.mine y.1 b (c y hy).1 f).2 s
  ·rw[hS]at V;rw[hβ]at W
   cases L:E i with
   | none =>
     rw[L]at V W;refine H b (.inr (.inr ⟨i,V,W⟩)) λy hy f=>?_;have:=h.inj i y.1 b V (c y hy).1 W f;grind
   | some q=>grind
 refine⟨h.multi E hS hβ (Cr _ _) Z.size (Z.weaken h.hbase λk hk hm hh=>?_) ?_ ?_ ?_ ?_ ?_,K⟩
 ·obtain⟨y,hy,f⟩:=hh;rcases(h.mine y.1 k (c y hy).1 f).1 with O|O
  ·omega
  ·grind
 ·intro i B n v L;rcases m i B n v L with⟨y,hy,rfl,r,t,p⟩|⟨y,hy,rfl,r,t,p⟩
  ·rcases(c y hy).2 with⟨_,M⟩|⟨_,M⟩
   ·exact .inr ⟨by rw[t,M],p,λhh=>by have:=(c y hy).1;rw[hh]at this;cases this⟩
   ·grind
  ·grind
 ·intro b s hno;refine Z.block b s λ⟨y,hy,f⟩=>?_;grind
 ·intro i B n v b L Q R;rcases m i B n v L with⟨y,hy,rfl,r,t,p⟩|⟨y,hy,rfl,r,t,p⟩
  ·grind
  ·rcases l y hy b (by grind)with M|⟨z,d,_,hzb⟩
   ·grind
   ·obtain⟨D,F,u,hEz⟩:=T z d;grind
 ·intro i j B n v D F u b x C Q hB' R N
  have key:∀i j B n v D F u,E i=some (B,n,v)->E j=some (D,F,u)->B.owned=true->Ae v=some b->Ae u=some b->(∃y∈ub,y.1=i/\B=y.2.1/\n=y.2.2/\v=β i)->(∃y,y∈rb/\y.1=j/\D=y.2.1/\F=y.2.2.1/\u=y.2.2.2)->False:=by
   intro i j B n v D F u x C Q R N ⟨y,hy,O,r,t,p⟩ ⟨z,d,k3,k4,k5,k6⟩;have U:Ae (β y.1)=some b:=by grind
   rcases l z d b (by grind)with M|⟨q,hq,hqn,hqb⟩
   ·have:=h.blk (c y hy).1 U;omega
   ·have:=h.inj y.1 q.1 b (c y hy).1 (c q hq).1 U hqb;have e:=J y hy q hq this;rw[r,e,hqn]at Q
    cases Q
  rcases m i B n v x with hy|hy<;>rcases m j D F u C with d|d
  ·obtain⟨y,hy,rfl,r,t,p⟩:=hy;obtain⟨z,d,rfl,k4,k5,k6⟩:=d;exact h.inj y.1 z.1 b (c y hy).1 (c z d).1 (by rw[<-p];exact R) (by grind)
  ·exact(key i j B n v D F u x C Q R N hy d).elim
  ·exact(key j i D F u B n v C x hB' N R d hy).elim
  ·obtain⟨y,hy,rfl,r,t,p⟩:=hy;obtain⟨z,d,rfl,k4,k5,k6⟩:=d;exact I y z hy d b (by rw[<-p];exact R) (by grind)
 ·intro k hvv i B n v L;rcases m i B n v L with⟨y,hy,O,r,t,p⟩|⟨y,hy,O,r,t,p⟩
  ·by_cases Q:B.owned=true
   ·refine VI.rep (v:=β y.1) (by grind) K ?_;grind
   ·rcases(c y hy).2 with⟨M,_⟩|⟨M,_⟩
    ·grind
    ·rw[r,M];trivial
  ·refine VI.rep (v:=y.2.2.2) (by grind) K ?_;grind
theorem QQ:∀{xs:List C}{f:List (Nat×Nat)}{K:List C->Bx->Prop},S5 xs f K ->
 ∃l b,K l b/\l.length=xs.length/\(b.map (·.1)).Nodup/\(b.map λy=>(y.1,y.2.2))=f /\
  (∀(i:Nat) c c',xs[i]?=some c->l[i]?=some c'->match c with
   | .d y=>c'=.d y
   | .own sz e ys=>∃h n,c'=.sl h n/\(h,BJ.row sz e ys,n)∈b
   | .sl _ _=>False) /\
  (∀y∈b,∃(i:Nat)(sz:Nat)(e:TypeId)(ys:List D),xs[i]?=some (.own sz e ys)/\l[i]?=some (.sl y.1 y.2.2)/\y.2.1=.row sz e ys) /\
  (∀(i j h n g:Nat),l[i]?=some (.sl h n)->l[j]?=some (.sl h g)->i=j)
 | [],[],K,hy=>⟨[],[],hy,rfl,by simp,rfl,(λi c c' h=>by simp at h),(λy hy=>by cases hy),λi j h n g m=>by simp at m⟩
 | [],_ :: _,K,hy=>hy.elim
 | .d x :: r,f,K,hy=>by
   have hy:S5 r f λl b=>K (.d x :: l) b:=by cases f<;>exact hy
   obtain⟨l,b,hK,m,I,v,J,z,M⟩:=QQ hy;refine⟨_,_,hK,by simp[m],I,v,λi c c' N A=>?_,λy hy=>?_,λi j h n g O B=>?_⟩
   ·grind
   ·obtain⟨i,sz,e,ys,k,p,E⟩:=z y hy;exact⟨i+1,sz,e,ys,by simpa using k,by simpa using p,E⟩
   ·grind
 | .own sz e ys :: r,[],K,hy=>hy.elim
 | .own sz e ys :: r,(h,n) :: f,K,hy=>by
   have hy:S5 r f λl b=>if FH h b=true then K (.sl h n :: l) ((h,.row sz e ys,n) :: b)else False:=hy
   obtain⟨l,b,hK,m,I,v,J,z,M⟩:=QQ hy;obtain⟨F,hK⟩:=Al hK
   have u:∀(j g:Nat),l[j]?≠some (.sl h g):=by
    intro j g B;have H:j<r.length:=by grind
    have:=J j r[j] _ (P3 H) B;generalize r[j]=q at this
    cases q with
    | d y=>cases this
    | own s L t=>obtain⟨Q,R,k,p⟩:=this;simp at k;exact Gx F _ p k.1.symm
    | sl _ _=>exact this
   refine⟨_,_,hK,by simp[m],?_,by simp[v],λi c c' N A=>?_,λy hy=>?_,λi j Q T g O B=>?_⟩
   ·grind
   ·grind
   ·rcases List.mem_cons.1 hy with rfl|hy
    ·exact⟨0,sz,e,ys,rfl,rfl,rfl⟩
    ·obtain⟨i,s,L,t,k,p,E⟩:=z y hy;exact⟨i+1,s,L,t,by simpa using k,by simpa using p,E⟩
   ·grind
 | .sl _ _ :: r,[],K,hy=>hy.elim
 | .sl _ _ :: r,_ :: _,K,hy=>hy.elim
theorem MP:∀{xs:List C},Vp xs=false->∀(i:Nat) sz e ys,xs[i]?≠some (.own sz e ys)
 | [],_,i,sz,e,ys=>by simp
 | .d x :: r,h,0,sz,e,ys=>by simp
 | .d x :: r,h,i+1,sz,e,ys=>by simpa using MP (show Vp r=false from h) i sz e ys
 | .sl _ _ :: r,h,0,sz,e,ys=>by simp
 | .sl _ _ :: r,h,i+1,sz,e,ys=>by simpa using MP (show Vp r=false from h) i sz e ys
 | .own _ _ _ :: r,h,_,_,_,_=>by simp[Vp]at h
structure qH(X:Cx)(G:Nat->Prop)(β:Nat->Value)(S:AS)(a:Act)(w:World)(ub:Bx)(A:Nat->Prop)(r:AV)(v:Value)(w':World):Prop where
 sim:SimB X G β S a w
 hub:∀y∈ub,(Ag S y.1).box.owned=true/\((y.2.1.owned=true/\y.2.2=(Ag S y.1).ver)\/(y.2.1=.none/\(Ag S y.1).ver<y.2.2))
 hw:A8 w.heap.size (λb=>∃y∈ub,Ae (β y.1)=some b) w w'
 hA1:∀b,OS β X S b->(∀y∈ub,Ae (β y.1)≠some b)->A b
 hA2:∀b,∀y∈ub,y.2.1.owned=true->Ae (β y.1)=some b->A b
 res:Di (λb=>w.heap.size<=b\/∃z∈ub,z.2.1=.none/\Ae (β z.1)=some b) A w' v r
 outs:∀y∈ub,y.2.1.owned=true->VI (λb=>A b\/Eb v r b) w' (β y.1) y.2.1
theorem Y9{rb:RB}{ub:Bx}(b:((ub++Sj rb).map (·.1)).Nodup)(d:∀y∈ub++Sj rb,y.1<S.length){y:Nat×BJ×Nat×Value}(hy:y∈rb):AH (Bh (ub++Sj rb) S) y.1=y.2.2.1/\jg β rb y.1=y.2.2.2:=by
 have c:(y.1,y.2.1,y.2.2.1)∈ub++Sj rb:=List.mem_append.2 (.inr (List.mem_map.2 ⟨y,hy,rfl⟩));constructor
 ·simp only[AH];rw[RY _ S y.1 d b]
  cases hf:(ub++Sj rb).find? (λz=>z.1==y.1)with
  | none=>grind
  | some z =>
    have:=RA hf;have e:=RJ b this.1 c (by grind);simp only[e]
 ·unfold jg
  cases hf:rb.find? (λz=>z.1==y.1)with
  | none=>grind
  | some z =>
    have h:=RA hf;have e:z.1=y.1:=by grind
    have:z=y:=by
     rw[uI,wJ]at b;have i:((Sj rb).map (·.1)).Nodup:=b.2.1;clear c d b hf
     induction rb with
     | nil=>grind
     | cons q r ih =>
       simp only[Sj,ul,List.nodup_cons]at i;rcases List.mem_cons.1 hy with f|f<;>rcases List.mem_cons.1 h.1 with g|g
       ·grind
       ·grind
       ·grind
       ·exact ih f ⟨g,h.2⟩ i.2
    rw[this]
theorem Vo{pre ub:Bx}{S0:AS}(Q:S=Bh pre S0){d:Nat}(hd:d<S.length){dv:Nat}(hdv:(Ag S d).ver<=dv){r:AV}{K:Hn->Prop}(hnd:(ub.map (·.1)).Nodup)(R:∀y∈ub,y.1<S.length)(hy:jO d dv r (pre++ub) K)(hvp:∀i,(Ag S i).ver=(Ag S0 i).ver) :
 ∃e,K e/\∀(A:Nat->Prop) v w',qH X G β S a w ub A r v w'->Hg S0 e.homes=true->Sm X G S0 a e v w':=by
 have hlen:S.length=S0.length:=by rw[Q,Cr]
 have one:∀(B:BJ)(A:Nat->Prop)(v:Value)(w':World),FH d (pre++ub)=true->qH X G β S a w ub A r v w'->B.owned=true->(∀b,Ae v=some b->w.heap.size<=b\/∃z∈ub,z.2.1=.none/\Ae (β z.1)=some b)->(∀b,Ae v=some b->Eb v r b) ->
  VI (λb=>A b\/Eb v r b) w' v B->SimB X G (jg β [(d,B,dv+1,v)]) (Bh (ub++Sj [(d,B,dv+1,v)]) S) a w'/\AH (Bh (ub++Sj [(d,B,dv+1,v)]) S) d=dv+1/\jg β [(d,B,dv+1,v)] d=v:=by
  intro B A v w' L hp hB hmine hres hbox
  have E:((ub++Sj [(d,B,dv+1,v)]).map (·.1)).Nodup:=by
   simp only[Sj,uI,ul,uH];rw[wJ];refine⟨hnd,by simp,λp hp q hq e=>?_⟩;simp at hq;subst hq;obtain⟨y,hy,rfl⟩:=List.mem_map.1 hp;exact Gx L y (by simp[hy]) e
  have F:∀y∈ub++Sj [(d,B,dv+1,v)],y.1<S.length:=by
   intro y hy;rcases List.mem_append.1 hy with hy|hy
   ·exact R y hy
   ·simp[Sj]at hy;rw[hy];exact hd
  have x:=T7 hp.sim E F hp.hub (λy hy=>by simp at hy;subst hy;exact⟨hB,by simp only;omega⟩) hp.hw (λb=>A b\/Eb v r b)
   (λb k hn=>.inl (hp.hA1 b k hn)) (λb y hy ho k=>.inl (hp.hA2 b y hy ho k)) (λb y hy k=>by simp at hy;subst hy;exact .inr (hres b k))
   (λy hy b k=>by simp at hy;subst hy;exact hmine b k) (λy z hy H b _ _=>by simp at hy H;rw[hy,H]) hp.outs (λy hy=>by simp at hy;subst hy;exact hbox)
  have J:=Y9 (β:=β) E F (y:=(d,B,dv+1,v)) (by simp);exact⟨x.1,J.1,J.2⟩
 have C:∀(A:Nat->Prop)(v:Value)(w':World),qH X G β S a w ub A r v w'->(∀b,¬Eb v r b)->SimB X G β (Bh ub S) a w'/\∀b,OS β X (Bh ub S) b->A b:=by
  intro A v w' hp Y
  have x:=T7 (rb:=[]) hp.sim (by simpa [Sj] using hnd) (by simpa [Sj] using R) hp.hub (λy hy=>by cases hy) hp.hw A hp.hA1 hp.hA2 (λb y hy=>by cases hy) (λy hy=>by cases hy) (λy z hy=>by cases hy)
   (λy hy ho=>by
    have:=hp.outs y hy ho;have e:(λb=>A b\/Eb v r b)=A:=by funext b;apply propext;exact⟨λh=>h.resolve_right (Y b),.inl⟩
    rwa [e]at this) (λy hy=>by cases hy)
  have e:jg β []=β:=by funext i;rfl
  rw[e]at x
  simpa [Sj] using x
 cases r with
 | own sz e xs =>
   simp only[jO]at hy;obtain⟨L,hK⟩:=Al hy;refine⟨_,hK,λA v w' hp _=>?_⟩;obtain⟨x,J,h3,vals,h4,h5⟩:=hp.res;obtain⟨I,U,N⟩:=one (.row sz e xs) A v w' L hp rfl h3 (λb k=>k) ⟨x,J,vals,h4,h5.mono (BA.of_sub λ_ _=>trivial)⟩;have ee:Bh ((pre++ub)++[(d,BJ.row sz e xs,dv+1)]) S0=Bh (ub++Sj [(d,.row sz e xs,dv+1,v)]) S:=by simp only[BO];rw[<-Q];rfl
   refine⟨jg β [(d,.row sz e xs,dv+1,v)],?_,?_,rfl⟩
   ·simp only[ee];exact I
   ·simp only[ee];exact⟨by rw[U];exact uh _,λ_=>N.symm⟩
 | cc k0 l =>
   simp only[jO]at hy;split at hy<;>try exact hy.elim
   rename_i sz e xs
   obtain⟨L,hK⟩:=Al hy;refine⟨_,hK,λA v w' hp _=>?_⟩;obtain⟨x,J,h3,vals,h4,h5⟩:TP _ A w' v [.own sz e xs]:=hp.res;obtain⟨I,U,N⟩:=one (.row sz e xs) A v w' L hp rfl h3 (λb k=>k) ⟨x,J,vals,h4,h5⟩;have ee:Bh ((pre++ub)++[(d,BJ.row sz e xs,dv+1)]) S0=Bh (ub++Sj [(d,.row sz e xs,dv+1,v)]) S:=by simp only[BO];rw[<-Q];rfl
   refine⟨jg β [(d,.row sz e xs,dv+1,v)],?_,?_,rfl⟩
   ·simp only[ee];exact I
   ·simp only[ee];exact⟨by rw[U];exact uh _,λ_=>N.symm⟩
 | optr cs =>
   simp only[jO]at hy;obtain⟨L,hK⟩:=Al hy;rw[Qd]at hK;refine⟨_,hK,λA v w' hp _=>?_⟩;obtain⟨x,J⟩:=hp.res;obtain⟨I,U,N⟩:=one (.var (cs.map .d)) A v w' L hp rfl x (λb k=>k) ⟨cs,rfl,J⟩;have e:Bh ((pre++ub)++[(d,BJ.var (cs.map .d),dv+1)]) S0=Bh (ub++Sj [(d,.var (cs.map .d),dv+1,v)]) S:=by simp only[BO];rw[<-Q];rfl
   refine⟨jg β [(d,.var (cs.map .d),dv+1,v)],?_,?_,rfl⟩
   ·simp only[e];exact I
   ·simp only[e];obtain⟨b,vals,T,h3,_,_⟩:=J;exact⟨by rw[U];exact uh _,λ_=>⟨b,by rw[N,h3],h3⟩⟩
 | tup xs =>
   simp only[jO]at hy;split at hy
   ·rename_i Y
    refine⟨_,hy,λA v w' hp _=>?_⟩
    have hnr:∀b,¬Eb v (.tup xs) b:=by
     rintro b ⟨vs,i,u,sz,e,ys,_,_,h3,_⟩;exact MP Y i sz e ys h3
    obtain⟨x,J⟩:=C A v w' hp hnr;obtain⟨vs,hv,hl,hr,_⟩:=hp.res;refine⟨β,?_,⟨vs,hv,hl,λi u c hu hc=>?_⟩,rfl⟩
    ·simp only[BO];rw[<-Q];exact x
    ·have:=hr i u c hu hc
     cases c with
     | d y =>
       refine Ay.mono (BA.of_sub λb k=>.inl (J b ?_)) this;simp only[BO]at k;rw[<-Q]at k;exact k
     | own sz e ys=>exact absurd hc (MP Y i sz e ys)
     | sl _ _=>exact this.elim
   ·obtain⟨hs,hy⟩:=hy.go;obtain⟨l,k,hK,hl,hbn,hhs,hpt,hpb,hlinj⟩:=QQ hy;obtain⟨hall,hK⟩:=Al hK;refine⟨_,hK,λA v w' hp O=>?_⟩;obtain⟨vs,hv,hvl,hr,hri⟩:=hp.res;have hx:∀y∈k,∃(i:Nat)(sz:Nat)(e:TypeId)(ys:List D),xs[i]?=some (.own sz e ys)/\l[i]?=some (.sl y.1 y.2.2)/\y.2.1=.row sz e ys:=hpb
    have hch:∃f:Nat×BJ×Nat->Value,∀y∈k,∃(i:Nat)(sz:Nat)(e:TypeId)(ys:List D),xs[i]?=some (.own sz e ys)/\l[i]?=some (.sl y.1 y.2.2)/\y.2.1=.row sz e ys/\vs[i]?=some (f y):=by
     refine⟨λy=>Classical.epsilon λu=>∃(i:Nat)(sz:Nat)(e:TypeId)(ys:List D),xs[i]?=some (.own sz e ys)/\l[i]?=some (.sl y.1 y.2.2)/\y.2.1=.row sz e ys/\vs[i]?=some u,λy g=>?_⟩;obtain⟨i,sz,e,ys,I,U,N⟩:=hx y g;have hlt:i<vs.size:=by rw[hvl];exact A6 I
     exact Classical.epsilon_spec (p:=λu=>∃(i:Nat)(sz:Nat)(e:TypeId)(ys:List D),xs[i]?=some (.own sz e ys)/\l[i]?=some (.sl y.1 y.2.2)/\y.2.1=.row sz e ys/\vs[i]?=some u) ⟨vs[i],i,sz,e,ys,I,U,N,by simp[hlt]⟩
    obtain⟨f,hf⟩:=hch;let rb:RB:=k.map λy=>(y.1,y.2.1,y.2.2,f y);have V:Sj rb=k:=by simp[Sj,rb,wI,Function.comp_def]
    have m:∀y,y∈rb->∃z∈k,y=(z.1,z.2.1,z.2.2,f z):=by
     intro y g;obtain⟨z,H,rfl⟩:=List.mem_map.1 g;exact⟨z,H,rfl⟩
    have E:((ub++Sj rb).map (·.1)).Nodup:=by
     rw[V,uI,wJ];refine⟨hnd,hbn,λp M q hq e=>?_⟩;obtain⟨y,g,rfl⟩:=List.mem_map.1 M;obtain⟨z,H,rfl⟩:=List.mem_map.1 hq;have:=List.all_eq_true.1 hall z H;exact Gx this y (by simp[g]) e
    have W:∀y∈k,y.1<S.length/\(Ag S y.1).ver<y.2.2:=by
     intro y g;have:(y.1,y.2.2)∈hs:=by rw[<-hhs];exact List.mem_map.2 ⟨y,g,rfl⟩
     have key:∀(hs:List (Nat×Nat)),Hg S0 hs=true->∀p∈hs,p.1<S0.length/\(Ag S0 p.1).ver<p.2:=by
      intro hs
      induction hs with
      | nil=>intro _ p M;cases M
      | cons q r ih =>
        intro O p M;obtain⟨q1,q2⟩:=q;simp[Hg]at O;rcases List.mem_cons.1 M with rfl|M
        ·exact⟨O.1.1,O.1.2⟩
        ·exact ih O.2 p M
     have:=key hs O _ this;exact⟨by rw[hlen];exact this.1,by rw[hvp];exact this.2⟩
    have F:∀y∈ub++Sj rb,y.1<S.length:=by
     intro y g;rw[V]at g;rcases List.mem_append.1 g with g|g
     ·exact R y g
     ·exact(W y g).1
    have s:∀z∈k,∃(i:Nat)(sz:Nat)(e:TypeId)(ys:List D),xs[i]?=some (.own sz e ys)/\l[i]?=some (.sl z.1 z.2.2)/\z.2.1=.row sz e ys/\vs[i]?=some (f z)/\Vb (λb=>w.heap.size<=b\/∃z∈ub,z.2.1=.none/\Ae (β z.1)=some b) w' (f z) sz e ys:=by
     intro z H;obtain⟨i,sz,e,ys,I,U,N,k4⟩:=hf z H;exact⟨i,sz,e,ys,I,U,N,k4,hr i _ _ k4 I⟩
    have x:=T7 (rb:=rb) hp.sim E F hp.hub
     (λy g=>by
      obtain⟨z,H,rfl⟩:=m y g;obtain⟨i,sz,e,ys,_,_,N,_⟩:=s z H;exact⟨by simp only[N];rfl,(W z H).2⟩) hp.hw (λb=>A b\/Eb v (.tup xs) b)
     (λb k hn=>.inl (hp.hA1 b k hn)) (λb y hy ho k=>.inl (hp.hA2 b y hy ho k))
     (λb y g hbb=>by
      obtain⟨z,H,rfl⟩:=m y g;obtain⟨i,sz,e,ys,I,_,_,k4,_⟩:=s z H;exact .inr ⟨vs,i,f z,sz,e,ys,hv,k4,I,hbb⟩)
     (λy g b hbb=>by
      obtain⟨z,H,rfl⟩:=m y g;obtain⟨i,sz,e,ys,I,_,_,k4,k5⟩:=s z H;exact k5.2.2.1 b hbb)
     (λy z g hzz b hb1 hb2=>by
      obtain⟨y',hy',rfl⟩:=m y g;obtain⟨z',hz',rfl⟩:=m z hzz;obtain⟨i,sz,e,ys,I,U,_,k4,_⟩:=s y' hy';obtain⟨j,sz2,e2,ys2,q1,q2,_,q4,_⟩:=s z' hz';have:=hri i j _ _ sz e ys sz2 e2 ys2 b k4 q4 I q1 hb1 hb2;subst this;rw[U]at q2;simp at q2;exact q2.1) hp.outs
     (λy g=>by
      obtain⟨z,H,rfl⟩:=m y g;obtain⟨i,sz,e,ys,I,_,N,k4,k5⟩:=s z H;simp only[N];obtain⟨j1,j2,j3,vals,j4,j5⟩:=k5;exact⟨j1,j2,vals,j4,j5.mono (BA.of_sub λ_ _=>trivial)⟩)
    have hee:Bh ((pre++ub)++k) S0=Bh (ub++Sj rb) S:=by rw[V];simp only[BO];rw[<-Q]
    refine⟨jg β rb,?_,⟨vs,hv,by rw[hl];exact hvl,λi u c hu hc=>?_⟩,rfl⟩
    ·simp only[hee];exact x.1
    ·simp only[hee];have hix:i<xs.length:=by rw[<-hl];exact A6 hc
     have hxi:xs[i]?=some xs[i]:=P3 hix;have Z:=hpt i xs[i] c hxi hc;have hr1:=hr i u xs[i] hu hxi;generalize xs[i]=q at Z hr1 hxi
     cases q with
     | d y=>subst Z;exact Ay.mono (BA.of_sub λb k=>x.2 b k) hr1
     | own sz e ys =>
       obtain⟨h,n,rfl,hmem⟩:=Z;have hy2:(h,BJ.row sz e ys,n,f (h,.row sz e ys,n))∈rb:=List.mem_map.2 ⟨_,hmem,rfl⟩;have hvs:=Y9 (β:=β) E F hy2;obtain⟨j,sz2,e2,ys2,q1,q2,_,q4,_⟩:=s _ hmem;refine⟨by simp only at hvs;rw[hvs.1];exact uh _,λ_=>?_⟩;simp only at hvs;rw[hvs.2];have hij:i=j:=hlinj i j h n n hc q2;subst hij;rw[hu]at q4;exact uc q4
     | sl _ _=>exact Z.elim
 | under t want y=>exact hy.elim
 | ptr id n off=>exact hy.elim
 | sl id n=>exact hy.elim
 | eptr id n sz i off=>exact hy.elim
 | any =>
   refine⟨_,hy,λA v w' hp _=>?_⟩;obtain⟨x,J⟩:=C A v w' hp (λb h=>h);refine⟨β,?_,trivial,rfl⟩;simp only[BO];rw[<-Q];exact x
 | bot =>
   refine⟨_,hy,λA v w' hp _=>?_⟩;exact hp.res.elim
 | d y =>
   refine⟨_,hy,λA v w' hp _=>?_⟩;obtain⟨x,J⟩:=C A v w' hp (λb h=>h);have hr:Ay A w' v y:=hp.res;refine⟨β,?_,?_,rfl⟩
   ·simp only[BO];rw[<-Q];exact x
   ·show Ay _ _ _ _;simp only[BO];rw[<-Q];exact hr.mono (BA.of_sub J)
 | lim sz xs =>
   refine⟨_,hy,λA v w' hp _=>?_⟩;obtain⟨x,J⟩:=C A v w' hp (λb h=>h);have hr:Ay A w' v (.list sz xs)/\Su v=xs.length:=hp.res;refine⟨β,?_,?_,rfl⟩
   ·simp only[BO];rw[<-Q];exact x
   ·show Ay _ _ _ _/\_;simp only[BO];rw[<-Q];exact⟨hr.1.mono (BA.of_sub J),hr.2⟩
end
section
variable {P:Program} {X:Cx} {G:Nat->Prop} {β:Nat->Value} {S:AS} {a:Act} {w:World} {o:Oper}
theorem qq{O O':Nat->Prop}{w w':World}{v:Value}{y:D}(h:Ay O w v y)(g:(AV.d y).bare=true):Ay O' w' v y:=by
 cases h with
 | agg vs xs m e h =>
   simp only[AV.bare,w3]at g;exact .agg vs xs m e λi v x t hx=>Sr (h i v x t hx) (g x (uy hx))
 | bool b=>exact .bool b
 | int k n=>exact .int k n
 | str s=>exact .str s
 | fn f vs xs m e h=>exact Sr (.fn f vs xs m e h) g
 | ptr b off cs c j r e d h=>simp[AV.bare,D.bare]at g
 | nil a sz=>exact .nil a sz
 | emp a cap sz=>exact .emp a cap sz
 | list b off cap sz xs c p j r l q e d h=>exact Sr (.list b off cap sz xs c p j r l q e d h) g
theorem Di.bare{b O:Nat->Prop}{v:Value}{r:AV}(h:Di b O w v r)(f:r.bare=true):Di b (λ_=>True) w v r:=by
 cases r<;>try (simp[AV.bare]at f;done)
 case d x =>
  have k:Ay O w v x:=h;clear h;show Ay _ _ _ _;exact qq k f
 case tup xs =>
  simp only[AV.bare,w3]at f;obtain⟨vs,l,m,n,p⟩:=h;refine⟨vs,l,m,λi u c q j=>?_,p⟩;have:=n i u c q j;have g:=f c (uy j)
  cases c with
  | d y=>exact qq this (by cases y<;>exact g)
  | own sz e ys=>grind
  | sl _ _=>grind
 case own sz e xs=>exact h
theorem Di.mono{j f O O':Nat->Prop}{v:Value}{r:AV}(q:∀b,j b->f b)(m:∀b,O' b->O b)(h:Di j O w v r):Di f O' w v r:=by
 cases r with
 | own sz e xs=>exact⟨h.1,h.2.1,λb g=>q b (h.2.2.1 b g),h.2.2.2⟩
 | optr cs =>
   refine⟨λb g=>q b (h.1 b g),?_⟩;obtain⟨b,vals,T,n,p,s⟩:=h.2;exact⟨b,vals,T,n,p,s.mono (BA.of_sub λb g=>g.imp (m b) (λh=>h))⟩
 | tup xs =>
   obtain⟨vs,n,p,s,t⟩:=h;refine⟨vs,n,p,λi u c z A=>?_,t⟩;have:=s i u c z A
   cases c with
   | d y=>exact Ay.mono (BA.of_sub λb g=>g.imp (m b) (λh=>h)) this
   | own sz e ys=>exact⟨this.1,this.2.1,λb g=>q b (this.2.2.1 b g),this.2.2.2⟩
   | sl _ _=>grind
 | cc B l =>
   have k:TP j O w v l:=h;show TP f O' w v l;unfold TP at k ⊢;split at k<;>try exact k.elim
   exact⟨k.1,k.2.1,λb g=>q b (k.2.2.1 b g),by obtain⟨vals,n,p⟩:=k.2.2.2;exact⟨vals,n,p.mono (BA.of_sub λb g=>g.imp (m b) (λh=>h))⟩⟩
 | any=>trivial
 | d x=>exact Ay.mono (BA.of_sub m) (show Ay O w v x from h)
 | lim sz xs =>
   have k:Ay O w v (.list sz xs)/\Su v=xs.length:=h;exact⟨k.1.mono (BA.of_sub m),k.2⟩
 | bot|ptr _ _ _|sl _ _|eptr _ _ _ _ _|under _ _ _=>exact h.elim
def Zb(y:Nat×BJ×Nat)(n:Nat):AV->Prop
 | .own sz e ys=>y.2.1=.row sz e ys/\y.2.2=n
 | .optr cs=>y.2.1=.var (cs.map .d)/\y.2.2=n
 | .any=>y.2.1=.none/\y.2.2=n+1
 | .cc _ l=>(∃(ds:List C)(sz:Nat)(e:TypeId)(ys:List D),l=ds++[.own sz e ys]/\y.2.1=.row sz e ys)/\y.2.2=n
 | _=>False
theorem O3:∀{l:List C}{K:Nat->TypeId->List D->Prop},Wo l K->∃(ds:List C)(sz:Nat)(e:TypeId)(ys:List D),l=ds++[.own sz e ys]/\K sz e ys
 | [],_,h=>h.elim
 | .own sz e xs :: r,K,h=>by
   simp only[Wo]at h
   cases r with
   | nil=>exact⟨[],sz,e,xs,rfl,h⟩
   | cons _ _=>exact h.elim
 | .d x :: r,K,h=>by
   obtain⟨ds,sz,e,ys,b,c⟩:=O3 (l:=r) h;grind
 | .sl i n :: r,K,h=>by
   obtain⟨ds,sz,e,ys,b,c⟩:=O3 (l:=r) h;grind
theorem Nc{e:TypeId}{sz n:Nat}{v:Value}{vals:List Value}(h:Bw w e sz v n vals):∃d m c,v=.slice d m c:=by
 rcases h with⟨_,⟨b,_⟩|⟨_,_,_,b,_⟩⟩|⟨_,_,_,b⟩ <;>  grind
theorem bP{vs:Array Value}{u:Value}(h:∃b m c,u=.slice b m c):Ae (.agg (vs.push u))=Ae u:=by
 obtain⟨b,m,c,rfl⟩:=h
 cases b<;>simp[Ae]
theorem Ra:∀{us:List (Option (Nat×Nat))}{f:List AV}{K:Bx->Prop},MG us f K ->
 ∃ub,K ub/\(ub.map (·.1)).Nodup/\(∀(i id n:Nat),us[i]?=some (some (id,n))->∃y∈ub,y.1=id/\∃q,f[i]?=some q/\Zb y n q)/\(∀y∈ub,∃(i n:Nat)(q:AV),us[i]?=some (some (y.1,n))/\f[i]?=some q/\Zb y n q) /\
  ∀(i j id n c:Nat),us[i]?=some (some (id,n))->us[j]?=some (some (id,c))->i=j
 | [],[],K,hy=>⟨[],hy,by simp,(λi id n h=>by simp at h),(λy hy=>by cases hy),λi j id n c h=>by simp at h⟩
 | [],_ :: _,K,hy=>hy.elim
 | none :: us,[],K,hy=>hy.elim
 | none :: us,q :: os,K,hy=>by
   have hy:MG us os K:=hy;obtain⟨ub,hK,g,D,s,F⟩:=Ra hy;refine⟨ub,hK,g,λi id n t=>?_,λy hy=>?_,λi j id n c t u=>?_⟩
   ·grind
   ·obtain⟨i,n,v,x,z,A⟩:=s y hy;exact⟨i+1,n,v,by simpa using x,by simpa using z,A⟩
   ·grind
 | some (id,n) :: us,[],K,hy=>hy.elim
 | some (id,n) :: us,q :: os,K,hy=>by
   have step:∀(B:BJ)(m:Nat),Zb (id,B,m) n q->(MG us os λb=>if FH id b=true then K ((id,B,m) :: b)else False)->∃ub,K ub/\(ub.map (·.1)).Nodup/\(∀(i d c:Nat),(some (id,n) :: us)[i]?=some (some (d,c))->∃y∈ub,y.1=d/\∃p,(q :: os)[i]?=some p/\Zb y c p)/\(∀y∈ub,∃(i c:Nat)(p:AV),(some (id,n) :: us)[i]?=some (some (y.1,c))/\(q :: os)[i]?=some p/\Zb y c p) /\
    ∀(i j d E c:Nat),(some (id,n) :: us)[i]?=some (some (d,E))->(some (id,n) :: us)[j]?=some (some (d,c))->i=j:=by
    intro B m ho hy;obtain⟨ub,hK,g,D,s,F⟩:=Ra hy;obtain⟨C,hK⟩:=Al hK
    have r:∀(j c:Nat),us[j]?≠some (some (id,c)):=by
     intro j c u;obtain⟨y,hy,e,_⟩:=D j id c u;exact Gx C y hy e
    refine⟨_,hK,?_,λi d c t=>?_,λy hy=>?_,λi j d E c t u=>?_⟩
    ·grind
    ·grind
    ·rcases List.mem_cons.1 hy with rfl|hy
     ·exact⟨0,n,q,rfl,rfl,ho⟩
     ·obtain⟨i,c,v,x,z,A⟩:=s y hy;exact⟨i+1,c,v,by simpa using x,by simpa using z,A⟩
    ·grind
   cases q<;>try exact hy.elim
   case any=>exact step .none (n+1) ⟨rfl,rfl⟩ hy
   case own sz e ys=>exact step (.row sz e ys) n ⟨rfl,rfl⟩ hy
   case optr cs =>
    have hy:bC cs λl=>MG us os λb=>if FH id b=true then K ((id,.var l,n) :: b)else False:=hy
    rw[Qd]at hy;exact step (.var (cs.map .d)) n ⟨rfl,rfl⟩ hy
   case cc k l =>
    obtain⟨ds,sz,e,ys,g,hy⟩:=O3 (show Wo l _ from hy);exact step (.row sz e ys) n ⟨⟨ds,sz,e,ys,g,rfl⟩,rfl⟩ hy
theorem iU{O:Nat->Prop}{v:Value}{f:FuncId}{cs:List D}(h:Ay O w v (.fn f cs)):∃vs:Array Value,v=.func (.func f) #[] vs/\vs.size=cs.length/\∀(i:Nat) u y,vs[i]?=some u->cs[i]?=some y->Ay O w u y:=by
 cases h with
 | fn _ vs _ b c h=>grind
theorem Yd:∀{l:List Operand}{n i:Nat},i∈QY l n->∃p,l[i-n]?=some p/\NE p=true/\n<=i
 | [],_,_,h=>by simp[QY]at h
 | x :: r,n,i,h=>by
   simp only[QY]at h
   have next:i∈QY r (n+1)->∃p,(x :: r)[i-n]?=some p/\NE p=true/\n<=i:=by
    intro h;obtain⟨p,b,c,d⟩:=Yd h;grind
   grind
theorem Zo(h:SimB X G β S a w){g:Option (Nat×Bool)}(hg:Ce g a){d:Nat}(hd:d<S.length){c:Call}(ho:o.op=.call c){fo:Operand}(hc:c.callee=.value fo){f:FuncId}{B:List D}(hf:ρOf S g fo=.d (.fn f B))
 {K:Hn->Prop} (hy:X0 B λcv=>Ij P (σOf S) (ρOf S g) c.args.toList c.argTypes.toList λvs bs=>Hh P (σOf S) (ρOf S g) c.args.toList c.argTypes.toList λms mb us =>
  Ii P f (QY c.args.toList 0) (vs++cv) (λr=>dw r bs λb=>jO d (Ag S d).ver r b K)
   (ms++cv) (λW r=>MG (us++cv.map λ_=>none) W λub=>if ub.all (λx=>FH x.1 mb)=true then jO d (Ag S d).ver r (mb++ub) K else False)) :
 ∃e,K e/\(Hg S e.homes=true->Dp P X G S a w o e):=by
 rw[Ub]at hy;obtain⟨vs,bs,hy,hF,hlen,hrep⟩:=MM h hg hy;obtain⟨ms,mb,us,hK,hMF,C,J,hmut,hnm,hmrep⟩:=OL h hg hy;have hfv:=ρ_sound h hg fo;rw[hf]at hfv;obtain⟨t,hfe,hcl,hcr⟩:=iU hfv
 have hrun:F0 P f=true->(execOp a.eval o).run P w=.ok (.enter f (c.args.map a.eval++t)) w:=by
  intro hcal;simp only[execOp,ho,resolve,hc,hfe,Deferred.ofValue,Sem.run_bind,Sem.run_pure,Result.andThen_ok,invoke];simp only[xm];rw[IL hcal]
 have hval:∀(i:Nat) v,(c.args.map a.eval++t)[i]?=some v->(∃p,c.args.toList[i]?=some p/\v=a.eval p)\/(c.args.size<=i/\t[i-c.args.size]?=some v):=by
  intro i v O;rcases uZ i c.args.size with I|I
  ·rw[vf (by simpa using I)]at O;simp[I]at O;exact .inl ⟨c.args[i],by simp[I],O.symm⟩
  ·rw[wo (by simpa using I)]at O;exact .inr ⟨I,by simpa using O⟩
 rcases hK.go with⟨r,s,hK⟩|⟨W,r,s,hK⟩
 ·
   obtain⟨h1,h2,h3⟩:=hF.run h;have hargs:=hrep.now h hF;have hsize:(c.args.map a.eval++t).size=(vs++B.map AV.d).length:=by simp[hlen,hcl]
   have hreps:∀(i:Nat) v y,(c.args.map a.eval++t)[i]?=some v->(vs++B.map AV.d)[i]?=some y->OZ (OS β X (Bh bs S)) w v y:=(λi v y O hy=>by
    rcases hval i v O with⟨p,hp,rfl⟩|⟨I,O⟩
    ·rw[ut (by rw[hlen];exact A6 hp)]at hy;exact hargs i p y hp hy
    ·rw[uq (by rw[hlen];simpa using I),hlen]at hy;simp only[uu,ve]at hy
     cases hz:B[i-c.args.size]? with
     | none=>simp[hz]at hy
     | some z=>simp[hz]at hy;subst hy;exact(hcr _ v z O hz).mono (BA.of_sub h2))
   have hrunX:∀v,(callFunc f (c.args.map a.eval++t)).run P w=.ok (.value v) w->(execOp a.eval o).run P w=.ok (.value v) w:=by
    intro v O;simp only[execOp,ho,resolve,hc,hfe,Deferred.ofValue,Sem.run_bind,Sem.run_pure,Result.andThen_ok,invoke];simp only[xm];rw[O]
   have fin:∀{e:Hn},(∀v w',Below w.heap.size w w'->Di (λb=>w.heap.size<=b) (OS β X (Bh bs S)) w' v r->Sm X G S a e v w')->Dp P X G S a w o e:=by
    intro e E;rcases s with s|s|s
    rotate_left
    rotate_left
    ·refine .inr (.inr ⟨f,_,hrun s.1,(s.2 (OS β X (Bh bs S)) w _ (λb l=>h1.os_lt l) h1.glob hsize (λi I=>?_) hreps).mono λe' w' ⟨v,h4,h5,h6⟩=>⟨v,h4,E v w' h5 h6⟩⟩);obtain⟨p,hp,hnil,_⟩:=Yd I;rw[Nat.sub_zero]at hp;have hlt:i<c.args.size:=by have:=A6 hp;simpa using this
     rw[vf (by simpa using hlt)];have:c.args[i]?=some p:=by simpa using hp
     rw[Array.getElem?_map,this,Po hnil];rfl
    ·exact .inr (.inr ⟨f,_,hrun s.1,(s.2 (OS β X (Bh bs S)) w _ (λb l=>h1.os_lt l) h1.glob hsize hreps).mono λe' w' ⟨v,h4,h5,h6⟩=>⟨v,h4,E v w' h5 h6⟩⟩)
    ·obtain⟨v,h4,h6⟩:=s (OS β X (Bh bs S)) w _ hsize hreps;exact .inl ⟨v,w,hrunX v h4,E v w ⟨rfl,rfl,rfl,uh _,λ_ _=>rfl⟩ h6⟩
   have hK':(∃A:Nat->Prop,(∀b,OS β X S b->A b)/\(∀v w',Di (λb=>w.heap.size<=b) (OS β X (Bh bs S)) w' v r->Di (λb=>w.heap.size<=b) A w' v r)/\jO d (Ag S d).ver r [] K)\/jO d (Ag S d).ver r bs K:=by
    unfold dw at hK;split at hK
    ·exact .inl ⟨OS β X S,λ_ h=>h,λ_ _ h=>h,hK⟩
    ·split at hK
     ·rename_i hbr;exact .inl ⟨λ_=>True,λ_ _=>trivial,λv w' h=>h.bare hbr,hK⟩
     ·exact .inr hK
   rcases hK' with⟨A,hA,hres,hK⟩|hK
   ·obtain⟨e,hKe,E⟩:=Vo (X:=X) (G:=G) (β:=β) (a:=a) (w:=w) (S:=S) (S0:=S) (pre:=[]) (ub:=[]) rfl hd (uh _) (by simp) (λ_ h=>by cases h) (by simpa using hK) (λ_=>rfl);refine⟨e,hKe,λhok=>fin λv w' h5 h6=>E A v w' ⟨h,(λ_ h=>by cases h),.of h5,λb l _=>hA b l,(λb y hy=>by cases hy),?_,λy hy=>by cases hy⟩ hok⟩;exact(hres v w' h6).mono (λb l=>.inl l) (λ_ h=>h)
   ·obtain⟨e,hKe,E⟩:=Vo (X:=X) (G:=G) (β:=β) (a:=a) (w:=w) (S:=Bh bs S) (S0:=S) (pre:=bs) (ub:=[]) rfl (by rw[Cr];exact hd) (dv:=(Ag S d).ver) (by rw[h3.ver];exact uh _) (by simp) (λ_ h=>by cases h) (by simpa using hK) h3.ver;refine⟨e,hKe,λhok=>fin λv w' h5 h6=>E _ v w' ⟨h1,(λ_ h=>by cases h),.of h5,λb l _=>l,(λb y hy=>by cases hy),?_,λy hy=>by cases hy⟩ hok⟩;exact h6.mono (λb l=>.inl l) (λ_ h=>h)
 ·
   obtain⟨ub,hK,hund,hu1,hu2,hu3⟩:=Ra hK;obtain⟨hnot,hK⟩:=Al hK;obtain⟨h1,h2,h3⟩:=hMF.run h;have hargs:=hmrep.now h hMF
   have hpos:∀(i id n:Nat),(us++(B.map AV.d).map λ_=>(none:Option (Nat×Nat)))[i]?=some (some (id,n))->us[i]?=some (some (id,n))/\i<c.args.size:=by
    intro i id n I;rcases uZ i us.length with hl|hl
    ·rw[ut hl]at I;exact⟨I,by rw[J]at hl;simpa using hl⟩
    ·rw[uq hl]at I;simp only[uu]at I
     cases B[i-us.length]?<;>simp at I
   have L:∀(i id n:Nat),us[i]?=some (some (id,n))->(us++(B.map AV.d).map λ_=>(none:Option (Nat×Nat)))[i]?=some (some (id,n)):=by
    intro i id n I;rw[ut (A6 I)];exact I
   have Y:∀y∈ub,∃(i n:Nat)(q:AV)(p:Operand)(m:AV),us[i]?=some (some (y.1,n))/\W[i]?=some q/\Zb y n q/\c.args.toList[i]?=some p/\ms[i]?=some m/\Xk β (OS β X S) w S mb (a.eval p) y.1 n m:=by
    intro y hy;obtain⟨i,n,q,Q,U,F⟩:=hu2 y hy;obtain⟨Q,I⟩:=hpos i y.1 n Q;have hp:c.args.toList[i]?=some c.args.toList[i]:=P3 (by simpa using I);have hm:ms[i]?=some (ms[i]'(by rw[C];simpa using I)):=P3 _;exact⟨i,n,q,_,_,Q,U,F,hp,hm,hmut i _ _ y.1 n hp hm Q⟩
   have hsame:∀y∈ub,(Ag (Bh mb S) y.1).box=(Ag S y.1).box:=λy hy=>h3.other y.1 (Gx (List.all_eq_true.1 hnot y hy))
   have hsl:∀{id sz:Nat}{e:TypeId}{xs:List D},(Ag S id).box=.row sz e xs->∃ad m c,β id=.slice ad m c:=by
    intro id sz e xs l;have M:=h.boxes id;rw[l]at M;obtain⟨_,_,vals,hr,_⟩:=M;exact Nc hr
   have V:∀{v:Value}{id n:Nat}{m:AV},Xk β (OS β X S) w S mb v id n m->Ae v=Ae (β id)/\(Ag S id).ver=n/\(Ag S id).box.owned=true/\m.mut=true:=by
    intro v id n m R
    cases m<;>try exact R.elim
    ·obtain⟨Q,U,F⟩:=R;exact⟨by rw[F],U,by rw[Q];rfl,rfl⟩
    ·obtain⟨cs,Q,U,F,_⟩:=R;exact⟨by rw[F],U,by rw[Q];rfl,rfl⟩
    ·obtain⟨_,vs,ds,sz,e,xs,_,F,_,Q,U⟩:=R;exact⟨by rw[F,bP (hsl Q)],U,by rw[Q];rfl,rfl⟩
   have N:∀y∈ub,(Ag (Bh mb S) y.1).box.owned=true:=by
    intro y hy;obtain⟨i,n,q,p,m,_,_,_,_,_,R⟩:=Y y hy;rw[hsame y hy];exact(V R).2.2.1
   have hMut:∀b,HQ (c.args.map a.eval++t) (ms++B.map .d) b↔∃y∈ub,Ae (β y.1)=some b:=by
    intro b;constructor
    ·rintro⟨i,v,x,O,hx,hm,l⟩;rcases hval i v O with⟨p,hp,rfl⟩|⟨I,O⟩
     ·rw[ut (by rw[C];exact A6 hp)]at hx;have H:us[i]?=some (us[i]'(by rw[J];exact A6 hp)):=P3 _
      cases hq:us[i]'(by rw[J];exact A6 hp)with
      | none=>rw[hq]at H;rw[hnm i x hx H]at hm;cases hm
      | some q =>
        obtain⟨id,n⟩:=q;rw[hq]at H;obtain⟨y,hy,e,_⟩:=hu1 i id n (L i id n H);refine⟨y,hy,?_⟩;rw[e,<-(V (hmut i p x id n hp hx H)).1];exact l
     ·rw[uq (by rw[C];simpa using I)]at hx;simp only[uu]at hx
      cases hz:B[i-ms.length]? with
      | none=>simp[hz]at hx
      | some z=>simp[hz]at hx;subst hx;cases hm
    ·rintro⟨y,hy,l⟩;obtain⟨i,n,q,p,m,Q,U,F,Z,k5,k6⟩:=Y y hy;have I:i<c.args.size:=by have:=A6 Z;simpa using this
     refine⟨i,a.eval p,m,?_,by rw[ut (A6 k5)];exact k5,(V k6).2.2.2,by rw[(V k6).1];exact l⟩;rw[vf (by simpa using I)];have:c.args[i]?=some p:=by simpa using Z
     simp[this]
   have hMb:∀b,(∃y∈ub,Ae (β y.1)=some b)->OS β X (Bh mb S) b:=λb ⟨y,hy,l⟩=>.inr (.inr ⟨y.1,N y hy,l⟩)
   have hcl':=s.2.2 (λb=>OS β X (Bh mb S) b/\¬∃y∈ub,Ae (β y.1)=some b) w (c.args.map a.eval++t) (λb l=>h1.os_lt l.1) (λg cs hg=>(h1.glob g cs hg).mono (BA.of_sub λb l=>by
    rcases l with l|l
    ·exact l.1
    ·obtain⟨y,hy,l⟩:=(hMut b).1 l;exact .inr (.inr ⟨y.1,N y hy,l⟩))) (by simp[C,hcl]) (λb l hO=>hO.2 ((hMut b).1 l))
    (λi j v v' x y b O hv' hx hy hmx hmy l hb'=>by
     have one:∀(i:Nat) v x,(c.args.map a.eval++t)[i]?=some v->(ms++B.map .d)[i]?=some x->x.mut=true->∃id n,us[i]?=some (some (id,n))/\Ae v=Ae (β id):=by
      intro i v x O hx hm;rcases hval i v O with⟨p,hp,rfl⟩|⟨I,O⟩
      ·rw[ut (by rw[C];exact A6 hp)]at hx;have H:us[i]?=some (us[i]'(by rw[J];exact A6 hp)):=P3 _
       cases hq:us[i]'(by rw[J];exact A6 hp)with
       | none=>rw[hq]at H;rw[hnm i x hx H]at hm;cases hm
       | some q =>
         obtain⟨id,n⟩:=q;rw[hq]at H;exact⟨id,n,H,(V (hmut i p x id n hp hx H)).1⟩
      ·rw[uq (by rw[C];simpa using I)]at hx;simp only[uu]at hx
       cases hz:B[i-ms.length]? with
       | none=>simp[hz]at hx
       | some z=>simp[hz]at hx;subst hx;cases hm
     obtain⟨id,n,Q,ev1⟩:=one i v x O hx hmx;obtain⟨id',n',k1',ev2⟩:=one j v' y hv' hy hmy;rw[ev1]at l;rw[ev2]at hb';obtain⟨z,hz,e,_⟩:=hu1 i id n (L i id n Q);obtain⟨z',hz',e',_⟩:=hu1 j id' n' (L j id' n' k1');have:=h1.inj id id' b (by rw[<-e];exact N z hz) (by rw[<-e'];exact N z' hz') l hb';subst this;exact hu3 i j id n n' (L i id n Q) (L j id n' k1'))
    (λi v x O hx=>by
     have sub:∀b,((OS β X (Bh mb S) b/\¬∃y∈ub,Ae (β y.1)=some b)\/HQ (c.args.map a.eval++t) (ms++B.map .d) b)->OS β X (Bh mb S) b:=by
      intro b l;rcases l with l|l
      ·exact l.1
      ·exact hMb b ((hMut b).1 l)
     rcases hval i v O with⟨p,hp,rfl⟩|⟨I,O⟩
     ·rw[ut (by rw[C];exact A6 hp)]at hx;have H:us[i]?=some (us[i]'(by rw[J];exact A6 hp)):=P3 _
      cases hq:us[i]'(by rw[J];exact A6 hp)with
      | none =>
        rw[hq]at H;have hC:=(hargs i p x hp hx H).mono (BA.of_sub sub);have hnm':=hnm i x hx H
        cases x<;>first|exact hC|cases hnm'
      | some q =>
        obtain⟨id,n⟩:=q;rw[hq]at H;have R:=hmut i p x id n hp hx H;obtain⟨z,hz,e,_⟩:=hu1 i id n (L i id n H);have hsm:=hsame z hz;rw[e]at hsm;have M:=h1.boxes id;rw[hsm]at M
        cases x<;>try exact R.elim
        ·obtain⟨Q,U,F⟩:=R;rw[Q]at M;obtain⟨j1,j2,vals,j3,j4⟩:=M;exact⟨j1,j2,vals,by rw[F];exact j3,j4.mono (BA.of_sub sub)⟩
        ·obtain⟨cs,Q,U,F,Z⟩:=R;rw[Q]at M;obtain⟨b',vals,T,j1,j2,j3,j4⟩:=M;exact⟨b',vals,T,by rw[F];exact j1,j2,(R7 h3 h1 Z (by simpa using j3) (λj v c O hc=>j4 j v c (by simpa using O) hc)).mono (BA.of_sub sub)⟩
        ·obtain⟨k0,vs',ds,sz,e,xs,Q,U,F,Z,k5⟩:=R;rw[Z]at M;obtain⟨j1,j2,vals,j3,j4⟩:=M;exact⟨k0,vs',β id,ds,sz,e,xs,⟨Q,U,by simpa using F.1,j1,j2,vals,j3,j4.mono (BA.of_sub sub)⟩,F.mono (BA.of_sub λb l=>h2 b (sub b l))⟩
     ·rw[uq (by rw[C];simpa using I),C]at hx;simp only[uu,ve]at hx
      cases hz:B[i-c.args.size]? with
      | none=>simp[hz]at hx
      | some z =>
        simp[hz]at hx;subst hx;exact(hcr _ v z O hz).mono ((BA.of_sub λb l=>h2 b (sub b l))))
   obtain⟨e,hKe,E⟩:=Vo (X:=X) (G:=G) (β:=β) (a:=a) (w:=w) (S:=Bh mb S) (S0:=S) (pre:=mb) (ub:=ub) rfl (by rw[Cr];exact hd) (dv:=(Ag S d).ver) (by rw[h3.ver];exact uh _) hund
    (λy hy=>by
     have:(Ag (Bh mb S) y.1).box≠.none:=by intro hh;have:=N y hy;rw[hh]at this;cases this
     exact ND rfl this) hK h3.ver
   refine⟨e,hKe,λhok=>.inr (.inr ⟨f,_,hrun s.1,hcl'.mono λe' w' ⟨v,h4,h5,h6,h7⟩=>⟨v,h4,E (λb=>(OS β X (Bh mb S) b/\¬∃y∈ub,Ae (β y.1)=some b)\/HQ (c.args.map a.eval++t) W b) v w' ⟨h1,λy hy=>?_,?_,λb l hn=>.inl ⟨l,λ⟨y,hy,hyb⟩=>hn y hy hyb⟩,λb y hy ho l=>?_,?_,λy hy ho=>?_⟩ hok⟩⟩)⟩
   ·
     obtain⟨i,n,q,p,m,Q,U,F,Z,k5,k6⟩:=Y y hy;refine⟨N y hy,?_⟩;rw[h3.ver,(V k6).2.1]
     cases q<;>try exact F.elim
     ·exact .inr ⟨F.1,by rw[F.2];omega⟩
     ·exact .inl ⟨by rw[F.1];rfl,F.2⟩
     ·exact .inl ⟨by rw[F.1];rfl,F.2⟩
     ·obtain⟨⟨_,_,_,_,_,F⟩,Z⟩:=F;exact .inl ⟨by rw[F];rfl,Z⟩
   ·exact h5.weaken (uh _) λk _ hno hm=>hno ((hMut k).1 hm)
   ·
     obtain⟨i,n,q,p,m,Q,U,F,Z,k5,k6⟩:=Y y hy;have I:i<c.args.size:=by have:=A6 Z;simpa using this
     refine .inr ⟨i,a.eval p,q,?_,U,?_,by rw[(V k6).1];exact l⟩
     ·rw[vf (by simpa using I)];have:c.args[i]?=some p:=by simpa using Z
      simp[this]
     ·cases q<;>try exact F.elim
      ·rw[F.1]at ho;cases ho
      ·rfl
      ·rfl
      ·rfl
   ·refine h6.mono (λb l=>?_) (λb l=>l);rcases l with l|⟨l,hno⟩
    ·exact .inl l
    ·obtain⟨y,hy,hyb⟩:=(hMut b).1 l;refine .inr ⟨y,hy,?_,hyb⟩;obtain⟨i,n,q,p,m,Q,U,F,Z,k5,k6⟩:=Y y hy;have I:i<c.args.size:=by have:=A6 Z;simpa using this
     have hvi:(c.args.map a.eval++t)[i]?=some (a.eval p):=by
      rw[vf (by simpa using I)];have:c.args[i]?=some p:=by simpa using Z
      simp[this]
     cases q<;>try exact F.elim
     ·exact F.1
     ·exact absurd ⟨i,a.eval p,_,hvi,U,rfl,by rw[(V k6).1];exact hyb⟩ hno
     ·exact absurd ⟨i,a.eval p,_,hvi,U,rfl,by rw[(V k6).1];exact hyb⟩ hno
     ·exact absurd ⟨i,a.eval p,_,hvi,U,rfl,by rw[(V k6).1];exact hyb⟩ hno
   ·obtain⟨i,n,q,p,m,Q,U,F,Z,k5,k6⟩:=Y y hy;have I:i<c.args.size:=by have:=A6 Z;simpa using this
    have hvi:(c.args.map a.eval++t)[i]?=some (a.eval p):=by
     rw[vf (by simpa using I)];have:c.args[i]?=some p:=by simpa using Z
     simp[this]
    have hro:=h7 i (a.eval p) m q hvi (by rw[ut (A6 k5)];exact k5) U
    have esub:∀b,((((OS β X (Bh mb S) b/\¬∃y∈ub,Ae (β y.1)=some b)\/HQ (c.args.map a.eval++t) W b)\/Eb v r b)->((OS β X (Bh mb S) b/\¬∃y∈ub,Ae (β y.1)=some b)\/HQ (c.args.map a.eval++t) W b\/Eb v r b)):=by
     intro b l;rcases l with(l|l)|l
     ·exact .inl l
     ·exact .inr (.inl l)
     ·exact .inr (.inr l)
    cases q<;>try exact F.elim
    ·rw[F.1]at ho;cases ho
    ·rw[F.1];obtain⟨⟨j1,j2,vals,j3,j4⟩,_,rfl⟩:=hro;rw[k6.2.2]at j3;exact⟨j1,j2,vals,j3,j4.mono (BA.of_sub esub)⟩
    ·rw[F.1];obtain⟨⟨b',vals,T,j1,j2,j3⟩,_,rfl,_⟩:=hro;obtain⟨_,_,_,k7,_⟩:=k6;rw[k7]at j1;exact⟨_,rfl,b',vals,T,j1,j2,j3.mono (BA.of_sub esub)⟩
    ·obtain⟨⟨ds',sz',e',ys',q1,q2⟩,_⟩:=F;obtain⟨vs,u,ds,sz,e,ys,q3,q4,q5,j1,j2,vals,j3,j4⟩:=hro;rw[q3]at q1;obtain⟨_,q1⟩:=List.append_inj' q1 rfl;simp at q1;obtain⟨rfl,rfl,rfl⟩:=q1;rw[q2]
     have hu:u=β y.1:=by
      cases m<;>try exact k6.elim
      ·obtain⟨z1,_,z3⟩:=k6;obtain⟨ad,m',c',z4⟩:=hsl z1;rw[z3,z4]at q4;cases q4
      ·obtain⟨cs,z1,_,z3,_⟩:=k6;have M:=h.boxes y.1;rw[z1]at M;obtain⟨_,_,_,z4,_⟩:=M;rw[z3,z4]at q4;cases q4
      ·obtain⟨_,vs',_,_,_,_,_,z2,_⟩:=k6;rw[z2]at q4;simp at q4;exact(Array.push_eq_push.1 q4).1.symm
     rw[hu]at j3;exact⟨j1,j2,vals,j3,j4.mono (BA.of_sub esub)⟩
end
section
variable {P:Program} {X:Cx} {G:Nat->Prop} {β:Nat->Value} {S:AS} {a:Act} {w:World} {o:Oper}
def G9(R:Value->C->Prop)(vs:List Value)(cs:List C):Prop:=vs.length=cs.length/\∀(j:Nat) v c,vs[j]?=some v->cs[j]?=some c->R v c
theorem G9.append{R:Value->C->Prop}{vs us:List Value}{xs ys:List C}(h:G9 R vs xs)(k:G9 R us ys):G9 R (vs++us) (xs++ys):=by
 refine⟨by simp[h.1,k.1],λj v y b hy=>?_⟩;by_cases c:j<vs.length
 ·rw[ut c]at b;rw[ut (by rw[<-h.1];exact c)]at hy;exact h.2 j v y b hy
 ·rw[uq (by omega)]at b;rw[uq (by rw[<-h.1];omega)]at hy;rw[<-h.1]at hy;exact k.2 _ v y b hy
theorem G9.take{R:Value->C->Prop}{vs:List Value}{xs:List C}(h:G9 R vs xs)(n:Nat):G9 R (vs.take n) (xs.take n):=by
 refine⟨by simp[h.1],λj v y b hy=>?_⟩;rw[vg]at b hy;split at b
 ·rw[uk ‹_›]at hy;exact h.2 j v y b hy
 ·cases b
theorem G9.drop{R:Value->C->Prop}{vs:List Value}{xs:List C}(h:G9 R vs xs)(n:Nat):G9 R (vs.drop n) (xs.drop n):=by
 refine⟨by simp[h.1],λj v y b hy=>?_⟩;rw[vh]at b hy;exact h.2 _ v y b hy
theorem G9.splice{R:Value->C->Prop}{vs us:List Value}{xs ys:List C}(h:G9 R vs xs)(k:G9 R us ys){o:Nat}(ho:o<=xs.length) :
 G9 R (vs.take o++us++vs.drop (o+us.length)) (splice xs o ys):=by
 rw[FO xs o ys ho,k.1];exact((h.take o).append k).append (h.drop _)
def eN(R:Value->C->Prop):List (Nat×Value)->List (Nat×List C)->Prop
 | [],[]=>True
 | (i,v) :: r,(j,c) :: s=>i=j/\G9 R v.cells.toList c/\eN R r s
 | _,_=>False
theorem We{R:Value->C->Prop}{b:Nat->Option (Nat×Nat)}:∀{h:List (Nat×Value)}{k:List (Nat×List C)}{cells:Array Value}{cs l:List C},eN R h k->G9 R cells.toList cs->Zu b cs k=some l ->
 ∃d,Instr.fill b cells h=some d/\G9 R d.toList l
 | [],[],cells,cs,l,_,hc,hf=>by simp[Zu]at hf;subst hf;exact⟨cells,rfl,hc⟩
 | (i,v) :: r,(j,x) :: s,cells,cs,l,hp,hc,hf=>by
   obtain⟨rfl,m,hp⟩:=hp;simp only[Zu]at hf;split at hf
   ·cases hf
   ·rename_i off n f
    split at hf
    ·rename_i g
     have p:v.cells.size=x.length:=by simpa using m.1
     have q:cells.size=cs.length:=by simpa using hc.1
     have c:=Uu off v.cells.toList 0 cells (by grind);simp only[vF]at c
     have e:G9 R (v.cells.zipIdx.foldl (λcs (x:Value×Nat)=>cs.setIfInBounds (off+x.2) x.1) cells).toList (splice cs off x):=by
      rw[<-Array.foldl_toList,Array.toList_zipIdx,c];exact hc.splice m (by omega)
     obtain⟨d,u,t⟩:=We hp e hf;refine⟨d,?_,t⟩;simp only[Instr.fill,f];grind
    ·cases hf
 | [],_ :: _,_,_,_,hp,_,_=>hp.elim
 | (_,_) :: _,[],_,_,_,hp,_,_=>hp.elim
def gR(β:Nat->Value)(n:Nat->Nat)(O:Nat->Prop)(w:World)(v:Value)(c:C):Prop:=Cj β n O w v c/\v.oneCell'=true
theorem By.cellsC{O:Nat->Prop}{n:Nat->Nat}{vs:List Value}{ys:List D}(h:By O w vs ys):G9 (gR β n O w) vs (ys.map C.d):=⟨by simpa using h.1,λj v c b d=>⟨h.cells j v c b d,h.oneCell v (uy b)⟩⟩
theorem kz(h:SimB X G β S a w){v:Value}{id n sz:Nat}{e:TypeId}{xs:List D}(hr:Pa β (OS β X S) S w v (.row id n sz e xs)):v.cells=#[v]/\gR β (AH S) (OS β X S) w v (.sl id n):=by
 obtain⟨f,g,c⟩:=hr;have d:=h.boxes id;rw[f]at d;obtain⟨_,_,vals,hr,_⟩:=d
 have key:v.cells=#[v]/\v.oneCell'=true:=by
  rw[c];rcases hr with⟨_,⟨b,_⟩|⟨i,cap,cur,b,_⟩⟩|⟨_,_,j,b⟩<;>(rw[b];exact⟨rfl,rfl⟩)
 exact⟨key.1,⟨vU g.symm,λ_=>c⟩,key.2⟩
theorem YH(h:SimB X G β S a w){r:RV}{v:Value}(hr:Pa β (OS β X S) S w v r){K:List C->Prop}(hy:cellsOf r K):∃c,K c/\G9 (gR β (AH S) (OS β X S) w) v.cells.toList c:=by
 cases r<;>simp only[cellsOf]at hy
 case d x =>
  rw[Qd]at hy;exact⟨_,hy,(Hk (show Ay _ w v x from hr)).cellsC⟩
 case lim sz xs=>exact⟨_,hy,(Hk (x:=.list sz xs) hr.1).cellsC⟩
 case row id n sz e xs =>
  obtain⟨b,f⟩:=kz h hr;refine⟨_,hy,by rw[b];rfl,λj g c i k=>?_⟩;grind
theorem UI(h:SimB X G β S a w){g:Option (Nat×Bool)}(e:Ce g a):∀{parts:List (Nat×Operand)}{K:List (Nat×List C)->Prop},NI (ρOf S g) parts K ->
 ∃b,K b/\eN (gR β (AH S) (OS β X S) w) (parts.map λx=>(x.1,a.eval x.2)) b
 | [],K,hy=>⟨[],hy,trivial⟩
 | (i,x) :: r,K,hy=>by
   obtain⟨c,hK,f⟩:=YH h (ρ_sound h e x) hy;obtain⟨b,hK,d⟩:=UI h e hK;exact⟨_,hK,rfl,f,d⟩
theorem cA(h:SimB X G β S a w){g:Option (Nat×Bool)}(B:Ce g a){t:TypeId}{parts:Array (Nat×Operand)}(ho:o.op=.build t parts){b:Array Field}(s:P.underlying t=some (.struct b))
 {v:List D} (p:zeroCells P t=some v) (k:b.toList.all (λf=>(P.info? f.type).isSome)=true) {K:Hn->Prop}
 (hy:bC v λC=>NI (ρOf S g) parts.toList λx=>match Zu (λi=>match b[i]? with|some f=>some (f.offset,AD P f.type)|none=>none) C x with
  | some l=>CN l λl=>K ⟨.cc none l,[],[]⟩
  | none=>False):∃e,K e/\Dp P X G S a w o e:=by
 rw[Qd]at hy;obtain⟨x,hK,hp⟩:=UI h B hy;split at hK
 ·rename_i l E
  rw[BW]at hK;obtain⟨i,z,F,H,q⟩:=H5 (O:=OS β X S) (w:=w) p;obtain⟨m,y,A⟩:=We hp (q.cellsC (β:=β) (n:=AH S)) E;have d:(λ(i:Nat)=>match (b[i]?:Option Field)with|some f=>some (f.offset,AD P f.type)|none=>none)=λi=>(b.map λ(f:Field)=>(f.offset,AD P f.type))[i]?:=by grind
  rw[d]at y
  have r:(b.mapM λ(f:Field)=>(do pure (f.offset,<-sizeOf f.type):Sem (Nat×Nat))).run P w=.ok (b.map λ(f:Field)=>(f.offset,AD P f.type)) w:=by
   rw[xf,Sem.run_map,Yu k];simp only[Result.andThen_ok];congr 1;grind
  refine⟨_,hK,.inl ⟨.agg m,w,?_,β,h,⟨m,rfl,by simpa using A.1,λj u c s I=>A.2 j u c (by grind) I⟩,rfl⟩⟩;simp only[execOp,ho,Instr.build,Sem.run_bind,zeroValue,typeInfo,run_program,F,H,Result.andThen_ok,Sem.run_pure,run_underlying s,r,xb];rw[y];simp
 ·grind
theorem PE(h:SimB X G β S a w){g:Option (Nat×Bool)}(t:Ce g a):∀{args:List Operand}{K:List C->Bx->Prop},J1 (σOf S) (ρOf S g) args K ->
 ∃l b,K l b/\FZ S [] b/\l.length=args.length/\(∀(i:Nat) p id n,args[i]?=some p->l[i]?=some (.sl id n)->(Ag S id).ver=n/\a.eval p=β id/\(a.eval p).oneCell'=true)/\(∀c∈l,∀sz e xs,c≠.own sz e xs) /\
  (∀(i:Nat) y,l[i]?=some (.d y)->y.one=true)/\Lk X G β S a w b λO=>∀(i:Nat) p y,args[i]?=some p->l[i]?=some (.d y)->Ay O w (a.eval p) y
 | [],K,hy=>⟨[],[],hy,trivial,rfl,(λi p id n hp=>by simp at hp),(λ_ h=>by cases h),(λi y hy=>by simp at hy),λ_ _ _ _ _ i p y hp _=>by simp at hp⟩
 | q :: r,K,hy=>by
   unfold J1 at hy;split at hy
   ·rename_i id n how
    have hr:=ρ_sound h t q;obtain⟨l,E,hK,f,u,v,x,k,d⟩:=PE h t hy
    have I:(Ag S id).ver=n/\a.eval q=β id/\(a.eval q).oneCell'=true:=by
     unfold fW at how;split at how<;>try (cases how;done)
     ·rename_i hx
      cases how
      rw[hx]at hr;obtain⟨_,z,b,A,m⟩:=hr;exact⟨z,by rw[m,A],by rw[m];rfl⟩
     ·rename_i hx
      cases how
      rw[hx]at hr;obtain⟨_,z,b,A,m⟩:=hr;exact⟨z,by rw[m,A],by rw[m];rfl⟩
    refine⟨_,_,hK,f,by simp[u],λi p B F hp j=>?_,λc j=>?_,λi y hy=>?_,d.mono (λ_ h=>h) λO D i p y hp j=>?_⟩
    all_goals grind
   ·obtain⟨y,b,hK,H,_,s⟩:=Mb h (ρ_sound h t q) hy;split at hK
    ·rename_i J
     obtain⟨L,hK⟩:=Al hK;obtain⟨l,E,hK,f,u,v,x,k,d⟩:=PE h t hK;refine⟨_,_,hK,H.append f,by simp[u],λi p B F hp j=>?_,λc j=>?_,λi y hy=>?_,(s.and d).mono (λ_ h=>h) λO D i p y hp j=>?_⟩
     ·grind
     ·grind
     ·grind
     ·cases i with
      | zero=>simp at hp j;subst hp;subst j;exact D.1
      | succ i=>exact D.2 i p y (by simpa using hp) (by grind)
    ·grind
theorem fh(h:SimB X G β S a w){g:Option (Nat×Bool)}(u:Ce g a){f:FuncId}{first caps:Array Operand}(ho:o.op=.makeFunc (.func f) first caps)(E:first.toList=[]){K:Hn->Prop}
 (hy:J1 (σOf S) (ρOf S g) caps.toList λl b=>K ⟨.cc (some f) l,b,[]⟩):∃e,K e/\Dp P X G S a w o e:=by
 obtain⟨l,b,hK,t,x,r,z,j,k⟩:=PE h u hy;obtain⟨A,_,s⟩:=t.run h;have hr:=k.now h t;refine⟨_,hK,.inl ⟨.func (.func f) #[] (caps.map a.eval),w,?_,β,A,⟨caps.map a.eval,rfl,by simp[x],λi v c m q=>?_⟩,rfl⟩⟩
 ·have:first=#[]:=by cases first;simp_all
  simp[execOp,ho,Instr.makeFunc,this]
 ·rw[Array.getElem?_map]at m
  cases hp:caps[i]? with
  | none=>grind
  | some p =>
    simp[hp]at m;subst m
    cases c with
    | d y=>exact⟨⟨hr i p y (by simpa using hp) q,j i y q⟩,UR (hr i p y (by grind) q) (j i y q)⟩
    | sl id n =>
      obtain⟨B,C,D⟩:=r i p id n (by grind) q;have m:=s.ver id;exact⟨⟨by simp only[AH];rw[m,B];exact uh _,λ_=>C⟩,D⟩
    | own sz e xs=>grind
theorem R0:∀{cs:List C}{k id n:Nat},gw cs=some (k,id,n)->cs[k]?=some (.sl id n)
 | [],_,_,_,h=>by cases h
 | .sl b d :: r,k,id,n,h=>by simp[gw]at h;obtain⟨rfl,rfl,rfl⟩:=h;rfl
 | .d y :: r,k,id,n,h=>by
   simp only[gw]at h;split at h
   ·rename_i e b d c
    simp only[Option.some.injEq,Prod.mk.injEq]at h;obtain⟨rfl,rfl,rfl⟩:=h
    simpa using R0 c
   ·cases h
 | .own _ _ _ :: r,k,id,n,h=>by
   simp only[gw]at h;split at h
   ·rename_i e b d c
    simp only[Option.some.injEq,Prod.mk.injEq]at h;obtain⟨rfl,rfl,rfl⟩:=h
    simpa using R0 c
   ·cases h
theorem Zh:∀{cs:List C}{i:Nat}{x:AV},(Q8 cs)[i]?=some x->x=.any\/∃y,x=.d y/\cs[i]?=some (.d y)
 | [],i,x,h=>by simp[Q8]at h
 | c :: r,0,x,h=>by
   cases c<;>simp[Q8]at h<;>subst h
   all_goals grind
 | c :: r,i+1,x,h=>by
   have b:(Q8 r)[i]?=some x:=by cases c<;>simpa [Q8] using h
   rcases Zh b with h|⟨y,d,e⟩
   all_goals grind
theorem Ua:∀cs:List C,(Q8 cs).length=cs.length
 | []=>rfl
 | c :: r=>by cases c<;>simp[Q8,Ua r]
theorem fm(h:SimB X G β S a w){g:Option (Nat×Bool)}(hg:Ce g a){c:Call}(ho:o.op=.call c){fo:Operand}(hc:c.callee=.value fo){f:FuncId}{cs:List C}{k id n rid rn:Nat}(hf:ρOf S g fo=.clo f cs k id n rid rn)
 {d s sz:Nat} {e:TypeId} {xs:List D} (hr:σOf S rid rn=.row d s sz e xs) {K:Hn->Prop} (hy:Ij P (σOf S) (ρOf S g) c.args.toList c.argTypes.toList λvs bs=>match bs with
  | []=>CN (Q8 cs) λcv=>bH P f (vs++cv) (vs.length+k) sz e xs λys=>if id=rid then False else K ⟨.any,[(rid,.row sz e ys,rn+1),(id,.var [.sl rid (rn+1)],n)],[]⟩
  | _=>False):∃e,K e/\Dp P X G S a w o e:=by
 obtain⟨vs,bs,hy,hF,F,hrep⟩:=MM h hg hy;split at hy<;>try exact hy.elim
 rw[BW]at hy;obtain⟨ys,U,hy⟩:=hy.go;split at hy
 ·exact hy.elim
 rename_i Q
 refine⟨_,hy,?_⟩;have hargs:=hrep.now h hF;have hfv:=ρ_sound h hg fo;rw[hf]at hfv;obtain⟨⟨A,hfe,hcl,hcr⟩,hat,Y,hver⟩:=hfv
 have hrun:(execOp a.eval o).run P w=.ok (.enter f (c.args.map a.eval++A)) w:=by
  simp only[execOp,ho,resolve,hc,hfe,Deferred.ofValue,Sem.run_bind,Sem.run_pure,Result.andThen_ok,invoke];simp only[xm];rw[IL U.1]
 have M:=h.boxes id;rw[Y]at M;obtain⟨b,vals,T,hβ,hh,hvs,hcell⟩:=M
 obtain⟨u,rfl⟩:∃u,vals=#[u]:=by
  have:vals.size=1:=hvs;exact⟨vals[0],by apply Array.ext;simp[this];intro i h1 Z;simp at Z;subst Z;rfl⟩
 have hcu:=hcell 0 u (.sl rid rn) rfl rfl;have hσ:=σ_sound h hcu;rw[hr]at hσ;obtain⟨hrb,hrv,E⟩:=hσ
 obtain⟨rfl,rfl⟩:d=rid/\s=rn:=by
  simp only[σOf,res]at hr;split at hr<;>(try (split at hr))<;>cases hr<;>exact⟨rfl,rfl⟩
 have hrbx:=h.boxes d;rw[hrb]at hrbx;obtain⟨hsz,hxs,rvals,hrow,hrl⟩:=hrbx;have O:(Ag S id).box.owned=true:=by rw[Y];rfl
 have H:(Ag S d).box.owned=true:=by rw[hrb];rfl
 have N:Ae (β id)=some b:=by rw[hβ];rfl
 have hid:=ND Y (by simp);have hrid:=ND hrb (by simp);have hlt:=h.blk O N
 have hO:∀c',(OS β X S c'/\c'≠b/\Ae u≠some c')\/c'=b\/Ae u=some c'->OS β X S c':=by
  intro c' r;rcases r with r|rfl|r
  ·exact r.1
  ·exact .inr (.inr ⟨id,O,N⟩)
  ·exact .inr (.inr ⟨d,H,by rw[<-E];exact r⟩)
 have hval:∀(i:Nat) v,(c.args.map a.eval++A)[i]?=some v->(∃p,c.args.toList[i]?=some p/\v=a.eval p)\/(c.args.size<=i/\A[i-c.args.size]?=some v):=by
  intro i v R;rcases uZ i c.args.size with hi|hi
  ·rw[vf (by simpa using hi)]at R;simp[hi]at R;exact .inl ⟨c.args[i],by simp[hi],R.symm⟩
  ·rw[wo (by simpa using hi)]at R;exact .inr ⟨hi,by simpa using R⟩
 have hkv:(c.args.map a.eval++A)[vs.length+k]?=some (.pointer (some ⟨b,0,none⟩)):=by
  have h1:=R0 hat;have Z:k<A.size:=by rw[hcl];exact A6 h1
  have h3:=hcr k A[k] _ (by simp[Z]) h1;have h4:A[k]=β id:=h3.1.2 (by simp only[AH];exact hver.symm);rw[wo (by simp[F])];simp[F,Z,h4,hβ]
 have:=U.2 (λc'=>OS β X S c'/\c'≠b/\Ae u≠some c') w (c.args.map a.eval++A) b u T (λc' r=>h.os_lt r.1) (λq l hq=>(h.glob q l hq).mono (BA.of_sub hO))
  (by simp[F,hcl,Ua]) hkv hh (λhb=>hb.2.1 rfl) (λc' r=>⟨λhx=>hx.2.2 r,λe=>by
   subst e;exact Q (h.inj id d c' O H N (by rw[<-E];exact r))⟩) hsz hxs ⟨rvals,by rw[E];exact hrow,hrl.mono (BA.of_sub hO)⟩
  (λi v x R hx=>by
   rcases hval i v R with⟨p,hp,rfl⟩|⟨hi,R⟩
   ·rw[ut (by rw[F];exact A6 hp)]at hx;exact(hargs i p x hp hx).mono (BA.of_sub hO)
   ·rw[uq (by rw[F];simpa using hi),F]at hx;simp only[ve]at hx;rcases Zh hx with rfl|⟨y,rfl,hcy⟩
    ·trivial
    ·exact((hcr _ v _ R hcy).1.1).mono (BA.of_sub hO))
 refine .inr (.inr ⟨f,_,hrun,this.mono λe' w' ⟨v,u',T',h1,Z,h3,h4,h5,vals',h6,h7⟩=>⟨v,h1,?_⟩⟩);have hsz2:=Z.size;let β':Nat->Value:=λi=>if i=d then u' else β i
 have hgs:∀i,Ag (Bh [(d,.row sz e ys,s+1),(id,.var [.sl d (s+1)],n)] S) i=if i=d then⟨(Ag S d).av,.row sz e ys,s+1⟩else if i=id then⟨(Ag S id).av,.var [.sl d (s+1)],n⟩else Ag S i:=by
  intro i;simp only[Bh];rw[JS (by rw[CX];exact hid),JS hrid,JS hrid];by_cases t:i=id
  ·subst t;simp[Q]
  ·simp[t]
 have hsim:SimB X G β' (Bh [(d,.row sz e ys,s+1),(id,.var [.sl d (s+1)],n)] S) a w':=by
  refine h.multi (λi=>if i=d then some (.row sz e ys,s+1,u')else if i=id then some (.var [.sl d (s+1)],n,β id)else none) (λi=>?_) (λi=>?_) (Cr _ _) hsz2 ?_ (λi B m v z=>?_) (λW hb' hk=>?_) (λi B m v W z hB M=>?_) (λi j B m v B' m' v' W z I hB hB' M hbv'=>?_) (λhk hvv i B m v z=>?_)
  ·rw[hgs];by_cases t:i=d
   ·subst t;simp
   ·by_cases J:i=id
    ·simp[J,Q]
    ·simp[t,J]
  ·show(if i=d then u' else β i)=_;by_cases t:i=d
   ·simp[t]
   ·by_cases J:i=id
    ·subst J;simp only[uo t,if_true]
    ·simp[t,J]
  ·refine Z.weaken h.hbase λq hq hm hq'=>hm ?_;rcases hq' with rfl|hq'
   ·exact((h.mine id q O N).1).resolve_left (by omega)
   ·exact((h.mine d q H (by rw[<-E];exact hq')).1).resolve_left (by omega)
  ·split at z
   ·rename_i t;subst t;cases z;exact .inl (by rw[hrv];omega)
   ·split at z
    ·rename_i J;subst J;cases z;exact .inr ⟨hver.symm,rfl,by rw[Y];simp⟩
    ·cases z
  ·refine Z.block W hb' λhm=>?_;rcases hm with rfl|hm
   ·exact hk id (.var [.sl d (s+1)]) n (β id) (by simp[Q]) O N
   ·exact hk d (.row sz e ys) (s+1) u' (by simp) H (by rw[<-E];exact hm)
  ·split at z
   ·rename_i t
    subst t
    cases z
    rcases h4 W M with h8|h8
    ·exact .inl ⟨i,.row sz e ys,s+1,u',by simp,H,by rw[<-E];exact h8⟩
    ·exact .inr h8
   ·split at z
    ·rename_i t J
     subst J
     cases z
     exact .inl ⟨i,.var [.sl d (s+1)],n,β i,by simp[Q],O,M⟩
    ·cases z
  ·have hdis:∀W,Ae u'=some W->Ae (β id)≠some W:=by
    intro W h8 h9;rw[N]at h9
    cases h9
    rcases h4 b h8 with h9|h9
    ·exact Q (h.inj id d b O H N (by rw[<-E];exact h9))
    ·omega
   by_cases t:i=d<;>by_cases J:j=d
   ·rw[t,J]
   ·simp only[t,J,if_true,if_false]at z I;split at I
    ·cases z;cases I;exact(hdis W M hbv').elim
    ·cases I
   ·simp only[t,J,if_true,if_false]at z I;split at z
    ·cases z;cases I;exact(hdis W hbv' M).elim
    ·cases z
   ·simp only[t,J,if_false]at z I;split at z
    ·split at I
     ·rename_i e3 e4;rw[e3,e4]
     ·cases I
    ·cases z
  ·have hOS:∀c',OS β' X (Bh [(d,.row sz e ys,s+1),(id,.var [.sl d (s+1)],n)] S) c'->(OS β X S c'/\c'≠b/\Ae u≠some c')\/c'=b\/Ae u'=some c':=by
    intro c' r;by_cases eb:c'=b
    ·exact .inr (.inl eb)
    by_cases eu:Ae u'=some c'
    ·exact .inr (.inr eu)
    have key:OS β X S c'/\Ae u≠some c':=by
     rcases r with r|r|⟨i,V,L⟩
     ·refine⟨.inl r,λe=>?_⟩;have:=(h.mine d c' H (by rw[<-E];exact e)).1;have h0:=h.o₀ c' r;rcases this with this|this
      ·omega
      ·exact h0.2 this
     ·refine⟨.inr (.inl r),λe=>(h.mine d c' H (by rw[<-E];exact e)).2 r⟩
     ·rw[hgs]at V;have L:Ae (if i=d then u' else β i)=some c':=L;by_cases t:i=d
      ·rw[uk t]at L;exact(eu L).elim
      ·rw[uo t]at V L;by_cases J:i=id
       ·subst J;rw[N]at L;cases L;exact(eb rfl).elim
       ·rw[uo J]at V;exact⟨.inr (.inr ⟨i,V,L⟩),λe=>t (h.inj i d c' V H L (by rw[<-E];exact e))⟩
    exact .inl ⟨key.1,eb,key.2⟩
   split at z
   ·rename_i t
    subst t
    cases z
    exact⟨hsz,h5,vals',by show Bw w' e sz (if i=i then u' else β i) _ _;rw[uk rfl];exact h6,h7.mono (BA.of_sub hOS)⟩
   ·split at z
    ·rename_i t J
     subst J
     cases z
     refine⟨b,#[u'],T',by show(if i=d then u' else β i)=_;rw[uo t];exact hβ,h3,rfl,λj v c' R r=>?_⟩
     cases j with
     | zero =>
       simp at R r;subst R;subst r;have hvr:AH (Bh [(d,.row sz e ys,s+1),(i,.var [.sl d (s+1)],n)] S) d=s+1:=by simp only[AH,hgs,if_true]
       exact⟨by rw[hvr];exact uh _,λ_=>by show _=if d=d then u' else _;rw[uk rfl]⟩
     | succ j=>simp at r
    ·cases z
 exact⟨β',hsim,trivial,rfl⟩
end
open Go.MapKept
section
variable {P:Program} {X:Cx} {G:Nat->Prop} {β:Nat->Value} {S:AS} {a:Act} {w:World} {o:Oper}
theorem YS{O:Nat->Prop}{kd:TypeDesc}{v u:Value}{k q:D}(hk:Ay O w v k)(d:Ay O w u q)(c:YL k=some kd)(b:ID k q=true) :
 Instr.sameNow kd v u=some (JG k q):=by
 cases k<;>simp only[YL,Option.some.injEq]at c<;>try (cases c;done)
 case int j n =>
  cases q<;>simp only[ID]at b<;>try (cases b;done)
  case int j' m =>
   cases hk;cases d
   subst c;have:=uf b;subst this;simp[Instr.sameNow,JG]
 case str s =>
  cases q<;>simp only[ID]at b<;>try (cases b;done)
  case str s' =>
   cases hk;cases d
   subst c;simp[Instr.sameNow,JG]
theorem OI{O:Nat->Prop}{kd:TypeDesc}{v:Value}{k:D}(hk:Ay O w v k)(b:YL k=some kd) :
 ∀(vs:List MapEntry)(es:List (D×D))(i:Nat),vs.length=es.length->(∀p∈es,ID k p.1=true)->(∀(j:Nat)(e:MapEntry)(p:D×D),vs[j]?=some e->es[j]?=some p->Ay O w e.key p.1) ->
  Instr.findNow kd v vs i=some (match QT k es with|some j=>(vs[j]?).map λe=>(i+j,e.val)|none=>none)
 | [],[],_,_,_,_=>rfl
 | [],_ :: _,_,h,_,_=>by simp at h
 | _ :: _,[],_,h,_,_=>by simp at h
 | e :: vs,p :: es,i,hl,hkk,hr=>by
   have d:=YS hk (hr 0 e p rfl rfl) b (hkk p (by simp));unfold Instr.findNow QT;rw[d]
   cases JG k p.1 with
   | true=>simp
   | false =>
     simp only[ux];rw[OI hk b vs es (i+1) (by simpa using hl) (λq f=>hkk q (by simp[f])) (λj c p' g hp=>hr (j+1) c p' (by simpa using g) (by simpa using hp))]
     cases QT k es with
     | none=>rfl
     | some j =>
       simp only[w8,vm];congr 2;funext c;congr 1;omega
theorem ai(h:SimB X G β S a w){d:Nat}(hd:d<S.length){t:TypeId}(ho:o.op=.makeMap t none) :
 Dp P X G S a w o ⟨.sl d ((Ag S d).ver+1),[(d,.map [],(Ag S d).ver+1)],[]⟩:=by
 refine .inl ⟨.map (some w.heap.size),w.alloc (.map #[] 0),?_,Lg β d (.map (some w.heap.size)),?_,?_,rfl⟩
 ·simp[execOp,ho,Instr.makeMap]
 ·exact h.rebox (R':=X.R) (λ_ h=>h) hd (.inl (wm _)) (by simp) ((A8.of (Mc _)).weaken h.hbase λ_ _ h=>h) (λb c _=>heap_alloc_old w _ b c)
   (λ_ b c=>⟨.inr (.inl (by simp[Ae]at c;omega)),λhr=>by simp[Ae]at c;have:=(h.rs b hr).2;omega⟩) (λk f=>⟨w.heap.size,#[],0,by simp[Lg],heap_alloc_new w _,rfl,λi e p g=>by simp at g⟩)
 ·have f:AH (AY S d (.map []) ((Ag S d).ver+1)) d=(Ag S d).ver+1:=by simp[AH,Ci,hd]
  exact⟨by simp only[Bh];rw[f];exact uh _,λ_=>by simp[Lg]⟩
theorem aD{q:D}:∀{es:List (D×D)}{j:Nat},QT q es=some j->j<es.length
 | [],j,h=>by cases h
 | p :: r,j,h=>by
   unfold QT at h
   cases hk:JG q p.1 with
   | true=>rw[hk]at h;cases h;simp
   | false =>
     rw[hk]at h;simp only[ux]at h;obtain⟨i,b,rfl⟩:=Option.map_eq_some_iff.1 h;have:=aD b;simp;omega
theorem Zv(q:D):∀es:List (D×D),Pi q es=(QT q es).bind λj=>(es[j]?).map (·.2)
 | []=>rfl
 | p :: r=>by
   unfold Pi QT
   cases JG q p.1 with
   | true=>rfl
   | false =>
     simp only[ux];rw[Zv q r]
     cases QT q r<;>simp
theorem dd{O:Nat->Prop}{kd:TypeDesc}{q:D}{u:Value}(b:YL q=some kd)(h:Ay O w u q):IsKey kd u:=by
 cases q<;>simp only[YL,Option.some.injEq]at b<;>try (cases b;done)
 case int j n=>cases h;subst b;simp[IsKey]
 case str s=>cases h;subst b;simp[IsKey]
theorem cF(h:SimB X G β S a w){g:Option (Nat×Bool)}(T:Ce g a){t U V:TypeId}{x K:Operand}{ok:Bool}(ho:o.op=.lookup t x K ok)(f:P.underlying t=some (.map U V)){id n:Nat}{es:List (D×D)}(hx:ρOf S g x=.mp id n es){q:D}(hq:ρOf S g K=.d q)
 {kd:TypeDesc} (A:YL q=some kd) (l:P.underlying U=some kd) (M:∀p∈es,ID q p.1=true) {z:D} (y:o9 P V=some z) :
 Dp P X G S a w o ⟨if ok then .tup [.d ((Pi q es).getD z),.d (.bool (Pi q es).isSome)]else .d ((Pi q es).getD z),[],[]⟩:=by
 have W:=ρ_sound h T x;rw[hx]at W;obtain⟨hb,_,hv⟩:=W;have Y:=ρ_sound h T K;rw[hq]at Y;have B:=h.boxes id;rw[hb]at B;obtain⟨b,vs,N,hβ,L,hl,hr⟩:=B;have C:Ay (OS β X S) w (a.eval K) q:=Y;have r:=dd A C;have d:=OI C A vs.toList es 0 (by simpa using hl) M (λj e p he hp=>(hr j e p (by simpa using he) hp).1);unfold o9 at y;split at y<;>try (cases y;done)
 rename_i i Z
 split at y<;>try (cases y;done)
 rename_i Q E
 have F:=λ(O:Nat->Prop)(w:World)=>eF (O:=O) (w:=w) y;have s:a.eval x=.map (some b):=by rw[hv,hβ]
 rw[Zv]
 cases hj:QT q es with
 | none =>
   rw[hj]at d;simp only at d
   cases ok with
   | false =>
     refine AM h (v:=Q) ?_ (F _ _).1 rfl;simp[execOp,ho,Instr.lookup,run_underlying f,s,MapKept.run_getObj_map L,MapKept.run_checkKey l r,MapKept.run_findKey l d,zeroValue,typeInfo,Z,E,Result.andThen]
   | true =>
     refine AM h (v:=.tuple #[Q,.bool false]) ?_ ⟨#[Q,.bool false],rfl,rfl,λk u c f m=>?_⟩ rfl
     ·simp[execOp,ho,Instr.lookup,run_underlying f,s,MapKept.run_getObj_map L,MapKept.run_checkKey l r,MapKept.run_findKey l d,zeroValue,typeInfo,Z,E,Result.andThen]
     ·match k,f,m with
      | 0,f,m=>simp at f m;subst f;subst m;exact(F _ _).1
      | 1,f,m=>simp at f m;subst f;subst m;exact .bool _
      | k+2,f,m=>simp at f
 | some j =>
   rw[hj]at d;have H:=aD hj;have I:j<vs.size:=by omega
   have J:=hr j vs[j] es[j] (by simp[I]) (P3 H);simp only[P3 H,ue,w8,vT,Option.isSome_some]at d ⊢;have R:vs.toList[j]?=some vs[j]:=by simp[I]
   rw[R]at d;simp only[w8]at d
   cases ok with
   | false =>
     refine AM h (v:=vs[j].val) ?_ J.2.1 rfl;simp[execOp,ho,Instr.lookup,run_underlying f,s,MapKept.run_getObj_map L,MapKept.run_checkKey l r,MapKept.run_findKey l d,Result.andThen]
   | true =>
     refine AM h (v:=.tuple #[vs[j].val,.bool true]) ?_ ⟨#[vs[j].val,.bool true],rfl,rfl,λk u c f m=>?_⟩ rfl
     ·simp[execOp,ho,Instr.lookup,run_underlying f,s,MapKept.run_getObj_map L,MapKept.run_checkKey l r,MapKept.run_findKey l d,Result.andThen]
     ·match k,f,m with
      | 0,f,m=>simp at f m;subst f;subst m;exact J.2.1
      | 1,f,m=>simp at f m;subst f;subst m;exact .bool _
      | k+2,f,m=>simp at f
theorem ZG{q:D}(v:D):∀{es:List (D×D)},QT q es=none->Y8 q v es=es++[(q,v)]
 | [],_=>rfl
 | p :: r,h=>by
   unfold QT at h;unfold Y8
   cases hk:JG q p.1 with
   | true=>rw[hk]at h;cases h
   | false =>
     rw[hk]at h;simp only[ux,Option.map_eq_none_iff]at h;rw[ux,ZG v h];rfl
theorem ZH{q:D}(v:D):∀{es:List (D×D)}{j:Nat},QT q es=some j->Y8 q v es=es.set j (q,v)
 | [],j,h=>by cases h
 | p :: r,j,h=>by
   unfold QT at h;unfold Y8
   cases hk:JG q p.1 with
   | true=>rw[hk]at h;cases h;rfl
   | false =>
     rw[hk]at h;simp only[ux]at h;obtain⟨i,b,rfl⟩:=Option.map_eq_some_iff.1 h;rw[ux,ZH v b];rfl
theorem iR(h:SimB X G β S a w){id n:Nat}{es f:List (D×D)}(m:(Ag S id).box=.map es)(x:(Ag S id).ver=n){b:Nat}(s:β id=.map (some b)){vs d:Array MapEntry}{g c:Nat}(y:w.heap[b]?=some (.map vs g))
 (z:d.size=f.length) (hr:∀(i:Nat)(e:MapEntry)(p:D×D),d[i]?=some e->f[i]?=some p->(∀(O:Nat->Prop)(w:World),Ay O w e.key p.1)/\(∀(O:Nat->Prop)(w:World),Ay O w e.val p.2)/\p.1.bare=true/\p.2.bare=true) :
 SimB X G β (AY S id (.map f) n) a { w with heap:=w.heap.setIfInBounds b (.map d c) }:=by
 have hid:=ND m (by simp);have ho:(Ag S id).box.owned=true:=by rw[m];rfl
 have j:Ae (β id)=some b:=by rw[s];rfl
 obtain⟨q,l⟩:=heap_set (o':=.map d c) y
 have t:=h.rebox (R':=X.R) (id:=id) (B:=.map f) (v:=β id) (n:=n) (w':={ w with heap:=w.heap.setIfInBounds b (.map d c) })
  (λ_ h=>h) hid (.inr ⟨x.symm,rfl,by rw[m];simp⟩) (by simp)
  ⟨rfl,rfl,rfl,by simp,λk hk A=>l k λe=>by subst e;rcases(h.mine id k ho j).1 with u|u;omega;exact A u⟩
  (λk _ hk=>l k λe=>hk ho (by rw[j,e]))
  (λ_ k hk=>⟨.inl ⟨hk,ho⟩,(h.mine id k ho hk).2⟩)
  (λk C=>by
   rw[Gu]at k C ⊢;exact⟨b,d,c,s,q,z,λi e p r hp=>⟨(hr i e p r hp).1 _ _,(hr i e p r hp).2.1 _ _,(hr i e p r hp).2.2⟩⟩)
 rw[Gu]at t;exact t
theorem iB{q:D}:∀{es:List (D×D)}{j:Nat},QT q es=some j->∀h:j<es.length,JG q es[j].1=true
 | [],j,h,hl=>by simp at hl
 | p :: r,j,h,hl=>by
   unfold QT at h
   cases hk:JG q p.1 with
   | true=>rw[hk]at h;cases h;exact hk
   | false =>
     rw[hk]at h;simp only[ux]at h;obtain⟨i,b,rfl⟩:=Option.map_eq_some_iff.1 h;exact iB b (by simpa using hl)
theorem nU{O:Nat->Prop}{q p:D}{u v:Value}(hk:ID q p=true)(b:JG q p=true)(c:Ay O w u q)(hp:Ay O w v p):v=u:=by
 cases q<;>cases p<;>simp only[ID]at hk<;>try (cases hk;done)
 case int.int j n j' n' =>
  cases c;cases hp
  have:=uf hk;subst this;simp only[JG]at b;rw[eq_of_beq b]
 case str.str s s' =>
  cases c;cases hp
  simp only[JG]at b;rw[(bytes_beq _ _).1 b]
theorem cG(h:SimB X G β S a w){g:Option (Nat×Bool)}(M:Ce g a){t W et:TypeId}{m k x:Operand}(ho:o.op=.mapUpdate t m k x)(Y:P.underlying t=some (.map W et)){id n:Nat}{es:List (D×D)}(hm:ρOf S g m=.mp id n es){q y:D}(hq:ρOf S g k=.d q)(hy:ρOf S g x=.d y)(s:y.bare=true)
 {kd:TypeDesc} (B:YL q=some kd) (u:P.underlying W=some kd) (F:∀p∈es,ID q p.1=true) :
 Dp P X G S a w o ⟨.any,[(id,.map (Y8 q y es),n)],[]⟩:=by
 have Z:=ρ_sound h M m;rw[hm]at Z;obtain⟨N,hn,hv⟩:=Z;have h2:=ρ_sound h M k;rw[hq]at h2;have l:Ay (OS β X S) w (a.eval k) q:=h2;have h3:=ρ_sound h M x;rw[hy]at h3;have H:Ay (OS β X S) w (a.eval x) y:=h3;have I:=h.boxes id;rw[N]at I;obtain⟨b,vs,f,Q,E,L,hr⟩:=I;have r:=dd B l;have v:q.bare=true:=by cases q<;>simp[YL]at B<;>rfl
 have c:=OI l B vs.toList es 0 (by simpa using L) F (λj e p d hp=>(hr j e p (by simpa using d) hp).1);have J:a.eval m=.map (some b):=by rw[hv,Q]
 have K:∀(i:Nat)(e:MapEntry)(p:D×D),vs[i]?=some e->es[i]?=some p->(∀(O:Nat->Prop)(w:World),Ay O w e.key p.1)/\(∀(O:Nat->Prop)(w:World),Ay O w e.val p.2)/\p.1.bare=true/\p.2.bare=true:=λi e p d hp =>
  ⟨λ_ _=>Sr (hr i e p d hp).1 (hr i e p d hp).2.2.1,λ_ _=>Sr (hr i e p d hp).2.1 (hr i e p d hp).2.2.2,(hr i e p d hp).2.2⟩
 cases hj:QT q es with
 | none =>
   rw[hj]at c;simp only at c;rw[ZG y hj];refine .inr (.inl ⟨{ w with heap:=w.heap.setIfInBounds b (.map (vs.push { key:=a.eval k,val:=a.eval x,born:=f }) (f+1)) },?_,β,?_,trivial,rfl⟩)
   ·simp[execOp,ho,Instr.mapUpdate,run_underlying Y,J,MapKept.run_getObj_map E,MapKept.run_checkKey u r,MapKept.run_findKey u c,run_setObj_map _ E,Result.andThen]
   ·refine iR h N hn Q E (by simp[L]) λi e p d hp=>?_;by_cases R:i<vs.size
    ·exact K i e p (by rw[Array.getElem?_push]at d;rw[uo (by omega)]at d;exact d) (by rw[ut (by omega)]at hp;exact hp)
    ·have T:i=vs.size:=by
      have:=(List.getElem?_eq_some_iff.1 hp).1;simp at this;omega
     subst T;simp at d;rw[uq (by omega)]at hp;simp[L]at hp;subst d;subst hp;exact⟨λ_ _=>Sr l v,λ_ _=>Sr H s,v,s⟩
 | some j =>
   rw[hj]at c;have z:=aD hj;have A:j<vs.size:=by omega
   have U:vs.toList[j]?=some vs[j]:=by simp[A]
   simp only[U,w8]at c;rw[ZH y hj];have V:=hr j vs[j] es[j] (by simp[A]) (P3 z);have C:vs[j].key=a.eval k:=nU (F _ (ud z)) (iB hj z) l V.1;refine .inr (.inl ⟨{ w with heap:=w.heap.setIfInBounds b (.map (vs.modify j λe=>{ e with key:=a.eval k,val:=a.eval x }) f) },?_,β,?_,trivial,rfl⟩)
   ·simp[execOp,ho,Instr.mapUpdate,run_underlying Y,J,MapKept.run_getObj_map E,MapKept.run_checkKey u r,MapKept.run_findKey u c,run_setObj_map _ E,Result.andThen,A,C,run_keyThatStays r]
   ·refine iR h N hn Q E (by simp[L]) λi e p d hp=>?_;rw[wD]at d;rw[vk]at hp;by_cases R:j=i
    ·subst R;rw[uk rfl]at d hp;rw[uk z]at hp;simp[A]at d
     cases hp
     subst d;exact⟨λ_ _=>Sr l v,λ_ _=>Sr H s,v,s⟩
    ·rw[uo R]at d hp;exact K i e p d hp
end
section
variable {P:Program} {X:Cx} {G:Nat->Prop} {β:Nat->Value} {S:AS} {a:Act} {w:World} {o:Oper}
theorem mZ{x:D}(h:x.one=true):(norm x).one=true:=by cases x<;>first|rfl|exact h
theorem QI{ρ:Operand->RV}:∀{l:List Operand}{i k id n:Nat}{cs:List C},MD ρ l i=some (k,id,n,cs)->∃j x,k=i+j/\l[j]?=some x/\ρ x=.vptr id n 0 cs
 | [],i,k,id,n,cs,h=>by simp[MD]at h
 | x :: r,i,k,id,n,cs,h=>by
   have go:MD ρ r (i+1)=some (k,id,n,cs)->∃j y,k=i+j/\(x :: r)[j]?=some y/\ρ y=.vptr id n 0 cs:=λh=>by
    obtain⟨j,y,f,b,c⟩:=QI h;exact⟨j+1,y,by omega,by simpa using b,c⟩
   unfold MD at h;split at h
   ·rename_i d g e hx
    split at h
    ·cases h;exact⟨0,x,by omega,rfl,hx⟩
    ·exact go h
   ·exact go h
theorem QG(h:SimB X G β S a w){g:Option (Nat×Bool)}(c:Ce g a){k:Nat}:∀{l:List Operand}{i:Nat}{K:List AV->Prop},N9 (ρOf S g) k l i K->∃vs,K vs/\vs.length=l.length/\∀(j:Nat) p y,l[j]?=some p->vs[j]?=some y->OZ (OS β X S) w (a.eval p) y
 | [],i,K,hy=>⟨[],hy,rfl,λj p y hp _=>by simp at hp⟩
 | x :: r,i,K,hy=>by
   unfold N9 at hy;split at hy
   ·obtain⟨vs,d,e,f⟩:=QG h c hy;refine⟨_,d,by simp[e],λj p y hp b=>?_⟩
    cases j with
    | zero=>simp at b;subst b;trivial
    | succ j=>exact f j p y (by simpa using hp) (by simpa using b)
   ·split at hy<;>try exact hy.elim
    rename_i y hx
    rw[NH]at hy;obtain⟨vs,d,e,f⟩:=QG h c hy;have hr:=ρ_sound h c x;rw[hx]at hr;have hr:Ay (OS β X S) w (a.eval x) y:=hr;refine⟨_,d,by simp[e],λj p z hp b=>?_⟩
    cases j with
    | zero=>simp at hp b;subst hp;subst b;exact hr.norm
    | succ j=>exact f j p z (by simpa using hp) (by simpa using b)
structure GC(S:AS)(cl cs:List C):Prop where
 len:cl.length=cs.length
 at_:∀(j:Nat) c c',cl[j]?=some c->cs[j]?=some c'->(∃x,c=.d x/\c'=.d (norm x))\/(∃rid rn i' n' sz e xs,c=.sl rid rn/\c'=.own sz e xs/\σOf S rid rn=.row i' n' sz e xs)
theorem PK:∀{i:List C}{K:List C->Prop},IV (σOf S) i K->∃cs,K cs/\GC S i cs
 | [],K,h=>⟨[],h,rfl,λj c c' d=>by simp at d⟩
 | c :: r,K,h=>by
   unfold IV at h;split at h
   ·rename_i x
    rw[NH]at h;obtain⟨cs,g,f⟩:=PK h;refine⟨_,g,by simp[f.len],λj c c' d b=>?_⟩
    cases j with
    | zero=>simp at d b;subst d;subst b;exact .inl ⟨x,rfl,rfl⟩
    | succ j=>exact f.at_ j c c' (by simpa using d) (by simpa using b)
   ·rename_i id n
    split at h<;>try exact h.elim
    rename_i k l sz e xs hr
    obtain⟨cs,g,f⟩:=PK h;refine⟨_,g,by simp[f.len],λj c c' d b=>?_⟩
    cases j with
    | zero=>simp at d b;subst d;subst b;exact .inr ⟨id,n,k,l,sz,e,xs,rfl,rfl,hr⟩
    | succ j=>exact f.at_ j c c' (by simpa using d) (by simpa using b)
   ·exact h.elim
structure GB(cl cs' l:List C)(ub:Bx):Prop where
 len:cl.length=cs'.length
 len2:l.length=cl.length
 at_:∀(j:Nat) c c' d,cl[j]?=some c->cs'[j]?=some c'->l[j]?=some d->(∃x y,c=.d x/\c'=.d y/\d=.d y)\/(∃rid rn sz e ys,c=.sl rid rn/\c'=.own sz e ys/\d=.sl rid (rn+1)/\(rid,BJ.row sz e ys,rn+1)∈ub)
 of:∀y∈ub,∃(j rn sz:Nat)(e:TypeId)(ys:List D),cl[j]?=some (.sl y.1 rn)/\cs'[j]?=some (.own sz e ys)/\y=(y.1,BJ.row sz e ys,rn+1)
 nodup:(ub.map (·.1)).Nodup
 inj:∀(i j:Nat) q n n',cl[i]?=some (.sl q n)->cl[j]?=some (.sl q n')->i=j
theorem QH:∀{N D:List C}{K:List C->Bx->Prop},Sz N D K->∃l ub,K l ub/\GB N D l ub
 | [],[],K,h=>⟨[],[],h,rfl,rfl,(λj c c' d m=>by simp at m),(λy hy=>by cases hy),List.nodup_nil,(λi j q n v k=>by simp at k)⟩
 | [],c' :: r',K,h=>by cases c'<;>exact h.elim
 | c :: r,[],K,h=>by cases c<;>exact h.elim
 | c :: r,c' :: r',K,h=>by
   cases c with
   | own _ _ _=>cases c'<;>exact h.elim
   | d x =>
     cases c' with
     | sl _ _=>exact h.elim
     | own _ _ _=>exact h.elim
     | d y =>
       simp only[Sz]at h;obtain⟨l,ub,E,b⟩:=QH h;refine⟨_,ub,E,by simp[b.len],by simp[b.len2],λj c c' d m f hd=>?_,λz A=>?_,b.nodup,λi j q n v k g=>?_⟩
       ·cases j with
        | zero=>simp at m f hd;subst m;subst f;subst hd;exact .inl ⟨x,y,rfl,rfl,rfl⟩
        | succ j=>exact b.at_ j c c' d (by simpa using m) (by simpa using f) (by simpa using hd)
       ·obtain⟨j,B,sz,e,ys,F,H,p⟩:=b.of z A;exact⟨j+1,B,sz,e,ys,by simpa using F,by simpa using H,p⟩
       ·cases i with
        | zero=>simp at k
        | succ i=>cases j with
          | zero=>simp at g
          | succ j=>rw[b.inj i j q n v (by simpa using k) (by simpa using g)]
   | sl q n =>
     cases c' with
     | sl _ _=>exact h.elim
     | d _=>exact h.elim
     | own sz e ys =>
       simp only[Sz]at h;obtain⟨l,ub,E,b⟩:=QH h;split at E
       ·rename_i s
        have s:=Gx s
        have O:∀(j v:Nat),r[j]?=some (.sl q v)->False:=by
         intro j v g;have I:=A6 g;have F:r'[j]?=some (r'[j]'(by rw[<-b.len];exact I)):=P3 _;have H:l[j]?=some (l[j]'(by rw[b.len2];exact I)):=P3 _;rcases b.at_ j _ _ _ g F H with⟨x,y,p,_⟩|⟨J,B,t,L,u,p,_,_,M⟩
         ·cases p
         ·cases p;exact s _ M rfl
        refine⟨_,_,E,by simp[b.len],by simp[b.len2],λj c c' d m f hd=>?_,λz A=>?_,?_,λi j R v Q k g=>?_⟩
        ·cases j with
         | zero=>simp at m f hd;subst m;subst f;subst hd;exact .inr ⟨q,n,sz,e,ys,rfl,rfl,rfl,wh ..⟩
         | succ j =>
           rcases b.at_ j c c' d (by simpa using m) (by simpa using f) (by simpa using hd)with h|⟨J,B,t,L,u,p,M,T,U⟩
           ·exact .inl h
           ·exact .inr ⟨J,B,t,L,u,p,M,T,vK _ U⟩
        ·rcases List.mem_cons.1 A with rfl|A
         ·exact⟨0,n,sz,e,ys,rfl,rfl,rfl⟩
         ·obtain⟨j,B,t,L,u,F,H,p⟩:=b.of z A;exact⟨j+1,B,t,L,u,by simpa using F,by simpa using H,p⟩
        ·simp only[ul,List.nodup_cons];refine⟨λV=>?_,b.nodup⟩;obtain⟨z,A,e⟩:=List.mem_map.1 V;exact s z A e
        ·cases i with
         | zero=>cases j with
           | zero=>rfl
           | succ j =>
             simp at k g;obtain⟨rfl,rfl⟩:=k;exact(O j Q g).elim
         | succ i=>cases j with
           | zero =>
             simp at k g;obtain⟨rfl,rfl⟩:=g;exact(O i v k).elim
           | succ j=>rw[b.inj i j R v Q (by simpa using k) (by simpa using g)]
       ·exact E.elim
def sT(cl:List C)(i:Nat):Option Nat:=(List.range cl.length).find? λ(j:Nat)=>match cl[j]? with|some (.sl q _)=>q==i|_=>false
theorem mo{b:List C}{i j n:Nat}(d:b[j]?=some (.sl i n))(c:∀(i j:Nat) q n e,b[i]?=some (.sl q n)->b[j]?=some (.sl q e)->i=j):sT b i=some j:=by
 unfold sT
 cases hf:(List.range b.length).find? λ(j:Nat)=>match b[j]? with|some (.sl q _)=>q==i|_=>false with
 | none =>
   rw[wT]at hf;have:=hf j (List.mem_range.2 (A6 d));rw[d]at this;simp at this
 | some j' =>
   have f:=List.find?_some hf;split at f
   ·rename_i q e g
    have:q=i:=by simpa using f
    subst this;rw[c j' j q e n g d]
   ·cases f
theorem fj(h:SimB X G β S a w){g:Option (Nat×Bool)}(hg:Ce g a){c:Call}(ho:o.op=.call c){fo:Operand}(Y:c.callee=.value fo){f:FuncId}(hf:ρOf S g fo=.d (.fn f []))
 {k id n:Nat} {L:List C} (hfind:MD (ρOf S g) c.args.toList 0=some (k,id,n,L)) {K:Hn->Prop}
 (hy:N9 (ρOf S g) k c.args.toList 0 λvs=>IV (σOf S) L λcs=>lj P f vs k cs λO r=>Sz L O λl ub=>if FH id ub=true then K ⟨.d r,ub++[(id,.var l,n)],[]⟩else False):∃e,K e/\Dp P X G S a w o e:=by
 obtain⟨vs,hy,hlen,hargs⟩:=QG h hg hy;obtain⟨cs,hy,V⟩:=PK hy;obtain⟨O,r,hcall,hy⟩:=hy.go;obtain⟨l,ub,hy,F⟩:=QH hy
 obtain⟨hni,hy⟩:FH id ub=true/\K ⟨.d r,ub++[(id,.var l,n)],[]⟩:=by
  split at hy
  ·rename_i Z;exact⟨Z,hy⟩
  ·exact hy.elim
 have hni:=Gx hni;refine⟨_,hy,?_⟩;have hfv:=ρ_sound h hg fo;rw[hf]at hfv;have hfv:Ay (OS β X S) w (a.eval fo) (.fn f []):=hfv
 obtain⟨fvs,hfe,hfs⟩:∃fvs:Array Value,a.eval fo=.func (.func f) #[] fvs/\fvs=#[]:=by
  generalize a.eval fo=v at hfv
  cases hfv with
  | fn _ fvs _ hl _ _=>exact⟨fvs,rfl,by simpa using hl⟩
 subst hfs
 have hrun:(execOp a.eval o).run P w=.ok (.enter f (c.args.map a.eval)) w:=by
  simp only[execOp,ho,resolve,Y,hfe,Deferred.ofValue,Sem.run_bind,Sem.run_pure,Result.andThen_ok,invoke];simp only[xm,Array.append_empty];rw[IL hcall.1]
 obtain⟨kj,x,hkj,hxk,hxr⟩:=QI hfind;obtain rfl:k=kj:=by omega
 have hpv:=ρ_sound h hg x;rw[hxr]at hpv;obtain⟨hbx,hver,b,hβ,hpe⟩:=hpv;have R:=h.boxes id;rw[hbx]at R;obtain⟨b',vals,T,hβ',hh,hvs,hcell⟩:=R;obtain rfl:b'=b:=by rw[hβ]at hβ';simp at hβ';exact hβ'.symm
 have ho1:(Ag S id).box.owned=true:=by rw[hbx];rfl
 have hbb:Ae (β id)=some b':=by rw[hβ];rfl
 have hid:=ND hbx (by simp);have hlt:=h.blk ho1 hbb
 have hcv:∀{j:Nat}{c:C},L[j]?=some c->∃v,vals[j]?=some v:=λ{j c} W=>by
  have:j<vals.size:=by rw[hvs];exact A6 W
  exact⟨vals[j],by simp[this]⟩
 have hcs:∀{j:Nat}{c:C},L[j]?=some c->∃c',cs[j]?=some c':=λ{j c} W=>⟨cs[j]'(by rw[<-V.len];exact A6 W),P3 _⟩
 have Q:∀(j d s:Nat),L[j]?=some (.sl d s)->d≠id/\∃(sz:Nat)(e:TypeId)(xs:List D),cs[j]?=some (.own sz e xs)/\vals[j]?=some (β d)/\(Ag S d).box=.row sz e xs/\(Ag S d).ver=s:=by
  intro j d s W;obtain⟨u,hu⟩:=hcv W;obtain⟨c',t⟩:=hcs W;have hcu:=hcell j u _ hu W;rcases V.at_ j _ _ W t with⟨x,Z,_⟩|⟨rid',rn',i',n',sz,e,xs,Z,rfl,h3⟩
  ·cases Z
  ·cases Z
   have hσ:=σ_sound h hcu;rw[h3]at hσ;obtain⟨hrb,hrv,hru⟩:=hσ
   obtain⟨rfl,rfl⟩:i'=d/\n'=s:=by
    simp only[σOf,res]at h3;split at h3<;>(try (split at h3))<;>cases h3<;>exact⟨rfl,rfl⟩
   refine⟨λe=>?_,sz,e,xs,t,by rw[hu,hru],hrb,hrv⟩;subst e;rw[hbx]at hrb;cases hrb
 have hro:∀{d:Nat}{sz:Nat}{e:TypeId}{xs:List D},(Ag S d).box=.row sz e xs->(Ag S d).box.owned=true:=λh=>by rw[h];rfl
 have M:∀c,Gy vals cs c->∃(j d s:Nat),L[j]?=some (.sl d s)/\(Ag S d).box.owned=true/\Ae (β d)=some c/\d≠id:=by
  rintro c ⟨j,u,sz,e,xs,Z,h2,h3⟩;have hjl:j<L.length:=by rw[V.len];exact A6 h2
  have A:L[j]?=some L[j]:=P3 hjl;rcases V.at_ j _ _ A h2 with⟨x,_,h4⟩|⟨d,s,i',n',sz',e',xs',h4,h5,_⟩
  ·cases h4
  ·rw[h4]at A;obtain⟨k1,sz2,e2,xs2,_,k3,k4,_⟩:=Q j d s A;rw[Z]at k3
   cases k3
   exact⟨j,d,s,A,hro k4,h3,k1⟩
 have hrownblk:∀(j d s c:Nat),L[j]?=some (.sl d s)->Ae (β d)=some c->Gy vals cs c:=by
  intro j d s c W hb;obtain⟨_,sz,e,xs,k2,k3,_,_⟩:=Q j d s W;exact⟨j,_,sz,e,xs,k3,k2,hb⟩
 have hneb:∀c,Gy vals cs c->c≠b':=by
  intro c Y e;subst e;obtain⟨j,d,s,_,h2,h3,h4⟩:=M c Y;exact h4 (h.inj d id c h2 ho1 h3 hbb)
 have hO:∀c,(OS β X S c/\c≠b'/\¬Gy vals cs c)\/c=b'\/Gy vals cs c->OS β X S c:=by
  intro c Y;rcases Y with Y|rfl|Y
  ·exact Y.1
  ·exact .inr (.inr ⟨id,ho1,hbb⟩)
  ·obtain⟨j,d,s,_,h2,h3,_⟩:=M c Y;exact .inr (.inr ⟨d,h2,h3⟩)
 have:=hcall.2 (λc=>OS β X S c/\c≠b'/\¬Gy vals cs c) w (c.args.map a.eval) b' vals (λc Y=>h.os_lt Y.1) (λq l hq=>(h.glob q l hq).mono (BA.of_sub hO)) (by simp[hlen])
  (by
   rw[<-vr];simp only[xb,uu];have:c.args.toList[k]?=some x:=by simpa using hxk
   rw[this];simp[hpe])
  ⟨⟨T,hh⟩,by rw[hvs,V.len],λj v c' hv t=>by
    have hjl:j<L.length:=by rw[V.len];exact A6 t
    have A:L[j]?=some L[j]:=P3 hjl;have hrc:=hcell j v _ hv A;rcases V.at_ j _ _ A t with⟨y,Z,rfl⟩|⟨d,s,i',n',sz,e,xs,Z,rfl,_⟩
    ·rw[Z]at hrc;exact⟨(hrc.1.mono (BA.of_sub hO)).norm,mZ hrc.2⟩
    ·rw[Z]at A;obtain⟨_,sz2,e2,xs2,k2,k3,k4,_⟩:=Q j d s A;rw[t]at k2
     cases k2
     rw[hv]at k3
     cases k3
     have hb2:=h.boxes d;rw[k4]at hb2;obtain⟨l1,l2,rv,l3,l4⟩:=hb2;exact⟨l1,l2,rv,l3,l4.mono (BA.of_sub hO)⟩,hneb,λi j u u' sz e xs sz' e' xs' c' hu hu' hci hcj hbi hbj=>by
    have g:∀(i:Nat) u sz e xs,vals[i]?=some u->cs[i]?=some (.own sz e xs)->∃d s,L[i]?=some (.sl d s)/\u=β d/\(Ag S d).box.owned=true:=by
     intro i u sz e xs hu hci;have hjl:i<L.length:=by rw[V.len];exact A6 hci
     have A:L[i]?=some L[i]:=P3 hjl;rcases V.at_ i _ _ A hci with⟨y,_,Z⟩|⟨d,s,i',n',sz',e',xs',Z,_,_⟩
     ·cases Z
     ·rw[Z]at A;obtain⟨_,sz2,e2,xs2,k2,k3,k4,_⟩:=Q i d s A;rw[hu]at k3;exact⟨d,s,A,uc k3,hro k4⟩
    obtain⟨r1,n1,J,rfl,H⟩:=g i u sz e xs hu hci;obtain⟨r2,n2,N,rfl,g4⟩:=g j u' sz' e' xs' hu' hcj;have:=h.inj r1 r2 c' H g4 hbi hbj;subst this;exact F.inj i j r1 n1 n2 J N⟩ (λc' t hx=>by
    rcases t with rfl|t
    ·exact hx.2.1 rfl
    ·exact hx.2.2 t)
  (λi v y hv hy=>by
   rw[<-vr]at hv;simp only[xb,uu]at hv
   cases hp:c.args.toList[i]? with
   | none=>rw[hp]at hv;cases hv
   | some p =>
     rw[hp]at hv;obtain rfl:a.eval p=v:=by simpa using hv
     exact(hargs i p y hp hy).mono (BA.of_sub hO))
 refine .inr (.inr ⟨f,_,hrun,this.mono λe' w' ⟨v,z,Z,h2,hV',h4,h5⟩=>⟨v,Z,?_⟩⟩);have hsz2:=h2.size;obtain⟨T',hh'⟩:=hV'.cells
 have hvat:∀{j:Nat}{c:C},O[j]?=some c->∃u,z[j]?=some u:=λ{j c} W=>by
  have:j<z.size:=by rw[hV'.size];exact A6 W
  exact⟨z[j],by simp[this]⟩
 have hnd:((ub++[(id,BJ.var l,n)]).map (·.1)).Nodup:=by
  rw[uI,wJ];refine⟨F.nodup,by simp,λp hp q hq e=>?_⟩;obtain⟨y,hy,rfl⟩:=List.mem_map.1 hp;simp at hq;exact hni y hy (by rw[e,hq])
 have hubr:∀y∈ub,∃(j s sz:Nat)(e:TypeId)(ys:List D)(u:Value),L[j]?=some (.sl y.1 s)/\O[j]?=some (.own sz e ys)/\z[j]?=some u/\y=(y.1,BJ.row sz e ys,s+1)/\sT L y.1=some j:=by
  intro y hy;obtain⟨j,s,sz,e,ys,J,H,N⟩:=F.of y hy;obtain⟨u,hu⟩:=hvat H;exact⟨j,s,sz,e,ys,u,J,H,hu,N,mo J F.inj⟩
 let E:Nat->Option (BJ×Nat×Value):=λi=>if i=id then some (.var l,n,β id)else match ub.find? (λy=>y.1==i)with
  | some y=>some (y.2.1,y.2.2,(((sT L i).bind λj=>z[j]?).getD undef))
  | none=>none
 let β':Nat->Value:=λi=>match E i with|some (_,_,v)=>v|none=>β i
 have hEr:∀i B m v,E i=some (B,m,v)->(i=id/\B=.var l/\m=n/\v=β id)\/(i≠id/\∃(j s sz:Nat)(e:TypeId)(ys:List D),L[j]?=some (.sl i s)/\O[j]?=some (.own sz e ys)/\z[j]?=some v/\B=.row sz e ys/\m=s+1):=by
  intro i B m v I;by_cases e:i=id
  ·simp only[E,uk e]at I
   cases I
   exact .inl ⟨e,rfl,rfl,rfl⟩
  ·simp only[E,uo e]at I;split at I
   ·rename_i y hy
    have hy:=RA hy;have e2:y.1=i:=by simpa using hy.2
    obtain⟨j,s,sz,e',ys,u,J,H,N,g4,g5⟩:=hubr y hy.1;rw[e2]at J g5;rw[g5,g4]at I;simp only[ue,N,vT,Option.some.injEq,Prod.mk.injEq]at I;obtain⟨rfl,rfl,rfl⟩:=I;exact .inr ⟨e,j,s,sz,e',ys,J,H,N,rfl,rfl⟩
   ·cases I
 have hEof:∀(j d s:Nat),L[j]?=some (.sl d s)->∃B v,E d=some (B,s+1,v)/\z[j]?=some v:=by
  intro j d s W;obtain⟨hne,_⟩:=Q j d s W;have t:O[j]?=some (O[j]'(by rw[<-F.len];exact A6 W)):=P3 _;have hl':l[j]?=some (l[j]'(by rw[F.len2];exact A6 W)):=P3 _;rcases F.at_ j _ _ _ W t hl' with⟨x,y,J,_⟩|⟨rid',rn',sz,e,ys,J,H,N,g4⟩
  ·cases J
  ·cases J
   obtain⟨u,hu⟩:=hvat t
   have hfind:ub.find? (λy=>y.1==d)=some (d,BJ.row sz e ys,s+1):=by
    cases hf:ub.find? (λy=>y.1==d)with
    | none =>
      rw[wT]at hf;exact absurd (by simp) (hf _ g4)
    | some y =>
      have hy:=RA hf;have:y.1=d:=by simpa using hy.2
      rw[RJ F.nodup hy.1 g4 this]
   refine⟨BJ.row sz e ys,u,?_,hu⟩;simp only[E,uo hne,hfind,mo W F.inj,ue,hu,vT]
 have hS:∀i,Ag (Bh (ub++[(id,.var l,n)]) S) i=match E i with|some (B,m,_)=>⟨(Ag S i).av,B,m⟩|none=>Ag S i:=by
  intro i
  rw[RY _ S i (λy hy=>by
   rcases List.mem_append.1 hy with hy|hy
   ·obtain⟨j,s,sz,e,ys,u,J,_⟩:=hubr y hy;obtain⟨_,_,_,_,_,_,k4,_⟩:=Q j y.1 s J;exact ND k4 (by simp)
   ·simp at hy;subst hy;exact hid) hnd,List.find?_append]
  by_cases e:i=id
  ·subst e
   have:ub.find? (λy=>y.1==i)=none:=by
    rw[wT];intro y hy hh;exact hni y hy (by simpa using hh)
   simp[E,this]
  ·simp only[E,uo e]
   cases hf:ub.find? (λy=>y.1==i)with
   | some y=>rfl
   | none =>
     have:([(id,BJ.var l,n)]:Bx).find? (λy=>y.1==i)=none:=by
      rw[wT];intro y hy hh;simp at hy;subst hy;exact e (by simpa using(by simpa using hh:id=i).symm)
     rw[this];rfl
 have hOS:∀c',OS β' X (Bh (ub++[(id,.var l,n)]) S) c'->(OS β X S c'/\c'≠b'/\¬Gy vals cs c')\/c'=b'\/Gy z O c':=by
  intro c' t;by_cases eb:c'=b'
  ·exact .inr (.inl eb)
  by_cases eu:Gy z O c'
  ·exact .inr (.inr eu)
  have key:OS β X S c'/\¬Gy vals cs c':=by
   have hx:∀i,(Ag S i).box.owned=true->Ae (β i)=some c'->E i=none->¬Gy vals cs c':=by
    intro i hi hb I Y;obtain⟨j,d,s,J,H,N,_⟩:=M c' Y;have:=h.inj i d c' hi H hb N;subst this;obtain⟨B,v,hE',_⟩:=hEof j i s J;rw[I]at hE';cases hE'
   rcases t with t|t|⟨i,hi1,U⟩
   ·refine⟨.inl t,λY=>?_⟩;obtain⟨j,d,s,_,H,N,_⟩:=M c' Y;have h0:=h.o₀ c' t;rcases(h.mine d c' H N).1 with g4|g4
    ·omega
    ·exact h0.2 g4
   ·refine⟨.inr (.inl t),λY=>?_⟩;obtain⟨j,d,s,_,H,N,_⟩:=M c' Y;exact(h.mine d c' H N).2 t
   ·rw[hS]at hi1;have U:Ae (match E i with|some (_,_,v)=>v|none=>β i)=some c':=U
    cases I:E i with
    | none =>
      rw[I]at hi1 U;exact⟨.inr (.inr ⟨i,hi1,U⟩),hx i hi1 U I⟩
    | some q =>
      obtain⟨B,m,v⟩:=q;rw[I]at hi1 U;simp only at U;rcases hEr i B m v I with⟨_,_,_,rfl⟩|⟨_,j,s,sz,e,ys,J,H,N,g4,_⟩
      ·rw[hbb]at U;cases U;exact(eb rfl).elim
      ·exact(eu ⟨j,v,sz,e,ys,N,H,U⟩).elim
  exact .inl ⟨key.1,eb,key.2⟩
 have hsim:SimB X G β' (Bh (ub++[(id,.var l,n)]) S) a w':=by
  refine h.multi E hS (λi=>rfl) (Cr _ _) hsz2 ?_ (λi B m v I=>?_) (λc' t hk=>?_) (λi B m v c' I hB R=>?_) (λi j B m v B2 m2 v2 c' I hE2 hB hB2 R hbv2=>?_) (λhkept hvv i B m v I=>?_)
  ·refine h2.weaken h.hbase λq hq hm hq'=>hm ?_;rcases hq' with rfl|hq'
   ·exact((h.mine id q ho1 hbb).1).resolve_left (by omega)
   ·obtain⟨j,d,s,_,H,N,_⟩:=M q hq';exact((h.mine d q H N).1).resolve_left (by omega)
  ·rcases hEr i B m v I with⟨rfl,_,rfl,rfl⟩|⟨_,j,s,sz,e,ys,J,_,_,_,rfl⟩
   ·exact .inr ⟨hver.symm,rfl,by rw[hbx];simp⟩
   ·obtain⟨_,_,_,_,_,_,_,k5⟩:=Q j i s J;exact .inl (by omega)
  ·refine h2.block c' t λhm=>?_;rcases hm with rfl|hm
   ·exact hk id (.var l) n (β id) (by simp[E]) ho1 hbb
   ·obtain⟨j,d,s,J,H,N,_⟩:=M c' hm;obtain⟨B,v,I,_⟩:=hEof j d s J;exact hk d B (s+1) v I H N
  ·rcases hEr i B m v I with⟨rfl,rfl,rfl,rfl⟩|⟨_,j,s,sz,e,ys,J,H,N,rfl,rfl⟩
   ·exact .inl ⟨i,_,_,_,I,ho1,R⟩
   ·rcases h4 c' ⟨j,v,sz,e,ys,N,H,R⟩with g6|g6
    ·obtain⟨j2,d,rn2,g7,g8,g9,_⟩:=M c' g6;obtain⟨B2,v2,hE2,_⟩:=hEof j2 d rn2 g7;exact .inl ⟨d,B2,_,v2,hE2,g8,g9⟩
    ·exact .inr g6
  ·rcases hEr i B m v I with⟨rfl,rfl,rfl,rfl⟩|⟨_,j1,s,sz,e,ys,J,H,N,rfl,rfl⟩<;>rcases hEr j B2 m2 v2 hE2 with⟨rfl,rfl,rfl,rfl⟩|⟨_,j2,rn2,sz2,e2,ys2,g1',g2',g3',rfl,rfl⟩
   ·rfl
   ·rw[hbb]at R;cases R;exact absurd rfl (hV'.ne b' ⟨j2,v2,sz2,e2,ys2,g3',g2',hbv2⟩)
   ·rw[hbb]at hbv2;cases hbv2;exact absurd rfl (hV'.ne b' ⟨j1,v,sz,e,ys,N,H,R⟩)
   ·have:=hV'.inj j1 j2 v v2 _ _ _ _ _ _ c' N g3' H g2' R hbv2;subst this;rw[J]at g1'
    cases g1';rfl
  ·rcases hEr i B m v I with⟨rfl,rfl,rfl,rfl⟩|⟨_,j,s,sz,e,ys,J,H,N,rfl,rfl⟩
   ·have hβi:β' i=β i:=by show(match E i with|some (_,_,v)=>v|none=>β i)=_;rw[I]
    refine⟨b',z,T',by rw[hβi];exact hβ,hh',by rw[hV'.size,<-F.len,F.len2],λj v c' hv t=>?_⟩;have hjl:j<L.length:=by rw[<-F.len2];exact A6 t
    have A:L[j]?=some L[j]:=P3 hjl;have hcs':O[j]?=some (O[j]'(by rw[<-F.len];exact hjl)):=P3 _;have hg:=hV'.rep j v _ hv hcs';rcases F.at_ j _ _ _ A hcs' t with⟨x,y,J,H,rfl⟩|⟨d,s,sz,e,ys,J,H,rfl,g4⟩
    ·rw[H]at hg;exact⟨hg.1.mono (BA.of_sub hOS),hg.2⟩
    ·rw[J]at A;obtain⟨B,v',hE',hv'⟩:=hEof j d s A;rw[hv]at hv'
     cases hv'
     have hvr:AH (Bh (ub++[(i,.var l,m)]) S) d=s+1:=by simp only[AH,hS,hE']
     exact⟨by rw[hvr];exact uh _,λ_=>by show _=(match E d with|some (_,_,v)=>v|none=>β d);rw[hE']⟩
   ·have hβi:β' i=v:=by show(match E i with|some (_,_,v)=>v|none=>β i)=_;rw[I]
    obtain⟨g4,g5,rv,g6,g7⟩:=hV'.rep j v _ N H;exact⟨g4,g5,rv,by rw[hβi];exact g6,g7.mono (BA.of_sub hOS)⟩
 exact⟨β',hsim,Ay.mono (BA.of_sub hOS) h5,rfl⟩
