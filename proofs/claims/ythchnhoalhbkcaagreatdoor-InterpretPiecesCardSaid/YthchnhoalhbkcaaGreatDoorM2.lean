/- M2 -/
import Derived.Test.YthchnhoalhbkcaaGreatDoorM1
import Derived.Laws.StructEq
import Derived.Laws.Concat
import Derived.Lib.ConvBytes
import Derived.Laws.CopyOwn
import Derived.Laws.OwnMore
import Derived.MapKept
set_option linter.unusedVariables false
set_option linter.unusedSimpArgs false
namespace Go.Abs
open Go.RowKit (Below)
theorem Ak{c p:Prop}[Decidable c](h:if c then p else False):c/\p:=by grind
section
variable {P:Program} {X:Cx} {G:Nat->Prop} {β:Nat->Value} {S:AS} {a:Act} {w:World} {o:Oper}
def R6(X:Cx)(G:Nat->Prop)(S:AS)(a:Act)(e:GJ)(v:Value)(w':World):Prop :=
 ∃β',SimB X G β' (AZ e.bx S) a w'/\JB β' (AG (AZ e.bx S)) (OS β' X (AZ e.bx S)) w' a.tmps v e.av/\e.av.guards=[]
def CW(P:Program)(X:Cx)(G:Nat->Prop)(S:AS)(a:Act)(w:World)(o:Oper)(e:GJ):Prop :=
 (∃v w',(execOp a.eval o).run P w=.ok (.value v) w'/\R6 X G S a e v w') \/
 (∃w',(execOp a.eval o).run P w=.ok .skip w'/\R6 X G S a e undef w') \/
 (∃f args,(execOp a.eval o).run P w=.ok (.enter f args) w/\Calls P f args w λe' w'=>∃v,e'=.returned v/\R6 X G S a e v w')
theorem AK(h:SimB X G β S a w){v:Value}{x:AV}(hrun:(execOp a.eval o).run P w=.ok (.value v) w)
 (hr:JB β (AG S) (OS β X S) w a.tmps v x) (hg:x.guards=[]):CW P X G S a w o ⟨x,[],[]⟩ :=
 .inl ⟨v,w,hrun,β,h,hr,hg⟩
theorem MA{O:Nat->Prop}{tm:Array Value}{v:Value}{r:RV}(h:Ou β O S w v r):JB β (AG S) O w tm v (back r)/\(back r).guards=[]:=by
 cases r with
 | any=>exact⟨trivial,rfl⟩
 | bot=>exact h.elim
 | d x=>exact⟨h,rfl⟩
 | lim sz xs=>exact⟨h,rfl⟩
 | vptr id n o cs=>obtain⟨_,h2,h3⟩:=h;exact⟨⟨ru h2.symm,λ_=>h3⟩,rfl⟩
 | row id n sz e xs=>obtain⟨_,h2,h3⟩:=h;exact⟨⟨ru h2.symm,λ_=>h3⟩,rfl⟩
 | eptr id n sz e xs i o=>obtain⟨_,h2,h3⟩:=h;exact⟨⟨ru h2.symm,λ_=>h3⟩,rfl⟩
 | tup xs=>exact⟨h,rfl⟩
 | cagg xs=>exact⟨h,rfl⟩
 | cfun f xs=>exact⟨h,rfl⟩
 | clo f xs k id n rid rn=>exact⟨h.1,rfl⟩
 | mp id n es=>obtain⟨_,h2,h3⟩:=h;exact⟨⟨ru h2.symm,λ_=>h3⟩,rfl⟩
theorem Ec{O:Nat->Prop}{v:Value}{b:Bool}(h:Aw O w v (.bool b)):v=.bool b:=by cases h;rfl
theorem AJ{O:Nat->Prop}{v:Value}{k:IntKind}{n:Int}(h:Aw O w v (.int k n)):v=.int k n:=by cases h;rfl
theorem Ks{O:Nat->Prop}{v:Value}{s:ByteArray}(h:Aw O w v (.str s)):v=.string s:=by cases h;rfl
theorem Ui{O:Nat->Prop}{v:Value}{x:D}(h:Aw O w v x)(h1:x.one=true):v.oneCell'=true:=by cases h<;>first|rfl|(simp[D.one]at h1)
theorem Yy(h:SimB X G β S a w){g:Option (Nat×Bool)}(hg:BN g a){x:Operand}(ho:o.op=.move x\/o.op=.assign x) :
 CW P X G S a w o ⟨back (ρOf S g x),[],[]⟩:=by
 have hb:=MA (tm:=a.tmps) (ρ_sound h hg x);refine AK h (v:=a.eval x) ?_ hb.1 hb.2;rcases ho with ho|ho<;>simp[execOp,ho]
theorem gF(h:SimB X G β S a w){g:Option (Nat×Bool)}(hg:BN g a){t:Nat}{x y:Operand}(ho:o.op=.pick (.tmp t) x y){c b1 b2:Bool}
 (hc:ρOf S g (.tmp t)=.d (.bool c)) (hx:ρOf S (some (t,true)) x=.d (.bool b1)) (hy:ρOf S (some (t,false)) y=.d (.bool b2)) :
 CW P X G S a w o ⟨.d (.bool (bif c then b1 else b2)),[],[]⟩:=by
 have h1:=ρ_sound h hg (.tmp t);rw[hc]at h1;have e1:=Ec h1
 have ht:a.tmps[t]?=some (.bool c):=by
  simp only[Act.eval,Array.getD]at e1;split at e1
  ·simp_all
  ·simp[undef]at e1
 have hrun:(execOp a.eval o).run P w=.ok (.value (if c then a.eval x else a.eval y)) w:=by simp[execOp,ho,e1,asBool]
 cases c with
 | true =>
   have h2:=ρ_sound h (g:=some (t,true)) (λt' w' e=>by cases e;exact ht) x;rw[hx]at h2;exact AK h (v:=a.eval x) (by grind) h2 rfl
 | false =>
   have h2:=ρ_sound h (g:=some (t,false)) (λt' w' e=>by cases e;exact ht) y;rw[hy]at h2;exact AK h (v:=a.eval y) (by grind) h2 rfl
theorem cY(h:SimB X G β S a w){g:Option (Nat×Bool)}(hg:BN g a){t:Nat}{x y:Operand}(ho:o.op=.pick (.tmp t) x y){c b2:Bool}
 (hc:ρOf S g (.tmp t)=.d (.bool c)) (hx:ρOf S (some (t,true)) x=.bot) (hy:ρOf S (some (t,false)) y=.d (.bool b2)) :
 CW P X G S a w o ⟨.d (.bool b2),[],[]⟩:=by
 have h1:=ρ_sound h hg (.tmp t);rw[hc]at h1;have e1:=Ec h1
 have ht:a.tmps[t]?=some (.bool c):=by
  simp only[Act.eval,Array.getD]at e1;split at e1
  ·simp_all
  ·simp[undef]at e1
 have hrun:(execOp a.eval o).run P w=.ok (.value (if c then a.eval x else a.eval y)) w:=by simp[execOp,ho,e1,asBool]
 cases c with
 | true =>
   have h2:=ρ_sound h (g:=some (t,true)) (λt' w' e=>by cases e;exact ht) x;rw[hx]at h2;exact h2.elim
 | false =>
   have h2:=ρ_sound h (g:=some (t,false)) (λt' w' e=>by cases e;exact ht) y;rw[hy]at h2;exact AK h (v:=a.eval y) (by grind) h2 rfl
theorem cZ(h:SimB X G β S a w){g:Option (Nat×Bool)}(hg:BN g a){t:Nat}{x y:Operand}(ho:o.op=.pick (.tmp t) x y){c b1:Bool}
 (hc:ρOf S g (.tmp t)=.d (.bool c)) (hx:ρOf S (some (t,true)) x=.d (.bool b1)) (hy:ρOf S (some (t,false)) y=.bot) :
 CW P X G S a w o ⟨.d (.bool b1),[],[]⟩:=by
 have h1:=ρ_sound h hg (.tmp t);rw[hc]at h1;have e1:=Ec h1
 have ht:a.tmps[t]?=some (.bool c):=by
  simp only[Act.eval,Array.getD]at e1;split at e1
  ·simp_all
  ·simp[undef]at e1
 have hrun:(execOp a.eval o).run P w=.ok (.value (if c then a.eval x else a.eval y)) w:=by simp[execOp,ho,e1,asBool]
 cases c with
 | true =>
   have h2:=ρ_sound h (g:=some (t,true)) (λt' w' e=>by cases e;exact ht) x;rw[hx]at h2;exact AK h (v:=a.eval x) (by grind) h2 rfl
 | false =>
   have h2:=ρ_sound h (g:=some (t,false)) (λt' w' e=>by cases e;exact ht) y;rw[hy]at h2;exact h2.elim
theorem GK(b off j:Nat):(⟨b,off,none⟩:Addr).add j=⟨b,off+j,none⟩:=by unfold Addr.add;split<;>simp_all
theorem Ty{R:Nat->Value->D->Prop}:∀(cs:List D)(n:Nat),(∀(j:Nat) y,cs[j]?=some y->∃c,R (n+j) c y) ->
 ∃vs:List Value,vs.length=cs.length/\∀(j:Nat) v y,vs[j]?=some v->cs[j]?=some y->R (n+j) v y
 | [],n,_=>by simp_all
 | c :: r,n,h=>by
   obtain⟨v,hv⟩:=h 0 c (by simp);obtain⟨vs,hl,hr⟩:=Ty r (n+1) (λj y hy=>by have:=h (j+1) y (by grind);rwa [show n+(j+1)=n+1+j by omega]at this);refine⟨v :: vs,by simp[hl],λj u y hu hy=>?_⟩;grind
theorem Ov{t:TypeId}(h:M7 P t=some true):(isAgg t).run P w=.ok true w:=by
 unfold M7 at h;unfold isAgg;split at h<;>simp_all[run_underlying]
theorem M8{t:TypeId}(h:M7 P t=some false):(isAgg t).run P w=.ok false w:=by
 unfold M7 at h;unfold isAgg;split at h
 ·simp at h
 ·simp at h
 ·rename_i d hd _ _ hu
  simp only[Sem.run_bind,run_underlying hu,Result.andThen_ok];rfl
 ·simp at h
theorem U9{O:Nat->Prop}{t:TypeId}{cs:List D}{b off:Nat}{K:D->Prop}(hy:bA P t cs K)
 (hc:∀(j:Nat) y,cs[j]?=some y->∃c,w.cell? ⟨b,off+j,none⟩=some c/\Aw O w c y/\y.one=true) :
 ∃x,K x/\∃v,(loadVar t ⟨b,off,none⟩).run P w=.ok v w/\Aw O w v x:=by
 unfold bA at hy;split at hy
 ·rename_i hagg
  split at hy
  ·rename_i i hi
   rw[BI]at hy;split at hy
   ·rename_i hlen
    obtain⟨vs,hl,hr⟩:=Ty (R:=λj c y=>w.cell? ⟨b,off+j,none⟩=some c/\Aw O w c y/\y.one=true) (cs.take i.size) 0
     (λj y hy=>by
      rw[qy];refine hc j y ?_;rw[qB]at hy;split at hy
      ·exact hy
      ·cases hy)
    have hget:∀j,j<vs.length->∃y,(cs.take i.size)[j]?=some y:=λj hj=>⟨_,P2 (by omega)⟩;refine⟨_,hy,.agg vs.toArray,?_,?_⟩
    ·have hld:=run_loadCells_list (P:=P) w ⟨b,off,none⟩ vs (λj v hv=>by
      have hj:j<vs.length:=by grind
      obtain⟨y,hy⟩:=hget j hj;have:=(hr j v y hv hy).1;rw[qy]at this;rw[GK];exact this)
     rw[hl,hlen]at hld;simp[loadVar,Ov hagg,sizeOf,typeInfo,hi,hld]
    ·refine .agg _ _ (by grind) ?_ ?_
     ·intro x hx;obtain⟨j,hj⟩:=List.mem_iff_getElem?.1 hx;grind
     ·grind
   ·grind
  ·grind
 ·rename_i hagg
  split at hy
  ·rename_i y r
   obtain⟨c,h1,h2,_⟩:=hc 0 y (by simp);refine⟨y,hy,c,?_,h2⟩;rw[qY]at h1;simp[loadVar,M8 hagg,run_load,h1]
  ·grind
 ·grind
theorem P4{t:TypeId}{x:Operand}{b off:Nat}{v:Value}(ho:o.op=.load t x)(hx:a.eval x=.pointer (some ⟨b,off,none⟩))
 (hl:(loadVar t ⟨b,off,none⟩).run P w=.ok v w):(execOp a.eval o).run P w=.ok (.value v) w:=by
 simp[execOp,ho,Instr.loadAt,hx,Instr.sureAddr,hl]
theorem Xx{O:Nat->Prop}{v:Value}{cs:List D}(h:Aw O w v (.ptr cs)):∃b off,v=.pointer (some ⟨b,off,none⟩)/\∀(j:Nat) y,cs[j]?=some y->∃c,w.cell? ⟨b,off+j,none⟩=some c/\Aw O w c y/\y.one=true:=by
 cases h with
 | ptr b off _ c hb hO h1 hcell hr=>grind
theorem aP(h:SimB X G β S a w){t:TypeId}{x:Operand}(ho:o.op=.load t x){cs:List D}(hr:Aw (OS β X S) w (a.eval x) (.ptr cs))
 {K:GJ->Prop} (hy:bA P t cs λx=>K ⟨.d x,[],[]⟩):∃e,K e/\CW P X G S a w o e:=by
 obtain⟨b,off,hv,hc⟩:=Xx hr;obtain⟨x',hK,v,hl,hx'⟩:=U9 hy hc;exact⟨_,hK,AK h (P4 ho hv hl) hx' rfl⟩
theorem M4(h:SimB X G β S a w){id:Nat}{cs:List C}(hb:(Af S id).box=.var cs){b:Nat}(hβ:β id=.pointer (some ⟨b,0,none⟩)) :
 ∃vals T,w.heap[b]?=some (.cells vals T (0,0))/\vals.size=cs.length/\∀(j:Nat) v c,vals[j]?=some v->cs[j]?=some c->BQ β (AG S) (OS β X S) w v c:=by
 have hbx:=h.boxes id;rw[hb]at hbx;obtain⟨b',vals,T,h1,h3,h4,h5⟩:=hbx;grind
theorem SV(h:SimB X G β S a w):∀{l:List C},QS (σOf S) l=true->∀c∈l,∀{v:Value},BQ β (AG S) (OS β X S) w v c->v.oneCell'=true
 | [],_,_,hc,_,_=>by grind
 | .d x :: r,hr,c,hc,v,hv=>by
   rcases List.mem_cons.1 hc with rfl|hc
   ·exact Ui hv.1 hv.2
   ·exact SV h (l:=r) hr c hc hv
 | .sl id n :: r,hr,c,hc,v,hv=>by
   simp only[QS]at hr;split at hr
   ·rename_i id' n' sz' e' xs' hs
    rcases List.mem_cons.1 hc with rfl|hc
    ·have hrr:=σ_sound h hv;rw[hs]at hrr;obtain⟨hb,_,hvb⟩:=hrr;have hbx:=h.boxes id';rw[hb]at hbx;obtain⟨_,_,vals,hro,_⟩:=hbx;rw[hvb];rcases hro with⟨_,⟨e1,_⟩|⟨_,_,_,e1,_⟩⟩|⟨_,_,_,e1⟩<;>(rw[e1];rfl)
    ·exact SV h (l:=r) hr c hc hv
   ·cases hr
 | .own _ _ _ :: _,hr,_,_,_,_=>by cases hr
theorem aR(h:SimB X G β S a w){t:TypeId}{x:Operand}(ho:o.op=.load t x){id n off:Nat}{cs:List C}(hr:Ou β (OS β X S) S w (a.eval x) (.vptr id n off cs))
 {K:GJ->Prop} (hy:lD P (σOf S) t (cs.drop off) K):∃e,K e/\CW P X G S a w o e:=by
 obtain⟨hb,_,b,hβ,hv⟩:=hr;obtain⟨vals,T,h3,h4,h5⟩:=M4 h hb hβ;unfold lD at hy;split at hy
 ·rename_i hagg
  split at hy
  ·rename_i i hi
   rw[BI]at hy;obtain⟨hlen,hy⟩:=Ak hy;have hcell:∀(j:Nat) v c,(((vals.toList).drop off).take i.size)[j]?=some v->((cs.drop off).take i.size)[j]?=some c->BQ β (AG S) (OS β X S) w v c:=by grind
   have hvl:(((vals.toList).drop off).take i.size).length=((cs.drop off).take i.size).length:=by grind
   have hrun:(execOp a.eval o).run P w=.ok (.value (.agg (((vals.toList).drop off).take i.size).toArray)) w:=by
    refine P4 ho hv ?_
    have hld:=run_loadCells_list (P:=P) w ⟨b,off,none⟩ (((vals.toList).drop off).take i.size) (λj v hv=>by
     rw[qB]at hv;split at hv
     ·rw[qE]at hv;rw[GK];simp[World.cell?,h3];grind
     ·cases hv)
    rw[hvl,hlen]at hld;simp[loadVar,Ov hagg,sizeOf,typeInfo,hi,hld]
   have data:(Dv (σOf S) ((cs.drop off).take i.size) λl b=>K ⟨.d (.agg l),b,[]⟩)->∃e,K e/\CW P X G S a w o e:=by
    intro hy;obtain⟨l,bx,hK,hF,hfr,hl,hc,hh⟩:=JF h hy;have hrep:=hh (((vals.toList).drop off).take i.size) hvl hcell;obtain⟨k1,k2,k3⟩:=hF.run h;have hL:=hrep.now h hF;refine⟨_,hK,.inl ⟨_,w,hrun,β,k1,?_,rfl⟩⟩;refine .agg _ _ (by grind) (λy hy=>?_) (λj v y hv hy=>(hL.2 j v y (by simpa using hv) hy).1);obtain⟨j,hj⟩:=List.mem_iff_getElem?.1 hy;have hlt:j<(((vals.toList).drop off).take i.size).length:=by grind
    exact(hL.2 j _ y (P2 hlt) hj).2
   split at hy
   ·grind
   ·rcases hy.go with hy|hy
    ·grind
    ·obtain⟨hrows,hK⟩:=Ak hy;refine⟨_,hK,.inl ⟨_,w,hrun,β,h,⟨_,rfl,by simpa using hvl,λj u c hu hc=>?_⟩,rfl⟩⟩;have hcc:=hcell j u c (by grind) hc;exact⟨hcc,SV h hrows c (qn hc) hcc⟩
  ·grind
 ·rename_i hagg
  have key:∀c r,cs.drop off=c :: r->∃v,(execOp a.eval o).run P w=.ok (.value v) w/\BQ β (AG S) (OS β X S) w v c:=by
   intro c r hd
   have hc:cs[off]?=some c:=by
    have:(cs.drop off)[0]?=some c:=by grind
    grind
   have hlt:off<vals.size:=by grind
   have hv':vals[off]?=some vals[off]:=by grind
   refine⟨vals[off],P4 ho hv ?_,h5 off _ c hv' hc⟩;simp[loadVar,M8 hagg,run_load,World.cell?,h3,hlt]
  split at hy
  ·rename_i y r hd
   obtain⟨v,h6,h7⟩:=key _ _ hd;exact⟨_,hy,AK h h6 h7.1 rfl⟩
  ·rename_i id' n' r hd
   obtain⟨v,h6,h7⟩:=key _ _ hd;exact⟨_,hy,AK h h6 h7 rfl⟩
  ·grind
 ·grind
theorem kN(h:SimB X G β S a w){id sz:Nat}{e:TypeId}{xs:List D}(hb:(Af S id).box=.row sz e xs){b m cap:Nat}(hβ:β id=.slice (some ⟨b,0,none⟩) m cap){i:Nat}{x:D}
 (hx:xs[i]?=some x) {j:Nat} {y:D} (hy:x.cells[j]?=some y):∃c,w.cell? ⟨b,i*sz+j,none⟩=some c/\Aw (OS β X S) w c y/\y.one=true:=by
 have hbx:=h.boxes id;rw[hb]at hbx;obtain⟨h1,h2,vals,h3,h4⟩:=hbx;have hpos:0<xs.length:=by grind
 rcases h3 with⟨hlen,⟨hv,h0⟩|⟨g,cap',cur,hv,hbg,hh,hn,hm,hcs,ht⟩⟩|⟨h0,_⟩
 ·omega
 ·rw[hβ]at hv;simp at hv;obtain⟨rfl,rfl,rfl⟩:=hv;have hf:=O1 xs h2 i x j y hx hy;have hlt:i*sz+j<vals.length:=by rw[h4.1];exact A5 hf
  have hu:vals[i*sz+j]?=some vals[i*sz+j]:=P2 hlt;refine⟨vals[i*sz+j],?_,h4.2 _ _ _ hu hf⟩;rw[<-hu,<-ht,ra (by grind)];simp[World.cell?,hh]
 ·omega
theorem aQ(h:SimB X G β S a w){t:TypeId}{x:Operand}(ho:o.op=.load t x){id n sz i off:Nat}{e:TypeId}{xs:List D}(hr:Ou β (OS β X S) S w (a.eval x) (.eptr id n sz e xs i off))
 {K:GJ->Prop} (hy:At xs i λx=>bA P t (x.cells.drop off) λx=>K ⟨.d x,[],[]⟩):∃e,K e/\CW P X G S a w o e:=by
 obtain⟨hb,_,b,m,cap,hβ,hv⟩:=hr;obtain⟨_,y,hy1,hy⟩:=hy.go;simp only[qu]at hy1
 obtain⟨x',hK,v,hl,hx'⟩:=U9 (O:=OS β X S) (w:=w) (b:=b) (off:=i*sz+off) hy (λj y' hy'=>by
  simp only[qE]at hy';have:=kN h hb hβ hy1 hy'
  rwa [<-Nat.add_assoc]at this)
 exact⟨_,hK,AK h (P4 ho hv hl) hx' rfl⟩
theorem Z2{t:TypeId}(h:dx P t=true):P.underlying t=some .bool:=by
 unfold dx at h;grind
def D.sv:D->Value
 | .bool b=>.bool b
 | .int k n=>.int k n
 | .str s=>.string s
 | _=>undef
theorem YK{α:Type}{l:List α}{n:Nat}{x:α}{r:List α}(h:l.take n=x :: r):l=x :: l.drop 1:=by
 cases l with
 | nil=>simp at h
 | cons y q=>cases n with
   | zero=>simp at h
   | succ n=>grind
def JC(O:Nat->Prop)(w:World)(vs:Array Value)(off:Nat)(xs:List D):Prop:=∀(j:Nat) y,xs[j]?=some y->∃v,vs[off+j]?=some v/\Aw O w v y
theorem JC.drop{O:Nat->Prop}{vs:Array Value}{off:Nat}{xs:List D}(h:JC O w vs off xs)(n:Nat):JC O w vs (off+n) (xs.drop n):=by
 intro j y hy;rw[qE]at hy;have:=h (n+j) y hy;grind
theorem bV{t:TypeId}{vs:Array Value}{off:Nat}{xs:List D}{O:Nat->Prop}(h:JC O w vs off xs)(hs:(P.info? t).isSome=true)(hl:AB P t<=xs.length) :
 (M7 P t=some true->(part t vs off).run P w=.ok (.agg (vs.extract off (off+AB P t))) w)/\(M7 P t=some false->∀y r,xs=y :: r->∃v,(part t vs off).run P w=.ok v w/\Aw O w v y):=by
 obtain⟨i,hi⟩:=Option.isSome_iff_exists.1 hs;refine⟨λha=>?_,λha y r hx=>?_⟩
 ·simp[part,Ov ha,sizeOf,typeInfo,hi,AB]
 ·obtain⟨v,h1,h2⟩:=h 0 y (by grind);rw[qY]at h1;exact⟨v,by simp[part,M8 ha,h1],h2⟩
theorem JC.extract{O:Nat->Prop}{vs:Array Value}{off n:Nat}{xs:List D}(h:JC O w vs off xs):JC O w (vs.extract off (off+n)) 0 (xs.take n):=by
 intro j y hy;rw[qB]at hy;split at hy
 ·rename_i hj
  obtain⟨v,h1,h2⟩:=h j y hy;grind
 ·cases hy
theorem ju(n:Nat){t:TypeId}{xs ys:List D}{K:Bool->Prop}(h:aV P n t xs ys K):M7 P t≠none:=by
 cases n with
 | zero=>exact h.elim
 | succ n =>
   unfold aV at h;unfold M7;grind
theorem nN(n:Nat){t:TypeId}{xs ys:List D}{K:Bool->Prop}(ha:M7 P t=some false)(h:aV P n t xs ys K):∃x r y q,xs=x :: r/\ys=y :: q:=by
 cases n with
 | zero=>exact h.elim
 | succ n =>
   unfold aV at h;split at h
   ·grind
   ·grind
   ·grind
   ·rename_i fs hu;unfold M7 at ha;rw[hu]at ha;simp at ha
   ·grind
theorem U4{O:Nat->Prop}:∀(n m:Nat),n<m->∀{t:TypeId}{xs ys:List D}{vs us:Array Value}{K:Bool->Prop},aV P n t xs ys K ->
 (M7 P t=some true->JC O w vs 0 xs->JC O w us 0 ys->∃b,K b/\(Op.equalIn m t (.agg vs) (.agg us)).run P w=.ok b w) /\
 (M7 P t=some false->∀x y r q v u,xs=x :: r->ys=y :: q->Aw O w v x->Aw O w u y->∃b,K b/\(Op.equalIn m t v u).run P w=.ok b w)
 | 0,_,_,t,xs,ys,vs,us,K,h=>h.elim
 | n+1,0,hm,t,xs,ys,vs,us,K,h=>by omega
 | n+1,m+1,hm,t,xs,ys,vs,us,K,h=>by
   unfold aV at h;split at h
   ·rename_i k hu
    refine⟨λha=>by unfold M7 at ha;rw[hu]at ha;simp at ha,λ_ x y r q v u hx hy hv hu'=>?_⟩;subst hx;subst hy;split at h
    ·rename_i k1 a1 _ k2 b1 _ e1 e2
     simp at e1 e2;obtain⟨rfl,_⟩:=e1;obtain⟨rfl,_⟩:=e2;obtain⟨hkk,h6⟩:=Ak h;subst hkk;rw[AJ hv,AJ hu'];exact⟨_,h6,run_equalIn_int w m t _ _ _ _ hu⟩
    ·grind
   ·rename_i hu
    refine⟨λha=>by unfold M7 at ha;rw[hu]at ha;simp at ha,λ_ x y r q v u hx hy hv hu'=>?_⟩;subst hx;subst hy;split at h
    ·rename_i a1 _ b1 _ e1 e2
     simp at e1 e2;obtain⟨rfl,_⟩:=e1;obtain⟨rfl,_⟩:=e2;rw[Ec hv,Ec hu'];exact⟨_,h,run_equalIn_bool' w m t _ _ hu⟩
    ·grind
   ·rename_i hu
    refine⟨λha=>by unfold M7 at ha;rw[hu]at ha;simp at ha,λ_ x y r q v u hx hy hv hu'=>?_⟩;subst hx;subst hy;split at h
    ·rename_i a1 _ b1 _ e1 e2
     simp at e1 e2;obtain⟨rfl,_⟩:=e1;obtain⟨rfl,_⟩:=e2;rw[Ks hv,Ks hu'];exact⟨_,h,run_equalIn_string w m t _ _ hu⟩
    ·grind
   ·rename_i fs hu
    refine⟨λ_ hx hy=>?_,λha=>by unfold M7 at ha;rw[hu]at ha;simp at ha⟩;obtain⟨hok,h⟩:=h
    have hp:P.stoodInHeld t=false/\∀f∈fs.toList,f.name ≠ "_"/\(P.info? f.type).isSome=true/\f.offset+AB P f.type<=xs.length/\f.offset+AB P f.type<=ys.length:=by
     simp only[oL,qX,sY,rQ,decide_eq_true_eq,beq_eq_false_iff_ne]at hok;exact hok
    ·have hf:P.fieldsOf t=fs:=by simp[Program.fieldsOf,hu]
     have key:∀(l:List Field)(K:Bool->Prop),(∀f∈l,f.name ≠ "_"/\(P.info? f.type).isSome=true/\f.offset+AB P f.type<=xs.length/\f.offset+AB P f.type<=ys.length)->List.rec (motive:=λ_=>(Bool->Prop)->Prop) (λK=>K true)
      (λf _ ih K=>aV P n f.type ((xs.drop f.offset).take (AB P f.type)) ((ys.drop f.offset).take (AB P f.type)) λa=>ih λb=>K (a&&b)) l K ->
      ∃b,K b/\(Op.eqFields m vs us l).run P w=.ok b w:=by
      intro l
      induction l with
      | nil=>intro K _ h;exact⟨_,h,rfl⟩
      | cons f r ih =>
        intro K hl h;obtain⟨h1,h2,h3,h4⟩:=hl f (by simp);have h5:=h;have hx':=hx.drop f.offset;have hy':=hy.drop f.offset;rw[qy]at hx' hy';have px:=bV (P:=P) hx' h2 (by grind);have py:=bV (P:=P) hy' h2 (by grind)
        have fld:∃c pv pu,(part f.type vs f.offset).run P w=.ok pv w/\(part f.type us f.offset).run P w=.ok pu w/\(Op.equalIn m f.type pv pu).run P w=.ok c w/\List.rec (motive:=λ_=>(Bool->Prop)->Prop) (λK=>K true)
         (λf _ ih K=>aV P n f.type ((xs.drop f.offset).take (AB P f.type)) ((ys.drop f.offset).take (AB P f.type)) λa=>ih λb=>K (a&&b)) r λb=>K (c&&b):=by
         cases ha:M7 P f.type with
         | none =>
           exact absurd ha (ju n h5)
         | some ag =>
           cases ag with
           | true =>
             obtain⟨c,hc,hr⟩:=(U4 n m (by omega) (vs:=vs.extract f.offset (f.offset+AB P f.type)) (us:=us.extract f.offset (f.offset+AB P f.type)) h5).1 ha hx'.extract hy'.extract;grind
           | false =>
             obtain⟨x0,r0,y0,q0,hx0,hy0⟩:=nN n ha h5;obtain⟨pv,e1,e2⟩:=px.2 ha x0 _ (YK hx0);obtain⟨pu,e3,e4⟩:=py.2 ha y0 _ (YK hy0);obtain⟨c,hc,hr⟩:=(U4 n m (by omega) (vs:=#[]) (us:=#[]) h5).2 ha x0 y0 r0 q0 pv pu hx0 hy0 e2 e4;grind
        obtain⟨c,pv,pu,e1,e2,e3,h6⟩:=fld;obtain⟨b,hb1,hb2⟩:=ih _ (λf hf=>hl f (by simp[hf])) h6;refine⟨c&&b,hb1,?_⟩;simp only[Op.eqFields];rw[qf h1];simp only[Sem.run_bind,e1,e2,e3,Result.andThen_ok]
        cases c with
        | true=>simpa using hb2
        | false=>simp
     obtain⟨b,hb1,hb2⟩:=key _ _ hp.2 h;refine⟨b,hb1,?_⟩;rw[run_equalIn_struct w m t vs us (by grind) hp.1,hf];exact hb2
   ·grind
theorem eh{op:BinOp}{T U:TypeId}{x y:Operand}(ho:o.op=.binOp op T x y U){s t:ByteArray}(ex:a.eval x=.string s)(ey:a.eval y=.string t){K:D->Prop}(hb:ef op s t K) :
 ∃z,K z/\(execOp a.eval o).run P w=.ok (.value z.sv) w/\(∀O':Nat->Prop,∀w':World,Aw O' w' z.sv z):=by
 cases op<;>simp only[ef]at hb<;>first
  | exact hb.elim
  | exact⟨_,hb,by simp[D.sv,execOp,ho,ex,ey,eqGuard,binOp,Op.stringOp],λ_ _=>.bool _⟩
  | (obtain⟨h0,hb⟩:=hb
     refine⟨_,hb,?_,λ_ _=>.str _⟩;simp only[execOp,ho,ex,ey,eqGuard,Sem.run_bind,binOp];simp[D.sv,run_string_add_sum _ s t h0])
theorem cL{op:BinOp}{T U:TypeId}{x y:Operand}(ho:o.op=.binOp op T x y U){O:Nat->Prop}{p q:D}(hx:Aw O w (a.eval x) p)(hy:Aw O w (a.eval y) q)
 {K:D->Prop} (hb:aj P T op p q K) :
 ∃z,K z/\(execOp a.eval o).run P w=.ok (.value z.sv) w/\(∀O':Nat->Prop,∀w':World,Aw O' w' z.sv z):=by
 cases p<;>cases q<;>simp only[aj]at hb
 case bool.bool b1 b2 =>
  have ex:=Ec hx;have ey:=Ec hy;split at hb
  ·rename_i hB
   have hu:=Z2 hB
   cases op<;>first
    | exact hb.elim
    | exact⟨_,hb,by simp[D.sv,execOp,ho,ex,ey,eqGuard,binOp,Op.equal,Op.maxDepth,run_equalIn_bool' w 9999 T b1 b2 hu],λ_ _=>.bool _⟩
  ·grind
 case int.int k m k' n =>
  have ex:=AJ hx;have ey:=AJ hy;have sh:op=.shl\/op=.shr\/(op≠.shl/\op≠.shr):=by grind
  rcases sh with rfl|rfl|⟨hs1,hs2⟩
  ·simp only[UQ]at hb;obtain⟨h0,hb⟩:=hb;have h0':¬n<0:=by omega
   exact⟨_,hb,by simp[D.sv,execOp,ho,ex,ey,eqGuard,binOp,Op.shift,h0'],λ_ _=>.int _ _⟩
  ·simp only[UQ]at hb;obtain⟨h0,hb⟩:=hb;have h0':¬n<0:=by omega
   exact⟨_,hb,by simp[D.sv,execOp,ho,ex,ey,eqGuard,binOp,Op.shift,h0'],λ_ _=>.int _ _⟩
  ·have hb':if k=k' then Ws op k m n K else False:=by cases op<;>first|exact hb|exact absurd rfl hs1|exact absurd rfl hs2
   clear hb;obtain⟨rfl,hb⟩:=Ak hb';clear hb'
   cases op <;>  simp_all
   all_goals first
    | exact hb.elim
    | exact⟨_,hb,by simp[D.sv,execOp,ho,ex,ey,eqGuard,binOp,Op.intArith,Op.intCmp,Op.intBits],λ_ _=>by first|exact .int _ _|exact .bool _⟩
    | (obtain⟨h0,hb⟩:=hb
       exact⟨_,hb,by simp[D.sv,execOp,ho,ex,ey,eqGuard,binOp,Op.intDiv,h0],λ_ _=>.int _ _⟩)
 case str.str s t=>exact eh ho (Ks hx) (Ks hy) hb
 case agg.agg xs ys =>
  obtain⟨hgt,hb⟩:=hb
  ·generalize ex:a.eval x=vx at hx;generalize ey:a.eval y=vy at hy
   cases hx with
   | agg vs _ hl h1 hr =>
     cases hy with
     | agg us _ hl' h1' hr' =>
       have cx:JC O w vs 0 xs:=λj z hz=>⟨vs[j]'(by rw[hl];exact A5 hz),by simp[show j<vs.size by rw[hl];exact A5 hz],hr j _ z (by grind) hz⟩;have cy:JC O w us 0 ys:=λj z hz=>⟨us[j]'(by rw[hl'];exact A5 hz),by simp[show j<us.size by rw[hl'];exact A5 hz],hr' j _ z (by grind) hz⟩;have hga:(eqGuard op T x y (.agg vs) (.agg us)).run P w=.ok () w:=run_eqGuard_agg w op T x y vs us hgt.1
       have agg:∀{K:Bool->Prop},aV P 12 T xs ys K->∃b,K b/\(Op.equalIn 10000 T (.agg vs) (.agg us)).run P w=.ok b w:=by
        intro K hb;exact(U4 12 10000 (by omega) hb).1 hgt.2 cx cy
       cases op<;>first|exact hb.elim|skip
       ·obtain⟨b,hK,hr⟩:=agg hb;refine⟨_,hK,?_,λ_ _=>.bool _⟩;simp only[execOp,ho,ex,ey,Sem.run_bind,hga,Result.andThen_ok,run_eql_struct,hr,Sem.run_pure,D.sv]
       ·obtain⟨b,hK,hr⟩:=agg hb;refine⟨_,hK,?_,λ_ _=>.bool _⟩;simp only[execOp,ho,ex,ey,Sem.run_bind,hga,Result.andThen_ok,run_neq_struct,hr,Sem.run_pure,D.sv]
theorem cR(h:SimB X G β S a w){op:BinOp}{T U:TypeId}{x y:Operand}(ho:o.op=.binOp op T x y U){p q:D}(hx:Aw (OS β X S) w (a.eval x) p)(hy:Aw (OS β X S) w (a.eval y) q)
 {K:GJ->Prop} (hb:aj P T op p q λx=>K ⟨.d x,[],[]⟩):∃e,K e/\CW P X G S a w o e:=by
 obtain⟨z,hK,hrun,hz⟩:=cL ho hx hy hb;exact⟨_,hK,AK h hrun (hz _ _) rfl⟩
theorem gG(h:SimB X G β S a w){op:UnOp}{T:TypeId}{x:Operand}(ho:o.op=.unOp op T x){p:D}(hx:Aw (OS β X S) w (a.eval x) p)
 {K:GJ->Prop} (hb:oy op p λx=>K ⟨.d x,[],[]⟩):∃e,K e/\CW P X G S a w o e:=by
 cases op<;>cases p<;>simp only[oy]at hb
 case not.bool b =>
  have ex:=Ec hx;exact⟨_,hb,AK h (v:=.bool !b) (by simp[execOp,ho,ex,Op.unary]) (.bool _) rfl⟩
 case neg.int k n =>
  have ex:=AJ hx;exact⟨_,hb,AK h (v:=.int k (k.wrap (0-n))) (by simp[execOp,ho,ex,Op.unary,Op.intArith]) (.int _ _) rfl⟩
 case xor.int k n =>
  have ex:=AJ hx;exact⟨_,hb,AK h (v:=.int k (k.wrap (BitVec.ofInt k.bits (if k.signed then -1 else k.max) ^^^ BitVec.ofInt k.bits n).toNat)) (by simp[execOp,ho,ex,Op.unary,Op.intBits]) (.int _ _) rfl⟩
theorem Zl(h:SimB X G β S a w){s t:TypeId}{x:Operand}(ho:o.op=.convert s t x){k k':IntKind}{n:Int}(ht:P.underlying t=some (.int k))(hs:∃d,P.underlying s=some d)
 (hx:Aw (OS β X S) w (a.eval x) (.int k' n)):CW P X G S a w o ⟨.d (.int k (k.wrap n)),[],[]⟩:=by
 have ex:=AJ hx;obtain⟨d,hd⟩:=hs;exact AK h (v:=.int k (k.wrap n)) (by simp[execOp,ho,ex,convert,run_underlying ht,run_underlying hd,Conv.intToInt]) (.int _ _) rfl
theorem Oj{s:TypeId}{x:Operand}{f:Nat}(ho:o.op=.fieldAddr s x f){fields:Array Field}(hu:P.underlying s=some (.struct fields)){fd:Field}(hf:fields[f]?=some fd)
 (hz:0<AB P fd.type) {b off:Nat} (hx:a.eval x=.pointer (some ⟨b,off,none⟩)):(execOp a.eval o).run P w=.ok (.value (.pointer (some ⟨b,off+fd.offset,none⟩))) w:=by
 unfold AB at hz;split at hz
 ·rename_i i hi
  have:i.size≠0:=by omega
  simp[execOp,ho,Instr.fieldAt,run_underlying hu,hf,hx,Instr.sureAddr,fieldPlace,sizeOf,typeInfo,hi,this,GK]
 ·omega
theorem cS(h:SimB X G β S a w){s:TypeId}{x:Operand}{f:Nat}(ho:o.op=.field s x f){fields:Array Field}(hu:P.underlying s=some (.struct fields)){fd:Field}(hf:fields[f]?=some fd)
 {cs:List D} (hx:Aw (OS β X S) w (a.eval x) (.agg cs)) {K:GJ->Prop} (hy:bA P fd.type (cs.drop fd.offset) λx=>K ⟨.d x,[],[]⟩):∃e,K e/\CW P X G S a w o e:=by
 generalize hv:a.eval x=v at hx
 cases hx with
 | agg vs _ hl h1 hr =>
   unfold bA at hy
   have hget:∀(j:Nat) y,(cs.drop fd.offset)[j]?=some y->∃c,vs[fd.offset+j]?=some c/\Aw (OS β X S) w c y:=by
    intro j y hy;simp only[qE]at hy
    have hlt:fd.offset+j<vs.size:=by
     rw[hl];rcases qw (fd.offset+j) cs.length with h|h
     ·exact h
     ·simp[qv h]at hy
    exact⟨vs[fd.offset+j],by simp[hlt],hr _ _ _ (by simp[hlt]) hy⟩
   split at hy
   ·rename_i hagg
    split at hy
    ·rename_i i hi
     rw[BI]at hy;obtain⟨hlen,hy⟩:=Ak hy;have hlen':fd.offset+i.size<=cs.length\/i.size=0:=by simp at hlen;omega
     refine⟨_,hy,AK h (v:=.agg (vs.extract fd.offset (fd.offset+i.size))) ?_ ?_ rfl⟩
     ·simp[execOp,ho,Instr.field,run_underlying hu,hf,hv,asAgg,part,Ov hagg,sizeOf,typeInfo,hi]
     ·refine .agg _ _ (by simp at hlen ⊢;omega) (λy hy=>h1 y (ri (qV hy))) (λj u y hu hy=>?_);rw[qB]at hy;split at hy
      ·obtain⟨c,hc1,hc2⟩:=hget j y hy;rw[Array.getElem?_extract]at hu;split at hu
       ·rw[hc1]at hu;cases hu;exact hc2
       ·cases hu
      ·cases hy
    ·exact hy.elim
   ·rename_i hagg
    split at hy
    ·rename_i y r hd
     obtain⟨c,hc1,hc2⟩:=hget 0 y (by rw[hd];rfl);rw[qY]at hc1;refine⟨_,hy,AK h (v:=c) ?_ hc2 rfl⟩;simp[execOp,ho,Instr.field,run_underlying hu,hf,hv,asAgg,part,M8 hagg,hc1]
    ·exact hy.elim
   ·exact hy.elim
theorem KQ{t:TypeId}(h:0<AB P t):(sizeOf t).run P w=.ok (AB P t) w:=by
 unfold AB at h ⊢;split at h
 ·rename_i i hi
  simp[sizeOf,typeInfo,hi]
 ·omega
theorem T9(h:SimB X G β S a w){t e:TypeId}{x ix:Operand}(ho:o.op=.indexAddr t x ix)(hu:P.underlying t=some (.slice e)){sz:Nat}(hsz:sz=AB P e)(hpos:0<sz){k:IntKind}{i:Int}
 (hi:Aw (OS β X S) w (a.eval ix) (.int k i)) {xs:List D} (hx:Aw (OS β X S) w (a.eval x) (.list sz xs)) {K:GJ->Prop} (hy:At xs i λx=>C0 x.cells λl=>K ⟨.d (.ptr l),[],[]⟩) :
 ∃e,K e/\CW P X G S a w o e:=by
 have ei:=AJ hi;obtain⟨h0,y,hy1,hy⟩:=hy.go;rw[BI]at hy;have hlt:=A5 hy1;generalize hv:a.eval x=v at hx
 cases hx with
 | emp=>grind
 | list b off cap _ _ c hne hb hO hcap hszs h1 hcell hrep =>
   refine⟨_,hy,?_⟩;have hs:(sizeOf e).run P w=.ok sz w:=by rw[hsz]at hpos ⊢;exact KQ hpos
   have hlen:i<(xs.length:Int):=by omega
   refine AK h (v:=.pointer (some ⟨b,off+i.toNat*sz,none⟩)) ?_ ?_ rfl
   ·simp[execOp,ho,Instr.indexAt,ei,asIntOf,hv,run_underlying hu,h0,hlen,hs,GK]
   ·exact Aw.ptr b (off+i.toNat*sz) y.cells (λj=>c i.toNat j) (λ_=>hb) (λ_=>hO) (λz hz=>h1 y (qn hy1) z hz) (λj z hz=>hcell _ _ _ _ hy1 hz) (λj z hz=>hrep _ _ _ _ hy1 hz)
theorem WI(h:SimB X G β S a w){t e:TypeId}{n:Nat}{x ix:Operand}(ho:o.op=.indexAddr t x ix)(hu:P.underlying t=some (.array n e))(hsz:AB P e=1){k:IntKind}{i:Int}
 (hi:Aw (OS β X S) w (a.eval ix) (.int k i)) {cs:List D} (hx:Aw (OS β X S) w (a.eval x) (.ptr cs)) (hn:i<n) {K:GJ->Prop} (hy:At cs i λy=>K ⟨.d (.ptr [y]),[],[]⟩) :
 ∃e,K e/\CW P X G S a w o e:=by
 have ei:=AJ hi;obtain⟨h0,y,hy1,hy⟩:=hy.go;generalize hv:a.eval x=v at hx
 cases hx with
 | ptr b off _ c hb hO h1 hcell hrep =>
   refine⟨_,hy,?_⟩;have hne:cs≠[]:=by grind
   have hs:(sizeOf e).run P w=.ok 1 w:=by rw[<-hsz];exact KQ (by omega)
   refine AK h (v:=.pointer (some ⟨b,off+i.toNat,none⟩)) ?_ ?_ rfl
   ·simp[execOp,ho,Instr.indexAt,Instr.sureAddr,ei,asIntOf,hv,run_underlying hu,h0,hn,hs,GK]
   ·refine Aw.ptr b (off+i.toNat) [y] (λj=>c (i.toNat+j)) (λ_=>hb hne) (λ_=>hO hne) (λz hz=>?_) (λj z hz=>?_) (λj z hz=>?_)
    all_goals grind
theorem VR(h:SimB X G β S a w){t e:TypeId}{n:Nat}{x ix:Operand}(ho:o.op=.indexAddr t x ix)(hu:P.underlying t=some (.array n e))(hpos:0<AB P e){k:IntKind}{i:Int}
 (hi:Aw (OS β X S) w (a.eval ix) (.int k i)) {id m off:Nat} {cs:List C} (hx:Ou β (OS β X S) S w (a.eval x) (.vptr id m off cs)) (h0:0<=i) (hn:i<n) :
 CW P X G S a w o ⟨.ptr id m (off+i.toNat*AB P e),[],[]⟩:=by
 have ei:=AJ hi;obtain⟨hb,hver,bb,hβ,hv⟩:=hx;have hs:(sizeOf e).run P w=.ok (AB P e) w:=KQ hpos;refine AK h (v:=.pointer (some ⟨bb,off+i.toNat*AB P e,none⟩)) ?_ ⟨ru hver.symm,λ_=>⟨bb,hβ,rfl⟩⟩ rfl;simp[execOp,ho,Instr.indexAt,Instr.sureAddr,ei,asIntOf,hv,run_underlying hu,h0,hn,hs,GK]
theorem WH(h:SimB X G β S a w){t e:TypeId}{n:Nat}{x ix:Operand}(ho:o.op=.index t x ix)(hu:P.underlying t=some (.array n e)){k:IntKind}{i:Int}
 (hi:Aw (OS β X S) w (a.eval ix) (.int k i)) {cs:List D} (hx:Aw (OS β X S) w (a.eval x) (.agg cs)) (hpos:0<AB P e) (h0:0<=i) (hn:i<n) {K:GJ->Prop} (hy:bA P e (cs.drop (i.toNat*AB P e)) λx=>K ⟨.d x,[],[]⟩):∃e,K e/\CW P X G S a w o e:=by
 have ei:=AJ hi;generalize hv:a.eval x=v at hx
 cases hx with
 | agg vs _ hl h1 hr =>
   unfold bA at hy
   have hget:∀(j:Nat) y,(cs.drop (i.toNat*AB P e))[j]?=some y->∃c,vs[i.toNat*AB P e+j]?=some c/\Aw (OS β X S) w c y:=by
    intro j y hy;simp only[qE]at hy
    have hlt:i.toNat*AB P e+j<vs.size:=by
     rw[hl];rcases qw (i.toNat*AB P e+j) cs.length with h|h
     ·exact h
     ·simp[qv h]at hy
    exact⟨vs[i.toNat*AB P e+j],by simp[hlt],hr _ _ _ (by simp[hlt]) hy⟩
   split at hy
   ·rename_i hagg
    split at hy
    ·rename_i ii hii
     rw[BI]at hy;obtain⟨hlen,hy⟩:=Ak hy;have hsz:AB P e=ii.size:=by unfold AB;rw[hii]
     rw[hsz]at hget hlen hy;have hlen':i.toNat*ii.size+ii.size<=cs.length\/ii.size=0:=by simp at hlen;omega
     refine⟨_,hy,AK h (v:=.agg (vs.extract (i.toNat*ii.size) (i.toNat*ii.size+ii.size))) ?_ ?_ rfl⟩
     ·simp[execOp,ho,Instr.index,ei,asIntOf,run_underlying hu,hv,h0,hn,part,Ov hagg,sizeOf,typeInfo,hii]
     ·refine .agg _ _ (by simp at hlen ⊢;omega) (λy hy=>h1 y (ri (qV hy))) (λj u y hu hy=>?_);rw[qB]at hy;split at hy
      ·obtain⟨c,hc1,hc2⟩:=hget j y hy;rw[Array.getElem?_extract]at hu;split at hu
       ·rw[hc1]at hu;cases hu;exact hc2
       ·cases hu
      ·cases hy
    ·exact hy.elim
   ·rename_i hagg
    split at hy
    ·rename_i y r hd
     obtain⟨c,hc1,hc2⟩:=hget 0 y (by rw[hd];rfl);rw[qY]at hc1;have hs:(sizeOf e).run P w=.ok (AB P e) w:=KQ hpos;refine⟨_,hy,AK h (v:=c) ?_ hc2 rfl⟩;simp[execOp,ho,Instr.index,ei,asIntOf,run_underlying hu,hv,h0,hn,part,M8 hagg,hs,hc1]
    ·exact hy.elim
   ·exact hy.elim
theorem WJ(h:SimB X G β S a w){t e:TypeId}{x ix:Operand}(ho:o.op=.indexAddr t x ix)(hu:P.underlying t=some (.slice e)){k:IntKind}{i:Int}
 (hi:Aw (OS β X S) w (a.eval ix) (.int k i)) {id n sz:Nat} {e':TypeId} {xs:List D} (hsz:sz=AB P e) (hx:Ou β (OS β X S) S w (a.eval x) (.row id n sz e' xs)) (h0:0<=i) (hlt:i.toNat<xs.length) :
 CW P X G S a w o ⟨.eptr id n sz i.toNat 0,[],[]⟩:=by
 have ei:=AJ hi;obtain⟨hb,hn,hv⟩:=hx;have hbx:=h.boxes id;rw[hb]at hbx;obtain⟨hpos,_,vals,hr,_⟩:=hbx;rcases hr with⟨hlen,⟨hv',h0'⟩|⟨g,cap',cur,hv',_⟩⟩|⟨h0',_⟩
 ·omega
 ·have hs:(sizeOf e).run P w=.ok sz w:=by rw[hsz]at hpos ⊢;exact KQ hpos
  have hlen:i<(xs.length:Int):=by omega
  refine AK h (v:=.pointer (some ⟨g,i.toNat*sz+0,none⟩)) ?_ ⟨ru hn.symm,λ_=>⟨g,_,_,hv',rfl⟩⟩ rfl;simp[execOp,ho,Instr.indexAt,ei,asIntOf,hv,hv',run_underlying hu,h0,hlen,hs,GK]
 ·omega
theorem jm(h:SimB X G β S a w){x:Operand}{t:TypeId}(ho:o.op=.call ⟨.builtin .len,#[x],#[t]⟩){n:Nat}
 (hl:∃ad cap,a.eval x=.slice ad n cap) {e:TypeId} (hu:P.underlying t=some (.slice e)) :
 CW P X G S a w o ⟨.d (.int .i64 n),[],[]⟩:=by
 obtain⟨ad,cap,hl⟩:=hl;refine AK h (v:=.int .i64 n) ?_ (.int _ _) rfl;simp[execOp,ho,resolve,invoke,builtin,Builtin.len_,hl,run_underlying hu,goInt]
theorem gC(h:SimB X G β S a w){x:Operand}{t:TypeId}(ho:o.op=.call ⟨.builtin .len,#[x],#[t]⟩){s:ByteArray}
 (hl:a.eval x=.string s) (hu:P.underlying t=some .string):CW P X G S a w o ⟨.d (.int .i64 s.size),[],[]⟩:=by
 refine AK h (v:=.int .i64 s.size) ?_ (.int _ _) rfl;simp[execOp,ho,resolve,invoke,builtin,Builtin.len_,hl,run_underlying hu,goInt]
theorem T8(h:SimB X G β S a w){x:Operand}{i:Nat}(ho:o.op=.extract x i){xs:List C}(hx:Ou β (OS β X S) S w (a.eval x) (.tup xs)){y:C}(hy:xs[i]?=some y) :
 (∀z,y=.d z->CW P X G S a w o ⟨.d z,[],[]⟩)/\(∀id n,y=.sl id n->CW P X G S a w o ⟨.sl id n,[],[]⟩):=by
 obtain⟨vs,hv,hl,hr⟩:=hx;have hlt:i<vs.size:=by grind
 have hru:(execOp a.eval o).run P w=.ok (.value vs[i]) w:=by simp[execOp,ho,Instr.extract,hv,hlt]
 have hk:=hr i vs[i] y (by simp[hlt]) hy;refine⟨λz e=>?_,λid n e=>?_⟩
 ·subst e;exact AK h hru hk rfl
 ·subst e;exact AK h hru hk rfl
theorem KX(h:SimB X G β S a w){x:Operand}(ho:o.op=.nilCheck x)(hx:(∃ad:Addr,a.eval x=.pointer (some ad))\/∃f cs,a.eval x=.func (.func f) #[] cs){v:AV}(hr:JB β (AG S) (OS β X S) w a.tmps (a.eval x) v)(hg:v.guards=[]) :
 CW P X G S a w o ⟨v,[],[]⟩:=by
 refine AK h (v:=a.eval x) ?_ hr hg;rcases hx with⟨ad,hx⟩|⟨f,cs,hx⟩<;>simp[execOp,ho,hx]
theorem WG(h:SimB X G β S a w){g:Option (Nat×Bool)}(hgd:BN g a){s:TypeId}{x:Operand}{f:Nat}(ho:o.op=.fieldAddr s x f){fields:Array Field}(hu:P.underlying s=some (.struct fields)){fd:Field}(hf:fields[f]?=some fd)
 (hz:0<AB P fd.type) {K:GJ->Prop} (hy:match ρOf S g x with
  | .bot=>K ⟨.bot,[],[]⟩
  | .vptr id n o _=>K ⟨.ptr id n (o+fd.offset),[],[]⟩
  | .d (.ptr cs)=>C0 (cs.drop fd.offset) λl=>K ⟨.d (.ptr l),[],[]⟩
  | .eptr id n sz _ _ i o=>K ⟨.eptr id n sz i (o+fd.offset),[],[]⟩
  | _=>False):∃e,K e/\CW P X G S a w o e:=by
 have hr:=ρ_sound h hgd x;split at hy
 ·rename_i hx;rw[hx]at hr;exact hr.elim
 ·rename_i id n off cs hx
  rw[hx]at hr;obtain⟨_,h2,b,h3,h4⟩:=hr;exact⟨_,hy,AK h (Oj ho hu hf hz h4) ⟨ru h2.symm,λ_=>⟨b,h3,rfl⟩⟩ rfl⟩
 ·rename_i cs hx
  rw[hx]at hr;rw[BI]at hy;have hr:Aw (OS β X S) w (a.eval x) (.ptr cs):=hr;obtain⟨b,off,h1,_⟩:=Xx hr;refine⟨_,hy,AK h (Oj ho hu hf hz h1) ?_ rfl⟩;rw[h1]at hr;exact hr.drop _
 ·rename_i id n sz e xs i off hx
  rw[hx]at hr;obtain⟨_,h2,b,m,cap,h3,h4⟩:=hr;exact⟨_,hy,AK h (Oj ho hu hf hz h4) ⟨ru h2.symm,λ_=>⟨b,m,cap,h3,by rw[Nat.add_assoc]⟩⟩ rfl⟩
 ·grind
theorem Zm(h:SimB X G β S a w){s t:TypeId}{x:Operand}(ho:o.op=.convert s t x){b:ByteArray}(ht:P.underlying t=some .string)(hs:∃d,P.underlying s=some d)
 (hx:Aw (OS β X S) w (a.eval x) (.str b)):CW P X G S a w o ⟨.d (.str b),[],[]⟩:=by
 have ex:=Ks hx;obtain⟨d,hd⟩:=hs;refine AK h (v:=.string b) ?_ (.str _) rfl;simp only[execOp,ho,ex,Sem.run_bind,convert,run_underlying ht,run_underlying hd,Result.andThen_ok];simp_all
theorem WF(h:SimB X G β S a w){s t e:TypeId}{x:Operand}(ho:o.op=.convert s t x){b:ByteArray}(ht:P.underlying t=some (.slice e))(he:P.underlying e=some (.int .u8))(hs:∃d,P.underlying s=some d)
 (hx:Aw (OS β X S) w (a.eval x) (.str b)):CW P X G S a w o ⟨.d (.list 1 ((N4 b).map (D.int .u8))),[],[]⟩:=by
 have ex:=Ks hx;obtain⟨d,hd⟩:=hs;have hbel:Below w.heap.size w (Lib.bytesWorld w e b):=⟨rfl,rfl,rfl,by rw[Lib.bytesWorld_size];omega,λk hk=>Lib.bytesWorld_at_old w e b k hk⟩;have hlen:((N4 b).map (D.int .u8)).length=b.size:=by simp[N4]
 refine .inl ⟨.slice (some ⟨w.heap.size,0,none⟩) b.size (grownCap w b.size 0 e),Lib.bytesWorld w e b,?_,β,h.world hbel,?_,rfl⟩
 ·simp only[execOp,ho,ex,Sem.run_bind,Lib.run_convert_string_bytes w s t e b hd ht he,Result.andThen_ok];rfl
 ·show Aw _ _ _ _;by_cases hne:(N4 b).map (D.int .u8)=[]
  ·have h0:b.size=0:=by rw[<-hlen,hne];rfl
   rw[hne,h0];exact .emp _ _ _
  ·rw[<-hlen];refine .list w.heap.size 0 _ 1 _ (λi _=>.int .u8 (b.data.toList.getD i 0).toNat) hne (by rw[Lib.bytesWorld_size];omega) (λhO=>?_) (by rw[hlen];exact grownCap_ge w _ _ _) ?_ ?_ ?_ ?_
   ·have:=h.os_lt hO;omega
   ·intro y hy;obtain⟨n,_,rfl⟩:=List.mem_map.1 hy;rfl
   ·intro y hy z hz;obtain⟨n,_,rfl⟩:=List.mem_map.1 hy;simp[D.cells]at hz;subst hz;rfl
   ·intro i y j z hy hz;have hi:i<b.size:=by grind
    simp only[ql]at hy;obtain⟨n,_,rfl⟩:=Option.map_eq_some_iff.1 hy
    have hj:j=0:=by
     have:=A5 hz;simp[D.cells]at this;exact this
    subst hj;rw[show 0+i*1+0=i by omega];exact Lib.bytesWorld_cell w e b i hi
   ·intro i y j z hy hz;simp only[ql,N4]at hy;obtain⟨n,hn,rfl⟩:=Option.map_eq_some_iff.1 hy;obtain⟨c,hc,rfl⟩:=Option.map_eq_some_iff.1 hn
    have hj:j=0:=by
     have:=A5 hz;simp[D.cells]at this;exact this
    subst hj;simp[D.cells]at hz;subst hz;rw[qc,hc];exact .int _ _
theorem Zn(h:SimB X G β S a w){t:TypeId}{x ix:Operand}(ho:o.op=.index t x ix)(hu:P.underlying t=some .string){k:IntKind}{i:Int}
 (hi:Aw (OS β X S) w (a.eval ix) (.int k i)) {s:ByteArray} (hx:Aw (OS β X S) w (a.eval x) (.str s)) (h0:0<=i) (hlt:i.toNat<s.size) :
 CW P X G S a w o ⟨.d (.int .u8 (FJ s i)),[],[]⟩:=by
 have ei:=AJ hi;have ex:=Ks hx;have hb:s[i.toNat]?=some (s[i.toNat]'hlt):=by simp[hlt]
 refine AK h (v:=.int .u8 (FJ s i)) ?_ (.int _ _) rfl
 have e:FJ s i=((s[i.toNat]'hlt).toNat:Int):=by
  unfold FJ;congr 2;have hl:i.toNat<s.data.toList.length:=by simp_all
  rw[qc,P2 hl];simp;rfl
 simp[execOp,ho,Instr.index,ei,asIntOf,ex,run_underlying hu,h0,hb,e]
theorem O7(h:SimB X G β S a w){g:Option (Nat×Bool)}(hg:BN g a){y:Option Operand}{dflt:Int}{K:Int->Prop}(hy:cE (ρOf S g) y dflt K) :
 ∃i,K i/\(y=none/\i=dflt\/∃q k,y=some q/\a.eval q=.int k i):=by
 unfold cE at hy;split at hy
 ·grind
 ·rename_i q
  split at hy
  ·rename_i k i hq
   have:=ρ_sound h hg q;rw[hq]at this;exact⟨i,hy,.inr ⟨q,k,rfl,AJ this⟩⟩
  ·grind
theorem KP{k:IntKind}{i:Int}{y:Nat}{code:BoundsCode}(h0:0<=i)(h1:i<=y):(Instr.sliceBound (.int k i) y code).run P w=.ok i.toNat w:=by
 simp[Instr.sliceBound,asIntOf,h0,h1]
theorem SX{isSlice:Bool}{len cap:Nat}{lo hi:Option Operand}{l h:Int}(hl:lo=none/\l=0\/∃q k,lo=some q/\a.eval q=.int k l)(hh:hi=none/\h=len\/∃q k,hi=some q/\a.eval q=.int k h)
 (h0:0<=l) (h1:l<=h) (h2:h<=len) (hc:len<=cap) :
 (Instr.sliceBounds isSlice len cap (lo.map a.eval) (hi.map a.eval) none).run P w=.ok (l.toNat,h.toNat,cap) w:=by
 rcases hl with⟨rfl,rfl⟩|⟨q,k,rfl,hq⟩<;>rcases hh with⟨rfl,rfl⟩|⟨q',k',rfl,hq'⟩
 ·simp[Instr.sliceBounds]
 ·have e:=KP (P:=P) (w:=w) (k:=k') (i:=h) (y:=cap) (code:=if isSlice then .sliceAcap else .sliceAlen) (by omega) (by omega);simp[Instr.sliceBounds,hq',e]
 ·have e:=KP (P:=P) (w:=w) (k:=k) (i:=l) (y:=len) (code:=.sliceB) h0 (by omega);simp[Instr.sliceBounds,hq,e]
 ·have e1:=KP (P:=P) (w:=w) (k:=k') (i:=h) (y:=cap) (code:=if isSlice then .sliceAcap else .sliceAlen) (by omega) (by omega);have e2:=KP (P:=P) (w:=w) (k:=k) (i:=l) (y:=h.toNat) (code:=.sliceB) h0 (by omega);simp[Instr.sliceBounds,hq,hq',e1,e2]
theorem bU{isSlice:Bool}{len cap:Nat}{lo hi:Option Operand}{l h:Int}{m:Operand}{km:IntKind}(hm:a.eval m=.int km h)(hl:lo=none/\l=0\/∃q k,lo=some q/\a.eval q=.int k l)(hh:∃q k,hi=some q/\a.eval q=.int k h)
 (h0:0<=l) (h1:l<=h) (h2:h<=cap) :
 (Instr.sliceBounds isSlice len cap (lo.map a.eval) (hi.map a.eval) (some (a.eval m))).run P w=.ok (l.toNat,h.toNat,h.toNat) w:=by
 obtain⟨q',k',rfl,hq'⟩:=hh;have e0:=KP (P:=P) (w:=w) (k:=km) (i:=h) (y:=cap) (code:=if isSlice then .slice3Acap else .slice3Alen) (by omega) h2;have e1:=KP (P:=P) (w:=w) (k:=k') (i:=h) (y:=h.toNat) (code:=.slice3B) (by omega) (by omega);rcases hl with⟨rfl,rfl⟩|⟨q,k,rfl,hq⟩
 ·simp[Instr.sliceBounds,hq',hm,e0,e1]
 ·have e2:=KP (P:=P) (w:=w) (k:=k) (i:=l) (y:=h.toNat) (code:=.slice3C) h0 (by omega);simp[Instr.sliceBounds,hq,hq',hm,e0,e1,e2]
theorem Zq(h:SimB X G β S a w){t:TypeId}{x:Operand}{lo hi:Option Operand}(ho:o.op=.slice t x lo hi none)(hu:P.underlying t=some .string){s:ByteArray}(hx:Aw (OS β X S) w (a.eval x) (.str s)){l r:Int}
 (hl:lo=none/\l=0\/∃q k,lo=some q/\a.eval q=.int k l) (hh:hi=none/\r=(s.size:Int)\/∃q k,hi=some q/\a.eval q=.int k r) (h0:0<=l) (h1:l<=r) (h2:r<=s.size) :
 CW P X G S a w o ⟨.d (.str (s.extract l.toNat r.toNat)),[],[]⟩:=by
 have ex:=Ks hx;have hb:=SX (P:=P) (w:=w) (a:=a) (isSlice:=false) (len:=s.size) (cap:=s.size) hl hh h0 h1 h2 (qb _);refine AK h (v:=.string (s.extract l.toNat r.toNat)) ?_ (.str _) rfl;simp[execOp,ho,Instr.sliceAt,Instr.slice,ex,run_underlying hu,hb]
theorem eT{α:Type}{xs:List α}{l h:Int}{i:Nat}{y:α}(hy:(LZ xs l h)[i]?=some y):xs[l.toNat+i]?=some y:=by
 unfold LZ at hy;grind
theorem WA{α:Type}{xs:List α}{l h:Int}(h0:0<=l)(h1:l<=h)(h2:h<=xs.length):(LZ xs l h).length=h.toNat-l.toNat:=by
 unfold LZ;simp;omega
theorem X6{O:Nat->Prop}{ad:Option Addr}{sz:Nat}{xs:List D}{len cap m:Nat}(hx:Aw O w (.slice ad len cap) (.list sz xs)){l h:Int}(h0:0<=l)(h1:l<=h)(h2:h<=xs.length)(hm:h.toNat<=m) :
 Aw O w (.slice (if m=l.toNat then ad else ad.map (·.add (l.toNat*sz))) (h.toNat-l.toNat) (m-l.toNat)) (.list sz (LZ xs l h)):=by
 have hcl:=WA h0 h1 h2;by_cases he:h.toNat-l.toNat=0
 ·have:LZ xs l h=[]:=qq (by grind);rw[this,he];exact .emp _ _ _
 ·rw[qi (by omega)]
  cases hx with
  | emp=>grind
  | list b off _ _ _ c hne hb hO hcap hszs h1' hcell hrep =>
    simp only[rO,GK];rw[<-hcl]
    refine Aw.list b (off+l.toNat*sz) (m-l.toNat) sz (LZ xs l h) (λi j=>c (l.toNat+i) j) (by grind) hb hO (by rw[hcl];omega)
     (λy hy=>hszs y (ri (qV hy))) (λy hy=>h1' y (ri (qV hy))) (λi y j z hy hz=>?_) (λi y j z hy hz=>hrep _ _ _ _ (eT hy) hz)
    have:=hcell _ _ _ _ (eT hy) hz;grind
theorem dL{O:Nat->Prop}{v:Value}{sz:Nat}{xs:List D}(h:Aw O w v (.list sz xs)):∃ad cap,v=.slice ad xs.length cap/\xs.length<=cap:=by
 cases h with
 | emp a cap _=>simp_all
 | list b off cap _ _ c hne hb hO hcap _ _ _ _=>grind
theorem Ma(h:SimB X G β S a w){g:Option (Nat×Bool)}(hg:BN g a){t e:TypeId}{x:Operand}{lo hi mx:Option Operand}(ho:o.op=.slice t x lo hi mx)(hu:P.underlying t=some (.slice e)){sz:Nat}(hsz:sz=AB P e)(hpos:0<sz){xs:List D}{bx:Bx}(hF:FZ S [] bx)
 (hx:Aw (OS β X (AZ bx S)) w (a.eval x) (.list sz xs)) {K:GJ->Prop} (hy:LL (ρOf S g) sz xs lo hi mx bx K):∃e,K e/\CW P X G S a w o e:=by
 obtain⟨k1,_,_⟩:=hF.run h;obtain⟨l,hy,hl⟩:=O7 h hg hy;obtain⟨r,hy,hr⟩:=O7 h hg hy;obtain⟨ad,cap,hv,hcap⟩:=dL hx;have hs:(sizeOf e).run P w=.ok sz w:=by rw[hsz]at hpos ⊢;exact KQ hpos
 cases mx with
 | none =>
   obtain⟨⟨h0,h1,h2⟩,hK⟩:=hy;have hb:=SX (P:=P) (w:=w) (a:=a) (isSlice:=true) (len:=xs.length) (cap:=cap) hl hr h0 h1 h2 hcap;rw[hv]at hx;refine⟨_,hK,.inl ⟨_,w,?_,β,k1,X6 (m:=cap) hx h0 h1 h2 (by omega),rfl⟩⟩;simp[execOp,ho,Instr.sliceAt,Instr.slice,hv,run_underlying hu,hb,hs]
 | some m =>
   simp only at hy;split at hy
   ·grind
   rename_i hhi
   split at hy
   ·rename_i km mm hm
    obtain⟨⟨h0,h1,h2,h3⟩,hK⟩:=hy;subst h3;have hmv:=ρ_sound h hg m;rw[hm]at hmv;have hmv:=AJ hmv
    have hr':∃q k,hi=some q/\a.eval q=.int k mm:=by
     grind
    have hb:=bU (P:=P) (w:=w) (a:=a) (isSlice:=true) (len:=xs.length) (cap:=cap) hmv hl hr' h0 h1 (by omega);rw[hv]at hx;have hd:=X6 (m:=mm.toNat) hx h0 h1 h2 (qb _);refine⟨_,hK,.inl ⟨_,w,?_,β,k1,⟨hd,?_⟩,rfl⟩⟩
    ·simp[execOp,ho,Instr.sliceAt,Instr.slice,hv,run_underlying hu,hb,hs]
    ·simp only[RE];rw[WA h0 h1 h2]
   ·grind
theorem Vp(h:SimB X G β S a w){x y:Operand}{ts:Array TypeId}{b:Builtin}(ho:o.op=.call ⟨.builtin b,#[x,y],ts⟩){k k':IntKind}{m n:Int}(hx:Aw (OS β X S) w (a.eval x) (.int k m))(hy:Aw (OS β X S) w (a.eval y) (.int k' n)) :
 (b=.min->CW P X G S a w o ⟨.d (.int k (if n<m then n else m)),[],[]⟩)/\(b=.max->CW P X G S a w o ⟨.d (.int k (if n>m then n else m)),[],[]⟩):=by
 have ex:=AJ hx;have ey:=AJ hy;refine⟨λe=>?_,λe=>?_⟩
 ·subst e;refine AK h (v:=.int k (if n<m then n else m)) ?_ (.int _ _) rfl;simp[execOp,ho,resolve,invoke,builtin,Builtin.min_,Builtin.min2,ex,ey]
 ·subst e;refine AK h (v:=.int k (if n>m then n else m)) ?_ (.int _ _) rfl;simp[execOp,ho,resolve,invoke,builtin,Builtin.max_,Builtin.max2,ex,ey]
end
section lists
variable {O:Nat->Prop} {w:World}
theorem Bl.append{vs us:List Value}{xs ys:List D}(h:Bl O w vs xs)(k:Bl O w us ys):Bl O w (vs++us) (xs++ys):=by
 refine⟨by simp[h.1,k.1],λj v y hv hy=>?_⟩;rcases qw j vs.length with hj|hj
 ·rw[qj hj]at hv;rw[qj (by rw[<-h.1];exact hj)]at hy;exact h.2 j v y hv hy
 ·rw[qg hj]at hv;rw[qg (by rw[<-h.1];exact hj),<-h.1]at hy;exact k.2 _ v y hv hy
theorem Bl.take{vs:List Value}{xs:List D}(h:Bl O w vs xs)(n:Nat):Bl O w (vs.take n) (xs.take n):=by
 refine⟨by simp[h.1],λj v y hv hy=>?_⟩;rw[qB]at hv hy;split at hv
 ·rename_i hj;rw[qf hj]at hy;exact h.2 j v y hv hy
 ·cases hv
theorem Bl.drop{vs:List Value}{xs:List D}(h:Bl O w vs xs)(n:Nat):Bl O w (vs.drop n) (xs.drop n):=by
 refine⟨by simp[h.1],λj v y hv hy=>?_⟩;rw[qE]at hv hy;exact h.2 _ v y hv hy
theorem Bl.nil:Bl O w [] []:=⟨rfl,λj v y h _=>by simp at h⟩
theorem Bl.one{v:Value}{x:D}(h:Aw O w v x)(h1:x.one=true):Bl O w [v] [x]:=by
 refine⟨rfl,λj u y hu hy=>?_⟩;grind
theorem GA{v:Value}{x:D}(h:Aw O w v x):Bl O w v.cells.toList x.cells:=by
 cases h with
 | agg vs xs hl h1 h =>
   refine⟨by simpa [Value.cells,D.cells] using hl,λj v y hv hy=>?_⟩;simp only[Value.cells,qJ]at hv;simp only[D.cells]at hy;grind
 | bool b=>exact Bl.one (.bool b) rfl
 | int k n=>exact Bl.one (.int k n) rfl
 | str s=>exact Bl.one (.str s) rfl
 | fn f vs xs hl h1 h=>exact Bl.one (.fn f vs xs hl h1 h) rfl
 | ptr b off cs c hb hO h1 hcell h=>exact Bl.one (.ptr b off cs c hb hO h1 hcell h) rfl
 | nil a sz=>exact Bl.one (.nil a sz) rfl
 | emp a cap sz=>exact Bl.one (.emp a cap sz) rfl
 | list b off cap sz xs c hne hb hO hcap hsz h1 hcell h=>exact Bl.one (.list b off cap sz xs c hne hb hO hcap hsz h1 hcell h) rfl
theorem Bl.oneCell{vs:List Value}{xs:List D}(h:Bl O w vs xs):∀v∈vs,v.oneCell'=true:=by
 intro v hv;obtain⟨j,hj⟩:=List.mem_iff_getElem?.1 hv
 have hlt:j<xs.length:=by
  rw[<-h.1];grind
 have:=h.2 j v xs[j] hj (P2 hlt);exact Ui this.1 this.2
theorem Fw{α:Type}:∀(cs:List α)(o:Nat)(ys:List α),o<=cs.length->splice cs o ys=cs.take o++ys++cs.drop (o+ys.length)
 | cs,0,ys,_=>by simp[splice]
 | [],o+1,ys,h=>by grind
 | c :: cs,o+1,ys,h=>by
   rw[splice,Fw cs o ys (by grind)];grind
theorem Bl.splice{vs us:List Value}{xs ys:List D}(h:Bl O w vs xs)(k:Bl O w us ys){o:Nat}(ho:o<=xs.length) :
 Bl O w (vs.take o++us++vs.drop (o+us.length)) (splice xs o ys):=by
 rw[Fw _ _ _ ho,k.1];exact((h.take o).append k).append (h.drop _)
end lists
section
variable {P:Program} {X:Cx} {G:Nat->Prop} {β:Nat->Value} {S:AS} {a:Act} {w:World} {o:Oper}
theorem Lm(ob:Obj):Below w.heap.size w (w.alloc ob):=(Below.refl _ _).alloc (qb _) _
theorem ZA(h:SimB X G β S a w){d:Nat}(hd:d<S.length){vals:Array Value}{T:TypeId}{cs:List C}(hl:vals.size=cs.length)(hc:∀(j:Nat) v c,vals[j]?=some v->cs[j]?=some c->BQ β (AG S) (OS β X S) w v c) :
 ∃β',SimB X G β' (AQ S d (.var cs) ((Af S d).ver+1)) a (w.alloc (.cells vals T)) /\
  JB β' (AG (AQ S d (.var cs) ((Af S d).ver+1))) (OS β' X (AQ S d (.var cs) ((Af S d).ver+1))) (w.alloc (.cells vals T)) a.tmps (.pointer (some ⟨w.heap.size,0,none⟩)) (.ptr d ((Af S d).ver+1) 0):=by
 refine⟨Kz β d (.pointer (some ⟨w.heap.size,0,none⟩)),h.rebox (R':=X.R) (λ_ h=>h) hd (.inl (rx _)) (by simp) ((A7.of (Lm _)).weaken h.hbase λ_ _ h=>h) (λb hb _=>heap_alloc_old w _ b hb)
  (λ_ b hb=>⟨.inr (.inl (by simp[Ac]at hb;omega)),λhr=>by simp[Ac]at hb;have:=(h.rs b hr).2;omega⟩) (λk hv=>⟨w.heap.size,vals,T,by simp[Kz],heap_alloc_new w _,hl,λj v c hv' hc'=>(hc j v c hv' hc').mono k hv⟩),?_⟩
 have hv:AG (AQ S d (.var cs) ((Af S d).ver+1)) d=(Af S d).ver+1:=by simp[AG,BP,hd]
 exact⟨by rw[hv];exact qb _,λ_=>⟨w.heap.size,by simp[Kz],rfl⟩⟩
theorem jW(h:SimB X G β S a w){d:Nat}(hd:d<S.length){n:Nat}(hn:(Af S d).ver<n){R':Nat->Prop}(hR:∀b,R' b->X.R b){w':World}(hw:Below w.heap.size w w'){v:Value}{sz:Nat}{e:TypeId}{xs:List D}{vals:List Value}(hsz:0<sz)
 (hs:∀x∈xs,x.cells.length=sz) (hr:Bj w' e sz v xs.length vals) (hb:∀b,Ac v=some b->(w.heap.size<=b\/X.R b)/\¬R' b) (hl:Bl (λb=>OS β X S b\/Ac v=some b) w' vals (xs.flatMap D.cells)) :
 ∃β',SimB (X.less R') G β' (AQ S d (.row sz e xs) n) a w'/\β'=Kz β d v /\
  JB β' (AG (AQ S d (.row sz e xs) n)) (OS β' (X.less R') (AQ S d (.row sz e xs) n)) w' a.tmps v (.sl d n):=by
 refine⟨Kz β d v,h.rebox hR hd (.inl hn) hw.size ((A7.of hw).weaken h.hbase λ_ _ h=>h) (λb hb _=>hw.block b hb) (λ_ b hv=>⟨.inr (hb b hv).1,(hb b hv).2⟩) (λk _=>⟨hsz,hs,vals,?_,?_⟩),rfl,?_⟩
 ·simp only[Kz,if_true];exact hr
 ·refine hl.mono (B0.of_sub λb hb'=>?_);rcases hb' with hb'|hb'|⟨i,h1,h2⟩
  ·exact .inl (.inl hb')
  ·exact .inl (.inr (.inl (hR b hb')))
  ·rw[BP]at h1;split at h1
   ·rename_i e'
    rw[e'.1]at h2;simp[Kz]at h2;exact .inr h2
   ·rename_i e'
    have hi:i≠d:=λhh=>e' ⟨hh,hd⟩;simp[Kz,hi]at h2;exact .inl (.inr (.inr ⟨i,h1,h2⟩))
 ·have hv:AG (AQ S d (.row sz e xs) n) d=n:=by simp[AG,BP,hd]
  exact⟨by rw[hv];exact qb _,λ_=>by simp[Kz]⟩
theorem KH(h:SimB X G β S a w){d:Nat}(hd:d<S.length){w':World}(hw:Below w.heap.size w w'){v:Value}{sz:Nat}{e:TypeId}{xs:List D}{vals:List Value}(hsz:0<sz)
 (hs:∀x∈xs,x.cells.length=sz) (hr:Bj w' e sz v xs.length vals) (hb:∀b,Ac v=some b->w.heap.size<=b) (hl:Bl (λb=>OS β X S b\/Ac v=some b) w' vals (xs.flatMap D.cells)) :
 ∃β',SimB X G β' (AQ S d (.row sz e xs) ((Af S d).ver+1)) a w' /\
  JB β' (AG (AQ S d (.row sz e xs) ((Af S d).ver+1))) (OS β' X (AQ S d (.row sz e xs) ((Af S d).ver+1))) w' a.tmps v (.sl d ((Af S d).ver+1)):=by
 obtain⟨β',h1,_,h2⟩:=jW h hd (n:=(Af S d).ver+1) (rx _) (R':=X.R) (λ_ h=>h) hw hsz hs hr (λb hv=>⟨.inl (hb b hv),λhr=>by have:=(h.rs b hr).2;have:=hb b hv;omega⟩) hl;exact⟨β',h1,h2⟩
theorem Bl.cells{O:Nat->Prop}{vs:List Value}{ys:List D}(h:Bl O w vs ys){n:Nat->Nat}:∀(j:Nat) v c,vs[j]?=some v->(ys.map C.d)[j]?=some c->BQ β n O w v c:=by
 intro j v c hv hc;simp only[ql]at hc
 cases hy:ys[j]? with
 | none=>grind
 | some y=>simp[hy]at hc;subst hc;exact h.2 j v y hv hy
theorem jk(h:SimB X G β S a w){g:Option (Nat×Bool)}(hg:BN g a){d:Nat}(hd:d<S.length){T:TypeId}{x:Operand}(ho:o.op=.box T x){K:GJ->Prop}
 (hy:match ρOf S g x with
  | .row id n _ _ _=>K ⟨.ptr d ((Af S d).ver+1) 0,[(d,.var [.sl id n],(Af S d).ver+1)],[]⟩
  | .cagg l=>K ⟨.ptr d ((Af S d).ver+1) 0,[(d,.var l,(Af S d).ver+1)],[]⟩
  | r=>Yn r λv b=>ZV v.cells λl=>K ⟨.ptr d ((Af S d).ver+1) 0,b++[(d,.var l,(Af S d).ver+1)],[]⟩):∃e,K e/\CW P X G S a w o e:=by
 have hrx:=ρ_sound h hg x;have hrun:(execOp a.eval o).run P w=.ok (.value (.pointer (some ⟨w.heap.size,0,none⟩))) (w.alloc (.cells (a.eval x).cells T)):=by simp[execOp,ho,Instr.box,newVar,newRow]
 split at hy
 ·rename_i id n sz e xs hx
  rw[hx]at hrx;obtain⟨h1,h2,h3⟩:=hrx
  have hone:(a.eval x).cells=#[a.eval x]:=by
   have hb:=h.boxes id;rw[h1]at hb;obtain⟨_,_,vals,hr,_⟩:=hb;rw[h3];rcases hr with⟨_,⟨hv,_⟩|⟨g',cap,cur,hv,_⟩⟩|⟨_,_,ad,hv⟩<;>(rw[hv];rfl)
  obtain⟨β',h4,h5⟩:=ZA h hd (T:=T) (vals:=(a.eval x).cells) (cs:=[.sl id n]) (by grind) (λj v c hv hc=>by
   cases j with
   | zero=>rw[hone]at hv;simp at hv hc;subst hv;subst hc;exact⟨ru h2.symm,λ_=>h3⟩
   | succ j=>simp at hc)
  exact⟨_,hy,.inl ⟨_,_,hrun,β',h4,h5,rfl⟩⟩
 ·rename_i l hx
  rw[hx]at hrx;obtain⟨vs,hv,hl,hc⟩:=hrx;have hcs:(a.eval x).cells=vs:=by rw[hv];rfl
  obtain⟨β',h4,h5⟩:=ZA h hd (T:=T) (vals:=(a.eval x).cells) (cs:=l) (by rw[hcs];exact hl) (λj v c hv hc'=>(hc j v c (by grind) hc').1);exact⟨_,hy,.inl ⟨_,_,hrun,β',h4,h5,rfl⟩⟩
 ·obtain⟨xd,b,hK,hF,hfr,hrep⟩:=Jn (x:=X) (G:=G) (a:=a) hrx hy;rw[P6]at hK;obtain⟨h1,h2,h3⟩:=hF.run h;have hr:=hrep.now h hF;obtain⟨β',h4,h5⟩:=ZA h1 (d:=d) (by rw[Cc];exact hd) (T:=T) (vals:=(a.eval x).cells) (cs:=xd.cells.map .d) (by have:=(GA hr).1;simpa using this) (λj v c hv hc=>(GA hr).cells j v c (by grind) hc);rw[h3.ver]at h4 h5;refine⟨_,hK,.inl ⟨_,_,hrun,β',?_,?_,rfl⟩⟩
  ·simp only[BB,AZ];exact h4
  ·simp only[BB,AZ];exact h5
theorem cA{O:Nat->Prop}{w:World}{v:Value}{x:D}(h:zD v=some x):Aw O w v x/\x.one=true:=by
 unfold zD at h;split at h<;>simp at h<;>subst h
 ·exact⟨.int _ _,rfl⟩
 ·exact⟨.bool _,rfl⟩
 ·exact⟨.str _,rfl⟩
 ·exact⟨.nil _ _,rfl⟩
theorem YP{O:Nat->Prop}{w:World}:∀{vs:List Value}{xs:List D},pi vs=some xs->Bl O w vs xs
 | [],xs,h=>by simp[pi]at h;subst h;exact Bl.nil
 | v :: r,xs,h=>by
   simp only[pi]at h;split at h
   ·rename_i x l hx hl
    simp at h;subst h;have h1:=cA (O:=O) (w:=w) hx;exact(Bl.one h1.1 h1.2).append (YP hl)
   ·cases h
theorem Qa{O:Nat->Prop}{w:World}:∀{vs:List Value}{xs:List D}(ss:List Nat),Bl O w vs xs->Bl O w vs (KV xs ss)
 | vs,[],ss,h=>by simpa [KV] using h
 | [],x :: r,ss,h=>by have:=h.1;simp at this
 | v :: vs,x :: r,[],h=>by cases x<;>simpa [KV] using h
 | v :: vs,x :: r,s :: q,h=>by
   have h0:=h.2 0 v x rfl rfl;have ht:Bl O w vs r:=⟨by simpa using h.1,λj u y hu hy=>h.2 (j+1) u y (by simpa using hu) (by grind)⟩;have ih:=Qa q ht
   cases x<;>simp only[KV]
   case nil s' =>
    have hv:∃ad,v=.slice ad 0 0:=by cases h0.1;exact⟨_,rfl⟩
    obtain⟨ad,rfl⟩:=hv;exact(Bl.one (.nil ad s) rfl).append ih
   all_goals exact(Bl.one h0.1 h0.2).append ih
theorem Hb{O:Nat->Prop}{w:World}{t:TypeId}{l:List D}(h:zeroCells P t=some l):∃i z,P.info? t=some i/\i.zero=some z/\Bl O w z.cells.toList l:=by
 unfold zeroCells at h;split at h
 ·rename_i i hi
  split at h
  ·rename_i z hz
   split at h
   ·rename_i l' hl
    simp at h;subst h;exact⟨i,z,hi,hz,Qa _ (YP hl)⟩
   ·cases h
  ·cases h
 ·cases h
theorem cQ(h:SimB X G β S a w){d:Nat}(hd:d<S.length){T:TypeId}(ho:o.op=.alloc T){l:List D}(hz:zeroCells P T=some l){K:GJ->Prop}
 (hy:ZV l λl=>K ⟨.ptr d ((Af S d).ver+1) 0,[(d,.var l,(Af S d).ver+1)],[]⟩):∃e,K e/\CW P X G S a w o e:=by
 rw[P6]at hy;obtain⟨i,z,hi,hz,hr⟩:=Hb (O:=OS β X S) (w:=w) hz;obtain⟨β',h3,h4⟩:=ZA h hd (T:=T) (vals:=z.cells) (cs:=l.map .d) (by have:=hr.1;simpa using this) (λj v c hv hc=>hr.cells j v c (by grind) hc);refine⟨_,hy,.inl ⟨.pointer (some ⟨w.heap.size,0,none⟩),w.alloc (.cells z.cells T),?_,β',h3,h4,rfl⟩⟩;simp[execOp,ho,Instr.alloc,zeroValue,typeInfo,hi,hz,newVar,newRow]
theorem O6{x:Operand}(h:Na x=true):x=.const (.slice none 0 0):=by
 unfold Na at h;grind
theorem jn(h:SimB X G β S a w){d:Nat}(hd:d<S.length){x:Operand}(ho:o.op=.assign x)(hx:Na x=true){e:TypeId}(hsz:0<AB P e) :
 CW P X G S a w o ⟨.sl d ((Af S d).ver+1),[(d,.row (AB P e) e [],(Af S d).ver+1)],[]⟩:=by
 rw[O6 hx]at ho;obtain⟨β',h3,h4⟩:=KH h hd (Below.refl _ _) (v:=.slice none 0 0) (e:=e) (xs:=[]) (vals:=[]) hsz (λ_ h=>by cases h) (.inl (World.ownsRow_nil w _ e _)) (λb hb=>by simp[Ac]at hb) Bl.nil;exact .inl ⟨_,w,by simp[execOp,ho,Act.eval],β',h3,h4,rfl⟩
theorem NQ{T:TypeId}{p x:Operand}(ho:o.op=.store T p x){b off:Nat}(hp:a.eval p=.pointer (some ⟨b,off,none⟩)){i:TypeInfo}(hi:P.info? T=some i)
 (hc:(a.eval x).cells.size=i.size) {cur:Array Value} {E:TypeId} (hh:w.heap[b]?=some (.cells cur E (0,0))) (hfit:off+(a.eval x).cells.size<=cur.size) (h1:∀v∈(a.eval x).cells.toList,v.oneCell'=true) :
 (execOp a.eval o).run P w=.ok .skip (w.setRow b (cur.toList.take off++(a.eval x).cells.toList++cur.toList.drop (off+(a.eval x).cells.size)).toArray):=by
 have:=run_storeCells_at P b off E (a.eval x).cells.toList 0 cur w hh (by grind) h1;simp only[qY,q8]at this;simp[execOp,ho,Instr.storeAt,hp,Instr.sureAddr,storeVar,sizeOf,typeInfo,hi,hc,this]
theorem Ic{T:TypeId}{i:TypeInfo}(hi:P.info? T=some i):AB P T=i.size:=by simp[AB,hi]
theorem UI(h:SimB X G β S a w){id n:Nat}{cs:List C}(hb:(Af S id).box=.var cs)(hn:(Af S id).ver=n){b:Nat}(hβ:β id=.pointer (some ⟨b,0,none⟩)){vals:Array Value}{E:TypeId}(hh:w.heap[b]?=some (.cells vals E (0,0)))
 (hvl:vals.size=cs.length) (hvc:∀(j:Nat) v c,vals[j]?=some v->cs[j]?=some c->BQ β (AG S) (OS β X S) w v c) {off:Nat} {us:List Value} {ns:List C} (hl:us.length=ns.length) (hfit:off+ns.length<=cs.length)
 (hnew:∀(j:Nat) v c,us[j]?=some v->ns[j]?=some c->BQ β (AG S) (OS β X S) w v c) :
 SimB X G β (AQ S id (.var (splice cs off ns)) n) a (w.setRow b (vals.toList.take off++us++vals.toList.drop (off+us.length)).toArray):=by
 have hid:=MZ hb (by simp);have ho:(Af S id).box.owned=true:=by rw[hb];rfl
 have hbl:Ac (β id)=some b:=by rw[hβ];rfl
 have h5:=h.rebox (R':=X.R) (id:=id) (B:=.var (splice cs off ns)) (v:=β id) (n:=n) (w':=w.setRow b (vals.toList.take off++us++vals.toList.drop (off+us.length)).toArray)
  (λ_ h=>h) hid (.inr ⟨hn.symm,rfl,by rw[hb];simp⟩) (by simp) (A7.setRow _ _ _ (h.mine id b ho hbl).1)
  (λk _ hk=>setRow_other w b k _ (λe=>hk ho (by grind)))
  (λ_ k hk=>⟨.inl ⟨hk,ho⟩,(h.mine id k ho hk).2⟩)
  (λk hv=>by
   rw[FI]at k hv ⊢;refine⟨b,_,E,hβ,setRow_heap w b vals _ E _ hh,?_,λj v c hv' hc=>?_⟩
   ·rw[Fw _ _ _ (by omega)];simp;omega
   ·rw[Fw _ _ _ (by omega)]at hc;simp only[rJ]at hv';refine BQ.mono k hv ?_;have hlen:(vals.toList.take off).length=(cs.take off).length:=by grind
    rcases qw j (cs.take off).length with hj|hj
    ·grind
    ·rw[rN,qg (by grind),hlen]at hv';rw[rN,qg hj]at hc;rcases qw (j-(cs.take off).length) ns.length with hj2|hj2
     ·grind
     ·rw[qg (by grind),qE,hl]at hv';rw[qg hj2,qE]at hc;exact hvc _ v c (by grind) hc)
 rw[FI]at h5;exact h5
theorem kf{t:TypeId}{x:D}(h:x.one=true):(nilT P t x).one=true:=by
 unfold nilT;split
 ·split<;>rfl
 ·exact h
theorem Aw.nilT{O:Nat->Prop}{w:World}{v:Value}{t:TypeId}{y:D}(h:Aw O w v y):Aw O w v (nilT P t y):=by
 unfold Go.Abs.nilT;split
 ·split
  ·cases h;exact .nil _ _
  ·exact h
 ·exact h
theorem Zs(h:SimB X G β S a w){g:Option (Nat×Bool)}(hg:BN g a){T:TypeId}{p x:Operand}(ho:o.op=.store T p x){id n off:Nat}{cs:List C}
 (hp:Ou β (OS β X S) S w (a.eval p) (.vptr id n off cs)) {i:TypeInfo} (hi:P.info? T=some i) {K:GJ->Prop}
 (hy:match M7 P T with
  | some true=>match ρOf S g x with
    | .cagg l=>if l.length=AB P T/\off+l.length<=cs.length then C0 (splice cs off l) λl=>K ⟨.any,[(id,.var l,n)],[]⟩else False
    | r=>Yn r λv b =>
      if v.cells.length=AB P T/\off+v.cells.length<=cs.length then ZV v.cells λl=>C0 (splice cs off l) λl=>K ⟨.any,b++[(id,.var l,n)],[]⟩else False
  | some false=>if AB P T=1/\off<cs.length then match ρOf S g x with
   | .row id' n' _ _ _=>C0 (splice cs off [.sl id' n']) λl=>K ⟨.any,[(id,.var l,n)],[]⟩
   | r=>Yn r λv b=>if v.one=true then C0 (splice cs off [.d (nilT P T v)]) λl=>K ⟨.any,b++[(id,.var l,n)],[]⟩else False
   else False
  | none=>False) :
 ∃e,K e/\CW P X G S a w o e:=by
 obtain⟨hb,hn,blk,hβ,hv⟩:=hp
 have data:∀{v:D}{b:Bx},FZ S [] b->(∀z∈b,∃sz xs,z.2.1=.frow sz xs)->K5 X G β S a w b (λO=>Aw O w (a.eval x) v)->v.cells.length=AB P T->off+v.cells.length<=cs.length ->
  K ⟨.any,b++[(id,.var (splice cs off (v.cells.map .d)),n)],[]⟩->∃e,K e/\CW P X G S a w o e:=by
  intro v b hF hfr hrep hc1 hc2 hK;obtain⟨h1,h2,h3⟩:=hF.run h;have hr:=GA (hrep.now h hF)
  have hsame:(Af (AZ b S) id).box=.var cs:=by
   rw[h3.other id λz hz e=>?_]
   ·exact hb
   ·obtain⟨sz,xs,e2⟩:=hfr z hz;rcases(hF.each z hz).2 with⟨_,_,_,k1,_⟩|⟨_,_,k1,k2,_⟩|⟨k1,k2⟩
    all_goals grind
  have hver:(Af (AZ b S) id).ver=n:=by rw[h3.ver,hn]
  obtain⟨vals,E,hh,hvl,hvc⟩:=M4 h1 hsame hβ;have hcells:(a.eval x).cells.size=v.cells.length:=by have:=hr.1;simpa using this
  have hrun:=NQ (P:=P) ho hv hi (by rw[hcells,hc1,Ic hi]) hh (by grind) hr.oneCell;refine⟨_,hK,.inr (.inl ⟨_,hrun,β,?_,trivial,rfl⟩)⟩;have:=UI h1 hsame hver hβ hh hvl hvc (off:=off) (us:=(a.eval x).cells.toList) (ns:=v.cells.map .d) (by rw[hr.1];simp) (by grind) hr.cells;simp only[BB,AZ];grind
 split at hy
 ·have hrx:=ρ_sound h hg x;split at hy
  ·rename_i l hx
   rw[hx]at hrx;obtain⟨⟨hc1,hc2⟩,hK⟩:=Ak hy;rw[BI]at hK;obtain⟨us,hu,hul,huc⟩:=hrx;have hcs:(a.eval x).cells=us:=by rw[hu];rfl
   obtain⟨vals,E,hh,hvl,hvc⟩:=M4 h hb hβ
   have hone:∀v∈us.toList,v.oneCell'=true:=by
    intro v hv';obtain⟨j,hj⟩:=List.mem_iff_getElem?.1 hv';have hjl:j<l.length:=by grind
    exact(huc j v l[j] (by grind) (P2 hjl)).2
   have hrun:=NQ (P:=P) ho hv hi (by rw[hcs,hul,hc1,Ic hi]) hh (by grind) (by rw[hcs];exact hone);refine⟨_,hK,.inr (.inl ⟨_,hrun,β,?_,trivial,rfl⟩)⟩;have:=UI h hb hn hβ hh hvl hvc (off:=off) (us:=(a.eval x).cells.toList) (ns:=l) (by rw[hcs];simpa using hul) (by simpa using hc2) (λj v c hv' hc=>(huc j v c (by grind) hc).1);simp only[AZ];grind
  ·obtain⟨xd,b,hK,hF,hfr,hrep⟩:=Jn (x:=X) (G:=G) (a:=a) hrx hy;obtain⟨⟨hc1,hc2⟩,hK⟩:=Ak hK;rw[P6,BI]at hK;grind
 ·obtain⟨⟨hs1,hof⟩,hy⟩:=Ak hy;have hrx:=ρ_sound h hg x;split at hy
  ·rename_i id' n' sz e xs hx
   rw[hx]at hrx;rw[BI]at hy;obtain⟨k1,k2,k3⟩:=hrx
   have hone:(a.eval x).cells=#[a.eval x]/\(a.eval x).oneCell'=true:=by
    have hb':=h.boxes id';rw[k1]at hb';obtain⟨_,_,vals,hr,_⟩:=hb';rw[k3];rcases hr with⟨_,⟨hv,_⟩|⟨g',cap,cur,hv,_⟩⟩|⟨_,_,ad,hv⟩<;>(rw[hv];exact⟨rfl,rfl⟩)
   obtain⟨vals,E,hh,hvl,hvc⟩:=M4 h hb hβ;have hrun:=NQ (P:=P) ho hv hi (by rw[hone.1,<-Ic hi,hs1];rfl) hh (by rw[hone.1,hvl];exact hof) (by grind);refine⟨_,hy,.inr (.inl ⟨_,hrun,β,?_,trivial,rfl⟩)⟩
   have:=UI h hb hn hβ hh hvl hvc (off:=off) (us:=(a.eval x).cells.toList) (ns:=[.sl id' n']) (by grind) hof (λj v c hv' hc=>by
    cases j with
    | zero=>rw[hone.1]at hv';simp at hv' hc;subst hv';subst hc;exact⟨ru k2.symm,λ_=>k3⟩
    | succ j=>simp at hc)
   simp only[AZ];grind
  ·obtain⟨xd,b,hK,hF,hfr,hrep⟩:=Jn (x:=X) (G:=G) (a:=a) hrx hy;obtain⟨hone,hK⟩:=Ak hK;rw[BI]at hK
   have hx1:(nilT P T xd).cells=[nilT P T xd]:=by
    have:=kf (P:=P) (t:=T) hone;generalize nilT P T xd=y at this
    cases y<;>first|rfl|simp[D.one]at this
   exact data hF hfr (v:=nilT P T xd) (λB h1 h2 h3 h4=>(hrep B h1 h2 h3 h4).nilT) (by rw[hx1,hs1];rfl) (by grind) (by rw[hx1];exact hK)
 ·grind
theorem Ss{α:Type}:∀(A B:List α)(i:Nat)(ys:List α),splice (A++B) (A.length+i) ys=A++splice B i ys
 | [],B,i,ys=>by simp
 | c :: A,B,i,ys=>by
   rw[s7,qP,show A.length+1+i=(A.length+i)+1 by omega,splice,Ss A B i ys];rfl
theorem bg{sz:Nat}:∀(xs:List D)(i:Nat)(x y:D),(∀x∈xs,x.cells.length=sz)->xs[i]?=some x->y.cells.length=sz ->
 (xs.set i y).flatMap D.cells=splice (xs.flatMap D.cells) (i*sz) y.cells
 | [],i,x,y,_,hx,_=>by grind
 | z :: r,0,x,y,hs,hx,hy=>by
   have hz:z.cells.length=sz:=hs z (by simp);rw[Fw _ _ _ (by simp)];grind
 | z :: r,i+1,x,y,hs,hx,hy=>by
   have hz:z.cells.length=sz:=hs z (by simp);have ih:=bg r i x y (λx hx=>hs x (by simp[hx])) (by grind) hy;rw[List.set_cons_succ,rf,ih,rf,show(i+1)*sz=z.cells.length+i*sz by rw[hz,re];omega,Ss]
theorem Yh(L ys zs:List D)(i o:Nat)(hi:i+ys.length<=L.length)(ho:o+zs.length<=ys.length)(hL:(L.drop i).take ys.length=ys) :
 splice L i (splice ys o zs)=splice L (i+o) zs:=by
 rw[Fw ys o zs (by omega),Fw L i _ (by omega),Fw L (i+o) zs (by omega)];have hlen:(ys.take o++zs++ys.drop (o+zs.length)).length=ys.length:=by grind
 rw[hlen];have e1:L.take (i+o)=L.take i++ys.take o:=by grind
 have e2:L.drop (i+o+zs.length)=ys.drop (o+zs.length)++L.drop (i+ys.length):=by
  have:L.drop i=ys++L.drop (i+ys.length):=by
   conv=>lhs;rw[<-ta ys.length (L.drop i),hL,List.drop_drop]
  rw[show i+o+zs.length=i+(o+zs.length) by omega,<-List.drop_drop,this,List.drop_append_of_le_length ho]
 grind
theorem EP{id:Nat}:∀{b:Bx},Fj id b=true->∀z∈b,z.1≠id
 | [],_,_,h=>by cases h
 | q :: r,hq,z,hz=>by
   simp[Fj]at hq;rcases List.mem_cons.1 hz with rfl|hz
   ·grind
   ·exact EP hq.2 z hz
theorem Zr(h:SimB X G β S a w){g:Option (Nat×Bool)}(hg:BN g a){T:TypeId}{p x:Operand}(ho:o.op=.store T p x){id n sz:Nat}{e:TypeId}{xs:List D}{k off:Nat}
 (hp:Ou β (OS β X S) S w (a.eval p) (.eptr id n sz e xs k off)) {i:TypeInfo} (hi:P.info? T=some i) {K:GJ->Prop}
 (hy:mT (ρOf S g x) λv b=>At xs k λy =>
  if v.cells.length=AB P T/\off+v.cells.length<=y.cells.length/\Fj id b=true then
   match y with
   | .agg cs=>C0 (splice cs off v.cells) λl=>K ⟨.any,b++[(id,.row sz e (xs.set k (.agg l)),n)],[]⟩
   | _=>if v.one then K ⟨.any,b++[(id,.row sz e (xs.set k v),n)],[]⟩else False
  else False) :
 ∃e,K e/\CW P X G S a w o e:=by
 obtain⟨xd,b,hK,hF,hfr,hrep⟩:=U0 (x:=X) (G:=G) (a:=a) (ρ_sound h hg x) hy;obtain⟨_,y,hy1,hK⟩:=hK.go;simp only[qu]at hy1;obtain⟨⟨hc1,hc2,hnr⟩,hK⟩:=Ak hK;obtain⟨h1,h2,h3⟩:=hF.run h;have hr:=GA (hrep.now h hF);obtain⟨hb,hn,blk,m,cap,hβ,hv⟩:=hp;have hsame:(Af (AZ b S) id).box=.row sz e xs:=by rw[h3.other id (EP hnr)];exact hb
 have hver:(Af (AZ b S) id).ver=n:=by rw[h3.ver,hn]
 have hbx:=h1.boxes id;rw[hsame]at hbx;obtain⟨hpos,hszs,vals,hrow,hl⟩:=hbx;have hid:id<S.length:=MZ hb (by simp);have hklt:=A5 hy1;have hysz:y.cells.length=sz:=hszs y (qn hy1)
 obtain⟨y',hy',hK⟩:∃y',(y'.cells=splice y.cells off xd.cells/\y'.cells.length=sz)/\K ⟨.any,b++[(id,.row sz e (xs.set k y'),n)],[]⟩:=by
  have hlen:(splice y.cells off xd.cells).length=sz:=by rw[Fw _ _ _ (by omega)];simp;omega
  cases y with
  | agg cs=>simp only[BI]at hK;exact⟨.agg (splice cs off xd.cells),⟨rfl,hlen⟩,hK⟩
  | bool _|int _ _|str _|fn _ _|ptr _|nil _|list _ _ =>
    obtain⟨hone,hK2⟩:=Ak (show(if xd.one=true then K ⟨.any,b++[(id,.row sz e (xs.set k xd),n)],[]⟩else False)from hK);have hx1:xd.cells=[xd]:=by cases xd<;>first|rfl|simp[D.one]at hone
    rw[hx1]at hc2;have hc2':off+1<=1:=hc2;have ho0:off=0:=by omega
    subst ho0;refine⟨xd,⟨?_,?_⟩,hK2⟩
    ·rw[hx1];rfl
    ·rw[hx1];exact hysz
 rcases hrow with⟨hlen,⟨hv',h0⟩|⟨gb,cap',cur,hv',hbg,hh,hnc,hm,hcs,ht⟩⟩|⟨h0,_⟩
 ·omega
 ·have hβb:=hβ;rw[hv']at hβb;simp at hβb;obtain⟨rfl,rfl,rfl⟩:=hβb;have hcells:(a.eval x).cells.size=xd.cells.length:=by have:=hr.1;simpa using this
  have hle:k*sz+sz<=xs.length*sz:=by rw[<-Nat.succ_mul];exact qU _ hklt
  have hle2:xs.length*sz<=cur.size:=by rw[hcs];exact qU _ hnc
  have hfit:k*sz+off+(a.eval x).cells.size<=cur.size:=by rw[hcells];omega
  have hrun:=NQ (P:=P) ho hv hi (by rw[hcells,hc1,Ic hi]) hh hfit hr.oneCell;refine⟨_,hK,.inr (.inl ⟨_,hrun,?_⟩)⟩;have hflat:=Ex xs hszs
  have hsp:(xs.set k y').flatMap D.cells=splice (xs.flatMap D.cells) (k*sz+off) xd.cells:=by
   rw[bg xs k y y' hszs hy1 hy'.2,hy'.1];refine Yh _ _ _ _ _ (by rw[hflat,hysz];exact hle) hc2 ?_;apply r7;intro j;rw[qB];split
   ·rename_i hj
    rw[qE,O1 xs hszs k y j _ hy1 (P2 hj),P2 hj]
   ·rename_i hj
    rw[qv (by omega)]
  have hcap0:cap'≠0:=by omega
  have hown:(Af (AZ b S) id).box.owned=true:=by rw[hsame];rfl
  have hbl:Ac (β id)=some gb:=by rw[hv'];simp[Ac,hcap0]
  have h5:=h1.rebox (R':=X.R) (id:=id) (B:=.row sz e (xs.set k y')) (v:=β id) (n:=n)
   (w':=w.setRow gb (cur.toList.take (k*sz+off)++(a.eval x).cells.toList++cur.toList.drop (k*sz+off+(a.eval x).cells.size)).toArray)
   (λ_ h=>h) (by rw[Cc];exact hid) (.inr ⟨hver.symm,rfl,by rw[hsame];simp⟩) (by simp) (A7.setRow _ _ _ (h1.mine id gb hown hbl).1)
   (λq _ hk=>setRow_other w gb q _ (λe=>hk hown (by rw[hbl,e])))
   (λ_ q hq=>⟨.inl ⟨hq,hown⟩,(h1.mine id q hown hq).2⟩)
   (λkp _=>by
    rw[FI]at kp ⊢;refine⟨hpos,?_,vals.take (k*sz+off)++(a.eval x).cells.toList++vals.drop (k*sz+off+(a.eval x).cells.toList.length),.inl ⟨?_,.inr ⟨gb,cap',_,by rw[hv'];simp,hbg,setRow_heap w gb cur _ e _ hh,?_,hm,?_,?_⟩⟩,?_⟩
    ·intro z hz;rcases List.mem_or_eq_of_mem_set hz with hz|hz
     ·exact hszs z hz
     ·rw[hz];exact hy'.2
    ·simp only[qz,qL,rj,sx,q8];omega
    ·simpa using hnc
    ·simp only[r9,qz,qL,rj,q8];omega
    ·simp only[sx];rw[<-ht];apply r7;intro j;simp only[qB,List.getElem?_append,qE,qz,qL,q8];split
     ·rename_i hj
      repeat' split
      all_goals first
       | rfl
       | omega
       | (congr 1;omega)
       | (rw[qf (by omega)];congr 1;omega)
     ·rename_i hj
      repeat' split
      all_goals first
       | rfl
       | omega
       | (rw[qv];simp;omega)
       | (rw[qi (by omega)])
    ·rw[hsp];exact(hl.splice hr (o:=k*sz+off) (by rw[hflat];omega)).mono kp)
  rw[FI]at h5;refine⟨β,?_,trivial,rfl⟩;simp only[BB,AZ];exact h5
 ·omega
end
section
variable {P:Program} {X:Cx} {G:Nat->Prop} {β:Nat->Value} {S:AS} {a:Act} {w:World} {o:Oper}
theorem TD(off:Nat):∀(vs:List Value)(n:Nat)(cells:Array Value),off+n+vs.length<=cells.size ->
 ((vs.zipIdx n).foldl (λ(cs:Array Value)(x:Value×Nat)=>cs.setIfInBounds (off+x.2) x.1) cells).toList=cells.toList.take (off+n)++vs++cells.toList.drop (off+n+vs.length)
 | [],n,cells,_=>by simp
 | v :: r,n,cells,h=>by
   simp only[qP]at h;rw[List.zipIdx_cons,List.foldl_cons,TD off r (n+1) (cells.setIfInBounds (off+n) v) (by grind)];have e:=list_seg_step cells.toList (off+n) v r (by grind);simp only[rq];rw[show off+(n+1)=off+n+1 by omega]
   simpa using e
def Qg(O:Nat->Prop)(w:World):List (Nat×Value)->List (Nat×D)->Prop
 | [],[]=>True
 | (i,v) :: r,(j,x) :: s=>i=j/\Aw O w v x/\Qg O w r s
 | _,_=>False
theorem WP{O:Nat->Prop}{w:World}{place:Nat->Option (Nat×Nat)}:∀{pv:List (Nat×Value)}{ps:List (Nat×D)}{cells:Array Value}{cs l:List D},Qg O w pv ps->Bl O w cells.toList cs->WN place cs ps=some l ->
 ∃arr,Instr.fill place cells pv=some arr/\Bl O w arr.toList l
 | [],[],cells,cs,l,_,hc,hf=>by simp[WN]at hf;subst hf;exact⟨cells,rfl,hc⟩
 | (i,v) :: r,(j,x) :: s,cells,cs,l,hp,hc,hf=>by
   obtain⟨rfl,hv,hp⟩:=hp;simp only[WN]at hf;split at hf
   ·cases hf
   ·rename_i off size hpl
    split at hf
    ·rename_i hcond
     have hcl:=GA hv;have hsz:v.cells.size=x.cells.length:=by simpa using hcl.1
     have hcs:cells.size=cs.length:=by simpa using hc.1
     have hfold:=TD off v.cells.toList 0 cells (by grind);simp only[qY]at hfold
     have hrep:Bl O w (v.cells.zipIdx.foldl (λcs (x:Value×Nat)=>cs.setIfInBounds (off+x.2) x.1) cells).toList (splice cs off x.cells):=by
      rw[<-Array.foldl_toList,Array.toList_zipIdx,hfold];exact hc.splice hcl (by omega)
     obtain⟨arr,h1,h2⟩:=WP hp hrep hf;refine⟨arr,?_,h2⟩;simp only[Instr.fill,hpl];grind
    ·cases hf
 | [],_ :: _,_,_,_,hp,_,_=>hp.elim
 | (_,_) :: _,[],_,_,_,hp,_,_=>hp.elim
theorem Ub(h:SimB X G β S a w){g:Option (Nat×Bool)}(hg:BN g a):∀{parts:List (Nat×Operand)}{K:List (Nat×D)->Bx->Prop},LG (ρOf S g) parts K ->
 ∃ps b,K ps b/\FZ S [] b/\K5 X G β S a w b λO=>Qg O w (parts.map λx=>(x.1,a.eval x.2)) ps
 | [],K,hy=>⟨[],[],hy,trivial,λ_ _ _ _ _=>trivial⟩
 | (i,x) :: r,K,hy=>by
   obtain⟨xd,b,hK,hF,_,hrep⟩:=Jn (x:=X) (G:=G) (a:=a) (ρ_sound h hg x) hy;obtain⟨ps,bs,hK,hFs,hreps⟩:=Ub h hg hK;exact⟨_,_,hK,hF.append hFs,(hrep.and hreps).mono (λ_ h=>h) λO h=>⟨rfl,h.1,h.2⟩⟩
theorem Ud(h:SimB X G β S a w){g:Option (Nat×Bool)}(hg:BN g a):∀{parts:List (Nat×Operand)}{K:List (Nat×D)->Bx->Prop},Nh (ρOf S g) parts K ->
 ∃ps b,K ps b/\FZ S [] b/\K5 X G β S a w b λO=>Qg O w (parts.map λx=>(x.1,a.eval x.2)) ps
 | [],K,hy=>⟨[],[],hy,trivial,λ_ _ _ _ _=>trivial⟩
 | (i,x) :: r,K,hy=>by
   obtain⟨xd,b,hK,hF,_,hrep⟩:=U0 (x:=X) (G:=G) (a:=a) (ρ_sound h hg x) hy;obtain⟨ps,bs,hK,hFs,hreps⟩:=Ud h hg hK;exact⟨_,_,hK,hF.append hFs,(hrep.and hreps).mono (λ_ h=>h) λO h=>⟨rfl,h.1,h.2⟩⟩
theorem X0{fields:List Field}(h:fields.all (λf=>(P.info? f.type).isSome)=true) :
 (fields.mapM λ(f:Field)=>(do pure (f.offset,<-sizeOf f.type):Sem (Nat×Nat))).run P w=.ok (fields.map λ(f:Field)=>(f.offset,AB P f.type)) w:=by
 induction fields with
 | nil=>simp
 | cons f r ih =>
   simp only[List.all_cons,qX]at h;obtain⟨h1,h2⟩:=h
   cases hi:P.info? f.type with
   | none=>grind
   | some i =>
     have ih':=ih h2;simp only[s4,Sem.run_bind,sizeOf,typeInfo,run_program,Result.andThen_ok,hi,Sem.run_pure,qk,AB]at ih' ⊢;rw[ih'];simp
theorem WE(h:SimB X G β S a w){g:Option (Nat×Bool)}(hg:BN g a){t:TypeId}{parts:Array (Nat×Operand)}(ho:o.op=.build t parts){fields:Array Field}(hu:P.underlying t=some (.struct fields))
 {zd:List D} (hzd:zeroCells P t=some zd) (hall:fields.toList.all (λf=>(P.info? f.type).isSome)=true) {K:GJ->Prop}
 (hy:LG (ρOf S g) parts.toList λps b=>match WN (λi=>match fields[i]? with|some f=>some (f.offset,AB P f.type)|none=>none) zd ps with
  | some l=>C0 l λl=>K ⟨.d (.agg l),b,[]⟩
  | none=>False):∃e,K e/\CW P X G S a w o e:=by
 obtain⟨ps,b,hK,hF,hrep⟩:=Ub h hg hy;obtain⟨h1,h2,_⟩:=hF.run h;have hp:=hrep.now h hF;split at hK
 ·rename_i l hl
  rw[BI]at hK;obtain⟨i,z,hi,hz,hzr⟩:=Hb (O:=OS β X (AZ b S)) (w:=w) hzd;obtain⟨arr,h3,h4⟩:=WP hp hzr hl;have hplace:(λ(i:Nat)=>match (fields[i]?:Option Field)with|some f=>some (f.offset,AB P f.type)|none=>none)=λi=>(fields.map λ(f:Field)=>(f.offset,AB P f.type))[i]?:=by grind
  rw[hplace]at h3
  have hpl:(fields.mapM λ(f:Field)=>(do pure (f.offset,<-sizeOf f.type):Sem (Nat×Nat))).run P w=.ok (fields.map λ(f:Field)=>(f.offset,AB P f.type)) w:=by
   rw[sE,Sem.run_map,X0 hall];simp only[Result.andThen_ok];congr 1;grind
  refine⟨_,hK,.inl ⟨.agg arr,w,?_,β,h1,?_,rfl⟩⟩
  ·simp only[execOp,ho,Instr.build,Sem.run_bind,zeroValue,typeInfo,run_program,hi,hz,Result.andThen_ok,Sem.run_pure,run_underlying hu,hpl,s9];rw[h3];simp
  ·refine .agg _ _ (by simpa using h4.1) (λy hy=>?_) (λj v y hv hy=>(h4.2 j v y (by grind) hy).1);obtain⟨j,hj⟩:=List.mem_iff_getElem?.1 hy;have hlt:j<arr.toList.length:=by rw[h4.1];exact A5 hj
   exact(h4.2 j _ y (P2 hlt) hj).2
 ·grind
theorem WO{sz:Nat}:∀(pv:List (Nat×Value))(k:Nat)(cells:Array Value),(∀(j:Nat) x,pv[j]?=some x->x.1=k+j/\x.2.cells.size=sz)->cells.size=(k+pv.length)*sz ->
 ∃arr,Instr.fill (λi=>some (i*sz,sz)) cells pv=some arr/\arr.toList=cells.toList.take (k*sz)++pv.flatMap (λx=>x.2.cells.toList)
 | [],k,cells,_,hc=>⟨cells,rfl,by simp at hc ⊢;rw[<-hc];exact(qS (by simp)).symm⟩
 | (i,v) :: r,k,cells,hp,hc=>by
   obtain⟨h1,h2⟩:=hp 0 (i,v) (by simp);simp only[qY]at h1 h2;subst h1;simp only[qP]at hc;have hsp:(i+(r.length+1))*sz=i*sz+sz+r.length*sz:=by grind
   have hfit:i*sz+v.cells.size<=cells.size:=by omega
   have hfold:=TD (i*sz) v.cells.toList 0 cells (by grind);simp only[qY,q8]at hfold
   have hl:(v.cells.zipIdx.foldl (λ(cs:Array Value)(x:Value×Nat)=>cs.setIfInBounds (i*sz+x.2) x.1) cells).toList=cells.toList.take (i*sz)++v.cells.toList++cells.toList.drop (i*sz+v.cells.size):=by
    rw[<-Array.foldl_toList,Array.toList_zipIdx];exact hfold
   obtain⟨arr,h3,h4⟩:=WO (sz:=sz) r (i+1) (v.cells.zipIdx.foldl (λ(cs:Array Value)(x:Value×Nat)=>cs.setIfInBounds (i*sz+x.2) x.1) cells)
    (λj x hx=>by have:=hp (j+1) x (by grind);omega)
    (by rw[<-q8,hl];simp;rw[show i+1+r.length=i+(r.length+1) by omega];omega)
   refine⟨arr,?_,?_⟩
   ·simp only[Instr.fill];grind
   ·rw[h4,hl,rf];rw[so (by simp[re];omega),qS (by grind)];simp
theorem RU{O:Nat->Prop}{w:World}:∀{pv:List (Nat×Value)}{ps:List (Nat×D)}{k:Nat}{l:List D},Qg O w pv ps->Rl k ps=some l ->
 pv.length=l.length/\(∀(j:Nat) x,pv[j]?=some x->x.1=k+j/\∃y,l[j]?=some y/\Aw O w x.2 y)/\Bl O w (pv.flatMap (λx=>x.2.cells.toList)) (l.flatMap D.cells)
 | [],[],k,l,_,hl=>by simp[Rl]at hl;subst hl;exact⟨rfl,λj x hx=>by simp at hx,Bl.nil⟩
 | (i,v) :: r,(j,x) :: s,k,l,hp,hl=>by
   obtain⟨rfl,hv,hp⟩:=hp;simp only[Rl]at hl;split at hl
   ·rename_i hik
    subst hik;simp at hl;obtain⟨l',h1,rfl⟩:=hl;obtain⟨h2,h3,h4⟩:=RU hp h1;refine⟨by simp[h2],λj y hy=>?_,?_⟩
    ·grind
    ·simp only[rf];exact(GA hv).append h4
   ·cases hl
 | [],_ :: _,_,_,hp,_=>hp.elim
 | (_,_) :: _,[],_,_,hp,_=>hp.elim
theorem JH{e:TypeId}(h:KZ P e=true):∃i z,P.info? e=some i/\i.zero=some z/\z.cells.size=i.size:=by
 unfold KZ at h;grind
theorem VQ(h:SimB X G β S a w){g:Option (Nat×Bool)}(hg:BN g a){d:Nat}(hd:d<S.length){t e:TypeId}{n:Nat}{parts:Array (Nat×Operand)}(ho:o.op=.buildSlice t n parts)(hu:P.underlying t=some (.slice e))
 {K:GJ->Prop} (hy:Nh (ρOf S g) parts.toList λps b=>match Rl 0 ps with
  | some l=>C0 l λl =>
    if l.length=n/\0<AB P e/\KZ P e=true/\n*AB P e<=16777216/\l.all (λx=>x.cells.length==AB P e)then K ⟨.sl d ((Af S d).ver+1),b++[(d,.row (AB P e) e l,(Af S d).ver+1)],[]⟩else False
  | none=>False):∃e,K e/\CW P X G S a w o e:=by
 obtain⟨ps,b,hK,hF,hrep⟩:=Ud h hg hy;obtain⟨h1,h2,hfr⟩:=hF.run h;have hp:=hrep.now h hF;split at hK
 ·rename_i l hl
  rw[BI]at hK;obtain⟨⟨hn,hs0,hz,hbound,hall⟩,hK2⟩:=Ak hK;clear hK;obtain⟨i,z,hi,hz,hzs⟩:=JH hz;have hsize:AB P e=i.size:=Ic hi;obtain⟨h3,h4,h5⟩:=RU hp hl;have hcells:∀x∈l,x.cells.length=AB P e:=by grind
  have hpl:parts.size=n:=by grind
  by_cases hn0:n=0
  ·subst hn0;have hl0:l=[]:=qq hn;subst hl0;have hps:parts.toList=[]:=by grind
   obtain⟨β',h8,h9⟩:=KH h1 (d:=d) (by rw[Cc];exact hd) (Lm (.cells #[] e)) (v:=.slice (some ⟨w.heap.size,0,none⟩) 0 0) (e:=e) (xs:=[]) (vals:=[]) hs0 (λ_ h=>by cases h)
    (.inr ⟨rfl,rfl,_,rfl⟩) (λb hb=>by simp[Ac]at hb) Bl.nil
   rw[hfr.ver]at h8 h9;refine⟨_,hK2,.inl ⟨.slice (some ⟨w.heap.size,0,none⟩) 0 0,w.alloc (.cells #[] e),?_,β',?_,?_,rfl⟩⟩
   ·simp[execOp,ho,Instr.buildSlice,run_underlying hu,sizeOf,typeInfo,hi,hps,Instr.fill,newRow,Array.range_zero']
   ·simp only[BB,AZ];exact h8
   ·simp only[BB,AZ];exact h9
  have hn0:0<n:=Nat.pos_of_ne_zero hn0
  obtain⟨arr,h6,h7⟩:=WO (sz:=i.size) (parts.toList.map λx=>(x.1,a.eval x.2)) 0 ((Array.range (n*i.size)).map (z.cells[·%z.cells.size]!))
   (λj x hx=>by
    obtain⟨h8,y,h9,h10⟩:=h4 j x hx;refine⟨h8,?_⟩;have:=(GA h10).1;rw[hcells y (qn h9),hsize]at this
    simpa using this)
   (by simp[hpl])
  simp only[Nat.zero_mul,List.take_zero,List.nil_append]at h7
  have hlen:arr.size=n*i.size:=by
   have:=h5.1;rw[<-h7,Ex l hcells,hn,hsize]at this
   simpa using this
  obtain⟨β',h8,h9⟩:=KH h1 (d:=d) (by rw[Cc];exact hd) (Lm (.cells arr e)) (v:=.slice (some ⟨w.heap.size,0,none⟩) n n) (e:=e) (xs:=l) (vals:=arr.toList) hs0 hcells
   (.inl ⟨by rw[hn,hsize];rw[q8];exact hlen,.inr ⟨w.heap.size,n,arr,by rw[hn],pY _,heap_alloc_new w _,by omega,by
    have:n<=n*AB P e:=sP n hs0;unfold maxLen;omega,by rw[hsize];exact hlen,by rw[hn,hsize,<-hlen];exact qS (by simp)⟩⟩)
   (λb hb=>by simp[Ac]at hb;omega)
   (by
    rw[h7];refine h5.mono ⟨by simp,λb' hb' hO=>?_,λb' hb' _=>heap_alloc_old w _ b' hb'⟩;rcases hO with hO|hO
    ·grind
    ·simp[Ac]at hO;omega)
  rw[hfr.ver]at h8 h9;refine⟨_,hK2,.inl ⟨.slice (some ⟨w.heap.size,0,none⟩) n n,w.alloc (.cells arr e),?_,β',?_,?_,rfl⟩⟩
  ·have hb2:¬(n*i.size>2 ^ 24):=by rw[<-hsize];omega
   have hb3:¬(n*i.size=0):=by
    rw[<-hsize];have:=Nat.mul_pos hn0 hs0;omega
   simp only[execOp,ho,Instr.buildSlice,Sem.run_bind,run_underlying hu,Result.andThen_ok,sizeOf,typeInfo,run_program,hi,Sem.run_pure,hb2,if_false,hb3,zeroValue,hz,s9];rw[h6];simp[newRow]
  ·simp only[BB,AZ];exact h8
  ·simp only[BB,AZ];exact h9
 ·grind
theorem jS{O:Nat->Prop}{z:Value}{sz:Nat}{x:D}(hx:Bl O w z.cells.toList x.cells)(hs:z.cells.size=sz)(h0:0<sz)(n c:Nat)(hc:n<=c) :
 ((madeCells z.cells (c*sz)).toList.take (n*sz)).length=n*sz/\Bl O w ((madeCells z.cells (c*sz)).toList.take (n*sz)) ((List.replicate n x).flatMap D.cells):=by
 have hle:n*sz<=c*sz:=qU _ hc;have hlen:((madeCells z.cells (c*sz)).toList.take (n*sz)).length=n*sz:=by simp[size_madeCells,rB hc]
 have hxl:x.cells.length=sz:=by rw[<-hx.1];simpa using hs
 have hfl:=Ex (sz:=sz) (List.replicate n x) (λy hy=>by rw[rA hy];exact hxl);refine⟨hlen,by rw[hlen,hfl];simp,λj v y hv hy=>?_⟩;have hj:j<n*sz:=by grind
 have hdn:j/sz<n:=by rw[rS h0];exact hj
 have hm:j%sz<sz:=se _ h0
 have hyy:((List.replicate n x).flatMap D.cells)[j]?=some (x.cells[j%sz]'(by grind)):=by
  have:=O1 (sz:=sz) (List.replicate n x) (λy hy=>by rw[rA hy];exact hxl) (j/sz) x (j%sz) _ (by simp[hdn]) (P2 (by grind))
  rwa [qM,rX]at this
 rw[hyy]at hy
 cases hy
 rw[ra hj]at hv
 have hv':v=z.cells.toList[j%sz]'(by grind):=by
  have hjc:j<c*sz:=by omega
  have hms:j%sz<z.cells.size:=by grind
  simp[madeCells,hjc,hs]at hv;grind
 exact hx.2 (j%sz) v _ (by grind) (P2 _)
theorem cC{t:TypeId}{K:D->Prop}(hy:YQ P t K):∃x,K x/\∃i z,P.info? t=some i/\i.zero=some z/\∀(O:Nat->Prop)(w:World),Bl O w z.cells.toList x.cells:=by
 unfold YQ at hy;split at hy
 ·rename_i l hl
  obtain⟨i,z,hi,hz,-⟩:=Hb (O:=λ_=>True) (w:=default) hl
  have hr:∀(O:Nat->Prop)(w:World),Bl O w z.cells.toList l:=by
   intro O w;obtain⟨i',z',hi',hz',hr⟩:=Hb (O:=O) (w:=w) hl;grind
  split at hy
  ·rw[TW]at hy;exact⟨_,hy,i,z,hi,hz,λO w=>(hr O w).norm⟩
  ·split at hy
   ·rename_i y
    rw[Nf]at hy;refine⟨_,hy,i,z,hi,hz,λO w=>?_⟩;have h1:y.one=true:=((hr O w).2 0 _ y (P2 (by rw[(hr O w).1];simp)) rfl).2;have e:(norm y).cells=[norm1 y]:=by cases y<;>first|rfl|simp[D.one]at h1
    rw[e];exact(hr O w).norm
   ·grind
  ·grind
 ·grind
theorem gD(h:SimB X G β S a w){g:Option (Nat×Bool)}(hg:BN g a){d:Nat}(hd:d<S.length){t e:TypeId}{x y:Operand}(ho:o.op=.makeSlice t x y)(hu:P.underlying t=some (.slice e))(hs0:0<AB P e)(hz:KZ P e=true)
 {k k':IntKind} {l c:Int} (hx:ρOf S g x=.d (.int k l)) (hy:ρOf S g y=.d (.int k' c)) {K:GJ->Prop}
 (hyy:YQ P e λz=>JA (0<=l/\l<=c/\c<=maxLen/\(K7 P e:Int)*c<=281474976710656) (K ⟨.sl d ((Af S d).ver+1),[(d,.row (AB P e) e (List.replicate l.toNat z),(Af S d).ver+1)],[]⟩)):∃e,K e/\CW P X G S a w o e:=by
 have ex:=ρ_sound h hg x;rw[hx]at ex;have ex:=AJ ex;have ey:=ρ_sound h hg y;rw[hy]at ey;have ey:=AJ ey;obtain⟨z,hyy,i,zv,hi,hzv,hzr⟩:=cC hyy;obtain⟨⟨h0,h1,h2,h3⟩,hK⟩:=hyy;obtain⟨i',z',hi',hz',hzs⟩:=JH hz;rw[hi]at hi';cases hi';rw[hzv]at hz';cases hz';have hsize:AB P e=i.size:=Ic hi;have hbytes:K7 P e=i.bytes:=by simp[K7,hi]
 rw[hbytes]at h3;have hm:maxLen<=9223372036854775807:=by unfold maxLen;omega
 have hrun:=run_make (P:=P) w t e i zv hu hi hzv k k' l c h0 h1 h3 (by omega);have hmr:=jS (w:=w.alloc (.cells (madeCells zv.cells (c.toNat*i.size)) e)) (hzr (λb=>OS β X S b\/Ac (.slice (some ⟨w.heap.size,0,none⟩) l.toNat c.toNat)=some b) _) hzs (by grind) l.toNat c.toNat (by omega);have hzl:z.cells.length=i.size:=by have:=(hzr (λ_=>True) w).1;rw[<-this];simpa using hzs
 obtain⟨β',h8,h9⟩:=KH h hd (Lm (.cells (madeCells zv.cells (c.toNat*i.size)) e)) (v:=.slice (some ⟨w.heap.size,0,none⟩) l.toNat c.toNat) (e:=e) (sz:=AB P e) (xs:=List.replicate l.toNat z)
  (vals:=(madeCells zv.cells (c.toNat*i.size)).toList.take (l.toNat*i.size)) hs0 (λy hy=>by rw[rA hy,hsize];exact hzl)
  (.inl ⟨by rw[hsize,hmr.1];simp,.inr ⟨w.heap.size,c.toNat,_,by simp,pY _,heap_alloc_new w _,by simp;omega,by omega,by rw[size_madeCells,hsize],by rw[hsize];simp⟩⟩)
  (λb hb=>by simp[Ac]at hb;omega) hmr.2
 refine⟨_,hK,.inl ⟨_,_,?_,β',h8,h9,rfl⟩⟩;simp[execOp,ho,ex,ey,hrun]
theorem io{f:Nat->Value}{N j:Nat}{u:Value}(h:((List.range N).map f)[j]?=some u):j<N/\f j=u:=by grind
theorem Ry(h:SimB X G β S a w){r:RV}{v:Value}(hr:Ou β (OS β X S) S w v r){K:Nat->List D->Prop}(hy:Oa r K) :
 ∃sz ys,K sz ys/\∃ad c,v=.slice ad ys.length c/\(ys=[]\/∃ad' news,ad=some ad'/\Bl (OS β X S) w news (ys.flatMap D.cells)/\(∀x∈ys,x.cells.length=sz)/\∀(j:Nat) u,news[j]?=some u->w.cell? (ad'.add j)=some u):=by
 have key:∀sz ys,Aw (OS β X S) w v (.list sz ys)->∃ad c,v=.slice ad ys.length c/\(ys=[]\/∃ad' news,ad=some ad'/\Bl (OS β X S) w news (ys.flatMap D.cells)/\(∀x∈ys,x.cells.length=sz)/\∀(j:Nat) u,news[j]?=some u->w.cell? (ad'.add j)=some u):=by
  intro sz ys hl
  cases hl with
  | emp ad cap _=>grind
  | list b off cap _ _ c hne hb hO hcap hsz h1 hcell hrep =>
    refine⟨_,cap,rfl,.inr ?_⟩
    have hpos:∀j,j<(ys.flatMap D.cells).length->∃x y,ys[j/sz]?=some x/\x.cells[j%sz]?=some y/\(ys.flatMap D.cells)[j]?=some y/\0<sz:=by
     intro j hj;rw[Ex ys hsz]at hj;have hs0:0<sz:=by grind
     have hd:j/sz<ys.length:=by rw[rS hs0];exact hj
     have hm:j%sz<ys[j/sz].cells.length:=by rw[hsz _ (qa hd)];exact se _ hs0
     refine⟨ys[j/sz],ys[j/sz].cells[j%sz],P2 hd,P2 hm,?_,hs0⟩;have:=O1 ys hsz (j/sz) _ (j%sz) _ (P2 hd) (P2 hm)
     rwa [qM,rX]at this
    refine⟨⟨b,off,none⟩,(List.range (ys.flatMap D.cells).length).map λj=>c (j/sz) (j%sz),rfl,⟨by simp,λj u y hu hy=>?_⟩,hsz,λj u hu=>?_⟩
    ·grind
    ·obtain⟨hj,rfl⟩:=io hu;obtain⟨x,y',h2,h3,h4,_⟩:=hpos j hj;rw[GK];have:=hcell _ _ _ _ h2 h3
     rwa [Nat.add_assoc,qM,rX]at this
 cases r<;>simp only[Oa]at hy
 case d x =>
  cases x<;>simp only at hy
  case nil sz =>
   have hr:Aw (OS β X S) w v (.nil sz):=hr;have:∃ad,v=.slice ad 0 0:=by cases hr;exact⟨_,rfl⟩
   grind
  case list sz xs=>exact⟨sz,xs,hy,key sz xs hr⟩
 case lim sz xs=>exact⟨sz,xs,hy,key sz xs hr.1⟩
 case row id n sz e xs =>
  obtain⟨hb,_,hv⟩:=hr;have hbx:=h.boxes id;rw[hb]at hbx;obtain⟨h1,h2,vals,h3,h4⟩:=hbx;refine⟨sz,xs,hy,?_⟩;rcases h3 with⟨hlen,⟨hv',h0⟩|⟨g,cap,cur,hv',hbg,hh,hn,hm,hcs,ht⟩⟩|⟨h0,_,ad,hv'⟩
  ·grind
  ·refine⟨some ⟨g,0,none⟩,cap,by rw[hv,hv'],.inr ⟨_,vals,rfl,h4,h2,λj u hu=>?_⟩⟩;rw[GK,qy];rw[<-ht,qB]at hu;split at hu
   ·simp[World.cell?,hh];simpa using hu
   ·cases hu
  ·grind
theorem PW{t ty e:TypeId}{i:TypeInfo}(ht:P.underlying t=some (.slice e))(hi:P.info? e=some i)(b ad:Option Addr)(n cap c:Nat)(hn:n<=cap) :
 (Builtin.append_ #[t,t] ty #[.slice b n cap,.slice ad 0 c]).run P w=.ok (.slice b n cap) w:=by
 cases b<;>cases ad<;>simp[Builtin.append_,run_underlying ht,sizeOf,typeInfo,hi,Builtin.lenOf,hn,Builtin.firstCells,loadCells,loadCellsFrom,storeCells]
theorem Vg(h:SimB X G β S a w){x y:Operand}{t e:TypeId}(ho:o.op=.call ⟨.builtin .append,#[x,y],#[t,t]⟩)(hu:P.underlying t=some (.slice e)){sz:Nat}{ys:List D}(hsz:sz=AB P e)(hz:KZ P e=true)
 {sz':Nat} {ad:Option Addr} {c:Nat} (hy:a.eval y=.slice ad ys.length c)
 (hys:ys=[]\/∃ad' news,ad=some ad'/\Bl (OS β X S) w news (ys.flatMap D.cells)/\(∀x∈ys,x.cells.length=sz')/\∀(j:Nat) u,news[j]?=some u->w.cell? (ad'.add j)=some u)
 (hs':ys=[]\/sz'=sz) {xs:List D} (hszs:∀x∈xs,x.cells.length=sz) {vals:List Value} {O:Nat->Prop} (hO:∀b,O b->OS β X S b) (hl:Bl O w vals (xs.flatMap D.cells))
 {b0:Option Addr} {cap:Nat} (hv:a.eval x=.slice b0 xs.length cap) (hcap:xs.length<=cap) (hold:xs.length=0/\cap=0\/∃ad0,b0=some ad0/\∀(j:Nat) u,vals[j]?=some u->w.cell? (ad0.add j)=some u)
 (hm:xs.length+ys.length<=maxLen) (hb:(xs.length+ys.length)*K7 P e<=140737488355328) (hgrow:cap<xs.length+ys.length) :
 ∃cp w',(execOp a.eval o).run P w=.ok (.value (.slice (some ⟨w.heap.size,0,none⟩) (xs.length+ys.length) cp)) w'/\Below w.heap.size w w' /\
  ∃vals',Bj w' e sz (.slice (some ⟨w.heap.size,0,none⟩) (xs.length+ys.length) cp) (xs++ys).length vals'/\Bl O w vals' ((xs++ys).flatMap D.cells)/\(∀x∈ys,x.cells.length=sz):=by
 obtain⟨i,z,hi,hz,hzs⟩:=JH hz;have hsize:sz=i.size:=by rw[hsz,Ic hi]
 have hbytes:K7 P e=i.bytes:=by simp[K7,hi]
 rw[hbytes]at hb;have hye:ys≠[]:=by grind
 obtain⟨ad',news,rfl,hnl,hnsz,hnews⟩:=hys.resolve_left hye;have hse:sz'=sz:=hs'.resolve_left hye;subst hse;have hm0:0<ys.length:=List.length_pos_iff.2 hye;have hnlen:news.length=ys.length*i.size:=by rw[hnl.1,Ex ys hnsz,hsize]
 have hvlen:vals.length=xs.length*i.size:=by rw[hl.1,Ex xs hszs,hsize]
 have h63:((xs.length+ys.length:Nat):Int)<=9223372036854775807:=by unfold maxLen at hm;omega
 have hflat:Bl O w (vals++news) ((xs++ys).flatMap D.cells):=by rw[sG];exact hl.append (hnl.mono (B0.of_sub hO))
 have hexec:∀v' w',(Builtin.append_ #[t,t] o.type #[a.eval x,a.eval y]).run P w=.ok v' w'->(execOp a.eval o).run P w=.ok (.value v') w':=by
  intro v' w' hr;simp[execOp,ho,resolve,invoke,builtin,hr]
 have hge:xs.length+ys.length<=grownCap w (xs.length+ys.length) cap e:=grownCap_ge w _ cap e;have hcm:grownCap w (xs.length+ys.length) cap e<=maxLen:=grownCap_le_maxLen w _ cap e hm
 have hr:(Builtin.append_ #[t,t] o.type #[a.eval x,a.eval y]).run P w=.ok (.slice (some ⟨w.heap.size,0,none⟩) (xs.length+ys.length) (grownCap w (xs.length+ys.length) cap e)) (w.drew.alloc (.cells (vals.toArray++news.toArray++Builtin.zeroCells z.cells (grownCap w (xs.length+ys.length) cap e-(xs.length+ys.length))) e)):=by
  rcases hold with⟨hx0,hc0⟩|⟨ad0,rfl,hcells⟩
  ·subst hc0;have hxe:xs=[]:=qq hx0;subst hxe;have hv00:vals=[]:=qq (by grind);subst hv00;rw[hv,hy]
   cases b0 with
   | none =>
     have:=run_append_nil (P:=P) w t o.type e i z hu hi hz ad' ys.length c news hnlen hnews hm0 (by simpa using h63) (by grind);grind
   | some b0 =>
     have:=run_append_grow (P:=P) w t o.type e i z hu hi hz b0 0 0 [] (by simp) (λj v hv=>by simp at hv) ad' ys.length c news hnlen hnews (by omega) (by grind) (growslice_fits (by omega) (by simpa using hb));grind
  ·rw[hv,hy];exact run_append_grow (P:=P) w t o.type e i z hu hi hz ad0 xs.length cap vals hvlen hcells ad' ys.length c news hnlen hnews (by omega) h63 (growslice_fits (by omega) hb)
 refine⟨_,_,hexec _ _ hr,(Below.refl _ _).drew.alloc (qb _) _,vals++news,.inl ⟨?_,.inr ⟨w.heap.size,grownCap w (xs.length+ys.length) cap e,_,by simp,pY _,heap_alloc_new w.drew _,by simpa using hge,hcm,?_,?_⟩⟩,hflat,hnsz⟩
 ·grind
 ·simp only[sX,r9,size_zeroCells,hzs,hvlen,hnlen,<-hsize,<-re];grind
 ·have:(xs++ys).length*sz'=(vals++news).length:=by simp[hvlen,hnlen,hsize,re]
  grind
theorem aN(h:SimB X G β S a w){x y:Operand}{t e:TypeId}(ho:o.op=.call ⟨.builtin .append,#[x,y],#[t,t]⟩)(hu:P.underlying t=some (.slice e)){id n sz:Nat}{xs ys:List D}
 (hx:Ou β (OS β X S) S w (a.eval x) (.row id n sz e xs)) (hsz:sz=AB P e) (hz:KZ P e=true) {sz':Nat} {ad:Option Addr} {c:Nat} (hy:a.eval y=.slice ad ys.length c)
 (hys:ys=[]\/∃ad' news,ad=some ad'/\Bl (OS β X S) w news (ys.flatMap D.cells)/\(∀x∈ys,x.cells.length=sz')/\∀(j:Nat) u,news[j]?=some u->w.cell? (ad'.add j)=some u)
 (hm:xs.length+ys.length<=maxLen) (hb:(xs.length+ys.length)*K7 P e<=140737488355328) (hs':ys=[]\/sz'=sz) :
 CW P X G S a w o ⟨.sl id (n+1),[(id,.row sz e (xs++ys),n+1)],[]⟩:=by
 obtain⟨hbx,hver,hv⟩:=hx;have hid:id<S.length:=MZ hbx (by simp);have hbox:=h.boxes id;rw[hbx]at hbox;obtain⟨hpos,hszs,vals,hrow,hl⟩:=hbox;have hown:(Af S id).box.owned=true:=by rw[hbx];rfl
 have Ef:∀v' w',(execOp a.eval o).run P w=.ok (.value v') w'->w.heap.size<=w'.heap.size->A7 X.base X.M w w' ->
  (∀b,b<w.heap.size->Ac (β id)≠some b->w'.heap[b]?=w.heap[b]?)->(∀b,Ac v'=some b->Ac (β id)=some b\/w.heap.size<=b)->(∀x∈ys,x.cells.length=sz) ->
  (∃vals',Bj w' e sz v' (xs++ys).length vals'/\Bl (OS β X S) w vals' ((xs++ys).flatMap D.cells)) ->
  CW P X G S a w o ⟨.sl id (n+1),[(id,.row sz e (xs++ys),n+1)],[]⟩:=by
  intro v' w' hr hs hbl hkeep hown' hyz hrw;obtain⟨vals',hr1,hr2⟩:=hrw;refine .inl ⟨v',w',hr,Kz β id v',?_,?_,rfl⟩
  ·exact h.rebox (R':=X.R) (λ_ h=>h) hid (.inl (by rw[hver];omega)) hs hbl (λb hb hk=>hkeep b hb (hk hown))
    (λ_ b hb=>by
     rcases hown' b hb with hh|hh
     ·exact⟨.inl ⟨hh,hown⟩,(h.mine id b hown hh).2⟩
     ·exact⟨.inr (.inl hh),λhr=>by have:=(h.rs b hr).2;omega⟩)
    (λk _=>⟨hpos,λz hz=>by rcases List.mem_append.1 hz with hz|hz;exact hszs z hz;exact hyz z hz,vals',by simp only[Kz,if_true];exact hr1,hr2.mono k⟩)
  ·have:AG (AZ [(id,.row sz e (xs++ys),n+1)] S) id=n+1:=by simp[AZ,AG,BP,hid]
   exact⟨by rw[this];exact qb _,λ_=>by simp[Kz]⟩
 obtain⟨i,z,hi,hz',hzs⟩:=JH hz;have hsize:sz=i.size:=by rw[hsz,Ic hi]
 obtain⟨b0,cap,hv0,hle,hold⟩:∃b0 cap,a.eval x=.slice b0 xs.length cap/\xs.length<=cap/\(xs.length=0/\cap=0\/∃ad0,b0=some ad0/\∀(j:Nat) u,vals[j]?=some u->w.cell? (ad0.add j)=some u):=by
  rw[hv];rcases hrow with⟨_,⟨hv',h0⟩|⟨g,cap,cur,hv',_,hh,hn,_,_,htk⟩⟩|⟨h0,_,ad',hv'⟩
  ·exact⟨_,_,by rw[hv',h0],by omega,.inl ⟨h0,rfl⟩⟩
  ·refine⟨_,cap,hv',hn,.inr ⟨_,rfl,λj u hj=>?_⟩⟩;rw[GK,qy];rw[<-htk,qB]at hj;split at hj
   ·simp[World.cell?,hh];simpa using hj
   ·cases hj
  ·exact⟨_,_,by rw[hv',h0],by omega,.inl ⟨h0,rfl⟩⟩
 by_cases hye:ys=[]
 ·subst hye;simp only[rY]at Ef ⊢;refine Ef (a.eval x) w ?_ (qb _) (A7.refl _ _ _) (λ_ _ _=>rfl) (λb hb=>.inl (by rw[<-hv];exact hb)) (λ_ h=>by cases h) ⟨vals,by rw[hv];exact hrow,hl⟩;have:=PW (P:=P) (w:=w) (ty:=o.type) hu hi b0 ad xs.length cap c hle;simp only[execOp,ho,resolve,invoke,builtin,Sem.run_bind,Sem.run_pure,Result.andThen_ok];simp only[List.map_toArray,qk,qH,hy,hv0,rI];rw[this];simp
 ·by_cases hroom:xs.length+ys.length<=cap
  ·
   obtain⟨ad',news,rfl,hnl,hnsz,hnews⟩:=hys.resolve_left hye;have hse:sz'=sz:=hs'.resolve_left hye;subst hse;have hm0:0<ys.length:=List.length_pos_iff.2 hye;have hnlen:news.length=ys.length*i.size:=by rw[hnl.1,Ex ys hnsz,hsize]
   have hvlen:vals.length=xs.length*i.size:=by rw[hl.1,Ex xs hszs,hsize]
   have hflat:Bl (OS β X S) w (vals++news) ((xs++ys).flatMap D.cells):=by rw[sG];exact hl.append hnl
   rcases hrow with⟨hlen,⟨hv',h0⟩|⟨g,cap',cur,hv',hbg,hh,hn,hcm,hcs,htk⟩⟩|⟨h0,_,a0,hv'⟩
   ·rw[hv,hv']at hv0;simp at hv0;omega
   ·have hcc:cap'=cap:=by rw[hv,hv']at hv0;simp at hv0;omega
    subst hcc;have hc0:cap'≠0:=by omega
    have hfit:xs.length*i.size+news.length<=cur.size:=by rw[hnlen,hcs,hsize,<-re];exact qU _ hroom
    have hr:=run_append_room (P:=P) w t o.type e i hu hi g xs.length cap' cur hh ad' ys.length c news hnlen hnews hnl.oneCell hroom hfit;have hβb:Ac (β id)=some g:=by rw[hv'];simp[Ac,hc0]
    have hexec:∀v' w',(Builtin.append_ #[t,t] o.type #[a.eval x,a.eval y]).run P w=.ok v' w'->(execOp a.eval o).run P w=.ok (.value v') w':=by
     intro v' w' hr;simp[execOp,ho,resolve,invoke,builtin,hr]
    refine Ef _ _ (hexec _ _ (by rw[hv,hv',hy];exact hr)) (by simp) (A7.setRow _ _ _ (h.mine id g hown hβb).1) (λb _ hk=>setRow_other w g b _ (λe=>hk (by rw[hβb,e]))) (λb hb=>.inl (by rw[hβb];simp[Ac,hc0]at hb;rw[hb])) hnsz
     ⟨vals++news,.inl ⟨by simp[hvlen,hnlen,hsize,re],.inr ⟨g,cap',_,by simp,hbg,setRow_heap w g cur _ e _ hh,by simpa using hroom,hcm,?_,?_⟩⟩,hflat⟩
    ·simp only[r9,qz,qL,rj,q8];rw[hcs]at hfit ⊢;omega
    ·have:(xs++ys).length*sz'=(vals++news).length:=by simp[hvlen,hnlen,hsize,re]
     rw[this,<-hsize,htk];exact s3
   ·rw[hv,hv']at hv0;simp at hv0;omega
  ·obtain⟨cp,w',hr,hbl,vals',hr1,hr2,hyz⟩:=Vg h ho hu hsz hz hy hys hs' hszs (λ_ h=>h) hl hv0 hle hold hm hb (by omega);exact Ef _ _ hr hbl.size ((A7.of hbl).weaken h.hbase λ_ _ h=>h) (λb hb _=>hbl.block b hb) (λb hb=>.inr (by simp[Ac]at hb;omega)) hyz ⟨vals',hr1,hr2⟩
theorem PG(h:SimB X G β S a w){d:Nat}(hd:d<S.length){x y:Operand}{t e:TypeId}(ho:o.op=.call ⟨.builtin .append,#[x,y],#[t,t]⟩)(hu:P.underlying t=some (.slice e)){sz:Nat}{xs ys:List D}
 (hsz:sz=AB P e) (hs0:0<sz) (hz:KZ P e=true) {sz':Nat} {ad:Option Addr} {c:Nat} (hy:a.eval y=.slice ad ys.length c)
 (hys:ys=[]\/∃ad' news,ad=some ad'/\Bl (OS β X S) w news (ys.flatMap D.cells)/\(∀x∈ys,x.cells.length=sz')/\∀(j:Nat) u,news[j]?=some u->w.cell? (ad'.add j)=some u)
 (hm:xs.length+ys.length<=maxLen) (hb:(xs.length+ys.length)*K7 P e<=140737488355328) (hs':ys=[]\/sz'=sz)
 (hx:(∃ad0,a.eval x=.slice ad0 0 0/\xs=[])\/(Aw (OS β X S) w (a.eval x) (.list sz xs)/\RE (a.eval x)=xs.length/\ys≠[])) :
 CW P X G S a w o ⟨.sl d ((Af S d).ver+1),[(d,.row sz e (xs++ys),(Af S d).ver+1)],[]⟩:=by
 obtain⟨i,z,hi,hz',hzs⟩:=JH hz;by_cases hye:ys=[]
 ·subst hye;obtain⟨ad0,hv0,rfl⟩:=hx.resolve_right λh=>h.2.2 rfl
  have hrun:(execOp a.eval o).run P w=.ok (.value (.slice ad0 0 0)) w:=by
   have:=PW (P:=P) (w:=w) (ty:=o.type) hu hi ad0 ad 0 0 c (qb _);simp only[execOp,ho,resolve,invoke,builtin,Sem.run_bind,Sem.run_pure,Result.andThen_ok];simp only[List.map_toArray,qk,qH,hy,hv0,rI];rw[this];simp
  obtain⟨β',h8,h9⟩:=KH h hd (Below.refl _ _) (v:=.slice ad0 0 0) (e:=e) (xs:=[]) (vals:=[]) hs0 (λ_ h=>by cases h)
   (by cases ad0 with
    | none=>exact .inl (World.ownsRow_nil w _ e _)
    | some q=>exact .inr ⟨rfl,rfl,q,rfl⟩) (λb hb=>by cases ad0<;>simp[Ac]at hb) Bl.nil
  exact .inl ⟨_,w,hrun,β',h8,h9,rfl⟩
 ·have hpos:0<ys.length:=List.length_pos_iff.2 hye
  obtain⟨b0,cap,vals,hv0,hle,hold,hszs,hl,hcap⟩:∃b0 cap,∃vals:List Value,a.eval x=.slice b0 xs.length cap/\xs.length<=cap/\(xs.length=0/\cap=0\/∃ad0,b0=some ad0/\∀(j:Nat) u,vals[j]?=some u->w.cell? (ad0.add j)=some u) /\
   (∀x∈xs,x.cells.length=sz)/\Bl (OS β X S) w vals (xs.flatMap D.cells)/\cap=xs.length:=by
   rcases hx with⟨ad0,hv0,rfl⟩|⟨hr,hc,_⟩
   ·exact⟨ad0,0,[],by simpa using hv0,by simp,.inl ⟨rfl,rfl⟩,(λ_ h=>by cases h),Bl.nil,rfl⟩
   ·obtain⟨sz2,xs2,⟨rfl,rfl⟩,ad1,c1,hv1,hrest⟩:=Ry h (r:=.d (.list sz xs)) hr (K:=λs l=>sz=s/\xs=l) ⟨rfl,rfl⟩;have hc1:c1=xs.length:=by rw[hv1]at hc;simpa [RE] using hc
    rcases hrest with hxe|⟨ad2,news,rfl,h3,h4,h5⟩
    ·subst hxe;exact⟨ad1,c1,[],hv1,by simp,.inl ⟨rfl,by simpa using hc1⟩,(λ_ h=>by cases h),Bl.nil,hc1⟩
    ·exact⟨_,c1,news,hv1,by omega,.inr ⟨ad2,rfl,h5⟩,h4,h3,hc1⟩
  obtain⟨cp,w',hr,hbl,vals',hr1,hr2,hyz⟩:=Vg h ho hu hsz hz hy hys hs' hszs (λ_ h=>h) hl hv0 hle hold hm hb (by omega)
  obtain⟨β',h8,h9⟩:=KH h hd hbl (e:=e) (xs:=xs++ys) (vals:=vals') hs0 (λq hq=>by rcases List.mem_append.1 hq with hq|hq;exact hszs q hq;exact hyz q hq) hr1 (λb hb=>by simp[Ac]at hb;omega)
   (hr2.mono ⟨hbl.size,λb hb hO=>by
    rcases hO with hO|hO
    ·grind
    ·simp[Ac]at hO;omega,λb hb _=>hbl.block b hb⟩)
  exact .inl ⟨_,w',hr,β',h8,h9,rfl⟩
theorem jl(h:SimB X G β S a w){t e:TypeId}{x:Operand}{hi:Option Operand}(ho:o.op=.slice t x none hi none)(hu:P.underlying t=some (.slice e)){sz:Nat}(hsz:sz=AB P e)(hpos:0<sz){id n:Nat}{e':TypeId}{xs:List D}
 (hx:Ou β (OS β X S) S w (a.eval x) (.row id n sz e' xs)) {r:Int} (hh:hi=none/\r=(xs.length:Int)\/∃q k,hi=some q/\a.eval q=.int k r) (h0:0<=r) (h2:r<=xs.length) :
 CW P X G S a w o ⟨.sl id (n+1),[(id,.row sz e' (xs.take r.toNat),n+1)],[]⟩:=by
 obtain⟨hbx,hver,hv⟩:=hx;have hid:id<S.length:=MZ hbx (by simp);have hbox:=h.boxes id;rw[hbx]at hbox;obtain⟨_,hszs,vals,hrow,hl⟩:=hbox;have hown:(Af S id).box.owned=true:=by rw[hbx];rfl
 have hs:(sizeOf e).run P w=.ok sz w:=by rw[hsz]at hpos ⊢;exact KQ hpos
 obtain⟨ad,cap,hv0,hcap,hnil⟩:∃ad cap,a.eval x=.slice ad xs.length cap/\xs.length<=cap/\(cap=0\/∃g,ad=some ⟨g,0,none⟩):=by
  rw[hv];rcases hrow with⟨_,⟨hv',h0⟩|⟨g,cap,cur,hv',_,hh,hn,_,_,htk⟩⟩|⟨h0,_,ad',hv'⟩
  ·exact⟨_,_,by rw[hv',h0],by omega,.inl rfl⟩
  ·exact⟨_,cap,hv',hn,.inr ⟨g,rfl⟩⟩
  ·exact⟨_,_,by rw[hv',h0],by omega,.inl rfl⟩
 have hb:=SX (P:=P) (w:=w) (a:=a) (isSlice:=true) (len:=xs.length) (cap:=cap) (lo:=none) (l:=0) (.inl ⟨rfl,rfl⟩) hh (by omega) h0 h2 hcap
 have hrun:(execOp a.eval o).run P w=.ok (.value (.slice ad r.toNat cap)) w:=by
  simp only[Option.map_none,Int.toNat_zero]at hb;simp[execOp,ho,Instr.sliceAt,Instr.slice,hv0,run_underlying hu,hb,hs];intro _
  cases ad<;>simp[Addr.add]
 have hlt:(xs.take r.toNat).length=r.toNat:=by simp;omega
 have hle:r.toNat*sz<=xs.length*sz:=qU _ (by omega);refine .inl ⟨_,w,hrun,Kz β id (.slice ad r.toNat cap),?_,?_,rfl⟩
 ·refine h.rebox (R':=X.R) (λ_ h=>h) hid (.inl (by rw[hver];omega)) (qb _) (A7.refl _ _ _) (λ_ _ _=>rfl) (λ_ b hbb=>?_) (λk _=>⟨hpos,λz hz=>hszs z (qV hz),vals.take (r.toNat*sz),?_,?_⟩)
  ·have:Ac (β id)=some b:=by rw[<-hv,hv0];cases ad<;>simp[Ac]at hbb ⊢;exact hbb
   exact⟨.inl ⟨this,hown⟩,(h.mine id b hown this).2⟩
  ·simp only[Kz,if_true];rw[hlt];rcases hrow with⟨hlen,⟨hv',h0'⟩|⟨g,cap',cur,hv',hbg,hh',hn,hcm,hcs,htk⟩⟩|⟨h0',hv0',a0,hv'⟩
   ·rw[hv,hv']at hv0;simp at hv0;obtain⟨rfl,_,rfl⟩:=hv0;have:r.toNat=0:=by omega
    rw[this];simp;exact .inl (World.ownsRow_nil w _ _ _)
   ·rw[hv,hv']at hv0;simp at hv0;obtain⟨rfl,rfl⟩:=hv0;refine .inl ⟨by simp[hlen,rB (show r.toNat<=xs.length by omega)],.inr ⟨g,cap',cur,rfl,hbg,hh',by omega,hcm,hcs,?_⟩⟩;rw[<-htk,List.take_take,rB hle]
   ·rw[hv,hv']at hv0;simp at hv0;obtain⟨rfl,_,rfl⟩:=hv0;have:r.toNat=0:=by omega
    rw[this];simp;exact .inr ⟨rfl,rfl,a0,rfl⟩
  ·have e1:(xs.take r.toNat).flatMap D.cells=(xs.flatMap D.cells).take (r.toNat*sz):=by
    have h1:(xs.flatMap D.cells)=(xs.take r.toNat).flatMap D.cells++(xs.drop r.toNat).flatMap D.cells:=by rw[<-sG,ta]
    rw[h1,List.take_left'];rw[Ex _ (λz hz=>hszs z (qV hz)),hlt]
   rw[e1];exact(hl.take _).mono k
 ·have:AG (AZ [(id,.row sz e' (xs.take r.toNat),n+1)] S) id=n+1:=by simp[AZ,AG,BP,hid]
  exact⟨by rw[this];exact qb _,λ_=>by simp[Kz]⟩
end
section
variable {P:Program} {X:Cx} {G:Nat->Prop} {β:Nat->Value} {S:AS} {a:Act} {w:World} {o:Oper}
theorem RA{O O':Nat->Prop}{w w':World}{v:Value}{y:D}(h:Aw O w v y)(hb:y.bare=true):Aw O' w' v y:=by
 cases h with
 | bool b=>exact .bool b
 | int k n=>exact .int k n
 | str s=>exact .str s
 | fn f vs xs hl h1 h =>
   cases xs with
   | nil=>exact .fn f vs [] hl h1 λi v y _ hy=>by simp at hy
   | cons q r=>simp[D.bare]at hb
 | ptr=>simp[D.bare]at hb
 | agg=>simp[D.bare]at hb
 | nil a sz=>exact .nil a sz
 | emp a cap sz=>exact .emp a cap sz
 | list b off cap sz xs c hne=>cases xs with
   | nil=>exact absurd rfl hne
   | cons q r=>simp[D.bare]at hb
theorem MC(h:SimB X G β S a w){cs:List C}{K:List D->Bx->Prop}(hy:Dv (σOf S) cs λl b=>O9 l λl=>K l b) :
 ∃l b,K l b/\FZ S [] b/\(∀z∈b,∃sz xs,z.2.1=.frow sz xs)/\K4 S b cs l /\
  ∀vs:List Value,vs.length=cs.length->(∀(j:Nat) v c,vs[j]?=some v->cs[j]?=some c->BQ β (AG S) (OS β X S) w v c)->K5 X G β S a w b λO=>Bl O w vs l:=by
 obtain⟨l,b,hK,hF,hfr,hl,hc,hh⟩:=JF h hy;rw[TW]at hK;refine⟨_,b,hK,hF,hfr,⟨by simp[hl],λj c y hcj hyj=>?_⟩,λvs hv hr=>(hh vs hv hr).mono (λ_ h=>h) λO h=>h.norm⟩;simp only[ql]at hyj
 cases hz:l[j]? with
 | none=>simp[hz]at hyj
 | some z =>
   simp[hz]at hyj;subst hyj;have:=hc j c z hcj hz
   cases c with
   | d q=>rw[this]
   | sl id n =>
     obtain⟨sz,xs,h1,h2,h3⟩:=this;exact⟨sz,xs,by rw[h1];rfl,h2,h3⟩
   | own _ _ _=>exact this
theorem Rf{b:Bx}{T:AS}(hf:Fr S b T)(h:SimB X G β T a w){cs:List C}{l:List D}(hcd:K4 S b cs l){vals:List Value}(hvl:vals.length=cs.length)(hvc:∀(j:Nat) v c,vals[j]?=some v->cs[j]?=some c->BQ β (AG T) (OS β X T) w v c) :
 Bl (OS β X T) w vals l:=by
 refine⟨by rw[hvl];exact hcd.1,λj v z hv hz=>?_⟩;have hj:j<cs.length:=by rw[hcd.1];exact A5 hz
 have hcc:=hvc j v cs[j] hv (P2 hj);have hc2:=hcd.2 j cs[j] z (P2 hj) hz;generalize cs[j]=c at hcc hc2
 cases c with
 | d q=>rw[hc2];exact⟨hcc.1.norm1,Rr q hcc.2⟩
 | sl id n =>
   obtain⟨sz,xs,k1,k2,k3⟩:=hc2
   have hfr:(Af T id).box=.frow sz xs:=by
    rcases k3 with⟨_,k3⟩|k3
    ·exact hf.mem _ k3
    ·rw[hf.keepF id (by rw[k3];rfl)];exact k3
   have hbb:=h.boxes id;rw[hfr]at hbb;have hv2:=hcc.2 (by simp only[AG];rw[hf.ver];exact k2.symm);rw[k1,hv2];exact⟨hbb,rfl⟩
 | own sz e xs=>exact hc2.elim
theorem Ll(h:SimB X G β S a w){r:RV}{v:Value}(hr:Ou β (OS β X S) S w v r){K:AV->Bx->Prop}(hy:M9 (σOf S) r K) :
 ∃y b,K y b/\FZ S [] b/\y.mut=false/\K5 X G β S a w b λO=>Ot O w v y:=by
 cases r<;>simp only[M9]at hy
 case any=>exact⟨_,[],hy,trivial,rfl,λ_ _ _ _ _=>trivial⟩
 case d y =>
  rw[Nf]at hy;exact⟨_,[],hy,trivial,rfl,λB _ _ _ hk=>(Aw.mono (B0.of_sub hk) hr).norm⟩
 case lim sz xs=>exact⟨_,[],hy,trivial,rfl,λB _ _ _ hk=>Aw.mono (B0.of_sub hk) hr.1⟩
 case vptr id n off cs =>
  obtain⟨l,b,hK,hF,hfr,hcd,hh⟩:=MC h hy;rw[BI]at hK;obtain⟨h1,h2,bb,h3,h4⟩:=hr;have hF2:FZ S [] (b++[(id,.fvar l,n)]):=hF.snoc ⟨h2,.inr (.inl ⟨cs,l,h1,rfl,by simpa using hcd⟩)⟩;refine⟨_,_,hK,hF2,rfl,λB hB hf hs hk=>?_⟩;have hbx:=hs.boxes id;rw[hf.mem (id,.fvar l,n) (hB _ (by simp))]at hbx;obtain⟨h5,_⟩:=hbx;rw[h3]at h5;have:=h5.drop off;rw[qy]at this;show Aw _ _ _ _;rw[h4];exact this
 case row id n sz e xs =>
  obtain⟨h1,h2,h3⟩:=hr;refine⟨_,_,hy,⟨⟨h2,.inl ⟨sz,e,xs,h1,rfl⟩⟩,trivial⟩,rfl,λB hB hf hs hk=>?_⟩;have hbx:=hs.boxes id;rw[hf.mem (id,.frow sz xs,n) (hB _ (by simp))]at hbx;show Aw _ _ _ _;rw[h3];exact hbx
 case eptr id n sz e xs i off =>
  obtain⟨h1,h2,bb,m,cap,h3,h4⟩:=hr;obtain⟨_,y,hy1,hK⟩:=hy.go;simp only[qu]at hy1;rw[BI]at hK;refine⟨_,_,hK,⟨⟨h2,.inl ⟨sz,e,xs,h1,rfl⟩⟩,trivial⟩,rfl,λB hB hf hs hk=>?_⟩;have hbx:=hs.boxes id;rw[hf.mem (id,.frow sz xs,n) (hB _ (by simp))]at hbx;show Aw _ _ _ _;have hbx:Aw _ _ _ _:=hbx;rw[h3]at hbx;rw[h4];generalize hvv:Value.slice (some ⟨bb,0,none⟩) m cap=vv at hbx
  cases hbx with
  | emp=>simp at hy1
  | list b' off' cap' _ _ c hne hb hO hcap hszs h1' hcell hrep =>
    simp at hvv;obtain⟨⟨rfl,rfl⟩,_,_⟩:=hvv;have:=Aw.ptr (O:=OS β X (AZ B S)) (w:=w) bb (0+i*sz) y.cells (λj=>c i j) (λ_=>hb) (λ_=>hO) (λz hz=>h1' y (qn hy1) z hz) (λj z hz=>hcell _ _ _ _ hy1 hz) (λj z hz=>hrep _ _ _ _ hy1 hz);have:=this.drop off
    rwa [qy]at this
 case cagg cs =>
  obtain⟨l,b,hK,hF,hfr,hcd,hh⟩:=MC h hy;obtain⟨us,hu,hul,huc⟩:=hr;refine⟨_,_,hK,hF,rfl,λB hB hf hs hk=>?_⟩
  have hrep:=Rf hf hs (hcd.mono hB) (vals:=us.toList) (by simpa using hul) (λj v c hv hc=>by
   have:=(huc j v c (by simpa using hv) hc).1
   cases c with
   | d x=>exact⟨this.1.mono (B0.of_sub hk),this.2⟩
   | sl id n=>exact⟨by have h1:=this.1;simp only[AG]at h1 ⊢;rw[hf.ver];exact h1,λe=>this.2 (by simp only[AG]at e ⊢;rw[hf.ver]at e;exact e)⟩
   | own _ _ _=>exact this)
  show Aw _ _ _ _;rw[hu]
  exact .agg us l (by have:=hrep.1;simpa using this) (λy hy=>by
   obtain⟨j,hj,rfl⟩:=List.mem_iff_getElem.1 hy;have hj2:j<us.size:=by have:=hrep.1;simp at this;omega
   exact(hrep.2 j us[j] l[j] (by simp[hj2]) (P2 hj)).2) λi v x hv hx=>(hrep.2 i v x (by simpa using hv) hx).1
theorem V9{t:TypeId}{K:AV->Prop}(hy:YD P t K):∃y,K (.d y)/\∀(O:Nat->Prop)(w:World),Aw O w (.slice none 0 0) y:=by
 unfold YD at hy;split at hy
 ·exact⟨_,hy,λ_ _=>.emp _ _ _⟩
 ·exact hy.elim
theorem LX(h:SimB X G β S a w){g:Option (Nat×Bool)}(hg:BN g a):∀{args:List Operand}{ts:List TypeId}{K:List AV->Bx->Prop},Hu P (σOf S) (ρOf S g) args ts K ->
 ∃vs b,K vs b/\FZ S [] b/\vs.length=args.length/\K5 X G β S a w b λO=>∀(i:Nat) p y,args[i]?=some p->vs[i]?=some y->Ot O w (a.eval p) y
 | [],ts,K,hy=>⟨[],[],hy,trivial,rfl,λ_ _ _ _ _ i p y hp _=>by simp at hp⟩
 | q :: r,ts,K,hy=>by
   unfold Hu at hy;split at hy
   ·rename_i hnil
    cases ts with
    | nil=>exact hy.elim
    | cons t ts =>
      obtain⟨y,hy,hrep⟩:=V9 hy;obtain⟨vs,bs,hK,hFs,hl,hreps⟩:=LX h hg hy;refine⟨_,_,hK,hFs,by simp[hl],hreps.mono (λ_ h=>h) λO hh i p z hp hz=>?_⟩
      cases i with
      | zero=>simp at hp hz;subst hp;subst hz;rw[O6 hnil];exact hrep O w
      | succ i=>exact hh i p z (by simpa using hp) (by simpa using hz)
   ·obtain⟨y,b,hK,hF,_,hrep⟩:=Ll h (ρ_sound h hg q) hy;obtain⟨vs,bs,hK,hFs,hl,hreps⟩:=LX h hg hK;refine⟨_,_,hK,hF.append hFs,by simp[hl],(hrep.and hreps).mono (λ_ h=>h) λO hh i p z hp hz=>?_⟩
    cases i with
    | zero=>simp at hp hz;subst hp;subst hz;exact hh.1
    | succ i=>exact hh.2 i p z (by simpa using hp) (by simpa using hz)
def Wk(β:Nat->Value)(O:Nat->Prop)(w:World)(S:AS)(b:Bx)(v:Value)(id n:Nat):AV->Prop
 | .own sz e xs=>(Af S id).box=.row sz e xs/\(Af S id).ver=n/\v=β id
 | .optr l=>∃cs,(Af S id).box=.var cs/\(Af S id).ver=n/\v=β id/\K4 S b cs l
 | .cc k l=>k=none/\∃(vs:Array Value)(ds:List D)(sz:Nat)(e:TypeId)(xs:List D),l=ds.map .d++[.own sz e xs]/\v=.agg (vs.push (β id))/\Bl O w vs.toList ds/\(Af S id).box=.row sz e xs/\(Af S id).ver=n
 | _=>False
theorem Wk.mono{O:Nat->Prop}{b b':Bx}(hb:∀y∈b,y∈b'){v:Value}{id n:Nat}{y:AV}(h:Wk β O w S b v id n y):Wk β O w S b' v id n y:=by
 cases y<;>first|exact h|(obtain⟨cs,h1,h2,h3,h4⟩:=h;exact⟨cs,h1,h2,h3,h4.mono hb⟩)
theorem σ_row{id n id' n' sz:Nat}{e:TypeId}{xs:List D}(h:σOf S id n=.row id' n' sz e xs):id'=id/\n'=n/\(Af S id).box=.row sz e xs/\(Af S id).ver=n:=by
 simp only[σOf,res]at h;generalize Af S id=s at h;obtain⟨av,b,m⟩:=s
 cases b<;>simp only at h<;>try (cases h;done)
 all_goals (split at h<;>cases h)
 rename_i hm
 exact⟨rfl,rfl,rfl,hm.symm⟩
theorem Wr:∀{cs:List C}{K:List C->Nat->Nat->Prop},R1 (σOf S) cs K->∀{vs:List Value},vs.length=cs.length ->
 (∀(i:Nat) u x,vs[i]?=some u->cs[i]?=some x->BQ β (AG S) (OS β X S) w u x/\u.oneCell'=true) ->
 ∃l id n,K l id n/\∃(us:List Value)(ds:List D)(sz:Nat)(e:TypeId)(xs:List D),l=ds.map .d++[.own sz e xs]/\vs=us++[β id]/\Bl (OS β X S) w us ds/\(Af S id).box=.row sz e xs/\(Af S id).ver=n
 | [],_,hy,_,_,_=>hy.elim
 | .d x :: r,K,hy,vs,hl,hc=>by
   simp only[R1,Nf]at hy
   cases vs with
   | nil=>simp at hl
   | cons v vs =>
     obtain⟨l,id,n,hK,us,ds,sz,e,xs,h1,h2,h3,h4⟩:=Wr hy (vs:=vs) (by simpa using hl) λi u x hu hx=>hc (i+1) u x (by simpa using hu) (by simpa using hx);have h0:=(hc 0 v (.d x) rfl rfl).1;refine⟨_,id,n,hK,v :: us,_ :: ds,sz,e,xs,by rw[h1];rfl,by rw[h2];rfl,⟨by simp[h3.1],λj u y hu hy=>?_⟩,h4⟩
     cases j with
     | zero=>simp at hu hy;subst hu;subst hy;exact⟨h0.1.norm,by cases x<;>first|rfl|exact h0.2⟩
     | succ j=>exact h3.2 j u y (by simpa using hu) (by simpa using hy)
 | .sl id n :: r,K,hy,vs,hl,hc=>by
   simp only[R1]at hy;split at hy
   ·split at hy
    ·rename_i id' n' sz e xs hr
     match vs,hl with
     | [v],_ =>
       have h0:=(hc 0 v (.sl id n) rfl rfl).1;have h1:=σ_row hr;obtain⟨rfl,rfl,h2,h3⟩:=h1;exact⟨_,_,_,hy,[],[],sz,e,xs,rfl,by rw[h0.2 h3.symm];rfl,Bl.nil,h2,h3⟩
    ·exact hy.elim
   ·exact hy.elim
 | .own _ _ _ :: _,_,hy,_,_,_=>hy.elim
theorem Z7(h:SimB X G β S a w){r:RV}{v:Value}(hr:Ou β (OS β X S) S w v r){K:AV->Bx->Option (Nat×Nat)->Prop}(hy:SJ (σOf S) r K) :
 ∃y b u,K y b u/\FZ S [] b/\match u with
  | none=>y.mut=false/\K5 X G β S a w b λO=>Ot O w v y
  | some (id,n)=>Wk β (OS β X S) w S b v id n y:=by
 unfold SJ at hy;split at hy
 ·rename_i id n sz e xs
  exact⟨_,[],some (id,n),hy,trivial,hr⟩
 ·rename_i id n cs
  obtain⟨l,b,hK,hF,hfr,hcd,hh⟩:=MC h hy;obtain⟨h1,h2,bb,h3,h4⟩:=hr;exact⟨_,b,some (id,n),hK,hF,cs,h1,h2,by rw[h4,h3],hcd⟩
 ·rename_i cs
  split at hy
  ·obtain⟨vs,rfl,hl,hc⟩:=hr;obtain⟨l,id,n,hK,us,ds,sz,e,xs,h1,h2,h3,h4,h5⟩:=Wr hy (vs:=vs.toList) (by simpa using hl) λi u x hu hx=>hc i u x (by simpa using hu) hx;exact⟨_,[],some (id,n),hK,trivial,rfl,us.toArray,ds,sz,e,xs,h1,by rw[show vs=us.toArray.push (β id)from by apply Array.ext';simp[h2]],by simpa using h3,h4,h5⟩
  ·obtain⟨y,b,hK,hF,hm,hrep⟩:=Ll h hr hy;exact⟨y,b,none,hK,hF,hm,hrep⟩
 ·obtain⟨y,b,hK,hF,hm,hrep⟩:=Ll h hr hy;exact⟨y,b,none,hK,hF,hm,hrep⟩
theorem Ob(h:SimB X G β S a w){g:Option (Nat×Bool)}(hg:BN g a):∀{args:List Operand}{ts:List TypeId}{K:List AV->Bx->List (Option (Nat×Nat))->Prop},G5 P (σOf S) (ρOf S g) args ts K ->
 ∃vs b us,K vs b us/\FZ S [] b/\vs.length=args.length/\us.length=args.length /\
  (∀(i:Nat) p y id n,args[i]?=some p->vs[i]?=some y->us[i]?=some (some (id,n))->Wk β (OS β X S) w S b (a.eval p) id n y) /\
  (∀(i:Nat) y,vs[i]?=some y->us[i]?=some none->y.mut=false) /\
  K5 X G β S a w b λO=>∀(i:Nat) p y,args[i]?=some p->vs[i]?=some y->us[i]?=some none->Ot O w (a.eval p) y
 | [],ts,K,hy=>⟨[],[],[],hy,trivial,rfl,rfl,(λi p y id n hp=>by simp at hp),(λi y hy=>by simp at hy),λ_ _ _ _ _ i p y hp _=>by simp at hp⟩
 | q :: r,ts,K,hy=>by
   unfold G5 at hy;split at hy
   ·rename_i hnil
    cases ts with
    | nil=>exact hy.elim
    | cons t ts =>
      obtain⟨y,hy,hrep⟩:=V9 hy;obtain⟨vs,bs,us,hK,hFs,hl,hl2,hmut,hnm,hreps⟩:=Ob h hg hy;refine⟨_,_,_,hK,hFs,by simp[hl],by simp[hl2],λi p z id n hp hz hu=>?_,λi z hz hu=>?_,hreps.mono (λ_ h=>h) λO hh i p z hp hz hu=>?_⟩
      ·cases i with
       | zero=>simp at hu
       | succ i=>exact hmut i p z id n (by simpa using hp) (by simpa using hz) (by simpa using hu)
      ·cases i with
       | zero=>simp at hz;subst hz;rfl
       | succ i=>exact hnm i z (by simpa using hz) (by simpa using hu)
      ·cases i with
       | zero=>simp at hp hz;subst hp;subst hz;rw[O6 hnil];exact hrep O w
       | succ i=>exact hh i p z (by simpa using hp) (by simpa using hz) (by simpa using hu)
   ·obtain⟨y,b,u,hK,hF,hu⟩:=Z7 h (ρ_sound h hg q) hy;obtain⟨vs,bs,us,hK,hFs,hl,hl2,hmut,hnm,hreps⟩:=Ob h hg hK;refine⟨_,_,_,hK,hF.append hFs,by simp[hl],by simp[hl2],λi p z id n hp hz huu=>?_,λi z hz huu=>?_,?_⟩
    ·cases i with
     | zero=>simp at hp hz huu;subst hp;subst hz;subst huu;exact hu.mono λy hy=>by simp[hy]
     | succ i=>exact(hmut i p z id n (by simpa using hp) (by simpa using hz) (by simpa using huu)).mono λy hy=>by simp[hy]
    ·cases i with
     | zero=>simp at hz huu;subst hz;subst huu;exact hu.1
     | succ i=>exact hnm i z (by simpa using hz) (by simpa using huu)
    ·intro B hB hf hs hk i p z hp hz huu
     cases i with
     | zero=>simp at hp hz huu;subst hp;subst hz;subst huu;exact hu.2 B (λy hy=>hB y (by simp[hy])) hf hs hk
     | succ i=>exact hreps B (λy hy=>hB y (by simp[hy])) hf hs hk i p z (by simpa using hp) (by simpa using hz) (by simpa using huu)
theorem Tv(h:SimB X G β S a w){g:Option (Nat×Bool)}(hg:BN g a):∀{args:List Operand}{K:List D->Bx->Prop},Je (σOf S) (ρOf S g) args K ->
 ∃l b,K l b/\FZ S [] b/\l.length=args.length/\(∀y∈l,y.one=true)/\K5 X G β S a w b λO=>∀(i:Nat) p y,args[i]?=some p->l[i]?=some y->Aw O w (a.eval p) y
 | [],K,hy=>⟨[],[],hy,trivial,rfl,(λ_ h=>by cases h),λ_ _ _ _ _ i p y hp _=>by simp at hp⟩
 | q :: r,K,hy=>by
   unfold Je at hy;obtain⟨y,b,hK,hF,_,hrep⟩:=Ll h (ρ_sound h hg q) hy;split at hK
   ·rename_i yd
    obtain⟨h1,hK⟩:=Ak hK;obtain⟨l,bs,hK,hFs,hl,ho,hreps⟩:=Tv h hg hK;refine⟨_,_,hK,hF.append hFs,by simp[hl],λz hz=>?_,(hrep.and hreps).mono (λ_ h=>h) λO hh i p z hp hz=>?_⟩
    ·rcases List.mem_cons.1 hz with rfl|hz
     ·exact h1
     ·exact ho z hz
    ·cases i with
     | zero=>simp at hp hz;subst hp;subst hz;exact hh.1
     | succ i=>exact hh.2 i p z (by simpa using hp) (by simpa using hz)
   ·exact hK.elim
theorem Yx(h:SimB X G β S a w){g:Option (Nat×Bool)}(hg:BN g a){f:FuncId}{first caps:Array Operand}(ho:o.op=.makeFunc (.func f) first caps)(hf:first.toList=[]){K:GJ->Prop}
 (hy:Je (σOf S) (ρOf S g) caps.toList λl b=>K ⟨.d (.fn f l),b,[]⟩):∃e,K e/\CW P X G S a w o e:=by
 obtain⟨l,b,hK,hF,hl,ho1,hrep⟩:=Tv h hg hy;obtain⟨h1,_,_⟩:=hF.run h;have hr:=hrep.now h hF;refine⟨_,hK,.inl ⟨.func (.func f) #[] (caps.map a.eval),w,?_,β,h1,?_,rfl⟩⟩
 ·have:first=#[]:=by cases first;simp_all
  simp[execOp,ho,Instr.makeFunc,this]
 ·refine .fn f _ _ (by simp[hl]) ho1 λi v y hv hy=>?_;rw[sM]at hv
  cases hc:caps[i]? with
  | none=>simp[hc]at hv
  | some p=>simp[hc]at hv;subst hv;exact hr i p y (by simpa using hc) hy
theorem Ix{f:FuncId}(hc:EG P f=true)(args:Array Value):(callFunc f args).run P w=.ok (.enter f args) w:=by
 unfold EG at hc;split at hc
 ·rename_i fn hf
  simp only[qX,sY]at hc;have hb:fn.body.isNone=false:=by cases hfb:fn.body<;>simp[hfb]at hc ⊢
  simp only[callFunc,Sem.run_bind,run_program,Result.andThen_ok,hf];simp only[hc.1,hb,qZ,if_false,Sem.run_pure]
 ·cases hc
theorem Ts:∀(l:List D)(K:List AV->Prop),Wx l K=K (l.map .d)
 | [],_=>rfl
 | x :: r,K=>by rw[Wx,Ts r];rfl
theorem Rx:∀(b:Bx)(S:AS)(i:Nat),(∀y∈b,y.1<S.length)->(b.map (·.1)).Nodup->Af (AZ b S) i=match b.find? (λy=>y.1==i)with|some y=>⟨(Af S i).av,y.2.1,y.2.2⟩|none=>Af S i
 | [],_,_,_,_=>rfl
 | (id,B,n) :: r,S,i,hl,hn=>by
   simp only[qk,sJ]at hn;have hid:id<S.length:=hl (id,B,n) (by simp);simp only[AZ];rw[Rx r _ i (λy hy=>by rw[C6];exact hl y (by simp[hy])) hn.2,J7 hid];by_cases he:id=i
   ·subst he
    have hnone:r.find? (λy=>y.1==id)=none:=by
     rw[su];intro y hy hh;simp at hh;exact hn.1 (List.mem_map.2 ⟨y,hy,hh⟩)
    rw[hnone];simp
   ·have he':¬i=id:=λh=>he h.symm;have hb:(id==i)=false:=by simp[he]
    simp only[List.find?_cons,hb,he',if_false]
end
def UX(A:Nat->Prop)(w:World)(v:Value):B6->Prop
 | .row sz e xs=>0<sz/\(∀x∈xs,x.cells.length=sz)/\∃vals,Bj w e sz v xs.length vals/\Bl A w vals (xs.flatMap D.cells)
 | .var cs=>∃ds,cs=ds.map .d/\cH A w v ds
 | _=>False
abbrev RB:=List (Nat×B6×Nat×Value)
def R5(r:RB):Bx:=r.map λy=>(y.1,y.2.1,y.2.2.1)
def fS(β:Nat->Value)(r:RB)(i:Nat):Value:=match List.find? (λy=>y.1==i) r with|some y=>y.2.2.2|none=>β i
section
variable {P:Program} {X:Cx} {G:Nat->Prop} {β:Nat->Value} {S:AS} {a:Act} {w:World} {o:Oper}
theorem UX.rep{A:Nat->Prop}{v:Value}{B:B6}(h:UX A w v B){O:Nat->Prop}(hO:∀b,O b->A b){β:Nat->Value}{n:Nat->Nat}{i:Nat}(hβ:β i=v):I3 β n O w i B:=by
 cases B with
 | none=>trivial
 | row sz e xs =>
   obtain⟨h1,h2,vals,h3,h4⟩:=h;exact⟨h1,h2,vals,by rw[hβ];exact h3,h4.mono (B0.of_sub hO)⟩
 | var cs =>
   obtain⟨ds,rfl,b,vals,T,h1,h2,h3⟩:=h;exact⟨b,vals,T,by rw[hβ];exact h1,h2,by have:=h3.1;simpa using this,λj v c hv hc=>(h3.mono (B0.of_sub hO)).cells j v c (by grind) hc⟩
 | fvar cs=>exact h.elim
 | frow sz xs=>exact h.elim
 | map es=>exact h.elim
theorem Ri{α:Type}{l:List α}{p:α->Bool}{y:α}(h:l.find? p=some y):y∈l/\p y=true:=by grind
theorem Rq:∀{l:Bx},(l.map (·.1)).Nodup->∀{y z:Nat×B6×Nat},y∈l->z∈l->y.1=z.1->y=z
 | [],_,_,_,h,_,_=>by cases h
 | q :: r,hn,y,z,hy,hz,e=>by
   simp only[qk,sJ]at hn;rcases List.mem_cons.1 hy with hy|hy<;>rcases List.mem_cons.1 hz with hz|hz
   ·grind
   ·grind
   ·grind
   ·exact Rq hn.2 hy hz e
theorem SL(h:SimB X G β S a w){ub:Bx}{rb:RB}{w':World}(hnd:((ub++R5 rb).map (·.1)).Nodup)(hlt:∀y∈ub++R5 rb,y.1<S.length)
 (hub:∀y∈ub,(Af S y.1).box.owned=true/\((y.2.1.owned=true/\y.2.2=(Af S y.1).ver)\/(y.2.1=.none/\(Af S y.1).ver<y.2.2)))
 (hrb:∀y:Nat×B6×Nat×Value,y∈rb->y.2.1.owned=true/\(Af S y.1).ver<y.2.2.1)
 (hw:A7 w.heap.size (λb=>∃y∈ub,Ac (β y.1)=some b) w w') (A:Nat->Prop)
 (hA1:∀b,OS β X S b->(∀y∈ub,Ac (β y.1)≠some b)->A b) (hA2:∀b,∀y∈ub,y.2.1.owned=true->Ac (β y.1)=some b->A b) (hA3:∀b,∀y:Nat×B6×Nat×Value,y∈rb->Ac y.2.2.2=some b->A b)
 (hmine:∀y:Nat×B6×Nat×Value,y∈rb->∀b,Ac y.2.2.2=some b->w.heap.size<=b\/∃z∈ub,z.2.1=.none/\Ac (β z.1)=some b)
 (hrinj:∀y z:Nat×B6×Nat×Value,y∈rb->z∈rb->∀b,Ac y.2.2.2=some b->Ac z.2.2.2=some b->y.1=z.1)
 (hubox:∀y∈ub,y.2.1.owned=true->UX A w' (β y.1) y.2.1) (hrbox:∀y:Nat×B6×Nat×Value,y∈rb->UX A w' y.2.2.2 y.2.1) :
 SimB X G (fS β rb) (AZ (ub++R5 rb) S) a w'/\(∀b,OS (fS β rb) X (AZ (ub++R5 rb) S) b->A b):=by
 have hsg:=λi=>Rx (ub++R5 rb) S i hlt hnd
 have hfr:∀i,List.find? (λy=>y.1==i) (R5 rb)=(List.find? (λy=>y.1==i) rb).map λy=>(y.1,y.2.1,y.2.2.1):=by
  intro i;unfold R5;rw[List.find?_map];rfl
 let E:Nat->Option (B6×Nat×Value):=λi=>match List.find? (λy=>y.1==i) ub with
  | some y=>some (y.2.1,y.2.2,β i)
  | none=>match List.find? (λy=>y.1==i) rb with
    | some y=>some (y.2.1,y.2.2.1,y.2.2.2)
    | none=>none
 have hEu:∀i B n v,E i=some (B,n,v)->(∃y∈ub,y.1=i/\B=y.2.1/\n=y.2.2/\v=β i)\/(∃y,y∈rb/\y.1=i/\B=y.2.1/\n=y.2.2.1/\v=y.2.2.2):=by grind
 have hEin:∀y∈ub,∃B n v,E y.1=some (B,n,v):=by
  intro y hy;simp only[E]
  cases hf:List.find? (λz=>z.1==y.1) ub with
  | some z=>grind
  | none=>grind
 have hdis:∀y∈ub,∀z,z∈rb->y.1≠z.1:=by
  intro y hy z hz e;rw[qx,sc]at hnd;refine hnd.2.2 y.1 (List.mem_map.2 ⟨y,hy,rfl⟩) z.1 ?_ e;exact List.mem_map.2 ⟨(z.1,z.2.1,z.2.2.1),List.mem_map.2 ⟨z,hz,rfl⟩,rfl⟩
 have huniq:∀y∈ub,∀z∈ub,y.1=z.1->y=z:=by
  intro y hy z hz e;rw[qx,sc]at hnd;exact Rq hnd.1 hy hz e
 have hS:∀i,Af (AZ (ub++R5 rb) S) i=match E i with|some (B,n,_)=>⟨(Af S i).av,B,n⟩|none=>Af S i:=by
  intro i;rw[hsg i,List.find?_append,hfr];simp only[E]
  cases List.find? (λy=>y.1==i) ub with
  | some y=>rfl
  | none=>grind
 have hβ:∀i,fS β rb i=match E i with|some (_,_,v)=>v|none=>β i:=by
  intro i;simp only[fS,E];grind
 have hOA:∀b,OS (fS β rb) X (AZ (ub++R5 rb) S) b->A b:=by
  intro b hb;rcases hb with hb|hb|⟨i,h1,h2⟩
  ·refine hA1 b (.inl hb) λy hy hyb=>?_;have:=h.o₀ b hb;rcases(h.mine y.1 b (hub y hy).1 hyb).1 with h3|h3
   ·omega
   ·grind
  ·exact hA1 b (.inr (.inl hb)) λy hy hyb=>(h.mine y.1 b (hub y hy).1 hyb).2 hb
  ·rw[hS]at h1;rw[hβ]at h2
   cases hE:E i with
   | none =>
     rw[hE]at h1 h2;refine hA1 b (.inr (.inr ⟨i,h1,h2⟩)) λy hy hyb=>?_;have:=h.inj i y.1 b h1 (hub y hy).1 h2 hyb;grind
   | some q=>grind
 refine⟨h.multi E hS hβ (Cc _ _) hw.size (hw.weaken h.hbase λk hk hm hh=>?_) ?_ ?_ ?_ ?_ ?_,hOA⟩
 ·obtain⟨y,hy,hyb⟩:=hh;rcases(h.mine y.1 k (hub y hy).1 hyb).1 with h3|h3
  ·omega
  ·grind
 ·intro i B n v hE;rcases hEu i B n v hE with⟨y,hy,rfl,h4,h5,h6⟩|⟨y,hy,rfl,h4,h5,h6⟩
  ·rcases(hub y hy).2 with⟨_,h7⟩|⟨_,h7⟩
   ·exact .inr ⟨by rw[h5,h7],h6,λhh=>by have:=(hub y hy).1;rw[hh]at this;cases this⟩
   ·grind
  ·grind
 ·intro b hb hno;refine hw.block b hb λ⟨y,hy,hyb⟩=>?_;grind
 ·intro i B n v b hE hB hv;rcases hEu i B n v hE with⟨y,hy,rfl,h4,h5,h6⟩|⟨y,hy,rfl,h4,h5,h6⟩
  ·grind
  ·rcases hmine y hy b (by grind)with h7|⟨z,hz,_,hzb⟩
   ·grind
   ·obtain⟨B',n',v',hEz⟩:=hEin z hz;grind
 ·intro i j B n v B' n' v' b hEi hEj hB hB' hv hv'
  have key:∀i j B n v B' n' v',E i=some (B,n,v)->E j=some (B',n',v')->B.owned=true->Ac v=some b->Ac v'=some b->(∃y∈ub,y.1=i/\B=y.2.1/\n=y.2.2/\v=β i)->(∃y,y∈rb/\y.1=j/\B'=y.2.1/\n'=y.2.2.1/\v'=y.2.2.2)->False:=by
   intro i j B n v B' n' v' hEi hEj hB hv hv' ⟨y,hy,h3,h4,h5,h6⟩ ⟨z,hz,k3,k4,k5,k6⟩;have hbi:Ac (β y.1)=some b:=by grind
   rcases hmine z hz b (by grind)with h7|⟨q,hq,hqn,hqb⟩
   ·have:=h.blk (hub y hy).1 hbi;omega
   ·have:=h.inj y.1 q.1 b (hub y hy).1 (hub q hq).1 hbi hqb;have e:=huniq y hy q hq this;rw[h4,e,hqn]at hB
    cases hB
  rcases hEu i B n v hEi with hy|hy<;>rcases hEu j B' n' v' hEj with hz|hz
  ·obtain⟨y,hy,rfl,h4,h5,h6⟩:=hy;obtain⟨z,hz,rfl,k4,k5,k6⟩:=hz;exact h.inj y.1 z.1 b (hub y hy).1 (hub z hz).1 (by rw[<-h6];exact hv) (by grind)
  ·exact(key i j B n v B' n' v' hEi hEj hB hv hv' hy hz).elim
  ·exact(key j i B' n' v' B n v hEj hEi hB' hv' hv hz hy).elim
  ·obtain⟨y,hy,rfl,h4,h5,h6⟩:=hy;obtain⟨z,hz,rfl,k4,k5,k6⟩:=hz;exact hrinj y z hy hz b (by rw[<-h6];exact hv) (by grind)
 ·intro k hvv i B n v hE;rcases hEu i B n v hE with⟨y,hy,h3,h4,h5,h6⟩|⟨y,hy,h3,h4,h5,h6⟩
  ·by_cases hB:B.owned=true
   ·refine UX.rep (v:=β y.1) (by grind) hOA ?_;grind
   ·rcases(hub y hy).2 with⟨h7,_⟩|⟨h7,_⟩
    ·grind
    ·rw[h4,h7];trivial
  ·refine UX.rep (v:=y.2.2.2) (by grind) hOA ?_;grind
theorem Qz:∀{xs:List C}{hs:List (Nat×Nat)}{K:List C->Bx->Prop},RP xs hs K ->
 ∃l b,K l b/\l.length=xs.length/\(b.map (·.1)).Nodup/\(b.map λy=>(y.1,y.2.2))=hs /\
  (∀(i:Nat) c c',xs[i]?=some c->l[i]?=some c'->match c with
   | .d y=>c'=.d y
   | .own sz e ys=>∃h n,c'=.sl h n/\(h,B6.row sz e ys,n)∈b
   | .sl _ _=>False) /\
  (∀y∈b,∃(i:Nat)(sz:Nat)(e:TypeId)(ys:List D),xs[i]?=some (.own sz e ys)/\l[i]?=some (.sl y.1 y.2.2)/\y.2.1=.row sz e ys) /\
  (∀(i j h n n':Nat),l[i]?=some (.sl h n)->l[j]?=some (.sl h n')->i=j)
 | [],[],K,hy=>⟨[],[],hy,rfl,by simp,rfl,(λi c c' h=>by simp at h),(λy hy=>by cases hy),λi j h n n' h1=>by simp at h1⟩
 | [],_ :: _,K,hy=>hy.elim
 | .d x :: r,hs,K,hy=>by
   have hy:RP r hs λl b=>K (.d x :: l) b:=by cases hs<;>exact hy
   obtain⟨l,b,hK,h1,h2,h3,h4,h5,h6⟩:=Qz hy;refine⟨_,_,hK,by simp[h1],h2,h3,λi c c' hc hc'=>?_,λy hy=>?_,λi j h n n' hi hj=>?_⟩
   ·grind
   ·obtain⟨i,sz,e,ys,k1,k2,k3⟩:=h5 y hy;exact⟨i+1,sz,e,ys,by simpa using k1,by simpa using k2,k3⟩
   ·grind
 | .own sz e ys :: r,[],K,hy=>hy.elim
 | .own sz e ys :: r,(h,n) :: hs,K,hy=>by
   have hy:RP r hs λl b=>if Fj h b=true then K (.sl h n :: l) ((h,.row sz e ys,n) :: b)else False:=hy
   obtain⟨l,b,hK,h1,h2,h3,h4,h5,h6⟩:=Qz hy;obtain⟨hni,hK⟩:=Ak hK
   have notail:∀(j n':Nat),l[j]?≠some (.sl h n'):=by
    intro j n' hj;have hjx:j<r.length:=by grind
    have:=h4 j r[j] _ (P2 hjx) hj;generalize r[j]=q at this
    cases q with
    | d y=>cases this
    | own sz' e' ys'=>obtain⟨h',n'',k1,k2⟩:=this;simp at k1;exact EP hni _ k2 k1.1.symm
    | sl _ _=>exact this
   refine⟨_,_,hK,by simp[h1],?_,by simp[h3],λi c c' hc hc'=>?_,λy hy=>?_,λi j h' n1 n' hi hj=>?_⟩
   ·grind
   ·grind
   ·rcases List.mem_cons.1 hy with rfl|hy
    ·exact⟨0,sz,e,ys,rfl,rfl,rfl⟩
    ·obtain⟨i,sz',e',ys',k1,k2,k3⟩:=h5 y hy;exact⟨i+1,sz',e',ys',by simpa using k1,by simpa using k2,k3⟩
   ·grind
 | .sl _ _ :: r,[],K,hy=>hy.elim
 | .sl _ _ :: r,_ :: _,K,hy=>hy.elim
theorem Mf:∀{xs:List C},U7 xs=false->∀(i:Nat) sz e ys,xs[i]?≠some (.own sz e ys)
 | [],_,i,sz,e,ys=>by simp
 | .d x :: r,h,0,sz,e,ys=>by simp
 | .d x :: r,h,i+1,sz,e,ys=>by simpa using Mf (show U7 r=false from h) i sz e ys
 | .sl _ _ :: r,h,0,sz,e,ys=>by simp
 | .sl _ _ :: r,h,i+1,sz,e,ys=>by simpa using Mf (show U7 r=false from h) i sz e ys
 | .own _ _ _ :: r,h,_,_,_,_=>by simp[U7]at h
structure n3(X:Cx)(G:Nat->Prop)(β:Nat->Value)(S:AS)(a:Act)(w:World)(ub:Bx)(A:Nat->Prop)(r:AV)(v:Value)(w':World):Prop where
 sim:SimB X G β S a w
 hub:∀y∈ub,(Af S y.1).box.owned=true/\((y.2.1.owned=true/\y.2.2=(Af S y.1).ver)\/(y.2.1=.none/\(Af S y.1).ver<y.2.2))
 hw:A7 w.heap.size (λb=>∃y∈ub,Ac (β y.1)=some b) w w'
 hA1:∀b,OS β X S b->(∀y∈ub,Ac (β y.1)≠some b)->A b
 hA2:∀b,∀y∈ub,y.2.1.owned=true->Ac (β y.1)=some b->A b
 res:CK (λb=>w.heap.size<=b\/∃z∈ub,z.2.1=.none/\Ac (β z.1)=some b) A w' v r
 outs:∀y∈ub,y.2.1.owned=true->UX (λb=>A b\/Dw v r b) w' (β y.1) y.2.1
theorem XH{rb:RB}{ub:Bx}(hnd:((ub++R5 rb).map (·.1)).Nodup)(hlt:∀y∈ub++R5 rb,y.1<S.length){y:Nat×B6×Nat×Value}(hy:y∈rb):AG (AZ (ub++R5 rb) S) y.1=y.2.2.1/\fS β rb y.1=y.2.2.2:=by
 have hmem:(y.1,y.2.1,y.2.2.1)∈ub++R5 rb:=List.mem_append.2 (.inr (List.mem_map.2 ⟨y,hy,rfl⟩));constructor
 ·simp only[AG];rw[Rx _ S y.1 hlt hnd]
  cases hf:(ub++R5 rb).find? (λz=>z.1==y.1)with
  | none=>grind
  | some z =>
    have:=Ri hf;have e:=Rq hnd this.1 hmem (by grind);simp only[e]
 ·unfold fS
  cases hf:rb.find? (λz=>z.1==y.1)with
  | none=>grind
  | some z =>
    have hz:=Ri hf;have e:z.1=y.1:=by grind
    have:z=y:=by
     rw[qx,sc]at hnd;have hn:((R5 rb).map (·.1)).Nodup:=hnd.2.1;clear hmem hlt hnd hf
     induction rb with
     | nil=>grind
     | cons q r ih =>
       simp only[R5,qk,sJ]at hn;rcases List.mem_cons.1 hy with hy'|hy'<;>rcases List.mem_cons.1 hz.1 with hz'|hz'
       ·grind
       ·grind
       ·grind
       ·exact ih hy' ⟨hz',hz.2⟩ hn.2
    rw[this]
theorem U6{pre ub:Bx}{S0:AS}(hS:S=AZ pre S0){d:Nat}(hd:d<S.length){dv:Nat}(hdv:(Af S d).ver<=dv){r:AV}{K:GJ->Prop}(hnd:(ub.map (·.1)).Nodup)(hltu:∀y∈ub,y.1<S.length)(hy:gS d dv r (pre++ub) K)(hvp:∀i,(Af S i).ver=(Af S0 i).ver) :
 ∃e,K e/\∀(A:Nat->Prop) v w',n3 X G β S a w ub A r v w'->G4 S0 e.homes=true->R6 X G S0 a e v w':=by
 have hlen:S.length=S0.length:=by rw[hS,Cc]
 have one:∀(B:B6)(A:Nat->Prop)(v:Value)(w':World),Fj d (pre++ub)=true->n3 X G β S a w ub A r v w'->B.owned=true->(∀b,Ac v=some b->w.heap.size<=b\/∃z∈ub,z.2.1=.none/\Ac (β z.1)=some b)->(∀b,Ac v=some b->Dw v r b) ->
  UX (λb=>A b\/Dw v r b) w' v B->SimB X G (fS β [(d,B,dv+1,v)]) (AZ (ub++R5 [(d,B,dv+1,v)]) S) a w'/\AG (AZ (ub++R5 [(d,B,dv+1,v)]) S) d=dv+1/\fS β [(d,B,dv+1,v)] d=v:=by
  intro B A v w' hni hp hB hmine hres hbox
  have hnd2:((ub++R5 [(d,B,dv+1,v)]).map (·.1)).Nodup:=by
   simp only[R5,qx,qk,qH];rw[sc];refine⟨hnd,by simp,λp hp q hq e=>?_⟩;simp at hq;subst hq;obtain⟨y,hy,rfl⟩:=List.mem_map.1 hp;exact EP hni y (by simp[hy]) e
  have hlt2:∀y∈ub++R5 [(d,B,dv+1,v)],y.1<S.length:=by
   intro y hy;rcases List.mem_append.1 hy with hy|hy
   ·exact hltu y hy
   ·simp[R5]at hy;rw[hy];exact hd
  have h1:=SL hp.sim hnd2 hlt2 hp.hub (λy hy=>by simp at hy;subst hy;exact⟨hB,by simp only;omega⟩) hp.hw (λb=>A b\/Dw v r b)
   (λb hb hn=>.inl (hp.hA1 b hb hn)) (λb y hy ho hb=>.inl (hp.hA2 b y hy ho hb)) (λb y hy hb=>by simp at hy;subst hy;exact .inr (hres b hb))
   (λy hy b hb=>by simp at hy;subst hy;exact hmine b hb) (λy z hy hz b _ _=>by simp at hy hz;rw[hy,hz]) hp.outs (λy hy=>by simp at hy;subst hy;exact hbox)
  have h2:=XH (β:=β) hnd2 hlt2 (y:=(d,B,dv+1,v)) (by simp);exact⟨h1.1,h2.1,h2.2⟩
 have none_:∀(A:Nat->Prop)(v:Value)(w':World),n3 X G β S a w ub A r v w'->(∀b,¬Dw v r b)->SimB X G β (AZ ub S) a w'/\∀b,OS β X (AZ ub S) b->A b:=by
  intro A v w' hp hno
  have h1:=SL (rb:=[]) hp.sim (by simpa [R5] using hnd) (by simpa [R5] using hltu) hp.hub (λy hy=>by cases hy) hp.hw A hp.hA1 hp.hA2 (λb y hy=>by cases hy) (λy hy=>by cases hy) (λy z hy=>by cases hy)
   (λy hy ho=>by
    have:=hp.outs y hy ho;have e:(λb=>A b\/Dw v r b)=A:=by funext b;apply propext;exact⟨λh=>h.resolve_right (hno b),.inl⟩
    rwa [e]at this) (λy hy=>by cases hy)
  have e:fS β []=β:=by funext i;rfl
  rw[e]at h1
  simpa [R5] using h1
 cases r with
 | own sz e xs =>
   simp only[gS]at hy;obtain⟨hni,hK⟩:=Ak hy;refine⟨_,hK,λA v w' hp _=>?_⟩;obtain⟨h1,h2,h3,vals,h4,h5⟩:=hp.res;obtain⟨k1,k2,k3⟩:=one (.row sz e xs) A v w' hni hp rfl h3 (λb hb=>hb) ⟨h1,h2,vals,h4,h5.mono (B0.of_sub λ_ _=>trivial)⟩;have ee:AZ ((pre++ub)++[(d,B6.row sz e xs,dv+1)]) S0=AZ (ub++R5 [(d,.row sz e xs,dv+1,v)]) S:=by simp only[BB];rw[<-hS];rfl
   refine⟨fS β [(d,.row sz e xs,dv+1,v)],?_,?_,rfl⟩
   ·simp only[ee];exact k1
   ·simp only[ee];exact⟨by rw[k2];exact qb _,λ_=>k3.symm⟩
 | cc k0 l =>
   simp only[gS]at hy;split at hy<;>try exact hy.elim
   rename_i sz e xs
   obtain⟨hni,hK⟩:=Ak hy;refine⟨_,hK,λA v w' hp _=>?_⟩;obtain⟨h1,h2,h3,vals,h4,h5⟩:Tj _ A w' v [.own sz e xs]:=hp.res;obtain⟨k1,k2,k3⟩:=one (.row sz e xs) A v w' hni hp rfl h3 (λb hb=>hb) ⟨h1,h2,vals,h4,h5⟩;have ee:AZ ((pre++ub)++[(d,B6.row sz e xs,dv+1)]) S0=AZ (ub++R5 [(d,.row sz e xs,dv+1,v)]) S:=by simp only[BB];rw[<-hS];rfl
   refine⟨fS β [(d,.row sz e xs,dv+1,v)],?_,?_,rfl⟩
   ·simp only[ee];exact k1
   ·simp only[ee];exact⟨by rw[k2];exact qb _,λ_=>k3.symm⟩
 | optr cs =>
   simp only[gS]at hy;obtain⟨hni,hK⟩:=Ak hy;rw[P6]at hK;refine⟨_,hK,λA v w' hp _=>?_⟩;obtain⟨h1,h2⟩:=hp.res;obtain⟨k1,k2,k3⟩:=one (.var (cs.map .d)) A v w' hni hp rfl h1 (λb hb=>hb) ⟨cs,rfl,h2⟩;have e:AZ ((pre++ub)++[(d,B6.var (cs.map .d),dv+1)]) S0=AZ (ub++R5 [(d,.var (cs.map .d),dv+1,v)]) S:=by simp only[BB];rw[<-hS];rfl
   refine⟨fS β [(d,.var (cs.map .d),dv+1,v)],?_,?_,rfl⟩
   ·simp only[e];exact k1
   ·simp only[e];obtain⟨b,vals,T,h3,_,_⟩:=h2;exact⟨by rw[k2];exact qb _,λ_=>⟨b,by rw[k3,h3],h3⟩⟩
 | tup xs =>
   simp only[gS]at hy;split at hy
   ·rename_i hno
    refine⟨_,hy,λA v w' hp _=>?_⟩
    have hnr:∀b,¬Dw v (.tup xs) b:=by
     rintro b ⟨vs,i,u,sz,e,ys,_,_,h3,_⟩;exact Mf hno i sz e ys h3
    obtain⟨h1,h2⟩:=none_ A v w' hp hnr;obtain⟨vs,hv,hl,hr,_⟩:=hp.res;refine⟨β,?_,⟨vs,hv,hl,λi u c hu hc=>?_⟩,rfl⟩
    ·simp only[BB];rw[<-hS];exact h1
    ·have:=hr i u c hu hc
     cases c with
     | d y =>
       refine Aw.mono (B0.of_sub λb hb=>.inl (h2 b ?_)) this;simp only[BB]at hb;rw[<-hS]at hb;exact hb
     | own sz e ys=>exact absurd hc (Mf hno i sz e ys)
     | sl _ _=>exact this.elim
   ·obtain⟨hs,hy⟩:=hy.go;obtain⟨l,hb,hK,hl,hbn,hhs,hpt,hpb,hlinj⟩:=Qz hy;obtain⟨hall,hK⟩:=Ak hK;refine⟨_,hK,λA v w' hp hok=>?_⟩;obtain⟨vs,hv,hvl,hr,hri⟩:=hp.res;have hx:∀y∈hb,∃(i:Nat)(sz:Nat)(e:TypeId)(ys:List D),xs[i]?=some (.own sz e ys)/\l[i]?=some (.sl y.1 y.2.2)/\y.2.1=.row sz e ys:=hpb
    have hch:∃f:Nat×B6×Nat->Value,∀y∈hb,∃(i:Nat)(sz:Nat)(e:TypeId)(ys:List D),xs[i]?=some (.own sz e ys)/\l[i]?=some (.sl y.1 y.2.2)/\y.2.1=.row sz e ys/\vs[i]?=some (f y):=by
     refine⟨λy=>Classical.epsilon λu=>∃(i:Nat)(sz:Nat)(e:TypeId)(ys:List D),xs[i]?=some (.own sz e ys)/\l[i]?=some (.sl y.1 y.2.2)/\y.2.1=.row sz e ys/\vs[i]?=some u,λy hyy=>?_⟩;obtain⟨i,sz,e,ys,k1,k2,k3⟩:=hx y hyy;have hlt:i<vs.size:=by rw[hvl];exact A5 k1
     exact Classical.epsilon_spec (p:=λu=>∃(i:Nat)(sz:Nat)(e:TypeId)(ys:List D),xs[i]?=some (.own sz e ys)/\l[i]?=some (.sl y.1 y.2.2)/\y.2.1=.row sz e ys/\vs[i]?=some u) ⟨vs[i],i,sz,e,ys,k1,k2,k3,by simp[hlt]⟩
    obtain⟨f,hf⟩:=hch;let rb:RB:=hb.map λy=>(y.1,y.2.1,y.2.2,f y);have hrbx:R5 rb=hb:=by simp[R5,rb,List.map_map,Function.comp_def]
    have hmemr:∀y,y∈rb->∃z∈hb,y=(z.1,z.2.1,z.2.2,f z):=by
     intro y hyy;obtain⟨z,hz,rfl⟩:=List.mem_map.1 hyy;exact⟨z,hz,rfl⟩
    have hnd2:((ub++R5 rb).map (·.1)).Nodup:=by
     rw[hrbx,qx,sc];refine⟨hnd,hbn,λp hp' q hq e=>?_⟩;obtain⟨y,hyy,rfl⟩:=List.mem_map.1 hp';obtain⟨z,hz,rfl⟩:=List.mem_map.1 hq;have:=List.all_eq_true.1 hall z hz;exact EP this y (by simp[hyy]) e
    have hhome:∀y∈hb,y.1<S.length/\(Af S y.1).ver<y.2.2:=by
     intro y hyy;have:(y.1,y.2.2)∈hs:=by rw[<-hhs];exact List.mem_map.2 ⟨y,hyy,rfl⟩
     have key:∀(hs:List (Nat×Nat)),G4 S0 hs=true->∀p∈hs,p.1<S0.length/\(Af S0 p.1).ver<p.2:=by
      intro hs
      induction hs with
      | nil=>intro _ p hp';cases hp'
      | cons q r ih =>
        intro hok p hp';obtain⟨q1,q2⟩:=q;simp[G4]at hok;rcases List.mem_cons.1 hp' with rfl|hp'
        ·exact⟨hok.1.1,hok.1.2⟩
        ·exact ih hok.2 p hp'
     have:=key hs hok _ this;exact⟨by rw[hlen];exact this.1,by rw[hvp];exact this.2⟩
    have hlt2:∀y∈ub++R5 rb,y.1<S.length:=by
     intro y hyy;rw[hrbx]at hyy;rcases List.mem_append.1 hyy with hyy|hyy
     ·exact hltu y hyy
     ·exact(hhome y hyy).1
    have hrow:∀z∈hb,∃(i:Nat)(sz:Nat)(e:TypeId)(ys:List D),xs[i]?=some (.own sz e ys)/\l[i]?=some (.sl z.1 z.2.2)/\z.2.1=.row sz e ys/\vs[i]?=some (f z)/\Uw (λb=>w.heap.size<=b\/∃z∈ub,z.2.1=.none/\Ac (β z.1)=some b) w' (f z) sz e ys:=by
     intro z hz;obtain⟨i,sz,e,ys,k1,k2,k3,k4⟩:=hf z hz;exact⟨i,sz,e,ys,k1,k2,k3,k4,hr i _ _ k4 k1⟩
    have h1:=SL (rb:=rb) hp.sim hnd2 hlt2 hp.hub
     (λy hyy=>by
      obtain⟨z,hz,rfl⟩:=hmemr y hyy;obtain⟨i,sz,e,ys,_,_,k3,_⟩:=hrow z hz;exact⟨by simp only[k3];rfl,(hhome z hz).2⟩) hp.hw (λb=>A b\/Dw v (.tup xs) b)
     (λb hb hn=>.inl (hp.hA1 b hb hn)) (λb y hy ho hb=>.inl (hp.hA2 b y hy ho hb))
     (λb y hyy hbb=>by
      obtain⟨z,hz,rfl⟩:=hmemr y hyy;obtain⟨i,sz,e,ys,k1,_,_,k4,_⟩:=hrow z hz;exact .inr ⟨vs,i,f z,sz,e,ys,hv,k4,k1,hbb⟩)
     (λy hyy b hbb=>by
      obtain⟨z,hz,rfl⟩:=hmemr y hyy;obtain⟨i,sz,e,ys,k1,_,_,k4,k5⟩:=hrow z hz;exact k5.2.2.1 b hbb)
     (λy z hyy hzz b hb1 hb2=>by
      obtain⟨y',hy',rfl⟩:=hmemr y hyy;obtain⟨z',hz',rfl⟩:=hmemr z hzz;obtain⟨i,sz,e,ys,k1,k2,_,k4,_⟩:=hrow y' hy';obtain⟨j,sz2,e2,ys2,q1,q2,_,q4,_⟩:=hrow z' hz';have:=hri i j _ _ sz e ys sz2 e2 ys2 b k4 q4 k1 q1 hb1 hb2;subst this;rw[k2]at q2;simp at q2;exact q2.1) hp.outs
     (λy hyy=>by
      obtain⟨z,hz,rfl⟩:=hmemr y hyy;obtain⟨i,sz,e,ys,k1,_,k3,k4,k5⟩:=hrow z hz;simp only[k3];obtain⟨j1,j2,j3,vals,j4,j5⟩:=k5;exact⟨j1,j2,vals,j4,j5.mono (B0.of_sub λ_ _=>trivial)⟩)
    have hee:AZ ((pre++ub)++hb) S0=AZ (ub++R5 rb) S:=by rw[hrbx];simp only[BB];rw[<-hS]
    refine⟨fS β rb,?_,⟨vs,hv,by rw[hl];exact hvl,λi u c hu hc=>?_⟩,rfl⟩
    ·simp only[hee];exact h1.1
    ·simp only[hee];have hix:i<xs.length:=by rw[<-hl];exact A5 hc
     have hxi:xs[i]?=some xs[i]:=P2 hix;have hp1:=hpt i xs[i] c hxi hc;have hr1:=hr i u xs[i] hu hxi;generalize xs[i]=q at hp1 hr1 hxi
     cases q with
     | d y=>subst hp1;exact Aw.mono (B0.of_sub λb hb=>h1.2 b hb) hr1
     | own sz e ys =>
       obtain⟨h,n,rfl,hmem⟩:=hp1;have hy2:(h,B6.row sz e ys,n,f (h,.row sz e ys,n))∈rb:=List.mem_map.2 ⟨_,hmem,rfl⟩;have hvs:=XH (β:=β) hnd2 hlt2 hy2;obtain⟨j,sz2,e2,ys2,q1,q2,_,q4,_⟩:=hrow _ hmem;refine⟨by simp only at hvs;rw[hvs.1];exact qb _,λ_=>?_⟩;simp only at hvs;rw[hvs.2];have hij:i=j:=hlinj i j h n n hc q2;subst hij;rw[hu]at q4;exact P3 q4
     | sl _ _=>exact hp1.elim
 | under t want y=>exact hy.elim
 | ptr id n off=>exact hy.elim
 | sl id n=>exact hy.elim
 | eptr id n sz i off=>exact hy.elim
 | any =>
   refine⟨_,hy,λA v w' hp _=>?_⟩;obtain⟨h1,h2⟩:=none_ A v w' hp (λb h=>h);refine⟨β,?_,trivial,rfl⟩;simp only[BB];rw[<-hS];exact h1
 | bot =>
   refine⟨_,hy,λA v w' hp _=>?_⟩;exact hp.res.elim
 | d y =>
   refine⟨_,hy,λA v w' hp _=>?_⟩;obtain⟨h1,h2⟩:=none_ A v w' hp (λb h=>h);have hr:Aw A w' v y:=hp.res;refine⟨β,?_,?_,rfl⟩
   ·simp only[BB];rw[<-hS];exact h1
   ·show Aw _ _ _ _;simp only[BB];rw[<-hS];exact hr.mono (B0.of_sub h2)
 | lim sz xs =>
   refine⟨_,hy,λA v w' hp _=>?_⟩;obtain⟨h1,h2⟩:=none_ A v w' hp (λb h=>h);have hr:Aw A w' v (.list sz xs)/\RE v=xs.length:=hp.res;refine⟨β,?_,?_,rfl⟩
   ·simp only[BB];rw[<-hS];exact h1
   ·show Aw _ _ _ _/\_;simp only[BB];rw[<-hS];exact⟨hr.1.mono (B0.of_sub h2),hr.2⟩
end
section
variable {P:Program} {X:Cx} {G:Nat->Prop} {β:Nat->Value} {S:AS} {a:Act} {w:World} {o:Oper}
theorem mU{O O':Nat->Prop}{w w':World}{v:Value}{y:D}(h:Aw O w v y)(hb:(AV.d y).bare=true):Aw O' w' v y:=by
 cases h with
 | agg vs xs hl h1 h =>
   simp only[AV.bare,rQ]at hb;exact .agg vs xs hl h1 λi v x hv hx=>RA (h i v x hv hx) (hb x (qn hx))
 | bool b=>exact .bool b
 | int k n=>exact .int k n
 | str s=>exact .str s
 | fn f vs xs hl h1 h=>exact RA (.fn f vs xs hl h1 h) hb
 | ptr b off cs c hb' hO h1 hcell h=>simp[AV.bare,D.bare]at hb
 | nil a sz=>exact .nil a sz
 | emp a cap sz=>exact .emp a cap sz
 | list b off cap sz xs c hne hb' hO hcap hsz h1 hcell h=>exact RA (.list b off cap sz xs c hne hb' hO hcap hsz h1 hcell h) hb
theorem CK.bare{mine O:Nat->Prop}{v:Value}{r:AV}(h:CK mine O w v r)(hb:r.bare=true):CK mine (λ_=>True) w v r:=by
 cases r<;>try (simp[AV.bare]at hb;done)
 case d x =>
  have h':Aw O w v x:=h;clear h;show Aw _ _ _ _;exact mU h' hb
 case tup xs =>
  simp only[AV.bare,rQ]at hb;obtain⟨vs,h1,h2,h3,h4⟩:=h;refine⟨vs,h1,h2,λi u c hu hc=>?_,h4⟩;have:=h3 i u c hu hc;have hbc:=hb c (qn hc)
  cases c with
  | d y=>exact mU this (by cases y<;>exact hbc)
  | own sz e ys=>exact this
  | sl _ _=>exact this
 case own sz e xs=>exact h
theorem CK.mono{mine mine' O O':Nat->Prop}{v:Value}{r:AV}(hm:∀b,mine b->mine' b)(hO:∀b,O' b->O b)(h:CK mine O w v r):CK mine' O' w v r:=by
 cases r with
 | own sz e xs=>exact⟨h.1,h.2.1,λb hb=>hm b (h.2.2.1 b hb),h.2.2.2⟩
 | optr cs =>
   refine⟨λb hb=>hm b (h.1 b hb),?_⟩;obtain⟨b,vals,T,h1,h2,h3⟩:=h.2;exact⟨b,vals,T,h1,h2,h3.mono (B0.of_sub λb hb=>hb.imp (hO b) (λh=>h))⟩
 | tup xs =>
   obtain⟨vs,h1,h2,h3,h4⟩:=h;refine⟨vs,h1,h2,λi u c hu hc=>?_,h4⟩;have:=h3 i u c hu hc
   cases c with
   | d y=>exact Aw.mono (B0.of_sub λb hb=>hb.imp (hO b) (λh=>h)) this
   | own sz e ys=>exact⟨this.1,this.2.1,λb hb=>hm b (this.2.2.1 b hb),this.2.2.2⟩
   | sl _ _=>exact this
 | cc k0 l =>
   have h':Tj mine O w v l:=h;show Tj mine' O' w v l;unfold Tj at h' ⊢;split at h'<;>try exact h'.elim
   exact⟨h'.1,h'.2.1,λb hb=>hm b (h'.2.2.1 b hb),by obtain⟨vals,h1,h2⟩:=h'.2.2.2;exact⟨vals,h1,h2.mono (B0.of_sub λb hb=>hb.imp (hO b) (λh=>h))⟩⟩
 | any=>trivial
 | d x=>exact Aw.mono (B0.of_sub hO) (show Aw O w v x from h)
 | lim sz xs =>
   have h':Aw O w v (.list sz xs)/\RE v=xs.length:=h;exact⟨h'.1.mono (B0.of_sub hO),h'.2⟩
 | bot|ptr _ _ _|sl _ _|eptr _ _ _ _ _|under _ _ _=>exact h.elim
def Yk(y:Nat×B6×Nat)(n:Nat):AV->Prop
 | .own sz e ys=>y.2.1=.row sz e ys/\y.2.2=n
 | .optr cs=>y.2.1=.var (cs.map .d)/\y.2.2=n
 | .any=>y.2.1=.none/\y.2.2=n+1
 | .cc _ l=>(∃(ds:List C)(sz:Nat)(e:TypeId)(ys:List D),l=ds++[.own sz e ys]/\y.2.1=.row sz e ys)/\y.2.2=n
 | _=>False
theorem NG:∀{l:List C}{K:Nat->TypeId->List D->Prop},V3 l K->∃(ds:List C)(sz:Nat)(e:TypeId)(ys:List D),l=ds++[.own sz e ys]/\K sz e ys
 | [],_,h=>h.elim
 | .own sz e xs :: r,K,h=>by
   simp only[V3]at h
   cases r with
   | nil=>exact⟨[],sz,e,xs,rfl,h⟩
   | cons _ _=>exact h.elim
 | .d x :: r,K,h=>by
   obtain⟨ds,sz,e,ys,h1,h2⟩:=NG (l:=r) h;exact⟨.d x :: ds,sz,e,ys,by rw[h1];rfl,h2⟩
 | .sl i n :: r,K,h=>by
   obtain⟨ds,sz,e,ys,h1,h2⟩:=NG (l:=r) h;exact⟨.sl i n :: ds,sz,e,ys,by rw[h1];rfl,h2⟩
theorem Mr{e:TypeId}{sz n:Nat}{v:Value}{vals:List Value}(h:Bj w e sz v n vals):∃ad m c,v=.slice ad m c:=by
 rcases h with⟨_,⟨hv,_⟩|⟨_,_,_,hv,_⟩⟩|⟨_,_,_,hv⟩<;>exact⟨_,_,_,hv⟩
theorem ak{vs:Array Value}{u:Value}(h:∃ad m c,u=.slice ad m c):Ac (.agg (vs.push u))=Ac u:=by
 obtain⟨ad,m,c,rfl⟩:=h
 cases ad<;>simp[Ac]
theorem Q5:∀{us:List (Option (Nat×Nat))}{outs:List AV}{K:Bx->Prop},LO us outs K ->
 ∃ub,K ub/\(ub.map (·.1)).Nodup/\(∀(i id n:Nat),us[i]?=some (some (id,n))->∃y∈ub,y.1=id/\∃q,outs[i]?=some q/\Yk y n q)/\(∀y∈ub,∃(i n:Nat)(q:AV),us[i]?=some (some (y.1,n))/\outs[i]?=some q/\Yk y n q) /\
  ∀(i j id n n':Nat),us[i]?=some (some (id,n))->us[j]?=some (some (id,n'))->i=j
 | [],[],K,hy=>⟨[],hy,by simp,(λi id n h=>by simp at h),(λy hy=>by cases hy),λi j id n n' h=>by simp at h⟩
 | [],_ :: _,K,hy=>hy.elim
 | none :: us,[],K,hy=>hy.elim
 | none :: us,q :: os,K,hy=>by
   have hy:LO us os K:=hy;obtain⟨ub,hK,h1,h2,h3,h4⟩:=Q5 hy;refine⟨ub,hK,h1,λi id n hi=>?_,λy hy=>?_,λi j id n n' hi hj=>?_⟩
   ·cases i with
    | zero=>simp at hi
    | succ i=>obtain⟨y,hy,e,q',hq,ho⟩:=h2 i id n (by simpa using hi);exact⟨y,hy,e,q',by simpa using hq,ho⟩
   ·obtain⟨i,n,q',k1,k2,k3⟩:=h3 y hy;exact⟨i+1,n,q',by simpa using k1,by simpa using k2,k3⟩
   ·cases i with
    | zero=>simp at hi
    | succ i=>cases j with
      | zero=>simp at hj
      | succ j=>rw[h4 i j id n n' (by simpa using hi) (by simpa using hj)]
 | some (id,n) :: us,[],K,hy=>hy.elim
 | some (id,n) :: us,q :: os,K,hy=>by
   have step:∀(B:B6)(m:Nat),Yk (id,B,m) n q->(LO us os λb=>if Fj id b=true then K ((id,B,m) :: b)else False)->∃ub,K ub/\(ub.map (·.1)).Nodup/\(∀(i id' n':Nat),(some (id,n) :: us)[i]?=some (some (id',n'))->∃y∈ub,y.1=id'/\∃p,(q :: os)[i]?=some p/\Yk y n' p)/\(∀y∈ub,∃(i n':Nat)(p:AV),(some (id,n) :: us)[i]?=some (some (y.1,n'))/\(q :: os)[i]?=some p/\Yk y n' p) /\
    ∀(i j id' n1 n':Nat),(some (id,n) :: us)[i]?=some (some (id',n1))->(some (id,n) :: us)[j]?=some (some (id',n'))->i=j:=by
    intro B m ho hy;obtain⟨ub,hK,h1,h2,h3,h4⟩:=Q5 hy;obtain⟨hni,hK⟩:=Ak hK
    have notail:∀(j n':Nat),us[j]?≠some (some (id,n')):=by
     intro j n' hj;obtain⟨y,hy,e,_⟩:=h2 j id n' hj;exact EP hni y hy e
    refine⟨_,hK,?_,λi id' n' hi=>?_,λy hy=>?_,λi j id' n1 n' hi hj=>?_⟩
    ·simp only[qk,sJ];refine⟨λhm=>?_,h1⟩;obtain⟨y,hy,e⟩:=List.mem_map.1 hm;exact EP hni y hy e
    ·cases i with
     | zero =>
       simp at hi;obtain⟨rfl,rfl⟩:=hi;exact⟨_,by simp,rfl,q,rfl,ho⟩
     | succ i=>obtain⟨y,hy,e,q',hq,ho'⟩:=h2 i id' n' (by simpa using hi);exact⟨y,by simp[hy],e,q',by simpa using hq,ho'⟩
    ·rcases List.mem_cons.1 hy with rfl|hy
     ·exact⟨0,n,q,rfl,rfl,ho⟩
     ·obtain⟨i,n',q',k1,k2,k3⟩:=h3 y hy;exact⟨i+1,n',q',by simpa using k1,by simpa using k2,k3⟩
    ·cases i with
     | zero=>cases j with
       | zero=>rfl
       | succ j=>simp at hi hj;rw[<-hi.1]at hj;exact absurd hj (notail j n')
     | succ i=>cases j with
       | zero=>simp at hi hj;rw[<-hj.1]at hi;exact absurd hi (notail i n1)
       | succ j=>rw[h4 i j id' n1 n' (by simpa using hi) (by simpa using hj)]
   cases q<;>try exact hy.elim
   case any=>exact step .none (n+1) ⟨rfl,rfl⟩ hy
   case own sz e ys=>exact step (.row sz e ys) n ⟨rfl,rfl⟩ hy
   case optr cs =>
    have hy:ZV cs λl=>LO us os λb=>if Fj id b=true then K ((id,.var l,n) :: b)else False:=hy
    rw[P6]at hy;exact step (.var (cs.map .d)) n ⟨rfl,rfl⟩ hy
   case cc k l =>
    obtain⟨ds,sz,e,ys,h1,hy⟩:=NG (show V3 l _ from hy);exact step (.row sz e ys) n ⟨⟨ds,sz,e,ys,h1,rfl⟩,rfl⟩ hy
theorem fG{O:Nat->Prop}{v:Value}{f:FuncId}{cs:List D}(h:Aw O w v (.fn f cs)):∃vs:Array Value,v=.func (.func f) #[] vs/\vs.size=cs.length/\∀(i:Nat) u y,vs[i]?=some u->cs[i]?=some y->Aw O w u y:=by
 cases h with
 | fn _ vs _ hl h1 h=>exact⟨vs,rfl,hl,h⟩
theorem Xj:∀{l:List Operand}{n i:Nat},i∈Q4 l n->∃p,l[i-n]?=some p/\Na p=true/\n<=i
 | [],_,_,h=>by simp[Q4]at h
 | x :: r,n,i,h=>by
   simp only[Q4]at h
   have next:i∈Q4 r (n+1)->∃p,(x :: r)[i-n]?=some p/\Na p=true/\n<=i:=by
    intro h;obtain⟨p,h1,h2,h3⟩:=Xj h;exact⟨p,by rw[show i-n=(i-(n+1))+1 by omega,qD];exact h1,h2,by omega⟩
   split at h
   ·rename_i hn
    rcases List.mem_cons.1 h with rfl|h
    ·exact⟨x,by simp,hn,qb _⟩
    ·exact next h
   ·exact next h
theorem Yw(h:SimB X G β S a w){g:Option (Nat×Bool)}(hg:BN g a){d:Nat}(hd:d<S.length){c:Call}(ho:o.op=.call c){fo:Operand}(hc:c.callee=.value fo){f:FuncId}{caps:List D}(hf:ρOf S g fo=.d (.fn f caps))
 {K:GJ->Prop} (hy:Wx caps λcv=>Hu P (σOf S) (ρOf S g) c.args.toList c.argTypes.toList λvs bs=>G5 P (σOf S) (ρOf S g) c.args.toList c.argTypes.toList λms mb us =>
  Hs P f (Q4 c.args.toList 0) (vs++cv) (λr=>bG r bs λb=>gS d (Af S d).ver r b K)
   (ms++cv) (λouts r=>LO (us++cv.map λ_=>none) outs λub=>if ub.all (λx=>Fj x.1 mb)=true then gS d (Af S d).ver r (mb++ub) K else False)) :
 ∃e,K e/\(G4 S e.homes=true->CW P X G S a w o e):=by
 rw[Ts]at hy;obtain⟨vs,bs,hy,hF,hlen,hrep⟩:=LX h hg hy;obtain⟨ms,mb,us,hK,hMF,hmlen,hulen,hmut,hnm,hmrep⟩:=Ob h hg hy;have hfv:=ρ_sound h hg fo;rw[hf]at hfv;obtain⟨capv,hfe,hcl,hcr⟩:=fG hfv
 have hrun:EG P f=true->(execOp a.eval o).run P w=.ok (.enter f (c.args.map a.eval++capv)) w:=by
  intro hcal;simp only[execOp,ho,resolve,hc,hfe,Deferred.ofValue,Sem.run_bind,Sem.run_pure,Result.andThen_ok,invoke];simp only[sN];rw[Ix hcal]
 have hval:∀(i:Nat) v,(c.args.map a.eval++capv)[i]?=some v->(∃p,c.args.toList[i]?=some p/\v=a.eval p)\/(c.args.size<=i/\capv[i-c.args.size]?=some v):=by
  intro i v hv;rcases qw i c.args.size with hi|hi
  ·rw[qA (by simpa using hi)]at hv;simp[hi]at hv;exact .inl ⟨c.args[i],by simp[hi],hv.symm⟩
  ·rw[rH (by simpa using hi)]at hv;exact .inr ⟨hi,by simpa using hv⟩
 rcases hK.go with⟨r,hcall,hK⟩|⟨outs,r,hcall,hK⟩
 ·
  obtain⟨h1,h2,h3⟩:=hF.run h;have hargs:=hrep.now h hF;have hsize:(c.args.map a.eval++capv).size=(vs++caps.map AV.d).length:=by simp[hlen,hcl]
  have hreps:∀(i:Nat) v y,(c.args.map a.eval++capv)[i]?=some v->(vs++caps.map AV.d)[i]?=some y->Ot (OS β X (AZ bs S)) w v y:=(λi v y hv hy=>by
   rcases hval i v hv with⟨p,hp,rfl⟩|⟨hi,hv⟩
   ·rw[qj (by rw[hlen];exact A5 hp)]at hy;exact hargs i p y hp hy
   ·rw[qg (by rw[hlen];simpa using hi),hlen]at hy;simp only[ql,q8]at hy
    cases hz:caps[i-c.args.size]? with
    | none=>simp[hz]at hy
    | some z=>simp[hz]at hy;subst hy;exact(hcr _ v z hv hz).mono (B0.of_sub h2))
  have hrunX:∀v,(callFunc f (c.args.map a.eval++capv)).run P w=.ok (.value v) w->(execOp a.eval o).run P w=.ok (.value v) w:=by
   intro v hv;simp only[execOp,ho,resolve,hc,hfe,Deferred.ofValue,Sem.run_bind,Sem.run_pure,Result.andThen_ok,invoke];simp only[sN];rw[hv]
  have Ef:∀{e:GJ},(∀v w',Below w.heap.size w w'->CK (λb=>w.heap.size<=b) (OS β X (AZ bs S)) w' v r->R6 X G S a e v w')->CW P X G S a w o e:=by
   intro e hpost;rcases hcall with hcall|hcall|hcall
   rotate_left
   rotate_left
   ·refine .inr (.inr ⟨f,_,hrun hcall.1,(hcall.2 (OS β X (AZ bs S)) w _ (λb hb=>h1.os_lt hb) h1.glob hsize (λi hi=>?_) hreps).mono λe' w' ⟨v,h4,h5,h6⟩=>⟨v,h4,hpost v w' h5 h6⟩⟩);obtain⟨p,hp,hnil,_⟩:=Xj hi;rw[Nat.sub_zero]at hp;have hlt:i<c.args.size:=by have:=A5 hp;simpa using this
    rw[qA (by simpa using hlt)];have:c.args[i]?=some p:=by simpa using hp
    rw[sM,this,O6 hnil];rfl
   ·exact .inr (.inr ⟨f,_,hrun hcall.1,(hcall.2 (OS β X (AZ bs S)) w _ (λb hb=>h1.os_lt hb) h1.glob hsize hreps).mono λe' w' ⟨v,h4,h5,h6⟩=>⟨v,h4,hpost v w' h5 h6⟩⟩)
   ·obtain⟨v,h4,h6⟩:=hcall (OS β X (AZ bs S)) w _ hsize hreps;exact .inl ⟨v,w,hrunX v h4,hpost v w ⟨rfl,rfl,rfl,qb _,λ_ _=>rfl⟩ h6⟩
  have hK':(∃A:Nat->Prop,(∀b,OS β X S b->A b)/\(∀v w',CK (λb=>w.heap.size<=b) (OS β X (AZ bs S)) w' v r->CK (λb=>w.heap.size<=b) A w' v r)/\gS d (Af S d).ver r [] K)\/gS d (Af S d).ver r bs K:=by
   unfold bG at hK;split at hK
   ·exact .inl ⟨OS β X S,λ_ h=>h,λ_ _ h=>h,hK⟩
   ·split at hK
    ·rename_i hbr;exact .inl ⟨λ_=>True,λ_ _=>trivial,λv w' h=>h.bare hbr,hK⟩
    ·exact .inr hK
  rcases hK' with⟨A,hA,hres,hK⟩|hK
  ·obtain⟨e,hKe,hpost⟩:=U6 (X:=X) (G:=G) (β:=β) (a:=a) (w:=w) (S:=S) (S0:=S) (pre:=[]) (ub:=[]) rfl hd (qb _) (by simp) (λ_ h=>by cases h) (by simpa using hK) (λ_=>rfl);refine⟨e,hKe,λhok=>Ef λv w' h5 h6=>hpost A v w' ⟨h,(λ_ h=>by cases h),.of h5,λb hb _=>hA b hb,(λb y hy=>by cases hy),?_,λy hy=>by cases hy⟩ hok⟩;exact(hres v w' h6).mono (λb hb=>.inl hb) (λ_ h=>h)
  ·obtain⟨e,hKe,hpost⟩:=U6 (X:=X) (G:=G) (β:=β) (a:=a) (w:=w) (S:=AZ bs S) (S0:=S) (pre:=bs) (ub:=[]) rfl (by rw[Cc];exact hd) (dv:=(Af S d).ver) (by rw[h3.ver];exact qb _) (by simp) (λ_ h=>by cases h) (by simpa using hK) h3.ver;refine⟨e,hKe,λhok=>Ef λv w' h5 h6=>hpost _ v w' ⟨h1,(λ_ h=>by cases h),.of h5,λb hb _=>hb,(λb y hy=>by cases hy),?_,λy hy=>by cases hy⟩ hok⟩;exact h6.mono (λb hb=>.inl hb) (λ_ h=>h)
 ·
  obtain⟨ub,hK,hund,hu1,hu2,hu3⟩:=Q5 hK;obtain⟨hnot,hK⟩:=Ak hK;obtain⟨h1,h2,h3⟩:=hMF.run h;have hargs:=hmrep.now h hMF
  have hpos:∀(i id n:Nat),(us++(caps.map AV.d).map λ_=>(none:Option (Nat×Nat)))[i]?=some (some (id,n))->us[i]?=some (some (id,n))/\i<c.args.size:=by
   intro i id n hi;rcases qw i us.length with hl|hl
   ·rw[qj hl]at hi;exact⟨hi,by rw[hulen]at hl;simpa using hl⟩
   ·rw[qg hl]at hi;simp only[ql]at hi
    cases caps[i-us.length]?<;>simp at hi
  have hback:∀(i id n:Nat),us[i]?=some (some (id,n))->(us++(caps.map AV.d).map λ_=>(none:Option (Nat×Nat)))[i]?=some (some (id,n)):=by
   intro i id n hi;rw[qj (A5 hi)];exact hi
  have hent:∀y∈ub,∃(i n:Nat)(q:AV)(p:Operand)(m:AV),us[i]?=some (some (y.1,n))/\outs[i]?=some q/\Yk y n q/\c.args.toList[i]?=some p/\ms[i]?=some m/\Wk β (OS β X S) w S mb (a.eval p) y.1 n m:=by
   intro y hy;obtain⟨i,n,q,k1,k2,k3⟩:=hu2 y hy;obtain⟨k1,hi⟩:=hpos i y.1 n k1;have hp:c.args.toList[i]?=some c.args.toList[i]:=P2 (by simpa using hi);have hm:ms[i]?=some (ms[i]'(by rw[hmlen];simpa using hi)):=P2 _;exact⟨i,n,q,_,_,k1,k2,k3,hp,hm,hmut i _ _ y.1 n hp hm k1⟩
  have hsame:∀y∈ub,(Af (AZ mb S) y.1).box=(Af S y.1).box:=λy hy=>h3.other y.1 (EP (List.all_eq_true.1 hnot y hy))
  have hsl:∀{id sz:Nat}{e:TypeId}{xs:List D},(Af S id).box=.row sz e xs->∃ad m c,β id=.slice ad m c:=by
   intro id sz e xs hb;have hbx:=h.boxes id;rw[hb]at hbx;obtain⟨_,_,vals,hr,_⟩:=hbx;exact Mr hr
  have hmv:∀{v:Value}{id n:Nat}{m:AV},Wk β (OS β X S) w S mb v id n m->Ac v=Ac (β id)/\(Af S id).ver=n/\(Af S id).box.owned=true/\m.mut=true:=by
   intro v id n m hmm
   cases m<;>try exact hmm.elim
   ·obtain⟨k1,k2,k3⟩:=hmm;exact⟨by rw[k3],k2,by rw[k1];rfl,rfl⟩
   ·obtain⟨cs,k1,k2,k3,_⟩:=hmm;exact⟨by rw[k3],k2,by rw[k1];rfl,rfl⟩
   ·obtain⟨_,vs,ds,sz,e,xs,_,k3,_,k1,k2⟩:=hmm;exact⟨by rw[k3,ak (hsl k1)],k2,by rw[k1];rfl,rfl⟩
  have hown1:∀y∈ub,(Af (AZ mb S) y.1).box.owned=true:=by
   intro y hy;obtain⟨i,n,q,p,m,_,_,_,_,_,hmm⟩:=hent y hy;rw[hsame y hy];exact(hmv hmm).2.2.1
  have hMut:∀b,Hl (c.args.map a.eval++capv) (ms++caps.map .d) b↔∃y∈ub,Ac (β y.1)=some b:=by
   intro b;constructor
   ·rintro⟨i,v,x,hv,hx,hm,hb⟩;rcases hval i v hv with⟨p,hp,rfl⟩|⟨hi,hv⟩
    ·rw[qj (by rw[hmlen];exact A5 hp)]at hx;have hui:us[i]?=some (us[i]'(by rw[hulen];exact A5 hp)):=P2 _
     cases hq:us[i]'(by rw[hulen];exact A5 hp)with
     | none=>rw[hq]at hui;rw[hnm i x hx hui]at hm;cases hm
     | some q =>
       obtain⟨id,n⟩:=q;rw[hq]at hui;obtain⟨y,hy,e,_⟩:=hu1 i id n (hback i id n hui);refine⟨y,hy,?_⟩;rw[e,<-(hmv (hmut i p x id n hp hx hui)).1];exact hb
    ·rw[qg (by rw[hmlen];simpa using hi)]at hx;simp only[ql]at hx
     cases hz:caps[i-ms.length]? with
     | none=>simp[hz]at hx
     | some z=>simp[hz]at hx;subst hx;cases hm
   ·rintro⟨y,hy,hb⟩;obtain⟨i,n,q,p,m,k1,k2,k3,k4,k5,k6⟩:=hent y hy;have hi:i<c.args.size:=by have:=A5 k4;simpa using this
    refine⟨i,a.eval p,m,?_,by rw[qj (A5 k5)];exact k5,(hmv k6).2.2.2,by rw[(hmv k6).1];exact hb⟩;rw[qA (by simpa using hi)];have:c.args[i]?=some p:=by simpa using k4
    simp[this]
  have hMb:∀b,(∃y∈ub,Ac (β y.1)=some b)->OS β X (AZ mb S) b:=λb ⟨y,hy,hb⟩=>.inr (.inr ⟨y.1,hown1 y hy,hb⟩)
  have hcl':=hcall.2.2 (λb=>OS β X (AZ mb S) b/\¬∃y∈ub,Ac (β y.1)=some b) w (c.args.map a.eval++capv) (λb hb=>h1.os_lt hb.1) (λg cs hg=>(h1.glob g cs hg).mono (B0.of_sub λb hb=>by
   rcases hb with hb|hb
   ·exact hb.1
   ·obtain⟨y,hy,hb⟩:=(hMut b).1 hb;exact .inr (.inr ⟨y.1,hown1 y hy,hb⟩))) (by simp[hmlen,hcl]) (λb hb hO=>hO.2 ((hMut b).1 hb))
   (λi j v v' x y b hv hv' hx hy hmx hmy hb hb'=>by
    have one:∀(i:Nat) v x,(c.args.map a.eval++capv)[i]?=some v->(ms++caps.map .d)[i]?=some x->x.mut=true->∃id n,us[i]?=some (some (id,n))/\Ac v=Ac (β id):=by
     intro i v x hv hx hm;rcases hval i v hv with⟨p,hp,rfl⟩|⟨hi,hv⟩
     ·rw[qj (by rw[hmlen];exact A5 hp)]at hx;have hui:us[i]?=some (us[i]'(by rw[hulen];exact A5 hp)):=P2 _
      cases hq:us[i]'(by rw[hulen];exact A5 hp)with
      | none=>rw[hq]at hui;rw[hnm i x hx hui]at hm;cases hm
      | some q =>
        obtain⟨id,n⟩:=q;rw[hq]at hui;exact⟨id,n,hui,(hmv (hmut i p x id n hp hx hui)).1⟩
     ·rw[qg (by rw[hmlen];simpa using hi)]at hx;simp only[ql]at hx
      cases hz:caps[i-ms.length]? with
      | none=>simp[hz]at hx
      | some z=>simp[hz]at hx;subst hx;cases hm
    obtain⟨id,n,k1,ev1⟩:=one i v x hv hx hmx;obtain⟨id',n',k1',ev2⟩:=one j v' y hv' hy hmy;rw[ev1]at hb;rw[ev2]at hb';obtain⟨z,hz,e,_⟩:=hu1 i id n (hback i id n k1);obtain⟨z',hz',e',_⟩:=hu1 j id' n' (hback j id' n' k1');have:=h1.inj id id' b (by rw[<-e];exact hown1 z hz) (by rw[<-e'];exact hown1 z' hz') hb hb';subst this;exact hu3 i j id n n' (hback i id n k1) (hback j id n' k1'))
   (λi v x hv hx=>by
    have sub:∀b,((OS β X (AZ mb S) b/\¬∃y∈ub,Ac (β y.1)=some b)\/Hl (c.args.map a.eval++capv) (ms++caps.map .d) b)->OS β X (AZ mb S) b:=by
     intro b hb;rcases hb with hb|hb
     ·exact hb.1
     ·exact hMb b ((hMut b).1 hb)
    rcases hval i v hv with⟨p,hp,rfl⟩|⟨hi,hv⟩
    ·rw[qj (by rw[hmlen];exact A5 hp)]at hx;have hui:us[i]?=some (us[i]'(by rw[hulen];exact A5 hp)):=P2 _
     cases hq:us[i]'(by rw[hulen];exact A5 hp)with
     | none =>
       rw[hq]at hui;have hC:=(hargs i p x hp hx hui).mono (B0.of_sub sub);have hnm':=hnm i x hx hui
       cases x<;>first|exact hC|cases hnm'
     | some q =>
       obtain⟨id,n⟩:=q;rw[hq]at hui;have hmm:=hmut i p x id n hp hx hui;obtain⟨z,hz,e,_⟩:=hu1 i id n (hback i id n hui);have hsm:=hsame z hz;rw[e]at hsm;have hbx:=h1.boxes id;rw[hsm]at hbx
       cases x<;>try exact hmm.elim
       ·obtain⟨k1,k2,k3⟩:=hmm;rw[k1]at hbx;obtain⟨j1,j2,vals,j3,j4⟩:=hbx;exact⟨j1,j2,vals,by rw[k3];exact j3,j4.mono (B0.of_sub sub)⟩
       ·obtain⟨cs,k1,k2,k3,k4⟩:=hmm;rw[k1]at hbx;obtain⟨b',vals,T,j1,j2,j3,j4⟩:=hbx;exact⟨b',vals,T,by rw[k3];exact j1,j2,(Rf h3 h1 k4 (by simpa using j3) (λj v c hv hc=>j4 j v c (by simpa using hv) hc)).mono (B0.of_sub sub)⟩
       ·obtain⟨k0,vs',ds,sz,e,xs,k1,k2,k3,k4,k5⟩:=hmm;rw[k4]at hbx;obtain⟨j1,j2,vals,j3,j4⟩:=hbx;exact⟨k0,vs',β id,ds,sz,e,xs,⟨k1,k2,by simpa using k3.1,j1,j2,vals,j3,j4.mono (B0.of_sub sub)⟩,k3.mono (B0.of_sub λb hb=>h2 b (sub b hb))⟩
    ·rw[qg (by rw[hmlen];simpa using hi),hmlen]at hx;simp only[ql,q8]at hx
     cases hz:caps[i-c.args.size]? with
     | none=>simp[hz]at hx
     | some z =>
       simp[hz]at hx;subst hx;exact(hcr _ v z hv hz).mono ((B0.of_sub λb hb=>h2 b (sub b hb))))
  obtain⟨e,hKe,hpost⟩:=U6 (X:=X) (G:=G) (β:=β) (a:=a) (w:=w) (S:=AZ mb S) (S0:=S) (pre:=mb) (ub:=ub) rfl (by rw[Cc];exact hd) (dv:=(Af S d).ver) (by rw[h3.ver];exact qb _) hund
   (λy hy=>by
    have:(Af (AZ mb S) y.1).box≠.none:=by intro hh;have:=hown1 y hy;rw[hh]at this;cases this
    exact MZ rfl this) hK h3.ver
  refine⟨e,hKe,λhok=>.inr (.inr ⟨f,_,hrun hcall.1,hcl'.mono λe' w' ⟨v,h4,h5,h6,h7⟩=>⟨v,h4,hpost (λb=>(OS β X (AZ mb S) b/\¬∃y∈ub,Ac (β y.1)=some b)\/Hl (c.args.map a.eval++capv) outs b) v w' ⟨h1,λy hy=>?_,?_,λb hb hn=>.inl ⟨hb,λ⟨y,hy,hyb⟩=>hn y hy hyb⟩,λb y hy ho hb=>?_,?_,λy hy ho=>?_⟩ hok⟩⟩)⟩
  ·
   obtain⟨i,n,q,p,m,k1,k2,k3,k4,k5,k6⟩:=hent y hy;refine⟨hown1 y hy,?_⟩;rw[h3.ver,(hmv k6).2.1]
   cases q<;>try exact k3.elim
   ·exact .inr ⟨k3.1,by rw[k3.2];omega⟩
   ·exact .inl ⟨by rw[k3.1];rfl,k3.2⟩
   ·exact .inl ⟨by rw[k3.1];rfl,k3.2⟩
   ·obtain⟨⟨_,_,_,_,_,k3⟩,k4⟩:=k3;exact .inl ⟨by rw[k3];rfl,k4⟩
  ·exact h5.weaken (qb _) λk _ hno hm=>hno ((hMut k).1 hm)
  ·
   obtain⟨i,n,q,p,m,k1,k2,k3,k4,k5,k6⟩:=hent y hy;have hi:i<c.args.size:=by have:=A5 k4;simpa using this
   refine .inr ⟨i,a.eval p,q,?_,k2,?_,by rw[(hmv k6).1];exact hb⟩
   ·rw[qA (by simpa using hi)];have:c.args[i]?=some p:=by simpa using k4
    simp[this]
   ·cases q<;>try exact k3.elim
    ·rw[k3.1]at ho;cases ho
    ·rfl
    ·rfl
    ·rfl
  ·refine h6.mono (λb hb=>?_) (λb hb=>hb);rcases hb with hb|⟨hb,hno⟩
   ·exact .inl hb
   ·obtain⟨y,hy,hyb⟩:=(hMut b).1 hb;refine .inr ⟨y,hy,?_,hyb⟩;obtain⟨i,n,q,p,m,k1,k2,k3,k4,k5,k6⟩:=hent y hy;have hi:i<c.args.size:=by have:=A5 k4;simpa using this
    have hvi:(c.args.map a.eval++capv)[i]?=some (a.eval p):=by
     rw[qA (by simpa using hi)];have:c.args[i]?=some p:=by simpa using k4
     simp[this]
    cases q<;>try exact k3.elim
    ·exact k3.1
    ·exact absurd ⟨i,a.eval p,_,hvi,k2,rfl,by rw[(hmv k6).1];exact hyb⟩ hno
    ·exact absurd ⟨i,a.eval p,_,hvi,k2,rfl,by rw[(hmv k6).1];exact hyb⟩ hno
    ·exact absurd ⟨i,a.eval p,_,hvi,k2,rfl,by rw[(hmv k6).1];exact hyb⟩ hno
  ·obtain⟨i,n,q,p,m,k1,k2,k3,k4,k5,k6⟩:=hent y hy;have hi:i<c.args.size:=by have:=A5 k4;simpa using this
   have hvi:(c.args.map a.eval++capv)[i]?=some (a.eval p):=by
    rw[qA (by simpa using hi)];have:c.args[i]?=some p:=by simpa using k4
    simp[this]
   have hro:=h7 i (a.eval p) m q hvi (by rw[qj (A5 k5)];exact k5) k2
   have esub:∀b,((((OS β X (AZ mb S) b/\¬∃y∈ub,Ac (β y.1)=some b)\/Hl (c.args.map a.eval++capv) outs b)\/Dw v r b)->((OS β X (AZ mb S) b/\¬∃y∈ub,Ac (β y.1)=some b)\/Hl (c.args.map a.eval++capv) outs b\/Dw v r b)):=by
    intro b hb;rcases hb with(hb|hb)|hb
    ·exact .inl hb
    ·exact .inr (.inl hb)
    ·exact .inr (.inr hb)
   cases q<;>try exact k3.elim
   ·rw[k3.1]at ho;cases ho
   ·rw[k3.1];obtain⟨⟨j1,j2,vals,j3,j4⟩,_,rfl⟩:=hro;rw[k6.2.2]at j3;exact⟨j1,j2,vals,j3,j4.mono (B0.of_sub esub)⟩
   ·rw[k3.1];obtain⟨⟨b',vals,T,j1,j2,j3⟩,_,rfl,_⟩:=hro;obtain⟨_,_,_,k7,_⟩:=k6;rw[k7]at j1;exact⟨_,rfl,b',vals,T,j1,j2,j3.mono (B0.of_sub esub)⟩
   ·obtain⟨⟨ds',sz',e',ys',q1,q2⟩,_⟩:=k3;obtain⟨vs,u,ds,sz,e,ys,q3,q4,q5,j1,j2,vals,j3,j4⟩:=hro;rw[q3]at q1;obtain⟨_,q1⟩:=List.append_inj' q1 rfl;simp at q1;obtain⟨rfl,rfl,rfl⟩:=q1;rw[q2]
    have hu:u=β y.1:=by
     cases m<;>try exact k6.elim
     ·obtain⟨z1,_,z3⟩:=k6;obtain⟨ad,m',c',z4⟩:=hsl z1;rw[z3,z4]at q4;cases q4
     ·obtain⟨cs,z1,_,z3,_⟩:=k6;have hbx:=h.boxes y.1;rw[z1]at hbx;obtain⟨_,_,_,z4,_⟩:=hbx;rw[z3,z4]at q4;cases q4
     ·obtain⟨_,vs',_,_,_,_,_,z2,_⟩:=k6;rw[z2]at q4;simp at q4;exact(Array.push_eq_push.1 q4).1.symm
    rw[hu]at j3;exact⟨j1,j2,vals,j3,j4.mono (B0.of_sub esub)⟩
end
section
variable {P:Program} {X:Cx} {G:Nat->Prop} {β:Nat->Value} {S:AS} {a:Act} {w:World} {o:Oper}
def FW(R:Value->C->Prop)(vs:List Value)(cs:List C):Prop:=vs.length=cs.length/\∀(j:Nat) v c,vs[j]?=some v->cs[j]?=some c->R v c
theorem FW.append{R:Value->C->Prop}{vs us:List Value}{xs ys:List C}(h:FW R vs xs)(k:FW R us ys):FW R (vs++us) (xs++ys):=by
 refine⟨by simp[h.1,k.1],λj v y hv hy=>?_⟩;by_cases hj:j<vs.length
 ·rw[qj hj]at hv;rw[qj (by rw[<-h.1];exact hj)]at hy;exact h.2 j v y hv hy
 ·rw[qg (by omega)]at hv;rw[qg (by rw[<-h.1];omega)]at hy;rw[<-h.1]at hy;exact k.2 _ v y hv hy
theorem FW.take{R:Value->C->Prop}{vs:List Value}{xs:List C}(h:FW R vs xs)(n:Nat):FW R (vs.take n) (xs.take n):=by
 refine⟨by simp[h.1],λj v y hv hy=>?_⟩;rw[qB]at hv hy;split at hv
 ·rw[qf ‹_›]at hy;exact h.2 j v y hv hy
 ·cases hv
theorem FW.drop{R:Value->C->Prop}{vs:List Value}{xs:List C}(h:FW R vs xs)(n:Nat):FW R (vs.drop n) (xs.drop n):=by
 refine⟨by simp[h.1],λj v y hv hy=>?_⟩;rw[qE]at hv hy;exact h.2 _ v y hv hy
theorem FW.splice{R:Value->C->Prop}{vs us:List Value}{xs ys:List C}(h:FW R vs xs)(k:FW R us ys){o:Nat}(ho:o<=xs.length) :
 FW R (vs.take o++us++vs.drop (o+us.length)) (splice xs o ys):=by
 rw[Fw xs o ys ho,k.1];exact((h.take o).append k).append (h.drop _)
def cI(R:Value->C->Prop):List (Nat×Value)->List (Nat×List C)->Prop
 | [],[]=>True
 | (i,v) :: r,(j,c) :: s=>i=j/\FW R v.cells.toList c/\cI R r s
 | _,_=>False
theorem Vr{R:Value->C->Prop}{place:Nat->Option (Nat×Nat)}:∀{pv:List (Nat×Value)}{ps:List (Nat×List C)}{cells:Array Value}{cs l:List C},cI R pv ps->FW R cells.toList cs->Y1 place cs ps=some l ->
 ∃arr,Instr.fill place cells pv=some arr/\FW R arr.toList l
 | [],[],cells,cs,l,_,hc,hf=>by simp[Y1]at hf;subst hf;exact⟨cells,rfl,hc⟩
 | (i,v) :: r,(j,x) :: s,cells,cs,l,hp,hc,hf=>by
   obtain⟨rfl,hv,hp⟩:=hp;simp only[Y1]at hf;split at hf
   ·cases hf
   ·rename_i off size hpl
    split at hf
    ·rename_i hcond
     have hsz:v.cells.size=x.length:=by simpa using hv.1
     have hcs:cells.size=cs.length:=by simpa using hc.1
     have hfold:=TD off v.cells.toList 0 cells (by simp;omega);simp only[qY]at hfold
     have hrep:FW R (v.cells.zipIdx.foldl (λcs (x:Value×Nat)=>cs.setIfInBounds (off+x.2) x.1) cells).toList (splice cs off x):=by
      rw[<-Array.foldl_toList,Array.toList_zipIdx,hfold];exact hc.splice hv (by omega)
     obtain⟨arr,h1,h2⟩:=Vr hp hrep hf;refine⟨arr,?_,h2⟩;simp only[Instr.fill,hpl];rw[qi (by simp;omega)];exact h1
    ·cases hf
 | [],_ :: _,_,_,_,hp,_,_=>hp.elim
 | (_,_) :: _,[],_,_,_,hp,_,_=>hp.elim
def eA(β:Nat->Value)(n:Nat->Nat)(O:Nat->Prop)(w:World)(v:Value)(c:C):Prop:=BQ β n O w v c/\v.oneCell'=true
theorem Bl.cellsC{O:Nat->Prop}{n:Nat->Nat}{vs:List Value}{ys:List D}(h:Bl O w vs ys):FW (eA β n O w) vs (ys.map C.d):=⟨by simpa using h.1,λj v c hv hc=>⟨h.cells j v c hv hc,h.oneCell v (qn hv)⟩⟩
theorem ir(h:SimB X G β S a w){v:Value}{id n sz:Nat}{e:TypeId}{xs:List D}(hr:Ou β (OS β X S) S w v (.row id n sz e xs)):v.cells=#[v]/\eA β (AG S) (OS β X S) w v (.sl id n):=by
 obtain⟨h1,h2,h3⟩:=hr;have hb:=h.boxes id;rw[h1]at hb;obtain⟨_,_,vals,hr,_⟩:=hb
 have key:v.cells=#[v]/\v.oneCell'=true:=by
  rw[h3];rcases hr with⟨_,⟨hv,_⟩|⟨g',cap,cur,hv,_⟩⟩|⟨_,_,ad,hv⟩<;>(rw[hv];exact⟨rfl,rfl⟩)
 exact⟨key.1,⟨ru h2.symm,λ_=>h3⟩,key.2⟩
theorem XO(h:SimB X G β S a w){r:RV}{v:Value}(hr:Ou β (OS β X S) S w v r){K:List C->Prop}(hy:cellsOf r K):∃c,K c/\FW (eA β (AG S) (OS β X S) w) v.cells.toList c:=by
 cases r<;>simp only[cellsOf]at hy
 case d x =>
  rw[P6]at hy;exact⟨_,hy,(GA (show Aw _ w v x from hr)).cellsC⟩
 case lim sz xs=>exact⟨_,hy,(GA (x:=.list sz xs) hr.1).cellsC⟩
 case row id n sz e xs =>
  obtain⟨h1,h2⟩:=ir h hr;refine⟨_,hy,by rw[h1];rfl,λj v' c hv hc=>?_⟩;rw[h1]at hv
  cases j with
  | zero=>simp at hv hc;subst hv;subst hc;exact h2
  | succ j=>simp at hc
theorem TZ(h:SimB X G β S a w){g:Option (Nat×Bool)}(hg:BN g a):∀{parts:List (Nat×Operand)}{K:List (Nat×List C)->Prop},Ng (ρOf S g) parts K ->
 ∃ps,K ps/\cI (eA β (AG S) (OS β X S) w) (parts.map λx=>(x.1,a.eval x.2)) ps
 | [],K,hy=>⟨[],hy,trivial⟩
 | (i,x) :: r,K,hy=>by
   obtain⟨c,hK,hc⟩:=XO h (ρ_sound h hg x) hy;obtain⟨ps,hK,hps⟩:=TZ h hg hK;exact⟨_,hK,rfl,hc,hps⟩
theorem aO(h:SimB X G β S a w){g:Option (Nat×Bool)}(hg:BN g a){t:TypeId}{parts:Array (Nat×Operand)}(ho:o.op=.build t parts){fields:Array Field}(hu:P.underlying t=some (.struct fields))
 {zd:List D} (hzd:zeroCells P t=some zd) (hall:fields.toList.all (λf=>(P.info? f.type).isSome)=true) {K:GJ->Prop}
 (hy:ZV zd λzc=>Ng (ρOf S g) parts.toList λps=>match Y1 (λi=>match fields[i]? with|some f=>some (f.offset,AB P f.type)|none=>none) zc ps with
  | some l=>C0 l λl=>K ⟨.cc none l,[],[]⟩
  | none=>False):∃e,K e/\CW P X G S a w o e:=by
 rw[P6]at hy;obtain⟨ps,hK,hp⟩:=TZ h hg hy;split at hK
 ·rename_i l hl
  rw[BI]at hK;obtain⟨i,z,hi,hz,hzr⟩:=Hb (O:=OS β X S) (w:=w) hzd;obtain⟨arr,h3,h4⟩:=Vr hp (hzr.cellsC (β:=β) (n:=AG S)) hl
  have hplace:(λ(i:Nat)=>match (fields[i]?:Option Field)with|some f=>some (f.offset,AB P f.type)|none=>none)=λi=>(fields.map λ(f:Field)=>(f.offset,AB P f.type))[i]?:=by
   funext i;rw[sM]
   cases fields[i]?<;>rfl
  rw[hplace]at h3
  have hpl:(fields.mapM λ(f:Field)=>(do pure (f.offset,<-sizeOf f.type):Sem (Nat×Nat))).run P w=.ok (fields.map λ(f:Field)=>(f.offset,AB P f.type)) w:=by
   rw[sE,Sem.run_map,X0 hall];simp only[Result.andThen_ok];congr 1;apply Array.ext';simp
  refine⟨_,hK,.inl ⟨.agg arr,w,?_,β,h,⟨arr,rfl,by simpa using h4.1,λj u c hu hc=>h4.2 j u c (by simpa using hu) hc⟩,rfl⟩⟩;simp only[execOp,ho,Instr.build,Sem.run_bind,zeroValue,typeInfo,run_program,hi,hz,Result.andThen_ok,Sem.run_pure,run_underlying hu,hpl,s9];rw[h3];simp
 ·exact hK.elim
theorem Pa(h:SimB X G β S a w){g:Option (Nat×Bool)}(hg:BN g a):∀{args:List Operand}{K:List C->Bx->Prop},Jd (σOf S) (ρOf S g) args K ->
 ∃l b,K l b/\FZ S [] b/\l.length=args.length/\(∀(i:Nat) p id n,args[i]?=some p->l[i]?=some (.sl id n)->(Af S id).ver=n/\a.eval p=β id/\(a.eval p).oneCell'=true)/\(∀c∈l,∀sz e xs,c≠.own sz e xs) /\
  (∀(i:Nat) y,l[i]?=some (.d y)->y.one=true)/\K5 X G β S a w b λO=>∀(i:Nat) p y,args[i]?=some p->l[i]?=some (.d y)->Aw O w (a.eval p) y
 | [],K,hy=>⟨[],[],hy,trivial,rfl,(λi p id n hp=>by simp at hp),(λ_ h=>by cases h),(λi y hy=>by simp at hy),λ_ _ _ _ _ i p y hp _=>by simp at hp⟩
 | q :: r,K,hy=>by
   unfold Jd at hy;split at hy
   ·rename_i id n how
    have hr:=ρ_sound h hg q;obtain⟨l,bs,hK,hFs,hl,hsl,hno,hone,hreps⟩:=Pa h hg hy
    have hq:(Af S id).ver=n/\a.eval q=β id/\(a.eval q).oneCell'=true:=by
     unfold dG at how;split at how<;>try (cases how;done)
     ·rename_i hx
      cases how
      rw[hx]at hr;obtain⟨_,h2,b,h3,h4⟩:=hr;exact⟨h2,by rw[h4,h3],by rw[h4];rfl⟩
     ·rename_i hx
      cases how
      rw[hx]at hr;obtain⟨_,h2,b,h3,h4⟩:=hr;exact⟨h2,by rw[h4,h3],by rw[h4];rfl⟩
    refine⟨_,_,hK,hFs,by simp[hl],λi p id' n' hp hc=>?_,λc hc=>?_,λi y hy=>?_,hreps.mono (λ_ h=>h) λO hh i p y hp hc=>?_⟩
    ·cases i with
     | zero=>simp at hp hc;subst hp;obtain⟨rfl,rfl⟩:=hc;exact hq
     | succ i=>exact hsl i p id' n' (by simpa using hp) (by simpa using hc)
    ·rcases List.mem_cons.1 hc with rfl|hc
     ·intro _ _ _ e;cases e
     ·exact hno c hc
    ·cases i with
     | zero=>simp at hy
     | succ i=>exact hone i y (by simpa using hy)
    ·cases i with
     | zero=>simp at hc
     | succ i=>exact hh i p y (by simpa using hp) (by simpa using hc)
   ·obtain⟨y,b,hK,hF,_,hrep⟩:=Ll h (ρ_sound h hg q) hy;split at hK
    ·rename_i yd
     obtain⟨h1,hK⟩:=Ak hK;obtain⟨l,bs,hK,hFs,hl,hsl,hno,hone,hreps⟩:=Pa h hg hK;refine⟨_,_,hK,hF.append hFs,by simp[hl],λi p id' n' hp hc=>?_,λc hc=>?_,λi y hy=>?_,(hrep.and hreps).mono (λ_ h=>h) λO hh i p y hp hc=>?_⟩
     ·cases i with
      | zero=>simp at hc
      | succ i=>exact hsl i p id' n' (by simpa using hp) (by simpa using hc)
     ·rcases List.mem_cons.1 hc with rfl|hc
      ·intro _ _ _ e;cases e
      ·exact hno c hc
     ·cases i with
      | zero=>simp at hy;subst hy;exact h1
      | succ i=>exact hone i y (by simpa using hy)
     ·cases i with
      | zero=>simp at hp hc;subst hp;subst hc;exact hh.1
      | succ i=>exact hh.2 i p y (by simpa using hp) (by simpa using hc)
    ·exact hK.elim
theorem cU(h:SimB X G β S a w){g:Option (Nat×Bool)}(hg:BN g a){f:FuncId}{first caps:Array Operand}(ho:o.op=.makeFunc (.func f) first caps)(hf:first.toList=[]){K:GJ->Prop}
 (hy:Jd (σOf S) (ρOf S g) caps.toList λl b=>K ⟨.cc (some f) l,b,[]⟩):∃e,K e/\CW P X G S a w o e:=by
 obtain⟨l,b,hK,hF,hl,hsl,hno,hone,hrep⟩:=Pa h hg hy;obtain⟨h1,_,hfr⟩:=hF.run h;have hr:=hrep.now h hF;refine⟨_,hK,.inl ⟨.func (.func f) #[] (caps.map a.eval),w,?_,β,h1,⟨caps.map a.eval,rfl,by simp[hl],λi v c hv hc=>?_⟩,rfl⟩⟩
 ·have:first=#[]:=by cases first;simp_all
  simp[execOp,ho,Instr.makeFunc,this]
 ·rw[sM]at hv
  cases hp:caps[i]? with
  | none=>simp[hp]at hv
  | some p =>
    simp[hp]at hv;subst hv
    cases c with
    | d y=>exact⟨⟨hr i p y (by simpa using hp) hc,hone i y hc⟩,Ui (hr i p y (by simpa using hp) hc) (hone i y hc)⟩
    | sl id n =>
      obtain⟨h2,h3,h4⟩:=hsl i p id n (by simpa using hp) hc;have hv:=hfr.ver id;exact⟨⟨by simp only[AG];rw[hv,h2];exact qb _,λ_=>h3⟩,h4⟩
    | own sz e xs=>exact(hno _ (qn hc) sz e xs rfl).elim
theorem QX:∀{cs:List C}{k id n:Nat},dQ cs=some (k,id,n)->cs[k]?=some (.sl id n)
 | [],_,_,_,h=>by cases h
 | .sl id' n' :: r,k,id,n,h=>by simp[dQ]at h;obtain⟨rfl,rfl,rfl⟩:=h;rfl
 | .d y :: r,k,id,n,h=>by
   simp only[dQ]at h;split at h
   ·rename_i k' id' n' h'
    simp only[Option.some.injEq,Prod.mk.injEq]at h;obtain⟨rfl,rfl,rfl⟩:=h
    simpa using QX h'
   ·cases h
 | .own _ _ _ :: r,k,id,n,h=>by
   simp only[dQ]at h;split at h
   ·rename_i k' id' n' h'
    simp only[Option.some.injEq,Prod.mk.injEq]at h;obtain⟨rfl,rfl,rfl⟩:=h
    simpa using QX h'
   ·cases h
theorem Yq:∀{cs:List C}{i:Nat}{x:AV},(Qi cs)[i]?=some x->x=.any\/∃y,x=.d y/\cs[i]?=some (.d y)
 | [],i,x,h=>by simp[Qi]at h
 | c :: r,0,x,h=>by
   cases c<;>simp[Qi]at h<;>subst h
   ·exact .inr ⟨_,rfl,rfl⟩
   ·exact .inl rfl
   ·exact .inl rfl
 | c :: r,i+1,x,h=>by
   have h':(Qi r)[i]?=some x:=by cases c<;>simpa [Qi] using h
   rcases Yq h' with h|⟨y,h1,h2⟩
   ·exact .inl h
   ·exact .inr ⟨y,h1,by simpa using h2⟩
theorem Tr:∀cs:List C,(Qi cs).length=cs.length
 | []=>rfl
 | c :: r=>by cases c<;>simp[Qi,Tr r]
theorem da(h:SimB X G β S a w){g:Option (Nat×Bool)}(hg:BN g a){c:Call}(ho:o.op=.call c){fo:Operand}(hc:c.callee=.value fo){f:FuncId}{cs:List C}{k id n rid rn:Nat}(hf:ρOf S g fo=.clo f cs k id n rid rn)
 {rid' rn' sz:Nat} {e:TypeId} {xs:List D} (hr:σOf S rid rn=.row rid' rn' sz e xs) {K:GJ->Prop} (hy:Hu P (σOf S) (ρOf S g) c.args.toList c.argTypes.toList λvs bs=>match bs with
  | []=>C0 (Qi cs) λcv=>ZZ P f (vs++cv) (vs.length+k) sz e xs λys=>if id=rid then False else K ⟨.any,[(rid,.row sz e ys,rn+1),(id,.var [.sl rid (rn+1)],n)],[]⟩
  | _=>False):∃e,K e/\CW P X G S a w o e:=by
 obtain⟨vs,bs,hy,hF,hlen,hrep⟩:=LX h hg hy;split at hy<;>try exact hy.elim
 rw[BI]at hy;obtain⟨ys,hcall,hy⟩:=hy.go;split at hy
 ·exact hy.elim
 rename_i hne
 refine⟨_,hy,?_⟩;have hargs:=hrep.now h hF;have hfv:=ρ_sound h hg fo;rw[hf]at hfv;obtain⟨⟨capv,hfe,hcl,hcr⟩,hat,hbx,hver⟩:=hfv
 have hrun:(execOp a.eval o).run P w=.ok (.enter f (c.args.map a.eval++capv)) w:=by
  simp only[execOp,ho,resolve,hc,hfe,Deferred.ofValue,Sem.run_bind,Sem.run_pure,Result.andThen_ok,invoke];simp only[sN];rw[Ix hcall.1]
 have hbv:=h.boxes id;rw[hbx]at hbv;obtain⟨b,vals,T,hβ,hh,hvs,hcell⟩:=hbv
 obtain⟨u,rfl⟩:∃u,vals=#[u]:=by
  have:vals.size=1:=hvs;exact⟨vals[0],by apply Array.ext;simp[this];intro i h1 h2;simp at h2;subst h2;rfl⟩
 have hcu:=hcell 0 u (.sl rid rn) rfl rfl;have hσ:=σ_sound h hcu;rw[hr]at hσ;obtain⟨hrb,hrv,hru⟩:=hσ
 obtain⟨rfl,rfl⟩:rid'=rid/\rn'=rn:=by
  simp only[σOf,res]at hr;split at hr<;>(try (split at hr))<;>cases hr<;>exact⟨rfl,rfl⟩
 have hrbx:=h.boxes rid';rw[hrb]at hrbx;obtain⟨hsz,hxs,rvals,hrow,hrl⟩:=hrbx;have ho1:(Af S id).box.owned=true:=by rw[hbx];rfl
 have ho2:(Af S rid').box.owned=true:=by rw[hrb];rfl
 have hbb:Ac (β id)=some b:=by rw[hβ];rfl
 have hid:=MZ hbx (by simp);have hrid:=MZ hrb (by simp);have hlt:=h.blk ho1 hbb
 have hO:∀c',(OS β X S c'/\c'≠b/\Ac u≠some c')\/c'=b\/Ac u=some c'->OS β X S c':=by
  intro c' hc';rcases hc' with hc'|rfl|hc'
  ·exact hc'.1
  ·exact .inr (.inr ⟨id,ho1,hbb⟩)
  ·exact .inr (.inr ⟨rid',ho2,by rw[<-hru];exact hc'⟩)
 have hval:∀(i:Nat) v,(c.args.map a.eval++capv)[i]?=some v->(∃p,c.args.toList[i]?=some p/\v=a.eval p)\/(c.args.size<=i/\capv[i-c.args.size]?=some v):=by
  intro i v hv;rcases qw i c.args.size with hi|hi
  ·rw[qA (by simpa using hi)]at hv;simp[hi]at hv;exact .inl ⟨c.args[i],by simp[hi],hv.symm⟩
  ·rw[rH (by simpa using hi)]at hv;exact .inr ⟨hi,by simpa using hv⟩
 have hkv:(c.args.map a.eval++capv)[vs.length+k]?=some (.pointer (some ⟨b,0,none⟩)):=by
  have h1:=QX hat;have h2:k<capv.size:=by rw[hcl];exact A5 h1
  have h3:=hcr k capv[k] _ (by simp[h2]) h1;have h4:capv[k]=β id:=h3.1.2 (by simp only[AG];exact hver.symm);rw[rH (by simp[hlen])];simp[hlen,h2,h4,hβ]
 have:=hcall.2 (λc'=>OS β X S c'/\c'≠b/\Ac u≠some c') w (c.args.map a.eval++capv) b u T (λc' hc'=>h.os_lt hc'.1) (λq l hq=>(h.glob q l hq).mono (B0.of_sub hO))
  (by simp[hlen,hcl,Tr]) hkv hh (λhb=>hb.2.1 rfl) (λc' hc'=>⟨λhx=>hx.2.2 hc',λe=>by
   subst e;exact hne (h.inj id rid' c' ho1 ho2 hbb (by rw[<-hru];exact hc'))⟩) hsz hxs ⟨rvals,by rw[hru];exact hrow,hrl.mono (B0.of_sub hO)⟩
  (λi v x hv hx=>by
   rcases hval i v hv with⟨p,hp,rfl⟩|⟨hi,hv⟩
   ·rw[qj (by rw[hlen];exact A5 hp)]at hx;exact(hargs i p x hp hx).mono (B0.of_sub hO)
   ·rw[qg (by rw[hlen];simpa using hi),hlen]at hx;simp only[q8]at hx;rcases Yq hx with rfl|⟨y,rfl,hcy⟩
    ·trivial
    ·exact((hcr _ v _ hv hcy).1.1).mono (B0.of_sub hO))
 refine .inr (.inr ⟨f,_,hrun,this.mono λe' w' ⟨v,u',T',h1,h2,h3,h4,h5,vals',h6,h7⟩=>⟨v,h1,?_⟩⟩);have hsz2:=h2.size;let β':Nat->Value:=λi=>if i=rid' then u' else β i
 have hgs:∀i,Af (AZ [(rid',.row sz e ys,rn'+1),(id,.var [.sl rid' (rn'+1)],n)] S) i=if i=rid' then⟨(Af S rid').av,.row sz e ys,rn'+1⟩else if i=id then⟨(Af S id).av,.var [.sl rid' (rn'+1)],n⟩else Af S i:=by
  intro i;simp only[AZ];rw[J7 (by rw[C6];exact hid),J7 hrid,J7 hrid];by_cases e1:i=id
  ·subst e1;simp[hne]
  ·simp[e1]
 have hsim:SimB X G β' (AZ [(rid',.row sz e ys,rn'+1),(id,.var [.sl rid' (rn'+1)],n)] S) a w':=by
  refine h.multi (λi=>if i=rid' then some (.row sz e ys,rn'+1,u')else if i=id then some (.var [.sl rid' (rn'+1)],n,β id)else none) (λi=>?_) (λi=>?_) (Cc _ _) hsz2 ?_ (λi B m v hE=>?_) (λb' hb' hk=>?_) (λi B m v b' hE hB hbv=>?_) (λi j B m v B' m' v' b' hE hE' hB hB' hbv hbv'=>?_) (λhk hvv i B m v hE=>?_)
  ·rw[hgs];by_cases e1:i=rid'
   ·subst e1;simp
   ·by_cases e2:i=id
    ·simp[e2,hne]
    ·simp[e1,e2]
  ·show(if i=rid' then u' else β i)=_;by_cases e1:i=rid'
   ·simp[e1]
   ·by_cases e2:i=id
    ·subst e2;simp only[qi e1,if_true]
    ·simp[e1,e2]
  ·refine h2.weaken h.hbase λq hq hm hq'=>hm ?_;rcases hq' with rfl|hq'
   ·exact((h.mine id q ho1 hbb).1).resolve_left (by omega)
   ·exact((h.mine rid' q ho2 (by rw[<-hru];exact hq')).1).resolve_left (by omega)
  ·split at hE
   ·rename_i e1;subst e1;cases hE;exact .inl (by rw[hrv];omega)
   ·split at hE
    ·rename_i e2;subst e2;cases hE;exact .inr ⟨hver.symm,rfl,by rw[hbx];simp⟩
    ·cases hE
  ·refine h2.block b' hb' λhm=>?_;rcases hm with rfl|hm
   ·exact hk id (.var [.sl rid' (rn'+1)]) n (β id) (by simp[hne]) ho1 hbb
   ·exact hk rid' (.row sz e ys) (rn'+1) u' (by simp) ho2 (by rw[<-hru];exact hm)
  ·split at hE
   ·rename_i e1
    subst e1
    cases hE
    rcases h4 b' hbv with h8|h8
    ·exact .inl ⟨i,.row sz e ys,rn'+1,u',by simp,ho2,by rw[<-hru];exact h8⟩
    ·exact .inr h8
   ·split at hE
    ·rename_i e1 e2
     subst e2
     cases hE
     exact .inl ⟨i,.var [.sl rid' (rn'+1)],n,β i,by simp[hne],ho1,hbv⟩
    ·cases hE
  ·have hdis:∀b',Ac u'=some b'->Ac (β id)≠some b':=by
    intro b' h8 h9;rw[hbb]at h9
    cases h9
    rcases h4 b h8 with h9|h9
    ·exact hne (h.inj id rid' b ho1 ho2 hbb (by rw[<-hru];exact h9))
    ·omega
   by_cases e1:i=rid'<;>by_cases e2:j=rid'
   ·rw[e1,e2]
   ·simp only[e1,e2,if_true,if_false]at hE hE';split at hE'
    ·cases hE;cases hE';exact(hdis b' hbv hbv').elim
    ·cases hE'
   ·simp only[e1,e2,if_true,if_false]at hE hE';split at hE
    ·cases hE;cases hE';exact(hdis b' hbv' hbv).elim
    ·cases hE
   ·simp only[e1,e2,if_false]at hE hE';split at hE
    ·split at hE'
     ·rename_i e3 e4;rw[e3,e4]
     ·cases hE'
    ·cases hE
  ·have hOS:∀c',OS β' X (AZ [(rid',.row sz e ys,rn'+1),(id,.var [.sl rid' (rn'+1)],n)] S) c'->(OS β X S c'/\c'≠b/\Ac u≠some c')\/c'=b\/Ac u'=some c':=by
    intro c' hc';by_cases eb:c'=b
    ·exact .inr (.inl eb)
    by_cases eu:Ac u'=some c'
    ·exact .inr (.inr eu)
    have key:OS β X S c'/\Ac u≠some c':=by
     rcases hc' with hc'|hc'|⟨i,hi1,hi2⟩
     ·refine⟨.inl hc',λe=>?_⟩;have:=(h.mine rid' c' ho2 (by rw[<-hru];exact e)).1;have h0:=h.o₀ c' hc';rcases this with this|this
      ·omega
      ·exact h0.2 this
     ·refine⟨.inr (.inl hc'),λe=>(h.mine rid' c' ho2 (by rw[<-hru];exact e)).2 hc'⟩
     ·rw[hgs]at hi1;have hi2:Ac (if i=rid' then u' else β i)=some c':=hi2;by_cases e1:i=rid'
      ·rw[qf e1]at hi2;exact(eu hi2).elim
      ·rw[qi e1]at hi1 hi2;by_cases e2:i=id
       ·subst e2;rw[hbb]at hi2;cases hi2;exact(eb rfl).elim
       ·rw[qi e2]at hi1;exact⟨.inr (.inr ⟨i,hi1,hi2⟩),λe=>e1 (h.inj i rid' c' hi1 ho2 hi2 (by rw[<-hru];exact e))⟩
    exact .inl ⟨key.1,eb,key.2⟩
   split at hE
   ·rename_i e1
    subst e1
    cases hE
    exact⟨hsz,h5,vals',by show Bj w' e sz (if i=i then u' else β i) _ _;rw[qf rfl];exact h6,h7.mono (B0.of_sub hOS)⟩
   ·split at hE
    ·rename_i e1 e2
     subst e2
     cases hE
     refine⟨b,#[u'],T',by show(if i=rid' then u' else β i)=_;rw[qi e1];exact hβ,h3,rfl,λj v c' hv hc'=>?_⟩
     cases j with
     | zero =>
       simp at hv hc';subst hv;subst hc';have hvr:AG (AZ [(rid',.row sz e ys,rn'+1),(i,.var [.sl rid' (rn'+1)],n)] S) rid'=rn'+1:=by simp only[AG,hgs,if_true]
       exact⟨by rw[hvr];exact qb _,λ_=>by show _=if rid'=rid' then u' else _;rw[qf rfl]⟩
     | succ j=>simp at hc'
    ·cases hE
 exact⟨β',hsim,trivial,rfl⟩
end
open Go.MapKept
section
variable {P:Program} {X:Cx} {G:Nat->Prop} {β:Nat->Value} {S:AS} {a:Act} {w:World} {o:Oper}
theorem Yb{O:Nat->Prop}{kd:TypeDesc}{v u:Value}{k q:D}(hk:Aw O w v k)(hq:Aw O w u q)(hkd:XS k=some kd)(hkk:Ip k q=true) :
 Instr.sameNow kd v u=some (Jr k q):=by
 cases k<;>simp only[XS,Option.some.injEq]at hkd<;>try (cases hkd;done)
 case int j n =>
  cases q<;>simp only[Ip]at hkk<;>try (cases hkk;done)
  case int j' m =>
   cases hk;cases hq
   subst hkd;have:=pZ hkk;subst this;simp[Instr.sameNow,Jr]
 case str s =>
  cases q<;>simp only[Ip]at hkk<;>try (cases hkk;done)
  case str s' =>
   cases hk;cases hq
   subst hkd;simp[Instr.sameNow,Jr]
theorem NY{O:Nat->Prop}{kd:TypeDesc}{v:Value}{k:D}(hk:Aw O w v k)(hkd:XS k=some kd) :
 ∀(vs:List MapEntry)(es:List (D×D))(i:Nat),vs.length=es.length->(∀p∈es,Ip k p.1=true)->(∀(j:Nat)(e:MapEntry)(p:D×D),vs[j]?=some e->es[j]?=some p->Aw O w e.key p.1) ->
  Instr.findNow kd v vs i=some (match Q0 k es with|some j=>(vs[j]?).map λe=>(i+j,e.val)|none=>none)
 | [],[],_,_,_,_=>rfl
 | [],_ :: _,_,h,_,_=>by simp at h
 | _ :: _,[],_,h,_,_=>by simp at h
 | e :: vs,p :: es,i,hl,hkk,hr=>by
   have h1:=Yb hk (hr 0 e p rfl rfl) hkd (hkk p (by simp));unfold Instr.findNow Q0;rw[h1]
   cases Jr k p.1 with
   | true=>simp
   | false =>
     simp only[q9];rw[NY hk hkd vs es (i+1) (by simpa using hl) (λq hq=>hkk q (by simp[hq])) (λj e' p' he hp=>hr (j+1) e' p' (by simpa using he) (by simpa using hp))]
     cases Q0 k es with
     | none=>rfl
     | some j =>
       simp only[rO,qD];congr 2;funext e';congr 1;omega
theorem Zo(h:SimB X G β S a w){d:Nat}(hd:d<S.length){t:TypeId}(ho:o.op=.makeMap t none) :
 CW P X G S a w o ⟨.sl d ((Af S d).ver+1),[(d,.map [],(Af S d).ver+1)],[]⟩:=by
 refine .inl ⟨.map (some w.heap.size),w.alloc (.map #[] 0),?_,Kz β d (.map (some w.heap.size)),?_,?_,rfl⟩
 ·simp[execOp,ho,Instr.makeMap]
 ·exact h.rebox (R':=X.R) (λ_ h=>h) hd (.inl (rx _)) (by simp) ((A7.of (Lm _)).weaken h.hbase λ_ _ h=>h) (λb hb _=>heap_alloc_old w _ b hb)
   (λ_ b hb=>⟨.inr (.inl (by simp[Ac]at hb;omega)),λhr=>by simp[Ac]at hb;have:=(h.rs b hr).2;omega⟩) (λk hv=>⟨w.heap.size,#[],0,by simp[Kz],heap_alloc_new w _,rfl,λi e p he=>by simp at he⟩)
 ·have hv:AG (AQ S d (.map []) ((Af S d).ver+1)) d=(Af S d).ver+1:=by simp[AG,BP,hd]
  exact⟨by simp only[AZ];rw[hv];exact qb _,λ_=>by simp[Kz]⟩
theorem Z1{q:D}:∀{es:List (D×D)}{j:Nat},Q0 q es=some j->j<es.length
 | [],j,h=>by cases h
 | p :: r,j,h=>by
   unfold Q0 at h
   cases hk:Jr q p.1 with
   | true=>rw[hk]at h;cases h;simp
   | false =>
     rw[hk]at h;simp only[q9]at h;obtain⟨i,hi,rfl⟩:=Option.map_eq_some_iff.1 h;have:=Z1 hi;simp;omega
theorem Y2(q:D):∀es:List (D×D),O0 q es=(Q0 q es).bind λj=>(es[j]?).map (·.2)
 | []=>rfl
 | p :: r=>by
   unfold O0 Q0
   cases Jr q p.1 with
   | true=>rfl
   | false =>
     simp only[q9];rw[Y2 q r]
     cases Q0 q r<;>simp
theorem bp{O:Nat->Prop}{kd:TypeDesc}{q:D}{u:Value}(hkq:XS q=some kd)(h:Aw O w u q):IsKey kd u:=by
 cases q<;>simp only[XS,Option.some.injEq]at hkq<;>try (cases hkq;done)
 case int j n=>cases h;subst hkq;simp[IsKey]
 case str s=>cases h;subst hkq;simp[IsKey]
theorem aS(h:SimB X G β S a w){g:Option (Nat×Bool)}(hg:BN g a){t kt et:TypeId}{x ix:Operand}{ok:Bool}(ho:o.op=.lookup t x ix ok)(hu:P.underlying t=some (.map kt et)){id n:Nat}{es:List (D×D)}(hx:ρOf S g x=.mp id n es){q:D}(hq:ρOf S g ix=.d q)
 {kd:TypeDesc} (hkq:XS q=some kd) (hku:P.underlying kt=some kd) (hkk:∀p∈es,Ip q p.1=true) {z:D} (hz:l9 P et=some z) :
 CW P X G S a w o ⟨if ok then .tup [.d ((O0 q es).getD z),.d (.bool (O0 q es).isSome)]else .d ((O0 q es).getD z),[],[]⟩:=by
 have h1:=ρ_sound h hg x;rw[hx]at h1;obtain⟨hb,_,hv⟩:=h1;have h2:=ρ_sound h hg ix;rw[hq]at h2;have hbx:=h.boxes id;rw[hb]at hbx;obtain⟨b,vs,clock,hβ,hh,hl,hr⟩:=hbx;have h2':Aw (OS β X S) w (a.eval ix) q:=h2;have hkey:=bp hkq h2';have hfind:=NY h2' hkq vs.toList es 0 (by simpa using hl) hkk (λj e p he hp=>(hr j e p (by simpa using he) hp).1);unfold l9 at hz;split at hz<;>try (cases hz;done)
 rename_i i hi
 split at hz<;>try (cases hz;done)
 rename_i zv hzv
 have hzr:=λ(O:Nat->Prop)(w:World)=>cA (O:=O) (w:=w) hz;have hx2:a.eval x=.map (some b):=by rw[hv,hβ]
 rw[Y2]
 cases hj:Q0 q es with
 | none =>
   rw[hj]at hfind;simp only at hfind
   cases ok with
   | false =>
     refine AK h (v:=zv) ?_ (hzr _ _).1 rfl;simp[execOp,ho,Instr.lookup,run_underlying hu,hx2,MapKept.run_getObj_map hh,MapKept.run_checkKey hku hkey,MapKept.run_findKey hku hfind,zeroValue,typeInfo,hi,hzv,Result.andThen]
   | true =>
     refine AK h (v:=.tuple #[zv,.bool false]) ?_ ⟨#[zv,.bool false],rfl,rfl,λk u c hu hc=>?_⟩ rfl
     ·simp[execOp,ho,Instr.lookup,run_underlying hu,hx2,MapKept.run_getObj_map hh,MapKept.run_checkKey hku hkey,MapKept.run_findKey hku hfind,zeroValue,typeInfo,hi,hzv,Result.andThen]
     ·match k,hu,hc with
      | 0,hu,hc=>simp at hu hc;subst hu;subst hc;exact(hzr _ _).1
      | 1,hu,hc=>simp at hu hc;subst hu;subst hc;exact .bool _
      | k+2,hu,hc=>simp at hu
 | some j =>
   rw[hj]at hfind;have hjl:=Z1 hj;have hjv:j<vs.size:=by omega
   have hrj:=hr j vs[j] es[j] (by simp[hjv]) (P2 hjl);simp only[P2 hjl,qd,rO,rt,Option.isSome_some]at hfind ⊢;have hvj:vs.toList[j]?=some vs[j]:=by simp[hjv]
   rw[hvj]at hfind;simp only[rO]at hfind
   cases ok with
   | false =>
     refine AK h (v:=vs[j].val) ?_ hrj.2.1 rfl;simp[execOp,ho,Instr.lookup,run_underlying hu,hx2,MapKept.run_getObj_map hh,MapKept.run_checkKey hku hkey,MapKept.run_findKey hku hfind,Result.andThen]
   | true =>
     refine AK h (v:=.tuple #[vs[j].val,.bool true]) ?_ ⟨#[vs[j].val,.bool true],rfl,rfl,λk u c hu hc=>?_⟩ rfl
     ·simp[execOp,ho,Instr.lookup,run_underlying hu,hx2,MapKept.run_getObj_map hh,MapKept.run_checkKey hku hkey,MapKept.run_findKey hku hfind,Result.andThen]
     ·match k,hu,hc with
      | 0,hu,hc=>simp at hu hc;subst hu;subst hc;exact hrj.2.1
      | 1,hu,hc=>simp at hu hc;subst hu;subst hc;exact .bool _
      | k+2,hu,hc=>simp at hu
theorem YL{q:D}(v:D):∀{es:List (D×D)},Q0 q es=none->XF q v es=es++[(q,v)]
 | [],_=>rfl
 | p :: r,h=>by
   unfold Q0 at h;unfold XF
   cases hk:Jr q p.1 with
   | true=>rw[hk]at h;cases h
   | false =>
     rw[hk]at h;simp only[q9,Option.map_eq_none_iff]at h;rw[q9,YL v h];rfl
theorem YM{q:D}(v:D):∀{es:List (D×D)}{j:Nat},Q0 q es=some j->XF q v es=es.set j (q,v)
 | [],j,h=>by cases h
 | p :: r,j,h=>by
   unfold Q0 at h;unfold XF
   cases hk:Jr q p.1 with
   | true=>rw[hk]at h;cases h;rfl
   | false =>
     rw[hk]at h;simp only[q9]at h;obtain⟨i,hi,rfl⟩:=Option.map_eq_some_iff.1 h;rw[q9,YM v hi];rfl
theorem fE(h:SimB X G β S a w){id n:Nat}{es es':List (D×D)}(hb:(Af S id).box=.map es)(hn:(Af S id).ver=n){b:Nat}(hβ:β id=.map (some b)){vs vs':Array MapEntry}{clock clock':Nat}(hh:w.heap[b]?=some (.map vs clock))
 (hl:vs'.size=es'.length) (hr:∀(i:Nat)(e:MapEntry)(p:D×D),vs'[i]?=some e->es'[i]?=some p->(∀(O:Nat->Prop)(w:World),Aw O w e.key p.1)/\(∀(O:Nat->Prop)(w:World),Aw O w e.val p.2)/\p.1.bare=true/\p.2.bare=true) :
 SimB X G β (AQ S id (.map es') n) a { w with heap:=w.heap.setIfInBounds b (.map vs' clock') }:=by
 have hid:=MZ hb (by simp);have ho:(Af S id).box.owned=true:=by rw[hb];rfl
 have hbl:Ac (β id)=some b:=by rw[hβ];rfl
 obtain⟨hs1,hs2⟩:=heap_set (o':=.map vs' clock') hh
 have h5:=h.rebox (R':=X.R) (id:=id) (B:=.map es') (v:=β id) (n:=n) (w':={ w with heap:=w.heap.setIfInBounds b (.map vs' clock') })
  (λ_ h=>h) hid (.inr ⟨hn.symm,rfl,by rw[hb];simp⟩) (by simp)
  ⟨rfl,rfl,rfl,by simp,λk hk hm=>hs2 k λe=>by subst e;rcases(h.mine id k ho hbl).1 with h1|h1;omega;exact hm h1⟩
  (λk _ hk=>hs2 k λe=>hk ho (by rw[hbl,e]))
  (λ_ k hk=>⟨.inl ⟨hk,ho⟩,(h.mine id k ho hk).2⟩)
  (λk hv=>by
   rw[FI]at k hv ⊢;exact⟨b,vs',clock',hβ,hs1,hl,λi e p he hp=>⟨(hr i e p he hp).1 _ _,(hr i e p he hp).2.1 _ _,(hr i e p he hp).2.2⟩⟩)
 rw[FI]at h5;exact h5
theorem fk{q:D}:∀{es:List (D×D)}{j:Nat},Q0 q es=some j->∀h:j<es.length,Jr q es[j].1=true
 | [],j,h,hl=>by simp at hl
 | p :: r,j,h,hl=>by
   unfold Q0 at h
   cases hk:Jr q p.1 with
   | true=>rw[hk]at h;cases h;exact hk
   | false =>
     rw[hk]at h;simp only[q9]at h;obtain⟨i,hi,rfl⟩:=Option.map_eq_some_iff.1 h;exact fk hi (by simpa using hl)
theorem kS{O:Nat->Prop}{q p:D}{u v:Value}(hk:Ip q p=true)(he:Jr q p=true)(hq:Aw O w u q)(hp:Aw O w v p):v=u:=by
 cases q<;>cases p<;>simp only[Ip]at hk<;>try (cases hk;done)
 case int.int j n j' n' =>
  cases hq;cases hp
  have:=pZ hk;subst this;simp only[Jr]at he;rw[sR he]
 case str.str s s' =>
  cases hq;cases hp
  simp only[Jr]at he;rw[(bytes_beq _ _).1 he]
theorem aT(h:SimB X G β S a w){g:Option (Nat×Bool)}(hg:BN g a){t kt et:TypeId}{m k x:Operand}(ho:o.op=.mapUpdate t m k x)(hu:P.underlying t=some (.map kt et)){id n:Nat}{es:List (D×D)}(hm:ρOf S g m=.mp id n es){q y:D}(hq:ρOf S g k=.d q)(hy:ρOf S g x=.d y)(hyb:y.bare=true)
 {kd:TypeDesc} (hkq:XS q=some kd) (hku:P.underlying kt=some kd) (hkk:∀p∈es,Ip q p.1=true) :
 CW P X G S a w o ⟨.any,[(id,.map (XF q y es),n)],[]⟩:=by
 have h1:=ρ_sound h hg m;rw[hm]at h1;obtain⟨hb,hn,hv⟩:=h1;have h2:=ρ_sound h hg k;rw[hq]at h2;have h2':Aw (OS β X S) w (a.eval k) q:=h2;have h3:=ρ_sound h hg x;rw[hy]at h3;have h3':Aw (OS β X S) w (a.eval x) y:=h3;have hbx:=h.boxes id;rw[hb]at hbx;obtain⟨b,vs,clock,hβ,hh,hl,hr⟩:=hbx;have hkey:=bp hkq h2';have hqb:q.bare=true:=by cases q<;>simp[XS]at hkq<;>rfl
 have hfind:=NY h2' hkq vs.toList es 0 (by simpa using hl) hkk (λj e p he hp=>(hr j e p (by simpa using he) hp).1);have hm2:a.eval m=.map (some b):=by rw[hv,hβ]
 have old:∀(i:Nat)(e:MapEntry)(p:D×D),vs[i]?=some e->es[i]?=some p->(∀(O:Nat->Prop)(w:World),Aw O w e.key p.1)/\(∀(O:Nat->Prop)(w:World),Aw O w e.val p.2)/\p.1.bare=true/\p.2.bare=true:=λi e p he hp =>
  ⟨λ_ _=>RA (hr i e p he hp).1 (hr i e p he hp).2.2.1,λ_ _=>RA (hr i e p he hp).2.1 (hr i e p he hp).2.2.2,(hr i e p he hp).2.2⟩
 cases hj:Q0 q es with
 | none =>
   rw[hj]at hfind;simp only at hfind;rw[YL y hj];refine .inr (.inl ⟨{ w with heap:=w.heap.setIfInBounds b (.map (vs.push { key:=a.eval k,val:=a.eval x,born:=clock }) (clock+1)) },?_,β,?_,trivial,rfl⟩)
   ·simp[execOp,ho,Instr.mapUpdate,run_underlying hu,hm2,MapKept.run_getObj_map hh,MapKept.run_checkKey hku hkey,MapKept.run_findKey hku hfind,run_setObj_map _ hh,Result.andThen]
   ·refine fE h hb hn hβ hh (by simp[hl]) λi e p he hp=>?_;by_cases hi:i<vs.size
    ·exact old i e p (by rw[Array.getElem?_push]at he;rw[qi (by omega)]at he;exact he) (by rw[qj (by omega)]at hp;exact hp)
    ·have hi2:i=vs.size:=by
      have:=(List.getElem?_eq_some_iff.1 hp).1;simp at this;omega
     subst hi2;simp at he;rw[qg (by omega)]at hp;simp[hl]at hp;subst he;subst hp;exact⟨λ_ _=>RA h2' hqb,λ_ _=>RA h3' hyb,hqb,hyb⟩
 | some j =>
   rw[hj]at hfind;have hjl:=Z1 hj;have hjv:j<vs.size:=by omega
   have hvj:vs.toList[j]?=some vs[j]:=by simp[hjv]
   simp only[hvj,rO]at hfind;rw[YM y hj];have hrj:=hr j vs[j] es[j] (by simp[hjv]) (P2 hjl);have hsame:vs[j].key=a.eval k:=kS (hkk _ (qa hjl)) (fk hj hjl) h2' hrj.1;refine .inr (.inl ⟨{ w with heap:=w.heap.setIfInBounds b (.map (vs.modify j λe=>{ e with key:=a.eval k,val:=a.eval x }) clock) },?_,β,?_,trivial,rfl⟩)
   ·simp[execOp,ho,Instr.mapUpdate,run_underlying hu,hm2,MapKept.run_getObj_map hh,MapKept.run_checkKey hku hkey,MapKept.run_findKey hku hfind,run_setObj_map _ hh,Result.andThen,hjv,hsame,run_keyThatStays hkey]
   ·refine fE h hb hn hβ hh (by simp[hl]) λi e p he hp=>?_;rw[rU]at he;rw[qO]at hp;by_cases hi:j=i
    ·subst hi;rw[qf rfl]at he hp;rw[qf hjl]at hp;simp[hjv]at he
     cases hp
     subst he;exact⟨λ_ _=>RA h2' hqb,λ_ _=>RA h3' hyb,hqb,hyb⟩
    ·rw[qi hi]at he hp;exact old i e p he hp
end
section
variable {P:Program} {X:Cx} {G:Nat->Prop} {β:Nat->Value} {S:AS} {a:Act} {w:World} {o:Oper}
theorem kg{x:D}(h:x.one=true):(norm x).one=true:=by cases x<;>first|rfl|exact h
theorem Qs{ρ:Operand->RV}:∀{l:List Operand}{i k id n:Nat}{cs:List C},LN ρ l i=some (k,id,n,cs)->∃j x,k=i+j/\l[j]?=some x/\ρ x=.vptr id n 0 cs
 | [],i,k,id,n,cs,h=>by simp[LN]at h
 | x :: r,i,k,id,n,cs,h=>by
   have go:LN ρ r (i+1)=some (k,id,n,cs)->∃j y,k=i+j/\(x :: r)[j]?=some y/\ρ y=.vptr id n 0 cs:=λh=>by
    obtain⟨j,y,h1,h2,h3⟩:=Qs h;exact⟨j+1,y,by omega,by simpa using h2,h3⟩
   unfold LN at h;split at h
   ·rename_i id' n' cs' hx
    split at h
    ·cases h;exact⟨0,x,by omega,rfl,hx⟩
    ·exact go h
   ·exact go h
theorem Qq(h:SimB X G β S a w){g:Option (Nat×Bool)}(hg:BN g a){k:Nat}:∀{l:List Operand}{i:Nat}{K:List AV->Prop},MU (ρOf S g) k l i K->∃vs,K vs/\vs.length=l.length/\∀(j:Nat) p y,l[j]?=some p->vs[j]?=some y->Ot (OS β X S) w (a.eval p) y
 | [],i,K,hy=>⟨[],hy,rfl,λj p y hp _=>by simp at hp⟩
 | x :: r,i,K,hy=>by
   unfold MU at hy;split at hy
   ·obtain⟨vs,h1,h2,h3⟩:=Qq h hg hy;refine⟨_,h1,by simp[h2],λj p y hp hv=>?_⟩
    cases j with
    | zero=>simp at hv;subst hv;trivial
    | succ j=>exact h3 j p y (by simpa using hp) (by simpa using hv)
   ·split at hy<;>try exact hy.elim
    rename_i y hx
    rw[Nf]at hy;obtain⟨vs,h1,h2,h3⟩:=Qq h hg hy;have hr:=ρ_sound h hg x;rw[hx]at hr;have hr:Aw (OS β X S) w (a.eval x) y:=hr;refine⟨_,h1,by simp[h2],λj p z hp hv=>?_⟩
    cases j with
    | zero=>simp at hp hv;subst hp;subst hv;exact hr.norm
    | succ j=>exact h3 j p z (by simpa using hp) (by simpa using hv)
structure GC(S:AS)(cl cs:List C):Prop where
 len:cl.length=cs.length
 at_:∀(j:Nat) c c',cl[j]?=some c->cs[j]?=some c'->(∃x,c=.d x/\c'=.d (norm x))\/(∃rid rn i' n' sz e xs,c=.sl rid rn/\c'=.own sz e xs/\σOf S rid rn=.row i' n' sz e xs)
theorem Pf:∀{cl:List C}{K:List C->Prop},I4 (σOf S) cl K->∃cs,K cs/\GC S cl cs
 | [],K,h=>⟨[],h,rfl,λj c c' hc=>by simp at hc⟩
 | c :: r,K,h=>by
   unfold I4 at h;split at h
   ·rename_i x
    rw[Nf]at h;obtain⟨cs,h1,h2⟩:=Pf h;refine⟨_,h1,by simp[h2.len],λj c c' hc hc'=>?_⟩
    cases j with
    | zero=>simp at hc hc';subst hc;subst hc';exact .inl ⟨x,rfl,rfl⟩
    | succ j=>exact h2.at_ j c c' (by simpa using hc) (by simpa using hc')
   ·rename_i id n
    split at h<;>try exact h.elim
    rename_i i' n' sz e xs hr
    obtain⟨cs,h1,h2⟩:=Pf h;refine⟨_,h1,by simp[h2.len],λj c c' hc hc'=>?_⟩
    cases j with
    | zero=>simp at hc hc';subst hc;subst hc';exact .inr ⟨id,n,i',n',sz,e,xs,rfl,rfl,hr⟩
    | succ j=>exact h2.at_ j c c' (by simpa using hc) (by simpa using hc')
   ·exact h.elim
structure GB(cl cs' l:List C)(ub:Bx):Prop where
 len:cl.length=cs'.length
 len2:l.length=cl.length
 at_:∀(j:Nat) c c' d,cl[j]?=some c->cs'[j]?=some c'->l[j]?=some d->(∃x y,c=.d x/\c'=.d y/\d=.d y)\/(∃rid rn sz e ys,c=.sl rid rn/\c'=.own sz e ys/\d=.sl rid (rn+1)/\(rid,B6.row sz e ys,rn+1)∈ub)
 of:∀y∈ub,∃(j rn sz:Nat)(e:TypeId)(ys:List D),cl[j]?=some (.sl y.1 rn)/\cs'[j]?=some (.own sz e ys)/\y=(y.1,B6.row sz e ys,rn+1)
 nodup:(ub.map (·.1)).Nodup
 inj:∀(i j:Nat) q n n',cl[i]?=some (.sl q n)->cl[j]?=some (.sl q n')->i=j
theorem Qr:∀{cl cs':List C}{K:List C->Bx->Prop},RJ cl cs' K->∃l ub,K l ub/\GB cl cs' l ub
 | [],[],K,h=>⟨[],[],h,rfl,rfl,(λj c c' d hc=>by simp at hc),(λy hy=>by cases hy),List.nodup_nil,(λi j q n n' hi=>by simp at hi)⟩
 | [],c' :: r',K,h=>by cases c'<;>exact h.elim
 | c :: r,[],K,h=>by cases c<;>exact h.elim
 | c :: r,c' :: r',K,h=>by
   cases c with
   | own _ _ _=>cases c'<;>exact h.elim
   | d x =>
     cases c' with
     | sl _ _=>exact h.elim
     | own _ _ _=>exact h.elim
     | d y =>
       simp only[RJ]at h;obtain⟨l,ub,h1,h2⟩:=Qr h;refine⟨_,ub,h1,by simp[h2.len],by simp[h2.len2],λj c c' d hc hc' hd=>?_,λz hz=>?_,h2.nodup,λi j q n n' hi hj=>?_⟩
       ·cases j with
        | zero=>simp at hc hc' hd;subst hc;subst hc';subst hd;exact .inl ⟨x,y,rfl,rfl,rfl⟩
        | succ j=>exact h2.at_ j c c' d (by simpa using hc) (by simpa using hc') (by simpa using hd)
       ·obtain⟨j,rn,sz,e,ys,h3,h4,h5⟩:=h2.of z hz;exact⟨j+1,rn,sz,e,ys,by simpa using h3,by simpa using h4,h5⟩
       ·cases i with
        | zero=>simp at hi
        | succ i=>cases j with
          | zero=>simp at hj
          | succ j=>rw[h2.inj i j q n n' (by simpa using hi) (by simpa using hj)]
   | sl q n =>
     cases c' with
     | sl _ _=>exact h.elim
     | d _=>exact h.elim
     | own sz e ys =>
       simp only[RJ]at h;obtain⟨l,ub,h1,h2⟩:=Qr h;split at h1
       ·rename_i hni
        have hni:=EP hni
        have hq:∀(j n':Nat),r[j]?=some (.sl q n')->False:=by
         intro j n' hj;have hjl:=A5 hj;have h3:r'[j]?=some (r'[j]'(by rw[<-h2.len];exact hjl)):=P2 _;have h4:l[j]?=some (l[j]'(by rw[h2.len2];exact hjl)):=P2 _;rcases h2.at_ j _ _ _ hj h3 h4 with⟨x,y,h5,_⟩|⟨rid,rn,sz',e',ys',h5,_,_,h6⟩
         ·cases h5
         ·cases h5;exact hni _ h6 rfl
        refine⟨_,_,h1,by simp[h2.len],by simp[h2.len2],λj c c' d hc hc' hd=>?_,λz hz=>?_,?_,λi j q' n' n2 hi hj=>?_⟩
        ·cases j with
         | zero=>simp at hc hc' hd;subst hc;subst hc';subst hd;exact .inr ⟨q,n,sz,e,ys,rfl,rfl,rfl,rD ..⟩
         | succ j =>
           rcases h2.at_ j c c' d (by simpa using hc) (by simpa using hc') (by simpa using hd)with h|⟨rid,rn,sz',e',ys',h5,h6,h7,h8⟩
           ·exact .inl h
           ·exact .inr ⟨rid,rn,sz',e',ys',h5,h6,h7,rh _ h8⟩
        ·rcases List.mem_cons.1 hz with rfl|hz
         ·exact⟨0,n,sz,e,ys,rfl,rfl,rfl⟩
         ·obtain⟨j,rn,sz',e',ys',h3,h4,h5⟩:=h2.of z hz;exact⟨j+1,rn,sz',e',ys',by simpa using h3,by simpa using h4,h5⟩
        ·simp only[qk,sJ];refine⟨λhm=>?_,h2.nodup⟩;obtain⟨z,hz,e⟩:=List.mem_map.1 hm;exact hni z hz e
        ·cases i with
         | zero=>cases j with
           | zero=>rfl
           | succ j =>
             simp at hi hj;obtain⟨rfl,rfl⟩:=hi;exact(hq j n2 hj).elim
         | succ i=>cases j with
           | zero =>
             simp at hi hj;obtain⟨rfl,rfl⟩:=hj;exact(hq i n' hi).elim
           | succ j=>rw[h2.inj i j q' n' n2 (by simpa using hi) (by simpa using hj)]
       ·exact h1.elim
def pk(cl:List C)(i:Nat):Option Nat:=(List.range cl.length).find? λ(j:Nat)=>match cl[j]? with|some (.sl q _)=>q==i|_=>false
theorem j8{cl:List C}{i j n:Nat}(hj:cl[j]?=some (.sl i n))(hinj:∀(i j:Nat) q n n',cl[i]?=some (.sl q n)->cl[j]?=some (.sl q n')->i=j):pk cl i=some j:=by
 unfold pk
 cases hf:(List.range cl.length).find? λ(j:Nat)=>match cl[j]? with|some (.sl q _)=>q==i|_=>false with
 | none =>
   rw[su]at hf;have:=hf j (List.mem_range.2 (A5 hj));rw[hj]at this;simp at this
 | some j' =>
   have h1:=List.find?_some hf;split at h1
   ·rename_i q n' hh
    have:q=i:=by simpa using h1
    subst this;rw[hinj j' j q n' n hh hj]
   ·cases h1
theorem cX(h:SimB X G β S a w){g:Option (Nat×Bool)}(hg:BN g a){c:Call}(ho:o.op=.call c){fo:Operand}(hc:c.callee=.value fo){f:FuncId}(hf:ρOf S g fo=.d (.fn f []))
 {k id n:Nat} {cl:List C} (hfind:LN (ρOf S g) c.args.toList 0=some (k,id,n,cl)) {K:GJ->Prop}
 (hy:MU (ρOf S g) k c.args.toList 0 λvs=>I4 (σOf S) cl λcs=>iL P f vs k cs λcs' r=>RJ cl cs' λl ub=>if Fj id ub=true then K ⟨.d r,ub++[(id,.var l,n)],[]⟩else False):∃e,K e/\CW P X G S a w o e:=by
 obtain⟨vs,hy,hlen,hargs⟩:=Qq h hg hy;obtain⟨cs,hy,hGC⟩:=Pf hy;obtain⟨cs',r,hcall,hy⟩:=hy.go;obtain⟨l,ub,hy,hGB⟩:=Qr hy
 obtain⟨hni,hy⟩:Fj id ub=true/\K ⟨.d r,ub++[(id,.var l,n)],[]⟩:=by
  split at hy
  ·rename_i h1;exact⟨h1,hy⟩
  ·exact hy.elim
 have hni:=EP hni;refine⟨_,hy,?_⟩;have hfv:=ρ_sound h hg fo;rw[hf]at hfv;have hfv:Aw (OS β X S) w (a.eval fo) (.fn f []):=hfv
 obtain⟨fvs,hfe,hfs⟩:∃fvs:Array Value,a.eval fo=.func (.func f) #[] fvs/\fvs=#[]:=by
  generalize a.eval fo=v at hfv
  cases hfv with
  | fn _ fvs _ hl _ _=>exact⟨fvs,rfl,by simpa using hl⟩
 subst hfs
 have hrun:(execOp a.eval o).run P w=.ok (.enter f (c.args.map a.eval)) w:=by
  simp only[execOp,ho,resolve,hc,hfe,Deferred.ofValue,Sem.run_bind,Sem.run_pure,Result.andThen_ok,invoke];simp only[sN,Array.append_empty];rw[Ix hcall.1]
 obtain⟨kj,x,hkj,hxk,hxr⟩:=Qs hfind;obtain rfl:k=kj:=by omega
 have hpv:=ρ_sound h hg x;rw[hxr]at hpv;obtain⟨hbx,hver,b,hβ,hpe⟩:=hpv;have hbv:=h.boxes id;rw[hbx]at hbv;obtain⟨b',vals,T,hβ',hh,hvs,hcell⟩:=hbv;obtain rfl:b'=b:=by rw[hβ]at hβ';simp at hβ';exact hβ'.symm
 have ho1:(Af S id).box.owned=true:=by rw[hbx];rfl
 have hbb:Ac (β id)=some b':=by rw[hβ];rfl
 have hid:=MZ hbx (by simp);have hlt:=h.blk ho1 hbb
 have hcv:∀{j:Nat}{c:C},cl[j]?=some c->∃v,vals[j]?=some v:=λ{j c} hj=>by
  have:j<vals.size:=by rw[hvs];exact A5 hj
  exact⟨vals[j],by simp[this]⟩
 have hcs:∀{j:Nat}{c:C},cl[j]?=some c->∃c',cs[j]?=some c':=λ{j c} hj=>⟨cs[j]'(by rw[<-hGC.len];exact A5 hj),P2 _⟩
 have hrow:∀(j rid rn:Nat),cl[j]?=some (.sl rid rn)->rid≠id/\∃(sz:Nat)(e:TypeId)(xs:List D),cs[j]?=some (.own sz e xs)/\vals[j]?=some (β rid)/\(Af S rid).box=.row sz e xs/\(Af S rid).ver=rn:=by
  intro j rid rn hj;obtain⟨u,hu⟩:=hcv hj;obtain⟨c',hc'⟩:=hcs hj;have hcu:=hcell j u _ hu hj;rcases hGC.at_ j _ _ hj hc' with⟨x,h1,_⟩|⟨rid',rn',i',n',sz,e,xs,h1,rfl,h3⟩
  ·cases h1
  ·cases h1
   have hσ:=σ_sound h hcu;rw[h3]at hσ;obtain⟨hrb,hrv,hru⟩:=hσ
   obtain⟨rfl,rfl⟩:i'=rid/\n'=rn:=by
    simp only[σOf,res]at h3;split at h3<;>(try (split at h3))<;>cases h3<;>exact⟨rfl,rfl⟩
   refine⟨λe=>?_,sz,e,xs,hc',by rw[hu,hru],hrb,hrv⟩;subst e;rw[hbx]at hrb;cases hrb
 have hro:∀{rid:Nat}{sz:Nat}{e:TypeId}{xs:List D},(Af S rid).box=.row sz e xs->(Af S rid).box.owned=true:=λh=>by rw[h];rfl
 have hblk:∀c,FL vals cs c->∃(j rid rn:Nat),cl[j]?=some (.sl rid rn)/\(Af S rid).box.owned=true/\Ac (β rid)=some c/\rid≠id:=by
  rintro c ⟨j,u,sz,e,xs,h1,h2,h3⟩;have hjl:j<cl.length:=by rw[hGC.len];exact A5 h2
  have hcl:cl[j]?=some cl[j]:=P2 hjl;rcases hGC.at_ j _ _ hcl h2 with⟨x,_,h4⟩|⟨rid,rn,i',n',sz',e',xs',h4,h5,_⟩
  ·cases h4
  ·rw[h4]at hcl;obtain⟨k1,sz2,e2,xs2,_,k3,k4,_⟩:=hrow j rid rn hcl;rw[h1]at k3
   cases k3
   exact⟨j,rid,rn,hcl,hro k4,h3,k1⟩
 have hrownblk:∀(j rid rn c:Nat),cl[j]?=some (.sl rid rn)->Ac (β rid)=some c->FL vals cs c:=by
  intro j rid rn c hj hb;obtain⟨_,sz,e,xs,k2,k3,_,_⟩:=hrow j rid rn hj;exact⟨j,_,sz,e,xs,k3,k2,hb⟩
 have hneb:∀c,FL vals cs c->c≠b':=by
  intro c hc e;subst e;obtain⟨j,rid,rn,_,h2,h3,h4⟩:=hblk c hc;exact h4 (h.inj rid id c h2 ho1 h3 hbb)
 have hO:∀c,(OS β X S c/\c≠b'/\¬FL vals cs c)\/c=b'\/FL vals cs c->OS β X S c:=by
  intro c hc;rcases hc with hc|rfl|hc
  ·exact hc.1
  ·exact .inr (.inr ⟨id,ho1,hbb⟩)
  ·obtain⟨j,rid,rn,_,h2,h3,_⟩:=hblk c hc;exact .inr (.inr ⟨rid,h2,h3⟩)
 have:=hcall.2 (λc=>OS β X S c/\c≠b'/\¬FL vals cs c) w (c.args.map a.eval) b' vals (λc hc=>h.os_lt hc.1) (λq l hq=>(h.glob q l hq).mono (B0.of_sub hO)) (by simp[hlen])
  (by
   rw[<-qJ];simp only[s9,ql];have:c.args.toList[k]?=some x:=by simpa using hxk
   rw[this];simp[hpe])
  ⟨⟨T,hh⟩,by rw[hvs,hGC.len],λj v c' hv hc'=>by
    have hjl:j<cl.length:=by rw[hGC.len];exact A5 hc'
    have hcl:cl[j]?=some cl[j]:=P2 hjl;have hrc:=hcell j v _ hv hcl;rcases hGC.at_ j _ _ hcl hc' with⟨y,h1,rfl⟩|⟨rid,rn,i',n',sz,e,xs,h1,rfl,_⟩
    ·rw[h1]at hrc;exact⟨(hrc.1.mono (B0.of_sub hO)).norm,kg hrc.2⟩
    ·rw[h1]at hcl;obtain⟨_,sz2,e2,xs2,k2,k3,k4,_⟩:=hrow j rid rn hcl;rw[hc']at k2
     cases k2
     rw[hv]at k3
     cases k3
     have hb2:=h.boxes rid;rw[k4]at hb2;obtain⟨l1,l2,rv,l3,l4⟩:=hb2;exact⟨l1,l2,rv,l3,l4.mono (B0.of_sub hO)⟩,hneb,λi j u u' sz e xs sz' e' xs' c' hu hu' hci hcj hbi hbj=>by
    have g:∀(i:Nat) u sz e xs,vals[i]?=some u->cs[i]?=some (.own sz e xs)->∃rid rn,cl[i]?=some (.sl rid rn)/\u=β rid/\(Af S rid).box.owned=true:=by
     intro i u sz e xs hu hci;have hjl:i<cl.length:=by rw[hGC.len];exact A5 hci
     have hcl:cl[i]?=some cl[i]:=P2 hjl;rcases hGC.at_ i _ _ hcl hci with⟨y,_,h1⟩|⟨rid,rn,i',n',sz',e',xs',h1,_,_⟩
     ·cases h1
     ·rw[h1]at hcl;obtain⟨_,sz2,e2,xs2,k2,k3,k4,_⟩:=hrow i rid rn hcl;rw[hu]at k3;exact⟨rid,rn,hcl,P3 k3,hro k4⟩
    obtain⟨r1,n1,g1,rfl,g2⟩:=g i u sz e xs hu hci;obtain⟨r2,n2,g3,rfl,g4⟩:=g j u' sz' e' xs' hu' hcj;have:=h.inj r1 r2 c' g2 g4 hbi hbj;subst this;exact hGB.inj i j r1 n1 n2 g1 g3⟩ (λc' hc' hx=>by
    rcases hc' with rfl|hc'
    ·exact hx.2.1 rfl
    ·exact hx.2.2 hc')
  (λi v y hv hy=>by
   rw[<-qJ]at hv;simp only[s9,ql]at hv
   cases hp:c.args.toList[i]? with
   | none=>rw[hp]at hv;cases hv
   | some p =>
     rw[hp]at hv;obtain rfl:a.eval p=v:=by simpa using hv
     exact(hargs i p y hp hy).mono (B0.of_sub hO))
 refine .inr (.inr ⟨f,_,hrun,this.mono λe' w' ⟨v,vals',h1,h2,hV',h4,h5⟩=>⟨v,h1,?_⟩⟩);have hsz2:=h2.size;obtain⟨T',hh'⟩:=hV'.cells
 have hvat:∀{j:Nat}{c:C},cs'[j]?=some c->∃u,vals'[j]?=some u:=λ{j c} hj=>by
  have:j<vals'.size:=by rw[hV'.size];exact A5 hj
  exact⟨vals'[j],by simp[this]⟩
 have hnd:((ub++[(id,B6.var l,n)]).map (·.1)).Nodup:=by
  rw[qx,sc];refine⟨hGB.nodup,by simp,λp hp q hq e=>?_⟩;obtain⟨y,hy,rfl⟩:=List.mem_map.1 hp;simp at hq;exact hni y hy (by rw[e,hq])
 have hubr:∀y∈ub,∃(j rn sz:Nat)(e:TypeId)(ys:List D)(u:Value),cl[j]?=some (.sl y.1 rn)/\cs'[j]?=some (.own sz e ys)/\vals'[j]?=some u/\y=(y.1,B6.row sz e ys,rn+1)/\pk cl y.1=some j:=by
  intro y hy;obtain⟨j,rn,sz,e,ys,g1,g2,g3⟩:=hGB.of y hy;obtain⟨u,hu⟩:=hvat g2;exact⟨j,rn,sz,e,ys,u,g1,g2,hu,g3,j8 g1 hGB.inj⟩
 let E:Nat->Option (B6×Nat×Value):=λi=>if i=id then some (.var l,n,β id)else match ub.find? (λy=>y.1==i)with
  | some y=>some (y.2.1,y.2.2,(((pk cl i).bind λj=>vals'[j]?).getD undef))
  | none=>none
 let β':Nat->Value:=λi=>match E i with|some (_,_,v)=>v|none=>β i
 have hEr:∀i B m v,E i=some (B,m,v)->(i=id/\B=.var l/\m=n/\v=β id)\/(i≠id/\∃(j rn sz:Nat)(e:TypeId)(ys:List D),cl[j]?=some (.sl i rn)/\cs'[j]?=some (.own sz e ys)/\vals'[j]?=some v/\B=.row sz e ys/\m=rn+1):=by
  intro i B m v hE;by_cases e:i=id
  ·simp only[E,qf e]at hE
   cases hE
   exact .inl ⟨e,rfl,rfl,rfl⟩
  ·simp only[E,qi e]at hE;split at hE
   ·rename_i y hy
    have hy:=Ri hy;have e2:y.1=i:=by simpa using hy.2
    obtain⟨j,rn,sz,e',ys,u,g1,g2,g3,g4,g5⟩:=hubr y hy.1;rw[e2]at g1 g5;rw[g5,g4]at hE;simp only[qd,g3,rt,Option.some.injEq,Prod.mk.injEq]at hE;obtain⟨rfl,rfl,rfl⟩:=hE;exact .inr ⟨e,j,rn,sz,e',ys,g1,g2,g3,rfl,rfl⟩
   ·cases hE
 have hEof:∀(j rid rn:Nat),cl[j]?=some (.sl rid rn)->∃B v,E rid=some (B,rn+1,v)/\vals'[j]?=some v:=by
  intro j rid rn hj;obtain⟨hne,_⟩:=hrow j rid rn hj;have hc':cs'[j]?=some (cs'[j]'(by rw[<-hGB.len];exact A5 hj)):=P2 _;have hl':l[j]?=some (l[j]'(by rw[hGB.len2];exact A5 hj)):=P2 _;rcases hGB.at_ j _ _ _ hj hc' hl' with⟨x,y,g1,_⟩|⟨rid',rn',sz,e,ys,g1,g2,g3,g4⟩
  ·cases g1
  ·cases g1
   obtain⟨u,hu⟩:=hvat hc'
   have hfind:ub.find? (λy=>y.1==rid)=some (rid,B6.row sz e ys,rn+1):=by
    cases hf:ub.find? (λy=>y.1==rid)with
    | none =>
      rw[su]at hf;exact absurd (by simp) (hf _ g4)
    | some y =>
      have hy:=Ri hf;have:y.1=rid:=by simpa using hy.2
      rw[Rq hGB.nodup hy.1 g4 this]
   refine⟨B6.row sz e ys,u,?_,hu⟩;simp only[E,qi hne,hfind,j8 hj hGB.inj,qd,hu,rt]
 have hS:∀i,Af (AZ (ub++[(id,.var l,n)]) S) i=match E i with|some (B,m,_)=>⟨(Af S i).av,B,m⟩|none=>Af S i:=by
  intro i
  rw[Rx _ S i (λy hy=>by
   rcases List.mem_append.1 hy with hy|hy
   ·obtain⟨j,rn,sz,e,ys,u,g1,_⟩:=hubr y hy;obtain⟨_,_,_,_,_,_,k4,_⟩:=hrow j y.1 rn g1;exact MZ k4 (by simp)
   ·simp at hy;subst hy;exact hid) hnd,List.find?_append]
  by_cases e:i=id
  ·subst e
   have:ub.find? (λy=>y.1==i)=none:=by
    rw[su];intro y hy hh;exact hni y hy (by simpa using hh)
   simp[E,this]
  ·simp only[E,qi e]
   cases hf:ub.find? (λy=>y.1==i)with
   | some y=>rfl
   | none =>
     have:([(id,B6.var l,n)]:Bx).find? (λy=>y.1==i)=none:=by
      rw[su];intro y hy hh;simp at hy;subst hy;exact e (by simpa using(by simpa using hh:id=i).symm)
     rw[this];rfl
 have hOS:∀c',OS β' X (AZ (ub++[(id,.var l,n)]) S) c'->(OS β X S c'/\c'≠b'/\¬FL vals cs c')\/c'=b'\/FL vals' cs' c':=by
  intro c' hc';by_cases eb:c'=b'
  ·exact .inr (.inl eb)
  by_cases eu:FL vals' cs' c'
  ·exact .inr (.inr eu)
  have key:OS β X S c'/\¬FL vals cs c':=by
   have hx:∀i,(Af S i).box.owned=true->Ac (β i)=some c'->E i=none->¬FL vals cs c':=by
    intro i hi hb hE hc;obtain⟨j,rid,rn,g1,g2,g3,_⟩:=hblk c' hc;have:=h.inj i rid c' hi g2 hb g3;subst this;obtain⟨B,v,hE',_⟩:=hEof j i rn g1;rw[hE]at hE';cases hE'
   rcases hc' with hc'|hc'|⟨i,hi1,hi2⟩
   ·refine⟨.inl hc',λhc=>?_⟩;obtain⟨j,rid,rn,_,g2,g3,_⟩:=hblk c' hc;have h0:=h.o₀ c' hc';rcases(h.mine rid c' g2 g3).1 with g4|g4
    ·omega
    ·exact h0.2 g4
   ·refine⟨.inr (.inl hc'),λhc=>?_⟩;obtain⟨j,rid,rn,_,g2,g3,_⟩:=hblk c' hc;exact(h.mine rid c' g2 g3).2 hc'
   ·rw[hS]at hi1;have hi2:Ac (match E i with|some (_,_,v)=>v|none=>β i)=some c':=hi2
    cases hE:E i with
    | none =>
      rw[hE]at hi1 hi2;exact⟨.inr (.inr ⟨i,hi1,hi2⟩),hx i hi1 hi2 hE⟩
    | some q =>
      obtain⟨B,m,v⟩:=q;rw[hE]at hi1 hi2;simp only at hi2;rcases hEr i B m v hE with⟨_,_,_,rfl⟩|⟨_,j,rn,sz,e,ys,g1,g2,g3,g4,_⟩
      ·rw[hbb]at hi2;cases hi2;exact(eb rfl).elim
      ·exact(eu ⟨j,v,sz,e,ys,g3,g2,hi2⟩).elim
  exact .inl ⟨key.1,eb,key.2⟩
 have hsim:SimB X G β' (AZ (ub++[(id,.var l,n)]) S) a w':=by
  refine h.multi E hS (λi=>rfl) (Cc _ _) hsz2 ?_ (λi B m v hE=>?_) (λc' hc' hk=>?_) (λi B m v c' hE hB hbv=>?_) (λi j B m v B2 m2 v2 c' hE hE2 hB hB2 hbv hbv2=>?_) (λhkept hvv i B m v hE=>?_)
  ·refine h2.weaken h.hbase λq hq hm hq'=>hm ?_;rcases hq' with rfl|hq'
   ·exact((h.mine id q ho1 hbb).1).resolve_left (by omega)
   ·obtain⟨j,rid,rn,_,g2,g3,_⟩:=hblk q hq';exact((h.mine rid q g2 g3).1).resolve_left (by omega)
  ·rcases hEr i B m v hE with⟨rfl,_,rfl,rfl⟩|⟨_,j,rn,sz,e,ys,g1,_,_,_,rfl⟩
   ·exact .inr ⟨hver.symm,rfl,by rw[hbx];simp⟩
   ·obtain⟨_,_,_,_,_,_,_,k5⟩:=hrow j i rn g1;exact .inl (by omega)
  ·refine h2.block c' hc' λhm=>?_;rcases hm with rfl|hm
   ·exact hk id (.var l) n (β id) (by simp[E]) ho1 hbb
   ·obtain⟨j,rid,rn,g1,g2,g3,_⟩:=hblk c' hm;obtain⟨B,v,hE,_⟩:=hEof j rid rn g1;exact hk rid B (rn+1) v hE g2 g3
  ·rcases hEr i B m v hE with⟨rfl,rfl,rfl,rfl⟩|⟨_,j,rn,sz,e,ys,g1,g2,g3,rfl,rfl⟩
   ·exact .inl ⟨i,_,_,_,hE,ho1,hbv⟩
   ·rcases h4 c' ⟨j,v,sz,e,ys,g3,g2,hbv⟩with g6|g6
    ·obtain⟨j2,rid,rn2,g7,g8,g9,_⟩:=hblk c' g6;obtain⟨B2,v2,hE2,_⟩:=hEof j2 rid rn2 g7;exact .inl ⟨rid,B2,_,v2,hE2,g8,g9⟩
    ·exact .inr g6
  ·rcases hEr i B m v hE with⟨rfl,rfl,rfl,rfl⟩|⟨_,j1,rn,sz,e,ys,g1,g2,g3,rfl,rfl⟩<;>rcases hEr j B2 m2 v2 hE2 with⟨rfl,rfl,rfl,rfl⟩|⟨_,j2,rn2,sz2,e2,ys2,g1',g2',g3',rfl,rfl⟩
   ·rfl
   ·rw[hbb]at hbv;cases hbv;exact absurd rfl (hV'.ne b' ⟨j2,v2,sz2,e2,ys2,g3',g2',hbv2⟩)
   ·rw[hbb]at hbv2;cases hbv2;exact absurd rfl (hV'.ne b' ⟨j1,v,sz,e,ys,g3,g2,hbv⟩)
   ·have:=hV'.inj j1 j2 v v2 _ _ _ _ _ _ c' g3 g3' g2 g2' hbv hbv2;subst this;rw[g1]at g1'
    cases g1';rfl
  ·rcases hEr i B m v hE with⟨rfl,rfl,rfl,rfl⟩|⟨_,j,rn,sz,e,ys,g1,g2,g3,rfl,rfl⟩
   ·have hβi:β' i=β i:=by show(match E i with|some (_,_,v)=>v|none=>β i)=_;rw[hE]
    refine⟨b',vals',T',by rw[hβi];exact hβ,hh',by rw[hV'.size,<-hGB.len,hGB.len2],λj v c' hv hc'=>?_⟩;have hjl:j<cl.length:=by rw[<-hGB.len2];exact A5 hc'
    have hcl:cl[j]?=some cl[j]:=P2 hjl;have hcs':cs'[j]?=some (cs'[j]'(by rw[<-hGB.len];exact hjl)):=P2 _;have hg:=hV'.rep j v _ hv hcs';rcases hGB.at_ j _ _ _ hcl hcs' hc' with⟨x,y,g1,g2,rfl⟩|⟨rid,rn,sz,e,ys,g1,g2,rfl,g4⟩
    ·rw[g2]at hg;exact⟨hg.1.mono (B0.of_sub hOS),hg.2⟩
    ·rw[g1]at hcl;obtain⟨B,v',hE',hv'⟩:=hEof j rid rn hcl;rw[hv]at hv'
     cases hv'
     have hvr:AG (AZ (ub++[(i,.var l,m)]) S) rid=rn+1:=by simp only[AG,hS,hE']
     exact⟨by rw[hvr];exact qb _,λ_=>by show _=(match E rid with|some (_,_,v)=>v|none=>β rid);rw[hE']⟩
   ·have hβi:β' i=v:=by show(match E i with|some (_,_,v)=>v|none=>β i)=_;rw[hE]
    obtain⟨g4,g5,rv,g6,g7⟩:=hV'.rep j v _ g3 g2;exact⟨g4,g5,rv,by rw[hβi];exact g6,g7.mono (B0.of_sub hOS)⟩
 exact⟨β',hsim,Aw.mono (B0.of_sub hOS) h5,rfl⟩
end
end Go.Abs
